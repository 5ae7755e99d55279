/-
  Chapter 20's document, the parts that chapter 21's statements ask: live, has, sized, feeds. No condition.
-/
/-
  Chapter 20's document: does one node end ahead of another one? No condition.
-/
import Derived.Test.YtoeaglpmkjoenaaGreatQArnQ
import Derived.Test.YtoeaglpmkjoenaaGreatQPofM
import Derived.Test.YtoeaglpmkjoenaaGreatQSrtW
import Derived.Test.YtoeaglpmkjoenaaGreatQQueue
set_option linter.unusedSimpArgs false
set_option linter.unusedVariables false
namespace Go.Proofs.YtoeaglpmkjoenaaGreat
open Go.RowKit
open Rep (rep)
set_option maxRecDepth 100000 in
set_option maxHeartbeats 8000000 in
theorem rlive_any20 (cs:List Value) (p:PlanD) (i:Int) (w:World) (hr:rep w (old w.heap.size) cs p) :
  Calls Tryz.prog 45 #[.agg cs.toArray,.int .i64 i] w fun e w'=>e = .returned (.bool (liveB p i))∧Below w.heap.size w w':=by
 obtain ⟨A1,k1,A2,k2,A3,k3,A4,k4,A5,k5,A6,k6,A7,k7,hcs,-,-,-,-,-,-,r7⟩:=open_PlanD hr
 have h6:cs[6]? = some (.slice A7 p.live.length k7):=by rw [hcs];rfl
 obtain ⟨n7,n7'⟩:=slice_bnd r7
 obtain ⟨A',c',xs,hv,-,-,-,hl,hch⟩:=open_slice r7
 injection hv with hva hvb hvc
 subst hva
 have HL:=Lib.hid (And.intro hl hch)
 clear hcs r7 hvb hvc hl hch
 go_enter Tryz.func45,Tryz.ntmps45
 go_wp2_with (with_reducible refine wpList_box_row rfl 30 _ rfl cs rfl ?_;have hX:=plan_start hr;generalize World.alloc _ _ = W0 at hX ⊢;have HX:=Lib.hid hX;clear hX hr;refine halt ?_)
 unfold Halt
 have c6:=HX.out.cell h6
 have HE:Hid (liveB p i = (decide (0 ≤ i) && p.live.getD i.toNat false)):=Lib.hid rfl
 by_cases h0:i ≥ 0
 ·obtain ⟨j,rfl⟩:∃ j:Nat,i = (j:Int):=⟨i.toNat,by omega⟩
  by_cases hj:(j:Int) < (p.live.length:Int)
  ·have hjn:j < p.live.length:=by omega
   obtain ⟨b,hb⟩:∃ b,p.live[j]? = some b:=⟨_,List.getElem?_eq_getElem hjn⟩
   obtain ⟨g,o,xc,rfl,hg,hrz,hcell⟩:=elem_at HL.out.1 HL.out.2 (by decide) hb
   have kc:W0.cell? ⟨g,o + j,none⟩ = some (.bool b):=(HX.out.below.cell (p:=⟨g,o + j,none⟩) hg).trans (cell_of_elem (α:=Bool) rfl hcell (by rw [hrz];rfl))
   have hE:liveB p (j:Int) = b:=by rw [HE.out,decide_eq_true h0,Int.toNat_natCast,List.getD_eq_getElem?_getD,hb];rfl
   replace HE:=Lib.hid hE
   clear hE hrz hcell hb hg
   go_wp2
   go_ret
   exact ⟨by rw [HE.out];rfl,HX.out.below⟩
  ·have hE:liveB p (j:Int) = false:=by rw [HE.out,Int.toNat_natCast,List.getD_eq_getElem?_getD,List.getElem?_eq_none (by omega)];simp
   replace HE:=Lib.hid hE
   clear hE
   go_wp2
   go_ret
   exact ⟨by rw [HE.out];rfl,HX.out.below⟩
 ·have hE:liveB p i = false:=by rw [HE.out,decide_eq_false (by omega)];rfl
  replace HE:=Lib.hid hE
  clear hE
  go_wp2
  go_ret
  exact ⟨by rw [HE.out];rfl,HX.out.below⟩
set_option maxRecDepth 100000 in
set_option maxHeartbeats 4000000 in
theorem rhas_any20 (v:Value) (l:List Int) (x:Int) (w:World) (hr:rep w (old w.heap.size) [v] l) :
  Calls Tryz.prog 43 #[v,.int .i64 x] w fun e w'=>e = .returned (.bool (l.contains x))∧w' = w:=by
 obtain ⟨A1,k1,xs,rfl,hn1,hc1,-,hl1,hch1⟩:=open_slice hr
 have HL:=Lib.hid (And.intro hl1 hch1)
 clear hr hl1 hch1
 go_enter Tryz.func43,Tryz.ntmps43
 go_wp2_with fail
 go_loopw [5] (fun i wr=>∃ (pre post:List Int),l = pre++post∧i = .int .i64 pre.length∧Aside (pre.contains x = false)∧wr = w) (fun i _=>l.length - (intOf i).toNat)
 case atStart=>exact ⟨[],l,rfl,rfl,rfl,rfl⟩
 case round =>
  obtain ⟨pre,post,hpp,rfl,hno,rfl⟩:=hrel
  have HNO:=Lib.hid hno
  clear hno
  cases post with
  | cons z post =>
   obtain ⟨hz,hlt,hpp',hpl⟩:=split_at hpp
   obtain ⟨b1,o1,xc1,rfl,-,hrz1,hcell1⟩:=elem_at HL.out.1 HL.out.2 (by decide) hz
   obtain ⟨rfl,-⟩:=hrz1
   have k4:wr.cell? ⟨b1,o1 + pre.length,none⟩ = some (.int .i64 z):=cell_of_elem (α:=Int) rfl hcell1 rfl
   have H:=Lib.hid (And.intro hpp' (And.intro hpl hpp))
   have hk0:(0:Int) ≤ (pre.length:Int):=Int.natCast_nonneg _
   have hk1:(pre.length:Int) < (l.length:Int):=by omega
   clear hpp hpp' hpl hz hcell1
   by_cases hzx:z = x
   ·subst hzx
    go_wp2
    go_ret
    refine ⟨by rw [H.out.2.2];simp,?_⟩
    first | rfl | trivial
   ·have HZ:=Lib.hid hzx
    go_wp2
    go_roundw
    case rel=>exact ⟨pre++[z],post,H.out.1,by rw [H.out.2.1];go_num,by
     have h:=HNO.out
     have h2:=HZ.out
     show (pre++[z]).contains x = false
     rw [List.contains_eq_any_beq] at h ⊢
     rw [List.any_append]
     have h':pre.any (fun a=>x == a) = false:=h
     simp only [h',Bool.false_or,List.any_cons,List.any_nil,Bool.or_false]
     exact beq_eq_false_iff_ne.2 (fun e=>h2 e.symm),by first | rfl | trivial⟩
    case measure=>simp [intOf];omega
  | nil =>
   obtain ⟨hge,hpl⟩:=split_end hpp
   have HP:=Lib.hid hpl
   clear hpp hpl
   go_wp2
   go_ret
   have h:=HNO.out
   rw [HP.out] at h
   refine ⟨by rw [show l.contains x = false from h];rfl,?_⟩
   first | rfl | trivial
set_option maxRecDepth 100000 in
set_option maxHeartbeats 8000000 in
theorem rsized_any20 (cs:List Value) (p:PlanD) (v:Int) (w:World) (hr:rep w (old w.heap.size) cs p) :
  Calls Tryz.prog 22 #[.agg cs.toArray,.int .i64 v] w (BoolP w (SizB p v)):=by
 obtain ⟨A1,k1,A2,k2,A3,k3,A4,k4,A5,k5,A6,k6,A7,k7,hcs,-,-,-,-,-,r6,-⟩:=open_PlanD hr
 obtain ⟨n6,n6'⟩:=slice_bnd r6
 have h5:cs[5]? = some (.slice A6 p.size.length k6):=by rw [hcs];rfl
 have HR:=Lib.hid hr
 have HH:=Lib.hid (And.intro h5 r6)
 clear h5 hr hcs r6
 go_enter Tryz.func22,Tryz.ntmps22
 go_wp2_with (with_reducible refine wpList_box_row rfl 30 _ rfl cs rfl ?_;have hX:=plan_start HR.out;generalize World.alloc _ _ = W0 at hX ⊢;have HX:=Lib.hid hX;clear hX;refine halt ?_)
 unfold Halt
 have c5:=HX.out.cell HH.out.1
 by_cases g1:v ≥ 0
 ·by_cases g2:v < (p.size.length:Int)
  ·obtain ⟨j,rfl⟩:∃ j:Nat,v = (j:Int):=⟨v.toNat,by omega⟩
   obtain ⟨s,hs⟩:∃ s,p.size[j]? = some s:=⟨_,List.getElem?_eq_getElem (by omega)⟩
   obtain ⟨s64,b,o,rfl,hb,kz⟩:=int_at HH.out.2 hs
   have kz':W0.cell? ⟨b,o + j,none⟩ = some (.int .i64 s):=(HX.out.below.cell (p:=⟨b,o + j,none⟩) hb).trans kz
   have HS:=Lib.hid (show SizedD p (j:Int) ↔ ¬ s = 0 from ⟨fun ⟨_,_,s',e,h⟩=>by rw [Int.toNat_natCast,hs] at e;cases e;exact h,fun h=>⟨g1,g2,s,by rw [Int.toNat_natCast];exact hs,h⟩⟩)
   clear hs s64 hb kz
   go_wp2
   go_ret
   refine ⟨s != 0,rfl,HX.out.below,⟨fun e=>HS.out.2 (by simpa using e),fun e=>by simpa using HS.out.1 e⟩⟩
  ·have HN:=Lib.hid (show ¬ SizedD p v from fun e=>g2 e.2.1)
   go_wp2
   go_ret
   exact ⟨false,rfl,HX.out.below,sizB_no HN.out⟩
 ·have HN:=Lib.hid (show ¬ SizedD p v from fun e=>g1 e.1)
  go_wp2
  go_ret
  exact ⟨false,rfl,HX.out.below,sizB_no HN.out⟩
theorem PlanI.old {w W:World} {cs:List Value} {p:PlanD} (h:PlanI w cs p W) {q:Addr} {v:Value} (hq:q.block < w.heap.size) (hv:w.cell? q = some v):W.cell? q = some v:=(h.below.cell hq).trans hv
theorem plan_at {w:World} {Z:Zone} {cs:List Value} {p:PlanD} (h:rep w Z cs p):∃ A2 k2 A5 k5 A7 k7,cs[1]? = some (.slice A2 p.graph.nodes.length k2)∧cs[4]? = some (.slice A5 p.tasks.length k5)∧cs[6]? = some (.slice A7 p.live.length k7)∧rep w Z [.slice A2 p.graph.nodes.length k2] p.graph.nodes∧rep w Z [.slice A5 p.tasks.length k5] p.tasks∧rep w Z [.slice A7 p.live.length k7] p.live:=by
 obtain ⟨A1,k1,A2,k2,A3,k3,A4,k4,A5,k5,A6,k6,A7,k7,hcs,r1,r2,r3,r4,r5,r6,r7⟩:=open_PlanD h
 exact ⟨A2,k2,A5,k5,A7,k7,by rw [hcs];rfl,by rw [hcs];rfl,by rw [hcs];rfl,r2,r5,r7⟩
theorem PlanI.dat {α:Type} [Rep α] {w W:World} {cs:List Value} {p:PlanD} (h:PlanI w cs p W) {ds:List Value} {a:α} (hr:rep w (Go.Proofs.YtoeaglpmkjoenaaGreat.old w.heap.size) ds a):rep W (Go.Proofs.YtoeaglpmkjoenaaGreat.old W.heap.size) ds a:=h.box.keeps' hr
def feedsB (za zb:GNodeD):Bool:=za.outs.any fun x=>zb.ins.contains x
set_option maxRecDepth 100000 in
set_option maxHeartbeats 8000000 in
theorem feeds_any20 (cs:List Value) (p:PlanD) (a b:Nat) (za zb:GNodeD) (w:World) (hr:rep w (old w.heap.size) cs p) (ha:p.graph.nodes[a]? = some za) (hb:p.graph.nodes[b]? = some zb) :
  Calls Tryz.prog 63 #[.agg cs.toArray,.int .i64 (a:Int),.int .i64 (b:Int)] w fun e w'=>e = .returned (.bool (feedsB za zb))∧Below w.heap.size w w':=by
 obtain ⟨A2,k2,A5,k5,A7,k7,c1,-,-,r2,-,-⟩:=plan_at hr
 obtain ⟨n2,n2'⟩:=slice_bnd r2
 obtain ⟨bn,fn,zac,rfl,hbn,hata,hrza⟩:=elem_node r2 ha
 obtain ⟨bn',fn',zbc,hA',-,hatb,hrzb⟩:=elem_node r2 hb
 injection hA' with hA'
 injection hA' with h1 h2
 subst h1 h2
 obtain ⟨ssa,Ia,ia,Oa,oa,-,-,za38,-,-,-,zo,-⟩:=gnode_facts hrza
 obtain ⟨ssb,Ib,ib,Ob,ob,-,zb37,-,-,-,zi,-,-⟩:=gnode_facts hrzb
 obtain ⟨no1,no2⟩:=slice_bnd zo
 have ca:=hata 38 _ za38
 have HB:=Lib.hid (And.intro (show bn < w.heap.size from hbn) (And.intro (hatb 37 _ zb37) (And.intro ca zi)))
 have HC:=Lib.hid c1
 have HR:=Lib.hid hr
 have HL:=Lib.hid (And.intro (List.getElem?_eq_some_iff.1 ha).1 (List.getElem?_eq_some_iff.1 hb).1)
 have HZ:=Lib.hid zo
 have hal:(a:Int) < (p.graph.nodes.length:Int):=by have:=HL.out.1;omega
 clear hr ha hb c1 r2 hata hatb hrza hrzb za38 zb37 zi zo ca hbn
 obtain ⟨no,hno⟩:∃ no,za.outs.length = no:=⟨_,rfl⟩
 have HNO:=Lib.hid hno
 go_enter Tryz.func63,Tryz.ntmps63
 go_wp2_with (with_reducible refine wpList_box_row rfl 30 _ rfl cs rfl ?_;have hX:=plan_start HR.out;generalize World.alloc _ _ = W0 at hX ⊢;have HX:=Lib.hid hX;clear hX;refine halt ?_)
 unfold Halt
 have ha0:(0:Int) ≤ (a:Int):=Int.natCast_nonneg _
 go_wp2_with fail
 rw [hno] at no1
 clear hno
 go_loopw [7] (fun i wr=>∃ (d:Nat),i = .int .i64 d∧d ≤ no∧Hid ((za.outs.take d).any (fun x=>zb.ins.contains x) = false∧PlanI w cs p wr)) (fun i _=>no - (intOf i).toNat)
 case atStart=>exact ⟨0,rfl,Nat.zero_le _,Lib.hid ⟨by simp,HX.out⟩⟩
 case round =>
  clear HX
  obtain ⟨d,rfl,hd,HS⟩:=hrel
  obtain ⟨wx,rfl⟩:∃ wx,wx = wr:=⟨_,rfl⟩
  have HX:=Lib.hid HS.out.2
  have c1:=HX.out.cell HC.out
  have co:=HX.out.old HB.out.1 HB.out.2.2.1
  rw [HNO.out] at co
  have hd0:(0:Int) ≤ (d:Int):=Int.natCast_nonneg _
  by_cases hlt:d < no
  ·have hlt':(d:Int) < (no:Int):=by omega
   obtain ⟨x,hx⟩:∃ x,za.outs[d]? = some x:=⟨_,List.getElem?_eq_getElem (by rw [HNO.out];exact hlt)⟩
   obtain ⟨-,bo,fo,rfl,hbo,kx⟩:=int_at HZ.out hx
   have HD:=Lib.hid (And.intro (show d < za.outs.length by rw [HNO.out];exact hlt) (And.intro (show bo < w.heap.size from hbo) kx))
   have HXX:=Lib.hid hx
   clear hx hbo kx
   go_upto_region 4 with (fail)
   refine wp_region_held_drew (S:=fun W=>PlanI w cs p W) (by kernel_rfl) (HX.out.next ((Below.refl _ _).drew)) (fun hHeld=>?_)
   generalize World.drew _ = V0 at hHeld ⊢
   refine tk0 0 (some 20) (v:=.pointer (some ⟨w.heap.size,0,none⟩)) rfl hHeld ?_
   refine tk0 1 (some 21) (v:=.pointer (some ⟨w.heap.size,1,none⟩)) rfl hHeld ?_
   refine tk9 2 (some 22) (v:=.slice (some ⟨bn,fn,none⟩) p.graph.nodes.length k2) rfl (yields_load_one9 (by kernel_rfl) _ _ rfl (w.heap.size) (1) (by kernel_rfl) _ _ Tryz.underlying23 rfl (fun _ h=>h.cell HC.out)) hHeld ?_
   refine tk0 3 (some 23) (v:=.int .i64 (b:Int)) rfl hHeld ?_
   refine tk9 4 (some 24) (v:=.pointer (some ⟨bn,fn + b * 40,none⟩)) rfl (yields_indexI (by kernel_rfl) _ _ _ rfl bn fn p.graph.nodes.length k2 b 40 (b:Int) (by kernel_rfl) (by kernel_rfl) Tryz.underlying23 (by kernel_rfl) rfl HL.out.2) hHeld ?_
   refine tk0 5 (some 25) (v:=.pointer (some ⟨bn,fn + b * 40 + 37,none⟩)) rfl hHeld ?_
   refine tk9 6 (some 26) (v:=.slice Ib zb.ins.length ib) rfl (yields_load_one9 (by kernel_rfl) _ _ rfl bn (fn + b * 40 + 37) (by kernel_rfl) _ _ Tryz.underlying24 rfl (fun _ h=>h.old HB.out.1 HB.out.2.1)) hHeld ?_
   refine tk0 7 (some 27) (v:=.pointer (some ⟨w.heap.size,0,none⟩)) rfl hHeld ?_
   refine tk0 8 (some 28) (v:=.pointer (some ⟨w.heap.size,1,none⟩)) rfl hHeld ?_
   refine tk9 9 (some 29) (v:=.slice (some ⟨bn,fn,none⟩) p.graph.nodes.length k2) rfl (yields_load_one9 (by kernel_rfl) _ _ rfl (w.heap.size) (1) (by kernel_rfl) _ _ Tryz.underlying23 rfl (fun _ h=>h.cell HC.out)) hHeld ?_
   refine tk0 10 (some 30) (v:=.int .i64 (a:Int)) rfl hHeld ?_
   refine tk9 11 (some 31) (v:=.pointer (some ⟨bn,fn + a * 40,none⟩)) rfl (yields_indexI (by kernel_rfl) _ _ _ rfl bn fn p.graph.nodes.length k2 a 40 (a:Int) (by kernel_rfl) (by kernel_rfl) Tryz.underlying23 (by kernel_rfl) rfl HL.out.1) hHeld ?_
   refine tk0 12 (some 32) (v:=.pointer (some ⟨bn,fn + a * 40 + 38,none⟩)) rfl hHeld ?_
   refine tk9 13 (some 33) (v:=.slice (some ⟨bo,fo,none⟩) za.outs.length oa) rfl (yields_load_one9 (by kernel_rfl) _ _ rfl bn (fn + a * 40 + 38) (by kernel_rfl) _ _ Tryz.underlying24 rfl (fun _ h=>h.old HB.out.1 HB.out.2.2.1)) hHeld ?_
   refine tk0 14 (some 34) (v:=.int .i64 (d:Int)) rfl hHeld ?_
   refine tk9 15 (some 35) (v:=.pointer (some ⟨bo,fo + d,none⟩)) rfl (yields_idx (by kernel_rfl) _ _ rfl bo fo (za.outs.length) oa d (by kernel_rfl) (by kernel_rfl) HD.out.1) hHeld ?_
   refine tk9 16 (some 36) (v:=.int .i64 x) rfl (yields_load_one9 (by kernel_rfl) _ _ rfl bo (fo + d) (by kernel_rfl) _ _ Tryz.underlying3 rfl (fun _ h=>h.old HD.out.2.1 HD.out.2.2)) hHeld ?_
   obtain ⟨r,hr⟩:∃ r,zb.ins.contains x = r:=⟨_,rfl⟩
   have hca:=rhas_any20 (.slice Ib zb.ins.length ib) zb.ins x V0 (hHeld.dat HB.out.2.2.2)
   rw [hr] at hca
   have HRR:=Lib.hid hr
   clear hr
   refine call_d9 17 (some 37) rfl (by kernel_rfl) (by kernel_rfl) (by kernel_rfl) 43 _ _ rfl #[.slice Ib zb.ins.length ib,.int .i64 x] (by kernel_rfl) (fun w=>by kernel_rfl) ?_
   refine (hca).mono ?_
   rintro e V1 ⟨rfl,rfl⟩
   refine ⟨_,rfl,hHeld,?_⟩
   refine wpAnyH_done (by kernel_rfl) ?_ _
   have HX1:=Lib.hid hHeld
   clear hHeld
   simp [Act.put]
   clear hca c1 co
   cases r with
   | true =>
    go_wp2
    go_ret
    refine ⟨congrArg (fun b=>Ending.returned (Value.bool b)) ?_,HX1.out.below⟩
    unfold feedsB
    exact (List.any_eq_true.2 ⟨x,List.mem_of_getElem? HXX.out,HRR.out⟩).symm
   | false =>
    go_wp2
    go_roundw
    case rel =>
     refine ⟨d + 1,by go_num,by omega,Lib.hid ⟨?_,HX1.out⟩⟩
     rw [List.take_add_one,HXX.out,Option.toList_some,List.any_append,HS.out.1]
     simpa using HRR.out
    case measure=>simp [intOf];omega
  ·have hlt':¬ (d:Int) < (no:Int):=by omega
   have HF:=Lib.hid (show feedsB za zb = false by
    have h:=HS.out.1
    rw [List.take_of_length_le (by rw [HNO.out];omega)] at h
    exact h)
   go_wp2
   go_ret
   exact ⟨by rw [HF.out];rfl,HX.out.below⟩
end Go.Proofs.YtoeaglpmkjoenaaGreat
set_option linter.unusedSimpArgs false
set_option linter.unusedVariables false
namespace Go.Proofs.YtoeaglpmkjoenaaGreat
open Go.RowKit
open Rep (rep)
structure StkB (p:PlanD) (a:Nat) (bs:List Bool) (td:List Nat):Prop where
 len:bs.length = p.graph.nodes.length
 lt:∀ z ∈ td,z < p.graph.nodes.length
 from_:∀ z ∈ td,z = a ∨ Behind p a z
 snd:∀ z,HasB bs z→Behind p a z
 done:∀ z,(z = a ∨ HasB bs z)→z ∈ td ∨ ∀ y,Edge p z y→HasB bs y
structure StkC (p:PlanD) (a:Nat) (bs:List Bool) (td:List Nat) (x d:Nat):Prop where
 len:bs.length = p.graph.nodes.length
 lt:∀ z ∈ td,z < p.graph.nodes.length
 from_:∀ z ∈ td,z = a ∨ Behind p a z
 top:x = a ∨ Behind p a x
 snd:∀ z,HasB bs z→Behind p a z
 done:∀ z,(z = a ∨ HasB bs z)→z ≠ x→z ∈ td ∨ ∀ y,Edge p z y→HasB bs y
 part:∀ y,y < d→Edge p x y→HasB bs y
theorem StkB.start (p:PlanD) (a:Nat) (ha:a < p.graph.nodes.length):StkB p a (List.replicate p.graph.nodes.length false) [a]:=by
 refine ⟨List.length_replicate ..,by simpa using ha,fun z hz=>.inl (List.mem_singleton.1 hz),fun z hz=>?_,?_⟩
 ·unfold HasB at hz
  rw [List.getElem?_replicate] at hz
  split at hz <;> simp at hz
 ·rintro z (rfl | h)
  ·exact .inl (List.mem_singleton.2 rfl)
  ·unfold HasB at h
   rw [List.getElem?_replicate] at h
   split at h <;> simp at h
theorem StkB.pop {p:PlanD} {a x:Nat} {bs:List Bool} {td:List Nat} (h:StkB p a bs (td++[x])):StkC p a bs td x 0:=by
 refine ⟨h.len,fun z hz=>h.lt z (List.mem_append_left _ hz),fun z hz=>h.from_ z (List.mem_append_left _ hz),h.from_ x (List.mem_append_right _ (List.mem_singleton.2 rfl)),h.snd,fun z hz hne=>?_,fun y hy=>by omega⟩
 rcases h.done z hz with h1 | h1
 ·rcases List.mem_append.1 h1 with h2 | h2
  ·exact .inl h2
  ·exact (hne (List.mem_singleton.1 h2)).elim
 ·exact .inr h1
theorem StkC.skip {p:PlanD} {a x d:Nat} {bs:List Bool} {td:List Nat} (h:StkC p a bs td x d) (hs:Edge p x d→HasB bs d):StkC p a bs td x (d + 1):=by
 refine ⟨h.len,h.lt,h.from_,h.top,h.snd,h.done,fun y hy he=>?_⟩
 by_cases e:y = d
 ·subst e;exact hs he
 ·exact h.part y (by omega) he
theorem StkC.push {p:PlanD} {a x d:Nat} {bs:List Bool} {td:List Nat} (h:StkC p a bs td x d) (he:Edge p x d) (hl:d < p.graph.nodes.length):StkC p a (bs.set d true) (td++[d]) x (d + 1):=by
 have hb:Behind p a d:=by
  rcases h.top with e | e
  ·subst e;exact .one he
  ·exact .step e he
 have mono:∀ z,HasB bs z→HasB (bs.set d true) z:=fun z hz=>hasB_set.2 (.inl hz)
 have hny:HasB (bs.set d true) d:=hasB_set.2 (.inr ⟨by rw [h.len];exact hl,rfl⟩)
 refine ⟨by rw [List.length_set];exact h.len,fun z hz=>?_,fun z hz=>?_,h.top,fun z hz=>?_,fun z hz hne=>?_,fun y hy hy2=>?_⟩
 ·rcases List.mem_append.1 hz with h1 | h1
  ·exact h.lt z h1
  ·rw [List.mem_singleton.1 h1];exact hl
 ·rcases List.mem_append.1 hz with h1 | h1
  ·exact h.from_ z h1
  ·rw [List.mem_singleton.1 h1];exact .inr hb
 ·rcases hasB_set.1 hz with h1 | ⟨-,rfl⟩
  ·exact h.snd z h1
  ·exact hb
 ·by_cases e:z = d
  ·exact .inl (List.mem_append_right _ (List.mem_singleton.2 e))
  ·have hz':z = a ∨ HasB bs z:=hz.imp_right fun h1=>(hasB_set.1 h1).resolve_right fun h2=>e h2.2.symm
   rcases h.done z hz' hne with h1 | h1
   ·exact .inl (List.mem_append_left _ h1)
   ·exact .inr fun u hu=>mono _ (h1 u hu)
 ·by_cases e:y = d
  ·subst e;exact hny
  ·exact mono _ (h.part y (by omega) hy2)
theorem StkC.fin {p:PlanD} {a x d:Nat} {bs:List Bool} {td:List Nat} (h:StkC p a bs td x d) (hd:p.graph.nodes.length ≤ d):StkB p a bs td:=by
 refine ⟨h.len,h.lt,h.from_,h.snd,fun z hz=>?_⟩
 by_cases e:z = x
 ·subst e
  exact .inr fun u hu=>h.part u (Nat.lt_of_lt_of_le hu.lt_len hd) hu
 ·exact h.done z hz e
theorem StkB.all {p:PlanD} {a:Nat} {bs:List Bool} (h:StkB p a bs []) {b:Nat}:HasB bs b ↔ Behind p a b:=by
 refine ⟨h.snd b,fun hw=>?_⟩
 induction hw with
 | one e =>
  rcases h.done a (.inl rfl) with h1 | h1
  ·cases h1
  ·exact h1 _ e
 | step _ e ih =>
  rcases h.done _ (.inr ih) with h1 | h1
  ·cases h1
  ·exact h1 _ e
theorem edge_feeds {p:PlanD} {x y:Nat} {zx zy:GNodeD} (hx:p.graph.nodes[x]? = some zx) (hy:p.graph.nodes[y]? = some zy):Edge p x y ↔ liveB p (y:Int) = true∧feedsB zx zy = true:=by
 unfold Edge feedsB gOuts gIns
 rw [hx,hy,liveB_nat,List.any_eq_true]
 simp
theorem countF_set:∀ (bs:List Bool) (y:Nat),bs[y]? = some false→(bs.set y true).count false + 1 = bs.count false
 | [],y,h=>by simp at h
 | b :: bs,0,h=>by
  simp at h
  subst h
  simp
 | b :: bs,y + 1,h=>by
  have ih:=countF_set bs y (by simpa using h)
  rw [List.set_cons_succ,List.count_cons,List.count_cons]
  omega
theorem QRow.last {w:World} {base:Nat} {v:Value} {x:Int} {l:List Int} (h:QRow w base v (l++[x])):∃ (g off cap:Nat),v = .slice (some ⟨g,off,none⟩) (l.length + 1) cap∧l.length + 1 ≤ cap∧cap ≤ 9223372036854775807∧w.cell? ⟨g,off + l.length,none⟩ = some (.int .i64 x)∧QRow w base (.slice (some ⟨g,off,none⟩) l.length cap) l:=by
 obtain ⟨g,off,cap,cur,hv,h1,h2,h3,h4,h5,h6⟩:=h
 rw [List.length_append,List.length_singleton] at h3 hv
 obtain ⟨hx,-⟩:=h6 l.length x (by rw [List.getElem?_append_right (Nat.le_refl _),Nat.sub_self];rfl)
 exact ⟨g,off,cap,hv,h3,h4,(cell_of_row _ _ _ _ _ _ h2).trans hx,g,off,cap,cur,rfl,h1,h2,by omega,h4,h5,fun j y hj=>h6 j y (by rw [List.getElem?_append_left (List.getElem?_eq_some_iff.1 hj).1];exact hj)⟩
structure RchI (w:World) (cs:List Value) (p:PlanD) (sb:Nat) (bs:List Bool) (v:Value) (td:List Nat) (W:World):Prop where
 box:PlanI w cs p W
 seen:W.heap[sb]? = some (.cells (bs.map Value.bool).toArray 4 (0,0))
 todo:QRow W (w.heap.size + 1) v (td.map fun (x:Nat)=>(x:Int))
 ge:w.heap.size < sb
section
variable {w W W':World} {cs:List Value} {p:PlanD} {sb:Nat} {bs:List Bool} {v v':Value} {td:List Nat}
theorem RchI.lt (h:RchI w cs p sb bs v td W):sb < W.heap.size:=(Array.getElem?_eq_some_iff.1 h.seen).1
theorem RchI.next (h:RchI w cs p sb bs v td W) (hb:Below W.heap.size W W'):RchI w cs p sb bs v td W':=⟨h.box.next hb,(hb.block _ h.lt).trans h.seen,h.todo.below hb,h.ge⟩
theorem RchI.with (h:RchI w cs p sb bs v td W) {td':List Nat} (hq:QRow W (w.heap.size + 1) v' (td'.map fun (x:Nat)=>(x:Int))):RchI w cs p sb bs v' td' W:=⟨h.box,h.seen,hq,h.ge⟩
theorem RchI.mark (h:RchI w cs p sb bs v td W) (y:Nat):RchI w cs p sb (bs.set y true) v td (W.setCell ⟨sb,y,none⟩ (.bool true)):=by
 rw [set_as_row h.seen]
 refine ⟨h.box.past (Nat.lt_succ_self _) (below_setRow' (Below.refl _ _) h.ge _),?_,?_,h.ge⟩
 ·rw [heap_setRow _ _ _ _ _ h.seen,List.map_set,List.setIfInBounds_toArray]
 ·exact h.todo.kept (grown_setRow _ _ _) (h.todo.ne h.seen (by decide))
theorem RchI.free (h:RchI w cs p sb bs v td W) (k:Nat):W.frozen? ⟨sb,k,none⟩ = false:=by simp [World.frozen?,h.seen]
theorem RchI.cell (h:RchI w cs p sb bs v td W) {k:Nat} {x:Bool} (hk:bs[k]? = some x):W.cell? ⟨sb,k,none⟩ = some (.bool x):=by
 rw [cell_of_row _ _ _ _ _ _ h.seen,List.getElem?_toArray,List.getElem?_map,hk];rfl
theorem RchI.push (h:RchI w cs p sb bs v td W) {ob:Obj} {y:Nat} (hg:(W.alloc ob).grownBy W' v.ownBlock) (hq:QRow W' (w.heap.size + 1) v' (td.map (fun (x:Nat)=>(x:Int))++[(y:Int)])):RchI w cs p sb bs v' (td++[y]) W':=by
 have hlt:=h.lt
 have hb:Below (w.heap.size + 1) W W':=((Below.refl _ _).alloc h.box.lt ob).grown hg (by rw [World.size_alloc];have:=h.box.lt;omega) (fun b e=>(h.todo.ge e).1)
 refine ⟨h.box.past (Nat.lt_succ_self _) hb,?_,by rw [List.map_append];exact hq,h.ge⟩
 exact (hg.block sb (by rw [World.size_alloc];omega) (fun e=>h.todo.ne h.seen (by decide) e.symm)).trans ((Below.heap_alloc _ _ _ hlt).trans h.seen)
end
set_option maxRecDepth 100000 in
set_option maxHeartbeats 8000000 in
theorem rbefore_any20 (cs:List Value) (p:PlanD) (a b:Int) (w:World) (hr:rep w (old w.heap.size) cs p) (hl:p.graph.nodes.length ≤ 1048576) (ha:I64 a) (hb:I64 b) :
  Calls Tryz.prog 44 #[.agg cs.toArray,.int .i64 a,.int .i64 b] w (BoolP w (BefB p a b)):=by
 obtain ⟨A2,k2,A5,k5,A7,k7,c1,-,-,r2,-,-⟩:=plan_at hr
 obtain ⟨n2,n2'⟩:=slice_bnd r2
 have HR:=Lib.hid hr
 have HC:=Lib.hid (And.intro c1 r2)
 clear hr c1 r2
 obtain ⟨n,hn⟩:∃ n,p.graph.nodes.length = n:=⟨_,rfl⟩
 have HN0:=Lib.hid hn
 rw [hn] at n2 hl
 unfold I64 at ha hb
 clear hn
 go_enter Tryz.func44,Tryz.ntmps44
 go_wp2_with (with_reducible refine wpList_box_row rfl 30 _ rfl cs rfl ?_;have hX:=plan_start HR.out;generalize World.alloc _ _ = W0 at hX ⊢;have HX:=Lib.hid hX;clear hX;refine halt ?_)
 unfold Halt
 have c1:=HX.out.cell HC.out.1
 rw [HN0.out] at c1
 by_cases a0:a < 0
 ·have HN:=Lib.hid (show ¬ BeforeD p a b from fun ⟨i,j,e,_⟩=>by omega)
  go_wp2
  go_ret
  exact ⟨false,rfl,HX.out.below,befB_no HN.out⟩
 by_cases a1:a ≥ (n:Int)
 ·have HN:=Lib.hid (show ¬ BeforeD p a b from fun ⟨i,j,e,_,hi,_⟩=>by rw [HN0.out] at hi;omega)
  go_wp2
  go_ret
  exact ⟨false,rfl,HX.out.below,befB_no HN.out⟩
 by_cases b0:b < 0
 ·have HN:=Lib.hid (show ¬ BeforeD p a b from fun ⟨i,j,_,e,_⟩=>by omega)
  go_wp2
  go_ret
  exact ⟨false,rfl,HX.out.below,befB_no HN.out⟩
 by_cases b1:b ≥ (n:Int)
 ·have HN:=Lib.hid (show ¬ BeforeD p a b from fun ⟨i,j,_,e,_,hj,_⟩=>by rw [HN0.out] at hj;omega)
  go_wp2
  go_ret
  exact ⟨false,rfl,HX.out.below,befB_no HN.out⟩
 obtain ⟨i,rfl⟩:∃ i:Nat,a = (i:Int):=⟨a.toNat,by omega⟩
 obtain ⟨j,rfl⟩:∃ j:Nat,b = (j:Int):=⟨b.toNat,by omega⟩
 have hi:i < n:=by omega
 have hj:j < n:=by omega
 go_wp2_with (with_reducible refine wpList_load_agg_w (by with_unfolding_all rfl) 30 _ rfl _ w.heap.size 0 rfl cs Tryz.underlying30 rfl HX.out.size HX.out.at ?_)
 refine (rlive_any20 cs p i W0 HX.out.arg).mono ?_
 rintro e w1 ⟨rfl,hb1⟩
 replace HX:=Lib.hid (HX.out.next hb1)
 clear hb1
 obtain ⟨la,hla⟩:∃ l,liveB p (i:Int) = l:=⟨_,rfl⟩
 rw [hla]
 have HLA:=Lib.hid hla
 clear hla
 cases la with
 | false =>
  have HN:=Lib.hid (show ¬ BeforeD p i j from fun ⟨i',j',e,_,_,_,hl,_⟩=>by
   obtain rfl:i = i':=by omega
   have:=(liveB_nat p i).2 hl
   rw [HLA.out] at this
   cases this)
  go_wp2
  go_ret
  exact ⟨false,rfl,HX.out.below,befB_no HN.out⟩
 | true =>
 go_wp2_with (with_reducible refine wpList_load_agg_w (by with_unfolding_all rfl) 30 _ rfl _ w.heap.size 0 rfl cs Tryz.underlying30 rfl HX.out.size HX.out.at ?_)
 refine (rlive_any20 cs p j w1 HX.out.arg).mono ?_
 rintro e w2 ⟨rfl,hb2⟩
 replace HX:=Lib.hid (HX.out.next hb2)
 clear hb2
 obtain ⟨lb,hlb⟩:∃ l,liveB p (j:Int) = l:=⟨_,rfl⟩
 rw [hlb]
 have HLB:=Lib.hid hlb
 clear hlb
 cases lb with
 | false =>
  have HN:=Lib.hid (show ¬ BeforeD p i j from fun ⟨i',j',_,e,_,_,_,hl,_⟩=>by
   obtain rfl:j = j':=by omega
   have:=(liveB_nat p j).2 hl
   rw [HLB.out] at this
   cases this)
  go_wp2
  go_ret
  exact ⟨false,rfl,HX.out.below,befB_no HN.out⟩
 | true =>
 have HIJ:=Lib.hid (And.intro hi hj)
 have hmk:=make_bools n w2 hl
 clear c1 a0 a1 b0 b1
 go_wp2_with fail
 clear hmk
 have hI:RchI w cs p w2.heap.size (List.replicate n false) (.slice (some ⟨(w2.alloc (.cells (Array.replicate n (.bool false)) 4)).heap.size,0,none⟩) 1 1) [i] ((w2.alloc (.cells (Array.replicate n (.bool false)) 4)).alloc (.cells #[.int .i64 (i:Int)] 3)):=by
  have hlt:=HX.out.lt
  refine ⟨(HX.out.next ((Below.refl _ _).alloc (Nat.le_refl _) _)).next ((Below.refl _ _).alloc (Nat.le_refl _) _),?_,qrow_one _ (base:=w.heap.size + 1) (by rw [World.size_alloc];omega) (i:Int) (by unfold I64;omega),hlt⟩
  rw [← bools_arr]
  exact (Below.heap_alloc _ _ _ (by rw [World.size_alloc];omega)).trans (heap_alloc_new _ _)
 rw [World.size_alloc] at hI
 obtain ⟨sb,hsb⟩:∃ q,w2.heap.size = q:=⟨_,rfl⟩
 rw [hsb] at hI ⊢
 obtain ⟨wa,hwa⟩:∃ wa,w2.alloc (.cells (Array.replicate n (.bool false)) 4) = wa:=⟨_,rfl⟩
 rw [hwa] at hI ⊢
 have H0:=Lib.hid hI
 have HS:=Lib.hid (StkB.start p i (by rw [HN0.out];exact hi))
 rw [HN0.out] at HS
 clear hI hwa hsb HX
 go_loopg [9] (2 * n + 2) (fun gk v wr=>∃ (bs:List Bool) (td:List Nat),2 * bs.count false + td.length + 1 ≤ gk∧2 * bs.count false + td.length ≤ 2 * n + 1∧StkB p i bs td∧RchI w cs p sb bs v td wr)
 case atStart=>exact ⟨List.replicate n false,[i],by rw [List.count_replicate_self,List.length_singleton];omega,by rw [List.count_replicate_self,List.length_singleton];omega,HS.out,H0.out⟩
 case round =>
  obtain ⟨bs,td,hg,hg2,hS,hR⟩:=hrel
  obtain ⟨wb,rfl⟩:∃ wb,wb = wr:=⟨_,rfl⟩
  clear H0 HS
  have HB:=Lib.hid (And.intro hS hR)
  clear hS hR
  rcases List.eq_nil_or_concat td with htd | ⟨td',x,htd⟩
  ·subst htd
   obtain ⟨g,off,cap,cur,hv,-⟩:=HB.out.2.todo
   simp only [List.map_nil,List.length_nil] at hv
   subst hv
   obtain ⟨bb,hbb⟩:∃ bb,bs[j]? = some bb:=⟨_,List.getElem?_eq_getElem (by rw [HB.out.1.len,HN0.out];exact hj)⟩
   have cj:=HB.out.2.cell hbb
   have HAns:Hid (BefB p i j bb):=Lib.hid ⟨fun e=>⟨i,j,rfl,rfl,by rw [HN0.out];exact HIJ.out.1,by rw [HN0.out];exact HIJ.out.2,(liveB_nat p i).1 HLA.out,(liveB_nat p j).1 HLB.out,HB.out.1.all.1 (by unfold HasB;rw [hbb,e])⟩,fun ⟨i',j',e1,e2,_,_,_,_,h⟩=>by
    obtain rfl:i = i':=by omega
    obtain rfl:j = j':=by omega
    have h2:=HB.out.1.all.2 h
    unfold HasB at h2
    rw [hbb] at h2
    injection h2⟩
   clear hg hg2 hbb
   go_wp2
   go_ret
   exact ⟨bb,rfl,HB.out.2.box.below,HAns.out⟩
  ·rw [List.concat_eq_append] at htd
   subst htd
   have hq:=HB.out.2.todo
   rw [List.map_append,List.map_cons,List.map_nil] at hq
   obtain ⟨g,off,cap,rfl,hc1,hc2,hcell,hlast⟩:=QRow.last hq
   have hxl:x < n:=by have:=HB.out.1.lt x (List.mem_append_right _ (List.mem_singleton.2 rfl));rw [HN0.out] at this;exact this
   rw [List.length_append,List.length_singleton] at hg hg2
   have HL:=Lib.hid (And.intro (StkB.pop HB.out.1) (HB.out.2.with hlast))
   rw [List.length_map] at hc1 hcell HL ⊢
   obtain ⟨m,hm⟩:∃ m,td'.length = m:=⟨_,rfl⟩
   rw [hm] at hc1 hcell HL hg hg2 ⊢
   have HM:=Lib.hid hm
   have HG:=Lib.hid (And.intro hg hg2)
   obtain ⟨zx,hzx⟩:∃ z,p.graph.nodes[x]? = some z:=⟨_,List.getElem?_eq_getElem (by rw [HN0.out];exact hxl)⟩
   have HZX:=Lib.hid hzx
   clear hq hlast hm hg hg2 hzx
   have hmm0:(0:Int) ≤ (m:Int):=Int.natCast_nonneg _
   have hmm1:((m + 1:Nat):Int) - 1 = (m:Int):=by omega
   go_wp2_with fail
   clear hmm1 hcell
   go_loopw [11,9] (fun k v wr=>∃ (d:Nat) (bs2:List Bool) (td2:List Nat),k = .int .i64 d∧d ≤ n∧Hid (StkC p i bs2 td2 x d∧2 * bs2.count false + td2.length ≤ 2 * bs.count false + m∧RchI w cs p sb bs2 v td2 wr)) (fun k _ _=>n - (intOf k).toNat)
   case atStart=>exact ⟨0,bs,td',rfl,Nat.zero_le _,Lib.hid ⟨HL.out.1,by rw [HM.out];exact Nat.le_refl _,HL.out.2⟩⟩
   case round =>
    obtain ⟨d,bs2,td2,rfl,hd,HB2⟩:=hrel
    obtain ⟨wx,rfl⟩:∃ wx,wx = wr:=⟨_,rfl⟩
    by_cases hlt:d < n
    ·have hlt':(d:Int) < (n:Int):=by omega
     have hd0:(0:Int) ≤ (d:Int):=Int.natCast_nonneg _
     obtain ⟨b,hb⟩:∃ b,bs2[d]? = some b:=⟨_,List.getElem?_eq_getElem (by rw [HB2.out.1.len,HN0.out];exact hlt)⟩
     have cs2:=HB2.out.2.2.cell hb
     have HBY:=Lib.hid hb
     clear hb
     cases b with
     | true =>
      go_wp2
      go_roundw
      case rel=>exact ⟨d + 1,bs2,td2,by go_num,by omega,Lib.hid ⟨HB2.out.1.skip fun _=>HBY.out,HB2.out.2.1,HB2.out.2.2⟩⟩
      case measure=>simp [intOf];omega
     | false =>
      have HXx:=Lib.hid HB2.out.2.2.box
      go_wp2_with (with_reducible refine wpList_load_agg_w (by with_unfolding_all rfl) 30 _ rfl _ w.heap.size 0 rfl cs Tryz.underlying30 rfl HXx.out.size HXx.out.at ?_)
      refine (rlive_any20 cs p d wx HXx.out.arg).mono ?_
      rintro e w4 ⟨rfl,hb4⟩
      have HR4:=Lib.hid (HB2.out.2.2.next hb4)
      clear hb4 HXx
      obtain ⟨lv,hlv⟩:∃ l,liveB p (d:Int) = l:=⟨_,rfl⟩
      rw [hlv]
      have HLV:=Lib.hid hlv
      clear hlv cs2
      obtain ⟨zd,hzd⟩:∃ z,p.graph.nodes[d]? = some z:=⟨_,List.getElem?_eq_getElem (by rw [HN0.out];exact hlt)⟩
      have HED:=Lib.hid (edge_feeds HZX.out hzd)
      rw [HLV.out] at HED
      cases lv with
      | false =>
       clear hzd
       go_wp2
       go_roundw
       case rel=>exact ⟨d + 1,bs2,td2,by go_num,by omega,Lib.hid ⟨HB2.out.1.skip fun he=>(by have:=(HED.out.1 he).1;cases this),HB2.out.2.1,HR4.out⟩⟩
       case measure=>simp [intOf];omega
      | true =>
       have HZD:=Lib.hid hzd
       clear hzd
       have HXy:=Lib.hid HR4.out.box
       go_wp2_with (with_reducible refine wpList_load_agg_w (by with_unfolding_all rfl) 30 _ rfl _ w.heap.size 0 rfl cs Tryz.underlying30 rfl HXy.out.size HXy.out.at ?_)
       refine (feeds_any20 cs p x d zx zd w4 HXy.out.arg HZX.out HZD.out).mono ?_
       rintro e w5 ⟨rfl,hb5⟩
       have HR5:=Lib.hid (HR4.out.next hb5)
       clear hb5 HXy HR4
       obtain ⟨fd,hfd⟩:∃ l,feedsB zx zd = l:=⟨_,rfl⟩
       rw [hfd]
       have HFD:=Lib.hid hfd
       rw [hfd] at HED
       clear hfd
       cases fd with
       | false =>
        go_wp2
        go_roundw
        case rel=>exact ⟨d + 1,bs2,td2,by go_num,by omega,Lib.hid ⟨HB2.out.1.skip fun he=>(by have:=(HED.out.1 he).2;cases this),HB2.out.2.1,HR5.out⟩⟩
        case measure=>simp [intOf];omega
       | true =>
        have fL:=HR5.out.free d
        have cs5:=HR5.out.cell HBY.out
        have HR3:=Lib.hid (HR5.out.mark d)
        have hcnt:=countF_set bs2 d HBY.out
        have hS3:=HB2.out.1.push (HED.out.2 ⟨by first | rfl | trivial,by first | rfl | trivial⟩) (by rw [HN0.out];exact hlt)
        have HS3:=Lib.hid (And.intro hS3 hcnt)
        have HYI:Hid (I64 (d:Int)):=Lib.hid (by unfold I64;omega)
        clear hcnt hS3
        have hq6:QRow ((w5.setCell ⟨sb,d,none⟩ (.bool true)).alloc (.cells #[.int .i64 (d:Int)] 3)) (w.heap.size + 1) _ _:=HR3.out.todo.below ((Below.refl _ _).alloc (Nat.le_refl _) _)
        have HQ6:=Lib.hid (And.intro hq6 (show w.heap.size + 1 ≤ (w5.setCell ⟨sb,d,none⟩ (.bool true)).heap.size from HR3.out.box.lt))
        have HNEW:Hid (((w5.setCell ⟨sb,d,none⟩ (.bool true)).alloc (.cells #[.int .i64 (d:Int)] 3)).heap[w5.heap.size]? = some (.cells #[.int .i64 (d:Int)] 3 (0,0))):=Lib.hid (by
         have:=heap_alloc_new (w5.setCell ⟨sb,d,none⟩ (.bool true)) (.cells #[.int .i64 (d:Int)] 3)
         rwa [size_setC] at this)
        clear hq6
        go_wp2_with (at_builtin;refine wpList_push rfl _ _ rfl rfl HQ6.out.1 ?c1 (y:=(d:Int)) HYI.out rfl HNEW.out ?c2 ?_)
        case c1=>rw [World.size_alloc];have:=HQ6.out.2;omega
        case c2 =>
         rw [List.length_map]
         have h1:=HB2.out.2.1
         have h2:=HG.out.2
         omega
        intro v' w8 hq8 hg8
        have HB8:=Lib.hid (HR3.out.push hg8 hq8)
        clear hq8 hg8
        go_wp2
        go_roundw
        case rel =>
         refine ⟨d + 1,bs2.set d true,td2++[d],by go_num,by omega,Lib.hid ⟨HS3.out.1,?_,HB8.out⟩⟩
         have h1:=HB2.out.2.1
         have h2:=HS3.out.2
         rw [List.length_append,List.length_singleton]
         omega
        case measure=>simp [intOf];omega
    ·have hlt':¬ (d:Int) < (n:Int):=by omega
     have HD:=Lib.hid (show n ≤ d by omega)
     clear hlt
     go_wp2
     go_roundg (2 * bs2.count false + td2.length + 1)
     case measure =>
      have h1:=HB2.out.2.1
      have h2:=HG.out.1
      omega
     case rel =>
      have h1:=HB2.out.2.1
      have h2:=HG.out.2
      exact ⟨bs2,td2,Nat.le_refl _,by omega,HB2.out.1.fin (by rw [HN0.out];exact HD.out),HB2.out.2.2⟩
end Go.Proofs.YtoeaglpmkjoenaaGreat
