/-
  Chapter 20: who uses what. No condition.
-/
/-
  Chapter 20: a queue of numbers: taken from its head, appended to at its end. No condition.
-/
import Derived.StillTailTactics
import Derived.Test.YtoeaglpmkjoenaaGreatQFlowM
import Derived.Test.YtoeaglpmkjoenaaGreatQSrtW
set_option linter.unusedSimpArgs false
set_option linter.unusedVariables false
namespace Go.Proofs.YtoeaglpmkjoenaaGreat
open Go.RowKit
open Rep (rep)
open Go.ChangeShapes
open Go.Maps (Keyed int_keyed keyOf_int_mk IsMap isMap_empty atKey_put_same atKey_put_other)
def usersTo (p:PlanD) (i:Nat) (k:Int):List Int:=((List.range i).filter fun j=>decide (p.live[j]? = some true) && (gIns p.graph j).contains k).map fun (j:Nat)=>(j:Int)
def usersIn (p:PlanD) (i:Nat) (pre:List Int) (k:Int):List Int:=usersTo p i k++if k ∈ pre then [(i:Int)] else []
theorem usersTo_lt {p:PlanD} {i:Nat} {k x:Int} (h:x ∈ usersTo p i k):0 ≤ x∧x < i:=by
 obtain ⟨j,hj,rfl⟩:=List.mem_map.1 h
 have:=List.mem_range.1 (List.mem_filter.1 hj).1
 omega
theorem usersTo_skip {p:PlanD} {i:Nat} (h:liveB p (i:Int) = false) (k:Int):usersTo p (i + 1) k = usersTo p i k:=by
 unfold usersTo
 rw [List.range_succ,List.filter_append,List.map_append]
 have:¬ p.live[i]? = some true:=fun e=>by
  have:=(liveB_nat p i).2 e
  rw [h] at this;cases this
 simp [this]
theorem usersTo_next {p:PlanD} {i:Nat} (h:liveB p (i:Int) = true) (k:Int):usersTo p (i + 1) k = usersIn p i (gIns p.graph i) k:=by
 unfold usersTo usersIn usersTo
 rw [List.range_succ,List.filter_append,List.map_append]
 have:p.live[i]? = some true:=(liveB_nat p i).1 h
 congr 1
 by_cases e:k ∈ gIns p.graph i
 ·simp [this,e]
 ·simp [e]
theorem usersIn_nil (p:PlanD) (i:Nat) (k:Int):usersIn p i [] k = usersTo p i k:=by simp [usersIn]
theorem usersIn_there {p:PlanD} {i:Nat} {pre:List Int} {z:Int} (h:z ∈ pre) (k:Int):usersIn p i (pre++[z]) k = usersIn p i pre k:=by
 unfold usersIn
 have:k ∈ pre++[z] ↔ k ∈ pre:=by
  simp only [List.mem_append,List.mem_singleton]
  exact ⟨fun e=>e.elim id (fun e=>e ▸ h),.inl⟩
 simp only [this]
theorem usersIn_new {p:PlanD} {i:Nat} {pre:List Int} {z:Int} (h:¬ z ∈ pre) (k:Int):usersIn p i (pre++[z]) k = if k = z then usersIn p i pre z++[(i:Int)] else usersIn p i pre k:=by
 unfold usersIn
 by_cases e:k = z
 ·subst e
  rw [if_pos rfl,if_neg h,if_pos (by simp),List.append_nil]
 ·rw [if_neg e]
  have:k ∈ pre++[z] ↔ k ∈ pre:=by simp [e]
  simp only [this]
theorem usersIn_last {p:PlanD} {i:Nat} {pre:List Int} {z:Int} {x:Int} (h:(usersIn p i pre z)[(usersIn p i pre z).length - 1]? = some x):x = (i:Int) ↔ z ∈ pre:=by
 unfold usersIn at h
 by_cases e:z ∈ pre
 ·rw [if_pos e] at h
  simp at h
  exact ⟨fun _=>e,fun _=>h.symm⟩
 ·rw [if_neg e,List.append_nil] at h
  have:=usersTo_lt (List.mem_of_getElem? h)
  exact ⟨fun e1=>by omega,fun e1=>absurd e1 e⟩
structure FlI (w:World) (cs:List Value) (p:PlanD) (mb fb n:Nat) (f:Int→List Int) (W:World):Prop where
 plan:PlanI w cs p W
 box:W.heap[fb]? = some (.cells (cs++[Value.map (some mb)]).toArray 95 (0,0))
 map:MapL W (mb + 1) mb n f
 gt:w.heap.size < mb
 gf:mb < fb
section
variable {w W W':World} {cs:List Value} {p:PlanD} {mb fb n:Nat} {f:Int→List Int}
theorem FlI.next (h:FlI w cs p mb fb n f W) (hb:Below W.heap.size W W'):FlI w cs p mb fb n f W' :=
 ⟨h.plan.next hb,(hb.block _ (Array.getElem?_eq_some_iff.1 h.box).1).trans h.box,h.map.below hb,h.gt,h.gf⟩
theorem own_ne {base:Nat} {e t:TypeId} {size k b:Nat} {v:Value} {xs:List Value} {cs:Array Value} {fr:Nat × Nat} (h:W.ownsRow base e size v k xs) (hb:W.heap[b]? = some (.cells cs t fr)) (hne:t ≠ e):v.ownBlock ≠ some b:=fun e1=>by
 rcases h.2 with ⟨hv,_⟩ | ⟨g,cap,cur,hv,_,hh,_⟩
 ·rw [hv] at e1;cases e1
 ·rw [hv] at e1
  injection e1 with e1
  subst e1
  rw [hh] at hb
  injection hb with hb
  injection hb with _ hb _
  exact hne hb.symm
theorem FlI.put (h:FlI w cs p mb fb n f W) {W1 W2:World} {v:Value} {zs:List Int} (ho:W.ownsInts (mb + 1) 3 .i64 v zs) (hg:W.grownBy W1 v.ownBlock) (hg2:W1.grownBy W2 (some mb)) {n':Nat} {f':Int→List Int} (hm:MapL W2 (mb + 1) mb n' f') :
  FlI w cs p mb fb n' f' W2∧∀ (q:Nat) (xs:Array Value) (t:TypeId) (fr:Nat × Nat),W.heap[q]? = some (.cells xs t fr)→t ≠ 3→W2.heap[q]? = some (.cells xs t fr):=by
 have hmap:∃ es clock,W.heap[mb]? = some (.map es clock):=by
  obtain ⟨D,⟨es,clock,hb,_⟩,_⟩:=h.map
  exact ⟨es,clock,hb⟩
 obtain ⟨es,clock,hmb⟩:=hmap
 have key:∀ (q:Nat) (xs:Array Value) (t:TypeId) (fr:Nat × Nat),W.heap[q]? = some (.cells xs t fr)→t ≠ 3→W2.heap[q]? = some (.cells xs t fr):=by
  intro q xs t fr hq ht
  have hlt:=(Array.getElem?_eq_some_iff.1 hq).1
  have h1:=(hg.block q hlt (fun e=>own_ne ho.1 hq ht e.symm)).trans hq
  refine (hg2.block q (Array.getElem?_eq_some_iff.1 h1).1 (fun e=>?_)).trans h1
  injection e with e
  subst e
  rw [hmb] at hq
  cases hq
 have h0:=h.gt
 have hbel:Below w.heap.size w W2:=h.plan.below.groups ho hg hg2 h.plan.below.size (by omega) (by omega)
 exact ⟨⟨⟨⟨hbel,key _ _ _ _ h.plan.box.row (by decide)⟩,h.plan.was⟩,key _ _ _ _ h.box (by decide),hm,h.gt,h.gf⟩,key⟩
end
theorem info_int1:(Tryz.prog.info? 3).map (fun i=>(i.zero,i.size,i.bytes)) = some (some (.int .i64 0),1,8):=by kernel_rfl
theorem mapL_put {base mb n:Nat} {f:Int→List Int} {D:DataW Unit} {v':Value} {s x:Int} {w2:World} (hm:IsMap D) (hf:∀ s,D.atKey (.int .i64 s) .nil = datL (f s)) {w1:World} (ho:w1.ownsInts base 3 .i64 v' (f s++[x]))
  (h:w2.ownsGroups Tryz.prog 3 base 3 .i64 mb (n + 1) (D.put (.int .i64 s) (rowDatum .i64 v' (f s++[x])))):MapL w2 base mb (n + 1) (fun y=>if y = s then f s++[x] else f y):=by
 refine ⟨_,h,hm.put _ _,fun y=>?_⟩
 by_cases e:y = s
 ·subst e
  simp only [if_true]
  rw [atKey_put_same (k:=.int .i64 y) hm (by simp [Go.WideAt.IsKeyLit]),ho.datum_pos (by simp)]
  unfold datL
  rw [if_neg (by simp)]
 ·simp only [if_neg e]
  rw [atKey_put_other (fun e'=>e ?_),hf]
  injection e' with _ e'
structure FlowI (w:World) (n:Nat) (fb:Nat) (p:PlanD) (W:World):Prop where
 ex:∃ (cs:List Value) (mb k:Nat),W.heap[fb]? = some (.cells (cs++[Value.map (some mb)]).toArray 95 (0,0))∧rep W (old n) cs p∧MapL W (mb + 1) mb k (fun s=>(usersD p s).map fun (j:Nat)=>(j:Int))∧k < maxLen∧n ≤ W.heap.size
set_option maxRecDepth 100000 in
set_option maxHeartbeats 8000000 in
theorem flowOf_any (cs:List Value) (p:PlanD) (w:World) (hr:rep w (old w.heap.size) cs p) (hs1:p.graph.nodes.length ≤ 1048576) (hs2:∀ n ∈ p.graph.nodes,n.ins.length ≤ 1048576) :
  Calls Tryz.prog 35 #[.agg cs.toArray] w fun e w'=>∃ fb,e = .returned (.pointer (some ⟨fb,0,none⟩))∧FlowI w w.heap.size fb p w'∧Below w.heap.size w w':=by
 obtain ⟨A1,k1,A2,k2,A3,k3,A4,k4,A5,k5,A6,k6,A7,k7,hcs,-,r2,-⟩:=open_PlanD hr
 obtain ⟨n2,n2'⟩:=slice_bnd r2
 have HR:=Lib.hid (And.intro hr r2)
 obtain ⟨M,hM⟩:∃ M:Nat,M = 1048576:=⟨_,rfl⟩
 have HN:Hid (∀ n ∈ p.graph.nodes,n.ins.length ≤ M):=Lib.hid (by rw [hM];exact hs2)
 have HM:=Lib.hid hM
 clear hM
 obtain ⟨i0,hi0,hz0,hz1,hz2⟩:=info_parts info_int1
 clear r2 hs2
 subst hcs
 go_enter Tryz.func35,Tryz.ntmps35
 go_wp2_with (with_reducible refine wpList_box_row rfl 30 _ rfl ([.slice A1 p.graph.vals.length k1,.slice A2 p.graph.nodes.length k2,.slice A3 p.graph.inputs.length k3,.slice A4 p.graph.outputs.length k4,.slice A5 p.tasks.length k5,.slice A6 p.size.length k6,.slice A7 p.live.length k7]:List Value) rfl ?_;have hX:=plan_start hr;generalize World.alloc _ _ = W0 at hX ⊢;have HX:=Lib.hid hX;clear hX hr;refine halt ?_)
 unfold Halt
 have hmm:=@run_makeMap Tryz.prog
 have c1:W0.cell? ⟨w.heap.size,1,none⟩ = some (.slice A2 p.graph.nodes.length k2):=HX.out.cell (j:=1) rfl
 have c1':∀ o o':Obj,((W0.alloc o).alloc o').cell? ⟨w.heap.size,1,none⟩ = some (.slice A2 p.graph.nodes.length k2):=fun o o'=>(World.cell?_alloc_lt _ _ _ (by rw [World.size_alloc];have:=HX.out.lt;simp only;omega)).trans ((World.cell?_alloc_lt _ _ _ HX.out.lt).trans c1)
 go_wp2_with (first
  |(with_reducible refine wpList_load_agg rfl 30 _ rfl _ _ _ rfl ([.slice A1 p.graph.vals.length k1,.slice A2 p.graph.nodes.length k2,.slice A3 p.graph.inputs.length k3,.slice A4 p.graph.outputs.length k4,.slice A5 p.tasks.length k5,.slice A6 p.size.length k6,.slice A7 p.live.length k7]:List Value) Tryz.underlying30 rfl HX.out.size HX.out.at ?_))
 clear hmm c1 c1'
 have hI:FlI w ([.slice A1 p.graph.vals.length k1,.slice A2 p.graph.nodes.length k2,.slice A3 p.graph.inputs.length k3,.slice A4 p.graph.outputs.length k4,.slice A5 p.tasks.length k5,.slice A6 p.size.length k6,.slice A7 p.live.length k7]:List Value) p W0.heap.size (W0.heap.size + 1) 0 (fun _=>[]) ((W0.alloc (.map #[] 0)).alloc (.cells (([.slice A1 p.graph.vals.length k1,.slice A2 p.graph.nodes.length k2,.slice A3 p.graph.inputs.length k3,.slice A4 p.graph.outputs.length k4,.slice A5 p.tasks.length k5,.slice A6 p.size.length k6,.slice A7 p.live.length k7]:List Value)++[Value.map (some W0.heap.size)]).toArray 95)):=by
  have hb:Below W0.heap.size W0 ((W0.alloc (.map #[] 0)).alloc (.cells (([.slice A1 p.graph.vals.length k1,.slice A2 p.graph.nodes.length k2,.slice A3 p.graph.inputs.length k3,.slice A4 p.graph.outputs.length k4,.slice A5 p.tasks.length k5,.slice A6 p.size.length k6,.slice A7 p.live.length k7]:List Value)++[Value.map (some W0.heap.size)]).toArray 95)):=((Below.refl _ _).alloc (Nat.le_refl _) _).alloc (by rw [World.size_alloc];omega) _
  refine ⟨HX.out.next hb,?_,(MapL.made W0).below ((Below.refl _ _).alloc (Nat.le_refl _) _),HX.out.lt,Nat.lt_succ_self _⟩
  have:=heap_alloc_new (W0.alloc (.map #[] 0)) (.cells (([.slice A1 p.graph.vals.length k1,.slice A2 p.graph.nodes.length k2,.slice A3 p.graph.inputs.length k3,.slice A4 p.graph.outputs.length k4,.slice A5 p.tasks.length k5,.slice A6 p.size.length k6,.slice A7 p.live.length k7]:List Value)++[Value.map (some W0.heap.size)]).toArray 95)
  rwa [World.size_alloc] at this
 simp only [List.cons_append,List.nil_append] at hI
 obtain ⟨mb,hmb⟩:∃ mb,W0.heap.size = mb:=⟨_,rfl⟩
 rw [hmb] at hI ⊢
 generalize World.alloc _ _ = W1 at hI ⊢
 obtain ⟨pcs,hpcs⟩:∃ pcs,([.slice A1 p.graph.vals.length k1,.slice A2 p.graph.nodes.length k2,.slice A3 p.graph.inputs.length k3,.slice A4 p.graph.outputs.length k4,.slice A5 p.tasks.length k5,.slice A6 p.size.length k6,.slice A7 p.live.length k7]:List Value) = pcs:=⟨_,rfl⟩
 have hpl:pcs.length = 7:=by rw [← hpcs];rfl
 replace hI:FlI w pcs p mb (mb + 1) 0 (fun _=>[]) W1:=by rw [← hpcs];exact hI
 have HPL:=Lib.hid hpl
 clear hpcs hpl
 have HI:=Lib.hid hI
 clear hI hmb HX
 obtain ⟨A',c',xs,hv,-,-,-,hl,hch⟩:=open_slice HR.out.2
 injection hv with hva hvb hvc
 subst hva
 have HL:=Lib.hid (And.intro hl hch)
 clear hl hch hvb hvc
 go_loopw [17] (fun i wr=>∃ (c n:Nat),i = .int .i64 c∧c ≤ p.graph.nodes.length∧n ≤ c * M∧FlI w pcs p mb (mb + 1) n (usersTo p c) wr) (fun i _=>p.graph.nodes.length - (intOf i).toNat)
 case atStart=>exact ⟨0,0,rfl,Nat.zero_le _,Nat.zero_le _,HI.out⟩
 case round =>
  obtain ⟨c,n,rfl,hcl,hn,hI⟩:=hrel
  obtain ⟨wb,rfl⟩:∃ wb,wb = wr:=⟨_,rfl⟩
  have HJ:=Lib.hid hI
  clear hI HI
  by_cases hlt:c < p.graph.nodes.length
  ·have hlt':(c:Int) < (p.graph.nodes.length:Int):=by omega
   obtain ⟨z,hz⟩:∃ z,p.graph.nodes[c]? = some z:=⟨_,List.getElem?_eq_getElem hlt⟩
   obtain ⟨b,o,zc,rfl,hbB,hrz,hcell⟩:=elem_at HL.out.1 HL.out.2 (by decide) hz
   have hat:At wb b (o + c * 40) zc:=fun j u hu=>by
    have h1:=(hcell j u hu).1
    rw [← Nat.add_assoc] at h1
    exact (HJ.out.plan.below.cell (p:=⟨b,o + c * 40 + j,none⟩) hbB).trans h1
   obtain ⟨ss,I1,i1,O1,o1,-,z37,-,-,-,zi,-,-⟩:=gnode_facts hrz
   obtain ⟨nI1,nI2⟩:=slice_bnd zi
   have HA:=Lib.hid (And.intro hat (node_lay hrz))
   have hgi:gIns p.graph c = z.ins:=by unfold gIns;rw [hz];rfl
   have HZ:=Lib.hid (And.intro z37 (And.intro zi (And.intro hgi (HN.out z (List.mem_of_getElem? hz)))))
   have hk0:(0:Int) ≤ (c:Int):=Int.natCast_nonneg _
   clear hat z37 zi hgi hrz hcell hz
   go_wp2_with (first
    |(with_reducible refine wpList_load_agg rfl 50 _ rfl _ _ _ rfl zc Tryz.underlying50 rfl HA.out.2.1 HA.out.1 ?_)
    |(with_reducible refine wpList_alloc_row rfl 50 rfl zeroGN zeroGN_zero ?_)
    |(with_reducible refine wpList_store_agg rfl 50 _ _ rfl _ 0 zc rfl rfl 50 zeroGN (heap_alloc_new _ _) HA.out.2.1 HA.out.2.2.1 HA.out.2.2.2.2 ?_;have hY:=laid_row wb 50 zeroGN zc HA.out.2.2.2.1;generalize World.setRow _ _ _ = w5 at hY ⊢;have HY:=Lib.hid hY;clear hY;refine halt ?_))
   unfold Halt
   obtain ⟨q,hq⟩:∃ q,wb.heap.size = q:=⟨_,rfl⟩
   have hJ5:=HJ.out.next HY.out.1
   have hrow:=HY.out.2.1
   rw [hq] at hrow
   rw [hq]
   have HR5:=Lib.hid hrow
   have HJ5:=Lib.hid hJ5
   clear hrow hJ5 hq HY
   go_wp2_with (with_reducible refine wpList_load_agg rfl 30 _ rfl _ _ _ rfl pcs Tryz.underlying30 rfl HJ5.out.plan.size HJ5.out.plan.at ?_)
   refine (planlive_any _ p c _ HJ5.out.plan.arg).mono ?_
   rintro e w6 ⟨rfl,hb⟩
   replace HR5:=Lib.hid ((hb.block _ (Array.getElem?_eq_some_iff.1 HR5.out).1).trans HR5.out)
   replace HJ5:=Lib.hid (HJ5.out.next hb)
   clear hb
   obtain ⟨lv,hlv⟩:∃ lv,liveB p (c:Int) = lv:=⟨_,rfl⟩
   rw [hlv]
   have HLV:=Lib.hid hlv
   clear hlv
   cases lv with
   | false =>
    go_wp2
    go_roundw
    case rel=>exact ⟨c + 1,n,by go_num,by omega,by rw [Nat.succ_mul];omega,by rw [show usersTo p (c + 1) = usersTo p c from funext (usersTo_skip HLV.out)];exact HJ5.out⟩
    case measure=>simp [intOf];omega
   | true =>
    have c37:=cell_row HR5.out HZ.out.1
    go_wp2_with fail
    clear c37
    obtain ⟨A',c',ks,hv,-,-,-,hl,hch⟩:=open_slice HZ.out.2.1
    injection hv with hva hvb hvc
    subst hva
    have HK:=Lib.hid (And.intro hl hch)
    clear hl hch hvb hvc
    go_loopw [29] (fun i wr=>∃ (pre post:List Int) (n:Nat),z.ins = pre++post∧i = .int .i64 pre.length∧n ≤ c * M + pre.length∧FlI w pcs p mb (mb + 1) n (usersIn p c pre) wr) (fun i _=>z.ins.length - (intOf i).toNat)
    case atStart=>exact ⟨[],z.ins,n,rfl,rfl,hn,by rw [show usersIn p c [] = usersTo p c from funext (usersIn_nil p c)];exact HJ5.out⟩
    case round =>
     obtain ⟨pre,post,m,hpp,rfl,hm,hI⟩:=hrel
     obtain ⟨wx,rfl⟩:∃ wx,wx = wr:=⟨_,rfl⟩
     have HX:=Lib.hid hI
     clear hI
     cases post with
     | cons k post =>
      obtain ⟨hz,hlt2,hpp',hpl⟩:=split_at hpp
      obtain ⟨bi,oi,xc,rfl,hbB2,⟨rfl,hk64⟩,hcell⟩:=elem_at HK.out.1 HK.out.2 (by decide) hz
      have k4':wx.cell? ⟨bi,oi + pre.length,none⟩ = some (.int .i64 k):=(HX.out.plan.below.cell (p:=⟨bi,oi + pre.length,none⟩) hbB2).trans (cell_of_elem (α:=Int) rfl hcell rfl)
      have HP:=Lib.hid (And.intro hpp' (And.intro hpl hk64))
      have hk2:(0:Int) ≤ (pre.length:Int):=Int.natCast_nonneg _
      have hk3:(pre.length:Int) < (z.ins.length:Int):=by omega
      have hmx:m ≤ 2000000000000:=by
       have h1:=HZ.out.2.2.2
       have h2:=HM.out
       have h3:c * M ≤ 1048576 * M:=Nat.mul_le_mul_right _ (by omega)
       omega
      have HMX:=Lib.hid hm
      clear hm
      obtain ⟨D,hD,hmD,hfD⟩:=HX.out.map
      have c7:wx.cell? ⟨mb + 1,7,none⟩ = some (.map (some mb)):=cell_row HX.out.box (j:=7) (by rw [List.getElem?_append_right (by rw [HPL.out];exact Nat.le_refl _),HPL.out];rfl)
      have HD:=Lib.hid (And.intro hD (And.intro hmD hfD))
      clear hpp hpp' hpl hz hcell hbB2 hD hmD hfD
      go_wp2_with (first
       |(at_lookup;refine wpList_lookup_groups _ rfl _ _ 93 rfl 3 24 3 .i64 mapIK Tryz.underlying93 (zero_ints _) (mb + 1) mb m D rfl HD.out.1 (by unfold maxLen;omega) _ _ rfl (keyOf_int_mk Tryz.underlying3 (wf_of_I64 hk64)) ?_;intro v zs hat hoi hzl2 hback;refine halt ?_))
      unfold Halt
      rw [HD.out.2.2] at hat
      obtain rfl:=dat_eq hoi hat
      have hoi2:=hoi
      obtain ⟨A,cp,hv,hzc,hcm⟩:∃ A cp,v = .slice A (usersIn p c pre k).length cp∧(usersIn p c pre k).length ≤ cp∧cp ≤ 9223372036854775807:=by
       rcases hoi.1.2 with ⟨hv,h0⟩ | ⟨g,cap,cur,hv,hb,hh,h3,h4,h5,h6⟩
       ·exact ⟨none,0,by rw [hv,h0],by omega,by omega⟩
       ·exact ⟨_,cap,hv,h3,by unfold maxLen at h4;omega⟩
      have hcells:∀ j x,(usersIn p c pre k)[j]? = some x→∃ g,A = some ⟨g,0,none⟩∧wx.cell? ⟨g,j,none⟩ = some (.int .i64 x):=by
       intro j x hx
       rcases hoi.1.2 with ⟨hv2,h0⟩ | ⟨g,cap,cur,hv2,hb,hh,h3,h4,h5,h6⟩
       ·rw [List.length_eq_zero_iff.1 h0] at hx;simp at hx
       ·rw [hv] at hv2
        injection hv2 with hv2
        refine ⟨g,hv2,?_⟩
        have hb2:v.ownBlock = some g:=by rw [hv,hv2];rfl
        have:=hoi.1.cells hb2 j (.int .i64 x) (by rw [List.getElem?_map,hx];rfl)
        rwa [show (⟨g,0,none⟩:Addr).add j = ⟨g,j,none⟩ by unfold Addr.add;split <;> simp_all] at this
      subst hv
      have HB:=Lib.hid (And.intro hoi (And.intro hzl2 hback))
      clear hoi hoi2 hzl2 hback hat
      by_cases hk:k ∈ pre
      ·obtain ⟨l,hl⟩:∃ l,(usersIn p c pre k).length = l + 1:=⟨(usersIn p c pre k).length - 1,by unfold usersIn;rw [if_pos hk];simp⟩
       obtain ⟨x,hx⟩:∃ x,(usersIn p c pre k)[(usersIn p c pre k).length - 1]? = some x:=⟨_,List.getElem?_eq_getElem (by omega)⟩
       have hxc:=(usersIn_last hx).2 hk
       subst hxc
       rw [hl,Nat.add_sub_cancel] at hx
       obtain ⟨g,rfl,hcg⟩:=hcells l _ hx
       rw [hl] at hzc ⊢
       have hk4:¬ ((l + 1:Nat):Int) = 0:=by omega
       have hk5:(0:Int) ≤ (l:Int):=Int.natCast_nonneg _
       have hk6:(l:Int) < ((l + 1:Nat):Int):=by omega
       have hk7:((l + 1:Nat):Int) - 1 = (l:Int):=by omega
       have HKK:=Lib.hid hk
       clear hcells hl hx hk c7
       go_wp2
       go_roundw
       case rel=>exact ⟨pre++[k],post,m,HP.out.1,by rw [HP.out.2.1];go_num,by rw [HP.out.2.1];have:=HMX.out;omega,by rw [show usersIn p c (pre++[k]) = usersIn p c pre from funext (usersIn_there HKK.out)];exact HX.out⟩
       case measure=>simp [intOf];omega
      ·have hnew:(usersIn p c pre k).length = 0 ∨ ∃ (l:Nat) (g:Nat) (x:Int),(usersIn p c pre k).length = l + 1∧A = some ⟨g,0,none⟩∧wx.cell? ⟨g,l,none⟩ = some (.int .i64 x)∧¬ x = (c:Int):=by
        rcases Nat.eq_zero_or_pos (usersIn p c pre k).length with h0 | h0
        ·exact .inl h0
        ·obtain ⟨x,hx⟩:∃ x,(usersIn p c pre k)[(usersIn p c pre k).length - 1]? = some x:=⟨_,List.getElem?_eq_getElem (by omega)⟩
         have hxc:¬ x = (c:Int):=fun e=>hk ((usersIn_last hx).1 e)
         obtain ⟨g,hA,hcg⟩:=hcells _ _ hx
         exact .inr ⟨(usersIn p c pre k).length - 1,g,x,by omega,hA,hcg,hxc⟩
       have HKK:=Lib.hid hk
       obtain ⟨zl,hzl0⟩:∃ zl,usersIn p c pre k = zl:=⟨_,rfl⟩
       rw [hzl0] at HB hnew hzc ⊢
       have HZL:=Lib.hid hzl0
       clear hcells hk hzl0
       rcases hnew with h0 | ⟨l,g,x,hl,rfl,hcg,hxc⟩
       ·obtain rfl:=List.length_eq_zero_iff.1 h0
        go_wp2_with fail
        refine wp_region_held_drew (S:=fun W=>W.heap[mb + 1]? = some (.cells (pcs++[Value.map (some mb)]).toArray 95 (0,0))) (by kernel_rfl) (show wx.drew.heap[mb + 1]? = _ from HX.out.box) (fun hHeld=>?_)
        refine tk0 0 (some 52) (v:=.pointer (some ⟨(mb + 1),0,none⟩)) rfl hHeld ?_
        refine tk0 1 (some 53) (v:=.pointer (some ⟨(mb + 1),0,none⟩)) rfl hHeld ?_
        refine tk0 2 (some 54) (v:=.pointer (some ⟨(mb + 1),7,none⟩)) rfl hHeld ?_
        refine tk9 3 (some 55) (v:=.map (some mb)) rfl (yields_load_one9 (by kernel_rfl) _ _ rfl (mb + 1) 7 (by kernel_rfl) _ _ Tryz.underlying93 rfl (fun _ h=>cell_row h (by rw [List.getElem?_append_right (by rw [HPL.out];exact Nat.le_refl _),HPL.out];rfl))) hHeld ?_
        refine tk0 4 (some 56) (v:=.int .i64 k) rfl hHeld ?_
        refine tk0 5 (some 57) (v:=.slice A 0 cp) rfl hHeld ?_
        refine tk0 6 (some 58) (v:=.int .i64 (c:Int)) rfl hHeld ?_
        have hod:wx.drew.ownsInts (mb + 1) 3 .i64 (.slice A 0 cp) ([]:List Int):=⟨HB.out.1.1.drew,HB.out.1.2⟩
        have hwd:wx.grownBy wx.drew (Value.slice A 0 cp).ownBlock:=⟨rfl,rfl,rfl,Nat.le_refl _,fun _ _ _=>rfl⟩
        have hsd:wx.drew.heap.size = wx.heap.size:=rfl
        generalize World.drew _ = wd at hHeld hod hwd hsd ⊢
        have hS8:(wd.alloc (.cells #[.int .i64 (c:Int)] 3)).heap[mb + 1]? = some (.cells (pcs++[Value.map (some mb)]).toArray 95 (0,0)):=(Below.heap_alloc _ _ _ (Array.getElem?_eq_some_iff.1 hHeld).1).trans hHeld
        refine oneLay 7 (some 59) rfl rfl (by kernel_rfl) (by kernel_rfl) (.slice (some ⟨wd.heap.size,0,none⟩) 1 1) [.cells #[.int .i64 (c:Int)] 3] (by kernel_rfl) hS8 ?_
        change wpAnyH _ _ _ _ _ _ _ _ (wd.alloc (.cells #[.int .i64 (c:Int)] 3))
        have hmb:mb + 1 ≤ wd.heap.size:=by have:=(Array.getElem?_eq_some_iff.1 hHeld).1;omega
        refine anyH_append_at 8 (some 60) rfl rfl (by kernel_rfl) (by kernel_rfl) _ _ 24 rfl (mb + 1) 3 i0 (.int .i64 0) 1 8 Tryz.underlying24 hi0 hz0 hz1 hz2 rfl (by decide) (.slice A 0 cp) (([]:List Int)).length (([]:List Int).map (Value.int .i64)) (by kernel_rfl) (hod.1.alloc _) ⟨wd.heap.size,0,none⟩ 1 1 [.int .i64 (c:Int)] (by kernel_rfl) rfl (cell_one_new _ _ _) (ints_oneCell .i64 [(c:Int)]) (by unfold maxLen;have:=HB.out.2.1;have:=(List.length_nil:([]:List Int).length = 0);omega) (by have:=HB.out.2.1;have:=(List.length_nil:([]:List Int).length = 0);omega) (by rw [World.size_alloc];omega) ?_
        intro v' w7 hown' hgrow hloc
        have hg1:wx.grownBy w7 (Value.slice A 0 cp).ownBlock:=hwd.trans ((World.grownBy_alloc wd _ _).trans hgrow)
        have hap:w7.ownsInts (mb + 1) 3 .i64 v' (([]:List Int)++[(c:Int)]):=hod.appended hown' (wf_of_I64 (by unfold I64;omega))
        obtain ⟨w8,hrun,hown8,hgrow8⟩:=HB.out.2.2 w7 v' (([]:List Int)++[(c:Int)]) hg1 hap (by rw [List.length_append,List.length_singleton];have:=HB.out.2.1;have:=(List.length_nil:([]:List Int).length = 0);omega) (hloc.imp id fun h=>⟨_,h,by rw [World.size_alloc];omega⟩)
        have hml:MapL w8 (mb + 1) mb (m + 1) (usersIn p c (pre++[k])):=by
         have:=mapL_put (s:=k) (x:=(c:Int)) HD.out.2.1 HD.out.2.2 (w1:=w7) (v':=v') (by rw [HZL.out];exact hap) (by rw [HZL.out];exact hown8)
         rw [show usersIn p c (pre++[k]) = _ from funext (usersIn_new HKK.out)]
         exact this
        obtain ⟨hF,hkey⟩:=HX.out.put HB.out.1 hg1 hgrow8 hml
        have hS7:w7.heap[mb + 1]? = some (.cells (pcs++[Value.map (some mb)]).toArray 95 (0,0)):=(hg1.block _ (Array.getElem?_eq_some_iff.1 HX.out.box).1 (fun e=>own_ne HB.out.1.1 HX.out.box (by decide) e.symm)).trans HX.out.box
        have HF:=Lib.hid hF
        have hS9:=hF.box
        refine ⟨hS7,anyH_mapUpdate 9 rfl (by kernel_rfl) (by kernel_rfl) _ _ _ _ rfl (by kernel_rfl) (by kernel_rfl) (by kernel_rfl) hrun hS9 ?_⟩
        refine wpAnyH_done (by kernel_rfl) ?_ _
        clear hHeld hod hwd hsd hS8 hmb hown' hgrow hloc hg1 hap hrun hown8 hgrow8 hml hF hkey hS7 hS9
        simp [Act.put]
        go_wp2
        go_roundw
        case rel=>exact ⟨pre++[k],post,m + 1,HP.out.1,by rw [HP.out.2.1];go_num,by rw [HP.out.2.1];have:=HMX.out;omega,HF.out⟩
        case measure=>simp [intOf];omega
       ·rw [hl] at HB hzc ⊢
        have HLL:=Lib.hid hl
        have hk4:¬ ((l + 1:Nat):Int) = 0:=by omega
        have hk5:(0:Int) ≤ (l:Int):=Int.natCast_nonneg _
        have hk6:(l:Int) < ((l + 1:Nat):Int):=by omega
        have hk7:((l + 1:Nat):Int) - 1 = (l:Int):=by omega
        clear hl
        have hxc':(x != (c:Int)) = true:=by simpa using hxc
        clear hxc
        go_wp2_with fail
        refine wp_region_held_drew (S:=fun W=>W.heap[mb + 1]? = some (.cells (pcs++[Value.map (some mb)]).toArray 95 (0,0))) (by kernel_rfl) (show wx.drew.heap[mb + 1]? = _ from HX.out.box) (fun hHeld=>?_)
        refine tk0 0 (some 52) (v:=.pointer (some ⟨(mb + 1),0,none⟩)) rfl hHeld ?_
        refine tk0 1 (some 53) (v:=.pointer (some ⟨(mb + 1),0,none⟩)) rfl hHeld ?_
        refine tk0 2 (some 54) (v:=.pointer (some ⟨(mb + 1),7,none⟩)) rfl hHeld ?_
        refine tk9 3 (some 55) (v:=.map (some mb)) rfl (yields_load_one9 (by kernel_rfl) _ _ rfl (mb + 1) 7 (by kernel_rfl) _ _ Tryz.underlying93 rfl (fun _ h=>cell_row h (by rw [List.getElem?_append_right (by rw [HPL.out];exact Nat.le_refl _),HPL.out];rfl))) hHeld ?_
        refine tk0 4 (some 56) (v:=.int .i64 k) rfl hHeld ?_
        refine tk0 5 (some 57) (v:=.slice (some ⟨g,0,none⟩) (l + 1) cp) rfl hHeld ?_
        refine tk0 6 (some 58) (v:=.int .i64 (c:Int)) rfl hHeld ?_
        have hod:wx.drew.ownsInts (mb + 1) 3 .i64 (.slice (some ⟨g,0,none⟩) (l + 1) cp) zl:=⟨HB.out.1.1.drew,HB.out.1.2⟩
        have hwd:wx.grownBy wx.drew (Value.slice (some ⟨g,0,none⟩) (l + 1) cp).ownBlock:=⟨rfl,rfl,rfl,Nat.le_refl _,fun _ _ _=>rfl⟩
        have hsd:wx.drew.heap.size = wx.heap.size:=rfl
        generalize World.drew _ = wd at hHeld hod hwd hsd ⊢
        have hS8:(wd.alloc (.cells #[.int .i64 (c:Int)] 3)).heap[mb + 1]? = some (.cells (pcs++[Value.map (some mb)]).toArray 95 (0,0)):=(Below.heap_alloc _ _ _ (Array.getElem?_eq_some_iff.1 hHeld).1).trans hHeld
        refine oneLay 7 (some 59) rfl rfl (by kernel_rfl) (by kernel_rfl) (.slice (some ⟨wd.heap.size,0,none⟩) 1 1) [.cells #[.int .i64 (c:Int)] 3] (by kernel_rfl) hS8 ?_
        change wpAnyH _ _ _ _ _ _ _ _ (wd.alloc (.cells #[.int .i64 (c:Int)] 3))
        have hmb:mb + 1 ≤ wd.heap.size:=by have:=(Array.getElem?_eq_some_iff.1 hHeld).1;omega
        refine anyH_append_at 8 (some 60) rfl rfl (by kernel_rfl) (by kernel_rfl) _ _ 24 rfl (mb + 1) 3 i0 (.int .i64 0) 1 8 Tryz.underlying24 hi0 hz0 hz1 hz2 rfl (by decide) (.slice (some ⟨g,0,none⟩) (l + 1) cp) (zl).length (zl.map (Value.int .i64)) (by kernel_rfl) (hod.1.alloc _) ⟨wd.heap.size,0,none⟩ 1 1 [.int .i64 (c:Int)] (by kernel_rfl) rfl (cell_one_new _ _ _) (ints_oneCell .i64 [(c:Int)]) (by unfold maxLen;have:=HB.out.2.1;have:=HLL.out;omega) (by have:=HB.out.2.1;have:=HLL.out;omega) (by rw [World.size_alloc];omega) ?_
        intro v' w7 hown' hgrow hloc
        have hg1:wx.grownBy w7 (Value.slice (some ⟨g,0,none⟩) (l + 1) cp).ownBlock:=hwd.trans ((World.grownBy_alloc wd _ _).trans hgrow)
        have hap:w7.ownsInts (mb + 1) 3 .i64 v' (zl++[(c:Int)]):=hod.appended hown' (wf_of_I64 (by unfold I64;omega))
        obtain ⟨w8,hrun,hown8,hgrow8⟩:=HB.out.2.2 w7 v' (zl++[(c:Int)]) hg1 hap (by rw [List.length_append,List.length_singleton];have:=HB.out.2.1;have:=HLL.out;omega) (hloc.imp id fun h=>⟨_,h,by rw [World.size_alloc];omega⟩)
        have hml:MapL w8 (mb + 1) mb (m + 1) (usersIn p c (pre++[k])):=by
         have:=mapL_put (s:=k) (x:=(c:Int)) HD.out.2.1 HD.out.2.2 (w1:=w7) (v':=v') (by rw [HZL.out];exact hap) (by rw [HZL.out];exact hown8)
         rw [show usersIn p c (pre++[k]) = _ from funext (usersIn_new HKK.out)]
         exact this
        obtain ⟨hF,hkey⟩:=HX.out.put HB.out.1 hg1 hgrow8 hml
        have hS7:w7.heap[mb + 1]? = some (.cells (pcs++[Value.map (some mb)]).toArray 95 (0,0)):=(hg1.block _ (Array.getElem?_eq_some_iff.1 HX.out.box).1 (fun e=>own_ne HB.out.1.1 HX.out.box (by decide) e.symm)).trans HX.out.box
        have HF:=Lib.hid hF
        have hS9:=hF.box
        refine ⟨hS7,anyH_mapUpdate 9 rfl (by kernel_rfl) (by kernel_rfl) _ _ _ _ rfl (by kernel_rfl) (by kernel_rfl) (by kernel_rfl) hrun hS9 ?_⟩
        refine wpAnyH_done (by kernel_rfl) ?_ _
        clear hHeld hod hwd hsd hS8 hmb hown' hgrow hloc hg1 hap hrun hown8 hgrow8 hml hF hkey hS7 hS9
        simp [Act.put]
        go_wp2
        go_roundw
        case rel=>exact ⟨pre++[k],post,m + 1,HP.out.1,by rw [HP.out.2.1];go_num,by rw [HP.out.2.1];have:=HMX.out;omega,HF.out⟩
        case measure=>simp [intOf];omega
     | nil =>
      obtain ⟨hge,hpl⟩:=split_end hpp
      have HE:=Lib.hid (show z.ins = pre by rw [hpp,List.append_nil])
      have HMX:=Lib.hid hm
      clear hpp hpl hm
      go_wp2
      go_roundw
      case rel =>
       refine ⟨c + 1,m,by go_num,by omega,?_,?_⟩
       ·rw [Nat.succ_mul]
        have h1:=HMX.out
        have h2:=HZ.out.2.2.2
        have h3:=congrArg List.length HE.out
        omega
       ·rw [show usersTo p (c + 1) = usersIn p c pre from funext fun k=>by rw [usersTo_next HLV.out,HZ.out.2.2.1,HE.out]]
        exact HX.out
      case measure=>simp [intOf];omega
  ·have hlt':¬ (c:Int) < (p.graph.nodes.length:Int):=by omega
   have hce:c = p.graph.nodes.length:=by omega
   have HCE:=Lib.hid (And.intro hce hn)
   clear hce hn
   go_wp2
   go_ret
   refine ⟨mb + 1,rfl,⟨⟨pcs,mb,n,HJ.out.box,Rep.keep HJ.out.plan.was (Keeps.old_below HJ.out.plan.below (Nat.le_refl _)),?_,?_,HJ.out.plan.below.size⟩⟩,HJ.out.plan.below⟩
   ·have h1:=HJ.out.map
    rw [HCE.out.1] at h1
    exact h1
   ·have h1:=HCE.out.2
    have h2:=HM.out
    have h3:c * M ≤ 1048576 * M:=Nat.mul_le_mul_right _ (by omega)
    unfold maxLen
    omega
end Go.Proofs.YtoeaglpmkjoenaaGreat
set_option linter.unusedSimpArgs false
set_option linter.unusedVariables false
namespace Go.Proofs.YtoeaglpmkjoenaaGreat
open Go.RowKit
open Rep (rep)
def QRow (w:World) (base:Nat) (v:Value) (l:List Int):Prop:=∃ (g off cap:Nat) (cur:Array Value),v = .slice (some ⟨g,off,none⟩) l.length cap∧base ≤ g∧w.heap[g]? = some (.cells cur 3 (0,0))∧l.length ≤ cap∧cap ≤ 9223372036854775807∧off + cap ≤ cur.size∧∀ (j:Nat) (x:Int),l[j]? = some x→cur[off + j]? = some (.int .i64 x)∧I64 x
theorem qrow_one (w:World) {base:Nat} (hb:base ≤ w.heap.size) (x:Int) (hx:I64 x):QRow (w.alloc (.cells #[.int .i64 x] 3)) base (.slice (some ⟨w.heap.size,0,none⟩) 1 1) [x]:=by
 refine ⟨w.heap.size,0,1,_,rfl,hb,heap_alloc_new _ _,Nat.le_refl _,by omega,by simp,fun j y hj=>?_⟩
 match j,hj with
 | 0,hj=>cases hj;exact ⟨rfl,hx⟩
theorem QRow.kept {w w':World} {base:Nat} {v:Value} {l:List Int} {row:Option Nat} (h:QRow w base v l) (hg:w.grownBy w' row) (hne:v.ownBlock ≠ row):QRow w' base v l:=by
 obtain ⟨g,off,cap,cur,hv,h1,h2,h3,h4,h5,h6⟩:=h
 exact ⟨g,off,cap,cur,hv,h1,(hg.block g (Array.getElem?_eq_some_iff.1 h2).1 (fun e=>hne (by rw [hv,← e];rfl))).trans h2,h3,h4,h5,h6⟩
theorem QRow.below {w w':World} {base:Nat} {v:Value} {l:List Int} (h:QRow w base v l) (hb:Below w.heap.size w w'):QRow w' base v l:=by
 obtain ⟨g,off,cap,cur,hv,h1,h2,h3,h4,h5,h6⟩:=h
 exact ⟨g,off,cap,cur,hv,h1,(hb.block g (Array.getElem?_eq_some_iff.1 h2).1).trans h2,h3,h4,h5,h6⟩
theorem QRow.ne {w:World} {base b:Nat} {v:Value} {l:List Int} {cs:Array Value} {t:TypeId} {fr:Nat × Nat} (h:QRow w base v l) (hb:w.heap[b]? = some (.cells cs t fr)) (ht:t ≠ 3):v.ownBlock ≠ some b:=fun e=>by
 obtain ⟨g,off,cap,cur,hv,h1,h2,-⟩:=h
 rw [hv] at e
 injection e with e
 subst e
 rw [h2] at hb
 injection hb with hb
 injection hb with _ hb _
 exact ht hb.symm
theorem QRow.ge {w:World} {base b:Nat} {v:Value} {l:List Int} (h:QRow w base v l) (hb:v.ownBlock = some b):base ≤ b∧b < w.heap.size:=by
 obtain ⟨g,off,cap,cur,hv,h1,h2,-⟩:=h
 rw [hv] at hb
 injection hb with hb
 subst hb
 exact ⟨h1,(Array.getElem?_eq_some_iff.1 h2).1⟩
theorem QRow.head {w:World} {base:Nat} {v:Value} {x:Int} {l:List Int} (h:QRow w base v (x :: l)):∃ (g off cap:Nat),v = .slice (some ⟨g,off,none⟩) (l.length + 1) cap∧l.length + 1 ≤ cap∧cap ≤ 9223372036854775807∧I64 x∧w.cell? ⟨g,off,none⟩ = some (.int .i64 x) ∧
  ∀ q,q = (if cap - 1 = 0 then 0 else 1)→QRow w base (.slice (some ⟨g,off + q,none⟩) l.length (cap - 1)) l:=by
 obtain ⟨g,off,cap,cur,hv,h1,h2,h3,h4,h5,h6⟩:=h
 rw [List.length_cons] at h3 hv
 obtain ⟨hx,hx64⟩:=h6 0 x rfl
 refine ⟨g,off,cap,hv,h3,h4,hx64,(cell_of_row _ _ _ _ _ _ h2).trans (by simpa using hx),fun q hq=>?_⟩
 by_cases hc:cap - 1 = 0
 ·rw [if_pos hc] at hq
  subst hq
  have hl:l = []:=List.length_eq_zero_iff.1 (by omega)
  subst hl
  exact ⟨g,off,cap - 1,cur,rfl,h1,h2,by simp,by omega,by omega,fun j x hj=>by simp at hj⟩
 ·rw [if_neg hc] at hq
  subst hq
  refine ⟨g,off + 1,cap - 1,cur,rfl,h1,h2,by omega,by omega,by omega,fun j y hj=>?_⟩
  have:=h6 (j + 1) y (by simpa using hj)
  rwa [show off + (j + 1) = off + 1 + j by omega] at this
section
variable {P:Program} {ops:Array Oper} {Q:Exit→Act→World→Prop} {a:Act} {w:World} {o:Oper}
theorem wpList_tail {rest:List Oper} (hw:Region.wanted o (yielded ops a.tmps) = true) (x y:Operand) (ho:o.op = .slice 24 x (some y) none none) (b f n c q:Nat) (hx:a.eval x = .slice (some ⟨b,f,none⟩) n c) (hy:a.eval y = .int .i64 ((1:Nat):Int)) (hj:1 ≤ n) (hnc:n ≤ c) (hq:q = if c - 1 = 0 then 0 else 1)
  (h:wpList Tryz.prog ops Q rest (a.put o.dst (.slice (some ⟨b,f + q,none⟩) (n - 1) (c - 1))) w):wpList Tryz.prog ops Q (o :: rest) a w:=by
 rcases yields_postA (S:=fun _=>True) hw x y ho b f n c 1 q hx hy hj hnc hq with ⟨_,hr⟩ | ⟨hn,_⟩
 ·refine wpList_step fun K hK=>?_
  rw [if_pos hw]
  unfold Oper.wp
  rw [hr w trivial]
  exact hK _ _ h
 ·rw [hw] at hn;cases hn
end
section
variable {P:Program} (w:World)
theorem run_append_room_off (t ty e:TypeId) (i:TypeInfo) (ht:P.underlying t = some (.slice e)) (hi:P.info? e = some i)
  (g off sLen sCap:Nat) (cur:Array Value) (hg:w.heap[g]? = some (.cells cur e (0,0)))
  (a:Addr) (m c:Nat) (news:List Value) (hl:news.length = m * i.size) (hnews:∀ j u,news[j]? = some u→w.cell? (a.add j) = some u) (h1:∀ u ∈ news,u.oneCell' = true)
  (hroom:sLen + m ≤ sCap) (hfit:off + sLen * i.size + news.length ≤ cur.size) :
  (Builtin.append_ #[t,t] ty #[.slice (some ⟨g,off,none⟩) sLen sCap,.slice (some a) m c]).run P w =
   .ok (.slice (some ⟨g,off,none⟩) (sLen + m) sCap) (w.setRow g (cur.toList.take (off + sLen * i.size)++news++cur.toList.drop (off + sLen * i.size + news.length)).toArray):=by
 have hf:=run_firstCells_some (P:=P) w i.size m a m c news hl hnews
 have hst:=run_storeCells_at P g (off + sLen * i.size) e news 0 cur w hg (by simpa using hfit) h1
 simp only [Nat.add_zero] at hst
 simp [Builtin.append_,run_underlying ht,sizeOf,typeInfo,hi,Builtin.lenOf,hroom,hf,Addr.add_lit,hst]
end
theorem info_int2:(Tryz.prog.info? 3).map (fun i=>(i.zero,i.size,i.bytes)) = some (some (.int .i64 0),1,8):=by kernel_rfl
theorem run_push {w:World} {base:Nat} {v:Value} {l:List Int} (h:QRow w base v l) (hbase:base ≤ w.heap.size) (ty:TypeId) {p:Nat} {t:TypeId} {fr:Nat × Nat} {y:Int} (hy:I64 y) (hp:w.heap[p]? = some (.cells #[.int .i64 y] t fr)) (hl:l.length ≤ 1000000000000) :
  ∃ v' w',(Builtin.append_ #[24,24] ty #[v,.slice (some ⟨p,0,none⟩) 1 1]).run Tryz.prog w = .ok v' w'∧QRow w' base v' (l++[y])∧w.grownBy w' v.ownBlock:=by
 obtain ⟨i0,hi0,hz0,hz1,hz2⟩:=info_parts info_int2
 obtain ⟨g,off,cap,cur,rfl,h1,h2,h3,h4,h5,h6⟩:=h
 have hnews:∀ j u,([.int .i64 y]:List Value)[j]? = some u→w.cell? ((⟨p,0,none⟩:Addr).add j) = some u:=fun j u hu=>by
  match j,hu with
  | 0,hu=>rw [show (⟨p,0,none⟩:Addr).add 0 = ⟨p,0,none⟩ by unfold Addr.add;split <;> simp_all,cell_of_row _ _ _ _ _ _ hp];exact hu
 have hone:∀ u ∈ ([.int .i64 y]:List Value),u.oneCell' = true:=by simp [Value.oneCell']
 by_cases hroom:l.length + 1 ≤ cap
 ·have hr:=run_append_room_off (P:=Tryz.prog) w 24 ty 3 i0 Tryz.underlying24 hi0 g off l.length cap cur h2 ⟨p,0,none⟩ 1 1 [.int .i64 y] (by rw [hz1];rfl) hnews hone hroom (by rw [hz1,Nat.mul_one,List.length_singleton];omega)
  refine ⟨_,_,hr,?_,grown_setRow _ _ _⟩
  rw [hz1,Nat.mul_one,List.length_singleton]
  refine ⟨g,off,cap,_,by rw [List.length_append];rfl,h1,heap_setRow _ _ _ _ _ h2,by rw [List.length_append,List.length_singleton];exact hroom,h4,?_,fun j x hj=>?_⟩
  ·rw [List.size_toArray,List.length_append,List.length_append,List.length_take,List.length_drop,Array.length_toList (xs:=cur),List.length_singleton];omega
  ·rw [List.getElem?_toArray,List.append_assoc]
   have hlt:(cur.toList.take (off + l.length)).length = off + l.length:=by rw [List.length_take,Array.length_toList (xs:=cur),Nat.min_eq_left (by omega)]
   by_cases hjl:j < l.length
   ·rw [List.getElem?_append_left hjl] at hj
    rw [List.getElem?_append_left (by omega),List.getElem?_take,if_pos (by omega),Array.getElem?_toList]
    exact h6 j x hj
   ·have hjl2:=(List.getElem?_eq_some_iff.1 hj).1
    rw [List.length_append,List.length_singleton] at hjl2
    obtain rfl:j = l.length:=by omega
    rw [List.getElem?_append_right (Nat.le_refl _),Nat.sub_self] at hj
    cases hj
    rw [List.getElem?_append_right (by omega),hlt,Nat.sub_self]
    exact ⟨rfl,hy⟩
 ·have hol:∀ j u,(l.map (Value.int .i64))[j]? = some u→w.cell? ((⟨g,off,none⟩:Addr).add j) = some u:=fun j u hu=>by
   rw [List.getElem?_map] at hu
   cases hx:l[j]? with
   | none=>rw [hx] at hu;cases hu
   | some x =>
    rw [hx] at hu
    cases hu
    rw [show (⟨g,off,none⟩:Addr).add j = ⟨g,off + j,none⟩ by unfold Addr.add;split <;> simp_all,cell_of_row _ _ _ _ _ _ h2]
    exact (h6 j x hx).1
  have hr:=run_append_grow (P:=Tryz.prog) w 24 ty 3 i0 (.int .i64 0) Tryz.underlying24 hi0 hz0 ⟨g,off,none⟩ l.length cap (l.map (Value.int .i64)) (by rw [List.length_map,hz1,Nat.mul_one]) hol ⟨p,0,none⟩ 1 1 [.int .i64 y] (by rw [hz1];rfl) hnews (by omega) (by omega) (growslice_fits (by omega) (by rw [hz2];omega))
  have hge:=grownCap_ge w (l.length + 1) cap 3
  have hcm:grownCap w (l.length + 1) cap 3 ≤ maxLen:=grownCap_le_maxLen w (l.length + 1) cap 3 (by unfold maxLen;omega)
  unfold maxLen at hcm
  refine ⟨_,_,hr,⟨w.heap.size,0,_,_,by rw [List.length_append];rfl,hbase,heap_alloc_new w.drew _,by rw [List.length_append,List.length_singleton];exact hge,by omega,?_,fun j x hj=>?_⟩,⟨rfl,rfl,rfl,by simp,fun k hk _=>Below.heap_alloc _ _ _ hk⟩⟩
  ·simp only [Array.size_append,List.size_toArray,size_zeroCells,List.length_map,List.length_singleton]
   simp [Value.cells]
   omega
  ·have hx:(l++[y]).map (Value.int .i64) = l.map (Value.int .i64)++[.int .i64 y]:=by simp
   have h64:I64 x:=by
    rcases List.mem_append.1 (List.mem_of_getElem? hj) with hm | hm
    ·obtain ⟨k,hk⟩:=List.mem_iff_getElem?.1 hm
     exact (h6 k x hk).2
    ·rw [List.mem_singleton] at hm
     rw [hm];exact hy
   refine ⟨?_,h64⟩
   have hjl:=(List.getElem?_eq_some_iff.1 hj).1
   have hj2:(l.map (Value.int .i64)++[.int .i64 y])[j]? = some (.int .i64 x):=by rw [← hx,List.getElem?_map,hj];rfl
   rw [Nat.zero_add,← Array.getElem?_toList,Array.toList_append,Array.toList_append,List.getElem?_append_left (by simpa using hjl)]
   simpa using hj2
theorem wpList_push {ops:Array Oper} {rest:List Oper} {o:Oper} {a:Act} {w:World} {Q:Exit→Act→World→Prop} (hgd:o.guard = none) (s x:Operand) (ho:o.op = .call { callee:=.builtin .append,args:=#[s,x],argTypes:=#[24,24] })
  {base:Nat} {v:Value} {l:List Int} (hs:a.eval s = v) (hq:QRow w base v l) (hbase:base ≤ w.heap.size) {p:Nat} {t:TypeId} {fr:Nat × Nat} {y:Int} (hy:I64 y) (hx:a.eval x = .slice (some ⟨p,0,none⟩) 1 1) (hp:w.heap[p]? = some (.cells #[.int .i64 y] t fr)) (hl:l.length ≤ 1000000000000)
  (h:∀ v' w',QRow w' base v' (l++[y])→w.grownBy w' v.ownBlock→wpList Tryz.prog ops Q rest (a.put o.dst v') w'):wpList Tryz.prog ops Q (o :: rest) a w:=by
 refine wpList_plain hgd fun K hK=>?_
 obtain ⟨v',w',hr,h2,h3⟩:=run_push hq hbase o.type hy hp hl
 unfold Oper.wp execOp
 simp only [ho,resolve,invoke,builtin,Sem.run_bind,Sem.run_pure,Result.andThen_ok,List.map_toArray,List.map_cons,List.map_nil,hs,hx,hr]
 exact hK _ _ (h v' w' h2 h3)
end Go.Proofs.YtoeaglpmkjoenaaGreat
