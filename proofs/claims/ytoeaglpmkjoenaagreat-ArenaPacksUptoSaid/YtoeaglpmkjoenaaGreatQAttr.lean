/-
  Chapter 10: the outputs' type; the lists of windows; is all there? No condition.
-/
/-
  Chapter 10: what is said of the dims of the outputs, as a law that others may assume. No condition.
-/
/-
  Chapter 10: do the attributes fit? No condition.
-/
import Derived.Test.YtoeaglpmkjoenaaGreatQTyped
import Derived.Test.YtoeaglpmkjoenaaGreatQResV
import Derived.Test.YtoeaglpmkjoenaaGreatQInfK
import Derived.Deep.CutBlock
set_option linter.unusedSimpArgs false
set_option linter.unusedVariables false
namespace Go.Proofs.YtoeaglpmkjoenaaGreat
open Go.RowKit
open Rep (rep)
def OutP (a:AskD) (x:Int):Prop:=a.op = 28 ∨ a.op = 16 ∨ a.op = 2→x = (a.val 0).type
set_option maxRecDepth 100000 in
set_option maxHeartbeats 8000000 in
theorem out_any (cs:List Value) (a:AskD) (w:World) (hr:rep w (old w.heap.size) cs a) :
  Calls Tryz.prog 76 #[.agg cs.toArray] w (ErrP w (OutP a)):=by
 have HO:=Lib.hid (ask_op hr)
 obtain ⟨ss,hs,hc⟩:=ask_set hr
 obtain ⟨B1,j1,B2,j2,B3,j3,B4,j4,hv,hvI,-⟩:=open_TensorD hs.f31
 have h31:ss[31]? = some (.int .i64 a.s.value.type):=by
  have:=List.getElem?_drop (xs:=ss) (i:=31) (j:=0)
  rw [hv] at this
  exact this.symm
 have HC:=Lib.hid (And.intro (hc 15 _ (fld_int hs.f15).1) (And.intro (hc 31 _ h31) (And.intro (fld_int hs.f15).2 hvI)))
 clear hs hc hv hvI h31
 go_enter Tryz.func76,Tryz.ntmps76
 go_wp2_with (with_reducible refine wpList_box_row rfl 107 _ rfl cs rfl ?_;have hX:=ask_start hr;generalize World.alloc _ _ = W0 at hX ⊢;have HX:=Lib.hid hX;clear hX hr;refine halt ?_)
 unfold Halt
 have c0:=HX.out.cell HO.out.1
 obtain ⟨op,hop⟩:∃ op,a.op = op:=⟨_,rfl⟩
 rw [hop] at c0
 have HP:=Lib.hid hop
 clear hop
 by_cases h44:op = 44
 ·subst h44
  have c16:=HX.out.cell HC.out.1
  have HN:Hid (¬ (a.op = 28 ∨ a.op = 16 ∨ a.op = 2)):=Lib.hid (by have:=HP.out;omega)
  go_wp2
  go_ret
  exact ⟨_,rfl,HC.out.2.2.1,HX.out.below,fun e=>absurd e HN.out⟩
 by_cases h62:op = 62
 ·subst h62
  have c32:=HX.out.cell HC.out.2.1
  have HN:Hid (¬ (a.op = 28 ∨ a.op = 16 ∨ a.op = 2)):=Lib.hid (by have:=HP.out;omega)
  go_wp2
  go_ret
  exact ⟨_,rfl,HC.out.2.2.2,HX.out.below,fun e=>absurd e HN.out⟩
 have hf:=val_type
 by_cases h42:op = 42
 ·subst h42
  have HN:Hid (¬ (a.op = 28 ∨ a.op = 16 ∨ a.op = 2)):=Lib.hid (by have:=HP.out;omega)
  go_wp2_with (with_reducible refine wpList_load_agg rfl 107 _ rfl _ _ _ rfl cs Tryz.underlying107 rfl HX.out.size HX.out.at ?_)
  refine (askVal cs a 1 _ HX.out.arg).mono ?_
  rintro e w2 ⟨vs,rfl,hv,hb⟩
  obtain ⟨A1,k1,A2,k2,A3,k3,A4,k4,A5,k5,rfl,hI,-,-⟩:=open_ValD hv
  have H:=Lib.hid (And.intro (HX.out.next hb).below hI)
  clear hv hb hI
  go_wp2
  go_ret
  exact ⟨_,rfl,H.out.2,H.out.1,fun e=>absurd e HN.out⟩
 by_cases hb:op = 22 ∨ op = 23 ∨ op = 24 ∨ op = 25 ∨ op = 26 ∨ op = 27 ∨ op = 37 ∨ op = 38 ∨ op = 39 ∨ op = 40 ∨ op = 41
 ·have HN:Hid (¬ (a.op = 28 ∨ a.op = 16 ∨ a.op = 2)):=Lib.hid (by have:=HP.out;omega)
  rcases hb with rfl | rfl | rfl | rfl | rfl | rfl | rfl | rfl | rfl | rfl | rfl
  all_goals
   go_wp2
   go_ret
   exact ⟨_,rfl,by unfold I64;omega,HX.out.below,fun e=>absurd e HN.out⟩
 by_cases hi:op = 59 ∨ op = 60 ∨ op = 70 ∨ op = 71
 ·have HN:Hid (¬ (a.op = 28 ∨ a.op = 16 ∨ a.op = 2)):=Lib.hid (by have:=HP.out;omega)
  rcases hi with rfl | rfl | rfl | rfl
  all_goals
   go_wp2
   go_ret
   exact ⟨_,rfl,by unfold I64;omega,HX.out.below,fun e=>absurd e HN.out⟩
 have e44:(op == 44) = false:=beq_eq_false_iff_ne.2 (by omega)
 have e62:(op == 62) = false:=beq_eq_false_iff_ne.2 (by omega)
 have e42:(op == 42) = false:=beq_eq_false_iff_ne.2 (by omega)
 have e22:(op == 22) = false:=beq_eq_false_iff_ne.2 (by omega)
 have e23:(op == 23) = false:=beq_eq_false_iff_ne.2 (by omega)
 have e24:(op == 24) = false:=beq_eq_false_iff_ne.2 (by omega)
 have e25:(op == 25) = false:=beq_eq_false_iff_ne.2 (by omega)
 have e26:(op == 26) = false:=beq_eq_false_iff_ne.2 (by omega)
 have e27:(op == 27) = false:=beq_eq_false_iff_ne.2 (by omega)
 have e37:(op == 37) = false:=beq_eq_false_iff_ne.2 (by omega)
 have e38:(op == 38) = false:=beq_eq_false_iff_ne.2 (by omega)
 have e39:(op == 39) = false:=beq_eq_false_iff_ne.2 (by omega)
 have e40:(op == 40) = false:=beq_eq_false_iff_ne.2 (by omega)
 have e41:(op == 41) = false:=beq_eq_false_iff_ne.2 (by omega)
 have e59:(op == 59) = false:=beq_eq_false_iff_ne.2 (by omega)
 have e60:(op == 60) = false:=beq_eq_false_iff_ne.2 (by omega)
 have e70:(op == 70) = false:=beq_eq_false_iff_ne.2 (by omega)
 have e71:(op == 71) = false:=beq_eq_false_iff_ne.2 (by omega)
 clear h44 h62 h42 hb hi
 go_wp2_with (with_reducible refine wpList_load_agg rfl 107 _ rfl _ _ _ rfl cs Tryz.underlying107 rfl HX.out.size HX.out.at ?_)
 refine (askVal cs a 0 _ HX.out.arg).mono ?_
 rintro e w2 ⟨vs,rfl,hv,hb⟩
 obtain ⟨A1,k1,A2,k2,A3,k3,A4,k4,A5,k5,rfl,hI,-,-⟩:=open_ValD hv
 have H:=Lib.hid (And.intro (HX.out.next hb).below hI)
 clear hv hb hI
 go_wp2
 go_ret
 exact ⟨_,rfl,H.out.2,H.out.1,fun _=>rfl⟩
set_option maxRecDepth 100000 in
set_option maxHeartbeats 8000000 in
theorem frames_any (cs:List Value) (a:AskD) (w:World) (hr:rep w (old w.heap.size) cs a) :
  Calls Tryz.prog 132 #[.agg cs.toArray] w fun e w'=>e = .returned (.bool (manyD a.s.strides 2 && manyD a.s.dilations 2 && manyD a.s.pads 4))∧Below w.heap.size w w':=by
 obtain ⟨ss,hs,hc⟩:=ask_set hr
 obtain ⟨Aa,ka,s1,r1⟩:=fld_list hs.f21
 obtain ⟨Ab,kb,s2,r2⟩:=fld_list hs.f23
 obtain ⟨Ac,kc,s3,r3⟩:=fld_list hs.f22
 have HC:=Lib.hid (And.intro (hc 21 _ s1) (And.intro (hc 23 _ s2) (hc 22 _ s3)))
 clear hs hc s1 s2 s3 r1 r2 r3
 go_enter Tryz.func132,Tryz.ntmps132
 go_wp2_with (with_reducible refine wpList_box_row rfl 107 _ rfl cs rfl ?_;have hX:=ask_start hr;generalize World.alloc _ _ = W0 at hX ⊢;have HX:=Lib.hid hX;clear hX hr;refine halt ?_)
 unfold Halt
 have c1:=HX.out.cell HC.out.1
 have c2:=HX.out.cell HC.out.2.1
 have c3:=HX.out.cell HC.out.2.2
 go_wp2_with fail
 refine (many_any a.s.strides Aa ka 2 _).mono ?_
 rintro e w1 ⟨rfl,rfl⟩
 obtain ⟨b1,h1⟩:∃ b,manyD a.s.strides 2 = b:=⟨_,rfl⟩
 rw [h1]
 have H1:=Lib.hid h1
 clear h1
 cases b1 with
 | false =>
  go_wp2
  go_ret
  exact ⟨by rw [H1.out];rfl,HX.out.below⟩
 | true =>
  go_wp2_with fail
  refine (many_any a.s.dilations Ab kb 2 _).mono ?_
  rintro e w2 ⟨rfl,rfl⟩
  obtain ⟨b2,h2⟩:∃ b,manyD a.s.dilations 2 = b:=⟨_,rfl⟩
  rw [h2]
  have H2:=Lib.hid h2
  clear h2
  cases b2 with
  | false =>
   go_wp2
   go_ret
   exact ⟨by rw [H1.out,H2.out];rfl,HX.out.below⟩
  | true =>
   go_wp2_with fail
   refine (many_any a.s.pads Ac kc 4 _).mono ?_
   rintro e w3 ⟨rfl,rfl⟩
   go_wp2
   go_ret
   exact ⟨by rw [H1.out,H2.out];rfl,HX.out.below⟩
def CompP (a:AskD):Prop:=¬ (findD a.op).out = 0∧¬ a.op = 61∧(findD a.op).least ≤ a.ins.length∧(a.ins.length:Int) ≤ (findD a.op).most∧(findD a.op).out ≤ a.outs∧a.outs ≤ (findD a.op).mostOuts∧∀ i:Nat,(i:Int) < (findD a.op).least→a.has i = true
def CompB (a:AskD) (b:Bool):Prop:=b = true ↔ CompP a
set_option maxRecDepth 100000 in
set_option maxHeartbeats 8000000 in
theorem complete_any (cs:List Value) (a:AskD) (w:World) (hr:rep w (old w.heap.size) cs a) :
  Calls Tryz.prog 73 #[.agg cs.toArray] w (BoolP w (CompB a)):=by
 have HO:=Lib.hid (ask_op hr)
 have HU:=Lib.hid (ask_outs hr)
 have HI:=Lib.hid (ask_ins hr)
 go_enter Tryz.func73,Tryz.ntmps73
 go_wp2_with (with_reducible refine wpList_box_row rfl 107 _ rfl cs rfl ?_;have hX:=ask_start hr;generalize World.alloc _ _ = W0 at hX ⊢;have HX:=Lib.hid hX;clear hX hr;refine halt ?_)
 unfold Halt
 have c0:=HX.out.cell HO.out.1
 go_wp2_with fail
 refine (arity_any a.op _ HO.out.2).mono ?_
 rintro e w1 ⟨rfl,hb⟩
 clear c0
 replace HX:=Lib.hid (HX.out.next hb)
 clear hb
 have HD:Hid (CompP a ↔ (¬ (findD a.op).out = 0∧¬ a.op = 61∧(findD a.op).least ≤ a.ins.length∧(a.ins.length:Int) ≤ (findD a.op).most∧(findD a.op).out ≤ a.outs∧a.outs ≤ (findD a.op).mostOuts∧∀ i:Nat,(i:Int) < (findD a.op).least→a.has i = true)):=Lib.hid Iff.rfl
 generalize (findD a.op).out = ro at HD ⊢
 generalize (findD a.op).least = rl at HD ⊢
 generalize (findD a.op).most = rm at HD ⊢
 generalize (findD a.op).mostOuts = rx at HD ⊢
 obtain ⟨Ai,ki,hci,hri⟩:=HI.out
 have c0:=HX.out.cell HO.out.1
 have c37:=HX.out.cell hci
 have c38:=HX.out.cell HU.out.1
 obtain ⟨ib,ib'⟩:=slice_bnd hri
 have hil:a.ins.length * 144 ≤ 140737488351232:=len_bnd hri
 clear hci hri
 generalize hop:a.op = op at HD c0 ⊢
 generalize houts:a.outs = outs at HD c38 ⊢
 clear hop houts
 by_cases h1:ro = 0
 ·subst h1
  have HN:Hid (CompB a false):=Lib.hid ⟨fun e=>(by cases e),fun e=>absurd rfl (HD.out.1 e).1⟩
  go_wp2
  go_ret
  exact ⟨_,rfl,HX.out.below,HN.out⟩
 have h1':(ro == 0) = false:=beq_eq_false_iff_ne.2 h1
 by_cases h2:op = 61
 ·subst h2
  have HN:Hid (CompB a false):=Lib.hid ⟨fun e=>(by cases e),fun e=>absurd rfl (HD.out.1 e).2.1⟩
  go_wp2
  go_ret
  exact ⟨_,rfl,HX.out.below,HN.out⟩
 have h2':(op == 61) = false:=beq_eq_false_iff_ne.2 h2
 by_cases h3:(a.ins.length:Int) < rl
 ·have HN:Hid (CompB a false):=Lib.hid ⟨fun e=>(by cases e),fun e=>by have:=(HD.out.1 e).2.2.1;omega⟩
  clear h1 h2
  go_wp2
  go_ret
  exact ⟨_,rfl,HX.out.below,HN.out⟩
 by_cases h4:(a.ins.length:Int) > rm
 ·have HN:Hid (CompB a false):=Lib.hid ⟨fun e=>(by cases e),fun e=>by have:=(HD.out.1 e).2.2.2.1;omega⟩
  clear h1 h2
  go_wp2
  go_ret
  exact ⟨_,rfl,HX.out.below,HN.out⟩
 by_cases h5:outs < ro
 ·have HN:Hid (CompB a false):=Lib.hid ⟨fun e=>(by cases e),fun e=>by have:=(HD.out.1 e).2.2.2.2.1;omega⟩
  clear h1 h2
  go_wp2
  go_ret
  exact ⟨_,rfl,HX.out.below,HN.out⟩
 by_cases h6:outs > rx
 ·have HN:Hid (CompB a false):=Lib.hid ⟨fun e=>(by cases e),fun e=>by have:=(HD.out.1 e).2.2.2.2.2.1;omega⟩
  clear h1 h2
  go_wp2
  go_ret
  exact ⟨_,rfl,HX.out.below,HN.out⟩
 replace HD:Hid (CompP a ↔ ∀ i:Nat,(i:Int) < rl→a.has i = true):=Lib.hid ⟨fun e=>(HD.out.1 e).2.2.2.2.2.2,fun e=>HD.out.2 ⟨h1,h2,by omega,by omega,by omega,by omega,e⟩⟩
 have hrl:rl ≤ 9223372036854775806:=by omega
 clear h1 h2
 go_wp2_with fail
 clear c0 c37 c38 h1' h2' h3 h4 h5 h6 ib
 go_loopw [50] (fun i wr=>∃ c:Nat,i = .int .i64 c∧(c:Int) ≤ max rl 0∧AskI w cs a wr∧∀ j < c,a.has j = true) (fun i _=>rl.toNat - (intOf i).toNat)
 case atStart=>exact ⟨0,rfl,by omega,HX.out,by omega⟩
 case round =>
  obtain ⟨c,rfl,hcl,hA,hh⟩:=hrel
  have HA:=Lib.hid hA
  have HH:=Lib.hid hh
  clear hA hh
  by_cases hlt:(c:Int) < rl
  ·go_wp2_with (with_reducible refine wpList_load_agg rfl 107 _ rfl _ _ _ rfl cs Tryz.underlying107 rfl HA.out.size HA.out.at ?_)
   refine (askHas cs a c _ HA.out.arg).mono ?_
   rintro e w2 ⟨rfl,hb⟩
   replace HA:=Lib.hid (HA.out.next hb)
   clear hb
   obtain ⟨x,hx⟩:∃ x,a.has c = x:=⟨_,rfl⟩
   rw [hx]
   have HX2:=Lib.hid hx
   clear hx
   cases x with
   | true =>
    go_wp2
    go_roundw
    case rel =>
     refine ⟨c + 1,by go_num,by omega,HA.out,fun j hj=>?_⟩
     by_cases e:j = c
     ·rw [e];exact HX2.out
     ·exact HH.out j (by omega)
    case measure=>simp [intOf];omega
   | false =>
    go_wp2
    go_ret
    exact ⟨_,rfl,HA.out.below,⟨fun e=>(by cases e),fun e=>absurd (HD.out.1 e c hlt) (by rw [HX2.out];decide)⟩⟩
  ·have HL:=Lib.hid hlt
   go_wp2
   go_ret
   exact ⟨_,rfl,HA.out.below,⟨fun _=>HD.out.2 fun j hj=>HH.out j (by have:=HL.out;omega),fun _=>rfl⟩⟩
end Go.Proofs.YtoeaglpmkjoenaaGreat
set_option linter.unusedSimpArgs false
set_option linter.unusedVariables false
namespace Go.Proofs.YtoeaglpmkjoenaaGreat
open Go.RowKit
open Rep (rep)
structure AskD.Ok (a:AskD):Prop where
 perm:a.op = 45→a.s.hasPerm = true→a.s.perm.length = (a.dims 0).length∧∀ k ∈ a.s.perm,0 ≤ k∧k < ((a.dims 0).length:Int)
 axis:a.op = 47 ∨ a.op = 48 ∨ a.op = 50 ∨ a.op = 51 ∨ a.op = 52 ∨ a.op = 80→(axisD a.s.axis ((a.dims 0).length:Int)).2 = 0
 flat:a.op = 58→-((a.dims 0).length:Int) ≤ a.s.axis∧a.s.axis ≤ ((a.dims 0).length:Int)
 block:a.op = 63 ∨ a.op = 64→1 ≤ a.s.block∧a.s.block ≤ 4096
 group:a.op = 75→1 ≤ a.s.group
 frames:a.op = 75 ∨ a.op = 76 ∨ a.op = 77→manyD a.s.strides 2 = true∧manyD a.s.dilations 2 = true∧manyD a.s.pads 4 = true
 kernel:a.op = 76 ∨ a.op = 77→a.s.kernel.length = 2
 outs:a.op = 48→1 ≤ a.outs∧a.outs ≤ 64
 size:(sizeD (a.dims 0)).2 = 0
 two:a.op = 50→(sizeD (a.dims 1)).2 = 0
def PO (a:AskD) (x:Int) (ll:List (List Int)):Prop:=x = 0→(ll.length:Int) = if a.op = 48 then a.outs else 1
theorem po_one {a:AskD} {x:Int} {ll:List (List Int)} (h:¬ a.op = 48) (hp:P1 x ll):PO a x ll:=fun e=>by rw [if_neg h];have:=hp e;omega
def SO (a:AskD) (x:Int) (ll:List (List Int)):Prop:=PO a x ll∧(a.op = 28∧a.even ∨ a.op = 16 ∨ a.op = 2→x = 0∧ll = [a.dims 0])
theorem so_all {a:AskD} {x:Int} {ll:List (List Int)} (h:¬ a.op = 48) (hp:x = 0∧ll = [a.dims 0]):SO a x ll:=⟨po_one h fun _=>by rw [hp.2];rfl,fun _=>hp⟩
def ShapesLaw (a:AskD):Prop:=∀ (cs:List Value) (w:World),rep w (old w.heap.size) cs a→a.Ok→Calls Tryz.prog 75 #[.agg cs.toArray] w (ShP w (SO a))
def RangeOp (x:Int):Prop:=1 ≤ x∧x ≤ 60 ∨ 62 ≤ x∧x ≤ 80
def ShapesAll (g:GraphD):Prop:=∀ a:AskD,RangeOp a.op→(∃ n ∈ g.nodes,a.op = n.op)→ShapesLaw a
end Go.Proofs.YtoeaglpmkjoenaaGreat
set_option linter.unusedSimpArgs false
set_option linter.unusedVariables false
namespace Go.Proofs.YtoeaglpmkjoenaaGreat
open Go.RowKit
open Rep (rep)
structure AskD.Att (a:AskD):Prop where
 perm:a.op = 45→a.s.hasPerm = true→a.s.perm.length = (a.dims 0).length∧∀ k ∈ a.s.perm,0 ≤ k∧k < ((a.dims 0).length:Int)
 axis:a.op = 47 ∨ a.op = 48 ∨ a.op = 50 ∨ a.op = 51 ∨ a.op = 52 ∨ a.op = 80→(axisD a.s.axis ((a.dims 0).length:Int)).2 = 0
 flat:a.op = 58→-((a.dims 0).length:Int) ≤ a.s.axis∧a.s.axis ≤ ((a.dims 0).length:Int)
 block:a.op = 63 ∨ a.op = 64→1 ≤ a.s.block∧a.s.block ≤ 4096
 group:a.op = 75→1 ≤ a.s.group
 frames:a.op = 75 ∨ a.op = 76 ∨ a.op = 77→manyD a.s.strides 2 = true∧manyD a.s.dilations 2 = true∧manyD a.s.pads 4 = true
 kernel:a.op = 76 ∨ a.op = 77→a.s.kernel.length = 2
def AttB (a:AskD) (b:Bool):Prop:=(b = true→a.Att)∧(a.op = 28 ∨ a.op = 16 ∨ a.op = 2→b = true)
theorem att_void {a:AskD} {b:Bool} (h:¬ (a.op = 28 ∨ a.op = 16 ∨ a.op = 2)∧¬ (a.op = 45 ∨ a.op = 47 ∨ a.op = 48 ∨ a.op = 50 ∨ a.op = 51 ∨ a.op = 52 ∨ a.op = 80 ∨ a.op = 58 ∨ a.op = 63 ∨ a.op = 64 ∨ a.op = 75 ∨ a.op = 76 ∨ a.op = 77)):AttB a b :=
 ⟨fun _=>⟨fun e=>by omega,fun e=>by omega,fun e=>by omega,fun e=>by omega,fun e=>by omega,fun e=>by omega,fun e=>by omega⟩,fun e=>absurd e h.1⟩
theorem att_void' {a:AskD} {b:Bool} (hb:b = false ∨ ¬ (a.op = 45 ∨ a.op = 47 ∨ a.op = 48 ∨ a.op = 50 ∨ a.op = 51 ∨ a.op = 52 ∨ a.op = 80 ∨ a.op = 58 ∨ a.op = 63 ∨ a.op = 64 ∨ a.op = 75 ∨ a.op = 76 ∨ a.op = 77)) (h:a.op = 28 ∨ a.op = 16 ∨ a.op = 2→b = true):AttB a b :=
 ⟨fun e=>by
  rcases hb with hb | hb
  ·rw [hb] at e;cases e
  ·exact ⟨fun e=>by omega,fun e=>by omega,fun e=>by omega,fun e=>by omega,fun e=>by omega,fun e=>by omega,fun e=>by omega⟩,h⟩
theorem yields_set {ops:Array Oper} {S:World→Prop} {o:Oper} {c:Act} {w:World} {cs ss:List Value} {a:AskD} (hw:Region.wanted o (yielded ops c.tmps) = true) (x:Operand) (ho:o.op = .load 48 x) (hx:c.eval x = .pointer (some ⟨w.heap.size,1,none⟩))
  (hS:∀ W,S W→AskI w cs a W) (hc:∀ j u,ss[j]? = some u→cs[j + 1]? = some u) (hl:ss.length = 36):YieldsIf Tryz.prog ops S o (.agg ss.toArray) c :=
 .inl ⟨hw,fun W h=>by
  unfold execOp
  simp only [ho,hx,Instr.loadAt,Instr.sureAddr,Sem.run_bind,Sem.run_pure,Result.andThen_ok,run_load_agg W _ _ _ _ ss Tryz.underlying48 rfl (by rw [hl];kernel_rfl) (fun j u hu=>by rw [Nat.add_comm];exact (hS W h).cell (hc j u hu))]⟩
structure AttI (w:World) (cs ss:List Value) (a:AskD) (q:Nat) (W:World):Prop where
 ask:AskI w cs a W
 row:W.heap[q]? = some (.cells ss.toArray 48 (0,0))
 gt:w.heap.size < q
section
variable {w W W':World} {cs ss:List Value} {a:AskD} {q:Nat}
theorem AttI.next (h:AttI w cs ss a q W) (hb:Below W.heap.size W W'):AttI w cs ss a q W':=⟨h.ask.next hb,(hb.block _ (Array.getElem?_eq_some_iff.1 h.row).1).trans h.row,h.gt⟩
theorem AttI.cell (h:AttI w cs ss a q W) {j:Nat} {u:Value} (hu:ss[j]? = some u):W.cell? ⟨q,j,none⟩ = some u:=cell_row h.row hu
theorem att_laid (h:AskI w cs a W) (hq:W.heap[q]? = some (.cells zeroS.toArray 48 (0,0))) (hg:w.heap.size < q) (hl:ss.length = 36):AttI w cs ss a q (W.setRow q (zeroS.take 0++ss++zeroS.drop (0 + ss.length)).toArray):=by
 have e:zeroS.take 0++ss++zeroS.drop (0 + ss.length) = ss:=by rw [List.take_zero,List.nil_append,Nat.zero_add,hl,← zeroS_len,List.drop_length,List.append_nil]
 rw [e]
 exact ⟨h.past hg (below_setRow' (Below.refl _ _) (Nat.le_refl _) _),heap_setRow _ _ _ _ _ hq,hg⟩
end
theorem att1_any (x:Int) (w:World):Calls Tryz.prog 129 #[.int .i64 x] w fun e w'=>e = .returned (.bool (decide (x < 0)))∧w' = w:=by
 go_enter Tryz.func129,Tryz.ntmps129
 go_wp2
 go_ret
 exact ⟨rfl,rfl⟩
set_option maxRecDepth 100000 in
set_option maxHeartbeats 8000000 in
theorem attributes_any (cs:List Value) (a:AskD) (w:World) (hr:rep w (old w.heap.size) cs a) :
  Calls Tryz.prog 102 #[.agg cs.toArray] w (BoolP w (AttB a)):=by
 have HO:=Lib.hid (ask_op hr)
 obtain ⟨ss,hs,hc⟩:=ask_set hr
 have HC:=Lib.hid (And.intro hc (And.intro (SettingDAt.len hs) (Rep.one (α:=SettingD) (show rep w (old w.heap.size) ss a.s from hs))))
 have HS:=Lib.hid hs
 clear hc hs
 go_enter Tryz.func102,Tryz.ntmps102
 go_wp2_with (with_reducible refine wpList_box_row rfl 107 _ rfl cs rfl ?_;have hX:=ask_start hr;generalize World.alloc _ _ = W0 at hX ⊢;have HX:=Lib.hid hX;clear hX hr;refine halt ?_)
 unfold Halt
 have HZ:=Lib.hid (dims_len (i:=0) HX.out)
 have HL:=Lib.hid HX.out.lt
 go_upto_region 1 with (fail)
 go_cut [3,4] from 12 to 15 (fun v u wx=>∃ q:Nat,v = .pointer (some ⟨q,0,none⟩)∧u = .int .i64 ((a.dims 0).length:Int)∧AttI w cs ss a q wx)
 case first =>
  refine wp_region_held_drew (S:=fun W=>AskI w cs a W) (by kernel_rfl) (HX.out.next ((Below.refl _ _).drew)) (fun hHeld=>?_)
  have hV:w.heap.size < W0.drew.heap.size:=HL.out
  have HV:=Lib.hid hV
  clear hV
  generalize World.drew _ = V0 at hHeld HV ⊢
  refine tk0 0 (some 12) (v:=.pointer (some ⟨w.heap.size,1,none⟩)) rfl hHeld ?_
  refine tk9 1 (some 13) (v:=.agg ss.toArray) rfl (yields_set (by kernel_rfl) _ rfl (by kernel_rfl) (fun _ h=>h) HC.out.1 HC.out.2.1) hHeld ?_
  refine tk9 2 (some 14) (v:=.agg cs.toArray) rfl (yields_ask (by kernel_rfl) _ rfl (by kernel_rfl) (fun _ h=>h)) hHeld ?_
  refine anyH_call_lay 3 4 (some 15) rfl rfl (by kernel_rfl) (by kernel_rfl) (by kernel_rfl) 127 _ _ rfl #[.agg cs.toArray] (by kernel_rfl) (fun w=>by kernel_rfl) ?ca ?cb
  case ca =>
   refine (askRank cs a _ hHeld.arg).mono ?_
   rintro e V1 ⟨rfl,hb⟩
   replace hHeld:=hHeld.next hb
   replace HV:Hid (w.heap.size < V1.heap.size):=Lib.hid (Nat.lt_of_lt_of_le HV.out hb.size)
   clear hb
   refine ⟨_,rfl,hHeld,?_⟩
   refine anyH_1 4 rfl (by kernel_rfl) ?_
   refine steps_lay (.pointer (some ⟨V1.heap.size,0,none⟩)) (.cells zeroS.toArray 48) (by kernel_rfl) (by kernel_rfl) (hHeld.next ((Below.refl _ _).alloc (Nat.le_refl _) _)) ?_
   replace hHeld:AskI w cs a (V1.alloc (.cells zeroS.toArray 48)):=hHeld.next ((Below.refl _ _).alloc (Nat.le_refl _) _)
   have hN:=heap_alloc_new V1 (.cells zeroS.toArray 48)
   obtain ⟨q,hq⟩:∃ q,V1.heap.size = q:=⟨_,rfl⟩
   rw [hq] at hN HV ⊢
   clear hq
   generalize World.alloc _ _ = V2 at hHeld hN ⊢
   have HN:=Lib.hid hN
   clear hN
   have hO:=att_laid (ss:=ss) hHeld HN.out HV.out HC.out.2.1
   refine anyH_store_agg 5 rfl (by kernel_rfl) (by kernel_rfl) 48 _ _ rfl q 0 ss (by kernel_rfl) (by kernel_rfl) 48 zeroS HN.out (by rw [HC.out.2.1];kernel_rfl) (by rw [HC.out.2.1,zeroS_len];omega) HC.out.2.2 hO.ask ?_
   generalize World.setRow _ _ _ = V3 at hO ⊢
   refine tk0 6 (some 4) (v:=.int .i64 ((a.dims 0).length:Int)) rfl hO.ask ?_
   refine wpAnyH_done (by kernel_rfl) ?_ _
   have HF:=Lib.hid hO
   clear hHeld
   simp [Act.put]
   go_wp2
   go_meet
   exact ⟨q,rfl,rfl,HF.out⟩
  case cb =>
   refine steps_lay (.pointer (some ⟨V0.heap.size,0,none⟩)) (.cells zeroS.toArray 48) (by kernel_rfl) (by kernel_rfl) (hHeld.next ((Below.refl _ _).alloc (Nat.le_refl _) _)) ?_
   replace hHeld:AskI w cs a (V0.alloc (.cells zeroS.toArray 48)):=hHeld.next ((Below.refl _ _).alloc (Nat.le_refl _) _)
   have hN:=heap_alloc_new V0 (.cells zeroS.toArray 48)
   obtain ⟨q,hq⟩:∃ q,V0.heap.size = q:=⟨_,rfl⟩
   rw [hq] at hN HV ⊢
   clear hq
   generalize World.alloc _ _ = V1 at hHeld hN ⊢
   have HN:=Lib.hid hN
   clear hN
   refine call_d9 3 (some 15) rfl (by kernel_rfl) (by kernel_rfl) (by kernel_rfl) 127 _ _ rfl #[.agg cs.toArray] (by kernel_rfl) (fun w=>by kernel_rfl) ?_
   refine (askRank cs a _ hHeld.arg).mono ?_
   rintro e V2 ⟨rfl,hb⟩
   replace hHeld:=hHeld.next hb
   replace HN:=Lib.hid ((hb.block q (Array.getElem?_eq_some_iff.1 HN.out).1).trans HN.out)
   clear hb
   refine ⟨_,rfl,hHeld,?_⟩
   have hO:=att_laid (ss:=ss) hHeld HN.out HV.out HC.out.2.1
   refine anyH_store_agg 5 rfl (by kernel_rfl) (by kernel_rfl) 48 _ _ rfl q 0 ss (by kernel_rfl) (by kernel_rfl) 48 zeroS HN.out (by rw [HC.out.2.1];kernel_rfl) (by rw [HC.out.2.1,zeroS_len];omega) HC.out.2.2 hO.ask ?_
   generalize World.setRow _ _ _ = V3 at hO ⊢
   refine tk0 6 (some 4) (v:=.int .i64 ((a.dims 0).length:Int)) rfl hO.ask ?_
   refine wpAnyH_done (by kernel_rfl) ?_ _
   have HF:=Lib.hid hO
   clear hHeld
   simp [Act.put]
   go_wp2
   go_meet
   exact ⟨q,rfl,rfl,HF.out⟩
 case rest =>
  obtain ⟨q,rfl,rfl,hI⟩:=hcut
  obtain ⟨wb,rfl⟩:∃ wb,wb = wc:=⟨_,rfl⟩
  replace HX:=Lib.hid hI
  clear hI HL
  have c0:=HX.out.ask.cell HO.out.1
  obtain ⟨op,hop⟩:∃ op,a.op = op:=⟨_,rfl⟩
  rw [hop] at c0
  have HP:=Lib.hid hop
  clear hop
  by_cases h32:op = 32
  ·subst h32
   have HN:Hid (¬ (a.op = 28 ∨ a.op = 16 ∨ a.op = 2)∧¬ (a.op = 45 ∨ a.op = 47 ∨ a.op = 48 ∨ a.op = 50 ∨ a.op = 51 ∨ a.op = 52 ∨ a.op = 80 ∨ a.op = 58 ∨ a.op = 63 ∨ a.op = 64 ∨ a.op = 75 ∨ a.op = 76 ∨ a.op = 77)):=Lib.hid (by have:=HP.out;omega)
   have c14:=HX.out.cell (fld_bool HS.out.f14)
   generalize a.s.fmod = fm at c14
   cases fm with
   | true =>
    go_wp2
    go_ret
    exact ⟨_,rfl,HX.out.ask.below,att_void HN.out⟩
   | false =>
    go_wp2_with (with_reducible refine wpList_load_agg_w (by kernel_rfl) 107 _ rfl _ _ _ rfl cs Tryz.underlying107 rfl HX.out.ask.size HX.out.ask.at ?_)
    refine (askVal cs a 0 _ HX.out.ask.arg).mono ?_
    rintro e w2 ⟨vs,rfl,hv,hb⟩
    obtain ⟨A1,k1,A2,k2,A3,k3,A4,k4,A5,k5,rfl,-,-,-⟩:=open_ValD hv
    replace HX:=Lib.hid (HX.out.next hb)
    clear hv hb
    have hf:=val_type
    go_wp2
    go_ret
    exact ⟨_,rfl,HX.out.ask.below,att_void HN.out⟩
  by_cases h44:op = 44
  ·subst h44
   have HN:Hid (¬ (a.op = 28 ∨ a.op = 16 ∨ a.op = 2)∧¬ (a.op = 45 ∨ a.op = 47 ∨ a.op = 48 ∨ a.op = 50 ∨ a.op = 51 ∨ a.op = 52 ∨ a.op = 80 ∨ a.op = 58 ∨ a.op = 63 ∨ a.op = 64 ∨ a.op = 75 ∨ a.op = 76 ∨ a.op = 77)):=Lib.hid (by have:=HP.out;omega)
   have c15:=HX.out.cell (fld_int HS.out.f15).1
   go_wp2_with fail
   refine (width_any a.s.dest _).mono ?_
   rintro e w2 ⟨rfl,rfl⟩
   generalize widthD a.s.dest = y
   go_wp2
   go_ret
   exact ⟨_,rfl,HX.out.ask.below,att_void HN.out⟩
  by_cases h62:op = 62
  ·subst h62
   have HN:Hid (¬ (a.op = 28 ∨ a.op = 16 ∨ a.op = 2)∧¬ (a.op = 45 ∨ a.op = 47 ∨ a.op = 48 ∨ a.op = 50 ∨ a.op = 51 ∨ a.op = 52 ∨ a.op = 80 ∨ a.op = 58 ∨ a.op = 63 ∨ a.op = 64 ∨ a.op = 75 ∨ a.op = 76 ∨ a.op = 77)):=Lib.hid (by have:=HP.out;omega)
   obtain ⟨B2,j2,B3,j3,B4,j4,B5,j5,htv,-,-,t2,t3,t4⟩:=open_TensorD HS.out.f31
   have hat:At wb q 31 [.int .i64 a.s.value.type,.slice B2 a.s.value.dims.length j2,.slice B3 a.s.value.f.length j3,.slice B4 a.s.value.i.length j4,.slice B5 a.s.value.b.length j5]:=fun j u hu=>HX.out.cell (by rw [← htv,List.getElem?_drop] at hu;exact hu)
   have hRV:rep w (old w.heap.size) [.int .i64 a.s.value.type,.slice B2 a.s.value.dims.length j2,.slice B3 a.s.value.f.length j3,.slice B4 a.s.value.i.length j4,.slice B5 a.s.value.b.length j5] a.s.value:=by rw [← htv];exact HS.out.f31
   have m2:a.s.value.f.length * 4 ≤ 140737488351232:=len_bnd t2
   have m3:a.s.value.i.length * 8 ≤ 140737488351232:=len_bnd t3
   have m4:a.s.value.b.length * 1 ≤ 140737488351232:=len_bnd t4
   obtain ⟨n2,n2'⟩:=slice_bnd t2
   obtain ⟨n3,n3'⟩:=slice_bnd t3
   obtain ⟨n4,n4'⟩:=slice_bnd t4
   have c33:wb.cell? ⟨q,33,none⟩ = some (.slice B3 a.s.value.f.length j3):=hat 2 _ rfl
   have c34:wb.cell? ⟨q,34,none⟩ = some (.slice B4 a.s.value.i.length j4):=hat 3 _ rfl
   have c35:wb.cell? ⟨q,35,none⟩ = some (.slice B5 a.s.value.b.length j5):=hat 4 _ rfl
   have HT:=Lib.hid (And.intro hat hRV)
   clear htv hat hRV t2 t3 t4
   by_cases h1:(a.s.value.f.length:Int) + (a.s.value.i.length:Int) + (a.s.value.b.length:Int) = 1
   ·go_wp2_with (with_reducible refine wpList_load_agg_w (by kernel_rfl) 43 _ rfl _ _ _ rfl [.int .i64 a.s.value.type,.slice B2 a.s.value.dims.length j2,.slice B3 a.s.value.f.length j3,.slice B4 a.s.value.i.length j4,.slice B5 a.s.value.b.length j5] Tryz.underlying43 rfl (by kernel_rfl) HT.out.1 ?_)
    refine (tcheck_any _ a.s.value _ (Rep.more (Rep.keep HT.out.2 (Keeps.old_below HX.out.ask.below (Nat.le_refl _))) (old_le HX.out.ask.below.size))).mono ?_
    rintro e w2 ⟨rfl,hb⟩
    replace HX:=Lib.hid (HX.out.next hb)
    clear hb
    generalize tcheckD a.s.value = y
    go_wp2
    go_ret
    exact ⟨_,rfl,HX.out.ask.below,att_void HN.out⟩
   ·have h1':((a.s.value.f.length:Int) + (a.s.value.i.length:Int) + (a.s.value.b.length:Int) == 1) = false:=beq_eq_false_iff_ne.2 h1
    clear h1
    go_wp2
    go_ret
    exact ⟨_,rfl,HX.out.ask.below,att_void HN.out⟩
  by_cases hbk:op = 63 ∨ op = 64
  ·rcases hbk with rfl | rfl
   all_goals
    have c27:=HX.out.cell (fld_int HS.out.f27).1
    have HB:Hid (a.s.block = a.s.block):=Lib.hid rfl
    by_cases h1:a.s.block ≥ 1
    ·have H1:=Lib.hid h1
     have HP2:=HP
     go_wp2
     go_ret
     refine ⟨_,rfl,HX.out.ask.below,⟨fun e=>?_,fun e=>?_⟩⟩
     ·have h2:=of_decide_eq_true e
      have h3:=HP.out
      exact ⟨fun e=>by omega,fun e=>by omega,fun e=>by omega,fun _=>⟨H1.out,h2⟩,fun e=>by omega,fun e=>by omega,fun e=>by omega⟩
     ·have:=HP.out;omega
    ·have HP2:=HP
     go_wp2
     go_ret
     exact ⟨false,rfl,HX.out.ask.below,att_void' (.inl rfl) (by have:=HP.out;omega)⟩
  by_cases hax:op = 47 ∨ op = 48 ∨ op = 50 ∨ op = 51 ∨ op = 52 ∨ op = 70 ∨ op = 71 ∨ op = 72 ∨ op = 80
  ·rcases hax with rfl | rfl | rfl | rfl | rfl | rfl | rfl | rfl | rfl
   all_goals
    have c5:=HX.out.cell (fld_int HS.out.f0).1
    have HI:=Lib.hid (fld_int HS.out.f0).2
    have hlen:=HZ.out
    go_wp2_with fail
    refine (axis_any a.s.axis (a.dims 0).length _ HI.out (by unfold I64;omega) (by omega)).mono ?_
    rintro e w2 ⟨rfl,rfl⟩
    have HE:Hid ((axisD a.s.axis ((a.dims 0).length:Int)).2 = (axisD a.s.axis ((a.dims 0).length:Int)).2):=Lib.hid rfl
    obtain ⟨y,hy⟩:∃ y,axisD a.s.axis ((a.dims 0).length:Int) = y:=⟨_,rfl⟩
    rw [hy]
    replace HE:=Lib.hid hy
    clear hy
    obtain ⟨y1,y2⟩:=y
    simp only
    go_wp2
    go_ret
    refine ⟨_,rfl,HX.out.ask.below,⟨fun e=>?_,fun e=>?_⟩⟩
    ·have h2:y2 = 0:=by simpa using e
     have h3:=HP.out
     exact ⟨fun e=>by omega,fun _=>by rw [HE.out];exact h2,fun e=>by omega,fun e=>by omega,fun e=>by omega,fun e=>by omega,fun e=>by omega⟩
    ·have:=HP.out;omega
  by_cases h58:op = 58
  ·subst h58
   have c5:=HX.out.cell (fld_int HS.out.f0).1
   have HI:=Lib.hid (fld_int HS.out.f0).2
   have hlen:=HZ.out
   have hn1:(-9223372036854775808:Int) ≤ -((a.dims 0).length:Int):=by omega
   have hn2:-((a.dims 0).length:Int) ≤ (9223372036854775807:Int):=by omega
   have hneg:IntKind.i64.wrap (-((a.dims 0).length:Int)) = -((a.dims 0).length:Int):=IntWalk.i64_in _ (by omega)
   by_cases h1:a.s.axis ≥ -((a.dims 0).length:Int)
   ·have H1:=Lib.hid h1
    go_wp2
    go_ret
    refine ⟨_,rfl,HX.out.ask.below,⟨fun e=>?_,fun e=>?_⟩⟩
    ·have h2:=of_decide_eq_true e
     have h3:=HP.out
     exact ⟨fun e=>by omega,fun e=>by omega,fun _=>⟨H1.out,h2⟩,fun e=>by omega,fun e=>by omega,fun e=>by omega,fun e=>by omega⟩
    ·have:=HP.out;omega
   ·skip
    go_wp2
    go_ret
    exact ⟨false,rfl,HX.out.ask.below,att_void' (.inl rfl) (by have:=HP.out;omega)⟩
  by_cases hrd:op = 66 ∨ op = 67 ∨ op = 68 ∨ op = 69
  ·rcases hrd with rfl | rfl | rfl | rfl
   all_goals
    have HN:Hid (¬ (a.op = 28 ∨ a.op = 16 ∨ a.op = 2)∧¬ (a.op = 45 ∨ a.op = 47 ∨ a.op = 48 ∨ a.op = 50 ∨ a.op = 51 ∨ a.op = 52 ∨ a.op = 80 ∨ a.op = 58 ∨ a.op = 63 ∨ a.op = 64 ∨ a.op = 75 ∨ a.op = 76 ∨ a.op = 77)):=Lib.hid (by have:=HP.out;omega)
    obtain ⟨Ax,kx,s1,r1⟩:=fld_list HS.out.f1
    have c6:=HX.out.cell s1
    have HR:Hid (rep wb (old wb.heap.size) [.slice Ax a.s.axes.length kx] a.s.axes):=Lib.hid (Rep.more (Rep.keep r1 (Keeps.old_below HX.out.ask.below (Nat.le_refl _))) (old_le HX.out.ask.below.size))
    obtain ⟨xb,xb'⟩:=slice_bnd r1
    have hlen:=HZ.out
    clear s1 r1
    go_wp2_with fail
    refine (axes_any a.s.axes Ax kx _ _ HR.out (by unfold I64;omega)).mono ?_
    rintro e w2 ⟨B,j,x,bs,rfl,hx,hb,-,-,-⟩
    replace HX:=Lib.hid (HX.out.next hb)
    clear hb hx
    go_wp2
    go_ret
    exact ⟨_,rfl,HX.out.ask.below,att_void HN.out⟩
  by_cases h45:op = 45
  ·subst h45
   obtain ⟨Ax,kx,s1,r1⟩:=fld_list HS.out.f7
   have c7:=HX.out.cell s1
   have c8:=HX.out.cell (fld_bool HS.out.f8)
   have HR:Hid (rep wb (old wb.heap.size) [.slice Ax a.s.perm.length kx] a.s.perm):=Lib.hid (Rep.more (Rep.keep r1 (Keeps.old_below HX.out.ask.below (Nat.le_refl _))) (old_le HX.out.ask.below.size))
   have HC7:=Lib.hid (And.intro s1 (fld_bool HS.out.f8))
   obtain ⟨xb,xb'⟩:=slice_bnd r1
   have hlen:=HZ.out
   clear s1 r1
   go_wp2_with fail
   refine (axes_any a.s.perm Ax kx _ _ HR.out (by unfold I64;omega)).mono ?_
   rintro e w2 ⟨B,j,x,bs,rfl,hx,hb,hbs,h0,-⟩
   replace HX:=Lib.hid (HX.out.next hb)
   replace HR:Hid (rep w2 (old w2.heap.size) [.slice Ax a.s.perm.length kx] a.s.perm):=Lib.hid (Rep.more (Rep.keep HR.out (Keeps.old_below hb (Nat.le_refl _))) (old_le hb.size))
   have H0:=Lib.hid h0
   obtain ⟨yb,yb'⟩:=slice_bnd hbs
   clear hb hx hbs h0 c7 c8
   have c7:=HX.out.cell HC7.out.1
   have c8:=HX.out.cell HC7.out.2
   obtain ⟨hp,hhp⟩:∃ hp,a.s.hasPerm = hp:=⟨_,rfl⟩
   rw [hhp] at c8
   have HH:=Lib.hid hhp
   clear hhp
   cases hp with
   | false =>
    go_wp2
    go_ret
    refine ⟨_,rfl,HX.out.ask.below,⟨fun _=>?_,by have:=HP.out;omega⟩⟩
    have h3:=HP.out
    exact ⟨fun _ e=>by (rw [HH.out] at e;cases e),fun e=>by omega,fun e=>by omega,fun e=>by omega,fun e=>by omega,fun e=>by omega,fun e=>by omega⟩
   | true =>
    by_cases hx0:x = 0
    ·have H00:=Lib.hid (H0.out hx0)
     subst hx0
     by_cases hl:(a.s.perm.length:Int) = (bs.length:Int)
     ·have HLL:=Lib.hid hl
      go_wp2_with fail
      refine (containsInts0_any a.s.perm _ 129 (fun d=>decide (d < 0)) (fun W=>W = w2) w2 (fun _ _=>rfl) HR.out rfl (fun W h=>by rw [h];exact Below.refl _ _) fun x _ _ W hW=>(att1_any x W).mono (by rintro e w' ⟨rfl,rfl⟩;exact ⟨rfl,hW⟩)).mono ?_
      rintro e w3 ⟨rfl,rfl⟩
      obtain ⟨t1,ht1⟩:∃ t,(a.s.perm.any fun d=>decide (d < 0)) = t:=⟨_,rfl⟩
      rw [ht1]
      have HT:=Lib.hid ht1
      clear ht1
      go_wp2
      go_ret
      refine ⟨!t1,rfl,HX.out.ask.below,⟨fun e=>?_,by have:=HP.out;omega⟩⟩
      have h3:=HP.out
      refine ⟨fun _ _=>?_,fun e=>by omega,fun e=>by omega,fun e=>by omega,fun e=>by omega,fun e=>by omega,fun e=>by omega⟩
      obtain ⟨e1,e2,e3,e4⟩:=H00.out
      have e5:=HLL.out
      refine ⟨by omega,fun k hk=>?_⟩
      have e6:t1 = false:=by cases t1 with
       | false=>rfl
       | true=>cases e
      have e7:=List.any_eq_false.1 (HT.out.trans e6) k hk
      have e8:¬ k < 0:=by simpa using e7
      have e9:=e3 k hk
      unfold axisD at e9
      have e10:¬ ((a.dims 0).length:Int) < 0:=by omega
      rw [if_neg e10] at e9
      by_cases e11:0 ≤ k∧k < ((a.dims 0).length:Int)
      ·exact e11
      ·rw [if_neg e11,if_neg (by omega)] at e9
       cases e9
     ·have hl':((a.s.perm.length:Int) == (bs.length:Int)) = false:=beq_eq_false_iff_ne.2 hl
      clear hl
      go_wp2
      go_ret
      exact ⟨false,rfl,HX.out.ask.below,att_void' (.inl rfl) (by have:=HP.out;omega)⟩
    ·have hx':(x == 0) = false:=beq_eq_false_iff_ne.2 hx0
     clear hx0
     go_wp2
     go_ret
     exact ⟨false,rfl,HX.out.ask.below,att_void' (.inl rfl) (by have:=HP.out;omega)⟩
  by_cases h75:op = 75
  ·subst h75
   obtain ⟨Ax,kx,s1,r1⟩:=fld_list HS.out.f20
   have c20:=HX.out.cell s1
   obtain ⟨xb,xb'⟩:=slice_bnd r1
   clear s1 r1
   have c19:=HX.out.cell (fld_int HS.out.f19).1
   by_cases h1:a.s.group ≥ 1
   ·have H1:=Lib.hid h1
    by_cases h2:a.s.group ≤ 4096
    ·go_wp2_with fail
     refine (many_any a.s.kernel Ax kx 2 _).mono ?_
     rintro e w2 ⟨rfl,rfl⟩
     obtain ⟨t1,ht1⟩:∃ t,manyD a.s.kernel 2 = t:=⟨_,rfl⟩
     rw [ht1]
     clear ht1
     cases t1 with
     | false =>
      go_wp2
      go_ret
      exact ⟨false,rfl,HX.out.ask.below,att_void' (.inl rfl) (by have:=HP.out;omega)⟩
     | true =>
      go_wp2_with (with_reducible refine wpList_load_agg_w (by kernel_rfl) 107 _ rfl _ _ _ rfl cs Tryz.underlying107 rfl HX.out.ask.size HX.out.ask.at ?_)
      refine (frames_any cs a _ HX.out.ask.arg).mono ?_
      rintro e w3 ⟨rfl,hb⟩
      replace HX:=Lib.hid (HX.out.next hb)
      clear hb
      obtain ⟨t2,ht2⟩:∃ t,(manyD a.s.strides 2 && manyD a.s.dilations 2 && manyD a.s.pads 4) = t:=⟨_,rfl⟩
      rw [ht2]
      have HT2:=Lib.hid ht2
      clear ht2
      go_wp2
      go_ret
      refine ⟨t2,rfl,HX.out.ask.below,⟨fun e=>?_,by have:=HP.out;omega⟩⟩
      have h3:=HP.out
      have h4:=HT2.out.trans e
      rw [Bool.and_eq_true,Bool.and_eq_true] at h4
      exact ⟨fun e=>by omega,fun e=>by omega,fun e=>by omega,fun e=>by omega,fun _=>H1.out,fun _=>⟨h4.1.1,h4.1.2,h4.2⟩,fun e=>by omega⟩
    ·skip
     go_wp2
     go_ret
     exact ⟨false,rfl,HX.out.ask.below,att_void' (.inl rfl) (by have:=HP.out;omega)⟩
   ·skip
    go_wp2
    go_ret
    exact ⟨false,rfl,HX.out.ask.below,att_void' (.inl rfl) (by have:=HP.out;omega)⟩
  by_cases hpl:op = 76 ∨ op = 77
  ·rcases hpl with rfl | rfl
   all_goals
    obtain ⟨Ax,kx,s1,r1⟩:=fld_list HS.out.f20
    have c20:=HX.out.cell s1
    obtain ⟨xb,xb'⟩:=slice_bnd r1
    clear s1 r1
    by_cases h1:(a.s.kernel.length:Int) = 2
    ·have H1:=Lib.hid h1
     go_wp2_with (with_reducible refine wpList_load_agg_w (by kernel_rfl) 107 _ rfl _ _ _ rfl cs Tryz.underlying107 rfl HX.out.ask.size HX.out.ask.at ?_)
     refine (frames_any cs a _ HX.out.ask.arg).mono ?_
     rintro e w3 ⟨rfl,hb⟩
     replace HX:=Lib.hid (HX.out.next hb)
     clear hb
     obtain ⟨t2,ht2⟩:∃ t,(manyD a.s.strides 2 && manyD a.s.dilations 2 && manyD a.s.pads 4) = t:=⟨_,rfl⟩
     rw [ht2]
     have HT2:=Lib.hid ht2
     clear ht2
     go_wp2
     go_ret
     refine ⟨t2,rfl,HX.out.ask.below,⟨fun e=>?_,by have:=HP.out;omega⟩⟩
     have h3:=HP.out
     have h4:=HT2.out.trans e
     rw [Bool.and_eq_true,Bool.and_eq_true] at h4
     exact ⟨fun e=>by omega,fun e=>by omega,fun e=>by omega,fun e=>by omega,fun e=>by omega,fun _=>⟨h4.1.1,h4.1.2,h4.2⟩,fun _=>by have:=H1.out;omega⟩
    ·have h1':((a.s.kernel.length:Int) == 2) = false:=beq_eq_false_iff_ne.2 h1
     clear h1
     go_wp2
     go_ret
     exact ⟨false,rfl,HX.out.ask.below,att_void' (.inl rfl) (by have:=HP.out;omega)⟩
  have HN:Hid (¬ (a.op = 45 ∨ a.op = 47 ∨ a.op = 48 ∨ a.op = 50 ∨ a.op = 51 ∨ a.op = 52 ∨ a.op = 80 ∨ a.op = 58 ∨ a.op = 63 ∨ a.op = 64 ∨ a.op = 75 ∨ a.op = 76 ∨ a.op = 77)):=Lib.hid (by have:=HP.out;omega)
  have e32:(op == 32) = false:=beq_eq_false_iff_ne.2 (by omega)
  have e44:(op == 44) = false:=beq_eq_false_iff_ne.2 (by omega)
  have e62:(op == 62) = false:=beq_eq_false_iff_ne.2 (by omega)
  have e63:(op == 63) = false:=beq_eq_false_iff_ne.2 (by omega)
  have e64:(op == 64) = false:=beq_eq_false_iff_ne.2 (by omega)
  have e45:(op == 45) = false:=beq_eq_false_iff_ne.2 (by omega)
  have e47:(op == 47) = false:=beq_eq_false_iff_ne.2 (by omega)
  have e48:(op == 48) = false:=beq_eq_false_iff_ne.2 (by omega)
  have e50:(op == 50) = false:=beq_eq_false_iff_ne.2 (by omega)
  have e51:(op == 51) = false:=beq_eq_false_iff_ne.2 (by omega)
  have e52:(op == 52) = false:=beq_eq_false_iff_ne.2 (by omega)
  have e70:(op == 70) = false:=beq_eq_false_iff_ne.2 (by omega)
  have e71:(op == 71) = false:=beq_eq_false_iff_ne.2 (by omega)
  have e72:(op == 72) = false:=beq_eq_false_iff_ne.2 (by omega)
  have e80:(op == 80) = false:=beq_eq_false_iff_ne.2 (by omega)
  have e58:(op == 58) = false:=beq_eq_false_iff_ne.2 (by omega)
  have e66:(op == 66) = false:=beq_eq_false_iff_ne.2 (by omega)
  have e67:(op == 67) = false:=beq_eq_false_iff_ne.2 (by omega)
  have e68:(op == 68) = false:=beq_eq_false_iff_ne.2 (by omega)
  have e69:(op == 69) = false:=beq_eq_false_iff_ne.2 (by omega)
  have e75:(op == 75) = false:=beq_eq_false_iff_ne.2 (by omega)
  have e76:(op == 76) = false:=beq_eq_false_iff_ne.2 (by omega)
  have e77:(op == 77) = false:=beq_eq_false_iff_ne.2 (by omega)
  clear h32 h44 h62 hbk hax h58 hrd h45 h75 hpl
  go_wp2
  go_ret
  exact ⟨true,rfl,HX.out.ask.below,att_void' (.inr HN.out) (fun _=>rfl)⟩
end Go.Proofs.YtoeaglpmkjoenaaGreat
