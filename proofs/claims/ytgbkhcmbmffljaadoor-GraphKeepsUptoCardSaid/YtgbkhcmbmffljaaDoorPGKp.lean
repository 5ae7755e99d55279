/-
  The law GraphKeeps: its walk.
-/
import Derived.Deep.DeepCutAuto
import Derived.Test.YtgbkhcmbmffljaaDoorPGAwk
import Derived.Test.YtgbkhcmbmffljaaDoorPRefP
import Derived.Test.YtgbkhcmbmffljaaDoorPGSm9
import Derived.Test.YtgbkhcmbmffljaaDoorPWorn
import Derived.Test.YtgbkhcmbmffljaaDoorPGSound
import Derived.Test.YtgbkhcmbmffljaaDoorPGNode
set_option linter.unusedSimpArgs false
set_option linter.unusedVariables false
namespace Go.Proofs.YtgbkhcmbmffljaaDoor
open Go.RowKit
open Rep (rep)
theorem yields_xor1 {P:Program} {ops:Array Oper} {S:World→Prop} {o:Oper} {a:Act} (hw:Region.wanted o (yielded ops a.tmps) = true) (x y:Operand) (t u:TypeId) (ho:o.op = .binOp .xor t x y u) (p q:Int) (hx:a.eval x = .int .u32 p) (hy:a.eval y = .int .u32 1)
  (ht:P.underlying t = some (.int .u32)) (hq:bits .xor .u32 p 1 = q):YieldsIf P ops S o (.int .u32 q) a :=
 .inl ⟨hw,fun w h=>by
  subst hq
  unfold execOp
  simp only [ho,hx,hy]
  go_simp⟩
set_option maxRecDepth 100000 in
set_option maxHeartbeats 40000000 in
theorem keeps_any (gcs:List Value) (g:GraphD) (w:World) (ht:Tab w) (hr:rep w (old w.heap.size) gcs g) (hs1:g.outputs.length ≤ 1048576) (hs2:g.nodes.length ≤ 1048576) (hs3:∀ x ∈ g.nodes,x.ins.length ≤ 1048576) (hs4:g.vals.length ≤ 1048576) :
  Calls Tryd.prog 10 #[.agg gcs.toArray] w (YesBelow w):=by
 have hrn:=hr
 obtain ⟨A1,k1,A2,k2,A3,k3,A4,k4,rfl,-,-,-,-⟩:=open_GraphD hr
 have HT:=Lib.hid (And.intro ht (And.intro hrn (And.intro hs1 (And.intro hs2 hs3))))
 have hsp:(pruneD g).nodes.length ≤ 1048576:=Nat.le_trans (keepD_le _ _) hs2
 clear hr hrn ht hs3
 go_enter Tryd.func10,Tryd.ntmps10
 go_wp2_with fail
 have hX:BoxInv w 63 ([.slice A1 g.vals.length k1,.slice A2 g.nodes.length k2,.slice A3 g.inputs.length k3,.slice A4 g.outputs.length k4]:List Value) (w.alloc (.cells ([.slice A1 g.vals.length k1,.slice A2 g.nodes.length k2,.slice A3 g.inputs.length k3,.slice A4 g.outputs.length k4]:List Value).toArray 63)):=box_start w 63 ([.slice A1 g.vals.length k1,.slice A2 g.nodes.length k2,.slice A3 g.inputs.length k3,.slice A4 g.outputs.length k4]:List Value)
 generalize World.alloc _ _ = W0 at hX ⊢
 have HI:=Lib.hid hX
 clear hX
 refine (awake9_any W0 (HT.out.1.ext HI.out.below)).mono ?_
 rintro e w1 ⟨rfl,hb⟩
 have HI1:=Lib.hid (HI.out.next hb)
 clear hb
 go_wp2_with (with_reducible refine wpList_load_agg rfl 63 _ rfl _ w.heap.size 0 rfl ([.slice A1 g.vals.length k1,.slice A2 g.nodes.length k2,.slice A3 g.inputs.length k3,.slice A4 g.outputs.length k4]:List Value) Tryd.underlying63 rfl (by kernel_rfl) (At.of_row HI1.out.row) ?_)
 refine (prune_any ([.slice A1 g.vals.length k1,.slice A2 g.nodes.length k2,.slice A3 g.inputs.length k3,.slice A4 g.outputs.length k4]:List Value) g w1 (HI1.out.keeps' HT.out.2.1) HT.out.2.2.1 HT.out.2.2.2.1 HT.out.2.2.2.2).mono ?_
 rintro e w2 ⟨pcs,rfl,hp,hb⟩
 have hp0:=hp
 obtain ⟨V0,c0,V1,c1,V2,c2,V3,c3,hpe,p1,p2,p3,p4⟩:=open_GraphD hp
 replace hpe:pcs = ([.slice V0 g.vals.length c0,.slice V1 (pruneD g).nodes.length c1,.slice V2 g.inputs.length c2,.slice V3 g.outputs.length c3]:List Value):=hpe
 subst hpe
 have hvb:=slice_bnd p1
 have hnb:=slice_bnd p2
 have HP2:=Lib.hid (And.intro p1 (And.intro p2 (And.intro p4 hp0)))
 have HB2:=Lib.hid hb
 have HI2:=Lib.hid (HI1.out.next hb)
 clear hp hp0 hb p1 p2 p3 p4
 go_wp2_with (first
  |(with_reducible refine wpList_alloc_row rfl 63 rfl ([.slice none 0 0,.slice none 0 0,.slice none 0 0,.slice none 0 0]:List Value) zero4C ?_)
  |(with_reducible refine wpList_store_agg rfl 63 _ _ rfl _ 0 ([.slice V0 g.vals.length c0,.slice V1 (pruneD g).nodes.length c1,.slice V2 g.inputs.length c2,.slice V3 g.outputs.length c3]:List Value) rfl rfl 63 ([.slice none 0 0,.slice none 0 0,.slice none 0 0,.slice none 0 0]:List Value) (heap_alloc_new _ _) (by kernel_rfl) (of_decide_eq_true (by kernel_rfl)) (by simp [Value.oneCell']) ?_;have hX:=laid_row w2 63 ([.slice none 0 0,.slice none 0 0,.slice none 0 0,.slice none 0 0]:List Value) ([.slice V0 g.vals.length c0,.slice V1 (pruneD g).nodes.length c1,.slice V2 g.inputs.length c2,.slice V3 g.outputs.length c3]:List Value) rfl;generalize World.setRow _ _ _ = w3 at hX ⊢;have HI3:=Lib.hid (HI2.out.next hX.1);have HX3:=Lib.hid hX;clear hX;refine halt ?_))
 unfold Halt
 go_wp2_with (with_reducible refine wpList_load_agg rfl 63 _ rfl _ w.heap.size 0 rfl ([.slice A1 g.vals.length k1,.slice A2 g.nodes.length k2,.slice A3 g.inputs.length k3,.slice A4 g.outputs.length k4]:List Value) Tryd.underlying63 rfl (by kernel_rfl) (At.of_row HI3.out.row) ?_)
 refine (prune_any ([.slice A1 g.vals.length k1,.slice A2 g.nodes.length k2,.slice A3 g.inputs.length k3,.slice A4 g.outputs.length k4]:List Value) g w3 (HI3.out.keeps' HT.out.2.1) HT.out.2.2.1 HT.out.2.2.2.1 HT.out.2.2.2.2).mono ?_
 rintro e w4 ⟨fcs,rfl,hp,hb⟩
 have hp0:=hp
 obtain ⟨F0,f0,F1,f1,F2,f2,F3,f3,hpe,-,-,-,-⟩:=open_GraphD hp
 replace hpe:fcs = ([.slice F0 g.vals.length f0,.slice F1 (pruneD g).nodes.length f1,.slice F2 g.inputs.length f2,.slice F3 g.outputs.length f3]:List Value):=hpe
 subst hpe
 have HP4:=Lib.hid (And.intro hp0 hb)
 have HI4:=Lib.hid (HI3.out.next hb)
 clear hp hp0 hb
 go_wp2_with (first
  |(with_reducible refine wpList_alloc_row rfl 63 rfl ([.slice none 0 0,.slice none 0 0,.slice none 0 0,.slice none 0 0]:List Value) zero4C ?_)
  |(with_reducible refine wpList_store_agg rfl 63 _ _ rfl _ 0 ([.slice F0 g.vals.length f0,.slice F1 (pruneD g).nodes.length f1,.slice F2 g.inputs.length f2,.slice F3 g.outputs.length f3]:List Value) rfl rfl 63 ([.slice none 0 0,.slice none 0 0,.slice none 0 0,.slice none 0 0]:List Value) (heap_alloc_new _ _) (by kernel_rfl) (of_decide_eq_true (by kernel_rfl)) (by simp [Value.oneCell']) ?_;have hX:=laid_row w4 63 ([.slice none 0 0,.slice none 0 0,.slice none 0 0,.slice none 0 0]:List Value) ([.slice F0 g.vals.length f0,.slice F1 (pruneD g).nodes.length f1,.slice F2 g.inputs.length f2,.slice F3 g.outputs.length f3]:List Value) rfl;generalize World.setRow _ _ _ = w5 at hX ⊢;have HI5:=Lib.hid (HI4.out.next hX.1);have HX5:=Lib.hid hX;clear hX;refine halt ?_))
 unfold Halt
 have z1:w.heap.size < w1.heap.size:=HI1.out.lt
 have z2:w1.heap.size ≤ w2.heap.size:=HB2.out.size
 have z3:w3.heap.size = w2.heap.size + 1:=HX3.out.2.2
 have z4:w3.heap.size ≤ w4.heap.size:=HP4.out.2.size
 have z5:w5.heap.size = w4.heap.size + 1:=HX5.out.2.2
 have h25:Below w2.heap.size w2 w5:=HX3.out.1.trans ((HP4.out.2.trans (HX5.out.1.mono z4)).mono (by omega))
 have h35:Below w3.heap.size w3 w5:=HP4.out.2.trans (HX5.out.1.mono z4)
 have HZ:=Lib.hid (And.intro z1 (And.intro z2 (And.intro z3 (And.intro z4 z5))))
 have hpv:rep w5 (fresh w1.heap.size w2.heap.size) [.slice V0 g.vals.length c0] g.vals:=Rep.keep HP2.out.1 (Keeps.fresh_below h25 (Nat.le_refl _))
 have hpn:rep w5 (fresh w1.heap.size w2.heap.size) [.slice V1 (pruneD g).nodes.length c1] (pruneD g).nodes:=Rep.keep HP2.out.2.1 (Keeps.fresh_below h25 (Nat.le_refl _))
 have hpo:rep w5 (fresh w1.heap.size w2.heap.size) [.slice V3 g.outputs.length c3] g.outputs:=Rep.keep HP2.out.2.2.1 (Keeps.fresh_below h25 (Nat.le_refl _))
 have hbx:w5.heap[w2.heap.size]? = some (.cells ([.slice V0 g.vals.length c0,.slice V1 (pruneD g).nodes.length c1,.slice V2 g.inputs.length c2,.slice V3 g.outputs.length c3]:List Value).toArray 63 (0,0)):=(h35.block _ (by omega)).trans HX3.out.2.1
 have hff:rep w5 (fresh w3.heap.size w4.heap.size) ([.slice F0 g.vals.length f0,.slice F1 (pruneD g).nodes.length f1,.slice F2 g.inputs.length f2,.slice F3 g.outputs.length f3]:List Value) (pruneD g):=Rep.keep HP4.out.1 (Keeps.fresh_below HX5.out.1 (Nat.le_refl _))
 obtain ⟨_,_,vs,hv,-,-,-,hl1,hc1⟩:=open_slice hpv
 simp only [Value.slice.injEq,true_and] at hv
 obtain ⟨rfl,rfl⟩:=hv
 obtain ⟨_,_,ns,hv,-,-,-,hl2,hc2⟩:=open_slice hpn
 simp only [Value.slice.injEq,true_and] at hv
 obtain ⟨rfl,rfl⟩:=hv
 obtain ⟨_,_,os,hv,hob,hob2,-,hl3,hc3⟩:=open_slice hpo
 simp only [Value.slice.injEq,true_and] at hv
 obtain ⟨rfl,rfl⟩:=hv
 have HV:=Lib.hid (And.intro hl1 hc1)
 have HN:=Lib.hid (And.intro hl2 hc2)
 have HO:=Lib.hid (And.intro hl3 hc3)
 have hbw:∀ (j:Nat) (u:Value),([.slice V0 g.vals.length c0,.slice V1 (pruneD g).nodes.length c1,.slice V2 g.inputs.length c2,.slice V3 g.outputs.length c3]:List Value)[j]? = some u→∀ W,Worn w1.heap.size w2.heap.size w5 W→W.cell? ⟨w2.heap.size,j,none⟩ = some u:=fun j u hu W h=>h.cell (cell_at hbx hu) (by show ¬ (_∧w2.heap.size < _);omega)
 have HBW:=Lib.hid hbw
 have HF:=Lib.hid hff
 clear hpv hpn hpo hbx hff hl1 hc1 hl2 hc2 hl3 hc3 hbw h25 h35 z1 z2 z3 z4 z5
 go_wp2_with fail
 go_loopg [6] g.vals.length (fun gk s6 wr=>∃ i:Nat,i + gk = g.vals.length∧s6 = .int .i64 i∧Worn w1.heap.size w2.heap.size w5 wr)
 case atStart=>exact ⟨0,Nat.zero_add _,rfl,Worn.refl _ _ _⟩
 case round =>
  obtain ⟨i,hik,rfl,hW⟩:=hrel
  have HW:=Lib.hid hW
  have b0:=HBW.out 0 _ rfl wr hW
  clear hW
  cases gk with
  | zero =>
   have hi:¬ ((i:Int) < (g.vals.length:Int)):=by omega
   clear hik
   go_wp2_with fail
   clear b0 hi
   obtain ⟨wy,rfl⟩:∃ wy,wy = wr:=⟨_,rfl⟩
   go_loopg [9] (pruneD g).nodes.length (fun gk s9 wr=>∃ i:Nat,i + gk = (pruneD g).nodes.length∧s9 = .int .i64 i∧Worn w1.heap.size w2.heap.size w5 wr)
   case atStart=>exact ⟨0,Nat.zero_add _,rfl,HW.out⟩
   case round =>
    obtain ⟨i,hik,rfl,hW⟩:=hrel
    replace HW:=Lib.hid hW
    have b0:=HBW.out 1 _ rfl wr hW
    clear hW
    cases gk with
    | zero =>
     have hi:¬ ((i:Int) < ((pruneD g).nodes.length:Int)):=by omega
     clear hik
     go_wp2_with fail
     clear b0 hi
     obtain ⟨wz,rfl⟩:∃ wz,wz = wr:=⟨_,rfl⟩
     go_loopg [11] g.outputs.length (fun gk s wr=>∃ j:Nat,j + gk = g.outputs.length∧s = .int .i64 j∧Worn w1.heap.size w2.heap.size w5 wr)
     case atStart=>exact ⟨0,Nat.zero_add _,rfl,HW.out⟩
     case round =>
      obtain ⟨j,hjk,rfl,hW⟩:=hrel
      have HW2:=Lib.hid hW
      have b3:=HBW.out 3 _ rfl wr hW
      clear hW
      cases gk with
      | zero =>
       have hj:¬ ((j:Int) < (g.outputs.length:Int)):=by omega
       clear hjk
       have HW9:=HW2
       have hgE:rep wr (old w.heap.size) ([.slice A1 g.vals.length k1,.slice A2 g.nodes.length k2,.slice A3 g.inputs.length k3,.slice A4 g.outputs.length k4]:List Value) g:=HW2.out.rep (Rep.keep HT.out.2.1 (Keeps.old_below HI5.out.below (Nat.le_refl _))) (fun k hk=>by have h1:=HZ.out.1;have h2:k < w.heap.size:=hk;omega)
       have hrE:wr.heap[w.heap.size]? = some (.cells ([.slice A1 g.vals.length k1,.slice A2 g.nodes.length k2,.slice A3 g.inputs.length k3,.slice A4 g.outputs.length k4]:List Value).toArray 63 (0,0)):=(HW2.out.block _ (by have:=HZ.out.1;omega)).trans HI5.out.row
       have hbE:Below w.heap.size w wr:=HW2.out.below HI5.out.below (Nat.le_of_lt HZ.out.1)
       have hfE:rep wr (fresh w3.heap.size w4.heap.size) ([.slice F0 g.vals.length f0,.slice F1 (pruneD g).nodes.length f1,.slice F2 g.inputs.length f2,.slice F3 g.outputs.length f3]:List Value) (pruneD g):=HW2.out.rep HF.out (fun k hk=>by have h1:=HZ.out.2.2.1;have h2:w3.heap.size ≤ k:=hk.1;omega)
       have hrF:wr.heap[w4.heap.size]? = some (.cells ([.slice F0 g.vals.length f0,.slice F1 (pruneD g).nodes.length f1,.slice F2 g.inputs.length f2,.slice F3 g.outputs.length f3]:List Value).toArray 63 (0,0)):=(HW2.out.block _ (by have:=HZ.out.2.2.1;have:=HZ.out.2.2.2.1;omega)).trans HX5.out.2.1
       have hsE:wr.heap.size = w4.heap.size + 1:=HW2.out.size.trans HZ.out.2.2.2.2
       have HE:=Lib.hid (And.intro hgE (And.intro hrE (And.intro hbE (And.intro hfE (And.intro hrF hsE)))))
       clear hgE hrE hbE hfE hrF hsE
       go_wp2_with (with_reducible refine wpList_load_agg rfl 63 _ rfl _ w.heap.size 0 rfl ([.slice A1 g.vals.length k1,.slice A2 g.nodes.length k2,.slice A3 g.inputs.length k3,.slice A4 g.outputs.length k4]:List Value) Tryd.underlying63 rfl (by kernel_rfl) (At.of_row HE.out.2.1) ?_)
       clear b3 hj
       refine (prune_any ([.slice A1 g.vals.length k1,.slice A2 g.nodes.length k2,.slice A3 g.inputs.length k3,.slice A4 g.outputs.length k4]:List Value) g wr (Rep.more HE.out.1 (old_le HE.out.2.2.1.size)) HT.out.2.2.1 HT.out.2.2.2.1 HT.out.2.2.2.2).mono ?_
       rintro e w6 ⟨qcs,rfl,hq,hb⟩
       have hq0:=hq
       obtain ⟨R0,r0,R1,r1,R2,r2,R3,r3,hpe,-,-,-,-⟩:=open_GraphD hq
       replace hpe:qcs = ([.slice R0 g.vals.length r0,.slice R1 (pruneD g).nodes.length r1,.slice R2 g.inputs.length r2,.slice R3 g.outputs.length r3]:List Value):=hpe
       subst hpe
       have HQ6:=Lib.hid (And.intro hq0 hb)
       clear hq hq0 hb
       go_wp2_with (first
        |(with_reducible refine wpList_alloc_row rfl 63 rfl ([.slice none 0 0,.slice none 0 0,.slice none 0 0,.slice none 0 0]:List Value) zero4C ?_)
        |(with_reducible refine wpList_store_agg rfl 63 _ _ rfl _ 0 ([.slice R0 g.vals.length r0,.slice R1 (pruneD g).nodes.length r1,.slice R2 g.inputs.length r2,.slice R3 g.outputs.length r3]:List Value) rfl rfl 63 ([.slice none 0 0,.slice none 0 0,.slice none 0 0,.slice none 0 0]:List Value) (heap_alloc_new _ _) (by kernel_rfl) (of_decide_eq_true (by kernel_rfl)) (by simp [Value.oneCell']) ?_;have hX:=laid_row w6 63 ([.slice none 0 0,.slice none 0 0,.slice none 0 0,.slice none 0 0]:List Value) ([.slice R0 g.vals.length r0,.slice R1 (pruneD g).nodes.length r1,.slice R2 g.inputs.length r2,.slice R3 g.outputs.length r3]:List Value) rfl;generalize World.setRow _ _ _ = w7 at hX ⊢;have HX7:=Lib.hid hX;clear hX;refine halt ?_))
       unfold Halt
       go_wp2_with fail
       have hb7:Below wr.heap.size wr w7.drew:=(HQ6.out.2.trans (HX7.out.1.mono HQ6.out.2.size)).drew
       have hz7:w7.heap.size = w6.heap.size + 1:=HX7.out.2.2
       have hz6:wr.heap.size ≤ w6.heap.size:=HQ6.out.2.size
       have hsE:=HE.out.2.2.2.2.2
       have q1:rep w7.drew (old w7.drew.heap.size) ([.slice R0 g.vals.length r0,.slice R1 (pruneD g).nodes.length r1,.slice R2 g.inputs.length r2,.slice R3 g.outputs.length r3]:List Value) (pruneD g):=Rep.more (Rep.keep HQ6.out.1 (Keeps.fresh_below HX7.out.1.drew (Nat.le_refl _))) (fresh_old (by show w6.heap.size ≤ w7.heap.size;omega))
       have q2:rep w7.drew (old w7.drew.heap.size) ([.slice F0 g.vals.length f0,.slice F1 (pruneD g).nodes.length f1,.slice F2 g.inputs.length f2,.slice F3 g.outputs.length f3]:List Value) (pruneD g):=Rep.more (Rep.keep HE.out.2.2.2.1 (Keeps.fresh_below hb7 (by omega))) (fresh_old (by show w4.heap.size ≤ w7.heap.size;omega))
       have q3:rep w7.drew (old w7.drew.heap.size) ([.slice A1 g.vals.length k1,.slice A2 g.nodes.length k2,.slice A3 g.inputs.length k3,.slice A4 g.outputs.length k4]:List Value) g:=Rep.more (Rep.keep HE.out.1 (Keeps.old_below hb7 HE.out.2.2.1.size)) (old_le (by have:=HE.out.2.2.1.size;show w.heap.size ≤ w7.heap.size;omega))
       have hlw:w.heap.size < wr.heap.size:=by have:=HZ.out.1;have:=HZ.out.2.1;have:=HZ.out.2.2.1;have:=HZ.out.2.2.2.1;omega
       have q4:At w7.drew w6.heap.size 0 ([.slice R0 g.vals.length r0,.slice R1 (pruneD g).nodes.length r1,.slice R2 g.inputs.length r2,.slice R3 g.outputs.length r3]:List Value):=At.of_row (show w7.drew.heap[w6.heap.size]? = _ from HX7.out.2.1)
       have q5:At w7.drew w4.heap.size 0 ([.slice F0 g.vals.length f0,.slice F1 (pruneD g).nodes.length f1,.slice F2 g.inputs.length f2,.slice F3 g.outputs.length f3]:List Value):=At.of_row ((hb7.block _ (by omega)).trans HE.out.2.2.2.2.1)
       have q6:At w7.drew w.heap.size 0 ([.slice A1 g.vals.length k1,.slice A2 g.nodes.length k2,.slice A3 g.inputs.length k3,.slice A4 g.outputs.length k4]:List Value):=At.of_row ((hb7.block _ hlw).trans HE.out.2.1)
       have hbw7:Below w.heap.size w w7.drew:=HE.out.2.2.1.trans (hb7.mono (Nat.le_of_lt hlw))
       have HQ:=Lib.hid (And.intro q1 (And.intro q2 (And.intro q3 (And.intro q4 (And.intro q5 (And.intro q6 hbw7))))))
       have HS:=Lib.hid (And.intro (show w6.heap.size < w7.drew.heap.size by show w6.heap.size < w7.heap.size;omega) (And.intro (show w4.heap.size < w7.drew.heap.size by show w4.heap.size < w7.heap.size;omega) (show w.heap.size < w7.drew.heap.size by show w.heap.size < w7.heap.size;omega)))
       clear hb7 hz7 hz6 hsE q1 q2 q3 hlw q4 q5 q6 hbw7
       refine wp_region_held_drew (S:=fun W=>Below w7.drew.heap.size w7.drew W) (by kernel_rfl) (Below.refl _ _) (fun hHeld=>?_)
       refine take_d9 0 (some 115) (v:=.bool true) rfl (by kernel_rfl) (by kernel_rfl) (by kernel_rfl) (by kernel_rfl) (fun c a w h=>h) (Or.inl ⟨by kernel_rfl,fun w _=>by kernel_rfl⟩) hHeld ?_
       refine take_d9 1 (some 116) (v:=.bool true) rfl (by kernel_rfl) (by kernel_rfl) (by kernel_rfl) (by kernel_rfl) (fun c a w h=>h) (Or.inl ⟨by kernel_rfl,fun w _=>by kernel_rfl⟩) hHeld ?_
       refine take_d9 2 (some 117) (v:=.agg ([.slice R0 g.vals.length r0,.slice R1 (pruneD g).nodes.length r1,.slice R2 g.inputs.length r2,.slice R3 g.outputs.length r3]:List Value).toArray) rfl (by kernel_rfl) (by kernel_rfl) (by kernel_rfl) (by kernel_rfl) (fun c a w h=>h) (yields_load_agg (by kernel_rfl) 63 _ rfl _ w6.heap.size 0 (by kernel_rfl) ([.slice R0 g.vals.length r0,.slice R1 (pruneD g).nodes.length r1,.slice R2 g.inputs.length r2,.slice R3 g.outputs.length r3]:List Value) Tryd.underlying63 rfl (by kernel_rfl) (fun _ h=>At.keep HQ.out.2.2.2.1 h HS.out.1)) hHeld ?_
       refine take_d9 3 (some 118) (v:=.agg ([.slice F0 g.vals.length f0,.slice F1 (pruneD g).nodes.length f1,.slice F2 g.inputs.length f2,.slice F3 g.outputs.length f3]:List Value).toArray) rfl (by kernel_rfl) (by kernel_rfl) (by kernel_rfl) (by kernel_rfl) (fun c a w h=>h) (yields_load_agg (by kernel_rfl) 63 _ rfl _ w4.heap.size 0 (by kernel_rfl) ([.slice F0 g.vals.length f0,.slice F1 (pruneD g).nodes.length f1,.slice F2 g.inputs.length f2,.slice F3 g.outputs.length f3]:List Value) Tryd.underlying63 rfl (by kernel_rfl) (fun _ h=>At.keep HQ.out.2.2.2.2.1 h HS.out.2.1)) hHeld ?_
       refine call_d9 4 (some 119) rfl (by kernel_rfl) (by kernel_rfl) (by kernel_rfl) 29 _ _ rfl #[.agg ([.slice R0 g.vals.length r0,.slice R1 (pruneD g).nodes.length r1,.slice R2 g.inputs.length r2,.slice R3 g.outputs.length r3]:List Value).toArray,.agg ([.slice F0 g.vals.length f0,.slice F1 (pruneD g).nodes.length f1,.slice F2 g.inputs.length f2,.slice F3 g.outputs.length f3]:List Value).toArray] (by kernel_rfl) (fun w=>by kernel_rfl) ?_
       refine (same9_any ([.slice R0 g.vals.length r0,.slice R1 (pruneD g).nodes.length r1,.slice R2 g.inputs.length r2,.slice R3 g.outputs.length r3]:List Value) ([.slice F0 g.vals.length f0,.slice F1 (pruneD g).nodes.length f1,.slice F2 g.inputs.length f2,.slice F3 g.outputs.length f3]:List Value) (pruneD g) w7.drew HQ.out.1 HQ.out.2.1).mono ?_
       rintro e w8 ⟨rfl,hb⟩
       replace hHeld:Below w7.drew.heap.size w7.drew w8:=hb
       clear hb
       refine ⟨_,rfl,hHeld,?_⟩
       refine take_d9 5 (some 120) (v:=.bool true) rfl (by kernel_rfl) (by kernel_rfl) (by kernel_rfl) (by kernel_rfl) (fun c a w h=>h) (Or.inl ⟨by kernel_rfl,fun w _=>by kernel_rfl⟩) hHeld ?_
       refine take_d9 6 (some 121) (v:=.bool true) rfl (by kernel_rfl) (by kernel_rfl) (by kernel_rfl) (by kernel_rfl) (fun c a w h=>h) (Or.inl ⟨by kernel_rfl,fun w _=>by kernel_rfl⟩) hHeld ?_
       refine take_d9 7 (some 122) (v:=.agg ([.slice R0 g.vals.length r0,.slice R1 (pruneD g).nodes.length r1,.slice R2 g.inputs.length r2,.slice R3 g.outputs.length r3]:List Value).toArray) rfl (by kernel_rfl) (by kernel_rfl) (by kernel_rfl) (by kernel_rfl) (fun c a w h=>h) (yields_load_agg (by kernel_rfl) 63 _ rfl _ w6.heap.size 0 (by kernel_rfl) ([.slice R0 g.vals.length r0,.slice R1 (pruneD g).nodes.length r1,.slice R2 g.inputs.length r2,.slice R3 g.outputs.length r3]:List Value) Tryd.underlying63 rfl (by kernel_rfl) (fun _ h=>At.keep HQ.out.2.2.2.1 h HS.out.1)) hHeld ?_
       refine take_d9 8 (some 123) (v:=.agg ([.slice A1 g.vals.length k1,.slice A2 g.nodes.length k2,.slice A3 g.inputs.length k3,.slice A4 g.outputs.length k4]:List Value).toArray) rfl (by kernel_rfl) (by kernel_rfl) (by kernel_rfl) (by kernel_rfl) (fun c a w h=>h) (yields_load_agg (by kernel_rfl) 63 _ rfl _ w.heap.size 0 (by kernel_rfl) ([.slice A1 g.vals.length k1,.slice A2 g.nodes.length k2,.slice A3 g.inputs.length k3,.slice A4 g.outputs.length k4]:List Value) Tryd.underlying63 rfl (by kernel_rfl) (fun _ h=>At.keep HQ.out.2.2.2.2.2.1 h HS.out.2.2)) hHeld ?_
       refine call_d9 9 (some 124) rfl (by kernel_rfl) (by kernel_rfl) (by kernel_rfl) 30 _ _ rfl #[.agg ([.slice A1 g.vals.length k1,.slice A2 g.nodes.length k2,.slice A3 g.inputs.length k3,.slice A4 g.outputs.length k4]:List Value).toArray] (by kernel_rfl) (fun w=>by kernel_rfl) ?_
       refine (rprune_any ([.slice A1 g.vals.length k1,.slice A2 g.nodes.length k2,.slice A3 g.inputs.length k3,.slice A4 g.outputs.length k4]:List Value) g w8 (Rep.more (Rep.keep HQ.out.2.2.1 (Keeps.old_below hHeld (Nat.le_refl _))) (old_le hHeld.size)) hs2).mono ?_
       rintro e w9 ⟨rcs,rfl,hrp,hb⟩
       replace hHeld:Below w7.drew.heap.size w7.drew w9:=hHeld.trans (hb.mono hHeld.size)
       have HRP:=Lib.hid hrp
       clear hb hrp
       refine ⟨_,rfl,hHeld,?_⟩
       refine call_d9 10 (some 125) rfl (by kernel_rfl) (by kernel_rfl) (by kernel_rfl) 29 _ _ rfl #[.agg ([.slice R0 g.vals.length r0,.slice R1 (pruneD g).nodes.length r1,.slice R2 g.inputs.length r2,.slice R3 g.outputs.length r3]:List Value).toArray,.agg rcs.toArray] (by kernel_rfl) (fun w=>by kernel_rfl) ?_
       refine (same9_any ([.slice R0 g.vals.length r0,.slice R1 (pruneD g).nodes.length r1,.slice R2 g.inputs.length r2,.slice R3 g.outputs.length r3]:List Value) rcs (pruneD g) w9 (Rep.more (Rep.keep HQ.out.1 (Keeps.old_below hHeld (Nat.le_refl _))) (old_le hHeld.size)) HRP.out).mono ?_
       rintro e w10 ⟨rfl,hb⟩
       replace hHeld:Below w7.drew.heap.size w7.drew w10:=hHeld.trans (hb.mono hHeld.size)
       have HBE:=Lib.hid (HQ.out.2.2.2.2.2.2.trans (hHeld.mono (Nat.le_of_lt HS.out.2.2)))
       clear hb
       refine ⟨_,rfl,hHeld,?_⟩
       refine take_d9 11 (some 126) (v:=.bool true) rfl (by kernel_rfl) (by kernel_rfl) (by kernel_rfl) (by kernel_rfl) (fun c a w h=>h) (Or.inl ⟨by kernel_rfl,fun w _=>by kernel_rfl⟩) hHeld ?_
       refine take_d9 12 (some 2) (v:=.bool true) rfl (by kernel_rfl) (by kernel_rfl) (by kernel_rfl) (by kernel_rfl) (fun c a w h=>h) (Or.inl ⟨by kernel_rfl,fun w _=>by kernel_rfl⟩) hHeld ?_
       refine wpAnyH_done (by kernel_rfl) ?_ _
       clear hHeld
       simp only [Act.put,List.setIfInBounds_toArray,List.set_cons_zero,List.set_cons_succ]
       go_wp2
       go_ret
       exact ⟨rfl,HBE.out⟩
      | succ gB =>
       have hj:(j:Int) < (g.outputs.length:Int):=by omega
       have hj0:(0:Int) ≤ (j:Int):=Int.natCast_nonneg _
       have hjn:j < g.outputs.length:=by omega
       have HJK:=Lib.hid hjk
       clear hjk
       obtain ⟨y,hy⟩:∃ y,g.outputs[j]? = some y:=⟨_,List.getElem?_eq_getElem hjn⟩
       obtain ⟨bd,od,yc,rfl,hbD,hry,hcy⟩:=elem_at HO.out.1 HO.out.2 (by decide) hy
       have hy0:=one_i64 hry
       have hc5:w5.cell? ⟨bd,od + j,none⟩ = some (.int .i64 y):=cell_of_elem (α:=Int) rfl hcy hy0
       have hfz:w5.frozen? ⟨bd,od + j,none⟩ = false:=by
        have h:=(hcy 0 _ hy0).2 rfl
        rwa [show Rep.size Int = 1 from rfl,Nat.mul_one,Nat.add_zero] at h
       obtain ⟨n',hn'⟩:=HW2.out.ints _ _ _ hc5
       have hf':wr.frozen? ⟨bd,od + j,none⟩ = false:=(HW2.out.free _).trans hfz
       have HC:=Lib.hid (HW2.out.set (p:=⟨bd,od + j,none⟩) hbD hc5 (-77))
       clear hy hbD hry hcy hy0 hc5 hfz
       go_wp2
       go_roundg gB
       case measure=>omega
       case rel=>exact ⟨j + 1,by have:=HJK.out;omega,by go_num,HC.out⟩
    | succ gA =>
     have hi:(i:Int) < ((pruneD g).nodes.length:Int):=by omega
     have hi0:(0:Int) ≤ (i:Int):=Int.natCast_nonneg _
     have hin:i < (pruneD g).nodes.length:=by omega
     have HIK:=Lib.hid hik
     clear hik
     obtain ⟨z,hz⟩:∃ z,(pruneD g).nodes[i]? = some z:=⟨_,List.getElem?_eq_getElem hin⟩
     obtain ⟨bv,ov,zc,rfl,hbV,hrz,hcz⟩:=elem_at HN.out.1 HN.out.2 (by decide) hz
     obtain ⟨ss,I1,i1,O1,o1,-,z37,-,-,-,u1,-,-⟩:=gnode_facts hrz
     have hd:∀ W,Worn w1.heap.size w2.heap.size w5 W→W.cell? ⟨bv,ov + i * 40 + 37,none⟩ = some (.slice I1 z.ins.length i1):=fun W h=>h.kept _ _ (by rw [Nat.add_assoc];exact (hcz 37 _ z37).1) (fun kd n e=>by cases e)
     obtain ⟨_,_,ds,hv,hdc,hdm,-,hl4,hc4⟩:=open_slice u1
     simp only [Value.slice.injEq,true_and] at hv
     obtain ⟨rfl,rfl⟩:=hv
     have HD:=Lib.hid (And.intro (And.intro hl4 hc4) hd)
     clear hz hbV hrz hcz u1 z37 hd hl4 hc4
     go_wp2_with fail
     clear b0
     obtain ⟨wa,rfl⟩:∃ wa,wa = wr:=⟨_,rfl⟩
     go_loopg [10] z.ins.length (fun gk s wr=>∃ j:Nat,j + gk = z.ins.length∧s = .int .i64 j∧Worn w1.heap.size w2.heap.size w5 wr)
     case atStart=>exact ⟨0,Nat.zero_add _,rfl,HW.out⟩
     case round =>
      obtain ⟨j,hjk,rfl,hW⟩:=hrel
      have HW2:=Lib.hid hW
      have b0:=HBW.out 1 _ rfl wr hW
      have b1:=HD.out.2 wr hW
      clear hW
      cases gk with
      | zero =>
       have hj:¬ ((j:Int) < (z.ins.length:Int)):=by omega
       clear hjk
       go_wp2
       go_roundg gA
       case measure=>omega
       case rel=>exact ⟨i + 1,by have:=HIK.out;omega,by go_num,HW2.out⟩
      | succ gB =>
       have hj:(j:Int) < (z.ins.length:Int):=by omega
       have hj0:(0:Int) ≤ (j:Int):=Int.natCast_nonneg _
       have hjn:j < z.ins.length:=by omega
       have HJK:=Lib.hid hjk
       clear hjk
       obtain ⟨y,hy⟩:∃ y,z.ins[j]? = some y:=⟨_,List.getElem?_eq_getElem hjn⟩
       obtain ⟨bd,od,yc,rfl,hbD,hry,hcy⟩:=elem_at HD.out.1.1 HD.out.1.2 (by decide) hy
       have hy0:=one_i64 hry
       have hc5:w5.cell? ⟨bd,od + j,none⟩ = some (.int .i64 y):=cell_of_elem (α:=Int) rfl hcy hy0
       have hfz:w5.frozen? ⟨bd,od + j,none⟩ = false:=by
        have h:=(hcy 0 _ hy0).2 rfl
        rwa [show Rep.size Int = 1 from rfl,Nat.mul_one,Nat.add_zero] at h
       obtain ⟨n',hn'⟩:=HW2.out.ints _ _ _ hc5
       have hf':wr.frozen? ⟨bd,od + j,none⟩ = false:=(HW2.out.free _).trans hfz
       have HC:=Lib.hid (HW2.out.set (p:=⟨bd,od + j,none⟩) hbD hc5 (-77))
       clear hy hbD hry hcy hy0 hc5 hfz
       go_wp2
       go_roundg gB
       case measure=>omega
       case rel=>exact ⟨j + 1,by have:=HJK.out;omega,by go_num,HC.out⟩
  | succ gA =>
   have hi:(i:Int) < (g.vals.length:Int):=by omega
   have hi0:(0:Int) ≤ (i:Int):=Int.natCast_nonneg _
   have hin:i < g.vals.length:=by omega
   have HIK:=Lib.hid hik
   clear hik
   obtain ⟨z,hz⟩:∃ z,g.vals[i]? = some z:=⟨_,List.getElem?_eq_getElem hin⟩
   obtain ⟨bv,ov,zc,rfl,hbV,hrz,hcz⟩:=elem_at HV.out.1 HV.out.2 (by decide) hz
   obtain ⟨D1,d1,D2,d2,D3,d3,D4,d4,D5,d5,rfl,-,u1,u3⟩:=open_ValD hrz
   obtain ⟨_,_,_,_,_,_,_,_,he,-,-,u4,-,-⟩:=open_TensorD u3
   simp only [List.cons.injEq,Value.slice.injEq,true_and,and_true] at he
   obtain ⟨⟨rfl,rfl⟩,⟨rfl,rfl⟩,⟨rfl,rfl⟩,rfl,rfl⟩:=he
   have hd:∀ W,Worn w1.heap.size w2.heap.size w5 W→W.cell? ⟨bv,ov + i * 8 + 1,none⟩ = some (.slice D1 z.dims.length d1):=fun W h=>h.kept _ _ (by rw [Nat.add_assoc];exact (hcz 1 _ rfl).1) (fun kd n e=>by cases e)
   have hf:∀ W,Worn w1.heap.size w2.heap.size w5 W→W.cell? ⟨bv,ov + i * 8 + 3 + 2,none⟩ = some (.slice D3 z.t.f.length d3):=fun W h=>h.kept _ _ (by rw [Nat.add_assoc,Nat.add_assoc];exact (hcz 5 _ rfl).1) (fun kd n e=>by cases e)
   obtain ⟨_,_,ds,hv,hdc,hdm,-,hl4,hc4⟩:=open_slice u1
   simp only [Value.slice.injEq,true_and] at hv
   obtain ⟨rfl,rfl⟩:=hv
   obtain ⟨_,_,fs,hv,hfc,hfm,-,hl5,hc5⟩:=open_slice u4
   simp only [Value.slice.injEq,true_and] at hv
   obtain ⟨rfl,rfl⟩:=hv
   have HD:=Lib.hid (And.intro (And.intro hl4 hc4) (And.intro (And.intro hl5 hc5) (And.intro hd hf)))
   clear hz hbV hrz hcz u1 u3 u4 hd hf hl4 hc4 hl5 hc5
   go_wp2_with fail
   clear b0
   obtain ⟨wa,rfl⟩:∃ wa,wa = wr:=⟨_,rfl⟩
   go_loopg [7] z.dims.length (fun gk s7 wr=>∃ j:Nat,j + gk = z.dims.length∧s7 = .int .i64 j∧Worn w1.heap.size w2.heap.size w5 wr)
   case atStart=>exact ⟨0,Nat.zero_add _,rfl,HW.out⟩
   case round =>
    obtain ⟨j,hjk,rfl,hW⟩:=hrel
    have HW2:=Lib.hid hW
    have b0:=HBW.out 0 _ rfl wr hW
    have b1:=HD.out.2.2.1 wr hW
    clear hW
    cases gk with
    | zero =>
     have hj:¬ ((j:Int) < (z.dims.length:Int)):=by omega
     clear hjk
     go_wp2_with fail
     clear b0 b1 hj
     obtain ⟨wb,rfl⟩:∃ wb,wb = wr:=⟨_,rfl⟩
     go_loopg [8] z.t.f.length (fun gk s8 wr=>∃ j:Nat,j + gk = z.t.f.length∧s8 = .int .i64 j∧Worn w1.heap.size w2.heap.size w5 wr)
     case atStart=>exact ⟨0,Nat.zero_add _,rfl,HW2.out⟩
     case round =>
      obtain ⟨j,hjk,rfl,hW⟩:=hrel
      have HW3:=Lib.hid hW
      have b0:=HBW.out 0 _ rfl wr hW
      have b1:=HD.out.2.2.2 wr hW
      clear hW
      cases gk with
      | zero =>
       have hj:¬ ((j:Int) < (z.t.f.length:Int)):=by omega
       clear hjk
       go_wp2
       go_roundg gA
       case measure=>omega
       case rel=>exact ⟨i + 1,by have:=HIK.out;omega,by go_num,HW3.out⟩
      | succ gB =>
       have hj:(j:Int) < (z.t.f.length:Int):=by omega
       have hj0:(0:Int) ≤ (j:Int):=Int.natCast_nonneg _
       have hjn:j < z.t.f.length:=by omega
       have HJK:=Lib.hid hjk
       clear hjk
       obtain ⟨y,hy⟩:∃ y,z.t.f[j]? = some y:=⟨_,List.getElem?_eq_getElem hjn⟩
       obtain ⟨bd,od,yc,rfl,hbD,hry,hcy⟩:=elem_at HD.out.2.1.1 HD.out.2.1.2 (by decide) hy
       have hy0:=one_u32 hry
       have hc5:w5.cell? ⟨bd,od + j,none⟩ = some (.int .u32 (y:Int)):=cell_of_elem (α:=Nat) rfl hcy hy0
       have hfz:w5.frozen? ⟨bd,od + j,none⟩ = false:=by
        have h:=(hcy 0 _ hy0).2 rfl
        rwa [show Rep.size Nat = 1 from rfl,Nat.mul_one,Nat.add_zero] at h
       have HC5:=Lib.hid (And.intro hc5 (And.intro hfz hbD))
       clear hy hbD hry hcy hy0 hc5 hfz
       go_wp2_with fail
       clear b0 b1
       refine wp_region_held_drew (S:=fun W=>Worn w1.heap.size w2.heap.size w5 W) (by kernel_rfl) HW3.out.drew (fun hHeld=>?_)
       refine take_d9 0 (some 56) (v:=.pointer (some ⟨w2.heap.size,0,none⟩)) rfl (by kernel_rfl) (by kernel_rfl) (by kernel_rfl) (by kernel_rfl) (fun c a w h=>h) (Or.inl ⟨by kernel_rfl,fun w _=>by kernel_rfl⟩) hHeld ?_
       refine take_d9 1 (some 57) (v:=.slice (some ⟨bv,ov,none⟩) g.vals.length c0) rfl (by kernel_rfl) (by kernel_rfl) (by kernel_rfl) (by kernel_rfl) (fun c a w h=>h) (yields_load_one9 (by kernel_rfl) _ _ rfl w2.heap.size 0 (by kernel_rfl) _ _ Tryd.underlying60 rfl (fun W h=>HBW.out 0 _ rfl W h)) hHeld ?_
       refine take_d9 2 (some 58) (v:=.int .i64 (i:Int)) rfl (by kernel_rfl) (by kernel_rfl) (by kernel_rfl) (by kernel_rfl) (fun c a w h=>h) (Or.inl ⟨by kernel_rfl,fun w _=>by kernel_rfl⟩) hHeld ?_
       refine take_d9 3 (some 59) (v:=.pointer (some ⟨bv,ov + i * 8,none⟩)) rfl (by kernel_rfl) (by kernel_rfl) (by kernel_rfl) (by kernel_rfl) (fun c a w h=>h) (yields_indexQ (by kernel_rfl) _ _ _ rfl bv ov g.vals.length c0 i 8 (ov + i * 8) (i:Int) (by kernel_rfl) (by kernel_rfl) Tryd.underlying60 (by kernel_rfl) rfl hin rfl) hHeld ?_
       refine take_d9 4 (some 60) (v:=.pointer (some ⟨bv,ov + i * 8 + 3,none⟩)) rfl (by kernel_rfl) (by kernel_rfl) (by kernel_rfl) (by kernel_rfl) (fun c a w h=>h) (Or.inl ⟨by kernel_rfl,fun w _=>by kernel_rfl⟩) hHeld ?_
       refine take_d9 5 (some 61) (v:=.pointer (some ⟨bv,ov + i * 8 + 3 + 2,none⟩)) rfl (by kernel_rfl) (by kernel_rfl) (by kernel_rfl) (by kernel_rfl) (fun c a w h=>h) (Or.inl ⟨by kernel_rfl,fun w _=>by kernel_rfl⟩) hHeld ?_
       refine take_d9 6 (some 62) (v:=.slice (some ⟨bd,od,none⟩) z.t.f.length d3) rfl (by kernel_rfl) (by kernel_rfl) (by kernel_rfl) (by kernel_rfl) (fun c a w h=>h) (yields_load_one9 (by kernel_rfl) _ _ rfl bv (ov + i * 8 + 3 + 2) (by kernel_rfl) _ _ Tryd.underlying39 rfl (fun W h=>HD.out.2.2.2 W h)) hHeld ?_
       refine take_d9 7 (some 63) (v:=.int .i64 (j:Int)) rfl (by kernel_rfl) (by kernel_rfl) (by kernel_rfl) (by kernel_rfl) (fun c a w h=>h) (Or.inl ⟨by kernel_rfl,fun w _=>by kernel_rfl⟩) hHeld ?_
       refine take_d9 8 (some 64) (v:=.pointer (some ⟨w2.heap.size,0,none⟩)) rfl (by kernel_rfl) (by kernel_rfl) (by kernel_rfl) (by kernel_rfl) (fun c a w h=>h) (Or.inl ⟨by kernel_rfl,fun w _=>by kernel_rfl⟩) hHeld ?_
       refine take_d9 9 (some 65) (v:=.slice (some ⟨bv,ov,none⟩) g.vals.length c0) rfl (by kernel_rfl) (by kernel_rfl) (by kernel_rfl) (by kernel_rfl) (fun c a w h=>h) (yields_load_one9 (by kernel_rfl) _ _ rfl w2.heap.size 0 (by kernel_rfl) _ _ Tryd.underlying60 rfl (fun W h=>HBW.out 0 _ rfl W h)) hHeld ?_
       refine take_d9 10 (some 66) (v:=.int .i64 (i:Int)) rfl (by kernel_rfl) (by kernel_rfl) (by kernel_rfl) (by kernel_rfl) (fun c a w h=>h) (Or.inl ⟨by kernel_rfl,fun w _=>by kernel_rfl⟩) hHeld ?_
       refine take_d9 11 (some 67) (v:=.pointer (some ⟨bv,ov + i * 8,none⟩)) rfl (by kernel_rfl) (by kernel_rfl) (by kernel_rfl) (by kernel_rfl) (fun c a w h=>h) (yields_indexQ (by kernel_rfl) _ _ _ rfl bv ov g.vals.length c0 i 8 (ov + i * 8) (i:Int) (by kernel_rfl) (by kernel_rfl) Tryd.underlying60 (by kernel_rfl) rfl hin rfl) hHeld ?_
       refine take_d9 12 (some 68) (v:=.pointer (some ⟨bv,ov + i * 8 + 3,none⟩)) rfl (by kernel_rfl) (by kernel_rfl) (by kernel_rfl) (by kernel_rfl) (fun c a w h=>h) (Or.inl ⟨by kernel_rfl,fun w _=>by kernel_rfl⟩) hHeld ?_
       refine take_d9 13 (some 69) (v:=.pointer (some ⟨bv,ov + i * 8 + 3 + 2,none⟩)) rfl (by kernel_rfl) (by kernel_rfl) (by kernel_rfl) (by kernel_rfl) (fun c a w h=>h) (Or.inl ⟨by kernel_rfl,fun w _=>by kernel_rfl⟩) hHeld ?_
       refine take_d9 14 (some 70) (v:=.slice (some ⟨bd,od,none⟩) z.t.f.length d3) rfl (by kernel_rfl) (by kernel_rfl) (by kernel_rfl) (by kernel_rfl) (fun c a w h=>h) (yields_load_one9 (by kernel_rfl) _ _ rfl bv (ov + i * 8 + 3 + 2) (by kernel_rfl) _ _ Tryd.underlying39 rfl (fun W h=>HD.out.2.2.2 W h)) hHeld ?_
       refine take_d9 15 (some 71) (v:=.int .i64 (j:Int)) rfl (by kernel_rfl) (by kernel_rfl) (by kernel_rfl) (by kernel_rfl) (fun c a w h=>h) (Or.inl ⟨by kernel_rfl,fun w _=>by kernel_rfl⟩) hHeld ?_
       refine take_d9 16 (some 72) (v:=.pointer (some ⟨bd,od + j,none⟩)) rfl (by kernel_rfl) (by kernel_rfl) (by kernel_rfl) (by kernel_rfl) (fun c a w h=>h) (yields_indexQ (by kernel_rfl) _ _ _ rfl bd od z.t.f.length d3 j 1 (od + j) (j:Int) (by kernel_rfl) (by kernel_rfl) Tryd.underlying39 (by kernel_rfl) rfl hjn (by omega)) hHeld ?_
       obtain ⟨n',hn'⟩:=HW3.out.drew.ints _ _ _ HC5.out.1
       obtain ⟨m',hm'⟩:∃ m',bits .xor .u32 n' 1 = m':=⟨_,rfl⟩
       have hf':wr.drew.frozen? ⟨bd,od + j,none⟩ = false:=(HW3.out.drew.free _).trans HC5.out.2.1
       have hC:=HW3.out.drew.set (p:=⟨bd,od + j,none⟩) HC5.out.2.2 HC5.out.1 m'
       refine anyH_1 17 rfl (by kernel_rfl) ?_
       refine steps_load_one9 (by kernel_rfl) _ _ rfl bd (od + j) (by kernel_rfl) (.int .u32 n') _ Tryd.underlying38 rfl hn' hHeld ?_
       refine take_d9 18 (some 74) (v:=.int .u32 m') rfl (by kernel_rfl) (by kernel_rfl) (by kernel_rfl) (by kernel_rfl) (fun c a w h=>h) (yields_xor1 (by kernel_rfl) _ _ _ _ rfl n' m' (by kernel_rfl) (by kernel_rfl) Tryd.underlying38 hm') hHeld ?_
       refine take_d9 19 (some 75) (v:=.pointer (some ⟨bd,od + j,none⟩)) rfl (by kernel_rfl) (by kernel_rfl) (by kernel_rfl) (by kernel_rfl) (fun c a w h=>h) (yields_indexQ (by kernel_rfl) _ _ _ rfl bd od z.t.f.length d3 j 1 (od + j) (j:Int) (by kernel_rfl) (by kernel_rfl) Tryd.underlying39 (by kernel_rfl) rfl hjn (by omega)) hHeld ?_
       refine anyH_store_cell9 20 rfl (by kernel_rfl) (by kernel_rfl) 38 _ _ rfl bd (od + j) (.int .u32 m') (.int .u32 n') (by kernel_rfl) (by kernel_rfl) rfl (by kernel_rfl) hn' hf' hC ?_
       refine wpAnyH_done (by kernel_rfl) ?_ _
       generalize World.setCell _ _ _ = wc at hC ⊢
       have HC:=Lib.hid hC
       clear hC hn' hm' hf' hHeld
       simp only [Act.put,List.setIfInBounds_toArray,List.set_cons_zero,List.set_cons_succ]

       go_wp2
       go_roundg gB
       case measure=>omega
       case rel=>exact ⟨j + 1,by have:=HJK.out;omega,by go_num,HC.out⟩
    | succ gB =>
     have hj:(j:Int) < (z.dims.length:Int):=by omega
     have hj0:(0:Int) ≤ (j:Int):=Int.natCast_nonneg _
     have hjn:j < z.dims.length:=by omega
     have HJK:=Lib.hid hjk
     clear hjk
     obtain ⟨y,hy⟩:∃ y,z.dims[j]? = some y:=⟨_,List.getElem?_eq_getElem hjn⟩
     obtain ⟨bd,od,yc,rfl,hbD,hry,hcy⟩:=elem_at HD.out.1.1 HD.out.1.2 (by decide) hy
     have hy0:=one_i64 hry
     have hc5:w5.cell? ⟨bd,od + j,none⟩ = some (.int .i64 y):=cell_of_elem (α:=Int) rfl hcy hy0
     have hfz:w5.frozen? ⟨bd,od + j,none⟩ = false:=by
      have h:=(hcy 0 _ hy0).2 rfl
      rwa [show Rep.size Int = 1 from rfl,Nat.mul_one,Nat.add_zero] at h
     obtain ⟨n',hn'⟩:=HW2.out.ints _ _ _ hc5
     have hf':wr.frozen? ⟨bd,od + j,none⟩ = false:=(HW2.out.free _).trans hfz
     have HC:=Lib.hid (HW2.out.set (p:=⟨bd,od + j,none⟩) hbD hc5 (-77))
     clear hy hbD hry hcy hy0 hc5 hfz
     go_wp2
     go_roundg gB
     case measure=>omega
     case rel=>exact ⟨j + 1,by have:=HJK.out;omega,by go_num,HC.out⟩
end Go.Proofs.YtgbkhcmbmffljaaDoor
