/-
  latticeref09.Same: two readings of the same graph are the same.
-/
import Derived.Deep.DeepCutAuto
import Derived.Test.YtgbkhcmbmffljaaDoorPGNode
import Derived.Test.YtgbkhcmbmffljaaDoorPGVal
import Derived.Test.YtgbkhcmbmffljaaDoorPTail
import Derived.Test.YtgbkhcmbmffljaaDoorPWorn
set_option linter.unusedSimpArgs false
set_option linter.unusedVariables false
namespace Go.Proofs.YtgbkhcmbmffljaaDoor
open Go.RowKit
open Rep (rep)
theorem yields_neqB9 {P:Program} {ops:Array Oper} {S:World→Prop} {o:Oper} {a:Act} (hw:Region.wanted o (yielded ops a.tmps) = true) (x y:Operand) (t u:TypeId) (ho:o.op = .binOp .neq t x y u) (p:Bool) (hx:a.eval x = .bool p) (hy:a.eval y = .bool p)
  (_:P.underlying t = some .bool):YieldsIf P ops S o (.bool false) a :=
 .inl ⟨hw,fun w h=>by
  unfold execOp
  simp only [ho,hx,hy]
  cases p <;> go_simp⟩
set_option maxRecDepth 100000 in
set_option maxHeartbeats 40000000 in
theorem same9_any (c1 c2:List Value) (g:GraphD) (w:World) (h1:rep w (old w.heap.size) c1 g) (h2:rep w (old w.heap.size) c2 g) :
  Calls Tryd.prog 29 #[.agg c1.toArray,.agg c2.toArray] w (YesBelow w):=by
 obtain ⟨A1,k1,A2,k2,A3,k3,A4,k4,rfl,r1,r2,r3,r4⟩:=open_GraphD h1
 obtain ⟨B1,l1,B2,l2,B3,l3,B4,l4,rfl,s1,s2,s3,s4⟩:=open_GraphD h2
 obtain ⟨n1,n1'⟩:=slice_bnd r1
 obtain ⟨n2,n2'⟩:=slice_bnd r2
 have HR:=Lib.hid (And.intro (And.intro r1 s1) (And.intro (And.intro r2 s2) (And.intro (And.intro r3 s3) (And.intro r4 s4))))
 clear h1 h2 r1 r2 r3 r4 s1 s2 s3 s4
 go_enter Tryd.func29,Tryd.ntmps29
 go_wp2_with (first
  |(with_reducible refine wpList_box_row rfl 63 _ rfl ([.slice A1 g.vals.length k1,.slice A2 g.nodes.length k2,.slice A3 g.inputs.length k3,.slice A4 g.outputs.length k4]:List Value) rfl ?_)
  |(with_reducible refine wpList_box_row rfl 63 _ rfl ([.slice B1 g.vals.length l1,.slice B2 g.nodes.length l2,.slice B3 g.inputs.length l3,.slice B4 g.outputs.length l4]:List Value) rfl ?_;have hX:=pair_start w 63 63 ([.slice A1 g.vals.length k1,.slice A2 g.nodes.length k2,.slice A3 g.inputs.length k3,.slice A4 g.outputs.length k4]:List Value) ([.slice B1 g.vals.length l1,.slice B2 g.nodes.length l2,.slice B3 g.inputs.length l3,.slice B4 g.outputs.length l4]:List Value);generalize World.alloc _ (.cells ([.slice B1 g.vals.length l1,.slice B2 g.nodes.length l2,.slice B3 g.inputs.length l3,.slice B4 g.outputs.length l4]:List Value).toArray _) = W0 at hX ⊢;have HX:=Lib.hid hX;clear hX;refine halt ?_))
 unfold Halt
 have a0:=cell_at (j:=0) HX.out.src rfl
 have a1:=cell_at (j:=1) HX.out.src rfl
 have a2:=cell_at (j:=2) HX.out.src rfl
 have a3:=cell_at (j:=3) HX.out.src rfl
 have b0:=cell_at (j:=0) HX.out.res rfl
 have b1:=cell_at (j:=1) HX.out.res rfl
 have b2:=cell_at (j:=2) HX.out.res rfl
 have b3:=cell_at (j:=3) HX.out.res rfl
 go_wp2_with fail
 clear a0 a1 a2 b0 b1 b2
 refine (sameInts_any _ _ g.inputs W0 (HX.out.keeps HR.out.2.2.1.1) (HX.out.keeps HR.out.2.2.1.2)).mono ?_
 rintro e w1 ⟨rfl,m1,rfl⟩
 replace a3:(W0.drewN m1).cell? ⟨w.heap.size,3,none⟩ = _:=a3
 replace b3:(W0.drewN m1).cell? ⟨w.heap.size + 1,3,none⟩ = _:=b3
 go_wp2_with fail
 clear a3 b3
 refine (sameInts_any _ _ g.outputs _ (rep_drewN (HX.out.keeps HR.out.2.2.2.1) m1) (rep_drewN (HX.out.keeps HR.out.2.2.2.2) m1)).mono ?_
 rintro e w2 ⟨rfl,m2,rfl⟩
 have H2:=Lib.hid (show Pair w 63 63 ([.slice A1 g.vals.length k1,.slice A2 g.nodes.length k2,.slice A3 g.inputs.length k3,.slice A4 g.outputs.length k4]:List Value) ([.slice B1 g.vals.length l1,.slice B2 g.nodes.length l2,.slice B3 g.inputs.length l3,.slice B4 g.outputs.length l4]:List Value) ((W0.drewN m1).drewN m2) from HX.out.next (below_drewN (below_drewN (Below.refl _ _) m1) m2))
 generalize (W0.drewN m1).drewN m2 = w2 at H2 ⊢
 clear HX
 go_wp2_with fail
 go_loopg [5] g.vals.length (fun k s5 wr=>∃ i:Nat,i + k = g.vals.length∧s5 = .int .i64 i∧Pair w 63 63 ([.slice A1 g.vals.length k1,.slice A2 g.nodes.length k2,.slice A3 g.inputs.length k3,.slice A4 g.outputs.length k4]:List Value) ([.slice B1 g.vals.length l1,.slice B2 g.nodes.length l2,.slice B3 g.inputs.length l3,.slice B4 g.outputs.length l4]:List Value) wr)
 case atStart=>exact ⟨0,Nat.zero_add _,rfl,H2.out⟩
 case round =>
  obtain ⟨i,hik,rfl,hI⟩:=hrel
  have HI:=Lib.hid hI
  have a0:=cell_at (j:=0) hI.src rfl
  clear hI
  cases gk with
  | zero =>
   have hi:¬ ((i:Int) < (g.vals.length:Int)):=by omega
   clear hik
   go_wp2_with fail
   clear a0 hi
   obtain ⟨wb,rfl⟩:∃ wb,wb = wr:=⟨_,rfl⟩
   go_loopg [6] g.nodes.length (fun k s6 wr=>∃ i:Nat,i + k = g.nodes.length∧s6 = .int .i64 i∧Pair w 63 63 ([.slice A1 g.vals.length k1,.slice A2 g.nodes.length k2,.slice A3 g.inputs.length k3,.slice A4 g.outputs.length k4]:List Value) ([.slice B1 g.vals.length l1,.slice B2 g.nodes.length l2,.slice B3 g.inputs.length l3,.slice B4 g.outputs.length l4]:List Value) wr)
   case atStart=>exact ⟨0,Nat.zero_add _,rfl,HI.out⟩
   case round =>
    obtain ⟨i,hik,rfl,hI⟩:=hrel
    have HI2:=Lib.hid hI
    have a1:=cell_at (j:=1) hI.src rfl
    clear hI
    cases gk with
    | zero =>
     have hi:¬ ((i:Int) < (g.nodes.length:Int)):=by omega
     clear hik
     go_wp2
     go_ret
     exact ⟨rfl,HI2.out.below⟩
    | succ k =>
     have hi:(i:Int) < (g.nodes.length:Int):=by omega
     have hi0:(0:Int) ≤ (i:Int):=Int.natCast_nonneg _
     have hin:i < g.nodes.length:=by omega
     have HIK:=Lib.hid hik
     clear hik
     obtain ⟨z,hz⟩:∃ z,g.nodes[i]? = some z:=⟨_,List.getElem?_eq_getElem hin⟩
     obtain ⟨M1,_,y1,hv1,-,-,-,hl1,hc1⟩:=open_slice (HI2.out.keeps HR.out.2.1.1)
     obtain ⟨M2,_,y2,hv2,-,-,-,hl2,hc2⟩:=open_slice (HI2.out.keeps HR.out.2.1.2)
     simp only [Value.slice.injEq,true_and] at hv1 hv2
     obtain ⟨rfl,rfl⟩:=hv1
     obtain ⟨rfl,rfl⟩:=hv2
     obtain ⟨a2,f1,x1,rfl,hbA,hr1,hcA⟩:=elem_at hl1 hc1 (by decide) hz
     obtain ⟨b2,f2,x2,rfl,hbB,hr2,hcB⟩:=elem_at hl2 hc2 (by decide) hz
     have hP:=HI2.out
     have hlt:=hP.lt
     have hn1:=gnode_len hr1
     have hn2:=gnode_len hr2
     have HN:=Lib.hid (And.intro hn1 hn2)
     have HF:=Lib.hid (And.intro (And.intro (show w.heap.size < wr.drew.heap.size by show w.heap.size < wr.heap.size;omega) (And.intro (show w.heap.size + 1 < wr.drew.heap.size from hlt) (And.intro (show wr.drew.cell? ⟨w.heap.size,1,none⟩ = _ from cell_at (j:=1) hP.src rfl) (show wr.drew.cell? ⟨w.heap.size + 1,1,none⟩ = _ from cell_at (j:=1) hP.res rfl))))
      (And.intro (And.intro (show a2 < wr.drew.heap.size from hbA) (show At wr.drew a2 (f1 + i * 40) x1 from fun j u hu=>by
       have h1:=(hcA j u hu).1
       rw [← Nat.add_assoc] at h1
       exact h1)) (And.intro (And.intro (show b2 < wr.drew.heap.size from hbB) (show At wr.drew b2 (f2 + i * 40) x2 from fun j u hu=>by
       have h1:=(hcB j u hu).1
       rw [← Nat.add_assoc] at h1
       exact h1)) (And.intro (show rep wr.drew (old wr.drew.heap.size) x1 z from rep_drewN hr1 1) (show rep wr.drew (old wr.drew.heap.size) x2 z from rep_drewN hr2 1)))))
     clear hz hl1 hc1 hl2 hc2 hbA hr1 hcA hbB hr2 hcB hP hlt hn1 hn2
     go_wp2_with fail
     clear a1
     go_cut [124] from 113 to 124 (fun v wx=>v = .bool false∧Below wr.heap.size wr wx)
     case first =>
      refine wp_region_held_drew (S:=fun W=>Below wr.drew.heap.size wr.drew W) (by kernel_rfl) (Below.refl _ _) (fun hHeld=>?_)
      refine take_d9 0 (some 113) (v:=.pointer (some ⟨w.heap.size,1,none⟩)) rfl (by kernel_rfl) (by kernel_rfl) (by kernel_rfl) (by kernel_rfl) (fun c a w h=>h) (Or.inl ⟨by kernel_rfl,fun w _=>by kernel_rfl⟩) hHeld ?_
      refine take_d9 1 (some 114) (v:=.slice (some ⟨a2,f1,none⟩) g.nodes.length k2) rfl (by kernel_rfl) (by kernel_rfl) (by kernel_rfl) (by kernel_rfl) (fun c a w h=>h) (yields_load_one9 (by kernel_rfl) _ _ rfl w.heap.size (1) (by kernel_rfl) _ _ Tryd.underlying61 rfl (fun _ h=>(h.cell (p:=⟨w.heap.size,1,none⟩) HF.out.1.1).trans HF.out.1.2.2.1)) hHeld ?_
      refine take_d9 2 (some 115) (v:=.int .i64 (i:Int)) rfl (by kernel_rfl) (by kernel_rfl) (by kernel_rfl) (by kernel_rfl) (fun c a w h=>h) (Or.inl ⟨by kernel_rfl,fun w _=>by kernel_rfl⟩) hHeld ?_
      refine take_d9 3 (some 116) (v:=.pointer (some ⟨a2,f1 + i * 40,none⟩)) rfl (by kernel_rfl) (by kernel_rfl) (by kernel_rfl) (by kernel_rfl) (fun c a w h=>h) (yields_indexQ (by kernel_rfl) _ _ _ rfl a2 f1 g.nodes.length k2 i 40 (f1 + i * 40) (i:Int) (by kernel_rfl) (by kernel_rfl) Tryd.underlying61 (by kernel_rfl) rfl hin rfl) hHeld ?_
      refine take_d9 4 (some 117) (v:=.agg x1.toArray) rfl (by kernel_rfl) (by kernel_rfl) (by kernel_rfl) (by kernel_rfl) (fun c a w h=>h) (yields_load_agg (by kernel_rfl) 68 _ rfl _ a2 (f1 + i * 40) (by kernel_rfl) x1 Tryd.underlying68 rfl (by rw [HN.out.1];kernel_rfl) (fun _ h=>(At.keep HF.out.2.1.2 h HF.out.2.1.1))) hHeld ?_
      refine take_d9 5 (some 118) (v:=.pointer (some ⟨(w.heap.size + 1),1,none⟩)) rfl (by kernel_rfl) (by kernel_rfl) (by kernel_rfl) (by kernel_rfl) (fun c a w h=>h) (Or.inl ⟨by kernel_rfl,fun w _=>by kernel_rfl⟩) hHeld ?_
      refine take_d9 6 (some 119) (v:=.slice (some ⟨b2,f2,none⟩) g.nodes.length l2) rfl (by kernel_rfl) (by kernel_rfl) (by kernel_rfl) (by kernel_rfl) (fun c a w h=>h) (yields_load_one9 (by kernel_rfl) _ _ rfl (w.heap.size + 1) (1) (by kernel_rfl) _ _ Tryd.underlying61 rfl (fun _ h=>(h.cell (p:=⟨w.heap.size + 1,1,none⟩) HF.out.1.2.1).trans HF.out.1.2.2.2)) hHeld ?_
      refine take_d9 7 (some 120) (v:=.int .i64 (i:Int)) rfl (by kernel_rfl) (by kernel_rfl) (by kernel_rfl) (by kernel_rfl) (fun c a w h=>h) (Or.inl ⟨by kernel_rfl,fun w _=>by kernel_rfl⟩) hHeld ?_
      refine take_d9 8 (some 121) (v:=.pointer (some ⟨b2,f2 + i * 40,none⟩)) rfl (by kernel_rfl) (by kernel_rfl) (by kernel_rfl) (by kernel_rfl) (fun c a w h=>h) (yields_indexQ (by kernel_rfl) _ _ _ rfl b2 f2 g.nodes.length l2 i 40 (f2 + i * 40) (i:Int) (by kernel_rfl) (by kernel_rfl) Tryd.underlying61 (by kernel_rfl) rfl hin rfl) hHeld ?_
      refine take_d9 9 (some 122) (v:=.agg x2.toArray) rfl (by kernel_rfl) (by kernel_rfl) (by kernel_rfl) (by kernel_rfl) (fun c a w h=>h) (yields_load_agg (by kernel_rfl) 68 _ rfl _ b2 (f2 + i * 40) (by kernel_rfl) x2 Tryd.underlying68 rfl (by rw [HN.out.2];kernel_rfl) (fun _ h=>(At.keep HF.out.2.2.1.2 h HF.out.2.2.1.1))) hHeld ?_
      refine call_d9 10 (some 123) rfl (by kernel_rfl) (by kernel_rfl) (by kernel_rfl) 61 _ _ rfl #[.agg x1.toArray,.agg x2.toArray] (by kernel_rfl) (fun w=>by kernel_rfl) ?_
      refine (sameNode_any x1 x2 z _ HF.out.2.2.2.1 HF.out.2.2.2.2).mono ?_
      rintro e w6 ⟨rfl,hb⟩
      have HB:=Lib.hid (show Below wr.heap.size wr w6 from ((Below.refl wr.heap.size wr).drew).trans hb)
      replace hHeld:Below wr.drew.heap.size wr.drew w6:=hb
      clear hb
      refine ⟨_,rfl,hHeld,?_⟩
      refine take_d9 11 (some 124) (v:=.bool false) rfl (by kernel_rfl) (by kernel_rfl) (by kernel_rfl) (by kernel_rfl) (fun c a w h=>h) (Or.inl ⟨by kernel_rfl,fun w _=>by kernel_rfl⟩) hHeld ?_
      refine wpAnyH_done (by kernel_rfl) ?_ _

      simp only [Act.put,List.setIfInBounds_toArray,List.set_cons_zero,List.set_cons_succ]
      rename_i J0 K0 h1 h2
      change K0 _ _
      refine h2 _ _ (Met.intro (h1 _ _ ?_))
      (repeat apply Exists.intro)
      exact ⟨⟨rfl,HB.out⟩,rfl⟩
     case rest =>
      obtain ⟨rfl,hC⟩:=hcut
      have HC:=Lib.hid hC
      clear hC
      go_wp2
      go_roundg k
      case measure=>omega
      case rel=>exact ⟨i + 1,by have:=HIK.out;omega,by go_num,HI2.out.next HC.out⟩
  | succ k =>
   have hi:(i:Int) < (g.vals.length:Int):=by omega
   have hi0:(0:Int) ≤ (i:Int):=Int.natCast_nonneg _
   have hin:i < g.vals.length:=by omega
   have HIK:=Lib.hid hik
   clear hik
   obtain ⟨z,hz⟩:∃ z,g.vals[i]? = some z:=⟨_,List.getElem?_eq_getElem hin⟩
   obtain ⟨M1,_,y1,hv1,-,-,-,hl1,hc1⟩:=open_slice (HI.out.keeps HR.out.1.1)
   obtain ⟨M2,_,y2,hv2,-,-,-,hl2,hc2⟩:=open_slice (HI.out.keeps HR.out.1.2)
   simp only [Value.slice.injEq,true_and] at hv1 hv2
   obtain ⟨rfl,rfl⟩:=hv1
   obtain ⟨rfl,rfl⟩:=hv2
   obtain ⟨a1,f1,x1,rfl,hbA,hr1,hcA⟩:=elem_at hl1 hc1 (by decide) hz
   obtain ⟨b1,f2,x2,rfl,hbB,hr2,hcB⟩:=elem_at hl2 hc2 (by decide) hz
   obtain ⟨D1,d1,D2,d2,D3,d3,D4,d4,D5,d5,rfl,-,u1,u3⟩:=open_ValD hr1
   obtain ⟨E1,e1,E2,e2,E3,e3,E4,e4,E5,e5,rfl,-,v1,v3⟩:=open_ValD hr2
   have hP:=HI.out
   have hlt:=hP.lt
   have HF:=Lib.hid (And.intro (And.intro (show w.heap.size < wr.drew.heap.size by show w.heap.size < wr.heap.size;omega) (And.intro (show w.heap.size + 1 < wr.drew.heap.size from hlt) (And.intro (show wr.drew.cell? ⟨w.heap.size,0,none⟩ = _ from cell_at (j:=0) hP.src rfl) (show wr.drew.cell? ⟨w.heap.size + 1,0,none⟩ = _ from cell_at (j:=0) hP.res rfl))))
    (And.intro (And.intro (show a1 < wr.drew.heap.size from hbA) (show At wr.drew a1 (f1 + i * 8) ([.int .i64 z.type,.slice D1 z.dims.length d1,.bool z.const,.int .i64 z.t.type,.slice D2 z.t.dims.length d2,.slice D3 z.t.f.length d3,.slice D4 z.t.i.length d4,.slice D5 z.t.b.length d5]:List Value) from fun j u hu=>by
     have h1:=(hcA j u hu).1
     rw [← Nat.add_assoc] at h1
     exact h1)) (And.intro (And.intro (show b1 < wr.drew.heap.size from hbB) (show At wr.drew b1 (f2 + i * 8) ([.int .i64 z.type,.slice E1 z.dims.length e1,.bool z.const,.int .i64 z.t.type,.slice E2 z.t.dims.length e2,.slice E3 z.t.f.length e3,.slice E4 z.t.i.length e4,.slice E5 z.t.b.length e5]:List Value) from fun j u hu=>by
     have h1:=(hcB j u hu).1
     rw [← Nat.add_assoc] at h1
     exact h1)) (And.intro (show rep wr.drew (old wr.drew.heap.size) _ z.dims from rep_drewN u1 1) (And.intro (show rep wr.drew (old wr.drew.heap.size) _ z.dims from rep_drewN v1 1) (And.intro (show rep wr.drew (old wr.drew.heap.size) _ z.t from rep_drewN u3 1) (show rep wr.drew (old wr.drew.heap.size) _ z.t from rep_drewN v3 1)))))))
   clear hz hl1 hc1 hl2 hc2 hbA hr1 hcA hbB hr2 hcB u1 u3 v1 v3 hP hlt
   go_wp2_with fail
   clear a0
   go_cut [105] from 46 to 105 (fun v wx=>v = .bool false∧Below wr.heap.size wr wx)
   case first =>
    refine wp_region_held_drew (S:=fun W=>Below wr.drew.heap.size wr.drew W) (by kernel_rfl) (Below.refl _ _) (fun hHeld=>?_)
    refine take_d9 0 (some 46) (v:=.pointer (some ⟨w.heap.size,0,none⟩)) rfl (by kernel_rfl) (by kernel_rfl) (by kernel_rfl) (by kernel_rfl) (fun c a w h=>h) (Or.inl ⟨by kernel_rfl,fun w _=>by kernel_rfl⟩) hHeld ?_
    refine take_d9 1 (some 47) (v:=.slice (some ⟨a1,f1,none⟩) g.vals.length k1) rfl (by kernel_rfl) (by kernel_rfl) (by kernel_rfl) (by kernel_rfl) (fun c a w h=>h) (yields_load_one9 (by kernel_rfl) _ _ rfl w.heap.size (0) (by kernel_rfl) _ _ Tryd.underlying60 rfl (fun _ h=>(h.cell (p:=⟨w.heap.size,0,none⟩) HF.out.1.1).trans HF.out.1.2.2.1)) hHeld ?_
    refine take_d9 2 (some 48) (v:=.int .i64 (i:Int)) rfl (by kernel_rfl) (by kernel_rfl) (by kernel_rfl) (by kernel_rfl) (fun c a w h=>h) (Or.inl ⟨by kernel_rfl,fun w _=>by kernel_rfl⟩) hHeld ?_
    refine take_d9 3 (some 49) (v:=.pointer (some ⟨a1,f1 + i * 8,none⟩)) rfl (by kernel_rfl) (by kernel_rfl) (by kernel_rfl) (by kernel_rfl) (fun c a w h=>h) (yields_indexQ (by kernel_rfl) _ _ _ rfl a1 f1 g.vals.length k1 i 8 (f1 + i * 8) (i:Int) (by kernel_rfl) (by kernel_rfl) Tryd.underlying60 (by kernel_rfl) rfl hin rfl) hHeld ?_
    refine take_d9 4 (some 50) (v:=.pointer (some ⟨a1,f1 + i * 8,none⟩)) rfl (by kernel_rfl) (by kernel_rfl) (by kernel_rfl) (by kernel_rfl) (fun c a w h=>h) (Or.inl ⟨by kernel_rfl,fun w _=>by kernel_rfl⟩) hHeld ?_
    refine take_d9 5 (some 51) (v:=.int .i64 z.type) rfl (by kernel_rfl) (by kernel_rfl) (by kernel_rfl) (by kernel_rfl) (fun c a w h=>h) (yields_load_one9 (by kernel_rfl) _ _ rfl a1 (f1 + i * 8) (by kernel_rfl) _ _ Tryd.underlying3 rfl (fun _ h=>(At.keep HF.out.2.1.2 h HF.out.2.1.1) 0 _ rfl)) hHeld ?_
    refine take_d9 6 (some 52) (v:=.pointer (some ⟨(w.heap.size + 1),0,none⟩)) rfl (by kernel_rfl) (by kernel_rfl) (by kernel_rfl) (by kernel_rfl) (fun c a w h=>h) (Or.inl ⟨by kernel_rfl,fun w _=>by kernel_rfl⟩) hHeld ?_
    refine take_d9 7 (some 53) (v:=.slice (some ⟨b1,f2,none⟩) g.vals.length l1) rfl (by kernel_rfl) (by kernel_rfl) (by kernel_rfl) (by kernel_rfl) (fun c a w h=>h) (yields_load_one9 (by kernel_rfl) _ _ rfl (w.heap.size + 1) (0) (by kernel_rfl) _ _ Tryd.underlying60 rfl (fun _ h=>(h.cell (p:=⟨w.heap.size + 1,0,none⟩) HF.out.1.2.1).trans HF.out.1.2.2.2)) hHeld ?_
    refine take_d9 8 (some 54) (v:=.int .i64 (i:Int)) rfl (by kernel_rfl) (by kernel_rfl) (by kernel_rfl) (by kernel_rfl) (fun c a w h=>h) (Or.inl ⟨by kernel_rfl,fun w _=>by kernel_rfl⟩) hHeld ?_
    refine take_d9 9 (some 55) (v:=.pointer (some ⟨b1,f2 + i * 8,none⟩)) rfl (by kernel_rfl) (by kernel_rfl) (by kernel_rfl) (by kernel_rfl) (fun c a w h=>h) (yields_indexQ (by kernel_rfl) _ _ _ rfl b1 f2 g.vals.length l1 i 8 (f2 + i * 8) (i:Int) (by kernel_rfl) (by kernel_rfl) Tryd.underlying60 (by kernel_rfl) rfl hin rfl) hHeld ?_
    refine take_d9 10 (some 56) (v:=.pointer (some ⟨b1,f2 + i * 8,none⟩)) rfl (by kernel_rfl) (by kernel_rfl) (by kernel_rfl) (by kernel_rfl) (fun c a w h=>h) (Or.inl ⟨by kernel_rfl,fun w _=>by kernel_rfl⟩) hHeld ?_
    refine take_d9 11 (some 57) (v:=.int .i64 z.type) rfl (by kernel_rfl) (by kernel_rfl) (by kernel_rfl) (by kernel_rfl) (fun c a w h=>h) (yields_load_one9 (by kernel_rfl) _ _ rfl b1 (f2 + i * 8) (by kernel_rfl) _ _ Tryd.underlying3 rfl (fun _ h=>(At.keep HF.out.2.2.1.2 h HF.out.2.2.1.1) 0 _ rfl)) hHeld ?_
    refine take_d9 12 (some 58) (v:=.bool false) rfl (by kernel_rfl) (by kernel_rfl) (by kernel_rfl) (by kernel_rfl) (fun c a w h=>h) (yields_neqF9 (by kernel_rfl) _ _ _ _ rfl (z.type) (by kernel_rfl) (by kernel_rfl) Tryd.underlying3) hHeld ?_
    refine take_d9 13 (some 59) (v:=.bool false) rfl (by kernel_rfl) (by kernel_rfl) (by kernel_rfl) (by kernel_rfl) (fun c a w h=>h) (Or.inl ⟨by kernel_rfl,fun w _=>by kernel_rfl⟩) hHeld ?_
    refine take_d9 14 (some 60) (v:=.pointer (some ⟨w.heap.size,0,none⟩)) rfl (by kernel_rfl) (by kernel_rfl) (by kernel_rfl) (by kernel_rfl) (fun c a w h=>h) (Or.inl ⟨by kernel_rfl,fun w _=>by kernel_rfl⟩) hHeld ?_
    refine take_d9 15 (some 61) (v:=.slice (some ⟨a1,f1,none⟩) g.vals.length k1) rfl (by kernel_rfl) (by kernel_rfl) (by kernel_rfl) (by kernel_rfl) (fun c a w h=>h) (yields_load_one9 (by kernel_rfl) _ _ rfl w.heap.size (0) (by kernel_rfl) _ _ Tryd.underlying60 rfl (fun _ h=>(h.cell (p:=⟨w.heap.size,0,none⟩) HF.out.1.1).trans HF.out.1.2.2.1)) hHeld ?_
    refine take_d9 16 (some 62) (v:=.int .i64 (i:Int)) rfl (by kernel_rfl) (by kernel_rfl) (by kernel_rfl) (by kernel_rfl) (fun c a w h=>h) (Or.inl ⟨by kernel_rfl,fun w _=>by kernel_rfl⟩) hHeld ?_
    refine take_d9 17 (some 63) (v:=.pointer (some ⟨a1,f1 + i * 8,none⟩)) rfl (by kernel_rfl) (by kernel_rfl) (by kernel_rfl) (by kernel_rfl) (fun c a w h=>h) (yields_indexQ (by kernel_rfl) _ _ _ rfl a1 f1 g.vals.length k1 i 8 (f1 + i * 8) (i:Int) (by kernel_rfl) (by kernel_rfl) Tryd.underlying60 (by kernel_rfl) rfl hin rfl) hHeld ?_
    refine take_d9 18 (some 64) (v:=.pointer (some ⟨a1,f1 + i * 8 + 2,none⟩)) rfl (by kernel_rfl) (by kernel_rfl) (by kernel_rfl) (by kernel_rfl) (fun c a w h=>h) (Or.inl ⟨by kernel_rfl,fun w _=>by kernel_rfl⟩) hHeld ?_
    refine take_d9 19 (some 65) (v:=.bool z.const) rfl (by kernel_rfl) (by kernel_rfl) (by kernel_rfl) (by kernel_rfl) (fun c a w h=>h) (yields_load_one9 (by kernel_rfl) _ _ rfl a1 (f1 + i * 8 + 2) (by kernel_rfl) _ _ Tryd.underlying4 rfl (fun _ h=>(At.keep HF.out.2.1.2 h HF.out.2.1.1) 2 _ rfl)) hHeld ?_
    refine take_d9 20 (some 66) (v:=.pointer (some ⟨(w.heap.size + 1),0,none⟩)) rfl (by kernel_rfl) (by kernel_rfl) (by kernel_rfl) (by kernel_rfl) (fun c a w h=>h) (Or.inl ⟨by kernel_rfl,fun w _=>by kernel_rfl⟩) hHeld ?_
    refine take_d9 21 (some 67) (v:=.slice (some ⟨b1,f2,none⟩) g.vals.length l1) rfl (by kernel_rfl) (by kernel_rfl) (by kernel_rfl) (by kernel_rfl) (fun c a w h=>h) (yields_load_one9 (by kernel_rfl) _ _ rfl (w.heap.size + 1) (0) (by kernel_rfl) _ _ Tryd.underlying60 rfl (fun _ h=>(h.cell (p:=⟨w.heap.size + 1,0,none⟩) HF.out.1.2.1).trans HF.out.1.2.2.2)) hHeld ?_
    refine take_d9 22 (some 68) (v:=.int .i64 (i:Int)) rfl (by kernel_rfl) (by kernel_rfl) (by kernel_rfl) (by kernel_rfl) (fun c a w h=>h) (Or.inl ⟨by kernel_rfl,fun w _=>by kernel_rfl⟩) hHeld ?_
    refine take_d9 23 (some 69) (v:=.pointer (some ⟨b1,f2 + i * 8,none⟩)) rfl (by kernel_rfl) (by kernel_rfl) (by kernel_rfl) (by kernel_rfl) (fun c a w h=>h) (yields_indexQ (by kernel_rfl) _ _ _ rfl b1 f2 g.vals.length l1 i 8 (f2 + i * 8) (i:Int) (by kernel_rfl) (by kernel_rfl) Tryd.underlying60 (by kernel_rfl) rfl hin rfl) hHeld ?_
    refine take_d9 24 (some 70) (v:=.pointer (some ⟨b1,f2 + i * 8 + 2,none⟩)) rfl (by kernel_rfl) (by kernel_rfl) (by kernel_rfl) (by kernel_rfl) (fun c a w h=>h) (Or.inl ⟨by kernel_rfl,fun w _=>by kernel_rfl⟩) hHeld ?_
    refine take_d9 25 (some 71) (v:=.bool z.const) rfl (by kernel_rfl) (by kernel_rfl) (by kernel_rfl) (by kernel_rfl) (fun c a w h=>h) (yields_load_one9 (by kernel_rfl) _ _ rfl b1 (f2 + i * 8 + 2) (by kernel_rfl) _ _ Tryd.underlying4 rfl (fun _ h=>(At.keep HF.out.2.2.1.2 h HF.out.2.2.1.1) 2 _ rfl)) hHeld ?_
    refine take_d9 26 (some 72) (v:=.bool false) rfl (by kernel_rfl) (by kernel_rfl) (by kernel_rfl) (by kernel_rfl) (fun c a w h=>h) (yields_neqB9 (by kernel_rfl) _ _ _ _ rfl (z.const) (by kernel_rfl) (by kernel_rfl) Tryd.underlying4) hHeld ?_
    refine take_d9 27 (some 73) (v:=.bool false) rfl (by kernel_rfl) (by kernel_rfl) (by kernel_rfl) (by kernel_rfl) (fun c a w h=>h) (Or.inl ⟨by kernel_rfl,fun w _=>by kernel_rfl⟩) hHeld ?_
    refine take_d9 28 (some 74) (v:=.bool false) rfl (by kernel_rfl) (by kernel_rfl) (by kernel_rfl) (by kernel_rfl) (fun c a w h=>h) (Or.inl ⟨by kernel_rfl,fun w _=>by kernel_rfl⟩) hHeld ?_
    refine take_d9 29 (some 75) (v:=.pointer (some ⟨w.heap.size,0,none⟩)) rfl (by kernel_rfl) (by kernel_rfl) (by kernel_rfl) (by kernel_rfl) (fun c a w h=>h) (Or.inl ⟨by kernel_rfl,fun w _=>by kernel_rfl⟩) hHeld ?_
    refine take_d9 30 (some 76) (v:=.slice (some ⟨a1,f1,none⟩) g.vals.length k1) rfl (by kernel_rfl) (by kernel_rfl) (by kernel_rfl) (by kernel_rfl) (fun c a w h=>h) (yields_load_one9 (by kernel_rfl) _ _ rfl w.heap.size (0) (by kernel_rfl) _ _ Tryd.underlying60 rfl (fun _ h=>(h.cell (p:=⟨w.heap.size,0,none⟩) HF.out.1.1).trans HF.out.1.2.2.1)) hHeld ?_
    refine take_d9 31 (some 77) (v:=.int .i64 (i:Int)) rfl (by kernel_rfl) (by kernel_rfl) (by kernel_rfl) (by kernel_rfl) (fun c a w h=>h) (Or.inl ⟨by kernel_rfl,fun w _=>by kernel_rfl⟩) hHeld ?_
    refine take_d9 32 (some 78) (v:=.pointer (some ⟨a1,f1 + i * 8,none⟩)) rfl (by kernel_rfl) (by kernel_rfl) (by kernel_rfl) (by kernel_rfl) (fun c a w h=>h) (yields_indexQ (by kernel_rfl) _ _ _ rfl a1 f1 g.vals.length k1 i 8 (f1 + i * 8) (i:Int) (by kernel_rfl) (by kernel_rfl) Tryd.underlying60 (by kernel_rfl) rfl hin rfl) hHeld ?_
    refine take_d9 33 (some 79) (v:=.pointer (some ⟨a1,f1 + i * 8 + 1,none⟩)) rfl (by kernel_rfl) (by kernel_rfl) (by kernel_rfl) (by kernel_rfl) (fun c a w h=>h) (Or.inl ⟨by kernel_rfl,fun w _=>by kernel_rfl⟩) hHeld ?_
    refine take_d9 34 (some 80) (v:=.slice D1 z.dims.length d1) rfl (by kernel_rfl) (by kernel_rfl) (by kernel_rfl) (by kernel_rfl) (fun c a w h=>h) (yields_load_one9 (by kernel_rfl) _ _ rfl a1 (f1 + i * 8 + 1) (by kernel_rfl) _ _ Tryd.underlying37 rfl (fun _ h=>(At.keep HF.out.2.1.2 h HF.out.2.1.1) 1 _ rfl)) hHeld ?_
    refine take_d9 35 (some 81) (v:=.pointer (some ⟨(w.heap.size + 1),0,none⟩)) rfl (by kernel_rfl) (by kernel_rfl) (by kernel_rfl) (by kernel_rfl) (fun c a w h=>h) (Or.inl ⟨by kernel_rfl,fun w _=>by kernel_rfl⟩) hHeld ?_
    refine take_d9 36 (some 82) (v:=.slice (some ⟨b1,f2,none⟩) g.vals.length l1) rfl (by kernel_rfl) (by kernel_rfl) (by kernel_rfl) (by kernel_rfl) (fun c a w h=>h) (yields_load_one9 (by kernel_rfl) _ _ rfl (w.heap.size + 1) (0) (by kernel_rfl) _ _ Tryd.underlying60 rfl (fun _ h=>(h.cell (p:=⟨w.heap.size + 1,0,none⟩) HF.out.1.2.1).trans HF.out.1.2.2.2)) hHeld ?_
    refine take_d9 37 (some 83) (v:=.int .i64 (i:Int)) rfl (by kernel_rfl) (by kernel_rfl) (by kernel_rfl) (by kernel_rfl) (fun c a w h=>h) (Or.inl ⟨by kernel_rfl,fun w _=>by kernel_rfl⟩) hHeld ?_
    refine take_d9 38 (some 84) (v:=.pointer (some ⟨b1,f2 + i * 8,none⟩)) rfl (by kernel_rfl) (by kernel_rfl) (by kernel_rfl) (by kernel_rfl) (fun c a w h=>h) (yields_indexQ (by kernel_rfl) _ _ _ rfl b1 f2 g.vals.length l1 i 8 (f2 + i * 8) (i:Int) (by kernel_rfl) (by kernel_rfl) Tryd.underlying60 (by kernel_rfl) rfl hin rfl) hHeld ?_
    refine take_d9 39 (some 85) (v:=.pointer (some ⟨b1,f2 + i * 8 + 1,none⟩)) rfl (by kernel_rfl) (by kernel_rfl) (by kernel_rfl) (by kernel_rfl) (fun c a w h=>h) (Or.inl ⟨by kernel_rfl,fun w _=>by kernel_rfl⟩) hHeld ?_
    refine take_d9 40 (some 86) (v:=.slice E1 z.dims.length e1) rfl (by kernel_rfl) (by kernel_rfl) (by kernel_rfl) (by kernel_rfl) (fun c a w h=>h) (yields_load_one9 (by kernel_rfl) _ _ rfl b1 (f2 + i * 8 + 1) (by kernel_rfl) _ _ Tryd.underlying37 rfl (fun _ h=>(At.keep HF.out.2.2.1.2 h HF.out.2.2.1.1) 1 _ rfl)) hHeld ?_
    refine call_d9 41 (some 87) rfl (by kernel_rfl) (by kernel_rfl) (by kernel_rfl) 28 _ _ rfl #[.slice D1 z.dims.length d1,.slice E1 z.dims.length e1] (by kernel_rfl) (fun w=>by kernel_rfl) ?_
    refine (sameInts_any _ _ z.dims _ HF.out.2.2.2.1 HF.out.2.2.2.2.1).mono ?_
    rintro e w5 ⟨rfl,n5,rfl⟩
    replace hHeld:Below wr.drew.heap.size wr.drew (wr.drew.drewN n5):=below_drewN (Below.refl _ _) n5
    refine ⟨_,rfl,hHeld,?_⟩
    refine take_d9 42 (some 88) (v:=.bool false) rfl (by kernel_rfl) (by kernel_rfl) (by kernel_rfl) (by kernel_rfl) (fun c a w h=>h) (Or.inl ⟨by kernel_rfl,fun w _=>by kernel_rfl⟩) hHeld ?_
    refine take_d9 43 (some 89) (v:=.bool false) rfl (by kernel_rfl) (by kernel_rfl) (by kernel_rfl) (by kernel_rfl) (fun c a w h=>h) (Or.inl ⟨by kernel_rfl,fun w _=>by kernel_rfl⟩) hHeld ?_
    refine take_d9 44 (some 90) (v:=.bool false) rfl (by kernel_rfl) (by kernel_rfl) (by kernel_rfl) (by kernel_rfl) (fun c a w h=>h) (Or.inl ⟨by kernel_rfl,fun w _=>by kernel_rfl⟩) hHeld ?_
    refine take_d9 45 (some 91) (v:=.pointer (some ⟨w.heap.size,0,none⟩)) rfl (by kernel_rfl) (by kernel_rfl) (by kernel_rfl) (by kernel_rfl) (fun c a w h=>h) (Or.inl ⟨by kernel_rfl,fun w _=>by kernel_rfl⟩) hHeld ?_
    refine take_d9 46 (some 92) (v:=.slice (some ⟨a1,f1,none⟩) g.vals.length k1) rfl (by kernel_rfl) (by kernel_rfl) (by kernel_rfl) (by kernel_rfl) (fun c a w h=>h) (yields_load_one9 (by kernel_rfl) _ _ rfl w.heap.size (0) (by kernel_rfl) _ _ Tryd.underlying60 rfl (fun _ h=>(h.cell (p:=⟨w.heap.size,0,none⟩) HF.out.1.1).trans HF.out.1.2.2.1)) hHeld ?_
    refine take_d9 47 (some 93) (v:=.int .i64 (i:Int)) rfl (by kernel_rfl) (by kernel_rfl) (by kernel_rfl) (by kernel_rfl) (fun c a w h=>h) (Or.inl ⟨by kernel_rfl,fun w _=>by kernel_rfl⟩) hHeld ?_
    refine take_d9 48 (some 94) (v:=.pointer (some ⟨a1,f1 + i * 8,none⟩)) rfl (by kernel_rfl) (by kernel_rfl) (by kernel_rfl) (by kernel_rfl) (fun c a w h=>h) (yields_indexQ (by kernel_rfl) _ _ _ rfl a1 f1 g.vals.length k1 i 8 (f1 + i * 8) (i:Int) (by kernel_rfl) (by kernel_rfl) Tryd.underlying60 (by kernel_rfl) rfl hin rfl) hHeld ?_
    refine take_d9 49 (some 95) (v:=.pointer (some ⟨a1,f1 + i * 8 + 3,none⟩)) rfl (by kernel_rfl) (by kernel_rfl) (by kernel_rfl) (by kernel_rfl) (fun c a w h=>h) (Or.inl ⟨by kernel_rfl,fun w _=>by kernel_rfl⟩) hHeld ?_
    refine take_d9 50 (some 96) (v:=.agg ([.int .i64 z.t.type,.slice D2 z.t.dims.length d2,.slice D3 z.t.f.length d3,.slice D4 z.t.i.length d4,.slice D5 z.t.b.length d5]:List Value).toArray) rfl (by kernel_rfl) (by kernel_rfl) (by kernel_rfl) (by kernel_rfl) (fun c a w h=>h) (yields_load_agg (by kernel_rfl) 43 _ rfl _ a1 (f1 + i * 8 + 3) (by kernel_rfl) ([.int .i64 z.t.type,.slice D2 z.t.dims.length d2,.slice D3 z.t.f.length d3,.slice D4 z.t.i.length d4,.slice D5 z.t.b.length d5]:List Value) Tryd.underlying43 rfl (by kernel_rfl) (fun _ h=>At.part (xs:=[.int .i64 z.type,.slice D1 z.dims.length d1,.bool z.const]) (cs:=([.int .i64 z.t.type,.slice D2 z.t.dims.length d2,.slice D3 z.t.f.length d3,.slice D4 z.t.i.length d4,.slice D5 z.t.b.length d5]:List Value)) (ys:=[]) (At.keep HF.out.2.1.2 h HF.out.2.1.1))) hHeld ?_
    refine take_d9 51 (some 97) (v:=.pointer (some ⟨(w.heap.size + 1),0,none⟩)) rfl (by kernel_rfl) (by kernel_rfl) (by kernel_rfl) (by kernel_rfl) (fun c a w h=>h) (Or.inl ⟨by kernel_rfl,fun w _=>by kernel_rfl⟩) hHeld ?_
    refine take_d9 52 (some 98) (v:=.slice (some ⟨b1,f2,none⟩) g.vals.length l1) rfl (by kernel_rfl) (by kernel_rfl) (by kernel_rfl) (by kernel_rfl) (fun c a w h=>h) (yields_load_one9 (by kernel_rfl) _ _ rfl (w.heap.size + 1) (0) (by kernel_rfl) _ _ Tryd.underlying60 rfl (fun _ h=>(h.cell (p:=⟨w.heap.size + 1,0,none⟩) HF.out.1.2.1).trans HF.out.1.2.2.2)) hHeld ?_
    refine take_d9 53 (some 99) (v:=.int .i64 (i:Int)) rfl (by kernel_rfl) (by kernel_rfl) (by kernel_rfl) (by kernel_rfl) (fun c a w h=>h) (Or.inl ⟨by kernel_rfl,fun w _=>by kernel_rfl⟩) hHeld ?_
    refine take_d9 54 (some 100) (v:=.pointer (some ⟨b1,f2 + i * 8,none⟩)) rfl (by kernel_rfl) (by kernel_rfl) (by kernel_rfl) (by kernel_rfl) (fun c a w h=>h) (yields_indexQ (by kernel_rfl) _ _ _ rfl b1 f2 g.vals.length l1 i 8 (f2 + i * 8) (i:Int) (by kernel_rfl) (by kernel_rfl) Tryd.underlying60 (by kernel_rfl) rfl hin rfl) hHeld ?_
    refine take_d9 55 (some 101) (v:=.pointer (some ⟨b1,f2 + i * 8 + 3,none⟩)) rfl (by kernel_rfl) (by kernel_rfl) (by kernel_rfl) (by kernel_rfl) (fun c a w h=>h) (Or.inl ⟨by kernel_rfl,fun w _=>by kernel_rfl⟩) hHeld ?_
    refine take_d9 56 (some 102) (v:=.agg ([.int .i64 z.t.type,.slice E2 z.t.dims.length e2,.slice E3 z.t.f.length e3,.slice E4 z.t.i.length e4,.slice E5 z.t.b.length e5]:List Value).toArray) rfl (by kernel_rfl) (by kernel_rfl) (by kernel_rfl) (by kernel_rfl) (fun c a w h=>h) (yields_load_agg (by kernel_rfl) 43 _ rfl _ b1 (f2 + i * 8 + 3) (by kernel_rfl) ([.int .i64 z.t.type,.slice E2 z.t.dims.length e2,.slice E3 z.t.f.length e3,.slice E4 z.t.i.length e4,.slice E5 z.t.b.length e5]:List Value) Tryd.underlying43 rfl (by kernel_rfl) (fun _ h=>At.part (xs:=[.int .i64 z.type,.slice E1 z.dims.length e1,.bool z.const]) (cs:=([.int .i64 z.t.type,.slice E2 z.t.dims.length e2,.slice E3 z.t.f.length e3,.slice E4 z.t.i.length e4,.slice E5 z.t.b.length e5]:List Value)) (ys:=[]) (At.keep HF.out.2.2.1.2 h HF.out.2.2.1.1))) hHeld ?_
    refine call_d9 57 (some 103) rfl (by kernel_rfl) (by kernel_rfl) (by kernel_rfl) 60 _ _ rfl #[.agg ([.int .i64 z.t.type,.slice D2 z.t.dims.length d2,.slice D3 z.t.f.length d3,.slice D4 z.t.i.length d4,.slice D5 z.t.b.length d5]:List Value).toArray,.agg ([.int .i64 z.t.type,.slice E2 z.t.dims.length e2,.slice E3 z.t.f.length e3,.slice E4 z.t.i.length e4,.slice E5 z.t.b.length e5]:List Value).toArray] (by kernel_rfl) (fun w=>by kernel_rfl) ?_
    refine (sameTensor5_any ([.int .i64 z.t.type,.slice D2 z.t.dims.length d2,.slice D3 z.t.f.length d3,.slice D4 z.t.i.length d4,.slice D5 z.t.b.length d5]:List Value) ([.int .i64 z.t.type,.slice E2 z.t.dims.length e2,.slice E3 z.t.f.length e3,.slice E4 z.t.i.length e4,.slice E5 z.t.b.length e5]:List Value) z.t _ (rep_drewN HF.out.2.2.2.2.2.1 n5) (rep_drewN HF.out.2.2.2.2.2.2 n5)).mono ?_
    rintro e w6 ⟨rfl,hb⟩
    have HB:=Lib.hid (show Below wr.heap.size wr w6 from (below_drewN ((Below.refl wr.heap.size wr).drew) n5).trans hb)
    replace hHeld:Below wr.drew.heap.size wr.drew w6:=hHeld.trans hb
    clear hb
    refine ⟨_,rfl,hHeld,?_⟩
    refine take_d9 58 (some 104) (v:=.bool false) rfl (by kernel_rfl) (by kernel_rfl) (by kernel_rfl) (by kernel_rfl) (fun c a w h=>h) (Or.inl ⟨by kernel_rfl,fun w _=>by kernel_rfl⟩) hHeld ?_
    refine take_d9 59 (some 105) (v:=.bool false) rfl (by kernel_rfl) (by kernel_rfl) (by kernel_rfl) (by kernel_rfl) (fun c a w h=>h) (Or.inl ⟨by kernel_rfl,fun w _=>by kernel_rfl⟩) hHeld ?_
    refine wpAnyH_done (by kernel_rfl) ?_ _

    simp only [Act.put,List.setIfInBounds_toArray,List.set_cons_zero,List.set_cons_succ]
    rename_i J0 K0 h1 h2
    change K0 _ _
    refine h2 _ _ (Met.intro (h1 _ _ ?_))
    (repeat apply Exists.intro)
    exact ⟨⟨rfl,HB.out⟩,rfl⟩
   case rest =>
    obtain ⟨rfl,hC⟩:=hcut
    have HC:=Lib.hid hC
    clear hC
    go_wp2
    go_roundg k
    case measure=>omega
    case rel=>exact ⟨i + 1,by have:=HIK.out;omega,by go_num,HI.out.next HC.out⟩
end Go.Proofs.YtgbkhcmbmffljaaDoor
