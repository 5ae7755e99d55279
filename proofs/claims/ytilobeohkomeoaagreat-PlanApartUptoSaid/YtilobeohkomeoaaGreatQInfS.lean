/-
  Chapter 10: Conv. No condition.
-/
import Derived.Test.YtilobeohkomeoaaGreatQYsl
set_option linter.unusedSimpArgs false
set_option linter.unusedVariables false
namespace Go.Proofs.YtilobeohkomeoaaGreat
open Go.RowKit
open Rep (rep)
theorem lst_post {W:World} {b o k j:Nat} {l:List Int} (h:Lst W (some ⟨b,o,none⟩) k l) (hj:j ≤ l.length):Lst W (some ⟨b,o + j,none⟩) (k - j) (l.drop j):=by
 unfold Lst
 have:=rep_post h hj
 rwa [show (some (⟨b,o,none⟩:Addr)).map (fun x=>x.add j) = some ⟨b,o + j,none⟩ by simp [Addr.add]] at this
set_option maxRecDepth 100000 in
set_option maxHeartbeats 8000000 in
theorem conv_any (cs:List Value) (a:AskD) (w:World) (hr:rep w (old w.heap.size) cs a) (hg:1 ≤ a.s.group) (hf1:manyD a.s.strides 2 = true) (hf2:manyD a.s.dilations 2 = true) (hf3:manyD a.s.pads 4 = true) :
  Calls Tryz.prog 78 #[.agg cs.toArray] w (ShP w P1):=by
 obtain ⟨ss,hs,hc⟩:=ask_set hr
 obtain ⟨Ak,kk,s1,r1⟩:=fld_list hs.f20
 have HC:=Lib.hid (And.intro (show LstN w.heap.size w Ak kk a.s.kernel from ⟨Nat.le_refl _,r1⟩) (And.intro (hc 20 _ s1) (hc 19 _ (fld_int hs.f19).1)))
 have HF:=Lib.hid (And.intro hf1 (And.intro hf2 hf3))
 obtain ⟨kb,kb'⟩:=slice_bnd r1
 clear hs hc s1 r1 hf1 hf2 hf3
 go_enter Tryz.func78,Tryz.ntmps78
 go_wp2_with (with_reducible refine wpList_box_row rfl 91 _ rfl cs rfl ?_;have hX:=ask_start hr;generalize World.alloc _ _ = W0 at hX ⊢;have HX:=Lib.hid hX;clear hX hr;refine halt ?_)
 unfold Halt
 go_wp2_with fail
 refine wp_region_held_drew (S:=fun W=>AskI w cs a W∧Below W0.heap.size W0 W) (by kernel_rfl) ⟨HX.out.next ((Below.refl _ _).drew),(Below.refl _ _).drew⟩ (fun hHeld=>?_)
 generalize World.drew _ = V2 at hHeld ⊢
 have hb:=hHeld.2
 clear hb
 refine tk9 0 (some 9) (v:=.agg cs.toArray) rfl (yields_ask (by kernel_rfl) _ rfl (by kernel_rfl) (fun _ h=>h.1)) hHeld ?_
 refine tk9 2 (some 11) (v:=.agg cs.toArray) rfl (yields_ask (by kernel_rfl) _ rfl (by kernel_rfl) (fun _ h=>h.1)) hHeld ?_
 refine tk0 4 (some 13) (v:=.pointer (some ⟨w.heap.size,1,none⟩)) rfl hHeld ?_
 refine tk0 5 (some 14) (v:=.pointer (some ⟨w.heap.size,20,none⟩)) rfl hHeld ?_
 refine tk9 6 (some 15) (v:=.int .i64 a.s.group) rfl (yields_load_one9 (by kernel_rfl) _ _ rfl (w.heap.size) (20) (by kernel_rfl) _ _ Tryz.underlying3 rfl (fun _ h=>h.1.cell HC.out.2.2)) hHeld ?_
 refine call_d9 1 (some 10) rfl (by kernel_rfl) (by kernel_rfl) (by kernel_rfl) 70 _ _ rfl #[.agg cs.toArray,.int .i64 0] (by kernel_rfl) (fun w=>by kernel_rfl) ?_
 refine (askDims' cs a 0 w.heap.size _ hHeld.1.below.size hHeld.1.arg0).mono ?_
 rintro e V3 ⟨A0,k0,rfl,h0,hb⟩
 have L0:=Lib.hid (lst_n hHeld.1 hb h0)
 obtain ⟨b0,b0'⟩:=slice_bnd h0
 clear h0
 replace hHeld:=held_next hHeld hb
 refine ⟨_,rfl,hHeld,?_⟩
 clear hb
 refine call_d9 3 (some 12) rfl (by kernel_rfl) (by kernel_rfl) (by kernel_rfl) 70 _ _ rfl #[.agg cs.toArray,.int .i64 1] (by kernel_rfl) (fun w=>by kernel_rfl) ?_
 refine (askDims' cs a 1 w.heap.size _ hHeld.1.below.size hHeld.1.arg0).mono ?_
 rintro e V4 ⟨A1,k1,rfl,h1,hb⟩
 replace L0:=Lib.hid (L0.out.next hb)
 have L1:=Lib.hid (lst_n hHeld.1 hb h1)
 obtain ⟨b1,b1'⟩:=slice_bnd h1
 clear h1
 replace hHeld:=held_next hHeld hb
 refine ⟨_,rfl,hHeld,?_⟩
 clear hb
 refine tk0 7 (some 4) (v:=.slice A0 (a.dims 0).length k0) rfl hHeld ?_
 refine tk0 8 (some 5) (v:=.slice A1 (a.dims 1).length k1) rfl hHeld ?_
 refine tk0 9 (some 6) (v:=.int .i64 a.s.group) rfl hHeld ?_
 refine wpAnyH_done (by kernel_rfl) ?_ _
 replace HX:=Lib.hid hHeld.1
 clear hHeld
 obtain ⟨x,hx⟩:∃ x,a.dims 0 = x:=⟨_,rfl⟩
 have HXD:=Lib.hid hx
 rw [hx] at L0 b0 ⊢
 clear hx
 generalize a.dims 1 = y at L1 b1 ⊢
 generalize a.s.group = g at HC hg ⊢
 have hg0:¬ g = 0:=by omega
 clear hg
 go_wp2_with fail
 by_cases hx4:x.length = 4
 ·by_cases hy4:y.length = 4
  ·obtain ⟨x0,x1,x2,x3,rfl⟩:=four hx4
   obtain ⟨y0,y1,y2,y3,rfl⟩:=four hy4
   have LX:=Lib.hid (HX.out.back L0.out)
   have LY:=Lib.hid (HX.out.back L1.out)
   obtain ⟨i0,b2,o2,rfl,-,-⟩:=L0.out.get (j:=0) rfl
   obtain ⟨j0,b3,o3,rfl,-,-⟩:=L1.out.get (j:=0) rfl
   have HI:=Lib.hid (And.intro i0 j0)
   clear hx4 hy4 i0 j0
   obtain ⟨cC,hC⟩:∃ c,(x1 == 0) = c:=⟨_,rfl⟩
   obtain ⟨cD,hD⟩:∃ c,(y0 == 0) = c:=⟨_,rfl⟩
   obtain ⟨cE,hE⟩:∃ c,(Int.tmod x1 g != 0) = c:=⟨_,rfl⟩
   obtain ⟨cF,hF⟩:∃ c,(Int.tmod y0 g != 0) = c:=⟨_,rfl⟩
   obtain ⟨cG,hG⟩:∃ c,(y1 != wrap64 (Int.tdiv x1 g)) = c:=⟨_,rfl⟩
   cases cC with
   | true =>
    refine wp_region_held_drew (S:=fun W=>AskI w cs a W∧Below V4.heap.size V4 W) (by kernel_rfl) ⟨HX.out.next ((Below.refl _ _).drew),(Below.refl _ _).drew⟩ (fun hHeld=>?_)
    generalize World.drew _ = V15 at hHeld ⊢
    have hb:=hHeld.2
    replace L0:=Lib.hid (L0.out.next hb)
    replace L1:=Lib.hid (L1.out.next hb)
    clear hb
    refine tk0 0 (some 16) (v:=.slice (some ⟨b2,o2,none⟩) 4 k0) rfl hHeld ?_
    refine tk0 1 (some 17) (v:=.int .i64 4) rfl hHeld ?_
    refine tk9 2 (some 18) (v:=.bool false) rfl (yields_neqD (by kernel_rfl) _ _ _ _ rfl 4 4 false (by kernel_rfl) (by kernel_rfl) (by kernel_rfl) rfl) hHeld ?_
    refine tk0 3 (some 19) (v:=.bool false) rfl hHeld ?_
    refine tk0 4 (some 20) (v:=.slice (some ⟨b3,o3,none⟩) 4 k1) rfl hHeld ?_
    refine tk0 5 (some 21) (v:=.int .i64 4) rfl hHeld ?_
    refine tk9 6 (some 22) (v:=.bool false) rfl (yields_neqD (by kernel_rfl) _ _ _ _ rfl 4 4 false (by kernel_rfl) (by kernel_rfl) (by kernel_rfl) rfl) hHeld ?_
    refine tk0 7 (some 23) (v:=.bool false) rfl hHeld ?_
    refine tk0 8 (some 24) (v:=.bool false) rfl hHeld ?_
    refine tk0 9 (some 25) (v:=.slice (some ⟨b2,o2,none⟩) 4 k0) rfl hHeld ?_
    refine tk9 10 (some 26) (v:=.pointer (some ⟨b2,o2 + 1,none⟩)) rfl (yields_idx (by kernel_rfl) _ _ rfl b2 o2 (4) k0 1 (by kernel_rfl) (by kernel_rfl) (by omega)) hHeld ?_
    refine tk9 11 (some 27) (v:=.int .i64 x1) rfl (yields_load_one9 (by kernel_rfl) _ _ rfl b2 (o2 + 1) (by kernel_rfl) _ _ Tryz.underlying3 rfl (fun _ h=>h.1.elem LX.out (j:=1) rfl)) hHeld ?_
    refine tk9 12 (some 28) (v:=.bool true) rfl (yields_eqlD (by kernel_rfl) _ _ _ _ rfl x1 0 true (by kernel_rfl) (by kernel_rfl) (by kernel_rfl) hC) hHeld ?_
    refine tk0 13 (some 29) (v:=.bool true) rfl hHeld ?_
    refine tk0 14 (some 30) (v:=.bool true) rfl hHeld ?_
    refine tk9 15 (some 31) (v:=undef) rfl (Or.inr ⟨by kernel_rfl,rfl⟩) hHeld ?_
    refine tk9 16 (some 32) (v:=undef) rfl (Or.inr ⟨by kernel_rfl,rfl⟩) hHeld ?_
    refine tk9 17 (some 33) (v:=undef) rfl (Or.inr ⟨by kernel_rfl,rfl⟩) hHeld ?_
    refine tk9 18 (some 34) (v:=undef) rfl (Or.inr ⟨by kernel_rfl,rfl⟩) hHeld ?_
    refine tk0 19 (some 35) (v:=.bool true) rfl hHeld ?_
    refine tk0 20 (some 36) (v:=.bool true) rfl hHeld ?_
    refine tk9 21 (some 37) (v:=undef) rfl (Or.inr ⟨by kernel_rfl,rfl⟩) hHeld ?_
    refine tk9 22 (some 38) (v:=undef) rfl (Or.inr ⟨by kernel_rfl,rfl⟩) hHeld ?_
    refine tk9 23 (some 39) (v:=undef) rfl (Or.inr ⟨by kernel_rfl,rfl⟩) hHeld ?_
    refine tk9 24 (some 40) (v:=undef) rfl (Or.inr ⟨by kernel_rfl,rfl⟩) hHeld ?_
    refine tk9 25 (some 41) (v:=undef) rfl (Or.inr ⟨by kernel_rfl,rfl⟩) hHeld ?_
    refine tk9 26 (some 42) (v:=undef) rfl (Or.inr ⟨by kernel_rfl,rfl⟩) hHeld ?_
    refine tk0 27 (some 43) (v:=.bool true) rfl hHeld ?_
    refine tk0 28 (some 44) (v:=.bool true) rfl hHeld ?_
    refine tk9 29 (some 45) (v:=undef) rfl (Or.inr ⟨by kernel_rfl,rfl⟩) hHeld ?_
    refine tk9 30 (some 46) (v:=undef) rfl (Or.inr ⟨by kernel_rfl,rfl⟩) hHeld ?_
    refine tk9 31 (some 47) (v:=undef) rfl (Or.inr ⟨by kernel_rfl,rfl⟩) hHeld ?_
    refine tk9 32 (some 48) (v:=undef) rfl (Or.inr ⟨by kernel_rfl,rfl⟩) hHeld ?_
    refine tk9 33 (some 49) (v:=undef) rfl (Or.inr ⟨by kernel_rfl,rfl⟩) hHeld ?_
    refine tk9 34 (some 50) (v:=undef) rfl (Or.inr ⟨by kernel_rfl,rfl⟩) hHeld ?_
    refine tk0 35 (some 51) (v:=.bool true) rfl hHeld ?_
    refine tk0 36 (some 52) (v:=.bool true) rfl hHeld ?_
    refine tk9 37 (some 53) (v:=undef) rfl (Or.inr ⟨by kernel_rfl,rfl⟩) hHeld ?_
    refine tk9 38 (some 54) (v:=undef) rfl (Or.inr ⟨by kernel_rfl,rfl⟩) hHeld ?_
    refine tk9 39 (some 55) (v:=undef) rfl (Or.inr ⟨by kernel_rfl,rfl⟩) hHeld ?_
    refine tk9 40 (some 56) (v:=undef) rfl (Or.inr ⟨by kernel_rfl,rfl⟩) hHeld ?_
    refine tk9 41 (some 57) (v:=undef) rfl (Or.inr ⟨by kernel_rfl,rfl⟩) hHeld ?_
    refine tk9 42 (some 58) (v:=undef) rfl (Or.inr ⟨by kernel_rfl,rfl⟩) hHeld ?_
    refine tk9 43 (some 59) (v:=undef) rfl (Or.inr ⟨by kernel_rfl,rfl⟩) hHeld ?_
    refine tk9 44 (some 60) (v:=undef) rfl (Or.inr ⟨by kernel_rfl,rfl⟩) hHeld ?_
    refine tk9 45 (some 61) (v:=undef) rfl (Or.inr ⟨by kernel_rfl,rfl⟩) hHeld ?_
    refine tk0 46 (some 62) (v:=.bool true) rfl hHeld ?_
    refine wpAnyH_done (by kernel_rfl) ?_ _
    rename_i K0 a0
    change K0 _ _
    refine a0 _ _ (wp_cond_true (by kernel_rfl) ?_)
    replace HX:=Lib.hid hHeld.1
    clear hHeld
    go_wp2_with fail
    refine (misfit_any _).mono ?_
    rintro e w9 ⟨rfl,rfl⟩
    go_wp2
    go_ret2
    exact sh_misfit HX.out.below
   | false =>
    cases cD with
    | true =>
     refine wp_region_held_drew (S:=fun W=>AskI w cs a W∧Below V4.heap.size V4 W) (by kernel_rfl) ⟨HX.out.next ((Below.refl _ _).drew),(Below.refl _ _).drew⟩ (fun hHeld=>?_)
     generalize World.drew _ = V15 at hHeld ⊢
     have hb:=hHeld.2
     replace L0:=Lib.hid (L0.out.next hb)
     replace L1:=Lib.hid (L1.out.next hb)
     clear hb
     refine tk0 0 (some 16) (v:=.slice (some ⟨b2,o2,none⟩) 4 k0) rfl hHeld ?_
     refine tk0 1 (some 17) (v:=.int .i64 4) rfl hHeld ?_
     refine tk9 2 (some 18) (v:=.bool false) rfl (yields_neqD (by kernel_rfl) _ _ _ _ rfl 4 4 false (by kernel_rfl) (by kernel_rfl) (by kernel_rfl) rfl) hHeld ?_
     refine tk0 3 (some 19) (v:=.bool false) rfl hHeld ?_
     refine tk0 4 (some 20) (v:=.slice (some ⟨b3,o3,none⟩) 4 k1) rfl hHeld ?_
     refine tk0 5 (some 21) (v:=.int .i64 4) rfl hHeld ?_
     refine tk9 6 (some 22) (v:=.bool false) rfl (yields_neqD (by kernel_rfl) _ _ _ _ rfl 4 4 false (by kernel_rfl) (by kernel_rfl) (by kernel_rfl) rfl) hHeld ?_
     refine tk0 7 (some 23) (v:=.bool false) rfl hHeld ?_
     refine tk0 8 (some 24) (v:=.bool false) rfl hHeld ?_
     refine tk0 9 (some 25) (v:=.slice (some ⟨b2,o2,none⟩) 4 k0) rfl hHeld ?_
     refine tk9 10 (some 26) (v:=.pointer (some ⟨b2,o2 + 1,none⟩)) rfl (yields_idx (by kernel_rfl) _ _ rfl b2 o2 (4) k0 1 (by kernel_rfl) (by kernel_rfl) (by omega)) hHeld ?_
     refine tk9 11 (some 27) (v:=.int .i64 x1) rfl (yields_load_one9 (by kernel_rfl) _ _ rfl b2 (o2 + 1) (by kernel_rfl) _ _ Tryz.underlying3 rfl (fun _ h=>h.1.elem LX.out (j:=1) rfl)) hHeld ?_
     refine tk9 12 (some 28) (v:=.bool false) rfl (yields_eqlD (by kernel_rfl) _ _ _ _ rfl x1 0 false (by kernel_rfl) (by kernel_rfl) (by kernel_rfl) hC) hHeld ?_
     refine tk0 13 (some 29) (v:=.bool false) rfl hHeld ?_
     refine tk0 14 (some 30) (v:=.bool false) rfl hHeld ?_
     refine tk0 15 (some 31) (v:=.slice (some ⟨b3,o3,none⟩) 4 k1) rfl hHeld ?_
     refine tk9 16 (some 32) (v:=.pointer (some ⟨b3,o3 + 0,none⟩)) rfl (yields_idx (by kernel_rfl) _ _ rfl b3 o3 (4) k1 0 (by kernel_rfl) (by kernel_rfl) (by omega)) hHeld ?_
     refine tk9 17 (some 33) (v:=.int .i64 y0) rfl (yields_load_one9 (by kernel_rfl) _ _ rfl b3 (o3 + 0) (by kernel_rfl) _ _ Tryz.underlying3 rfl (fun _ h=>h.1.elem LY.out (j:=0) rfl)) hHeld ?_
     refine tk9 18 (some 34) (v:=.bool true) rfl (yields_eqlD (by kernel_rfl) _ _ _ _ rfl y0 0 true (by kernel_rfl) (by kernel_rfl) (by kernel_rfl) hD) hHeld ?_
     refine tk0 19 (some 35) (v:=.bool true) rfl hHeld ?_
     refine tk0 20 (some 36) (v:=.bool true) rfl hHeld ?_
     refine tk9 21 (some 37) (v:=undef) rfl (Or.inr ⟨by kernel_rfl,rfl⟩) hHeld ?_
     refine tk9 22 (some 38) (v:=undef) rfl (Or.inr ⟨by kernel_rfl,rfl⟩) hHeld ?_
     refine tk9 23 (some 39) (v:=undef) rfl (Or.inr ⟨by kernel_rfl,rfl⟩) hHeld ?_
     refine tk9 24 (some 40) (v:=undef) rfl (Or.inr ⟨by kernel_rfl,rfl⟩) hHeld ?_
     refine tk9 25 (some 41) (v:=undef) rfl (Or.inr ⟨by kernel_rfl,rfl⟩) hHeld ?_
     refine tk9 26 (some 42) (v:=undef) rfl (Or.inr ⟨by kernel_rfl,rfl⟩) hHeld ?_
     refine tk0 27 (some 43) (v:=.bool true) rfl hHeld ?_
     refine tk0 28 (some 44) (v:=.bool true) rfl hHeld ?_
     refine tk9 29 (some 45) (v:=undef) rfl (Or.inr ⟨by kernel_rfl,rfl⟩) hHeld ?_
     refine tk9 30 (some 46) (v:=undef) rfl (Or.inr ⟨by kernel_rfl,rfl⟩) hHeld ?_
     refine tk9 31 (some 47) (v:=undef) rfl (Or.inr ⟨by kernel_rfl,rfl⟩) hHeld ?_
     refine tk9 32 (some 48) (v:=undef) rfl (Or.inr ⟨by kernel_rfl,rfl⟩) hHeld ?_
     refine tk9 33 (some 49) (v:=undef) rfl (Or.inr ⟨by kernel_rfl,rfl⟩) hHeld ?_
     refine tk9 34 (some 50) (v:=undef) rfl (Or.inr ⟨by kernel_rfl,rfl⟩) hHeld ?_
     refine tk0 35 (some 51) (v:=.bool true) rfl hHeld ?_
     refine tk0 36 (some 52) (v:=.bool true) rfl hHeld ?_
     refine tk9 37 (some 53) (v:=undef) rfl (Or.inr ⟨by kernel_rfl,rfl⟩) hHeld ?_
     refine tk9 38 (some 54) (v:=undef) rfl (Or.inr ⟨by kernel_rfl,rfl⟩) hHeld ?_
     refine tk9 39 (some 55) (v:=undef) rfl (Or.inr ⟨by kernel_rfl,rfl⟩) hHeld ?_
     refine tk9 40 (some 56) (v:=undef) rfl (Or.inr ⟨by kernel_rfl,rfl⟩) hHeld ?_
     refine tk9 41 (some 57) (v:=undef) rfl (Or.inr ⟨by kernel_rfl,rfl⟩) hHeld ?_
     refine tk9 42 (some 58) (v:=undef) rfl (Or.inr ⟨by kernel_rfl,rfl⟩) hHeld ?_
     refine tk9 43 (some 59) (v:=undef) rfl (Or.inr ⟨by kernel_rfl,rfl⟩) hHeld ?_
     refine tk9 44 (some 60) (v:=undef) rfl (Or.inr ⟨by kernel_rfl,rfl⟩) hHeld ?_
     refine tk9 45 (some 61) (v:=undef) rfl (Or.inr ⟨by kernel_rfl,rfl⟩) hHeld ?_
     refine tk0 46 (some 62) (v:=.bool true) rfl hHeld ?_
     refine wpAnyH_done (by kernel_rfl) ?_ _
     rename_i K0 a0
     change K0 _ _
     refine a0 _ _ (wp_cond_true (by kernel_rfl) ?_)
     replace HX:=Lib.hid hHeld.1
     clear hHeld
     go_wp2_with fail
     refine (misfit_any _).mono ?_
     rintro e w9 ⟨rfl,rfl⟩
     go_wp2
     go_ret2
     exact sh_misfit HX.out.below
    | false =>
     cases cE with
     | true =>
      refine wp_region_held_drew (S:=fun W=>AskI w cs a W∧Below V4.heap.size V4 W) (by kernel_rfl) ⟨HX.out.next ((Below.refl _ _).drew),(Below.refl _ _).drew⟩ (fun hHeld=>?_)
      generalize World.drew _ = V15 at hHeld ⊢
      have hb:=hHeld.2
      replace L0:=Lib.hid (L0.out.next hb)
      replace L1:=Lib.hid (L1.out.next hb)
      clear hb
      refine tk0 0 (some 16) (v:=.slice (some ⟨b2,o2,none⟩) 4 k0) rfl hHeld ?_
      refine tk0 1 (some 17) (v:=.int .i64 4) rfl hHeld ?_
      refine tk9 2 (some 18) (v:=.bool false) rfl (yields_neqD (by kernel_rfl) _ _ _ _ rfl 4 4 false (by kernel_rfl) (by kernel_rfl) (by kernel_rfl) rfl) hHeld ?_
      refine tk0 3 (some 19) (v:=.bool false) rfl hHeld ?_
      refine tk0 4 (some 20) (v:=.slice (some ⟨b3,o3,none⟩) 4 k1) rfl hHeld ?_
      refine tk0 5 (some 21) (v:=.int .i64 4) rfl hHeld ?_
      refine tk9 6 (some 22) (v:=.bool false) rfl (yields_neqD (by kernel_rfl) _ _ _ _ rfl 4 4 false (by kernel_rfl) (by kernel_rfl) (by kernel_rfl) rfl) hHeld ?_
      refine tk0 7 (some 23) (v:=.bool false) rfl hHeld ?_
      refine tk0 8 (some 24) (v:=.bool false) rfl hHeld ?_
      refine tk0 9 (some 25) (v:=.slice (some ⟨b2,o2,none⟩) 4 k0) rfl hHeld ?_
      refine tk9 10 (some 26) (v:=.pointer (some ⟨b2,o2 + 1,none⟩)) rfl (yields_idx (by kernel_rfl) _ _ rfl b2 o2 (4) k0 1 (by kernel_rfl) (by kernel_rfl) (by omega)) hHeld ?_
      refine tk9 11 (some 27) (v:=.int .i64 x1) rfl (yields_load_one9 (by kernel_rfl) _ _ rfl b2 (o2 + 1) (by kernel_rfl) _ _ Tryz.underlying3 rfl (fun _ h=>h.1.elem LX.out (j:=1) rfl)) hHeld ?_
      refine tk9 12 (some 28) (v:=.bool false) rfl (yields_eqlD (by kernel_rfl) _ _ _ _ rfl x1 0 false (by kernel_rfl) (by kernel_rfl) (by kernel_rfl) hC) hHeld ?_
      refine tk0 13 (some 29) (v:=.bool false) rfl hHeld ?_
      refine tk0 14 (some 30) (v:=.bool false) rfl hHeld ?_
      refine tk0 15 (some 31) (v:=.slice (some ⟨b3,o3,none⟩) 4 k1) rfl hHeld ?_
      refine tk9 16 (some 32) (v:=.pointer (some ⟨b3,o3 + 0,none⟩)) rfl (yields_idx (by kernel_rfl) _ _ rfl b3 o3 (4) k1 0 (by kernel_rfl) (by kernel_rfl) (by omega)) hHeld ?_
      refine tk9 17 (some 33) (v:=.int .i64 y0) rfl (yields_load_one9 (by kernel_rfl) _ _ rfl b3 (o3 + 0) (by kernel_rfl) _ _ Tryz.underlying3 rfl (fun _ h=>h.1.elem LY.out (j:=0) rfl)) hHeld ?_
      refine tk9 18 (some 34) (v:=.bool false) rfl (yields_eqlD (by kernel_rfl) _ _ _ _ rfl y0 0 false (by kernel_rfl) (by kernel_rfl) (by kernel_rfl) hD) hHeld ?_
      refine tk0 19 (some 35) (v:=.bool false) rfl hHeld ?_
      refine tk0 20 (some 36) (v:=.bool false) rfl hHeld ?_
      refine tk0 21 (some 37) (v:=.slice (some ⟨b2,o2,none⟩) 4 k0) rfl hHeld ?_
      refine tk9 22 (some 38) (v:=.pointer (some ⟨b2,o2 + 1,none⟩)) rfl (yields_idx (by kernel_rfl) _ _ rfl b2 o2 (4) k0 1 (by kernel_rfl) (by kernel_rfl) (by omega)) hHeld ?_
      refine tk9 23 (some 39) (v:=.int .i64 x1) rfl (yields_load_one9 (by kernel_rfl) _ _ rfl b2 (o2 + 1) (by kernel_rfl) _ _ Tryz.underlying3 rfl (fun _ h=>h.1.elem LX.out (j:=1) rfl)) hHeld ?_
      refine tk0 24 (some 40) (v:=.int .i64 g) rfl hHeld ?_
      refine tk9 25 (some 41) (v:=.int .i64 (Int.tmod x1 g)) rfl (yields_remW (by kernel_rfl) _ _ _ _ rfl x1 g (by kernel_rfl) (by kernel_rfl) (by kernel_rfl) hg0) hHeld ?_
      refine tk9 26 (some 42) (v:=.bool true) rfl (yields_neqD (by kernel_rfl) _ _ _ _ rfl (Int.tmod x1 g) 0 true (by kernel_rfl) (by kernel_rfl) (by kernel_rfl) hE) hHeld ?_
      refine tk0 27 (some 43) (v:=.bool true) rfl hHeld ?_
      refine tk0 28 (some 44) (v:=.bool true) rfl hHeld ?_
      refine tk9 29 (some 45) (v:=undef) rfl (Or.inr ⟨by kernel_rfl,rfl⟩) hHeld ?_
      refine tk9 30 (some 46) (v:=undef) rfl (Or.inr ⟨by kernel_rfl,rfl⟩) hHeld ?_
      refine tk9 31 (some 47) (v:=undef) rfl (Or.inr ⟨by kernel_rfl,rfl⟩) hHeld ?_
      refine tk9 32 (some 48) (v:=undef) rfl (Or.inr ⟨by kernel_rfl,rfl⟩) hHeld ?_
      refine tk9 33 (some 49) (v:=undef) rfl (Or.inr ⟨by kernel_rfl,rfl⟩) hHeld ?_
      refine tk9 34 (some 50) (v:=undef) rfl (Or.inr ⟨by kernel_rfl,rfl⟩) hHeld ?_
      refine tk0 35 (some 51) (v:=.bool true) rfl hHeld ?_
      refine tk0 36 (some 52) (v:=.bool true) rfl hHeld ?_
      refine tk9 37 (some 53) (v:=undef) rfl (Or.inr ⟨by kernel_rfl,rfl⟩) hHeld ?_
      refine tk9 38 (some 54) (v:=undef) rfl (Or.inr ⟨by kernel_rfl,rfl⟩) hHeld ?_
      refine tk9 39 (some 55) (v:=undef) rfl (Or.inr ⟨by kernel_rfl,rfl⟩) hHeld ?_
      refine tk9 40 (some 56) (v:=undef) rfl (Or.inr ⟨by kernel_rfl,rfl⟩) hHeld ?_
      refine tk9 41 (some 57) (v:=undef) rfl (Or.inr ⟨by kernel_rfl,rfl⟩) hHeld ?_
      refine tk9 42 (some 58) (v:=undef) rfl (Or.inr ⟨by kernel_rfl,rfl⟩) hHeld ?_
      refine tk9 43 (some 59) (v:=undef) rfl (Or.inr ⟨by kernel_rfl,rfl⟩) hHeld ?_
      refine tk9 44 (some 60) (v:=undef) rfl (Or.inr ⟨by kernel_rfl,rfl⟩) hHeld ?_
      refine tk9 45 (some 61) (v:=undef) rfl (Or.inr ⟨by kernel_rfl,rfl⟩) hHeld ?_
      refine tk0 46 (some 62) (v:=.bool true) rfl hHeld ?_
      refine wpAnyH_done (by kernel_rfl) ?_ _
      rename_i K0 a0
      change K0 _ _
      refine a0 _ _ (wp_cond_true (by kernel_rfl) ?_)
      replace HX:=Lib.hid hHeld.1
      clear hHeld
      go_wp2_with fail
      refine (misfit_any _).mono ?_
      rintro e w9 ⟨rfl,rfl⟩
      go_wp2
      go_ret2
      exact sh_misfit HX.out.below
     | false =>
      cases cF with
      | true =>
       refine wp_region_held_drew (S:=fun W=>AskI w cs a W∧Below V4.heap.size V4 W) (by kernel_rfl) ⟨HX.out.next ((Below.refl _ _).drew),(Below.refl _ _).drew⟩ (fun hHeld=>?_)
       generalize World.drew _ = V15 at hHeld ⊢
       have hb:=hHeld.2
       replace L0:=Lib.hid (L0.out.next hb)
       replace L1:=Lib.hid (L1.out.next hb)
       clear hb
       refine tk0 0 (some 16) (v:=.slice (some ⟨b2,o2,none⟩) 4 k0) rfl hHeld ?_
       refine tk0 1 (some 17) (v:=.int .i64 4) rfl hHeld ?_
       refine tk9 2 (some 18) (v:=.bool false) rfl (yields_neqD (by kernel_rfl) _ _ _ _ rfl 4 4 false (by kernel_rfl) (by kernel_rfl) (by kernel_rfl) rfl) hHeld ?_
       refine tk0 3 (some 19) (v:=.bool false) rfl hHeld ?_
       refine tk0 4 (some 20) (v:=.slice (some ⟨b3,o3,none⟩) 4 k1) rfl hHeld ?_
       refine tk0 5 (some 21) (v:=.int .i64 4) rfl hHeld ?_
       refine tk9 6 (some 22) (v:=.bool false) rfl (yields_neqD (by kernel_rfl) _ _ _ _ rfl 4 4 false (by kernel_rfl) (by kernel_rfl) (by kernel_rfl) rfl) hHeld ?_
       refine tk0 7 (some 23) (v:=.bool false) rfl hHeld ?_
       refine tk0 8 (some 24) (v:=.bool false) rfl hHeld ?_
       refine tk0 9 (some 25) (v:=.slice (some ⟨b2,o2,none⟩) 4 k0) rfl hHeld ?_
       refine tk9 10 (some 26) (v:=.pointer (some ⟨b2,o2 + 1,none⟩)) rfl (yields_idx (by kernel_rfl) _ _ rfl b2 o2 (4) k0 1 (by kernel_rfl) (by kernel_rfl) (by omega)) hHeld ?_
       refine tk9 11 (some 27) (v:=.int .i64 x1) rfl (yields_load_one9 (by kernel_rfl) _ _ rfl b2 (o2 + 1) (by kernel_rfl) _ _ Tryz.underlying3 rfl (fun _ h=>h.1.elem LX.out (j:=1) rfl)) hHeld ?_
       refine tk9 12 (some 28) (v:=.bool false) rfl (yields_eqlD (by kernel_rfl) _ _ _ _ rfl x1 0 false (by kernel_rfl) (by kernel_rfl) (by kernel_rfl) hC) hHeld ?_
       refine tk0 13 (some 29) (v:=.bool false) rfl hHeld ?_
       refine tk0 14 (some 30) (v:=.bool false) rfl hHeld ?_
       refine tk0 15 (some 31) (v:=.slice (some ⟨b3,o3,none⟩) 4 k1) rfl hHeld ?_
       refine tk9 16 (some 32) (v:=.pointer (some ⟨b3,o3 + 0,none⟩)) rfl (yields_idx (by kernel_rfl) _ _ rfl b3 o3 (4) k1 0 (by kernel_rfl) (by kernel_rfl) (by omega)) hHeld ?_
       refine tk9 17 (some 33) (v:=.int .i64 y0) rfl (yields_load_one9 (by kernel_rfl) _ _ rfl b3 (o3 + 0) (by kernel_rfl) _ _ Tryz.underlying3 rfl (fun _ h=>h.1.elem LY.out (j:=0) rfl)) hHeld ?_
       refine tk9 18 (some 34) (v:=.bool false) rfl (yields_eqlD (by kernel_rfl) _ _ _ _ rfl y0 0 false (by kernel_rfl) (by kernel_rfl) (by kernel_rfl) hD) hHeld ?_
       refine tk0 19 (some 35) (v:=.bool false) rfl hHeld ?_
       refine tk0 20 (some 36) (v:=.bool false) rfl hHeld ?_
       refine tk0 21 (some 37) (v:=.slice (some ⟨b2,o2,none⟩) 4 k0) rfl hHeld ?_
       refine tk9 22 (some 38) (v:=.pointer (some ⟨b2,o2 + 1,none⟩)) rfl (yields_idx (by kernel_rfl) _ _ rfl b2 o2 (4) k0 1 (by kernel_rfl) (by kernel_rfl) (by omega)) hHeld ?_
       refine tk9 23 (some 39) (v:=.int .i64 x1) rfl (yields_load_one9 (by kernel_rfl) _ _ rfl b2 (o2 + 1) (by kernel_rfl) _ _ Tryz.underlying3 rfl (fun _ h=>h.1.elem LX.out (j:=1) rfl)) hHeld ?_
       refine tk0 24 (some 40) (v:=.int .i64 g) rfl hHeld ?_
       refine tk9 25 (some 41) (v:=.int .i64 (Int.tmod x1 g)) rfl (yields_remW (by kernel_rfl) _ _ _ _ rfl x1 g (by kernel_rfl) (by kernel_rfl) (by kernel_rfl) hg0) hHeld ?_
       refine tk9 26 (some 42) (v:=.bool false) rfl (yields_neqD (by kernel_rfl) _ _ _ _ rfl (Int.tmod x1 g) 0 false (by kernel_rfl) (by kernel_rfl) (by kernel_rfl) hE) hHeld ?_
       refine tk0 27 (some 43) (v:=.bool false) rfl hHeld ?_
       refine tk0 28 (some 44) (v:=.bool false) rfl hHeld ?_
       refine tk0 29 (some 45) (v:=.slice (some ⟨b3,o3,none⟩) 4 k1) rfl hHeld ?_
       refine tk9 30 (some 46) (v:=.pointer (some ⟨b3,o3 + 0,none⟩)) rfl (yields_idx (by kernel_rfl) _ _ rfl b3 o3 (4) k1 0 (by kernel_rfl) (by kernel_rfl) (by omega)) hHeld ?_
       refine tk9 31 (some 47) (v:=.int .i64 y0) rfl (yields_load_one9 (by kernel_rfl) _ _ rfl b3 (o3 + 0) (by kernel_rfl) _ _ Tryz.underlying3 rfl (fun _ h=>h.1.elem LY.out (j:=0) rfl)) hHeld ?_
       refine tk0 32 (some 48) (v:=.int .i64 g) rfl hHeld ?_
       refine tk9 33 (some 49) (v:=.int .i64 (Int.tmod y0 g)) rfl (yields_remW (by kernel_rfl) _ _ _ _ rfl y0 g (by kernel_rfl) (by kernel_rfl) (by kernel_rfl) hg0) hHeld ?_
       refine tk9 34 (some 50) (v:=.bool true) rfl (yields_neqD (by kernel_rfl) _ _ _ _ rfl (Int.tmod y0 g) 0 true (by kernel_rfl) (by kernel_rfl) (by kernel_rfl) hF) hHeld ?_
       refine tk0 35 (some 51) (v:=.bool true) rfl hHeld ?_
       refine tk0 36 (some 52) (v:=.bool true) rfl hHeld ?_
       refine tk9 37 (some 53) (v:=undef) rfl (Or.inr ⟨by kernel_rfl,rfl⟩) hHeld ?_
       refine tk9 38 (some 54) (v:=undef) rfl (Or.inr ⟨by kernel_rfl,rfl⟩) hHeld ?_
       refine tk9 39 (some 55) (v:=undef) rfl (Or.inr ⟨by kernel_rfl,rfl⟩) hHeld ?_
       refine tk9 40 (some 56) (v:=undef) rfl (Or.inr ⟨by kernel_rfl,rfl⟩) hHeld ?_
       refine tk9 41 (some 57) (v:=undef) rfl (Or.inr ⟨by kernel_rfl,rfl⟩) hHeld ?_
       refine tk9 42 (some 58) (v:=undef) rfl (Or.inr ⟨by kernel_rfl,rfl⟩) hHeld ?_
       refine tk9 43 (some 59) (v:=undef) rfl (Or.inr ⟨by kernel_rfl,rfl⟩) hHeld ?_
       refine tk9 44 (some 60) (v:=undef) rfl (Or.inr ⟨by kernel_rfl,rfl⟩) hHeld ?_
       refine tk9 45 (some 61) (v:=undef) rfl (Or.inr ⟨by kernel_rfl,rfl⟩) hHeld ?_
       refine tk0 46 (some 62) (v:=.bool true) rfl hHeld ?_
       refine wpAnyH_done (by kernel_rfl) ?_ _
       rename_i K0 a0
       change K0 _ _
       refine a0 _ _ (wp_cond_true (by kernel_rfl) ?_)
       replace HX:=Lib.hid hHeld.1
       clear hHeld
       go_wp2_with fail
       refine (misfit_any _).mono ?_
       rintro e w9 ⟨rfl,rfl⟩
       go_wp2
       go_ret2
       exact sh_misfit HX.out.below
      | false =>
       cases cG with
       | true =>
        refine wp_region_held_drew (S:=fun W=>AskI w cs a W∧Below V4.heap.size V4 W) (by kernel_rfl) ⟨HX.out.next ((Below.refl _ _).drew),(Below.refl _ _).drew⟩ (fun hHeld=>?_)
        generalize World.drew _ = V15 at hHeld ⊢
        have hb:=hHeld.2
        replace L0:=Lib.hid (L0.out.next hb)
        replace L1:=Lib.hid (L1.out.next hb)
        clear hb
        refine tk0 0 (some 16) (v:=.slice (some ⟨b2,o2,none⟩) 4 k0) rfl hHeld ?_
        refine tk0 1 (some 17) (v:=.int .i64 4) rfl hHeld ?_
        refine tk9 2 (some 18) (v:=.bool false) rfl (yields_neqD (by kernel_rfl) _ _ _ _ rfl 4 4 false (by kernel_rfl) (by kernel_rfl) (by kernel_rfl) rfl) hHeld ?_
        refine tk0 3 (some 19) (v:=.bool false) rfl hHeld ?_
        refine tk0 4 (some 20) (v:=.slice (some ⟨b3,o3,none⟩) 4 k1) rfl hHeld ?_
        refine tk0 5 (some 21) (v:=.int .i64 4) rfl hHeld ?_
        refine tk9 6 (some 22) (v:=.bool false) rfl (yields_neqD (by kernel_rfl) _ _ _ _ rfl 4 4 false (by kernel_rfl) (by kernel_rfl) (by kernel_rfl) rfl) hHeld ?_
        refine tk0 7 (some 23) (v:=.bool false) rfl hHeld ?_
        refine tk0 8 (some 24) (v:=.bool false) rfl hHeld ?_
        refine tk0 9 (some 25) (v:=.slice (some ⟨b2,o2,none⟩) 4 k0) rfl hHeld ?_
        refine tk9 10 (some 26) (v:=.pointer (some ⟨b2,o2 + 1,none⟩)) rfl (yields_idx (by kernel_rfl) _ _ rfl b2 o2 (4) k0 1 (by kernel_rfl) (by kernel_rfl) (by omega)) hHeld ?_
        refine tk9 11 (some 27) (v:=.int .i64 x1) rfl (yields_load_one9 (by kernel_rfl) _ _ rfl b2 (o2 + 1) (by kernel_rfl) _ _ Tryz.underlying3 rfl (fun _ h=>h.1.elem LX.out (j:=1) rfl)) hHeld ?_
        refine tk9 12 (some 28) (v:=.bool false) rfl (yields_eqlD (by kernel_rfl) _ _ _ _ rfl x1 0 false (by kernel_rfl) (by kernel_rfl) (by kernel_rfl) hC) hHeld ?_
        refine tk0 13 (some 29) (v:=.bool false) rfl hHeld ?_
        refine tk0 14 (some 30) (v:=.bool false) rfl hHeld ?_
        refine tk0 15 (some 31) (v:=.slice (some ⟨b3,o3,none⟩) 4 k1) rfl hHeld ?_
        refine tk9 16 (some 32) (v:=.pointer (some ⟨b3,o3 + 0,none⟩)) rfl (yields_idx (by kernel_rfl) _ _ rfl b3 o3 (4) k1 0 (by kernel_rfl) (by kernel_rfl) (by omega)) hHeld ?_
        refine tk9 17 (some 33) (v:=.int .i64 y0) rfl (yields_load_one9 (by kernel_rfl) _ _ rfl b3 (o3 + 0) (by kernel_rfl) _ _ Tryz.underlying3 rfl (fun _ h=>h.1.elem LY.out (j:=0) rfl)) hHeld ?_
        refine tk9 18 (some 34) (v:=.bool false) rfl (yields_eqlD (by kernel_rfl) _ _ _ _ rfl y0 0 false (by kernel_rfl) (by kernel_rfl) (by kernel_rfl) hD) hHeld ?_
        refine tk0 19 (some 35) (v:=.bool false) rfl hHeld ?_
        refine tk0 20 (some 36) (v:=.bool false) rfl hHeld ?_
        refine tk0 21 (some 37) (v:=.slice (some ⟨b2,o2,none⟩) 4 k0) rfl hHeld ?_
        refine tk9 22 (some 38) (v:=.pointer (some ⟨b2,o2 + 1,none⟩)) rfl (yields_idx (by kernel_rfl) _ _ rfl b2 o2 (4) k0 1 (by kernel_rfl) (by kernel_rfl) (by omega)) hHeld ?_
        refine tk9 23 (some 39) (v:=.int .i64 x1) rfl (yields_load_one9 (by kernel_rfl) _ _ rfl b2 (o2 + 1) (by kernel_rfl) _ _ Tryz.underlying3 rfl (fun _ h=>h.1.elem LX.out (j:=1) rfl)) hHeld ?_
        refine tk0 24 (some 40) (v:=.int .i64 g) rfl hHeld ?_
        refine tk9 25 (some 41) (v:=.int .i64 (Int.tmod x1 g)) rfl (yields_remW (by kernel_rfl) _ _ _ _ rfl x1 g (by kernel_rfl) (by kernel_rfl) (by kernel_rfl) hg0) hHeld ?_
        refine tk9 26 (some 42) (v:=.bool false) rfl (yields_neqD (by kernel_rfl) _ _ _ _ rfl (Int.tmod x1 g) 0 false (by kernel_rfl) (by kernel_rfl) (by kernel_rfl) hE) hHeld ?_
        refine tk0 27 (some 43) (v:=.bool false) rfl hHeld ?_
        refine tk0 28 (some 44) (v:=.bool false) rfl hHeld ?_
        refine tk0 29 (some 45) (v:=.slice (some ⟨b3,o3,none⟩) 4 k1) rfl hHeld ?_
        refine tk9 30 (some 46) (v:=.pointer (some ⟨b3,o3 + 0,none⟩)) rfl (yields_idx (by kernel_rfl) _ _ rfl b3 o3 (4) k1 0 (by kernel_rfl) (by kernel_rfl) (by omega)) hHeld ?_
        refine tk9 31 (some 47) (v:=.int .i64 y0) rfl (yields_load_one9 (by kernel_rfl) _ _ rfl b3 (o3 + 0) (by kernel_rfl) _ _ Tryz.underlying3 rfl (fun _ h=>h.1.elem LY.out (j:=0) rfl)) hHeld ?_
        refine tk0 32 (some 48) (v:=.int .i64 g) rfl hHeld ?_
        refine tk9 33 (some 49) (v:=.int .i64 (Int.tmod y0 g)) rfl (yields_remW (by kernel_rfl) _ _ _ _ rfl y0 g (by kernel_rfl) (by kernel_rfl) (by kernel_rfl) hg0) hHeld ?_
        refine tk9 34 (some 50) (v:=.bool false) rfl (yields_neqD (by kernel_rfl) _ _ _ _ rfl (Int.tmod y0 g) 0 false (by kernel_rfl) (by kernel_rfl) (by kernel_rfl) hF) hHeld ?_
        refine tk0 35 (some 51) (v:=.bool false) rfl hHeld ?_
        refine tk0 36 (some 52) (v:=.bool false) rfl hHeld ?_
        refine tk0 37 (some 53) (v:=.slice (some ⟨b3,o3,none⟩) 4 k1) rfl hHeld ?_
        refine tk9 38 (some 54) (v:=.pointer (some ⟨b3,o3 + 1,none⟩)) rfl (yields_idx (by kernel_rfl) _ _ rfl b3 o3 (4) k1 1 (by kernel_rfl) (by kernel_rfl) (by omega)) hHeld ?_
        refine tk9 39 (some 55) (v:=.int .i64 y1) rfl (yields_load_one9 (by kernel_rfl) _ _ rfl b3 (o3 + 1) (by kernel_rfl) _ _ Tryz.underlying3 rfl (fun _ h=>h.1.elem LY.out (j:=1) rfl)) hHeld ?_
        refine tk0 40 (some 56) (v:=.slice (some ⟨b2,o2,none⟩) 4 k0) rfl hHeld ?_
        refine tk9 41 (some 57) (v:=.pointer (some ⟨b2,o2 + 1,none⟩)) rfl (yields_idx (by kernel_rfl) _ _ rfl b2 o2 (4) k0 1 (by kernel_rfl) (by kernel_rfl) (by omega)) hHeld ?_
        refine tk9 42 (some 58) (v:=.int .i64 x1) rfl (yields_load_one9 (by kernel_rfl) _ _ rfl b2 (o2 + 1) (by kernel_rfl) _ _ Tryz.underlying3 rfl (fun _ h=>h.1.elem LX.out (j:=1) rfl)) hHeld ?_
        refine tk0 43 (some 59) (v:=.int .i64 g) rfl hHeld ?_
        refine tk9 44 (some 60) (v:=.int .i64 (wrap64 (Int.tdiv x1 g))) rfl (yields_quoW (by kernel_rfl) _ _ _ _ rfl x1 g (by kernel_rfl) (by kernel_rfl) (by kernel_rfl) hg0) hHeld ?_
        refine tk9 45 (some 61) (v:=.bool true) rfl (yields_neqD (by kernel_rfl) _ _ _ _ rfl y1 (wrap64 (Int.tdiv x1 g)) true (by kernel_rfl) (by kernel_rfl) (by kernel_rfl) hG) hHeld ?_
        refine tk0 46 (some 62) (v:=.bool true) rfl hHeld ?_
        refine wpAnyH_done (by kernel_rfl) ?_ _
        rename_i K0 a0
        change K0 _ _
        refine a0 _ _ (wp_cond_true (by kernel_rfl) ?_)
        replace HX:=Lib.hid hHeld.1
        clear hHeld
        go_wp2_with fail
        refine (misfit_any _).mono ?_
        rintro e w9 ⟨rfl,rfl⟩
        go_wp2
        go_ret2
        exact sh_misfit HX.out.below
       | false =>
        refine wp_region_held_drew (S:=fun W=>AskI w cs a W∧Below V4.heap.size V4 W) (by kernel_rfl) ⟨HX.out.next ((Below.refl _ _).drew),(Below.refl _ _).drew⟩ (fun hHeld=>?_)
        generalize World.drew _ = V15 at hHeld ⊢
        have hb:=hHeld.2
        replace L0:=Lib.hid (L0.out.next hb)
        replace L1:=Lib.hid (L1.out.next hb)
        clear hb
        refine tk0 0 (some 16) (v:=.slice (some ⟨b2,o2,none⟩) 4 k0) rfl hHeld ?_
        refine tk0 1 (some 17) (v:=.int .i64 4) rfl hHeld ?_
        refine tk9 2 (some 18) (v:=.bool false) rfl (yields_neqD (by kernel_rfl) _ _ _ _ rfl 4 4 false (by kernel_rfl) (by kernel_rfl) (by kernel_rfl) rfl) hHeld ?_
        refine tk0 3 (some 19) (v:=.bool false) rfl hHeld ?_
        refine tk0 4 (some 20) (v:=.slice (some ⟨b3,o3,none⟩) 4 k1) rfl hHeld ?_
        refine tk0 5 (some 21) (v:=.int .i64 4) rfl hHeld ?_
        refine tk9 6 (some 22) (v:=.bool false) rfl (yields_neqD (by kernel_rfl) _ _ _ _ rfl 4 4 false (by kernel_rfl) (by kernel_rfl) (by kernel_rfl) rfl) hHeld ?_
        refine tk0 7 (some 23) (v:=.bool false) rfl hHeld ?_
        refine tk0 8 (some 24) (v:=.bool false) rfl hHeld ?_
        refine tk0 9 (some 25) (v:=.slice (some ⟨b2,o2,none⟩) 4 k0) rfl hHeld ?_
        refine tk9 10 (some 26) (v:=.pointer (some ⟨b2,o2 + 1,none⟩)) rfl (yields_idx (by kernel_rfl) _ _ rfl b2 o2 (4) k0 1 (by kernel_rfl) (by kernel_rfl) (by omega)) hHeld ?_
        refine tk9 11 (some 27) (v:=.int .i64 x1) rfl (yields_load_one9 (by kernel_rfl) _ _ rfl b2 (o2 + 1) (by kernel_rfl) _ _ Tryz.underlying3 rfl (fun _ h=>h.1.elem LX.out (j:=1) rfl)) hHeld ?_
        refine tk9 12 (some 28) (v:=.bool false) rfl (yields_eqlD (by kernel_rfl) _ _ _ _ rfl x1 0 false (by kernel_rfl) (by kernel_rfl) (by kernel_rfl) hC) hHeld ?_
        refine tk0 13 (some 29) (v:=.bool false) rfl hHeld ?_
        refine tk0 14 (some 30) (v:=.bool false) rfl hHeld ?_
        refine tk0 15 (some 31) (v:=.slice (some ⟨b3,o3,none⟩) 4 k1) rfl hHeld ?_
        refine tk9 16 (some 32) (v:=.pointer (some ⟨b3,o3 + 0,none⟩)) rfl (yields_idx (by kernel_rfl) _ _ rfl b3 o3 (4) k1 0 (by kernel_rfl) (by kernel_rfl) (by omega)) hHeld ?_
        refine tk9 17 (some 33) (v:=.int .i64 y0) rfl (yields_load_one9 (by kernel_rfl) _ _ rfl b3 (o3 + 0) (by kernel_rfl) _ _ Tryz.underlying3 rfl (fun _ h=>h.1.elem LY.out (j:=0) rfl)) hHeld ?_
        refine tk9 18 (some 34) (v:=.bool false) rfl (yields_eqlD (by kernel_rfl) _ _ _ _ rfl y0 0 false (by kernel_rfl) (by kernel_rfl) (by kernel_rfl) hD) hHeld ?_
        refine tk0 19 (some 35) (v:=.bool false) rfl hHeld ?_
        refine tk0 20 (some 36) (v:=.bool false) rfl hHeld ?_
        refine tk0 21 (some 37) (v:=.slice (some ⟨b2,o2,none⟩) 4 k0) rfl hHeld ?_
        refine tk9 22 (some 38) (v:=.pointer (some ⟨b2,o2 + 1,none⟩)) rfl (yields_idx (by kernel_rfl) _ _ rfl b2 o2 (4) k0 1 (by kernel_rfl) (by kernel_rfl) (by omega)) hHeld ?_
        refine tk9 23 (some 39) (v:=.int .i64 x1) rfl (yields_load_one9 (by kernel_rfl) _ _ rfl b2 (o2 + 1) (by kernel_rfl) _ _ Tryz.underlying3 rfl (fun _ h=>h.1.elem LX.out (j:=1) rfl)) hHeld ?_
        refine tk0 24 (some 40) (v:=.int .i64 g) rfl hHeld ?_
        refine tk9 25 (some 41) (v:=.int .i64 (Int.tmod x1 g)) rfl (yields_remW (by kernel_rfl) _ _ _ _ rfl x1 g (by kernel_rfl) (by kernel_rfl) (by kernel_rfl) hg0) hHeld ?_
        refine tk9 26 (some 42) (v:=.bool false) rfl (yields_neqD (by kernel_rfl) _ _ _ _ rfl (Int.tmod x1 g) 0 false (by kernel_rfl) (by kernel_rfl) (by kernel_rfl) hE) hHeld ?_
        refine tk0 27 (some 43) (v:=.bool false) rfl hHeld ?_
        refine tk0 28 (some 44) (v:=.bool false) rfl hHeld ?_
        refine tk0 29 (some 45) (v:=.slice (some ⟨b3,o3,none⟩) 4 k1) rfl hHeld ?_
        refine tk9 30 (some 46) (v:=.pointer (some ⟨b3,o3 + 0,none⟩)) rfl (yields_idx (by kernel_rfl) _ _ rfl b3 o3 (4) k1 0 (by kernel_rfl) (by kernel_rfl) (by omega)) hHeld ?_
        refine tk9 31 (some 47) (v:=.int .i64 y0) rfl (yields_load_one9 (by kernel_rfl) _ _ rfl b3 (o3 + 0) (by kernel_rfl) _ _ Tryz.underlying3 rfl (fun _ h=>h.1.elem LY.out (j:=0) rfl)) hHeld ?_
        refine tk0 32 (some 48) (v:=.int .i64 g) rfl hHeld ?_
        refine tk9 33 (some 49) (v:=.int .i64 (Int.tmod y0 g)) rfl (yields_remW (by kernel_rfl) _ _ _ _ rfl y0 g (by kernel_rfl) (by kernel_rfl) (by kernel_rfl) hg0) hHeld ?_
        refine tk9 34 (some 50) (v:=.bool false) rfl (yields_neqD (by kernel_rfl) _ _ _ _ rfl (Int.tmod y0 g) 0 false (by kernel_rfl) (by kernel_rfl) (by kernel_rfl) hF) hHeld ?_
        refine tk0 35 (some 51) (v:=.bool false) rfl hHeld ?_
        refine tk0 36 (some 52) (v:=.bool false) rfl hHeld ?_
        refine tk0 37 (some 53) (v:=.slice (some ⟨b3,o3,none⟩) 4 k1) rfl hHeld ?_
        refine tk9 38 (some 54) (v:=.pointer (some ⟨b3,o3 + 1,none⟩)) rfl (yields_idx (by kernel_rfl) _ _ rfl b3 o3 (4) k1 1 (by kernel_rfl) (by kernel_rfl) (by omega)) hHeld ?_
        refine tk9 39 (some 55) (v:=.int .i64 y1) rfl (yields_load_one9 (by kernel_rfl) _ _ rfl b3 (o3 + 1) (by kernel_rfl) _ _ Tryz.underlying3 rfl (fun _ h=>h.1.elem LY.out (j:=1) rfl)) hHeld ?_
        refine tk0 40 (some 56) (v:=.slice (some ⟨b2,o2,none⟩) 4 k0) rfl hHeld ?_
        refine tk9 41 (some 57) (v:=.pointer (some ⟨b2,o2 + 1,none⟩)) rfl (yields_idx (by kernel_rfl) _ _ rfl b2 o2 (4) k0 1 (by kernel_rfl) (by kernel_rfl) (by omega)) hHeld ?_
        refine tk9 42 (some 58) (v:=.int .i64 x1) rfl (yields_load_one9 (by kernel_rfl) _ _ rfl b2 (o2 + 1) (by kernel_rfl) _ _ Tryz.underlying3 rfl (fun _ h=>h.1.elem LX.out (j:=1) rfl)) hHeld ?_
        refine tk0 43 (some 59) (v:=.int .i64 g) rfl hHeld ?_
        refine tk9 44 (some 60) (v:=.int .i64 (wrap64 (Int.tdiv x1 g))) rfl (yields_quoW (by kernel_rfl) _ _ _ _ rfl x1 g (by kernel_rfl) (by kernel_rfl) (by kernel_rfl) hg0) hHeld ?_
        refine tk9 45 (some 61) (v:=.bool false) rfl (yields_neqD (by kernel_rfl) _ _ _ _ rfl y1 (wrap64 (Int.tdiv x1 g)) false (by kernel_rfl) (by kernel_rfl) (by kernel_rfl) hG) hHeld ?_
        refine tk0 46 (some 62) (v:=.bool false) rfl hHeld ?_
        refine wpAnyH_done (by kernel_rfl) ?_ _
        rename_i K0 a0
        change K0 _ _
        refine a0 _ _ (wp_cond_false (by kernel_rfl) ?_)
        replace HX:=Lib.hid hHeld.1
        clear hHeld
        have hk14:4 ≤ k1:=b1
        have ckk:=HX.out.cell HC.out.2.1
        clear ckk hC hD hE hF hG
        simp [Act.put]
        go_upto_region 4 with (fail)
        go_cut [91] from 66 to 91 (fun v wx=>∃ t,v = .bool t∧AskI w cs a wx∧LstN w.heap.size wx (some ⟨b2,o2,none⟩) k0 [x0,x1,x2,x3]∧LstN w.heap.size wx (some ⟨b3,o3,none⟩) k1 [y0,y1,y2,y3])
        case first =>
         refine wp_region_held_drew (S:=fun W=>AskI w cs a W∧Below V15.heap.size V15 W) (by kernel_rfl) ⟨HX.out.next ((Below.refl _ _).drew),(Below.refl _ _).drew⟩ (fun hHeld=>?_)
         generalize World.drew _ = V16 at hHeld ⊢
         have hb:=hHeld.2
         replace L0:=Lib.hid (L0.out.next hb)
         replace L1:=Lib.hid (L1.out.next hb)
         clear hb
         refine tk9 0 (some 66) (v:=.agg cs.toArray) rfl (yields_ask (by kernel_rfl) _ rfl (by kernel_rfl) (fun _ h=>h.1)) hHeld ?_
         refine call_d9 1 (some 67) rfl (by kernel_rfl) (by kernel_rfl) (by kernel_rfl) 66 _ _ rfl #[.agg cs.toArray,.int .i64 2] (by kernel_rfl) (fun w=>by kernel_rfl) ?_
         refine (askHas cs a 2 _ hHeld.1.arg).mono ?_
         rintro e V17 ⟨rfl,hb⟩
         generalize a.has 2 = t
         replace L0:=Lib.hid (L0.out.next hb)
         replace L1:=Lib.hid (L1.out.next hb)
         replace hHeld:=held_next hHeld hb
         refine ⟨_,rfl,hHeld,?_⟩
         clear hb
         refine tk0 2 (some 68) (v:=.bool t) rfl hHeld ?_
         cases t with
         | false =>
          refine tk9 3 (some 69) (v:=undef) rfl (Or.inr ⟨by kernel_rfl,rfl⟩) hHeld ?_
          refine tk9 4 (some 70) (v:=undef) rfl (Or.inr ⟨by kernel_rfl,rfl⟩) hHeld ?_
          refine tk9 5 (some 71) (v:=undef) rfl (Or.inr ⟨by kernel_rfl,rfl⟩) hHeld ?_
          refine tk9 6 (some 72) (v:=undef) rfl (Or.inr ⟨by kernel_rfl,rfl⟩) hHeld ?_
          refine tk9 7 (some 73) (v:=undef) rfl (Or.inr ⟨by kernel_rfl,rfl⟩) hHeld ?_
          refine tk9 8 (some 74) (v:=undef) rfl (Or.inr ⟨by kernel_rfl,rfl⟩) hHeld ?_
          refine tk0 9 (some 75) (v:=.bool false) rfl hHeld ?_
          refine tk0 10 (some 76) (v:=.bool false) rfl hHeld ?_
          refine tk0 11 (some 77) (v:=.pointer (some ⟨w.heap.size,1,none⟩)) rfl hHeld ?_
          refine tk0 12 (some 78) (v:=.pointer (some ⟨w.heap.size,21,none⟩)) rfl hHeld ?_
          refine tk9 13 (some 79) (v:=.slice Ak a.s.kernel.length kk) rfl (yields_load_one9 (by kernel_rfl) _ _ rfl (w.heap.size) (21) (by kernel_rfl) _ _ Tryz.underlying24 rfl (fun _ h=>h.1.cell HC.out.2.1)) hHeld ?_
          refine tk0 14 (some 80) (v:=.int .i64 (a.s.kernel.length:Int)) rfl hHeld ?_
          refine tk0 15 (some 81) (v:=.bool (decide ((a.s.kernel.length:Int) > 0))) rfl hHeld ?_
          generalize decide ((a.s.kernel.length:Int) > 0) = t3
          cases t3 with
          | false =>
           refine tk0 16 (some 82) (v:=.bool false) rfl hHeld ?_
           refine tk9 17 (some 83) (v:=undef) rfl (Or.inr ⟨by kernel_rfl,rfl⟩) hHeld ?_
           refine tk9 18 (some 84) (v:=undef) rfl (Or.inr ⟨by kernel_rfl,rfl⟩) hHeld ?_
           refine tk9 19 (some 85) (v:=undef) rfl (Or.inr ⟨by kernel_rfl,rfl⟩) hHeld ?_
           refine tk9 20 (some 86) (v:=undef) rfl (Or.inr ⟨by kernel_rfl,rfl⟩) hHeld ?_
           refine tk9 21 (some 87) (v:=undef) rfl (Or.inr ⟨by kernel_rfl,rfl⟩) hHeld ?_
           refine tk9 22 (some 88) (v:=undef) rfl (Or.inr ⟨by kernel_rfl,rfl⟩) hHeld ?_
           refine tk9 23 (some 89) (v:=undef) rfl (Or.inr ⟨by kernel_rfl,rfl⟩) hHeld ?_
           refine tk0 24 (some 90) (v:=.bool false) rfl hHeld ?_
           refine tk0 25 (some 91) (v:=.bool false) rfl hHeld ?_
           refine wpAnyH_done (by kernel_rfl) ?_ _
           replace HX:=Lib.hid hHeld.1
           clear hHeld
           go_wp2
           simp [Act.put]
           go_meet
           exact ⟨false,rfl,HX.out,L0.out,L1.out⟩
          | true =>
           refine tk0 16 (some 82) (v:=.bool true) rfl hHeld ?_
           refine tk0 17 (some 83) (v:=.pointer (some ⟨w.heap.size,1,none⟩)) rfl hHeld ?_
           refine tk0 18 (some 84) (v:=.pointer (some ⟨w.heap.size,21,none⟩)) rfl hHeld ?_
           refine tk9 19 (some 85) (v:=.slice Ak a.s.kernel.length kk) rfl (yields_load_one9 (by kernel_rfl) _ _ rfl (w.heap.size) (21) (by kernel_rfl) _ _ Tryz.underlying24 rfl (fun _ h=>h.1.cell HC.out.2.1)) hHeld ?_
           refine tk0 20 (some 86) (v:=.slice (some ⟨b3,o3,none⟩) 4 k1) rfl hHeld ?_
           refine tk9 21 (some 87) (v:=.slice (some ⟨b3,o3 + 2,none⟩) 2 (k1 - 2)) rfl (yields_post (by kernel_rfl) _ _ rfl b3 o3 4 k1 2 (by kernel_rfl) (by kernel_rfl) (by omega) (by omega) (by omega)) hHeld ?_
           refine call_d9 22 (some 88) rfl (by kernel_rfl) (by kernel_rfl) (by kernel_rfl) 60 _ _ rfl #[.slice Ak a.s.kernel.length kk,.slice (some ⟨b3,o3 + 2,none⟩) 2 (k1 - 2)] (by kernel_rfl) (fun w=>by kernel_rfl) ?_
           refine (equalInts_any a.s.kernel [y2,y3] Ak (some ⟨b3,o3 + 2,none⟩) kk (k1 - 2) _ (HC.out.1.next hHeld.1.below).lst (lst_post (j:=2) L1.out.lst (by simp))).mono ?_
           rintro e V99 ⟨rfl,n9,rfl⟩
           have hb:=below_drews (Below.refl V17.heap.size V17) n9
           generalize World.drewN V17 n9 = V18 at hb ⊢
           generalize decide (a.s.kernel = [y2,y3]) = t4
           replace L0:=Lib.hid (L0.out.next hb)
           replace L1:=Lib.hid (L1.out.next hb)
           replace hHeld:=held_next hHeld hb
           refine ⟨_,rfl,hHeld,?_⟩
           clear hb
           refine tk0 23 (some 89) (v:=.bool (!t4)) rfl hHeld ?_
           refine tk0 24 (some 90) (v:=.bool (!t4)) rfl hHeld ?_
           refine tk0 25 (some 91) (v:=.bool (!t4)) rfl hHeld ?_
           refine wpAnyH_done (by kernel_rfl) ?_ _
           replace HX:=Lib.hid hHeld.1
           clear hHeld
           go_wp2
           simp [Act.put]
           go_meet
           exact ⟨(!t4),rfl,HX.out,L0.out,L1.out⟩
         | true =>
          refine tk9 3 (some 69) (v:=.agg cs.toArray) rfl (yields_ask (by kernel_rfl) _ rfl (by kernel_rfl) (fun _ h=>h.1)) hHeld ?_
          refine tk0 5 (some 71) (v:=.slice (some ⟨b3,o3,none⟩) 4 k1) rfl hHeld ?_
          refine tk9 6 (some 72) (v:=.slice (some ⟨b3,o3,none⟩) 1 k1) rfl (yields_pre (by kernel_rfl) _ _ rfl b3 o3 4 k1 1 (by kernel_rfl) (by kernel_rfl) (by omega) (by omega)) hHeld ?_
          refine call_d9 4 (some 70) rfl (by kernel_rfl) (by kernel_rfl) (by kernel_rfl) 70 _ _ rfl #[.agg cs.toArray,.int .i64 2] (by kernel_rfl) (fun w=>by kernel_rfl) ?_
          refine (askDims' cs a 2 w.heap.size _ hHeld.1.below.size hHeld.1.arg0).mono ?_
          rintro e V18 ⟨A7,k7,rfl,h7,hb⟩
          replace L0:=Lib.hid (L0.out.next hb)
          replace L1:=Lib.hid (L1.out.next hb)
          have L7:=Lib.hid (lst_n hHeld.1 hb h7)
          obtain ⟨b7,b7'⟩:=slice_bnd h7
          clear h7
          replace hHeld:=held_next hHeld hb
          refine ⟨_,rfl,hHeld,?_⟩
          clear hb
          refine call_d9 7 (some 73) rfl (by kernel_rfl) (by kernel_rfl) (by kernel_rfl) 60 _ _ rfl #[.slice A7 (a.dims 2).length k7,.slice (some ⟨b3,o3,none⟩) 1 k1] (by kernel_rfl) (fun w=>by kernel_rfl) ?_
          refine (equalInts_any (a.dims 2) [y0] A7 (some ⟨b3,o3,none⟩) k7 k1 _ L7.out.lst (show Lst _ _ _ [y0] from rep_pre (j:=1) L1.out.lst (by simp))).mono ?_
          rintro e V99 ⟨rfl,n9,rfl⟩
          have hb:=below_drews (Below.refl V18.heap.size V18) n9
          generalize World.drewN V18 n9 = V19 at hb ⊢
          generalize decide ((a.dims 2) = [y0]) = t2
          replace L0:=Lib.hid (L0.out.next hb)
          replace L1:=Lib.hid (L1.out.next hb)
          replace L7:=Lib.hid (L7.out.next hb)
          replace hHeld:=held_next hHeld hb
          refine ⟨_,rfl,hHeld,?_⟩
          clear hb
          cases t2 with
          | false =>
           refine tk0 8 (some 74) (v:=.bool true) rfl hHeld ?_
           refine tk0 9 (some 75) (v:=.bool true) rfl hHeld ?_
           refine tk0 10 (some 76) (v:=.bool true) rfl hHeld ?_
           refine tk9 11 (some 77) (v:=undef) rfl (Or.inr ⟨by kernel_rfl,rfl⟩) hHeld ?_
           refine tk9 12 (some 78) (v:=undef) rfl (Or.inr ⟨by kernel_rfl,rfl⟩) hHeld ?_
           refine tk9 13 (some 79) (v:=undef) rfl (Or.inr ⟨by kernel_rfl,rfl⟩) hHeld ?_
           refine tk9 14 (some 80) (v:=undef) rfl (Or.inr ⟨by kernel_rfl,rfl⟩) hHeld ?_
           refine tk9 15 (some 81) (v:=undef) rfl (Or.inr ⟨by kernel_rfl,rfl⟩) hHeld ?_
           refine tk9 16 (some 82) (v:=undef) rfl (Or.inr ⟨by kernel_rfl,rfl⟩) hHeld ?_
           refine tk9 17 (some 83) (v:=undef) rfl (Or.inr ⟨by kernel_rfl,rfl⟩) hHeld ?_
           refine tk9 18 (some 84) (v:=undef) rfl (Or.inr ⟨by kernel_rfl,rfl⟩) hHeld ?_
           refine tk9 19 (some 85) (v:=undef) rfl (Or.inr ⟨by kernel_rfl,rfl⟩) hHeld ?_
           refine tk9 20 (some 86) (v:=undef) rfl (Or.inr ⟨by kernel_rfl,rfl⟩) hHeld ?_
           refine tk9 21 (some 87) (v:=undef) rfl (Or.inr ⟨by kernel_rfl,rfl⟩) hHeld ?_
           refine tk9 22 (some 88) (v:=undef) rfl (Or.inr ⟨by kernel_rfl,rfl⟩) hHeld ?_
           refine tk9 23 (some 89) (v:=undef) rfl (Or.inr ⟨by kernel_rfl,rfl⟩) hHeld ?_
           refine tk9 24 (some 90) (v:=undef) rfl (Or.inr ⟨by kernel_rfl,rfl⟩) hHeld ?_
           refine tk0 25 (some 91) (v:=.bool true) rfl hHeld ?_
           refine wpAnyH_done (by kernel_rfl) ?_ _
           replace HX:=Lib.hid hHeld.1
           clear hHeld
           go_wp2
           simp [Act.put]
           go_meet
           exact ⟨true,rfl,HX.out,L0.out,L1.out⟩
          | true =>
           refine tk0 8 (some 74) (v:=.bool false) rfl hHeld ?_
           refine tk0 9 (some 75) (v:=.bool false) rfl hHeld ?_
           refine tk0 10 (some 76) (v:=.bool false) rfl hHeld ?_
           refine tk0 11 (some 77) (v:=.pointer (some ⟨w.heap.size,1,none⟩)) rfl hHeld ?_
           refine tk0 12 (some 78) (v:=.pointer (some ⟨w.heap.size,21,none⟩)) rfl hHeld ?_
           refine tk9 13 (some 79) (v:=.slice Ak a.s.kernel.length kk) rfl (yields_load_one9 (by kernel_rfl) _ _ rfl (w.heap.size) (21) (by kernel_rfl) _ _ Tryz.underlying24 rfl (fun _ h=>h.1.cell HC.out.2.1)) hHeld ?_
           refine tk0 14 (some 80) (v:=.int .i64 (a.s.kernel.length:Int)) rfl hHeld ?_
           refine tk0 15 (some 81) (v:=.bool (decide ((a.s.kernel.length:Int) > 0))) rfl hHeld ?_
           generalize decide ((a.s.kernel.length:Int) > 0) = t3
           cases t3 with
           | false =>
            refine tk0 16 (some 82) (v:=.bool false) rfl hHeld ?_
            refine tk9 17 (some 83) (v:=undef) rfl (Or.inr ⟨by kernel_rfl,rfl⟩) hHeld ?_
            refine tk9 18 (some 84) (v:=undef) rfl (Or.inr ⟨by kernel_rfl,rfl⟩) hHeld ?_
            refine tk9 19 (some 85) (v:=undef) rfl (Or.inr ⟨by kernel_rfl,rfl⟩) hHeld ?_
            refine tk9 20 (some 86) (v:=undef) rfl (Or.inr ⟨by kernel_rfl,rfl⟩) hHeld ?_
            refine tk9 21 (some 87) (v:=undef) rfl (Or.inr ⟨by kernel_rfl,rfl⟩) hHeld ?_
            refine tk9 22 (some 88) (v:=undef) rfl (Or.inr ⟨by kernel_rfl,rfl⟩) hHeld ?_
            refine tk9 23 (some 89) (v:=undef) rfl (Or.inr ⟨by kernel_rfl,rfl⟩) hHeld ?_
            refine tk0 24 (some 90) (v:=.bool false) rfl hHeld ?_
            refine tk0 25 (some 91) (v:=.bool false) rfl hHeld ?_
            refine wpAnyH_done (by kernel_rfl) ?_ _
            replace HX:=Lib.hid hHeld.1
            clear hHeld
            go_wp2
            simp [Act.put]
            go_meet
            exact ⟨false,rfl,HX.out,L0.out,L1.out⟩
           | true =>
            refine tk0 16 (some 82) (v:=.bool true) rfl hHeld ?_
            refine tk0 17 (some 83) (v:=.pointer (some ⟨w.heap.size,1,none⟩)) rfl hHeld ?_
            refine tk0 18 (some 84) (v:=.pointer (some ⟨w.heap.size,21,none⟩)) rfl hHeld ?_
            refine tk9 19 (some 85) (v:=.slice Ak a.s.kernel.length kk) rfl (yields_load_one9 (by kernel_rfl) _ _ rfl (w.heap.size) (21) (by kernel_rfl) _ _ Tryz.underlying24 rfl (fun _ h=>h.1.cell HC.out.2.1)) hHeld ?_
            refine tk0 20 (some 86) (v:=.slice (some ⟨b3,o3,none⟩) 4 k1) rfl hHeld ?_
            refine tk9 21 (some 87) (v:=.slice (some ⟨b3,o3 + 2,none⟩) 2 (k1 - 2)) rfl (yields_post (by kernel_rfl) _ _ rfl b3 o3 4 k1 2 (by kernel_rfl) (by kernel_rfl) (by omega) (by omega) (by omega)) hHeld ?_
            refine call_d9 22 (some 88) rfl (by kernel_rfl) (by kernel_rfl) (by kernel_rfl) 60 _ _ rfl #[.slice Ak a.s.kernel.length kk,.slice (some ⟨b3,o3 + 2,none⟩) 2 (k1 - 2)] (by kernel_rfl) (fun w=>by kernel_rfl) ?_
            refine (equalInts_any a.s.kernel [y2,y3] Ak (some ⟨b3,o3 + 2,none⟩) kk (k1 - 2) _ (HC.out.1.next hHeld.1.below).lst (lst_post (j:=2) L1.out.lst (by simp))).mono ?_
            rintro e V99 ⟨rfl,n9,rfl⟩
            have hb:=below_drews (Below.refl V19.heap.size V19) n9
            generalize World.drewN V19 n9 = V20 at hb ⊢
            generalize decide (a.s.kernel = [y2,y3]) = t4
            replace L0:=Lib.hid (L0.out.next hb)
            replace L1:=Lib.hid (L1.out.next hb)
            replace L7:=Lib.hid (L7.out.next hb)
            replace hHeld:=held_next hHeld hb
            refine ⟨_,rfl,hHeld,?_⟩
            clear hb
            refine tk0 23 (some 89) (v:=.bool (!t4)) rfl hHeld ?_
            refine tk0 24 (some 90) (v:=.bool (!t4)) rfl hHeld ?_
            refine tk0 25 (some 91) (v:=.bool (!t4)) rfl hHeld ?_
            refine wpAnyH_done (by kernel_rfl) ?_ _
            replace HX:=Lib.hid hHeld.1
            clear hHeld
            go_wp2
            simp [Act.put]
            go_meet
            exact ⟨(!t4),rfl,HX.out,L0.out,L1.out⟩
        case rest =>
         obtain ⟨t,rfl,hA,hL0,hL1⟩:=hcut
         replace HX:=Lib.hid hA
         replace L0:=Lib.hid hL0
         replace L1:=Lib.hid hL1
         clear hA hL0 hL1
         cases t with
         | true =>
          go_wp2_with fail
          refine (misfit_any _).mono ?_
          rintro e w9 ⟨rfl,rfl⟩
          go_wp2
          go_ret2
          exact sh_misfit HX.out.below
         | false =>
          go_wp2_with fail
          refine wp_region_held_drew (S:=fun W=>AskI w cs a W∧Below wc.heap.size wc W) (by kernel_rfl) ⟨HX.out.next ((Below.refl _ _).drew),(Below.refl _ _).drew⟩ (fun hHeld=>?_)
          generalize World.drew _ = V91 at hHeld ⊢
          have hb:=hHeld.2
          replace L0:=Lib.hid (L0.out.next hb)
          replace L1:=Lib.hid (L1.out.next hb)
          clear hb
          refine tk9 0 (some 96) (v:=.agg cs.toArray) rfl (yields_ask (by kernel_rfl) _ rfl (by kernel_rfl) (fun _ h=>h.1)) hHeld ?_
          refine tk0 1 (some 97) (v:=.slice (some ⟨b3,o3,none⟩) 4 k1) rfl hHeld ?_
          refine tk9 2 (some 98) (v:=.slice (some ⟨b3,o3 + 2,none⟩) 2 (k1 - 2)) rfl (yields_post (by kernel_rfl) _ _ rfl b3 o3 4 k1 2 (by kernel_rfl) (by kernel_rfl) (by omega) (by omega) (by omega)) hHeld ?_
          refine call_d9 3 (some 99) rfl (by kernel_rfl) (by kernel_rfl) (by kernel_rfl) 113 _ _ rfl #[.agg cs.toArray,.slice (some ⟨b3,o3 + 2,none⟩) 2 (k1 - 2)] (by kernel_rfl) (fun w=>by kernel_rfl) ?_
          refine (windows_any cs a [y2,y3] (some ⟨b3,o3 + 2,none⟩) (k1 - 2) _ hHeld.1.arg (lst_post (j:=2) L1.out.lst (by simp)) rfl (by rw [HXD.out];rfl) HF.out.1 HF.out.2.1 HF.out.2.2).mono ?_
          rintro e V92 ⟨⟨An,kn,ln,bn,rfl,hO,hbn⟩,hb⟩
          replace L0:=Lib.hid (L0.out.next hb)
          replace L1:=Lib.hid (L1.out.next hb)
          have LN:=Lib.hid (And.intro hO hbn)
          obtain ⟨nb,nb' ⟩:=slice_bnd hO
          clear hO hbn
          replace hHeld:=held_next hHeld hb
          refine ⟨_,rfl,hHeld,?_⟩
          clear hb
          refine tk0 4 (some 95) (v:=.tuple #[.slice An ln.length kn,.bool bn]) rfl hHeld ?_
          refine tk0 5 (some 100) (v:=.slice An ln.length kn) rfl hHeld ?_
          refine tk0 6 (some 101) (v:=.bool bn) rfl hHeld ?_
          refine tk0 7 (some 7) (v:=.slice An ln.length kn) rfl hHeld ?_
          refine tk0 8 (some 8) (v:=.bool bn) rfl hHeld ?_
          refine wpAnyH_done (by kernel_rfl) ?_ _
          replace HX:=Lib.hid hHeld.1
          clear hHeld
          cases bn with
          | false =>
           go_wp2_with fail
           refine (misfit_any _).mono ?_
           rintro e w9 ⟨rfl,rfl⟩
           go_wp2
           go_ret2
           exact sh_misfit HX.out.below
          | true =>
           obtain ⟨n0,n1,rfl⟩:=two_of (LN.out.2 rfl)
           obtain ⟨m0,b5,o5,rfl,-,c50,-⟩:=LN.out.1.get (j:=0) rfl
           obtain ⟨m1,-,c51,-⟩:=LN.out.1.at (j:=1) rfl
           have h5:b5 < V92.heap.size:=(int_at (j:=0) LN.out.1.rep rfl).2.elim fun b h=>h.elim fun o h=>by obtain ⟨e,h,-⟩:=h;injection e with e;injection e with e1 e2;rw [e1];exact h
           have HN:=Lib.hid (And.intro c50 (And.intro c51 (And.intro h5 (And.intro m0 m1))))
           clear c50 c51 h5 m0 m1
           go_wp2_with fail
           refine wp_region_held_drew (S:=fun W=>AskI w cs a W∧Below V92.heap.size V92 W) (by kernel_rfl) ⟨HX.out.next ((Below.refl _ _).drew),(Below.refl _ _).drew⟩ (fun hHeld=>?_)
           generalize World.drew _ = V93 at hHeld ⊢
           have hb:=hHeld.2
           clear hb
           refine tk0 0 (some 107) (v:=.slice (some ⟨b2,o2,none⟩) 4 k0) rfl hHeld ?_
           refine tk9 1 (some 108) (v:=.pointer (some ⟨b2,o2 + 0,none⟩)) rfl (yields_idx (by kernel_rfl) _ _ rfl b2 o2 (4) k0 0 (by kernel_rfl) (by kernel_rfl) (by omega)) hHeld ?_
           refine tk9 2 (some 109) (v:=.int .i64 x0) rfl (yields_load_one9 (by kernel_rfl) _ _ rfl b2 (o2 + 0) (by kernel_rfl) _ _ Tryz.underlying3 rfl (fun _ h=>h.1.elem LX.out (j:=0) rfl)) hHeld ?_
           refine tk0 3 (some 110) (v:=.slice (some ⟨b3,o3,none⟩) 4 k1) rfl hHeld ?_
           refine tk9 4 (some 111) (v:=.pointer (some ⟨b3,o3 + 0,none⟩)) rfl (yields_idx (by kernel_rfl) _ _ rfl b3 o3 (4) k1 0 (by kernel_rfl) (by kernel_rfl) (by omega)) hHeld ?_
           refine tk9 5 (some 112) (v:=.int .i64 y0) rfl (yields_load_one9 (by kernel_rfl) _ _ rfl b3 (o3 + 0) (by kernel_rfl) _ _ Tryz.underlying3 rfl (fun _ h=>h.1.elem LY.out (j:=0) rfl)) hHeld ?_
           refine tk0 6 (some 113) (v:=.slice (some ⟨b5,o5,none⟩) 2 kn) rfl hHeld ?_
           refine tk9 7 (some 114) (v:=.pointer (some ⟨b5,o5 + 0,none⟩)) rfl (yields_idx (by kernel_rfl) _ _ rfl b5 o5 (2) kn 0 (by kernel_rfl) (by kernel_rfl) (by omega)) hHeld ?_
           refine tk9 8 (some 115) (v:=.int .i64 n0) rfl (yields_load_one9 (by kernel_rfl) _ _ rfl b5 (o5 + 0) (by kernel_rfl) _ _ Tryz.underlying3 rfl (fun _ h=>(h.2.cell (p:=⟨b5,o5 + 0,none⟩) HN.out.2.2.1).trans HN.out.1)) hHeld ?_
           refine tk0 9 (some 116) (v:=.slice (some ⟨b5,o5,none⟩) 2 kn) rfl hHeld ?_
           refine tk9 10 (some 117) (v:=.pointer (some ⟨b5,o5 + 1,none⟩)) rfl (yields_idx (by kernel_rfl) _ _ rfl b5 o5 (2) kn 1 (by kernel_rfl) (by kernel_rfl) (by omega)) hHeld ?_
           refine tk9 11 (some 118) (v:=.int .i64 n1) rfl (yields_load_one9 (by kernel_rfl) _ _ rfl b5 (o5 + 1) (by kernel_rfl) _ _ Tryz.underlying3 rfl (fun _ h=>(h.2.cell (p:=⟨b5,o5 + 1,none⟩) HN.out.2.2.1).trans HN.out.2.1)) hHeld ?_
           refine oneLay 12 (some 119) rfl rfl (by kernel_rfl) (by kernel_rfl) (.slice (some ⟨V93.heap.size,0,none⟩) 4 4) [.cells #[.int .i64 x0,.int .i64 y0,.int .i64 n0,.int .i64 n1] 3] (by kernel_rfl) (held_next hHeld ((Below.refl _ _).alloc (Nat.le_refl _) _)) ?_
           replace hHeld:=held_next hHeld ((Below.refl V93.heap.size V93).alloc (Nat.le_refl _) (.cells #[.int .i64 x0,.int .i64 y0,.int .i64 n0,.int .i64 n1] 3))
           refine call_d9 13 (some 120) rfl (by kernel_rfl) (by kernel_rfl) (by kernel_rfl) 81 _ _ rfl #[.slice (some ⟨V93.heap.size,0,none⟩) 4 4] (by kernel_rfl) (fun w=>by kernel_rfl) ?_
           refine (one_any [x0,y0,n0,n1] (some ⟨V93.heap.size,0,none⟩) 4 _ (lst_new V93 [x0,y0,n0,n1] 3 (four_all HI.out.1 HI.out.2 HN.out.2.2.2.1 HN.out.2.2.2.2) (by simp))).mono ?_
           rintro e V62 ⟨D,jj,x,ll,rfl,hx,hb,hL,rfl,rfl⟩
           have HD:=Lib.hid hL
           replace hHeld:=held_next hHeld hb
           refine ⟨_,rfl,hHeld,?_⟩
           clear hx hb hL
           refine tk0 14 (some 121) (v:=.slice D 1 jj) rfl hHeld ?_
           refine tk0 15 (some 122) (v:=.int .i64 0) rfl hHeld ?_
           refine tk0 16 (some 2) (v:=.slice D 1 jj) rfl hHeld ?_
           refine tk0 17 (some 3) (v:=.int .i64 0) rfl hHeld ?_
           refine wpAnyH_done (by kernel_rfl) ?_ _
           have HZ:=Lib.hid hHeld.1.below
           clear hHeld
           go_wp2
           go_ret2
           exact ⟨D,jj,0,_,by kernel_rfl,by unfold I64;omega,HZ.out,HD.out,fun _=>rfl⟩
  ·have hA:((x.length:Int) != 4) = false:=by simp;omega
   have hB:((y.length:Int) != 4) = true:=by simp;omega
   refine wp_region_held_drew (S:=fun W=>AskI w cs a W∧Below V4.heap.size V4 W) (by kernel_rfl) ⟨HX.out.next ((Below.refl _ _).drew),(Below.refl _ _).drew⟩ (fun hHeld=>?_)
   generalize World.drew _ = V15 at hHeld ⊢
   have hb:=hHeld.2
   replace L0:=Lib.hid (L0.out.next hb)
   replace L1:=Lib.hid (L1.out.next hb)
   clear hb
   refine tk0 0 (some 16) (v:=.slice A0 x.length k0) rfl hHeld ?_
   refine tk0 1 (some 17) (v:=.int .i64 (x.length:Int)) rfl hHeld ?_
   refine tk9 2 (some 18) (v:=.bool false) rfl (yields_neqD (by kernel_rfl) _ _ _ _ rfl (x.length:Int) 4 false (by kernel_rfl) (by kernel_rfl) (by kernel_rfl) hA) hHeld ?_
   refine tk0 3 (some 19) (v:=.bool false) rfl hHeld ?_
   refine tk0 4 (some 20) (v:=.slice A1 y.length k1) rfl hHeld ?_
   refine tk0 5 (some 21) (v:=.int .i64 (y.length:Int)) rfl hHeld ?_
   refine tk9 6 (some 22) (v:=.bool true) rfl (yields_neqD (by kernel_rfl) _ _ _ _ rfl (y.length:Int) 4 true (by kernel_rfl) (by kernel_rfl) (by kernel_rfl) hB) hHeld ?_
   refine tk0 7 (some 23) (v:=.bool true) rfl hHeld ?_
   refine tk0 8 (some 24) (v:=.bool true) rfl hHeld ?_
   refine tk9 9 (some 25) (v:=undef) rfl (Or.inr ⟨by kernel_rfl,rfl⟩) hHeld ?_
   refine tk9 10 (some 26) (v:=undef) rfl (Or.inr ⟨by kernel_rfl,rfl⟩) hHeld ?_
   refine tk9 11 (some 27) (v:=undef) rfl (Or.inr ⟨by kernel_rfl,rfl⟩) hHeld ?_
   refine tk9 12 (some 28) (v:=undef) rfl (Or.inr ⟨by kernel_rfl,rfl⟩) hHeld ?_
   refine tk0 13 (some 29) (v:=.bool true) rfl hHeld ?_
   refine tk0 14 (some 30) (v:=.bool true) rfl hHeld ?_
   refine tk9 15 (some 31) (v:=undef) rfl (Or.inr ⟨by kernel_rfl,rfl⟩) hHeld ?_
   refine tk9 16 (some 32) (v:=undef) rfl (Or.inr ⟨by kernel_rfl,rfl⟩) hHeld ?_
   refine tk9 17 (some 33) (v:=undef) rfl (Or.inr ⟨by kernel_rfl,rfl⟩) hHeld ?_
   refine tk9 18 (some 34) (v:=undef) rfl (Or.inr ⟨by kernel_rfl,rfl⟩) hHeld ?_
   refine tk0 19 (some 35) (v:=.bool true) rfl hHeld ?_
   refine tk0 20 (some 36) (v:=.bool true) rfl hHeld ?_
   refine tk9 21 (some 37) (v:=undef) rfl (Or.inr ⟨by kernel_rfl,rfl⟩) hHeld ?_
   refine tk9 22 (some 38) (v:=undef) rfl (Or.inr ⟨by kernel_rfl,rfl⟩) hHeld ?_
   refine tk9 23 (some 39) (v:=undef) rfl (Or.inr ⟨by kernel_rfl,rfl⟩) hHeld ?_
   refine tk9 24 (some 40) (v:=undef) rfl (Or.inr ⟨by kernel_rfl,rfl⟩) hHeld ?_
   refine tk9 25 (some 41) (v:=undef) rfl (Or.inr ⟨by kernel_rfl,rfl⟩) hHeld ?_
   refine tk9 26 (some 42) (v:=undef) rfl (Or.inr ⟨by kernel_rfl,rfl⟩) hHeld ?_
   refine tk0 27 (some 43) (v:=.bool true) rfl hHeld ?_
   refine tk0 28 (some 44) (v:=.bool true) rfl hHeld ?_
   refine tk9 29 (some 45) (v:=undef) rfl (Or.inr ⟨by kernel_rfl,rfl⟩) hHeld ?_
   refine tk9 30 (some 46) (v:=undef) rfl (Or.inr ⟨by kernel_rfl,rfl⟩) hHeld ?_
   refine tk9 31 (some 47) (v:=undef) rfl (Or.inr ⟨by kernel_rfl,rfl⟩) hHeld ?_
   refine tk9 32 (some 48) (v:=undef) rfl (Or.inr ⟨by kernel_rfl,rfl⟩) hHeld ?_
   refine tk9 33 (some 49) (v:=undef) rfl (Or.inr ⟨by kernel_rfl,rfl⟩) hHeld ?_
   refine tk9 34 (some 50) (v:=undef) rfl (Or.inr ⟨by kernel_rfl,rfl⟩) hHeld ?_
   refine tk0 35 (some 51) (v:=.bool true) rfl hHeld ?_
   refine tk0 36 (some 52) (v:=.bool true) rfl hHeld ?_
   refine tk9 37 (some 53) (v:=undef) rfl (Or.inr ⟨by kernel_rfl,rfl⟩) hHeld ?_
   refine tk9 38 (some 54) (v:=undef) rfl (Or.inr ⟨by kernel_rfl,rfl⟩) hHeld ?_
   refine tk9 39 (some 55) (v:=undef) rfl (Or.inr ⟨by kernel_rfl,rfl⟩) hHeld ?_
   refine tk9 40 (some 56) (v:=undef) rfl (Or.inr ⟨by kernel_rfl,rfl⟩) hHeld ?_
   refine tk9 41 (some 57) (v:=undef) rfl (Or.inr ⟨by kernel_rfl,rfl⟩) hHeld ?_
   refine tk9 42 (some 58) (v:=undef) rfl (Or.inr ⟨by kernel_rfl,rfl⟩) hHeld ?_
   refine tk9 43 (some 59) (v:=undef) rfl (Or.inr ⟨by kernel_rfl,rfl⟩) hHeld ?_
   refine tk9 44 (some 60) (v:=undef) rfl (Or.inr ⟨by kernel_rfl,rfl⟩) hHeld ?_
   refine tk9 45 (some 61) (v:=undef) rfl (Or.inr ⟨by kernel_rfl,rfl⟩) hHeld ?_
   refine tk0 46 (some 62) (v:=.bool true) rfl hHeld ?_
   refine wpAnyH_done (by kernel_rfl) ?_ _
   rename_i K0 a0
   change K0 _ _
   refine a0 _ _ (wp_cond_true (by kernel_rfl) ?_)
   replace HX:=Lib.hid hHeld.1
   clear hHeld
   go_wp2_with fail
   refine (misfit_any _).mono ?_
   rintro e w9 ⟨rfl,rfl⟩
   go_wp2
   go_ret2
   exact sh_misfit HX.out.below
 ·have hA:((x.length:Int) != 4) = true:=by simp;omega
  refine wp_region_held_drew (S:=fun W=>AskI w cs a W∧Below V4.heap.size V4 W) (by kernel_rfl) ⟨HX.out.next ((Below.refl _ _).drew),(Below.refl _ _).drew⟩ (fun hHeld=>?_)
  generalize World.drew _ = V15 at hHeld ⊢
  have hb:=hHeld.2
  replace L0:=Lib.hid (L0.out.next hb)
  replace L1:=Lib.hid (L1.out.next hb)
  clear hb
  refine tk0 0 (some 16) (v:=.slice A0 x.length k0) rfl hHeld ?_
  refine tk0 1 (some 17) (v:=.int .i64 (x.length:Int)) rfl hHeld ?_
  refine tk9 2 (some 18) (v:=.bool true) rfl (yields_neqD (by kernel_rfl) _ _ _ _ rfl (x.length:Int) 4 true (by kernel_rfl) (by kernel_rfl) (by kernel_rfl) hA) hHeld ?_
  refine tk0 3 (some 19) (v:=.bool true) rfl hHeld ?_
  refine tk9 4 (some 20) (v:=undef) rfl (Or.inr ⟨by kernel_rfl,rfl⟩) hHeld ?_
  refine tk9 5 (some 21) (v:=undef) rfl (Or.inr ⟨by kernel_rfl,rfl⟩) hHeld ?_
  refine tk9 6 (some 22) (v:=undef) rfl (Or.inr ⟨by kernel_rfl,rfl⟩) hHeld ?_
  refine tk0 7 (some 23) (v:=.bool true) rfl hHeld ?_
  refine tk0 8 (some 24) (v:=.bool true) rfl hHeld ?_
  refine tk9 9 (some 25) (v:=undef) rfl (Or.inr ⟨by kernel_rfl,rfl⟩) hHeld ?_
  refine tk9 10 (some 26) (v:=undef) rfl (Or.inr ⟨by kernel_rfl,rfl⟩) hHeld ?_
  refine tk9 11 (some 27) (v:=undef) rfl (Or.inr ⟨by kernel_rfl,rfl⟩) hHeld ?_
  refine tk9 12 (some 28) (v:=undef) rfl (Or.inr ⟨by kernel_rfl,rfl⟩) hHeld ?_
  refine tk0 13 (some 29) (v:=.bool true) rfl hHeld ?_
  refine tk0 14 (some 30) (v:=.bool true) rfl hHeld ?_
  refine tk9 15 (some 31) (v:=undef) rfl (Or.inr ⟨by kernel_rfl,rfl⟩) hHeld ?_
  refine tk9 16 (some 32) (v:=undef) rfl (Or.inr ⟨by kernel_rfl,rfl⟩) hHeld ?_
  refine tk9 17 (some 33) (v:=undef) rfl (Or.inr ⟨by kernel_rfl,rfl⟩) hHeld ?_
  refine tk9 18 (some 34) (v:=undef) rfl (Or.inr ⟨by kernel_rfl,rfl⟩) hHeld ?_
  refine tk0 19 (some 35) (v:=.bool true) rfl hHeld ?_
  refine tk0 20 (some 36) (v:=.bool true) rfl hHeld ?_
  refine tk9 21 (some 37) (v:=undef) rfl (Or.inr ⟨by kernel_rfl,rfl⟩) hHeld ?_
  refine tk9 22 (some 38) (v:=undef) rfl (Or.inr ⟨by kernel_rfl,rfl⟩) hHeld ?_
  refine tk9 23 (some 39) (v:=undef) rfl (Or.inr ⟨by kernel_rfl,rfl⟩) hHeld ?_
  refine tk9 24 (some 40) (v:=undef) rfl (Or.inr ⟨by kernel_rfl,rfl⟩) hHeld ?_
  refine tk9 25 (some 41) (v:=undef) rfl (Or.inr ⟨by kernel_rfl,rfl⟩) hHeld ?_
  refine tk9 26 (some 42) (v:=undef) rfl (Or.inr ⟨by kernel_rfl,rfl⟩) hHeld ?_
  refine tk0 27 (some 43) (v:=.bool true) rfl hHeld ?_
  refine tk0 28 (some 44) (v:=.bool true) rfl hHeld ?_
  refine tk9 29 (some 45) (v:=undef) rfl (Or.inr ⟨by kernel_rfl,rfl⟩) hHeld ?_
  refine tk9 30 (some 46) (v:=undef) rfl (Or.inr ⟨by kernel_rfl,rfl⟩) hHeld ?_
  refine tk9 31 (some 47) (v:=undef) rfl (Or.inr ⟨by kernel_rfl,rfl⟩) hHeld ?_
  refine tk9 32 (some 48) (v:=undef) rfl (Or.inr ⟨by kernel_rfl,rfl⟩) hHeld ?_
  refine tk9 33 (some 49) (v:=undef) rfl (Or.inr ⟨by kernel_rfl,rfl⟩) hHeld ?_
  refine tk9 34 (some 50) (v:=undef) rfl (Or.inr ⟨by kernel_rfl,rfl⟩) hHeld ?_
  refine tk0 35 (some 51) (v:=.bool true) rfl hHeld ?_
  refine tk0 36 (some 52) (v:=.bool true) rfl hHeld ?_
  refine tk9 37 (some 53) (v:=undef) rfl (Or.inr ⟨by kernel_rfl,rfl⟩) hHeld ?_
  refine tk9 38 (some 54) (v:=undef) rfl (Or.inr ⟨by kernel_rfl,rfl⟩) hHeld ?_
  refine tk9 39 (some 55) (v:=undef) rfl (Or.inr ⟨by kernel_rfl,rfl⟩) hHeld ?_
  refine tk9 40 (some 56) (v:=undef) rfl (Or.inr ⟨by kernel_rfl,rfl⟩) hHeld ?_
  refine tk9 41 (some 57) (v:=undef) rfl (Or.inr ⟨by kernel_rfl,rfl⟩) hHeld ?_
  refine tk9 42 (some 58) (v:=undef) rfl (Or.inr ⟨by kernel_rfl,rfl⟩) hHeld ?_
  refine tk9 43 (some 59) (v:=undef) rfl (Or.inr ⟨by kernel_rfl,rfl⟩) hHeld ?_
  refine tk9 44 (some 60) (v:=undef) rfl (Or.inr ⟨by kernel_rfl,rfl⟩) hHeld ?_
  refine tk9 45 (some 61) (v:=undef) rfl (Or.inr ⟨by kernel_rfl,rfl⟩) hHeld ?_
  refine tk0 46 (some 62) (v:=.bool true) rfl hHeld ?_
  refine wpAnyH_done (by kernel_rfl) ?_ _
  rename_i K0 a0
  change K0 _ _
  refine a0 _ _ (wp_cond_true (by kernel_rfl) ?_)
  replace HX:=Lib.hid hHeld.1
  clear hHeld
  go_wp2_with fail
  refine (misfit_any _).mono ?_
  rintro e w9 ⟨rfl,rfl⟩
  go_wp2
  go_ret2
  exact sh_misfit HX.out.below
end Go.Proofs.YtilobeohkomeoaaGreat
