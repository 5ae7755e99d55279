/-
  Chapter 10: GlobalAveragePool, BatchNormalization, LayerNormalization. No condition.
-/
/-
  slices.Reverse of an own list. No condition.
-/
/-
  Chapter 10: Gemm. No condition.
-/
import Derived.Test.YtilobeohkomeoaaGreatQInfS
set_option linter.unusedSimpArgs false
set_option linter.unusedVariables false
namespace Go.Proofs.YtilobeohkomeoaaGreat
open Go.RowKit
open Rep (rep)
theorem yields_mid {ops:Array Oper} {S:World→Prop} {o:Oper} {a:Act} (hw:Region.wanted o (yielded ops a.tmps) = true) (x y z:Operand) (ho:o.op = .slice 24 x (some y) (some z) none) (b f n c j m:Nat) (hx:a.eval x = .slice (some ⟨b,f,none⟩) n c) (hy:a.eval y = .int .i64 (j:Int)) (hz:a.eval z = .int .i64 (m:Int)) (hj:j ≤ m) (hm:m ≤ n) (hnc:n ≤ c) (hc:¬ c - j = 0):YieldsIf Tryz.prog ops S o (.slice (some ⟨b,f + j,none⟩) (m - j) (c - j)) a :=
 .inl ⟨hw,fun w h=>by
  have h0:(0:Int) ≤ (j:Int):=Int.natCast_nonneg _
  have h1:(j:Int) ≤ (m:Int):=by omega
  have h2:(m:Int) ≤ (c:Int):=by omega
  unfold execOp
  simp only [ho,hx,hy,hz,Option.map]
  go_simp
  intro e
  omega⟩
set_option maxRecDepth 100000 in
set_option maxHeartbeats 8000000 in
theorem normal_78 (cs:List Value) (a:AskD) (w:World) (hr:rep w (old w.heap.size) cs a) (hop:a.op = 78) (hd:(a.dims 0).length ≤ 8) :
  Calls Tryz.prog 80 #[.agg cs.toArray] w (ShP w P1):=by
 obtain ⟨A7,k7,h7,hi7⟩:=ask_ins hr
 obtain ⟨nb,nb'⟩:=slice_bnd hi7
 have HC:=Lib.hid (And.intro (ask_op hr).1 h7)
 clear h7 hi7
 go_enter Tryz.func80,Tryz.ntmps80
 go_wp2_with (with_reducible refine wpList_box_row rfl 91 _ rfl cs rfl ?_;have hX:=ask_start hr;generalize World.alloc _ _ = W0 at hX ⊢;have HX:=Lib.hid hX;clear hX hr;refine halt ?_)
 unfold Halt
 go_wp2_with (with_reducible refine wpList_load_agg rfl 91 _ rfl _ _ _ rfl cs Tryz.underlying91 rfl HX.out.size HX.out.at ?_)
 refine (askDims' cs a 0 w.heap.size _ HX.out.below.size HX.out.arg0).mono ?_
 rintro e V2 ⟨A0,k0,rfl,h0,hb⟩
 have L0:=Lib.hid (lst_n HX.out hb h0)
 obtain ⟨b0,b0'⟩:=slice_bnd h0
 clear h0
 replace HX:=Lib.hid (HX.out.next hb)
 clear hb
 have hc0:=HX.out.cell HC.out.1
 rw [hop] at hc0
 clear hop
 generalize a.dims 0 = d at L0 b0 hd ⊢
 by_cases h3:d.length < 3
 ·have h3':(d.length:Int) < 3:=by omega
  go_wp2_with fail
  refine (misfit_any _).mono ?_
  rintro e w9 ⟨rfl,rfl⟩
  go_wp2
  go_ret2
  exact sh_misfit HX.out.below
 ·have h3':¬ (d.length:Int) < 3:=by omega
  obtain ⟨z,hz⟩:∃ z,d[0]? = some z:=⟨_,List.getElem?_eq_getElem (by omega)⟩
  obtain ⟨z64,b2,o2,rfl,-,-⟩:=L0.out.get hz
  have HZ:=Lib.hid z64
  clear hz z64
  have hk2:(2:Int) ≤ (d.length:Int):=by omega
  have hk3:¬ k0 = 2:=by omega
  have hk4:¬ k0 - 2 = 0:=by omega
  go_wp2_with fail
  have hq:=containsInt_any (d.drop 2) (some ⟨b2,o2 + 2,none⟩) (k0 - 2) 0 _ (lst_post (j:=2) L0.out.lst (by omega))
  rw [List.length_drop] at hq
  refine hq.mono ?_
  clear hq
  rintro e w4 ⟨rfl,rfl⟩
  generalize (d.drop 2).contains (0:Int) = t
  cases t with
  | true =>
   go_wp2_with fail
   refine (misfit_any _).mono ?_
   rintro e w9 ⟨rfl,rfl⟩
   go_wp2
   go_ret2
   exact sh_misfit HX.out.below
  | false =>
   go_wp2_with fail
   refine (repeat_row 1 d.length _ 1 _ (lst_new _ [1] 3 (by intro y hy;rw [List.mem_singleton.1 hy];unfold I64;omega) (by simp)) (by omega)).mono ?_
   rintro e w5 ⟨g,L,rfl,hg,hrow,hL,hi,hb⟩
   have hb2:=((Below.refl _ _).alloc (Nat.le_refl _) (.cells #[.int .i64 1] 3)).trans (hb.mono (by rw [World.size_alloc];omega))
   replace L0:=Lib.hid (L0.out.next hb2)
   have hge:=HX.out.lt
   replace HX:=Lib.hid (HX.out.next hb2)
   rw [World.size_alloc] at hg
   have HG:=Lib.hid (And.intro hrow (And.intro hL (And.intro hi (And.intro hg hge))))
   clear hb hb2 hrow hL hi hg hge
   obtain ⟨X,hX⟩:∃ X:List Value,X = (d.take 2).map (Value.int .i64):=⟨_,rfl⟩
   have hXl:X.length = Nat.min 2 d.length:=by show X.length = min 2 d.length;rw [hX];simp
   have hone:∀ v ∈ X,v.oneCell' = true:=fun v hv=>by rw [hX] at hv;obtain ⟨x,-,rfl⟩:=List.mem_map.1 hv;rfl
   have hsrc:∀ j v,X[j]? = some v→w5.cell? ((⟨b2,o2,none⟩:Addr).add j) = some v:=fun j v hv=>by
    rw [hX,List.getElem?_map] at hv
    obtain ⟨y,hy,rfl⟩:=Option.map_eq_some_iff.1 hv
    have hy2:d[j]? = some y:=by
     rw [List.getElem?_take] at hy
     split at hy
     ·exact hy
     ·cases hy
    obtain ⟨-,-,hc⟩:=L0.out.at hy2
    have e:(⟨b2,o2,none⟩:Addr).add j = ⟨b2,o2 + j,none⟩:=by
     simp [Addr.add]
     try omega
    rw [e]
    exact hc
   have hfit:0 + X.length ≤ (L.map (Value.int .i64)).length:=by rw [List.length_map,HG.out.2.1,hXl];show 0 + min 2 d.length ≤ d.length;omega
   have HP:=Lib.hid (And.intro hXl (And.intro hone (And.intro hsrc (And.intro hfit hX))))
   clear hXl hone hsrc hfit hX
   go_wp2_with (refine wpList_copy_splice rfl (.tmp 30) (.tmp 32) _ _ rfl 3 Tryz.underlying24 (by kernel_rfl) (some ⟨g,0,none⟩) (some ⟨b2,o2,none⟩) d.length d.length 2 k0 rfl rfl g 0 (L.map (Value.int .i64)) 3 HG.out.1 X HP.out.1 (fun _=>⟨rfl,⟨b2,o2,none⟩,rfl,HP.out.2.2.1⟩) HP.out.2.2.2.1 HP.out.2.1 g w5 (Below.refl _ _) (Nat.le_refl _) ?_)
   intro W6 hg6 hb6
   have H6:Hid (W6.heap[g]? = some (.cells ((splice L 0 (d.take 2)).map (Value.int .i64)).toArray 3 (0,0))):=Lib.hid (by have:=hg6.out;rw [HP.out.2.2.2.2,splice_map] at this;exact this)
   have H7:Hid ((splice L 0 (d.take 2)).length = d.length∧∀ x ∈ splice L 0 (d.take 2),I64 x):=Lib.hid ⟨by rw [length_splice _ _ _ (by rw [List.length_take];have:=HG.out.2.1;omega)];exact HG.out.2.1,fun x hx=>by
    rcases mem_splice hx with h | h
    ·exact HG.out.2.2.1 x h
    ·obtain ⟨j,hj⟩:=List.mem_iff_getElem?.1 (List.mem_of_mem_take h)
     exact (L0.out.get hj).1⟩
   generalize splice L 0 (d.take 2) = L2 at H6 H7
   have hbw:Below w.heap.size w W6:=HX.out.below.trans (hb6.mono (by have:=HG.out.2.2.2;omega))
   have HW:=Lib.hid hbw
   clear hg6 hb6 HP hbw
   have hown:=own_of_row (n:=w.heap.size) (by have:=HG.out.2.2.2;omega) H6.out H7.out.2 (by have:=H7.out.1;omega)
   have hq:=one_any L2 (some ⟨g,0,none⟩) L2.length W6 hown.lst
   rw [H7.out.1] at hq
   clear hown
   go_wp2_with fail
   refine hq.mono ?_
   clear hq
   rintro e w8 ⟨D,j,x,ll,rfl,hx,hb,hl,rfl,rfl⟩
   have HD:=Lib.hid (And.intro (HW.out.trans (hb.mono HW.out.size)) hl)
   clear hx hb hl
   go_wp2
   go_ret2
   exact ⟨D,j,0,_,rfl,by unfold I64;omega,HD.out.1,HD.out.2,fun _=>rfl⟩
theorem lst_mid {W:World} {b o k:Nat} {l:List Int} (hk:l.length ≤ k) (h2:¬ l.length < 2) (h:Lst W (some ⟨b,o,none⟩) k l):rep W (old W.heap.size) [.slice (some ⟨b,o + 1,none⟩) ((l.drop 1).take 1).length (k - 1)] ((l.drop 1).take 1) :=
 rep_pre (lst_post (j:=1) h (by omega)) (by rw [List.length_drop];omega)
theorem mid_len {l:List Int} (h2:¬ l.length < 2):((l.drop 1).take 1).length = 1:=by rw [List.length_take,List.length_drop];omega
theorem equalMid_any (l d:List Int) (A:Option Addr) (k b o k0:Nat) (w:World) (h1:Lst w A k l) (h2:Lst w (some ⟨b,o,none⟩) k0 d) (hk:d.length ≤ k0) (h3:¬ d.length < 2) :
  Calls Tryz.prog 60 #[.slice A l.length k,.slice (some ⟨b,o + 1,none⟩) (2 - 1) (k0 - 1)] w fun e w'=>(∃ t,e = .returned (.bool t))∧DrewFrom w w':=by
 have h:=equalInts_any l ((d.drop 1).take 1) A (some ⟨b,o + 1,none⟩) k (k0 - 1) w h1 (lst_mid hk h3 h2)
 rw [mid_len h3] at h
 exact h.mono fun e w' ⟨h1,h2⟩=>⟨⟨_,h1⟩,h2⟩
set_option maxRecDepth 100000 in
set_option maxHeartbeats 8000000 in
theorem normal_79 (cs:List Value) (a:AskD) (w:World) (hr:rep w (old w.heap.size) cs a) (hop:a.op = 79) :
  Calls Tryz.prog 80 #[.agg cs.toArray] w (ShP w P1):=by
 obtain ⟨A7,k7,h7,hi7⟩:=ask_ins hr
 obtain ⟨nb,nb'⟩:=slice_bnd hi7
 have HC:=Lib.hid (And.intro (ask_op hr).1 h7)
 clear h7 hi7
 go_enter Tryz.func80,Tryz.ntmps80
 go_wp2_with (with_reducible refine wpList_box_row rfl 91 _ rfl cs rfl ?_;have hX:=ask_start hr;generalize World.alloc _ _ = W0 at hX ⊢;have HX:=Lib.hid hX;clear hX hr;refine halt ?_)
 unfold Halt
 go_wp2_with (with_reducible refine wpList_load_agg rfl 91 _ rfl _ _ _ rfl cs Tryz.underlying91 rfl HX.out.size HX.out.at ?_)
 refine (askDims' cs a 0 w.heap.size _ HX.out.below.size HX.out.arg0).mono ?_
 rintro e V2 ⟨A0,k0,rfl,h0,hb⟩
 have L0:=Lib.hid (lst_n HX.out hb h0)
 obtain ⟨b0,b0'⟩:=slice_bnd h0
 clear h0
 replace HX:=Lib.hid (HX.out.next hb)
 clear hb
 have hc0:=HX.out.cell HC.out.1
 rw [hop] at hc0
 clear hop
 generalize a.dims 0 = d at L0 b0 ⊢
 by_cases h3:d.length < 2
 ·have h3':(d.length:Int) < 2:=by omega
  go_wp2_with fail
  refine (misfit_any _).mono ?_
  rintro e w9 ⟨rfl,rfl⟩
  go_wp2
  go_ret2
  exact sh_misfit HX.out.below
 ·have h3':¬ (d.length:Int) < 2:=by omega
  obtain ⟨z,hz⟩:∃ z,d[0]? = some z:=⟨_,List.getElem?_eq_getElem (by omega)⟩
  obtain ⟨-,b2,o2,rfl,-,-⟩:=L0.out.get hz
  clear hz
  go_wp2_with fail
  clear hc0
  go_loopw [6] (fun i wr=>∃ c:Nat,i = .int .i64 c∧c ≤ a.ins.length + 1∧AskI w cs a wr∧LstN w.heap.size wr (some ⟨b2,o2,none⟩) k0 d) (fun i _=>a.ins.length + 1 - (intOf i).toNat)
  case atStart=>exact ⟨1,rfl,by omega,HX.out,L0.out⟩
  case round =>
   obtain ⟨c,rfl,hc,hA,hL⟩:=hrel
   obtain ⟨wb,rfl⟩:∃ wb,wb = wr:=⟨_,rfl⟩
   have HA:=Lib.hid hA
   have LA:=Lib.hid hL
   have hc7:=hA.cell HC.out.2
   clear hA hL
   by_cases hlt:c < a.ins.length
   ·have hlt':(c:Int) < (a.ins.length:Int):=by omega
    go_wp2_with fail
    clear hc7
    refine wp_region_held_drew (S:=fun W=>AskI w cs a W∧Below wb.heap.size wb W) (by kernel_rfl) ⟨HA.out.next ((Below.refl _ _).drew),(Below.refl _ _).drew⟩ (fun hHeld=>?_)
    generalize World.drew _ = V41 at hHeld ⊢
    have hb:=hHeld.2
    replace LA:=Lib.hid (LA.out.next hb)
    clear hb
    refine tk9 0 (some 53) (v:=.agg cs.toArray) rfl (yields_ask (by kernel_rfl) _ rfl (by kernel_rfl) (fun _ h=>h.1)) hHeld ?_
    refine tk0 1 (some 54) (v:=.int .i64 (c:Int)) rfl hHeld ?_
    refine tk0 3 (some 56) (v:=.slice (some ⟨b2,o2,none⟩) d.length k0) rfl hHeld ?_
    refine tk9 4 (some 57) (v:=.slice (some ⟨b2,o2 + 1,none⟩) (2 - 1) (k0 - 1)) rfl (yields_mid (by kernel_rfl) _ _ _ rfl b2 o2 d.length k0 1 2 (by kernel_rfl) (by kernel_rfl) (by kernel_rfl) (by omega) (by omega) b0 (by omega)) hHeld ?_
    refine call_d9 2 (some 55) rfl (by kernel_rfl) (by kernel_rfl) (by kernel_rfl) 70 _ _ rfl #[.agg cs.toArray,.int .i64 (c:Int)] (by kernel_rfl) (fun w=>by kernel_rfl) ?_
    refine (askDims' cs a c w.heap.size _ hHeld.1.below.size hHeld.1.arg0).mono ?_
    rintro e V42 ⟨A9,k9,rfl,h9,hb⟩
    replace LA:=Lib.hid (LA.out.next hb)
    have L9:=Lib.hid (lst_n hHeld.1 hb h9)
    obtain ⟨b9,b9'⟩:=slice_bnd h9
    clear h9
    replace hHeld:=held_next hHeld hb
    refine ⟨_,rfl,hHeld,?_⟩
    clear hb
    refine call_d9 5 (some 58) rfl (by kernel_rfl) (by kernel_rfl) (by kernel_rfl) 60 _ _ rfl #[.slice A9 (a.dims c).length k9,.slice (some ⟨b2,o2 + 1,none⟩) (2 - 1) (k0 - 1)] (by kernel_rfl) (fun w=>by kernel_rfl) ?_
    refine (equalMid_any (a.dims c) d A9 k9 b2 o2 k0 _ L9.out.lst LA.out.lst b0 h3).mono ?_
    rintro e V99 ⟨⟨t2,rfl⟩,n9,rfl⟩
    have hb:=below_drews (Below.refl V42.heap.size V42) n9
    generalize World.drewN V42 n9 = V43 at hb ⊢
    replace LA:=Lib.hid (LA.out.next hb)
    replace L9:=Lib.hid (L9.out.next hb)
    replace hHeld:=held_next hHeld hb
    refine ⟨_,rfl,hHeld,?_⟩
    clear hb
    refine tk0 6 (some 59) (v:=.bool (!t2)) rfl hHeld ?_
    cases t2 with
    | true =>
     refine wpAnyH_done (by kernel_rfl) ?_ _
     rename_i K0 a0
     change K0 _ _
     refine a0 _ _ (wp_cond_false (by kernel_rfl) ?_)
     replace HA:=Lib.hid hHeld.1
     clear hHeld
     go_wp2
     go_roundw
     case rel=>exact ⟨c + 1,by go_num,by omega,HA.out,LA.out⟩
     case measure=>simp [intOf];omega
    | false =>
     refine wpAnyH_done (by kernel_rfl) ?_ _
     rename_i K0 a0
     change K0 _ _
     refine a0 _ _ (wp_cond_true (by kernel_rfl) ?_)
     replace HA:=Lib.hid hHeld.1
     clear hHeld
     go_wp2_with fail
     refine (misfit_any _).mono ?_
     rintro e w9 ⟨rfl,rfl⟩
     go_wp2
     go_ret2
     exact sh_misfit HA.out.below
   ·have hlt':¬ (c:Int) < (a.ins.length:Int):=by omega
    go_wp2_with fail
    refine (one_any d _ k0 wb LA.out.lst).mono ?_
    rintro e w8 ⟨D,j,x,ll,rfl,hx,hb,hl,rfl,rfl⟩
    have HD:=Lib.hid (And.intro (HA.out.trans hb) hl)
    clear hx hb hl
    go_wp2
    go_ret2
    exact ⟨D,j,0,_,rfl,by unfold I64;omega,HD.out.1,HD.out.2,fun _=>rfl⟩
set_option maxRecDepth 100000 in
set_option maxHeartbeats 8000000 in
theorem normal_80 (cs:List Value) (a:AskD) (w:World) (hr:rep w (old w.heap.size) cs a) (hop:a.op = 80) (hax:(axisD a.s.axis ((a.dims 0).length:Int)).2 = 0) :
  Calls Tryz.prog 80 #[.agg cs.toArray] w (ShP w P1):=by
 obtain ⟨x0,x1⟩:=axis_ok hax
 obtain ⟨kx,hkx,hkl⟩:∃ k:Nat,(axisD a.s.axis ((a.dims 0).length:Int)).1 = (k:Int)∧k < (a.dims 0).length:=⟨(axisD a.s.axis ((a.dims 0).length:Int)).1.toNat,by omega,by omega⟩
 have HK:=Lib.hid hkx
 clear hax x0 x1 hkx
 obtain ⟨A7,k7,h7,hi7⟩:=ask_ins hr
 obtain ⟨nb,nb'⟩:=slice_bnd hi7
 have HC:=Lib.hid (And.intro (ask_op hr).1 h7)
 clear h7 hi7
 go_enter Tryz.func80,Tryz.ntmps80
 go_wp2_with (with_reducible refine wpList_box_row rfl 91 _ rfl cs rfl ?_;have hX:=ask_start hr;generalize World.alloc _ _ = W0 at hX ⊢;have HX:=Lib.hid hX;clear hX hr;refine halt ?_)
 unfold Halt
 go_wp2_with (with_reducible refine wpList_load_agg rfl 91 _ rfl _ _ _ rfl cs Tryz.underlying91 rfl HX.out.size HX.out.at ?_)
 refine (askDims' cs a 0 w.heap.size _ HX.out.below.size HX.out.arg0).mono ?_
 rintro e V2 ⟨A0,k0,rfl,h0,hb⟩
 have L0:=Lib.hid (lst_n HX.out hb h0)
 obtain ⟨b0,b0'⟩:=slice_bnd h0
 clear h0
 replace HX:=Lib.hid (HX.out.next hb)
 clear hb
 have hc0:=HX.out.cell HC.out.1
 rw [hop] at hc0
 clear hop
 go_wp2_with (with_reducible refine wpList_load_agg rfl 91 _ rfl _ _ _ rfl cs Tryz.underlying91 rfl HX.out.size HX.out.at ?_)
 clear hc0
 refine (axisK_any cs a _ HX.out.arg).mono ?_
 rintro e V6 ⟨rfl,hb⟩
 rw [HK.out]
 replace L0:=Lib.hid (L0.out.next hb)
 replace HX:=Lib.hid (HX.out.next hb)
 clear hb
 generalize a.dims 0 = d at L0 b0 hkl ⊢
 obtain ⟨z,hz⟩:∃ z,d[0]? = some z:=⟨_,List.getElem?_eq_getElem (by omega)⟩
 obtain ⟨-,b2,o2,rfl,-,-⟩:=L0.out.get hz
 clear hz
 have hj0:(0:Int) ≤ (kx:Int):=Int.natCast_nonneg _
 have hj1:(kx:Int) ≤ (d.length:Int):=by omega
 have hj2:¬ k0 = kx:=by omega
 have HE:Hid (∀ W A k l,Lst W A k l→LstN w.heap.size W (some ⟨b2,o2,none⟩) k0 d→Calls Tryz.prog 60 #[.slice A l.length k,.slice (some ⟨b2,o2 + kx,none⟩) (d.length - kx) (k0 - kx)] W fun e w'=>(∃ t,e = .returned (.bool t))∧DrewFrom W w'):=Lib.hid (fun W A k l h1 h2=>by
  have h:=equalInts_any l (d.drop kx) A (some ⟨b2,o2 + kx,none⟩) k (k0 - kx) W h1 (lst_post (j:=kx) h2.lst (by omega))
  rw [List.length_drop] at h
  exact h.mono fun e w' ⟨h1,h2⟩=>⟨⟨_,h1⟩,h2⟩)
 go_wp2_with fail
 have hq:=containsInt_any (d.drop kx) (some ⟨b2,o2 + kx,none⟩) (k0 - kx) 0 _ (lst_post (j:=kx) L0.out.lst (by omega))
 rw [List.length_drop] at hq
 refine hq.mono ?_
 clear hq
 rintro e w4 ⟨rfl,rfl⟩
 generalize (d.drop kx).contains (0:Int) = t
 cases t with
 | true =>
  go_wp2_with fail
  refine (misfit_any _).mono ?_
  rintro e w9 ⟨rfl,rfl⟩
  go_wp2
  go_ret2
  exact sh_misfit HX.out.below
 | false =>
  clear hj0 hj1 hj2
  go_wp2_with fail
  go_loopw [8] (fun i wr=>∃ c:Nat,i = .int .i64 c∧c ≤ a.ins.length + 1∧AskI w cs a wr∧LstN w.heap.size wr (some ⟨b2,o2,none⟩) k0 d) (fun i _=>a.ins.length + 1 - (intOf i).toNat)
  case atStart=>exact ⟨1,rfl,by omega,HX.out,L0.out⟩
  case round =>
   obtain ⟨c,rfl,hc,hA,hL⟩:=hrel
   obtain ⟨wb,rfl⟩:∃ wb,wb = wr:=⟨_,rfl⟩
   have HA:=Lib.hid hA
   have LA:=Lib.hid hL
   have hc7:=hA.cell HC.out.2
   clear hA hL
   by_cases hlt:c < a.ins.length
   ·have hlt':(c:Int) < (a.ins.length:Int):=by omega
    go_wp2_with (with_reducible refine wpList_load_agg rfl 91 _ rfl _ _ _ rfl cs Tryz.underlying91 rfl HA.out.size HA.out.at ?_)
    clear hc7
    refine (askHas cs a c _ HA.out.arg).mono ?_
    rintro e w5 ⟨rfl,hb⟩
    replace LA:=Lib.hid (LA.out.next hb)
    replace HA:=Lib.hid (HA.out.next hb)
    clear hb
    cases a.has c with
    | false =>
     go_wp2
     go_roundw
     case rel=>exact ⟨c + 1,by go_num,by omega,HA.out,LA.out⟩
     case measure=>simp [intOf];omega
    | true =>
     go_wp2_with (with_reducible refine wpList_load_agg_w (by kernel_rfl) 91 _ rfl _ _ _ rfl cs Tryz.underlying91 rfl HA.out.size HA.out.at ?_)
     refine (askDims cs a c _ HA.out.arg).mono ?_
     rintro e w6 ⟨A9,k9,rfl,h9,hb⟩
     replace LA:=Lib.hid (LA.out.next hb)
     replace HA:=Lib.hid (HA.out.next hb)
     have L9:=Lib.hid (show Lst w6 A9 k9 (a.dims c) from h9)
     obtain ⟨b9,b9'⟩:=slice_bnd h9
     clear hb h9
     go_wp2_with fail
     refine (HE.out w6 A9 k9 (a.dims c) L9.out LA.out).mono ?_
     rintro e w7 ⟨⟨t,rfl⟩,n9,rfl⟩
     have hb:=below_drews (Below.refl w6.heap.size w6) n9
     replace LA:=Lib.hid (LA.out.next hb)
     replace HA:=Lib.hid (HA.out.next hb)
     clear hb
     cases t with
     | true =>
      go_wp2
      go_roundw
      case rel=>exact ⟨c + 1,by go_num,by omega,HA.out,LA.out⟩
      case measure=>simp [intOf];omega
     | false =>
      go_wp2_with fail
      refine (misfit_any _).mono ?_
      rintro e w9 ⟨rfl,rfl⟩
      go_wp2
      go_ret2
      exact sh_misfit HA.out.below
   ·have hlt':¬ (c:Int) < (a.ins.length:Int):=by omega
    go_wp2_with fail
    refine (one_any d _ k0 wb LA.out.lst).mono ?_
    rintro e w8 ⟨D,j,x,ll,rfl,hx,hb,hl,rfl,rfl⟩
    have HD:=Lib.hid (And.intro (HA.out.trans hb) hl)
    clear hx hb hl
    go_wp2
    go_ret2
    exact ⟨D,j,0,_,rfl,by unfold I64;omega,HD.out.1,HD.out.2,fun _=>rfl⟩
theorem normal_any (cs:List Value) (a:AskD) (w:World) (hr:rep w (old w.heap.size) cs a) (hop:a.op = 78 ∨ a.op = 79 ∨ a.op = 80) (hd:(a.dims 0).length ≤ 8) (hax:a.op = 80→(axisD a.s.axis ((a.dims 0).length:Int)).2 = 0) :
  Calls Tryz.prog 80 #[.agg cs.toArray] w (ShP w P1):=by
 rcases hop with h | h | h
 ·exact normal_78 cs a w hr h hd
 ·exact normal_79 cs a w hr h
 ·exact normal_80 cs a w hr h (hax h)
end Go.Proofs.YtilobeohkomeoaaGreat
set_option linter.unusedSimpArgs false
set_option linter.unusedVariables false
namespace Go.Proofs.YtilobeohkomeoaaGreat
open Go.RowKit
open Rep (rep)
structure Only (n m:Nat) (w w':World):Prop where
 os:w'.os = w.os
 tape:w'.tape = w.tape
 output:w'.output = w.output
 size:w.heap.size ≤ w'.heap.size
 block:∀ k,k < w.heap.size→¬ (n ≤ k∧k < m)→w'.heap[k]? = w.heap[k]?
theorem Only.refl (n m:Nat) (w:World):Only n m w w:=⟨rfl,rfl,rfl,Nat.le_refl _,fun _ _ _=>rfl⟩
theorem Only.setCell {n m:Nat} {w w':World} (h:Only n m w w') {p:Addr} (hp:n ≤ p.block∧p.block < m) (u:Value):Only n m w (w'.setCell p u) :=
 ⟨h.os,h.tape,h.output,by rw [size_setC];exact h.size,fun k h1 h2=>(Below.heap_setCell _ _ _ _ (fun e=>h2 (by rw [e];exact hp))).trans (h.block k h1 h2)⟩
theorem Only.drew {n m:Nat} {w w':World} (h:Only n m w w'):Only n m w w'.drew:=⟨h.os,h.tape,h.output,h.size,h.block⟩
theorem Only.below {n m:Nat} {w w':World} (h:Only n m w w') (hn:n ≤ w.heap.size):Below n w w':=⟨h.os,h.tape,h.output,h.size,fun k hk=>h.block k (Nat.lt_of_lt_of_le hk hn) (fun e=>by omega)⟩
theorem AskI.only {n m:Nat} {w W W':World} {cs:List Value} {a:AskD} (h:AskI w cs a W) (ho:Only n m W W') (hn:w.heap.size < n):AskI w cs a W' :=
 ⟨⟨h.box.below.trans ⟨ho.os,ho.tape,ho.output,ho.size,fun k hk=>ho.block k (by have:=h.lt;omega) (fun e=>by omega)⟩,(ho.block _ h.lt (fun e=>by omega)).trans h.box.row⟩,h.was⟩
theorem LstN.only {n m j:Nat} {W W':World} {A:Option Addr} {k:Nat} {l:List Int} (h:LstN j W A k l) (ho:Only n m W W') (hn:j ≤ n):LstN j W' A k l :=
 ⟨Nat.le_trans h.le ho.size,Rep.keep h.dat (Keeps.of_block fun b (hb:b < j)=>ho.block b (Nat.lt_of_lt_of_le hb h.le) (fun e=>by omega))⟩
theorem OwnB.only {n m j q:Nat} {W W':World} {A:Option Addr} {k:Nat} {l:List Int} (h:OwnB j q W A k l) (ho:Only n m W W') (hn:m ≤ j ∨ q ≤ n):OwnB j q W' A k l :=
 ⟨Nat.le_trans h.le ho.size,Rep.keep h.dat (Keeps.of_block fun b (hb:j ≤ b∧b < q)=>ho.block b (Nat.lt_of_lt_of_le hb.2 h.le) (fun e=>by omega))⟩
set_option maxRecDepth 100000 in
set_option maxHeartbeats 8000000 in
theorem reverse_any (n m:Nat) (l:List Int) (A:Option Addr) (k:Nat) (w:World) (hO:OwnB n m w A k l) :
  Calls Tryz.prog 100 #[.slice A l.length k] w fun e w'=>(∃ v,e = .returned v)∧(∃ l',l'.length = l.length∧OwnB n m w' A k l')∧Only n m w w':=by
 obtain ⟨nb,nb'⟩:=slice_bnd hO.own
 have hlen:=hO.own.len
 have HO:=Lib.hid hO
 clear hO
 go_enter Tryz.func100,Tryz.ntmps100
 go_wp2_with fail
 go_loopg [2,3] l.length (fun gk i j wr=>∃ (c:Nat) (l':List Int),c + gk = l.length∧i = .int .i64 c∧j = .int .i64 ((l.length:Int) - 1 - (c:Int))∧l'.length = l.length∧OwnB n m wr A k l'∧Only n m w wr)
 case atStart=>exact ⟨0,l,by omega,rfl,by go_num,rfl,HO.out,Only.refl _ _ _⟩
 case round =>
  obtain ⟨c,l',hcg,rfl,rfl,hl,hB,hN⟩:=hrel
  obtain ⟨wb,rfl⟩:∃ wb,wb = wr:=⟨_,rfl⟩
  have HB:=Lib.hid (And.intro hB (And.intro hN (And.intro hl hcg)))
  clear hB hN hl
  by_cases hlt:(c:Int) < (l.length:Int) - 1 - (c:Int)
  ·obtain ⟨gk,rfl⟩:∃ g,gk = g + 1:=⟨gk - 1,by omega⟩
   obtain ⟨j,hj⟩:∃ j:Nat,(l.length:Int) - 1 - (c:Int) = (j:Int):=⟨l.length - 1 - c,by omega⟩
   have hj2:j < l.length:=by omega
   have hc2:c < l.length:=by omega
   have HJ:=Lib.hid hj
   rw [hj] at hlt ⊢
   clear hj hcg
   obtain ⟨y,hy⟩:∃ y,l'[c]? = some y:=⟨_,List.getElem?_eq_getElem (by have:=HB.out.2.2.1;omega)⟩
   obtain ⟨z,hz⟩:∃ z,l'[j]? = some z:=⟨_,List.getElem?_eq_getElem (by have:=HB.out.2.2.1;omega)⟩
   obtain ⟨y64,b,o,rfl,hb,ky,fy⟩:=HB.out.1.get hy
   obtain ⟨z64,-,kz,fz⟩:=HB.out.1.own.at hz
   have HZ:=Lib.hid (And.intro y64 (And.intro z64 hb))
   have hk0:(0:Int) ≤ (c:Int):=Int.natCast_nonneg _
   have hk1:(c:Int) < (l.length:Int):=by omega
   have hk2:(0:Int) ≤ (j:Int):=Int.natCast_nonneg _
   have hk3:(j:Int) < (l.length:Int):=by omega
   have hk4:¬ c = j:=by omega
   clear hy hz y64 z64 hb
   go_wp2_with fail
   go_big_region
   have h1:=HB.out.1.write (j:=c) (x:=z) (by have:=HB.out.2.2.1;omega) HZ.out.2.1
   have h2:=(h1.write (j:=j) (x:=y) (by rw [List.length_set];have:=HB.out.2.2.1;omega) HZ.out.1).next (Below.refl _ _).drew
   have h3:=((HB.out.2.1.setCell (p:=⟨b,o + c,none⟩) HZ.out.2.2 (.int .i64 z)).setCell (p:=⟨b,o + j,none⟩) HZ.out.2.2 (.int .i64 y)).drew
   have HQ:=Lib.hid (And.intro h2 h3)
   clear h1 h2 h3 ky fy kz fz
   go_wp2
   go_roundg gk
   case measure=>omega
   case rel=>exact ⟨c + 1,_,by have:=HB.out.2.2.2;omega,by go_num,by have:=HJ.out;simp;omega,by rw [List.length_set,List.length_set];exact HB.out.2.2.1,HQ.out.1,HQ.out.2⟩
  ·clear hcg
   go_wp2
   go_end0
   exact ⟨⟨_,rfl⟩,⟨l',HB.out.2.2.1,HB.out.1⟩,HB.out.2.1⟩
end Go.Proofs.YtilobeohkomeoaaGreat
set_option linter.unusedSimpArgs false
set_option linter.unusedVariables false
namespace Go.Proofs.YtilobeohkomeoaaGreat
open Go.RowKit
open Rep (rep)
set_option maxRecDepth 100000 in
set_option maxHeartbeats 8000000 in
theorem gemm_any (cs:List Value) (a:AskD) (w:World) (hr:rep w (old w.heap.size) cs a) :
  Calls Tryz.prog 77 #[.agg cs.toArray] w (ShP w P1):=by
 obtain ⟨ss,hs,hc⟩:=ask_set hr
 have HC:=Lib.hid (And.intro (hc 17 _ (fld_bool hs.f17)) (hc 18 _ (fld_bool hs.f18)))
 clear hs hc
 go_enter Tryz.func77,Tryz.ntmps77
 go_wp2_with (with_reducible refine wpList_box_row rfl 91 _ rfl cs rfl ?_;have hX:=ask_start hr;generalize World.alloc _ _ = W0 at hX ⊢;have HX:=Lib.hid hX;clear hX hr;refine halt ?_)
 unfold Halt
 go_wp2_with fail
 refine wp_region_held_drew (S:=fun W=>AskI w cs a W∧Below W0.heap.size W0 W) (by kernel_rfl) ⟨HX.out.next ((Below.refl _ _).drew),(Below.refl _ _).drew⟩ (fun hHeld=>?_)
 generalize World.drew _ = V2 at hHeld ⊢
 have hb:=hHeld.2
 clear hb
 refine tk9 0 (some 8) (v:=.agg cs.toArray) rfl (yields_ask (by kernel_rfl) _ rfl (by kernel_rfl) (fun _ h=>h.1)) hHeld ?_
 refine tk9 3 (some 11) (v:=.agg cs.toArray) rfl (yields_ask (by kernel_rfl) _ rfl (by kernel_rfl) (fun _ h=>h.1)) hHeld ?_
 refine call_d9 1 (some 9) rfl (by kernel_rfl) (by kernel_rfl) (by kernel_rfl) 70 _ _ rfl #[.agg cs.toArray,.int .i64 0] (by kernel_rfl) (fun w=>by kernel_rfl) ?_
 refine (askDims' cs a 0 w.heap.size _ hHeld.1.below.size hHeld.1.arg0).mono ?_
 rintro e V3 ⟨A0,k0,rfl,h0,hb⟩
 have L0:=Lib.hid (lst_n hHeld.1 hb h0)
 obtain ⟨b0,b0'⟩:=slice_bnd h0
 clear h0
 replace hHeld:=held_next hHeld hb
 refine ⟨_,rfl,hHeld,?_⟩
 clear hb
 have Z1:=hHeld.1.lt
 refine call_d9 2 (some 10) rfl (by kernel_rfl) (by kernel_rfl) (by kernel_rfl) 22 _ _ rfl #[.slice A0 (a.dims 0).length k0] (by kernel_rfl) (fun w=>by kernel_rfl) ?_
 refine (clone_ints (a.dims 0) _ _ L0.out.lst).mono ?_
 rintro e V4 ⟨v,rfl,hv,hb⟩
 obtain ⟨Ax,kx,rfl,hx⟩:=own_of hv
 clear hv
 replace L0:=Lib.hid (L0.out.next hb)
 have Lx:=Lib.hid hx.bnd
 obtain ⟨bx,bx'⟩:=slice_bnd hx
 clear hx
 replace hHeld:=held_next hHeld hb
 refine ⟨_,rfl,hHeld,?_⟩
 clear hb
 refine call_d9 4 (some 12) rfl (by kernel_rfl) (by kernel_rfl) (by kernel_rfl) 70 _ _ rfl #[.agg cs.toArray,.int .i64 1] (by kernel_rfl) (fun w=>by kernel_rfl) ?_
 refine (askDims' cs a 1 w.heap.size _ hHeld.1.below.size hHeld.1.arg0).mono ?_
 rintro e V5 ⟨A1,k1,rfl,h1,hb⟩
 replace L0:=Lib.hid (L0.out.next hb)
 replace Lx:=Lib.hid (Lx.out.next hb)
 have L1:=Lib.hid (lst_n hHeld.1 hb h1)
 obtain ⟨b1,b1'⟩:=slice_bnd h1
 clear h1
 replace hHeld:=held_next hHeld hb
 refine ⟨_,rfl,hHeld,?_⟩
 clear hb
 have Z3:=hHeld.1.lt
 have Z2:V4.heap.size ≤ V5.heap.size:=(Lx.out.le)
 refine call_d9 5 (some 13) rfl (by kernel_rfl) (by kernel_rfl) (by kernel_rfl) 22 _ _ rfl #[.slice A1 (a.dims 1).length k1] (by kernel_rfl) (fun w=>by kernel_rfl) ?_
 refine (clone_ints (a.dims 1) _ _ L1.out.lst).mono ?_
 rintro e V6 ⟨v,rfl,hv,hb⟩
 obtain ⟨Ay,ky,rfl,hy⟩:=own_of hv
 clear hv
 replace L0:=Lib.hid (L0.out.next hb)
 replace Lx:=Lib.hid (Lx.out.next hb)
 replace L1:=Lib.hid (L1.out.next hb)
 have Ly:=Lib.hid hy.bnd
 obtain ⟨by1,by1'⟩:=slice_bnd hy
 clear hy
 replace hHeld:=held_next hHeld hb
 refine ⟨_,rfl,hHeld,?_⟩
 clear hb
 refine tk0 6 (some 4) (v:=.slice Ax (a.dims 0).length kx) rfl hHeld ?_
 refine tk0 7 (some 5) (v:=.slice Ay (a.dims 1).length ky) rfl hHeld ?_
 refine wpAnyH_done (by kernel_rfl) ?_ _
 replace HX:=Lib.hid hHeld.1
 clear hHeld
 have ZZ:=Lib.hid (And.intro Z1 (And.intro Z2 Z3))
 clear Z1 Z2 Z3 L0 b0 b0' L1 b1 b1'
 generalize a.dims 0 = x at Lx bx ⊢
 generalize a.dims 1 = y at Ly by1 ⊢
 by_cases hx:x.length = 2
 ·by_cases hy:y.length = 2
  ·rw [hx] at bx ⊢
   rw [hy] at by1 ⊢
   have H2:=Lib.hid (And.intro hx hy)
   clear hx hy
   have hta:=HX.out.cell HC.out.1
   generalize a.s.transA = ta at hta
   go_upto_if 27 with (fail)
   clear hta
   go_cut [] from 28 to 29 (fun wx=>∃ x y:List Int,x.length = 2∧y.length = 2∧OwnB V3.heap.size V4.heap.size wx Ax kx x∧OwnB V5.heap.size V6.heap.size wx Ay ky y∧AskI w cs a wx)
   case first =>
    cases ta with
    | false =>
     go_wp2
     go_meet
     exact ⟨x,y,H2.out.1,H2.out.2,Lx.out,Ly.out,HX.out⟩
    | true =>
     have hq:=reverse_any _ _ x Ax kx _ Lx.out
     rw [H2.out.1] at hq
     go_wp2_with fail
     refine hq.mono ?_
     clear hq
     rintro e w7 ⟨⟨v,rfl⟩,⟨x',hx',hO⟩,hN⟩
     have HN:=Lib.hid (And.intro hx' (And.intro hO hN))
     clear hx' hO hN
     go_wp2
     go_meet
     exact ⟨x',y,HN.out.1,H2.out.2,HN.out.2.1,Ly.out.only HN.out.2.2 (.inl ZZ.out.2.1),HX.out.only HN.out.2.2 ZZ.out.1⟩
   case rest =>
    obtain ⟨x',y',hx',hy',hO,hP,hA⟩:=hcut
    clear HX Lx Ly H2 x y
    rename_i bx0 by0
    have HX:=Lib.hid hA
    have Lx:=Lib.hid hO
    have Ly:=Lib.hid hP
    have H2:=Lib.hid (And.intro hx' hy')
    clear hA hO hP hx' hy'
    have hta:=HX.out.cell HC.out.2
    generalize a.s.transB = tb at hta
    go_upto_if 32 with (fail)
    clear hta
    go_cut [] from 33 to 34 (fun wx=>∃ x y:List Int,x.length = 2∧y.length = 2∧OwnB V3.heap.size V4.heap.size wx Ax kx x∧OwnB V5.heap.size V6.heap.size wx Ay ky y∧AskI w cs a wx)
    case first =>
     cases tb with
     | false =>
      go_wp2
      go_meet
      exact ⟨x',y',H2.out.1,H2.out.2,Lx.out,Ly.out,HX.out⟩
     | true =>
      have hq:=reverse_any _ _ y' Ay ky _ Ly.out
      rw [H2.out.2] at hq
      go_wp2_with fail
      refine hq.mono ?_
      clear hq
      rintro e w7 ⟨⟨v,rfl⟩,⟨y2,hy2,hO⟩,hN⟩
      have HN:=Lib.hid (And.intro hy2 (And.intro hO hN))
      clear hy2 hO hN
      go_wp2
      go_meet
      exact ⟨x',y2,H2.out.1,HN.out.1,Lx.out.only HN.out.2.2 (.inr ZZ.out.2.1),HN.out.2.1,HX.out.only HN.out.2.2 ZZ.out.2.2⟩
    case rest =>
     obtain ⟨x2,y2,hx2,hy2,hO,hP,hA⟩:=hcut
     clear HX Lx Ly H2
     have HX:=Lib.hid hA
     have Lx:=Lib.hid hO
     have Ly:=Lib.hid hP
     clear hA hO hP
     obtain ⟨p0,p1,rfl⟩:=two_of hx2
     obtain ⟨q0,q1,rfl⟩:=two_of hy2
     clear hx2 hy2
     obtain ⟨i0,bb,ob,rfl,-,u0,-⟩:=Lx.out.get (j:=0) rfl
     obtain ⟨i1,-,u1,-⟩:=Lx.out.own.at (j:=1) rfl
     obtain ⟨j0,bc,oc,rfl,-,v0,-⟩:=Ly.out.get (j:=0) rfl
     obtain ⟨j1,-,v1,-⟩:=Ly.out.own.at (j:=1) rfl
     have lb:bb < wc.heap.size:=(int_at (j:=0) Lx.out.own.rep rfl).2.elim fun b h=>h.elim fun o h=>by obtain ⟨e,h,-⟩:=h;injection e with e;injection e with e1 e2;rw [e1];exact h
     have lc:bc < wc.heap.size:=(int_at (j:=0) Ly.out.own.rep rfl).2.elim fun b h=>h.elim fun o h=>by obtain ⟨e,h,-⟩:=h;injection e with e;injection e with e1 e2;rw [e1];exact h
     have HU:=Lib.hid (And.intro u0 (And.intro u1 (And.intro v0 (And.intro v1 (And.intro lb lc)))))
     have HI:=Lib.hid (And.intro i0 j1)
     clear u0 v1 lb lc i0 i1 j0 j1
     simp only [Nat.add_zero] at v0
     by_cases hm:p1 = q0
     ·subst hm
      go_wp2_with fail
      go_quiet (fail)
      have hbb:∀ m,Below wc.heap.size wc (wc.drewN m):=fun m=>below_drews (Below.refl _ _) m
      generalize hV:World.drewN wc _ = V59
      have hb:Below wc.heap.size wc V59:=hV ▸ hbb _
      clear hV hbb u1 v0
      replace HX:=Lib.hid (HX.out.next hb)
      have HB59:=Lib.hid hb
      clear hb
      go_wp2_with fail
      refine wp_region_held_drew (S:=fun W=>AskI w cs a W∧Below V59.heap.size V59 W) (by kernel_rfl) ⟨HX.out.next ((Below.refl _ _).drew),(Below.refl _ _).drew⟩ (fun hHeld=>?_)
      generalize World.drew _ = V61 at hHeld ⊢
      have hb:=hHeld.2
      clear hb
      refine tk0 0 (some 45) (v:=.slice (some ⟨bb,ob,none⟩) 2 kx) rfl hHeld ?_
      refine tk9 1 (some 46) (v:=.pointer (some ⟨bb,ob + 0,none⟩)) rfl (yields_idx (by kernel_rfl) _ _ rfl bb ob (2) kx 0 (by kernel_rfl) (by kernel_rfl) (by omega)) hHeld ?_
      refine tk9 2 (some 47) (v:=.int .i64 p0) rfl (yields_load_one9 (by kernel_rfl) _ _ rfl bb (ob + 0) (by kernel_rfl) _ _ Tryz.underlying3 rfl (fun _ h=>(h.2.cell (p:=⟨bb,ob + 0,none⟩) (Nat.lt_of_lt_of_le HU.out.2.2.2.2.1 HB59.out.size)).trans ((HB59.out.cell (p:=⟨bb,ob + 0,none⟩) HU.out.2.2.2.2.1).trans HU.out.1))) hHeld ?_
      refine tk0 3 (some 48) (v:=.slice (some ⟨bc,oc,none⟩) 2 ky) rfl hHeld ?_
      refine tk9 4 (some 49) (v:=.pointer (some ⟨bc,oc + 1,none⟩)) rfl (yields_idx (by kernel_rfl) _ _ rfl bc oc (2) ky 1 (by kernel_rfl) (by kernel_rfl) (by omega)) hHeld ?_
      refine tk9 5 (some 50) (v:=.int .i64 q1) rfl (yields_load_one9 (by kernel_rfl) _ _ rfl bc (oc + 1) (by kernel_rfl) _ _ Tryz.underlying3 rfl (fun _ h=>(h.2.cell (p:=⟨bc,oc + 1,none⟩) (Nat.lt_of_lt_of_le HU.out.2.2.2.2.2 HB59.out.size)).trans ((HB59.out.cell (p:=⟨bc,oc + 1,none⟩) HU.out.2.2.2.2.2).trans HU.out.2.2.2.1))) hHeld ?_
      refine oneLay 6 (some 51) rfl rfl (by kernel_rfl) (by kernel_rfl) (.slice (some ⟨V61.heap.size,0,none⟩) 2 2) [.cells #[.int .i64 p0,.int .i64 q1] 3] (by kernel_rfl) (held_next hHeld ((Below.refl _ _).alloc (Nat.le_refl _) _)) ?_
      have LD:Hid (Lst (V61.alloc (.cells #[.int .i64 p0,.int .i64 q1] 3)) (some ⟨V61.heap.size,0,none⟩) 2 [p0,q1]):=Lib.hid (lst_new V61 [p0,q1] 3 (by intro y hy;simp only [List.mem_cons,List.not_mem_nil,or_false] at hy;rcases hy with rfl | rfl <;> first | exact HI.out.1 | exact HI.out.2) (by simp))
      replace hHeld:=held_next hHeld ((Below.refl V61.heap.size V61).alloc (Nat.le_refl _) (.cells #[.int .i64 p0,.int .i64 q1] 3))
      refine tk0 7 (some 6) (v:=.slice (some ⟨V61.heap.size,0,none⟩) 2 2) rfl hHeld ?_
      refine wpAnyH_done (by kernel_rfl) ?_ _
      replace HX:=Lib.hid hHeld.1
      clear hHeld
      rw [show lays V61 [.cells #[.int .i64 p0,.int .i64 q1] 3] = V61.alloc (.cells #[.int .i64 p0,.int .i64 q1] 3) from rfl]
      generalize V61.alloc _ = V70 at HX LD ⊢
      simp [Act.put]
      go_wp2_with (with_reducible refine wpList_load_agg rfl 91 _ rfl _ _ _ rfl cs Tryz.underlying91 rfl HX.out.size HX.out.at ?_)
      refine (askHas cs a 2 _ HX.out.arg).mono ?_
      rintro e V62 ⟨rfl,hb⟩
      replace LD:=Lib.hid (LD.out.next hb)
      replace HX:=Lib.hid (HX.out.next hb)
      clear hb
      cases a.has 2 with
      | false =>
       go_wp2_with fail
       refine (one_any [p0,q1] (some ⟨V61.heap.size,0,none⟩) 2 _ LD.out).mono ?_
       rintro e w8 ⟨D,j,x,ll,rfl,hx,hb,hl,rfl,rfl⟩
       have HD:=Lib.hid (And.intro (HX.out.trans hb) hl)
       clear hx hb hl
       go_wp2
       go_ret2
       exact ⟨D,j,0,_,rfl,by unfold I64;omega,HD.out.1,HD.out.2,fun _=>rfl⟩
      | true =>
       go_wp2_with (with_reducible refine wpList_load_agg rfl 91 _ rfl _ _ _ rfl cs Tryz.underlying91 rfl HX.out.size HX.out.at ?_)
       refine (askDims' cs a 2 w.heap.size _ HX.out.below.size HX.out.arg0).mono ?_
       rintro e V63 ⟨A2,k2,rfl,h2,hb⟩
       replace LD:=Lib.hid (LD.out.next hb)
       have L2:=Lib.hid (lst_n HX.out hb h2)
       obtain ⟨b2,b2'⟩:=slice_bnd h2
       clear h2
       replace HX:=Lib.hid (HX.out.next hb)
       clear hb
       go_wp2_with fail
       refine (within_any (a.dims 2) [p0,q1] A2 (some ⟨V61.heap.size,0,none⟩) k2 2 _ L2.out.lst LD.out).mono ?_
       rintro e w7 ⟨x,rfl,hx,hb⟩
       replace LD:=Lib.hid (LD.out.next hb)
       replace HX:=Lib.hid (HX.out.next hb)
       have HXI:=Lib.hid hx
       clear hb hx
       by_cases hx0:x = 0
       ·subst hx0
        go_wp2_with fail
        refine (one_any [p0,q1] (some ⟨V61.heap.size,0,none⟩) 2 _ LD.out).mono ?_
        rintro e w8 ⟨D,j,x,ll,rfl,hx,hb,hl,rfl,rfl⟩
        have HD:=Lib.hid (And.intro (HX.out.trans hb) hl)
        clear hx hb hl
        go_wp2
        go_ret2
        exact ⟨D,j,0,_,rfl,by unfold I64;omega,HD.out.1,HD.out.2,fun _=>rfl⟩
       ·have hx0':(x != 0) = true:=by simpa using hx0
        have HN0:=Lib.hid hx0
        go_wp2
        go_ret2
        exact sh_bad HX.out.below HXI.out (fun e=>absurd e HN0.out)
     ·have hm':(p1 != q0) = true:=by simpa using hm
      go_wp2_with fail
      go_quiet (fail)
      go_wp2_with fail
      refine (misfit_any _).mono ?_
      rintro e w9 ⟨rfl,rfl⟩
      go_wp2
      go_ret2
      exact sh_misfit (HX.out.next (below_drews (Below.refl _ _) _)).below
  ·have hx':((x.length:Int) != 2) = false:=by simp;omega
   have hy':((y.length:Int) != 2) = true:=by simp;omega
   clear hx hy
   go_wp2_with fail
   refine (misfit_any _).mono ?_
   rintro e w9 ⟨rfl,rfl⟩
   go_wp2
   go_ret2
   exact sh_misfit HX.out.below
 ·have hx':((x.length:Int) != 2) = true:=by simp;omega
  clear hx
  go_wp2_with fail
  refine (misfit_any _).mono ?_
  rintro e w9 ⟨rfl,rfl⟩
  go_wp2
  go_ret2
  exact sh_misfit HX.out.below
end Go.Proofs.YtilobeohkomeoaaGreat
