/-
  Chapter 10: Transpose and Gather; data movement. No condition.
-/
import Derived.Test.YtilobeohkomeoaaGreatQInfW
import Derived.Test.YtilobeohkomeoaaGreatQInfU
set_option linter.unusedSimpArgs false
set_option linter.unusedVariables false
namespace Go.Proofs.YtilobeohkomeoaaGreat
open Go.RowKit
open Rep (rep)
theorem yields_postA {ops:Array Oper} {S:World→Prop} {o:Oper} {a:Act} (hw:Region.wanted o (yielded ops a.tmps) = true) (x y:Operand) (ho:o.op = .slice 24 x (some y) none none) (b f n c j q:Nat) (hx:a.eval x = .slice (some ⟨b,f,none⟩) n c) (hy:a.eval y = .int .i64 (j:Int)) (hj:j ≤ n) (hnc:n ≤ c) (hq:q = if c - j = 0 then 0 else j):YieldsIf Tryz.prog ops S o (.slice (some ⟨b,f + q,none⟩) (n - j) (c - j)) a:=by
 by_cases hc:c - j = 0
 ·rw [if_pos hc] at hq
  subst hq
  refine .inl ⟨hw,fun w h=>?_⟩
  have h0:(0:Int) ≤ (j:Int):=Int.natCast_nonneg _
  have h1:(j:Int) ≤ (n:Int):=by omega
  have h2:(n:Int) ≤ (c:Int):=by omega
  unfold execOp
  simp only [ho,hx,hy,Option.map]
  go_simp
  intro e
  omega
 ·rw [if_neg hc] at hq
  subst hq
  exact yields_post hw x y ho b f n c q hx hy hj hnc hc
theorem lst_postA {W:World} {b o k j q:Nat} {l:List Int} (h:Lst W (some ⟨b,o,none⟩) k l) (hj:j ≤ l.length) (hq:q = if k - j = 0 then 0 else j):Lst W (some ⟨b,o + q,none⟩) (k - j) (l.drop j):=by
 obtain ⟨hk,hk'⟩:=slice_bnd h
 by_cases hc:k - j = 0
 ·exact rep_gone (List.drop_eq_nil_of_le (by omega)) (by unfold maxLen;omega)
 ·rw [if_neg hc] at hq
  subst hq
  exact lst_post h hj
set_option maxRecDepth 100000 in
set_option maxHeartbeats 8000000 in
theorem moved_45 (cs:List Value) (a:AskD) (w:World) (hr:rep w (old w.heap.size) cs a) (hok:a.Ok) (hop:a.op = 45) :
  Calls Tryz.prog 74 #[.agg cs.toArray] w (ShP w P1):=by
 obtain ⟨ss,hs,hc⟩:=ask_set hr
 obtain ⟨Ap,kp,s1,r1⟩:=fld_list hs.f7
 have HC:=Lib.hid (And.intro (show LstN w.heap.size w Ap kp a.s.perm from ⟨Nat.le_refl _,r1⟩) (And.intro (hc 7 _ s1) (hc 8 _ (fld_bool hs.f8))))
 have HP:=Lib.hid (hok.perm hop)
 obtain ⟨pb,pb'⟩:=slice_bnd r1
 clear hs hc s1 r1
 have HO:=Lib.hid (And.intro (ask_op hr).1 hok)
 go_enter Tryz.func74,Tryz.ntmps74
 go_wp2_with (with_reducible refine wpList_box_row rfl 91 _ rfl cs rfl ?_;have hX:=ask_start hr;generalize World.alloc _ _ = W0 at hX ⊢;have HX:=Lib.hid hX;clear hX hr;refine halt ?_)
 unfold Halt
 go_wp2_with (with_reducible refine wpList_load_agg rfl 91 _ rfl _ _ _ rfl cs Tryz.underlying91 rfl HX.out.size HX.out.at ?_)
 refine (askDims' cs a 0 w.heap.size _ HX.out.below.size HX.out.arg0).mono ?_
 rintro e V2 ⟨A0,k0,rfl,h0,hb⟩
 have L0:=Lib.hid (lst_n HX.out hb h0)
 obtain ⟨b0,b0'⟩:=slice_bnd h0
 clear h0
 replace HX:=Lib.hid (HX.out.next hb)
 clear hb
 have hc0:=HX.out.cell HO.out.1
 rw [hop] at hc0
 go_wp2_with fail
 clear hc0
 generalize a.dims 0 = d at L0 b0 HP ⊢
 refine (clone_own d _ _ L0.out.lst).mono ?_
 rintro e V3 ⟨Ao,ko,rfl,hO,hb⟩
 have hOB:OwnB V2.heap.size V3.heap.size V3 Ao ko d:=hO.own.bnd
 have HB:=Lib.hid (And.intro hOB (And.intro HX.out.lt L0.out.le))
 replace L0:=Lib.hid (L0.out.next hb)
 replace HX:=Lib.hid (HX.out.next hb)
 clear hb hO hOB
 generalize V2.heap.size = n at HB
 generalize V3.heap.size = m at HB
 go_wp2_with fail
 refine (reverse_any n m d Ao ko _ HB.out.1).mono ?_
 rintro e V4 ⟨⟨vv,rfl⟩,⟨l0,hl0,hB0⟩,hN⟩
 replace L0:=Lib.hid (L0.out.only hN HB.out.2.2)
 replace HX:=Lib.hid (HX.out.only hN HB.out.2.1)
 replace HB:=Lib.hid (And.intro hB0 (And.intro HB.out.2.1 (And.intro HB.out.2.2 hl0)))
 have LP:=Lib.hid (HC.out.1.next HX.out.below)
 have cp:=HX.out.cell HC.out.2.1
 rw [← hl0]
 clear hB0 hN hl0
 go_wp2_with fail
 clear cp
 go_loopw [23] (fun i wr=>∃ (c:Nat) (l':List Int),i = .int .i64 (c:Int)∧c ≤ a.s.perm.length∧AskI w cs a wr∧LstN w.heap.size wr A0 k0 d∧LstN w.heap.size wr Ap kp a.s.perm∧OwnB n m wr Ao ko l'∧l'.length = l0.length) (fun i _=>a.s.perm.length - (intOf i).toNat)
 case atStart=>exact ⟨0,l0,rfl,by omega,HX.out,L0.out,LP.out,HB.out.1,rfl⟩
 case round =>
  obtain ⟨c,l',rfl,hc,hA,hL,hP,hOB,hlen⟩:=hrel
  obtain ⟨wb,rfl⟩:∃ wb,wb = wr:=⟨_,rfl⟩
  have HA:=Lib.hid hA
  have LA:=Lib.hid hL
  have LQ:=Lib.hid hP
  have HQ:=Lib.hid (And.intro hOB (And.intro hlen (And.intro HB.out.2.1 HB.out.2.2)))
  clear hA hL hP hOB hlen
  by_cases hlt:c < a.s.perm.length
  ·have hlt':(c:Int) < (a.s.perm.length:Int):=by omega
   obtain ⟨z,hz⟩:∃ z,a.s.perm[c]? = some z:=⟨_,List.getElem?_eq_getElem hlt⟩
   obtain ⟨-,bp,op,rfl,-,kz⟩:=LQ.out.get hz
   have ch:=HA.out.cell HC.out.2.2
   have HZ:=Lib.hid hz
   clear hz
   cases hh:a.s.hasPerm with
   | false =>
    rw [hh] at ch
    have hk0:(0:Int) ≤ (c:Int):=Int.natCast_nonneg _
    go_wp2
    go_roundw
    case rel=>exact ⟨c + 1,l',by go_num,by omega,HA.out,LA.out,LQ.out,HQ.out.1,HQ.out.2.1⟩
    case measure=>simp [intOf];omega
   | true =>
    obtain ⟨hp1,hp2⟩:=HP.out hh
    obtain ⟨hz0,hz1⟩:=hp2 z (List.mem_of_getElem? HZ.out)
    obtain ⟨j,rfl⟩:∃ j:Nat,z = (j:Int):=⟨z.toNat,by omega⟩
    have hj:j < d.length:=by omega
    have hcl:c < l0.length:=by have:=HB.out.2.2.2;omega
    obtain ⟨y,hy⟩:∃ y,d[j]? = some y:=⟨_,List.getElem?_eq_getElem hj⟩
    obtain ⟨y64,bd,od,rfl,-,ky⟩:=LA.out.get hy
    obtain ⟨x,hx⟩:∃ x,l'[c]? = some x:=⟨_,List.getElem?_eq_getElem (by have:=HQ.out.2.1;omega)⟩
    obtain ⟨-,bo,oo,rfl,hbo,kx,fx⟩:=HQ.out.1.get hx
    have HY:=Lib.hid (And.intro y64 hbo)
    rw [hh] at ch
    have hk0:(0:Int) ≤ (c:Int):=Int.natCast_nonneg _
    have hk1:(c:Int) < (l0.length:Int):=by omega
    have hk2:(0:Int) ≤ (j:Int):=Int.natCast_nonneg _
    have hk3:(j:Int) < (l0.length:Int):=by have:=HB.out.2.2.2;omega
    clear hp1 hp2 hz0 hz1 hy y64 hx hbo
    go_wp2_with fail
    have ha:=HA.out.set (p:=⟨bo,oo + c,none⟩) (show w.heap.size < bo by have:=HQ.out.2.2.1;have:=HY.out.2;omega) (.int .i64 y)
    have hl:=LA.out.set (p:=⟨bo,oo + c,none⟩) (show w.heap.size ≤ bo by have:=HQ.out.2.2.1;have:=HY.out.2;omega) (.int .i64 y)
    have hq:=LQ.out.set (p:=⟨bo,oo + c,none⟩) (show w.heap.size ≤ bo by have:=HQ.out.2.2.1;have:=HY.out.2;omega) (.int .i64 y)
    have ho:=HQ.out.1.write (j:=c) (x:=y) (by have:=HQ.out.2.1;omega) HY.out.1
    have HF:=Lib.hid (And.intro ha (And.intro hl (And.intro hq ho)))
    clear ha hl hq ho ky kz kx fx ch
    generalize World.setCell _ _ _ = V9 at HF ⊢
    go_wp2
    go_roundw
    case rel=>exact ⟨c + 1,l'.set c y,by go_num,by omega,HF.out.1,HF.out.2.1,HF.out.2.2.1,HF.out.2.2.2,by rw [List.length_set];exact HQ.out.2.1⟩
    case measure=>simp [intOf];omega
  ·have hlt':¬ (c:Int) < (a.s.perm.length:Int):=by omega
   have hq:=one_any l' Ao ko wb HQ.out.1.own.lst
   rw [HQ.out.2.1] at hq
   have HH:=Lib.hid hq
   clear hq
   go_wp2_with fail
   refine HH.out.mono ?_
   clear HH
   rintro e w8 ⟨D,jj,x,ll,rfl,hx,hb,hl,rfl,rfl⟩
   have HD:=Lib.hid (And.intro (HA.out.trans hb) hl)
   clear hx hb hl
   go_wp2
   go_ret2
   exact ⟨D,jj,0,_,rfl,by unfold I64;omega,HD.out.1,HD.out.2,fun _=>rfl⟩
set_option maxRecDepth 100000 in
set_option maxHeartbeats 8000000 in
theorem moved_50 (cs:List Value) (a:AskD) (w:World) (hr:rep w (old w.heap.size) cs a) (hok:a.Ok) (hop:a.op = 50) :
  Calls Tryz.prog 74 #[.agg cs.toArray] w (ShP w P1):=by
 have hax:=hok.axis (by omega)
 obtain ⟨x0,x1⟩:=axis_ok hax
 obtain ⟨kx,hkx,hkl⟩:∃ k:Nat,(axisD a.s.axis ((a.dims 0).length:Int)).1 = (k:Int)∧k < (a.dims 0).length:=⟨(axisD a.s.axis ((a.dims 0).length:Int)).1.toNat,by omega,by omega⟩
 have hd8:=size_len hok.size
 have hd9:=size_len (hok.two hop)
 have HK:=Lib.hid hkx
 clear hax x0 x1 hkx
 have HO:=Lib.hid (And.intro (ask_op hr).1 hok)
 go_enter Tryz.func74,Tryz.ntmps74
 go_wp2_with (with_reducible refine wpList_box_row rfl 91 _ rfl cs rfl ?_;have hX:=ask_start hr;generalize World.alloc _ _ = W0 at hX ⊢;have HX:=Lib.hid hX;clear hX hr;refine halt ?_)
 unfold Halt
 go_wp2_with (with_reducible refine wpList_load_agg rfl 91 _ rfl _ _ _ rfl cs Tryz.underlying91 rfl HX.out.size HX.out.at ?_)
 refine (askDims' cs a 0 w.heap.size _ HX.out.below.size HX.out.arg0).mono ?_
 rintro e V2 ⟨A0,k0,rfl,h0,hb⟩
 have L0:=Lib.hid (lst_n HX.out hb h0)
 obtain ⟨b0,b0'⟩:=slice_bnd h0
 clear h0
 replace HX:=Lib.hid (HX.out.next hb)
 clear hb
 have hc0:=HX.out.cell HO.out.1
 rw [hop] at hc0
 go_wp2_with (with_reducible refine wpList_load_agg rfl 91 _ rfl _ _ _ rfl cs Tryz.underlying91 rfl HX.out.size HX.out.at ?_)
 refine (axisK_any cs a _ HX.out.arg).mono ?_
 rintro e V3 ⟨rfl,hb⟩
 rw [HK.out]
 replace L0:=Lib.hid (L0.out.next hb)
 replace HX:=Lib.hid (HX.out.next hb)
 clear hb
 generalize a.dims 0 = d at L0 b0 hkl hd8 ⊢
 obtain ⟨z,hz⟩:∃ z,d[0]? = some z:=⟨_,List.getElem?_eq_getElem (by omega)⟩
 obtain ⟨-,b2,o2,rfl,-,-⟩:=L0.out.get hz
 clear hz
 obtain ⟨q,hq⟩:∃ q,q = if k0 - (kx + 1) = 0 then 0 else kx + 1:=⟨_,rfl⟩
 have HQ:=Lib.hid hq
 clear hq
 have HE:Hid (∀ W B kb g t,Lst W (some ⟨b2,o2,none⟩) k0 d→Lst W B kb (a.dims 1)→W.heap[g]? = some (.cells #[.slice (some ⟨b2,o2,none⟩) kx k0,.slice B (a.dims 1).length kb,.slice (some ⟨b2,o2 + q,none⟩) (d.length - (kx + 1)) (k0 - (kx + 1))] t (0,0))→Calls Tryz.prog 106 #[.slice (some ⟨g,0,none⟩) 3 3] W fun e w'=>∃ A' k' out,e = .returned (.slice A' out.length k')∧Own w' W.heap.size A' k' out∧Below W.heap.size W w'):=Lib.hid (fun W B kb g t h1 h2 h3=>by
  have e1:(d.take kx).length = kx:=by rw [List.length_take];omega
  have e2:(d.drop (kx + 1)).length = d.length - (kx + 1):=List.length_drop
  have g1:Lst W (some ⟨b2,o2,none⟩) k0 (d.take kx):=rep_pre h1 (by omega)
  have g2:=lst_postA h1 (j:=kx + 1) (by omega) HQ.out
  exact ccat_any [d.take kx,a.dims 1,d.drop (kx + 1)] (some ⟨g,0,none⟩) 3 W (lists_three (t:=t) (by rw [e1,e2];exact h3) g1 h2 g2) (Nat.le_refl _) (by omega) (by unfold Sum;simp;omega) (by simp))
 go_wp2_with fail
 refine wp_region_held_drew (S:=fun W=>AskI w cs a W∧Below V3.heap.size V3 W) (by kernel_rfl) ⟨HX.out.next ((Below.refl _ _).drew),(Below.refl _ _).drew⟩ (fun hHeld=>?_)
 generalize World.drew _ = V4 at hHeld ⊢
 have hb:=hHeld.2
 replace L0:=Lib.hid (L0.out.next hb)
 clear hb
 refine tk0 0 (some 71) (v:=.slice (some ⟨b2,o2,none⟩) d.length k0) rfl hHeld ?_
 refine tk0 1 (some 72) (v:=.int .i64 (kx:Int)) rfl hHeld ?_
 refine tk9 2 (some 73) (v:=.slice (some ⟨b2,o2,none⟩) kx k0) rfl (yields_pre (by kernel_rfl) _ _ rfl b2 o2 d.length k0 kx (by kernel_rfl) (by kernel_rfl) (by omega) (by omega)) hHeld ?_
 refine tk9 3 (some 74) (v:=.agg cs.toArray) rfl (yields_ask (by kernel_rfl) _ rfl (by kernel_rfl) (fun _ h=>h.1)) hHeld ?_
 refine tk0 5 (some 76) (v:=.slice (some ⟨b2,o2,none⟩) d.length k0) rfl hHeld ?_
 refine tk0 6 (some 77) (v:=.int .i64 (kx:Int)) rfl hHeld ?_
 refine tk9 7 (some 78) (v:=.int .i64 ((kx:Int) + 1)) rfl (yields_addI (by kernel_rfl) _ _ _ _ rfl (kx:Int) 1 (by kernel_rfl) (by kernel_rfl) (by kernel_rfl) (by omega) (by omega) (by omega)) hHeld ?_
 refine tk9 8 (some 79) (v:=.slice (some ⟨b2,o2 + q,none⟩) (d.length - (kx + 1)) (k0 - (kx + 1))) rfl (yields_postA (by kernel_rfl) _ _ rfl b2 o2 d.length k0 (kx + 1) q (by kernel_rfl) (by kernel_rfl) (by omega) (by omega) HQ.out) hHeld ?_
 refine call_d9 4 (some 75) rfl (by kernel_rfl) (by kernel_rfl) (by kernel_rfl) 70 _ _ rfl #[.agg cs.toArray,.int .i64 1] (by kernel_rfl) (fun w=>by kernel_rfl) ?_
 refine (askDims' cs a 1 w.heap.size _ hHeld.1.below.size hHeld.1.arg0).mono ?_
 rintro e V5 ⟨A1,k1,rfl,h1,hb⟩
 replace L0:=Lib.hid (L0.out.next hb)
 have L1:=Lib.hid (lst_n hHeld.1 hb h1)
 obtain ⟨b1,b1'⟩:=slice_bnd h1
 clear h1
 replace hHeld:=held_next hHeld hb
 refine ⟨_,rfl,hHeld,?_⟩
 clear hb
 refine oneLay 9 (some 80) rfl rfl (by kernel_rfl) (by kernel_rfl) (.slice (some ⟨V5.heap.size,0,none⟩) 3 3) [.cells #[.slice (some ⟨b2,o2,none⟩) kx k0,.slice A1 (a.dims 1).length k1,.slice (some ⟨b2,o2 + q,none⟩) (d.length - (kx + 1)) (k0 - (kx + 1))] 24] (by kernel_rfl) (held_next hHeld ((Below.refl _ _).alloc (Nat.le_refl _) _)) ?_
 have hbA:=(Below.refl V5.heap.size V5).alloc (Nat.le_refl _) (.cells #[.slice (some ⟨b2,o2,none⟩) kx k0,.slice A1 (a.dims 1).length k1,.slice (some ⟨b2,o2 + q,none⟩) (d.length - (kx + 1)) (k0 - (kx + 1))] 24)
 have hgA:=heap_alloc_new V5 (.cells #[.slice (some ⟨b2,o2,none⟩) kx k0,.slice A1 (a.dims 1).length k1,.slice (some ⟨b2,o2 + q,none⟩) (d.length - (kx + 1)) (k0 - (kx + 1))] 24)
 replace hHeld:=held_next hHeld hbA
 replace L0:=Lib.hid (L0.out.next hbA)
 replace L1:=Lib.hid (L1.out.next hbA)
 generalize hqA:V5.heap.size = g at hgA ⊢
 clear hqA hbA
 have hgA:=Lib.hid hgA
 refine call_d9 10 (some 81) rfl (by kernel_rfl) (by kernel_rfl) (by kernel_rfl) 106 _ _ rfl #[.slice (some ⟨g,0,none⟩) 3 3] (by kernel_rfl) (fun w=>by kernel_rfl) ?_
 refine (HE.out _ A1 k1 g 24 L0.out.lst L1.out.lst hgA.out).mono ?_
 rintro e V7 ⟨Ac,kc,lc,rfl,hC,hb⟩
 have HC:=Lib.hid hC.lst
 obtain ⟨cb,cb'⟩:=slice_bnd hC.lst
 clear hC hgA HE
 replace hHeld:=held_next hHeld hb
 refine ⟨_,rfl,hHeld,?_⟩
 clear hb
 refine call_d9 11 (some 82) rfl (by kernel_rfl) (by kernel_rfl) (by kernel_rfl) 81 _ _ rfl #[.slice Ac lc.length kc] (by kernel_rfl) (fun w=>by kernel_rfl) ?_
 refine (one_any lc Ac kc _ HC.out).mono ?_
 rintro e V8 ⟨D,jj,x,ll,rfl,hx,hb,hL,rfl,rfl⟩
 have HD:=Lib.hid hL
 replace hHeld:=held_next hHeld hb
 refine ⟨_,rfl,hHeld,?_⟩
 clear hx hb hL
 refine tk0 12 (some 83) (v:=.slice D 1 jj) rfl hHeld ?_
 refine tk0 13 (some 84) (v:=.int .i64 0) rfl hHeld ?_
 refine tk0 14 (some 2) (v:=.slice D 1 jj) rfl hHeld ?_
 refine tk0 15 (some 3) (v:=.int .i64 0) rfl hHeld ?_
 refine wpAnyH_done (by kernel_rfl) ?_ _
 have HZ:=Lib.hid hHeld.1.below
 clear hHeld
 simp [Act.put]
 go_wp2
 go_ret2
 exact ⟨D,jj,0,_,by kernel_rfl,by unfold I64;omega,HZ.out,HD.out,fun _=>rfl⟩
theorem moved_any (cs:List Value) (a:AskD) (w:World) (hr:rep w (old w.heap.size) cs a) (hok:a.Ok) (hop:45 ≤ a.op∧a.op ≤ 60 ∨ 62 ≤ a.op∧a.op ≤ 64) :
  Calls Tryz.prog 74 #[.agg cs.toArray] w (ShP w (PO a)):=by
 by_cases h48:a.op = 48
 ·exact moved_48 cs a w hr hok h48
 ·refine Calls.mono ?_ fun e w' h=>ShP.mono h fun x l hp=>po_one h48 hp
  have hc:a.op = 45 ∨ a.op = 46 ∨ a.op = 47 ∨ a.op = 49 ∨ a.op = 50 ∨ a.op = 51 ∨ a.op = 52 ∨ a.op = 53 ∨ a.op = 54 ∨ a.op = 55 ∨ a.op = 56 ∨ a.op = 57 ∨ a.op = 58 ∨ a.op = 59 ∨ a.op = 60 ∨ a.op = 62 ∨ a.op = 63 ∨ a.op = 64:=by omega
  rcases hc with h | h | h | h | h | h | h | h | h | h | h | h | h | h | h | h | h | h
  ·exact moved_45 cs a w hr hok h
  ·exact moved_46 cs a w hr hok h
  ·exact moved_47 cs a w hr hok h
  ·exact moved_49 cs a w hr hok h
  ·exact moved_50 cs a w hr hok h
  ·exact moved_51 cs a w hr hok h
  ·exact moved_52 cs a w hr hok h
  ·exact moved_53 cs a w hr hok h
  ·exact moved_54 cs a w hr hok h
  ·exact moved_55 cs a w hr hok h
  ·exact moved_56 cs a w hr hok h
  ·exact moved_57 cs a w hr hok h
  ·exact moved_58 cs a w hr hok h
  ·exact moved_59 cs a w hr hok h
  ·exact moved_60 cs a w hr hok h
  ·exact moved_62 cs a w hr hok h
  ·exact moved_63 cs a w hr hok h
  ·exact moved_64 cs a w hr hok h
end Go.Proofs.YtilobeohkomeoaaGreat
