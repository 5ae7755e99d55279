/-
  Chapter 10: how many windows there are. No condition.
-/
/-
  Chapter 05 and 10: a type's width, is a tensor whole, is a value a constant of its own type? No condition.
-/
/-
  Chapter 10: is a value, or a number, of a kind among a list? What is wrong with the inputs that say shapes? No condition.
-/
import Derived.Test.YtilobeohkomeoaaGreatQWin
import Derived.Test.YtilobeohkomeoaaGreatQSpan
set_option linter.unusedSimpArgs false
set_option linter.unusedVariables false
namespace Go.Proofs.YtilobeohkomeoaaGreat
open Go.RowKit
open Rep (rep)
set_option maxRecDepth 100000 in
set_option maxHeartbeats 8000000 in
theorem number_any (l:List Int) (A:Option Addr) (k i:Nat) (x:Int) (w:World) (hr:Lst w A k l) (hx:I64 x) (hi:l.length = 0 ∨ i < l.length) :
  Calls Tryz.prog 123 #[.slice A l.length k,.int .i64 (i:Int),.int .i64 x] w fun e w'=>(∃ y,e = .returned (.int .i64 y)∧I64 y)∧w' = w:=by
 obtain ⟨nb,nb'⟩:=slice_bnd hr
 rcases Nat.eq_zero_or_pos l.length with h | h
 ·rw [h]
  clear h nb hi
  go_enter Tryz.func123,Tryz.ntmps123
  go_wp2
  go_ret
  exact ⟨⟨x,rfl,hx⟩,rfl⟩
 ·have hi:i < l.length:=by omega
  obtain ⟨z,hz⟩:∃ z,l[i]? = some z:=⟨_,List.getElem?_eq_getElem hi⟩
  obtain ⟨z64,b,o,rfl,-,kz⟩:=int_at hr hz
  have HZ:=Lib.hid z64
  have hk0:(0:Int) ≤ (i:Int):=Int.natCast_nonneg _
  have hk1:(i:Int) < (l.length:Int):=by omega
  have hl0:¬ (l.length:Int) = 0:=by omega
  clear hz z64 hr
  go_enter Tryz.func123,Tryz.ntmps123
  go_wp2
  go_ret
  exact ⟨⟨z,rfl,HZ.out⟩,rfl⟩
theorem set_box (W:World) (ss:List Value) (hl:ss.length = 36):((W.alloc (.cells zeroS.toArray 48)).setRow W.heap.size (zeroS.take 0++ss++zeroS.drop (0 + ss.length)).toArray).heap[W.heap.size]? = some (.cells ss.toArray 48 (0,0))∧Below W.heap.size W ((W.alloc (.cells zeroS.toArray 48)).setRow W.heap.size (zeroS.take 0++ss++zeroS.drop (0 + ss.length)).toArray):=by
 have e:zeroS.take 0++ss++zeroS.drop (0 + ss.length) = ss:=by rw [List.take_zero,List.nil_append,Nat.zero_add,hl,← zeroS_len,List.drop_length,List.append_nil]
 rw [e]
 exact ⟨heap_setRow _ _ _ _ _ (heap_alloc_new _ _),below_setRow' ((Below.refl _ _).alloc (Nat.le_refl _) _) (Nat.le_refl _) _⟩
theorem cell_row {W:World} {q:Nat} {cs:List Value} {t:TypeId} (h:W.heap[q]? = some (.cells cs.toArray t (0,0))) {j:Nat} {u:Value} (hu:cs[j]? = some u):W.cell? ⟨q,j,none⟩ = some u:=(cell_of_row _ _ _ _ _ _ h).trans (by rw [List.getElem?_toArray];exact hu)
theorem many_ok {l:List Int} {n:Int} (h:manyD l n = true):l.length = 0 ∨ (l.length:Int) = n:=by
 unfold manyD at h
 simp at h
 rcases h with h | h
 ·exact .inl (by rw [h];rfl)
 ·exact .inr h
set_option maxRecDepth 100000 in
set_option maxHeartbeats 8000000 in
theorem windows_any (cs:List Value) (a:AskD) (kern:List Int) (C:Option Addr) (kC:Nat) (w:World) (hr:rep w (old w.heap.size) cs a) (hk:Lst w C kC kern) (hk2:kern.length = 2) (hd4:(a.dims 0).length = 4) (hf1:manyD a.s.strides 2 = true) (hf2:manyD a.s.dilations 2 = true) (hf3:manyD a.s.pads 4 = true) :
  Calls Tryz.prog 113 #[.agg cs.toArray,.slice C kern.length kC] w fun e w'=>(∃ A k l b,e = .returned (.tuple #[.slice A l.length k,.bool b])∧Own w' (w.heap.size + 1) A k l∧(b = true→l.length = 2))∧Below w.heap.size w w':=by
 obtain ⟨ss,hs,hc⟩:=ask_set hr
 obtain ⟨A1,k1,s1,r1⟩:=fld_list hs.f21
 obtain ⟨A2,k2,s2,r2⟩:=fld_list hs.f23
 obtain ⟨A3,k3,s3,r3⟩:=fld_list hs.f22
 have HC:=Lib.hid (And.intro (show LstN w.heap.size w A1 k1 a.s.strides from ⟨Nat.le_refl _,r1⟩) (And.intro (show LstN w.heap.size w A2 k2 a.s.dilations from ⟨Nat.le_refl _,r2⟩) (And.intro (show LstN w.heap.size w A3 k3 a.s.pads from ⟨Nat.le_refl _,r3⟩) (And.intro (show LstN w.heap.size w C kC kern from ⟨Nat.le_refl _,hk⟩) (And.intro hs hc)))))
 have HF:=Lib.hid (And.intro s1 (And.intro s2 (And.intro s3 (And.intro (fld_int hs.f24) (fld_bool hs.f25)))))
 have HM:=Lib.hid (And.intro (many_ok hf1) (And.intro (many_ok hf2) (many_ok hf3)))
 have HD4:=Lib.hid (And.intro hk2 hd4)
 obtain ⟨i0,hi0,hz0,hz1,hz2⟩:=info_parts intInfo
 have HL:=Lib.hid (And.intro (SettingDAt.len hs) (Rep.one (α:=SettingD) (show rep w (old w.heap.size) ss a.s from hs)))
 clear hs hc s1 s2 s3 r1 r2 r3 hk hf1 hf2 hf3 hk2 hd4
 go_enter Tryz.func113,Tryz.ntmps113
 go_wp2_with (with_reducible refine wpList_box_row rfl 91 _ rfl cs rfl ?_;have hX:=ask_start hr;generalize World.alloc _ _ = W0 at hX ⊢;have HX:=Lib.hid hX;clear hX hr;refine halt ?_)
 unfold Halt
 have hat:At W0 w.heap.size 1 ss:=fun j u hu=>by rw [Nat.add_comm];exact HX.out.cell (HC.out.2.2.2.2.2 j u hu)
 have hsz:(Tryz.prog.info? 48).map (·.size) = some ss.length:=by rw [HL.out.1];kernel_rfl
 have HT:=Lib.hid (And.intro hat hsz)
 clear hat hsz
 go_wp2_with (first
  |(with_reducible refine wpList_load_agg rfl 48 _ rfl _ _ _ rfl ss Tryz.underlying48 rfl HT.out.2 HT.out.1 ?_)
  |(with_reducible refine wpList_alloc_row rfl 48 rfl zeroS zeroS_zero ?_)
  |(with_reducible refine wpList_store_agg rfl 48 _ _ rfl _ 0 ss rfl rfl 48 zeroS (heap_alloc_new _ _) HT.out.2 (by rw [HL.out.1,zeroS_len];omega) HL.out.2 ?_;have hS:=set_box W0 ss HL.out.1;generalize World.setRow _ _ _ = W2 at hS ⊢;refine halt ?_))
 unfold Halt
 obtain ⟨q,hq⟩:∃ q,W0.heap.size = q:=⟨_,rfl⟩
 replace HX:=Lib.hid (HX.out.next hS.2)
 rw [hq] at hS ⊢
 have HQ:=Lib.hid (And.intro hS.1 (Array.getElem?_eq_some_iff.1 hS.1).1)
 clear hS hq HT
 go_wp2_with fail
 go_loopw [6,14] (fun v i wr=>∃ (c:Nat) (out:List Int),i = .int .i64 c∧c ≤ 2∧out.length = c∧AppI W2 wr v out) (fun _ i _=>2 - (intOf i).toNat)
 case atStart=>exact ⟨0,[],rfl,by omega,rfl,AppI.nil _⟩
 case round =>
  obtain ⟨c,out,rfl,hc,hoc,hA⟩:=hrel
  obtain ⟨wb,rfl⟩:∃ wb,wb = wr:=⟨_,rfl⟩
  have HA:=Lib.hid (And.intro hA hoc)
  have HB:=Lib.hid hA.below
  clear hA hoc
  by_cases hlt:c < 2
  ·have hlt':(c:Int) < 2:=by omega
   have hk0:(0:Int) ≤ (c:Int):=Int.natCast_nonneg _
   have HQ2:=Lib.hid (And.intro (HX.out.next HB.out) (show wb.heap[q]? = some (.cells ss.toArray 48 (0,0)) from (HB.out.block _ HQ.out.2).trans HQ.out.1))
   have hqb:q < wb.heap.size:=(Array.getElem?_eq_some_iff.1 HQ2.out.2).1
   have HQB:=Lib.hid hqb
   clear hqb
   obtain ⟨y,hy⟩:∃ y,kern[c]? = some y:=⟨_,List.getElem?_eq_getElem (by have:=HD4.out.1;omega)⟩
   obtain ⟨y64,bk,ok,rfl,-,-⟩:=HC.out.2.2.2.1.get hy
   have HY:=Lib.hid (And.intro y64 hy)
   clear hy y64
   rw [HD4.out.1]
   go_wp2_with fail
   have HX2:=Lib.hid HQ2.out.1
   refine wp_region_held_drew (S:=fun W=>AskI w cs a W∧Below wb.heap.size wb W) (by kernel_rfl) ⟨HX2.out.next ((Below.refl _ _).drew),(Below.refl _ _).drew⟩ (fun hHeld=>?_)
   generalize World.drew _ = V41 at hHeld ⊢
   have hb:=hHeld.2
   clear hb
   refine tk9 0 (some 18) (v:=.agg cs.toArray) rfl (yields_ask (by kernel_rfl) _ rfl (by kernel_rfl) (fun _ h=>h.1)) hHeld ?_
   refine tk0 2 (some 20) (v:=.int .i64 (c:Int)) rfl hHeld ?_
   refine tk9 3 (some 21) (v:=.int .i64 (2 + (c:Int))) rfl (yields_addI (by kernel_rfl) _ _ _ _ rfl 2 (c:Int) (by kernel_rfl) (by kernel_rfl) (by kernel_rfl) (by omega) (by omega) (by omega)) hHeld ?_
   refine tk0 6 (some 24) (v:=.slice (some ⟨bk,ok,none⟩) 2 kC) rfl hHeld ?_
   refine tk0 7 (some 25) (v:=.int .i64 (c:Int)) rfl hHeld ?_
   refine tk9 8 (some 26) (v:=.pointer (some ⟨bk,ok + c,none⟩)) rfl (yields_idx (by kernel_rfl) _ _ rfl bk ok (2) kC c (by kernel_rfl) (by kernel_rfl) hlt) hHeld ?_
   refine tk9 9 (some 27) (v:=.int .i64 y) rfl (yields_load_one9 (by kernel_rfl) _ _ rfl bk (ok + c) (by kernel_rfl) _ _ Tryz.underlying3 rfl (fun _ h=>h.1.elem HC.out.2.2.2.1 HY.out.2)) hHeld ?_
   refine tk0 10 (some 28) (v:=.pointer (some ⟨q,21,none⟩)) rfl hHeld ?_
   refine tk9 11 (some 29) (v:=.slice A1 a.s.strides.length k1) rfl (yields_load_one9 (by kernel_rfl) _ _ rfl (q) (21) (by kernel_rfl) _ _ Tryz.underlying24 rfl (fun _ h=>(h.2.cell (p:=⟨q,21,none⟩) HQB.out).trans (cell_row HQ2.out.2 HF.out.1))) hHeld ?_
   refine tk0 12 (some 30) (v:=.int .i64 (c:Int)) rfl hHeld ?_
   refine tk0 14 (some 32) (v:=.pointer (some ⟨q,23,none⟩)) rfl hHeld ?_
   refine tk9 15 (some 33) (v:=.slice A2 a.s.dilations.length k2) rfl (yields_load_one9 (by kernel_rfl) _ _ rfl (q) (23) (by kernel_rfl) _ _ Tryz.underlying24 rfl (fun _ h=>(h.2.cell (p:=⟨q,23,none⟩) HQB.out).trans (cell_row HQ2.out.2 HF.out.2.1))) hHeld ?_
   refine tk0 16 (some 34) (v:=.int .i64 (c:Int)) rfl hHeld ?_
   refine tk0 18 (some 36) (v:=.pointer (some ⟨q,22,none⟩)) rfl hHeld ?_
   refine tk9 19 (some 37) (v:=.slice A3 a.s.pads.length k3) rfl (yields_load_one9 (by kernel_rfl) _ _ rfl (q) (22) (by kernel_rfl) _ _ Tryz.underlying24 rfl (fun _ h=>(h.2.cell (p:=⟨q,22,none⟩) HQB.out).trans (cell_row HQ2.out.2 HF.out.2.2.1))) hHeld ?_
   refine tk0 20 (some 38) (v:=.int .i64 (c:Int)) rfl hHeld ?_
   refine tk0 22 (some 40) (v:=.pointer (some ⟨q,22,none⟩)) rfl hHeld ?_
   refine tk9 23 (some 41) (v:=.slice A3 a.s.pads.length k3) rfl (yields_load_one9 (by kernel_rfl) _ _ rfl (q) (22) (by kernel_rfl) _ _ Tryz.underlying24 rfl (fun _ h=>(h.2.cell (p:=⟨q,22,none⟩) HQB.out).trans (cell_row HQ2.out.2 HF.out.2.2.1))) hHeld ?_
   refine tk0 24 (some 42) (v:=.int .i64 (c:Int)) rfl hHeld ?_
   refine tk9 25 (some 43) (v:=.int .i64 (2 + (c:Int))) rfl (yields_addI (by kernel_rfl) _ _ _ _ rfl 2 (c:Int) (by kernel_rfl) (by kernel_rfl) (by kernel_rfl) (by omega) (by omega) (by omega)) hHeld ?_
   refine tk0 27 (some 45) (v:=.pointer (some ⟨q,24,none⟩)) rfl hHeld ?_
   refine tk9 28 (some 46) (v:=.int .i64 a.s.auto) rfl (yields_load_one9 (by kernel_rfl) _ _ rfl (q) (24) (by kernel_rfl) _ _ Tryz.underlying3 rfl (fun _ h=>(h.2.cell (p:=⟨q,24,none⟩) HQB.out).trans (cell_row HQ2.out.2 HF.out.2.2.2.1.1))) hHeld ?_
   refine tk0 29 (some 47) (v:=.pointer (some ⟨q,25,none⟩)) rfl hHeld ?_
   refine tk9 30 (some 48) (v:=.bool a.s.ceil) rfl (yields_load_one9 (by kernel_rfl) _ _ rfl (q) (25) (by kernel_rfl) _ _ Tryz.underlying4 rfl (fun _ h=>(h.2.cell (p:=⟨q,25,none⟩) HQB.out).trans (cell_row HQ2.out.2 HF.out.2.2.2.2))) hHeld ?_
   refine call_d9 1 (some 19) rfl (by kernel_rfl) (by kernel_rfl) (by kernel_rfl) 70 _ _ rfl #[.agg cs.toArray,.int .i64 0] (by kernel_rfl) (fun w=>by kernel_rfl) ?_
   refine (askDims' cs a 0 w.heap.size _ hHeld.1.below.size hHeld.1.arg0).mono ?_
   rintro e V42 ⟨A0,k0,rfl,h0,hb⟩
   have L0:=Lib.hid (lst_n hHeld.1 hb h0)
   obtain ⟨b0,b0'⟩:=slice_bnd h0
   clear h0
   replace hHeld:=held_next hHeld hb
   refine ⟨_,rfl,hHeld,?_⟩
   clear hb
   obtain ⟨z,hz⟩:∃ z,(a.dims 0)[2 + c]? = some z:=⟨_,List.getElem?_eq_getElem (by have:=HD4.out.2;omega)⟩
   obtain ⟨z64,b0',o0,rfl,-,-⟩:=L0.out.get hz
   have LB:=Lib.hid (hHeld.1.back L0.out)
   have HZ:=Lib.hid (And.intro z64 hz)
   have hl4:(a.dims 0).length = 4:=HD4.out.2
   clear hz z64 b0
   refine tk9 4 (some 22) (v:=.pointer (some ⟨b0',o0 + (2 + c),none⟩)) rfl (yields_idx (by kernel_rfl) _ _ rfl b0' o0 ((a.dims 0).length) k0 ((2 + c)) (by kernel_rfl) (by kernel_rfl) (by omega)) hHeld ?_
   refine tk9 5 (some 23) (v:=.int .i64 z) rfl (yields_load_one9 (by kernel_rfl) _ _ rfl b0' (o0 + (2 + c)) (by kernel_rfl) _ _ Tryz.underlying3 rfl (fun _ h=>h.1.elem LB.out HZ.out.2)) hHeld ?_
   refine call_d9 13 (some 31) rfl (by kernel_rfl) (by kernel_rfl) (by kernel_rfl) 123 _ _ rfl #[.slice A1 a.s.strides.length k1,.int .i64 (c:Int),.int .i64 1] (by kernel_rfl) (fun w=>by kernel_rfl) ?_
   refine (number_any a.s.strides A1 k1 c 1 _ (HC.out.1.next hHeld.1.below).lst (by unfold I64;omega) (by have:=HM.out.1;omega)).mono ?_
   rintro e V5 ⟨⟨u1,rfl,iu1⟩,rfl⟩
   refine ⟨_,rfl,hHeld,?_⟩
   refine call_d9 17 (some 35) rfl (by kernel_rfl) (by kernel_rfl) (by kernel_rfl) 123 _ _ rfl #[.slice A2 a.s.dilations.length k2,.int .i64 (c:Int),.int .i64 1] (by kernel_rfl) (fun w=>by kernel_rfl) ?_
   refine (number_any a.s.dilations A2 k2 c 1 _ (HC.out.2.1.next hHeld.1.below).lst (by unfold I64;omega) (by have:=HM.out.2.1;omega)).mono ?_
   rintro e V5 ⟨⟨u2,rfl,iu2⟩,rfl⟩
   refine ⟨_,rfl,hHeld,?_⟩
   refine call_d9 21 (some 39) rfl (by kernel_rfl) (by kernel_rfl) (by kernel_rfl) 123 _ _ rfl #[.slice A3 a.s.pads.length k3,.int .i64 (c:Int),.int .i64 0] (by kernel_rfl) (fun w=>by kernel_rfl) ?_
   refine (number_any a.s.pads A3 k3 c 0 _ (HC.out.2.2.1.next hHeld.1.below).lst (by unfold I64;omega) (by have:=HM.out.2.2;omega)).mono ?_
   rintro e V5 ⟨⟨u3,rfl,iu3⟩,rfl⟩
   refine ⟨_,rfl,hHeld,?_⟩
   refine call_d9 26 (some 44) rfl (by kernel_rfl) (by kernel_rfl) (by kernel_rfl) 123 _ _ rfl #[.slice A3 a.s.pads.length k3,.int .i64 (2 + (c:Int)),.int .i64 0] (by kernel_rfl) (fun w=>by kernel_rfl) ?_
   refine (number_any a.s.pads A3 k3 (2 + c) 0 _ (HC.out.2.2.1.next hHeld.1.below).lst (by unfold I64;omega) (by have:=HM.out.2.2;omega)).mono ?_
   rintro e V5 ⟨⟨u4,rfl,iu4⟩,rfl⟩
   refine ⟨_,rfl,hHeld,?_⟩
   refine call_d9 31 (some 49) rfl (by kernel_rfl) (by kernel_rfl) (by kernel_rfl) 122 _ _ rfl #[.int .i64 z,.int .i64 y,.int .i64 u1,.int .i64 u2,.int .i64 u3,.int .i64 u4,.int .i64 a.s.auto,.bool a.s.ceil] (by kernel_rfl) (fun w=>by kernel_rfl) ?_
   refine (window_any z y u1 u2 u3 u4 a.s.auto a.s.ceil _ HZ.out.1 HY.out.1 iu1 iu2 iu3 iu4 HF.out.2.2.2.1.2).mono ?_
   rintro e V43 ⟨⟨x1,x2,x3,rfl,ix1,ix3⟩,hb⟩
   replace hHeld:=held_next hHeld hb
   refine ⟨_,rfl,hHeld,?_⟩
   have HBE:=Lib.hid hHeld.2
   clear hb iu1 iu2 iu3 iu4
   refine tk0 32 (some 17) (v:=.tuple #[.int .i64 x1,.int .i64 x2,.int .i64 x3]) rfl hHeld ?_
   refine tk0 33 (some 50) (v:=.int .i64 x1) rfl hHeld ?_
   refine tk0 34 (some 51) (v:=.int .i64 x2) rfl hHeld ?_
   refine tk0 35 (some 52) (v:=.int .i64 x3) rfl hHeld ?_
   refine tk0 36 (some 9) (v:=.int .i64 x1) rfl hHeld ?_
   refine tk0 37 (some 10) (v:=.int .i64 x2) rfl hHeld ?_
   refine tk0 38 (some 11) (v:=.int .i64 x3) rfl hHeld ?_
   refine wpAnyH_done (by kernel_rfl) ?_ _
   have HI:=Lib.hid ix1
   clear hHeld ix1 ix3 hl4
   have hown:=HA.out.1.next HBE.out
   have HA2:=Lib.hid (And.intro hown HA.out.2)
   have HB2:=Lib.hid hown.below
   clear hown
   by_cases hx0:x3 = 0
   ·subst hx0
    go_wp2_with (at_builtin;refine wpList_append_lies _ rfl _ _ 24 rfl W2.heap.size 3 i0 (.int .i64 0) 1 8 Tryz.underlying24 hi0 hz0 hz1 hz2 rfl (by decide) _ _ _ rfl (HA2.out.1.own.alloc _) _ _ 1 1 [.int .i64 x1] rfl rfl (lies_new _ _ _) ?c2 ?c3 ?c4 ?c5 ?_)
    case c2=>first | (intro u hu;simp at hu;subst hu;rfl) | rfl
    case c3=>unfold maxLen;have:=HA2.out.2;omega
    case c4=>have:=HA2.out.2;omega
    case c5=>have:=HB2.out.size;simp;omega
    intro v' w7 hown' hgrow _
    go_wp2
    go_roundw
    case rel=>exact ⟨c + 1,out++[x1],by go_num,by omega,by rw [List.length_append,HA2.out.2];rfl,HA2.out.1.more HI.out hown' hgrow⟩
    case measure=>simp [intOf];omega
   ·have hx0':(x3 != 0) = true:=by simpa using hx0
    go_wp2
    go_ret2
    exact ⟨⟨none,0,[],false,rfl,rep_nil _ _,fun e=>by cases e⟩,(HX.out.next HB2.out).below⟩
  ·have hc2:c = 2:=by omega
   subst hc2
   obtain ⟨D,kd,rfl,ho⟩:=HA.out.1.list (by have:=HA.out.2;omega)
   have HO:=Lib.hid ho
   clear ho
   go_wp2
   go_ret2
   exact ⟨⟨D,kd,out,true,rfl,HO.out.more (by have:=HX.out.lt;omega),fun _=>HA.out.2⟩,(HX.out.next HB.out).below⟩
end Go.Proofs.YtilobeohkomeoaaGreat
set_option linter.unusedSimpArgs false
set_option linter.unusedVariables false
namespace Go.Proofs.YtilobeohkomeoaaGreat
open Go.RowKit
open Rep (rep)
def widthD (k:Int):Int:=if k = 1 then 4 else if k = 7 then 8 else if k = 9 then 1 else 0
theorem width_any (k:Int) (w:World):Calls Tryz.prog 33 #[.int .i64 k] w fun e w'=>e = .returned (.int .i64 (widthD k))∧w' = w:=by
 by_cases h1:k = 1
 ·subst h1
  go_enter Tryz.func33,Tryz.ntmps33
  go_wp2
  go_ret
  exact ⟨rfl,rfl⟩
 by_cases h7:k = 7
 ·subst h7
  go_enter Tryz.func33,Tryz.ntmps33
  go_wp2
  go_ret
  exact ⟨rfl,rfl⟩
 by_cases h9:k = 9
 ·subst h9
  go_enter Tryz.func33,Tryz.ntmps33
  go_wp2
  go_ret
  exact ⟨rfl,rfl⟩
 have hk:widthD k = 0:=by unfold widthD;rw [if_neg h1,if_neg h7,if_neg h9]
 rw [hk]
 have f1:(k == 1) = false:=beq_eq_false_iff_ne.2 h1
 have f7:(k == 7) = false:=beq_eq_false_iff_ne.2 h7
 have f9:(k == 9) = false:=beq_eq_false_iff_ne.2 h9
 clear h1 h7 h9 hk
 go_enter Tryz.func33,Tryz.ntmps33
 go_wp2
 go_ret
 exact ⟨rfl,rfl⟩
theorem width_pos {k:Int} (h:¬ widthD k = 0):0 < widthD k:=by
 unfold widthD at h ⊢
 split <;> (try split) <;> (try split) <;> simp_all
theorem tknown_any (k:Int) (w:World):Calls Tryz.prog 83 #[.int .i64 k] w fun e w'=>e = .returned (.bool (decide (widthD k > 0)))∧w' = w:=by
 go_enter Tryz.func83,Tryz.ntmps83
 go_wp2_with fail
 refine (width_any k _).mono ?_
 rintro e w1 ⟨rfl,rfl⟩
 obtain ⟨n,hn⟩:∃ n,widthD k = n:=⟨_,rfl⟩
 rw [hn]
 have HN:=Lib.hid hn
 clear hn
 go_wp2
 go_ret
 exact ⟨by rw [HN.out];rfl,rfl⟩
def tcheckV (ty:Int) (sz:Int × Int) (nf ni nb:Int):Int :=
 if widthD ty = 0 then 5
 else if sz.2 = 0 then
  if (if ty = 7 then ni else if ty = 9 then nb else nf) = sz.1 then if nf + ni + nb = sz.1 then 0 else 3 else 3
 else sz.2
def tcheckD (t:TensorD):Int:=tcheckV t.type (sizeD t.dims) t.f.length t.i.length t.b.length
theorem len_bnd {α:Type} [Rep α] {w:World} {Z:Zone} {A:Option Addr} {c:Nat} {l:List α} (h:rep w Z [.slice A l.length c] l):l.length * Rep.bytes α ≤ 140737488351232:=by
 obtain ⟨_,_,_,_,_,_,hb,_,_⟩:=open_slice h
 exact hb
set_option maxRecDepth 100000 in
set_option maxHeartbeats 8000000 in
theorem tcheck_any (cs:List Value) (t:TensorD) (w:World) (hr:rep w (old w.heap.size) cs t) :
  Calls Tryz.prog 59 #[.agg cs.toArray] w fun e w'=>e = .returned (.int .i64 (tcheckD t))∧Below w.heap.size w w':=by
 obtain ⟨A1,k1,A2,k2,A3,k3,A4,k4,rfl,htI,t1,t2,t3,t4⟩:=open_TensorD hr
 obtain ⟨b2,b2'⟩:=slice_bnd t2
 obtain ⟨b3,b3'⟩:=slice_bnd t3
 obtain ⟨b4,b4'⟩:=slice_bnd t4
 have m2:t.f.length * 4 ≤ 140737488351232:=len_bnd t2
 have m3:t.i.length * 8 ≤ 140737488351232:=len_bnd t3
 have m4:t.b.length * 1 ≤ 140737488351232:=len_bnd t4
 have HT:=Lib.hid t1
 have HD:Hid (tcheckD t = tcheckV t.type (sizeD t.dims) t.f.length t.i.length t.b.length):=Lib.hid rfl
 clear hr htI t1 t2 t3 t4
 have hw:=width_pos (k:=t.type)
 have hsz:=size_bd t.dims
 generalize t.type = ty at *
 generalize t.f.length = nf at *
 generalize t.i.length = ni at *
 generalize t.b.length = nb at *
 go_enter Tryz.func59,Tryz.ntmps59
 go_wp2_with (with_reducible refine wpList_box_row rfl 43 _ rfl [.int .i64 ty,.slice A1 t.dims.length k1,.slice A2 nf k2,.slice A3 ni k3,.slice A4 nb k4] rfl ?_;have hX:=box_start w 43 [.int .i64 ty,.slice A1 t.dims.length k1,.slice A2 nf k2,.slice A3 ni k3,.slice A4 nb k4];generalize World.alloc _ _ = W0 at hX ⊢;have HX:=Lib.hid hX;clear hX;refine halt ?_)
 unfold Halt
 have c0:=cell_row HX.out.row (j:=0) rfl
 have c1:=cell_row HX.out.row (j:=1) rfl
 have c2:=cell_row HX.out.row (j:=2) rfl
 have c3:=cell_row HX.out.row (j:=3) rfl
 have c4:=cell_row HX.out.row (j:=4) rfl
 go_wp2_with fail
 refine (tknown_any ty _).mono ?_
 rintro e w1 ⟨rfl,rfl⟩
 by_cases h0:widthD ty = 0
 ·have HZ:Hid (tcheckD t = 5):=Lib.hid (by rw [HD.out];unfold tcheckV;rw [if_pos h0])
  rw [h0]
  clear hw hsz
  go_wp2
  go_ret
  exact ⟨by rw [HZ.out];rfl,HX.out.below⟩
 ·have hp:widthD ty > 0:=hw h0
  replace HD:Hid (tcheckD t = if (sizeD t.dims).2 = 0 then if (if ty = 7 then (ni:Int) else if ty = 9 then (nb:Int) else (nf:Int)) = (sizeD t.dims).1 then if (nf:Int) + ni + nb = (sizeD t.dims).1 then 0 else 3 else 3 else (sizeD t.dims).2):=Lib.hid (by rw [HD.out];unfold tcheckV;rw [if_neg h0])
  rw [decide_eq_true hp]
  clear hp hw h0
  go_wp2_with fail
  refine (size_any t.dims A1 k1 _ (HX.out.keeps' HT.out)).mono ?_
  rintro e w2 ⟨rfl,rfl⟩
  generalize sizeD t.dims = sz at *
  obtain ⟨n,x⟩:=sz
  simp only at HD hsz ⊢
  by_cases hx:x = 0
  ·subst hx
   replace HD:Hid (tcheckD t = if (if ty = 7 then (ni:Int) else if ty = 9 then (nb:Int) else (nf:Int)) = n then if (nf:Int) + ni + nb = n then 0 else 3 else 3):=Lib.hid (by rw [HD.out,if_pos rfl])
   have HS:=Lib.hid hsz
   clear hsz
   by_cases h7:ty = 7
   ·subst h7
    replace HD:Hid (tcheckD t = if (ni:Int) = n then if (nf:Int) + ni + nb = n then 0 else 3 else 3):=Lib.hid (by rw [HD.out,if_pos rfl])
    by_cases e1:(ni:Int) = n
    ·by_cases e2:(nf:Int) + (ni:Int) + (nb:Int) = n
     ·replace HD:Hid (tcheckD t = 0):=Lib.hid (by rw [HD.out,if_pos e1,if_pos e2])
      go_wp2
      go_ret
      exact ⟨by rw [HD.out];rfl,HX.out.below⟩
     ·replace HD:Hid (tcheckD t = 3):=Lib.hid (by rw [HD.out,if_pos e1,if_neg e2])
      go_wp2
      go_ret
      exact ⟨by rw [HD.out];rfl,HX.out.below⟩
    ·replace HD:Hid (tcheckD t = 3):=Lib.hid (by rw [HD.out,if_neg e1])
     go_wp2
     go_ret
     exact ⟨by rw [HD.out];rfl,HX.out.below⟩
   ·by_cases h9:ty = 9
    ·subst h9
     replace HD:Hid (tcheckD t = if (nb:Int) = n then if (nf:Int) + ni + nb = n then 0 else 3 else 3):=Lib.hid (by rw [HD.out];rfl)
     by_cases e1:(nb:Int) = n
     ·by_cases e2:(nf:Int) + (ni:Int) + (nb:Int) = n
      ·replace HD:Hid (tcheckD t = 0):=Lib.hid (by rw [HD.out,if_pos e1,if_pos e2])
       go_wp2
       go_ret
       exact ⟨by rw [HD.out];rfl,HX.out.below⟩
      ·replace HD:Hid (tcheckD t = 3):=Lib.hid (by rw [HD.out,if_pos e1,if_neg e2])
       go_wp2
       go_ret
       exact ⟨by rw [HD.out];rfl,HX.out.below⟩
     ·replace HD:Hid (tcheckD t = 3):=Lib.hid (by rw [HD.out,if_neg e1])
      go_wp2
      go_ret
      exact ⟨by rw [HD.out];rfl,HX.out.below⟩
    ·replace HD:Hid (tcheckD t = if (nf:Int) = n then if (nf:Int) + ni + nb = n then 0 else 3 else 3):=Lib.hid (by rw [HD.out,if_neg h7,if_neg h9])
     have f7:(ty == 7) = false:=beq_eq_false_iff_ne.2 h7
     have f9:(ty == 9) = false:=beq_eq_false_iff_ne.2 h9
     clear h7 h9
     by_cases e1:(nf:Int) = n
     ·by_cases e2:(nf:Int) + (ni:Int) + (nb:Int) = n
      ·replace HD:Hid (tcheckD t = 0):=Lib.hid (by rw [HD.out,if_pos e1,if_pos e2])
       go_wp2
       go_ret
       exact ⟨by rw [HD.out];rfl,HX.out.below⟩
      ·replace HD:Hid (tcheckD t = 3):=Lib.hid (by rw [HD.out,if_pos e1,if_neg e2])
       go_wp2
       go_ret
       exact ⟨by rw [HD.out];rfl,HX.out.below⟩
     ·replace HD:Hid (tcheckD t = 3):=Lib.hid (by rw [HD.out,if_neg e1])
      go_wp2
      go_ret
      exact ⟨by rw [HD.out];rfl,HX.out.below⟩
  ·replace HD:Hid (tcheckD t = x):=Lib.hid (by rw [HD.out,if_neg hx])
   have hx':(x != 0) = true:=by simpa using hx
   clear hx hsz
   go_wp2
   go_ret
   exact ⟨by rw [HD.out];rfl,HX.out.below⟩
structure ValI (w:World) (cs:List Value) (v:ValD) (W:World):Prop where
 box:BoxInv w 45 cs W
 was:rep w (old w.heap.size) cs v
section
variable {w W W':World} {cs:List Value} {v:ValD}
theorem val_start (h:rep w (old w.heap.size) cs v):ValI w cs v (w.alloc (.cells cs.toArray 45)):=⟨box_start _ _ _,h⟩
theorem ValI.next (h:ValI w cs v W) (hb:Below W.heap.size W W'):ValI w cs v W':=⟨h.box.next hb,h.was⟩
theorem ValI.arg (h:ValI w cs v W):rep W (old W.heap.size) cs v:=h.box.keeps' h.was
theorem ValI.up (h:ValI w cs v W) {α:Type} [Rep α] {c:List Value} {x:α} (hr:rep w (old w.heap.size) c x):rep W (old W.heap.size) c x:=h.box.keeps' hr
theorem ValI.below (h:ValI w cs v W):Below w.heap.size w W:=h.box.below
theorem ValI.cell (h:ValI w cs v W) {j:Nat} {u:Value} (hu:cs[j]? = some u):W.cell? ⟨w.heap.size,j,none⟩ = some u:=cell_row h.box.row hu
theorem ValI.at (h:ValI w cs v W):At W w.heap.size 0 cs:=fun j u hu=>by rw [Nat.zero_add];exact h.cell hu
theorem ValI.size (h:ValI w cs v W):(Tryz.prog.info? 45).map (·.size) = some cs.length:=by rw [show cs.length = 8 from Rep.len h.was];kernel_rfl
end
def heldD (v:ValD):Bool:=v.const && decide (tcheckD v.t = 0) && decide (v.t.type = v.type) && decide (v.t.dims = v.dims)
set_option maxRecDepth 100000 in
set_option maxHeartbeats 8000000 in
theorem held_any (cs:List Value) (v:ValD) (w:World) (hr:rep w (old w.heap.size) cs v) :
  Calls Tryz.prog 49 #[.agg cs.toArray] w fun e w'=>e = .returned (.bool (heldD v))∧Below w.heap.size w w':=by
 have HR:=Lib.hid hr
 obtain ⟨A1,k1,A2,k2,A3,k3,A4,k4,A5,k5,rfl,hI,t1,tt⟩:=open_ValD hr
 obtain ⟨A2',k2',A3',k3',A4',k4',A5',k5',he,-,t2,-⟩:=open_TensorD tt
 simp only [List.cons.injEq,Value.slice.injEq,and_true,true_and] at he
 obtain ⟨⟨rfl,rfl⟩,-⟩:=he
 obtain ⟨b1,b1'⟩:=slice_bnd t1
 obtain ⟨b2,b2'⟩:=slice_bnd t2
 have HT:=Lib.hid (And.intro t1 (And.intro tt t2))
 clear hr hI t1 tt t2
 go_enter Tryz.func49,Tryz.ntmps49
 go_wp2_with (with_reducible refine wpList_box_row rfl 45 _ rfl [.int .i64 v.type,.slice A1 v.dims.length k1,.bool v.const,.int .i64 v.t.type,.slice A2 v.t.dims.length k2,.slice A3 v.t.f.length k3,.slice A4 v.t.i.length k4,.slice A5 v.t.b.length k5] rfl ?_;have hX:=val_start HR.out;generalize World.alloc _ _ = W0 at hX ⊢;have HX:=Lib.hid hX;clear hX;refine halt ?_)
 unfold Halt
 have HH:Hid (heldD v = (v.const && decide (tcheckD v.t = 0) && decide (v.t.type = v.type) && decide (v.t.dims = v.dims))):=Lib.hid rfl
 have c2:=HX.out.cell (j:=2) rfl
 cases hc:v.const with
 | false =>
  rw [hc] at c2
  replace HH:Hid (heldD v = false):=Lib.hid (by rw [HH.out,hc];rfl)
  clear hc
  go_wp2
  go_ret
  exact ⟨by rw [HH.out];rfl,HX.out.below⟩
 | true =>
  rw [hc] at c2
  replace HH:Hid (heldD v = (decide (tcheckD v.t = 0) && decide (v.t.type = v.type) && decide (v.t.dims = v.dims))):=Lib.hid (by rw [HH.out,hc];rfl)
  clear hc
  have HT3:Hid (At W0 w.heap.size 3 _):=Lib.hid (fun j u hu=>HX.out.cell (j:=3 + j) (by rw [Nat.add_comm];exact hu):At W0 w.heap.size 3 [.int .i64 v.t.type,.slice A2 v.t.dims.length k2,.slice A3 v.t.f.length k3,.slice A4 v.t.i.length k4,.slice A5 v.t.b.length k5])
  go_wp2_with (with_reducible refine wpList_load_agg_w (by kernel_rfl) 43 _ rfl _ _ _ rfl [.int .i64 v.t.type,.slice A2 v.t.dims.length k2,.slice A3 v.t.f.length k3,.slice A4 v.t.i.length k4,.slice A5 v.t.b.length k5] Tryz.underlying43 rfl (by kernel_rfl) (HT3.out) ?_)
  refine (tcheck_any _ v.t _ (HX.out.up HT.out.2.1)).mono ?_
  rintro e w1 ⟨rfl,hb⟩
  replace HX:=Lib.hid (HX.out.next hb)
  clear hb c2 HT3
  have c0:=HX.out.cell (j:=0) rfl
  have c1:=HX.out.cell (j:=1) rfl
  have c3:=HX.out.cell (j:=3) rfl
  have c4:=HX.out.cell (j:=4) rfl
  generalize tcheckD v.t = x at HH ⊢
  by_cases hx:x = 0
  ·subst hx
   replace HH:Hid (heldD v = (decide (v.t.type = v.type) && decide (v.t.dims = v.dims))):=Lib.hid (by rw [HH.out];rfl)
   by_cases ht:v.t.type = v.type
   ·replace HH:Hid (heldD v = decide (v.t.dims = v.dims)):=Lib.hid (by rw [HH.out,decide_eq_true ht];rfl)
    go_wp2_with fail
    refine (equalInts_any v.t.dims v.dims A2 A1 k2 k1 _ (HX.out.up HT.out.2.2) (HX.out.up HT.out.1)).mono ?_
    rintro e w2 ⟨rfl,n,rfl⟩
    go_wp2
    go_ret
    exact ⟨by rw [HH.out];rfl,below_drews HX.out.below _⟩
   ·replace HH:Hid (heldD v = false):=Lib.hid (by rw [HH.out,decide_eq_false ht];rfl)
    go_wp2
    go_ret
    exact ⟨by rw [HH.out];rfl,HX.out.below⟩
  ·replace HH:Hid (heldD v = false):=Lib.hid (by rw [HH.out,decide_eq_false hx];rfl)
   have hx':(x == 0) = false:=beq_eq_false_iff_ne.2 hx
   clear hx
   go_wp2
   go_ret
   exact ⟨by rw [HH.out];rfl,HX.out.below⟩
end Go.Proofs.YtilobeohkomeoaaGreat
set_option linter.unusedSimpArgs false
set_option linter.unusedVariables false
namespace Go.Proofs.YtilobeohkomeoaaGreat
open Go.RowKit
open Rep (rep)
set_option maxRecDepth 100000 in
set_option maxHeartbeats 8000000 in
theorem indexVals_any (l:List ValD) (v:Value) (k:Nat) (p:ValD→Bool) (w:World) (hk:∀ args W,(callFunc k args).run Tryz.prog W = .ok (.enter k args) W) (hr:rep w (old w.heap.size) [v] l)
  (hf:∀ x ∈ l,∀ cs W,Below w.heap.size w W→rep W (old W.heap.size) cs x→Calls Tryz.prog k #[.agg cs.toArray] W fun e W'=>e = .returned (.bool (p x))∧Below W.heap.size W W') :
  Calls Tryz.prog 58 #[v,.func (.func k) #[] #[]] w fun e w'=>e = .returned (.int .i64 (indexFrom p l 0))∧Below w.heap.size w w':=by
 obtain ⟨A,c,xs,rfl,hnc,hcm,_,hl,hch⟩:=open_slice hr
 clear hr
 have HL:=Lib.hid (And.intro hl hch)
 clear hl hch
 have HF:=Lib.hid hf
 clear hf
 have HK:=Lib.hid hk
 clear hk
 go_enter Tryz.func58,Tryz.ntmps58
 go_wp2_with fail
 go_loopw [8] (fun i wr=>∃ pre post:List ValD,l = pre++post∧i = .int .i64 pre.length∧indexFrom p l 0 = indexFrom p post pre.length∧Below w.heap.size w wr)
  (fun i _=>l.length - (intOf i).toNat)
 case atStart=>exact ⟨[],l,rfl,rfl,rfl,Below.refl _ _⟩
 case round =>
  obtain ⟨pre,post,hpp,rfl,hix,hs⟩:=hrel
  cases post with
  | cons z post =>
   obtain ⟨hz,hlt,hpp',hpl⟩:=split_at hpp
   obtain ⟨b',o,zc,rfl,hbB,hrz,hcell⟩:=elem_at HL.out.1 HL.out.2 (by decide) hz
   have hat:At wr b' (o + pre.length * 8) zc:=fun j u hu=>by rw [Nat.add_assoc];exact (hs.cell (p:=⟨b',o + (pre.length * 8 + j),none⟩) hbB).trans (hcell j u hu).1
   have hr':rep wr (old wr.heap.size) zc z:=Rep.more (Rep.keep hrz (Keeps.old_below hs (Nat.le_refl _))) (old_le hs.size)
   have hv8:=val_facts hrz
   have HA:=Lib.hid (And.intro hat (show (Tryz.prog.info? 45).map (·.size) = some zc.length by rw [hv8.1];kernel_rfl))
   have H:=Lib.hid (And.intro hpp' (And.intro hpl (And.intro hix hs)))
   have HC:=Lib.hid (HF.out z (List.mem_of_getElem? hz) zc wr hs hr')
   have hk0:(0:Int) ≤ (pre.length:Int):=Int.natCast_nonneg _
   have hk1:(pre.length:Int) < (l.length:Int):=by omega
   clear hcell hpp hpp' hpl hz hix hs hat hr' hrz hv8
   go_wp2_with (with_reducible refine wpList_load_agg rfl 45 _ rfl _ _ _ rfl zc Tryz.underlying45 rfl HA.out.2 HA.out.1 ?_)
   rw [HK.out,Oper.upon_enter]
   refine HC.out.mono ?_
   rintro e w1 ⟨rfl,hb⟩
   have HB:=Lib.hid (H.out.2.2.2.trans (hb.mono H.out.2.2.2.size))
   clear hb
   cases hd:p z with
   | true =>
    have HD:=Lib.hid hd
    clear hd
    go_wp2
    go_ret
    obtain ⟨_,_,hix,_⟩:=H.out
    refine ⟨?_,HB.out⟩
    rw [hix,indexFrom,HD.out]
    rfl
   | false =>
    have HD:=Lib.hid hd
    clear hd
    go_wp2
    go_roundw
    case rel =>
     obtain ⟨hpp',hpl,hix,_⟩:=H.out
     refine ⟨pre++[z],post,hpp',by rw [hpl];go_num,?_,HB.out⟩
     rw [hix,indexFrom,HD.out,hpl]
     rfl
    case measure=>simp [intOf];omega
  | nil =>
   obtain ⟨hge,hpl⟩:=split_end hpp
   have H:=Lib.hid (And.intro hix hs)
   clear hpl hpp hix hs
   go_wp2
   go_ret
   refine ⟨?_,H.out.2⟩
   rw [H.out.1]
   rfl
set_option maxRecDepth 100000 in
set_option maxHeartbeats 8000000 in
theorem containsVals_any (l:List ValD) (v:Value) (k:Nat) (p:ValD→Bool) (w:World) (hk:∀ args W,(callFunc k args).run Tryz.prog W = .ok (.enter k args) W) (hr:rep w (old w.heap.size) [v] l)
  (hf:∀ x ∈ l,∀ cs W,Below w.heap.size w W→rep W (old W.heap.size) cs x→Calls Tryz.prog k #[.agg cs.toArray] W fun e W'=>e = .returned (.bool (p x))∧Below W.heap.size W W') :
  Calls Tryz.prog 47 #[v,.func (.func k) #[] #[]] w fun e w'=>e = .returned (.bool (l.any p))∧Below w.heap.size w w':=by
 go_enter Tryz.func47,Tryz.ntmps47
 go_wp2_with fail
 refine (indexVals_any l v k p w hk hr hf).mono ?_
 rintro e w1 ⟨rfl,hs⟩
 have H:=Lib.hid (indexFrom_any p l 0)
 generalize indexFrom p l 0 = k at *
 go_wp2
 go_ret
 exact ⟨by rw [← H.out];rfl,hs⟩
set_option maxRecDepth 100000 in
set_option maxHeartbeats 8000000 in
theorem told1_any (cs:List Value) (v:ValD) (w:World) (hr:rep w (old w.heap.size) cs v) :
  Calls Tryz.prog 94 #[.agg cs.toArray] w fun e w'=>e = .returned (.bool (!heldD v))∧Below w.heap.size w w':=by
 go_enter Tryz.func94,Tryz.ntmps94
 go_wp2_with (with_reducible refine wpList_box_row rfl 45 _ rfl cs rfl ?_;have hX:=val_start hr;generalize World.alloc _ _ = W0 at hX ⊢;have HX:=Lib.hid hX;clear hX;refine halt ?_)
 unfold Halt
 go_wp2_with (with_reducible refine wpList_load_agg rfl 45 _ rfl _ _ _ rfl cs Tryz.underlying45 rfl HX.out.size HX.out.at ?_)
 refine (held_any cs v _ HX.out.arg).mono ?_
 rintro e w1 ⟨rfl,hb⟩
 have H:=Lib.hid (HX.out.next hb).below
 clear hb
 go_wp2
 go_ret
 exact ⟨rfl,H.out⟩
set_option maxRecDepth 100000 in
set_option maxHeartbeats 8000000 in
theorem given1_any (cs:List Value) (v:ValD) (w:World) (hr:rep w (old w.heap.size) cs v) :
  Calls Tryz.prog 48 #[.agg cs.toArray] w fun e w'=>e = .returned (.bool (v.const && !heldD v))∧Below w.heap.size w w':=by
 obtain ⟨A1,k1,A2,k2,A3,k3,A4,k4,A5,k5,hcs,-⟩:=open_ValD hr
 have h2:cs[2]? = some (.bool v.const):=by rw [hcs];rfl
 clear hcs
 go_enter Tryz.func48,Tryz.ntmps48
 go_wp2_with (with_reducible refine wpList_box_row rfl 45 _ rfl cs rfl ?_;have hX:=val_start hr;generalize World.alloc _ _ = W0 at hX ⊢;have HX:=Lib.hid hX;clear hX;refine halt ?_)
 unfold Halt
 have c2:=HX.out.cell h2
 cases hc:v.const with
 | false =>
  rw [hc] at c2
  go_wp2
  go_ret
  exact ⟨by rw [hc];rfl,HX.out.below⟩
 | true =>
  rw [hc] at c2
  go_wp2_with (with_reducible refine wpList_load_agg_w (by kernel_rfl) 45 _ rfl _ _ _ rfl cs Tryz.underlying45 rfl HX.out.size HX.out.at ?_)
  refine (held_any cs v _ HX.out.arg).mono ?_
  rintro e w1 ⟨rfl,hb⟩
  have H:=Lib.hid (HX.out.next hb).below
  clear hb c2
  go_wp2
  go_ret
  exact ⟨by rw [hc];rfl,H.out⟩
set_option maxRecDepth 100000 in
set_option maxHeartbeats 8000000 in
theorem told2_any (cs:List Value) (v:ValD) (w:World) (hr:rep w (old w.heap.size) cs v) :
  Calls Tryz.prog 95 #[.agg cs.toArray] w fun e w'=>e = .returned (.bool ((v.dims.length:Int) != 1))∧Below w.heap.size w w':=by
 obtain ⟨A1,k1,A2,k2,A3,k3,A4,k4,A5,k5,hcs,-,h1,-⟩:=open_ValD hr
 obtain ⟨b1,b1'⟩:=slice_bnd h1
 have h2:cs[1]? = some (.slice A1 v.dims.length k1):=by rw [hcs];rfl
 clear hcs h1
 go_enter Tryz.func95,Tryz.ntmps95
 go_wp2_with (with_reducible refine wpList_box_row rfl 45 _ rfl cs rfl ?_;have hX:=val_start hr;generalize World.alloc _ _ = W0 at hX ⊢;have HX:=Lib.hid hX;clear hX;refine halt ?_)
 unfold Halt
 have c2:=HX.out.cell h2
 go_wp2
 go_ret
 exact ⟨rfl,HX.out.below⟩
theorem told31_any (x:Int) (w:World):Calls Tryz.prog 98 #[.int .i64 x] w fun e w'=>e = .returned (.bool (decide (x > 4096)))∧w' = w:=by
 go_enter Tryz.func98,Tryz.ntmps98
 go_wp2
 go_ret
 exact ⟨rfl,rfl⟩
set_option maxRecDepth 100000 in
set_option maxHeartbeats 8000000 in
theorem indexI64s_any (l:List Int) (v:Value) (k:Nat) (p:Int→Bool) (S:World→Prop) (w:World) (hk:∀ args W,(callFunc k args).run Tryz.prog W = .ok (.enter k args) W) (hr:rep w (old w.heap.size) [v] l) (hS:S w) (hB:∀ W,S W→Below w.heap.size w W)
  (hf:∀ x ∈ l,I64 x→∀ W,S W→Calls Tryz.prog k #[.int .i64 x] W fun e W'=>e = .returned (.bool (p x))∧S W') :
  Calls Tryz.prog 116 #[v,.func (.func k) #[] #[]] w fun e w'=>e = .returned (.int .i64 (indexFrom p l 0))∧S w':=by
 obtain ⟨A,c,xs,rfl,hnc,hcm,_,hl,hch⟩:=open_slice hr
 clear hr
 have HF:=Lib.hid (And.intro hf hB)
 clear hf hB
 have HK:=Lib.hid hk
 clear hk
 go_enter Tryz.func116,Tryz.ntmps116
 go_wp2_with fail
 go_loopw [8] (fun i wr=>∃ pre post:List Int,l = pre++post∧i = .int .i64 pre.length∧indexFrom p l 0 = indexFrom p post pre.length∧S wr)
  (fun i _=>l.length - (intOf i).toNat)
 case atStart=>exact ⟨[],l,rfl,rfl,rfl,hS⟩
 case round =>
  obtain ⟨pre,post,hpp,rfl,hix,hs⟩:=hrel
  cases post with
  | cons z post =>
   obtain ⟨hz,hlt,hpp',hpl⟩:=split_at hpp
   obtain ⟨b',o,cs,rfl,hbB,⟨rfl,hz64⟩,hcell⟩:=elem_at hl hch (by decide) hz
   have c0:=((HF.out.2 _ hs).cell (p:=⟨b',o + (pre.length * Rep.size Int + 0),none⟩) hbB).trans (hcell 0 _ rfl).1
   rw [show o + (pre.length * Rep.size Int + 0) = o + pre.length from by simp [Rep.size]] at c0
   have H:=Lib.hid (And.intro hpp' (And.intro hpl hix))
   have HC:=Lib.hid (HF.out.1 z (List.mem_of_getElem? hz) hz64 wr hs)
   clear hcell hl hch hpp hpp' hpl hz hix hs hz64
   cases hd:p z with
   | true =>
    have HD:=Lib.hid hd
    clear hd
    go_wp2_with fail
    rw [HK.out,Oper.upon_enter]
    refine HC.out.mono ?_
    rw [HD.out]
    rintro e w1 ⟨rfl,hs1⟩
    go_wp2
    go_ret
    obtain ⟨_,_,hix⟩:=H.out
    refine ⟨?_,hs1⟩
    rw [hix,indexFrom,HD.out]
    rfl
   | false =>
    have HD:=Lib.hid hd
    clear hd
    go_wp2_with fail
    rw [HK.out,Oper.upon_enter]
    refine HC.out.mono ?_
    rw [HD.out]
    rintro e w1 ⟨rfl,hs1⟩
    go_wp2
    go_roundw
    case rel =>
     obtain ⟨hpp',hpl,hix⟩:=H.out
     exact ⟨pre++[z],post,hpp',by rw [hpl];go_num,by rw [hix,indexFrom,HD.out,hpl];rfl,hs1⟩
    case measure=>simp [intOf];omega
  | nil =>
   obtain ⟨hge,hpl⟩:=split_end hpp
   have H:=Lib.hid (And.intro hix hs)
   clear hpl hpp hl hch hix hs
   go_wp2
   go_ret
   exact ⟨by rw [H.out.1];rfl,H.out.2⟩
set_option maxRecDepth 100000 in
set_option maxHeartbeats 8000000 in
theorem containsI64s_any (l:List Int) (v:Value) (k:Nat) (p:Int→Bool) (S:World→Prop) (w:World) (hk:∀ args W,(callFunc k args).run Tryz.prog W = .ok (.enter k args) W) (hr:rep w (old w.heap.size) [v] l) (hS:S w) (hB:∀ W,S W→Below w.heap.size w W)
  (hf:∀ x ∈ l,I64 x→∀ W,S W→Calls Tryz.prog k #[.int .i64 x] W fun e W'=>e = .returned (.bool (p x))∧S W') :
  Calls Tryz.prog 97 #[v,.func (.func k) #[] #[]] w fun e w'=>e = .returned (.bool (l.any p))∧S w':=by
 go_enter Tryz.func97,Tryz.ntmps97
 go_wp2_with fail
 refine (indexI64s_any l v k p S w hk hr hS hB hf).mono ?_
 rintro e w1 ⟨rfl,hs⟩
 have H:=Lib.hid (indexFrom_any p l 0)
 generalize indexFrom p l 0 = k at *
 go_wp2
 go_ret
 exact ⟨by rw [← H.out];rfl,hs⟩
end Go.Proofs.YtilobeohkomeoaaGreat
