/-
  Chapter 10: Slice. No condition.
-/
/-
  slices.Repeat of one number, 64 times at most. No condition.
-/
import Derived.Test.YtilobeohkomeoaaGreatQCount
import Derived.Laws.CopyOwn
import Derived.Deep.RegionLaw
set_option linter.unusedSimpArgs false
set_option linter.unusedVariables false
namespace Go.Proofs.YtilobeohkomeoaaGreat
open Go.RowKit
open Rep (rep)
set_option maxRecDepth 100000 in
set_option maxHeartbeats 8000000 in
theorem numbers_nil (cs:List Value) (a:AskD) (i:Nat) (w:World) (hr:rep w (old w.heap.size) cs a) (hh:a.has i = false) :
  Calls Tryz.prog 117 #[.agg cs.toArray,.int .i64 i] w fun e w'=>e = .returned (.slice none 0 0)∧Below w.heap.size w w':=by
 go_enter Tryz.func117,Tryz.ntmps117
 go_wp2_with (with_reducible refine wpList_box_row rfl 91 _ rfl cs rfl ?_;have hX:=ask_start hr;generalize World.alloc _ _ = W0 at hX ⊢;have HX:=Lib.hid hX;clear hX hr;refine halt ?_)
 unfold Halt
 go_wp2_with (with_reducible refine wpList_load_agg rfl 91 _ rfl _ _ _ rfl cs Tryz.underlying91 rfl HX.out.size HX.out.at ?_)
 refine (askHas cs a i _ HX.out.arg).mono ?_
 rintro e w1 ⟨rfl,hb⟩
 have HY:=Lib.hid (HX.out.next hb)
 clear hb
 rw [hh]
 go_wp2
 go_ret
 exact ⟨rfl,HY.out.below⟩
theorem numbers_all (cs:List Value) (a:AskD) (i:Nat) (w:World) (hr:rep w (old w.heap.size) cs a) :
  Calls Tryz.prog 117 #[.agg cs.toArray,.int .i64 i] w fun e w'=>∃ (A:Option Addr) (k:Nat) (l:List Int),e = .returned (.slice A l.length k)∧Below w.heap.size w w'∧Own w' w.heap.size A k l∧(a.has i = false→A = none∧k = 0∧l = []):=by
 cases h:a.has i with
 | false=>exact (numbers_nil cs a i w hr h).mono fun e w' ⟨h1,h2⟩=>⟨none,0,[],h1,h2,rep_nil _ _,fun _=>⟨rfl,rfl,rfl⟩⟩
 | true=>exact (numbers_any cs a i w hr).mono fun e w' ⟨A,k,l,h1,h2,h3,_⟩=>⟨A,k,l,h1,h2,h3,fun h=>by cases h⟩
theorem AppI.list {B W:World} {v:Value} {l:List Int} (h:AppI B W v l) (hl:l.length * 8 ≤ 140737488351232):∃ A k,v = .slice A l.length k∧Own W B.heap.size A k l:=own_row h.own hl h.ints
def Apart2 (v u:Value):Prop:=v.ownBlock = none ∨ u.ownBlock = none ∨ v.ownBlock ≠ u.ownBlock
theorem Apart2.symm {v u:Value} (h:Apart2 v u):Apart2 u v:=by
 unfold Apart2 at *
 rcases h with h | h | h
 ·exact .inr (.inl h)
 ·exact .inl h
 ·exact .inr (.inr (Ne.symm h))
theorem Apart2.off {v u:Value} (h:Apart2 v u):u.ownBlock = none ∨ u.ownBlock ≠ v.ownBlock:=by
 rcases h with h | h | h
 ·cases hu:u.ownBlock with
  | none=>exact .inl rfl
  | some x=>exact .inr (by rw [h];exact fun e=>by cases e)
 ·exact .inl h
 ·exact .inr (Ne.symm h)
theorem apart_l {v v' u:Value} {n:Nat} (h:Apart2 v u) (hs:v'.ownBlock = v.ownBlock ∨ v'.ownBlock = some n) (hu:∀ g,u.ownBlock = some g→g < n):Apart2 v' u:=by
 rcases hs with hs | hs
 ·unfold Apart2 at *;rw [hs];exact h
 ·cases hx:u.ownBlock with
  | none=>exact .inr (.inl hx)
  | some x =>
   refine .inr (.inr ?_)
   rw [hs,hx]
   intro e
   injection e with e
   have:=hu x hx
   omega
def Gr (g:Bool) (B:World) (A:Option Addr) (k:Nat) (l0:List Int) (W:World) (v:Value) (c:Nat):Prop:=(g = true∧v = .slice A l0.length k) ∨ (g = false∧∃ l,AppI B W v l∧l.length = c)
section
variable {g:Bool} {B W W':World} {A:Option Addr} {k c:Nat} {l0:List Int} {v u:Value}
theorem Gr.next (h:Gr g B A k l0 W v c) (hb:Below W.heap.size W W'):Gr g B A k l0 W' v c:=h.imp id fun ⟨h1,l,h2,h3⟩=>⟨h1,l,h2.next hb,h3⟩
theorem Gr.app (h:Gr g B A k l0 W v c) (hg:g = false):∃ l,AppI B W v l∧l.length = c:=h.elim (fun h=>by rw [hg] at h;cases h.1) fun h=>h.2
theorem Gr.up (h:Gr g B A k l0 W v c) (hg:g = true) {c':Nat}:Gr g B A k l0 W v c':=h.elim .inl fun h=>by rw [hg] at h;cases h.1
theorem AppI.kept {l:List Int} {ob:Obj} {row:Option Nat} (h:AppI B W v l) (hg:(W.alloc ob).grownBy W' row) (hne:v.ownBlock = none ∨ v.ownBlock ≠ row) (hr:∀ x,row = some x→B.heap.size ≤ x):AppI B W' v l :=
 ⟨(own_below h.own ((Below.refl _ _).alloc (Nat.le_refl _) _)).kept hg hne,h.ints,(h.below.alloc h.below.size _).grown hg (by have:=h.below.size;rw [World.size_alloc];omega) hr⟩
theorem Gr.kept {ob:Obj} {row:Option Nat} (h:Gr g B A k l0 W v c) (hg:(W.alloc ob).grownBy W' row) (hr:∀ x,row = some x→B.heap.size ≤ x) (hne:g = false→v.ownBlock = none ∨ v.ownBlock ≠ row):Gr g B A k l0 W' v c :=
 h.imp id fun ⟨h1,l,h2,h3⟩=>⟨h1,l,h2.kept hg (hne h1) hr,h3⟩
theorem Gr.lt (h:Gr g B A k l0 W v c) (hg:g = false):∀ x,v.ownBlock = some x→x < W.heap.size + 1:=fun x hx=>by
 obtain ⟨l,h1,-⟩:=h.app hg
 have:=(h1.own.lt x hx).2
 omega
theorem Gr.fin (h:Gr g B A k l0 W v c) {n:Nat} (hn:n ≤ B.heap.size) (hO:Own B n A k l0) (hb:Below B.heap.size B W) (hc:c * 8 ≤ 140737488351232):∃ A' k' l,v = .slice A' l.length k'∧Own W n A' k' l:=by
 rcases h with ⟨-,rfl⟩ | ⟨-,l,h1,h2⟩
 ·exact ⟨A,k,l0,rfl,hO.next hb⟩
 ·obtain ⟨A',k',h3,h4⟩:=h1.list (by rw [h2];exact hc)
  exact ⟨A',k',l,h3,h4.more hn⟩
end
set_option maxRecDepth 100000 in
set_option maxHeartbeats 8000000 in
theorem slice_any (cs:List Value) (a:AskD) (w:World) (hr:rep w (old w.heap.size) cs a) :
  Calls Tryz.prog 104 #[.agg cs.toArray] w (ShP w P1):=by
 obtain ⟨i0,hi0,hz0,hz1,hz2⟩:=info_parts intInfo
 go_enter Tryz.func104,Tryz.ntmps104
 go_wp2_with (with_reducible refine wpList_box_row rfl 91 _ rfl cs rfl ?_;have hX:=ask_start hr;generalize World.alloc _ _ = W0 at hX ⊢;have HX:=Lib.hid hX;clear hX hr;refine halt ?_)
 unfold Halt
 go_wp2_with (with_reducible refine wpList_load_agg rfl 91 _ rfl _ _ _ rfl cs Tryz.underlying91 rfl HX.out.size HX.out.at ?_)
 refine (askDims' cs a 0 w.heap.size _ HX.out.below.size HX.out.arg0).mono ?_
 rintro e V2 ⟨A0,k0,rfl,h0,hb⟩
 have L0:=Lib.hid (lst_n HX.out hb h0)
 obtain ⟨b0,b0'⟩:=slice_bnd h0
 clear h0
 replace HX:=Lib.hid (HX.out.next hb)
 clear hb
 go_wp2_with fail
 refine (clone_ints (a.dims 0) _ _ L0.out.lst).mono ?_
 rintro e U3 ⟨v,rfl,hv,hb⟩
 obtain ⟨Ac,kc,rfl,hc⟩:=own_of hv
 clear hv
 have hc1:=hc.more HX.out.lt
 have Lc:=Lib.hid hc1.bnd
 obtain ⟨bc,bc'⟩:=slice_bnd hc
 clear hc hc1
 replace HX:=Lib.hid (HX.out.next hb)
 clear hb L0 b0 b0'
 have HD:Hid ((a.dims 0).length ≤ 17592186044416):=Lib.hid (dims_len HX.out)
 generalize a.dims 0 = d at Lc bc HD ⊢
 go_wp2_with fail
 refine wp_region_held_drew (S:=fun W=>AskI w cs a W∧Below U3.heap.size U3 W) (by kernel_rfl) ⟨HX.out.next ((Below.refl _ _).drew),(Below.refl _ _).drew⟩ (fun hHeld=>?_)
 generalize World.drew _ = V3 at hHeld ⊢
 have hb:=hHeld.2
 replace Lc:=Lib.hid (Lc.out.next hb)
 clear hb
 refine tk9 0 (some 19) (v:=.agg cs.toArray) rfl (yields_ask (by kernel_rfl) _ rfl (by kernel_rfl) (fun _ h=>h.1)) hHeld ?_
 refine tk9 2 (some 21) (v:=.agg cs.toArray) rfl (yields_ask (by kernel_rfl) _ rfl (by kernel_rfl) (fun _ h=>h.1)) hHeld ?_
 have HM:Hid (U3.heap.size ≤ U3.heap.size):=Lib.hid (Nat.le_refl _)
 refine call_d9 1 (some 20) rfl (by kernel_rfl) (by kernel_rfl) (by kernel_rfl) 117 _ _ rfl #[.agg cs.toArray,.int .i64 1] (by kernel_rfl) (fun w=>by kernel_rfl) ?_
 refine (numbers_any cs a 1 _ hHeld.1.arg).mono ?_
 rintro e V4 ⟨A1,k1,l1,rfl,hb,h1,-⟩
 replace Lc:=Lib.hid (Lc.out.next hb)
 have L1:=Lib.hid (h1.more (Nat.le_trans HM.out (hHeld.2.size)))
 obtain ⟨b1,b1'⟩:=slice_bnd h1
 clear h1
 replace hHeld:=held_next hHeld hb
 refine ⟨_,rfl,hHeld,?_⟩
 clear hb
 refine call_d9 3 (some 22) rfl (by kernel_rfl) (by kernel_rfl) (by kernel_rfl) 117 _ _ rfl #[.agg cs.toArray,.int .i64 2] (by kernel_rfl) (fun w=>by kernel_rfl) ?_
 refine (numbers_any cs a 2 _ hHeld.1.arg).mono ?_
 rintro e V5 ⟨A2,k2,l2,rfl,hb,h2,-⟩
 replace Lc:=Lib.hid (Lc.out.next hb)
 replace L1:=Lib.hid (L1.out.next hb)
 have L2:=Lib.hid (h2.more (Nat.le_trans HM.out (hHeld.2.size)))
 obtain ⟨b2,b2'⟩:=slice_bnd h2
 clear h2
 replace hHeld:=held_next hHeld hb
 refine ⟨_,rfl,hHeld,?_⟩
 clear hb
 refine tk0 4 (some 5) (v:=.slice A1 l1.length k1) rfl hHeld ?_
 refine tk0 5 (some 6) (v:=.slice A2 l2.length k2) rfl hHeld ?_
 replace HM:=Lib.hid (Nat.le_trans HM.out hHeld.2.size)
 refine wpAnyH_done (by kernel_rfl) ?_ _
 replace HX:=Lib.hid hHeld.1
 clear hHeld
 go_wp2_with fail
 refine wp_region_held_drew (S:=fun W=>AskI w cs a W∧Below V5.heap.size V5 W) (by kernel_rfl) ⟨HX.out.next ((Below.refl _ _).drew),(Below.refl _ _).drew⟩ (fun hHeld=>?_)
 generalize World.drew _ = V6 at hHeld ⊢
 have hb:=hHeld.2
 replace Lc:=Lib.hid (Lc.out.next hb)
 replace L1:=Lib.hid (L1.out.next hb)
 replace L2:=Lib.hid (L2.out.next hb)
 clear hb
 refine tk9 0 (some 23) (v:=.agg cs.toArray) rfl (yields_ask (by kernel_rfl) _ rfl (by kernel_rfl) (fun _ h=>h.1)) hHeld ?_
 refine tk9 2 (some 25) (v:=.agg cs.toArray) rfl (yields_ask (by kernel_rfl) _ rfl (by kernel_rfl) (fun _ h=>h.1)) hHeld ?_
 refine call_d9 1 (some 24) rfl (by kernel_rfl) (by kernel_rfl) (by kernel_rfl) 117 _ _ rfl #[.agg cs.toArray,.int .i64 3] (by kernel_rfl) (fun w=>by kernel_rfl) ?_
 refine (numbers_all cs a 3 _ hHeld.1.arg).mono ?_
 rintro e V7 ⟨A3,k3,l3,rfl,hb,h3,hn3⟩
 replace Lc:=Lib.hid (Lc.out.next hb)
 replace L1:=Lib.hid (L1.out.next hb)
 replace L2:=Lib.hid (L2.out.next hb)
 have L3:=Lib.hid (h3.more (Nat.le_trans HM.out (hHeld.2.size)))
 have N3:=Lib.hid hn3
 obtain ⟨b3,b3'⟩:=slice_bnd h3
 clear h3 hn3
 replace hHeld:=held_next hHeld hb
 refine ⟨_,rfl,hHeld,?_⟩
 clear hb
 refine call_d9 3 (some 26) rfl (by kernel_rfl) (by kernel_rfl) (by kernel_rfl) 117 _ _ rfl #[.agg cs.toArray,.int .i64 4] (by kernel_rfl) (fun w=>by kernel_rfl) ?_
 refine (numbers_all cs a 4 _ hHeld.1.arg).mono ?_
 rintro e V8 ⟨A4,k4,l4,rfl,hb,h4,hn4⟩
 replace Lc:=Lib.hid (Lc.out.next hb)
 replace L1:=Lib.hid (L1.out.next hb)
 replace L2:=Lib.hid (L2.out.next hb)
 replace L3:=Lib.hid (L3.out.next hb)
 have L4:=Lib.hid (h4.more (Nat.le_trans HM.out (hHeld.2.size)))
 have N4:=Lib.hid hn4
 obtain ⟨b4,b4'⟩:=slice_bnd h4
 clear h4 hn4
 replace hHeld:=held_next hHeld hb
 refine ⟨_,rfl,hHeld,?_⟩
 clear hb
 refine tk0 4 (some 7) (v:=.slice A3 l3.length k3) rfl hHeld ?_
 refine tk0 5 (some 8) (v:=.slice A4 l4.length k4) rfl hHeld ?_
 replace HM:=Lib.hid (Nat.le_trans HM.out hHeld.2.size)
 refine wpAnyH_done (by kernel_rfl) ?_ _
 replace HX:=Lib.hid hHeld.1
 clear hHeld
 have HS:=Lib.hid L1.out.len
 obtain ⟨g3,hg3⟩:∃ g,a.has 3 = g:=⟨_,rfl⟩
 obtain ⟨g4,hg4⟩:∃ g,a.has 4 = g:=⟨_,rfl⟩
 rw [hg3] at N3
 rw [hg4] at N4
 have HG:=Lib.hid (And.intro hg3 hg4)
 clear hg3 hg4
 go_wp2_with fail
 go_loopw [7,8,29] (fun v7 v8 i wr=>∃ c:Nat,i = .int .i64 c∧c ≤ l1.length∧Below V8.heap.size V8 wr∧Gr g3 V8 A3 k3 l3 wr v7 c∧Gr g4 V8 A4 k4 l4 wr v8 c∧(g3 = false→g4 = false→Apart2 v7 v8)) (fun _ _ i _=>l1.length - (intOf i).toNat)
 case atStart =>
  refine ⟨0,rfl,by omega,Below.refl _ _,?_,?_,?_⟩
  ·cases g3 with
   | true=>exact .inl ⟨rfl,rfl⟩
   | false=>obtain ⟨rfl,rfl,rfl⟩:=N3.out rfl;exact .inr ⟨rfl,[],AppI.nil _,rfl⟩
  ·cases g4 with
   | true=>exact .inl ⟨rfl,rfl⟩
   | false=>obtain ⟨rfl,rfl,rfl⟩:=N4.out rfl;exact .inr ⟨rfl,[],AppI.nil _,rfl⟩
  ·intro h _
   obtain ⟨rfl,rfl,rfl⟩:=N3.out h
   exact .inl rfl
 case round =>
  obtain ⟨c,rfl,hc,hB,hg7,hg8,hap⟩:=hrel
  obtain ⟨wb,rfl⟩:∃ wb,wb = wr:=⟨_,rfl⟩
  have HB:=Lib.hid hB
  have H7:=Lib.hid hg7
  have H8:=Lib.hid hg8
  have HAP:=Lib.hid hap
  clear hB hg7 hg8 hap
  by_cases hlt:c < l1.length
  ·have hlt':(c:Int) < (l1.length:Int):=by omega
   have HQ:=Lib.hid (HX.out.next HB.out)
   go_wp2_with (with_reducible refine wpList_load_agg rfl 91 _ rfl _ _ _ rfl cs Tryz.underlying91 rfl HQ.out.size HQ.out.at ?_)
   refine (askHas cs a 3 _ HQ.out.arg).mono ?_
   rintro e w6 ⟨rfl,hb⟩
   rw [HG.out.1]
   replace HB:=Lib.hid (HB.out.trans (hb.mono HB.out.size))
   replace H7:=Lib.hid (H7.out.next hb)
   replace H8:=Lib.hid (H8.out.next hb)
   clear hb HQ
   have HQ:=Lib.hid (HX.out.next HB.out)
   have hcl:c * 8 ≤ 140737488351232:=by have:=HS.out;omega
   cases g3 with
   | true =>
    go_wp2_with (with_reducible refine wpList_load_agg rfl 91 _ rfl _ _ _ rfl cs Tryz.underlying91 rfl HQ.out.size HQ.out.at ?_)
    refine (askHas cs a 4 _ HQ.out.arg).mono ?_
    rintro e w8 ⟨rfl,hb⟩
    rw [HG.out.2]
    replace HB:=Lib.hid (HB.out.trans (hb.mono HB.out.size))
    replace H7:=Lib.hid (H7.out.next hb)
    replace H8:=Lib.hid (H8.out.next hb)
    clear hb HQ
    cases g4 with
    | true =>
     go_wp2
     go_roundw
     case rel=>exact ⟨c + 1,by go_num,by omega,HB.out,H7.out.up rfl,H8.out.up rfl,fun _ h=>by cases h⟩
     case measure=>simp [intOf];omega
    | false =>
     obtain ⟨l8,hA8,hl8⟩:=H8.out.app rfl
     have HA8:=Lib.hid (And.intro hA8 hl8)
     clear hA8 hl8
     go_wp2_with (at_builtin;refine wpList_append_lies _ rfl _ _ 24 rfl V8.heap.size 3 i0 (.int .i64 0) 1 8 Tryz.underlying24 hi0 hz0 hz1 hz2 rfl (by decide) _ _ _ rfl (HA8.out.1.own.alloc _) _ _ 1 1 [.int .i64 1] rfl rfl (lies_new _ _ _) ?c2 ?c3 ?c4 ?c5 ?_)
     case c2=>first | (intro u hu;simp at hu;subst hu;rfl) | rfl
     case c3=>unfold maxLen;have:=HA8.out.2;omega
     case c4=>have:=HA8.out.2;omega
     case c5=>have:=HB.out.size;simp;omega
     intro v' w9 hown' hgrow hside
     have HX8:=HA8.out.1.more (x:=1) (by unfold I64;omega) hown' hgrow
     go_wp2
     go_roundw
     case rel=>exact ⟨c + 1,by go_num,by omega,HX8.below,(H7.out.kept hgrow (fun x hx=>(HA8.out.1.own.lt x hx).1) (fun h=>by cases h)).up rfl,.inr ⟨rfl,_,HX8,by rw [List.length_append,HA8.out.2];rfl⟩,fun h _=>by cases h⟩
     case measure=>simp [intOf];omega
   | false =>
    obtain ⟨l7,hA7,hl7⟩:=H7.out.app rfl
    have HA7:=Lib.hid (And.intro hA7 hl7)
    clear hA7 hl7
    go_wp2_with (at_builtin;refine wpList_append_lies _ rfl _ _ 24 rfl V8.heap.size 3 i0 (.int .i64 0) 1 8 Tryz.underlying24 hi0 hz0 hz1 hz2 rfl (by decide) _ _ _ rfl (HA7.out.1.own.alloc _) _ _ 1 1 [.int .i64 (c:Int)] rfl rfl (lies_new _ _ _) ?c2 ?c3 ?c4 ?c5 ?_)
    case c2=>first | (intro u hu;simp at hu;subst hu;rfl) | rfl
    case c3=>unfold maxLen;have:=HA7.out.2;omega
    case c4=>have:=HA7.out.2;omega
    case c5=>have:=HB.out.size;simp;omega
    intro v' w7 hown' hgrow hside
    have HX7:=HA7.out.1.more (x:=(c:Int)) (by unfold I64;omega) hown' hgrow
    replace H7:Hid (Gr false V8 A3 k3 l3 w7 v' (c + 1)):=Lib.hid (.inr ⟨rfl,_,HX7,by rw [List.length_append,HA7.out.2];rfl⟩)
    have HAQ:=Lib.hid (fun (_:false = false) h=>apart_l (HAP.out (by simp) h) hside (H8.out.lt h))
    replace H8:=Lib.hid (H8.out.kept hgrow (fun x hx=>(HA7.out.1.own.lt x hx).1) (fun h=>(HAP.out (by simp) h).off))
    replace HAP:=HAQ
    clear HAQ
    replace HB:=Lib.hid HX7.below
    replace HQ:=Lib.hid (HX.out.next HB.out)
    clear hown' hgrow HX7 hside HA7
    go_wp2_with (with_reducible refine wpList_load_agg rfl 91 _ rfl _ _ _ rfl cs Tryz.underlying91 rfl HQ.out.size HQ.out.at ?_)
    refine (askHas cs a 4 _ HQ.out.arg).mono ?_
    rintro e w8 ⟨rfl,hb⟩
    rw [HG.out.2]
    replace HB:=Lib.hid (HB.out.trans (hb.mono HB.out.size))
    replace H7:=Lib.hid (H7.out.next hb)
    replace H8:=Lib.hid (H8.out.next hb)
    clear hb HQ
    cases g4 with
    | true =>
     go_wp2
     go_roundw
     case rel=>exact ⟨c + 1,by go_num,by omega,HB.out,H7.out,H8.out.up rfl,fun _ h=>by cases h⟩
     case measure=>simp [intOf];omega
    | false =>
     obtain ⟨l8,hA8,hl8⟩:=H8.out.app rfl
     have HA8:=Lib.hid (And.intro hA8 hl8)
     clear hA8 hl8
     go_wp2_with (at_builtin;refine wpList_append_lies _ rfl _ _ 24 rfl V8.heap.size 3 i0 (.int .i64 0) 1 8 Tryz.underlying24 hi0 hz0 hz1 hz2 rfl (by decide) _ _ _ rfl (HA8.out.1.own.alloc _) _ _ 1 1 [.int .i64 1] rfl rfl (lies_new _ _ _) ?c2 ?c3 ?c4 ?c5 ?_)
     case c2=>first | (intro u hu;simp at hu;subst hu;rfl) | rfl
     case c3=>unfold maxLen;have:=HA8.out.2;omega
     case c4=>have:=HA8.out.2;omega
     case c5=>have:=HB.out.size;simp;omega
     intro v' w9 hown' hgrow hside
     have HX8:=HA8.out.1.more (x:=1) (by unfold I64;omega) hown' hgrow
     go_wp2
     go_roundw
     case rel=>exact ⟨c + 1,by go_num,by omega,HX8.below,H7.out.kept hgrow (fun x hx=>(HA8.out.1.own.lt x hx).1) (fun _=>(HAP.out (by simp) (by simp)).symm.off),.inr ⟨rfl,_,HX8,by rw [List.length_append,HA8.out.2];rfl⟩,fun _ _=>(apart_l (HAP.out (by simp) (by simp)).symm hside (H7.out.lt rfl)).symm⟩
     case measure=>simp [intOf];omega
  ·have hlt':¬ (c:Int) < (l1.length:Int):=by omega
   obtain ⟨A7,k7,la,rfl,h7⟩:=H7.out.fin HM.out L3.out HB.out (by have:=HS.out;omega)
   obtain ⟨A8,k8,ls,rfl,h8⟩:=H8.out.fin HM.out L4.out HB.out (by have:=HS.out;omega)
   have L7:=Lib.hid h7
   have L8:=Lib.hid h8
   have LC:=Lib.hid (Lc.out.next HB.out)
   have M1:=Lib.hid (L1.out.next HB.out)
   have M2:=Lib.hid (L2.out.next HB.out)
   have HA:=Lib.hid (HX.out.next HB.out)
   clear Lc L1 L2 L3 L4 H7 H8 HB h7 h8 HAP N3 N4 b3 b3' b4 b4'
   obtain ⟨c7,c7'⟩:=slice_bnd L7.out
   obtain ⟨c8,c8'⟩:=slice_bnd L8.out
   go_wp2_with fail
   refine (axes_any la A7 k7 d.length wb L7.out.rep (by have:=HD.out;unfold I64;omega)).mono ?_
   rintro e w5 ⟨B,kb,x,bs,rfl,hx,hb,hB,hax,-⟩
   replace LC:=Lib.hid (LC.out.next hb)
   replace M1:=Lib.hid (M1.out.next hb)
   replace M2:=Lib.hid (M2.out.next hb)
   replace L7:=Lib.hid (L7.out.next hb)
   replace L8:=Lib.hid (L8.out.next hb)
   replace HA:=Lib.hid (HA.out.next hb)
   have HAX:=Lib.hid hax
   clear hx hb hB hax
   by_cases h21:l2.length = l1.length
   ·by_cases h71:la.length = l1.length
    ·by_cases h81:ls.length = l1.length
     ·by_cases hx0:x = 0
      ·subst hx0
       have HL:=Lib.hid (And.intro h21 (And.intro h71 h81))
       rw [h21,h71,h81]
       clear h21 h71 h81
       have hq:=containsInt_any ls A8 k8 0 w5 L8.out.rep
       rw [HL.out.2.2] at hq
       go_wp2_with fail
       refine hq.mono ?_
       clear hq
       rintro e w6 ⟨rfl,rfl⟩
       obtain ⟨t,ht⟩:∃ t,ls.contains (0:Int) = t:=⟨_,rfl⟩
       rw [ht]
       have HT:=Lib.hid ht
       clear ht
       cases t with
       | true =>
        go_wp2_with fail
        refine (misfit_any _).mono ?_
        rintro e w9 ⟨rfl,rfl⟩
        go_wp2
        go_ret2
        exact sh_misfit HA.out.below
       | false =>
        go_wp2_with fail
        go_loopw [85] (fun i wr=>∃ (j:Nat) (out:List Int),i = .int .i64 j∧j ≤ l1.length∧AskI w cs a wr∧OwnB (w.heap.size + 1) U3.heap.size wr Ac kc out∧Own wr U3.heap.size A1 k1 l1∧Own wr U3.heap.size A2 k2 l2∧Own wr U3.heap.size A7 k7 la∧Own wr U3.heap.size A8 k8 ls∧out.length = d.length) (fun i _=>l1.length - (intOf i).toNat)
        case atStart=>exact ⟨0,d,rfl,by omega,HA.out,LC.out,M1.out,M2.out,L7.out,L8.out,rfl⟩
        case round =>
         obtain ⟨j,out,rfl,hj,hA,hC,h1,h2,h7,h8,hol⟩:=hrel
         obtain ⟨wx,rfl⟩:∃ wx,wx = wr:=⟨_,rfl⟩
         have QA:=Lib.hid hA
         have QC:=Lib.hid (And.intro hC hol)
         have Q1:=Lib.hid h1
         have Q2:=Lib.hid h2
         have Q7:=Lib.hid h7
         have Q8:=Lib.hid h8
         clear hA hC h1 h2 h7 h8 hol
         by_cases hlj:j < l1.length
         ·have hlj':(j:Int) < (l1.length:Int):=by omega
          obtain ⟨z,hz⟩:∃ z,la[j]? = some z:=⟨_,List.getElem?_eq_getElem (by have:=HL.out.2.1;omega)⟩
          obtain ⟨s1,hs⟩:∃ z,l1[j]? = some z:=⟨_,List.getElem?_eq_getElem hlj⟩
          obtain ⟨e1,he⟩:∃ z,l2[j]? = some z:=⟨_,List.getElem?_eq_getElem (by have:=HL.out.1;omega)⟩
          obtain ⟨p1,hp⟩:∃ z,ls[j]? = some z:=⟨_,List.getElem?_eq_getElem (by have:=HL.out.2.2;omega)⟩
          have hzm:=List.mem_of_getElem? hz
          have hpm:=List.mem_of_getElem? hp
          have hp0:p1 ≠ 0:=fun e=>by
           rw [e] at hpm
           have:=List.contains_iff_mem.2 hpm
           rw [HT.out] at this
           cases this
          have hax2:=(HAX.out (by simp)).2.2.1 z hzm
          obtain ⟨x0,x1⟩:=axis_ok hax2
          obtain ⟨m,hm,hml⟩:∃ m:Nat,(axisD z (d.length:Int)).1 = (m:Int)∧m < d.length:=⟨(axisD z (d.length:Int)).1.toNat,by omega,by omega⟩
          obtain ⟨y,hy⟩:∃ y,out[m]? = some y:=⟨_,List.getElem?_eq_getElem (by have:=QC.out.2;omega)⟩
          obtain ⟨z64,bz,oz,rfl,hbz,kz,fz⟩:=Q7.out.get hz
          obtain ⟨s64,bs1,os1,rfl,hbs,ks,fs⟩:=Q1.out.get hs
          obtain ⟨e64,be,oe,rfl,hbe,ke,fe⟩:=Q2.out.get he
          obtain ⟨p64,bp,op,rfl,hbp,kp,fp⟩:=Q8.out.get hp
          obtain ⟨y64,b9,o9,rfl,hb9,ky,fy⟩:=QC.out.1.get hy
          have HK:=Lib.hid (And.intro ks (And.intro ke (And.intro kp (And.intro ky fy))))
          have HI:=Lib.hid (And.intro z64 (And.intro s64 (And.intro e64 (And.intro p64 (And.intro y64 (And.intro hp0 hb9))))))
          have HM2:=Lib.hid (And.intro hm hax2)
          have hk0:(0:Int) ≤ (j:Int):=Int.natCast_nonneg _
          clear hz hs he hp hzm hpm hp0 hax2 x0 x1 hm hy z64 s64 e64 p64 y64 hbz hbs hbe hbp hb9 fz ks fs ke fe kp fp ky fy
          go_wp2_with fail
          refine (axis_any z d.length wx HI.out.1 (by have:=HD.out;unfold I64;omega) (by have:=HD.out;omega)).mono ?_
          rintro e w7 ⟨rfl,rfl⟩
          rw [HM2.out.1,HM2.out.2]
          clear kz
          go_wp2_with fail
          refine wp_region_tail [20] (S:=fun W=>W = w7.drew) (by kernel_rfl) rfl (fun hHeld=>?_)
          clear hHeld
          refine tt9 0 (some 97) (v:=.slice (some ⟨b9,o9,none⟩) d.length kc) rfl (Or.inl ⟨by kernel_rfl,fun w _=>by kernel_rfl⟩) rfl ?_
          refine tt9 1 (some 98) (v:=.int .i64 (m:Int)) rfl (Or.inl ⟨by kernel_rfl,fun w _=>by kernel_rfl⟩) rfl ?_
          refine tt9 2 (some 99) (v:=.slice (some ⟨b9,o9,none⟩) d.length kc) rfl (Or.inl ⟨by kernel_rfl,fun w _=>by kernel_rfl⟩) rfl ?_
          refine tt9 3 (some 100) (v:=.int .i64 (m:Int)) rfl (Or.inl ⟨by kernel_rfl,fun w _=>by kernel_rfl⟩) rfl ?_
          refine tt9 4 (some 101) (v:=.pointer (some ⟨b9,o9 + m,none⟩)) rfl (yields_idx (by kernel_rfl) _ _ rfl b9 o9 (d.length) kc m (by kernel_rfl) (by kernel_rfl) hml) rfl ?_
          refine tt9 5 (some 102) (v:=.int .i64 y) rfl (yields_load_one9 (by kernel_rfl) _ _ rfl b9 (o9 + m) (by kernel_rfl) _ _ Tryz.underlying3 rfl (fun _ h=>by rw [h];exact HK.out.2.2.2.1)) rfl ?_
          refine tt9 6 (some 103) (v:=.slice (some ⟨bs1,os1,none⟩) l1.length k1) rfl (Or.inl ⟨by kernel_rfl,fun w _=>by kernel_rfl⟩) rfl ?_
          refine tt9 7 (some 104) (v:=.int .i64 (j:Int)) rfl (Or.inl ⟨by kernel_rfl,fun w _=>by kernel_rfl⟩) rfl ?_
          refine tt9 8 (some 105) (v:=.pointer (some ⟨bs1,os1 + j,none⟩)) rfl (yields_idx (by kernel_rfl) _ _ rfl bs1 os1 (l1.length) k1 j (by kernel_rfl) (by kernel_rfl) hlj) rfl ?_
          refine tt9 9 (some 106) (v:=.int .i64 s1) rfl (yields_load_one9 (by kernel_rfl) _ _ rfl bs1 (os1 + j) (by kernel_rfl) _ _ Tryz.underlying3 rfl (fun _ h=>by rw [h];exact HK.out.1)) rfl ?_
          refine tt9 10 (some 107) (v:=.slice (some ⟨be,oe,none⟩) l1.length k2) rfl (Or.inl ⟨by kernel_rfl,fun w _=>by kernel_rfl⟩) rfl ?_
          refine tt9 11 (some 108) (v:=.int .i64 (j:Int)) rfl (Or.inl ⟨by kernel_rfl,fun w _=>by kernel_rfl⟩) rfl ?_
          refine tt9 12 (some 109) (v:=.pointer (some ⟨be,oe + j,none⟩)) rfl (yields_idx (by kernel_rfl) _ _ rfl be oe (l1.length) k2 j (by kernel_rfl) (by kernel_rfl) hlj) rfl ?_
          refine tt9 13 (some 110) (v:=.int .i64 e1) rfl (yields_load_one9 (by kernel_rfl) _ _ rfl be (oe + j) (by kernel_rfl) _ _ Tryz.underlying3 rfl (fun _ h=>by rw [h];exact HK.out.2.1)) rfl ?_
          refine tt9 14 (some 111) (v:=.slice (some ⟨bp,op,none⟩) l1.length k8) rfl (Or.inl ⟨by kernel_rfl,fun w _=>by kernel_rfl⟩) rfl ?_
          refine tt9 15 (some 112) (v:=.int .i64 (j:Int)) rfl (Or.inl ⟨by kernel_rfl,fun w _=>by kernel_rfl⟩) rfl ?_
          refine tt9 16 (some 113) (v:=.pointer (some ⟨bp,op + j,none⟩)) rfl (yields_idx (by kernel_rfl) _ _ rfl bp op (l1.length) k8 j (by kernel_rfl) (by kernel_rfl) hlj) rfl ?_
          refine tt9 17 (some 114) (v:=.int .i64 p1) rfl (yields_load_one9 (by kernel_rfl) _ _ rfl bp (op + j) (by kernel_rfl) _ _ Tryz.underlying3 rfl (fun _ h=>by rw [h];exact HK.out.2.2.1)) rfl ?_
          refine call_t9 18 (some 115) rfl (by kernel_rfl) (by kernel_rfl) (by kernel_rfl) 119 _ _ rfl #[.int .i64 y,.int .i64 s1,.int .i64 e1,.int .i64 p1] (by kernel_rfl) (fun w=>by kernel_rfl) ?_
          refine (count_any y s1 e1 p1 _ HI.out.2.2.2.2.1 HI.out.2.1 HI.out.2.2.1 HI.out.2.2.2.1 HI.out.2.2.2.2.2.1).mono ?_
          rintro e w8 ⟨⟨r,rfl,r64⟩,rfl⟩
          refine ⟨_,rfl,rfl,?_⟩
          refine tt9 19 (some 116) (v:=.pointer (some ⟨b9,o9 + m,none⟩)) rfl (yields_idx (by kernel_rfl) _ _ rfl b9 o9 (d.length) kc m (by kernel_rfl) (by kernel_rfl) hml) rfl ?_
          refine tail_free _ _ _ _ (by kernel_rfl) ?_
          refine anyH_store_cell9 20 rfl (by kernel_rfl) (by kernel_rfl) 3 _ _ rfl b9 (o9 + m) (.int .i64 r) (.int .i64 y) (by kernel_rfl) (by kernel_rfl) rfl (by kernel_rfl) (HK.out.2.2.2.1) (HK.out.2.2.2.2) trivial ?_
          refine wpAnyH_done (by kernel_rfl) ?_ _
          have HR:=Lib.hid r64
          clear r64
          go_wp2
          go_roundw
          case rel =>
           have hd:Below w7.heap.size w7 w7.drew:=(Below.refl _ _).drew
           have hb9:=HI.out.2.2.2.2.2.2
           have hn:w.heap.size < b9:=by omega
           exact ⟨j + 1,out.set m r,by go_num,by omega,(QA.out.next hd).set (p:=⟨b9,o9 + m,none⟩) hn _,(QC.out.1.next hd).write (by have:=QC.out.2;omega) HR.out,(Q1.out.next hd).other (p:=⟨b9,o9 + m,none⟩) hb9.2 _,(Q2.out.next hd).other (p:=⟨b9,o9 + m,none⟩) hb9.2 _,(Q7.out.next hd).other (p:=⟨b9,o9 + m,none⟩) hb9.2 _,(Q8.out.next hd).other (p:=⟨b9,o9 + m,none⟩) hb9.2 _,by simp [QC.out.2]⟩
          case measure=>simp [intOf];omega
         ·have hlj':¬ (j:Int) < (l1.length:Int):=by omega
          have hq:=one_any out Ac kc wx QC.out.1.own.lst
          rw [QC.out.2] at hq
          go_wp2_with fail
          refine hq.mono ?_
          clear hq
          rintro e w8 ⟨D,jj,x,ll,rfl,hx,hb,hl,rfl,rfl⟩
          have HC:=Lib.hid (And.intro (QA.out.trans hb) hl)
          clear hx hb hl
          go_wp2
          go_ret2
          exact ⟨D,jj,0,_,rfl,by unfold I64;omega,HC.out.1,HC.out.2,fun _=>rfl⟩
      ·have h':(x != 0) = true:=by simpa using hx0
       rw [h21,h71,h81]
       go_wp2_with fail
       refine (misfit_any _).mono ?_
       rintro e w9 ⟨rfl,rfl⟩
       go_wp2
       go_ret2
       exact sh_misfit HA.out.below
     ·have h':((ls.length:Int) != (l1.length:Int)) = true:=by simp;omega
      rw [h21,h71]
      go_wp2_with fail
      refine (misfit_any _).mono ?_
      rintro e w9 ⟨rfl,rfl⟩
      go_wp2
      go_ret2
      exact sh_misfit HA.out.below
    ·have h':((la.length:Int) != (l1.length:Int)) = true:=by simp;omega
     rw [h21]
     go_wp2_with fail
     refine (misfit_any _).mono ?_
     rintro e w9 ⟨rfl,rfl⟩
     go_wp2
     go_ret2
     exact sh_misfit HA.out.below
   ·have h':((l2.length:Int) != (l1.length:Int)) = true:=by simp;omega
    go_wp2_with fail
    refine (misfit_any _).mono ?_
    rintro e w9 ⟨rfl,rfl⟩
    go_wp2
    go_ret2
    exact sh_misfit HA.out.below
end Go.Proofs.YtilobeohkomeoaaGreat
set_option linter.unusedSimpArgs false
set_option linter.unusedVariables false
namespace Go.Proofs.YtilobeohkomeoaaGreat
open Go.RowKit
open Rep (rep)
theorem mul64_lay (k:Nat):∀ n:Nat,n ≤ 64→layCall Tryz.prog 133 #[.int .u64 1,.int .u64 (n:Int)] k = some (.tuple #[.int .u64 0,.int .u64 (n:Int)],[])
 | 0,_=>by kernel_rfl
 | 1,_=>by kernel_rfl
 | 2,_=>by kernel_rfl
 | 3,_=>by kernel_rfl
 | 4,_=>by kernel_rfl
 | 5,_=>by kernel_rfl
 | 6,_=>by kernel_rfl
 | 7,_=>by kernel_rfl
 | 8,_=>by kernel_rfl
 | 9,_=>by kernel_rfl
 | 10,_=>by kernel_rfl
 | 11,_=>by kernel_rfl
 | 12,_=>by kernel_rfl
 | 13,_=>by kernel_rfl
 | 14,_=>by kernel_rfl
 | 15,_=>by kernel_rfl
 | 16,_=>by kernel_rfl
 | 17,_=>by kernel_rfl
 | 18,_=>by kernel_rfl
 | 19,_=>by kernel_rfl
 | 20,_=>by kernel_rfl
 | 21,_=>by kernel_rfl
 | 22,_=>by kernel_rfl
 | 23,_=>by kernel_rfl
 | 24,_=>by kernel_rfl
 | 25,_=>by kernel_rfl
 | 26,_=>by kernel_rfl
 | 27,_=>by kernel_rfl
 | 28,_=>by kernel_rfl
 | 29,_=>by kernel_rfl
 | 30,_=>by kernel_rfl
 | 31,_=>by kernel_rfl
 | 32,_=>by kernel_rfl
 | 33,_=>by kernel_rfl
 | 34,_=>by kernel_rfl
 | 35,_=>by kernel_rfl
 | 36,_=>by kernel_rfl
 | 37,_=>by kernel_rfl
 | 38,_=>by kernel_rfl
 | 39,_=>by kernel_rfl
 | 40,_=>by kernel_rfl
 | 41,_=>by kernel_rfl
 | 42,_=>by kernel_rfl
 | 43,_=>by kernel_rfl
 | 44,_=>by kernel_rfl
 | 45,_=>by kernel_rfl
 | 46,_=>by kernel_rfl
 | 47,_=>by kernel_rfl
 | 48,_=>by kernel_rfl
 | 49,_=>by kernel_rfl
 | 50,_=>by kernel_rfl
 | 51,_=>by kernel_rfl
 | 52,_=>by kernel_rfl
 | 53,_=>by kernel_rfl
 | 54,_=>by kernel_rfl
 | 55,_=>by kernel_rfl
 | 56,_=>by kernel_rfl
 | 57,_=>by kernel_rfl
 | 58,_=>by kernel_rfl
 | 59,_=>by kernel_rfl
 | 60,_=>by kernel_rfl
 | 61,_=>by kernel_rfl
 | 62,_=>by kernel_rfl
 | 63,_=>by kernel_rfl
 | 64,_=>by kernel_rfl
 | n + 65,h=>absurd h (by omega)
set_option maxRecDepth 100000 in
set_option maxHeartbeats 8000000 in
theorem mul1_any (n:Nat) (h:n ≤ 64) (w:World):Calls Tryz.prog 124 #[.int .u64 1,.int .u64 (n:Int)] w fun e w'=>e = .returned (.tuple #[.int .u64 0,.int .u64 (n:Int)])∧w' = w:=by
 go_enter Tryz.func124,Tryz.ntmps124
 go_wp2_with fail
 refine (calls_lay (mul64_lay _ n h)).mono ?_
 rintro e w' ⟨rfl,rfl⟩
 go_wp2
 go_ret2
 exact ⟨rfl,rfl⟩
theorem splice_map (L C:List Int) (k:Nat):splice (L.map (Value.int .i64)) k (C.map (Value.int .i64)) = (splice L k C).map (Value.int .i64):=by simp [splice]
theorem mem_splice {L C:List Int} {k:Nat} {x:Int} (h:x ∈ splice L k C):x ∈ L ∨ x ∈ C:=by
 unfold splice at h
 rcases List.mem_append.1 h with h | h
 ·exact .inl (List.mem_of_mem_take h)
 ·rcases List.mem_append.1 h with h | h
  ·exact .inr h
  ·exact .inl (List.mem_of_mem_drop h)
def RowP (w:World) (n:Nat) (e:Ending) (w':World):Prop:=∃ (g:Nat) (L:List Int),e = .returned (.slice (some ⟨g,0,none⟩) n n)∧w.heap.size ≤ g∧w'.heap[g]? = some (.cells (L.map (Value.int .i64)).toArray 3 (0,0))∧L.length = n∧(∀ x ∈ L,I64 x)∧Below w.heap.size w w'
set_option maxRecDepth 100000 in
set_option maxHeartbeats 8000000 in
theorem repeat_row (q:Int) (n:Nat) (A:Option Addr) (k:Nat) (w:World) (hq:Lst w A k [q]) (hn:n ≤ 64) :
  Calls Tryz.prog 114 #[.slice A 1 k,.int .i64 (n:Int)] w (RowP w n):=by
 obtain ⟨q64,b,o,rfl,hb,kq⟩:=int_at (j:=0) hq rfl
 have HQ:=Lib.hid (And.intro q64 (And.intro hb kq))
 clear hq q64 hb kq
 go_enter Tryz.func114,Tryz.ntmps114
 go_wp2_with fail
 refine (mul1_any n hn w).mono ?_
 rintro e w1 ⟨rfl,rfl⟩
 have hmk:=make_ints n w1 (by omega)
 go_upto_region 7 with (fail)
 clear hmk
 have hg:(w1.alloc (.cells (Array.replicate n (.int .i64 0)) 3)).heap[w1.heap.size]? = some (.cells ((List.replicate n (0:Int)).map (Value.int .i64)).toArray 3 (0,0)):=by rw [← ints_arr];exact heap_alloc_new _ _
 have hb0:Below w1.heap.size w1 (w1.alloc (.cells (Array.replicate n (.int .i64 0)) 3)):=(Below.refl _ _).alloc (Nat.le_refl _) _
 generalize World.alloc _ _ = W2 at hg hb0 ⊢
 have HG:=Lib.hid hg
 have HB:=Lib.hid hb0
 clear hg hb0
 obtain ⟨m,hm⟩:∃ m,Nat.min 1 n = m:=⟨_,rfl⟩
 have hm1:m ≤ 1∧m ≤ n∧(0 < n→m = 1):=by rw [← hm];exact ⟨Nat.min_le_left ..,Nat.min_le_right ..,fun h=>by show min 1 n = 1;omega⟩
 obtain ⟨X,hX⟩:∃ X:List Value,X = ([q].take m).map (Value.int .i64):=⟨_,rfl⟩
 have hXl:X.length = m:=by rw [hX];simp;omega
 have HX:=Lib.hid hX
 have HM:=Lib.hid hm
 clear hX hm
 go_wp2_with (refine wpList_copy_splice rfl (.tmp 31) (.tmp 32) _ _ rfl 3 Tryz.underlying24 (by kernel_rfl) (some ⟨w1.heap.size,0,none⟩) (some ⟨b,o,none⟩) n n 1 k rfl rfl w1.heap.size 0 ((List.replicate n (0:Int)).map (Value.int .i64)) 3 HG.out X (by rw [HM.out];exact hXl) ?hp ?hf ?h1 w1.heap.size w1 HB.out (Nat.le_refl _) ?_)
 case hp =>
  intro h j v hv
  rw [HX.out,List.getElem?_map] at hv
  have hj:j = 0:=by
   rcases Nat.eq_zero_or_pos j with h | h
   ·exact h
   ·rw [List.getElem?_take,List.getElem?_eq_none (l:=[q]) (by rw [List.length_singleton];exact h)] at hv
    simp at hv
  subst hj
  rw [List.getElem?_take,if_pos h] at hv
  have hv:some (Value.int .i64 q) = some v:=hv
  rw [← hv]
  exact (HB.out.cell (p:=⟨b,o + 0,none⟩) HQ.out.2.1).trans HQ.out.2.2
 case hf=>simp;omega
 case h1=>intro v hv;rw [HX.out] at hv;obtain ⟨x,-,rfl⟩:=List.mem_map.1 hv;rfl
 intro W3 hg3 hb3
 have H3:Hid (W3.heap[w1.heap.size]? = some (.cells ((splice (List.replicate n (0:Int)) 0 ([q].take m)).map (Value.int .i64)).toArray 3 (0,0))∧Below w1.heap.size w1 W3):=Lib.hid ⟨by have:=hg3.out;rw [HX.out,← List.map_replicate,splice_map] at this;exact this,hb3⟩
 have H4:Hid ((splice (List.replicate n (0:Int)) 0 ([q].take m)).length = n∧∀ x ∈ splice (List.replicate n (0:Int)) 0 ([q].take m),I64 x):=Lib.hid ⟨by rw [length_splice _ _ _ (by simp;omega),List.length_replicate],fun x hx=>by
  rcases mem_splice hx with h | h
  ·rw [(List.mem_replicate.1 h).2];unfold I64;omega
  ·rw [List.mem_singleton.1 (List.mem_of_mem_take h)];exact HQ.out.1⟩
 generalize splice (List.replicate n (0:Int)) 0 ([q].take m) = L0 at H3 H4
 clear hg3 hb3 hXl
 obtain ⟨g,hg⟩:∃ g,w1.heap.size = g:=⟨_,rfl⟩
 have HGG:=Lib.hid hg
 rw [hg] at H3 ⊢
 clear hg
 go_wp2_with fail
 go_loopg [8] n (fun gk i wr=>∃ (c:Nat) (L:List Int),n ≤ c + gk∧i = .int .i64 c∧c ≤ n∧(0 < n→1 ≤ c)∧wr.heap[g]? = some (.cells (L.map (Value.int .i64)).toArray 3 (0,0))∧Below g w1 wr∧L.length = n∧∀ x ∈ L,I64 x)
 case atStart=>exact ⟨m,L0,by omega,rfl,hm1.2.1,fun h=>by have:=hm1.2.2 h;omega,H3.out.1,H3.out.2,H4.out.1,H4.out.2⟩
 case round =>
  obtain ⟨c,L,hgk,rfl,hc,hc1,hr,hb,hl,hi⟩:=hrel
  have HR:=Lib.hid (And.intro hr (And.intro hb (And.intro hl hi)))
  have HC1:=Lib.hid hc1
  clear hr hb hl hi hc1
  by_cases hlt:c < n
  ·have hlt':(c:Int) < (n:Int):=by omega
   obtain ⟨gk,rfl⟩:∃ k',gk = k' + 1:=⟨gk - 1,by omega⟩
   have HGK:=Lib.hid hgk
   clear hgk
   have hk0:(0:Int) ≤ (c:Int):=Int.natCast_nonneg _
   obtain ⟨Y,hY⟩:∃ Y:List Value,Y = (L.take (min c (n - c))).map (Value.int .i64):=⟨_,rfl⟩
   obtain ⟨y,hy⟩:∃ y,min c (n - c) = y:=⟨_,rfl⟩
   have hy1:y ≤ c∧y ≤ n - c∧1 ≤ y:=by have:=HC1.out;omega
   have hYl:Y.length = Nat.min c (n - c):=by show Y.length = min c (n - c);rw [hY,List.length_map,List.length_take];have:=HR.out.2.2.1;omega
   have HY:=Lib.hid (And.intro hY (And.intro hYl hy))
   have hnc:¬ n = c:=by omega
   clear hY hYl hy
   have hsrc:∀ j v,Y[j]? = some v→wr.drew.cell? ((⟨g,0,none⟩:Addr).add j) = some v:=fun j v hv=>by
    have hr:=HR.out.1
    rw [HY.out.1,List.getElem?_map,List.getElem?_take] at hv
    rw [show (⟨g,0,none⟩:Addr).add j = ⟨g,j,none⟩ from by simp [Addr.add];exact fun h=>h.symm]
    show wr.cell? ⟨g,j,none⟩ = some v
    rw [cell_of_row _ _ _ _ _ _ hr,List.getElem?_toArray,List.getElem?_map]
    split at hv
    ·exact hv
    ·cases hv
   have hfit:c + Y.length ≤ (L.map (Value.int .i64)).length:=by rw [List.length_map,HR.out.2.2.1,HY.out.2.1];show c + min c (n - c) ≤ n;omega
   have hone:∀ v ∈ Y,v.oneCell' = true:=fun v hv=>by rw [HY.out.1] at hv;obtain ⟨x,-,rfl⟩:=List.mem_map.1 hv;rfl
   have HP:=Lib.hid (And.intro hsrc (And.intro hfit hone))
   clear hsrc hfit hone
   go_wp2_with fail
   go_region_law (refine step_copy_splice rfl (.tmp 41) (.tmp 44) 24 24 rfl 3 Tryz.underlying24 (by kernel_rfl) (some ⟨g,c,none⟩) (some ⟨g,0,none⟩) (n - c) (n - c) c n (by kernel_rfl) (by kernel_rfl) g c (L.map (Value.int .i64)) 3 HR.out.1 Y HY.out.2.1 (fun _=>⟨rfl,⟨g,0,none⟩,rfl,HP.out.1⟩) HP.out.2.1 HP.out.2.2 g w1 HR.out.2.1.drew (Nat.le_refl _) ?_;intro W4 hg4 hb4)
   have H5:Hid (W4.heap[g]? = some (.cells ((splice L c (L.take (min c (n - c)))).map (Value.int .i64)).toArray 3 (0,0))∧Below g w1 W4):=Lib.hid ⟨by have:=hg4.out;rw [HY.out.1,splice_map] at this;exact this,hb4⟩
   have H6:Hid ((splice L c (L.take (min c (n - c)))).length = n∧∀ x ∈ splice L c (L.take (min c (n - c))),I64 x):=Lib.hid ⟨by rw [length_splice _ _ _ (by rw [List.length_take];have:=HR.out.2.2.1;omega)];exact HR.out.2.2.1,fun x hx=>by
    rcases mem_splice hx with h | h
    ·exact HR.out.2.2.2 x h
    ·exact HR.out.2.2.2 x (List.mem_of_mem_take h)⟩
   rw [HY.out.2.1]
   generalize splice L c (L.take (min c (n - c))) = L2 at H5 H6
   have hyy:c.min (n - c) = y:=HY.out.2.2
   have HYY:=Lib.hid hy1
   clear hg4 hb4 HY HP
   go_wp2
   go_roundg gk
   case measure=>omega
   case rel=>exact ⟨c + y,L2,by have:=HGK.out;omega,by rw [show ((c + y:Nat):Int) = (c:Int) + (y:Int) from rfl,← IntWalk.i64_in ((c:Int) + (y:Int)) (by omega),← hyy],by omega,fun _=>by omega,H5.out.1,H5.out.2,H6.out.1,H6.out.2⟩
  ·have hlt':¬ (c:Int) < (n:Int):=by omega
   go_wp2
   go_ret
   obtain ⟨h1,h2,h3,h4⟩:=HR.out
   have hge:w1.heap.size ≤ g:=Nat.le_of_eq HGG.out
   exact ⟨g,L,rfl,hge,h1,h3,h4,h2.mono hge⟩
theorem own_of_row {W:World} {n g:Nat} {L:List Int} (hge:n ≤ g) (h1:W.heap[g]? = some (.cells (L.map (Value.int .i64)).toArray 3 (0,0))) (h4:∀ x ∈ L,I64 x) (hl:L.length ≤ 100000):Own W n (some ⟨g,0,none⟩) L.length L:=by
 have hlt:g < W.heap.size:=(Array.getElem?_eq_some_iff.1 h1).1
 refine ⟨_,_,_,L.map (Value.int .i64),rfl,rfl,by omega,by unfold maxLen;omega,by show L.length * 8 ≤ reach;unfold reach;omega,fun _=>⟨g,0,rfl,⟨hge,hlt⟩,fun j u hu=>⟨?_,fun _=>by simp [World.frozen?,h1]⟩⟩,chunks_of_ints _ h4⟩
 rw [cell_of_row _ _ _ _ _ _ h1]
 simpa using hu
theorem repeat_any (q:Int) (n:Nat) (A:Option Addr) (k:Nat) (w:World) (hq:Lst w A k [q]) (hn:n ≤ 64) :
  Calls Tryz.prog 114 #[.slice A 1 k,.int .i64 (n:Int)] w (OwnP w fun _=>True) :=
 (repeat_row q n A k w hq hn).mono fun e w' ⟨g,L,h1,h2,h3,h4,h5,h6⟩=>⟨some ⟨g,0,none⟩,n,L,by rw [h4];exact h1,h6,by have:=own_of_row h2 h3 h5 (by omega);rw [h4] at this;exact this,trivial⟩
end Go.Proofs.YtilobeohkomeoaaGreat
