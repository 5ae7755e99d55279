/-
  Chapter 09: soft.Canon, tens.own, tens.Copy.
-/
/-
  Chapter 09: graph.constant.
-/
import Derived.Test.YtgbkhcmbmffljaaDoorPOpsR
import Derived.Test.YtgbkhcmbmffljaaDoorPOpsN
import Derived.Test.YtgbkhcmbmffljaaDoorPResV
import Derived.Test.YtgbkhcmbmffljaaDoorPGData
import Derived.Test.YtgbkhcmbmffljaaDoorPTail
import Derived.Test.YtgbkhcmbmffljaaDoorPSame
set_option linter.unusedSimpArgs false
set_option linter.unusedVariables false
namespace Go.Proofs.YtgbkhcmbmffljaaDoor
open Go.RowKit
open Rep (rep)
def canonD (x:Nat):Nat:=if 2139095040 < x % 2147483648 then 2143289344 else x
theorem canon_lt {x:Nat} (h:x < 4294967296):canonD x < 4294967296:=by unfold canonD;split <;> omega
theorem low31 (b:BitVec 32):(b &&& ~~~ (BitVec.ofInt 32 2147483648)).toNat = b.toNat % 2147483648:=by
 have h : ~~~ (BitVec.ofInt 32 2147483648) = BitVec.ofNat 32 (2 ^ 31 - 1):=by decide
 rw [h,BitVec.toNat_and,BitVec.toNat_ofNat]
 exact Nat.and_two_pow_sub_one_eq_mod b.toNat 31
theorem abs_bits (x:Nat) (hx:x < 4294967296):bits .andNot .u32 (x:Int) 2147483648 = (x:Int) % 2147483648:=by
 have h2:(BitVec.ofInt 32 (x:Int)).toNat = x:=by rw [BitVec.toNat_ofInt];omega
 have h3:=low31 (BitVec.ofInt 32 (x:Int))
 rw [h2] at h3
 show IntKind.u32.wrap (((BitVec.ofInt 32 (x:Int) &&& ~~~ (BitVec.ofInt 32 2147483648)).toNat:Nat):Int) = _
 rw [h3]
 unfold IntKind.wrap
 simp [IntKind.bits,IntKind.signed]
 omega
theorem abs_any (x:Nat) (w:World) (hx:x < 4294967296):Calls Tryd.prog 130 #[.int .u32 (x:Int)] w fun e w'=>e = .returned (.int .u32 ((x % 2147483648:Nat):Int))∧w = w':=by
 go_enter Tryd.func130,Tryd.ntmps130
 go_wp2
 go_ret
 exact ⟨by simp [abs_bits x hx],rfl⟩
theorem nan_any (x:Nat) (w:World) (hx:x < 4294967296):Calls Tryd.prog 129 #[.int .u32 (x:Int)] w fun e w'=>e = .returned (.bool (decide (2139095040 < x % 2147483648)))∧w = w':=by
 go_enter Tryd.func129,Tryd.ntmps129
 go_wp2_with fail
 refine (abs_any x w hx).mono ?_
 rintro e w' ⟨rfl,rfl⟩
 go_wp2
 go_ret
 exact ⟨by simp;omega,rfl⟩
theorem canon_any (x:Nat) (w:World) (hx:x < 4294967296):Calls Tryd.prog 126 #[.int .u32 (x:Int)] w fun e w'=>e = .returned (.int .u32 (canonD x:Int))∧w = w':=by
 go_enter Tryd.func126,Tryd.ntmps126
 go_wp2_with fail
 refine (nan_any x w hx).mono ?_
 by_cases h:2139095040 < x % 2147483648
 ·have hc:canonD x = 2143289344:=by unfold canonD;rw [if_pos h]
  have HC:=Lib.hid hc
  rw [decide_eq_true h]
  clear h hc
  rintro e w' ⟨rfl,rfl⟩
  go_wp2
  go_ret
  exact ⟨by rw [HC.out];rfl,rfl⟩
 ·have hc:canonD x = x:=by unfold canonD;rw [if_neg h]
  have HC:=Lib.hid hc
  rw [decide_eq_false h]
  clear h hc
  rintro e w' ⟨rfl,rfl⟩
  go_wp2
  go_ret
  exact ⟨by rw [HC.out];rfl,rfl⟩
set_option maxRecDepth 100000 in
set_option maxHeartbeats 1000000 in
theorem own_ints (l:List Int) (v:Value) (w:World) (hr:rep w (old w.heap.size) [v] l) :
  Calls Tryd.prog 118 #[v] w fun e w'=>∃ v',e = .returned v'∧rep w' (fresh w.heap.size w'.heap.size) [v'] l∧Below w.heap.size w w':=by
 obtain ⟨i0,hi0,hz0,hz1,hz2⟩:=info_parts intInfo
 obtain ⟨A,c,xs,rfl,hnc,hcm,hb,hl,hch⟩:=open_slice hr
 replace hb:l.length * 8 ≤ 140737488351232:=hb
 have hn1:=hch.len
 replace hn1:xs.length = l.length * 1:=hn1
 have H:=Lib.hid (And.intro hch (And.intro hn1 hch.one))
 have hl2:∀ o:Obj,Lies (w.alloc o) (old w.heap.size) A xs:=fun o=>hl.keep (Keeps.old_below ((Below.refl _ _).alloc (Nat.le_refl _) o) (Nat.le_refl _))
 have HL:=Lib.hid hl2
 have hbz:l.length ≤ 140737488351232:=by omega
 clear hr hl hch hl2 hn1 hnc hcm
 go_enter Tryd.func118,Tryd.ntmps118
 go_wp2_with (at_builtin;refine wpList_append_lies _ rfl _ _ 37 rfl w.heap.size 3 i0 _ 1 8 Tryd.underlying37 hi0 hz0 hz1 hz2 rfl (by decide) _ 0 [] rfl (World.ownsRow_made w #[] 0 (Nat.le_refl _) (Nat.zero_le _) rfl) _ _ _ _ _ rfl H.out.2.1 (HL.out _) H.out.2.2 ?c3 ?c4 ?c5 ?_)
 case c3=>unfold maxLen;omega
 case c4=>omega
 case c5=>simp
 intro v' w1 hown' hgrow hat
 have HX:=Lib.hid (And.intro hown' (And.intro hgrow hat))
 clear hown' hgrow hat
 go_wp2
 go_ret
 obtain ⟨hown,hgrow,hat⟩:=HX.out
 refine ⟨v',rfl,rep_of_own hown (Chunks.any H.out.1) hb (fun g _ h1 h2=>⟨h1,h2⟩),?_⟩
 exact ((Below.refl _ w).alloc (Nat.le_refl _) _).grown hgrow (by simp) (by intro k hk;simp [Value.ownBlock] at hk;omega)
set_option maxRecDepth 100000 in
set_option maxHeartbeats 1000000 in
theorem own_u32s (l:List Nat) (v:Value) (w:World) (hr:rep w (old w.heap.size) [v] l) :
  Calls Tryd.prog 119 #[v] w fun e w'=>∃ v',e = .returned v'∧rep w' (fresh w.heap.size w'.heap.size) [v'] l∧Below w.heap.size w w':=by
 obtain ⟨i0,hi0,hz0,hz1,hz2⟩:=info_parts info_u32s
 obtain ⟨A,c,xs,rfl,hnc,hcm,hb,hl,hch⟩:=open_slice hr
 replace hb:l.length * 4 ≤ 140737488351232:=hb
 have hn1:=hch.len
 replace hn1:xs.length = l.length * 1:=hn1
 have H:=Lib.hid (And.intro hch (And.intro hn1 hch.one))
 have hl2:∀ o:Obj,Lies (w.alloc o) (old w.heap.size) A xs:=fun o=>hl.keep (Keeps.old_below ((Below.refl _ _).alloc (Nat.le_refl _) o) (Nat.le_refl _))
 have HL:=Lib.hid hl2
 have hbz:l.length ≤ 140737488351232:=by omega
 clear hr hl hch hl2 hn1 hnc hcm
 go_enter Tryd.func119,Tryd.ntmps119
 go_wp2_with (at_builtin;refine wpList_append_lies _ rfl _ _ 39 rfl w.heap.size 38 i0 _ 1 4 Tryd.underlying39 hi0 hz0 hz1 hz2 rfl (by decide) _ 0 [] rfl (World.ownsRow_made w #[] 0 (Nat.le_refl _) (Nat.zero_le _) rfl) _ _ _ _ _ rfl H.out.2.1 (HL.out _) H.out.2.2 ?c3 ?c4 ?c5 ?_)
 case c3=>unfold maxLen;omega
 case c4=>omega
 case c5=>simp
 intro v' w1 hown' hgrow hat
 have HX:=Lib.hid (And.intro hown' (And.intro hgrow hat))
 clear hown' hgrow hat
 go_wp2
 go_ret
 obtain ⟨hown,hgrow,hat⟩:=HX.out
 refine ⟨v',rfl,rep_of_own hown (Chunks.any H.out.1) hb (fun g _ h1 h2=>⟨h1,h2⟩),?_⟩
 exact ((Below.refl _ w).alloc (Nat.le_refl _) _).grown hgrow (by simp) (by intro k hk;simp [Value.ownBlock] at hk;omega)
set_option maxRecDepth 100000 in
set_option maxHeartbeats 1000000 in
theorem own_i64s (l:List Int) (v:Value) (w:World) (hr:rep w (old w.heap.size) [v] l) :
  Calls Tryd.prog 120 #[v] w fun e w'=>∃ v',e = .returned v'∧rep w' (fresh w.heap.size w'.heap.size) [v'] l∧Below w.heap.size w w':=by
 obtain ⟨i0,hi0,hz0,hz1,hz2⟩:=info_parts info_i64s
 obtain ⟨A,c,xs,rfl,hnc,hcm,hb,hl,hch⟩:=open_slice hr
 replace hb:l.length * 8 ≤ 140737488351232:=hb
 have hn1:=hch.len
 replace hn1:xs.length = l.length * 1:=hn1
 have H:=Lib.hid (And.intro hch (And.intro hn1 hch.one))
 have hl2:∀ o:Obj,Lies (w.alloc o) (old w.heap.size) A xs:=fun o=>hl.keep (Keeps.old_below ((Below.refl _ _).alloc (Nat.le_refl _) o) (Nat.le_refl _))
 have HL:=Lib.hid hl2
 have hbz:l.length ≤ 140737488351232:=by omega
 clear hr hl hch hl2 hn1 hnc hcm
 go_enter Tryd.func120,Tryd.ntmps120
 go_wp2_with (at_builtin;refine wpList_append_lies _ rfl _ _ 40 rfl w.heap.size 2 i0 _ 1 8 Tryd.underlying40 hi0 hz0 hz1 hz2 rfl (by decide) _ 0 [] rfl (World.ownsRow_made w #[] 0 (Nat.le_refl _) (Nat.zero_le _) rfl) _ _ _ _ _ rfl H.out.2.1 (HL.out _) H.out.2.2 ?c3 ?c4 ?c5 ?_)
 case c3=>unfold maxLen;omega
 case c4=>omega
 case c5=>simp
 intro v' w1 hown' hgrow hat
 have HX:=Lib.hid (And.intro hown' (And.intro hgrow hat))
 clear hown' hgrow hat
 go_wp2
 go_ret
 obtain ⟨hown,hgrow,hat⟩:=HX.out
 refine ⟨v',rfl,rep_of_own hown (Chunks.any H.out.1) hb (fun g _ h1 h2=>⟨h1,h2⟩),?_⟩
 exact ((Below.refl _ w).alloc (Nat.le_refl _) _).grown hgrow (by simp) (by intro k hk;simp [Value.ownBlock] at hk;omega)
set_option maxRecDepth 100000 in
set_option maxHeartbeats 1000000 in
theorem own_bools (l:List Bool) (v:Value) (w:World) (hr:rep w (old w.heap.size) [v] l) :
  Calls Tryd.prog 121 #[v] w fun e w'=>∃ v',e = .returned v'∧rep w' (fresh w.heap.size w'.heap.size) [v'] l∧Below w.heap.size w w':=by
 obtain ⟨i0,hi0,hz0,hz1,hz2⟩:=info_parts info_bools
 obtain ⟨A,c,xs,rfl,hnc,hcm,hb,hl,hch⟩:=open_slice hr
 replace hb:l.length * 1 ≤ 140737488351232:=hb
 have hn1:=hch.len
 replace hn1:xs.length = l.length * 1:=hn1
 have H:=Lib.hid (And.intro hch (And.intro hn1 hch.one))
 have hl2:∀ o:Obj,Lies (w.alloc o) (old w.heap.size) A xs:=fun o=>hl.keep (Keeps.old_below ((Below.refl _ _).alloc (Nat.le_refl _) o) (Nat.le_refl _))
 have HL:=Lib.hid hl2
 have hbz:l.length ≤ 140737488351232:=by omega
 clear hr hl hch hl2 hn1 hnc hcm
 go_enter Tryd.func121,Tryd.ntmps121
 go_wp2_with (at_builtin;refine wpList_append_lies _ rfl _ _ 41 rfl w.heap.size 4 i0 _ 1 1 Tryd.underlying41 hi0 hz0 hz1 hz2 rfl (by decide) _ 0 [] rfl (World.ownsRow_made w #[] 0 (Nat.le_refl _) (Nat.zero_le _) rfl) _ _ _ _ _ rfl H.out.2.1 (HL.out _) H.out.2.2 ?c3 ?c4 ?c5 ?_)
 case c3=>unfold maxLen;omega
 case c4=>omega
 case c5=>simp
 intro v' w1 hown' hgrow hat
 have HX:=Lib.hid (And.intro hown' (And.intro hgrow hat))
 clear hown' hgrow hat
 go_wp2
 go_ret
 obtain ⟨hown,hgrow,hat⟩:=HX.out
 refine ⟨v',rfl,rep_of_own hown (Chunks.any H.out.1) hb (fun g _ h1 h2=>⟨h1,h2⟩),?_⟩
 exact ((Below.refl _ w).alloc (Nat.le_refl _) _).grown hgrow (by simp) (by intro k hk;simp [Value.ownBlock] at hk;omega)
def zeroTn:List Value:=[.int .i64 0,.slice none 0 0,.slice none 0 0,.slice none 0 0,.slice none 0 0]
theorem zeroTn_zero:(Tryd.prog.info? 43).bind (·.zero) = some (.agg zeroTn.toArray):=by kernel_rfl
theorem slice_bnd {α:Type} [Rep α] {w:World} {Z:Zone} {A:Option Addr} {c:Nat} {l:List α} (h:rep w Z [.slice A l.length c] l):l.length ≤ c∧c ≤ 9223372036854775807:=by
 obtain ⟨A',c',xs,hv,h1,h2,_⟩:=open_slice h
 injection hv with _ _ h3
 subst h3
 exact ⟨h1,h2⟩
structure Pair (w:World) (t1 t2:TypeId) (cs xs:List Value) (W:World):Prop where
 below:Below w.heap.size w W
 src:W.heap[w.heap.size]? = some (.cells cs.toArray t1 (0,0))
 res:W.heap[w.heap.size + 1]? = some (.cells xs.toArray t2 (0,0))
section
variable {w W W':World} {t1 t2:TypeId} {cs xs:List Value}
theorem Pair.lt (h:Pair w t1 t2 cs xs W):w.heap.size + 1 < W.heap.size:=(Array.getElem?_eq_some_iff.1 h.res).1
theorem Pair.next (h:Pair w t1 t2 cs xs W) (hb:Below W.heap.size W W'):Pair w t1 t2 cs xs W':=by
 have:=h.lt
 exact ⟨h.below.trans (hb.mono (by omega)),(hb.block _ (by omega)).trans h.src,(hb.block _ (by omega)).trans h.res⟩
theorem Pair.drew (h:Pair w t1 t2 cs xs W):Pair w t1 t2 cs xs W.drew:=⟨h.below.drew,h.src,h.res⟩
theorem Pair.keeps (h:Pair w t1 t2 cs xs W) {α:Type} [Rep α] {c:List Value} {a:α} (hr:rep w (old w.heap.size) c a):rep W (old W.heap.size) c a :=
 Rep.more (Rep.keep hr (Keeps.old_below h.below (Nat.le_refl _))) (old_le h.below.size)
theorem Pair.out (h:Pair w t1 t2 cs xs W) (ys:List Value) (hl:ys.length = xs.length):Below w.heap.size w (W.setRow (w.heap.size + 1) (xs.take 0++ys++xs.drop (0 + ys.length)).toArray) ∧
  (W.setRow (w.heap.size + 1) (xs.take 0++ys++xs.drop (0 + ys.length)).toArray).heap[w.heap.size + 1]? = some (.cells ys.toArray t2 (0,0)):=by
 have e:xs.take 0++ys++xs.drop (0 + ys.length) = ys:=by rw [List.take_zero,List.nil_append,Nat.zero_add,List.drop_of_length_le (by rw [hl];exact Nat.le_refl _),List.append_nil]
 rw [e]
 exact ⟨below_setRow' h.below (by omega) _,heap_setRow _ _ _ _ _ h.res⟩
end
theorem pair_start (w:World) (t1 t2:TypeId) (cs xs:List Value):Pair w t1 t2 cs xs ((w.alloc (.cells cs.toArray t1)).alloc (.cells xs.toArray t2)):=by
 have e1:=heap_alloc_new w (.cells cs.toArray t1)
 have e2:=heap_alloc_new (w.alloc (.cells cs.toArray t1)) (.cells xs.toArray t2)
 simp only [World.size_alloc] at e2
 exact ⟨((Below.refl _ w).alloc (Nat.le_refl _) _).alloc (by simp) _,by rw [Below.heap_alloc _ _ _ (by simp)];exact e1,e2⟩
theorem new_next {α:Type} [Rep α] {W W':World} {n:Nat} {v:List Value} {l:α} (h:rep W (fresh n W.heap.size) v l) (hb:Below W.heap.size W W'):rep W' (fresh n W'.heap.size) v l :=
 Rep.more (Rep.keep h (Keeps.fresh_below hb (Nat.le_refl _))) (fresh_le (Nat.le_refl _) hb.size)
theorem new_row {α:Type} [Rep α] {W:World} {n g:Nat} {v:List Value} {l:α} (h:rep W (fresh n W.heap.size) v l) (hg:g < n) (cs:Array Value):rep (W.setRow g cs) (fresh n (W.setRow g cs).heap.size) v l:=by
 rw [size_setRow];exact Rep.keep h (keep_row hg cs)
theorem new_more {α:Type} [Rep α] {W:World} {n n0:Nat} {v:List Value} {l:α} (h:rep W (fresh n W.heap.size) v l) (hn:n0 ≤ n):rep W (fresh n0 W.heap.size) v l:=Rep.more h (fresh_le hn (Nat.le_refl _))
theorem one5' {a b c d e:Value} (h1:a.oneCell' = true) (h2:b.oneCell' = true) (h3:c.oneCell' = true) (h4:d.oneCell' = true) (h5:e.oneCell' = true):∀ u ∈ [a,b,c,d,e],u.oneCell' = true:=by
 intro u hu
 simp only [List.mem_cons,List.not_mem_nil,or_false] at hu
 rcases hu with h | h | h | h | h <;> rw [h] <;> assumption
set_option maxRecDepth 100000 in
set_option maxHeartbeats 8000000 in
theorem tcopy_any (cs:List Value) (t:TensorD) (w:World) (hr:rep w (old w.heap.size) cs t) :
  Calls Tryd.prog 94 #[.agg cs.toArray] w fun e w'=>∃ ts:List Value,e = .returned (.agg ts.toArray)∧rep w' (fresh (w.heap.size + 2) w'.heap.size) ts t∧Below w.heap.size w w':=by
 obtain ⟨A1,k1,A2,k2,A3,k3,A4,k4,rfl,htI,t1,t2,t3,t4⟩:=open_TensorD hr
 have HT:=Lib.hid (And.intro htI (And.intro t1 (And.intro t2 (And.intro t3 t4))))
 clear hr htI t1 t2 t3 t4
 go_enter Tryd.func94,Tryd.ntmps94
 go_wp2_with (first
  |(with_reducible refine wpList_box_row rfl 43 _ rfl [.int .i64 t.type,.slice A1 t.dims.length k1,.slice A2 t.f.length k2,.slice A3 t.i.length k3,.slice A4 t.b.length k4] rfl ?_)
  |(with_reducible refine wpList_alloc_row rfl 43 rfl zeroTn zeroTn_zero ?_;have hX:=pair_start w 43 43 [.int .i64 t.type,.slice A1 t.dims.length k1,.slice A2 t.f.length k2,.slice A3 t.i.length k3,.slice A4 t.b.length k4] zeroTn;generalize World.alloc _ (.cells zeroTn.toArray _) = W0 at hX ⊢;have HX:=Lib.hid hX.drew;clear hX;refine halt ?_))
 unfold Halt
 go_wp2_with fail
 refine wp_region_held_drew (S:=fun W=>At W w.heap.size 0 [.int .i64 t.type,.slice A1 t.dims.length k1,.slice A2 t.f.length k2,.slice A3 t.i.length k3,.slice A4 t.b.length k4]) (by kernel_rfl) (At.of_row HX.out.src) (fun hHeld=>?_)
 have z0:w.heap.size + 2 ≤ W0.drew.heap.size:=HX.out.lt
 refine take_d9 0 (some 3) (v:=.pointer (some ⟨w.heap.size,0,none⟩)) rfl (by kernel_rfl) (by kernel_rfl) (by kernel_rfl) (by kernel_rfl) (fun c a w h=>h) (Or.inl ⟨by kernel_rfl,fun w _=>by kernel_rfl⟩) hHeld ?_
 refine take_d9 1 (some 4) (v:=.int .i64 t.type) rfl (by kernel_rfl) (by kernel_rfl) (by kernel_rfl) (by kernel_rfl) (fun c a w h=>h) (yields_load_one9 (by kernel_rfl) _ _ rfl w.heap.size 0 (by kernel_rfl) _ _ Tryd.underlying3 rfl (fun _ h=>h 0 _ rfl)) hHeld ?_
 refine take_d9 2 (some 5) (v:=.pointer (some ⟨w.heap.size,1,none⟩)) rfl (by kernel_rfl) (by kernel_rfl) (by kernel_rfl) (by kernel_rfl) (fun c a w h=>h) (Or.inl ⟨by kernel_rfl,fun w _=>by kernel_rfl⟩) hHeld ?_
 refine take_d9 3 (some 6) (v:=.slice A1 t.dims.length k1) rfl (by kernel_rfl) (by kernel_rfl) (by kernel_rfl) (by kernel_rfl) (fun c a w h=>h) (yields_load_one9 (by kernel_rfl) _ _ rfl w.heap.size 1 (by kernel_rfl) _ _ Tryd.underlying37 rfl (fun _ h=>h 1 _ rfl)) hHeld ?_
 refine take_d9 5 (some 8) (v:=.pointer (some ⟨w.heap.size,2,none⟩)) rfl (by kernel_rfl) (by kernel_rfl) (by kernel_rfl) (by kernel_rfl) (fun c a w h=>h) (Or.inl ⟨by kernel_rfl,fun w _=>by kernel_rfl⟩) hHeld ?_
 refine take_d9 6 (some 9) (v:=.slice A2 t.f.length k2) rfl (by kernel_rfl) (by kernel_rfl) (by kernel_rfl) (by kernel_rfl) (fun c a w h=>h) (yields_load_one9 (by kernel_rfl) _ _ rfl w.heap.size 2 (by kernel_rfl) _ _ Tryd.underlying39 rfl (fun _ h=>h 2 _ rfl)) hHeld ?_
 refine take_d9 8 (some 11) (v:=.pointer (some ⟨w.heap.size,3,none⟩)) rfl (by kernel_rfl) (by kernel_rfl) (by kernel_rfl) (by kernel_rfl) (fun c a w h=>h) (Or.inl ⟨by kernel_rfl,fun w _=>by kernel_rfl⟩) hHeld ?_
 refine take_d9 9 (some 12) (v:=.slice A3 t.i.length k3) rfl (by kernel_rfl) (by kernel_rfl) (by kernel_rfl) (by kernel_rfl) (fun c a w h=>h) (yields_load_one9 (by kernel_rfl) _ _ rfl w.heap.size 3 (by kernel_rfl) _ _ Tryd.underlying40 rfl (fun _ h=>h 3 _ rfl)) hHeld ?_
 refine take_d9 11 (some 14) (v:=.pointer (some ⟨w.heap.size,4,none⟩)) rfl (by kernel_rfl) (by kernel_rfl) (by kernel_rfl) (by kernel_rfl) (fun c a w h=>h) (Or.inl ⟨by kernel_rfl,fun w _=>by kernel_rfl⟩) hHeld ?_
 refine take_d9 12 (some 15) (v:=.slice A4 t.b.length k4) rfl (by kernel_rfl) (by kernel_rfl) (by kernel_rfl) (by kernel_rfl) (fun c a w h=>h) (yields_load_one9 (by kernel_rfl) _ _ rfl w.heap.size 4 (by kernel_rfl) _ _ Tryd.underlying41 rfl (fun _ h=>h 4 _ rfl)) hHeld ?_
 refine call_d9 4 (some 7) rfl (by kernel_rfl) (by kernel_rfl) (by kernel_rfl) 118 _ _ rfl #[.slice A1 t.dims.length k1] (by kernel_rfl) (fun w=>by kernel_rfl) ?_
 refine ((own_ints t.dims _ _ (HX.out.keeps HT.out.2.1)).mono (fun _ _ h=>sliced h)).mono ?_
 rintro e w1 ⟨B1,j1,rfl,hv,hb⟩
 have HX1:=Lib.hid (HX.out.next hb)
 have R1:=Lib.hid (new_more hv (show w.heap.size + 2 ≤ _ from z0))
 replace hHeld:At w1 w.heap.size 0 [.int .i64 t.type,.slice A1 t.dims.length k1,.slice A2 t.f.length k2,.slice A3 t.i.length k3,.slice A4 t.b.length k4]:=At.of_row HX1.out.src
 have z1:w.heap.size + 2 ≤ w1.heap.size:=HX1.out.lt
 clear hv hb
 refine ⟨_,rfl,hHeld,?_⟩
 refine call_d9 7 (some 10) rfl (by kernel_rfl) (by kernel_rfl) (by kernel_rfl) 119 _ _ rfl #[.slice A2 t.f.length k2] (by kernel_rfl) (fun w=>by kernel_rfl) ?_
 refine ((own_u32s t.f _ _ (HX1.out.keeps HT.out.2.2.1)).mono (fun _ _ h=>sliced h)).mono ?_
 rintro e w2 ⟨B2,j2,rfl,hv,hb⟩
 have HX2:=Lib.hid (HX1.out.next hb)
 replace R1:=Lib.hid (new_next R1.out hb)
 have R2:=Lib.hid (new_more hv (show w.heap.size + 2 ≤ _ from z1))
 replace hHeld:At w2 w.heap.size 0 [.int .i64 t.type,.slice A1 t.dims.length k1,.slice A2 t.f.length k2,.slice A3 t.i.length k3,.slice A4 t.b.length k4]:=At.of_row HX2.out.src
 have z2:w.heap.size + 2 ≤ w2.heap.size:=HX2.out.lt
 clear hv hb
 refine ⟨_,rfl,hHeld,?_⟩
 refine call_d9 10 (some 13) rfl (by kernel_rfl) (by kernel_rfl) (by kernel_rfl) 120 _ _ rfl #[.slice A3 t.i.length k3] (by kernel_rfl) (fun w=>by kernel_rfl) ?_
 refine ((own_i64s t.i _ _ (HX2.out.keeps HT.out.2.2.2.1)).mono (fun _ _ h=>sliced h)).mono ?_
 rintro e w3 ⟨B3,j3,rfl,hv,hb⟩
 have HX3:=Lib.hid (HX2.out.next hb)
 replace R1:=Lib.hid (new_next R1.out hb)
 replace R2:=Lib.hid (new_next R2.out hb)
 have R3:=Lib.hid (new_more hv (show w.heap.size + 2 ≤ _ from z2))
 replace hHeld:At w3 w.heap.size 0 [.int .i64 t.type,.slice A1 t.dims.length k1,.slice A2 t.f.length k2,.slice A3 t.i.length k3,.slice A4 t.b.length k4]:=At.of_row HX3.out.src
 have z3:w.heap.size + 2 ≤ w3.heap.size:=HX3.out.lt
 clear hv hb
 refine ⟨_,rfl,hHeld,?_⟩
 refine call_d9 13 (some 16) rfl (by kernel_rfl) (by kernel_rfl) (by kernel_rfl) 121 _ _ rfl #[.slice A4 t.b.length k4] (by kernel_rfl) (fun w=>by kernel_rfl) ?_
 refine ((own_bools t.b _ _ (HX3.out.keeps HT.out.2.2.2.2)).mono (fun _ _ h=>sliced h)).mono ?_
 rintro e w4 ⟨B4,j4,rfl,hv,hb⟩
 have HX4:=Lib.hid (HX3.out.next hb)
 replace R1:=Lib.hid (new_next R1.out hb)
 replace R2:=Lib.hid (new_next R2.out hb)
 replace R3:=Lib.hid (new_next R3.out hb)
 have R4:=Lib.hid (new_more hv (show w.heap.size + 2 ≤ _ from z3))
 replace hHeld:At w4 w.heap.size 0 [.int .i64 t.type,.slice A1 t.dims.length k1,.slice A2 t.f.length k2,.slice A3 t.i.length k3,.slice A4 t.b.length k4]:=At.of_row HX4.out.src
 have z4:w.heap.size + 2 ≤ w4.heap.size:=HX4.out.lt
 clear hv hb
 refine ⟨_,rfl,hHeld,?_⟩
 have HO:=Lib.hid (one5' (a:=.int .i64 t.type) rfl (Rep.one R1.out _ (List.mem_singleton.2 rfl)) (Rep.one R2.out _ (List.mem_singleton.2 rfl)) (Rep.one R3.out _ (List.mem_singleton.2 rfl)) (Rep.one R4.out _ (List.mem_singleton.2 rfl)))
 refine take_d9 14 (some 17) (v:=.agg (([.int .i64 t.type,.slice B1 t.dims.length j1,.slice B2 t.f.length j2,.slice B3 t.i.length j3,.slice B4 t.b.length j4]:List Value):List Value).toArray) rfl (by kernel_rfl) (by kernel_rfl) (by kernel_rfl) (by kernel_rfl) (fun c a w h=>h) (Or.inl ⟨by kernel_rfl,fun w _=>by kernel_rfl⟩) hHeld ?_
 refine anyH_store_agg 15 rfl (by kernel_rfl) (by kernel_rfl) 43 _ _ rfl (w.heap.size + 1) 0 ([.int .i64 t.type,.slice B1 t.dims.length j1,.slice B2 t.f.length j2,.slice B3 t.i.length j3,.slice B4 t.b.length j4]:List Value) (by kernel_rfl) (by kernel_rfl) 43 zeroTn HX4.out.res (by kernel_rfl) (by show 0 + 5 ≤ 5;decide) HO.out (hHeld.setRow_other (by omega) _) ?_
 refine wpAnyH_done (by kernel_rfl) ?_ _
 obtain ⟨hb,hres⟩:=HX4.out.out ([.int .i64 t.type,.slice B1 t.dims.length j1,.slice B2 t.f.length j2,.slice B3 t.i.length j3,.slice B4 t.b.length j4]:List Value) rfl
 have r1:=new_row R1.out (show w.heap.size + 1 < w.heap.size + 2 by omega) (zeroTn.take 0++([.int .i64 t.type,.slice B1 t.dims.length j1,.slice B2 t.f.length j2,.slice B3 t.i.length j3,.slice B4 t.b.length j4]:List Value)++zeroTn.drop (0 + (([.int .i64 t.type,.slice B1 t.dims.length j1,.slice B2 t.f.length j2,.slice B3 t.i.length j3,.slice B4 t.b.length j4]:List Value):List Value).length)).toArray
 have r2:=new_row R2.out (show w.heap.size + 1 < w.heap.size + 2 by omega) (zeroTn.take 0++([.int .i64 t.type,.slice B1 t.dims.length j1,.slice B2 t.f.length j2,.slice B3 t.i.length j3,.slice B4 t.b.length j4]:List Value)++zeroTn.drop (0 + (([.int .i64 t.type,.slice B1 t.dims.length j1,.slice B2 t.f.length j2,.slice B3 t.i.length j3,.slice B4 t.b.length j4]:List Value):List Value).length)).toArray
 have r3:=new_row R3.out (show w.heap.size + 1 < w.heap.size + 2 by omega) (zeroTn.take 0++([.int .i64 t.type,.slice B1 t.dims.length j1,.slice B2 t.f.length j2,.slice B3 t.i.length j3,.slice B4 t.b.length j4]:List Value)++zeroTn.drop (0 + (([.int .i64 t.type,.slice B1 t.dims.length j1,.slice B2 t.f.length j2,.slice B3 t.i.length j3,.slice B4 t.b.length j4]:List Value):List Value).length)).toArray
 have r4:=new_row R4.out (show w.heap.size + 1 < w.heap.size + 2 by omega) (zeroTn.take 0++([.int .i64 t.type,.slice B1 t.dims.length j1,.slice B2 t.f.length j2,.slice B3 t.i.length j3,.slice B4 t.b.length j4]:List Value)++zeroTn.drop (0 + (([.int .i64 t.type,.slice B1 t.dims.length j1,.slice B2 t.f.length j2,.slice B3 t.i.length j3,.slice B4 t.b.length j4]:List Value):List Value).length)).toArray
 generalize World.setRow _ _ _ = w9 at hb hres r1 r2 r3 r4 ⊢
 have HR:=Lib.hid (And.intro hb (And.intro hres (shut_TensorD HT.out.1 r1 r2 r3 r4)))
 clear hb hres r1 r2 r3 r4 hHeld
 rename_i KR aR
 change KR _ _
 refine aR _ _ (wp_ret ?_)
 refine bodyPost_ret (results_cell_row rfl _ _ (w.heap.size + 1) 43 _ (0,0) _ (by kernel_rfl) HR.out.2.1 Tryd.underlying43 rfl (by kernel_rfl)) (by kernel_rfl) ⟨_,rfl,HR.out.2.2,HR.out.1⟩
def canonT (t:TensorD):TensorD:={ t with f:=t.f.map canonD }
theorem Lies.set_other {w:World} {Z:Zone} {A:Option Addr} {xs:List Value} {p:Addr} {u:Value} (h:Lies w Z A xs) (hp:w.cell? p = some u) (hx:u ∉ xs) (v:Value):Lies (w.setCell p v) Z A xs:=fun hn=>by
 obtain ⟨b,o,hA,hb,hc⟩:=h hn
 refine ⟨b,o,hA,hb,fun j z hz=>⟨?_,?_⟩⟩
 ·refine (World.cell?_setCell_other _ _ _ _ (fun e=>?_)).trans (hc j z hz).1
  subst e
  rw [(hc j z hz).1] at hp
  injection hp with hp
  exact hx (hp ▸ List.mem_of_getElem? hz)
 ·rw [World.frozen?_setCell]
  exact (hc j z hz).2
theorem Lies.set_at {w:World} {Z:Zone} {b o:Nat} {xs:List Value} {j:Nat} (h:Lies w Z (some ⟨b,o,none⟩) xs) (hj:j < xs.length) (v:Value):Lies (w.setCell ⟨b,o + j,none⟩ v) Z (some ⟨b,o,none⟩) (xs.set j v):=fun hn=>by
 obtain ⟨b',o',hA,hb,hc⟩:=h (fun e=>by rw [e] at hj;simp at hj)
 injection hA with hA
 injection hA with h1 h2 h3
 subst h1 h2
 refine ⟨b,o,rfl,hb,fun k z hz=>⟨?_,?_⟩⟩
 ·by_cases e:j = k
  ·subst e
   rw [List.getElem?_set_self hj] at hz
   injection hz with hz
   subst hz
   exact World.cell?_setCell_same _ _ _ (hc j _ (List.getElem?_eq_getElem hj)).1
  ·rw [List.getElem?_set_ne e] at hz
   refine (World.cell?_setCell_other _ _ _ _ (fun e'=>e ?_)).trans (hc k z hz).1
   injection e' with _ e' _
   omega
 ·rw [World.frozen?_setCell]
  by_cases e:j = k
  ·subst e
   exact (hc j _ (List.getElem?_eq_getElem hj)).2
  ·rw [List.getElem?_set_ne e] at hz
   exact (hc k z hz).2
theorem ints_set {w:World} {Z:Zone} {v:Value} {l:List Int} {p:Addr} {x:Int} (h:rep w Z [v] l) (hp:w.cell? p = some (.int .u32 x)) (y:Value):rep (w.setCell p y) Z [v] l:=by
 obtain ⟨A,n,c,xs,h1,h2,h3,h4,h5,h6,h7⟩:=h
 refine ⟨A,n,c,xs,h1,h2,h3,h4,h5,h6.set_other hp (fun hm=>?_) y,Chunks.any h7⟩
 rw [chunks_ints h7] at hm
 obtain ⟨z,_,hz⟩:=List.mem_map.1 hm
 injection hz with hz
 cases hz
theorem chunks_bools {w:World} {Z:Zone}:∀ {l:List Bool} {xs:List Value},Chunks w Z xs l→xs = l.map Value.bool
 | [],_,h=>by simpa [Chunks] using h
 | a :: l,xs,⟨c,r,hx,hc,hr⟩=>by rw [hx,show c = [Value.bool a] from hc,chunks_bools hr];rfl
theorem bools_set {w:World} {Z:Zone} {v:Value} {l:List Bool} {p:Addr} {x:Int} (h:rep w Z [v] l) (hp:w.cell? p = some (.int .u32 x)) (y:Value):rep (w.setCell p y) Z [v] l:=by
 obtain ⟨A,n,c,xs,h1,h2,h3,h4,h5,h6,h7⟩:=h
 refine ⟨A,n,c,xs,h1,h2,h3,h4,h5,h6.set_other hp (fun hm=>?_) y,Chunks.any h7⟩
 rw [chunks_bools h7] at hm
 obtain ⟨z,_,hz⟩:=List.mem_map.1 hm
 cases hz
theorem chunks_u32 {w:World} {Z:Zone}:∀ {l:List Nat} {xs:List Value},Chunks w Z xs l→xs = l.map (fun n:Nat=>Value.int .u32 (n:Int))∧∀ x ∈ l,x < 4294967296
 | [],_,h=>⟨by simpa [Chunks] using h,fun x hx=>by simp at hx⟩
 | a :: l,xs,⟨c,r,hx,hc,hr⟩=>by
  obtain ⟨h1,h2⟩:=chunks_u32 hr
  refine ⟨by rw [hx,hc.1,h1];rfl,fun x hx=>?_⟩
  rcases List.mem_cons.1 hx with e | e
  ·exact e ▸ hc.2
  ·exact h2 x e
theorem chunks_of_u32 {w:World} {Z:Zone}:∀ (l:List Nat),(∀ x ∈ l,x < 4294967296)→Chunks w Z (l.map (fun n:Nat=>Value.int .u32 (n:Int))) l
 | [],_=>rfl
 | a :: l,h=>⟨[.int .u32 (a:Int)],_,rfl,⟨rfl,h a (by simp)⟩,chunks_of_u32 l fun x hx=>h x (by simp [hx])⟩
theorem u32s_set {w:World} {Z:Zone} {b o c j y:Nat} {l:List Nat} (h:rep w Z [.slice (some ⟨b,o,none⟩) l.length c] l) (hj:j < l.length) (hy:y < 4294967296) :
  rep (w.setCell ⟨b,o + j,none⟩ (.int .u32 (y:Int))) Z [.slice (some ⟨b,o,none⟩) l.length c] (l.set j y):=by
 obtain ⟨A,n,c',xs,h1,h2,h3,h4,h5,h6,h7⟩:=h
 simp only [List.cons.injEq,Value.slice.injEq,and_true] at h1
 obtain ⟨rfl,rfl,rfl⟩:=h1
 obtain ⟨hx,hb⟩:=chunks_u32 h7
 have hl:j < xs.length:=by rw [hx,List.length_map];exact hj
 refine ⟨_,_,_,xs.set j (.int .u32 (y:Int)),rfl,by rw [List.length_set],h3,h4,h5,h6.set_at hl _,?_⟩
 have e:xs.set j (.int .u32 (y:Int)) = (l.set j y).map (fun n:Nat=>Value.int .u32 (n:Int)):=by rw [hx,List.map_set]
 rw [e]
 refine chunks_of_u32 _ fun x hx=>?_
 rcases List.mem_or_eq_of_mem_set hx with h | h
 ·exact hb x h
 ·exact h ▸ hy
structure CanInv (w:World) (g:Nat) (ts:List Value) (A2:Option Addr) (n2 c2:Nat) (A1 A3 A4:Value) (t:TensorD) (j:Nat) (W:World):Prop where
 below:Below w.heap.size w W
 res:W.heap[w.heap.size + 1]? = some (.cells zeroTn.toArray 43 (0,0))
 box:W.heap[g]? = some (.cells ts.toArray 43 (0,0))
 d1:rep W (fresh (w.heap.size + 2) g) [A1] t.dims
 d2:rep W (fresh (w.heap.size + 2) g) [.slice A2 n2 c2] ((t.f.take j).map canonD++t.f.drop j)
 d3:rep W (fresh (w.heap.size + 2) g) [A3] t.i
 d4:rep W (fresh (w.heap.size + 2) g) [A4] t.b
section
variable {w W W':World} {g:Nat} {ts:List Value} {A2:Option Addr} {n2 c2:Nat} {A1 A3 A4:Value} {t:TensorD} {j:Nat}
theorem CanInv.lt (h:CanInv w g ts A2 n2 c2 A1 A3 A4 t j W):g < W.heap.size:=(Array.getElem?_eq_some_iff.1 h.box).1
theorem CanInv.drew (h:CanInv w g ts A2 n2 c2 A1 A3 A4 t j W):CanInv w g ts A2 n2 c2 A1 A3 A4 t j W.drew :=
 ⟨h.below.drew,h.res,h.box,Rep.keep h.d1 (.of_block fun _ _=>rfl),Rep.keep h.d2 (.of_block fun _ _=>rfl),Rep.keep h.d3 (.of_block fun _ _=>rfl),Rep.keep h.d4 (.of_block fun _ _=>rfl)⟩
theorem can_step {l:List Nat} {j x:Nat} (hj:l[j]? = some x):((l.take j).map canonD++l.drop j).set j (canonD x) = (l.take (j + 1)).map canonD++l.drop (j + 1):=by
 obtain ⟨hlt,hx⟩:=List.getElem?_eq_some_iff.1 hj
 have h1:((l.take j).map canonD).length = j:=by rw [List.length_map,List.length_take];omega
 rw [List.set_append,if_neg (by omega),h1,Nat.sub_self,List.drop_eq_getElem_cons hlt,List.set_cons_zero,List.take_succ_eq_append_getElem hlt,List.map_append,List.append_assoc,hx]
 rfl
theorem CanInv.set {b o x:Nat} (h:CanInv w g ts (some ⟨b,o,none⟩) t.f.length c2 A1 A3 A4 t j W) (hn:w.heap.size + 2 ≤ b) (hb:b < g) (hj:t.f[j]? = some x) (hc:W.cell? ⟨b,o + j,none⟩ = some (.int .u32 (x:Int))) (hx:x < 4294967296) :
  CanInv w g ts (some ⟨b,o,none⟩) t.f.length c2 A1 A3 A4 t (j + 1) (W.setCell ⟨b,o + j,none⟩ (.int .u32 (canonD x:Int))):=by
 obtain ⟨hlt,_⟩:=List.getElem?_eq_some_iff.1 hj
 have hlen:((t.f.take j).map canonD++t.f.drop j).length = t.f.length:=by rw [List.length_append,List.length_map,List.length_take,List.length_drop];omega
 have h2:=h.d2
 rw [← hlen] at h2
 have h3:=u32s_set h2 (j:=j) (y:=canonD x) (by rw [hlen];exact hlt) (canon_lt hx)
 rw [can_step hj,hlen] at h3
 have hbl:Below (w.heap.size + 2) W (W.setCell ⟨b,o + j,none⟩ (.int .u32 (canonD x:Int))):=⟨rfl,rfl,rfl,by rw [World.size_setCell];exact Nat.le_refl _,fun k hk=>Below.heap_setCell W _ _ k (by show k ≠ b;omega)⟩
 exact ⟨h.below.trans (hbl.mono (by omega)),(hbl.block _ (by omega)).trans h.res,(Below.heap_setCell W _ _ g (by show g ≠ b;omega)).trans h.box,ints_set h.d1 hc _,h3,ints_set h.d3 hc _,bools_set h.d4 hc _⟩
end
set_option maxRecDepth 100000 in
set_option maxHeartbeats 8000000 in
theorem tcanon_any (cs:List Value) (t:TensorD) (w:World) (hr:rep w (old w.heap.size) cs t) :
  Calls Tryd.prog 116 #[.agg cs.toArray] w fun e w'=>∃ ts:List Value,e = .returned (.agg ts.toArray)∧rep w' (fresh (w.heap.size + 2) w'.heap.size) ts (canonT t)∧Below w.heap.size w w':=by
 have hr':=hr
 obtain ⟨A1,k1,A2,k2,A3,k3,A4,k4,rfl,htI,t1,t2,t3,t4⟩:=open_TensorD hr
 have HT:=Lib.hid (And.intro hr' htI)
 clear hr hr' htI t1 t2 t3 t4
 go_enter Tryd.func116,Tryd.ntmps116
 go_wp2_with (first
  |(with_reducible refine wpList_box_row rfl 43 _ rfl [.int .i64 t.type,.slice A1 t.dims.length k1,.slice A2 t.f.length k2,.slice A3 t.i.length k3,.slice A4 t.b.length k4] rfl ?_)
  |(with_reducible refine wpList_alloc_row rfl 43 rfl zeroTn zeroTn_zero ?_;have hX:=pair_start w 43 43 [.int .i64 t.type,.slice A1 t.dims.length k1,.slice A2 t.f.length k2,.slice A3 t.i.length k3,.slice A4 t.b.length k4] zeroTn;generalize World.alloc _ (.cells zeroTn.toArray _) = W0 at hX ⊢;have HX:=Lib.hid hX;clear hX;refine halt ?_))
 unfold Halt
 go_wp2_with (first
  |(with_reducible refine wpList_load_agg rfl 43 _ rfl _ _ _ rfl [.int .i64 t.type,.slice A1 t.dims.length k1,.slice A2 t.f.length k2,.slice A3 t.i.length k3,.slice A4 t.b.length k4] Tryd.underlying43 rfl (by kernel_rfl) (At.of_row HX.out.src) ?_))
 refine (tcopy_any _ t W0 (HX.out.keeps HT.out.1)).mono ?_
 rintro e w1 ⟨ts,rfl,hv,hb⟩
 obtain ⟨B1,j1,B2,j2,B3,j3,B4,j4,rfl,-,u1,u2,u3,u4⟩:=open_TensorD hv
 have HX1:=Lib.hid (HX.out.next hb)
 have z0:w.heap.size + 2 ≤ W0.heap.size:=HX.out.lt
 have HU:=Lib.hid (And.intro (new_more u1 (show w.heap.size + 2 ≤ _ by omega)) (And.intro (new_more u2 (show w.heap.size + 2 ≤ _ by omega)) (And.intro (new_more u3 (show w.heap.size + 2 ≤ _ by omega)) (new_more u4 (show w.heap.size + 2 ≤ _ by omega)))))
 have HON:=Lib.hid (one5' (a:=.int .i64 t.type) (b:=.slice B1 t.dims.length j1) (c:=.slice B2 t.f.length j2) (d:=.slice B3 t.i.length j3) (e:=.slice B4 t.b.length j4) rfl rfl rfl rfl rfl)
 obtain ⟨n2,n2'⟩:=slice_bnd u2
 clear hv hb u1 u2 u3 u4 z0 HX
 go_wp2_with (first
  |(with_reducible refine wpList_alloc_row rfl 43 rfl zeroTn zeroTn_zero ?_)
  |(with_reducible refine wpList_store_agg rfl 43 _ _ rfl _ 0 ([.int .i64 t.type,.slice B1 t.dims.length j1,.slice B2 t.f.length j2,.slice B3 t.i.length j3,.slice B4 t.b.length j4]:List Value) rfl rfl 43 zeroTn (heap_alloc_new _ _) (by kernel_rfl) (of_decide_eq_true (by kernel_rfl)) HON.out ?_;have hX:=laid_row w1 43 zeroTn ([.int .i64 t.type,.slice B1 t.dims.length j1,.slice B2 t.f.length j2,.slice B3 t.i.length j3,.slice B4 t.b.length j4]:List Value) rfl;generalize World.setRow _ _ _ = w2 at hX ⊢;have HX2:=Lib.hid hX;clear hX;refine halt ?_))
 unfold Halt
 have h0:CanInv w w1.heap.size ([.int .i64 t.type,.slice B1 t.dims.length j1,.slice B2 t.f.length j2,.slice B3 t.i.length j3,.slice B4 t.b.length j4]:List Value) B2 t.f.length j2 (.slice B1 t.dims.length j1) (.slice B3 t.i.length j3) (.slice B4 t.b.length j4) t 0 w2:=by
  have hb2:=HX2.out.1
  have kp:∀ {α:Type} [Rep α] {v:Value} {l:α},rep w1 (fresh (w.heap.size + 2) w1.heap.size) [v] l→rep w2 (fresh (w.heap.size + 2) w1.heap.size) [v] l:=fun h=>Rep.keep h (.of_below hb2 fun _ hk=>hk.2)
  exact ⟨(HX1.out.next hb2).below,(HX1.out.next hb2).res,HX2.out.2.1,kp HU.out.1,by simpa using kp HU.out.2.1,kp HU.out.2.2.1,kp HU.out.2.2.2⟩
 have H0:=Lib.hid h0
 have k2:w2.cell? ⟨w1.heap.size,2,none⟩ = some (.slice B2 t.f.length j2):=cell_of_row _ _ _ _ _ _ HX2.out.2.1
 clear h0 HU
 go_wp2_with fail
 clear k2
 go_loopw [11] (fun i wr=>∃ j:Nat,i = .int .i64 (j:Int)∧CanInv w w1.heap.size ([.int .i64 t.type,.slice B1 t.dims.length j1,.slice B2 t.f.length j2,.slice B3 t.i.length j3,.slice B4 t.b.length j4]:List Value) B2 t.f.length j2 (.slice B1 t.dims.length j1) (.slice B3 t.i.length j3) (.slice B4 t.b.length j4) t j wr) (fun i _=>t.f.length - (intOf i).toNat)
 case atStart=>exact ⟨0,rfl,H0.out⟩
 case round =>
  obtain ⟨j,rfl,hC⟩:=hrel
  have HC:=Lib.hid hC
  clear hC
  by_cases hj:j < t.f.length
  ·obtain ⟨x,hx⟩:∃ x,t.f[j]? = some x:=⟨_,List.getElem?_eq_getElem hj⟩
   obtain ⟨A',c',xs,hv,-,-,-,hl,hch⟩:=open_slice (l:=(t.f.take j).map canonD++t.f.drop j) (v:=.slice B2 t.f.length j2) HC.out.d2
   obtain ⟨hxs,hlt⟩:=chunks_u32 hch
   have hlen:((t.f.take j).map canonD++t.f.drop j).length = t.f.length:=by rw [List.length_append,List.length_map,List.length_take,List.length_drop];omega
   have hget:((t.f.take j).map canonD++t.f.drop j)[j]? = some x:=by
    have h1:((t.f.take j).map canonD).length = j:=by rw [List.length_map,List.length_take];omega
    rw [List.getElem?_append_right (by omega),h1,Nat.sub_self,List.getElem?_drop];exact hx
   obtain ⟨b,o,xc,hA,hbZ,hrz,hcell⟩:=elem_at hl hch (by decide) hget
   injection hv with hv1 hv2 hv3
   subst hv1
   subst hA
   have hx32:x < 4294967296:=hlt x (List.mem_of_getElem? hget)
   have kc:wr.cell? ⟨b,o + j,none⟩ = some (.int .u32 (x:Int)):=cell_of_elem (α:=Nat) rfl hcell (by rw [hrz.1];rfl)
   have kf:wr.frozen? ⟨b,o + j,none⟩ = false:=by
    have:=(hcell 0 _ (by rw [hrz.1];rfl)).2 rfl
    simpa [Rep.size] using this
   have hj0:(0:Int) ≤ (j:Int):=Int.natCast_nonneg _
   have hj1:(j:Int) < (t.f.length:Int):=by omega
   have HB:=Lib.hid (And.intro hbZ (And.intro kc (And.intro kf (And.intro hx hx32))))
   clear hv2 hv3 hl hch hxs hlt hlen hget hrz hcell hbZ hx kf
   go_wp2_with fail
   have HCd:=Lib.hid HC.out.drew
   refine wp_region_held_drew (S:=fun W=>W.cell? ⟨w1.heap.size,2,none⟩ = some (.slice (some ⟨b,o,none⟩) t.f.length j2)) (by kernel_rfl) (cell_of_row _ _ _ _ _ _ HCd.out.box) (fun hHeld=>?_)
   refine take_d9 0 (some 16) (v:=.pointer (some ⟨w1.heap.size,2,none⟩)) rfl (by kernel_rfl) (by kernel_rfl) (by kernel_rfl) (by kernel_rfl) (fun c a w h=>h) (Or.inl ⟨by kernel_rfl,fun w _=>by kernel_rfl⟩) hHeld ?_
   refine take_d9 1 (some 17) (v:=.slice (some ⟨b,o,none⟩) t.f.length j2) rfl (by kernel_rfl) (by kernel_rfl) (by kernel_rfl) (by kernel_rfl) (fun c a w h=>h) (yields_load_slice (by kernel_rfl) _ _ rfl w1.heap.size 2 (by kernel_rfl) _ Tryd.underlying39 (fun _ h=>h)) hHeld ?_
   refine take_d9 2 (some 18) (v:=.int .i64 (j:Int)) rfl (by kernel_rfl) (by kernel_rfl) (by kernel_rfl) (by kernel_rfl) (fun c a w h=>h) (Or.inl ⟨by kernel_rfl,fun w _=>by kernel_rfl⟩) hHeld ?_
   refine take_d9 3 (some 19) (v:=.int .u32 (x:Int)) rfl (by kernel_rfl) (by kernel_rfl) (by kernel_rfl) (by kernel_rfl) (fun c a w h=>h) (Or.inl ⟨by kernel_rfl,fun w _=>by kernel_rfl⟩) hHeld ?_
   refine call_d9 4 (some 20) rfl (by kernel_rfl) (by kernel_rfl) (by kernel_rfl) 126 _ _ rfl #[.int .u32 (x:Int)] (by kernel_rfl) (fun w=>by kernel_rfl) ?_
   refine (canon_any x wr.drew HB.out.2.2.2.2).mono ?_
   rintro e w4 ⟨rfl,rfl⟩
   refine ⟨_,rfl,hHeld,?_⟩
   refine take_d9 5 (some 21) (v:=.pointer (some ⟨b,o + j * 1,none⟩)) rfl (by kernel_rfl) (by kernel_rfl) (by kernel_rfl) (by kernel_rfl) (fun c a w h=>h) (yields_indexI (by kernel_rfl) _ _ _ rfl b o t.f.length j2 j 1 (j:Int) (by kernel_rfl) (by kernel_rfl) Tryd.underlying39 (by kernel_rfl) rfl hj) hHeld ?_
   have hs:CanInv w w1.heap.size ([.int .i64 t.type,.slice B1 t.dims.length j1,.slice (some ⟨b,o,none⟩) t.f.length j2,.slice B3 t.i.length j3,.slice B4 t.b.length j4]:List Value) (some ⟨b,o,none⟩) t.f.length j2 (.slice B1 t.dims.length j1) (.slice B3 t.i.length j3) (.slice B4 t.b.length j4) t (j + 1) (wr.drew.setCell ⟨b,o + j * 1,none⟩ (.int .u32 (canonD x:Int))):=by
    rw [Nat.mul_one]
    exact HCd.out.set HB.out.1.1 HB.out.1.2 HB.out.2.2.2.1 HB.out.2.1 HB.out.2.2.2.2
   refine anyH_store_cell9 6 rfl (by kernel_rfl) (by kernel_rfl) 38 _ _ rfl b (o + j * 1) (.int .u32 (canonD x:Int)) (.int .u32 (x:Int)) (by kernel_rfl) (by kernel_rfl) rfl (by kernel_rfl) (by rw [Nat.mul_one];exact HB.out.2.1) (by rw [Nat.mul_one];exact HB.out.2.2.1) (cell_of_row _ _ _ _ _ _ hs.box) ?_
   refine wpAnyH_done (by kernel_rfl) ?_ _
   generalize World.setCell _ _ _ = wn at hs ⊢
   have HN:=Lib.hid hs
   clear hs hHeld kc
   go_wp2
   go_roundw
   case rel=>exact ⟨j + 1,by go_num,HN.out⟩
   case measure=>simp [intOf];omega
  ·have hj2:¬ ((j:Int) < (t.f.length:Int)):=by omega
   have htk:(t.f.take j).map canonD++t.f.drop j = t.f.map canonD:=by rw [List.take_of_length_le (by omega),List.drop_of_length_le (by omega),List.append_nil]
   have HTK:=Lib.hid htk
   clear hj htk
   go_wp2_with (first
    |(with_reducible refine wpList_load_agg rfl 43 _ rfl _ _ _ rfl ([.int .i64 t.type,.slice B1 t.dims.length j1,.slice B2 t.f.length j2,.slice B3 t.i.length j3,.slice B4 t.b.length j4]:List Value) Tryd.underlying43 rfl (by kernel_rfl) (At.of_row HC.out.box) ?_)
    |(with_reducible refine wpList_store_agg rfl 43 _ _ rfl (w.heap.size + 1) 0 ([.int .i64 t.type,.slice B1 t.dims.length j1,.slice B2 t.f.length j2,.slice B3 t.i.length j3,.slice B4 t.b.length j4]:List Value) rfl rfl 43 zeroTn HC.out.res (by kernel_rfl) (of_decide_eq_true (by kernel_rfl)) HON.out ?_))
   have hfull:zeroTn.take 0++([.int .i64 t.type,.slice B1 t.dims.length j1,.slice B2 t.f.length j2,.slice B3 t.i.length j3,.slice B4 t.b.length j4]:List Value)++zeroTn.drop (0 + (([.int .i64 t.type,.slice B1 t.dims.length j1,.slice B2 t.f.length j2,.slice B3 t.i.length j3,.slice B4 t.b.length j4]:List Value)).length) = ([.int .i64 t.type,.slice B1 t.dims.length j1,.slice B2 t.f.length j2,.slice B3 t.i.length j3,.slice B4 t.b.length j4]:List Value):=rfl
   have hres:(wr.setRow (w.heap.size + 1) (zeroTn.take 0++([.int .i64 t.type,.slice B1 t.dims.length j1,.slice B2 t.f.length j2,.slice B3 t.i.length j3,.slice B4 t.b.length j4]:List Value)++zeroTn.drop (0 + (([.int .i64 t.type,.slice B1 t.dims.length j1,.slice B2 t.f.length j2,.slice B3 t.i.length j3,.slice B4 t.b.length j4]:List Value)).length)).toArray).heap[w.heap.size + 1]? = some (.cells (([.int .i64 t.type,.slice B1 t.dims.length j1,.slice B2 t.f.length j2,.slice B3 t.i.length j3,.slice B4 t.b.length j4]:List Value)).toArray 43 (0,0)):=heap_setRow _ _ _ _ _ HC.out.res
   refine bodyPost_ret (results_cell_row rfl _ _ (w.heap.size + 1) 43 _ (0,0) _ rfl hres Tryd.underlying43 rfl (by kernel_rfl)) rfl ⟨_,rfl,?_,below_setRow' HC.out.below (by omega) _⟩
   have kp:∀ {α:Type} [Rep α] {v:Value} {l:α},rep wr (fresh (w.heap.size + 2) w1.heap.size) [v] l→rep (wr.setRow (w.heap.size + 1) (zeroTn.take 0++([.int .i64 t.type,.slice B1 t.dims.length j1,.slice B2 t.f.length j2,.slice B3 t.i.length j3,.slice B4 t.b.length j4]:List Value)++zeroTn.drop (0 + (([.int .i64 t.type,.slice B1 t.dims.length j1,.slice B2 t.f.length j2,.slice B3 t.i.length j3,.slice B4 t.b.length j4]:List Value)).length)).toArray) (fresh (w.heap.size + 2) (wr.setRow (w.heap.size + 1) (zeroTn.take 0++([.int .i64 t.type,.slice B1 t.dims.length j1,.slice B2 t.f.length j2,.slice B3 t.i.length j3,.slice B4 t.b.length j4]:List Value)++zeroTn.drop (0 + (([.int .i64 t.type,.slice B1 t.dims.length j1,.slice B2 t.f.length j2,.slice B3 t.i.length j3,.slice B4 t.b.length j4]:List Value)).length)).toArray).heap.size) [v] l :=
    fun h=>Rep.more (Rep.keep h (keep_row (by omega) _)) (fresh_le (Nat.le_refl _) (by rw [size_setRow];exact Nat.le_of_lt HC.out.lt))
   have d2:=HC.out.d2
   rw [HTK.out] at d2
   exact shut_TensorD (a:=canonT t) HT.out.2 (kp HC.out.d1) (kp d2) (kp HC.out.d3) (kp HC.out.d4)
end Go.Proofs.YtgbkhcmbmffljaaDoor
set_option linter.unusedSimpArgs false
set_option linter.unusedVariables false
namespace Go.Proofs.YtgbkhcmbmffljaaDoor
open Go.RowKit
open Rep (rep)
def zeroV:List Value:=[.int .i64 0,.slice none 0 0,.bool false,.int .i64 0,.slice none 0 0,.slice none 0 0,.slice none 0 0,.slice none 0 0]
theorem zeroV_zero:(Tryd.prog.info? 75).bind (·.zero) = some (.agg zeroV.toArray):=by kernel_rfl
def constD (t:TensorD):ValD:=⟨t.type,t.dims,true,canonT t⟩
theorem val_one (p q:Int) (n1 c1 n2 c2 n3 c3 n4 c4 n5 c5:Nat) (A1 A2 A3 A4 A5:Option Addr) (b:Bool) (x:Unit):∀ u ∈ ([.int .i64 p,.slice A1 n1 c1,.bool b,.int .i64 q,.slice A2 n2 c2,.slice A3 n3 c3,.slice A4 n4 c4,.slice A5 n5 c5]:List Value),u.oneCell' = true:=by
 intro u hu
 simp only [List.mem_cons,List.not_mem_nil,or_false] at hu
 rcases hu with h | h | h | h | h | h | h | h <;> rw [h] <;> rfl
theorem canonT_len (t:TensorD):(canonT t).f.length = t.f.length:=by unfold canonT;simp
theorem tcanon_open (cs:List Value) (t:TensorD) (w:World) (hr:rep w (old w.heap.size) cs t) :
  Calls Tryd.prog 116 #[.agg cs.toArray] w fun e w'=>∃ (B1:Option Addr) (j1:Nat) (B2:Option Addr) (j2:Nat) (B3:Option Addr) (j3:Nat) (B4:Option Addr) (j4:Nat),e = .returned (.agg (([.int .i64 t.type,.slice B1 t.dims.length j1,.slice B2 t.f.length j2,.slice B3 t.i.length j3,.slice B4 t.b.length j4]:List Value)).toArray) ∧
   rep w' (fresh (w.heap.size + 2) w'.heap.size) [.slice B1 t.dims.length j1] t.dims∧rep w' (fresh (w.heap.size + 2) w'.heap.size) [.slice B2 t.f.length j2] (canonT t).f∧rep w' (fresh (w.heap.size + 2) w'.heap.size) [.slice B3 t.i.length j3] t.i∧rep w' (fresh (w.heap.size + 2) w'.heap.size) [.slice B4 t.b.length j4] t.b∧Below w.heap.size w w':=by
 refine (tcanon_any cs t w hr).mono ?_
 rintro e w1 ⟨ts,rfl,hv,hb⟩
 obtain ⟨B1,j1,B2,j2,B3,j3,B4,j4,rfl,uI,u1,u2,u3,u4⟩:=open_TensorD hv
 rw [canonT_len] at u2
 exact ⟨B1,j1,B2,j2,B3,j3,B4,j4,by rw [canonT_len];rfl,u1,u2,u3,u4,hb⟩
set_option maxRecDepth 100000 in
set_option maxHeartbeats 8000000 in
theorem constant_any (cs:List Value) (t:TensorD) (w:World) (hr:rep w (old w.heap.size) cs t) :
  Calls Tryd.prog 87 #[.agg cs.toArray] w fun e w'=>∃ vs:List Value,e = .returned (.agg vs.toArray)∧rep w' (fresh (w.heap.size + 2) w'.heap.size) vs (constD t)∧Below w.heap.size w w':=by
 have hr':=hr
 obtain ⟨A1,k1,A2,k2,A3,k3,A4,k4,rfl,htI,t1,t2,t3,t4⟩:=open_TensorD hr
 have HT:=Lib.hid (And.intro hr' htI)
 clear hr hr' htI t1 t2 t3 t4
 go_enter Tryd.func87,Tryd.ntmps87
 go_wp2_with (first
  |(with_reducible refine wpList_box_row rfl 43 _ rfl ([.int .i64 t.type,.slice A1 t.dims.length k1,.slice A2 t.f.length k2,.slice A3 t.i.length k3,.slice A4 t.b.length k4]:List Value) rfl ?_)
  |(with_reducible refine wpList_alloc_row rfl 75 rfl zeroV zeroV_zero ?_;have hX:=pair_start w 43 75 ([.int .i64 t.type,.slice A1 t.dims.length k1,.slice A2 t.f.length k2,.slice A3 t.i.length k3,.slice A4 t.b.length k4]:List Value) zeroV;generalize World.alloc _ (.cells zeroV.toArray _) = W0 at hX ⊢;have HX:=Lib.hid hX;clear hX;refine halt ?_))
 unfold Halt
 go_wp2_with (first
  |(with_reducible refine wpList_load_agg rfl 43 _ rfl _ _ _ rfl ([.int .i64 t.type,.slice A1 t.dims.length k1,.slice A2 t.f.length k2,.slice A3 t.i.length k3,.slice A4 t.b.length k4]:List Value) Tryd.underlying43 rfl (by kernel_rfl) (At.of_row HX.out.src) ?_))
 refine (tcanon_open _ t W0 (HX.out.keeps HT.out.1)).mono ?_
 rintro e w1 ⟨B1,j1,B2,j2,B3,j3,B4,j4,rfl,u1,u2,u3,u4,hb⟩
 have HX1:=Lib.hid (HX.out.next hb)
 have z0:w.heap.size + 2 ≤ W0.heap.size:=HX.out.lt
 have HU:=Lib.hid (And.intro (new_more u1 (show w.heap.size + 2 ≤ _ by omega)) (And.intro (new_more u2 (show w.heap.size + 2 ≤ _ by omega)) (And.intro (new_more u3 (show w.heap.size + 2 ≤ _ by omega)) (new_more u4 (show w.heap.size + 2 ≤ _ by omega)))))
 have HON:=Lib.hid (one5' (a:=.int .i64 t.type) (b:=.slice B1 t.dims.length j1) (c:=.slice B2 t.f.length j2) (d:=.slice B3 t.i.length j3) (e:=.slice B4 t.b.length j4) rfl rfl rfl rfl rfl)
 have z1:w.heap.size + 2 ≤ w1.heap.size:=by have:=hb.size;omega
 clear hb u1 u2 u3 u4 z0 HX
 go_wp2_with (first
  |(with_reducible refine wpList_alloc_row rfl 43 rfl zeroTn zeroTn_zero ?_)
  |(with_reducible refine wpList_store_agg rfl 43 _ _ rfl _ 0 ([.int .i64 t.type,.slice B1 t.dims.length j1,.slice B2 t.f.length j2,.slice B3 t.i.length j3,.slice B4 t.b.length j4]:List Value) rfl rfl 43 zeroTn (heap_alloc_new _ _) (by kernel_rfl) (of_decide_eq_true (by kernel_rfl)) HON.out ?_;have hX:=laid_row w1 43 zeroTn ([.int .i64 t.type,.slice B1 t.dims.length j1,.slice B2 t.f.length j2,.slice B3 t.i.length j3,.slice B4 t.b.length j4]:List Value) rfl;generalize World.setRow _ _ _ = w2 at hX ⊢;have HX2:=Lib.hid hX;clear hX;refine halt ?_))
 unfold Halt
 have HX3:=Lib.hid ((HX1.out.next HX2.out.1).drew)
 have HAt:=Lib.hid (show At w2.drew w1.heap.size 0 ([.int .i64 t.type,.slice B1 t.dims.length j1,.slice B2 t.f.length j2,.slice B3 t.i.length j3,.slice B4 t.b.length j4]:List Value) from At.of_row HX2.out.2.1)
 have z2:w2.heap.size = w1.heap.size + 1:=HX2.out.2.2
 have kp:∀ {α:Type} [Rep α] {v:List Value} {l:α},rep w1 (fresh (w.heap.size + 2) w1.heap.size) v l→rep w2.drew (fresh (w.heap.size + 2) w2.drew.heap.size) v l:=fun h=>new_next h HX2.out.1.drew
 have HU2:=Lib.hid (And.intro (kp HU.out.1) (And.intro (kp HU.out.2.1) (And.intro (kp HU.out.2.2.1) (kp HU.out.2.2.2))))
 clear kp HU
 go_wp2_with fail
 refine wp_region_held_drew (S:=fun W=>At W w1.heap.size 0 ([.int .i64 t.type,.slice B1 t.dims.length j1,.slice B2 t.f.length j2,.slice B3 t.i.length j3,.slice B4 t.b.length j4]:List Value)) (by kernel_rfl) HAt.out (fun hHeld=>?_)
 refine take_d9 0 (some 6) (v:=.pointer (some ⟨w1.heap.size,0,none⟩)) rfl (by kernel_rfl) (by kernel_rfl) (by kernel_rfl) (by kernel_rfl) (fun c a w h=>h) (Or.inl ⟨by kernel_rfl,fun w _=>by kernel_rfl⟩) hHeld ?_
 refine take_d9 1 (some 7) (v:=.int .i64 t.type) rfl (by kernel_rfl) (by kernel_rfl) (by kernel_rfl) (by kernel_rfl) (fun c a w h=>h) (yields_load_one9 (by kernel_rfl) _ _ rfl w1.heap.size 0 (by kernel_rfl) _ _ Tryd.underlying3 rfl (fun _ h=>h 0 _ rfl)) hHeld ?_
 refine take_d9 2 (some 8) (v:=.pointer (some ⟨w1.heap.size,1,none⟩)) rfl (by kernel_rfl) (by kernel_rfl) (by kernel_rfl) (by kernel_rfl) (fun c a w h=>h) (Or.inl ⟨by kernel_rfl,fun w _=>by kernel_rfl⟩) hHeld ?_
 refine take_d9 3 (some 9) (v:=.slice B1 t.dims.length j1) rfl (by kernel_rfl) (by kernel_rfl) (by kernel_rfl) (by kernel_rfl) (fun c a w h=>h) (yields_load_one9 (by kernel_rfl) _ _ rfl w1.heap.size 1 (by kernel_rfl) _ _ Tryd.underlying37 rfl (fun _ h=>h 1 _ rfl)) hHeld ?_
 refine take_d9 5 (some 11) (v:=.agg (([.int .i64 t.type,.slice B1 t.dims.length j1,.slice B2 t.f.length j2,.slice B3 t.i.length j3,.slice B4 t.b.length j4]:List Value)).toArray) rfl (by kernel_rfl) (by kernel_rfl) (by kernel_rfl) (by kernel_rfl) (fun c a w h=>h) (yields_load_agg (by kernel_rfl) 43 _ rfl _ w1.heap.size 0 (by kernel_rfl) ([.int .i64 t.type,.slice B1 t.dims.length j1,.slice B2 t.f.length j2,.slice B3 t.i.length j3,.slice B4 t.b.length j4]:List Value) Tryd.underlying43 rfl (by kernel_rfl) (fun _ h=>h)) hHeld ?_
 refine call_d9 4 (some 10) rfl (by kernel_rfl) (by kernel_rfl) (by kernel_rfl) 88 _ _ rfl #[.slice B1 t.dims.length j1] (by kernel_rfl) (fun w=>by kernel_rfl) ?_
 refine ((clone_ints t.dims _ w2.drew (Rep.more HU2.out.1 (fresh_old (Nat.le_refl _)))).mono (fun _ _ h=>sliced h)).mono ?_
 rintro e w4 ⟨C1,c1,rfl,hv,hb⟩
 have HX4:=Lib.hid (HX3.out.next hb)
 have hAt4:At w4 w1.heap.size 0 ([.int .i64 t.type,.slice B1 t.dims.length j1,.slice B2 t.f.length j2,.slice B3 t.i.length j3,.slice B4 t.b.length j4]:List Value):=HAt.out.keep hb (by rw [World.size_drew];omega)
 have HU4:=Lib.hid (And.intro (new_more hv (show w.heap.size + 2 ≤ _ by rw [World.size_drew];omega)) (And.intro (new_next HU2.out.1 hb) (And.intro (new_next HU2.out.2.1 hb) (And.intro (new_next HU2.out.2.2.1 hb) (new_next HU2.out.2.2.2 hb)))))
 have z4:w1.heap.size < w4.heap.size:=by have:=hb.size;rw [World.size_drew] at this;omega
 clear hv hb
 refine ⟨_,rfl,hAt4,?_⟩
 refine take_d9 6 (some 12) (v:=.agg (([.int .i64 t.type,.slice C1 t.dims.length c1,.bool true,.int .i64 t.type,.slice B1 t.dims.length j1,.slice B2 t.f.length j2,.slice B3 t.i.length j3,.slice B4 t.b.length j4]:List Value)).toArray) rfl (by kernel_rfl) (by kernel_rfl) (by kernel_rfl) (by kernel_rfl) (fun c a w h=>h) (Or.inl ⟨by kernel_rfl,fun w _=>by kernel_rfl⟩) hAt4 ?_
 refine anyH_store_agg 7 rfl (by kernel_rfl) (by kernel_rfl) 75 _ _ rfl (w.heap.size + 1) 0 ([.int .i64 t.type,.slice C1 t.dims.length c1,.bool true,.int .i64 t.type,.slice B1 t.dims.length j1,.slice B2 t.f.length j2,.slice B3 t.i.length j3,.slice B4 t.b.length j4]:List Value) (by kernel_rfl) (by kernel_rfl) 75 zeroV HX4.out.res (by kernel_rfl) (of_decide_eq_true (by kernel_rfl)) (val_one _ _ _ _ _ _ _ _ _ _ _ _ _ _ _ _ _ _ ()) (hAt4.setRow_other (by omega) _) ?_
 refine wpAnyH_done (by kernel_rfl) ?_ _
 obtain ⟨hb,hres⟩:=HX4.out.out ([.int .i64 t.type,.slice C1 t.dims.length c1,.bool true,.int .i64 t.type,.slice B1 t.dims.length j1,.slice B2 t.f.length j2,.slice B3 t.i.length j3,.slice B4 t.b.length j4]:List Value) rfl
 have s1:=new_row HU4.out.1 (show w.heap.size + 1 < w.heap.size + 2 by omega) (zeroV.take 0++([.int .i64 t.type,.slice C1 t.dims.length c1,.bool true,.int .i64 t.type,.slice B1 t.dims.length j1,.slice B2 t.f.length j2,.slice B3 t.i.length j3,.slice B4 t.b.length j4]:List Value)++zeroV.drop (0 + (([.int .i64 t.type,.slice C1 t.dims.length c1,.bool true,.int .i64 t.type,.slice B1 t.dims.length j1,.slice B2 t.f.length j2,.slice B3 t.i.length j3,.slice B4 t.b.length j4]:List Value)).length)).toArray
 have s2:=new_row HU4.out.2.1 (show w.heap.size + 1 < w.heap.size + 2 by omega) (zeroV.take 0++([.int .i64 t.type,.slice C1 t.dims.length c1,.bool true,.int .i64 t.type,.slice B1 t.dims.length j1,.slice B2 t.f.length j2,.slice B3 t.i.length j3,.slice B4 t.b.length j4]:List Value)++zeroV.drop (0 + (([.int .i64 t.type,.slice C1 t.dims.length c1,.bool true,.int .i64 t.type,.slice B1 t.dims.length j1,.slice B2 t.f.length j2,.slice B3 t.i.length j3,.slice B4 t.b.length j4]:List Value)).length)).toArray
 have s3:=new_row HU4.out.2.2.1 (show w.heap.size + 1 < w.heap.size + 2 by omega) (zeroV.take 0++([.int .i64 t.type,.slice C1 t.dims.length c1,.bool true,.int .i64 t.type,.slice B1 t.dims.length j1,.slice B2 t.f.length j2,.slice B3 t.i.length j3,.slice B4 t.b.length j4]:List Value)++zeroV.drop (0 + (([.int .i64 t.type,.slice C1 t.dims.length c1,.bool true,.int .i64 t.type,.slice B1 t.dims.length j1,.slice B2 t.f.length j2,.slice B3 t.i.length j3,.slice B4 t.b.length j4]:List Value)).length)).toArray
 have s4:=new_row HU4.out.2.2.2.1 (show w.heap.size + 1 < w.heap.size + 2 by omega) (zeroV.take 0++([.int .i64 t.type,.slice C1 t.dims.length c1,.bool true,.int .i64 t.type,.slice B1 t.dims.length j1,.slice B2 t.f.length j2,.slice B3 t.i.length j3,.slice B4 t.b.length j4]:List Value)++zeroV.drop (0 + (([.int .i64 t.type,.slice C1 t.dims.length c1,.bool true,.int .i64 t.type,.slice B1 t.dims.length j1,.slice B2 t.f.length j2,.slice B3 t.i.length j3,.slice B4 t.b.length j4]:List Value)).length)).toArray
 have s5:=new_row HU4.out.2.2.2.2 (show w.heap.size + 1 < w.heap.size + 2 by omega) (zeroV.take 0++([.int .i64 t.type,.slice C1 t.dims.length c1,.bool true,.int .i64 t.type,.slice B1 t.dims.length j1,.slice B2 t.f.length j2,.slice B3 t.i.length j3,.slice B4 t.b.length j4]:List Value)++zeroV.drop (0 + (([.int .i64 t.type,.slice C1 t.dims.length c1,.bool true,.int .i64 t.type,.slice B1 t.dims.length j1,.slice B2 t.f.length j2,.slice B3 t.i.length j3,.slice B4 t.b.length j4]:List Value)).length)).toArray
 generalize World.setRow _ _ _ = w9 at hb hres s1 s2 s3 s4 s5 ⊢
 have hval:rep w9 (fresh (w.heap.size + 2) w9.heap.size) ([.int .i64 t.type,.slice C1 t.dims.length c1,.bool true,.int .i64 t.type,.slice B1 t.dims.length j1,.slice B2 t.f.length j2,.slice B3 t.i.length j3,.slice B4 t.b.length j4]:List Value) (constD t):=shut_ValD (a:=constD t) HT.out.2 s1 (shut_TensorD (a:=canonT t) HT.out.2 s2 s3 s4 s5)
 have HR:=Lib.hid (And.intro hb (And.intro hres hval))
 clear hb hres hval s1 s2 s3 s4 s5 hHeld hAt4
 rename_i KR aR
 change KR _ _
 refine aR _ _ (wp_ret ?_)
 refine bodyPost_ret (results_cell_row rfl _ _ (w.heap.size + 1) 75 _ (0,0) _ (by kernel_rfl) HR.out.2.1 Tryd.underlying75 rfl (by kernel_rfl)) (by kernel_rfl) ⟨_,rfl,HR.out.2.2,HR.out.1⟩
end Go.Proofs.YtgbkhcmbmffljaaDoor
