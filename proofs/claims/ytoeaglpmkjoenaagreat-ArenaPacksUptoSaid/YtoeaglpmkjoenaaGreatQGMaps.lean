/-
  Chapter 09: soft.Canon, tens.own, tens.Copy.
-/
/-
  Chapter 09: graph.constant.
-/
/-
  'Attrs': the names of an operator's attributes.
-/
/-
  The document's examples of chapter 08: the program answers them.
-/
/-
  A node whose attributes are laid anew, one by one: what a law's loop holds of it. A list turned round.
-/
/-
  Chapter 09: nodes of graphs: their cells; latticeref09.SameNode of equal ones.
-/
/-
  A map from texts to numbers that the call has made: what it says of each text.
-/
/-
  A map from numbers to numbers that the call has made: what it says of each number.
-/
import Derived.Test.YtoeaglpmkjoenaaGreatQResV
import Derived.Test.YtoeaglpmkjoenaaGreatQSame
import Derived.Test.YtoeaglpmkjoenaaGreatQOpsB
import Derived.Maps.Views
import Derived.StringKeys
import Derived.Test.YtoeaglpmkjoenaaGreatRows
import Derived.Test.YtoeaglpmkjoenaaGreatQBase
set_option linter.unusedSimpArgs false
set_option linter.unusedVariables false
namespace Go.Proofs.YtoeaglpmkjoenaaGreat
open Go.RowKit
open Rep (rep)
def canonD (x:Nat):Nat:=if 2139095040 < x % 2147483648 then 2143289344 else x
theorem canon_lt {x:Nat} (h:x < 4294967296):canonD x < 4294967296:=by unfold canonD;split <;> omega
set_option maxRecDepth 100000 in
set_option maxHeartbeats 1000000 in
theorem own_ints (l:List Int) (v:Value) (w:World) (hr:rep w (old w.heap.size) [v] l) :
  Calls Tryz.prog 95 #[v] w fun e w'=>∃ v',e = .returned v'∧rep w' (fresh w.heap.size w'.heap.size) [v'] l∧Below w.heap.size w w':=by
 obtain ⟨i0,hi0,hz0,hz1,hz2⟩:=info_parts intInfo
 obtain ⟨A,c,xs,rfl,hnc,hcm,hb,hl,hch⟩:=open_slice hr
 replace hb:l.length * 8 ≤ 140737488351232:=hb
 have hn1:=hch.len
 replace hn1:xs.length = l.length * 1:=hn1
 have H:=Lib.hid (And.intro hch (And.intro hn1 hch.one))
 have hl2:∀ o:Obj,Lies (w.alloc o) (old w.heap.size) A xs:=fun o=>hl.keep (Keeps.old_below ((Below.refl _ _).alloc (Nat.le_refl _) o) (Nat.le_refl _))
 have HL:=Lib.hid hl2
 have hbz:l.length ≤ 140737488351232:=by omega
 clear hr hl hch hl2 hn1 hnc hcm
 go_enter Tryz.func95,Tryz.ntmps95
 go_wp2_with (at_builtin;refine wpList_append_lies _ rfl _ _ 24 rfl w.heap.size 3 i0 _ 1 8 Tryz.underlying24 hi0 hz0 hz1 hz2 rfl (by decide) _ 0 [] rfl (World.ownsRow_made w #[] 0 (Nat.le_refl _) (Nat.zero_le _) rfl) _ _ _ _ _ rfl H.out.2.1 (HL.out _) H.out.2.2 ?c3 ?c4 ?c5 ?_)
 case c3=>unfold maxLen;omega
 case c4=>omega
 case c5=>simp
 intro v' w1 hown' hgrow hat
 have HX:=Lib.hid (And.intro hown' (And.intro hgrow hat))
 clear hown' hgrow hat
 go_wp2
 go_ret
 obtain ⟨hown,hgrow,hat⟩:=HX.out
 refine ⟨v',rfl,rep_of_own hown (Chunks.any H.out.1) hb (fun g _ h1 h2=>⟨h1,h2⟩),?_⟩
 exact ((Below.refl _ w).alloc (Nat.le_refl _) _).grown hgrow (by simp) (by intro k hk;simp [Value.ownBlock] at hk;omega)
set_option maxRecDepth 100000 in
set_option maxHeartbeats 1000000 in
theorem own_u32s (l:List Nat) (v:Value) (w:World) (hr:rep w (old w.heap.size) [v] l) :
  Calls Tryz.prog 96 #[v] w fun e w'=>∃ v',e = .returned v'∧rep w' (fresh w.heap.size w'.heap.size) [v'] l∧Below w.heap.size w w':=by
 obtain ⟨i0,hi0,hz0,hz1,hz2⟩:=info_parts info_u32s
 obtain ⟨A,c,xs,rfl,hnc,hcm,hb,hl,hch⟩:=open_slice hr
 replace hb:l.length * 4 ≤ 140737488351232:=hb
 have hn1:=hch.len
 replace hn1:xs.length = l.length * 1:=hn1
 have H:=Lib.hid (And.intro hch (And.intro hn1 hch.one))
 have hl2:∀ o:Obj,Lies (w.alloc o) (old w.heap.size) A xs:=fun o=>hl.keep (Keeps.old_below ((Below.refl _ _).alloc (Nat.le_refl _) o) (Nat.le_refl _))
 have HL:=Lib.hid hl2
 have hbz:l.length ≤ 140737488351232:=by omega
 clear hr hl hch hl2 hn1 hnc hcm
 go_enter Tryz.func96,Tryz.ntmps96
 go_wp2_with (at_builtin;refine wpList_append_lies _ rfl _ _ 40 rfl w.heap.size 46 i0 _ 1 4 Tryz.underlying40 hi0 hz0 hz1 hz2 rfl (by decide) _ 0 [] rfl (World.ownsRow_made w #[] 0 (Nat.le_refl _) (Nat.zero_le _) rfl) _ _ _ _ _ rfl H.out.2.1 (HL.out _) H.out.2.2 ?c3 ?c4 ?c5 ?_)
 case c3=>unfold maxLen;omega
 case c4=>omega
 case c5=>simp
 intro v' w1 hown' hgrow hat
 have HX:=Lib.hid (And.intro hown' (And.intro hgrow hat))
 clear hown' hgrow hat
 go_wp2
 go_ret
 obtain ⟨hown,hgrow,hat⟩:=HX.out
 refine ⟨v',rfl,rep_of_own hown (Chunks.any H.out.1) hb (fun g _ h1 h2=>⟨h1,h2⟩),?_⟩
 exact ((Below.refl _ w).alloc (Nat.le_refl _) _).grown hgrow (by simp) (by intro k hk;simp [Value.ownBlock] at hk;omega)
set_option maxRecDepth 100000 in
set_option maxHeartbeats 1000000 in
theorem own_i64s (l:List Int) (v:Value) (w:World) (hr:rep w (old w.heap.size) [v] l) :
  Calls Tryz.prog 97 #[v] w fun e w'=>∃ v',e = .returned v'∧rep w' (fresh w.heap.size w'.heap.size) [v'] l∧Below w.heap.size w w':=by
 obtain ⟨i0,hi0,hz0,hz1,hz2⟩:=info_parts info_i64s
 obtain ⟨A,c,xs,rfl,hnc,hcm,hb,hl,hch⟩:=open_slice hr
 replace hb:l.length * 8 ≤ 140737488351232:=hb
 have hn1:=hch.len
 replace hn1:xs.length = l.length * 1:=hn1
 have H:=Lib.hid (And.intro hch (And.intro hn1 hch.one))
 have hl2:∀ o:Obj,Lies (w.alloc o) (old w.heap.size) A xs:=fun o=>hl.keep (Keeps.old_below ((Below.refl _ _).alloc (Nat.le_refl _) o) (Nat.le_refl _))
 have HL:=Lib.hid hl2
 have hbz:l.length ≤ 140737488351232:=by omega
 clear hr hl hch hl2 hn1 hnc hcm
 go_enter Tryz.func97,Tryz.ntmps97
 go_wp2_with (at_builtin;refine wpList_append_lies _ rfl _ _ 41 rfl w.heap.size 2 i0 _ 1 8 Tryz.underlying41 hi0 hz0 hz1 hz2 rfl (by decide) _ 0 [] rfl (World.ownsRow_made w #[] 0 (Nat.le_refl _) (Nat.zero_le _) rfl) _ _ _ _ _ rfl H.out.2.1 (HL.out _) H.out.2.2 ?c3 ?c4 ?c5 ?_)
 case c3=>unfold maxLen;omega
 case c4=>omega
 case c5=>simp
 intro v' w1 hown' hgrow hat
 have HX:=Lib.hid (And.intro hown' (And.intro hgrow hat))
 clear hown' hgrow hat
 go_wp2
 go_ret
 obtain ⟨hown,hgrow,hat⟩:=HX.out
 refine ⟨v',rfl,rep_of_own hown (Chunks.any H.out.1) hb (fun g _ h1 h2=>⟨h1,h2⟩),?_⟩
 exact ((Below.refl _ w).alloc (Nat.le_refl _) _).grown hgrow (by simp) (by intro k hk;simp [Value.ownBlock] at hk;omega)
set_option maxRecDepth 100000 in
set_option maxHeartbeats 1000000 in
theorem own_bools (l:List Bool) (v:Value) (w:World) (hr:rep w (old w.heap.size) [v] l) :
  Calls Tryz.prog 98 #[v] w fun e w'=>∃ v',e = .returned v'∧rep w' (fresh w.heap.size w'.heap.size) [v'] l∧Below w.heap.size w w':=by
 obtain ⟨i0,hi0,hz0,hz1,hz2⟩:=info_parts info_bools
 obtain ⟨A,c,xs,rfl,hnc,hcm,hb,hl,hch⟩:=open_slice hr
 replace hb:l.length * 1 ≤ 140737488351232:=hb
 have hn1:=hch.len
 replace hn1:xs.length = l.length * 1:=hn1
 have H:=Lib.hid (And.intro hch (And.intro hn1 hch.one))
 have hl2:∀ o:Obj,Lies (w.alloc o) (old w.heap.size) A xs:=fun o=>hl.keep (Keeps.old_below ((Below.refl _ _).alloc (Nat.le_refl _) o) (Nat.le_refl _))
 have HL:=Lib.hid hl2
 have hbz:l.length ≤ 140737488351232:=by omega
 clear hr hl hch hl2 hn1 hnc hcm
 go_enter Tryz.func98,Tryz.ntmps98
 go_wp2_with (at_builtin;refine wpList_append_lies _ rfl _ _ 28 rfl w.heap.size 4 i0 _ 1 1 Tryz.underlying28 hi0 hz0 hz1 hz2 rfl (by decide) _ 0 [] rfl (World.ownsRow_made w #[] 0 (Nat.le_refl _) (Nat.zero_le _) rfl) _ _ _ _ _ rfl H.out.2.1 (HL.out _) H.out.2.2 ?c3 ?c4 ?c5 ?_)
 case c3=>unfold maxLen;omega
 case c4=>omega
 case c5=>simp
 intro v' w1 hown' hgrow hat
 have HX:=Lib.hid (And.intro hown' (And.intro hgrow hat))
 clear hown' hgrow hat
 go_wp2
 go_ret
 obtain ⟨hown,hgrow,hat⟩:=HX.out
 refine ⟨v',rfl,rep_of_own hown (Chunks.any H.out.1) hb (fun g _ h1 h2=>⟨h1,h2⟩),?_⟩
 exact ((Below.refl _ w).alloc (Nat.le_refl _) _).grown hgrow (by simp) (by intro k hk;simp [Value.ownBlock] at hk;omega)
def zeroTn:List Value:=[.int .i64 0,.slice none 0 0,.slice none 0 0,.slice none 0 0,.slice none 0 0]
theorem zeroTn_zero:(Tryz.prog.info? 43).bind (·.zero) = some (.agg zeroTn.toArray):=by kernel_rfl
theorem slice_bnd {α:Type} [Rep α] {w:World} {Z:Zone} {A:Option Addr} {c:Nat} {l:List α} (h:rep w Z [.slice A l.length c] l):l.length ≤ c∧c ≤ 9223372036854775807:=by
 obtain ⟨A',c',xs,hv,h1,h2,_⟩:=open_slice h
 injection hv with _ _ h3
 subst h3
 exact ⟨h1,h2⟩
structure Pair (w:World) (t1 t2:TypeId) (cs xs:List Value) (W:World):Prop where
 below:Below w.heap.size w W
 src:W.heap[w.heap.size]? = some (.cells cs.toArray t1 (0,0))
 res:W.heap[w.heap.size + 1]? = some (.cells xs.toArray t2 (0,0))
section
variable {w W W':World} {t1 t2:TypeId} {cs xs:List Value}
theorem Pair.lt (h:Pair w t1 t2 cs xs W):w.heap.size + 1 < W.heap.size:=(Array.getElem?_eq_some_iff.1 h.res).1
theorem Pair.next (h:Pair w t1 t2 cs xs W) (hb:Below W.heap.size W W'):Pair w t1 t2 cs xs W':=by
 have:=h.lt
 exact ⟨h.below.trans (hb.mono (by omega)),(hb.block _ (by omega)).trans h.src,(hb.block _ (by omega)).trans h.res⟩
theorem Pair.drew (h:Pair w t1 t2 cs xs W):Pair w t1 t2 cs xs W.drew:=⟨h.below.drew,h.src,h.res⟩
theorem Pair.keeps (h:Pair w t1 t2 cs xs W) {α:Type} [Rep α] {c:List Value} {a:α} (hr:rep w (old w.heap.size) c a):rep W (old W.heap.size) c a :=
 Rep.more (Rep.keep hr (Keeps.old_below h.below (Nat.le_refl _))) (old_le h.below.size)
theorem Pair.out (h:Pair w t1 t2 cs xs W) (ys:List Value) (hl:ys.length = xs.length):Below w.heap.size w (W.setRow (w.heap.size + 1) (xs.take 0++ys++xs.drop (0 + ys.length)).toArray) ∧
  (W.setRow (w.heap.size + 1) (xs.take 0++ys++xs.drop (0 + ys.length)).toArray).heap[w.heap.size + 1]? = some (.cells ys.toArray t2 (0,0)):=by
 have e:xs.take 0++ys++xs.drop (0 + ys.length) = ys:=by rw [List.take_zero,List.nil_append,Nat.zero_add,List.drop_of_length_le (by rw [hl];exact Nat.le_refl _),List.append_nil]
 rw [e]
 exact ⟨below_setRow' h.below (by omega) _,heap_setRow _ _ _ _ _ h.res⟩
end
theorem pair_start (w:World) (t1 t2:TypeId) (cs xs:List Value):Pair w t1 t2 cs xs ((w.alloc (.cells cs.toArray t1)).alloc (.cells xs.toArray t2)):=by
 have e1:=heap_alloc_new w (.cells cs.toArray t1)
 have e2:=heap_alloc_new (w.alloc (.cells cs.toArray t1)) (.cells xs.toArray t2)
 simp only [World.size_alloc] at e2
 exact ⟨((Below.refl _ w).alloc (Nat.le_refl _) _).alloc (by simp) _,by rw [Below.heap_alloc _ _ _ (by simp)];exact e1,e2⟩
theorem new_next {α:Type} [Rep α] {W W':World} {n:Nat} {v:List Value} {l:α} (h:rep W (fresh n W.heap.size) v l) (hb:Below W.heap.size W W'):rep W' (fresh n W'.heap.size) v l :=
 Rep.more (Rep.keep h (Keeps.fresh_below hb (Nat.le_refl _))) (fresh_le (Nat.le_refl _) hb.size)
theorem new_row {α:Type} [Rep α] {W:World} {n g:Nat} {v:List Value} {l:α} (h:rep W (fresh n W.heap.size) v l) (hg:g < n) (cs:Array Value):rep (W.setRow g cs) (fresh n (W.setRow g cs).heap.size) v l:=by
 rw [size_setRow];exact Rep.keep h (keep_row hg cs)
theorem new_more {α:Type} [Rep α] {W:World} {n n0:Nat} {v:List Value} {l:α} (h:rep W (fresh n W.heap.size) v l) (hn:n0 ≤ n):rep W (fresh n0 W.heap.size) v l:=Rep.more h (fresh_le hn (Nat.le_refl _))
theorem one5' {a b c d e:Value} (h1:a.oneCell' = true) (h2:b.oneCell' = true) (h3:c.oneCell' = true) (h4:d.oneCell' = true) (h5:e.oneCell' = true):∀ u ∈ [a,b,c,d,e],u.oneCell' = true:=by
 intro u hu
 simp only [List.mem_cons,List.not_mem_nil,or_false] at hu
 rcases hu with h | h | h | h | h <;> rw [h] <;> assumption
set_option maxRecDepth 100000 in
set_option maxHeartbeats 8000000 in
theorem tcopy_any (cs:List Value) (t:TensorD) (w:World) (hr:rep w (old w.heap.size) cs t) :
  Calls Tryz.prog 72 #[.agg cs.toArray] w fun e w'=>∃ ts:List Value,e = .returned (.agg ts.toArray)∧rep w' (fresh (w.heap.size + 2) w'.heap.size) ts t∧Below w.heap.size w w':=by
 obtain ⟨A1,k1,A2,k2,A3,k3,A4,k4,rfl,htI,t1,t2,t3,t4⟩:=open_TensorD hr
 have HT:=Lib.hid (And.intro htI (And.intro t1 (And.intro t2 (And.intro t3 t4))))
 clear hr htI t1 t2 t3 t4
 go_enter Tryz.func72,Tryz.ntmps72
 go_wp2_with (first
  |(with_reducible refine wpList_box_row rfl 43 _ rfl [.int .i64 t.type,.slice A1 t.dims.length k1,.slice A2 t.f.length k2,.slice A3 t.i.length k3,.slice A4 t.b.length k4] rfl ?_)
  |(with_reducible refine wpList_alloc_row rfl 43 rfl zeroTn zeroTn_zero ?_;have hX:=pair_start w 43 43 [.int .i64 t.type,.slice A1 t.dims.length k1,.slice A2 t.f.length k2,.slice A3 t.i.length k3,.slice A4 t.b.length k4] zeroTn;generalize World.alloc _ (.cells zeroTn.toArray _) = W0 at hX ⊢;have HX:=Lib.hid hX.drew;clear hX;refine halt ?_))
 unfold Halt
 go_wp2_with fail
 refine wp_region_held_drew (S:=fun W=>At W w.heap.size 0 [.int .i64 t.type,.slice A1 t.dims.length k1,.slice A2 t.f.length k2,.slice A3 t.i.length k3,.slice A4 t.b.length k4]) (by kernel_rfl) (At.of_row HX.out.src) (fun hHeld=>?_)
 have z0:w.heap.size + 2 ≤ W0.drew.heap.size:=HX.out.lt
 refine tk0 0 (some 3) (v:=.pointer (some ⟨w.heap.size,0,none⟩)) rfl hHeld ?_
 refine tk9 1 (some 4) (v:=.int .i64 t.type) rfl (yields_load_one9 (by kernel_rfl) _ _ rfl w.heap.size 0 (by kernel_rfl) _ _ Tryz.underlying3 rfl (fun _ h=>h 0 _ rfl)) hHeld ?_
 refine tk0 2 (some 5) (v:=.pointer (some ⟨w.heap.size,1,none⟩)) rfl hHeld ?_
 refine tk9 3 (some 6) (v:=.slice A1 t.dims.length k1) rfl (yields_load_one9 (by kernel_rfl) _ _ rfl w.heap.size 1 (by kernel_rfl) _ _ Tryz.underlying24 rfl (fun _ h=>h 1 _ rfl)) hHeld ?_
 refine tk0 5 (some 8) (v:=.pointer (some ⟨w.heap.size,2,none⟩)) rfl hHeld ?_
 refine tk9 6 (some 9) (v:=.slice A2 t.f.length k2) rfl (yields_load_one9 (by kernel_rfl) _ _ rfl w.heap.size 2 (by kernel_rfl) _ _ Tryz.underlying40 rfl (fun _ h=>h 2 _ rfl)) hHeld ?_
 refine tk0 8 (some 11) (v:=.pointer (some ⟨w.heap.size,3,none⟩)) rfl hHeld ?_
 refine tk9 9 (some 12) (v:=.slice A3 t.i.length k3) rfl (yields_load_one9 (by kernel_rfl) _ _ rfl w.heap.size 3 (by kernel_rfl) _ _ Tryz.underlying41 rfl (fun _ h=>h 3 _ rfl)) hHeld ?_
 refine tk0 11 (some 14) (v:=.pointer (some ⟨w.heap.size,4,none⟩)) rfl hHeld ?_
 refine tk9 12 (some 15) (v:=.slice A4 t.b.length k4) rfl (yields_load_one9 (by kernel_rfl) _ _ rfl w.heap.size 4 (by kernel_rfl) _ _ Tryz.underlying28 rfl (fun _ h=>h 4 _ rfl)) hHeld ?_
 refine call_d9 4 (some 7) rfl (by kernel_rfl) (by kernel_rfl) (by kernel_rfl) 95 _ _ rfl #[.slice A1 t.dims.length k1] (by kernel_rfl) (fun w=>by kernel_rfl) ?_
 refine ((own_ints t.dims _ _ (HX.out.keeps HT.out.2.1)).mono (fun _ _ h=>sliced h)).mono ?_
 rintro e w1 ⟨B1,j1,rfl,hv,hb⟩
 have HX1:=Lib.hid (HX.out.next hb)
 have R1:=Lib.hid (new_more hv (show w.heap.size + 2 ≤ _ from z0))
 replace hHeld:At w1 w.heap.size 0 [.int .i64 t.type,.slice A1 t.dims.length k1,.slice A2 t.f.length k2,.slice A3 t.i.length k3,.slice A4 t.b.length k4]:=At.of_row HX1.out.src
 have z1:w.heap.size + 2 ≤ w1.heap.size:=HX1.out.lt
 clear hv hb
 refine ⟨_,rfl,hHeld,?_⟩
 refine call_d9 7 (some 10) rfl (by kernel_rfl) (by kernel_rfl) (by kernel_rfl) 96 _ _ rfl #[.slice A2 t.f.length k2] (by kernel_rfl) (fun w=>by kernel_rfl) ?_
 refine ((own_u32s t.f _ _ (HX1.out.keeps HT.out.2.2.1)).mono (fun _ _ h=>sliced h)).mono ?_
 rintro e w2 ⟨B2,j2,rfl,hv,hb⟩
 have HX2:=Lib.hid (HX1.out.next hb)
 replace R1:=Lib.hid (new_next R1.out hb)
 have R2:=Lib.hid (new_more hv (show w.heap.size + 2 ≤ _ from z1))
 replace hHeld:At w2 w.heap.size 0 [.int .i64 t.type,.slice A1 t.dims.length k1,.slice A2 t.f.length k2,.slice A3 t.i.length k3,.slice A4 t.b.length k4]:=At.of_row HX2.out.src
 have z2:w.heap.size + 2 ≤ w2.heap.size:=HX2.out.lt
 clear hv hb
 refine ⟨_,rfl,hHeld,?_⟩
 refine call_d9 10 (some 13) rfl (by kernel_rfl) (by kernel_rfl) (by kernel_rfl) 97 _ _ rfl #[.slice A3 t.i.length k3] (by kernel_rfl) (fun w=>by kernel_rfl) ?_
 refine ((own_i64s t.i _ _ (HX2.out.keeps HT.out.2.2.2.1)).mono (fun _ _ h=>sliced h)).mono ?_
 rintro e w3 ⟨B3,j3,rfl,hv,hb⟩
 have HX3:=Lib.hid (HX2.out.next hb)
 replace R1:=Lib.hid (new_next R1.out hb)
 replace R2:=Lib.hid (new_next R2.out hb)
 have R3:=Lib.hid (new_more hv (show w.heap.size + 2 ≤ _ from z2))
 replace hHeld:At w3 w.heap.size 0 [.int .i64 t.type,.slice A1 t.dims.length k1,.slice A2 t.f.length k2,.slice A3 t.i.length k3,.slice A4 t.b.length k4]:=At.of_row HX3.out.src
 have z3:w.heap.size + 2 ≤ w3.heap.size:=HX3.out.lt
 clear hv hb
 refine ⟨_,rfl,hHeld,?_⟩
 refine call_d9 13 (some 16) rfl (by kernel_rfl) (by kernel_rfl) (by kernel_rfl) 98 _ _ rfl #[.slice A4 t.b.length k4] (by kernel_rfl) (fun w=>by kernel_rfl) ?_
 refine ((own_bools t.b _ _ (HX3.out.keeps HT.out.2.2.2.2)).mono (fun _ _ h=>sliced h)).mono ?_
 rintro e w4 ⟨B4,j4,rfl,hv,hb⟩
 have HX4:=Lib.hid (HX3.out.next hb)
 replace R1:=Lib.hid (new_next R1.out hb)
 replace R2:=Lib.hid (new_next R2.out hb)
 replace R3:=Lib.hid (new_next R3.out hb)
 have R4:=Lib.hid (new_more hv (show w.heap.size + 2 ≤ _ from z3))
 replace hHeld:At w4 w.heap.size 0 [.int .i64 t.type,.slice A1 t.dims.length k1,.slice A2 t.f.length k2,.slice A3 t.i.length k3,.slice A4 t.b.length k4]:=At.of_row HX4.out.src
 have z4:w.heap.size + 2 ≤ w4.heap.size:=HX4.out.lt
 clear hv hb
 refine ⟨_,rfl,hHeld,?_⟩
 have HO:=Lib.hid (one5' (a:=.int .i64 t.type) rfl (Rep.one R1.out _ (List.mem_singleton.2 rfl)) (Rep.one R2.out _ (List.mem_singleton.2 rfl)) (Rep.one R3.out _ (List.mem_singleton.2 rfl)) (Rep.one R4.out _ (List.mem_singleton.2 rfl)))
 refine tk0 14 (some 17) (v:=.agg (([.int .i64 t.type,.slice B1 t.dims.length j1,.slice B2 t.f.length j2,.slice B3 t.i.length j3,.slice B4 t.b.length j4]:List Value):List Value).toArray) rfl hHeld ?_
 refine anyH_store_agg 15 rfl (by kernel_rfl) (by kernel_rfl) 43 _ _ rfl (w.heap.size + 1) 0 ([.int .i64 t.type,.slice B1 t.dims.length j1,.slice B2 t.f.length j2,.slice B3 t.i.length j3,.slice B4 t.b.length j4]:List Value) (by kernel_rfl) (by kernel_rfl) 43 zeroTn HX4.out.res (by kernel_rfl) (by show 0 + 5 ≤ 5;decide) HO.out (hHeld.setRow_other (by omega) _) ?_
 refine wpAnyH_done (by kernel_rfl) ?_ _
 obtain ⟨hb,hres⟩:=HX4.out.out ([.int .i64 t.type,.slice B1 t.dims.length j1,.slice B2 t.f.length j2,.slice B3 t.i.length j3,.slice B4 t.b.length j4]:List Value) rfl
 have r1:=new_row R1.out (show w.heap.size + 1 < w.heap.size + 2 by omega) (zeroTn.take 0++([.int .i64 t.type,.slice B1 t.dims.length j1,.slice B2 t.f.length j2,.slice B3 t.i.length j3,.slice B4 t.b.length j4]:List Value)++zeroTn.drop (0 + (([.int .i64 t.type,.slice B1 t.dims.length j1,.slice B2 t.f.length j2,.slice B3 t.i.length j3,.slice B4 t.b.length j4]:List Value):List Value).length)).toArray
 have r2:=new_row R2.out (show w.heap.size + 1 < w.heap.size + 2 by omega) (zeroTn.take 0++([.int .i64 t.type,.slice B1 t.dims.length j1,.slice B2 t.f.length j2,.slice B3 t.i.length j3,.slice B4 t.b.length j4]:List Value)++zeroTn.drop (0 + (([.int .i64 t.type,.slice B1 t.dims.length j1,.slice B2 t.f.length j2,.slice B3 t.i.length j3,.slice B4 t.b.length j4]:List Value):List Value).length)).toArray
 have r3:=new_row R3.out (show w.heap.size + 1 < w.heap.size + 2 by omega) (zeroTn.take 0++([.int .i64 t.type,.slice B1 t.dims.length j1,.slice B2 t.f.length j2,.slice B3 t.i.length j3,.slice B4 t.b.length j4]:List Value)++zeroTn.drop (0 + (([.int .i64 t.type,.slice B1 t.dims.length j1,.slice B2 t.f.length j2,.slice B3 t.i.length j3,.slice B4 t.b.length j4]:List Value):List Value).length)).toArray
 have r4:=new_row R4.out (show w.heap.size + 1 < w.heap.size + 2 by omega) (zeroTn.take 0++([.int .i64 t.type,.slice B1 t.dims.length j1,.slice B2 t.f.length j2,.slice B3 t.i.length j3,.slice B4 t.b.length j4]:List Value)++zeroTn.drop (0 + (([.int .i64 t.type,.slice B1 t.dims.length j1,.slice B2 t.f.length j2,.slice B3 t.i.length j3,.slice B4 t.b.length j4]:List Value):List Value).length)).toArray
 generalize World.setRow _ _ _ = w9 at hb hres r1 r2 r3 r4 ⊢
 have HR:=Lib.hid (And.intro hb (And.intro hres (shut_TensorD HT.out.1 r1 r2 r3 r4)))
 clear hb hres r1 r2 r3 r4 hHeld
 rename_i KR aR
 change KR _ _
 refine aR _ _ (wp_ret ?_)
 refine bodyPost_ret (results_cell_row rfl _ _ (w.heap.size + 1) 43 _ (0,0) _ (by kernel_rfl) HR.out.2.1 Tryz.underlying43 rfl (by kernel_rfl)) (by kernel_rfl) ⟨_,rfl,HR.out.2.2,HR.out.1⟩
theorem Lies.set_other {w:World} {Z:Zone} {A:Option Addr} {xs:List Value} {p:Addr} {u:Value} (h:Lies w Z A xs) (hp:w.cell? p = some u) (hx:u ∉ xs) (v:Value):Lies (w.setCell p v) Z A xs:=fun hn=>by
 obtain ⟨b,o,hA,hb,hc⟩:=h hn
 refine ⟨b,o,hA,hb,fun j z hz=>⟨?_,?_⟩⟩
 ·refine (World.cell?_setCell_other _ _ _ _ (fun e=>?_)).trans (hc j z hz).1
  subst e
  rw [(hc j z hz).1] at hp
  injection hp with hp
  exact hx (hp ▸ List.mem_of_getElem? hz)
 ·rw [World.frozen?_setCell]
  exact (hc j z hz).2
theorem Lies.set_at {w:World} {Z:Zone} {b o:Nat} {xs:List Value} {j:Nat} (h:Lies w Z (some ⟨b,o,none⟩) xs) (hj:j < xs.length) (v:Value):Lies (w.setCell ⟨b,o + j,none⟩ v) Z (some ⟨b,o,none⟩) (xs.set j v):=fun hn=>by
 obtain ⟨b',o',hA,hb,hc⟩:=h (fun e=>by rw [e] at hj;simp at hj)
 injection hA with hA
 injection hA with h1 h2 h3
 subst h1 h2
 refine ⟨b,o,rfl,hb,fun k z hz=>⟨?_,?_⟩⟩
 ·by_cases e:j = k
  ·subst e
   rw [List.getElem?_set_self hj] at hz
   injection hz with hz
   subst hz
   exact World.cell?_setCell_same _ _ _ (hc j _ (List.getElem?_eq_getElem hj)).1
  ·rw [List.getElem?_set_ne e] at hz
   refine (World.cell?_setCell_other _ _ _ _ (fun e'=>e ?_)).trans (hc k z hz).1
   injection e' with _ e' _
   omega
 ·rw [World.frozen?_setCell]
  by_cases e:j = k
  ·subst e
   exact (hc j _ (List.getElem?_eq_getElem hj)).2
  ·rw [List.getElem?_set_ne e] at hz
   exact (hc k z hz).2
theorem ints_set {w:World} {Z:Zone} {v:Value} {l:List Int} {p:Addr} {x:Int} (h:rep w Z [v] l) (hp:w.cell? p = some (.int .u32 x)) (y:Value):rep (w.setCell p y) Z [v] l:=by
 obtain ⟨A,n,c,xs,h1,h2,h3,h4,h5,h6,h7⟩:=h
 refine ⟨A,n,c,xs,h1,h2,h3,h4,h5,h6.set_other hp (fun hm=>?_) y,Chunks.any h7⟩
 rw [chunks_ints h7] at hm
 obtain ⟨z,_,hz⟩:=List.mem_map.1 hm
 injection hz with hz
 cases hz
theorem chunks_bools {w:World} {Z:Zone}:∀ {l:List Bool} {xs:List Value},Chunks w Z xs l→xs = l.map Value.bool
 | [],_,h=>by simpa [Chunks] using h
 | a :: l,xs,⟨c,r,hx,hc,hr⟩=>by rw [hx,show c = [Value.bool a] from hc,chunks_bools hr];rfl
theorem bools_set {w:World} {Z:Zone} {v:Value} {l:List Bool} {p:Addr} {x:Int} (h:rep w Z [v] l) (hp:w.cell? p = some (.int .u32 x)) (y:Value):rep (w.setCell p y) Z [v] l:=by
 obtain ⟨A,n,c,xs,h1,h2,h3,h4,h5,h6,h7⟩:=h
 refine ⟨A,n,c,xs,h1,h2,h3,h4,h5,h6.set_other hp (fun hm=>?_) y,Chunks.any h7⟩
 rw [chunks_bools h7] at hm
 obtain ⟨z,_,hz⟩:=List.mem_map.1 hm
 cases hz
theorem chunks_u32 {w:World} {Z:Zone}:∀ {l:List Nat} {xs:List Value},Chunks w Z xs l→xs = l.map (fun n:Nat=>Value.int .u32 (n:Int))∧∀ x ∈ l,x < 4294967296
 | [],_,h=>⟨by simpa [Chunks] using h,fun x hx=>by simp at hx⟩
 | a :: l,xs,⟨c,r,hx,hc,hr⟩=>by
  obtain ⟨h1,h2⟩:=chunks_u32 hr
  refine ⟨by rw [hx,hc.1,h1];rfl,fun x hx=>?_⟩
  rcases List.mem_cons.1 hx with e | e
  ·exact e ▸ hc.2
  ·exact h2 x e
theorem chunks_of_u32 {w:World} {Z:Zone}:∀ (l:List Nat),(∀ x ∈ l,x < 4294967296)→Chunks w Z (l.map (fun n:Nat=>Value.int .u32 (n:Int))) l
 | [],_=>rfl
 | a :: l,h=>⟨[.int .u32 (a:Int)],_,rfl,⟨rfl,h a (by simp)⟩,chunks_of_u32 l fun x hx=>h x (by simp [hx])⟩
theorem u32s_set {w:World} {Z:Zone} {b o c j y:Nat} {l:List Nat} (h:rep w Z [.slice (some ⟨b,o,none⟩) l.length c] l) (hj:j < l.length) (hy:y < 4294967296) :
  rep (w.setCell ⟨b,o + j,none⟩ (.int .u32 (y:Int))) Z [.slice (some ⟨b,o,none⟩) l.length c] (l.set j y):=by
 obtain ⟨A,n,c',xs,h1,h2,h3,h4,h5,h6,h7⟩:=h
 simp only [List.cons.injEq,Value.slice.injEq,and_true] at h1
 obtain ⟨rfl,rfl,rfl⟩:=h1
 obtain ⟨hx,hb⟩:=chunks_u32 h7
 have hl:j < xs.length:=by rw [hx,List.length_map];exact hj
 refine ⟨_,_,_,xs.set j (.int .u32 (y:Int)),rfl,by rw [List.length_set],h3,h4,h5,h6.set_at hl _,?_⟩
 have e:xs.set j (.int .u32 (y:Int)) = (l.set j y).map (fun n:Nat=>Value.int .u32 (n:Int)):=by rw [hx,List.map_set]
 rw [e]
 refine chunks_of_u32 _ fun x hx=>?_
 rcases List.mem_or_eq_of_mem_set hx with h | h
 ·exact hb x h
 ·exact h ▸ hy
structure CanInv (w:World) (g:Nat) (ts:List Value) (A2:Option Addr) (n2 c2:Nat) (A1 A3 A4:Value) (t:TensorD) (j:Nat) (W:World):Prop where
 below:Below w.heap.size w W
 res:W.heap[w.heap.size + 1]? = some (.cells zeroTn.toArray 43 (0,0))
 box:W.heap[g]? = some (.cells ts.toArray 43 (0,0))
 d1:rep W (fresh (w.heap.size + 2) g) [A1] t.dims
 d2:rep W (fresh (w.heap.size + 2) g) [.slice A2 n2 c2] ((t.f.take j).map canonD++t.f.drop j)
 d3:rep W (fresh (w.heap.size + 2) g) [A3] t.i
 d4:rep W (fresh (w.heap.size + 2) g) [A4] t.b
section
variable {w W W':World} {g:Nat} {ts:List Value} {A2:Option Addr} {n2 c2:Nat} {A1 A3 A4:Value} {t:TensorD} {j:Nat}
theorem CanInv.lt (h:CanInv w g ts A2 n2 c2 A1 A3 A4 t j W):g < W.heap.size:=(Array.getElem?_eq_some_iff.1 h.box).1
theorem CanInv.drew (h:CanInv w g ts A2 n2 c2 A1 A3 A4 t j W):CanInv w g ts A2 n2 c2 A1 A3 A4 t j W.drew :=
 ⟨h.below.drew,h.res,h.box,Rep.keep h.d1 (.of_block fun _ _=>rfl),Rep.keep h.d2 (.of_block fun _ _=>rfl),Rep.keep h.d3 (.of_block fun _ _=>rfl),Rep.keep h.d4 (.of_block fun _ _=>rfl)⟩
theorem can_step {l:List Nat} {j x:Nat} (hj:l[j]? = some x):((l.take j).map canonD++l.drop j).set j (canonD x) = (l.take (j + 1)).map canonD++l.drop (j + 1):=by
 obtain ⟨hlt,hx⟩:=List.getElem?_eq_some_iff.1 hj
 have h1:((l.take j).map canonD).length = j:=by rw [List.length_map,List.length_take];omega
 rw [List.set_append,if_neg (by omega),h1,Nat.sub_self,List.drop_eq_getElem_cons hlt,List.set_cons_zero,List.take_succ_eq_append_getElem hlt,List.map_append,List.append_assoc,hx]
 rfl
theorem CanInv.set {b o x:Nat} (h:CanInv w g ts (some ⟨b,o,none⟩) t.f.length c2 A1 A3 A4 t j W) (hn:w.heap.size + 2 ≤ b) (hb:b < g) (hj:t.f[j]? = some x) (hc:W.cell? ⟨b,o + j,none⟩ = some (.int .u32 (x:Int))) (hx:x < 4294967296) :
  CanInv w g ts (some ⟨b,o,none⟩) t.f.length c2 A1 A3 A4 t (j + 1) (W.setCell ⟨b,o + j,none⟩ (.int .u32 (canonD x:Int))):=by
 obtain ⟨hlt,_⟩:=List.getElem?_eq_some_iff.1 hj
 have hlen:((t.f.take j).map canonD++t.f.drop j).length = t.f.length:=by rw [List.length_append,List.length_map,List.length_take,List.length_drop];omega
 have h2:=h.d2
 rw [← hlen] at h2
 have h3:=u32s_set h2 (j:=j) (y:=canonD x) (by rw [hlen];exact hlt) (canon_lt hx)
 rw [can_step hj,hlen] at h3
 have hbl:Below (w.heap.size + 2) W (W.setCell ⟨b,o + j,none⟩ (.int .u32 (canonD x:Int))):=⟨rfl,rfl,rfl,by rw [World.size_setCell];exact Nat.le_refl _,fun k hk=>Below.heap_setCell W _ _ k (by show k ≠ b;omega)⟩
 exact ⟨h.below.trans (hbl.mono (by omega)),(hbl.block _ (by omega)).trans h.res,(Below.heap_setCell W _ _ g (by show g ≠ b;omega)).trans h.box,ints_set h.d1 hc _,h3,ints_set h.d3 hc _,bools_set h.d4 hc _⟩
end
end Go.Proofs.YtoeaglpmkjoenaaGreat
set_option linter.unusedSimpArgs false
set_option linter.unusedVariables false
namespace Go.Proofs.YtoeaglpmkjoenaaGreat
open Go.RowKit
open Rep (rep)
def zeroV:List Value:=[.int .i64 0,.slice none 0 0,.bool false,.int .i64 0,.slice none 0 0,.slice none 0 0,.slice none 0 0,.slice none 0 0]
theorem zeroV_zero:(Tryz.prog.info? 45).bind (·.zero) = some (.agg zeroV.toArray):=by kernel_rfl
end Go.Proofs.YtoeaglpmkjoenaaGreat
set_option linter.unusedSimpArgs false
namespace Go.Proofs.YtoeaglpmkjoenaaGreat
open Go.RowKit
open Rep (rep)
theorem own_below {w W:World} {base:Nat} {e:TypeId} {size:Nat} {v:Value} {n:Nat} {xs:List Value} (h:w.ownsRow base e size v n xs) (hb:Below w.heap.size w W):W.ownsRow base e size v n xs :=
 h.kept (row:=none) ⟨hb.os,hb.tape,hb.output,hb.size,fun k hk _=>hb.block k hk⟩ (by cases hv:v.ownBlock <;> simp)
end Go.Proofs.YtoeaglpmkjoenaaGreat
set_option linter.unusedSimpArgs false
namespace Go.Proofs.YtoeaglpmkjoenaaGreat
open Go.RowKit
open Rep (rep)
structure Keep8 (w:World) (b o g:Nat) (W:World):Prop where
 below:Below w.heap.size w W
 ltb:b < W.heap.size
 cb:W.cell? ⟨b,o,none⟩ = some (.string ⟨#[102,109,111,100]⟩)
 ltg:g < W.heap.size
 c9:W.cell? ⟨g,9,none⟩ = some (.int .u32 1065353216)
 c17:W.cell? ⟨g,17,none⟩ = some (.bool false)
 c18:W.cell? ⟨g,18,none⟩ = some (.bool true)
theorem Keep8.next {w W W':World} {b o g:Nat} (h:Keep8 w b o g W) (hb:Below W.heap.size W W'):Keep8 w b o g W' :=
 ⟨h.below.trans (hb.mono h.below.size),Nat.lt_of_lt_of_le h.ltb hb.size,(hb.cell (p:=⟨b,o,none⟩) h.ltb).trans h.cb,Nat.lt_of_lt_of_le h.ltg hb.size,(hb.cell (p:=⟨g,9,none⟩) h.ltg).trans h.c9,(hb.cell (p:=⟨g,17,none⟩) h.ltg).trans h.c17,(hb.cell (p:=⟨g,18,none⟩) h.ltg).trans h.c18⟩
structure Keep5 (w:World) (b o:Nat) (W:World):Prop where
 below:Below w.heap.size w W
 ltb:b < W.heap.size
 cb:W.cell? ⟨b,o,none⟩ = some (.string ⟨#[102,109,111,100]⟩)
theorem Keep5.next {w W W':World} {b o:Nat} (h:Keep5 w b o W) (hb:Below W.heap.size W W'):Keep5 w b o W' :=
 ⟨h.below.trans (hb.mono h.below.size),Nat.lt_of_lt_of_le h.ltb hb.size,(hb.cell (p:=⟨b,o,none⟩) h.ltb).trans h.cb⟩
end Go.Proofs.YtoeaglpmkjoenaaGreat
set_option linter.unusedSimpArgs false
namespace Go.Proofs.YtoeaglpmkjoenaaGreat
open Go.RowKit
open Rep (rep)
theorem own_setRow {w:World} {base:Nat} {e:TypeId} {size:Nat} {v:Value} {n:Nat} {xs:List Value} {g:Nat} (h:w.ownsRow base e size v n xs) (hg:∀ k,v.ownBlock = some k→k ≠ g) (cs:Array Value):(w.setRow g cs).ownsRow base e size v n xs :=
 ⟨h.1,h.2.imp id fun ⟨g',cap,cur,hv,hb,hh,r⟩=>⟨g',cap,cur,hv,hb,(heap_setRow_other _ _ _ _ (hg g' (by rw [hv];rfl))).trans hh,r⟩⟩
structure BoxInv (w:World) (t:TypeId) (cs:List Value) (W:World):Prop where
 below:Below w.heap.size w W
 row:W.heap[w.heap.size]? = some (.cells cs.toArray t (0,0))
section
variable {w W W':World} {t:TypeId} {cs:List Value}
theorem BoxInv.lt (h:BoxInv w t cs W):w.heap.size < W.heap.size:=(Array.getElem?_eq_some_iff.1 h.row).1
theorem BoxInv.next (h:BoxInv w t cs W) (hb:Below W.heap.size W W'):BoxInv w t cs W' :=
 ⟨h.below.trans (hb.mono (by have:=h.lt;omega)),(hb.block _ h.lt).trans h.row⟩
theorem BoxInv.keeps' (h:BoxInv w t cs W) {α:Type} [Rep α] {c:List Value} {a:α} (hr:rep w (old w.heap.size) c a):rep W (old W.heap.size) c a :=
 Rep.more (Rep.keep hr (Keeps.old_below h.below (Nat.le_refl _))) (old_le (by have:=h.lt;omega))
theorem box_start (w:World) (t:TypeId) (cs:List Value):BoxInv w t cs (w.alloc (.cells cs.toArray t)):=⟨(Below.refl _ _).alloc (Nat.le_refl _) _,heap_alloc_new _ _⟩
end
section
variable {P:Program} {md:Region.Mode} {ops:Array Oper} {Q:Exit→Act→World→Prop} {S:World→Prop} {fuel:Nat} {listed:Array Bool} {a:Act} {w:World} {o:Oper}
theorem wpList_load_agg_w {rest:List Oper} (hw:Region.wanted o (yielded ops a.tmps) = true) (ty:TypeId) (x:Operand) (ho:o.op = .load ty x)
  (d:TypeDesc) (b f:Nat) (hx:a.eval x = .pointer (some ⟨b,f,none⟩)) (cs:List Value) (hu:P.underlying ty = some d) (hd:(match d with | .struct _ | .array _ _=>true | _=>false) = true)
  (hi:(P.info? ty).map (·.size) = some cs.length) (hc:At w b f cs)
  (h:wpList P ops Q rest (a.put o.dst (.agg cs.toArray)) w):wpList P ops Q (o :: rest) a w :=
 wpList_step fun K hK=>by
  rw [if_pos hw]
  unfold Oper.wp execOp
  simp only [ho,hx,Instr.loadAt,Instr.sureAddr,Sem.run_bind,Sem.run_pure,Result.andThen_ok,run_load_agg w ty d b f cs hu hd hi hc]
  exact hK _ _ h
end
end Go.Proofs.YtoeaglpmkjoenaaGreat
set_option linter.unusedSimpArgs false
set_option linter.unusedVariables false
namespace Go.Proofs.YtoeaglpmkjoenaaGreat
open Go.RowKit
open Rep (rep)
theorem gnode_facts {w:World} {Z:Zone} {cs:List Value} {a:GNodeD} (h:rep w Z cs a):∃ (ss:List Value) (A1:Option Addr) (k1:Nat) (A2:Option Addr) (k2:Nat),
  cs[0]? = some (.int .i64 a.op)∧cs[37]? = some (.slice A1 a.ins.length k1)∧cs[38]? = some (.slice A2 a.outs.length k2)∧cs[39]? = some (.int .i64 a.source) ∧
  SettingDAt w Z ss a.s∧rep w Z [.slice A1 a.ins.length k1] a.ins∧rep w Z [.slice A2 a.outs.length k2] a.outs∧∀ (W:World) (b o:Nat),At W b o cs→At W b (o + 1) ss:=by
 obtain ⟨ss,A1,k1,A2,k2,rfl,-,hs,h1,h2,-⟩:=open_GNodeD h
 have hl:ss.length = 36:=hs.len
 refine ⟨ss,A1,k1,A2,k2,rfl,?_,?_,?_,hs,h1,h2,fun W b o hat=>?_⟩
 ·simp [List.getElem?_append,hl]
 ·simp [List.getElem?_append,hl]
 ·simp [List.getElem?_append,hl]
 ·exact At.part (xs:=[.int .i64 a.op]) (ys:=[.slice A1 a.ins.length k1,.slice A2 a.outs.length k2,.int .i64 a.source]) (by simpa using hat)
theorem gnode_len {w:World} {Z:Zone} {cs:List Value} {a:GNodeD} (h:rep w Z cs a):cs.length = 40:=Rep.len h
def zeroGN:List Value:=[.int .i64 0]++zeroS++[.slice none 0 0,.slice none 0 0,.int .i64 0]
theorem zeroGN_zero:(Tryz.prog.info? 50).bind (·.zero) = some (.agg zeroGN.toArray):=by kernel_rfl
theorem zeroGN_len:zeroGN.length = 40:=by kernel_rfl
theorem node_lay {w:World} {Z:Zone} {cs:List Value} {a:GNodeD} (h:rep w Z cs a):(Tryz.prog.info? 50).map (·.size) = some cs.length∧0 + cs.length ≤ zeroGN.length∧cs.length = zeroGN.length∧∀ u ∈ cs,u.oneCell' = true:=by
 have hl:=gnode_len h
 have hz:=zeroGN_len
 refine ⟨?_,by omega,by omega,Rep.one h⟩
 rw [hl];kernel_rfl
end Go.Proofs.YtoeaglpmkjoenaaGreat
namespace Go.Proofs.YtoeaglpmkjoenaaGreat
open Go.RowKit
set_option linter.unusedSimpArgs false
open Go.WideMaps (keyOf_string_mk)
open Go.Maps (Keyed string_keyed IsMap isMap_empty atKey_put_same atKey_put_other)
def MapOf (w:World) (b n:Nat) (f:ByteArray→Int):Prop :=
 ∃ D:DataW Unit,w.ownsMap Tryz.prog 9 (plainElem Tryz.prog 3) b n D∧IsMap D∧∀ s:ByteArray,D.atKey (.string s.data.toList) (.lit (.int .i64 0)) = .lit (.int .i64 (f s))
theorem mapZ (w:World):(zeroValue 3).run Tryz.prog w = .ok (.int .i64 0) w:=by kernel_rfl
section
variable {w w':World} {b n:Nat} {f:ByteArray→Int}
theorem MapOf.made (w:World):MapOf (w.alloc (.map #[] 0)) w.heap.size 0 (fun _=>0):=⟨_,World.ownsMap_made w _ _ _,isMap_empty,fun _=>rfl⟩
theorem MapOf.lt (h:MapOf w b n f):b < w.heap.size:=let ⟨_,h,_⟩:=h;h.lt
theorem MapOf.kept {row:Option Nat} (h:MapOf w b n f) (hg:w.grownBy w' row) (hne:some b ≠ row):MapOf w' b n f:=let ⟨D,h,h2⟩:=h;⟨D,h.kept hg hne,h2⟩
theorem MapOf.alloc (h:MapOf w b n f) (o:Obj):MapOf (w.alloc o) b n f:=let ⟨D,h,h2⟩:=h;⟨D,h.alloc o,h2⟩
theorem MapOf.drew (h:MapOf w b n f):MapOf w.drew b n f:=h
theorem MapOf.below {B:Nat} (h:MapOf w b n f) (hg:Below B w w') (hb:b < B):MapOf w' b n f:=by
 obtain ⟨D,⟨es,clock,h1,h3⟩,h2⟩:=h
 exact ⟨D,⟨es,clock,(hg.block b hb).trans h1,h3⟩,h2⟩
theorem MapOf.mono (h:MapOf w b n f) {m:Nat} (hn:n ≤ m):MapOf w b m f:=let ⟨D,h,h2⟩:=h;⟨D,h.mono hn,h2⟩
end
end Go.Proofs.YtoeaglpmkjoenaaGreat
namespace Go.Proofs.YtoeaglpmkjoenaaGreat
open Go.RowKit
set_option linter.unusedSimpArgs false
open Go.Maps (Keyed int_keyed keyOf_int_mk IsMap isMap_empty atKey_put_same atKey_put_other)
theorem wf_of_I64 {x:Int} (hx:I64 x):(Lit.int .i64 x).wf = true:=by
 unfold I64 at hx
 simp [Lit.wf]
 try (simp [IntKind.min,IntKind.max,IntKind.signed,IntKind.bits])
 try omega
def MapI (w:World) (b n:Nat) (f:Int→Int):Prop :=
 ∃ D:DataW Unit,w.ownsMap Tryz.prog 3 (plainElem Tryz.prog 3) b n D∧IsMap D∧∀ s:Int,D.atKey (.int .i64 s) (.lit (.int .i64 0)) = .lit (.int .i64 (f s))
theorem mapIK:Keyed Tryz.prog 3:=int_keyed Tryz.underlying3
section
variable {w w':World} {b n:Nat} {f:Int→Int}
theorem MapI.made (w:World):MapI (w.alloc (.map #[] 0)) w.heap.size 0 (fun _=>0):=⟨_,World.ownsMap_made w _ _ _,isMap_empty,fun _=>rfl⟩
theorem MapI.lt (h:MapI w b n f):b < w.heap.size:=let ⟨_,h,_⟩:=h;h.lt
theorem MapI.kept {row:Option Nat} (h:MapI w b n f) (hg:w.grownBy w' row) (hne:some b ≠ row):MapI w' b n f:=let ⟨D,h,h2⟩:=h;⟨D,h.kept hg hne,h2⟩
theorem MapI.below {B:Nat} (h:MapI w b n f) (hg:Below B w w') (hb:b < B):MapI w' b n f:=by
 obtain ⟨D,⟨es,clock,h1,h3⟩,h2⟩:=h
 exact ⟨D,⟨es,clock,(hg.block b hb).trans h1,h3⟩,h2⟩
theorem MapI.mono (h:MapI w b n f) {m:Nat} (hn:n ≤ m):MapI w b m f:=let ⟨D,h,h2⟩:=h;⟨D,h.mono hn,h2⟩
theorem MapI.lookup (h:MapI w b n f) (s:Int) (hs:I64 s) :
  (Instr.lookup 89 (.map (some b)) (.int .i64 s) false).run Tryz.prog w = .ok (.int .i64 (f s)) w∧I64 (f s):=by
 obtain ⟨D,h,hm,hf⟩:=h
 obtain ⟨c,hrun,hat,hwc⟩:=h.lookup_int mapIK Tryz.underlying89 Tryz.underlying3 (mapZ w) (keyOf_int_mk Tryz.underlying3 (wf_of_I64 hs))
 rw [hf] at hat
 injection hat with hat
 injection hat with _ hat
 rw [hat]
 refine ⟨hrun,?_⟩
 simp [Lit.wf] at hwc
 unfold I64
 revert hwc
 simp [IntKind.min,IntKind.max,IntKind.signed,IntKind.bits]
 try omega
theorem MapI.update (h:MapI w b n f) (s:Int) (hs:I64 s) (x:Int) (hx:I64 x) (hn:n < maxLen) :
  ∃ w',(Instr.mapUpdate 89 (.map (some b)) (.int .i64 s) (.int .i64 x)).run Tryz.prog w = .ok () w'∧MapI w' b (n + 1) (fun y=>if y = s then x else f y)∧w.grownBy w' (some b):=by
 obtain ⟨D,h,hm,hf⟩:=h
 have hk:keyOf Tryz.prog 3 (.int .i64 s) = some (.int .i64 s):=keyOf_int_mk Tryz.underlying3 (wf_of_I64 hs)
 obtain ⟨w',hrun,h1,h2⟩:=h.update mapIK Tryz.underlying89 hn hk (plainElem_int Tryz.underlying3 (wf_of_I64 hx))
 refine ⟨w',hrun,⟨_,h1,hm.put _ _,fun y=>?_⟩,h2⟩
 by_cases e:y = s
 ·subst e
  simp only [if_true]
  exact atKey_put_same (k:=.int .i64 y) hm (by simp [WideAt.IsKeyLit]) _ _
 ·simp only [if_neg e]
  rw [atKey_put_other (fun e'=>e ?_),hf]
  injection e' with _ e'
end
theorem wpList_mapUpdate_ofI {ops:Array Oper} {rest:List Oper} {o:Oper} {a:Act} {w:World} {Q:Exit→Act→World→Prop}
  (hg:o.guard = none) (m x v:Operand) (hop:o.op = Op.mapUpdate 89 m x v) (b n:Nat) (f:Int→Int)
  (hm:a.eval m = .map (some b)) (h:MapI w b n f) (hn:n < maxLen) (s:Int) (y:Int) (hx:a.eval x = .int .i64 s) (hv:a.eval v = .int .i64 y) (hs:I64 s) (hy:I64 y)
  (hK:∀ w',MapI w' b (n + 1) (fun z=>if z = s then y else f z)→w.grownBy w' (some b)→wpList Tryz.prog ops Q rest (a.put o.dst undef) w') :
  wpList Tryz.prog ops Q (o :: rest) a w:=by
 refine wpList_plain hg fun K' hK'=>?_
 obtain ⟨w',hrun,r1,r2⟩:=h.update s hs y hy hn
 unfold Oper.wp
 simp [execOp,hop,hm,hx,hv,hrun,Result.andThen]
 exact hK' _ _ (hK w' r1 r2)
end Go.Proofs.YtoeaglpmkjoenaaGreat
