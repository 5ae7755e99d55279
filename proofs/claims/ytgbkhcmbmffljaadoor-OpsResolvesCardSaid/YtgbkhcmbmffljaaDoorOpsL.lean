/-
  A part of the proofs of chapter 08: walks of the package ops. No condition.
-/
import Derived.Test.YtgbkhcmbmffljaaDoorOpsK
import Derived.Test.YtgbkhcmbmffljaaDoorOpsA
import Derived.Test.YtgbkhcmbmffljaaDoorAid
namespace Go.Proofs.YtgbkhcmbmffljaaDoor
open Go.RowKit
open Rep (rep)


theorem info_ints : (Tryd.prog.info? 3).map (fun i => (i.zero, i.size, i.bytes)) = some (some (.int .i64 0), 1, 8) := by kernel_rfl
set_option maxRecDepth 100000 in
set_option maxHeartbeats 1000000 in
theorem clone_ints (l : List Int) (v : Value) (w : World) (hr : rep w (old w.heap.size) [v] l) :
    Calls Tryd.prog 88 #[v] w fun e w' => ∃ v', e = .returned v' ∧ rep w' (fresh w.heap.size w'.heap.size) [v'] l ∧ Below w.heap.size w w' := by
  obtain ⟨i0, hi0, hz0, hz1, hz2⟩ := info_parts info_ints
  have q : ∀ (w : World) (a : Option Addr) (n c n' c' : Nat), (binOp .eql 37 (.slice a n c) (.slice none n' c')).run Tryd.prog w = .ok (.bool a.isNone) w := fun w a n c n' c' => Lib.run_eql_slice_nil w _ _ a n c n' c' Tryd.underlying37
  obtain ⟨A, c, xs, rfl, hnc, hcm, hb, hl, hch⟩ := open_slice hr
  replace hb : l.length * 8 ≤ 140737488351232 := hb
  cases A with
  | none =>
    have hxs : xs = [] := Classical.byContradiction fun hne => by
      obtain ⟨b, o, hA, _⟩ := hl hne
      cases hA
    have hl0 : l = [] := by
      have := hch.len
      rw [hxs] at this
      have h2 : 0 = l.length * 1 := this
      exact List.eq_nil_of_length_eq_zero (by omega)
    subst hl0
    clear hr hl hch hb hnc hcm hxs
    go_enter Tryd.func88, Tryd.ntmps88
    go_wp2
    go_ret
    exact ⟨_, rfl, rep_nil _ _, Below.refl _ _⟩
  | some ad =>
    have hn1 := hch.len
    replace hn1 : xs.length = l.length * 1 := hn1
    have H := Lib.hid (And.intro hch (And.intro hn1 hch.one))
    have hl2 : ∀ o : Obj, Lies (w.alloc o) (old w.heap.size) (some ad) xs := fun o => hl.keep (Keeps.old_below ((Below.refl _ _).alloc (Nat.le_refl _) o) (Nat.le_refl _))
    have HL := Lib.hid hl2
    have hbz : l.length ≤ 140737488351232 := by omega
    clear hr hl hch hl2 hn1 hnc hcm
    go_enter Tryd.func88, Tryd.ntmps88
    go_wp2_with (at_builtin; refine wpList_append_lies _ rfl _ _ 37 rfl w.heap.size 3 i0 _ 1 8 Tryd.underlying37 hi0 hz0 hz1 hz2 rfl (by decide) _ 0 [] rfl (World.ownsRow_made w #[] 0 (Nat.le_refl _) (Nat.zero_le _) rfl) _ _ _ _ _ rfl H.out.2.1 (HL.out _) H.out.2.2 ?c3 ?c4 ?c5 ?_)
    case c3 => unfold maxLen; omega
    case c4 => omega
    case c5 => simp
    intro v' w1 hown' hgrow hat
    have HX := Lib.hid (And.intro hown' (And.intro hgrow hat))
    clear hown' hgrow hat
    go_wp2
    go_ret
    obtain ⟨hown, hgrow, hat⟩ := HX.out
    refine ⟨v', rfl, rep_of_own hown (Chunks.any H.out.1) hb (fun g _ h1 h2 => ⟨h1, h2⟩), ?_⟩
    exact ((Below.refl _ w).alloc (Nat.le_refl _) _).grown hgrow (by simp) (by intro k hk; simp [Value.ownBlock] at hk; omega)


theorem info_u32s : (Tryd.prog.info? 38).map (fun i => (i.zero, i.size, i.bytes)) = some (some (.int .u32 0), 1, 4) := by kernel_rfl
set_option maxRecDepth 100000 in
set_option maxHeartbeats 1000000 in
theorem clone_u32s (l : List Nat) (v : Value) (w : World) (hr : rep w (old w.heap.size) [v] l) :
    Calls Tryd.prog 108 #[v] w fun e w' => ∃ v', e = .returned v' ∧ rep w' (fresh w.heap.size w'.heap.size) [v'] l ∧ Below w.heap.size w w' := by
  obtain ⟨i0, hi0, hz0, hz1, hz2⟩ := info_parts info_u32s
  have q : ∀ (w : World) (a : Option Addr) (n c n' c' : Nat), (binOp .eql 39 (.slice a n c) (.slice none n' c')).run Tryd.prog w = .ok (.bool a.isNone) w := fun w a n c n' c' => Lib.run_eql_slice_nil w _ _ a n c n' c' Tryd.underlying39
  obtain ⟨A, c, xs, rfl, hnc, hcm, hb, hl, hch⟩ := open_slice hr
  replace hb : l.length * 4 ≤ 140737488351232 := hb
  cases A with
  | none =>
    have hxs : xs = [] := Classical.byContradiction fun hne => by
      obtain ⟨b, o, hA, _⟩ := hl hne
      cases hA
    have hl0 : l = [] := by
      have := hch.len
      rw [hxs] at this
      have h2 : 0 = l.length * 1 := this
      exact List.eq_nil_of_length_eq_zero (by omega)
    subst hl0
    clear hr hl hch hb hnc hcm hxs
    go_enter Tryd.func108, Tryd.ntmps108
    go_wp2
    go_ret
    exact ⟨_, rfl, rep_nil _ _, Below.refl _ _⟩
  | some ad =>
    have hn1 := hch.len
    replace hn1 : xs.length = l.length * 1 := hn1
    have H := Lib.hid (And.intro hch (And.intro hn1 hch.one))
    have hl2 : ∀ o : Obj, Lies (w.alloc o) (old w.heap.size) (some ad) xs := fun o => hl.keep (Keeps.old_below ((Below.refl _ _).alloc (Nat.le_refl _) o) (Nat.le_refl _))
    have HL := Lib.hid hl2
    have hbz : l.length ≤ 140737488351232 := by omega
    clear hr hl hch hl2 hn1 hnc hcm
    go_enter Tryd.func108, Tryd.ntmps108
    go_wp2_with (at_builtin; refine wpList_append_lies _ rfl _ _ 39 rfl w.heap.size 38 i0 _ 1 4 Tryd.underlying39 hi0 hz0 hz1 hz2 rfl (by decide) _ 0 [] rfl (World.ownsRow_made w #[] 0 (Nat.le_refl _) (Nat.zero_le _) rfl) _ _ _ _ _ rfl H.out.2.1 (HL.out _) H.out.2.2 ?c3 ?c4 ?c5 ?_)
    case c3 => unfold maxLen; omega
    case c4 => omega
    case c5 => simp
    intro v' w1 hown' hgrow hat
    have HX := Lib.hid (And.intro hown' (And.intro hgrow hat))
    clear hown' hgrow hat
    go_wp2
    go_ret
    obtain ⟨hown, hgrow, hat⟩ := HX.out
    refine ⟨v', rfl, rep_of_own hown (Chunks.any H.out.1) hb (fun g _ h1 h2 => ⟨h1, h2⟩), ?_⟩
    exact ((Below.refl _ w).alloc (Nat.le_refl _) _).grown hgrow (by simp) (by intro k hk; simp [Value.ownBlock] at hk; omega)


theorem info_i64s : (Tryd.prog.info? 2).map (fun i => (i.zero, i.size, i.bytes)) = some (some (.int .i64 0), 1, 8) := by kernel_rfl
set_option maxRecDepth 100000 in
set_option maxHeartbeats 1000000 in
theorem clone_i64s (l : List Int) (v : Value) (w : World) (hr : rep w (old w.heap.size) [v] l) :
    Calls Tryd.prog 109 #[v] w fun e w' => ∃ v', e = .returned v' ∧ rep w' (fresh w.heap.size w'.heap.size) [v'] l ∧ Below w.heap.size w w' := by
  obtain ⟨i0, hi0, hz0, hz1, hz2⟩ := info_parts info_i64s
  have q : ∀ (w : World) (a : Option Addr) (n c n' c' : Nat), (binOp .eql 40 (.slice a n c) (.slice none n' c')).run Tryd.prog w = .ok (.bool a.isNone) w := fun w a n c n' c' => Lib.run_eql_slice_nil w _ _ a n c n' c' Tryd.underlying40
  obtain ⟨A, c, xs, rfl, hnc, hcm, hb, hl, hch⟩ := open_slice hr
  replace hb : l.length * 8 ≤ 140737488351232 := hb
  cases A with
  | none =>
    have hxs : xs = [] := Classical.byContradiction fun hne => by
      obtain ⟨b, o, hA, _⟩ := hl hne
      cases hA
    have hl0 : l = [] := by
      have := hch.len
      rw [hxs] at this
      have h2 : 0 = l.length * 1 := this
      exact List.eq_nil_of_length_eq_zero (by omega)
    subst hl0
    clear hr hl hch hb hnc hcm hxs
    go_enter Tryd.func109, Tryd.ntmps109
    go_wp2
    go_ret
    exact ⟨_, rfl, rep_nil _ _, Below.refl _ _⟩
  | some ad =>
    have hn1 := hch.len
    replace hn1 : xs.length = l.length * 1 := hn1
    have H := Lib.hid (And.intro hch (And.intro hn1 hch.one))
    have hl2 : ∀ o : Obj, Lies (w.alloc o) (old w.heap.size) (some ad) xs := fun o => hl.keep (Keeps.old_below ((Below.refl _ _).alloc (Nat.le_refl _) o) (Nat.le_refl _))
    have HL := Lib.hid hl2
    have hbz : l.length ≤ 140737488351232 := by omega
    clear hr hl hch hl2 hn1 hnc hcm
    go_enter Tryd.func109, Tryd.ntmps109
    go_wp2_with (at_builtin; refine wpList_append_lies _ rfl _ _ 40 rfl w.heap.size 2 i0 _ 1 8 Tryd.underlying40 hi0 hz0 hz1 hz2 rfl (by decide) _ 0 [] rfl (World.ownsRow_made w #[] 0 (Nat.le_refl _) (Nat.zero_le _) rfl) _ _ _ _ _ rfl H.out.2.1 (HL.out _) H.out.2.2 ?c3 ?c4 ?c5 ?_)
    case c3 => unfold maxLen; omega
    case c4 => omega
    case c5 => simp
    intro v' w1 hown' hgrow hat
    have HX := Lib.hid (And.intro hown' (And.intro hgrow hat))
    clear hown' hgrow hat
    go_wp2
    go_ret
    obtain ⟨hown, hgrow, hat⟩ := HX.out
    refine ⟨v', rfl, rep_of_own hown (Chunks.any H.out.1) hb (fun g _ h1 h2 => ⟨h1, h2⟩), ?_⟩
    exact ((Below.refl _ w).alloc (Nat.le_refl _) _).grown hgrow (by simp) (by intro k hk; simp [Value.ownBlock] at hk; omega)


theorem info_bools : (Tryd.prog.info? 4).map (fun i => (i.zero, i.size, i.bytes)) = some (some (.bool false), 1, 1) := by kernel_rfl
set_option maxRecDepth 100000 in
set_option maxHeartbeats 1000000 in
theorem clone_bools (l : List Bool) (v : Value) (w : World) (hr : rep w (old w.heap.size) [v] l) :
    Calls Tryd.prog 110 #[v] w fun e w' => ∃ v', e = .returned v' ∧ rep w' (fresh w.heap.size w'.heap.size) [v'] l ∧ Below w.heap.size w w' := by
  obtain ⟨i0, hi0, hz0, hz1, hz2⟩ := info_parts info_bools
  have q : ∀ (w : World) (a : Option Addr) (n c n' c' : Nat), (binOp .eql 41 (.slice a n c) (.slice none n' c')).run Tryd.prog w = .ok (.bool a.isNone) w := fun w a n c n' c' => Lib.run_eql_slice_nil w _ _ a n c n' c' Tryd.underlying41
  obtain ⟨A, c, xs, rfl, hnc, hcm, hb, hl, hch⟩ := open_slice hr
  replace hb : l.length * 1 ≤ 140737488351232 := hb
  cases A with
  | none =>
    have hxs : xs = [] := Classical.byContradiction fun hne => by
      obtain ⟨b, o, hA, _⟩ := hl hne
      cases hA
    have hl0 : l = [] := by
      have := hch.len
      rw [hxs] at this
      have h2 : 0 = l.length * 1 := this
      exact List.eq_nil_of_length_eq_zero (by omega)
    subst hl0
    clear hr hl hch hb hnc hcm hxs
    go_enter Tryd.func110, Tryd.ntmps110
    go_wp2
    go_ret
    exact ⟨_, rfl, rep_nil _ _, Below.refl _ _⟩
  | some ad =>
    have hn1 := hch.len
    replace hn1 : xs.length = l.length * 1 := hn1
    have H := Lib.hid (And.intro hch (And.intro hn1 hch.one))
    have hl2 : ∀ o : Obj, Lies (w.alloc o) (old w.heap.size) (some ad) xs := fun o => hl.keep (Keeps.old_below ((Below.refl _ _).alloc (Nat.le_refl _) o) (Nat.le_refl _))
    have HL := Lib.hid hl2
    have hbz : l.length ≤ 140737488351232 := by omega
    clear hr hl hch hl2 hn1 hnc hcm
    go_enter Tryd.func110, Tryd.ntmps110
    go_wp2_with (at_builtin; refine wpList_append_lies _ rfl _ _ 41 rfl w.heap.size 4 i0 _ 1 1 Tryd.underlying41 hi0 hz0 hz1 hz2 rfl (by decide) _ 0 [] rfl (World.ownsRow_made w #[] 0 (Nat.le_refl _) (Nat.zero_le _) rfl) _ _ _ _ _ rfl H.out.2.1 (HL.out _) H.out.2.2 ?c3 ?c4 ?c5 ?_)
    case c3 => unfold maxLen; omega
    case c4 => omega
    case c5 => simp
    intro v' w1 hown' hgrow hat
    have HX := Lib.hid (And.intro hown' (And.intro hgrow hat))
    clear hown' hgrow hat
    go_wp2
    go_ret
    obtain ⟨hown, hgrow, hat⟩ := HX.out
    refine ⟨v', rfl, rep_of_own hown (Chunks.any H.out.1) hb (fun g _ h1 h2 => ⟨h1, h2⟩), ?_⟩
    exact ((Below.refl _ w).alloc (Nat.le_refl _) _).grown hgrow (by simp) (by intro k hk; simp [Value.ownBlock] at hk; omega)


theorem ints_new (l : List Int) (v : Value) (w : World) (hr : rep w (old w.heap.size) [v] l) :
    Calls Tryd.prog 76 #[v] w fun e w' => ∃ v', e = .returned v' ∧ rep w' (fresh w.heap.size w'.heap.size) [v'] l ∧ Below w.heap.size w w' := by
  refine (ints_any l v w hr).mono ?_
  rintro e w' ⟨v', rfl, hown, hb⟩
  obtain ⟨_, _, xs, _, _, _, hbb, _, hch⟩ := open_slice hr
  rw [← chunks_ints hch] at hown
  exact ⟨v', rfl, rep_of_own hown (Chunks.any hch) hbb (fun g _ h1 h2 => ⟨h1, h2⟩), hb⟩
end Go.Proofs.YtgbkhcmbmffljaaDoor
