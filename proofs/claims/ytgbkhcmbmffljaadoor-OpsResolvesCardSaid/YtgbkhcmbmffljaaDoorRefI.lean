/-
  The reference of chapter 08: flags, lists.
-/
import Derived.Test.YtgbkhcmbmffljaaDoorRefH
set_option linter.unusedSimpArgs false
set_option linter.unusedVariables false
namespace Go.Proofs.YtgbkhcmbmffljaaDoor
open Go.RowKit
open Rep (rep)

/-- Where a function of a setting and an attribute stands: both, and an empty setting. -/
structure SetR (w : World) (ss acs : List Value) (W : World) : Prop where
  below : Below w.heap.size w W
  s : W.heap[w.heap.size]? = some (.cells ss.toArray 45 (0, 0))
  a : W.heap[w.heap.size + 1]? = some (.cells acs.toArray 52 (0, 0))
  z : W.heap[w.heap.size + 2]? = some (.cells zeroS.toArray 45 (0, 0))
section
variable {w W W' : World} {ss acs : List Value}
theorem SetR.lt (h : SetR w ss acs W) : w.heap.size + 2 < W.heap.size := (Array.getElem?_eq_some_iff.1 h.z).1
theorem SetR.next (h : SetR w ss acs W) (hb : Below W.heap.size W W') : SetR w ss acs W' := by
  have := h.lt
  exact ⟨h.below.trans (hb.mono (by omega)), (hb.block _ (by omega)).trans h.s, (hb.block _ (by omega)).trans h.a, (hb.block _ (by omega)).trans h.z⟩
theorem SetR.drew (h : SetR w ss acs W) : SetR w ss acs W.drew := ⟨h.below.drew, h.s, h.a, h.z⟩
theorem SetR.row (h : SetR w ss acs W) (ys : List Value) : SetR w ys acs (W.setRow w.heap.size ys.toArray) :=
  ⟨below_setRow' h.below (Nat.le_refl _) _, heap_setRow _ _ _ _ _ h.s, (heap_setRow_other _ _ _ _ (by omega)).trans h.a, (heap_setRow_other _ _ _ _ (by omega)).trans h.z⟩
theorem SetR.out (h : SetR w ss acs W) (hl : ss.length = 36) : Below w.heap.size w (W.setRow (w.heap.size + 2) (zeroS.take 0 ++ ss ++ zeroS.drop (0 + ss.length)).toArray) ∧
    (W.setRow (w.heap.size + 2) (zeroS.take 0 ++ ss ++ zeroS.drop (0 + ss.length)).toArray).heap[w.heap.size + 2]? = some (.cells ss.toArray 45 (0, 0)) := by
  have e : zeroS.take 0 ++ ss ++ zeroS.drop (0 + ss.length) = ss := by rw [List.take_zero, List.nil_append, Nat.zero_add, List.drop_of_length_le (by rw [hl]; decide), List.append_nil]
  rw [e]
  exact ⟨below_setRow' h.below (by omega) _, heap_setRow _ _ _ _ _ h.z⟩
theorem SetR.keeps (h : SetR w ss acs W) {α : Type} [Rep α] {c : List Value} {a : α} (hr : rep w (old w.heap.size) c a) : rep W (old W.heap.size) c a :=
  Rep.more (Rep.keep hr (Keeps.old_below h.below (Nat.le_refl _))) (old_le h.below.size)
end
theorem setR_start (w : World) (ss acs : List Value) : SetR w ss acs (((w.alloc (.cells ss.toArray 45)).alloc (.cells acs.toArray 52)).alloc (.cells zeroS.toArray 45)) := by
  have e1 := heap_alloc_new w (.cells ss.toArray 45)
  have e2 := heap_alloc_new (w.alloc (.cells ss.toArray 45)) (.cells acs.toArray 52)
  have e3 := heap_alloc_new ((w.alloc (.cells ss.toArray 45)).alloc (.cells acs.toArray 52)) (.cells zeroS.toArray 45)
  simp only [World.size_alloc] at e2 e3
  exact ⟨(((Below.refl _ w).alloc (Nat.le_refl _) _).alloc (by simp) _).alloc (by simp; omega) _, by rw [Below.heap_alloc _ _ _ (by simp; omega), Below.heap_alloc _ _ _ (by simp)]; exact e1, by rw [Below.heap_alloc _ _ _ (by simp)]; exact e2, e3⟩
/-- A zone, and what was made from block n on, ahead of block m. -/
def Zone.plus (Z : Zone) (n m : Nat) : Zone := ⟨fun b => Z.blk b ∨ n ≤ b ∧ b < m, Z.free⟩
theorem le_plus (Z : Zone) (n m : Nat) : Z.le (Z.plus n m) := ⟨fun _ h => .inl h, fun h => h⟩
theorem fresh_plus (Z : Zone) {n n' m m' : Nat} (h : n ≤ n') (k : m' ≤ m) : (fresh n' m').le (Z.plus n m) := ⟨fun _ hb => .inr ⟨Nat.le_trans h hb.1, Nat.lt_of_lt_of_le hb.2 k⟩, fun _ => rfl⟩
theorem new_plus {α : Type} [Rep α] {W : World} {a n : Nat} {v : List Value} {l : α} (Z : Zone) (h : rep W (fresh a W.heap.size) v l) (hn : n ≤ a) : rep W (Z.plus n W.heap.size) v l := Rep.more h (fresh_plus Z hn (Nat.le_refl _))
theorem setting_zone {w w' : World} {Z : Zone} {ss : List Value} {s : SettingD} (h : SettingDAt w Z ss s) (hZ : ∀ b, Z.blk b → b < w.heap.size) (hb : Below w.heap.size w w') : SettingDAt w' (Z.plus w.heap.size w'.heap.size) ss s :=
  (inferInstance : Rep SettingD).more ((inferInstance : Rep SettingD).keep h (Keeps.of_below hb hZ)) (le_plus _ _ _)
/-- The answer is the setting s', in the zone or in new memory. -/
def SetTo (w : World) (Z : Zone) (s' : SettingD) (e : Ending) (w' : World) : Prop := ∃ ss' : List Value, e = .returned (.agg ss'.toArray) ∧ SettingDAt w' (Z.plus w.heap.size w'.heap.size) ss' s' ∧ Below w.heap.size w w'
theorem set_one {w : World} {Z : Zone} {ss : List Value} {s : SettingD} (h : SettingDAt w Z ss s) : ∀ u ∈ ss, u.oneCell' = true := (inferInstance : Rep SettingD).one h

set_option maxRecDepth 100000 in
set_option maxHeartbeats 8000000 in
theorem flagsR_any (a : AttrD) (s : SettingD) (ss acs : List Value) (w : World) (Z : Zone) (hn0 : ∀ b, Z.blk b → b < w.heap.size) (hr : rep w (old w.heap.size) acs a) (hS : SettingDAt w Z ss s) :
    Calls Tryd.prog 81 #[.agg ss.toArray, .agg acs.toArray] w (SetTo w Z (flagD a.name (a.i == 1) s)) := by
  obtain ⟨A1, k1, A2, k2, A3, k3, A4, k4, A5, k5, A6, k6, rfl, h0, h1, h2, h3, h4, ht, hf, hi⟩ := open_AttrD hr
  have HS := Lib.hid (And.intro hS.len (And.intro (set_one hS) (And.intro hS hn0)))
  clear hr h0 h1 h2 h3 h4 ht hf hi hS hn0
  go_enter Tryd.func81, Tryd.ntmps81
  go_wp2_with (first
    | (with_reducible refine wpList_box_row rfl 45 _ rfl ss rfl ?_)
    | (with_reducible refine wpList_box_row rfl 52 _ rfl [.string a.name, .int .i64 a.kind, .int .u32 (a.f : Int), .int .i64 a.i, .string a.s, .int .i64 a.t.type, .slice A1 a.t.dims.length k1, .slice A2 a.t.f.length k2, .slice A3 a.t.i.length k3, .slice A4 a.t.b.length k4, .slice A5 a.floats.length k5, .slice A6 a.ints.length k6] rfl ?_)
    | (with_reducible refine wpList_alloc_row rfl 45 rfl zeroS zeroS_zero ?_; have hX := setR_start w ss [.string a.name, .int .i64 a.kind, .int .u32 (a.f : Int), .int .i64 a.i, .string a.s, .int .i64 a.t.type, .slice A1 a.t.dims.length k1, .slice A2 a.t.f.length k2, .slice A3 a.t.i.length k3, .slice A4 a.t.b.length k4, .slice A5 a.floats.length k5, .slice A6 a.ints.length k6]; generalize World.alloc _ (.cells zeroS.toArray _) = W0 at hX ⊢; have HX := Lib.hid hX; clear hX; refine halt ?_))
  unfold Halt
  have c0 : W0.cell? ⟨w.heap.size + 1, 0, none⟩ = some (.string a.name) := cell_of_row _ _ _ _ _ _ HX.out.a
  have c3 : W0.cell? ⟨w.heap.size + 1, 3, none⟩ = some (.int .i64 a.i) := cell_of_row _ _ _ _ _ _ HX.out.a
  go_wp2_with (first
    | (with_reducible refine wpList_store_field rfl 4 _ _ rfl w.heap.size 3 (.bool (a.i == 1)) rfl rfl (by kernel_rfl) (by kernel_rfl) 45 ss HX.out.s (by rw [HS.out.1]; decide) ?_; have hX := HX.out.row (ss.set 3 (.bool (a.i == 1))); have hd : ∀ W Z, SettingDAt W Z ss s → SettingDAt W Z (ss.set 3 (.bool (a.i == 1))) { s with keeps := (a.i == 1) } := (fun _ _ h => h.set3 rfl); have hl : (ss.set 3 (.bool (a.i == 1))).length = 36 := (by rw [List.length_set]; exact HS.out.1); have ho := one_set HS.out.2.1 3 (v := .bool (a.i == 1)) (by kernel_rfl); generalize World.setRow _ _ _ = W1 at hX ⊢; obtain ⟨c1, hc1⟩ : ∃ c1, ss.set 3 (.bool (a.i == 1)) = c1 := ⟨_, rfl⟩; rw [hc1] at hX hd hl ho; have HX1 := Lib.hid hX; have HD1 := Lib.hid (And.intro hl (And.intro ho hd)); clear hX HX c0 c3 hd hl ho hc1)
    | (with_reducible refine wpList_store_field rfl 4 _ _ rfl w.heap.size 4 (.bool (a.i == 1)) rfl rfl (by kernel_rfl) (by kernel_rfl) 45 ss HX.out.s (by rw [HS.out.1]; decide) ?_; have hX := HX.out.row (ss.set 4 (.bool (a.i == 1))); have hd : ∀ W Z, SettingDAt W Z ss s → SettingDAt W Z (ss.set 4 (.bool (a.i == 1))) { s with noop := (a.i == 1) } := (fun _ _ h => h.set4 rfl); have hl : (ss.set 4 (.bool (a.i == 1))).length = 36 := (by rw [List.length_set]; exact HS.out.1); have ho := one_set HS.out.2.1 4 (v := .bool (a.i == 1)) (by kernel_rfl); generalize World.setRow _ _ _ = W1 at hX ⊢; obtain ⟨c1, hc1⟩ : ∃ c1, ss.set 4 (.bool (a.i == 1)) = c1 := ⟨_, rfl⟩; rw [hc1] at hX hd hl ho; have HX1 := Lib.hid hX; have HD1 := Lib.hid (And.intro hl (And.intro ho hd)); clear hX HX c0 c3 hd hl ho hc1)
    | (with_reducible refine wpList_store_field rfl 4 _ _ rfl w.heap.size 5 (.bool (a.i == 1)) rfl rfl (by kernel_rfl) (by kernel_rfl) 45 ss HX.out.s (by rw [HS.out.1]; decide) ?_; have hX := HX.out.row (ss.set 5 (.bool (a.i == 1))); have hd : ∀ W Z, SettingDAt W Z ss s → SettingDAt W Z (ss.set 5 (.bool (a.i == 1))) { s with last := (a.i == 1) } := (fun _ _ h => h.set5 rfl); have hl : (ss.set 5 (.bool (a.i == 1))).length = 36 := (by rw [List.length_set]; exact HS.out.1); have ho := one_set HS.out.2.1 5 (v := .bool (a.i == 1)) (by kernel_rfl); generalize World.setRow _ _ _ = W1 at hX ⊢; obtain ⟨c1, hc1⟩ : ∃ c1, ss.set 5 (.bool (a.i == 1)) = c1 := ⟨_, rfl⟩; rw [hc1] at hX hd hl ho; have HX1 := Lib.hid hX; have HD1 := Lib.hid (And.intro hl (And.intro ho hd)); clear hX HX c0 c3 hd hl ho hc1)
    | (with_reducible refine wpList_store_field rfl 4 _ _ rfl w.heap.size 6 (.bool (a.i == 1)) rfl rfl (by kernel_rfl) (by kernel_rfl) 45 ss HX.out.s (by rw [HS.out.1]; decide) ?_; have hX := HX.out.row (ss.set 6 (.bool (a.i == 1))); have hd : ∀ W Z, SettingDAt W Z ss s → SettingDAt W Z (ss.set 6 (.bool (a.i == 1))) { s with zero := (a.i == 1) } := (fun _ _ h => h.set6 rfl); have hl : (ss.set 6 (.bool (a.i == 1))).length = 36 := (by rw [List.length_set]; exact HS.out.1); have ho := one_set HS.out.2.1 6 (v := .bool (a.i == 1)) (by kernel_rfl); generalize World.setRow _ _ _ = W1 at hX ⊢; obtain ⟨c1, hc1⟩ : ∃ c1, ss.set 6 (.bool (a.i == 1)) = c1 := ⟨_, rfl⟩; rw [hc1] at hX hd hl ho; have HX1 := Lib.hid hX; have HD1 := Lib.hid (And.intro hl (And.intro ho hd)); clear hX HX c0 c3 hd hl ho hc1)
    | (with_reducible refine wpList_store_field rfl 4 _ _ rfl w.heap.size 12 (.bool (a.i == 1)) rfl rfl (by kernel_rfl) (by kernel_rfl) 45 ss HX.out.s (by rw [HS.out.1]; decide) ?_; have hX := HX.out.row (ss.set 12 (.bool (a.i == 1))); have hd : ∀ W Z, SettingDAt W Z ss s → SettingDAt W Z (ss.set 12 (.bool (a.i == 1))) { s with low := (a.i == 1) } := (fun _ _ h => h.set12 rfl); have hl : (ss.set 12 (.bool (a.i == 1))).length = 36 := (by rw [List.length_set]; exact HS.out.1); have ho := one_set HS.out.2.1 12 (v := .bool (a.i == 1)) (by kernel_rfl); generalize World.setRow _ _ _ = W1 at hX ⊢; obtain ⟨c1, hc1⟩ : ∃ c1, ss.set 12 (.bool (a.i == 1)) = c1 := ⟨_, rfl⟩; rw [hc1] at hX hd hl ho; have HX1 := Lib.hid hX; have HD1 := Lib.hid (And.intro hl (And.intro ho hd)); clear hX HX c0 c3 hd hl ho hc1)
    | (with_reducible refine wpList_store_field rfl 4 _ _ rfl w.heap.size 13 (.bool (a.i == 1)) rfl rfl (by kernel_rfl) (by kernel_rfl) 45 ss HX.out.s (by rw [HS.out.1]; decide) ?_; have hX := HX.out.row (ss.set 13 (.bool (a.i == 1))); have hd : ∀ W Z, SettingDAt W Z ss s → SettingDAt W Z (ss.set 13 (.bool (a.i == 1))) { s with high := (a.i == 1) } := (fun _ _ h => h.set13 rfl); have hl : (ss.set 13 (.bool (a.i == 1))).length = 36 := (by rw [List.length_set]; exact HS.out.1); have ho := one_set HS.out.2.1 13 (v := .bool (a.i == 1)) (by kernel_rfl); generalize World.setRow _ _ _ = W1 at hX ⊢; obtain ⟨c1, hc1⟩ : ∃ c1, ss.set 13 (.bool (a.i == 1)) = c1 := ⟨_, rfl⟩; rw [hc1] at hX hd hl ho; have HX1 := Lib.hid hX; have HD1 := Lib.hid (And.intro hl (And.intro ho hd)); clear hX HX c0 c3 hd hl ho hc1)
    | (with_reducible refine wpList_store_field rfl 4 _ _ rfl w.heap.size 14 (.bool (a.i == 1)) rfl rfl (by kernel_rfl) (by kernel_rfl) 45 ss HX.out.s (by rw [HS.out.1]; decide) ?_; have hX := HX.out.row (ss.set 14 (.bool (a.i == 1))); have hd : ∀ W Z, SettingDAt W Z ss s → SettingDAt W Z (ss.set 14 (.bool (a.i == 1))) { s with fmod := (a.i == 1) } := (fun _ _ h => h.set14 rfl); have hl : (ss.set 14 (.bool (a.i == 1))).length = 36 := (by rw [List.length_set]; exact HS.out.1); have ho := one_set HS.out.2.1 14 (v := .bool (a.i == 1)) (by kernel_rfl); generalize World.setRow _ _ _ = W1 at hX ⊢; obtain ⟨c1, hc1⟩ : ∃ c1, ss.set 14 (.bool (a.i == 1)) = c1 := ⟨_, rfl⟩; rw [hc1] at hX hd hl ho; have HX1 := Lib.hid hX; have HD1 := Lib.hid (And.intro hl (And.intro ho hd)); clear hX HX c0 c3 hd hl ho hc1)
    | (with_reducible refine wpList_store_field rfl 4 _ _ rfl w.heap.size 17 (.bool (a.i == 1)) rfl rfl (by kernel_rfl) (by kernel_rfl) 45 ss HX.out.s (by rw [HS.out.1]; decide) ?_; have hX := HX.out.row (ss.set 17 (.bool (a.i == 1))); have hd : ∀ W Z, SettingDAt W Z ss s → SettingDAt W Z (ss.set 17 (.bool (a.i == 1))) { s with transA := (a.i == 1) } := (fun _ _ h => h.set17 rfl); have hl : (ss.set 17 (.bool (a.i == 1))).length = 36 := (by rw [List.length_set]; exact HS.out.1); have ho := one_set HS.out.2.1 17 (v := .bool (a.i == 1)) (by kernel_rfl); generalize World.setRow _ _ _ = W1 at hX ⊢; obtain ⟨c1, hc1⟩ : ∃ c1, ss.set 17 (.bool (a.i == 1)) = c1 := ⟨_, rfl⟩; rw [hc1] at hX hd hl ho; have HX1 := Lib.hid hX; have HD1 := Lib.hid (And.intro hl (And.intro ho hd)); clear hX HX c0 c3 hd hl ho hc1)
    | (with_reducible refine wpList_store_field rfl 4 _ _ rfl w.heap.size 18 (.bool (a.i == 1)) rfl rfl (by kernel_rfl) (by kernel_rfl) 45 ss HX.out.s (by rw [HS.out.1]; decide) ?_; have hX := HX.out.row (ss.set 18 (.bool (a.i == 1))); have hd : ∀ W Z, SettingDAt W Z ss s → SettingDAt W Z (ss.set 18 (.bool (a.i == 1))) { s with transB := (a.i == 1) } := (fun _ _ h => h.set18 rfl); have hl : (ss.set 18 (.bool (a.i == 1))).length = 36 := (by rw [List.length_set]; exact HS.out.1); have ho := one_set HS.out.2.1 18 (v := .bool (a.i == 1)) (by kernel_rfl); generalize World.setRow _ _ _ = W1 at hX ⊢; obtain ⟨c1, hc1⟩ : ∃ c1, ss.set 18 (.bool (a.i == 1)) = c1 := ⟨_, rfl⟩; rw [hc1] at hX hd hl ho; have HX1 := Lib.hid hX; have HD1 := Lib.hid (And.intro hl (And.intro ho hd)); clear hX HX c0 c3 hd hl ho hc1)
    | (with_reducible refine wpList_store_field rfl 4 _ _ rfl w.heap.size 25 (.bool (a.i == 1)) rfl rfl (by kernel_rfl) (by kernel_rfl) 45 ss HX.out.s (by rw [HS.out.1]; decide) ?_; have hX := HX.out.row (ss.set 25 (.bool (a.i == 1))); have hd : ∀ W Z, SettingDAt W Z ss s → SettingDAt W Z (ss.set 25 (.bool (a.i == 1))) { s with ceil := (a.i == 1) } := (fun _ _ h => h.set25 rfl); have hl : (ss.set 25 (.bool (a.i == 1))).length = 36 := (by rw [List.length_set]; exact HS.out.1); have ho := one_set HS.out.2.1 25 (v := .bool (a.i == 1)) (by kernel_rfl); generalize World.setRow _ _ _ = W1 at hX ⊢; obtain ⟨c1, hc1⟩ : ∃ c1, ss.set 25 (.bool (a.i == 1)) = c1 := ⟨_, rfl⟩; rw [hc1] at hX hd hl ho; have HX1 := Lib.hid hX; have HD1 := Lib.hid (And.intro hl (And.intro ho hd)); clear hX HX c0 c3 hd hl ho hc1)
    | (with_reducible refine wpList_store_field rfl 4 _ _ rfl w.heap.size 26 (.bool (a.i == 1)) rfl rfl (by kernel_rfl) (by kernel_rfl) 45 ss HX.out.s (by rw [HS.out.1]; decide) ?_; have hX := HX.out.row (ss.set 26 (.bool (a.i == 1))); have hd : ∀ W Z, SettingDAt W Z ss s → SettingDAt W Z (ss.set 26 (.bool (a.i == 1))) { s with count := (a.i == 1) } := (fun _ _ h => h.set26 rfl); have hl : (ss.set 26 (.bool (a.i == 1))).length = 36 := (by rw [List.length_set]; exact HS.out.1); have ho := one_set HS.out.2.1 26 (v := .bool (a.i == 1)) (by kernel_rfl); generalize World.setRow _ _ _ = W1 at hX ⊢; obtain ⟨c1, hc1⟩ : ∃ c1, ss.set 26 (.bool (a.i == 1)) = c1 := ⟨_, rfl⟩; rw [hc1] at hX hd hl ho; have HX1 := Lib.hid hX; have HD1 := Lib.hid (And.intro hl (And.intro ho hd)); clear hX HX c0 c3 hd hl ho hc1)
    | (with_reducible refine wpList_load_agg rfl 45 _ rfl _ _ _ rfl c1 Tryd.underlying45 rfl (by rw [HD1.out.1]; kernel_rfl) (At.of_row HX1.out.s) ?_)
    | (with_reducible refine wpList_load_agg rfl 45 _ rfl _ _ _ rfl ss Tryd.underlying45 rfl (by rw [HS.out.1]; kernel_rfl) (At.of_row HX.out.s) ?_)
    | (with_reducible refine wpList_store_agg rfl 45 _ _ rfl (w.heap.size + 2) 0 c1 rfl rfl 45 zeroS HX1.out.z (by rw [HD1.out.1]; kernel_rfl) (by rw [HD1.out.1]; decide) HD1.out.2.1 ?_)
    | (with_reducible refine wpList_store_agg rfl 45 _ _ rfl (w.heap.size + 2) 0 ss rfl rfl 45 zeroS HX.out.z (by rw [HS.out.1]; kernel_rfl) (by rw [HS.out.1]; decide) HS.out.2.1 ?_))
  · obtain ⟨hb, hres⟩ := HX1.out.out HD1.out.1
    refine bodyPost_ret (results_cell_row rfl _ _ (w.heap.size + 2) 45 _ (0, 0) _ rfl hres Tryd.underlying45 rfl (by rw [List.size_toArray, HD1.out.1]; kernel_rfl)) rfl ⟨_, rfl, ?_, hb⟩
    have h := setting_zone HS.out.2.2.1 HS.out.2.2.2 hb
    unfold flagD
    simp only [*, Bool.false_eq_true, ↓reduceIte]
    exact HD1.out.2.2 _ _ h
  · obtain ⟨hb, hres⟩ := HX1.out.out HD1.out.1
    refine bodyPost_ret (results_cell_row rfl _ _ (w.heap.size + 2) 45 _ (0, 0) _ rfl hres Tryd.underlying45 rfl (by rw [List.size_toArray, HD1.out.1]; kernel_rfl)) rfl ⟨_, rfl, ?_, hb⟩
    have h := setting_zone HS.out.2.2.1 HS.out.2.2.2 hb
    unfold flagD
    simp only [*, Bool.false_eq_true, ↓reduceIte]
    exact HD1.out.2.2 _ _ h
  · obtain ⟨hb, hres⟩ := HX1.out.out HD1.out.1
    refine bodyPost_ret (results_cell_row rfl _ _ (w.heap.size + 2) 45 _ (0, 0) _ rfl hres Tryd.underlying45 rfl (by rw [List.size_toArray, HD1.out.1]; kernel_rfl)) rfl ⟨_, rfl, ?_, hb⟩
    have h := setting_zone HS.out.2.2.1 HS.out.2.2.2 hb
    unfold flagD
    simp only [*, Bool.false_eq_true, ↓reduceIte]
    exact HD1.out.2.2 _ _ h
  · obtain ⟨hb, hres⟩ := HX1.out.out HD1.out.1
    refine bodyPost_ret (results_cell_row rfl _ _ (w.heap.size + 2) 45 _ (0, 0) _ rfl hres Tryd.underlying45 rfl (by rw [List.size_toArray, HD1.out.1]; kernel_rfl)) rfl ⟨_, rfl, ?_, hb⟩
    have h := setting_zone HS.out.2.2.1 HS.out.2.2.2 hb
    unfold flagD
    simp only [*, Bool.false_eq_true, ↓reduceIte]
    exact HD1.out.2.2 _ _ h
  · obtain ⟨hb, hres⟩ := HX1.out.out HD1.out.1
    refine bodyPost_ret (results_cell_row rfl _ _ (w.heap.size + 2) 45 _ (0, 0) _ rfl hres Tryd.underlying45 rfl (by rw [List.size_toArray, HD1.out.1]; kernel_rfl)) rfl ⟨_, rfl, ?_, hb⟩
    have h := setting_zone HS.out.2.2.1 HS.out.2.2.2 hb
    unfold flagD
    simp only [*, Bool.false_eq_true, ↓reduceIte]
    exact HD1.out.2.2 _ _ h
  · obtain ⟨hb, hres⟩ := HX1.out.out HD1.out.1
    refine bodyPost_ret (results_cell_row rfl _ _ (w.heap.size + 2) 45 _ (0, 0) _ rfl hres Tryd.underlying45 rfl (by rw [List.size_toArray, HD1.out.1]; kernel_rfl)) rfl ⟨_, rfl, ?_, hb⟩
    have h := setting_zone HS.out.2.2.1 HS.out.2.2.2 hb
    unfold flagD
    simp only [*, Bool.false_eq_true, ↓reduceIte]
    exact HD1.out.2.2 _ _ h
  · obtain ⟨hb, hres⟩ := HX1.out.out HD1.out.1
    refine bodyPost_ret (results_cell_row rfl _ _ (w.heap.size + 2) 45 _ (0, 0) _ rfl hres Tryd.underlying45 rfl (by rw [List.size_toArray, HD1.out.1]; kernel_rfl)) rfl ⟨_, rfl, ?_, hb⟩
    have h := setting_zone HS.out.2.2.1 HS.out.2.2.2 hb
    unfold flagD
    simp only [*, Bool.false_eq_true, ↓reduceIte]
    exact HD1.out.2.2 _ _ h
  · obtain ⟨hb, hres⟩ := HX1.out.out HD1.out.1
    refine bodyPost_ret (results_cell_row rfl _ _ (w.heap.size + 2) 45 _ (0, 0) _ rfl hres Tryd.underlying45 rfl (by rw [List.size_toArray, HD1.out.1]; kernel_rfl)) rfl ⟨_, rfl, ?_, hb⟩
    have h := setting_zone HS.out.2.2.1 HS.out.2.2.2 hb
    unfold flagD
    simp only [*, Bool.false_eq_true, ↓reduceIte]
    exact HD1.out.2.2 _ _ h
  · obtain ⟨hb, hres⟩ := HX1.out.out HD1.out.1
    refine bodyPost_ret (results_cell_row rfl _ _ (w.heap.size + 2) 45 _ (0, 0) _ rfl hres Tryd.underlying45 rfl (by rw [List.size_toArray, HD1.out.1]; kernel_rfl)) rfl ⟨_, rfl, ?_, hb⟩
    have h := setting_zone HS.out.2.2.1 HS.out.2.2.2 hb
    unfold flagD
    simp only [*, Bool.false_eq_true, ↓reduceIte]
    exact HD1.out.2.2 _ _ h
  · obtain ⟨hb, hres⟩ := HX1.out.out HD1.out.1
    refine bodyPost_ret (results_cell_row rfl _ _ (w.heap.size + 2) 45 _ (0, 0) _ rfl hres Tryd.underlying45 rfl (by rw [List.size_toArray, HD1.out.1]; kernel_rfl)) rfl ⟨_, rfl, ?_, hb⟩
    have h := setting_zone HS.out.2.2.1 HS.out.2.2.2 hb
    unfold flagD
    simp only [*, Bool.false_eq_true, ↓reduceIte]
    exact HD1.out.2.2 _ _ h
  · obtain ⟨hb, hres⟩ := HX1.out.out HD1.out.1
    refine bodyPost_ret (results_cell_row rfl _ _ (w.heap.size + 2) 45 _ (0, 0) _ rfl hres Tryd.underlying45 rfl (by rw [List.size_toArray, HD1.out.1]; kernel_rfl)) rfl ⟨_, rfl, ?_, hb⟩
    have h := setting_zone HS.out.2.2.1 HS.out.2.2.2 hb
    unfold flagD
    simp only [*, Bool.false_eq_true, ↓reduceIte]
    exact HD1.out.2.2 _ _ h
  · obtain ⟨hb, hres⟩ := HX.out.out HS.out.1
    refine bodyPost_ret (results_cell_row rfl _ _ (w.heap.size + 2) 45 _ (0, 0) _ rfl hres Tryd.underlying45 rfl (by rw [List.size_toArray, HS.out.1]; kernel_rfl)) rfl ⟨_, rfl, ?_, hb⟩
    have h := setting_zone HS.out.2.2.1 HS.out.2.2.2 hb
    unfold flagD
    simp only [*, Bool.false_eq_true, ↓reduceIte]
    try exact h

/-- .. an attribute that a row of the table names is of that row's kind. -/
structure Legit (op : Int) (a : AttrD) : Prop where
  v4 : a.name = ⟨#[118, 97, 108, 117, 101]⟩ → a.kind ≠ 1 ∧ a.kind ≠ 2 ∧ a.kind ≠ 6 ∧ a.kind ≠ 7
  v1 : a.name = ⟨#[118, 97, 108, 117, 101, 95, 102, 108, 111, 97, 116]⟩ → a.kind = 1
  v2 : a.name = ⟨#[118, 97, 108, 117, 101, 95, 105, 110, 116]⟩ → a.kind = 2
  v6 : a.name = ⟨#[118, 97, 108, 117, 101, 95, 102, 108, 111, 97, 116, 115]⟩ → a.kind = 6
  v7 : a.name = ⟨#[118, 97, 108, 117, 101, 95, 105, 110, 116, 115]⟩ → a.kind = 7
  pre : Lib.hasPrefix a.name.data.toList sValue = true → a.name = ⟨#[118, 97, 108, 117, 101]⟩ ∨ a.name = ⟨#[118, 97, 108, 117, 101, 95, 102, 108, 111, 97, 116]⟩ ∨ a.name = ⟨#[118, 97, 108, 117, 101, 95, 105, 110, 116]⟩ ∨ a.name = ⟨#[118, 97, 108, 117, 101, 95, 102, 108, 111, 97, 116, 115]⟩ ∨ a.name = ⟨#[118, 97, 108, 117, 101, 95, 105, 110, 116, 115]⟩
  mode : a.name = ⟨#[109, 111, 100, 101]⟩ ∨ a.name = ⟨#[114, 101, 100, 117, 99, 116, 105, 111, 110]⟩ ∨ a.name = ⟨#[97, 117, 116, 111, 95, 112, 97, 100]⟩ → ∃ m, modeOfD op a.name a.s = some m

/-- What 'lists' sets. -/
def listRD (a : AttrD) (s : SettingD) : SettingD := if Lib.hasPrefix a.name.data.toList sValue then { s with value := valueOfD a } else listD a.name a.ints s
theorem intsR_new (l : List Int) (v : Value) (w : World) (hr : rep w (old w.heap.size) [v] l) :
    Calls Tryd.prog 111 #[v] w fun e w' => ∃ v', e = .returned v' ∧ rep w' (fresh w.heap.size w'.heap.size) [v'] l ∧ Below w.heap.size w w' := by
  refine (intsR_any l v w hr).mono ?_
  rintro e w' ⟨v', rfl, hown, hb⟩
  obtain ⟨_, _, xs, _, _, _, hbb, _, hch⟩ := open_slice hr
  rw [← chunks_ints hch] at hown
  exact ⟨v', rfl, rep_of_own hown (Chunks.any hch) hbb (fun g _ h1 h2 => ⟨h1, h2⟩), hb⟩
def ListsSaid (a : AttrD) : Prop := ∀ (s : SettingD) (ss acs : List Value) (w : World) (Z : Zone), (∀ b, Z.blk b → b < w.heap.size) → rep w (old w.heap.size) acs a → SettingDAt w Z ss s →
    Calls Tryd.prog 80 #[.agg ss.toArray, .agg acs.toArray] w (SetTo w Z (listRD a s))

set_option maxRecDepth 100000 in
set_option maxHeartbeats 8000000 in
theorem lists_axes (a : AttrD) (hn : a.name = ⟨#[97, 120, 101, 115]⟩) : ListsSaid a := by
  intro s ss acs w Z hn0 hr hS
  have hD : listRD a s = listD a.name a.ints s := by unfold listRD; rw [if_neg (by rw [hn]; decide)]
  obtain ⟨A1, k1, A2, k2, A3, k3, A4, k4, A5, k5, A6, k6, rfl, h0, h1, h2, h3, h4, ht, hf, hi⟩ := open_AttrD hr
  have HS := Lib.hid (And.intro hS.len (And.intro (set_one hS) (And.intro hS hn0)))
  have HI := Lib.hid hi
  have f_axes : (a.name.toList == ([97, 120, 101, 115] : List UInt8)) = true := by rw [beq_lit]; exact decide_eq_true hn
  have HN := Lib.hid (And.intro hn hD)
  clear hr h0 h1 h2 h3 h4 ht hf hi hS hn0 hn hD
  go_enter Tryd.func80, Tryd.ntmps80
  go_wp2_with (first
    | (with_reducible refine wpList_box_row rfl 45 _ rfl ss rfl ?_)
    | (with_reducible refine wpList_box_row rfl 52 _ rfl [.string a.name, .int .i64 a.kind, .int .u32 (a.f : Int), .int .i64 a.i, .string a.s, .int .i64 a.t.type, .slice A1 a.t.dims.length k1, .slice A2 a.t.f.length k2, .slice A3 a.t.i.length k3, .slice A4 a.t.b.length k4, .slice A5 a.floats.length k5, .slice A6 a.ints.length k6] rfl ?_)
    | (with_reducible refine wpList_alloc_row rfl 45 rfl zeroS zeroS_zero ?_; have hX := setR_start w ss [.string a.name, .int .i64 a.kind, .int .u32 (a.f : Int), .int .i64 a.i, .string a.s, .int .i64 a.t.type, .slice A1 a.t.dims.length k1, .slice A2 a.t.f.length k2, .slice A3 a.t.i.length k3, .slice A4 a.t.b.length k4, .slice A5 a.floats.length k5, .slice A6 a.ints.length k6]; generalize World.alloc _ (.cells zeroS.toArray _) = W0 at hX ⊢; have HX := Lib.hid hX; clear hX; refine halt ?_))
  unfold Halt
  have c0 : W0.cell? ⟨w.heap.size + 1, 0, none⟩ = some (.string a.name) := cell_of_row _ _ _ _ _ _ HX.out.a
  have c11 : W0.cell? ⟨w.heap.size + 1, 11, none⟩ = some (.slice A6 a.ints.length k6) := cell_of_row _ _ _ _ _ _ HX.out.a
  go_wp2_with fail
  refine (intsR_new a.ints _ W0 (HX.out.keeps HI.out)).mono ?_
  rintro e w1 ⟨v', rfl, hv, hb⟩
  have hone : v'.oneCell' = true := Rep.one hv _ (List.mem_singleton.2 rfl)
  have HX1 := Lib.hid (HX.out.next hb)
  have HV := Lib.hid (fresh_more hv (show w.heap.size + 3 ≤ W0.heap.size by have := HX.out.lt; omega))
  have HO := Lib.hid hone
  clear hb hv hone c0 c11 HX
  go_wp2_with (first
    | (with_reducible refine wpList_store_field rfl 37 _ _ rfl w.heap.size 1 v' rfl rfl HO.out (by kernel_rfl) 45 ss HX1.out.s (by rw [HS.out.1]; decide) ?_; have hX := HX1.out.row (ss.set 1 v'); have hV := fresh_row HV.out (show w.heap.size < w.heap.size + 3 by omega) (ss.set 1 v').toArray; generalize World.setRow _ _ _ = W1 at hX hV ⊢; have HX := Lib.hid hX; have HV1 := Lib.hid hV; clear hX hV HX1)
    | (with_reducible refine wpList_store_field rfl 4 _ _ rfl w.heap.size 2 (.bool true) rfl rfl (by kernel_rfl) (by kernel_rfl) 45 (ss.set 1 v') HX.out.s (by rw [List.length_set, HS.out.1]; decide) ?_; have hX := HX.out.row ((ss.set 1 v').set 2 (.bool true)); have hV := fresh_row HV1.out (show w.heap.size < w.heap.size + 3 by omega) ((ss.set 1 v').set 2 (.bool true)).toArray; generalize World.setRow _ _ _ = W2 at hX hV ⊢; clear HX HV1; have HX2 := Lib.hid hX; have HV2 := Lib.hid hV; clear hX hV)
    | (with_reducible refine wpList_load_agg rfl 45 _ rfl _ _ _ rfl ((ss.set 1 v').set 2 (.bool true)) Tryd.underlying45 rfl (by simp only [List.length_set, HS.out.1]; kernel_rfl) (At.of_row HX2.out.s) ?_)
    | (with_reducible refine wpList_store_agg rfl 45 _ _ rfl (w.heap.size + 2) 0 ((ss.set 1 v').set 2 (.bool true)) rfl rfl 45 zeroS HX2.out.z (by simp only [List.length_set, HS.out.1]; kernel_rfl) (by simp only [List.length_set, HS.out.1]; decide) (one_set (one_set HS.out.2.1 _ HO.out) _ (by kernel_rfl)) ?_))
  obtain ⟨hb, hres⟩ := HX2.out.out (ss := ((ss.set 1 v').set 2 (.bool true))) (by simp only [List.length_set, HS.out.1])
  refine bodyPost_ret (results_cell_row rfl _ _ (w.heap.size + 2) 45 _ (0, 0) _ rfl hres Tryd.underlying45 rfl (by simp only [List.size_toArray, List.length_set, HS.out.1]; kernel_rfl)) rfl ⟨_, rfl, ?_, hb⟩
  have hV := new_plus Z (fresh_row HV2.out (show w.heap.size + 2 < w.heap.size + 3 by omega) (zeroS.take 0 ++ ((ss.set 1 v').set 2 (.bool true)) ++ zeroS.drop (0 + ((ss.set 1 v').set 2 (.bool true)).length)).toArray) (show w.heap.size ≤ w.heap.size + 3 by omega)
  have h := setting_zone HS.out.2.2.1 HS.out.2.2.2 hb
  rw [HN.out.2]
  unfold listD
  simp only [f_axes, Bool.false_eq_true, ↓reduceIte]
  exact (h.set1 hV).set2 (v := .bool true) (x := true) rfl

set_option maxRecDepth 100000 in
set_option maxHeartbeats 8000000 in
theorem lists_perm (a : AttrD) (hn : a.name = ⟨#[112, 101, 114, 109]⟩) : ListsSaid a := by
  intro s ss acs w Z hn0 hr hS
  have hD : listRD a s = listD a.name a.ints s := by unfold listRD; rw [if_neg (by rw [hn]; decide)]
  obtain ⟨A1, k1, A2, k2, A3, k3, A4, k4, A5, k5, A6, k6, rfl, h0, h1, h2, h3, h4, ht, hf, hi⟩ := open_AttrD hr
  have HS := Lib.hid (And.intro hS.len (And.intro (set_one hS) (And.intro hS hn0)))
  have HI := Lib.hid hi
  have f_axes : (a.name.toList == ([97, 120, 101, 115] : List UInt8)) = false := by rw [beq_lit, hn]; decide
  have f_perm : (a.name.toList == ([112, 101, 114, 109] : List UInt8)) = true := by rw [beq_lit]; exact decide_eq_true hn
  have HN := Lib.hid (And.intro hn hD)
  clear hr h0 h1 h2 h3 h4 ht hf hi hS hn0 hn hD
  go_enter Tryd.func80, Tryd.ntmps80
  go_wp2_with (first
    | (with_reducible refine wpList_box_row rfl 45 _ rfl ss rfl ?_)
    | (with_reducible refine wpList_box_row rfl 52 _ rfl [.string a.name, .int .i64 a.kind, .int .u32 (a.f : Int), .int .i64 a.i, .string a.s, .int .i64 a.t.type, .slice A1 a.t.dims.length k1, .slice A2 a.t.f.length k2, .slice A3 a.t.i.length k3, .slice A4 a.t.b.length k4, .slice A5 a.floats.length k5, .slice A6 a.ints.length k6] rfl ?_)
    | (with_reducible refine wpList_alloc_row rfl 45 rfl zeroS zeroS_zero ?_; have hX := setR_start w ss [.string a.name, .int .i64 a.kind, .int .u32 (a.f : Int), .int .i64 a.i, .string a.s, .int .i64 a.t.type, .slice A1 a.t.dims.length k1, .slice A2 a.t.f.length k2, .slice A3 a.t.i.length k3, .slice A4 a.t.b.length k4, .slice A5 a.floats.length k5, .slice A6 a.ints.length k6]; generalize World.alloc _ (.cells zeroS.toArray _) = W0 at hX ⊢; have HX := Lib.hid hX; clear hX; refine halt ?_))
  unfold Halt
  have c0 : W0.cell? ⟨w.heap.size + 1, 0, none⟩ = some (.string a.name) := cell_of_row _ _ _ _ _ _ HX.out.a
  have c11 : W0.cell? ⟨w.heap.size + 1, 11, none⟩ = some (.slice A6 a.ints.length k6) := cell_of_row _ _ _ _ _ _ HX.out.a
  go_wp2_with fail
  refine (intsR_new a.ints _ W0 (HX.out.keeps HI.out)).mono ?_
  rintro e w1 ⟨v', rfl, hv, hb⟩
  have hone : v'.oneCell' = true := Rep.one hv _ (List.mem_singleton.2 rfl)
  have HX1 := Lib.hid (HX.out.next hb)
  have HV := Lib.hid (fresh_more hv (show w.heap.size + 3 ≤ W0.heap.size by have := HX.out.lt; omega))
  have HO := Lib.hid hone
  clear hb hv hone c0 c11 HX
  go_wp2_with (first
    | (with_reducible refine wpList_store_field rfl 37 _ _ rfl w.heap.size 7 v' rfl rfl HO.out (by kernel_rfl) 45 ss HX1.out.s (by rw [HS.out.1]; decide) ?_; have hX := HX1.out.row (ss.set 7 v'); have hV := fresh_row HV.out (show w.heap.size < w.heap.size + 3 by omega) (ss.set 7 v').toArray; generalize World.setRow _ _ _ = W1 at hX hV ⊢; have HX := Lib.hid hX; have HV1 := Lib.hid hV; clear hX hV HX1)
    | (with_reducible refine wpList_store_field rfl 4 _ _ rfl w.heap.size 8 (.bool true) rfl rfl (by kernel_rfl) (by kernel_rfl) 45 (ss.set 7 v') HX.out.s (by rw [List.length_set, HS.out.1]; decide) ?_; have hX := HX.out.row ((ss.set 7 v').set 8 (.bool true)); have hV := fresh_row HV1.out (show w.heap.size < w.heap.size + 3 by omega) ((ss.set 7 v').set 8 (.bool true)).toArray; generalize World.setRow _ _ _ = W2 at hX hV ⊢; clear HX HV1; have HX2 := Lib.hid hX; have HV2 := Lib.hid hV; clear hX hV)
    | (with_reducible refine wpList_load_agg rfl 45 _ rfl _ _ _ rfl ((ss.set 7 v').set 8 (.bool true)) Tryd.underlying45 rfl (by simp only [List.length_set, HS.out.1]; kernel_rfl) (At.of_row HX2.out.s) ?_)
    | (with_reducible refine wpList_store_agg rfl 45 _ _ rfl (w.heap.size + 2) 0 ((ss.set 7 v').set 8 (.bool true)) rfl rfl 45 zeroS HX2.out.z (by simp only [List.length_set, HS.out.1]; kernel_rfl) (by simp only [List.length_set, HS.out.1]; decide) (one_set (one_set HS.out.2.1 _ HO.out) _ (by kernel_rfl)) ?_))
  obtain ⟨hb, hres⟩ := HX2.out.out (ss := ((ss.set 7 v').set 8 (.bool true))) (by simp only [List.length_set, HS.out.1])
  refine bodyPost_ret (results_cell_row rfl _ _ (w.heap.size + 2) 45 _ (0, 0) _ rfl hres Tryd.underlying45 rfl (by simp only [List.size_toArray, List.length_set, HS.out.1]; kernel_rfl)) rfl ⟨_, rfl, ?_, hb⟩
  have hV := new_plus Z (fresh_row HV2.out (show w.heap.size + 2 < w.heap.size + 3 by omega) (zeroS.take 0 ++ ((ss.set 7 v').set 8 (.bool true)) ++ zeroS.drop (0 + ((ss.set 7 v').set 8 (.bool true)).length)).toArray) (show w.heap.size ≤ w.heap.size + 3 by omega)
  have h := setting_zone HS.out.2.2.1 HS.out.2.2.2 hb
  rw [HN.out.2]
  unfold listD
  simp only [f_axes, f_perm, Bool.false_eq_true, ↓reduceIte]
  exact (h.set7 hV).set8 (v := .bool true) (x := true) rfl

set_option maxRecDepth 100000 in
set_option maxHeartbeats 8000000 in
theorem lists_kernel_shape (a : AttrD) (hn : a.name = ⟨#[107, 101, 114, 110, 101, 108, 95, 115, 104, 97, 112, 101]⟩) : ListsSaid a := by
  intro s ss acs w Z hn0 hr hS
  have hD : listRD a s = listD a.name a.ints s := by unfold listRD; rw [if_neg (by rw [hn]; decide)]
  obtain ⟨A1, k1, A2, k2, A3, k3, A4, k4, A5, k5, A6, k6, rfl, h0, h1, h2, h3, h4, ht, hf, hi⟩ := open_AttrD hr
  have HS := Lib.hid (And.intro hS.len (And.intro (set_one hS) (And.intro hS hn0)))
  have HI := Lib.hid hi
  have f_axes : (a.name.toList == ([97, 120, 101, 115] : List UInt8)) = false := by rw [beq_lit, hn]; decide
  have f_perm : (a.name.toList == ([112, 101, 114, 109] : List UInt8)) = false := by rw [beq_lit, hn]; decide
  have f_kernel_shape : (a.name.toList == ([107, 101, 114, 110, 101, 108, 95, 115, 104, 97, 112, 101] : List UInt8)) = true := by rw [beq_lit]; exact decide_eq_true hn
  have HN := Lib.hid (And.intro hn hD)
  clear hr h0 h1 h2 h3 h4 ht hf hi hS hn0 hn hD
  go_enter Tryd.func80, Tryd.ntmps80
  go_wp2_with (first
    | (with_reducible refine wpList_box_row rfl 45 _ rfl ss rfl ?_)
    | (with_reducible refine wpList_box_row rfl 52 _ rfl [.string a.name, .int .i64 a.kind, .int .u32 (a.f : Int), .int .i64 a.i, .string a.s, .int .i64 a.t.type, .slice A1 a.t.dims.length k1, .slice A2 a.t.f.length k2, .slice A3 a.t.i.length k3, .slice A4 a.t.b.length k4, .slice A5 a.floats.length k5, .slice A6 a.ints.length k6] rfl ?_)
    | (with_reducible refine wpList_alloc_row rfl 45 rfl zeroS zeroS_zero ?_; have hX := setR_start w ss [.string a.name, .int .i64 a.kind, .int .u32 (a.f : Int), .int .i64 a.i, .string a.s, .int .i64 a.t.type, .slice A1 a.t.dims.length k1, .slice A2 a.t.f.length k2, .slice A3 a.t.i.length k3, .slice A4 a.t.b.length k4, .slice A5 a.floats.length k5, .slice A6 a.ints.length k6]; generalize World.alloc _ (.cells zeroS.toArray _) = W0 at hX ⊢; have HX := Lib.hid hX; clear hX; refine halt ?_))
  unfold Halt
  have c0 : W0.cell? ⟨w.heap.size + 1, 0, none⟩ = some (.string a.name) := cell_of_row _ _ _ _ _ _ HX.out.a
  have c11 : W0.cell? ⟨w.heap.size + 1, 11, none⟩ = some (.slice A6 a.ints.length k6) := cell_of_row _ _ _ _ _ _ HX.out.a
  go_wp2_with fail
  refine (intsR_new a.ints _ W0 (HX.out.keeps HI.out)).mono ?_
  rintro e w1 ⟨v', rfl, hv, hb⟩
  have hone : v'.oneCell' = true := Rep.one hv _ (List.mem_singleton.2 rfl)
  have HX1 := Lib.hid (HX.out.next hb)
  have HV := Lib.hid (fresh_more hv (show w.heap.size + 3 ≤ W0.heap.size by have := HX.out.lt; omega))
  have HO := Lib.hid hone
  clear hb hv hone c0 c11 HX
  go_wp2_with (first
    | (with_reducible refine wpList_store_field rfl 37 _ _ rfl w.heap.size 20 v' rfl rfl HO.out (by kernel_rfl) 45 ss HX1.out.s (by rw [HS.out.1]; decide) ?_; have hX := HX1.out.row (ss.set 20 v'); have hV := fresh_row HV.out (show w.heap.size < w.heap.size + 3 by omega) (ss.set 20 v').toArray; generalize World.setRow _ _ _ = W1 at hX hV ⊢; have HX := Lib.hid hX; have HV1 := Lib.hid hV; clear hX hV HX1)
    | (with_reducible refine wpList_load_agg rfl 45 _ rfl _ _ _ rfl (ss.set 20 v') Tryd.underlying45 rfl (by simp only [List.length_set, HS.out.1]; kernel_rfl) (At.of_row HX.out.s) ?_)
    | (with_reducible refine wpList_store_agg rfl 45 _ _ rfl (w.heap.size + 2) 0 (ss.set 20 v') rfl rfl 45 zeroS HX.out.z (by simp only [List.length_set, HS.out.1]; kernel_rfl) (by simp only [List.length_set, HS.out.1]; decide) (one_set HS.out.2.1 _ HO.out) ?_))
  obtain ⟨hb, hres⟩ := HX.out.out (ss := (ss.set 20 v')) (by simp only [List.length_set, HS.out.1])
  refine bodyPost_ret (results_cell_row rfl _ _ (w.heap.size + 2) 45 _ (0, 0) _ rfl hres Tryd.underlying45 rfl (by simp only [List.size_toArray, List.length_set, HS.out.1]; kernel_rfl)) rfl ⟨_, rfl, ?_, hb⟩
  have hV := new_plus Z (fresh_row HV1.out (show w.heap.size + 2 < w.heap.size + 3 by omega) (zeroS.take 0 ++ (ss.set 20 v') ++ zeroS.drop (0 + (ss.set 20 v').length)).toArray) (show w.heap.size ≤ w.heap.size + 3 by omega)
  have h := setting_zone HS.out.2.2.1 HS.out.2.2.2 hb
  rw [HN.out.2]
  unfold listD
  simp only [f_axes, f_perm, f_kernel_shape, Bool.false_eq_true, ↓reduceIte]
  exact h.set20 hV

set_option maxRecDepth 100000 in
set_option maxHeartbeats 8000000 in
theorem lists_strides (a : AttrD) (hn : a.name = ⟨#[115, 116, 114, 105, 100, 101, 115]⟩) : ListsSaid a := by
  intro s ss acs w Z hn0 hr hS
  have hD : listRD a s = listD a.name a.ints s := by unfold listRD; rw [if_neg (by rw [hn]; decide)]
  obtain ⟨A1, k1, A2, k2, A3, k3, A4, k4, A5, k5, A6, k6, rfl, h0, h1, h2, h3, h4, ht, hf, hi⟩ := open_AttrD hr
  have HS := Lib.hid (And.intro hS.len (And.intro (set_one hS) (And.intro hS hn0)))
  have HI := Lib.hid hi
  have f_axes : (a.name.toList == ([97, 120, 101, 115] : List UInt8)) = false := by rw [beq_lit, hn]; decide
  have f_perm : (a.name.toList == ([112, 101, 114, 109] : List UInt8)) = false := by rw [beq_lit, hn]; decide
  have f_kernel_shape : (a.name.toList == ([107, 101, 114, 110, 101, 108, 95, 115, 104, 97, 112, 101] : List UInt8)) = false := by rw [beq_lit, hn]; decide
  have f_strides : (a.name.toList == ([115, 116, 114, 105, 100, 101, 115] : List UInt8)) = true := by rw [beq_lit]; exact decide_eq_true hn
  have HN := Lib.hid (And.intro hn hD)
  clear hr h0 h1 h2 h3 h4 ht hf hi hS hn0 hn hD
  go_enter Tryd.func80, Tryd.ntmps80
  go_wp2_with (first
    | (with_reducible refine wpList_box_row rfl 45 _ rfl ss rfl ?_)
    | (with_reducible refine wpList_box_row rfl 52 _ rfl [.string a.name, .int .i64 a.kind, .int .u32 (a.f : Int), .int .i64 a.i, .string a.s, .int .i64 a.t.type, .slice A1 a.t.dims.length k1, .slice A2 a.t.f.length k2, .slice A3 a.t.i.length k3, .slice A4 a.t.b.length k4, .slice A5 a.floats.length k5, .slice A6 a.ints.length k6] rfl ?_)
    | (with_reducible refine wpList_alloc_row rfl 45 rfl zeroS zeroS_zero ?_; have hX := setR_start w ss [.string a.name, .int .i64 a.kind, .int .u32 (a.f : Int), .int .i64 a.i, .string a.s, .int .i64 a.t.type, .slice A1 a.t.dims.length k1, .slice A2 a.t.f.length k2, .slice A3 a.t.i.length k3, .slice A4 a.t.b.length k4, .slice A5 a.floats.length k5, .slice A6 a.ints.length k6]; generalize World.alloc _ (.cells zeroS.toArray _) = W0 at hX ⊢; have HX := Lib.hid hX; clear hX; refine halt ?_))
  unfold Halt
  have c0 : W0.cell? ⟨w.heap.size + 1, 0, none⟩ = some (.string a.name) := cell_of_row _ _ _ _ _ _ HX.out.a
  have c11 : W0.cell? ⟨w.heap.size + 1, 11, none⟩ = some (.slice A6 a.ints.length k6) := cell_of_row _ _ _ _ _ _ HX.out.a
  go_wp2_with fail
  refine (intsR_new a.ints _ W0 (HX.out.keeps HI.out)).mono ?_
  rintro e w1 ⟨v', rfl, hv, hb⟩
  have hone : v'.oneCell' = true := Rep.one hv _ (List.mem_singleton.2 rfl)
  have HX1 := Lib.hid (HX.out.next hb)
  have HV := Lib.hid (fresh_more hv (show w.heap.size + 3 ≤ W0.heap.size by have := HX.out.lt; omega))
  have HO := Lib.hid hone
  clear hb hv hone c0 c11 HX
  go_wp2_with (first
    | (with_reducible refine wpList_store_field rfl 37 _ _ rfl w.heap.size 21 v' rfl rfl HO.out (by kernel_rfl) 45 ss HX1.out.s (by rw [HS.out.1]; decide) ?_; have hX := HX1.out.row (ss.set 21 v'); have hV := fresh_row HV.out (show w.heap.size < w.heap.size + 3 by omega) (ss.set 21 v').toArray; generalize World.setRow _ _ _ = W1 at hX hV ⊢; have HX := Lib.hid hX; have HV1 := Lib.hid hV; clear hX hV HX1)
    | (with_reducible refine wpList_load_agg rfl 45 _ rfl _ _ _ rfl (ss.set 21 v') Tryd.underlying45 rfl (by simp only [List.length_set, HS.out.1]; kernel_rfl) (At.of_row HX.out.s) ?_)
    | (with_reducible refine wpList_store_agg rfl 45 _ _ rfl (w.heap.size + 2) 0 (ss.set 21 v') rfl rfl 45 zeroS HX.out.z (by simp only [List.length_set, HS.out.1]; kernel_rfl) (by simp only [List.length_set, HS.out.1]; decide) (one_set HS.out.2.1 _ HO.out) ?_))
  obtain ⟨hb, hres⟩ := HX.out.out (ss := (ss.set 21 v')) (by simp only [List.length_set, HS.out.1])
  refine bodyPost_ret (results_cell_row rfl _ _ (w.heap.size + 2) 45 _ (0, 0) _ rfl hres Tryd.underlying45 rfl (by simp only [List.size_toArray, List.length_set, HS.out.1]; kernel_rfl)) rfl ⟨_, rfl, ?_, hb⟩
  have hV := new_plus Z (fresh_row HV1.out (show w.heap.size + 2 < w.heap.size + 3 by omega) (zeroS.take 0 ++ (ss.set 21 v') ++ zeroS.drop (0 + (ss.set 21 v').length)).toArray) (show w.heap.size ≤ w.heap.size + 3 by omega)
  have h := setting_zone HS.out.2.2.1 HS.out.2.2.2 hb
  rw [HN.out.2]
  unfold listD
  simp only [f_axes, f_perm, f_kernel_shape, f_strides, Bool.false_eq_true, ↓reduceIte]
  exact h.set21 hV

set_option maxRecDepth 100000 in
set_option maxHeartbeats 8000000 in
theorem lists_pads (a : AttrD) (hn : a.name = ⟨#[112, 97, 100, 115]⟩) : ListsSaid a := by
  intro s ss acs w Z hn0 hr hS
  have hD : listRD a s = listD a.name a.ints s := by unfold listRD; rw [if_neg (by rw [hn]; decide)]
  obtain ⟨A1, k1, A2, k2, A3, k3, A4, k4, A5, k5, A6, k6, rfl, h0, h1, h2, h3, h4, ht, hf, hi⟩ := open_AttrD hr
  have HS := Lib.hid (And.intro hS.len (And.intro (set_one hS) (And.intro hS hn0)))
  have HI := Lib.hid hi
  have f_axes : (a.name.toList == ([97, 120, 101, 115] : List UInt8)) = false := by rw [beq_lit, hn]; decide
  have f_perm : (a.name.toList == ([112, 101, 114, 109] : List UInt8)) = false := by rw [beq_lit, hn]; decide
  have f_kernel_shape : (a.name.toList == ([107, 101, 114, 110, 101, 108, 95, 115, 104, 97, 112, 101] : List UInt8)) = false := by rw [beq_lit, hn]; decide
  have f_strides : (a.name.toList == ([115, 116, 114, 105, 100, 101, 115] : List UInt8)) = false := by rw [beq_lit, hn]; decide
  have f_pads : (a.name.toList == ([112, 97, 100, 115] : List UInt8)) = true := by rw [beq_lit]; exact decide_eq_true hn
  have HN := Lib.hid (And.intro hn hD)
  clear hr h0 h1 h2 h3 h4 ht hf hi hS hn0 hn hD
  go_enter Tryd.func80, Tryd.ntmps80
  go_wp2_with (first
    | (with_reducible refine wpList_box_row rfl 45 _ rfl ss rfl ?_)
    | (with_reducible refine wpList_box_row rfl 52 _ rfl [.string a.name, .int .i64 a.kind, .int .u32 (a.f : Int), .int .i64 a.i, .string a.s, .int .i64 a.t.type, .slice A1 a.t.dims.length k1, .slice A2 a.t.f.length k2, .slice A3 a.t.i.length k3, .slice A4 a.t.b.length k4, .slice A5 a.floats.length k5, .slice A6 a.ints.length k6] rfl ?_)
    | (with_reducible refine wpList_alloc_row rfl 45 rfl zeroS zeroS_zero ?_; have hX := setR_start w ss [.string a.name, .int .i64 a.kind, .int .u32 (a.f : Int), .int .i64 a.i, .string a.s, .int .i64 a.t.type, .slice A1 a.t.dims.length k1, .slice A2 a.t.f.length k2, .slice A3 a.t.i.length k3, .slice A4 a.t.b.length k4, .slice A5 a.floats.length k5, .slice A6 a.ints.length k6]; generalize World.alloc _ (.cells zeroS.toArray _) = W0 at hX ⊢; have HX := Lib.hid hX; clear hX; refine halt ?_))
  unfold Halt
  have c0 : W0.cell? ⟨w.heap.size + 1, 0, none⟩ = some (.string a.name) := cell_of_row _ _ _ _ _ _ HX.out.a
  have c11 : W0.cell? ⟨w.heap.size + 1, 11, none⟩ = some (.slice A6 a.ints.length k6) := cell_of_row _ _ _ _ _ _ HX.out.a
  go_wp2_with fail
  refine (intsR_new a.ints _ W0 (HX.out.keeps HI.out)).mono ?_
  rintro e w1 ⟨v', rfl, hv, hb⟩
  have hone : v'.oneCell' = true := Rep.one hv _ (List.mem_singleton.2 rfl)
  have HX1 := Lib.hid (HX.out.next hb)
  have HV := Lib.hid (fresh_more hv (show w.heap.size + 3 ≤ W0.heap.size by have := HX.out.lt; omega))
  have HO := Lib.hid hone
  clear hb hv hone c0 c11 HX
  go_wp2_with (first
    | (with_reducible refine wpList_store_field rfl 37 _ _ rfl w.heap.size 22 v' rfl rfl HO.out (by kernel_rfl) 45 ss HX1.out.s (by rw [HS.out.1]; decide) ?_; have hX := HX1.out.row (ss.set 22 v'); have hV := fresh_row HV.out (show w.heap.size < w.heap.size + 3 by omega) (ss.set 22 v').toArray; generalize World.setRow _ _ _ = W1 at hX hV ⊢; have HX := Lib.hid hX; have HV1 := Lib.hid hV; clear hX hV HX1)
    | (with_reducible refine wpList_load_agg rfl 45 _ rfl _ _ _ rfl (ss.set 22 v') Tryd.underlying45 rfl (by simp only [List.length_set, HS.out.1]; kernel_rfl) (At.of_row HX.out.s) ?_)
    | (with_reducible refine wpList_store_agg rfl 45 _ _ rfl (w.heap.size + 2) 0 (ss.set 22 v') rfl rfl 45 zeroS HX.out.z (by simp only [List.length_set, HS.out.1]; kernel_rfl) (by simp only [List.length_set, HS.out.1]; decide) (one_set HS.out.2.1 _ HO.out) ?_))
  obtain ⟨hb, hres⟩ := HX.out.out (ss := (ss.set 22 v')) (by simp only [List.length_set, HS.out.1])
  refine bodyPost_ret (results_cell_row rfl _ _ (w.heap.size + 2) 45 _ (0, 0) _ rfl hres Tryd.underlying45 rfl (by simp only [List.size_toArray, List.length_set, HS.out.1]; kernel_rfl)) rfl ⟨_, rfl, ?_, hb⟩
  have hV := new_plus Z (fresh_row HV1.out (show w.heap.size + 2 < w.heap.size + 3 by omega) (zeroS.take 0 ++ (ss.set 22 v') ++ zeroS.drop (0 + (ss.set 22 v').length)).toArray) (show w.heap.size ≤ w.heap.size + 3 by omega)
  have h := setting_zone HS.out.2.2.1 HS.out.2.2.2 hb
  rw [HN.out.2]
  unfold listD
  simp only [f_axes, f_perm, f_kernel_shape, f_strides, f_pads, Bool.false_eq_true, ↓reduceIte]
  exact h.set22 hV

set_option maxRecDepth 100000 in
set_option maxHeartbeats 8000000 in
theorem lists_dilations (a : AttrD) (hn : a.name = ⟨#[100, 105, 108, 97, 116, 105, 111, 110, 115]⟩) : ListsSaid a := by
  intro s ss acs w Z hn0 hr hS
  have hD : listRD a s = listD a.name a.ints s := by unfold listRD; rw [if_neg (by rw [hn]; decide)]
  obtain ⟨A1, k1, A2, k2, A3, k3, A4, k4, A5, k5, A6, k6, rfl, h0, h1, h2, h3, h4, ht, hf, hi⟩ := open_AttrD hr
  have HS := Lib.hid (And.intro hS.len (And.intro (set_one hS) (And.intro hS hn0)))
  have HI := Lib.hid hi
  have f_axes : (a.name.toList == ([97, 120, 101, 115] : List UInt8)) = false := by rw [beq_lit, hn]; decide
  have f_perm : (a.name.toList == ([112, 101, 114, 109] : List UInt8)) = false := by rw [beq_lit, hn]; decide
  have f_kernel_shape : (a.name.toList == ([107, 101, 114, 110, 101, 108, 95, 115, 104, 97, 112, 101] : List UInt8)) = false := by rw [beq_lit, hn]; decide
  have f_strides : (a.name.toList == ([115, 116, 114, 105, 100, 101, 115] : List UInt8)) = false := by rw [beq_lit, hn]; decide
  have f_pads : (a.name.toList == ([112, 97, 100, 115] : List UInt8)) = false := by rw [beq_lit, hn]; decide
  have f_dilations : (a.name.toList == ([100, 105, 108, 97, 116, 105, 111, 110, 115] : List UInt8)) = true := by rw [beq_lit]; exact decide_eq_true hn
  have HN := Lib.hid (And.intro hn hD)
  clear hr h0 h1 h2 h3 h4 ht hf hi hS hn0 hn hD
  go_enter Tryd.func80, Tryd.ntmps80
  go_wp2_with (first
    | (with_reducible refine wpList_box_row rfl 45 _ rfl ss rfl ?_)
    | (with_reducible refine wpList_box_row rfl 52 _ rfl [.string a.name, .int .i64 a.kind, .int .u32 (a.f : Int), .int .i64 a.i, .string a.s, .int .i64 a.t.type, .slice A1 a.t.dims.length k1, .slice A2 a.t.f.length k2, .slice A3 a.t.i.length k3, .slice A4 a.t.b.length k4, .slice A5 a.floats.length k5, .slice A6 a.ints.length k6] rfl ?_)
    | (with_reducible refine wpList_alloc_row rfl 45 rfl zeroS zeroS_zero ?_; have hX := setR_start w ss [.string a.name, .int .i64 a.kind, .int .u32 (a.f : Int), .int .i64 a.i, .string a.s, .int .i64 a.t.type, .slice A1 a.t.dims.length k1, .slice A2 a.t.f.length k2, .slice A3 a.t.i.length k3, .slice A4 a.t.b.length k4, .slice A5 a.floats.length k5, .slice A6 a.ints.length k6]; generalize World.alloc _ (.cells zeroS.toArray _) = W0 at hX ⊢; have HX := Lib.hid hX; clear hX; refine halt ?_))
  unfold Halt
  have c0 : W0.cell? ⟨w.heap.size + 1, 0, none⟩ = some (.string a.name) := cell_of_row _ _ _ _ _ _ HX.out.a
  have c11 : W0.cell? ⟨w.heap.size + 1, 11, none⟩ = some (.slice A6 a.ints.length k6) := cell_of_row _ _ _ _ _ _ HX.out.a
  go_wp2_with fail
  refine (intsR_new a.ints _ W0 (HX.out.keeps HI.out)).mono ?_
  rintro e w1 ⟨v', rfl, hv, hb⟩
  have hone : v'.oneCell' = true := Rep.one hv _ (List.mem_singleton.2 rfl)
  have HX1 := Lib.hid (HX.out.next hb)
  have HV := Lib.hid (fresh_more hv (show w.heap.size + 3 ≤ W0.heap.size by have := HX.out.lt; omega))
  have HO := Lib.hid hone
  clear hb hv hone c0 c11 HX
  go_wp2_with (first
    | (with_reducible refine wpList_store_field rfl 37 _ _ rfl w.heap.size 23 v' rfl rfl HO.out (by kernel_rfl) 45 ss HX1.out.s (by rw [HS.out.1]; decide) ?_; have hX := HX1.out.row (ss.set 23 v'); have hV := fresh_row HV.out (show w.heap.size < w.heap.size + 3 by omega) (ss.set 23 v').toArray; generalize World.setRow _ _ _ = W1 at hX hV ⊢; have HX := Lib.hid hX; have HV1 := Lib.hid hV; clear hX hV HX1)
    | (with_reducible refine wpList_load_agg rfl 45 _ rfl _ _ _ rfl (ss.set 23 v') Tryd.underlying45 rfl (by simp only [List.length_set, HS.out.1]; kernel_rfl) (At.of_row HX.out.s) ?_)
    | (with_reducible refine wpList_store_agg rfl 45 _ _ rfl (w.heap.size + 2) 0 (ss.set 23 v') rfl rfl 45 zeroS HX.out.z (by simp only [List.length_set, HS.out.1]; kernel_rfl) (by simp only [List.length_set, HS.out.1]; decide) (one_set HS.out.2.1 _ HO.out) ?_))
  obtain ⟨hb, hres⟩ := HX.out.out (ss := (ss.set 23 v')) (by simp only [List.length_set, HS.out.1])
  refine bodyPost_ret (results_cell_row rfl _ _ (w.heap.size + 2) 45 _ (0, 0) _ rfl hres Tryd.underlying45 rfl (by simp only [List.size_toArray, List.length_set, HS.out.1]; kernel_rfl)) rfl ⟨_, rfl, ?_, hb⟩
  have hV := new_plus Z (fresh_row HV1.out (show w.heap.size + 2 < w.heap.size + 3 by omega) (zeroS.take 0 ++ (ss.set 23 v') ++ zeroS.drop (0 + (ss.set 23 v').length)).toArray) (show w.heap.size ≤ w.heap.size + 3 by omega)
  have h := setting_zone HS.out.2.2.1 HS.out.2.2.2 hb
  rw [HN.out.2]
  unfold listD
  simp only [f_axes, f_perm, f_kernel_shape, f_strides, f_pads, f_dilations, Bool.false_eq_true, ↓reduceIte]
  exact h.set23 hV

set_option maxRecDepth 100000 in
set_option maxHeartbeats 8000000 in
theorem lists_value (a : AttrD) (hn : a.name = ⟨#[118, 97, 108, 117, 101]⟩) (hk : a.kind ≠ 1 ∧ a.kind ≠ 2 ∧ a.kind ≠ 6 ∧ a.kind ≠ 7) : ListsSaid a := by
  intro s ss acs w Z hn0 hr hS
  have hD : listRD a s = { s with value := valueOfD a } := by unfold listRD; rw [if_pos (by rw [hn]; decide)]
  have hV : valueOfD a = a.t := by unfold valueOfD; rw [if_neg hk.1, if_neg hk.2.1, if_neg hk.2.2.1, if_neg hk.2.2.2]
  obtain ⟨A1, k1, A2, k2, A3, k3, A4, k4, A5, k5, A6, k6, rfl, h0, h1, h2, h3, h4, ht, hf, hi⟩ := open_AttrD hr
  have HS := Lib.hid (And.intro hS.len (And.intro (set_one hS) (And.intro hS hn0)))
  have f_axes : (a.name.toList == ([97, 120, 101, 115] : List UInt8)) = false := by rw [beq_lit, hn]; decide
  have f_perm : (a.name.toList == ([112, 101, 114, 109] : List UInt8)) = false := by rw [beq_lit, hn]; decide
  have f_kernel_shape : (a.name.toList == ([107, 101, 114, 110, 101, 108, 95, 115, 104, 97, 112, 101] : List UInt8)) = false := by rw [beq_lit, hn]; decide
  have f_strides : (a.name.toList == ([115, 116, 114, 105, 100, 101, 115] : List UInt8)) = false := by rw [beq_lit, hn]; decide
  have f_pads : (a.name.toList == ([112, 97, 100, 115] : List UInt8)) = false := by rw [beq_lit, hn]; decide
  have f_dilations : (a.name.toList == ([100, 105, 108, 97, 116, 105, 111, 110, 115] : List UInt8)) = false := by rw [beq_lit, hn]; decide
  have f_value : (a.name.toList == ([118, 97, 108, 117, 101] : List UInt8)) = true := by rw [beq_lit]; exact decide_eq_true hn
  have HN := Lib.hid (And.intro hn (And.intro hD hV))
  have HI := Lib.hid ht
  clear hr h0 h1 h2 h3 h4 ht hf hi hS hn0 hn hD hV
  go_enter Tryd.func80, Tryd.ntmps80
  go_wp2_with (first
    | (with_reducible refine wpList_box_row rfl 45 _ rfl ss rfl ?_)
    | (with_reducible refine wpList_box_row rfl 52 _ rfl [.string a.name, .int .i64 a.kind, .int .u32 (a.f : Int), .int .i64 a.i, .string a.s, .int .i64 a.t.type, .slice A1 a.t.dims.length k1, .slice A2 a.t.f.length k2, .slice A3 a.t.i.length k3, .slice A4 a.t.b.length k4, .slice A5 a.floats.length k5, .slice A6 a.ints.length k6] rfl ?_)
    | (with_reducible refine wpList_alloc_row rfl 45 rfl zeroS zeroS_zero ?_; have hX := setR_start w ss [.string a.name, .int .i64 a.kind, .int .u32 (a.f : Int), .int .i64 a.i, .string a.s, .int .i64 a.t.type, .slice A1 a.t.dims.length k1, .slice A2 a.t.f.length k2, .slice A3 a.t.i.length k3, .slice A4 a.t.b.length k4, .slice A5 a.floats.length k5, .slice A6 a.ints.length k6]; generalize World.alloc _ (.cells zeroS.toArray _) = W0 at hX ⊢; have HX := Lib.hid hX; clear hX; refine halt ?_))
  unfold Halt
  have c0 : W0.cell? ⟨w.heap.size + 1, 0, none⟩ = some (.string a.name) := cell_of_row _ _ _ _ _ _ HX.out.a
  have hat : At W0 (w.heap.size + 1) 5 [.int .i64 a.t.type, .slice A1 a.t.dims.length k1, .slice A2 a.t.f.length k2, .slice A3 a.t.i.length k3, .slice A4 a.t.b.length k4] := At.part (xs := [.string a.name, .int .i64 a.kind, .int .u32 (a.f : Int), .int .i64 a.i, .string a.s]) (ys := [.slice A5 a.floats.length k5, .slice A6 a.ints.length k6]) (At.of_row HX.out.a)
  have HAT := Lib.hid hat
  clear hat
  go_wp2_with (first
    | (with_reducible refine wpList_load_agg rfl 43 _ rfl _ (w.heap.size + 1) 5 rfl [.int .i64 a.t.type, .slice A1 a.t.dims.length k1, .slice A2 a.t.f.length k2, .slice A3 a.t.i.length k3, .slice A4 a.t.b.length k4] Tryd.underlying43 rfl (by kernel_rfl) HAT.out ?_))
  refine (tensorR_any _ a.t W0 (HX.out.keeps HI.out)).mono ?_
  rintro e w1 ⟨ts, rfl, hv, hb⟩
  have HX1 := Lib.hid (HX.out.next hb)
  have HT := Lib.hid (fresh_more hv (show w.heap.size + 3 ≤ W0.heap.size by have := HX.out.lt; omega))
  clear hb hv c0 HX
  go_wp2_with (with_reducible refine at_store 43 _ _ rfl ?_; refine halt ?_)
  unfold Halt
  have hl5 : (ts : List Value).length = 5 := Rep.len HT.out
  have hcut : (ss.take 31 ++ ts ++ ss.drop (31 + (ts : List Value).length)).length = 36 := by have := HS.out.1; simp only [List.length_append, List.length_take, List.length_drop, hl5]; omega
  have hcone : ∀ u ∈ ss.take 31 ++ ts ++ ss.drop (31 + (ts : List Value).length), u.oneCell' = true := by
    intro u hu
    rw [List.mem_append, List.mem_append] at hu
    rcases hu with (hu | hu) | hu
    · exact HS.out.2.1 u (List.mem_of_mem_take hu)
    · exact Rep.one HT.out u hu
    · exact HS.out.2.1 u (List.mem_of_mem_drop hu)
  have HC := Lib.hid (And.intro hcut (And.intro hcone hl5))
  clear hcut hcone hl5
  refine wpList_store_agg rfl 43 _ _ rfl w.heap.size 31 ts rfl rfl 45 ss HX1.out.s (by rw [HC.out.2.2]; kernel_rfl) (by rw [HC.out.2.2, HS.out.1]; decide) (Rep.one HT.out) ?_
  have hX := HX1.out.row (ss.take 31 ++ ts ++ ss.drop (31 + (ts : List Value).length))
  have hV := fresh_row HT.out (show w.heap.size < w.heap.size + 3 by omega) (ss.take 31 ++ ts ++ ss.drop (31 + (ts : List Value).length)).toArray
  obtain ⟨cc, hcc⟩ : ∃ cc, ss.take 31 ++ ts ++ ss.drop (31 + (ts : List Value).length) = cc := ⟨_, rfl⟩
  have HCC := Lib.hid hcc
  rw [hcc] at hX hV HC ⊢
  clear hcc
  generalize World.setRow _ _ _ = W8 at hX hV ⊢
  have HX8 := Lib.hid hX
  have HV8 := Lib.hid hV
  clear hX hV
  go_wp2_with (first
    | (with_reducible refine wpList_load_agg rfl 45 _ rfl _ _ _ rfl cc Tryd.underlying45 rfl (by rw [HC.out.1]; kernel_rfl) (At.of_row HX8.out.s) ?_)
    | (with_reducible refine wpList_store_agg rfl 45 _ _ rfl (w.heap.size + 2) 0 cc rfl rfl 45 zeroS HX8.out.z (by rw [HC.out.1]; kernel_rfl) (by rw [HC.out.1]; decide) HC.out.2.1 ?_))
  obtain ⟨hb, hres⟩ := HX8.out.out HC.out.1
  refine bodyPost_ret (results_cell_row rfl _ _ (w.heap.size + 2) 45 _ (0, 0) _ rfl hres Tryd.underlying45 rfl (by rw [List.size_toArray, HC.out.1]; kernel_rfl)) rfl ⟨_, rfl, ?_, hb⟩
  have hV := new_plus Z (fresh_row HV8.out (show w.heap.size + 2 < w.heap.size + 3 by omega) (zeroS.take 0 ++ cc ++ zeroS.drop (0 + cc.length)).toArray) (show w.heap.size ≤ w.heap.size + 3 by omega)
  have h := setting_zone HS.out.2.2.1 HS.out.2.2.2 hb
  rw [HN.out.2.1, HN.out.2.2]
  have h2 := h.setValue hV
  rw [HCC.out] at h2
  exact h2

set_option maxRecDepth 100000 in
set_option maxHeartbeats 8000000 in
theorem lists_value_float (a : AttrD) (hn : a.name = ⟨#[118, 97, 108, 117, 101, 95, 102, 108, 111, 97, 116]⟩) (hk : a.kind = 1) : ListsSaid a := by
  intro s ss acs w Z hn0 hr hS
  have hD : listRD a s = { s with value := valueOfD a } := by unfold listRD; rw [if_pos (by rw [hn]; decide)]
  have hV : valueOfD a = ⟨1, [], [a.f], [], []⟩ := by unfold valueOfD; rw [if_pos hk]
  obtain ⟨A1, k1, A2, k2, A3, k3, A4, k4, A5, k5, A6, k6, rfl, h0, h1, h2, h3, h4, ht, hf, hi⟩ := open_AttrD hr
  have HS := Lib.hid (And.intro hS.len (And.intro (set_one hS) (And.intro hS hn0)))
  have f_axes : (a.name.toList == ([97, 120, 101, 115] : List UInt8)) = false := by rw [beq_lit, hn]; decide
  have f_perm : (a.name.toList == ([112, 101, 114, 109] : List UInt8)) = false := by rw [beq_lit, hn]; decide
  have f_kernel_shape : (a.name.toList == ([107, 101, 114, 110, 101, 108, 95, 115, 104, 97, 112, 101] : List UInt8)) = false := by rw [beq_lit, hn]; decide
  have f_strides : (a.name.toList == ([115, 116, 114, 105, 100, 101, 115] : List UInt8)) = false := by rw [beq_lit, hn]; decide
  have f_pads : (a.name.toList == ([112, 97, 100, 115] : List UInt8)) = false := by rw [beq_lit, hn]; decide
  have f_dilations : (a.name.toList == ([100, 105, 108, 97, 116, 105, 111, 110, 115] : List UInt8)) = false := by rw [beq_lit, hn]; decide
  have f_value : (a.name.toList == ([118, 97, 108, 117, 101] : List UInt8)) = false := by rw [beq_lit, hn]; decide
  have f_value_float : (a.name.toList == ([118, 97, 108, 117, 101, 95, 102, 108, 111, 97, 116] : List UInt8)) = true := by rw [beq_lit]; exact decide_eq_true hn
  have HN := Lib.hid (And.intro hn (And.intro hD hV))
  have HI := Lib.hid h2
  clear hr h0 h1 h2 h3 h4 ht hf hi hS hn0 hn hD hV
  go_enter Tryd.func80, Tryd.ntmps80
  go_wp2_with (first
    | (with_reducible refine wpList_box_row rfl 45 _ rfl ss rfl ?_)
    | (with_reducible refine wpList_box_row rfl 52 _ rfl [.string a.name, .int .i64 a.kind, .int .u32 (a.f : Int), .int .i64 a.i, .string a.s, .int .i64 a.t.type, .slice A1 a.t.dims.length k1, .slice A2 a.t.f.length k2, .slice A3 a.t.i.length k3, .slice A4 a.t.b.length k4, .slice A5 a.floats.length k5, .slice A6 a.ints.length k6] rfl ?_)
    | (with_reducible refine wpList_alloc_row rfl 45 rfl zeroS zeroS_zero ?_; have hX := setR_start w ss [.string a.name, .int .i64 a.kind, .int .u32 (a.f : Int), .int .i64 a.i, .string a.s, .int .i64 a.t.type, .slice A1 a.t.dims.length k1, .slice A2 a.t.f.length k2, .slice A3 a.t.i.length k3, .slice A4 a.t.b.length k4, .slice A5 a.floats.length k5, .slice A6 a.ints.length k6]; generalize World.alloc _ (.cells zeroS.toArray _) = W0 at hX ⊢; have HX := Lib.hid hX; clear hX; refine halt ?_))
  unfold Halt
  have c0 : W0.cell? ⟨w.heap.size + 1, 0, none⟩ = some (.string a.name) := cell_of_row _ _ _ _ _ _ HX.out.a
  have cv : W0.cell? ⟨w.heap.size + 1, 2, none⟩ = some (.int .u32 (a.f : Int)) := cell_of_row _ _ _ _ _ _ HX.out.a
  go_wp2_with (with_reducible refine at_store 43 _ _ rfl ?_; refine halt ?_)
  unfold Halt
  have hg := heap_alloc_new W0 (.cells #[.int .u32 (a.f : Int)] 38)
  have HT := Lib.hid (show rep (W0.alloc (.cells #[.int .u32 (a.f : Int)] 38)) (fresh (w.heap.size + 3) (W0.alloc (.cells #[.int .u32 (a.f : Int)] 38)).heap.size) [.int .i64 1, .slice none 0 0, .slice (some ⟨W0.heap.size, 0, none⟩) 1 1, .slice none 0 0, .slice none 0 0] (⟨1, [], [a.f], [], []⟩ : TensorD) from shut_TensorD (a := ⟨1, [], [a.f], [], []⟩) i64_1 (rep_nil _ _) (rep_single (by decide) hg ⟨rfl, HI.out⟩ (fresh_blk (by have := HX.out.lt; omega) (by rw [World.size_alloc]; omega))) (rep_nil _ _) (rep_nil _ _))
  have hX1 := HX.out.next ((Below.refl _ _).alloc (Nat.le_refl _) (.cells #[.int .u32 (a.f : Int)] 38))
  obtain ⟨na, hna⟩ : ∃ na, W0.heap.size = na := ⟨_, rfl⟩
  rw [hna] at HT ⊢
  generalize World.alloc _ _ = W1 at hX1 HT ⊢
  have HX1 := Lib.hid hX1
  clear hX1 hg
  have hl5 : (([.int .i64 1, .slice none 0 0, .slice (some ⟨na, 0, none⟩) 1 1, .slice none 0 0, .slice none 0 0] : List Value) : List Value).length = 5 := Rep.len HT.out
  have hcut : (ss.take 31 ++ ([.int .i64 1, .slice none 0 0, .slice (some ⟨na, 0, none⟩) 1 1, .slice none 0 0, .slice none 0 0] : List Value) ++ ss.drop (31 + (([.int .i64 1, .slice none 0 0, .slice (some ⟨na, 0, none⟩) 1 1, .slice none 0 0, .slice none 0 0] : List Value) : List Value).length)).length = 36 := by have := HS.out.1; simp only [List.length_append, List.length_take, List.length_drop, hl5]; omega
  have hcone : ∀ u ∈ ss.take 31 ++ ([.int .i64 1, .slice none 0 0, .slice (some ⟨na, 0, none⟩) 1 1, .slice none 0 0, .slice none 0 0] : List Value) ++ ss.drop (31 + (([.int .i64 1, .slice none 0 0, .slice (some ⟨na, 0, none⟩) 1 1, .slice none 0 0, .slice none 0 0] : List Value) : List Value).length), u.oneCell' = true := by
    intro u hu
    rw [List.mem_append, List.mem_append] at hu
    rcases hu with (hu | hu) | hu
    · exact HS.out.2.1 u (List.mem_of_mem_take hu)
    · exact Rep.one HT.out u hu
    · exact HS.out.2.1 u (List.mem_of_mem_drop hu)
  have HC := Lib.hid (And.intro hcut (And.intro hcone hl5))
  clear hcut hcone hl5
  refine wpList_store_agg rfl 43 _ _ rfl w.heap.size 31 ([.int .i64 1, .slice none 0 0, .slice (some ⟨na, 0, none⟩) 1 1, .slice none 0 0, .slice none 0 0] : List Value) rfl rfl 45 ss HX1.out.s (by rw [HC.out.2.2]; kernel_rfl) (by rw [HC.out.2.2, HS.out.1]; decide) (Rep.one HT.out) ?_
  have hX := HX1.out.row (ss.take 31 ++ ([.int .i64 1, .slice none 0 0, .slice (some ⟨na, 0, none⟩) 1 1, .slice none 0 0, .slice none 0 0] : List Value) ++ ss.drop (31 + (([.int .i64 1, .slice none 0 0, .slice (some ⟨na, 0, none⟩) 1 1, .slice none 0 0, .slice none 0 0] : List Value) : List Value).length))
  have hV := fresh_row HT.out (show w.heap.size < w.heap.size + 3 by omega) (ss.take 31 ++ ([.int .i64 1, .slice none 0 0, .slice (some ⟨na, 0, none⟩) 1 1, .slice none 0 0, .slice none 0 0] : List Value) ++ ss.drop (31 + (([.int .i64 1, .slice none 0 0, .slice (some ⟨na, 0, none⟩) 1 1, .slice none 0 0, .slice none 0 0] : List Value) : List Value).length)).toArray
  obtain ⟨cc, hcc⟩ : ∃ cc, ss.take 31 ++ ([.int .i64 1, .slice none 0 0, .slice (some ⟨na, 0, none⟩) 1 1, .slice none 0 0, .slice none 0 0] : List Value) ++ ss.drop (31 + (([.int .i64 1, .slice none 0 0, .slice (some ⟨na, 0, none⟩) 1 1, .slice none 0 0, .slice none 0 0] : List Value) : List Value).length) = cc := ⟨_, rfl⟩
  have HCC := Lib.hid hcc
  rw [hcc] at hX hV HC ⊢
  clear hcc
  generalize World.setRow _ _ _ = W8 at hX hV ⊢
  have HX8 := Lib.hid hX
  have HV8 := Lib.hid hV
  clear hX hV
  go_wp2_with (first
    | (with_reducible refine wpList_load_agg rfl 45 _ rfl _ _ _ rfl cc Tryd.underlying45 rfl (by rw [HC.out.1]; kernel_rfl) (At.of_row HX8.out.s) ?_)
    | (with_reducible refine wpList_store_agg rfl 45 _ _ rfl (w.heap.size + 2) 0 cc rfl rfl 45 zeroS HX8.out.z (by rw [HC.out.1]; kernel_rfl) (by rw [HC.out.1]; decide) HC.out.2.1 ?_))
  obtain ⟨hb, hres⟩ := HX8.out.out HC.out.1
  refine bodyPost_ret (results_cell_row rfl _ _ (w.heap.size + 2) 45 _ (0, 0) _ rfl hres Tryd.underlying45 rfl (by rw [List.size_toArray, HC.out.1]; kernel_rfl)) rfl ⟨_, rfl, ?_, hb⟩
  have hV := new_plus Z (fresh_row HV8.out (show w.heap.size + 2 < w.heap.size + 3 by omega) (zeroS.take 0 ++ cc ++ zeroS.drop (0 + cc.length)).toArray) (show w.heap.size ≤ w.heap.size + 3 by omega)
  have h := setting_zone HS.out.2.2.1 HS.out.2.2.2 hb
  rw [HN.out.2.1, HN.out.2.2]
  have h2 := h.setValue hV
  rw [HCC.out] at h2
  exact h2

set_option maxRecDepth 100000 in
set_option maxHeartbeats 8000000 in
theorem lists_value_int (a : AttrD) (hn : a.name = ⟨#[118, 97, 108, 117, 101, 95, 105, 110, 116]⟩) (hk : a.kind = 2) : ListsSaid a := by
  intro s ss acs w Z hn0 hr hS
  have hD : listRD a s = { s with value := valueOfD a } := by unfold listRD; rw [if_pos (by rw [hn]; decide)]
  have hV : valueOfD a = ⟨7, [], [], [a.i], []⟩ := by unfold valueOfD; rw [if_neg (by omega), if_pos hk]
  obtain ⟨A1, k1, A2, k2, A3, k3, A4, k4, A5, k5, A6, k6, rfl, h0, h1, h2, h3, h4, ht, hf, hi⟩ := open_AttrD hr
  have HS := Lib.hid (And.intro hS.len (And.intro (set_one hS) (And.intro hS hn0)))
  have f_axes : (a.name.toList == ([97, 120, 101, 115] : List UInt8)) = false := by rw [beq_lit, hn]; decide
  have f_perm : (a.name.toList == ([112, 101, 114, 109] : List UInt8)) = false := by rw [beq_lit, hn]; decide
  have f_kernel_shape : (a.name.toList == ([107, 101, 114, 110, 101, 108, 95, 115, 104, 97, 112, 101] : List UInt8)) = false := by rw [beq_lit, hn]; decide
  have f_strides : (a.name.toList == ([115, 116, 114, 105, 100, 101, 115] : List UInt8)) = false := by rw [beq_lit, hn]; decide
  have f_pads : (a.name.toList == ([112, 97, 100, 115] : List UInt8)) = false := by rw [beq_lit, hn]; decide
  have f_dilations : (a.name.toList == ([100, 105, 108, 97, 116, 105, 111, 110, 115] : List UInt8)) = false := by rw [beq_lit, hn]; decide
  have f_value : (a.name.toList == ([118, 97, 108, 117, 101] : List UInt8)) = false := by rw [beq_lit, hn]; decide
  have f_value_float : (a.name.toList == ([118, 97, 108, 117, 101, 95, 102, 108, 111, 97, 116] : List UInt8)) = false := by rw [beq_lit, hn]; decide
  have f_value_int : (a.name.toList == ([118, 97, 108, 117, 101, 95, 105, 110, 116] : List UInt8)) = true := by rw [beq_lit]; exact decide_eq_true hn
  have HN := Lib.hid (And.intro hn (And.intro hD hV))
  have HI := Lib.hid h3
  clear hr h0 h1 h2 h3 h4 ht hf hi hS hn0 hn hD hV
  go_enter Tryd.func80, Tryd.ntmps80
  go_wp2_with (first
    | (with_reducible refine wpList_box_row rfl 45 _ rfl ss rfl ?_)
    | (with_reducible refine wpList_box_row rfl 52 _ rfl [.string a.name, .int .i64 a.kind, .int .u32 (a.f : Int), .int .i64 a.i, .string a.s, .int .i64 a.t.type, .slice A1 a.t.dims.length k1, .slice A2 a.t.f.length k2, .slice A3 a.t.i.length k3, .slice A4 a.t.b.length k4, .slice A5 a.floats.length k5, .slice A6 a.ints.length k6] rfl ?_)
    | (with_reducible refine wpList_alloc_row rfl 45 rfl zeroS zeroS_zero ?_; have hX := setR_start w ss [.string a.name, .int .i64 a.kind, .int .u32 (a.f : Int), .int .i64 a.i, .string a.s, .int .i64 a.t.type, .slice A1 a.t.dims.length k1, .slice A2 a.t.f.length k2, .slice A3 a.t.i.length k3, .slice A4 a.t.b.length k4, .slice A5 a.floats.length k5, .slice A6 a.ints.length k6]; generalize World.alloc _ (.cells zeroS.toArray _) = W0 at hX ⊢; have HX := Lib.hid hX; clear hX; refine halt ?_))
  unfold Halt
  have c0 : W0.cell? ⟨w.heap.size + 1, 0, none⟩ = some (.string a.name) := cell_of_row _ _ _ _ _ _ HX.out.a
  have cv : W0.cell? ⟨w.heap.size + 1, 3, none⟩ = some (.int .i64 a.i) := cell_of_row _ _ _ _ _ _ HX.out.a
  go_wp2_with (with_reducible refine at_store 43 _ _ rfl ?_; refine halt ?_)
  unfold Halt
  have hg := heap_alloc_new W0 (.cells #[.int .i64 a.i] 2)
  have HT := Lib.hid (show rep (W0.alloc (.cells #[.int .i64 a.i] 2)) (fresh (w.heap.size + 3) (W0.alloc (.cells #[.int .i64 a.i] 2)).heap.size) [.int .i64 7, .slice none 0 0, .slice none 0 0, .slice (some ⟨W0.heap.size, 0, none⟩) 1 1, .slice none 0 0] (⟨7, [], [], [a.i], []⟩ : TensorD) from shut_TensorD (a := ⟨7, [], [], [a.i], []⟩) i64_7 (rep_nil _ _) (rep_nil _ _) (rep_single (by decide) hg ⟨rfl, HI.out⟩ (fresh_blk (by have := HX.out.lt; omega) (by rw [World.size_alloc]; omega))) (rep_nil _ _))
  have hX1 := HX.out.next ((Below.refl _ _).alloc (Nat.le_refl _) (.cells #[.int .i64 a.i] 2))
  obtain ⟨na, hna⟩ : ∃ na, W0.heap.size = na := ⟨_, rfl⟩
  rw [hna] at HT ⊢
  generalize World.alloc _ _ = W1 at hX1 HT ⊢
  have HX1 := Lib.hid hX1
  clear hX1 hg
  have hl5 : (([.int .i64 7, .slice none 0 0, .slice none 0 0, .slice (some ⟨na, 0, none⟩) 1 1, .slice none 0 0] : List Value) : List Value).length = 5 := Rep.len HT.out
  have hcut : (ss.take 31 ++ ([.int .i64 7, .slice none 0 0, .slice none 0 0, .slice (some ⟨na, 0, none⟩) 1 1, .slice none 0 0] : List Value) ++ ss.drop (31 + (([.int .i64 7, .slice none 0 0, .slice none 0 0, .slice (some ⟨na, 0, none⟩) 1 1, .slice none 0 0] : List Value) : List Value).length)).length = 36 := by have := HS.out.1; simp only [List.length_append, List.length_take, List.length_drop, hl5]; omega
  have hcone : ∀ u ∈ ss.take 31 ++ ([.int .i64 7, .slice none 0 0, .slice none 0 0, .slice (some ⟨na, 0, none⟩) 1 1, .slice none 0 0] : List Value) ++ ss.drop (31 + (([.int .i64 7, .slice none 0 0, .slice none 0 0, .slice (some ⟨na, 0, none⟩) 1 1, .slice none 0 0] : List Value) : List Value).length), u.oneCell' = true := by
    intro u hu
    rw [List.mem_append, List.mem_append] at hu
    rcases hu with (hu | hu) | hu
    · exact HS.out.2.1 u (List.mem_of_mem_take hu)
    · exact Rep.one HT.out u hu
    · exact HS.out.2.1 u (List.mem_of_mem_drop hu)
  have HC := Lib.hid (And.intro hcut (And.intro hcone hl5))
  clear hcut hcone hl5
  refine wpList_store_agg rfl 43 _ _ rfl w.heap.size 31 ([.int .i64 7, .slice none 0 0, .slice none 0 0, .slice (some ⟨na, 0, none⟩) 1 1, .slice none 0 0] : List Value) rfl rfl 45 ss HX1.out.s (by rw [HC.out.2.2]; kernel_rfl) (by rw [HC.out.2.2, HS.out.1]; decide) (Rep.one HT.out) ?_
  have hX := HX1.out.row (ss.take 31 ++ ([.int .i64 7, .slice none 0 0, .slice none 0 0, .slice (some ⟨na, 0, none⟩) 1 1, .slice none 0 0] : List Value) ++ ss.drop (31 + (([.int .i64 7, .slice none 0 0, .slice none 0 0, .slice (some ⟨na, 0, none⟩) 1 1, .slice none 0 0] : List Value) : List Value).length))
  have hV := fresh_row HT.out (show w.heap.size < w.heap.size + 3 by omega) (ss.take 31 ++ ([.int .i64 7, .slice none 0 0, .slice none 0 0, .slice (some ⟨na, 0, none⟩) 1 1, .slice none 0 0] : List Value) ++ ss.drop (31 + (([.int .i64 7, .slice none 0 0, .slice none 0 0, .slice (some ⟨na, 0, none⟩) 1 1, .slice none 0 0] : List Value) : List Value).length)).toArray
  obtain ⟨cc, hcc⟩ : ∃ cc, ss.take 31 ++ ([.int .i64 7, .slice none 0 0, .slice none 0 0, .slice (some ⟨na, 0, none⟩) 1 1, .slice none 0 0] : List Value) ++ ss.drop (31 + (([.int .i64 7, .slice none 0 0, .slice none 0 0, .slice (some ⟨na, 0, none⟩) 1 1, .slice none 0 0] : List Value) : List Value).length) = cc := ⟨_, rfl⟩
  have HCC := Lib.hid hcc
  rw [hcc] at hX hV HC ⊢
  clear hcc
  generalize World.setRow _ _ _ = W8 at hX hV ⊢
  have HX8 := Lib.hid hX
  have HV8 := Lib.hid hV
  clear hX hV
  go_wp2_with (first
    | (with_reducible refine wpList_load_agg rfl 45 _ rfl _ _ _ rfl cc Tryd.underlying45 rfl (by rw [HC.out.1]; kernel_rfl) (At.of_row HX8.out.s) ?_)
    | (with_reducible refine wpList_store_agg rfl 45 _ _ rfl (w.heap.size + 2) 0 cc rfl rfl 45 zeroS HX8.out.z (by rw [HC.out.1]; kernel_rfl) (by rw [HC.out.1]; decide) HC.out.2.1 ?_))
  obtain ⟨hb, hres⟩ := HX8.out.out HC.out.1
  refine bodyPost_ret (results_cell_row rfl _ _ (w.heap.size + 2) 45 _ (0, 0) _ rfl hres Tryd.underlying45 rfl (by rw [List.size_toArray, HC.out.1]; kernel_rfl)) rfl ⟨_, rfl, ?_, hb⟩
  have hV := new_plus Z (fresh_row HV8.out (show w.heap.size + 2 < w.heap.size + 3 by omega) (zeroS.take 0 ++ cc ++ zeroS.drop (0 + cc.length)).toArray) (show w.heap.size ≤ w.heap.size + 3 by omega)
  have h := setting_zone HS.out.2.2.1 HS.out.2.2.2 hb
  rw [HN.out.2.1, HN.out.2.2]
  have h2 := h.setValue hV
  rw [HCC.out] at h2
  exact h2

set_option maxRecDepth 100000 in
set_option maxHeartbeats 8000000 in
theorem lists_value_floats (a : AttrD) (hn : a.name = ⟨#[118, 97, 108, 117, 101, 95, 102, 108, 111, 97, 116, 115]⟩) (hk : a.kind = 6) : ListsSaid a := by
  intro s ss acs w Z hn0 hr hS
  have hD : listRD a s = { s with value := valueOfD a } := by unfold listRD; rw [if_pos (by rw [hn]; decide)]
  have hV : valueOfD a = ⟨1, [(a.floats.length : Int)], a.floats, [], []⟩ := by unfold valueOfD; rw [if_neg (by omega), if_neg (by omega), if_pos hk]
  obtain ⟨A1, k1, A2, k2, A3, k3, A4, k4, A5, k5, A6, k6, rfl, h0, h1, h2, h3, h4, ht, hf, hi⟩ := open_AttrD hr
  have HS := Lib.hid (And.intro hS.len (And.intro (set_one hS) (And.intro hS hn0)))
  have f_axes : (a.name.toList == ([97, 120, 101, 115] : List UInt8)) = false := by rw [beq_lit, hn]; decide
  have f_perm : (a.name.toList == ([112, 101, 114, 109] : List UInt8)) = false := by rw [beq_lit, hn]; decide
  have f_kernel_shape : (a.name.toList == ([107, 101, 114, 110, 101, 108, 95, 115, 104, 97, 112, 101] : List UInt8)) = false := by rw [beq_lit, hn]; decide
  have f_strides : (a.name.toList == ([115, 116, 114, 105, 100, 101, 115] : List UInt8)) = false := by rw [beq_lit, hn]; decide
  have f_pads : (a.name.toList == ([112, 97, 100, 115] : List UInt8)) = false := by rw [beq_lit, hn]; decide
  have f_dilations : (a.name.toList == ([100, 105, 108, 97, 116, 105, 111, 110, 115] : List UInt8)) = false := by rw [beq_lit, hn]; decide
  have f_value : (a.name.toList == ([118, 97, 108, 117, 101] : List UInt8)) = false := by rw [beq_lit, hn]; decide
  have f_value_float : (a.name.toList == ([118, 97, 108, 117, 101, 95, 102, 108, 111, 97, 116] : List UInt8)) = false := by rw [beq_lit, hn]; decide
  have f_value_int : (a.name.toList == ([118, 97, 108, 117, 101, 95, 105, 110, 116] : List UInt8)) = false := by rw [beq_lit, hn]; decide
  have f_value_floats : (a.name.toList == ([118, 97, 108, 117, 101, 95, 102, 108, 111, 97, 116, 115] : List UInt8)) = true := by rw [beq_lit]; exact decide_eq_true hn
  have HN := Lib.hid (And.intro hn (And.intro hD hV))
  have hlen : I64 (a.floats.length : Int) := by
    obtain ⟨_, _, _, _, hx, hy, _⟩ := open_slice hf
    unfold I64; omega
  have HI := Lib.hid (And.intro hf hlen)
  clear hlen
  clear hr h0 h1 h2 h3 h4 ht hf hi hS hn0 hn hD hV
  go_enter Tryd.func80, Tryd.ntmps80
  go_wp2_with (first
    | (with_reducible refine wpList_box_row rfl 45 _ rfl ss rfl ?_)
    | (with_reducible refine wpList_box_row rfl 52 _ rfl [.string a.name, .int .i64 a.kind, .int .u32 (a.f : Int), .int .i64 a.i, .string a.s, .int .i64 a.t.type, .slice A1 a.t.dims.length k1, .slice A2 a.t.f.length k2, .slice A3 a.t.i.length k3, .slice A4 a.t.b.length k4, .slice A5 a.floats.length k5, .slice A6 a.ints.length k6] rfl ?_)
    | (with_reducible refine wpList_alloc_row rfl 45 rfl zeroS zeroS_zero ?_; have hX := setR_start w ss [.string a.name, .int .i64 a.kind, .int .u32 (a.f : Int), .int .i64 a.i, .string a.s, .int .i64 a.t.type, .slice A1 a.t.dims.length k1, .slice A2 a.t.f.length k2, .slice A3 a.t.i.length k3, .slice A4 a.t.b.length k4, .slice A5 a.floats.length k5, .slice A6 a.ints.length k6]; generalize World.alloc _ (.cells zeroS.toArray _) = W0 at hX ⊢; have HX := Lib.hid hX; clear hX; refine halt ?_))
  unfold Halt
  have c0 : W0.cell? ⟨w.heap.size + 1, 0, none⟩ = some (.string a.name) := cell_of_row _ _ _ _ _ _ HX.out.a
  have cv : W0.cell? ⟨w.heap.size + 1, 10, none⟩ = some (.slice A5 a.floats.length k5) := cell_of_row _ _ _ _ _ _ HX.out.a
  have hcv : ∀ o : Obj, (W0.alloc o).cell? ⟨w.heap.size + 1, 10, none⟩ = some (.slice A5 a.floats.length k5) := fun o => (World.cell?_alloc_lt _ _ _ (by have := HX.out.lt; show w.heap.size + 1 < W0.heap.size; omega)).trans cv
  go_wp2_with fail
  have hg := heap_alloc_new W0 (.cells #[.int .i64 (a.floats.length : Int)] 3)
  have hX1 := HX.out.next ((Below.refl _ _).alloc (Nat.le_refl _) (.cells #[.int .i64 (a.floats.length : Int)] 3))
  have hx := hX1.keeps HI.out.1
  have HT0 := Lib.hid (show rep (W0.alloc (.cells #[.int .i64 (a.floats.length : Int)] 3)) (old (W0.alloc (.cells #[.int .i64 (a.floats.length : Int)] 3)).heap.size) _ (⟨1, [(a.floats.length : Int)], a.floats, [], []⟩ : TensorD) from shut_TensorD (a := ⟨1, [(a.floats.length : Int)], a.floats, [], []⟩) i64_1 (rep_single (by decide) hg ⟨rfl, HI.out.2⟩ (show _ < _ by rw [World.size_alloc]; omega)) hx (rep_nil _ _) (rep_nil _ _))
  refine (tensorR_any _ _ _ HT0.out).mono ?_
  generalize World.alloc _ _ = W1 at hX1 ⊢
  rintro e w1 ⟨ts, rfl, hv, hb⟩
  have HX1 := Lib.hid (hX1.next hb)
  have HT := Lib.hid (fresh_more hv (show w.heap.size + 3 ≤ W1.heap.size by have := hX1.lt; omega))
  clear hb hv c0 cv hcv HX hX1 hx hg HT0
  go_wp2_with (with_reducible refine at_store 43 _ _ rfl ?_; refine halt ?_)
  unfold Halt
  have hl5 : (ts : List Value).length = 5 := Rep.len HT.out
  have hcut : (ss.take 31 ++ ts ++ ss.drop (31 + (ts : List Value).length)).length = 36 := by have := HS.out.1; simp only [List.length_append, List.length_take, List.length_drop, hl5]; omega
  have hcone : ∀ u ∈ ss.take 31 ++ ts ++ ss.drop (31 + (ts : List Value).length), u.oneCell' = true := by
    intro u hu
    rw [List.mem_append, List.mem_append] at hu
    rcases hu with (hu | hu) | hu
    · exact HS.out.2.1 u (List.mem_of_mem_take hu)
    · exact Rep.one HT.out u hu
    · exact HS.out.2.1 u (List.mem_of_mem_drop hu)
  have HC := Lib.hid (And.intro hcut (And.intro hcone hl5))
  clear hcut hcone hl5
  refine wpList_store_agg rfl 43 _ _ rfl w.heap.size 31 ts rfl rfl 45 ss HX1.out.s (by rw [HC.out.2.2]; kernel_rfl) (by rw [HC.out.2.2, HS.out.1]; decide) (Rep.one HT.out) ?_
  have hX := HX1.out.row (ss.take 31 ++ ts ++ ss.drop (31 + (ts : List Value).length))
  have hV := fresh_row HT.out (show w.heap.size < w.heap.size + 3 by omega) (ss.take 31 ++ ts ++ ss.drop (31 + (ts : List Value).length)).toArray
  obtain ⟨cc, hcc⟩ : ∃ cc, ss.take 31 ++ ts ++ ss.drop (31 + (ts : List Value).length) = cc := ⟨_, rfl⟩
  have HCC := Lib.hid hcc
  rw [hcc] at hX hV HC ⊢
  clear hcc
  generalize World.setRow _ _ _ = W8 at hX hV ⊢
  have HX8 := Lib.hid hX
  have HV8 := Lib.hid hV
  clear hX hV
  go_wp2_with (first
    | (with_reducible refine wpList_load_agg rfl 45 _ rfl _ _ _ rfl cc Tryd.underlying45 rfl (by rw [HC.out.1]; kernel_rfl) (At.of_row HX8.out.s) ?_)
    | (with_reducible refine wpList_store_agg rfl 45 _ _ rfl (w.heap.size + 2) 0 cc rfl rfl 45 zeroS HX8.out.z (by rw [HC.out.1]; kernel_rfl) (by rw [HC.out.1]; decide) HC.out.2.1 ?_))
  obtain ⟨hb, hres⟩ := HX8.out.out HC.out.1
  refine bodyPost_ret (results_cell_row rfl _ _ (w.heap.size + 2) 45 _ (0, 0) _ rfl hres Tryd.underlying45 rfl (by rw [List.size_toArray, HC.out.1]; kernel_rfl)) rfl ⟨_, rfl, ?_, hb⟩
  have hV := new_plus Z (fresh_row HV8.out (show w.heap.size + 2 < w.heap.size + 3 by omega) (zeroS.take 0 ++ cc ++ zeroS.drop (0 + cc.length)).toArray) (show w.heap.size ≤ w.heap.size + 3 by omega)
  have h := setting_zone HS.out.2.2.1 HS.out.2.2.2 hb
  rw [HN.out.2.1, HN.out.2.2]
  have h2 := h.setValue hV
  rw [HCC.out] at h2
  exact h2

set_option maxRecDepth 100000 in
set_option maxHeartbeats 8000000 in
theorem lists_value_ints (a : AttrD) (hn : a.name = ⟨#[118, 97, 108, 117, 101, 95, 105, 110, 116, 115]⟩) (hk : a.kind = 7) : ListsSaid a := by
  intro s ss acs w Z hn0 hr hS
  have hD : listRD a s = { s with value := valueOfD a } := by unfold listRD; rw [if_pos (by rw [hn]; decide)]
  have hV : valueOfD a = ⟨7, [(a.ints.length : Int)], [], a.ints, []⟩ := by unfold valueOfD; rw [if_neg (by omega), if_neg (by omega), if_neg (by omega), if_pos hk]
  obtain ⟨A1, k1, A2, k2, A3, k3, A4, k4, A5, k5, A6, k6, rfl, h0, h1, h2, h3, h4, ht, hf, hi⟩ := open_AttrD hr
  have HS := Lib.hid (And.intro hS.len (And.intro (set_one hS) (And.intro hS hn0)))
  have f_axes : (a.name.toList == ([97, 120, 101, 115] : List UInt8)) = false := by rw [beq_lit, hn]; decide
  have f_perm : (a.name.toList == ([112, 101, 114, 109] : List UInt8)) = false := by rw [beq_lit, hn]; decide
  have f_kernel_shape : (a.name.toList == ([107, 101, 114, 110, 101, 108, 95, 115, 104, 97, 112, 101] : List UInt8)) = false := by rw [beq_lit, hn]; decide
  have f_strides : (a.name.toList == ([115, 116, 114, 105, 100, 101, 115] : List UInt8)) = false := by rw [beq_lit, hn]; decide
  have f_pads : (a.name.toList == ([112, 97, 100, 115] : List UInt8)) = false := by rw [beq_lit, hn]; decide
  have f_dilations : (a.name.toList == ([100, 105, 108, 97, 116, 105, 111, 110, 115] : List UInt8)) = false := by rw [beq_lit, hn]; decide
  have f_value : (a.name.toList == ([118, 97, 108, 117, 101] : List UInt8)) = false := by rw [beq_lit, hn]; decide
  have f_value_float : (a.name.toList == ([118, 97, 108, 117, 101, 95, 102, 108, 111, 97, 116] : List UInt8)) = false := by rw [beq_lit, hn]; decide
  have f_value_int : (a.name.toList == ([118, 97, 108, 117, 101, 95, 105, 110, 116] : List UInt8)) = false := by rw [beq_lit, hn]; decide
  have f_value_floats : (a.name.toList == ([118, 97, 108, 117, 101, 95, 102, 108, 111, 97, 116, 115] : List UInt8)) = false := by rw [beq_lit, hn]; decide
  have f_value_ints : (a.name.toList == ([118, 97, 108, 117, 101, 95, 105, 110, 116, 115] : List UInt8)) = true := by rw [beq_lit]; exact decide_eq_true hn
  have HN := Lib.hid (And.intro hn (And.intro hD hV))
  have hlen : I64 (a.ints.length : Int) := by
    obtain ⟨_, _, _, _, hx, hy, _⟩ := open_slice hi
    unfold I64; omega
  have HI := Lib.hid (And.intro hi hlen)
  clear hlen
  clear hr h0 h1 h2 h3 h4 ht hf hi hS hn0 hn hD hV
  go_enter Tryd.func80, Tryd.ntmps80
  go_wp2_with (first
    | (with_reducible refine wpList_box_row rfl 45 _ rfl ss rfl ?_)
    | (with_reducible refine wpList_box_row rfl 52 _ rfl [.string a.name, .int .i64 a.kind, .int .u32 (a.f : Int), .int .i64 a.i, .string a.s, .int .i64 a.t.type, .slice A1 a.t.dims.length k1, .slice A2 a.t.f.length k2, .slice A3 a.t.i.length k3, .slice A4 a.t.b.length k4, .slice A5 a.floats.length k5, .slice A6 a.ints.length k6] rfl ?_)
    | (with_reducible refine wpList_alloc_row rfl 45 rfl zeroS zeroS_zero ?_; have hX := setR_start w ss [.string a.name, .int .i64 a.kind, .int .u32 (a.f : Int), .int .i64 a.i, .string a.s, .int .i64 a.t.type, .slice A1 a.t.dims.length k1, .slice A2 a.t.f.length k2, .slice A3 a.t.i.length k3, .slice A4 a.t.b.length k4, .slice A5 a.floats.length k5, .slice A6 a.ints.length k6]; generalize World.alloc _ (.cells zeroS.toArray _) = W0 at hX ⊢; have HX := Lib.hid hX; clear hX; refine halt ?_))
  unfold Halt
  have c0 : W0.cell? ⟨w.heap.size + 1, 0, none⟩ = some (.string a.name) := cell_of_row _ _ _ _ _ _ HX.out.a
  have cv : W0.cell? ⟨w.heap.size + 1, 11, none⟩ = some (.slice A6 a.ints.length k6) := cell_of_row _ _ _ _ _ _ HX.out.a
  have hcv : ∀ o : Obj, (W0.alloc o).cell? ⟨w.heap.size + 1, 11, none⟩ = some (.slice A6 a.ints.length k6) := fun o => (World.cell?_alloc_lt _ _ _ (by have := HX.out.lt; show w.heap.size + 1 < W0.heap.size; omega)).trans cv
  go_wp2_with fail
  have hg := heap_alloc_new W0 (.cells #[.int .i64 (a.ints.length : Int)] 3)
  have hX1 := HX.out.next ((Below.refl _ _).alloc (Nat.le_refl _) (.cells #[.int .i64 (a.ints.length : Int)] 3))
  have hx := hX1.keeps HI.out.1
  have HT0 := Lib.hid (show rep (W0.alloc (.cells #[.int .i64 (a.ints.length : Int)] 3)) (old (W0.alloc (.cells #[.int .i64 (a.ints.length : Int)] 3)).heap.size) _ (⟨7, [(a.ints.length : Int)], [], a.ints, []⟩ : TensorD) from shut_TensorD (a := ⟨7, [(a.ints.length : Int)], [], a.ints, []⟩) i64_7 (rep_single (by decide) hg ⟨rfl, HI.out.2⟩ (show _ < _ by rw [World.size_alloc]; omega)) (rep_nil _ _) hx (rep_nil _ _))
  refine (tensorR_any _ _ _ HT0.out).mono ?_
  generalize World.alloc _ _ = W1 at hX1 ⊢
  rintro e w1 ⟨ts, rfl, hv, hb⟩
  have HX1 := Lib.hid (hX1.next hb)
  have HT := Lib.hid (fresh_more hv (show w.heap.size + 3 ≤ W1.heap.size by have := hX1.lt; omega))
  clear hb hv c0 cv hcv HX hX1 hx hg HT0
  go_wp2_with (with_reducible refine at_store 43 _ _ rfl ?_; refine halt ?_)
  unfold Halt
  have hl5 : (ts : List Value).length = 5 := Rep.len HT.out
  have hcut : (ss.take 31 ++ ts ++ ss.drop (31 + (ts : List Value).length)).length = 36 := by have := HS.out.1; simp only [List.length_append, List.length_take, List.length_drop, hl5]; omega
  have hcone : ∀ u ∈ ss.take 31 ++ ts ++ ss.drop (31 + (ts : List Value).length), u.oneCell' = true := by
    intro u hu
    rw [List.mem_append, List.mem_append] at hu
    rcases hu with (hu | hu) | hu
    · exact HS.out.2.1 u (List.mem_of_mem_take hu)
    · exact Rep.one HT.out u hu
    · exact HS.out.2.1 u (List.mem_of_mem_drop hu)
  have HC := Lib.hid (And.intro hcut (And.intro hcone hl5))
  clear hcut hcone hl5
  refine wpList_store_agg rfl 43 _ _ rfl w.heap.size 31 ts rfl rfl 45 ss HX1.out.s (by rw [HC.out.2.2]; kernel_rfl) (by rw [HC.out.2.2, HS.out.1]; decide) (Rep.one HT.out) ?_
  have hX := HX1.out.row (ss.take 31 ++ ts ++ ss.drop (31 + (ts : List Value).length))
  have hV := fresh_row HT.out (show w.heap.size < w.heap.size + 3 by omega) (ss.take 31 ++ ts ++ ss.drop (31 + (ts : List Value).length)).toArray
  obtain ⟨cc, hcc⟩ : ∃ cc, ss.take 31 ++ ts ++ ss.drop (31 + (ts : List Value).length) = cc := ⟨_, rfl⟩
  have HCC := Lib.hid hcc
  rw [hcc] at hX hV HC ⊢
  clear hcc
  generalize World.setRow _ _ _ = W8 at hX hV ⊢
  have HX8 := Lib.hid hX
  have HV8 := Lib.hid hV
  clear hX hV
  go_wp2_with (first
    | (with_reducible refine wpList_load_agg rfl 45 _ rfl _ _ _ rfl cc Tryd.underlying45 rfl (by rw [HC.out.1]; kernel_rfl) (At.of_row HX8.out.s) ?_)
    | (with_reducible refine wpList_store_agg rfl 45 _ _ rfl (w.heap.size + 2) 0 cc rfl rfl 45 zeroS HX8.out.z (by rw [HC.out.1]; kernel_rfl) (by rw [HC.out.1]; decide) HC.out.2.1 ?_))
  obtain ⟨hb, hres⟩ := HX8.out.out HC.out.1
  refine bodyPost_ret (results_cell_row rfl _ _ (w.heap.size + 2) 45 _ (0, 0) _ rfl hres Tryd.underlying45 rfl (by rw [List.size_toArray, HC.out.1]; kernel_rfl)) rfl ⟨_, rfl, ?_, hb⟩
  have hV := new_plus Z (fresh_row HV8.out (show w.heap.size + 2 < w.heap.size + 3 by omega) (zeroS.take 0 ++ cc ++ zeroS.drop (0 + cc.length)).toArray) (show w.heap.size ≤ w.heap.size + 3 by omega)
  have h := setting_zone HS.out.2.2.1 HS.out.2.2.2 hb
  rw [HN.out.2.1, HN.out.2.2]
  have h2 := h.setValue hV
  rw [HCC.out] at h2
  exact h2

set_option maxRecDepth 100000 in
set_option maxHeartbeats 8000000 in
theorem lists_none (a : AttrD) (f_axes : (a.name.toList == ([97, 120, 101, 115] : List UInt8)) = false) (f_perm : (a.name.toList == ([112, 101, 114, 109] : List UInt8)) = false) (f_kernel_shape : (a.name.toList == ([107, 101, 114, 110, 101, 108, 95, 115, 104, 97, 112, 101] : List UInt8)) = false) (f_strides : (a.name.toList == ([115, 116, 114, 105, 100, 101, 115] : List UInt8)) = false) (f_pads : (a.name.toList == ([112, 97, 100, 115] : List UInt8)) = false) (f_dilations : (a.name.toList == ([100, 105, 108, 97, 116, 105, 111, 110, 115] : List UInt8)) = false) (f_value : (a.name.toList == ([118, 97, 108, 117, 101] : List UInt8)) = false) (f_value_float : (a.name.toList == ([118, 97, 108, 117, 101, 95, 102, 108, 111, 97, 116] : List UInt8)) = false) (f_value_int : (a.name.toList == ([118, 97, 108, 117, 101, 95, 105, 110, 116] : List UInt8)) = false) (f_value_floats : (a.name.toList == ([118, 97, 108, 117, 101, 95, 102, 108, 111, 97, 116, 115] : List UInt8)) = false) (f_value_ints : (a.name.toList == ([118, 97, 108, 117, 101, 95, 105, 110, 116, 115] : List UInt8)) = false) (hD : ∀ s, listRD a s = s) : ListsSaid a := by
  intro s ss acs w Z hn0 hr hS
  obtain ⟨A1, k1, A2, k2, A3, k3, A4, k4, A5, k5, A6, k6, rfl, h0, h1, h2, h3, h4, ht, hf, hi⟩ := open_AttrD hr
  have HS := Lib.hid (And.intro hS.len (And.intro (set_one hS) (And.intro hS hn0)))
  have HD := Lib.hid hD
  clear hr h0 h1 h2 h3 h4 ht hf hi hS hn0 hD
  go_enter Tryd.func80, Tryd.ntmps80
  go_wp2_with (first
    | (with_reducible refine wpList_box_row rfl 45 _ rfl ss rfl ?_)
    | (with_reducible refine wpList_box_row rfl 52 _ rfl [.string a.name, .int .i64 a.kind, .int .u32 (a.f : Int), .int .i64 a.i, .string a.s, .int .i64 a.t.type, .slice A1 a.t.dims.length k1, .slice A2 a.t.f.length k2, .slice A3 a.t.i.length k3, .slice A4 a.t.b.length k4, .slice A5 a.floats.length k5, .slice A6 a.ints.length k6] rfl ?_)
    | (with_reducible refine wpList_alloc_row rfl 45 rfl zeroS zeroS_zero ?_; have hX := setR_start w ss [.string a.name, .int .i64 a.kind, .int .u32 (a.f : Int), .int .i64 a.i, .string a.s, .int .i64 a.t.type, .slice A1 a.t.dims.length k1, .slice A2 a.t.f.length k2, .slice A3 a.t.i.length k3, .slice A4 a.t.b.length k4, .slice A5 a.floats.length k5, .slice A6 a.ints.length k6]; generalize World.alloc _ (.cells zeroS.toArray _) = W0 at hX ⊢; have HX := Lib.hid hX; clear hX; refine halt ?_))
  unfold Halt
  have c0 : W0.cell? ⟨w.heap.size + 1, 0, none⟩ = some (.string a.name) := cell_of_row _ _ _ _ _ _ HX.out.a
  go_wp2_with (first
    | (with_reducible refine wpList_load_agg rfl 45 _ rfl _ _ _ rfl ss Tryd.underlying45 rfl (by rw [HS.out.1]; kernel_rfl) (At.of_row HX.out.s) ?_)
    | (with_reducible refine wpList_store_agg rfl 45 _ _ rfl (w.heap.size + 2) 0 ss rfl rfl 45 zeroS HX.out.z (by rw [HS.out.1]; kernel_rfl) (by rw [HS.out.1]; decide) HS.out.2.1 ?_))
  obtain ⟨hb, hres⟩ := HX.out.out HS.out.1
  refine bodyPost_ret (results_cell_row rfl _ _ (w.heap.size + 2) 45 _ (0, 0) _ rfl hres Tryd.underlying45 rfl (by rw [List.size_toArray, HS.out.1]; kernel_rfl)) rfl ⟨_, rfl, ?_, hb⟩
  rw [HD.out]
  exact setting_zone HS.out.2.2.1 HS.out.2.2.2 hb

theorem listsR_any (op : Int) (a : AttrD) (hL : Legit op a) : ListsSaid a := by
  by_cases e_axes : a.name = ⟨#[97, 120, 101, 115]⟩
  · exact lists_axes a e_axes
  by_cases e_perm : a.name = ⟨#[112, 101, 114, 109]⟩
  · exact lists_perm a e_perm
  by_cases e_kernel_shape : a.name = ⟨#[107, 101, 114, 110, 101, 108, 95, 115, 104, 97, 112, 101]⟩
  · exact lists_kernel_shape a e_kernel_shape
  by_cases e_strides : a.name = ⟨#[115, 116, 114, 105, 100, 101, 115]⟩
  · exact lists_strides a e_strides
  by_cases e_pads : a.name = ⟨#[112, 97, 100, 115]⟩
  · exact lists_pads a e_pads
  by_cases e_dilations : a.name = ⟨#[100, 105, 108, 97, 116, 105, 111, 110, 115]⟩
  · exact lists_dilations a e_dilations
  by_cases e_value : a.name = ⟨#[118, 97, 108, 117, 101]⟩
  · exact lists_value a e_value (hL.v4 e_value)
  by_cases e_value_float : a.name = ⟨#[118, 97, 108, 117, 101, 95, 102, 108, 111, 97, 116]⟩
  · exact lists_value_float a e_value_float (hL.v1 e_value_float)
  by_cases e_value_int : a.name = ⟨#[118, 97, 108, 117, 101, 95, 105, 110, 116]⟩
  · exact lists_value_int a e_value_int (hL.v2 e_value_int)
  by_cases e_value_floats : a.name = ⟨#[118, 97, 108, 117, 101, 95, 102, 108, 111, 97, 116, 115]⟩
  · exact lists_value_floats a e_value_floats (hL.v6 e_value_floats)
  by_cases e_value_ints : a.name = ⟨#[118, 97, 108, 117, 101, 95, 105, 110, 116, 115]⟩
  · exact lists_value_ints a e_value_ints (hL.v7 e_value_ints)
  have f : ∀ l : List UInt8, ¬ a.name = ⟨l.toArray⟩ → (a.name.toList == l) = false := fun l h => by rw [beq_lit]; exact decide_eq_false h
  have f_axes := f [97, 120, 101, 115] e_axes
  have f_perm := f [112, 101, 114, 109] e_perm
  have f_kernel_shape := f [107, 101, 114, 110, 101, 108, 95, 115, 104, 97, 112, 101] e_kernel_shape
  have f_strides := f [115, 116, 114, 105, 100, 101, 115] e_strides
  have f_pads := f [112, 97, 100, 115] e_pads
  have f_dilations := f [100, 105, 108, 97, 116, 105, 111, 110, 115] e_dilations
  have f_value := f [118, 97, 108, 117, 101] e_value
  have f_value_float := f [118, 97, 108, 117, 101, 95, 102, 108, 111, 97, 116] e_value_float
  have f_value_int := f [118, 97, 108, 117, 101, 95, 105, 110, 116] e_value_int
  have f_value_floats := f [118, 97, 108, 117, 101, 95, 102, 108, 111, 97, 116, 115] e_value_floats
  have f_value_ints := f [118, 97, 108, 117, 101, 95, 105, 110, 116, 115] e_value_ints
  refine lists_none a f_axes f_perm f_kernel_shape f_strides f_pads f_dilations f_value f_value_float f_value_int f_value_floats f_value_ints fun s => ?_
  unfold listRD
  rw [if_neg (fun h => by rcases hL.pre h with h | h | h | h | h <;> contradiction)]
  unfold listD
  simp only [*, Bool.false_eq_true, ↓reduceIte]

end Go.Proofs.YtgbkhcmbmffljaaDoor
