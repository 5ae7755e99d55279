/-
  The reference of chapter 08: may.
-/
import Derived.Test.YtgbkhcmbmffljaaDoorRefC
set_option linter.unusedSimpArgs false
set_option linter.unusedVariables false
namespace Go.Proofs.YtgbkhcmbmffljaaDoor
open Go.RowKit
open Rep (rep)

theorem slice_reach {α : Type} [Rep α] {w : World} {Z : Zone} {A : Option Addr} {c : Nat} {l : List α} (h : rep w Z [.slice A l.length c] l) : l.length * Rep.bytes α ≤ 140737488351232 := by
  obtain ⟨A', n', c', xs, hv, hn, hnc, hcm, hb, hl, hc⟩ := h
  rw [← hn]; exact hb
theorem mode_nonneg (op : Int) (name text : ByteArray) {m : Int} (h : modeOfD op name text = some m) : 0 ≤ m := by
  unfold modeOfD at h
  cases hf : modesD.find? (modeFits op name text) with
  | none => rw [hf] at h; cases h
  | some x =>
    rw [hf] at h
    injection h with h
    have hx := List.mem_of_find?_eq_some hf
    have hall : modesD.all (fun x => decide (0 ≤ x.mode)) = true := by decide +kernel
    have := List.all_eq_true.1 hall x hx
    rw [← h]
    simpa using this
/-- What 'may' answers for a sort. -/
def MaySaid (c : Int) (srt : ByteArray) : Prop := ∀ (nm : ByteArray) (m : Bool) (op : Int) (cs : List Value) (a : AttrD) (w : World), rep w (old w.heap.size) cs a →
    Calls Tryd.prog 46 #[.int .i64 op, .agg #[.string nm, .string srt, .bool m], .agg cs.toArray] w fun e w' => e = .returned (.bool (mayD c op nm a)) ∧ Below w.heap.size w w'
set_option maxRecDepth 100000 in
set_option maxHeartbeats 4000000 in
theorem mayR_98 : MaySaid 98 ⟨#[102, 108, 97, 103]⟩ := by
  intro nm m op cs a w hr
  obtain ⟨A1, k1, A2, k2, A3, k3, A4, k4, A5, k5, A6, k6, rfl, h0, h1, h2, h3, h4, ht, hf, hi⟩ := open_AttrD hr
  have HB := Lib.hid (fun o1 o2 : Obj => (((Below.refl w.heap.size w).alloc (Nat.le_refl _) o1).alloc (by simp) o2 : Below w.heap.size w _))
  clear hr h0 h1 h2 h3 h4 ht hf hi
  by_cases e0 : a.i = 0
  · have hm : mayD 98 op nm a = true := by simp [mayD, rangeD, e0]
    rw [hm]
    clear hm
    have f0 : (a.i == 0) = true := beq_iff_eq.2 e0
    have H0 := Lib.hid e0
    clear e0
    go_enter Tryd.func46, Tryd.ntmps46
    go_wp2
    go_ret
    exact ⟨rfl, HB.out _ _⟩
  by_cases e1 : a.i = 1
  · have hm : mayD 98 op nm a = true := by simp [mayD, rangeD, e1]
    rw [hm]
    clear hm
    have f0 : (a.i == 0) = false := beq_eq_false_iff_ne.2 e0
    have f1 : (a.i == 1) = true := beq_iff_eq.2 e1
    have H0 := Lib.hid e0
    have H1 := Lib.hid e1
    clear e0 e1
    go_enter Tryd.func46, Tryd.ntmps46
    go_wp2
    go_ret
    exact ⟨rfl, HB.out _ _⟩
  have hm : mayD 98 op nm a = false := by simp [mayD, rangeD]; omega
  rw [hm]
  clear hm
  have f0 : (a.i == 0) = false := beq_eq_false_iff_ne.2 e0
  have f1 : (a.i == 1) = false := beq_eq_false_iff_ne.2 e1
  have H0 := Lib.hid e0
  have H1 := Lib.hid e1
  clear e0 e1
  go_enter Tryd.func46, Tryd.ntmps46
  go_wp2
  go_ret
  exact ⟨rfl, HB.out _ _⟩
set_option maxRecDepth 100000 in
set_option maxHeartbeats 4000000 in
theorem mayR_48 : MaySaid 48 ⟨#[122, 101, 114, 111]⟩ := by
  intro nm m op cs a w hr
  obtain ⟨A1, k1, A2, k2, A3, k3, A4, k4, A5, k5, A6, k6, rfl, h0, h1, h2, h3, h4, ht, hf, hi⟩ := open_AttrD hr
  have HB := Lib.hid (fun o1 o2 : Obj => (((Below.refl w.heap.size w).alloc (Nat.le_refl _) o1).alloc (by simp) o2 : Below w.heap.size w _))
  clear hr h0 h1 h2 h3 h4 ht hf hi
  by_cases e0 : a.i = 0
  · have hm : mayD 48 op nm a = true := by simp [mayD, rangeD, e0]
    rw [hm]
    clear hm
    have f0 : (a.i == 0) = true := beq_iff_eq.2 e0
    have H0 := Lib.hid e0
    clear e0
    go_enter Tryd.func46, Tryd.ntmps46
    go_wp2
    go_ret
    exact ⟨rfl, HB.out _ _⟩
  have hm : mayD 48 op nm a = false := by simp [mayD, rangeD]; omega
  rw [hm]
  clear hm
  have f0 : (a.i == 0) = false := beq_eq_false_iff_ne.2 e0
  have H0 := Lib.hid e0
  clear e0
  go_enter Tryd.func46, Tryd.ntmps46
  go_wp2
  go_ret
  exact ⟨rfl, HB.out _ _⟩
set_option maxRecDepth 100000 in
set_option maxHeartbeats 4000000 in
theorem mayR_49 : MaySaid 49 ⟨#[111, 110, 101]⟩ := by
  intro nm m op cs a w hr
  obtain ⟨A1, k1, A2, k2, A3, k3, A4, k4, A5, k5, A6, k6, rfl, h0, h1, h2, h3, h4, ht, hf, hi⟩ := open_AttrD hr
  have HB := Lib.hid (fun o1 o2 : Obj => (((Below.refl w.heap.size w).alloc (Nat.le_refl _) o1).alloc (by simp) o2 : Below w.heap.size w _))
  clear hr h0 h1 h2 h3 h4 ht hf hi
  by_cases e1 : a.i = 1
  · have hm : mayD 49 op nm a = true := by simp [mayD, rangeD, e1]
    rw [hm]
    clear hm
    have f1 : (a.i == 1) = true := beq_iff_eq.2 e1
    have H1 := Lib.hid e1
    clear e1
    go_enter Tryd.func46, Tryd.ntmps46
    go_wp2
    go_ret
    exact ⟨rfl, HB.out _ _⟩
  have hm : mayD 49 op nm a = false := by simp [mayD, rangeD]; omega
  rw [hm]
  clear hm
  have f1 : (a.i == 1) = false := beq_eq_false_iff_ne.2 e1
  have H1 := Lib.hid e1
  clear e1
  go_enter Tryd.func46, Tryd.ntmps46
  go_wp2
  go_ret
  exact ⟨rfl, HB.out _ _⟩
set_option maxRecDepth 100000 in
set_option maxHeartbeats 4000000 in
theorem mayR_121 : MaySaid 121 ⟨#[116, 121, 112, 101]⟩ := by
  intro nm m op cs a w hr
  obtain ⟨A1, k1, A2, k2, A3, k3, A4, k4, A5, k5, A6, k6, rfl, h0, h1, h2, h3, h4, ht, hf, hi⟩ := open_AttrD hr
  have HB := Lib.hid (fun o1 o2 : Obj => (((Below.refl w.heap.size w).alloc (Nat.le_refl _) o1).alloc (by simp) o2 : Below w.heap.size w _))
  clear hr h0 h1 h2 h3 h4 ht hf hi
  by_cases e1 : a.i = 1
  · have hm : mayD 121 op nm a = true := by simp [mayD, rangeD, e1]
    rw [hm]
    clear hm
    have f1 : (a.i == 1) = true := beq_iff_eq.2 e1
    have H1 := Lib.hid e1
    clear e1
    go_enter Tryd.func46, Tryd.ntmps46
    go_wp2
    go_ret
    exact ⟨rfl, HB.out _ _⟩
  by_cases e7 : a.i = 7
  · have hm : mayD 121 op nm a = true := by simp [mayD, rangeD, e7]
    rw [hm]
    clear hm
    have f1 : (a.i == 1) = false := beq_eq_false_iff_ne.2 e1
    have f7 : (a.i == 7) = true := beq_iff_eq.2 e7
    have H1 := Lib.hid e1
    have H7 := Lib.hid e7
    clear e1 e7
    go_enter Tryd.func46, Tryd.ntmps46
    go_wp2
    go_ret
    exact ⟨rfl, HB.out _ _⟩
  by_cases e9 : a.i = 9
  · have hm : mayD 121 op nm a = true := by simp [mayD, rangeD, e9]
    rw [hm]
    clear hm
    have f1 : (a.i == 1) = false := beq_eq_false_iff_ne.2 e1
    have f7 : (a.i == 7) = false := beq_eq_false_iff_ne.2 e7
    have f9 : (a.i == 9) = true := beq_iff_eq.2 e9
    have H1 := Lib.hid e1
    have H7 := Lib.hid e7
    have H9 := Lib.hid e9
    clear e1 e7 e9
    go_enter Tryd.func46, Tryd.ntmps46
    go_wp2
    go_ret
    exact ⟨rfl, HB.out _ _⟩
  have hm : mayD 121 op nm a = false := by simp [mayD, e1, e7, e9]
  rw [hm]
  clear hm
  have f1 : (a.i == 1) = false := beq_eq_false_iff_ne.2 e1
  have f7 : (a.i == 7) = false := beq_eq_false_iff_ne.2 e7
  have f9 : (a.i == 9) = false := beq_eq_false_iff_ne.2 e9
  have H1 := Lib.hid e1
  have H7 := Lib.hid e7
  have H9 := Lib.hid e9
  clear e1 e7 e9
  go_enter Tryd.func46, Tryd.ntmps46
  go_wp2
  go_ret
  exact ⟨rfl, HB.out _ _⟩
set_option maxRecDepth 100000 in
set_option maxHeartbeats 4000000 in
theorem mayR_97 : MaySaid 97 ⟨#[97, 120, 105, 115]⟩ := by
  intro nm m op cs a w hr
  obtain ⟨A1, k1, A2, k2, A3, k3, A4, k4, A5, k5, A6, k6, rfl, h0, h1, h2, h3, h4, ht, hf, hi⟩ := open_AttrD hr
  have HB := Lib.hid (fun o1 o2 : Obj => (((Below.refl w.heap.size w).alloc (Nat.le_refl _) o1).alloc (by simp) o2 : Below w.heap.size w _))
  clear hr h0 h1 h2 h3 h4 ht hf hi
  by_cases g1 : (-8 : Int) ≤ a.i
  · by_cases g2 : a.i ≤ 8
    · have hm : mayD 97 op nm a = true := by simp [mayD, rangeD, g1, g2]
      rw [hm]
      clear hm
      go_enter Tryd.func46, Tryd.ntmps46
      go_wp2
      go_ret
      exact ⟨rfl, HB.out _ _⟩
    · have hm : mayD 97 op nm a = false := by simp [mayD, rangeD, g1, g2]
      rw [hm]
      clear hm
      go_enter Tryd.func46, Tryd.ntmps46
      go_wp2
      go_ret
      exact ⟨rfl, HB.out _ _⟩
  · have hm : mayD 97 op nm a = false := by simp [mayD, rangeD, g1]
    rw [hm]
    clear hm
    go_enter Tryd.func46, Tryd.ntmps46
    go_wp2
    go_ret
    exact ⟨rfl, HB.out _ _⟩
set_option maxRecDepth 100000 in
set_option maxHeartbeats 4000000 in
theorem mayR_115 : MaySaid 115 ⟨#[115, 105, 122, 101]⟩ := by
  intro nm m op cs a w hr
  obtain ⟨A1, k1, A2, k2, A3, k3, A4, k4, A5, k5, A6, k6, rfl, h0, h1, h2, h3, h4, ht, hf, hi⟩ := open_AttrD hr
  have HB := Lib.hid (fun o1 o2 : Obj => (((Below.refl w.heap.size w).alloc (Nat.le_refl _) o1).alloc (by simp) o2 : Below w.heap.size w _))
  clear hr h0 h1 h2 h3 h4 ht hf hi
  by_cases g1 : (1 : Int) ≤ a.i
  · by_cases g2 : a.i ≤ 4096
    · have hm : mayD 115 op nm a = true := by simp [mayD, rangeD, g1, g2]
      rw [hm]
      clear hm
      go_enter Tryd.func46, Tryd.ntmps46
      go_wp2
      go_ret
      exact ⟨rfl, HB.out _ _⟩
    · have hm : mayD 115 op nm a = false := by simp [mayD, rangeD, g1, g2]
      rw [hm]
      clear hm
      go_enter Tryd.func46, Tryd.ntmps46
      go_wp2
      go_ret
      exact ⟨rfl, HB.out _ _⟩
  · have hm : mayD 115 op nm a = false := by simp [mayD, rangeD, g1]
    rw [hm]
    clear hm
    go_enter Tryd.func46, Tryd.ntmps46
    go_wp2
    go_ret
    exact ⟨rfl, HB.out _ _⟩
set_option maxRecDepth 100000 in
set_option maxHeartbeats 4000000 in
theorem mayR_102 : MaySaid 102 ⟨#[102, 108, 111, 97, 116]⟩ := by
  intro nm m op cs a w hr
  obtain ⟨A1, k1, A2, k2, A3, k3, A4, k4, A5, k5, A6, k6, rfl, h0, h1, h2, h3, h4, ht, hf, hi⟩ := open_AttrD hr
  have HB := Lib.hid (fun o1 o2 : Obj => (((Below.refl w.heap.size w).alloc (Nat.le_refl _) o1).alloc (by simp) o2 : Below w.heap.size w _))
  clear hr h0 h1 h2 h3 h4 ht hf hi
  have hm : mayD 102 op nm a = true := by simp [mayD]
  rw [hm]
  clear hm
  go_enter Tryd.func46, Tryd.ntmps46
  go_wp2
  go_ret
  exact ⟨rfl, HB.out _ _⟩
set_option maxRecDepth 100000 in
set_option maxHeartbeats 4000000 in
theorem mayR_105 : MaySaid 105 ⟨#[105, 110, 116]⟩ := by
  intro nm m op cs a w hr
  obtain ⟨A1, k1, A2, k2, A3, k3, A4, k4, A5, k5, A6, k6, rfl, h0, h1, h2, h3, h4, ht, hf, hi⟩ := open_AttrD hr
  have HB := Lib.hid (fun o1 o2 : Obj => (((Below.refl w.heap.size w).alloc (Nat.le_refl _) o1).alloc (by simp) o2 : Below w.heap.size w _))
  clear hr h0 h1 h2 h3 h4 ht hf hi
  have hm : mayD 105 op nm a = true := by simp [mayD]
  rw [hm]
  clear hm
  go_enter Tryd.func46, Tryd.ntmps46
  go_wp2
  go_ret
  exact ⟨rfl, HB.out _ _⟩
set_option maxRecDepth 100000 in
set_option maxHeartbeats 4000000 in
theorem mayR_84 : MaySaid 84 ⟨#[116, 101, 110, 115, 111, 114]⟩ := by
  intro nm m op cs a w hr
  obtain ⟨A1, k1, A2, k2, A3, k3, A4, k4, A5, k5, A6, k6, rfl, h0, h1, h2, h3, h4, ht, hf, hi⟩ := open_AttrD hr
  have HB := Lib.hid (fun o1 o2 : Obj => (((Below.refl w.heap.size w).alloc (Nat.le_refl _) o1).alloc (by simp) o2 : Below w.heap.size w _))
  clear hr h0 h1 h2 h3 h4 ht hf hi
  have hm : mayD 84 op nm a = true := by simp [mayD]
  rw [hm]
  clear hm
  go_enter Tryd.func46, Tryd.ntmps46
  go_wp2
  go_ret
  exact ⟨rfl, HB.out _ _⟩
set_option maxRecDepth 100000 in
set_option maxHeartbeats 4000000 in
theorem mayR_70 : MaySaid 70 ⟨#[102, 108, 111, 97, 116, 115]⟩ := by
  intro nm m op cs a w hr
  obtain ⟨A1, k1, A2, k2, A3, k3, A4, k4, A5, k5, A6, k6, rfl, h0, h1, h2, h3, h4, ht, hf, hi⟩ := open_AttrD hr
  have HB := Lib.hid (fun o1 o2 : Obj => (((Below.refl w.heap.size w).alloc (Nat.le_refl _) o1).alloc (by simp) o2 : Below w.heap.size w _))
  obtain ⟨hb, hb2⟩ := slice_bound hf
  clear hr h0 h1 h2 h3 h4 ht hf hi
  by_cases g1 : (a.floats.length : Int) ≤ 4096
  · have hm : mayD 70 op nm a = true := by simp [mayD]; omega
    rw [hm]
    clear hm
    go_enter Tryd.func46, Tryd.ntmps46
    go_wp2
    go_ret
    exact ⟨rfl, HB.out _ _⟩
  · have hm : mayD 70 op nm a = false := by simp [mayD]; omega
    rw [hm]
    clear hm
    go_enter Tryd.func46, Tryd.ntmps46
    go_wp2
    go_ret
    exact ⟨rfl, HB.out _ _⟩
set_option maxRecDepth 100000 in
set_option maxHeartbeats 4000000 in
theorem mayR_73 : MaySaid 73 ⟨#[105, 110, 116, 115]⟩ := by
  intro nm m op cs a w hr
  obtain ⟨A1, k1, A2, k2, A3, k3, A4, k4, A5, k5, A6, k6, rfl, h0, h1, h2, h3, h4, ht, hf, hi⟩ := open_AttrD hr
  have HB := Lib.hid (fun o1 o2 : Obj => (((Below.refl w.heap.size w).alloc (Nat.le_refl _) o1).alloc (by simp) o2 : Below w.heap.size w _))
  obtain ⟨hb, hb2⟩ := slice_bound hi
  clear hr h0 h1 h2 h3 h4 ht hf hi
  by_cases g1 : (a.ints.length : Int) ≤ 4096
  · have hm : mayD 73 op nm a = true := by simp [mayD]; omega
    rw [hm]
    clear hm
    go_enter Tryd.func46, Tryd.ntmps46
    go_wp2
    go_ret
    exact ⟨rfl, HB.out _ _⟩
  · have hm : mayD 73 op nm a = false := by simp [mayD]; omega
    rw [hm]
    clear hm
    go_enter Tryd.func46, Tryd.ntmps46
    go_wp2
    go_ret
    exact ⟨rfl, HB.out _ _⟩
set_option maxRecDepth 100000 in
set_option maxHeartbeats 4000000 in
theorem mayR_112 : MaySaid 112 ⟨#[112, 108, 97, 99, 101, 115]⟩ := by
  intro nm m op cs a w hr
  obtain ⟨A1, k1, A2, k2, A3, k3, A4, k4, A5, k5, A6, k6, rfl, h0, h1, h2, h3, h4, ht, hf, hi⟩ := open_AttrD hr
  have HB := Lib.hid (fun o1 o2 : Obj => (((Below.refl w.heap.size w).alloc (Nat.le_refl _) o1).alloc (by simp) o2 : Below w.heap.size w _))
  have hm : mayD 112 op nm a = withinD a.ints 8 (0) 7 := by simp [mayD]
  rw [hm]
  have HK := Lib.hid (fun o1 o2 : Obj => Rep.more (Rep.keep hi (Keeps.old_below (HB.out o1 o2) (Nat.le_refl _))) (old_le (HB.out o1 o2).size))
  clear hm
  clear hr h0 h1 h2 h3 h4 ht hf hi
  have hwi := fun (v : Value) (W : World) (h : rep W (old W.heap.size) [v] a.ints) => withinR_any a.ints v 8 (0) 7 W h
  obtain ⟨r, hr⟩ : ∃ r, withinD a.ints 8 (0) 7 = r := ⟨_, rfl⟩
  simp only [hr] at hwi
  rw [hr]
  have HW := Lib.hid hwi
  clear hr hwi
  go_enter Tryd.func46, Tryd.ntmps46
  go_wp2_with fail
  refine (HW.out _ _ (HK.out _ _)).mono ?_
  rintro e w1 ⟨rfl, rfl⟩
  go_wp2
  go_ret
  exact ⟨rfl, HB.out _ _⟩
set_option maxRecDepth 100000 in
set_option maxHeartbeats 4000000 in
theorem mayR_120 : MaySaid 120 ⟨#[97, 120, 101, 115]⟩ := by
  intro nm m op cs a w hr
  obtain ⟨A1, k1, A2, k2, A3, k3, A4, k4, A5, k5, A6, k6, rfl, h0, h1, h2, h3, h4, ht, hf, hi⟩ := open_AttrD hr
  have HB := Lib.hid (fun o1 o2 : Obj => (((Below.refl w.heap.size w).alloc (Nat.le_refl _) o1).alloc (by simp) o2 : Below w.heap.size w _))
  have hm : mayD 120 op nm a = withinD a.ints 8 (-8) 8 := by simp [mayD]
  rw [hm]
  have HK := Lib.hid (fun o1 o2 : Obj => Rep.more (Rep.keep hi (Keeps.old_below (HB.out o1 o2) (Nat.le_refl _))) (old_le (HB.out o1 o2).size))
  clear hm
  clear hr h0 h1 h2 h3 h4 ht hf hi
  have hwi := fun (v : Value) (W : World) (h : rep W (old W.heap.size) [v] a.ints) => withinR_any a.ints v 8 (-8) 8 W h
  obtain ⟨r, hr⟩ : ∃ r, withinD a.ints 8 (-8) 8 = r := ⟨_, rfl⟩
  simp only [hr] at hwi
  rw [hr]
  have HW := Lib.hid hwi
  clear hr hwi
  go_enter Tryd.func46, Tryd.ntmps46
  go_wp2_with fail
  refine (HW.out _ _ (HK.out _ _)).mono ?_
  rintro e w1 ⟨rfl, rfl⟩
  go_wp2
  go_ret
  exact ⟨rfl, HB.out _ _⟩
set_option maxRecDepth 100000 in
set_option maxHeartbeats 4000000 in
theorem mayR_122 : MaySaid 122 ⟨#[115, 105, 122, 101, 115]⟩ := by
  intro nm m op cs a w hr
  obtain ⟨A1, k1, A2, k2, A3, k3, A4, k4, A5, k5, A6, k6, rfl, h0, h1, h2, h3, h4, ht, hf, hi⟩ := open_AttrD hr
  have HB := Lib.hid (fun o1 o2 : Obj => (((Below.refl w.heap.size w).alloc (Nat.le_refl _) o1).alloc (by simp) o2 : Below w.heap.size w _))
  have hm : mayD 122 op nm a = withinD a.ints 8 (1) 4096 := by simp [mayD]
  rw [hm]
  have HK := Lib.hid (fun o1 o2 : Obj => Rep.more (Rep.keep hi (Keeps.old_below (HB.out o1 o2) (Nat.le_refl _))) (old_le (HB.out o1 o2).size))
  clear hm
  clear hr h0 h1 h2 h3 h4 ht hf hi
  have hwi := fun (v : Value) (W : World) (h : rep W (old W.heap.size) [v] a.ints) => withinR_any a.ints v 8 (1) 4096 W h
  obtain ⟨r, hr⟩ : ∃ r, withinD a.ints 8 (1) 4096 = r := ⟨_, rfl⟩
  simp only [hr] at hwi
  rw [hr]
  have HW := Lib.hid hwi
  clear hr hwi
  go_enter Tryd.func46, Tryd.ntmps46
  go_wp2_with fail
  refine (HW.out _ _ (HK.out _ _)).mono ?_
  rintro e w1 ⟨rfl, rfl⟩
  go_wp2
  go_ret
  exact ⟨rfl, HB.out _ _⟩
set_option maxRecDepth 100000 in
set_option maxHeartbeats 4000000 in
theorem mayR_100 : MaySaid 100 ⟨#[112, 97, 100, 115]⟩ := by
  intro nm m op cs a w hr
  obtain ⟨A1, k1, A2, k2, A3, k3, A4, k4, A5, k5, A6, k6, rfl, h0, h1, h2, h3, h4, ht, hf, hi⟩ := open_AttrD hr
  have HB := Lib.hid (fun o1 o2 : Obj => (((Below.refl w.heap.size w).alloc (Nat.le_refl _) o1).alloc (by simp) o2 : Below w.heap.size w _))
  have hm : mayD 100 op nm a = withinD a.ints 16 (0) 4096 := by simp [mayD]
  rw [hm]
  have HK := Lib.hid (fun o1 o2 : Obj => Rep.more (Rep.keep hi (Keeps.old_below (HB.out o1 o2) (Nat.le_refl _))) (old_le (HB.out o1 o2).size))
  clear hm
  clear hr h0 h1 h2 h3 h4 ht hf hi
  have hwi := fun (v : Value) (W : World) (h : rep W (old W.heap.size) [v] a.ints) => withinR_any a.ints v 16 (0) 4096 W h
  obtain ⟨r, hr⟩ : ∃ r, withinD a.ints 16 (0) 4096 = r := ⟨_, rfl⟩
  simp only [hr] at hwi
  rw [hr]
  have HW := Lib.hid hwi
  clear hr hwi
  go_enter Tryd.func46, Tryd.ntmps46
  go_wp2_with fail
  refine (HW.out _ _ (HK.out _ _)).mono ?_
  rintro e w1 ⟨rfl, rfl⟩
  go_wp2
  go_ret
  exact ⟨rfl, HB.out _ _⟩
set_option maxRecDepth 100000 in
set_option maxHeartbeats 4000000 in
theorem mayR_116 : MaySaid 116 ⟨#[116, 101, 120, 116]⟩ := by
  intro nm m op cs a w hr
  obtain ⟨A1, k1, A2, k2, A3, k3, A4, k4, A5, k5, A6, k6, rfl, h0, h1, h2, h3, h4, ht, hf, hi⟩ := open_AttrD hr
  have HB := Lib.hid (fun o1 o2 : Obj => (((Below.refl w.heap.size w).alloc (Nat.le_refl _) o1).alloc (by simp) o2 : Below w.heap.size w _))
  clear hr h0 h1 h2 h3 h4 ht hf hi
  have hm : mayD 116 op nm a = (modeOfD op nm a.s).isSome := by simp [mayD]
  rw [hm]
  have hmode := fun m => mode_nonneg op nm a.s (m := m)
  obtain ⟨q, hq⟩ : ∃ q, modeOfD op nm a.s = q := ⟨_, rfl⟩
  have hmo := modeR_any op nm a.s
  rw [hq] at hmode ⊢
  simp only [hq] at hmo
  have HMO := Lib.hid hmo
  clear hm hq hmo
  cases q with
  | none =>
    clear hmode
    go_enter Tryd.func46, Tryd.ntmps46
    go_wp2_with fail
    refine (HMO.out _).mono ?_
    rintro e w1 ⟨rfl, rfl⟩
    go_wp2
    go_ret
    exact ⟨rfl, HB.out _ _⟩
  | some x =>
    have hx := hmode x rfl
    clear hmode
    go_enter Tryd.func46, Tryd.ntmps46
    go_wp2_with fail
    refine (HMO.out _).mono ?_
    rintro e w1 ⟨rfl, rfl⟩
    go_wp2
    go_ret
    exact ⟨rfl, HB.out _ _⟩
set_option maxRecDepth 100000 in
set_option maxHeartbeats 4000000 in
theorem mayR_83 : MaySaid 83 ⟨#[115, 105, 110, 103, 108, 101]⟩ := by
  intro nm m op cs a w hr
  obtain ⟨A1, k1, A2, k2, A3, k3, A4, k4, A5, k5, A6, k6, rfl, h0, h1, h2, h3, h4, ht, hf, hi⟩ := open_AttrD hr
  have HB := Lib.hid (fun o1 o2 : Obj => (((Below.refl w.heap.size w).alloc (Nat.le_refl _) o1).alloc (by simp) o2 : Below w.heap.size w _))
  obtain ⟨_, _, _, _, _, _, _, _, hv, -, -, t2, t3, t4⟩ := open_TensorD ht
  simp only [List.cons.injEq, Value.slice.injEq, and_true, true_and] at hv
  obtain ⟨⟨rfl, rfl⟩, ⟨rfl, rfl⟩, ⟨rfl, rfl⟩, rfl, rfl⟩ := hv
  have b2 : a.t.f.length * 4 ≤ 140737488351232 := slice_reach t2
  have b3 : a.t.i.length * 8 ≤ 140737488351232 := slice_reach t3
  have b4 : a.t.b.length * 1 ≤ 140737488351232 := slice_reach t4
  have c2 : (a.t.f.length : Int) ≤ 200000000000000 := by omega
  have c3 : (a.t.i.length : Int) ≤ 200000000000000 := by omega
  have c4 : (a.t.b.length : Int) ≤ 200000000000000 := by omega
  clear t2 t3 t4 b2 b3 b4
  clear hr h0 h1 h2 h3 h4 ht hf hi
  by_cases g1 : a.t.f.length + a.t.i.length + a.t.b.length = 1
  · have f1 : ((a.t.f.length : Int) + (a.t.i.length : Int) + (a.t.b.length : Int) == 1) = true := beq_iff_eq.2 (by omega)
    have hm : mayD 83 op nm a = true := by simp [mayD, g1]
    rw [hm]
    clear hm
    have HG := Lib.hid g1
    clear g1
    go_enter Tryd.func46, Tryd.ntmps46
    go_wp2
    go_ret
    exact ⟨rfl, HB.out _ _⟩
  · have f1 : ((a.t.f.length : Int) + (a.t.i.length : Int) + (a.t.b.length : Int) == 1) = false := beq_eq_false_iff_ne.2 (by omega)
    have hm : mayD 83 op nm a = false := by simp [mayD, g1]
    rw [hm]
    clear hm
    have HG := Lib.hid g1
    clear g1
    go_enter Tryd.func46, Tryd.ntmps46
    go_wp2
    go_ret
    exact ⟨rfl, HB.out _ _⟩
end Go.Proofs.YtgbkhcmbmffljaaDoor
