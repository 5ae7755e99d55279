/-
  Plain laws of what 'Resolve' answers: a value that stands anyway says nothing.
-/
import Derived.Test.YtgbkhcmbmffljaaDoorResB
set_option linter.unusedSimpArgs false
set_option maxRecDepth 100000
namespace Go.Proofs.YtgbkhcmbmffljaaDoor
open Go.RowKit
open Rep (rep)

theorem step_cons (op : Int) (l : List AttrD) (x : SortD) (xs : List SortD) (s : SettingD) (k : Nat) : stepD op l (x :: xs) s k = if 1 < countD l x.name then none
    else if countD l x.name = 0 then (if x.must then none else stepD op l xs s k)
    else match foundD l x.name with
      | none => none
      | some a => if a.kind = kindD x.letter.toNat ∧ mayD x.letter.toNat op x.name a = true then stepD op l xs (setD op a s) (k + 1) else none := rfl
theorem step_append (op : Int) (l : List AttrD) : ∀ (xs ys : List SortD) (s : SettingD) (k : Nat), stepD op l (xs ++ ys) s k = (stepD op l xs s k).bind fun p => stepD op l ys p.1 p.2
  | [], _, _, _ => rfl
  | x :: xs, ys, s, k => by
    rw [List.cons_append, step_cons op l x (xs ++ ys), step_cons op l x xs]
    split
    · rfl
    · split
      · split
        · rfl
        · exact step_append op l xs ys s k
      · split
        · rfl
        · split
          · exact step_append op l xs ys _ _
          · rfl
theorem step_shift (op : Int) (l : List AttrD) : ∀ (xs : List SortD) (s : SettingD) (k j : Nat), stepD op l xs s (k + j) = (stepD op l xs s k).map fun p => (p.1, p.2 + j)
  | [], _, _, _ => rfl
  | x :: xs, s, k, j => by
    unfold stepD
    split
    · rfl
    · split
      · split
        · rfl
        · exact step_shift op l xs s k j
      · split
        · rfl
        · split
          · rw [show k + j + 1 = k + 1 + j by omega]; exact step_shift op l xs _ _ j
          · rfl
theorem found_cons_other {a : AttrD} (l : List AttrD) {s : ByteArray} (h : a.name ≠ s) : foundD (a :: l) s = foundD l s := by
  unfold foundD
  rw [List.find?_cons, decide_eq_false h]
theorem found_cons_self {a : AttrD} (l : List AttrD) {s : ByteArray} (h : a.name = s) : foundD (a :: l) s = some a := by
  unfold foundD
  rw [List.find?_cons, decide_eq_true h]
theorem found_name {l : List AttrD} {s : ByteArray} {a : AttrD} (h : foundD l s = some a) : a.name = s := by
  have := List.find?_some h
  simpa using this
theorem step_other (op : Int) (a : AttrD) (l : List AttrD) : ∀ (xs : List SortD) (s : SettingD) (k : Nat), (∀ x ∈ xs, x.name ≠ a.name) → stepD op (a :: l) xs s k = stepD op l xs s k
  | [], _, _, _ => rfl
  | x :: xs, s, k, h => by
    have hx : a.name ≠ x.name := fun e => h x (by simp) e.symm
    unfold stepD
    rw [count_cons, if_neg hx, Nat.zero_add, found_cons_other l hx]
    have ih := fun s k => step_other op a l xs s k fun y hy => h y (by simp [hy])
    split
    · rfl
    · split
      · split
        · rfl
        · exact ih _ _
      · split
        · rfl
        · split
          · exact ih _ _
          · rfl
theorem step_keeps {β : Type} (π : SettingD → β) (nm : ByteArray) (hπ : ∀ op a s, a.name ≠ nm → π (setD op a s) = π s) (op : Int) (l : List AttrD) : ∀ (xs : List SortD) (s : SettingD) (k : Nat) {t : SettingD} {k' : Nat},
    (∀ x ∈ xs, x.name ≠ nm) → stepD op l xs s k = some (t, k') → π t = π s
  | [], s, k, t, k', _, h => by
    simp only [stepD, Option.some.injEq, Prod.mk.injEq] at h
    rw [h.1]
  | x :: xs, s, k, t, k', hx, h => by
    have ih := fun s k => step_keeps π nm hπ op l xs s k (t := t) (k' := k') fun y hy => hx y (by simp [hy])
    unfold stepD at h
    split at h
    · cases h
    · split at h
      · split at h
        · cases h
        · exact ih _ _ h
      · split at h
        · cases h
        · rename_i a ha
          split at h
          · rw [ih _ _ h]
            exact hπ op a s (by rw [found_name ha]; exact hx x (by simp))
          · cases h
theorem step_like {β : Type} (π : SettingD → β) (hπ : ∀ op a s s', π s = π s' → π (setD op a s) = π (setD op a s')) (op : Int) (l : List AttrD) : ∀ (xs : List SortD) (s s' : SettingD) (k j : Nat) {t t' : SettingD} {k' j' : Nat},
    stepD op l xs s k = some (t, k') → stepD op l xs s' j = some (t', j') → π s = π s' → π t = π t'
  | [], s, s', k, j, t, t', k', j', h, h', e => by
    simp only [stepD, Option.some.injEq, Prod.mk.injEq] at h h'
    rw [← h.1, ← h'.1]; exact e
  | x :: xs, s, s', k, j, t, t', k', j', h, h', e => by
    have ih := fun s s' k j => step_like π hπ op l xs s s' k j (t := t) (t' := t') (k' := k') (j' := j')
    unfold stepD at h h'
    split at h
    · cases h
    · rename_i h1
      rw [if_neg h1] at h'
      split at h
      · rename_i h2
        rw [if_pos h2] at h'
        split at h
        · cases h
        · rename_i h3
          rw [if_neg h3] at h'
          exact ih _ _ _ _ h h' e
      · rename_i h2
        rw [if_neg h2] at h'
        cases hf : foundD l x.name with
        | none => rw [hf] at h; cases h
        | some a =>
          rw [hf] at h h'
          simp only at h h'
          split at h
          · rename_i h3
            rw [if_pos h3] at h'
            exact ih _ _ _ _ h h' (hπ op a s s' e)
          · cases h

def s_axis : ByteArray := ⟨#[97, 120, 105, 115]⟩
def s_alpha : ByteArray := ⟨#[97, 108, 112, 104, 97]⟩
def s_beta : ByteArray := ⟨#[98, 101, 116, 97]⟩
def s_epsilon : ByteArray := ⟨#[101, 112, 115, 105, 108, 111, 110]⟩
def s_keeps : ByteArray := ⟨#[107, 101, 101, 112, 100, 105, 109, 115]⟩
def s_transA : ByteArray := ⟨#[116, 114, 97, 110, 115, 65]⟩
def s_transB : ByteArray := ⟨#[116, 114, 97, 110, 115, 66]⟩
def s_fmod : ByteArray := ⟨#[102, 109, 111, 100]⟩
def s_ceil : ByteArray := ⟨#[99, 101, 105, 108, 95, 109, 111, 100, 101]⟩
def s_zero : ByteArray := ⟨#[97, 108, 108, 111, 119, 122, 101, 114, 111]⟩
theorem scalar_axis (op : Int) (a : AttrD) (s : SettingD) : (scalarD op a s).axis = s.axis := by
  simp only [scalarD, apply_ite SettingD.axis, ite_self]
theorem flag_axis (n : ByteArray) (x : Bool) (s : SettingD) : (flagD n x s).axis = s.axis := by
  simp only [flagD, apply_ite SettingD.axis, ite_self]
theorem list_axis (n : ByteArray) (x : List Int) (s : SettingD) : (listD n x s).axis = s.axis := by
  simp only [listD, apply_ite SettingD.axis, ite_self]
theorem num_axis (n : ByteArray) (x : Int) (s : SettingD) (h : (n.toList == ([97, 120, 105, 115] : List UInt8)) = false) : (numD n x s).axis = s.axis := by
  simp only [numD, h, Bool.false_eq_true, if_false, apply_ite SettingD.axis, ite_self]
theorem setk_axis (op : Int) (a : AttrD) (s : SettingD) (h : a.name ≠ s_axis) : (setD op a s).axis = s.axis := by
  have e : (a.name.toList == ([97, 120, 105, 115] : List UInt8)) = false := by rw [beq_lit]; exact decide_eq_false h
  unfold setD
  split
  · rfl
  · rw [num_axis _ _ _ e, list_axis, flag_axis, scalar_axis]
theorem set_at_axis (op : Int) (a : AttrD) (s : SettingD) (h : a.name = s_axis) : setD op a s = { s with axis := a.i } := by
  simp [setD, scalarD, flagD, listD, numD, h, ByteArray.toList_eq, s_axis, Lib.hasPrefix, sValue]
theorem set_same_axis (op : Int) (a : AttrD) (s : SettingD) (h : a.name = s_axis) (e : a.i = s.axis) : setD op a s = s := by
  rw [set_at_axis op a s h, e]
theorem set_mode_axis (op : Int) (a : AttrD) (s : SettingD) (h : a.name = s_axis) : (setD op a s).mode = s.mode := by
  rw [set_at_axis op a s h]
theorem scalar_alpha (op : Int) (a : AttrD) (s : SettingD) (h : (a.name.toList == ([97, 108, 112, 104, 97] : List UInt8)) = false) : (scalarD op a s).alpha = s.alpha := by
  simp only [scalarD, h, Bool.false_eq_true, if_false, apply_ite SettingD.alpha, ite_self]
theorem flag_alpha (n : ByteArray) (x : Bool) (s : SettingD) : (flagD n x s).alpha = s.alpha := by
  simp only [flagD, apply_ite SettingD.alpha, ite_self]
theorem list_alpha (n : ByteArray) (x : List Int) (s : SettingD) : (listD n x s).alpha = s.alpha := by
  simp only [listD, apply_ite SettingD.alpha, ite_self]
theorem num_alpha (n : ByteArray) (x : Int) (s : SettingD) : (numD n x s).alpha = s.alpha := by
  simp only [numD, apply_ite SettingD.alpha, ite_self]
theorem setk_alpha (op : Int) (a : AttrD) (s : SettingD) (h : a.name ≠ s_alpha) : (setD op a s).alpha = s.alpha := by
  have e : (a.name.toList == ([97, 108, 112, 104, 97] : List UInt8)) = false := by rw [beq_lit]; exact decide_eq_false h
  unfold setD
  split
  · rfl
  · rw [num_alpha, list_alpha, flag_alpha, scalar_alpha _ _ _ e]
theorem set_at_alpha (op : Int) (a : AttrD) (s : SettingD) (h : a.name = s_alpha) : setD op a s = { s with alpha := a.f } := by
  simp [setD, scalarD, flagD, listD, numD, h, ByteArray.toList_eq, s_alpha, Lib.hasPrefix, sValue]
theorem set_same_alpha (op : Int) (a : AttrD) (s : SettingD) (h : a.name = s_alpha) (e : a.f = s.alpha) : setD op a s = s := by
  rw [set_at_alpha op a s h, e]
theorem set_mode_alpha (op : Int) (a : AttrD) (s : SettingD) (h : a.name = s_alpha) : (setD op a s).mode = s.mode := by
  rw [set_at_alpha op a s h]
theorem scalar_beta (op : Int) (a : AttrD) (s : SettingD) (h : (a.name.toList == ([98, 101, 116, 97] : List UInt8)) = false) : (scalarD op a s).beta = s.beta := by
  simp only [scalarD, h, Bool.false_eq_true, if_false, apply_ite SettingD.beta, ite_self]
theorem flag_beta (n : ByteArray) (x : Bool) (s : SettingD) : (flagD n x s).beta = s.beta := by
  simp only [flagD, apply_ite SettingD.beta, ite_self]
theorem list_beta (n : ByteArray) (x : List Int) (s : SettingD) : (listD n x s).beta = s.beta := by
  simp only [listD, apply_ite SettingD.beta, ite_self]
theorem num_beta (n : ByteArray) (x : Int) (s : SettingD) : (numD n x s).beta = s.beta := by
  simp only [numD, apply_ite SettingD.beta, ite_self]
theorem setk_beta (op : Int) (a : AttrD) (s : SettingD) (h : a.name ≠ s_beta) : (setD op a s).beta = s.beta := by
  have e : (a.name.toList == ([98, 101, 116, 97] : List UInt8)) = false := by rw [beq_lit]; exact decide_eq_false h
  unfold setD
  split
  · rfl
  · rw [num_beta, list_beta, flag_beta, scalar_beta _ _ _ e]
theorem set_at_beta (op : Int) (a : AttrD) (s : SettingD) (h : a.name = s_beta) : setD op a s = { s with beta := a.f } := by
  simp [setD, scalarD, flagD, listD, numD, h, ByteArray.toList_eq, s_beta, Lib.hasPrefix, sValue]
theorem set_same_beta (op : Int) (a : AttrD) (s : SettingD) (h : a.name = s_beta) (e : a.f = s.beta) : setD op a s = s := by
  rw [set_at_beta op a s h, e]
theorem set_mode_beta (op : Int) (a : AttrD) (s : SettingD) (h : a.name = s_beta) : (setD op a s).mode = s.mode := by
  rw [set_at_beta op a s h]
theorem scalar_epsilon (op : Int) (a : AttrD) (s : SettingD) (h : (a.name.toList == ([101, 112, 115, 105, 108, 111, 110] : List UInt8)) = false) : (scalarD op a s).epsilon = s.epsilon := by
  simp only [scalarD, h, Bool.false_eq_true, if_false, apply_ite SettingD.epsilon, ite_self]
theorem flag_epsilon (n : ByteArray) (x : Bool) (s : SettingD) : (flagD n x s).epsilon = s.epsilon := by
  simp only [flagD, apply_ite SettingD.epsilon, ite_self]
theorem list_epsilon (n : ByteArray) (x : List Int) (s : SettingD) : (listD n x s).epsilon = s.epsilon := by
  simp only [listD, apply_ite SettingD.epsilon, ite_self]
theorem num_epsilon (n : ByteArray) (x : Int) (s : SettingD) : (numD n x s).epsilon = s.epsilon := by
  simp only [numD, apply_ite SettingD.epsilon, ite_self]
theorem setk_epsilon (op : Int) (a : AttrD) (s : SettingD) (h : a.name ≠ s_epsilon) : (setD op a s).epsilon = s.epsilon := by
  have e : (a.name.toList == ([101, 112, 115, 105, 108, 111, 110] : List UInt8)) = false := by rw [beq_lit]; exact decide_eq_false h
  unfold setD
  split
  · rfl
  · rw [num_epsilon, list_epsilon, flag_epsilon, scalar_epsilon _ _ _ e]
theorem set_at_epsilon (op : Int) (a : AttrD) (s : SettingD) (h : a.name = s_epsilon) : setD op a s = { s with epsilon := a.f } := by
  simp [setD, scalarD, flagD, listD, numD, h, ByteArray.toList_eq, s_epsilon, Lib.hasPrefix, sValue]
theorem set_same_epsilon (op : Int) (a : AttrD) (s : SettingD) (h : a.name = s_epsilon) (e : a.f = s.epsilon) : setD op a s = s := by
  rw [set_at_epsilon op a s h, e]
theorem set_mode_epsilon (op : Int) (a : AttrD) (s : SettingD) (h : a.name = s_epsilon) : (setD op a s).mode = s.mode := by
  rw [set_at_epsilon op a s h]
theorem scalar_keeps (op : Int) (a : AttrD) (s : SettingD) : (scalarD op a s).keeps = s.keeps := by
  simp only [scalarD, apply_ite SettingD.keeps, ite_self]
theorem flag_keeps (n : ByteArray) (x : Bool) (s : SettingD) (h : (n.toList == ([107, 101, 101, 112, 100, 105, 109, 115] : List UInt8)) = false) : (flagD n x s).keeps = s.keeps := by
  simp only [flagD, h, Bool.false_eq_true, if_false, apply_ite SettingD.keeps, ite_self]
theorem list_keeps (n : ByteArray) (x : List Int) (s : SettingD) : (listD n x s).keeps = s.keeps := by
  simp only [listD, apply_ite SettingD.keeps, ite_self]
theorem num_keeps (n : ByteArray) (x : Int) (s : SettingD) : (numD n x s).keeps = s.keeps := by
  simp only [numD, apply_ite SettingD.keeps, ite_self]
theorem setk_keeps (op : Int) (a : AttrD) (s : SettingD) (h : a.name ≠ s_keeps) : (setD op a s).keeps = s.keeps := by
  have e : (a.name.toList == ([107, 101, 101, 112, 100, 105, 109, 115] : List UInt8)) = false := by rw [beq_lit]; exact decide_eq_false h
  unfold setD
  split
  · rfl
  · rw [num_keeps, list_keeps, flag_keeps _ _ _ e, scalar_keeps]
theorem set_at_keeps (op : Int) (a : AttrD) (s : SettingD) (h : a.name = s_keeps) : setD op a s = { s with keeps := (a.i == 1) } := by
  simp [setD, scalarD, flagD, listD, numD, h, ByteArray.toList_eq, s_keeps, Lib.hasPrefix, sValue]
theorem set_same_keeps (op : Int) (a : AttrD) (s : SettingD) (h : a.name = s_keeps) (e : (a.i == 1) = s.keeps) : setD op a s = s := by
  rw [set_at_keeps op a s h, e]
theorem set_mode_keeps (op : Int) (a : AttrD) (s : SettingD) (h : a.name = s_keeps) : (setD op a s).mode = s.mode := by
  rw [set_at_keeps op a s h]
theorem scalar_transA (op : Int) (a : AttrD) (s : SettingD) : (scalarD op a s).transA = s.transA := by
  simp only [scalarD, apply_ite SettingD.transA, ite_self]
theorem flag_transA (n : ByteArray) (x : Bool) (s : SettingD) (h : (n.toList == ([116, 114, 97, 110, 115, 65] : List UInt8)) = false) : (flagD n x s).transA = s.transA := by
  simp only [flagD, h, Bool.false_eq_true, if_false, apply_ite SettingD.transA, ite_self]
theorem list_transA (n : ByteArray) (x : List Int) (s : SettingD) : (listD n x s).transA = s.transA := by
  simp only [listD, apply_ite SettingD.transA, ite_self]
theorem num_transA (n : ByteArray) (x : Int) (s : SettingD) : (numD n x s).transA = s.transA := by
  simp only [numD, apply_ite SettingD.transA, ite_self]
theorem setk_transA (op : Int) (a : AttrD) (s : SettingD) (h : a.name ≠ s_transA) : (setD op a s).transA = s.transA := by
  have e : (a.name.toList == ([116, 114, 97, 110, 115, 65] : List UInt8)) = false := by rw [beq_lit]; exact decide_eq_false h
  unfold setD
  split
  · rfl
  · rw [num_transA, list_transA, flag_transA _ _ _ e, scalar_transA]
theorem set_at_transA (op : Int) (a : AttrD) (s : SettingD) (h : a.name = s_transA) : setD op a s = { s with transA := (a.i == 1) } := by
  simp [setD, scalarD, flagD, listD, numD, h, ByteArray.toList_eq, s_transA, Lib.hasPrefix, sValue]
theorem set_same_transA (op : Int) (a : AttrD) (s : SettingD) (h : a.name = s_transA) (e : (a.i == 1) = s.transA) : setD op a s = s := by
  rw [set_at_transA op a s h, e]
theorem set_mode_transA (op : Int) (a : AttrD) (s : SettingD) (h : a.name = s_transA) : (setD op a s).mode = s.mode := by
  rw [set_at_transA op a s h]
theorem scalar_transB (op : Int) (a : AttrD) (s : SettingD) : (scalarD op a s).transB = s.transB := by
  simp only [scalarD, apply_ite SettingD.transB, ite_self]
theorem flag_transB (n : ByteArray) (x : Bool) (s : SettingD) (h : (n.toList == ([116, 114, 97, 110, 115, 66] : List UInt8)) = false) : (flagD n x s).transB = s.transB := by
  simp only [flagD, h, Bool.false_eq_true, if_false, apply_ite SettingD.transB, ite_self]
theorem list_transB (n : ByteArray) (x : List Int) (s : SettingD) : (listD n x s).transB = s.transB := by
  simp only [listD, apply_ite SettingD.transB, ite_self]
theorem num_transB (n : ByteArray) (x : Int) (s : SettingD) : (numD n x s).transB = s.transB := by
  simp only [numD, apply_ite SettingD.transB, ite_self]
theorem setk_transB (op : Int) (a : AttrD) (s : SettingD) (h : a.name ≠ s_transB) : (setD op a s).transB = s.transB := by
  have e : (a.name.toList == ([116, 114, 97, 110, 115, 66] : List UInt8)) = false := by rw [beq_lit]; exact decide_eq_false h
  unfold setD
  split
  · rfl
  · rw [num_transB, list_transB, flag_transB _ _ _ e, scalar_transB]
theorem set_at_transB (op : Int) (a : AttrD) (s : SettingD) (h : a.name = s_transB) : setD op a s = { s with transB := (a.i == 1) } := by
  simp [setD, scalarD, flagD, listD, numD, h, ByteArray.toList_eq, s_transB, Lib.hasPrefix, sValue]
theorem set_same_transB (op : Int) (a : AttrD) (s : SettingD) (h : a.name = s_transB) (e : (a.i == 1) = s.transB) : setD op a s = s := by
  rw [set_at_transB op a s h, e]
theorem set_mode_transB (op : Int) (a : AttrD) (s : SettingD) (h : a.name = s_transB) : (setD op a s).mode = s.mode := by
  rw [set_at_transB op a s h]
theorem scalar_fmod (op : Int) (a : AttrD) (s : SettingD) : (scalarD op a s).fmod = s.fmod := by
  simp only [scalarD, apply_ite SettingD.fmod, ite_self]
theorem flag_fmod (n : ByteArray) (x : Bool) (s : SettingD) (h : (n.toList == ([102, 109, 111, 100] : List UInt8)) = false) : (flagD n x s).fmod = s.fmod := by
  simp only [flagD, h, Bool.false_eq_true, if_false, apply_ite SettingD.fmod, ite_self]
theorem list_fmod (n : ByteArray) (x : List Int) (s : SettingD) : (listD n x s).fmod = s.fmod := by
  simp only [listD, apply_ite SettingD.fmod, ite_self]
theorem num_fmod (n : ByteArray) (x : Int) (s : SettingD) : (numD n x s).fmod = s.fmod := by
  simp only [numD, apply_ite SettingD.fmod, ite_self]
theorem setk_fmod (op : Int) (a : AttrD) (s : SettingD) (h : a.name ≠ s_fmod) : (setD op a s).fmod = s.fmod := by
  have e : (a.name.toList == ([102, 109, 111, 100] : List UInt8)) = false := by rw [beq_lit]; exact decide_eq_false h
  unfold setD
  split
  · rfl
  · rw [num_fmod, list_fmod, flag_fmod _ _ _ e, scalar_fmod]
theorem set_at_fmod (op : Int) (a : AttrD) (s : SettingD) (h : a.name = s_fmod) : setD op a s = { s with fmod := (a.i == 1) } := by
  simp [setD, scalarD, flagD, listD, numD, h, ByteArray.toList_eq, s_fmod, Lib.hasPrefix, sValue]
theorem set_same_fmod (op : Int) (a : AttrD) (s : SettingD) (h : a.name = s_fmod) (e : (a.i == 1) = s.fmod) : setD op a s = s := by
  rw [set_at_fmod op a s h, e]
theorem set_mode_fmod (op : Int) (a : AttrD) (s : SettingD) (h : a.name = s_fmod) : (setD op a s).mode = s.mode := by
  rw [set_at_fmod op a s h]
theorem scalar_ceil (op : Int) (a : AttrD) (s : SettingD) : (scalarD op a s).ceil = s.ceil := by
  simp only [scalarD, apply_ite SettingD.ceil, ite_self]
theorem flag_ceil (n : ByteArray) (x : Bool) (s : SettingD) (h : (n.toList == ([99, 101, 105, 108, 95, 109, 111, 100, 101] : List UInt8)) = false) : (flagD n x s).ceil = s.ceil := by
  simp only [flagD, h, Bool.false_eq_true, if_false, apply_ite SettingD.ceil, ite_self]
theorem list_ceil (n : ByteArray) (x : List Int) (s : SettingD) : (listD n x s).ceil = s.ceil := by
  simp only [listD, apply_ite SettingD.ceil, ite_self]
theorem num_ceil (n : ByteArray) (x : Int) (s : SettingD) : (numD n x s).ceil = s.ceil := by
  simp only [numD, apply_ite SettingD.ceil, ite_self]
theorem setk_ceil (op : Int) (a : AttrD) (s : SettingD) (h : a.name ≠ s_ceil) : (setD op a s).ceil = s.ceil := by
  have e : (a.name.toList == ([99, 101, 105, 108, 95, 109, 111, 100, 101] : List UInt8)) = false := by rw [beq_lit]; exact decide_eq_false h
  unfold setD
  split
  · rfl
  · rw [num_ceil, list_ceil, flag_ceil _ _ _ e, scalar_ceil]
theorem set_at_ceil (op : Int) (a : AttrD) (s : SettingD) (h : a.name = s_ceil) : setD op a s = { s with ceil := (a.i == 1) } := by
  simp [setD, scalarD, flagD, listD, numD, h, ByteArray.toList_eq, s_ceil, Lib.hasPrefix, sValue]
theorem set_same_ceil (op : Int) (a : AttrD) (s : SettingD) (h : a.name = s_ceil) (e : (a.i == 1) = s.ceil) : setD op a s = s := by
  rw [set_at_ceil op a s h, e]
theorem set_mode_ceil (op : Int) (a : AttrD) (s : SettingD) (h : a.name = s_ceil) : (setD op a s).mode = s.mode := by
  rw [set_at_ceil op a s h]
theorem scalar_zero (op : Int) (a : AttrD) (s : SettingD) : (scalarD op a s).zero = s.zero := by
  simp only [scalarD, apply_ite SettingD.zero, ite_self]
theorem flag_zero (n : ByteArray) (x : Bool) (s : SettingD) (h : (n.toList == ([97, 108, 108, 111, 119, 122, 101, 114, 111] : List UInt8)) = false) : (flagD n x s).zero = s.zero := by
  simp only [flagD, h, Bool.false_eq_true, if_false, apply_ite SettingD.zero, ite_self]
theorem list_zero (n : ByteArray) (x : List Int) (s : SettingD) : (listD n x s).zero = s.zero := by
  simp only [listD, apply_ite SettingD.zero, ite_self]
theorem num_zero (n : ByteArray) (x : Int) (s : SettingD) : (numD n x s).zero = s.zero := by
  simp only [numD, apply_ite SettingD.zero, ite_self]
theorem setk_zero (op : Int) (a : AttrD) (s : SettingD) (h : a.name ≠ s_zero) : (setD op a s).zero = s.zero := by
  have e : (a.name.toList == ([97, 108, 108, 111, 119, 122, 101, 114, 111] : List UInt8)) = false := by rw [beq_lit]; exact decide_eq_false h
  unfold setD
  split
  · rfl
  · rw [num_zero, list_zero, flag_zero _ _ _ e, scalar_zero]
theorem set_at_zero (op : Int) (a : AttrD) (s : SettingD) (h : a.name = s_zero) : setD op a s = { s with zero := (a.i == 1) } := by
  simp [setD, scalarD, flagD, listD, numD, h, ByteArray.toList_eq, s_zero, Lib.hasPrefix, sValue]
theorem set_same_zero (op : Int) (a : AttrD) (s : SettingD) (h : a.name = s_zero) (e : (a.i == 1) = s.zero) : setD op a s = s := by
  rw [set_at_zero op a s h, e]
theorem set_mode_zero (op : Int) (a : AttrD) (s : SettingD) (h : a.name = s_zero) : (setD op a s).mode = s.mode := by
  rw [set_at_zero op a s h]
theorem scalar_mode (op : Int) (a : AttrD) (s s' : SettingD) (h : s.mode = s'.mode) : (scalarD op a s).mode = (scalarD op a s').mode := by
  unfold scalarD
  (repeat' split) <;> first | exact h | rfl
theorem flag_mode (n : ByteArray) (x : Bool) (s : SettingD) : (flagD n x s).mode = s.mode := by
  simp only [flagD, apply_ite SettingD.mode, ite_self]
theorem list_mode (n : ByteArray) (x : List Int) (s : SettingD) : (listD n x s).mode = s.mode := by
  unfold listD
  (repeat' split) <;> rfl
theorem num_mode (n : ByteArray) (x : Int) (s : SettingD) : (numD n x s).mode = s.mode := by
  unfold numD
  (repeat' split) <;> rfl
theorem set_mode_like (op : Int) (a : AttrD) (s s' : SettingD) (h : s.mode = s'.mode) : (setD op a s).mode = (setD op a s').mode := by
  unfold setD
  split
  · exact h
  · rw [num_mode, list_mode, flag_mode, num_mode, list_mode, flag_mode]
    exact scalar_mode op a s s' h
/-- The letters of the names that a value may stand for anyway. -/
def letterD (x : SortD) : Bool :=
  (decide (x.name = s_axis) == false || x.letter == 97) && (decide (x.name = s_alpha ∨ x.name = s_beta ∨ x.name = s_epsilon) == false || x.letter == 102) &&
  (decide (x.name = s_keeps ∨ x.name = s_transA ∨ x.name = s_transB ∨ x.name = s_fmod ∨ x.name = s_ceil ∨ x.name = s_zero) == false || x.letter == 98)
theorem rows_letter : ((noRow :: tableD).all fun r => (sortsD r).all letterD) = true := by decide +kernel
theorem sorts_letter (op : Int) {x : SortD} (hx : x ∈ sortsD (findD op)) : (x.name = s_axis → x.letter.toNat = 97) ∧ (x.name = s_alpha ∨ x.name = s_beta ∨ x.name = s_epsilon → x.letter.toNat = 102) ∧
    (x.name = s_keeps ∨ x.name = s_transA ∨ x.name = s_transB ∨ x.name = s_fmod ∨ x.name = s_ceil ∨ x.name = s_zero → x.letter.toNat = 98) := by
  have h := List.all_eq_true.1 (List.all_eq_true.1 rows_letter _ (findD_mem op)) x hx
  unfold letterD at h
  simp only [Bool.and_eq_true, Bool.or_eq_true, beq_iff_eq, decide_eq_false_iff_not] at h
  obtain ⟨⟨h1, h2⟩, h3⟩ := h
  refine ⟨fun e => ?_, fun e => ?_, fun e => ?_⟩
  · rcases h1 with h1 | h1
    · exact absurd e h1
    · rw [h1]; rfl
  · rcases h2 with h2 | h2
    · exact absurd e h2
    · rw [h2]; rfl
  · rcases h3 with h3 | h3
    · exact absurd e h3
    · rw [h3]; rfl
theorem ite_all {p : Prop} [Decidable p] {α : Type} {Q : α → Prop} {a b : α} (ha : Q a) (hb : Q b) : Q (if p then a else b) := by
  by_cases h : p
  · rw [if_pos h]; exact ha
  · rw [if_neg h]; exact hb
def leftsD : List SettingD := [settingD0, { settingD0 with alpha := 1008981770 }, { settingD0 with alpha := 1045220557, beta := 1056964608 }, { settingD0 with beta := 1065353216, alpha := 1065353216 }, { settingD0 with alpha := 1065353216 }, { settingD0 with low := true, high := true }, { settingD0 with mode := 1 }, { settingD0 with mode := 6 }, { settingD0 with axis := 1 }, { settingD0 with value := ⟨1, [1], [0], [], []⟩ }, { settingD0 with keeps := true }, { settingD0 with group := 1 }, { settingD0 with epsilon := 925353388, axis := -1 }, { settingD0 with axis := -1 }, { settingD0 with epsilon := 925353388 }]
theorem left_all (Q : SettingD → Prop) (op : Int) (h : ∀ s ∈ leftsD, Q s) : Q (leftD op) := by
  unfold leftD
  (repeat' apply ite_all (Q := Q)) <;> (apply h; simp [leftsD])
theorem left_axis (op : Int) : -8 ≤ (leftD op).axis ∧ (leftD op).axis ≤ 8 := left_all (fun s => -8 ≤ s.axis ∧ s.axis ≤ 8) op (by decide)
theorem left_transA (op : Int) : (leftD op).transA = false := left_all (fun s => s.transA = false) op (by decide)
theorem left_transB (op : Int) : (leftD op).transB = false := left_all (fun s => s.transB = false) op (by decide)
theorem left_fmod (op : Int) : (leftD op).fmod = false := left_all (fun s => s.fmod = false) op (by decide)
theorem left_ceil (op : Int) : (leftD op).ceil = false := left_all (fun s => s.ceil = false) op (by decide)
theorem left_zero (op : Int) : (leftD op).zero = false := left_all (fun s => s.zero = false) op (by decide)
/-- An attribute that says what stands anyway says nothing. -/
theorem says_nothing (n : NodeD) (a a' : AttrD) (m : List AttrD) (op : Int) (s t : SettingD) (k k2 : Nat) (h1 : TakenD { n with attrs := a :: m } op s k) (h2 : TakenD { n with attrs := m } op t k2) (hn : a'.name = a.name) (hk : a'.kind = a.kind) (hp : a.name ≠ sPads)
    (hmode : ∀ s1, (setD op a s1).mode = s1.mode)
    (hmay : ∀ x ∈ sortsD (findD op), x.name = a.name → mayD x.letter.toNat op x.name a' = true)
    (hset : ∀ (xs ys : List SortD) (s1 : SettingD) (k1 : Nat), (∀ x ∈ xs, x.name ≠ a.name) → (∀ x ∈ ys, x.name ≠ a.name) → stepD op m xs (leftD op) 0 = some (s1, k1) → stepD op m ys s1 k1 = some (t, k2) → setD op a' s1 = s1) :
    TakenD { n with attrs := a' :: m } op t (k2 + 1) ∧ s.mode = t.mode := by
  have h61 : op ≠ 61 := fun e => by
    have e1 := h1.one e
    have e2 := h2.one e
    have e3 := h1.all
    have e4 := h2.all
    simp only [List.length_cons] at e3 e4
    omega
  obtain ⟨ht, hc⟩ := taken_once h1 a (by simp)
  obtain ⟨x, hx, hxa⟩ := times_pos (by rw [ht]; omega)
  obtain ⟨xs, ys, hsplit⟩ := List.append_of_mem hx
  have hxs : (∀ y ∈ xs, y.name ≠ a.name) ∧ ∀ y ∈ ys, y.name ≠ a.name := by
    rw [hsplit] at ht
    unfold timesD at ht
    rw [List.filter_append, List.filter_cons_of_pos (by simp [hxa]), List.length_append, List.length_cons] at ht
    refine ⟨fun y hy e => ?_, fun y hy e => ?_⟩
    · have : 0 < (xs.filter fun x => decide (x.name = a.name)).length := List.length_pos_of_mem (List.mem_filter.2 ⟨hy, by simp [e]⟩)
      omega
    · have : 0 < (ys.filter fun x => decide (x.name = a.name)).length := List.length_pos_of_mem (List.mem_filter.2 ⟨hy, by simp [e]⟩)
      omega
  have hm0 : countD m a.name = 0 := by
    simp only at hc
    rw [count_cons, if_pos rfl] at hc
    omega
  have g1 := h1.step
  have g2 := h2.step
  simp only at g1 g2
  rw [hsplit, step_append, step_other op a m xs _ _ hxs.1] at g1
  rw [hsplit, step_append] at g2
  cases h3 : stepD op m xs (leftD op) 0 with
  | none => rw [h3] at g1; cases g1
  | some p =>
    obtain ⟨s1, k1⟩ := p
    rw [h3] at g1 g2
    simp only [Option.bind_some] at g1 g2
    unfold stepD at g1 g2
    rw [hxa, hm0] at g2
    rw [hxa, hc] at g1
    simp only [Nat.lt_irrefl, if_false, Nat.one_ne_zero, found_cons_self m rfl] at g1
    simp only [Nat.not_lt_zero, if_false, if_true] at g2
    split at g1
    · rename_i hok
      split at g2
      · cases g2
      · rw [step_other op a m ys _ _ hxs.2] at g1
        have hs := hset xs ys s1 k1 hxs.1 hxs.2 h3 g2
        refine ⟨⟨h2.op0, h1.num, h1.counts, ?_, ?_, fun e => absurd e h61, fun e => ?_⟩, ?_⟩
        · show stepD op (a' :: m) (sortsD (findD op)) (leftD op) 0 = some (t, k2 + 1)
          rw [hsplit, step_append, step_other op a' m xs _ _ (by rw [hn]; exact hxs.1), h3]
          simp only [Option.bind_some]
          have hcc : countD (a' :: m) x.name = 1 := by rw [count_cons, if_pos (by rw [hn, hxa]), hxa, hm0]
          rw [step_cons, hcc, found_cons_self m (show a'.name = x.name by rw [hn, hxa])]
          simp only [Nat.lt_irrefl, if_false, Nat.one_ne_zero]
          rw [if_pos ⟨by rw [hk]; exact hok.1, hmay x hx hxa⟩, hs, step_other op a' m ys _ _ (by rw [hn]; exact hxs.2), step_shift, g2]
          rfl
        · have := h2.all
          simp only [List.length_cons] at this ⊢
          omega
        · have h4 := h2.pads e
          simp only at h4 ⊢
          rw [count_cons, if_neg (by rw [hn]; exact hp), h4]
        · exact step_like SettingD.mode set_mode_like op m ys _ _ _ _ g1 g2 (hmode s1)
    · cases g1
end Go.Proofs.YtgbkhcmbmffljaaDoor
