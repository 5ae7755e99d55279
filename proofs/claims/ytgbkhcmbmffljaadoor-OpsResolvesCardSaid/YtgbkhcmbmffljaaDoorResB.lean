/-
  Plain laws of what 'Resolve' answers: what is taken names every attribute once; a value that stands anyway says nothing.
-/
import Derived.Test.YtgbkhcmbmffljaaDoorRes
set_option linter.unusedSimpArgs false
namespace Go.Proofs.YtgbkhcmbmffljaaDoor
open Go.RowKit
open Rep (rep)

/-- How often a name stands in a list of sorts. -/
def timesD (xs : List SortD) (s : ByteArray) : Nat := (xs.filter fun x => decide (x.name = s)).length
def sumN (l : List Nat) : Nat := l.foldr (· + ·) 0
theorem sum_cons (a : Nat) (l : List Nat) : sumN (a :: l) = a + sumN l := rfl
theorem count_cons (a : AttrD) (l : List AttrD) (s : ByteArray) : countD (a :: l) s = (if a.name = s then 1 else 0) + countD l s := by
  unfold countD
  by_cases h : a.name = s <;> simp [h]; omega
theorem sum_count_nil (xs : List SortD) : sumN (xs.map fun x => countD [] x.name) = 0 := by
  induction xs with
  | nil => rfl
  | cons x xs ih => rw [List.map_cons, sum_cons, ih]; rfl
theorem sum_count_cons (a : AttrD) (l : List AttrD) (xs : List SortD) : sumN (xs.map fun x => countD (a :: l) x.name) = timesD xs a.name + sumN (xs.map fun x => countD l x.name) := by
  induction xs with
  | nil => rfl
  | cons x xs ih =>
    rw [List.map_cons, sum_cons, ih, List.map_cons, sum_cons, count_cons]
    unfold timesD
    by_cases h : x.name = a.name
    · rw [if_pos h.symm, List.filter_cons_of_pos (by simp [h]), List.length_cons]; omega
    · rw [if_neg (fun e => h e.symm), List.filter_cons_of_neg (by simp [h])]; omega
theorem sum_count (l : List AttrD) (xs : List SortD) : sumN (xs.map fun x => countD l x.name) = sumN (l.map fun a => timesD xs a.name) := by
  induction l with
  | nil => exact sum_count_nil xs
  | cons a l ih => rw [sum_count_cons, List.map_cons, sum_cons, ih]
theorem all_one {α : Type} (f : α → Nat) : ∀ (l : List α), (∀ a ∈ l, f a ≤ 1) → sumN (l.map f) = l.length → ∀ a ∈ l, f a = 1
  | [], _, _, a, ha => by simp at ha
  | b :: l, h, hs, a, ha => by
    have hle : ∀ (m : List α), (∀ a ∈ m, f a ≤ 1) → sumN (m.map f) ≤ m.length := fun m => by
      induction m with
      | nil => intro _; exact Nat.le_refl _
      | cons c m ih =>
        intro hm
        rw [List.map_cons, sum_cons, List.length_cons]
        have := hm c (by simp)
        have := ih fun a ha => hm a (by simp [ha])
        omega
    rw [List.map_cons, sum_cons, List.length_cons] at hs
    have h1 := h b (by simp)
    have h2 := hle l fun a ha => h a (by simp [ha])
    rcases List.mem_cons.1 ha with rfl | ha
    · omega
    · exact all_one f l (fun a ha => h a (by simp [ha])) (by omega) a ha
theorem step_some (op : Int) (l : List AttrD) : ∀ (xs : List SortD) (s : SettingD) (k : Nat) {s' : SettingD} {k' : Nat}, stepD op l xs s k = some (s', k') →
    (∀ x ∈ xs, countD l x.name ≤ 1) ∧ k' = k + sumN (xs.map fun x => countD l x.name)
  | [], s, k, s', k', h => by
    simp only [stepD, Option.some.injEq, Prod.mk.injEq] at h
    exact ⟨by simp, h.2.symm⟩
  | x :: xs, s, k, s', k', h => by
    unfold stepD at h
    by_cases h1 : 1 < countD l x.name
    · rw [if_pos h1] at h; cases h
    · rw [if_neg h1] at h
      rw [List.map_cons, sum_cons]
      by_cases h2 : countD l x.name = 0
      · rw [if_pos h2] at h
        split at h
        · cases h
        · obtain ⟨h3, h4⟩ := step_some op l xs s k h
          refine ⟨fun y hy => ?_, by omega⟩
          rcases List.mem_cons.1 hy with rfl | hy
          · omega
          · exact h3 y hy
      · rw [if_neg h2] at h
        split at h
        · cases h
        · split at h
          · obtain ⟨h3, h4⟩ := step_some op l xs _ _ h
            refine ⟨fun y hy => ?_, by omega⟩
            rcases List.mem_cons.1 hy with rfl | hy
            · omega
            · exact h3 y hy
          · cases h
/-- The names of a row's attributes are apart. -/
def apartD (xs : List SortD) : Bool := xs.all fun x => decide (timesD xs x.name = 1)
theorem rows_apart : ((noRow :: tableD).all fun r => apartD (sortsD r)) = true := by decide +kernel
theorem findD_mem (op : Int) : findD op ∈ noRow :: tableD := by
  unfold findD
  split
  · simp
  · cases hz : tableD[(op - 1).toNat]? with
    | none => simp
    | some z => exact List.mem_cons_of_mem _ (List.mem_of_getElem? hz)
theorem sorts_apart (op : Int) : ∀ x ∈ sortsD (findD op), timesD (sortsD (findD op)) x.name = 1 := by
  have h := List.all_eq_true.1 rows_apart _ (findD_mem op)
  unfold apartD at h
  intro x hx
  simpa using List.all_eq_true.1 h x hx
theorem times_pos {xs : List SortD} {s : ByteArray} (h : timesD xs s ≠ 0) : ∃ x ∈ xs, x.name = s := by
  unfold timesD at h
  cases hf : xs.filter (fun x => decide (x.name = s)) with
  | nil => rw [hf] at h; exact absurd rfl h
  | cons x r =>
    have : x ∈ xs.filter (fun x => decide (x.name = s)) := by rw [hf]; simp
    obtain ⟨h1, h2⟩ := List.mem_filter.1 this
    exact ⟨x, h1, by simpa using h2⟩
theorem times_le (op : Int) (s : ByteArray) : timesD (sortsD (findD op)) s ≤ 1 := by
  rcases Nat.eq_zero_or_pos (timesD (sortsD (findD op)) s) with h | h
  · omega
  · obtain ⟨x, hx, rfl⟩ := times_pos (by omega : timesD (sortsD (findD op)) s ≠ 0)
    rw [sorts_apart op x hx]; exact Nat.le_refl _
/-- What an answer without an error says of the way to it. -/
structure TakenD (n : NodeD) (op : Int) (s : SettingD) (k : Nat) : Prop where
  op0 : op ≠ 0
  num : numberD n.op = op
  counts : countsD (findD op) n = true
  step : stepD op n.attrs (sortsD (findD op)) (leftD op) 0 = some (s, k)
  all : k = n.attrs.length
  one : op = 61 → k = 1
  pads : s.auto ≠ 0 → countD n.attrs sPads = 0
theorem taken_of {n : NodeD} {op : Int} {s : SettingD} (h : resolveD n = (op, s, 0)) : ∃ k, TakenD n op s k := by
  unfold resolveD at h
  split at h
  · simp at h
  · rename_i h0
    split at h
    · simp at h
    · rename_i hc
      split at h
      · simp [errAttr] at h
      · rename_i s' k' hst
        split at h
        · simp [errAttr] at h
        · rename_i hn
          simp only [Prod.mk.injEq] at h
          obtain ⟨rfl, rfl, _⟩ := h
          refine ⟨k', h0, rfl, by simpa using hc, hst, ?_, ?_, ?_⟩
          · exact Classical.byContradiction fun e => hn (.inl e)
          · exact fun e => Classical.byContradiction fun e1 => hn (.inr (.inl ⟨e, e1⟩))
          · exact fun e => Classical.byContradiction fun e1 => hn (.inr (.inr ⟨e, by omega⟩))
theorem of_taken {n : NodeD} {op : Int} {s : SettingD} {k : Nat} (h : TakenD n op s k) : resolveD n = (op, s, 0) := by
  unfold resolveD
  rw [h.num, if_neg h.op0, if_neg (by rw [h.counts]; simp), h.step]
  simp only
  rw [if_neg]
  rintro (e | ⟨e, e1⟩ | ⟨e, e1⟩)
  · exact e h.all
  · exact e1 (h.one e)
  · have := h.pads e; omega
theorem taken_once {n : NodeD} {op : Int} {s : SettingD} {k : Nat} (h : TakenD n op s k) : ∀ a ∈ n.attrs, timesD (sortsD (findD op)) a.name = 1 ∧ countD n.attrs a.name = 1 := by
  obtain ⟨h1, h2⟩ := step_some _ _ _ _ _ h.step
  rw [sum_count] at h2
  have h3 := all_one (fun a : AttrD => timesD (sortsD (findD op)) a.name) n.attrs (fun a _ => times_le op a.name) (by rw [← h.all]; omega)
  intro a ha
  refine ⟨h3 a ha, ?_⟩
  obtain ⟨x, hx, hxa⟩ := times_pos (by rw [h3 a ha]; omega)
  have h4 := h1 x hx
  rw [hxa] at h4
  have : 0 < countD n.attrs a.name := by
    unfold countD
    exact List.length_pos_of_mem (List.mem_filter.2 ⟨ha, by simp⟩)
  omega
/-- What may be wrong. -/
theorem resolve_err (n : NodeD) : (resolveD n).2.2 = 0 ∧ (resolveD n).1 ≠ 0 ∨ (resolveD n).1 = 0 ∧ ((resolveD n).2.2 = 7 ∨ (resolveD n).2.2 = 1 ∨ (resolveD n).2.2 = 14) := by
  unfold resolveD
  split
  · exact .inr ⟨rfl, .inl rfl⟩
  · rename_i h0
    split
    · exact .inr ⟨rfl, .inr (.inl rfl)⟩
    · split
      · exact .inr ⟨rfl, .inr (.inr rfl)⟩
      · split
        · exact .inr ⟨rfl, .inr (.inr rfl)⟩
        · exact .inl ⟨rfl, h0⟩
/-- With other attributes the same is wrong, or is not. -/
theorem resolve_like (n : NodeD) (l : List AttrD) : ((resolveD n).2.2 = 7 ∨ (resolveD n).2.2 = 1 → (resolveD { n with attrs := l }).2.2 = (resolveD n).2.2) ∧
    ((resolveD n).2.2 = 0 ∨ (resolveD n).2.2 = 14 → (resolveD { n with attrs := l }).2.2 = 0 ∨ (resolveD { n with attrs := l }).2.2 = 14) := by
  have hc : ∀ r, countsD r { n with attrs := l } = countsD r n := fun r => rfl
  have key : ∀ m : NodeD, m.op = n.op → (∀ r, countsD r m = countsD r n) → (numberD n.op = 0 → (resolveD m).2.2 = 7) ∧ (numberD n.op ≠ 0 → countsD (findD (numberD n.op)) n = false → (resolveD m).2.2 = 1) ∧
      (numberD n.op ≠ 0 → countsD (findD (numberD n.op)) n = true → (resolveD m).2.2 = 0 ∨ (resolveD m).2.2 = 14) := by
    intro m hm hcm
    unfold resolveD
    rw [hm]
    refine ⟨fun h => by rw [if_pos h], fun h h1 => by rw [if_neg h, hcm, if_pos h1], fun h h1 => ?_⟩
    rw [if_neg h, hcm, h1]
    simp only [Bool.true_eq_false, if_false]
    split
    · exact .inr rfl
    · split
      · exact .inr rfl
      · exact .inl rfl
  have k1 := key n rfl (fun _ => rfl)
  have k2 := key { n with attrs := l } rfl hc
  by_cases h0 : numberD n.op = 0
  · rw [k1.1 h0, k2.1 h0]; simp
  · cases h1 : countsD (findD (numberD n.op)) n with
    | false => rw [k1.2.1 h0 h1, k2.2.1 h0 h1]; simp
    | true =>
      have e1 := k1.2.2 h0 h1
      have e2 := k2.2.2 h0 h1
      exact ⟨fun h => by omega, fun _ => e2⟩
end Go.Proofs.YtgbkhcmbmffljaaDoor
