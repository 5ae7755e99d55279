/-
  Plain laws for OpsDefaults: an attribute that says what stands without it says nothing.
-/
import Derived.Test.YtgbkhcmbmffljaaDoorResC
set_option linter.unusedSimpArgs false
set_option maxRecDepth 100000
namespace Go.Proofs.YtgbkhcmbmffljaaDoor
open Go.RowKit
open Rep (rep)

/-- What the law puts in an attribute's place, if it knows its name. -/
def turnA (t : SettingD) (a : AttrD) : Option AttrD :=
  if a.name = s_axis then some { a with i := t.axis } else if a.name = s_alpha then some { a with f := t.alpha } else if a.name = s_beta then some { a with f := t.beta }
  else if a.name = s_epsilon then some { a with f := t.epsilon } else if a.name = s_keeps then some { a with i := if t.keeps then 1 else 0 }
  else if a.name = s_transA ∨ a.name = s_transB ∨ a.name = s_fmod ∨ a.name = s_ceil ∨ a.name = s_zero then some { a with i := 0 } else none
theorem step_keeps0 {β : Type} (π : SettingD → β) (nm : ByteArray) (hπ : ∀ op a s, a.name ≠ nm → π (setD op a s) = π s) (op : Int) (l : List AttrD) (h0 : ∀ a ∈ l, a.name ≠ nm) : ∀ (xs : List SortD) (s : SettingD) (k : Nat) {t : SettingD} {k' : Nat},
    stepD op l xs s k = some (t, k') → π t = π s
  | [], s, k, t, k', h => by
    simp only [stepD, Option.some.injEq, Prod.mk.injEq] at h
    rw [h.1]
  | x :: xs, s, k, t, k', h => by
    have ih := fun s k => step_keeps0 π nm hπ op l h0 xs s k (t := t) (k' := k')
    unfold stepD at h
    split at h
    · cases h
    · split at h
      · split at h
        · cases h
        · exact ih _ _ h
      · split at h
        · cases h
        · rename_i a ha
          split at h
          · rw [ih _ _ h]
            exact hπ op a s (h0 a (List.mem_of_find?_eq_some ha))
          · cases h
theorem rest_apart {n : NodeD} {a : AttrD} {m : List AttrD} {op : Int} {s : SettingD} {k : Nat} (h1 : TakenD { n with attrs := a :: m } op s k) : ∀ b ∈ m, b.name ≠ a.name := by
  obtain ⟨_, hc⟩ := taken_once h1 a (by simp)
  intro b hb e
  simp only at hc
  rw [count_cons, if_pos rfl] at hc
  have : 0 < countD m a.name := by
    unfold countD
    exact List.length_pos_of_mem (List.mem_filter.2 ⟨hb, by simp [e]⟩)
  omega
theorem nothing_axis {n : NodeD} {a : AttrD} {m : List AttrD} {op : Int} {s t : SettingD} {k k2 : Nat} (h1 : TakenD { n with attrs := a :: m } op s k) (h2 : TakenD { n with attrs := m } op t k2) (hn : a.name = s_axis) :
    TakenD { n with attrs := { a with i := t.axis } :: m } op t (k2 + 1) ∧ s.mode = t.mode := by
  have hap := rest_apart h1
  rw [hn] at hap
  have hlt : t.axis = (leftD op).axis := step_keeps0 SettingD.axis s_axis setk_axis op m hap _ _ _ h2.step
  refine says_nothing n a { a with i := t.axis } m op s t k k2 h1 h2 rfl rfl (by rw [hn]; decide) (fun s1 => set_mode_axis op a s1 hn) ?_ ?_
  · intro x hx hxa
    have hl := (sorts_letter op hx).1 (by rw [hxa, hn])
    have hb := left_axis op
    rw [← hlt] at hb
    rw [hl]
    simp [mayD, rangeD, hb]
  · intro xs ys s1 k1 hxs hys hst1 hst2
    have hs1 : s1.axis = (leftD op).axis := step_keeps0 SettingD.axis s_axis setk_axis op m hap _ _ _ hst1
    exact set_same_axis op _ s1 hn (hlt.trans hs1.symm)
theorem nothing_alpha {n : NodeD} {a : AttrD} {m : List AttrD} {op : Int} {s t : SettingD} {k k2 : Nat} (h1 : TakenD { n with attrs := a :: m } op s k) (h2 : TakenD { n with attrs := m } op t k2) (hn : a.name = s_alpha) :
    TakenD { n with attrs := { a with f := t.alpha } :: m } op t (k2 + 1) ∧ s.mode = t.mode := by
  have hap := rest_apart h1
  rw [hn] at hap
  have hlt : t.alpha = (leftD op).alpha := step_keeps0 SettingD.alpha s_alpha setk_alpha op m hap _ _ _ h2.step
  refine says_nothing n a { a with f := t.alpha } m op s t k k2 h1 h2 rfl rfl (by rw [hn]; decide) (fun s1 => set_mode_alpha op a s1 hn) ?_ ?_
  · intro x hx hxa
    have hl := (sorts_letter op hx).2.1 (by rw [hxa, hn]; simp)
    rw [hl]
    simp [mayD]
  · intro xs ys s1 k1 hxs hys hst1 hst2
    have hs1 : s1.alpha = (leftD op).alpha := step_keeps0 SettingD.alpha s_alpha setk_alpha op m hap _ _ _ hst1
    exact set_same_alpha op _ s1 hn (hlt.trans hs1.symm)
theorem nothing_beta {n : NodeD} {a : AttrD} {m : List AttrD} {op : Int} {s t : SettingD} {k k2 : Nat} (h1 : TakenD { n with attrs := a :: m } op s k) (h2 : TakenD { n with attrs := m } op t k2) (hn : a.name = s_beta) :
    TakenD { n with attrs := { a with f := t.beta } :: m } op t (k2 + 1) ∧ s.mode = t.mode := by
  have hap := rest_apart h1
  rw [hn] at hap
  have hlt : t.beta = (leftD op).beta := step_keeps0 SettingD.beta s_beta setk_beta op m hap _ _ _ h2.step
  refine says_nothing n a { a with f := t.beta } m op s t k k2 h1 h2 rfl rfl (by rw [hn]; decide) (fun s1 => set_mode_beta op a s1 hn) ?_ ?_
  · intro x hx hxa
    have hl := (sorts_letter op hx).2.1 (by rw [hxa, hn]; simp)
    rw [hl]
    simp [mayD]
  · intro xs ys s1 k1 hxs hys hst1 hst2
    have hs1 : s1.beta = (leftD op).beta := step_keeps0 SettingD.beta s_beta setk_beta op m hap _ _ _ hst1
    exact set_same_beta op _ s1 hn (hlt.trans hs1.symm)
theorem nothing_epsilon {n : NodeD} {a : AttrD} {m : List AttrD} {op : Int} {s t : SettingD} {k k2 : Nat} (h1 : TakenD { n with attrs := a :: m } op s k) (h2 : TakenD { n with attrs := m } op t k2) (hn : a.name = s_epsilon) :
    TakenD { n with attrs := { a with f := t.epsilon } :: m } op t (k2 + 1) ∧ s.mode = t.mode := by
  have hap := rest_apart h1
  rw [hn] at hap
  have hlt : t.epsilon = (leftD op).epsilon := step_keeps0 SettingD.epsilon s_epsilon setk_epsilon op m hap _ _ _ h2.step
  refine says_nothing n a { a with f := t.epsilon } m op s t k k2 h1 h2 rfl rfl (by rw [hn]; decide) (fun s1 => set_mode_epsilon op a s1 hn) ?_ ?_
  · intro x hx hxa
    have hl := (sorts_letter op hx).2.1 (by rw [hxa, hn]; simp)
    rw [hl]
    simp [mayD]
  · intro xs ys s1 k1 hxs hys hst1 hst2
    have hs1 : s1.epsilon = (leftD op).epsilon := step_keeps0 SettingD.epsilon s_epsilon setk_epsilon op m hap _ _ _ hst1
    exact set_same_epsilon op _ s1 hn (hlt.trans hs1.symm)
theorem nothing_keeps {n : NodeD} {a : AttrD} {m : List AttrD} {op : Int} {s t : SettingD} {k k2 : Nat} (h1 : TakenD { n with attrs := a :: m } op s k) (h2 : TakenD { n with attrs := m } op t k2) (hn : a.name = s_keeps) :
    TakenD { n with attrs := { a with i := if t.keeps then 1 else 0 } :: m } op t (k2 + 1) ∧ s.mode = t.mode := by
  have hap := rest_apart h1
  rw [hn] at hap
  have hlt : t.keeps = (leftD op).keeps := step_keeps0 SettingD.keeps s_keeps setk_keeps op m hap _ _ _ h2.step
  refine says_nothing n a { a with i := if t.keeps then 1 else 0 } m op s t k k2 h1 h2 rfl rfl (by rw [hn]; decide) (fun s1 => set_mode_keeps op a s1 hn) ?_ ?_
  · intro x hx hxa
    have hl := (sorts_letter op hx).2.2 (by rw [hxa, hn]; simp)
    rw [hl]
    cases t.keeps <;> simp [mayD, rangeD]
  · intro xs ys s1 k1 hxs hys hst1 hst2
    have hs1 : s1.keeps = (leftD op).keeps := step_keeps0 SettingD.keeps s_keeps setk_keeps op m hap _ _ _ hst1
    refine set_same_keeps op _ s1 hn ?_
    rw [hs1, ← hlt]
    cases t.keeps <;> rfl
theorem nothing_transA {n : NodeD} {a : AttrD} {m : List AttrD} {op : Int} {s t : SettingD} {k k2 : Nat} (h1 : TakenD { n with attrs := a :: m } op s k) (h2 : TakenD { n with attrs := m } op t k2) (hn : a.name = s_transA) :
    TakenD { n with attrs := { a with i := 0 } :: m } op t (k2 + 1) ∧ s.mode = t.mode := by
  have hap := rest_apart h1
  rw [hn] at hap
  have hlt : t.transA = (leftD op).transA := step_keeps0 SettingD.transA s_transA setk_transA op m hap _ _ _ h2.step
  refine says_nothing n a { a with i := 0 } m op s t k k2 h1 h2 rfl rfl (by rw [hn]; decide) (fun s1 => set_mode_transA op a s1 hn) ?_ ?_
  · intro x hx hxa
    have hl := (sorts_letter op hx).2.2 (by rw [hxa, hn]; simp)
    rw [hl]
    simp [mayD, rangeD]
  · intro xs ys s1 k1 hxs hys hst1 hst2
    have hs1 : s1.transA = (leftD op).transA := step_keeps0 SettingD.transA s_transA setk_transA op m hap _ _ _ hst1
    refine set_same_transA op _ s1 hn ?_
    rw [hs1, left_transA]
    rfl
theorem nothing_transB {n : NodeD} {a : AttrD} {m : List AttrD} {op : Int} {s t : SettingD} {k k2 : Nat} (h1 : TakenD { n with attrs := a :: m } op s k) (h2 : TakenD { n with attrs := m } op t k2) (hn : a.name = s_transB) :
    TakenD { n with attrs := { a with i := 0 } :: m } op t (k2 + 1) ∧ s.mode = t.mode := by
  have hap := rest_apart h1
  rw [hn] at hap
  have hlt : t.transB = (leftD op).transB := step_keeps0 SettingD.transB s_transB setk_transB op m hap _ _ _ h2.step
  refine says_nothing n a { a with i := 0 } m op s t k k2 h1 h2 rfl rfl (by rw [hn]; decide) (fun s1 => set_mode_transB op a s1 hn) ?_ ?_
  · intro x hx hxa
    have hl := (sorts_letter op hx).2.2 (by rw [hxa, hn]; simp)
    rw [hl]
    simp [mayD, rangeD]
  · intro xs ys s1 k1 hxs hys hst1 hst2
    have hs1 : s1.transB = (leftD op).transB := step_keeps0 SettingD.transB s_transB setk_transB op m hap _ _ _ hst1
    refine set_same_transB op _ s1 hn ?_
    rw [hs1, left_transB]
    rfl
theorem nothing_fmod {n : NodeD} {a : AttrD} {m : List AttrD} {op : Int} {s t : SettingD} {k k2 : Nat} (h1 : TakenD { n with attrs := a :: m } op s k) (h2 : TakenD { n with attrs := m } op t k2) (hn : a.name = s_fmod) :
    TakenD { n with attrs := { a with i := 0 } :: m } op t (k2 + 1) ∧ s.mode = t.mode := by
  have hap := rest_apart h1
  rw [hn] at hap
  have hlt : t.fmod = (leftD op).fmod := step_keeps0 SettingD.fmod s_fmod setk_fmod op m hap _ _ _ h2.step
  refine says_nothing n a { a with i := 0 } m op s t k k2 h1 h2 rfl rfl (by rw [hn]; decide) (fun s1 => set_mode_fmod op a s1 hn) ?_ ?_
  · intro x hx hxa
    have hl := (sorts_letter op hx).2.2 (by rw [hxa, hn]; simp)
    rw [hl]
    simp [mayD, rangeD]
  · intro xs ys s1 k1 hxs hys hst1 hst2
    have hs1 : s1.fmod = (leftD op).fmod := step_keeps0 SettingD.fmod s_fmod setk_fmod op m hap _ _ _ hst1
    refine set_same_fmod op _ s1 hn ?_
    rw [hs1, left_fmod]
    rfl
theorem nothing_ceil {n : NodeD} {a : AttrD} {m : List AttrD} {op : Int} {s t : SettingD} {k k2 : Nat} (h1 : TakenD { n with attrs := a :: m } op s k) (h2 : TakenD { n with attrs := m } op t k2) (hn : a.name = s_ceil) :
    TakenD { n with attrs := { a with i := 0 } :: m } op t (k2 + 1) ∧ s.mode = t.mode := by
  have hap := rest_apart h1
  rw [hn] at hap
  have hlt : t.ceil = (leftD op).ceil := step_keeps0 SettingD.ceil s_ceil setk_ceil op m hap _ _ _ h2.step
  refine says_nothing n a { a with i := 0 } m op s t k k2 h1 h2 rfl rfl (by rw [hn]; decide) (fun s1 => set_mode_ceil op a s1 hn) ?_ ?_
  · intro x hx hxa
    have hl := (sorts_letter op hx).2.2 (by rw [hxa, hn]; simp)
    rw [hl]
    simp [mayD, rangeD]
  · intro xs ys s1 k1 hxs hys hst1 hst2
    have hs1 : s1.ceil = (leftD op).ceil := step_keeps0 SettingD.ceil s_ceil setk_ceil op m hap _ _ _ hst1
    refine set_same_ceil op _ s1 hn ?_
    rw [hs1, left_ceil]
    rfl
theorem nothing_zero {n : NodeD} {a : AttrD} {m : List AttrD} {op : Int} {s t : SettingD} {k k2 : Nat} (h1 : TakenD { n with attrs := a :: m } op s k) (h2 : TakenD { n with attrs := m } op t k2) (hn : a.name = s_zero) :
    TakenD { n with attrs := { a with i := 0 } :: m } op t (k2 + 1) ∧ s.mode = t.mode := by
  have hap := rest_apart h1
  rw [hn] at hap
  have hlt : t.zero = (leftD op).zero := step_keeps0 SettingD.zero s_zero setk_zero op m hap _ _ _ h2.step
  refine says_nothing n a { a with i := 0 } m op s t k k2 h1 h2 rfl rfl (by rw [hn]; decide) (fun s1 => set_mode_zero op a s1 hn) ?_ ?_
  · intro x hx hxa
    have hl := (sorts_letter op hx).2.2 (by rw [hxa, hn]; simp)
    rw [hl]
    simp [mayD, rangeD]
  · intro xs ys s1 k1 hxs hys hst1 hst2
    have hs1 : s1.zero = (leftD op).zero := step_keeps0 SettingD.zero s_zero setk_zero op m hap _ _ _ hst1
    refine set_same_zero op _ s1 hn ?_
    rw [hs1, left_zero]
    rfl
theorem defaults_law {n : NodeD} {a a' : AttrD} {rest : List AttrD} {op op2 : Int} {s t : SettingD} (hp : n.attrs.Perm (a :: rest)) (h1 : resolveD n = (op, s, 0)) (h2 : resolveD { n with attrs := rest } = (op2, t, 0)) (ha : turnA t a = some a') :
    resolveD { n with attrs := rest ++ [a'] } = (op, t, 0) ∧ s.mode = t.mode := by
  rw [← resolve_perm n hp] at h1
  obtain ⟨k, t1⟩ := taken_of h1
  obtain ⟨k2, t2⟩ := taken_of h2
  obtain rfl : op = op2 := by rw [← t1.num, ← t2.num]
  have key : TakenD { n with attrs := a' :: rest } op t (k2 + 1) ∧ s.mode = t.mode := by
    unfold turnA at ha
    split at ha
    · rename_i e; injection ha with ha; subst ha; exact nothing_axis t1 t2 e
    · split at ha
      · rename_i e; injection ha with ha; subst ha; exact nothing_alpha t1 t2 e
      · split at ha
        · rename_i e; injection ha with ha; subst ha; exact nothing_beta t1 t2 e
        · split at ha
          · rename_i e; injection ha with ha; subst ha; exact nothing_epsilon t1 t2 e
          · split at ha
            · rename_i e; injection ha with ha; subst ha; exact nothing_keeps t1 t2 e
            · split at ha
              · rename_i e
                injection ha with ha
                subst ha
                rcases e with e | e | e | e | e
                · exact nothing_transA t1 t2 e
                · exact nothing_transB t1 t2 e
                · exact nothing_fmod t1 t2 e
                · exact nothing_ceil t1 t2 e
                · exact nothing_zero t1 t2 e
              · cases ha
  refine ⟨?_, key.2⟩
  have h3 := of_taken key.1
  rw [← h3]
  exact resolve_perm { n with attrs := a' :: rest } (l := rest ++ [a']) (by
    show (a' :: rest).Perm (rest ++ [a'])
    exact (List.perm_append_comm (l₁ := rest) (l₂ := [a'])).symm)
/-- The list without its k-th element, as far as the j-th. -/
theorem erase_snoc {α : Type} (l : List α) (k j : Nat) {z : α} (hz : l[j]? = some z) (hjk : j ≠ k) : (l.take (j + 1)).eraseIdx k = (l.take j).eraseIdx k ++ [z] := by
  obtain ⟨hj, rfl⟩ := List.getElem?_eq_some_iff.1 hz
  rw [List.take_succ_eq_append_getElem hj]
  by_cases h : k < j
  · rw [List.eraseIdx_append_of_lt_length (by rw [List.length_take]; omega)]
  · rw [List.eraseIdx_append_of_length_le (by rw [List.length_take]; omega), List.eraseIdx_of_length_le (by simp [List.length_take]; omega), List.eraseIdx_of_length_le (by rw [List.length_take]; omega)]
theorem erase_same {α : Type} (l : List α) (k : Nat) (hk : k < l.length) : (l.take (k + 1)).eraseIdx k = (l.take k).eraseIdx k := by
  rw [List.take_succ_eq_append_getElem hk, List.eraseIdx_append_of_length_le (by rw [List.length_take]; omega)]
  rw [List.eraseIdx_of_length_le (l := l.take k) (by rw [List.length_take]; omega)]
  have : k - (l.take k).length = 0 := by rw [List.length_take]; omega
  rw [this]
  simp
theorem erase_len {α : Type} (l : List α) (k j : Nat) : ((l.take j).eraseIdx k).length ≤ j := by
  refine Nat.le_trans (List.length_eraseIdx_le _ _) ?_
  rw [List.length_take]; omega
theorem erase_perm {α : Type} : ∀ (l : List α) (k : Nat) {z : α}, l[k]? = some z → l.Perm (z :: l.eraseIdx k)
  | [], _, _, h => by simp at h
  | x :: l, 0, z, h => by simp at h; subst h; simp
  | x :: l, k + 1, z, h => by
    have ih := erase_perm l k (z := z) (by simpa using h)
    rw [List.eraseIdx_cons_succ]
    exact (ih.cons x).trans (List.Perm.swap z x _)
end Go.Proofs.YtgbkhcmbmffljaaDoor
