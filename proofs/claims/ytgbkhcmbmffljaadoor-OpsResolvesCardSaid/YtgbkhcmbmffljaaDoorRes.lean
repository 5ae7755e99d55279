/-
  What 'Resolve' answers, as a plain function of the node.
-/
import Derived.Test.YtgbkhcmbmffljaaDoorOpsQ
import Derived.Test.YtgbkhcmbmffljaaDoorOpsJ
import Derived.Test.YtgbkhcmbmffljaaDoorOpsR
import Derived.Test.YtgbkhcmbmffljaaDoorOpsI
set_option linter.unusedSimpArgs false
namespace Go.Proofs.YtgbkhcmbmffljaaDoor
open Go.RowKit
open Rep (rep)

/-- How often a name is there. -/
def countD (l : List AttrD) (s : ByteArray) : Nat := (l.filter fun a => decide (a.name = s)).length
/-- The first attribute of a name. -/
def foundD (l : List AttrD) (s : ByteArray) : Option AttrD := l.find? fun a => decide (a.name = s)
/-- The attributes of an operator, one behind the other: the setting, how many are known. -/
def stepD (op : Int) (l : List AttrD) : List SortD → SettingD → Nat → Option (SettingD × Nat)
  | [], s, k => some (s, k)
  | x :: xs, s, k =>
    if 1 < countD l x.name then none
    else if countD l x.name = 0 then (if x.must then none else stepD op l xs s k)
    else match foundD l x.name with
      | none => none
      | some a => if a.kind = kindD x.letter.toNat ∧ mayD x.letter.toNat op x.name a = true then stepD op l xs (setD op a s) (k + 1) else none
/-- 'pads' -/
def sPads : ByteArray := ⟨#[112, 97, 100, 115]⟩
def errAttr : Int := 14
/-- The operator, what its attributes say, what is wrong. -/
def resolveD (n : NodeD) : Int × SettingD × Int :=
  if numberD n.op = 0 then (0, settingD0, 7)
  else if countsD (findD (numberD n.op)) n = false then (0, settingD0, 1)
  else match stepD (numberD n.op) n.attrs (sortsD (findD (numberD n.op))) (leftD (numberD n.op)) 0 with
    | none => (0, settingD0, errAttr)
    | some (s, k) => if k ≠ n.attrs.length ∨ numberD n.op = 61 ∧ k ≠ 1 ∨ s.auto ≠ 0 ∧ 0 < countD n.attrs sPads then (0, settingD0, errAttr) else (numberD n.op, s, 0)

theorem count_nil (s : ByteArray) : countD [] s = 0 := rfl
theorem count_snoc (l : List AttrD) (a : AttrD) (s : ByteArray) : countD (l ++ [a]) s = countD l s + if a.name = s then 1 else 0 := by
  unfold countD
  rw [List.filter_append, List.length_append]
  by_cases h : a.name = s <;> simp [h]
theorem count_le (l : List AttrD) (s : ByteArray) : countD l s ≤ l.length := List.length_filter_le _ _
theorem count_perm {l l' : List AttrD} (h : l.Perm l') (s : ByteArray) : countD l s = countD l' s := (h.filter _).length_eq
theorem found_head (l : List AttrD) (s : ByteArray) : foundD l s = (l.filter fun a => decide (a.name = s)).head? := (List.head?_filter ..).symm
theorem found_perm {l l' : List AttrD} (h : l.Perm l') (s : ByteArray) (h1 : countD l s ≤ 1) : foundD l s = foundD l' s := by
  rw [found_head, found_head]
  have hp := h.filter fun a => decide (a.name = s)
  unfold countD at h1
  generalize l.filter (fun a => decide (a.name = s)) = m at *
  generalize l'.filter (fun a => decide (a.name = s)) = m' at *
  match m, h1 with
  | [], _ => rw [List.nil_perm.1 hp]
  | [a], _ => rw [List.singleton_perm.1 hp]
theorem step_perm (op : Int) {l l' : List AttrD} (h : l.Perm l') : ∀ (xs : List SortD) (s : SettingD) (k : Nat), stepD op l xs s k = stepD op l' xs s k
  | [], _, _ => rfl
  | x :: xs, s, k => by
    unfold stepD
    rw [← count_perm h]
    by_cases h1 : 1 < countD l x.name
    · rw [if_pos h1, if_pos h1]
    · rw [if_neg h1, if_neg h1, ← found_perm h _ (by omega)]
      by_cases h2 : countD l x.name = 0
      · rw [if_pos h2, if_pos h2]
        split
        · rfl
        · exact step_perm op h xs s k
      · rw [if_neg h2, if_neg h2]
        split
        · rfl
        · split
          · exact step_perm op h xs _ _
          · rfl
theorem resolve_perm (n : NodeD) {l : List AttrD} (h : n.attrs.Perm l) : resolveD { n with attrs := l } = resolveD n := by
  unfold resolveD
  simp only [← step_perm _ h, ← h.length_eq, ← count_perm h]
  rfl
/-- The attribute of a name that is there once. -/
theorem found_once {l : List AttrD} {s : ByteArray} {j : Nat} {a : AttrD} (h1 : countD l s = 1) (hj : l[j]? = some a) (ha : a.name = s) : foundD l s = some a := by
  rw [found_head]
  unfold countD at h1
  have hm : a ∈ l.filter (fun a => decide (a.name = s)) := List.mem_filter.2 ⟨List.mem_of_getElem? hj, by simp [ha]⟩
  generalize l.filter (fun a => decide (a.name = s)) = m at *
  match m, h1 with
  | [b], _ => simp at hm; rw [hm]; rfl
end Go.Proofs.YtgbkhcmbmffljaaDoor
