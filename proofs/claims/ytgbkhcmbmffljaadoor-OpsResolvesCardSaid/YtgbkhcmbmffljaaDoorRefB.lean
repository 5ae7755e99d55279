/-
  The reference of chapter 08: Name, Number.
-/
import Derived.Test.YtgbkhcmbmffljaaDoorRefA
set_option linter.unusedSimpArgs false
namespace Go.Proofs.YtgbkhcmbmffljaaDoor
open Go.RowKit
open Rep (rep)

set_option maxRecDepth 100000 in
set_option maxHeartbeats 4000000 in
theorem nameR_any (op : Int) (w : World) : Calls Tryd.prog 17 #[.int .i64 op] w fun e w' => e = .returned (.string (findD op).name) ∧ Below w.heap.size w w' := by
  by_cases h1 : op < 1
  · rw [findD_out (.inl h1)]
    go_enter Tryd.func17, Tryd.ntmps17
    go_wp2
    go_ret
    exact ⟨rfl, Below.refl _ _⟩
  · by_cases h2 : op > 80
    · rw [findD_out (.inr h2)]
      have h3 : 80 < op := h2
      go_enter Tryd.func17, Tryd.ntmps17
      go_wp2
      go_ret
      exact ⟨rfl, Below.refl _ _⟩
    · obtain ⟨k, rfl, hk⟩ := find_row (op := op) (by omega) (by omega)
      obtain ⟨r, hr⟩ : ∃ r, tableD[k]? = some r := ⟨_, List.getElem?_eq_getElem (by rw [tableD_len]; exact hk)⟩
      rw [findD_of hr hk]
      have h3 : ¬ (80 < (k : Int) + 1) := by omega
      have HR := Lib.hid hr
      clear hr h2
      go_enter Tryd.func17, Tryd.ntmps17
      go_wp2_with fail
      refine (names_any _).mono ?_
      rintro e w1 ⟨rfl, hg, hb⟩
      have c0 : w1.cell? ⟨w.heap.size, k, none⟩ = some (.string r.name) := by
        rw [cell_of_row _ _ _ _ _ _ hg, List.getElem?_toArray, List.getElem?_map, HR.out]; rfl
      have HB := Lib.hid hb
      clear hb hg
      go_wp2
      go_ret
      exact ⟨rfl, HB.out⟩

set_option maxRecDepth 100000 in
set_option maxHeartbeats 4000000 in
theorem numberR_any (name : ByteArray) (w : World) : Calls Tryd.prog 19 #[.string name] w fun e w' => e = .returned (.int .i64 (numberD name)) ∧ Below w.heap.size w w' := by
  go_enter Tryd.func19, Tryd.ntmps19
  go_wp2_with fail
  refine (names_any _).mono ?_
  rintro e w1 ⟨rfl, hg, hb⟩
  have HB := Lib.hid (And.intro hg hb)
  have hlt1 : w.heap.size < w1.heap.size := (Array.getElem?_eq_some_iff.1 hg).1
  clear hb hg
  have hL : tableD.length = 80 := tableD_len
  have HL := Lib.hid hL
  clear hL
  go_wp2_with fail
  go_loopw [4] (fun i wr => ∃ pre post : List RowD, tableD = pre ++ post ∧ i = .int .i64 pre.length ∧ numberD name = 1 + indexFrom (fun r => decide (r.name = name)) post pre.length ∧ Below w1.heap.size w1 wr)
    (fun i _ => 80 - (intOf i).toNat)
  case atStart => exact ⟨[], tableD, rfl, rfl, rfl, Below.refl _ _⟩
  case round =>
    obtain ⟨pre, post, hpp, rfl, hix, hbel⟩ := hrel
    cases post with
    | cons z post =>
      obtain ⟨hz, hlt, hpp', hpl⟩ := split_at hpp
      rw [HL.out] at hlt
      have c0 : wr.cell? ⟨w.heap.size, pre.length, none⟩ = some (.string z.name) := by
        rw [hbel.cell (p := ⟨w.heap.size, pre.length, none⟩) hlt1, cell_of_row _ _ _ _ _ _ HB.out.1, List.getElem?_toArray, List.getElem?_map, hz]; rfl
      have H := Lib.hid (And.intro hpp' (And.intro hpl (And.intro hix hbel)))
      clear hpp hpp' hpl hz hix hbel
      by_cases hd : z.name = name
      · have hb1 : (z.name.toList == name.toList) = true := by rw [beq_str]; exact decide_eq_true hd
        have HD := Lib.hid hd
        clear hd
        go_wp2
        go_ret
        obtain ⟨_, _, hix, hbel⟩ := H.out
        refine ⟨?_, HB.out.2.trans (hbel.mono (Nat.le_of_lt hlt1))⟩
        rw [hix, indexFrom, decide_eq_true HD.out]
        simp
        omega
      · have hb1 : (z.name.toList == name.toList) = false := by rw [beq_str]; exact decide_eq_false hd
        have HD := Lib.hid hd
        clear hd
        go_wp2
        go_roundw
        case rel =>
          obtain ⟨hpp', hpl, hix, hbel⟩ := H.out
          refine ⟨pre ++ [z], post, hpp', by rw [hpl]; go_num, ?_, hbel⟩
          rw [hix, indexFrom, decide_eq_false HD.out, hpl]
          rfl
        case measure => simp [intOf]; omega
    | nil =>
      obtain ⟨hge, hpl⟩ := split_end hpp
      rw [HL.out] at hge
      have H := Lib.hid (And.intro hix hbel)
      have hpl2 : pre.length = 80 := by rw [hpl]; exact HL.out
      clear hpp hpl hix hbel
      go_wp2
      go_ret
      obtain ⟨hix, hbel⟩ := H.out
      refine ⟨?_, HB.out.2.trans (hbel.mono (Nat.le_of_lt hlt1))⟩
      rw [hix]
      rfl
end Go.Proofs.YtgbkhcmbmffljaaDoor
