/-
  A part of the proofs of chapter 08: walks of the package ops. No condition.
-/
import Derived.Test.YtgbkhcmbmffljaaDoorOpsD
namespace Go.Proofs.YtgbkhcmbmffljaaDoor
open Go.RowKit
open Rep (rep)

set_option maxHeartbeats 400000 in
theorem number1_any (r : RowD) (b : Nat) (name : ByteArray) (w : World) (hc : w.cell? ⟨b, 0, none⟩ = some (.string name)) :
    Calls Tryd.prog 36 #[.agg r.cells.toArray, .pointer (some ⟨b, 0, none⟩)] w fun e w' => e = .returned (.bool (decide (r.name = name))) ∧ w.alloc (.cells r.cells.toArray 79) = w' := by
  have hc' : ∀ o : Obj, (w.alloc o).cell? ⟨b, 0, none⟩ = some (.string name) := fun o => by
    rw [World.cell?_alloc_lt _ _ _ (World.block_lt_of_cell? w _ hc)]; exact hc
  unfold RowD.cells
  go_enter Tryd.func36, Tryd.ntmps36
  go_wp2
  go_ret
  exact ⟨by rw [← beq_str]; rfl, rfl⟩

set_option maxHeartbeats 400000 in
theorem indexRow_any (l : List RowD) (v : Value) (b : Nat) (name : ByteArray) (w : World) (hr : rep w (old w.heap.size) [v] l) (hc : w.cell? ⟨b, 0, none⟩ = some (.string name)) (hb : b < w.heap.size) :
    Calls Tryd.prog 34 #[v, .func (.func 36) #[] #[.pointer (some ⟨b, 0, none⟩)]] w fun e w' => e = .returned (.int .i64 (indexFrom (fun r => decide (r.name = name)) l 0)) ∧ Below w.heap.size w w' := by
  obtain ⟨A, c, xs, rfl, hnc, hcm, _, hl, hch⟩ := open_slice hr
  clear hr
  go_enter Tryd.func34, Tryd.ntmps34
  go_wp2_with fail
  go_loopw [8] (fun i wr => ∃ pre post : List RowD, l = pre ++ post ∧ i = .int .i64 pre.length ∧ indexFrom (fun r => decide (r.name = name)) l 0 = indexFrom (fun r => decide (r.name = name)) post pre.length ∧ Below w.heap.size w wr)
    (fun i _ => l.length - (intOf i).toNat)
  case atStart => exact ⟨[], l, rfl, rfl, rfl, Below.refl _ _⟩
  case round =>
    obtain ⟨pre, post, hpp, rfl, hix, hbel⟩ := hrel
    cases post with
    | cons z post =>
      obtain ⟨hz, hlt, hpp', hpl⟩ := split_at hpp
      obtain ⟨b', o, cs, rfl, hbB, hrz, hcell⟩ := elem_at hl hch (by decide) hz
      have hrz' : cs = z.cells := hrz
      subst hrz'
      have hcx : ∀ j u, z.cells[j]? = some u → wr.cell? ⟨b', o + (pre.length * 6 + j), none⟩ = some u := fun j u hu => (hbel.cell (p := ⟨b', o + (pre.length * 6 + j), none⟩) hbB).trans (hcell j u hu).1
      have hat : At wr b' (o + pre.length * 6) z.cells := fun j u hu => by rw [Nat.add_assoc]; exact hcx j u hu
      have hcn := (hbel.cell (p := ⟨b, 0, none⟩) hb).trans hc
      have H := Lib.hid (And.intro hpp' (And.intro hpl (And.intro hix (And.intro hbel hat))))
      clear hcell hl hch hpp hpp' hpl hz hrz hix hbel hcx hc hat
      go_wp2_with (first | (with_reducible refine wpList_load_agg rfl 79 _ rfl _ _ _ rfl z.cells Tryd.underlying79 rfl (by kernel_rfl) H.out.2.2.2.2 ?_))
      refine (number1_any z b name wr hcn).mono ?_
      rintro e w1 ⟨rfl, hw1⟩
      have HW := Lib.hid hw1
      clear hw1 hcn
      cases hd : decide (z.name = name) with
      | true =>
        have HD := Lib.hid hd
        clear hd
        go_wp2
        go_ret
        obtain ⟨_, _, hix, hbel, _⟩ := H.out
        refine ⟨?_, by rw [← HW.out]; exact hbel.alloc hbel.size _⟩
        rw [hix, indexFrom, HD.out]
        rfl
      | false =>
        have HD := Lib.hid hd
        clear hd
        go_wp2
        go_roundw
        case rel =>
          obtain ⟨hpp', hpl, hix, hbel, _⟩ := H.out
          exact ⟨pre ++ [z], post, hpp', by rw [hpl]; go_num, by rw [hix, indexFrom, HD.out, hpl]; rfl, by rw [← HW.out]; exact hbel.alloc hbel.size _⟩
        case measure => simp [intOf]; omega
    | nil =>
      obtain ⟨hge, hpl⟩ := split_end hpp
      have H := Lib.hid (And.intro hix hbel)
      clear hpl hpp hl hch hix hbel
      go_wp2
      go_ret
      exact ⟨by rw [H.out.1]; rfl, H.out.2⟩

/-- An operator's number. -/
def numberD (name : ByteArray) : Int := 1 + indexFrom (fun r => decide (r.name = name)) tableD 0

theorem indexFrom_bd {α : Type} (p : α → Bool) : ∀ (l : List α) (k : Nat), -1 ≤ indexFrom p l k ∧ indexFrom p l k < k + l.length
  | [], k => by simp only [indexFrom, List.length_nil]; omega
  | a :: l, k => by
    have := indexFrom_bd p l (k + 1)
    simp only [indexFrom, List.length_cons]
    split <;> omega

set_option maxHeartbeats 400000 in
theorem number_any (name : ByteArray) (w : World) :
    Calls Tryd.prog 18 #[.string name] w fun e w' => e = .returned (.int .i64 (numberD name)) ∧ Below w.heap.size w w' := by
  go_enter Tryd.func18, Tryd.ntmps18
  go_wp2_with fail
  refine (table_any _).mono ?_
  rintro e w1 ⟨v1, rfl, hown, hbel⟩
  have hbw : Below w.heap.size w w1 := ((Below.refl _ _).alloc (Nat.le_refl _) _).trans (hbel.mono (by simp))
  have hcn : w1.cell? ⟨w.heap.size, 0, none⟩ = some (.string name) := by
    rw [hbel.cell (p := ⟨w.heap.size, 0, none⟩) (by simp)]
    exact cell_of_row _ _ _ _ _ _ (heap_alloc_new w _)
  have hsz : w.heap.size < w1.heap.size := by have := hbel.size; simp at this; omega
  have hrep : rep w1 (old w1.heap.size) [v1] tableD := by
    refine rep_of_own (e := 79) (xs := tableD.flatMap RowD.cells) (by rw [tableD_len]; exact hown) (chunks_of_rows _) (by rw [tableD_len]; unfold reach; simp only [Rep.bytes]; omega) (fun g _ _ h => h)
  have H := Lib.hid (And.intro hcn (And.intro hbw (And.intro hsz hrep)))
  clear hown hbel hbw hcn hsz hrep
  go_wp2_with fail
  refine (indexRow_any tableD v1 _ name _ H.out.2.2.2 H.out.1 H.out.2.2.1).mono ?_
  rintro e w2 ⟨rfl, hb2⟩
  have hbd := indexFrom_bd (fun r => decide (r.name = name)) tableD 0
  rw [tableD_len] at hbd
  have hk : numberD name = 1 + indexFrom (fun r => decide (r.name = name)) tableD 0 := rfl
  generalize indexFrom (fun r => decide (r.name = name)) tableD 0 = k at *
  have HK := Lib.hid (And.intro hk hb2)
  clear hk hb2
  go_wp2
  go_ret
  exact ⟨by rw [HK.out.1]; rfl, H.out.2.1.trans (HK.out.2.mono (Nat.le_of_lt H.out.2.2.1))⟩
end Go.Proofs.YtgbkhcmbmffljaaDoor
