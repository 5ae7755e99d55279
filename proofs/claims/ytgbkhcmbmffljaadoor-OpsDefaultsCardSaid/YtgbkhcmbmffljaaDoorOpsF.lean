/-
  A part of the proofs of chapter 08: walks of the package ops. No condition.
-/
import Derived.Test.YtgbkhcmbmffljaaDoorOpsE
namespace Go.Proofs.YtgbkhcmbmffljaaDoor
open Go.RowKit
open Rep (rep)

def noRow : RowD := ⟨⟨#[]⟩, 0, 0, 0, 0, ⟨#[]⟩⟩
/-- An operator's row. -/
def findD (op : Int) : RowD := if op < 1 ∨ op > 80 then noRow else (tableD[(op - 1).toNat]?).getD noRow

set_option maxRecDepth 100000 in
set_option maxHeartbeats 400000 in
theorem find_any (op : Int) (w : World) (hI : I64 op) :
    Calls Tryd.prog 31 #[.int .i64 op] w fun e w' => e = .returned (.agg (findD op).cells.toArray) ∧ Below w.heap.size w w' := by
  by_cases h1 : op < 1
  · have hfd : findD op = noRow := by unfold findD; rw [if_pos (.inl h1)]
    rw [hfd]
    clear hI hfd
    go_enter Tryd.func31, Tryd.ntmps31
    go_wp2
    go_returns
    exact ⟨rfl, (Below.refl _ _).alloc (Nat.le_refl _) _⟩
  · by_cases h2 : op > 80
    · have hfd : findD op = noRow := by unfold findD; rw [if_pos (.inr h2)]
      rw [hfd]
      clear hI hfd
      go_enter Tryd.func31, Tryd.ntmps31
      go_wp2
      go_returns
      exact ⟨rfl, (Below.refl _ _).alloc (Nat.le_refl _) _⟩
    · obtain ⟨k, hk⟩ : ∃ k : Nat, op = (k : Int) + 1 := ⟨(op - 1).toNat, by omega⟩
      subst hk
      have hkl : k < 80 := by omega
      obtain ⟨z, hz⟩ : ∃ z, tableD[k]? = some z := ⟨_, List.getElem?_eq_getElem (by rw [tableD_len]; exact hkl)⟩
      have hfd : findD ((k : Int) + 1) = z := by
        unfold findD
        rw [if_neg (by omega), show ((k : Int) + 1 - 1).toNat = k by omega, hz]
        rfl
      rw [hfd]
      have h3 : ¬ (80 < (k : Int) + 1) := by omega
      clear hI hfd h2
      go_enter Tryd.func31, Tryd.ntmps31
      go_wp2_with fail
      refine (table_any _).mono ?_
      rintro e w1 ⟨v1, rfl, hown, hbel⟩
      have hrep : rep w1 (old w1.heap.size) [v1] tableD := by
        refine rep_of_own (e := 79) (xs := tableD.flatMap RowD.cells) (by rw [tableD_len]; exact hown) (chunks_of_rows _) (by rw [tableD_len]; unfold reach; simp only [Rep.bytes]; omega) (fun g _ _ h => h)
      obtain ⟨A, c, xs, rfl, hnc, hcm, _, hl, hch⟩ := open_slice hrep
      obtain ⟨b, o, cs, rfl, hbB, hrz, hcell⟩ := elem_at hl hch (by decide) hz
      have hrz' : cs = z.cells := hrz
      subst hrz'
      have hat : At w1 b (o + k * 6) z.cells := fun j u hu => by rw [Nat.add_assoc]; exact (hcell j u hu).1
      rw [tableD_len]
      have hgw : w1.heap[w.heap.size]? = some (.cells noRow.cells.toArray 79 (0, 0)) := (hbel.block _ (by simp)).trans (heap_alloc_new w _)
      have H := Lib.hid (And.intro hat (And.intro hbel hgw))
      clear hrep hl hch hcell hrz hown hz hat hbel hbB hnc hcm hgw
      go_wp2_with (first | (with_reducible refine wpList_load_agg rfl 79 _ rfl _ _ _ rfl z.cells Tryd.underlying79 rfl (by kernel_rfl) H.out.1 ?_) | (with_reducible refine wpList_store_agg rfl 79 _ _ rfl w.heap.size 0 z.cells rfl rfl 79 noRow.cells H.out.2.2 (by kernel_rfl) (by rw [RowD.cells_len, RowD.cells_len]; omega) z.one ?_))
      obtain ⟨_, hbel, hgw⟩ := H.out
      refine bodyPost_ret (v := .agg z.cells.toArray) ?_ rfl ⟨rfl, ?_⟩
      · have hg2 := heap_setRow w1 w.heap.size (noRow.cells.take 0 ++ z.cells ++ noRow.cells.drop (0 + z.cells.length)).toArray _ _ hgw
        refine results_cell_row rfl _ _ w.heap.size 79 z.cells.toArray (0, 0) _ rfl ?_ Tryd.underlying79 rfl (by kernel_rfl)
        rw [hg2]
        rfl
      · exact below_setRow' (((Below.refl _ _).alloc (Nat.le_refl _) _).trans (hbel.mono (by simp))) (Nat.le_refl _) _
end Go.Proofs.YtgbkhcmbmffljaaDoor
