/-
  A part of the proofs of chapter 08: walks of the package ops. No condition.
-/
import Derived.Test.YtgbkhcmbmffljaaDoorOpsC
namespace Go.Proofs.YtgbkhcmbmffljaaDoor
open Go.RowKit
open Rep (rep)

theorem rep_rows (w : World) (Z : Zone) (t : TypeId) (l : List RowD) (n : Nat) (hn : l.length = n) (hle : n ≤ 65536) (g : Nat) (hg : w.heap[g]? = some (.cells (l.flatMap RowD.cells).toArray t (0, 0))) (hZ : Z.blk g) :
    rep w Z [.slice (some ⟨g, 0, none⟩) n n] l := by
  refine ⟨_, n, n, l.flatMap RowD.cells, rfl, hn.symm, Nat.le_refl _, by unfold maxLen; omega, by unfold reach; simp only [Rep.bytes]; omega, fun _ => ⟨g, 0, rfl, hZ, fun j u hu => ⟨?_, fun _ => by simp [World.frozen?, hg]⟩⟩, chunks_of_rows l⟩
  rw [cell_of_row _ _ _ _ _ _ hg]
  simpa using hu

theorem sliceInfo : (Tryd.prog.info? 87).map (fun i => (i.zero, i.size, i.bytes)) = some (some (.slice none 0 0), 1, 24) := by kernel_rfl

set_option maxRecDepth 100000 in
set_option maxHeartbeats 400000 in
theorem table_any (w : World) :
    Calls Tryd.prog 35 #[] w fun e w' => ∃ v', e = .returned v' ∧ w'.ownsRow w.heap.size 79 6 v' 80 (tableD.flatMap RowD.cells) ∧ Below w.heap.size w w' := by
  go_enter Tryd.func35, Tryd.ntmps35
  go_wp2_with fail
  refine (calls_lay (each_lay _)).mono ?_
  rintro e w1 ⟨rfl, rfl⟩
  generalize hs1 : lays w _ = w1
  have hz1 : w1.heap.size = w.heap.size + 1 := by rw [← hs1, lays_size]; rfl
  have hb1 : Below w.heap.size w w1 := by rw [← hs1]; exact lays_below _ _ (Nat.le_refl _)
  have hg1 : w1.heap[w.heap.size]? = some (.cells (eachD.flatMap RowD.cells).toArray 79 (0, 0)) := by rw [← hs1]; exact heap_alloc_new w _
  have H1 := Lib.hid (And.intro hz1 (And.intro hb1 hg1))
  clear hs1 hz1 hb1 hg1
  go_wp2_with fail
  refine (calls_lay (moves_lay _)).mono ?_
  rintro e w2 ⟨rfl, rfl⟩
  generalize hs1 : lays w1 _ = w2
  have hz1 : w2.heap.size = w1.heap.size + 1 := by rw [← hs1, lays_size]; rfl
  have hb1 : Below w1.heap.size w1 w2 := by rw [← hs1]; exact lays_below _ _ (Nat.le_refl _)
  have hg1 : w2.heap[w1.heap.size]? = some (.cells (movesD.flatMap RowD.cells).toArray 79 (0, 0)) := by rw [← hs1]; exact heap_alloc_new w1 _
  have H2 := Lib.hid (And.intro hz1 (And.intro hb1 hg1))
  clear hs1 hz1 hb1 hg1
  go_wp2_with fail
  refine (calls_lay (others_lay _)).mono ?_
  rintro e w3 ⟨rfl, rfl⟩
  generalize hs1 : lays w2 _ = w3
  have hz1 : w3.heap.size = w2.heap.size + 1 := by rw [← hs1, lays_size]; rfl
  have hb1 : Below w2.heap.size w2 w3 := by rw [← hs1]; exact lays_below _ _ (Nat.le_refl _)
  have hg1 : w3.heap[w2.heap.size]? = some (.cells (othersD.flatMap RowD.cells).toArray 79 (0, 0)) := by rw [← hs1]; exact heap_alloc_new w2 _
  have H3 := Lib.hid (And.intro hz1 (And.intro hb1 hg1))
  clear hs1 hz1 hb1 hg1
  go_wp2_with fail
  obtain ⟨z1, b1, g1⟩ := H1.out
  obtain ⟨z2, b2, g2⟩ := H2.out
  obtain ⟨z3, b3, g3⟩ := H3.out
  have hrep : ∀ o : Obj, o = .cells #[.slice (some ⟨w.heap.size, 0, none⟩) 44 44, .slice (some ⟨w1.heap.size, 0, none⟩) 20 20, .slice (some ⟨w2.heap.size, 0, none⟩) 16 16] 87 →
      rep (w3.alloc o) (old (w3.alloc o).heap.size) [.slice (some ⟨w3.heap.size, 0, none⟩) 3 3] [eachD, movesD, othersD] := by
    rintro o rfl
    have hold : ∀ k, k < w3.heap.size → (w3.alloc (.cells #[.slice (some ⟨w.heap.size, 0, none⟩) 44 44, .slice (some ⟨w1.heap.size, 0, none⟩) 20 20, .slice (some ⟨w2.heap.size, 0, none⟩) 16 16] 87)).heap[k]? = w3.heap[k]? := fun k hk => Below.heap_alloc w3 _ k hk
    refine ⟨_, 3, 3, [.slice (some ⟨w.heap.size, 0, none⟩) 44 44, .slice (some ⟨w1.heap.size, 0, none⟩) 20 20, .slice (some ⟨w2.heap.size, 0, none⟩) 16 16], rfl, rfl, Nat.le_refl _, by unfold maxLen; omega, by unfold reach; simp only [Rep.bytes]; omega,
      (lies_new w3 _ _).more (old_le (by simp)), ?_⟩
    refine ⟨[_], _, rfl, rep_rows _ _ 79 eachD 44 (by decide +kernel) (by omega) _ ?_ (by simp [old]; omega), [_], _, rfl, rep_rows _ _ 79 movesD 20 (by decide +kernel) (by omega) _ ?_ (by simp [old]; omega), [_], [], rfl, rep_rows _ _ 79 othersD 16 (by decide +kernel) (by omega) _ ?_ (by simp [old]; omega), rfl⟩
    · rw [hold _ (by omega), b3.block _ (by omega), b2.block _ (by omega), g1]
    · rw [hold _ (by omega), b3.block _ (by omega), g2]
    · rw [hold _ (by omega), g3]
  have hl : [eachD, movesD, othersD].flatten = tableD := by simp [tableD]
  have hb : Below w.heap.size w w3 := (b1.trans (b2.mono (by omega))).trans (b3.mono (by omega))
  have hsz : w.heap.size ≤ w3.heap.size := by omega
  refine (concatRow_any [eachD, movesD, othersD] _ _ (hrep _ rfl) (by rw [hl, tableD_len]; omega) (by rw [hl, tableD_len]; omega)).mono ?_
  rw [hl, tableD_len]
  rintro e w4 ⟨v4, rfl, hown4, hb4⟩
  have H4 := Lib.hid (And.intro hown4 (And.intro hb4 (And.intro hb hsz)))
  clear H1 H2 H3 z1 b1 g1 z2 b2 g2 z3 b3 g3 hrep hl hb hown4 hb4 hsz
  go_wp2
  go_ret
  obtain ⟨hown4, hb4, hb, hsz⟩ := H4.out
  refine ⟨_, rfl, ⟨hown4.1, ?_⟩, (hb.alloc hsz _).trans (hb4.mono (by simp; omega))⟩
  rcases hown4.2 with h | ⟨g, cap, cur, h1, h2, h3⟩
  · exact .inl h
  · exact .inr ⟨g, cap, cur, h1, by simp at h2; omega, h3⟩
end Go.Proofs.YtgbkhcmbmffljaaDoor
