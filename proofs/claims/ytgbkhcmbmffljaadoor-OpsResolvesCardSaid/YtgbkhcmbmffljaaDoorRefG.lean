/-
  The reference of chapter 08: Default.
-/
import Derived.Test.YtgbkhcmbmffljaaDoorRefM
set_option linter.unusedSimpArgs false
set_option linter.unusedVariables false
namespace Go.Proofs.YtgbkhcmbmffljaaDoor
open Go.RowKit
open Rep (rep)

/-- What 'Default' answers. -/
def DefSaid (op : Int) : Prop := ∀ w : World, Calls Tryd.prog 43 #[.int .i64 op] w fun e w' => ∃ cs : List Value, e = .returned (.agg cs.toArray) ∧ SettingDAt w' (fresh w.heap.size w'.heap.size) cs (leftD op) ∧ Below w.heap.size w w'

set_option maxRecDepth 100000 in
set_option maxHeartbeats 4000000 in
theorem def_17 : DefSaid 17 := fun w => by
  have HB := Lib.hid (show laySem Tryd.prog (Instr.build 45 #[(9, .int .u32 1008981770)]) w.heap.size = some (.agg (zeroS.set 9 (.int .u32 1008981770)).toArray, []) from by kernel_rfl)
  have HO := Lib.hid (show ∀ u ∈ (zeroS.set 9 (.int .u32 1008981770)), u.oneCell' = true from by decide)
  go_enter Tryd.func43, Tryd.ntmps43
  go_wp2_with (first
    | (with_reducible refine wpList_alloc_row rfl 45 rfl zeroS zeroS_zero ?_)
    | (with_reducible refine wpList_buildL rfl 45 _ rfl #[(9, .int .u32 1008981770)] (by kernel_rfl) (zeroS.set 9 (.int .u32 1008981770)) (run_lay _ rfl HB.out) ?_)
    | (with_reducible refine wpList_store_agg rfl 45 _ _ rfl w.heap.size 0 (zeroS.set 9 (.int .u32 1008981770)) rfl rfl 45 zeroS (heap_alloc_new _ _) (by kernel_rfl) (by decide) HO.out ?_; have hX := laid_row w 45 zeroS (zeroS.set 9 (.int .u32 1008981770)) (by kernel_rfl); generalize World.setRow _ _ _ = w1 at hX ⊢; have HX := Lib.hid hX; clear hX; refine halt ?_))
  unfold Halt
  go_wp2
  refine bodyPost_ret (results_cell_row rfl _ _ w.heap.size 45 _ (0, 0) _ rfl HX.out.2.1 Tryd.underlying45 rfl (by kernel_rfl)) rfl ⟨_, rfl, ?_, HX.out.1⟩
  exact ((zeroS_rep _ _).set9 (v := .int .u32 1008981770) (x := 1008981770) ⟨rfl, by decide⟩)

set_option maxRecDepth 100000 in
set_option maxHeartbeats 4000000 in
theorem def_18 : DefSaid 18 := fun w => by
  have HB := Lib.hid (show laySem Tryd.prog (Instr.build 45 #[(9, .int .u32 1065353216)]) w.heap.size = some (.agg (zeroS.set 9 (.int .u32 1065353216)).toArray, []) from by kernel_rfl)
  have HO := Lib.hid (show ∀ u ∈ (zeroS.set 9 (.int .u32 1065353216)), u.oneCell' = true from by decide)
  go_enter Tryd.func43, Tryd.ntmps43
  go_wp2_with (first
    | (with_reducible refine wpList_alloc_row rfl 45 rfl zeroS zeroS_zero ?_)
    | (with_reducible refine wpList_buildL rfl 45 _ rfl #[(9, .int .u32 1065353216)] (by kernel_rfl) (zeroS.set 9 (.int .u32 1065353216)) (run_lay _ rfl HB.out) ?_)
    | (with_reducible refine wpList_store_agg rfl 45 _ _ rfl w.heap.size 0 (zeroS.set 9 (.int .u32 1065353216)) rfl rfl 45 zeroS (heap_alloc_new _ _) (by kernel_rfl) (by decide) HO.out ?_; have hX := laid_row w 45 zeroS (zeroS.set 9 (.int .u32 1065353216)) (by kernel_rfl); generalize World.setRow _ _ _ = w1 at hX ⊢; have HX := Lib.hid hX; clear hX; refine halt ?_))
  unfold Halt
  go_wp2
  refine bodyPost_ret (results_cell_row rfl _ _ w.heap.size 45 _ (0, 0) _ rfl HX.out.2.1 Tryd.underlying45 rfl (by kernel_rfl)) rfl ⟨_, rfl, ?_, HX.out.1⟩
  exact ((zeroS_rep _ _).set9 (v := .int .u32 1065353216) (x := 1065353216) ⟨rfl, by decide⟩)

set_option maxRecDepth 100000 in
set_option maxHeartbeats 4000000 in
theorem def_19 : DefSaid 19 := fun w => by
  have HB := Lib.hid (show laySem Tryd.prog (Instr.build 45 #[(9, .int .u32 1045220557), (10, .int .u32 1056964608)]) w.heap.size = some (.agg ((zeroS.set 9 (.int .u32 1045220557)).set 10 (.int .u32 1056964608)).toArray, []) from by kernel_rfl)
  have HO := Lib.hid (show ∀ u ∈ ((zeroS.set 9 (.int .u32 1045220557)).set 10 (.int .u32 1056964608)), u.oneCell' = true from by decide)
  go_enter Tryd.func43, Tryd.ntmps43
  go_wp2_with (first
    | (with_reducible refine wpList_alloc_row rfl 45 rfl zeroS zeroS_zero ?_)
    | (with_reducible refine wpList_buildL rfl 45 _ rfl #[(9, .int .u32 1045220557), (10, .int .u32 1056964608)] (by kernel_rfl) ((zeroS.set 9 (.int .u32 1045220557)).set 10 (.int .u32 1056964608)) (run_lay _ rfl HB.out) ?_)
    | (with_reducible refine wpList_store_agg rfl 45 _ _ rfl w.heap.size 0 ((zeroS.set 9 (.int .u32 1045220557)).set 10 (.int .u32 1056964608)) rfl rfl 45 zeroS (heap_alloc_new _ _) (by kernel_rfl) (by decide) HO.out ?_; have hX := laid_row w 45 zeroS ((zeroS.set 9 (.int .u32 1045220557)).set 10 (.int .u32 1056964608)) (by kernel_rfl); generalize World.setRow _ _ _ = w1 at hX ⊢; have HX := Lib.hid hX; clear hX; refine halt ?_))
  unfold Halt
  go_wp2
  refine bodyPost_ret (results_cell_row rfl _ _ w.heap.size 45 _ (0, 0) _ rfl HX.out.2.1 Tryd.underlying45 rfl (by kernel_rfl)) rfl ⟨_, rfl, ?_, HX.out.1⟩
  exact (((zeroS_rep _ _).set9 (v := .int .u32 1045220557) (x := 1045220557) ⟨rfl, by decide⟩).set10 (v := .int .u32 1056964608) (x := 1056964608) ⟨rfl, by decide⟩)

set_option maxRecDepth 100000 in
set_option maxHeartbeats 4000000 in
theorem def_27 : DefSaid 27 := fun w => by
  have HB := Lib.hid (show laySem Tryd.prog (Instr.build 45 #[(12, .bool true), (13, .bool true)]) w.heap.size = some (.agg ((zeroS.set 12 (.bool true)).set 13 (.bool true)).toArray, []) from by kernel_rfl)
  have HO := Lib.hid (show ∀ u ∈ ((zeroS.set 12 (.bool true)).set 13 (.bool true)), u.oneCell' = true from by decide)
  go_enter Tryd.func43, Tryd.ntmps43
  go_wp2_with (first
    | (with_reducible refine wpList_alloc_row rfl 45 rfl zeroS zeroS_zero ?_)
    | (with_reducible refine wpList_buildL rfl 45 _ rfl #[(12, .bool true), (13, .bool true)] (by kernel_rfl) ((zeroS.set 12 (.bool true)).set 13 (.bool true)) (run_lay _ rfl HB.out) ?_)
    | (with_reducible refine wpList_store_agg rfl 45 _ _ rfl w.heap.size 0 ((zeroS.set 12 (.bool true)).set 13 (.bool true)) rfl rfl 45 zeroS (heap_alloc_new _ _) (by kernel_rfl) (by decide) HO.out ?_; have hX := laid_row w 45 zeroS ((zeroS.set 12 (.bool true)).set 13 (.bool true)) (by kernel_rfl); generalize World.setRow _ _ _ = w1 at hX ⊢; have HX := Lib.hid hX; clear hX; refine halt ?_))
  unfold Halt
  go_wp2
  refine bodyPost_ret (results_cell_row rfl _ _ w.heap.size 45 _ (0, 0) _ rfl HX.out.2.1 Tryd.underlying45 rfl (by kernel_rfl)) rfl ⟨_, rfl, ?_, HX.out.1⟩
  exact (((zeroS_rep _ _).set12 (v := .bool true) (x := true) rfl).set13 (v := .bool true) (x := true) rfl)

set_option maxRecDepth 100000 in
set_option maxHeartbeats 4000000 in
theorem def_53 : DefSaid 53 := fun w => by
  have HB := Lib.hid (show laySem Tryd.prog (Instr.build 45 #[(16, .int .i64 1)]) w.heap.size = some (.agg (zeroS.set 16 (.int .i64 1)).toArray, []) from by kernel_rfl)
  have HO := Lib.hid (show ∀ u ∈ (zeroS.set 16 (.int .i64 1)), u.oneCell' = true from by decide)
  go_enter Tryd.func43, Tryd.ntmps43
  go_wp2_with (first
    | (with_reducible refine wpList_alloc_row rfl 45 rfl zeroS zeroS_zero ?_)
    | (with_reducible refine wpList_buildL rfl 45 _ rfl #[(16, .int .i64 1)] (by kernel_rfl) (zeroS.set 16 (.int .i64 1)) (run_lay _ rfl HB.out) ?_)
    | (with_reducible refine wpList_store_agg rfl 45 _ _ rfl w.heap.size 0 (zeroS.set 16 (.int .i64 1)) rfl rfl 45 zeroS (heap_alloc_new _ _) (by kernel_rfl) (by decide) HO.out ?_; have hX := laid_row w 45 zeroS (zeroS.set 16 (.int .i64 1)) (by kernel_rfl); generalize World.setRow _ _ _ = w1 at hX ⊢; have HX := Lib.hid hX; clear hX; refine halt ?_))
  unfold Halt
  go_wp2
  refine bodyPost_ret (results_cell_row rfl _ _ w.heap.size 45 _ (0, 0) _ rfl HX.out.2.1 Tryd.underlying45 rfl (by kernel_rfl)) rfl ⟨_, rfl, ?_, HX.out.1⟩
  exact ((zeroS_rep _ _).set16 (v := .int .i64 1) (x := 1) ⟨rfl, by unfold I64; omega⟩)

set_option maxRecDepth 100000 in
set_option maxHeartbeats 4000000 in
theorem def_58 : DefSaid 58 := fun w => by
  have HB := Lib.hid (show laySem Tryd.prog (Instr.build 45 #[(0, .int .i64 1)]) w.heap.size = some (.agg (zeroS.set 0 (.int .i64 1)).toArray, []) from by kernel_rfl)
  have HO := Lib.hid (show ∀ u ∈ (zeroS.set 0 (.int .i64 1)), u.oneCell' = true from by decide)
  go_enter Tryd.func43, Tryd.ntmps43
  go_wp2_with (first
    | (with_reducible refine wpList_alloc_row rfl 45 rfl zeroS zeroS_zero ?_)
    | (with_reducible refine wpList_buildL rfl 45 _ rfl #[(0, .int .i64 1)] (by kernel_rfl) (zeroS.set 0 (.int .i64 1)) (run_lay _ rfl HB.out) ?_)
    | (with_reducible refine wpList_store_agg rfl 45 _ _ rfl w.heap.size 0 (zeroS.set 0 (.int .i64 1)) rfl rfl 45 zeroS (heap_alloc_new _ _) (by kernel_rfl) (by decide) HO.out ?_; have hX := laid_row w 45 zeroS (zeroS.set 0 (.int .i64 1)) (by kernel_rfl); generalize World.setRow _ _ _ = w1 at hX ⊢; have HX := Lib.hid hX; clear hX; refine halt ?_))
  unfold Halt
  go_wp2
  refine bodyPost_ret (results_cell_row rfl _ _ w.heap.size 45 _ (0, 0) _ rfl HX.out.2.1 Tryd.underlying45 rfl (by kernel_rfl)) rfl ⟨_, rfl, ?_, HX.out.1⟩
  exact ((zeroS_rep _ _).set0 (v := .int .i64 1) (x := 1) ⟨rfl, by unfold I64; omega⟩)

set_option maxRecDepth 100000 in
set_option maxHeartbeats 4000000 in
theorem def_63 : DefSaid 63 := fun w => by
  have HB := Lib.hid (show laySem Tryd.prog (Instr.build 45 #[(16, .int .i64 6)]) w.heap.size = some (.agg (zeroS.set 16 (.int .i64 6)).toArray, []) from by kernel_rfl)
  have HO := Lib.hid (show ∀ u ∈ (zeroS.set 16 (.int .i64 6)), u.oneCell' = true from by decide)
  go_enter Tryd.func43, Tryd.ntmps43
  go_wp2_with (first
    | (with_reducible refine wpList_alloc_row rfl 45 rfl zeroS zeroS_zero ?_)
    | (with_reducible refine wpList_buildL rfl 45 _ rfl #[(16, .int .i64 6)] (by kernel_rfl) (zeroS.set 16 (.int .i64 6)) (run_lay _ rfl HB.out) ?_)
    | (with_reducible refine wpList_store_agg rfl 45 _ _ rfl w.heap.size 0 (zeroS.set 16 (.int .i64 6)) rfl rfl 45 zeroS (heap_alloc_new _ _) (by kernel_rfl) (by decide) HO.out ?_; have hX := laid_row w 45 zeroS (zeroS.set 16 (.int .i64 6)) (by kernel_rfl); generalize World.setRow _ _ _ = w1 at hX ⊢; have HX := Lib.hid hX; clear hX; refine halt ?_))
  unfold Halt
  go_wp2
  refine bodyPost_ret (results_cell_row rfl _ _ w.heap.size 45 _ (0, 0) _ rfl HX.out.2.1 Tryd.underlying45 rfl (by kernel_rfl)) rfl ⟨_, rfl, ?_, HX.out.1⟩
  exact ((zeroS_rep _ _).set16 (v := .int .i64 6) (x := 6) ⟨rfl, by unfold I64; omega⟩)

set_option maxRecDepth 100000 in
set_option maxHeartbeats 4000000 in
theorem def_65 : DefSaid 65 := fun w => by
  have HB := Lib.hid (show laySem Tryd.prog (Instr.build 45 #[(3, .bool true)]) w.heap.size = some (.agg (zeroS.set 3 (.bool true)).toArray, []) from by kernel_rfl)
  have HO := Lib.hid (show ∀ u ∈ (zeroS.set 3 (.bool true)), u.oneCell' = true from by decide)
  go_enter Tryd.func43, Tryd.ntmps43
  go_wp2_with (first
    | (with_reducible refine wpList_alloc_row rfl 45 rfl zeroS zeroS_zero ?_)
    | (with_reducible refine wpList_buildL rfl 45 _ rfl #[(3, .bool true)] (by kernel_rfl) (zeroS.set 3 (.bool true)) (run_lay _ rfl HB.out) ?_)
    | (with_reducible refine wpList_store_agg rfl 45 _ _ rfl w.heap.size 0 (zeroS.set 3 (.bool true)) rfl rfl 45 zeroS (heap_alloc_new _ _) (by kernel_rfl) (by decide) HO.out ?_; have hX := laid_row w 45 zeroS (zeroS.set 3 (.bool true)) (by kernel_rfl); generalize World.setRow _ _ _ = w1 at hX ⊢; have HX := Lib.hid hX; clear hX; refine halt ?_))
  unfold Halt
  go_wp2
  refine bodyPost_ret (results_cell_row rfl _ _ w.heap.size 45 _ (0, 0) _ rfl HX.out.2.1 Tryd.underlying45 rfl (by kernel_rfl)) rfl ⟨_, rfl, ?_, HX.out.1⟩
  exact ((zeroS_rep _ _).set3 (v := .bool true) (x := true) rfl)

set_option maxRecDepth 100000 in
set_option maxHeartbeats 4000000 in
theorem def_66 : DefSaid 66 := fun w => by
  have HB := Lib.hid (show laySem Tryd.prog (Instr.build 45 #[(3, .bool true)]) w.heap.size = some (.agg (zeroS.set 3 (.bool true)).toArray, []) from by kernel_rfl)
  have HO := Lib.hid (show ∀ u ∈ (zeroS.set 3 (.bool true)), u.oneCell' = true from by decide)
  go_enter Tryd.func43, Tryd.ntmps43
  go_wp2_with (first
    | (with_reducible refine wpList_alloc_row rfl 45 rfl zeroS zeroS_zero ?_)
    | (with_reducible refine wpList_buildL rfl 45 _ rfl #[(3, .bool true)] (by kernel_rfl) (zeroS.set 3 (.bool true)) (run_lay _ rfl HB.out) ?_)
    | (with_reducible refine wpList_store_agg rfl 45 _ _ rfl w.heap.size 0 (zeroS.set 3 (.bool true)) rfl rfl 45 zeroS (heap_alloc_new _ _) (by kernel_rfl) (by decide) HO.out ?_; have hX := laid_row w 45 zeroS (zeroS.set 3 (.bool true)) (by kernel_rfl); generalize World.setRow _ _ _ = w1 at hX ⊢; have HX := Lib.hid hX; clear hX; refine halt ?_))
  unfold Halt
  go_wp2
  refine bodyPost_ret (results_cell_row rfl _ _ w.heap.size 45 _ (0, 0) _ rfl HX.out.2.1 Tryd.underlying45 rfl (by kernel_rfl)) rfl ⟨_, rfl, ?_, HX.out.1⟩
  exact ((zeroS_rep _ _).set3 (v := .bool true) (x := true) rfl)

set_option maxRecDepth 100000 in
set_option maxHeartbeats 4000000 in
theorem def_67 : DefSaid 67 := fun w => by
  have HB := Lib.hid (show laySem Tryd.prog (Instr.build 45 #[(3, .bool true)]) w.heap.size = some (.agg (zeroS.set 3 (.bool true)).toArray, []) from by kernel_rfl)
  have HO := Lib.hid (show ∀ u ∈ (zeroS.set 3 (.bool true)), u.oneCell' = true from by decide)
  go_enter Tryd.func43, Tryd.ntmps43
  go_wp2_with (first
    | (with_reducible refine wpList_alloc_row rfl 45 rfl zeroS zeroS_zero ?_)
    | (with_reducible refine wpList_buildL rfl 45 _ rfl #[(3, .bool true)] (by kernel_rfl) (zeroS.set 3 (.bool true)) (run_lay _ rfl HB.out) ?_)
    | (with_reducible refine wpList_store_agg rfl 45 _ _ rfl w.heap.size 0 (zeroS.set 3 (.bool true)) rfl rfl 45 zeroS (heap_alloc_new _ _) (by kernel_rfl) (by decide) HO.out ?_; have hX := laid_row w 45 zeroS (zeroS.set 3 (.bool true)) (by kernel_rfl); generalize World.setRow _ _ _ = w1 at hX ⊢; have HX := Lib.hid hX; clear hX; refine halt ?_))
  unfold Halt
  go_wp2
  refine bodyPost_ret (results_cell_row rfl _ _ w.heap.size 45 _ (0, 0) _ rfl HX.out.2.1 Tryd.underlying45 rfl (by kernel_rfl)) rfl ⟨_, rfl, ?_, HX.out.1⟩
  exact ((zeroS_rep _ _).set3 (v := .bool true) (x := true) rfl)

set_option maxRecDepth 100000 in
set_option maxHeartbeats 4000000 in
theorem def_68 : DefSaid 68 := fun w => by
  have HB := Lib.hid (show laySem Tryd.prog (Instr.build 45 #[(3, .bool true)]) w.heap.size = some (.agg (zeroS.set 3 (.bool true)).toArray, []) from by kernel_rfl)
  have HO := Lib.hid (show ∀ u ∈ (zeroS.set 3 (.bool true)), u.oneCell' = true from by decide)
  go_enter Tryd.func43, Tryd.ntmps43
  go_wp2_with (first
    | (with_reducible refine wpList_alloc_row rfl 45 rfl zeroS zeroS_zero ?_)
    | (with_reducible refine wpList_buildL rfl 45 _ rfl #[(3, .bool true)] (by kernel_rfl) (zeroS.set 3 (.bool true)) (run_lay _ rfl HB.out) ?_)
    | (with_reducible refine wpList_store_agg rfl 45 _ _ rfl w.heap.size 0 (zeroS.set 3 (.bool true)) rfl rfl 45 zeroS (heap_alloc_new _ _) (by kernel_rfl) (by decide) HO.out ?_; have hX := laid_row w 45 zeroS (zeroS.set 3 (.bool true)) (by kernel_rfl); generalize World.setRow _ _ _ = w1 at hX ⊢; have HX := Lib.hid hX; clear hX; refine halt ?_))
  unfold Halt
  go_wp2
  refine bodyPost_ret (results_cell_row rfl _ _ w.heap.size 45 _ (0, 0) _ rfl HX.out.2.1 Tryd.underlying45 rfl (by kernel_rfl)) rfl ⟨_, rfl, ?_, HX.out.1⟩
  exact ((zeroS_rep _ _).set3 (v := .bool true) (x := true) rfl)

set_option maxRecDepth 100000 in
set_option maxHeartbeats 4000000 in
theorem def_69 : DefSaid 69 := fun w => by
  have HB := Lib.hid (show laySem Tryd.prog (Instr.build 45 #[(3, .bool true)]) w.heap.size = some (.agg (zeroS.set 3 (.bool true)).toArray, []) from by kernel_rfl)
  have HO := Lib.hid (show ∀ u ∈ (zeroS.set 3 (.bool true)), u.oneCell' = true from by decide)
  go_enter Tryd.func43, Tryd.ntmps43
  go_wp2_with (first
    | (with_reducible refine wpList_alloc_row rfl 45 rfl zeroS zeroS_zero ?_)
    | (with_reducible refine wpList_buildL rfl 45 _ rfl #[(3, .bool true)] (by kernel_rfl) (zeroS.set 3 (.bool true)) (run_lay _ rfl HB.out) ?_)
    | (with_reducible refine wpList_store_agg rfl 45 _ _ rfl w.heap.size 0 (zeroS.set 3 (.bool true)) rfl rfl 45 zeroS (heap_alloc_new _ _) (by kernel_rfl) (by decide) HO.out ?_; have hX := laid_row w 45 zeroS (zeroS.set 3 (.bool true)) (by kernel_rfl); generalize World.setRow _ _ _ = w1 at hX ⊢; have HX := Lib.hid hX; clear hX; refine halt ?_))
  unfold Halt
  go_wp2
  refine bodyPost_ret (results_cell_row rfl _ _ w.heap.size 45 _ (0, 0) _ rfl HX.out.2.1 Tryd.underlying45 rfl (by kernel_rfl)) rfl ⟨_, rfl, ?_, HX.out.1⟩
  exact ((zeroS_rep _ _).set3 (v := .bool true) (x := true) rfl)

set_option maxRecDepth 100000 in
set_option maxHeartbeats 4000000 in
theorem def_70 : DefSaid 70 := fun w => by
  have HB := Lib.hid (show laySem Tryd.prog (Instr.build 45 #[(3, .bool true)]) w.heap.size = some (.agg (zeroS.set 3 (.bool true)).toArray, []) from by kernel_rfl)
  have HO := Lib.hid (show ∀ u ∈ (zeroS.set 3 (.bool true)), u.oneCell' = true from by decide)
  go_enter Tryd.func43, Tryd.ntmps43
  go_wp2_with (first
    | (with_reducible refine wpList_alloc_row rfl 45 rfl zeroS zeroS_zero ?_)
    | (with_reducible refine wpList_buildL rfl 45 _ rfl #[(3, .bool true)] (by kernel_rfl) (zeroS.set 3 (.bool true)) (run_lay _ rfl HB.out) ?_)
    | (with_reducible refine wpList_store_agg rfl 45 _ _ rfl w.heap.size 0 (zeroS.set 3 (.bool true)) rfl rfl 45 zeroS (heap_alloc_new _ _) (by kernel_rfl) (by decide) HO.out ?_; have hX := laid_row w 45 zeroS (zeroS.set 3 (.bool true)) (by kernel_rfl); generalize World.setRow _ _ _ = w1 at hX ⊢; have HX := Lib.hid hX; clear hX; refine halt ?_))
  unfold Halt
  go_wp2
  refine bodyPost_ret (results_cell_row rfl _ _ w.heap.size 45 _ (0, 0) _ rfl HX.out.2.1 Tryd.underlying45 rfl (by kernel_rfl)) rfl ⟨_, rfl, ?_, HX.out.1⟩
  exact ((zeroS_rep _ _).set3 (v := .bool true) (x := true) rfl)

set_option maxRecDepth 100000 in
set_option maxHeartbeats 4000000 in
theorem def_71 : DefSaid 71 := fun w => by
  have HB := Lib.hid (show laySem Tryd.prog (Instr.build 45 #[(3, .bool true)]) w.heap.size = some (.agg (zeroS.set 3 (.bool true)).toArray, []) from by kernel_rfl)
  have HO := Lib.hid (show ∀ u ∈ (zeroS.set 3 (.bool true)), u.oneCell' = true from by decide)
  go_enter Tryd.func43, Tryd.ntmps43
  go_wp2_with (first
    | (with_reducible refine wpList_alloc_row rfl 45 rfl zeroS zeroS_zero ?_)
    | (with_reducible refine wpList_buildL rfl 45 _ rfl #[(3, .bool true)] (by kernel_rfl) (zeroS.set 3 (.bool true)) (run_lay _ rfl HB.out) ?_)
    | (with_reducible refine wpList_store_agg rfl 45 _ _ rfl w.heap.size 0 (zeroS.set 3 (.bool true)) rfl rfl 45 zeroS (heap_alloc_new _ _) (by kernel_rfl) (by decide) HO.out ?_; have hX := laid_row w 45 zeroS (zeroS.set 3 (.bool true)) (by kernel_rfl); generalize World.setRow _ _ _ = w1 at hX ⊢; have HX := Lib.hid hX; clear hX; refine halt ?_))
  unfold Halt
  go_wp2
  refine bodyPost_ret (results_cell_row rfl _ _ w.heap.size 45 _ (0, 0) _ rfl HX.out.2.1 Tryd.underlying45 rfl (by kernel_rfl)) rfl ⟨_, rfl, ?_, HX.out.1⟩
  exact ((zeroS_rep _ _).set3 (v := .bool true) (x := true) rfl)

set_option maxRecDepth 100000 in
set_option maxHeartbeats 4000000 in
theorem def_72 : DefSaid 72 := fun w => by
  have HB := Lib.hid (show laySem Tryd.prog (Instr.build 45 #[(0, .int .i64 (-1))]) w.heap.size = some (.agg (zeroS.set 0 (.int .i64 (-1))).toArray, []) from by kernel_rfl)
  have HO := Lib.hid (show ∀ u ∈ (zeroS.set 0 (.int .i64 (-1))), u.oneCell' = true from by decide)
  go_enter Tryd.func43, Tryd.ntmps43
  go_wp2_with (first
    | (with_reducible refine wpList_alloc_row rfl 45 rfl zeroS zeroS_zero ?_)
    | (with_reducible refine wpList_buildL rfl 45 _ rfl #[(0, .int .i64 (-1))] (by kernel_rfl) (zeroS.set 0 (.int .i64 (-1))) (run_lay _ rfl HB.out) ?_)
    | (with_reducible refine wpList_store_agg rfl 45 _ _ rfl w.heap.size 0 (zeroS.set 0 (.int .i64 (-1))) rfl rfl 45 zeroS (heap_alloc_new _ _) (by kernel_rfl) (by decide) HO.out ?_; have hX := laid_row w 45 zeroS (zeroS.set 0 (.int .i64 (-1))) (by kernel_rfl); generalize World.setRow _ _ _ = w1 at hX ⊢; have HX := Lib.hid hX; clear hX; refine halt ?_))
  unfold Halt
  go_wp2
  refine bodyPost_ret (results_cell_row rfl _ _ w.heap.size 45 _ (0, 0) _ rfl HX.out.2.1 Tryd.underlying45 rfl (by kernel_rfl)) rfl ⟨_, rfl, ?_, HX.out.1⟩
  exact ((zeroS_rep _ _).set0 (v := .int .i64 (-1)) (x := (-1)) ⟨rfl, by unfold I64; omega⟩)

set_option maxRecDepth 100000 in
set_option maxHeartbeats 4000000 in
theorem def_74 : DefSaid 74 := fun w => by
  have HB := Lib.hid (show laySem Tryd.prog (Instr.build 45 #[(9, .int .u32 1065353216), (10, .int .u32 1065353216)]) w.heap.size = some (.agg ((zeroS.set 9 (.int .u32 1065353216)).set 10 (.int .u32 1065353216)).toArray, []) from by kernel_rfl)
  have HO := Lib.hid (show ∀ u ∈ ((zeroS.set 9 (.int .u32 1065353216)).set 10 (.int .u32 1065353216)), u.oneCell' = true from by decide)
  go_enter Tryd.func43, Tryd.ntmps43
  go_wp2_with (first
    | (with_reducible refine wpList_alloc_row rfl 45 rfl zeroS zeroS_zero ?_)
    | (with_reducible refine wpList_buildL rfl 45 _ rfl #[(9, .int .u32 1065353216), (10, .int .u32 1065353216)] (by kernel_rfl) ((zeroS.set 9 (.int .u32 1065353216)).set 10 (.int .u32 1065353216)) (run_lay _ rfl HB.out) ?_)
    | (with_reducible refine wpList_store_agg rfl 45 _ _ rfl w.heap.size 0 ((zeroS.set 9 (.int .u32 1065353216)).set 10 (.int .u32 1065353216)) rfl rfl 45 zeroS (heap_alloc_new _ _) (by kernel_rfl) (by decide) HO.out ?_; have hX := laid_row w 45 zeroS ((zeroS.set 9 (.int .u32 1065353216)).set 10 (.int .u32 1065353216)) (by kernel_rfl); generalize World.setRow _ _ _ = w1 at hX ⊢; have HX := Lib.hid hX; clear hX; refine halt ?_))
  unfold Halt
  go_wp2
  refine bodyPost_ret (results_cell_row rfl _ _ w.heap.size 45 _ (0, 0) _ rfl HX.out.2.1 Tryd.underlying45 rfl (by kernel_rfl)) rfl ⟨_, rfl, ?_, HX.out.1⟩
  exact (((zeroS_rep _ _).set9 (v := .int .u32 1065353216) (x := 1065353216) ⟨rfl, by decide⟩).set10 (v := .int .u32 1065353216) (x := 1065353216) ⟨rfl, by decide⟩)

set_option maxRecDepth 100000 in
set_option maxHeartbeats 4000000 in
theorem def_75 : DefSaid 75 := fun w => by
  have HB := Lib.hid (show laySem Tryd.prog (Instr.build 45 #[(19, .int .i64 1)]) w.heap.size = some (.agg (zeroS.set 19 (.int .i64 1)).toArray, []) from by kernel_rfl)
  have HO := Lib.hid (show ∀ u ∈ (zeroS.set 19 (.int .i64 1)), u.oneCell' = true from by decide)
  go_enter Tryd.func43, Tryd.ntmps43
  go_wp2_with (first
    | (with_reducible refine wpList_alloc_row rfl 45 rfl zeroS zeroS_zero ?_)
    | (with_reducible refine wpList_buildL rfl 45 _ rfl #[(19, .int .i64 1)] (by kernel_rfl) (zeroS.set 19 (.int .i64 1)) (run_lay _ rfl HB.out) ?_)
    | (with_reducible refine wpList_store_agg rfl 45 _ _ rfl w.heap.size 0 (zeroS.set 19 (.int .i64 1)) rfl rfl 45 zeroS (heap_alloc_new _ _) (by kernel_rfl) (by decide) HO.out ?_; have hX := laid_row w 45 zeroS (zeroS.set 19 (.int .i64 1)) (by kernel_rfl); generalize World.setRow _ _ _ = w1 at hX ⊢; have HX := Lib.hid hX; clear hX; refine halt ?_))
  unfold Halt
  go_wp2
  refine bodyPost_ret (results_cell_row rfl _ _ w.heap.size 45 _ (0, 0) _ rfl HX.out.2.1 Tryd.underlying45 rfl (by kernel_rfl)) rfl ⟨_, rfl, ?_, HX.out.1⟩
  exact ((zeroS_rep _ _).set19 (v := .int .i64 1) (x := 1) ⟨rfl, by unfold I64; omega⟩)

set_option maxRecDepth 100000 in
set_option maxHeartbeats 4000000 in
theorem def_79 : DefSaid 79 := fun w => by
  have HB := Lib.hid (show laySem Tryd.prog (Instr.build 45 #[(11, .int .u32 925353388)]) w.heap.size = some (.agg (zeroS.set 11 (.int .u32 925353388)).toArray, []) from by kernel_rfl)
  have HO := Lib.hid (show ∀ u ∈ (zeroS.set 11 (.int .u32 925353388)), u.oneCell' = true from by decide)
  go_enter Tryd.func43, Tryd.ntmps43
  go_wp2_with (first
    | (with_reducible refine wpList_alloc_row rfl 45 rfl zeroS zeroS_zero ?_)
    | (with_reducible refine wpList_buildL rfl 45 _ rfl #[(11, .int .u32 925353388)] (by kernel_rfl) (zeroS.set 11 (.int .u32 925353388)) (run_lay _ rfl HB.out) ?_)
    | (with_reducible refine wpList_store_agg rfl 45 _ _ rfl w.heap.size 0 (zeroS.set 11 (.int .u32 925353388)) rfl rfl 45 zeroS (heap_alloc_new _ _) (by kernel_rfl) (by decide) HO.out ?_; have hX := laid_row w 45 zeroS (zeroS.set 11 (.int .u32 925353388)) (by kernel_rfl); generalize World.setRow _ _ _ = w1 at hX ⊢; have HX := Lib.hid hX; clear hX; refine halt ?_))
  unfold Halt
  go_wp2
  refine bodyPost_ret (results_cell_row rfl _ _ w.heap.size 45 _ (0, 0) _ rfl HX.out.2.1 Tryd.underlying45 rfl (by kernel_rfl)) rfl ⟨_, rfl, ?_, HX.out.1⟩
  exact ((zeroS_rep _ _).set11 (v := .int .u32 925353388) (x := 925353388) ⟨rfl, by decide⟩)

set_option maxRecDepth 100000 in
set_option maxHeartbeats 4000000 in
theorem def_80 : DefSaid 80 := fun w => by
  have HB := Lib.hid (show laySem Tryd.prog (Instr.build 45 #[(0, .int .i64 (-1)), (11, .int .u32 925353388)]) w.heap.size = some (.agg ((zeroS.set 0 (.int .i64 (-1))).set 11 (.int .u32 925353388)).toArray, []) from by kernel_rfl)
  have HO := Lib.hid (show ∀ u ∈ ((zeroS.set 0 (.int .i64 (-1))).set 11 (.int .u32 925353388)), u.oneCell' = true from by decide)
  go_enter Tryd.func43, Tryd.ntmps43
  go_wp2_with (first
    | (with_reducible refine wpList_alloc_row rfl 45 rfl zeroS zeroS_zero ?_)
    | (with_reducible refine wpList_buildL rfl 45 _ rfl #[(0, .int .i64 (-1)), (11, .int .u32 925353388)] (by kernel_rfl) ((zeroS.set 0 (.int .i64 (-1))).set 11 (.int .u32 925353388)) (run_lay _ rfl HB.out) ?_)
    | (with_reducible refine wpList_store_agg rfl 45 _ _ rfl w.heap.size 0 ((zeroS.set 0 (.int .i64 (-1))).set 11 (.int .u32 925353388)) rfl rfl 45 zeroS (heap_alloc_new _ _) (by kernel_rfl) (by decide) HO.out ?_; have hX := laid_row w 45 zeroS ((zeroS.set 0 (.int .i64 (-1))).set 11 (.int .u32 925353388)) (by kernel_rfl); generalize World.setRow _ _ _ = w1 at hX ⊢; have HX := Lib.hid hX; clear hX; refine halt ?_))
  unfold Halt
  go_wp2
  refine bodyPost_ret (results_cell_row rfl _ _ w.heap.size 45 _ (0, 0) _ rfl HX.out.2.1 Tryd.underlying45 rfl (by kernel_rfl)) rfl ⟨_, rfl, ?_, HX.out.1⟩
  exact (((zeroS_rep _ _).set0 (v := .int .i64 (-1)) (x := (-1)) ⟨rfl, by unfold I64; omega⟩).set11 (v := .int .u32 925353388) (x := 925353388) ⟨rfl, by decide⟩)

set_option maxRecDepth 100000 in
set_option maxHeartbeats 4000000 in
theorem def_none (op : Int) (hn : leftD op = settingD0) (e17 : (op == 17) = false) (e18 : (op == 18) = false) (e19 : (op == 19) = false) (e27 : (op == 27) = false) (e53 : (op == 53) = false) (e58 : (op == 58) = false) (e62 : (op == 62) = false) (e63 : (op == 63) = false) (e65 : (op == 65) = false) (e66 : (op == 66) = false) (e67 : (op == 67) = false) (e68 : (op == 68) = false) (e69 : (op == 69) = false) (e70 : (op == 70) = false) (e71 : (op == 71) = false) (e72 : (op == 72) = false) (e74 : (op == 74) = false) (e75 : (op == 75) = false) (e79 : (op == 79) = false) (e80 : (op == 80) = false) : DefSaid op := fun w => by
  rw [hn]
  have HB := Lib.hid (show laySem Tryd.prog (Instr.build 45 #[]) w.heap.size = some (.agg zeroS.toArray, []) from by kernel_rfl)
  have HO := Lib.hid (show ∀ u ∈ zeroS, u.oneCell' = true from by decide)
  go_enter Tryd.func43, Tryd.ntmps43
  go_wp2_with (first
    | (with_reducible refine wpList_alloc_row rfl 45 rfl zeroS zeroS_zero ?_)
    | (with_reducible refine wpList_buildL rfl 45 _ rfl #[] (by kernel_rfl) zeroS (run_lay _ rfl HB.out) ?_)
    | (with_reducible refine wpList_store_agg rfl 45 _ _ rfl w.heap.size 0 zeroS rfl rfl 45 zeroS (heap_alloc_new _ _) (by kernel_rfl) (by decide) HO.out ?_; have hX := laid_row w 45 zeroS zeroS (by kernel_rfl); generalize World.setRow _ _ _ = w1 at hX ⊢; have HX := Lib.hid hX; clear hX; refine halt ?_))
  unfold Halt
  go_wp2
  refine bodyPost_ret (results_cell_row rfl _ _ w.heap.size 45 _ (0, 0) _ rfl HX.out.2.1 Tryd.underlying45 rfl (by kernel_rfl)) rfl ⟨_, rfl, ?_, HX.out.1⟩
  exact zeroS_rep _ _

def tenD62 (n : Nat) : List Value := [.int .i64 1, .slice (some ⟨n + 1, 0, none⟩) 1 1, .slice (some ⟨n + 2, 0, none⟩) 1 1, .slice none 0 0, .slice none 0 0]
def curD62 (n : Nat) : List Value := zeroS.take 31 ++ tenD62 n ++ zeroS.drop (31 + (tenD62 n).length)
theorem curD62_len (n : Nat) : (curD62 n).length = 36 := rfl
theorem curD62_one (n : Nat) : ∀ u ∈ curD62 n, u.oneCell' = true := by
  intro u hu
  unfold curD62 at hu
  rw [List.mem_append, List.mem_append] at hu
  rcases hu with (hu | hu) | hu
  · exact zeroS_one u (List.mem_of_mem_take hu)
  · simp [tenD62] at hu
    rcases hu with rfl | rfl | rfl | rfl <;> rfl
  · exact zeroS_one u (List.mem_of_mem_drop hu)
theorem d62_build (n m : Nat) : laySem Tryd.prog (Instr.build 45 #[(31, .agg #[.int .i64 1, .slice (some ⟨n + 1, 0, none⟩) 1 1, .slice (some ⟨n + 2, 0, none⟩) 1 1, .slice none 0 0, .slice none 0 0])]) m = some (.agg (curD62 n).toArray, []) := by kernel_rfl
/-- Where the case stands when the tensor is laid. -/
structure Def62 (w W : World) : Prop where
  below : Below w.heap.size w W
  s0 : W.heap[w.heap.size]? = some (.cells zeroS.toArray 45 (0, 0))
  d2 : W.heap[w.heap.size + 1]? = some (.cells #[.int .i64 1] 3 (0, 0))
  d3 : W.heap[w.heap.size + 2]? = some (.cells #[.int .u32 0] 38 (0, 0))
theorem def62_at (w : World) : Def62 w (((w.alloc (.cells zeroS.toArray 45)).alloc (.cells #[.int .i64 1] 3)).alloc (.cells #[.int .u32 0] 38)) := by
  have e1 := heap_alloc_new w (.cells zeroS.toArray 45)
  have e2 := heap_alloc_new (w.alloc (.cells zeroS.toArray 45)) (.cells #[.int .i64 1] 3)
  have e3 := heap_alloc_new ((w.alloc (.cells zeroS.toArray 45)).alloc (.cells #[.int .i64 1] 3)) (.cells #[.int .u32 0] 38)
  simp only [World.size_alloc] at e2 e3
  exact ⟨(((Below.refl _ w).alloc (Nat.le_refl _) _).alloc (by simp) _).alloc (by simp; omega) _, by rw [Below.heap_alloc _ _ _ (by simp; omega), Below.heap_alloc _ _ _ (by simp)]; exact e1, by rw [Below.heap_alloc _ _ _ (by simp)]; exact e2, e3⟩
theorem def62_end {w W : World} (h : Def62 w W) (b : Array Value) : Below w.heap.size w (W.setRow w.heap.size b) ∧ SettingDAt (W.setRow w.heap.size b) (fresh w.heap.size (W.setRow w.heap.size b).heap.size) (curD62 w.heap.size) (leftD 62) := by
  refine ⟨below_setRow' h.below (Nat.le_refl _) _, ?_⟩
  have hlt : w.heap.size + 2 < W.heap.size := (Array.getElem?_eq_some_iff.1 h.d3).1
  have d2 : (W.setRow w.heap.size b).heap[w.heap.size + 1]? = _ := (heap_setRow_other _ _ _ _ (by omega)).trans h.d2
  have d3 : (W.setRow w.heap.size b).heap[w.heap.size + 2]? = _ := (heap_setRow_other _ _ _ _ (by omega)).trans h.d3
  have hT : rep (W.setRow w.heap.size b) (fresh w.heap.size (W.setRow w.heap.size b).heap.size) (tenD62 w.heap.size) (⟨1, [1], [0], [], []⟩ : TensorD) := by
    refine shut_TensorD (a := ⟨1, [1], [0], [], []⟩) i64_1 (c1 := [.slice (some ⟨w.heap.size + 1, 0, none⟩) 1 1]) ?_ (c2 := [.slice (some ⟨w.heap.size + 2, 0, none⟩) 1 1]) ?_ (c3 := [.slice none 0 0]) (rep_nil _ _) (c4 := [.slice none 0 0]) (rep_nil _ _)
    · exact rep_single (by decide) d2 ⟨rfl, i64_1⟩ (by rw [size_setRow]; exact fresh_blk (by omega) (by omega))
    · exact rep_single (by decide) d3 ⟨rfl, by decide⟩ (by rw [size_setRow]; exact fresh_blk (by omega) (by omega))
  exact (zeroS_rep _ _).setValue hT
theorem def62_res {w W : World} (h : Def62 w W) : (W.setRow w.heap.size (zeroS.take 0 ++ curD62 w.heap.size ++ zeroS.drop (0 + (curD62 w.heap.size).length)).toArray).heap[w.heap.size]? = some (.cells (curD62 w.heap.size).toArray 45 (0, 0)) := by
  have e : zeroS.take 0 ++ curD62 w.heap.size ++ zeroS.drop (0 + (curD62 w.heap.size).length) = curD62 w.heap.size := by rw [List.take_zero, List.nil_append, Nat.zero_add, List.drop_of_length_le (by rw [curD62_len, zeroS_len]; exact Nat.le_refl _), List.append_nil]
  rw [e]
  exact heap_setRow _ _ _ _ _ h.s0
set_option maxRecDepth 100000 in
set_option maxHeartbeats 4000000 in
theorem def_62 : DefSaid 62 := fun w => by
  have HB := Lib.hid (fun m => d62_build w.heap.size m)
  have HO := Lib.hid (curD62_one w.heap.size)
  have HD := Lib.hid (def62_at w)
  go_enter Tryd.func43, Tryd.ntmps43
  go_wp2_with (first
    | (with_reducible refine wpList_alloc_row rfl 45 rfl zeroS zeroS_zero ?_)
    | (with_reducible refine wpList_buildL rfl 45 _ rfl #[(31, .agg #[.int .i64 1, .slice (some ⟨w.heap.size + 1, 0, none⟩) 1 1, .slice (some ⟨w.heap.size + 2, 0, none⟩) 1 1, .slice none 0 0, .slice none 0 0])] (by kernel_rfl) (curD62 w.heap.size) (run_lay _ rfl (HB.out _)) ?_)
    | (with_reducible refine at_store 45 _ _ rfl ?_; refine halt ?_))
  unfold Halt
  have hD := HD.out
  generalize World.alloc _ _ = W1 at hD ⊢
  have H := Lib.hid hD
  clear hD HD
  refine wpList_store_agg rfl 45 _ _ rfl w.heap.size 0 (curD62 w.heap.size) rfl rfl 45 zeroS H.out.s0 (by rw [curD62_len]; kernel_rfl) (by rw [curD62_len]; decide) (curD62_one _) ?_
  go_wp2
  refine bodyPost_ret (results_cell_row rfl _ _ w.heap.size 45 _ (0, 0) _ rfl (def62_res H.out) Tryd.underlying45 rfl (by kernel_rfl)) rfl ⟨_, rfl, ?_, ?_⟩
  · exact (def62_end H.out _).2
  · exact (def62_end H.out _).1

theorem defR_any (op : Int) : DefSaid op := by
  by_cases e17 : op = 17
  · subst e17; exact def_17
  by_cases e18 : op = 18
  · subst e18; exact def_18
  by_cases e19 : op = 19
  · subst e19; exact def_19
  by_cases e27 : op = 27
  · subst e27; exact def_27
  by_cases e53 : op = 53
  · subst e53; exact def_53
  by_cases e58 : op = 58
  · subst e58; exact def_58
  by_cases e62 : op = 62
  · subst e62; exact def_62
  by_cases e63 : op = 63
  · subst e63; exact def_63
  by_cases e65 : op = 65
  · subst e65; exact def_65
  by_cases e66 : op = 66
  · subst e66; exact def_66
  by_cases e67 : op = 67
  · subst e67; exact def_67
  by_cases e68 : op = 68
  · subst e68; exact def_68
  by_cases e69 : op = 69
  · subst e69; exact def_69
  by_cases e70 : op = 70
  · subst e70; exact def_70
  by_cases e71 : op = 71
  · subst e71; exact def_71
  by_cases e72 : op = 72
  · subst e72; exact def_72
  by_cases e74 : op = 74
  · subst e74; exact def_74
  by_cases e75 : op = 75
  · subst e75; exact def_75
  by_cases e79 : op = 79
  · subst e79; exact def_79
  by_cases e80 : op = 80
  · subst e80; exact def_80
  refine def_none op ?_ (by simpa using e17) (by simpa using e18) (by simpa using e19) (by simpa using e27) (by simpa using e53) (by simpa using e58) (by simpa using e62) (by simpa using e63) (by simpa using e65) (by simpa using e66) (by simpa using e67) (by simpa using e68) (by simpa using e69) (by simpa using e70) (by simpa using e71) (by simpa using e72) (by simpa using e74) (by simpa using e75) (by simpa using e79) (by simpa using e80)
  unfold leftD
  simp only [e17, e18, e19, e27, e53, e58, e62, e63, e65, e66, e67, e68, e69, e70, e71, e72, e74, e75, e79, e80, if_false, or_self]

end Go.Proofs.YtgbkhcmbmffljaaDoor
