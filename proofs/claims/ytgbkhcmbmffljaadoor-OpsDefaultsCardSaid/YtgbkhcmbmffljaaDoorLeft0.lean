/-
  A part of the proofs of chapter 08: the operator's setting without attributes. No condition.
-/
import Derived.Test.YtgbkhcmbmffljaaDoorOpsR
set_option linter.unusedSimpArgs false
namespace Go.Proofs.YtgbkhcmbmffljaaDoor
open Go.RowKit
open Rep (rep)

theorem LeftAt.res0 {w W : World} (h : LeftAt w W) : (W.setRow w.heap.size (zeroS.take 0 ++ zeroS ++ zeroS.drop (0 + zeroS.length)).toArray).heap[w.heap.size]? = some (.cells zeroS.toArray 45 (0, 0)) := heap_setRow _ _ _ _ _ h.s0.at'
theorem LeftAt.end0 {w W : World} (h : LeftAt w W) (b : Array Value) : Below w.heap.size w (W.setRow w.heap.size b) := below_setRow' h.below (Nat.le_refl _) _
set_option maxRecDepth 100000 in
set_option maxHeartbeats 4000000 in
theorem left_none (op : Int) (hn : leftD op = settingD0) (e17 : (op == 17) = false) (e19 : (op == 19) = false) (e74 : (op == 74) = false) (e18 : (op == 18) = false) (e27 : (op == 27) = false) (e53 : (op == 53) = false) (e63 : (op == 63) = false) (e58 : (op == 58) = false) (e62 : (op == 62) = false) (e65 : (op == 65) = false) (e66 : (op == 66) = false) (e67 : (op == 67) = false) (e68 : (op == 68) = false) (e69 : (op == 69) = false) (e70 : (op == 70) = false) (e71 : (op == 71) = false) (e75 : (op == 75) = false) (e80 : (op == 80) = false) (e72 : (op == 72) = false) (e79 : (op == 79) = false) (w : World) : Calls Tryd.prog 38 #[.int .i64 op] w fun e w' => ∃ cs : List Value, e = .returned (.agg cs.toArray) ∧ SettingDAt w' (fresh w.heap.size w'.heap.size) cs (leftD op) ∧ Below w.heap.size w w' := by
  go_enter Tryd.func38, Tryd.ntmps38
  go_wp2_with (first
    | (with_reducible refine wpList_alloc_row rfl 45 rfl zeroS zeroS_zero ?_)
    | (with_reducible refine wpList_build0 rfl 45 rfl zeroS (zeroS_build _) ?_)
    | (with_reducible refine wpList_store_agg rfl 45 _ _ rfl _ 0 zeroS rfl rfl 45 zeroS (heap_alloc_new _ _) (by kernel_rfl) (by decide) zeroS_one ?_; have hL := left_at' w; generalize World.setRow _ _ _ = W1 at hL ⊢; have HL := Lib.hid hL; clear hL)
    | (with_reducible refine wpList_load_agg rfl 45 _ rfl _ _ _ rfl zeroS Tryd.underlying45 rfl (by kernel_rfl) (At.of_row HL.out.s1.at') ?_)
    | (with_reducible refine wpList_store_agg rfl 45 _ _ rfl w.heap.size 0 zeroS rfl rfl 45 zeroS HL.out.s0.at' (by kernel_rfl) (by decide) zeroS_one ?_))
  refine bodyPost_ret (results_cell_row rfl _ _ w.heap.size 45 _ (0, 0) _ rfl (HL.out.res0) Tryd.underlying45 rfl (by kernel_rfl)) rfl ⟨_, rfl, ?_, HL.out.end0 _⟩
  rw [hn]; exact zeroS_rep _ _


end Go.Proofs.YtgbkhcmbmffljaaDoor
