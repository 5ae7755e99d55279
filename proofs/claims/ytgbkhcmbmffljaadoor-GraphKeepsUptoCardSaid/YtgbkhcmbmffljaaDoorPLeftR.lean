/-
  A part of the proofs of chapter 08: the operator's setting without attributes. No condition.
-/
import Derived.Test.YtgbkhcmbmffljaaDoorPOpsR
set_option linter.unusedSimpArgs false
namespace Go.Proofs.YtgbkhcmbmffljaaDoor
open Go.RowKit
open Rep (rep)
set_option maxRecDepth 100000 in
set_option maxHeartbeats 4000000 in
theorem left_67 (w:World):Calls Tryd.prog 38 #[.int .i64 67] w fun e w'=>∃ cs:List Value,e = .returned (.agg cs.toArray)∧SettingDAt w' (fresh w.heap.size w'.heap.size) cs (leftD 67)∧Below w.heap.size w w':=by
 go_enter Tryd.func38,Tryd.ntmps38
 go_wp2_with (first
  |(with_reducible refine wpList_alloc_row rfl 45 rfl zeroS zeroS_zero ?_)
  |(with_reducible refine wpList_build0 rfl 45 rfl zeroS (zeroS_build _) ?_)
  |(with_reducible refine wpList_store_agg rfl 45 _ _ rfl _ 0 zeroS rfl rfl 45 zeroS (heap_alloc_new _ _) (by kernel_rfl) (by decide) zeroS_one ?_;have hL:=left_at' w;generalize World.setRow _ _ _ = W1 at hL ⊢;have HL:=Lib.hid hL;clear hL)
  |(with_reducible refine wpList_store_field rfl 4 _ _ rfl (w.heap.size + 1) 3 (.bool true) rfl rfl (by kernel_rfl) (by kernel_rfl) 45 zeroS HL.out.s1.at' (by rw [HL.out.s1.len];decide) ?_)
  |(with_reducible refine wpList_load_agg rfl 45 _ rfl _ _ _ rfl (zeroS.set 3 (.bool true)) Tryd.underlying45 rfl (by rw [List.length_set,zeroS_len];kernel_rfl) (At.of_row (HL.out.s1.row (zeroS.set 3 (.bool true)) (by simp [zeroS_len])).at') ?_)
  |(with_reducible refine wpList_store_agg rfl 45 _ _ rfl w.heap.size 0 (zeroS.set 3 (.bool true)) rfl rfl 45 zeroS (HL.out.other _) (by rw [List.length_set,zeroS_len];kernel_rfl) (by rw [List.length_set,zeroS_len];decide) (one_set zeroS_one 3 (by kernel_rfl)) ?_))
 refine bodyPost_ret (results_cell_row rfl _ _ w.heap.size 45 _ (0,0) _ rfl (HL.out.res (zeroS.set 3 (.bool true)) (by rw [List.length_set,zeroS_len])) Tryd.underlying45 rfl (by kernel_rfl)) rfl ⟨_,rfl,?_,HL.out.end' _ _⟩
 exact (zeroS_rep _ _).set3 (v:=.bool true) (x:=true) rfl
set_option maxRecDepth 100000 in
set_option maxHeartbeats 4000000 in
theorem left_68 (w:World):Calls Tryd.prog 38 #[.int .i64 68] w fun e w'=>∃ cs:List Value,e = .returned (.agg cs.toArray)∧SettingDAt w' (fresh w.heap.size w'.heap.size) cs (leftD 68)∧Below w.heap.size w w':=by
 go_enter Tryd.func38,Tryd.ntmps38
 go_wp2_with (first
  |(with_reducible refine wpList_alloc_row rfl 45 rfl zeroS zeroS_zero ?_)
  |(with_reducible refine wpList_build0 rfl 45 rfl zeroS (zeroS_build _) ?_)
  |(with_reducible refine wpList_store_agg rfl 45 _ _ rfl _ 0 zeroS rfl rfl 45 zeroS (heap_alloc_new _ _) (by kernel_rfl) (by decide) zeroS_one ?_;have hL:=left_at' w;generalize World.setRow _ _ _ = W1 at hL ⊢;have HL:=Lib.hid hL;clear hL)
  |(with_reducible refine wpList_store_field rfl 4 _ _ rfl (w.heap.size + 1) 3 (.bool true) rfl rfl (by kernel_rfl) (by kernel_rfl) 45 zeroS HL.out.s1.at' (by rw [HL.out.s1.len];decide) ?_)
  |(with_reducible refine wpList_load_agg rfl 45 _ rfl _ _ _ rfl (zeroS.set 3 (.bool true)) Tryd.underlying45 rfl (by rw [List.length_set,zeroS_len];kernel_rfl) (At.of_row (HL.out.s1.row (zeroS.set 3 (.bool true)) (by simp [zeroS_len])).at') ?_)
  |(with_reducible refine wpList_store_agg rfl 45 _ _ rfl w.heap.size 0 (zeroS.set 3 (.bool true)) rfl rfl 45 zeroS (HL.out.other _) (by rw [List.length_set,zeroS_len];kernel_rfl) (by rw [List.length_set,zeroS_len];decide) (one_set zeroS_one 3 (by kernel_rfl)) ?_))
 refine bodyPost_ret (results_cell_row rfl _ _ w.heap.size 45 _ (0,0) _ rfl (HL.out.res (zeroS.set 3 (.bool true)) (by rw [List.length_set,zeroS_len])) Tryd.underlying45 rfl (by kernel_rfl)) rfl ⟨_,rfl,?_,HL.out.end' _ _⟩
 exact (zeroS_rep _ _).set3 (v:=.bool true) (x:=true) rfl
set_option maxRecDepth 100000 in
set_option maxHeartbeats 4000000 in
theorem left_69 (w:World):Calls Tryd.prog 38 #[.int .i64 69] w fun e w'=>∃ cs:List Value,e = .returned (.agg cs.toArray)∧SettingDAt w' (fresh w.heap.size w'.heap.size) cs (leftD 69)∧Below w.heap.size w w':=by
 go_enter Tryd.func38,Tryd.ntmps38
 go_wp2_with (first
  |(with_reducible refine wpList_alloc_row rfl 45 rfl zeroS zeroS_zero ?_)
  |(with_reducible refine wpList_build0 rfl 45 rfl zeroS (zeroS_build _) ?_)
  |(with_reducible refine wpList_store_agg rfl 45 _ _ rfl _ 0 zeroS rfl rfl 45 zeroS (heap_alloc_new _ _) (by kernel_rfl) (by decide) zeroS_one ?_;have hL:=left_at' w;generalize World.setRow _ _ _ = W1 at hL ⊢;have HL:=Lib.hid hL;clear hL)
  |(with_reducible refine wpList_store_field rfl 4 _ _ rfl (w.heap.size + 1) 3 (.bool true) rfl rfl (by kernel_rfl) (by kernel_rfl) 45 zeroS HL.out.s1.at' (by rw [HL.out.s1.len];decide) ?_)
  |(with_reducible refine wpList_load_agg rfl 45 _ rfl _ _ _ rfl (zeroS.set 3 (.bool true)) Tryd.underlying45 rfl (by rw [List.length_set,zeroS_len];kernel_rfl) (At.of_row (HL.out.s1.row (zeroS.set 3 (.bool true)) (by simp [zeroS_len])).at') ?_)
  |(with_reducible refine wpList_store_agg rfl 45 _ _ rfl w.heap.size 0 (zeroS.set 3 (.bool true)) rfl rfl 45 zeroS (HL.out.other _) (by rw [List.length_set,zeroS_len];kernel_rfl) (by rw [List.length_set,zeroS_len];decide) (one_set zeroS_one 3 (by kernel_rfl)) ?_))
 refine bodyPost_ret (results_cell_row rfl _ _ w.heap.size 45 _ (0,0) _ rfl (HL.out.res (zeroS.set 3 (.bool true)) (by rw [List.length_set,zeroS_len])) Tryd.underlying45 rfl (by kernel_rfl)) rfl ⟨_,rfl,?_,HL.out.end' _ _⟩
 exact (zeroS_rep _ _).set3 (v:=.bool true) (x:=true) rfl
set_option maxRecDepth 100000 in
set_option maxHeartbeats 4000000 in
theorem left_70 (w:World):Calls Tryd.prog 38 #[.int .i64 70] w fun e w'=>∃ cs:List Value,e = .returned (.agg cs.toArray)∧SettingDAt w' (fresh w.heap.size w'.heap.size) cs (leftD 70)∧Below w.heap.size w w':=by
 go_enter Tryd.func38,Tryd.ntmps38
 go_wp2_with (first
  |(with_reducible refine wpList_alloc_row rfl 45 rfl zeroS zeroS_zero ?_)
  |(with_reducible refine wpList_build0 rfl 45 rfl zeroS (zeroS_build _) ?_)
  |(with_reducible refine wpList_store_agg rfl 45 _ _ rfl _ 0 zeroS rfl rfl 45 zeroS (heap_alloc_new _ _) (by kernel_rfl) (by decide) zeroS_one ?_;have hL:=left_at' w;generalize World.setRow _ _ _ = W1 at hL ⊢;have HL:=Lib.hid hL;clear hL)
  |(with_reducible refine wpList_store_field rfl 4 _ _ rfl (w.heap.size + 1) 3 (.bool true) rfl rfl (by kernel_rfl) (by kernel_rfl) 45 zeroS HL.out.s1.at' (by rw [HL.out.s1.len];decide) ?_)
  |(with_reducible refine wpList_load_agg rfl 45 _ rfl _ _ _ rfl (zeroS.set 3 (.bool true)) Tryd.underlying45 rfl (by rw [List.length_set,zeroS_len];kernel_rfl) (At.of_row (HL.out.s1.row (zeroS.set 3 (.bool true)) (by simp [zeroS_len])).at') ?_)
  |(with_reducible refine wpList_store_agg rfl 45 _ _ rfl w.heap.size 0 (zeroS.set 3 (.bool true)) rfl rfl 45 zeroS (HL.out.other _) (by rw [List.length_set,zeroS_len];kernel_rfl) (by rw [List.length_set,zeroS_len];decide) (one_set zeroS_one 3 (by kernel_rfl)) ?_))
 refine bodyPost_ret (results_cell_row rfl _ _ w.heap.size 45 _ (0,0) _ rfl (HL.out.res (zeroS.set 3 (.bool true)) (by rw [List.length_set,zeroS_len])) Tryd.underlying45 rfl (by kernel_rfl)) rfl ⟨_,rfl,?_,HL.out.end' _ _⟩
 exact (zeroS_rep _ _).set3 (v:=.bool true) (x:=true) rfl
set_option maxRecDepth 100000 in
set_option maxHeartbeats 4000000 in
theorem left_71 (w:World):Calls Tryd.prog 38 #[.int .i64 71] w fun e w'=>∃ cs:List Value,e = .returned (.agg cs.toArray)∧SettingDAt w' (fresh w.heap.size w'.heap.size) cs (leftD 71)∧Below w.heap.size w w':=by
 go_enter Tryd.func38,Tryd.ntmps38
 go_wp2_with (first
  |(with_reducible refine wpList_alloc_row rfl 45 rfl zeroS zeroS_zero ?_)
  |(with_reducible refine wpList_build0 rfl 45 rfl zeroS (zeroS_build _) ?_)
  |(with_reducible refine wpList_store_agg rfl 45 _ _ rfl _ 0 zeroS rfl rfl 45 zeroS (heap_alloc_new _ _) (by kernel_rfl) (by decide) zeroS_one ?_;have hL:=left_at' w;generalize World.setRow _ _ _ = W1 at hL ⊢;have HL:=Lib.hid hL;clear hL)
  |(with_reducible refine wpList_store_field rfl 4 _ _ rfl (w.heap.size + 1) 3 (.bool true) rfl rfl (by kernel_rfl) (by kernel_rfl) 45 zeroS HL.out.s1.at' (by rw [HL.out.s1.len];decide) ?_)
  |(with_reducible refine wpList_load_agg rfl 45 _ rfl _ _ _ rfl (zeroS.set 3 (.bool true)) Tryd.underlying45 rfl (by rw [List.length_set,zeroS_len];kernel_rfl) (At.of_row (HL.out.s1.row (zeroS.set 3 (.bool true)) (by simp [zeroS_len])).at') ?_)
  |(with_reducible refine wpList_store_agg rfl 45 _ _ rfl w.heap.size 0 (zeroS.set 3 (.bool true)) rfl rfl 45 zeroS (HL.out.other _) (by rw [List.length_set,zeroS_len];kernel_rfl) (by rw [List.length_set,zeroS_len];decide) (one_set zeroS_one 3 (by kernel_rfl)) ?_))
 refine bodyPost_ret (results_cell_row rfl _ _ w.heap.size 45 _ (0,0) _ rfl (HL.out.res (zeroS.set 3 (.bool true)) (by rw [List.length_set,zeroS_len])) Tryd.underlying45 rfl (by kernel_rfl)) rfl ⟨_,rfl,?_,HL.out.end' _ _⟩
 exact (zeroS_rep _ _).set3 (v:=.bool true) (x:=true) rfl
end Go.Proofs.YtgbkhcmbmffljaaDoor
