/-
  A part of the proofs of chapter 08: the operator's setting without attributes. No condition.
-/
import Derived.Test.YtgbkhcmbmffljaaDoorPOpsR
set_option linter.unusedSimpArgs false
namespace Go.Proofs.YtgbkhcmbmffljaaDoor
open Go.RowKit
open Rep (rep)
set_option maxRecDepth 100000 in
set_option maxHeartbeats 4000000 in
theorem left_72 (w:World):Calls Tryd.prog 38 #[.int .i64 72] w fun e w'=>∃ cs:List Value,e = .returned (.agg cs.toArray)∧SettingDAt w' (fresh w.heap.size w'.heap.size) cs (leftD 72)∧Below w.heap.size w w':=by
 go_enter Tryd.func38,Tryd.ntmps38
 go_wp2_with (first
  |(with_reducible refine wpList_alloc_row rfl 45 rfl zeroS zeroS_zero ?_)
  |(with_reducible refine wpList_build0 rfl 45 rfl zeroS (zeroS_build _) ?_)
  |(with_reducible refine wpList_store_agg rfl 45 _ _ rfl _ 0 zeroS rfl rfl 45 zeroS (heap_alloc_new _ _) (by kernel_rfl) (by decide) zeroS_one ?_;have hL:=left_at' w;generalize World.setRow _ _ _ = W1 at hL ⊢;have HL:=Lib.hid hL;clear hL)
  |(with_reducible refine wpList_store_field rfl 3 _ _ rfl (w.heap.size + 1) 0 (.int .i64 (-1)) rfl rfl (by kernel_rfl) (by kernel_rfl) 45 zeroS HL.out.s1.at' (by rw [HL.out.s1.len];decide) ?_)
  |(with_reducible refine wpList_load_agg rfl 45 _ rfl _ _ _ rfl (zeroS.set 0 (.int .i64 (-1))) Tryd.underlying45 rfl (by rw [List.length_set,zeroS_len];kernel_rfl) (At.of_row (HL.out.s1.row (zeroS.set 0 (.int .i64 (-1))) (by simp [zeroS_len])).at') ?_)
  |(with_reducible refine wpList_store_agg rfl 45 _ _ rfl w.heap.size 0 (zeroS.set 0 (.int .i64 (-1))) rfl rfl 45 zeroS (HL.out.other _) (by rw [List.length_set,zeroS_len];kernel_rfl) (by rw [List.length_set,zeroS_len];decide) (one_set zeroS_one 0 (by kernel_rfl)) ?_))
 refine bodyPost_ret (results_cell_row rfl _ _ w.heap.size 45 _ (0,0) _ rfl (HL.out.res (zeroS.set 0 (.int .i64 (-1))) (by rw [List.length_set,zeroS_len])) Tryd.underlying45 rfl (by kernel_rfl)) rfl ⟨_,rfl,?_,HL.out.end' _ _⟩
 exact (zeroS_rep _ _).set0 (v:=.int .i64 (-1)) (x:=(-1)) ⟨rfl,by unfold I64;omega⟩
set_option maxRecDepth 100000 in
set_option maxHeartbeats 4000000 in
theorem left_75 (w:World):Calls Tryd.prog 38 #[.int .i64 75] w fun e w'=>∃ cs:List Value,e = .returned (.agg cs.toArray)∧SettingDAt w' (fresh w.heap.size w'.heap.size) cs (leftD 75)∧Below w.heap.size w w':=by
 go_enter Tryd.func38,Tryd.ntmps38
 go_wp2_with (first
  |(with_reducible refine wpList_alloc_row rfl 45 rfl zeroS zeroS_zero ?_)
  |(with_reducible refine wpList_build0 rfl 45 rfl zeroS (zeroS_build _) ?_)
  |(with_reducible refine wpList_store_agg rfl 45 _ _ rfl _ 0 zeroS rfl rfl 45 zeroS (heap_alloc_new _ _) (by kernel_rfl) (by decide) zeroS_one ?_;have hL:=left_at' w;generalize World.setRow _ _ _ = W1 at hL ⊢;have HL:=Lib.hid hL;clear hL)
  |(with_reducible refine wpList_store_field rfl 3 _ _ rfl (w.heap.size + 1) 19 (.int .i64 1) rfl rfl (by kernel_rfl) (by kernel_rfl) 45 zeroS HL.out.s1.at' (by rw [HL.out.s1.len];decide) ?_)
  |(with_reducible refine wpList_load_agg rfl 45 _ rfl _ _ _ rfl (zeroS.set 19 (.int .i64 1)) Tryd.underlying45 rfl (by rw [List.length_set,zeroS_len];kernel_rfl) (At.of_row (HL.out.s1.row (zeroS.set 19 (.int .i64 1)) (by simp [zeroS_len])).at') ?_)
  |(with_reducible refine wpList_store_agg rfl 45 _ _ rfl w.heap.size 0 (zeroS.set 19 (.int .i64 1)) rfl rfl 45 zeroS (HL.out.other _) (by rw [List.length_set,zeroS_len];kernel_rfl) (by rw [List.length_set,zeroS_len];decide) (one_set zeroS_one 19 (by kernel_rfl)) ?_))
 refine bodyPost_ret (results_cell_row rfl _ _ w.heap.size 45 _ (0,0) _ rfl (HL.out.res (zeroS.set 19 (.int .i64 1)) (by rw [List.length_set,zeroS_len])) Tryd.underlying45 rfl (by kernel_rfl)) rfl ⟨_,rfl,?_,HL.out.end' _ _⟩
 exact (zeroS_rep _ _).set19 (v:=.int .i64 1) (x:=1) ⟨rfl,i64_1⟩
set_option maxRecDepth 100000 in
set_option maxHeartbeats 4000000 in
theorem left_79 (w:World):Calls Tryd.prog 38 #[.int .i64 79] w fun e w'=>∃ cs:List Value,e = .returned (.agg cs.toArray)∧SettingDAt w' (fresh w.heap.size w'.heap.size) cs (leftD 79)∧Below w.heap.size w w':=by
 go_enter Tryd.func38,Tryd.ntmps38
 go_wp2_with (first
  |(with_reducible refine wpList_alloc_row rfl 45 rfl zeroS zeroS_zero ?_)
  |(with_reducible refine wpList_build0 rfl 45 rfl zeroS (zeroS_build _) ?_)
  |(with_reducible refine wpList_store_agg rfl 45 _ _ rfl _ 0 zeroS rfl rfl 45 zeroS (heap_alloc_new _ _) (by kernel_rfl) (by decide) zeroS_one ?_;have hL:=left_at' w;generalize World.setRow _ _ _ = W1 at hL ⊢;have HL:=Lib.hid hL;clear hL)
  |(with_reducible refine wpList_store_field rfl 38 _ _ rfl (w.heap.size + 1) 11 (.int .u32 925353388) rfl rfl (by kernel_rfl) (by kernel_rfl) 45 zeroS HL.out.s1.at' (by rw [HL.out.s1.len];decide) ?_)
  |(with_reducible refine wpList_load_agg rfl 45 _ rfl _ _ _ rfl (zeroS.set 11 (.int .u32 925353388)) Tryd.underlying45 rfl (by rw [List.length_set,zeroS_len];kernel_rfl) (At.of_row (HL.out.s1.row (zeroS.set 11 (.int .u32 925353388)) (by simp [zeroS_len])).at') ?_)
  |(with_reducible refine wpList_store_agg rfl 45 _ _ rfl w.heap.size 0 (zeroS.set 11 (.int .u32 925353388)) rfl rfl 45 zeroS (HL.out.other _) (by rw [List.length_set,zeroS_len];kernel_rfl) (by rw [List.length_set,zeroS_len];decide) (one_set zeroS_one 11 (by kernel_rfl)) ?_))
 refine bodyPost_ret (results_cell_row rfl _ _ w.heap.size 45 _ (0,0) _ rfl (HL.out.res (zeroS.set 11 (.int .u32 925353388)) (by rw [List.length_set,zeroS_len])) Tryd.underlying45 rfl (by kernel_rfl)) rfl ⟨_,rfl,?_,HL.out.end' _ _⟩
 exact (zeroS_rep _ _).set11 (v:=.int .u32 925353388) (x:=925353388) ⟨rfl,by decide⟩
set_option maxRecDepth 100000 in
set_option maxHeartbeats 4000000 in
theorem left_80 (w:World):Calls Tryd.prog 38 #[.int .i64 80] w fun e w'=>∃ cs:List Value,e = .returned (.agg cs.toArray)∧SettingDAt w' (fresh w.heap.size w'.heap.size) cs (leftD 80)∧Below w.heap.size w w':=by
 go_enter Tryd.func38,Tryd.ntmps38
 go_wp2_with (first
  |(with_reducible refine wpList_alloc_row rfl 45 rfl zeroS zeroS_zero ?_)
  |(with_reducible refine wpList_build0 rfl 45 rfl zeroS (zeroS_build _) ?_)
  |(with_reducible refine wpList_store_agg rfl 45 _ _ rfl _ 0 zeroS rfl rfl 45 zeroS (heap_alloc_new _ _) (by kernel_rfl) (by decide) zeroS_one ?_;have hL:=left_at' w;generalize World.setRow _ _ _ = W1 at hL ⊢;have HL:=Lib.hid hL;clear hL)
  |(with_reducible refine wpList_store_field rfl 38 _ _ rfl (w.heap.size + 1) 11 (.int .u32 925353388) rfl rfl (by kernel_rfl) (by kernel_rfl) 45 zeroS HL.out.s1.at' (by rw [HL.out.s1.len];decide) ?_)
  |(with_reducible refine wpList_store_field rfl 3 _ _ rfl (w.heap.size + 1) 0 (.int .i64 (-1)) rfl rfl (by kernel_rfl) (by kernel_rfl) 45 (zeroS.set 11 (.int .u32 925353388)) (HL.out.s1.row (zeroS.set 11 (.int .u32 925353388)) (by simp [zeroS_len])).at' (by rw [(HL.out.s1.row (zeroS.set 11 (.int .u32 925353388)) (by simp [zeroS_len])).len];decide) ?_)
  |(with_reducible refine wpList_load_agg rfl 45 _ rfl _ _ _ rfl ((zeroS.set 11 (.int .u32 925353388)).set 0 (.int .i64 (-1))) Tryd.underlying45 rfl (by rw [List.length_set,List.length_set,zeroS_len];kernel_rfl) (At.of_row ((HL.out.s1.row (zeroS.set 11 (.int .u32 925353388)) (by simp [zeroS_len])).row ((zeroS.set 11 (.int .u32 925353388)).set 0 (.int .i64 (-1))) (by simp [zeroS_len])).at') ?_)
  |(with_reducible refine wpList_store_agg rfl 45 _ _ rfl w.heap.size 0 ((zeroS.set 11 (.int .u32 925353388)).set 0 (.int .i64 (-1))) rfl rfl 45 zeroS (by rw [row_row];exact HL.out.other _) (by rw [List.length_set,List.length_set,zeroS_len];kernel_rfl) (by rw [List.length_set,List.length_set,zeroS_len];decide) (one_set (one_set zeroS_one 11 (by kernel_rfl)) 0 (by kernel_rfl)) ?_))
 rw [row_row]
 refine bodyPost_ret (results_cell_row rfl _ _ w.heap.size 45 _ (0,0) _ rfl (HL.out.res ((zeroS.set 11 (.int .u32 925353388)).set 0 (.int .i64 (-1))) (by rw [List.length_set,List.length_set,zeroS_len])) Tryd.underlying45 rfl (by kernel_rfl)) rfl ⟨_,rfl,?_,HL.out.end' _ _⟩
 exact ((zeroS_rep _ _).set11 (v:=.int .u32 925353388) (x:=925353388) ⟨rfl,by decide⟩).set0 (v:=.int .i64 (-1)) (x:=(-1)) ⟨rfl,by unfold I64;omega⟩
end Go.Proofs.YtgbkhcmbmffljaaDoor
