/-
  A part of the proofs of chapter 08: the operator's setting without attributes. No condition.
-/
import Derived.Test.YtgbkhcmbmffljaaDoorPOpsR
set_option linter.unusedSimpArgs false
namespace Go.Proofs.YtgbkhcmbmffljaaDoor
open Go.RowKit
open Rep (rep)
set_option maxRecDepth 100000 in
set_option maxHeartbeats 4000000 in
theorem left_17 (w:World):Calls Tryd.prog 38 #[.int .i64 17] w fun e w'=>∃ cs:List Value,e = .returned (.agg cs.toArray)∧SettingDAt w' (fresh w.heap.size w'.heap.size) cs (leftD 17)∧Below w.heap.size w w':=by
 go_enter Tryd.func38,Tryd.ntmps38
 go_wp2_with (first
  |(with_reducible refine wpList_alloc_row rfl 45 rfl zeroS zeroS_zero ?_)
  |(with_reducible refine wpList_build0 rfl 45 rfl zeroS (zeroS_build _) ?_)
  |(with_reducible refine wpList_store_agg rfl 45 _ _ rfl _ 0 zeroS rfl rfl 45 zeroS (heap_alloc_new _ _) (by kernel_rfl) (by decide) zeroS_one ?_;have hL:=left_at' w;generalize World.setRow _ _ _ = W1 at hL ⊢;have HL:=Lib.hid hL;clear hL)
  |(with_reducible refine wpList_store_field rfl 38 _ _ rfl (w.heap.size + 1) 9 (.int .u32 1008981770) rfl rfl (by kernel_rfl) (by kernel_rfl) 45 zeroS HL.out.s1.at' (by rw [HL.out.s1.len];decide) ?_)
  |(with_reducible refine wpList_load_agg rfl 45 _ rfl _ _ _ rfl (zeroS.set 9 (.int .u32 1008981770)) Tryd.underlying45 rfl (by rw [List.length_set,zeroS_len];kernel_rfl) (At.of_row (HL.out.s1.row (zeroS.set 9 (.int .u32 1008981770)) (by simp [zeroS_len])).at') ?_)
  |(with_reducible refine wpList_store_agg rfl 45 _ _ rfl w.heap.size 0 (zeroS.set 9 (.int .u32 1008981770)) rfl rfl 45 zeroS (HL.out.other _) (by rw [List.length_set,zeroS_len];kernel_rfl) (by rw [List.length_set,zeroS_len];decide) (one_set zeroS_one 9 (by kernel_rfl)) ?_))
 refine bodyPost_ret (results_cell_row rfl _ _ w.heap.size 45 _ (0,0) _ rfl (HL.out.res (zeroS.set 9 (.int .u32 1008981770)) (by rw [List.length_set,zeroS_len])) Tryd.underlying45 rfl (by kernel_rfl)) rfl ⟨_,rfl,?_,HL.out.end' _ _⟩
 exact (zeroS_rep _ _).set9 (v:=.int .u32 1008981770) (x:=1008981770) ⟨rfl,by decide⟩
set_option maxRecDepth 100000 in
set_option maxHeartbeats 4000000 in
theorem left_18 (w:World):Calls Tryd.prog 38 #[.int .i64 18] w fun e w'=>∃ cs:List Value,e = .returned (.agg cs.toArray)∧SettingDAt w' (fresh w.heap.size w'.heap.size) cs (leftD 18)∧Below w.heap.size w w':=by
 go_enter Tryd.func38,Tryd.ntmps38
 go_wp2_with (first
  |(with_reducible refine wpList_alloc_row rfl 45 rfl zeroS zeroS_zero ?_)
  |(with_reducible refine wpList_build0 rfl 45 rfl zeroS (zeroS_build _) ?_)
  |(with_reducible refine wpList_store_agg rfl 45 _ _ rfl _ 0 zeroS rfl rfl 45 zeroS (heap_alloc_new _ _) (by kernel_rfl) (by decide) zeroS_one ?_;have hL:=left_at' w;generalize World.setRow _ _ _ = W1 at hL ⊢;have HL:=Lib.hid hL;clear hL)
  |(with_reducible refine wpList_store_field rfl 38 _ _ rfl (w.heap.size + 1) 9 (.int .u32 1065353216) rfl rfl (by kernel_rfl) (by kernel_rfl) 45 zeroS HL.out.s1.at' (by rw [HL.out.s1.len];decide) ?_)
  |(with_reducible refine wpList_load_agg rfl 45 _ rfl _ _ _ rfl (zeroS.set 9 (.int .u32 1065353216)) Tryd.underlying45 rfl (by rw [List.length_set,zeroS_len];kernel_rfl) (At.of_row (HL.out.s1.row (zeroS.set 9 (.int .u32 1065353216)) (by simp [zeroS_len])).at') ?_)
  |(with_reducible refine wpList_store_agg rfl 45 _ _ rfl w.heap.size 0 (zeroS.set 9 (.int .u32 1065353216)) rfl rfl 45 zeroS (HL.out.other _) (by rw [List.length_set,zeroS_len];kernel_rfl) (by rw [List.length_set,zeroS_len];decide) (one_set zeroS_one 9 (by kernel_rfl)) ?_))
 refine bodyPost_ret (results_cell_row rfl _ _ w.heap.size 45 _ (0,0) _ rfl (HL.out.res (zeroS.set 9 (.int .u32 1065353216)) (by rw [List.length_set,zeroS_len])) Tryd.underlying45 rfl (by kernel_rfl)) rfl ⟨_,rfl,?_,HL.out.end' _ _⟩
 exact (zeroS_rep _ _).set9 (v:=.int .u32 1065353216) (x:=1065353216) ⟨rfl,by decide⟩
set_option maxRecDepth 100000 in
set_option maxHeartbeats 4000000 in
theorem left_19 (w:World):Calls Tryd.prog 38 #[.int .i64 19] w fun e w'=>∃ cs:List Value,e = .returned (.agg cs.toArray)∧SettingDAt w' (fresh w.heap.size w'.heap.size) cs (leftD 19)∧Below w.heap.size w w':=by
 go_enter Tryd.func38,Tryd.ntmps38
 go_wp2_with (first
  |(with_reducible refine wpList_alloc_row rfl 45 rfl zeroS zeroS_zero ?_)
  |(with_reducible refine wpList_build0 rfl 45 rfl zeroS (zeroS_build _) ?_)
  |(with_reducible refine wpList_store_agg rfl 45 _ _ rfl _ 0 zeroS rfl rfl 45 zeroS (heap_alloc_new _ _) (by kernel_rfl) (by decide) zeroS_one ?_;have hL:=left_at' w;generalize World.setRow _ _ _ = W1 at hL ⊢;have HL:=Lib.hid hL;clear hL)
  |(with_reducible refine wpList_store_field rfl 38 _ _ rfl (w.heap.size + 1) 9 (.int .u32 1045220557) rfl rfl (by kernel_rfl) (by kernel_rfl) 45 zeroS HL.out.s1.at' (by rw [HL.out.s1.len];decide) ?_)
  |(with_reducible refine wpList_store_field rfl 38 _ _ rfl (w.heap.size + 1) 10 (.int .u32 1056964608) rfl rfl (by kernel_rfl) (by kernel_rfl) 45 (zeroS.set 9 (.int .u32 1045220557)) (HL.out.s1.row (zeroS.set 9 (.int .u32 1045220557)) (by simp [zeroS_len])).at' (by rw [(HL.out.s1.row (zeroS.set 9 (.int .u32 1045220557)) (by simp [zeroS_len])).len];decide) ?_)
  |(with_reducible refine wpList_load_agg rfl 45 _ rfl _ _ _ rfl ((zeroS.set 9 (.int .u32 1045220557)).set 10 (.int .u32 1056964608)) Tryd.underlying45 rfl (by rw [List.length_set,List.length_set,zeroS_len];kernel_rfl) (At.of_row ((HL.out.s1.row (zeroS.set 9 (.int .u32 1045220557)) (by simp [zeroS_len])).row ((zeroS.set 9 (.int .u32 1045220557)).set 10 (.int .u32 1056964608)) (by simp [zeroS_len])).at') ?_)
  |(with_reducible refine wpList_store_agg rfl 45 _ _ rfl w.heap.size 0 ((zeroS.set 9 (.int .u32 1045220557)).set 10 (.int .u32 1056964608)) rfl rfl 45 zeroS (by rw [row_row];exact HL.out.other _) (by rw [List.length_set,List.length_set,zeroS_len];kernel_rfl) (by rw [List.length_set,List.length_set,zeroS_len];decide) (one_set (one_set zeroS_one 9 (by kernel_rfl)) 10 (by kernel_rfl)) ?_))
 rw [row_row]
 refine bodyPost_ret (results_cell_row rfl _ _ w.heap.size 45 _ (0,0) _ rfl (HL.out.res ((zeroS.set 9 (.int .u32 1045220557)).set 10 (.int .u32 1056964608)) (by rw [List.length_set,List.length_set,zeroS_len])) Tryd.underlying45 rfl (by kernel_rfl)) rfl ⟨_,rfl,?_,HL.out.end' _ _⟩
 exact ((zeroS_rep _ _).set9 (v:=.int .u32 1045220557) (x:=1045220557) ⟨rfl,by decide⟩).set10 (v:=.int .u32 1056964608) (x:=1056964608) ⟨rfl,by decide⟩
set_option maxRecDepth 100000 in
set_option maxHeartbeats 4000000 in
theorem left_27 (w:World):Calls Tryd.prog 38 #[.int .i64 27] w fun e w'=>∃ cs:List Value,e = .returned (.agg cs.toArray)∧SettingDAt w' (fresh w.heap.size w'.heap.size) cs (leftD 27)∧Below w.heap.size w w':=by
 go_enter Tryd.func38,Tryd.ntmps38
 go_wp2_with (first
  |(with_reducible refine wpList_alloc_row rfl 45 rfl zeroS zeroS_zero ?_)
  |(with_reducible refine wpList_build0 rfl 45 rfl zeroS (zeroS_build _) ?_)
  |(with_reducible refine wpList_store_agg rfl 45 _ _ rfl _ 0 zeroS rfl rfl 45 zeroS (heap_alloc_new _ _) (by kernel_rfl) (by decide) zeroS_one ?_;have hL:=left_at' w;generalize World.setRow _ _ _ = W1 at hL ⊢;have HL:=Lib.hid hL;clear hL)
  |(with_reducible refine wpList_store_field rfl 4 _ _ rfl (w.heap.size + 1) 12 (.bool true) rfl rfl (by kernel_rfl) (by kernel_rfl) 45 zeroS HL.out.s1.at' (by rw [HL.out.s1.len];decide) ?_)
  |(with_reducible refine wpList_store_field rfl 4 _ _ rfl (w.heap.size + 1) 13 (.bool true) rfl rfl (by kernel_rfl) (by kernel_rfl) 45 (zeroS.set 12 (.bool true)) (HL.out.s1.row (zeroS.set 12 (.bool true)) (by simp [zeroS_len])).at' (by rw [(HL.out.s1.row (zeroS.set 12 (.bool true)) (by simp [zeroS_len])).len];decide) ?_)
  |(with_reducible refine wpList_load_agg rfl 45 _ rfl _ _ _ rfl ((zeroS.set 12 (.bool true)).set 13 (.bool true)) Tryd.underlying45 rfl (by rw [List.length_set,List.length_set,zeroS_len];kernel_rfl) (At.of_row ((HL.out.s1.row (zeroS.set 12 (.bool true)) (by simp [zeroS_len])).row ((zeroS.set 12 (.bool true)).set 13 (.bool true)) (by simp [zeroS_len])).at') ?_)
  |(with_reducible refine wpList_store_agg rfl 45 _ _ rfl w.heap.size 0 ((zeroS.set 12 (.bool true)).set 13 (.bool true)) rfl rfl 45 zeroS (by rw [row_row];exact HL.out.other _) (by rw [List.length_set,List.length_set,zeroS_len];kernel_rfl) (by rw [List.length_set,List.length_set,zeroS_len];decide) (one_set (one_set zeroS_one 12 (by kernel_rfl)) 13 (by kernel_rfl)) ?_))
 rw [row_row]
 refine bodyPost_ret (results_cell_row rfl _ _ w.heap.size 45 _ (0,0) _ rfl (HL.out.res ((zeroS.set 12 (.bool true)).set 13 (.bool true)) (by rw [List.length_set,List.length_set,zeroS_len])) Tryd.underlying45 rfl (by kernel_rfl)) rfl ⟨_,rfl,?_,HL.out.end' _ _⟩
 exact ((zeroS_rep _ _).set12 (v:=.bool true) (x:=true) rfl).set13 (v:=.bool true) (x:=true) rfl
set_option maxRecDepth 100000 in
set_option maxHeartbeats 4000000 in
theorem left_53 (w:World):Calls Tryd.prog 38 #[.int .i64 53] w fun e w'=>∃ cs:List Value,e = .returned (.agg cs.toArray)∧SettingDAt w' (fresh w.heap.size w'.heap.size) cs (leftD 53)∧Below w.heap.size w w':=by
 go_enter Tryd.func38,Tryd.ntmps38
 go_wp2_with (first
  |(with_reducible refine wpList_alloc_row rfl 45 rfl zeroS zeroS_zero ?_)
  |(with_reducible refine wpList_build0 rfl 45 rfl zeroS (zeroS_build _) ?_)
  |(with_reducible refine wpList_store_agg rfl 45 _ _ rfl _ 0 zeroS rfl rfl 45 zeroS (heap_alloc_new _ _) (by kernel_rfl) (by decide) zeroS_one ?_;have hL:=left_at' w;generalize World.setRow _ _ _ = W1 at hL ⊢;have HL:=Lib.hid hL;clear hL)
  |(with_reducible refine wpList_store_field rfl 3 _ _ rfl (w.heap.size + 1) 16 (.int .i64 1) rfl rfl (by kernel_rfl) (by kernel_rfl) 45 zeroS HL.out.s1.at' (by rw [HL.out.s1.len];decide) ?_)
  |(with_reducible refine wpList_load_agg rfl 45 _ rfl _ _ _ rfl (zeroS.set 16 (.int .i64 1)) Tryd.underlying45 rfl (by rw [List.length_set,zeroS_len];kernel_rfl) (At.of_row (HL.out.s1.row (zeroS.set 16 (.int .i64 1)) (by simp [zeroS_len])).at') ?_)
  |(with_reducible refine wpList_store_agg rfl 45 _ _ rfl w.heap.size 0 (zeroS.set 16 (.int .i64 1)) rfl rfl 45 zeroS (HL.out.other _) (by rw [List.length_set,zeroS_len];kernel_rfl) (by rw [List.length_set,zeroS_len];decide) (one_set zeroS_one 16 (by kernel_rfl)) ?_))
 refine bodyPost_ret (results_cell_row rfl _ _ w.heap.size 45 _ (0,0) _ rfl (HL.out.res (zeroS.set 16 (.int .i64 1)) (by rw [List.length_set,zeroS_len])) Tryd.underlying45 rfl (by kernel_rfl)) rfl ⟨_,rfl,?_,HL.out.end' _ _⟩
 exact (zeroS_rep _ _).set16 (v:=.int .i64 1) (x:=1) ⟨rfl,i64_1⟩
end Go.Proofs.YtgbkhcmbmffljaaDoor
