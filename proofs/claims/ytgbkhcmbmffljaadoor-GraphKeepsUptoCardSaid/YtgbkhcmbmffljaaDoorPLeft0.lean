/-
  A part of the proofs of chapter 08: the operator's setting without attributes. No condition.
  A part of the proofs of chapter 08: the operator's setting without attributes. No condition.
-/
import Derived.Test.YtgbkhcmbmffljaaDoorPOpsR
import Derived.Test.YtgbkhcmbmffljaaDoorPOpsQ
set_option linter.unusedSimpArgs false
namespace Go.Proofs.YtgbkhcmbmffljaaDoor
open Go.RowKit
open Rep (rep)
theorem LeftAt.res0 {w W:World} (h:LeftAt w W):(W.setRow w.heap.size (zeroS.take 0++zeroS++zeroS.drop (0 + zeroS.length)).toArray).heap[w.heap.size]? = some (.cells zeroS.toArray 45 (0,0)):=heap_setRow _ _ _ _ _ h.s0.at'
theorem LeftAt.end0 {w W:World} (h:LeftAt w W) (b:Array Value):Below w.heap.size w (W.setRow w.heap.size b):=below_setRow' h.below (Nat.le_refl _) _
set_option maxRecDepth 100000 in
set_option maxHeartbeats 4000000 in
theorem left_none (op:Int) (hn:leftD op = settingD0) (e17:(op == 17) = false) (e19:(op == 19) = false) (e74:(op == 74) = false) (e18:(op == 18) = false) (e27:(op == 27) = false) (e53:(op == 53) = false) (e63:(op == 63) = false) (e58:(op == 58) = false) (e62:(op == 62) = false) (e65:(op == 65) = false) (e66:(op == 66) = false) (e67:(op == 67) = false) (e68:(op == 68) = false) (e69:(op == 69) = false) (e70:(op == 70) = false) (e71:(op == 71) = false) (e75:(op == 75) = false) (e80:(op == 80) = false) (e72:(op == 72) = false) (e79:(op == 79) = false) (w:World):Calls Tryd.prog 38 #[.int .i64 op] w fun e w'=>∃ cs:List Value,e = .returned (.agg cs.toArray)∧SettingDAt w' (fresh w.heap.size w'.heap.size) cs (leftD op)∧Below w.heap.size w w':=by
 go_enter Tryd.func38,Tryd.ntmps38
 go_wp2_with (first
  |(with_reducible refine wpList_alloc_row rfl 45 rfl zeroS zeroS_zero ?_)
  |(with_reducible refine wpList_build0 rfl 45 rfl zeroS (zeroS_build _) ?_)
  |(with_reducible refine wpList_store_agg rfl 45 _ _ rfl _ 0 zeroS rfl rfl 45 zeroS (heap_alloc_new _ _) (by kernel_rfl) (by decide) zeroS_one ?_;have hL:=left_at' w;generalize World.setRow _ _ _ = W1 at hL ⊢;have HL:=Lib.hid hL;clear hL)
  |(with_reducible refine wpList_load_agg rfl 45 _ rfl _ _ _ rfl zeroS Tryd.underlying45 rfl (by kernel_rfl) (At.of_row HL.out.s1.at') ?_)
  |(with_reducible refine wpList_store_agg rfl 45 _ _ rfl w.heap.size 0 zeroS rfl rfl 45 zeroS HL.out.s0.at' (by kernel_rfl) (by decide) zeroS_one ?_))
 refine bodyPost_ret (results_cell_row rfl _ _ w.heap.size 45 _ (0,0) _ rfl (HL.out.res0) Tryd.underlying45 rfl (by kernel_rfl)) rfl ⟨_,rfl,?_,HL.out.end0 _⟩
 rw [hn];exact zeroS_rep _ _
end Go.Proofs.YtgbkhcmbmffljaaDoor
set_option linter.unusedSimpArgs false
namespace Go.Proofs.YtgbkhcmbmffljaaDoor
open Go.RowKit
open Rep (rep)
def ten62 (n:Nat):List Value:=[.int .i64 1,.slice (some ⟨n + 2,0,none⟩) 1 1,.slice (some ⟨n + 3,0,none⟩) 1 1,.slice none 0 0,.slice none 0 0]
def cur62 (n:Nat):List Value:=zeroS.take 31++ten62 n++zeroS.drop (31 + (ten62 n).length)
theorem cur62_len (n:Nat):(cur62 n).length = 36:=rfl
theorem cur62_one (n:Nat):∀ u ∈ cur62 n,u.oneCell' = true:=by
 intro u hu
 unfold cur62 at hu
 rw [List.mem_append,List.mem_append] at hu
 rcases hu with (hu | hu) | hu
 ·exact zeroS_one u (List.mem_of_mem_take hu)
 ·simp [ten62] at hu
  rcases hu with rfl | rfl | rfl | rfl <;> rfl
 ·exact zeroS_one u (List.mem_of_mem_drop hu)
structure Left62 (w W:World):Prop where
 below:Below w.heap.size w W
 s0:Sets W w.heap.size zeroS
 s1:Sets W (w.heap.size + 1) (cur62 w.heap.size)
 d2:W.heap[w.heap.size + 2]? = some (.cells #[.int .i64 1] 3 (0,0))
 d3:W.heap[w.heap.size + 3]? = some (.cells #[.int .u32 0] 38 (0,0))
theorem left62_at {w W1:World} (h:LeftAt w W1) (hz:W1.heap.size = w.heap.size + 2) :
  Left62 w (((W1.alloc (.cells #[.int .i64 1] 3)).alloc (.cells #[.int .u32 0] 38)).setRow (w.heap.size + 1) (cur62 w.heap.size).toArray):=by
 have h3:=(h.alloc (.cells #[.int .i64 1] 3)).alloc (.cells #[.int .u32 0] 38)
 have e2:=heap_alloc_new W1 (.cells #[.int .i64 1] 3)
 have e3:=heap_alloc_new (W1.alloc (.cells #[.int .i64 1] 3)) (.cells #[.int .u32 0] 38)
 rw [World.size_alloc,hz] at e3
 rw [hz] at e2
 refine ⟨below_setRow' h3.below (by omega) _,⟨(heap_setRow_other _ _ _ _ (by omega)).trans h3.s0.at',rfl⟩,h3.s1.row _ (cur62_len _),?_,?_⟩
 ·rw [heap_setRow_other _ _ _ _ (by omega),Below.heap_alloc _ _ _ (by simp;omega)]
  exact e2
 ·rw [heap_setRow_other _ _ _ _ (by omega)]
  exact e3
theorem left62_end {w W:World} (h:Left62 w W) (b:Array Value):Below w.heap.size w (W.setRow w.heap.size b)∧SettingDAt (W.setRow w.heap.size b) (fresh w.heap.size (W.setRow w.heap.size b).heap.size) (cur62 w.heap.size) (leftD 62):=by
 refine ⟨below_setRow' h.below (Nat.le_refl _) _,?_⟩
 have hlt:w.heap.size + 3 < W.heap.size:=(Array.getElem?_eq_some_iff.1 h.d3).1
 have d2:(W.setRow w.heap.size b).heap[w.heap.size + 2]? = _:=(heap_setRow_other _ _ _ _ (by omega)).trans h.d2
 have d3:(W.setRow w.heap.size b).heap[w.heap.size + 3]? = _:=(heap_setRow_other _ _ _ _ (by omega)).trans h.d3
 have hT:rep (W.setRow w.heap.size b) (fresh w.heap.size (W.setRow w.heap.size b).heap.size) (ten62 w.heap.size) (⟨1,[1],[0],[],[]⟩:TensorD):=by
  refine shut_TensorD (a:=⟨1,[1],[0],[],[]⟩) i64_1 (c1:=[.slice (some ⟨w.heap.size + 2,0,none⟩) 1 1]) ?_ (c2:=[.slice (some ⟨w.heap.size + 3,0,none⟩) 1 1]) ?_ (c3:=[.slice none 0 0]) (rep_nil _ _) (c4:=[.slice none 0 0]) (rep_nil _ _)
  ·exact rep_single (by decide) d2 ⟨rfl,i64_1⟩ (by rw [size_setRow];exact fresh_blk (by omega) (by omega))
  ·exact rep_single (by decide) d3 ⟨rfl,by decide⟩ (by rw [size_setRow];exact fresh_blk (by omega) (by omega))
 exact (zeroS_rep _ _).setValue hT
theorem left62_res {w W:World} (h:Left62 w W):(W.setRow w.heap.size (zeroS.take 0++cur62 w.heap.size++zeroS.drop (0 + (cur62 w.heap.size).length)).toArray).heap[w.heap.size]? = some (.cells (cur62 w.heap.size).toArray 45 (0,0)):=by
 have e:zeroS.take 0++cur62 w.heap.size++zeroS.drop (0 + (cur62 w.heap.size).length) = cur62 w.heap.size:=by rw [List.take_zero,List.nil_append,Nat.zero_add,List.drop_of_length_le (by rw [cur62_len,zeroS_len];exact Nat.le_refl _),List.append_nil]
 rw [e]
 exact heap_setRow _ _ _ _ _ h.s0.at'
theorem left_size (w:World):(((w.alloc (.cells zeroS.toArray 45)).alloc (.cells zeroS.toArray 45)).setRow (w.alloc (.cells zeroS.toArray 45)).heap.size (zeroS.take 0++zeroS++zeroS.drop (0 + zeroS.length)).toArray).heap.size = w.heap.size + 2:=by rw [size_setRow];simp
set_option maxRecDepth 100000 in
set_option maxHeartbeats 4000000 in
theorem left_62 (w:World):Calls Tryd.prog 38 #[.int .i64 62] w fun e w'=>∃ cs:List Value,e = .returned (.agg cs.toArray)∧SettingDAt w' (fresh w.heap.size w'.heap.size) cs (leftD 62)∧Below w.heap.size w w':=by
 go_enter Tryd.func38,Tryd.ntmps38
 go_wp2_with (first
  |(with_reducible refine wpList_alloc_row rfl 45 rfl zeroS zeroS_zero ?_)
  |(with_reducible refine wpList_build0 rfl 45 rfl zeroS (zeroS_build _) ?_)
  |(with_reducible refine wpList_store_agg rfl 45 _ _ rfl _ 0 zeroS rfl rfl 45 zeroS (heap_alloc_new _ _) (by kernel_rfl) (by decide) zeroS_one ?_;have hL:=left_at' w;have hz:=left_size w;generalize World.setRow _ _ _ = W1 at hL hz ⊢;have HL:=Lib.hid hL;have HL3:=Lib.hid ((hL.alloc (.cells #[.int .i64 1] 3)).alloc (.cells #[.int .u32 0] 38));have HZ:=Lib.hid hz;clear hL)
  |(with_reducible refine at_store 43 _ _ rfl ?_;refine halt ?_))
 unfold Halt
 refine wpList_store_agg rfl 43 _ _ rfl (w.heap.size + 1) 31 (ten62 w.heap.size) rfl rfl 45 zeroS HL3.out.s1.at' (by kernel_rfl) (by show 31 + 5 ≤ 36;decide) (by intro u hu;simp [ten62] at hu;rcases hu with rfl | rfl | rfl | rfl <;> rfl) ?_
 have h62:=left62_at HL.out HZ.out
 change wpList _ _ _ _ _ (((W1.alloc (.cells #[.int .i64 1] 3)).alloc (.cells #[.int .u32 0] 38)).setRow (w.heap.size + 1) (cur62 w.heap.size).toArray)
 generalize World.setRow _ _ _ = W2 at h62 ⊢
 have H:=Lib.hid h62
 clear h62 hz
 go_wp2_with (first
  |(with_reducible refine wpList_load_agg rfl 45 _ rfl _ _ _ rfl (cur62 w.heap.size) Tryd.underlying45 rfl (by rw [cur62_len];kernel_rfl) (At.of_row H.out.s1.at') ?_)
  |(with_reducible refine wpList_store_agg rfl 45 _ _ rfl w.heap.size 0 (cur62 w.heap.size) rfl rfl 45 zeroS H.out.s0.at' (by rw [cur62_len];kernel_rfl) (by rw [cur62_len];decide) (cur62_one _) ?_))
 refine bodyPost_ret (results_cell_row rfl _ _ w.heap.size 45 _ (0,0) _ rfl (left62_res H.out) Tryd.underlying45 rfl (by kernel_rfl)) rfl ⟨_,rfl,?_,?_⟩
 ·exact (left62_end H.out _).2
 ·exact (left62_end H.out _).1
end Go.Proofs.YtgbkhcmbmffljaaDoor
