/-
  Chapter 09: onnx.Check's parts: count, known, tensor, none.
-/
import Derived.Laws.StructEq
import Derived.Test.YtgbkhcmbmffljaaDoorPGCheck
import Derived.Test.YtgbkhcmbmffljaaDoorPGNode
import Derived.Test.YtgbkhcmbmffljaaDoorPRefE
set_option linter.unusedSimpArgs false
set_option linter.unusedVariables false
namespace Go.Proofs.YtgbkhcmbmffljaaDoor
open Go.RowKit
open Rep (rep)
theorem size_err (l:List Int):(sizeD l).2 = 0 ∨ (sizeD l).2 = 1 ∨ (sizeD l).2 = 8:=by
 unfold sizeD
 split
 ·exact .inr (.inl rfl)
 ·split
  ·exact .inr (.inr rfl)
  ·split
   ·exact .inl rfl
   ·split
    ·exact .inr (.inr rfl)
    ·exact .inl rfl
set_option maxRecDepth 100000 in
set_option maxHeartbeats 4000000 in
theorem count_w (l:List Int) (v:Value) (g B:Nat) (b m:Bool) (w:World) (hB:B ≤ g) (hr:rep w (old B) [v] l) (hw:Wr w g b m) :
  Calls Tryd.prog 114 #[.pointer (some ⟨g,0,none⟩),v] w fun e w'=>e = .returned (.tuple #[.int .i64 (sizeD l).1,.bool (decide ((sizeD l).2 = 0))])∧Wr w' g (b || decide ((sizeD l).2 = 1)) (m || decide ((sizeD l).2 = 8))∧w.grownBy w' (some g):=by
 have hgs:=hw.lt
 have HW:=Lib.hid hw
 have HR:=Lib.hid (Rep.more hr (old_le (by omega)):rep w (old w.heap.size) [v] l)
 have HE:=Lib.hid (size_err l)
 obtain ⟨A,c,xs,rfl,-,-,-,-,-⟩:=open_slice hr
 clear hr hw
 go_enter Tryd.func114,Tryd.ntmps114
 go_wp2_with fail
 refine (size_any l _ w HR.out).mono ?_
 obtain ⟨n,hn⟩:∃ n,(sizeD l).1 = n:=⟨_,rfl⟩
 obtain ⟨er,her⟩:∃ er,(sizeD l).2 = er:=⟨_,rfl⟩
 have he:=HE.out
 rw [her] at he
 rw [hn,her]
 have HN:=Lib.hid (And.intro hn her)
 rintro e w1 ⟨rfl,rfl⟩
 have cB:=HW.out.cells.1
 have cM:=HW.out.cells.2
 clear HE hn her
 rcases he with rfl | rfl | rfl
 ·cases b with
  | true =>
   cases m with
   | true =>
    go_wp2_with (with_reducible refine wpList_store_field rfl 4 _ _ rfl g 0 (.bool true) rfl rfl (by kernel_rfl) (by kernel_rfl) 133 [.bool true,.bool true] HW.out.at' (of_decide_eq_true (by kernel_rfl)) ?_;have hK:=HW.out.setB true;have hG:=grown_row w g (List.set [.bool true,.bool true] 0 (.bool true)).toArray;generalize World.setRow _ _ _ = w2 at hK hG ⊢;have HKw2:=Lib.hid (And.intro hK hG);clear hK hG;have cBw2:=HKw2.out.1.cells.1;have cMw2:=HKw2.out.1.cells.2;refine halt ?_)
    unfold Halt
    clear cB cM
    go_wp2_with (with_reducible refine wpList_store_field rfl 4 _ _ rfl g 1 (.bool true) rfl rfl (by kernel_rfl) (by kernel_rfl) 133 [.bool true,.bool true] HKw2.out.1.at' (of_decide_eq_true (by kernel_rfl)) ?_;have hK:=HKw2.out.1.setM true;have hG:=grown_row w2 g (List.set [.bool true,.bool true] 1 (.bool true)).toArray;generalize World.setRow _ _ _ = w3 at hK hG ⊢;have HKw3:=Lib.hid (And.intro hK hG);clear hK hG;have cBw3:=HKw3.out.1.cells.1;have cMw3:=HKw3.out.1.cells.2;refine halt ?_)
    unfold Halt
    go_wp2
    exact bodyPost_ret (v:=.tuple #[.int .i64 n,.bool (decide ((0:Int) = 0))]) (by simp [results,Tryd.results114,go_sem]) rfl ⟨by rw [HN.out.1,HN.out.2],by rw [HN.out.2];exact HKw3.out.1,grown_trans HKw2.out.2 HKw3.out.2⟩
   | false =>
    go_wp2_with (with_reducible refine wpList_store_field rfl 4 _ _ rfl g 0 (.bool true) rfl rfl (by kernel_rfl) (by kernel_rfl) 133 [.bool true,.bool false] HW.out.at' (of_decide_eq_true (by kernel_rfl)) ?_;have hK:=HW.out.setB true;have hG:=grown_row w g (List.set [.bool true,.bool false] 0 (.bool true)).toArray;generalize World.setRow _ _ _ = w2 at hK hG ⊢;have HKw2:=Lib.hid (And.intro hK hG);clear hK hG;have cBw2:=HKw2.out.1.cells.1;have cMw2:=HKw2.out.1.cells.2;refine halt ?_)
    unfold Halt
    clear cB cM
    go_wp2_with (with_reducible refine wpList_store_field rfl 4 _ _ rfl g 1 (.bool false) rfl rfl (by kernel_rfl) (by kernel_rfl) 133 [.bool true,.bool false] HKw2.out.1.at' (of_decide_eq_true (by kernel_rfl)) ?_;have hK:=HKw2.out.1.setM false;have hG:=grown_row w2 g (List.set [.bool true,.bool false] 1 (.bool false)).toArray;generalize World.setRow _ _ _ = w3 at hK hG ⊢;have HKw3:=Lib.hid (And.intro hK hG);clear hK hG;have cBw3:=HKw3.out.1.cells.1;have cMw3:=HKw3.out.1.cells.2;refine halt ?_)
    unfold Halt
    go_wp2
    exact bodyPost_ret (v:=.tuple #[.int .i64 n,.bool (decide ((0:Int) = 0))]) (by simp [results,Tryd.results114,go_sem]) rfl ⟨by rw [HN.out.1,HN.out.2],by rw [HN.out.2];exact HKw3.out.1,grown_trans HKw2.out.2 HKw3.out.2⟩
  | false =>
   cases m with
   | true =>
    go_wp2_with (with_reducible refine wpList_store_field rfl 4 _ _ rfl g 0 (.bool false) rfl rfl (by kernel_rfl) (by kernel_rfl) 133 [.bool false,.bool true] HW.out.at' (of_decide_eq_true (by kernel_rfl)) ?_;have hK:=HW.out.setB false;have hG:=grown_row w g (List.set [.bool false,.bool true] 0 (.bool false)).toArray;generalize World.setRow _ _ _ = w2 at hK hG ⊢;have HKw2:=Lib.hid (And.intro hK hG);clear hK hG;have cBw2:=HKw2.out.1.cells.1;have cMw2:=HKw2.out.1.cells.2;refine halt ?_)
    unfold Halt
    clear cB cM
    go_wp2_with (with_reducible refine wpList_store_field rfl 4 _ _ rfl g 1 (.bool true) rfl rfl (by kernel_rfl) (by kernel_rfl) 133 [.bool false,.bool true] HKw2.out.1.at' (of_decide_eq_true (by kernel_rfl)) ?_;have hK:=HKw2.out.1.setM true;have hG:=grown_row w2 g (List.set [.bool false,.bool true] 1 (.bool true)).toArray;generalize World.setRow _ _ _ = w3 at hK hG ⊢;have HKw3:=Lib.hid (And.intro hK hG);clear hK hG;have cBw3:=HKw3.out.1.cells.1;have cMw3:=HKw3.out.1.cells.2;refine halt ?_)
    unfold Halt
    go_wp2
    exact bodyPost_ret (v:=.tuple #[.int .i64 n,.bool (decide ((0:Int) = 0))]) (by simp [results,Tryd.results114,go_sem]) rfl ⟨by rw [HN.out.1,HN.out.2],by rw [HN.out.2];exact HKw3.out.1,grown_trans HKw2.out.2 HKw3.out.2⟩
   | false =>
    go_wp2_with (with_reducible refine wpList_store_field rfl 4 _ _ rfl g 0 (.bool false) rfl rfl (by kernel_rfl) (by kernel_rfl) 133 [.bool false,.bool false] HW.out.at' (of_decide_eq_true (by kernel_rfl)) ?_;have hK:=HW.out.setB false;have hG:=grown_row w g (List.set [.bool false,.bool false] 0 (.bool false)).toArray;generalize World.setRow _ _ _ = w2 at hK hG ⊢;have HKw2:=Lib.hid (And.intro hK hG);clear hK hG;have cBw2:=HKw2.out.1.cells.1;have cMw2:=HKw2.out.1.cells.2;refine halt ?_)
    unfold Halt
    clear cB cM
    go_wp2_with (with_reducible refine wpList_store_field rfl 4 _ _ rfl g 1 (.bool false) rfl rfl (by kernel_rfl) (by kernel_rfl) 133 [.bool false,.bool false] HKw2.out.1.at' (of_decide_eq_true (by kernel_rfl)) ?_;have hK:=HKw2.out.1.setM false;have hG:=grown_row w2 g (List.set [.bool false,.bool false] 1 (.bool false)).toArray;generalize World.setRow _ _ _ = w3 at hK hG ⊢;have HKw3:=Lib.hid (And.intro hK hG);clear hK hG;have cBw3:=HKw3.out.1.cells.1;have cMw3:=HKw3.out.1.cells.2;refine halt ?_)
    unfold Halt
    go_wp2
    exact bodyPost_ret (v:=.tuple #[.int .i64 n,.bool (decide ((0:Int) = 0))]) (by simp [results,Tryd.results114,go_sem]) rfl ⟨by rw [HN.out.1,HN.out.2],by rw [HN.out.2];exact HKw3.out.1,grown_trans HKw2.out.2 HKw3.out.2⟩
 ·cases b with
  | true =>
   cases m with
   | true =>
    go_wp2_with (with_reducible refine wpList_store_field rfl 4 _ _ rfl g 0 (.bool true) rfl rfl (by kernel_rfl) (by kernel_rfl) 133 [.bool true,.bool true] HW.out.at' (of_decide_eq_true (by kernel_rfl)) ?_;have hK:=HW.out.setB true;have hG:=grown_row w g (List.set [.bool true,.bool true] 0 (.bool true)).toArray;generalize World.setRow _ _ _ = w2 at hK hG ⊢;have HKw2:=Lib.hid (And.intro hK hG);clear hK hG;have cBw2:=HKw2.out.1.cells.1;have cMw2:=HKw2.out.1.cells.2;refine halt ?_)
    unfold Halt
    clear cB cM
    go_wp2_with (with_reducible refine wpList_store_field rfl 4 _ _ rfl g 1 (.bool true) rfl rfl (by kernel_rfl) (by kernel_rfl) 133 [.bool true,.bool true] HKw2.out.1.at' (of_decide_eq_true (by kernel_rfl)) ?_;have hK:=HKw2.out.1.setM true;have hG:=grown_row w2 g (List.set [.bool true,.bool true] 1 (.bool true)).toArray;generalize World.setRow _ _ _ = w3 at hK hG ⊢;have HKw3:=Lib.hid (And.intro hK hG);clear hK hG;have cBw3:=HKw3.out.1.cells.1;have cMw3:=HKw3.out.1.cells.2;refine halt ?_)
    unfold Halt
    go_wp2
    exact bodyPost_ret (v:=.tuple #[.int .i64 n,.bool (decide ((1:Int) = 0))]) (by simp [results,Tryd.results114,go_sem]) rfl ⟨by rw [HN.out.1,HN.out.2],by rw [HN.out.2];exact HKw3.out.1,grown_trans HKw2.out.2 HKw3.out.2⟩
   | false =>
    go_wp2_with (with_reducible refine wpList_store_field rfl 4 _ _ rfl g 0 (.bool true) rfl rfl (by kernel_rfl) (by kernel_rfl) 133 [.bool true,.bool false] HW.out.at' (of_decide_eq_true (by kernel_rfl)) ?_;have hK:=HW.out.setB true;have hG:=grown_row w g (List.set [.bool true,.bool false] 0 (.bool true)).toArray;generalize World.setRow _ _ _ = w2 at hK hG ⊢;have HKw2:=Lib.hid (And.intro hK hG);clear hK hG;have cBw2:=HKw2.out.1.cells.1;have cMw2:=HKw2.out.1.cells.2;refine halt ?_)
    unfold Halt
    clear cB cM
    go_wp2_with (with_reducible refine wpList_store_field rfl 4 _ _ rfl g 1 (.bool false) rfl rfl (by kernel_rfl) (by kernel_rfl) 133 [.bool true,.bool false] HKw2.out.1.at' (of_decide_eq_true (by kernel_rfl)) ?_;have hK:=HKw2.out.1.setM false;have hG:=grown_row w2 g (List.set [.bool true,.bool false] 1 (.bool false)).toArray;generalize World.setRow _ _ _ = w3 at hK hG ⊢;have HKw3:=Lib.hid (And.intro hK hG);clear hK hG;have cBw3:=HKw3.out.1.cells.1;have cMw3:=HKw3.out.1.cells.2;refine halt ?_)
    unfold Halt
    go_wp2
    exact bodyPost_ret (v:=.tuple #[.int .i64 n,.bool (decide ((1:Int) = 0))]) (by simp [results,Tryd.results114,go_sem]) rfl ⟨by rw [HN.out.1,HN.out.2],by rw [HN.out.2];exact HKw3.out.1,grown_trans HKw2.out.2 HKw3.out.2⟩
  | false =>
   cases m with
   | true =>
    go_wp2_with (with_reducible refine wpList_store_field rfl 4 _ _ rfl g 0 (.bool true) rfl rfl (by kernel_rfl) (by kernel_rfl) 133 [.bool false,.bool true] HW.out.at' (of_decide_eq_true (by kernel_rfl)) ?_;have hK:=HW.out.setB true;have hG:=grown_row w g (List.set [.bool false,.bool true] 0 (.bool true)).toArray;generalize World.setRow _ _ _ = w2 at hK hG ⊢;have HKw2:=Lib.hid (And.intro hK hG);clear hK hG;have cBw2:=HKw2.out.1.cells.1;have cMw2:=HKw2.out.1.cells.2;refine halt ?_)
    unfold Halt
    clear cB cM
    go_wp2_with (with_reducible refine wpList_store_field rfl 4 _ _ rfl g 1 (.bool true) rfl rfl (by kernel_rfl) (by kernel_rfl) 133 [.bool true,.bool true] HKw2.out.1.at' (of_decide_eq_true (by kernel_rfl)) ?_;have hK:=HKw2.out.1.setM true;have hG:=grown_row w2 g (List.set [.bool true,.bool true] 1 (.bool true)).toArray;generalize World.setRow _ _ _ = w3 at hK hG ⊢;have HKw3:=Lib.hid (And.intro hK hG);clear hK hG;have cBw3:=HKw3.out.1.cells.1;have cMw3:=HKw3.out.1.cells.2;refine halt ?_)
    unfold Halt
    go_wp2
    exact bodyPost_ret (v:=.tuple #[.int .i64 n,.bool (decide ((1:Int) = 0))]) (by simp [results,Tryd.results114,go_sem]) rfl ⟨by rw [HN.out.1,HN.out.2],by rw [HN.out.2];exact HKw3.out.1,grown_trans HKw2.out.2 HKw3.out.2⟩
   | false =>
    go_wp2_with (with_reducible refine wpList_store_field rfl 4 _ _ rfl g 0 (.bool true) rfl rfl (by kernel_rfl) (by kernel_rfl) 133 [.bool false,.bool false] HW.out.at' (of_decide_eq_true (by kernel_rfl)) ?_;have hK:=HW.out.setB true;have hG:=grown_row w g (List.set [.bool false,.bool false] 0 (.bool true)).toArray;generalize World.setRow _ _ _ = w2 at hK hG ⊢;have HKw2:=Lib.hid (And.intro hK hG);clear hK hG;have cBw2:=HKw2.out.1.cells.1;have cMw2:=HKw2.out.1.cells.2;refine halt ?_)
    unfold Halt
    clear cB cM
    go_wp2_with (with_reducible refine wpList_store_field rfl 4 _ _ rfl g 1 (.bool false) rfl rfl (by kernel_rfl) (by kernel_rfl) 133 [.bool true,.bool false] HKw2.out.1.at' (of_decide_eq_true (by kernel_rfl)) ?_;have hK:=HKw2.out.1.setM false;have hG:=grown_row w2 g (List.set [.bool true,.bool false] 1 (.bool false)).toArray;generalize World.setRow _ _ _ = w3 at hK hG ⊢;have HKw3:=Lib.hid (And.intro hK hG);clear hK hG;have cBw3:=HKw3.out.1.cells.1;have cMw3:=HKw3.out.1.cells.2;refine halt ?_)
    unfold Halt
    go_wp2
    exact bodyPost_ret (v:=.tuple #[.int .i64 n,.bool (decide ((1:Int) = 0))]) (by simp [results,Tryd.results114,go_sem]) rfl ⟨by rw [HN.out.1,HN.out.2],by rw [HN.out.2];exact HKw3.out.1,grown_trans HKw2.out.2 HKw3.out.2⟩
 ·cases b with
  | true =>
   cases m with
   | true =>
    go_wp2_with (with_reducible refine wpList_store_field rfl 4 _ _ rfl g 0 (.bool true) rfl rfl (by kernel_rfl) (by kernel_rfl) 133 [.bool true,.bool true] HW.out.at' (of_decide_eq_true (by kernel_rfl)) ?_;have hK:=HW.out.setB true;have hG:=grown_row w g (List.set [.bool true,.bool true] 0 (.bool true)).toArray;generalize World.setRow _ _ _ = w2 at hK hG ⊢;have HKw2:=Lib.hid (And.intro hK hG);clear hK hG;have cBw2:=HKw2.out.1.cells.1;have cMw2:=HKw2.out.1.cells.2;refine halt ?_)
    unfold Halt
    clear cB cM
    go_wp2_with (with_reducible refine wpList_store_field rfl 4 _ _ rfl g 1 (.bool true) rfl rfl (by kernel_rfl) (by kernel_rfl) 133 [.bool true,.bool true] HKw2.out.1.at' (of_decide_eq_true (by kernel_rfl)) ?_;have hK:=HKw2.out.1.setM true;have hG:=grown_row w2 g (List.set [.bool true,.bool true] 1 (.bool true)).toArray;generalize World.setRow _ _ _ = w3 at hK hG ⊢;have HKw3:=Lib.hid (And.intro hK hG);clear hK hG;have cBw3:=HKw3.out.1.cells.1;have cMw3:=HKw3.out.1.cells.2;refine halt ?_)
    unfold Halt
    go_wp2
    exact bodyPost_ret (v:=.tuple #[.int .i64 n,.bool (decide ((8:Int) = 0))]) (by simp [results,Tryd.results114,go_sem]) rfl ⟨by rw [HN.out.1,HN.out.2],by rw [HN.out.2];exact HKw3.out.1,grown_trans HKw2.out.2 HKw3.out.2⟩
   | false =>
    go_wp2_with (with_reducible refine wpList_store_field rfl 4 _ _ rfl g 0 (.bool true) rfl rfl (by kernel_rfl) (by kernel_rfl) 133 [.bool true,.bool false] HW.out.at' (of_decide_eq_true (by kernel_rfl)) ?_;have hK:=HW.out.setB true;have hG:=grown_row w g (List.set [.bool true,.bool false] 0 (.bool true)).toArray;generalize World.setRow _ _ _ = w2 at hK hG ⊢;have HKw2:=Lib.hid (And.intro hK hG);clear hK hG;have cBw2:=HKw2.out.1.cells.1;have cMw2:=HKw2.out.1.cells.2;refine halt ?_)
    unfold Halt
    clear cB cM
    go_wp2_with (with_reducible refine wpList_store_field rfl 4 _ _ rfl g 1 (.bool true) rfl rfl (by kernel_rfl) (by kernel_rfl) 133 [.bool true,.bool false] HKw2.out.1.at' (of_decide_eq_true (by kernel_rfl)) ?_;have hK:=HKw2.out.1.setM true;have hG:=grown_row w2 g (List.set [.bool true,.bool false] 1 (.bool true)).toArray;generalize World.setRow _ _ _ = w3 at hK hG ⊢;have HKw3:=Lib.hid (And.intro hK hG);clear hK hG;have cBw3:=HKw3.out.1.cells.1;have cMw3:=HKw3.out.1.cells.2;refine halt ?_)
    unfold Halt
    go_wp2
    exact bodyPost_ret (v:=.tuple #[.int .i64 n,.bool (decide ((8:Int) = 0))]) (by simp [results,Tryd.results114,go_sem]) rfl ⟨by rw [HN.out.1,HN.out.2],by rw [HN.out.2];exact HKw3.out.1,grown_trans HKw2.out.2 HKw3.out.2⟩
  | false =>
   cases m with
   | true =>
    go_wp2_with (with_reducible refine wpList_store_field rfl 4 _ _ rfl g 0 (.bool false) rfl rfl (by kernel_rfl) (by kernel_rfl) 133 [.bool false,.bool true] HW.out.at' (of_decide_eq_true (by kernel_rfl)) ?_;have hK:=HW.out.setB false;have hG:=grown_row w g (List.set [.bool false,.bool true] 0 (.bool false)).toArray;generalize World.setRow _ _ _ = w2 at hK hG ⊢;have HKw2:=Lib.hid (And.intro hK hG);clear hK hG;have cBw2:=HKw2.out.1.cells.1;have cMw2:=HKw2.out.1.cells.2;refine halt ?_)
    unfold Halt
    clear cB cM
    go_wp2_with (with_reducible refine wpList_store_field rfl 4 _ _ rfl g 1 (.bool true) rfl rfl (by kernel_rfl) (by kernel_rfl) 133 [.bool false,.bool true] HKw2.out.1.at' (of_decide_eq_true (by kernel_rfl)) ?_;have hK:=HKw2.out.1.setM true;have hG:=grown_row w2 g (List.set [.bool false,.bool true] 1 (.bool true)).toArray;generalize World.setRow _ _ _ = w3 at hK hG ⊢;have HKw3:=Lib.hid (And.intro hK hG);clear hK hG;have cBw3:=HKw3.out.1.cells.1;have cMw3:=HKw3.out.1.cells.2;refine halt ?_)
    unfold Halt
    go_wp2
    exact bodyPost_ret (v:=.tuple #[.int .i64 n,.bool (decide ((8:Int) = 0))]) (by simp [results,Tryd.results114,go_sem]) rfl ⟨by rw [HN.out.1,HN.out.2],by rw [HN.out.2];exact HKw3.out.1,grown_trans HKw2.out.2 HKw3.out.2⟩
   | false =>
    go_wp2_with (with_reducible refine wpList_store_field rfl 4 _ _ rfl g 0 (.bool false) rfl rfl (by kernel_rfl) (by kernel_rfl) 133 [.bool false,.bool false] HW.out.at' (of_decide_eq_true (by kernel_rfl)) ?_;have hK:=HW.out.setB false;have hG:=grown_row w g (List.set [.bool false,.bool false] 0 (.bool false)).toArray;generalize World.setRow _ _ _ = w2 at hK hG ⊢;have HKw2:=Lib.hid (And.intro hK hG);clear hK hG;have cBw2:=HKw2.out.1.cells.1;have cMw2:=HKw2.out.1.cells.2;refine halt ?_)
    unfold Halt
    clear cB cM
    go_wp2_with (with_reducible refine wpList_store_field rfl 4 _ _ rfl g 1 (.bool true) rfl rfl (by kernel_rfl) (by kernel_rfl) 133 [.bool false,.bool false] HKw2.out.1.at' (of_decide_eq_true (by kernel_rfl)) ?_;have hK:=HKw2.out.1.setM true;have hG:=grown_row w2 g (List.set [.bool false,.bool false] 1 (.bool true)).toArray;generalize World.setRow _ _ _ = w3 at hK hG ⊢;have HKw3:=Lib.hid (And.intro hK hG);clear hK hG;have cBw3:=HKw3.out.1.cells.1;have cMw3:=HKw3.out.1.cells.2;refine halt ?_)
    unfold Halt
    go_wp2
    exact bodyPost_ret (v:=.tuple #[.int .i64 n,.bool (decide ((8:Int) = 0))]) (by simp [results,Tryd.results114,go_sem]) rfl ⟨by rw [HN.out.1,HN.out.2],by rw [HN.out.2];exact HKw3.out.1,grown_trans HKw2.out.2 HKw3.out.2⟩
def knownD (k:Int):Bool:=decide (k = 1) || decide (k = 7) || decide (k = 9)
theorem known_any (k:Int) (w:World):Calls Tryd.prog 115 #[.int .i64 k] w fun e w'=>e = .returned (.bool (knownD k))∧w = w':=by
 by_cases h1:k = 1
 ·subst h1
  go_enter Tryd.func115,Tryd.ntmps115
  go_wp2
  go_ret
  exact ⟨rfl,rfl⟩
 by_cases h7:k = 7
 ·subst h7
  go_enter Tryd.func115,Tryd.ntmps115
  go_wp2
  go_ret
  exact ⟨rfl,rfl⟩
 by_cases h9:k = 9
 ·subst h9
  go_enter Tryd.func115,Tryd.ntmps115
  go_wp2
  go_ret
  exact ⟨rfl,rfl⟩
 have hk:knownD k = false:=by unfold knownD;simp [h1,h7,h9]
 rw [hk]
 have f1:(k == 1) = false:=beq_eq_false_iff_ne.2 h1
 have f7:(k == 7) = false:=beq_eq_false_iff_ne.2 h7
 have f9:(k == 9) = false:=beq_eq_false_iff_ne.2 h9
 clear h1 h7 h9 hk
 go_enter Tryd.func115,Tryd.ntmps115
 go_wp2
 go_ret
 exact ⟨rfl,rfl⟩
def zero3:List Value:=[.int .i64 0,.int .i64 0,.int .i64 0]
theorem zero3_zero:(Tryd.prog.info? 164).bind (·.zero) = some (.agg zero3.toArray):=by kernel_rfl
theorem ten3_start {w1:World} {n g:Nat} {cs:List Value} {b m:Bool} {t:TypeId} (h:w1.heap[n]? = some (.cells cs.toArray t (0,0))) (hw:Wr w1 g b m) :
  Below w1.heap.size w1 (w1.alloc (.cells zero3.toArray 164))∧(w1.alloc (.cells zero3.toArray 164)).heap[n]? = some (.cells cs.toArray t (0,0))∧(w1.alloc (.cells zero3.toArray 164)).heap[w1.heap.size]? = some (.cells zero3.toArray 164 (0,0))∧Wr (w1.alloc (.cells zero3.toArray 164)) g b m :=
 ⟨(Below.refl _ _).alloc (Nat.le_refl _) _,(Below.heap_alloc _ _ _ (Array.getElem?_eq_some_iff.1 h).1).trans h,heap_alloc_new _ _,⟨(Below.heap_alloc _ _ _ hw.lt).trans hw.at'⟩⟩
theorem ten3_set {w W0 w1 w2:World} {n g:Nat} {cs:List Value} {b m:Bool} {t:TypeId} (h:w2.heap[n]? = some (.cells cs.toArray t (0,0))) (hq:w2.heap[w1.heap.size]? = some (.cells zero3.toArray 164 (0,0))) (hw:Wr w2 g b m) (hg:g < w.heap.size) (hn:n < W0.heap.size) (h1:W0.grownBy w1 (some g)) (hgw:w.heap.size ≤ W0.heap.size) (k:Nat) (v:Value) :
  w2.grownBy (w2.setRow w1.heap.size (zero3.set k v).toArray) (some w1.heap.size)∧(w2.setRow w1.heap.size (zero3.set k v).toArray).heap[n]? = some (.cells cs.toArray t (0,0))∧(w2.setRow w1.heap.size (zero3.set k v).toArray).heap[w1.heap.size]? = some (.cells (zero3.set k v).toArray 164 (0,0))∧Wr (w2.setRow w1.heap.size (zero3.set k v).toArray) g b m∧w.heap.size ≤ w1.heap.size:=by
 have:=h1.size
 exact ⟨grown_row _ _ _,(heap_setRow_other _ _ _ _ (by omega)).trans h,heap_setRow _ _ _ _ _ hq,⟨(heap_setRow_other _ _ _ _ (by omega)).trans hw.at'⟩,by omega⟩
theorem eq3 (a b c d e f:Int) (w:World):(Op.equalIn 10000 164 (.agg #[.int .i64 a,.int .i64 b,.int .i64 c]) (.agg #[.int .i64 d,.int .i64 e,.int .i64 f])).run Tryd.prog w = .ok (a == d && b == e && c == f) w:=by
 have u3:=Tryd.underlying3
 have a3:=Tryd.isAgg3
 have z3:=Tryd.sizeOf3
 rw [show (10000:Nat) = 9999 + 1 from rfl,Op.equalIn]
 simp only [Sem.run_bind,run_underlying Tryd.underlying164,Result.andThen_ok]
 simp only [Std.Legacy.Range.forIn_eq_forIn_range',Std.Legacy.Range.size,Nat.sub_zero,Nat.add_sub_cancel,Nat.div_one,List.range'_succ,List.range'_zero,List.forIn_cons,List.forIn_nil]
 go_simp
 by_cases h1:a = d <;> by_cases h2:b = e <;> by_cases h3:c = f <;> simp [h1,h2,h3]
theorem ten3_grown {w w2 w3 w4:World} {g q:Nat} (h:w.grownBy w2 (some g)) (h3:w2.grownBy w3 (some q)) (hq:w.heap.size ≤ q) (h4:w3.grownBy w4 (some g)):w.grownBy w4 (some g) :=
 ⟨h4.os.trans (h3.os.trans h.os),h4.tape.trans (h3.tape.trans h.tape),h4.output.trans (h3.output.trans h.output),Nat.le_trans h.size (Nat.le_trans h3.size h4.size),fun k hk hn =>
  (h4.block k (Nat.lt_of_lt_of_le hk (Nat.le_trans h.size h3.size)) hn).trans ((h3.block k (Nat.lt_of_lt_of_le hk h.size) (fun e=>by injection e with e;omega)).trans (h.block k hk hn))⟩
def noneT (t:TensorD):Bool:=decide (t.type = 0) && decide (t.dims.length + t.f.length + t.i.length + t.b.length = 0)
set_option maxRecDepth 100000 in
set_option maxHeartbeats 4000000 in
theorem none_any (cs:List Value) (t:TensorD) (w:World) (hr:rep w (old w.heap.size) cs t) :
  Calls Tryd.prog 124 #[.agg cs.toArray] w fun e w'=>e = .returned (.bool (noneT t))∧Below w.heap.size w w':=by
 obtain ⟨A1,k1,A2,k2,A3,k3,A4,k4,rfl,htI,t1,t2,t3,t4⟩:=open_TensorD hr
 have b1:t.dims.length * 8 ≤ 140737488351232:=slice_reach t1
 have b2:t.f.length * 4 ≤ 140737488351232:=slice_reach t2
 have b3:t.i.length * 8 ≤ 140737488351232:=slice_reach t3
 have b4:t.b.length * 1 ≤ 140737488351232:=slice_reach t4
 have c1:(t.dims.length:Int) ≤ 140737488351232:=by omega
 have c2:(t.f.length:Int) ≤ 140737488351232:=by omega
 have c3:(t.i.length:Int) ≤ 140737488351232:=by omega
 have c4:(t.b.length:Int) ≤ 140737488351232:=by omega
 have HB:=Lib.hid (fun o:Obj=>((Below.refl w.heap.size w).alloc (Nat.le_refl _) o:Below w.heap.size w _))
 clear hr htI t1 t2 t3 t4 b1 b2 b3 b4
 obtain ⟨r,hr⟩:∃ r,noneT t = r:=⟨_,rfl⟩
 rw [hr]
 unfold noneT at hr
 by_cases h0:t.type = 0
 ·have f0:(t.type == 0) = true:=beq_iff_eq.2 h0
  rw [decide_eq_true h0,Bool.true_and] at hr
  have hx:(((t.dims.length:Int) + (t.f.length:Int) + (t.i.length:Int) + (t.b.length:Int)) == 0) = r:=by
   rw [← hr,Bool.eq_iff_iff,beq_iff_eq,decide_eq_true_eq]
   omega
  clear hr h0
  go_enter Tryd.func124,Tryd.ntmps124
  go_wp2
  go_ret
  exact ⟨by rw [← hx];rfl,HB.out _⟩
 ·have f0:(t.type == 0) = false:=beq_eq_false_iff_ne.2 h0
  rw [decide_eq_false h0,Bool.false_and] at hr
  subst hr
  clear h0
  go_enter Tryd.func124,Tryd.ntmps124
  go_wp2
  go_ret
  exact ⟨rfl,HB.out _⟩
def wrongT (t:TensorD):Bool :=
 if t.type = 1 then decide ((sizeD t.dims).2 = 0) && !(decide ((sizeD t.dims).1 = t.f.length) && decide (t.i.length = 0) && decide (t.b.length = 0))
 else if t.type = 7 then decide ((sizeD t.dims).2 = 0) && !(decide (t.f.length = 0) && decide ((sizeD t.dims).1 = t.i.length) && decide (t.b.length = 0))
 else if t.type = 9 then decide ((sizeD t.dims).2 = 0) && !(decide (t.f.length = 0) && decide (t.i.length = 0) && decide ((sizeD t.dims).1 = t.b.length)) else true
set_option maxRecDepth 100000 in
set_option maxHeartbeats 8000000 in
theorem tensor_w (cs:List Value) (t:TensorD) (g B:Nat) (b m:Bool) (w:World) (hB:B ≤ g) (hr:rep w (old B) cs t) (hw:Wr w g b m) :
  Calls Tryd.prog 84 #[.pointer (some ⟨g,0,none⟩),.agg cs.toArray] w (WrTo w g (b || decide ((sizeD t.dims).2 = 1) || wrongT t) (m || decide ((sizeD t.dims).2 = 8))):=by
 obtain ⟨A1,k1,A2,k2,A3,k3,A4,k4,rfl,htI,t1,t2,t3,t4⟩:=open_TensorD hr
 have hgs:=hw.lt
 have HW:=Lib.hid (And.intro hw t1)
 clear hr htI t1 t2 t3 t4 hw
 go_enter Tryd.func84,Tryd.ntmps84
 go_wp2_with (with_reducible refine wpList_box_row rfl 43 _ rfl [.int .i64 t.type,.slice A1 t.dims.length k1,.slice A2 t.f.length k2,.slice A3 t.i.length k3,.slice A4 t.b.length k4] rfl ?_;have hX:=box_start w 43 [.int .i64 t.type,.slice A1 t.dims.length k1,.slice A2 t.f.length k2,.slice A3 t.i.length k3,.slice A4 t.b.length k4];generalize World.alloc _ _ = W0 at hX ⊢;have HX:=Lib.hid hX;clear hX;refine halt ?_)
 unfold Halt
 have k1':W0.cell? ⟨w.heap.size,1,none⟩ = some (.slice A1 t.dims.length k1):=cell_of_row _ _ _ _ _ _ HX.out.row
 go_wp2_with fail
 refine (count_w t.dims _ g B b m W0 hB (Rep.keep HW.out.2 (Keeps.old_below HX.out.below (by omega))) ⟨(HX.out.below.block _ hgs).trans HW.out.1.at'⟩).mono ?_
 obtain ⟨b1,hb1⟩:∃ b1,(b || decide ((sizeD t.dims).2 = 1)) = b1:=⟨_,rfl⟩
 obtain ⟨m1,hm1⟩:∃ m1,(m || decide ((sizeD t.dims).2 = 8)) = m1:=⟨_,rfl⟩
 obtain ⟨n,hn⟩:∃ n,(sizeD t.dims).1 = n:=⟨_,rfl⟩
 obtain ⟨ok,hok⟩:∃ ok,decide ((sizeD t.dims).2 = 0) = ok:=⟨_,rfl⟩
 have HE:=Lib.hid (And.intro hb1 (And.intro hm1 (And.intro hn hok)))
 rw [hb1,hm1,hn,hok]
 clear hb1 hm1 hn hok
 rintro e w1 ⟨rfl,hw1,hg1⟩
 have hrow:w1.heap[w.heap.size]? = some (.cells ([.int .i64 t.type,.slice A1 t.dims.length k1,.slice A2 t.f.length k2,.slice A3 t.i.length k3,.slice A4 t.b.length k4]:List Value).toArray 43 (0,0)):=(hg1.block _ HX.out.lt (fun e=>by injection e with e;omega)).trans HX.out.row
 have H1:=Lib.hid (And.intro hw1 (And.intro hg1 hrow))
 clear hw1 hg1 hrow k1'
 go_wp2_with (with_reducible refine wpList_alloc_row rfl 164 rfl zero3 zero3_zero ?_;have hY:=ten3_start H1.out.2.2 H1.out.1;generalize World.alloc _ _ = w2 at hY ⊢;have HY:=Lib.hid hY;clear hY;refine halt ?_)
 unfold Halt
 have hg2:w.grownBy w2 (some g):=grown_below (grown_trans (grown_of_below HX.out.below) H1.out.2.1) HY.out.1
 have HG:=Lib.hid hg2
 clear hg2
 have d0:w2.cell? ⟨w.heap.size,0,none⟩ = some (.int .i64 t.type):=cell_of_row _ _ _ _ _ _ HY.out.2.1
 have d2:w2.cell? ⟨w.heap.size,2,none⟩ = some (.slice A2 t.f.length k2):=cell_of_row _ _ _ _ _ _ HY.out.2.1
 have d3:w2.cell? ⟨w.heap.size,3,none⟩ = some (.slice A3 t.i.length k3):=cell_of_row _ _ _ _ _ _ HY.out.2.1
 have d4:w2.cell? ⟨w.heap.size,4,none⟩ = some (.slice A4 t.b.length k4):=cell_of_row _ _ _ _ _ _ HY.out.2.1
 have dB:=HY.out.2.2.2.cells.1
 by_cases h1:t.type = 1
 ·have hwr:wrongT t = (ok && !(decide (n = t.f.length) && decide (t.i.length = 0) && decide (t.b.length = 0))):=by
   unfold wrongT
   rw [if_pos h1,HE.out.2.2.1,HE.out.2.2.2]
  rw [h1] at d0
  have HWR:=Lib.hid hwr
  clear hwr h1
  go_wp2_with (with_reducible refine wpList_store_field rfl 3 _ _ rfl w1.heap.size 0 (.int .i64 n) rfl rfl (by kernel_rfl) (by kernel_rfl) 164 zero3 HY.out.2.2.1 (of_decide_eq_true (by kernel_rfl)) ?_;have hZ:=ten3_set HY.out.2.1 HY.out.2.2.1 HY.out.2.2.2 hgs HX.out.lt H1.out.2.1 HX.out.below.size 0 (.int .i64 n);generalize World.setRow _ _ _ = w3 at hZ ⊢;have HZ:=Lib.hid hZ;clear hZ;refine halt ?_)
  unfold Halt
  clear d0 d2 d3 d4 dB
  have d2:w3.cell? ⟨w.heap.size,2,none⟩ = some (.slice A2 t.f.length k2):=cell_of_row _ _ _ _ _ _ HZ.out.2.1
  have d3:w3.cell? ⟨w.heap.size,3,none⟩ = some (.slice A3 t.i.length k3):=cell_of_row _ _ _ _ _ _ HZ.out.2.1
  have d4:w3.cell? ⟨w.heap.size,4,none⟩ = some (.slice A4 t.b.length k4):=cell_of_row _ _ _ _ _ _ HZ.out.2.1
  have dB:=HZ.out.2.2.2.1.cells.1
  cases b1 with
  | true =>
   go_wp2_with (with_reducible refine wpList_store_field rfl 4 _ _ rfl g 0 (.bool true) rfl rfl (by kernel_rfl) (by kernel_rfl) 133 [.bool true,.bool m1] HZ.out.2.2.2.1.at' (of_decide_eq_true (by kernel_rfl)) ?_;have hK:=HZ.out.2.2.2.1.setB true;have hG:=grown_row w3 g (List.set [.bool true,.bool m1] 0 (.bool true)).toArray;generalize World.setRow _ _ _ = w4 at hK hG ⊢;have HK:=Lib.hid (And.intro hK hG);clear hK hG;refine halt ?_)
   unfold Halt
   go_wp2
   refine bodyPost_end (v:=.tuple #[]) (by simp [results,Tryd.results84,go_sem]) rfl ⟨rfl,?_,?_⟩
   ·rw [HE.out.1,HE.out.2.1,HWR.out]
    exact HK.out.1
   ·exact (ten3_grown HG.out HZ.out.1 HZ.out.2.2.2.2 HK.out.2)
  | false =>
   cases ok with
   | false =>
    go_wp2_with (with_reducible refine wpList_store_field rfl 4 _ _ rfl g 0 (.bool false) rfl rfl (by kernel_rfl) (by kernel_rfl) 133 [.bool false,.bool m1] HZ.out.2.2.2.1.at' (of_decide_eq_true (by kernel_rfl)) ?_;have hK:=HZ.out.2.2.2.1.setB false;have hG:=grown_row w3 g (List.set [.bool false,.bool m1] 0 (.bool false)).toArray;generalize World.setRow _ _ _ = w4 at hK hG ⊢;have HK:=Lib.hid (And.intro hK hG);clear hK hG;refine halt ?_)
    unfold Halt
    go_wp2
    refine bodyPost_end (v:=.tuple #[]) (by simp [results,Tryd.results84,go_sem]) rfl ⟨rfl,?_,?_⟩
    ·rw [HE.out.1,HE.out.2.1,HWR.out]
     exact HK.out.1
    ·exact (ten3_grown HG.out HZ.out.1 HZ.out.2.2.2.2 HK.out.2)
   | true =>
    have HAT:=Lib.hid (show At w3 w1.heap.size 0 [.int .i64 n,.int .i64 0,.int .i64 0] from At.of_row HZ.out.2.2.1)
    go_wp2_with (first
     |(with_reducible refine wpList_load_agg_w (by kernel_rfl) 164 _ rfl _ w1.heap.size 0 rfl [.int .i64 n,.int .i64 0,.int .i64 0] Tryd.underlying164 rfl (by kernel_rfl) HAT.out ?_))
    have he:=eq3 n 0 0 t.f.length t.i.length t.b.length w3
    obtain ⟨q,hq⟩:∃ q,(decide (n = t.f.length) && decide (t.i.length = 0) && decide (t.b.length = 0)) = q:=⟨_,rfl⟩
    have hq2:(decide ((n:Int) = (t.f.length:Int)) && decide ((0:Int) = (t.i.length:Int)) && decide ((0:Int) = (t.b.length:Int))) = q:=by rw [← hq,Bool.eq_iff_iff];simp only [Bool.and_eq_true,decide_eq_true_eq];omega
    have he2:(Op.equalIn 10000 164 (.agg #[.int .i64 n,.int .i64 0,.int .i64 0]) (.agg #[.int .i64 t.f.length,.int .i64 t.i.length,.int .i64 t.b.length])).run Tryd.prog w3 = .ok q w3:=by rw [he,← hq2];congr 1
    have HQ:=Lib.hid hq
    clear he hq hq2
    rw [he2]
    clear he2
    cases q with
    | true =>
     simp only [Result.andThen_ok,Oper.upon_value]
     go_wp2_with (with_reducible refine wpList_store_field rfl 4 _ _ rfl g 0 (.bool false) rfl rfl (by kernel_rfl) (by kernel_rfl) 133 [.bool false,.bool m1] HZ.out.2.2.2.1.at' (of_decide_eq_true (by kernel_rfl)) ?_;have hK:=HZ.out.2.2.2.1.setB false;have hG:=grown_row w3 g (List.set [.bool false,.bool m1] 0 (.bool false)).toArray;generalize World.setRow _ _ _ = w4 at hK hG ⊢;have HK:=Lib.hid (And.intro hK hG);clear hK hG;refine halt ?_)
     unfold Halt
     go_wp2
     refine bodyPost_end (v:=.tuple #[]) (by simp [results,Tryd.results84,go_sem]) rfl ⟨rfl,?_,?_⟩
     ·rw [HE.out.1,HE.out.2.1,HWR.out]
      simp only [HQ.out];exact HK.out.1
     ·exact (ten3_grown HG.out HZ.out.1 HZ.out.2.2.2.2 HK.out.2)
    | false =>
     simp only [Result.andThen_ok,Oper.upon_value]
     go_wp2_with (with_reducible refine wpList_store_field rfl 4 _ _ rfl g 0 (.bool true) rfl rfl (by kernel_rfl) (by kernel_rfl) 133 [.bool false,.bool m1] HZ.out.2.2.2.1.at' (of_decide_eq_true (by kernel_rfl)) ?_;have hK:=HZ.out.2.2.2.1.setB true;have hG:=grown_row w3 g (List.set [.bool false,.bool m1] 0 (.bool true)).toArray;generalize World.setRow _ _ _ = w4 at hK hG ⊢;have HK:=Lib.hid (And.intro hK hG);clear hK hG;refine halt ?_)
     unfold Halt
     go_wp2
     refine bodyPost_end (v:=.tuple #[]) (by simp [results,Tryd.results84,go_sem]) rfl ⟨rfl,?_,?_⟩
     ·rw [HE.out.1,HE.out.2.1,HWR.out]
      simp only [HQ.out];exact HK.out.1
     ·exact (ten3_grown HG.out HZ.out.1 HZ.out.2.2.2.2 HK.out.2)
 by_cases h7:t.type = 7
 ·have hwr:wrongT t = (ok && !(decide (t.f.length = 0) && decide (n = t.i.length) && decide (t.b.length = 0))):=by
   unfold wrongT
   rw [if_neg h1,if_pos h7,HE.out.2.2.1,HE.out.2.2.2]
  rw [h7] at d0
  have HWR:=Lib.hid hwr
  clear hwr h7
  go_wp2_with (with_reducible refine wpList_store_field rfl 3 _ _ rfl w1.heap.size 1 (.int .i64 n) rfl rfl (by kernel_rfl) (by kernel_rfl) 164 zero3 HY.out.2.2.1 (of_decide_eq_true (by kernel_rfl)) ?_;have hZ:=ten3_set HY.out.2.1 HY.out.2.2.1 HY.out.2.2.2 hgs HX.out.lt H1.out.2.1 HX.out.below.size 1 (.int .i64 n);generalize World.setRow _ _ _ = w3 at hZ ⊢;have HZ:=Lib.hid hZ;clear hZ;refine halt ?_)
  unfold Halt
  clear d0 d2 d3 d4 dB
  have d2:w3.cell? ⟨w.heap.size,2,none⟩ = some (.slice A2 t.f.length k2):=cell_of_row _ _ _ _ _ _ HZ.out.2.1
  have d3:w3.cell? ⟨w.heap.size,3,none⟩ = some (.slice A3 t.i.length k3):=cell_of_row _ _ _ _ _ _ HZ.out.2.1
  have d4:w3.cell? ⟨w.heap.size,4,none⟩ = some (.slice A4 t.b.length k4):=cell_of_row _ _ _ _ _ _ HZ.out.2.1
  have dB:=HZ.out.2.2.2.1.cells.1
  cases b1 with
  | true =>
   go_wp2_with (with_reducible refine wpList_store_field rfl 4 _ _ rfl g 0 (.bool true) rfl rfl (by kernel_rfl) (by kernel_rfl) 133 [.bool true,.bool m1] HZ.out.2.2.2.1.at' (of_decide_eq_true (by kernel_rfl)) ?_;have hK:=HZ.out.2.2.2.1.setB true;have hG:=grown_row w3 g (List.set [.bool true,.bool m1] 0 (.bool true)).toArray;generalize World.setRow _ _ _ = w4 at hK hG ⊢;have HK:=Lib.hid (And.intro hK hG);clear hK hG;refine halt ?_)
   unfold Halt
   go_wp2
   refine bodyPost_end (v:=.tuple #[]) (by simp [results,Tryd.results84,go_sem]) rfl ⟨rfl,?_,?_⟩
   ·rw [HE.out.1,HE.out.2.1,HWR.out]
    exact HK.out.1
   ·exact (ten3_grown HG.out HZ.out.1 HZ.out.2.2.2.2 HK.out.2)
  | false =>
   cases ok with
   | false =>
    go_wp2_with (with_reducible refine wpList_store_field rfl 4 _ _ rfl g 0 (.bool false) rfl rfl (by kernel_rfl) (by kernel_rfl) 133 [.bool false,.bool m1] HZ.out.2.2.2.1.at' (of_decide_eq_true (by kernel_rfl)) ?_;have hK:=HZ.out.2.2.2.1.setB false;have hG:=grown_row w3 g (List.set [.bool false,.bool m1] 0 (.bool false)).toArray;generalize World.setRow _ _ _ = w4 at hK hG ⊢;have HK:=Lib.hid (And.intro hK hG);clear hK hG;refine halt ?_)
    unfold Halt
    go_wp2
    refine bodyPost_end (v:=.tuple #[]) (by simp [results,Tryd.results84,go_sem]) rfl ⟨rfl,?_,?_⟩
    ·rw [HE.out.1,HE.out.2.1,HWR.out]
     exact HK.out.1
    ·exact (ten3_grown HG.out HZ.out.1 HZ.out.2.2.2.2 HK.out.2)
   | true =>
    have HAT:=Lib.hid (show At w3 w1.heap.size 0 [.int .i64 0,.int .i64 n,.int .i64 0] from At.of_row HZ.out.2.2.1)
    go_wp2_with (first
     |(with_reducible refine wpList_load_agg_w (by kernel_rfl) 164 _ rfl _ w1.heap.size 0 rfl [.int .i64 0,.int .i64 n,.int .i64 0] Tryd.underlying164 rfl (by kernel_rfl) HAT.out ?_))
    have he:=eq3 0 n 0 t.f.length t.i.length t.b.length w3
    obtain ⟨q,hq⟩:∃ q,(decide (t.f.length = 0) && decide (n = t.i.length) && decide (t.b.length = 0)) = q:=⟨_,rfl⟩
    have hq2:(decide ((0:Int) = (t.f.length:Int)) && decide ((n:Int) = (t.i.length:Int)) && decide ((0:Int) = (t.b.length:Int))) = q:=by rw [← hq,Bool.eq_iff_iff];simp only [Bool.and_eq_true,decide_eq_true_eq];omega
    have he2:(Op.equalIn 10000 164 (.agg #[.int .i64 0,.int .i64 n,.int .i64 0]) (.agg #[.int .i64 t.f.length,.int .i64 t.i.length,.int .i64 t.b.length])).run Tryd.prog w3 = .ok q w3:=by rw [he,← hq2];congr 1
    have HQ:=Lib.hid hq
    clear he hq hq2
    rw [he2]
    clear he2
    cases q with
    | true =>
     simp only [Result.andThen_ok,Oper.upon_value]
     go_wp2_with (with_reducible refine wpList_store_field rfl 4 _ _ rfl g 0 (.bool false) rfl rfl (by kernel_rfl) (by kernel_rfl) 133 [.bool false,.bool m1] HZ.out.2.2.2.1.at' (of_decide_eq_true (by kernel_rfl)) ?_;have hK:=HZ.out.2.2.2.1.setB false;have hG:=grown_row w3 g (List.set [.bool false,.bool m1] 0 (.bool false)).toArray;generalize World.setRow _ _ _ = w4 at hK hG ⊢;have HK:=Lib.hid (And.intro hK hG);clear hK hG;refine halt ?_)
     unfold Halt
     go_wp2
     refine bodyPost_end (v:=.tuple #[]) (by simp [results,Tryd.results84,go_sem]) rfl ⟨rfl,?_,?_⟩
     ·rw [HE.out.1,HE.out.2.1,HWR.out]
      simp only [HQ.out];exact HK.out.1
     ·exact (ten3_grown HG.out HZ.out.1 HZ.out.2.2.2.2 HK.out.2)
    | false =>
     simp only [Result.andThen_ok,Oper.upon_value]
     go_wp2_with (with_reducible refine wpList_store_field rfl 4 _ _ rfl g 0 (.bool true) rfl rfl (by kernel_rfl) (by kernel_rfl) 133 [.bool false,.bool m1] HZ.out.2.2.2.1.at' (of_decide_eq_true (by kernel_rfl)) ?_;have hK:=HZ.out.2.2.2.1.setB true;have hG:=grown_row w3 g (List.set [.bool false,.bool m1] 0 (.bool true)).toArray;generalize World.setRow _ _ _ = w4 at hK hG ⊢;have HK:=Lib.hid (And.intro hK hG);clear hK hG;refine halt ?_)
     unfold Halt
     go_wp2
     refine bodyPost_end (v:=.tuple #[]) (by simp [results,Tryd.results84,go_sem]) rfl ⟨rfl,?_,?_⟩
     ·rw [HE.out.1,HE.out.2.1,HWR.out]
      simp only [HQ.out];exact HK.out.1
     ·exact (ten3_grown HG.out HZ.out.1 HZ.out.2.2.2.2 HK.out.2)
 by_cases h9:t.type = 9
 ·have hwr:wrongT t = (ok && !(decide (t.f.length = 0) && decide (t.i.length = 0) && decide (n = t.b.length))):=by
   unfold wrongT
   rw [if_neg h1,if_neg h7,if_pos h9,HE.out.2.2.1,HE.out.2.2.2]
  rw [h9] at d0
  have HWR:=Lib.hid hwr
  clear hwr h9
  go_wp2_with (with_reducible refine wpList_store_field rfl 3 _ _ rfl w1.heap.size 2 (.int .i64 n) rfl rfl (by kernel_rfl) (by kernel_rfl) 164 zero3 HY.out.2.2.1 (of_decide_eq_true (by kernel_rfl)) ?_;have hZ:=ten3_set HY.out.2.1 HY.out.2.2.1 HY.out.2.2.2 hgs HX.out.lt H1.out.2.1 HX.out.below.size 2 (.int .i64 n);generalize World.setRow _ _ _ = w3 at hZ ⊢;have HZ:=Lib.hid hZ;clear hZ;refine halt ?_)
  unfold Halt
  clear d0 d2 d3 d4 dB
  have d2:w3.cell? ⟨w.heap.size,2,none⟩ = some (.slice A2 t.f.length k2):=cell_of_row _ _ _ _ _ _ HZ.out.2.1
  have d3:w3.cell? ⟨w.heap.size,3,none⟩ = some (.slice A3 t.i.length k3):=cell_of_row _ _ _ _ _ _ HZ.out.2.1
  have d4:w3.cell? ⟨w.heap.size,4,none⟩ = some (.slice A4 t.b.length k4):=cell_of_row _ _ _ _ _ _ HZ.out.2.1
  have dB:=HZ.out.2.2.2.1.cells.1
  cases b1 with
  | true =>
   go_wp2_with (with_reducible refine wpList_store_field rfl 4 _ _ rfl g 0 (.bool true) rfl rfl (by kernel_rfl) (by kernel_rfl) 133 [.bool true,.bool m1] HZ.out.2.2.2.1.at' (of_decide_eq_true (by kernel_rfl)) ?_;have hK:=HZ.out.2.2.2.1.setB true;have hG:=grown_row w3 g (List.set [.bool true,.bool m1] 0 (.bool true)).toArray;generalize World.setRow _ _ _ = w4 at hK hG ⊢;have HK:=Lib.hid (And.intro hK hG);clear hK hG;refine halt ?_)
   unfold Halt
   go_wp2
   refine bodyPost_end (v:=.tuple #[]) (by simp [results,Tryd.results84,go_sem]) rfl ⟨rfl,?_,?_⟩
   ·rw [HE.out.1,HE.out.2.1,HWR.out]
    exact HK.out.1
   ·exact (ten3_grown HG.out HZ.out.1 HZ.out.2.2.2.2 HK.out.2)
  | false =>
   cases ok with
   | false =>
    go_wp2_with (with_reducible refine wpList_store_field rfl 4 _ _ rfl g 0 (.bool false) rfl rfl (by kernel_rfl) (by kernel_rfl) 133 [.bool false,.bool m1] HZ.out.2.2.2.1.at' (of_decide_eq_true (by kernel_rfl)) ?_;have hK:=HZ.out.2.2.2.1.setB false;have hG:=grown_row w3 g (List.set [.bool false,.bool m1] 0 (.bool false)).toArray;generalize World.setRow _ _ _ = w4 at hK hG ⊢;have HK:=Lib.hid (And.intro hK hG);clear hK hG;refine halt ?_)
    unfold Halt
    go_wp2
    refine bodyPost_end (v:=.tuple #[]) (by simp [results,Tryd.results84,go_sem]) rfl ⟨rfl,?_,?_⟩
    ·rw [HE.out.1,HE.out.2.1,HWR.out]
     exact HK.out.1
    ·exact (ten3_grown HG.out HZ.out.1 HZ.out.2.2.2.2 HK.out.2)
   | true =>
    have HAT:=Lib.hid (show At w3 w1.heap.size 0 [.int .i64 0,.int .i64 0,.int .i64 n] from At.of_row HZ.out.2.2.1)
    go_wp2_with (first
     |(with_reducible refine wpList_load_agg_w (by kernel_rfl) 164 _ rfl _ w1.heap.size 0 rfl [.int .i64 0,.int .i64 0,.int .i64 n] Tryd.underlying164 rfl (by kernel_rfl) HAT.out ?_))
    have he:=eq3 0 0 n t.f.length t.i.length t.b.length w3
    obtain ⟨q,hq⟩:∃ q,(decide (t.f.length = 0) && decide (t.i.length = 0) && decide (n = t.b.length)) = q:=⟨_,rfl⟩
    have hq2:(decide ((0:Int) = (t.f.length:Int)) && decide ((0:Int) = (t.i.length:Int)) && decide ((n:Int) = (t.b.length:Int))) = q:=by rw [← hq,Bool.eq_iff_iff];simp only [Bool.and_eq_true,decide_eq_true_eq];omega
    have he2:(Op.equalIn 10000 164 (.agg #[.int .i64 0,.int .i64 0,.int .i64 n]) (.agg #[.int .i64 t.f.length,.int .i64 t.i.length,.int .i64 t.b.length])).run Tryd.prog w3 = .ok q w3:=by rw [he,← hq2];congr 1
    have HQ:=Lib.hid hq
    clear he hq hq2
    rw [he2]
    clear he2
    cases q with
    | true =>
     simp only [Result.andThen_ok,Oper.upon_value]
     go_wp2_with (with_reducible refine wpList_store_field rfl 4 _ _ rfl g 0 (.bool false) rfl rfl (by kernel_rfl) (by kernel_rfl) 133 [.bool false,.bool m1] HZ.out.2.2.2.1.at' (of_decide_eq_true (by kernel_rfl)) ?_;have hK:=HZ.out.2.2.2.1.setB false;have hG:=grown_row w3 g (List.set [.bool false,.bool m1] 0 (.bool false)).toArray;generalize World.setRow _ _ _ = w4 at hK hG ⊢;have HK:=Lib.hid (And.intro hK hG);clear hK hG;refine halt ?_)
     unfold Halt
     go_wp2
     refine bodyPost_end (v:=.tuple #[]) (by simp [results,Tryd.results84,go_sem]) rfl ⟨rfl,?_,?_⟩
     ·rw [HE.out.1,HE.out.2.1,HWR.out]
      simp only [HQ.out];exact HK.out.1
     ·exact (ten3_grown HG.out HZ.out.1 HZ.out.2.2.2.2 HK.out.2)
    | false =>
     simp only [Result.andThen_ok,Oper.upon_value]
     go_wp2_with (with_reducible refine wpList_store_field rfl 4 _ _ rfl g 0 (.bool true) rfl rfl (by kernel_rfl) (by kernel_rfl) 133 [.bool false,.bool m1] HZ.out.2.2.2.1.at' (of_decide_eq_true (by kernel_rfl)) ?_;have hK:=HZ.out.2.2.2.1.setB true;have hG:=grown_row w3 g (List.set [.bool false,.bool m1] 0 (.bool true)).toArray;generalize World.setRow _ _ _ = w4 at hK hG ⊢;have HK:=Lib.hid (And.intro hK hG);clear hK hG;refine halt ?_)
     unfold Halt
     go_wp2
     refine bodyPost_end (v:=.tuple #[]) (by simp [results,Tryd.results84,go_sem]) rfl ⟨rfl,?_,?_⟩
     ·rw [HE.out.1,HE.out.2.1,HWR.out]
      simp only [HQ.out];exact HK.out.1
     ·exact (ten3_grown HG.out HZ.out.1 HZ.out.2.2.2.2 HK.out.2)
 have hwr:wrongT t = true:=by unfold wrongT;rw [if_neg h1,if_neg h7,if_neg h9]
 have f1:(t.type == 1) = false:=beq_eq_false_iff_ne.2 h1
 have f7:(t.type == 7) = false:=beq_eq_false_iff_ne.2 h7
 have f9:(t.type == 9) = false:=beq_eq_false_iff_ne.2 h9
 have HWR:=Lib.hid hwr
 clear hwr h1 h7 h9
 go_wp2_with (with_reducible refine wpList_store_field rfl 4 _ _ rfl g 0 (.bool true) rfl rfl (by kernel_rfl) (by kernel_rfl) 133 [.bool b1,.bool m1] HY.out.2.2.2.at' (of_decide_eq_true (by kernel_rfl)) ?_;have hK:=HY.out.2.2.2.setB true;have hG:=grown_row w2 g (List.set [.bool b1,.bool m1] 0 (.bool true)).toArray;generalize World.setRow _ _ _ = w4 at hK hG ⊢;have HK:=Lib.hid (And.intro hK hG);clear hK hG;refine halt ?_)
 unfold Halt
 go_wp2
 refine bodyPost_end (v:=.tuple #[]) (by simp [results,Tryd.results84,go_sem]) rfl ⟨rfl,?_,grown_trans HG.out HK.out.2⟩
 rw [HE.out.2.1,HWR.out,Bool.or_true]
 exact HK.out.1
end Go.Proofs.YtgbkhcmbmffljaaDoor
