/-
  The document's examples of chapter 08, as data.
-/
import Derived.Test.YtgbkhcmbmffljaaDoorResC
import Derived.Test.YtgbkhcmbmffljaaDoorResV
set_option linter.unusedSimpArgs false
set_option maxRecDepth 100000
namespace Go.Proofs.YtgbkhcmbmffljaaDoor
open Go.RowKit
open Rep (rep)

def bGemm : ByteArray := ⟨#[71, 101, 109, 109]⟩
def bFoo : ByteArray := ⟨#[70, 111, 111]⟩
def bA : ByteArray := ⟨#[97]⟩
def bB : ByteArray := ⟨#[98]⟩
def bY : ByteArray := ⟨#[121]⟩
def bE : ByteArray := ⟨#[]⟩
def attrT (i : Int) : AttrD := ⟨s_transB, 2, 0, i, bE, ⟨0, [], [], [], []⟩, [], []⟩
def node1 (i : Int) : NodeD := ⟨bGemm, bE, [bA, bB], [bY], [attrT i]⟩
def node3 : NodeD := ⟨bGemm, bE, [bA], [bY], []⟩
def node4 : NodeD := ⟨bFoo, bE, [], [], []⟩
theorem num_gemm : numberD bGemm = 74 := by decide +kernel
theorem num_foo : numberD bFoo = 0 := by decide +kernel
theorem counts1 (i : Int) : countsD (findD 74) (node1 i) = true := by
  have h : countsD (findD 74) (node1 0) = true := by decide +kernel
  exact h
theorem counts3 : countsD (findD 74) node3 = false := by decide +kernel
theorem step1 : stepD 74 (node1 1).attrs (sortsD (findD 74)) (leftD 74) 0 = some (setD 74 (attrT 1) (leftD 74), 1) := by kernel_rfl
theorem step2 : stepD 74 (node1 2).attrs (sortsD (findD 74)) (leftD 74) 0 = none := by kernel_rfl
theorem answer1 : ∃ s, resolveD (node1 1) = (74, s, 0) ∧ s.alpha = 1065353216 ∧ s.transB = true ∧ s.transA = false := by
  have e : setD 74 (attrT 1) (leftD 74) = { leftD 74 with transB := true } := set_at_transB 74 (attrT 1) (leftD 74) rfl
  refine ⟨_, resolve_good num_gemm (by decide) (counts1 1) step1 ?_, ?_, ?_, ?_⟩
  · rintro (h | ⟨h, _⟩ | ⟨h, _⟩)
    · exact h rfl
    · exact absurd h (by decide)
    · rw [e] at h; exact h rfl
  · rw [e]; rfl
  · rw [e]
  · rw [e]; rfl
theorem answer2 : resolveD (node1 2) = (0, settingD0, 14) := resolve_none num_gemm (by decide) (counts1 2) step2
theorem answer3 : resolveD node3 = (0, settingD0, 1) := by
  unfold resolveD
  rw [show node3.op = bGemm from rfl, num_gemm, if_neg (by decide), if_pos counts3]
theorem answer4 : resolveD node4 = (0, settingD0, 7) := by
  unfold resolveD
  rw [show node4.op = bFoo from rfl, num_foo, if_pos rfl]
theorem num_Conv : numberD ⟨#[67, 111, 110, 118]⟩ = 75 := by decide +kernel
theorem num_conv : numberD ⟨#[99, 111, 110, 118]⟩ = 0 := by decide +kernel
theorem name_80 : (findD 80).name = ⟨#[76, 97, 121, 101, 114, 78, 111, 114, 109, 97, 108, 105, 122, 97, 116, 105, 111, 110]⟩ := by decide +kernel
theorem name_81 : (findD 81).name = ⟨#[]⟩ := by decide +kernel
theorem arity_48 : (findD 48).least = 1 ∧ (findD 48).most = 2 ∧ (findD 48).out = 1 ∧ (findD 48).mostOuts = 64 := by decide +kernel
theorem names_32 : (sortsD (findD 32)).map (·.name) = [⟨#[102, 109, 111, 100]⟩] := by decide +kernel

/-- A row of a block as a list. -/
theorem rep_block {α : Type} [Rep α] {w : World} {Z : Zone} {g : Nat} {t : TypeId} {xs : List Value} {l : List α} {n : Nat} (hg : w.heap[g]? = some (.cells xs.toArray t (0, 0))) (hc : Chunks w Z xs l) (hn : l.length = n) (hb : n * Rep.bytes α ≤ 1000000) (hm : n ≤ 1000) (hZ : Z.blk g) :
    rep w Z [.slice (some ⟨g, 0, none⟩) n n] l := by
  refine ⟨_, n, n, xs, rfl, hn.symm, Nat.le_refl _, by unfold maxLen; omega, by unfold reach; omega, fun _ => ⟨g, 0, rfl, hZ, fun j u hu => ⟨?_, fun _ => by simp [World.frozen?, hg]⟩⟩, hc⟩
  rw [cell_of_row _ _ _ _ _ _ hg]
  simpa using hu
theorem chunks_str {w : World} {Z : Zone} : ∀ (l : List ByteArray), (∀ s ∈ l, s.size ≤ reach) → Chunks w Z (l.map Value.string) l
  | [], _ => rfl
  | s :: l, h => ⟨[.string s], l.map Value.string, rfl, ⟨rfl, h s (by simp)⟩, chunks_str l fun x hx => h x (by simp [hx])⟩
theorem rep_nilA {α : Type} [Rep α] (w : World) (Z : Zone) : rep w Z [.slice none 0 0] ([] : List α) := ⟨none, 0, 0, [], rfl, rfl, Nat.le_refl _, Nat.zero_le _, by simp [reach], Lies.nil _ _ _, rfl⟩
theorem rep_attrT {w : World} {Z : Zone} (i : Int) (hi : I64 i) : rep w Z [.string s_transB, .int .i64 2, .int .u32 0, .int .i64 i, .string bE, .int .i64 0, .slice none 0 0, .slice none 0 0, .slice none 0 0, .slice none 0 0, .slice none 0 0, .slice none 0 0] (attrT i) :=
  shut_AttrD (a := attrT i) (show s_transB.size ≤ reach by decide) (show I64 2 by unfold I64; omega) (show (0 : Nat) < 4294967296 by decide) hi (show bE.size ≤ reach by decide) (c5 := [.int .i64 0, .slice none 0 0, .slice none 0 0, .slice none 0 0, .slice none 0 0])
    (shut_TensorD (a := ⟨0, [], [], [], []⟩) I64_0 (c1 := [.slice none 0 0]) (rep_nilA _ _) (c2 := [.slice none 0 0]) (rep_nilA _ _) (c3 := [.slice none 0 0]) (rep_nilA _ _) (c4 := [.slice none 0 0]) (rep_nilA _ _)) (c6 := [.slice none 0 0]) (rep_nilA _ _) (c7 := [.slice none 0 0]) (rep_nilA _ _)
theorem rep_node1 (w : World) (i : Int) (hi : I64 i) (W : World)
    (hW : W = ((w.alloc (.cells #[.string bA, .string bB] 9)).alloc (.cells #[.string bY] 9)).alloc (.cells #[.string s_transB, .int .i64 2, .int .u32 0, .int .i64 i, .string bE, .int .i64 0, .slice none 0 0, .slice none 0 0, .slice none 0 0, .slice none 0 0, .slice none 0 0, .slice none 0 0] 52)) :
    rep W (old W.heap.size) [.string bGemm, .string bE, .slice (some ⟨w.heap.size, 0, none⟩) 2 2, .slice (some ⟨w.heap.size + 1, 0, none⟩) 1 1, .slice (some ⟨w.heap.size + 2, 0, none⟩) 1 1] (node1 i) ∧ Below w.heap.size w W ∧ W.heap.size = w.heap.size + 3 := by
  subst hW
  have h0 := heap_alloc_new w (.cells #[.string bA, .string bB] 9)
  have h1 := heap_alloc_new (w.alloc (.cells #[.string bA, .string bB] 9)) (.cells #[.string bY] 9)
  have h2 := heap_alloc_new ((w.alloc (.cells #[.string bA, .string bB] 9)).alloc (.cells #[.string bY] 9)) (.cells #[.string s_transB, .int .i64 2, .int .u32 0, .int .i64 i, .string bE, .int .i64 0, .slice none 0 0, .slice none 0 0, .slice none 0 0, .slice none 0 0, .slice none 0 0, .slice none 0 0] 52)
  simp only [World.size_alloc] at h1 h2
  refine ⟨shut_NodeD (a := node1 i) (show bGemm.size ≤ reach by decide) (show bE.size ≤ reach by decide) (c2 := [_]) (rep_block (n := 2) (t := 9) (xs := [bA, bB].map Value.string) ?_ (chunks_str [bA, bB] (by decide)) rfl (by decide) (by decide) (by simp only [old, World.size_alloc]; omega))
    (c3 := [_]) (rep_block (n := 1) (t := 9) (xs := [bY].map Value.string) ?_ (chunks_str [bY] (by decide)) rfl (by decide) (by decide) (by simp only [old, World.size_alloc]; omega)) (c4 := [_]) (rep_block (n := 1) (t := 52) (l := [attrT i]) h2 (Chunks.single (rep_attrT i hi)) rfl (by decide) (by decide) (by simp only [old, World.size_alloc]; omega)),
    ((((Below.refl _ _).alloc (Nat.le_refl _) _).alloc (by simp) _).alloc (by simp; omega) _), by simp⟩
  · rw [Below.heap_alloc _ _ _ (by simp; omega), Below.heap_alloc _ _ _ (by simp)]; exact h0
  · rw [Below.heap_alloc _ _ _ (by simp)]; exact h1
theorem rep_node3 (w : World) (W : World) (hW : W = (w.alloc (.cells #[.string bA] 9)).alloc (.cells #[.string bY] 9)) :
    rep W (old W.heap.size) [.string bGemm, .string bE, .slice (some ⟨w.heap.size, 0, none⟩) 1 1, .slice (some ⟨w.heap.size + 1, 0, none⟩) 1 1, .slice none 0 0] node3 ∧ Below w.heap.size w W ∧ W.heap.size = w.heap.size + 2 := by
  subst hW
  have h0 := heap_alloc_new w (.cells #[.string bA] 9)
  have h1 := heap_alloc_new (w.alloc (.cells #[.string bA] 9)) (.cells #[.string bY] 9)
  simp only [World.size_alloc] at h1
  refine ⟨shut_NodeD (a := node3) (by decide) (by decide) (c2 := [_]) (rep_block (n := 1) (t := 9) (xs := [bA].map Value.string) ?_ (chunks_str [bA] (by decide)) rfl (by decide) (by decide) (by simp only [old, World.size_alloc]; omega))
    (c3 := [_]) (rep_block (n := 1) (t := 9) (xs := [bY].map Value.string) h1 (chunks_str [bY] (by decide)) rfl (by decide) (by decide) (by simp only [old, World.size_alloc]; omega)) (c4 := [.slice none 0 0]) (rep_nilA _ _),
    (((Below.refl _ _).alloc (Nat.le_refl _) _).alloc (by simp) _), by simp⟩
  rw [Below.heap_alloc _ _ _ (by simp)]; exact h0
theorem rep_node4 (w : World) (Z : Zone) : rep w Z [.string bFoo, .string bE, .slice none 0 0, .slice none 0 0, .slice none 0 0] node4 :=
  shut_NodeD (a := node4) (by decide) (by decide) (c2 := [.slice none 0 0]) (rep_nilA _ _) (c3 := [.slice none 0 0]) (rep_nilA _ _) (c4 := [.slice none 0 0]) (rep_nilA _ _)
end Go.Proofs.YtgbkhcmbmffljaaDoor
