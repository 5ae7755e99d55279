/-
  A part of the proofs of chapter 08: walks of the package ops. No condition.
-/
import Derived.Test.YtgbkhcmbmffljaaDoorOpsL
namespace Go.Proofs.YtgbkhcmbmffljaaDoor
open Go.RowKit
open Rep (rep)

def zeroT : TensorD := ⟨0, [], [], [], []⟩
/-- The tensor that an attribute is. -/
def valueOfD (a : AttrD) : TensorD :=
  if a.kind = 1 then ⟨1, [], [a.f], [], []⟩ else if a.kind = 2 then ⟨7, [], [], [a.i], []⟩ else if a.kind = 6 then ⟨1, [(a.floats.length : Int)], a.floats, [], []⟩
  else if a.kind = 7 then ⟨7, [(a.ints.length : Int)], [], a.ints, []⟩ else a.t

theorem i64_1 : I64 1 := by unfold I64; omega
theorem i64_7 : I64 7 := by unfold I64; omega
theorem fresh_blk {n m b : Nat} (h : n ≤ b) (k : b < m) : (fresh n m).blk b := ⟨h, k⟩
/-- A tensor's five cells, empty, in block g. -/
def Ten (W : World) (g : Nat) : Prop := W.heap[g]? = some (.cells #[.int .i64 0, .slice none 0 0, .slice none 0 0, .slice none 0 0, .slice none 0 0] 43 (0, 0))
theorem Ten.lt {W : World} {g : Nat} (h : Ten W g) : g < W.heap.size := (Array.getElem?_eq_some_iff.1 h).1
theorem Ten.alloc {W : World} {g : Nat} (h : Ten W g) (o : Obj) : Ten (W.alloc o) g := (Below.heap_alloc W o g h.lt).trans h
theorem Ten.drew {W : World} {g : Nat} (h : Ten W g) : Ten W.drew g := h
theorem Ten.below {W W' : World} {g : Nat} (h : Ten W g) (hb : Below W.heap.size W W') : Ten W' g := (hb.block g h.lt).trans h
theorem Ten.cells {W : World} {g : Nat} (h : Ten W g) : W.cell? ⟨g, 0, none⟩ = some (.int .i64 0) ∧ W.cell? ⟨g, 1, none⟩ = some (.slice none 0 0) ∧ W.cell? ⟨g, 2, none⟩ = some (.slice none 0 0) ∧ W.cell? ⟨g, 3, none⟩ = some (.slice none 0 0) ∧ W.cell? ⟨g, 4, none⟩ = some (.slice none 0 0) :=
  ⟨cell_of_row _ _ _ _ _ _ h, cell_of_row _ _ _ _ _ _ h, cell_of_row _ _ _ _ _ _ h, cell_of_row _ _ _ _ _ _ h, cell_of_row _ _ _ _ _ _ h⟩
theorem Ten.free {W : World} {g : Nat} (h : Ten W g) (o : Nat) : W.frozen? ⟨g, o, none⟩ = false := by unfold Ten at h; simp [World.frozen?, h]
theorem set_as_row {W : World} {g j : Nat} {cs : Array Value} {t : TypeId} {fr : Nat × Nat} (h : W.heap[g]? = some (.cells cs t fr)) (v : Value) : W.setCell ⟨g, j, none⟩ v = W.setRow g (cs.setIfInBounds j v) := by
  simp only [World.setCell, World.setRow]
  congr 1
  apply Array.ext_getElem?
  intro k
  simp only [Array.getElem?_modify]
  by_cases hk : g = k
  · subst hk
    rw [h]
    rfl
  · rw [if_neg hk, if_neg hk]
theorem row_row (W : World) (g : Nat) (cs cs' : Array Value) : (W.setRow g cs).setRow g cs' = W.setRow g cs' := by
  simp only [World.setRow]
  congr 1
  apply Array.ext_getElem?
  intro k
  simp only [Array.getElem?_modify]
  by_cases hk : g = k
  · subst hk
    rw [if_pos rfl, if_pos rfl, if_pos rfl]
    cases W.heap[g]? with
    | none => rfl
    | some o => cases o <;> rfl
  · rw [if_neg hk, if_neg hk, if_neg hk]
theorem ten_set {W : World} {g : Nat} (h : Ten W g) (v0 v1 v2 v3 v4 : Value) : ((((W.setCell ⟨g, 0, none⟩ v0).setCell ⟨g, 1, none⟩ v1).setCell ⟨g, 2, none⟩ v2).setCell ⟨g, 3, none⟩ v3).setCell ⟨g, 4, none⟩ v4 = W.setRow g [v0, v1, v2, v3, v4].toArray := by
  unfold Ten at h
  have s : ∀ (cs : Array Value) (j : Nat) (v : Value), (W.setRow g cs).setCell ⟨g, j, none⟩ v = W.setRow g (cs.setIfInBounds j v) := fun cs j v => by
    rw [set_as_row (heap_setRow W g cs _ _ h), row_row]
  rw [set_as_row h, s, s, s, s]
  rfl
theorem keep_row {W : World} {g n m : Nat} (hg : g < n) (cs : Array Value) : Keeps (fresh n m) W (W.setRow g cs) := .of_block fun k hk => heap_setRow_other _ _ _ _ (by have := hk.1; omega)
theorem old_row {W : World} {g n : Nat} (hg : n ≤ g) (cs : Array Value) : Keeps (old n) W (W.setRow g cs) := .of_block fun k hk => heap_setRow_other _ _ _ _ (by have : k < n := hk; omega)
theorem ten_row {W : World} {g : Nat} (h : Ten W g) (cs : List Value) : (W.setRow g cs.toArray).heap[g]? = some (.cells cs.toArray 43 (0, 0)) := heap_setRow _ _ _ _ _ h
theorem sliced {α : Type} [Rep α] {l : List α} {e : Ending} {W w' : World} (h : ∃ v', e = .returned v' ∧ rep w' (fresh W.heap.size w'.heap.size) [v'] l ∧ Below W.heap.size W w') :
    ∃ A' c', e = .returned (.slice A' l.length c') ∧ rep w' (fresh W.heap.size w'.heap.size) [.slice A' l.length c'] l ∧ Below W.heap.size W w' := by
  obtain ⟨v', he, hv, hb⟩ := h
  obtain ⟨A, c, hf⟩ := slice_form hv
  simp only [List.cons.injEq, and_true] at hf
  exact ⟨A, c, by rw [he, hf], by rw [← hf]; exact hv, hb⟩
theorem rep_single {α : Type} [Rep α] {w : World} {Z : Zone} {g : Nat} {t : TypeId} {v : Value} {x : α} (hb : Rep.bytes α ≤ 1000) (hg : w.heap[g]? = some (.cells #[v] t (0, 0))) (hx : rep w Z [v] x) (hZ : Z.blk g) : rep w Z [.slice (some ⟨g, 0, none⟩) 1 1] [x] :=
  ⟨_, 1, 1, [v], rfl, rfl, Nat.le_refl _, by unfold maxLen; omega, by unfold reach; omega, fun _ => ⟨g, 0, rfl, hZ, fun j u hu => ⟨by rw [cell_of_row _ _ _ _ _ _ hg]; simpa using hu, fun _ => by simp [World.frozen?, hg]⟩⟩, Chunks.single hx⟩

set_option maxRecDepth 100000 in
set_option maxHeartbeats 1000000 in
theorem valueOf_1 (cs : List Value) (a : AttrD) (w : World) (hr : rep w (old w.heap.size) cs a) (hk : a.kind = 1) :
    Calls Tryd.prog 73 #[.agg cs.toArray] w fun e w' => ∃ ts : List Value, e = .returned (.agg ts.toArray) ∧ rep w' (fresh w.heap.size w'.heap.size) ts (valueOfD a) ∧ Below w.heap.size w w' := by
  obtain ⟨A1, k1, A2, k2, A3, k3, A4, k4, A5, k5, A6, k6, rfl, h0, h1, h2, h3, h4, ht, hf, hi⟩ := open_AttrD hr
  have hv : valueOfD a = ⟨1, [], [a.f], [], []⟩ := by unfold valueOfD; rw [if_pos hk]
  rw [hv, hk]
  have H := Lib.hid h2
  clear hr h0 h1 h2 h3 h4 ht hf hi hv hk
  go_enter Tryd.func73, Tryd.ntmps73
  go_wp2
  refine bodyPost_ret (v := .agg #[.int .i64 1, .slice none 0 0, .slice (some ⟨w.heap.size + 2, 0, none⟩) 1 1, .slice none 0 0, .slice none 0 0]) (by simp [results, Tryd.results73, go_sem]) rfl ?_
  refine ⟨[.int .i64 1, .slice none 0 0, .slice (some ⟨w.heap.size + 2, 0, none⟩) 1 1, .slice none 0 0, .slice none 0 0], rfl, ?_, ?_⟩
  · have key : ∀ W : World, W.heap.size = w.heap.size + 2 → rep (W.alloc (.cells #[.int .u32 (a.f : Int)] 38)) (fresh w.heap.size (W.alloc (.cells #[.int .u32 (a.f : Int)] 38)).heap.size) [.int .i64 1, .slice none 0 0, .slice (some ⟨w.heap.size + 2, 0, none⟩) 1 1, .slice none 0 0, .slice none 0 0] (⟨1, [], [a.f], [], []⟩ : TensorD) := fun W hW => by
      have hg := heap_alloc_new W (.cells #[.int .u32 (a.f : Int)] 38)
      rw [hW] at hg
      exact shut_TensorD (a := ⟨1, [], [a.f], [], []⟩) i64_1 (rep_nil _ _) (rep_single (by decide) hg ⟨rfl, H.out⟩ (fresh_blk (by omega) (by rw [World.size_alloc, hW]; omega))) (rep_nil _ _) (rep_nil _ _)
    exact key _ (by simp)
  · go_grown

set_option maxRecDepth 100000 in
set_option maxHeartbeats 1000000 in
theorem valueOf_2 (cs : List Value) (a : AttrD) (w : World) (hr : rep w (old w.heap.size) cs a) (hk : a.kind = 2) :
    Calls Tryd.prog 73 #[.agg cs.toArray] w fun e w' => ∃ ts : List Value, e = .returned (.agg ts.toArray) ∧ rep w' (fresh w.heap.size w'.heap.size) ts (valueOfD a) ∧ Below w.heap.size w w' := by
  obtain ⟨A1, k1, A2, k2, A3, k3, A4, k4, A5, k5, A6, k6, rfl, h0, h1, h2, h3, h4, ht, hf, hi⟩ := open_AttrD hr
  have hv : valueOfD a = ⟨7, [], [], [a.i], []⟩ := by unfold valueOfD; rw [if_neg (by omega), if_pos hk]
  rw [hv, hk]
  have H := Lib.hid h3
  clear hr h0 h1 h2 h3 h4 ht hf hi hv hk
  go_enter Tryd.func73, Tryd.ntmps73
  go_wp2
  refine bodyPost_ret (v := .agg #[.int .i64 7, .slice none 0 0, .slice none 0 0, .slice (some ⟨w.heap.size + 2, 0, none⟩) 1 1, .slice none 0 0]) (by simp [results, Tryd.results73, go_sem]) rfl ?_
  refine ⟨[.int .i64 7, .slice none 0 0, .slice none 0 0, .slice (some ⟨w.heap.size + 2, 0, none⟩) 1 1, .slice none 0 0], rfl, ?_, ?_⟩
  · have key : ∀ W : World, W.heap.size = w.heap.size + 2 → rep (W.alloc (.cells #[.int .i64 a.i] 2)) (fresh w.heap.size (W.alloc (.cells #[.int .i64 a.i] 2)).heap.size) [.int .i64 7, .slice none 0 0, .slice none 0 0, .slice (some ⟨w.heap.size + 2, 0, none⟩) 1 1, .slice none 0 0] (⟨7, [], [], [a.i], []⟩ : TensorD) := fun W hW => by
      have hg := heap_alloc_new W (.cells #[.int .i64 a.i] 2)
      rw [hW] at hg
      exact shut_TensorD (a := ⟨7, [], [], [a.i], []⟩) i64_7 (rep_nil _ _) (rep_nil _ _) (rep_single (by decide) hg ⟨rfl, H.out⟩ (fresh_blk (by omega) (by rw [World.size_alloc, hW]; omega))) (rep_nil _ _)
    exact key _ (by simp)
  · go_grown

set_option maxRecDepth 100000 in
set_option maxHeartbeats 2000000 in
theorem valueOf_6 (cs : List Value) (a : AttrD) (w : World) (hr : rep w (old w.heap.size) cs a) (hk : a.kind = 6) :
    Calls Tryd.prog 73 #[.agg cs.toArray] w fun e w' => ∃ ts : List Value, e = .returned (.agg ts.toArray) ∧ rep w' (fresh w.heap.size w'.heap.size) ts (valueOfD a) ∧ Below w.heap.size w w' := by
  obtain ⟨A1, k1, A2, k2, A3, k3, A4, k4, A5, k5, A6, k6, rfl, h0, h1, h2, h3, h4, ht, hf, hi⟩ := open_AttrD hr
  have hv : valueOfD a = (⟨1, [(a.floats.length : Int)], a.floats, [], []⟩ : TensorD) := by unfold valueOfD; rw [if_neg (by omega), if_neg (by omega), if_pos hk]
  have hlen : I64 (a.floats.length : Int) := by
    obtain ⟨_, _, _, _, hx, hy, _⟩ := open_slice hf
    unfold I64; omega
  rw [hv, hk]
  have H := Lib.hid (And.intro hf hlen)
  clear hr h0 h1 h2 h3 h4 ht hf hi hv hk hlen
  go_enter Tryd.func73, Tryd.ntmps73
  go_wp2
  have hS : ∀ W : World, Below w.heap.size w W → Calls Tryd.prog 108 #[.slice A5 a.floats.length k5] W fun e w' => ∃ A' c', e = .returned (.slice A' a.floats.length c') ∧ rep w' (fresh W.heap.size w'.heap.size) [.slice A' a.floats.length c'] a.floats ∧ Below W.heap.size W w' :=
    fun W hW => (clone_u32s a.floats _ W (Rep.more (Rep.keep H.out.1 (Keeps.old_below hW (Nat.le_refl _))) (old_le hW.size))).mono (fun _ _ h => sliced h)
  have HS := Lib.hid hS
  clear hS
  obtain ⟨W0, hW0⟩ : ∃ W0 : World, W0 = ((w.alloc (.cells #[.string a.name, .int .i64 6, .int .u32 (a.f : Int), .int .i64 a.i, .string a.s, .int .i64 a.t.type, .slice A1 a.t.dims.length k1, .slice A2 a.t.f.length k2, .slice A3 a.t.i.length k3, .slice A4 a.t.b.length k4, .slice A5 a.floats.length k5, .slice A6 a.ints.length k6] 52)).alloc (.cells #[.int .i64 0, .slice none 0 0, .slice none 0 0, .slice none 0 0, .slice none 0 0] 43)) := ⟨_, rfl⟩
  have hB : Below w.heap.size w W0 := by rw [hW0]; go_grown
  have hz0 : W0.heap.size = w.heap.size + 2 := by rw [hW0]; simp
  have hT : Ten W0 (w.heap.size + 1) := by
    rw [hW0]
    have := heap_alloc_new (w.alloc (.cells #[.string a.name, .int .i64 6, .int .u32 (a.f : Int), .int .i64 a.i, .string a.s, .int .i64 a.t.type, .slice A1 a.t.dims.length k1, .slice A2 a.t.f.length k2, .slice A3 a.t.i.length k3, .slice A4 a.t.b.length k4, .slice A5 a.floats.length k5, .slice A6 a.ints.length k6] 52)) (.cells #[.int .i64 0, .slice none 0 0, .slice none 0 0, .slice none 0 0, .slice none 0 0] 43)
    rw [World.size_alloc] at this
    exact this
  have hc : W0.cell? ⟨w.heap.size, 10, none⟩ = some (.slice A5 a.floats.length k5) := by
    rw [hW0]; exact cell_new2 _ _ _ _ _
  rw [← hW0]
  have HB := Lib.hid (And.intro hB (And.intro hz0 hT))
  clear hB hT hW0
  have hsz : w.heap.size + 1 < W0.heap.size := by omega
  clear hz0
  go_region_held3 (fun w' => w'.cell? ⟨w.heap.size, 10, none⟩ = some (.slice A5 a.floats.length k5))
    (first | go_keep)
    (first
      | (go_at_call 108; refine (HS.out _ (by first | exact HB.out.1.drew | exact (HB.out.1.alloc HB.out.1.size _).drew)).mono ?_; rintro e w3 ⟨A', c', rfl, hv', hb3⟩; have ht3 : Ten w3 (w.heap.size + 1) := (by first | exact Ten.below HB.out.2.2.drew hb3 | exact Ten.below (HB.out.2.2.alloc _).drew hb3); have t3 := ht3.cells; have u3 := ht3.free; have s3 := ht3.lt; have hk3 : w3.cell? ⟨w.heap.size, 10, none⟩ = some (.slice A5 a.floats.length k5) := (hb3.cell (p := ⟨w.heap.size, 10, none⟩) (by simp; omega)).trans (by first | exact hc | exact (World.cell?_alloc_lt W0 _ ⟨w.heap.size, 10, none⟩ (by simp; omega)).trans hc); have HT3 := Lib.hid (And.intro ht3 (And.intro hv' hb3)); clear ht3 hv' hb3))
  all_goals go_wp2
  · obtain ⟨hB, hz0, hT⟩ := HB.out
    obtain ⟨ht3, hv', hb3⟩ := HT3.out
    rw [ten_set ht3]
    have hsz3 := hb3.size
    simp only [World.size_drew, World.size_alloc] at hsz3
    have hrow := ten_row ht3 [.int .i64 1, .slice (some ⟨W0.heap.size, 0, none⟩) 1 1, .slice A' a.floats.length c', .slice none 0 0, .slice none 0 0]
    refine bodyPost_ret (results_cell_row rfl _ _ (w.heap.size + 1) 43 _ (0, 0) _ rfl hrow Tryd.underlying43 rfl (by kernel_rfl)) rfl ⟨_, rfl, ?_, below_setRow' (((hB.alloc hB.size _).drew).trans (hb3.mono (by simp; omega))) (by omega) _⟩
    have hd : (w3.setRow (w.heap.size + 1) [.int .i64 1, .slice (some ⟨W0.heap.size, 0, none⟩) 1 1, .slice A' a.floats.length c', .slice none 0 0, .slice none 0 0].toArray).heap[W0.heap.size]? = some (.cells #[.int .i64 (a.floats.length : Int)] 3 (0, 0)) := by
      rw [heap_setRow_other _ _ _ _ (by omega), hb3.block _ (by simp)]
      exact heap_alloc_new W0 _
    have hvk := Rep.keep hv' (keep_row (g := w.heap.size + 1) (by simp; omega) [.int .i64 1, .slice (some ⟨W0.heap.size, 0, none⟩) 1 1, .slice A' a.floats.length c', .slice none 0 0, .slice none 0 0].toArray)
    have hvz := Rep.more hvk (fresh_le (n' := w.heap.size) (m' := (w3.setRow (w.heap.size + 1) [.int .i64 1, .slice (some ⟨W0.heap.size, 0, none⟩) 1 1, .slice A' a.floats.length c', .slice none 0 0, .slice none 0 0].toArray).heap.size) (by simp; omega) (by rw [size_setRow]; exact Nat.le_refl _))
    exact shut_TensorD (a := (⟨1, [(a.floats.length : Int)], a.floats, [], []⟩ : TensorD)) i64_1 (rep_single (by decide) hd ⟨rfl, H.out.2⟩ (fresh_blk (by omega) (by rw [size_setRow]; omega))) hvz (rep_nil _ _) (rep_nil _ _)
  · obtain ⟨hB, hz0, hT⟩ := HB.out
    obtain ⟨ht3, hv', hb3⟩ := HT3.out
    rw [ten_set ht3]
    have hsz3 := hb3.size
    simp only [World.size_drew] at hsz3
    have hrow0 := ten_row ht3 [.int .i64 1, .slice (some ⟨w3.heap.size, 0, none⟩) 1 1, .slice A' a.floats.length c', .slice none 0 0, .slice none 0 0]
    have hrow : ((w3.setRow (w.heap.size + 1) [.int .i64 1, .slice (some ⟨w3.heap.size, 0, none⟩) 1 1, .slice A' a.floats.length c', .slice none 0 0, .slice none 0 0].toArray).alloc (.cells #[.int .i64 (a.floats.length : Int)] 3)).heap[w.heap.size + 1]? = _ := (Below.heap_alloc _ _ _ (by rw [size_setRow]; omega)).trans hrow0
    refine bodyPost_ret (results_cell_row rfl _ _ (w.heap.size + 1) 43 _ (0, 0) _ rfl hrow Tryd.underlying43 rfl (by kernel_rfl)) rfl ⟨_, rfl, ?_, (below_setRow' (hB.drew.trans (hb3.mono (by simp; omega))) (by omega) _).alloc (by rw [size_setRow]; omega) _⟩
    have hd := heap_alloc_new (w3.setRow (w.heap.size + 1) [.int .i64 1, .slice (some ⟨w3.heap.size, 0, none⟩) 1 1, .slice A' a.floats.length c', .slice none 0 0, .slice none 0 0].toArray) (.cells #[.int .i64 (a.floats.length : Int)] 3)
    rw [size_setRow] at hd
    have hvk := Rep.keep (Rep.keep hv' (keep_row (g := w.heap.size + 1) (by simp; omega) [.int .i64 1, .slice (some ⟨w3.heap.size, 0, none⟩) 1 1, .slice A' a.floats.length c', .slice none 0 0, .slice none 0 0].toArray)) (Keeps.alloc (fun k hk => by rw [size_setRow]; exact hk.2) (.cells #[.int .i64 (a.floats.length : Int)] 3))
    have hvz := Rep.more hvk (fresh_le (n' := w.heap.size) (m' := ((w3.setRow (w.heap.size + 1) [.int .i64 1, .slice (some ⟨w3.heap.size, 0, none⟩) 1 1, .slice A' a.floats.length c', .slice none 0 0, .slice none 0 0].toArray).alloc (.cells #[.int .i64 (a.floats.length : Int)] 3)).heap.size) (by simp; omega) (by rw [World.size_alloc, size_setRow]; omega))
    exact shut_TensorD (a := (⟨1, [(a.floats.length : Int)], a.floats, [], []⟩ : TensorD)) i64_1 (rep_single (by decide) hd ⟨rfl, H.out.2⟩ (fresh_blk (by omega) (by rw [World.size_alloc, size_setRow]; omega))) hvz (rep_nil _ _) (rep_nil _ _)

set_option maxRecDepth 100000 in
set_option maxHeartbeats 2000000 in
theorem valueOf_7 (cs : List Value) (a : AttrD) (w : World) (hr : rep w (old w.heap.size) cs a) (hk : a.kind = 7) :
    Calls Tryd.prog 73 #[.agg cs.toArray] w fun e w' => ∃ ts : List Value, e = .returned (.agg ts.toArray) ∧ rep w' (fresh w.heap.size w'.heap.size) ts (valueOfD a) ∧ Below w.heap.size w w' := by
  obtain ⟨A1, k1, A2, k2, A3, k3, A4, k4, A5, k5, A6, k6, rfl, h0, h1, h2, h3, h4, ht, hf, hi⟩ := open_AttrD hr
  have hv : valueOfD a = (⟨7, [(a.ints.length : Int)], [], a.ints, []⟩ : TensorD) := by unfold valueOfD; rw [if_neg (by omega), if_neg (by omega), if_neg (by omega), if_pos hk]
  have hlen : I64 (a.ints.length : Int) := by
    obtain ⟨_, _, _, _, hx, hy, _⟩ := open_slice hi
    unfold I64; omega
  rw [hv, hk]
  have H := Lib.hid (And.intro hi hlen)
  clear hr h0 h1 h2 h3 h4 ht hf hi hv hk hlen
  go_enter Tryd.func73, Tryd.ntmps73
  go_wp2
  have hS : ∀ W : World, Below w.heap.size w W → Calls Tryd.prog 109 #[.slice A6 a.ints.length k6] W fun e w' => ∃ A' c', e = .returned (.slice A' a.ints.length c') ∧ rep w' (fresh W.heap.size w'.heap.size) [.slice A' a.ints.length c'] a.ints ∧ Below W.heap.size W w' :=
    fun W hW => (clone_i64s a.ints _ W (Rep.more (Rep.keep H.out.1 (Keeps.old_below hW (Nat.le_refl _))) (old_le hW.size))).mono (fun _ _ h => sliced h)
  have HS := Lib.hid hS
  clear hS
  obtain ⟨W0, hW0⟩ : ∃ W0 : World, W0 = ((w.alloc (.cells #[.string a.name, .int .i64 7, .int .u32 (a.f : Int), .int .i64 a.i, .string a.s, .int .i64 a.t.type, .slice A1 a.t.dims.length k1, .slice A2 a.t.f.length k2, .slice A3 a.t.i.length k3, .slice A4 a.t.b.length k4, .slice A5 a.floats.length k5, .slice A6 a.ints.length k6] 52)).alloc (.cells #[.int .i64 0, .slice none 0 0, .slice none 0 0, .slice none 0 0, .slice none 0 0] 43)) := ⟨_, rfl⟩
  have hB : Below w.heap.size w W0 := by rw [hW0]; go_grown
  have hz0 : W0.heap.size = w.heap.size + 2 := by rw [hW0]; simp
  have hT : Ten W0 (w.heap.size + 1) := by
    rw [hW0]
    have := heap_alloc_new (w.alloc (.cells #[.string a.name, .int .i64 7, .int .u32 (a.f : Int), .int .i64 a.i, .string a.s, .int .i64 a.t.type, .slice A1 a.t.dims.length k1, .slice A2 a.t.f.length k2, .slice A3 a.t.i.length k3, .slice A4 a.t.b.length k4, .slice A5 a.floats.length k5, .slice A6 a.ints.length k6] 52)) (.cells #[.int .i64 0, .slice none 0 0, .slice none 0 0, .slice none 0 0, .slice none 0 0] 43)
    rw [World.size_alloc] at this
    exact this
  have hc : W0.cell? ⟨w.heap.size, 11, none⟩ = some (.slice A6 a.ints.length k6) := by
    rw [hW0]; exact cell_new2 _ _ _ _ _
  rw [← hW0]
  have HB := Lib.hid (And.intro hB (And.intro hz0 hT))
  clear hB hT hW0
  have hsz : w.heap.size + 1 < W0.heap.size := by omega
  clear hz0
  go_region_held3 (fun w' => w'.cell? ⟨w.heap.size, 11, none⟩ = some (.slice A6 a.ints.length k6))
    (first | go_keep)
    (first
      | (go_at_call 109; refine (HS.out _ (by first | exact HB.out.1.drew | exact (HB.out.1.alloc HB.out.1.size _).drew)).mono ?_; rintro e w3 ⟨A', c', rfl, hv', hb3⟩; have ht3 : Ten w3 (w.heap.size + 1) := (by first | exact Ten.below HB.out.2.2.drew hb3 | exact Ten.below (HB.out.2.2.alloc _).drew hb3); have t3 := ht3.cells; have u3 := ht3.free; have s3 := ht3.lt; have hk3 : w3.cell? ⟨w.heap.size, 11, none⟩ = some (.slice A6 a.ints.length k6) := (hb3.cell (p := ⟨w.heap.size, 11, none⟩) (by simp; omega)).trans (by first | exact hc | exact (World.cell?_alloc_lt W0 _ ⟨w.heap.size, 11, none⟩ (by simp; omega)).trans hc); have HT3 := Lib.hid (And.intro ht3 (And.intro hv' hb3)); clear ht3 hv' hb3))
  all_goals go_wp2
  · obtain ⟨hB, hz0, hT⟩ := HB.out
    obtain ⟨ht3, hv', hb3⟩ := HT3.out
    rw [ten_set ht3]
    have hsz3 := hb3.size
    simp only [World.size_drew, World.size_alloc] at hsz3
    have hrow := ten_row ht3 [.int .i64 7, .slice (some ⟨W0.heap.size, 0, none⟩) 1 1, .slice none 0 0, .slice A' a.ints.length c', .slice none 0 0]
    refine bodyPost_ret (results_cell_row rfl _ _ (w.heap.size + 1) 43 _ (0, 0) _ rfl hrow Tryd.underlying43 rfl (by kernel_rfl)) rfl ⟨_, rfl, ?_, below_setRow' (((hB.alloc hB.size _).drew).trans (hb3.mono (by simp; omega))) (by omega) _⟩
    have hd : (w3.setRow (w.heap.size + 1) [.int .i64 7, .slice (some ⟨W0.heap.size, 0, none⟩) 1 1, .slice none 0 0, .slice A' a.ints.length c', .slice none 0 0].toArray).heap[W0.heap.size]? = some (.cells #[.int .i64 (a.ints.length : Int)] 3 (0, 0)) := by
      rw [heap_setRow_other _ _ _ _ (by omega), hb3.block _ (by simp)]
      exact heap_alloc_new W0 _
    have hvk := Rep.keep hv' (keep_row (g := w.heap.size + 1) (by simp; omega) [.int .i64 7, .slice (some ⟨W0.heap.size, 0, none⟩) 1 1, .slice none 0 0, .slice A' a.ints.length c', .slice none 0 0].toArray)
    have hvz := Rep.more hvk (fresh_le (n' := w.heap.size) (m' := (w3.setRow (w.heap.size + 1) [.int .i64 7, .slice (some ⟨W0.heap.size, 0, none⟩) 1 1, .slice none 0 0, .slice A' a.ints.length c', .slice none 0 0].toArray).heap.size) (by simp; omega) (by rw [size_setRow]; exact Nat.le_refl _))
    exact shut_TensorD (a := (⟨7, [(a.ints.length : Int)], [], a.ints, []⟩ : TensorD)) i64_7 (rep_single (by decide) hd ⟨rfl, H.out.2⟩ (fresh_blk (by omega) (by rw [size_setRow]; omega))) (rep_nil _ _) hvz (rep_nil _ _)
  · obtain ⟨hB, hz0, hT⟩ := HB.out
    obtain ⟨ht3, hv', hb3⟩ := HT3.out
    rw [ten_set ht3]
    have hsz3 := hb3.size
    simp only [World.size_drew] at hsz3
    have hrow0 := ten_row ht3 [.int .i64 7, .slice (some ⟨w3.heap.size, 0, none⟩) 1 1, .slice none 0 0, .slice A' a.ints.length c', .slice none 0 0]
    have hrow : ((w3.setRow (w.heap.size + 1) [.int .i64 7, .slice (some ⟨w3.heap.size, 0, none⟩) 1 1, .slice none 0 0, .slice A' a.ints.length c', .slice none 0 0].toArray).alloc (.cells #[.int .i64 (a.ints.length : Int)] 3)).heap[w.heap.size + 1]? = _ := (Below.heap_alloc _ _ _ (by rw [size_setRow]; omega)).trans hrow0
    refine bodyPost_ret (results_cell_row rfl _ _ (w.heap.size + 1) 43 _ (0, 0) _ rfl hrow Tryd.underlying43 rfl (by kernel_rfl)) rfl ⟨_, rfl, ?_, (below_setRow' (hB.drew.trans (hb3.mono (by simp; omega))) (by omega) _).alloc (by rw [size_setRow]; omega) _⟩
    have hd := heap_alloc_new (w3.setRow (w.heap.size + 1) [.int .i64 7, .slice (some ⟨w3.heap.size, 0, none⟩) 1 1, .slice none 0 0, .slice A' a.ints.length c', .slice none 0 0].toArray) (.cells #[.int .i64 (a.ints.length : Int)] 3)
    rw [size_setRow] at hd
    have hvk := Rep.keep (Rep.keep hv' (keep_row (g := w.heap.size + 1) (by simp; omega) [.int .i64 7, .slice (some ⟨w3.heap.size, 0, none⟩) 1 1, .slice none 0 0, .slice A' a.ints.length c', .slice none 0 0].toArray)) (Keeps.alloc (fun k hk => by rw [size_setRow]; exact hk.2) (.cells #[.int .i64 (a.ints.length : Int)] 3))
    have hvz := Rep.more hvk (fresh_le (n' := w.heap.size) (m' := ((w3.setRow (w.heap.size + 1) [.int .i64 7, .slice (some ⟨w3.heap.size, 0, none⟩) 1 1, .slice none 0 0, .slice A' a.ints.length c', .slice none 0 0].toArray).alloc (.cells #[.int .i64 (a.ints.length : Int)] 3)).heap.size) (by simp; omega) (by rw [World.size_alloc, size_setRow]; omega))
    exact shut_TensorD (a := (⟨7, [(a.ints.length : Int)], [], a.ints, []⟩ : TensorD)) i64_7 (rep_single (by decide) hd ⟨rfl, H.out.2⟩ (fresh_blk (by omega) (by rw [World.size_alloc, size_setRow]; omega))) (rep_nil _ _) hvz (rep_nil _ _)

end Go.Proofs.YtgbkhcmbmffljaaDoor
