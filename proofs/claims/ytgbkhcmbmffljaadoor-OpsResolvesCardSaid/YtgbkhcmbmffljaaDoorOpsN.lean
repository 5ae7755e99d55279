/-
  A part of the proofs of chapter 08: walks of the package ops. No condition.
-/
import Derived.Test.YtgbkhcmbmffljaaDoorOpsM
namespace Go.Proofs.YtgbkhcmbmffljaaDoor
open Go.RowKit
open Rep (rep)

/-- Where 'valueOf' stands ahead of its last statement. -/
structure ValInv (w : World) (c0 c1 c2 c3 c4 : Value) (W : World) : Prop where
  below : Below w.heap.size w W
  ten : Ten W (w.heap.size + 1)
  row : W.heap[w.heap.size + 2]? = some (.cells #[c0, c1, c2, c3, c4] 43 (0, 0))
theorem ValInv.drew {w W : World} {c0 c1 c2 c3 c4 : Value} (h : ValInv w c0 c1 c2 c3 c4 W) : ValInv w c0 c1 c2 c3 c4 W.drew := ⟨h.below.drew, h.ten, h.row⟩
theorem ValInv.lt {w W : World} {c0 c1 c2 c3 c4 : Value} (h : ValInv w c0 c1 c2 c3 c4 W) : w.heap.size + 2 < W.heap.size := (Array.getElem?_eq_some_iff.1 h.row).1
theorem ValInv.next {w W W' : World} {c0 c1 c2 c3 c4 : Value} (h : ValInv w c0 c1 c2 c3 c4 W) (hb : Below W.heap.size W W') : ValInv w c0 c1 c2 c3 c4 W' :=
  ⟨h.below.trans (hb.mono (by have := h.lt; omega)), h.ten.below hb, (hb.block _ h.lt).trans h.row⟩
theorem ValInv.cells {w W : World} {c0 c1 c2 c3 c4 : Value} (h : ValInv w c0 c1 c2 c3 c4 W) : W.cell? ⟨w.heap.size + 2, 0, none⟩ = some c0 ∧ W.cell? ⟨w.heap.size + 2, 1, none⟩ = some c1 ∧ W.cell? ⟨w.heap.size + 2, 2, none⟩ = some c2 ∧ W.cell? ⟨w.heap.size + 2, 3, none⟩ = some c3 ∧ W.cell? ⟨w.heap.size + 2, 4, none⟩ = some c4 :=
  ⟨cell_of_row _ _ _ _ _ _ h.row, cell_of_row _ _ _ _ _ _ h.row, cell_of_row _ _ _ _ _ _ h.row, cell_of_row _ _ _ _ _ _ h.row, cell_of_row _ _ _ _ _ _ h.row⟩

set_option maxRecDepth 100000 in
set_option maxHeartbeats 4000000 in
theorem valueOf_t (cs : List Value) (a : AttrD) (w : World) (hr : rep w (old w.heap.size) cs a) (hk : a.kind ≠ 1 ∧ a.kind ≠ 2 ∧ a.kind ≠ 6 ∧ a.kind ≠ 7) :
    Calls Tryd.prog 73 #[.agg cs.toArray] w fun e w' => ∃ ts : List Value, e = .returned (.agg ts.toArray) ∧ rep w' (fresh w.heap.size w'.heap.size) ts (valueOfD a) ∧ Below w.heap.size w w' := by
  obtain ⟨A1, k1, A2, k2, A3, k3, A4, k4, A5, k5, A6, k6, rfl, h0, h1, h2, h3, h4, ht, hf, hi⟩ := open_AttrD hr
  have hv : valueOfD a = a.t := by unfold valueOfD; rw [if_neg hk.1, if_neg hk.2.1, if_neg hk.2.2.1, if_neg hk.2.2.2]
  rw [hv]
  have e1 : (a.kind == 1) = false := beq_eq_false_iff_ne.2 hk.1
  have e2 : (a.kind == 2) = false := beq_eq_false_iff_ne.2 hk.2.1
  have e3 : (a.kind == 6) = false := beq_eq_false_iff_ne.2 hk.2.2.1
  have e4 : (a.kind == 7) = false := beq_eq_false_iff_ne.2 hk.2.2.2
  obtain ⟨_, _, _, _, _, _, _, _, hcs, htI, t1, t2, t3, t4⟩ := open_TensorD ht
  simp only [List.cons.injEq, Value.slice.injEq, true_and, and_true] at hcs
  obtain ⟨⟨rfl, rfl⟩, ⟨rfl, rfl⟩, ⟨rfl, rfl⟩, ⟨rfl, rfl⟩⟩ := hcs
  have hI : ∀ W : World, ValInv w (.int .i64 a.t.type) (.slice A1 a.t.dims.length k1) (.slice A2 a.t.f.length k2) (.slice A3 a.t.i.length k3) (.slice A4 a.t.b.length k4) W → ∀ {α : Type} [Rep α] (v : Value) (l : List α), rep w (old w.heap.size) [v] l → rep W (old W.heap.size) [v] l :=
    fun W hW {_} _ _ _ h => Rep.more (Rep.keep h (Keeps.old_below hW.below (Nat.le_refl _))) (old_le hW.below.size)
  have H := Lib.hid (And.intro t1 (And.intro t2 (And.intro t3 (And.intro t4 htI))))
  clear hr h0 h1 h2 h3 h4 ht hf hi hv hk t1 t2 t3 t4 htI
  go_enter Tryd.func73, Tryd.ntmps73
  go_wp2
  obtain ⟨W0, hW0⟩ : ∃ W0 : World, W0 = (((w.alloc (.cells #[.string a.name, .int .i64 a.kind, .int .u32 (a.f : Int), .int .i64 a.i, .string a.s, .int .i64 a.t.type, .slice A1 a.t.dims.length k1, .slice A2 a.t.f.length k2, .slice A3 a.t.i.length k3, .slice A4 a.t.b.length k4, .slice A5 a.floats.length k5, .slice A6 a.ints.length k6] 52)).alloc (.cells #[.int .i64 0, .slice none 0 0, .slice none 0 0, .slice none 0 0, .slice none 0 0] 43)).alloc (.cells #[.int .i64 a.t.type, .slice A1 a.t.dims.length k1, .slice A2 a.t.f.length k2, .slice A3 a.t.i.length k3, .slice A4 a.t.b.length k4] 43)) := ⟨_, rfl⟩
  have hV : ValInv w (.int .i64 a.t.type) (.slice A1 a.t.dims.length k1) (.slice A2 a.t.f.length k2) (.slice A3 a.t.i.length k3) (.slice A4 a.t.b.length k4) W0 := by
    rw [hW0]
    refine ⟨by go_grown, ?_, ?_⟩
    · have hh : ∀ W : World, ∀ o : Obj, W.heap.size = w.heap.size + 1 → Ten ((W.alloc (.cells #[.int .i64 0, .slice none 0 0, .slice none 0 0, .slice none 0 0, .slice none 0 0] 43)).alloc o) (w.heap.size + 1) := fun W o hW => by
        refine Ten.alloc ?_ o
        have := heap_alloc_new W (.cells #[.int .i64 0, .slice none 0 0, .slice none 0 0, .slice none 0 0, .slice none 0 0] 43)
        rw [hW] at this
        exact this
      exact hh _ _ (by simp)
    · have hh : ∀ W : World, ∀ o : Obj, W.heap.size = w.heap.size + 2 → (W.alloc o).heap[w.heap.size + 2]? = some o := fun W o hW => by
        have := heap_alloc_new W o
        rw [hW] at this
        exact this
      exact hh _ _ (by simp)
  rw [← hW0]
  have kc := hV.cells
  have ks := hV.lt
  have HV := Lib.hid hV
  clear hV hW0
  have HI := Lib.hid @hI
  clear hI
  go_region_held3 (fun w' => w'.cell? ⟨w.heap.size + 2, 0, none⟩ = some (.int .i64 a.t.type) ∧ w'.cell? ⟨w.heap.size + 2, 1, none⟩ = some (.slice A1 a.t.dims.length k1) ∧ w'.cell? ⟨w.heap.size + 2, 2, none⟩ = some (.slice A2 a.t.f.length k2) ∧ w'.cell? ⟨w.heap.size + 2, 3, none⟩ = some (.slice A3 a.t.i.length k3) ∧ w'.cell? ⟨w.heap.size + 2, 4, none⟩ = some (.slice A4 a.t.b.length k4))
    (first | go_keep)
    (first
      | (go_at_call 88; refine ((clone_ints a.t.dims _ _ (HI.out _ HV.out.drew _ _ H.out.1)).mono (fun _ _ h => sliced h)).mono ?_; rintro e w3 ⟨B1, j1, rfl, hv1, hb3⟩; have V3 := Lib.hid (HV.out.drew.next hb3); have kc3 := V3.out.cells; have ks3 := V3.out.lt; have R3 := Lib.hid (And.intro hv1 hb3); clear hv1 hb3)
      | (go_at_call 108; refine ((clone_u32s a.t.f _ _ (HI.out _ V3.out _ _ H.out.2.1)).mono (fun _ _ h => sliced h)).mono ?_; rintro e w4 ⟨B2, j2, rfl, hv2, hb4⟩; have V4 := Lib.hid (V3.out.next hb4); have kc4 := V4.out.cells; have ks4 := V4.out.lt; have R4 := Lib.hid (And.intro hv2 hb4); clear hv2 hb4)
      | (go_at_call 109; refine ((clone_i64s a.t.i _ _ (HI.out _ V4.out _ _ H.out.2.2.1)).mono (fun _ _ h => sliced h)).mono ?_; rintro e w5 ⟨B3, j3, rfl, hv3, hb5⟩; have V5 := Lib.hid (V4.out.next hb5); have kc5 := V5.out.cells; have ks5 := V5.out.lt; have R5 := Lib.hid (And.intro hv3 hb5); clear hv3 hb5)
      | (go_at_call 110; refine ((clone_bools a.t.b _ _ (HI.out _ V5.out _ _ H.out.2.2.2.1)).mono (fun _ _ h => sliced h)).mono ?_; rintro e w6 ⟨B4, j4, rfl, hv4, hb6⟩; have V6 := Lib.hid (V5.out.next hb6); have kc6 := V6.out.cells; have ks6 := V6.out.lt; have t6 := V6.out.ten.cells; have u6 := V6.out.ten.free; have R6 := Lib.hid (And.intro hv4 hb6); clear hv4 hb6))
  all_goals go_wp2
  have T6 := V6.out.ten
  rw [ten_set T6]
  obtain ⟨hv1, hb3⟩ := R3.out
  obtain ⟨hv2, hb4⟩ := R4.out
  obtain ⟨hv3, hb5⟩ := R5.out
  obtain ⟨hv4, hb6⟩ := R6.out
  have z3 := hb3.size
  have z4 := hb4.size
  have z5 := hb5.size
  have z6 := hb6.size
  simp only [World.size_drew] at z3
  have hrow := ten_row T6 [.int .i64 a.t.type, .slice B1 a.t.dims.length j1, .slice B2 a.t.f.length j2, .slice B3 a.t.i.length j3, .slice B4 a.t.b.length j4]
  refine bodyPost_ret (results_cell_row rfl _ _ (w.heap.size + 1) 43 _ (0, 0) _ rfl hrow Tryd.underlying43 rfl (by kernel_rfl)) rfl ⟨_, rfl, ?_, below_setRow' V6.out.below (by omega) _⟩
  have g : ∀ {α : Type} [Rep α] {m : Nat} {W : World} {v : Value} {l : List α} (n : Nat), rep W (fresh n m) [v] l → Below m W w6 → w.heap.size + 2 ≤ n → m ≤ w6.heap.size → rep (w6.setRow (w.heap.size + 1) [.int .i64 a.t.type, .slice B1 a.t.dims.length j1, .slice B2 a.t.f.length j2, .slice B3 a.t.i.length j3, .slice B4 a.t.b.length j4].toArray) (fresh w.heap.size (w6.setRow (w.heap.size + 1) [.int .i64 a.t.type, .slice B1 a.t.dims.length j1, .slice B2 a.t.f.length j2, .slice B3 a.t.i.length j3, .slice B4 a.t.b.length j4].toArray).heap.size) [v] l := fun n hr hb hn hm =>
    Rep.more (Rep.keep (Rep.keep hr (.of_block fun k hk => hb.block k hk.2)) (keep_row (g := w.heap.size + 1) (by omega) _)) (fresh_le (by omega) (by rw [size_setRow]; exact hm))
  exact shut_TensorD H.out.2.2.2.2 (g _ hv1 (hb4.trans ((hb5.trans (hb6.mono z5)).mono z4)) (by simp; omega) (by omega)) (g _ hv2 (hb5.trans (hb6.mono z5)) (by omega) (by omega)) (g _ hv3 hb6 (by omega) (by omega)) (g _ hv4 (.refl _ _) (by omega) (Nat.le_refl _))
  
theorem valueOf_any (cs : List Value) (a : AttrD) (w : World) (hr : rep w (old w.heap.size) cs a) :
    Calls Tryd.prog 73 #[.agg cs.toArray] w fun e w' => ∃ ts : List Value, e = .returned (.agg ts.toArray) ∧ rep w' (fresh w.heap.size w'.heap.size) ts (valueOfD a) ∧ Below w.heap.size w w' := by
  by_cases h1 : a.kind = 1
  · exact valueOf_1 cs a w hr h1
  by_cases h2 : a.kind = 2
  · exact valueOf_2 cs a w hr h2
  by_cases h6 : a.kind = 6
  · exact valueOf_6 cs a w hr h6
  by_cases h7 : a.kind = 7
  · exact valueOf_7 cs a w hr h7
  exact valueOf_t cs a w hr ⟨h1, h2, h6, h7⟩
end Go.Proofs.YtgbkhcmbmffljaaDoor
