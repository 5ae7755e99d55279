/-
  Two settings that hold the same are the same: latticeref07.SameInts, SameTensor, latticelaw08.same, where they answer yes.
-/
import Derived.Test.YtgbkhcmbmffljaaDoorData
import Derived.Test.YtgbkhcmbmffljaaDoorAid
import Derived.Test.YtgbkhcmbmffljaaDoorChecked
import Derived.Deep.QuietTactic
import Derived.BigQuiet
set_option linter.unusedSimpArgs false
set_option linter.unusedVariables false
namespace Go.Proofs.YtgbkhcmbmffljaaDoor
open Go.RowKit
open Rep (rep)

/-- The walk stops here. -/
def HaltS (p : Prop) : Prop := p
theorem haltS {p : Prop} (h : HaltS p) : p := h
/-- 'true', and nothing but draws. -/
def YesDrew (w : World) (e : Ending) (w' : World) : Prop := e = .returned (.bool true) ∧ ∃ n, w' = w.drewN n
/-- 'true', and old memory as it was. -/
def YesBelow (w : World) (e : Ending) (w' : World) : Prop := e = .returned (.bool true) ∧ Below w.heap.size w w'
def DrewFrom (w w' : World) : Prop := ∃ n, w' = w.drewN n
theorem DrewFrom.refl (w : World) : DrewFrom w w := ⟨0, rfl⟩
theorem DrewFrom.more {w w' : World} (h : DrewFrom w w') (n : Nat) : DrewFrom w (w'.drewN n) := by
  obtain ⟨m, rfl⟩ := h
  exact ⟨m + n, by rw [World.drewN_drewN]⟩
theorem keeps_drewN (Z : Zone) (w : World) (n : Nat) : Keeps Z w (w.drewN n) := fun _ _ => ⟨rfl, rfl⟩
theorem rep_drewN {α : Type} [Rep α] {w : World} {Z : Zone} {cs : List Value} {a : α} (h : rep w Z cs a) (n : Nat) : rep (w.drewN n) Z cs a := Rep.keep h (keeps_drewN _ _ _)

section
variable {α : Type} [Rep α]
theorem cell_of_elem {w : World} {Z : Zone} {b o : Nat} {c : List Value} {i : Nat} {u : Value} (hs : Rep.size α = 1) (h : ∀ j v, c[j]? = some v → w.cell? ⟨b, o + (i * Rep.size α + j), none⟩ = some v ∧ (Z.free = true → w.frozen? ⟨b, o + (i * Rep.size α + j), none⟩ = false)) (h0 : c[0]? = some u) :
    w.cell? ⟨b, o + i, none⟩ = some u := by
  have := (h 0 u h0).1
  rwa [hs, Nat.mul_one, Nat.add_zero] at this
end

theorem one_i64 {w : World} {Z : Zone} {c : List Value} {z : Int} (h : rep w Z c z) : c[0]? = some (.int .i64 z) := by obtain ⟨rfl, -⟩ := h; rfl
theorem one_u32 {w : World} {Z : Zone} {c : List Value} {z : Nat} (h : rep w Z c z) : c[0]? = some (.int .u32 (z : Int)) := by obtain ⟨rfl, -⟩ := h; rfl
theorem one_bool {w : World} {Z : Zone} {c : List Value} {z : Bool} (h : rep w Z c z) : c[0]? = some (.bool z) := by
  have h : c = [.bool z] := h
  rw [h]; rfl
set_option maxRecDepth 100000 in
set_option maxHeartbeats 4000000 in
theorem sameInts_any (v1 v2 : Value) (l : List Int) (w : World) (h1 : rep w (old w.heap.size) [v1] l) (h2 : rep w (old w.heap.size) [v2] l) :
    Calls Tryd.prog 28 #[v1, v2] w (YesDrew w) := by
  obtain ⟨A1, k1, x1, rfl, hn1, hc1, -, hl1, hch1⟩ := open_slice h1
  obtain ⟨A2, k2, x2, rfl, hn2, hc2, -, hl2, hch2⟩ := open_slice h2
  have HL := Lib.hid (And.intro hl1 (And.intro hch1 (And.intro hl2 hch2)))
  clear h1 h2 hl1 hch1 hl2 hch2
  go_enter Tryd.func28, Tryd.ntmps28
  go_wp2_with fail
  go_loopw [5] (fun i wr => ∃ pre post : List Int, l = pre ++ post ∧ i = .int .i64 pre.length ∧ DrewFrom w wr)
    (fun i _ => l.length - (intOf i).toNat)
  case atStart => exact ⟨[], l, rfl, rfl, DrewFrom.refl w⟩
  case round =>
    obtain ⟨pre, post, hpp, rfl, hdr⟩ := hrel
    obtain ⟨m, rfl⟩ := hdr
    cases post with
    | cons z post =>
      obtain ⟨hz, hlt, hpp', hpl⟩ := split_at hpp
      obtain ⟨b1, o1, xc1, rfl, -, hrz1, hcell1⟩ := elem_at HL.out.1 HL.out.2.1 (by decide) hz
      obtain ⟨b2, o2, xc2, rfl, -, hrz2, hcell2⟩ := elem_at HL.out.2.2.1 HL.out.2.2.2 (by decide) hz
      obtain ⟨rfl, -⟩ := hrz1
      obtain ⟨rfl, -⟩ := hrz2
      have k4 : w.cell? ⟨b1, o1 + pre.length, none⟩ = some (.int .i64 z) := cell_of_elem (α := Int) rfl hcell1 rfl
      have k5 : w.cell? ⟨b2, o2 + pre.length, none⟩ = some (.int .i64 z) := cell_of_elem (α := Int) rfl hcell2 rfl
      have H := Lib.hid (And.intro hpp' hpl)
      have hk0 : (0 : Int) ≤ (pre.length : Int) := Int.natCast_nonneg _
      have hk1 : (pre.length : Int) < (l.length : Int) := by omega
      clear hpp hpp' hpl hz hcell1 hcell2
      go_wp2_with fail
      go_quiet (fail)
      go_wp2
      go_roundw
      case rel =>
        obtain ⟨hpp', hpl⟩ := H.out
        exact ⟨pre ++ [z], post, hpp', by rw [hpl]; go_num, _, rfl⟩
      case measure => simp [intOf]; omega
    | nil =>
      obtain ⟨hge, hpl⟩ := split_end hpp
      clear hpp hpl
      go_wp2
      go_ret
      exact ⟨rfl, _, rfl⟩


/-- Two structs in boxes of the call's own. -/
structure TwoBox (w : World) (ta tb : TypeId) (ca cb : List Value) (W : World) : Prop where
  below : Below w.heap.size w W
  fst : W.heap[w.heap.size]? = some (.cells ca.toArray ta (0, 0))
  snd : W.heap[w.heap.size + 1]? = some (.cells cb.toArray tb (0, 0))
  size : W.heap.size = w.heap.size + 2
theorem twobox_start (w : World) (ta tb : TypeId) (ca cb : List Value) : TwoBox w ta tb ca cb ((w.alloc (.cells ca.toArray ta)).alloc (.cells cb.toArray tb)) := by
  have h1 := heap_alloc_new (w.alloc (.cells ca.toArray ta)) (.cells cb.toArray tb)
  rw [World.size_alloc] at h1
  exact ⟨((Below.refl _ _).alloc (Nat.le_refl _) _).alloc (by simp) _, (Below.heap_alloc _ _ _ (by simp)).trans (heap_alloc_new _ _), h1, by simp⟩
section
variable {w W : World} {ta tb : TypeId} {ca cb : List Value}
theorem TwoBox.a (h : TwoBox w ta tb ca cb W) {j : Nat} {u : Value} (hj : ca[j]? = some u) : W.cell? ⟨w.heap.size, j, none⟩ = some u := by
  have := At.of_row h.fst j u hj
  rwa [Nat.zero_add] at this
theorem TwoBox.b (h : TwoBox w ta tb ca cb W) {j : Nat} {u : Value} (hj : cb[j]? = some u) : W.cell? ⟨w.heap.size + 1, j, none⟩ = some u := by
  have := At.of_row h.snd j u hj
  rwa [Nat.zero_add] at this
theorem TwoBox.rep {α : Type} [Rep α] (h : TwoBox w ta tb ca cb W) {c : List Value} {a : α} (hr : rep w (old w.heap.size) c a) : rep W (old W.heap.size) c a :=
  Rep.more (Rep.keep hr (Keeps.old_below h.below (Nat.le_refl _))) (old_le (by rw [h.size]; omega))
end
theorem lies_of_slice {α : Type} [Rep α] {w : World} {Z : Zone} {A : Option Addr} {c : Nat} {l : List α} (h : rep w Z [.slice A l.length c] l) : ∃ xs, Lies w Z A xs ∧ Chunks w Z xs l := by
  obtain ⟨A', n', c', xs, hv, hn, hnc, hcm, hb, hl, hc⟩ := h
  simp only [List.cons.injEq, and_true, Value.slice.injEq] at hv
  obtain ⟨rfl, _⟩ := hv
  exact ⟨xs, hl, hc⟩
theorem slice_bound {α : Type} [Rep α] {w : World} {Z : Zone} {A : Option Addr} {c : Nat} {l : List α} (h : rep w Z [.slice A l.length c] l) : l.length ≤ c ∧ c ≤ 9223372036854775807 := by
  obtain ⟨A', n', c', xs, hv, hn, hnc, hcm, hb, hl, hc⟩ := h
  simp only [List.cons.injEq, and_true, Value.slice.injEq] at hv
  obtain ⟨_, rfl, rfl⟩ := hv
  unfold maxLen at hcm
  exact ⟨hnc, hcm⟩

set_option maxRecDepth 100000 in
set_option maxHeartbeats 40000000 in
theorem sameTensor_any (c1 c2 : List Value) (t : TensorD) (w : World) (h1 : rep w (old w.heap.size) c1 t) (h2 : rep w (old w.heap.size) c2 t) :
    Calls Tryd.prog 48 #[.agg c1.toArray, .agg c2.toArray] w (YesBelow w) := by
  obtain ⟨A1, k1, A2, k2, A3, k3, A4, k4, rfl, -, d1, d2, d3, d4⟩ := open_TensorD h1
  obtain ⟨B1, m1, B2, m2, B3, m3, B4, m4, rfl, -, e1, e2, e3, e4⟩ := open_TensorD h2
  have HD := Lib.hid (And.intro d1 e1)
  obtain ⟨b2, b2'⟩ := slice_bound d2
  obtain ⟨b3, b3'⟩ := slice_bound d3
  obtain ⟨b4, b4'⟩ := slice_bound d4
  obtain ⟨g2, g2'⟩ := slice_bound e2
  obtain ⟨g3, g3'⟩ := slice_bound e3
  obtain ⟨g4, g4'⟩ := slice_bound e4
  obtain ⟨x2, p2, q2⟩ := lies_of_slice d2
  obtain ⟨x3, p3, q3⟩ := lies_of_slice d3
  obtain ⟨x4, p4, q4⟩ := lies_of_slice d4
  obtain ⟨y2, r2, s2⟩ := lies_of_slice e2
  obtain ⟨y3, r3, s3⟩ := lies_of_slice e3
  obtain ⟨y4, r4, s4⟩ := lies_of_slice e4
  have H2 := Lib.hid (And.intro p2 (And.intro q2 (And.intro r2 s2)))
  have H3 := Lib.hid (And.intro p3 (And.intro q3 (And.intro r3 s3)))
  have H4 := Lib.hid (And.intro p4 (And.intro q4 (And.intro r4 s4)))
  clear h1 h2 d1 d2 d3 d4 e1 e2 e3 e4 p2 q2 r2 s2 p3 q3 r3 s3 p4 q4 r4 s4
  go_enter Tryd.func48, Tryd.ntmps48
  go_wp2_with fail
  have hX : TwoBox w 43 43 [.int .i64 t.type, .slice A1 t.dims.length k1, .slice A2 t.f.length k2, .slice A3 t.i.length k3, .slice A4 t.b.length k4] [.int .i64 t.type, .slice B1 t.dims.length m1, .slice B2 t.f.length m2, .slice B3 t.i.length m3, .slice B4 t.b.length m4]
    ((w.alloc (.cells #[.int .i64 t.type, .slice A1 t.dims.length k1, .slice A2 t.f.length k2, .slice A3 t.i.length k3, .slice A4 t.b.length k4] 43)).alloc (.cells #[.int .i64 t.type, .slice B1 t.dims.length m1, .slice B2 t.f.length m2, .slice B3 t.i.length m3, .slice B4 t.b.length m4] 43)) := twobox_start w _ _ _ _
  generalize World.alloc _ _ = W0 at hX ⊢
  have HX := Lib.hid hX
  clear hX
  have a0 := HX.out.a (j := 0) rfl
  have a1 := HX.out.a (j := 1) rfl
  have a2 := HX.out.a (j := 2) rfl
  have a3 := HX.out.a (j := 3) rfl
  have a4 := HX.out.a (j := 4) rfl
  have f0 := HX.out.b (j := 0) rfl
  have f1 := HX.out.b (j := 1) rfl
  have f2 := HX.out.b (j := 2) rfl
  have f3 := HX.out.b (j := 3) rfl
  have f4 := HX.out.b (j := 4) rfl
  refine (sameInts_any _ _ t.dims _ (HX.out.rep HD.out.1) (HX.out.rep HD.out.2)).mono ?_
  rintro e w1 ⟨rfl, n1, rfl⟩
  go_wp2_with fail

  -- the three lists
  go_loopw [5] (fun i wr => ∃ pre post : List Nat, t.f = pre ++ post ∧ i = .int .i64 pre.length ∧ DrewFrom W0 wr)
    (fun i _ => t.f.length - (intOf i).toNat)
  case atStart => exact ⟨[], t.f, rfl, rfl, _, rfl⟩
  case round =>
    obtain ⟨pre, post, hpp, rfl, hdr⟩ := hrel
    obtain ⟨n2, rfl⟩ := hdr
    cases post with
    | cons z post =>
      obtain ⟨hz, hlt, hpp', hpl⟩ := split_at hpp
      obtain ⟨b1, o1, xc1, rfl, hbB1, hrz1, hcell1⟩ := elem_at H2.out.1 H2.out.2.1 (by decide) hz
      obtain ⟨b2, o2, xc2, rfl, hbB2, hrz2, hcell2⟩ := elem_at H2.out.2.2.1 H2.out.2.2.2 (by decide) hz
      have hx1 : xc1[0]? = some (.int .u32 (z : Int)) := by exact one_u32 hrz1
      have hx2 : xc2[0]? = some (.int .u32 (z : Int)) := by exact one_u32 hrz2
      have k5 : W0.cell? ⟨b1, o1 + pre.length, none⟩ = some (.int .u32 (z : Int)) := (HX.out.below.cell (p := ⟨b1, o1 + pre.length, none⟩) hbB1).trans (cell_of_elem (α := Nat) rfl hcell1 hx1)
      have k6 : W0.cell? ⟨b2, o2 + pre.length, none⟩ = some (.int .u32 (z : Int)) := (HX.out.below.cell (p := ⟨b2, o2 + pre.length, none⟩) hbB2).trans (cell_of_elem (α := Nat) rfl hcell2 hx2)
      have H := Lib.hid (And.intro hpp' hpl)
      have hk0 : (0 : Int) ≤ (pre.length : Int) := Int.natCast_nonneg _
      have hk1 : (pre.length : Int) < (t.f.length : Int) := by omega
      clear hpp hpp' hpl hz hcell1 hcell2 hx1 hx2 hrz1 hrz2 hbB1 hbB2
      go_wp2_with fail
      go_quiet (fail)
      go_wp2
      go_roundw
      case rel =>
        obtain ⟨hpp', hpl⟩ := H.out
        exact ⟨pre ++ [z], post, hpp', by rw [hpl]; go_num, _, rfl⟩
      case measure => simp [intOf]; omega
    | nil =>
      obtain ⟨hge, hpl⟩ := split_end hpp
      clear hpp hpl
      go_wp2_with fail
      go_loopw [6] (fun i wr => ∃ pre post : List Int, t.i = pre ++ post ∧ i = .int .i64 pre.length ∧ DrewFrom W0 wr)
        (fun i _ => t.i.length - (intOf i).toNat)
      case atStart => exact ⟨[], t.i, rfl, rfl, _, rfl⟩
      case round =>
        obtain ⟨pre, post, hpp, rfl, hdr⟩ := hrel
        obtain ⟨n2, rfl⟩ := hdr
        cases post with
        | cons z post =>
          obtain ⟨hz, hlt, hpp', hpl⟩ := split_at hpp
          obtain ⟨b1, o1, xc1, rfl, hbB1, hrz1, hcell1⟩ := elem_at H3.out.1 H3.out.2.1 (by decide) hz
          obtain ⟨b2, o2, xc2, rfl, hbB2, hrz2, hcell2⟩ := elem_at H3.out.2.2.1 H3.out.2.2.2 (by decide) hz
          have hx1 : xc1[0]? = some (.int .i64 z) := by exact one_i64 hrz1
          have hx2 : xc2[0]? = some (.int .i64 z) := by exact one_i64 hrz2
          have k5 : W0.cell? ⟨b1, o1 + pre.length, none⟩ = some (.int .i64 z) := (HX.out.below.cell (p := ⟨b1, o1 + pre.length, none⟩) hbB1).trans (cell_of_elem (α := Int) rfl hcell1 hx1)
          have k6 : W0.cell? ⟨b2, o2 + pre.length, none⟩ = some (.int .i64 z) := (HX.out.below.cell (p := ⟨b2, o2 + pre.length, none⟩) hbB2).trans (cell_of_elem (α := Int) rfl hcell2 hx2)
          have H := Lib.hid (And.intro hpp' hpl)
          have hk0 : (0 : Int) ≤ (pre.length : Int) := Int.natCast_nonneg _
          have hk1 : (pre.length : Int) < (t.i.length : Int) := by omega
          clear hpp hpp' hpl hz hcell1 hcell2 hx1 hx2 hrz1 hrz2 hbB1 hbB2
          go_wp2_with fail
          go_quiet (fail)
          go_wp2
          go_roundw
          case rel =>
            obtain ⟨hpp', hpl⟩ := H.out
            exact ⟨pre ++ [z], post, hpp', by rw [hpl]; go_num, _, rfl⟩
          case measure => simp [intOf]; omega
        | nil =>
          obtain ⟨hge, hpl⟩ := split_end hpp
          clear hpp hpl
          go_wp2_with fail
          go_loopw [7] (fun i wr => ∃ pre post : List Bool, t.b = pre ++ post ∧ i = .int .i64 pre.length ∧ DrewFrom W0 wr)
            (fun i _ => t.b.length - (intOf i).toNat)
          case atStart => exact ⟨[], t.b, rfl, rfl, _, rfl⟩
          case round =>
            obtain ⟨pre, post, hpp, rfl, hdr⟩ := hrel
            obtain ⟨n2, rfl⟩ := hdr
            cases post with
            | cons z post =>
              obtain ⟨hz, hlt, hpp', hpl⟩ := split_at hpp
              obtain ⟨b1, o1, xc1, rfl, hbB1, hrz1, hcell1⟩ := elem_at H4.out.1 H4.out.2.1 (by decide) hz
              obtain ⟨b2, o2, xc2, rfl, hbB2, hrz2, hcell2⟩ := elem_at H4.out.2.2.1 H4.out.2.2.2 (by decide) hz
              have hx1 : xc1[0]? = some (.bool z) := by exact one_bool hrz1
              have hx2 : xc2[0]? = some (.bool z) := by exact one_bool hrz2
              have k5 : W0.cell? ⟨b1, o1 + pre.length, none⟩ = some (.bool z) := (HX.out.below.cell (p := ⟨b1, o1 + pre.length, none⟩) hbB1).trans (cell_of_elem (α := Bool) rfl hcell1 hx1)
              have k6 : W0.cell? ⟨b2, o2 + pre.length, none⟩ = some (.bool z) := (HX.out.below.cell (p := ⟨b2, o2 + pre.length, none⟩) hbB2).trans (cell_of_elem (α := Bool) rfl hcell2 hx2)
              have H := Lib.hid (And.intro hpp' hpl)
              have hk0 : (0 : Int) ≤ (pre.length : Int) := Int.natCast_nonneg _
              have hk1 : (pre.length : Int) < (t.b.length : Int) := by omega
              clear hpp hpp' hpl hz hcell1 hcell2 hx1 hx2 hrz1 hrz2 hbB1 hbB2
              go_wp2_with fail
              go_quiet (fail)
              go_wp2
              go_roundw
              case rel =>
                obtain ⟨hpp', hpl⟩ := H.out
                exact ⟨pre ++ [z], post, hpp', by rw [hpl]; go_num, _, rfl⟩
              case measure => simp [intOf]; omega
            | nil =>
              obtain ⟨hge, hpl⟩ := split_end hpp
              clear hpp hpl
              go_wp2
              go_ret
              exact ⟨rfl, below_drewN HX.out.below _⟩

theorem TwoBox.aDrop {w W : World} {ta tb : TypeId} {ca cb : List Value} (h : TwoBox w ta tb ca cb W) {k : Nat} {xs : List Value} (hx : ca.drop k = xs) {j : Nat} {u : Value} (hj : xs[j]? = some u) : W.cell? ⟨w.heap.size, k + j, none⟩ = some u :=
  h.a (by rw [← hx, List.getElem?_drop] at hj; exact hj)
theorem TwoBox.bDrop {w W : World} {ta tb : TypeId} {ca cb : List Value} (h : TwoBox w ta tb ca cb W) {k : Nat} {xs : List Value} (hx : cb.drop k = xs) {j : Nat} {u : Value} (hj : xs[j]? = some u) : W.cell? ⟨w.heap.size + 1, k + j, none⟩ = some u :=
  h.b (by rw [← hx, List.getElem?_drop] at hj; exact hj)
set_option maxRecDepth 100000 in
set_option maxHeartbeats 40000000 in
theorem same_any (c1 c2 : List Value) (s : SettingD) (w : World) (h1 : rep w (old w.heap.size) c1 s) (h2 : rep w (old w.heap.size) c2 s) :
    Calls Tryd.prog 22 #[.agg c1.toArray, .agg c2.toArray] w (YesBelow w) := by
  have hS1 : SettingDAt w (old w.heap.size) c1 s := h1
  have hS2 : SettingDAt w (old w.heap.size) c2 s := h2
  clear h1 h2
  go_enter Tryd.func22, Tryd.ntmps22
  have HS := Lib.hid (And.intro hS1 hS2)
  clear hS1 hS2
  go_wp2_with (first
    | (with_reducible refine wpList_box_row rfl 45 _ rfl c1 rfl ?_)
    | (with_reducible refine wpList_box_row rfl 45 _ rfl c2 rfl ?_; have hX := twobox_start w 45 45 c1 c2; generalize World.alloc _ _ = W0 at hX ⊢; have HX := Lib.hid hX; clear hX; refine haltS ?_))
  unfold HaltS
  have a0 := HX.out.a (Fld.int HS.out.1.f0).1
  have b0 := HX.out.b (Fld.int HS.out.2.f0).1
  obtain ⟨A1, k1, hc1, hr1⟩ := Fld.list HS.out.1.f1
  obtain ⟨B1, m1, gc1, gr1⟩ := Fld.list HS.out.2.f1
  have a1 := HX.out.a hc1
  have b1 := HX.out.b gc1
  have R1 := Lib.hid (And.intro (HX.out.rep hr1) (HX.out.rep gr1))
  clear hc1 hr1 gc1 gr1
  have a2 := HX.out.a (Fld.bool HS.out.1.f2)
  have b2 := HX.out.b (Fld.bool HS.out.2.f2)
  have a3 := HX.out.a (Fld.bool HS.out.1.f3)
  have b3 := HX.out.b (Fld.bool HS.out.2.f3)
  have a4 := HX.out.a (Fld.bool HS.out.1.f4)
  have b4 := HX.out.b (Fld.bool HS.out.2.f4)
  have a5 := HX.out.a (Fld.bool HS.out.1.f5)
  have b5 := HX.out.b (Fld.bool HS.out.2.f5)
  have a6 := HX.out.a (Fld.bool HS.out.1.f6)
  have b6 := HX.out.b (Fld.bool HS.out.2.f6)
  obtain ⟨A7, k7, hc7, hr7⟩ := Fld.list HS.out.1.f7
  obtain ⟨B7, m7, gc7, gr7⟩ := Fld.list HS.out.2.f7
  have a7 := HX.out.a hc7
  have b7 := HX.out.b gc7
  have R7 := Lib.hid (And.intro (HX.out.rep hr7) (HX.out.rep gr7))
  clear hc7 hr7 gc7 gr7
  have a8 := HX.out.a (Fld.bool HS.out.1.f8)
  have b8 := HX.out.b (Fld.bool HS.out.2.f8)
  have a9 := HX.out.a (Fld.u32 HS.out.1.f9).1
  have b9 := HX.out.b (Fld.u32 HS.out.2.f9).1
  have a10 := HX.out.a (Fld.u32 HS.out.1.f10).1
  have b10 := HX.out.b (Fld.u32 HS.out.2.f10).1
  have a11 := HX.out.a (Fld.u32 HS.out.1.f11).1
  have b11 := HX.out.b (Fld.u32 HS.out.2.f11).1
  have a12 := HX.out.a (Fld.bool HS.out.1.f12)
  have b12 := HX.out.b (Fld.bool HS.out.2.f12)
  have a13 := HX.out.a (Fld.bool HS.out.1.f13)
  have b13 := HX.out.b (Fld.bool HS.out.2.f13)
  have a14 := HX.out.a (Fld.bool HS.out.1.f14)
  have b14 := HX.out.b (Fld.bool HS.out.2.f14)
  have a15 := HX.out.a (Fld.int HS.out.1.f15).1
  have b15 := HX.out.b (Fld.int HS.out.2.f15).1
  have a16 := HX.out.a (Fld.int HS.out.1.f16).1
  have b16 := HX.out.b (Fld.int HS.out.2.f16).1
  have a17 := HX.out.a (Fld.bool HS.out.1.f17)
  have b17 := HX.out.b (Fld.bool HS.out.2.f17)
  have a18 := HX.out.a (Fld.bool HS.out.1.f18)
  have b18 := HX.out.b (Fld.bool HS.out.2.f18)
  have a19 := HX.out.a (Fld.int HS.out.1.f19).1
  have b19 := HX.out.b (Fld.int HS.out.2.f19).1
  obtain ⟨A20, k20, hc20, hr20⟩ := Fld.list HS.out.1.f20
  obtain ⟨B20, m20, gc20, gr20⟩ := Fld.list HS.out.2.f20
  have a20 := HX.out.a hc20
  have b20 := HX.out.b gc20
  have R20 := Lib.hid (And.intro (HX.out.rep hr20) (HX.out.rep gr20))
  clear hc20 hr20 gc20 gr20
  obtain ⟨A21, k21, hc21, hr21⟩ := Fld.list HS.out.1.f21
  obtain ⟨B21, m21, gc21, gr21⟩ := Fld.list HS.out.2.f21
  have a21 := HX.out.a hc21
  have b21 := HX.out.b gc21
  have R21 := Lib.hid (And.intro (HX.out.rep hr21) (HX.out.rep gr21))
  clear hc21 hr21 gc21 gr21
  obtain ⟨A22, k22, hc22, hr22⟩ := Fld.list HS.out.1.f22
  obtain ⟨B22, m22, gc22, gr22⟩ := Fld.list HS.out.2.f22
  have a22 := HX.out.a hc22
  have b22 := HX.out.b gc22
  have R22 := Lib.hid (And.intro (HX.out.rep hr22) (HX.out.rep gr22))
  clear hc22 hr22 gc22 gr22
  obtain ⟨A23, k23, hc23, hr23⟩ := Fld.list HS.out.1.f23
  obtain ⟨B23, m23, gc23, gr23⟩ := Fld.list HS.out.2.f23
  have a23 := HX.out.a hc23
  have b23 := HX.out.b gc23
  have R23 := Lib.hid (And.intro (HX.out.rep hr23) (HX.out.rep gr23))
  clear hc23 hr23 gc23 gr23
  have a24 := HX.out.a (Fld.int HS.out.1.f24).1
  have b24 := HX.out.b (Fld.int HS.out.2.f24).1
  have a25 := HX.out.a (Fld.bool HS.out.1.f25)
  have b25 := HX.out.b (Fld.bool HS.out.2.f25)
  have a26 := HX.out.a (Fld.bool HS.out.1.f26)
  have b26 := HX.out.b (Fld.bool HS.out.2.f26)
  have a27 := HX.out.a (Fld.int HS.out.1.f27).1
  have b27 := HX.out.b (Fld.int HS.out.2.f27).1
  have a28 := HX.out.a (Fld.int HS.out.1.f28).1
  have b28 := HX.out.b (Fld.int HS.out.2.f28).1
  have a29 := HX.out.a (Fld.int HS.out.1.f29).1
  have b29 := HX.out.b (Fld.int HS.out.2.f29).1
  have a30 := HX.out.a (Fld.bool HS.out.1.f30)
  have b30 := HX.out.b (Fld.bool HS.out.2.f30)
  obtain ⟨A31, k31, A32, k32, A33, k33, A34, k34, hv, -⟩ := open_TensorD HS.out.1.f31
  obtain ⟨B31, m31, B32, m32, B33, m33, B34, m34, gv, -⟩ := open_TensorD HS.out.2.f31
  have hrv := HS.out.1.f31
  have grv := HS.out.2.f31
  rw [hv] at hrv
  rw [gv] at grv
  have RV := Lib.hid (And.intro (HX.out.rep hrv) (HX.out.rep grv))
  have a31 := HX.out.aDrop hv (j := 0) rfl
  have b31 := HX.out.bDrop gv (j := 0) rfl
  simp only [Nat.reduceAdd] at a31 b31
  have a32 := HX.out.aDrop hv (j := 1) rfl
  have b32 := HX.out.bDrop gv (j := 1) rfl
  simp only [Nat.reduceAdd] at a32 b32
  have a33 := HX.out.aDrop hv (j := 2) rfl
  have b33 := HX.out.bDrop gv (j := 2) rfl
  simp only [Nat.reduceAdd] at a33 b33
  have a34 := HX.out.aDrop hv (j := 3) rfl
  have b34 := HX.out.bDrop gv (j := 3) rfl
  simp only [Nat.reduceAdd] at a34 b34
  have a35 := HX.out.aDrop hv (j := 4) rfl
  have b35 := HX.out.bDrop gv (j := 4) rfl
  simp only [Nat.reduceAdd] at a35 b35
  clear hv gv hrv grv
  go_wp2_with fail
  refine (sameInts_any _ _ s.axes _ (R1.out.1) (R1.out.2)).mono ?_
  rintro e w1 ⟨rfl, n1, rfl⟩
  go_wp2_with fail
  refine (sameInts_any _ _ s.perm _ ((rep_drewN R7.out.1 _)) ((rep_drewN R7.out.2 _))).mono ?_
  rintro e w2 ⟨rfl, n2, rfl⟩
  go_wp2_with fail
  refine (sameInts_any _ _ s.kernel _ ((rep_drewN R20.out.1 _)) ((rep_drewN R20.out.2 _))).mono ?_
  rintro e w3 ⟨rfl, n3, rfl⟩
  go_wp2_with fail
  refine (sameInts_any _ _ s.strides _ ((rep_drewN R21.out.1 _)) ((rep_drewN R21.out.2 _))).mono ?_
  rintro e w4 ⟨rfl, n4, rfl⟩
  go_wp2_with fail
  refine (sameInts_any _ _ s.pads _ ((rep_drewN R22.out.1 _)) ((rep_drewN R22.out.2 _))).mono ?_
  rintro e w5 ⟨rfl, n5, rfl⟩
  go_wp2_with fail
  refine (sameInts_any _ _ s.dilations _ ((rep_drewN R23.out.1 _)) ((rep_drewN R23.out.2 _))).mono ?_
  rintro e w6 ⟨rfl, n6, rfl⟩
  go_wp2_with fail
  refine (sameTensor_any _ _ s.value _ (rep_drewN RV.out.1 _) (rep_drewN RV.out.2 _)).mono ?_
  rintro e w7 ⟨rfl, hb⟩
  have HB := Lib.hid hb
  clear hb
  go_wp2
  go_ret
  exact ⟨rfl, (below_drewN HX.out.below _).trans (HB.out.mono (by show w.heap.size ≤ W0.heap.size; rw [HX.out.size]; omega))⟩
end Go.Proofs.YtgbkhcmbmffljaaDoor
