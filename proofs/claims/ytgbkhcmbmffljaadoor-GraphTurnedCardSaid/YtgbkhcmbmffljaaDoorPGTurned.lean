/-
  The law GraphTurned: its walk.
-/
import Derived.Deep.DeepCutAuto
import Derived.Test.YtgbkhcmbmffljaaDoorPGAwk
import Derived.Test.YtgbkhcmbmffljaaDoorPGTurn
import Derived.Test.YtgbkhcmbmffljaaDoorPGNode
set_option linter.unusedSimpArgs false
set_option linter.unusedVariables false
namespace Go.Proofs.YtgbkhcmbmffljaaDoor
open Go.RowKit
open Rep (rep)
theorem yields_low {P : Program} {ops : Array Oper} {S : World → Prop} {o : Oper} {a : Act} (hw : Region.wanted o (yielded ops a.tmps) = true) (x y : Operand) (t u : TypeId) (ho : o.op = .binOp .and t x y u) (p q : Int) (hx : a.eval x = .int .i64 p) (hy : a.eval y = .int .i64 1023)
    (ht : P.underlying t = some (.int .i64)) (hq : bits .and .i64 p 1023 = q) : YieldsIf P ops S o (.int .i64 q) a :=
  .inl ⟨hw, fun w h => by
    subst hq
    unfold execOp
    simp only [ho, hx, hy]
    go_simp⟩
theorem ndInfo : (Tryd.prog.info? 36).map (fun i => (i.zero, i.size, i.bytes)) = some (some (.agg zeroNd.toArray), 5, 104) := by kernel_rfl
theorem low_bits (x : Int) : ∃ k : Nat, bits .and .i64 x 1023 = (k : Int) ∧ k ≤ 1023 := by
  have h : ∀ m : Nat, m ≤ 1023 → ∃ k : Nat, IntKind.i64.wrap (m : Int) = (k : Int) ∧ k ≤ 1023 := fun m hm => ⟨m, IntWalk.i64_in _ (by omega), hm⟩
  refine h _ ?_
  rw [BitVec.toNat_and]
  exact Nat.le_trans Nat.and_le_right (by decide)
/-- The model m, its nodes but those of l, which lie in a row of the call's own. -/
structure MGrow (w w3 : World) (p q x y z : Value) (l : List NodeD) (W : World) : Prop where
  below : Below w3.heap.size w3 W
  att : ∃ v xs, W.heap[w3.heap.size]? = some (.cells ([p, q, v, x, y, z] : List Value).toArray 59 (0, 0)) ∧ W.ownsRow (w3.heap.size + 1) 36 5 v l.length xs ∧ Chunks W (old w.heap.size) xs l
section
variable {w w3 W W' : World} {p q x y z : Value} {l : List NodeD}
theorem MGrow.lt (h : MGrow w w3 p q x y z l W) : w3.heap.size < W.heap.size := let ⟨_, _, h1, _⟩ := h.att; (Array.getElem?_eq_some_iff.1 h1).1
theorem mgrow_start {w4 : World} {v : Value} (hb : Below w3.heap.size w3 w4) (hr : w4.heap[w3.heap.size]? = some (.cells ([p, q, v, x, y, z] : List Value).toArray 59 (0, 0))) :
    MGrow w w3 p q x y z [] (w4.setRow w3.heap.size (([p, q, v, x, y, z] : List Value).set 2 (.slice none 0 0)).toArray) :=
  ⟨below_setRow' hb (Nat.le_refl _) _, .slice none 0 0, [], heap_setRow _ _ _ _ _ hr, ⟨rfl, .inl ⟨rfl, rfl⟩⟩, rfl⟩
theorem MGrow.next (h : MGrow w w3 p q x y z l W) (hw : w.heap.size ≤ w3.heap.size) (hb : Below W.heap.size W W') : MGrow w w3 p q x y z l W' := by
  obtain ⟨v, xs, h1, h2, h3⟩ := h.att
  have hl := h.lt
  exact ⟨h.below.trans (hb.mono (by omega)), v, xs, (hb.block _ hl).trans h1, own_below h2 hb, h3.keep (Keeps.old_below hb (by omega))⟩
theorem MGrow.datum (h : MGrow w w3 p q x y z l W) (hw : w.heap.size ≤ w3.heap.size) (hlen : l.length * 104 ≤ 140737488351232) :
    ∃ v, W.heap[w3.heap.size]? = some (.cells ([p, q, v, x, y, z] : List Value).toArray 59 (0, 0)) ∧ rep W (old W.heap.size) [v] l := by
  obtain ⟨v, xs, h1, h2, h3⟩ := h.att
  have hl := h.lt
  exact ⟨v, h1, rep_of_own (e := 36) (xs := xs) h2 (h3.more (old_le (by omega))) hlen (fun g _ _ h2 => h2)⟩
theorem MGrow.grow (h : MGrow w w3 p q x y z l W) (hw : w.heap.size ≤ w3.heap.size) {v v' : Value} {xs acs : List Value} {n : NodeD} (hrow : W.heap[w3.heap.size]? = some (.cells ([p, q, v, x, y, z] : List Value).toArray 59 (0, 0)))
    (hc : Chunks W (old w.heap.size) xs l) (hr : rep W (old w.heap.size) acs n) (hb : Below W.heap.size W W' ∨ ∃ r, W.grownBy W' r ∧ ∀ g, r = some g → w3.heap.size + 1 ≤ g)
    (hown : W'.ownsRow (w3.heap.size + 1) 36 5 v' (l.length + 1) (xs ++ acs)) :
    W'.heap[w3.heap.size]? = some (.cells ([p, q, v, x, y, z] : List Value).toArray 59 (0, 0)) ∧ v'.oneCell' = true ∧ MGrow w w3 p q x y z (l ++ [n]) (W'.setRow w3.heap.size (([p, q, v, x, y, z] : List Value).set 2 v').toArray) := by
  have hlt := h.lt
  have hb1 : Below (w3.heap.size + 1) W W' := by
    rcases hb with hb | ⟨r, hg, hr⟩
    · exact hb.mono (by omega)
    · exact (Below.refl _ _).grown hg (by omega) (fun g hg => hr g hg)
  have hrow' : W'.heap[w3.heap.size]? = some (.cells ([p, q, v, x, y, z] : List Value).toArray 59 (0, 0)) := (hb1.block _ (by omega)).trans hrow
  have hone : v'.oneCell' = true := by
    rcases hown.2 with ⟨hv, h0⟩ | ⟨g, cap, cur, hv, _⟩
    · omega
    · rw [hv]; rfl
  refine ⟨hrow', hone, ?_, v', xs ++ acs, heap_setRow _ _ _ _ _ hrow', ?_, ?_⟩
  · exact below_setRow' (h.below.trans (hb1.mono (by omega))) (Nat.le_refl _) _
  · rw [List.length_append]
    exact own_setRow hown (fun g hg => by have := (hown.lt g hg).1; omega) _
  · have hk : Keeps (old w.heap.size) W (W'.setRow w3.heap.size (([p, q, v, x, y, z] : List Value).set 2 v').toArray) :=
      Keeps.old_below (below_setRow' (hb1.mono (by omega)) (Nat.le_refl _) _) hw
    exact (Chunks.keep hk hc).snoc (Rep.keep hr hk)
end
set_option maxRecDepth 100000 in
set_option maxHeartbeats 40000000 in
theorem turned_any (mcs : List Value) (m : ModelD) (by_ : Int) (w : World) (ht : Tab w) (hr : rep w (old w.heap.size) mcs m) (hI : I64 by_) :
    Calls Tryd.prog 8 #[.agg mcs.toArray, .int .i64 by_] w (YesBelow w) := by
  have hrn := hr
  obtain ⟨A1, k1, A2, k2, A3, k3, A4, k4, rfl, g0, g1, g2, g3, g4, g5⟩ := open_ModelD hr
  obtain ⟨A', c', xs, hv, hnc, hcm, hby, hl, hch⟩ := open_slice g2
  simp only [Value.slice.injEq, true_and] at hv
  obtain ⟨rfl, rfl⟩ := hv
  have hlen : m.nodes.length * 104 ≤ 140737488351232 := hby
  have hlen2 : m.nodes.length ≤ 2000000000000 := by omega
  have HT := Lib.hid (And.intro ht (And.intro hrn hI))
  have HIO := Lib.hid (And.intro g0 (And.intro g1 (And.intro g3 (And.intro g4 g5))))
  have HL := Lib.hid (And.intro hl (And.intro hch hlen))
  have HNO := Lib.hid (show ∀ u ∈ ([.int .i64 m.opset, .string m.name, .slice A1 m.nodes.length k1, .slice A2 m.inits.length k2, .slice A3 m.inputs.length k3, .slice A4 m.outputs.length k4] : List Value), u.oneCell' = true from Rep.one hrn)
  obtain ⟨kb, hkb, hkb2⟩ := low_bits by_
  have HKB := Lib.hid (And.intro hkb hkb2)
  clear hr hrn ht g0 g1 g2 g3 g4 g5 hl hch hby hI hlen hkb
  go_enter Tryd.func8, Tryd.ntmps8
  go_wp2_with fail
  have hX : BoxInv w 59 [.int .i64 m.opset, .string m.name, .slice A1 m.nodes.length k1, .slice A2 m.inits.length k2, .slice A3 m.inputs.length k3, .slice A4 m.outputs.length k4] (w.alloc (.cells ([.int .i64 m.opset, .string m.name, .slice A1 m.nodes.length k1, .slice A2 m.inits.length k2, .slice A3 m.inputs.length k3, .slice A4 m.outputs.length k4] : List Value).toArray 59)) := box_start w 59 [.int .i64 m.opset, .string m.name, .slice A1 m.nodes.length k1, .slice A2 m.inits.length k2, .slice A3 m.inputs.length k3, .slice A4 m.outputs.length k4]
  generalize World.alloc _ _ = W0 at hX ⊢
  have HI := Lib.hid hX
  clear hX
  refine (awake9_any W0 (HT.out.1.ext HI.out.below)).mono ?_
  rintro e w1 ⟨rfl, hb⟩
  have HI1 := Lib.hid (HI.out.next hb)
  clear hb
  go_wp2_with (first
    | (with_reducible refine wpList_load_agg rfl 59 _ rfl _ _ _ rfl [.int .i64 m.opset, .string m.name, .slice A1 m.nodes.length k1, .slice A2 m.inits.length k2, .slice A3 m.inputs.length k3, .slice A4 m.outputs.length k4] Tryd.underlying59 rfl (by kernel_rfl) (At.of_row HI1.out.row) ?_))
  refine (build_any [.int .i64 m.opset, .string m.name, .slice A1 m.nodes.length k1, .slice A2 m.inits.length k2, .slice A3 m.inputs.length k3, .slice A4 m.outputs.length k4] m w1 (HT.out.1.ext HI1.out.below) (HI1.out.keeps' HT.out.2.1)).mono ?_
  obtain ⟨G1, hG1⟩ : ∃ G, (buildD m).1 = G := ⟨_, rfl⟩
  obtain ⟨E1, hE1⟩ : ∃ x, (buildD m).2.1 = x := ⟨_, rfl⟩
  obtain ⟨X1, hX1⟩ : ∃ x, (buildD m).2.2 = x := ⟨_, rfl⟩
  unfold BuildPost
  rw [hG1, hE1, hX1]
  have HB1 := Lib.hid (And.intro hG1 (And.intro hE1 hX1))
  clear hG1 hE1 hX1
  rintro e w2 ⟨gcs, rfl, hg, hb⟩
  obtain ⟨V0, c0, V1, c1, V2, c2, V3, c3, rfl, -⟩ := open_GraphD hg
  have HI2 := Lib.hid (HI1.out.next hb)
  clear hb hg
  go_wp2_with (first
    | (with_reducible refine wpList_alloc_row rfl 63 rfl ([.slice none 0 0, .slice none 0 0, .slice none 0 0, .slice none 0 0] : List Value) zero4_zero ?_)
    | (with_reducible refine wpList_store_agg rfl 63 _ _ rfl _ 0 ([.slice V0 G1.vals.length c0, .slice V1 G1.nodes.length c1, .slice V2 G1.inputs.length c2, .slice V3 G1.outputs.length c3] : List Value) rfl rfl 63 ([.slice none 0 0, .slice none 0 0, .slice none 0 0, .slice none 0 0] : List Value) (heap_alloc_new _ _) (by kernel_rfl) (of_decide_eq_true (by kernel_rfl)) (by simp [Value.oneCell']) ?_; have hX := laid_row w2 63 ([.slice none 0 0, .slice none 0 0, .slice none 0 0, .slice none 0 0] : List Value) ([.slice V0 G1.vals.length c0, .slice V1 G1.nodes.length c1, .slice V2 G1.inputs.length c2, .slice V3 G1.outputs.length c3] : List Value) rfl; generalize World.setRow _ _ _ = w3 at hX ⊢; have HI3 := Lib.hid (HI2.out.next hX.1); have HX3 := Lib.hid hX; clear hX; refine halt ?_))
  unfold Halt
  have hw3 : w.heap.size < w3.heap.size := HI3.out.lt
  go_wp2_with (first
    | (with_reducible refine wpList_load_agg rfl 59 _ rfl _ _ _ rfl [.int .i64 m.opset, .string m.name, .slice A1 m.nodes.length k1, .slice A2 m.inits.length k2, .slice A3 m.inputs.length k3, .slice A4 m.outputs.length k4] Tryd.underlying59 rfl (by kernel_rfl) (At.of_row HI3.out.row) ?_)
    | (with_reducible refine wpList_alloc_row rfl 59 rfl zeroM zeroM_zero ?_)
    | (with_reducible refine wpList_store_agg rfl 59 _ _ rfl _ 0 [.int .i64 m.opset, .string m.name, .slice A1 m.nodes.length k1, .slice A2 m.inits.length k2, .slice A3 m.inputs.length k3, .slice A4 m.outputs.length k4] rfl rfl 59 zeroM (heap_alloc_new _ _) (by kernel_rfl) (by simp [zeroM]) HNO.out ?_; have hX := laid_row w3 59 zeroM [.int .i64 m.opset, .string m.name, .slice A1 m.nodes.length k1, .slice A2 m.inits.length k2, .slice A3 m.inputs.length k3, .slice A4 m.outputs.length k4] rfl; generalize World.setRow _ _ _ = w4 at hX ⊢; have HX4 := Lib.hid hX; clear hX; refine halt ?_))
  unfold Halt
  go_wp2_with (first
    | (with_reducible refine wpList_store_field rfl 55 _ _ rfl w3.heap.size 2 (.slice none 0 0) rfl rfl rfl (by kernel_rfl) 59 [.int .i64 m.opset, .string m.name, .slice A1 m.nodes.length k1, .slice A2 m.inits.length k2, .slice A3 m.inputs.length k3, .slice A4 m.outputs.length k4] HX4.out.2.1 (by simp) ?_; have hX := mgrow_start (w := w) HX4.out.1 HX4.out.2.1; generalize World.setRow _ _ _ = w5 at hX ⊢; have HG5 := Lib.hid hX; clear hX; refine halt ?_))
  unfold Halt
  have HI5 := Lib.hid (HI3.out.next HG5.out.below)
  have k5 : w5.cell? ⟨w.heap.size, 2, none⟩ = some (.slice A1 m.nodes.length k1) := cell_of_row' HI5.out.row rfl
  obtain ⟨i0, hi0, hz0, hz1, hz2⟩ := info_parts ndInfo
  have HZ := Lib.hid (And.intro hi0 (And.intro hz0 (And.intro hz1 hz2)))
  clear hi0 hz0 hz1 hz2
  go_wp2_with fail
  go_loopw [11] (fun i wr => ∃ j : Nat, i = .int .i64 (j : Int) ∧ j ≤ m.nodes.length ∧ MGrow w w3 (.int .i64 m.opset) (.string m.name) (.slice A2 m.inits.length k2) (.slice A3 m.inputs.length k3) (.slice A4 m.outputs.length k4) ((turnedD m.nodes (kb % m.nodes.length)).take j) wr) (fun i _ => m.nodes.length - (intOf i).toNat)
  case atStart => exact ⟨0, rfl, Nat.zero_le _, HG5.out⟩
  case round =>
    obtain ⟨j, rfl, hjn, hg⟩ := hrel
    have HG := Lib.hid hg
    have HIr := Lib.hid (HI3.out.next hg.below)
    clear hg
    by_cases hj : j < m.nodes.length
    · obtain ⟨k, hk⟩ : ∃ k, kb % m.nodes.length = k := ⟨_, rfl⟩
      rw [hk] at HG ⊢
      have hkn : k < m.nodes.length := by rw [← hk]; exact Nat.mod_lt _ (by omega)
      obtain ⟨z, hz⟩ : ∃ z, (turnedD m.nodes k)[j]? = some z := ⟨_, List.getElem?_eq_getElem (by rw [turned_len]; exact hj)⟩
      have hz2 := hz
      rw [turned_get m.nodes k j hkn hj] at hz2
      have hsn := turned_snoc m.nodes k j hj hz
      obtain ⟨ix, hix⟩ : ∃ ix, (m.nodes.length - 1 - j + k) % m.nodes.length = ix := ⟨_, rfl⟩
      rw [hix] at hz2
      have hixl : ix < m.nodes.length := (List.getElem?_eq_some_iff.1 hz2).1
      have hmod : ((m.nodes.length : Int) - 1 - (j : Int) + (kb : Int)) % (m.nodes.length : Int) = (ix : Int) := by
        rw [show (m.nodes.length : Int) - 1 - (j : Int) + (kb : Int) = ((m.nodes.length - 1 - j + kb : Nat) : Int) by omega, ← hix, ← hk, Nat.add_mod_mod]; rfl
      obtain ⟨b', o', acs, rfl, hbB, hrz, hcell⟩ := elem_at HL.out.1 HL.out.2.1 (by decide) hz2
      have hal : acs.length = 5 := Rep.len hrz
      have hao := Rep.one hrz
      have hat : At w b' (o' + ix * 5) acs := fun q u hu => by rw [Nat.add_assoc]; exact (hcell q u hu).1
      obtain ⟨vm, xs2, hrow, hown, hch2⟩ := HG.out.att
      have hgl := HG.out.lt
      have hjl : ((turnedD m.nodes k).take j).length = j := by rw [List.length_take, turned_len]; omega
      rw [hjl] at hown
      have HA := Lib.hid (And.intro hal (And.intro hao (And.intro hat (And.intro hbB (And.intro hrz (And.intro hmod hixl))))))
      have HO := Lib.hid (And.intro hrow (And.intro hown (And.intro hch2 (And.intro hgl (And.intro hsn hjl)))))
      have hS0 : ∀ W : World, Below w3.heap.size w3 W → W.cell? ⟨w.heap.size, 2, none⟩ = some (.slice (some ⟨b', o', none⟩) m.nodes.length k1) ∧ At W b' (o' + ix * 5) acs := fun W hb =>
        ⟨cell_of_row' (HI3.out.next hb).row rfl, HA.out.2.2.1.keep (HI3.out.next hb).below HA.out.2.2.2.1⟩
      have HSW := Lib.hid hS0
      have HKN := Lib.hid (And.intro hk hkn)
      clear hz hz2 hsn hix hixl hmod hbB hrz hcell hal hao hat hrow hown hch2 hgl hjl hS0 hkn hk
      go_wp2_with fail
      refine wp_region_held_drew (S := fun W : World => W.cell? ⟨w.heap.size, 2, none⟩ = some (.slice (some ⟨b', o', none⟩) m.nodes.length k1) ∧ At W b' (o' + ix * 5) acs) (by kernel_rfl) (HSW.out _ HG.out.below.drew) (fun hHeld => ?_)
      refine take_d9 0 (some 32) (v := .pointer (some ⟨w3.heap.size, 2, none⟩)) rfl (by kernel_rfl) (by kernel_rfl) (by kernel_rfl) (by kernel_rfl) (fun c a w h => h) (Or.inl ⟨by kernel_rfl, fun w _ => by kernel_rfl⟩) hHeld ?_
      refine take_d9 2 (some 34) (v := .pointer (some ⟨w.heap.size, 2, none⟩)) rfl (by kernel_rfl) (by kernel_rfl) (by kernel_rfl) (by kernel_rfl) (fun c a w h => h) (Or.inl ⟨by kernel_rfl, fun w _ => by kernel_rfl⟩) hHeld ?_
      refine take_d9 3 (some 35) (v := .slice (some ⟨b', o', none⟩) m.nodes.length k1) rfl (by kernel_rfl) (by kernel_rfl) (by kernel_rfl) (by kernel_rfl) (fun c a w h => h) (yields_load_one9 (by kernel_rfl) _ _ rfl w.heap.size 2 (by kernel_rfl) _ _ Tryd.underlying55 rfl (fun _ h => h.1)) hHeld ?_
      refine take_d9 4 (some 36) (v := .int .i64 (m.nodes.length : Int)) rfl (by kernel_rfl) (by kernel_rfl) (by kernel_rfl) (by kernel_rfl) (fun c a w h => h) (Or.inl ⟨by kernel_rfl, fun w _ => by kernel_rfl⟩) hHeld ?_
      refine take_d9 5 (some 37) (v := .int .i64 ((m.nodes.length : Int) - 1)) rfl (by kernel_rfl) (by kernel_rfl) (by kernel_rfl) (by kernel_rfl) (fun c a w h => h) (yields_subI (by kernel_rfl) _ _ _ _ rfl (m.nodes.length : Int) 1 (by kernel_rfl) (by kernel_rfl) Tryd.underlying3 (by omega) (by omega) (by omega)) hHeld ?_
      refine take_d9 6 (some 38) (v := .int .i64 (j : Int)) rfl (by kernel_rfl) (by kernel_rfl) (by kernel_rfl) (by kernel_rfl) (fun c a w h => h) (Or.inl ⟨by kernel_rfl, fun w _ => by kernel_rfl⟩) hHeld ?_
      refine take_d9 7 (some 39) (v := .int .i64 ((m.nodes.length : Int) - 1 - (j : Int))) rfl (by kernel_rfl) (by kernel_rfl) (by kernel_rfl) (by kernel_rfl) (fun c a w h => h) (yields_subI (by kernel_rfl) _ _ _ _ rfl ((m.nodes.length : Int) - 1) (j : Int) (by kernel_rfl) (by kernel_rfl) Tryd.underlying3 (by omega) (by omega) (by omega)) hHeld ?_
      refine take_d9 8 (some 40) (v := .int .i64 by_) rfl (by kernel_rfl) (by kernel_rfl) (by kernel_rfl) (by kernel_rfl) (fun c a w h => h) (Or.inl ⟨by kernel_rfl, fun w _ => by kernel_rfl⟩) hHeld ?_
      refine take_d9 9 (some 41) (v := .int .i64 (kb : Int)) rfl (by kernel_rfl) (by kernel_rfl) (by kernel_rfl) (by kernel_rfl) (fun c a w h => h) (yields_low (by kernel_rfl) _ _ _ _ rfl by_ (kb : Int) (by kernel_rfl) (by kernel_rfl) Tryd.underlying3 HKB.out.1) hHeld ?_
      refine take_d9 10 (some 42) (v := .int .i64 ((m.nodes.length : Int) - 1 - (j : Int) + (kb : Int))) rfl (by kernel_rfl) (by kernel_rfl) (by kernel_rfl) (by kernel_rfl) (fun c a w h => h) (yields_addI (by kernel_rfl) _ _ _ _ rfl ((m.nodes.length : Int) - 1 - (j : Int)) (kb : Int) (by kernel_rfl) (by kernel_rfl) Tryd.underlying3 (by omega) (by omega) (by omega)) hHeld ?_
      refine take_d9 11 (some 43) (v := .int .i64 (m.nodes.length : Int)) rfl (by kernel_rfl) (by kernel_rfl) (by kernel_rfl) (by kernel_rfl) (fun c a w h => h) (Or.inl ⟨by kernel_rfl, fun w _ => by kernel_rfl⟩) hHeld ?_
      refine take_d9 12 (some 44) (v := .int .i64 (((m.nodes.length : Int) - 1 - (j : Int) + (kb : Int)) % (m.nodes.length : Int))) rfl (by kernel_rfl) (by kernel_rfl) (by kernel_rfl) (by kernel_rfl) (fun c a w h => h) (yields_remI (by kernel_rfl) _ _ _ _ rfl ((m.nodes.length : Int) - 1 - (j : Int) + (kb : Int)) (m.nodes.length : Int) (by kernel_rfl) (by kernel_rfl) Tryd.underlying3 (by omega) (by omega) (by omega) (by omega)) hHeld ?_
      refine take_d9 13 (some 45) (v := .pointer (some ⟨b', o' + ix * 5, none⟩)) rfl (by kernel_rfl) (by kernel_rfl) (by kernel_rfl) (by kernel_rfl) (fun c a w h => h) (yields_indexI (by kernel_rfl) _ _ _ rfl b' o' m.nodes.length k1 ix 5 (((m.nodes.length : Int) - 1 - (j : Int) + (kb : Int)) % (m.nodes.length : Int)) (by kernel_rfl) (by kernel_rfl) Tryd.underlying55 (by kernel_rfl) HA.out.2.2.2.2.2.1 HA.out.2.2.2.2.2.2) hHeld ?_
      refine take_d9 14 (some 46) (v := .agg acs.toArray) rfl (by kernel_rfl) (by kernel_rfl) (by kernel_rfl) (by kernel_rfl) (fun c a w h => h) (yields_load_agg (by kernel_rfl) 36 _ rfl _ b' (o' + ix * 5) (by kernel_rfl) acs Tryd.underlying36 rfl (by rw [HA.out.1]; kernel_rfl) (fun _ h => h.2)) hHeld ?_
      obtain ⟨hi0, hz0, hz1, hz2⟩ := HZ.out
      obtain ⟨hrow, hown, hch2, hgl, hsn, hjl⟩ := HO.out
      have hb1 : Below wr.heap.size wr (wr.drew.alloc (.cells acs.toArray 36)) := (Below.refl _ _).drew.alloc (Nat.le_refl _) _
      have hown1 : (wr.drew.alloc (.cells acs.toArray 36)).ownsRow (w3.heap.size + 1) 36 5 vm j xs2 := own_below hown hb1
      have hlies1 := lies_new wr.drew acs 36
      have hbw3 : Below w3.heap.size w3 (wr.drew.alloc (.cells acs.toArray 36)) := HG.out.below.trans (hb1.mono (Nat.le_of_lt hgl))
      have hg1 := HG.out.next (Nat.le_of_lt hw3) hb1
      have hrow0 : wr.drew.cell? ⟨w3.heap.size, 2, none⟩ = some vm := cell_of_row' hrow rfl
      have hrow1 := (hb1.block _ hgl).trans hrow
      have hch1 := hch2.keep (Keeps.old_below hb1 (by omega : w.heap.size ≤ wr.heap.size))
      have hrz1 : rep (wr.drew.alloc (.cells acs.toArray 36)) (old w.heap.size) acs z := Rep.keep HA.out.2.2.2.2.1 (Keeps.old_below (HI3.out.next hbw3).below (Nat.le_refl _))
      have hS1 := HSW.out _ hbw3
      obtain ⟨B1, l1, B2, l2, B3, l3, hacs, -⟩ := open_NodeD hrz1
      refine anyH_load_lay 1 15 33 47 rfl rfl rfl rfl (by decide) (by decide) (by kernel_rfl) (by kernel_rfl) (by kernel_rfl) rfl rfl _ _ rfl w3.heap.size 2 vm _ Tryd.underlying55 rfl (.slice (some ⟨wr.drew.heap.size, 0, none⟩) 1 1) (.cells acs.toArray 36) (by kernel_rfl) (by kernel_rfl) hrow0 hgl (by rw [hacs]; kernel_rfl) (by rw [hacs]; kernel_rfl) hHeld hS1 ?_
      clear hacs
      refine anyH_1 16 rfl (by kernel_rfl) ?_
      have hsz1 : w3.heap.size + 1 ≤ (wr.drew.alloc (.cells acs.toArray 36)).heap.size := by have := hb1.size; omega
      refine steps_append9 (by kernel_rfl) _ _ _ rfl (w3.heap.size + 1) 36 i0 _ 5 104 Tryd.underlying55 hi0 hz0 hz1 hz2 (by kernel_rfl) (by decide) vm j xs2 (by kernel_rfl) hown1
        (old (wr.drew.heap.size + 1)) (some ⟨wr.drew.heap.size, 0, none⟩) 1 1 acs (by kernel_rfl) HA.out.1 hlies1 HA.out.2.1 (by unfold maxLen; omega) (by have := HL.out.2.2; omega) hsz1 ?_
      intro v9 W9 hown9 hg9 hb9
      have hbase : ∀ g, vm.ownBlock = some g → w3.heap.size + 1 ≤ g := fun g hg => (hown1.lt g hg).1
      have h9 := hg1.grow (Nat.le_of_lt hw3) hrow1 hch1 hrz1 (.inr ⟨_, hg9, hbase⟩) (by rw [hjl]; exact hown9)
      rw [← hsn] at h9
      obtain ⟨hrow9, hone, hres⟩ := h9
      have hq9 : Below w3.heap.size w3 W9 := hbw3.grown hg9 (by have := hb1.size; omega) (fun g hg => by have := hbase g hg; omega)
      have hS9 := HSW.out _ hq9
      have hS10 := HSW.out _ hres.below
      refine ⟨hS9, ?_⟩
      refine take_d9 17 (some 49) (v := .pointer (some ⟨w3.heap.size, 2, none⟩)) rfl (by kernel_rfl) (by kernel_rfl) (by kernel_rfl) (by kernel_rfl) (fun c a w h => h) (Or.inl ⟨by kernel_rfl, fun w _ => by kernel_rfl⟩) hS9 ?_
      refine anyH_store_field 18 rfl (by kernel_rfl) (by kernel_rfl) _ _ _ rfl w3.heap.size 2 v9 (by kernel_rfl) (by kernel_rfl) hone (by kernel_rfl) 59 ([.int .i64 m.opset, .string m.name, vm, .slice A2 m.inits.length k2, .slice A3 m.inputs.length k3, .slice A4 m.outputs.length k4] : List Value) hrow9 (by show 2 < 6; decide) hS10 ?_
      refine wpAnyH_done (by kernel_rfl) ?_ _
      generalize World.setRow _ _ _ = wc at hres ⊢
      have HC := Lib.hid hres
      clear hS9 hS10 hq9 hres hrow9 hone hbase hsz1 hS1 hrz1 hch1 hrow1 hrow0 hg1 hbw3 hlies1 hown1 hb1 hown9 hg9 hb9 hrow hown hch2 hgl hsn hjl hi0 hz0 hz1 hz2 hHeld
      go_wp2
      go_roundw
      case rel => exact ⟨j + 1, by go_num, by omega, HC.out⟩
      case measure => simp [intOf]; omega
    · have htk : (turnedD m.nodes (kb % m.nodes.length)).take j = turnedD m.nodes (kb % m.nodes.length) := List.take_of_length_le (by rw [turned_len]; omega)
      have hg2 := HG.out
      rw [htk] at hg2
      obtain ⟨vm, hrow, hvm⟩ := hg2.datum (Nat.le_of_lt hw3) (by rw [turned_len]; exact HL.out.2.2)
      have hmN : rep wr (old wr.heap.size) [.int .i64 m.opset, .string m.name, vm, .slice A2 m.inits.length k2, .slice A3 m.inputs.length k3, .slice A4 m.outputs.length k4] ({ m with nodes := turnedD m.nodes (kb % m.nodes.length) } : ModelD) :=
        shut_ModelD (a := { m with nodes := turnedD m.nodes (kb % m.nodes.length) }) HIO.out.1 HIO.out.2.1 (c2 := [_]) hvm (c3 := [_]) (HIr.out.keeps' HIO.out.2.2.1) (c4 := [_]) (HIr.out.keeps' HIO.out.2.2.2.1) (c5 := [_]) (HIr.out.keeps' HIO.out.2.2.2.2)
      have HG6 := Lib.hid (And.intro hrow hmN)
      have hts := turned_same (m := m) (turned_perm m.nodes (kb % m.nodes.length)).symm
      obtain ⟨G2, hG2⟩ : ∃ G, (buildD { m with nodes := turnedD m.nodes (kb % m.nodes.length) }).1 = G := ⟨_, rfl⟩
      obtain ⟨E2, hE2⟩ : ∃ x, (buildD { m with nodes := turnedD m.nodes (kb % m.nodes.length) }).2.1 = x := ⟨_, rfl⟩
      obtain ⟨X2, hX2⟩ : ∃ x, (buildD { m with nodes := turnedD m.nodes (kb % m.nodes.length) }).2.2 = x := ⟨_, rfl⟩
      rw [HB1.out.1, HB1.out.2.1, hG2, hE2] at hts
      have HB2 := Lib.hid (And.intro hG2 (And.intro hE2 hX2))
      have HTS := Lib.hid hts
      clear hrow hvm hmN htk hg2 hts hG2 hE2 hX2
      go_wp2_with (with_reducible refine wpList_load_agg rfl 59 _ rfl _ _ _ rfl [.int .i64 m.opset, .string m.name, vm, .slice A2 m.inits.length k2, .slice A3 m.inputs.length k3, .slice A4 m.outputs.length k4] Tryd.underlying59 rfl (by kernel_rfl) (At.of_row HG6.out.1) ?_)
      refine (build_any [.int .i64 m.opset, .string m.name, vm, .slice A2 m.inits.length k2, .slice A3 m.inputs.length k3, .slice A4 m.outputs.length k4] _ wr (HT.out.1.ext HIr.out.below) HG6.out.2).mono ?_
      unfold BuildPost
      rw [HB2.out.1, HB2.out.2.1, HB2.out.2.2]
      rintro e w6 ⟨gcs, rfl, hg, hb⟩
      obtain ⟨U0, d0, U1, d1, U2, d2, U3, d3, rfl, -⟩ := open_GraphD hg
      have HI6 := Lib.hid (HIr.out.next hb)
      have hx3 : w6.heap[w2.heap.size]? = some (.cells (([.slice V0 G1.vals.length c0, .slice V1 G1.nodes.length c1, .slice V2 G1.inputs.length c2, .slice V3 G1.outputs.length c3] : List Value)).toArray 63 (0, 0)) := by
        have h0 := HX3.out.2.1
        have h1 : w2.heap.size < w3.heap.size := (Array.getElem?_eq_some_iff.1 h0).1
        exact (hb.block _ (Nat.lt_of_lt_of_le h1 HG.out.below.size)).trans ((HG.out.below.block _ h1).trans h0)
      have HX6 := Lib.hid hx3
      clear hb hg hx3
      go_wp2_with (first
        | (with_reducible refine wpList_alloc_row rfl 63 rfl ([.slice none 0 0, .slice none 0 0, .slice none 0 0, .slice none 0 0] : List Value) zero4_zero ?_)
        | (with_reducible refine wpList_store_agg rfl 63 _ _ rfl _ 0 ([.slice U0 G2.vals.length d0, .slice U1 G2.nodes.length d1, .slice U2 G2.inputs.length d2, .slice U3 G2.outputs.length d3] : List Value) rfl rfl 63 ([.slice none 0 0, .slice none 0 0, .slice none 0 0, .slice none 0 0] : List Value) (heap_alloc_new _ _) (by kernel_rfl) (of_decide_eq_true (by kernel_rfl)) (by simp [Value.oneCell']) ?_; have hX := laid_row w6 63 ([.slice none 0 0, .slice none 0 0, .slice none 0 0, .slice none 0 0] : List Value) ([.slice U0 G2.vals.length d0, .slice U1 G2.nodes.length d1, .slice U2 G2.inputs.length d2, .slice U3 G2.outputs.length d3] : List Value) rfl; generalize World.setRow _ _ _ = w7 at hX ⊢; have HI7 := Lib.hid (HI6.out.next hX.1); have HX7 := Lib.hid hX; clear hX; refine halt ?_))
      unfold Halt
      have hy : w7.heap[w2.heap.size]? = some (.cells (([.slice V0 G1.vals.length c0, .slice V1 G1.nodes.length c1, .slice V2 G1.inputs.length c2, .slice V3 G1.outputs.length c3] : List Value)).toArray 63 (0, 0)) := (HX7.out.1.block _ (Array.getElem?_eq_some_iff.1 HX6.out).1).trans HX6.out
      have k0 : w7.cell? ⟨w2.heap.size, 0, none⟩ = some (.slice V0 G1.vals.length c0) := cell_of_row' hy rfl
      have k1' : w7.cell? ⟨w2.heap.size, 1, none⟩ = some (.slice V1 G1.nodes.length c1) := cell_of_row' hy rfl
      have l0 : w7.cell? ⟨w6.heap.size, 0, none⟩ = some (.slice U0 G2.vals.length d0) := cell_of_row' HX7.out.2.1 rfl
      have l1 : w7.cell? ⟨w6.heap.size, 1, none⟩ = some (.slice U1 G2.nodes.length d1) := cell_of_row' HX7.out.2.1 rfl
      rw [← HTS.out.2.1] at l1
      rw [← HTS.out.2.2] at l0
      clear hy
      by_cases hE : E1 = 0
      · have hE2 : E2 = 0 := HTS.out.1.1 hE
        subst hE hE2
        go_wp2
        go_ret
        exact ⟨rfl, HI7.out.below⟩
      · have hE2 : ¬ E2 = 0 := fun h => hE (HTS.out.1.2 h)
        have hq : (E1 == 0) = (E2 == 0) := by rw [beq_eq_false_iff_ne.2 hE, beq_eq_false_iff_ne.2 hE2]
        have hb1 : (E1 == 0) = false := beq_eq_false_iff_ne.2 hE
        have hb2 : (E2 == 0) = false := beq_eq_false_iff_ne.2 hE2
        go_wp2
        go_ret
        exact ⟨rfl, HI7.out.below⟩
end Go.Proofs.YtgbkhcmbmffljaaDoor
