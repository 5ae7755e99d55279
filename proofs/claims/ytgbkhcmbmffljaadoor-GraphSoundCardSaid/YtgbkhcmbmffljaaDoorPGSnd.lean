/-
  The law GraphSound: its walk.
-/
import Derived.Deep.DeepCutAuto
import Derived.Test.YtgbkhcmbmffljaaDoorPGAwk
import Derived.Test.YtgbkhcmbmffljaaDoorPGPrune
import Derived.Test.YtgbkhcmbmffljaaDoorPGSndP
import Derived.Test.YtgbkhcmbmffljaaDoorPGChk2
import Derived.Test.YtgbkhcmbmffljaaDoorPGNode
set_option linter.unusedSimpArgs false
set_option linter.unusedVariables false
namespace Go.Proofs.YtgbkhcmbmffljaaDoor
open Go.RowKit
open Rep (rep)
/-- A row of whole numbers of the call's own, made since w3. -/
structure ThO (w3 : World) (v : Value) (l : List Int) (W : World) : Prop where
  below : Below w3.heap.size w3 W
  own : W.ownsRow w3.heap.size 3 1 v l.length (l.map (Value.int .i64))
section
variable {w3 W W' W9 : World} {v v9 : Value} {l : List Int}
theorem ThO.next (h : ThO w3 v l W) (hb : Below W.heap.size W W') : ThO w3 v l W' := ⟨h.below.trans (hb.mono h.below.size), own_below h.own hb⟩
theorem ThO.push (h : ThO w3 v l W) {x : Int} (hg : W.grownBy W9 v.ownBlock) (ho : W9.ownsRow w3.heap.size 3 1 v9 (l.length + 1) (l.map (Value.int .i64) ++ [.int .i64 x])) : ThO w3 v9 (l ++ [x]) W9 := by
  refine ⟨h.below.trans ⟨hg.os, hg.tape, hg.output, hg.size, fun k hk => hg.block k (Nat.lt_of_lt_of_le hk h.below.size) (fun e => ?_)⟩, ?_⟩
  · have := (h.own.lt k e.symm).1
    omega
  · rw [List.length_append, List.map_append]; exact ho
theorem ThO.rep (h : ThO w3 v l W) (h64 : ∀ x ∈ l, I64 x) (hb : l.length ≤ 1048576) : Rep.rep W (old W.heap.size) [v] l :=
  rep_of_own (α := Int) h.own (chunks_of_ints l h64) (by show _ * 8 ≤ 140737488351232; omega) (fun k _ _ hk => hk)
end
def timesL (g : GraphD) (n : Nat) : List Int := (List.range n).map fun i => (standsD g i : Int)
theorem timesL_len (g : GraphD) (n : Nat) : (timesL g n).length = n := by simp [timesL]
theorem timesL_snoc (g : GraphD) (n : Nat) : timesL g (n + 1) = timesL g n ++ [(standsD g n : Int)] := by simp [timesL, List.range_succ]
theorem timesL_get {g : GraphD} {n i : Nat} (h : i < n) : (timesL g n)[i]? = some (standsD g i : Int) := by simp [timesL, h]
theorem standsD_le (g : GraphD) (i : Nat) : standsD g i ≤ g.nodes.length := List.countP_le_length
theorem node_39 {w : World} {Z : Zone} {cs : List Value} {a : GNodeD} (h : rep w Z cs a) : cs[39]? = some (.int .i64 a.source) := by
  obtain ⟨ss, A1, k1, A2, k2, -, -, -, h39, -⟩ := gnode_facts h
  exact h39
theorem node_op {w : World} {Z : Zone} {cs : List Value} {n : NodeD} (h : rep w Z cs n) : cs[0]? = some (.string n.op) := by
  obtain ⟨B1, l1, B2, l2, B3, l3, rfl, -⟩ := open_NodeD h
  rfl
set_option maxRecDepth 100000 in
set_option maxHeartbeats 40000000 in
theorem sound_any (mcs : List Value) (m : ModelD) (w : World) (ht : Tab w) (hr : rep w (old w.heap.size) mcs m) :
    Calls Tryd.prog 9 #[.agg mcs.toArray] w (YesBelow w) := by
  have hrn := hr
  obtain ⟨A1, k1, A2, k2, A3, k3, A4, k4, rfl, g0, g1, g2, g3, g4, g5⟩ := open_ModelD hr
  obtain ⟨A', c', xs, hv, hnc, hcm, hby, hl, hch⟩ := open_slice g2
  simp only [Value.slice.injEq, true_and] at hv
  obtain ⟨rfl, rfl⟩ := hv
  have hlen : m.nodes.length * 104 ≤ 140737488351232 := hby
  have hlen2 : m.nodes.length ≤ 2000000000000 := by omega
  have HT := Lib.hid (And.intro ht hrn)
  have HL := Lib.hid (And.intro hl (And.intro hch hlen))
  have HNO := Lib.hid (show ∀ u ∈ ([.int .i64 m.opset, .string m.name, .slice A1 m.nodes.length k1, .slice A2 m.inits.length k2, .slice A3 m.inputs.length k3, .slice A4 m.outputs.length k4] : List Value), u.oneCell' = true from Rep.one hrn)
  clear hr hrn ht g0 g1 g2 g3 g4 g5 hl hch hby hlen
  go_enter Tryd.func9, Tryd.ntmps9
  go_wp2_with fail
  have hX : BoxInv w 59 ([.int .i64 m.opset, .string m.name, .slice A1 m.nodes.length k1, .slice A2 m.inits.length k2, .slice A3 m.inputs.length k3, .slice A4 m.outputs.length k4] : List Value) (w.alloc (.cells ([.int .i64 m.opset, .string m.name, .slice A1 m.nodes.length k1, .slice A2 m.inits.length k2, .slice A3 m.inputs.length k3, .slice A4 m.outputs.length k4] : List Value).toArray 59)) := box_start w 59 ([.int .i64 m.opset, .string m.name, .slice A1 m.nodes.length k1, .slice A2 m.inits.length k2, .slice A3 m.inputs.length k3, .slice A4 m.outputs.length k4] : List Value)
  generalize World.alloc _ _ = W0 at hX ⊢
  have HI := Lib.hid hX
  clear hX
  refine (awake9_any W0 (HT.out.1.ext HI.out.below)).mono ?_
  rintro e w1 ⟨rfl, hb⟩
  have HI1 := Lib.hid (HI.out.next hb)
  clear hb
  go_wp2_with (first
    | (with_reducible refine wpList_load_agg rfl 59 _ rfl _ _ _ rfl ([.int .i64 m.opset, .string m.name, .slice A1 m.nodes.length k1, .slice A2 m.inits.length k2, .slice A3 m.inputs.length k3, .slice A4 m.outputs.length k4] : List Value) Tryd.underlying59 rfl (by kernel_rfl) (At.of_row HI1.out.row) ?_))
  refine (build_any ([.int .i64 m.opset, .string m.name, .slice A1 m.nodes.length k1, .slice A2 m.inits.length k2, .slice A3 m.inputs.length k3, .slice A4 m.outputs.length k4] : List Value) m w1 (HT.out.1.ext HI1.out.below) (HI1.out.keeps' HT.out.2)).mono ?_
  obtain ⟨G1, hG1⟩ : ∃ G, (buildD m).1 = G := ⟨_, rfl⟩
  obtain ⟨E1, hE1⟩ : ∃ x, (buildD m).2.1 = x := ⟨_, rfl⟩
  obtain ⟨X1, hX1⟩ : ∃ x, (buildD m).2.2 = x := ⟨_, rfl⟩
  unfold BuildPost
  rw [hG1, hE1, hX1]
  have HB1 := Lib.hid (And.intro hG1 (And.intro hE1 hX1))
  clear hG1 hE1 hX1
  rintro e w2 ⟨gcs, rfl, hg, hb⟩
  have hg0 := hg
  obtain ⟨V0, c0, V1, c1, V2, c2, V3, c3, rfl, -, -, -, -⟩ := open_GraphD hg
  have hvb : G1.vals.length ≤ c0 ∧ c0 ≤ 9223372036854775807 ∧ G1.nodes.length ≤ c1 ∧ c1 ≤ 9223372036854775807 := by
    obtain ⟨_, _, _, _, _, _, _, _, he, q0, q1, -, -⟩ := open_GraphD hg0
    simp only [List.cons.injEq, Value.slice.injEq, true_and, and_true] at he
    obtain ⟨⟨rfl, rfl⟩, ⟨rfl, rfl⟩, ⟨rfl, rfl⟩, rfl, rfl⟩ := he
    have h0 := slice_bnd q0
    have h1 := slice_bnd q1
    exact ⟨h0.1, h0.2, h1.1, h1.2⟩
  have HI2 := Lib.hid (HI1.out.next hb)
  have HG2 := Lib.hid (And.intro hg0 hvb)
  clear hb hg hg0 hvb
  go_wp2_with (first
    | (with_reducible refine wpList_alloc_row rfl 63 rfl ([.slice none 0 0, .slice none 0 0, .slice none 0 0, .slice none 0 0] : List Value) zero4C ?_)
    | (with_reducible refine wpList_store_agg rfl 63 _ _ rfl _ 0 ([.slice V0 G1.vals.length c0, .slice V1 G1.nodes.length c1, .slice V2 G1.inputs.length c2, .slice V3 G1.outputs.length c3] : List Value) rfl rfl 63 ([.slice none 0 0, .slice none 0 0, .slice none 0 0, .slice none 0 0] : List Value) (heap_alloc_new _ _) (by kernel_rfl) (of_decide_eq_true (by kernel_rfl)) (by simp [Value.oneCell']) ?_; have hX := laid_row w2 63 ([.slice none 0 0, .slice none 0 0, .slice none 0 0, .slice none 0 0] : List Value) ([.slice V0 G1.vals.length c0, .slice V1 G1.nodes.length c1, .slice V2 G1.inputs.length c2, .slice V3 G1.outputs.length c3] : List Value) rfl; generalize World.setRow _ _ _ = w3 at hX ⊢; have HI3 := Lib.hid (HI2.out.next hX.1); have HX3 := Lib.hid hX; clear hX; refine halt ?_))
  unfold Halt
  have hrg : rep w3 (old w3.heap.size) ([.slice V0 G1.vals.length c0, .slice V1 G1.nodes.length c1, .slice V2 G1.inputs.length c2, .slice V3 G1.outputs.length c3] : List Value) G1 := Rep.more (Rep.keep HG2.out.1 (Keeps.fresh_below HX3.out.1 (Nat.le_refl _))) (fresh_old HX3.out.1.size)
  have HRG := Lib.hid (And.intro hrg (HI3.out.keeps' HT.out.2))
  clear hrg
  by_cases hE : E1 = 0
  case neg =>
    have hw := build_where (m := m) (by rw [HB1.out.2.1]; exact hE)
    rw [HB1.out.1, HB1.out.2.2] at hw
    obtain ⟨hG, hx1, hx2⟩ := hw
    have hv0 : G1.vals.length = 0 := by rw [hG]; rfl
    have k0 := cell_at (j := 0) HX3.out.2.1 rfl
    have k5 := cell_at (j := 2) HI3.out.row rfl
    rw [hv0] at k0
    have hb1 : (E1 == 0) = false := beq_eq_false_iff_ne.2 hE
    clear hG hv0
    go_wp2
    go_ret
    exact ⟨rfl, HI3.out.below⟩
  case pos =>
    subst hE
    have hT := taken_of_zero HB1.out.2.1
    have hsz := taken_sizes hT
    have hso := build_sound hT
    rw [HB1.out.1] at hsz hso
    have HS := Lib.hid (And.intro hT (And.intro hsz hso))
    have hgl : G1.nodes.length ≤ 1048576 := hsz.2.1
    have hml : m.nodes.length ≤ 1024 := (small_of_check hT.check).nodes
    clear hT hsz hso
    have hto : ThO w3 (.slice none 0 0) (timesL G1 0) w3 := ⟨Below.refl _ _, World.ownsRow_nil _ _ _ _⟩
    have HTO := Lib.hid hto
    clear hto
    obtain ⟨_, _, _, _, _, _, _, _, he, -, q1, -, -⟩ := open_GraphD HRG.out.1
    simp only [List.cons.injEq, Value.slice.injEq, true_and, and_true] at he
    obtain ⟨⟨rfl, rfl⟩, ⟨rfl, rfl⟩, ⟨rfl, rfl⟩, rfl, rfl⟩ := he
    obtain ⟨NB, nc, ns, hv, hnc1, hcm1, -, hl, hch⟩ := open_slice q1
    simp only [Value.slice.injEq, true_and] at hv
    obtain ⟨rfl, rfl⟩ := hv
    have HN := Lib.hid (And.intro hl hch)
    clear q1 hl hch
    go_wp2_with fail
    go_loopg [7, 8] m.nodes.length (fun gk s7 s8 wr => ∃ j : Nat, j + gk = m.nodes.length ∧ s8 = .int .i64 j ∧ ThO w3 s7 (timesL G1 j) wr)
    case atStart => exact ⟨0, Nat.zero_add _, rfl, HTO.out⟩
    case round =>
      obtain ⟨j, hjk, rfl, hI⟩ := hrel
      have HJ := Lib.hid hI
      have hlw : w.heap.size < w3.heap.size := HI3.out.lt
      have k5 : wr.cell? ⟨w.heap.size, 2, none⟩ = some (.slice A1 m.nodes.length k1) := (hI.below.cell (p := ⟨w.heap.size, 2, none⟩) hlw).trans (cell_at (j := 2) HI3.out.row rfl)
      clear hI
      cases gk with
      | zero =>
        have hj : ¬ ((j : Int) < (m.nodes.length : Int)) := by omega
        have hjl := Lib.hid (show j = m.nodes.length by omega)
        clear hjk
        have hth := HJ.out
        rw [hjl.out] at hth
        have h64 : ∀ x ∈ timesL G1 m.nodes.length, I64 x := fun x hx => by
          obtain ⟨i, hi, rfl⟩ := List.mem_map.1 hx
          have := standsD_le G1 i
          unfold I64
          omega
        obtain ⟨A7, c7, ts, rfl, hc7, hc7m, -, hl7, hch7⟩ := open_slice (hth.rep h64 (by rw [timesL_len]; omega))
        rw [timesL_len] at hc7 ⊢
        have H7 := Lib.hid (And.intro hl7 (And.intro hch7 hth.below))
        replace HJ := Lib.hid hth
        clear hl7 hch7 hth h64
        have K5 := Lib.hid k5
        go_wp2_with fail
        clear k5 hj
        obtain ⟨wb, rfl⟩ : ∃ wb, wb = wr := ⟨_, rfl⟩
        go_loopg [11] m.nodes.length (fun k s11 wr => ∃ i : Nat, i + k = m.nodes.length ∧ s11 = .int .i64 i ∧ Below wb.heap.size wb wr)
        case atStart => exact ⟨0, Nat.zero_add _, rfl, Below.refl _ _⟩
        case round =>
          obtain ⟨i, hik, rfl, hB⟩ := hrel
          have HBw := Lib.hid hB
          have k5 : wr.cell? ⟨w.heap.size, 2, none⟩ = some (.slice A1 m.nodes.length k1) := (hB.cell (p := ⟨w.heap.size, 2, none⟩) (Nat.lt_of_lt_of_le hlw H7.out.2.2.size)).trans K5.out
          clear hB
          cases gk with
          | zero =>
            have hi : ¬ ((i : Int) < (m.nodes.length : Int)) := by omega
            clear hik
            have hb3 := H7.out.2.2.trans (HBw.out.mono H7.out.2.2.size)
            have hlg : w2.heap.size < w3.heap.size := (Array.getElem?_eq_some_iff.1 HX3.out.2.1).1
            have hgr : wr.heap[w2.heap.size]? = some (.cells ([.slice V0 G1.vals.length c0, .slice V1 G1.nodes.length c1, .slice V2 G1.inputs.length c2, .slice V3 G1.outputs.length c3] : List Value).toArray 63 (0, 0)) := (hb3.block _ hlg).trans HX3.out.2.1
            have hrG : rep wr (old wr.heap.size) ([.slice V0 G1.vals.length c0, .slice V1 G1.nodes.length c1, .slice V2 G1.inputs.length c2, .slice V3 G1.outputs.length c3] : List Value) G1 := Rep.more (Rep.keep HRG.out.1 (Keeps.old_below hb3 (Nat.le_refl _))) (old_le hb3.size)
            have HR4 := Lib.hid (And.intro hgr (And.intro hrG hb3))
            clear hb3 hgr hrG
            go_wp2_with (with_reducible refine wpList_load_agg rfl 63 _ rfl _ w2.heap.size 0 rfl ([.slice V0 G1.vals.length c0, .slice V1 G1.nodes.length c1, .slice V2 G1.inputs.length c2, .slice V3 G1.outputs.length c3] : List Value) Tryd.underlying63 rfl (by kernel_rfl) (At.of_row HR4.out.1) ?_)
            clear hi
            refine (prune_any ([.slice V0 G1.vals.length c0, .slice V1 G1.nodes.length c1, .slice V2 G1.inputs.length c2, .slice V3 G1.outputs.length c3] : List Value) G1 wr HR4.out.2.1 HS.out.2.1.1 HS.out.2.1.2.1 HS.out.2.1.2.2.1).mono ?_
            rintro e w4 ⟨pcs, rfl, hp, hb⟩
            obtain ⟨U0, d0, U1, d1, U2, d2, U3, d3, hpe, -, q1, -, q3⟩ := open_GraphD hp
            replace hpe : pcs = ([.slice U0 G1.vals.length d0, .slice U1 (pruneD G1).nodes.length d1, .slice U2 G1.inputs.length d2, .slice U3 G1.outputs.length d3] : List Value) := hpe
            subst hpe
            have hpn := slice_bnd q1
            have HP4 := Lib.hid (And.intro hp (And.intro hb q3))
            clear hp hb q1 q3
            go_wp2_with (first
              | (with_reducible refine wpList_alloc_row rfl 63 rfl ([.slice none 0 0, .slice none 0 0, .slice none 0 0, .slice none 0 0] : List Value) zero4C ?_)
              | (with_reducible refine wpList_store_agg rfl 63 _ _ rfl _ 0 ([.slice U0 G1.vals.length d0, .slice U1 (pruneD G1).nodes.length d1, .slice U2 G1.inputs.length d2, .slice U3 G1.outputs.length d3] : List Value) rfl rfl 63 ([.slice none 0 0, .slice none 0 0, .slice none 0 0, .slice none 0 0] : List Value) (heap_alloc_new _ _) (by kernel_rfl) (of_decide_eq_true (by kernel_rfl)) (by simp [Value.oneCell']) ?_; have hX := laid_row w4 63 ([.slice none 0 0, .slice none 0 0, .slice none 0 0, .slice none 0 0] : List Value) ([.slice U0 G1.vals.length d0, .slice U1 (pruneD G1).nodes.length d1, .slice U2 G1.inputs.length d2, .slice U3 G1.outputs.length d3] : List Value) rfl; generalize World.setRow _ _ _ = w5 at hX ⊢; have HX5 := Lib.hid hX; clear hX; refine halt ?_))
            unfold Halt
            have hrP : rep w5 (old w5.heap.size) ([.slice U0 G1.vals.length d0, .slice U1 (pruneD G1).nodes.length d1, .slice U2 G1.inputs.length d2, .slice U3 G1.outputs.length d3] : List Value) (pruneD G1) := Rep.more (Rep.keep HP4.out.1 (Keeps.fresh_below HX5.out.1 (Nat.le_refl _))) (fresh_old HX5.out.1.size)
            have hb5 := HR4.out.2.2.trans ((HP4.out.2.1.trans (HX5.out.1.mono HP4.out.2.1.size)).mono HR4.out.2.2.size)
            have hps := prune_sizes HS.out.2.1
            have H5 := Lib.hid (And.intro hrP (And.intro hb5 hps))
            clear hrP hb5 hps
            go_wp2_with (with_reducible refine wpList_load_agg rfl 63 _ rfl _ w4.heap.size 0 rfl ([.slice U0 G1.vals.length d0, .slice U1 (pruneD G1).nodes.length d1, .slice U2 G1.inputs.length d2, .slice U3 G1.outputs.length d3] : List Value) Tryd.underlying63 rfl (by kernel_rfl) (At.of_row HX5.out.2.1) ?_)
            refine (live_any ([.slice U0 G1.vals.length d0, .slice U1 (pruneD G1).nodes.length d1, .slice U2 G1.inputs.length d2, .slice U3 G1.outputs.length d3] : List Value) (pruneD G1) w5 H5.out.1 H5.out.2.2.1 H5.out.2.2.2.1 H5.out.2.2.2.2.1).mono ?_
            rintro e w6 ⟨vL, rfl, hL, hb⟩
            rw [live_pruned] at hL
            obtain ⟨LA, lc, ls, rfl, hLc, hLm, -, hLl, hLh⟩ := open_slice hL
            rw [List.length_replicate] at hLc
            have hpl : (pruneD G1).nodes.length ≤ 1048576 := H5.out.2.2.2.1
            have H6 := Lib.hid (And.intro hLl (And.intro hLh hb))
            rw [List.length_replicate]
            clear hL hLl hLh hb
            go_wp2_with fail
            go_loopg [14] (pruneD G1).nodes.length (fun k s14 wr => ∃ i : Nat, i + k = (pruneD G1).nodes.length ∧ s14 = .int .i64 i ∧ wr = w6)
            case atStart => exact ⟨0, Nat.zero_add _, rfl, rfl⟩
            case round =>
              obtain ⟨i2, hik, rfl, rfl⟩ := hrel
              cases gk with
              | zero =>
                have hi : ¬ ((i2 : Int) < ((pruneD G1).nodes.length : Int)) := by omega
                clear hik
                have hb6 : Below w3.heap.size w3 wr := H5.out.2.1.trans (H6.out.2.2.mono H5.out.2.1.size)
                have hlg2 : w2.heap.size < w3.heap.size := (Array.getElem?_eq_some_iff.1 HX3.out.2.1).1
                have hg6 : wr.heap[w2.heap.size]? = some (.cells ([.slice V0 G1.vals.length c0, .slice V1 G1.nodes.length c1, .slice V2 G1.inputs.length c2, .slice V3 G1.outputs.length c3] : List Value).toArray 63 (0, 0)) := (hb6.block _ hlg2).trans HX3.out.2.1
                have hl5 : w4.heap.size < w5.heap.size := (Array.getElem?_eq_some_iff.1 HX5.out.2.1).1
                have hp6 : wr.heap[w4.heap.size]? = some (.cells ([.slice U0 G1.vals.length d0, .slice U1 (pruneD G1).nodes.length d1, .slice U2 G1.inputs.length d2, .slice U3 G1.outputs.length d3] : List Value).toArray 63 (0, 0)) := (H6.out.2.2.block _ hl5).trans HX5.out.2.1
                have hrG : rep wr (old wr.heap.size) ([.slice V0 G1.vals.length c0, .slice V1 G1.nodes.length c1, .slice V2 G1.inputs.length c2, .slice V3 G1.outputs.length c3] : List Value) G1 := Rep.more (Rep.keep HRG.out.1 (Keeps.old_below hb6 (Nat.le_refl _))) (old_le hb6.size)
                have hrP : rep wr (old wr.heap.size) ([.slice U0 G1.vals.length d0, .slice U1 (pruneD G1).nodes.length d1, .slice U2 G1.inputs.length d2, .slice U3 G1.outputs.length d3] : List Value) (pruneD G1) := Rep.more (Rep.keep H5.out.1 (Keeps.old_below H6.out.2.2 (Nat.le_refl _))) (old_le H6.out.2.2.size)
                have hbw : Below w.heap.size w wr := HI3.out.below.trans (hb6.mono (Nat.le_of_lt hlw))
                have H8 := Lib.hid (And.intro hg6 (And.intro hp6 (And.intro hrG (And.intro hrP hbw))))
                have hz6 := hb6.size
                have HZ6 := Lib.hid (And.intro (Nat.lt_of_lt_of_le hlg2 hz6) (Nat.lt_of_lt_of_le hl5 H6.out.2.2.size))
                clear hb6 hlg2 hg6 hl5 hp6 hrG hrP hbw hz6
                go_wp2_with (with_reducible refine wpList_load_agg_w (by kernel_rfl) 63 _ rfl _ w2.heap.size 0 rfl ([.slice V0 G1.vals.length c0, .slice V1 G1.nodes.length c1, .slice V2 G1.inputs.length c2, .slice V3 G1.outputs.length c3] : List Value) Tryd.underlying63 rfl (by kernel_rfl) (At.of_row H8.out.1) ?_)
                refine (check_sound ([.slice V0 G1.vals.length c0, .slice V1 G1.nodes.length c1, .slice V2 G1.inputs.length c2, .slice V3 G1.outputs.length c3] : List Value) G1 wr H8.out.2.2.1 HS.out.2.1.2.2.2 HS.out.2.2).mono ?_
                rintro e w7 ⟨rfl, hb⟩
                have HB7 := Lib.hid hb
                clear hb
                have hp7 : w7.heap[w4.heap.size]? = some (.cells ([.slice U0 G1.vals.length d0, .slice U1 (pruneD G1).nodes.length d1, .slice U2 G1.inputs.length d2, .slice U3 G1.outputs.length d3] : List Value).toArray 63 (0, 0)) := (HB7.out.block _ HZ6.out.2).trans H8.out.2.1
                have hrP : rep w7 (old w7.heap.size) ([.slice U0 G1.vals.length d0, .slice U1 (pruneD G1).nodes.length d1, .slice U2 G1.inputs.length d2, .slice U3 G1.outputs.length d3] : List Value) (pruneD G1) := Rep.more (Rep.keep H8.out.2.2.2.1 (Keeps.old_below HB7.out (Nat.le_refl _))) (old_le HB7.out.size)
                have H9 := Lib.hid (And.intro hp7 hrP)
                clear hp7 hrP
                go_wp2_with (with_reducible refine wpList_load_agg_w (by kernel_rfl) 63 _ rfl _ w4.heap.size 0 rfl ([.slice U0 G1.vals.length d0, .slice U1 (pruneD G1).nodes.length d1, .slice U2 G1.inputs.length d2, .slice U3 G1.outputs.length d3] : List Value) Tryd.underlying63 rfl (by kernel_rfl) (At.of_row H9.out.1) ?_)
                refine (check_sound ([.slice U0 G1.vals.length d0, .slice U1 (pruneD G1).nodes.length d1, .slice U2 G1.inputs.length d2, .slice U3 G1.outputs.length d3] : List Value) (pruneD G1) w7 H9.out.2 H5.out.2.2.2.2.2 (sound_prune HS.out.2.2)).mono ?_
                rintro e w8 ⟨rfl, hb⟩
                have hb8 : Below wr.heap.size wr w8 := HB7.out.trans (hb.mono HB7.out.size)
                have hg8 : w8.heap[w2.heap.size]? = some (.cells ([.slice V0 G1.vals.length c0, .slice V1 G1.nodes.length c1, .slice V2 G1.inputs.length c2, .slice V3 G1.outputs.length c3] : List Value).toArray 63 (0, 0)) := (hb8.block _ HZ6.out.1).trans H8.out.1
                have hp8 : w8.heap[w4.heap.size]? = some (.cells ([.slice U0 G1.vals.length d0, .slice U1 (pruneD G1).nodes.length d1, .slice U2 G1.inputs.length d2, .slice U3 G1.outputs.length d3] : List Value).toArray 63 (0, 0)) := (hb8.block _ HZ6.out.2).trans H8.out.2.1
                have f0 : w8.cell? ⟨w4.heap.size, 0, none⟩ = some (.slice U0 G1.vals.length d0) := cell_at hp8 rfl
                have f1 : w8.cell? ⟨w2.heap.size, 0, none⟩ = some (.slice V0 G1.vals.length c0) := cell_at hg8 rfl
                have f2 : w8.cell? ⟨w4.heap.size, 3, none⟩ = some (.slice U3 G1.outputs.length d3) := cell_at hp8 rfl
                have f3 : w8.cell? ⟨w2.heap.size, 3, none⟩ = some (.slice V3 G1.outputs.length c3) := cell_at hg8 rfl
                have hrO1 : rep w8 (old w8.heap.size) [.slice U3 G1.outputs.length d3] G1.outputs := by
                  obtain ⟨_, _, _, _, _, _, _, _, he, -, -, -, q⟩ := open_GraphD H8.out.2.2.2.1
                  simp only [List.cons.injEq, Value.slice.injEq, true_and, and_true] at he
                  obtain ⟨-, -, -, rfl, -, rfl⟩ := he
                  exact Rep.more (Rep.keep q (Keeps.old_below hb8 (Nat.le_refl _))) (old_le hb8.size)
                have hrO2 : rep w8 (old w8.heap.size) [.slice V3 G1.outputs.length c3] G1.outputs := by
                  obtain ⟨_, _, _, _, _, _, _, _, he, -, -, -, q⟩ := open_GraphD H8.out.2.2.1
                  simp only [List.cons.injEq, Value.slice.injEq, true_and, and_true] at he
                  obtain ⟨-, -, -, rfl, rfl⟩ := he
                  exact Rep.more (Rep.keep q (Keeps.old_below hb8 (Nat.le_refl _))) (old_le hb8.size)
                have h10 : ∀ n, Below w.heap.size w (w8.drewN n) := fun n => below_drewN (H8.out.2.2.2.2.trans (hb8.mono H8.out.2.2.2.2.size)) n
                have f4 : ∀ n, (w8.drewN n).cell? ⟨w4.heap.size, 1, none⟩ = some (.slice U1 (pruneD G1).nodes.length d1) := fun n => (show w8.cell? ⟨w4.heap.size, 1, none⟩ = _ from cell_at hp8 rfl)
                have H10 := Lib.hid (And.intro hrO1 (And.intro hrO2 (And.intro h10 f4)))
                clear hb hb8 hg8 hp8 hrO1 hrO2 h10 f4
                go_wp2_with fail
                clear f0 f1 f2 f3
                refine (sameInts_any _ _ G1.outputs w8 H10.out.1 H10.out.2.1).mono ?_
                rintro e w9 ⟨rfl, nq, rfl⟩
                have f4 := H10.out.2.2.2 nq
                go_wp2
                go_ret
                exact ⟨rfl, H10.out.2.2.1 nq⟩

              | succ k =>
                have hi : (i2 : Int) < ((pruneD G1).nodes.length : Int) := by omega
                have hi0 : (0 : Int) ≤ (i2 : Int) := Int.natCast_nonneg _
                have HIK := Lib.hid hik
                obtain ⟨b8, o8, yc, rfl, hb8, hry, hcy⟩ := elem_at (i := i2) (a := true) H6.out.1 H6.out.2.1 (by decide) (by rw [List.getElem?_replicate, if_pos (by omega)])
                have d8 : wr.cell? ⟨b8, o8 + i2, none⟩ = some (.bool true) := cell_of_elem (α := Bool) rfl hcy (one_bool hry)
                clear hik hb8 hry hcy
                go_wp2
                go_roundg k
                case measure => omega
                case rel => exact ⟨i2 + 1, by have := HIK.out; omega, by go_num, rfl⟩

          | succ k =>
            have hi : (i : Int) < (m.nodes.length : Int) := by omega
            have hi0 : (0 : Int) ≤ (i : Int) := Int.natCast_nonneg _
            have hin : i < m.nodes.length := by omega
            have HIK := Lib.hid hik
            clear hik
            obtain ⟨n, hn⟩ : ∃ n, m.nodes[i]? = some n := ⟨_, List.getElem?_eq_getElem hin⟩
            obtain ⟨b1, o1, nc1, rfl, hbN, hrn, hcN⟩ := elem_at HL.out.1 HL.out.2.1 (by decide) hn
            have hww : Below w.heap.size w wr := HI3.out.below.trans ((H7.out.2.2.trans (HBw.out.mono H7.out.2.2.size)).mono (Nat.le_of_lt hlw))
            have d0 : wr.cell? ⟨b1, o1 + i * 5, none⟩ = some (.string n.op) := by
              have h1 := (hcN 0 _ (node_op hrn)).1
              rw [Nat.add_zero] at h1
              exact (hww.cell (p := ⟨b1, o1 + i * 5, none⟩) hbN).trans h1
            obtain ⟨b7, o7, tc, rfl, hb7, hrt, hct⟩ := elem_at H7.out.1 H7.out.2.1 (by decide) (timesL_get (g := G1) hin)
            obtain ⟨rfl, -⟩ := hrt
            have d7 : wr.cell? ⟨b7, o7 + i, none⟩ = some (.int .i64 (standsD G1 i : Int)) := (HBw.out.cell (p := ⟨b7, o7 + i, none⟩) hb7).trans (cell_of_elem (α := Int) rfl hct rfl)
            have hst := taken_times HS.out.1 hn
            rw [HB1.out.1, live_const (HS.out.1.right n (List.mem_of_getElem? hn))] at hst
            clear hn hbN hrn hcN hww hb7 hct
            by_cases hop : n.op = constS
            · have h0 : standsD G1 i = 0 := by rw [hst, hop]; rfl
              rw [h0] at d7
              rw [hop] at d0
              unfold constS at d0
              clear hst h0 hop
              go_wp2_with fail
              go_quiet (fail)
              go_wp2
              go_roundg k
              case measure => omega
              case rel => exact ⟨i + 1, by have := HIK.out; omega, by go_num, below_drewN HBw.out _⟩
            · have h0 : standsD G1 i = 1 := by rw [hst]; simp [hop]
              rw [h0] at d7
              unfold constS at hop
              have hop1 : (n.op.toList == ([67, 111, 110, 115, 116, 97, 110, 116] : List UInt8)) = false := by rw [beq_lit]; exact decide_eq_false hop
              clear hst h0
              go_wp2_with fail
              go_quiet (fail)
              go_wp2
              go_roundg k
              case measure => omega
              case rel => exact ⟨i + 1, by have := HIK.out; omega, by go_num, below_drewN HBw.out _⟩

      | succ gA =>
        have hj : (j : Int) < (m.nodes.length : Int) := by omega
        have hj0 : (0 : Int) ≤ (j : Int) := Int.natCast_nonneg _
        have HJK := Lib.hid hjk
        clear hjk
        go_wp2_with fail
        obtain ⟨wa, rfl⟩ : ∃ wa, wa = wr := ⟨_, rfl⟩
        have hlg : w2.heap.size < w3.heap.size := (Array.getElem?_eq_some_iff.1 HX3.out.2.1).1
        have g5 : wa.cell? ⟨w2.heap.size, 1, none⟩ = some (.slice V1 G1.nodes.length c1) := (HJ.out.below.cell (p := ⟨w2.heap.size, 1, none⟩) hlg).trans (cell_at (j := 1) HX3.out.2.1 rfl)
        have HG5 := Lib.hid g5
        clear g5
        go_loopg [9, 10] G1.nodes.length (fun k s9 s10 wr => ∃ q : Nat, q + k = G1.nodes.length ∧ s10 = .int .i64 q ∧ s9 = .int .i64 (((G1.nodes.take q).countP (fun n => decide (n.source = (j : Int))) : Nat) : Int) ∧ wr = wa)
        case atStart => exact ⟨0, Nat.zero_add _, rfl, rfl, rfl⟩
        case round =>
          obtain ⟨q, hqk, rfl, rfl, rfl⟩ := hrel
          have g5 := HG5.out
          cases gk with
          | zero =>
            have hq : ¬ ((q : Int) < (G1.nodes.length : Int)) := by omega
            have hcnt : (G1.nodes.take q).countP (fun n => decide (n.source = (j : Int))) = standsD G1 j := by rw [List.take_of_length_le (by omega)]; rfl
            rw [hcnt]
            have hsl := standsD_le G1 j
            obtain ⟨t, hts⟩ : ∃ t : Nat, standsD G1 j = t := ⟨_, rfl⟩
            rw [hts] at hsl ⊢
            have HQS := Lib.hid hts
            clear hqk hcnt hts
            obtain ⟨i0, hi0, hz0, hz1, hz2⟩ := info_parts info_ints
            have hb5 : Below wr.heap.size wr (wr.alloc (.cells ([.int .i64 (t : Int)] : List Value).toArray 3)) := (Below.refl _ _).alloc (Nat.le_refl _) _
            have h5 := HJ.out.next hb5
            have hlies := lies_new wr ([.int .i64 (t : Int)] : List Value) 3
            have hone : ∀ u ∈ ([.int .i64 (t : Int)] : List Value), u.oneCell' = true := by simp [Value.oneCell']
            have hmx : (timesL G1 j).length + 1 ≤ maxLen := by rw [timesL_len]; unfold maxLen; omega
            have hbt : ((timesL G1 j).length + 1) * 8 ≤ 140737488355328 := by rw [timesL_len]; omega
            have HD := Lib.hid (And.intro h5 (And.intro hlies (And.intro hone (And.intro hmx (And.intro hbt h5.below.size)))))
            clear hb5 h5 hlies hone hmx hbt
            go_wp2_with (at_builtin; refine wpList_append_lies _ rfl _ _ 37 rfl w3.heap.size 3 i0 _ 1 8 Tryd.underlying37 hi0 hz0 hz1 hz2 (by kernel_rfl) (by decide) _ (timesL G1 j).length _ (by kernel_rfl) HD.out.1.own (old (wr.heap.size + 1)) (some ⟨wr.heap.size, 0, none⟩) 1 1 ([.int .i64 (t : Int)] : List Value) (by kernel_rfl) rfl HD.out.2.1 HD.out.2.2.1 HD.out.2.2.2.1 HD.out.2.2.2.2.1 HD.out.2.2.2.2.2 ?_; intro v9 W9 ho9 hg9 _; have HK := Lib.hid (HD.out.1.push hg9 ho9); clear ho9 hg9)
            clear hi0 hz0 hz1 hz2
            go_wp2
            go_roundg gA
            case measure => omega
            case rel =>
              refine ⟨j + 1, by have := HJK.out; omega, by go_num, ?_⟩
              rw [timesL_snoc, HQS.out]
              exact HK.out
          | succ k =>
            have hq : (q : Int) < (G1.nodes.length : Int) := by omega
            have hq0 : (0 : Int) ≤ (q : Int) := Int.natCast_nonneg _
            have hqn : q < G1.nodes.length := by omega
            obtain ⟨z, hz⟩ : ∃ z, G1.nodes[q]? = some z := ⟨_, List.getElem?_eq_getElem hqn⟩
            obtain ⟨b2, o2, zc, rfl, hbB, hrz, hcell⟩ := elem_at HN.out.1 HN.out.2 (by decide) hz
            have d39 : wr.cell? ⟨b2, o2 + q * 40 + 39, none⟩ = some (.int .i64 z.source) := by
              have h1 := (hcell 39 _ (node_39 hrz)).1
              rw [← Nat.add_assoc] at h1
              exact (HJ.out.below.cell (p := ⟨b2, o2 + q * 40 + 39, none⟩) hbB).trans h1
            have hcs : (G1.nodes.take (q + 1)).countP (fun n => decide (n.source = (j : Int))) = (G1.nodes.take q).countP (fun n => decide (n.source = (j : Int))) + if z.source = (j : Int) then 1 else 0 := by
              rw [List.take_add_one, hz, List.countP_append]
              simp [List.countP_cons]
            have hcl : (G1.nodes.take q).countP (fun n => decide (n.source = (j : Int))) ≤ 1048576 := Nat.le_trans List.countP_le_length (by rw [List.length_take]; omega)
            obtain ⟨t, hts⟩ : ∃ t : Nat, (G1.nodes.take q).countP (fun n => decide (n.source = (j : Int))) = t := ⟨_, rfl⟩
            rw [hts] at hcs hcl ⊢
            have HCS := Lib.hid hcs
            have HQK := Lib.hid hqk
            have ht0 : (0 : Int) ≤ (t : Int) := Int.natCast_nonneg _
            have ht1 : (t : Int) ≤ 1048576 := by omega
            clear hcs hts hqk hz hbB hrz hcell hcl
            by_cases hs : z.source = (j : Int)
            · have HS1 := Lib.hid hs
              rw [hs] at d39
              go_wp2
              go_roundg k
              case measure => omega
              case rel => exact ⟨q + 1, by have := HQK.out; omega, by go_num, by rw [HCS.out, if_pos HS1.out]; go_num, rfl⟩
            · have HS1 := Lib.hid hs
              go_wp2
              go_roundg k
              case measure => omega
              case rel => exact ⟨q + 1, by have := HQK.out; omega, by go_num, by rw [HCS.out, if_neg HS1.out]; rfl, rfl⟩
end Go.Proofs.YtgbkhcmbmffljaaDoor
