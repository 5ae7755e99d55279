/-
  The law OpsDefaults: its walk.
-/
import Derived.Test.YtgbkhcmbmffljaaDoorGrow
import Derived.Test.YtgbkhcmbmffljaaDoorDefP
import Derived.Test.YtgbkhcmbmffljaaDoorOrder
import Derived.Deep.CutRange
import Derived.Deep.DeepCutAuto
set_option linter.unusedSimpArgs false
namespace Go.Proofs.YtgbkhcmbmffljaaDoor
open Go.RowKit
open Rep (rep)

theorem row_cell {w : World} {g : Nat} {cs : List Value} {t : TypeId} {fr : Nat × Nat} {j : Nat} {u : Value} (h : w.heap[g]? = some (.cells cs.toArray t fr)) (hj : cs[j]? = some u) : w.cell? ⟨g, j, none⟩ = some u := by
  rw [cell_of_row _ _ _ _ _ _ h, List.getElem?_toArray]; exact hj
theorem cell_setRow_other (w : World) (g : Nat) (cs : Array Value) (q : Addr) (h : q.block ≠ g) : (w.setRow g cs).cell? q = w.cell? q := World.cell?_of_block (heap_setRow_other w g cs q.block h)
/-- An attribute's cells; what they hold with another number, another float. -/
theorem attr_parts {w : World} {n0 : Nat} {acs : List Value} {z : AttrD} (h : rep w (old n0) acs z) : ∃ a1 l1 a2 l2 a3 l3 a4 l4 a5 l5 a6 l6,
    acs = [.string z.name, .int .i64 z.kind, .int .u32 (z.f : Int), .int .i64 z.i, .string z.s, .int .i64 z.t.type, .slice a1 z.t.dims.length l1, .slice a2 z.t.f.length l2, .slice a3 z.t.i.length l3, .slice a4 z.t.b.length l4, .slice a5 z.floats.length l5, .slice a6 z.ints.length l6] ∧
    (∀ x : Int, I64 x → (∀ u ∈ ([.string z.name, .int .i64 z.kind, .int .u32 (z.f : Int), .int .i64 z.i, .string z.s, .int .i64 z.t.type, .slice a1 z.t.dims.length l1, .slice a2 z.t.f.length l2, .slice a3 z.t.i.length l3, .slice a4 z.t.b.length l4, .slice a5 z.floats.length l5, .slice a6 z.ints.length l6] : List Value).set 3 (.int .i64 x), u.oneCell' = true) ∧ ∀ W : World, Below n0 w W → rep W (old n0) (([.string z.name, .int .i64 z.kind, .int .u32 (z.f : Int), .int .i64 z.i, .string z.s, .int .i64 z.t.type, .slice a1 z.t.dims.length l1, .slice a2 z.t.f.length l2, .slice a3 z.t.i.length l3, .slice a4 z.t.b.length l4, .slice a5 z.floats.length l5, .slice a6 z.ints.length l6] : List Value).set 3 (.int .i64 x)) { z with i := x }) ∧
    (∀ x : Nat, x < 4294967296 → (∀ u ∈ ([.string z.name, .int .i64 z.kind, .int .u32 (z.f : Int), .int .i64 z.i, .string z.s, .int .i64 z.t.type, .slice a1 z.t.dims.length l1, .slice a2 z.t.f.length l2, .slice a3 z.t.i.length l3, .slice a4 z.t.b.length l4, .slice a5 z.floats.length l5, .slice a6 z.ints.length l6] : List Value).set 2 (.int .u32 (x : Int)), u.oneCell' = true) ∧ ∀ W : World, Below n0 w W → rep W (old n0) (([.string z.name, .int .i64 z.kind, .int .u32 (z.f : Int), .int .i64 z.i, .string z.s, .int .i64 z.t.type, .slice a1 z.t.dims.length l1, .slice a2 z.t.f.length l2, .slice a3 z.t.i.length l3, .slice a4 z.t.b.length l4, .slice a5 z.floats.length l5, .slice a6 z.ints.length l6] : List Value).set 2 (.int .u32 (x : Int))) { z with f := x }) := by
  obtain ⟨a1, l1, a2, l2, a3, l3, a4, l4, a5, l5, a6, l6, rfl, h0, h1, h2, h3, h4, h5, h6, h7⟩ := open_AttrD h
  refine ⟨a1, l1, a2, l2, a3, l3, a4, l4, a5, l5, a6, l6, rfl, fun x hx => ?_, fun x hx => ?_⟩
  · have key : ∀ W : World, Below n0 w W → rep W (old n0) (([.string z.name, .int .i64 z.kind, .int .u32 (z.f : Int), .int .i64 z.i, .string z.s, .int .i64 z.t.type, .slice a1 z.t.dims.length l1, .slice a2 z.t.f.length l2, .slice a3 z.t.i.length l3, .slice a4 z.t.b.length l4, .slice a5 z.floats.length l5, .slice a6 z.ints.length l6] : List Value).set 3 (.int .i64 x)) { z with i := x } := fun W hW =>
      shut_AttrD (a := { z with i := x }) h0 h1 h2 hx h4 (c5 := [.int .i64 z.t.type, .slice a1 z.t.dims.length l1, .slice a2 z.t.f.length l2, .slice a3 z.t.i.length l3, .slice a4 z.t.b.length l4]) (Rep.keep h5 (Keeps.old_below hW (Nat.le_refl _)))
        (c6 := [.slice a5 z.floats.length l5]) (Rep.keep h6 (Keeps.old_below hW (Nat.le_refl _))) (c7 := [.slice a6 z.ints.length l6]) (Rep.keep h7 (Keeps.old_below hW (Nat.le_refl _)))
    exact ⟨Rep.one (key w (Below.refl _ _)), key⟩
  · have key : ∀ W : World, Below n0 w W → rep W (old n0) (([.string z.name, .int .i64 z.kind, .int .u32 (z.f : Int), .int .i64 z.i, .string z.s, .int .i64 z.t.type, .slice a1 z.t.dims.length l1, .slice a2 z.t.f.length l2, .slice a3 z.t.i.length l3, .slice a4 z.t.b.length l4, .slice a5 z.floats.length l5, .slice a6 z.ints.length l6] : List Value).set 2 (.int .u32 (x : Int))) { z with f := x } := fun W hW =>
      shut_AttrD (a := { z with f := x }) h0 h1 hx h3 h4 (c5 := [.int .i64 z.t.type, .slice a1 z.t.dims.length l1, .slice a2 z.t.f.length l2, .slice a3 z.t.i.length l3, .slice a4 z.t.b.length l4]) (Rep.keep h5 (Keeps.old_below hW (Nat.le_refl _)))
        (c6 := [.slice a5 z.floats.length l5]) (Rep.keep h6 (Keeps.old_below hW (Nat.le_refl _))) (c7 := [.slice a6 z.ints.length l6]) (Rep.keep h7 (Keeps.old_below hW (Nat.le_refl _)))
    exact ⟨Rep.one (key w (Below.refl _ _)), key⟩
set_option maxRecDepth 100000 in
set_option maxHeartbeats 40000000 in
theorem defaults_any (HRes : Hid ResolveLaw) (cs : List Value) (n : NodeD) (at_ : Int) (w : World) (ht : Tab w) (hr : rep w (old w.heap.size) cs n) (hI : I64 at_) :
    Calls Tryd.prog 7 #[.agg cs.toArray, .int .i64 at_] w (YesBelow w) := by
  have hrn := hr
  obtain ⟨A1, k1, A2, k2, A3, k3, rfl, g0, g1, hi, ho, ha⟩ := open_NodeD hr
  obtain ⟨A', c', xs, hv, hnc, hcm, hby, hl, hch⟩ := open_slice ha
  simp only [Value.slice.injEq, true_and] at hv
  obtain ⟨rfl, rfl⟩ := hv
  have hlen : n.attrs.length * 208 ≤ 140737488351232 := hby
  have hlen2 : n.attrs.length ≤ 1000000000000 := by omega
  have HT := Lib.hid (And.intro ht (And.intro hrn hI))
  have HIO := Lib.hid (And.intro g0 (And.intro g1 (And.intro hi ho)))
  have HL := Lib.hid (And.intro hl (And.intro hch (And.intro ha hlen)))
  have HNO := Lib.hid (show ∀ u ∈ ([.string n.op, .string n.name, .slice A1 n.ins.length k1, .slice A2 n.outs.length k2, .slice A3 n.attrs.length k3] : List Value), u.oneCell' = true from Rep.one hrn)
  clear hr hrn ht g0 g1 hi ho ha hl hch hby hI hlen
  go_enter Tryd.func7, Tryd.ntmps7
  go_wp2_with fail
  have hX : BoxInv w 36 [.string n.op, .string n.name, .slice A1 n.ins.length k1, .slice A2 n.outs.length k2, .slice A3 n.attrs.length k3] (w.alloc (.cells #[.string n.op, .string n.name, .slice A1 n.ins.length k1, .slice A2 n.outs.length k2, .slice A3 n.attrs.length k3] 36)) := box_start w 36 [.string n.op, .string n.name, .slice A1 n.ins.length k1, .slice A2 n.outs.length k2, .slice A3 n.attrs.length k3]
  generalize World.alloc _ _ = W0 at hX ⊢
  have HI := Lib.hid hX
  clear hX
  refine (awake_any HRes W0 (HT.out.1.ext HI.out.below)).mono ?_
  rintro e w1 ⟨rfl, hb⟩
  have HI1 := Lib.hid (HI.out.next hb)
  clear hb
  go_wp2_with (first
    | (with_reducible refine wpList_load_agg rfl 36 _ rfl _ _ _ rfl [.string n.op, .string n.name, .slice A1 n.ins.length k1, .slice A2 n.outs.length k2, .slice A3 n.attrs.length k3] Tryd.underlying36 rfl (by kernel_rfl) (At.of_row HI1.out.row) ?_))
  refine (HRes.out _ n w1 (HT.out.1.ext HI1.out.below) (HI1.out.keeps' HT.out.2.1)).mono ?_
  obtain ⟨op, hop⟩ : ∃ op, (resolveD n).1 = op := ⟨_, rfl⟩
  obtain ⟨s, hs⟩ : ∃ s, (resolveD n).2.1 = s := ⟨_, rfl⟩
  obtain ⟨er, her⟩ : ∃ er, (resolveD n).2.2 = er := ⟨_, rfl⟩
  rw [hop, hs, her]
  have herr := resolve_err n
  rw [hop, her] at herr
  have HR1 := Lib.hid (And.intro hop (And.intro hs her))
  have HE := Lib.hid herr
  clear hop hs her herr
  rintro e w2 ⟨ss, rfl, hS, hb⟩
  have hsl : ss.length = 36 := hS.len
  have hso : ∀ u ∈ ss, u.oneCell' = true := (inferInstance : Rep SettingD).one hS
  have HSD := Lib.hid hS
  have HS1 := Lib.hid (And.intro hsl hso)
  have HI2 := Lib.hid (HI1.out.next hb)
  clear hb hS hsl hso
  go_wp2_with (first
    | (with_reducible refine wpList_alloc_row rfl 45 rfl zeroS zeroS_zero ?_)
    | (with_reducible refine wpList_store_agg rfl 45 _ _ rfl _ 0 ss rfl rfl 45 zeroS (heap_alloc_new _ _) (by rw [HS1.out.1]; kernel_rfl) (by rw [HS1.out.1, zeroS_len]; omega) HS1.out.2 ?_; have hX := laid_row w2 45 zeroS ss (by rw [HS1.out.1, zeroS_len]); generalize World.setRow _ _ _ = w3 at hX ⊢; have HI3 := Lib.hid (HI2.out.next hX.1); have HX3 := Lib.hid hX; clear hX; refine halt ?_))
  unfold Halt
  have hw3 : w.heap.size < w3.heap.size := HI3.out.lt
  have k4 : w3.cell? ⟨w.heap.size, 4, none⟩ = some (.slice A3 n.attrs.length k3) := cell_of_row _ _ _ _ _ _ HI3.out.row
  by_cases e7 : er = 7
  · subst e7
    obtain rfl : op = 0 := by have := HE.out; omega
    go_wp2
    go_ret
    exact ⟨rfl, HI3.out.below⟩
  by_cases e1 : er = 1
  · subst e1
    obtain rfl : op = 0 := by have := HE.out; omega
    go_wp2
    go_ret
    exact ⟨rfl, HI3.out.below⟩
  by_cases e14 : er = 14
  · subst e14
    obtain rfl : op = 0 := by have := HE.out; omega
    go_wp2
    go_ret
    exact ⟨rfl, HI3.out.below⟩
  obtain rfl : er = 0 := by have := HE.out; omega
  have hop0 : (op == 0) = false := beq_eq_false_iff_ne.2 (by have := HE.out; omega)
  clear e7 e1 e14
  by_cases hl0 : n.attrs.length = 0
  · have hl1 : ((n.attrs.length : Int) == 0) = true := beq_iff_eq.2 (by omega)
    clear hl0
    go_wp2
    go_ret
    exact ⟨rfl, HI3.out.below⟩
  have hl1 : ((n.attrs.length : Int) == 0) = false := beq_eq_false_iff_ne.2 (by omega)
  have hpos : 0 < n.attrs.length := by omega
  have hposI : (0 : Int) < (n.attrs.length : Int) := by omega
  obtain ⟨k, hk, hk2⟩ := low_mod at_ n.attrs.length hpos
  have HK := Lib.hid hk
  clear hl0 hk
  go_upto_region 6 with (fail)
  rw [HK.out]
  go_wp2_with (first
    | (with_reducible refine wpList_load_agg rfl 36 _ rfl _ _ _ rfl [.string n.op, .string n.name, .slice A1 n.ins.length k1, .slice A2 n.outs.length k2, .slice A3 n.attrs.length k3] Tryd.underlying36 rfl (by kernel_rfl) (At.of_row HI3.out.row) ?_)
    | (with_reducible refine wpList_alloc_row rfl 36 rfl zeroNd zeroNd_zero ?_)
    | (with_reducible refine wpList_store_agg rfl 36 _ _ rfl _ 0 [.string n.op, .string n.name, .slice A1 n.ins.length k1, .slice A2 n.outs.length k2, .slice A3 n.attrs.length k3] rfl rfl 36 zeroNd (heap_alloc_new _ _) (by kernel_rfl) (by simp [zeroNd]) HNO.out ?_; have hX := laid_row w3 36 zeroNd [.string n.op, .string n.name, .slice A1 n.ins.length k1, .slice A2 n.outs.length k2, .slice A3 n.attrs.length k3] rfl; generalize World.setRow _ _ _ = w4 at hX ⊢; have HX4 := Lib.hid hX; clear hX; refine halt ?_))
  unfold Halt
  go_wp2_with (first
    | (with_reducible refine wpList_store_field rfl 34 _ _ rfl w3.heap.size 4 (.slice none 0 0) rfl rfl rfl (by kernel_rfl) 36 [.string n.op, .string n.name, .slice A1 n.ins.length k1, .slice A2 n.outs.length k2, .slice A3 n.attrs.length k3] HX4.out.2.1 (by simp) ?_; have hX := grow_start (w := w) HX4.out.1 HX4.out.2.1; generalize World.setRow _ _ _ = w5 at hX ⊢; have HG5 := Lib.hid hX; clear hX; refine halt ?_))
  unfold Halt
  obtain ⟨i0, hi0, hz0, hz1, hz2⟩ := info_parts attrInfo
  have hkb : (0 : Int) ≤ (k : Int) := Int.natCast_nonneg _
  have hkc : (k : Int) < (n.attrs.length : Int) := by omega
  have HZ := Lib.hid (And.intro hi0 (And.intro hz0 (And.intro hz1 hz2)))
  clear hi0 hz0 hz1 hz2 k4
  go_wp2_with fail
  go_loopw [11] (fun i wr => ∃ j : Nat, i = .int .i64 (j : Int) ∧ j ≤ n.attrs.length ∧ GrowInv w w3 (.string n.op) (.string n.name) (.slice A1 n.ins.length k1) (.slice A2 n.outs.length k2) ((n.attrs.take j).eraseIdx k) wr) (fun i _ => n.attrs.length - (intOf i).toNat)
  case atStart => exact ⟨0, rfl, Nat.zero_le _, by simpa using HG5.out⟩
  case round =>
    obtain ⟨j, rfl, hjn, hg⟩ := hrel
    have HG := Lib.hid hg
    have HIr := Lib.hid (HI3.out.next hg.below)
    have kr : wr.cell? ⟨w.heap.size, 4, none⟩ = some (.slice A3 n.attrs.length k3) := cell_of_row _ _ _ _ _ _ HIr.out.row
    clear hg
    by_cases hj : j < n.attrs.length
    · have hjI : (j : Int) < (n.attrs.length : Int) := by omega
      have hj0 : (0 : Int) ≤ (j : Int) := Int.natCast_nonneg _
      by_cases hjk : j = k
      · subst hjk
        have HES := Lib.hid (erase_same n.attrs j hj)
        go_wp2
        go_roundw
        case rel => exact ⟨j + 1, by go_num, by omega, by rw [HES.out]; exact HG.out⟩
        case measure => simp [intOf]; omega
      · have hne : ((j : Int) == (k : Int)) = false := beq_eq_false_iff_ne.2 (by omega)
        have HNE := Lib.hid hjk
        clear hjk
        obtain ⟨z, hz2⟩ : ∃ z, n.attrs[j]? = some z := ⟨_, List.getElem?_eq_getElem hj⟩
        have hsn := erase_snoc n.attrs k j hz2 HNE.out
        have hjl := erase_len n.attrs k j
        obtain ⟨cnt, hcnt⟩ : ∃ cnt, ((n.attrs.take j).eraseIdx k).length = cnt := ⟨_, rfl⟩
        rw [hcnt] at hjl
        obtain ⟨b', o', acs, rfl, hbB, hrz, hcell⟩ := elem_at HL.out.1 HL.out.2.1 (by decide) hz2
        have hal : acs.length = 12 := Rep.len hrz
        have hao := Rep.one hrz
        have hat : At w b' (o' + j * 12) acs := fun q u hu => by rw [Nat.add_assoc]; exact (hcell q u hu).1
        obtain ⟨vm, xs2, hrow, hown, hch2⟩ := HG.out.att
        have hgl := HG.out.lt
        rw [hcnt] at hown
        have hcb : cnt ≤ n.attrs.length := by omega
        have HA := Lib.hid (And.intro hal (And.intro hao (And.intro hat (And.intro hbB (And.intro hrz trivial)))))
        have HO := Lib.hid (And.intro hrow (And.intro hown (And.intro hch2 (And.intro hgl (And.intro hsn hcnt)))))
        have hS0 : ∀ W : World, Below w3.heap.size w3 W → W.cell? ⟨w.heap.size, 4, none⟩ = some (.slice (some ⟨b', o', none⟩) n.attrs.length k3) ∧ At W b' (o' + j * 12) acs := fun W hb =>
          ⟨cell_of_row _ _ _ _ _ _ (HI3.out.next hb).row, HA.out.2.2.1.keep (HI3.out.next hb).below HA.out.2.2.2.1⟩
        have HSW := Lib.hid hS0
        clear hz2 hsn hjl hcnt hbB hrz hcell hal hao hat hrow hown hch2 hgl hS0
        go_wp2_with fail

        refine wp_region_held_drew (S := fun W => W.cell? ⟨w.heap.size, 4, none⟩ = some (.slice (some ⟨b', o', none⟩) n.attrs.length k3) ∧ At W b' (o' + j * 12) acs) (by kernel_rfl) (HSW.out _ HG.out.below.drew) (fun hHeld => ?_)
        refine wpAnyH_take (i := 0) (v := .pointer (some ⟨w3.heap.size, 4, none⟩)) rfl (by kernel_rfl) (by kernel_rfl) (by kernel_rfl) (fun c a w h => h) (Or.inl ⟨by kernel_rfl, fun w _ => by kernel_rfl⟩) hHeld ?_
        refine wpAnyH_take (i := 2) (v := .pointer (some ⟨w.heap.size, 4, none⟩)) rfl (by kernel_rfl) (by kernel_rfl) (by kernel_rfl) (fun c a w h => h) (Or.inl ⟨by kernel_rfl, fun w _ => by kernel_rfl⟩) hHeld ?_
        refine wpAnyH_take (i := 3) (v := .slice (some ⟨b', o', none⟩) n.attrs.length k3) rfl (by kernel_rfl) (by kernel_rfl) (by kernel_rfl) (fun c a w h => h) (yields_load_slice (by kernel_rfl) _ _ rfl w.heap.size 4 (by kernel_rfl) _ Tryd.underlying34 (fun _ h => h.1)) hHeld ?_
        refine wpAnyH_take (i := 4) (v := .int .i64 (j : Int)) rfl (by kernel_rfl) (by kernel_rfl) (by kernel_rfl) (fun c a w h => h) (Or.inl ⟨by kernel_rfl, fun w _ => by kernel_rfl⟩) hHeld ?_
        refine wpAnyH_take (i := 5) (v := .pointer (some ⟨b', o' + j * 12, none⟩)) rfl (by kernel_rfl) (by kernel_rfl) (by kernel_rfl) (fun c a w h => h) (yields_indexI (by kernel_rfl) _ _ _ rfl b' o' n.attrs.length k3 j 12 (j : Int) (by kernel_rfl) (by kernel_rfl) Tryd.underlying34 (by kernel_rfl) rfl hj) hHeld ?_
        refine wpAnyH_take (i := 6) (v := .agg acs.toArray) rfl (by kernel_rfl) (by kernel_rfl) (by kernel_rfl) (fun c a w h => h) (yields_load_agg (by kernel_rfl) 52 _ rfl _ b' (o' + j * 12) (by kernel_rfl) acs Tryd.underlying52 rfl (by rw [HA.out.1]; kernel_rfl) (fun _ h => h.2)) hHeld ?_
        obtain ⟨hi0, hz0, hz1, hz2⟩ := HZ.out
        obtain ⟨hrow, hown, hch2, hgl, hsn, hjl⟩ := HO.out
        have hb1 : Below wr.heap.size wr (wr.drew.alloc (.cells acs.toArray 52)) := (Below.refl _ _).drew.alloc (Nat.le_refl _) _
        have hown1 : (wr.drew.alloc (.cells acs.toArray 52)).ownsRow (w3.heap.size + 1) 52 12 vm cnt xs2 := own_below hown hb1
        have hlies1 := lies_new wr.drew acs 52
        have hbw3 : Below w3.heap.size w3 (wr.drew.alloc (.cells acs.toArray 52)) := HG.out.below.trans (hb1.mono (Nat.le_of_lt hgl))
        have hg1 := HG.out.next (Nat.le_of_lt hw3) hb1
        have hrow1 := (hb1.block _ hgl).trans hrow
        have hch1 := hch2.keep (Keeps.old_below hb1 (by omega : w.heap.size ≤ wr.heap.size))
        have hrz1 : rep (wr.drew.alloc (.cells acs.toArray 52)) (old w.heap.size) acs z := Rep.keep HA.out.2.2.2.2.1 (Keeps.old_below (HI3.out.next hbw3).below (Nat.le_refl _))
        generalize hW1 : wr.drew.alloc (.cells acs.toArray 52) = W1 at hb1 hown1 hlies1 hbw3 hg1 hrow1 hch1 hrz1
        have key : ∀ (W9 : World) (v9 : Value), W9.ownsRow (w3.heap.size + 1) 52 12 v9 (cnt + 1) (xs2 ++ acs) → W1.grownBy W9 vm.ownBlock →
            W9.heap[w3.heap.size]? = some (.cells ([.string n.op, .string n.name, .slice A1 n.ins.length k1, .slice A2 n.outs.length k2, vm] : List Value).toArray 36 (0, 0)) ∧ v9.oneCell' = true ∧ Below w3.heap.size w3 W9 ∧
            GrowInv w w3 (.string n.op) (.string n.name) (.slice A1 n.ins.length k1) (.slice A2 n.outs.length k2) ((n.attrs.take (j + 1)).eraseIdx k) (W9.setRow w3.heap.size (([.string n.op, .string n.name, .slice A1 n.ins.length k1, .slice A2 n.outs.length k2, vm] : List Value).set 4 v9).toArray) := by
          intro W9 v9 hown9 hg9
          have hbase : ∀ g, vm.ownBlock = some g → w3.heap.size + 1 ≤ g := fun g hg => (hown1.lt g hg).1
          have h9 := hg1.grow (Nat.le_of_lt hw3) hrow1 hch1 hrz1 (.inr ⟨_, hg9, hbase⟩) (by rw [hjl]; exact hown9)
          rw [← hsn] at h9
          exact ⟨h9.1, h9.2.1, hbw3.grown hg9 (by have := hb1.size; omega) (fun g hg => by have := hbase g hg; omega), h9.2.2⟩
        refine anyH_2 1 7 rfl rfl (by kernel_rfl) ?oa ?ob
        case oa =>
          refine steps_load_slice (by kernel_rfl) _ _ rfl w3.heap.size 4 (by kernel_rfl) vm Tryd.underlying34 (cell_of_row _ _ _ _ _ _ hrow) hHeld ?_
          refine anyH_1 7 rfl (by kernel_rfl) ?_
          refine steps_lay (.slice (some ⟨wr.heap.size, 0, none⟩) 1 1) (.cells acs.toArray 52) (by kernel_rfl) (by obtain ⟨B1, l1, B2, l2, B3, l3, B4, l4, B5, l5, B6, l6, rfl, -⟩ := open_AttrD hrz1; kernel_rfl) (by rw [hW1]; exact HSW.out _ hbw3) ?_
          rw [hW1]
          refine anyH_1 8 rfl (by kernel_rfl) ?_
          refine steps_append (by kernel_rfl) _ _ _ rfl (w3.heap.size + 1) 52 i0 (.agg zeroA.toArray) 12 208 Tryd.underlying34 hi0 hz0 hz1 hz2 rfl (by decide) vm cnt xs2 (by kernel_rfl) hown1
            (old (wr.drew.heap.size + 1)) (some ⟨wr.drew.heap.size, 0, none⟩) 1 1 acs (by kernel_rfl) HA.out.1 hlies1 HA.out.2.1 (by unfold maxLen; omega) (by have := HL.out.2.2.2; omega) (by have := hb1.size; omega) ?_
          intro v9 W9 hown9 hg9
          obtain ⟨hrow9, hone, hb9, hres⟩ := key W9 v9 hown9 hg9
          refine ⟨HSW.out _ hb9, ?_⟩
          refine wpAnyH_take (i := 9) (v := .pointer (some ⟨w3.heap.size, 4, none⟩)) rfl (by kernel_rfl) (by kernel_rfl) (by kernel_rfl) (fun c a w h => h) (Or.inl ⟨by kernel_rfl, fun w _ => by kernel_rfl⟩) (HSW.out _ hb9) ?_
          refine anyH_store_field 10 rfl (by kernel_rfl) (by kernel_rfl) _ _ _ rfl w3.heap.size 4 v9 (by kernel_rfl) (by kernel_rfl) hone (by kernel_rfl) 36 [.string n.op, .string n.name, .slice A1 n.ins.length k1, .slice A2 n.outs.length k2, vm] hrow9 (by show 4 < 5; decide) (HSW.out _ hres.below) ?_
          refine wpAnyH_done (by kernel_rfl) ?_ _
          generalize World.setRow _ _ _ = wc at hres ⊢
          have HC := Lib.hid hres
          clear hres hrow9 hone hb9 key hrz1 hch1 hrow1 hg1 hbw3 hlies1 hown1 hb1 hW1 hown9 hg9 hrow hown hch2 hgl hsn hjl hi0 hz0 hz1 hz2
          go_wp2
          go_roundw
          case rel => exact ⟨j + 1, by go_num, by omega, HC.out⟩
          case measure => simp [intOf]; omega
        case ob =>
          refine steps_lay (.slice (some ⟨wr.heap.size, 0, none⟩) 1 1) (.cells acs.toArray 52) (by kernel_rfl) (by obtain ⟨B1, l1, B2, l2, B3, l3, B4, l4, B5, l5, B6, l6, rfl, -⟩ := open_AttrD hrz1; kernel_rfl) (by rw [hW1]; exact HSW.out _ hbw3) ?_
          rw [hW1]
          refine anyH_1 1 rfl (by kernel_rfl) ?_
          refine steps_load_slice (by kernel_rfl) _ _ rfl w3.heap.size 4 (by kernel_rfl) vm Tryd.underlying34 (cell_of_row _ _ _ _ _ _ hrow1) (HSW.out _ hbw3) ?_
          refine anyH_1 8 rfl (by kernel_rfl) ?_
          refine steps_append (by kernel_rfl) _ _ _ rfl (w3.heap.size + 1) 52 i0 (.agg zeroA.toArray) 12 208 Tryd.underlying34 hi0 hz0 hz1 hz2 rfl (by decide) vm cnt xs2 (by kernel_rfl) hown1
            (old (wr.drew.heap.size + 1)) (some ⟨wr.drew.heap.size, 0, none⟩) 1 1 acs (by kernel_rfl) HA.out.1 hlies1 HA.out.2.1 (by unfold maxLen; omega) (by have := HL.out.2.2.2; omega) (by have := hb1.size; omega) ?_
          intro v9 W9 hown9 hg9
          obtain ⟨hrow9, hone, hb9, hres⟩ := key W9 v9 hown9 hg9
          refine ⟨HSW.out _ hb9, ?_⟩
          refine wpAnyH_take (i := 9) (v := .pointer (some ⟨w3.heap.size, 4, none⟩)) rfl (by kernel_rfl) (by kernel_rfl) (by kernel_rfl) (fun c a w h => h) (Or.inl ⟨by kernel_rfl, fun w _ => by kernel_rfl⟩) (HSW.out _ hb9) ?_
          refine anyH_store_field 10 rfl (by kernel_rfl) (by kernel_rfl) _ _ _ rfl w3.heap.size 4 v9 (by kernel_rfl) (by kernel_rfl) hone (by kernel_rfl) 36 [.string n.op, .string n.name, .slice A1 n.ins.length k1, .slice A2 n.outs.length k2, vm] hrow9 (by show 4 < 5; decide) (HSW.out _ hres.below) ?_
          refine wpAnyH_done (by kernel_rfl) ?_ _
          generalize World.setRow _ _ _ = wc at hres ⊢
          have HC := Lib.hid hres
          clear hres hrow9 hone hb9 key hrz1 hch1 hrow1 hg1 hbw3 hlies1 hown1 hb1 hW1 hown9 hg9 hrow hown hch2 hgl hsn hjl hi0 hz0 hz1 hz2
          go_wp2
          go_roundw
          case rel => exact ⟨j + 1, by go_num, by omega, HC.out⟩
          case measure => simp [intOf]; omega

    · obtain rfl : j = n.attrs.length := by omega
      have htk : (n.attrs.take n.attrs.length).eraseIdx k = n.attrs.eraseIdx k := by rw [List.take_length]
      have hg2 := HG.out
      rw [htk] at hg2
      obtain ⟨z, hz2⟩ : ∃ z, n.attrs[k]? = some z := ⟨_, List.getElem?_eq_getElem hk2⟩
      have hpm := erase_perm n.attrs k hz2
      have hrl : (n.attrs.eraseIdx k).length ≤ n.attrs.length := List.length_eraseIdx_le _ _
      obtain ⟨rest, hrest⟩ : ∃ rest, n.attrs.eraseIdx k = rest := ⟨_, rfl⟩
      rw [hrest] at hg2 hpm hrl
      have hrl2 : rest.length + 1 = n.attrs.length := by have := hpm.length_eq; simp only [List.length_cons] at this; omega
      have hlb := HL.out.2.2.2
      obtain ⟨vm, xs2, hrow, hown, hch2⟩ := hg2.att
      have hgl := hg2.lt
      have hvm : rep wr (old wr.heap.size) [vm] rest := rep_of_own (e := 52) (xs := xs2) hown (hch2.more (old_le (by omega))) (by unfold reach; simp only [Rep.bytes]; omega) (fun g _ _ h2 => h2)
      have hmN : rep wr (old wr.heap.size) [.string n.op, .string n.name, .slice A1 n.ins.length k1, .slice A2 n.outs.length k2, vm] ({ n with attrs := rest } : NodeD) :=
        shut_NodeD (a := { n with attrs := rest }) HIO.out.1 HIO.out.2.1 (c2 := [_]) (HIr.out.keeps' HIO.out.2.2.1) (c3 := [_]) (HIr.out.keeps' HIO.out.2.2.2) (c4 := [_]) hvm
      obtain ⟨b', o', acs, rfl, hbB, hrz, hcell⟩ := elem_at HL.out.1 HL.out.2.1 (by decide) hz2
      have hal : acs.length = 12 := Rep.len hrz
      have hat : At w b' (o' + k * 12) acs := fun q u hu => by rw [Nat.add_assoc]; exact (hcell q u hu).1
      have HA := Lib.hid (And.intro hal (And.intro (Rep.one hrz) (And.intro hat (And.intro hbB hrz))))
      have HO := Lib.hid (And.intro hrow (And.intro hown (And.intro hch2 (And.intro hgl (And.intro hg2 (And.intro hpm hrl2))))))
      have HMN := Lib.hid hmN
      clear htk hg2 hrow hvm hmN hz2 hpm hrl hrl2 hrest hown hch2 hgl hbB hrz hcell hal hat hlb
      go_wp2_with (first
        | (with_reducible refine wpList_load_agg rfl 36 _ rfl _ _ _ rfl [.string n.op, .string n.name, .slice A1 n.ins.length k1, .slice A2 n.outs.length k2, vm] Tryd.underlying36 rfl (by kernel_rfl) (At.of_row HO.out.1) ?_))
      refine (HRes.out _ _ wr (HT.out.1.ext HIr.out.below) HMN.out).mono ?_
      have hlike := resolve_like n rest
      rw [HR1.out.2.2] at hlike
      obtain ⟨op2, hop2⟩ : ∃ op2, (resolveD { n with attrs := rest }).1 = op2 := ⟨_, rfl⟩
      obtain ⟨t, hs2⟩ : ∃ t, (resolveD { n with attrs := rest }).2.1 = t := ⟨_, rfl⟩
      obtain ⟨fr, hfr⟩ : ∃ fr, (resolveD { n with attrs := rest }).2.2 = fr := ⟨_, rfl⟩
      rw [hop2, hs2, hfr]
      rw [hfr] at hlike
      have HR2 := Lib.hid (And.intro hop2 (And.intro hs2 hfr))
      have HE2 := Lib.hid (hlike.2 (.inl rfl))
      clear hop2 hs2 hfr hlike
      rintro e w6 ⟨ts, rfl, hS, hb⟩
      have hsl : ts.length = 36 := hS.len
      have hso : ∀ u ∈ ts, u.oneCell' = true := (inferInstance : Rep SettingD).one hS
      have HS2 := Lib.hid (And.intro hsl hso)
      have HSD2 := Lib.hid hS
      have HI6 := Lib.hid (HIr.out.next hb)
      have HB6 := Lib.hid hb
      clear hb hS hsl hso
      go_wp2_with (first
        | (with_reducible refine wpList_alloc_row rfl 45 rfl zeroS zeroS_zero ?_)
        | (with_reducible refine wpList_store_agg rfl 45 _ _ rfl _ 0 ts rfl rfl 45 zeroS (heap_alloc_new _ _) (by rw [HS2.out.1]; kernel_rfl) (by rw [HS2.out.1, zeroS_len]; omega) HS2.out.2 ?_; have hX := laid_row w6 45 zeroS ts (by rw [HS2.out.1, zeroS_len]); generalize World.setRow _ _ _ = w7 at hX ⊢; have HI7 := Lib.hid (HI6.out.next hX.1); have HX7 := Lib.hid hX; clear hX; refine halt ?_))
      unfold Halt
      rcases HE2.out with hf | hf
      rotate_left
      · subst hf
        go_wp2
        go_ret
        exact ⟨rfl, HI7.out.below⟩
      subst hf
      have hP := fun a' (ha : turnA t z = some a') => defaults_law HO.out.2.2.2.2.2.1 (show resolveD n = (op, s, 0) from Prod.ext HR1.out.1 (Prod.ext HR1.out.2.1 HR1.out.2.2)) (show resolveD { n with attrs := rest } = (op2, t, 0) from Prod.ext HR2.out.1 (Prod.ext HR2.out.2.1 HR2.out.2.2)) ha
      have HP := Lib.hid hP
      have k7 : w7.cell? ⟨w.heap.size, 4, none⟩ = some (.slice (some ⟨b', o', none⟩) n.attrs.length k3) := cell_of_row _ _ _ _ _ _ HI7.out.row
      have HAT := Lib.hid (HA.out.2.2.1.keep HI7.out.below HA.out.2.2.2.1)
      clear hP
      go_wp2_with (first
        | (with_reducible refine wpList_load_agg rfl 52 _ rfl _ b' (o' + k * 12) rfl acs Tryd.underlying52 rfl (by rw [HA.out.1]; kernel_rfl) HAT.out ?_)
        | (with_reducible refine wpList_alloc_row rfl 52 rfl zeroA zeroA_zero ?_)
        | (with_reducible refine wpList_store_agg rfl 52 _ _ rfl _ 0 acs rfl rfl 52 zeroA (heap_alloc_new _ _) (by rw [HA.out.1]; kernel_rfl) (by rw [HA.out.1]; decide) HA.out.2.1 ?_; have hX := laid_attr w7 acs HA.out.1; generalize World.setRow _ _ _ = w8 at hX ⊢; have HX8 := Lib.hid hX; clear hX; refine halt ?_))
      unfold Halt
      have hts8 : w8.heap[w6.heap.size]? = some (.cells ts.toArray 45 (0, 0)) := (HX8.out.1.block _ (by rw [HX7.out.2.2]; omega)).trans HX7.out.2.1
      have c0 : w8.cell? ⟨w6.heap.size, 0, none⟩ = some (.int .i64 t.axis) := row_cell hts8 (Fld.int HSD2.out.f0).1
      have c3 : w8.cell? ⟨w6.heap.size, 3, none⟩ = some (.bool t.keeps) := row_cell hts8 (Fld.bool HSD2.out.f3)
      have c9 : w8.cell? ⟨w6.heap.size, 9, none⟩ = some (.int .u32 (t.alpha : Int)) := row_cell hts8 (Fld.u32 HSD2.out.f9).1
      have c10 : w8.cell? ⟨w6.heap.size, 10, none⟩ = some (.int .u32 (t.beta : Int)) := row_cell hts8 (Fld.u32 HSD2.out.f10).1
      have c11 : w8.cell? ⟨w6.heap.size, 11, none⟩ = some (.int .u32 (t.epsilon : Int)) := row_cell hts8 (Fld.u32 HSD2.out.f11).1
      have hsm8 : w8.heap[w2.heap.size]? = some (.cells ss.toArray 45 (0, 0)) := by
        have h1 : Below w3.heap.size w3 w8 := HG.out.below.trans ((HB6.out.trans ((HX7.out.1.mono HB6.out.size).trans (HX8.out.1.mono (Nat.le_trans HB6.out.size HX7.out.1.size)))).mono HG.out.below.size)
        exact (h1.block _ (by rw [HX3.out.2.2]; omega)).trans HX3.out.2.1
      have hb78 : Below wr.heap.size wr w8 := HB6.out.trans ((HX7.out.1.mono HB6.out.size).trans (HX8.out.1.mono (Nat.le_trans HB6.out.size HX7.out.1.size)))
      have hAD := attr_parts HA.out.2.2.2.2
      obtain ⟨a1, l1, a2, l2, a3, l3, a4, l4, a5, l5, a6, l6, rfl, hai, haf⟩ := hAD
      have hIt : I64 t.axis := (Fld.int HSD2.out.f0).2
      have hAlpha : t.alpha < 4294967296 := (Fld.u32 HSD2.out.f9).2
      have hBeta : t.beta < 4294967296 := (Fld.u32 HSD2.out.f10).2
      have hEps : t.epsilon < 4294967296 := (Fld.u32 HSD2.out.f11).2
      have kn : w8.cell? ⟨w7.heap.size, 0, none⟩ = some (.string z.name) := row_cell HX8.out.2 rfl
      have H8 := Lib.hid (And.intro hts8 (And.intro hsm8 (And.intro hb78 (And.intro hai (And.intro haf (And.intro hIt (And.intro hAlpha (And.intro hBeta hEps))))))))
      have hz7 : w7.heap.size < w8.heap.size := (Array.getElem?_eq_some_iff.1 HX8.out.2).1
      have hww8 : w.heap.size ≤ w8.heap.size := (HI7.out.below.trans (HX8.out.1.mono HI7.out.below.size)).size
      clear hts8 hsm8 hb78 hai haf hIt hAlpha hBeta hEps
      go_upto_block 2 with (fail)
      go_cut [] (fun wx => ∃ a' acs', turnA t z = some a' ∧ Below w7.heap.size w7 wx ∧ wx.heap[w7.heap.size]? = some (.cells (acs' : List Value).toArray 52 (0, 0)) ∧ (∀ u ∈ acs', u.oneCell' = true) ∧ ∀ W : World, Below w.heap.size w W → rep W (old w.heap.size) acs' a')
      case first =>
        by_cases e_axis : z.name = s_axis
        · have d_axis : (z.name.toList == ([97, 120, 105, 115] : List UInt8)) = true := by rw [beq_lit]; exact decide_eq_true e_axis
          have He_axis := Lib.hid e_axis
          clear e_axis
          go_wp2_with (first
            | (with_reducible refine wpList_store_field rfl 2 _ _ rfl w7.heap.size 3 (.int .i64 t.axis) rfl rfl rfl (by kernel_rfl) 52 [.string z.name, .int .i64 z.kind, .int .u32 (z.f : Int), .int .i64 z.i, .string z.s, .int .i64 z.t.type, .slice a1 z.t.dims.length l1, .slice a2 z.t.f.length l2, .slice a3 z.t.i.length l3, .slice a4 z.t.b.length l4, .slice a5 z.floats.length l5, .slice a6 z.ints.length l6] HX8.out.2 (by simp) ?_))
          go_meet
          exact ⟨{ z with i := t.axis }, _, by unfold turnA; rw [if_pos He_axis.out], below_setRow' HX8.out.1 (Nat.le_refl _) _, heap_setRow _ _ _ _ _ HX8.out.2, (H8.out.2.2.2.1 _ H8.out.2.2.2.2.2.1).1, fun W hW => (H8.out.2.2.2.1 _ H8.out.2.2.2.2.2.1).2 W hW⟩
        by_cases e_alpha : z.name = s_alpha
        · have d_alpha : (z.name.toList == ([97, 108, 112, 104, 97] : List UInt8)) = true := by rw [beq_lit]; exact decide_eq_true e_alpha
          have d_axis : (z.name.toList == ([97, 120, 105, 115] : List UInt8)) = false := by rw [beq_lit]; exact decide_eq_false e_axis
          have He_axis := Lib.hid e_axis
          have He_alpha := Lib.hid e_alpha
          clear e_axis e_alpha
          go_wp2_with (first
            | (with_reducible refine wpList_store_field rfl 38 _ _ rfl w7.heap.size 2 (.int .u32 (t.alpha : Int)) rfl rfl rfl (by kernel_rfl) 52 [.string z.name, .int .i64 z.kind, .int .u32 (z.f : Int), .int .i64 z.i, .string z.s, .int .i64 z.t.type, .slice a1 z.t.dims.length l1, .slice a2 z.t.f.length l2, .slice a3 z.t.i.length l3, .slice a4 z.t.b.length l4, .slice a5 z.floats.length l5, .slice a6 z.ints.length l6] HX8.out.2 (by simp) ?_))
          go_meet
          exact ⟨{ z with f := t.alpha }, _, by unfold turnA; rw [if_neg He_axis.out]; rw [if_pos He_alpha.out], below_setRow' HX8.out.1 (Nat.le_refl _) _, heap_setRow _ _ _ _ _ HX8.out.2, (H8.out.2.2.2.2.1 _ H8.out.2.2.2.2.2.2.1).1, fun W hW => (H8.out.2.2.2.2.1 _ H8.out.2.2.2.2.2.2.1).2 W hW⟩
        by_cases e_beta : z.name = s_beta
        · have d_beta : (z.name.toList == ([98, 101, 116, 97] : List UInt8)) = true := by rw [beq_lit]; exact decide_eq_true e_beta
          have d_axis : (z.name.toList == ([97, 120, 105, 115] : List UInt8)) = false := by rw [beq_lit]; exact decide_eq_false e_axis
          have d_alpha : (z.name.toList == ([97, 108, 112, 104, 97] : List UInt8)) = false := by rw [beq_lit]; exact decide_eq_false e_alpha
          have He_axis := Lib.hid e_axis
          have He_alpha := Lib.hid e_alpha
          have He_beta := Lib.hid e_beta
          clear e_axis e_alpha e_beta
          go_wp2_with (first
            | (with_reducible refine wpList_store_field rfl 38 _ _ rfl w7.heap.size 2 (.int .u32 (t.beta : Int)) rfl rfl rfl (by kernel_rfl) 52 [.string z.name, .int .i64 z.kind, .int .u32 (z.f : Int), .int .i64 z.i, .string z.s, .int .i64 z.t.type, .slice a1 z.t.dims.length l1, .slice a2 z.t.f.length l2, .slice a3 z.t.i.length l3, .slice a4 z.t.b.length l4, .slice a5 z.floats.length l5, .slice a6 z.ints.length l6] HX8.out.2 (by simp) ?_))
          go_meet
          exact ⟨{ z with f := t.beta }, _, by unfold turnA; rw [if_neg He_axis.out]; rw [if_neg He_alpha.out]; rw [if_pos He_beta.out], below_setRow' HX8.out.1 (Nat.le_refl _) _, heap_setRow _ _ _ _ _ HX8.out.2, (H8.out.2.2.2.2.1 _ H8.out.2.2.2.2.2.2.2.1).1, fun W hW => (H8.out.2.2.2.2.1 _ H8.out.2.2.2.2.2.2.2.1).2 W hW⟩
        by_cases e_epsilon : z.name = s_epsilon
        · have d_epsilon : (z.name.toList == ([101, 112, 115, 105, 108, 111, 110] : List UInt8)) = true := by rw [beq_lit]; exact decide_eq_true e_epsilon
          have d_axis : (z.name.toList == ([97, 120, 105, 115] : List UInt8)) = false := by rw [beq_lit]; exact decide_eq_false e_axis
          have d_alpha : (z.name.toList == ([97, 108, 112, 104, 97] : List UInt8)) = false := by rw [beq_lit]; exact decide_eq_false e_alpha
          have d_beta : (z.name.toList == ([98, 101, 116, 97] : List UInt8)) = false := by rw [beq_lit]; exact decide_eq_false e_beta
          have He_axis := Lib.hid e_axis
          have He_alpha := Lib.hid e_alpha
          have He_beta := Lib.hid e_beta
          have He_epsilon := Lib.hid e_epsilon
          clear e_axis e_alpha e_beta e_epsilon
          go_wp2_with (first
            | (with_reducible refine wpList_store_field rfl 38 _ _ rfl w7.heap.size 2 (.int .u32 (t.epsilon : Int)) rfl rfl rfl (by kernel_rfl) 52 [.string z.name, .int .i64 z.kind, .int .u32 (z.f : Int), .int .i64 z.i, .string z.s, .int .i64 z.t.type, .slice a1 z.t.dims.length l1, .slice a2 z.t.f.length l2, .slice a3 z.t.i.length l3, .slice a4 z.t.b.length l4, .slice a5 z.floats.length l5, .slice a6 z.ints.length l6] HX8.out.2 (by simp) ?_))
          go_meet
          exact ⟨{ z with f := t.epsilon }, _, by unfold turnA; rw [if_neg He_axis.out]; rw [if_neg He_alpha.out]; rw [if_neg He_beta.out]; rw [if_pos He_epsilon.out], below_setRow' HX8.out.1 (Nat.le_refl _) _, heap_setRow _ _ _ _ _ HX8.out.2, (H8.out.2.2.2.2.1 _ H8.out.2.2.2.2.2.2.2.2).1, fun W hW => (H8.out.2.2.2.2.1 _ H8.out.2.2.2.2.2.2.2.2).2 W hW⟩
        by_cases e_keeps : z.name = s_keeps
        · have d_keeps : (z.name.toList == ([107, 101, 101, 112, 100, 105, 109, 115] : List UInt8)) = true := by rw [beq_lit]; exact decide_eq_true e_keeps
          have d_axis : (z.name.toList == ([97, 120, 105, 115] : List UInt8)) = false := by rw [beq_lit]; exact decide_eq_false e_axis
          have d_alpha : (z.name.toList == ([97, 108, 112, 104, 97] : List UInt8)) = false := by rw [beq_lit]; exact decide_eq_false e_alpha
          have d_beta : (z.name.toList == ([98, 101, 116, 97] : List UInt8)) = false := by rw [beq_lit]; exact decide_eq_false e_beta
          have d_epsilon : (z.name.toList == ([101, 112, 115, 105, 108, 111, 110] : List UInt8)) = false := by rw [beq_lit]; exact decide_eq_false e_epsilon
          have He_axis := Lib.hid e_axis
          have He_alpha := Lib.hid e_alpha
          have He_beta := Lib.hid e_beta
          have He_epsilon := Lib.hid e_epsilon
          have He_keeps := Lib.hid e_keeps
          clear e_axis e_alpha e_beta e_epsilon e_keeps
          obtain ⟨kp, hkp⟩ : ∃ kp, t.keeps = kp := ⟨_, rfl⟩
          rw [hkp] at c3
          have HKP := Lib.hid hkp
          have h67 : w6.heap.size ≠ w7.heap.size := by have := HX7.out.2.2; omega
          clear hkp
          have hX := And.intro (below_setRow' HX8.out.1 (Nat.le_refl _) (([.string z.name, .int .i64 z.kind, .int .u32 (z.f : Int), .int .i64 z.i, .string z.s, .int .i64 z.t.type, .slice a1 z.t.dims.length l1, .slice a2 z.t.f.length l2, .slice a3 z.t.i.length l3, .slice a4 z.t.b.length l4, .slice a5 z.floats.length l5, .slice a6 z.ints.length l6] : List Value).set 3 (.int .i64 0)).toArray) (And.intro (heap_setRow w8 w7.heap.size (([.string z.name, .int .i64 z.kind, .int .u32 (z.f : Int), .int .i64 z.i, .string z.s, .int .i64 z.t.type, .slice a1 z.t.dims.length l1, .slice a2 z.t.f.length l2, .slice a3 z.t.i.length l3, .slice a4 z.t.b.length l4, .slice a5 z.floats.length l5, .slice a6 z.ints.length l6] : List Value).set 3 (.int .i64 0)).toArray _ _ HX8.out.2) ((cell_setRow_other w8 w7.heap.size (([.string z.name, .int .i64 z.kind, .int .u32 (z.f : Int), .int .i64 z.i, .string z.s, .int .i64 z.t.type, .slice a1 z.t.dims.length l1, .slice a2 z.t.f.length l2, .slice a3 z.t.i.length l3, .slice a4 z.t.b.length l4, .slice a5 z.floats.length l5, .slice a6 z.ints.length l6] : List Value).set 3 (.int .i64 0)).toArray ⟨w6.heap.size, 3, none⟩ h67).trans c3))
          have HX9 := Lib.hid hX
          clear hX
          go_wp2_with (first
            | ((with_reducible refine wpList_store_field rfl 2 _ _ rfl w7.heap.size 3 (.int .i64 0) rfl rfl rfl (by kernel_rfl) 52 [.string z.name, .int .i64 z.kind, .int .u32 (z.f : Int), .int .i64 z.i, .string z.s, .int .i64 z.t.type, .slice a1 z.t.dims.length l1, .slice a2 z.t.f.length l2, .slice a3 z.t.i.length l3, .slice a4 z.t.b.length l4, .slice a5 z.floats.length l5, .slice a6 z.ints.length l6] HX8.out.2 (by simp) ?_); have hX := HX9.out; go_loud (generalize World.setRow w8 w7.heap.size _ = wk at hX ⊢); have HK8 := Lib.hid hX; clear hX; refine halt ?_))
          unfold Halt
          have c3' := HK8.out.2.2
          cases kp with
          | false =>
            go_wp2
            go_meet
            exact ⟨{ z with i := 0 }, _, (by unfold turnA; rw [if_neg He_axis.out]; rw [if_neg He_alpha.out]; rw [if_neg He_beta.out]; rw [if_neg He_epsilon.out]; rw [if_pos He_keeps.out]; rw [HKP.out]; rfl), HK8.out.1, HK8.out.2.1, (H8.out.2.2.2.1 _ I64_0).1, fun W hW => (H8.out.2.2.2.1 _ I64_0).2 W hW⟩
          | true =>
            go_wp2_with (first
              | (with_reducible refine wpList_store_field rfl 2 _ _ rfl w7.heap.size 3 (.int .i64 1) rfl rfl rfl (by kernel_rfl) 52 (([.string z.name, .int .i64 z.kind, .int .u32 (z.f : Int), .int .i64 z.i, .string z.s, .int .i64 z.t.type, .slice a1 z.t.dims.length l1, .slice a2 z.t.f.length l2, .slice a3 z.t.i.length l3, .slice a4 z.t.b.length l4, .slice a5 z.floats.length l5, .slice a6 z.ints.length l6] : List Value).set 3 (.int .i64 0)) HK8.out.2.1 (by simp) ?_))
            go_meet
            exact ⟨{ z with i := 1 }, _, (by unfold turnA; rw [if_neg He_axis.out]; rw [if_neg He_alpha.out]; rw [if_neg He_beta.out]; rw [if_neg He_epsilon.out]; rw [if_pos He_keeps.out]; rw [HKP.out]; rfl), below_setRow' HK8.out.1 (Nat.le_refl _) _, heap_setRow _ _ _ _ _ HK8.out.2.1, (H8.out.2.2.2.1 _ (show I64 1 by unfold I64; omega)).1, fun W hW => (H8.out.2.2.2.1 _ (show I64 1 by unfold I64; omega)).2 W hW⟩
        by_cases e_transA : z.name = s_transA
        · have d_transA : (z.name.toList == ([116, 114, 97, 110, 115, 65] : List UInt8)) = true := by rw [beq_lit]; exact decide_eq_true e_transA
          have d_axis : (z.name.toList == ([97, 120, 105, 115] : List UInt8)) = false := by rw [beq_lit]; exact decide_eq_false e_axis
          have d_alpha : (z.name.toList == ([97, 108, 112, 104, 97] : List UInt8)) = false := by rw [beq_lit]; exact decide_eq_false e_alpha
          have d_beta : (z.name.toList == ([98, 101, 116, 97] : List UInt8)) = false := by rw [beq_lit]; exact decide_eq_false e_beta
          have d_epsilon : (z.name.toList == ([101, 112, 115, 105, 108, 111, 110] : List UInt8)) = false := by rw [beq_lit]; exact decide_eq_false e_epsilon
          have d_keeps : (z.name.toList == ([107, 101, 101, 112, 100, 105, 109, 115] : List UInt8)) = false := by rw [beq_lit]; exact decide_eq_false e_keeps
          have He_axis := Lib.hid e_axis
          have He_alpha := Lib.hid e_alpha
          have He_beta := Lib.hid e_beta
          have He_epsilon := Lib.hid e_epsilon
          have He_keeps := Lib.hid e_keeps
          have He_transA := Lib.hid e_transA
          clear e_axis e_alpha e_beta e_epsilon e_keeps e_transA
          go_wp2_with (first
            | (with_reducible refine wpList_store_field rfl 2 _ _ rfl w7.heap.size 3 (.int .i64 0) rfl rfl rfl (by kernel_rfl) 52 [.string z.name, .int .i64 z.kind, .int .u32 (z.f : Int), .int .i64 z.i, .string z.s, .int .i64 z.t.type, .slice a1 z.t.dims.length l1, .slice a2 z.t.f.length l2, .slice a3 z.t.i.length l3, .slice a4 z.t.b.length l4, .slice a5 z.floats.length l5, .slice a6 z.ints.length l6] HX8.out.2 (by simp) ?_))
          go_meet
          exact ⟨{ z with i := 0 }, _, by unfold turnA; rw [if_neg He_axis.out]; rw [if_neg He_alpha.out]; rw [if_neg He_beta.out]; rw [if_neg He_epsilon.out]; rw [if_neg He_keeps.out]; rw [if_pos (by simp [He_transA.out])], below_setRow' HX8.out.1 (Nat.le_refl _) _, heap_setRow _ _ _ _ _ HX8.out.2, (H8.out.2.2.2.1 _ I64_0).1, fun W hW => (H8.out.2.2.2.1 _ I64_0).2 W hW⟩
        by_cases e_transB : z.name = s_transB
        · have d_transB : (z.name.toList == ([116, 114, 97, 110, 115, 66] : List UInt8)) = true := by rw [beq_lit]; exact decide_eq_true e_transB
          have d_axis : (z.name.toList == ([97, 120, 105, 115] : List UInt8)) = false := by rw [beq_lit]; exact decide_eq_false e_axis
          have d_alpha : (z.name.toList == ([97, 108, 112, 104, 97] : List UInt8)) = false := by rw [beq_lit]; exact decide_eq_false e_alpha
          have d_beta : (z.name.toList == ([98, 101, 116, 97] : List UInt8)) = false := by rw [beq_lit]; exact decide_eq_false e_beta
          have d_epsilon : (z.name.toList == ([101, 112, 115, 105, 108, 111, 110] : List UInt8)) = false := by rw [beq_lit]; exact decide_eq_false e_epsilon
          have d_keeps : (z.name.toList == ([107, 101, 101, 112, 100, 105, 109, 115] : List UInt8)) = false := by rw [beq_lit]; exact decide_eq_false e_keeps
          have d_transA : (z.name.toList == ([116, 114, 97, 110, 115, 65] : List UInt8)) = false := by rw [beq_lit]; exact decide_eq_false e_transA
          have He_axis := Lib.hid e_axis
          have He_alpha := Lib.hid e_alpha
          have He_beta := Lib.hid e_beta
          have He_epsilon := Lib.hid e_epsilon
          have He_keeps := Lib.hid e_keeps
          have He_transA := Lib.hid e_transA
          have He_transB := Lib.hid e_transB
          clear e_axis e_alpha e_beta e_epsilon e_keeps e_transA e_transB
          go_wp2_with (first
            | (with_reducible refine wpList_store_field rfl 2 _ _ rfl w7.heap.size 3 (.int .i64 0) rfl rfl rfl (by kernel_rfl) 52 [.string z.name, .int .i64 z.kind, .int .u32 (z.f : Int), .int .i64 z.i, .string z.s, .int .i64 z.t.type, .slice a1 z.t.dims.length l1, .slice a2 z.t.f.length l2, .slice a3 z.t.i.length l3, .slice a4 z.t.b.length l4, .slice a5 z.floats.length l5, .slice a6 z.ints.length l6] HX8.out.2 (by simp) ?_))
          go_meet
          exact ⟨{ z with i := 0 }, _, by unfold turnA; rw [if_neg He_axis.out]; rw [if_neg He_alpha.out]; rw [if_neg He_beta.out]; rw [if_neg He_epsilon.out]; rw [if_neg He_keeps.out]; rw [if_pos (by simp [He_transB.out])], below_setRow' HX8.out.1 (Nat.le_refl _) _, heap_setRow _ _ _ _ _ HX8.out.2, (H8.out.2.2.2.1 _ I64_0).1, fun W hW => (H8.out.2.2.2.1 _ I64_0).2 W hW⟩
        by_cases e_fmod : z.name = s_fmod
        · have d_fmod : (z.name.toList == ([102, 109, 111, 100] : List UInt8)) = true := by rw [beq_lit]; exact decide_eq_true e_fmod
          have d_axis : (z.name.toList == ([97, 120, 105, 115] : List UInt8)) = false := by rw [beq_lit]; exact decide_eq_false e_axis
          have d_alpha : (z.name.toList == ([97, 108, 112, 104, 97] : List UInt8)) = false := by rw [beq_lit]; exact decide_eq_false e_alpha
          have d_beta : (z.name.toList == ([98, 101, 116, 97] : List UInt8)) = false := by rw [beq_lit]; exact decide_eq_false e_beta
          have d_epsilon : (z.name.toList == ([101, 112, 115, 105, 108, 111, 110] : List UInt8)) = false := by rw [beq_lit]; exact decide_eq_false e_epsilon
          have d_keeps : (z.name.toList == ([107, 101, 101, 112, 100, 105, 109, 115] : List UInt8)) = false := by rw [beq_lit]; exact decide_eq_false e_keeps
          have d_transA : (z.name.toList == ([116, 114, 97, 110, 115, 65] : List UInt8)) = false := by rw [beq_lit]; exact decide_eq_false e_transA
          have d_transB : (z.name.toList == ([116, 114, 97, 110, 115, 66] : List UInt8)) = false := by rw [beq_lit]; exact decide_eq_false e_transB
          have He_axis := Lib.hid e_axis
          have He_alpha := Lib.hid e_alpha
          have He_beta := Lib.hid e_beta
          have He_epsilon := Lib.hid e_epsilon
          have He_keeps := Lib.hid e_keeps
          have He_transA := Lib.hid e_transA
          have He_transB := Lib.hid e_transB
          have He_fmod := Lib.hid e_fmod
          clear e_axis e_alpha e_beta e_epsilon e_keeps e_transA e_transB e_fmod
          go_wp2_with (first
            | (with_reducible refine wpList_store_field rfl 2 _ _ rfl w7.heap.size 3 (.int .i64 0) rfl rfl rfl (by kernel_rfl) 52 [.string z.name, .int .i64 z.kind, .int .u32 (z.f : Int), .int .i64 z.i, .string z.s, .int .i64 z.t.type, .slice a1 z.t.dims.length l1, .slice a2 z.t.f.length l2, .slice a3 z.t.i.length l3, .slice a4 z.t.b.length l4, .slice a5 z.floats.length l5, .slice a6 z.ints.length l6] HX8.out.2 (by simp) ?_))
          go_meet
          exact ⟨{ z with i := 0 }, _, by unfold turnA; rw [if_neg He_axis.out]; rw [if_neg He_alpha.out]; rw [if_neg He_beta.out]; rw [if_neg He_epsilon.out]; rw [if_neg He_keeps.out]; rw [if_pos (by simp [He_fmod.out])], below_setRow' HX8.out.1 (Nat.le_refl _) _, heap_setRow _ _ _ _ _ HX8.out.2, (H8.out.2.2.2.1 _ I64_0).1, fun W hW => (H8.out.2.2.2.1 _ I64_0).2 W hW⟩
        by_cases e_ceil : z.name = s_ceil
        · have d_ceil : (z.name.toList == ([99, 101, 105, 108, 95, 109, 111, 100, 101] : List UInt8)) = true := by rw [beq_lit]; exact decide_eq_true e_ceil
          have d_axis : (z.name.toList == ([97, 120, 105, 115] : List UInt8)) = false := by rw [beq_lit]; exact decide_eq_false e_axis
          have d_alpha : (z.name.toList == ([97, 108, 112, 104, 97] : List UInt8)) = false := by rw [beq_lit]; exact decide_eq_false e_alpha
          have d_beta : (z.name.toList == ([98, 101, 116, 97] : List UInt8)) = false := by rw [beq_lit]; exact decide_eq_false e_beta
          have d_epsilon : (z.name.toList == ([101, 112, 115, 105, 108, 111, 110] : List UInt8)) = false := by rw [beq_lit]; exact decide_eq_false e_epsilon
          have d_keeps : (z.name.toList == ([107, 101, 101, 112, 100, 105, 109, 115] : List UInt8)) = false := by rw [beq_lit]; exact decide_eq_false e_keeps
          have d_transA : (z.name.toList == ([116, 114, 97, 110, 115, 65] : List UInt8)) = false := by rw [beq_lit]; exact decide_eq_false e_transA
          have d_transB : (z.name.toList == ([116, 114, 97, 110, 115, 66] : List UInt8)) = false := by rw [beq_lit]; exact decide_eq_false e_transB
          have d_fmod : (z.name.toList == ([102, 109, 111, 100] : List UInt8)) = false := by rw [beq_lit]; exact decide_eq_false e_fmod
          have He_axis := Lib.hid e_axis
          have He_alpha := Lib.hid e_alpha
          have He_beta := Lib.hid e_beta
          have He_epsilon := Lib.hid e_epsilon
          have He_keeps := Lib.hid e_keeps
          have He_transA := Lib.hid e_transA
          have He_transB := Lib.hid e_transB
          have He_fmod := Lib.hid e_fmod
          have He_ceil := Lib.hid e_ceil
          clear e_axis e_alpha e_beta e_epsilon e_keeps e_transA e_transB e_fmod e_ceil
          go_wp2_with (first
            | (with_reducible refine wpList_store_field rfl 2 _ _ rfl w7.heap.size 3 (.int .i64 0) rfl rfl rfl (by kernel_rfl) 52 [.string z.name, .int .i64 z.kind, .int .u32 (z.f : Int), .int .i64 z.i, .string z.s, .int .i64 z.t.type, .slice a1 z.t.dims.length l1, .slice a2 z.t.f.length l2, .slice a3 z.t.i.length l3, .slice a4 z.t.b.length l4, .slice a5 z.floats.length l5, .slice a6 z.ints.length l6] HX8.out.2 (by simp) ?_))
          go_meet
          exact ⟨{ z with i := 0 }, _, by unfold turnA; rw [if_neg He_axis.out]; rw [if_neg He_alpha.out]; rw [if_neg He_beta.out]; rw [if_neg He_epsilon.out]; rw [if_neg He_keeps.out]; rw [if_pos (by simp [He_ceil.out])], below_setRow' HX8.out.1 (Nat.le_refl _) _, heap_setRow _ _ _ _ _ HX8.out.2, (H8.out.2.2.2.1 _ I64_0).1, fun W hW => (H8.out.2.2.2.1 _ I64_0).2 W hW⟩
        by_cases e_zero : z.name = s_zero
        · have d_zero : (z.name.toList == ([97, 108, 108, 111, 119, 122, 101, 114, 111] : List UInt8)) = true := by rw [beq_lit]; exact decide_eq_true e_zero
          have d_axis : (z.name.toList == ([97, 120, 105, 115] : List UInt8)) = false := by rw [beq_lit]; exact decide_eq_false e_axis
          have d_alpha : (z.name.toList == ([97, 108, 112, 104, 97] : List UInt8)) = false := by rw [beq_lit]; exact decide_eq_false e_alpha
          have d_beta : (z.name.toList == ([98, 101, 116, 97] : List UInt8)) = false := by rw [beq_lit]; exact decide_eq_false e_beta
          have d_epsilon : (z.name.toList == ([101, 112, 115, 105, 108, 111, 110] : List UInt8)) = false := by rw [beq_lit]; exact decide_eq_false e_epsilon
          have d_keeps : (z.name.toList == ([107, 101, 101, 112, 100, 105, 109, 115] : List UInt8)) = false := by rw [beq_lit]; exact decide_eq_false e_keeps
          have d_transA : (z.name.toList == ([116, 114, 97, 110, 115, 65] : List UInt8)) = false := by rw [beq_lit]; exact decide_eq_false e_transA
          have d_transB : (z.name.toList == ([116, 114, 97, 110, 115, 66] : List UInt8)) = false := by rw [beq_lit]; exact decide_eq_false e_transB
          have d_fmod : (z.name.toList == ([102, 109, 111, 100] : List UInt8)) = false := by rw [beq_lit]; exact decide_eq_false e_fmod
          have d_ceil : (z.name.toList == ([99, 101, 105, 108, 95, 109, 111, 100, 101] : List UInt8)) = false := by rw [beq_lit]; exact decide_eq_false e_ceil
          have He_axis := Lib.hid e_axis
          have He_alpha := Lib.hid e_alpha
          have He_beta := Lib.hid e_beta
          have He_epsilon := Lib.hid e_epsilon
          have He_keeps := Lib.hid e_keeps
          have He_transA := Lib.hid e_transA
          have He_transB := Lib.hid e_transB
          have He_fmod := Lib.hid e_fmod
          have He_ceil := Lib.hid e_ceil
          have He_zero := Lib.hid e_zero
          clear e_axis e_alpha e_beta e_epsilon e_keeps e_transA e_transB e_fmod e_ceil e_zero
          go_wp2_with (first
            | (with_reducible refine wpList_store_field rfl 2 _ _ rfl w7.heap.size 3 (.int .i64 0) rfl rfl rfl (by kernel_rfl) 52 [.string z.name, .int .i64 z.kind, .int .u32 (z.f : Int), .int .i64 z.i, .string z.s, .int .i64 z.t.type, .slice a1 z.t.dims.length l1, .slice a2 z.t.f.length l2, .slice a3 z.t.i.length l3, .slice a4 z.t.b.length l4, .slice a5 z.floats.length l5, .slice a6 z.ints.length l6] HX8.out.2 (by simp) ?_))
          go_meet
          exact ⟨{ z with i := 0 }, _, by unfold turnA; rw [if_neg He_axis.out]; rw [if_neg He_alpha.out]; rw [if_neg He_beta.out]; rw [if_neg He_epsilon.out]; rw [if_neg He_keeps.out]; rw [if_pos (by simp [He_zero.out])], below_setRow' HX8.out.1 (Nat.le_refl _) _, heap_setRow _ _ _ _ _ HX8.out.2, (H8.out.2.2.2.1 _ I64_0).1, fun W hW => (H8.out.2.2.2.1 _ I64_0).2 W hW⟩
        have d_all : (z.name.toList == ([97, 120, 105, 115] : List UInt8)) = false ∧ (z.name.toList == ([97, 108, 112, 104, 97] : List UInt8)) = false ∧ (z.name.toList == ([98, 101, 116, 97] : List UInt8)) = false ∧ (z.name.toList == ([101, 112, 115, 105, 108, 111, 110] : List UInt8)) = false ∧ (z.name.toList == ([107, 101, 101, 112, 100, 105, 109, 115] : List UInt8)) = false ∧ (z.name.toList == ([116, 114, 97, 110, 115, 65] : List UInt8)) = false ∧ (z.name.toList == ([116, 114, 97, 110, 115, 66] : List UInt8)) = false ∧ (z.name.toList == ([102, 109, 111, 100] : List UInt8)) = false ∧ (z.name.toList == ([99, 101, 105, 108, 95, 109, 111, 100, 101] : List UInt8)) = false ∧ (z.name.toList == ([97, 108, 108, 111, 119, 122, 101, 114, 111] : List UInt8)) = false := by
          refine ⟨?_, ?_, ?_, ?_, ?_, ?_, ?_, ?_, ?_, ?_⟩
          · rw [beq_lit]; exact decide_eq_false e_axis
          · rw [beq_lit]; exact decide_eq_false e_alpha
          · rw [beq_lit]; exact decide_eq_false e_beta
          · rw [beq_lit]; exact decide_eq_false e_epsilon
          · rw [beq_lit]; exact decide_eq_false e_keeps
          · rw [beq_lit]; exact decide_eq_false e_transA
          · rw [beq_lit]; exact decide_eq_false e_transB
          · rw [beq_lit]; exact decide_eq_false e_fmod
          · rw [beq_lit]; exact decide_eq_false e_ceil
          · rw [beq_lit]; exact decide_eq_false e_zero
        obtain ⟨d_axis, d_alpha, d_beta, d_epsilon, d_keeps, d_transA, d_transB, d_fmod, d_ceil, d_zero⟩ := d_all
        clear e_axis e_alpha e_beta e_epsilon e_keeps e_transA e_transB e_fmod e_ceil e_zero
        go_wp2
        go_ret
        exact ⟨rfl, HI7.out.below.trans (HX8.out.1.mono HI7.out.below.size)⟩
      case rest =>
        obtain ⟨a', acs', ha', hb9, hrow9, hone9, hrep9⟩ := hcut
        have hr7 : Below wr.heap.size wr w7 := HB6.out.trans (HX7.out.1.mono HB6.out.size)
        have hr9 : Below wr.heap.size wr wc := hr7.trans (hb9.mono hr7.size)
        have hI9 := HIr.out.next hr9
        have hrep := hrep9 wc hI9.below
        obtain ⟨hres, hmode⟩ := HP.out a' ha'
        obtain ⟨hrow, hown, hch2, hgl, hg2, hpm, hrl2⟩ := HO.out
        have hrowm := (hr9.block _ hgl).trans hrow
        have hownm := own_below hown hr9
        have hg9 := hg2.next (Nat.le_of_lt hw3) hr9
        have km : wc.cell? ⟨w3.heap.size, 4, none⟩ = some vm := row_cell hrowm rfl
        have hz7 : w7.heap.size = w6.heap.size + 1 := HX7.out.2.2
        have hz3 : w3.heap.size = w2.heap.size + 1 := HX3.out.2.2
        have hz6 : wr.heap.size ≤ w6.heap.size := HB6.out.size
        have hz9 : w7.heap.size < wc.heap.size := (Array.getElem?_eq_some_iff.1 hrow9).1
        have hts9 : wc.heap[w6.heap.size]? = some (.cells ts.toArray 45 (0, 0)) := (hb9.block _ (by omega)).trans HX7.out.2.1
        have hss9 : wc.heap[w2.heap.size]? = some (.cells ss.toArray 45 (0, 0)) := (hr9.block _ (by omega)).trans ((HG.out.below.block _ (by omega)).trans HX3.out.2.1)
        have hal9 : acs'.length = 12 := Rep.len hrep
        obtain ⟨x1, m1, x2, m2, x3, m3, x4, m4, x5, m5, x6, m6, rfl, -⟩ := open_AttrD hrep
        have hb1 : Below wc.heap.size wc (wc.alloc (.cells ([.string a'.name, .int .i64 a'.kind, .int .u32 (a'.f : Int), .int .i64 a'.i, .string a'.s, .int .i64 a'.t.type, .slice x1 a'.t.dims.length m1, .slice x2 a'.t.f.length m2, .slice x3 a'.t.i.length m3, .slice x4 a'.t.b.length m4, .slice x5 a'.floats.length m5, .slice x6 a'.ints.length m6] : List Value).toArray 52)) := (Below.refl _ _).alloc (Nat.le_refl _) _
        have hown1 := own_below hownm hb1
        have hlies1 := lies_new wc [.string a'.name, .int .i64 a'.kind, .int .u32 (a'.f : Int), .int .i64 a'.i, .string a'.s, .int .i64 a'.t.type, .slice x1 a'.t.dims.length m1, .slice x2 a'.t.f.length m2, .slice x3 a'.t.i.length m3, .slice x4 a'.t.b.length m4, .slice x5 a'.floats.length m5, .slice x6 a'.ints.length m6] 52
        have hg1 := hg9.next (Nat.le_of_lt hw3) hb1
        have hrow1 := (hb1.block _ hg9.lt).trans hrowm
        have hch1 := hch2.keep (Keeps.old_below (hr9.trans (hb1.mono hr9.size)) (by omega : w.heap.size ≤ wr.heap.size))
        have hrz1 := hrep9 _ (hI9.below.trans (hb1.mono hI9.below.size))
        have hsz1 : (wc.alloc (.cells ([.string a'.name, .int .i64 a'.kind, .int .u32 (a'.f : Int), .int .i64 a'.i, .string a'.s, .int .i64 a'.t.type, .slice x1 a'.t.dims.length m1, .slice x2 a'.t.f.length m2, .slice x3 a'.t.i.length m3, .slice x4 a'.t.b.length m4, .slice x5 a'.floats.length m5, .slice x6 a'.ints.length m6] : List Value).toArray 52)).heap.size = wc.heap.size + 1 := by simp
        have hdone : ∀ (W9 : World) (v9 : Value), W9.ownsRow (w3.heap.size + 1) 52 12 v9 (rest.length + 1) (xs2 ++ [.string a'.name, .int .i64 a'.kind, .int .u32 (a'.f : Int), .int .i64 a'.i, .string a'.s, .int .i64 a'.t.type, .slice x1 a'.t.dims.length m1, .slice x2 a'.t.f.length m2, .slice x3 a'.t.i.length m3, .slice x4 a'.t.b.length m4, .slice x5 a'.floats.length m5, .slice x6 a'.ints.length m6]) → (wc.alloc (.cells ([.string a'.name, .int .i64 a'.kind, .int .u32 (a'.f : Int), .int .i64 a'.i, .string a'.s, .int .i64 a'.t.type, .slice x1 a'.t.dims.length m1, .slice x2 a'.t.f.length m2, .slice x3 a'.t.i.length m3, .slice x4 a'.t.b.length m4, .slice x5 a'.floats.length m5, .slice x6 a'.ints.length m6] : List Value).toArray 52)).grownBy W9 vm.ownBlock →
            W9.heap[w3.heap.size]? = some (.cells ([.string n.op, .string n.name, .slice A1 n.ins.length k1, .slice A2 n.outs.length k2, vm] : List Value).toArray 36 (0, 0)) ∧ v9.oneCell' = true ∧
            GrowInv w w3 (.string n.op) (.string n.name) (.slice A1 n.ins.length k1) (.slice A2 n.outs.length k2) (rest ++ [a']) (W9.setRow w3.heap.size (([.string n.op, .string n.name, .slice A1 n.ins.length k1, .slice A2 n.outs.length k2, vm] : List Value).set 4 v9).toArray) ∧
            ∀ k, wr.heap.size ≤ k → k < wc.heap.size → (W9.setRow w3.heap.size (([.string n.op, .string n.name, .slice A1 n.ins.length k1, .slice A2 n.outs.length k2, vm] : List Value).set 4 v9).toArray).heap[k]? = wc.heap[k]? := by
          intro W9 v9 hown9 hgr9
          have hbase : ∀ g, vm.ownBlock = some g → w3.heap.size + 1 ≤ g := fun g hg => (hown.lt g hg).1
          have htop : ∀ g, vm.ownBlock = some g → g < wr.heap.size := fun g hg => (hown.lt g hg).2
          have h9 := hg1.grow (Nat.le_of_lt hw3) hrow1 hch1 hrz1 (.inr ⟨_, hgr9, hbase⟩) hown9
          refine ⟨h9.1, h9.2.1, h9.2.2, fun q hq1 hq2 => ?_⟩
          rw [heap_setRow_other _ _ _ _ (by omega), hgr9.block _ (by omega) (fun e => by have := htop q e.symm; omega)]
          exact Below.heap_alloc _ _ _ (by omega)
        have HD := Lib.hid (And.intro hrow9 (And.intro hal9 (And.intro hone9 (And.intro hown1 (And.intro hlies1 (And.intro hdone (And.intro hts9 (And.intro hss9 (And.intro hres (And.intro hmode (And.intro hsz1 (And.intro hI9 hb9))))))))))))
        have hrb : (rest.length + 1) * 208 ≤ 140737488355328 := by have := HL.out.2.2.2; omega
        have hrm : rest.length + 1 ≤ maxLen := by unfold maxLen; omega
        have hw9 : w3.heap.size + 1 ≤ wc.heap.size + 1 := by omega
        have HZZ := Lib.hid (And.intro hz7 (And.intro hz3 (And.intro hz6 (And.intro hz9 (And.intro hgl hrl2)))))
        clear hrow9 hal9 hone9 hown1 hlies1 hdone hts9 hss9 hres hmode hsz1 hI9 hb9 hrep9 hr7 hr9 hrep hrow hown hch2 hgl hg2 hpm hrl2 hrowm hownm hg9 hz7 hz3 hz6 hz9 hb1 hg1 hrow1 hch1 hrz1 ha' c0 c3 c9 c10 c11 kn k7 kr
        go_wp2_with (first
          | (with_reducible refine wpList_load_agg rfl 52 _ rfl _ w7.heap.size 0 rfl [.string a'.name, .int .i64 a'.kind, .int .u32 (a'.f : Int), .int .i64 a'.i, .string a'.s, .int .i64 a'.t.type, .slice x1 a'.t.dims.length m1, .slice x2 a'.t.f.length m2, .slice x3 a'.t.i.length m3, .slice x4 a'.t.b.length m4, .slice x5 a'.floats.length m5, .slice x6 a'.ints.length m6] Tryd.underlying52 rfl (by kernel_rfl) (At.of_row HD.out.1) ?_)
          | (at_builtin; refine wpList_append_lies _ rfl _ _ 34 rfl (w3.heap.size + 1) 52 i0 (.agg zeroA.toArray) 12 208 Tryd.underlying34 HZ.out.1 HZ.out.2.1 HZ.out.2.2.1 HZ.out.2.2.2 rfl (by decide) vm rest.length xs2 rfl HD.out.2.2.2.1 (old (wc.heap.size + 1)) (some ⟨wc.heap.size, 0, none⟩) 1 1 [.string a'.name, .int .i64 a'.kind, .int .u32 (a'.f : Int), .int .i64 a'.i, .string a'.s, .int .i64 a'.t.type, .slice x1 a'.t.dims.length m1, .slice x2 a'.t.f.length m2, .slice x3 a'.t.i.length m3, .slice x4 a'.t.b.length m4, .slice x5 a'.floats.length m5, .slice x6 a'.ints.length m6] rfl rfl HD.out.2.2.2.2.1 HD.out.2.2.1 hrm hrb (by rw [HD.out.2.2.2.2.2.2.2.2.2.2.1]; exact hw9) ?_; intro v9 W9 hown9 hgr9 _; have HK := Lib.hid (HD.out.2.2.2.2.2.1 W9 v9 hown9 hgr9); clear hown9 hgr9)
          | (with_reducible refine wpList_store_field rfl 34 _ _ rfl w3.heap.size 4 v9 rfl rfl HK.out.2.1 (by kernel_rfl) 36 [.string n.op, .string n.name, .slice A1 n.ins.length k1, .slice A2 n.outs.length k2, vm] HK.out.1 (by simp) ?_; have hX := HK.out.2.2; generalize World.setRow _ _ _ = w10 at hX ⊢; have HX10 := Lib.hid hX; clear hX; refine halt ?_))
        unfold Halt
        obtain ⟨v10, hrow10, hvm10⟩ := HX10.out.1.datum (Nat.le_of_lt hw3) (by rw [List.length_append]; have := HL.out.2.2.2; have := HZZ.out.2.2.2.2.2; simp only [List.length_cons, List.length_nil]; omega)
        have hI10 := HI3.out.next HX10.out.1.below
        have hmN10 : rep w10 (old w10.heap.size) [.string n.op, .string n.name, .slice A1 n.ins.length k1, .slice A2 n.outs.length k2, v10] ({ n with attrs := rest ++ [a'] } : NodeD) :=
          shut_NodeD (a := { n with attrs := rest ++ [a'] }) HIO.out.1 HIO.out.2.1 (c2 := [_]) (hI10.keeps' HIO.out.2.2.1) (c3 := [_]) (hI10.keeps' HIO.out.2.2.2) (c4 := [_]) hvm10
        have hts10 : w10.heap[w6.heap.size]? = some (.cells ts.toArray 45 (0, 0)) := by
          obtain ⟨hz7, hz3, hz6, hz9, hgl, hrl2⟩ := HZZ.out
          exact (HX10.out.2 _ hz6 (by omega)).trans HD.out.2.2.2.2.2.2.1
        have hss10 : w10.heap[w2.heap.size]? = some (.cells ss.toArray 45 (0, 0)) := by
          obtain ⟨hz7, hz3, hz6, hz9, hgl, hrl2⟩ := HZZ.out
          exact (HX10.out.1.below.block _ (by omega)).trans HX3.out.2.1
        have hrt10 : rep w10 (fresh wr.heap.size w6.heap.size) ts t := by
          obtain ⟨hz7, hz3, hz6, hz9, hgl, hrl2⟩ := HZZ.out
          refine Rep.keep (show rep w6 (fresh wr.heap.size w6.heap.size) ts t from HSD2.out) (.of_block fun q hq => ?_)
          rw [HX10.out.2 q hq.1 (by have := hq.2; omega), HD.out.2.2.2.2.2.2.2.2.2.2.2.2.block q (by have := hq.2; omega)]
          exact HX7.out.1.block q hq.2
        have H10 := Lib.hid (And.intro hrow10 (And.intro hmN10 (And.intro hts10 (And.intro hss10 (And.intro hrt10 hI10)))))
        have h6w10 : w6.heap.size < w10.heap.size := (Array.getElem?_eq_some_iff.1 hts10).1
        clear hrow10 hvm10 hI10 hmN10 hts10 hss10 hrt10
        go_wp2_with (first
          | (with_reducible refine wpList_load_agg rfl 36 _ rfl _ _ _ rfl [.string n.op, .string n.name, .slice A1 n.ins.length k1, .slice A2 n.outs.length k2, v10] Tryd.underlying36 rfl (by kernel_rfl) (At.of_row H10.out.1) ?_))
        refine (HRes.out _ _ w10 (HT.out.1.ext H10.out.2.2.2.2.2.below) H10.out.2.1).mono ?_
        rw [HD.out.2.2.2.2.2.2.2.2.1]
        rintro e w11 ⟨us, rfl, hS, hb⟩
        have hsl : us.length = 36 := hS.len
        have hso : ∀ u ∈ us, u.oneCell' = true := (inferInstance : Rep SettingD).one hS
        have HS3 := Lib.hid (And.intro hsl hso)
        have HSD3 := Lib.hid hS
        have HB11 := Lib.hid hb
        clear hb hS hsl hso
        go_wp2_with (first
          | (with_reducible refine wpList_alloc_row rfl 45 rfl zeroS zeroS_zero ?_)
          | (with_reducible refine wpList_store_agg rfl 45 _ _ rfl _ 0 us rfl rfl 45 zeroS (heap_alloc_new _ _) (by rw [HS3.out.1]; kernel_rfl) (by rw [HS3.out.1, zeroS_len]; omega) HS3.out.2 ?_; have hX := laid_row w11 45 zeroS us (by rw [HS3.out.1, zeroS_len]); generalize World.setRow _ _ _ = w12 at hX ⊢; have HX12 := Lib.hid hX; clear hX; refine halt ?_))
        unfold Halt
        have h12 : Below w10.heap.size w10 w12 := HB11.out.trans (HX12.out.1.mono HB11.out.size)
        have hss12 := (h12.block _ (by have := HZZ.out; omega)).trans H10.out.2.2.2.1
        have hts12 := (h12.block _ h6w10).trans H10.out.2.2.1
        have r1 : rep w12 (old w12.heap.size) ts t := Rep.more (Rep.keep H10.out.2.2.2.2.1 (.of_block fun q hq => h12.block q (by have := hq.2; omega))) (fresh_old (by have := h12.size; omega))
        have r2 : rep w12 (old w12.heap.size) us t := Rep.more (Rep.keep (show rep w11 (fresh w10.heap.size w11.heap.size) us t from HSD3.out) (Keeps.fresh_below HX12.out.1 (Nat.le_refl _))) (fresh_old HX12.out.1.size)
        have c16 : w12.cell? ⟨w2.heap.size, 16, none⟩ = some (.int .i64 t.mode) := by
          rw [row_cell hss12 (Fld.int HSD.out.f16).1, HD.out.2.2.2.2.2.2.2.2.2.1]
        have d16 : w12.cell? ⟨w6.heap.size, 16, none⟩ = some (.int .i64 t.mode) := row_cell hts12 (Fld.int HSD2.out.f16).1
        have H12 := Lib.hid (And.intro hts12 (And.intro r1 (And.intro r2 (And.intro c16 (And.intro d16 (H10.out.2.2.2.2.2.next h12))))))
        have hlt12 : w2.heap.size < w12.heap.size ∧ w6.heap.size < w12.heap.size := ⟨(Array.getElem?_eq_some_iff.1 hss12).1, (Array.getElem?_eq_some_iff.1 hts12).1⟩
        obtain ⟨hlt2, hlt6⟩ := hlt12
        have hop1 : (op != 0) = true := by rw [bne_iff_ne]; have := HE.out; omega
        clear hss12 hts12 r1 r2 c16 d16 h12
        go_wp2_with (first
          | (with_reducible refine wpList_load_agg_w (by kernel_rfl) 45 _ rfl _ w6.heap.size 0 rfl ts Tryd.underlying45 rfl (by rw [HS2.out.1]; kernel_rfl) (At.of_row H12.out.1) ?_)
          | (with_reducible refine wpList_load_agg_w (by kernel_rfl) 45 _ rfl _ w11.heap.size 0 rfl us Tryd.underlying45 rfl (by rw [HS3.out.1]; kernel_rfl) (At.of_row HX12.out.2.1) ?_))
        refine (same_any ts us t w12 H12.out.2.1 H12.out.2.2.1).mono ?_
        rintro e w13 ⟨rfl, hb⟩
        have c16 : w13.cell? ⟨w2.heap.size, 16, none⟩ = some (.int .i64 t.mode) := (hb.cell (p := ⟨w2.heap.size, 16, none⟩) hlt2).trans H12.out.2.2.2.1
        have d16 : w13.cell? ⟨w6.heap.size, 16, none⟩ = some (.int .i64 t.mode) := (hb.cell (p := ⟨w6.heap.size, 16, none⟩) hlt6).trans H12.out.2.2.2.2.1
        have HB13 := Lib.hid (H12.out.2.2.2.2.2.below.trans (hb.mono H12.out.2.2.2.2.2.below.size))
        clear hb
        go_wp2
        go_ret
        exact ⟨rfl, HB13.out⟩
end Go.Proofs.YtgbkhcmbmffljaaDoor
