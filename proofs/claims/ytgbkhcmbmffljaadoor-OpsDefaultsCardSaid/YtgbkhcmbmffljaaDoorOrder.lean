/-
  The law OpsOrder: its walk.
-/
import Derived.Test.YtgbkhcmbmffljaaDoorGrow
import Derived.Deep.CutRange
import Derived.Deep.DeepCutAuto
set_option linter.unusedSimpArgs false
namespace Go.Proofs.YtgbkhcmbmffljaaDoor
open Go.RowKit
open Rep (rep)

theorem yields_len {P : Program} {ops : Array Oper} {S : World → Prop} {o : Oper} {a : Act} {e : TypeId} (hw : Region.wanted o (yielded ops a.tmps) = true) (x : Operand) (t : TypeId) (ho : o.op = .call { callee := .builtin .len, args := #[x], argTypes := #[t] })
    (A : Option Addr) (n c : Nat) (hx : a.eval x = .slice A n c) (ht : P.underlying t = some (.slice e)) : YieldsIf P ops S o (.int .i64 (n : Int)) a :=
  .inl ⟨hw, fun w h => by
    unfold execOp
    simp only [ho]
    simp [resolve, invoke, builtin, hx]
    go_simp⟩
theorem bits_low (x : Int) : 0 ≤ bits .and .i64 x 65535 ∧ bits .and .i64 x 65535 ≤ 65535 := by
  have h : ∀ m : Nat, m ≤ 65535 → 0 ≤ IntKind.i64.wrap (m : Int) ∧ IntKind.i64.wrap (m : Int) ≤ 65535 := fun m hm => by
    rw [IntWalk.i64_in _ (by omega)]; omega
  refine h _ ?_
  rw [BitVec.toNat_and]
  exact Nat.le_trans Nat.and_le_right (by decide)
theorem low_mod (x : Int) (n : Nat) (hn : 0 < n) : ∃ k : Nat, (bits .and .i64 x 65535).tmod n = (k : Int) ∧ k < n := by
  have h := bits_low x
  rw [Int.tmod_eq_emod_of_nonneg h.1]
  have h1 := Int.emod_nonneg (bits .and .i64 x 65535) (show (n : Int) ≠ 0 by omega)
  have h2 := Int.emod_lt_of_pos (bits .and .i64 x 65535) (show (0 : Int) < (n : Int) by omega)
  exact ⟨((bits .and .i64 x 65535) % n).toNat, by omega, by omega⟩
set_option maxRecDepth 100000 in
set_option maxHeartbeats 40000000 in
theorem order_any (HRes : Hid ResolveLaw) (cs : List Value) (n : NodeD) (at_ : Int) (w : World) (ht : Tab w) (hr : rep w (old w.heap.size) cs n) (hI : I64 at_) :
    Calls Tryd.prog 5 #[.agg cs.toArray, .int .i64 at_] w (YesBelow w) := by
  have hrn := hr
  obtain ⟨A1, k1, A2, k2, A3, k3, rfl, g0, g1, hi, ho, ha⟩ := open_NodeD hr
  obtain ⟨A', c', xs, hv, hnc, hcm, hby, hl, hch⟩ := open_slice ha
  simp only [Value.slice.injEq, true_and] at hv
  obtain ⟨rfl, rfl⟩ := hv
  have hlen : n.attrs.length * 208 ≤ 140737488351232 := hby
  have hlen2 : n.attrs.length ≤ 1000000000000 := by omega
  have HT := Lib.hid (And.intro ht (And.intro hrn hI))
  have HIO := Lib.hid (And.intro g0 (And.intro g1 (And.intro hi ho)))
  have HL := Lib.hid (And.intro hl (And.intro hch (And.intro ha hlen)))
  have HNO := Lib.hid (show ∀ u ∈ ([.string n.op, .string n.name, .slice A1 n.ins.length k1, .slice A2 n.outs.length k2, .slice A3 n.attrs.length k3] : List Value), u.oneCell' = true from Rep.one hrn)
  clear hr hrn ht g0 g1 hi ho ha hl hch hby hI hlen
  go_enter Tryd.func5, Tryd.ntmps5
  go_wp2_with fail
  have hX : BoxInv w 36 [.string n.op, .string n.name, .slice A1 n.ins.length k1, .slice A2 n.outs.length k2, .slice A3 n.attrs.length k3] (w.alloc (.cells #[.string n.op, .string n.name, .slice A1 n.ins.length k1, .slice A2 n.outs.length k2, .slice A3 n.attrs.length k3] 36)) := box_start w 36 [.string n.op, .string n.name, .slice A1 n.ins.length k1, .slice A2 n.outs.length k2, .slice A3 n.attrs.length k3]
  generalize World.alloc _ _ = W0 at hX ⊢
  have HI := Lib.hid hX
  clear hX
  refine (awake_any HRes W0 (HT.out.1.ext HI.out.below)).mono ?_
  rintro e w1 ⟨rfl, hb⟩
  have HI1 := Lib.hid (HI.out.next hb)
  clear hb
  go_wp2_with (first
    | (with_reducible refine wpList_load_agg rfl 36 _ rfl _ _ _ rfl [.string n.op, .string n.name, .slice A1 n.ins.length k1, .slice A2 n.outs.length k2, .slice A3 n.attrs.length k3] Tryd.underlying36 rfl (by kernel_rfl) (At.of_row HI1.out.row) ?_))
  refine (HRes.out _ n w1 (HT.out.1.ext HI1.out.below) (HI1.out.keeps' HT.out.2.1)).mono ?_
  obtain ⟨op, hop⟩ : ∃ op, (resolveD n).1 = op := ⟨_, rfl⟩
  obtain ⟨s, hs⟩ : ∃ s, (resolveD n).2.1 = s := ⟨_, rfl⟩
  obtain ⟨er, her⟩ : ∃ er, (resolveD n).2.2 = er := ⟨_, rfl⟩
  rw [hop, hs, her]
  have HR1 := Lib.hid (And.intro hop (And.intro hs her))
  clear hop hs her
  rintro e w2 ⟨ss, rfl, hS, hb⟩
  have hsl : ss.length = 36 := hS.len
  have hso : ∀ u ∈ ss, u.oneCell' = true := (inferInstance : Rep SettingD).one hS
  have HSD := Lib.hid hS
  have HS1 := Lib.hid (And.intro hsl hso)
  have HI2 := Lib.hid (HI1.out.next hb)
  clear hb hS hsl hso
  go_wp2_with (first
    | (with_reducible refine wpList_alloc_row rfl 45 rfl zeroS zeroS_zero ?_)
    | (with_reducible refine wpList_store_agg rfl 45 _ _ rfl _ 0 ss rfl rfl 45 zeroS (heap_alloc_new _ _) (by rw [HS1.out.1]; kernel_rfl) (by rw [HS1.out.1, zeroS_len]; omega) HS1.out.2 ?_; have hX := laid_row w2 45 zeroS ss (by rw [HS1.out.1, zeroS_len]); generalize World.setRow _ _ _ = w3 at hX ⊢; have HI3 := Lib.hid (HI2.out.next hX.1); have HX3 := Lib.hid hX; clear hX; refine halt ?_))
  unfold Halt
  have hw3 : w.heap.size < w3.heap.size := HI3.out.lt
  go_wp2_with (first
    | (with_reducible refine wpList_load_agg rfl 36 _ rfl _ _ _ rfl [.string n.op, .string n.name, .slice A1 n.ins.length k1, .slice A2 n.outs.length k2, .slice A3 n.attrs.length k3] Tryd.underlying36 rfl (by kernel_rfl) (At.of_row HI3.out.row) ?_)
    | (with_reducible refine wpList_alloc_row rfl 36 rfl zeroNd zeroNd_zero ?_)
    | (with_reducible refine wpList_store_agg rfl 36 _ _ rfl _ 0 [.string n.op, .string n.name, .slice A1 n.ins.length k1, .slice A2 n.outs.length k2, .slice A3 n.attrs.length k3] rfl rfl 36 zeroNd (heap_alloc_new _ _) (by kernel_rfl) (by simp [zeroNd]) HNO.out ?_; have hX := laid_row w3 36 zeroNd [.string n.op, .string n.name, .slice A1 n.ins.length k1, .slice A2 n.outs.length k2, .slice A3 n.attrs.length k3] rfl; generalize World.setRow _ _ _ = w4 at hX ⊢; have HX4 := Lib.hid hX; clear hX; refine halt ?_))
  unfold Halt
  go_wp2_with (first
    | (with_reducible refine wpList_store_field rfl 34 _ _ rfl w3.heap.size 4 (.slice none 0 0) rfl rfl rfl (by kernel_rfl) 36 [.string n.op, .string n.name, .slice A1 n.ins.length k1, .slice A2 n.outs.length k2, .slice A3 n.attrs.length k3] HX4.out.2.1 (by simp) ?_; have hX := grow_start (w := w) HX4.out.1 HX4.out.2.1; generalize World.setRow _ _ _ = w5 at hX ⊢; have HG5 := Lib.hid hX; clear hX; refine halt ?_))
  unfold Halt
  have HI5 := Lib.hid (HI3.out.next HG5.out.below)
  have k4 : w5.cell? ⟨w.heap.size, 4, none⟩ = some (.slice A3 n.attrs.length k3) := cell_of_row _ _ _ _ _ _ HI5.out.row
  go_upto_if 27 with (fail)
  go_cut [10] from 27 to 33 (fun v wx => wx = w5 ∧ ∃ k : Nat, v = .int .i64 (k : Int) ∧ (k < n.attrs.length ∨ n.attrs.length = 0) ∧ k ≤ n.attrs.length)
  case first =>
    by_cases h0 : (0 : Int) < (n.attrs.length : Int)
    · go_wp2
      go_meet
      obtain ⟨k, hk, hk2⟩ := low_mod at_ n.attrs.length (by omega)
      rw [hk]
      exact ⟨rfl, k, rfl, .inl hk2, by omega⟩
    · go_wp2
      go_meet
      exact ⟨rfl, 0, rfl, .inr (by omega), by omega⟩
  case rest =>
    obtain ⟨rfl, k, rfl, hk, hkl⟩ := hcut
    obtain ⟨i0, hi0, hz0, hz1, hz2⟩ := info_parts attrInfo
    have hkb : (0 : Int) ≤ (k : Int) := Int.natCast_nonneg _
    have hkc : (k : Int) ≤ (n.attrs.length : Int) := by omega
    have HK := Lib.hid hk
    have HZ := Lib.hid (And.intro hi0 (And.intro hz0 (And.intro hz1 hz2)))
    clear hk hkl hi0 hz0 hz1 hz2
    go_wp2_with fail
    go_loopw [11] (fun i wr => ∃ (j : Nat) (x : Int), i = .int .i64 x ∧ x + j + 1 = n.attrs.length ∧ GrowInv w w3 (.string n.op) (.string n.name) (.slice A1 n.ins.length k1) (.slice A2 n.outs.length k2) ((turnedD n.attrs k).take j) wr) (fun i _ => (intOf i + 1).toNat)
    case atStart => exact ⟨0, _, rfl, by omega, HG5.out⟩
    case round =>
      obtain ⟨j, x, rfl, hx, hg⟩ := hrel
      have HG := Lib.hid hg
      have HIr := Lib.hid (HI3.out.next hg.below)
      have kr : wr.cell? ⟨w.heap.size, 4, none⟩ = some (.slice A3 n.attrs.length k3) := cell_of_row _ _ _ _ _ _ HIr.out.row
      clear hg
      by_cases hj : j < n.attrs.length
      · have hx0 : 0 ≤ x := by omega
        have hx1 : x ≤ 1000000000000 := by omega
        have HX := Lib.hid hx
        clear hx
        obtain ⟨z, hz⟩ : ∃ z, (turnedD n.attrs k)[j]? = some z := ⟨_, List.getElem?_eq_getElem (by rw [turned_len]; exact hj)⟩
        have hkn : k < n.attrs.length := by have := HK.out; omega
        have hz2 := hz
        rw [turned_get n.attrs k j hkn hj] at hz2
        have hsn := turned_snoc n.attrs k j hj hz
        obtain ⟨ix, hix⟩ : ∃ ix, (n.attrs.length - 1 - j + k) % n.attrs.length = ix := ⟨_, rfl⟩
        rw [hix] at hz2
        have hixl : ix < n.attrs.length := (List.getElem?_eq_some_iff.1 hz2).1
        have hmod : (x + (k : Int)) % (n.attrs.length : Int) = (ix : Int) := by rw [show x + (k : Int) = ((n.attrs.length - 1 - j + k : Nat) : Int) by have := HX.out; omega, ← hix]; rfl
        obtain ⟨b', o', acs, rfl, hbB, hrz, hcell⟩ := elem_at HL.out.1 HL.out.2.1 (by decide) hz2
        have hal : acs.length = 12 := Rep.len hrz
        have hao := Rep.one hrz
        have hat : At w b' (o' + ix * 12) acs := fun q u hu => by rw [Nat.add_assoc]; exact (hcell q u hu).1
        obtain ⟨vm, xs2, hrow, hown, hch2⟩ := HG.out.att
        have hgl := HG.out.lt
        have hjl : ((turnedD n.attrs k).take j).length = j := by rw [List.length_take, turned_len]; omega
        rw [hjl] at hown
        have HA := Lib.hid (And.intro hal (And.intro hao (And.intro hat (And.intro hbB (And.intro hrz hmod)))))
        have HO := Lib.hid (And.intro hrow (And.intro hown (And.intro hch2 (And.intro hgl (And.intro hsn hjl)))))
        have hS0 : ∀ W : World, Below w3.heap.size w3 W → W.cell? ⟨w.heap.size, 4, none⟩ = some (.slice (some ⟨b', o', none⟩) n.attrs.length k3) ∧ At W b' (o' + ix * 12) acs := fun W hb =>
          ⟨cell_of_row _ _ _ _ _ _ (HI3.out.next hb).row, HA.out.2.2.1.keep (HI3.out.next hb).below HA.out.2.2.2.1⟩
        have HSW := Lib.hid hS0
        clear hz hz2 hsn hix hixl hmod hbB hrz hcell hal hao hat hrow hown hch2 hgl hjl hS0 hkn
        go_wp2_with fail
        refine wp_region_held_drew (S := fun W => W.cell? ⟨w.heap.size, 4, none⟩ = some (.slice (some ⟨b', o', none⟩) n.attrs.length k3) ∧ At W b' (o' + ix * 12) acs) (by kernel_rfl) (HSW.out _ HG.out.below.drew) (fun hHeld => ?_)
        refine wpAnyH_take (i := 0) (v := .pointer (some ⟨w3.heap.size, 4, none⟩)) rfl (by kernel_rfl) (by kernel_rfl) (by kernel_rfl) (fun c a w h => h) (Or.inl ⟨by kernel_rfl, fun w _ => by kernel_rfl⟩) hHeld ?_
        refine wpAnyH_take (i := 2) (v := .pointer (some ⟨w.heap.size, 4, none⟩)) rfl (by kernel_rfl) (by kernel_rfl) (by kernel_rfl) (fun c a w h => h) (Or.inl ⟨by kernel_rfl, fun w _ => by kernel_rfl⟩) hHeld ?_
        refine wpAnyH_take (i := 3) (v := .slice (some ⟨b', o', none⟩) n.attrs.length k3) rfl (by kernel_rfl) (by kernel_rfl) (by kernel_rfl) (fun c a w h => h) (yields_load_slice (by kernel_rfl) _ _ rfl w.heap.size 4 (by kernel_rfl) _ Tryd.underlying34 (fun _ h => h.1)) hHeld ?_
        refine wpAnyH_take (i := 4) (v := .int .i64 x) rfl (by kernel_rfl) (by kernel_rfl) (by kernel_rfl) (fun c a w h => h) (Or.inl ⟨by kernel_rfl, fun w _ => by kernel_rfl⟩) hHeld ?_
        refine wpAnyH_take (i := 5) (v := .int .i64 (k : Int)) rfl (by kernel_rfl) (by kernel_rfl) (by kernel_rfl) (fun c a w h => h) (Or.inl ⟨by kernel_rfl, fun w _ => by kernel_rfl⟩) hHeld ?_
        refine wpAnyH_take (i := 6) (v := .int .i64 (x + (k : Int))) rfl (by kernel_rfl) (by kernel_rfl) (by kernel_rfl) (fun c a w h => h) (yields_addI (by kernel_rfl) _ _ _ _ rfl x (k : Int) (by kernel_rfl) (by kernel_rfl) Tryd.underlying3 hx0 hkb (by omega)) hHeld ?_
        refine wpAnyH_take (i := 7) (v := .pointer (some ⟨w.heap.size, 4, none⟩)) rfl (by kernel_rfl) (by kernel_rfl) (by kernel_rfl) (fun c a w h => h) (Or.inl ⟨by kernel_rfl, fun w _ => by kernel_rfl⟩) hHeld ?_
        refine wpAnyH_take (i := 8) (v := .slice (some ⟨b', o', none⟩) n.attrs.length k3) rfl (by kernel_rfl) (by kernel_rfl) (by kernel_rfl) (fun c a w h => h) (yields_load_slice (by kernel_rfl) _ _ rfl w.heap.size 4 (by kernel_rfl) _ Tryd.underlying34 (fun _ h => h.1)) hHeld ?_
        refine wpAnyH_take (i := 9) (v := .int .i64 (n.attrs.length : Int)) rfl (by kernel_rfl) (by kernel_rfl) (by kernel_rfl) (fun c a w h => h) (yields_len (by kernel_rfl) _ _ rfl (some ⟨b', o', none⟩) n.attrs.length k3 (by kernel_rfl) Tryd.underlying34) hHeld ?_
        refine wpAnyH_take (i := 10) (v := .int .i64 ((x + (k : Int)) % (n.attrs.length : Int))) rfl (by kernel_rfl) (by kernel_rfl) (by kernel_rfl) (fun c a w h => h) (yields_remI (by kernel_rfl) _ _ _ _ rfl (x + (k : Int)) (n.attrs.length : Int) (by kernel_rfl) (by kernel_rfl) Tryd.underlying3 (by omega) (by omega) (by omega) (by omega)) hHeld ?_
        refine wpAnyH_take (i := 11) (v := .pointer (some ⟨b', o' + ix * 12, none⟩)) rfl (by kernel_rfl) (by kernel_rfl) (by kernel_rfl) (fun c a w h => h) (yields_indexI (by kernel_rfl) _ _ _ rfl b' o' n.attrs.length k3 ix 12 ((x + (k : Int)) % (n.attrs.length : Int)) (by kernel_rfl) (by kernel_rfl) Tryd.underlying34 (by kernel_rfl) HA.out.2.2.2.2.2 (by have := HA.out.2.2.2.2.2; have := Int.emod_lt_of_pos (x + (k : Int)) (show (0 : Int) < (n.attrs.length : Int) by omega); omega)) hHeld ?_
        refine wpAnyH_take (i := 12) (v := .agg acs.toArray) rfl (by kernel_rfl) (by kernel_rfl) (by kernel_rfl) (fun c a w h => h) (yields_load_agg (by kernel_rfl) 52 _ rfl _ b' (o' + ix * 12) (by kernel_rfl) acs Tryd.underlying52 rfl (by rw [HA.out.1]; kernel_rfl) (fun _ h => h.2)) hHeld ?_
        obtain ⟨hi0, hz0, hz1, hz2⟩ := HZ.out
        obtain ⟨hrow, hown, hch2, hgl, hsn, hjl⟩ := HO.out
        have hb1 : Below wr.heap.size wr (wr.drew.alloc (.cells acs.toArray 52)) := (Below.refl _ _).drew.alloc (Nat.le_refl _) _
        have hown1 : (wr.drew.alloc (.cells acs.toArray 52)).ownsRow (w3.heap.size + 1) 52 12 vm j xs2 := own_below hown hb1
        have hlies1 := lies_new wr.drew acs 52
        have hbw3 : Below w3.heap.size w3 (wr.drew.alloc (.cells acs.toArray 52)) := HG.out.below.trans (hb1.mono (Nat.le_of_lt hgl))
        have hg1 := HG.out.next (Nat.le_of_lt hw3) hb1
        have hrow1 := (hb1.block _ hgl).trans hrow
        have hch1 := hch2.keep (Keeps.old_below hb1 (by omega : w.heap.size ≤ wr.heap.size))
        have hrz1 : rep (wr.drew.alloc (.cells acs.toArray 52)) (old w.heap.size) acs z := Rep.keep HA.out.2.2.2.2.1 (Keeps.old_below (HI3.out.next hbw3).below (Nat.le_refl _))
        have hlay : ∀ {b : Array Value}, True := fun {_} => trivial
        generalize hW1 : wr.drew.alloc (.cells acs.toArray 52) = W1 at hb1 hown1 hlies1 hbw3 hg1 hrow1 hch1 hrz1
        have key : ∀ (W9 : World) (v9 : Value), W9.ownsRow (w3.heap.size + 1) 52 12 v9 (j + 1) (xs2 ++ acs) → W1.grownBy W9 vm.ownBlock →
            W9.heap[w3.heap.size]? = some (.cells ([.string n.op, .string n.name, .slice A1 n.ins.length k1, .slice A2 n.outs.length k2, vm] : List Value).toArray 36 (0, 0)) ∧ v9.oneCell' = true ∧ Below w3.heap.size w3 W9 ∧
            GrowInv w w3 (.string n.op) (.string n.name) (.slice A1 n.ins.length k1) (.slice A2 n.outs.length k2) ((turnedD n.attrs k).take (j + 1)) (W9.setRow w3.heap.size (([.string n.op, .string n.name, .slice A1 n.ins.length k1, .slice A2 n.outs.length k2, vm] : List Value).set 4 v9).toArray) := by
          intro W9 v9 hown9 hg9
          have hbase : ∀ g, vm.ownBlock = some g → w3.heap.size + 1 ≤ g := fun g hg => (hown1.lt g hg).1
          have h9 := hg1.grow (Nat.le_of_lt hw3) hrow1 hch1 hrz1 (.inr ⟨_, hg9, hbase⟩) (by rw [hjl]; exact hown9)
          rw [← hsn] at h9
          exact ⟨h9.1, h9.2.1, hbw3.grown hg9 (by have := hb1.size; omega) (fun g hg => by have := hbase g hg; omega), h9.2.2⟩
        refine anyH_2 1 13 rfl rfl (by kernel_rfl) ?oa ?ob
        case oa =>
          refine steps_load_slice (by kernel_rfl) _ _ rfl w3.heap.size 4 (by kernel_rfl) vm Tryd.underlying34 (cell_of_row _ _ _ _ _ _ hrow) hHeld ?_
          refine anyH_1 13 rfl (by kernel_rfl) ?_
          refine steps_lay (.slice (some ⟨wr.heap.size, 0, none⟩) 1 1) (.cells acs.toArray 52) (by kernel_rfl) (by obtain ⟨B1, l1, B2, l2, B3, l3, B4, l4, B5, l5, B6, l6, rfl, -⟩ := open_AttrD hrz1; kernel_rfl) (by rw [hW1]; exact HSW.out _ hbw3) ?_
          rw [hW1]
          refine anyH_1 14 rfl (by kernel_rfl) ?_
          refine steps_append (by kernel_rfl) _ _ _ rfl (w3.heap.size + 1) 52 i0 (.agg zeroA.toArray) 12 208 Tryd.underlying34 hi0 hz0 hz1 hz2 rfl (by decide) vm j xs2 (by kernel_rfl) hown1
            (old (wr.drew.heap.size + 1)) (some ⟨wr.drew.heap.size, 0, none⟩) 1 1 acs (by kernel_rfl) HA.out.1 hlies1 HA.out.2.1 (by unfold maxLen; omega) (by have := HL.out.2.2.2; omega) (by have := hb1.size; omega) ?_
          intro v9 W9 hown9 hg9
          obtain ⟨hrow9, hone, hb9, hres⟩ := key W9 v9 hown9 hg9
          refine ⟨HSW.out _ hb9, ?_⟩
          refine wpAnyH_take (i := 15) (v := .pointer (some ⟨w3.heap.size, 4, none⟩)) rfl (by kernel_rfl) (by kernel_rfl) (by kernel_rfl) (fun c a w h => h) (Or.inl ⟨by kernel_rfl, fun w _ => by kernel_rfl⟩) (HSW.out _ hb9) ?_
          refine anyH_store_field 16 rfl (by kernel_rfl) (by kernel_rfl) _ _ _ rfl w3.heap.size 4 v9 (by kernel_rfl) (by kernel_rfl) hone (by kernel_rfl) 36 [.string n.op, .string n.name, .slice A1 n.ins.length k1, .slice A2 n.outs.length k2, vm] hrow9 (by show 4 < 5; decide) (HSW.out _ hres.below) ?_
          refine wpAnyH_done (by kernel_rfl) ?_ _
          generalize World.setRow _ _ _ = wc at hres ⊢
          have HC := Lib.hid hres
          clear hres hrow9 hone hb9 key hrz1 hch1 hrow1 hg1 hbw3 hlies1 hown1 hb1 hW1 hown9 hg9 hrow hown hch2 hgl hsn hjl hi0 hz0 hz1 hz2
          go_wp2
          go_roundw
          case rel => exact ⟨j + 1, _, rfl, by have := HX.out; omega, HC.out⟩
          case measure => simp [intOf]; omega
        case ob =>
          refine steps_lay (.slice (some ⟨wr.heap.size, 0, none⟩) 1 1) (.cells acs.toArray 52) (by kernel_rfl) (by obtain ⟨B1, l1, B2, l2, B3, l3, B4, l4, B5, l5, B6, l6, rfl, -⟩ := open_AttrD hrz1; kernel_rfl) (by rw [hW1]; exact HSW.out _ hbw3) ?_
          rw [hW1]
          refine anyH_1 1 rfl (by kernel_rfl) ?_
          refine steps_load_slice (by kernel_rfl) _ _ rfl w3.heap.size 4 (by kernel_rfl) vm Tryd.underlying34 (cell_of_row _ _ _ _ _ _ hrow1) (HSW.out _ hbw3) ?_
          refine anyH_1 14 rfl (by kernel_rfl) ?_
          refine steps_append (by kernel_rfl) _ _ _ rfl (w3.heap.size + 1) 52 i0 (.agg zeroA.toArray) 12 208 Tryd.underlying34 hi0 hz0 hz1 hz2 rfl (by decide) vm j xs2 (by kernel_rfl) hown1
            (old (wr.drew.heap.size + 1)) (some ⟨wr.drew.heap.size, 0, none⟩) 1 1 acs (by kernel_rfl) HA.out.1 hlies1 HA.out.2.1 (by unfold maxLen; omega) (by have := HL.out.2.2.2; omega) (by have := hb1.size; omega) ?_
          intro v9 W9 hown9 hg9
          obtain ⟨hrow9, hone, hb9, hres⟩ := key W9 v9 hown9 hg9
          refine ⟨HSW.out _ hb9, ?_⟩
          refine wpAnyH_take (i := 15) (v := .pointer (some ⟨w3.heap.size, 4, none⟩)) rfl (by kernel_rfl) (by kernel_rfl) (by kernel_rfl) (fun c a w h => h) (Or.inl ⟨by kernel_rfl, fun w _ => by kernel_rfl⟩) (HSW.out _ hb9) ?_
          refine anyH_store_field 16 rfl (by kernel_rfl) (by kernel_rfl) _ _ _ rfl w3.heap.size 4 v9 (by kernel_rfl) (by kernel_rfl) hone (by kernel_rfl) 36 [.string n.op, .string n.name, .slice A1 n.ins.length k1, .slice A2 n.outs.length k2, vm] hrow9 (by show 4 < 5; decide) (HSW.out _ hres.below) ?_
          refine wpAnyH_done (by kernel_rfl) ?_ _
          generalize World.setRow _ _ _ = wc at hres ⊢
          have HC := Lib.hid hres
          clear hres hrow9 hone hb9 key hrz1 hch1 hrow1 hg1 hbw3 hlies1 hown1 hb1 hW1 hown9 hg9 hrow hown hch2 hgl hsn hjl hi0 hz0 hz1 hz2
          go_wp2
          go_roundw
          case rel => exact ⟨j + 1, _, rfl, by have := HX.out; omega, HC.out⟩
          case measure => simp [intOf]; omega
      · have hx0 : x < 0 := by omega
        have htk : (turnedD n.attrs k).take j = turnedD n.attrs k := List.take_of_length_le (by rw [turned_len]; omega)
        have hg2 := HG.out
        rw [htk] at hg2
        obtain ⟨vm, hrow, hvm⟩ := hg2.datum (Nat.le_of_lt hw3) (by rw [turned_len]; exact HL.out.2.2.2)
        have hmN : rep wr (old wr.heap.size) [.string n.op, .string n.name, .slice A1 n.ins.length k1, .slice A2 n.outs.length k2, vm] ({ n with attrs := turnedD n.attrs k } : NodeD) :=
          shut_NodeD (a := { n with attrs := turnedD n.attrs k }) HIO.out.1 HIO.out.2.1 (c2 := [_]) (HIr.out.keeps' HIO.out.2.2.1) (c3 := [_]) (HIr.out.keeps' HIO.out.2.2.2) (c4 := [_]) hvm
        have HG6 := Lib.hid (And.intro hrow hmN)
        have HP := Lib.hid (resolve_perm n (turned_perm n.attrs k))
        clear hx htk hg2 hrow hvm hmN
        go_wp2_with (first
          | (with_reducible refine wpList_load_agg rfl 36 _ rfl _ _ _ rfl [.string n.op, .string n.name, .slice A1 n.ins.length k1, .slice A2 n.outs.length k2, vm] Tryd.underlying36 rfl (by kernel_rfl) (At.of_row HG6.out.1) ?_))
        refine (HRes.out _ _ wr (HT.out.1.ext HIr.out.below) HG6.out.2).mono ?_
        rw [HP.out, HR1.out.1, HR1.out.2.1, HR1.out.2.2]
        rintro e w6 ⟨ss2, rfl, hS, hb⟩
        have hsl : ss2.length = 36 := hS.len
        have hso : ∀ u ∈ ss2, u.oneCell' = true := (inferInstance : Rep SettingD).one hS
        have HS2 := Lib.hid (And.intro hsl hso)
        have HSD2 := Lib.hid hS
        have HI6 := Lib.hid (HIr.out.next hb)
        have h26 : Below w2.heap.size w2 w6 := HX3.out.1.trans ((HG.out.below.mono HX3.out.1.size).trans (hb.mono (Nat.le_trans HX3.out.1.size HG.out.below.size)))
        have H26 := Lib.hid h26
        have hsz6 := hb.size
        have H36 := Lib.hid (HG.out.below.trans (hb.mono HG.out.below.size))
        clear hb hS hsl hso h26
        go_wp2_with (first
          | (with_reducible refine wpList_alloc_row rfl 45 rfl zeroS zeroS_zero ?_)
          | (with_reducible refine wpList_store_agg rfl 45 _ _ rfl _ 0 ss2 rfl rfl 45 zeroS (heap_alloc_new _ _) (by rw [HS2.out.1]; kernel_rfl) (by rw [HS2.out.1, zeroS_len]; omega) HS2.out.2 ?_; have hX := laid_row w6 45 zeroS ss2 (by rw [HS2.out.1, zeroS_len]); generalize World.setRow _ _ _ = w7 at hX ⊢; have HI7 := Lib.hid (HI6.out.next hX.1); have HX7 := Lib.hid hX; clear hX; refine halt ?_))
        unfold Halt
        have h27 : Below w2.heap.size w2 w7 := H26.out.trans (HX7.out.1.mono H26.out.size)
        have h37 : Below w3.heap.size w3 w7 := H36.out.trans (HX7.out.1.mono H36.out.size)
        have hsr : w7.heap[w2.heap.size]? = some (.cells ss.toArray 45 (0, 0)) := (h37.block _ (by rw [HX3.out.2.2]; omega)).trans HX3.out.2.1
        have H27 := Lib.hid (And.intro h27 hsr)
        clear h27 h37 hsr hsz6
        go_wp2_with (first
          | (with_reducible refine wpList_load_agg_w (by kernel_rfl) 45 _ rfl _ w2.heap.size 0 rfl ss Tryd.underlying45 rfl (by rw [HS1.out.1]; kernel_rfl) (At.of_row H27.out.2) ?_)
          | (with_reducible refine wpList_load_agg_w (by kernel_rfl) 45 _ rfl _ w6.heap.size 0 rfl ss2 Tryd.underlying45 rfl (by rw [HS2.out.1]; kernel_rfl) (At.of_row HX7.out.2.1) ?_))
        have r1 : rep w7 (old w7.heap.size) ss s := Rep.more (Rep.keep (show rep w2 (fresh w1.heap.size w2.heap.size) ss s from HSD.out) (Keeps.fresh_below H27.out.1 (Nat.le_refl _))) (fresh_old H27.out.1.size)
        have r2 : rep w7 (old w7.heap.size) ss2 s := Rep.more (Rep.keep (show rep w6 (fresh wr.heap.size w6.heap.size) ss2 s from HSD2.out) (Keeps.fresh_below HX7.out.1 (Nat.le_refl _))) (fresh_old HX7.out.1.size)
        refine (same_any ss ss2 s w7 r1 r2).mono ?_
        rintro e w8 ⟨rfl, hb⟩
        have HB8 := Lib.hid (HI7.out.below.trans (hb.mono HI7.out.below.size))
        clear hb r1 r2
        go_wp2
        go_ret
        exact ⟨rfl, HB8.out⟩

end Go.Proofs.YtgbkhcmbmffljaaDoor
