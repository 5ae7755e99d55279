/-
  graph.Prune: a graph without the nodes on which nothing hangs, in new memory.
-/
import Derived.Test.YtgbkhcmbmffljaaDoorPGCp
import Derived.Test.YtgbkhcmbmffljaaDoorPGSndP
set_option linter.unusedSimpArgs false
set_option linter.unusedVariables false
namespace Go.Proofs.YtgbkhcmbmffljaaDoor
open Go.RowKit
open Rep (rep)
theorem keepD_snoc : ∀ (l : List GNodeD) (bs : List Bool) (z : GNodeD) (y : Bool), l.length = bs.length → keepD (l ++ [z]) (bs ++ [y]) = keepD l bs ++ (if y = true then [z] else [])
  | [], [], z, y, _ => by cases y <;> rfl
  | n :: l, b :: bs, z, y, h => by
    have ih := keepD_snoc l bs z y (by simpa using h)
    simp only [List.cons_append, keepD, ih]
    cases b <;> simp
  | [], b :: bs, z, y, h => by simp at h
  | n :: l, [], z, y, h => by simp at h
theorem keepD_le (l : List GNodeD) (bs : List Bool) : (keepD l bs).length ≤ l.length := (keep_sub l bs).length_le
/-- The row of the nodes that stay, while it grows. -/
structure PrI (lo : Nat) (w1 : World) (v : Value) (xs : List Value) (l : List GNodeD) (W : World) : Prop where
  below : Below w1.heap.size w1 W
  own : W.ownsRow w1.heap.size 68 40 v l.length xs
  ch : Chunks W (old lo) xs l
  le : lo ≤ w1.heap.size
section
variable {lo : Nat} {w1 W W' W9 : World} {v v9 : Value} {xs : List Value} {l : List GNodeD}
theorem PrI.next (h : PrI lo w1 v xs l W) (hb : Below W.heap.size W W') : PrI lo w1 v xs l W' :=
  ⟨h.below.trans (hb.mono h.below.size), own_below h.own hb, h.ch.keep (Keeps.old_below hb (Nat.le_trans h.le h.below.size)), h.le⟩
theorem PrI.push (h : PrI lo w1 v xs l W) {zc : List Value} {z : GNodeD} (hz : rep W (old lo) zc z) (hg : W.grownBy W9 v.ownBlock) (ho : W9.ownsRow w1.heap.size 68 40 v9 (l.length + 1) (xs ++ zc)) : PrI lo w1 v9 (xs ++ zc) (l ++ [z]) W9 := by
  have hk : ∀ k, k < w1.heap.size → W9.heap[k]? = W.heap[k]? := fun k hk => hg.block k (Nat.lt_of_lt_of_le hk h.below.size) (fun e => by
    have := (h.own.lt k e.symm).1
    omega)
  refine ⟨h.below.trans ⟨hg.os, hg.tape, hg.output, hg.size, hk⟩, by rw [List.length_append]; exact ho, (h.ch.keep (Keeps.of_block fun k hk' => hk k (Nat.lt_of_lt_of_le hk' h.le))).snoc (Rep.keep hz (Keeps.of_block fun k hk' => hk k (Nat.lt_of_lt_of_le hk' h.le))), h.le⟩
theorem PrI.rep (h : PrI lo w1 v xs l W) (hb : l.length * 432 ≤ reach) : rep W (old W.heap.size) [v] l :=
  rep_of_own h.own (h.ch.more (old_le (Nat.le_trans h.le h.below.size))) hb (fun k _ _ hk => hk)
/-- Behind a store into a block that is older than the row and younger than the nodes' data. -/
theorem PrI.set (h : PrI lo w1 v xs l W) {b : Nat} (h0 : lo ≤ b) (h1 : b < w1.heap.size) (cs : Array Value) (hb : l.length * 432 ≤ reach) : Rep.rep (W.setRow b cs) (old (W.setRow b cs).heap.size) [v] l := by
  refine rep_of_own (h.own.kept (grown_setRow W b cs) ?_) ((h.ch.keep (Keeps.of_block fun k hk => heap_setRow_other _ _ _ _ (Nat.ne_of_lt (Nat.lt_of_lt_of_le hk h0)))).more (old_le (by rw [size_setRow]; exact Nat.le_trans h.le h.below.size))) hb (fun k _ _ hk => hk)
  cases hv : v.ownBlock with
  | none => exact .inl rfl
  | some k =>
    refine .inr fun e => ?_
    have e' : k = b := Option.some.inj e
    have := (h.own.lt k hv).1
    omega
end
theorem Pair.put {w W : World} {t1 t2 : TypeId} {cs xs : List Value} (h : Pair w t1 t2 cs xs W) (ys : List Value) : Pair w t1 t2 ys xs (W.setRow w.heap.size ys.toArray) :=
  ⟨below_setRow' h.below (Nat.le_refl _) _, heap_setRow _ _ _ _ _ h.src, (heap_setRow_other _ _ _ _ (by omega)).trans h.res⟩
set_option maxRecDepth 100000 in
set_option maxHeartbeats 40000000 in
theorem prune_any (gcs : List Value) (g : GraphD) (w : World) (hr : rep w (old w.heap.size) gcs g) (hs1 : g.outputs.length ≤ 1048576) (hs2 : g.nodes.length ≤ 1048576) (hs3 : ∀ x ∈ g.nodes, x.ins.length ≤ 1048576) :
    Calls Tryd.prog 25 #[.agg gcs.toArray] w fun e w' => ∃ cs : List Value, e = .returned (.agg cs.toArray) ∧ rep w' (fresh w.heap.size w'.heap.size) cs (pruneD g) ∧ Below w.heap.size w w' := by
  have hr0 := Lib.hid hr
  obtain ⟨A1, k1, A2, k2, A3, k3, A4, k4, rfl, r1, r2, r3, r4⟩ := open_GraphD hr
  obtain ⟨n1, n1'⟩ := slice_bnd r1
  obtain ⟨n2, n2'⟩ := slice_bnd r2
  obtain ⟨MB, mc, ms, hv, -, -, hbt, hl, hch⟩ := open_slice r2
  simp only [Value.slice.injEq, true_and] at hv
  obtain ⟨rfl, rfl⟩ := hv
  have HM := Lib.hid (And.intro hl (And.intro hch (show g.nodes.length * 432 ≤ 140737488351232 from hbt)))
  have HR := Lib.hid (And.intro r1 (And.intro r2 (And.intro r3 (And.intro r4 (And.intro n1' n2')))))
  have HB := Lib.hid (And.intro hs1 (And.intro hs2 hs3))
  clear hr r1 r2 r3 r4 n1' n2' hl hch hbt hs1 hs3
  go_enter Tryd.func25, Tryd.ntmps25
  go_wp2_with (first
    | (with_reducible refine wpList_box_row rfl 63 _ rfl ([.slice A1 g.vals.length k1, .slice A2 g.nodes.length k2, .slice A3 g.inputs.length k3, .slice A4 g.outputs.length k4] : List Value) rfl ?_)
    | (with_reducible refine wpList_alloc_row rfl 63 rfl ([.slice none 0 0, .slice none 0 0, .slice none 0 0, .slice none 0 0] : List Value) zero4C ?_; have hX := pair_start w 63 63 ([.slice A1 g.vals.length k1, .slice A2 g.nodes.length k2, .slice A3 g.inputs.length k3, .slice A4 g.outputs.length k4] : List Value) ([.slice none 0 0, .slice none 0 0, .slice none 0 0, .slice none 0 0] : List Value); generalize World.alloc _ (.cells ([.slice none 0 0, .slice none 0 0, .slice none 0 0, .slice none 0 0] : List Value).toArray _) = W0 at hX ⊢; have HX := Lib.hid hX; clear hX; refine halt ?_))
  unfold Halt
  go_wp2_with (with_reducible refine wpList_load_agg rfl 63 _ rfl _ w.heap.size 0 rfl ([.slice A1 g.vals.length k1, .slice A2 g.nodes.length k2, .slice A3 g.inputs.length k3, .slice A4 g.outputs.length k4] : List Value) Tryd.underlying63 rfl (by kernel_rfl) (At.of_row HX.out.src) ?_)
  refine (live_any ([.slice A1 g.vals.length k1, .slice A2 g.nodes.length k2, .slice A3 g.inputs.length k3, .slice A4 g.outputs.length k4] : List Value) g W0 (HX.out.keeps hr0.out) HB.out.1 HB.out.2.1 HB.out.2.2).mono ?_
  rintro e w1 ⟨vL, rfl, hL, hb⟩
  obtain ⟨LA, lc, ls, rfl, hLc, hLm, -, hLl, hLh⟩ := open_slice hL
  have H1 := Lib.hid (HX.out.next hb)
  have hll : (liveD g).length = g.nodes.length := liveS_len _ _
  rw [hll] at hLc
  have HL := Lib.hid (And.intro hLl (And.intro hLh hll))
  have hPI : PrI w.heap.size w1 (.slice none 0 0) [] [] w1 := ⟨Below.refl _ _, World.ownsRow_nil _ _ _ _, rfl, H1.out.below.size⟩
  have HPI := Lib.hid hPI
  have c1 := cell_at (j := 1) H1.out.src rfl
  rw [hll]
  clear hL hb hLl hLh hll HX hPI
  go_wp2_with fail
  clear c1
  go_loopg [4, 12] g.nodes.length (fun gk s4 s12 wr => ∃ (pre post : List GNodeD) (xs : List Value), g.nodes = pre ++ post ∧ post.length = gk ∧ s12 = .int .i64 pre.length ∧ PrI w.heap.size w1 s4 xs (keepD pre ((liveD g).take pre.length)) wr)
  case atStart => exact ⟨[], g.nodes, [], rfl, rfl, rfl, HPI.out⟩
  case round =>
    obtain ⟨pre, post, xs, hpp, hpo, rfl, hI⟩ := hrel
    have HI := Lib.hid hI
    clear hI
    cases gk with
    | zero =>
      have hp0 : post = [] := List.length_eq_zero_iff.1 hpo
      subst hp0
      clear hpo
      obtain ⟨hge, hpl⟩ := split_end hpp
      have hI' := HI.out
      rw [hpl, List.take_of_length_le (by rw [HL.out.2.2]; exact Nat.le_refl _)] at hI'
      replace hpl := Lib.hid hpl
      have hkl : (keepD g.nodes (liveD g)).length ≤ g.nodes.length := keepD_le _ _
      have hkb : (keepD g.nodes (liveD g)).length * 432 ≤ reach := by have := HM.out.2.2; show _ * 432 ≤ 140737488351232; omega
      obtain ⟨A9, c9, hA9⟩ := slice_form (hI'.rep hkb)
      simp only [List.cons.injEq, and_true] at hA9
      subst hA9
      have HI9 := Lib.hid (And.intro hI' hkb)
      have H9 := Lib.hid (H1.out.next hI'.below)
      have hlt := H1.out.lt
      have hset := hI'.set (b := w.heap.size) (Nat.le_refl _) (by omega) ([.slice A1 g.vals.length k1, .slice A9 (keepD g.nodes (liveD g)).length c9, .slice A3 g.inputs.length k3, .slice A4 g.outputs.length k4] : List Value).toArray hkb
      have hpr := H9.out.put ([.slice A1 g.vals.length k1, .slice A9 (keepD g.nodes (liveD g)).length c9, .slice A3 g.inputs.length k3, .slice A4 g.outputs.length k4] : List Value)
      have HS := Lib.hid (And.intro hset hpr)
      clear hpp hI' hkl hkb hset hpr
      go_wp2_with ((with_reducible refine wpList_store_field rfl 61 _ _ rfl w.heap.size 1 (.slice A9 (keepD g.nodes (liveD g)).length c9) rfl rfl rfl (by kernel_rfl) 63 ([.slice A1 g.vals.length k1, .slice A2 g.nodes.length k2, .slice A3 g.inputs.length k3, .slice A4 g.outputs.length k4] : List Value) H9.out.src (of_decide_eq_true (by kernel_rfl)) ?_); (change wpList _ _ _ _ _ (wr.setRow w.heap.size ([.slice A1 g.vals.length k1, .slice A9 (keepD g.nodes (liveD g)).length c9, .slice A3 g.inputs.length k3, .slice A4 g.outputs.length k4] : List Value).toArray)); have hY := HS.out; generalize World.setRow _ _ _ = v5 at hY ⊢; have HY := Lib.hid hY; clear hY; refine halt ?_)
      unfold Halt
      have hg : rep v5 (old v5.heap.size) ([.slice A1 g.vals.length k1, .slice A9 (keepD g.nodes (liveD g)).length c9, .slice A3 g.inputs.length k3, .slice A4 g.outputs.length k4] : List Value) (pruneD g) := shut_GraphD (a := pruneD g) (c0 := [_]) (HY.out.2.keeps HR.out.1) (c1 := [_]) HY.out.1 (c2 := [_]) (HY.out.2.keeps HR.out.2.2.1) (c3 := [_]) (HY.out.2.keeps HR.out.2.2.2.1)
      have HG := Lib.hid hg
      clear hg
      go_wp2_with (with_reducible refine wpList_load_agg rfl 63 _ rfl _ w.heap.size 0 rfl ([.slice A1 g.vals.length k1, .slice A9 (keepD g.nodes (liveD g)).length c9, .slice A3 g.inputs.length k3, .slice A4 g.outputs.length k4] : List Value) Tryd.underlying63 rfl (by kernel_rfl) (At.of_row HY.out.2.src) ?_)
      refine (copy_any ([.slice A1 g.vals.length k1, .slice A9 (keepD g.nodes (liveD g)).length c9, .slice A3 g.inputs.length k3, .slice A4 g.outputs.length k4] : List Value) (pruneD g) v5 HG.out).mono ?_
      rintro e v6 ⟨cs, rfl, hc, hb⟩
      have hcl : cs.length = 4 := Rep.len hc
      have hco : ∀ u ∈ cs, u.oneCell' = true := Rep.one hc
      have h6 := HY.out.2.next hb
      have h5 := HY.out.2.lt
      have ho := h6.out cs hcl
      have hr9 := new_more (new_row hc h5 (([.slice none 0 0, .slice none 0 0, .slice none 0 0, .slice none 0 0] : List Value).take 0 ++ cs ++ ([.slice none 0 0, .slice none 0 0, .slice none 0 0, .slice none 0 0] : List Value).drop (0 + cs.length)).toArray) (show w.heap.size ≤ v5.heap.size by omega)
      have HE := Lib.hid (And.intro ho hr9)
      have HC := Lib.hid (And.intro hcl (And.intro hco h6.res))
      clear hc hb hcl hco h6 h5 ho hr9 hlt
      go_wp2_with ((with_reducible refine wpList_store_agg rfl 63 _ _ rfl (w.heap.size + 1) 0 cs rfl rfl 63 ([.slice none 0 0, .slice none 0 0, .slice none 0 0, .slice none 0 0] : List Value) HC.out.2.2 (by rw [HC.out.1]; kernel_rfl) (by rw [HC.out.1]; decide) HC.out.2.1 ?_); have hE := HE.out; generalize World.setRow _ _ _ = w9 at hE ⊢; have HR9 := Lib.hid hE; clear hE; refine halt ?_)
      unfold Halt
      go_wp2
      refine bodyPost_ret (results_cell_row rfl _ _ (w.heap.size + 1) 63 _ (0, 0) _ (by kernel_rfl) HR9.out.1.2 Tryd.underlying63 rfl (by rw [List.size_toArray, HC.out.1]; kernel_rfl)) (by kernel_rfl) ⟨_, rfl, HR9.out.2, HR9.out.1.1⟩
    | succ gk =>
      cases post with
      | nil => cases hpo
      | cons z post =>
        obtain ⟨hz, hlt, hpp', hpl⟩ := split_at hpp
        obtain ⟨b2, o2, zc, rfl, hbB, hrz, hcell⟩ := elem_at HM.out.1 HM.out.2.1 (by decide) hz
        have hat : At wr b2 (o2 + pre.length * 40) zc := fun j u hu => by
          have h1 := (hcell j u hu).1
          rw [← Nat.add_assoc] at h1
          exact (HI.out.below.cell (p := ⟨b2, o2 + pre.length * 40 + j, none⟩) (Nat.lt_of_lt_of_le hbB (by have := H1.out.lt; omega))).trans ((H1.out.below.cell (p := ⟨b2, o2 + pre.length * 40 + j, none⟩) hbB).trans h1)
        obtain ⟨y, hy⟩ : ∃ y, (liveD g)[pre.length]? = some y := ⟨_, List.getElem?_eq_getElem (by rw [HL.out.2.2]; exact hlt)⟩
        obtain ⟨b3, o3, yc, rfl, hbY, hry, hcy⟩ := elem_at HL.out.1 HL.out.2.1 (by decide) hy
        have d0 : w1.cell? ⟨b3, o3 + pre.length, none⟩ = some (.bool y) := cell_of_elem (α := Bool) rfl hcy (one_bool hry)
        have hkp := keepD_snoc pre ((liveD g).take pre.length) z y (by rw [List.length_take, HL.out.2.2]; omega)
        have htk : (liveD g).take pre.length ++ [y] = (liveD g).take (pre.length + 1) := by rw [List.take_add_one, hy]; rfl
        rw [htk] at hkp
        have hkl : (keepD pre ((liveD g).take pre.length)).length ≤ pre.length := keepD_le _ _
        have hlay := node_lay hrz
        have HQ := Lib.hid (And.intro hat (And.intro (And.intro (Rep.keep hrz (Keeps.old_below H1.out.below (Nat.le_refl _))) hlay) (And.intro d0 (And.intro hbY.2 hkp))))
        have hk0 : (0 : Int) ≤ (pre.length : Int) := Int.natCast_nonneg _
        have hk1 : (pre.length : Int) < (g.nodes.length : Int) := by omega
        have HP := Lib.hid (And.intro hpp' (And.intro hpl (And.intro hlt (And.intro hpo hkl))))
        clear hpp hpp' hpl hpo hz hcell hbB hrz hat hy hbY hry hcy d0 hkp htk hlay hkl
        go_wp2_with (first
          | (with_reducible refine wpList_load_agg rfl 68 _ rfl _ _ _ rfl zc Tryd.underlying68 rfl HQ.out.2.1.2.1 HQ.out.1 ?_)
          | (with_reducible refine wpList_alloc_row rfl 68 rfl zeroGN zeroGN_zero ?_)
          | (with_reducible refine wpList_store_agg rfl 68 _ _ rfl _ 0 zc rfl rfl 68 zeroGN (heap_alloc_new _ _) HQ.out.2.1.2.1 HQ.out.2.1.2.2.1 HQ.out.2.1.2.2.2.2 ?_; have hY := laid_row wr 68 zeroGN zc HQ.out.2.1.2.2.2.1; generalize World.setRow _ _ _ = v2 at hY ⊢; have HY := Lib.hid hY; clear hY; refine halt ?_))
        unfold Halt
        have H2 := Lib.hid (HI.out.next HY.out.1)
        have d0 : v2.cell? ⟨b3, o3 + pre.length, none⟩ = some (.bool y) := (H2.out.below.cell (p := ⟨b3, o3 + pre.length, none⟩) HQ.out.2.2.2.1).trans HQ.out.2.2.1
        cases y with
        | false =>
          go_wp2
          go_roundg gk
          case measure => omega
          case rel =>
            refine ⟨pre ++ [z], post, xs, HP.out.1, by have := HP.out.2.2.2.1; simpa using this, by rw [HP.out.2.1]; go_num, ?_⟩
            rw [HP.out.2.1, HQ.out.2.2.2.2]
            simpa using H2.out
        | true =>
          have hb5 : Below v2.heap.size v2 (v2.alloc (.cells zc.toArray 68)) := (Below.refl _ _).alloc (Nat.le_refl _) _
          have H5 := H2.out.next hb5
          have hz5 := Rep.keep HQ.out.2.1.1 (Keeps.old_below H5.below H5.le)
          have hbt : ((keepD pre ((liveD g).take pre.length)).length + 1) * 432 ≤ 140737488355328 := by have := HM.out.2.2; have := HP.out.2.2.2.2; have := HP.out.2.2.1; omega
          have hmx : (keepD pre ((liveD g).take pre.length)).length + 1 ≤ maxLen := by unfold maxLen; omega
          have HD := Lib.hid (And.intro H5.own (And.intro (lies_new v2 zc 68) (And.intro H5.below.size (And.intro hbt (And.intro hmx (And.intro H5 hz5))))))
          clear hb5 H5 hz5 hbt hmx
          obtain ⟨i0, hi0, hz0, hz1, hz2⟩ := info_parts (show (Tryd.prog.info? 68).map (fun i => (i.zero, i.size, i.bytes)) = some (some (.agg zeroGN.toArray), 40, 432) by kernel_rfl)
          have HZ := Lib.hid (And.intro hi0 (And.intro hz0 (And.intro hz1 hz2)))
          clear hi0 hz0 hz1 hz2
          go_wp2_with (first
            | (with_reducible refine wpList_load_agg rfl 68 _ rfl _ wr.heap.size 0 rfl zc Tryd.underlying68 rfl HQ.out.2.1.2.1 (At.of_row HY.out.2.1) ?_)
            | (refine wpList_layC rfl (.slice (some ⟨v2.heap.size, 0, none⟩) 1 1) (.cells zc.toArray 68) (layC_one zc HQ.out.2.1.2.2.2.1 _ rfl rfl) ?_)
            | (at_builtin; refine wpList_append_lies _ rfl _ _ 61 rfl w1.heap.size 68 i0 (.agg zeroGN.toArray) 40 432 Tryd.underlying61 HZ.out.1 HZ.out.2.1 HZ.out.2.2.1 HZ.out.2.2.2 (by kernel_rfl) (by decide) _ (keepD pre ((liveD g).take pre.length)).length xs rfl HD.out.1 (old (v2.heap.size + 1)) (some ⟨v2.heap.size, 0, none⟩) 1 1 zc rfl HQ.out.2.1.2.2.2.1 HD.out.2.1 HQ.out.2.1.2.2.2.2 HD.out.2.2.2.2.1 HD.out.2.2.2.1 HD.out.2.2.1 ?_; intro v9 W9 ho9 hg9 hb9; have HK := Lib.hid (HD.out.2.2.2.2.2.1.push HD.out.2.2.2.2.2.2 hg9 ho9); clear ho9 hg9 hb9))
          go_wp2
          go_roundg gk
          case measure => omega
          case rel =>
            refine ⟨pre ++ [z], post, xs ++ zc, HP.out.1, by have := HP.out.2.2.2.1; simpa using this, by rw [HP.out.2.1]; go_num, ?_⟩
            rw [HP.out.2.1, HQ.out.2.2.2.2]
            simpa using HK.out
end Go.Proofs.YtgbkhcmbmffljaaDoor
