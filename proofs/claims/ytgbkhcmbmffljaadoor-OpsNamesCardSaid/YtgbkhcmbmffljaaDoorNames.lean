/-
  The law OpsNames: its walk.
-/
import Derived.Test.YtgbkhcmbmffljaaDoorRefB
import Derived.Test.YtgbkhcmbmffljaaDoorAwake
set_option linter.unusedSimpArgs false
namespace Go.Proofs.YtgbkhcmbmffljaaDoor
open Go.RowKit
open Rep (rep)

theorem numbers_names : ((List.range 80).all fun k => decide (numberD (findD ((k : Int) + 1)).name = (k : Int) + 1)) = true := by decide +kernel
theorem number_name (op : Int) (h : (findD op).name ≠ ⟨#[]⟩) : numberD (findD op).name = op := by
  by_cases ho : op < 1 ∨ op > 80
  · rw [findD_out ho] at h
    exact absurd rfl h
  · obtain ⟨k, rfl, hk⟩ := find_row (op := op) (by omega) (by omega)
    have := List.all_eq_true.1 numbers_names k (List.mem_range.2 hk)
    simpa using this

set_option maxRecDepth 100000 in
set_option maxHeartbeats 40000000 in
theorem names_law_any (HRes : Hid ResolveLaw) (op : Int) (hI : I64 op) (name : ByteArray) (w : World) (ht : Tab w) :
    Calls Tryd.prog 3 #[.int .i64 op, .string name] w fun e w' => e = .returned (.bool true) ∧ Below w.heap.size w w' := by
  have HT := Lib.hid (And.intro ht hI)
  obtain ⟨hso, hsl⟩ := sorts_ok op
  have hN : (namesD op).length = (sortsD (findD op)).length := by simp [namesD]
  have hR : (rowsD (findD op)).length = (sortsD (findD op)).length := by simp [rowsD]
  have hno := number_name op
  have hNn : namesD op = (sortsD (findD op)).map (·.name) := rfl
  have hRn : rowsD (findD op) = (sortsD (findD op)).map (fun x => ⟨x.name, sortName x.letter, x.must⟩) := rfl
  obtain ⟨r, hr⟩ : ∃ r, findD op = r := ⟨_, rfl⟩
  rw [hr] at hso hsl hN hR hno hNn hRn
  have HE := Lib.hid hr
  have HN := Lib.hid (And.intro hN (And.intro hR (And.intro hno (And.intro hNn (And.intro hRn hso)))))
  clear ht hI hr hN hR hno hNn hRn hso
  go_enter Tryd.func3, Tryd.ntmps3
  go_wp2_with fail
  refine (awake_any HRes w HT.out.1).mono ?_
  rintro e w1 ⟨rfl, hb⟩
  have HB1 := Lib.hid hb
  clear hb
  go_wp2_with fail
  refine (arity_any op w1 HT.out.2).mono ?_
  rw [HE.out]
  rintro e w2 ⟨rfl, hb⟩
  have HB2 := Lib.hid (HB1.out.trans (hb.mono HB1.out.size))
  clear hb
  go_wp2_with fail
  refine (arityR_any op w2).mono ?_
  rw [HE.out]
  rintro e w3 ⟨rfl, hb⟩
  have HB3 := Lib.hid (HB2.out.trans (hb.mono HB2.out.size))
  clear hb
  go_wp2_with fail
  refine (attrs_any op w3 (HT.out.1.ext HB3.out) HT.out.2).mono ?_
  rintro e w4 ⟨v14, rfl, hown, hb⟩
  have hrep : rep w4 (old w4.heap.size) [v14] (namesD op) := rep_of_own (e := 9) (xs := (namesD op).map Value.string) hown (chunks_str _ (by rw [HN.out.2.2.2.1]; intro s hs; obtain ⟨x, hx, rfl⟩ := List.mem_map.1 hs; have := (HN.out.2.2.2.2.2 x hx).1; unfold reach; omega)) (by rw [HN.out.1]; unfold reach; simp only [Rep.bytes]; omega) (fun g _ _ h2 => h2)
  obtain ⟨A4, c4, xs4, rfl, hnc4, hcm4, -, hl4, hch4⟩ := open_slice hrep
  have HB4 := Lib.hid (HB3.out.trans (hb.mono HB3.out.size))
  have HL4 := Lib.hid (And.intro hl4 hch4)
  rw [HN.out.1] at hnc4 ⊢
  clear hb hown hrep hl4 hch4
  go_wp2_with fail
  refine (rowsR_any op w4).mono ?_
  rw [HE.out]
  rintro e w5 ⟨v15, rfl, hrep, hb⟩
  obtain ⟨A5, c5, xs5, rfl, hnc5, hcm5, -, hl5, hch5⟩ := open_slice hrep
  have HB5 := Lib.hid (HB4.out.trans (hb.mono HB4.out.size))
  have HL5 := Lib.hid (And.intro hl5 hch5)
  have HB45 := Lib.hid hb
  rw [HN.out.2.1] at hnc5 ⊢
  clear hb hrep hl5 hch5
  go_wp2_with fail
  refine (name_any op w5 HT.out.2).mono ?_
  rw [HE.out]
  rintro e w6 ⟨rfl, hb⟩
  have HB6 := Lib.hid (HB5.out.trans (hb.mono HB5.out.size))
  have HB56 := Lib.hid hb
  clear hb
  go_wp2_with fail
  refine (nameR_any op w6).mono ?_
  rw [HE.out]
  rintro e w7 ⟨rfl, hb⟩
  have HB7 := Lib.hid (HB6.out.trans (hb.mono HB6.out.size))
  have HB67 := Lib.hid hb
  clear hb
  go_wp2_with fail
  refine (number_any name w7).mono ?_
  rintro e w8 ⟨rfl, hb⟩
  have HB8 := Lib.hid (HB7.out.trans (hb.mono HB7.out.size))
  have HB78 := Lib.hid hb
  clear hb
  go_wp2_with fail
  refine (numberR_any name w8).mono ?_
  rintro e w9 ⟨rfl, hb⟩
  have HB9 := Lib.hid (HB8.out.trans (hb.mono HB8.out.size))
  have h59 : Below w5.heap.size w5 w9 := (HB56.out.trans (HB67.out.mono HB56.out.size)).trans ((HB78.out.mono (Nat.le_trans HB56.out.size HB67.out.size)).trans (hb.mono (Nat.le_trans (Nat.le_trans HB56.out.size HB67.out.size) HB78.out.size)))
  have H59 := Lib.hid h59
  clear hb h59
  go_wp2_with fail
  go_loopw [16] (fun i wr => ∃ pre post : List SortD, sortsD r = pre ++ post ∧ i = .int .i64 pre.length ∧ Below w9.heap.size w9 wr)
    (fun i _ => (sortsD r).length - (intOf i).toNat)
  case atStart => exact ⟨[], sortsD r, rfl, rfl, Below.refl _ _⟩
  case round =>
    obtain ⟨pre, post, hpp, rfl, hbel⟩ := hrel
    cases post with
    | cons z post =>
      obtain ⟨hz, hlt, hpp', hpl⟩ := split_at hpp
      obtain ⟨b4, o4, xc4, rfl, hbB4, hrz4, hcell4⟩ := elem_at (i := pre.length) (a := z.name) HL4.out.1 HL4.out.2 (by decide) (by rw [HN.out.2.2.2.1, List.getElem?_map, hz]; rfl)
      obtain ⟨b5, o5, xc5, rfl, hbB5, hrz5, hcell5⟩ := elem_at (i := pre.length) (a := (⟨z.name, sortName z.letter, z.must⟩ : AttrRowD)) HL5.out.1 HL5.out.2 (by decide) (by rw [HN.out.2.2.2.2.1, List.getElem?_map, hz]; rfl)
      obtain ⟨rfl, -⟩ := hrz4
      obtain ⟨rfl, -, -⟩ := open_AttrRowD hrz5
      have h49 : Below w4.heap.size w4 wr := (HB45.out.trans (H59.out.mono HB45.out.size)).trans (hbel.mono (Nat.le_trans HB45.out.size H59.out.size))
      have h59 : Below w5.heap.size w5 wr := H59.out.trans (hbel.mono H59.out.size)
      have k4 : wr.cell? ⟨b4, o4 + pre.length, none⟩ = some (.string z.name) := by
        have h1 := (hcell4 0 _ rfl).1
        rw [show o4 + (pre.length * Rep.size ByteArray + 0) = o4 + pre.length from by simp [Rep.size]] at h1
        exact (h49.cell (p := ⟨b4, o4 + pre.length, none⟩) hbB4).trans h1
      have k5 : wr.cell? ⟨b5, o5 + pre.length * 3, none⟩ = some (.string z.name) := by
        have h1 := (hcell5 0 _ rfl).1
        rw [show o5 + (pre.length * Rep.size AttrRowD + 0) = o5 + pre.length * 3 from by simp [Rep.size]] at h1
        exact (h59.cell (p := ⟨b5, o5 + pre.length * 3, none⟩) hbB5).trans h1
      have H := Lib.hid (And.intro hpp' (And.intro hpl hbel))
      have hk0 : (0 : Int) ≤ (pre.length : Int) := Int.natCast_nonneg _
      have hk1 : (pre.length : Int) < ((sortsD r).length : Int) := by omega
      clear hpp hpp' hpl hz hbel hcell4 hcell5 h49 h59 hbB4 hbB5 hrz5
      go_wp2_with fail
      go_quiet (fail)
      go_wp2
      go_roundw
      case rel =>
        obtain ⟨hpp', hpl, hbel⟩ := H.out
        exact ⟨pre ++ [z], post, hpp', by rw [hpl]; go_num, below_drewN hbel _⟩
      case measure => simp [intOf]; omega
    | nil =>
      obtain ⟨hge, hpl⟩ := split_end hpp
      subst hpl
      have HBr := Lib.hid (HB9.out.trans (hbel.mono HB9.out.size))
      clear hpp hge hbel
      go_wp2_with fail
      refine (name_any op wr HT.out.2).mono ?_
      rw [HE.out]
      obtain ⟨nm, hnm⟩ : ∃ nm, r.name = nm := ⟨_, rfl⟩
      have hno := HN.out.2.2.1
      rw [hnm] at hno ⊢
      have HNO := Lib.hid hno
      clear hno hnm
      rintro e w10 ⟨rfl, hb⟩
      have HB10 := Lib.hid (HBr.out.trans (hb.mono HBr.out.size))
      clear hb
      by_cases hn : nm = ⟨#[]⟩
      · subst hn
        go_wp2
        go_ret
        exact ⟨rfl, HB10.out⟩
      · have hb1 : (nm.toList == ([] : List UInt8)) = false := by rw [beq_lit]; exact decide_eq_false hn
        have HNN := Lib.hid hn
        clear hn
        go_wp2_with fail
        refine (number_any nm w10).mono ?_
        rw [HNO.out HNN.out]
        rintro e w11 ⟨rfl, hb⟩
        have HB11 := Lib.hid (HB10.out.trans (hb.mono HB10.out.size))
        clear hb
        go_wp2
        go_ret
        exact ⟨rfl, HB11.out⟩
end Go.Proofs.YtgbkhcmbmffljaaDoor
