/-
  The reference of chapter 08: find, counts.
-/
import Derived.Test.YtgbkhcmbmffljaaDoorRefE
import Derived.Test.YtgbkhcmbmffljaaDoorRes
import Derived.Test.YtgbkhcmbmffljaaDoorRefB
import Derived.Test.YtgbkhcmbmffljaaDoorGrow
set_option linter.unusedSimpArgs false
namespace Go.Proofs.YtgbkhcmbmffljaaDoor
open Go.RowKit
open Rep (rep)

/-- The place of the attribute of a name; -1: there is none; -2: there are two. -/
def findI (l : List AttrD) (s : ByteArray) : Int := if 1 < countD l s then -2 else if countD l s = 0 then -1 else ((l.findIdx fun a => decide (a.name = s) : Nat) : Int)
theorem count_app (l m : List AttrD) (s : ByteArray) : countD (l ++ m) s = countD l s + countD m s := by
  unfold countD
  rw [List.filter_append, List.length_append]
theorem count_zero {l : List AttrD} {s : ByteArray} (h : countD l s = 0) : ∀ a ∈ l, ¬ a.name = s := fun a ha e => by
  have : 0 < countD l s := by unfold countD; exact List.length_pos_of_mem (List.mem_filter.2 ⟨ha, by simp [e]⟩)
  omega
theorem idx_app {l : List AttrD} {s : ByteArray} {z : AttrD} (m : List AttrD) (h : countD l s = 0) (hz : z.name = s) : (l ++ z :: m).findIdx (fun a => decide (a.name = s)) = l.length := by
  have hno : ¬ l.findIdx (fun a => decide (a.name = s)) < l.length := fun hlt => by
    obtain ⟨x, hx, hp⟩ := List.findIdx_lt_length.1 hlt
    exact count_zero h x hx (by simpa using hp)
  rw [List.findIdx_append, if_neg hno]
  simp [List.findIdx_cons, hz]
theorem find_place {l : List AttrD} {s : ByteArray} (h : countD l s = 1) : ∃ (j : Nat) (a : AttrD), findI l s = (j : Int) ∧ l[j]? = some a ∧ foundD l s = some a ∧ a.name = s ∧ j < l.length := by
  have hlt : l.findIdx (fun a => decide (a.name = s)) < l.length := by
    refine List.findIdx_lt_length.2 ?_
    cases hf : l.filter (fun a => decide (a.name = s)) with
    | nil => unfold countD at h; rw [hf] at h; cases h
    | cons x r =>
      have : x ∈ l.filter (fun a => decide (a.name = s)) := by rw [hf]; simp
      obtain ⟨h1, h2⟩ := List.mem_filter.1 this
      exact ⟨x, h1, h2⟩
  have hn : (l[l.findIdx (fun a => decide (a.name = s))]).name = s := by
    have := List.findIdx_getElem (w := hlt)
    simpa using this
  have hj : l[l.findIdx (fun a => decide (a.name = s))]? = some (l[l.findIdx (fun a => decide (a.name = s))]) := List.getElem?_eq_getElem hlt
  refine ⟨_, _, ?_, hj, found_once h hj hn, hn, hlt⟩
  unfold findI
  rw [if_neg (by omega), if_neg (by omega)]

set_option maxRecDepth 100000 in
set_option maxHeartbeats 4000000 in
theorem findR_any (l : List AttrD) (v : Value) (s : ByteArray) (w : World) (hr : rep w (old w.heap.size) [v] l) :
    Calls Tryd.prog 44 #[v, .string s] w fun e w' => e = .returned (.int .i64 (findI l s)) ∧ w = w' := by
  obtain ⟨A, c, xs, rfl, hnc, hcm, -, hl, hch⟩ := open_slice hr
  have HL := Lib.hid (And.intro hl hch)
  clear hr hl hch
  go_enter Tryd.func44, Tryd.ntmps44
  go_wp2_with fail
  go_loop [5, 6] (fun t i => ∃ (pre post : List AttrD) (x : Int), l = pre ++ post ∧ i = .int .i64 pre.length ∧ t = .int .i64 x ∧ (countD pre s = 0 ∧ x = -1 ∨ countD pre s = 1 ∧ findI pre s = x ∧ 0 ≤ x ∧ ∀ m, findI (pre ++ m) s = x ∨ 1 < countD (pre ++ m) s)) (fun _ i => l.length - (intOf i).toNat)
  case atStart => exact ⟨[], l, -1, rfl, rfl, rfl, .inl ⟨rfl, rfl⟩⟩
  case round =>
    obtain ⟨pre, post, x, hpp, rfl, rfl, hx⟩ := hrel
    cases post with
    | cons z post =>
      obtain ⟨hz, hlt, hpp', hpl⟩ := split_at hpp
      obtain ⟨b, o, acs, rfl, -, hrz, hcell⟩ := elem_at HL.out.1 HL.out.2 (by decide) hz
      have k4 : w.cell? ⟨b, o + pre.length * 12, none⟩ = some (.string z.name) := by
        have h1 := (hcell 0 _ (attr_cell0 hrz).1).1
        rwa [show o + (pre.length * Rep.size AttrD + 0) = o + pre.length * 12 from by simp [Rep.size]] at h1
      have hk0 : (0 : Int) ≤ (pre.length : Int) := Int.natCast_nonneg _
      have hk1 : (pre.length : Int) < (l.length : Int) := by omega
      have H := Lib.hid (And.intro hpp (And.intro hpp' (And.intro hpl hx)))
      clear hpp hpp' hpl hz hcell hrz
      by_cases hn : z.name = s
      · have hb : (z.name.toList == s.toList) = true := by rw [beq_str]; exact decide_eq_true hn
        have HN := Lib.hid hn
        clear hn
        by_cases h0 : 0 ≤ x
        · have h2 : 1 < countD l s := by
            rw [H.out.1, count_app, count_cons, if_pos HN.out]
            rcases hx with ⟨_, h⟩ | ⟨h, _⟩ <;> omega
          have hf : findI l s = -2 := by unfold findI; rw [if_pos h2]
          have HF := Lib.hid hf
          clear hx h2 hf
          go_wp2
          go_ret
          exact ⟨by rw [HF.out]; rfl, rfl⟩
        · have hc : countD pre s = 0 := by rcases hx with ⟨h, _⟩ | ⟨_, _, h, _⟩ <;> omega
          have HC := Lib.hid hc
          clear hx hc
          go_wp2
          go_round
          case rel =>
            obtain ⟨hpp, hpp', hpl, -⟩ := H.out
            have hk : ∀ m, findI (pre ++ z :: m) s = (pre.length : Int) ∨ 1 < countD (pre ++ z :: m) s := fun m => by
              by_cases hm : 1 < countD (pre ++ z :: m) s
              · exact .inr hm
              · refine .inl ?_
                unfold findI
                rw [if_neg hm, if_neg (by rw [count_app, count_cons, if_pos HN.out]; omega), idx_app m HC.out HN.out]
            have h1 : countD (pre ++ [z]) s = 1 := by rw [count_snoc, HC.out, if_pos HN.out]
            refine ⟨pre ++ [z], post, (pre.length : Int), hpp', by rw [hpl]; go_num, rfl, .inr ⟨h1, ?_, by omega, fun m => ?_⟩⟩
            · rcases hk [] with h | h
              · exact h
              · omega
            · rw [List.append_assoc]; exact hk m
          case measure => simp [intOf]; omega
      · have hb : (z.name.toList == s.toList) = false := by rw [beq_str]; exact decide_eq_false hn
        have HN := Lib.hid hn
        clear hn hx
        go_wp2
        go_round
        case rel =>
          obtain ⟨hpp, hpp', hpl, hx⟩ := H.out
          have hc : countD (pre ++ [z]) s = countD pre s := by rw [count_snoc, if_neg HN.out]; omega
          refine ⟨pre ++ [z], post, x, hpp', by rw [hpl]; go_num, rfl, ?_⟩
          rcases hx with ⟨h1, h2⟩ | ⟨h1, h2, h3, h4⟩
          · exact .inl ⟨by rw [hc, h1], h2⟩
          · refine .inr ⟨by rw [hc, h1], ?_, h3, fun m => by rw [List.append_assoc]; exact h4 _⟩
            rcases h4 [z] with h | h
            · exact h
            · omega
        case measure => simp [intOf]; omega
    | nil =>
      obtain ⟨hge, hpl⟩ := split_end hpp
      subst hpl
      have hf : findI pre s = x := by
        rcases hx with ⟨h1, h2⟩ | ⟨_, h2, _⟩
        · unfold findI; rw [if_neg (by omega), if_pos h1, h2]
        · exact h2
      have HF := Lib.hid hf
      clear hpp hx hf
      go_wp2
      go_ret
      exact ⟨by rw [HF.out]; rfl, rfl⟩

set_option maxRecDepth 100000 in
set_option maxHeartbeats 8000000 in
theorem countsR_any (op : Int) (cs : List Value) (n : NodeD) (w : World) (hr : rep w (old w.heap.size) cs n) :
    Calls Tryd.prog 42 #[.int .i64 op, .agg cs.toArray] w fun e w' => e = .returned (.bool (countsD (findD op) n)) ∧ Below w.heap.size w w' := by
  obtain ⟨A1, k1, A2, k2, A3, k3, rfl, g0, g1, hi, ho, ha⟩ := open_NodeD hr
  obtain ⟨i1, i2⟩ := slice_bound hi
  obtain ⟨o1, o2⟩ := slice_bound ho
  obtain ⟨xi, li, ci⟩ := lies_of_slice hi
  obtain ⟨xo, lo, co⟩ := lies_of_slice ho
  have hok : 0 ≤ (findD op).least := by have := findD_ok op; unfold rowOk at this; simp only [Bool.and_eq_true, decide_eq_true_eq] at this; exact this.2
  have har := arityR_any op
  obtain ⟨r, hr2⟩ : ∃ r, findD op = r := ⟨_, rfl⟩
  rw [hr2] at hok
  simp only [hr2] at har
  rw [hr2]
  obtain ⟨q, hq⟩ : ∃ q, countsD r n = q := ⟨_, rfl⟩
  rw [hq]
  obtain ⟨la, hla⟩ : ∃ la, r.least = la := ⟨_, rfl⟩
  obtain ⟨mo, hmo⟩ : ∃ mo, r.most = mo := ⟨_, rfl⟩
  obtain ⟨lu, hlu⟩ : ∃ lu, r.out = lu := ⟨_, rfl⟩
  obtain ⟨mu, hmu⟩ : ∃ mu, r.mostOuts = mu := ⟨_, rfl⟩
  rw [hla] at hok
  simp only [hla, hmo, hlu, hmu] at har
  unfold countsD at hq
  rw [hla, hmo, hlu, hmu] at hq
  have HAR := Lib.hid har
  have HQ := Lib.hid hq
  have HLI := Lib.hid (And.intro li ci)
  have HLO := Lib.hid (And.intro lo co)
  clear hr g0 g1 hi ho ha li ci lo co har hq hr2 hla hmo hlu hmu
  go_enter Tryd.func42, Tryd.ntmps42
  go_wp2_with fail
  have hX : BoxInv w 36 [.string n.op, .string n.name, .slice A1 n.ins.length k1, .slice A2 n.outs.length k2, .slice A3 n.attrs.length k3] (w.alloc (.cells #[.string n.op, .string n.name, .slice A1 n.ins.length k1, .slice A2 n.outs.length k2, .slice A3 n.attrs.length k3] 36)) := box_start w _ _
  generalize World.alloc _ _ = W0 at hX ⊢
  have HX0 := Lib.hid hX
  clear hX
  refine (HAR.out W0).mono ?_
  rintro e w1 ⟨rfl, hb⟩
  have HX := Lib.hid (HX0.out.next hb)
  clear hb
  have k2' : w1.cell? ⟨w.heap.size, 2, none⟩ = some (.slice A1 n.ins.length k1) := cell_of_row _ _ _ _ _ _ HX.out.row
  have k3' : w1.cell? ⟨w.heap.size, 3, none⟩ = some (.slice A2 n.outs.length k2) := cell_of_row _ _ _ _ _ _ HX.out.row
  by_cases h1 : (n.ins.length : Int) < la
  · obtain rfl : q = false := by rw [← HQ.out, decide_eq_false (by omega : ¬ la ≤ (n.ins.length : Int))]; simp
    go_wp2
    go_ret
    exact ⟨rfl, HX.out.below⟩
  by_cases h2 : mo < (n.ins.length : Int)
  · obtain rfl : q = false := by rw [← HQ.out, decide_eq_false (by omega : ¬ (n.ins.length : Int) ≤ mo)]; simp
    go_wp2
    go_ret
    exact ⟨rfl, HX.out.below⟩
  by_cases h3 : (n.outs.length : Int) < lu
  · obtain rfl : q = false := by rw [← HQ.out, decide_eq_false (by omega : ¬ lu ≤ (n.outs.length : Int))]; simp
    go_wp2
    go_ret
    exact ⟨rfl, HX.out.below⟩
  by_cases h4 : mu < (n.outs.length : Int)
  · obtain rfl : q = false := by rw [← HQ.out, decide_eq_false (by omega : ¬ (n.outs.length : Int) ≤ mu)]; simp
    go_wp2
    go_ret
    exact ⟨rfl, HX.out.below⟩
  have hq : (!hasStr ⟨#[]⟩ (n.ins.take la.toNat) && !hasStr ⟨#[]⟩ n.outs) = q := by
    rw [← HQ.out, decide_eq_true (by omega : la ≤ (n.ins.length : Int)), decide_eq_true (by omega : (n.ins.length : Int) ≤ mo), decide_eq_true (by omega : lu ≤ (n.outs.length : Int)), decide_eq_true (by omega : (n.outs.length : Int) ≤ mu)]
    rfl
  obtain ⟨lan, rfl⟩ := Int.eq_ofNat_of_zero_le hok
  rw [Int.toNat_natCast] at hq
  have HQ2 := Lib.hid hq
  clear hq
  have htl : (n.ins.take lan).length = lan := by rw [List.length_take]; omega
  have HTL := Lib.hid htl
  clear htl
  go_wp2_with fail
  go_loop [9] (fun i => ∃ pre post : List ByteArray, n.ins.take lan = pre ++ post ∧ i = .int .i64 pre.length ∧ hasStr ⟨#[]⟩ pre = false) (fun i => lan - (intOf i).toNat)
  case atStart => exact ⟨[], n.ins.take lan, rfl, rfl, rfl⟩
  case round =>
    obtain ⟨pre, post, hpp, rfl, hno⟩ := hrel
    cases post with
    | cons z post =>
      obtain ⟨hz, hlt, hpp', hpl⟩ := split_at hpp
      rw [HTL.out] at hlt
      rw [List.getElem?_take_of_lt hlt] at hz
      obtain ⟨b, o, xc, rfl, hbB, hrz, hcell⟩ := elem_at HLI.out.1 HLI.out.2 (by decide) hz
      obtain ⟨rfl, -⟩ := hrz
      have k4 : w1.cell? ⟨b, o + pre.length, none⟩ = some (.string z) := (HX.out.below.cell (p := ⟨b, o + pre.length, none⟩) hbB).trans (cell_of_elem (α := ByteArray) rfl hcell rfl)
      have hk0 : (0 : Int) ≤ (pre.length : Int) := Int.natCast_nonneg _
      have hk1 : (pre.length : Int) < (n.ins.length : Int) := by omega
      have hk2 : (pre.length : Int) < (lan : Int) := by omega
      have H := Lib.hid (And.intro hpp (And.intro hpp' (And.intro hpl hno)))
      clear hpp hpp' hpl hz hcell hno hbB
      by_cases hn : z = ⟨#[]⟩
      · subst hn
        obtain rfl : q = false := by rw [← HQ2.out, H.out.1]; simp [hasStr]
        go_wp2
        go_ret
        exact ⟨rfl, HX.out.below⟩
      · have hb : (z.toList == ([] : List UInt8)) = false := by rw [beq_lit]; exact decide_eq_false hn
        have HN := Lib.hid hn
        clear hn
        go_wp2
        go_round
        case rel =>
          obtain ⟨hpp, hpp', hpl, hno⟩ := H.out
          refine ⟨pre ++ [z], post, hpp', by rw [hpl]; go_num, ?_⟩
          unfold hasStr at hno ⊢
          rw [List.any_append, hno]
          simp [HN.out]
        case measure => simp [intOf]; omega
    | nil =>
      obtain ⟨hge, hpl⟩ := split_end hpp
      have hge2 : ¬ (pre.length : Int) < (lan : Int) := by rw [HTL.out] at hge; omega
      have hq : (!hasStr ⟨#[]⟩ n.outs) = q := by rw [← HQ2.out, ← hpl, hno]; rfl
      have HQ3 := Lib.hid hq
      clear hpp hge hpl hno hq
      go_wp2_with fail
      go_loop [10] (fun i => ∃ pre post : List ByteArray, n.outs = pre ++ post ∧ i = .int .i64 pre.length ∧ hasStr ⟨#[]⟩ pre = false) (fun i => n.outs.length - (intOf i).toNat)
      case atStart => exact ⟨[], n.outs, rfl, rfl, rfl⟩
      case round =>
        obtain ⟨pre2, post2, hpp, rfl, hno⟩ := hrel
        cases post2 with
        | cons z post2 =>
          obtain ⟨hz, hlt, hpp', hpl⟩ := split_at hpp
          obtain ⟨b, o, xc, rfl, hbB, hrz, hcell⟩ := elem_at HLO.out.1 HLO.out.2 (by decide) hz
          obtain ⟨rfl, -⟩ := hrz
          have k4 : w1.cell? ⟨b, o + pre2.length, none⟩ = some (.string z) := (HX.out.below.cell (p := ⟨b, o + pre2.length, none⟩) hbB).trans (cell_of_elem (α := ByteArray) rfl hcell rfl)
          have hk0 : (0 : Int) ≤ (pre2.length : Int) := Int.natCast_nonneg _
          have hk1 : (pre2.length : Int) < (n.outs.length : Int) := by omega
          have H := Lib.hid (And.intro hpp (And.intro hpp' (And.intro hpl hno)))
          clear hpp hpp' hpl hz hcell hno hbB
          by_cases hn : z = ⟨#[]⟩
          · subst hn
            obtain rfl : q = false := by rw [← HQ3.out, H.out.1]; simp [hasStr]
            go_wp2
            go_ret
            exact ⟨rfl, HX.out.below⟩
          · have hb : (z.toList == ([] : List UInt8)) = false := by rw [beq_lit]; exact decide_eq_false hn
            have HN := Lib.hid hn
            clear hn
            go_wp2
            go_round
            case rel =>
              obtain ⟨hpp, hpp', hpl, hno⟩ := H.out
              refine ⟨pre2 ++ [z], post2, hpp', by rw [hpl]; go_num, ?_⟩
              unfold hasStr at hno ⊢
              rw [List.any_append, hno]
              simp [HN.out]
            case measure => simp [intOf]; omega
        | nil =>
          obtain ⟨hge, hpl⟩ := split_end hpp
          obtain rfl : q = true := by rw [← HQ3.out, ← hpl, hno]; rfl
          clear hpp hpl hno
          go_wp2
          go_ret
          exact ⟨rfl, HX.out.below⟩
end Go.Proofs.YtgbkhcmbmffljaaDoor
