/-
  The reference of chapter 08: Kind, Default, Mode, within, find, ints.
  The reference of chapter 08: Mode, may.
-/
import Derived.Test.YtgbkhcmbmffljaaDoorRefA
import Derived.Test.YtgbkhcmbmffljaaDoorSame
import Derived.Test.YtgbkhcmbmffljaaDoorAwakeP
set_option linter.unusedSimpArgs false
namespace Go.Proofs.YtgbkhcmbmffljaaDoor
open Go.RowKit
open Rep (rep)

theorem kindR_102 (n : Nat) : layCall Tryd.prog 45 #[.string ⟨#[102, 108, 111, 97, 116]⟩] n = some (.int .i64 (kindD 102), []) := by kernel_rfl
theorem kindR_98 (n : Nat) : layCall Tryd.prog 45 #[.string ⟨#[102, 108, 97, 103]⟩] n = some (.int .i64 (kindD 98), []) := by kernel_rfl
theorem kindR_121 (n : Nat) : layCall Tryd.prog 45 #[.string ⟨#[116, 121, 112, 101]⟩] n = some (.int .i64 (kindD 121), []) := by kernel_rfl
theorem kindR_112 (n : Nat) : layCall Tryd.prog 45 #[.string ⟨#[112, 108, 97, 99, 101, 115]⟩] n = some (.int .i64 (kindD 112), []) := by kernel_rfl
theorem kindR_97 (n : Nat) : layCall Tryd.prog 45 #[.string ⟨#[97, 120, 105, 115]⟩] n = some (.int .i64 (kindD 97), []) := by kernel_rfl
theorem kindR_116 (n : Nat) : layCall Tryd.prog 45 #[.string ⟨#[116, 101, 120, 116]⟩] n = some (.int .i64 (kindD 116), []) := by kernel_rfl
theorem kindR_105 (n : Nat) : layCall Tryd.prog 45 #[.string ⟨#[105, 110, 116]⟩] n = some (.int .i64 (kindD 105), []) := by kernel_rfl
theorem kindR_84 (n : Nat) : layCall Tryd.prog 45 #[.string ⟨#[116, 101, 110, 115, 111, 114]⟩] n = some (.int .i64 (kindD 84), []) := by kernel_rfl
theorem kindR_70 (n : Nat) : layCall Tryd.prog 45 #[.string ⟨#[102, 108, 111, 97, 116, 115]⟩] n = some (.int .i64 (kindD 70), []) := by kernel_rfl
theorem kindR_73 (n : Nat) : layCall Tryd.prog 45 #[.string ⟨#[105, 110, 116, 115]⟩] n = some (.int .i64 (kindD 73), []) := by kernel_rfl
theorem kindR_83 (n : Nat) : layCall Tryd.prog 45 #[.string ⟨#[115, 105, 110, 103, 108, 101]⟩] n = some (.int .i64 (kindD 83), []) := by kernel_rfl
theorem kindR_115 (n : Nat) : layCall Tryd.prog 45 #[.string ⟨#[115, 105, 122, 101]⟩] n = some (.int .i64 (kindD 115), []) := by kernel_rfl
theorem kindR_120 (n : Nat) : layCall Tryd.prog 45 #[.string ⟨#[97, 120, 101, 115]⟩] n = some (.int .i64 (kindD 120), []) := by kernel_rfl
theorem kindR_122 (n : Nat) : layCall Tryd.prog 45 #[.string ⟨#[115, 105, 122, 101, 115]⟩] n = some (.int .i64 (kindD 122), []) := by kernel_rfl
theorem kindR_100 (n : Nat) : layCall Tryd.prog 45 #[.string ⟨#[112, 97, 100, 115]⟩] n = some (.int .i64 (kindD 100), []) := by kernel_rfl
theorem kindR_48 (n : Nat) : layCall Tryd.prog 45 #[.string ⟨#[122, 101, 114, 111]⟩] n = some (.int .i64 (kindD 48), []) := by kernel_rfl
theorem kindR_49 (n : Nat) : layCall Tryd.prog 45 #[.string ⟨#[111, 110, 101]⟩] n = some (.int .i64 (kindD 49), []) := by kernel_rfl
theorem kindR_0 (n : Nat) : layCall Tryd.prog 45 #[.string ⟨#[]⟩] n = some (.int .i64 (kindD 0), []) := by kernel_rfl
theorem kindR_any (c : UInt8) (w : World) : Calls Tryd.prog 45 #[.string (sortName c)] w fun e w' => e = .returned (.int .i64 (kindD c.toNat)) ∧ w = w' := by
  by_cases h102 : c = 102
  · subst h102
    exact calls_lay (kindR_102 _)
  by_cases h98 : c = 98
  · subst h98
    exact calls_lay (kindR_98 _)
  by_cases h121 : c = 121
  · subst h121
    exact calls_lay (kindR_121 _)
  by_cases h112 : c = 112
  · subst h112
    exact calls_lay (kindR_112 _)
  by_cases h97 : c = 97
  · subst h97
    exact calls_lay (kindR_97 _)
  by_cases h116 : c = 116
  · subst h116
    exact calls_lay (kindR_116 _)
  by_cases h105 : c = 105
  · subst h105
    exact calls_lay (kindR_105 _)
  by_cases h84 : c = 84
  · subst h84
    exact calls_lay (kindR_84 _)
  by_cases h70 : c = 70
  · subst h70
    exact calls_lay (kindR_70 _)
  by_cases h73 : c = 73
  · subst h73
    exact calls_lay (kindR_73 _)
  by_cases h83 : c = 83
  · subst h83
    exact calls_lay (kindR_83 _)
  by_cases h115 : c = 115
  · subst h115
    exact calls_lay (kindR_115 _)
  by_cases h120 : c = 120
  · subst h120
    exact calls_lay (kindR_120 _)
  by_cases h122 : c = 122
  · subst h122
    exact calls_lay (kindR_122 _)
  by_cases h100 : c = 100
  · subst h100
    exact calls_lay (kindR_100 _)
  by_cases h48 : c = 48
  · subst h48
    exact calls_lay (kindR_48 _)
  by_cases h49 : c = 49
  · subst h49
    exact calls_lay (kindR_49 _)
  have hs : sortName c = ⟨#[]⟩ := by unfold sortName; simp only [*, if_false]
  have hk : kindD c.toNat = kindD 0 := by
    have hn : ∀ (d : UInt8), c ≠ d → ∀ {k : Int}, k = (d.toNat : Int) → ¬ (c.toNat : Int) = k := fun d hd k hk e => hd (UInt8.toNat_inj.1 (by omega))
    have e102 : ¬ (c.toNat : Int) = 102 := hn 102 h102 rfl
    have e116 : ¬ (c.toNat : Int) = 116 := hn 116 h116 rfl
    have e84 : ¬ (c.toNat : Int) = 84 := hn 84 h84 rfl
    have e83 : ¬ (c.toNat : Int) = 83 := hn 83 h83 rfl
    have e70 : ¬ (c.toNat : Int) = 70 := hn 70 h70 rfl
    have e73 : ¬ (c.toNat : Int) = 73 := hn 73 h73 rfl
    have e112 : ¬ (c.toNat : Int) = 112 := hn 112 h112 rfl
    have e120 : ¬ (c.toNat : Int) = 120 := hn 120 h120 rfl
    have e122 : ¬ (c.toNat : Int) = 122 := hn 122 h122 rfl
    have e100 : ¬ (c.toNat : Int) = 100 := hn 100 h100 rfl
    unfold kindD
    simp only [e102, e116, e84, e83, e70, e73, e112, e120, e122, e100, if_false, or_self]
    rfl
  rw [hs, hk]
  exact calls_lay (kindR_0 _)

set_option maxRecDepth 100000 in
set_option maxHeartbeats 4000000 in
theorem withinR_any (l : List Int) (v : Value) (most lo hi : Int) (w : World) (hr : rep w (old w.heap.size) [v] l) :
    Calls Tryd.prog 79 #[v, .int .i64 most, .int .i64 lo, .int .i64 hi] w fun e w' => e = .returned (.bool (withinD l most lo hi)) ∧ w = w' := by
  obtain ⟨A, c, xs, rfl, hnc, hcm, -, hl, hch⟩ := open_slice hr
  have HL := Lib.hid (And.intro hl hch)
  clear hr hl hch
  by_cases hm : most < (l.length : Int)
  · have hD : withinD l most lo hi = false := by unfold withinD; rw [decide_eq_false (by omega)]; rfl
    rw [hD]
    clear hD
    go_enter Tryd.func79, Tryd.ntmps79
    go_wp2
    go_ret
    exact ⟨rfl, rfl⟩
  · have hm2 : (l.length : Int) ≤ most := by omega
    have hD : withinD l most lo hi = !l.any (outD lo hi) := by unfold withinD; rw [decide_eq_true hm2]; rfl
    rw [hD]
    clear hD
    go_enter Tryd.func79, Tryd.ntmps79
    go_wp2_with fail
    go_loop [9] (fun i => ∃ pre post : List Int, l = pre ++ post ∧ i = .int .i64 pre.length ∧ pre.any (outD lo hi) = false) (fun i => l.length - (intOf i).toNat)
    case atStart => exact ⟨[], l, rfl, rfl, rfl⟩
    case round =>
      obtain ⟨pre, post, hpp, rfl, hno⟩ := hrel
      cases post with
      | cons z post =>
        obtain ⟨hz, hlt, hpp', hpl⟩ := split_at hpp
        obtain ⟨b, o, xc, rfl, -, hrz, hcell⟩ := elem_at HL.out.1 HL.out.2 (by decide) hz
        obtain ⟨rfl, -⟩ := hrz
        have k4 : w.cell? ⟨b, o + pre.length, none⟩ = some (.int .i64 z) := cell_of_elem (α := Int) rfl hcell rfl
        have hk0 : (0 : Int) ≤ (pre.length : Int) := Int.natCast_nonneg _
        have hk1 : (pre.length : Int) < (l.length : Int) := by omega
        have H := Lib.hid (And.intro hpp (And.intro hpp' (And.intro hpl hno)))
        clear hpp hpp' hpl hz hcell hno
        by_cases h1 : z < lo
        · have hd : decide (z < lo) = true := decide_eq_true h1
          go_wp2
          go_ret
          refine ⟨?_, rfl⟩
          rw [H.out.1, List.any_append, List.any_cons]
          simp [outD, h1]
        · have hd : decide (z < lo) = false := decide_eq_false h1
          by_cases h2 : hi < z
          · have hd2 : decide (hi < z) = true := decide_eq_true h2
            go_wp2
            go_ret
            refine ⟨?_, rfl⟩
            rw [H.out.1, List.any_append, List.any_cons]
            simp [outD, h2]
          · have hd2 : decide (hi < z) = false := decide_eq_false h2
            have HN := Lib.hid (And.intro h1 h2)
            clear h1 h2
            go_wp2
            go_round
            case rel =>
              obtain ⟨hpp, hpp', hpl, hno⟩ := H.out
              refine ⟨pre ++ [z], post, hpp', by rw [hpl]; go_num, ?_⟩
              rw [List.any_append, hno, List.any_cons]
              simp [outD, HN.out.1, HN.out.2]
            case measure => simp [intOf]; omega
      | nil =>
        obtain ⟨hge, hpl⟩ := split_end hpp
        subst hpl
        have H := Lib.hid hno
        clear hpp hno
        go_wp2
        go_ret
        exact ⟨by rw [H.out]; rfl, rfl⟩

set_option maxRecDepth 100000 in
set_option maxHeartbeats 4000000 in
theorem intsR_any (l : List Int) (v : Value) (w : World) (hr : rep w (old w.heap.size) [v] l) :
    Calls Tryd.prog 111 #[v] w fun e w' => ∃ v', e = .returned v' ∧ w'.ownsRow w.heap.size 3 1 v' l.length (l.map (Value.int .i64)) ∧ Below w.heap.size w w' := by
  obtain ⟨i0, hi0, hz0, hz1, hz2⟩ := info_parts intInfo
  obtain ⟨A, c, xs, rfl, hnc, hcm, hb, hl, hch⟩ := open_slice hr
  clear hr
  replace hb : l.length * 8 ≤ 140737488351232 := hb
  go_enter Tryd.func111, Tryd.ntmps111
  go_wp2_with fail
  go_loopw [3, 4] (fun v i wr => ∃ pre post : List Int, l = pre ++ post ∧ i = .int .i64 pre.length ∧ wr.ownsRow w.heap.size 3 1 v pre.length (pre.map (Value.int .i64)) ∧ Below w.heap.size w wr)
    (fun _ i _ => l.length - (intOf i).toNat)
  case atStart => exact ⟨[], l, rfl, rfl, World.ownsRow_nil _ _ _ _, Below.refl _ _⟩
  case round =>
    obtain ⟨pre, post, hpp, rfl, hown, hbel⟩ := hrel
    cases post with
    | cons z post =>
      obtain ⟨hz, hlt, hpp', hpl⟩ := split_at hpp
      obtain ⟨b, o, cs, rfl, hbB, ⟨rfl, hI⟩, hcell⟩ := elem_at hl hch (by decide) hz
      have hc1 := (hbel.cell (p := ⟨b, o + (pre.length * 1 + 0), none⟩) hbB).trans (hcell 0 _ rfl).1
      rw [show o + (pre.length * 1 + 0) = o + pre.length from by omega] at hc1
      have hk0 : (0 : Int) ≤ (pre.length : Int) := Int.natCast_nonneg _
      have hk1 : (pre.length : Int) < (l.length : Int) := by omega
      have H := Lib.hid (And.intro hpp' (And.intro hpl hbel))
      clear hcell hl hch hpp hpp' hpl hbel hz
      go_wp2_with (at_builtin; refine wpList_append_lies _ rfl _ _ 37 rfl w.heap.size 3 i0 (.int .i64 0) 1 8 Tryd.underlying37 hi0 hz0 hz1 hz2 rfl (by decide) _ _ _ rfl (hown.alloc _) _ _ 1 1 [.int .i64 z] rfl rfl (lies_new _ _ _) ?c2 ?c3 ?c4 ?c5 ?_)
      case c2 => intro u hu; simp at hu; subst hu; rfl
      case c3 => unfold maxLen; omega
      case c4 => omega
      case c5 => have := H.out.2.2.size; simp; omega
      intro v' w1 hown' hgrow _
      go_wp2
      go_roundw
      case rel =>
        obtain ⟨hpp', hpl, hbel⟩ := H.out
        refine ⟨pre ++ [z], post, hpp', by rw [hpl]; go_num, by rw [hpl, List.map_append]; exact hown', ?_⟩
        exact (hbel.alloc hbel.size _).grown hgrow (by have := hbel.size; simp; omega) (fun g hg => (hown.lt g hg).1)
      case measure => simp [intOf]; omega
    | nil =>
      obtain ⟨hge, hpl⟩ := split_end hpp
      clear hcm hnc
      have H := Lib.hid (And.intro hpl hbel)
      clear hpl hbel hpp hl hch
      go_wp2
      go_ret
      obtain ⟨rfl, hbel⟩ := H.out
      exact ⟨_, rfl, hown, hbel⟩
end Go.Proofs.YtgbkhcmbmffljaaDoor

set_option linter.unusedSimpArgs false
namespace Go.Proofs.YtgbkhcmbmffljaaDoor
open Go.RowKit
open Rep (rep)

theorem find_if {α : Type} (p : α → Bool) (a : α) (l : List α) : (a :: l).find? p = if p a = true then some a else l.find? p := by
  rw [List.find?_cons]; cases p a <;> rfl
theorem fits_0 (op : Int) (name text a b : ByteArray) (m : Int) : modeFits op name text ⟨0, a, b, m⟩ = ((name.toList == a.data.toList) && (text.toList == b.data.toList)) := by
  unfold modeFits
  rw [ByteArray.toList_eq a, ByteArray.toList_eq b, BEq.comm (a := a.data.toList), BEq.comm (a := b.data.toList)]
  rfl
theorem fits_k (op k : Int) (hk : k ≠ 0) (name text a b : ByteArray) (m : Int) : modeFits op name text ⟨k, a, b, m⟩ = ((op == k) && (name.toList == a.data.toList) && (text.toList == b.data.toList)) := by
  unfold modeFits
  rw [ByteArray.toList_eq a, ByteArray.toList_eq b, BEq.comm (a := a.data.toList), BEq.comm (a := b.data.toList), BEq.comm (a := op)]
  have : (k == 0) = false := beq_eq_false_iff_ne.2 hk
  simp only [this, Bool.false_or]
theorem mode_chain (op : Int) (name text : ByteArray) : (modeOfD op name text).getD (-1) =
  if ((name.toList == ([97, 117, 116, 111, 95, 112, 97, 100] : List UInt8)) && (text.toList == ([78, 79, 84, 83, 69, 84] : List UInt8))) = true then 0 else if ((name.toList == ([97, 117, 116, 111, 95, 112, 97, 100] : List UInt8)) && (text.toList == ([86, 65, 76, 73, 68] : List UInt8))) = true then 8 else if ((name.toList == ([97, 117, 116, 111, 95, 112, 97, 100] : List UInt8)) && (text.toList == ([83, 65, 77, 69, 95, 85, 80, 80, 69, 82] : List UInt8))) = true then 9 else if ((name.toList == ([97, 117, 116, 111, 95, 112, 97, 100] : List UInt8)) && (text.toList == ([83, 65, 77, 69, 95, 76, 79, 87, 69, 82] : List UInt8))) = true then 10 else if ((name.toList == ([114, 101, 100, 117, 99, 116, 105, 111, 110] : List UInt8)) && (text.toList == ([110, 111, 110, 101] : List UInt8))) = true then 0 else if ((name.toList == ([114, 101, 100, 117, 99, 116, 105, 111, 110] : List UInt8)) && (text.toList == ([97, 100, 100] : List UInt8))) = true then 4 else if ((name.toList == ([114, 101, 100, 117, 99, 116, 105, 111, 110] : List UInt8)) && (text.toList == ([109, 117, 108] : List UInt8))) = true then 5 else if ((op == 53) && (name.toList == ([109, 111, 100, 101] : List UInt8)) && (text.toList == ([99, 111, 110, 115, 116, 97, 110, 116] : List UInt8))) = true then 1 else if ((op == 53) && (name.toList == ([109, 111, 100, 101] : List UInt8)) && (text.toList == ([114, 101, 102, 108, 101, 99, 116] : List UInt8))) = true then 2 else if ((op == 53) && (name.toList == ([109, 111, 100, 101] : List UInt8)) && (text.toList == ([101, 100, 103, 101] : List UInt8))) = true then 3 else if ((op == 63) && (name.toList == ([109, 111, 100, 101] : List UInt8)) && (text.toList == ([68, 67, 82] : List UInt8))) = true then 6 else if ((op == 63) && (name.toList == ([109, 111, 100, 101] : List UInt8)) && (text.toList == ([67, 82, 68] : List UInt8))) = true then 7 else -1 := by
  unfold modeOfD modesD
  simp only [find_if, List.find?_nil, fits_0, fits_k op 53 (by decide), fits_k op 63 (by decide), apply_ite (Option.map ModeD.mode), apply_ite (fun x : Option Int => x.getD (-1)), Option.map_some, Option.map_none, Option.getD_some, Option.getD_none]
  rfl
set_option maxRecDepth 100000 in
set_option maxHeartbeats 8000000 in
theorem modeR_any (op : Int) (name text : ByteArray) (w : World) : Calls Tryd.prog 78 #[.int .i64 op, .string name, .string text] w fun e w' => e = .returned (.int .i64 ((modeOfD op name text).getD (-1))) ∧ w = w' := by
  obtain ⟨r, hr⟩ : ∃ r, (modeOfD op name text).getD (-1) = r := ⟨_, rfl⟩
  rw [hr]
  rw [mode_chain] at hr
  have HR := Lib.hid hr
  clear hr
  go_enter Tryd.func78, Tryd.ntmps78
  go_wp2
  all_goals (go_ret; refine ⟨?_, rfl⟩; rw [← HR.out]; clear HR; (try simp only [*, Bool.and_true, Bool.true_and, Bool.false_and, Bool.and_false, Bool.false_eq_true, if_false, if_true, beq_self_eq_true]); (try simp [*]); (try rfl))

end Go.Proofs.YtgbkhcmbmffljaaDoor
