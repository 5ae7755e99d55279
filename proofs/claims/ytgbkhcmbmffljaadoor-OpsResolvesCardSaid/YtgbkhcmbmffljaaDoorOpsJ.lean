/-
  A part of the proofs of chapter 08: walks of the package ops. No condition.
-/
import Derived.Test.YtgbkhcmbmffljaaDoorOpsI
import Derived.Test.YtgbkhcmbmffljaaDoorShelf
import Derived.Deep.RegionHeld3
namespace Go.Proofs.YtgbkhcmbmffljaaDoor
open Go.RowKit
open Rep (rep)

theorem chunks_strs {w : World} {Z : Zone} : ∀ {l : List ByteArray} {xs : List Value}, Chunks w Z xs l → xs = l.map Value.string
  | [], _, h => by simpa [Chunks] using h
  | a :: l, xs, ⟨c, r, hx, hc, hr⟩ => by rw [hx, hc.1, chunks_strs hr]; rfl

def hasStr (x : ByteArray) (l : List ByteArray) : Bool := l.any fun y => decide (y = x)
theorem hasStr_iff (x : ByteArray) (l : List ByteArray) : hasStr x l = true ↔ x ∈ l := by
  unfold hasStr
  rw [List.any_eq_true]
  constructor
  · rintro ⟨y, hy, e⟩; rw [decide_eq_true_eq] at e; exact e ▸ hy
  · intro h; exact ⟨x, h, by simp⟩

/-- slices.Contains at a beginning of a list of strings. -/
theorem containsStr_any (l : List ByteArray) (k : Nat) (hk : k ≤ l.length) (A : Option Addr) (c c' : Nat) (x : ByteArray) (w : World) (Z : Zone) (hr : rep w Z [.slice A l.length c] l) :
    Calls Tryd.prog 69 #[.slice A k c', .string x] w fun e w' => e = .returned (.bool (hasStr x (l.take k))) ∧ w = w' := by
  obtain ⟨A', c2, xs, hv, hnc, hcm, _, hl, hch⟩ := open_slice hr
  injection hv with hA _ _
  subst hA
  have hxs := chunks_strs hch
  subst hxs
  cases k with
  | zero =>
    refine (Tryd.slices_Contains_string_empty A c' x w).mono ?_
    rintro e w' ⟨rfl, rfl⟩
    exact ⟨by simp [hasStr], rfl⟩
  | succ k =>
    obtain ⟨b, o, rfl, _, hc⟩ := hl (by intro e; have := congrArg List.length e; simp at this; rw [this] at hk; simp at hk)
    refine (Tryd.slices_Contains_string b o (k + 1) c' l x w hk (by omega) (fun j hj => ?_)).mono ?_
    · have := (hc j (.string (l.getD j ByteArray.empty)) (by simp [List.getD, List.getElem?_eq_getElem hj])).1
      exact this
    · rintro e w' ⟨rfl, rfl⟩
      refine ⟨?_, rfl⟩
      have : Lib.containsS (l.take (k + 1)) x = hasStr x (l.take (k + 1)) := by
        rw [Bool.eq_iff_iff, Lib.containsS_iff, hasStr_iff]
      rw [this]

/-- Are there as many inputs and outputs as it takes, and those that must be there? -/
def countsD (r : RowD) (n : NodeD) : Bool :=
  (decide (r.least ≤ n.ins.length) && decide ((n.ins.length : Int) ≤ r.most) && decide (r.out ≤ n.outs.length) && decide ((n.outs.length : Int) ≤ r.mostOuts)) &&
  (!hasStr ⟨#[]⟩ (n.ins.take r.least.toNat) && !hasStr ⟨#[]⟩ (n.outs))

set_option maxRecDepth 100000 in
set_option maxHeartbeats 2000000 in
theorem counts_any (r : RowD) (h0 : 0 ≤ r.least) (cs : List Value) (n : NodeD) (w : World) (hr : rep w (old w.heap.size) cs n) :
    Calls Tryd.prog 37 #[.agg r.cells.toArray, .agg cs.toArray] w fun e w' => e = .returned (.bool (countsD r n)) ∧ Below w.heap.size w w' := by
  obtain ⟨A1, k1, A2, k2, A3, k3, rfl, g0, g1, hi, ho, _⟩ := open_NodeD hr
  obtain ⟨_, _, _, hvi, hki, hmi, _⟩ := open_slice hi
  obtain ⟨_, _, _, hvo, hko, hmo, _⟩ := open_slice ho
  simp only [Value.slice.injEq, true_and] at hvi hvo
  obtain ⟨rfl, rfl⟩ := hvi
  obtain ⟨rfl, rfl⟩ := hvo
  have hb : ∀ o1 o2 : Obj, Below w.heap.size w ((w.alloc o1).alloc o2) := fun _ _ => ((Below.refl w.heap.size w).alloc (Nat.le_refl _) _).alloc (by simp) _
  have hi2 : ∀ o1 o2 : Obj, rep ((w.alloc o1).alloc o2) (old w.heap.size) [.slice A1 n.ins.length k1] n.ins := fun o1 o2 => Rep.keep hi (Keeps.old_below (hb o1 o2) (Nat.le_refl _))
  have ho2 : ∀ o1 o2 : Obj, rep ((w.alloc o1).alloc o2) (old w.heap.size) [.slice A2 n.outs.length k2] n.outs := fun o1 o2 => Rep.keep ho (Keeps.old_below (hb o1 o2) (Nat.le_refl _))
  have H := Lib.hid (And.intro hb (And.intro hi2 ho2))
  clear hr hi ho hb hi2 ho2 g0 g1
  obtain ⟨name, least, most, out, mostOuts, attrs⟩ := r
  simp only at h0
  obtain ⟨k, rfl⟩ := Int.eq_ofNat_of_zero_le h0
  unfold RowD.cells
  simp only
  have hdef : countsD ⟨name, k, most, out, mostOuts, attrs⟩ n = ((decide ((k : Int) ≤ n.ins.length) && decide ((n.ins.length : Int) ≤ most) && decide (out ≤ n.outs.length) && decide ((n.outs.length : Int) ≤ mostOuts)) && (!hasStr ⟨#[]⟩ (n.ins.take k) && !hasStr ⟨#[]⟩ (n.outs))) := rfl
  rw [hdef]
  clear hdef h0
  by_cases e1 : (k : Int) ≤ n.ins.length
  · by_cases e2 : (n.ins.length : Int) ≤ most
    · by_cases e3 : out ≤ n.outs.length
      · by_cases e4 : (n.outs.length : Int) ≤ mostOuts
        · have hd : ∀ b : Bool, ((decide ((k : Int) ≤ n.ins.length) && decide ((n.ins.length : Int) ≤ most) && decide (out ≤ n.outs.length) && decide ((n.outs.length : Int) ≤ mostOuts)) && b) = b := by simp [e1, e2, e3, e4]
          rw [hd]
          clear hd
          have hkl : k ≤ n.ins.length := by omega
          have f1 : ¬ ((n.ins.length : Int) < k) := by omega
          have f2 : ¬ (most < (n.ins.length : Int)) := by omega
          have f3 : ¬ ((n.outs.length : Int) < out) := by omega
          have f4 : ¬ (mostOuts < (n.outs.length : Int)) := by omega
          cases hm : hasStr ⟨#[]⟩ (n.ins.take k) with
          | true =>
            have HM := Lib.hid hm
            clear hm
            go_enter Tryd.func37, Tryd.ntmps37
            go_wp2_with fail
            refine (containsStr_any n.ins k hkl A1 k1 k1 _ _ _ (H.out.2.1 _ _)).mono ?_
            rw [HM.out]
            rintro e w1 ⟨rfl, rfl⟩
            go_wp2
            go_ret
            exact ⟨rfl, H.out.1 _ _⟩
          | false =>
            have HM := Lib.hid hm
            clear hm
            go_enter Tryd.func37, Tryd.ntmps37
            go_wp2_with fail
            refine (containsStr_any n.ins k hkl A1 k1 k1 _ _ _ (H.out.2.1 _ _)).mono ?_
            rw [HM.out]
            rintro e w1 ⟨rfl, rfl⟩
            go_wp2_with fail
            refine (containsStr_any n.outs n.outs.length (Nat.le_refl _) A2 k2 k2 _ _ _ (H.out.2.2 _ _)).mono ?_
            rintro e w1 ⟨rfl, rfl⟩
            go_wp2
            go_ret
            exact ⟨rfl, H.out.1 _ _⟩
        · have f1 : ¬ ((n.ins.length : Int) < k) := by omega
          have f2 : ¬ (most < (n.ins.length : Int)) := by omega
          have f3 : ¬ ((n.outs.length : Int) < out) := by omega
          have f4 : (mostOuts < (n.outs.length : Int)) := by omega
          rw [decide_eq_false e4, Bool.and_false, Bool.false_and]
          clear e1 e2 e3 e4
          go_enter Tryd.func37, Tryd.ntmps37
          go_wp2
          go_ret
          exact ⟨rfl, H.out.1 _ _⟩
      · have f1 : ¬ ((n.ins.length : Int) < k) := by omega
        have f2 : ¬ (most < (n.ins.length : Int)) := by omega
        have f3 : ((n.outs.length : Int) < out) := by omega
        rw [decide_eq_false e3, Bool.and_false, Bool.false_and, Bool.false_and]
        clear e1 e2 e3
        go_enter Tryd.func37, Tryd.ntmps37
        go_wp2
        go_ret
        exact ⟨rfl, H.out.1 _ _⟩
    · have f1 : ¬ ((n.ins.length : Int) < k) := by omega
      have f2 : (most < (n.ins.length : Int)) := by omega
      rw [decide_eq_false e2, Bool.and_false, Bool.false_and, Bool.false_and, Bool.false_and]
      clear e1 e2
      go_enter Tryd.func37, Tryd.ntmps37
      go_wp2
      go_ret
      exact ⟨rfl, H.out.1 _ _⟩
  · have f1 : ((n.ins.length : Int) < k) := by omega
    rw [decide_eq_false e1, Bool.false_and, Bool.false_and, Bool.false_and, Bool.false_and]
    clear e1
    go_enter Tryd.func37, Tryd.ntmps37
    go_wp2
    go_ret
    exact ⟨rfl, H.out.1 _ _⟩

/-- The attributes of a row: each a name and a letter. -/
def pairsD : List (List UInt8) → List SortD
  | a :: b :: l => ⟨⟨a.toArray⟩, b.headD 0, [33].isSuffixOf b⟩ :: pairsD l
  | _ => []
def sortsD (r : RowD) : List SortD := pairsD (Lib.fields r.attrs.data.toList)
/-- Is this a row that its method 'sorts' takes? -/
def rowOk (r : RowD) : Bool := decide (r.attrs.size < 4294967281) && r.attrs.data.toList.all (fun b => decide (b.toNat < 128)) && (Lib.fields r.attrs.data.toList).all (fun b => !b.isEmpty && decide (b.length < 1000)) && decide ((Lib.fields r.attrs.data.toList).length < 1000) && decide (0 ≤ r.least)
theorem rows_ok : (tableD.all rowOk && rowOk noRow) = true := by decide +kernel
theorem findD_ok (op : Int) : rowOk (findD op) = true := by
  have h := rows_ok
  rw [Bool.and_eq_true] at h
  unfold findD
  split
  · exact h.2
  · cases hz : tableD[(op - 1).toNat]? with
    | none => exact h.2
    | some z => exact List.all_eq_true.1 h.1 z (List.mem_of_getElem? hz)

theorem sortInfo : (Tryd.prog.info? 84).map (fun i => (i.zero, i.size, i.bytes)) = some (some (.agg #[.string ⟨#[]⟩, .int .u8 0, .bool false]), 3, 24) := by kernel_rfl
def SortD.cells (s : SortD) : List Value := [.string s.name, .int .u8 (s.letter.toNat : Int), .bool s.must]
theorem rep_sort {w : World} {Z : Zone} {s : SortD} (h : s.name.size ≤ reach) : rep w Z s.cells s := shut_SortD h
theorem SortD.one (r : SortD) : ∀ u ∈ r.cells, u.oneCell' = true := by
  intro u hu; simp [SortD.cells] at hu; rcases hu with rfl | rfl | rfl <;> rfl

end Go.Proofs.YtgbkhcmbmffljaaDoor
