/-
  A part of the proofs of chapter 08: walks of the package ops. No condition.
-/
import Derived.Test.YtgbkhcmbmffljaaDoorOpsJ
namespace Go.Proofs.YtgbkhcmbmffljaaDoor
open Go.RowKit
open Rep (rep)

/-- The table that strings.Fields reads. -/
def Tab (w : World) : Prop := Lib.TabIs Tryd.prog w "strings.asciiSpace" .u8 Lib.asciiSpaceTab
theorem tabName : Tryd.prog.globalNamed "strings.asciiSpace" = some 0 := by kernel_rfl
theorem Tab.below {B : Nat} {w w' : World} (h : Tab w) (k : Below B w w') (hB : 0 < B) : Tab w' := var?_below k tabName hB h
theorem Tab.pos {w : World} (h : Tab w) : 0 < w.heap.size := by
  unfold Tab Lib.TabIs World.var? at h
  rw [tabName] at h
  simp only [Option.bind_some] at h
  rcases Nat.eq_zero_or_pos w.heap.size with h0 | h0
  · rw [Array.getElem?_eq_none (by omega)] at h
    cases h
  · exact h0
theorem Tab.ext {w w' : World} (h : Tab w) (k : Below w.heap.size w w') : Tab w' := h.below k h.pos

theorem own_base {w : World} {base base' : Nat} {e : TypeId} {size : Nat} {v : Value} {n : Nat} {xs : List Value} (h : w.ownsRow base e size v n xs) (hb : base' ≤ base) : w.ownsRow base' e size v n xs := by
  refine ⟨h.1, ?_⟩
  rcases h.2 with h | ⟨g, cap, cur, h1, h2, h3⟩
  · exact .inl h
  · exact .inr ⟨g, cap, cur, h1, by omega, h3⟩

set_option maxRecDepth 100000 in
set_option maxHeartbeats 2000000 in
theorem sorts_any (r : RowD) (hok : rowOk r = true) (w : World) (ht : Tab w) :
    Calls Tryd.prog 32 #[.agg r.cells.toArray] w fun e w' => ∃ v', e = .returned v' ∧ w'.ownsRow w.heap.size 84 3 v' (sortsD r).length ((sortsD r).flatMap SortD.cells) ∧ Below w.heap.size w w' := by
  obtain ⟨i0, hi0, hz0, hz1, hz2⟩ := info_parts sortInfo
  unfold rowOk at hok
  simp only [Bool.and_eq_true, decide_eq_true_eq, List.all_eq_true] at hok
  obtain ⟨⟨⟨⟨ho1, ho2⟩, ho3⟩, ho4⟩, _⟩ := hok
  have hsd : sortsD r = pairsD (Lib.fields r.attrs.data.toList) := rfl
  obtain ⟨ws, hws⟩ : ∃ ws, Lib.fields r.attrs.data.toList = ws := ⟨_, rfl⟩
  have hF : ∀ o : Obj, Calls Tryd.prog 63 #[.string r.attrs] (w.alloc o) fun e w' => e = .returned (.slice (some ⟨w.heap.size + 1, 0, none⟩) ws.length ws.length) ∧ (w.alloc o).alloc (.cells (ws.map fun l => Value.string ⟨l.toArray⟩).toArray 9) = w' := fun o => by
    have h1 : Tab (w.alloc o) := ht.ext ((Below.refl _ _).alloc (Nat.le_refl _) o)
    refine (Tryd.strings_Fields r.attrs (w.alloc o) ho1 (fun j b hb => by simpa using ho2 b (List.mem_of_getElem? hb)) h1).mono ?_
    rintro e w' ⟨rfl, rfl⟩
    rw [hws]
    simp
  rw [hws] at hsd ho3 ho4
  rw [hsd]
  have H := Lib.hid hF
  have HW := Lib.hid (And.intro ho3 ho4)
  clear hsd hws ho1 ho2 ho3 ho4 hF ht
  unfold RowD.cells
  go_enter Tryd.func32, Tryd.ntmps32
  go_wp2_with fail
  refine (H.out _).mono ?_
  rintro e w2 ⟨rfl, hw2⟩
  have hb2 : Below w.heap.size w w2 := by rw [← hw2]; exact ((Below.refl w.heap.size w).alloc (Nat.le_refl _) _).alloc (by simp) _
  have hz2' : w2.heap.size = w.heap.size + 2 := by rw [← hw2]; simp
  have hat : At w2 (w.heap.size + 1) 0 (ws.map fun l => Value.string ⟨l.toArray⟩) := by
    rw [← hw2]
    have := heap_alloc_new (w.alloc (.cells #[Value.string r.name, Value.int IntKind.i64 r.least, Value.int IntKind.i64 r.most, Value.int IntKind.i64 r.out, Value.int IntKind.i64 r.mostOuts, Value.string r.attrs] 79)) (.cells (ws.map fun l => Value.string ⟨l.toArray⟩).toArray 9)
    rw [World.size_alloc] at this
    exact At.of_row this
  have H2 := Lib.hid (And.intro hb2 (And.intro hz2' hat))
  clear hw2 hb2 hz2' hat H
  have hwl : ws.length ≤ 1000 := by have := HW.out.2; omega
  go_wp2_with fail
  go_loopw [3, 5] (fun v i wr => ∃ (pre post : List (List UInt8)) (acc : List SortD), ws = pre ++ post ∧ i = .int .i64 pre.length ∧ pairsD ws = acc ++ pairsD post ∧ acc.length ≤ pre.length ∧ wr.ownsRow (w.heap.size + 2) 84 3 v acc.length (acc.flatMap SortD.cells) ∧ Below (w.heap.size + 2) w2 wr)
    (fun _ i _ => ws.length - (intOf i).toNat)
  case atStart => exact ⟨[], ws, [], rfl, rfl, rfl, Nat.le_refl _, World.ownsRow_nil _ _ _ _, Below.refl _ _⟩
  case round =>
    obtain ⟨pre, post, acc, hpp, rfl, hpa, hal, hown, hbel⟩ := hrel
    obtain ⟨hb2, hz2', hat⟩ := H2.out
    rcases post with _ | ⟨a, _ | ⟨b, rest⟩⟩
    · have hge : ¬ ((pre.length : Int) + 1 < ws.length) := by rw [hpp]; simp; omega
      have hpl : (pre.length : Int) ≤ 1000 := by rw [hpp] at hwl; simp at hwl; omega
      have HE := Lib.hid (And.intro hpa (And.intro hb2 hbel))
      clear hpp hpa hb2 hz2' hat hbel
      go_wp2
      go_ret
      obtain ⟨hpa, hb2, hbel⟩ := HE.out
      refine ⟨_, rfl, ?_, hb2.trans (hbel.mono (by omega))⟩
      rw [hpa]
      simpa [pairsD] using own_base hown (by omega)
    · have hge : ¬ ((pre.length : Int) + 1 < ws.length) := by rw [hpp]; simp
      have hpl : (pre.length : Int) ≤ 1000 := by rw [hpp] at hwl; simp at hwl; omega
      have HE := Lib.hid (And.intro hpa (And.intro hb2 hbel))
      clear hpp hpa hb2 hz2' hat hbel
      go_wp2
      go_ret
      obtain ⟨hpa, hb2, hbel⟩ := HE.out
      refine ⟨_, rfl, ?_, hb2.trans (hbel.mono (by omega))⟩
      rw [hpa]
      simpa [pairsD] using own_base hown (by omega)
    · have hlt : ((pre.length : Int) + 1 < ws.length) := by rw [hpp]; simp; omega
      have hne := HW.out.1 b (by rw [hpp]; simp)
      obtain ⟨b0, bt, rfl⟩ : ∃ b0 bt, b = b0 :: bt := by
        cases b with
        | nil => simp at hne
        | cons x y => exact ⟨x, y, rfl⟩
      have c0 : wr.cell? ⟨w.heap.size + 1, pre.length, none⟩ = some (.string ⟨a.toArray⟩) := by
        rw [hbel.cell (p := ⟨w.heap.size + 1, pre.length, none⟩) (by simp)]
        have := hat pre.length (.string ⟨a.toArray⟩) (by rw [hpp]; simp)
        simpa using this
      have c1 : wr.cell? ⟨w.heap.size + 1, pre.length + 1, none⟩ = some (.string ⟨(b0 :: bt).toArray⟩) := by
        rw [hbel.cell (p := ⟨w.heap.size + 1, pre.length + 1, none⟩) (by simp)]
        have := hat (pre.length + 1) (.string ⟨(b0 :: bt).toArray⟩) (by rw [hpp]; simp)
        simpa using this
      have hsz := hbel.size
      rw [hz2'] at hsz
      have HE := Lib.hid (And.intro hpp (And.intro hpa (And.intro hb2 (And.intro hbel hne))))
      clear hpp hpa hb2 hz2' hat hbel hne
      have hS : ∀ W : World, Calls Tryd.prog 64 #[.string ⟨(b0 :: bt).toArray⟩, .string ⟨#[33]⟩] W fun e w' => e = .returned (.bool ([33].isSuffixOf (b0 :: bt))) ∧ W = w' := fun W =>
        (Tryd.strings_HasSuffix ⟨(b0 :: bt).toArray⟩ ⟨#[33]⟩ W (by have := (HW.out.1 (b0 :: bt) (by rw [HE.out.1]; simp)).2; show (b0 :: bt).toArray.size ≤ _; simp at this ⊢; omega)).mono fun e w' ⟨he, hw⟩ => ⟨by rw [he]; rfl, hw.symm⟩
      have HS := Lib.hid hS
      clear hS
      have hacc : acc.length ≤ 1000 := by omega
      have hsz0 : w.heap.size + 2 ≤ wr.heap.size := hsz
      have hne' : some (w.heap.size + 1) ≠ u3.ownBlock := fun e => by have := (hown.lt _ e.symm).1; omega
      have hk0 : (0 : Int) ≤ (pre.length : Int) := Int.natCast_nonneg _
      have hk1 : (pre.length : Int) < (ws.length : Int) := by omega
      have hk2 : (0 : Int) ≤ (pre.length : Int) + 1 := by omega
      have hk4 : ((pre.length : Int) + 1).toNat = pre.length + 1 := by omega
      have hk5 : IntKind.i64.wrap ((pre.length : Int) + 1) = (pre.length : Int) + 1 := IntWalk.i64_in _ (by omega)
      go_wp2_with fail
      go_region_held3 (fun w' => w'.cell? ⟨w.heap.size + 1, pre.length, none⟩ = some (.string ⟨a.toArray⟩) ∧ w'.cell? ⟨w.heap.size + 1, pre.length + 1, none⟩ = some (.string ⟨(b0 :: bt).toArray⟩))
        (first | go_keep | (go_split_ands; refine ⟨?_, ?_⟩ <;> (rw [hgrow.cell_far _ (by simp; omega) hne']; assumption)))
        (first
          | (go_at_call 64; refine (HS.out _).mono ?_; rintro e w3 ⟨rfl, rfl⟩)
          | (refine step_append_lies _ (by rfl) _ _ _ (by rfl) (w.heap.size + 2) 84 i0 _ 3 24 Tryd.underlying81 hi0 hz0 hz1 hz2 rfl (by omega) u3 acc.length _ (by rfl) ((hown.alloc _).drew)
               ⟨wr.heap.size, 0, none⟩ 1 1 [.string ⟨a.toArray⟩, .int .u8 (b0.toNat : Int), .bool ([33].isSuffixOf (b0 :: bt))] (by rfl) (by rfl) (World.news_of_block (cs := #[.string ⟨a.toArray⟩, .int .u8 (b0.toNat : Int), .bool ([33].isSuffixOf (b0 :: bt))]) (t := 84) (fr := (0, 0)) (heap_alloc_new wr _)) (by simp [Value.oneCell'])
               (by omega) (by unfold maxLen; omega) (by omega) (by simp; omega) (wr.heap.size + 1) (by simp) ?_; intro gg cap w1 hown1 hgrow hat hlt))
      all_goals
        clear hk0 hk1 hk2 hk4 hk5 c0 c1
        have hlt' := hlt
        obtain ⟨hpp, hpa, hb2, hbel, _⟩ := HE.out
        have hbel1 : Below (w.heap.size + 2) w2 w1 := (hbel.alloc hsz0 _).drew.grown hgrow (by simp; omega) (fun g hg => (hown.lt g hg).1)
        have HX := Lib.hid (And.intro hpp (And.intro hpa (And.intro hbel1 hown1)))
        clear hpp hpa hb2 hbel hbel1 hgrow hat hown hown1
        go_wp2
        go_roundw
        case rel =>
          obtain ⟨hpp, hpa, hbel1, hown1⟩ := HX.out
          refine ⟨pre ++ [a, b0 :: bt], rest, acc ++ [⟨⟨a.toArray⟩, b0, [33].isSuffixOf (b0 :: bt)⟩], by rw [hpp]; simp, by simp, by rw [hpa]; simp [pairsD], by simp; omega, ?_, hbel1⟩
          simpa [SortD.cells] using hown1
        case measure => simp [intOf]; omega
end Go.Proofs.YtgbkhcmbmffljaaDoor
