/-
  A part of the proofs of chapter 08: walks of the package ops. No condition.
-/
import Derived.Test.YtgbkhcmbmffljaaDoorOpsH
namespace Go.Proofs.YtgbkhcmbmffljaaDoor
open Go.RowKit
open Rep (rep)

def rangeD (lo hi x : Int) : Bool := decide (lo ≤ x) && decide (x ≤ hi)
/-- May an attribute be what it is? -/
def mayD (n : Int) (op : Int) (name : ByteArray) (a : AttrD) : Bool :=
  if n = 48 then rangeD 0 0 a.i else if n = 49 then rangeD 1 1 a.i else if n = 98 then rangeD 0 1 a.i else if n = 97 then rangeD (-8) 8 a.i else if n = 115 then rangeD 1 4096 a.i
  else if n = 121 then a.i == 1 || a.i == 7 || a.i == 9
  else if n = 116 then (modeOfD op name a.s).isSome
  else if n = 83 then decide (a.t.f.length + a.t.i.length + a.t.b.length = 1)
  else if n = 70 then decide (a.floats.length ≤ 4096) else if n = 73 then decide (a.ints.length ≤ 4096)
  else if n = 112 then withinD a.ints 8 0 7 else if n = 120 then withinD a.ints 8 (-8) 8 else if n = 122 then withinD a.ints 8 1 4096 else if n = 100 then withinD a.ints 16 0 4096
  else true

set_option maxRecDepth 100000 in
set_option maxHeartbeats 1000000 in
theorem may_48 (nm : ByteArray) (m : Bool) (op : Int) (cs : List Value) (a : AttrD) (w : World) (hr : rep w (old w.heap.size) cs a) :
    Calls Tryd.prog 40 #[.agg #[.string nm, .int .u8 48, .bool m], .int .i64 op, .agg cs.toArray] w fun e w' => e = .returned (.bool (mayD 48 op nm a)) ∧ Below w.heap.size w w' := by
  obtain ⟨A1, k1, A2, k2, A3, k3, A4, k4, A5, k5, A6, k6, rfl, h0, h1, h2, h3, h4, ht, hf, hi⟩ := open_AttrD hr
  have hb : ∀ o1 o2 : Obj, Below w.heap.size w ((w.alloc o1).alloc o2) := fun _ _ => ((Below.refl w.heap.size w).alloc (Nat.le_refl _) _).alloc (by simp) _
  have HB := Lib.hid hb
  clear hr h0 h1 h2 h3 h4 ht hf hi hb
  by_cases g1 : (0 : Int) ≤ a.i
  · by_cases g2 : a.i ≤ 0
    · have hm : mayD 48 op nm a = true := by simp [mayD, rangeD, g1, g2]
      rw [hm]
      clear hm
      go_enter Tryd.func40, Tryd.ntmps40
      go_wp2
      go_ret
      exact ⟨rfl, HB.out _ _⟩
    · have hm : mayD 48 op nm a = false := by simp [mayD, rangeD, g1, g2]
      rw [hm]
      clear hm
      go_enter Tryd.func40, Tryd.ntmps40
      go_wp2
      go_ret
      exact ⟨rfl, HB.out _ _⟩
  · have hm : mayD 48 op nm a = false := by simp [mayD, rangeD, g1]
    rw [hm]
    clear hm
    go_enter Tryd.func40, Tryd.ntmps40
    go_wp2
    go_ret
    exact ⟨rfl, HB.out _ _⟩

set_option maxRecDepth 100000 in
set_option maxHeartbeats 1000000 in
theorem may_49 (nm : ByteArray) (m : Bool) (op : Int) (cs : List Value) (a : AttrD) (w : World) (hr : rep w (old w.heap.size) cs a) :
    Calls Tryd.prog 40 #[.agg #[.string nm, .int .u8 49, .bool m], .int .i64 op, .agg cs.toArray] w fun e w' => e = .returned (.bool (mayD 49 op nm a)) ∧ Below w.heap.size w w' := by
  obtain ⟨A1, k1, A2, k2, A3, k3, A4, k4, A5, k5, A6, k6, rfl, h0, h1, h2, h3, h4, ht, hf, hi⟩ := open_AttrD hr
  have hb : ∀ o1 o2 : Obj, Below w.heap.size w ((w.alloc o1).alloc o2) := fun _ _ => ((Below.refl w.heap.size w).alloc (Nat.le_refl _) _).alloc (by simp) _
  have HB := Lib.hid hb
  clear hr h0 h1 h2 h3 h4 ht hf hi hb
  by_cases g1 : (1 : Int) ≤ a.i
  · by_cases g2 : a.i ≤ 1
    · have hm : mayD 49 op nm a = true := by simp [mayD, rangeD, g1, g2]
      rw [hm]
      clear hm
      go_enter Tryd.func40, Tryd.ntmps40
      go_wp2
      go_ret
      exact ⟨rfl, HB.out _ _⟩
    · have hm : mayD 49 op nm a = false := by simp [mayD, rangeD, g1, g2]
      rw [hm]
      clear hm
      go_enter Tryd.func40, Tryd.ntmps40
      go_wp2
      go_ret
      exact ⟨rfl, HB.out _ _⟩
  · have hm : mayD 49 op nm a = false := by simp [mayD, rangeD, g1]
    rw [hm]
    clear hm
    go_enter Tryd.func40, Tryd.ntmps40
    go_wp2
    go_ret
    exact ⟨rfl, HB.out _ _⟩

set_option maxRecDepth 100000 in
set_option maxHeartbeats 1000000 in
theorem may_98 (nm : ByteArray) (m : Bool) (op : Int) (cs : List Value) (a : AttrD) (w : World) (hr : rep w (old w.heap.size) cs a) :
    Calls Tryd.prog 40 #[.agg #[.string nm, .int .u8 98, .bool m], .int .i64 op, .agg cs.toArray] w fun e w' => e = .returned (.bool (mayD 98 op nm a)) ∧ Below w.heap.size w w' := by
  obtain ⟨A1, k1, A2, k2, A3, k3, A4, k4, A5, k5, A6, k6, rfl, h0, h1, h2, h3, h4, ht, hf, hi⟩ := open_AttrD hr
  have hb : ∀ o1 o2 : Obj, Below w.heap.size w ((w.alloc o1).alloc o2) := fun _ _ => ((Below.refl w.heap.size w).alloc (Nat.le_refl _) _).alloc (by simp) _
  have HB := Lib.hid hb
  clear hr h0 h1 h2 h3 h4 ht hf hi hb
  by_cases g1 : (0 : Int) ≤ a.i
  · by_cases g2 : a.i ≤ 1
    · have hm : mayD 98 op nm a = true := by simp [mayD, rangeD, g1, g2]
      rw [hm]
      clear hm
      go_enter Tryd.func40, Tryd.ntmps40
      go_wp2
      go_ret
      exact ⟨rfl, HB.out _ _⟩
    · have hm : mayD 98 op nm a = false := by simp [mayD, rangeD, g1, g2]
      rw [hm]
      clear hm
      go_enter Tryd.func40, Tryd.ntmps40
      go_wp2
      go_ret
      exact ⟨rfl, HB.out _ _⟩
  · have hm : mayD 98 op nm a = false := by simp [mayD, rangeD, g1]
    rw [hm]
    clear hm
    go_enter Tryd.func40, Tryd.ntmps40
    go_wp2
    go_ret
    exact ⟨rfl, HB.out _ _⟩

set_option maxRecDepth 100000 in
set_option maxHeartbeats 1000000 in
theorem may_97 (nm : ByteArray) (m : Bool) (op : Int) (cs : List Value) (a : AttrD) (w : World) (hr : rep w (old w.heap.size) cs a) :
    Calls Tryd.prog 40 #[.agg #[.string nm, .int .u8 97, .bool m], .int .i64 op, .agg cs.toArray] w fun e w' => e = .returned (.bool (mayD 97 op nm a)) ∧ Below w.heap.size w w' := by
  obtain ⟨A1, k1, A2, k2, A3, k3, A4, k4, A5, k5, A6, k6, rfl, h0, h1, h2, h3, h4, ht, hf, hi⟩ := open_AttrD hr
  have hb : ∀ o1 o2 : Obj, Below w.heap.size w ((w.alloc o1).alloc o2) := fun _ _ => ((Below.refl w.heap.size w).alloc (Nat.le_refl _) _).alloc (by simp) _
  have HB := Lib.hid hb
  clear hr h0 h1 h2 h3 h4 ht hf hi hb
  by_cases g1 : (-8 : Int) ≤ a.i
  · by_cases g2 : a.i ≤ 8
    · have hm : mayD 97 op nm a = true := by simp [mayD, rangeD, g1, g2]
      rw [hm]
      clear hm
      go_enter Tryd.func40, Tryd.ntmps40
      go_wp2
      go_ret
      exact ⟨rfl, HB.out _ _⟩
    · have hm : mayD 97 op nm a = false := by simp [mayD, rangeD, g1, g2]
      rw [hm]
      clear hm
      go_enter Tryd.func40, Tryd.ntmps40
      go_wp2
      go_ret
      exact ⟨rfl, HB.out _ _⟩
  · have hm : mayD 97 op nm a = false := by simp [mayD, rangeD, g1]
    rw [hm]
    clear hm
    go_enter Tryd.func40, Tryd.ntmps40
    go_wp2
    go_ret
    exact ⟨rfl, HB.out _ _⟩

set_option maxRecDepth 100000 in
set_option maxHeartbeats 1000000 in
theorem may_115 (nm : ByteArray) (m : Bool) (op : Int) (cs : List Value) (a : AttrD) (w : World) (hr : rep w (old w.heap.size) cs a) :
    Calls Tryd.prog 40 #[.agg #[.string nm, .int .u8 115, .bool m], .int .i64 op, .agg cs.toArray] w fun e w' => e = .returned (.bool (mayD 115 op nm a)) ∧ Below w.heap.size w w' := by
  obtain ⟨A1, k1, A2, k2, A3, k3, A4, k4, A5, k5, A6, k6, rfl, h0, h1, h2, h3, h4, ht, hf, hi⟩ := open_AttrD hr
  have hb : ∀ o1 o2 : Obj, Below w.heap.size w ((w.alloc o1).alloc o2) := fun _ _ => ((Below.refl w.heap.size w).alloc (Nat.le_refl _) _).alloc (by simp) _
  have HB := Lib.hid hb
  clear hr h0 h1 h2 h3 h4 ht hf hi hb
  by_cases g1 : (1 : Int) ≤ a.i
  · by_cases g2 : a.i ≤ 4096
    · have hm : mayD 115 op nm a = true := by simp [mayD, rangeD, g1, g2]
      rw [hm]
      clear hm
      go_enter Tryd.func40, Tryd.ntmps40
      go_wp2
      go_ret
      exact ⟨rfl, HB.out _ _⟩
    · have hm : mayD 115 op nm a = false := by simp [mayD, rangeD, g1, g2]
      rw [hm]
      clear hm
      go_enter Tryd.func40, Tryd.ntmps40
      go_wp2
      go_ret
      exact ⟨rfl, HB.out _ _⟩
  · have hm : mayD 115 op nm a = false := by simp [mayD, rangeD, g1]
    rw [hm]
    clear hm
    go_enter Tryd.func40, Tryd.ntmps40
    go_wp2
    go_ret
    exact ⟨rfl, HB.out _ _⟩

set_option maxRecDepth 100000 in
set_option maxHeartbeats 1000000 in
theorem may_121 (nm : ByteArray) (m : Bool) (op : Int) (cs : List Value) (a : AttrD) (w : World) (hr : rep w (old w.heap.size) cs a) :
    Calls Tryd.prog 40 #[.agg #[.string nm, .int .u8 121, .bool m], .int .i64 op, .agg cs.toArray] w fun e w' => e = .returned (.bool (mayD 121 op nm a)) ∧ Below w.heap.size w w' := by
  obtain ⟨A1, k1, A2, k2, A3, k3, A4, k4, A5, k5, A6, k6, rfl, h0, h1, h2, h3, h4, ht, hf, hi⟩ := open_AttrD hr
  have hb : ∀ o1 o2 : Obj, Below w.heap.size w ((w.alloc o1).alloc o2) := fun _ _ => ((Below.refl w.heap.size w).alloc (Nat.le_refl _) _).alloc (by simp) _
  have HB := Lib.hid hb
  clear hr h0 h1 h2 h3 h4 ht hf hi hb
  cases e1 : (a.i == 1) <;> cases e2 : (a.i == 7) <;> cases e3 : (a.i == 9)
  all_goals
    have hm : mayD 121 op nm a = (a.i == 1 || a.i == 7 || a.i == 9) := rfl
    rw [e1, e2, e3] at hm
    rw [hm]
    clear hm
    go_enter Tryd.func40, Tryd.ntmps40
    go_wp2
    go_ret
    exact ⟨rfl, HB.out _ _⟩

set_option maxRecDepth 100000 in
set_option maxHeartbeats 1000000 in
theorem may_116 (nm : ByteArray) (m : Bool) (op : Int) (cs : List Value) (a : AttrD) (w : World) (hr : rep w (old w.heap.size) cs a) :
    Calls Tryd.prog 40 #[.agg #[.string nm, .int .u8 116, .bool m], .int .i64 op, .agg cs.toArray] w fun e w' => e = .returned (.bool (mayD 116 op nm a)) ∧ Below w.heap.size w w' := by
  obtain ⟨A1, k1, A2, k2, A3, k3, A4, k4, A5, k5, A6, k6, rfl, h0, h1, h2, h3, h4, ht, hf, hi⟩ := open_AttrD hr
  have hb : ∀ o1 o2 : Obj, Below w.heap.size w ((w.alloc o1).alloc o2) := fun _ _ => ((Below.refl w.heap.size w).alloc (Nat.le_refl _) _).alloc (by simp) _
  have HB := Lib.hid hb
  clear hr h0 h1 h2 h3 h4 ht hf hi hb
  have hm : mayD 116 op nm a = (modeOfD op nm a.s).isSome := rfl
  rw [hm]
  clear hm
  go_enter Tryd.func40, Tryd.ntmps40
  go_wp2_with fail
  refine (modeOf_any op nm a.s _).mono ?_
  rintro e w1 ⟨rfl, hb1⟩
  have H1 := Lib.hid hb1
  clear hb1
  go_wp2
  go_ret
  exact ⟨rfl, (HB.out _ _).trans (H1.out.mono (by simp; omega))⟩

set_option maxRecDepth 100000 in
set_option maxHeartbeats 1000000 in
theorem may_83 (nm : ByteArray) (m : Bool) (op : Int) (cs : List Value) (a : AttrD) (w : World) (hr : rep w (old w.heap.size) cs a) :
    Calls Tryd.prog 40 #[.agg #[.string nm, .int .u8 83, .bool m], .int .i64 op, .agg cs.toArray] w fun e w' => e = .returned (.bool (mayD 83 op nm a)) ∧ Below w.heap.size w w' := by
  obtain ⟨A1, k1, A2, k2, A3, k3, A4, k4, A5, k5, A6, k6, rfl, h0, h1, h2, h3, h4, ht, hf, hi⟩ := open_AttrD hr
  have hb : ∀ o1 o2 : Obj, Below w.heap.size w ((w.alloc o1).alloc o2) := fun _ _ => ((Below.refl w.heap.size w).alloc (Nat.le_refl _) _).alloc (by simp) _
  have HB := Lib.hid hb
  obtain ⟨_, _, _, _, _, _, _, _, hcs, _, t1, t2, t3, t4⟩ := open_TensorD ht
  simp only [List.cons.injEq, Value.slice.injEq, true_and, and_true] at hcs
  obtain ⟨⟨rfl, rfl⟩, ⟨rfl, rfl⟩, ⟨rfl, rfl⟩, ⟨rfl, rfl⟩⟩ := hcs
  obtain ⟨_, _, _, hv2, _, _, b2, _⟩ := open_slice t2
  obtain ⟨_, _, _, hv3, _, _, b3, _⟩ := open_slice t3
  obtain ⟨_, _, _, hv4, _, _, b4, _⟩ := open_slice t4
  replace b2 : a.t.f.length * 4 ≤ 140737488351232 := b2
  replace b3 : a.t.i.length * 8 ≤ 140737488351232 := b3
  replace b4 : a.t.b.length * 1 ≤ 140737488351232 := b4
  clear hr h0 h1 h2 h3 h4 ht hf hi hb t1 t2 t3 t4 hv2 hv3 hv4
  have hm : mayD 83 op nm a = decide (a.t.f.length + a.t.i.length + a.t.b.length = 1) := rfl
  rw [hm]
  clear hm
  go_enter Tryd.func40, Tryd.ntmps40
  go_wp2
  go_ret
  refine ⟨?_, HB.out _ _⟩
  show Ending.returned (Value.bool ((a.t.f.length : Int) + a.t.i.length + a.t.b.length == 1)) = _
  rw [show ((a.t.f.length : Int) + a.t.i.length + a.t.b.length == 1) = decide (a.t.f.length + a.t.i.length + a.t.b.length = 1) from by rw [Bool.eq_iff_iff]; simp; omega]

set_option maxRecDepth 100000 in
set_option maxHeartbeats 1000000 in
theorem may_70 (nm : ByteArray) (m : Bool) (op : Int) (cs : List Value) (a : AttrD) (w : World) (hr : rep w (old w.heap.size) cs a) :
    Calls Tryd.prog 40 #[.agg #[.string nm, .int .u8 70, .bool m], .int .i64 op, .agg cs.toArray] w fun e w' => e = .returned (.bool (mayD 70 op nm a)) ∧ Below w.heap.size w w' := by
  obtain ⟨A1, k1, A2, k2, A3, k3, A4, k4, A5, k5, A6, k6, rfl, h0, h1, h2, h3, h4, ht, hf, hi⟩ := open_AttrD hr
  have hb : ∀ o1 o2 : Obj, Below w.heap.size w ((w.alloc o1).alloc o2) := fun _ _ => ((Below.refl w.heap.size w).alloc (Nat.le_refl _) _).alloc (by simp) _
  have HB := Lib.hid hb
  clear hr h0 h1 h2 h3 h4 ht hf hi hb
  by_cases g : a.floats.length ≤ 4096
  · have hm : mayD 70 op nm a = true := by simp [mayD, g]
    rw [hm]
    clear hm
    have g' : (a.floats.length : Int) ≤ 4096 := by omega
    clear g
    go_enter Tryd.func40, Tryd.ntmps40
    go_wp2
    go_ret
    exact ⟨rfl, HB.out _ _⟩
  · have hm : mayD 70 op nm a = false := by simp [mayD, g]
    rw [hm]
    clear hm
    have g' : ¬ (a.floats.length : Int) ≤ 4096 := by omega
    clear g
    go_enter Tryd.func40, Tryd.ntmps40
    go_wp2
    go_ret
    exact ⟨rfl, HB.out _ _⟩

set_option maxRecDepth 100000 in
set_option maxHeartbeats 1000000 in
theorem may_73 (nm : ByteArray) (m : Bool) (op : Int) (cs : List Value) (a : AttrD) (w : World) (hr : rep w (old w.heap.size) cs a) :
    Calls Tryd.prog 40 #[.agg #[.string nm, .int .u8 73, .bool m], .int .i64 op, .agg cs.toArray] w fun e w' => e = .returned (.bool (mayD 73 op nm a)) ∧ Below w.heap.size w w' := by
  obtain ⟨A1, k1, A2, k2, A3, k3, A4, k4, A5, k5, A6, k6, rfl, h0, h1, h2, h3, h4, ht, hf, hi⟩ := open_AttrD hr
  have hb : ∀ o1 o2 : Obj, Below w.heap.size w ((w.alloc o1).alloc o2) := fun _ _ => ((Below.refl w.heap.size w).alloc (Nat.le_refl _) _).alloc (by simp) _
  have HB := Lib.hid hb
  clear hr h0 h1 h2 h3 h4 ht hf hi hb
  by_cases g : a.ints.length ≤ 4096
  · have hm : mayD 73 op nm a = true := by simp [mayD, g]
    rw [hm]
    clear hm
    have g' : (a.ints.length : Int) ≤ 4096 := by omega
    clear g
    go_enter Tryd.func40, Tryd.ntmps40
    go_wp2
    go_ret
    exact ⟨rfl, HB.out _ _⟩
  · have hm : mayD 73 op nm a = false := by simp [mayD, g]
    rw [hm]
    clear hm
    have g' : ¬ (a.ints.length : Int) ≤ 4096 := by omega
    clear g
    go_enter Tryd.func40, Tryd.ntmps40
    go_wp2
    go_ret
    exact ⟨rfl, HB.out _ _⟩

set_option maxRecDepth 100000 in
set_option maxHeartbeats 1000000 in
theorem may_112 (nm : ByteArray) (m : Bool) (op : Int) (cs : List Value) (a : AttrD) (w : World) (hr : rep w (old w.heap.size) cs a) :
    Calls Tryd.prog 40 #[.agg #[.string nm, .int .u8 112, .bool m], .int .i64 op, .agg cs.toArray] w fun e w' => e = .returned (.bool (mayD 112 op nm a)) ∧ Below w.heap.size w w' := by
  obtain ⟨A1, k1, A2, k2, A3, k3, A4, k4, A5, k5, A6, k6, rfl, h0, h1, h2, h3, h4, ht, hf, hi⟩ := open_AttrD hr
  have hb : ∀ o1 o2 : Obj, Below w.heap.size w ((w.alloc o1).alloc o2) := fun _ _ => ((Below.refl w.heap.size w).alloc (Nat.le_refl _) _).alloc (by simp) _
  have HB := Lib.hid hb
  have hi2 : ∀ o1 o2 : Obj, rep ((w.alloc o1).alloc o2) (old ((w.alloc o1).alloc o2).heap.size) [.slice A6 a.ints.length k6] a.ints := fun o1 o2 => Rep.more (Rep.keep hi (Keeps.old_below (hb o1 o2) (Nat.le_refl _))) (old_le (by simp; omega))
  have HI := Lib.hid hi2
  clear hr h0 h1 h2 h3 h4 ht hf hi hb hi2
  have hm : mayD 112 op nm a = withinD a.ints 8 0 7 := rfl
  rw [hm]
  clear hm
  go_enter Tryd.func40, Tryd.ntmps40
  go_wp2_with fail
  refine (within_any a.ints _ 8 0 7 _ (HI.out _ _)).mono ?_
  rintro e w1 ⟨rfl, hb1⟩
  have H1 := Lib.hid hb1
  clear hb1
  go_wp2
  go_ret
  exact ⟨rfl, (HB.out _ _).trans (H1.out.mono (by simp; omega))⟩

set_option maxRecDepth 100000 in
set_option maxHeartbeats 1000000 in
theorem may_120 (nm : ByteArray) (m : Bool) (op : Int) (cs : List Value) (a : AttrD) (w : World) (hr : rep w (old w.heap.size) cs a) :
    Calls Tryd.prog 40 #[.agg #[.string nm, .int .u8 120, .bool m], .int .i64 op, .agg cs.toArray] w fun e w' => e = .returned (.bool (mayD 120 op nm a)) ∧ Below w.heap.size w w' := by
  obtain ⟨A1, k1, A2, k2, A3, k3, A4, k4, A5, k5, A6, k6, rfl, h0, h1, h2, h3, h4, ht, hf, hi⟩ := open_AttrD hr
  have hb : ∀ o1 o2 : Obj, Below w.heap.size w ((w.alloc o1).alloc o2) := fun _ _ => ((Below.refl w.heap.size w).alloc (Nat.le_refl _) _).alloc (by simp) _
  have HB := Lib.hid hb
  have hi2 : ∀ o1 o2 : Obj, rep ((w.alloc o1).alloc o2) (old ((w.alloc o1).alloc o2).heap.size) [.slice A6 a.ints.length k6] a.ints := fun o1 o2 => Rep.more (Rep.keep hi (Keeps.old_below (hb o1 o2) (Nat.le_refl _))) (old_le (by simp; omega))
  have HI := Lib.hid hi2
  clear hr h0 h1 h2 h3 h4 ht hf hi hb hi2
  have hm : mayD 120 op nm a = withinD a.ints 8 (-8) 8 := rfl
  rw [hm]
  clear hm
  go_enter Tryd.func40, Tryd.ntmps40
  go_wp2_with fail
  refine (within_any a.ints _ 8 (-8) 8 _ (HI.out _ _)).mono ?_
  rintro e w1 ⟨rfl, hb1⟩
  have H1 := Lib.hid hb1
  clear hb1
  go_wp2
  go_ret
  exact ⟨rfl, (HB.out _ _).trans (H1.out.mono (by simp; omega))⟩

set_option maxRecDepth 100000 in
set_option maxHeartbeats 1000000 in
theorem may_122 (nm : ByteArray) (m : Bool) (op : Int) (cs : List Value) (a : AttrD) (w : World) (hr : rep w (old w.heap.size) cs a) :
    Calls Tryd.prog 40 #[.agg #[.string nm, .int .u8 122, .bool m], .int .i64 op, .agg cs.toArray] w fun e w' => e = .returned (.bool (mayD 122 op nm a)) ∧ Below w.heap.size w w' := by
  obtain ⟨A1, k1, A2, k2, A3, k3, A4, k4, A5, k5, A6, k6, rfl, h0, h1, h2, h3, h4, ht, hf, hi⟩ := open_AttrD hr
  have hb : ∀ o1 o2 : Obj, Below w.heap.size w ((w.alloc o1).alloc o2) := fun _ _ => ((Below.refl w.heap.size w).alloc (Nat.le_refl _) _).alloc (by simp) _
  have HB := Lib.hid hb
  have hi2 : ∀ o1 o2 : Obj, rep ((w.alloc o1).alloc o2) (old ((w.alloc o1).alloc o2).heap.size) [.slice A6 a.ints.length k6] a.ints := fun o1 o2 => Rep.more (Rep.keep hi (Keeps.old_below (hb o1 o2) (Nat.le_refl _))) (old_le (by simp; omega))
  have HI := Lib.hid hi2
  clear hr h0 h1 h2 h3 h4 ht hf hi hb hi2
  have hm : mayD 122 op nm a = withinD a.ints 8 1 4096 := rfl
  rw [hm]
  clear hm
  go_enter Tryd.func40, Tryd.ntmps40
  go_wp2_with fail
  refine (within_any a.ints _ 8 1 4096 _ (HI.out _ _)).mono ?_
  rintro e w1 ⟨rfl, hb1⟩
  have H1 := Lib.hid hb1
  clear hb1
  go_wp2
  go_ret
  exact ⟨rfl, (HB.out _ _).trans (H1.out.mono (by simp; omega))⟩

set_option maxRecDepth 100000 in
set_option maxHeartbeats 1000000 in
theorem may_100 (nm : ByteArray) (m : Bool) (op : Int) (cs : List Value) (a : AttrD) (w : World) (hr : rep w (old w.heap.size) cs a) :
    Calls Tryd.prog 40 #[.agg #[.string nm, .int .u8 100, .bool m], .int .i64 op, .agg cs.toArray] w fun e w' => e = .returned (.bool (mayD 100 op nm a)) ∧ Below w.heap.size w w' := by
  obtain ⟨A1, k1, A2, k2, A3, k3, A4, k4, A5, k5, A6, k6, rfl, h0, h1, h2, h3, h4, ht, hf, hi⟩ := open_AttrD hr
  have hb : ∀ o1 o2 : Obj, Below w.heap.size w ((w.alloc o1).alloc o2) := fun _ _ => ((Below.refl w.heap.size w).alloc (Nat.le_refl _) _).alloc (by simp) _
  have HB := Lib.hid hb
  have hi2 : ∀ o1 o2 : Obj, rep ((w.alloc o1).alloc o2) (old ((w.alloc o1).alloc o2).heap.size) [.slice A6 a.ints.length k6] a.ints := fun o1 o2 => Rep.more (Rep.keep hi (Keeps.old_below (hb o1 o2) (Nat.le_refl _))) (old_le (by simp; omega))
  have HI := Lib.hid hi2
  clear hr h0 h1 h2 h3 h4 ht hf hi hb hi2
  have hm : mayD 100 op nm a = withinD a.ints 16 0 4096 := rfl
  rw [hm]
  clear hm
  go_enter Tryd.func40, Tryd.ntmps40
  go_wp2_with fail
  refine (within_any a.ints _ 16 0 4096 _ (HI.out _ _)).mono ?_
  rintro e w1 ⟨rfl, hb1⟩
  have H1 := Lib.hid hb1
  clear hb1
  go_wp2
  go_ret
  exact ⟨rfl, (HB.out _ _).trans (H1.out.mono (by simp; omega))⟩

set_option maxRecDepth 100000 in
set_option maxHeartbeats 1000000 in
theorem may_102 (nm : ByteArray) (m : Bool) (op : Int) (cs : List Value) (a : AttrD) (w : World) (hr : rep w (old w.heap.size) cs a) :
    Calls Tryd.prog 40 #[.agg #[.string nm, .int .u8 102, .bool m], .int .i64 op, .agg cs.toArray] w fun e w' => e = .returned (.bool (mayD 102 op nm a)) ∧ Below w.heap.size w w' := by
  obtain ⟨A1, k1, A2, k2, A3, k3, A4, k4, A5, k5, A6, k6, rfl, h0, h1, h2, h3, h4, ht, hf, hi⟩ := open_AttrD hr
  have hb : ∀ o1 o2 : Obj, Below w.heap.size w ((w.alloc o1).alloc o2) := fun _ _ => ((Below.refl w.heap.size w).alloc (Nat.le_refl _) _).alloc (by simp) _
  have HB := Lib.hid hb
  clear hr h0 h1 h2 h3 h4 ht hf hi hb
  have hm : mayD 102 op nm a = true := rfl
  rw [hm]
  clear hm
  go_enter Tryd.func40, Tryd.ntmps40
  go_wp2
  go_ret
  exact ⟨rfl, HB.out _ _⟩

set_option maxRecDepth 100000 in
set_option maxHeartbeats 1000000 in
theorem may_105 (nm : ByteArray) (m : Bool) (op : Int) (cs : List Value) (a : AttrD) (w : World) (hr : rep w (old w.heap.size) cs a) :
    Calls Tryd.prog 40 #[.agg #[.string nm, .int .u8 105, .bool m], .int .i64 op, .agg cs.toArray] w fun e w' => e = .returned (.bool (mayD 105 op nm a)) ∧ Below w.heap.size w w' := by
  obtain ⟨A1, k1, A2, k2, A3, k3, A4, k4, A5, k5, A6, k6, rfl, h0, h1, h2, h3, h4, ht, hf, hi⟩ := open_AttrD hr
  have hb : ∀ o1 o2 : Obj, Below w.heap.size w ((w.alloc o1).alloc o2) := fun _ _ => ((Below.refl w.heap.size w).alloc (Nat.le_refl _) _).alloc (by simp) _
  have HB := Lib.hid hb
  clear hr h0 h1 h2 h3 h4 ht hf hi hb
  have hm : mayD 105 op nm a = true := rfl
  rw [hm]
  clear hm
  go_enter Tryd.func40, Tryd.ntmps40
  go_wp2
  go_ret
  exact ⟨rfl, HB.out _ _⟩

set_option maxRecDepth 100000 in
set_option maxHeartbeats 1000000 in
theorem may_84 (nm : ByteArray) (m : Bool) (op : Int) (cs : List Value) (a : AttrD) (w : World) (hr : rep w (old w.heap.size) cs a) :
    Calls Tryd.prog 40 #[.agg #[.string nm, .int .u8 84, .bool m], .int .i64 op, .agg cs.toArray] w fun e w' => e = .returned (.bool (mayD 84 op nm a)) ∧ Below w.heap.size w w' := by
  obtain ⟨A1, k1, A2, k2, A3, k3, A4, k4, A5, k5, A6, k6, rfl, h0, h1, h2, h3, h4, ht, hf, hi⟩ := open_AttrD hr
  have hb : ∀ o1 o2 : Obj, Below w.heap.size w ((w.alloc o1).alloc o2) := fun _ _ => ((Below.refl w.heap.size w).alloc (Nat.le_refl _) _).alloc (by simp) _
  have HB := Lib.hid hb
  clear hr h0 h1 h2 h3 h4 ht hf hi hb
  have hm : mayD 84 op nm a = true := rfl
  rw [hm]
  clear hm
  go_enter Tryd.func40, Tryd.ntmps40
  go_wp2
  go_ret
  exact ⟨rfl, HB.out _ _⟩

/-- The letters of the table. -/
def lettersD : List Int := [48, 49, 98, 97, 115, 121, 116, 83, 70, 73, 112, 120, 122, 100, 102, 105, 84]
theorem may_any (n : Int) (hn : n ∈ lettersD) (nm : ByteArray) (m : Bool) (op : Int) (cs : List Value) (a : AttrD) (w : World) (hr : rep w (old w.heap.size) cs a) :
    Calls Tryd.prog 40 #[.agg #[.string nm, .int .u8 n, .bool m], .int .i64 op, .agg cs.toArray] w fun e w' => e = .returned (.bool (mayD n op nm a)) ∧ Below w.heap.size w w' := by
  simp only [lettersD, List.mem_cons, List.not_mem_nil, or_false] at hn
  rcases hn with rfl | rfl | rfl | rfl | rfl | rfl | rfl | rfl | rfl | rfl | rfl | rfl | rfl | rfl | rfl | rfl | rfl
  · exact may_48 nm m op cs a w hr
  · exact may_49 nm m op cs a w hr
  · exact may_98 nm m op cs a w hr
  · exact may_97 nm m op cs a w hr
  · exact may_115 nm m op cs a w hr
  · exact may_121 nm m op cs a w hr
  · exact may_116 nm m op cs a w hr
  · exact may_83 nm m op cs a w hr
  · exact may_70 nm m op cs a w hr
  · exact may_73 nm m op cs a w hr
  · exact may_112 nm m op cs a w hr
  · exact may_120 nm m op cs a w hr
  · exact may_122 nm m op cs a w hr
  · exact may_100 nm m op cs a w hr
  · exact may_102 nm m op cs a w hr
  · exact may_105 nm m op cs a w hr
  · exact may_84 nm m op cs a w hr
end Go.Proofs.YtgbkhcmbmffljaaDoor

