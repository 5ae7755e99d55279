/-
  A part of the proofs of chapter 08: walks of the package ops. No condition.
-/
import Derived.Test.YtgbkhcmbmffljaaDoorOpsB
import Derived.Test.YtgbkhcmbmffljaaDoorData
namespace Go.Proofs.YtgbkhcmbmffljaaDoor
open Go.RowKit
open Rep (rep)

set_option maxRecDepth 100000 in
set_option maxHeartbeats 400000 in
theorem row_name (a b : ByteArray) (c d e f : Int) (w : World) : (Instr.field 79 (.agg #[.string a, .int .i64 c, .int .i64 d, .int .i64 e, .int .i64 f, .string b]) 0).run Tryd.prog w = .ok (.string a) w := by kernel_rfl
set_option maxHeartbeats 400000 in
theorem name_any (op : Int) (w : World) (hI : I64 op) :
    Calls Tryd.prog 16 #[.int .i64 op] w fun e w' => e = .returned (.string (findD op).name) ∧ Below w.heap.size w w' := by
  go_enter Tryd.func16, Tryd.ntmps16
  go_wp2_with fail
  refine (find_any op _ hI).mono ?_
  rintro e w1 ⟨rfl, hb⟩
  have H := Lib.hid hb
  clear hb
  obtain ⟨r, hr⟩ : ∃ r, findD op = r := ⟨_, rfl⟩
  rw [hr]
  have HR := Lib.hid hr
  clear hr
  unfold RowD.cells
  have hf := row_name
  go_wp2
  go_ret
  exact ⟨by rw [HR.out]; rfl, H.out⟩

set_option maxRecDepth 100000 in
set_option maxHeartbeats 400000 in
theorem arity_any (op : Int) (w : World) (hI : I64 op) :
    Calls Tryd.prog 12 #[.int .i64 op] w fun e w' => e = .returned (.tuple #[.int .i64 (findD op).least, .int .i64 (findD op).most, .int .i64 (findD op).out, .int .i64 (findD op).mostOuts]) ∧ Below w.heap.size w w' := by
  go_enter Tryd.func12, Tryd.ntmps12
  go_wp2_with fail
  refine (find_any op _ hI).mono ?_
  rintro e w1 ⟨rfl, hb⟩
  have H := Lib.hid hb
  clear hb
  obtain ⟨r, hr⟩ : ∃ r, findD op = r := ⟨_, rfl⟩
  rw [hr]
  have HR := Lib.hid hr
  clear hr
  unfold RowD.cells
  go_wp2
  go_quiet (fail)
  go_wp2
  refine bodyPost_ret (v := .tuple #[.int .i64 r.least, .int .i64 r.most, .int .i64 r.out, .int .i64 r.mostOuts]) (by simp [results, Tryd.results12]) rfl ⟨by rw [HR.out], ?_⟩
  exact below_drewN (H.out.alloc H.out.size _) _

/-- The kind that a letter's attributes are of. -/
def kindD (n : Int) : Int :=
  if n = 102 then 1 else if n = 116 then 3 else if n = 84 ∨ n = 83 then 4 else if n = 70 then 6 else if n = 73 ∨ n = 112 ∨ n = 120 ∨ n = 122 ∨ n = 100 then 7 else 2

set_option maxRecDepth 100000 in
set_option maxHeartbeats 1000000 in
theorem kind_any (nm : ByteArray) (n : Int) (b : Bool) (w : World) :
    Calls Tryd.prog 39 #[.agg #[.string nm, .int .u8 n, .bool b]] w fun e w' => e = .returned (.int .i64 (kindD n)) ∧ w.alloc (.cells #[.string nm, .int .u8 n, .bool b] 84) = w' := by
  go_enter Tryd.func39, Tryd.ntmps39
  go_wp2
  all_goals (go_ret; refine ⟨?_, rfl⟩; simp_all [kindD])

/-- Is a number outside? -/
def outD (lo hi x : Int) : Bool := decide (x < lo ∨ x > hi)

set_option maxRecDepth 100000 in
set_option maxHeartbeats 400000 in
theorem within1_any (x lo hi : Int) (b1 b2 : Nat) (w : World) (h1 : w.cell? ⟨b1, 0, none⟩ = some (.int .i64 lo)) (h2 : w.cell? ⟨b2, 0, none⟩ = some (.int .i64 hi)) :
    Calls Tryd.prog 106 #[.int .i64 x, .pointer (some ⟨b1, 0, none⟩), .pointer (some ⟨b2, 0, none⟩)] w fun e w' => e = .returned (.bool (outD lo hi x)) ∧ w = w' := by
  by_cases h : x < lo
  · go_enter Tryd.func106, Tryd.ntmps106
    go_wp2
    go_ret
    exact ⟨by simp [outD, h], rfl⟩
  · by_cases h' : hi < x
    · go_enter Tryd.func106, Tryd.ntmps106
      go_wp2
      go_ret
      exact ⟨by simp [outD, h'], rfl⟩
    · go_enter Tryd.func106, Tryd.ntmps106
      go_wp2
      go_ret
      refine ⟨?_, rfl⟩
      have : outD lo hi x = false := by unfold outD; simp; omega
      rw [this]; rfl

set_option maxRecDepth 100000 in
set_option maxHeartbeats 400000 in
theorem indexI64_any (l : List Int) (v : Value) (lo hi : Int) (b1 b2 : Nat) (w : World) (hr : rep w (old w.heap.size) [v] l) (h1 : w.cell? ⟨b1, 0, none⟩ = some (.int .i64 lo)) (h2 : w.cell? ⟨b2, 0, none⟩ = some (.int .i64 hi)) :
    Calls Tryd.prog 123 #[v, .func (.func 106) #[] #[.pointer (some ⟨b1, 0, none⟩), .pointer (some ⟨b2, 0, none⟩)]] w fun e w' => e = .returned (.int .i64 (indexFrom (outD lo hi) l 0)) ∧ w = w' := by
  obtain ⟨A, c, xs, rfl, hnc, hcm, _, hl, hch⟩ := open_slice hr
  clear hr
  go_enter Tryd.func123, Tryd.ntmps123
  go_wp2_with fail
  go_loop [8] (fun i => ∃ pre post : List Int, l = pre ++ post ∧ i = .int .i64 pre.length ∧ indexFrom (outD lo hi) l 0 = indexFrom (outD lo hi) post pre.length)
    (fun i => l.length - (intOf i).toNat)
  case atStart => exact ⟨[], l, rfl, rfl, rfl⟩
  case round =>
    obtain ⟨pre, post, hpp, rfl, hix⟩ := hrel
    cases post with
    | cons z post =>
      obtain ⟨hz, hlt, hpp', hpl⟩ := split_at hpp
      obtain ⟨b', o, cs, rfl, hbB, ⟨rfl, _⟩, hcell⟩ := elem_at hl hch (by decide) hz
      have c0 := (hcell 0 _ rfl).1
      rw [show o + (pre.length * Rep.size Int + 0) = o + pre.length from by simp [Rep.size]] at c0
      have H := Lib.hid (And.intro hpp' (And.intro hpl hix))
      clear hcell hl hch hpp hpp' hpl hz hix
      cases hd : outD lo hi z with
      | true =>
        have HD := Lib.hid hd
        clear hd
        go_wp2_with (go_at_call 106; refine (within1_any z lo hi b1 b2 _ h1 h2).mono ?_; rw [HD.out]; rintro e w1 ⟨rfl, rfl⟩)
        go_ret
        obtain ⟨_, _, hix⟩ := H.out
        refine ⟨?_, rfl⟩
        rw [hix, indexFrom, HD.out]
        rfl
      | false =>
        have HD := Lib.hid hd
        clear hd
        go_wp2_with (go_at_call 106; refine (within1_any z lo hi b1 b2 _ h1 h2).mono ?_; rw [HD.out]; rintro e w1 ⟨rfl, rfl⟩)
        go_round
        case rel =>
          obtain ⟨hpp', hpl, hix⟩ := H.out
          exact ⟨pre ++ [z], post, hpp', by rw [hpl]; go_num, by rw [hix, indexFrom, HD.out, hpl]; rfl⟩
        case measure => simp [intOf]; omega
    | nil =>
      obtain ⟨hge, hpl⟩ := split_end hpp
      have H := Lib.hid hix
      clear hpl hpp hl hch hix
      go_wp2
      go_ret
      exact ⟨by rw [H.out]; rfl, rfl⟩

theorem indexFrom_any {α : Type} (p : α → Bool) : ∀ (l : List α) (k : Nat), decide (0 ≤ indexFrom p l k) = l.any p
  | [], k => by simp [indexFrom]
  | a :: l, k => by
    simp only [indexFrom, List.any_cons]
    split
    · rename_i h; rw [h]; simp
    · rename_i h; rw [indexFrom_any p l (k + 1)]; simp [h]

set_option maxRecDepth 100000 in
set_option maxHeartbeats 400000 in
theorem containsI64_any (l : List Int) (v : Value) (lo hi : Int) (b1 b2 : Nat) (w : World) (hr : rep w (old w.heap.size) [v] l) (h1 : w.cell? ⟨b1, 0, none⟩ = some (.int .i64 lo)) (h2 : w.cell? ⟨b2, 0, none⟩ = some (.int .i64 hi)) :
    Calls Tryd.prog 105 #[v, .func (.func 106) #[] #[.pointer (some ⟨b1, 0, none⟩), .pointer (some ⟨b2, 0, none⟩)]] w fun e w' => e = .returned (.bool (l.any (outD lo hi))) ∧ w = w' := by
  go_enter Tryd.func105, Tryd.ntmps105
  go_wp2_with fail
  refine (indexI64_any l v lo hi b1 b2 w hr h1 h2).mono ?_
  rintro e w1 ⟨rfl, rfl⟩
  have H := Lib.hid (indexFrom_any (outD lo hi) l 0)
  generalize indexFrom (outD lo hi) l 0 = k at *
  go_wp2
  go_ret
  exact ⟨by rw [← H.out]; rfl, rfl⟩

/-- At most so many numbers, each within? -/
def withinD (l : List Int) (most lo hi : Int) : Bool := decide ((l.length : Int) ≤ most) && !l.any (outD lo hi)

set_option maxRecDepth 100000 in
set_option maxHeartbeats 400000 in
theorem within_any (l : List Int) (v : Value) (most lo hi : Int) (w : World) (hr : rep w (old w.heap.size) [v] l) :
    Calls Tryd.prog 71 #[v, .int .i64 most, .int .i64 lo, .int .i64 hi] w fun e w' => e = .returned (.bool (withinD l most lo hi)) ∧ Below w.heap.size w w' := by
  have hr2 : rep ((w.alloc (.cells #[.int .i64 lo] 2)).alloc (.cells #[.int .i64 hi] 2)) (old ((w.alloc (.cells #[.int .i64 lo] 2)).alloc (.cells #[.int .i64 hi] 2)).heap.size) [v] l :=
    Rep.more (Rep.keep hr (Keeps.old_below (((Below.refl w.heap.size w).alloc (Nat.le_refl _) _).alloc (by simp) _) (Nat.le_refl _))) (old_le (by simp; omega))
  have HR := Lib.hid hr2
  have H1 := Lib.hid (cell_new2 w #[.int .i64 lo] 2 (.cells #[.int .i64 hi] 2) 0)
  have h2 := cell_new (w.alloc (.cells #[.int .i64 lo] 2)) #[.int .i64 hi] 2 0
  rw [World.size_alloc] at h2
  have H2 := Lib.hid h2
  clear h2
  obtain ⟨A, c, xs, rfl, hnc, hcm, _, _, _⟩ := open_slice hr
  clear hr hr2
  by_cases h : (l.length : Int) ≤ most
  · have hd : withinD l most lo hi = !l.any (outD lo hi) := by simp [withinD, h]
    have HD := Lib.hid hd
    clear hd
    go_enter Tryd.func71, Tryd.ntmps71
    go_wp2_with (go_at_call 105; refine (containsI64_any l _ lo hi _ _ _ HR.out H1.out H2.out).mono ?_; rintro e w1 ⟨rfl, rfl⟩)
    go_ret
    exact ⟨by rw [HD.out]; rfl, ((Below.refl w.heap.size w).alloc (Nat.le_refl _) _).alloc (by simp) _⟩
  · have hd : withinD l most lo hi = false := by simp [withinD, h]
    have HD := Lib.hid hd
    clear hd
    go_enter Tryd.func71, Tryd.ntmps71
    go_wp2
    go_ret
    exact ⟨by rw [HD.out]; rfl, ((Below.refl w.heap.size w).alloc (Nat.le_refl _) _).alloc (by simp) _⟩
end Go.Proofs.YtgbkhcmbmffljaaDoor
