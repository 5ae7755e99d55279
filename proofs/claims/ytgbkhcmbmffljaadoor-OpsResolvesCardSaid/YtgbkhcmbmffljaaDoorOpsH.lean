/-
  A part of the proofs of chapter 08: walks of the package ops. No condition.
-/
import Derived.Test.YtgbkhcmbmffljaaDoorOpsG
namespace Go.Proofs.YtgbkhcmbmffljaaDoor
open Go.RowKit
open Rep (rep)

structure ModeD where
  op : Int
  name : ByteArray
  text : ByteArray
  mode : Int
def ModeD.cells (r : ModeD) : List Value := [.int .i64 r.op, .string r.name, .string r.text, .int .i64 r.mode]
theorem ModeD.one (r : ModeD) : ∀ u ∈ r.cells, u.oneCell' = true := by
  intro u hu; simp [ModeD.cells] at hu; rcases hu with rfl | rfl | rfl | rfl <;> rfl
instance : Rep ModeD where
  size := 4
  bytes := 48
  rep _ _ cs r := cs = r.cells
  len := by rintro w Z cs a rfl; rfl
  one := by rintro w Z cs a rfl; exact a.one
  keep := fun h _ => h
  more := fun h _ => h
def sAutoPad : ByteArray := ⟨#[97, 117, 116, 111, 95, 112, 97, 100]⟩
def sReduction : ByteArray := ⟨#[114, 101, 100, 117, 99, 116, 105, 111, 110]⟩
def sMode : ByteArray := ⟨#[109, 111, 100, 101]⟩
def modesD : List ModeD := [
  ⟨0, sAutoPad, ⟨#[78, 79, 84, 83, 69, 84]⟩, 0⟩, ⟨0, sAutoPad, ⟨#[86, 65, 76, 73, 68]⟩, 8⟩, ⟨0, sAutoPad, ⟨#[83, 65, 77, 69, 95, 85, 80, 80, 69, 82]⟩, 9⟩, ⟨0, sAutoPad, ⟨#[83, 65, 77, 69, 95, 76, 79, 87, 69, 82]⟩, 10⟩,
  ⟨0, sReduction, ⟨#[110, 111, 110, 101]⟩, 0⟩, ⟨0, sReduction, ⟨#[97, 100, 100]⟩, 4⟩, ⟨0, sReduction, ⟨#[109, 117, 108]⟩, 5⟩,
  ⟨53, sMode, ⟨#[99, 111, 110, 115, 116, 97, 110, 116]⟩, 1⟩, ⟨53, sMode, ⟨#[114, 101, 102, 108, 101, 99, 116]⟩, 2⟩, ⟨53, sMode, ⟨#[101, 100, 103, 101]⟩, 3⟩,
  ⟨63, sMode, ⟨#[68, 67, 82]⟩, 6⟩, ⟨63, sMode, ⟨#[67, 82, 68]⟩, 7⟩]
def modeFits (op : Int) (name text : ByteArray) (m : ModeD) : Bool := (m.op == 0 || m.op == op) && m.name.toList == name.toList && m.text.toList == text.toList
/-- A text's mode. -/
def modeOfD (op : Int) (name text : ByteArray) : Option Int := (modesD.find? (modeFits op name text)).map (·.mode)

theorem chunks_modes {w : World} {Z : Zone} : ∀ (l : List ModeD), Chunks w Z (l.flatMap ModeD.cells) l
  | [] => rfl
  | a :: l => ⟨a.cells, l.flatMap ModeD.cells, rfl, rfl, chunks_modes l⟩

set_option maxRecDepth 100000 in
set_option maxHeartbeats 4000000 in
theorem modeOf_any (op : Int) (name text : ByteArray) (w : World) :
    Calls Tryd.prog 70 #[.int .i64 op, .string name, .string text] w fun e w' => e = .returned (.tuple #[.int .i64 ((modeOfD op name text).getD 0), .bool (modeOfD op name text).isSome]) ∧ Below w.heap.size w w' := by
  go_enter Tryd.func70, Tryd.ntmps70
  go_wp2_with fail
  have hat : ∀ o : Obj, o = .cells (modesD.flatMap ModeD.cells).toArray 155 → Lies (w.alloc o) (old (w.heap.size + 1)) (some ⟨w.heap.size, 0, none⟩) (modesD.flatMap ModeD.cells) ∧ Below w.heap.size w (w.alloc o) ∧ (w.alloc o).heap.size = w.heap.size + 1 := by
    rintro o rfl
    exact ⟨lies_new w _ _, (Below.refl _ _).alloc (Nat.le_refl _) _, by simp⟩
  have HA' := hat _ rfl
  clear hat
  have hlen : modesD.length = 12 := rfl
  change Code.wp _ _ _ _ (w.alloc (.cells (modesD.flatMap ModeD.cells).toArray 155))
  generalize w.alloc (.cells (modesD.flatMap ModeD.cells).toArray 155) = w1 at *
  have HA := Lib.hid HA'
  clear HA'
  have HL := Lib.hid hlen
  clear hlen
  go_loopw [24] (fun i wr => ∃ pre post : List ModeD, modesD = pre ++ post ∧ i = .int .i64 pre.length ∧ modeOfD op name text = (post.find? (modeFits op name text)).map (·.mode) ∧ Below (w.heap.size + 1) w1 wr)
    (fun i _ => 12 - (intOf i).toNat)
  case atStart => exact ⟨[], modesD, rfl, rfl, rfl, Below.refl _ _⟩
  case round =>
    obtain ⟨pre, post, hpp, rfl, hix, hbel⟩ := hrel
    obtain ⟨hli, hb1, hz1⟩ := HA.out
    cases post with
    | cons z post =>
      obtain ⟨hz, hlt, hpp', hpl⟩ := split_at hpp
      rw [HL.out] at hlt
      obtain ⟨b', o, cs, hbo, hbB, hrz, hcell⟩ := elem_at hli (chunks_modes (w := w1) (Z := old (w.heap.size + 1)) modesD) (by decide) hz
      have hrz' : cs = z.cells := hrz
      subst hrz'
      obtain ⟨rfl, rfl⟩ : w.heap.size = b' ∧ 0 = o := by simpa using hbo
      have hat : At wr w.heap.size (pre.length * 4) [.int .i64 z.op, .string z.name, .string z.text, .int .i64 z.mode] := fun j u hu => (hbel.cell (p := ⟨w.heap.size, pre.length * 4 + j, none⟩) (by simp)).trans (by have := (hcell j u hu).1; simpa [Rep.size] using this)
      have hsz := hbel.size
      have H := Lib.hid (And.intro hpp' (And.intro hpl (And.intro hix (And.intro hbel (And.intro hat (And.intro hb1 hz1))))))
      clear hcell hli hpp hpp' hpl hz hrz hix hbel hat hb1 hz1 hbo hbB
      have hfits : modeFits op name text z = ((z.op == 0 || z.op == op) && z.name.toList == name.toList && z.text.toList == text.toList) := rfl
      have yes : modeFits op name text z = true → modeOfD op name text = some z.mode := fun h => by rw [H.out.2.2.1, List.find?_cons, h]; rfl
      have no : modeFits op name text z = false → modeOfD op name text = (post.find? (modeFits op name text)).map (·.mode) := fun h => by rw [H.out.2.2.1, List.find?_cons, h]
      have HY := Lib.hid (And.intro hfits (And.intro yes no))
      clear hfits yes no
      have fin : ∀ w2 : World, Below w.heap.size w wr → Below w.heap.size w (wr.alloc (.cells #[.int .i64 z.op, .string z.name, .string z.text, .int .i64 z.mode] 155)) := fun _ h => h.alloc h.size _
      have HF := Lib.hid fin
      clear fin
      have hbw : Hid (Below w.heap.size w wr) := H.out.2.2.2.2.2.1.trans (H.out.2.2.2.1.mono (by omega))
      cases e1 : (z.op == 0) <;> cases e2 : (z.op == op) <;> cases e3 : (z.name.toList == name.toList) <;> cases e4 : (z.text.toList == text.toList)
      all_goals
        have HE := Lib.hid (And.intro e1 (And.intro e2 (And.intro e3 e4)))
        go_wp2_with (first | (with_reducible refine wpList_load_agg rfl 155 _ rfl _ _ _ rfl [.int .i64 z.op, .string z.name, .string z.text, .int .i64 z.mode] Tryd.underlying155 rfl (by kernel_rfl) H.out.2.2.2.2.1 ?_))
        first
          | (refine bodyPost_ret (results_tmp2 rfl _ _ _) rfl ?_
             have hy := HY.out.2.1 (by rw [HY.out.1, HE.out.1, HE.out.2.1, HE.out.2.2.1, HE.out.2.2.2]; rfl)
             exact ⟨by rw [hy]; rfl, HF.out wr hbw.out⟩)
          | (go_roundw
             case rel =>
               obtain ⟨hpp', hpl, _, hbel, _⟩ := H.out
               have hn := HY.out.2.2 (by rw [HY.out.1, HE.out.1, HE.out.2.1, HE.out.2.2.1, HE.out.2.2.2]; rfl)
               exact ⟨pre ++ [z], post, hpp', by rw [hpl]; go_num, hn, hbel.alloc (by rw [← H.out.2.2.2.2.2.2]; exact hsz) _⟩
             case measure => simp [intOf]; omega)
    | nil =>
      obtain ⟨hge, hpl⟩ := split_end hpp
      rw [HL.out] at hge
      have H := Lib.hid (And.intro hix (hb1.trans (hbel.mono (by omega))))
      clear hix hbel hpp hpl hli hb1 hz1
      go_wp2
      refine bodyPost_ret (results_tmp2 rfl _ _ _) rfl ?_
      exact ⟨by rw [H.out.1]; rfl, H.out.2⟩
end Go.Proofs.YtgbkhcmbmffljaaDoor
