/-
  'Attrs': the names of an operator's attributes.
-/
import Derived.Test.YtgbkhcmbmffljaaDoorResV
set_option linter.unusedSimpArgs false
namespace Go.Proofs.YtgbkhcmbmffljaaDoor
open Go.RowKit
open Rep (rep)

/-- The names of an operator's attributes. -/
def namesD (op : Int) : List ByteArray := (sortsD (findD op)).map (·.name)
theorem strInfo : (Tryd.prog.info? 9).map (fun i => (i.zero, i.size, i.bytes)) = some (some (.string ⟨#[]⟩), 1, 16) := by kernel_rfl

theorem own_below {w W : World} {base : Nat} {e : TypeId} {size : Nat} {v : Value} {n : Nat} {xs : List Value} (h : w.ownsRow base e size v n xs) (hb : Below w.heap.size w W) : W.ownsRow base e size v n xs :=
  h.kept (row := none) ⟨hb.os, hb.tape, hb.output, hb.size, fun k hk _ => hb.block k hk⟩ (by cases hv : v.ownBlock <;> simp)
set_option maxRecDepth 100000 in
set_option maxHeartbeats 4000000 in
theorem attrs_any (op : Int) (w : World) (ht : Tab w) (hI : I64 op) :
    Calls Tryd.prog 14 #[.int .i64 op] w fun e w' => ∃ v', e = .returned v' ∧ w'.ownsRow w.heap.size 9 1 v' (namesD op).length ((namesD op).map Value.string) ∧ Below w.heap.size w w' := by
  obtain ⟨i0, hi0, hz0, hz1, hz2⟩ := info_parts strInfo
  obtain ⟨hso, hsl⟩ := sorts_ok op
  have hok := findD_ok op
  obtain ⟨r, hr⟩ : ∃ r, findD op = r := ⟨_, rfl⟩
  have hn : namesD op = (sortsD r).map (·.name) := by unfold namesD; rw [hr]
  rw [hn]
  rw [hr] at hso hsl hok
  have HE := Lib.hid hr
  have HT := Lib.hid (And.intro ht (And.intro hok hI))
  have HSO := Lib.hid hso
  clear hr hn ht hok hI hso
  go_enter Tryd.func14, Tryd.ntmps14
  go_wp2_with fail
  refine (find_any op w HT.out.2.2).mono ?_
  rw [HE.out]
  rintro e w1 ⟨rfl, hb1⟩
  have HB1 := Lib.hid hb1
  clear hb1
  go_wp2_with fail
  refine (sorts_any r HT.out.2.1 w1 (HT.out.1.ext HB1.out)).mono ?_
  rintro e w2 ⟨v8, rfl, hown, hb2⟩
  have hrep : rep w2 (old w2.heap.size) [v8] (sortsD r) := rep_of_own (e := 84) (xs := (sortsD r).flatMap SortD.cells) hown (chunks_sorts _ fun x hx => (HSO.out x hx).1) (by unfold reach; simp only [Rep.bytes]; omega) (fun g _ h1 h2 => h2)
  obtain ⟨A8, c8, ys, rfl, hnc8, hcm8, -, hl8, hch8⟩ := open_slice hrep
  have HB2 := Lib.hid (HB1.out.trans (hb2.mono HB1.out.size))
  have HSL := Lib.hid (And.intro hl8 hch8)
  clear hown hb2 hrep hl8 hch8
  go_wp2_with fail
  go_loopw [3, 10] (fun v i wr => ∃ pre post : List SortD, sortsD r = pre ++ post ∧ i = .int .i64 pre.length ∧ wr.ownsRow w2.heap.size 9 1 v pre.length (pre.map fun x => Value.string x.name) ∧ Below w2.heap.size w2 wr)
    (fun _ i _ => (sortsD r).length - (intOf i).toNat)
  case atStart => exact ⟨[], sortsD r, rfl, rfl, World.ownsRow_nil _ _ _ _, Below.refl _ _⟩
  case round =>
    obtain ⟨pre, post, hpp, rfl, hown, hbel⟩ := hrel
    cases post with
    | cons z post =>
      obtain ⟨hz, hlt, hpp', hpl⟩ := split_at hpp
      obtain ⟨b, o, xcs, rfl, hbB, hrz, hcell⟩ := elem_at HSL.out.1 HSL.out.2 (by decide) hz
      obtain ⟨rfl, hxs⟩ := open_SortD hrz
      have hat : At wr b (o + pre.length * 3) [.string z.name, .int .u8 (z.letter.toNat : Int), .bool z.must] := fun j u hu => by
        have h1 := (hcell j u hu).1
        rw [← Nat.add_assoc] at h1
        exact (hbel.cell (p := ⟨b, o + pre.length * 3 + j, none⟩) hbB).trans h1
      have c0 := hat 0 _ rfl
      have c1 := hat 1 _ rfl
      have c2 := hat 2 _ rfl
      have hsz := hbel.size
      have H := Lib.hid (And.intro hpp' (And.intro hpl hbel))
      have HA := Lib.hid hat
      clear hcell hpp hpp' hpl hbel hz hrz hat hxs
      have HO := Lib.hid (show ∀ u ∈ ([.string z.name, .int .u8 (z.letter.toNat : Int), .bool z.must] : List Value), u.oneCell' = true from SortD.one z)
      go_wp2_with (first
        | (with_reducible refine wpList_load_agg rfl 84 _ rfl _ _ _ rfl [.string z.name, .int .u8 (z.letter.toNat : Int), .bool z.must] Tryd.underlying84 rfl (by kernel_rfl) HA.out ?_)
        | (with_reducible refine wpList_alloc_row rfl 84 rfl zeroSort zeroSort_zero ?_)
        | (with_reducible refine wpList_store_agg rfl 84 _ _ rfl _ 0 [.string z.name, .int .u8 (z.letter.toNat : Int), .bool z.must] rfl rfl 84 zeroSort (heap_alloc_new _ _) (by kernel_rfl) (by simp [zeroSort]) HO.out ?_; have hX := laid_row wr 84 zeroSort [.string z.name, .int .u8 (z.letter.toNat : Int), .bool z.must] rfl; generalize World.setRow _ _ _ = v1 at hX ⊢; have HX := Lib.hid hX; clear hX; refine halt ?_))
      unfold Halt
      clear c0 c1 c2
      have c0 : v1.cell? ⟨wr.heap.size, 0, none⟩ = some (.string z.name) := cell_of_row _ _ _ _ _ _ HX.out.2.1
      have hownv := own_below hown HX.out.1
      have hv1 : wr.heap.size < v1.heap.size := by rw [HX.out.2.2]; exact Nat.lt_succ_self _
      clear hown
      go_wp2_with (at_builtin; refine wpList_append_lies _ rfl _ _ 25 rfl w2.heap.size 9 i0 (.string ⟨#[]⟩) 1 16 Tryd.underlying25 hi0 hz0 hz1 hz2 rfl (by decide) _ _ _ rfl (hownv.alloc _) _ _ 1 1 [.string z.name] rfl rfl (lies_new _ _ _) ?c2 ?c3 ?c4 ?c5 ?_)
      case c2 => intro u hu; simp at hu; subst hu; rfl
      case c3 => unfold maxLen; omega
      case c4 => omega
      case c5 => simp; omega
      intro v' w4 hown' hgrow _
      have H4 := Lib.hid (And.intro hown' (H.out.2.2.trans ((HX.out.1.mono hsz).trans (((Below.refl _ v1).alloc (by omega) _).grown hgrow (by simp; omega) (fun g hg => (hownv.lt g hg).1)))))
      clear hown' hgrow hownv c0
      go_wp2
      go_roundw
      case rel =>
        obtain ⟨hpp', hpl, hbel⟩ := H.out
        exact ⟨pre ++ [z], post, hpp', by rw [hpl]; go_num, by rw [hpl]; simpa using H4.out.1, H4.out.2⟩
      case measure => simp [intOf]; omega
    | nil =>
      obtain ⟨hge, hpl⟩ := split_end hpp
      subst hpl
      clear hpp hge
      go_wp2
      go_ret
      refine ⟨_, rfl, ?_, HB2.out.trans (hbel.mono HB2.out.size)⟩
      have h1 := own_base hown HB2.out.size
      simpa [Function.comp_def] using h1
end Go.Proofs.YtgbkhcmbmffljaaDoor
