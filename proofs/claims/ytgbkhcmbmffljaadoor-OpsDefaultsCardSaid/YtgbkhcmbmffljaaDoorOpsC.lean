/-
  A part of the proofs of chapter 08: walks of the package ops. No condition.
-/
import Derived.Test.YtgbkhcmbmffljaaDoorOpsB
namespace Go.Proofs.YtgbkhcmbmffljaaDoor
open Go.RowKit
open Rep (rep)

def rowZ : List Value := [.string ⟨#[]⟩, .int .i64 0, .int .i64 0, .int .i64 0, .int .i64 0, .string ⟨#[]⟩]
theorem rowInfo : (Tryd.prog.info? 79).map (fun i => (i.zero, i.size, i.bytes)) = some (some (.agg rowZ.toArray), 6, 64) := by kernel_rfl

set_option maxRecDepth 100000 in
set_option maxHeartbeats 400000 in
theorem growRow_any (n : Nat) (w : World) (h0 : 0 < n) (hn : n ≤ 65536) :
    Calls Tryd.prog 103 #[.slice none 0 0, .int .i64 n] w fun e w' => ∃ v', e = .returned v' ∧ w'.ownsRow w.heap.size 79 6 v' 0 [] ∧ Below w.heap.size w w' := by
  obtain ⟨i0, hi0, hz0, hz1, hz2⟩ := info_parts rowInfo
  have hrz : ∀ ty, (Builtin.append_ #[87, 3] ty #[.slice none 0 0, .int .i64 (n : Int)]).run Tryd.prog w =
      .ok (.slice (some ⟨w.heap.size, 0, none⟩) n (grownCap w n 0 79)) (w.drew.alloc (.cells (#[] ++ Builtin.zeroCells rowZ.toArray n ++ Builtin.zeroCells rowZ.toArray (grownCap w n 0 79 - n)) 79)) := fun ty => by
    have h := Lib.run_append_grow_zeros w 87 3 ty 79 i0 _ .i64 .i64 Tryd.underlying87 Tryd.underlying3 hi0 hz0 none 0 0 [] (run_firstCells_none w.drew i0.size 0 0 0) n h0 (by omega) (by omega) (by omega) (by rw [hz2]; omega)
      (by refine growslice_fits (by omega) ?_; rw [hz2]; omega)
    simp only [Nat.zero_add] at h
    exact h
  have hGn : n ≤ grownCap w n 0 79 := grownCap_ge w _ _ _
  obtain ⟨G, hG⟩ : ∃ G, G = grownCap w n 0 79 := ⟨_, rfl⟩
  rw [← hG] at hrz hGn
  have hG63 : G ≤ maxLen := by rw [hG]; exact grownCap_le_maxLen w n 0 _ (by unfold maxLen; omega)
  have HG := Lib.hid hG63
  clear hG hG63
  go_enter Tryd.func103, Tryd.ntmps103
  have h1 : (n : Int) > 0 := by omega
  go_wp2_with (at_builtin; refine Lib.wpList_append_run _ rfl _ _ _ _ rfl _ _ rfl rfl _ _ (hrz _) ?_)
  go_ret
  refine ⟨_, rfl, World.ownsRow_made w.drew _ G (Nat.le_refl _) HG.out ?_, (Below.refl _ _).drew.alloc (Nat.le_refl _) _⟩
  simp [Builtin.zeroCells, rowZ]
  omega

theorem flat_len (l : List RowD) : (l.flatMap RowD.cells).length = l.length * 6 := by
  induction l with
  | nil => rfl
  | cons a l ih => simp only [List.flatMap_cons, List.length_append, ih, List.length_cons, RowD.cells_len]; omega
theorem chunks_rows {w : World} {Z : Zone} : ∀ {l : List RowD} {xs : List Value}, Chunks w Z xs l → xs = l.flatMap RowD.cells
  | [], _, h => by simpa [Chunks] using h
  | a :: l, xs, ⟨c, r, hx, hc, hr⟩ => by rw [hx, show c = a.cells from hc, chunks_rows hr]; rfl
theorem chunks_of_rows {w : World} {Z : Zone} : ∀ (l : List RowD), Chunks w Z (l.flatMap RowD.cells) l
  | [] => rfl
  | a :: l => ⟨a.cells, l.flatMap RowD.cells, rfl, rfl, chunks_of_rows l⟩

set_option maxRecDepth 100000 in
set_option maxHeartbeats 1000000 in
theorem concatRow_any (l : List (List RowD)) (v : Value) (w : World) (hr : rep w (old w.heap.size) [v] l) (h0 : 0 < l.flatten.length) (ht : l.flatten.length ≤ 65536) :
    Calls Tryd.prog 65 #[v] w fun e w' => ∃ v', e = .returned v' ∧ w'.ownsRow w.heap.size 79 6 v' l.flatten.length (l.flatten.flatMap RowD.cells) ∧ Below w.heap.size w w' := by
  obtain ⟨i0, hi0, hz0, hz1, hz2⟩ := info_parts rowInfo
  obtain ⟨A, c, xs, rfl, hnc, hcm, _, hl, hch⟩ := open_slice hr
  have H0 := Lib.hid h0
  have HT := Lib.hid ht
  clear hr h0 ht
  go_enter Tryd.func65, Tryd.ntmps65
  go_wp2_with fail
  go_loop [3, 11] (fun t i => ∃ pre post : List (List RowD), l = pre ++ post ∧ i = .int .i64 pre.length ∧ t = .int .i64 pre.flatten.length) (fun _ i => l.length - (intOf i).toNat)
  case atStart => exact ⟨[], l, rfl, rfl, rfl⟩
  case round =>
    obtain ⟨pre, post, hpp, rfl, rfl⟩ := hrel
    cases post with
    | cons z post =>
      obtain ⟨hz, hlt, hpp', hpl⟩ := split_at hpp
      obtain ⟨b, o, cs, rfl, hbB, hrz, hcell⟩ := elem_at hl hch (by decide) hz
      obtain ⟨A', n', c', xs', rfl, rfl, _⟩ := rep_list hrz
      have hc1 := (hcell 0 _ rfl).1
      rw [show o + (pre.length * Rep.size (List RowD) + 0) = o + pre.length from by simp [Rep.size]] at hc1
      have hf : (pre ++ [z]).flatten.length = pre.flatten.length + z.length := by simp [List.flatten_append]
      have hle : pre.flatten.length + z.length ≤ 65536 := by
        have := HT.out
        rw [hpp', List.flatten_append, List.length_append, hf] at this
        omega
      have H := Lib.hid (And.intro hpp' (And.intro hpl hf))
      clear hcell hl hch hpp hpp' hpl hz hf hrz
      generalize hk : pre.flatten.length = k at *
      have HK := Lib.hid hk
      clear hk
      have hns : ¬ ((k : Int) + (z.length : Int) < 0) := by omega
      go_wp2
      go_round
      case rel =>
        obtain ⟨hpp', hpl, hf⟩ := H.out
        exact ⟨pre ++ [z], post, hpp', by rw [hpl]; go_num, by rw [hf]; go_num⟩
      case measure => simp [intOf]; omega
    | nil =>
      obtain ⟨hge, hpl⟩ := split_end hpp
      subst hpl
      clear hpp
      generalize hk : pre.flatten.length = k at *
      have HK := Lib.hid hk
      clear hk
      have hk0 := H0.out
      have hk1 := HT.out
      clear H0 HT
      go_wp2_with (go_at_call 103; refine (growRow_any _ _ hk0 hk1).mono ?_; rintro e w1 ⟨v1, rfl, hown1, hbel1⟩)
      have HL := Lib.hid (And.intro hl (And.intro hch hbel1))
      clear hl hch hbel1
      go_wp2_with fail
      go_loopw [6, 27] (fun t i wr => ∃ pr post : List (List RowD), pre = pr ++ post ∧ i = .int .i64 pr.length ∧ wr.ownsRow w.heap.size 79 6 t pr.flatten.length (pr.flatten.flatMap RowD.cells) ∧ Below w.heap.size w wr) (fun _ i _ => pre.length - (intOf i).toNat)
      case atStart => exact ⟨[], pre, rfl, rfl, hown1, HL.out.2.2⟩
      case round =>
        obtain ⟨pr, post, hpp, rfl, hown, hbel⟩ := hrel
        obtain ⟨hl, hch, _⟩ := HL.out
        cases post with
        | cons z post =>
          obtain ⟨hz, hlt, hpp', hpl⟩ := split_at hpp
          obtain ⟨b, o, cs, rfl, hbB, hrz, hcell⟩ := elem_at hl hch (by decide) hz
          obtain ⟨A', n', c', xs', rfl, rfl, _, _, _, hlz, hcz⟩ := rep_list hrz
          have hc1 := (hbel.cell (p := ⟨b, o + (pr.length * 1 + 0), none⟩) hbB).trans (hcell 0 _ rfl).1
          rw [show o + (pr.length * 1 + 0) = o + pr.length from by omega] at hc1
          have hf : (pr ++ [z]).flatten.length = pr.flatten.length + z.length := by simp [List.flatten_append]
          have hle : pr.flatten.length + z.length ≤ 65536 := by
            have := HK.out
            rw [hpp', List.flatten_append, List.length_append, hf] at this
            omega
          have hlz' := hlz.keep (Keeps.old_below hbel (Nat.le_refl _))
          have hnl := hcz.len
          have hn1 := hcz.one
          rw [chunks_rows hcz] at hlz' hnl hn1
          have hsz := hbel.size
          generalize hk2 : pr.flatten.length = k2 at *
          have HK2 := Lib.hid hk2
          clear hk2
          have H := Lib.hid (And.intro hpp' (And.intro hpl (And.intro hf (And.intro hbel (And.intro hlz' (And.intro hnl hn1))))))
          clear hcell hl hch hpp hpp' hpl hz hf hrz hlz hcz hbel hlz' hnl hn1
          go_wp2_with (at_builtin; refine wpList_append_lies _ rfl _ _ 87 rfl w.heap.size 79 i0 _ 6 64 Tryd.underlying87 hi0 hz0 hz1 hz2 rfl (by decide) _ _ _ rfl hown _ _ _ _ _ rfl H.out.2.2.2.2.2.1 H.out.2.2.2.2.1 H.out.2.2.2.2.2.2 ?c3 ?c4 hsz ?_)
          case c3 => unfold maxLen; omega
          case c4 => omega
          intro v' w1 hown' hgrow _
          go_wp2
          go_roundw
          case rel =>
            obtain ⟨hpp', hpl, hf, hbel, _⟩ := H.out
            refine ⟨pr ++ [z], post, hpp', by rw [hpl]; go_num, by rw [hf, List.flatten_append, List.flatMap_append, show [z].flatten = z by simp]; exact hown', ?_⟩
            exact hbel.grown hgrow hbel.size (fun g hg => (hown.lt g hg).1)
          case measure => simp [intOf]; omega
        | nil =>
          obtain ⟨hge, hpl⟩ := split_end hpp
          have H := Lib.hid (And.intro hpl hbel)
          clear hpl hbel hpp hl hch
          go_wp2
          go_ret
          obtain ⟨rfl, hbel⟩ := H.out
          exact ⟨_, rfl, by rw [← HK.out]; exact hown, hbel⟩
end Go.Proofs.YtgbkhcmbmffljaaDoor
