/-
  The reference of chapter 08: tensor, flags, lists, set.
-/
import Derived.Test.YtgbkhcmbmffljaaDoorRefM
import Derived.Test.YtgbkhcmbmffljaaDoorResC
set_option linter.unusedSimpArgs false
set_option linter.unusedVariables false
namespace Go.Proofs.YtgbkhcmbmffljaaDoor
open Go.RowKit
open Rep (rep)

theorem fresh_next {α : Type} [Rep α] {W W' : World} {n : Nat} {v : List Value} {l : α} (h : rep W (fresh n W.heap.size) v l) (hb : Below W.heap.size W W') : rep W' (fresh n W'.heap.size) v l :=
  Rep.more (Rep.keep h (Keeps.fresh_below hb (Nat.le_refl _))) (fresh_le (Nat.le_refl _) hb.size)
theorem fresh_row {α : Type} [Rep α] {W : World} {n g : Nat} {v : List Value} {l : α} (h : rep W (fresh n W.heap.size) v l) (hg : g < n) (cs : Array Value) : rep (W.setRow g cs) (fresh n (W.setRow g cs).heap.size) v l := by
  rw [size_setRow]; exact Rep.keep h (keep_row hg cs)
theorem setting_next {W W' : World} {n : Nat} {ss : List Value} {s : SettingD} (h : SettingDAt W (fresh n W.heap.size) ss s) (hb : Below W.heap.size W W') : SettingDAt W' (fresh n W'.heap.size) ss s :=
  fresh_next (α := SettingD) h hb
theorem fresh_more {α : Type} [Rep α] {W : World} {n n0 : Nat} {v : List Value} {l : α} (h : rep W (fresh n W.heap.size) v l) (hn : n0 ≤ n) : rep W (fresh n0 W.heap.size) v l := Rep.more h (fresh_le hn (Nat.le_refl _))
theorem At.drop {w : World} {b o : Nat} {cs : List Value} (h : At w b o cs) (k : Nat) : At w b (o + k) (cs.drop k) := fun j u hu => by
  rw [List.getElem?_drop] at hu
  have := h (k + j) u hu
  rwa [← Nat.add_assoc] at this

def zeroTc : List Value := [.int .i64 0, .slice none 0 0, .slice none 0 0, .slice none 0 0, .slice none 0 0]
/-- Where 'tensor' stands: the tensor that came in, an empty one, the one that is made. -/
structure TenInv (w : World) (cs xs : List Value) (W : World) : Prop where
  below : Below w.heap.size w W
  src : W.heap[w.heap.size]? = some (.cells cs.toArray 43 (0, 0))
  res : W.heap[w.heap.size + 1]? = some (.cells zeroTc.toArray 43 (0, 0))
  acc : W.heap[w.heap.size + 2]? = some (.cells xs.toArray 43 (0, 0))
section
variable {w W W' : World} {cs xs : List Value}
theorem TenInv.lt (h : TenInv w cs xs W) : w.heap.size + 2 < W.heap.size := (Array.getElem?_eq_some_iff.1 h.acc).1
theorem TenInv.next (h : TenInv w cs xs W) (hb : Below W.heap.size W W') : TenInv w cs xs W' := by
  have := h.lt
  exact ⟨h.below.trans (hb.mono (by omega)), (hb.block _ (by omega)).trans h.src, (hb.block _ (by omega)).trans h.res, (hb.block _ (by omega)).trans h.acc⟩
theorem TenInv.row (h : TenInv w cs xs W) (ys : List Value) : TenInv w cs ys (W.setRow (w.heap.size + 2) ys.toArray) :=
  ⟨below_setRow' h.below (by omega) _, (heap_setRow_other _ _ _ _ (by omega)).trans h.src, (heap_setRow_other _ _ _ _ (by omega)).trans h.res, heap_setRow _ _ _ _ _ h.acc⟩
theorem TenInv.out (h : TenInv w cs xs W) (hl : xs.length = 5) : Below w.heap.size w (W.setRow (w.heap.size + 1) (zeroTc.take 0 ++ xs ++ zeroTc.drop (0 + xs.length)).toArray) ∧
    (W.setRow (w.heap.size + 1) (zeroTc.take 0 ++ xs ++ zeroTc.drop (0 + xs.length)).toArray).heap[w.heap.size + 1]? = some (.cells xs.toArray 43 (0, 0)) := by
  have e : zeroTc.take 0 ++ xs ++ zeroTc.drop (0 + xs.length) = xs := by rw [List.take_zero, List.nil_append, Nat.zero_add, List.drop_of_length_le (by rw [hl]; decide), List.append_nil]
  rw [e]
  exact ⟨below_setRow' h.below (by omega) _, heap_setRow _ _ _ _ _ h.res⟩
theorem TenInv.keeps (h : TenInv w cs xs W) {α : Type} [Rep α] {c : List Value} {a : α} (hr : rep w (old w.heap.size) c a) : rep W (old w.heap.size) c a := Rep.keep hr (Keeps.old_below h.below (Nat.le_refl _))
end
theorem one5 {a b c d e : Value} (h1 : a.oneCell' = true) (h2 : b.oneCell' = true) (h3 : c.oneCell' = true) (h4 : d.oneCell' = true) (h5 : e.oneCell' = true) : ∀ u ∈ [a, b, c, d, e], u.oneCell' = true := by
  intro u hu
  simp only [List.mem_cons, List.not_mem_nil, or_false] at hu
  rcases hu with h | h | h | h | h <;> rw [h] <;> assumption
theorem zeroTc_zero : (Tryd.prog.info? 43).bind (·.zero) = some (.agg zeroTc.toArray) := by kernel_rfl
theorem tenInv_start (w : World) (cs xs : List Value) (hl : xs.length = 5) : TenInv w cs xs ((((w.alloc (.cells cs.toArray 43)).alloc (.cells zeroTc.toArray 43)).alloc (.cells zeroTc.toArray 43)).setRow (w.heap.size + 2) (zeroTc.take 0 ++ xs ++ zeroTc.drop (0 + xs.length)).toArray) := by
  have e : zeroTc.take 0 ++ xs ++ zeroTc.drop (0 + xs.length) = xs := by rw [List.take_zero, List.nil_append, Nat.zero_add, List.drop_of_length_le (by rw [hl]; decide), List.append_nil]
  rw [e]
  have e1 := heap_alloc_new w (.cells cs.toArray 43)
  have e2 := heap_alloc_new (w.alloc (.cells cs.toArray 43)) (.cells zeroTc.toArray 43)
  have e3 := heap_alloc_new ((w.alloc (.cells cs.toArray 43)).alloc (.cells zeroTc.toArray 43)) (.cells zeroTc.toArray 43)
  simp only [World.size_alloc] at e2 e3
  refine TenInv.row (xs := zeroTc) ⟨(((Below.refl _ w).alloc (Nat.le_refl _) _).alloc (by simp) _).alloc (by simp; omega) _, by rw [Below.heap_alloc _ _ _ (by simp; omega), Below.heap_alloc _ _ _ (by simp)]; exact e1, by rw [Below.heap_alloc _ _ _ (by simp)]; exact e2, e3⟩ xs

set_option maxRecDepth 100000 in
set_option maxHeartbeats 8000000 in
theorem tensorR_any (cs : List Value) (t : TensorD) (w : World) (hr : rep w (old w.heap.size) cs t) :
    Calls Tryd.prog 112 #[.agg cs.toArray] w fun e w' => ∃ ts : List Value, e = .returned (.agg ts.toArray) ∧ rep w' (fresh w.heap.size w'.heap.size) ts t ∧ Below w.heap.size w w' := by
  obtain ⟨A1, k1, A2, k2, A3, k3, A4, k4, rfl, htI, t1, t2, t3, t4⟩ := open_TensorD hr
  obtain ⟨i1, hi1, hz1, ha1, hb1⟩ := info_parts intInfo
  obtain ⟨_, _, x1, hv, hnc1, hcm1, hy1, hl1, hch1⟩ := open_slice t1
  simp only [Value.slice.injEq, true_and] at hv
  obtain ⟨rfl, rfl⟩ := hv
  replace hy1 : t.dims.length * 8 ≤ 140737488351232 := hy1
  have q1 : t.dims.length ≤ 140737488351232 := by omega
  have hn1 : x1.length = t.dims.length * 1 := hch1.len
  have H1 := Lib.hid (And.intro hl1 (And.intro hch1 (And.intro hn1 (And.intro hch1.one hy1))))
  clear hl1 hch1 hn1 hnc1 hcm1 t1
  obtain ⟨i2, hi2, hz2, ha2, hb2⟩ := info_parts info_u32s
  obtain ⟨_, _, x2, hv, hnc2, hcm2, hy2, hl2, hch2⟩ := open_slice t2
  simp only [Value.slice.injEq, true_and] at hv
  obtain ⟨rfl, rfl⟩ := hv
  replace hy2 : t.f.length * 4 ≤ 140737488351232 := hy2
  have q2 : t.f.length ≤ 140737488351232 := by omega
  have hn2 : x2.length = t.f.length * 1 := hch2.len
  have H2 := Lib.hid (And.intro hl2 (And.intro hch2 (And.intro hn2 (And.intro hch2.one hy2))))
  clear hl2 hch2 hn2 hnc2 hcm2 t2
  obtain ⟨i3, hi3, hz3, ha3, hb3⟩ := info_parts info_i64s
  obtain ⟨_, _, x3, hv, hnc3, hcm3, hy3, hl3, hch3⟩ := open_slice t3
  simp only [Value.slice.injEq, true_and] at hv
  obtain ⟨rfl, rfl⟩ := hv
  replace hy3 : t.i.length * 8 ≤ 140737488351232 := hy3
  have q3 : t.i.length ≤ 140737488351232 := by omega
  have hn3 : x3.length = t.i.length * 1 := hch3.len
  have H3 := Lib.hid (And.intro hl3 (And.intro hch3 (And.intro hn3 (And.intro hch3.one hy3))))
  clear hl3 hch3 hn3 hnc3 hcm3 t3
  obtain ⟨i4, hi4, hz4, ha4, hb4⟩ := info_parts info_bools
  obtain ⟨_, _, x4, hv, hnc4, hcm4, hy4, hl4, hch4⟩ := open_slice t4
  simp only [Value.slice.injEq, true_and] at hv
  obtain ⟨rfl, rfl⟩ := hv
  replace hy4 : t.b.length * 1 ≤ 140737488351232 := hy4
  have q4 : t.b.length ≤ 140737488351232 := by omega
  have hn4 : x4.length = t.b.length * 1 := hch4.len
  have H4 := Lib.hid (And.intro hl4 (And.intro hch4 (And.intro hn4 (And.intro hch4.one hy4))))
  clear hl4 hch4 hn4 hnc4 hcm4 t4
  have HTI := Lib.hid htI
  have HB := Lib.hid (fun m => show laySem Tryd.prog (Instr.build 43 #[(0, .int .i64 t.type)]) m = some (.agg ([.int .i64 t.type, .slice none 0 0, .slice none 0 0, .slice none 0 0, .slice none 0 0] : List Value).toArray, []) from by kernel_rfl)
  clear hr htI
  go_enter Tryd.func112, Tryd.ntmps112
  go_wp2_with (first
    | (with_reducible refine wpList_box_row rfl 43 _ rfl [.int .i64 t.type, .slice A1 t.dims.length k1, .slice A2 t.f.length k2, .slice A3 t.i.length k3, .slice A4 t.b.length k4] rfl ?_)
    | (with_reducible refine wpList_alloc_row rfl 43 rfl zeroTc zeroTc_zero ?_)
    | (with_reducible refine wpList_buildL rfl 43 _ rfl #[(0, .int .i64 t.type)] (by kernel_rfl) [.int .i64 t.type, .slice none 0 0, .slice none 0 0, .slice none 0 0, .slice none 0 0] (run_lay _ rfl (HB.out _)) ?_)
    | (with_reducible refine at_store 43 _ _ rfl ?_; refine halt ?_))
  unfold Halt
  refine wpList_store_agg rfl 43 _ _ rfl (w.heap.size + 2) 0 [.int .i64 t.type, .slice none 0 0, .slice none 0 0, .slice none 0 0, .slice none 0 0] rfl rfl 43 zeroTc (by have := heap_alloc_new ((w.alloc (.cells ([.int .i64 t.type, .slice A1 t.dims.length k1, .slice A2 t.f.length k2, .slice A3 t.i.length k3, .slice A4 t.b.length k4] : List Value).toArray 43)).alloc (.cells zeroTc.toArray 43)) (.cells zeroTc.toArray 43); simp only [World.size_alloc] at this; exact this) (by kernel_rfl) (by simp [zeroTc]) (by intro u hu; simp at hu; rcases hu with rfl | rfl <;> rfl) ?_
  have hX := tenInv_start w [.int .i64 t.type, .slice A1 t.dims.length k1, .slice A2 t.f.length k2, .slice A3 t.i.length k3, .slice A4 t.b.length k4] [.int .i64 t.type, .slice none 0 0, .slice none 0 0, .slice none 0 0, .slice none 0 0] rfl
  generalize World.setRow _ _ _ = W0 at hX ⊢
  have HX0 := Lib.hid hX
  clear hX
  have ks : W0.cell? ⟨w.heap.size, 1, none⟩ = some (.slice A1 t.dims.length k1) := cell_of_row _ _ _ _ _ _ HX0.out.src
  have ka : W0.cell? ⟨w.heap.size + 2, 1, none⟩ = some (.slice none 0 0) := cell_of_row _ _ _ _ _ _ HX0.out.acc
  go_wp2_with (at_builtin; refine wpList_append_lies _ rfl _ _ 37 rfl (w.heap.size + 3) 3 i1 _ 1 8 Tryd.underlying37 hi1 hz1 ha1 hb1 rfl (by decide) (.slice none 0 0) 0 [] rfl (World.ownsRow_nil _ _ _ _) _ _ _ _ _ rfl H1.out.2.2.1 (H1.out.1.keep (Keeps.old_below HX0.out.below (Nat.le_refl _))) H1.out.2.2.2.1 ?c3 ?c4 ?c5 ?_)
  case c3 => unfold maxLen; omega
  case c4 => omega
  case c5 => have := HX0.out.lt; omega
  intro v1 u1 hown hgrow _
  have hbl : Below W0.heap.size W0 u1 := (Below.refl W0.heap.size W0).grown hgrow (Nat.le_refl _) (fun g hg => by cases hg)
  have hvr : rep u1 (fresh (w.heap.size + 3) u1.heap.size) [v1] t.dims := rep_of_own (e := 3) (base := w.heap.size + 3) hown (Chunks.any H1.out.2.1) H1.out.2.2.2.2 (fun g _ h1 h2 => ⟨h1, h2⟩)
  have hone : v1.oneCell' = true := Rep.one hvr _ (List.mem_singleton.2 rfl)
  have HY := Lib.hid (HX0.out.next hbl)
  have R1 := Lib.hid hvr
  have HO1 := Lib.hid hone
  clear hown hgrow hbl hvr ks ka hone
  go_wp2_with (with_reducible refine at_store 37 _ _ rfl ?_; refine halt ?_)
  unfold Halt
  refine wpList_store_field rfl 37 _ _ rfl (w.heap.size + 2) 1 v1 rfl rfl HO1.out (by kernel_rfl) 43 [.int .i64 t.type, .slice none 0 0, .slice none 0 0, .slice none 0 0, .slice none 0 0] HY.out.acc (by show 1 < 5; decide) ?_
  have hX : TenInv w [.int .i64 t.type, .slice A1 t.dims.length k1, .slice A2 t.f.length k2, .slice A3 t.i.length k3, .slice A4 t.b.length k4] [.int .i64 t.type, v1, .slice none 0 0, .slice none 0 0, .slice none 0 0] (u1.setRow (w.heap.size + 2) (List.set [.int .i64 t.type, .slice none 0 0, .slice none 0 0, .slice none 0 0, .slice none 0 0] 1 v1).toArray) := HY.out.row [.int .i64 t.type, v1, .slice none 0 0, .slice none 0 0, .slice none 0 0]
  have r1 := fresh_row R1.out (show w.heap.size + 2 < w.heap.size + 3 by omega) (List.set [.int .i64 t.type, .slice none 0 0, .slice none 0 0, .slice none 0 0, .slice none 0 0] 1 v1).toArray
  clear R1
  generalize World.setRow _ _ _ = W1 at hX r1 ⊢
  have HX1 := Lib.hid hX
  have R1 := Lib.hid r1
  clear r1
  clear hX HY HX0
  have ks : W1.cell? ⟨w.heap.size, 2, none⟩ = some (.slice A2 t.f.length k2) := cell_of_row _ _ _ _ _ _ HX1.out.src
  have ka : W1.cell? ⟨w.heap.size + 2, 2, none⟩ = some (.slice none 0 0) := cell_of_row _ _ _ _ _ _ HX1.out.acc
  go_wp2_with (at_builtin; refine wpList_append_lies _ rfl _ _ 39 rfl (w.heap.size + 3) 38 i2 _ 1 4 Tryd.underlying39 hi2 hz2 ha2 hb2 rfl (by decide) (.slice none 0 0) 0 [] rfl (World.ownsRow_nil _ _ _ _) _ _ _ _ _ rfl H2.out.2.2.1 (H2.out.1.keep (Keeps.old_below HX1.out.below (Nat.le_refl _))) H2.out.2.2.2.1 ?c3 ?c4 ?c5 ?_)
  case c3 => unfold maxLen; omega
  case c4 => omega
  case c5 => have := HX1.out.lt; omega
  intro v2 u2 hown hgrow _
  have hbl : Below W1.heap.size W1 u2 := (Below.refl W1.heap.size W1).grown hgrow (Nat.le_refl _) (fun g hg => by cases hg)
  have hvr : rep u2 (fresh (w.heap.size + 3) u2.heap.size) [v2] t.f := rep_of_own (e := 38) (base := w.heap.size + 3) hown (Chunks.any H2.out.2.1) H2.out.2.2.2.2 (fun g _ h1 h2 => ⟨h1, h2⟩)
  have hone : v2.oneCell' = true := Rep.one hvr _ (List.mem_singleton.2 rfl)
  have HY := Lib.hid (HX1.out.next hbl)
  have r1 := fresh_next R1.out hbl
  clear R1
  have R1 := Lib.hid r1
  clear r1
  have R2 := Lib.hid hvr
  have HO2 := Lib.hid hone
  clear hown hgrow hbl hvr ks ka hone
  go_wp2_with (with_reducible refine at_store 39 _ _ rfl ?_; refine halt ?_)
  unfold Halt
  refine wpList_store_field rfl 39 _ _ rfl (w.heap.size + 2) 2 v2 rfl rfl HO2.out (by kernel_rfl) 43 [.int .i64 t.type, v1, .slice none 0 0, .slice none 0 0, .slice none 0 0] HY.out.acc (by show 2 < 5; decide) ?_
  have hX : TenInv w [.int .i64 t.type, .slice A1 t.dims.length k1, .slice A2 t.f.length k2, .slice A3 t.i.length k3, .slice A4 t.b.length k4] [.int .i64 t.type, v1, v2, .slice none 0 0, .slice none 0 0] (u2.setRow (w.heap.size + 2) (List.set [.int .i64 t.type, v1, .slice none 0 0, .slice none 0 0, .slice none 0 0] 2 v2).toArray) := HY.out.row [.int .i64 t.type, v1, v2, .slice none 0 0, .slice none 0 0]
  have r1 := fresh_row R1.out (show w.heap.size + 2 < w.heap.size + 3 by omega) (List.set [.int .i64 t.type, v1, .slice none 0 0, .slice none 0 0, .slice none 0 0] 2 v2).toArray
  clear R1
  have r2 := fresh_row R2.out (show w.heap.size + 2 < w.heap.size + 3 by omega) (List.set [.int .i64 t.type, v1, .slice none 0 0, .slice none 0 0, .slice none 0 0] 2 v2).toArray
  clear R2
  generalize World.setRow _ _ _ = W2 at hX r1 r2 ⊢
  have HX2 := Lib.hid hX
  have R1 := Lib.hid r1
  clear r1
  have R2 := Lib.hid r2
  clear r2
  clear hX HY HX1
  have ks : W2.cell? ⟨w.heap.size, 3, none⟩ = some (.slice A3 t.i.length k3) := cell_of_row _ _ _ _ _ _ HX2.out.src
  have ka : W2.cell? ⟨w.heap.size + 2, 3, none⟩ = some (.slice none 0 0) := cell_of_row _ _ _ _ _ _ HX2.out.acc
  go_wp2_with (at_builtin; refine wpList_append_lies _ rfl _ _ 40 rfl (w.heap.size + 3) 2 i3 _ 1 8 Tryd.underlying40 hi3 hz3 ha3 hb3 rfl (by decide) (.slice none 0 0) 0 [] rfl (World.ownsRow_nil _ _ _ _) _ _ _ _ _ rfl H3.out.2.2.1 (H3.out.1.keep (Keeps.old_below HX2.out.below (Nat.le_refl _))) H3.out.2.2.2.1 ?c3 ?c4 ?c5 ?_)
  case c3 => unfold maxLen; omega
  case c4 => omega
  case c5 => have := HX2.out.lt; omega
  intro v3 u3 hown hgrow _
  have hbl : Below W2.heap.size W2 u3 := (Below.refl W2.heap.size W2).grown hgrow (Nat.le_refl _) (fun g hg => by cases hg)
  have hvr : rep u3 (fresh (w.heap.size + 3) u3.heap.size) [v3] t.i := rep_of_own (e := 2) (base := w.heap.size + 3) hown (Chunks.any H3.out.2.1) H3.out.2.2.2.2 (fun g _ h1 h2 => ⟨h1, h2⟩)
  have hone : v3.oneCell' = true := Rep.one hvr _ (List.mem_singleton.2 rfl)
  have HY := Lib.hid (HX2.out.next hbl)
  have r1 := fresh_next R1.out hbl
  clear R1
  have R1 := Lib.hid r1
  clear r1
  have r2 := fresh_next R2.out hbl
  clear R2
  have R2 := Lib.hid r2
  clear r2
  have R3 := Lib.hid hvr
  have HO3 := Lib.hid hone
  clear hown hgrow hbl hvr ks ka hone
  go_wp2_with (with_reducible refine at_store 40 _ _ rfl ?_; refine halt ?_)
  unfold Halt
  refine wpList_store_field rfl 40 _ _ rfl (w.heap.size + 2) 3 v3 rfl rfl HO3.out (by kernel_rfl) 43 [.int .i64 t.type, v1, v2, .slice none 0 0, .slice none 0 0] HY.out.acc (by show 3 < 5; decide) ?_
  have hX : TenInv w [.int .i64 t.type, .slice A1 t.dims.length k1, .slice A2 t.f.length k2, .slice A3 t.i.length k3, .slice A4 t.b.length k4] [.int .i64 t.type, v1, v2, v3, .slice none 0 0] (u3.setRow (w.heap.size + 2) (List.set [.int .i64 t.type, v1, v2, .slice none 0 0, .slice none 0 0] 3 v3).toArray) := HY.out.row [.int .i64 t.type, v1, v2, v3, .slice none 0 0]
  have r1 := fresh_row R1.out (show w.heap.size + 2 < w.heap.size + 3 by omega) (List.set [.int .i64 t.type, v1, v2, .slice none 0 0, .slice none 0 0] 3 v3).toArray
  clear R1
  have r2 := fresh_row R2.out (show w.heap.size + 2 < w.heap.size + 3 by omega) (List.set [.int .i64 t.type, v1, v2, .slice none 0 0, .slice none 0 0] 3 v3).toArray
  clear R2
  have r3 := fresh_row R3.out (show w.heap.size + 2 < w.heap.size + 3 by omega) (List.set [.int .i64 t.type, v1, v2, .slice none 0 0, .slice none 0 0] 3 v3).toArray
  clear R3
  generalize World.setRow _ _ _ = W3 at hX r1 r2 r3 ⊢
  have HX3 := Lib.hid hX
  have R1 := Lib.hid r1
  clear r1
  have R2 := Lib.hid r2
  clear r2
  have R3 := Lib.hid r3
  clear r3
  clear hX HY HX2
  have ks : W3.cell? ⟨w.heap.size, 4, none⟩ = some (.slice A4 t.b.length k4) := cell_of_row _ _ _ _ _ _ HX3.out.src
  have ka : W3.cell? ⟨w.heap.size + 2, 4, none⟩ = some (.slice none 0 0) := cell_of_row _ _ _ _ _ _ HX3.out.acc
  go_wp2_with (at_builtin; refine wpList_append_lies _ rfl _ _ 41 rfl (w.heap.size + 3) 4 i4 _ 1 1 Tryd.underlying41 hi4 hz4 ha4 hb4 rfl (by decide) (.slice none 0 0) 0 [] rfl (World.ownsRow_nil _ _ _ _) _ _ _ _ _ rfl H4.out.2.2.1 (H4.out.1.keep (Keeps.old_below HX3.out.below (Nat.le_refl _))) H4.out.2.2.2.1 ?c3 ?c4 ?c5 ?_)
  case c3 => unfold maxLen; omega
  case c4 => omega
  case c5 => have := HX3.out.lt; omega
  intro v4 u4 hown hgrow _
  have hbl : Below W3.heap.size W3 u4 := (Below.refl W3.heap.size W3).grown hgrow (Nat.le_refl _) (fun g hg => by cases hg)
  have hvr : rep u4 (fresh (w.heap.size + 3) u4.heap.size) [v4] t.b := rep_of_own (e := 4) (base := w.heap.size + 3) hown (Chunks.any H4.out.2.1) H4.out.2.2.2.2 (fun g _ h1 h2 => ⟨h1, h2⟩)
  have hone : v4.oneCell' = true := Rep.one hvr _ (List.mem_singleton.2 rfl)
  have HY := Lib.hid (HX3.out.next hbl)
  have r1 := fresh_next R1.out hbl
  clear R1
  have R1 := Lib.hid r1
  clear r1
  have r2 := fresh_next R2.out hbl
  clear R2
  have R2 := Lib.hid r2
  clear r2
  have r3 := fresh_next R3.out hbl
  clear R3
  have R3 := Lib.hid r3
  clear r3
  have R4 := Lib.hid hvr
  have HO4 := Lib.hid hone
  clear hown hgrow hbl hvr ks ka hone
  go_wp2_with (with_reducible refine at_store 41 _ _ rfl ?_; refine halt ?_)
  unfold Halt
  refine wpList_store_field rfl 41 _ _ rfl (w.heap.size + 2) 4 v4 rfl rfl HO4.out (by kernel_rfl) 43 [.int .i64 t.type, v1, v2, v3, .slice none 0 0] HY.out.acc (by show 4 < 5; decide) ?_
  have hX : TenInv w [.int .i64 t.type, .slice A1 t.dims.length k1, .slice A2 t.f.length k2, .slice A3 t.i.length k3, .slice A4 t.b.length k4] [.int .i64 t.type, v1, v2, v3, v4] (u4.setRow (w.heap.size + 2) (List.set [.int .i64 t.type, v1, v2, v3, .slice none 0 0] 4 v4).toArray) := HY.out.row [.int .i64 t.type, v1, v2, v3, v4]
  have r1 := fresh_row R1.out (show w.heap.size + 2 < w.heap.size + 3 by omega) (List.set [.int .i64 t.type, v1, v2, v3, .slice none 0 0] 4 v4).toArray
  clear R1
  have r2 := fresh_row R2.out (show w.heap.size + 2 < w.heap.size + 3 by omega) (List.set [.int .i64 t.type, v1, v2, v3, .slice none 0 0] 4 v4).toArray
  clear R2
  have r3 := fresh_row R3.out (show w.heap.size + 2 < w.heap.size + 3 by omega) (List.set [.int .i64 t.type, v1, v2, v3, .slice none 0 0] 4 v4).toArray
  clear R3
  have r4 := fresh_row R4.out (show w.heap.size + 2 < w.heap.size + 3 by omega) (List.set [.int .i64 t.type, v1, v2, v3, .slice none 0 0] 4 v4).toArray
  clear R4
  generalize World.setRow _ _ _ = W4 at hX r1 r2 r3 r4 ⊢
  have HX4 := Lib.hid hX
  have R1 := Lib.hid r1
  clear r1
  have R2 := Lib.hid r2
  clear r2
  have R3 := Lib.hid r3
  clear r3
  have R4 := Lib.hid r4
  clear r4
  clear hX HY HX3
  go_wp2_with (first
    | (with_reducible refine wpList_load_agg rfl 43 _ rfl _ _ _ rfl [.int .i64 t.type, v1, v2, v3, v4] Tryd.underlying43 rfl (by kernel_rfl) (At.of_row HX4.out.acc) ?_)
    | (with_reducible refine at_store 43 _ _ rfl ?_; refine halt ?_))
  unfold Halt
  refine wpList_store_agg rfl 43 _ _ rfl (w.heap.size + 1) 0 [.int .i64 t.type, v1, v2, v3, v4] rfl rfl 43 zeroTc HX4.out.res (by kernel_rfl) (by show 0 + 5 ≤ 5; decide) (one5 rfl HO1.out HO2.out HO3.out HO4.out) ?_
  go_wp2
  obtain ⟨hb, hres⟩ := HX4.out.out (xs := [.int .i64 t.type, v1, v2, v3, v4]) rfl
  refine bodyPost_ret (results_cell_row rfl _ _ (w.heap.size + 1) 43 _ (0, 0) _ rfl hres Tryd.underlying43 rfl (by kernel_rfl)) rfl ⟨_, rfl, ?_, hb⟩
  have g : ∀ {α : Type} [Rep α] {v : Value} {l : α}, rep W4 (fresh (w.heap.size + 3) W4.heap.size) [v] l → rep (W4.setRow (w.heap.size + 1) (zeroTc.take 0 ++ [.int .i64 t.type, v1, v2, v3, v4] ++ zeroTc.drop (0 + ([.int .i64 t.type, v1, v2, v3, v4] : List Value).length)).toArray) (fresh w.heap.size (W4.setRow (w.heap.size + 1) (zeroTc.take 0 ++ [.int .i64 t.type, v1, v2, v3, v4] ++ zeroTc.drop (0 + ([.int .i64 t.type, v1, v2, v3, v4] : List Value).length)).toArray).heap.size) [v] l :=
    fun h => fresh_more (fresh_row h (by omega) _) (by omega)
  exact shut_TensorD HTI.out (g R1.out) (g R2.out) (g R3.out) (g R4.out)

end Go.Proofs.YtgbkhcmbmffljaaDoor
