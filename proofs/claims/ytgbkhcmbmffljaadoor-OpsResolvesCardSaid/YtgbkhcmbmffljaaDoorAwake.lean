/-
  The document's examples of chapter 08: the program answers them.
-/
import Derived.Test.YtgbkhcmbmffljaaDoorAwakeP
import Derived.Test.YtgbkhcmbmffljaaDoorAttrs
import Derived.Test.YtgbkhcmbmffljaaDoorResW
import Derived.Test.YtgbkhcmbmffljaaDoorOpsG
set_option linter.unusedSimpArgs false
namespace Go.Proofs.YtgbkhcmbmffljaaDoor
open Go.RowKit
open Rep (rep)

/-- 'Resolve' answers as the plain function does. -/
def ResolveLaw : Prop := ∀ (cs : List Value) (n : NodeD) (w : World), Tab w → rep w (old w.heap.size) cs n → Calls Tryd.prog 20 #[.agg cs.toArray] w (AnswerD w (resolveD n).1 (resolveD n).2.1 (resolveD n).2.2)

/-- What the walk keeps. -/
structure Keep8 (w : World) (b o g : Nat) (W : World) : Prop where
  below : Below w.heap.size w W
  ltb : b < W.heap.size
  cb : W.cell? ⟨b, o, none⟩ = some (.string ⟨#[102, 109, 111, 100]⟩)
  ltg : g < W.heap.size
  c9 : W.cell? ⟨g, 9, none⟩ = some (.int .u32 1065353216)
  c17 : W.cell? ⟨g, 17, none⟩ = some (.bool false)
  c18 : W.cell? ⟨g, 18, none⟩ = some (.bool true)
theorem Keep8.next {w W W' : World} {b o g : Nat} (h : Keep8 w b o g W) (hb : Below W.heap.size W W') : Keep8 w b o g W' :=
  ⟨h.below.trans (hb.mono h.below.size), Nat.lt_of_lt_of_le h.ltb hb.size, (hb.cell (p := ⟨b, o, none⟩) h.ltb).trans h.cb, Nat.lt_of_lt_of_le h.ltg hb.size, (hb.cell (p := ⟨g, 9, none⟩) h.ltg).trans h.c9, (hb.cell (p := ⟨g, 17, none⟩) h.ltg).trans h.c17, (hb.cell (p := ⟨g, 18, none⟩) h.ltg).trans h.c18⟩
/-- .. ahead of the first setting. -/
structure Keep5 (w : World) (b o : Nat) (W : World) : Prop where
  below : Below w.heap.size w W
  ltb : b < W.heap.size
  cb : W.cell? ⟨b, o, none⟩ = some (.string ⟨#[102, 109, 111, 100]⟩)
theorem Keep5.next {w W W' : World} {b o : Nat} (h : Keep5 w b o W) (hb : Below W.heap.size W W') : Keep5 w b o W' :=
  ⟨h.below.trans (hb.mono h.below.size), Nat.lt_of_lt_of_le h.ltb hb.size, (hb.cell (p := ⟨b, o, none⟩) h.ltb).trans h.cb⟩
theorem keep_first {w w4 : World} {b o : Nat} {ss : List Value} {s : SettingD} {Z : Zone} (h : Keep5 w b o w4) (hS : SettingDAt w4 Z ss s) (h1 : s.alpha = 1065353216) (h2 : s.transB = true) (h3 : s.transA = false) :
    Keep8 w b o w4.heap.size ((w4.alloc (.cells zeroS.toArray 45)).setRow w4.heap.size (zeroS.take 0 ++ ss ++ zeroS.drop (0 + ss.length)).toArray) := by
  obtain ⟨hb, hh, hs⟩ := laid_row w4 45 zeroS ss (by rw [hS.len, zeroS_len])
  have hk := h.next hb
  have c : ∀ j v, ss[j]? = some v → ((w4.alloc (.cells zeroS.toArray 45)).setRow w4.heap.size (zeroS.take 0 ++ ss ++ zeroS.drop (0 + ss.length)).toArray).cell? ⟨w4.heap.size, j, none⟩ = some v := fun j v hv => by
    rw [cell_of_row _ _ _ _ _ _ hh]; simpa using hv
  have e9 := hS.f9.u32.1
  have e17 := hS.f17.bool
  have e18 := hS.f18.bool
  rw [h1] at e9
  rw [h3] at e17
  rw [h2] at e18
  exact ⟨hk.below, hk.ltb, hk.cb, by rw [hs]; exact Nat.lt_succ_self _, c 9 _ e9, c 17 _ e17, c 18 _ e18⟩

set_option maxRecDepth 100000 in
set_option maxHeartbeats 40000000 in
theorem awake_any (HRes : Hid ResolveLaw) (w : World) (ht : Tab w) :
    Calls Tryd.prog 11 #[] w fun e w' => e = .returned (.bool true) ∧ Below w.heap.size w w' := by
  have HT := Lib.hid ht
  clear ht
  go_enter Tryd.func11, Tryd.ntmps11
  go_wp2_with fail
  refine (arity_any 48 w (by unfold I64; omega)).mono ?_
  rw [arity_48.1, arity_48.2.1, arity_48.2.2.1, arity_48.2.2.2]
  rintro e w1 ⟨rfl, hb1⟩
  have HB1 := Lib.hid hb1
  clear hb1
  go_wp2_with fail
  refine (attrs_any 32 w1 (HT.out.ext HB1.out) (by unfold I64; omega)).mono ?_
  rw [show namesD 32 = [⟨#[102, 109, 111, 100]⟩] from names_32]
  rintro e w2 ⟨v5, rfl, hown, hb2⟩
  have hrep : rep w2 (old w2.heap.size) [v5] ([⟨#[102, 109, 111, 100]⟩] : List ByteArray) := rep_of_own (e := 9) (xs := [Value.string ⟨#[102, 109, 111, 100]⟩]) hown (chunks_str [⟨#[102, 109, 111, 100]⟩] (by decide)) (by decide) (fun g _ h1 h2 => h2)
  obtain ⟨A5, c5, ys, rfl, hnc5, hcm5, -, hl5, hch5⟩ := open_slice hrep
  obtain ⟨b5, o5, xcs, rfl, hbB, hrz, hcell⟩ := elem_at (i := 0) (a := ⟨#[102, 109, 111, 100]⟩) hl5 hch5 (by decide) rfl
  obtain ⟨rfl, -⟩ := hrz
  have hk : Keep5 w b5 o5 w2 := ⟨HB1.out.trans (hb2.mono HB1.out.size), hbB, by have := (hcell 0 _ rfl).1; simpa using this⟩
  have HK2 := Lib.hid hk
  have hlen5 : ([⟨#[102, 109, 111, 100]⟩] : List ByteArray).length = 1 := rfl
  rw [hlen5] at hnc5 ⊢
  clear hown hb2 hrep hl5 hch5 hcell hk hlen5 hbB
  obtain ⟨s1, e1, hs1, hs2, hs3⟩ := answer1
  have HA1 := Lib.hid (And.intro e1 (And.intro hs1 (And.intro hs2 hs3)))
  clear e1 hs1 hs2 hs3
  have HN1 := Lib.hid (fun (V W : World) h => rep_node1 V 1 i64_1 W h)
  go_wp2_with fail
  obtain ⟨hr, hb, hz⟩ := HN1.out _ _ rfl
  refine (HRes.out [.string bGemm, .string bE, .slice (some ⟨w2.heap.size, 0, none⟩) 2 2, .slice (some ⟨w2.heap.size + 1, 0, none⟩) 1 1, .slice (some ⟨w2.heap.size + 2, 0, none⟩) 1 1] (node1 1) _ (HT.out.ext (HK2.out.next hb).below) hr).mono ?_
  rw [HA1.out.1]
  rintro e w3 ⟨ss1, rfl, hS, hb3⟩
  have hk := (HK2.out.next hb).next hb3
  have hsl : ss1.length = 36 := hS.len
  have hso : ∀ u ∈ ss1, u.oneCell' = true := (inferInstance : Rep SettingD).one hS
  have HS1 := Lib.hid (And.intro hsl hso)
  have HK3 := Lib.hid (And.intro hk hS)
  clear hr hb hz hS hb3 hk hsl hso
  go_wp2_with (first
    | (with_reducible refine wpList_alloc_row rfl 45 rfl zeroS zeroS_zero ?_)
    | (with_reducible refine wpList_store_agg rfl 45 _ _ rfl _ 0 ss1 rfl rfl 45 zeroS (heap_alloc_new _ _) (by rw [HS1.out.1]; kernel_rfl) (by rw [HS1.out.1, zeroS_len]; omega) HS1.out.2 ?_; have hX := keep_first HK3.out.1 HK3.out.2 HA1.out.2.1 HA1.out.2.2.1 HA1.out.2.2.2; generalize World.setRow _ _ _ = u1 at hX ⊢; have HU1 := Lib.hid hX; clear hX; refine halt ?_))
  unfold Halt
  have HN2 := Lib.hid (fun (V W : World) h => rep_node1 V 2 (by unfold I64; omega) W h)
  go_wp2_with fail
  obtain ⟨hr, hb, hz⟩ := HN2.out _ _ rfl
  refine (HRes.out [.string bGemm, .string bE, .slice (some ⟨u1.heap.size, 0, none⟩) 2 2, .slice (some ⟨u1.heap.size + 1, 0, none⟩) 1 1, .slice (some ⟨u1.heap.size + 2, 0, none⟩) 1 1] (node1 2) _ (HT.out.ext (HU1.out.next hb).below) hr).mono ?_
  rw [answer2]
  rintro e w2x ⟨ss2, rfl, hS, hb3⟩
  have hk := (HU1.out.next hb).next hb3
  have hsl : ss2.length = 36 := hS.len
  have hso : ∀ u ∈ ss2, u.oneCell' = true := (inferInstance : Rep SettingD).one hS
  have HS2 := Lib.hid (And.intro hsl hso)
  have HK2 := Lib.hid hk
  clear hr hb hz hS hb3 hk hsl hso
  go_wp2_with (first
    | (with_reducible refine wpList_alloc_row rfl 45 rfl zeroS zeroS_zero ?_)
    | (with_reducible refine wpList_store_agg rfl 45 _ _ rfl _ 0 ss2 rfl rfl 45 zeroS (heap_alloc_new _ _) (by rw [HS2.out.1]; kernel_rfl) (by rw [HS2.out.1, zeroS_len]; omega) HS2.out.2 ?_; have hX := HK2.out.next (laid_row w2x 45 zeroS ss2 (by rw [HS2.out.1, zeroS_len])).1; generalize World.setRow _ _ _ = u2 at hX ⊢; have HU2 := Lib.hid hX; clear hX; refine halt ?_))
  unfold Halt
  have HN3 := Lib.hid (fun (V W : World) h => rep_node3 V W h)
  go_wp2_with fail
  obtain ⟨hr, hb, hz⟩ := HN3.out _ _ rfl
  refine (HRes.out [.string bGemm, .string bE, .slice (some ⟨u2.heap.size, 0, none⟩) 1 1, .slice (some ⟨u2.heap.size + 1, 0, none⟩) 1 1, .slice none 0 0] node3 _ (HT.out.ext (HU2.out.next hb).below) hr).mono ?_
  rw [answer3]
  rintro e w3x ⟨ss3, rfl, hS, hb3⟩
  have hk := (HU2.out.next hb).next hb3
  have hsl : ss3.length = 36 := hS.len
  have hso : ∀ u ∈ ss3, u.oneCell' = true := (inferInstance : Rep SettingD).one hS
  have HS3 := Lib.hid (And.intro hsl hso)
  have HK3 := Lib.hid hk
  clear hr hb hz hS hb3 hk hsl hso
  go_wp2_with (first
    | (with_reducible refine wpList_alloc_row rfl 45 rfl zeroS zeroS_zero ?_)
    | (with_reducible refine wpList_store_agg rfl 45 _ _ rfl _ 0 ss3 rfl rfl 45 zeroS (heap_alloc_new _ _) (by rw [HS3.out.1]; kernel_rfl) (by rw [HS3.out.1, zeroS_len]; omega) HS3.out.2 ?_; have hX := HK3.out.next (laid_row w3x 45 zeroS ss3 (by rw [HS3.out.1, zeroS_len])).1; generalize World.setRow _ _ _ = u3 at hX ⊢; have HU3 := Lib.hid hX; clear hX; refine halt ?_))
  unfold Halt
  go_wp2_with fail
  refine (HRes.out [.string bFoo, .string bE, .slice none 0 0, .slice none 0 0, .slice none 0 0] node4 _ (HT.out.ext HU3.out.below) (rep_node4 _ _)).mono ?_
  rw [answer4]
  rintro e w4x ⟨ss4, rfl, hS, hb3⟩
  have hk := HU3.out.next hb3
  have hsl : ss4.length = 36 := hS.len
  have hso : ∀ u ∈ ss4, u.oneCell' = true := (inferInstance : Rep SettingD).one hS
  have HS4 := Lib.hid (And.intro hsl hso)
  have HK4 := Lib.hid hk
  clear hS hb3 hk hsl hso
  go_wp2_with (first
    | (with_reducible refine wpList_alloc_row rfl 45 rfl zeroS zeroS_zero ?_)
    | (with_reducible refine wpList_store_agg rfl 45 _ _ rfl _ 0 ss4 rfl rfl 45 zeroS (heap_alloc_new _ _) (by rw [HS4.out.1]; kernel_rfl) (by rw [HS4.out.1, zeroS_len]; omega) HS4.out.2 ?_; have hX := HK4.out.next (laid_row w4x 45 zeroS ss4 (by rw [HS4.out.1, zeroS_len])).1; generalize World.setRow _ _ _ = u4 at hX ⊢; have HU4 := Lib.hid hX; clear hX; refine halt ?_))
  unfold Halt
  go_wp2_with fail
  refine (number_any ⟨#[67, 111, 110, 118]⟩ _).mono ?_
  rw [num_Conv]
  rintro e x1 ⟨rfl, hb⟩
  have HX1 := Lib.hid (HU4.out.next hb)
  clear hb
  go_wp2_with fail
  refine (name_any 80 _ (by unfold I64; omega)).mono ?_
  rw [name_80]
  rintro e x2 ⟨rfl, hb⟩
  have HX2 := Lib.hid (HX1.out.next hb)
  clear hb
  go_wp2_with fail
  refine (number_any ⟨#[99, 111, 110, 118]⟩ _).mono ?_
  rw [num_conv]
  rintro e x3 ⟨rfl, hb⟩
  have HX3 := Lib.hid (HX2.out.next hb)
  clear hb
  go_wp2_with fail
  refine (name_any 81 _ (by unfold I64; omega)).mono ?_
  rw [name_81]
  rintro e x4 ⟨rfl, hb⟩
  have HX4 := Lib.hid (HX3.out.next hb)
  clear hb
  have k0 := HX4.out.cb
  have k9 := HX4.out.c9
  have k17 := HX4.out.c17
  have k18 := HX4.out.c18
  go_wp2
  go_ret
  exact ⟨rfl, HX4.out.below⟩
end Go.Proofs.YtgbkhcmbmffljaaDoor
