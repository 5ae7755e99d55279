/-
  The reference of chapter 08: Resolve of any node: what resolveD says.
-/
import Derived.Test.YtgbkhcmbmffljaaDoorRefG
import Derived.Test.YtgbkhcmbmffljaaDoorRefF
import Derived.Test.YtgbkhcmbmffljaaDoorRefJ
import Derived.Test.YtgbkhcmbmffljaaDoorResW
import Derived.Test.YtgbkhcmbmffljaaDoorResX
import Derived.Test.YtgbkhcmbmffljaaDoorDraw
set_option linter.unusedSimpArgs false
set_option linter.unusedVariables false
namespace Go.Proofs.YtgbkhcmbmffljaaDoor
open Go.RowKit
open Rep (rep)

/-- What a row says of its attribute's name and kind. -/
def legitB (x : SortD) : Bool :=
  (!decide (x.name = ⟨#[118, 97, 108, 117, 101]⟩) || decide (kindD x.letter.toNat = 4)) && (!decide (x.name = ⟨#[118, 97, 108, 117, 101, 95, 102, 108, 111, 97, 116]⟩) || decide (kindD x.letter.toNat = 1)) && (!decide (x.name = ⟨#[118, 97, 108, 117, 101, 95, 105, 110, 116]⟩) || decide (kindD x.letter.toNat = 2))
  && (!decide (x.name = ⟨#[118, 97, 108, 117, 101, 95, 102, 108, 111, 97, 116, 115]⟩) || decide (kindD x.letter.toNat = 6)) && (!decide (x.name = ⟨#[118, 97, 108, 117, 101, 95, 105, 110, 116, 115]⟩) || decide (kindD x.letter.toNat = 7))
  && (!Lib.hasPrefix x.name.data.toList sValue || (decide (x.name = ⟨#[118, 97, 108, 117, 101]⟩) || decide (x.name = ⟨#[118, 97, 108, 117, 101, 95, 102, 108, 111, 97, 116]⟩) || decide (x.name = ⟨#[118, 97, 108, 117, 101, 95, 105, 110, 116]⟩) || decide (x.name = ⟨#[118, 97, 108, 117, 101, 95, 102, 108, 111, 97, 116, 115]⟩) || decide (x.name = ⟨#[118, 97, 108, 117, 101, 95, 105, 110, 116, 115]⟩)))
  && (!(decide (x.name = ⟨#[109, 111, 100, 101]⟩) || decide (x.name = ⟨#[114, 101, 100, 117, 99, 116, 105, 111, 110]⟩) || decide (x.name = ⟨#[97, 117, 116, 111, 95, 112, 97, 100]⟩)) || decide (x.letter = 116))
theorem rows_legit : ((noRow :: tableD).all fun r => (sortsD r).all legitB) = true := by decide +kernel
theorem legit_of {op : Int} {x : SortD} {a : AttrD} (hx : x ∈ sortsD (findD op)) (hn : a.name = x.name) (hk : a.kind = kindD x.letter.toNat) (hm : mayD x.letter.toNat op x.name a = true) : Legit op a := by
  have h := List.all_eq_true.1 (List.all_eq_true.1 rows_legit _ (findD_mem op)) x hx
  unfold legitB at h
  simp only [Bool.and_eq_true, Bool.or_eq_true, Bool.not_eq_true', decide_eq_true_eq, decide_eq_false_iff_not, ← hn, ← hk] at h
  obtain ⟨⟨⟨⟨⟨⟨h1, h2⟩, h3⟩, h4⟩, h5⟩, h6⟩, h7⟩ := h
  refine ⟨fun e => ?_, fun e => h2.resolve_left (fun h => h e), fun e => h3.resolve_left (fun h => h e), fun e => h4.resolve_left (fun h => h e), fun e => h5.resolve_left (fun h => h e), fun e => ?_, fun e => ?_⟩
  · have := h1.resolve_left (fun h => h e)
    omega
  · rcases h6 with h6 | h6
    · rw [e] at h6; cases h6
    · rcases h6 with (((h6 | h6) | h6) | h6) | h6
      · exact .inl h6
      · exact .inr (.inl h6)
      · exact .inr (.inr (.inl h6))
      · exact .inr (.inr (.inr (.inl h6)))
      · exact .inr (.inr (.inr (.inr h6)))
  · have hl : x.letter = 116 := by
      rcases h7 with h7 | h7
      · exfalso
        simp only [Bool.or_eq_false_iff, decide_eq_false_iff_not] at h7
        rcases e with e | e | e
        · exact h7.1.1 e
        · exact h7.1.2 e
        · exact h7.2 e
      · exact h7
    rw [hl] at hm
    unfold mayD at hm
    rw [hn]
    exact Option.isSome_iff_exists.1 (by simpa using hm)
theorem step_once {op : Int} {l : List AttrD} {s0 s : SettingD} (h : stepD op l (sortsD (findD op)) s0 0 = some (s, l.length)) : ∀ a ∈ l, countD l a.name = 1 := by
  obtain ⟨h1, h2⟩ := step_some _ _ _ _ _ h
  rw [sum_count] at h2
  have h3 := all_one (fun a : AttrD => timesD (sortsD (findD op)) a.name) l (fun a _ => times_le op a.name) (by omega)
  intro a ha
  obtain ⟨x, hx, hxa⟩ := times_pos (by rw [h3 a ha]; omega)
  have h4 := h1 x hx
  rw [hxa] at h4
  have : 0 < countD l a.name := by
    unfold countD
    exact List.length_pos_of_mem (List.mem_filter.2 ⟨ha, by simp⟩)
  omega
theorem count_once {l : List AttrD} (h : ∀ a ∈ l, countD l a.name = 1) (s : ByteArray) : countD l s ≤ 1 := by
  cases hc : countD l s with
  | zero => omega
  | succ k =>
    have hf : l.filter (fun a => decide (a.name = s)) ≠ [] := fun e => by unfold countD at hc; rw [e] at hc; cases hc
    obtain ⟨x, hx⟩ := List.exists_mem_of_ne_nil _ hf
    obtain ⟨h1, h2⟩ := List.mem_filter.1 hx
    have h3 := h x h1
    rw [show x.name = s by simpa using h2] at h3
    omega
theorem find_pos {l : List AttrD} {s : ByteArray} (h : countD l s = 1) : 0 ≤ findI l s := by
  obtain ⟨j, _, h1, _⟩ := find_place h
  omega
section
variable {P : Program}
theorem yields_load_one {ops : Array Oper} {S : World → Prop} {o : Oper} {a : Act} (hw : Region.wanted o (yielded ops a.tmps) = true) (ty : TypeId) (x : Operand) (ho : o.op = .load ty x) (b f : Nat) (hx : a.eval x = .pointer (some ⟨b, f, none⟩))
    (v : Value) (d : TypeDesc) (hu : P.underlying ty = some d) (hd : (match d with | .struct _ | .array _ _ => true | _ => false) = false) (hS : ∀ w, S w → w.cell? ⟨b, f, none⟩ = some v) : YieldsIf P ops S o v a :=
  .inl ⟨hw, fun w h => by
    have hag : (isAgg ty).run P w = .ok false w := by
      unfold isAgg
      rw [Sem.run_bind, run_underlying hu w]
      cases d <;> simp_all
    unfold execOp
    simp only [ho, hx, Instr.loadAt, Instr.sureAddr, Sem.run_bind, Sem.run_pure, Result.andThen_ok, loadVar, hag]
    simp [hS w h]⟩
theorem yields_neqF {ops : Array Oper} {S : World → Prop} {o : Oper} {a : Act} (hw : Region.wanted o (yielded ops a.tmps) = true) (x y : Operand) (t u : TypeId) (ho : o.op = .binOp .neq t x y u) (p : Int) (hx : a.eval x = .int .i64 p) (hy : a.eval y = .int .i64 p)
    (_ : P.underlying t = some (.int .i64)) : YieldsIf P ops S o (.bool false) a :=
  .inl ⟨hw, fun w h => by
    unfold execOp
    simp only [ho, hx, hy]
    go_simp⟩
end
section
variable {P : Program} {md : Region.Mode} {ops : Array Oper} {Q : Exit → Act → World → Prop} {S : World → Prop}
/-- 'take' and 'call', the slot that is written named. -/
theorem take_d (i : Nat) (d : Option Tmp) {oi : Oper} {v : Value} {fuel : Nat} {listed : Array Bool} {a : Act} {w : World} (hi : ops[i]? = some oi) (hd : oi.dst = d)
    (hs : Region.noSelect ops = true) (hf : Region.free md ops listed i = true) (hr : (Region.ready md ops listed).contains i = true)
    (hQ : ∀ c a w, Q (.panic c) (a.put d v) w → Q (.panic c) a w) (hy : YieldsIf P ops S oi v a) (hS : S w)
    (h : wpAnyH P md ops Q S fuel (listed.setIfInBounds i true) (a.put d v) w) : wpAnyH P md ops Q S (fuel + 1) listed a w := by
  subst hd
  exact wpAnyH_take hi hs hf hr hQ hy hS h
theorem call_d (i : Nat) (d : Option Tmp) {fuel : Nat} {listed : Array Bool} {a : Act} {w : World} {o : Oper} (hio : ops[i]? = some o) (hd : o.dst = d) (hr : Region.ready md ops listed = [i])
    (hw : Region.wanted o (yielded ops a.tmps) = true) (f : FuncId) (xs : Array Operand) (ts : Array TypeId) (ho : o.op = .call { callee := .value (.func f), args := xs, argTypes := ts }) (vs : Array Value) (hv : xs.map a.eval = vs) (hc : ∀ w, (callFunc f vs).run P w = .ok (.enter f vs) w)
    (h : Calls P f vs w fun e w' => ∃ u, e = .returned u ∧ S w' ∧ wpAnyH P md ops Q S fuel (listed.setIfInBounds i true) (a.put d u) w') : wpAnyH P md ops Q S (fuel + 1) listed a w := by
  subst hd
  exact anyH_call i hio hr hw f xs ts ho vs hv hc h
end
theorem LoopInv.again {w8 W W' : World} {n0 g : Nat} {ss s5 : List Value} {s s' : SettingD} (h : LoopInv w8 n0 g ss s W) (hn0 : n0 ≤ W.heap.size) (hb : Below W.heap.size W W') (hs : SettingDAt W' ((freshBut n0 W.heap.size g).plus W.heap.size W'.heap.size) s5 s') :
    LoopInv w8 n0 g s5 s' (W'.setRow g s5.toArray) := by
  have hg : g < W.heap.size := h.sets.lt
  have hgrow : W'.grownBy (W'.setRow g s5.toArray) (some g) := ⟨rfl, rfl, rfl, by rw [size_setRow]; exact Nat.le_refl _, fun k _ hn => heap_setRow_other _ _ _ _ (fun e => hn (by rw [e]))⟩
  have hn := h.grown.size
  have hl : s5.length = 36 := hs.len
  refine ⟨grown_trans (grown_below h.grown hb) hgrow, (h.sets.below hb).row s5 hl, ?_⟩
  refine (inferInstance : Rep SettingD).more ((inferInstance : Rep SettingD).keep hs (.of_block fun k hk => heap_setRow_other _ _ _ _ ?_)) ⟨fun k hk => ?_, fun h => h⟩
  · rcases hk with hk | hk
    · exact hk.2.2
    · omega
  · rw [size_setRow]
    have := hb.size
    rcases hk with hk | hk
    · exact ⟨hk.1, Nat.lt_of_lt_of_le hk.2.1 this, hk.2.2⟩
    · exact ⟨by omega, hk.2, by omega⟩
theorem mayR_any (c : UInt8) (hc : (c.toNat : Int) ∈ lettersD) : MaySaid (c.toNat : Int) (sortName c) := by
  have key : ∀ m : Nat, ((c.toNat : Int) = (m : Int)) → m < 256 → c = UInt8.ofNat m := fun m h hm => by
    refine UInt8.toNat_inj.1 ?_
    rw [UInt8.toNat_ofNat_of_lt' (by show m < 256; exact hm)]
    omega
  simp only [lettersD, List.mem_cons, List.not_mem_nil, or_false] at hc
  rcases hc with h | h | h | h | h | h | h | h | h | h | h | h | h | h | h | h | h
  · obtain rfl := key 48 h (by decide)
    exact mayR_48
  · obtain rfl := key 49 h (by decide)
    exact mayR_49
  · obtain rfl := key 98 h (by decide)
    exact mayR_98
  · obtain rfl := key 97 h (by decide)
    exact mayR_97
  · obtain rfl := key 115 h (by decide)
    exact mayR_115
  · obtain rfl := key 121 h (by decide)
    exact mayR_121
  · obtain rfl := key 116 h (by decide)
    exact mayR_116
  · obtain rfl := key 83 h (by decide)
    exact mayR_83
  · obtain rfl := key 70 h (by decide)
    exact mayR_70
  · obtain rfl := key 73 h (by decide)
    exact mayR_73
  · obtain rfl := key 112 h (by decide)
    exact mayR_112
  · obtain rfl := key 120 h (by decide)
    exact mayR_120
  · obtain rfl := key 122 h (by decide)
    exact mayR_122
  · obtain rfl := key 100 h (by decide)
    exact mayR_100
  · obtain rfl := key 102 h (by decide)
    exact mayR_102
  · obtain rfl := key 105 h (by decide)
    exact mayR_105
  · obtain rfl := key 84 h (by decide)
    exact mayR_84

set_option maxRecDepth 100000 in
set_option maxHeartbeats 40000000 in
theorem resolveR_any (cs : List Value) (n : NodeD) (w : World) (hr : rep w (old w.heap.size) cs n) :
    Calls Tryd.prog 21 #[.agg cs.toArray] w (AnswerD w (resolveD n).1 (resolveD n).2.1 (resolveD n).2.2) := by
  have hrn := hr
  obtain ⟨A1, k1, A2, k2, A3, k3, rfl, g0, g1, hi, ho, ha⟩ := open_NodeD hr
  obtain ⟨A', c', xs, hv, hnc, hcm, hby, hl, hch⟩ := open_slice ha
  simp only [Value.slice.injEq, true_and] at hv
  obtain ⟨rfl, rfl⟩ := hv
  have hlen : n.attrs.length ≤ 1000000000000 := by replace hby : n.attrs.length * 208 ≤ 140737488351232 := hby; omega
  have hI := number_I64 n.op
  obtain ⟨op, hop⟩ : ∃ op, numberD n.op = op := ⟨_, rfl⟩
  rw [hop] at hI
  have HR := Lib.hid (And.intro hop (And.intro hI hrn))
  have HL := Lib.hid (And.intro hl (And.intro hch (And.intro ha hlen)))
  clear hr hi ho ha g0 g1 hop hI hrn hl hch hby
  go_enter Tryd.func21, Tryd.ntmps21
  go_wp2_with (first
    | (with_reducible refine wpList_box_row rfl 36 _ rfl [.string n.op, .string n.name, .slice A1 n.ins.length k1, .slice A2 n.outs.length k2, .slice A3 n.attrs.length k3] rfl ?_)
    | (with_reducible refine wpList_alloc_row rfl 45 rfl zeroS zeroS_zero ?_; have hI := res_start w [.string n.op, .string n.name, .slice A1 n.ins.length k1, .slice A2 n.outs.length k2, .slice A3 n.attrs.length k3]; generalize World.alloc _ (.cells zeroS.toArray _) = W0 at hI ⊢; have HI := Lib.hid hI; clear hI; refine halt ?_))
  unfold Halt
  have c0 : W0.cell? ⟨w.heap.size, 0, none⟩ = some (.string n.op) := cell_of_row _ _ _ _ _ _ HI.out.node
  go_wp2_with fail
  refine (numberR_any n.op _).mono ?_
  rw [HR.out.1]
  rintro e w1 ⟨rfl, hb⟩
  have HI1 := Lib.hid (HI.out.next hb)
  clear hb c0 HI
  by_cases h0 : op = 0
  · subst h0
    go_wp2_with (first
      | (with_reducible refine wpList_build0 rfl 45 rfl zeroS (zeroS_build _) ?_)
      | (with_reducible refine wpList_store_agg rfl 45 _ _ rfl (w.heap.size + 1) 0 zeroS rfl rfl 45 zeroS HI1.out.res.at' (by kernel_rfl) (by decide) zeroS_one ?_))
    obtain ⟨ho, hbo⟩ := HI1.out.out zeroS zeroS_len
    have hres : resolveD n = (0, settingD0, 7) := by unfold resolveD; rw [if_pos HR.out.1]
    refine bodyPost_ret (results_tct rfl _ _ (w.heap.size + 1) 45 _ (0, 0) _ (.int .i64 0) (.int .i64 7) rfl rfl rfl ho Tryd.underlying45 rfl (by kernel_rfl)) rfl ?_
    rw [hres]
    exact ⟨_, rfl, zeroS_rep _ _, hbo⟩
  have e0 : (op == 0) = false := by simpa using h0
  have H0 := Lib.hid h0
  clear h0
  go_wp2_with (first
    | (with_reducible refine wpList_load_agg rfl 36 _ rfl _ _ _ rfl [.string n.op, .string n.name, .slice A1 n.ins.length k1, .slice A2 n.outs.length k2, .slice A3 n.attrs.length k3] Tryd.underlying36 rfl (by kernel_rfl) HI1.out.at ?_))
  refine (countsR_any op _ n _ (HI1.out.keeps' HR.out.2.2)).mono ?_
  obtain ⟨cb, hcb⟩ : ∃ cb, countsD (findD op) n = cb := ⟨_, rfl⟩
  rw [hcb]
  rintro e w2 ⟨rfl, hb⟩
  have HI2 := Lib.hid (HI1.out.next hb)
  have HCB := Lib.hid hcb
  clear hb hcb HI1
  cases cb with
  | false =>
    go_wp2_with (first
      | (with_reducible refine wpList_build0 rfl 45 rfl zeroS (zeroS_build _) ?_)
      | (with_reducible refine wpList_store_agg rfl 45 _ _ rfl (w.heap.size + 1) 0 zeroS rfl rfl 45 zeroS HI2.out.res.at' (by kernel_rfl) (by decide) zeroS_one ?_))
    obtain ⟨ho, hbo⟩ := HI2.out.out zeroS zeroS_len
    have hres : resolveD n = (0, settingD0, 1) := by unfold resolveD; rw [if_neg (by rw [HR.out.1]; exact H0.out), HR.out.1, if_pos HCB.out]
    refine bodyPost_ret (results_tct rfl _ _ (w.heap.size + 1) 45 _ (0, 0) _ (.int .i64 0) (.int .i64 1) rfl rfl rfl ho Tryd.underlying45 rfl (by kernel_rfl)) rfl ?_
    rw [hres]
    exact ⟨_, rfl, zeroS_rep _ _, hbo⟩
  | true =>
    go_wp2_with fail
    refine (rowsR_any op w2).mono ?_
    rintro e w3 ⟨v3, rfl, hrow, hb⟩
    have HI3 := Lib.hid (HI2.out.next hb)
    obtain ⟨A8, c8, ys, rfl, hnc8, hcm8, -, hl8, hch8⟩ := open_slice hrow
    have hRl : (rowsD (findD op)).length = (sortsD (findD op)).length := by simp [rowsD]
    rw [hRl] at hnc8 ⊢
    have HL8 := Lib.hid (And.intro hl8 hch8)
    clear hb hrow hl8 hch8 hRl HI2
    go_wp2_with fail
    refine (defR_any op w3).mono ?_
    rintro e w4 ⟨ss0, rfl, hS, hb⟩
    have hsl : ss0.length = 36 := hS.len
    have hs1 : ∀ u ∈ ss0, u.oneCell' = true := (inferInstance : Rep SettingD).one hS
    have HI4 := Lib.hid (HI3.out.next hb)
    have HS := Lib.hid (And.intro hsl (And.intro hs1 (And.intro hb.size hS)))
    have HB34 := Lib.hid hb
    clear hS hsl hs1 hb
    go_wp2_with (first
      | (with_reducible refine wpList_alloc_row rfl 45 rfl zeroS zeroS_zero ?_)
      | (with_reducible refine wpList_store_agg rfl 45 _ _ rfl _ 0 ss0 rfl rfl 45 zeroS (heap_alloc_new _ _) (by rw [HS.out.1]; kernel_rfl) (by rw [HS.out.1, zeroS_len]; omega) HS.out.2.1 ?_; have hX := LoopInv.start (w6 := w4) HS.out.2.2.1 HS.out.1 HS.out.2.2.2; generalize World.setRow _ _ _ = w5 at hX ⊢; have HX := Lib.hid hX; have HI5 := Lib.hid (HI4.out.next hX.1); clear hX; refine halt ?_))
    unfold Halt
    have HB35 := Lib.hid (HB34.out.trans (HX.out.1.mono HB34.out.size))
    have h34 : w.heap.size + 1 < w3.heap.size ∧ w3.heap.size ≤ w4.heap.size := ⟨HI3.out.lt, HB34.out.size⟩
    have H34 := Lib.hid h34
    obtain ⟨hso, hsz⟩ := sorts_ok op
    have hKN : stepD op n.attrs (sortsD (findD op)) (leftD op) 0 = none → resolveD n = (0, settingD0, 14) := resolve_none HR.out.1 H0.out HCB.out
    have HK := Lib.hid hKN
    have HSO := Lib.hid (And.intro hso hsz)
    have HL0 := Lib.hid HX.out.2
    clear hso hsz hKN h34 HI3 HI4 HS HB34 HX
    go_wp2_with fail
    go_loopw [8, 9] (fun kv i wr => ∃ (pre post : List SortD) (ss : List Value) (s : SettingD) (k : Nat), sortsD (findD op) = pre ++ post ∧ i = .int .i64 pre.length ∧ kv = .int .i64 k ∧ k ≤ pre.length ∧
        LoopInv w5 w3.heap.size w4.heap.size ss s wr ∧ stepD op n.attrs (sortsD (findD op)) (leftD op) 0 = stepD op n.attrs post s k)
      (fun _ i _ => (sortsD (findD op)).length - (intOf i).toNat)
    case atStart => exact ⟨[], sortsD (findD op), ss0, leftD op, 0, rfl, rfl, rfl, Nat.le_refl _, HL0.out, rfl⟩
    case round =>
      obtain ⟨pre, post, ss, s, k, hpp, rfl, rfl, hkp, hL, hst⟩ := hrel
      clear HL0
      have HLq := Lib.hid hL
      have HMq := Lib.hid (HI5.out.grown hL.grown (fun g e => by injection e with e; have := H34.out.1; have := H34.out.2; omega))
      have hfar : ∀ (b f : Nat) (v : Value), b < w3.heap.size → w3.cell? ⟨b, f, none⟩ = some v → wr.cell? ⟨b, f, none⟩ = some v := fun b f v hb h =>
        (hL.grown.cell_far ⟨b, f, none⟩ (Nat.lt_of_lt_of_le hb HB35.out.size) (fun e => by injection e with e; have h2 : b = w4.heap.size := e; have := H34.out.2; omega)).trans ((HB35.out.cell (p := ⟨b, f, none⟩) hb).trans h)
      have HF := Lib.hid hfar
      clear hL hfar
      cases post with
      | cons x post =>
        obtain ⟨hz, hlt, hpp', hpl⟩ := split_at hpp
        have hxm : x ∈ sortsD (findD op) := List.mem_of_getElem? hz
        obtain ⟨bs, os, xcs, rfl, hbB, hrz, hcell⟩ := elem_at (i := pre.length) (a := (⟨x.name, sortName x.letter, x.must⟩ : AttrRowD)) HL8.out.1 HL8.out.2 (by decide) (by unfold rowsD; rw [List.getElem?_map, hz]; rfl)
        obtain ⟨rfl, -, -⟩ := open_AttrRowD hrz
        have hat : At wr bs (os + pre.length * 3) [.string x.name, .string (sortName x.letter), .bool x.must] := fun j u hu => by
          have h1 := (hcell j u hu).1
          rw [← Nat.add_assoc] at h1
          exact HF.out _ _ _ hbB h1
        have hxs : x.name.size ≤ 1000 := (HSO.out.1 x hxm).1
        have hk0 : (0 : Int) ≤ (pre.length : Int) := Int.natCast_nonneg _
        have hk1 : (pre.length : Int) < ((sortsD (findD op)).length : Int) := by omega
        have hk9 : (sortsD (findD op)).length ≤ 64 := HSO.out.2
        have HA := Lib.hid (And.intro hat hlt)
        have HP := Lib.hid (And.intro hpp' (And.intro hpl (And.intro hst (And.intro (HSO.out.1 x hxm) hxm))))
        clear hpp hpp' hpl hz hcell hrz hst hbB hxm hat hlt
        obtain ⟨fi, hfi⟩ : ∃ fi, findI n.attrs x.name = fi := ⟨_, rfl⟩
        have HFI := Lib.hid hfi
        clear hfi
        have c4 : wr.cell? ⟨w.heap.size, 4, none⟩ = some (.slice A3 n.attrs.length k3) := cell_of_row _ _ _ _ _ _ HMq.out.node
        have HC4 := Lib.hid c4
        clear c4
        go_wp2_with fail
        refine wp_region_held_drew (S := fun W => W.cell? ⟨w.heap.size, 4, none⟩ = some (.slice A3 n.attrs.length k3) ∧ At W bs (os + pre.length * 3) [.string x.name, .string (sortName x.letter), .bool x.must]) (by kernel_rfl) ⟨HC4.out, HA.out.1⟩ (fun hHeld => ?_)
        refine wpAnyH_take (i := 0) (v := .pointer (some ⟨w.heap.size, 4, none⟩)) rfl (by kernel_rfl) (by kernel_rfl) (by kernel_rfl) (fun c a w h => h) (Or.inl ⟨by kernel_rfl, fun w _ => by kernel_rfl⟩) hHeld ?_
        refine wpAnyH_take (i := 1) (v := .slice A3 n.attrs.length k3) rfl (by kernel_rfl) (by kernel_rfl) (by kernel_rfl) (fun c a w h => h) (yields_load_slice (by kernel_rfl) _ _ rfl w.heap.size 4 (by kernel_rfl) _ Tryd.underlying34 (fun _ h => h.1)) hHeld ?_
        refine wpAnyH_take (i := 2) (v := .slice (some ⟨bs, os, none⟩) (sortsD (findD op)).length c8) rfl (by kernel_rfl) (by kernel_rfl) (by kernel_rfl) (fun c a w h => h) (Or.inl ⟨by kernel_rfl, fun w _ => by kernel_rfl⟩) hHeld ?_
        refine wpAnyH_take (i := 3) (v := .int .i64 (pre.length : Int)) rfl (by kernel_rfl) (by kernel_rfl) (by kernel_rfl) (fun c a w h => h) (Or.inl ⟨by kernel_rfl, fun w _ => by kernel_rfl⟩) hHeld ?_
        refine wpAnyH_take (i := 4) (v := .pointer (some ⟨bs, os + pre.length * 3, none⟩)) rfl (by kernel_rfl) (by kernel_rfl) (by kernel_rfl) (fun c a w h => h) (yields_indexI (by kernel_rfl) _ _ _ rfl bs os (sortsD (findD op)).length c8 pre.length 3 (pre.length : Int) (by kernel_rfl) (by kernel_rfl) Tryd.underlying27 (by kernel_rfl) rfl HA.out.2) hHeld ?_
        refine wpAnyH_take (i := 5) (v := .pointer (some ⟨bs, os + pre.length * 3, none⟩)) rfl (by kernel_rfl) (by kernel_rfl) (by kernel_rfl) (fun c a w h => h) (Or.inl ⟨by kernel_rfl, fun w _ => by kernel_rfl⟩) hHeld ?_
        refine wpAnyH_take (i := 6) (v := .string x.name) rfl (by kernel_rfl) (by kernel_rfl) (by kernel_rfl) (fun c a w h => h) (yields_load_one (by kernel_rfl) _ _ rfl bs (os + pre.length * 3) (by kernel_rfl) _ _ Tryd.underlying9 rfl (fun _ h => h.2 0 _ rfl)) hHeld ?_
        refine anyH_call 7 rfl (by kernel_rfl) (by kernel_rfl) 44 _ _ rfl #[.slice A3 n.attrs.length k3, .string x.name] (by kernel_rfl) (fun w => by kernel_rfl) ?_
        refine (findR_any n.attrs _ x.name wr.drew (HMq.out.drew.keeps' HL.out.2.2.1)).mono ?_
        rw [HFI.out]
        rintro e w6 ⟨rfl, rfl⟩
        refine ⟨_, rfl, hHeld, ?_⟩
        refine wpAnyH_take (i := 8) (v := .int .i64 fi) rfl (by kernel_rfl) (by kernel_rfl) (by kernel_rfl) (fun c a w h => h) (Or.inl ⟨by kernel_rfl, fun w _ => by kernel_rfl⟩) hHeld ?_
        refine wpAnyH_done (by kernel_rfl) ?_ _
        have HLd := Lib.hid HLq.out.drew
        have HMd := Lib.hid HMq.out.drew
        have HAd := Lib.hid (show At wr.drew bs (os + pre.length * 3) [.string x.name, .string (sortName x.letter), .bool x.must] from HA.out.1)
        have HC4d := Lib.hid (show wr.drew.cell? ⟨w.heap.size, 4, none⟩ = some (.slice A3 n.attrs.length k3) from HC4.out)
        have hFd : ∀ (b f : Nat) (v : Value), b < w.heap.size → w.cell? ⟨b, f, none⟩ = some v → wr.drew.cell? ⟨b, f, none⟩ = some v := fun b f v hb h => (HMd.out.below.cell (p := ⟨b, f, none⟩) hb).trans h
        have HFd := Lib.hid hFd
        clear hFd hHeld HC4 HLq HMq
        obtain ⟨wd, hwd⟩ : ∃ wd, wr.drew = wd := ⟨_, rfl⟩
        rw [hwd] at HLd HMd HAd HC4d HFd ⊢
        clear hwd
        have cm : wd.cell? ⟨bs, os + pre.length * 3 + 2, none⟩ = some (.bool x.must) := HAd.out 2 _ rfl
        by_cases e1 : 1 < countD n.attrs x.name
        · obtain rfl : fi = -2 := by rw [← HFI.out]; unfold findI; rw [if_pos e1]
          have HE1 := Lib.hid e1
          clear e1
          go_wp2_with (first
            | (with_reducible refine wpList_build0 rfl 45 rfl zeroS (zeroS_build _) ?_)
            | (with_reducible refine wpList_store_agg rfl 45 _ _ rfl (w.heap.size + 1) 0 zeroS rfl rfl 45 zeroS HMd.out.res.at' (by kernel_rfl) (by decide) zeroS_one ?_))
          obtain ⟨ho, hbo⟩ := HMd.out.out zeroS zeroS_len
          have hres : resolveD n = (0, settingD0, 14) := HK.out (HP.out.2.2.1.trans (step_many HE1.out))
          refine bodyPost_ret (results_tct rfl _ _ (w.heap.size + 1) 45 _ (0, 0) _ (.int .i64 0) (.int .i64 14) rfl rfl rfl ho Tryd.underlying45 rfl (by kernel_rfl)) rfl ?_
          rw [hres]
          exact ⟨_, rfl, zeroS_rep _ _, hbo⟩
        · by_cases e2 : countD n.attrs x.name = 0
          · obtain rfl : fi = -1 := by rw [← HFI.out]; unfold findI; rw [if_neg e1, if_pos e2]
            have HE2 := Lib.hid e2
            clear e1 e2
            cases em : x.must with
            | true =>
              rw [em] at cm
              have HEM := Lib.hid em
              clear em
              go_wp2_with (first
                | (with_reducible refine wpList_build0 rfl 45 rfl zeroS (zeroS_build _) ?_)
                | (with_reducible refine wpList_store_agg rfl 45 _ _ rfl (w.heap.size + 1) 0 zeroS rfl rfl 45 zeroS HMd.out.res.at' (by kernel_rfl) (by decide) zeroS_one ?_))
              obtain ⟨ho, hbo⟩ := HMd.out.out zeroS zeroS_len
              have hres : resolveD n = (0, settingD0, 14) := HK.out (HP.out.2.2.1.trans (step_must HE2.out HEM.out))
              refine bodyPost_ret (results_tct rfl _ _ (w.heap.size + 1) 45 _ (0, 0) _ (.int .i64 0) (.int .i64 14) rfl rfl rfl ho Tryd.underlying45 rfl (by kernel_rfl)) rfl ?_
              rw [hres]
              exact ⟨_, rfl, zeroS_rep _ _, hbo⟩
            | false =>
              rw [em] at cm
              have HEM := Lib.hid em
              clear em
              go_wp2
              go_roundw
              case rel => exact ⟨pre ++ [x], post, ss, s, k, HP.out.1, by rw [HP.out.2.1]; go_num, rfl, by rw [HP.out.2.1]; omega, HLd.out, HP.out.2.2.1.trans (step_skip HE2.out HEM.out)⟩
              case measure => simp [intOf]; omega
          · have e3 : countD n.attrs x.name = 1 := by omega
            obtain ⟨j, a, hfj, hj, hfd, han, hjl⟩ := find_place e3
            obtain rfl : fi = (j : Int) := HFI.out.symm.trans hfj
            obtain ⟨b', o', acs, rfl, hbB, hrz, hcell⟩ := elem_at HL.out.1 HL.out.2.1 (by decide) hj
            have hal : acs.length = 12 := Rep.len hrz
            have hat : At wd b' (o' + j * 12) acs := fun j' u hu => by
              have h1 := (hcell j' u hu).1
              rw [← Nat.add_assoc] at h1
              exact HFd.out _ _ _ hbB h1
            have hj0 : (0 : Int) ≤ (j : Int) := Int.natCast_nonneg _
            have hj1 : (j : Int) < (n.attrs.length : Int) := by omega
            have en2 : ((j : Int) == -2) = false := beq_eq_false_iff_ne.2 (by omega)
            have en1 : ((j : Int) == -1) = false := beq_eq_false_iff_ne.2 (by omega)
            have c4 := HC4d.out
            have HB := Lib.hid (And.intro hal (And.intro hat (And.intro (Rep.one hrz) hrz)))
            have HE3 := Lib.hid (And.intro e3 (And.intro hfd han))
            clear e1 e2 e3 hfd hfj hj han hbB hrz hcell hal hat
            go_wp2_with (first
              | (with_reducible refine wpList_load_agg rfl 52 _ rfl _ _ _ rfl acs Tryd.underlying52 rfl (by rw [HB.out.1]; kernel_rfl) HB.out.2.1 ?_)
              | (with_reducible refine wpList_alloc_row rfl 52 rfl zeroA zeroA_zero ?_)
              | (with_reducible refine wpList_store_agg rfl 52 _ _ rfl _ 0 acs rfl rfl 52 zeroA (heap_alloc_new _ _) (by rw [HB.out.1]; kernel_rfl) (by rw [HB.out.1]; decide) HB.out.2.2.1 ?_; have hY := laid_attr wd acs HB.out.1; generalize World.setRow _ _ _ = v2 at hY ⊢; have HY := Lib.hid hY; clear hY; refine halt ?_))
            unfold Halt
            have HLw := Lib.hid (HLd.out.next HY.out.1)
            have HMw := Lib.hid (HMd.out.next HY.out.1)
            have hlt2 : wd.heap.size < v2.heap.size := (Array.getElem?_eq_some_iff.1 HY.out.2).1
            have hbs : bs < wd.heap.size := by
              rcases Nat.lt_or_ge bs wd.heap.size with h | h
              · exact h
              · have h1 := HAd.out 0 _ rfl
                simp [World.cell?, Array.getElem?_eq_none h] at h1
            have hxb : At v2 bs (os + pre.length * 3) [.string x.name, .string (sortName x.letter), .bool x.must] := HAd.out.keep HY.out.1 hbs
            have HZ := Lib.hid (And.intro hxb (And.intro (At.of_row HY.out.2) (And.intro hbs hlt2)))
            clear c4 cm hxb hlt2 hbs en1 en2
            go_wp2_with fail
            obtain ⟨kd, hkd⟩ : ∃ kd, kindD (x.letter.toNat : Int) = kd := ⟨_, rfl⟩
            obtain ⟨my, hmy⟩ : ∃ my, mayD (x.letter.toNat : Int) op x.name a = my := ⟨_, rfl⟩
            have HKD := Lib.hid (And.intro hkd hmy)
            clear hkd hmy
            have hHeld0 := And.intro HZ.out.1 HZ.out.2.1
            obtain ⟨B1, l1, B2, l2, B3, l3, B4, l4, B5, l5, B6, l6, hacs, -⟩ := open_AttrD HB.out.2.2.2
            subst hacs
            refine wp_region_held_drew (S := fun W => At W bs (os + pre.length * 3) [.string x.name, .string (sortName x.letter), .bool x.must] ∧ At W wd.heap.size 0 [.string a.name, .int .i64 a.kind, .int .u32 (a.f : Int), .int .i64 a.i, .string a.s, .int .i64 a.t.type, .slice B1 a.t.dims.length l1, .slice B2 a.t.f.length l2, .slice B3 a.t.i.length l3, .slice B4 a.t.b.length l4, .slice B5 a.floats.length l5, .slice B6 a.ints.length l6]) (by kernel_rfl) hHeld0 (fun hHeld => ?_)
            refine take_d 0 (some 62) (v := .pointer (some ⟨wd.heap.size, 1, none⟩)) rfl (by kernel_rfl) (by kernel_rfl) (by kernel_rfl) (by kernel_rfl) (fun c a w h => h) (Or.inl ⟨by kernel_rfl, fun w _ => by kernel_rfl⟩) hHeld ?_
            refine take_d 1 (some 63) (v := .int .i64 a.kind) rfl (by kernel_rfl) (by kernel_rfl) (by kernel_rfl) (by kernel_rfl) (fun c a w h => h) (yields_load_one (by kernel_rfl) _ _ rfl wd.heap.size 1 (by kernel_rfl) _ _ Tryd.underlying3 rfl (fun _ h => h.2 1 _ rfl)) hHeld ?_
            refine take_d 2 (some 64) (v := .slice (some ⟨bs, os, none⟩) (sortsD (findD op)).length c8) rfl (by kernel_rfl) (by kernel_rfl) (by kernel_rfl) (by kernel_rfl) (fun c a w h => h) (Or.inl ⟨by kernel_rfl, fun w _ => by kernel_rfl⟩) hHeld ?_
            refine take_d 3 (some 65) (v := .int .i64 (pre.length : Int)) rfl (by kernel_rfl) (by kernel_rfl) (by kernel_rfl) (by kernel_rfl) (fun c a w h => h) (Or.inl ⟨by kernel_rfl, fun w _ => by kernel_rfl⟩) hHeld ?_
            refine take_d 4 (some 66) (v := .pointer (some ⟨bs, os + pre.length * 3, none⟩)) rfl (by kernel_rfl) (by kernel_rfl) (by kernel_rfl) (by kernel_rfl) (fun c a w h => h) (yields_indexI (by kernel_rfl) _ _ _ rfl bs os (sortsD (findD op)).length c8 pre.length 3 (pre.length : Int) (by kernel_rfl) (by kernel_rfl) Tryd.underlying27 (by kernel_rfl) rfl HA.out.2) hHeld ?_
            refine take_d 5 (some 67) (v := .pointer (some ⟨bs, os + pre.length * 3 + 1, none⟩)) rfl (by kernel_rfl) (by kernel_rfl) (by kernel_rfl) (by kernel_rfl) (fun c a w h => h) (Or.inl ⟨by kernel_rfl, fun w _ => by kernel_rfl⟩) hHeld ?_
            refine take_d 6 (some 68) (v := .string (sortName x.letter)) rfl (by kernel_rfl) (by kernel_rfl) (by kernel_rfl) (by kernel_rfl) (fun c a w h => h) (yields_load_one (by kernel_rfl) _ _ rfl bs (os + pre.length * 3 + 1) (by kernel_rfl) _ _ Tryd.underlying9 rfl (fun _ h => h.1 1 _ rfl)) hHeld ?_
            refine call_d 7 (some 69) rfl (by kernel_rfl) (by kernel_rfl) (by kernel_rfl) 45 _ _ rfl #[.string (sortName x.letter)] (by kernel_rfl) (fun w => by kernel_rfl) ?_
            refine (kindR_any x.letter v2.drew).mono ?_
            rw [HKD.out.1]
            rintro e w7 ⟨rfl, rfl⟩
            refine ⟨_, rfl, hHeld, ?_⟩
            by_cases ek : a.kind = kd
            · subst ek
              refine take_d 8 (some 70) (v := .bool false) rfl (by kernel_rfl) (by kernel_rfl) (by kernel_rfl) (by kernel_rfl) (fun c a w h => h) (yields_neqF (by kernel_rfl) _ _ _ _ rfl a.kind (by kernel_rfl) (by kernel_rfl) Tryd.underlying3) hHeld ?_
              refine take_d 9 (some 71) (v := .bool false) rfl (by kernel_rfl) (by kernel_rfl) (by kernel_rfl) (by kernel_rfl) (fun c a w h => h) (Or.inl ⟨by kernel_rfl, fun w _ => by kernel_rfl⟩) hHeld ?_
              refine take_d 10 (some 72) (v := .int .i64 op) rfl (by kernel_rfl) (by kernel_rfl) (by kernel_rfl) (by kernel_rfl) (fun c a w h => h) (Or.inl ⟨by kernel_rfl, fun w _ => by kernel_rfl⟩) hHeld ?_
              refine take_d 11 (some 73) (v := .slice (some ⟨bs, os, none⟩) (sortsD (findD op)).length c8) rfl (by kernel_rfl) (by kernel_rfl) (by kernel_rfl) (by kernel_rfl) (fun c a w h => h) (Or.inl ⟨by kernel_rfl, fun w _ => by kernel_rfl⟩) hHeld ?_
              refine take_d 12 (some 74) (v := .int .i64 (pre.length : Int)) rfl (by kernel_rfl) (by kernel_rfl) (by kernel_rfl) (by kernel_rfl) (fun c a w h => h) (Or.inl ⟨by kernel_rfl, fun w _ => by kernel_rfl⟩) hHeld ?_
              refine take_d 13 (some 75) (v := .pointer (some ⟨bs, os + pre.length * 3, none⟩)) rfl (by kernel_rfl) (by kernel_rfl) (by kernel_rfl) (by kernel_rfl) (fun c a w h => h) (yields_indexI (by kernel_rfl) _ _ _ rfl bs os (sortsD (findD op)).length c8 pre.length 3 (pre.length : Int) (by kernel_rfl) (by kernel_rfl) Tryd.underlying27 (by kernel_rfl) rfl HA.out.2) hHeld ?_
              refine take_d 14 (some 76) (v := .agg ([.string x.name, .string (sortName x.letter), .bool x.must] : List Value).toArray) rfl (by kernel_rfl) (by kernel_rfl) (by kernel_rfl) (by kernel_rfl) (fun c a w h => h) (yields_load_agg (by kernel_rfl) 32 _ rfl _ bs (os + pre.length * 3) (by kernel_rfl) [.string x.name, .string (sortName x.letter), .bool x.must] Tryd.underlying32 rfl (by kernel_rfl) (fun _ h => h.1)) hHeld ?_
              refine take_d 15 (some 77) (v := .agg ([.string a.name, .int .i64 a.kind, .int .u32 (a.f : Int), .int .i64 a.i, .string a.s, .int .i64 a.t.type, .slice B1 a.t.dims.length l1, .slice B2 a.t.f.length l2, .slice B3 a.t.i.length l3, .slice B4 a.t.b.length l4, .slice B5 a.floats.length l5, .slice B6 a.ints.length l6] : List Value).toArray) rfl (by kernel_rfl) (by kernel_rfl) (by kernel_rfl) (by kernel_rfl) (fun c a w h => h) (yields_load_agg (by kernel_rfl) 52 _ rfl _ wd.heap.size 0 (by kernel_rfl) [.string a.name, .int .i64 a.kind, .int .u32 (a.f : Int), .int .i64 a.i, .string a.s, .int .i64 a.t.type, .slice B1 a.t.dims.length l1, .slice B2 a.t.f.length l2, .slice B3 a.t.i.length l3, .slice B4 a.t.b.length l4, .slice B5 a.floats.length l5, .slice B6 a.ints.length l6] Tryd.underlying52 rfl (by kernel_rfl) (fun _ h => h.2)) hHeld ?_
              refine call_d 16 (some 78) rfl (by kernel_rfl) (by kernel_rfl) (by kernel_rfl) 46 _ _ rfl #[.int .i64 op, .agg ([.string x.name, .string (sortName x.letter), .bool x.must] : List Value).toArray, .agg ([.string a.name, .int .i64 a.kind, .int .u32 (a.f : Int), .int .i64 a.i, .string a.s, .int .i64 a.t.type, .slice B1 a.t.dims.length l1, .slice B2 a.t.f.length l2, .slice B3 a.t.i.length l3, .slice B4 a.t.b.length l4, .slice B5 a.floats.length l5, .slice B6 a.ints.length l6] : List Value).toArray] (by kernel_rfl) (fun w => by kernel_rfl) ?_
              refine (mayR_any x.letter HP.out.2.2.2.1.2 x.name x.must op _ a v2.drew (HMw.out.drew.keeps' HB.out.2.2.2)).mono ?_
              rw [HKD.out.2]
              rintro e v4 ⟨rfl, hb4⟩
              have HB4 := Lib.hid (show Below v2.heap.size v2 v4 from (Below.refl _ v2).drew.trans hb4)
              have hHeld4 : At v4 bs (os + pre.length * 3) [.string x.name, .string (sortName x.letter), .bool x.must] ∧ At v4 wd.heap.size 0 [.string a.name, .int .i64 a.kind, .int .u32 (a.f : Int), .int .i64 a.i, .string a.s, .int .i64 a.t.type, .slice B1 a.t.dims.length l1, .slice B2 a.t.f.length l2, .slice B3 a.t.i.length l3, .slice B4 a.t.b.length l4, .slice B5 a.floats.length l5, .slice B6 a.ints.length l6] := ⟨HZ.out.1.keep HB4.out (by have := HZ.out.2.2; omega), HZ.out.2.1.keep HB4.out HZ.out.2.2.2⟩
              clear hb4
              refine ⟨_, rfl, hHeld4, ?_⟩
              refine take_d 17 (some 79) (v := .bool (!my)) rfl (by kernel_rfl) (by kernel_rfl) (by kernel_rfl) (by kernel_rfl) (fun c a w h => h) (Or.inl ⟨by kernel_rfl, fun w _ => by kernel_rfl⟩) hHeld4 ?_
              refine take_d 18 (some 80) (v := .bool (!my)) rfl (by kernel_rfl) (by kernel_rfl) (by kernel_rfl) (by kernel_rfl) (fun c a w h => h) (Or.inl ⟨by kernel_rfl, fun w _ => by kernel_rfl⟩) hHeld4 ?_
              refine wpAnyH_done (by kernel_rfl) ?_ _
              have HLx := Lib.hid (HLw.out.next HB4.out)
              have HMx := Lib.hid (HMw.out.next HB4.out)
              have HAx := Lib.hid hHeld4.2
              clear hHeld4 hHeld hHeld0
              cases my with
              | true =>
                rename_i K0 a0
                change K0 _ _
                refine a0 _ _ (wp_cond_false (by kernel_rfl) ?_)
                clear a0
                go_wp2_with (first
                  | (with_reducible refine wpList_load_agg rfl 45 _ rfl _ _ _ rfl ss Tryd.underlying45 rfl (by rw [HLx.out.sets.len]; kernel_rfl) (At.of_row HLx.out.sets.at') ?_)
                  | (with_reducible refine wpList_load_agg rfl 52 _ rfl _ _ _ rfl [.string a.name, .int .i64 a.kind, .int .u32 (a.f : Int), .int .i64 a.i, .string a.s, .int .i64 a.t.type, .slice B1 a.t.dims.length l1, .slice B2 a.t.f.length l2, .slice B3 a.t.i.length l3, .slice B4 a.t.b.length l4, .slice B5 a.floats.length l5, .slice B6 a.ints.length l6] Tryd.underlying52 rfl (by kernel_rfl) HAx.out ?_))
                refine (setR_any op a (legit_of HP.out.2.2.2.2 HE3.out.2.2 HKD.out.1.symm HKD.out.2) s ss _ v4 (freshBut w3.heap.size v4.heap.size w4.heap.size) (fun b hb => hb.2.1) (HMx.out.keeps' HB.out.2.2.2) HLx.out.dat).mono ?_
                rintro e v5 ⟨s5, rfl, hs5, hb5⟩
                have HL5 := Lib.hid (HLx.out.again (by have := HLx.out.grown.size; have := HB35.out.size; omega) hb5 hs5)
                have HS5 := Lib.hid (And.intro hs5.len (And.intro (set_one hs5) (HLx.out.sets.below hb5)))
                have hfull : ss.take 0 ++ s5 ++ ss.drop (0 + s5.length) = s5 := by rw [List.take_zero, List.nil_append, Nat.zero_add, List.drop_of_length_le (by rw [hs5.len, HLx.out.sets.len]; exact Nat.le_refl _), List.append_nil]
                have HL6 := Lib.hid (show LoopInv w5 w3.heap.size w4.heap.size s5 (setD op a s) (v5.setRow w4.heap.size (ss.take 0 ++ s5 ++ ss.drop (0 + s5.length)).toArray) from by rw [hfull]; exact HL5.out)
                clear hs5 hb5 hfull
                go_wp2_with (first
                  | (with_reducible refine wpList_store_agg rfl 45 _ _ rfl w4.heap.size 0 s5 rfl rfl 45 ss HS5.out.2.2.at' (by rw [HS5.out.1]; kernel_rfl) (by rw [HS5.out.1, HS5.out.2.2.len]; omega) HS5.out.2.1 ?_; have hX := HL6.out; generalize World.setRow _ _ _ = v6 at hX ⊢; clear HL5 HL6; have HL5 := Lib.hid hX; clear hX; refine halt ?_))
                unfold Halt
                go_wp2
                go_roundw
                case rel => exact ⟨pre ++ [x], post, s5, setD op a s, k + 1, HP.out.1, by rw [HP.out.2.1]; go_num, by go_num, by rw [HP.out.2.1]; omega, HL5.out, HP.out.2.2.1.trans (step_set HE3.out.1 HE3.out.2.1 ⟨HKD.out.1.symm, HKD.out.2⟩)⟩
                case measure => simp [intOf]; omega
              | false =>
                rename_i K0 a0
                change K0 _ _
                refine a0 _ _ (wp_cond_true (by kernel_rfl) ?_)
                clear a0
                go_wp2_with (first
                  | (with_reducible refine wpList_build0 rfl 45 rfl zeroS (zeroS_build _) ?_)
                  | (with_reducible refine wpList_store_agg rfl 45 _ _ rfl (w.heap.size + 1) 0 zeroS rfl rfl 45 zeroS HMx.out.res.at' (by kernel_rfl) (by decide) zeroS_one ?_))
                obtain ⟨ho, hbo⟩ := HMx.out.out zeroS zeroS_len
                have hres : resolveD n = (0, settingD0, 14) := HK.out (HP.out.2.2.1.trans (step_bad HE3.out.1 HE3.out.2.1 (fun h => by have := HKD.out.2.symm.trans h.2; simp at this)))
                refine bodyPost_ret (results_tct rfl _ _ (w.heap.size + 1) 45 _ (0, 0) _ (.int .i64 0) (.int .i64 14) rfl rfl rfl ho Tryd.underlying45 rfl (by kernel_rfl)) rfl ?_
                rw [hres]
                exact ⟨_, rfl, zeroS_rep _ _, hbo⟩
            · have HEK := Lib.hid ek
              refine take_d 8 (some 70) (v := .bool true) rfl (by kernel_rfl) (by kernel_rfl) (by kernel_rfl) (by kernel_rfl) (fun c a w h => h) (yields_neq (by kernel_rfl) _ _ _ _ rfl a.kind kd (by kernel_rfl) (by kernel_rfl) Tryd.underlying3 ek) hHeld ?_
              refine take_d 9 (some 71) (v := .bool true) rfl (by kernel_rfl) (by kernel_rfl) (by kernel_rfl) (by kernel_rfl) (fun c a w h => h) (Or.inl ⟨by kernel_rfl, fun w _ => by kernel_rfl⟩) hHeld ?_
              refine take_d 10 (some 72) (v := undef) rfl (by kernel_rfl) (by kernel_rfl) (by kernel_rfl) (by kernel_rfl) (fun c a w h => h) (Or.inr ⟨by kernel_rfl, rfl⟩) hHeld ?_
              refine take_d 11 (some 73) (v := undef) rfl (by kernel_rfl) (by kernel_rfl) (by kernel_rfl) (by kernel_rfl) (fun c a w h => h) (Or.inr ⟨by kernel_rfl, rfl⟩) hHeld ?_
              refine take_d 12 (some 74) (v := undef) rfl (by kernel_rfl) (by kernel_rfl) (by kernel_rfl) (by kernel_rfl) (fun c a w h => h) (Or.inr ⟨by kernel_rfl, rfl⟩) hHeld ?_
              refine take_d 13 (some 75) (v := undef) rfl (by kernel_rfl) (by kernel_rfl) (by kernel_rfl) (by kernel_rfl) (fun c a w h => h) (Or.inr ⟨by kernel_rfl, rfl⟩) hHeld ?_
              refine take_d 14 (some 76) (v := undef) rfl (by kernel_rfl) (by kernel_rfl) (by kernel_rfl) (by kernel_rfl) (fun c a w h => h) (Or.inr ⟨by kernel_rfl, rfl⟩) hHeld ?_
              refine take_d 15 (some 77) (v := undef) rfl (by kernel_rfl) (by kernel_rfl) (by kernel_rfl) (by kernel_rfl) (fun c a w h => h) (Or.inr ⟨by kernel_rfl, rfl⟩) hHeld ?_
              refine take_d 16 (some 78) (v := undef) rfl (by kernel_rfl) (by kernel_rfl) (by kernel_rfl) (by kernel_rfl) (fun c a w h => h) (Or.inr ⟨by kernel_rfl, rfl⟩) hHeld ?_
              refine take_d 17 (some 79) (v := undef) rfl (by kernel_rfl) (by kernel_rfl) (by kernel_rfl) (by kernel_rfl) (fun c a w h => h) (Or.inr ⟨by kernel_rfl, rfl⟩) hHeld ?_
              refine take_d 18 (some 80) (v := .bool true) rfl (by kernel_rfl) (by kernel_rfl) (by kernel_rfl) (by kernel_rfl) (fun c a w h => h) (Or.inl ⟨by kernel_rfl, fun w _ => by kernel_rfl⟩) hHeld ?_
              refine wpAnyH_done (by kernel_rfl) ?_ _
              have HMx := Lib.hid HMw.out.drew
              clear ek hHeld hHeld0
              rename_i K0 a0
              change K0 _ _
              refine a0 _ _ (wp_cond_true (by kernel_rfl) ?_)
              clear a0
              go_wp2_with (first
                | (with_reducible refine wpList_build0 rfl 45 rfl zeroS (zeroS_build _) ?_)
                | (with_reducible refine wpList_store_agg rfl 45 _ _ rfl (w.heap.size + 1) 0 zeroS rfl rfl 45 zeroS HMx.out.res.at' (by kernel_rfl) (by decide) zeroS_one ?_))
              obtain ⟨ho, hbo⟩ := HMx.out.out zeroS zeroS_len
              have hres : resolveD n = (0, settingD0, 14) := HK.out (HP.out.2.2.1.trans (step_bad HE3.out.1 HE3.out.2.1 (fun h => HEK.out (h.1.trans HKD.out.1))))
              refine bodyPost_ret (results_tct rfl _ _ (w.heap.size + 1) 45 _ (0, 0) _ (.int .i64 0) (.int .i64 14) rfl rfl rfl ho Tryd.underlying45 rfl (by kernel_rfl)) rfl ?_
              rw [hres]
              exact ⟨_, rfl, zeroS_rep _ _, hbo⟩
      | nil =>
        obtain ⟨hge, hpl⟩ := split_end hpp
        subst hpl
        clear hpp hge
        have hst' : stepD op n.attrs (sortsD (findD op)) (leftD op) 0 = some (s, k) := hst
        have hauto := HLq.out.dat.f24.int
        have c4 : wr.cell? ⟨w.heap.size, 4, none⟩ = some (.slice A3 n.attrs.length k3) := cell_of_row _ _ _ _ _ _ HMq.out.node
        have c24 : wr.cell? ⟨w4.heap.size, 24, none⟩ = some (.int .i64 s.auto) := by rw [cell_of_row _ _ _ _ _ _ HLq.out.sets.at', List.getElem?_toArray]; exact hauto.1
        have hgood : ¬ (k ≠ n.attrs.length ∨ op = 61 ∧ k ≠ 1 ∨ s.auto ≠ 0 ∧ 0 < countD n.attrs sPads) → resolveD n = (op, s, 0) := resolve_good HR.out.1 H0.out HCB.out hst'
        have hbad : (k ≠ n.attrs.length ∨ op = 61 ∧ k ≠ 1 ∨ s.auto ≠ 0 ∧ 0 < countD n.attrs sPads) → resolveD n = (0, settingD0, 14) := resolve_bad HR.out.1 H0.out HCB.out hst'
        obtain ⟨fi, hfi⟩ : ∃ fi, findI n.attrs sPads = fi := ⟨_, rfl⟩
        have hpads : k = n.attrs.length → (0 ≤ fi ↔ 0 < countD n.attrs sPads) := fun e => by
          have h1 := count_once (step_once (hst'.trans (by rw [e]))) sPads
          rw [← hfi]
          constructor
          · intro h
            unfold findI at h
            rw [if_neg (by omega)] at h
            split at h
            · omega
            · omega
          · intro h
            exact find_pos (by omega)
        have hf := findR_any n.attrs (.slice A3 n.attrs.length k3) ⟨#[112, 97, 100, 115]⟩ wr (HMq.out.keeps' HL.out.2.2.1)
        rw [show findI n.attrs ⟨#[112, 97, 100, 115]⟩ = fi from hfi] at hf
        have HFF := Lib.hid hf
        have HG := Lib.hid hgood
        have HBD := Lib.hid hbad
        have HPD := Lib.hid hpads
        have hkl : k ≤ 1000 := by have := HSO.out.2; omega
        clear hst hst' hauto hgood hbad hpads hf hfi
        by_cases b1 : (k : Int) = (n.attrs.length : Int)
        · obtain rfl : k = n.attrs.length := by omega
          clear b1
          by_cases b2 : op = 61
          · by_cases b3 : (n.attrs.length : Int) = 1
            · have HB3 := Lib.hid b3
              have b2b : (op == 61) = true := by simpa using b2
              have b3b : ((n.attrs.length : Int) != 1) = false := by simpa using b3
              clear b2 b3
              by_cases b4 : s.auto = 0
              · rw [b4] at c24
                have HB4 := Lib.hid b4
                clear b4
                have hg : resolveD n = (op, s, 0) := by
                  refine HG.out fun h => ?_
                  rcases h with h | ⟨h, h'⟩ | ⟨h, h'⟩
                  · exact h rfl
                  · have := HB3.out; omega
                  · exact h HB4.out
                have HGG := Lib.hid hg
                clear hg
                go_wp2_with fail
                have hne6 : w4.heap.size ≠ w.heap.size + 1 := by have := H34.out.1; have := H34.out.2; omega
                refine wp_region_held_drew (S := fun w' => At w' w4.heap.size 0 ss) (by kernel_rfl) (At.of_row HLq.out.sets.at') (fun hHeld => ?_)
                refine wpAnyH_take (i := 0) (v := .int .i64 op) rfl (by kernel_rfl) (by kernel_rfl) (by kernel_rfl) (fun c a w h => panic_free c _ _ w rfl h) (Or.inl ⟨by kernel_rfl, fun w _ => by kernel_rfl⟩) hHeld ?_
                refine wpAnyH_take (i := 1) (v := .agg ss.toArray) rfl (by kernel_rfl) (by kernel_rfl) (by kernel_rfl) (fun c a w h => panic_free c _ _ w rfl h) (yields_load_agg (by kernel_rfl) 45 _ rfl _ w4.heap.size 0 (by kernel_rfl) ss Tryd.underlying45 rfl (by rw [HLq.out.sets.len]; kernel_rfl) (fun _ h => h)) hHeld ?_
                refine wpAnyH_take (i := 2) (v := .int .i64 op) rfl (by kernel_rfl) (by kernel_rfl) (by kernel_rfl) (fun c a w h => panic_free c _ _ w rfl h) (Or.inl ⟨by kernel_rfl, fun w _ => by kernel_rfl⟩) hHeld ?_
                refine anyH_store_agg 3 rfl (by kernel_rfl) (by kernel_rfl) 45 _ _ rfl (w.heap.size + 1) 0 ss (by kernel_rfl) (by kernel_rfl) 45 zeroS HMq.out.res.at' (by rw [HLq.out.sets.len]; kernel_rfl) (by rw [HLq.out.sets.len, zeroS_len]; omega) ((inferInstance : Rep SettingD).one HLq.out.dat) (At.setRow_other hHeld hne6 _) ?_
                refine wpAnyH_take (i := 4) (v := .int .i64 0) rfl (by kernel_rfl) (by kernel_rfl) (by kernel_rfl) (fun c a w h => panic_free c _ _ w rfl h) (Or.inl ⟨by kernel_rfl, fun w _ => by kernel_rfl⟩) (At.setRow_other hHeld hne6 _) ?_
                refine wpAnyH_done (by kernel_rfl) ?_ _
                go_wp2
                obtain ⟨hout, hbo⟩ := HMq.out.drew.out ss HLq.out.sets.len
                refine bodyPost_ret (results_tct rfl _ _ (w.heap.size + 1) 45 _ (0, 0) _ (.int .i64 op) (.int .i64 0) (by kernel_rfl) (by kernel_rfl) (by kernel_rfl) hout Tryd.underlying45 rfl (by rw [List.size_toArray, HLq.out.sets.len]; kernel_rfl)) rfl ?_
                rw [HGG.out]
                exact ⟨_, rfl, HLq.out.fin H34.out.1 _, hbo⟩
              · have b4b : (s.auto != 0) = true := by simpa using b4
                have HB4 := Lib.hid b4
                clear b4
                go_wp2_with fail
                refine HFF.out.mono ?_
                rintro e w6 ⟨rfl, rfl⟩
                by_cases b5 : 0 ≤ fi
                · have HB5 := Lib.hid b5
                  go_wp2_with (first
                    | (with_reducible refine wpList_build0 rfl 45 rfl zeroS (zeroS_build _) ?_)
                    | (with_reducible refine wpList_store_agg rfl 45 _ _ rfl (w.heap.size + 1) 0 zeroS rfl rfl 45 zeroS HMq.out.res.at' (by kernel_rfl) (by decide) zeroS_one ?_))
                  obtain ⟨ho, hbo⟩ := HMq.out.out zeroS zeroS_len
                  have hres : resolveD n = (0, settingD0, 14) := HBD.out (.inr (.inr ⟨HB4.out, (HPD.out (by trivial)).1 HB5.out⟩))
                  refine bodyPost_ret (results_tct rfl _ _ (w.heap.size + 1) 45 _ (0, 0) _ (.int .i64 0) (.int .i64 14) rfl rfl rfl ho Tryd.underlying45 rfl (by kernel_rfl)) rfl ?_
                  rw [hres]
                  exact ⟨_, rfl, zeroS_rep _ _, hbo⟩
                · have hlt5 : fi < 0 := by omega
                  have hg : resolveD n = (op, s, 0) := by
                    refine HG.out fun h => ?_
                    rcases h with h | ⟨h, h'⟩ | ⟨h, h'⟩
                    · exact h rfl
                    · have := HB3.out; omega
                    · exact b5 ((HPD.out (by trivial)).2 h')
                  have HGG := Lib.hid hg
                  clear hg b5
                  go_wp2_with fail
                  have hne6 : w4.heap.size ≠ w.heap.size + 1 := by have := H34.out.1; have := H34.out.2; omega
                  refine wp_region_held_drew (S := fun w' => At w' w4.heap.size 0 ss) (by kernel_rfl) (At.of_row HLq.out.sets.at') (fun hHeld => ?_)
                  refine wpAnyH_take (i := 0) (v := .int .i64 op) rfl (by kernel_rfl) (by kernel_rfl) (by kernel_rfl) (fun c a w h => panic_free c _ _ w rfl h) (Or.inl ⟨by kernel_rfl, fun w _ => by kernel_rfl⟩) hHeld ?_
                  refine wpAnyH_take (i := 1) (v := .agg ss.toArray) rfl (by kernel_rfl) (by kernel_rfl) (by kernel_rfl) (fun c a w h => panic_free c _ _ w rfl h) (yields_load_agg (by kernel_rfl) 45 _ rfl _ w4.heap.size 0 (by kernel_rfl) ss Tryd.underlying45 rfl (by rw [HLq.out.sets.len]; kernel_rfl) (fun _ h => h)) hHeld ?_
                  refine wpAnyH_take (i := 2) (v := .int .i64 op) rfl (by kernel_rfl) (by kernel_rfl) (by kernel_rfl) (fun c a w h => panic_free c _ _ w rfl h) (Or.inl ⟨by kernel_rfl, fun w _ => by kernel_rfl⟩) hHeld ?_
                  refine anyH_store_agg 3 rfl (by kernel_rfl) (by kernel_rfl) 45 _ _ rfl (w.heap.size + 1) 0 ss (by kernel_rfl) (by kernel_rfl) 45 zeroS HMq.out.res.at' (by rw [HLq.out.sets.len]; kernel_rfl) (by rw [HLq.out.sets.len, zeroS_len]; omega) ((inferInstance : Rep SettingD).one HLq.out.dat) (At.setRow_other hHeld hne6 _) ?_
                  refine wpAnyH_take (i := 4) (v := .int .i64 0) rfl (by kernel_rfl) (by kernel_rfl) (by kernel_rfl) (fun c a w h => panic_free c _ _ w rfl h) (Or.inl ⟨by kernel_rfl, fun w _ => by kernel_rfl⟩) (At.setRow_other hHeld hne6 _) ?_
                  refine wpAnyH_done (by kernel_rfl) ?_ _
                  go_wp2
                  obtain ⟨hout, hbo⟩ := HMq.out.drew.out ss HLq.out.sets.len
                  refine bodyPost_ret (results_tct rfl _ _ (w.heap.size + 1) 45 _ (0, 0) _ (.int .i64 op) (.int .i64 0) (by kernel_rfl) (by kernel_rfl) (by kernel_rfl) hout Tryd.underlying45 rfl (by rw [List.size_toArray, HLq.out.sets.len]; kernel_rfl)) rfl ?_
                  rw [HGG.out]
                  exact ⟨_, rfl, HLq.out.fin H34.out.1 _, hbo⟩
            · have b3b : ((n.attrs.length : Int) != 1) = true := by simpa using b3
              have b2b : (op == 61) = true := by simpa using b2
              have HB3 := Lib.hid (And.intro b2 b3)
              clear b2 b3
              go_wp2_with (first
                | (with_reducible refine wpList_build0 rfl 45 rfl zeroS (zeroS_build _) ?_)
                | (with_reducible refine wpList_store_agg rfl 45 _ _ rfl (w.heap.size + 1) 0 zeroS rfl rfl 45 zeroS HMq.out.res.at' (by kernel_rfl) (by decide) zeroS_one ?_))
              obtain ⟨ho, hbo⟩ := HMq.out.out zeroS zeroS_len
              have hres : resolveD n = (0, settingD0, 14) := HBD.out (.inr (.inl ⟨HB3.out.1, fun e => by have := HB3.out.2; omega⟩))
              refine bodyPost_ret (results_tct rfl _ _ (w.heap.size + 1) 45 _ (0, 0) _ (.int .i64 0) (.int .i64 14) rfl rfl rfl ho Tryd.underlying45 rfl (by kernel_rfl)) rfl ?_
              rw [hres]
              exact ⟨_, rfl, zeroS_rep _ _, hbo⟩
          · have HB3 := Lib.hid b2
            have b2b : (op == 61) = false := by simpa using b2
            clear b2
            by_cases b4 : s.auto = 0
            · rw [b4] at c24
              have HB4 := Lib.hid b4
              clear b4
              have hg : resolveD n = (op, s, 0) := by
                refine HG.out fun h => ?_
                rcases h with h | ⟨h, h'⟩ | ⟨h, h'⟩
                · exact h rfl
                · exact HB3.out h
                · exact h HB4.out
              have HGG := Lib.hid hg
              clear hg
              go_wp2_with fail
              have hne6 : w4.heap.size ≠ w.heap.size + 1 := by have := H34.out.1; have := H34.out.2; omega
              refine wp_region_held_drew (S := fun w' => At w' w4.heap.size 0 ss) (by kernel_rfl) (At.of_row HLq.out.sets.at') (fun hHeld => ?_)
              refine wpAnyH_take (i := 0) (v := .int .i64 op) rfl (by kernel_rfl) (by kernel_rfl) (by kernel_rfl) (fun c a w h => panic_free c _ _ w rfl h) (Or.inl ⟨by kernel_rfl, fun w _ => by kernel_rfl⟩) hHeld ?_
              refine wpAnyH_take (i := 1) (v := .agg ss.toArray) rfl (by kernel_rfl) (by kernel_rfl) (by kernel_rfl) (fun c a w h => panic_free c _ _ w rfl h) (yields_load_agg (by kernel_rfl) 45 _ rfl _ w4.heap.size 0 (by kernel_rfl) ss Tryd.underlying45 rfl (by rw [HLq.out.sets.len]; kernel_rfl) (fun _ h => h)) hHeld ?_
              refine wpAnyH_take (i := 2) (v := .int .i64 op) rfl (by kernel_rfl) (by kernel_rfl) (by kernel_rfl) (fun c a w h => panic_free c _ _ w rfl h) (Or.inl ⟨by kernel_rfl, fun w _ => by kernel_rfl⟩) hHeld ?_
              refine anyH_store_agg 3 rfl (by kernel_rfl) (by kernel_rfl) 45 _ _ rfl (w.heap.size + 1) 0 ss (by kernel_rfl) (by kernel_rfl) 45 zeroS HMq.out.res.at' (by rw [HLq.out.sets.len]; kernel_rfl) (by rw [HLq.out.sets.len, zeroS_len]; omega) ((inferInstance : Rep SettingD).one HLq.out.dat) (At.setRow_other hHeld hne6 _) ?_
              refine wpAnyH_take (i := 4) (v := .int .i64 0) rfl (by kernel_rfl) (by kernel_rfl) (by kernel_rfl) (fun c a w h => panic_free c _ _ w rfl h) (Or.inl ⟨by kernel_rfl, fun w _ => by kernel_rfl⟩) (At.setRow_other hHeld hne6 _) ?_
              refine wpAnyH_done (by kernel_rfl) ?_ _
              go_wp2
              obtain ⟨hout, hbo⟩ := HMq.out.drew.out ss HLq.out.sets.len
              refine bodyPost_ret (results_tct rfl _ _ (w.heap.size + 1) 45 _ (0, 0) _ (.int .i64 op) (.int .i64 0) (by kernel_rfl) (by kernel_rfl) (by kernel_rfl) hout Tryd.underlying45 rfl (by rw [List.size_toArray, HLq.out.sets.len]; kernel_rfl)) rfl ?_
              rw [HGG.out]
              exact ⟨_, rfl, HLq.out.fin H34.out.1 _, hbo⟩
            · have b4b : (s.auto != 0) = true := by simpa using b4
              have HB4 := Lib.hid b4
              clear b4
              go_wp2_with fail
              refine HFF.out.mono ?_
              rintro e w6 ⟨rfl, rfl⟩
              by_cases b5 : 0 ≤ fi
              · have HB5 := Lib.hid b5
                go_wp2_with (first
                  | (with_reducible refine wpList_build0 rfl 45 rfl zeroS (zeroS_build _) ?_)
                  | (with_reducible refine wpList_store_agg rfl 45 _ _ rfl (w.heap.size + 1) 0 zeroS rfl rfl 45 zeroS HMq.out.res.at' (by kernel_rfl) (by decide) zeroS_one ?_))
                obtain ⟨ho, hbo⟩ := HMq.out.out zeroS zeroS_len
                have hres : resolveD n = (0, settingD0, 14) := HBD.out (.inr (.inr ⟨HB4.out, (HPD.out (by trivial)).1 HB5.out⟩))
                refine bodyPost_ret (results_tct rfl _ _ (w.heap.size + 1) 45 _ (0, 0) _ (.int .i64 0) (.int .i64 14) rfl rfl rfl ho Tryd.underlying45 rfl (by kernel_rfl)) rfl ?_
                rw [hres]
                exact ⟨_, rfl, zeroS_rep _ _, hbo⟩
              · have hlt5 : fi < 0 := by omega
                have hg : resolveD n = (op, s, 0) := by
                  refine HG.out fun h => ?_
                  rcases h with h | ⟨h, h'⟩ | ⟨h, h'⟩
                  · exact h rfl
                  · exact HB3.out h
                  · exact b5 ((HPD.out (by trivial)).2 h')
                have HGG := Lib.hid hg
                clear hg b5
                go_wp2_with fail
                have hne6 : w4.heap.size ≠ w.heap.size + 1 := by have := H34.out.1; have := H34.out.2; omega
                refine wp_region_held_drew (S := fun w' => At w' w4.heap.size 0 ss) (by kernel_rfl) (At.of_row HLq.out.sets.at') (fun hHeld => ?_)
                refine wpAnyH_take (i := 0) (v := .int .i64 op) rfl (by kernel_rfl) (by kernel_rfl) (by kernel_rfl) (fun c a w h => panic_free c _ _ w rfl h) (Or.inl ⟨by kernel_rfl, fun w _ => by kernel_rfl⟩) hHeld ?_
                refine wpAnyH_take (i := 1) (v := .agg ss.toArray) rfl (by kernel_rfl) (by kernel_rfl) (by kernel_rfl) (fun c a w h => panic_free c _ _ w rfl h) (yields_load_agg (by kernel_rfl) 45 _ rfl _ w4.heap.size 0 (by kernel_rfl) ss Tryd.underlying45 rfl (by rw [HLq.out.sets.len]; kernel_rfl) (fun _ h => h)) hHeld ?_
                refine wpAnyH_take (i := 2) (v := .int .i64 op) rfl (by kernel_rfl) (by kernel_rfl) (by kernel_rfl) (fun c a w h => panic_free c _ _ w rfl h) (Or.inl ⟨by kernel_rfl, fun w _ => by kernel_rfl⟩) hHeld ?_
                refine anyH_store_agg 3 rfl (by kernel_rfl) (by kernel_rfl) 45 _ _ rfl (w.heap.size + 1) 0 ss (by kernel_rfl) (by kernel_rfl) 45 zeroS HMq.out.res.at' (by rw [HLq.out.sets.len]; kernel_rfl) (by rw [HLq.out.sets.len, zeroS_len]; omega) ((inferInstance : Rep SettingD).one HLq.out.dat) (At.setRow_other hHeld hne6 _) ?_
                refine wpAnyH_take (i := 4) (v := .int .i64 0) rfl (by kernel_rfl) (by kernel_rfl) (by kernel_rfl) (fun c a w h => panic_free c _ _ w rfl h) (Or.inl ⟨by kernel_rfl, fun w _ => by kernel_rfl⟩) (At.setRow_other hHeld hne6 _) ?_
                refine wpAnyH_done (by kernel_rfl) ?_ _
                go_wp2
                obtain ⟨hout, hbo⟩ := HMq.out.drew.out ss HLq.out.sets.len
                refine bodyPost_ret (results_tct rfl _ _ (w.heap.size + 1) 45 _ (0, 0) _ (.int .i64 op) (.int .i64 0) (by kernel_rfl) (by kernel_rfl) (by kernel_rfl) hout Tryd.underlying45 rfl (by rw [List.size_toArray, HLq.out.sets.len]; kernel_rfl)) rfl ?_
                rw [HGG.out]
                exact ⟨_, rfl, HLq.out.fin H34.out.1 _, hbo⟩
        · have b1b : ((k : Int) != (n.attrs.length : Int)) = true := by simpa using b1
          have HB1 := Lib.hid b1
          clear b1
          go_wp2_with (first
            | (with_reducible refine wpList_build0 rfl 45 rfl zeroS (zeroS_build _) ?_)
            | (with_reducible refine wpList_store_agg rfl 45 _ _ rfl (w.heap.size + 1) 0 zeroS rfl rfl 45 zeroS HMq.out.res.at' (by kernel_rfl) (by decide) zeroS_one ?_))
          obtain ⟨ho, hbo⟩ := HMq.out.out zeroS zeroS_len
          have hres : resolveD n = (0, settingD0, 14) := HBD.out (.inl (fun e => by have := HB1.out; omega))
          refine bodyPost_ret (results_tct rfl _ _ (w.heap.size + 1) 45 _ (0, 0) _ (.int .i64 0) (.int .i64 14) rfl rfl rfl ho Tryd.underlying45 rfl (by kernel_rfl)) rfl ?_
          rw [hres]
          exact ⟨_, rfl, zeroS_rep _ _, hbo⟩

end Go.Proofs.YtgbkhcmbmffljaaDoor
