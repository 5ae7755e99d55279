/-
  The reference of chapter 08: set; a call in a region that draws its order.
-/
import Derived.Test.YtgbkhcmbmffljaaDoorRefI
import Derived.Test.YtgbkhcmbmffljaaDoorDraw
set_option linter.unusedSimpArgs false
set_option linter.unusedVariables false
namespace Go.Proofs.YtgbkhcmbmffljaaDoor
open Go.RowKit
open Rep (rep)

theorem anyH_call {P : Program} {md : Region.Mode} {ops : Array Oper} {Q : Exit → Act → World → Prop} {S : World → Prop} {fuel : Nat} {listed : Array Bool} {a : Act} {w : World} {o : Oper} (i : Nat) (hio : ops[i]? = some o) (hr : Region.ready md ops listed = [i])
    (hw : Region.wanted o (yielded ops a.tmps) = true) (f : FuncId) (xs : Array Operand) (ts : Array TypeId) (ho : o.op = .call { callee := .value (.func f), args := xs, argTypes := ts }) (vs : Array Value) (hv : xs.map a.eval = vs) (hc : ∀ w, (callFunc f vs).run P w = .ok (.enter f vs) w)
    (h : Calls P f vs w fun e w' => ∃ u, e = .returned u ∧ S w' ∧ wpAnyH P md ops Q S fuel (listed.setIfInBounds i true) (a.put o.dst u) w') : wpAnyH P md ops Q S (fuel + 1) listed a w := by
  refine wpAnyH_ready hr (by simp) (AllReadyH.cons hio (fun K hK => ?_) AllReadyH.nil)
  rw [if_pos hw]
  unfold Oper.wp
  simp only [execOp, ho]
  have hf : a.eval (Operand.func f) = .func (.func f) #[] #[] := rfl
  simp [hv, hf, resolve, invoke, Deferred.ofValue, hc]
  refine h.mono fun e w' ⟨u, he, hS, hk⟩ => ?_
  subst he
  exact hK.out _ _ hS (fun _ => hk)

theorem steps_load_agg {P : Program} {md : Region.Mode} {ops : Array Oper} {Q : Exit → Act → World → Prop} {S : World → Prop} {fuel : Nat} {listed : Array Bool} {a : Act} {w : World} {o : Oper} {i : Nat}
    (hw : Region.wanted o (yielded ops a.tmps) = true) (ty : TypeId) (x : Operand) (ho : o.op = .load ty x)
    (d : TypeDesc) (b f : Nat) (hx : a.eval x = .pointer (some ⟨b, f, none⟩)) (cs : List Value) (hu : P.underlying ty = some d) (hd : (match d with | .struct _ | .array _ _ => true | _ => false) = true)
    (hi : (P.info? ty).map (·.size) = some cs.length) (hc : At w b f cs) (hS : S w)
    (h : wpAnyH P md ops Q S fuel (listed.setIfInBounds i true) (a.put o.dst (.agg cs.toArray)) w) : StepTo P md ops Q S fuel listed i o a w :=
  ⟨hw, .agg cs.toArray, w, by unfold execOp; simp only [ho, hx, Instr.loadAt, Instr.sureAddr, Sem.run_bind, Sem.run_pure, Result.andThen_ok, run_load_agg w ty d b f cs hu hd hi hc], hS, h⟩
def SetSaid (op : Int) (a : AttrD) : Prop := ∀ (s : SettingD) (ss acs : List Value) (w : World) (Z : Zone), (∀ b, Z.blk b → b < w.heap.size) → rep w (old w.heap.size) acs a → SettingDAt w Z ss s →
    Calls Tryd.prog 47 #[.int .i64 op, .agg ss.toArray, .agg acs.toArray] w (SetTo w Z (setD op a s))

theorem setD_axis (op : Int) (a : AttrD) (hn : a.name = ⟨#[97, 120, 105, 115]⟩) (s : SettingD) : setD op a s = { s with axis := a.i } := by
  have f_alpha : (a.name.toList == ([97, 108, 112, 104, 97] : List UInt8)) = false := by rw [beq_lit, hn]; decide
  have f_beta : (a.name.toList == ([98, 101, 116, 97] : List UInt8)) = false := by rw [beq_lit, hn]; decide
  have f_epsilon : (a.name.toList == ([101, 112, 115, 105, 108, 111, 110] : List UInt8)) = false := by rw [beq_lit, hn]; decide
  have f_mode : (a.name.toList == ([109, 111, 100, 101] : List UInt8)) = false := by rw [beq_lit, hn]; decide
  have f_reduction : (a.name.toList == ([114, 101, 100, 117, 99, 116, 105, 111, 110] : List UInt8)) = false := by rw [beq_lit, hn]; decide
  have f_auto_pad : (a.name.toList == ([97, 117, 116, 111, 95, 112, 97, 100] : List UInt8)) = false := by rw [beq_lit, hn]; decide
  have f_keepdims : (a.name.toList == ([107, 101, 101, 112, 100, 105, 109, 115] : List UInt8)) = false := by rw [beq_lit, hn]; decide
  have f_noop_with_empty_axes : (a.name.toList == ([110, 111, 111, 112, 95, 119, 105, 116, 104, 95, 101, 109, 112, 116, 121, 95, 97, 120, 101, 115] : List UInt8)) = false := by rw [beq_lit, hn]; decide
  have f_select_last_index : (a.name.toList == ([115, 101, 108, 101, 99, 116, 95, 108, 97, 115, 116, 95, 105, 110, 100, 101, 120] : List UInt8)) = false := by rw [beq_lit, hn]; decide
  have f_allowzero : (a.name.toList == ([97, 108, 108, 111, 119, 122, 101, 114, 111] : List UInt8)) = false := by rw [beq_lit, hn]; decide
  have f_detect_negative : (a.name.toList == ([100, 101, 116, 101, 99, 116, 95, 110, 101, 103, 97, 116, 105, 118, 101] : List UInt8)) = false := by rw [beq_lit, hn]; decide
  have f_detect_positive : (a.name.toList == ([100, 101, 116, 101, 99, 116, 95, 112, 111, 115, 105, 116, 105, 118, 101] : List UInt8)) = false := by rw [beq_lit, hn]; decide
  have f_fmod : (a.name.toList == ([102, 109, 111, 100] : List UInt8)) = false := by rw [beq_lit, hn]; decide
  have f_transA : (a.name.toList == ([116, 114, 97, 110, 115, 65] : List UInt8)) = false := by rw [beq_lit, hn]; decide
  have f_transB : (a.name.toList == ([116, 114, 97, 110, 115, 66] : List UInt8)) = false := by rw [beq_lit, hn]; decide
  have f_ceil_mode : (a.name.toList == ([99, 101, 105, 108, 95, 109, 111, 100, 101] : List UInt8)) = false := by rw [beq_lit, hn]; decide
  have f_count_include_pad : (a.name.toList == ([99, 111, 117, 110, 116, 95, 105, 110, 99, 108, 117, 100, 101, 95, 112, 97, 100] : List UInt8)) = false := by rw [beq_lit, hn]; decide
  have f_axes : (a.name.toList == ([97, 120, 101, 115] : List UInt8)) = false := by rw [beq_lit, hn]; decide
  have f_perm : (a.name.toList == ([112, 101, 114, 109] : List UInt8)) = false := by rw [beq_lit, hn]; decide
  have f_kernel_shape : (a.name.toList == ([107, 101, 114, 110, 101, 108, 95, 115, 104, 97, 112, 101] : List UInt8)) = false := by rw [beq_lit, hn]; decide
  have f_strides : (a.name.toList == ([115, 116, 114, 105, 100, 101, 115] : List UInt8)) = false := by rw [beq_lit, hn]; decide
  have f_pads : (a.name.toList == ([112, 97, 100, 115] : List UInt8)) = false := by rw [beq_lit, hn]; decide
  have f_dilations : (a.name.toList == ([100, 105, 108, 97, 116, 105, 111, 110, 115] : List UInt8)) = false := by rw [beq_lit, hn]; decide
  have f_axis : (a.name.toList == ([97, 120, 105, 115] : List UInt8)) = true := by rw [beq_lit]; exact decide_eq_true hn
  have f_to : (a.name.toList == ([116, 111] : List UInt8)) = false := by rw [beq_lit, hn]; decide
  have f_group : (a.name.toList == ([103, 114, 111, 117, 112] : List UInt8)) = false := by rw [beq_lit, hn]; decide
  have f_blocksize : (a.name.toList == ([98, 108, 111, 99, 107, 115, 105, 122, 101] : List UInt8)) = false := by rw [beq_lit, hn]; decide
  have f_start : (a.name.toList == ([115, 116, 97, 114, 116] : List UInt8)) = false := by rw [beq_lit, hn]; decide
  have f_end : (a.name.toList == ([101, 110, 100] : List UInt8)) = false := by rw [beq_lit, hn]; decide
  have hp : Lib.hasPrefix a.name.data.toList sValue = false := by rw [hn]; decide
  clear hn
  unfold setD numD listD flagD scalarD
  simp only [*, Bool.false_eq_true, ↓reduceIte]
set_option maxRecDepth 100000 in
set_option maxHeartbeats 8000000 in
theorem set_r_axis (op : Int) (a : AttrD) (hn : a.name = ⟨#[97, 120, 105, 115]⟩) : SetSaid op a := by
  intro s ss acs w Z hn0 hr hS
  have hD := setD_axis op a hn s
  obtain ⟨A1, k1, A2, k2, A3, k3, A4, k4, A5, k5, A6, k6, rfl, h0, h1, h2, h3, h4, ht, hf, hi⟩ := open_AttrD hr
  have HS := Lib.hid (And.intro hS.len (And.intro (set_one hS) (And.intro hS hn0)))
  have f_axis : (a.name.toList == ([97, 120, 105, 115] : List UInt8)) = true := by rw [beq_lit]; exact decide_eq_true hn
  have HN := Lib.hid (And.intro hn (And.intro hD h3))
  clear hr h0 h1 h2 h3 h4 ht hf hi hS hn0 hn hD
  go_enter Tryd.func47, Tryd.ntmps47
  go_wp2_with (first
    | (with_reducible refine wpList_box_row rfl 45 _ rfl ss rfl ?_)
    | (with_reducible refine wpList_box_row rfl 52 _ rfl [.string a.name, .int .i64 a.kind, .int .u32 (a.f : Int), .int .i64 a.i, .string a.s, .int .i64 a.t.type, .slice A1 a.t.dims.length k1, .slice A2 a.t.f.length k2, .slice A3 a.t.i.length k3, .slice A4 a.t.b.length k4, .slice A5 a.floats.length k5, .slice A6 a.ints.length k6] rfl ?_)
    | (with_reducible refine wpList_alloc_row rfl 45 rfl zeroS zeroS_zero ?_; have hX := setR_start w ss [.string a.name, .int .i64 a.kind, .int .u32 (a.f : Int), .int .i64 a.i, .string a.s, .int .i64 a.t.type, .slice A1 a.t.dims.length k1, .slice A2 a.t.f.length k2, .slice A3 a.t.i.length k3, .slice A4 a.t.b.length k4, .slice A5 a.floats.length k5, .slice A6 a.ints.length k6]; generalize World.alloc _ (.cells zeroS.toArray _) = W0 at hX ⊢; have HX := Lib.hid hX; clear hX; refine halt ?_))
  unfold Halt
  have c0 : W0.cell? ⟨w.heap.size + 1, 0, none⟩ = some (.string a.name) := cell_of_row _ _ _ _ _ _ HX.out.a
  have cv : W0.cell? ⟨w.heap.size + 1, 3, none⟩ = some (.int .i64 a.i) := cell_of_row _ _ _ _ _ _ HX.out.a
  go_wp2_with (first
    | (with_reducible refine wpList_store_field rfl 3 _ _ rfl w.heap.size 0 (.int .i64 a.i) rfl rfl (by kernel_rfl) (by kernel_rfl) 45 ss HX.out.s (by rw [HS.out.1]; decide) ?_; have hX := HX.out.row (ss.set 0 (.int .i64 a.i)); clear HX c0 cv; generalize World.setRow _ _ _ = W1 at hX ⊢; have HX := Lib.hid hX; clear hX)
    | (with_reducible refine wpList_load_agg rfl 45 _ rfl _ _ _ rfl (ss.set 0 (.int .i64 a.i)) Tryd.underlying45 rfl (by simp only [List.length_set, HS.out.1]; kernel_rfl) (At.of_row HX.out.s) ?_)
    | (with_reducible refine wpList_store_agg rfl 45 _ _ rfl (w.heap.size + 2) 0 (ss.set 0 (.int .i64 a.i)) rfl rfl 45 zeroS HX.out.z (by simp only [List.length_set, HS.out.1]; kernel_rfl) (by simp only [List.length_set, HS.out.1]; decide) (one_set HS.out.2.1 _ (by kernel_rfl)) ?_))
  obtain ⟨hb, hres⟩ := HX.out.out (ss := (ss.set 0 (.int .i64 a.i))) (by simp only [List.length_set, HS.out.1])
  refine bodyPost_ret (results_cell_row rfl _ _ (w.heap.size + 2) 45 _ (0, 0) _ rfl hres Tryd.underlying45 rfl (by simp only [List.size_toArray, List.length_set, HS.out.1]; kernel_rfl)) rfl ⟨_, rfl, ?_, hb⟩
  have h := setting_zone HS.out.2.2.1 HS.out.2.2.2 hb
  rw [HN.out.2.1]
  exact h.set0 (v := .int .i64 a.i) (x := a.i) ⟨rfl, HN.out.2.2⟩

theorem setD_alpha (op : Int) (a : AttrD) (hn : a.name = ⟨#[97, 108, 112, 104, 97]⟩) (s : SettingD) : setD op a s = { s with alpha := a.f } := by
  have f_alpha : (a.name.toList == ([97, 108, 112, 104, 97] : List UInt8)) = true := by rw [beq_lit]; exact decide_eq_true hn
  have f_beta : (a.name.toList == ([98, 101, 116, 97] : List UInt8)) = false := by rw [beq_lit, hn]; decide
  have f_epsilon : (a.name.toList == ([101, 112, 115, 105, 108, 111, 110] : List UInt8)) = false := by rw [beq_lit, hn]; decide
  have f_mode : (a.name.toList == ([109, 111, 100, 101] : List UInt8)) = false := by rw [beq_lit, hn]; decide
  have f_reduction : (a.name.toList == ([114, 101, 100, 117, 99, 116, 105, 111, 110] : List UInt8)) = false := by rw [beq_lit, hn]; decide
  have f_auto_pad : (a.name.toList == ([97, 117, 116, 111, 95, 112, 97, 100] : List UInt8)) = false := by rw [beq_lit, hn]; decide
  have f_keepdims : (a.name.toList == ([107, 101, 101, 112, 100, 105, 109, 115] : List UInt8)) = false := by rw [beq_lit, hn]; decide
  have f_noop_with_empty_axes : (a.name.toList == ([110, 111, 111, 112, 95, 119, 105, 116, 104, 95, 101, 109, 112, 116, 121, 95, 97, 120, 101, 115] : List UInt8)) = false := by rw [beq_lit, hn]; decide
  have f_select_last_index : (a.name.toList == ([115, 101, 108, 101, 99, 116, 95, 108, 97, 115, 116, 95, 105, 110, 100, 101, 120] : List UInt8)) = false := by rw [beq_lit, hn]; decide
  have f_allowzero : (a.name.toList == ([97, 108, 108, 111, 119, 122, 101, 114, 111] : List UInt8)) = false := by rw [beq_lit, hn]; decide
  have f_detect_negative : (a.name.toList == ([100, 101, 116, 101, 99, 116, 95, 110, 101, 103, 97, 116, 105, 118, 101] : List UInt8)) = false := by rw [beq_lit, hn]; decide
  have f_detect_positive : (a.name.toList == ([100, 101, 116, 101, 99, 116, 95, 112, 111, 115, 105, 116, 105, 118, 101] : List UInt8)) = false := by rw [beq_lit, hn]; decide
  have f_fmod : (a.name.toList == ([102, 109, 111, 100] : List UInt8)) = false := by rw [beq_lit, hn]; decide
  have f_transA : (a.name.toList == ([116, 114, 97, 110, 115, 65] : List UInt8)) = false := by rw [beq_lit, hn]; decide
  have f_transB : (a.name.toList == ([116, 114, 97, 110, 115, 66] : List UInt8)) = false := by rw [beq_lit, hn]; decide
  have f_ceil_mode : (a.name.toList == ([99, 101, 105, 108, 95, 109, 111, 100, 101] : List UInt8)) = false := by rw [beq_lit, hn]; decide
  have f_count_include_pad : (a.name.toList == ([99, 111, 117, 110, 116, 95, 105, 110, 99, 108, 117, 100, 101, 95, 112, 97, 100] : List UInt8)) = false := by rw [beq_lit, hn]; decide
  have f_axes : (a.name.toList == ([97, 120, 101, 115] : List UInt8)) = false := by rw [beq_lit, hn]; decide
  have f_perm : (a.name.toList == ([112, 101, 114, 109] : List UInt8)) = false := by rw [beq_lit, hn]; decide
  have f_kernel_shape : (a.name.toList == ([107, 101, 114, 110, 101, 108, 95, 115, 104, 97, 112, 101] : List UInt8)) = false := by rw [beq_lit, hn]; decide
  have f_strides : (a.name.toList == ([115, 116, 114, 105, 100, 101, 115] : List UInt8)) = false := by rw [beq_lit, hn]; decide
  have f_pads : (a.name.toList == ([112, 97, 100, 115] : List UInt8)) = false := by rw [beq_lit, hn]; decide
  have f_dilations : (a.name.toList == ([100, 105, 108, 97, 116, 105, 111, 110, 115] : List UInt8)) = false := by rw [beq_lit, hn]; decide
  have f_axis : (a.name.toList == ([97, 120, 105, 115] : List UInt8)) = false := by rw [beq_lit, hn]; decide
  have f_to : (a.name.toList == ([116, 111] : List UInt8)) = false := by rw [beq_lit, hn]; decide
  have f_group : (a.name.toList == ([103, 114, 111, 117, 112] : List UInt8)) = false := by rw [beq_lit, hn]; decide
  have f_blocksize : (a.name.toList == ([98, 108, 111, 99, 107, 115, 105, 122, 101] : List UInt8)) = false := by rw [beq_lit, hn]; decide
  have f_start : (a.name.toList == ([115, 116, 97, 114, 116] : List UInt8)) = false := by rw [beq_lit, hn]; decide
  have f_end : (a.name.toList == ([101, 110, 100] : List UInt8)) = false := by rw [beq_lit, hn]; decide
  have hp : Lib.hasPrefix a.name.data.toList sValue = false := by rw [hn]; decide
  clear hn
  unfold setD numD listD flagD scalarD
  simp only [*, Bool.false_eq_true, ↓reduceIte]
set_option maxRecDepth 100000 in
set_option maxHeartbeats 8000000 in
theorem set_r_alpha (op : Int) (a : AttrD) (hn : a.name = ⟨#[97, 108, 112, 104, 97]⟩) : SetSaid op a := by
  intro s ss acs w Z hn0 hr hS
  have hD := setD_alpha op a hn s
  obtain ⟨A1, k1, A2, k2, A3, k3, A4, k4, A5, k5, A6, k6, rfl, h0, h1, h2, h3, h4, ht, hf, hi⟩ := open_AttrD hr
  have HS := Lib.hid (And.intro hS.len (And.intro (set_one hS) (And.intro hS hn0)))
  have f_axis : (a.name.toList == ([97, 120, 105, 115] : List UInt8)) = false := by rw [beq_lit, hn]; decide
  have f_alpha : (a.name.toList == ([97, 108, 112, 104, 97] : List UInt8)) = true := by rw [beq_lit]; exact decide_eq_true hn
  have HN := Lib.hid (And.intro hn (And.intro hD h2))
  clear hr h0 h1 h2 h3 h4 ht hf hi hS hn0 hn hD
  go_enter Tryd.func47, Tryd.ntmps47
  go_wp2_with (first
    | (with_reducible refine wpList_box_row rfl 45 _ rfl ss rfl ?_)
    | (with_reducible refine wpList_box_row rfl 52 _ rfl [.string a.name, .int .i64 a.kind, .int .u32 (a.f : Int), .int .i64 a.i, .string a.s, .int .i64 a.t.type, .slice A1 a.t.dims.length k1, .slice A2 a.t.f.length k2, .slice A3 a.t.i.length k3, .slice A4 a.t.b.length k4, .slice A5 a.floats.length k5, .slice A6 a.ints.length k6] rfl ?_)
    | (with_reducible refine wpList_alloc_row rfl 45 rfl zeroS zeroS_zero ?_; have hX := setR_start w ss [.string a.name, .int .i64 a.kind, .int .u32 (a.f : Int), .int .i64 a.i, .string a.s, .int .i64 a.t.type, .slice A1 a.t.dims.length k1, .slice A2 a.t.f.length k2, .slice A3 a.t.i.length k3, .slice A4 a.t.b.length k4, .slice A5 a.floats.length k5, .slice A6 a.ints.length k6]; generalize World.alloc _ (.cells zeroS.toArray _) = W0 at hX ⊢; have HX := Lib.hid hX; clear hX; refine halt ?_))
  unfold Halt
  have c0 : W0.cell? ⟨w.heap.size + 1, 0, none⟩ = some (.string a.name) := cell_of_row _ _ _ _ _ _ HX.out.a
  have cv : W0.cell? ⟨w.heap.size + 1, 2, none⟩ = some (.int .u32 (a.f : Int)) := cell_of_row _ _ _ _ _ _ HX.out.a
  go_wp2_with (first
    | (with_reducible refine wpList_store_field rfl 38 _ _ rfl w.heap.size 9 (.int .u32 (a.f : Int)) rfl rfl (by kernel_rfl) (by kernel_rfl) 45 ss HX.out.s (by rw [HS.out.1]; decide) ?_; have hX := HX.out.row (ss.set 9 (.int .u32 (a.f : Int))); clear HX c0 cv; generalize World.setRow _ _ _ = W1 at hX ⊢; have HX := Lib.hid hX; clear hX)
    | (with_reducible refine wpList_load_agg rfl 45 _ rfl _ _ _ rfl (ss.set 9 (.int .u32 (a.f : Int))) Tryd.underlying45 rfl (by simp only [List.length_set, HS.out.1]; kernel_rfl) (At.of_row HX.out.s) ?_)
    | (with_reducible refine wpList_store_agg rfl 45 _ _ rfl (w.heap.size + 2) 0 (ss.set 9 (.int .u32 (a.f : Int))) rfl rfl 45 zeroS HX.out.z (by simp only [List.length_set, HS.out.1]; kernel_rfl) (by simp only [List.length_set, HS.out.1]; decide) (one_set HS.out.2.1 _ (by kernel_rfl)) ?_))
  obtain ⟨hb, hres⟩ := HX.out.out (ss := (ss.set 9 (.int .u32 (a.f : Int)))) (by simp only [List.length_set, HS.out.1])
  refine bodyPost_ret (results_cell_row rfl _ _ (w.heap.size + 2) 45 _ (0, 0) _ rfl hres Tryd.underlying45 rfl (by simp only [List.size_toArray, List.length_set, HS.out.1]; kernel_rfl)) rfl ⟨_, rfl, ?_, hb⟩
  have h := setting_zone HS.out.2.2.1 HS.out.2.2.2 hb
  rw [HN.out.2.1]
  exact h.set9 (v := .int .u32 (a.f : Int)) (x := a.f) ⟨rfl, HN.out.2.2⟩

theorem setD_beta (op : Int) (a : AttrD) (hn : a.name = ⟨#[98, 101, 116, 97]⟩) (s : SettingD) : setD op a s = { s with beta := a.f } := by
  have f_alpha : (a.name.toList == ([97, 108, 112, 104, 97] : List UInt8)) = false := by rw [beq_lit, hn]; decide
  have f_beta : (a.name.toList == ([98, 101, 116, 97] : List UInt8)) = true := by rw [beq_lit]; exact decide_eq_true hn
  have f_epsilon : (a.name.toList == ([101, 112, 115, 105, 108, 111, 110] : List UInt8)) = false := by rw [beq_lit, hn]; decide
  have f_mode : (a.name.toList == ([109, 111, 100, 101] : List UInt8)) = false := by rw [beq_lit, hn]; decide
  have f_reduction : (a.name.toList == ([114, 101, 100, 117, 99, 116, 105, 111, 110] : List UInt8)) = false := by rw [beq_lit, hn]; decide
  have f_auto_pad : (a.name.toList == ([97, 117, 116, 111, 95, 112, 97, 100] : List UInt8)) = false := by rw [beq_lit, hn]; decide
  have f_keepdims : (a.name.toList == ([107, 101, 101, 112, 100, 105, 109, 115] : List UInt8)) = false := by rw [beq_lit, hn]; decide
  have f_noop_with_empty_axes : (a.name.toList == ([110, 111, 111, 112, 95, 119, 105, 116, 104, 95, 101, 109, 112, 116, 121, 95, 97, 120, 101, 115] : List UInt8)) = false := by rw [beq_lit, hn]; decide
  have f_select_last_index : (a.name.toList == ([115, 101, 108, 101, 99, 116, 95, 108, 97, 115, 116, 95, 105, 110, 100, 101, 120] : List UInt8)) = false := by rw [beq_lit, hn]; decide
  have f_allowzero : (a.name.toList == ([97, 108, 108, 111, 119, 122, 101, 114, 111] : List UInt8)) = false := by rw [beq_lit, hn]; decide
  have f_detect_negative : (a.name.toList == ([100, 101, 116, 101, 99, 116, 95, 110, 101, 103, 97, 116, 105, 118, 101] : List UInt8)) = false := by rw [beq_lit, hn]; decide
  have f_detect_positive : (a.name.toList == ([100, 101, 116, 101, 99, 116, 95, 112, 111, 115, 105, 116, 105, 118, 101] : List UInt8)) = false := by rw [beq_lit, hn]; decide
  have f_fmod : (a.name.toList == ([102, 109, 111, 100] : List UInt8)) = false := by rw [beq_lit, hn]; decide
  have f_transA : (a.name.toList == ([116, 114, 97, 110, 115, 65] : List UInt8)) = false := by rw [beq_lit, hn]; decide
  have f_transB : (a.name.toList == ([116, 114, 97, 110, 115, 66] : List UInt8)) = false := by rw [beq_lit, hn]; decide
  have f_ceil_mode : (a.name.toList == ([99, 101, 105, 108, 95, 109, 111, 100, 101] : List UInt8)) = false := by rw [beq_lit, hn]; decide
  have f_count_include_pad : (a.name.toList == ([99, 111, 117, 110, 116, 95, 105, 110, 99, 108, 117, 100, 101, 95, 112, 97, 100] : List UInt8)) = false := by rw [beq_lit, hn]; decide
  have f_axes : (a.name.toList == ([97, 120, 101, 115] : List UInt8)) = false := by rw [beq_lit, hn]; decide
  have f_perm : (a.name.toList == ([112, 101, 114, 109] : List UInt8)) = false := by rw [beq_lit, hn]; decide
  have f_kernel_shape : (a.name.toList == ([107, 101, 114, 110, 101, 108, 95, 115, 104, 97, 112, 101] : List UInt8)) = false := by rw [beq_lit, hn]; decide
  have f_strides : (a.name.toList == ([115, 116, 114, 105, 100, 101, 115] : List UInt8)) = false := by rw [beq_lit, hn]; decide
  have f_pads : (a.name.toList == ([112, 97, 100, 115] : List UInt8)) = false := by rw [beq_lit, hn]; decide
  have f_dilations : (a.name.toList == ([100, 105, 108, 97, 116, 105, 111, 110, 115] : List UInt8)) = false := by rw [beq_lit, hn]; decide
  have f_axis : (a.name.toList == ([97, 120, 105, 115] : List UInt8)) = false := by rw [beq_lit, hn]; decide
  have f_to : (a.name.toList == ([116, 111] : List UInt8)) = false := by rw [beq_lit, hn]; decide
  have f_group : (a.name.toList == ([103, 114, 111, 117, 112] : List UInt8)) = false := by rw [beq_lit, hn]; decide
  have f_blocksize : (a.name.toList == ([98, 108, 111, 99, 107, 115, 105, 122, 101] : List UInt8)) = false := by rw [beq_lit, hn]; decide
  have f_start : (a.name.toList == ([115, 116, 97, 114, 116] : List UInt8)) = false := by rw [beq_lit, hn]; decide
  have f_end : (a.name.toList == ([101, 110, 100] : List UInt8)) = false := by rw [beq_lit, hn]; decide
  have hp : Lib.hasPrefix a.name.data.toList sValue = false := by rw [hn]; decide
  clear hn
  unfold setD numD listD flagD scalarD
  simp only [*, Bool.false_eq_true, ↓reduceIte]
set_option maxRecDepth 100000 in
set_option maxHeartbeats 8000000 in
theorem set_r_beta (op : Int) (a : AttrD) (hn : a.name = ⟨#[98, 101, 116, 97]⟩) : SetSaid op a := by
  intro s ss acs w Z hn0 hr hS
  have hD := setD_beta op a hn s
  obtain ⟨A1, k1, A2, k2, A3, k3, A4, k4, A5, k5, A6, k6, rfl, h0, h1, h2, h3, h4, ht, hf, hi⟩ := open_AttrD hr
  have HS := Lib.hid (And.intro hS.len (And.intro (set_one hS) (And.intro hS hn0)))
  have f_axis : (a.name.toList == ([97, 120, 105, 115] : List UInt8)) = false := by rw [beq_lit, hn]; decide
  have f_alpha : (a.name.toList == ([97, 108, 112, 104, 97] : List UInt8)) = false := by rw [beq_lit, hn]; decide
  have f_beta : (a.name.toList == ([98, 101, 116, 97] : List UInt8)) = true := by rw [beq_lit]; exact decide_eq_true hn
  have HN := Lib.hid (And.intro hn (And.intro hD h2))
  clear hr h0 h1 h2 h3 h4 ht hf hi hS hn0 hn hD
  go_enter Tryd.func47, Tryd.ntmps47
  go_wp2_with (first
    | (with_reducible refine wpList_box_row rfl 45 _ rfl ss rfl ?_)
    | (with_reducible refine wpList_box_row rfl 52 _ rfl [.string a.name, .int .i64 a.kind, .int .u32 (a.f : Int), .int .i64 a.i, .string a.s, .int .i64 a.t.type, .slice A1 a.t.dims.length k1, .slice A2 a.t.f.length k2, .slice A3 a.t.i.length k3, .slice A4 a.t.b.length k4, .slice A5 a.floats.length k5, .slice A6 a.ints.length k6] rfl ?_)
    | (with_reducible refine wpList_alloc_row rfl 45 rfl zeroS zeroS_zero ?_; have hX := setR_start w ss [.string a.name, .int .i64 a.kind, .int .u32 (a.f : Int), .int .i64 a.i, .string a.s, .int .i64 a.t.type, .slice A1 a.t.dims.length k1, .slice A2 a.t.f.length k2, .slice A3 a.t.i.length k3, .slice A4 a.t.b.length k4, .slice A5 a.floats.length k5, .slice A6 a.ints.length k6]; generalize World.alloc _ (.cells zeroS.toArray _) = W0 at hX ⊢; have HX := Lib.hid hX; clear hX; refine halt ?_))
  unfold Halt
  have c0 : W0.cell? ⟨w.heap.size + 1, 0, none⟩ = some (.string a.name) := cell_of_row _ _ _ _ _ _ HX.out.a
  have cv : W0.cell? ⟨w.heap.size + 1, 2, none⟩ = some (.int .u32 (a.f : Int)) := cell_of_row _ _ _ _ _ _ HX.out.a
  go_wp2_with (first
    | (with_reducible refine wpList_store_field rfl 38 _ _ rfl w.heap.size 10 (.int .u32 (a.f : Int)) rfl rfl (by kernel_rfl) (by kernel_rfl) 45 ss HX.out.s (by rw [HS.out.1]; decide) ?_; have hX := HX.out.row (ss.set 10 (.int .u32 (a.f : Int))); clear HX c0 cv; generalize World.setRow _ _ _ = W1 at hX ⊢; have HX := Lib.hid hX; clear hX)
    | (with_reducible refine wpList_load_agg rfl 45 _ rfl _ _ _ rfl (ss.set 10 (.int .u32 (a.f : Int))) Tryd.underlying45 rfl (by simp only [List.length_set, HS.out.1]; kernel_rfl) (At.of_row HX.out.s) ?_)
    | (with_reducible refine wpList_store_agg rfl 45 _ _ rfl (w.heap.size + 2) 0 (ss.set 10 (.int .u32 (a.f : Int))) rfl rfl 45 zeroS HX.out.z (by simp only [List.length_set, HS.out.1]; kernel_rfl) (by simp only [List.length_set, HS.out.1]; decide) (one_set HS.out.2.1 _ (by kernel_rfl)) ?_))
  obtain ⟨hb, hres⟩ := HX.out.out (ss := (ss.set 10 (.int .u32 (a.f : Int)))) (by simp only [List.length_set, HS.out.1])
  refine bodyPost_ret (results_cell_row rfl _ _ (w.heap.size + 2) 45 _ (0, 0) _ rfl hres Tryd.underlying45 rfl (by simp only [List.size_toArray, List.length_set, HS.out.1]; kernel_rfl)) rfl ⟨_, rfl, ?_, hb⟩
  have h := setting_zone HS.out.2.2.1 HS.out.2.2.2 hb
  rw [HN.out.2.1]
  exact h.set10 (v := .int .u32 (a.f : Int)) (x := a.f) ⟨rfl, HN.out.2.2⟩

theorem setD_epsilon (op : Int) (a : AttrD) (hn : a.name = ⟨#[101, 112, 115, 105, 108, 111, 110]⟩) (s : SettingD) : setD op a s = { s with epsilon := a.f } := by
  have f_alpha : (a.name.toList == ([97, 108, 112, 104, 97] : List UInt8)) = false := by rw [beq_lit, hn]; decide
  have f_beta : (a.name.toList == ([98, 101, 116, 97] : List UInt8)) = false := by rw [beq_lit, hn]; decide
  have f_epsilon : (a.name.toList == ([101, 112, 115, 105, 108, 111, 110] : List UInt8)) = true := by rw [beq_lit]; exact decide_eq_true hn
  have f_mode : (a.name.toList == ([109, 111, 100, 101] : List UInt8)) = false := by rw [beq_lit, hn]; decide
  have f_reduction : (a.name.toList == ([114, 101, 100, 117, 99, 116, 105, 111, 110] : List UInt8)) = false := by rw [beq_lit, hn]; decide
  have f_auto_pad : (a.name.toList == ([97, 117, 116, 111, 95, 112, 97, 100] : List UInt8)) = false := by rw [beq_lit, hn]; decide
  have f_keepdims : (a.name.toList == ([107, 101, 101, 112, 100, 105, 109, 115] : List UInt8)) = false := by rw [beq_lit, hn]; decide
  have f_noop_with_empty_axes : (a.name.toList == ([110, 111, 111, 112, 95, 119, 105, 116, 104, 95, 101, 109, 112, 116, 121, 95, 97, 120, 101, 115] : List UInt8)) = false := by rw [beq_lit, hn]; decide
  have f_select_last_index : (a.name.toList == ([115, 101, 108, 101, 99, 116, 95, 108, 97, 115, 116, 95, 105, 110, 100, 101, 120] : List UInt8)) = false := by rw [beq_lit, hn]; decide
  have f_allowzero : (a.name.toList == ([97, 108, 108, 111, 119, 122, 101, 114, 111] : List UInt8)) = false := by rw [beq_lit, hn]; decide
  have f_detect_negative : (a.name.toList == ([100, 101, 116, 101, 99, 116, 95, 110, 101, 103, 97, 116, 105, 118, 101] : List UInt8)) = false := by rw [beq_lit, hn]; decide
  have f_detect_positive : (a.name.toList == ([100, 101, 116, 101, 99, 116, 95, 112, 111, 115, 105, 116, 105, 118, 101] : List UInt8)) = false := by rw [beq_lit, hn]; decide
  have f_fmod : (a.name.toList == ([102, 109, 111, 100] : List UInt8)) = false := by rw [beq_lit, hn]; decide
  have f_transA : (a.name.toList == ([116, 114, 97, 110, 115, 65] : List UInt8)) = false := by rw [beq_lit, hn]; decide
  have f_transB : (a.name.toList == ([116, 114, 97, 110, 115, 66] : List UInt8)) = false := by rw [beq_lit, hn]; decide
  have f_ceil_mode : (a.name.toList == ([99, 101, 105, 108, 95, 109, 111, 100, 101] : List UInt8)) = false := by rw [beq_lit, hn]; decide
  have f_count_include_pad : (a.name.toList == ([99, 111, 117, 110, 116, 95, 105, 110, 99, 108, 117, 100, 101, 95, 112, 97, 100] : List UInt8)) = false := by rw [beq_lit, hn]; decide
  have f_axes : (a.name.toList == ([97, 120, 101, 115] : List UInt8)) = false := by rw [beq_lit, hn]; decide
  have f_perm : (a.name.toList == ([112, 101, 114, 109] : List UInt8)) = false := by rw [beq_lit, hn]; decide
  have f_kernel_shape : (a.name.toList == ([107, 101, 114, 110, 101, 108, 95, 115, 104, 97, 112, 101] : List UInt8)) = false := by rw [beq_lit, hn]; decide
  have f_strides : (a.name.toList == ([115, 116, 114, 105, 100, 101, 115] : List UInt8)) = false := by rw [beq_lit, hn]; decide
  have f_pads : (a.name.toList == ([112, 97, 100, 115] : List UInt8)) = false := by rw [beq_lit, hn]; decide
  have f_dilations : (a.name.toList == ([100, 105, 108, 97, 116, 105, 111, 110, 115] : List UInt8)) = false := by rw [beq_lit, hn]; decide
  have f_axis : (a.name.toList == ([97, 120, 105, 115] : List UInt8)) = false := by rw [beq_lit, hn]; decide
  have f_to : (a.name.toList == ([116, 111] : List UInt8)) = false := by rw [beq_lit, hn]; decide
  have f_group : (a.name.toList == ([103, 114, 111, 117, 112] : List UInt8)) = false := by rw [beq_lit, hn]; decide
  have f_blocksize : (a.name.toList == ([98, 108, 111, 99, 107, 115, 105, 122, 101] : List UInt8)) = false := by rw [beq_lit, hn]; decide
  have f_start : (a.name.toList == ([115, 116, 97, 114, 116] : List UInt8)) = false := by rw [beq_lit, hn]; decide
  have f_end : (a.name.toList == ([101, 110, 100] : List UInt8)) = false := by rw [beq_lit, hn]; decide
  have hp : Lib.hasPrefix a.name.data.toList sValue = false := by rw [hn]; decide
  clear hn
  unfold setD numD listD flagD scalarD
  simp only [*, Bool.false_eq_true, ↓reduceIte]
set_option maxRecDepth 100000 in
set_option maxHeartbeats 8000000 in
theorem set_r_epsilon (op : Int) (a : AttrD) (hn : a.name = ⟨#[101, 112, 115, 105, 108, 111, 110]⟩) : SetSaid op a := by
  intro s ss acs w Z hn0 hr hS
  have hD := setD_epsilon op a hn s
  obtain ⟨A1, k1, A2, k2, A3, k3, A4, k4, A5, k5, A6, k6, rfl, h0, h1, h2, h3, h4, ht, hf, hi⟩ := open_AttrD hr
  have HS := Lib.hid (And.intro hS.len (And.intro (set_one hS) (And.intro hS hn0)))
  have f_axis : (a.name.toList == ([97, 120, 105, 115] : List UInt8)) = false := by rw [beq_lit, hn]; decide
  have f_alpha : (a.name.toList == ([97, 108, 112, 104, 97] : List UInt8)) = false := by rw [beq_lit, hn]; decide
  have f_beta : (a.name.toList == ([98, 101, 116, 97] : List UInt8)) = false := by rw [beq_lit, hn]; decide
  have f_epsilon : (a.name.toList == ([101, 112, 115, 105, 108, 111, 110] : List UInt8)) = true := by rw [beq_lit]; exact decide_eq_true hn
  have HN := Lib.hid (And.intro hn (And.intro hD h2))
  clear hr h0 h1 h2 h3 h4 ht hf hi hS hn0 hn hD
  go_enter Tryd.func47, Tryd.ntmps47
  go_wp2_with (first
    | (with_reducible refine wpList_box_row rfl 45 _ rfl ss rfl ?_)
    | (with_reducible refine wpList_box_row rfl 52 _ rfl [.string a.name, .int .i64 a.kind, .int .u32 (a.f : Int), .int .i64 a.i, .string a.s, .int .i64 a.t.type, .slice A1 a.t.dims.length k1, .slice A2 a.t.f.length k2, .slice A3 a.t.i.length k3, .slice A4 a.t.b.length k4, .slice A5 a.floats.length k5, .slice A6 a.ints.length k6] rfl ?_)
    | (with_reducible refine wpList_alloc_row rfl 45 rfl zeroS zeroS_zero ?_; have hX := setR_start w ss [.string a.name, .int .i64 a.kind, .int .u32 (a.f : Int), .int .i64 a.i, .string a.s, .int .i64 a.t.type, .slice A1 a.t.dims.length k1, .slice A2 a.t.f.length k2, .slice A3 a.t.i.length k3, .slice A4 a.t.b.length k4, .slice A5 a.floats.length k5, .slice A6 a.ints.length k6]; generalize World.alloc _ (.cells zeroS.toArray _) = W0 at hX ⊢; have HX := Lib.hid hX; clear hX; refine halt ?_))
  unfold Halt
  have c0 : W0.cell? ⟨w.heap.size + 1, 0, none⟩ = some (.string a.name) := cell_of_row _ _ _ _ _ _ HX.out.a
  have cv : W0.cell? ⟨w.heap.size + 1, 2, none⟩ = some (.int .u32 (a.f : Int)) := cell_of_row _ _ _ _ _ _ HX.out.a
  go_wp2_with (first
    | (with_reducible refine wpList_store_field rfl 38 _ _ rfl w.heap.size 11 (.int .u32 (a.f : Int)) rfl rfl (by kernel_rfl) (by kernel_rfl) 45 ss HX.out.s (by rw [HS.out.1]; decide) ?_; have hX := HX.out.row (ss.set 11 (.int .u32 (a.f : Int))); clear HX c0 cv; generalize World.setRow _ _ _ = W1 at hX ⊢; have HX := Lib.hid hX; clear hX)
    | (with_reducible refine wpList_load_agg rfl 45 _ rfl _ _ _ rfl (ss.set 11 (.int .u32 (a.f : Int))) Tryd.underlying45 rfl (by simp only [List.length_set, HS.out.1]; kernel_rfl) (At.of_row HX.out.s) ?_)
    | (with_reducible refine wpList_store_agg rfl 45 _ _ rfl (w.heap.size + 2) 0 (ss.set 11 (.int .u32 (a.f : Int))) rfl rfl 45 zeroS HX.out.z (by simp only [List.length_set, HS.out.1]; kernel_rfl) (by simp only [List.length_set, HS.out.1]; decide) (one_set HS.out.2.1 _ (by kernel_rfl)) ?_))
  obtain ⟨hb, hres⟩ := HX.out.out (ss := (ss.set 11 (.int .u32 (a.f : Int)))) (by simp only [List.length_set, HS.out.1])
  refine bodyPost_ret (results_cell_row rfl _ _ (w.heap.size + 2) 45 _ (0, 0) _ rfl hres Tryd.underlying45 rfl (by simp only [List.size_toArray, List.length_set, HS.out.1]; kernel_rfl)) rfl ⟨_, rfl, ?_, hb⟩
  have h := setting_zone HS.out.2.2.1 HS.out.2.2.2 hb
  rw [HN.out.2.1]
  exact h.set11 (v := .int .u32 (a.f : Int)) (x := a.f) ⟨rfl, HN.out.2.2⟩

theorem setD_to (op : Int) (a : AttrD) (hn : a.name = ⟨#[116, 111]⟩) (s : SettingD) : setD op a s = { s with dest := a.i } := by
  have f_alpha : (a.name.toList == ([97, 108, 112, 104, 97] : List UInt8)) = false := by rw [beq_lit, hn]; decide
  have f_beta : (a.name.toList == ([98, 101, 116, 97] : List UInt8)) = false := by rw [beq_lit, hn]; decide
  have f_epsilon : (a.name.toList == ([101, 112, 115, 105, 108, 111, 110] : List UInt8)) = false := by rw [beq_lit, hn]; decide
  have f_mode : (a.name.toList == ([109, 111, 100, 101] : List UInt8)) = false := by rw [beq_lit, hn]; decide
  have f_reduction : (a.name.toList == ([114, 101, 100, 117, 99, 116, 105, 111, 110] : List UInt8)) = false := by rw [beq_lit, hn]; decide
  have f_auto_pad : (a.name.toList == ([97, 117, 116, 111, 95, 112, 97, 100] : List UInt8)) = false := by rw [beq_lit, hn]; decide
  have f_keepdims : (a.name.toList == ([107, 101, 101, 112, 100, 105, 109, 115] : List UInt8)) = false := by rw [beq_lit, hn]; decide
  have f_noop_with_empty_axes : (a.name.toList == ([110, 111, 111, 112, 95, 119, 105, 116, 104, 95, 101, 109, 112, 116, 121, 95, 97, 120, 101, 115] : List UInt8)) = false := by rw [beq_lit, hn]; decide
  have f_select_last_index : (a.name.toList == ([115, 101, 108, 101, 99, 116, 95, 108, 97, 115, 116, 95, 105, 110, 100, 101, 120] : List UInt8)) = false := by rw [beq_lit, hn]; decide
  have f_allowzero : (a.name.toList == ([97, 108, 108, 111, 119, 122, 101, 114, 111] : List UInt8)) = false := by rw [beq_lit, hn]; decide
  have f_detect_negative : (a.name.toList == ([100, 101, 116, 101, 99, 116, 95, 110, 101, 103, 97, 116, 105, 118, 101] : List UInt8)) = false := by rw [beq_lit, hn]; decide
  have f_detect_positive : (a.name.toList == ([100, 101, 116, 101, 99, 116, 95, 112, 111, 115, 105, 116, 105, 118, 101] : List UInt8)) = false := by rw [beq_lit, hn]; decide
  have f_fmod : (a.name.toList == ([102, 109, 111, 100] : List UInt8)) = false := by rw [beq_lit, hn]; decide
  have f_transA : (a.name.toList == ([116, 114, 97, 110, 115, 65] : List UInt8)) = false := by rw [beq_lit, hn]; decide
  have f_transB : (a.name.toList == ([116, 114, 97, 110, 115, 66] : List UInt8)) = false := by rw [beq_lit, hn]; decide
  have f_ceil_mode : (a.name.toList == ([99, 101, 105, 108, 95, 109, 111, 100, 101] : List UInt8)) = false := by rw [beq_lit, hn]; decide
  have f_count_include_pad : (a.name.toList == ([99, 111, 117, 110, 116, 95, 105, 110, 99, 108, 117, 100, 101, 95, 112, 97, 100] : List UInt8)) = false := by rw [beq_lit, hn]; decide
  have f_axes : (a.name.toList == ([97, 120, 101, 115] : List UInt8)) = false := by rw [beq_lit, hn]; decide
  have f_perm : (a.name.toList == ([112, 101, 114, 109] : List UInt8)) = false := by rw [beq_lit, hn]; decide
  have f_kernel_shape : (a.name.toList == ([107, 101, 114, 110, 101, 108, 95, 115, 104, 97, 112, 101] : List UInt8)) = false := by rw [beq_lit, hn]; decide
  have f_strides : (a.name.toList == ([115, 116, 114, 105, 100, 101, 115] : List UInt8)) = false := by rw [beq_lit, hn]; decide
  have f_pads : (a.name.toList == ([112, 97, 100, 115] : List UInt8)) = false := by rw [beq_lit, hn]; decide
  have f_dilations : (a.name.toList == ([100, 105, 108, 97, 116, 105, 111, 110, 115] : List UInt8)) = false := by rw [beq_lit, hn]; decide
  have f_axis : (a.name.toList == ([97, 120, 105, 115] : List UInt8)) = false := by rw [beq_lit, hn]; decide
  have f_to : (a.name.toList == ([116, 111] : List UInt8)) = true := by rw [beq_lit]; exact decide_eq_true hn
  have f_group : (a.name.toList == ([103, 114, 111, 117, 112] : List UInt8)) = false := by rw [beq_lit, hn]; decide
  have f_blocksize : (a.name.toList == ([98, 108, 111, 99, 107, 115, 105, 122, 101] : List UInt8)) = false := by rw [beq_lit, hn]; decide
  have f_start : (a.name.toList == ([115, 116, 97, 114, 116] : List UInt8)) = false := by rw [beq_lit, hn]; decide
  have f_end : (a.name.toList == ([101, 110, 100] : List UInt8)) = false := by rw [beq_lit, hn]; decide
  have hp : Lib.hasPrefix a.name.data.toList sValue = false := by rw [hn]; decide
  clear hn
  unfold setD numD listD flagD scalarD
  simp only [*, Bool.false_eq_true, ↓reduceIte]
set_option maxRecDepth 100000 in
set_option maxHeartbeats 8000000 in
theorem set_r_to (op : Int) (a : AttrD) (hn : a.name = ⟨#[116, 111]⟩) : SetSaid op a := by
  intro s ss acs w Z hn0 hr hS
  have hD := setD_to op a hn s
  obtain ⟨A1, k1, A2, k2, A3, k3, A4, k4, A5, k5, A6, k6, rfl, h0, h1, h2, h3, h4, ht, hf, hi⟩ := open_AttrD hr
  have HS := Lib.hid (And.intro hS.len (And.intro (set_one hS) (And.intro hS hn0)))
  have f_axis : (a.name.toList == ([97, 120, 105, 115] : List UInt8)) = false := by rw [beq_lit, hn]; decide
  have f_alpha : (a.name.toList == ([97, 108, 112, 104, 97] : List UInt8)) = false := by rw [beq_lit, hn]; decide
  have f_beta : (a.name.toList == ([98, 101, 116, 97] : List UInt8)) = false := by rw [beq_lit, hn]; decide
  have f_epsilon : (a.name.toList == ([101, 112, 115, 105, 108, 111, 110] : List UInt8)) = false := by rw [beq_lit, hn]; decide
  have f_to : (a.name.toList == ([116, 111] : List UInt8)) = true := by rw [beq_lit]; exact decide_eq_true hn
  have HN := Lib.hid (And.intro hn (And.intro hD h3))
  clear hr h0 h1 h2 h3 h4 ht hf hi hS hn0 hn hD
  go_enter Tryd.func47, Tryd.ntmps47
  go_wp2_with (first
    | (with_reducible refine wpList_box_row rfl 45 _ rfl ss rfl ?_)
    | (with_reducible refine wpList_box_row rfl 52 _ rfl [.string a.name, .int .i64 a.kind, .int .u32 (a.f : Int), .int .i64 a.i, .string a.s, .int .i64 a.t.type, .slice A1 a.t.dims.length k1, .slice A2 a.t.f.length k2, .slice A3 a.t.i.length k3, .slice A4 a.t.b.length k4, .slice A5 a.floats.length k5, .slice A6 a.ints.length k6] rfl ?_)
    | (with_reducible refine wpList_alloc_row rfl 45 rfl zeroS zeroS_zero ?_; have hX := setR_start w ss [.string a.name, .int .i64 a.kind, .int .u32 (a.f : Int), .int .i64 a.i, .string a.s, .int .i64 a.t.type, .slice A1 a.t.dims.length k1, .slice A2 a.t.f.length k2, .slice A3 a.t.i.length k3, .slice A4 a.t.b.length k4, .slice A5 a.floats.length k5, .slice A6 a.ints.length k6]; generalize World.alloc _ (.cells zeroS.toArray _) = W0 at hX ⊢; have HX := Lib.hid hX; clear hX; refine halt ?_))
  unfold Halt
  have c0 : W0.cell? ⟨w.heap.size + 1, 0, none⟩ = some (.string a.name) := cell_of_row _ _ _ _ _ _ HX.out.a
  have cv : W0.cell? ⟨w.heap.size + 1, 3, none⟩ = some (.int .i64 a.i) := cell_of_row _ _ _ _ _ _ HX.out.a
  go_wp2_with (first
    | (with_reducible refine wpList_store_field rfl 3 _ _ rfl w.heap.size 15 (.int .i64 a.i) rfl rfl (by kernel_rfl) (by kernel_rfl) 45 ss HX.out.s (by rw [HS.out.1]; decide) ?_; have hX := HX.out.row (ss.set 15 (.int .i64 a.i)); clear HX c0 cv; generalize World.setRow _ _ _ = W1 at hX ⊢; have HX := Lib.hid hX; clear hX)
    | (with_reducible refine wpList_load_agg rfl 45 _ rfl _ _ _ rfl (ss.set 15 (.int .i64 a.i)) Tryd.underlying45 rfl (by simp only [List.length_set, HS.out.1]; kernel_rfl) (At.of_row HX.out.s) ?_)
    | (with_reducible refine wpList_store_agg rfl 45 _ _ rfl (w.heap.size + 2) 0 (ss.set 15 (.int .i64 a.i)) rfl rfl 45 zeroS HX.out.z (by simp only [List.length_set, HS.out.1]; kernel_rfl) (by simp only [List.length_set, HS.out.1]; decide) (one_set HS.out.2.1 _ (by kernel_rfl)) ?_))
  obtain ⟨hb, hres⟩ := HX.out.out (ss := (ss.set 15 (.int .i64 a.i))) (by simp only [List.length_set, HS.out.1])
  refine bodyPost_ret (results_cell_row rfl _ _ (w.heap.size + 2) 45 _ (0, 0) _ rfl hres Tryd.underlying45 rfl (by simp only [List.size_toArray, List.length_set, HS.out.1]; kernel_rfl)) rfl ⟨_, rfl, ?_, hb⟩
  have h := setting_zone HS.out.2.2.1 HS.out.2.2.2 hb
  rw [HN.out.2.1]
  exact h.set15 (v := .int .i64 a.i) (x := a.i) ⟨rfl, HN.out.2.2⟩

theorem setD_group (op : Int) (a : AttrD) (hn : a.name = ⟨#[103, 114, 111, 117, 112]⟩) (s : SettingD) : setD op a s = { s with group := a.i } := by
  have f_alpha : (a.name.toList == ([97, 108, 112, 104, 97] : List UInt8)) = false := by rw [beq_lit, hn]; decide
  have f_beta : (a.name.toList == ([98, 101, 116, 97] : List UInt8)) = false := by rw [beq_lit, hn]; decide
  have f_epsilon : (a.name.toList == ([101, 112, 115, 105, 108, 111, 110] : List UInt8)) = false := by rw [beq_lit, hn]; decide
  have f_mode : (a.name.toList == ([109, 111, 100, 101] : List UInt8)) = false := by rw [beq_lit, hn]; decide
  have f_reduction : (a.name.toList == ([114, 101, 100, 117, 99, 116, 105, 111, 110] : List UInt8)) = false := by rw [beq_lit, hn]; decide
  have f_auto_pad : (a.name.toList == ([97, 117, 116, 111, 95, 112, 97, 100] : List UInt8)) = false := by rw [beq_lit, hn]; decide
  have f_keepdims : (a.name.toList == ([107, 101, 101, 112, 100, 105, 109, 115] : List UInt8)) = false := by rw [beq_lit, hn]; decide
  have f_noop_with_empty_axes : (a.name.toList == ([110, 111, 111, 112, 95, 119, 105, 116, 104, 95, 101, 109, 112, 116, 121, 95, 97, 120, 101, 115] : List UInt8)) = false := by rw [beq_lit, hn]; decide
  have f_select_last_index : (a.name.toList == ([115, 101, 108, 101, 99, 116, 95, 108, 97, 115, 116, 95, 105, 110, 100, 101, 120] : List UInt8)) = false := by rw [beq_lit, hn]; decide
  have f_allowzero : (a.name.toList == ([97, 108, 108, 111, 119, 122, 101, 114, 111] : List UInt8)) = false := by rw [beq_lit, hn]; decide
  have f_detect_negative : (a.name.toList == ([100, 101, 116, 101, 99, 116, 95, 110, 101, 103, 97, 116, 105, 118, 101] : List UInt8)) = false := by rw [beq_lit, hn]; decide
  have f_detect_positive : (a.name.toList == ([100, 101, 116, 101, 99, 116, 95, 112, 111, 115, 105, 116, 105, 118, 101] : List UInt8)) = false := by rw [beq_lit, hn]; decide
  have f_fmod : (a.name.toList == ([102, 109, 111, 100] : List UInt8)) = false := by rw [beq_lit, hn]; decide
  have f_transA : (a.name.toList == ([116, 114, 97, 110, 115, 65] : List UInt8)) = false := by rw [beq_lit, hn]; decide
  have f_transB : (a.name.toList == ([116, 114, 97, 110, 115, 66] : List UInt8)) = false := by rw [beq_lit, hn]; decide
  have f_ceil_mode : (a.name.toList == ([99, 101, 105, 108, 95, 109, 111, 100, 101] : List UInt8)) = false := by rw [beq_lit, hn]; decide
  have f_count_include_pad : (a.name.toList == ([99, 111, 117, 110, 116, 95, 105, 110, 99, 108, 117, 100, 101, 95, 112, 97, 100] : List UInt8)) = false := by rw [beq_lit, hn]; decide
  have f_axes : (a.name.toList == ([97, 120, 101, 115] : List UInt8)) = false := by rw [beq_lit, hn]; decide
  have f_perm : (a.name.toList == ([112, 101, 114, 109] : List UInt8)) = false := by rw [beq_lit, hn]; decide
  have f_kernel_shape : (a.name.toList == ([107, 101, 114, 110, 101, 108, 95, 115, 104, 97, 112, 101] : List UInt8)) = false := by rw [beq_lit, hn]; decide
  have f_strides : (a.name.toList == ([115, 116, 114, 105, 100, 101, 115] : List UInt8)) = false := by rw [beq_lit, hn]; decide
  have f_pads : (a.name.toList == ([112, 97, 100, 115] : List UInt8)) = false := by rw [beq_lit, hn]; decide
  have f_dilations : (a.name.toList == ([100, 105, 108, 97, 116, 105, 111, 110, 115] : List UInt8)) = false := by rw [beq_lit, hn]; decide
  have f_axis : (a.name.toList == ([97, 120, 105, 115] : List UInt8)) = false := by rw [beq_lit, hn]; decide
  have f_to : (a.name.toList == ([116, 111] : List UInt8)) = false := by rw [beq_lit, hn]; decide
  have f_group : (a.name.toList == ([103, 114, 111, 117, 112] : List UInt8)) = true := by rw [beq_lit]; exact decide_eq_true hn
  have f_blocksize : (a.name.toList == ([98, 108, 111, 99, 107, 115, 105, 122, 101] : List UInt8)) = false := by rw [beq_lit, hn]; decide
  have f_start : (a.name.toList == ([115, 116, 97, 114, 116] : List UInt8)) = false := by rw [beq_lit, hn]; decide
  have f_end : (a.name.toList == ([101, 110, 100] : List UInt8)) = false := by rw [beq_lit, hn]; decide
  have hp : Lib.hasPrefix a.name.data.toList sValue = false := by rw [hn]; decide
  clear hn
  unfold setD numD listD flagD scalarD
  simp only [*, Bool.false_eq_true, ↓reduceIte]
set_option maxRecDepth 100000 in
set_option maxHeartbeats 8000000 in
theorem set_r_group (op : Int) (a : AttrD) (hn : a.name = ⟨#[103, 114, 111, 117, 112]⟩) : SetSaid op a := by
  intro s ss acs w Z hn0 hr hS
  have hD := setD_group op a hn s
  obtain ⟨A1, k1, A2, k2, A3, k3, A4, k4, A5, k5, A6, k6, rfl, h0, h1, h2, h3, h4, ht, hf, hi⟩ := open_AttrD hr
  have HS := Lib.hid (And.intro hS.len (And.intro (set_one hS) (And.intro hS hn0)))
  have f_axis : (a.name.toList == ([97, 120, 105, 115] : List UInt8)) = false := by rw [beq_lit, hn]; decide
  have f_alpha : (a.name.toList == ([97, 108, 112, 104, 97] : List UInt8)) = false := by rw [beq_lit, hn]; decide
  have f_beta : (a.name.toList == ([98, 101, 116, 97] : List UInt8)) = false := by rw [beq_lit, hn]; decide
  have f_epsilon : (a.name.toList == ([101, 112, 115, 105, 108, 111, 110] : List UInt8)) = false := by rw [beq_lit, hn]; decide
  have f_to : (a.name.toList == ([116, 111] : List UInt8)) = false := by rw [beq_lit, hn]; decide
  have f_group : (a.name.toList == ([103, 114, 111, 117, 112] : List UInt8)) = true := by rw [beq_lit]; exact decide_eq_true hn
  have HN := Lib.hid (And.intro hn (And.intro hD h3))
  clear hr h0 h1 h2 h3 h4 ht hf hi hS hn0 hn hD
  go_enter Tryd.func47, Tryd.ntmps47
  go_wp2_with (first
    | (with_reducible refine wpList_box_row rfl 45 _ rfl ss rfl ?_)
    | (with_reducible refine wpList_box_row rfl 52 _ rfl [.string a.name, .int .i64 a.kind, .int .u32 (a.f : Int), .int .i64 a.i, .string a.s, .int .i64 a.t.type, .slice A1 a.t.dims.length k1, .slice A2 a.t.f.length k2, .slice A3 a.t.i.length k3, .slice A4 a.t.b.length k4, .slice A5 a.floats.length k5, .slice A6 a.ints.length k6] rfl ?_)
    | (with_reducible refine wpList_alloc_row rfl 45 rfl zeroS zeroS_zero ?_; have hX := setR_start w ss [.string a.name, .int .i64 a.kind, .int .u32 (a.f : Int), .int .i64 a.i, .string a.s, .int .i64 a.t.type, .slice A1 a.t.dims.length k1, .slice A2 a.t.f.length k2, .slice A3 a.t.i.length k3, .slice A4 a.t.b.length k4, .slice A5 a.floats.length k5, .slice A6 a.ints.length k6]; generalize World.alloc _ (.cells zeroS.toArray _) = W0 at hX ⊢; have HX := Lib.hid hX; clear hX; refine halt ?_))
  unfold Halt
  have c0 : W0.cell? ⟨w.heap.size + 1, 0, none⟩ = some (.string a.name) := cell_of_row _ _ _ _ _ _ HX.out.a
  have cv : W0.cell? ⟨w.heap.size + 1, 3, none⟩ = some (.int .i64 a.i) := cell_of_row _ _ _ _ _ _ HX.out.a
  go_wp2_with (first
    | (with_reducible refine wpList_store_field rfl 3 _ _ rfl w.heap.size 19 (.int .i64 a.i) rfl rfl (by kernel_rfl) (by kernel_rfl) 45 ss HX.out.s (by rw [HS.out.1]; decide) ?_; have hX := HX.out.row (ss.set 19 (.int .i64 a.i)); clear HX c0 cv; generalize World.setRow _ _ _ = W1 at hX ⊢; have HX := Lib.hid hX; clear hX)
    | (with_reducible refine wpList_load_agg rfl 45 _ rfl _ _ _ rfl (ss.set 19 (.int .i64 a.i)) Tryd.underlying45 rfl (by simp only [List.length_set, HS.out.1]; kernel_rfl) (At.of_row HX.out.s) ?_)
    | (with_reducible refine wpList_store_agg rfl 45 _ _ rfl (w.heap.size + 2) 0 (ss.set 19 (.int .i64 a.i)) rfl rfl 45 zeroS HX.out.z (by simp only [List.length_set, HS.out.1]; kernel_rfl) (by simp only [List.length_set, HS.out.1]; decide) (one_set HS.out.2.1 _ (by kernel_rfl)) ?_))
  obtain ⟨hb, hres⟩ := HX.out.out (ss := (ss.set 19 (.int .i64 a.i))) (by simp only [List.length_set, HS.out.1])
  refine bodyPost_ret (results_cell_row rfl _ _ (w.heap.size + 2) 45 _ (0, 0) _ rfl hres Tryd.underlying45 rfl (by simp only [List.size_toArray, List.length_set, HS.out.1]; kernel_rfl)) rfl ⟨_, rfl, ?_, hb⟩
  have h := setting_zone HS.out.2.2.1 HS.out.2.2.2 hb
  rw [HN.out.2.1]
  exact h.set19 (v := .int .i64 a.i) (x := a.i) ⟨rfl, HN.out.2.2⟩

theorem setD_blocksize (op : Int) (a : AttrD) (hn : a.name = ⟨#[98, 108, 111, 99, 107, 115, 105, 122, 101]⟩) (s : SettingD) : setD op a s = { s with block := a.i } := by
  have f_alpha : (a.name.toList == ([97, 108, 112, 104, 97] : List UInt8)) = false := by rw [beq_lit, hn]; decide
  have f_beta : (a.name.toList == ([98, 101, 116, 97] : List UInt8)) = false := by rw [beq_lit, hn]; decide
  have f_epsilon : (a.name.toList == ([101, 112, 115, 105, 108, 111, 110] : List UInt8)) = false := by rw [beq_lit, hn]; decide
  have f_mode : (a.name.toList == ([109, 111, 100, 101] : List UInt8)) = false := by rw [beq_lit, hn]; decide
  have f_reduction : (a.name.toList == ([114, 101, 100, 117, 99, 116, 105, 111, 110] : List UInt8)) = false := by rw [beq_lit, hn]; decide
  have f_auto_pad : (a.name.toList == ([97, 117, 116, 111, 95, 112, 97, 100] : List UInt8)) = false := by rw [beq_lit, hn]; decide
  have f_keepdims : (a.name.toList == ([107, 101, 101, 112, 100, 105, 109, 115] : List UInt8)) = false := by rw [beq_lit, hn]; decide
  have f_noop_with_empty_axes : (a.name.toList == ([110, 111, 111, 112, 95, 119, 105, 116, 104, 95, 101, 109, 112, 116, 121, 95, 97, 120, 101, 115] : List UInt8)) = false := by rw [beq_lit, hn]; decide
  have f_select_last_index : (a.name.toList == ([115, 101, 108, 101, 99, 116, 95, 108, 97, 115, 116, 95, 105, 110, 100, 101, 120] : List UInt8)) = false := by rw [beq_lit, hn]; decide
  have f_allowzero : (a.name.toList == ([97, 108, 108, 111, 119, 122, 101, 114, 111] : List UInt8)) = false := by rw [beq_lit, hn]; decide
  have f_detect_negative : (a.name.toList == ([100, 101, 116, 101, 99, 116, 95, 110, 101, 103, 97, 116, 105, 118, 101] : List UInt8)) = false := by rw [beq_lit, hn]; decide
  have f_detect_positive : (a.name.toList == ([100, 101, 116, 101, 99, 116, 95, 112, 111, 115, 105, 116, 105, 118, 101] : List UInt8)) = false := by rw [beq_lit, hn]; decide
  have f_fmod : (a.name.toList == ([102, 109, 111, 100] : List UInt8)) = false := by rw [beq_lit, hn]; decide
  have f_transA : (a.name.toList == ([116, 114, 97, 110, 115, 65] : List UInt8)) = false := by rw [beq_lit, hn]; decide
  have f_transB : (a.name.toList == ([116, 114, 97, 110, 115, 66] : List UInt8)) = false := by rw [beq_lit, hn]; decide
  have f_ceil_mode : (a.name.toList == ([99, 101, 105, 108, 95, 109, 111, 100, 101] : List UInt8)) = false := by rw [beq_lit, hn]; decide
  have f_count_include_pad : (a.name.toList == ([99, 111, 117, 110, 116, 95, 105, 110, 99, 108, 117, 100, 101, 95, 112, 97, 100] : List UInt8)) = false := by rw [beq_lit, hn]; decide
  have f_axes : (a.name.toList == ([97, 120, 101, 115] : List UInt8)) = false := by rw [beq_lit, hn]; decide
  have f_perm : (a.name.toList == ([112, 101, 114, 109] : List UInt8)) = false := by rw [beq_lit, hn]; decide
  have f_kernel_shape : (a.name.toList == ([107, 101, 114, 110, 101, 108, 95, 115, 104, 97, 112, 101] : List UInt8)) = false := by rw [beq_lit, hn]; decide
  have f_strides : (a.name.toList == ([115, 116, 114, 105, 100, 101, 115] : List UInt8)) = false := by rw [beq_lit, hn]; decide
  have f_pads : (a.name.toList == ([112, 97, 100, 115] : List UInt8)) = false := by rw [beq_lit, hn]; decide
  have f_dilations : (a.name.toList == ([100, 105, 108, 97, 116, 105, 111, 110, 115] : List UInt8)) = false := by rw [beq_lit, hn]; decide
  have f_axis : (a.name.toList == ([97, 120, 105, 115] : List UInt8)) = false := by rw [beq_lit, hn]; decide
  have f_to : (a.name.toList == ([116, 111] : List UInt8)) = false := by rw [beq_lit, hn]; decide
  have f_group : (a.name.toList == ([103, 114, 111, 117, 112] : List UInt8)) = false := by rw [beq_lit, hn]; decide
  have f_blocksize : (a.name.toList == ([98, 108, 111, 99, 107, 115, 105, 122, 101] : List UInt8)) = true := by rw [beq_lit]; exact decide_eq_true hn
  have f_start : (a.name.toList == ([115, 116, 97, 114, 116] : List UInt8)) = false := by rw [beq_lit, hn]; decide
  have f_end : (a.name.toList == ([101, 110, 100] : List UInt8)) = false := by rw [beq_lit, hn]; decide
  have hp : Lib.hasPrefix a.name.data.toList sValue = false := by rw [hn]; decide
  clear hn
  unfold setD numD listD flagD scalarD
  simp only [*, Bool.false_eq_true, ↓reduceIte]
set_option maxRecDepth 100000 in
set_option maxHeartbeats 8000000 in
theorem set_r_blocksize (op : Int) (a : AttrD) (hn : a.name = ⟨#[98, 108, 111, 99, 107, 115, 105, 122, 101]⟩) : SetSaid op a := by
  intro s ss acs w Z hn0 hr hS
  have hD := setD_blocksize op a hn s
  obtain ⟨A1, k1, A2, k2, A3, k3, A4, k4, A5, k5, A6, k6, rfl, h0, h1, h2, h3, h4, ht, hf, hi⟩ := open_AttrD hr
  have HS := Lib.hid (And.intro hS.len (And.intro (set_one hS) (And.intro hS hn0)))
  have f_axis : (a.name.toList == ([97, 120, 105, 115] : List UInt8)) = false := by rw [beq_lit, hn]; decide
  have f_alpha : (a.name.toList == ([97, 108, 112, 104, 97] : List UInt8)) = false := by rw [beq_lit, hn]; decide
  have f_beta : (a.name.toList == ([98, 101, 116, 97] : List UInt8)) = false := by rw [beq_lit, hn]; decide
  have f_epsilon : (a.name.toList == ([101, 112, 115, 105, 108, 111, 110] : List UInt8)) = false := by rw [beq_lit, hn]; decide
  have f_to : (a.name.toList == ([116, 111] : List UInt8)) = false := by rw [beq_lit, hn]; decide
  have f_group : (a.name.toList == ([103, 114, 111, 117, 112] : List UInt8)) = false := by rw [beq_lit, hn]; decide
  have f_blocksize : (a.name.toList == ([98, 108, 111, 99, 107, 115, 105, 122, 101] : List UInt8)) = true := by rw [beq_lit]; exact decide_eq_true hn
  have HN := Lib.hid (And.intro hn (And.intro hD h3))
  clear hr h0 h1 h2 h3 h4 ht hf hi hS hn0 hn hD
  go_enter Tryd.func47, Tryd.ntmps47
  go_wp2_with (first
    | (with_reducible refine wpList_box_row rfl 45 _ rfl ss rfl ?_)
    | (with_reducible refine wpList_box_row rfl 52 _ rfl [.string a.name, .int .i64 a.kind, .int .u32 (a.f : Int), .int .i64 a.i, .string a.s, .int .i64 a.t.type, .slice A1 a.t.dims.length k1, .slice A2 a.t.f.length k2, .slice A3 a.t.i.length k3, .slice A4 a.t.b.length k4, .slice A5 a.floats.length k5, .slice A6 a.ints.length k6] rfl ?_)
    | (with_reducible refine wpList_alloc_row rfl 45 rfl zeroS zeroS_zero ?_; have hX := setR_start w ss [.string a.name, .int .i64 a.kind, .int .u32 (a.f : Int), .int .i64 a.i, .string a.s, .int .i64 a.t.type, .slice A1 a.t.dims.length k1, .slice A2 a.t.f.length k2, .slice A3 a.t.i.length k3, .slice A4 a.t.b.length k4, .slice A5 a.floats.length k5, .slice A6 a.ints.length k6]; generalize World.alloc _ (.cells zeroS.toArray _) = W0 at hX ⊢; have HX := Lib.hid hX; clear hX; refine halt ?_))
  unfold Halt
  have c0 : W0.cell? ⟨w.heap.size + 1, 0, none⟩ = some (.string a.name) := cell_of_row _ _ _ _ _ _ HX.out.a
  have cv : W0.cell? ⟨w.heap.size + 1, 3, none⟩ = some (.int .i64 a.i) := cell_of_row _ _ _ _ _ _ HX.out.a
  go_wp2_with (first
    | (with_reducible refine wpList_store_field rfl 3 _ _ rfl w.heap.size 27 (.int .i64 a.i) rfl rfl (by kernel_rfl) (by kernel_rfl) 45 ss HX.out.s (by rw [HS.out.1]; decide) ?_; have hX := HX.out.row (ss.set 27 (.int .i64 a.i)); clear HX c0 cv; generalize World.setRow _ _ _ = W1 at hX ⊢; have HX := Lib.hid hX; clear hX)
    | (with_reducible refine wpList_load_agg rfl 45 _ rfl _ _ _ rfl (ss.set 27 (.int .i64 a.i)) Tryd.underlying45 rfl (by simp only [List.length_set, HS.out.1]; kernel_rfl) (At.of_row HX.out.s) ?_)
    | (with_reducible refine wpList_store_agg rfl 45 _ _ rfl (w.heap.size + 2) 0 (ss.set 27 (.int .i64 a.i)) rfl rfl 45 zeroS HX.out.z (by simp only [List.length_set, HS.out.1]; kernel_rfl) (by simp only [List.length_set, HS.out.1]; decide) (one_set HS.out.2.1 _ (by kernel_rfl)) ?_))
  obtain ⟨hb, hres⟩ := HX.out.out (ss := (ss.set 27 (.int .i64 a.i))) (by simp only [List.length_set, HS.out.1])
  refine bodyPost_ret (results_cell_row rfl _ _ (w.heap.size + 2) 45 _ (0, 0) _ rfl hres Tryd.underlying45 rfl (by simp only [List.size_toArray, List.length_set, HS.out.1]; kernel_rfl)) rfl ⟨_, rfl, ?_, hb⟩
  have h := setting_zone HS.out.2.2.1 HS.out.2.2.2 hb
  rw [HN.out.2.1]
  exact h.set27 (v := .int .i64 a.i) (x := a.i) ⟨rfl, HN.out.2.2⟩

theorem setD_start (op : Int) (a : AttrD) (hn : a.name = ⟨#[115, 116, 97, 114, 116]⟩) (s : SettingD) : setD op a s = { s with start := a.i } := by
  have f_alpha : (a.name.toList == ([97, 108, 112, 104, 97] : List UInt8)) = false := by rw [beq_lit, hn]; decide
  have f_beta : (a.name.toList == ([98, 101, 116, 97] : List UInt8)) = false := by rw [beq_lit, hn]; decide
  have f_epsilon : (a.name.toList == ([101, 112, 115, 105, 108, 111, 110] : List UInt8)) = false := by rw [beq_lit, hn]; decide
  have f_mode : (a.name.toList == ([109, 111, 100, 101] : List UInt8)) = false := by rw [beq_lit, hn]; decide
  have f_reduction : (a.name.toList == ([114, 101, 100, 117, 99, 116, 105, 111, 110] : List UInt8)) = false := by rw [beq_lit, hn]; decide
  have f_auto_pad : (a.name.toList == ([97, 117, 116, 111, 95, 112, 97, 100] : List UInt8)) = false := by rw [beq_lit, hn]; decide
  have f_keepdims : (a.name.toList == ([107, 101, 101, 112, 100, 105, 109, 115] : List UInt8)) = false := by rw [beq_lit, hn]; decide
  have f_noop_with_empty_axes : (a.name.toList == ([110, 111, 111, 112, 95, 119, 105, 116, 104, 95, 101, 109, 112, 116, 121, 95, 97, 120, 101, 115] : List UInt8)) = false := by rw [beq_lit, hn]; decide
  have f_select_last_index : (a.name.toList == ([115, 101, 108, 101, 99, 116, 95, 108, 97, 115, 116, 95, 105, 110, 100, 101, 120] : List UInt8)) = false := by rw [beq_lit, hn]; decide
  have f_allowzero : (a.name.toList == ([97, 108, 108, 111, 119, 122, 101, 114, 111] : List UInt8)) = false := by rw [beq_lit, hn]; decide
  have f_detect_negative : (a.name.toList == ([100, 101, 116, 101, 99, 116, 95, 110, 101, 103, 97, 116, 105, 118, 101] : List UInt8)) = false := by rw [beq_lit, hn]; decide
  have f_detect_positive : (a.name.toList == ([100, 101, 116, 101, 99, 116, 95, 112, 111, 115, 105, 116, 105, 118, 101] : List UInt8)) = false := by rw [beq_lit, hn]; decide
  have f_fmod : (a.name.toList == ([102, 109, 111, 100] : List UInt8)) = false := by rw [beq_lit, hn]; decide
  have f_transA : (a.name.toList == ([116, 114, 97, 110, 115, 65] : List UInt8)) = false := by rw [beq_lit, hn]; decide
  have f_transB : (a.name.toList == ([116, 114, 97, 110, 115, 66] : List UInt8)) = false := by rw [beq_lit, hn]; decide
  have f_ceil_mode : (a.name.toList == ([99, 101, 105, 108, 95, 109, 111, 100, 101] : List UInt8)) = false := by rw [beq_lit, hn]; decide
  have f_count_include_pad : (a.name.toList == ([99, 111, 117, 110, 116, 95, 105, 110, 99, 108, 117, 100, 101, 95, 112, 97, 100] : List UInt8)) = false := by rw [beq_lit, hn]; decide
  have f_axes : (a.name.toList == ([97, 120, 101, 115] : List UInt8)) = false := by rw [beq_lit, hn]; decide
  have f_perm : (a.name.toList == ([112, 101, 114, 109] : List UInt8)) = false := by rw [beq_lit, hn]; decide
  have f_kernel_shape : (a.name.toList == ([107, 101, 114, 110, 101, 108, 95, 115, 104, 97, 112, 101] : List UInt8)) = false := by rw [beq_lit, hn]; decide
  have f_strides : (a.name.toList == ([115, 116, 114, 105, 100, 101, 115] : List UInt8)) = false := by rw [beq_lit, hn]; decide
  have f_pads : (a.name.toList == ([112, 97, 100, 115] : List UInt8)) = false := by rw [beq_lit, hn]; decide
  have f_dilations : (a.name.toList == ([100, 105, 108, 97, 116, 105, 111, 110, 115] : List UInt8)) = false := by rw [beq_lit, hn]; decide
  have f_axis : (a.name.toList == ([97, 120, 105, 115] : List UInt8)) = false := by rw [beq_lit, hn]; decide
  have f_to : (a.name.toList == ([116, 111] : List UInt8)) = false := by rw [beq_lit, hn]; decide
  have f_group : (a.name.toList == ([103, 114, 111, 117, 112] : List UInt8)) = false := by rw [beq_lit, hn]; decide
  have f_blocksize : (a.name.toList == ([98, 108, 111, 99, 107, 115, 105, 122, 101] : List UInt8)) = false := by rw [beq_lit, hn]; decide
  have f_start : (a.name.toList == ([115, 116, 97, 114, 116] : List UInt8)) = true := by rw [beq_lit]; exact decide_eq_true hn
  have f_end : (a.name.toList == ([101, 110, 100] : List UInt8)) = false := by rw [beq_lit, hn]; decide
  have hp : Lib.hasPrefix a.name.data.toList sValue = false := by rw [hn]; decide
  clear hn
  unfold setD numD listD flagD scalarD
  simp only [*, Bool.false_eq_true, ↓reduceIte]
set_option maxRecDepth 100000 in
set_option maxHeartbeats 8000000 in
theorem set_r_start (op : Int) (a : AttrD) (hn : a.name = ⟨#[115, 116, 97, 114, 116]⟩) : SetSaid op a := by
  intro s ss acs w Z hn0 hr hS
  have hD := setD_start op a hn s
  obtain ⟨A1, k1, A2, k2, A3, k3, A4, k4, A5, k5, A6, k6, rfl, h0, h1, h2, h3, h4, ht, hf, hi⟩ := open_AttrD hr
  have HS := Lib.hid (And.intro hS.len (And.intro (set_one hS) (And.intro hS hn0)))
  have f_axis : (a.name.toList == ([97, 120, 105, 115] : List UInt8)) = false := by rw [beq_lit, hn]; decide
  have f_alpha : (a.name.toList == ([97, 108, 112, 104, 97] : List UInt8)) = false := by rw [beq_lit, hn]; decide
  have f_beta : (a.name.toList == ([98, 101, 116, 97] : List UInt8)) = false := by rw [beq_lit, hn]; decide
  have f_epsilon : (a.name.toList == ([101, 112, 115, 105, 108, 111, 110] : List UInt8)) = false := by rw [beq_lit, hn]; decide
  have f_to : (a.name.toList == ([116, 111] : List UInt8)) = false := by rw [beq_lit, hn]; decide
  have f_group : (a.name.toList == ([103, 114, 111, 117, 112] : List UInt8)) = false := by rw [beq_lit, hn]; decide
  have f_blocksize : (a.name.toList == ([98, 108, 111, 99, 107, 115, 105, 122, 101] : List UInt8)) = false := by rw [beq_lit, hn]; decide
  have f_start : (a.name.toList == ([115, 116, 97, 114, 116] : List UInt8)) = true := by rw [beq_lit]; exact decide_eq_true hn
  have HN := Lib.hid (And.intro hn (And.intro hD h3))
  clear hr h0 h1 h2 h3 h4 ht hf hi hS hn0 hn hD
  go_enter Tryd.func47, Tryd.ntmps47
  go_wp2_with (first
    | (with_reducible refine wpList_box_row rfl 45 _ rfl ss rfl ?_)
    | (with_reducible refine wpList_box_row rfl 52 _ rfl [.string a.name, .int .i64 a.kind, .int .u32 (a.f : Int), .int .i64 a.i, .string a.s, .int .i64 a.t.type, .slice A1 a.t.dims.length k1, .slice A2 a.t.f.length k2, .slice A3 a.t.i.length k3, .slice A4 a.t.b.length k4, .slice A5 a.floats.length k5, .slice A6 a.ints.length k6] rfl ?_)
    | (with_reducible refine wpList_alloc_row rfl 45 rfl zeroS zeroS_zero ?_; have hX := setR_start w ss [.string a.name, .int .i64 a.kind, .int .u32 (a.f : Int), .int .i64 a.i, .string a.s, .int .i64 a.t.type, .slice A1 a.t.dims.length k1, .slice A2 a.t.f.length k2, .slice A3 a.t.i.length k3, .slice A4 a.t.b.length k4, .slice A5 a.floats.length k5, .slice A6 a.ints.length k6]; generalize World.alloc _ (.cells zeroS.toArray _) = W0 at hX ⊢; have HX := Lib.hid hX; clear hX; refine halt ?_))
  unfold Halt
  have c0 : W0.cell? ⟨w.heap.size + 1, 0, none⟩ = some (.string a.name) := cell_of_row _ _ _ _ _ _ HX.out.a
  have cv : W0.cell? ⟨w.heap.size + 1, 3, none⟩ = some (.int .i64 a.i) := cell_of_row _ _ _ _ _ _ HX.out.a
  go_wp2_with (first
    | (with_reducible refine wpList_store_field rfl 3 _ _ rfl w.heap.size 28 (.int .i64 a.i) rfl rfl (by kernel_rfl) (by kernel_rfl) 45 ss HX.out.s (by rw [HS.out.1]; decide) ?_; have hX := HX.out.row (ss.set 28 (.int .i64 a.i)); clear HX c0 cv; generalize World.setRow _ _ _ = W1 at hX ⊢; have HX := Lib.hid hX; clear hX)
    | (with_reducible refine wpList_load_agg rfl 45 _ rfl _ _ _ rfl (ss.set 28 (.int .i64 a.i)) Tryd.underlying45 rfl (by simp only [List.length_set, HS.out.1]; kernel_rfl) (At.of_row HX.out.s) ?_)
    | (with_reducible refine wpList_store_agg rfl 45 _ _ rfl (w.heap.size + 2) 0 (ss.set 28 (.int .i64 a.i)) rfl rfl 45 zeroS HX.out.z (by simp only [List.length_set, HS.out.1]; kernel_rfl) (by simp only [List.length_set, HS.out.1]; decide) (one_set HS.out.2.1 _ (by kernel_rfl)) ?_))
  obtain ⟨hb, hres⟩ := HX.out.out (ss := (ss.set 28 (.int .i64 a.i))) (by simp only [List.length_set, HS.out.1])
  refine bodyPost_ret (results_cell_row rfl _ _ (w.heap.size + 2) 45 _ (0, 0) _ rfl hres Tryd.underlying45 rfl (by simp only [List.size_toArray, List.length_set, HS.out.1]; kernel_rfl)) rfl ⟨_, rfl, ?_, hb⟩
  have h := setting_zone HS.out.2.2.1 HS.out.2.2.2 hb
  rw [HN.out.2.1]
  exact h.set28 (v := .int .i64 a.i) (x := a.i) ⟨rfl, HN.out.2.2⟩

theorem setD_end (op : Int) (a : AttrD) (hn : a.name = ⟨#[101, 110, 100]⟩) (s : SettingD) : setD op a s = { s with stop := a.i, hasEnd := true } := by
  have f_alpha : (a.name.toList == ([97, 108, 112, 104, 97] : List UInt8)) = false := by rw [beq_lit, hn]; decide
  have f_beta : (a.name.toList == ([98, 101, 116, 97] : List UInt8)) = false := by rw [beq_lit, hn]; decide
  have f_epsilon : (a.name.toList == ([101, 112, 115, 105, 108, 111, 110] : List UInt8)) = false := by rw [beq_lit, hn]; decide
  have f_mode : (a.name.toList == ([109, 111, 100, 101] : List UInt8)) = false := by rw [beq_lit, hn]; decide
  have f_reduction : (a.name.toList == ([114, 101, 100, 117, 99, 116, 105, 111, 110] : List UInt8)) = false := by rw [beq_lit, hn]; decide
  have f_auto_pad : (a.name.toList == ([97, 117, 116, 111, 95, 112, 97, 100] : List UInt8)) = false := by rw [beq_lit, hn]; decide
  have f_keepdims : (a.name.toList == ([107, 101, 101, 112, 100, 105, 109, 115] : List UInt8)) = false := by rw [beq_lit, hn]; decide
  have f_noop_with_empty_axes : (a.name.toList == ([110, 111, 111, 112, 95, 119, 105, 116, 104, 95, 101, 109, 112, 116, 121, 95, 97, 120, 101, 115] : List UInt8)) = false := by rw [beq_lit, hn]; decide
  have f_select_last_index : (a.name.toList == ([115, 101, 108, 101, 99, 116, 95, 108, 97, 115, 116, 95, 105, 110, 100, 101, 120] : List UInt8)) = false := by rw [beq_lit, hn]; decide
  have f_allowzero : (a.name.toList == ([97, 108, 108, 111, 119, 122, 101, 114, 111] : List UInt8)) = false := by rw [beq_lit, hn]; decide
  have f_detect_negative : (a.name.toList == ([100, 101, 116, 101, 99, 116, 95, 110, 101, 103, 97, 116, 105, 118, 101] : List UInt8)) = false := by rw [beq_lit, hn]; decide
  have f_detect_positive : (a.name.toList == ([100, 101, 116, 101, 99, 116, 95, 112, 111, 115, 105, 116, 105, 118, 101] : List UInt8)) = false := by rw [beq_lit, hn]; decide
  have f_fmod : (a.name.toList == ([102, 109, 111, 100] : List UInt8)) = false := by rw [beq_lit, hn]; decide
  have f_transA : (a.name.toList == ([116, 114, 97, 110, 115, 65] : List UInt8)) = false := by rw [beq_lit, hn]; decide
  have f_transB : (a.name.toList == ([116, 114, 97, 110, 115, 66] : List UInt8)) = false := by rw [beq_lit, hn]; decide
  have f_ceil_mode : (a.name.toList == ([99, 101, 105, 108, 95, 109, 111, 100, 101] : List UInt8)) = false := by rw [beq_lit, hn]; decide
  have f_count_include_pad : (a.name.toList == ([99, 111, 117, 110, 116, 95, 105, 110, 99, 108, 117, 100, 101, 95, 112, 97, 100] : List UInt8)) = false := by rw [beq_lit, hn]; decide
  have f_axes : (a.name.toList == ([97, 120, 101, 115] : List UInt8)) = false := by rw [beq_lit, hn]; decide
  have f_perm : (a.name.toList == ([112, 101, 114, 109] : List UInt8)) = false := by rw [beq_lit, hn]; decide
  have f_kernel_shape : (a.name.toList == ([107, 101, 114, 110, 101, 108, 95, 115, 104, 97, 112, 101] : List UInt8)) = false := by rw [beq_lit, hn]; decide
  have f_strides : (a.name.toList == ([115, 116, 114, 105, 100, 101, 115] : List UInt8)) = false := by rw [beq_lit, hn]; decide
  have f_pads : (a.name.toList == ([112, 97, 100, 115] : List UInt8)) = false := by rw [beq_lit, hn]; decide
  have f_dilations : (a.name.toList == ([100, 105, 108, 97, 116, 105, 111, 110, 115] : List UInt8)) = false := by rw [beq_lit, hn]; decide
  have f_axis : (a.name.toList == ([97, 120, 105, 115] : List UInt8)) = false := by rw [beq_lit, hn]; decide
  have f_to : (a.name.toList == ([116, 111] : List UInt8)) = false := by rw [beq_lit, hn]; decide
  have f_group : (a.name.toList == ([103, 114, 111, 117, 112] : List UInt8)) = false := by rw [beq_lit, hn]; decide
  have f_blocksize : (a.name.toList == ([98, 108, 111, 99, 107, 115, 105, 122, 101] : List UInt8)) = false := by rw [beq_lit, hn]; decide
  have f_start : (a.name.toList == ([115, 116, 97, 114, 116] : List UInt8)) = false := by rw [beq_lit, hn]; decide
  have f_end : (a.name.toList == ([101, 110, 100] : List UInt8)) = true := by rw [beq_lit]; exact decide_eq_true hn
  have hp : Lib.hasPrefix a.name.data.toList sValue = false := by rw [hn]; decide
  clear hn
  unfold setD numD listD flagD scalarD
  simp only [*, Bool.false_eq_true, ↓reduceIte]
set_option maxRecDepth 100000 in
set_option maxHeartbeats 8000000 in
theorem set_r_end (op : Int) (a : AttrD) (hn : a.name = ⟨#[101, 110, 100]⟩) : SetSaid op a := by
  intro s ss acs w Z hn0 hr hS
  have hD := setD_end op a hn s
  obtain ⟨A1, k1, A2, k2, A3, k3, A4, k4, A5, k5, A6, k6, rfl, h0, h1, h2, h3, h4, ht, hf, hi⟩ := open_AttrD hr
  have HS := Lib.hid (And.intro hS.len (And.intro (set_one hS) (And.intro hS hn0)))
  have f_axis : (a.name.toList == ([97, 120, 105, 115] : List UInt8)) = false := by rw [beq_lit, hn]; decide
  have f_alpha : (a.name.toList == ([97, 108, 112, 104, 97] : List UInt8)) = false := by rw [beq_lit, hn]; decide
  have f_beta : (a.name.toList == ([98, 101, 116, 97] : List UInt8)) = false := by rw [beq_lit, hn]; decide
  have f_epsilon : (a.name.toList == ([101, 112, 115, 105, 108, 111, 110] : List UInt8)) = false := by rw [beq_lit, hn]; decide
  have f_to : (a.name.toList == ([116, 111] : List UInt8)) = false := by rw [beq_lit, hn]; decide
  have f_group : (a.name.toList == ([103, 114, 111, 117, 112] : List UInt8)) = false := by rw [beq_lit, hn]; decide
  have f_blocksize : (a.name.toList == ([98, 108, 111, 99, 107, 115, 105, 122, 101] : List UInt8)) = false := by rw [beq_lit, hn]; decide
  have f_start : (a.name.toList == ([115, 116, 97, 114, 116] : List UInt8)) = false := by rw [beq_lit, hn]; decide
  have f_end : (a.name.toList == ([101, 110, 100] : List UInt8)) = true := by rw [beq_lit]; exact decide_eq_true hn
  have HN := Lib.hid (And.intro hn (And.intro hD h3))
  clear hr h0 h1 h2 h3 h4 ht hf hi hS hn0 hn hD
  go_enter Tryd.func47, Tryd.ntmps47
  go_wp2_with (first
    | (with_reducible refine wpList_box_row rfl 45 _ rfl ss rfl ?_)
    | (with_reducible refine wpList_box_row rfl 52 _ rfl [.string a.name, .int .i64 a.kind, .int .u32 (a.f : Int), .int .i64 a.i, .string a.s, .int .i64 a.t.type, .slice A1 a.t.dims.length k1, .slice A2 a.t.f.length k2, .slice A3 a.t.i.length k3, .slice A4 a.t.b.length k4, .slice A5 a.floats.length k5, .slice A6 a.ints.length k6] rfl ?_)
    | (with_reducible refine wpList_alloc_row rfl 45 rfl zeroS zeroS_zero ?_; have hX := setR_start w ss [.string a.name, .int .i64 a.kind, .int .u32 (a.f : Int), .int .i64 a.i, .string a.s, .int .i64 a.t.type, .slice A1 a.t.dims.length k1, .slice A2 a.t.f.length k2, .slice A3 a.t.i.length k3, .slice A4 a.t.b.length k4, .slice A5 a.floats.length k5, .slice A6 a.ints.length k6]; generalize World.alloc _ (.cells zeroS.toArray _) = W0 at hX ⊢; have HX := Lib.hid hX; clear hX; refine halt ?_))
  unfold Halt
  have c0 : W0.cell? ⟨w.heap.size + 1, 0, none⟩ = some (.string a.name) := cell_of_row _ _ _ _ _ _ HX.out.a
  have cv : W0.cell? ⟨w.heap.size + 1, 3, none⟩ = some (.int .i64 a.i) := cell_of_row _ _ _ _ _ _ HX.out.a
  go_wp2_with (first
    | (with_reducible refine wpList_store_field rfl 3 _ _ rfl w.heap.size 29 (.int .i64 a.i) rfl rfl (by kernel_rfl) (by kernel_rfl) 45 ss HX.out.s (by rw [HS.out.1]; decide) ?_; have hX := HX.out.row (ss.set 29 (.int .i64 a.i)); clear HX c0 cv; generalize World.setRow _ _ _ = W1 at hX ⊢; have HX := Lib.hid hX; clear hX)
    | (with_reducible refine wpList_store_field rfl 4 _ _ rfl w.heap.size 30 (.bool true) rfl rfl (by kernel_rfl) (by kernel_rfl) 45 (ss.set 29 (.int .i64 a.i)) HX.out.s (by rw [List.length_set, HS.out.1]; decide) ?_; have hX := HX.out.row ((ss.set 29 (.int .i64 a.i)).set 30 (.bool true)); clear HX; generalize World.setRow _ _ _ = W2 at hX ⊢; have HX := Lib.hid hX; clear hX)
    | (with_reducible refine wpList_load_agg rfl 45 _ rfl _ _ _ rfl ((ss.set 29 (.int .i64 a.i)).set 30 (.bool true)) Tryd.underlying45 rfl (by simp only [List.length_set, HS.out.1]; kernel_rfl) (At.of_row HX.out.s) ?_)
    | (with_reducible refine wpList_store_agg rfl 45 _ _ rfl (w.heap.size + 2) 0 ((ss.set 29 (.int .i64 a.i)).set 30 (.bool true)) rfl rfl 45 zeroS HX.out.z (by simp only [List.length_set, HS.out.1]; kernel_rfl) (by simp only [List.length_set, HS.out.1]; decide) (one_set (one_set HS.out.2.1 _ (by kernel_rfl)) _ (by kernel_rfl)) ?_))
  obtain ⟨hb, hres⟩ := HX.out.out (ss := ((ss.set 29 (.int .i64 a.i)).set 30 (.bool true))) (by simp only [List.length_set, HS.out.1])
  refine bodyPost_ret (results_cell_row rfl _ _ (w.heap.size + 2) 45 _ (0, 0) _ rfl hres Tryd.underlying45 rfl (by simp only [List.size_toArray, List.length_set, HS.out.1]; kernel_rfl)) rfl ⟨_, rfl, ?_, hb⟩
  have h := setting_zone HS.out.2.2.1 HS.out.2.2.2 hb
  rw [HN.out.2.1]
  exact (h.set29 (v := .int .i64 a.i) (x := a.i) ⟨rfl, HN.out.2.2⟩).set30 (v := .bool true) (x := true) rfl

theorem setD_mode (op : Int) (a : AttrD) (hn : a.name = ⟨#[109, 111, 100, 101]⟩) (m : Int) (hm : modeOfD op a.name a.s = some m) (s : SettingD) : setD op a s = { s with mode := m } := by
  have f_alpha : (a.name.toList == ([97, 108, 112, 104, 97] : List UInt8)) = false := by rw [beq_lit, hn]; decide
  have f_beta : (a.name.toList == ([98, 101, 116, 97] : List UInt8)) = false := by rw [beq_lit, hn]; decide
  have f_epsilon : (a.name.toList == ([101, 112, 115, 105, 108, 111, 110] : List UInt8)) = false := by rw [beq_lit, hn]; decide
  have f_mode : (a.name.toList == ([109, 111, 100, 101] : List UInt8)) = true := by rw [beq_lit]; exact decide_eq_true hn
  have f_reduction : (a.name.toList == ([114, 101, 100, 117, 99, 116, 105, 111, 110] : List UInt8)) = false := by rw [beq_lit, hn]; decide
  have f_auto_pad : (a.name.toList == ([97, 117, 116, 111, 95, 112, 97, 100] : List UInt8)) = false := by rw [beq_lit, hn]; decide
  have f_keepdims : (a.name.toList == ([107, 101, 101, 112, 100, 105, 109, 115] : List UInt8)) = false := by rw [beq_lit, hn]; decide
  have f_noop_with_empty_axes : (a.name.toList == ([110, 111, 111, 112, 95, 119, 105, 116, 104, 95, 101, 109, 112, 116, 121, 95, 97, 120, 101, 115] : List UInt8)) = false := by rw [beq_lit, hn]; decide
  have f_select_last_index : (a.name.toList == ([115, 101, 108, 101, 99, 116, 95, 108, 97, 115, 116, 95, 105, 110, 100, 101, 120] : List UInt8)) = false := by rw [beq_lit, hn]; decide
  have f_allowzero : (a.name.toList == ([97, 108, 108, 111, 119, 122, 101, 114, 111] : List UInt8)) = false := by rw [beq_lit, hn]; decide
  have f_detect_negative : (a.name.toList == ([100, 101, 116, 101, 99, 116, 95, 110, 101, 103, 97, 116, 105, 118, 101] : List UInt8)) = false := by rw [beq_lit, hn]; decide
  have f_detect_positive : (a.name.toList == ([100, 101, 116, 101, 99, 116, 95, 112, 111, 115, 105, 116, 105, 118, 101] : List UInt8)) = false := by rw [beq_lit, hn]; decide
  have f_fmod : (a.name.toList == ([102, 109, 111, 100] : List UInt8)) = false := by rw [beq_lit, hn]; decide
  have f_transA : (a.name.toList == ([116, 114, 97, 110, 115, 65] : List UInt8)) = false := by rw [beq_lit, hn]; decide
  have f_transB : (a.name.toList == ([116, 114, 97, 110, 115, 66] : List UInt8)) = false := by rw [beq_lit, hn]; decide
  have f_ceil_mode : (a.name.toList == ([99, 101, 105, 108, 95, 109, 111, 100, 101] : List UInt8)) = false := by rw [beq_lit, hn]; decide
  have f_count_include_pad : (a.name.toList == ([99, 111, 117, 110, 116, 95, 105, 110, 99, 108, 117, 100, 101, 95, 112, 97, 100] : List UInt8)) = false := by rw [beq_lit, hn]; decide
  have f_axes : (a.name.toList == ([97, 120, 101, 115] : List UInt8)) = false := by rw [beq_lit, hn]; decide
  have f_perm : (a.name.toList == ([112, 101, 114, 109] : List UInt8)) = false := by rw [beq_lit, hn]; decide
  have f_kernel_shape : (a.name.toList == ([107, 101, 114, 110, 101, 108, 95, 115, 104, 97, 112, 101] : List UInt8)) = false := by rw [beq_lit, hn]; decide
  have f_strides : (a.name.toList == ([115, 116, 114, 105, 100, 101, 115] : List UInt8)) = false := by rw [beq_lit, hn]; decide
  have f_pads : (a.name.toList == ([112, 97, 100, 115] : List UInt8)) = false := by rw [beq_lit, hn]; decide
  have f_dilations : (a.name.toList == ([100, 105, 108, 97, 116, 105, 111, 110, 115] : List UInt8)) = false := by rw [beq_lit, hn]; decide
  have f_axis : (a.name.toList == ([97, 120, 105, 115] : List UInt8)) = false := by rw [beq_lit, hn]; decide
  have f_to : (a.name.toList == ([116, 111] : List UInt8)) = false := by rw [beq_lit, hn]; decide
  have f_group : (a.name.toList == ([103, 114, 111, 117, 112] : List UInt8)) = false := by rw [beq_lit, hn]; decide
  have f_blocksize : (a.name.toList == ([98, 108, 111, 99, 107, 115, 105, 122, 101] : List UInt8)) = false := by rw [beq_lit, hn]; decide
  have f_start : (a.name.toList == ([115, 116, 97, 114, 116] : List UInt8)) = false := by rw [beq_lit, hn]; decide
  have f_end : (a.name.toList == ([101, 110, 100] : List UInt8)) = false := by rw [beq_lit, hn]; decide
  have hp : Lib.hasPrefix a.name.data.toList sValue = false := by rw [hn]; decide
  clear hn
  unfold setD numD listD flagD scalarD
  simp only [*, Bool.false_eq_true, ↓reduceIte, Option.getD_some]
set_option maxRecDepth 100000 in
set_option maxHeartbeats 8000000 in
theorem set_r_mode (op : Int) (a : AttrD) (hn : a.name = ⟨#[109, 111, 100, 101]⟩) (m : Int) (hm : modeOfD op a.name a.s = some m) : SetSaid op a := by
  intro s ss acs w Z hn0 hr hS
  have hD := setD_mode op a hn m hm s
  have hI : I64 m := by have := modeOfD_I64 op a.name a.s; rwa [hm] at this
  obtain ⟨A1, k1, A2, k2, A3, k3, A4, k4, A5, k5, A6, k6, rfl, h0, h1, h2, h3, h4, ht, hf, hi⟩ := open_AttrD hr
  have HS := Lib.hid (And.intro hS.len (And.intro (set_one hS) (And.intro hS hn0)))
  have f_axis : (a.name.toList == ([97, 120, 105, 115] : List UInt8)) = false := by rw [beq_lit, hn]; decide
  have f_alpha : (a.name.toList == ([97, 108, 112, 104, 97] : List UInt8)) = false := by rw [beq_lit, hn]; decide
  have f_beta : (a.name.toList == ([98, 101, 116, 97] : List UInt8)) = false := by rw [beq_lit, hn]; decide
  have f_epsilon : (a.name.toList == ([101, 112, 115, 105, 108, 111, 110] : List UInt8)) = false := by rw [beq_lit, hn]; decide
  have f_to : (a.name.toList == ([116, 111] : List UInt8)) = false := by rw [beq_lit, hn]; decide
  have f_group : (a.name.toList == ([103, 114, 111, 117, 112] : List UInt8)) = false := by rw [beq_lit, hn]; decide
  have f_blocksize : (a.name.toList == ([98, 108, 111, 99, 107, 115, 105, 122, 101] : List UInt8)) = false := by rw [beq_lit, hn]; decide
  have f_start : (a.name.toList == ([115, 116, 97, 114, 116] : List UInt8)) = false := by rw [beq_lit, hn]; decide
  have f_end : (a.name.toList == ([101, 110, 100] : List UInt8)) = false := by rw [beq_lit, hn]; decide
  have f_mode : (a.name.toList == ([109, 111, 100, 101] : List UInt8)) = true := by rw [beq_lit]; exact decide_eq_true hn
  have HN := Lib.hid (And.intro hn (And.intro hD (And.intro hI hm)))
  clear hr h0 h1 h2 h3 h4 ht hf hi hS hn0 hn hD hI hm
  go_enter Tryd.func47, Tryd.ntmps47
  go_wp2_with (first
    | (with_reducible refine wpList_box_row rfl 45 _ rfl ss rfl ?_)
    | (with_reducible refine wpList_box_row rfl 52 _ rfl [.string a.name, .int .i64 a.kind, .int .u32 (a.f : Int), .int .i64 a.i, .string a.s, .int .i64 a.t.type, .slice A1 a.t.dims.length k1, .slice A2 a.t.f.length k2, .slice A3 a.t.i.length k3, .slice A4 a.t.b.length k4, .slice A5 a.floats.length k5, .slice A6 a.ints.length k6] rfl ?_)
    | (with_reducible refine wpList_alloc_row rfl 45 rfl zeroS zeroS_zero ?_; have hX := setR_start w ss [.string a.name, .int .i64 a.kind, .int .u32 (a.f : Int), .int .i64 a.i, .string a.s, .int .i64 a.t.type, .slice A1 a.t.dims.length k1, .slice A2 a.t.f.length k2, .slice A3 a.t.i.length k3, .slice A4 a.t.b.length k4, .slice A5 a.floats.length k5, .slice A6 a.ints.length k6]; generalize World.alloc _ (.cells zeroS.toArray _) = W0 at hX ⊢; have HX := Lib.hid hX; clear hX; refine halt ?_))
  unfold Halt
  have c0 : W0.cell? ⟨w.heap.size + 1, 0, none⟩ = some (.string a.name) := cell_of_row _ _ _ _ _ _ HX.out.a
  have cv : W0.cell? ⟨w.heap.size + 1, 4, none⟩ = some (.string a.s) := cell_of_row _ _ _ _ _ _ HX.out.a
  go_wp2_with fail
  refine (modeR_any op a.name a.s W0).mono ?_
  rw [HN.out.2.2.2]
  rintro e w1 ⟨rfl, rfl⟩
  go_wp2_with (first
    | (with_reducible refine wpList_store_field rfl 3 _ _ rfl w.heap.size 16 (.int .i64 m) rfl rfl (by kernel_rfl) (by kernel_rfl) 45 ss HX.out.s (by rw [HS.out.1]; decide) ?_; have hX := HX.out.row (ss.set 16 (.int .i64 m)); clear HX c0 cv; generalize World.setRow _ _ _ = W1 at hX ⊢; have HX := Lib.hid hX; clear hX)
    | (with_reducible refine wpList_load_agg rfl 45 _ rfl _ _ _ rfl (ss.set 16 (.int .i64 m)) Tryd.underlying45 rfl (by simp only [List.length_set, HS.out.1]; kernel_rfl) (At.of_row HX.out.s) ?_)
    | (with_reducible refine wpList_store_agg rfl 45 _ _ rfl (w.heap.size + 2) 0 (ss.set 16 (.int .i64 m)) rfl rfl 45 zeroS HX.out.z (by simp only [List.length_set, HS.out.1]; kernel_rfl) (by simp only [List.length_set, HS.out.1]; decide) (one_set HS.out.2.1 _ (by kernel_rfl)) ?_))
  obtain ⟨hb, hres⟩ := HX.out.out (ss := (ss.set 16 (.int .i64 m))) (by simp only [List.length_set, HS.out.1])
  refine bodyPost_ret (results_cell_row rfl _ _ (w.heap.size + 2) 45 _ (0, 0) _ rfl hres Tryd.underlying45 rfl (by simp only [List.size_toArray, List.length_set, HS.out.1]; kernel_rfl)) rfl ⟨_, rfl, ?_, hb⟩
  have h := setting_zone HS.out.2.2.1 HS.out.2.2.2 hb
  rw [HN.out.2.1]
  exact h.set16 (v := .int .i64 m) (x := m) ⟨rfl, HN.out.2.2.1⟩

theorem setD_reduction (op : Int) (a : AttrD) (hn : a.name = ⟨#[114, 101, 100, 117, 99, 116, 105, 111, 110]⟩) (m : Int) (hm : modeOfD op a.name a.s = some m) (s : SettingD) : setD op a s = { s with mode := m } := by
  have f_alpha : (a.name.toList == ([97, 108, 112, 104, 97] : List UInt8)) = false := by rw [beq_lit, hn]; decide
  have f_beta : (a.name.toList == ([98, 101, 116, 97] : List UInt8)) = false := by rw [beq_lit, hn]; decide
  have f_epsilon : (a.name.toList == ([101, 112, 115, 105, 108, 111, 110] : List UInt8)) = false := by rw [beq_lit, hn]; decide
  have f_mode : (a.name.toList == ([109, 111, 100, 101] : List UInt8)) = false := by rw [beq_lit, hn]; decide
  have f_reduction : (a.name.toList == ([114, 101, 100, 117, 99, 116, 105, 111, 110] : List UInt8)) = true := by rw [beq_lit]; exact decide_eq_true hn
  have f_auto_pad : (a.name.toList == ([97, 117, 116, 111, 95, 112, 97, 100] : List UInt8)) = false := by rw [beq_lit, hn]; decide
  have f_keepdims : (a.name.toList == ([107, 101, 101, 112, 100, 105, 109, 115] : List UInt8)) = false := by rw [beq_lit, hn]; decide
  have f_noop_with_empty_axes : (a.name.toList == ([110, 111, 111, 112, 95, 119, 105, 116, 104, 95, 101, 109, 112, 116, 121, 95, 97, 120, 101, 115] : List UInt8)) = false := by rw [beq_lit, hn]; decide
  have f_select_last_index : (a.name.toList == ([115, 101, 108, 101, 99, 116, 95, 108, 97, 115, 116, 95, 105, 110, 100, 101, 120] : List UInt8)) = false := by rw [beq_lit, hn]; decide
  have f_allowzero : (a.name.toList == ([97, 108, 108, 111, 119, 122, 101, 114, 111] : List UInt8)) = false := by rw [beq_lit, hn]; decide
  have f_detect_negative : (a.name.toList == ([100, 101, 116, 101, 99, 116, 95, 110, 101, 103, 97, 116, 105, 118, 101] : List UInt8)) = false := by rw [beq_lit, hn]; decide
  have f_detect_positive : (a.name.toList == ([100, 101, 116, 101, 99, 116, 95, 112, 111, 115, 105, 116, 105, 118, 101] : List UInt8)) = false := by rw [beq_lit, hn]; decide
  have f_fmod : (a.name.toList == ([102, 109, 111, 100] : List UInt8)) = false := by rw [beq_lit, hn]; decide
  have f_transA : (a.name.toList == ([116, 114, 97, 110, 115, 65] : List UInt8)) = false := by rw [beq_lit, hn]; decide
  have f_transB : (a.name.toList == ([116, 114, 97, 110, 115, 66] : List UInt8)) = false := by rw [beq_lit, hn]; decide
  have f_ceil_mode : (a.name.toList == ([99, 101, 105, 108, 95, 109, 111, 100, 101] : List UInt8)) = false := by rw [beq_lit, hn]; decide
  have f_count_include_pad : (a.name.toList == ([99, 111, 117, 110, 116, 95, 105, 110, 99, 108, 117, 100, 101, 95, 112, 97, 100] : List UInt8)) = false := by rw [beq_lit, hn]; decide
  have f_axes : (a.name.toList == ([97, 120, 101, 115] : List UInt8)) = false := by rw [beq_lit, hn]; decide
  have f_perm : (a.name.toList == ([112, 101, 114, 109] : List UInt8)) = false := by rw [beq_lit, hn]; decide
  have f_kernel_shape : (a.name.toList == ([107, 101, 114, 110, 101, 108, 95, 115, 104, 97, 112, 101] : List UInt8)) = false := by rw [beq_lit, hn]; decide
  have f_strides : (a.name.toList == ([115, 116, 114, 105, 100, 101, 115] : List UInt8)) = false := by rw [beq_lit, hn]; decide
  have f_pads : (a.name.toList == ([112, 97, 100, 115] : List UInt8)) = false := by rw [beq_lit, hn]; decide
  have f_dilations : (a.name.toList == ([100, 105, 108, 97, 116, 105, 111, 110, 115] : List UInt8)) = false := by rw [beq_lit, hn]; decide
  have f_axis : (a.name.toList == ([97, 120, 105, 115] : List UInt8)) = false := by rw [beq_lit, hn]; decide
  have f_to : (a.name.toList == ([116, 111] : List UInt8)) = false := by rw [beq_lit, hn]; decide
  have f_group : (a.name.toList == ([103, 114, 111, 117, 112] : List UInt8)) = false := by rw [beq_lit, hn]; decide
  have f_blocksize : (a.name.toList == ([98, 108, 111, 99, 107, 115, 105, 122, 101] : List UInt8)) = false := by rw [beq_lit, hn]; decide
  have f_start : (a.name.toList == ([115, 116, 97, 114, 116] : List UInt8)) = false := by rw [beq_lit, hn]; decide
  have f_end : (a.name.toList == ([101, 110, 100] : List UInt8)) = false := by rw [beq_lit, hn]; decide
  have hp : Lib.hasPrefix a.name.data.toList sValue = false := by rw [hn]; decide
  clear hn
  unfold setD numD listD flagD scalarD
  simp only [*, Bool.false_eq_true, ↓reduceIte, Option.getD_some]
set_option maxRecDepth 100000 in
set_option maxHeartbeats 8000000 in
theorem set_r_reduction (op : Int) (a : AttrD) (hn : a.name = ⟨#[114, 101, 100, 117, 99, 116, 105, 111, 110]⟩) (m : Int) (hm : modeOfD op a.name a.s = some m) : SetSaid op a := by
  intro s ss acs w Z hn0 hr hS
  have hD := setD_reduction op a hn m hm s
  have hI : I64 m := by have := modeOfD_I64 op a.name a.s; rwa [hm] at this
  obtain ⟨A1, k1, A2, k2, A3, k3, A4, k4, A5, k5, A6, k6, rfl, h0, h1, h2, h3, h4, ht, hf, hi⟩ := open_AttrD hr
  have HS := Lib.hid (And.intro hS.len (And.intro (set_one hS) (And.intro hS hn0)))
  have f_axis : (a.name.toList == ([97, 120, 105, 115] : List UInt8)) = false := by rw [beq_lit, hn]; decide
  have f_alpha : (a.name.toList == ([97, 108, 112, 104, 97] : List UInt8)) = false := by rw [beq_lit, hn]; decide
  have f_beta : (a.name.toList == ([98, 101, 116, 97] : List UInt8)) = false := by rw [beq_lit, hn]; decide
  have f_epsilon : (a.name.toList == ([101, 112, 115, 105, 108, 111, 110] : List UInt8)) = false := by rw [beq_lit, hn]; decide
  have f_to : (a.name.toList == ([116, 111] : List UInt8)) = false := by rw [beq_lit, hn]; decide
  have f_group : (a.name.toList == ([103, 114, 111, 117, 112] : List UInt8)) = false := by rw [beq_lit, hn]; decide
  have f_blocksize : (a.name.toList == ([98, 108, 111, 99, 107, 115, 105, 122, 101] : List UInt8)) = false := by rw [beq_lit, hn]; decide
  have f_start : (a.name.toList == ([115, 116, 97, 114, 116] : List UInt8)) = false := by rw [beq_lit, hn]; decide
  have f_end : (a.name.toList == ([101, 110, 100] : List UInt8)) = false := by rw [beq_lit, hn]; decide
  have f_mode : (a.name.toList == ([109, 111, 100, 101] : List UInt8)) = false := by rw [beq_lit, hn]; decide
  have f_reduction : (a.name.toList == ([114, 101, 100, 117, 99, 116, 105, 111, 110] : List UInt8)) = true := by rw [beq_lit]; exact decide_eq_true hn
  have HN := Lib.hid (And.intro hn (And.intro hD (And.intro hI hm)))
  clear hr h0 h1 h2 h3 h4 ht hf hi hS hn0 hn hD hI hm
  go_enter Tryd.func47, Tryd.ntmps47
  go_wp2_with (first
    | (with_reducible refine wpList_box_row rfl 45 _ rfl ss rfl ?_)
    | (with_reducible refine wpList_box_row rfl 52 _ rfl [.string a.name, .int .i64 a.kind, .int .u32 (a.f : Int), .int .i64 a.i, .string a.s, .int .i64 a.t.type, .slice A1 a.t.dims.length k1, .slice A2 a.t.f.length k2, .slice A3 a.t.i.length k3, .slice A4 a.t.b.length k4, .slice A5 a.floats.length k5, .slice A6 a.ints.length k6] rfl ?_)
    | (with_reducible refine wpList_alloc_row rfl 45 rfl zeroS zeroS_zero ?_; have hX := setR_start w ss [.string a.name, .int .i64 a.kind, .int .u32 (a.f : Int), .int .i64 a.i, .string a.s, .int .i64 a.t.type, .slice A1 a.t.dims.length k1, .slice A2 a.t.f.length k2, .slice A3 a.t.i.length k3, .slice A4 a.t.b.length k4, .slice A5 a.floats.length k5, .slice A6 a.ints.length k6]; generalize World.alloc _ (.cells zeroS.toArray _) = W0 at hX ⊢; have HX := Lib.hid hX; clear hX; refine halt ?_))
  unfold Halt
  have c0 : W0.cell? ⟨w.heap.size + 1, 0, none⟩ = some (.string a.name) := cell_of_row _ _ _ _ _ _ HX.out.a
  have cv : W0.cell? ⟨w.heap.size + 1, 4, none⟩ = some (.string a.s) := cell_of_row _ _ _ _ _ _ HX.out.a
  go_wp2_with fail
  refine (modeR_any op a.name a.s W0).mono ?_
  rw [HN.out.2.2.2]
  rintro e w1 ⟨rfl, rfl⟩
  go_wp2_with (first
    | (with_reducible refine wpList_store_field rfl 3 _ _ rfl w.heap.size 16 (.int .i64 m) rfl rfl (by kernel_rfl) (by kernel_rfl) 45 ss HX.out.s (by rw [HS.out.1]; decide) ?_; have hX := HX.out.row (ss.set 16 (.int .i64 m)); clear HX c0 cv; generalize World.setRow _ _ _ = W1 at hX ⊢; have HX := Lib.hid hX; clear hX)
    | (with_reducible refine wpList_load_agg rfl 45 _ rfl _ _ _ rfl (ss.set 16 (.int .i64 m)) Tryd.underlying45 rfl (by simp only [List.length_set, HS.out.1]; kernel_rfl) (At.of_row HX.out.s) ?_)
    | (with_reducible refine wpList_store_agg rfl 45 _ _ rfl (w.heap.size + 2) 0 (ss.set 16 (.int .i64 m)) rfl rfl 45 zeroS HX.out.z (by simp only [List.length_set, HS.out.1]; kernel_rfl) (by simp only [List.length_set, HS.out.1]; decide) (one_set HS.out.2.1 _ (by kernel_rfl)) ?_))
  obtain ⟨hb, hres⟩ := HX.out.out (ss := (ss.set 16 (.int .i64 m))) (by simp only [List.length_set, HS.out.1])
  refine bodyPost_ret (results_cell_row rfl _ _ (w.heap.size + 2) 45 _ (0, 0) _ rfl hres Tryd.underlying45 rfl (by simp only [List.size_toArray, List.length_set, HS.out.1]; kernel_rfl)) rfl ⟨_, rfl, ?_, hb⟩
  have h := setting_zone HS.out.2.2.1 HS.out.2.2.2 hb
  rw [HN.out.2.1]
  exact h.set16 (v := .int .i64 m) (x := m) ⟨rfl, HN.out.2.2.1⟩

theorem setD_auto_pad (op : Int) (a : AttrD) (hn : a.name = ⟨#[97, 117, 116, 111, 95, 112, 97, 100]⟩) (m : Int) (hm : modeOfD op a.name a.s = some m) (s : SettingD) : setD op a s = { s with auto := m } := by
  have f_alpha : (a.name.toList == ([97, 108, 112, 104, 97] : List UInt8)) = false := by rw [beq_lit, hn]; decide
  have f_beta : (a.name.toList == ([98, 101, 116, 97] : List UInt8)) = false := by rw [beq_lit, hn]; decide
  have f_epsilon : (a.name.toList == ([101, 112, 115, 105, 108, 111, 110] : List UInt8)) = false := by rw [beq_lit, hn]; decide
  have f_mode : (a.name.toList == ([109, 111, 100, 101] : List UInt8)) = false := by rw [beq_lit, hn]; decide
  have f_reduction : (a.name.toList == ([114, 101, 100, 117, 99, 116, 105, 111, 110] : List UInt8)) = false := by rw [beq_lit, hn]; decide
  have f_auto_pad : (a.name.toList == ([97, 117, 116, 111, 95, 112, 97, 100] : List UInt8)) = true := by rw [beq_lit]; exact decide_eq_true hn
  have f_keepdims : (a.name.toList == ([107, 101, 101, 112, 100, 105, 109, 115] : List UInt8)) = false := by rw [beq_lit, hn]; decide
  have f_noop_with_empty_axes : (a.name.toList == ([110, 111, 111, 112, 95, 119, 105, 116, 104, 95, 101, 109, 112, 116, 121, 95, 97, 120, 101, 115] : List UInt8)) = false := by rw [beq_lit, hn]; decide
  have f_select_last_index : (a.name.toList == ([115, 101, 108, 101, 99, 116, 95, 108, 97, 115, 116, 95, 105, 110, 100, 101, 120] : List UInt8)) = false := by rw [beq_lit, hn]; decide
  have f_allowzero : (a.name.toList == ([97, 108, 108, 111, 119, 122, 101, 114, 111] : List UInt8)) = false := by rw [beq_lit, hn]; decide
  have f_detect_negative : (a.name.toList == ([100, 101, 116, 101, 99, 116, 95, 110, 101, 103, 97, 116, 105, 118, 101] : List UInt8)) = false := by rw [beq_lit, hn]; decide
  have f_detect_positive : (a.name.toList == ([100, 101, 116, 101, 99, 116, 95, 112, 111, 115, 105, 116, 105, 118, 101] : List UInt8)) = false := by rw [beq_lit, hn]; decide
  have f_fmod : (a.name.toList == ([102, 109, 111, 100] : List UInt8)) = false := by rw [beq_lit, hn]; decide
  have f_transA : (a.name.toList == ([116, 114, 97, 110, 115, 65] : List UInt8)) = false := by rw [beq_lit, hn]; decide
  have f_transB : (a.name.toList == ([116, 114, 97, 110, 115, 66] : List UInt8)) = false := by rw [beq_lit, hn]; decide
  have f_ceil_mode : (a.name.toList == ([99, 101, 105, 108, 95, 109, 111, 100, 101] : List UInt8)) = false := by rw [beq_lit, hn]; decide
  have f_count_include_pad : (a.name.toList == ([99, 111, 117, 110, 116, 95, 105, 110, 99, 108, 117, 100, 101, 95, 112, 97, 100] : List UInt8)) = false := by rw [beq_lit, hn]; decide
  have f_axes : (a.name.toList == ([97, 120, 101, 115] : List UInt8)) = false := by rw [beq_lit, hn]; decide
  have f_perm : (a.name.toList == ([112, 101, 114, 109] : List UInt8)) = false := by rw [beq_lit, hn]; decide
  have f_kernel_shape : (a.name.toList == ([107, 101, 114, 110, 101, 108, 95, 115, 104, 97, 112, 101] : List UInt8)) = false := by rw [beq_lit, hn]; decide
  have f_strides : (a.name.toList == ([115, 116, 114, 105, 100, 101, 115] : List UInt8)) = false := by rw [beq_lit, hn]; decide
  have f_pads : (a.name.toList == ([112, 97, 100, 115] : List UInt8)) = false := by rw [beq_lit, hn]; decide
  have f_dilations : (a.name.toList == ([100, 105, 108, 97, 116, 105, 111, 110, 115] : List UInt8)) = false := by rw [beq_lit, hn]; decide
  have f_axis : (a.name.toList == ([97, 120, 105, 115] : List UInt8)) = false := by rw [beq_lit, hn]; decide
  have f_to : (a.name.toList == ([116, 111] : List UInt8)) = false := by rw [beq_lit, hn]; decide
  have f_group : (a.name.toList == ([103, 114, 111, 117, 112] : List UInt8)) = false := by rw [beq_lit, hn]; decide
  have f_blocksize : (a.name.toList == ([98, 108, 111, 99, 107, 115, 105, 122, 101] : List UInt8)) = false := by rw [beq_lit, hn]; decide
  have f_start : (a.name.toList == ([115, 116, 97, 114, 116] : List UInt8)) = false := by rw [beq_lit, hn]; decide
  have f_end : (a.name.toList == ([101, 110, 100] : List UInt8)) = false := by rw [beq_lit, hn]; decide
  have hp : Lib.hasPrefix a.name.data.toList sValue = false := by rw [hn]; decide
  clear hn
  unfold setD numD listD flagD scalarD
  simp only [*, Bool.false_eq_true, ↓reduceIte, Option.getD_some]
set_option maxRecDepth 100000 in
set_option maxHeartbeats 8000000 in
theorem set_r_auto_pad (op : Int) (a : AttrD) (hn : a.name = ⟨#[97, 117, 116, 111, 95, 112, 97, 100]⟩) (m : Int) (hm : modeOfD op a.name a.s = some m) : SetSaid op a := by
  intro s ss acs w Z hn0 hr hS
  have hD := setD_auto_pad op a hn m hm s
  have hI : I64 m := by have := modeOfD_I64 op a.name a.s; rwa [hm] at this
  obtain ⟨A1, k1, A2, k2, A3, k3, A4, k4, A5, k5, A6, k6, rfl, h0, h1, h2, h3, h4, ht, hf, hi⟩ := open_AttrD hr
  have HS := Lib.hid (And.intro hS.len (And.intro (set_one hS) (And.intro hS hn0)))
  have f_axis : (a.name.toList == ([97, 120, 105, 115] : List UInt8)) = false := by rw [beq_lit, hn]; decide
  have f_alpha : (a.name.toList == ([97, 108, 112, 104, 97] : List UInt8)) = false := by rw [beq_lit, hn]; decide
  have f_beta : (a.name.toList == ([98, 101, 116, 97] : List UInt8)) = false := by rw [beq_lit, hn]; decide
  have f_epsilon : (a.name.toList == ([101, 112, 115, 105, 108, 111, 110] : List UInt8)) = false := by rw [beq_lit, hn]; decide
  have f_to : (a.name.toList == ([116, 111] : List UInt8)) = false := by rw [beq_lit, hn]; decide
  have f_group : (a.name.toList == ([103, 114, 111, 117, 112] : List UInt8)) = false := by rw [beq_lit, hn]; decide
  have f_blocksize : (a.name.toList == ([98, 108, 111, 99, 107, 115, 105, 122, 101] : List UInt8)) = false := by rw [beq_lit, hn]; decide
  have f_start : (a.name.toList == ([115, 116, 97, 114, 116] : List UInt8)) = false := by rw [beq_lit, hn]; decide
  have f_end : (a.name.toList == ([101, 110, 100] : List UInt8)) = false := by rw [beq_lit, hn]; decide
  have f_mode : (a.name.toList == ([109, 111, 100, 101] : List UInt8)) = false := by rw [beq_lit, hn]; decide
  have f_reduction : (a.name.toList == ([114, 101, 100, 117, 99, 116, 105, 111, 110] : List UInt8)) = false := by rw [beq_lit, hn]; decide
  have f_auto_pad : (a.name.toList == ([97, 117, 116, 111, 95, 112, 97, 100] : List UInt8)) = true := by rw [beq_lit]; exact decide_eq_true hn
  have HN := Lib.hid (And.intro hn (And.intro hD (And.intro hI hm)))
  clear hr h0 h1 h2 h3 h4 ht hf hi hS hn0 hn hD hI hm
  go_enter Tryd.func47, Tryd.ntmps47
  go_wp2_with (first
    | (with_reducible refine wpList_box_row rfl 45 _ rfl ss rfl ?_)
    | (with_reducible refine wpList_box_row rfl 52 _ rfl [.string a.name, .int .i64 a.kind, .int .u32 (a.f : Int), .int .i64 a.i, .string a.s, .int .i64 a.t.type, .slice A1 a.t.dims.length k1, .slice A2 a.t.f.length k2, .slice A3 a.t.i.length k3, .slice A4 a.t.b.length k4, .slice A5 a.floats.length k5, .slice A6 a.ints.length k6] rfl ?_)
    | (with_reducible refine wpList_alloc_row rfl 45 rfl zeroS zeroS_zero ?_; have hX := setR_start w ss [.string a.name, .int .i64 a.kind, .int .u32 (a.f : Int), .int .i64 a.i, .string a.s, .int .i64 a.t.type, .slice A1 a.t.dims.length k1, .slice A2 a.t.f.length k2, .slice A3 a.t.i.length k3, .slice A4 a.t.b.length k4, .slice A5 a.floats.length k5, .slice A6 a.ints.length k6]; generalize World.alloc _ (.cells zeroS.toArray _) = W0 at hX ⊢; have HX := Lib.hid hX; clear hX; refine halt ?_))
  unfold Halt
  have c0 : W0.cell? ⟨w.heap.size + 1, 0, none⟩ = some (.string a.name) := cell_of_row _ _ _ _ _ _ HX.out.a
  have cv : W0.cell? ⟨w.heap.size + 1, 4, none⟩ = some (.string a.s) := cell_of_row _ _ _ _ _ _ HX.out.a
  go_wp2_with fail
  refine (modeR_any op a.name a.s W0).mono ?_
  rw [HN.out.2.2.2]
  rintro e w1 ⟨rfl, rfl⟩
  go_wp2_with (first
    | (with_reducible refine wpList_store_field rfl 3 _ _ rfl w.heap.size 24 (.int .i64 m) rfl rfl (by kernel_rfl) (by kernel_rfl) 45 ss HX.out.s (by rw [HS.out.1]; decide) ?_; have hX := HX.out.row (ss.set 24 (.int .i64 m)); clear HX c0 cv; generalize World.setRow _ _ _ = W1 at hX ⊢; have HX := Lib.hid hX; clear hX)
    | (with_reducible refine wpList_load_agg rfl 45 _ rfl _ _ _ rfl (ss.set 24 (.int .i64 m)) Tryd.underlying45 rfl (by simp only [List.length_set, HS.out.1]; kernel_rfl) (At.of_row HX.out.s) ?_)
    | (with_reducible refine wpList_store_agg rfl 45 _ _ rfl (w.heap.size + 2) 0 (ss.set 24 (.int .i64 m)) rfl rfl 45 zeroS HX.out.z (by simp only [List.length_set, HS.out.1]; kernel_rfl) (by simp only [List.length_set, HS.out.1]; decide) (one_set HS.out.2.1 _ (by kernel_rfl)) ?_))
  obtain ⟨hb, hres⟩ := HX.out.out (ss := (ss.set 24 (.int .i64 m))) (by simp only [List.length_set, HS.out.1])
  refine bodyPost_ret (results_cell_row rfl _ _ (w.heap.size + 2) 45 _ (0, 0) _ rfl hres Tryd.underlying45 rfl (by simp only [List.size_toArray, List.length_set, HS.out.1]; kernel_rfl)) rfl ⟨_, rfl, ?_, hb⟩
  have h := setting_zone HS.out.2.2.1 HS.out.2.2.2 hb
  rw [HN.out.2.1]
  exact h.set24 (v := .int .i64 m) (x := m) ⟨rfl, HN.out.2.2.1⟩

set_option maxRecDepth 100000 in
set_option maxHeartbeats 8000000 in
theorem set_r_default (op : Int) (a : AttrD) (hL : Legit op a) (f_axis : (a.name.toList == ([97, 120, 105, 115] : List UInt8)) = false) (f_alpha : (a.name.toList == ([97, 108, 112, 104, 97] : List UInt8)) = false) (f_beta : (a.name.toList == ([98, 101, 116, 97] : List UInt8)) = false) (f_epsilon : (a.name.toList == ([101, 112, 115, 105, 108, 111, 110] : List UInt8)) = false) (f_to : (a.name.toList == ([116, 111] : List UInt8)) = false) (f_group : (a.name.toList == ([103, 114, 111, 117, 112] : List UInt8)) = false) (f_blocksize : (a.name.toList == ([98, 108, 111, 99, 107, 115, 105, 122, 101] : List UInt8)) = false) (f_start : (a.name.toList == ([115, 116, 97, 114, 116] : List UInt8)) = false) (f_end : (a.name.toList == ([101, 110, 100] : List UInt8)) = false) (f_mode : (a.name.toList == ([109, 111, 100, 101] : List UInt8)) = false) (f_reduction : (a.name.toList == ([114, 101, 100, 117, 99, 116, 105, 111, 110] : List UInt8)) = false) (f_auto_pad : (a.name.toList == ([97, 117, 116, 111, 95, 112, 97, 100] : List UInt8)) = false) (hD : ∀ s, setD op a s = listRD a (flagD a.name (a.i == 1) s)) : SetSaid op a := by
  intro s ss acs w Z hn0 hr hS
  have hr' := hr
  obtain ⟨A1, k1, A2, k2, A3, k3, A4, k4, A5, k5, A6, k6, rfl, h0, h1, h2, h3, h4, ht, hf, hi⟩ := open_AttrD hr
  have HS := Lib.hid (And.intro hS.len (And.intro (set_one hS) (And.intro hS (And.intro hr' hn0))))
  have HD := Lib.hid (And.intro hD hL)
  clear hr h0 h1 h2 h3 h4 ht hf hi hS hr' hD hL hn0
  go_enter Tryd.func47, Tryd.ntmps47
  go_wp2_with (first
    | (with_reducible refine wpList_box_row rfl 45 _ rfl ss rfl ?_)
    | (with_reducible refine wpList_box_row rfl 52 _ rfl [.string a.name, .int .i64 a.kind, .int .u32 (a.f : Int), .int .i64 a.i, .string a.s, .int .i64 a.t.type, .slice A1 a.t.dims.length k1, .slice A2 a.t.f.length k2, .slice A3 a.t.i.length k3, .slice A4 a.t.b.length k4, .slice A5 a.floats.length k5, .slice A6 a.ints.length k6] rfl ?_)
    | (with_reducible refine wpList_alloc_row rfl 45 rfl zeroS zeroS_zero ?_; have hX := setR_start w ss [.string a.name, .int .i64 a.kind, .int .u32 (a.f : Int), .int .i64 a.i, .string a.s, .int .i64 a.t.type, .slice A1 a.t.dims.length k1, .slice A2 a.t.f.length k2, .slice A3 a.t.i.length k3, .slice A4 a.t.b.length k4, .slice A5 a.floats.length k5, .slice A6 a.ints.length k6]; generalize World.alloc _ (.cells zeroS.toArray _) = W0 at hX ⊢; have HX := Lib.hid hX; clear hX; refine halt ?_))
  unfold Halt
  have c0 : W0.cell? ⟨w.heap.size + 1, 0, none⟩ = some (.string a.name) := cell_of_row _ _ _ _ _ _ HX.out.a
  go_wp2_with fail
  have HX1 := Lib.hid HX.out.drew
  refine wp_region_held_drew (S := fun W => At W (w.heap.size + 1) 0 [.string a.name, .int .i64 a.kind, .int .u32 (a.f : Int), .int .i64 a.i, .string a.s, .int .i64 a.t.type, .slice A1 a.t.dims.length k1, .slice A2 a.t.f.length k2, .slice A3 a.t.i.length k3, .slice A4 a.t.b.length k4, .slice A5 a.floats.length k5, .slice A6 a.ints.length k6]) (by kernel_rfl) (At.of_row HX1.out.a) (fun hHeld => ?_)
  refine wpAnyH_take (i := 1) (v := .agg ([.string a.name, .int .i64 a.kind, .int .u32 (a.f : Int), .int .i64 a.i, .string a.s, .int .i64 a.t.type, .slice A1 a.t.dims.length k1, .slice A2 a.t.f.length k2, .slice A3 a.t.i.length k3, .slice A4 a.t.b.length k4, .slice A5 a.floats.length k5, .slice A6 a.ints.length k6] : List Value).toArray) rfl (by kernel_rfl) (by kernel_rfl) (by kernel_rfl) (fun c a w h => h) (yields_load_agg (by kernel_rfl) 52 _ rfl _ (w.heap.size + 1) 0 (by kernel_rfl) [.string a.name, .int .i64 a.kind, .int .u32 (a.f : Int), .int .i64 a.i, .string a.s, .int .i64 a.t.type, .slice A1 a.t.dims.length k1, .slice A2 a.t.f.length k2, .slice A3 a.t.i.length k3, .slice A4 a.t.b.length k4, .slice A5 a.floats.length k5, .slice A6 a.ints.length k6] Tryd.underlying52 rfl (by kernel_rfl) (fun _ h => h)) hHeld ?_
  refine wpAnyH_take (i := 3) (v := .agg ([.string a.name, .int .i64 a.kind, .int .u32 (a.f : Int), .int .i64 a.i, .string a.s, .int .i64 a.t.type, .slice A1 a.t.dims.length k1, .slice A2 a.t.f.length k2, .slice A3 a.t.i.length k3, .slice A4 a.t.b.length k4, .slice A5 a.floats.length k5, .slice A6 a.ints.length k6] : List Value).toArray) rfl (by kernel_rfl) (by kernel_rfl) (by kernel_rfl) (fun c a w h => h) (yields_load_agg (by kernel_rfl) 52 _ rfl _ (w.heap.size + 1) 0 (by kernel_rfl) [.string a.name, .int .i64 a.kind, .int .u32 (a.f : Int), .int .i64 a.i, .string a.s, .int .i64 a.t.type, .slice A1 a.t.dims.length k1, .slice A2 a.t.f.length k2, .slice A3 a.t.i.length k3, .slice A4 a.t.b.length k4, .slice A5 a.floats.length k5, .slice A6 a.ints.length k6] Tryd.underlying52 rfl (by kernel_rfl) (fun _ h => h)) hHeld ?_
  refine anyH_1 0 rfl (by kernel_rfl) ?_
  refine steps_load_agg (by kernel_rfl) 45 _ rfl _ w.heap.size 0 (by kernel_rfl) ss Tryd.underlying45 rfl (by rw [HS.out.1]; kernel_rfl) (At.of_row HX1.out.s) hHeld ?_
  refine anyH_call 2 rfl (by kernel_rfl) (by kernel_rfl) 81 _ _ rfl #[.agg ss.toArray, .agg ([.string a.name, .int .i64 a.kind, .int .u32 (a.f : Int), .int .i64 a.i, .string a.s, .int .i64 a.t.type, .slice A1 a.t.dims.length k1, .slice A2 a.t.f.length k2, .slice A3 a.t.i.length k3, .slice A4 a.t.b.length k4, .slice A5 a.floats.length k5, .slice A6 a.ints.length k6] : List Value).toArray] (by kernel_rfl) (fun w => by kernel_rfl) ?_
  have h0 := (inferInstance : Rep SettingD).keep HS.out.2.2.1 (Keeps.of_below HX1.out.below HS.out.2.2.2.2)
  have hz : ∀ b, Z.blk b → b < W0.heap.size := fun b hb => Nat.lt_of_lt_of_le (HS.out.2.2.2.2 b hb) HX1.out.below.size
  have HZ := Lib.hid hz
  clear hz
  refine (flagsR_any a s ss _ W0.drew Z HZ.out (HX1.out.keeps HS.out.2.2.2.1) h0).mono ?_
  rintro e w1 ⟨s1, rfl, hs1, hb1⟩
  have HX2 := Lib.hid (HX1.out.next hb1)
  have HS1 := Lib.hid hs1
  have hs01 : W0.heap.size ≤ w1.heap.size := hb1.size
  have hz : ∀ b, (Z.plus W0.heap.size w1.heap.size).blk b → b < w1.heap.size := fun b hb => hb.elim (fun h => Nat.lt_of_lt_of_le (HZ.out b h) hs01) (fun h => h.2)
  have HZ1 := Lib.hid (show ∀ b, (Z.plus W0.heap.size w1.heap.size).blk b → b < w1.heap.size from hz)
  clear hb1 hs1 h0 c0 hz
  refine ⟨_, rfl, At.of_row HX2.out.a, ?_⟩
  refine anyH_call 4 rfl (by kernel_rfl) (by kernel_rfl) 80 _ _ rfl #[.agg s1.toArray, .agg ([.string a.name, .int .i64 a.kind, .int .u32 (a.f : Int), .int .i64 a.i, .string a.s, .int .i64 a.t.type, .slice A1 a.t.dims.length k1, .slice A2 a.t.f.length k2, .slice A3 a.t.i.length k3, .slice A4 a.t.b.length k4, .slice A5 a.floats.length k5, .slice A6 a.ints.length k6] : List Value).toArray] (by kernel_rfl) (fun w => by kernel_rfl) ?_
  refine (listsR_any op a HD.out.2 _ s1 _ w1 (Z.plus W0.heap.size w1.heap.size) HZ1.out (HX2.out.keeps HS.out.2.2.2.1) HS1.out).mono ?_
  rintro e w2 ⟨s2, rfl, hs2, hb2⟩
  have HX3 := Lib.hid (HX2.out.next hb2)
  have HS2 := Lib.hid (And.intro hs2.len (And.intro (set_one hs2) hs2))
  have hsz := Lib.hid hb2.size
  clear hb2 hs2
  refine ⟨_, rfl, At.of_row HX3.out.a, ?_⟩
  refine anyH_store_agg 5 rfl (by kernel_rfl) (by kernel_rfl) 45 _ _ rfl w.heap.size 0 s2 (by kernel_rfl) (by kernel_rfl) 45 ss HX3.out.s (by rw [HS2.out.1]; kernel_rfl) (by rw [HS2.out.1, HS.out.1]; decide) HS2.out.2.1 ?_ ?_
  · exact (At.of_row HX3.out.a).setRow_other (by omega) _
  have hfull : ss.take 0 ++ s2 ++ ss.drop (0 + s2.length) = s2 := by rw [List.take_zero, List.nil_append, Nat.zero_add, List.drop_of_length_le (by rw [HS.out.1, HS2.out.1]; exact Nat.le_refl _), List.append_nil]
  rw [hfull]
  have hX := HX3.out.row s2
  have hfar : ∀ k, ((Z.plus W0.heap.size w1.heap.size).plus w1.heap.size w2.heap.size).blk k → k ≠ w.heap.size ∧ k ≠ w.heap.size + 2 ∧ ((Z.plus w.heap.size w2.heap.size).blk k) := fun k hk => by
    have h1 : w.heap.size + 2 < W0.heap.size := HX1.out.lt
    have h3 : w1.heap.size ≤ w2.heap.size := hsz.out
    rcases hk with (hk | hk) | hk
    · have := HS.out.2.2.2.2 k hk
      exact ⟨by omega, by omega, .inl hk⟩
    · exact ⟨by omega, by omega, .inr ⟨by omega, by omega⟩⟩
    · exact ⟨by omega, by omega, .inr ⟨by omega, by omega⟩⟩
  have hs3 := (inferInstance : Rep SettingD).keep HS2.out.2.2 (show Keeps ((Z.plus W0.heap.size w1.heap.size).plus w1.heap.size w2.heap.size) w2 (w2.setRow w.heap.size s2.toArray) from .of_block fun k hk => heap_setRow_other _ _ _ _ (hfar k hk).1)
  have hsz3 : w2.heap.size ≤ (w2.setRow w.heap.size s2.toArray).heap.size := by rw [size_setRow]; exact Nat.le_refl _
  generalize World.setRow _ _ _ = w3 at hX hs3 hsz3 ⊢
  have HX4 := Lib.hid hX
  clear hX
  refine wpAnyH_done (by kernel_rfl) ?_ _
  go_wp2_with (first
    | (with_reducible refine wpList_load_agg rfl 45 _ rfl _ _ _ rfl s2 Tryd.underlying45 rfl (by rw [HS2.out.1]; kernel_rfl) (At.of_row HX4.out.s) ?_)
    | (with_reducible refine wpList_store_agg rfl 45 _ _ rfl (w.heap.size + 2) 0 s2 rfl rfl 45 zeroS HX4.out.z (by rw [HS2.out.1]; kernel_rfl) (by rw [HS2.out.1]; decide) HS2.out.2.1 ?_))
  obtain ⟨hb, hres⟩ := HX4.out.out HS2.out.1
  refine bodyPost_ret (results_cell_row rfl _ _ (w.heap.size + 2) 45 _ (0, 0) _ rfl hres Tryd.underlying45 rfl (by rw [List.size_toArray, HS2.out.1]; kernel_rfl)) rfl ⟨_, rfl, ?_, hb⟩
  rw [HD.out.1]
  have hs4 := (inferInstance : Rep SettingD).keep hs3 (show Keeps ((Z.plus W0.heap.size w1.heap.size).plus w1.heap.size w2.heap.size) w3 (w3.setRow (w.heap.size + 2) (zeroS.take 0 ++ s2 ++ zeroS.drop (0 + s2.length)).toArray) from .of_block fun k hk => heap_setRow_other _ _ _ _ (hfar k hk).2.1)
  refine (inferInstance : Rep SettingD).more hs4 ⟨fun k hk => ?_, fun h => h⟩
  have h5 := (hfar k hk).2.2
  rw [size_setRow]
  exact h5.imp id fun h => ⟨h.1, Nat.lt_of_lt_of_le h.2 hsz3⟩

theorem flagD_value (nm : ByteArray) (hn : nm = ⟨#[118, 97, 108, 117, 101]⟩) (x : Bool) (s : SettingD) : flagD nm x s = s := by
  have f_keepdims : (nm.toList == ([107, 101, 101, 112, 100, 105, 109, 115] : List UInt8)) = false := by rw [beq_lit, hn]; decide
  have f_noop_with_empty_axes : (nm.toList == ([110, 111, 111, 112, 95, 119, 105, 116, 104, 95, 101, 109, 112, 116, 121, 95, 97, 120, 101, 115] : List UInt8)) = false := by rw [beq_lit, hn]; decide
  have f_select_last_index : (nm.toList == ([115, 101, 108, 101, 99, 116, 95, 108, 97, 115, 116, 95, 105, 110, 100, 101, 120] : List UInt8)) = false := by rw [beq_lit, hn]; decide
  have f_allowzero : (nm.toList == ([97, 108, 108, 111, 119, 122, 101, 114, 111] : List UInt8)) = false := by rw [beq_lit, hn]; decide
  have f_detect_negative : (nm.toList == ([100, 101, 116, 101, 99, 116, 95, 110, 101, 103, 97, 116, 105, 118, 101] : List UInt8)) = false := by rw [beq_lit, hn]; decide
  have f_detect_positive : (nm.toList == ([100, 101, 116, 101, 99, 116, 95, 112, 111, 115, 105, 116, 105, 118, 101] : List UInt8)) = false := by rw [beq_lit, hn]; decide
  have f_fmod : (nm.toList == ([102, 109, 111, 100] : List UInt8)) = false := by rw [beq_lit, hn]; decide
  have f_transA : (nm.toList == ([116, 114, 97, 110, 115, 65] : List UInt8)) = false := by rw [beq_lit, hn]; decide
  have f_transB : (nm.toList == ([116, 114, 97, 110, 115, 66] : List UInt8)) = false := by rw [beq_lit, hn]; decide
  have f_ceil_mode : (nm.toList == ([99, 101, 105, 108, 95, 109, 111, 100, 101] : List UInt8)) = false := by rw [beq_lit, hn]; decide
  have f_count_include_pad : (nm.toList == ([99, 111, 117, 110, 116, 95, 105, 110, 99, 108, 117, 100, 101, 95, 112, 97, 100] : List UInt8)) = false := by rw [beq_lit, hn]; decide
  clear hn
  unfold flagD
  simp only [*, Bool.false_eq_true, ↓reduceIte]

theorem flagD_value_float (nm : ByteArray) (hn : nm = ⟨#[118, 97, 108, 117, 101, 95, 102, 108, 111, 97, 116]⟩) (x : Bool) (s : SettingD) : flagD nm x s = s := by
  have f_keepdims : (nm.toList == ([107, 101, 101, 112, 100, 105, 109, 115] : List UInt8)) = false := by rw [beq_lit, hn]; decide
  have f_noop_with_empty_axes : (nm.toList == ([110, 111, 111, 112, 95, 119, 105, 116, 104, 95, 101, 109, 112, 116, 121, 95, 97, 120, 101, 115] : List UInt8)) = false := by rw [beq_lit, hn]; decide
  have f_select_last_index : (nm.toList == ([115, 101, 108, 101, 99, 116, 95, 108, 97, 115, 116, 95, 105, 110, 100, 101, 120] : List UInt8)) = false := by rw [beq_lit, hn]; decide
  have f_allowzero : (nm.toList == ([97, 108, 108, 111, 119, 122, 101, 114, 111] : List UInt8)) = false := by rw [beq_lit, hn]; decide
  have f_detect_negative : (nm.toList == ([100, 101, 116, 101, 99, 116, 95, 110, 101, 103, 97, 116, 105, 118, 101] : List UInt8)) = false := by rw [beq_lit, hn]; decide
  have f_detect_positive : (nm.toList == ([100, 101, 116, 101, 99, 116, 95, 112, 111, 115, 105, 116, 105, 118, 101] : List UInt8)) = false := by rw [beq_lit, hn]; decide
  have f_fmod : (nm.toList == ([102, 109, 111, 100] : List UInt8)) = false := by rw [beq_lit, hn]; decide
  have f_transA : (nm.toList == ([116, 114, 97, 110, 115, 65] : List UInt8)) = false := by rw [beq_lit, hn]; decide
  have f_transB : (nm.toList == ([116, 114, 97, 110, 115, 66] : List UInt8)) = false := by rw [beq_lit, hn]; decide
  have f_ceil_mode : (nm.toList == ([99, 101, 105, 108, 95, 109, 111, 100, 101] : List UInt8)) = false := by rw [beq_lit, hn]; decide
  have f_count_include_pad : (nm.toList == ([99, 111, 117, 110, 116, 95, 105, 110, 99, 108, 117, 100, 101, 95, 112, 97, 100] : List UInt8)) = false := by rw [beq_lit, hn]; decide
  clear hn
  unfold flagD
  simp only [*, Bool.false_eq_true, ↓reduceIte]

theorem flagD_value_int (nm : ByteArray) (hn : nm = ⟨#[118, 97, 108, 117, 101, 95, 105, 110, 116]⟩) (x : Bool) (s : SettingD) : flagD nm x s = s := by
  have f_keepdims : (nm.toList == ([107, 101, 101, 112, 100, 105, 109, 115] : List UInt8)) = false := by rw [beq_lit, hn]; decide
  have f_noop_with_empty_axes : (nm.toList == ([110, 111, 111, 112, 95, 119, 105, 116, 104, 95, 101, 109, 112, 116, 121, 95, 97, 120, 101, 115] : List UInt8)) = false := by rw [beq_lit, hn]; decide
  have f_select_last_index : (nm.toList == ([115, 101, 108, 101, 99, 116, 95, 108, 97, 115, 116, 95, 105, 110, 100, 101, 120] : List UInt8)) = false := by rw [beq_lit, hn]; decide
  have f_allowzero : (nm.toList == ([97, 108, 108, 111, 119, 122, 101, 114, 111] : List UInt8)) = false := by rw [beq_lit, hn]; decide
  have f_detect_negative : (nm.toList == ([100, 101, 116, 101, 99, 116, 95, 110, 101, 103, 97, 116, 105, 118, 101] : List UInt8)) = false := by rw [beq_lit, hn]; decide
  have f_detect_positive : (nm.toList == ([100, 101, 116, 101, 99, 116, 95, 112, 111, 115, 105, 116, 105, 118, 101] : List UInt8)) = false := by rw [beq_lit, hn]; decide
  have f_fmod : (nm.toList == ([102, 109, 111, 100] : List UInt8)) = false := by rw [beq_lit, hn]; decide
  have f_transA : (nm.toList == ([116, 114, 97, 110, 115, 65] : List UInt8)) = false := by rw [beq_lit, hn]; decide
  have f_transB : (nm.toList == ([116, 114, 97, 110, 115, 66] : List UInt8)) = false := by rw [beq_lit, hn]; decide
  have f_ceil_mode : (nm.toList == ([99, 101, 105, 108, 95, 109, 111, 100, 101] : List UInt8)) = false := by rw [beq_lit, hn]; decide
  have f_count_include_pad : (nm.toList == ([99, 111, 117, 110, 116, 95, 105, 110, 99, 108, 117, 100, 101, 95, 112, 97, 100] : List UInt8)) = false := by rw [beq_lit, hn]; decide
  clear hn
  unfold flagD
  simp only [*, Bool.false_eq_true, ↓reduceIte]

theorem flagD_value_floats (nm : ByteArray) (hn : nm = ⟨#[118, 97, 108, 117, 101, 95, 102, 108, 111, 97, 116, 115]⟩) (x : Bool) (s : SettingD) : flagD nm x s = s := by
  have f_keepdims : (nm.toList == ([107, 101, 101, 112, 100, 105, 109, 115] : List UInt8)) = false := by rw [beq_lit, hn]; decide
  have f_noop_with_empty_axes : (nm.toList == ([110, 111, 111, 112, 95, 119, 105, 116, 104, 95, 101, 109, 112, 116, 121, 95, 97, 120, 101, 115] : List UInt8)) = false := by rw [beq_lit, hn]; decide
  have f_select_last_index : (nm.toList == ([115, 101, 108, 101, 99, 116, 95, 108, 97, 115, 116, 95, 105, 110, 100, 101, 120] : List UInt8)) = false := by rw [beq_lit, hn]; decide
  have f_allowzero : (nm.toList == ([97, 108, 108, 111, 119, 122, 101, 114, 111] : List UInt8)) = false := by rw [beq_lit, hn]; decide
  have f_detect_negative : (nm.toList == ([100, 101, 116, 101, 99, 116, 95, 110, 101, 103, 97, 116, 105, 118, 101] : List UInt8)) = false := by rw [beq_lit, hn]; decide
  have f_detect_positive : (nm.toList == ([100, 101, 116, 101, 99, 116, 95, 112, 111, 115, 105, 116, 105, 118, 101] : List UInt8)) = false := by rw [beq_lit, hn]; decide
  have f_fmod : (nm.toList == ([102, 109, 111, 100] : List UInt8)) = false := by rw [beq_lit, hn]; decide
  have f_transA : (nm.toList == ([116, 114, 97, 110, 115, 65] : List UInt8)) = false := by rw [beq_lit, hn]; decide
  have f_transB : (nm.toList == ([116, 114, 97, 110, 115, 66] : List UInt8)) = false := by rw [beq_lit, hn]; decide
  have f_ceil_mode : (nm.toList == ([99, 101, 105, 108, 95, 109, 111, 100, 101] : List UInt8)) = false := by rw [beq_lit, hn]; decide
  have f_count_include_pad : (nm.toList == ([99, 111, 117, 110, 116, 95, 105, 110, 99, 108, 117, 100, 101, 95, 112, 97, 100] : List UInt8)) = false := by rw [beq_lit, hn]; decide
  clear hn
  unfold flagD
  simp only [*, Bool.false_eq_true, ↓reduceIte]

theorem flagD_value_ints (nm : ByteArray) (hn : nm = ⟨#[118, 97, 108, 117, 101, 95, 105, 110, 116, 115]⟩) (x : Bool) (s : SettingD) : flagD nm x s = s := by
  have f_keepdims : (nm.toList == ([107, 101, 101, 112, 100, 105, 109, 115] : List UInt8)) = false := by rw [beq_lit, hn]; decide
  have f_noop_with_empty_axes : (nm.toList == ([110, 111, 111, 112, 95, 119, 105, 116, 104, 95, 101, 109, 112, 116, 121, 95, 97, 120, 101, 115] : List UInt8)) = false := by rw [beq_lit, hn]; decide
  have f_select_last_index : (nm.toList == ([115, 101, 108, 101, 99, 116, 95, 108, 97, 115, 116, 95, 105, 110, 100, 101, 120] : List UInt8)) = false := by rw [beq_lit, hn]; decide
  have f_allowzero : (nm.toList == ([97, 108, 108, 111, 119, 122, 101, 114, 111] : List UInt8)) = false := by rw [beq_lit, hn]; decide
  have f_detect_negative : (nm.toList == ([100, 101, 116, 101, 99, 116, 95, 110, 101, 103, 97, 116, 105, 118, 101] : List UInt8)) = false := by rw [beq_lit, hn]; decide
  have f_detect_positive : (nm.toList == ([100, 101, 116, 101, 99, 116, 95, 112, 111, 115, 105, 116, 105, 118, 101] : List UInt8)) = false := by rw [beq_lit, hn]; decide
  have f_fmod : (nm.toList == ([102, 109, 111, 100] : List UInt8)) = false := by rw [beq_lit, hn]; decide
  have f_transA : (nm.toList == ([116, 114, 97, 110, 115, 65] : List UInt8)) = false := by rw [beq_lit, hn]; decide
  have f_transB : (nm.toList == ([116, 114, 97, 110, 115, 66] : List UInt8)) = false := by rw [beq_lit, hn]; decide
  have f_ceil_mode : (nm.toList == ([99, 101, 105, 108, 95, 109, 111, 100, 101] : List UInt8)) = false := by rw [beq_lit, hn]; decide
  have f_count_include_pad : (nm.toList == ([99, 111, 117, 110, 116, 95, 105, 110, 99, 108, 117, 100, 101, 95, 112, 97, 100] : List UInt8)) = false := by rw [beq_lit, hn]; decide
  clear hn
  unfold flagD
  simp only [*, Bool.false_eq_true, ↓reduceIte]

theorem setR_any (op : Int) (a : AttrD) (hL : Legit op a) : SetSaid op a := by
  by_cases e_axis : a.name = ⟨#[97, 120, 105, 115]⟩
  · exact set_r_axis op a e_axis
  by_cases e_alpha : a.name = ⟨#[97, 108, 112, 104, 97]⟩
  · exact set_r_alpha op a e_alpha
  by_cases e_beta : a.name = ⟨#[98, 101, 116, 97]⟩
  · exact set_r_beta op a e_beta
  by_cases e_epsilon : a.name = ⟨#[101, 112, 115, 105, 108, 111, 110]⟩
  · exact set_r_epsilon op a e_epsilon
  by_cases e_to : a.name = ⟨#[116, 111]⟩
  · exact set_r_to op a e_to
  by_cases e_group : a.name = ⟨#[103, 114, 111, 117, 112]⟩
  · exact set_r_group op a e_group
  by_cases e_blocksize : a.name = ⟨#[98, 108, 111, 99, 107, 115, 105, 122, 101]⟩
  · exact set_r_blocksize op a e_blocksize
  by_cases e_start : a.name = ⟨#[115, 116, 97, 114, 116]⟩
  · exact set_r_start op a e_start
  by_cases e_end : a.name = ⟨#[101, 110, 100]⟩
  · exact set_r_end op a e_end
  by_cases e_mode : a.name = ⟨#[109, 111, 100, 101]⟩
  · obtain ⟨m, hm⟩ := hL.mode (.inl e_mode)
    exact set_r_mode op a e_mode m hm
  by_cases e_reduction : a.name = ⟨#[114, 101, 100, 117, 99, 116, 105, 111, 110]⟩
  · obtain ⟨m, hm⟩ := hL.mode (.inr (.inl e_reduction))
    exact set_r_reduction op a e_reduction m hm
  by_cases e_auto_pad : a.name = ⟨#[97, 117, 116, 111, 95, 112, 97, 100]⟩
  · obtain ⟨m, hm⟩ := hL.mode (.inr (.inr e_auto_pad))
    exact set_r_auto_pad op a e_auto_pad m hm
  have f : ∀ l : List UInt8, ¬ a.name = ⟨l.toArray⟩ → (a.name.toList == l) = false := fun l h => by rw [beq_lit]; exact decide_eq_false h
  have f_axis := f [97, 120, 105, 115] e_axis
  have f_alpha := f [97, 108, 112, 104, 97] e_alpha
  have f_beta := f [98, 101, 116, 97] e_beta
  have f_epsilon := f [101, 112, 115, 105, 108, 111, 110] e_epsilon
  have f_to := f [116, 111] e_to
  have f_group := f [103, 114, 111, 117, 112] e_group
  have f_blocksize := f [98, 108, 111, 99, 107, 115, 105, 122, 101] e_blocksize
  have f_start := f [115, 116, 97, 114, 116] e_start
  have f_end := f [101, 110, 100] e_end
  have f_mode := f [109, 111, 100, 101] e_mode
  have f_reduction := f [114, 101, 100, 117, 99, 116, 105, 111, 110] e_reduction
  have f_auto_pad := f [97, 117, 116, 111, 95, 112, 97, 100] e_auto_pad
  refine set_r_default op a hL f_axis f_alpha f_beta f_epsilon f_to f_group f_blocksize f_start f_end f_mode f_reduction f_auto_pad fun s => ?_
  unfold setD listRD numD scalarD
  by_cases hp : Lib.hasPrefix a.name.data.toList sValue = true
  · rw [if_pos hp, if_pos hp]
    have hfl : flagD a.name (a.i == 1) s = s := by
      rcases hL.pre hp with h | h | h | h | h
      · exact flagD_value _ h _ _
      · exact flagD_value_float _ h _ _
      · exact flagD_value_int _ h _ _
      · exact flagD_value_floats _ h _ _
      · exact flagD_value_ints _ h _ _
    rw [hfl]
  · rw [if_neg hp, if_neg hp]
    simp only [*, Bool.false_eq_true, ↓reduceIte]

end Go.Proofs.YtgbkhcmbmffljaaDoor
