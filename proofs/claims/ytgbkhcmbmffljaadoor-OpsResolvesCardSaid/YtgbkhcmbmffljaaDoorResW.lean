/-
  Where 'Resolve' stands: the node in its box, the answer's setting; the ways out with an error.
-/
import Derived.Test.YtgbkhcmbmffljaaDoorRes
import Derived.Test.YtgbkhcmbmffljaaDoorOpsB
import Derived.Test.YtgbkhcmbmffljaaDoorAid
import Derived.Test.YtgbkhcmbmffljaaDoorOpsJ
set_option linter.unusedSimpArgs false
namespace Go.Proofs.YtgbkhcmbmffljaaDoor
open Go.RowKit
open Rep (rep)

structure ResInv (w : World) (cs : List Value) (W : World) : Prop where
  below : Below w.heap.size w W
  node : W.heap[w.heap.size]? = some (.cells cs.toArray 36 (0, 0))
  res : Sets W (w.heap.size + 1) zeroS
section
variable {w W W' : World} {cs : List Value}
theorem ResInv.lt (h : ResInv w cs W) : w.heap.size + 1 < W.heap.size := h.res.lt
theorem ResInv.next (h : ResInv w cs W) (hb : Below W.heap.size W W') : ResInv w cs W' :=
  ⟨h.below.trans (hb.mono (by have := h.lt; omega)), (hb.block _ (by have := h.lt; omega)).trans h.node, h.res.below hb⟩
theorem ResInv.grown {r : Option Nat} (h : ResInv w cs W) (hg : W.grownBy W' r) (hr : ∀ g, r = some g → w.heap.size + 2 ≤ g) : ResInv w cs W' := by
  have hlt := h.lt
  have hn : ∀ k, k < w.heap.size + 2 → some k ≠ r := fun k hk e => by have := hr k e.symm; omega
  refine ⟨h.below.grown hg (by omega) (fun g e => by have := hr g e; omega), (hg.block _ (by omega) (hn _ (by omega))).trans h.node, ⟨(hg.block _ hlt (hn _ (by omega))).trans h.res.at', h.res.len⟩⟩
theorem ResInv.alloc (h : ResInv w cs W) (o : Obj) : ResInv w cs (W.alloc o) := h.next ((Below.refl _ _).alloc (Nat.le_refl _) o)
theorem ResInv.drew (h : ResInv w cs W) : ResInv w cs W.drew := ⟨h.below.drew, h.node, ⟨h.res.at', h.res.len⟩⟩
theorem ResInv.keeps (h : ResInv w cs W) {α : Type} [Rep α] {c : List Value} {a : α} (hr : rep w (old w.heap.size) c a) : rep W (old w.heap.size) c a := Rep.keep hr (Keeps.old_below h.below (Nat.le_refl _))
theorem ResInv.keeps' (h : ResInv w cs W) {α : Type} [Rep α] {c : List Value} {a : α} (hr : rep w (old w.heap.size) c a) : rep W (old W.heap.size) c a := Rep.more (h.keeps hr) (old_le (by have := h.lt; omega))
theorem ResInv.at (h : ResInv w cs W) : At W w.heap.size 0 cs := At.of_row h.node
theorem res_start (w : World) (cs : List Value) : ResInv w cs ((w.alloc (.cells cs.toArray 36)).alloc (.cells zeroS.toArray 45)) := by
  have h1 := heap_alloc_new (w.alloc (.cells cs.toArray 36)) (.cells zeroS.toArray 45)
  rw [World.size_alloc] at h1
  exact ⟨((Below.refl _ _).alloc (Nat.le_refl _) _).alloc (by simp) _, (Below.heap_alloc _ _ _ (by simp)).trans (heap_alloc_new _ _), ⟨h1, rfl⟩⟩
theorem full_row (cs : List Value) (h : cs.length = 36) : zeroS.take 0 ++ cs ++ zeroS.drop (0 + cs.length) = cs := by
  rw [List.take_zero, List.nil_append, Nat.zero_add, List.drop_of_length_le (by rw [h, zeroS_len]; exact Nat.le_refl _), List.append_nil]
theorem ResInv.out (h : ResInv w cs W) (ss : List Value) (hl : ss.length = 36) :
    (W.setRow (w.heap.size + 1) (zeroS.take 0 ++ ss ++ zeroS.drop (0 + ss.length)).toArray).heap[w.heap.size + 1]? = some (.cells ss.toArray 45 (0, 0)) ∧
    Below w.heap.size w (W.setRow (w.heap.size + 1) (zeroS.take 0 ++ ss ++ zeroS.drop (0 + ss.length)).toArray) := by
  rw [full_row ss hl]
  exact ⟨heap_setRow _ _ _ _ _ h.res.at', below_setRow' h.below (by omega) _⟩
end
theorem results_tct {P : Program} {fn : Func} {p q r : Tmp} {ty : TypeId} (h : fn.results = #[.tmp q, .cell p ty, .tmp r]) (tmps : Array Value) (w : World) (g : Nat) (t : TypeId) (cs : Array Value) (fr : Nat × Nat) (d : TypeDesc) (v1 v2 : Value)
    (hq : tmps.getD q undef = v1) (hr : tmps.getD r undef = v2) (hp : tmps.getD p undef = .pointer (some ⟨g, 0, none⟩)) (hg : w.heap[g]? = some (.cells cs t fr))
    (hu : P.underlying ty = some d) (hd : (match d with | .struct _ | .array _ _ => true | _ => false) = true) (hi : (P.info? ty).map (·.size) = some cs.size) :
    (results fn tmps).run P w = .ok (.tuple #[v1, .agg cs, v2]) w := by
  have hp' : tmps[p]?.getD undef = .pointer (some ⟨g, 0, none⟩) := by simpa using hp
  have hq' : tmps[q]?.getD undef = v1 := by simpa using hq
  have hr' : tmps[r]?.getD undef = v2 := by simpa using hr
  simp [results, h, hp', hq', hr', asAddr, run_loadVar_row w g t ty cs fr d hg hu hd hi]
/-- What is said of an answer. -/
def AnswerD (w : World) (op : Int) (s : SettingD) (x : Int) (e : Ending) (w' : World) : Prop :=
  ∃ ss : List Value, e = .returned (.tuple #[.int .i64 op, .agg ss.toArray, .int .i64 x]) ∧ SettingDAt w' (fresh w.heap.size w'.heap.size) ss s ∧ Below w.heap.size w w'
theorem number_bd (name : ByteArray) : 0 ≤ numberD name ∧ numberD name ≤ 80 := by
  have := indexFrom_bd (fun r : RowD => decide (r.name = name)) tableD 0
  rw [tableD_len] at this
  unfold numberD
  omega
theorem number_I64 (name : ByteArray) : I64 (numberD name) := by have := number_bd name; unfold I64; omega

theorem row_zero : (Tryd.prog.info? 79).bind (·.zero) = some (.agg noRow.cells.toArray) := by kernel_rfl
/-- .. and the operator's row in block b. -/
structure RowInv (w : World) (cs : List Value) (b : Nat) (r : RowD) (W : World) : Prop where
  inv : ResInv w cs W
  row : W.heap[b]? = some (.cells r.cells.toArray 79 (0, 0))
  ge : w.heap.size + 2 ≤ b
section
variable {w W W' : World} {cs : List Value} {b : Nat} {r : RowD}
theorem RowInv.lt (h : RowInv w cs b r W) : b < W.heap.size := (Array.getElem?_eq_some_iff.1 h.row).1
theorem RowInv.next (h : RowInv w cs b r W) (hb : Below W.heap.size W W') : RowInv w cs b r W' := ⟨h.inv.next hb, (hb.block _ h.lt).trans h.row, h.ge⟩
theorem RowInv.grown (h : RowInv w cs b r W) {q : Option Nat} (hg : W.grownBy W' q) (hr : ∀ g, q = some g → b < g) : RowInv w cs b r W' :=
  ⟨h.inv.grown hg (fun g e => by have := hr g e; have := h.ge; omega), (hg.block _ h.lt (fun e => by have := hr b e.symm; omega)).trans h.row, h.ge⟩
theorem RowInv.alloc (h : RowInv w cs b r W) (o : Obj) : RowInv w cs b r (W.alloc o) := h.next ((Below.refl _ _).alloc (Nat.le_refl _) o)
theorem RowInv.drew (h : RowInv w cs b r W) : RowInv w cs b r W.drew := ⟨h.inv.drew, h.row, h.ge⟩
theorem res_row (h : ResInv w cs W) (r : RowD) : RowInv w cs W.heap.size r ((W.alloc (.cells noRow.cells.toArray 79)).setRow W.heap.size (noRow.cells.take 0 ++ r.cells ++ noRow.cells.drop (0 + r.cells.length)).toArray) := by
  have e : noRow.cells.take 0 ++ r.cells ++ noRow.cells.drop (0 + r.cells.length) = r.cells := by simp [RowD.cells]
  rw [e]
  exact ⟨h.next (below_setRow' ((Below.refl _ _).alloc (Nat.le_refl _) _) (Nat.le_refl _) _), heap_setRow _ _ _ _ _ (heap_alloc_new _ _), h.lt⟩
end

set_option maxRecDepth 100000 in
set_option maxHeartbeats 2000000 in
theorem resolve_0 (cs : List Value) (n : NodeD) (w : World) (hr : rep w (old w.heap.size) cs n) (h0 : numberD n.op = 0) :
    Calls Tryd.prog 20 #[.agg cs.toArray] w (AnswerD w 0 settingD0 7) := by
  obtain ⟨A1, k1, A2, k2, A3, k3, rfl, g0, g1, hi, ho, ha⟩ := open_NodeD hr
  have HR := Lib.hid h0
  clear hr hi ho ha g0 g1 h0
  go_enter Tryd.func20, Tryd.ntmps20
  go_wp2_with (first
    | (with_reducible refine wpList_alloc_row rfl 45 rfl zeroS zeroS_zero ?_; have hI := res_start w [.string n.op, .string n.name, .slice A1 n.ins.length k1, .slice A2 n.outs.length k2, .slice A3 n.attrs.length k3]; generalize World.alloc _ (.cells zeroS.toArray _) = W0 at hI ⊢; have HI := Lib.hid hI; clear hI; have c0 : W0.cell? ⟨w.heap.size, 0, none⟩ = some (.string n.op) := cell_of_row _ _ _ _ _ _ HI.out.node))
  refine (number_any n.op _).mono ?_
  rw [HR.out]
  rintro e w1 ⟨rfl, hb⟩
  have HI1 := Lib.hid (HI.out.next hb)
  clear hb c0
  go_wp2_with (first
    | (with_reducible refine wpList_build0 rfl 45 rfl zeroS (zeroS_build _) ?_)
    | (with_reducible refine wpList_store_agg rfl 45 _ _ rfl (w.heap.size + 1) 0 zeroS rfl rfl 45 zeroS HI1.out.res.at' (by kernel_rfl) (by decide) zeroS_one ?_))
  obtain ⟨ho, hbo⟩ := HI1.out.out zeroS zeroS_len
  refine bodyPost_ret (results_tct rfl _ _ (w.heap.size + 1) 45 _ (0, 0) _ (.int .i64 0) (.int .i64 7) rfl rfl rfl ho Tryd.underlying45 rfl (by kernel_rfl)) rfl ⟨_, rfl, zeroS_rep _ _, hbo⟩

set_option maxRecDepth 100000 in
set_option maxHeartbeats 2000000 in
theorem resolve_1 (cs : List Value) (n : NodeD) (w : World) (hr : rep w (old w.heap.size) cs n) (h0 : numberD n.op ≠ 0) (h1 : countsD (findD (numberD n.op)) n = false) :
    Calls Tryd.prog 20 #[.agg cs.toArray] w (AnswerD w 0 settingD0 1) := by
  have hrn := hr
  obtain ⟨A1, k1, A2, k2, A3, k3, rfl, g0, g1, hi, ho, ha⟩ := open_NodeD hr
  have hI := number_I64 n.op
  obtain ⟨op, hop⟩ : ∃ op, numberD n.op = op := ⟨_, rfl⟩
  rw [hop] at h0 h1 hI
  have hz : (findD op).cells = [.string (findD op).name, .int .i64 (findD op).least, .int .i64 (findD op).most, .int .i64 (findD op).out, .int .i64 (findD op).mostOuts, .string (findD op).attrs] := rfl
  have hok : 0 ≤ (findD op).least := by have := findD_ok op; unfold rowOk at this; simp only [Bool.and_eq_true, decide_eq_true_eq] at this; exact this.2
  have HR := Lib.hid (And.intro hop (And.intro hI (And.intro h1 (And.intro hrn hok))))
  clear hr hi ho ha g0 g1 h1 hop hI hrn hok hz
  go_enter Tryd.func20, Tryd.ntmps20
  go_wp2_with (first
    | (with_reducible refine wpList_alloc_row rfl 45 rfl zeroS zeroS_zero ?_; have hI := res_start w [.string n.op, .string n.name, .slice A1 n.ins.length k1, .slice A2 n.outs.length k2, .slice A3 n.attrs.length k3]; generalize World.alloc _ (.cells zeroS.toArray _) = W0 at hI ⊢; have HI := Lib.hid hI; clear hI; have c0 : W0.cell? ⟨w.heap.size, 0, none⟩ = some (.string n.op) := cell_of_row _ _ _ _ _ _ HI.out.node))
  refine (number_any n.op _).mono ?_
  rw [HR.out.1]
  rintro e w1 ⟨rfl, hb⟩
  have HI1 := Lib.hid (HI.out.next hb)
  clear hb c0
  go_wp2_with fail
  refine (find_any op _ HR.out.2.1).mono ?_
  rintro e w2 ⟨rfl, hb⟩
  have HI2 := Lib.hid (HI1.out.next hb)
  clear hb
  obtain ⟨r, hr⟩ : ∃ r, findD op = r := ⟨_, rfl⟩
  have HR2 := HR
  rw [hr] at HR2 ⊢
  clear hr HR
  go_wp2_with (first
    | (with_reducible refine wpList_alloc_row rfl 79 rfl noRow.cells row_zero ?_)
    | (with_reducible refine wpList_store_agg rfl 79 _ _ rfl _ 0 r.cells rfl rfl 79 noRow.cells (heap_alloc_new _ _) (by kernel_rfl) (by rw [RowD.cells_len, RowD.cells_len]; omega) r.one ?_; have hI := res_row HI2.out r; generalize World.setRow _ _ _ = w3 at hI ⊢; have HI3 := Lib.hid hI; clear hI)
    | (with_reducible refine wpList_load_agg rfl 79 _ rfl _ _ _ rfl r.cells Tryd.underlying79 rfl (by kernel_rfl) (At.of_row HI3.out.row) ?_)
    | (with_reducible refine wpList_load_agg rfl 36 _ rfl _ _ _ rfl [.string n.op, .string n.name, .slice A1 n.ins.length k1, .slice A2 n.outs.length k2, .slice A3 n.attrs.length k3] Tryd.underlying36 rfl (by kernel_rfl) HI3.out.inv.at ?_))
  refine (counts_any r HR2.out.2.2.2.2 _ n _ (HI3.out.inv.keeps' HR2.out.2.2.2.1)).mono ?_
  rw [HR2.out.2.2.1]
  rintro e w4 ⟨rfl, hb⟩
  have HI4 := Lib.hid (HI3.out.inv.next hb)
  clear hb
  go_wp2_with (first
    | (with_reducible refine wpList_build0 rfl 45 rfl zeroS (zeroS_build _) ?_)
    | (with_reducible refine wpList_store_agg rfl 45 _ _ rfl (w.heap.size + 1) 0 zeroS rfl rfl 45 zeroS HI4.out.res.at' (by kernel_rfl) (by decide) zeroS_one ?_))
  obtain ⟨ho, hbo⟩ := HI4.out.out zeroS zeroS_len
  refine bodyPost_ret (results_tct rfl _ _ (w.heap.size + 1) 45 _ (0, 0) _ (.int .i64 0) (.int .i64 1) rfl rfl rfl ho Tryd.underlying45 rfl (by kernel_rfl)) rfl ⟨_, rfl, zeroS_rep _ _, hbo⟩
end Go.Proofs.YtgbkhcmbmffljaaDoor
