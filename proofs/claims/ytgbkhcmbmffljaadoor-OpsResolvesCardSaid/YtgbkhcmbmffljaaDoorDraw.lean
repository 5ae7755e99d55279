/-
  Operations that only reckon or read, as steps of a region that draws its order: what each yields in every world that holds what the region reads.
  A region that draws its order, by hand: steps that write, one or two of which may come up.
-/
import Derived.Test.YtgbkhcmbmffljaaDoorBase
import Derived.Deep.RegionHeld3
import Derived.IntWalk
import Derived.Test.YtgbkhcmbmffljaaDoorAwake
import Derived.Test.YtgbkhcmbmffljaaDoorResX
set_option linter.unusedSimpArgs false
set_option linter.unusedVariables false
namespace Go.Proofs.YtgbkhcmbmffljaaDoor
open Go.RowKit
open Rep (rep)
section
variable {P : Program} {ops : Array Oper} {S : World → Prop} {o : Oper} {a : Act}
theorem yields_addI (hw : Region.wanted o (yielded ops a.tmps) = true) (x y : Operand) (t u : TypeId) (ho : o.op = .binOp .add t x y u) (p q : Int) (hx : a.eval x = .int .i64 p) (hy : a.eval y = .int .i64 q)
    (ht : P.underlying t = some (.int .i64)) (h0 : 0 ≤ p) (h1 : 0 ≤ q) (h2 : p + q ≤ 9223372036854775807) : YieldsIf P ops S o (.int .i64 (p + q)) a :=
  .inl ⟨hw, fun w h => by
    unfold execOp
    simp only [ho, hx, hy]
    go_simp
    exact IntWalk.i64_in _ (by omega)⟩
theorem yields_subI (hw : Region.wanted o (yielded ops a.tmps) = true) (x y : Operand) (t u : TypeId) (ho : o.op = .binOp .sub t x y u) (p q : Int) (hx : a.eval x = .int .i64 p) (hy : a.eval y = .int .i64 q)
    (ht : P.underlying t = some (.int .i64)) (h0 : 0 ≤ q) (h1 : q ≤ p) (h2 : p ≤ 9223372036854775807) : YieldsIf P ops S o (.int .i64 (p - q)) a :=
  .inl ⟨hw, fun w h => by
    unfold execOp
    simp only [ho, hx, hy]
    go_simp
    exact IntWalk.i64_in _ (by omega)⟩
theorem yields_remI (hw : Region.wanted o (yielded ops a.tmps) = true) (x y : Operand) (t u : TypeId) (ho : o.op = .binOp .rem t x y u) (p q : Int) (hx : a.eval x = .int .i64 p) (hy : a.eval y = .int .i64 q)
    (ht : P.underlying t = some (.int .i64)) (h0 : 0 ≤ p) (h1 : 0 < q) (h2 : p ≤ 9223372036854775807) (h3 : q ≤ 9223372036854775807) : YieldsIf P ops S o (.int .i64 (p % q)) a :=
  .inl ⟨hw, fun w h => by
    unfold execOp
    simp only [ho, hx, hy]
    go_simp
    rw [if_neg (by omega), Int.tmod_eq_emod_of_nonneg h0]⟩
theorem yields_indexI {e : TypeId} (hw : Region.wanted o (yielded ops a.tmps) = true) (t : TypeId) (x y : Operand) (ho : o.op = .indexAddr t x y) (b f n c i size : Nat) (q : Int) (hx : a.eval x = .slice (some ⟨b, f, none⟩) n c) (hy : a.eval y = .int .i64 q)
    (ht : P.underlying t = some (.slice e)) (hi : (P.info? e).map (·.size) = some size) (hq : q = (i : Int)) (hlt : i < n) : YieldsIf P ops S o (.pointer (some ⟨b, f + i * size, none⟩)) a :=
  .inl ⟨hw, fun w h => by
    subst hq
    have h0 : (0 : Int) ≤ (i : Int) := Int.natCast_nonneg _
    have h1 : (i : Int) < (n : Int) := by omega
    cases hq : P.info? e with
    | none => simp [hq] at hi
    | some j =>
      have hs : j.size = size := by simpa [hq] using hi
      unfold execOp
      simp only [ho, hx, hy]
      go_simp
      simp [sizeOf, typeInfo, hq, hs]⟩
end
end Go.Proofs.YtgbkhcmbmffljaaDoor

set_option linter.unusedSimpArgs false
namespace Go.Proofs.YtgbkhcmbmffljaaDoor
open Go.RowKit
open Rep (rep)
theorem lies_own_block (w : World) (cs : List Value) (e : TypeId) : Lies (w.alloc (.cells cs.toArray e)) ⟨fun b => b = w.heap.size, false⟩ (some ⟨w.heap.size, 0, none⟩) cs := fun _ =>
  ⟨w.heap.size, 0, rfl, rfl, fun j u hu => ⟨by rw [cell_of_row _ _ _ _ _ _ (heap_alloc_new w _)]; simpa using hu, fun e => by cases e⟩⟩
section
variable {P : Program} {md : Region.Mode} {ops : Array Oper} {Q : Exit → Act → World → Prop} {S : World → Prop} {fuel : Nat} {listed : Array Bool} {a : Act} {w : World} {o o' : Oper}
/-- The operation runs to a value; what follows. -/
def StepTo (P : Program) (md : Region.Mode) (ops : Array Oper) (Q : Exit → Act → World → Prop) (S : World → Prop) (fuel : Nat) (listed : Array Bool) (i : Nat) (o : Oper) (a : Act) (w : World) : Prop :=
  Region.wanted o (yielded ops a.tmps) = true ∧ ∃ v W, (execOp a.eval o).run P w = .ok (.value v) W ∧ S W ∧ wpAnyH P md ops Q S fuel (listed.setIfInBounds i true) (a.put o.dst v) W
theorem step_to {K : Act → World → Prop} {i : Nat} (h : StepTo P md ops Q S fuel listed i o a w) (hK : Shut (∀ a w, S w → (S w → wpAnyH P md ops Q S fuel (listed.setIfInBounds i true) a w) → K a w)) :
    if Region.wanted o (yielded ops a.tmps) = true then Oper.wp P o a w K Q else K (a.put o.dst undef) w := by
  obtain ⟨hw, v, W, hrun, hS, hk⟩ := h
  rw [if_pos hw]
  unfold Oper.wp
  rw [hrun]
  exact hK.out _ _ hS (fun _ => hk)
theorem anyH_1 (i : Nat) (hio : ops[i]? = some o) (hr : Region.ready md ops listed = [i]) (h : StepTo P md ops Q S fuel listed i o a w) : wpAnyH P md ops Q S (fuel + 1) listed a w :=
  wpAnyH_ready hr (by simp) (AllReadyH.cons hio (fun _ hK => step_to h hK) AllReadyH.nil)
theorem anyH_2 (i j : Nat) (hio : ops[i]? = some o) (hjo : ops[j]? = some o') (hr : Region.ready md ops listed = [i, j]) (h : StepTo P md ops Q S fuel listed i o a w) (h' : StepTo P md ops Q S fuel listed j o' a w) : wpAnyH P md ops Q S (fuel + 1) listed a w :=
  wpAnyH_ready hr (by simp) (AllReadyH.cons hio (fun _ hK => step_to h hK) (AllReadyH.cons hjo (fun _ hK => step_to h' hK) AllReadyH.nil))
/-- A step that only lays a block. -/
theorem steps_lay {i : Nat} (v : Value) (ob : Obj) (hw : Region.wanted o (yielded ops a.tmps) = true) (hl : laySem P (execOp a.eval o) w.heap.size = some (.value v, [ob])) (hS : S (w.alloc ob))
    (h : wpAnyH P md ops Q S fuel (listed.setIfInBounds i true) (a.put o.dst v) (w.alloc ob)) : StepTo P md ops Q S fuel listed i o a w :=
  ⟨hw, v, _, run_lay _ rfl hl, hS, h⟩
/-- 'append'; what is appended may be nothing. -/
theorem steps_append {i : Nat} (hw : Region.wanted o (yielded ops a.tmps) = true) (s x : Operand) (t : TypeId) (ho : o.op = .call { callee := .builtin .append, args := #[s, x], argTypes := #[t, t] })
    (base : Nat) (e : TypeId) (j : TypeInfo) (z : Value) (size bytes : Nat) (ht : P.underlying t = some (.slice e)) (hi : P.info? e = some j) (hz : j.zero = some z)
    (hsize : j.size = size) (hby : j.bytes = bytes) (hzs : z.cells.size = size) (hsz : 0 < size)
    (v : Value) (n : Nat) (xs : List Value) (hs : a.eval s = v) (hown : w.ownsRow base e size v n xs)
    (Z : Zone) (A : Option Addr) (m c : Nat) (news : List Value) (hx : a.eval x = .slice A m c) (hl : news.length = m * size) (hr : Lies w Z A news) (h1 : ∀ u ∈ news, u.oneCell' = true)
    (h63 : n + m ≤ maxLen) (hbytes : (n + m) * bytes ≤ 140737488355328) (hbase : base ≤ w.heap.size)
    (h : ∀ v' w', w'.ownsRow base e size v' (n + m) (xs ++ news) → w.grownBy w' v.ownBlock → S w' ∧ wpAnyH P md ops Q S fuel (listed.setIfInBounds i true) (a.put o.dst v') w') : StepTo P md ops Q S fuel listed i o a w := by
  obtain ⟨v', w', hrun, h2, h3, h4⟩ := run_append_lies (P := P) w base t o.type e j z size bytes ht hi hz hsize hby hzs hsz v n xs hown Z A m c news hl hr h1 h63 hbytes hbase
  refine ⟨hw, v', w', ?_, (h v' w' h2 h3).1, (h v' w' h2 h3).2⟩
  simp [execOp, ho, resolve, invoke, builtin, hs, hx, hrun, Result.andThen]
theorem yields_load_slice {e : TypeId} (hw : Region.wanted o (yielded ops a.tmps) = true) (ty : TypeId) (x : Operand) (ho : o.op = .load ty x) (b f : Nat) (hx : a.eval x = .pointer (some ⟨b, f, none⟩))
    (v : Value) (hu : P.underlying ty = some (.slice e)) (hS : ∀ w, S w → w.cell? ⟨b, f, none⟩ = some v) : YieldsIf P ops S o v a :=
  .inl ⟨hw, fun w h => by
    have hag : (isAgg ty).run P w = .ok false w := by unfold isAgg; rw [Sem.run_bind, run_underlying hu w]; rfl
    unfold execOp
    simp only [ho, hx, Instr.loadAt, Instr.sureAddr, Sem.run_bind, Sem.run_pure, Result.andThen_ok, loadVar, hag]
    simp [hS w h]⟩
theorem anyH_store_field (i : Nat) (hio : ops[i]? = some o) (hr : Region.ready md ops listed = [i])
    (hw : Region.wanted o (yielded ops a.tmps) = true) (ty : TypeId) (x y : Operand) (ho : o.op = .store ty x y)
    (g f : Nat) (v : Value) (hx : a.eval x = .pointer (some ⟨g, f, none⟩)) (hy : a.eval y = v) (h1 : v.oneCell' = true) (hi : (P.info? ty).map (·.size) = some 1)
    (t : TypeId) (cs : List Value) (hg : w.heap[g]? = some (.cells cs.toArray t (0, 0))) (hf : f < cs.length) (hS : S (w.setRow g (cs.set f v).toArray))
    (h : wpAnyH P md ops Q S fuel (listed.setIfInBounds i true) (a.put o.dst undef) (w.setRow g (cs.set f v).toArray)) : wpAnyH P md ops Q S (fuel + 1) listed a w := by
  refine wpAnyH_ready hr (by simp) (AllReadyH.cons hio (fun K hK => ?_) AllReadyH.nil)
  rw [if_pos hw]
  have hst := run_storeCells_at P g f t [v] 0 cs.toArray w hg (by simp; omega) (by intro u hu; simp at hu; subst hu; exact h1)
  simp only [Nat.add_zero, List.length_cons, List.length_nil, Nat.zero_add] at hst
  have hset : cs.take f ++ [v] ++ cs.drop (f + 1) = cs.set f v := by
    rw [List.set_eq_take_append_cons_drop, if_pos hf, List.append_assoc]; rfl
  rw [hset] at hst
  unfold Oper.wp execOp
  cases hq : P.info? ty with
  | none => simp [hq] at hi
  | some i =>
    have hs : i.size = 1 := by simpa [hq] using hi
    have hc : v.cells = #[v] := by cases v <;> first | rfl | cases h1
    have hv : (storeVar ty ⟨g, f, none⟩ v).run P w = .ok () (w.setRow g (cs.set f v).toArray) := by
      simp only [storeVar, sizeOf, typeInfo, Sem.run_bind, hc]
      simp [hq, hs, hst]
    simp only [ho, hx, hy, Instr.storeAt, Instr.sureAddr, Sem.run_bind, Sem.run_pure, Result.andThen_ok, hv]
    exact hK.out _ _ hS (fun _ => h)
theorem attrInfo : (Tryd.prog.info? 52).map (fun i => (i.zero, i.size, i.bytes)) = some (some (.agg zeroA.toArray), 12, 208) := by kernel_rfl
end
end Go.Proofs.YtgbkhcmbmffljaaDoor
