/-
  Laws for a struct in a block of the call's own, field by field; lists that are copied.
-/
import Derived.Test.YtgbkhcmbmffljaaDoorData
namespace Go.Proofs.YtgbkhcmbmffljaaDoor
open Go.RowKit
open Rep (rep)

/-- What holds of a datum whatever the world (no address in it). -/
class Flat (α : Type) extends Rep α where
  any : ∀ {w w' : World} {Z Z' : Zone} {cs : List Value} {a : α}, Rep.rep w Z cs a → Rep.rep w' Z' cs a
instance : Flat Int := { any := fun h => h }
instance : Flat Nat := { any := fun h => h }
instance : Flat Bool := { any := fun h => h }
instance : Flat ByteArray := { any := fun h => h }
theorem Chunks.any {α : Type} [Flat α] {w w' : World} {Z Z' : Zone} : ∀ {l : List α} {xs : List Value}, Chunks w Z xs l → Chunks w' Z' xs l
  | [], _, h => h
  | _ :: _, _, ⟨c, r, hx, hc, hr⟩ => ⟨c, r, hx, Flat.any hc, Chunks.any hr⟩

theorem rep_nil {α : Type} [Rep α] (w : World) (Z : Zone) : rep w Z [.slice none 0 0] ([] : List α) := ⟨none, 0, 0, [], rfl, rfl, Nat.le_refl _, Nat.zero_le _, by simp [reach], Lies.nil _ _ _, rfl⟩

section
variable {P : Program}
/-- A field of one cell, stored. -/
theorem wpList_store_field {ops : Array Oper} {rest : List Oper} {o : Oper} {a : Act} {w : World} {Q : Exit → Act → World → Prop} (hgd : o.guard = none) (ty : TypeId) (x y : Operand) (ho : o.op = .store ty x y)
    (g f : Nat) (v : Value) (hx : a.eval x = .pointer (some ⟨g, f, none⟩)) (hy : a.eval y = v) (h1 : v.oneCell' = true) (hi : (P.info? ty).map (·.size) = some 1)
    (t : TypeId) (cs : List Value) (hg : w.heap[g]? = some (.cells cs.toArray t (0, 0))) (hf : f < cs.length)
    (h : wpList P ops Q rest (a.put o.dst undef) (w.setRow g (cs.set f v).toArray)) : wpList P ops Q (o :: rest) a w :=
  wpList_plain hgd fun _ hK => by
    have hst := run_storeCells_at P g f t [v] 0 cs.toArray w hg (by simp; omega) (by intro u hu; simp at hu; subst hu; exact h1)
    simp only [Nat.add_zero, List.length_cons, List.length_nil, Nat.zero_add] at hst
    have hset : cs.take f ++ [v] ++ cs.drop (f + 1) = cs.set f v := by
      rw [List.set_eq_take_append_cons_drop, if_pos hf, List.append_assoc]; rfl
    rw [hset] at hst
    unfold Oper.wp execOp
    cases hq : P.info? ty with
    | none => simp [hq] at hi
    | some i =>
      have hs : i.size = 1 := by simpa [hq] using hi
      have hc : v.cells = #[v] := by cases v <;> first | rfl | cases h1
      have hv : (storeVar ty ⟨g, f, none⟩ v).run P w = .ok () (w.setRow g (cs.set f v).toArray) := by
        simp only [storeVar, sizeOf, typeInfo, Sem.run_bind, hc]
        simp [hq, hs, hst]
      simp only [ho, hx, hy, Instr.storeAt, Instr.sureAddr, Sem.run_bind, Sem.run_pure, Result.andThen_ok, hv]
      exact hK _ _ h
/-- A new variable. -/
theorem wpList_alloc_row {ops : Array Oper} {rest : List Oper} {o : Oper} {a : Act} {w : World} {Q : Exit → Act → World → Prop} (hgd : o.guard = none) (ty : TypeId) (ho : o.op = .alloc ty)
    (cs : List Value) (hz : (P.info? ty).bind (·.zero) = some (.agg cs.toArray))
    (h : wpList P ops Q rest (a.put o.dst (.pointer (some ⟨w.heap.size, 0, none⟩))) (w.alloc (.cells cs.toArray ty))) : wpList P ops Q (o :: rest) a w :=
  wpList_plain hgd fun _ hK => by
    unfold Oper.wp execOp
    cases hq : P.info? ty with
    | none => simp [hq] at hz
    | some i =>
      have hs : i.zero = some (.agg cs.toArray) := by simpa [hq] using hz
      have hrun : (Instr.alloc ty true (.tuple #[])).run P w = .ok (.pointer (some ⟨w.heap.size, 0, none⟩)) (w.alloc (.cells cs.toArray ty)) := by
        simp [Instr.alloc, zeroValue, typeInfo, hq, hs, newVar, newRow, Value.cells]
      simp only [ho, Sem.run_bind, Sem.run_pure, Result.andThen_ok, hrun]
      exact hK _ _ h
/-- A struct boxed. -/
theorem wpList_box_row {ops : Array Oper} {rest : List Oper} {o : Oper} {a : Act} {w : World} {Q : Exit → Act → World → Prop} (hgd : o.guard = none) (ty : TypeId) (x : Operand) (ho : o.op = .box ty x)
    (cs : List Value) (hx : a.eval x = .agg cs.toArray)
    (h : wpList P ops Q rest (a.put o.dst (.pointer (some ⟨w.heap.size, 0, none⟩))) (w.alloc (.cells cs.toArray ty))) : wpList P ops Q (o :: rest) a w :=
  wpList_plain hgd fun _ hK => by
    unfold Oper.wp execOp
    have hrun : (Instr.box ty (.agg cs.toArray)).run P w = .ok (.pointer (some ⟨w.heap.size, 0, none⟩)) (w.alloc (.cells cs.toArray ty)) := by
      simp [Instr.box, newVar, newRow, Value.cells]
    simp only [ho, hx, Sem.run_bind, Sem.run_pure, Result.andThen_ok, hrun]
    exact hK _ _ h
end

end Go.Proofs.YtgbkhcmbmffljaaDoor
