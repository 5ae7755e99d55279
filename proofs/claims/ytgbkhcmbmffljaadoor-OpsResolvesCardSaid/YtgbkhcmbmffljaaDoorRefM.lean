/-
  A law for a struct built of given fields.
-/
import Derived.Test.YtgbkhcmbmffljaaDoorRefE
import Derived.Test.YtgbkhcmbmffljaaDoorResV
set_option linter.unusedSimpArgs false
namespace Go.Proofs.YtgbkhcmbmffljaaDoor
open Go.RowKit
open Rep (rep)

section
variable {P : Program}
/-- A struct built of given fields. -/
theorem wpList_buildL {ops : Array Oper} {rest : List Oper} {o : Oper} {a : Act} {w : World} {Q : Exit → Act → World → Prop} (hgd : o.guard = none) (ty : TypeId) (fs : Array (Nat × Operand)) (ho : o.op = .build ty fs)
    (vs : Array (Nat × Value)) (hv : (fs.map fun (i, x) => (i, a.eval x)) = vs) (cs : List Value) (hb : (Instr.build ty vs).run P w = .ok (.agg cs.toArray) w)
    (h : wpList P ops Q rest (a.put o.dst (.agg cs.toArray)) w) : wpList P ops Q (o :: rest) a w :=
  wpList_plain hgd fun _ hK => by
    unfold Oper.wp execOp
    simp only [ho, hv, Sem.run_bind, Sem.run_pure, Result.andThen_ok, hb]
    exact hK _ _ h
end


end Go.Proofs.YtgbkhcmbmffljaaDoor
