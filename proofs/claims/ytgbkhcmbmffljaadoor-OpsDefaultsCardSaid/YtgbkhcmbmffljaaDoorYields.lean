/-
  Operations that only reckon or read, as steps of a region that draws its order: what each yields in every world that holds what the region reads.
-/
import Derived.Test.YtgbkhcmbmffljaaDoorBase
import Derived.Deep.RegionHeld3
import Derived.IntWalk
set_option linter.unusedSimpArgs false
set_option linter.unusedVariables false
namespace Go.Proofs.YtgbkhcmbmffljaaDoor
open Go.RowKit
open Rep (rep)
section
variable {P : Program} {ops : Array Oper} {S : World → Prop} {o : Oper} {a : Act}
theorem yields_addI (hw : Region.wanted o (yielded ops a.tmps) = true) (x y : Operand) (t u : TypeId) (ho : o.op = .binOp .add t x y u) (p q : Int) (hx : a.eval x = .int .i64 p) (hy : a.eval y = .int .i64 q)
    (ht : P.underlying t = some (.int .i64)) (h0 : 0 ≤ p) (h1 : 0 ≤ q) (h2 : p + q ≤ 9223372036854775807) : YieldsIf P ops S o (.int .i64 (p + q)) a :=
  .inl ⟨hw, fun w h => by
    unfold execOp
    simp only [ho, hx, hy]
    go_simp
    exact IntWalk.i64_in _ (by omega)⟩
theorem yields_subI (hw : Region.wanted o (yielded ops a.tmps) = true) (x y : Operand) (t u : TypeId) (ho : o.op = .binOp .sub t x y u) (p q : Int) (hx : a.eval x = .int .i64 p) (hy : a.eval y = .int .i64 q)
    (ht : P.underlying t = some (.int .i64)) (h0 : 0 ≤ q) (h1 : q ≤ p) (h2 : p ≤ 9223372036854775807) : YieldsIf P ops S o (.int .i64 (p - q)) a :=
  .inl ⟨hw, fun w h => by
    unfold execOp
    simp only [ho, hx, hy]
    go_simp
    exact IntWalk.i64_in _ (by omega)⟩
theorem yields_remI (hw : Region.wanted o (yielded ops a.tmps) = true) (x y : Operand) (t u : TypeId) (ho : o.op = .binOp .rem t x y u) (p q : Int) (hx : a.eval x = .int .i64 p) (hy : a.eval y = .int .i64 q)
    (ht : P.underlying t = some (.int .i64)) (h0 : 0 ≤ p) (h1 : 0 < q) (h2 : p ≤ 9223372036854775807) (h3 : q ≤ 9223372036854775807) : YieldsIf P ops S o (.int .i64 (p % q)) a :=
  .inl ⟨hw, fun w h => by
    unfold execOp
    simp only [ho, hx, hy]
    go_simp
    rw [if_neg (by omega), Int.tmod_eq_emod_of_nonneg h0]⟩
theorem yields_indexI {e : TypeId} (hw : Region.wanted o (yielded ops a.tmps) = true) (t : TypeId) (x y : Operand) (ho : o.op = .indexAddr t x y) (b f n c i size : Nat) (q : Int) (hx : a.eval x = .slice (some ⟨b, f, none⟩) n c) (hy : a.eval y = .int .i64 q)
    (ht : P.underlying t = some (.slice e)) (hi : (P.info? e).map (·.size) = some size) (hq : q = (i : Int)) (hlt : i < n) : YieldsIf P ops S o (.pointer (some ⟨b, f + i * size, none⟩)) a :=
  .inl ⟨hw, fun w h => by
    subst hq
    have h0 : (0 : Int) ≤ (i : Int) := Int.natCast_nonneg _
    have h1 : (i : Int) < (n : Int) := by omega
    cases hq : P.info? e with
    | none => simp [hq] at hi
    | some j =>
      have hs : j.size = size := by simpa [hq] using hi
      unfold execOp
      simp only [ho, hx, hy]
      go_simp
      simp [sizeOf, typeInfo, hq, hs]⟩
end
end Go.Proofs.YtgbkhcmbmffljaaDoor
