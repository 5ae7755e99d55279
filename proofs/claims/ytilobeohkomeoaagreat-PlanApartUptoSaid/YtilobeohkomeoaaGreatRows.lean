/-
  No cell of these rows narrows 'for every input' (looked for: loops, veiled, ifaces, maps, wideKeys, modest, calm, conditions, laid).
  DERIVED. THE GIVEN ROWS OF THIS SEAT. 3 by the template 'for every input the law returns true; each argument reads behind the call as it read before'; 0 by the template 'total and deterministic' (their statements: YtilobeohkomeoaaGreatTotals.lean).
  GIVEN WITH THE SEED: the statements are not yours to turn. If you find one false, say at which input.
  Laid BY PROGRAM, IN A SANDBOX (cutbox-rows.mjs): the forced cells as the released guide's own fill.sh prints them over the translation 8e441731ac7ae1d9… (all of the seat's roots in one cut). By AI agents, Wed Nov 11 2026. No macro, syntax, notation, axiom, sorry.
-/
import Derived.Test.YtilobeohkomeoaaGreatChecked
import GoSem.Claim
import GoSem.ClaimJoined
import GoSem.ClaimMapViews
import Derived.JoinedTies
import Derived.KernelRfl
namespace Go.Proofs.YtilobeohkomeoaaGreat
/- THE CELL 'sum', in the pinned program and in every row, IS THE sha256 OF THE DUMP (.gsa) THAT YtilobeohkomeoaaGreatProg.lean LOADS. Nothing in Lean hashes anything: it is a label: what it is worth is what the hold of that sum in a sandbox is worth. -/
noncomputable def Tryz.pinned : Pinned := { name := "ytilobeohkomeoaagreat", sum := "8e441731ac7ae1d9c9fa63aa753b67ce571d3749cb1bcc114f9efb0122c98ed7", checked := Tryz.checked }
namespace Rows
def none {H : Type} : Left H := { results := [], args := [] }

/-- 'latticelaw20.PlanWhole': WHATEVER THE INPUT: true; the input reads as it did. -/
def planWholeSpec : ChangeSpec := { name := "planWhole", fn := fun _ => fun
  | [d] => { results := [.lit (.bool true)], args := [d] }
  | _ => none }
def planWholeRow : OpenClaim := { program := "ytilobeohkomeoaagreat", sum := "8e441731ac7ae1d9c9fa63aa753b67ce571d3749cb1bcc114f9efb0122c98ed7", func := "lattice/latticelaw20.PlanWhole", spec := "planWhole", unfollowed := true, recurses := true, apart := false }
def PlanWholeSaid : Prop := planWholeRow.holds Tryz.pinned (OpenSpec.ofChange planWholeSpec)

/-- ITS FALSE NEIGHBOUR: 'it returns false'. Refute it at one input. -/
def planWholeWrong : ChangeSpec := { name := "planWhole", fn := fun _ => fun
  | [d] => { results := [.lit (.bool false)], args := [d] }
  | _ => none }
def PlanWholeWrongFalsely : Prop := planWholeRow.holds Tryz.pinned (OpenSpec.ofChange planWholeWrong)

/-- 'latticelaw20.PlanApart': WHATEVER THE INPUT: true; the input reads as it did. -/
def planApartSpec : ChangeSpec := { name := "planApart", fn := fun _ => fun
  | [d1, d2, d3] => { results := [.lit (.bool true)], args := [d1, d2, d3] }
  | _ => none }
def planApartRow : OpenClaim := { program := "ytilobeohkomeoaagreat", sum := "8e441731ac7ae1d9c9fa63aa753b67ce571d3749cb1bcc114f9efb0122c98ed7", func := "lattice/latticelaw20.PlanApart", spec := "planApart", unfollowed := true, recurses := true, apart := false }
def PlanApartSaid : Prop := planApartRow.holds Tryz.pinned (OpenSpec.ofChange planApartSpec)

/-- ITS FALSE NEIGHBOUR: 'it returns false'. Refute it at one input. -/
def planApartWrong : ChangeSpec := { name := "planApart", fn := fun _ => fun
  | [d1, d2, d3] => { results := [.lit (.bool false)], args := [d1, d2, d3] }
  | _ => none }
def PlanApartWrongFalsely : Prop := planApartRow.holds Tryz.pinned (OpenSpec.ofChange planApartWrong)

/-- 'latticelaw20.PlanOrder': WHATEVER THE INPUT: true; the input reads as it did. -/
def planOrderSpec : ChangeSpec := { name := "planOrder", fn := fun _ => fun
  | [d1, d2, d3, d4] => { results := [.lit (.bool true)], args := [d1, d2, d3, d4] }
  | _ => none }
def planOrderRow : OpenClaim := { program := "ytilobeohkomeoaagreat", sum := "8e441731ac7ae1d9c9fa63aa753b67ce571d3749cb1bcc114f9efb0122c98ed7", func := "lattice/latticelaw20.PlanOrder", spec := "planOrder", unfollowed := true, recurses := true, apart := false }
def PlanOrderSaid : Prop := planOrderRow.holds Tryz.pinned (OpenSpec.ofChange planOrderSpec)

/-- ITS FALSE NEIGHBOUR: 'it returns false'. Refute it at one input. -/
def planOrderWrong : ChangeSpec := { name := "planOrder", fn := fun _ => fun
  | [d1, d2, d3, d4] => { results := [.lit (.bool false)], args := [d1, d2, d3, d4] }
  | _ => none }
def PlanOrderWrongFalsely : Prop := planOrderRow.holds Tryz.pinned (OpenSpec.ofChange planOrderWrong)

/- THE SECOND FORM. 'bulk': how many values and letters a reading holds, each counted each time it is reached (what is shared counts as often as it is met; a slice's spare places count too). A statement '..UptoSaid' is the law's where the arguments, and the package variables that the reading takes, are together of bulk at most 1048576: NARROWER than '..Said'. Prove '..Said' where nothing that the law and all that it calls make is longer than what came in: it says more and counts as full. Else prove '..UptoSaid'. A law counts once. -/
mutual
def uptoBulk {H : Type} : DataW H → Nat
  | .lit (.string bytes) => bytes.length + 1
  | .lit _ => 1
  | .nil => 1
  | .ptr d => uptoBulk d + 1
  | .slice elems spare => uptoBulkAll elems + uptoBulkAll spare + 1
  | .agg parts => uptoBulkAll parts + 1
  | .iface _ d => uptoBulk d + 1
  | .map entries => uptoBulkEntries entries + 1
  | .held _ => 1
def uptoBulkAll {H : Type} : List (DataW H) → Nat
  | [] => 0
  | d :: r => uptoBulk d + uptoBulkAll r
def uptoBulkEntries {H : Type} : List (Lit × DataW H) → Nat
  | [] => 0
  | x :: r => uptoBulkEntry x + uptoBulkEntries r
def uptoBulkEntry {H : Type} : Lit × DataW H → Nat
  | (.string bytes, d) => bytes.length + uptoBulk d + 1
  | (_, d) => uptoBulk d + 1
 end
def uptoSmall : (H : Type) → List (DataW H) → Bool := fun _ ds => decide (uptoBulkAll ds ≤ 1048576)
def OpenSpec.upto (s : _root_.Go.ChangeSpec) : _root_.Go.OpenSpec := { _root_.Go.OpenSpec.ofChange s with cond := some uptoSmall }

/-- 'latticelaw20.PlanWhole', WHERE WHAT IT READS IS OF BULK AT MOST 1048576: true; the input reads as it did. -/
def planWholeUptoRow : OpenClaim := { program := "ytilobeohkomeoaagreat", sum := "8e441731ac7ae1d9c9fa63aa753b67ce571d3749cb1bcc114f9efb0122c98ed7", func := "lattice/latticelaw20.PlanWhole", spec := "planWhole", unfollowed := true, recurses := true, apart := false, narrowed := true }
def PlanWholeUptoSaid : Prop := planWholeUptoRow.holds Tryz.pinned (OpenSpec.upto planWholeSpec)

/-- 'latticelaw20.PlanApart', WHERE WHAT IT READS IS OF BULK AT MOST 1048576: true; the input reads as it did. -/
def planApartUptoRow : OpenClaim := { program := "ytilobeohkomeoaagreat", sum := "8e441731ac7ae1d9c9fa63aa753b67ce571d3749cb1bcc114f9efb0122c98ed7", func := "lattice/latticelaw20.PlanApart", spec := "planApart", unfollowed := true, recurses := true, apart := false, narrowed := true }
def PlanApartUptoSaid : Prop := planApartUptoRow.holds Tryz.pinned (OpenSpec.upto planApartSpec)

/-- 'latticelaw20.PlanOrder', WHERE WHAT IT READS IS OF BULK AT MOST 1048576: true; the input reads as it did. -/
def planOrderUptoRow : OpenClaim := { program := "ytilobeohkomeoaagreat", sum := "8e441731ac7ae1d9c9fa63aa753b67ce571d3749cb1bcc114f9efb0122c98ed7", func := "lattice/latticelaw20.PlanOrder", spec := "planOrder", unfollowed := true, recurses := true, apart := false, narrowed := true }
def PlanOrderUptoSaid : Prop := planOrderUptoRow.holds Tryz.pinned (OpenSpec.upto planOrderSpec)

end Rows
end Go.Proofs.YtilobeohkomeoaaGreat
