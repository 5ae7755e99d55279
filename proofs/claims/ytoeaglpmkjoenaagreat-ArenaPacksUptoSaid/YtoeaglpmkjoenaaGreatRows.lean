/-
  No cell of these rows narrows 'for every input' (looked for: loops, veiled, ifaces, maps, wideKeys, modest, calm, conditions, laid).
  DERIVED. THE GIVEN ROWS OF THIS SEAT. 2 by the template 'for every input the law returns true; each argument reads behind the call as it read before'; 0 by the template 'total and deterministic' (their statements: YtoeaglpmkjoenaaGreatTotals.lean).
  GIVEN WITH THE SEED: the statements are not yours to turn. If you find one false, say at which input.
  Laid BY PROGRAM, IN A SANDBOX (cutbox-rows.mjs): the forced cells as the released guide's own fill.sh prints them over the translation 70d25b9503c0a6a7… (all of the seat's roots in one cut). By AI agents, Wed Nov 11 2026. No macro, syntax, notation, axiom, sorry.
-/
import Derived.Test.YtoeaglpmkjoenaaGreatChecked
import GoSem.Claim
import GoSem.ClaimJoined
import GoSem.ClaimMapViews
import Derived.JoinedTies
import Derived.KernelRfl
namespace Go.Proofs.YtoeaglpmkjoenaaGreat
/- THE CELL 'sum', in the pinned program and in every row, IS THE sha256 OF THE DUMP (.gsa) THAT YtoeaglpmkjoenaaGreatProg.lean LOADS. Nothing in Lean hashes anything: it is a label: what it is worth is what the hold of that sum in a sandbox is worth. -/
noncomputable def Tryz.pinned : Pinned := { name := "ytoeaglpmkjoenaagreat", sum := "70d25b9503c0a6a746df2a5aaddf8a430db4cb269d1c0016084f4b7e7e24f350", checked := Tryz.checked }
namespace Rows
def none {H : Type} : Left H := { results := [], args := [] }

/-- 'latticelaw21.ArenaPacks': WHATEVER THE INPUT: true; the input reads as it did. -/
def arenaPacksSpec : ChangeSpec := { name := "arenaPacks", fn := fun _ => fun
  | [d1, d2] => { results := [.lit (.bool true)], args := [d1, d2] }
  | _ => none }
def arenaPacksRow : OpenClaim := { program := "ytoeaglpmkjoenaagreat", sum := "70d25b9503c0a6a746df2a5aaddf8a430db4cb269d1c0016084f4b7e7e24f350", func := "lattice/latticelaw21.ArenaPacks", spec := "arenaPacks", unfollowed := true, recurses := true, apart := false }
def ArenaPacksSaid : Prop := arenaPacksRow.holds Tryz.pinned (OpenSpec.ofChange arenaPacksSpec)

/-- ITS FALSE NEIGHBOUR: 'it returns false'. Refute it at one input. -/
def arenaPacksWrong : ChangeSpec := { name := "arenaPacks", fn := fun _ => fun
  | [d1, d2] => { results := [.lit (.bool false)], args := [d1, d2] }
  | _ => none }
def ArenaPacksWrongFalsely : Prop := arenaPacksRow.holds Tryz.pinned (OpenSpec.ofChange arenaPacksWrong)

/-- 'latticelaw21.ArenaHolds': WHATEVER THE INPUT: true; the input reads as it did. -/
def arenaHoldsSpec : ChangeSpec := { name := "arenaHolds", fn := fun _ => fun
  | [d1, d2, d3] => { results := [.lit (.bool true)], args := [d1, d2, d3] }
  | _ => none }
def arenaHoldsRow : OpenClaim := { program := "ytoeaglpmkjoenaagreat", sum := "70d25b9503c0a6a746df2a5aaddf8a430db4cb269d1c0016084f4b7e7e24f350", func := "lattice/latticelaw21.ArenaHolds", spec := "arenaHolds", unfollowed := true, recurses := true, apart := false }
def ArenaHoldsSaid : Prop := arenaHoldsRow.holds Tryz.pinned (OpenSpec.ofChange arenaHoldsSpec)

/-- ITS FALSE NEIGHBOUR: 'it returns false'. Refute it at one input. -/
def arenaHoldsWrong : ChangeSpec := { name := "arenaHolds", fn := fun _ => fun
  | [d1, d2, d3] => { results := [.lit (.bool false)], args := [d1, d2, d3] }
  | _ => none }
def ArenaHoldsWrongFalsely : Prop := arenaHoldsRow.holds Tryz.pinned (OpenSpec.ofChange arenaHoldsWrong)

/- THE SECOND FORM. 'bulk': how many values and letters a reading holds, each counted each time it is reached (what is shared counts as often as it is met; a slice's spare places count too). A statement '..UptoSaid' is the law's where the arguments, and the package variables that the reading takes, are together of bulk at most 1048576: NARROWER than '..Said'. Prove '..Said' where nothing that the law and all that it calls make is longer than what came in: it says more and counts as full. Else prove '..UptoSaid'. A law counts once. -/
mutual
def uptoBulk {H : Type} : DataW H → Nat
  | .lit (.string bytes) => bytes.length + 1
  | .lit _ => 1
  | .nil => 1
  | .ptr d => uptoBulk d + 1
  | .slice elems spare => uptoBulkAll elems + uptoBulkAll spare + 1
  | .agg parts => uptoBulkAll parts + 1
  | .iface _ d => uptoBulk d + 1
  | .map entries => uptoBulkEntries entries + 1
  | .held _ => 1
def uptoBulkAll {H : Type} : List (DataW H) → Nat
  | [] => 0
  | d :: r => uptoBulk d + uptoBulkAll r
def uptoBulkEntries {H : Type} : List (Lit × DataW H) → Nat
  | [] => 0
  | x :: r => uptoBulkEntry x + uptoBulkEntries r
def uptoBulkEntry {H : Type} : Lit × DataW H → Nat
  | (.string bytes, d) => bytes.length + uptoBulk d + 1
  | (_, d) => uptoBulk d + 1
 end
def uptoSmall : (H : Type) → List (DataW H) → Bool := fun _ ds => decide (uptoBulkAll ds ≤ 1048576)
def OpenSpec.upto (s : _root_.Go.ChangeSpec) : _root_.Go.OpenSpec := { _root_.Go.OpenSpec.ofChange s with cond := some uptoSmall }

/-- 'latticelaw21.ArenaPacks', WHERE WHAT IT READS IS OF BULK AT MOST 1048576: true; the input reads as it did. -/
def arenaPacksUptoRow : OpenClaim := { program := "ytoeaglpmkjoenaagreat", sum := "70d25b9503c0a6a746df2a5aaddf8a430db4cb269d1c0016084f4b7e7e24f350", func := "lattice/latticelaw21.ArenaPacks", spec := "arenaPacks", unfollowed := true, recurses := true, apart := false, narrowed := true }
def ArenaPacksUptoSaid : Prop := arenaPacksUptoRow.holds Tryz.pinned (OpenSpec.upto arenaPacksSpec)

/-- 'latticelaw21.ArenaHolds', WHERE WHAT IT READS IS OF BULK AT MOST 1048576: true; the input reads as it did. -/
def arenaHoldsUptoRow : OpenClaim := { program := "ytoeaglpmkjoenaagreat", sum := "70d25b9503c0a6a746df2a5aaddf8a430db4cb269d1c0016084f4b7e7e24f350", func := "lattice/latticelaw21.ArenaHolds", spec := "arenaHolds", unfollowed := true, recurses := true, apart := false, narrowed := true }
def ArenaHoldsUptoSaid : Prop := arenaHoldsUptoRow.holds Tryz.pinned (OpenSpec.upto arenaHoldsSpec)

end Rows
end Go.Proofs.YtoeaglpmkjoenaaGreat
