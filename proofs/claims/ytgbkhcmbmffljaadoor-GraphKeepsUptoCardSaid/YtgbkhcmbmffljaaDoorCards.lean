/-
  DERIVED. GIVEN WITH THE SEED: THE CARDS: each row of YtgbkhcmbmffljaaDoorRows.lean that lists a variable, with what it lists TIED to the program's text (the seventh form; the later family's looks); each row that meets fmt, with fmt's text TOLD by the authors' own Lean function (tested against real Go, not proved from fmt's source: count such statements apart). THE CARD IS WHAT COUNTS. Prove the row's statement (the work); the ties are given (YtgbkhcmbmffljaaDoorTie.lean); close each card by the builder's one call (the guide's Derived/Test/ToyasCard.lean, 'card_holds'). Laid BY PROGRAM, IN A SANDBOX (cutbox-door.mjs). By AI agents, Wed Nov 11 2026. No macro, syntax, notation, axiom, sorry.
-/
import Derived.Test.YtgbkhcmbmffljaaDoorRows
import GoSem.ClaimSeven
namespace Go.Proofs.YtgbkhcmbmffljaaDoor
namespace Rows

/-- THE TIED CARD OF 'latticelaw08.OpsNames'. -/
def opsNamesCard : Claim7 := { stood := { row := opsNamesRow, standIns := [], harness := (true, "9c05cf6b353c623235d7b8eab513c36f5021a4a8dd1f74e0606c772e4fd705de"), looks := false }, kinds := [], alts := [], laidByText := true, laidKinds := [.listed, .data], laidTests := true, laidLooks := .later }
def OpsNamesCardSaid : Prop := Claim7.holds Tryd.pinned (.plain (OpenSpec.ofChange opsNamesSpec)) opsNamesCard

/-- THE TIED CARD OF 'latticelaw08.OpsResolves'. -/
def opsResolvesCard : Claim7 := { stood := { row := opsResolvesRow, standIns := [], harness := (true, "9c05cf6b353c623235d7b8eab513c36f5021a4a8dd1f74e0606c772e4fd705de"), looks := false }, kinds := [], alts := [], laidByText := true, laidKinds := [.listed, .data], laidTests := true, laidLooks := .later }
def OpsResolvesCardSaid : Prop := Claim7.holds Tryd.pinned (.plain (OpenSpec.ofChange opsResolvesSpec)) opsResolvesCard

/-- THE TIED CARD OF 'latticelaw08.OpsOrder'. -/
def opsOrderCard : Claim7 := { stood := { row := opsOrderRow, standIns := [], harness := (true, "9c05cf6b353c623235d7b8eab513c36f5021a4a8dd1f74e0606c772e4fd705de"), looks := false }, kinds := [], alts := [], laidByText := true, laidKinds := [.listed, .data], laidTests := true, laidLooks := .later }
def OpsOrderCardSaid : Prop := Claim7.holds Tryd.pinned (.plain (OpenSpec.ofChange opsOrderSpec)) opsOrderCard

/-- THE TIED CARD OF 'latticelaw08.OpsLess'. -/
def opsLessCard : Claim7 := { stood := { row := opsLessRow, standIns := [], harness := (true, "9c05cf6b353c623235d7b8eab513c36f5021a4a8dd1f74e0606c772e4fd705de"), looks := false }, kinds := [], alts := [], laidByText := true, laidKinds := [.listed, .data], laidTests := true, laidLooks := .later }
def OpsLessCardSaid : Prop := Claim7.holds Tryd.pinned (.plain (OpenSpec.ofChange opsLessSpec)) opsLessCard

/-- THE TIED CARD OF 'latticelaw08.OpsDefaults'. -/
def opsDefaultsCard : Claim7 := { stood := { row := opsDefaultsRow, standIns := [], harness := (true, "9c05cf6b353c623235d7b8eab513c36f5021a4a8dd1f74e0606c772e4fd705de"), looks := false }, kinds := [], alts := [], laidByText := true, laidKinds := [.listed, .data], laidTests := true, laidLooks := .later }
def OpsDefaultsCardSaid : Prop := Claim7.holds Tryd.pinned (.plain (OpenSpec.ofChange opsDefaultsSpec)) opsDefaultsCard

/-- THE TIED CARD OF 'latticelaw09.GraphTurned'. -/
def graphTurnedCard : Claim7 := { stood := { row := graphTurnedRow, standIns := [], harness := (true, "9c05cf6b353c623235d7b8eab513c36f5021a4a8dd1f74e0606c772e4fd705de"), looks := false }, kinds := [], alts := [], laidByText := true, laidKinds := [.listed, .data], laidTests := true, laidLooks := .later }
def GraphTurnedCardSaid : Prop := Claim7.holds Tryd.pinned (.plain (OpenSpec.ofChange graphTurnedSpec)) graphTurnedCard

/-- THE TIED CARD OF 'latticelaw09.GraphSound'. -/
def graphSoundCard : Claim7 := { stood := { row := graphSoundRow, standIns := [], harness := (true, "9c05cf6b353c623235d7b8eab513c36f5021a4a8dd1f74e0606c772e4fd705de"), looks := false }, kinds := [], alts := [], laidByText := true, laidKinds := [.listed, .data], laidTests := true, laidLooks := .later }
def GraphSoundCardSaid : Prop := Claim7.holds Tryd.pinned (.plain (OpenSpec.ofChange graphSoundSpec)) graphSoundCard

/-- THE TIED CARD OF 'latticelaw09.GraphKeeps'. -/
def graphKeepsCard : Claim7 := { stood := { row := graphKeepsRow, standIns := [], harness := (true, "9c05cf6b353c623235d7b8eab513c36f5021a4a8dd1f74e0606c772e4fd705de"), looks := false }, kinds := [], alts := [], laidByText := true, laidKinds := [.listed, .data], laidTests := true, laidLooks := .later }
def GraphKeepsCardSaid : Prop := Claim7.holds Tryd.pinned (.plain (OpenSpec.ofChange graphKeepsSpec)) graphKeepsCard

/-- THE SECOND FORM's CARD OF 'latticelaw08.OpsNames'. -/
def opsNamesUptoCard : Claim7 := { stood := { row := opsNamesUptoRow, standIns := [], harness := (true, "9c05cf6b353c623235d7b8eab513c36f5021a4a8dd1f74e0606c772e4fd705de"), looks := false }, kinds := [], alts := [], laidByText := true, laidKinds := [.listed, .data], laidTests := true, laidLooks := .later }
def OpsNamesUptoCardSaid : Prop := Claim7.holds Tryd.pinned (.plain (OpenSpec.upto opsNamesSpec)) opsNamesUptoCard

/-- THE SECOND FORM's CARD OF 'latticelaw08.OpsResolves'. -/
def opsResolvesUptoCard : Claim7 := { stood := { row := opsResolvesUptoRow, standIns := [], harness := (true, "9c05cf6b353c623235d7b8eab513c36f5021a4a8dd1f74e0606c772e4fd705de"), looks := false }, kinds := [], alts := [], laidByText := true, laidKinds := [.listed, .data], laidTests := true, laidLooks := .later }
def OpsResolvesUptoCardSaid : Prop := Claim7.holds Tryd.pinned (.plain (OpenSpec.upto opsResolvesSpec)) opsResolvesUptoCard

/-- THE SECOND FORM's CARD OF 'latticelaw08.OpsOrder'. -/
def opsOrderUptoCard : Claim7 := { stood := { row := opsOrderUptoRow, standIns := [], harness := (true, "9c05cf6b353c623235d7b8eab513c36f5021a4a8dd1f74e0606c772e4fd705de"), looks := false }, kinds := [], alts := [], laidByText := true, laidKinds := [.listed, .data], laidTests := true, laidLooks := .later }
def OpsOrderUptoCardSaid : Prop := Claim7.holds Tryd.pinned (.plain (OpenSpec.upto opsOrderSpec)) opsOrderUptoCard

/-- THE SECOND FORM's CARD OF 'latticelaw08.OpsLess'. -/
def opsLessUptoCard : Claim7 := { stood := { row := opsLessUptoRow, standIns := [], harness := (true, "9c05cf6b353c623235d7b8eab513c36f5021a4a8dd1f74e0606c772e4fd705de"), looks := false }, kinds := [], alts := [], laidByText := true, laidKinds := [.listed, .data], laidTests := true, laidLooks := .later }
def OpsLessUptoCardSaid : Prop := Claim7.holds Tryd.pinned (.plain (OpenSpec.upto opsLessSpec)) opsLessUptoCard

/-- THE SECOND FORM's CARD OF 'latticelaw08.OpsDefaults'. -/
def opsDefaultsUptoCard : Claim7 := { stood := { row := opsDefaultsUptoRow, standIns := [], harness := (true, "9c05cf6b353c623235d7b8eab513c36f5021a4a8dd1f74e0606c772e4fd705de"), looks := false }, kinds := [], alts := [], laidByText := true, laidKinds := [.listed, .data], laidTests := true, laidLooks := .later }
def OpsDefaultsUptoCardSaid : Prop := Claim7.holds Tryd.pinned (.plain (OpenSpec.upto opsDefaultsSpec)) opsDefaultsUptoCard

/-- THE SECOND FORM's CARD OF 'latticelaw09.GraphTurned'. -/
def graphTurnedUptoCard : Claim7 := { stood := { row := graphTurnedUptoRow, standIns := [], harness := (true, "9c05cf6b353c623235d7b8eab513c36f5021a4a8dd1f74e0606c772e4fd705de"), looks := false }, kinds := [], alts := [], laidByText := true, laidKinds := [.listed, .data], laidTests := true, laidLooks := .later }
def GraphTurnedUptoCardSaid : Prop := Claim7.holds Tryd.pinned (.plain (OpenSpec.upto graphTurnedSpec)) graphTurnedUptoCard

/-- THE SECOND FORM's CARD OF 'latticelaw09.GraphSound'. -/
def graphSoundUptoCard : Claim7 := { stood := { row := graphSoundUptoRow, standIns := [], harness := (true, "9c05cf6b353c623235d7b8eab513c36f5021a4a8dd1f74e0606c772e4fd705de"), looks := false }, kinds := [], alts := [], laidByText := true, laidKinds := [.listed, .data], laidTests := true, laidLooks := .later }
def GraphSoundUptoCardSaid : Prop := Claim7.holds Tryd.pinned (.plain (OpenSpec.upto graphSoundSpec)) graphSoundUptoCard

/-- THE SECOND FORM's CARD OF 'latticelaw09.GraphKeeps'. -/
def graphKeepsUptoCard : Claim7 := { stood := { row := graphKeepsUptoRow, standIns := [], harness := (true, "9c05cf6b353c623235d7b8eab513c36f5021a4a8dd1f74e0606c772e4fd705de"), looks := false }, kinds := [], alts := [], laidByText := true, laidKinds := [.listed, .data], laidTests := true, laidLooks := .later }
def GraphKeepsUptoCardSaid : Prop := Claim7.holds Tryd.pinned (.plain (OpenSpec.upto graphKeepsSpec)) graphKeepsUptoCard
end Rows
end Go.Proofs.YtgbkhcmbmffljaaDoor
