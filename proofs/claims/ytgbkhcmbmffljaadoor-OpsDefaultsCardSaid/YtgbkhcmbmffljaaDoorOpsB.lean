/-
  A part of the proofs of chapter 08: walks of the package ops. No condition.
-/
import Derived.Test.YtgbkhcmbmffljaaDoorRows
import Derived.Test.YtgbkhcmbmffljaaDoorOpsT
import Derived.Test.YtgbkhcmbmffljaaDoorLay
namespace Go.Proofs.YtgbkhcmbmffljaaDoor
open Go.RowKit
open Rep (rep)

theorem each_lay (n : Nat) : layCall Tryd.prog 66 #[] n = some (.slice (some ⟨n, 0, none⟩) 44 44, [.cells (eachD.flatMap RowD.cells).toArray 79]) := by kernel_rfl
theorem moves_lay (n : Nat) : layCall Tryd.prog 67 #[] n = some (.slice (some ⟨n, 0, none⟩) 20 20, [.cells (movesD.flatMap RowD.cells).toArray 79]) := by kernel_rfl
theorem others_lay (n : Nat) : layCall Tryd.prog 68 #[] n = some (.slice (some ⟨n, 0, none⟩) 16 16, [.cells (othersD.flatMap RowD.cells).toArray 79]) := by kernel_rfl
end Go.Proofs.YtgbkhcmbmffljaaDoor
