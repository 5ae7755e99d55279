/-
  The reference of chapter 08: names, numbers, arities, rows.
-/
/-
  The reference of chapter 08: may.
-/
import Derived.Test.YtgbkhcmbmffljaaDoorPResB
import Derived.Test.YtgbkhcmbmffljaaDoorPResV
import Derived.Test.YtgbkhcmbmffljaaDoorPOpsB
import Derived.Test.YtgbkhcmbmffljaaDoorPOpsI
import Derived.Test.YtgbkhcmbmffljaaDoorPSame
set_option linter.unusedSimpArgs false
set_option maxRecDepth 100000
namespace Go.Proofs.YtgbkhcmbmffljaaDoor
open Go.RowKit
open Rep (rep)
def AttrRowD.cells (x:AttrRowD):List Value:=[.string x.name,.string x.kind,.bool x.must]
end Go.Proofs.YtgbkhcmbmffljaaDoor
set_option linter.unusedSimpArgs false
set_option linter.unusedVariables false
namespace Go.Proofs.YtgbkhcmbmffljaaDoor
open Go.RowKit
open Rep (rep)
theorem slice_reach {α:Type} [Rep α] {w:World} {Z:Zone} {A:Option Addr} {c:Nat} {l:List α} (h:rep w Z [.slice A l.length c] l):l.length * Rep.bytes α ≤ 140737488351232:=by
 obtain ⟨A',n',c',xs,hv,hn,hnc,hcm,hb,hl,hc⟩:=h
 rw [← hn];exact hb
end Go.Proofs.YtgbkhcmbmffljaaDoor
