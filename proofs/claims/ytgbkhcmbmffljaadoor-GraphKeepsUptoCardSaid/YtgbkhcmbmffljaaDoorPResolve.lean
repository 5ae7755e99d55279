/-
  'Resolve' of any node.
-/
import Derived.Test.YtgbkhcmbmffljaaDoorPResX
namespace Go.Proofs.YtgbkhcmbmffljaaDoor
open Go.RowKit
open Rep (rep)
theorem resolve_any (cs:List Value) (n:NodeD) (w:World) (ht:Tab w) (hr:rep w (old w.heap.size) cs n) :
  Calls Tryd.prog 20 #[.agg cs.toArray] w (AnswerD w (resolveD n).1 (resolveD n).2.1 (resolveD n).2.2):=by
 by_cases h0:numberD n.op = 0
 ·have e:resolveD n = (0,settingD0,7):=by unfold resolveD;rw [if_pos h0]
  rw [e]
  exact resolve_0 cs n w hr h0
 ·cases h1:countsD (findD (numberD n.op)) n with
  | false =>
   have e:resolveD n = (0,settingD0,1):=by unfold resolveD;rw [if_neg h0,if_pos h1]
   rw [e]
   exact resolve_1 cs n w hr h0 h1
  | true=>exact resolve_2 cs n w ht hr h0 h1
end Go.Proofs.YtgbkhcmbmffljaaDoor
