/-
  A part of the proofs of chapter 08: the operator's setting without attributes. No condition.
-/
import Derived.Test.YtgbkhcmbmffljaaDoorPLeft0
import Derived.Test.YtgbkhcmbmffljaaDoorPLeftP
import Derived.Test.YtgbkhcmbmffljaaDoorPLeftQ
import Derived.Test.YtgbkhcmbmffljaaDoorPLeftR
import Derived.Test.YtgbkhcmbmffljaaDoorPLeftS
namespace Go.Proofs.YtgbkhcmbmffljaaDoor
open Go.RowKit
open Rep (rep)
theorem left_any (op:Int) (w:World):Calls Tryd.prog 38 #[.int .i64 op] w fun e w'=>∃ cs:List Value,e = .returned (.agg cs.toArray)∧SettingDAt w' (fresh w.heap.size w'.heap.size) cs (leftD op)∧Below w.heap.size w w':=by
 by_cases e17:op = 17
 ·subst e17;exact left_17 w
 by_cases e19:op = 19
 ·subst e19;exact left_19 w
 by_cases e74:op = 74
 ·subst e74;exact left_74 w
 by_cases e18:op = 18
 ·subst e18;exact left_18 w
 by_cases e27:op = 27
 ·subst e27;exact left_27 w
 by_cases e53:op = 53
 ·subst e53;exact left_53 w
 by_cases e63:op = 63
 ·subst e63;exact left_63 w
 by_cases e58:op = 58
 ·subst e58;exact left_58 w
 by_cases e62:op = 62
 ·subst e62;exact left_62 w
 by_cases e65:op = 65
 ·subst e65;exact left_65 w
 by_cases e66:op = 66
 ·subst e66;exact left_66 w
 by_cases e67:op = 67
 ·subst e67;exact left_67 w
 by_cases e68:op = 68
 ·subst e68;exact left_68 w
 by_cases e69:op = 69
 ·subst e69;exact left_69 w
 by_cases e70:op = 70
 ·subst e70;exact left_70 w
 by_cases e71:op = 71
 ·subst e71;exact left_71 w
 by_cases e75:op = 75
 ·subst e75;exact left_75 w
 by_cases e80:op = 80
 ·subst e80;exact left_80 w
 by_cases e72:op = 72
 ·subst e72;exact left_72 w
 by_cases e79:op = 79
 ·subst e79;exact left_79 w
 refine left_none op ?_ (by simpa using e17) (by simpa using e19) (by simpa using e74) (by simpa using e18) (by simpa using e27) (by simpa using e53) (by simpa using e63) (by simpa using e58) (by simpa using e62) (by simpa using e65) (by simpa using e66) (by simpa using e67) (by simpa using e68) (by simpa using e69) (by simpa using e70) (by simpa using e71) (by simpa using e75) (by simpa using e80) (by simpa using e72) (by simpa using e79) w
 unfold leftD
 simp only [e17,e19,e74,e18,e27,e53,e63,e58,e62,e65,e66,e67,e68,e69,e70,e71,e75,e80,e72,e79,if_false,or_self]
end Go.Proofs.YtgbkhcmbmffljaaDoor
