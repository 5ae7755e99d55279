/-
  A map from texts to numbers that the call has made: what it says of each text.
-/
/-
  A map from numbers to numbers that the call has made: what it says of each number.
-/
import Derived.Maps.Views
import Derived.StringKeys
import Derived.Test.YtgbkhcmbmffljaaDoorRows
import Derived.Test.YtgbkhcmbmffljaaDoorPBase
namespace Go.Proofs.YtgbkhcmbmffljaaDoor
open Go.RowKit
set_option linter.unusedSimpArgs false
open Go.WideMaps (keyOf_string_mk)
open Go.Maps (Keyed string_keyed IsMap isMap_empty atKey_put_same atKey_put_other)
def MapOf (w:World) (b n:Nat) (f:ByteArray→Int):Prop :=
 ∃ D:DataW Unit,w.ownsMap Tryd.prog 9 (plainElem Tryd.prog 3) b n D∧IsMap D∧∀ s:ByteArray,D.atKey (.string s.data.toList) (.lit (.int .i64 0)) = .lit (.int .i64 (f s))
theorem mapK:Keyed Tryd.prog 9:=string_keyed Tryd.underlying9
theorem mapZ (w:World):(zeroValue 3).run Tryd.prog w = .ok (.int .i64 0) w:=by kernel_rfl
section
variable {w w':World} {b n:Nat} {f:ByteArray→Int}
theorem MapOf.made (w:World):MapOf (w.alloc (.map #[] 0)) w.heap.size 0 (fun _=>0):=⟨_,World.ownsMap_made w _ _ _,isMap_empty,fun _=>rfl⟩
theorem MapOf.lt (h:MapOf w b n f):b < w.heap.size:=let ⟨_,h,_⟩:=h;h.lt
theorem MapOf.kept {row:Option Nat} (h:MapOf w b n f) (hg:w.grownBy w' row) (hne:some b ≠ row):MapOf w' b n f:=let ⟨D,h,h2⟩:=h;⟨D,h.kept hg hne,h2⟩
theorem MapOf.alloc (h:MapOf w b n f) (o:Obj):MapOf (w.alloc o) b n f:=let ⟨D,h,h2⟩:=h;⟨D,h.alloc o,h2⟩
theorem MapOf.drew (h:MapOf w b n f):MapOf w.drew b n f:=h
theorem MapOf.below {B:Nat} (h:MapOf w b n f) (hg:Below B w w') (hb:b < B):MapOf w' b n f:=by
 obtain ⟨D,⟨es,clock,h1,h3⟩,h2⟩:=h
 exact ⟨D,⟨es,clock,(hg.block b hb).trans h1,h3⟩,h2⟩
theorem MapOf.mono (h:MapOf w b n f) {m:Nat} (hn:n ≤ m):MapOf w b m f:=let ⟨D,h,h2⟩:=h;⟨D,h.mono hn,h2⟩
theorem MapOf.lookup (h:MapOf w b n f) (s:ByteArray) (hs:s.size ≤ maxLen) :
  (Instr.lookup 90 (.map (some b)) (.string s) false).run Tryd.prog w = .ok (.int .i64 (f s)) w∧I64 (f s):=by
 obtain ⟨D,h,hm,hf⟩:=h
 obtain ⟨c,hrun,hat,hwc⟩:=h.lookup_int mapK Tryd.underlying90 Tryd.underlying3 (mapZ w) (keyOf_string_mk Tryd.underlying9 hs)
 rw [hf] at hat
 injection hat with hat
 injection hat with _ hat
 rw [hat]
 refine ⟨hrun,?_⟩
 simp [Lit.wf] at hwc
 unfold I64
 revert hwc
 simp [IntKind.min,IntKind.max,IntKind.signed,IntKind.bits]
 try omega
theorem MapOf.update (h:MapOf w b n f) (s:ByteArray) (hs:s.size ≤ maxLen) (x:Int) (hx:I64 x) (hn:n < maxLen) :
  ∃ w',(Instr.mapUpdate 90 (.map (some b)) (.string s) (.int .i64 x)).run Tryd.prog w = .ok () w'∧MapOf w' b (n + 1) (fun y=>if y = s then x else f y)∧w.grownBy w' (some b):=by
 obtain ⟨D,h,hm,hf⟩:=h
 have hk:keyOf Tryd.prog 9 (.string s) = some (.string s.data.toList):=keyOf_string_mk Tryd.underlying9 hs
 have hx':(Lit.int .i64 x).wf = true:=by
  unfold I64 at hx
  simp [Lit.wf]
  try (simp [IntKind.min,IntKind.max,IntKind.signed,IntKind.bits])
  try omega
 obtain ⟨w',hrun,h1,h2⟩:=h.update mapK Tryd.underlying90 hn hk (plainElem_int Tryd.underlying3 hx')
 refine ⟨w',hrun,⟨_,h1,hm.put _ _,fun y=>?_⟩,h2⟩
 by_cases e:y = s
 ·subst e
  simp only [if_true]
  exact atKey_put_same (k:=.string y.data.toList) hm (by simp [WideAt.IsKeyLit]) _ _
 ·simp only [if_neg e]
  rw [atKey_put_other (fun e'=>e ?_),hf]
  have e2:y.data.toList = s.data.toList:=Lit.string.inj e'
  exact ByteArray.ext (Array.toList_inj.1 e2)
end
theorem wpList_mapUpdate_of {ops:Array Oper} {rest:List Oper} {o:Oper} {a:Act} {w:World} {Q:Exit→Act→World→Prop}
  (hg:o.guard = none) (m x v:Operand) (hop:o.op = Op.mapUpdate 90 m x v) (b n:Nat) (f:ByteArray→Int)
  (hm:a.eval m = .map (some b)) (h:MapOf w b n f) (hn:n < maxLen) (s:ByteArray) (y:Int) (hx:a.eval x = .string s) (hv:a.eval v = .int .i64 y) (hs:s.size ≤ maxLen) (hy:I64 y)
  (hK:∀ w',MapOf w' b (n + 1) (fun z=>if z = s then y else f z)→w.grownBy w' (some b)→wpList Tryd.prog ops Q rest (a.put o.dst undef) w') :
  wpList Tryd.prog ops Q (o :: rest) a w:=by
 refine wpList_plain hg fun K' hK'=>?_
 obtain ⟨w',hrun,r1,r2⟩:=h.update s hs y hy hn
 unfold Oper.wp
 simp [execOp,hop,hm,hx,hv,hrun,Result.andThen]
 exact hK' _ _ (hK w' r1 r2)
end Go.Proofs.YtgbkhcmbmffljaaDoor
namespace Go.Proofs.YtgbkhcmbmffljaaDoor
open Go.RowKit
set_option linter.unusedSimpArgs false
open Go.Maps (Keyed int_keyed keyOf_int_mk IsMap isMap_empty atKey_put_same atKey_put_other)
theorem wf_of_I64 {x:Int} (hx:I64 x):(Lit.int .i64 x).wf = true:=by
 unfold I64 at hx
 simp [Lit.wf]
 try (simp [IntKind.min,IntKind.max,IntKind.signed,IntKind.bits])
 try omega
def MapI (w:World) (b n:Nat) (f:Int→Int):Prop :=
 ∃ D:DataW Unit,w.ownsMap Tryd.prog 3 (plainElem Tryd.prog 3) b n D∧IsMap D∧∀ s:Int,D.atKey (.int .i64 s) (.lit (.int .i64 0)) = .lit (.int .i64 (f s))
theorem mapIK:Keyed Tryd.prog 3:=int_keyed Tryd.underlying3
section
variable {w w':World} {b n:Nat} {f:Int→Int}
theorem MapI.made (w:World):MapI (w.alloc (.map #[] 0)) w.heap.size 0 (fun _=>0):=⟨_,World.ownsMap_made w _ _ _,isMap_empty,fun _=>rfl⟩
theorem MapI.lt (h:MapI w b n f):b < w.heap.size:=let ⟨_,h,_⟩:=h;h.lt
theorem MapI.kept {row:Option Nat} (h:MapI w b n f) (hg:w.grownBy w' row) (hne:some b ≠ row):MapI w' b n f:=let ⟨D,h,h2⟩:=h;⟨D,h.kept hg hne,h2⟩
theorem MapI.below {B:Nat} (h:MapI w b n f) (hg:Below B w w') (hb:b < B):MapI w' b n f:=by
 obtain ⟨D,⟨es,clock,h1,h3⟩,h2⟩:=h
 exact ⟨D,⟨es,clock,(hg.block b hb).trans h1,h3⟩,h2⟩
theorem MapI.mono (h:MapI w b n f) {m:Nat} (hn:n ≤ m):MapI w b m f:=let ⟨D,h,h2⟩:=h;⟨D,h.mono hn,h2⟩
theorem MapI.lookup (h:MapI w b n f) (s:Int) (hs:I64 s) :
  (Instr.lookup 112 (.map (some b)) (.int .i64 s) false).run Tryd.prog w = .ok (.int .i64 (f s)) w∧I64 (f s):=by
 obtain ⟨D,h,hm,hf⟩:=h
 obtain ⟨c,hrun,hat,hwc⟩:=h.lookup_int mapIK Tryd.underlying112 Tryd.underlying3 (mapZ w) (keyOf_int_mk Tryd.underlying3 (wf_of_I64 hs))
 rw [hf] at hat
 injection hat with hat
 injection hat with _ hat
 rw [hat]
 refine ⟨hrun,?_⟩
 simp [Lit.wf] at hwc
 unfold I64
 revert hwc
 simp [IntKind.min,IntKind.max,IntKind.signed,IntKind.bits]
 try omega
theorem MapI.update (h:MapI w b n f) (s:Int) (hs:I64 s) (x:Int) (hx:I64 x) (hn:n < maxLen) :
  ∃ w',(Instr.mapUpdate 112 (.map (some b)) (.int .i64 s) (.int .i64 x)).run Tryd.prog w = .ok () w'∧MapI w' b (n + 1) (fun y=>if y = s then x else f y)∧w.grownBy w' (some b):=by
 obtain ⟨D,h,hm,hf⟩:=h
 have hk:keyOf Tryd.prog 3 (.int .i64 s) = some (.int .i64 s):=keyOf_int_mk Tryd.underlying3 (wf_of_I64 hs)
 obtain ⟨w',hrun,h1,h2⟩:=h.update mapIK Tryd.underlying112 hn hk (plainElem_int Tryd.underlying3 (wf_of_I64 hx))
 refine ⟨w',hrun,⟨_,h1,hm.put _ _,fun y=>?_⟩,h2⟩
 by_cases e:y = s
 ·subst e
  simp only [if_true]
  exact atKey_put_same (k:=.int .i64 y) hm (by simp [WideAt.IsKeyLit]) _ _
 ·simp only [if_neg e]
  rw [atKey_put_other (fun e'=>e ?_),hf]
  injection e' with _ e'
end
theorem wpList_mapUpdate_ofI {ops:Array Oper} {rest:List Oper} {o:Oper} {a:Act} {w:World} {Q:Exit→Act→World→Prop}
  (hg:o.guard = none) (m x v:Operand) (hop:o.op = Op.mapUpdate 112 m x v) (b n:Nat) (f:Int→Int)
  (hm:a.eval m = .map (some b)) (h:MapI w b n f) (hn:n < maxLen) (s:Int) (y:Int) (hx:a.eval x = .int .i64 s) (hv:a.eval v = .int .i64 y) (hs:I64 s) (hy:I64 y)
  (hK:∀ w',MapI w' b (n + 1) (fun z=>if z = s then y else f z)→w.grownBy w' (some b)→wpList Tryd.prog ops Q rest (a.put o.dst undef) w') :
  wpList Tryd.prog ops Q (o :: rest) a w:=by
 refine wpList_plain hg fun K' hK'=>?_
 obtain ⟨w',hrun,r1,r2⟩:=h.update s hs y hy hn
 unfold Oper.wp
 simp [execOp,hop,hm,hx,hv,hrun,Result.andThen]
 exact hK' _ _ (hK w' r1 r2)
end Go.Proofs.YtgbkhcmbmffljaaDoor
