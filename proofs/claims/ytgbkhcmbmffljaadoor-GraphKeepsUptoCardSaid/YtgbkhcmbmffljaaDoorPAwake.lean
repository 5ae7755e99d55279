/-
  'Attrs': the names of an operator's attributes.
-/
/-
  The document's examples of chapter 08: the program answers them.
-/
import Derived.Test.YtgbkhcmbmffljaaDoorPResV
import Derived.Test.YtgbkhcmbmffljaaDoorPResB
import Derived.Test.YtgbkhcmbmffljaaDoorPOpsI
set_option linter.unusedSimpArgs false
namespace Go.Proofs.YtgbkhcmbmffljaaDoor
open Go.RowKit
open Rep (rep)
theorem own_below {w W:World} {base:Nat} {e:TypeId} {size:Nat} {v:Value} {n:Nat} {xs:List Value} (h:w.ownsRow base e size v n xs) (hb:Below w.heap.size w W):W.ownsRow base e size v n xs :=
 h.kept (row:=none) ⟨hb.os,hb.tape,hb.output,hb.size,fun k hk _=>hb.block k hk⟩ (by cases hv:v.ownBlock <;> simp)
end Go.Proofs.YtgbkhcmbmffljaaDoor
set_option linter.unusedSimpArgs false
namespace Go.Proofs.YtgbkhcmbmffljaaDoor
open Go.RowKit
open Rep (rep)
def ResolveLaw:Prop:=∀ (cs:List Value) (n:NodeD) (w:World),Tab w→rep w (old w.heap.size) cs n→Calls Tryd.prog 20 #[.agg cs.toArray] w (AnswerD w (resolveD n).1 (resolveD n).2.1 (resolveD n).2.2)
structure Keep8 (w:World) (b o g:Nat) (W:World):Prop where
 below:Below w.heap.size w W
 ltb:b < W.heap.size
 cb:W.cell? ⟨b,o,none⟩ = some (.string ⟨#[102,109,111,100]⟩)
 ltg:g < W.heap.size
 c9:W.cell? ⟨g,9,none⟩ = some (.int .u32 1065353216)
 c17:W.cell? ⟨g,17,none⟩ = some (.bool false)
 c18:W.cell? ⟨g,18,none⟩ = some (.bool true)
theorem Keep8.next {w W W':World} {b o g:Nat} (h:Keep8 w b o g W) (hb:Below W.heap.size W W'):Keep8 w b o g W' :=
 ⟨h.below.trans (hb.mono h.below.size),Nat.lt_of_lt_of_le h.ltb hb.size,(hb.cell (p:=⟨b,o,none⟩) h.ltb).trans h.cb,Nat.lt_of_lt_of_le h.ltg hb.size,(hb.cell (p:=⟨g,9,none⟩) h.ltg).trans h.c9,(hb.cell (p:=⟨g,17,none⟩) h.ltg).trans h.c17,(hb.cell (p:=⟨g,18,none⟩) h.ltg).trans h.c18⟩
structure Keep5 (w:World) (b o:Nat) (W:World):Prop where
 below:Below w.heap.size w W
 ltb:b < W.heap.size
 cb:W.cell? ⟨b,o,none⟩ = some (.string ⟨#[102,109,111,100]⟩)
theorem Keep5.next {w W W':World} {b o:Nat} (h:Keep5 w b o W) (hb:Below W.heap.size W W'):Keep5 w b o W' :=
 ⟨h.below.trans (hb.mono h.below.size),Nat.lt_of_lt_of_le h.ltb hb.size,(hb.cell (p:=⟨b,o,none⟩) h.ltb).trans h.cb⟩
end Go.Proofs.YtgbkhcmbmffljaaDoor
