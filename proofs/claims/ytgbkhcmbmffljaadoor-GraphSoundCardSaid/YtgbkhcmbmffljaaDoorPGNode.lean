/-
  A node whose attributes are laid anew, one by one: what a law's loop holds of it. A list turned round.
-/
/-
  Chapter 09: nodes of graphs: their cells; latticeref09.SameNode of equal ones.
-/
import Derived.Test.YtgbkhcmbmffljaaDoorPAwake
import Derived.Test.YtgbkhcmbmffljaaDoorPTail
import Derived.Test.YtgbkhcmbmffljaaDoorPSame
import Derived.Test.YtgbkhcmbmffljaaDoorPGData
import Derived.Test.YtgbkhcmbmffljaaDoorPGVal
set_option linter.unusedSimpArgs false
namespace Go.Proofs.YtgbkhcmbmffljaaDoor
open Go.RowKit
open Rep (rep)
theorem own_setRow {w : World} {base : Nat} {e : TypeId} {size : Nat} {v : Value} {n : Nat} {xs : List Value} {g : Nat} (h : w.ownsRow base e size v n xs) (hg : ∀ k, v.ownBlock = some k → k ≠ g) (cs : Array Value) : (w.setRow g cs).ownsRow base e size v n xs :=
  ⟨h.1, h.2.imp id fun ⟨g', cap, cur, hv, hb, hh, r⟩ => ⟨g', cap, cur, hv, hb, (heap_setRow_other _ _ _ _ (hg g' (by rw [hv]; rfl))).trans hh, r⟩⟩
def zeroNd : List Value := [.string ⟨#[]⟩, .string ⟨#[]⟩, .slice none 0 0, .slice none 0 0, .slice none 0 0]
theorem zeroNd_zero : (Tryd.prog.info? 36).bind (·.zero) = some (.agg zeroNd.toArray) := by kernel_rfl
/-- A struct in a box of the call's own. -/
structure BoxInv (w : World) (t : TypeId) (cs : List Value) (W : World) : Prop where
  below : Below w.heap.size w W
  row : W.heap[w.heap.size]? = some (.cells cs.toArray t (0, 0))
section
variable {w W W' : World} {t : TypeId} {cs : List Value}
theorem BoxInv.lt (h : BoxInv w t cs W) : w.heap.size < W.heap.size := (Array.getElem?_eq_some_iff.1 h.row).1
theorem BoxInv.next (h : BoxInv w t cs W) (hb : Below W.heap.size W W') : BoxInv w t cs W' :=
  ⟨h.below.trans (hb.mono (by have := h.lt; omega)), (hb.block _ h.lt).trans h.row⟩
theorem BoxInv.keeps' (h : BoxInv w t cs W) {α : Type} [Rep α] {c : List Value} {a : α} (hr : rep w (old w.heap.size) c a) : rep W (old W.heap.size) c a :=
  Rep.more (Rep.keep hr (Keeps.old_below h.below (Nat.le_refl _))) (old_le (by have := h.lt; omega))
theorem box_start (w : World) (t : TypeId) (cs : List Value) : BoxInv w t cs (w.alloc (.cells cs.toArray t)) := ⟨(Below.refl _ _).alloc (Nat.le_refl _) _, heap_alloc_new _ _⟩
end
/-- The node n, its attributes but those of l, which lie in a row of the call's own. -/
structure GrowInv (w w3 : World) (p q x y : Value) (l : List AttrD) (W : World) : Prop where
  below : Below w3.heap.size w3 W
  att : ∃ v xs, W.heap[w3.heap.size]? = some (.cells ([p, q, x, y, v] : List Value).toArray 36 (0, 0)) ∧ W.ownsRow (w3.heap.size + 1) 52 12 v l.length xs ∧ Chunks W (old w.heap.size) xs l
section
variable {w w3 W W' : World} {p q x y : Value} {l : List AttrD}
theorem GrowInv.lt (h : GrowInv w w3 p q x y l W) : w3.heap.size < W.heap.size := let ⟨_, _, h1, _⟩ := h.att; (Array.getElem?_eq_some_iff.1 h1).1
theorem GrowInv.next (h : GrowInv w w3 p q x y l W) (hw : w.heap.size ≤ w3.heap.size) (hb : Below W.heap.size W W') : GrowInv w w3 p q x y l W' := by
  obtain ⟨v, xs, h1, h2, h3⟩ := h.att
  have hl := h.lt
  exact ⟨h.below.trans (hb.mono (by omega)), v, xs, (hb.block _ hl).trans h1, own_below h2 hb, h3.keep (Keeps.old_below hb (by omega))⟩
/-- One more, laid behind the others: the region's own store. -/
theorem GrowInv.grow (h : GrowInv w w3 p q x y l W) (hw : w.heap.size ≤ w3.heap.size) {v v' : Value} {xs acs : List Value} {z : AttrD} (hrow : W.heap[w3.heap.size]? = some (.cells ([p, q, x, y, v] : List Value).toArray 36 (0, 0)))
    (hc : Chunks W (old w.heap.size) xs l) (hr : rep W (old w.heap.size) acs z) (hb : Below W.heap.size W W' ∨ ∃ r, W.grownBy W' r ∧ ∀ g, r = some g → w3.heap.size + 1 ≤ g)
    (hown : W'.ownsRow (w3.heap.size + 1) 52 12 v' (l.length + 1) (xs ++ acs)) :
    W'.heap[w3.heap.size]? = some (.cells ([p, q, x, y, v] : List Value).toArray 36 (0, 0)) ∧ v'.oneCell' = true ∧ GrowInv w w3 p q x y (l ++ [z]) (W'.setRow w3.heap.size (([p, q, x, y, v] : List Value).set 4 v').toArray) := by
  have hlt := h.lt
  have hb1 : Below (w3.heap.size + 1) W W' := by
    rcases hb with hb | ⟨r, hg, hr⟩
    · exact hb.mono (by omega)
    · exact (Below.refl _ _).grown hg (by omega) (fun g hg => hr g hg)
  have hrow' : W'.heap[w3.heap.size]? = some (.cells ([p, q, x, y, v] : List Value).toArray 36 (0, 0)) := (hb1.block _ (by omega)).trans hrow
  have hone : v'.oneCell' = true := by
    rcases hown.2 with ⟨hv, h0⟩ | ⟨g, cap, cur, hv, _⟩
    · omega
    · rw [hv]; rfl
  refine ⟨hrow', hone, ?_, v', xs ++ acs, heap_setRow _ _ _ _ _ hrow', ?_, ?_⟩
  · exact below_setRow' (h.below.trans (hb1.mono (by omega))) (Nat.le_refl _) _
  · rw [List.length_append]
    exact own_setRow hown (fun g hg => by have := (hown.lt g hg).1; omega) _
  · have hk : Keeps (old w.heap.size) W (W'.setRow w3.heap.size (([p, q, x, y, v] : List Value).set 4 v').toArray) :=
      Keeps.old_below (below_setRow' (hb1.mono (by omega)) (Nat.le_refl _) _) hw
    exact (Chunks.keep hk hc).snoc (Rep.keep hr hk)
end
section
variable {P : Program} {md : Region.Mode} {ops : Array Oper} {Q : Exit → Act → World → Prop} {S : World → Prop} {fuel : Nat} {listed : Array Bool} {a : Act} {w : World} {o : Oper}
/-- A step that loads a slice. -/
theorem steps_load_slice {i : Nat} {e : TypeId} (hw : Region.wanted o (yielded ops a.tmps) = true) (ty : TypeId) (x : Operand) (ho : o.op = .load ty x) (b f : Nat) (hx : a.eval x = .pointer (some ⟨b, f, none⟩))
    (v : Value) (hu : P.underlying ty = some (.slice e)) (hc : w.cell? ⟨b, f, none⟩ = some v) (hS : S w)
    (h : wpAnyH P md ops Q S fuel (listed.setIfInBounds i true) (a.put o.dst v) w) : StepTo P md ops Q S fuel listed i o a w := by
  refine ⟨hw, v, w, ?_, hS, h⟩
  have hag : (isAgg ty).run P w = .ok false w := by unfold isAgg; rw [Sem.run_bind, run_underlying hu w]; rfl
  unfold execOp
  simp only [ho, hx, Instr.loadAt, Instr.sureAddr, Sem.run_bind, Sem.run_pure, Result.andThen_ok, loadVar, hag]
  simp [hc]
/-- A struct loaded, the operation's guard decided. -/
theorem wpList_load_agg_w {rest : List Oper} (hw : Region.wanted o (yielded ops a.tmps) = true) (ty : TypeId) (x : Operand) (ho : o.op = .load ty x)
    (d : TypeDesc) (b f : Nat) (hx : a.eval x = .pointer (some ⟨b, f, none⟩)) (cs : List Value) (hu : P.underlying ty = some d) (hd : (match d with | .struct _ | .array _ _ => true | _ => false) = true)
    (hi : (P.info? ty).map (·.size) = some cs.length) (hc : At w b f cs)
    (h : wpList P ops Q rest (a.put o.dst (.agg cs.toArray)) w) : wpList P ops Q (o :: rest) a w :=
  wpList_step fun K hK => by
    rw [if_pos hw]
    unfold Oper.wp execOp
    simp only [ho, hx, Instr.loadAt, Instr.sureAddr, Sem.run_bind, Sem.run_pure, Result.andThen_ok, run_load_agg w ty d b f cs hu hd hi hc]
    exact hK _ _ h
end
end Go.Proofs.YtgbkhcmbmffljaaDoor
set_option linter.unusedSimpArgs false
set_option linter.unusedVariables false
namespace Go.Proofs.YtgbkhcmbmffljaaDoor
open Go.RowKit
open Rep (rep)
/-- A node's cells, one by one. -/
theorem gnode_facts {w : World} {Z : Zone} {cs : List Value} {a : GNodeD} (h : rep w Z cs a) : ∃ (ss : List Value) (A1 : Option Addr) (k1 : Nat) (A2 : Option Addr) (k2 : Nat),
    cs[0]? = some (.int .i64 a.op) ∧ cs[37]? = some (.slice A1 a.ins.length k1) ∧ cs[38]? = some (.slice A2 a.outs.length k2) ∧ cs[39]? = some (.int .i64 a.source) ∧
    SettingDAt w Z ss a.s ∧ rep w Z [.slice A1 a.ins.length k1] a.ins ∧ rep w Z [.slice A2 a.outs.length k2] a.outs ∧ ∀ (W : World) (b o : Nat), At W b o cs → At W b (o + 1) ss := by
  obtain ⟨ss, A1, k1, A2, k2, rfl, -, hs, h1, h2, -⟩ := open_GNodeD h
  have hl : ss.length = 36 := hs.len
  refine ⟨ss, A1, k1, A2, k2, rfl, ?_, ?_, ?_, hs, h1, h2, fun W b o hat => ?_⟩
  · simp [List.getElem?_append, hl]
  · simp [List.getElem?_append, hl]
  · simp [List.getElem?_append, hl]
  · exact At.part (xs := [.int .i64 a.op]) (ys := [.slice A1 a.ins.length k1, .slice A2 a.outs.length k2, .int .i64 a.source]) (by simpa using hat)
theorem gnode_len {w : World} {Z : Zone} {cs : List Value} {a : GNodeD} (h : rep w Z cs a) : cs.length = 40 := Rep.len h
def zeroGN : List Value := [.int .i64 0] ++ zeroS ++ [.slice none 0 0, .slice none 0 0, .int .i64 0]
theorem zeroGN_zero : (Tryd.prog.info? 68).bind (·.zero) = some (.agg zeroGN.toArray) := by kernel_rfl
theorem zeroGN_len : zeroGN.length = 40 := by kernel_rfl
theorem node_lay {w : World} {Z : Zone} {cs : List Value} {a : GNodeD} (h : rep w Z cs a) : (Tryd.prog.info? 68).map (·.size) = some cs.length ∧ 0 + cs.length ≤ zeroGN.length ∧ cs.length = zeroGN.length ∧ ∀ u ∈ cs, u.oneCell' = true := by
  have hl := gnode_len h
  have hz := zeroGN_len
  refine ⟨?_, by omega, by omega, Rep.one h⟩
  rw [hl]; kernel_rfl
end Go.Proofs.YtgbkhcmbmffljaaDoor
