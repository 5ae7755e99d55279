/-
  The law OpsResolves: its walk.
-/
import Derived.Test.YtgbkhcmbmffljaaDoorRefK
import Derived.Test.YtgbkhcmbmffljaaDoorResolve
import Derived.Test.YtgbkhcmbmffljaaDoorAwake
import Derived.Test.YtgbkhcmbmffljaaDoorGrow
set_option linter.unusedSimpArgs false
set_option linter.unusedVariables false
namespace Go.Proofs.YtgbkhcmbmffljaaDoor
open Go.RowKit
open Rep (rep)

/-- Nothing but the blocks from lo on, ahead of hi, is written; more may be made. -/
structure Off (lo hi : Nat) (a b : World) : Prop where
  os : b.os = a.os
  tape : b.tape = a.tape
  output : b.output = a.output
  size : a.heap.size ≤ b.heap.size
  block : ∀ k, k < a.heap.size → ¬ (lo ≤ k ∧ k < hi) → b.heap[k]? = a.heap[k]?
section
variable {lo hi B : Nat} {a b c : World}
theorem Off.refl (lo hi : Nat) (a : World) : Off lo hi a a := ⟨rfl, rfl, rfl, Nat.le_refl _, fun _ _ _ => rfl⟩
theorem Off.next (h : Off lo hi a b) (hb : Below b.heap.size b c) : Off lo hi a c :=
  ⟨hb.os.trans h.os, hb.tape.trans h.tape, hb.output.trans h.output, Nat.le_trans h.size hb.size, fun k hk hn => (hb.block k (Nat.lt_of_lt_of_le hk h.size)).trans (h.block k hk hn)⟩
theorem Off.drew (h : Off lo hi a b) : Off lo hi a b.drew := ⟨h.os, h.tape, h.output, h.size, h.block⟩
theorem Off.set (h : Off lo hi a b) (p : Addr) (v : Value) (h1 : lo ≤ p.block) (h2 : p.block < hi) : Off lo hi a (b.setCell p v) :=
  ⟨h.os, h.tape, h.output, by rw [World.size_setCell]; exact h.size, fun k hk hn => (Below.heap_setCell b p v k (fun e => hn ⟨e ▸ h1, e ▸ h2⟩)).trans (h.block k hk hn)⟩
theorem Off.below (h : Off lo hi a b) (hB : B ≤ lo) (hs : B ≤ a.heap.size) : Below B a b := ⟨h.os, h.tape, h.output, h.size, fun k hk => h.block k (by omega) (by omega)⟩
end
/-- Integers of a kind lie in the blocks from lo on, ahead of hi, and may be written. -/
def Spots (lo hi : Nat) (W : World) (k : IntKind) (A : Option Addr) (n : Nat) : Prop :=
  n ≠ 0 → ∃ b o, A = some ⟨b, o, none⟩ ∧ lo ≤ b ∧ b < hi ∧ ∀ j, j < n → (∃ x, W.cell? ⟨b, o + j, none⟩ = some (.int k x)) ∧ W.frozen? ⟨b, o + j, none⟩ = false
section
variable {lo hi : Nat} {W W' : World} {k k' : IntKind} {A : Option Addr} {n : Nat}
theorem Spots.next (h : Spots lo hi W k A n) (hb : Below hi W W') : Spots lo hi W' k A n := fun hn => by
  obtain ⟨b, o, hA, h1, h2, hc⟩ := h hn
  refine ⟨b, o, hA, h1, h2, fun j hj => ⟨?_, ?_⟩⟩
  · obtain ⟨x, hx⟩ := (hc j hj).1
    exact ⟨x, (hb.cell (p := ⟨b, o + j, none⟩) h2).trans hx⟩
  · exact (World.frozen?_of_block (a := ⟨b, o + j, none⟩) (hb.block b h2)).trans (hc j hj).2
theorem Spots.drew (h : Spots lo hi W k A n) : Spots lo hi W.drew k A n := h
theorem cell_set_same {W : World} {p q : Addr} {k : IntKind} (h : ∃ m, W.cell? q = some (.int k m)) (y : Int) : ∃ m, (W.setCell p (.int k y)).cell? q = some (.int k m) := by
  obtain ⟨m, hm⟩ := h
  by_cases e : p = q
  · subst e
    exact ⟨y, World.cell?_setCell_same W p _ hm⟩
  · exact ⟨m, (World.cell?_setCell_other W p q _ e).trans hm⟩
theorem cell_set_other {W : World} {p q : Addr} {k k' : IntKind} {x : Int} (h : ∃ m, W.cell? q = some (.int k m)) (hp : W.cell? p = some (.int k' x)) (hk : k' ≠ k) (v : Value) : ∃ m, (W.setCell p v).cell? q = some (.int k m) := by
  obtain ⟨m, hm⟩ := h
  refine ⟨m, (World.cell?_setCell_other W p q _ (fun e => ?_)).trans hm⟩
  subst e
  rw [hp] at hm
  injection hm with hm
  injection hm with hm
  exact hk hm
theorem Spots.set (h : Spots lo hi W k A n) {p : Addr} {x : Int} (hp : W.cell? p = some (.int k' x)) (y : Int) : Spots lo hi (W.setCell p (.int k' y)) k A n := fun hn => by
  obtain ⟨b, o, hA, h1, h2, hc⟩ := h hn
  refine ⟨b, o, hA, h1, h2, fun j hj => ⟨?_, ?_⟩⟩
  · by_cases e : k' = k
    · subst e
      exact cell_set_same (hc j hj).1 y
    · exact cell_set_other (hc j hj).1 hp e _
  · rw [World.frozen?_setCell]
    exact (hc j hj).2
theorem spots_ints {w : World} {l : List Int} {A : Option Addr} {c : Nat} (h : rep w (fresh lo hi) [.slice A l.length c] l) : Spots lo hi w .i64 A l.length := fun hn => by
  obtain ⟨A', c', xs, hv, -, -, -, hl, hch⟩ := open_slice h
  injection hv with h1 h2 h3
  subst h1
  have hx : xs ≠ [] := fun e => by have := hch.len; rw [e] at this; simp [Rep.size] at this; omega
  obtain ⟨b, o, hA, hb, hc⟩ := hl hx
  refine ⟨b, o, hA, hb.1, hb.2, fun j hj => ?_⟩
  have hj' : l[j]? = some l[j] := List.getElem?_eq_getElem hj
  have hu : xs[j]? = some (.int .i64 l[j]) := by rw [chunks_ints hch, List.getElem?_map, hj']; rfl
  exact ⟨⟨_, (hc j _ hu).1⟩, (hc j _ hu).2 rfl⟩
theorem chunks_u32s {w : World} {Z : Zone} : ∀ {l : List Nat} {xs : List Value}, Chunks w Z xs l → xs = l.map (fun n : Nat => Value.int .u32 (n : Int))
  | [], _, h => by simpa [Chunks] using h
  | a :: l, xs, ⟨c, r, hx, hc, hr⟩ => by rw [hx, hc.1, chunks_u32s hr]; rfl
theorem spots_u32s {w : World} {l : List Nat} {A : Option Addr} {c : Nat} (h : rep w (fresh lo hi) [.slice A l.length c] l) : Spots lo hi w .u32 A l.length := fun hn => by
  obtain ⟨A', c', xs, hv, -, -, -, hl, hch⟩ := open_slice h
  injection hv with h1 h2 h3
  subst h1
  have hx : xs ≠ [] := fun e => by have := hch.len; rw [e] at this; simp [Rep.size] at this; omega
  obtain ⟨b, o, hA, hb, hc⟩ := hl hx
  refine ⟨b, o, hA, hb.1, hb.2, fun j hj => ?_⟩
  have hj' : l[j]? = some l[j] := List.getElem?_eq_getElem hj
  have hu : xs[j]? = some (.int .u32 (l[j] : Int)) := by rw [chunks_u32s hch, List.getElem?_map, hj']; rfl
  exact ⟨⟨_, (hc j _ hu).1⟩, (hc j _ hu).2 rfl⟩
end
/-- Where the loops stand that write over the lists of the first answer. -/
structure WInv (w8 : World) (lo hi : Nat) (L : List (IntKind × Option Addr × Nat)) (W : World) : Prop where
  off : Off lo hi w8 W
  spots : ∀ p ∈ L, Spots lo hi W p.1 p.2.1 p.2.2
section
variable {w8 W : World} {lo hi : Nat} {L : List (IntKind × Option Addr × Nat)}
theorem WInv.drew (h : WInv w8 lo hi L W) : WInv w8 lo hi L W.drew := ⟨h.off.drew, h.spots⟩
theorem WInv.set (h : WInv w8 lo hi L W) {p : Addr} {k : IntKind} {x : Int} (hp : W.cell? p = some (.int k x)) (y : Int) (h1 : lo ≤ p.block) (h2 : p.block < hi) : WInv w8 lo hi L (W.setCell p (.int k y)) :=
  ⟨h.off.set p _ h1 h2, fun q hq => (h.spots q hq).set hp y⟩
/-- A cell that the loops leave. -/
theorem WInv.far (h : WInv w8 lo hi L W) {b f : Nat} {v : Value} (hb : b < w8.heap.size) (hn : ¬ (lo ≤ b ∧ b < hi)) (hc : w8.cell? ⟨b, f, none⟩ = some v) : W.cell? ⟨b, f, none⟩ = some v :=
  (World.cell?_of_block (a := ⟨b, f, none⟩) (h.off.block b hb hn)).trans hc
end
section
variable {P : Program} {md : Region.Mode} {ops : Array Oper} {Q : Exit → Act → World → Prop} {S : World → Prop} {fuel : Nat} {listed : Array Bool} {a : Act} {w : World} {o : Oper}
theorem steps_load_one {i : Nat} (hw : Region.wanted o (yielded ops a.tmps) = true) (ty : TypeId) (x : Operand) (ho : o.op = .load ty x) (b f : Nat) (hx : a.eval x = .pointer (some ⟨b, f, none⟩))
    (v : Value) (d : TypeDesc) (hu : P.underlying ty = some d) (hd : (match d with | .struct _ | .array _ _ => true | _ => false) = false) (hc : w.cell? ⟨b, f, none⟩ = some v) (hS : S w)
    (h : wpAnyH P md ops Q S fuel (listed.setIfInBounds i true) (a.put o.dst v) w) : StepTo P md ops Q S fuel listed i o a w :=
  ⟨hw, v, w, by
    have hag : (isAgg ty).run P w = .ok false w := by
      unfold isAgg
      rw [Sem.run_bind, run_underlying hu w]
      cases d <;> simp_all
    unfold execOp
    simp only [ho, hx, Instr.loadAt, Instr.sureAddr, Sem.run_bind, Sem.run_pure, Result.andThen_ok, loadVar, hag]
    simp [hc], hS, h⟩
theorem anyH_store_cell (i : Nat) (hio : ops[i]? = some o) (hr : Region.ready md ops listed = [i])
    (hw : Region.wanted o (yielded ops a.tmps) = true) (ty : TypeId) (x y : Operand) (ho : o.op = .store ty x y)
    (g f : Nat) (v u : Value) (hx : a.eval x = .pointer (some ⟨g, f, none⟩)) (hy : a.eval y = v) (h1 : v.oneCell' = true) (hi : (P.info? ty).map (·.size) = some 1)
    (hc : w.cell? ⟨g, f, none⟩ = some u) (hf : w.frozen? ⟨g, f, none⟩ = false) (hS : S (w.setCell ⟨g, f, none⟩ v))
    (h : wpAnyH P md ops Q S fuel (listed.setIfInBounds i true) (a.put o.dst undef) (w.setCell ⟨g, f, none⟩ v)) : wpAnyH P md ops Q S (fuel + 1) listed a w := by
  refine wpAnyH_ready hr (by simp) (AllReadyH.cons hio (fun K hK => ?_) AllReadyH.nil)
  rw [if_pos hw]
  unfold Oper.wp execOp
  cases hq : P.info? ty with
  | none => simp [hq] at hi
  | some i =>
    have hs : i.size = 1 := by simpa [hq] using hi
    have hcs : v.cells = #[v] := by cases v <;> first | rfl | cases h1
    have hv : (storeVar ty ⟨g, f, none⟩ v).run P w = .ok () (w.setCell ⟨g, f, none⟩ v) := by
      simp only [storeVar, sizeOf, typeInfo, Sem.run_bind, hcs]
      simp [hq, hs, storeCells, Addr.add, run_store _ _ _ _ _ h1, hc, hf]
    simp only [ho, hx, hy, Instr.storeAt, Instr.sureAddr, Sem.run_bind, Sem.run_pure, Result.andThen_ok, hv]
    exact hK.out _ _ hS (fun _ => h)
end
/-- The answer of a walk over any node. -/
def ResolveRLaw : Prop := True

set_option maxRecDepth 100000 in
set_option maxHeartbeats 40000000 in
theorem resolves_any (HRes : Hid ResolveLaw) (cs : List Value) (n : NodeD) (w : World) (ht : Tab w) (hr : rep w (old w.heap.size) cs n) :
    Calls Tryd.prog 4 #[.agg cs.toArray] w (YesBelow w) := by
  have hrn := hr
  obtain ⟨A1, k1, A2, k2, A3, k3, rfl, g0, g1, hi, ho, ha⟩ := open_NodeD hr
  have HT := Lib.hid (And.intro ht hrn)
  clear hr hrn ht g0 g1 hi ho ha
  go_enter Tryd.func4, Tryd.ntmps4
  go_wp2_with fail
  have hX : BoxInv w 36 [.string n.op, .string n.name, .slice A1 n.ins.length k1, .slice A2 n.outs.length k2, .slice A3 n.attrs.length k3] (w.alloc (.cells ([.string n.op, .string n.name, .slice A1 n.ins.length k1, .slice A2 n.outs.length k2, .slice A3 n.attrs.length k3] : List Value).toArray 36)) := box_start w 36 [.string n.op, .string n.name, .slice A1 n.ins.length k1, .slice A2 n.outs.length k2, .slice A3 n.attrs.length k3]
  generalize World.alloc _ _ = W0 at hX ⊢
  have HI := Lib.hid hX
  clear hX
  refine (awake_any HRes W0 (HT.out.1.ext HI.out.below)).mono ?_
  rintro e w1 ⟨rfl, hb⟩
  have HI1 := Lib.hid (HI.out.next hb)
  clear hb
  obtain ⟨op, hop⟩ : ∃ op, (resolveD n).1 = op := ⟨_, rfl⟩
  obtain ⟨s, hs⟩ : ∃ s, (resolveD n).2.1 = s := ⟨_, rfl⟩
  obtain ⟨er, her⟩ : ∃ er, (resolveD n).2.2 = er := ⟨_, rfl⟩
  have HR1 := Lib.hid (And.intro hop (And.intro hs her))
  clear hop hs her
  go_wp2_with (with_reducible refine wpList_load_agg rfl 36 _ rfl _ _ _ rfl [.string n.op, .string n.name, .slice A1 n.ins.length k1, .slice A2 n.outs.length k2, .slice A3 n.attrs.length k3] Tryd.underlying36 rfl (by kernel_rfl) (At.of_row HI1.out.row) ?_)
  refine (HRes.out _ n w1 (HT.out.1.ext HI1.out.below) (HI1.out.keeps' HT.out.2)).mono ?_
  rw [HR1.out.1, HR1.out.2.1, HR1.out.2.2]
  rintro e w2 ⟨ss1, rfl, hS, hb⟩
  have HS1 := Lib.hid (And.intro hS.len (And.intro (set_one hS) hS))
  have HI2 := Lib.hid (HI1.out.next hb)
  have HBw2 := Lib.hid hb
  clear hb hS
  go_wp2_with (first
    | (with_reducible refine wpList_alloc_row rfl 45 rfl zeroS zeroS_zero ?_)
    | (with_reducible refine wpList_store_agg rfl 45 _ _ rfl _ 0 ss1 rfl rfl 45 zeroS (heap_alloc_new _ _) (by rw [HS1.out.1]; kernel_rfl) (by rw [HS1.out.1, zeroS_len]; omega) HS1.out.2.1 ?_; have hX := laid_row w2 45 zeroS ss1 (by rw [HS1.out.1, zeroS_len]); generalize World.setRow _ _ _ = w3 at hX ⊢; have HXw3 := Lib.hid hX; clear hX; refine halt ?_))
  unfold Halt
  have HI3 := Lib.hid (HI2.out.next HXw3.out.1)
  go_wp2_with (with_reducible refine wpList_load_agg rfl 36 _ rfl _ _ _ rfl [.string n.op, .string n.name, .slice A1 n.ins.length k1, .slice A2 n.outs.length k2, .slice A3 n.attrs.length k3] Tryd.underlying36 rfl (by kernel_rfl) (At.of_row HI3.out.row) ?_)
  refine (HRes.out _ n w3 (HT.out.1.ext HI3.out.below) (HI3.out.keeps' HT.out.2)).mono ?_
  rw [HR1.out.1, HR1.out.2.1, HR1.out.2.2]
  rintro e w4 ⟨ss2, rfl, hS, hb⟩
  have HS2 := Lib.hid (And.intro hS.len (And.intro (set_one hS) hS))
  have HI4 := Lib.hid (HI3.out.next hb)
  have HBw4 := Lib.hid hb
  clear hb hS
  go_wp2_with (first
    | (with_reducible refine wpList_alloc_row rfl 45 rfl zeroS zeroS_zero ?_)
    | (with_reducible refine wpList_store_agg rfl 45 _ _ rfl _ 0 ss2 rfl rfl 45 zeroS (heap_alloc_new _ _) (by rw [HS2.out.1]; kernel_rfl) (by rw [HS2.out.1, zeroS_len]; omega) HS2.out.2.1 ?_; have hX := laid_row w4 45 zeroS ss2 (by rw [HS2.out.1, zeroS_len]); generalize World.setRow _ _ _ = w5 at hX ⊢; have HXw5 := Lib.hid hX; clear hX; refine halt ?_))
  unfold Halt
  have HI5 := Lib.hid (HI4.out.next HXw5.out.1)
  go_wp2_with (with_reducible refine wpList_load_agg rfl 36 _ rfl _ _ _ rfl [.string n.op, .string n.name, .slice A1 n.ins.length k1, .slice A2 n.outs.length k2, .slice A3 n.attrs.length k3] Tryd.underlying36 rfl (by kernel_rfl) (At.of_row HI5.out.row) ?_)
  refine (resolveR_any _ n w5 (HI5.out.keeps' HT.out.2)).mono ?_
  rw [HR1.out.1, HR1.out.2.1, HR1.out.2.2]
  rintro e w6 ⟨ss3, rfl, hS, hb⟩
  have HS3 := Lib.hid (And.intro hS.len (And.intro (set_one hS) hS))
  have HI6 := Lib.hid (HI5.out.next hb)
  have HBw6 := Lib.hid hb
  clear hb hS
  go_wp2_with (first
    | (with_reducible refine wpList_alloc_row rfl 45 rfl zeroS zeroS_zero ?_)
    | (with_reducible refine wpList_store_agg rfl 45 _ _ rfl _ 0 ss3 rfl rfl 45 zeroS (heap_alloc_new _ _) (by rw [HS3.out.1]; kernel_rfl) (by rw [HS3.out.1, zeroS_len]; omega) HS3.out.2.1 ?_; have hX := laid_row w6 45 zeroS ss3 (by rw [HS3.out.1, zeroS_len]); generalize World.setRow _ _ _ = w7 at hX ⊢; have HXw7 := Lib.hid hX; clear hX; refine halt ?_))
  unfold Halt
  have HI7 := Lib.hid (HI6.out.next HXw7.out.1)
  have hz : w.heap.size < w1.heap.size ∧ w1.heap.size ≤ w2.heap.size ∧ w3.heap.size = w2.heap.size + 1 ∧ w3.heap.size ≤ w4.heap.size ∧ w5.heap.size = w4.heap.size + 1 ∧ w5.heap.size ≤ w6.heap.size ∧ w7.heap.size = w6.heap.size + 1 :=
    ⟨HI1.out.lt, HBw2.out.size, HXw3.out.2.2, HBw4.out.size, HXw5.out.2.2, HBw6.out.size, HXw7.out.2.2⟩
  have HZ := Lib.hid hz
  clear hz
  have h27 : Below w2.heap.size w2 w7 := HXw3.out.1.trans ((HBw4.out.mono HXw3.out.1.size).trans ((HXw5.out.1.mono (by have := HZ.out; omega)).trans ((HBw6.out.mono (by have := HZ.out; omega)).trans (HXw7.out.1.mono (by have := HZ.out; omega)))))
  have h47 : Below w4.heap.size w4 w7 := HXw5.out.1.trans ((HBw6.out.mono HXw5.out.1.size).trans (HXw7.out.1.mono (by have := HZ.out; omega)))
  have h37 : Below w3.heap.size w3 w7 := HBw4.out.trans (h47.mono HBw4.out.size)
  have h57 : Below w5.heap.size w5 w7 := HBw6.out.trans (HXw7.out.1.mono HBw6.out.size)
  have r1 : w7.heap[w2.heap.size]? = some (.cells ss1.toArray 45 (0, 0)) := (h37.block _ (by have := HZ.out; omega)).trans HXw3.out.2.1
  have r2 : w7.heap[w4.heap.size]? = some (.cells ss2.toArray 45 (0, 0)) := (h57.block _ (by have := HZ.out; omega)).trans HXw5.out.2.1
  have r3 : w7.heap[w6.heap.size]? = some (.cells ss3.toArray 45 (0, 0)) := HXw7.out.2.1
  have HRW := Lib.hid (And.intro r1 (And.intro r2 r3))
  have d1 : rep w7 (old w7.heap.size) ss1 s := Rep.more (Rep.keep (show rep w2 (fresh w1.heap.size w2.heap.size) ss1 s from HS1.out.2.2) (Keeps.fresh_below h27 (Nat.le_refl _))) (fresh_old h27.size)
  have d3 : rep w7 (old w7.heap.size) ss3 s := Rep.more (Rep.keep (show rep w6 (fresh w5.heap.size w6.heap.size) ss3 s from HS3.out.2.2) (Keeps.fresh_below HXw7.out.1 (Nat.le_refl _))) (fresh_old HXw7.out.1.size)
  have HD := Lib.hid (And.intro d1 d3)
  have H7 := Lib.hid (And.intro h27 (And.intro h47 HXw7.out.1))
  clear h27 h47 h37 h57 r1 r2 r3 d1 d3 HXw3 HXw5 HXw7 HBw2 HBw4 HBw6 HI3 HI4 HI5 HI6
  go_wp2_with (first
    | (with_reducible refine wpList_load_agg_w (by kernel_rfl) 45 _ rfl _ w2.heap.size 0 rfl ss1 Tryd.underlying45 rfl (by rw [HS1.out.1]; kernel_rfl) (At.of_row HRW.out.1) ?_)
    | (with_reducible refine wpList_load_agg_w (by kernel_rfl) 45 _ rfl _ w6.heap.size 0 rfl ss3 Tryd.underlying45 rfl (by rw [HS3.out.1]; kernel_rfl) (At.of_row HRW.out.2.2) ?_))
  refine (same_any ss1 ss3 s w7 HD.out.1 HD.out.2).mono ?_
  rintro e w8 ⟨rfl, hb⟩
  have HI8 := Lib.hid (HI7.out.next hb)
  have HB8 := Lib.hid hb
  clear hb HI7
  have q1 : w8.heap[w2.heap.size]? = some (.cells ss1.toArray 45 (0, 0)) := (HB8.out.block _ (by have := HZ.out; omega)).trans HRW.out.1
  have q2 : w8.heap[w4.heap.size]? = some (.cells ss2.toArray 45 (0, 0)) := (HB8.out.block _ (by have := HZ.out; omega)).trans HRW.out.2.1
  have q3 : w8.heap[w6.heap.size]? = some (.cells ss3.toArray 45 (0, 0)) := (HB8.out.block _ (by have := HZ.out; omega)).trans HRW.out.2.2
  have z8 : w7.heap.size ≤ w8.heap.size := HB8.out.size
  have h28 : Below w2.heap.size w2 w8 := H7.out.1.trans (HB8.out.mono H7.out.1.size)
  have h48 : Below w4.heap.size w4 w8 := H7.out.2.1.trans (HB8.out.mono H7.out.2.1.size)
  have h68 : Below w6.heap.size w6 w8 := H7.out.2.2.trans (HB8.out.mono H7.out.2.2.size)
  have HQ := Lib.hid (And.intro q1 (And.intro q2 (And.intro q3 (And.intro z8 (And.intro h28 (And.intro h48 h68))))))
  obtain ⟨A22, c22, e22, r22⟩ := Fld.list HS1.out.2.2.f22
  obtain ⟨A7, c7, e7, r7⟩ := Fld.list HS1.out.2.2.f7
  obtain ⟨_, _, _, _, _⟩ : True ∧ True ∧ True ∧ True ∧ True := ⟨trivial, trivial, trivial, trivial, trivial⟩
  have hten := HS1.out.2.2.f31
  obtain ⟨A32, c32, A33, c33, A34, c34, A35, c35, hcs, -, t1, t2, t3, t4⟩ := open_TensorD hten
  have e32 : ss1[32]? = some (.slice A32 s.value.dims.length c32) := (by have h : (ss1.drop 31)[1]? = some (.slice A32 s.value.dims.length c32) := (by rw [hcs]; rfl); rwa [List.getElem?_drop] at h)
  have e33 : ss1[33]? = some (.slice A33 s.value.f.length c33) := (by have h : (ss1.drop 31)[2]? = some (.slice A33 s.value.f.length c33) := (by rw [hcs]; rfl); rwa [List.getElem?_drop] at h)
  have e34 : ss1[34]? = some (.slice A34 s.value.i.length c34) := (by have h : (ss1.drop 31)[3]? = some (.slice A34 s.value.i.length c34) := (by rw [hcs]; rfl); rwa [List.getElem?_drop] at h)
  obtain ⟨b22, b22'⟩ := slice_bound r22
  obtain ⟨b7, b7'⟩ := slice_bound r7
  obtain ⟨b32, b32'⟩ := slice_bound t1
  obtain ⟨b33, b33'⟩ := slice_bound t2
  obtain ⟨b34, b34'⟩ := slice_bound t3
  have hw0 : WInv w8 w1.heap.size w2.heap.size [(.i64, A22, s.pads.length), (.i64, A7, s.perm.length), (.u32, A33, s.value.f.length), (.i64, A34, s.value.i.length), (.i64, A32, s.value.dims.length)] w8 := by
    refine ⟨Off.refl _ _ _, fun p hp => ?_⟩
    simp only [List.mem_cons, List.not_mem_nil, or_false] at hp
    rcases hp with rfl | rfl | rfl | rfl | rfl
    · exact (spots_ints r22).next HQ.out.2.2.2.2.1
    · exact (spots_ints r7).next HQ.out.2.2.2.2.1
    · exact (spots_u32s t2).next HQ.out.2.2.2.2.1
    · exact (spots_ints t3).next HQ.out.2.2.2.2.1
    · exact (spots_ints t1).next HQ.out.2.2.2.2.1
  have hhead : ∀ (f : Nat) (v : Value) (W : World), ss1[f]? = some v → WInv w8 w1.heap.size w2.heap.size [(.i64, A22, s.pads.length), (.i64, A7, s.perm.length), (.u32, A33, s.value.f.length), (.i64, A34, s.value.i.length), (.i64, A32, s.value.dims.length)] W → W.cell? ⟨w2.heap.size, f, none⟩ = some v := fun f v W hv hW =>
    hW.far (by have := HZ.out; have := HQ.out.2.2.2.1; omega) (by omega) (by rw [cell_of_row _ _ _ _ _ _ HQ.out.1, List.getElem?_toArray]; exact hv)
  obtain ⟨L, hL⟩ : ∃ L : List (IntKind × Option Addr × Nat), [(.i64, A22, s.pads.length), (.i64, A7, s.perm.length), (.u32, A33, s.value.f.length), (.i64, A34, s.value.i.length), (.i64, A32, s.value.dims.length)] = L := ⟨_, rfl⟩
  have HLs := Lib.hid hL
  rw [hL] at hw0 hhead
  have HW0 := Lib.hid hw0
  have HH := Lib.hid hhead
  have HE := Lib.hid (And.intro e22 (And.intro e7 (And.intro e33 (And.intro e34 e32))))
  clear q1 q2 q3 z8 h28 h48 h68 r22 r7 t1 t2 t3 t4 hten hcs hw0 hhead hL e22 e7 e33 e34 e32
  go_wp2_with fail
  go_loopw [13] (fun i wr => ∃ j : Nat, i = .int .i64 (j : Int) ∧ WInv w8 w1.heap.size w2.heap.size L wr) (fun i _ => s.pads.length - (intOf i).toNat)
  case atStart => exact ⟨0, rfl, HW0.out⟩
  case round =>
    obtain ⟨j, rfl, hW⟩ := hrel
    have HW := Lib.hid hW
    have kh : wr.cell? ⟨w2.heap.size, 22, none⟩ = some (.slice A22 s.pads.length c22) := HH.out _ _ _ HE.out.1 hW
    clear hW
    by_cases hj : j < s.pads.length
    · obtain ⟨b, o, hA, h1, h2, hc⟩ := HW.out.spots (.i64, A22, s.pads.length) (by rw [← HLs.out]; simp) (show s.pads.length ≠ 0 by omega)
      have hA' : A22 = some ⟨b, o, none⟩ := hA
      subst hA'
      obtain ⟨⟨x, kc⟩, kf⟩ := hc j hj
      have hj0 : (0 : Int) ≤ (j : Int) := Int.natCast_nonneg _
      have hj1 : (j : Int) < (s.pads.length : Int) := by omega
      have HC := Lib.hid (And.intro h1 (And.intro h2 (And.intro kc kf)))
      clear hA hc h1 h2
      have hnx := HW.out.set kc (-9) HC.out.1 HC.out.2.1
      have HN := Lib.hid hnx
      clear hnx
      go_wp2
      go_roundw
      case rel => exact ⟨j + 1, by go_num, HN.out⟩
      case measure => simp [intOf]; omega
    · have HW1 := HW
      obtain ⟨wx1, rfl⟩ : ∃ wx, wx = wr := ⟨_, rfl⟩
      clear HW
      have hj2 : ¬ ((j : Int) < (s.pads.length : Int)) := by omega
      clear hj
      go_wp2_with fail
      go_loopw [14] (fun i wr => ∃ j : Nat, i = .int .i64 (j : Int) ∧ WInv w8 w1.heap.size w2.heap.size L wr) (fun i _ => s.perm.length - (intOf i).toNat)
      case atStart => exact ⟨0, rfl, HW1.out⟩
      case round =>
        obtain ⟨j, rfl, hW⟩ := hrel
        have HW := Lib.hid hW
        have kh : wr.cell? ⟨w2.heap.size, 7, none⟩ = some (.slice A7 s.perm.length c7) := HH.out _ _ _ HE.out.2.1 hW
        clear hW
        by_cases hj : j < s.perm.length
        · obtain ⟨b, o, hA, h1, h2, hc⟩ := HW.out.spots (.i64, A7, s.perm.length) (by rw [← HLs.out]; simp) (show s.perm.length ≠ 0 by omega)
          have hA' : A7 = some ⟨b, o, none⟩ := hA
          subst hA'
          obtain ⟨⟨x, kc⟩, kf⟩ := hc j hj
          have hj0 : (0 : Int) ≤ (j : Int) := Int.natCast_nonneg _
          have hj1 : (j : Int) < (s.perm.length : Int) := by omega
          have HC := Lib.hid (And.intro h1 (And.intro h2 (And.intro kc kf)))
          clear hA hc h1 h2
          have hnx := HW.out.set kc (-9) HC.out.1 HC.out.2.1
          have HN := Lib.hid hnx
          clear hnx
          go_wp2
          go_roundw
          case rel => exact ⟨j + 1, by go_num, HN.out⟩
          case measure => simp [intOf]; omega
        · have HW2 := HW
          obtain ⟨wx2, rfl⟩ : ∃ wx, wx = wr := ⟨_, rfl⟩
          clear HW
          have hj2 : ¬ ((j : Int) < (s.perm.length : Int)) := by omega
          clear hj
          go_wp2_with fail
          go_loopw [15] (fun i wr => ∃ j : Nat, i = .int .i64 (j : Int) ∧ WInv w8 w1.heap.size w2.heap.size L wr) (fun i _ => s.value.f.length - (intOf i).toNat)
          case atStart => exact ⟨0, rfl, HW2.out⟩
          case round =>
            obtain ⟨j, rfl, hW⟩ := hrel
            have HW := Lib.hid hW
            have kh : wr.cell? ⟨w2.heap.size, 33, none⟩ = some (.slice A33 s.value.f.length c33) := HH.out _ _ _ HE.out.2.2.1 hW
            clear hW
            by_cases hj : j < s.value.f.length
            · obtain ⟨b, o, hA, h1, h2, hc⟩ := HW.out.spots (.u32, A33, s.value.f.length) (by rw [← HLs.out]; simp) (show s.value.f.length ≠ 0 by omega)
              have hA' : A33 = some ⟨b, o, none⟩ := hA
              subst hA'
              obtain ⟨⟨x, kc⟩, kf⟩ := hc j hj
              have hj0 : (0 : Int) ≤ (j : Int) := Int.natCast_nonneg _
              have hj1 : (j : Int) < (s.value.f.length : Int) := by omega
              have HC := Lib.hid (And.intro h1 (And.intro h2 (And.intro kc kf)))
              clear hA hc h1 h2
              have HH2 := Lib.hid (show wr.drew.cell? ⟨w2.heap.size, 33, none⟩ = some (.slice (some ⟨b, o, none⟩) s.value.f.length c33) from kh)
              clear kc kf
              go_wp2_with fail
              clear kh
              refine wp_region_held_drew (S := fun W => W.cell? ⟨w2.heap.size, 33, none⟩ = some (.slice (some ⟨b, o, none⟩) s.value.f.length c33)) (by kernel_rfl) HH2.out (fun hHeld => ?_)
              refine wpAnyH_take (i := 0) (v := .pointer (some ⟨w2.heap.size, 31, none⟩)) rfl (by kernel_rfl) (by kernel_rfl) (by kernel_rfl) (fun c a w h => h) (Or.inl ⟨by kernel_rfl, fun w _ => by kernel_rfl⟩) hHeld ?_
              refine wpAnyH_take (i := 1) (v := .pointer (some ⟨w2.heap.size, 33, none⟩)) rfl (by kernel_rfl) (by kernel_rfl) (by kernel_rfl) (fun c a w h => h) (Or.inl ⟨by kernel_rfl, fun w _ => by kernel_rfl⟩) hHeld ?_
              refine wpAnyH_take (i := 2) (v := .slice (some ⟨b, o, none⟩) s.value.f.length c33) rfl (by kernel_rfl) (by kernel_rfl) (by kernel_rfl) (fun c a w h => h) (yields_load_slice (by kernel_rfl) _ _ rfl w2.heap.size 33 (by kernel_rfl) _ Tryd.underlying39 (fun _ h => h)) hHeld ?_
              refine wpAnyH_take (i := 3) (v := .int .i64 (j : Int)) rfl (by kernel_rfl) (by kernel_rfl) (by kernel_rfl) (fun c a w h => h) (Or.inl ⟨by kernel_rfl, fun w _ => by kernel_rfl⟩) hHeld ?_
              refine wpAnyH_take (i := 4) (v := .pointer (some ⟨w2.heap.size, 31, none⟩)) rfl (by kernel_rfl) (by kernel_rfl) (by kernel_rfl) (fun c a w h => h) (Or.inl ⟨by kernel_rfl, fun w _ => by kernel_rfl⟩) hHeld ?_
              refine wpAnyH_take (i := 5) (v := .pointer (some ⟨w2.heap.size, 33, none⟩)) rfl (by kernel_rfl) (by kernel_rfl) (by kernel_rfl) (fun c a w h => h) (Or.inl ⟨by kernel_rfl, fun w _ => by kernel_rfl⟩) hHeld ?_
              refine wpAnyH_take (i := 6) (v := .slice (some ⟨b, o, none⟩) s.value.f.length c33) rfl (by kernel_rfl) (by kernel_rfl) (by kernel_rfl) (fun c a w h => h) (yields_load_slice (by kernel_rfl) _ _ rfl w2.heap.size 33 (by kernel_rfl) _ Tryd.underlying39 (fun _ h => h)) hHeld ?_
              refine wpAnyH_take (i := 7) (v := .int .i64 (j : Int)) rfl (by kernel_rfl) (by kernel_rfl) (by kernel_rfl) (fun c a w h => h) (Or.inl ⟨by kernel_rfl, fun w _ => by kernel_rfl⟩) hHeld ?_
              refine wpAnyH_take (i := 8) (v := .pointer (some ⟨b, o + j * 1, none⟩)) rfl (by kernel_rfl) (by kernel_rfl) (by kernel_rfl) (fun c a w h => h) (yields_indexI (by kernel_rfl) _ _ _ rfl b o s.value.f.length c33 j 1 (j : Int) (by kernel_rfl) (by kernel_rfl) Tryd.underlying39 (by kernel_rfl) rfl hj) hHeld ?_
              have kc : wr.drew.cell? ⟨b, o + j * 1, none⟩ = some (.int .u32 x) := by rw [Nat.mul_one]; exact HC.out.2.2.1
              have kf : wr.drew.frozen? ⟨b, o + j * 1, none⟩ = false := by rw [Nat.mul_one]; exact HC.out.2.2.2
              refine anyH_1 9 rfl (by kernel_rfl) ?_
              refine steps_load_one (by kernel_rfl) 38 _ rfl b (o + j * 1) (by kernel_rfl) (.int .u32 x) _ Tryd.underlying38 rfl kc hHeld ?_
              refine wpAnyH_take (i := 10) (v := .int .u32 (bits .xor .u32 x 1)) rfl (by kernel_rfl) (by kernel_rfl) (by kernel_rfl) (fun c a w h => h) (Or.inl ⟨by kernel_rfl, fun w _ => by kernel_rfl⟩) hHeld ?_
              refine wpAnyH_take (i := 11) (v := .pointer (some ⟨b, o + j * 1, none⟩)) rfl (by kernel_rfl) (by kernel_rfl) (by kernel_rfl) (fun c a w h => h) (yields_indexI (by kernel_rfl) _ _ _ rfl b o s.value.f.length c33 j 1 (j : Int) (by kernel_rfl) (by kernel_rfl) Tryd.underlying39 (by kernel_rfl) rfl hj) hHeld ?_
              have hnx := HW.out.drew.set kc (bits .xor .u32 x 1) HC.out.1 HC.out.2.1
              refine anyH_store_cell 12 rfl (by kernel_rfl) (by kernel_rfl) 38 _ _ rfl b (o + j * 1) (.int .u32 (bits .xor .u32 x 1)) (.int .u32 x) (by kernel_rfl) (by kernel_rfl) rfl (by kernel_rfl) kc kf (HH.out _ _ _ HE.out.2.2.1 hnx) ?_
              refine wpAnyH_done (by kernel_rfl) ?_ _
              generalize World.setCell _ _ _ = wn at hnx ⊢
              have HN := Lib.hid hnx
              clear hnx kc kf hHeld
              go_wp2
              go_roundw
              case rel => exact ⟨j + 1, by go_num, HN.out⟩
              case measure => simp [intOf]; omega
            · have HW3 := HW
              obtain ⟨wx3, rfl⟩ : ∃ wx, wx = wr := ⟨_, rfl⟩
              clear HW
              have hj2 : ¬ ((j : Int) < (s.value.f.length : Int)) := by omega
              clear hj
              go_wp2_with fail
              go_loopw [16] (fun i wr => ∃ j : Nat, i = .int .i64 (j : Int) ∧ WInv w8 w1.heap.size w2.heap.size L wr) (fun i _ => s.value.i.length - (intOf i).toNat)
              case atStart => exact ⟨0, rfl, HW3.out⟩
              case round =>
                obtain ⟨j, rfl, hW⟩ := hrel
                have HW := Lib.hid hW
                have kh : wr.cell? ⟨w2.heap.size, 34, none⟩ = some (.slice A34 s.value.i.length c34) := HH.out _ _ _ HE.out.2.2.2.1 hW
                clear hW
                by_cases hj : j < s.value.i.length
                · obtain ⟨b, o, hA, h1, h2, hc⟩ := HW.out.spots (.i64, A34, s.value.i.length) (by rw [← HLs.out]; simp) (show s.value.i.length ≠ 0 by omega)
                  have hA' : A34 = some ⟨b, o, none⟩ := hA
                  subst hA'
                  obtain ⟨⟨x, kc⟩, kf⟩ := hc j hj
                  have hj0 : (0 : Int) ≤ (j : Int) := Int.natCast_nonneg _
                  have hj1 : (j : Int) < (s.value.i.length : Int) := by omega
                  have HC := Lib.hid (And.intro h1 (And.intro h2 (And.intro kc kf)))
                  clear hA hc h1 h2
                  have HH2 := Lib.hid (show wr.drew.cell? ⟨w2.heap.size, 34, none⟩ = some (.slice (some ⟨b, o, none⟩) s.value.i.length c34) from kh)
                  clear kc kf
                  go_wp2_with fail
                  clear kh
                  refine wp_region_held_drew (S := fun W => W.cell? ⟨w2.heap.size, 34, none⟩ = some (.slice (some ⟨b, o, none⟩) s.value.i.length c34)) (by kernel_rfl) HH2.out (fun hHeld => ?_)
                  refine wpAnyH_take (i := 0) (v := .pointer (some ⟨w2.heap.size, 31, none⟩)) rfl (by kernel_rfl) (by kernel_rfl) (by kernel_rfl) (fun c a w h => h) (Or.inl ⟨by kernel_rfl, fun w _ => by kernel_rfl⟩) hHeld ?_
                  refine wpAnyH_take (i := 1) (v := .pointer (some ⟨w2.heap.size, 34, none⟩)) rfl (by kernel_rfl) (by kernel_rfl) (by kernel_rfl) (fun c a w h => h) (Or.inl ⟨by kernel_rfl, fun w _ => by kernel_rfl⟩) hHeld ?_
                  refine wpAnyH_take (i := 2) (v := .slice (some ⟨b, o, none⟩) s.value.i.length c34) rfl (by kernel_rfl) (by kernel_rfl) (by kernel_rfl) (fun c a w h => h) (yields_load_slice (by kernel_rfl) _ _ rfl w2.heap.size 34 (by kernel_rfl) _ Tryd.underlying40 (fun _ h => h)) hHeld ?_
                  refine wpAnyH_take (i := 3) (v := .int .i64 (j : Int)) rfl (by kernel_rfl) (by kernel_rfl) (by kernel_rfl) (fun c a w h => h) (Or.inl ⟨by kernel_rfl, fun w _ => by kernel_rfl⟩) hHeld ?_
                  refine wpAnyH_take (i := 4) (v := .pointer (some ⟨w2.heap.size, 31, none⟩)) rfl (by kernel_rfl) (by kernel_rfl) (by kernel_rfl) (fun c a w h => h) (Or.inl ⟨by kernel_rfl, fun w _ => by kernel_rfl⟩) hHeld ?_
                  refine wpAnyH_take (i := 5) (v := .pointer (some ⟨w2.heap.size, 34, none⟩)) rfl (by kernel_rfl) (by kernel_rfl) (by kernel_rfl) (fun c a w h => h) (Or.inl ⟨by kernel_rfl, fun w _ => by kernel_rfl⟩) hHeld ?_
                  refine wpAnyH_take (i := 6) (v := .slice (some ⟨b, o, none⟩) s.value.i.length c34) rfl (by kernel_rfl) (by kernel_rfl) (by kernel_rfl) (fun c a w h => h) (yields_load_slice (by kernel_rfl) _ _ rfl w2.heap.size 34 (by kernel_rfl) _ Tryd.underlying40 (fun _ h => h)) hHeld ?_
                  refine wpAnyH_take (i := 7) (v := .int .i64 (j : Int)) rfl (by kernel_rfl) (by kernel_rfl) (by kernel_rfl) (fun c a w h => h) (Or.inl ⟨by kernel_rfl, fun w _ => by kernel_rfl⟩) hHeld ?_
                  refine wpAnyH_take (i := 8) (v := .pointer (some ⟨b, o + j * 1, none⟩)) rfl (by kernel_rfl) (by kernel_rfl) (by kernel_rfl) (fun c a w h => h) (yields_indexI (by kernel_rfl) _ _ _ rfl b o s.value.i.length c34 j 1 (j : Int) (by kernel_rfl) (by kernel_rfl) Tryd.underlying40 (by kernel_rfl) rfl hj) hHeld ?_
                  have kc : wr.drew.cell? ⟨b, o + j * 1, none⟩ = some (.int .i64 x) := by rw [Nat.mul_one]; exact HC.out.2.2.1
                  have kf : wr.drew.frozen? ⟨b, o + j * 1, none⟩ = false := by rw [Nat.mul_one]; exact HC.out.2.2.2
                  refine anyH_1 9 rfl (by kernel_rfl) ?_
                  refine steps_load_one (by kernel_rfl) 2 _ rfl b (o + j * 1) (by kernel_rfl) (.int .i64 x) _ Tryd.underlying2 rfl kc hHeld ?_
                  refine wpAnyH_take (i := 10) (v := .int .i64 (bits .xor .i64 x 1)) rfl (by kernel_rfl) (by kernel_rfl) (by kernel_rfl) (fun c a w h => h) (Or.inl ⟨by kernel_rfl, fun w _ => by kernel_rfl⟩) hHeld ?_
                  refine wpAnyH_take (i := 11) (v := .pointer (some ⟨b, o + j * 1, none⟩)) rfl (by kernel_rfl) (by kernel_rfl) (by kernel_rfl) (fun c a w h => h) (yields_indexI (by kernel_rfl) _ _ _ rfl b o s.value.i.length c34 j 1 (j : Int) (by kernel_rfl) (by kernel_rfl) Tryd.underlying40 (by kernel_rfl) rfl hj) hHeld ?_
                  have hnx := HW.out.drew.set kc (bits .xor .i64 x 1) HC.out.1 HC.out.2.1
                  refine anyH_store_cell 12 rfl (by kernel_rfl) (by kernel_rfl) 2 _ _ rfl b (o + j * 1) (.int .i64 (bits .xor .i64 x 1)) (.int .i64 x) (by kernel_rfl) (by kernel_rfl) rfl (by kernel_rfl) kc kf (HH.out _ _ _ HE.out.2.2.2.1 hnx) ?_
                  refine wpAnyH_done (by kernel_rfl) ?_ _
                  generalize World.setCell _ _ _ = wn at hnx ⊢
                  have HN := Lib.hid hnx
                  clear hnx kc kf hHeld
                  go_wp2
                  go_roundw
                  case rel => exact ⟨j + 1, by go_num, HN.out⟩
                  case measure => simp [intOf]; omega
                · have HW4 := HW
                  obtain ⟨wx4, rfl⟩ : ∃ wx, wx = wr := ⟨_, rfl⟩
                  clear HW
                  have hj2 : ¬ ((j : Int) < (s.value.i.length : Int)) := by omega
                  clear hj
                  go_wp2_with fail
                  go_loopw [17] (fun i wr => ∃ j : Nat, i = .int .i64 (j : Int) ∧ WInv w8 w1.heap.size w2.heap.size L wr) (fun i _ => s.value.dims.length - (intOf i).toNat)
                  case atStart => exact ⟨0, rfl, HW4.out⟩
                  case round =>
                    obtain ⟨j, rfl, hW⟩ := hrel
                    have HW := Lib.hid hW
                    have kh : wr.cell? ⟨w2.heap.size, 32, none⟩ = some (.slice A32 s.value.dims.length c32) := HH.out _ _ _ HE.out.2.2.2.2 hW
                    clear hW
                    by_cases hj : j < s.value.dims.length
                    · obtain ⟨b, o, hA, h1, h2, hc⟩ := HW.out.spots (.i64, A32, s.value.dims.length) (by rw [← HLs.out]; simp) (show s.value.dims.length ≠ 0 by omega)
                      have hA' : A32 = some ⟨b, o, none⟩ := hA
                      subst hA'
                      obtain ⟨⟨x, kc⟩, kf⟩ := hc j hj
                      have hj0 : (0 : Int) ≤ (j : Int) := Int.natCast_nonneg _
                      have hj1 : (j : Int) < (s.value.dims.length : Int) := by omega
                      have HC := Lib.hid (And.intro h1 (And.intro h2 (And.intro kc kf)))
                      clear hA hc h1 h2
                      have hnx := HW.out.set kc (-9) HC.out.1 HC.out.2.1
                      have HN := Lib.hid hnx
                      clear hnx
                      go_wp2
                      go_roundw
                      case rel => exact ⟨j + 1, by go_num, HN.out⟩
                      case measure => simp [intOf]; omega
                    · have HW5 := HW
                      obtain ⟨wx5, rfl⟩ : ∃ wx, wx = wr := ⟨_, rfl⟩
                      clear HW
                      have hj2 : ¬ ((j : Int) < (s.value.dims.length : Int)) := by omega
                      clear hj
                      have HIx := Lib.hid (show BoxInv w 36 [.string n.op, .string n.name, .slice A1 n.ins.length k1, .slice A2 n.outs.length k2, .slice A3 n.attrs.length k3] wx5 from ⟨HI8.out.below.trans (HW5.out.off.below (by have := HZ.out; omega) (by have := HZ.out; have := HQ.out.2.2.2.1; omega)), (HW5.out.off.block _ HI8.out.lt (by have := HZ.out; omega)).trans HI8.out.row⟩)
                      go_wp2_with (with_reducible refine wpList_load_agg rfl 36 _ rfl _ _ _ rfl [.string n.op, .string n.name, .slice A1 n.ins.length k1, .slice A2 n.outs.length k2, .slice A3 n.attrs.length k3] Tryd.underlying36 rfl (by kernel_rfl) (At.of_row HIx.out.row) ?_)
                      refine (HRes.out _ n wx5 (HT.out.1.ext HIx.out.below) (HIx.out.keeps' HT.out.2)).mono ?_
                      rw [HR1.out.1, HR1.out.2.1, HR1.out.2.2]
                      rintro e w9 ⟨ss4, rfl, hS, hb⟩
                      have HS4 := Lib.hid (And.intro hS.len (And.intro (set_one hS) hS))
                      have HI9 := Lib.hid (HIx.out.next hb)
                      have HOf := Lib.hid (HW5.out.off.next hb)
                      have HBw9 := Lib.hid hb
                      clear hb hS
                      go_wp2_with (first
                        | (with_reducible refine wpList_alloc_row rfl 45 rfl zeroS zeroS_zero ?_)
                        | (with_reducible refine wpList_store_agg rfl 45 _ _ rfl _ 0 ss4 rfl rfl 45 zeroS (heap_alloc_new _ _) (by rw [HS4.out.1]; kernel_rfl) (by rw [HS4.out.1, zeroS_len]; omega) HS4.out.2.1 ?_; have hX := laid_row w9 45 zeroS ss4 (by rw [HS4.out.1, zeroS_len]); generalize World.setRow _ _ _ = w10 at hX ⊢; have HXw10 := Lib.hid hX; clear hX; refine halt ?_))
                      unfold Halt
                      have HI10 := Lib.hid (HI9.out.next HXw10.out.1)
                      have HOx := Lib.hid (HOf.out.next HXw10.out.1)
                      have p2 : w10.heap[w4.heap.size]? = some (.cells ss2.toArray 45 (0, 0)) := (HOx.out.block _ (by have := HZ.out; have := HQ.out.2.2.2.1; omega) (by have := HZ.out; omega)).trans HQ.out.2.1
                      have p3 : w10.heap[w6.heap.size]? = some (.cells ss3.toArray 45 (0, 0)) := (HOx.out.block _ (by have := HZ.out; have := HQ.out.2.2.2.1; omega) (by have := HZ.out; omega)).trans HQ.out.2.2.1
                      have k2 : Keeps (fresh w3.heap.size w4.heap.size) w4 w10 := .of_block fun k hk => (HOx.out.block k (by have := hk.2; have := HZ.out; have := HQ.out.2.2.2.1; omega) (by have := hk.1; have := HZ.out; omega)).trans (HQ.out.2.2.2.2.2.1.block k hk.2)
                      have k3 : Keeps (fresh w5.heap.size w6.heap.size) w6 w10 := .of_block fun k hk => (HOx.out.block k (by have := hk.2; have := HZ.out; have := HQ.out.2.2.2.1; omega) (by have := hk.1; have := HZ.out; omega)).trans (HQ.out.2.2.2.2.2.2.block k hk.2)
                      have d2 : rep w10 (old w10.heap.size) ss2 s := Rep.more (Rep.keep (show rep w4 (fresh w3.heap.size w4.heap.size) ss2 s from HS2.out.2.2) k2) (fresh_old (by have := HOx.out.size; have := HZ.out; have := HQ.out.2.2.2.1; omega))
                      have d3 : rep w10 (old w10.heap.size) ss3 s := Rep.more (Rep.keep (show rep w6 (fresh w5.heap.size w6.heap.size) ss3 s from HS3.out.2.2) k3) (fresh_old (by have := HOx.out.size; have := HZ.out; have := HQ.out.2.2.2.1; omega))
                      have d4 : rep w10 (old w10.heap.size) ss4 s := Rep.more (Rep.keep (show rep w9 (fresh wx5.heap.size w9.heap.size) ss4 s from HS4.out.2.2) (Keeps.fresh_below HXw10.out.1 (Nat.le_refl _))) (fresh_old HXw10.out.1.size)
                      have HP := Lib.hid (And.intro p2 (And.intro p3 (And.intro d2 (And.intro d3 d4))))
                      clear p2 p3 k2 k3 d2 d3 d4
                      go_wp2_with (first
                        | (with_reducible refine wpList_load_agg_w (by kernel_rfl) 45 _ rfl _ w4.heap.size 0 rfl ss2 Tryd.underlying45 rfl (by rw [HS2.out.1]; kernel_rfl) (At.of_row HP.out.1) ?_)
                        | (with_reducible refine wpList_load_agg_w (by kernel_rfl) 45 _ rfl _ w6.heap.size 0 rfl ss3 Tryd.underlying45 rfl (by rw [HS3.out.1]; kernel_rfl) (At.of_row HP.out.2.1) ?_))
                      refine (same_any ss2 ss3 s w10 HP.out.2.2.1 HP.out.2.2.2.1).mono ?_
                      rintro e w11 ⟨rfl, hb⟩
                      have HB11 := Lib.hid hb
                      have y3 : w11.heap[w6.heap.size]? = some (.cells ss3.toArray 45 (0, 0)) := (hb.block _ (by have := HOx.out.size; have := HZ.out; have := HQ.out.2.2.2.1; omega)).trans HP.out.2.1
                      have y4 : w11.heap[w9.heap.size]? = some (.cells ss4.toArray 45 (0, 0)) := (hb.block _ (by rw [HXw10.out.2.2]; omega)).trans HXw10.out.2.1
                      have f3 : rep w11 (old w11.heap.size) ss3 s := Rep.more (Rep.keep HP.out.2.2.2.1 (Keeps.old_below hb (Nat.le_refl _))) (old_le hb.size)
                      have f4 : rep w11 (old w11.heap.size) ss4 s := Rep.more (Rep.keep HP.out.2.2.2.2 (Keeps.old_below hb (Nat.le_refl _))) (old_le hb.size)
                      have HY := Lib.hid (And.intro y3 (And.intro y4 (And.intro f3 f4)))
                      clear hb y3 y4 f3 f4
                      go_wp2_with (first
                        | (with_reducible refine wpList_load_agg_w (by kernel_rfl) 45 _ rfl _ w9.heap.size 0 rfl ss4 Tryd.underlying45 rfl (by rw [HS4.out.1]; kernel_rfl) (At.of_row HY.out.2.1) ?_)
                        | (with_reducible refine wpList_load_agg_w (by kernel_rfl) 45 _ rfl _ w6.heap.size 0 rfl ss3 Tryd.underlying45 rfl (by rw [HS3.out.1]; kernel_rfl) (At.of_row HY.out.1) ?_))
                      refine (same_any ss4 ss3 s w11 HY.out.2.2.2 HY.out.2.2.1).mono ?_
                      rintro e w12 ⟨rfl, hb⟩
                      have HB12 := Lib.hid (HI10.out.below.trans ((HB11.out.trans (hb.mono HB11.out.size)).mono (by have := HI10.out.lt; omega)))
                      clear hb
                      go_wp2
                      go_ret
                      exact ⟨rfl, HB12.out⟩

end Go.Proofs.YtgbkhcmbmffljaaDoor
