/-
  'Resolve', the second loop: what one attribute of the operator does, as facts.
-/
import Derived.Test.YtgbkhcmbmffljaaDoorResW
import Derived.Test.YtgbkhcmbmffljaaDoorOpsQ
import Derived.Test.YtgbkhcmbmffljaaDoorOpsK
set_option linter.unusedSimpArgs false
namespace Go.Proofs.YtgbkhcmbmffljaaDoor
open Go.RowKit
open Rep (rep)

theorem laid_row (W : World) (t : TypeId) (z cs : List Value) (hl : cs.length = z.length) :
    Below W.heap.size W ((W.alloc (.cells z.toArray t)).setRow W.heap.size (z.take 0 ++ cs ++ z.drop (0 + cs.length)).toArray) ∧
    ((W.alloc (.cells z.toArray t)).setRow W.heap.size (z.take 0 ++ cs ++ z.drop (0 + cs.length)).toArray).heap[W.heap.size]? = some (.cells cs.toArray t (0, 0)) ∧
    ((W.alloc (.cells z.toArray t)).setRow W.heap.size (z.take 0 ++ cs ++ z.drop (0 + cs.length)).toArray).heap.size = W.heap.size + 1 := by
  have e : z.take 0 ++ cs ++ z.drop (0 + cs.length) = cs := by
    rw [List.take_zero, List.nil_append, Nat.zero_add, List.drop_of_length_le (by omega), List.append_nil]
  rw [e]
  exact ⟨below_setRow' ((Below.refl _ _).alloc (Nat.le_refl _) _) (Nat.le_refl _) _, heap_setRow _ _ _ _ _ (heap_alloc_new _ _), by rw [size_setRow]; simp⟩
theorem grown_trans {a b c : World} {q : Option Nat} (h : a.grownBy b q) (k : b.grownBy c q) : a.grownBy c q :=
  ⟨k.os.trans h.os, k.tape.trans h.tape, k.output.trans h.output, Nat.le_trans h.size k.size, fun i hi hn => (k.block i (Nat.lt_of_lt_of_le hi h.size) hn).trans (h.block i hi hn)⟩
theorem grown_below {a b c : World} {q : Option Nat} (h : a.grownBy b q) (k : Below b.heap.size b c) : a.grownBy c q :=
  ⟨k.os.trans h.os, k.tape.trans h.tape, k.output.trans h.output, Nat.le_trans h.size k.size, fun i hi hn => (k.block i (Nat.lt_of_lt_of_le hi h.size)).trans (h.block i hi hn)⟩
theorem grown_drew {a b : World} {q : Option Nat} (h : a.grownBy b q) : a.grownBy b.drew q := ⟨h.os, h.tape, h.output, h.size, h.block⟩
/-- The setting in block g, in a world grown from w8. -/
structure LoopInv (w8 : World) (n0 g : Nat) (ss : List Value) (s : SettingD) (W : World) : Prop where
  grown : w8.grownBy W (some g)
  sets : Sets W g ss
  dat : SettingDAt W (freshBut n0 W.heap.size g) ss s
section
variable {w8 W W' : World} {n0 g : Nat} {ss : List Value} {s : SettingD}
theorem LoopInv.next (h : LoopInv w8 n0 g ss s W) (hb : Below W.heap.size W W') : LoopInv w8 n0 g ss s W' :=
  ⟨grown_below h.grown hb, h.sets.below hb, (inferInstance : Rep SettingD).more ((inferInstance : Rep SettingD).keep h.dat (.of_below hb fun _ hk => hk.2.1)) (freshBut_le (Nat.le_refl _) hb.size)⟩
theorem LoopInv.drew (h : LoopInv w8 n0 g ss s W) : LoopInv w8 n0 g ss s W.drew := ⟨grown_drew h.grown, ⟨h.sets.at', h.sets.len⟩, (inferInstance : Rep SettingD).keep h.dat (.of_block fun _ _ => rfl)⟩
theorem LoopInv.start {w6 : World} (_ : n0 ≤ w6.heap.size) (hl : ss.length = 36) (hd : SettingDAt w6 (fresh n0 w6.heap.size) ss s) :
    Below w6.heap.size w6 ((w6.alloc (.cells zeroS.toArray 45)).setRow w6.heap.size (zeroS.take 0 ++ ss ++ zeroS.drop (0 + ss.length)).toArray) ∧
    LoopInv ((w6.alloc (.cells zeroS.toArray 45)).setRow w6.heap.size (zeroS.take 0 ++ ss ++ zeroS.drop (0 + ss.length)).toArray) n0 w6.heap.size ss s
      ((w6.alloc (.cells zeroS.toArray 45)).setRow w6.heap.size (zeroS.take 0 ++ ss ++ zeroS.drop (0 + ss.length)).toArray) := by
  obtain ⟨h1, h2, h3⟩ := laid_row w6 45 zeroS ss (by rw [hl, zeroS_len])
  refine ⟨h1, World.grownBy.refl _ _, ⟨h2, hl⟩, (inferInstance : Rep SettingD).more ((inferInstance : Rep SettingD).keep hd (.of_below h1 fun _ hk => hk.2)) ⟨fun k hk => ⟨hk.1, by rw [h3]; exact Nat.lt_succ_of_lt hk.2, fun e => by have := hk.2; omega⟩, fun _ => rfl⟩⟩
end

section
variable {P : Program}
/-- A struct loaded, at a step of a region that draws its order. -/
theorem step_load_agg {ops : Array Oper} {o : Oper} {a : Act} {w : World} {K : Act → World → Prop} {Q : Exit → Act → World → Prop} {E : Prop} (hw : Region.wanted o (yielded ops a.tmps) = true) (ty : TypeId) (x : Operand) (ho : o.op = .load ty x)
    (d : TypeDesc) (b f : Nat) (hx : a.eval x = .pointer (some ⟨b, f, none⟩)) (cs : List Value) (hu : P.underlying ty = some d) (hd : (match d with | .struct _ | .array _ _ => true | _ => false) = true)
    (hi : (P.info? ty).map (·.size) = some cs.length) (hc : At w b f cs) (h : K (a.put o.dst (.agg cs.toArray)) w) :
    if Region.wanted o (yielded ops a.tmps) = true then Oper.wp P o a w K Q else E := by
  rw [if_pos hw]
  unfold Oper.wp execOp
  simp only [ho, hx, Instr.loadAt, Instr.sureAddr, Sem.run_bind, Sem.run_pure, Result.andThen_ok, run_load_agg w ty d b f cs hu hd hi hc]
  exact h
end
section
variable {P : Program}
/-- A struct stored, at a step of a region that draws its order. -/
theorem step_store_agg {ops : Array Oper} {o : Oper} {a : Act} {w : World} {K : Act → World → Prop} {Q : Exit → Act → World → Prop} {E : Prop} (hw : Region.wanted o (yielded ops a.tmps) = true) (ty : TypeId) (x y : Operand) (ho : o.op = .store ty x y)
    (g f : Nat) (cs : List Value) (hx : a.eval x = .pointer (some ⟨g, f, none⟩)) (hy : a.eval y = .agg cs.toArray)
    (t : TypeId) (cur : List Value) (hg : w.heap[g]? = some (.cells cur.toArray t (0, 0))) (hi : (P.info? ty).map (·.size) = some cs.length)
    (hfit : f + cs.length ≤ cur.length) (h1 : ∀ u ∈ cs, u.oneCell' = true)
    (h : K (a.put o.dst undef) (w.setRow g (cur.take f ++ cs ++ cur.drop (f + cs.length)).toArray)) :
    if Region.wanted o (yielded ops a.tmps) = true then Oper.wp P o a w K Q else E := by
  rw [if_pos hw]
  have hst := run_storeCells_at P g f t cs 0 cur.toArray w hg (by simpa using hfit) h1
  simp only [Nat.add_zero] at hst
  unfold Oper.wp execOp
  cases hq : P.info? ty with
  | none => simp [hq] at hi
  | some i =>
    have hs : i.size = cs.length := by simpa [hq] using hi
    have hv : (storeVar ty ⟨g, f, none⟩ (.agg cs.toArray)).run P w = .ok () (w.setRow g (cur.take f ++ cs ++ cur.drop (f + cs.length)).toArray) := by
      simp only [storeVar, Value.cells, sizeOf, typeInfo, List.size_toArray, Sem.run_bind]
      simp [hq, hs, hst]
    simp only [ho, hx, hy, Instr.storeAt, Instr.sureAddr, Sem.run_bind, Sem.run_pure, Result.andThen_ok, hv]
    exact h
end
section
variable {P : Program}
theorem yields_load_agg {ops : Array Oper} {S : World → Prop} {o : Oper} {a : Act} (hw : Region.wanted o (yielded ops a.tmps) = true) (ty : TypeId) (x : Operand) (ho : o.op = .load ty x)
    (d : TypeDesc) (b f : Nat) (hx : a.eval x = .pointer (some ⟨b, f, none⟩)) (cs : List Value) (hu : P.underlying ty = some d) (hd : (match d with | .struct _ | .array _ _ => true | _ => false) = true)
    (hi : (P.info? ty).map (·.size) = some cs.length) (hS : ∀ w, S w → At w b f cs) : YieldsIf P ops S o (.agg cs.toArray) a :=
  .inl ⟨hw, fun w h => by
    unfold execOp
    simp only [ho, hx, Instr.loadAt, Instr.sureAddr, Sem.run_bind, Sem.run_pure, Result.andThen_ok, run_load_agg w ty d b f cs hu hd hi (hS w h)]⟩
end
theorem panic_free {P : Program} {f : Func} {post : Ending → World → Prop} {K : Act → World → Prop} (c : List PanicEntry) (a b : Act) (w : World) (hd : a.defers = b.defers) (h : Exit.then K (bodyPost P f post) (.panic c) a w) : Exit.then K (bodyPost P f post) (.panic c) b w :=
  ⟨hd ▸ (show a.defers = [] ∧ post (.panicked c) w from h).1, (show a.defers = [] ∧ post (.panicked c) w from h).2⟩
theorem At.setRow_other {w : World} {b o g : Nat} {cs : List Value} (h : At w b o cs) (hg : b ≠ g) (x : Array Value) : At (w.setRow g x) b o cs := fun j u hu =>
  (World.cell?_of_block (w := w) (w' := w.setRow g x) (a := ⟨b, o + j, none⟩) (heap_setRow_other _ _ _ _ hg)).trans (h j u hu)
theorem anyH_store_agg {P : Program} {md : Region.Mode} {ops : Array Oper} {Q : Exit → Act → World → Prop} {S : World → Prop} {fuel : Nat} {listed : Array Bool} {a : Act} {w : World} {o : Oper} (i : Nat) (hio : ops[i]? = some o) (hr : Region.ready md ops listed = [i])
    (hw : Region.wanted o (yielded ops a.tmps) = true) (ty : TypeId) (x y : Operand) (ho : o.op = .store ty x y)
    (g f : Nat) (cs : List Value) (hx : a.eval x = .pointer (some ⟨g, f, none⟩)) (hy : a.eval y = .agg cs.toArray)
    (t : TypeId) (cur : List Value) (hg : w.heap[g]? = some (.cells cur.toArray t (0, 0))) (hi : (P.info? ty).map (·.size) = some cs.length)
    (hfit : f + cs.length ≤ cur.length) (h1 : ∀ u ∈ cs, u.oneCell' = true) (hS : S (w.setRow g (cur.take f ++ cs ++ cur.drop (f + cs.length)).toArray))
    (h : wpAnyH P md ops Q S fuel (listed.setIfInBounds i true) (a.put o.dst undef) (w.setRow g (cur.take f ++ cs ++ cur.drop (f + cs.length)).toArray)) : wpAnyH P md ops Q S (fuel + 1) listed a w :=
  wpAnyH_ready hr (by simp) (AllReadyH.cons hio (fun _ hK => step_store_agg hw ty x y ho g f cs hx hy t cur hg hi hfit h1 (hK.out _ _ hS (fun _ => h))) AllReadyH.nil)
theorem attr_cell1 {w : World} {Z : Zone} {acs : List Value} {z : AttrD} (h : rep w Z acs z) : acs[0]? = some (.string z.name) ∧ acs[1]? = some (.int .i64 z.kind) ∧ z.name.size ≤ reach := by
  obtain ⟨A1, k1, A2, k2, A3, k3, A4, k4, A5, k5, A6, k6, rfl, h0, _⟩ := open_AttrD h
  exact ⟨rfl, rfl, h0⟩

theorem reg_flat {w : World} {q1 q2 : Nat} {a0 a1 a2 b0 b1 b2 b3 b4 b5 b6 b7 b8 b9 b10 b11 : Value} (h1 : At w q1 0 [a0, a1, a2]) (h2 : At w q2 0 [b0, b1, b2, b3, b4, b5, b6, b7, b8, b9, b10, b11]) : w.cell? ⟨q1, 0, none⟩ = some a0 ∧ w.cell? ⟨q1, 1, none⟩ = some a1 ∧ w.cell? ⟨q1, 2, none⟩ = some a2 ∧ w.cell? ⟨q2, 0, none⟩ = some b0 ∧ w.cell? ⟨q2, 1, none⟩ = some b1 ∧ w.cell? ⟨q2, 2, none⟩ = some b2 ∧ w.cell? ⟨q2, 3, none⟩ = some b3 ∧ w.cell? ⟨q2, 4, none⟩ = some b4 ∧ w.cell? ⟨q2, 5, none⟩ = some b5 ∧ w.cell? ⟨q2, 6, none⟩ = some b6 ∧ w.cell? ⟨q2, 7, none⟩ = some b7 ∧ w.cell? ⟨q2, 8, none⟩ = some b8 ∧ w.cell? ⟨q2, 9, none⟩ = some b9 ∧ w.cell? ⟨q2, 10, none⟩ = some b10 ∧ w.cell? ⟨q2, 11, none⟩ = some b11 := ⟨h1 0 _ rfl, h1 1 _ rfl, h1 2 _ rfl, h2 0 _ rfl, h2 1 _ rfl, h2 2 _ rfl, h2 3 _ rfl, h2 4 _ rfl, h2 5 _ rfl, h2 6 _ rfl, h2 7 _ rfl, h2 8 _ rfl, h2 9 _ rfl, h2 10 _ rfl, h2 11 _ rfl⟩

theorem LoopInv.fin {w w8 W : World} {n0 g : Nat} {ss : List Value} {s : SettingD} (h : LoopInv w8 n0 g ss s W) (hn : w.heap.size + 1 < n0) (b : Array Value) :
    SettingDAt (W.drew.setRow (w.heap.size + 1) b) (fresh w.heap.size (W.drew.setRow (w.heap.size + 1) b).heap.size) ss s :=
  (inferInstance : Rep SettingD).more ((inferInstance : Rep SettingD).keep h.drew.dat (.of_block fun k hk => heap_setRow_other _ _ _ _ (by have := hk.1; omega)))
    ⟨fun k hk => ⟨by have := hk.1; omega, by rw [size_setRow]; exact hk.2.1⟩, fun _ => rfl⟩

/-- What the walk asks of a row's attributes. -/
def sortOk (x : SortD) : Bool := decide (x.name.size ≤ 1000) && lettersD.contains (x.letter.toNat : Int)
theorem rows_sorts : ((noRow :: tableD).all fun r => (sortsD r).all sortOk && decide ((sortsD r).length ≤ 64)) = true := by decide +kernel
theorem sorts_ok (op : Int) : (∀ x ∈ sortsD (findD op), x.name.size ≤ 1000 ∧ (x.letter.toNat : Int) ∈ lettersD) ∧ (sortsD (findD op)).length ≤ 64 := by
  have hm : findD op ∈ noRow :: tableD := by
    unfold findD
    split
    · simp
    · cases hz : tableD[(op - 1).toNat]? with
      | none => simp
      | some z => exact List.mem_cons_of_mem _ (List.mem_of_getElem? hz)
  have h := List.all_eq_true.1 rows_sorts _ hm
  simp only [Bool.and_eq_true, decide_eq_true_eq] at h
  refine ⟨fun x hx => ?_, h.2⟩
  have h2 := List.all_eq_true.1 h.1 x hx
  unfold sortOk at h2
  simp only [Bool.and_eq_true, decide_eq_true_eq] at h2
  exact ⟨h2.1, List.contains_iff_mem.1 h2.2⟩
theorem chunks_sorts {w : World} {Z : Zone} : ∀ (l : List SortD), (∀ x ∈ l, x.name.size ≤ 1000) → Chunks w Z (l.flatMap SortD.cells) l
  | [], _ => rfl
  | a :: l, h => ⟨a.cells, l.flatMap SortD.cells, rfl, rep_sort (by have := h a (by simp); unfold reach; omega), chunks_sorts l fun x hx => h x (by simp [hx])⟩

section
variable {op : Int} {l : List AttrD} {x : SortD} {xs : List SortD} {s : SettingD} {k : Nat} {a : AttrD}
theorem step_many (h : 1 < countD l x.name) : stepD op l (x :: xs) s k = none := by unfold stepD; rw [if_pos h]
theorem step_must (h : countD l x.name = 0) (hm : x.must = true) : stepD op l (x :: xs) s k = none := by unfold stepD; rw [if_neg (by omega), if_pos h, if_pos hm]
theorem step_skip (h : countD l x.name = 0) (hm : x.must = false) : stepD op l (x :: xs) s k = stepD op l xs s k := by rw [stepD, if_neg (by omega), if_pos h, if_neg (by rw [hm]; simp)]
theorem step_bad (h : countD l x.name = 1) (hf : foundD l x.name = some a) (hb : ¬ (a.kind = kindD x.letter.toNat ∧ mayD x.letter.toNat op x.name a = true)) : stepD op l (x :: xs) s k = none := by
  unfold stepD; rw [if_neg (by omega), if_neg (by omega), hf]; simp only; rw [if_neg hb]
theorem step_set (h : countD l x.name = 1) (hf : foundD l x.name = some a) (hb : a.kind = kindD x.letter.toNat ∧ mayD x.letter.toNat op x.name a = true) : stepD op l (x :: xs) s k = stepD op l xs (setD op a s) (k + 1) := by
  rw [stepD, if_neg (by omega), if_neg (by omega), hf]; simp only; rw [if_pos hb]
end
section
variable {n : NodeD} {op : Int} {s : SettingD} {k : Nat}
theorem resolve_none (hop : numberD n.op = op) (h0 : op ≠ 0) (hc : countsD (findD op) n = true) (hs : stepD op n.attrs (sortsD (findD op)) (leftD op) 0 = none) : resolveD n = (0, settingD0, 14) := by
  unfold resolveD
  rw [hop, if_neg h0, hc, hs]
  rfl
theorem resolve_bad (hop : numberD n.op = op) (h0 : op ≠ 0) (hc : countsD (findD op) n = true) (hs : stepD op n.attrs (sortsD (findD op)) (leftD op) 0 = some (s, k))
    (hb : k ≠ n.attrs.length ∨ op = 61 ∧ k ≠ 1 ∨ s.auto ≠ 0 ∧ 0 < countD n.attrs sPads) : resolveD n = (0, settingD0, 14) := by
  unfold resolveD
  rw [hop, if_neg h0, hc, hs]
  simp only [Bool.true_eq_false, if_false]
  rw [if_pos hb]
  rfl
theorem resolve_good (hop : numberD n.op = op) (h0 : op ≠ 0) (hc : countsD (findD op) n = true) (hs : stepD op n.attrs (sortsD (findD op)) (leftD op) 0 = some (s, k))
    (hb : ¬ (k ≠ n.attrs.length ∨ op = 61 ∧ k ≠ 1 ∨ s.auto ≠ 0 ∧ 0 < countD n.attrs sPads)) : resolveD n = (op, s, 0) := by
  unfold resolveD
  rw [hop, if_neg h0, hc, hs]
  simp only [Bool.true_eq_false, if_false]
  rw [if_neg hb]
end
def zeroSort : List Value := [.string ⟨#[]⟩, .int .u8 0, .bool false]
theorem zeroSort_zero : (Tryd.prog.info? 84).bind (·.zero) = some (.agg zeroSort.toArray) := by kernel_rfl
end Go.Proofs.YtgbkhcmbmffljaaDoor
