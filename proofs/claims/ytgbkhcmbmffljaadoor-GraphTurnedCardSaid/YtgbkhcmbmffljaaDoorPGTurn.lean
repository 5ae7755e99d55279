/-
  Chapter 09: whether the nodes of a model can be laid one behind the other does not hang on the order in which they stand. No program in sight.
-/
import Derived.Test.YtgbkhcmbmffljaaDoorPGStep
import Derived.Test.YtgbkhcmbmffljaaDoorPGChk2
set_option linter.unusedSimpArgs false
set_option linter.unusedVariables false
namespace Go.Proofs.YtgbkhcmbmffljaaDoor
/-- Is the i-th of these set? -/
def HasB (bs : List Bool) (i : Nat) : Prop := bs[i]? = some true
theorem hasB_getD {bs : List Bool} {i : Nat} : bs.getD i false = true ↔ HasB bs i := by
  unfold HasB
  rw [List.getD_eq_getElem?_getD]
  cases h : bs[i]? <;> simp
theorem hasB_set {bs : List Bool} {i j : Nat} : HasB (bs.set j true) i ↔ HasB bs i ∨ (i < bs.length ∧ j = i) := by
  unfold HasB
  rw [List.getElem?_set]
  by_cases e : j = i
  · subst e
    rw [if_pos rfl]
    by_cases h : j < bs.length
    · simp [h]
    · rw [if_neg h]
      simp [List.getElem?_eq_none (Nat.le_of_not_lt h), h]
  · rw [if_neg e]
    simp [e]
theorem hasB_sets {i : Nat} : ∀ (l : List Int) (bs : List Bool), HasB (setsT bs l) i ↔ HasB bs i ∨ (i < bs.length ∧ ∃ x ∈ l, x.toNat = i)
  | [], bs => by simp [setsT]
  | x :: l, bs => by
    show HasB (setsT (bs.set x.toNat true) l) i ↔ _
    rw [hasB_sets l, hasB_set, List.length_set]
    simp only [List.mem_cons, exists_eq_or_imp]
    constructor
    · rintro ((h | ⟨h, e⟩) | ⟨h, y, hy, e⟩)
      · exact .inl h
      · exact .inr ⟨h, .inl e⟩
      · exact .inr ⟨h, .inr ⟨y, hy, e⟩⟩
    · rintro (h | ⟨h, (e | ⟨y, hy, e⟩)⟩)
      · exact .inl (.inl h)
      · exact .inl (.inr ⟨h, e⟩)
      · exact .inr ⟨h, y, hy, e⟩
theorem hasB_there {i : Nat} : ∀ (l : List GNodeD) (bs : List Bool), HasB (thereD bs l) i ↔ HasB bs i ∨ (i < bs.length ∧ ∃ n ∈ l, ∃ x ∈ n.outs, x.toNat = i)
  | [], bs => by simp [thereD]
  | n :: l, bs => by
    show HasB (thereD (setsT bs n.outs) l) i ↔ _
    rw [hasB_there l, hasB_sets, setsT_len]
    simp only [List.mem_cons, exists_eq_or_imp]
    constructor
    · rintro ((h | ⟨h, e⟩) | ⟨h, y, hy, e⟩)
      · exact .inl h
      · exact .inr ⟨h, .inl e⟩
      · exact .inr ⟨h, .inr ⟨y, hy, e⟩⟩
    · rintro (h | ⟨h, (e | ⟨y, hy, e⟩)⟩)
      · exact .inl (.inl h)
      · exact .inl (.inr ⟨h, e⟩)
      · exact .inr ⟨h, y, hy, e⟩
theorem ready_iff {bs : List Bool} {g : GNodeD} : g.ins.any (lackD bs) = false ↔ ∀ x ∈ g.ins, x < 0 ∨ HasB bs x.toNat := by
  rw [List.any_eq_false]
  refine forall_congr' fun x => forall_congr' fun _ => ?_
  unfold lackD
  rw [← hasB_getD]
  simp only [Bool.and_eq_true, decide_eq_true_eq, Bool.not_eq_true', not_and, Bool.not_eq_false]
  constructor
  · intro h
    by_cases h0 : 0 ≤ x
    · exact .inr (h h0)
    · exact .inl (by omega)
  · rintro (h | h) h0
    · omega
    · exact h
theorem readyD_iff {bs : List Bool} {g : GNodeD} : readyD bs g = true ↔ ∀ x ∈ g.ins, x < 0 ∨ HasB bs x.toNat := by
  rw [← ready_iff]
  unfold readyD
  simp
theorem flows_append : ∀ (p q : List GNodeD) (bs : List Bool), flowsD bs (p ++ q) ↔ flowsD bs p ∧ flowsD (thereD bs p) q
  | [], q, bs => by simp [flowsD, thereD]
  | n :: p, q, bs => by
    show (_ ∧ flowsD (setsT bs n.outs) (p ++ q)) ↔ (_ ∧ flowsD (setsT bs n.outs) p) ∧ flowsD (thereD (setsT bs n.outs) p) q
    rw [flows_append p q, and_assoc]
theorem cons_erase {α : Type} {l : List α} {i : Nat} {z : α} (h : l[i]? = some z) : (z :: l.eraseIdx i).Perm l := by
  have hi := (List.getElem?_eq_some_iff.1 h).1
  have hz : l[i] = z := (List.getElem?_eq_some_iff.1 h).2
  rw [List.eraseIdx_eq_take_drop_succ]
  have e : l = l.take i ++ z :: l.drop (i + 1) := by
    rw [← hz, List.getElem_cons_drop, List.take_append_drop]
  exact (List.perm_middle.symm).trans (by rw [← e])
theorem order_spec : ∀ (k : Nat) (bs : List Bool) (left : List GNodeD), left.length ≤ k →
    flowsD bs (orderG k bs left).1 ∧ ((orderG k bs left).1 ++ (orderG k bs left).2).Perm left ∧ ∀ g ∈ (orderG k bs left).2, readyD (thereD bs (orderG k bs left).1) g = false
  | 0, bs, left, h => by
    have : left = [] := List.length_eq_zero_iff.1 (by omega)
    subst this
    exact ⟨trivial, List.Perm.refl _, by simp [orderG]⟩
  | k + 1, bs, left, h => by
    unfold orderG
    cases hf : left.findIdx? (readyD bs) with
    | none =>
      refine ⟨trivial, List.Perm.refl _, fun g hg => ?_⟩
      have := List.findIdx?_eq_none_iff.1 hf g hg
      simpa [thereD] using this
    | some i =>
      obtain ⟨hi, hr, -⟩ := List.findIdx?_eq_some_iff_getElem.1 hf
      have hn : left[i]? = some left[i] := List.getElem?_eq_getElem hi
      simp only [hn]
      have hp := cons_erase hn
      obtain ⟨h1, h2, h3⟩ := order_spec k (setsT bs left[i].outs) (left.eraseIdx i) (by rw [List.length_eraseIdx, if_pos hi]; omega)
      refine ⟨⟨?_, h1⟩, ?_, h3⟩
      · unfold readyD at hr; simpa using hr
      · exact (List.Perm.cons _ h2).trans hp
theorem first_in {α : Type} (r : List α) : ∀ (l : List α), (∃ z ∈ l, z ∈ r) → ∃ p z q, l = p ++ z :: q ∧ z ∈ r ∧ ∀ y ∈ p, y ∉ r
  | [], ⟨_, h, _⟩ => by simp at h
  | a :: l, ⟨z, hz, hr⟩ => by
    by_cases ha : a ∈ r
    · exact ⟨[], a, l, rfl, ha, by simp⟩
    · have hz' : z ∈ l := by
        rcases List.mem_cons.1 hz with rfl | h
        · exact absurd hr ha
        · exact h
      obtain ⟨p, y, q, rfl, h1, h2⟩ := first_in r l ⟨z, hz', hr⟩
      refine ⟨a :: p, y, q, rfl, h1, fun x hx => ?_⟩
      rcases List.mem_cons.1 hx with rfl | h
      · exact ha
      · exact h2 x h
/-- If they can be laid in any order at all, they are. -/
theorem order_end {k : Nat} {bs : List Bool} {left l : List GNodeD} (hk : left.length ≤ k) (hp : l.Perm left) (hf : flowsD bs l) : (orderG k bs left).2 = [] := by
  obtain ⟨h1, h2, h3⟩ := order_spec k bs left hk
  cases hr : (orderG k bs left).2 with
  | nil => rfl
  | cons g r =>
    exfalso
    rw [hr] at h2 h3
    obtain ⟨p, z, q, rfl, hz, hp'⟩ := first_in (g :: r) l ⟨g, hp.mem_iff.2 (h2.mem_iff.1 (by simp)), by simp⟩
    have hz1 := h3 z hz
    have hz2 := ((flows_append p (z :: q) bs).1 hf).2.1
    have hz3 := ready_iff.1 hz2
    have : readyD (thereD bs (orderG k bs left).1) z = true := by
      rw [readyD_iff]
      intro x hx
      rcases hz3 x hx with h | h
      · exact .inl h
      · refine .inr ?_
        rw [hasB_there] at h ⊢
        rcases h with h | ⟨h0, n, hn, y, hy, e⟩
        · exact .inl h
        · refine .inr ⟨h0, n, ?_, y, hy, e⟩
          have : n ∈ (orderG k bs left).1 ++ g :: r := h2.mem_iff.2 (hp.mem_iff.1 (by simp [hn]))
          rcases List.mem_append.1 this with h' | h'
          · exact h'
          · exact absurd h' (hp' n hn)
    rw [this] at hz1
    cases hz1
/-! The same by names. -/
def flowsN : (ByteArray → Prop) → List NodeD → Prop
  | _, [] => True
  | T, n :: l => (∀ s ∈ n.ins, s = ⟨#[]⟩ ∨ T s) ∧ flowsN (fun s => T s ∨ s ∈ n.outs) l
theorem place_inj {N : List ByteArray} {s t : ByteArray} (hs : s ∈ N) (ht : t ∈ N) (h : placeD N s = placeD N t) : s = t := by
  obtain ⟨i, h1, h2, _⟩ := place_in hs
  obtain ⟨j, h3, h4, _⟩ := place_in ht
  have : i = j := by omega
  subst this
  rw [h2] at h4
  injection h4
structure Named (N : List ByteArray) (g : GNodeD) (n : NodeD) : Prop where
  ins : g.ins = n.ins.map (placeD N)
  outs : g.outs = n.outs.map (placeD N)
  inN : ∀ s ∈ n.ins, s = ⟨#[]⟩ ∨ s ∈ N
  outN : ∀ s ∈ n.outs, s ∈ N
theorem flows_names {γ : Type} (G : γ → GNodeD) (F : γ → NodeD) {N : List ByteArray} (h0 : (⟨#[]⟩ : ByteArray) ∉ N) : ∀ (ys : List γ) (bs : List Bool) (T : ByteArray → Prop), bs.length = N.length → (∀ s ∈ N, HasB bs (placeD N s).toNat ↔ T s) → (∀ y ∈ ys, Named N (G y) (F y)) → (flowsD bs (ys.map G) ↔ flowsN T (ys.map F))
  | [], _, _, _, _, _ => by simp [flowsD, flowsN]
  | g :: gs, bs, T, hl, hT, hg => by
    show ((G g).ins.any (lackD bs) = false ∧ flowsD (setsT bs (G g).outs) (gs.map G)) ↔ ((∀ s ∈ (F g).ins, s = ⟨#[]⟩ ∨ T s) ∧ flowsN (fun s => T s ∨ s ∈ (F g).outs) (gs.map F))
    have hN := hg g (by simp)
    rw [flows_names G F h0 gs (setsT bs (G g).outs) (fun s => T s ∨ s ∈ (F g).outs) (by rw [setsT_len]; exact hl) ?_ (fun x hx => hg x (by simp [hx])), ready_iff]
    · refine and_congr_left fun _ => ?_
      rw [hN.ins]
      simp only [List.mem_map, forall_exists_index, and_imp, forall_apply_eq_imp_iff₂]
      refine forall_congr' fun s => forall_congr' fun hs => ?_
      rcases hN.inN s hs with e | hsN
      · subst e
        rw [place_out h0]
        simp
      · have hne : s ≠ ⟨#[]⟩ := fun e => h0 (e ▸ hsN)
        have hp := fun h => (place_iff N s).1 h hsN
        rw [hT s hsN]
        simp only [hne, false_or]
        exact ⟨fun h => h.resolve_left hp, .inr⟩
    · intro s hs
      rw [hasB_sets, hT s hs, hN.outs]
      refine or_congr_right ?_
      obtain ⟨i, h1, h2, h3⟩ := place_in hs
      constructor
      · rintro ⟨_, x, hx, e⟩
        obtain ⟨t, ht, rfl⟩ := List.mem_map.1 hx
        have htN := hN.outN t ht
        obtain ⟨j, k1, _, _⟩ := place_in htN
        rw [← place_inj htN hs (by omega)]
        exact ht
      · intro h
        exact ⟨by omega, placeD N s, List.mem_map.2 ⟨s, h, rfl⟩, rfl⟩
theorem perm_lift {α β : Type} {f : α → β} {L M : List β} (h : L.Perm M) : ∀ xs : List α, M = xs.map f → ∃ ys : List α, ys.Perm xs ∧ ys.map f = L := by
  induction h with
  | nil => intro xs h; exact ⟨xs, List.Perm.refl _, h.symm⟩
  | cons a _ ih =>
    intro xs h
    cases xs with
    | nil => cases h
    | cons x xs =>
      simp only [List.map_cons, List.cons.injEq] at h
      obtain ⟨ys, h1, h2⟩ := ih xs h.2
      exact ⟨x :: ys, h1.cons x, by simp [h2, h.1]⟩
  | swap a b l =>
    intro xs h
    cases xs with
    | nil => cases h
    | cons x xs =>
      cases xs with
      | nil => simp at h
      | cons y xs =>
        simp only [List.map_cons, List.cons.injEq] at h
        exact ⟨y :: x :: xs, List.Perm.swap x y xs, by simp [h.1, h.2.1, h.2.2]⟩
  | trans _ _ ih1 ih2 =>
    intro xs h
    obtain ⟨ys, h1, h2⟩ := ih2 xs h
    obtain ⟨zs, h3, h4⟩ := ih1 ys h2.symm
    exact ⟨zs, h3.trans h1, h4⟩
/-! The nodes of a model, all their names one another's. -/
theorem place_at {N : List ByteArray} (hN : N.Nodup) {s : ByteArray} {i : Nat} (hi : N[i]? = some s) : placeD N s = (i : Int) := by
  obtain ⟨j, h1, h2, h3⟩ := place_in (List.mem_of_getElem? hi)
  rw [h1]
  have h4 := (List.getElem?_eq_some_iff.1 hi).1
  have hp := List.pairwise_iff_getElem.1 hN
  have e1 := (List.getElem?_eq_some_iff.1 hi).2
  have e2 := (List.getElem?_eq_some_iff.1 h2).2
  rcases Nat.lt_trichotomy i j with h | h | h
  · exact absurd (e1.trans e2.symm) (hp i j h4 h3 h)
  · rw [h]
  · exact absurd (e2.trans e1.symm) (hp j i h3 h4 h)
theorem seq_place {N A O R : List ByteArray} (hN : N.Nodup) (e : N = A ++ (O ++ R)) : O.map (placeD N) = seqI A.length O.length := by
  apply List.ext_getElem?
  intro j
  by_cases hj : j < O.length
  · have h1 : N[A.length + j]? = some O[j] := by
      rw [e, List.getElem?_append_right (by omega), Nat.add_sub_cancel_left, List.getElem?_append_left hj, List.getElem?_eq_getElem hj]
    rw [List.getElem?_map, List.getElem?_eq_getElem hj, Option.map_some, place_at hN h1]
    simp [seqI, List.getElem?_range, hj]
  · rw [List.getElem?_eq_none (by simpa using hj), List.getElem?_eq_none (by rw [seqI_len]; omega)]
def gnodeN (N : List ByteArray) (p : NodeD × Nat) : GNodeD := ⟨(resolveD p.1).1, (resolveD p.1).2.1, p.1.ins.map (placeD N), p.1.outs.map (placeD N), (p.2 : Int)⟩
theorem gnodes_eq {N : List ByteArray} (hN : N.Nodup) : ∀ (l : List NodeD) (A : List ByteArray) (i : Nat), N = A ++ l.flatMap (·.outs) → inedD N l (outedD A.length l (baresD i l)) = (l.zipIdx i).map (gnodeN N)
  | [], _, _, _ => rfl
  | n :: l, A, i, e => by
    rw [List.flatMap_cons] at e
    have h := gnodes_eq hN l (A ++ n.outs) (i + 1) (by rw [e, List.append_assoc])
    rw [List.length_append] at h
    show _ :: inedD N l (outedD (A.length + n.outs.length) l (baresD (i + 1) l)) = _
    rw [h, List.zipIdx_cons, List.map_cons]
    congr 1
    unfold gnodeN bareD
    rw [seq_place hN e]
theorem gnodesM_eq {m : ModelD} (hN : (namesM m).Nodup) : gnodesM m = m.nodes.zipIdx.map (gnodeN (namesM m)) := by
  have h := gnodes_eq hN m.nodes (m.inits.map (·.name) ++ m.inputs.map (·.name)) 0 rfl
  rw [List.length_append, List.length_map, List.length_map] at h
  exact h
def liveN (n : NodeD) : Bool := decide ((resolveD n).1 ≠ 61)
def leftP (m : ModelD) : List (NodeD × Nat) := m.nodes.zipIdx.filter fun p => liveN p.1
theorem leftM_eq {m : ModelD} (hN : (namesM m).Nodup) : leftM m = (leftP m).map (gnodeN (namesM m)) := by
  unfold leftM leftP
  rw [gnodesM_eq hN, List.filter_map]
  rfl
theorem leftP_nodes (m : ModelD) : (leftP m).map (·.1) = m.nodes.filter liveN := by
  unfold leftP
  have h : ∀ (l : List (NodeD × Nat)), (l.filter fun p => liveN p.1).map (·.1) = (l.map (·.1)).filter liveN := fun l => by
    rw [List.filter_map]; rfl
  rw [h]
  congr 1
  simp
/-! Which values are there ahead of all nodes. -/
def flagsM (m : ModelD) : List (ByteArray × Bool) := m.inits.map (fun c => (c.name, true)) ++ m.inputs.map (fun v => (v.name, false)) ++ m.nodes.flatMap fun n => n.outs.map fun s => (s, !liveN n)
theorem out_flags : ∀ (l : List NodeD) (i : Nat), (outVals l (baresD i l)).map (·.const) = (l.flatMap fun n => n.outs.map fun s => (s, !liveN n)).map (·.2)
  | [], _ => rfl
  | n :: l, i => by
    show (n.outs.map (fun _ => outV (bareD i n)) ++ outVals l (baresD (i + 1) l)).map (·.const) = _
    rw [List.map_append, out_flags l (i + 1), List.flatMap_cons, List.map_append, List.map_map, List.map_map]
    congr 1
    refine List.map_congr_left fun s _ => ?_
    show (outV (bareD i n)).const = !liveN n
    unfold outV liveN
    show (if (resolveD n).1 = 61 then _ else _ : ValD).const = _
    by_cases h : (resolveD n).1 = 61
    · rw [if_pos h]; simp [h, constD]
    · rw [if_neg h]; simp [h, noVal]
theorem vals_flags (m : ModelD) : (valsM m).map (·.const) = (flagsM m).map (·.2) := by
  unfold valsM flagsM
  simp only [List.map_append, out_flags, List.map_map]
  rfl
theorem names_flags (m : ModelD) : namesM m = (flagsM m).map (·.1) := by
  unfold namesM flagsM
  simp only [List.map_append, List.map_map, List.map_flatMap]
  congr 1
  refine congrArg (fun f => m.nodes.flatMap f) (funext fun n => ?_)
  rw [show ((fun x : ByteArray × Bool => x.1) ∘ fun s => (s, !liveN n)) = id from rfl, List.map_id]
theorem flag_at {P : List (ByteArray × Bool)} (hN : (P.map (·.1)).Nodup) {s : ByteArray} (hs : s ∈ P.map (·.1)) : HasB (P.map (·.2)) (placeD (P.map (·.1)) s).toNat ↔ (s, true) ∈ P := by
  obtain ⟨i, h1, h2, h3⟩ := place_in hs
  rw [h1, Int.toNat_natCast]
  unfold HasB
  rw [List.getElem?_map] at h2 ⊢
  constructor
  · intro h
    cases hp : P[i]? with
    | none => rw [hp] at h; cases h
    | some p =>
      rw [hp] at h h2
      simp only [Option.map_some, Option.some.injEq] at h h2
      have := List.mem_of_getElem? hp
      rwa [show p = (s, true) from Prod.ext h2 h] at this
  · intro h
    obtain ⟨j, hj⟩ := List.getElem?_of_mem h
    have h4 : (P.map (·.1))[j]? = some s := by rw [List.getElem?_map, hj]; rfl
    have h5 := place_at hN h4
    have : i = j := by omega
    subst this
    rw [hj]
    rfl
/-- .. by names. -/
def startN (m : ModelD) (s : ByteArray) : Prop := (s, true) ∈ flagsM m ∨ s ∈ m.inputs.map (·.name)
theorem defined_names {m : ModelD} (hN : (namesM m).Nodup) {s : ByteArray} (hs : s ∈ namesM m) : HasB (definedD (startM m)) (placeD (namesM m) s).toNat ↔ startN m s := by
  unfold definedD startN
  rw [hasB_sets]
  show (HasB ((valsM m).map (·.const)) _ ∨ _ < ((valsM m).map (·.const)).length ∧ ∃ x ∈ inputsM m, _) ↔ _
  have e : (m.inputs.map (·.name)).map (placeD (namesM m)) = inputsM m := by
    have := seq_place (A := m.inits.map (·.name)) (O := m.inputs.map (·.name)) (R := m.nodes.flatMap (·.outs)) hN (by unfold namesM; rw [List.append_assoc])
    rw [this, List.length_map, List.length_map]
    rfl
  rw [← e, vals_flags]
  have hN' := hN
  have hs' := hs
  rw [names_flags] at hN' hs'
  have h1 := flag_at hN' hs'
  rw [← names_flags] at h1
  rw [h1]
  refine or_congr_right ?_
  obtain ⟨i, h2, h3, h4⟩ := place_in hs
  constructor
  · rintro ⟨_, x, hx, hxe⟩
    obtain ⟨t, ht, rfl⟩ := List.mem_map.1 hx
    have htN : t ∈ namesM m := by unfold namesM; simp only [List.mem_append]; exact .inl (.inr ht)
    obtain ⟨j, h5, _⟩ := place_in htN
    rw [← place_inj htN hs (by omega)]
    exact ht
  · intro h
    refine ⟨?_, placeD (namesM m) s, List.mem_map.2 ⟨s, h, rfl⟩, rfl⟩
    rw [List.length_map, ← List.length_map (f := (·.1)), ← names_flags]
    omega
/-! A model whose nodes can be laid. -/
structure Sane (m : ModelD) : Prop where
  once : (namesM m).Nodup
  named : (⟨#[]⟩ : ByteArray) ∉ namesM m
  ins : ∀ n ∈ m.nodes, ∀ s ∈ n.ins, s = ⟨#[]⟩ ∨ s ∈ namesM m
theorem Sane.node {m : ModelD} (h : Sane m) {p : NodeD × Nat} (hp : p ∈ m.nodes.zipIdx) : Named (namesM m) (gnodeN (namesM m) p) p.1 := by
  have hm : p.1 ∈ m.nodes := by
    have := List.mem_map_of_mem (f := (·.1)) hp
    simpa using this
  refine ⟨rfl, rfl, h.ins _ hm, fun s hs => ?_⟩
  unfold namesM
  simp only [List.mem_append, List.mem_flatMap]
  exact .inr ⟨_, hm, hs⟩
theorem vals_len (m : ModelD) : (valsM m).length = (namesM m).length := by
  have h := congrArg List.length (vals_flags m)
  rw [List.length_map, List.length_map] at h
  rw [h, names_flags, List.length_map]
theorem defined_start_len (m : ModelD) : (definedD (startM m)).length = (namesM m).length := by
  rw [definedD_len]
  exact vals_len m
theorem Sane.flows {m : ModelD} (h : Sane m) {ys : List (NodeD × Nat)} (hy : ∀ p ∈ ys, p ∈ m.nodes.zipIdx) : flowsD (definedD (startM m)) (ys.map (gnodeN (namesM m))) ↔ flowsN (startN m) (ys.map (·.1)) :=
  flows_names (gnodeN (namesM m)) (·.1) h.named ys _ _ (defined_start_len m) (fun s hs => defined_names h.once hs) fun p hp => h.node (hy p hp)
theorem left_sub {m : ModelD} {p : NodeD × Nat} (h : p ∈ leftP m) : p ∈ m.nodes.zipIdx := (List.mem_filter.1 h).1
theorem orders_iff {m : ModelD} (h : Sane m) : (orderM m).2 = [] ↔ ∃ l, l.Perm (m.nodes.filter liveN) ∧ flowsN (startN m) l := by
  constructor
  · intro h0
    obtain ⟨h1, h2, h3⟩ := order_spec (leftM m).length (definedD (startM m)) (leftM m) (Nat.le_refl _)
    have e : (orderG (leftM m).length (definedD (startM m)) (leftM m)).2 = [] := h0
    rw [e, List.append_nil] at h2
    obtain ⟨ys, h4, h5⟩ := perm_lift h2 _ (leftM_eq h.once)
    rw [← h5] at h1
    refine ⟨ys.map (·.1), ?_, (h.flows (fun p hp => left_sub (h4.mem_iff.1 hp))).1 h1⟩
    rw [← leftP_nodes]
    exact h4.map _
  · rintro ⟨l, h1, h2⟩
    obtain ⟨ys, h3, rfl⟩ := perm_lift h1 _ (leftP_nodes m).symm
    have h4 := (h.flows (fun p hp => left_sub (h3.mem_iff.1 hp))).2 h2
    exact order_end (Nat.le_refl _) (by rw [leftM_eq h.once]; exact h3.map _) h4
theorem bad_none : ∀ (l : List (ByteArray × Int)) (seen : List ByteArray), firstBad seen l = none ↔ (∀ p ∈ l, p.1 ≠ ⟨#[]⟩ ∧ p.1 ∉ seen) ∧ (l.map (·.1)).Nodup
  | [], _ => by simp [firstBad]
  | (s, i) :: l, seen => by
    unfold firstBad
    by_cases h : s = ⟨#[]⟩ ∨ s ∈ seen
    · rw [if_pos h]
      constructor
      · intro h'; cases h'
      · rintro ⟨h1, _⟩
        have := h1 (s, i) (by simp)
        rcases h with h | h
        · exact absurd h this.1
        · exact absurd h this.2
    · rw [if_neg h, bad_none l]
      rw [not_or] at h
      simp only [List.map_cons, List.nodup_cons, List.mem_cons, List.mem_append, List.not_mem_nil, or_false, forall_eq_or_imp, List.mem_map, not_exists, not_and, not_or]
      constructor
      · rintro ⟨h1, h2⟩
        exact ⟨⟨h, fun p hp => ⟨(h1 p hp).1, (h1 p hp).2.1⟩⟩, fun p hp e => (h1 p hp).2.2 e, h2⟩
      · rintro ⟨⟨_, h1⟩, h2, h3⟩
        exact ⟨fun p hp => ⟨(h1 p hp).1, (h1 p hp).2, fun e => h2 p hp e⟩, h3⟩
theorem namesAt_names (m : ModelD) : (namesAt m).map (·.1) = namesM m := by
  have h : ∀ (l : List NodeD) (i : Nat), (outsAt i l).map (·.1) = l.flatMap (·.outs) := fun l => by
    induction l with
    | nil => intro i; rfl
    | cons n l ih =>
      intro i
      show (n.outs.map _ ++ outsAt (i + 1) l).map _ = _
      rw [List.map_append, ih, List.flatMap_cons, List.map_map]
      congr 1
      exact List.map_id _
  unfold namesAt namesM
  rw [List.map_append, List.map_append, List.map_map, List.map_map, h]
  rfl
theorem bad_iff (m : ModelD) : firstBad [] (namesAt m) = none ↔ (namesM m).Nodup ∧ (⟨#[]⟩ : ByteArray) ∉ namesM m := by
  rw [bad_none, namesAt_names, and_comm]
  refine and_congr_right fun _ => ?_
  rw [← namesAt_names, List.mem_map]
  constructor
  · rintro h ⟨p, hp, e⟩
    exact (h p hp).1 e
  · intro h p hp
    exact ⟨fun e => h ⟨p, hp, e⟩, by simp⟩
theorem wrong_none : ∀ (l : List NodeD) (i : Nat), wrongAt i l = none ↔ ∀ n ∈ l, (resolveD n).2.2 = 0
  | [], _ => by simp [wrongAt]
  | n :: l, i => by
    unfold wrongAt
    by_cases h : (resolveD n).2.2 = 0
    · rw [if_neg (by simpa using h), wrong_none l]
      simp [h]
    · rw [if_pos h]
      simp [h]
theorem lack_none (N : List ByteArray) : ∀ (l : List NodeD) (i : Nat), firstLack N i l = none ↔ ∀ n ∈ l, ∀ s ∈ n.ins, s = ⟨#[]⟩ ∨ s ∈ N
  | [], _ => by simp [firstLack]
  | n :: l, i => by
    have e : lacksN N n = false ↔ ∀ s ∈ n.ins, s = ⟨#[]⟩ ∨ s ∈ N := by
      unfold lacksN
      rw [List.any_eq_false]
      refine forall_congr' fun s => forall_congr' fun _ => ?_
      simp only [Bool.and_eq_true, decide_eq_true_eq, not_and, Classical.not_not]
      exact ⟨fun h => Classical.byCases .inl fun h' => .inr (h h'), fun h h' => h.resolve_left h'⟩
    unfold firstLack
    cases h : lacksN N n with
    | true =>
      rw [if_pos rfl]
      simp only [List.mem_cons, forall_eq_or_imp, reduceCtorEq, false_iff, not_and]
      intro h'
      rw [e.2 h'] at h
      cases h
    | false =>
      rw [if_neg (by decide), lack_none N l]
      simp only [List.mem_cons, forall_eq_or_imp]
      exact ⟨fun h' => ⟨e.1 h, h'⟩, fun h' => h'.2⟩
theorem lacksOut_iff (N : List ByteArray) (m : ModelD) : lacksOut N m = false ↔ ∀ v ∈ m.outputs, v.name ∈ N := by
  unfold lacksOut
  rw [List.any_eq_false]
  simp
/-- A model that is taken. -/
structure TakenM (m : ModelD) : Prop where
  check : checkD m = 0
  right : ∀ n ∈ m.nodes, (resolveD n).2.2 = 0
  sane : Sane m
  outs : ∀ v ∈ m.outputs, v.name ∈ namesM m
  laid : (orderM m).2 = []
theorem build_taken {m : ModelD} (h : TakenM m) : buildD m = ({ startM m with nodes := (orderM m).1 }, 0, 0) := by
  unfold buildD
  rw [if_neg (by simpa using h.check), (wrong_none _ _).2 h.right]
  simp only
  rw [(bad_iff m).2 ⟨h.sane.once, h.sane.named⟩]
  simp only
  rw [(lack_none _ _ _).2 h.sane.ins]
  simp only
  rw [if_neg (by rw [(lacksOut_iff _ _).2 h.outs]; decide), h.laid]
theorem build_not {m : ModelD} (h : ¬ TakenM m) : (buildD m).1 = emptyG ∧ (buildD m).2.1 ≠ 0 := by
  unfold buildD
  by_cases h1 : checkD m = 0
  · rw [if_neg (by simpa using h1)]
    cases h2 : wrongAt 0 m.nodes with
    | some p =>
      obtain ⟨e, i⟩ := p
      refine ⟨rfl, ?_⟩
      have hw : ∀ (l : List NodeD) (k : Nat), wrongAt k l = some (e, i) → e ≠ 0 := fun l => by
        induction l with
        | nil => intro k h; cases h
        | cons n l ih =>
          intro k h
          unfold wrongAt at h
          split at h
          · rename_i h'
            simp only [Option.some.injEq, Prod.mk.injEq] at h
            rw [← h.1]; exact h'
          · exact ih _ h
      exact hw _ _ h2
    | none =>
      simp only
      cases h3 : firstBad [] (namesAt m) with
      | some i => exact ⟨rfl, by show (13 : Int) ≠ 0; decide⟩
      | none =>
        simp only
        cases h4 : firstLack (namesM m) 0 m.nodes with
        | some i => exact ⟨rfl, by show (13 : Int) ≠ 0; decide⟩
        | none =>
          simp only
          by_cases h5 : lacksOut (namesM m) m = true
          · rw [if_pos h5]; exact ⟨rfl, by show (13 : Int) ≠ 0; decide⟩
          · rw [if_neg h5]
            cases h6 : (orderM m).2 with
            | cons z r => exact ⟨rfl, by show (12 : Int) ≠ 0; decide⟩
            | nil =>
              exfalso
              have h7 := (bad_iff m).1 h3
              exact h ⟨h1, (wrong_none _ _).1 h2, ⟨h7.1, h7.2, (lack_none _ _ _).1 h4⟩, (lacksOut_iff _ _).1 (by simpa using h5), h6⟩
  · rw [if_pos h1]; exact ⟨rfl, h1⟩
theorem taken_nodes {m : ModelD} (h : TakenM m) : (buildD m).1.nodes.length = (m.nodes.filter liveN).length := by
  rw [build_taken h]
  show (orderG _ _ _).1.length = _
  obtain ⟨h1, h2, h3⟩ := order_spec (leftM m).length (definedD (startM m)) (leftM m) (Nat.le_refl _)
  have e : (orderG (leftM m).length (definedD (startM m)) (leftM m)).2 = [] := h.laid
  rw [e, List.append_nil] at h2
  rw [h2.length_eq, leftM_eq h.sane.once, List.length_map, ← leftP_nodes, List.length_map]
theorem taken_vals {m : ModelD} (h : TakenM m) : (buildD m).1.vals.length = (namesM m).length := by
  rw [build_taken h]
  exact vals_len m
/-! Nodes in another order. -/
theorem any_perm {α : Type} (p : α → Bool) {l r : List α} (h : l.Perm r) : l.any p = r.any p := by
  rw [Bool.eq_iff_iff, List.any_eq_true, List.any_eq_true]
  exact ⟨fun ⟨x, hx, e⟩ => ⟨x, h.mem_iff.1 hx, e⟩, fun ⟨x, hx, e⟩ => ⟨x, h.mem_iff.2 hx, e⟩⟩
section
variable {m : ModelD} {l : List NodeD}
theorem check_perm (h : l.Perm m.nodes) : checkD { m with nodes := l } = checkD m := by
  unfold checkD badM manyM
  simp only [any_perm wrongN h, any_perm manyN h, h.length_eq]
theorem names_perm (h : l.Perm m.nodes) : (namesM { m with nodes := l }).Perm (namesM m) := by
  unfold namesM
  exact List.Perm.append_left _ (List.Perm.flatMap_right _ h)
theorem flags_perm (h : l.Perm m.nodes) : (flagsM { m with nodes := l }).Perm (flagsM m) := by
  unfold flagsM
  exact List.Perm.append_left _ (List.Perm.flatMap_right _ h)
theorem taken_perm (h : l.Perm m.nodes) (k : TakenM m) : TakenM { m with nodes := l } := by
  have hn := names_perm h
  have hs : Sane { m with nodes := l } := ⟨hn.nodup_iff.2 k.sane.once, fun e => k.sane.named (hn.mem_iff.1 e), fun n hm s hs => (k.sane.ins n (h.mem_iff.1 hm) s hs).imp id hn.mem_iff.2⟩
  refine ⟨by rw [check_perm h]; exact k.check, fun n hm => k.right n (h.mem_iff.1 hm), hs, fun v hv => hn.mem_iff.2 (k.outs v hv), ?_⟩
  obtain ⟨r, h1, h2⟩ := (orders_iff k.sane).1 k.laid
  refine (orders_iff hs).2 ⟨r, h1.trans (h.filter liveN).symm, ?_⟩
  have e : startN { m with nodes := l } = startN m := by
    funext s
    unfold startN
    rw [(flags_perm h).mem_iff]
  rw [e]
  exact h2
theorem turned_same (h : l.Perm m.nodes) : ((buildD m).2.1 = 0 ↔ (buildD { m with nodes := l }).2.1 = 0) ∧ (buildD m).1.nodes.length = (buildD { m with nodes := l }).1.nodes.length ∧ (buildD m).1.vals.length = (buildD { m with nodes := l }).1.vals.length := by
  by_cases k : TakenM m
  · have k' := taken_perm h k
    refine ⟨by rw [build_taken k, build_taken k'], ?_, ?_⟩
    · rw [taken_nodes k, taken_nodes k']
      exact ((h.filter liveN).length_eq).symm
    · rw [taken_vals k, taken_vals k']
      exact (names_perm h).length_eq.symm
  · have k' : ¬ TakenM { m with nodes := l } := fun k' => k (taken_perm (m := { m with nodes := l }) (l := m.nodes) h.symm k')
    obtain ⟨h1, h2⟩ := build_not k
    obtain ⟨h3, h4⟩ := build_not k'
    rw [h1, h3]
    exact ⟨⟨fun e => absurd e h2, fun e => absurd e h4⟩, rfl, rfl⟩
end
end Go.Proofs.YtgbkhcmbmffljaaDoor
