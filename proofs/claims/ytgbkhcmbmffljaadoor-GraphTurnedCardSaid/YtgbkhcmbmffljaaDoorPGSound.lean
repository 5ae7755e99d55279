/-
  Chapter 09: what Build takes is sound, and stays so when what is dead is gone. No program in sight.
-/
import Derived.Test.YtgbkhcmbmffljaaDoorPGTurn
import Derived.Test.YtgbkhcmbmffljaaDoorPGReady
set_option linter.unusedSimpArgs false
set_option linter.unusedVariables false
namespace Go.Proofs.YtgbkhcmbmffljaaDoor
/-- The nodes that are marked. -/
def keepD : List GNodeD → List Bool → List GNodeD
  | n :: l, b :: bs => if b = true then n :: keepD l bs else keepD l bs
  | _, _ => []
def pruneD (g : GraphD) : GraphD := { g with nodes := keepD g.nodes (liveD g) }
def keptD (want : Int → Bool) (l : List GNodeD) : List GNodeD := keepD l (liveS l want).1
theorem liveS_cons (n : GNodeD) (l : List GNodeD) (want : Int → Bool) : liveS (n :: l) want = liveStep n (liveS l want) := rfl
theorem kept_live {n : GNodeD} {l : List GNodeD} {want : Int → Bool} (h : n.outs.any (liveS l want).2 = true) : keptD want (n :: l) = n :: keptD want l ∧ (liveS (n :: l) want).2 = fun k => (liveS l want).2 k || n.ins.contains k := by
  unfold keptD
  rw [liveS_cons]
  unfold liveStep
  rw [h]
  exact ⟨rfl, rfl⟩
theorem kept_dead {n : GNodeD} {l : List GNodeD} {want : Int → Bool} (h : n.outs.any (liveS l want).2 = false) : keptD want (n :: l) = keptD want l ∧ (liveS (n :: l) want).2 = (liveS l want).2 := by
  unfold keptD
  rw [liveS_cons]
  unfold liveStep
  rw [h]
  exact ⟨rfl, rfl⟩
theorem live_kept (want : Int → Bool) : ∀ l : List GNodeD, liveS (keptD want l) want = (List.replicate (keptD want l).length true, (liveS l want).2)
  | [] => rfl
  | n :: l => by
    cases h : n.outs.any (liveS l want).2 with
    | true =>
      obtain ⟨h1, h2⟩ := kept_live h
      rw [h1, h2, liveS_cons, live_kept want l]
      unfold liveStep
      rw [h]
      rfl
    | false =>
      obtain ⟨h1, h2⟩ := kept_dead h
      rw [h1, h2, live_kept want l]
theorem live_pruned (g : GraphD) : liveD (pruneD g) = List.replicate (pruneD g).nodes.length true := congrArg Prod.fst (live_kept (fun k => g.outputs.contains k) g.nodes)
theorem keep_sub : ∀ (l : List GNodeD) (bs : List Bool), (keepD l bs).Sublist l
  | [], [] => List.Sublist.refl _
  | [], _ :: _ => List.Sublist.refl _
  | _ :: _, [] => List.nil_sublist _
  | n :: l, b :: bs => by
    unfold keepD
    split
    · exact (keep_sub l bs).cons_cons n
    · exact (keep_sub l bs).cons n
theorem sub_flat {l r : List GNodeD} (h : l.Sublist r) : (l.flatMap (·.outs)).Sublist (r.flatMap (·.outs)) := by
  induction h with
  | slnil => exact List.Sublist.refl _
  | cons a _ ih => rw [List.flatMap_cons]; exact ih.trans (List.sublist_append_right _ _)
  | cons_cons a _ ih => rw [List.flatMap_cons, List.flatMap_cons]; exact List.Sublist.append_left ih _
theorem kept_flows (want : Int → Bool) : ∀ (l : List GNodeD) (bs bs' : List Bool), (∀ n ∈ l, ∀ x ∈ n.outs, 0 ≤ x) → bs.length = bs'.length → flowsD bs l → (∀ x, 0 ≤ x → (liveS l want).2 x = true → HasB bs x.toNat → HasB bs' x.toNat) →
    flowsD bs' (keptD want l) ∧ ∀ x, 0 ≤ x → want x = true → HasB (thereD bs l) x.toNat → HasB (thereD bs' (keptD want l)) x.toNat
  | [], bs, bs', _, _, _, hw => ⟨trivial, fun x h0 h1 h2 => hw x h0 h1 h2⟩
  | n :: l, bs, bs', hn, hl, hf, hw => by
    obtain ⟨h1, h2⟩ := hf
    rw [ready_iff] at h1
    cases h : n.outs.any (liveS l want).2 with
    | true =>
      obtain ⟨e1, e2⟩ := kept_live h
      rw [e1]
      rw [e2] at hw
      have ih := kept_flows want l (setsT bs n.outs) (setsT bs' n.outs) (fun y hy => hn y (by simp [hy])) (by rw [setsT_len, setsT_len, hl]) h2 (fun x h0 hx hb => by
        rw [hasB_sets] at hb ⊢
        rcases hb with hb | ⟨hb, hy⟩
        · exact .inl (hw x h0 (by simp [hx]) hb)
        · exact .inr ⟨by omega, hy⟩)
      refine ⟨⟨?_, ih.1⟩, ih.2⟩
      rw [ready_iff]
      intro x hx
      rcases h1 x hx with h3 | h3
      · exact .inl h3
      · by_cases h0 : 0 ≤ x
        · exact .inr (hw x h0 (by simp [hx]) h3)
        · exact .inl (by omega)
    | false =>
      obtain ⟨e1, e2⟩ := kept_dead h
      rw [e1]
      rw [e2] at hw
      exact kept_flows want l (setsT bs n.outs) bs' (fun y hy => hn y (by simp [hy])) (by rw [setsT_len, hl]) h2 (fun x h0 hx hb => by
        rw [hasB_sets] at hb
        rcases hb with hb | ⟨hb, y, hy, e⟩
        · exact hw x h0 hx hb
        · exfalso
          have h0' := hn n (by simp) y hy
          have : y = x := by omega
          subst this
          have := List.any_eq_false.1 h y hy
          exact this hx)
theorem defined_prune (g : GraphD) : definedD (pruneD g) = definedD g := rfl
theorem sound_prune {g : GraphD} (h : SoundD g) : SoundD (pruneD g) := by
  have hs := keep_sub g.nodes (liveD g)
  have hf := kept_flows (fun k => g.outputs.contains k) g.nodes (definedD g) (definedD g) (fun n hn x hx => (h.outs n hn x hx).1) rfl h.flows (fun _ _ _ hb => hb)
  refine ⟨h.inputs, h.outputs, fun n hn => h.outs n (hs.subset hn), fun n hn => h.ins n (hs.subset hn), fun k hk => ?_, hf.1, ?_⟩
  · refine Nat.le_trans (Nat.add_le_add_left ?_ _) (h.once k hk)
    exact List.Sublist.count_le _ (List.Sublist.append_left (sub_flat hs) _)
  · have h1 := ready_iff (g := ⟨0, (resolveD ⟨⟨#[]⟩, ⟨#[]⟩, [], [], []⟩).2.1, g.outputs, [], 0⟩) (bs := thereD (definedD g) g.nodes)
    have h2 := h1.1 h.ends
    refine (ready_iff (g := ⟨0, (resolveD ⟨⟨#[]⟩, ⟨#[]⟩, [], [], []⟩).2.1, g.outputs, [], 0⟩)).2 fun x hx => ?_
    rcases h2 x hx with h3 | h3
    · exact .inl h3
    · by_cases h0 : 0 ≤ x
      · exact .inr (hf.2 x h0 (by simpa using hx) h3)
      · exact .inl (by omega)
/-! The graph of a model that is taken. -/
/-- How often a name stands in a list. -/
def cntS (s : ByteArray) (l : List ByteArray) : Nat := l.countP fun a => decide (a = s)
theorem cnt_append (s : ByteArray) (l r : List ByteArray) : cntS s (l ++ r) = cntS s l + cntS s r := by unfold cntS; rw [List.countP_append]
theorem cnt_perm (s : ByteArray) {l r : List ByteArray} (h : l.Perm r) : cntS s l = cntS s r := h.countP_eq _
theorem cnt_once {s : ByteArray} : ∀ {l : List ByteArray}, l.Nodup → cntS s l ≤ 1
  | [], _ => by simp [cntS]
  | a :: l, h => by
    rw [List.nodup_cons] at h
    have ih := cnt_once (s := s) h.2
    unfold cntS at ih ⊢
    rw [List.countP_cons]
    by_cases e : a = s
    · subst e
      have : l.countP (fun b => decide (b = a)) = 0 := by
        rw [List.countP_eq_zero]
        intro b hb e'
        rw [decide_eq_true_eq] at e'
        exact h.1 (e' ▸ hb)
      rw [this]; simp
    · simp only [e, decide_false, Bool.false_eq_true, if_false]
      omega
theorem cnt_mem {s : ByteArray} {l : List ByteArray} (h : s ∈ l) : 1 ≤ cntS s l := by
  unfold cntS
  exact List.countP_pos_iff.2 ⟨s, h, by simp⟩
theorem count_place {N : List ByteArray} {s : ByteArray} (hs : s ∈ N) : ∀ L : List ByteArray, (∀ t ∈ L, t ∈ N) → (L.map (placeD N)).count (placeD N s) = cntS s L
  | [], _ => rfl
  | t :: L, h => by
    have ih := count_place hs L fun u hu => h u (by simp [hu])
    unfold cntS at ih ⊢
    rw [List.map_cons, List.count_cons, List.countP_cons, ih]
    congr 1
    by_cases e : t = s
    · subst e; simp
    · have : placeD N t ≠ placeD N s := fun e' => e (place_inj (h t (by simp)) hs e')
      simp [e, this]
theorem flat_perm {l r : List GNodeD} (h : l.Perm r) : (l.flatMap (·.outs)).Perm (r.flatMap (·.outs)) := List.Perm.flatMap_right _ h
theorem left_outs (m : ModelD) : ((leftP m).map (gnodeN (namesM m))).flatMap (·.outs) = ((m.nodes.filter liveN).flatMap (·.outs)).map (placeD (namesM m)) := by
  rw [← leftP_nodes, List.map_flatMap, List.flatMap_map, List.flatMap_map]
  rfl
theorem split_live : ∀ l : List NodeD, (l.flatMap (·.outs)).Perm ((l.filter liveN).flatMap (·.outs) ++ (l.filter fun n => !liveN n).flatMap (·.outs))
  | [] => List.Perm.refl _
  | n :: l => by
    have ih := split_live l
    cases h : liveN n with
    | true =>
      rw [List.filter_cons_of_pos h, List.filter_cons_of_neg (by simp [h]), List.flatMap_cons, List.flatMap_cons, List.append_assoc]
      exact List.Perm.append_left _ ih
    | false =>
      rw [List.filter_cons_of_neg (by simp [h]), List.filter_cons_of_pos (by simp [h]), List.flatMap_cons, List.flatMap_cons]
      refine (List.Perm.append_left _ ih).trans ?_
      rw [← List.append_assoc, ← List.append_assoc]
      exact List.Perm.append_right _ List.perm_append_comm
theorem flag_where {m : ModelD} {s : ByteArray} (h : (s, true) ∈ flagsM m) : s ∈ m.inits.map (·.name) ++ (m.nodes.filter fun n => !liveN n).flatMap (·.outs) := by
  unfold flagsM at h
  simp only [List.mem_append, List.mem_map, List.mem_flatMap, List.mem_filter, Prod.mk.injEq, Bool.false_eq_true, and_false, exists_false, or_false] at h ⊢
  rcases h with ⟨c, hc, e, _⟩ | ⟨n, hn, t, ht, e, hl⟩
  · exact .inl ⟨c, hc, e⟩
  · exact .inr ⟨n, ⟨hn, hl⟩, e ▸ ht⟩
section
variable {m : ModelD}
theorem taken_perm_left (h : TakenM m) : (orderM m).1.Perm ((leftP m).map (gnodeN (namesM m))) ∧ flowsD (definedD (startM m)) (orderM m).1 := by
  obtain ⟨h1, h2, h3⟩ := order_spec (leftM m).length (definedD (startM m)) (leftM m) (Nat.le_refl _)
  have e : (orderG (leftM m).length (definedD (startM m)) (leftM m)).2 = [] := h.laid
  rw [e, List.append_nil] at h2
  rw [← leftM_eq h.sane.once]
  exact ⟨h2, h1⟩
theorem taken_node (h : TakenM m) {g : GNodeD} (hg : g ∈ (orderM m).1) : ∃ n ∈ m.nodes, Named (namesM m) g n := by
  obtain ⟨p, hp, rfl⟩ := List.mem_map.1 ((taken_perm_left h).1.mem_iff.1 hg)
  refine ⟨p.1, ?_, h.sane.node (left_sub hp)⟩
  have := List.mem_map_of_mem (f := (·.1)) (left_sub hp)
  simpa using this
theorem places_in {N : List ByteArray} {L : List ByteArray} (h : ∀ s ∈ L, s ∈ N) : ∀ k ∈ L.map (placeD N), 0 ≤ k ∧ k < N.length := by
  intro k hk
  obtain ⟨s, hs, rfl⟩ := List.mem_map.1 hk
  obtain ⟨j, h1, _, h2⟩ := place_in (h s hs)
  omega
theorem inputs_places (h : (namesM m).Nodup) : inputsM m = (m.inputs.map (·.name)).map (placeD (namesM m)) := by
  have := seq_place (A := m.inits.map (·.name)) (O := m.inputs.map (·.name)) (R := m.nodes.flatMap (·.outs)) h (by unfold namesM; rw [List.append_assoc])
  rw [this, List.length_map, List.length_map]
  rfl
theorem in_inputs {s : ByteArray} (h : s ∈ m.inputs.map (·.name)) : s ∈ namesM m := by unfold namesM; simp only [List.mem_append]; exact .inl (.inr h)
theorem all_there (h : TakenM m) {s : ByteArray} (hs : s ∈ namesM m) : HasB (thereD (definedD (startM m)) (orderM m).1) (placeD (namesM m) s).toNat := by
  rw [hasB_there, defined_names h.sane.once hs]
  unfold startN
  have hs' := hs
  unfold namesM at hs'
  simp only [List.mem_append, List.mem_flatMap] at hs'
  rcases hs' with (h1 | h1) | ⟨n, hn, hso⟩
  · refine .inl (.inl ?_)
    obtain ⟨c, hc, rfl⟩ := List.mem_map.1 h1
    unfold flagsM
    simp only [List.mem_append, List.mem_map]
    exact .inl (.inl ⟨c, hc, rfl⟩)
  · exact .inl (.inr h1)
  · cases hl : liveN n with
    | false =>
      refine .inl (.inl ?_)
      unfold flagsM
      simp only [List.mem_append, List.mem_flatMap, List.mem_map]
      exact .inr ⟨n, hn, s, hso, by rw [hl]; rfl⟩
    | true =>
      refine .inr ⟨?_, ?_⟩
      · obtain ⟨j, h1, _, h2⟩ := place_in hs
        rw [defined_start_len]
        omega
      · have hm : n ∈ (leftP m).map (·.1) := by rw [leftP_nodes]; exact List.mem_filter.2 ⟨hn, hl⟩
        obtain ⟨p, hp, rfl⟩ := List.mem_map.1 hm
        exact ⟨gnodeN (namesM m) p, (taken_perm_left h).1.mem_iff.2 (List.mem_map_of_mem hp), _, List.mem_map.2 ⟨s, hso, rfl⟩, rfl⟩
theorem const_flag {k : Nat} (hk : k < (valsM m).length) : ((valsM m).map constN).getD k 0 = if ((flagsM m).map (·.2))[k]? = some true then 1 else 0 := by
  rw [← vals_flags, List.getElem?_map, List.getD_eq_getElem?_getD, List.getElem?_map, List.getElem?_eq_getElem hk]
  show constN _ = if some ((valsM m)[k].const) = some true then 1 else 0
  unfold constN
  simp only [Option.some.injEq]
theorem build_sound (h : TakenM m) : SoundD (buildD m).1 := by
  rw [build_taken h]
  obtain ⟨hp, hf⟩ := taken_perm_left h
  have hl : (valsM m).length = (namesM m).length := vals_len m
  refine ⟨?_, ?_, ?_, ?_, ?_, hf, ?_⟩
  · show ∀ k ∈ inputsM m, 0 ≤ k ∧ k < ((valsM m).length : Int)
    rw [hl, inputs_places h.sane.once]
    exact places_in fun s hs => in_inputs hs
  · show ∀ k ∈ outputsM m, 0 ≤ k ∧ k < ((valsM m).length : Int)
    rw [hl]
    have e : outputsM m = (m.outputs.map (·.name)).map (placeD (namesM m)) := by unfold outputsM; rw [List.map_map]; rfl
    rw [e]
    refine places_in fun s hs => ?_
    obtain ⟨v, hv, rfl⟩ := List.mem_map.1 hs
    exact h.outs v hv
  · show ∀ g ∈ (orderM m).1, ∀ k ∈ g.outs, 0 ≤ k ∧ k < ((valsM m).length : Int)
    rw [hl]
    intro g hg
    obtain ⟨n, hn, hN⟩ := taken_node h hg
    rw [hN.outs]
    exact places_in hN.outN
  · show ∀ g ∈ (orderM m).1, ∀ k ∈ g.ins, -1 ≤ k ∧ k < ((valsM m).length : Int)
    rw [hl]
    intro g hg k hk
    obtain ⟨n, hn, hN⟩ := taken_node h hg
    rw [hN.ins] at hk
    obtain ⟨s, _, rfl⟩ := List.mem_map.1 hk
    exact place_bd _ s
  · show ∀ k < (valsM m).length, ((valsM m).map constN).getD k 0 + (inputsM m ++ (orderM m).1.flatMap (·.outs)).count (k : Int) ≤ 1
    intro k hk
    have hkN : k < (namesM m).length := by omega
    have hs : (namesM m)[k]? = some (namesM m)[k] := List.getElem?_eq_getElem hkN
    obtain ⟨s, hse⟩ : ∃ s, (namesM m)[k] = s := ⟨_, rfl⟩
    rw [hse] at hs
    have hsN := List.mem_of_getElem? hs
    have hpl := place_at h.sane.once hs
    rw [const_flag hk, List.count_append, (flat_perm hp).count_eq, left_outs, inputs_places h.sane.once, ← hpl, count_place hsN _ (fun t ht => in_inputs ht), count_place hsN _ (fun t ht => by
      unfold namesM
      obtain ⟨n, hn, ht⟩ := List.mem_flatMap.1 ht
      simp only [List.mem_append, List.mem_flatMap]
      exact .inr ⟨n, (List.mem_filter.1 hn).1, ht⟩)]
    have h1 := cnt_once (s := s) h.sane.once
    unfold namesM at h1
    rw [cnt_append, cnt_append, cnt_perm s (split_live m.nodes), cnt_append] at h1
    split
    · rename_i hfl
      have h2 : HasB ((flagsM m).map (·.2)) k := hfl
      have hN' := h.sane.once
      have hs' := hsN
      rw [names_flags] at hN' hs'
      have h3 := flag_at hN' hs'
      rw [← names_flags, hpl, Int.toNat_natCast] at h3
      have h4 := cnt_mem (flag_where (h3.1 h2))
      rw [cnt_append] at h4
      omega
    · omega
  · show (outputsM m).any (lackD (thereD (definedD (startM m)) (orderM m).1)) = false
    refine (ready_iff (g := ⟨0, (resolveD ⟨⟨#[]⟩, ⟨#[]⟩, [], [], []⟩).2.1, outputsM m, [], 0⟩)).2 fun x hx => ?_
    obtain ⟨v, hv, rfl⟩ := List.mem_map.1 hx
    exact .inr (all_there h (h.outs v hv))
end
/-! Each node stands once. -/
theorem zip_once (i : Nat) : ∀ (l : List NodeD) (k : Nat), ((l.zipIdx k).filter fun p => liveN p.1).countP (fun p => decide (p.2 = i)) = if (l[i - k]?).any liveN = true ∧ k ≤ i then 1 else 0
  | [], k => by simp
  | n :: l, k => by
    have ih := zip_once i l (k + 1)
    rw [List.zipIdx_cons, List.filter_cons]
    rcases Nat.lt_trichotomy i k with h | h | h
    · have e1 : ¬ (k + 1 ≤ i) := by omega
      have e2 : ¬ (k ≤ i) := by omega
      simp only [e1, and_false, if_false] at ih
      simp only [e2, and_false, if_false]
      split
      · rw [List.countP_cons, ih]; simp; omega
      · exact ih
    · subst h
      have e1 : ¬ (i + 1 ≤ i) := by omega
      simp only [e1, and_false, if_false] at ih
      rw [Nat.sub_self]
      simp only [List.getElem?_cons_zero, Option.any_some, Nat.le_refl, and_true]
      cases h' : liveN n with
      | true => simp [ih]
      | false => simp [ih]
    · have e1 : k + 1 ≤ i := by omega
      have e2 : k ≤ i := by omega
      have e3 : i - k = (i - (k + 1)) + 1 := by omega
      simp only [e1, and_true] at ih
      simp only [e2, and_true]
      rw [e3, List.getElem?_cons_succ, ← ih]
      split
      · rw [List.countP_cons]; simp; omega
      · rfl
/-- How often the node i of the model stands in the graph. -/
def standsD (g : GraphD) (i : Nat) : Nat := g.nodes.countP fun n => decide (n.source = (i : Int))
theorem taken_times {m : ModelD} (h : TakenM m) {i : Nat} {n : NodeD} (hi : m.nodes[i]? = some n) : standsD (buildD m).1 i = if liveN n = true then 1 else 0 := by
  rw [build_taken h]
  show (orderM m).1.countP _ = _
  rw [(taken_perm_left h).1.countP_eq, List.countP_map]
  have e : ((fun n : GNodeD => decide (n.source = (i : Int))) ∘ gnodeN (namesM m)) = fun p : NodeD × Nat => decide (p.2 = i) := by
    funext p
    show decide ((p.2 : Int) = (i : Int)) = _
    exact decide_eq_decide.2 (by omega)
  rw [e]
  have := zip_once i m.nodes 0
  rw [Nat.sub_zero, hi] at this
  unfold leftP
  simpa using this
end Go.Proofs.YtgbkhcmbmffljaaDoor
