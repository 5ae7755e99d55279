/-
  What a reading of an argument says: its cells hold a Lean datum.
-/
/-
  Readings of models as data.
-/
import Derived.ChangeArms
import Derived.Deep.Slices
import Derived.Test.YtgbkhcmbmffljaaDoorRows
import Derived.Test.YtgbkhcmbmffljaaDoorPAid
import Derived.Test.YtgbkhcmbmffljaaDoorPGData
set_option linter.unusedSimpArgs false
namespace Go.Proofs.YtgbkhcmbmffljaaDoor
open Go.RowKit
open Rep (rep)
theorem each_mem {H : Type} {P : Program} {n : Nat} : ∀ {ts : List TypeId} {ds : List (DataW H)} {i : Nat} {t : TypeId} {d : DataW H}, ts[i]? = some t → ds[i]? = some d → n ∈ d.weights P t → n ∈ DataW.weightsEach P ts ds
  | [], _, _, _, _, h, _, _ => by simp at h
  | _ :: _, [], _, _, _, _, h, _ => by simp at h
  | t :: ts, d :: ds, 0, t', d', h1, h2, h => by
    simp at h1 h2; subst h1 h2
    unfold DataW.weightsEach
    exact List.mem_append_left _ h
  | t :: ts, d :: ds, i + 1, t', d', h1, h2, h => by
    unfold DataW.weightsEach
    exact List.mem_append_right _ (each_mem (ts := ts) (ds := ds) (i := i) (by simpa using h1) (by simpa using h2) h)
theorem all_mem {H : Type} {P : Program} {e : TypeId} {n : Nat} {d : DataW H} : ∀ {l : List (DataW H)}, d ∈ l → n ∈ d.weights P e → n ∈ DataW.weightsAll P e l
  | [], h, _ => by simp at h
  | x :: l, h, hn => by
    unfold DataW.weightsAll
    rcases List.mem_cons.1 h with rfl | h
    · exact List.mem_append_left _ hn
    · exact List.mem_append_right _ (all_mem h hn)
/-- The type's readings are Lean data. -/
structure Reads (t : TypeId) (α : Type) [Rep α] : Prop where
  cells : Tryd.prog.cellsOf t = Rep.size α
  byt : Tryd.prog.bytesOf t = Rep.bytes α
  read : ∀ {H : Type} {enc : TypeId × Value → H} {w : World} {held : Bool} {fuel : Nat} {cs : List Value} {x : DataW H × List MemPlace}, DataW.trod enc Tryd.prog w 0 (fun _ => true) held fuel t cs = some x →
    (∀ n ∈ x.1.weights Tryd.prog t, n ≤ reachBytes) → ∃ a : α, rep w (old w.heap.size) cs a
theorem i64_of_wf {n : Int} (h : (Lit.int .i64 n).wf = true) : I64 n := by
  simp [Lit.wf] at h
  unfold I64
  revert h
  simp [IntKind.min, IntKind.max, IntKind.signed, IntKind.bits]
  try omega
theorem reads_int : Reads 3 Int := ⟨by kernel_rfl, by kernel_rfl, fun h _ => by
  obtain ⟨n, rfl, _, hw⟩ := DataW.trod_int Tryd.underlying3 h
  exact ⟨n, rfl, i64_of_wf hw⟩⟩
theorem reads_int64 : Reads 2 Int := ⟨by kernel_rfl, by kernel_rfl, fun h _ => by
  obtain ⟨n, rfl, _, hw⟩ := DataW.trod_int Tryd.underlying2 h
  exact ⟨n, rfl, i64_of_wf hw⟩⟩
theorem reads_u32 : Reads 38 Nat := ⟨by kernel_rfl, by kernel_rfl, fun h _ => by
  obtain ⟨n, rfl, _, hw⟩ := DataW.trod_int Tryd.underlying38 h
  have h2 : 0 ≤ n ∧ n < 4294967296 := by
    simp [Lit.wf] at hw
    revert hw
    simp [IntKind.min, IntKind.max, IntKind.signed, IntKind.bits]
    try omega
  refine ⟨n.toNat, ?_, by omega⟩
  rw [Int.toNat_of_nonneg h2.1]⟩
theorem reads_bool : Reads 4 Bool := ⟨by kernel_rfl, by kernel_rfl, fun h _ => by
  obtain ⟨b, rfl, _⟩ := DataW.trod_bool Tryd.underlying4 h
  exact ⟨b, rfl⟩⟩
theorem reads_string : Reads 9 ByteArray := ⟨by kernel_rfl, by kernel_rfl, fun {H enc w held fuel cs x} h hw => by
  obtain ⟨s, rfl, hx, _⟩ := DataW.trod_string Tryd.underlying9 h
  refine ⟨s, rfl, ?_⟩
  rw [hx] at hw
  have h2 : s.data.toList.length ≤ reachBytes := hw s.data.toList.length (by unfold DataW.weights; exact List.mem_singleton.2 rfl)
  have e : s.size = s.data.toList.length := (Array.length_toList (xs := s.data)).symm
  rw [e]
  exact h2⟩
/-- A slice. -/
theorem reads_slice {t e : TypeId} {α : Type} [Rep α] (ht : Tryd.prog.underlying t = some (.slice e)) (h1 : Tryd.prog.cellsOf t = 1) (h2 : Tryd.prog.bytesOf t = 24) (R : Reads e α) : Reads t (List α) := ⟨h1, h2, fun {H enc w held fuel cs x} h hw => by
  rcases Deep.open_slice ht h with ⟨rfl, _⟩ | ⟨a, len, cap, m, n, D, Pl, rfl, _, hl, hm, hmm, rfl, hx⟩
  · exact ⟨[], none, 0, 0, [], rfl, rfl, Nat.le_refl _, Nat.zero_le _, by simp, Lies.nil _ _ _, rfl⟩
  · simp only [if_true] at hmm
    subst hmm
    have hw' : ∀ k ∈ DataW.weights Tryd.prog t (DataW.slice (List.map D (List.range len)) (List.map (fun j => D (len + j)) (List.range (m - len)))), k ≤ reachBytes := hw
    unfold DataW.weights at hw'
    rw [ht] at hw'
    simp only [List.length_map, List.length_range] at hw'
    have hcap : len * Rep.bytes α ≤ reach := by
      have := hw' _ (List.mem_cons_self ..)
      rw [R.byt] at this
      refine Nat.le_trans (Nat.mul_le_mul_right _ (by omega : len ≤ len + (m - len))) this
    have hel : ∀ i, i < len → ∃ cs', w.cells? 0 (a.add (i * Rep.size α)) (Rep.size α) = some cs' ∧ ∃ z : α, rep w (old w.heap.size) cs' z := by
      intro i hi
      obtain ⟨cs', h3, h4⟩ := hx i (by omega)
      rw [R.cells] at h3
      refine ⟨cs', h3, R.read h4 fun k hk => hw' k (List.mem_cons_of_mem _ (List.mem_append_left _ (all_mem (d := D i) (List.mem_map.2 ⟨i, List.mem_range.2 hi, rfl⟩) hk)))⟩
    have key : ∀ k, k ≤ len → ∃ (xs : List Value) (l : List α), l.length = k ∧ Chunks w (old w.heap.size) xs l ∧ ∀ j u, xs[j]? = some u → w.cell? (a.add j) = some u := by
      intro k
      induction k with
      | zero => intro _; exact ⟨[], [], rfl, rfl, by simp⟩
      | succ k ih =>
        intro hk
        obtain ⟨xs, l, h3, h4, h5⟩ := ih (by omega)
        obtain ⟨cs', h6, z, h7⟩ := hel k (by omega)
        obtain ⟨_, h8, h9⟩ := World.cells?_some h6
        refine ⟨xs ++ cs', l ++ [z], by simp [h3], h4.snoc h7, fun j u hu => ?_⟩
        have hxl : xs.length = k * Rep.size α := by rw [h4.len, h3]
        by_cases hj : j < xs.length
        · rw [List.getElem?_append_left hj] at hu
          exact h5 j u hu
        · rw [List.getElem?_append_right (by omega)] at hu
          have hj2 := (List.getElem?_eq_some_iff.1 hu).1
          have := h9 (j - xs.length) (by omega)
          rw [hu, Deep.add_add, ← hxl, show xs.length + (j - xs.length) = j by omega] at this
          exact this
    obtain ⟨xs, l, h3, h4, h5⟩ := key len (Nat.le_refl _)
    refine ⟨l, some a, len, m, xs, rfl, h3.symm, by omega, by omega, hcap, fun hn => ?_, h4⟩
    obtain ⟨v, r, rfl⟩ : ∃ v r, xs = v :: r := by
      cases xs with
      | nil => exact absurd rfl hn
      | cons v r => exact ⟨v, r, rfl⟩
    obtain ⟨b, o, sp⟩ := a
    have hc0 := h5 0 v rfl
    have hsp : sp = none := by
      simp only [Addr.add, if_true, World.cell?] at hc0
      split at hc0
      · cases sp with
        | none => rfl
        | some q => simp at hc0
      · cases hc0
    subst hsp
    refine ⟨b, o, rfl, ?_, fun j u hu => ⟨?_, fun e => by cases e⟩⟩
    · exact World.block_lt_of_cell? w ⟨b, o, none⟩ (by simpa [Addr.add] using hc0)
    · have := h5 j u hu
      unfold Addr.add at this
      split at this
      · rename_i h0; subst h0; simpa using this
      · exact this⟩
/-- A struct's parts. -/
theorem struct_parts {t : TypeId} {fs : Array Field} {H : Type} {enc : TypeId × Value → H} {w : World} {held : Bool} {fuel : Nat} {cs : List Value} {x : DataW H × List MemPlace} (ht : Tryd.prog.underlying t = some (.struct fs))
    (h : DataW.trod enc Tryd.prog w 0 (fun _ => true) held fuel t cs = some x) (hw : ∀ n ∈ x.1.weights Tryd.prog t, n ≤ reachBytes) :
    cs.length = Tryd.prog.cellsOf t ∧ ∀ (i : Nat) (f : Field) (α : Type) [Rep α], fs[i]? = some f → Reads f.type α → ∃ a : α, rep w (old w.heap.size) ((cs.drop f.offset).take (Rep.size α)) a := by
  obtain ⟨xs, n, _, rfl, hl, hlen, hf⟩ := DataW.trod_struct ht h
  have hw' : ∀ k ∈ DataW.weights Tryd.prog t (DataW.agg (xs.map (·.1))), k ≤ reachBytes := hw
  unfold DataW.weights at hw'
  rw [ht] at hw'
  simp only at hw'
  refine ⟨hl, fun i f α _ hi R => ?_⟩
  have h1 := hf i f hi
  rw [R.cells] at h1
  have hix : i < xs.length := by rw [hlen]; exact (Array.getElem?_eq_some_iff.1 hi).1
  rw [List.getElem?_eq_getElem hix] at h1
  refine R.read h1 fun k hk => hw' k (each_mem (i := i) (t := f.type) (d := (xs[i]).1) ?_ ?_ hk)
  · rw [List.getElem?_map, Array.getElem?_toList, hi]; rfl
  · rw [List.getElem?_map, List.getElem?_eq_getElem hix]; rfl
theorem reads_ints : Reads 37 (List Int) := reads_slice Tryd.underlying37 (by kernel_rfl) (by kernel_rfl) reads_int
theorem reads_int64s : Reads 40 (List Int) := reads_slice Tryd.underlying40 (by kernel_rfl) (by kernel_rfl) reads_int64
theorem reads_u32s : Reads 39 (List Nat) := reads_slice Tryd.underlying39 (by kernel_rfl) (by kernel_rfl) reads_u32
theorem reads_bools : Reads 41 (List Bool) := reads_slice Tryd.underlying41 (by kernel_rfl) (by kernel_rfl) reads_bool
theorem reads_strings : Reads 25 (List ByteArray) := reads_slice Tryd.underlying25 (by kernel_rfl) (by kernel_rfl) reads_string
theorem cells_Tensor : Tryd.prog.cellsOf 43 = 5 := by kernel_rfl
theorem reads_Tensor : Reads 43 TensorD := ⟨by kernel_rfl, by kernel_rfl, fun {H enc w held fuel cs x} h hw => by
  obtain ⟨hl, hp⟩ := struct_parts Tryd.underlying43 h hw
  obtain ⟨a0, h0⟩ := hp 0 _ Int rfl reads_int
  obtain ⟨a1, h1⟩ := hp 1 _ (List Int) rfl reads_ints
  obtain ⟨a2, h2⟩ := hp 2 _ (List Nat) rfl reads_u32s
  obtain ⟨a3, h3⟩ := hp 3 _ (List Int) rfl reads_int64s
  obtain ⟨a4, h4⟩ := hp 4 _ (List Bool) rfl reads_bools
  rw [cells_Tensor] at hl
  match cs, hl with
  | [v0, v1, v2, v3, v4], _ => exact ⟨⟨a0, a1, a2, a3, a4⟩, [v0], [v1], [v2], [v3], [v4], rfl, h0, h1, h2, h3, h4⟩⟩
theorem cells_Attr : Tryd.prog.cellsOf 52 = 12 := by kernel_rfl
theorem reads_Attr : Reads 52 AttrD := ⟨by kernel_rfl, by kernel_rfl, fun {H enc w held fuel cs x} h hw => by
  obtain ⟨hl, hp⟩ := struct_parts Tryd.underlying52 h hw
  obtain ⟨a0, h0⟩ := hp 0 _ ByteArray rfl reads_string
  obtain ⟨a1, h1⟩ := hp 1 _ Int rfl reads_int
  obtain ⟨a2, h2⟩ := hp 2 _ Nat rfl reads_u32
  obtain ⟨a3, h3⟩ := hp 3 _ Int rfl reads_int64
  obtain ⟨a4, h4⟩ := hp 4 _ ByteArray rfl reads_string
  obtain ⟨a5, h5⟩ := hp 5 _ TensorD rfl reads_Tensor
  obtain ⟨a6, h6⟩ := hp 6 _ (List Nat) rfl reads_u32s
  obtain ⟨a7, h7⟩ := hp 7 _ (List Int) rfl reads_int64s
  rw [cells_Attr] at hl
  match cs, hl with
  | [v0, v1, v2, v3, v4, v5, v6, v7, v8, v9, v10, v11], _ => exact ⟨⟨a0, a1, a2, a3, a4, a5, a6, a7⟩, [v0], [v1], [v2], [v3], [v4], [v5, v6, v7, v8, v9], [v10], [v11], rfl, h0, h1, h2, h3, h4, h5, h6, h7⟩⟩
theorem reads_Attrs : Reads 34 (List AttrD) := reads_slice Tryd.underlying34 (by kernel_rfl) (by kernel_rfl) reads_Attr
theorem cells_Node : Tryd.prog.cellsOf 36 = 5 := by kernel_rfl
theorem reads_Node : Reads 36 NodeD := ⟨by kernel_rfl, by kernel_rfl, fun {H enc w held fuel cs x} h hw => by
  obtain ⟨hl, hp⟩ := struct_parts Tryd.underlying36 h hw
  obtain ⟨a0, h0⟩ := hp 0 _ ByteArray rfl reads_string
  obtain ⟨a1, h1⟩ := hp 1 _ ByteArray rfl reads_string
  obtain ⟨a2, h2⟩ := hp 2 _ (List ByteArray) rfl reads_strings
  obtain ⟨a3, h3⟩ := hp 3 _ (List ByteArray) rfl reads_strings
  obtain ⟨a4, h4⟩ := hp 4 _ (List AttrD) rfl reads_Attrs
  rw [cells_Node] at hl
  match cs, hl with
  | [v0, v1, v2, v3, v4], _ => exact ⟨⟨a0, a1, a2, a3, a4⟩, [v0], [v1], [v2], [v3], [v4], rfl, h0, h1, h2, h3, h4⟩⟩
end Go.Proofs.YtgbkhcmbmffljaaDoor
set_option linter.unusedSimpArgs false
namespace Go.Proofs.YtgbkhcmbmffljaaDoor
open Go.RowKit
open Rep (rep)
theorem reads_Nodes : Reads 55 (List NodeD) := reads_slice Tryd.underlying55 (by kernel_rfl) (by kernel_rfl) reads_Node
theorem cells_Init : Tryd.prog.cellsOf 102 = 6 := by kernel_rfl
theorem reads_Init : Reads 102 InitD := ⟨by kernel_rfl, by kernel_rfl, fun {H enc w held fuel cs x} h hw => by
  obtain ⟨hl, hp⟩ := struct_parts Tryd.underlying102 h hw
  obtain ⟨a0, h0⟩ := hp 0 _ ByteArray rfl reads_string
  obtain ⟨a1, h1⟩ := hp 1 _ TensorD rfl reads_Tensor
  rw [cells_Init] at hl
  match cs, hl with
  | [v0, v1, v2, v3, v4, v5], _ => exact ⟨⟨a0, a1⟩, [v0], [v1, v2, v3, v4, v5], rfl, h0, h1⟩⟩
theorem reads_Inits : Reads 56 (List InitD) := reads_slice Tryd.underlying56 (by kernel_rfl) (by kernel_rfl) reads_Init
theorem cells_Value : Tryd.prog.cellsOf 104 = 3 := by kernel_rfl
theorem reads_Value : Reads 104 ValueD := ⟨by kernel_rfl, by kernel_rfl, fun {H enc w held fuel cs x} h hw => by
  obtain ⟨hl, hp⟩ := struct_parts Tryd.underlying104 h hw
  obtain ⟨a0, h0⟩ := hp 0 _ ByteArray rfl reads_string
  obtain ⟨a1, h1⟩ := hp 1 _ Int rfl reads_int
  obtain ⟨a2, h2⟩ := hp 2 _ (List Int) rfl reads_ints
  rw [cells_Value] at hl
  match cs, hl with
  | [v0, v1, v2], _ => exact ⟨⟨a0, a1, a2⟩, [v0], [v1], [v2], rfl, h0, h1, h2⟩⟩
theorem reads_Values : Reads 57 (List ValueD) := reads_slice Tryd.underlying57 (by kernel_rfl) (by kernel_rfl) reads_Value
theorem cells_Model : Tryd.prog.cellsOf 59 = 6 := by kernel_rfl
theorem reads_Model.read {H : Type} {enc : TypeId × Value → H} {w : World} {held : Bool} {fuel : Nat} {cs : List Value} {x : DataW H × List MemPlace} (h : DataW.trod enc Tryd.prog w 0 (fun _ => true) held fuel 59 cs = some x)
    (hw : ∀ n ∈ x.1.weights Tryd.prog 59, n ≤ reachBytes) : ∃ a : ModelD, rep w (old w.heap.size) cs a := by
  obtain ⟨hl, hp⟩ := struct_parts Tryd.underlying59 h hw
  obtain ⟨a0, h0⟩ := hp 0 _ Int rfl reads_int64
  obtain ⟨a1, h1⟩ := hp 1 _ ByteArray rfl reads_string
  obtain ⟨a2, h2⟩ := hp 2 _ (List NodeD) rfl reads_Nodes
  obtain ⟨a3, h3⟩ := hp 3 _ (List InitD) rfl reads_Inits
  obtain ⟨a4, h4⟩ := hp 4 _ (List ValueD) rfl reads_Values
  obtain ⟨a5, h5⟩ := hp 5 _ (List ValueD) rfl reads_Values
  rw [cells_Model] at hl
  match cs, hl with
  | [v0, v1, v2, v3, v4, v5], _ => exact ⟨⟨a0, a1, a2, a3, a4, a5⟩, [v0], [v1], [v2], [v3], [v4], [v5], rfl, h0, h1, h2, h3, h4, h5⟩
end Go.Proofs.YtgbkhcmbmffljaaDoor
