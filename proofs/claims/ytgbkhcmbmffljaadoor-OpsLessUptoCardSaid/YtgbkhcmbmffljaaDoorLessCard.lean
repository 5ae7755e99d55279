/-
  OpsLess (P8.2): what is refused for its attributes is refused still with one more; what is taken names each attribute once. Condition: the arguments' bulk is at most 1048576.
-/
import Derived.Test.YtgbkhcmbmffljaaDoorCards
import Derived.Test.YtgbkhcmbmffljaaDoorTie
import Derived.WalkKit
import Derived.ProofKit
import Derived.OpenShut
import Derived.Deep.DeepHandedRow
import Derived.Deep.DeepWitnessRowRef
import Derived.Deep.DeepLaidRun
import Derived.Lib.LaidTab
import Derived.Lib.LaidU8
import Derived.Test.YtgbkhcmbmffljaaDoorLess
import Derived.Test.YtgbkhcmbmffljaaDoorReads
import Derived.Carry
import Derived.Test.YtgbkhcmbmffljaaDoorResolve
set_option linter.unusedSimpArgs false
set_option maxRecDepth 100000
namespace Go.Proofs.YtgbkhcmbmffljaaDoor.opsLess
open Go.ChangeShapes Go.WideShapes Go.ChangeAt Go.RowKit
open Go.ChangeMaps (open_string shut_string)

theorem own : ownKnob Tryd.prog.godebug = none := by kernel_rfl
theorem gTab : Tryd.prog.globalNamed "strings.asciiSpace" = some 0 := by kernel_rfl
theorem gTabType : (Tryd.prog.globals[0]?).map (·.type) = some 148 := by kernel_rfl
theorem cellsT : Tryd.prog.cellsOf 148 = 256 := by kernel_rfl
theorem cellsE : Tryd.prog.cellsOf 5 = 1 := by kernel_rfl
theorem gWhite : Tryd.prog.globalNamed "unicode.White_Space" = some 1 := by kernel_rfl

/-- What the row's list gives: the table of strings.Fields. -/
theorem table {W : World} (h : laidMetH Tryd.prog Rows.opsLessUptoRow.laid W) : Tab W := by
  obtain ⟨g', t', cs, fuel, p, hg', ht', hvar, hd⟩ := Lib.laidMet.reads (l := Rows.opsLessUptoRow.laid) h (n := "strings.asciiSpace") (d := Rows.laid_strings_asciiSpace) (.tail _ (.head _))
  obtain rfl := Option.some.inj (gTab.symm.trans hg')
  obtain rfl := Option.some.inj (gTabType.symm.trans ht')
  have hd' : DataW.trod (fun _ => ()) Tryd.prog W 0 (fun _ => true) false fuel 148 cs.toList = some (Lib.tabData .u8 Lib.asciiSpaceTab, p) := hd
  unfold Tab Lib.TabIs
  rw [hvar, ← Lib.cells_of_tab Tryd.underlying148 Tryd.underlying5 cellsE cellsT hd']

/-- A world for the witness: two blocks more (unicode.White_Space's ranges; its table), the two variables holding what their initialisers lay. -/
noncomputable def laidWorld (os : Os) : World :=
  let N := (World.settled Tryd.prog os).heap.size
  let w0 := World.holding Tryd.prog os ⟨#[.cells (Lib.whiteT.map fun (z : Nat) => Value.int .u16 (z : Int)).toArray 182, .cells #[.slice (some ⟨N, 0, none⟩) 7 7, .slice none 0 0, .int .i64 2] 179], #[], []⟩
  let put (h : Array Obj) (g : Nat) (cs : Array Value) : Array Obj := h.modify g fun
    | .cells _ t frozen => .cells cs t frozen
    | o => o
  { w0 with heap := put (put w0.heap 0 (Lib.asciiSpaceTab.map fun z => Value.int .u8 z).toArray) 1 #[.pointer (some ⟨N + 1, 0, none⟩)] }
theorem laid_met (os : Os) (args : Array Value) : laidMet Tryd.prog Rows.opsLessUptoRow.laid ((laidWorld os).forCall (fun _ _ => 0) ⟨#[], args, []⟩).memory :=
  laidMet_of_run3 10 (by kernel_rfl) (by kernel_rfl) (by kernel_rfl)
def wit : Array Value := #[.agg #[.string ⟨#[]⟩, .string ⟨#[]⟩, .slice none 0 0, .slice none 0 0, .slice none 0 0], .agg #[.string ⟨#[]⟩, .int .i64 0, .int .u32 0, .int .i64 0, .string ⟨#[]⟩, .int .i64 0, .slice none 0 0, .slice none 0 0, .slice none 0 0, .slice none 0 0, .slice none 0 0, .slice none 0 0]]
theorem reads (os : Os) {H : Type} (enc : TypeId × Value → H) : ∃ places, DataW.whole enc Tryd.prog ((laidWorld os).forCall (fun _ _ => 0) ⟨#[], wit, []⟩).memory Tryd.f6.params.toList Rows.opsLessSpec.vars false wit.toList 8 =
    some ([.agg [.lit (.string []), .lit (.string []), .nil, .nil, .nil], .agg [.lit (.string []), .lit (.int .i64 0), .lit (.int .u32 0), .lit (.int .i64 0), .lit (.string []), .agg [.lit (.int .i64 0), .nil, .nil, .nil, .nil], .nil, .nil]], [], places) :=
  ⟨[], by kernel_rfl⟩
theorem slice_small {H : Type} (l m : List (DataW H)) : l.length ≤ Rows.uptoBulk (.slice l m) := by
  have h : ∀ l : List (DataW H), l.length ≤ Rows.uptoBulkAll l := fun l => by
    induction l with
    | nil => exact Nat.zero_le _
    | cons d l ih =>
      have h1 : 1 ≤ Rows.uptoBulk d := by
        cases d with
        | lit x => cases x <;> simp [Rows.uptoBulk]
        | _ => simp [Rows.uptoBulk]
      simp only [Rows.uptoBulkAll, List.length_cons]
      omega
  have := h l
  simp only [Rows.uptoBulk]
  omega
theorem part_small {H : Type} {d : DataW H} : ∀ {l : List (DataW H)}, d ∈ l → Rows.uptoBulk d ≤ Rows.uptoBulkAll l
  | [], h => by cases h
  | x :: l, h => by
    simp only [Rows.uptoBulkAll]
    rcases List.mem_cons.1 h with rfl | h
    · omega
    · have := part_small h; omega
theorem cells34 : Tryd.prog.cellsOf 34 = 1 := by kernel_rfl
theorem node_small {H : Type} {enc : TypeId × Value → H} {w : World} {held : Bool} {fuel : Nat} {cs : List Value} {x : DataW H × List MemPlace} {n : NodeD} {Z : Zone} (h : DataW.trod enc Tryd.prog w 0 (fun _ => true) held fuel 36 cs = some x) (hr : Rep.rep w Z cs n) :
    n.attrs.length ≤ Rows.uptoBulk x.1 := by
  obtain ⟨xs, k, _, rfl, hl, hlen, hf⟩ := DataW.trod_struct Tryd.underlying36 h
  obtain ⟨A1, k1, A2, k2, A3, k3, rfl, -⟩ := open_NodeD hr
  have h4 := hf 4 _ rfl
  match xs, hlen with
  | [x0, x1, x2, x3, x4], _ =>
    have h5 : DataW.trod enc Tryd.prog w 0 (fun _ => true) held k 34 [.slice A3 n.attrs.length k3] = some x4 := by
      have h6 : DataW.trod enc Tryd.prog w 0 (fun _ => true) held k 34 (([.string n.op, .string n.name, .slice A1 n.ins.length k1, .slice A2 n.outs.length k2, .slice A3 n.attrs.length k3] : List Value).drop 4 |>.take (Tryd.prog.cellsOf 34)) = some x4 := h4
      rw [cells34] at h6
      exact h6
    have h7 : n.attrs.length ≤ Rows.uptoBulk x4.1 := by
      rcases Deep.open_slice Tryd.underlying34 h5 with ⟨hc, _⟩ | ⟨a, len, cap, m, n', D, Pl, hc, _, _, _, _, rfl, _⟩
      · simp only [List.cons.injEq, Value.slice.injEq, and_true] at hc
        omega
      · simp only [List.cons.injEq, Value.slice.injEq, and_true] at hc
        have := slice_small ((List.range len).map D) ((List.range (m - len)).map fun j => D (len + j))
        rw [List.length_map, List.length_range] at this
        rw [hc.2.1]
        exact this
    have h8 := part_small (l := [x0.1, x1.1, x2.1, x3.1, x4.1]) (d := x4.1) (by simp)
    show n.attrs.length ≤ Rows.uptoBulk (.agg [x0.1, x1.1, x2.1, x3.1, x4.1])
    simp only [Rows.uptoBulk] at h7 ⊢
    omega
theorem resolveLaw : Hid ResolveLaw := Lib.hid fun cs n w ht hr => resolve_any cs n w ht hr

theorem laidOut : laidOutB Tryd.prog = true := by kernel_rfl
/-- The contract, for every argument within the bound and every world that holds the tables. -/
theorem contract (H : Type) (enc : TypeId × Value → H) (W : World) (base : Nat) (args : Array Value) (ds gs : List (DataW H)) (before : List MemPlace)
    (hval : ∀ (j : Nat) t v, Tryd.f6.params[j]? = some t → args[j]? = some v → Value.okWide Tryd.prog W .any base t v)
    (hW : DataW.Whole enc Tryd.prog Tryd.f6.params.toList Rows.opsLessSpec.vars false W args.toList ds gs before)
    (hsm : Rows.uptoSmall H (ds ++ gs) = true)
    (hwt : (DataW.weightsEach Tryd.prog (Tryd.f6.params.toList ++ (Rows.OpenSpec.upto Rows.opsLessSpec).bare.plain.varTypes Tryd.prog) (ds ++ gs)).all (· ≤ reachBytes) = true)
    (hL : laidMetH Tryd.prog Rows.opsLessUptoRow.laid W) :
    Calls Tryd.prog 6 args W fun e W' => ∃ v, e = .returned v ∧ Rows.opsLessSpec.post enc Tryd.prog Tryd.f6 false true false false W args v W' := by
  have hW' := hW
  have hlt := hW.lt
  obtain ⟨p, q, hA0, hV, rfl, hfz, hnd⟩ := hW
  have hA : DataW.TrodAll enc Tryd.prog W 0 (fun _ => true) true Tryd.f6.params.toList args.toList ds p := hA0
  rw [Tryd.params6] at hA hval hwt
  obtain ⟨v0, vs0, d0, ds0, p0, q0, hargs, rfl, rfl, h0, r0⟩ := trodAll_cons hA
  obtain ⟨v1, vs1, d1, ds1, p1, q1, rfl, rfl, rfl, h1, r1⟩ := trodAll_cons r0
  obtain ⟨rfl, rfl, rfl⟩ := trodAll_nil r1
  obtain rfl : args = #[v0, v1] := by cases args; simp_all
  obtain ⟨rfl, rfl⟩ := trodVars_none hV
  obtain ⟨c0, rfl, -⟩ := okWide_struct Tryd.underlying36 (hval 0 36 v0 rfl rfl)
  obtain ⟨c1, rfl, -⟩ := okWide_struct Tryd.underlying52 (hval 1 52 v1 rfl rfl)
  have hws := List.all_eq_true.1 hwt
  have hw0 : ∀ n ∈ d0.weights Tryd.prog 36, n ≤ reachBytes := fun n hn => by simpa using hws n (each_mem (i := 0) rfl rfl hn)
  have hw1 : ∀ n ∈ d1.weights Tryd.prog 52, n ≤ reachBytes := fun n hn => by simpa using hws n (each_mem (i := 1) rfl rfl hn)
  have h0' := h0
  have h1' := h1
  obtain ⟨f0, t0⟩ := h0
  obtain ⟨f1, t1⟩ := h1
  obtain ⟨n, hn⟩ := reads_Node.read (cs := c0.toList) t0 hw0
  obtain ⟨a, ha⟩ := reads_Attr.read (cs := c1.toList) t1 hw1
  have hb : Rows.uptoBulkAll [d0, d1] ≤ 1048576 := of_decide_eq_true hsm
  have hns : n.attrs.length ≤ 1048576 := by
    have h2 := node_small (cs := c0.toList) t0 hn
    simp only [Rows.uptoBulkAll] at hb
    exact Nat.le_trans h2 (by show Rows.uptoBulk d0 ≤ _; omega)
  have key := less_any resolveLaw c0.toList c1.toList n a W (table hL) hn ha hns
  refine (show Calls Tryd.prog 6 #[.agg c0, .agg c1] W _ from key).mono fun e W' ⟨he, bel⟩ => ?_
  subst he
  refine ⟨_, rfl, _, _, _, [], p0 ++ (p1 ++ []), [], hW', ?_, ?_, ?_, bel.frame _, fun h => by cases h⟩
  · exact trodAll_cons_mk (shut_bool Tryd.underlying4 _) trodAll_mk0
  · exact trodAll_cons_mk (Below.trod laidOut (by kernel_rfl) (of_decide_eq_true (by kernel_rfl)) h0' bel (fun x hx => hlt x (by simp [hx]))) (trodAll_cons_mk (Below.trod laidOut (by kernel_rfl) (of_decide_eq_true (by kernel_rfl)) h1' bel (fun x hx => hlt x (by simp [hx]))) trodAll_mk0)
  · rfl

set_option maxRecDepth 100000 in
theorem lifted (os : Os) (started : os.Started) (H : Type) (enc : TypeId × Value → H) (F : Stop.Interp) :
    ReturnsInHanded {} Tryd.checked os 6 .any ((Rows.OpenSpec.upto Rows.opsLessSpec).preRow enc Tryd.prog Tryd.f6 Rows.opsLessUptoRow.domain false Rows.opsLessUptoRow.laid) (((Rows.OpenSpec.upto Rows.opsLessSpec).at F).post enc Tryd.prog Tryd.f6 false true false false) := by
  obtain ⟨places, hx⟩ := reads os enc
  refine returnsInHanded_of_row (C := Tryd.checked) (s := Rows.OpenSpec.upto Rows.opsLessSpec) own started (by kernel_rfl) Tryd.func6
    (witness_row_atRef (enc := enc) (C := Tryd.checked) false (laidWorld os) wit rfl (by kernel_rfl) (by kernel_rfl) (by kernel_rfl)
      (OpenSpec.preRow_of_cond 8 hx (by kernel_rfl) (fun k hk => by cases hk; kernel_rfl) (by kernel_rfl) (laid_met os _))) ?_
  intro W base args ds gs before hval hW _ hcond hwt hL _ _
  exact contract H enc W base args ds gs before hval hW (hcond _ rfl) hwt hL

theorem said : Rows.OpsLessUptoSaid :=
  OpenClaim.holds_of_cond 6 Tryd.f6 rfl rfl rfl rfl rfl rfl rfl ⟨rfl, rfl, rfl, rfl, rfl⟩ rfl rfl rfl rfl rfl (by kernel_rfl) Tryd.func6 (by kernel_rfl)
    (of_decide_eq_true (by kernel_rfl)) (by unfold Func.isWrapper; first | (rw [if_pos (by decide +kernel)]; kernel_rfl) | (rw [if_neg (by decide +kernel)]; exact ⟨rfl, rfl⟩))
    (fun os started H enc _ F => by rw [OpenClaim.pre_eq_preRow]; exact lifted os started H enc F)

/-- No parameter wants a stand-in; the program's own looks are off. -/
theorem plain (f : FuncId) (fn : Func) (hf : Tryd.pinned.checked.prog.funcNamed "lattice/latticelaw08.OpsLess" = some f) (hfn : Tryd.pinned.checked.prog.funcs[f]? = some fn) :
    false = Tryd.pinned.checked.prog.looks [] ∧ ∀ (j : Nat) t, fn.params[j]? = some t → Tryd.pinned.checked.prog.wantsStandIn t = false := by
  obtain rfl : f = 6 := Option.some.inj ((show Tryd.prog.funcNamed "lattice/latticelaw08.OpsLess" = some 6 by kernel_rfl).symm.trans hf) |>.symm
  obtain rfl : fn = Tryd.f6 := (Option.some.inj (Tryd.func6.symm.trans hfn)).symm
  refine ⟨by kernel_rfl, fun j t ht => ?_⟩
  rw [Tryd.params6] at ht
  have hm : t = 36 ∨ t = 52 := by simpa using Array.mem_of_getElem? ht
  rcases hm with rfl | rfl
  · exact (show Tryd.prog.wantsStandIn 36 = false by kernel_rfl)
  · exact (show Tryd.prog.wantsStandIn 52 = false by kernel_rfl)

theorem card : Rows.OpsLessUptoCardSaid :=
  Claim7.holds_tied_plain_at .later [] _ _ _ _ said (fun _ h => by cases h) (by kernel_rfl) (fun _ h => by cases h) opsLessUpto_row_tie rfl ⟨rfl, rfl⟩ (by kernel_rfl) rfl plain (by kernel_rfl)
end Go.Proofs.YtgbkhcmbmffljaaDoor.opsLess
