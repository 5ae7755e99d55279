/-
  GraphKeeps (R3): what is written into the answer of Prune changes nothing of what was handed in. Condition: the argument is of bulk at most 1048576.
-/
import Derived.WalkKit
import Derived.ProofKit
import Derived.OpenShut
import Derived.Deep.DeepHandedRow
import Derived.Deep.DeepWitnessRowRef
import Derived.Deep.DeepLaidRun
import Derived.Lib.LaidTab
import Derived.Lib.LaidU8
import Derived.Carry
import Derived.Test.YtgbkhcmbmffljaaDoorCards
import Derived.Test.YtgbkhcmbmffljaaDoorTie
import Derived.Test.YtgbkhcmbmffljaaDoorPGKp
import Derived.Test.YtgbkhcmbmffljaaDoorPKReads
import Derived.Test.YtgbkhcmbmffljaaDoorPResolve
set_option linter.unusedSimpArgs false
set_option maxRecDepth 100000
namespace Go.Proofs.YtgbkhcmbmffljaaDoor.graphKeeps
open Go.ChangeShapes Go.WideShapes Go.ChangeAt Go.RowKit
open Go.ChangeMaps (open_string shut_string)
theorem own:ownKnob Tryd.prog.godebug = none:=by kernel_rfl
theorem gTab : Tryd.prog.globalNamed "strings.asciiSpace" = some 0 := by kernel_rfl
theorem gTabType:(Tryd.prog.globals[0]?).map (·.type) = some 148:=by kernel_rfl
theorem cellsT:Tryd.prog.cellsOf 148 = 256:=by kernel_rfl
theorem cellsE:Tryd.prog.cellsOf 5 = 1:=by kernel_rfl
theorem gWhite : Tryd.prog.globalNamed "unicode.White_Space" = some 1 := by kernel_rfl
theorem table {W:World} (h:laidMetH Tryd.prog Rows.graphKeepsUptoRow.laid W):Tab W:=by
 obtain ⟨g', t', cs, fuel, p, hg', ht', hvar, hd⟩ := Lib.laidMet.reads (l := Rows.graphKeepsUptoRow.laid) h (n := "strings.asciiSpace") (d := Rows.laid_strings_asciiSpace) (.tail _ (.head _))
 obtain rfl:=Option.some.inj (gTab.symm.trans hg')
 obtain rfl:=Option.some.inj (gTabType.symm.trans ht')
 have hd':DataW.trod (fun _=>()) Tryd.prog W 0 (fun _=>true) false fuel 148 cs.toList = some (Lib.tabData .u8 Lib.asciiSpaceTab,p):=hd
 unfold Tab Lib.TabIs
 rw [hvar,← Lib.cells_of_tab Tryd.underlying148 Tryd.underlying5 cellsE cellsT hd']
noncomputable def laidWorld (os:Os):World :=
 let N:=(World.settled Tryd.prog os).heap.size
 let w0:=World.holding Tryd.prog os ⟨#[.cells (Lib.whiteT.map fun (z:Nat)=>Value.int .u16 (z:Int)).toArray 182,.cells #[.slice (some ⟨N,0,none⟩) 7 7,.slice none 0 0,.int .i64 2] 179],#[],[]⟩
 let put (h:Array Obj) (g:Nat) (cs:Array Value):Array Obj:=h.modify g fun
  | .cells _ t frozen=>.cells cs t frozen
  | o=>o
 { w0 with heap:=put (put w0.heap 0 (Lib.asciiSpaceTab.map fun z=>Value.int .u8 z).toArray) 1 #[.pointer (some ⟨N + 1,0,none⟩)] }
theorem laid_met (os:Os) (args:Array Value):laidMet Tryd.prog Rows.graphKeepsUptoRow.laid ((laidWorld os).forCall (fun _ _=>0) ⟨#[],args,[]⟩).memory :=
 laidMet_of_run3 10 (by kernel_rfl) (by kernel_rfl) (by kernel_rfl)
def wit:Array Value:=#[.agg #[.slice none 0 0,.slice none 0 0,.slice none 0 0,.slice none 0 0]]
theorem reads (os:Os) {H:Type} (enc:TypeId × Value→H):∃ places,DataW.whole enc Tryd.prog ((laidWorld os).forCall (fun _ _=>0) ⟨#[],wit,[]⟩).memory Tryd.f10.params.toList Rows.graphKeepsSpec.vars false wit.toList 8 =
  some ([.agg [.nil,.nil,.nil,.nil]],[],places) :=
 ⟨[],by kernel_rfl⟩
theorem resolveLaw:Hid ResolveLaw:=Lib.hid fun cs n w ht hr=>resolve_any cs n w ht hr
theorem laidOut:laidOutB Tryd.prog = true:=by kernel_rfl
theorem i64_of_lit {n:Int} (hw:(Lit.int .i64 n).wf = true):I64 n:=by
 simp [Lit.wf] at hw
 unfold I64
 revert hw
 simp [IntKind.min,IntKind.max,IntKind.signed,IntKind.bits]
theorem contract (H:Type) (enc:TypeId × Value→H) (W:World) (base:Nat) (args:Array Value) (ds gs:List (DataW H)) (before:List MemPlace)
  (hval:∀ (j:Nat) t v,Tryd.f10.params[j]? = some t→args[j]? = some v→Value.okWide Tryd.prog W .any base t v)
  (hW:DataW.Whole enc Tryd.prog Tryd.f10.params.toList Rows.graphKeepsSpec.vars false W args.toList ds gs before)
  (hsm:Rows.uptoSmall H (ds++gs) = true)
  (hwt:(DataW.weightsEach Tryd.prog (Tryd.f10.params.toList++(Rows.OpenSpec.upto Rows.graphKeepsSpec).bare.plain.varTypes Tryd.prog) (ds++gs)).all (· ≤ reachBytes) = true)
  (hL:laidMetH Tryd.prog Rows.graphKeepsUptoRow.laid W) :
  Calls Tryd.prog 10 args W fun e W'=>∃ v,e = .returned v∧Rows.graphKeepsSpec.post enc Tryd.prog Tryd.f10 false true false false W args v W':=by
 have hW':=hW
 have hlt:=hW.lt
 obtain ⟨p,q,hA0,hV,rfl,hfz,hnd⟩:=hW
 have hA:DataW.TrodAll enc Tryd.prog W 0 (fun _=>true) true Tryd.f10.params.toList args.toList ds p:=hA0
 rw [Tryd.params10] at hA hval hwt
 obtain ⟨v0,vs0,d0,ds0,p0,q0,hargs,rfl,rfl,h0,r0⟩:=trodAll_cons hA
 obtain ⟨rfl,rfl,rfl⟩:=trodAll_nil r0
 obtain rfl:args = #[v0]:=by cases args;simp_all
 obtain ⟨rfl,rfl⟩:=trodVars_none hV
 have hws:=List.all_eq_true.1 hwt
 obtain ⟨c0,rfl,-⟩:=okWide_struct Tryd.underlying63 (hval 0 63 v0 rfl rfl)
 have hw0:∀ n ∈ d0.weights Tryd.prog 63,n ≤ reachBytes:=fun n hn=>by simpa using hws n (each_mem (i:=0) rfl rfl hn)
 have h0':=h0
 obtain ⟨f0,t0⟩:=h0
 obtain ⟨a0,ha0,hfit⟩:=readsP_Graph.read (cs:=c0.toList) t0 hw0
 have hb:Rows.uptoBulkAll [d0] ≤ 1048576:=of_decide_eq_true hsm
 have hF:=hfit 1048576 (by
  simp only [Rows.uptoBulkAll] at hb
  show Rows.uptoBulk d0 ≤ _
  omega)
 have key:=keeps_any c0.toList a0 W (table hL) ha0 hF.2.2.2 hF.2.1 hF.2.2.1 hF.1
 refine (show Calls Tryd.prog 10 #[.agg c0] W _ from key).mono fun e W' ⟨he,bel⟩=>?_
 subst he
 refine ⟨_,rfl,_,_,_,[],p0++[],[],hW',?_,?_,?_,bel.frame _,fun h=>by cases h⟩
 ·exact trodAll_cons_mk (shut_bool Tryd.underlying4 _) trodAll_mk0
 ·exact trodAll_cons_mk (Below.trod laidOut (by kernel_rfl) (of_decide_eq_true (by kernel_rfl)) h0' bel (fun x hx=>hlt x (by simp [hx]))) trodAll_mk0
 ·rfl
set_option maxRecDepth 100000 in
theorem lifted (os:Os) (started:os.Started) (H:Type) (enc:TypeId × Value→H) (F:Stop.Interp) :
  ReturnsInHanded {} Tryd.checked os 10 .any ((Rows.OpenSpec.upto Rows.graphKeepsSpec).preRow enc Tryd.prog Tryd.f10 Rows.graphKeepsUptoRow.domain false Rows.graphKeepsUptoRow.laid) (((Rows.OpenSpec.upto Rows.graphKeepsSpec).at F).post enc Tryd.prog Tryd.f10 false true false false):=by
 obtain ⟨places,hx⟩:=reads os enc
 refine returnsInHanded_of_row (C:=Tryd.checked) (s:=Rows.OpenSpec.upto Rows.graphKeepsSpec) own started (by kernel_rfl) Tryd.func10
  (witness_row_atRef (enc:=enc) (C:=Tryd.checked) false (laidWorld os) wit rfl (by kernel_rfl) (by kernel_rfl) (by kernel_rfl)
   (OpenSpec.preRow_of_cond 8 hx (by kernel_rfl) (fun k hk=>by cases hk;kernel_rfl) (by kernel_rfl) (laid_met os _))) ?_
 intro W base args ds gs before hval hW _ hcond hwt hL _ _
 exact contract H enc W base args ds gs before hval hW (hcond _ rfl) hwt hL
theorem said:Rows.GraphKeepsUptoSaid :=
 OpenClaim.holds_of_cond 10 Tryd.f10 rfl rfl rfl rfl rfl rfl rfl ⟨rfl,rfl,rfl,rfl,rfl⟩ rfl rfl rfl rfl rfl (by kernel_rfl) Tryd.func10 (by kernel_rfl)
  (of_decide_eq_true (by kernel_rfl)) (by unfold Func.isWrapper;first | (rw [if_pos (by decide +kernel)];kernel_rfl) | (rw [if_neg (by decide +kernel)];exact ⟨rfl,rfl⟩))
  (fun os started H enc _ F=>by rw [OpenClaim.pre_eq_preRow];exact lifted os started H enc F)
theorem plain (f : FuncId) (fn : Func) (hf : Tryd.pinned.checked.prog.funcNamed "lattice/latticelaw09.GraphKeeps" = some f) (hfn : Tryd.pinned.checked.prog.funcs[f]? = some fn) :
  false = Tryd.pinned.checked.prog.looks []∧∀ (j:Nat) t,fn.params[j]? = some t→Tryd.pinned.checked.prog.wantsStandIn t = false:=by
 obtain rfl : f = 10 := Option.some.inj ((show Tryd.prog.funcNamed "lattice/latticelaw09.GraphKeeps" = some 10 by kernel_rfl).symm.trans hf) |>.symm
 obtain rfl:fn = Tryd.f10:=(Option.some.inj (Tryd.func10.symm.trans hfn)).symm
 refine ⟨by kernel_rfl,fun j t ht=>?_⟩
 rw [Tryd.params10] at ht
 have hm:t = 63:=by simpa using Array.mem_of_getElem? ht
 subst hm
 exact (show Tryd.prog.wantsStandIn 63 = false by kernel_rfl)
theorem card:Rows.GraphKeepsUptoCardSaid :=
 Claim7.holds_tied_plain_at .later [] _ _ _ _ said (fun _ h=>by cases h) (by kernel_rfl) (fun _ h=>by cases h) graphKeepsUpto_row_tie rfl ⟨rfl,rfl⟩ (by kernel_rfl) rfl plain (by kernel_rfl)
end Go.Proofs.YtgbkhcmbmffljaaDoor.graphKeeps
