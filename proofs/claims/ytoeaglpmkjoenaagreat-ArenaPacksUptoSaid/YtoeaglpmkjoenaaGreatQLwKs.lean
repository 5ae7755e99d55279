/-
  ArenaPacks (P21.1): where each value of any plan lies is what the document says, offset by offset. Condition: the arguments are of bulk at most 1048576.
-/
import Derived.WalkKit
import Derived.ProofKit
import Derived.OpenShut
import Derived.JoinedCond
import Derived.Deep.CondSized
import Derived.Carry
import Derived.Test.YtoeaglpmkjoenaaGreatRows
import Derived.Test.YtoeaglpmkjoenaaGreatQLwK
import Derived.Test.YtoeaglpmkjoenaaGreatQKRp
set_option linter.unusedSimpArgs false
set_option linter.unusedVariables false
set_option maxRecDepth 100000
namespace Go.Proofs.YtoeaglpmkjoenaaGreat.arenaPacks
open Go.ChangeShapes Go.WideShapes Go.ChangeAt Go.RowKit
theorem own:ownKnob Tryz.prog.godebug = none:=by kernel_rfl
theorem laidOut:laidOutB Tryz.prog = true:=by kernel_rfl
theorem i64_of_lit {n:Int} (hw:(Lit.int .i64 n).wf = true):I64 n:=by
 simp [Lit.wf] at hw
 unfold I64
 revert hw
 simp [IntKind.min,IntKind.max,IntKind.signed,IntKind.bits]
theorem contract (H:Type) (enc:TypeId × Value→H) (W:World) (base:Nat) (args:Array Value) (ds gs:List (DataW H)) (before:List MemPlace)
  (hval:∀ (j:Nat) t v,Tryz.f3.params[j]? = some t→args[j]? = some v→Value.okWide Tryz.prog W .any base t v)
  (hW:DataW.Whole enc Tryz.prog Tryz.f3.params.toList Rows.arenaPacksSpec.vars false W args.toList ds gs before)
  (hsm:Rows.uptoSmall H (ds++gs) = true)
  (hwt:(DataW.weightsEach Tryz.prog (Tryz.f3.params.toList++(Rows.OpenSpec.upto Rows.arenaPacksSpec).bare.plain.varTypes Tryz.prog) (ds++gs)).all (· ≤ reachBytes) = true) :
  Calls Tryz.prog 3 args W fun e W'=>∃ v,e = .returned v∧Rows.arenaPacksSpec.post enc Tryz.prog Tryz.f3 false true false false W args v W':=by
 have hW':=hW
 have hlt:=hW.lt
 obtain ⟨p,q,hA0,hV,rfl,hfz,hnd⟩:=hW
 have hA:DataW.TrodAll enc Tryz.prog W 0 (fun _=>true) true Tryz.f3.params.toList args.toList ds p:=hA0
 rw [Tryz.params3] at hA hval hwt
 obtain ⟨v0,vs0,d0,ds0,p0,q0,hargs,rfl,rfl,h0,r0⟩:=trodAll_cons hA
 obtain ⟨v1,vs1,d1,ds1,p1,q1,rfl,rfl,rfl,h1,r1⟩:=trodAll_cons r0
 obtain ⟨rfl,rfl,rfl⟩:=trodAll_nil r1
 obtain rfl:args = #[v0,v1]:=by cases args;simp_all
 obtain ⟨rfl,rfl⟩:=trodVars_none hV
 have hws:=List.all_eq_true.1 hwt
 obtain ⟨c0,rfl,-⟩:=okWide_struct Tryz.underlying30 (hval 0 30 v0 rfl rfl)
 have hw0:∀ n ∈ d0.weights Tryz.prog 30,n ≤ reachBytes:=fun n hn=>by simpa using hws n (each_mem (i:=0) rfl rfl hn)
 have h0':=h0
 obtain ⟨f0,t0⟩:=h0
 obtain ⟨a0,ha0,hfit⟩:=readsP_Plan.read (cs:=c0.toList) t0 hw0
 obtain ⟨i1,rfl,rfl,rfl,hi1⟩:=open_int Tryz.underlying3 (hval 1 3 v1 rfl rfl) h1
 have hF:=hfit 1048576 (by
  have hb:Rows.uptoBulkAll [d0,.lit (.int .i64 i1)] ≤ 1048576:=of_decide_eq_true hsm
  simp only [Rows.uptoBulkAll] at hb
  show Rows.uptoBulk d0 ≤ _
  omega)
 have hB:PlanB a0:=⟨hF.2.1,hF.2.2.1⟩
 have key:=packs21_any c0.toList a0 i1 W ha0 hB
 refine (show Calls Tryz.prog 3 #[.agg c0,.int .i64 i1] W _ from key).mono fun e W' ⟨he,bel⟩=>?_
 subst he
 refine ⟨_,rfl,_,_,_,[],p0++([]++[]),[],hW',?_,?_,?_,bel.frame _,fun h=>by cases h⟩
 ·exact trodAll_cons_mk (shut_bool Tryz.underlying4 _) trodAll_mk0
 ·exact trodAll_cons_mk (Below.trod laidOut (by kernel_rfl) (of_decide_eq_true (by kernel_rfl)) h0' bel (fun x hx=>hlt x (by simp [hx]))) (trodAll_cons_mk (shut_int Tryz.underlying3 hi1) trodAll_mk0)
 ·rfl
theorem lifted (os:Os) (started:os.Started) (H:Type) (enc:TypeId × Value→H) (F:Stop.Interp) :
  ReturnsInHanded {} Tryz.checked os 3 .any ((Rows.OpenSpec.upto Rows.arenaPacksSpec).pre6 enc Tryz.prog Tryz.f3 Rows.arenaPacksUptoRow.domain false) (((Rows.OpenSpec.upto Rows.arenaPacksSpec).at F).post enc Tryz.prog Tryz.f3 false true false false):=by
 refine returnsInHanded_of_cond_sized (C:=Tryz.checked) (s:=Rows.OpenSpec.upto Rows.arenaPacksSpec) (k:=Rows.uptoSmall) rfl own started (by kernel_rfl) Tryz.func3
  (OpenSpec.witness (enc:=enc) (C:=Tryz.checked) (s:=Rows.OpenSpec.upto Rows.arenaPacksSpec) (k:=Rows.uptoSmall) rfl false ⟨#[],#[.agg #[.slice none 0 0,.slice none 0 0,.slice none 0 0,.slice none 0 0,.slice none 0 0,.slice none 0 0,.slice none 0 0],.int .i64 0],[]⟩ 8 (by kernel_rfl) (by kernel_rfl) (by kernel_rfl)
   (x:=([.agg [.agg [.nil,.nil,.nil,.nil],.nil,.nil,.nil],.lit (.int .i64 0)],[],[])) (by kernel_rfl) rfl (by kernel_rfl)) ?_
 intro W base args ds gs before hval hW _ hk hwt _
 exact contract H enc W base args ds gs before hval hW hk hwt
theorem said:Rows.ArenaPacksUptoSaid :=
 OpenClaim.holds_of_cond 3 Tryz.f3 rfl rfl rfl rfl rfl rfl rfl ⟨rfl,rfl,rfl,rfl,rfl⟩ rfl rfl rfl rfl rfl (by kernel_rfl) Tryz.func3 (by kernel_rfl)
  (of_decide_eq_true (by kernel_rfl)) (by unfold Func.isWrapper;first | (rw [if_pos (by decide +kernel)];kernel_rfl) | (rw [if_neg (by decide +kernel)];exact ⟨rfl,rfl⟩))
  (fun os started H enc _ F=>lifted os started H enc F)
end Go.Proofs.YtoeaglpmkjoenaaGreat.arenaPacks
