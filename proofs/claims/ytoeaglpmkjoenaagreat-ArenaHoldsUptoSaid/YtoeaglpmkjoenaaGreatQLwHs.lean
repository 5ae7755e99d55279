/-
  ArenaHolds (P21.3): one row of bytes holds all the values of any plan; nothing meets that must not; the row is no longer than all together, no shorter than the longest nor than any that are alive at one time. Condition: the arguments are of bulk at most 1048576.
-/
import Derived.WalkKit
import Derived.ProofKit
import Derived.OpenShut
import Derived.JoinedCond
import Derived.Deep.CondSized
import Derived.Carry
import Derived.Test.YtoeaglpmkjoenaaGreatRows
import Derived.Test.YtoeaglpmkjoenaaGreatQLwH
import Derived.Test.YtoeaglpmkjoenaaGreatQKRp
set_option linter.unusedSimpArgs false
set_option linter.unusedVariables false
set_option maxRecDepth 100000
namespace Go.Proofs.YtoeaglpmkjoenaaGreat.arenaHolds
open Go.ChangeShapes Go.WideShapes Go.ChangeAt Go.RowKit
theorem own:ownKnob Tryz.prog.godebug = none:=by kernel_rfl
theorem laidOut:laidOutB Tryz.prog = true:=by kernel_rfl
theorem i64_of_lit {n:Int} (hw:(Lit.int .i64 n).wf = true):I64 n:=by
 simp [Lit.wf] at hw
 unfold I64
 revert hw
 simp [IntKind.min,IntKind.max,IntKind.signed,IntKind.bits]
theorem contract (H:Type) (enc:TypeId × Value→H) (W:World) (base:Nat) (args:Array Value) (ds gs:List (DataW H)) (before:List MemPlace)
  (hval:∀ (j:Nat) t v,Tryz.f4.params[j]? = some t→args[j]? = some v→Value.okWide Tryz.prog W .any base t v)
  (hW:DataW.Whole enc Tryz.prog Tryz.f4.params.toList Rows.arenaHoldsSpec.vars false W args.toList ds gs before)
  (hsm:Rows.uptoSmall H (ds++gs) = true)
  (hwt:(DataW.weightsEach Tryz.prog (Tryz.f4.params.toList++(Rows.OpenSpec.upto Rows.arenaHoldsSpec).bare.plain.varTypes Tryz.prog) (ds++gs)).all (· ≤ reachBytes) = true) :
  Calls Tryz.prog 4 args W fun e W'=>∃ v,e = .returned v∧Rows.arenaHoldsSpec.post enc Tryz.prog Tryz.f4 false true false false W args v W':=by
 have hW':=hW
 have hlt:=hW.lt
 obtain ⟨p,q,hA0,hV,rfl,hfz,hnd⟩:=hW
 have hA:DataW.TrodAll enc Tryz.prog W 0 (fun _=>true) true Tryz.f4.params.toList args.toList ds p:=hA0
 rw [Tryz.params4] at hA hval hwt
 obtain ⟨v0,vs0,d0,ds0,p0,q0,hargs,rfl,rfl,h0,r0⟩:=trodAll_cons hA
 obtain ⟨v1,vs1,d1,ds1,p1,q1,rfl,rfl,rfl,h1,r1⟩:=trodAll_cons r0
 obtain ⟨v2,vs2,d2,ds2,p2,q2,rfl,rfl,rfl,h2,r2⟩:=trodAll_cons r1
 obtain ⟨rfl,rfl,rfl⟩:=trodAll_nil r2
 obtain rfl:args = #[v0,v1,v2]:=by cases args;simp_all
 obtain ⟨rfl,rfl⟩:=trodVars_none hV
 have hws:=List.all_eq_true.1 hwt
 obtain ⟨c0,rfl,-⟩:=okWide_struct Tryz.underlying30 (hval 0 30 v0 rfl rfl)
 have hw0:∀ n ∈ d0.weights Tryz.prog 30,n ≤ reachBytes:=fun n hn=>by simpa using hws n (each_mem (i:=0) rfl rfl hn)
 have h0':=h0
 obtain ⟨f0,t0⟩:=h0
 obtain ⟨a0,ha0,hfit⟩:=readsP_Plan.read (cs:=c0.toList) t0 hw0
 obtain ⟨i1,rfl,rfl,rfl,hi1⟩:=open_int Tryz.underlying3 (hval 1 3 v1 rfl rfl) h1
 obtain ⟨A2,l2,k2,rfl⟩:=okWide_slice Tryz.underlying24 (hval 2 24 v2 rfl rfl)
 have hw2:∀ n ∈ d2.weights Tryz.prog 24,n ≤ reachBytes:=fun n hn=>by simpa using hws n (each_mem (i:=2) rfl rfl hn)
 have h2':=h2
 obtain ⟨f2,t2⟩:=h2
 obtain ⟨a2,ha2⟩:=reads_ints.read (cs:=[.slice A2 l2 k2]) t2 hw2
 obtain ⟨A3,k3,e3⟩:=slice_form ha2
 injection e3 with e3
 injection e3 with e3 e4 e5
 subst e3 e4 e5
 have hF:=hfit 1048576 (by
  have hb:Rows.uptoBulkAll [d0,.lit (.int .i64 i1),d2] ≤ 1048576:=of_decide_eq_true hsm
  simp only [Rows.uptoBulkAll] at hb
  show Rows.uptoBulk d0 ≤ _
  omega)
 have hB:PlanB a0:=⟨hF.2.1,hF.2.2.1⟩
 have key:=holds21_any c0.toList a0 i1 a2 A2 k2 W ha0 hB ha2
 refine (show Calls Tryz.prog 4 #[.agg c0,.int .i64 i1,.slice A2 a2.length k2] W _ from key).mono fun e W' ⟨he,bel⟩=>?_
 subst he
 refine ⟨_,rfl,_,_,_,[],p0++([]++(p2++[])),[],hW',?_,?_,?_,bel.frame _,fun h=>by cases h⟩
 ·exact trodAll_cons_mk (shut_bool Tryz.underlying4 _) trodAll_mk0
 ·exact trodAll_cons_mk (Below.trod laidOut (by kernel_rfl) (of_decide_eq_true (by kernel_rfl)) h0' bel (fun x hx=>hlt x (by simp [hx]))) (trodAll_cons_mk (shut_int Tryz.underlying3 hi1) (trodAll_cons_mk (Below.trod laidOut (by kernel_rfl) (of_decide_eq_true (by kernel_rfl)) h2' bel (fun x hx=>hlt x (by simp [hx]))) trodAll_mk0))
 ·rfl
theorem lifted (os:Os) (started:os.Started) (H:Type) (enc:TypeId × Value→H) (F:Stop.Interp) :
  ReturnsInHanded {} Tryz.checked os 4 .any ((Rows.OpenSpec.upto Rows.arenaHoldsSpec).pre6 enc Tryz.prog Tryz.f4 Rows.arenaHoldsUptoRow.domain false) (((Rows.OpenSpec.upto Rows.arenaHoldsSpec).at F).post enc Tryz.prog Tryz.f4 false true false false):=by
 refine returnsInHanded_of_cond_sized (C:=Tryz.checked) (s:=Rows.OpenSpec.upto Rows.arenaHoldsSpec) (k:=Rows.uptoSmall) rfl own started (by kernel_rfl) Tryz.func4
  (OpenSpec.witness (enc:=enc) (C:=Tryz.checked) (s:=Rows.OpenSpec.upto Rows.arenaHoldsSpec) (k:=Rows.uptoSmall) rfl false ⟨#[],#[.agg #[.slice none 0 0,.slice none 0 0,.slice none 0 0,.slice none 0 0,.slice none 0 0,.slice none 0 0,.slice none 0 0],.int .i64 0,.slice none 0 0],[]⟩ 8 (by kernel_rfl) (by kernel_rfl) (by kernel_rfl)
   (x:=([.agg [.agg [.nil,.nil,.nil,.nil],.nil,.nil,.nil],.lit (.int .i64 0),.nil],[],[])) (by kernel_rfl) rfl (by kernel_rfl)) ?_
 intro W base args ds gs before hval hW _ hk hwt _
 exact contract H enc W base args ds gs before hval hW hk hwt
theorem said:Rows.ArenaHoldsUptoSaid :=
 OpenClaim.holds_of_cond 4 Tryz.f4 rfl rfl rfl rfl rfl rfl rfl ⟨rfl,rfl,rfl,rfl,rfl⟩ rfl rfl rfl rfl rfl (by kernel_rfl) Tryz.func4 (by kernel_rfl)
  (of_decide_eq_true (by kernel_rfl)) (by unfold Func.isWrapper;first | (rw [if_pos (by decide +kernel)];kernel_rfl) | (rw [if_neg (by decide +kernel)];exact ⟨rfl,rfl⟩))
  (fun os started H enc _ F=>lifted os started H enc F)
end Go.Proofs.YtoeaglpmkjoenaaGreat.arenaHolds
