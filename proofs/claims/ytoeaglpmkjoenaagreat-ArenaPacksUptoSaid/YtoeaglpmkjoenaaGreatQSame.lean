/-
  The types of chapter 09 as Lean data, and what their cells hold.
-/
/-
  Operations that only reckon or read, as steps of a region that draws its order: what each yields in every world that holds what the region reads.
  A region that draws its order, by hand: steps that write, one or two of which may come up.
-/
/-
  Laws for a region that draws its order, the slot that an operation writes named.
-/
/-
  A region that draws its order: what is held need not hold behind the operations that come last (stores into what the loads have read).
-/
/-
  A region that draws its order: a cell's load and a block's laying, either of which may come first, meet again.
-/
/-
  Two settings that hold the same are the same: latticeref07.SameInts, SameTensor, latticelaw08.same, where they answer yes.
-/
import Derived.Test.YtoeaglpmkjoenaaGreatQResV
import Derived.Test.YtoeaglpmkjoenaaGreatProg
import Derived.Deep.RegionHeld3
import Derived.IntWalk
import Derived.Test.YtoeaglpmkjoenaaGreatQBase
import Derived.Test.YtoeaglpmkjoenaaGreatQOpsB
import Derived.Deep.QuietTactic
import Derived.BigQuiet
import Derived.Test.YtoeaglpmkjoenaaGreatChecked
set_option linter.unusedVariables false
namespace Go.Proofs.YtoeaglpmkjoenaaGreat
open Go.RowKit
open Rep (rep)
structure ValD where
 type:Int
 dims:List Int
 const:Bool
 t:TensorD
 deriving DecidableEq
instance:Rep ValD where
 size:=8
 bytes:=144
 rep w Z cs a:=∃ c0 c1 c2 c3,cs = c0++(c1++(c2++c3))∧rep w Z c0 a.type∧rep w Z c1 a.dims∧rep w Z c2 a.const∧rep w Z c3 a.t
 len:=by
  rintro w Z cs a ⟨c0,c1,c2,c3,rfl,h0,h1,h2,h3⟩
  simp only [List.length_append,Rep.len h0,Rep.len h1,Rep.len h2,Rep.len h3];rfl
 one:=by
  rintro w Z cs a ⟨c0,c1,c2,c3,rfl,h0,h1,h2,h3⟩
  exact app_one (Rep.one h0) (app_one (Rep.one h1) (app_one (Rep.one h2) (Rep.one h3)))
 keep:=by
  rintro w w' Z cs a ⟨c0,c1,c2,c3,hc,h0,h1,h2,h3⟩ k
  exact ⟨c0,c1,c2,c3,hc,Rep.keep h0 k,Rep.keep h1 k,Rep.keep h2 k,Rep.keep h3 k⟩
 more:=by
  rintro w Z Z' cs a ⟨c0,c1,c2,c3,hc,h0,h1,h2,h3⟩ k
  exact ⟨c0,c1,c2,c3,hc,Rep.more h0 k,Rep.more h1 k,Rep.more h2 k,Rep.more h3 k⟩
theorem open_ValD {w:World} {Z:Zone} {cs:List Value} {a:ValD} (h:rep w Z cs a):∃ A1 k1 A2 k2 A3 k3 A4 k4 A5 k5,cs = [.int .i64 a.type,.slice A1 a.dims.length k1,.bool a.const,.int .i64 a.t.type,.slice A2 a.t.dims.length k2,.slice A3 a.t.f.length k3,.slice A4 a.t.i.length k4,.slice A5 a.t.b.length k5]∧I64 a.type∧rep w Z [.slice A1 a.dims.length k1] a.dims∧rep w Z [.int .i64 a.t.type,.slice A2 a.t.dims.length k2,.slice A3 a.t.f.length k3,.slice A4 a.t.i.length k4,.slice A5 a.t.b.length k5] a.t:=by
 obtain ⟨_,_,_,_,rfl,⟨rfl,h0⟩,h1,rfl,h3⟩:=h
 obtain ⟨A1,k1,rfl⟩:=slice_form h1
 obtain ⟨A2,k2,A3,k3,A4,k4,A5,k5,rfl,_⟩:=open_TensorD h3
 exact ⟨A1,k1,A2,k2,A3,k3,A4,k4,A5,k5,rfl,h0,h1,h3⟩
theorem shut_ValD {w:World} {Z:Zone} {a:ValD} (h0:I64 a.type) {c1:List Value} (h1:rep w Z c1 a.dims) {c3:List Value} (h3:rep w Z c3 a.t):rep w Z ([.int .i64 a.type]++(c1++([.bool a.const]++c3))) a :=
 ⟨_,_,_,_,rfl,⟨rfl,h0⟩,h1,rfl,h3⟩
structure InitD where
 name:ByteArray
 t:TensorD
instance:Rep InitD where
 size:=6
 bytes:=120
 rep w Z cs a:=∃ c0 c1,cs = c0++c1∧rep w Z c0 a.name∧rep w Z c1 a.t
 len:=by
  rintro w Z cs a ⟨c0,c1,rfl,h0,h1⟩
  simp only [List.length_append,Rep.len h0,Rep.len h1];rfl
 one:=by
  rintro w Z cs a ⟨c0,c1,rfl,h0,h1⟩
  exact app_one (Rep.one h0) (Rep.one h1)
 keep:=by
  rintro w w' Z cs a ⟨c0,c1,hc,h0,h1⟩ k
  exact ⟨c0,c1,hc,Rep.keep h0 k,Rep.keep h1 k⟩
 more:=by
  rintro w Z Z' cs a ⟨c0,c1,hc,h0,h1⟩ k
  exact ⟨c0,c1,hc,Rep.more h0 k,Rep.more h1 k⟩
structure ValueD where
 name:ByteArray
 type:Int
 dims:List Int
instance:Rep ValueD where
 size:=3
 bytes:=48
 rep w Z cs a:=∃ c0 c1 c2,cs = c0++(c1++c2)∧rep w Z c0 a.name∧rep w Z c1 a.type∧rep w Z c2 a.dims
 len:=by
  rintro w Z cs a ⟨c0,c1,c2,rfl,h0,h1,h2⟩
  simp only [List.length_append,Rep.len h0,Rep.len h1,Rep.len h2];rfl
 one:=by
  rintro w Z cs a ⟨c0,c1,c2,rfl,h0,h1,h2⟩
  exact app_one (Rep.one h0) (app_one (Rep.one h1) (Rep.one h2))
 keep:=by
  rintro w w' Z cs a ⟨c0,c1,c2,hc,h0,h1,h2⟩ k
  exact ⟨c0,c1,c2,hc,Rep.keep h0 k,Rep.keep h1 k,Rep.keep h2 k⟩
 more:=by
  rintro w Z Z' cs a ⟨c0,c1,c2,hc,h0,h1,h2⟩ k
  exact ⟨c0,c1,c2,hc,Rep.more h0 k,Rep.more h1 k,Rep.more h2 k⟩
structure GNodeD where
 op:Int
 s:SettingD
 ins:List Int
 outs:List Int
 source:Int
 deriving DecidableEq
instance:Rep GNodeD where
 size:=40
 bytes:=432
 rep w Z cs a:=∃ c0 c1 c2 c3 c4,cs = c0++(c1++(c2++(c3++c4)))∧rep w Z c0 a.op∧rep w Z c1 a.s∧rep w Z c2 a.ins∧rep w Z c3 a.outs∧rep w Z c4 a.source
 len:=by
  rintro w Z cs a ⟨c0,c1,c2,c3,c4,rfl,h0,h1,h2,h3,h4⟩
  simp only [List.length_append,Rep.len h0,Rep.len h1,Rep.len h2,Rep.len h3,Rep.len h4];rfl
 one:=by
  rintro w Z cs a ⟨c0,c1,c2,c3,c4,rfl,h0,h1,h2,h3,h4⟩
  exact app_one (Rep.one h0) (app_one (Rep.one h1) (app_one (Rep.one h2) (app_one (Rep.one h3) (Rep.one h4))))
 keep:=by
  rintro w w' Z cs a ⟨c0,c1,c2,c3,c4,hc,h0,h1,h2,h3,h4⟩ k
  exact ⟨c0,c1,c2,c3,c4,hc,Rep.keep h0 k,Rep.keep h1 k,Rep.keep h2 k,Rep.keep h3 k,Rep.keep h4 k⟩
 more:=by
  rintro w Z Z' cs a ⟨c0,c1,c2,c3,c4,hc,h0,h1,h2,h3,h4⟩ k
  exact ⟨c0,c1,c2,c3,c4,hc,Rep.more h0 k,Rep.more h1 k,Rep.more h2 k,Rep.more h3 k,Rep.more h4 k⟩
theorem open_GNodeD {w:World} {Z:Zone} {cs:List Value} {a:GNodeD} (h:rep w Z cs a):∃ (ss:List Value) (A1:Option Addr) (k1:Nat) (A2:Option Addr) (k2:Nat),cs = [.int .i64 a.op]++(ss++([.slice A1 a.ins.length k1]++([.slice A2 a.outs.length k2]++[.int .i64 a.source])))∧I64 a.op∧SettingDAt w Z ss a.s∧rep w Z [.slice A1 a.ins.length k1] a.ins∧rep w Z [.slice A2 a.outs.length k2] a.outs∧I64 a.source:=by
 obtain ⟨_,ss,_,_,_,rfl,⟨rfl,h0⟩,h1,h2,h3,⟨rfl,h4⟩⟩:=h
 obtain ⟨A1,k1,rfl⟩:=slice_form h2
 obtain ⟨A2,k2,rfl⟩:=slice_form h3
 exact ⟨ss,A1,k1,A2,k2,rfl,h0,h1,h2,h3,h4⟩
theorem shut_GNodeD {w:World} {Z:Zone} {a:GNodeD} (h0:I64 a.op) {c1:List Value} (h1:rep w Z c1 a.s) {c2:List Value} (h2:rep w Z c2 a.ins) {c3:List Value} (h3:rep w Z c3 a.outs) (h4:I64 a.source):rep w Z ([.int .i64 a.op]++(c1++(c2++(c3++[.int .i64 a.source])))) a :=
 ⟨_,_,_,_,_,rfl,⟨rfl,h0⟩,h1,h2,h3,⟨rfl,h4⟩⟩
structure GraphD where
 vals:List ValD
 nodes:List GNodeD
 inputs:List Int
 outputs:List Int
instance:Rep GraphD where
 size:=4
 bytes:=96
 rep w Z cs a:=∃ c0 c1 c2 c3,cs = c0++(c1++(c2++c3))∧rep w Z c0 a.vals∧rep w Z c1 a.nodes∧rep w Z c2 a.inputs∧rep w Z c3 a.outputs
 len:=by
  rintro w Z cs a ⟨c0,c1,c2,c3,rfl,h0,h1,h2,h3⟩
  simp only [List.length_append,Rep.len h0,Rep.len h1,Rep.len h2,Rep.len h3];rfl
 one:=by
  rintro w Z cs a ⟨c0,c1,c2,c3,rfl,h0,h1,h2,h3⟩
  exact app_one (Rep.one h0) (app_one (Rep.one h1) (app_one (Rep.one h2) (Rep.one h3)))
 keep:=by
  rintro w w' Z cs a ⟨c0,c1,c2,c3,hc,h0,h1,h2,h3⟩ k
  exact ⟨c0,c1,c2,c3,hc,Rep.keep h0 k,Rep.keep h1 k,Rep.keep h2 k,Rep.keep h3 k⟩
 more:=by
  rintro w Z Z' cs a ⟨c0,c1,c2,c3,hc,h0,h1,h2,h3⟩ k
  exact ⟨c0,c1,c2,c3,hc,Rep.more h0 k,Rep.more h1 k,Rep.more h2 k,Rep.more h3 k⟩
theorem open_GraphD {w:World} {Z:Zone} {cs:List Value} {a:GraphD} (h:rep w Z cs a):∃ A1 k1 A2 k2 A3 k3 A4 k4,cs = [.slice A1 a.vals.length k1,.slice A2 a.nodes.length k2,.slice A3 a.inputs.length k3,.slice A4 a.outputs.length k4]∧rep w Z [.slice A1 a.vals.length k1] a.vals∧rep w Z [.slice A2 a.nodes.length k2] a.nodes∧rep w Z [.slice A3 a.inputs.length k3] a.inputs∧rep w Z [.slice A4 a.outputs.length k4] a.outputs:=by
 obtain ⟨_,_,_,_,rfl,h0,h1,h2,h3⟩:=h
 obtain ⟨A1,k1,rfl⟩:=slice_form h0
 obtain ⟨A2,k2,rfl⟩:=slice_form h1
 obtain ⟨A3,k3,rfl⟩:=slice_form h2
 obtain ⟨A4,k4,rfl⟩:=slice_form h3
 exact ⟨A1,k1,A2,k2,A3,k3,A4,k4,rfl,h0,h1,h2,h3⟩
theorem shut_GraphD {w:World} {Z:Zone} {a:GraphD} {c0:List Value} (h0:rep w Z c0 a.vals) {c1:List Value} (h1:rep w Z c1 a.nodes) {c2:List Value} (h2:rep w Z c2 a.inputs) {c3:List Value} (h3:rep w Z c3 a.outputs):rep w Z (c0++(c1++(c2++c3))) a :=
 ⟨_,_,_,_,rfl,h0,h1,h2,h3⟩
structure ModelD where
 opset:Int
 name:ByteArray
 nodes:List NodeD
 inits:List InitD
 inputs:List ValueD
 outputs:List ValueD
instance:Rep ModelD where
 size:=6
 bytes:=128
 rep w Z cs a:=∃ c0 c1 c2 c3 c4 c5,cs = c0++(c1++(c2++(c3++(c4++c5))))∧rep w Z c0 a.opset∧rep w Z c1 a.name∧rep w Z c2 a.nodes∧rep w Z c3 a.inits∧rep w Z c4 a.inputs∧rep w Z c5 a.outputs
 len:=by
  rintro w Z cs a ⟨c0,c1,c2,c3,c4,c5,rfl,h0,h1,h2,h3,h4,h5⟩
  simp only [List.length_append,Rep.len h0,Rep.len h1,Rep.len h2,Rep.len h3,Rep.len h4,Rep.len h5];rfl
 one:=by
  rintro w Z cs a ⟨c0,c1,c2,c3,c4,c5,rfl,h0,h1,h2,h3,h4,h5⟩
  exact app_one (Rep.one h0) (app_one (Rep.one h1) (app_one (Rep.one h2) (app_one (Rep.one h3) (app_one (Rep.one h4) (Rep.one h5)))))
 keep:=by
  rintro w w' Z cs a ⟨c0,c1,c2,c3,c4,c5,hc,h0,h1,h2,h3,h4,h5⟩ k
  exact ⟨c0,c1,c2,c3,c4,c5,hc,Rep.keep h0 k,Rep.keep h1 k,Rep.keep h2 k,Rep.keep h3 k,Rep.keep h4 k,Rep.keep h5 k⟩
 more:=by
  rintro w Z Z' cs a ⟨c0,c1,c2,c3,c4,c5,hc,h0,h1,h2,h3,h4,h5⟩ k
  exact ⟨c0,c1,c2,c3,c4,c5,hc,Rep.more h0 k,Rep.more h1 k,Rep.more h2 k,Rep.more h3 k,Rep.more h4 k,Rep.more h5 k⟩
end Go.Proofs.YtoeaglpmkjoenaaGreat
set_option linter.unusedSimpArgs false
set_option linter.unusedVariables false
namespace Go.Proofs.YtoeaglpmkjoenaaGreat
open Go.RowKit
open Rep (rep)
section
variable {P:Program} {ops:Array Oper} {S:World→Prop} {o:Oper} {a:Act}
theorem yields_addI (hw:Region.wanted o (yielded ops a.tmps) = true) (x y:Operand) (t u:TypeId) (ho:o.op = .binOp .add t x y u) (p q:Int) (hx:a.eval x = .int .i64 p) (hy:a.eval y = .int .i64 q)
  (ht:P.underlying t = some (.int .i64)) (h0:0 ≤ p) (h1:0 ≤ q) (h2:p + q ≤ 9223372036854775807):YieldsIf P ops S o (.int .i64 (p + q)) a :=
 .inl ⟨hw,fun w h=>by
  unfold execOp
  simp only [ho,hx,hy]
  go_simp
  exact IntWalk.i64_in _ (by omega)⟩
theorem yields_subI (hw:Region.wanted o (yielded ops a.tmps) = true) (x y:Operand) (t u:TypeId) (ho:o.op = .binOp .sub t x y u) (p q:Int) (hx:a.eval x = .int .i64 p) (hy:a.eval y = .int .i64 q)
  (ht:P.underlying t = some (.int .i64)) (h0:0 ≤ q) (h1:q ≤ p) (h2:p ≤ 9223372036854775807):YieldsIf P ops S o (.int .i64 (p - q)) a :=
 .inl ⟨hw,fun w h=>by
  unfold execOp
  simp only [ho,hx,hy]
  go_simp
  exact IntWalk.i64_in _ (by omega)⟩
theorem yields_indexI {e:TypeId} (hw:Region.wanted o (yielded ops a.tmps) = true) (t:TypeId) (x y:Operand) (ho:o.op = .indexAddr t x y) (b f n c i size:Nat) (q:Int) (hx:a.eval x = .slice (some ⟨b,f,none⟩) n c) (hy:a.eval y = .int .i64 q)
  (ht:P.underlying t = some (.slice e)) (hi:(P.info? e).map (·.size) = some size) (hq:q = (i:Int)) (hlt:i < n):YieldsIf P ops S o (.pointer (some ⟨b,f + i * size,none⟩)) a :=
 .inl ⟨hw,fun w h=>by
  subst hq
  have h0:(0:Int) ≤ (i:Int):=Int.natCast_nonneg _
  have h1:(i:Int) < (n:Int):=by omega
  cases hq:P.info? e with
  | none=>simp [hq] at hi
  | some j =>
   have hs:j.size = size:=by simpa [hq] using hi
   unfold execOp
   simp only [ho,hx,hy]
   go_simp
   simp [sizeOf,typeInfo,hq,hs]⟩
end
end Go.Proofs.YtoeaglpmkjoenaaGreat
set_option linter.unusedSimpArgs false
namespace Go.Proofs.YtoeaglpmkjoenaaGreat
open Go.RowKit
open Rep (rep)
section
variable {P:Program} {md:Region.Mode} {ops:Array Oper} {Q:Exit→Act→World→Prop} {S:World→Prop} {fuel:Nat} {listed:Array Bool} {a:Act} {w:World} {o o':Oper}
def StepTo (P:Program) (md:Region.Mode) (ops:Array Oper) (Q:Exit→Act→World→Prop) (S:World→Prop) (fuel:Nat) (listed:Array Bool) (i:Nat) (o:Oper) (a:Act) (w:World):Prop :=
 Region.wanted o (yielded ops a.tmps) = true∧∃ v W,(execOp a.eval o).run P w = .ok (.value v) W∧S W∧wpAnyH P md ops Q S fuel (listed.setIfInBounds i true) (a.put o.dst v) W
theorem step_to {K:Act→World→Prop} {i:Nat} (h:StepTo P md ops Q S fuel listed i o a w) (hK:Shut (∀ a w,S w→(S w→wpAnyH P md ops Q S fuel (listed.setIfInBounds i true) a w)→K a w)) :
  if Region.wanted o (yielded ops a.tmps) = true then Oper.wp P o a w K Q else K (a.put o.dst undef) w:=by
 obtain ⟨hw,v,W,hrun,hS,hk⟩:=h
 rw [if_pos hw]
 unfold Oper.wp
 rw [hrun]
 exact hK.out _ _ hS (fun _=>hk)
theorem anyH_1 (i:Nat) (hio:ops[i]? = some o) (hr:Region.ready md ops listed = [i]) (h:StepTo P md ops Q S fuel listed i o a w):wpAnyH P md ops Q S (fuel + 1) listed a w :=
 wpAnyH_ready hr (by simp) (AllReadyH.cons hio (fun _ hK=>step_to h hK) AllReadyH.nil)
theorem anyH_2 (i j:Nat) (hio:ops[i]? = some o) (hjo:ops[j]? = some o') (hr:Region.ready md ops listed = [i,j]) (h:StepTo P md ops Q S fuel listed i o a w) (h':StepTo P md ops Q S fuel listed j o' a w):wpAnyH P md ops Q S (fuel + 1) listed a w :=
 wpAnyH_ready hr (by simp) (AllReadyH.cons hio (fun _ hK=>step_to h hK) (AllReadyH.cons hjo (fun _ hK=>step_to h' hK) AllReadyH.nil))
theorem steps_lay {i:Nat} (v:Value) (ob:Obj) (hw:Region.wanted o (yielded ops a.tmps) = true) (hl:laySem P (execOp a.eval o) w.heap.size = some (.value v,[ob])) (hS:S (w.alloc ob))
  (h:wpAnyH P md ops Q S fuel (listed.setIfInBounds i true) (a.put o.dst v) (w.alloc ob)):StepTo P md ops Q S fuel listed i o a w :=
 ⟨hw,v,_,run_lay _ rfl hl,hS,h⟩
theorem anyH_store_field (i:Nat) (hio:ops[i]? = some o) (hr:Region.ready md ops listed = [i])
  (hw:Region.wanted o (yielded ops a.tmps) = true) (ty:TypeId) (x y:Operand) (ho:o.op = .store ty x y)
  (g f:Nat) (v:Value) (hx:a.eval x = .pointer (some ⟨g,f,none⟩)) (hy:a.eval y = v) (h1:v.oneCell' = true) (hi:(P.info? ty).map (·.size) = some 1)
  (t:TypeId) (cs:List Value) (hg:w.heap[g]? = some (.cells cs.toArray t (0,0))) (hf:f < cs.length) (hS:S (w.setRow g (cs.set f v).toArray))
  (h:wpAnyH P md ops Q S fuel (listed.setIfInBounds i true) (a.put o.dst undef) (w.setRow g (cs.set f v).toArray)):wpAnyH P md ops Q S (fuel + 1) listed a w:=by
 refine wpAnyH_ready hr (by simp) (AllReadyH.cons hio (fun K hK=>?_) AllReadyH.nil)
 rw [if_pos hw]
 have hst:=run_storeCells_at P g f t [v] 0 cs.toArray w hg (by simp;omega) (by intro u hu;simp at hu;subst hu;exact h1)
 simp only [Nat.add_zero,List.length_cons,List.length_nil,Nat.zero_add] at hst
 have hset:cs.take f++[v]++cs.drop (f + 1) = cs.set f v:=by
  rw [List.set_eq_take_append_cons_drop,if_pos hf,List.append_assoc];rfl
 rw [hset] at hst
 unfold Oper.wp execOp
 cases hq:P.info? ty with
 | none=>simp [hq] at hi
 | some i =>
  have hs:i.size = 1:=by simpa [hq] using hi
  have hc:v.cells = #[v]:=by cases v <;> first | rfl | cases h1
  have hv:(storeVar ty ⟨g,f,none⟩ v).run P w = .ok () (w.setRow g (cs.set f v).toArray):=by
   simp only [storeVar,sizeOf,typeInfo,Sem.run_bind,hc]
   simp [hq,hs,hst]
  simp only [ho,hx,hy,Instr.storeAt,Instr.sureAddr,Sem.run_bind,Sem.run_pure,Result.andThen_ok,hv]
  exact hK.out _ _ hS (fun _=>h)
end
end Go.Proofs.YtoeaglpmkjoenaaGreat
set_option linter.unusedSimpArgs false
set_option linter.unusedVariables false
namespace Go.Proofs.YtoeaglpmkjoenaaGreat
open Go.RowKit
open Rep (rep)
section
variable {P:Program}
theorem yields_load_one9 {ops:Array Oper} {S:World→Prop} {o:Oper} {a:Act} (hw:Region.wanted o (yielded ops a.tmps) = true) (ty:TypeId) (x:Operand) (ho:o.op = .load ty x) (b f:Nat) (hx:a.eval x = .pointer (some ⟨b,f,none⟩))
  (v:Value) (d:TypeDesc) (hu:P.underlying ty = some d) (hd:(match d with | .struct _ | .array _ _=>true | _=>false) = false) (hS:∀ w,S w→w.cell? ⟨b,f,none⟩ = some v):YieldsIf P ops S o v a :=
 .inl ⟨hw,fun w h=>by
  have hag:(isAgg ty).run P w = .ok false w:=by
   unfold isAgg
   rw [Sem.run_bind,run_underlying hu w]
   cases d <;> simp_all
  unfold execOp
  simp only [ho,hx,Instr.loadAt,Instr.sureAddr,Sem.run_bind,Sem.run_pure,Result.andThen_ok,loadVar,hag]
  simp [hS w h]⟩
end
theorem anyH_call9 {P:Program} {md:Region.Mode} {ops:Array Oper} {Q:Exit→Act→World→Prop} {S:World→Prop} {fuel:Nat} {listed:Array Bool} {a:Act} {w:World} {o:Oper} (i:Nat) (hio:ops[i]? = some o) (hr:Region.ready md ops listed = [i])
  (hw:Region.wanted o (yielded ops a.tmps) = true) (f:FuncId) (xs:Array Operand) (ts:Array TypeId) (ho:o.op = .call { callee:=.value (.func f),args:=xs,argTypes:=ts }) (vs:Array Value) (hv:xs.map a.eval = vs) (hc:∀ w,(callFunc f vs).run P w = .ok (.enter f vs) w)
  (h:Calls P f vs w fun e w'=>∃ u,e = .returned u∧S w'∧wpAnyH P md ops Q S fuel (listed.setIfInBounds i true) (a.put o.dst u) w'):wpAnyH P md ops Q S (fuel + 1) listed a w:=by
 refine wpAnyH_ready hr (by simp) (AllReadyH.cons hio (fun K hK=>?_) AllReadyH.nil)
 rw [if_pos hw]
 unfold Oper.wp
 simp only [execOp,ho]
 have hf:a.eval (Operand.func f) = .func (.func f) #[] #[]:=rfl
 simp [hv,hf,resolve,invoke,Deferred.ofValue,hc]
 refine h.mono fun e w' ⟨u,he,hS,hk⟩=>?_
 subst he
 exact hK.out _ _ hS (fun _=>hk)
section
variable {P:Program} {md:Region.Mode} {ops:Array Oper} {Q:Exit→Act→World→Prop} {S:World→Prop}
theorem take_d9 (i:Nat) (d:Option Tmp) {oi:Oper} {v:Value} {fuel:Nat} {listed:Array Bool} {a:Act} {w:World} (hi:ops[i]? = some oi) (hd:oi.dst = d)
  (hs:Region.noSelect ops = true) (hf:Region.free md ops listed i = true) (hr:(Region.ready md ops listed).contains i = true)
  (hQ:∀ c a w,Q (.panic c) (a.put d v) w→Q (.panic c) a w) (hy:YieldsIf P ops S oi v a) (hS:S w)
  (h:wpAnyH P md ops Q S fuel (listed.setIfInBounds i true) (a.put d v) w):wpAnyH P md ops Q S (fuel + 1) listed a w:=by
 subst hd
 exact wpAnyH_take hi hs hf hr hQ hy hS h
theorem tk9 (i:Nat) (d:Option Tmp) {oi:Oper} {v:Value} {fuel:Nat} {listed:Array Bool} {a:Act} {w:World} (hi:ops[i]? = some oi) (hy:YieldsIf P ops S oi v a) (hS:S w)
  (h:wpAnyH P md ops Q S fuel (listed.setIfInBounds i true) (a.put d v) w) (hd:oi.dst = d:=by kernel_rfl) (hs:Region.noSelect ops = true:=by kernel_rfl) (hf:Region.free md ops listed i = true:=by kernel_rfl) (hr:(Region.ready md ops listed).contains i = true:=by kernel_rfl)
  (hQ:∀ c a w,Q (.panic c) (a.put d v) w→Q (.panic c) a w:=by exact fun _ _ _ h=>h):wpAnyH P md ops Q S (fuel + 1) listed a w:=take_d9 i d hi hd hs hf hr hQ hy hS h
theorem tk0 (i:Nat) (d:Option Tmp) {oi:Oper} {v:Value} {fuel:Nat} {listed:Array Bool} {a:Act} {w:World} (hi:ops[i]? = some oi) (hS:S w)
  (h:wpAnyH P md ops Q S fuel (listed.setIfInBounds i true) (a.put d v) w) (hd:oi.dst = d:=by kernel_rfl) (hs:Region.noSelect ops = true:=by kernel_rfl) (hf:Region.free md ops listed i = true:=by kernel_rfl) (hr:(Region.ready md ops listed).contains i = true:=by kernel_rfl)
  (hQ:∀ c a w,Q (.panic c) (a.put d v) w→Q (.panic c) a w:=by exact fun _ _ _ h=>h) (hy:YieldsIf P ops S oi v a:=by exact Or.inl ⟨by kernel_rfl,fun _ _=>by kernel_rfl⟩):wpAnyH P md ops Q S (fuel + 1) listed a w:=take_d9 i d hi hd hs hf hr hQ hy hS h
theorem call_d9 (i:Nat) (d:Option Tmp) {fuel:Nat} {listed:Array Bool} {a:Act} {w:World} {o:Oper} (hio:ops[i]? = some o) (hd:o.dst = d) (hr:Region.ready md ops listed = [i])
  (hw:Region.wanted o (yielded ops a.tmps) = true) (f:FuncId) (xs:Array Operand) (ts:Array TypeId) (ho:o.op = .call { callee:=.value (.func f),args:=xs,argTypes:=ts }) (vs:Array Value) (hv:xs.map a.eval = vs) (hc:∀ w,(callFunc f vs).run P w = .ok (.enter f vs) w)
  (h:Calls P f vs w fun e w'=>∃ u,e = .returned u∧S w'∧wpAnyH P md ops Q S fuel (listed.setIfInBounds i true) (a.put d u) w'):wpAnyH P md ops Q S (fuel + 1) listed a w:=by
 subst hd
 exact anyH_call9 i hio hr hw f xs ts ho vs hv hc h
end
section
variable {P:Program} {md:Region.Mode} {ops:Array Oper} {Q:Exit→Act→World→Prop} {S:World→Prop}
theorem oneStep (i:Nat) (d:Option Tmp) {fuel:Nat} {listed:Array Bool} {a:Act} {w:World} {o:Oper} (hio:ops[i]? = some o) (hd:o.dst = d) (hr:Region.ready md ops listed = [i])
  (hw:Region.wanted o (yielded ops a.tmps) = true) (v:Value) (W:World) (hrun:(execOp a.eval o).run P w = .ok (.value v) W) (hS:S W) (h:wpAnyH P md ops Q S fuel (listed.setIfInBounds i true) (a.put d v) W):wpAnyH P md ops Q S (fuel + 1) listed a w:=by
 subst hd
 exact anyH_1 i hio hr ⟨hw,v,W,hrun,hS,h⟩
theorem oneLay (i:Nat) (d:Option Tmp) {fuel:Nat} {listed:Array Bool} {a:Act} {w:World} {o:Oper} (hio:ops[i]? = some o) (hd:o.dst = d) (hr:Region.ready md ops listed = [i])
  (hw:Region.wanted o (yielded ops a.tmps) = true) (v:Value) (os:List Obj) (hl:laySem P (execOp a.eval o) w.heap.size = some (.value v,os)) (hS:S (lays w os)) (h:wpAnyH P md ops Q S fuel (listed.setIfInBounds i true) (a.put d v) (lays w os)):wpAnyH P md ops Q S (fuel + 1) listed a w :=
 oneStep i d hio hd hr hw v _ (run_lay _ rfl hl) hS h
end
end Go.Proofs.YtoeaglpmkjoenaaGreat
set_option linter.unusedSimpArgs false
set_option linter.unusedVariables false
namespace Go.Proofs.YtoeaglpmkjoenaaGreat
open Go.RowKit
section
variable {P:Program} {md:Region.Mode} {ops:Array Oper} {Q:Exit→Act→World→Prop} {S:World→Prop} {T:List Nat}
def wpAnyT (P:Program) (md:Region.Mode) (ops:Array Oper) (Q:Exit→Act→World→Prop) (S:World→Prop) (T:List Nat):Nat→Array Bool→Act→World→Prop
 | 0,listed,a,w=>Region.ready md ops listed = []∧Q .normal a w
 | n + 1,listed,a,w =>
  (Region.ready md ops listed = []→Q .normal a w) ∧
  ∀ j ∈ Region.ready md ops listed,wpOp P ops Q j (fun b u=>(j ∉ T→S u)∧wpAnyT P md ops Q S T n (listed.setIfInBounds j true) b u) a w
theorem any_of_tail:∀ (n:Nat) (listed:Array Bool) (a:Act) (w:World),wpAnyT P md ops Q S T n listed a w→wpAny P md ops Q n listed a w
 | 0,_,_,_,h=>h
 | n + 1,_,_,_,h=>⟨h.1,fun j hj=>wpOp_mono (fun b u hh=>any_of_tail n _ b u hh.2) (h.2 j hj)⟩
def tailOf (md:Region.Mode) (ops:Array Oper) (i:Nat) (T:List Nat):Bool :=
 T.all fun t=>((ops[t]?).map fun o=>o.after.any fun e=>Region.binds md e && (e.on == i || T.contains e.on)).getD false
def unlisted (listed:Array Bool) (T:List Nat):Bool:=T.all fun t=>!listed.getD t true
theorem getD_flip {l:Array Bool} {k:Nat} (h:l.getD k true = false):l.getD k false = false:=by
 rcases Nat.lt_or_ge k l.size with h' | h'
 ·simpa [h'] using h
 ·simp [Array.getElem?_eq_none h'] at h
theorem tail_waits {listed:Array Bool} {i:Nat} (h:tailOf md ops i T = true) (hi:listed.getD i true = false) (hT:unlisted listed T = true) {t:Nat} (ht:t ∈ T):t ∉ Region.ready md ops listed:=by
 intro hr
 obtain ⟨_,o,ho,hall⟩:=mem_ready.1 hr
 have h1:=List.all_eq_true.1 h t ht
 simp only [ho,Option.map_some,Option.getD_some,Array.any_eq_true'] at h1
 obtain ⟨e,he,h2⟩:=h1
 have h3:=Bool.and_eq_true_iff.1 h2
 have h4:=hall e he h3.1
 have h5:listed.getD e.on true = false:=by
  rcases Bool.or_eq_true_iff.1 h3.2 with h6 | h6
  ·rw [eq_of_beq h6];exact hi
  ·have:=List.all_eq_true.1 hT e.on (List.contains_iff_mem.1 h6)
   simpa using this
 rw [getD_flip h5] at h4
 cases h4
theorem unlisted_set {listed:Array Bool} {j:Nat} (hT:unlisted listed T = true) (hj:j ∉ T):unlisted (listed.setIfInBounds j true) T = true:=by
 refine List.all_eq_true.2 fun t ht=>?_
 have hne:j ≠ t:=fun e=>hj (e ▸ ht)
 have:=List.all_eq_true.1 hT t ht
 rw [getD_set_ne true hne]
 exact this
theorem tail_first {i:Nat} {oi:Oper} {v:Value} (hi:ops[i]? = some oi) (hsel:∀ (j:Nat) (o:Oper) cs b,ops[j]? = some o→o.op ≠ .select cs b)
  (hQ:∀ c a w,Q (.panic c) (a.put oi.dst v) w→Q (.panic c) a w) (hw:tailOf md ops i T = true) :
  ∀ (n:Nat) (listed:Array Bool) (a:Act) (w:World),
   (∀ j oj,ops[j]? = some oj→j ≠ i→listed.getD j true = false→(∀ e ∈ oj.after,Region.binds md e = true→e.on ≠ i)→oi.apart ops oj = true) →
   unlisted listed T = true→i ∈ Region.ready md ops listed→YieldsIf P ops S oi v a→S w →
   wpAnyT P md ops Q S T n (listed.setIfInBounds i true) (a.put oi.dst v) w→wpAnyT P md ops Q S T (n + 1) listed a w:=by
 intro n
 induction n with
 | zero =>
  intro listed a w _ _ hr hy hS H
  refine ⟨fun h=>(by rw [h] at hr;cases hr),fun j hj=>?_⟩
  by_cases hji:j = i
  ·subst hji;exact hy.wpOp hi hS ⟨fun _=>hS,H⟩
  ·have:=ready_mono hj hji
   rw [H.1] at this
   cases this
 | succ n ih =>
  intro listed a w hfree hT hr hy hS H
  refine ⟨fun h=>(by rw [h] at hr;cases hr),fun j hj=>?_⟩
  by_cases hji:j = i
  ·subst hji;exact hy.wpOp hi hS ⟨fun _=>hS,H⟩
  ·have hiu:=(mem_ready.1 hr).1
   have hjT:j ∉ T:=fun ht=>tail_waits hw hiu hT ht hj
   have h1:=H.2 j (ready_mono hj hji)
   obtain ⟨hjun,oj,hoj,hall⟩:=mem_ready.1 hj
   have hnot:∀ e ∈ oj.after,Region.binds md e = true→e.on ≠ i:=fun e he hb heq=>by
    have h2:=hall e he hb
    rw [heq,getD_flip hiu] at h2
    cases h2
   have h2:=wpOp_putIf hoj (hfree j oj hoj hji hjun hnot) (fun cs b=>hsel i oi cs b hi) (fun cs b=>hsel j oj cs b hoj) hQ hy h1
   have hfree':∀ k ok,ops[k]? = some ok→k ≠ i→(listed.setIfInBounds j true).getD k true = false →
     (∀ e ∈ ok.after,Region.binds md e = true→e.on ≠ i)→oi.apart ops ok = true:=fun k ok hk hki hun hno=>by
    refine hfree k ok hk hki ?_ hno
    by_cases hjk:j = k
    ·subst hjk;exact hjun
    ·rw [getD_set_ne true hjk] at hun;exact hun
   refine wpOp_mono (fun b u h3=>⟨fun _=>h3.2.1 hjT,ih (listed.setIfInBounds j true) b u hfree' (unlisted_set hT hjT) (ready_mono hr (Ne.symm hji)) h3.1 (h3.2.1 hjT) ?_⟩) h2
   rw [Array.setIfInBounds_comm _ _ hji]
   exact h3.2.2
theorem take_t9 (i:Nat) (d:Option Tmp) {oi:Oper} {v:Value} {n:Nat} {listed:Array Bool} {a:Act} {w:World} (hi:ops[i]? = some oi) (hd:oi.dst = d)
  (hs:Region.noSelect ops = true) (hf:Region.free md ops listed i = true) (hr:(Region.ready md ops listed).contains i = true) (hw:(tailOf md ops i T && unlisted listed T) = true)
  (hQ:∀ c a w,Q (.panic c) (a.put d v) w→Q (.panic c) a w) (hy:YieldsIf P ops S oi v a) (hS:S w)
  (h:wpAnyT P md ops Q S T n (listed.setIfInBounds i true) (a.put d v) w):wpAnyT P md ops Q S T (n + 1) listed a w:=by
 subst hd
 have hw':=Bool.and_eq_true_iff.1 hw
 exact tail_first hi (Region.noSelect_spec hs) hQ hw'.1 n listed a w (Region.free_spec hi hf) hw'.2 (by simpa using hr) hy hS h
theorem tt9 (i:Nat) (d:Option Tmp) {oi:Oper} {v:Value} {n:Nat} {listed:Array Bool} {a:Act} {w:World} (hi:ops[i]? = some oi) (hy:YieldsIf P ops S oi v a) (hS:S w)
  (h:wpAnyT P md ops Q S T n (listed.setIfInBounds i true) (a.put d v) w) (hd:oi.dst = d:=by kernel_rfl) (hs:Region.noSelect ops = true:=by kernel_rfl) (hf:Region.free md ops listed i = true:=by kernel_rfl) (hr:(Region.ready md ops listed).contains i = true:=by kernel_rfl) (hw:(tailOf md ops i T && unlisted listed T) = true:=by kernel_rfl)
  (hQ:∀ c a w,Q (.panic c) (a.put d v) w→Q (.panic c) a w:=by exact fun _ _ _ h=>h):wpAnyT P md ops Q S T (n + 1) listed a w:=take_t9 i d hi hd hs hf hr hw hQ hy hS h
theorem call_t9 (i:Nat) (d:Option Tmp) {n:Nat} {listed:Array Bool} {a:Act} {w:World} {o:Oper} (hio:ops[i]? = some o) (hd:o.dst = d) (hr:Region.ready md ops listed = [i])
  (hw:Region.wanted o (yielded ops a.tmps) = true) (f:FuncId) (xs:Array Operand) (ts:Array TypeId) (ho:o.op = .call { callee:=.value (.func f),args:=xs,argTypes:=ts }) (vs:Array Value) (hv:xs.map a.eval = vs) (hc:∀ w,(callFunc f vs).run P w = .ok (.enter f vs) w)
  (h:Calls P f vs w fun e w'=>∃ u,e = .returned u∧S w'∧wpAnyT P md ops Q S T n (listed.setIfInBounds i true) (a.put d u) w'):wpAnyT P md ops Q S T (n + 1) listed a w:=by
 subst hd
 refine ⟨fun h0=>(by rw [hr] at h0;cases h0),fun j hj=>?_⟩
 rw [hr] at hj
 cases List.mem_singleton.1 hj
 unfold wpOp
 simp only [hio]
 rw [if_pos hw]
 refine Or.inl ?_
 unfold Oper.wp
 simp only [execOp,ho]
 have hf:a.eval (Operand.func f) = .func (.func f) #[] #[]:=rfl
 simp [hv,hf,resolve,invoke,Deferred.ofValue,hc,Oper.upon]
 refine h.mono fun e w' ⟨u,he,hS,hk⟩=>?_
 subst he
 exact ⟨fun _=>hS,hk⟩
theorem tail_free:∀ (n:Nat) (listed:Array Bool) (a:Act) (w:World),(List.range ops.size).all (fun j=>listed.getD j true || T.contains j) = true →
  wpAnyH P md ops Q (fun _=>True) n listed a w→wpAnyT P md ops Q S T n listed a w
 | 0,_,_,_,_,h=>h
 | n + 1,listed,a,w,hT,h=>⟨h.1,fun j hj=>by
   have hjT:j ∈ T:=by
    obtain ⟨hun,o,ho,_⟩:=mem_ready.1 hj
    have hlt:j < ops.size:=(Array.getElem?_eq_some_iff.1 ho).1
    have:=List.all_eq_true.1 hT j (List.mem_range.2 hlt)
    rw [hun] at this
    simpa using this
   refine wpOp_mono (fun b u hh=>⟨fun hn=>absurd hjT hn,tail_free n _ b u ?_ hh.2⟩) (h.2 j hj)
   refine List.all_eq_true.2 fun k hk=>?_
   have:=List.all_eq_true.1 hT k hk
   by_cases hjk:j = k
   ·subst hjk;simp [List.contains_iff_mem.2 hjT]
   ·rw [getD_set_ne true hjk];exact this⟩
theorem wp_region_tail (T:List Nat) {id:Nat} {a:Act} {w:World} (hm:P.follows .mixedOrders = true) (hS:S w.drew)
  (h:S w.drew→wpAnyT P .any ops Q S T ops.size (Array.replicate ops.size false) a w.drew):(Code.region id ops true).wp P Q a w :=
 wp_region_any hm (any_of_tail _ _ _ _ (h hS))
end
end Go.Proofs.YtoeaglpmkjoenaaGreat
set_option linter.unusedSimpArgs false
set_option linter.unusedVariables false
namespace Go.Proofs.YtoeaglpmkjoenaaGreat
open Go.RowKit
open Rep (rep)
section
variable {P:Program} {md:Region.Mode} {ops:Array Oper} {Q:Exit→Act→World→Prop} {S:World→Prop}
theorem yields_indexQ {o:Oper} {a:Act} {e:TypeId} (hw:Region.wanted o (yielded ops a.tmps) = true) (t:TypeId) (x y:Operand) (ho:o.op = .indexAddr t x y) (b f n c i size k:Nat) (q:Int) (hx:a.eval x = .slice (some ⟨b,f,none⟩) n c) (hy:a.eval y = .int .i64 q)
  (ht:P.underlying t = some (.slice e)) (hi:(P.info? e).map (·.size) = some size) (hq:q = (i:Int)) (hlt:i < n) (hk:f + i * size = k):YieldsIf P ops S o (.pointer (some ⟨b,k,none⟩)) a:=by
 subst hk
 exact yields_indexI hw t x y ho b f n c i size q hx hy ht hi hq hlt
end
end Go.Proofs.YtoeaglpmkjoenaaGreat
set_option linter.unusedSimpArgs false
set_option linter.unusedVariables false
namespace Go.Proofs.YtoeaglpmkjoenaaGreat
open Go.RowKit
open Rep (rep)
def DrewFrom (w w':World):Prop:=∃ n,w' = w.drewN n
theorem DrewFrom.refl (w:World):DrewFrom w w:=⟨0,rfl⟩
theorem DrewFrom.more {w w':World} (h:DrewFrom w w') (n:Nat):DrewFrom w (w'.drewN n):=by
 obtain ⟨m,rfl⟩:=h
 exact ⟨m + n,by rw [World.drewN_drewN]⟩
section
variable {α:Type} [Rep α]
theorem cell_of_elem {w:World} {Z:Zone} {b o:Nat} {c:List Value} {i:Nat} {u:Value} (hs:Rep.size α = 1) (h:∀ j v,c[j]? = some v→w.cell? ⟨b,o + (i * Rep.size α + j),none⟩ = some v∧(Z.free = true→w.frozen? ⟨b,o + (i * Rep.size α + j),none⟩ = false)) (h0:c[0]? = some u) :
  w.cell? ⟨b,o + i,none⟩ = some u:=by
 have:=(h 0 u h0).1
 rwa [hs,Nat.mul_one,Nat.add_zero] at this
end
structure TwoBox (w:World) (ta tb:TypeId) (ca cb:List Value) (W:World):Prop where
 below:Below w.heap.size w W
 fst:W.heap[w.heap.size]? = some (.cells ca.toArray ta (0,0))
 snd:W.heap[w.heap.size + 1]? = some (.cells cb.toArray tb (0,0))
 size:W.heap.size = w.heap.size + 2
theorem twobox_start (w:World) (ta tb:TypeId) (ca cb:List Value):TwoBox w ta tb ca cb ((w.alloc (.cells ca.toArray ta)).alloc (.cells cb.toArray tb)):=by
 have h1:=heap_alloc_new (w.alloc (.cells ca.toArray ta)) (.cells cb.toArray tb)
 rw [World.size_alloc] at h1
 exact ⟨((Below.refl _ _).alloc (Nat.le_refl _) _).alloc (by simp) _,(Below.heap_alloc _ _ _ (by simp)).trans (heap_alloc_new _ _),h1,by simp⟩
section
variable {w W:World} {ta tb:TypeId} {ca cb:List Value}
theorem TwoBox.a (h:TwoBox w ta tb ca cb W) {j:Nat} {u:Value} (hj:ca[j]? = some u):W.cell? ⟨w.heap.size,j,none⟩ = some u:=by
 have:=At.of_row h.fst j u hj
 rwa [Nat.zero_add] at this
theorem TwoBox.b (h:TwoBox w ta tb ca cb W) {j:Nat} {u:Value} (hj:cb[j]? = some u):W.cell? ⟨w.heap.size + 1,j,none⟩ = some u:=by
 have:=At.of_row h.snd j u hj
 rwa [Nat.zero_add] at this
theorem TwoBox.rep {α:Type} [Rep α] (h:TwoBox w ta tb ca cb W) {c:List Value} {a:α} (hr:rep w (old w.heap.size) c a):rep W (old W.heap.size) c a :=
 Rep.more (Rep.keep hr (Keeps.old_below h.below (Nat.le_refl _))) (old_le (by rw [h.size];omega))
end
end Go.Proofs.YtoeaglpmkjoenaaGreat
