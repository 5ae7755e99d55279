/-
  Operations that only reckon or read, as steps of a region that draws its order: what each yields in every world that holds what the region reads.
  A region that draws its order, by hand: steps that write, one or two of which may come up.
-/
/-
  Laws for a region that draws its order, the slot that an operation writes named.
-/
/-
  A region that draws its order: a cell's load and a block's laying, either of which may come first, meet again.
-/
/-
  A region that draws its order: what is held need not hold behind the operations that come last (stores into what the loads have read).
-/
import Derived.Deep.RegionHeld3
import Derived.IntWalk
import Derived.Test.YtgbkhcmbmffljaaDoorPBase
import Derived.Test.YtgbkhcmbmffljaaDoorPOpsB
import Derived.Test.YtgbkhcmbmffljaaDoorProg
set_option linter.unusedSimpArgs false
set_option linter.unusedVariables false
namespace Go.Proofs.YtgbkhcmbmffljaaDoor
open Go.RowKit
open Rep (rep)
section
variable {P:Program} {ops:Array Oper} {S:World→Prop} {o:Oper} {a:Act}
theorem yields_subI (hw:Region.wanted o (yielded ops a.tmps) = true) (x y:Operand) (t u:TypeId) (ho:o.op = .binOp .sub t x y u) (p q:Int) (hx:a.eval x = .int .i64 p) (hy:a.eval y = .int .i64 q)
  (ht:P.underlying t = some (.int .i64)) (h0:0 ≤ q) (h1:q ≤ p) (h2:p ≤ 9223372036854775807):YieldsIf P ops S o (.int .i64 (p - q)) a :=
 .inl ⟨hw,fun w h=>by
  unfold execOp
  simp only [ho,hx,hy]
  go_simp
  exact IntWalk.i64_in _ (by omega)⟩
theorem yields_indexI {e:TypeId} (hw:Region.wanted o (yielded ops a.tmps) = true) (t:TypeId) (x y:Operand) (ho:o.op = .indexAddr t x y) (b f n c i size:Nat) (q:Int) (hx:a.eval x = .slice (some ⟨b,f,none⟩) n c) (hy:a.eval y = .int .i64 q)
  (ht:P.underlying t = some (.slice e)) (hi:(P.info? e).map (·.size) = some size) (hq:q = (i:Int)) (hlt:i < n):YieldsIf P ops S o (.pointer (some ⟨b,f + i * size,none⟩)) a :=
 .inl ⟨hw,fun w h=>by
  subst hq
  have h0:(0:Int) ≤ (i:Int):=Int.natCast_nonneg _
  have h1:(i:Int) < (n:Int):=by omega
  cases hq:P.info? e with
  | none=>simp [hq] at hi
  | some j =>
   have hs:j.size = size:=by simpa [hq] using hi
   unfold execOp
   simp only [ho,hx,hy]
   go_simp
   simp [sizeOf,typeInfo,hq,hs]⟩
end
end Go.Proofs.YtgbkhcmbmffljaaDoor
set_option linter.unusedSimpArgs false
namespace Go.Proofs.YtgbkhcmbmffljaaDoor
open Go.RowKit
open Rep (rep)
section
variable {P:Program} {md:Region.Mode} {ops:Array Oper} {Q:Exit→Act→World→Prop} {S:World→Prop} {fuel:Nat} {listed:Array Bool} {a:Act} {w:World} {o o':Oper}
def StepTo (P:Program) (md:Region.Mode) (ops:Array Oper) (Q:Exit→Act→World→Prop) (S:World→Prop) (fuel:Nat) (listed:Array Bool) (i:Nat) (o:Oper) (a:Act) (w:World):Prop :=
 Region.wanted o (yielded ops a.tmps) = true∧∃ v W,(execOp a.eval o).run P w = .ok (.value v) W∧S W∧wpAnyH P md ops Q S fuel (listed.setIfInBounds i true) (a.put o.dst v) W
theorem step_to {K:Act→World→Prop} {i:Nat} (h:StepTo P md ops Q S fuel listed i o a w) (hK:Shut (∀ a w,S w→(S w→wpAnyH P md ops Q S fuel (listed.setIfInBounds i true) a w)→K a w)) :
  if Region.wanted o (yielded ops a.tmps) = true then Oper.wp P o a w K Q else K (a.put o.dst undef) w:=by
 obtain ⟨hw,v,W,hrun,hS,hk⟩:=h
 rw [if_pos hw]
 unfold Oper.wp
 rw [hrun]
 exact hK.out _ _ hS (fun _=>hk)
theorem anyH_1 (i:Nat) (hio:ops[i]? = some o) (hr:Region.ready md ops listed = [i]) (h:StepTo P md ops Q S fuel listed i o a w):wpAnyH P md ops Q S (fuel + 1) listed a w :=
 wpAnyH_ready hr (by simp) (AllReadyH.cons hio (fun _ hK=>step_to h hK) AllReadyH.nil)
theorem anyH_2 (i j:Nat) (hio:ops[i]? = some o) (hjo:ops[j]? = some o') (hr:Region.ready md ops listed = [i,j]) (h:StepTo P md ops Q S fuel listed i o a w) (h':StepTo P md ops Q S fuel listed j o' a w):wpAnyH P md ops Q S (fuel + 1) listed a w :=
 wpAnyH_ready hr (by simp) (AllReadyH.cons hio (fun _ hK=>step_to h hK) (AllReadyH.cons hjo (fun _ hK=>step_to h' hK) AllReadyH.nil))
theorem steps_lay {i:Nat} (v:Value) (ob:Obj) (hw:Region.wanted o (yielded ops a.tmps) = true) (hl:laySem P (execOp a.eval o) w.heap.size = some (.value v,[ob])) (hS:S (w.alloc ob))
  (h:wpAnyH P md ops Q S fuel (listed.setIfInBounds i true) (a.put o.dst v) (w.alloc ob)):StepTo P md ops Q S fuel listed i o a w :=
 ⟨hw,v,_,run_lay _ rfl hl,hS,h⟩
theorem steps_append {i:Nat} (hw:Region.wanted o (yielded ops a.tmps) = true) (s x:Operand) (t:TypeId) (ho:o.op = .call { callee:=.builtin .append,args:=#[s,x],argTypes:=#[t,t] })
  (base:Nat) (e:TypeId) (j:TypeInfo) (z:Value) (size bytes:Nat) (ht:P.underlying t = some (.slice e)) (hi:P.info? e = some j) (hz:j.zero = some z)
  (hsize:j.size = size) (hby:j.bytes = bytes) (hzs:z.cells.size = size) (hsz:0 < size)
  (v:Value) (n:Nat) (xs:List Value) (hs:a.eval s = v) (hown:w.ownsRow base e size v n xs)
  (Z:Zone) (A:Option Addr) (m c:Nat) (news:List Value) (hx:a.eval x = .slice A m c) (hl:news.length = m * size) (hr:Lies w Z A news) (h1:∀ u ∈ news,u.oneCell' = true)
  (h63:n + m ≤ maxLen) (hbytes:(n + m) * bytes ≤ 140737488355328) (hbase:base ≤ w.heap.size)
  (h:∀ v' w',w'.ownsRow base e size v' (n + m) (xs++news)→w.grownBy w' v.ownBlock→S w'∧wpAnyH P md ops Q S fuel (listed.setIfInBounds i true) (a.put o.dst v') w'):StepTo P md ops Q S fuel listed i o a w:=by
 obtain ⟨v',w',hrun,h2,h3,h4⟩:=run_append_lies (P:=P) w base t o.type e j z size bytes ht hi hz hsize hby hzs hsz v n xs hown Z A m c news hl hr h1 h63 hbytes hbase
 refine ⟨hw,v',w',?_,(h v' w' h2 h3).1,(h v' w' h2 h3).2⟩
 simp [execOp,ho,resolve,invoke,builtin,hs,hx,hrun,Result.andThen]
theorem yields_load_slice {e:TypeId} (hw:Region.wanted o (yielded ops a.tmps) = true) (ty:TypeId) (x:Operand) (ho:o.op = .load ty x) (b f:Nat) (hx:a.eval x = .pointer (some ⟨b,f,none⟩))
  (v:Value) (hu:P.underlying ty = some (.slice e)) (hS:∀ w,S w→w.cell? ⟨b,f,none⟩ = some v):YieldsIf P ops S o v a :=
 .inl ⟨hw,fun w h=>by
  have hag:(isAgg ty).run P w = .ok false w:=by unfold isAgg;rw [Sem.run_bind,run_underlying hu w];rfl
  unfold execOp
  simp only [ho,hx,Instr.loadAt,Instr.sureAddr,Sem.run_bind,Sem.run_pure,Result.andThen_ok,loadVar,hag]
  simp [hS w h]⟩
theorem anyH_store_field (i:Nat) (hio:ops[i]? = some o) (hr:Region.ready md ops listed = [i])
  (hw:Region.wanted o (yielded ops a.tmps) = true) (ty:TypeId) (x y:Operand) (ho:o.op = .store ty x y)
  (g f:Nat) (v:Value) (hx:a.eval x = .pointer (some ⟨g,f,none⟩)) (hy:a.eval y = v) (h1:v.oneCell' = true) (hi:(P.info? ty).map (·.size) = some 1)
  (t:TypeId) (cs:List Value) (hg:w.heap[g]? = some (.cells cs.toArray t (0,0))) (hf:f < cs.length) (hS:S (w.setRow g (cs.set f v).toArray))
  (h:wpAnyH P md ops Q S fuel (listed.setIfInBounds i true) (a.put o.dst undef) (w.setRow g (cs.set f v).toArray)):wpAnyH P md ops Q S (fuel + 1) listed a w:=by
 refine wpAnyH_ready hr (by simp) (AllReadyH.cons hio (fun K hK=>?_) AllReadyH.nil)
 rw [if_pos hw]
 have hst:=run_storeCells_at P g f t [v] 0 cs.toArray w hg (by simp;omega) (by intro u hu;simp at hu;subst hu;exact h1)
 simp only [Nat.add_zero,List.length_cons,List.length_nil,Nat.zero_add] at hst
 have hset:cs.take f++[v]++cs.drop (f + 1) = cs.set f v:=by
  rw [List.set_eq_take_append_cons_drop,if_pos hf,List.append_assoc];rfl
 rw [hset] at hst
 unfold Oper.wp execOp
 cases hq:P.info? ty with
 | none=>simp [hq] at hi
 | some i =>
  have hs:i.size = 1:=by simpa [hq] using hi
  have hc:v.cells = #[v]:=by cases v <;> first | rfl | cases h1
  have hv:(storeVar ty ⟨g,f,none⟩ v).run P w = .ok () (w.setRow g (cs.set f v).toArray):=by
   simp only [storeVar,sizeOf,typeInfo,Sem.run_bind,hc]
   simp [hq,hs,hst]
  simp only [ho,hx,hy,Instr.storeAt,Instr.sureAddr,Sem.run_bind,Sem.run_pure,Result.andThen_ok,hv]
  exact hK.out _ _ hS (fun _=>h)
end
end Go.Proofs.YtgbkhcmbmffljaaDoor
set_option linter.unusedSimpArgs false
set_option linter.unusedVariables false
namespace Go.Proofs.YtgbkhcmbmffljaaDoor
open Go.RowKit
open Rep (rep)
section
variable {P:Program}
theorem yields_load_one9 {ops:Array Oper} {S:World→Prop} {o:Oper} {a:Act} (hw:Region.wanted o (yielded ops a.tmps) = true) (ty:TypeId) (x:Operand) (ho:o.op = .load ty x) (b f:Nat) (hx:a.eval x = .pointer (some ⟨b,f,none⟩))
  (v:Value) (d:TypeDesc) (hu:P.underlying ty = some d) (hd:(match d with | .struct _ | .array _ _=>true | _=>false) = false) (hS:∀ w,S w→w.cell? ⟨b,f,none⟩ = some v):YieldsIf P ops S o v a :=
 .inl ⟨hw,fun w h=>by
  have hag:(isAgg ty).run P w = .ok false w:=by
   unfold isAgg
   rw [Sem.run_bind,run_underlying hu w]
   cases d <;> simp_all
  unfold execOp
  simp only [ho,hx,Instr.loadAt,Instr.sureAddr,Sem.run_bind,Sem.run_pure,Result.andThen_ok,loadVar,hag]
  simp [hS w h]⟩
theorem yields_neqF9 {ops:Array Oper} {S:World→Prop} {o:Oper} {a:Act} (hw:Region.wanted o (yielded ops a.tmps) = true) (x y:Operand) (t u:TypeId) (ho:o.op = .binOp .neq t x y u) (p:Int) (hx:a.eval x = .int .i64 p) (hy:a.eval y = .int .i64 p)
  (_:P.underlying t = some (.int .i64)):YieldsIf P ops S o (.bool false) a :=
 .inl ⟨hw,fun w h=>by
  unfold execOp
  simp only [ho,hx,hy]
  go_simp⟩
end
theorem anyH_call9 {P:Program} {md:Region.Mode} {ops:Array Oper} {Q:Exit→Act→World→Prop} {S:World→Prop} {fuel:Nat} {listed:Array Bool} {a:Act} {w:World} {o:Oper} (i:Nat) (hio:ops[i]? = some o) (hr:Region.ready md ops listed = [i])
  (hw:Region.wanted o (yielded ops a.tmps) = true) (f:FuncId) (xs:Array Operand) (ts:Array TypeId) (ho:o.op = .call { callee:=.value (.func f),args:=xs,argTypes:=ts }) (vs:Array Value) (hv:xs.map a.eval = vs) (hc:∀ w,(callFunc f vs).run P w = .ok (.enter f vs) w)
  (h:Calls P f vs w fun e w'=>∃ u,e = .returned u∧S w'∧wpAnyH P md ops Q S fuel (listed.setIfInBounds i true) (a.put o.dst u) w'):wpAnyH P md ops Q S (fuel + 1) listed a w:=by
 refine wpAnyH_ready hr (by simp) (AllReadyH.cons hio (fun K hK=>?_) AllReadyH.nil)
 rw [if_pos hw]
 unfold Oper.wp
 simp only [execOp,ho]
 have hf:a.eval (Operand.func f) = .func (.func f) #[] #[]:=rfl
 simp [hv,hf,resolve,invoke,Deferred.ofValue,hc]
 refine h.mono fun e w' ⟨u,he,hS,hk⟩=>?_
 subst he
 exact hK.out _ _ hS (fun _=>hk)
section
variable {P:Program} {md:Region.Mode} {ops:Array Oper} {Q:Exit→Act→World→Prop} {S:World→Prop} {fuel:Nat} {listed:Array Bool} {a:Act} {w:World} {o:Oper}
theorem steps_load_one9 {i:Nat} (hw:Region.wanted o (yielded ops a.tmps) = true) (ty:TypeId) (x:Operand) (ho:o.op = .load ty x) (b f:Nat) (hx:a.eval x = .pointer (some ⟨b,f,none⟩))
  (v:Value) (d:TypeDesc) (hu:P.underlying ty = some d) (hd:(match d with | .struct _ | .array _ _=>true | _=>false) = false) (hc:w.cell? ⟨b,f,none⟩ = some v) (hS:S w)
  (h:wpAnyH P md ops Q S fuel (listed.setIfInBounds i true) (a.put o.dst v) w):StepTo P md ops Q S fuel listed i o a w :=
 ⟨hw,v,w,by
  have hag:(isAgg ty).run P w = .ok false w:=by
   unfold isAgg
   rw [Sem.run_bind,run_underlying hu w]
   cases d <;> simp_all
  unfold execOp
  simp only [ho,hx,Instr.loadAt,Instr.sureAddr,Sem.run_bind,Sem.run_pure,Result.andThen_ok,loadVar,hag]
  simp [hc],hS,h⟩
theorem anyH_store_cell9 (i:Nat) (hio:ops[i]? = some o) (hr:Region.ready md ops listed = [i])
  (hw:Region.wanted o (yielded ops a.tmps) = true) (ty:TypeId) (x y:Operand) (ho:o.op = .store ty x y)
  (g f:Nat) (v u:Value) (hx:a.eval x = .pointer (some ⟨g,f,none⟩)) (hy:a.eval y = v) (h1:v.oneCell' = true) (hi:(P.info? ty).map (·.size) = some 1)
  (hc:w.cell? ⟨g,f,none⟩ = some u) (hf:w.frozen? ⟨g,f,none⟩ = false) (hS:S (w.setCell ⟨g,f,none⟩ v))
  (h:wpAnyH P md ops Q S fuel (listed.setIfInBounds i true) (a.put o.dst undef) (w.setCell ⟨g,f,none⟩ v)):wpAnyH P md ops Q S (fuel + 1) listed a w:=by
 refine wpAnyH_ready hr (by simp) (AllReadyH.cons hio (fun K hK=>?_) AllReadyH.nil)
 rw [if_pos hw]
 unfold Oper.wp execOp
 cases hq:P.info? ty with
 | none=>simp [hq] at hi
 | some i =>
  have hs:i.size = 1:=by simpa [hq] using hi
  have hcs:v.cells = #[v]:=by cases v <;> first | rfl | cases h1
  have hv:(storeVar ty ⟨g,f,none⟩ v).run P w = .ok () (w.setCell ⟨g,f,none⟩ v):=by
   simp only [storeVar,sizeOf,typeInfo,Sem.run_bind,hcs]
   simp [hq,hs,storeCells,Addr.add,run_store _ _ _ _ _ h1,hc,hf]
  simp only [ho,hx,hy,Instr.storeAt,Instr.sureAddr,Sem.run_bind,Sem.run_pure,Result.andThen_ok,hv]
  exact hK.out _ _ hS (fun _=>h)
end
section
variable {P:Program} {md:Region.Mode} {ops:Array Oper} {Q:Exit→Act→World→Prop} {S:World→Prop}
theorem take_d9 (i:Nat) (d:Option Tmp) {oi:Oper} {v:Value} {fuel:Nat} {listed:Array Bool} {a:Act} {w:World} (hi:ops[i]? = some oi) (hd:oi.dst = d)
  (hs:Region.noSelect ops = true) (hf:Region.free md ops listed i = true) (hr:(Region.ready md ops listed).contains i = true)
  (hQ:∀ c a w,Q (.panic c) (a.put d v) w→Q (.panic c) a w) (hy:YieldsIf P ops S oi v a) (hS:S w)
  (h:wpAnyH P md ops Q S fuel (listed.setIfInBounds i true) (a.put d v) w):wpAnyH P md ops Q S (fuel + 1) listed a w:=by
 subst hd
 exact wpAnyH_take hi hs hf hr hQ hy hS h
theorem call_d9 (i:Nat) (d:Option Tmp) {fuel:Nat} {listed:Array Bool} {a:Act} {w:World} {o:Oper} (hio:ops[i]? = some o) (hd:o.dst = d) (hr:Region.ready md ops listed = [i])
  (hw:Region.wanted o (yielded ops a.tmps) = true) (f:FuncId) (xs:Array Operand) (ts:Array TypeId) (ho:o.op = .call { callee:=.value (.func f),args:=xs,argTypes:=ts }) (vs:Array Value) (hv:xs.map a.eval = vs) (hc:∀ w,(callFunc f vs).run P w = .ok (.enter f vs) w)
  (h:Calls P f vs w fun e w'=>∃ u,e = .returned u∧S w'∧wpAnyH P md ops Q S fuel (listed.setIfInBounds i true) (a.put d u) w'):wpAnyH P md ops Q S (fuel + 1) listed a w:=by
 subst hd
 exact anyH_call9 i hio hr hw f xs ts ho vs hv hc h
end
end Go.Proofs.YtgbkhcmbmffljaaDoor
set_option linter.unusedSimpArgs false
set_option linter.unusedVariables false
namespace Go.Proofs.YtgbkhcmbmffljaaDoor
open Go.RowKit
open Rep (rep)
theorem put_two (a:Act) (di dj:Tmp) (u v:Value) (hne:di ≠ dj):(a.put (some dj) u).put (some di) v = (a.put (some di) v).put (some dj) u:=by
 unfold Act.put
 simp only
 rw [Array.setIfInBounds_comm _ _ (Ne.symm hne)]
theorem run_load_one {P:Program} (w:World) (ty:TypeId) (b f:Nat) (v:Value) (d:TypeDesc) (hu:P.underlying ty = some d) (hd:(match d with | .struct _ | .array _ _=>true | _=>false) = false)
  (hc:w.cell? ⟨b,f,none⟩ = some v):(loadVar ty ⟨b,f,none⟩).run P w = .ok v w:=by
 have hag:(isAgg ty).run P w = .ok false w:=by
  unfold isAgg
  rw [Sem.run_bind,run_underlying hu w]
  cases d <;> simp_all
 simp [loadVar,Sem.run_bind,hag,hc]
section
variable {P:Program} {md:Region.Mode} {ops:Array Oper} {Q:Exit→Act→World→Prop} {S:World→Prop}
theorem anyH_load_lay (i j:Nat) (di dj:Tmp) {oi oj:Oper} {fuel:Nat} {listed:Array Bool} {a:Act} {w:World} (hio:ops[i]? = some oi) (hjo:ops[j]? = some oj) (hdi:oi.dst = some di) (hdj:oj.dst = some dj) (hne:di ≠ dj) (hij:i ≠ j)
  (hr:Region.ready md ops listed = [i,j]) (hri:Region.ready md ops (listed.setIfInBounds i true) = [j]) (hrj:Region.ready md ops (listed.setIfInBounds j true) = [i])
  (hgi:oi.guard = none) (hgj:oj.guard = none) (ty:TypeId) (x:Operand) (ho:oi.op = .load ty x) (b f:Nat) (v:Value) (d:TypeDesc) (hu:P.underlying ty = some d) (hd:(match d with | .struct _ | .array _ _=>true | _=>false) = false)
  (u:Value) (ob:Obj)
  (hx:a.eval x = .pointer (some ⟨b,f,none⟩)) (hx':(a.put (some dj) u).eval x = .pointer (some ⟨b,f,none⟩)) (hc:w.cell? ⟨b,f,none⟩ = some v) (hb:b < w.heap.size)
  (hl:laySem P (execOp a.eval oj) w.heap.size = some (.value u,[ob])) (hl':laySem P (execOp (a.put (some di) v).eval oj) w.heap.size = some (.value u,[ob]))
  (hS:S w) (hS':S (w.alloc ob))
  (h:wpAnyH P md ops Q S fuel ((listed.setIfInBounds i true).setIfInBounds j true) ((a.put (some di) v).put (some dj) u) (w.alloc ob)):wpAnyH P md ops Q S (fuel + 1 + 1) listed a w:=by
 have wi:∀ y,Region.wanted oi y = true:=fun y=>by unfold Region.wanted;rw [hgi]
 have wj:∀ y,Region.wanted oj y = true:=fun y=>by unfold Region.wanted;rw [hgj]
 have hload:∀ (a':Act) (W:World),a'.eval x = .pointer (some ⟨b,f,none⟩)→W.cell? ⟨b,f,none⟩ = some v→(execOp a'.eval oi).run P W = .ok (.value v) W:=fun a' W e1 e2=>by
  unfold execOp
  simp only [ho,e1,Instr.loadAt,Instr.sureAddr,Sem.run_bind,Sem.run_pure,Result.andThen_ok,run_load_one W ty b f v d hu hd e2]
 refine anyH_2 i j hio hjo hr ?_ ?_
 ·refine ⟨wi _,v,w,hload a w hx hc,hS,?_⟩
  rw [hdi]
  refine anyH_1 j hjo hri ⟨wj _,u,_,run_lay _ rfl hl',hS',?_⟩
  rw [hdj]
  exact h
 ·refine ⟨wj _,u,_,run_lay _ rfl hl,hS',?_⟩
  rw [hdj]
  refine anyH_1 i hio hrj ⟨wi _,v,_,hload _ _ hx' ((World.cell?_alloc_lt _ _ _ hb).trans hc),hS',?_⟩
  rw [hdi,put_two a di dj u v hne,Array.setIfInBounds_comm _ _ (Ne.symm hij)]
  exact h
theorem yields_indexQ {o:Oper} {a:Act} {e:TypeId} (hw:Region.wanted o (yielded ops a.tmps) = true) (t:TypeId) (x y:Operand) (ho:o.op = .indexAddr t x y) (b f n c i size k:Nat) (q:Int) (hx:a.eval x = .slice (some ⟨b,f,none⟩) n c) (hy:a.eval y = .int .i64 q)
  (ht:P.underlying t = some (.slice e)) (hi:(P.info? e).map (·.size) = some size) (hq:q = (i:Int)) (hlt:i < n) (hk:f + i * size = k):YieldsIf P ops S o (.pointer (some ⟨b,k,none⟩)) a:=by
 subst hk
 exact yields_indexI hw t x y ho b f n c i size q hx hy ht hi hq hlt
end
end Go.Proofs.YtgbkhcmbmffljaaDoor
set_option linter.unusedSimpArgs false
set_option linter.unusedVariables false
namespace Go.Proofs.YtgbkhcmbmffljaaDoor
open Go.RowKit
section
variable {P:Program} {md:Region.Mode} {ops:Array Oper} {Q:Exit→Act→World→Prop} {S:World→Prop} {T:List Nat}
def wpAnyT (P:Program) (md:Region.Mode) (ops:Array Oper) (Q:Exit→Act→World→Prop) (S:World→Prop) (T:List Nat):Nat→Array Bool→Act→World→Prop
 | 0,listed,a,w=>Region.ready md ops listed = []∧Q .normal a w
 | n + 1,listed,a,w =>
  (Region.ready md ops listed = []→Q .normal a w) ∧
  ∀ j ∈ Region.ready md ops listed,wpOp P ops Q j (fun b u=>(j ∉ T→S u)∧wpAnyT P md ops Q S T n (listed.setIfInBounds j true) b u) a w
theorem any_of_tail:∀ (n:Nat) (listed:Array Bool) (a:Act) (w:World),wpAnyT P md ops Q S T n listed a w→wpAny P md ops Q n listed a w
 | 0,_,_,_,h=>h
 | n + 1,_,_,_,h=>⟨h.1,fun j hj=>wpOp_mono (fun b u hh=>any_of_tail n _ b u hh.2) (h.2 j hj)⟩
def tailOf (md:Region.Mode) (ops:Array Oper) (i:Nat) (T:List Nat):Bool :=
 T.all fun t=>((ops[t]?).map fun o=>o.after.any fun e=>Region.binds md e && (e.on == i || T.contains e.on)).getD false
def unlisted (listed:Array Bool) (T:List Nat):Bool:=T.all fun t=>!listed.getD t true
theorem getD_flip {l:Array Bool} {k:Nat} (h:l.getD k true = false):l.getD k false = false:=by
 rcases Nat.lt_or_ge k l.size with h' | h'
 ·simpa [h'] using h
 ·simp [Array.getElem?_eq_none h'] at h
theorem tail_waits {listed:Array Bool} {i:Nat} (h:tailOf md ops i T = true) (hi:listed.getD i true = false) (hT:unlisted listed T = true) {t:Nat} (ht:t ∈ T):t ∉ Region.ready md ops listed:=by
 intro hr
 obtain ⟨_,o,ho,hall⟩:=mem_ready.1 hr
 have h1:=List.all_eq_true.1 h t ht
 simp only [ho,Option.map_some,Option.getD_some,Array.any_eq_true'] at h1
 obtain ⟨e,he,h2⟩:=h1
 have h3:=Bool.and_eq_true_iff.1 h2
 have h4:=hall e he h3.1
 have h5:listed.getD e.on true = false:=by
  rcases Bool.or_eq_true_iff.1 h3.2 with h6 | h6
  ·rw [eq_of_beq h6];exact hi
  ·have:=List.all_eq_true.1 hT e.on (List.contains_iff_mem.1 h6)
   simpa using this
 rw [getD_flip h5] at h4
 cases h4
theorem unlisted_set {listed:Array Bool} {j:Nat} (hT:unlisted listed T = true) (hj:j ∉ T):unlisted (listed.setIfInBounds j true) T = true:=by
 refine List.all_eq_true.2 fun t ht=>?_
 have hne:j ≠ t:=fun e=>hj (e ▸ ht)
 have:=List.all_eq_true.1 hT t ht
 rw [getD_set_ne true hne]
 exact this
theorem tail_first {i:Nat} {oi:Oper} {v:Value} (hi:ops[i]? = some oi) (hsel:∀ (j:Nat) (o:Oper) cs b,ops[j]? = some o→o.op ≠ .select cs b)
  (hQ:∀ c a w,Q (.panic c) (a.put oi.dst v) w→Q (.panic c) a w) (hw:tailOf md ops i T = true) :
  ∀ (n:Nat) (listed:Array Bool) (a:Act) (w:World),
   (∀ j oj,ops[j]? = some oj→j ≠ i→listed.getD j true = false→(∀ e ∈ oj.after,Region.binds md e = true→e.on ≠ i)→oi.apart ops oj = true) →
   unlisted listed T = true→i ∈ Region.ready md ops listed→YieldsIf P ops S oi v a→S w →
   wpAnyT P md ops Q S T n (listed.setIfInBounds i true) (a.put oi.dst v) w→wpAnyT P md ops Q S T (n + 1) listed a w:=by
 intro n
 induction n with
 | zero =>
  intro listed a w _ _ hr hy hS H
  refine ⟨fun h=>(by rw [h] at hr;cases hr),fun j hj=>?_⟩
  by_cases hji:j = i
  ·subst hji;exact hy.wpOp hi hS ⟨fun _=>hS,H⟩
  ·have:=ready_mono hj hji
   rw [H.1] at this
   cases this
 | succ n ih =>
  intro listed a w hfree hT hr hy hS H
  refine ⟨fun h=>(by rw [h] at hr;cases hr),fun j hj=>?_⟩
  by_cases hji:j = i
  ·subst hji;exact hy.wpOp hi hS ⟨fun _=>hS,H⟩
  ·have hiu:=(mem_ready.1 hr).1
   have hjT:j ∉ T:=fun ht=>tail_waits hw hiu hT ht hj
   have h1:=H.2 j (ready_mono hj hji)
   obtain ⟨hjun,oj,hoj,hall⟩:=mem_ready.1 hj
   have hnot:∀ e ∈ oj.after,Region.binds md e = true→e.on ≠ i:=fun e he hb heq=>by
    have h2:=hall e he hb
    rw [heq,getD_flip hiu] at h2
    cases h2
   have h2:=wpOp_putIf hoj (hfree j oj hoj hji hjun hnot) (fun cs b=>hsel i oi cs b hi) (fun cs b=>hsel j oj cs b hoj) hQ hy h1
   have hfree':∀ k ok,ops[k]? = some ok→k ≠ i→(listed.setIfInBounds j true).getD k true = false →
     (∀ e ∈ ok.after,Region.binds md e = true→e.on ≠ i)→oi.apart ops ok = true:=fun k ok hk hki hun hno=>by
    refine hfree k ok hk hki ?_ hno
    by_cases hjk:j = k
    ·subst hjk;exact hjun
    ·rw [getD_set_ne true hjk] at hun;exact hun
   refine wpOp_mono (fun b u h3=>⟨fun _=>h3.2.1 hjT,ih (listed.setIfInBounds j true) b u hfree' (unlisted_set hT hjT) (ready_mono hr (Ne.symm hji)) h3.1 (h3.2.1 hjT) ?_⟩) h2
   rw [Array.setIfInBounds_comm _ _ hji]
   exact h3.2.2
theorem take_t9 (i:Nat) (d:Option Tmp) {oi:Oper} {v:Value} {n:Nat} {listed:Array Bool} {a:Act} {w:World} (hi:ops[i]? = some oi) (hd:oi.dst = d)
  (hs:Region.noSelect ops = true) (hf:Region.free md ops listed i = true) (hr:(Region.ready md ops listed).contains i = true) (hw:(tailOf md ops i T && unlisted listed T) = true)
  (hQ:∀ c a w,Q (.panic c) (a.put d v) w→Q (.panic c) a w) (hy:YieldsIf P ops S oi v a) (hS:S w)
  (h:wpAnyT P md ops Q S T n (listed.setIfInBounds i true) (a.put d v) w):wpAnyT P md ops Q S T (n + 1) listed a w:=by
 subst hd
 have hw':=Bool.and_eq_true_iff.1 hw
 exact tail_first hi (Region.noSelect_spec hs) hQ hw'.1 n listed a w (Region.free_spec hi hf) hw'.2 (by simpa using hr) hy hS h
theorem call_t9 (i:Nat) (d:Option Tmp) {n:Nat} {listed:Array Bool} {a:Act} {w:World} {o:Oper} (hio:ops[i]? = some o) (hd:o.dst = d) (hr:Region.ready md ops listed = [i])
  (hw:Region.wanted o (yielded ops a.tmps) = true) (f:FuncId) (xs:Array Operand) (ts:Array TypeId) (ho:o.op = .call { callee:=.value (.func f),args:=xs,argTypes:=ts }) (vs:Array Value) (hv:xs.map a.eval = vs) (hc:∀ w,(callFunc f vs).run P w = .ok (.enter f vs) w)
  (h:Calls P f vs w fun e w'=>∃ u,e = .returned u∧S w'∧wpAnyT P md ops Q S T n (listed.setIfInBounds i true) (a.put d u) w'):wpAnyT P md ops Q S T (n + 1) listed a w:=by
 subst hd
 refine ⟨fun h0=>(by rw [hr] at h0;cases h0),fun j hj=>?_⟩
 rw [hr] at hj
 cases List.mem_singleton.1 hj
 unfold wpOp
 simp only [hio]
 rw [if_pos hw]
 refine Or.inl ?_
 unfold Oper.wp
 simp only [execOp,ho]
 have hf:a.eval (Operand.func f) = .func (.func f) #[] #[]:=rfl
 simp [hv,hf,resolve,invoke,Deferred.ofValue,hc,Oper.upon]
 refine h.mono fun e w' ⟨u,he,hS,hk⟩=>?_
 subst he
 exact ⟨fun _=>hS,hk⟩
theorem tail_free:∀ (n:Nat) (listed:Array Bool) (a:Act) (w:World),(List.range ops.size).all (fun j=>listed.getD j true || T.contains j) = true →
  wpAnyH P md ops Q (fun _=>True) n listed a w→wpAnyT P md ops Q S T n listed a w
 | 0,_,_,_,_,h=>h
 | n + 1,listed,a,w,hT,h=>⟨h.1,fun j hj=>by
   have hjT:j ∈ T:=by
    obtain ⟨hun,o,ho,_⟩:=mem_ready.1 hj
    have hlt:j < ops.size:=(Array.getElem?_eq_some_iff.1 ho).1
    have:=List.all_eq_true.1 hT j (List.mem_range.2 hlt)
    rw [hun] at this
    simpa using this
   refine wpOp_mono (fun b u hh=>⟨fun hn=>absurd hjT hn,tail_free n _ b u ?_ hh.2⟩) (h.2 j hj)
   refine List.all_eq_true.2 fun k hk=>?_
   have:=List.all_eq_true.1 hT k hk
   by_cases hjk:j = k
   ·subst hjk;simp [List.contains_iff_mem.2 hjT]
   ·rw [getD_set_ne true hjk];exact this⟩
theorem wp_region_tail (T:List Nat) {id:Nat} {a:Act} {w:World} (hm:P.follows .mixedOrders = true) (hS:S w.drew)
  (h:S w.drew→wpAnyT P .any ops Q S T ops.size (Array.replicate ops.size false) a w.drew):(Code.region id ops true).wp P Q a w :=
 wp_region_any hm (any_of_tail _ _ _ _ (h hS))
end
end Go.Proofs.YtgbkhcmbmffljaaDoor
