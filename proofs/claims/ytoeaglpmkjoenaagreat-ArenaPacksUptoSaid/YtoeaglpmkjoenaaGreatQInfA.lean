/-
  Chapter 20: a plan's tasks, what comes behind what, and why memory may be shared. No program in sight.
-/
/-
  Chapter 10, the asked operation: its inputs, their dims. No condition.
-/
import Derived.Test.YtoeaglpmkjoenaaGreatQSrtP
import Derived.Test.YtoeaglpmkjoenaaGreatQGCpN
import Derived.Test.YtoeaglpmkjoenaaGreatQGMaps
set_option linter.unusedSimpArgs false
set_option linter.unusedVariables false
namespace Go.Proofs.YtoeaglpmkjoenaaGreat
structure TaskD where
 node:Int
 lo:Int
 hi:Int
 after:List Int
structure PlanD where
 graph:GraphD
 live:List Bool
 tasks:List TaskD
 size:List Int
def gIns (g:GraphD) (i:Nat):List Int:=((g.nodes[i]?).map (·.ins)).getD []
def gOuts (g:GraphD) (i:Nat):List Int:=((g.nodes[i]?).map (·.outs)).getD []
def gOp (g:GraphD) (i:Nat):Int:=((g.nodes[i]?).map (·.op)).getD 0
def liveAt (p:PlanD) (i:Nat):Prop:=p.live[i]? = some true
def Edge (p:PlanD) (x y:Nat):Prop:=liveAt p y∧∃ k ∈ gOuts p.graph x,k ∈ gIns p.graph y
inductive Behind (p:PlanD):Nat→Nat→Prop
 | one {a b:Nat}:Edge p a b→Behind p a b
 | step {a b c:Nat}:Behind p a b→Edge p b c→Behind p a c
theorem Behind.trans {p:PlanD} {a b c:Nat} (h:Behind p a b) (h':Behind p b c):Behind p a c:=by
 induction h' with
 | one e=>exact .step h e
 | step _ e ih=>exact .step ih e
theorem Behind.live {p:PlanD} {a b:Nat} (h:Behind p a b):liveAt p b:=by
 cases h with
 | one e=>exact e.1
 | step _ e=>exact e.1
theorem gIns_mem {g:GraphD} {i:Nat} {k:Int} (h:k ∈ gIns g i):∃ n,g.nodes[i]? = some n∧k ∈ n.ins:=by
 unfold gIns at h
 cases hn:g.nodes[i]? with
 | none=>simp [hn] at h
 | some n=>exact ⟨n,rfl,by simpa [hn] using h⟩
theorem gOuts_mem {g:GraphD} {i:Nat} {k:Int} (h:k ∈ gOuts g i):∃ n,g.nodes[i]? = some n∧k ∈ n.outs:=by
 unfold gOuts at h
 cases hn:g.nodes[i]? with
 | none=>simp [hn] at h
 | some n=>exact ⟨n,rfl,by simpa [hn] using h⟩
theorem Edge.lt_len {p:PlanD} {a b:Nat} (h:Edge p a b):b < p.graph.nodes.length:=by
 obtain ⟨_,k,_,hk⟩:=h
 obtain ⟨n,hn,_⟩:=gIns_mem hk
 exact (List.getElem?_eq_some_iff.1 hn).1
theorem Behind.lt_len {p:PlanD} {a b:Nat} (h:Behind p a b):b < p.graph.nodes.length:=by
 cases h with
 | one e=>exact e.lt_len
 | step _ e=>exact e.lt_len
theorem le_sum {l:List Nat} {x:Nat} (h:x ∈ l):x ≤ l.sum:=by
 induction l with
 | nil=>cases h
 | cons a l ih =>
  rw [List.sum_cons]
  rcases List.mem_cons.1 h with rfl | h
  ·omega
  ·have:=ih h
   omega
theorem two_sum {l:List Nat} {i j:Nat} {x y:Nat} (hij:i < j) (hx:l[i]? = some x) (hy:l[j]? = some y):x + y ≤ l.sum:=by
 have h:(l.take j).sum + (l.drop j).sum = l.sum:=by rw [← List.sum_append,List.take_append_drop]
 have h1:x ≤ (l.take j).sum:=le_sum (List.mem_iff_getElem?.2 ⟨i,by rw [List.getElem?_take,if_pos hij];exact hx⟩)
 have h2:y ≤ (l.drop j).sum:=le_sum (List.mem_iff_getElem?.2 ⟨0,by rw [List.getElem?_drop];exact hy⟩)
 omega
theorem outs_once {g:GraphD} (h:SoundD g) {i j:Nat} {k:Int} (hi:k ∈ gOuts g i) (hj:k ∈ gOuts g j):i = j:=by
 have key:∀ {i j:Nat},i < j→k ∈ gOuts g i→k ∈ gOuts g j→False:=by
  intro i j hij hi hj
  obtain ⟨n,hn,kn⟩:=gOuts_mem hi
  obtain ⟨m,hm,km⟩:=gOuts_mem hj
  obtain ⟨k0,k1⟩:=h.outs n (List.mem_of_getElem? hn) k kn
  obtain ⟨q,rfl⟩:∃ q:Nat,k = (q:Int):=⟨k.toNat,by omega⟩
  have ho:=h.once q (by omega)
  have h2:2 ≤ (g.nodes.flatMap (·.outs)).count (q:Int):=by
   rw [List.count_flatMap]
   have a1:1 ≤ (List.count (q:Int) ∘ (·.outs)) n:=List.count_pos_iff.2 kn
   have a2:1 ≤ (List.count (q:Int) ∘ (·.outs)) m:=List.count_pos_iff.2 km
   have:=two_sum (l:=g.nodes.map (List.count (q:Int) ∘ (·.outs))) hij (by rw [List.getElem?_map,hn];rfl) (by rw [List.getElem?_map,hm];rfl)
   omega
  unfold defsD at ho
  rw [List.count_append] at ho
  omega
 rcases Nat.lt_trichotomy i j with h | h | h
 ·exact (key h hi hj).elim
 ·exact h
 ·exact (key h hj hi).elim
theorem flows_at:∀ (l:List GNodeD) (bs:List Bool) (y:Nat) (n:GNodeD),flowsD bs l→l[y]? = some n→n.ins.any (lackD (thereD bs (l.take y))) = false
 | [],_,_,_,_,h=>by simp at h
 | m :: l,bs,0,n,hf,h=>by
  cases h
  exact hf.1
 | m :: l,bs,y + 1,n,hf,h=>flows_at l (setsT bs m.outs) y n hf.2 h
theorem edge_lt {p:PlanD} (h:SoundD p.graph) {x y:Nat} (he:Edge p x y):x < y:=by
 obtain ⟨_,k,ko,ki⟩:=he
 obtain ⟨n,hn,kn⟩:=gIns_mem ki
 obtain ⟨m,hm,km⟩:=gOuts_mem ko
 obtain ⟨k0,k1⟩:=h.outs m (List.mem_of_getElem? hm) k km
 have hb:HasB (thereD (definedD p.graph) (p.graph.nodes.take y)) k.toNat:=(ready_iff.1 (flows_at _ _ y n h.flows hn) k kn).resolve_left (by omega)
 rcases (hasB_there _ _).1 hb with hd | ⟨hlt,z,hz,v,hv,e⟩
 ·exfalso
  obtain ⟨q,rfl⟩:∃ q:Nat,k = (q:Int):=⟨k.toNat,by omega⟩
  have ho:=h.once q (by omega)
  have hc:1 ≤ (p.graph.nodes.flatMap (·.outs)).count (q:Int):=List.count_pos_iff.2 (List.mem_flatMap.2 ⟨m,List.mem_of_getElem? hm,km⟩)
  unfold defsD at ho
  rw [List.count_append] at ho
  have h1:(p.graph.vals.map constN).getD q 0 + p.graph.inputs.count (q:Int) = 0:=by omega
  unfold definedD at hd
  rcases (hasB_sets _ _).1 hd with hc | ⟨_,v,hv,e⟩
  ·unfold HasB at hc
   rw [List.getElem?_map] at hc
   cases hq:p.graph.vals[q]? with
   | none=>rw [show ((q:Int)).toNat = q by omega,hq] at hc;cases hc
   | some v =>
    rw [show ((q:Int)).toNat = q by omega,hq] at hc
    simp only [Option.map_some,Option.some.injEq] at hc
    have:(p.graph.vals.map constN).getD q 0 = 1:=by
     rw [List.getD_eq_getElem?_getD,List.getElem?_map,hq]
     simp [constN,hc]
    omega
  ·have v0:=h.inputs v hv
   obtain rfl:v = (q:Int):=by omega
   have:=List.count_pos_iff.2 hv
   omega
 ·obtain ⟨i,hi⟩:=List.mem_iff_getElem?.1 hz
  rw [List.getElem?_take] at hi
  by_cases hiy:i < y
  ·rw [if_pos hiy] at hi
   have v0:=h.outs z (List.mem_of_getElem? hi) v hv
   obtain rfl:v = k:=by omega
   have e2:=outs_once h (i:=i) (j:=x) (k:=v) (by unfold gOuts;rw [hi];exact hv) ko
   omega
  ·rw [if_neg hiy] at hi
   cases hi
theorem behind_lt {p:PlanD} (h:SoundD p.graph) {x y:Nat} (hb:Behind p x y):x < y:=by
 induction hb with
 | one e=>exact edge_lt h e
 | step _ e ih=>exact Nat.lt_trans ih (edge_lt h e)
def sharesD (outs ins:List Int):Bool:=outs.any fun v=>ins.contains v
def afterD (g:GraphD) (ts:List TaskD) (ins:List Int):List Int:=(ts.zipIdx.filter fun t=>sharesD (gOuts g t.1.node.toNat) ins).map fun t=>(t.2:Int)
theorem afterD_snoc (g:GraphD) (ts:List TaskD) (t:TaskD) (ins:List Int):afterD g (ts++[t]) ins = afterD g ts ins++(if sharesD (gOuts g t.node.toNat) ins = true then [(ts.length:Int)] else []):=by
 unfold afterD
 rw [List.zipIdx_append,List.filter_append,List.map_append]
 congr 1
 simp only [List.zipIdx_cons,List.zipIdx_nil,List.filter_cons,List.filter_nil,Nat.zero_add]
 split <;> simp_all
theorem afterD_mem {g:GraphD} {ts:List TaskD} {ins:List Int} {x:Int}:x ∈ afterD g ts ins ↔ ∃ (k:Nat) (t:TaskD),x = (k:Int)∧ts[k]? = some t∧sharesD (gOuts g t.node.toNat) ins = true:=by
 unfold afterD
 rw [List.mem_map]
 constructor
 ·rintro ⟨⟨t,k⟩,h,rfl⟩
  obtain ⟨h1,h2⟩:=List.mem_filter.1 h
  exact ⟨k,t,rfl,by simpa using List.mem_zipIdx_iff_getElem?.1 h1,h2⟩
 ·rintro ⟨k,t,rfl,h1,h2⟩
  exact ⟨(t,k),List.mem_filter.2 ⟨List.mem_zipIdx_iff_getElem?.2 (by simpa using h1),h2⟩,rfl⟩
def tilesD (i:Int) (size:Nat) (aft:List Int):List TaskD:=(List.range ((size + 15) / 16)).map fun j=>⟨i,((16 * j:Nat):Int),((min (16 * j + 16) size:Nat):Int),aft⟩
def hasE (op:Int):Prop:=1 ≤ op∧op ≤ 44
instance (op:Int):Decidable (hasE op):=by unfold hasE;exact inferInstance
def tasksOf (op:Int) (size:Nat) (i:Int) (aft:List Int):List TaskD:=if ¬ hasE op ∨ size ≤ 16 then [⟨i,0,-1,aft⟩] else tilesD i size aft
def tasksD (g:GraphD) (live:List Bool) (sz:Nat→Nat):Nat→List TaskD
 | 0=>[]
 | m + 1=>tasksD g live sz m++(if live[m]? = some true then tasksOf (gOp g m) (sz m) m (afterD g (tasksD g live sz m) (gIns g m)) else [])
theorem tasksOf_mem {op:Int} {size:Nat} {i:Int} {aft:List Int} {t:TaskD} (h:t ∈ tasksOf op size i aft):t.node = i∧t.after = aft:=by
 unfold tasksOf tilesD at h
 split at h
 ·rw [List.mem_singleton] at h
  subst h
  exact ⟨rfl,rfl⟩
 ·obtain ⟨j,_,rfl⟩:=List.mem_map.1 h
  exact ⟨rfl,rfl⟩
theorem tasksD_pre (g:GraphD) (lv:List Bool) (sz:Nat→Nat) {i m:Nat} (h:i ≤ m):∃ r,tasksD g lv sz m = tasksD g lv sz i++r:=by
 induction m with
 | zero =>
  obtain rfl:i = 0:=by omega
  exact ⟨[],by rw [List.append_nil]⟩
 | succ m ih =>
  rcases Nat.lt_or_ge i (m + 1) with h1 | h1
  ·obtain ⟨r,hr⟩:=ih (by omega)
   exact ⟨r++_,by rw [tasksD,hr,List.append_assoc]⟩
  ·obtain rfl:i = m + 1:=by omega
   exact ⟨[],by rw [List.append_nil]⟩
theorem tasksD_get {g:GraphD} {lv:List Bool} {sz:Nat→Nat} {i m q:Nat} (h:i ≤ m) (hq:q < (tasksD g lv sz i).length):(tasksD g lv sz m)[q]? = (tasksD g lv sz i)[q]?:=by
 obtain ⟨r,hr⟩:=tasksD_pre g lv sz h
 rw [hr,List.getElem?_append_left hq]
theorem task_at {g:GraphD} {lv:List Bool} {sz:Nat→Nat} {q:Nat} {t:TaskD}:∀ {m:Nat},(tasksD g lv sz m)[q]? = some t→∃ i,i < m∧t.node = (i:Int)∧lv[i]? = some true∧t.after = afterD g (tasksD g lv sz i) (gIns g i)∧(tasksD g lv sz i).length ≤ q∧q < (tasksD g lv sz (i + 1)).length
 | 0,h=>by simp [tasksD] at h
 | m + 1,h=>by
  by_cases hq:q < (tasksD g lv sz m).length
  ·rw [tasksD_get (Nat.le_succ m) hq] at h
   obtain ⟨i,hi,r⟩:=task_at h
   exact ⟨i,by omega,r⟩
  ·have hlt:=(List.getElem?_eq_some_iff.1 h).1
   have h0:=h
   rw [tasksD,List.getElem?_append_right (by omega)] at h
   split at h
   ·rename_i hl
    obtain ⟨e1,e2⟩:=tasksOf_mem (List.mem_of_getElem? h)
    exact ⟨m,by omega,e1,hl,e2,by omega,hlt⟩
   ·simp at h
structure Planned (p:PlanD) (sz:Nat→Nat):Prop where
 sound:SoundD p.graph
 live:p.live.length = p.graph.nodes.length
 tasks:p.tasks = tasksD p.graph p.live sz p.graph.nodes.length
theorem Planned.after {p:PlanD} {sz:Nat→Nat} (h:Planned p sz) {q:Nat} {t:TaskD} (ht:p.tasks[q]? = some t):∃ i,i < p.graph.nodes.length∧t.node = (i:Int)∧liveAt p i∧∀ x ∈ t.after,∃ (k j:Nat) (s:TaskD),x = (k:Int)∧k < q∧p.tasks[k]? = some s∧s.node = (j:Int)∧liveAt p j∧Edge p j i:=by
 rw [h.tasks] at ht
 obtain ⟨i,hi,e1,hl,e2,h1,h2⟩:=task_at ht
 refine ⟨i,hi,e1,hl,fun x hx=>?_⟩
 rw [e2] at hx
 obtain ⟨k,s,rfl,hs,hsh⟩:=afterD_mem.1 hx
 have hk:=(List.getElem?_eq_some_iff.1 hs).1
 obtain ⟨j,hj,e3,hlj,_⟩:=task_at hs
 refine ⟨k,j,s,rfl,by omega,by rw [h.tasks,tasksD_get (Nat.le_of_lt hi) hk];exact hs,e3,hlj,hl,?_⟩
 rw [e3] at hsh
 unfold sharesD at hsh
 obtain ⟨v,hv,hc⟩:=List.any_eq_true.1 hsh
 exact ⟨v,hv,List.contains_iff_mem.1 hc⟩
inductive Waits (ts:List TaskD):Nat→Nat→Prop
 | one {i k:Nat} {t:TaskD}:ts[i]? = some t→(k:Int) ∈ t.after→Waits ts i k
 | step {i j k:Nat}:Waits ts i j→Waits ts j k→Waits ts i k
def makerD (p:PlanD) (v:Int):Int:=match (List.range p.graph.nodes.length).find? fun i=>p.live[i]? == some true && (gOuts p.graph i).contains v with
 | some i=>i
 | none=>-1
def UsesD (p:PlanD) (v:Int) (u:Nat):Prop:=liveAt p u∧v ∈ gIns p.graph u
def DeadD (p:PlanD) (v w:Int):Prop:=0 ≤ makerD p w∧v ∉ p.graph.outputs∧(makerD p v < 0→v ∈ p.graph.inputs)∧(0 ≤ makerD p v→Behind p (makerD p v).toNat (makerD p w).toNat)∧∀ u,UsesD p v u→Behind p u (makerD p w).toNat
theorem makerD_some {p:PlanD} {v:Int} (h:0 ≤ makerD p v):liveAt p (makerD p v).toNat∧v ∈ gOuts p.graph (makerD p v).toNat:=by
 unfold makerD at h ⊢
 split at h
 ·rename_i i hf
  have:=List.find?_some hf
  rw [Bool.and_eq_true] at this
  exact ⟨by simpa [liveAt] using this.1,by simpa using this.2⟩
 ·omega
end Go.Proofs.YtoeaglpmkjoenaaGreat
set_option linter.unusedSimpArgs false
set_option linter.unusedVariables false
namespace Go.Proofs.YtoeaglpmkjoenaaGreat
open Go.RowKit
open Rep (rep)
structure AskD where
 op:Int
 s:SettingD
 ins:List ValD
 outs:Int
instance:Rep AskD where
 size:=39
 bytes:=400
 rep w Z cs a:=∃ c0 c1 c2 c3,cs = c0++(c1++(c2++c3))∧rep w Z c0 a.op∧rep w Z c1 a.s∧rep w Z c2 a.ins∧rep w Z c3 a.outs
 len:=by
  rintro w Z cs a ⟨c0,c1,c2,c3,rfl,h0,h1,h2,h3⟩
  simp only [List.length_append,Rep.len h0,Rep.len h1,Rep.len h2,Rep.len h3];rfl
 one:=by
  rintro w Z cs a ⟨c0,c1,c2,c3,rfl,h0,h1,h2,h3⟩
  exact app_one (Rep.one h0) (app_one (Rep.one h1) (app_one (Rep.one h2) (Rep.one h3)))
 keep:=by
  rintro w w' Z cs a ⟨c0,c1,c2,c3,hc,h0,h1,h2,h3⟩ k
  exact ⟨c0,c1,c2,c3,hc,Rep.keep h0 k,Rep.keep h1 k,Rep.keep h2 k,Rep.keep h3 k⟩
 more:=by
  rintro w Z Z' cs a ⟨c0,c1,c2,c3,hc,h0,h1,h2,h3⟩ k
  exact ⟨c0,c1,c2,c3,hc,Rep.more h0 k,Rep.more h1 k,Rep.more h2 k,Rep.more h3 k⟩
theorem ask_cells {w:World} {Z:Zone} {cs:List Value} {a:AskD} (h:rep w Z cs a):∃ (ss:List Value) (A:Option Addr) (k:Nat),
  cs[0]? = some (.int .i64 a.op)∧cs[37]? = some (.slice A a.ins.length k)∧cs[38]? = some (.int .i64 a.outs)∧I64 a.op∧I64 a.outs ∧
  SettingDAt w Z ss a.s∧rep w Z [.slice A a.ins.length k] a.ins∧∀ j u,ss[j]? = some u→cs[j + 1]? = some u:=by
 obtain ⟨_,ss,_,_,rfl,⟨rfl,h0⟩,hs,h2,⟨rfl,h3⟩⟩:=h
 obtain ⟨A,k,rfl⟩:=slice_form h2
 have hl:ss.length = 36:=SettingDAt.len hs
 refine ⟨ss,A,k,rfl,?_,?_,h0,h3,hs,h2,fun j u hu=>?_⟩
 ·simp [List.getElem?_append,hl]
 ·simp [List.getElem?_append,hl]
 ·have hj:=(List.getElem?_eq_some_iff.1 hu).1
  rw [show ([Value.int .i64 a.op]:List Value)++(ss++([.slice A a.ins.length k]++[.int .i64 a.outs])) = Value.int .i64 a.op :: (ss++([.slice A a.ins.length k]++[.int .i64 a.outs])) from rfl,List.getElem?_cons_succ,List.getElem?_append_left hj]
  exact hu
structure AskI (w:World) (cs:List Value) (a:AskD) (W:World):Prop where
 box:BoxInv w 107 cs W
 was:rep w (old w.heap.size) cs a
section
variable {w W W':World} {cs:List Value} {a:AskD}
theorem ask_start (h:rep w (old w.heap.size) cs a):AskI w cs a (w.alloc (.cells cs.toArray 107)):=⟨box_start _ _ _,h⟩
theorem AskI.next (h:AskI w cs a W) (hb:Below W.heap.size W W'):AskI w cs a W':=⟨h.box.next hb,h.was⟩
theorem AskI.lt (h:AskI w cs a W):w.heap.size < W.heap.size:=h.box.lt
theorem AskI.arg (h:AskI w cs a W):rep W (old W.heap.size) cs a:=h.box.keeps' h.was
theorem AskI.arg0 (h:AskI w cs a W):rep W (old w.heap.size) cs a:=Rep.keep h.was (Keeps.old_below h.box.below (Nat.le_refl _))
theorem AskI.below (h:AskI w cs a W):Below w.heap.size w W:=h.box.below
theorem AskI.trans (h:AskI w cs a W) (hb:Below W.heap.size W W'):Below w.heap.size w W':=(h.next hb).below
theorem AskI.cell (h:AskI w cs a W) {j:Nat} {u:Value} (hu:cs[j]? = some u):W.cell? ⟨w.heap.size,j,none⟩ = some u:=(cell_of_row _ _ _ _ _ _ h.box.row).trans (by rw [List.getElem?_toArray];exact hu)
theorem AskI.at (h:AskI w cs a W):At W w.heap.size 0 cs:=fun j u hu=>by rw [Nat.zero_add];exact h.cell hu
theorem AskI.size (h:AskI w cs a W):(Tryz.prog.info? 107).map (·.size) = some cs.length:=by rw [show cs.length = 39 from Rep.len h.was];kernel_rfl
theorem AskI.stay (h:AskI w cs a W) {α:Type} [Rep α] {c:List Value} {x:α} (hr:rep w (old w.heap.size) c x):rep W (old w.heap.size) c x:=Rep.keep hr (Keeps.old_below h.below (Nat.le_refl _))
theorem AskI.up (h:AskI w cs a W) {α:Type} [Rep α] {c:List Value} {x:α} (hr:rep W (old w.heap.size) c x):rep W (old W.heap.size) c x:=Rep.more hr (old_le (by have:=h.lt;omega))
theorem AskI.see (h:AskI w cs a W):∃ (ss:List Value) (A:Option Addr) (k:Nat),
  W.cell? ⟨w.heap.size,0,none⟩ = some (.int .i64 a.op)∧W.cell? ⟨w.heap.size,37,none⟩ = some (.slice A a.ins.length k)∧W.cell? ⟨w.heap.size,38,none⟩ = some (.int .i64 a.outs)∧I64 a.op∧I64 a.outs ∧
  SettingDAt W (old w.heap.size) ss a.s∧rep W (old w.heap.size) [.slice A a.ins.length k] a.ins∧∀ j u,ss[j]? = some u→W.cell? ⟨w.heap.size,j + 1,none⟩ = some u:=by
 obtain ⟨ss,A,k,c0,c1,c2,i0,i1,hs,hi,hc⟩:=ask_cells h.was
 exact ⟨ss,A,k,h.cell c0,h.cell c1,h.cell c2,i0,i1,h.stay (show rep w _ ss a.s from hs),h.stay hi,fun j u hu=>h.cell (hc j u hu)⟩
end
def zeroVD:ValD:=⟨0,[],false,⟨0,[],[],[],[]⟩⟩
def AskD.val (a:AskD) (i:Nat):ValD:=a.ins.getD i zeroVD
def AskD.dims (a:AskD) (i:Nat):List Int:=(a.val i).dims
def AskD.has (a:AskD) (i:Nat):Bool:=(a.val i).type != 0
theorem zeroV_one:∀ u ∈ ([.int .i64 0,.slice none 0 0,.bool false,.int .i64 0,.slice none 0 0,.slice none 0 0,.slice none 0 0,.slice none 0 0]:List Value),u.oneCell' = true:=by simp [Value.oneCell']
theorem zeroV_fit:0 + ([.int .i64 0,.slice none 0 0,.bool false,.int .i64 0,.slice none 0 0,.slice none 0 0,.slice none 0 0,.slice none 0 0]:List Value).length ≤ zeroV.length:=by decide
theorem rep_zeroVD (w:World) (n:Nat):rep w (old n) zeroV zeroVD:=by
 refine shut_ValD (a:=zeroVD) (c1:=[.slice none 0 0]) (c3:=[.int .i64 0,.slice none 0 0,.slice none 0 0,.slice none 0 0,.slice none 0 0]) (show I64 0 by unfold I64;omega) ?_ ?_
 ·exact rep_nil _ _
 ·exact shut_TensorD (a:=zeroVD.t) (show I64 0 by unfold I64;omega) (rep_nil _ _) (rep_nil _ _) (rep_nil _ _) (rep_nil _ _)
theorem askVal_ret {w W:World} {cs:List Value} {a:AskD} {q n:Nat} {zc:List Value} {v:ValD} (h:AskI w cs a W) (hq:W.heap[q]? = some (.cells zeroV.toArray 45 (0,0))) (hlt:w.heap.size < q) (hn:n ≤ w.heap.size) (hr:rep W (old n) zc v) (hl:zc.length = zeroV.length) :
  (W.setRow q (zeroV.take 0++zc++zeroV.drop (0 + zc.length)).toArray).heap[q]? = some (.cells zc.toArray 45 (0,0))∧rep (W.setRow q (zeroV.take 0++zc++zeroV.drop (0 + zc.length)).toArray) (old n) zc v∧Below w.heap.size w (W.setRow q (zeroV.take 0++zc++zeroV.drop (0 + zc.length)).toArray):=by
 have e:zeroV.take 0++zc++zeroV.drop (0 + zc.length) = zc:=by rw [List.take_zero,List.nil_append,Nat.zero_add,hl,List.drop_length,List.append_nil]
 rw [e]
 refine ⟨heap_setRow _ _ _ _ _ hq,?_,below_setRow' h.below (by omega) _⟩
 exact Rep.keep hr (Keeps.old_below (below_setRow' (Below.refl _ _) (by omega) _) (Nat.le_refl _))
set_option maxRecDepth 100000 in
set_option maxHeartbeats 8000000 in
theorem askVal' (cs:List Value) (a:AskD) (i n:Nat) (w:World) (hn:n ≤ w.heap.size) (hr:rep w (old n) cs a) :
  Calls Tryz.prog 116 #[.agg cs.toArray,.int .i64 i] w fun e w'=>∃ vs:List Value,e = .returned (.agg vs.toArray)∧rep w' (old n) vs (a.val i)∧Below w.heap.size w w':=by
 obtain ⟨_,A,k,-,c37,-,-,-,-,hi0,-⟩:=ask_cells hr
 have HI0:=Lib.hid (And.intro c37 hi0)
 clear c37 hi0
 replace hr:rep w (old w.heap.size) cs a:=Rep.more hr (old_le hn)
 go_enter Tryz.func116,Tryz.ntmps116
 go_wp2_with (first
  |(with_reducible refine wpList_box_row rfl 107 _ rfl cs rfl ?_;have hX:=ask_start hr;generalize World.alloc _ _ = W0 at hX ⊢;have HX:=Lib.hid hX;clear hX hr)
  |(with_reducible refine wpList_alloc_row rfl 45 rfl zeroV zeroV_zero ?_;refine halt ?_))
 unfold Halt
 obtain ⟨q,hq⟩:∃ q,W0.heap.size = q:=⟨_,rfl⟩
 have hY:AskI w cs a (W0.alloc (.cells zeroV.toArray 45)):=HX.out.next ((Below.refl _ _).alloc (Nat.le_refl _) _)
 have hZ:(W0.alloc (.cells zeroV.toArray 45)).heap[W0.heap.size]? = some (.cells zeroV.toArray 45 (0,0)):=heap_alloc_new _ _
 have hlt:=HX.out.lt
 rw [hq] at hZ hlt
 rw [hq]
 generalize World.alloc _ _ = W1 at hY hZ ⊢
 have c37:=hY.cell HI0.out.1
 have hi:rep W1 (old n) [.slice A a.ins.length k] a.ins:=Rep.keep HI0.out.2 (Keeps.old_below hY.below hn)
 obtain ⟨nb,nb'⟩:=slice_bnd hi
 have HY:=Lib.hid (And.intro hY (And.intro hZ hi))
 have HQ:=Lib.hid hlt
 clear hY hZ HX hq hlt
 by_cases h:i < a.ins.length
 ·have hz:a.ins[i]? = some (a.val i):=by unfold AskD.val;rw [List.getD_eq_getElem?_getD,List.getElem?_eq_getElem h];rfl
  obtain ⟨A',c',xs,hv,hnc,hcm,-,hl,hch⟩:=open_slice hi
  simp only [Value.slice.injEq,true_and] at hv
  obtain ⟨rfl,rfl⟩:=hv
  obtain ⟨b,o,zc,rfl,hbB,hrz,hcell⟩:=elem_at hl hch (by decide) hz
  have hat:At W1 b (o + i * 8) zc:=fun j u hu=>by rw [Nat.add_assoc];exact (hcell j u hu).1
  have hk0:(0:Int) ≤ (i:Int):=Int.natCast_nonneg _
  have hk1:(i:Int) < (a.ins.length:Int):=by omega
  have hv8:=val_facts hrz
  have HA:=Lib.hid (And.intro hat (And.intro (show (Tryz.prog.info? 45).map (·.size) = some zc.length by rw [hv8.1];kernel_rfl) (And.intro (show 0 + zc.length ≤ zeroV.length by rw [hv8.1];exact of_decide_eq_true (by kernel_rfl)) (And.intro hv8.2.2 (And.intro hrz (show zc.length = zeroV.length from hv8.1))))))
  clear hv8 hat hrz hcell hl hch hcm hi hz
  go_wp2_with (first
   |(with_reducible refine wpList_load_agg rfl 45 _ rfl _ _ _ rfl zc Tryz.underlying45 rfl HA.out.2.1 HA.out.1 ?_)
   |(with_reducible refine wpList_store_agg rfl 45 _ _ rfl q 0 zc rfl rfl 45 zeroV HY.out.2.1 HA.out.2.1 HA.out.2.2.1 HA.out.2.2.2.1 ?_;have hR:=askVal_ret HY.out.1 HY.out.2.1 HQ.out hn HA.out.2.2.2.2.1 HA.out.2.2.2.2.2;generalize World.setRow _ _ _ = W2 at hR ⊢;have HR:=Lib.hid hR;clear hR;refine halt ?_))
  unfold Halt
  go_wp2
  refine bodyPost_ret (results_cell_row rfl _ _ q 45 _ (0,0) _ (by kernel_rfl) HR.out.1 Tryz.underlying45 rfl (by simpa using HA.out.2.1)) (by kernel_rfl) ⟨_,rfl,HR.out.2.1,HR.out.2.2⟩
 ·have hv:a.val i = zeroVD:=by unfold AskD.val;rw [List.getD_eq_getElem?_getD,List.getElem?_eq_none (by omega)];rfl
  have hk1:¬ (i:Int) < (a.ins.length:Int):=by omega
  have HV:=Lib.hid hv
  clear hv hi
  go_wp2_with (first
   |(with_reducible refine wpList_store_agg rfl 45 _ _ rfl q 0 ([.int .i64 0,.slice none 0 0,.bool false,.int .i64 0,.slice none 0 0,.slice none 0 0,.slice none 0 0,.slice none 0 0]:List Value) rfl rfl 45 zeroV HY.out.2.1 (by kernel_rfl) zeroV_fit zeroV_one ?_;have hR:=askVal_ret (zc:=([.int .i64 0,.slice none 0 0,.bool false,.int .i64 0,.slice none 0 0,.slice none 0 0,.slice none 0 0,.slice none 0 0]:List Value)) HY.out.1 HY.out.2.1 HQ.out hn (rep_zeroVD _ n) rfl;generalize World.setRow _ _ _ = W2 at hR ⊢;have HR:=Lib.hid hR;clear hR;refine halt ?_))
  unfold Halt
  go_wp2
  refine bodyPost_ret (results_cell_row rfl _ _ q 45 _ (0,0) _ (by kernel_rfl) HR.out.1 Tryz.underlying45 rfl (by kernel_rfl)) (by kernel_rfl) ⟨_,rfl,by rw [HV.out];exact HR.out.2.1,HR.out.2.2⟩
theorem askVal (cs:List Value) (a:AskD) (i:Nat) (w:World) (hr:rep w (old w.heap.size) cs a) :
  Calls Tryz.prog 116 #[.agg cs.toArray,.int .i64 i] w fun e w'=>∃ vs:List Value,e = .returned (.agg vs.toArray)∧rep w' (old w'.heap.size) vs (a.val i)∧Below w.heap.size w w' :=
 (askVal' cs a i _ w (Nat.le_refl _) hr).mono fun _ _ ⟨vs,h1,h2,h3⟩=>⟨vs,h1,Rep.more h2 (old_le h3.size),h3⟩
theorem val_type (t:Int) (A1:Option Addr) (n1 k1:Nat) (c:Bool) (u:Int) (A2:Option Addr) (n2 k2:Nat) (A3:Option Addr) (n3 k3:Nat) (A4:Option Addr) (n4 k4:Nat) (A5:Option Addr) (n5 k5:Nat) (w:World) :
  (Instr.field 45 (.agg #[.int .i64 t,.slice A1 n1 k1,.bool c,.int .i64 u,.slice A2 n2 k2,.slice A3 n3 k3,.slice A4 n4 k4,.slice A5 n5 k5]) 0).run Tryz.prog w = .ok (.int .i64 t) w:=by kernel_rfl
theorem val_dims (t:Int) (A1:Option Addr) (n1 k1:Nat) (c:Bool) (u:Int) (A2:Option Addr) (n2 k2:Nat) (A3:Option Addr) (n3 k3:Nat) (A4:Option Addr) (n4 k4:Nat) (A5:Option Addr) (n5 k5:Nat) (w:World) :
  (Instr.field 45 (.agg #[.int .i64 t,.slice A1 n1 k1,.bool c,.int .i64 u,.slice A2 n2 k2,.slice A3 n3 k3,.slice A4 n4 k4,.slice A5 n5 k5]) 1).run Tryz.prog w = .ok (.slice A1 n1 k1) w:=by kernel_rfl
set_option maxRecDepth 100000 in
set_option maxHeartbeats 8000000 in
theorem askDims' (cs:List Value) (a:AskD) (i n:Nat) (w:World) (hn:n ≤ w.heap.size) (hr:rep w (old n) cs a) :
  Calls Tryz.prog 104 #[.agg cs.toArray,.int .i64 i] w fun e w'=>∃ A k,e = .returned (.slice A (a.dims i).length k)∧rep w' (old n) [.slice A (a.dims i).length k] (a.dims i)∧Below w.heap.size w w':=by
 have HR0:=Lib.hid hr
 replace hr:rep w (old w.heap.size) cs a:=Rep.more hr (old_le hn)
 go_enter Tryz.func104,Tryz.ntmps104
 go_wp2_with (with_reducible refine wpList_box_row rfl 107 _ rfl cs rfl ?_;have hX:=ask_start hr;generalize World.alloc _ _ = W0 at hX ⊢;have HX:=Lib.hid hX;clear hX hr;refine halt ?_)
 unfold Halt
 go_wp2_with (with_reducible refine wpList_load_agg rfl 107 _ rfl _ _ _ rfl cs Tryz.underlying107 rfl HX.out.size HX.out.at ?_)
 refine (askVal' cs a i n _ (by have:=HX.out.lt;omega) (Rep.keep HR0.out (Keeps.old_below HX.out.below hn))).mono ?_
 rintro e w1 ⟨vs,rfl,hv,hb⟩
 obtain ⟨A1,k1,A2,k2,A3,k3,A4,k4,A5,k5,rfl,-,h1,-⟩:=open_ValD hv
 have H:=Lib.hid (And.intro (HX.out.trans hb) h1)
 clear hv h1 hb
 have hf:=val_dims
 go_wp2
 go_ret
 exact ⟨_,_,rfl,H.out.2,H.out.1⟩
theorem askDims (cs:List Value) (a:AskD) (i:Nat) (w:World) (hr:rep w (old w.heap.size) cs a) :
  Calls Tryz.prog 104 #[.agg cs.toArray,.int .i64 i] w fun e w'=>∃ A k,e = .returned (.slice A (a.dims i).length k)∧rep w' (old w'.heap.size) [.slice A (a.dims i).length k] (a.dims i)∧Below w.heap.size w w' :=
 (askDims' cs a i _ w (Nat.le_refl _) hr).mono fun _ _ ⟨A,k,h1,h2,h3⟩=>⟨A,k,h1,Rep.more h2 (old_le h3.size),h3⟩
set_option maxRecDepth 100000 in
set_option maxHeartbeats 8000000 in
theorem askHas (cs:List Value) (a:AskD) (i:Nat) (w:World) (hr:rep w (old w.heap.size) cs a) :
  Calls Tryz.prog 100 #[.agg cs.toArray,.int .i64 i] w fun e w'=>e = .returned (.bool (a.has i))∧Below w.heap.size w w':=by
 go_enter Tryz.func100,Tryz.ntmps100
 go_wp2_with (with_reducible refine wpList_box_row rfl 107 _ rfl cs rfl ?_;have hX:=ask_start hr;generalize World.alloc _ _ = W0 at hX ⊢;have HX:=Lib.hid hX;clear hX hr;refine halt ?_)
 unfold Halt
 go_wp2_with (with_reducible refine wpList_load_agg rfl 107 _ rfl _ _ _ rfl cs Tryz.underlying107 rfl HX.out.size HX.out.at ?_)
 refine (askVal cs a i _ HX.out.arg).mono ?_
 rintro e w1 ⟨vs,rfl,hv,hb⟩
 obtain ⟨A1,k1,A2,k2,A3,k3,A4,k4,A5,k5,rfl,-,-,-⟩:=open_ValD hv
 have H:=Lib.hid (HX.out.trans hb)
 clear hv hb
 have hf:=val_type
 go_wp2
 go_ret
 exact ⟨rfl,H.out⟩
set_option maxRecDepth 100000 in
set_option maxHeartbeats 8000000 in
theorem askRank (cs:List Value) (a:AskD) (w:World) (hr:rep w (old w.heap.size) cs a) :
  Calls Tryz.prog 127 #[.agg cs.toArray] w fun e w'=>e = .returned (.int .i64 (a.dims 0).length)∧Below w.heap.size w w':=by
 go_enter Tryz.func127,Tryz.ntmps127
 go_wp2_with (with_reducible refine wpList_box_row rfl 107 _ rfl cs rfl ?_;have hX:=ask_start hr;generalize World.alloc _ _ = W0 at hX ⊢;have HX:=Lib.hid hX;clear hX hr;refine halt ?_)
 unfold Halt
 go_wp2_with (with_reducible refine wpList_load_agg rfl 107 _ rfl _ _ _ rfl cs Tryz.underlying107 rfl HX.out.size HX.out.at ?_)
 refine (askDims cs a 0 _ HX.out.arg).mono ?_
 rintro e w1 ⟨A,k,rfl,hv,hb⟩
 have H:=Lib.hid (HX.out.trans hb)
 clear hv hb
 go_wp2
 go_ret
 exact ⟨rfl,H.out⟩
end Go.Proofs.YtoeaglpmkjoenaaGreat
