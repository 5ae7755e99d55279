/-
  graph.Copy's memory: a box whose first two rows grow; what was made before stays.
-/
/-
  Boxes of a loop's round: rows of cells of the call's own that are written, and data that lie outside of them, all made since a world W0.
-/
/-
  For graph.Copy's loops: shorter laws for drawn regions, a list literal of one node, data that are carried from box to box.
-/
import Derived.Test.YtoeaglpmkjoenaaGreatQGRows
import Derived.Test.YtoeaglpmkjoenaaGreatQGMaps
import Derived.Test.YtoeaglpmkjoenaaGreatQSame
import Derived.Test.YtoeaglpmkjoenaaGreatQResV
set_option linter.unusedSimpArgs false
set_option linter.unusedVariables false
namespace Go.Proofs.YtoeaglpmkjoenaaGreat
open Go.RowKit
open Rep (rep)
def rowsC (vals:List ValD) (nodes:List GNodeD) (vV:Value) (xV:List Value) (vN:Value) (xN:List Value):List RowV:=[⟨vV,45,8,vals.length,xV⟩,⟨vN,50,40,nodes.length,xN⟩]
structure CSX (w:World) (src res:List Value) (g:GraphD) (o:Nat) (vals:List ValD) (nodes:List GNodeD) (vV:Value) (xV:List Value) (vN:Value) (xN:List Value) (vI vO:Value) (W:World):Prop where
 below:Below w.heap.size w W
 arg:W.heap[w.heap.size]? = some (.cells src.toArray 26 (0,0))
 res:W.heap[w.heap.size + 1]? = some (.cells res.toArray 26 (0,0))
 row:W.heap[o]? = some (.cells ([vV,vN,vI,vO]:List Value).toArray 26 (0,0))
 rows:Rws (w.heap.size + 2) [o] (rowsC vals nodes vV xV vN xN) W
 cV:Chunks W (cold (w.heap.size + 2) [o] (rowsC vals nodes vV xV vN xN) W) xV vals
 cN:Chunks W (cold (w.heap.size + 2) [o] (rowsC vals nodes vV xV vN xN) W) xN nodes
 rI:rep W (cold (w.heap.size + 2) [o] (rowsC vals nodes vV xV vN xN) W) [vI] g.inputs
 rO:rep W (cold (w.heap.size + 2) [o] (rowsC vals nodes vV xV vN xN) W) [vO] g.outputs
section
variable {w W W' W9:World} {src res:List Value} {g:GraphD} {o:Nat} {vals:List ValD} {nodes:List GNodeD} {vV vN vI vO v9:Value} {xV xN:List Value}
theorem CSX.base (h:CSX w src res g o vals nodes vV xV vN xN vI vO W):w.heap.size + 2 ≤ W.heap.size:=h.rows.base
theorem CSX.box (h:CSX w src res g o vals nodes vV xV vN xN vI vO W):w.heap.size + 2 ≤ o∧o < W.heap.size:=h.rows.ban o (List.mem_singleton.2 rfl)
theorem CSX.next (h:CSX w src res g o vals nodes vV xV vN xN vI vO W) (hb:Below W.heap.size W W'):CSX w src res g o vals nodes vV xV vN xN vI vO W':=by
 have hm:=h.rows.below hb
 have h1:=h.base
 have h2:=h.box
 exact ⟨h.below.trans (hb.mono (by omega)),(hb.block _ (by omega)).trans h.arg,(hb.block _ (by omega)).trans h.res,(hb.block _ h2.2).trans h.row,hm.rows,hm.chunks h.cV,hm.chunks h.cN,hm.rep h.rI,hm.rep h.rO⟩
theorem CSX.keeps' (h:CSX w src res g o vals nodes vV xV vN xN vI vO W) {α:Type} [Rep α] {c:List Value} {a:α} (hr:rep w (old w.heap.size) c a):rep W (old W.heap.size) c a :=
 Rep.more (Rep.keep hr (Keeps.old_below h.below (Nat.le_refl _))) (old_le (by have:=h.base;omega))
theorem own_one {e:TypeId} {size n:Nat} {xs:List Value} {lo:Nat} (h:W.ownsRow lo e size v9 (n + 1) xs):v9.oneCell' = true:=by
 rcases h.2 with ⟨hv,h0⟩ | ⟨g,cap,cur,hv,_⟩
 ·omega
 ·rw [hv];rfl
theorem CSX.push_val (h:CSX w src res g o vals nodes vV xV vN xN vI vO W) (hb:Below W.heap.size W W') {zc:List Value} {z:ValD} (hz:rep W' (fresh W.heap.size W'.heap.size) zc z)
  (hg:W'.grownBy W9 vV.ownBlock) (ho:W9.ownsRow (w.heap.size + 2) 45 8 v9 (vals.length + 1) (xV++zc)) (hv:v9.ownBlock = vV.ownBlock ∨ v9.ownBlock = some W'.heap.size) :
  W9.heap[o]? = some (.cells ([vV,vN,vI,vO]:List Value).toArray 26 (0,0))∧v9.oneCell' = true ∧
  CSX w src res g o (vals++[z]) nodes v9 (xV++zc) vN xN vI vO (W9.setRow o (([vV,vN,vI,vO]:List Value).set 0 v9).toArray):=by
 have h1:=h.next hb
 have hm1:=h1.rows.grow (i:=0) (r':=⟨v9,45,8,(vals++[z]).length,xV++zc⟩) rfl hg (by rw [List.length_append];exact ho) (hv.imp id .inl)
 have hrs:(rowsC vals nodes vV xV vN xN).set 0 ⟨v9,45,8,(vals++[z]).length,xV++zc⟩ = rowsC (vals++[z]) nodes v9 (xV++zc) vN xN:=rfl
 rw [hrs] at hm1
 have hoff:vV.ownBlock ≠ some o:=h1.rows.free o (List.mem_singleton.2 rfl) 0 _ rfl
 have hrow9:W9.heap[o]? = some (.cells ([vV,vN,vI,vO]:List Value).toArray 26 (0,0)):=(hg.block o h1.box.2 (fun e=>hoff e.symm)).trans h1.row
 have hm2:=hm1.rows.wrote (List.mem_singleton.2 rfl) (grown_setRow W9 o (([vV,vN,vI,vO]:List Value).set 0 v9).toArray)
 have hm:=hm1.trans hm2
 have hbx:=h1.box
 have hbs:=h1.base
 have hzc:rep W' (cold (w.heap.size + 2) [o] (rowsC vals nodes vV xV vN xN) W') zc z:=Rep.more hz (h.rows.new_cold hb (Nat.le_refl _))
 have hlo:=hm.from_lo h1.rows
 refine ⟨hrow9,own_one ho,⟨h1.below.trans (hlo.mono (by omega)),(hlo.block _ (by omega)).trans h1.arg,(hlo.block _ (by omega)).trans h1.res,heap_setRow _ _ _ _ _ hrow9,hm2.rows,(hm.chunks h1.cV).snoc (hm.rep hzc),hm.chunks h1.cN,hm.rep h1.rI,hm.rep h1.rO⟩⟩
theorem CSX.push_node (h:CSX w src res g o vals nodes vV xV vN xN vI vO W) (hb:Below W.heap.size W W') {zc:List Value} {z:GNodeD} (hz:rep W' (fresh W.heap.size W'.heap.size) zc z)
  (hg:W'.grownBy W9 vN.ownBlock) (ho:W9.ownsRow (w.heap.size + 2) 50 40 v9 (nodes.length + 1) (xN++zc)) (hv:v9.ownBlock = vN.ownBlock ∨ v9.ownBlock = some W'.heap.size) :
  W9.heap[o]? = some (.cells ([vV,vN,vI,vO]:List Value).toArray 26 (0,0))∧v9.oneCell' = true ∧
  CSX w src res g o vals (nodes++[z]) vV xV v9 (xN++zc) vI vO (W9.setRow o (([vV,vN,vI,vO]:List Value).set 1 v9).toArray):=by
 have h1:=h.next hb
 have hm1:=h1.rows.grow (i:=1) (r':=⟨v9,50,40,(nodes++[z]).length,xN++zc⟩) rfl hg (by rw [List.length_append];exact ho) (hv.imp id .inl)
 have hrs:(rowsC vals nodes vV xV vN xN).set 1 ⟨v9,50,40,(nodes++[z]).length,xN++zc⟩ = rowsC vals (nodes++[z]) vV xV v9 (xN++zc):=rfl
 rw [hrs] at hm1
 have hoff:vN.ownBlock ≠ some o:=h1.rows.free o (List.mem_singleton.2 rfl) 1 _ rfl
 have hrow9:W9.heap[o]? = some (.cells ([vV,vN,vI,vO]:List Value).toArray 26 (0,0)):=(hg.block o h1.box.2 (fun e=>hoff e.symm)).trans h1.row
 have hm2:=hm1.rows.wrote (List.mem_singleton.2 rfl) (grown_setRow W9 o (([vV,vN,vI,vO]:List Value).set 1 v9).toArray)
 have hm:=hm1.trans hm2
 have hbx:=h1.box
 have hbs:=h1.base
 have hzc:rep W' (cold (w.heap.size + 2) [o] (rowsC vals nodes vV xV vN xN) W') zc z:=Rep.more hz (h.rows.new_cold hb (Nat.le_refl _))
 have hlo:=hm.from_lo h1.rows
 refine ⟨hrow9,own_one ho,⟨h1.below.trans (hlo.mono (by omega)),(hlo.block _ (by omega)).trans h1.arg,(hlo.block _ (by omega)).trans h1.res,heap_setRow _ _ _ _ _ hrow9,hm2.rows,hm.chunks h1.cV,(hm.chunks h1.cN).snoc (hm.rep hzc),hm.rep h1.rI,hm.rep h1.rO⟩⟩
theorem CSX.done (h:CSX w src res g o g.vals g.nodes vV xV vN xN vI vO W) (hv:g.vals.length * 144 ≤ reach) (hn:g.nodes.length * 432 ≤ reach):rep W (fresh (w.heap.size + 2) W.heap.size) [vV,vN,vI,vO] g :=
 shut_GraphD (c0:=[_]) (h.rows.rep (i:=0) rfl rfl rfl h.cV hv) (c1:=[_]) (h.rows.rep (i:=1) rfl rfl rfl h.cN hn) (c2:=[_]) (Rep.more h.rI cold_fresh) (c3:=[_]) (Rep.more h.rO cold_fresh)
theorem csx_start (hb:Below w.heap.size w W) (ha:W.heap[w.heap.size]? = some (.cells src.toArray 26 (0,0))) (hr:W.heap[w.heap.size + 1]? = some (.cells res.toArray 26 (0,0)))
  (ho:w.heap.size + 2 ≤ o) (hrow:W.heap[o]? = some (.cells ([.slice none 0 0,.slice none 0 0,vI,vO]:List Value).toArray 26 (0,0))) (hI:rep W ⟨fun b=>w.heap.size + 2 ≤ b∧b < W.heap.size∧b ≠ o,true⟩ [vI] g.inputs) (hO:rep W ⟨fun b=>w.heap.size + 2 ≤ b∧b < W.heap.size∧b ≠ o,true⟩ [vO] g.outputs) :
  CSX w src res g o [] [] (.slice none 0 0) [] (.slice none 0 0) [] vI vO W:=by
 have hlt:o < W.heap.size:=(Array.getElem?_eq_some_iff.1 hrow).1
 have hof:∀ k,Off (rowsC [] [] (.slice none 0 0) [] (.slice none 0 0) []) k:=fun k i r hi hk=>by
  match i,hi with
  | 0,hi=>injection hi with hi;subst hi;cases hk
  | 1,hi=>injection hi with hi;subst hi;cases hk
 have hle:Zone.le ⟨fun b=>w.heap.size + 2 ≤ b∧b < W.heap.size∧b ≠ o,true⟩ (cold (w.heap.size + 2) [o] (rowsC [] [] (.slice none 0 0) [] (.slice none 0 0) []) W):=⟨fun b ⟨h0,h1,h2⟩=>⟨h0,h1,fun hm=>h2 (List.mem_singleton.1 hm),hof b⟩,fun _=>rfl⟩
 refine ⟨hb,ha,hr,hrow,⟨?_,fun b _=>hof b,?_,by omega,?_⟩,rfl,rfl,Rep.more hI hle,Rep.more hO hle⟩
 ·intro i r hi
  match i,hi with
  | 0,hi=>injection hi with hi;subst hi;exact World.ownsRow_nil _ _ _ _
  | 1,hi=>injection hi with hi;subst hi;exact World.ownsRow_nil _ _ _ _
 ·intro i j r s hne hi hj b hr
  exact absurd hr (hof b i r hi)
 ·intro b hm
  have:=List.mem_singleton.1 hm
  omega
end
def offO (lo o:Nat) (W:World):Zone:=⟨fun b=>lo ≤ b∧b < W.heap.size∧b ≠ o,true⟩
theorem off_of {α:Type} [Rep α] {lo o a:Nat} {W W':World} {v:List Value} {l:α} (h:rep W (fresh a W.heap.size) v l) (hb:Below W.heap.size W W') (ha:lo ≤ a) (ho:o < a ∨ W.heap.size ≤ o):rep W' (offO lo o W') v l:=by
 have hs:=hb.size
 exact Rep.more (Rep.keep h (Keeps.fresh_below hb (Nat.le_refl _))) ⟨fun b ⟨h0,h1⟩=>⟨by omega,by omega,by omega⟩,fun _=>rfl⟩
theorem csx_laid {w W:World} {src z4:List Value} {g:GraphD} {o:Nat} {vI vO:Value} (hP:Pair w 26 26 src z4 W) (ho:w.heap.size + 2 ≤ o) {z:List Value} (hz:z.length = 4) (hrow:W.heap[o]? = some (.cells z.toArray 26 (0,0)))
  (hI:rep W (offO (w.heap.size + 2) o W) [vI] g.inputs) (hO:rep W (offO (w.heap.size + 2) o W) [vO] g.outputs) :
  CSX w src z4 g o [] [] (.slice none 0 0) [] (.slice none 0 0) [] vI vO (W.setRow o (z.take 0++([.slice none 0 0,.slice none 0 0,vI,vO]:List Value)++z.drop (0 + ([.slice none 0 0,.slice none 0 0,vI,vO]:List Value).length)).toArray):=by
 have e:z.take 0++([.slice none 0 0,.slice none 0 0,vI,vO]:List Value)++z.drop (0 + ([.slice none 0 0,.slice none 0 0,vI,vO]:List Value).length) = [.slice none 0 0,.slice none 0 0,vI,vO]:=by
  rw [List.take_zero,List.nil_append,List.drop_of_length_le (by simp [hz]),List.append_nil]
 rw [e]
 have hlt:o < W.heap.size:=(Array.getElem?_eq_some_iff.1 hrow).1
 have hk:∀ k,k ≠ o→(W.setRow o ([.slice none 0 0,.slice none 0 0,vI,vO]:List Value).toArray).heap[k]? = W.heap[k]?:=fun k hk=>heap_setRow_other _ _ _ _ hk
 have hz':∀ {α:Type} [Rep α] {v:List Value} {l:α},rep W (offO (w.heap.size + 2) o W) v l→rep (W.setRow o ([.slice none 0 0,.slice none 0 0,vI,vO]:List Value).toArray) (offO (w.heap.size + 2) o (W.setRow o ([.slice none 0 0,.slice none 0 0,vI,vO]:List Value).toArray)) v l:=fun h =>
  Rep.more (Rep.keep h (Keeps.of_block fun k hk'=>hk k hk'.2.2)) ⟨fun b ⟨h0,h1,h2⟩=>⟨h0,by rw [size_setRow];exact h1,h2⟩,fun _=>rfl⟩
 exact csx_start (below_setRow' hP.below (by omega) _) ((hk _ (by omega)).trans hP.src) ((hk _ (by omega)).trans hP.res) ho (heap_setRow _ _ _ _ _ hrow) (hz' hI) (hz' hO)
section
variable {P:Program} {md:Region.Mode} {ops:Array Oper} {Q:Exit→Act→World→Prop} {S:World→Prop}
theorem anyH_call_lay (i j:Nat) (d:Option Tmp) {fuel:Nat} {listed:Array Bool} {a:Act} {w:World} {o o':Oper} (hio:ops[i]? = some o) (hjo:ops[j]? = some o') (hd:o.dst = d) (hr:Region.ready md ops listed = [i,j])
  (hw:Region.wanted o (yielded ops a.tmps) = true) (f:FuncId) (xs:Array Operand) (ts:Array TypeId) (ho:o.op = .call { callee:=.value (.func f),args:=xs,argTypes:=ts }) (vs:Array Value) (hv:xs.map a.eval = vs) (hc:∀ w,(callFunc f vs).run P w = .ok (.enter f vs) w)
  (h:Calls P f vs w fun e w'=>∃ u,e = .returned u∧S w'∧wpAnyH P md ops Q S fuel (listed.setIfInBounds i true) (a.put d u) w')
  (h':StepTo P md ops Q S fuel listed j o' a w):wpAnyH P md ops Q S (fuel + 1) listed a w:=by
 subst hd
 refine wpAnyH_ready hr (by simp) (AllReadyH.cons hio (fun K hK=>?_) (AllReadyH.cons hjo (fun _ hK=>step_to h' hK) AllReadyH.nil))
 rw [if_pos hw]
 unfold Oper.wp
 simp only [execOp,ho]
 have hf:a.eval (Operand.func f) = .func (.func f) #[] #[]:=rfl
 simp [hv,hf,resolve,invoke,Deferred.ofValue,hc]
 refine h.mono fun e w' ⟨u,he,hS,hk⟩=>?_
 subst he
 exact hK.out _ _ hS (fun _=>hk)
end
end Go.Proofs.YtoeaglpmkjoenaaGreat
set_option linter.unusedSimpArgs false
set_option linter.unusedVariables false
namespace Go.Proofs.YtoeaglpmkjoenaaGreat
open Go.RowKit
open Rep (rep)
structure BoxV where
 b:Nat
 t:TypeId
 cs:List Value
def offL (lo:Nat) (L:List BoxV) (W:World):Zone:=⟨fun k=>lo ≤ k∧k < W.heap.size∧∀ x ∈ L,x.b ≠ k,true⟩
structure Work (W0:World) (L:List BoxV) (W:World):Prop where
 below:Below W0.heap.size W0 W
 row:∀ x ∈ L,W0.heap.size ≤ x.b∧W.heap[x.b]? = some (.cells x.cs.toArray x.t (0,0))
section
variable {W0 W W':World} {L:List BoxV}
theorem Work.start (W0:World):Work W0 [] W0:=⟨Below.refl _ _,fun x h=>by cases h⟩
theorem Work.lt (h:Work W0 L W) {x:BoxV} (hx:x ∈ L):x.b < W.heap.size:=(Array.getElem?_eq_some_iff.1 (h.row x hx).2).1
theorem Work.next (h:Work W0 L W) (hb:Below W.heap.size W W'):Work W0 L W' :=
 ⟨h.below.trans (hb.mono h.below.size),fun x hx=>⟨(h.row x hx).1,(hb.block _ (h.lt hx)).trans (h.row x hx).2⟩⟩
theorem Work.keep (h:Work W0 L W) (hb:Below W.heap.size W W') {α:Type} [Rep α] {c:List Value} {a:α} (hr:rep W (offL W0.heap.size L W) c a):rep W' (offL W0.heap.size L W') c a :=
 Rep.more (Rep.keep hr (Keeps.of_block fun k hk=>hb.block k hk.2.1)) ⟨fun k ⟨h0,h1,h2⟩=>⟨h0,Nat.lt_of_lt_of_le h1 hb.size,h2⟩,fun _=>rfl⟩
theorem Work.new (h:Work W0 L W) (hb:Below W.heap.size W W') {α:Type} [Rep α] {c:List Value} {a:α} (hr:rep W' (fresh W.heap.size W'.heap.size) c a):rep W' (offL W0.heap.size L W') c a :=
 Rep.more hr ⟨fun k ⟨h0,h1⟩=>⟨by have:=h.below.size;omega,h1,fun x hx e=>by have:=h.lt hx;omega⟩,fun _=>rfl⟩
theorem Work.old (h:Work W0 L W) {α:Type} [Rep α] {c:List Value} {a:α} (hr:rep W0 (old W0.heap.size) c a):rep W (old W.heap.size) c a :=
 Rep.more (Rep.keep hr (Keeps.old_below h.below (Nat.le_refl _))) (old_le h.below.size)
theorem Work.box (h:Work W0 L W) (t:TypeId) (cs:List Value) (hb:Below W.heap.size W W') (hr:W'.heap[W.heap.size]? = some (.cells cs.toArray t (0,0))):Work W0 (⟨W.heap.size,t,cs⟩ :: L) W' :=
 ⟨(h.next hb).below,fun x hx=>by
  rcases List.mem_cons.1 hx with e | hx
  ·subst e;exact ⟨h.below.size,hr⟩
  ·exact (h.next hb).row x hx⟩
theorem Work.set0 {b:Nat} {t:TypeId} {cs cs':List Value} (h:Work W0 (⟨b,t,cs⟩ :: L) W) (hd:∀ x ∈ L,x.b ≠ b):Work W0 (⟨b,t,cs'⟩ :: L) (W.setRow b cs'.toArray):=by
 have h0:=h.row ⟨b,t,cs⟩ (List.mem_cons_self ..)
 refine ⟨h.below.trans ⟨rfl,rfl,rfl,by rw [size_setRow];exact Nat.le_refl _,fun k hk=>heap_setRow_other _ _ _ _ (by have:=h0.1;simp only at this;omega)⟩,fun x hx=>?_⟩
 rcases List.mem_cons.1 hx with e | hx
 ·subst e;exact ⟨h0.1,heap_setRow _ _ _ _ _ h0.2⟩
 ·have h1:=h.row x (List.mem_cons_of_mem _ hx)
  exact ⟨h1.1,(heap_setRow_other _ _ _ _ (hd x hx)).trans h1.2⟩
theorem Work.set1 {y:BoxV} {b:Nat} {t:TypeId} {cs cs':List Value} (h:Work W0 (y :: ⟨b,t,cs⟩ :: L) W) (hy:y.b ≠ b) (hd:∀ x ∈ L,x.b ≠ b):Work W0 (y :: ⟨b,t,cs'⟩ :: L) (W.setRow b cs'.toArray):=by
 have h0:=h.row ⟨b,t,cs⟩ (List.mem_cons_of_mem _ (List.mem_cons_self ..))
 refine ⟨h.below.trans ⟨rfl,rfl,rfl,by rw [size_setRow];exact Nat.le_refl _,fun k hk=>heap_setRow_other _ _ _ _ (by have:=h0.1;simp only at this;omega)⟩,fun x hx=>?_⟩
 rcases List.mem_cons.1 hx with e | hx
 ·subst e
  have h1:=h.row x (List.mem_cons_self ..)
  exact ⟨h1.1,(heap_setRow_other _ _ _ _ hy).trans h1.2⟩
 rcases List.mem_cons.1 hx with e | hx
 ·subst e;exact ⟨h0.1,heap_setRow _ _ _ _ _ h0.2⟩
 ·have h1:=h.row x (List.mem_cons_of_mem _ (List.mem_cons_of_mem _ hx))
  exact ⟨h1.1,(heap_setRow_other _ _ _ _ (hd x hx)).trans h1.2⟩
theorem Work.drew (h:Work W0 L W):Work W0 L W.drew:=h.next ((Below.refl W.heap.size W).drew)
end
section
variable {w w':World} {Z Z':Zone} {cs cs':List Value} {j:Nat}
theorem Fld.int_at {n:Int} (h:Fld w Z cs j n) (e:cs'[j]? = cs[j]?):Fld w' Z' cs' j n:=let ⟨v,h1,h2⟩:=h;⟨v,e.trans h1,h2⟩
theorem Fld.nat_at {n:Nat} (h:Fld w Z cs j n) (e:cs'[j]? = cs[j]?):Fld w' Z' cs' j n:=let ⟨v,h1,h2⟩:=h;⟨v,e.trans h1,h2⟩
theorem Fld.bool_at {n:Bool} (h:Fld w Z cs j n) (e:cs'[j]? = cs[j]?):Fld w' Z' cs' j n:=let ⟨v,h1,h2⟩:=h;⟨v,e.trans h1,h2⟩
end
def settingWith (ss:List Value) (v1 v2 v3 v4 v5 v6:Value):List Value:=(((((ss.set 1 v1).set 7 v2).set 20 v3).set 21 v4).set 22 v5).set 23 v6
theorem settingWith_len (ss:List Value) (v1 v2 v3 v4 v5 v6:Value):(settingWith ss v1 v2 v3 v4 v5 v6).length = ss.length:=by unfold settingWith;simp only [List.length_set]
theorem setting_copied {w w':World} {Z Z':Zone} {ss ct:List Value} {s:SettingD} {v1 v2 v3 v4 v5 v6:Value} (h:SettingDAt w Z ss s)
  (h1:rep w' Z' [v1] s.axes) (h2:rep w' Z' [v2] s.perm) (h3:rep w' Z' [v3] s.kernel) (h4:rep w' Z' [v4] s.strides) (h5:rep w' Z' [v5] s.pads) (h6:rep w' Z' [v6] s.dilations) (ht:rep w' Z' ct s.value) :
  SettingDAt w' Z' ((settingWith ss v1 v2 v3 v4 v5 v6).take 31++ct) s:=by
 have hl:=h.len
 have hl6:(settingWith ss v1 v2 v3 v4 v5 v6).length = 36:=by rw [settingWith_len,hl]
 have hlt:((settingWith ss v1 v2 v3 v4 v5 v6).take 31).length = 31:=by rw [List.length_take];omega
 have hct:ct.length = 5:=Rep.len ht
 have lo:∀ j,j < 31→((settingWith ss v1 v2 v3 v4 v5 v6).take 31++ct)[j]? = (settingWith ss v1 v2 v3 v4 v5 v6)[j]?:=fun j hj=>by
  rw [List.getElem?_append_left (by omega),List.getElem?_take,if_pos hj]
 have ne:∀ j,j < 31→j ≠ 1→j ≠ 7→j ≠ 20→j ≠ 21→j ≠ 22→j ≠ 23→((settingWith ss v1 v2 v3 v4 v5 v6).take 31++ct)[j]? = ss[j]?:=fun j hj n1 n2 n3 n4 n5 n6=>by
  rw [lo j hj]
  unfold settingWith
  rw [List.getElem?_set_ne (Ne.symm n6),List.getElem?_set_ne (Ne.symm n5),List.getElem?_set_ne (Ne.symm n4),List.getElem?_set_ne (Ne.symm n3),List.getElem?_set_ne (Ne.symm n2),List.getElem?_set_ne (Ne.symm n1)]
 have e23:(settingWith ss v1 v2 v3 v4 v5 v6)[23]? = some v6:=by unfold settingWith;rw [List.getElem?_set_self (by simp only [List.length_set];omega)]
 have e22:(settingWith ss v1 v2 v3 v4 v5 v6)[22]? = some v5:=by unfold settingWith;rw [List.getElem?_set_ne (by decide),List.getElem?_set_self (by simp only [List.length_set];omega)]
 have e21:(settingWith ss v1 v2 v3 v4 v5 v6)[21]? = some v4:=by unfold settingWith;rw [List.getElem?_set_ne (by decide),List.getElem?_set_ne (by decide),List.getElem?_set_self (by simp only [List.length_set];omega)]
 have e20:(settingWith ss v1 v2 v3 v4 v5 v6)[20]? = some v3:=by unfold settingWith;rw [List.getElem?_set_ne (by decide),List.getElem?_set_ne (by decide),List.getElem?_set_ne (by decide),List.getElem?_set_self (by simp only [List.length_set];omega)]
 have e7:(settingWith ss v1 v2 v3 v4 v5 v6)[7]? = some v2:=by unfold settingWith;rw [List.getElem?_set_ne (by decide),List.getElem?_set_ne (by decide),List.getElem?_set_ne (by decide),List.getElem?_set_ne (by decide),List.getElem?_set_self (by simp only [List.length_set];omega)]
 have e1:(settingWith ss v1 v2 v3 v4 v5 v6)[1]? = some v1:=by unfold settingWith;rw [List.getElem?_set_ne (by decide),List.getElem?_set_ne (by decide),List.getElem?_set_ne (by decide),List.getElem?_set_ne (by decide),List.getElem?_set_ne (by decide),List.getElem?_set_self (by omega)]
 exact {
  len:=by rw [List.length_append,hlt,hct]
  f0:=h.f0.int_at (ne 0 (by decide) (by decide) (by decide) (by decide) (by decide) (by decide) (by decide))
  f1:=⟨v1,(lo 1 (by decide)).trans e1,h1⟩
  f2:=h.f2.bool_at (ne 2 (by decide) (by decide) (by decide) (by decide) (by decide) (by decide) (by decide))
  f3:=h.f3.bool_at (ne 3 (by decide) (by decide) (by decide) (by decide) (by decide) (by decide) (by decide))
  f4:=h.f4.bool_at (ne 4 (by decide) (by decide) (by decide) (by decide) (by decide) (by decide) (by decide))
  f5:=h.f5.bool_at (ne 5 (by decide) (by decide) (by decide) (by decide) (by decide) (by decide) (by decide))
  f6:=h.f6.bool_at (ne 6 (by decide) (by decide) (by decide) (by decide) (by decide) (by decide) (by decide))
  f7:=⟨v2,(lo 7 (by decide)).trans e7,h2⟩
  f8:=h.f8.bool_at (ne 8 (by decide) (by decide) (by decide) (by decide) (by decide) (by decide) (by decide))
  f9:=h.f9.nat_at (ne 9 (by decide) (by decide) (by decide) (by decide) (by decide) (by decide) (by decide))
  f10:=h.f10.nat_at (ne 10 (by decide) (by decide) (by decide) (by decide) (by decide) (by decide) (by decide))
  f11:=h.f11.nat_at (ne 11 (by decide) (by decide) (by decide) (by decide) (by decide) (by decide) (by decide))
  f12:=h.f12.bool_at (ne 12 (by decide) (by decide) (by decide) (by decide) (by decide) (by decide) (by decide))
  f13:=h.f13.bool_at (ne 13 (by decide) (by decide) (by decide) (by decide) (by decide) (by decide) (by decide))
  f14:=h.f14.bool_at (ne 14 (by decide) (by decide) (by decide) (by decide) (by decide) (by decide) (by decide))
  f15:=h.f15.int_at (ne 15 (by decide) (by decide) (by decide) (by decide) (by decide) (by decide) (by decide))
  f16:=h.f16.int_at (ne 16 (by decide) (by decide) (by decide) (by decide) (by decide) (by decide) (by decide))
  f17:=h.f17.bool_at (ne 17 (by decide) (by decide) (by decide) (by decide) (by decide) (by decide) (by decide))
  f18:=h.f18.bool_at (ne 18 (by decide) (by decide) (by decide) (by decide) (by decide) (by decide) (by decide))
  f19:=h.f19.int_at (ne 19 (by decide) (by decide) (by decide) (by decide) (by decide) (by decide) (by decide))
  f20:=⟨v3,(lo 20 (by decide)).trans e20,h3⟩
  f21:=⟨v4,(lo 21 (by decide)).trans e21,h4⟩
  f22:=⟨v5,(lo 22 (by decide)).trans e22,h5⟩
  f23:=⟨v6,(lo 23 (by decide)).trans e23,h6⟩
  f24:=h.f24.int_at (ne 24 (by decide) (by decide) (by decide) (by decide) (by decide) (by decide) (by decide))
  f25:=h.f25.bool_at (ne 25 (by decide) (by decide) (by decide) (by decide) (by decide) (by decide) (by decide))
  f26:=h.f26.bool_at (ne 26 (by decide) (by decide) (by decide) (by decide) (by decide) (by decide) (by decide))
  f27:=h.f27.int_at (ne 27 (by decide) (by decide) (by decide) (by decide) (by decide) (by decide) (by decide))
  f28:=h.f28.int_at (ne 28 (by decide) (by decide) (by decide) (by decide) (by decide) (by decide) (by decide))
  f29:=h.f29.int_at (ne 29 (by decide) (by decide) (by decide) (by decide) (by decide) (by decide) (by decide))
  f30:=h.f30.bool_at (ne 30 (by decide) (by decide) (by decide) (by decide) (by decide) (by decide) (by decide))
  f31:=by rw [List.drop_append_of_le_length (by omega),List.drop_of_length_le (by omega),List.nil_append];exact ht }
end Go.Proofs.YtoeaglpmkjoenaaGreat
set_option linter.unusedSimpArgs false
set_option linter.unusedVariables false
namespace Go.Proofs.YtoeaglpmkjoenaaGreat
open Go.RowKit
open Rep (rep)
theorem cell_at {w:World} {g j:Nat} {cs:List Value} {t:TypeId} {fr:Nat × Nat} {u:Value} (h:w.heap[g]? = some (.cells cs.toArray t fr)) (hj:cs[j]? = some u):w.cell? ⟨g,j,none⟩ = some u :=
 (cell_of_row _ _ _ _ _ _ h).trans (by rw [List.getElem?_toArray];exact hj)
structure Carry (Z:Zone) (W:World) (Z':Zone) (W':World):Prop where
 keeps:Keeps Z W W'
 le:Z.le Z'
theorem Carry.trans {Z Z' Z'':Zone} {W W' W'':World} (h:Carry Z W Z' W') (k:Carry Z' W' Z'' W''):Carry Z W Z'' W'' :=
 ⟨Keeps.trans h.keeps (fun q hq=>k.keeps q (h.le.1 _ hq)),Zone.le_trans h.le k.le⟩
theorem Carry.data {Z Z':Zone} {W W':World} (h:Carry Z W Z' W') {α:Type} [Rep α] {c:List Value} {a:α} (hr:rep W Z c a):rep W' Z' c a:=Rep.more (Rep.keep hr h.keeps) h.le
section
variable {W0 W W':World} {L:List BoxV} {b:Nat} {t:TypeId} {cs cs':List Value}
def offB (lo:Nat) (bs:List Nat) (W:World):Zone:=⟨fun k=>lo ≤ k∧k < W.heap.size∧k ∉ bs,true⟩
theorem offB_next {lo:Nat} {bs:List Nat} (hb:Below W.heap.size W W'):Carry (offB lo bs W) W (offB lo bs W') W' :=
 ⟨Keeps.of_block fun k hk=>hb.block k hk.2.1,fun k ⟨h0,h1,h2⟩=>⟨h0,Nat.lt_of_lt_of_le h1 hb.size,h2⟩,fun _=>rfl⟩
theorem offB_drew {lo:Nat} {bs:List Nat}:Carry (offB lo bs W) W (offB lo bs W.drew) W.drew:=offB_next ((Below.refl W.heap.size W).drew)
theorem offB_set {lo:Nat} {bs:List Nat} {xs:Array Value} (hm:b ∈ bs):Carry (offB lo bs W) W (offB lo bs (W.setRow b xs)) (W.setRow b xs) :=
 ⟨Keeps.of_block fun k hk=>heap_setRow_other _ _ _ _ (fun e=>hk.2.2 (e ▸ hm)),fun k ⟨h0,h1,h2⟩=>⟨h0,by rw [size_setRow];exact h1,h2⟩,fun _=>rfl⟩
theorem offB_box {lo:Nat} {bs:List Nat} (hb:Below W.heap.size W W'):Carry (offB lo bs W) W (offB lo (W.heap.size :: bs) W') W' :=
 ⟨Keeps.of_block fun k hk=>hb.block k hk.2.1,fun k ⟨h0,h1,h2⟩=>⟨h0,Nat.lt_of_lt_of_le h1 hb.size,fun hm=>by
  rcases List.mem_cons.1 hm with e | hm
  ·omega
  ·exact h2 hm⟩,fun _=>rfl⟩
theorem Work.newB (h:Work W0 L W) {bs:List Nat} (e:L.map (·.b) = bs) (hb:Below W.heap.size W W') {α:Type} [Rep α] {c:List Value} {a:α} (hr:rep W' (fresh W.heap.size W'.heap.size) c a):rep W' (offB W0.heap.size bs W') c a :=
 Rep.more hr ⟨fun k ⟨h0,h1⟩=>⟨by have:=h.below.size;omega,h1,fun hm=>by
  subst e
  obtain ⟨x,hx,e⟩:=List.mem_map.1 hm
  have h2:=h.lt hx
  have e':x.b = k:=e
  omega⟩,fun _=>rfl⟩
theorem offB_fresh {lo:Nat} {bs:List Nat}:Zone.le (offB lo bs W) (fresh lo W.heap.size):=⟨fun k hk=>⟨hk.1,hk.2.1⟩,fun _=>rfl⟩
theorem Work.row0 {L:List BoxV} (h:Work W0 (⟨b,t,cs⟩ :: L) W):W.heap[b]? = some (.cells cs.toArray t (0,0)):=(h.row _ (List.mem_cons_self ..)).2
theorem Work.row1 {y:BoxV} {L:List BoxV} (h:Work W0 (y :: ⟨b,t,cs⟩ :: L) W):W.heap[b]? = some (.cells cs.toArray t (0,0)):=(h.row _ (List.mem_cons_of_mem _ (List.mem_cons_self ..))).2
theorem Work.at0 {L:List BoxV} (h:Work W0 (⟨b,t,cs⟩ :: L) W):At W b 0 cs:=At.of_row h.row0
end
theorem wpList_layC {P:Program} {ops:Array Oper} {rest:List Oper} {o:Oper} {a:Act} {w:World} {Q:Exit→Act→World→Prop} (hgd:o.guard = none) (v:Value) (ob:Obj) (hl:laySem P (execOp a.eval o) w.heap.size = some (.value v,[ob]))
  (h:wpList P ops Q rest (a.put o.dst v) (w.alloc ob)):wpList P ops Q (o :: rest) a w :=
 wpList_plain hgd fun _ hK=>by
  unfold Oper.wp
  rw [run_lay _ rfl hl]
  exact hK _ _ h
set_option maxRecDepth 100000 in
set_option maxHeartbeats 800000 in
theorem layC_node (zc:List Value) (hl:zc.length = 40) (n:Nat):laySem Tryz.prog (Instr.buildSlice 23 1 #[(0,.agg zc.toArray)]) n = some (.slice (some ⟨n,0,none⟩) 1 1,[.cells zc.toArray 50]):=by
 match zc,hl with
 | a0 :: a1 :: a2 :: a3 :: a4 :: a5 :: a6 :: a7 :: a8 :: a9 :: a10 :: a11 :: a12 :: a13 :: a14 :: a15 :: a16 :: a17 :: a18 :: a19 :: a20 :: a21 :: a22 :: a23 :: a24 :: a25 :: a26 :: a27 :: a28 :: a29 :: a30 :: a31 :: a32 :: a33 :: a34 :: a35 :: a36 :: a37 :: a38 :: a39 :: [],_=>(show _ = _;kernel_rfl)
theorem layC_bind {P:Program} {α β:Type} (e:Sem α) (f:α→Sem β):∀ (n:Nat) (a:α) (os:List Obj),laySem P e n = some (a,os)→∀ (b:β) ,(∀ k,laySem P (f a) k = some (b,[]))→laySem P (e.bind f) n = some (b,os):=by
 induction e with
 | pure a=>intro n a' os h b hb;simp only [laySem,Option.some.injEq,Prod.mk.injEq] at h;obtain ⟨rfl,rfl⟩:=h;exact hb n
 | program k ih=>intro n a os h b hb;simp only [laySem] at h;exact ih _ n a os h b hb
 | mark m k ih=>intro n a os h b hb;simp only [laySem] at h;exact ih n a os h b hb
 | new o k ih =>
  intro n a os h b hb
  simp only [laySem] at h
  split at h
  ·rename_i a' os' heq
   simp only [Option.some.injEq,Prod.mk.injEq] at h
   obtain ⟨rfl,rfl⟩:=h
   show (match laySem P ((k n).bind f) (n + 1) with | some (a,os)=>some (a,o :: os) | none=>none) = _
   rw [ih n (n + 1) _ _ heq b hb]
  ·cases h
 | load | store | shape | freeze | frozen | getObj | setObj | choose | sys | halt=>intro n a os h;simp only [laySem] at h;cases h
theorem layC_one {o:Oper} {a:Act} {x:Operand} (zc:List Value) (hl:zc.length = 40) (n:Nat) (ho:o.op = .buildSlice 23 1 #[(0,x)]) (hx:a.eval x = .agg zc.toArray):laySem Tryz.prog (execOp a.eval o) n = some (.value (.slice (some ⟨n,0,none⟩) 1 1),[.cells zc.toArray 50]):=by
 unfold execOp
 rw [ho]
 simp only [List.map_toArray,List.map_cons,List.map_nil,hx]
 exact layC_bind _ _ n _ _ (layC_node zc hl n) _ (fun k=>rfl)
theorem zero4C:(Tryz.prog.info? 26).bind (·.zero) = some (.agg ([.slice none 0 0,.slice none 0 0,.slice none 0 0,.slice none 0 0]:List Value).toArray):=by kernel_rfl
theorem node_set {op src:Int} {ss:List Value} {i1 i2 v1 v2:Value} (hl:ss.length = 36) :
  (([Value.int .i64 op]++(ss++([i1]++([i2]++[Value.int .i64 src])))).set 37 v1).set 38 v2 = [Value.int .i64 op]++(ss++([v1]++([v2]++[Value.int .i64 src]))):=by
 have e:∀ (r:List Value) (k:Nat) (u:Value),(ss++r).set (36 + k) u = ss++r.set k u:=fun r k u=>by
  rw [List.set_append,if_neg (by omega),show 36 + k - ss.length = k by omega]
 show (([Value.int .i64 op]++_).set (36 + 1) v1).set (37 + 1) v2 = _
 rw [List.singleton_append,List.set_cons_succ,List.set_cons_succ,show (36:Nat) = 36 + 0 from rfl,e,show (37:Nat) = 36 + 1 from rfl,e]
 rfl
theorem node_put {op src:Int} {ss st:List Value} {v1 v2:Value} (hl:ss.length = 36) (ht:st.length = 36) :
  ([Value.int .i64 op]++(ss++([v1]++([v2]++[Value.int .i64 src])))).take 1++st++([Value.int .i64 op]++(ss++([v1]++([v2]++[Value.int .i64 src])))).drop (1 + st.length) = [Value.int .i64 op]++(st++([v1]++([v2]++[Value.int .i64 src]))):=by
 rw [show (1:Nat) + st.length = 0 + 1 + 36 by omega]
 rw [List.singleton_append,List.take_succ_cons,List.take_zero,Nat.zero_add,Nat.add_comm 1 36,List.drop_succ_cons,List.drop_append_of_le_length (by omega),List.drop_of_length_le (by omega)]
 simp
theorem node_l {op src:Int} {ss:List Value} {i1 i2:Value} (hl:ss.length = 36):([Value.int .i64 op]++(ss++([i1]++([i2]++[Value.int .i64 src])))).length = 40:=by
 simp [hl]
theorem node_37 {op src:Int} {ss:List Value} {i1 i2:Value} (hl:ss.length = 36):([Value.int .i64 op]++(ss++([i1]++([i2]++[Value.int .i64 src]))))[37]? = some i1:=by
 rw [List.getElem?_append_right (by simp),List.getElem?_append_right (by simp [hl])]
 simp [hl]
theorem node_38 {op src:Int} {ss:List Value} {i1 i2:Value} (hl:ss.length = 36):([Value.int .i64 op]++(ss++([i1]++([i2]++[Value.int .i64 src]))))[38]? = some i2:=by
 rw [List.getElem?_append_right (by simp),List.getElem?_append_right (by simp [hl])]
 simp [hl]
theorem node_at {W:World} {b:Nat} {op src:Int} {ss:List Value} {i1 i2:Value} (h:At W b 0 ([Value.int .i64 op]++(ss++([i1]++([i2]++[Value.int .i64 src]))))):At W b 1 ss :=
 At.part (xs:=[Value.int .i64 op]) (cs:=ss) (ys:=[i1]++([i2]++[Value.int .i64 src])) (o:=0) (by rw [List.append_assoc];exact h)
theorem At.from {W:World} {b:Nat} {cs:List Value} (h:At W b 0 cs) (k:Nat):At W b k (cs.drop k):=fun j u hu=>by
 have:=h (k + j) u (by rw [← hu,List.getElem?_drop])
 rwa [Nat.zero_add] at this
theorem with_drop {ss:List Value} {v1 v2 v3 v4 v5 v6:Value}:(settingWith ss v1 v2 v3 v4 v5 v6).drop 31 = ss.drop 31:=by
 unfold settingWith
 apply List.ext_getElem?
 intro j
 simp only [List.getElem?_drop]
 rw [List.getElem?_set_ne (by omega),List.getElem?_set_ne (by omega),List.getElem?_set_ne (by omega),List.getElem?_set_ne (by omega),List.getElem?_set_ne (by omega),List.getElem?_set_ne (by omega)]
theorem with_put {ss ct:List Value} {v1 v2 v3 v4 v5 v6:Value} (hl:ss.length = 36) (hc:ct.length = 5):(settingWith ss v1 v2 v3 v4 v5 v6).take 31++ct++(settingWith ss v1 v2 v3 v4 v5 v6).drop (31 + ct.length) = (settingWith ss v1 v2 v3 v4 v5 v6).take 31++ct:=by
 rw [List.drop_of_length_le (by rw [settingWith_len];omega),List.append_nil]
theorem csx_end {w W:World} {src z4:List Value} {g:GraphD} {o:Nat} {vV vN vI vO:Value} {xV xN:List Value} (h:CSX w src z4 g o g.vals g.nodes vV xV vN xN vI vO W) (hz:z4.length = 4) (hv:g.vals.length * 144 ≤ 140737488351232) (hn:g.nodes.length * 432 ≤ 140737488351232) :
  (W.setRow (w.heap.size + 1) (z4.take 0++([vV,vN,vI,vO]:List Value)++z4.drop (0 + ([vV,vN,vI,vO]:List Value).length)).toArray).heap[w.heap.size + 1]? = some (.cells ([vV,vN,vI,vO]:List Value).toArray 26 (0,0)) ∧
  rep (W.setRow (w.heap.size + 1) (z4.take 0++([vV,vN,vI,vO]:List Value)++z4.drop (0 + ([vV,vN,vI,vO]:List Value).length)).toArray) (fresh w.heap.size (W.setRow (w.heap.size + 1) (z4.take 0++([vV,vN,vI,vO]:List Value)++z4.drop (0 + ([vV,vN,vI,vO]:List Value).length)).toArray).heap.size) [vV,vN,vI,vO] g ∧
  Below w.heap.size w (W.setRow (w.heap.size + 1) (z4.take 0++([vV,vN,vI,vO]:List Value)++z4.drop (0 + ([vV,vN,vI,vO]:List Value).length)).toArray):=by
 have e:z4.take 0++([vV,vN,vI,vO]:List Value)++z4.drop (0 + ([vV,vN,vI,vO]:List Value).length) = [vV,vN,vI,vO]:=by
  rw [List.take_zero,List.nil_append,List.drop_of_length_le (by simp [hz]),List.append_nil]
 rw [e]
 refine ⟨heap_setRow _ _ _ _ _ h.res,?_,below_setRow' h.below (by omega) _⟩
 rw [size_setRow]
 exact Rep.more (Rep.keep (h.done hv hn) (Keeps.of_block fun k hk=>heap_setRow_other _ _ _ _ (by have:=hk.1;omega))) (fresh_le (by omega) (Nat.le_refl _))
end Go.Proofs.YtoeaglpmkjoenaaGreat
