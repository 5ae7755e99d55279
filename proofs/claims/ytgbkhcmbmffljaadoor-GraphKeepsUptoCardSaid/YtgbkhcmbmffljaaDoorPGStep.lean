/-
  Chapter 09: graph.Build as a plain function of the model.
-/
/-
  Chapter 09: Build's plain function, step by step. No program in sight.
-/
import Derived.Test.YtgbkhcmbmffljaaDoorPGVal
import Derived.Test.YtgbkhcmbmffljaaDoorPGDef
import Derived.Test.YtgbkhcmbmffljaaDoorPGCheck5
import Derived.Test.YtgbkhcmbmffljaaDoorPResB
set_option linter.unusedSimpArgs false
set_option linter.unusedVariables false
namespace Go.Proofs.YtgbkhcmbmffljaaDoor
open Go.RowKit
open Rep (rep)
instance memS (s:ByteArray) (l:List ByteArray):Decidable (s ∈ l):=decidable_of_iff (l.any (fun a=>decide (a = s)) = true) (by simp)
def placeD (names:List ByteArray) (s:ByteArray):Int:=indexFrom (fun a=>decide (a = s)) names 0
theorem index_none {α:Type} (p:α→Bool):∀ (l:List α) (k:Nat),(∀ a ∈ l,p a = false)→indexFrom p l k = -1
 | [],_,_=>rfl
 | a :: l,k,h=>by
  unfold indexFrom
  rw [h a (by simp),if_neg (by decide)]
  exact index_none p l (k + 1) fun b hb=>h b (by simp [hb])
theorem index_app {α:Type} (p:α→Bool) (b:α):∀ (l:List α) (k:Nat),indexFrom p (l++[b]) k = if indexFrom p l k = -1 then (if p b then ((k + l.length:Nat):Int) else -1) else indexFrom p l k
 | [],k=>by
  show (if p b then (k:Int) else -1) = if (-1:Int) = -1 then _ else _
  rw [if_pos rfl]
  rfl
 | a :: l,k=>by
  show indexFrom p (a :: (l++[b])) k = _
  unfold indexFrom
  cases h:p a with
  | true=>simp
  | false =>
   simp only [Bool.false_eq_true,if_false]
   rw [index_app p b l (k + 1),List.length_cons,show k + 1 + l.length = k + (l.length + 1) by omega]
theorem index_some {α:Type} (p:α→Bool):∀ (l:List α) (k:Nat),(∃ a ∈ l,p a = true)→∃ j:Nat,indexFrom p l k = ((k + j:Nat):Int)∧j < l.length∧∃ a,l[j]? = some a∧p a = true
 | [],_,⟨a,h,_⟩=>by simp at h
 | b :: l,k,⟨a,ha,hp⟩=>by
  unfold indexFrom
  cases h:p b with
  | true=>exact ⟨0,by simp,by simp,b,by simp,h⟩
  | false =>
   simp only [Bool.false_eq_true,if_false]
   have hal:a ∈ l:=by
    rcases List.mem_cons.1 ha with rfl | h'
    ·rw [h] at hp;cases hp
    ·exact h'
   obtain ⟨j,h1,h2,c,h3,h4⟩:=index_some p l (k + 1) ⟨a,hal,hp⟩
   exact ⟨j + 1,by rw [h1];congr 1;omega,by simp;omega,c,by simpa using h3,h4⟩
theorem place_out {names:List ByteArray} {s:ByteArray} (h:s ∉ names):placeD names s = -1:=index_none _ _ _ fun a ha=>by
 have:a ≠ s:=fun e=>h (e ▸ ha)
 simp [this]
theorem place_in {names:List ByteArray} {s:ByteArray} (h:s ∈ names):∃ j:Nat,placeD names s = (j:Int)∧names[j]? = some s∧j < names.length:=by
 obtain ⟨j,h1,h2,a,h3,h4⟩:=index_some (fun a=>decide (a = s)) names 0 ⟨s,h,by simp⟩
 have e:a = s:=by simpa using h4
 subst e
 exact ⟨j,by unfold placeD;rw [h1];simp,h3,h2⟩
theorem place_iff (names:List ByteArray) (s:ByteArray):(placeD names s < 0) ↔ s ∉ names:=by
 constructor
 ·intro h hm
  obtain ⟨j,h1,_⟩:=place_in hm
  omega
 ·intro h
  rw [place_out h];decide
theorem place_bd (names:List ByteArray) (s:ByteArray):-1 ≤ placeD names s∧placeD names s < names.length:=by
 have:=indexFrom_bd (fun a=>decide (a = s)) names 0
 unfold placeD
 omega
theorem place_snoc (names:List ByteArray) (x s:ByteArray) (hx:x ∉ names):placeD (names++[x]) s = if s = x then (names.length:Int) else placeD names s:=by
 unfold placeD
 rw [index_app]
 by_cases e:s = x
 ·subst e
  have:=place_out hx
  unfold placeD at this
  rw [this]
  simp
 ·rw [if_neg e]
  have:x ≠ s:=fun h=>e h.symm
  simp only [this,decide_false]
  split
  ·rename_i h;rw [h];rfl
  ·rfl
def tensor0:TensorD:=⟨0,[],[],[],[]⟩
def noVal:ValD:=⟨0,[],false,tensor0⟩
def inputV (v:ValueD):ValD:=⟨v.type,v.dims,false,tensor0⟩
def outV (g:GNodeD):ValD:=if g.op = 61 then constD g.s.value else noVal
def seqI (k n:Nat):List Int:=(List.range n).map fun j=>((k + j:Nat):Int)
theorem seqI_len (k n:Nat):(seqI k n).length = n:=by simp [seqI]
theorem seqI_snoc (k n:Nat):seqI k (n + 1) = seqI k n++[((k + n:Nat):Int)]:=by simp [seqI,List.range_succ]
theorem seqI_mem {k n:Nat} {x:Int}:x ∈ seqI k n ↔ (k:Int) ≤ x∧x < (k:Int) + n:=by
 unfold seqI
 rw [List.mem_map]
 constructor
 ·rintro ⟨j,hj,rfl⟩
  have:=List.mem_range.1 hj
  omega
 ·intro h
  exact ⟨(x - k).toNat,List.mem_range.2 (by omega),by omega⟩
def bareD (i:Nat) (n:NodeD):GNodeD:=⟨(resolveD n).1,(resolveD n).2.1,[],[],(i:Int)⟩
def baresD:Nat→List NodeD→List GNodeD
 | _,[]=>[]
 | i,n :: l=>bareD i n :: baresD (i + 1) l
def wrongAt:Nat→List NodeD→Option (Int × Int)
 | _,[]=>none
 | i,n :: l=>if (resolveD n).2.2 ≠ 0 then some ((resolveD n).2.2,(i:Int)) else wrongAt (i + 1) l
def outsAt:Nat→List NodeD→List (ByteArray × Int)
 | _,[]=>[]
 | i,n :: l=>n.outs.map (fun s=>(s,(i:Int)))++outsAt (i + 1) l
def namesAt (m:ModelD):List (ByteArray × Int):=m.inits.map (fun c=>(c.name,(-1:Int)))++m.inputs.map (fun v=>(v.name,(-1:Int)))++outsAt 0 m.nodes
def firstBad:List ByteArray→List (ByteArray × Int)→Option Int
 | _,[]=>none
 | seen,(s,i) :: l=>if s = ⟨#[]⟩ ∨ s ∈ seen then some i else firstBad (seen++[s]) l
def namesM (m:ModelD):List ByteArray:=m.inits.map (·.name)++m.inputs.map (·.name)++m.nodes.flatMap (·.outs)
def outVals:List NodeD→List GNodeD→List ValD
 | n :: l,g :: r=>n.outs.map (fun _=>outV g)++outVals l r
 | _,_=>[]
def valsM (m:ModelD):List ValD:=m.inits.map (fun c=>constD c.t)++m.inputs.map inputV++outVals m.nodes (baresD 0 m.nodes)
def outedD:Nat→List NodeD→List GNodeD→List GNodeD
 | k,n :: l,g :: r=>{ g with outs:=seqI k n.outs.length } :: outedD (k + n.outs.length) l r
 | _,_,_=>[]
def inedD (names:List ByteArray):List NodeD→List GNodeD→List GNodeD
 | n :: l,g :: r=>{ g with ins:=n.ins.map (placeD names) } :: inedD names l r
 | _,_=>[]
def lacksN (names:List ByteArray) (n:NodeD):Bool:=n.ins.any fun s=>decide (s ≠ ⟨#[]⟩) && decide (s ∉ names)
def firstLack (names:List ByteArray):Nat→List NodeD→Option Int
 | _,[]=>none
 | i,n :: l=>if lacksN names n = true then some (i:Int) else firstLack names (i + 1) l
def lacksOut (names:List ByteArray) (m:ModelD):Bool:=m.outputs.any fun v=>decide (v.name ∉ names)
def gnodesM (m:ModelD):List GNodeD:=inedD (namesM m) m.nodes (outedD (m.inits.length + m.inputs.length) m.nodes (baresD 0 m.nodes))
def readyD (bs:List Bool) (n:GNodeD):Bool:=!n.ins.any (lackD bs)
def orderG:Nat→List Bool→List GNodeD→List GNodeD × List GNodeD
 | 0,_,left=>([],left)
 | k + 1,bs,left =>
  match left.findIdx? (readyD bs) with
  | none=>([],left)
  | some i =>
   match left[i]? with
   | none=>([],left)
   | some n=>(n :: (orderG k (setsT bs n.outs) (left.eraseIdx i)).1,(orderG k (setsT bs n.outs) (left.eraseIdx i)).2)
def inputsM (m:ModelD):List Int:=seqI m.inits.length m.inputs.length
def outputsM (m:ModelD):List Int:=m.outputs.map fun v=>placeD (namesM m) v.name
def emptyG:GraphD:=⟨[],[],[],[]⟩
def startM (m:ModelD):GraphD:=⟨valsM m,[],inputsM m,outputsM m⟩
def leftM (m:ModelD):List GNodeD:=(gnodesM m).filter fun g=>decide (g.op ≠ 61)
def orderM (m:ModelD):List GNodeD × List GNodeD:=orderG (leftM m).length (definedD (startM m)) (leftM m)
def buildD (m:ModelD):GraphD × Int × Int :=
 if checkD m ≠ 0 then (emptyG,checkD m,-1)
 else match wrongAt 0 m.nodes with
  | some (e,i)=>(emptyG,e,i)
  | none =>
   match firstBad [] (namesAt m) with
   | some i=>(emptyG,13,i)
   | none =>
    match firstLack (namesM m) 0 m.nodes with
    | some i=>(emptyG,13,i)
    | none =>
     if lacksOut (namesM m) m = true then (emptyG,13,-1)
     else match (orderM m).2 with
      | z :: _=>(emptyG,12,z.source)
      | []=>({ startM m with nodes:=(orderM m).1 },0,0)
structure SmallM (m:ModelD):Prop where
 nodes:m.nodes.length ≤ 1024
 inits:m.inits.length ≤ 1024
 inputs:m.inputs.length ≤ 64
 outputs:m.outputs.length ≤ 64
 ins:∀ n ∈ m.nodes,n.ins.length ≤ 64
 outs:∀ n ∈ m.nodes,n.outs.length ≤ 64
theorem small_of_check {m:ModelD} (h:checkD m = 0):SmallM m:=by
 unfold checkD at h
 split at h
 ·cases h
 ·split at h
  ·cases h
  ·rename_i h1
   unfold manyM at h1
   simp only [Bool.or_eq_true,not_or,Bool.not_eq_true,decide_eq_false_iff_not,Nat.not_lt] at h1
   obtain ⟨⟨⟨⟨⟨h1,h2⟩,h3⟩,h4⟩,h5⟩,h6⟩:=h1
   have hn:∀ n ∈ m.nodes,manyN n = false:=fun n hn=>by
    have:=List.any_eq_false.1 h3 n hn
    simpa using this
   refine ⟨by omega,by omega,h5.1,h6.1,fun n hm=>?_,fun n hm=>?_⟩ <;>
   ·have:=hn n hm
    unfold manyN at this
    simp only [Bool.or_eq_false_iff,decide_eq_false_iff_not,Nat.not_lt] at this
    omega
end Go.Proofs.YtgbkhcmbmffljaaDoor
set_option linter.unusedSimpArgs false
set_option linter.unusedVariables false
namespace Go.Proofs.YtgbkhcmbmffljaaDoor
theorem bares_len:∀ (l:List NodeD) (i:Nat),(baresD i l).length = l.length
 | [],_=>rfl
 | n :: l,i=>by
  show (baresD (i + 1) l).length + 1 = _
  rw [bares_len l];rfl
theorem bares_snoc (n:NodeD):∀ (l:List NodeD) (i:Nat),baresD i (l++[n]) = baresD i l++[bareD (i + l.length) n]
 | [],_=>rfl
 | a :: l,i=>by
  show bareD i a :: baresD (i + 1) (l++[n]) = _
  rw [bares_snoc n l,List.length_cons,show i + 1 + l.length = i + (l.length + 1) by omega]
  rfl
theorem outVals_snoc (n:NodeD) (g:GNodeD):∀ (l:List NodeD) (r:List GNodeD),l.length = r.length→outVals (l++[n]) (r++[g]) = outVals l r++n.outs.map fun _=>outV g
 | [],[],_=>by simp [outVals]
 | a :: l,b :: r,h=>by
  show a.outs.map (fun _=>outV b)++outVals (l++[n]) (r++[g]) = _
  rw [outVals_snoc n g l r (by simpa using h)]
  show _ = (a.outs.map (fun _=>outV b)++outVals l r)++_
  rw [List.append_assoc]
 | [],_ :: _,h=>by cases h
 | _ :: _,[],h=>by cases h
theorem outed_len:∀ (k:Nat) (l:List NodeD) (r:List GNodeD),l.length = r.length→(outedD k l r).length = l.length
 | _,[],[],_=>rfl
 | k,a :: l,b :: r,h=>by
  show (outedD (k + a.outs.length) l r).length + 1 = _
  rw [outed_len _ l r (by simpa using h)];rfl
 | _,[],_ :: _,h=>by cases h
 | _,_ :: _,[],h=>by cases h
theorem outed_snoc (n:NodeD) (g:GNodeD):∀ (k:Nat) (l:List NodeD) (r:List GNodeD),l.length = r.length→outedD k (l++[n]) (r++[g]) = outedD k l r++[{ g with outs:=seqI (k + (l.flatMap (·.outs)).length) n.outs.length }]
 | _,[],[],_=>rfl
 | k,a :: l,b :: r,h=>by
  show _ :: outedD (k + a.outs.length) (l++[n]) (r++[g]) = _
  rw [outed_snoc n g _ l r (by simpa using h),List.flatMap_cons,List.length_append,Nat.add_assoc]
  rfl
 | _,[],_ :: _,h=>by cases h
 | _,_ :: _,[],h=>by cases h
theorem ined_snoc (N:List ByteArray) (n:NodeD) (g:GNodeD):∀ (l:List NodeD) (r:List GNodeD),l.length = r.length→inedD N (l++[n]) (r++[g]) = inedD N l r++[{ g with ins:=n.ins.map (placeD N) }]
 | [],[],_=>rfl
 | a :: l,b :: r,h=>by
  show _ :: inedD N (l++[n]) (r++[g]) = _
  rw [ined_snoc N n g l r (by simpa using h)]
  rfl
 | [],_ :: _,h=>by cases h
 | _ :: _,[],h=>by cases h
theorem ined_len (N:List ByteArray):∀ (l:List NodeD) (r:List GNodeD),l.length = r.length→(inedD N l r).length = l.length
 | [],[],_=>rfl
 | a :: l,b :: r,h=>by
  show (inedD N l r).length + 1 = _
  rw [ined_len N l r (by simpa using h)];rfl
 | [],_ :: _,h=>by cases h
 | _ :: _,[],h=>by cases h
theorem wrong_cons_bad {n:NodeD} {l:List NodeD} {i:Nat} (h:(resolveD n).2.2 ≠ 0):wrongAt i (n :: l) = some ((resolveD n).2.2,(i:Int)):=by unfold wrongAt;rw [if_pos h]
theorem wrong_cons_ok {n:NodeD} {l:List NodeD} {i:Nat} (h:(resolveD n).2.2 = 0):wrongAt i (n :: l) = wrongAt (i + 1) l:=by
 rw [wrongAt,if_neg (by simpa using h)]
def badS (seen:List ByteArray) (s:ByteArray):Bool:=decide (s = ⟨#[]⟩) || decide (s ∈ seen)
theorem bad_cons {seen:List ByteArray} {s:ByteArray} {i:Int} {l:List (ByteArray × Int)}:firstBad seen ((s,i) :: l) = if badS seen s = true then some i else firstBad (seen++[s]) l:=by
 unfold badS
 rw [firstBad]
 by_cases h:s = ⟨#[]⟩ ∨ s ∈ seen
 ·rw [if_pos h,if_pos (by simpa using h)]
 ·rw [if_neg h,if_neg (by simpa using h)]
theorem lack_cons {N:List ByteArray} {n:NodeD} {l:List NodeD} {i:Nat}:firstLack N i (n :: l) = if lacksN N n = true then some (i:Int) else firstLack N (i + 1) l:=by rw [firstLack]
end Go.Proofs.YtgbkhcmbmffljaaDoor
