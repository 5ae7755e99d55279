/-
  Chapter 09: whether the nodes of a model can be laid one behind the other does not hang on the order in which they stand. No program in sight.
-/
/-
  Chapter 09: what Build takes is sound, and stays so when what is dead is gone. No program in sight.
-/
import Derived.Test.YtgbkhcmbmffljaaDoorPGStep
import Derived.Test.YtgbkhcmbmffljaaDoorPGChk2
import Derived.Test.YtgbkhcmbmffljaaDoorPGReady
set_option linter.unusedSimpArgs false
set_option linter.unusedVariables false
namespace Go.Proofs.YtgbkhcmbmffljaaDoor
def HasB (bs:List Bool) (i:Nat):Prop:=bs[i]? = some true
theorem hasB_getD {bs:List Bool} {i:Nat}:bs.getD i false = true ↔ HasB bs i:=by
 unfold HasB
 rw [List.getD_eq_getElem?_getD]
 cases h:bs[i]? <;> simp
theorem hasB_set {bs:List Bool} {i j:Nat}:HasB (bs.set j true) i ↔ HasB bs i ∨ (i < bs.length∧j = i):=by
 unfold HasB
 rw [List.getElem?_set]
 by_cases e:j = i
 ·subst e
  rw [if_pos rfl]
  by_cases h:j < bs.length
  ·simp [h]
  ·rw [if_neg h]
   simp [List.getElem?_eq_none (Nat.le_of_not_lt h),h]
 ·rw [if_neg e]
  simp [e]
theorem hasB_sets {i:Nat}:∀ (l:List Int) (bs:List Bool),HasB (setsT bs l) i ↔ HasB bs i ∨ (i < bs.length∧∃ x ∈ l,x.toNat = i)
 | [],bs=>by simp [setsT]
 | x :: l,bs=>by
  show HasB (setsT (bs.set x.toNat true) l) i ↔ _
  rw [hasB_sets l,hasB_set,List.length_set]
  simp only [List.mem_cons,exists_eq_or_imp]
  constructor
  ·rintro ((h | ⟨h,e⟩) | ⟨h,y,hy,e⟩)
   ·exact .inl h
   ·exact .inr ⟨h,.inl e⟩
   ·exact .inr ⟨h,.inr ⟨y,hy,e⟩⟩
  ·rintro (h | ⟨h,(e | ⟨y,hy,e⟩)⟩)
   ·exact .inl (.inl h)
   ·exact .inl (.inr ⟨h,e⟩)
   ·exact .inr ⟨h,y,hy,e⟩
theorem hasB_there {i:Nat}:∀ (l:List GNodeD) (bs:List Bool),HasB (thereD bs l) i ↔ HasB bs i ∨ (i < bs.length∧∃ n ∈ l,∃ x ∈ n.outs,x.toNat = i)
 | [],bs=>by simp [thereD]
 | n :: l,bs=>by
  show HasB (thereD (setsT bs n.outs) l) i ↔ _
  rw [hasB_there l,hasB_sets,setsT_len]
  simp only [List.mem_cons,exists_eq_or_imp]
  constructor
  ·rintro ((h | ⟨h,e⟩) | ⟨h,y,hy,e⟩)
   ·exact .inl h
   ·exact .inr ⟨h,.inl e⟩
   ·exact .inr ⟨h,.inr ⟨y,hy,e⟩⟩
  ·rintro (h | ⟨h,(e | ⟨y,hy,e⟩)⟩)
   ·exact .inl (.inl h)
   ·exact .inl (.inr ⟨h,e⟩)
   ·exact .inr ⟨h,y,hy,e⟩
theorem ready_iff {bs:List Bool} {g:GNodeD}:g.ins.any (lackD bs) = false ↔ ∀ x ∈ g.ins,x < 0 ∨ HasB bs x.toNat:=by
 rw [List.any_eq_false]
 refine forall_congr' fun x=>forall_congr' fun _=>?_
 unfold lackD
 rw [← hasB_getD]
 simp only [Bool.and_eq_true,decide_eq_true_eq,Bool.not_eq_true',not_and,Bool.not_eq_false]
 constructor
 ·intro h
  by_cases h0:0 ≤ x
  ·exact .inr (h h0)
  ·exact .inl (by omega)
 ·rintro (h | h) h0
  ·omega
  ·exact h
theorem cons_erase {α:Type} {l:List α} {i:Nat} {z:α} (h:l[i]? = some z):(z :: l.eraseIdx i).Perm l:=by
 have hi:=(List.getElem?_eq_some_iff.1 h).1
 have hz:l[i] = z:=(List.getElem?_eq_some_iff.1 h).2
 rw [List.eraseIdx_eq_take_drop_succ]
 have e:l = l.take i++z :: l.drop (i + 1):=by
  rw [← hz,List.getElem_cons_drop,List.take_append_drop]
 exact (List.perm_middle.symm).trans (by rw [← e])
theorem order_spec:∀ (k:Nat) (bs:List Bool) (left:List GNodeD),left.length ≤ k →
  flowsD bs (orderG k bs left).1∧((orderG k bs left).1++(orderG k bs left).2).Perm left∧∀ g ∈ (orderG k bs left).2,readyD (thereD bs (orderG k bs left).1) g = false
 | 0,bs,left,h=>by
  have:left = []:=List.length_eq_zero_iff.1 (by omega)
  subst this
  exact ⟨trivial,List.Perm.refl _,by simp [orderG]⟩
 | k + 1,bs,left,h=>by
  unfold orderG
  cases hf:left.findIdx? (readyD bs) with
  | none =>
   refine ⟨trivial,List.Perm.refl _,fun g hg=>?_⟩
   have:=List.findIdx?_eq_none_iff.1 hf g hg
   simpa [thereD] using this
  | some i =>
   obtain ⟨hi,hr,-⟩:=List.findIdx?_eq_some_iff_getElem.1 hf
   have hn:left[i]? = some left[i]:=List.getElem?_eq_getElem hi
   simp only [hn]
   have hp:=cons_erase hn
   obtain ⟨h1,h2,h3⟩:=order_spec k (setsT bs left[i].outs) (left.eraseIdx i) (by rw [List.length_eraseIdx,if_pos hi];omega)
   refine ⟨⟨?_,h1⟩,?_,h3⟩
   ·unfold readyD at hr;simpa using hr
   ·exact (List.Perm.cons _ h2).trans hp
def flowsN:(ByteArray→Prop)→List NodeD→Prop
 | _,[]=>True
 | T,n :: l=>(∀ s ∈ n.ins,s = ⟨#[]⟩ ∨ T s)∧flowsN (fun s=>T s ∨ s ∈ n.outs) l
theorem place_inj {N:List ByteArray} {s t:ByteArray} (hs:s ∈ N) (ht:t ∈ N) (h:placeD N s = placeD N t):s = t:=by
 obtain ⟨i,h1,h2,_⟩:=place_in hs
 obtain ⟨j,h3,h4,_⟩:=place_in ht
 have:i = j:=by omega
 subst this
 rw [h2] at h4
 injection h4
structure Named (N:List ByteArray) (g:GNodeD) (n:NodeD):Prop where
 ins:g.ins = n.ins.map (placeD N)
 outs:g.outs = n.outs.map (placeD N)
 inN:∀ s ∈ n.ins,s = ⟨#[]⟩ ∨ s ∈ N
 outN:∀ s ∈ n.outs,s ∈ N
theorem flows_names {γ:Type} (G:γ→GNodeD) (F:γ→NodeD) {N:List ByteArray} (h0:(⟨#[]⟩:ByteArray) ∉ N):∀ (ys:List γ) (bs:List Bool) (T:ByteArray→Prop),bs.length = N.length→(∀ s ∈ N,HasB bs (placeD N s).toNat ↔ T s)→(∀ y ∈ ys,Named N (G y) (F y))→(flowsD bs (ys.map G) ↔ flowsN T (ys.map F))
 | [],_,_,_,_,_=>by simp [flowsD,flowsN]
 | g :: gs,bs,T,hl,hT,hg=>by
  show ((G g).ins.any (lackD bs) = false∧flowsD (setsT bs (G g).outs) (gs.map G)) ↔ ((∀ s ∈ (F g).ins,s = ⟨#[]⟩ ∨ T s)∧flowsN (fun s=>T s ∨ s ∈ (F g).outs) (gs.map F))
  have hN:=hg g (by simp)
  rw [flows_names G F h0 gs (setsT bs (G g).outs) (fun s=>T s ∨ s ∈ (F g).outs) (by rw [setsT_len];exact hl) ?_ (fun x hx=>hg x (by simp [hx])),ready_iff]
  ·refine and_congr_left fun _=>?_
   rw [hN.ins]
   simp only [List.mem_map,forall_exists_index,and_imp,forall_apply_eq_imp_iff₂]
   refine forall_congr' fun s=>forall_congr' fun hs=>?_
   rcases hN.inN s hs with e | hsN
   ·subst e
    rw [place_out h0]
    simp
   ·have hne:s ≠ ⟨#[]⟩:=fun e=>h0 (e ▸ hsN)
    have hp:=fun h=>(place_iff N s).1 h hsN
    rw [hT s hsN]
    simp only [hne,false_or]
    exact ⟨fun h=>h.resolve_left hp,.inr⟩
  ·intro s hs
   rw [hasB_sets,hT s hs,hN.outs]
   refine or_congr_right ?_
   obtain ⟨i,h1,h2,h3⟩:=place_in hs
   constructor
   ·rintro ⟨_,x,hx,e⟩
    obtain ⟨t,ht,rfl⟩:=List.mem_map.1 hx
    have htN:=hN.outN t ht
    obtain ⟨j,k1,_,_⟩:=place_in htN
    rw [← place_inj htN hs (by omega)]
    exact ht
   ·intro h
    exact ⟨by omega,placeD N s,List.mem_map.2 ⟨s,h,rfl⟩,rfl⟩
theorem place_at {N:List ByteArray} (hN:N.Nodup) {s:ByteArray} {i:Nat} (hi:N[i]? = some s):placeD N s = (i:Int):=by
 obtain ⟨j,h1,h2,h3⟩:=place_in (List.mem_of_getElem? hi)
 rw [h1]
 have h4:=(List.getElem?_eq_some_iff.1 hi).1
 have hp:=List.pairwise_iff_getElem.1 hN
 have e1:=(List.getElem?_eq_some_iff.1 hi).2
 have e2:=(List.getElem?_eq_some_iff.1 h2).2
 rcases Nat.lt_trichotomy i j with h | h | h
 ·exact absurd (e1.trans e2.symm) (hp i j h4 h3 h)
 ·rw [h]
 ·exact absurd (e2.trans e1.symm) (hp j i h3 h4 h)
theorem seq_place {N A O R:List ByteArray} (hN:N.Nodup) (e:N = A++(O++R)):O.map (placeD N) = seqI A.length O.length:=by
 apply List.ext_getElem?
 intro j
 by_cases hj:j < O.length
 ·have h1:N[A.length + j]? = some O[j]:=by
   rw [e,List.getElem?_append_right (by omega),Nat.add_sub_cancel_left,List.getElem?_append_left hj,List.getElem?_eq_getElem hj]
  rw [List.getElem?_map,List.getElem?_eq_getElem hj,Option.map_some,place_at hN h1]
  simp [seqI,List.getElem?_range,hj]
 ·rw [List.getElem?_eq_none (by simpa using hj),List.getElem?_eq_none (by rw [seqI_len];omega)]
def gnodeN (N:List ByteArray) (p:NodeD × Nat):GNodeD:=⟨(resolveD p.1).1,(resolveD p.1).2.1,p.1.ins.map (placeD N),p.1.outs.map (placeD N),(p.2:Int)⟩
theorem gnodes_eq {N:List ByteArray} (hN:N.Nodup):∀ (l:List NodeD) (A:List ByteArray) (i:Nat),N = A++l.flatMap (·.outs)→inedD N l (outedD A.length l (baresD i l)) = (l.zipIdx i).map (gnodeN N)
 | [],_,_,_=>rfl
 | n :: l,A,i,e=>by
  rw [List.flatMap_cons] at e
  have h:=gnodes_eq hN l (A++n.outs) (i + 1) (by rw [e,List.append_assoc])
  rw [List.length_append] at h
  show _ :: inedD N l (outedD (A.length + n.outs.length) l (baresD (i + 1) l)) = _
  rw [h,List.zipIdx_cons,List.map_cons]
  congr 1
  unfold gnodeN bareD
  rw [seq_place hN e]
theorem gnodesM_eq {m:ModelD} (hN:(namesM m).Nodup):gnodesM m = m.nodes.zipIdx.map (gnodeN (namesM m)):=by
 have h:=gnodes_eq hN m.nodes (m.inits.map (·.name)++m.inputs.map (·.name)) 0 rfl
 rw [List.length_append,List.length_map,List.length_map] at h
 exact h
def liveN (n:NodeD):Bool:=decide ((resolveD n).1 ≠ 61)
def leftP (m:ModelD):List (NodeD × Nat):=m.nodes.zipIdx.filter fun p=>liveN p.1
theorem leftM_eq {m:ModelD} (hN:(namesM m).Nodup):leftM m = (leftP m).map (gnodeN (namesM m)):=by
 unfold leftM leftP
 rw [gnodesM_eq hN,List.filter_map]
 rfl
theorem leftP_nodes (m:ModelD):(leftP m).map (·.1) = m.nodes.filter liveN:=by
 unfold leftP
 have h:∀ (l:List (NodeD × Nat)),(l.filter fun p=>liveN p.1).map (·.1) = (l.map (·.1)).filter liveN:=fun l=>by
  rw [List.filter_map];rfl
 rw [h]
 congr 1
 simp
def flagsM (m:ModelD):List (ByteArray × Bool):=m.inits.map (fun c=>(c.name,true))++m.inputs.map (fun v=>(v.name,false))++m.nodes.flatMap fun n=>n.outs.map fun s=>(s,!liveN n)
theorem out_flags:∀ (l:List NodeD) (i:Nat),(outVals l (baresD i l)).map (·.const) = (l.flatMap fun n=>n.outs.map fun s=>(s,!liveN n)).map (·.2)
 | [],_=>rfl
 | n :: l,i=>by
  show (n.outs.map (fun _=>outV (bareD i n))++outVals l (baresD (i + 1) l)).map (·.const) = _
  rw [List.map_append,out_flags l (i + 1),List.flatMap_cons,List.map_append,List.map_map,List.map_map]
  congr 1
  refine List.map_congr_left fun s _=>?_
  show (outV (bareD i n)).const = !liveN n
  unfold outV liveN
  show (if (resolveD n).1 = 61 then _ else _:ValD).const = _
  by_cases h:(resolveD n).1 = 61
  ·rw [if_pos h];simp [h,constD]
  ·rw [if_neg h];simp [h,noVal]
theorem vals_flags (m:ModelD):(valsM m).map (·.const) = (flagsM m).map (·.2):=by
 unfold valsM flagsM
 simp only [List.map_append,out_flags,List.map_map]
 rfl
theorem names_flags (m:ModelD):namesM m = (flagsM m).map (·.1):=by
 unfold namesM flagsM
 simp only [List.map_append,List.map_map,List.map_flatMap]
 congr 1
 refine congrArg (fun f=>m.nodes.flatMap f) (funext fun n=>?_)
 rw [show ((fun x:ByteArray × Bool=>x.1) ∘ fun s=>(s,!liveN n)) = id from rfl,List.map_id]
theorem flag_at {P:List (ByteArray × Bool)} (hN:(P.map (·.1)).Nodup) {s:ByteArray} (hs:s ∈ P.map (·.1)):HasB (P.map (·.2)) (placeD (P.map (·.1)) s).toNat ↔ (s,true) ∈ P:=by
 obtain ⟨i,h1,h2,h3⟩:=place_in hs
 rw [h1,Int.toNat_natCast]
 unfold HasB
 rw [List.getElem?_map] at h2 ⊢
 constructor
 ·intro h
  cases hp:P[i]? with
  | none=>rw [hp] at h;cases h
  | some p =>
   rw [hp] at h h2
   simp only [Option.map_some,Option.some.injEq] at h h2
   have:=List.mem_of_getElem? hp
   rwa [show p = (s,true) from Prod.ext h2 h] at this
 ·intro h
  obtain ⟨j,hj⟩:=List.getElem?_of_mem h
  have h4:(P.map (·.1))[j]? = some s:=by rw [List.getElem?_map,hj];rfl
  have h5:=place_at hN h4
  have:i = j:=by omega
  subst this
  rw [hj]
  rfl
def startN (m:ModelD) (s:ByteArray):Prop:=(s,true) ∈ flagsM m ∨ s ∈ m.inputs.map (·.name)
theorem defined_names {m:ModelD} (hN:(namesM m).Nodup) {s:ByteArray} (hs:s ∈ namesM m):HasB (definedD (startM m)) (placeD (namesM m) s).toNat ↔ startN m s:=by
 unfold definedD startN
 rw [hasB_sets]
 show (HasB ((valsM m).map (·.const)) _ ∨ _ < ((valsM m).map (·.const)).length∧∃ x ∈ inputsM m,_) ↔ _
 have e:(m.inputs.map (·.name)).map (placeD (namesM m)) = inputsM m:=by
  have:=seq_place (A:=m.inits.map (·.name)) (O:=m.inputs.map (·.name)) (R:=m.nodes.flatMap (·.outs)) hN (by unfold namesM;rw [List.append_assoc])
  rw [this,List.length_map,List.length_map]
  rfl
 rw [← e,vals_flags]
 have hN':=hN
 have hs':=hs
 rw [names_flags] at hN' hs'
 have h1:=flag_at hN' hs'
 rw [← names_flags] at h1
 rw [h1]
 refine or_congr_right ?_
 obtain ⟨i,h2,h3,h4⟩:=place_in hs
 constructor
 ·rintro ⟨_,x,hx,hxe⟩
  obtain ⟨t,ht,rfl⟩:=List.mem_map.1 hx
  have htN:t ∈ namesM m:=by unfold namesM;simp only [List.mem_append];exact .inl (.inr ht)
  obtain ⟨j,h5,_⟩:=place_in htN
  rw [← place_inj htN hs (by omega)]
  exact ht
 ·intro h
  refine ⟨?_,placeD (namesM m) s,List.mem_map.2 ⟨s,h,rfl⟩,rfl⟩
  rw [List.length_map,← List.length_map (f:=(·.1)),← names_flags]
  omega
structure Sane (m:ModelD):Prop where
 once:(namesM m).Nodup
 named:(⟨#[]⟩:ByteArray) ∉ namesM m
 ins:∀ n ∈ m.nodes,∀ s ∈ n.ins,s = ⟨#[]⟩ ∨ s ∈ namesM m
theorem Sane.node {m:ModelD} (h:Sane m) {p:NodeD × Nat} (hp:p ∈ m.nodes.zipIdx):Named (namesM m) (gnodeN (namesM m) p) p.1:=by
 have hm:p.1 ∈ m.nodes:=by
  have:=List.mem_map_of_mem (f:=(·.1)) hp
  simpa using this
 refine ⟨rfl,rfl,h.ins _ hm,fun s hs=>?_⟩
 unfold namesM
 simp only [List.mem_append,List.mem_flatMap]
 exact .inr ⟨_,hm,hs⟩
theorem vals_len (m:ModelD):(valsM m).length = (namesM m).length:=by
 have h:=congrArg List.length (vals_flags m)
 rw [List.length_map,List.length_map] at h
 rw [h,names_flags,List.length_map]
theorem defined_start_len (m:ModelD):(definedD (startM m)).length = (namesM m).length:=by
 rw [definedD_len]
 exact vals_len m
theorem Sane.flows {m:ModelD} (h:Sane m) {ys:List (NodeD × Nat)} (hy:∀ p ∈ ys,p ∈ m.nodes.zipIdx):flowsD (definedD (startM m)) (ys.map (gnodeN (namesM m))) ↔ flowsN (startN m) (ys.map (·.1)) :=
 flows_names (gnodeN (namesM m)) (·.1) h.named ys _ _ (defined_start_len m) (fun s hs=>defined_names h.once hs) fun p hp=>h.node (hy p hp)
theorem left_sub {m:ModelD} {p:NodeD × Nat} (h:p ∈ leftP m):p ∈ m.nodes.zipIdx:=(List.mem_filter.1 h).1
theorem bad_none:∀ (l:List (ByteArray × Int)) (seen:List ByteArray),firstBad seen l = none ↔ (∀ p ∈ l,p.1 ≠ ⟨#[]⟩∧p.1 ∉ seen)∧(l.map (·.1)).Nodup
 | [],_=>by simp [firstBad]
 |(s,i) :: l,seen=>by
  unfold firstBad
  by_cases h:s = ⟨#[]⟩ ∨ s ∈ seen
  ·rw [if_pos h]
   constructor
   ·intro h';cases h'
   ·rintro ⟨h1,_⟩
    have:=h1 (s,i) (by simp)
    rcases h with h | h
    ·exact absurd h this.1
    ·exact absurd h this.2
  ·rw [if_neg h,bad_none l]
   rw [not_or] at h
   simp only [List.map_cons,List.nodup_cons,List.mem_cons,List.mem_append,List.not_mem_nil,or_false,forall_eq_or_imp,List.mem_map,not_exists,not_and,not_or]
   constructor
   ·rintro ⟨h1,h2⟩
    exact ⟨⟨h,fun p hp=>⟨(h1 p hp).1,(h1 p hp).2.1⟩⟩,fun p hp e=>(h1 p hp).2.2 e,h2⟩
   ·rintro ⟨⟨_,h1⟩,h2,h3⟩
    exact ⟨fun p hp=>⟨(h1 p hp).1,(h1 p hp).2,fun e=>h2 p hp e⟩,h3⟩
theorem namesAt_names (m:ModelD):(namesAt m).map (·.1) = namesM m:=by
 have h:∀ (l:List NodeD) (i:Nat),(outsAt i l).map (·.1) = l.flatMap (·.outs):=fun l=>by
  induction l with
  | nil=>intro i;rfl
  | cons n l ih =>
   intro i
   show (n.outs.map _++outsAt (i + 1) l).map _ = _
   rw [List.map_append,ih,List.flatMap_cons,List.map_map]
   congr 1
   exact List.map_id _
 unfold namesAt namesM
 rw [List.map_append,List.map_append,List.map_map,List.map_map,h]
 rfl
theorem bad_iff (m:ModelD):firstBad [] (namesAt m) = none ↔ (namesM m).Nodup∧(⟨#[]⟩:ByteArray) ∉ namesM m:=by
 rw [bad_none,namesAt_names,and_comm]
 refine and_congr_right fun _=>?_
 rw [← namesAt_names,List.mem_map]
 constructor
 ·rintro h ⟨p,hp,e⟩
  exact (h p hp).1 e
 ·intro h p hp
  exact ⟨fun e=>h ⟨p,hp,e⟩,by simp⟩
theorem wrong_none:∀ (l:List NodeD) (i:Nat),wrongAt i l = none ↔ ∀ n ∈ l,(resolveD n).2.2 = 0
 | [],_=>by simp [wrongAt]
 | n :: l,i=>by
  unfold wrongAt
  by_cases h:(resolveD n).2.2 = 0
  ·rw [if_neg (by simpa using h),wrong_none l]
   simp [h]
  ·rw [if_pos h]
   simp [h]
theorem lack_none (N:List ByteArray):∀ (l:List NodeD) (i:Nat),firstLack N i l = none ↔ ∀ n ∈ l,∀ s ∈ n.ins,s = ⟨#[]⟩ ∨ s ∈ N
 | [],_=>by simp [firstLack]
 | n :: l,i=>by
  have e:lacksN N n = false ↔ ∀ s ∈ n.ins,s = ⟨#[]⟩ ∨ s ∈ N:=by
   unfold lacksN
   rw [List.any_eq_false]
   refine forall_congr' fun s=>forall_congr' fun _=>?_
   simp only [Bool.and_eq_true,decide_eq_true_eq,not_and,Classical.not_not]
   exact ⟨fun h=>Classical.byCases .inl fun h'=>.inr (h h'),fun h h'=>h.resolve_left h'⟩
  unfold firstLack
  cases h:lacksN N n with
  | true =>
   rw [if_pos rfl]
   simp only [List.mem_cons,forall_eq_or_imp,reduceCtorEq,false_iff,not_and]
   intro h'
   rw [e.2 h'] at h
   cases h
  | false =>
   rw [if_neg (by decide),lack_none N l]
   simp only [List.mem_cons,forall_eq_or_imp]
   exact ⟨fun h'=>⟨e.1 h,h'⟩,fun h'=>h'.2⟩
theorem lacksOut_iff (N:List ByteArray) (m:ModelD):lacksOut N m = false ↔ ∀ v ∈ m.outputs,v.name ∈ N:=by
 unfold lacksOut
 rw [List.any_eq_false]
 simp
structure TakenM (m:ModelD):Prop where
 check:checkD m = 0
 right:∀ n ∈ m.nodes,(resolveD n).2.2 = 0
 sane:Sane m
 outs:∀ v ∈ m.outputs,v.name ∈ namesM m
 laid:(orderM m).2 = []
theorem build_taken {m:ModelD} (h:TakenM m):buildD m = ({ startM m with nodes:=(orderM m).1 },0,0):=by
 unfold buildD
 rw [if_neg (by simpa using h.check),(wrong_none _ _).2 h.right]
 simp only
 rw [(bad_iff m).2 ⟨h.sane.once,h.sane.named⟩]
 simp only
 rw [(lack_none _ _ _).2 h.sane.ins]
 simp only
 rw [if_neg (by rw [(lacksOut_iff _ _).2 h.outs];decide),h.laid]
theorem build_not {m:ModelD} (h:¬ TakenM m):(buildD m).1 = emptyG∧(buildD m).2.1 ≠ 0:=by
 unfold buildD
 by_cases h1:checkD m = 0
 ·rw [if_neg (by simpa using h1)]
  cases h2:wrongAt 0 m.nodes with
  | some p =>
   obtain ⟨e,i⟩:=p
   refine ⟨rfl,?_⟩
   have hw:∀ (l:List NodeD) (k:Nat),wrongAt k l = some (e,i)→e ≠ 0:=fun l=>by
    induction l with
    | nil=>intro k h;cases h
    | cons n l ih =>
     intro k h
     unfold wrongAt at h
     split at h
     ·rename_i h'
      simp only [Option.some.injEq,Prod.mk.injEq] at h
      rw [← h.1];exact h'
     ·exact ih _ h
   exact hw _ _ h2
  | none =>
   simp only
   cases h3:firstBad [] (namesAt m) with
   | some i=>exact ⟨rfl,by show (13:Int) ≠ 0;decide⟩
   | none =>
    simp only
    cases h4:firstLack (namesM m) 0 m.nodes with
    | some i=>exact ⟨rfl,by show (13:Int) ≠ 0;decide⟩
    | none =>
     simp only
     by_cases h5:lacksOut (namesM m) m = true
     ·rw [if_pos h5];exact ⟨rfl,by show (13:Int) ≠ 0;decide⟩
     ·rw [if_neg h5]
      cases h6:(orderM m).2 with
      | cons z r=>exact ⟨rfl,by show (12:Int) ≠ 0;decide⟩
      | nil =>
       exfalso
       have h7:=(bad_iff m).1 h3
       exact h ⟨h1,(wrong_none _ _).1 h2,⟨h7.1,h7.2,(lack_none _ _ _).1 h4⟩,(lacksOut_iff _ _).1 (by simpa using h5),h6⟩
 ·rw [if_pos h1];exact ⟨rfl,h1⟩
end Go.Proofs.YtgbkhcmbmffljaaDoor
set_option linter.unusedSimpArgs false
set_option linter.unusedVariables false
namespace Go.Proofs.YtgbkhcmbmffljaaDoor
def keepD:List GNodeD→List Bool→List GNodeD
 | n :: l,b :: bs=>if b = true then n :: keepD l bs else keepD l bs
 | _,_=>[]
def pruneD (g:GraphD):GraphD:={ g with nodes:=keepD g.nodes (liveD g) }
theorem liveS_cons (n:GNodeD) (l:List GNodeD) (want:Int→Bool):liveS (n :: l) want = liveStep n (liveS l want):=rfl
theorem keep_sub:∀ (l:List GNodeD) (bs:List Bool),(keepD l bs).Sublist l
 | [],[]=>List.Sublist.refl _
 | [],_ :: _=>List.Sublist.refl _
 | _ :: _,[]=>List.nil_sublist _
 | n :: l,b :: bs=>by
  unfold keepD
  split
  ·exact (keep_sub l bs).cons_cons n
  ·exact (keep_sub l bs).cons n
def cntS (s:ByteArray) (l:List ByteArray):Nat:=l.countP fun a=>decide (a = s)
theorem cnt_append (s:ByteArray) (l r:List ByteArray):cntS s (l++r) = cntS s l + cntS s r:=by unfold cntS;rw [List.countP_append]
theorem cnt_perm (s:ByteArray) {l r:List ByteArray} (h:l.Perm r):cntS s l = cntS s r:=h.countP_eq _
theorem cnt_once {s:ByteArray}:∀ {l:List ByteArray},l.Nodup→cntS s l ≤ 1
 | [],_=>by simp [cntS]
 | a :: l,h=>by
  rw [List.nodup_cons] at h
  have ih:=cnt_once (s:=s) h.2
  unfold cntS at ih ⊢
  rw [List.countP_cons]
  by_cases e:a = s
  ·subst e
   have:l.countP (fun b=>decide (b = a)) = 0:=by
    rw [List.countP_eq_zero]
    intro b hb e'
    rw [decide_eq_true_eq] at e'
    exact h.1 (e' ▸ hb)
   rw [this];simp
  ·simp only [e,decide_false,Bool.false_eq_true,if_false]
   omega
theorem cnt_mem {s:ByteArray} {l:List ByteArray} (h:s ∈ l):1 ≤ cntS s l:=by
 unfold cntS
 exact List.countP_pos_iff.2 ⟨s,h,by simp⟩
theorem count_place {N:List ByteArray} {s:ByteArray} (hs:s ∈ N):∀ L:List ByteArray,(∀ t ∈ L,t ∈ N)→(L.map (placeD N)).count (placeD N s) = cntS s L
 | [],_=>rfl
 | t :: L,h=>by
  have ih:=count_place hs L fun u hu=>h u (by simp [hu])
  unfold cntS at ih ⊢
  rw [List.map_cons,List.count_cons,List.countP_cons,ih]
  congr 1
  by_cases e:t = s
  ·subst e;simp
  ·have:placeD N t ≠ placeD N s:=fun e'=>e (place_inj (h t (by simp)) hs e')
   simp [e,this]
theorem flat_perm {l r:List GNodeD} (h:l.Perm r):(l.flatMap (·.outs)).Perm (r.flatMap (·.outs)):=List.Perm.flatMap_right _ h
theorem left_outs (m:ModelD):((leftP m).map (gnodeN (namesM m))).flatMap (·.outs) = ((m.nodes.filter liveN).flatMap (·.outs)).map (placeD (namesM m)):=by
 rw [← leftP_nodes,List.map_flatMap,List.flatMap_map,List.flatMap_map]
 rfl
theorem split_live:∀ l:List NodeD,(l.flatMap (·.outs)).Perm ((l.filter liveN).flatMap (·.outs)++(l.filter fun n=>!liveN n).flatMap (·.outs))
 | []=>List.Perm.refl _
 | n :: l=>by
  have ih:=split_live l
  cases h:liveN n with
  | true =>
   rw [List.filter_cons_of_pos h,List.filter_cons_of_neg (by simp [h]),List.flatMap_cons,List.flatMap_cons,List.append_assoc]
   exact List.Perm.append_left _ ih
  | false =>
   rw [List.filter_cons_of_neg (by simp [h]),List.filter_cons_of_pos (by simp [h]),List.flatMap_cons,List.flatMap_cons]
   refine (List.Perm.append_left _ ih).trans ?_
   rw [← List.append_assoc,← List.append_assoc]
   exact List.Perm.append_right _ List.perm_append_comm
theorem flag_where {m:ModelD} {s:ByteArray} (h:(s,true) ∈ flagsM m):s ∈ m.inits.map (·.name)++(m.nodes.filter fun n=>!liveN n).flatMap (·.outs):=by
 unfold flagsM at h
 simp only [List.mem_append,List.mem_map,List.mem_flatMap,List.mem_filter,Prod.mk.injEq,Bool.false_eq_true,and_false,exists_false,or_false] at h ⊢
 rcases h with ⟨c,hc,e,_⟩ | ⟨n,hn,t,ht,e,hl⟩
 ·exact .inl ⟨c,hc,e⟩
 ·exact .inr ⟨n,⟨hn,hl⟩,e ▸ ht⟩
section
variable {m:ModelD}
theorem taken_perm_left (h:TakenM m):(orderM m).1.Perm ((leftP m).map (gnodeN (namesM m)))∧flowsD (definedD (startM m)) (orderM m).1:=by
 obtain ⟨h1,h2,h3⟩:=order_spec (leftM m).length (definedD (startM m)) (leftM m) (Nat.le_refl _)
 have e:(orderG (leftM m).length (definedD (startM m)) (leftM m)).2 = []:=h.laid
 rw [e,List.append_nil] at h2
 rw [← leftM_eq h.sane.once]
 exact ⟨h2,h1⟩
theorem taken_node (h:TakenM m) {g:GNodeD} (hg:g ∈ (orderM m).1):∃ n ∈ m.nodes,Named (namesM m) g n:=by
 obtain ⟨p,hp,rfl⟩:=List.mem_map.1 ((taken_perm_left h).1.mem_iff.1 hg)
 refine ⟨p.1,?_,h.sane.node (left_sub hp)⟩
 have:=List.mem_map_of_mem (f:=(·.1)) (left_sub hp)
 simpa using this
theorem places_in {N:List ByteArray} {L:List ByteArray} (h:∀ s ∈ L,s ∈ N):∀ k ∈ L.map (placeD N),0 ≤ k∧k < N.length:=by
 intro k hk
 obtain ⟨s,hs,rfl⟩:=List.mem_map.1 hk
 obtain ⟨j,h1,_,h2⟩:=place_in (h s hs)
 omega
theorem inputs_places (h:(namesM m).Nodup):inputsM m = (m.inputs.map (·.name)).map (placeD (namesM m)):=by
 have:=seq_place (A:=m.inits.map (·.name)) (O:=m.inputs.map (·.name)) (R:=m.nodes.flatMap (·.outs)) h (by unfold namesM;rw [List.append_assoc])
 rw [this,List.length_map,List.length_map]
 rfl
theorem in_inputs {s:ByteArray} (h:s ∈ m.inputs.map (·.name)):s ∈ namesM m:=by unfold namesM;simp only [List.mem_append];exact .inl (.inr h)
theorem all_there (h:TakenM m) {s:ByteArray} (hs:s ∈ namesM m):HasB (thereD (definedD (startM m)) (orderM m).1) (placeD (namesM m) s).toNat:=by
 rw [hasB_there,defined_names h.sane.once hs]
 unfold startN
 have hs':=hs
 unfold namesM at hs'
 simp only [List.mem_append,List.mem_flatMap] at hs'
 rcases hs' with (h1 | h1) | ⟨n,hn,hso⟩
 ·refine .inl (.inl ?_)
  obtain ⟨c,hc,rfl⟩:=List.mem_map.1 h1
  unfold flagsM
  simp only [List.mem_append,List.mem_map]
  exact .inl (.inl ⟨c,hc,rfl⟩)
 ·exact .inl (.inr h1)
 ·cases hl:liveN n with
  | false =>
   refine .inl (.inl ?_)
   unfold flagsM
   simp only [List.mem_append,List.mem_flatMap,List.mem_map]
   exact .inr ⟨n,hn,s,hso,by rw [hl];rfl⟩
  | true =>
   refine .inr ⟨?_,?_⟩
   ·obtain ⟨j,h1,_,h2⟩:=place_in hs
    rw [defined_start_len]
    omega
   ·have hm:n ∈ (leftP m).map (·.1):=by rw [leftP_nodes];exact List.mem_filter.2 ⟨hn,hl⟩
    obtain ⟨p,hp,rfl⟩:=List.mem_map.1 hm
    exact ⟨gnodeN (namesM m) p,(taken_perm_left h).1.mem_iff.2 (List.mem_map_of_mem hp),_,List.mem_map.2 ⟨s,hso,rfl⟩,rfl⟩
theorem const_flag {k:Nat} (hk:k < (valsM m).length):((valsM m).map constN).getD k 0 = if ((flagsM m).map (·.2))[k]? = some true then 1 else 0:=by
 rw [← vals_flags,List.getElem?_map,List.getD_eq_getElem?_getD,List.getElem?_map,List.getElem?_eq_getElem hk]
 show constN _ = if some ((valsM m)[k].const) = some true then 1 else 0
 unfold constN
 simp only [Option.some.injEq]
theorem build_sound (h:TakenM m):SoundD (buildD m).1:=by
 rw [build_taken h]
 obtain ⟨hp,hf⟩:=taken_perm_left h
 have hl:(valsM m).length = (namesM m).length:=vals_len m
 refine ⟨?_,?_,?_,?_,?_,hf,?_⟩
 ·show ∀ k ∈ inputsM m,0 ≤ k∧k < ((valsM m).length:Int)
  rw [hl,inputs_places h.sane.once]
  exact places_in fun s hs=>in_inputs hs
 ·show ∀ k ∈ outputsM m,0 ≤ k∧k < ((valsM m).length:Int)
  rw [hl]
  have e:outputsM m = (m.outputs.map (·.name)).map (placeD (namesM m)):=by unfold outputsM;rw [List.map_map];rfl
  rw [e]
  refine places_in fun s hs=>?_
  obtain ⟨v,hv,rfl⟩:=List.mem_map.1 hs
  exact h.outs v hv
 ·show ∀ g ∈ (orderM m).1,∀ k ∈ g.outs,0 ≤ k∧k < ((valsM m).length:Int)
  rw [hl]
  intro g hg
  obtain ⟨n,hn,hN⟩:=taken_node h hg
  rw [hN.outs]
  exact places_in hN.outN
 ·show ∀ g ∈ (orderM m).1,∀ k ∈ g.ins,-1 ≤ k∧k < ((valsM m).length:Int)
  rw [hl]
  intro g hg k hk
  obtain ⟨n,hn,hN⟩:=taken_node h hg
  rw [hN.ins] at hk
  obtain ⟨s,_,rfl⟩:=List.mem_map.1 hk
  exact place_bd _ s
 ·show ∀ k < (valsM m).length,((valsM m).map constN).getD k 0 + (inputsM m++(orderM m).1.flatMap (·.outs)).count (k:Int) ≤ 1
  intro k hk
  have hkN:k < (namesM m).length:=by omega
  have hs:(namesM m)[k]? = some (namesM m)[k]:=List.getElem?_eq_getElem hkN
  obtain ⟨s,hse⟩:∃ s,(namesM m)[k] = s:=⟨_,rfl⟩
  rw [hse] at hs
  have hsN:=List.mem_of_getElem? hs
  have hpl:=place_at h.sane.once hs
  rw [const_flag hk,List.count_append,(flat_perm hp).count_eq,left_outs,inputs_places h.sane.once,← hpl,count_place hsN _ (fun t ht=>in_inputs ht),count_place hsN _ (fun t ht=>by
   unfold namesM
   obtain ⟨n,hn,ht⟩:=List.mem_flatMap.1 ht
   simp only [List.mem_append,List.mem_flatMap]
   exact .inr ⟨n,(List.mem_filter.1 hn).1,ht⟩)]
  have h1:=cnt_once (s:=s) h.sane.once
  unfold namesM at h1
  rw [cnt_append,cnt_append,cnt_perm s (split_live m.nodes),cnt_append] at h1
  split
  ·rename_i hfl
   have h2:HasB ((flagsM m).map (·.2)) k:=hfl
   have hN':=h.sane.once
   have hs':=hsN
   rw [names_flags] at hN' hs'
   have h3:=flag_at hN' hs'
   rw [← names_flags,hpl,Int.toNat_natCast] at h3
   have h4:=cnt_mem (flag_where (h3.1 h2))
   rw [cnt_append] at h4
   omega
  ·omega
 ·show (outputsM m).any (lackD (thereD (definedD (startM m)) (orderM m).1)) = false
  refine (ready_iff (g:=⟨0,(resolveD ⟨⟨#[]⟩,⟨#[]⟩,[],[],[]⟩).2.1,outputsM m,[],0⟩)).2 fun x hx=>?_
  obtain ⟨v,hv,rfl⟩:=List.mem_map.1 hx
  exact .inr (all_there h (h.outs v hv))
end
end Go.Proofs.YtgbkhcmbmffljaaDoor
