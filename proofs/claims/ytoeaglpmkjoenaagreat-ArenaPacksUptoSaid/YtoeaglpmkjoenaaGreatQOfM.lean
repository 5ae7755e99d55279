/-
  Chapter 10, a graph's types and shapes: the values' row, written node by node. No condition.
-/
import Derived.Test.YtoeaglpmkjoenaaGreatQGiven
import Derived.Test.YtoeaglpmkjoenaaGreatQGCp
set_option linter.unusedSimpArgs false
set_option linter.unusedVariables false
namespace Go.Proofs.YtoeaglpmkjoenaaGreat
open Go.RowKit
open Rep (rep)
theorem take_put {α:Type} (cur zc:List α) {a s m:Nat} (hs:zc.length = s) (hm:a + s ≤ m) (hl:m ≤ cur.length):(cur.take a++zc++cur.drop (a + s)).take m = (cur.take m).take a++zc++(cur.take m).drop (a + s):=by
 have h1:(cur.take a++zc).length = a + s:=by rw [List.length_append,List.length_take,hs,Nat.min_eq_left (by omega)]
 rw [List.take_append,h1,List.take_of_length_le (by rw [h1];exact hm),List.take_take,Nat.min_eq_left (by omega),List.drop_take]
theorem own_put {w:World} {base:Nat} {e:TypeId} {size:Nat} {v:Value} {n k:Nat} {xs zc:List Value} (h:w.ownsRow base e size v n xs) (hk:k < n) (hl:zc.length = size) :
  ∃ (g cap:Nat) (cur:List Value),v = .slice (some ⟨g,0,none⟩) n cap∧base ≤ g∧g < w.heap.size∧n ≤ cap∧cap ≤ maxLen∧w.heap[g]? = some (.cells cur.toArray e (0,0))∧k * size + zc.length ≤ cur.length ∧
   (w.setRow g (cur.take (k * size)++zc++cur.drop (k * size + zc.length)).toArray).ownsRow base e size v n (xs.take (k * size)++zc++xs.drop (k * size + zc.length)):=by
 obtain ⟨h1,h2⟩:=h
 rcases h2 with ⟨hv,h0⟩ | ⟨g,cap,cur,hv,hb,hh,h3,h4,h5,h6⟩
 ·omega
 ·have e1:k * size + size ≤ n * size:=by rw [← Nat.succ_mul];exact Nat.mul_le_mul_right _ hk
  have e2:n * size ≤ cap * size:=Nat.mul_le_mul_right _ h3
  have e3:cur.toList.length = cap * size:=by rw [Array.length_toList];exact h5
  refine ⟨g,cap,cur.toList,hv,hb,(Array.getElem?_eq_some_iff.1 hh).1,h3,h4,by simpa using hh,by omega,?_⟩
  have e4:(cur.toList.take (k * size)++zc++cur.toList.drop (k * size + zc.length)).length = cap * size:=by
   rw [List.length_append,List.length_append,List.length_take,List.length_drop,e3,hl];omega
  refine ⟨?_,.inr ⟨g,cap,(cur.toList.take (k * size)++zc++cur.toList.drop (k * size + zc.length)).toArray,hv,hb,heap_setRow _ _ _ _ _ hh,h3,h4,by simpa using e4,?_⟩⟩
  ·rw [List.length_append,List.length_append,List.length_take,List.length_drop,h1,hl];omega
  ·rw [hl]
   show (cur.toList.take (k * size)++zc++cur.toList.drop (k * size + size)).take (n * size) = _
   rw [take_put cur.toList zc hl e1 (by rw [e3];exact e2),h6]
theorem Chunks.put {α:Type} [Rep α] {w:World} {Z:Zone} {zc:List Value} {z:α} (hz:rep w Z zc z):∀ {l:List α} {xs:List Value} {k:Nat},Chunks w Z xs l→k < l.length→Chunks w Z (xs.take (k * Rep.size α)++zc++xs.drop (k * Rep.size α + zc.length)) (l.set k z)
 | [],_,_,_,hk=>by simp at hk
 | a :: l,xs,0,⟨c,r,hx,hc,hr⟩,_=>by
  have h1:=Rep.len hc
  have h2:=Rep.len hz
  subst hx
  refine ⟨zc,r,?_,hz,hr⟩
  rw [Nat.zero_mul,List.take_zero,List.nil_append,Nat.zero_add,List.drop_append_of_le_length (by omega),List.drop_of_length_le (by omega),List.nil_append]
 | a :: l,xs,k + 1,⟨c,r,hx,hc,hr⟩,hk=>by
  have h1:=Rep.len hc
  subst hx
  refine ⟨c,_,?_,hc,Chunks.put hz hr (by simpa using hk)⟩
  have e:(k + 1) * Rep.size α = c.length + k * Rep.size α:=by rw [h1,Nat.succ_mul,Nat.add_comm]
  rw [e,List.take_append,List.take_of_length_le (by omega),Nat.add_sub_cancel_left,Nat.add_assoc,List.drop_append,List.drop_of_length_le (by omega),List.nil_append,show c.length + (k * Rep.size α + zc.length) - c.length = k * Rep.size α + zc.length by omega]
  simp only [List.append_assoc]
structure OfI (w:World) (vV vN vI vO:Value) (g:GraphD) (h:List ValD) (xs:List Value) (W:World):Prop where
 below:Below w.heap.size w W
 box:W.heap[w.heap.size]? = some (.cells ([vV,vN,vI,vO]:List Value).toArray 26 (0,0))
 res:W.heap[w.heap.size + 1]? = some (.cells ([.slice none 0 0,.slice none 0 0,.slice none 0 0,.slice none 0 0]:List Value).toArray 26 (0,0))
 own:W.ownsRow (w.heap.size + 2) 45 8 vV h.length xs
 ch:Chunks W (Zr (w.heap.size + 2) W.heap.size vV) xs h
 nodes:rep W (Zr (w.heap.size + 2) W.heap.size vV) [vN] g.nodes
 ins:rep W (Zr (w.heap.size + 2) W.heap.size vV) [vI] g.inputs
 outs:rep W (Zr (w.heap.size + 2) W.heap.size vV) [vO] g.outputs
section
variable {w W W':World} {vV vN vI vO:Value} {g:GraphD} {h:List ValD} {xs:List Value}
theorem OfI.lt (d:OfI w vV vN vI vO g h xs W):w.heap.size + 1 < W.heap.size:=(Array.getElem?_eq_some_iff.1 d.res).1
theorem zr_le {n m m':Nat} {v:Value} (hm:m ≤ m'):(Zr n m v).le (Zr n m' v):=⟨fun b (hb:n ≤ b∧b < m∧v.ownBlock ≠ some b)=>⟨hb.1,Nat.lt_of_lt_of_le hb.2.1 hm,hb.2.2⟩,fun e=>by cases e⟩
theorem zr_old {n m m':Nat} {v:Value} (hm:m ≤ m'):(Zr n m v).le (old m'):=⟨fun b (hb:n ≤ b∧b < m∧v.ownBlock ≠ some b)=>Nat.lt_of_lt_of_le hb.2.1 hm,fun e=>by cases e⟩
theorem zr_keep {n m:Nat} {v:Value} (hb:Below m W W'):Keeps (Zr n m v) W W':=Keeps.of_below hb fun k (hk:n ≤ k∧k < m∧v.ownBlock ≠ some k)=>hk.2.1
theorem OfI.next (d:OfI w vV vN vI vO g h xs W) (hb:Below W.heap.size W W'):OfI w vV vN vI vO g h xs W':=by
 have hl:=d.lt
 exact ⟨d.below.trans (hb.mono (by omega)),(hb.block _ (by omega)).trans d.box,(hb.block _ hl).trans d.res,own_below d.own hb,Chunks.more (zr_le hb.size) (Chunks.keep (zr_keep hb) d.ch),Rep.more (Rep.keep d.nodes (zr_keep hb)) (zr_le hb.size),Rep.more (Rep.keep d.ins (zr_keep hb)) (zr_le hb.size),Rep.more (Rep.keep d.outs (zr_keep hb)) (zr_le hb.size)⟩
theorem OfI.cell (d:OfI w vV vN vI vO g h xs W) {j:Nat} {u:Value} (hu:([vV,vN,vI,vO]:List Value)[j]? = some u):W.cell? ⟨w.heap.size,j,none⟩ = some u:=cell_row d.box hu
theorem OfI.put (d:OfI w vV vN vI vO g h xs W) {k:Nat} (hk:k < h.length) {zc:List Value} {z:ValD} (hz:rep W (Zr (w.heap.size + 2) W.heap.size vV) zc z) :
  ∃ (b cap:Nat) (cur:List Value),vV = .slice (some ⟨b,0,none⟩) h.length cap∧w.heap.size + 2 ≤ b∧b < W.heap.size∧h.length ≤ cap∧cap ≤ maxLen∧W.heap[b]? = some (.cells cur.toArray 45 (0,0))∧k * 8 + zc.length ≤ cur.length ∧
   OfI w vV vN vI vO g (h.set k z) (xs.take (k * 8)++zc++xs.drop (k * 8 + zc.length)) (W.setRow b (cur.take (k * 8)++zc++cur.drop (k * 8 + zc.length)).toArray) ∧
   ∀ q,q ≠ b→(W.setRow b (cur.take (k * 8)++zc++cur.drop (k * 8 + zc.length)).toArray).heap[q]? = W.heap[q]?:=by
 have hzl:zc.length = 8:=Rep.len hz
 obtain ⟨b,cap,cur,hv,hb0,hb1,h3,h4,hh,hfit,hown⟩:=own_put d.own hk hzl
 have ho:vV.ownBlock = some b:=by rw [hv];rfl
 have hkeep:Keeps (Zr (w.heap.size + 2) W.heap.size vV) W (W.setRow b (cur.take (k * 8)++zc++cur.drop (k * 8 + zc.length)).toArray) :=
  Keeps.of_block fun q (hq:w.heap.size + 2 ≤ q∧q < W.heap.size∧vV.ownBlock ≠ some q)=>heap_setRow_other _ _ _ _ (fun e=>hq.2.2 (by rw [ho,e]))
 have hne:∀ q,q ≠ b→(W.setRow b (cur.take (k * 8)++zc++cur.drop (k * 8 + zc.length)).toArray).heap[q]? = W.heap[q]?:=fun q hq=>heap_setRow_other _ _ _ _ hq
 refine ⟨b,cap,cur,hv,hb0,hb1,h3,h4,hh,hfit,⟨below_setRow' d.below (by omega) _,(hne _ (by omega)).trans d.box,(hne _ (by omega)).trans d.res,by rw [List.length_set];exact hown,?_,?_,?_,?_⟩,hne⟩
 all_goals rw [size_setRow]
 ·exact Chunks.put (Rep.keep hz hkeep) (Chunks.keep hkeep d.ch) hk
 ·exact Rep.keep d.nodes hkeep
 ·exact Rep.keep d.ins hkeep
 ·exact Rep.keep d.outs hkeep
theorem OfI.elem (d:OfI w vV vN vI vO g h xs W) {k:Nat} {v:ValD} (hk:h[k]? = some v) :
  ∃ (b cap:Nat) (zc:List Value),vV = .slice (some ⟨b,0,none⟩) h.length cap∧w.heap.size + 2 ≤ b∧b < W.heap.size∧rep W (Zr (w.heap.size + 2) W.heap.size vV) zc v∧At W b (k * 8) zc:=by
 have hl:=(List.getElem?_eq_some_iff.1 hk).1
 obtain ⟨zc,hz,hc⟩:=Chunks.get d.ch hk
 obtain ⟨b,cap,cur,hv,h1,h2,h3,h4,hh,hf,-⟩:=own_put (zc:=zc) d.own hl (Rep.len hz)
 refine ⟨b,cap,zc,hv,h1,h2,hz,fun j u hu=>?_⟩
 have hx:=hc j u hu
 have:=d.own.cells (g:=b) (by rw [hv];rfl) _ _ hx
 rwa [show (⟨b,0,none⟩:Addr).add (k * Rep.size ValD + j) = ⟨b,k * 8 + j,none⟩ by unfold Addr.add;split <;> simp_all [Rep.size]] at this
theorem OfI.slice (d:OfI w vV vN vI vO g h xs W):∃ A c,vV = .slice A h.length c∧h.length ≤ c∧c ≤ 9223372036854775807:=by
 rcases d.own.2 with ⟨hv,h0⟩ | ⟨b,cap,cur,hv,hb,hh,h3,h4,h5,h6⟩
 ·exact ⟨none,0,by rw [hv,h0],by omega,by omega⟩
 ·exact ⟨_,cap,hv,h3,by unfold maxLen at h4;omega⟩
theorem OfI.datum (d:OfI w vV vN vI vO g h xs W) (hl:h.length * 144 ≤ reach):rep W (old W.heap.size) [vV,vN,vI,vO] (⟨h,g.nodes,g.inputs,g.outputs⟩:GraphD):=by
 have hv:rep W (old W.heap.size) [vV] h:=rep_of_own d.own (Chunks.more (zr_old (Nat.le_refl _)) d.ch) hl (fun b _ _ h2=>h2)
 exact shut_GraphD (a:=⟨h,g.nodes,g.inputs,g.outputs⟩) (c0:=[_]) hv (c1:=[_]) (Rep.more d.nodes (zr_old (Nat.le_refl _))) (c2:=[_]) (Rep.more d.ins (zr_old (Nat.le_refl _))) (c3:=[_]) (Rep.more d.outs (zr_old (Nat.le_refl _)))
end
def askOf (h:List ValD) (n:GNodeD):AskD:=⟨n.op,n.s,n.ins.map fun k=>if k < 0 then zeroVD else h.getD k.toNat zeroVD,n.outs.length⟩
def putsV (h:List ValD):List Int→List ValD→List ValD
 | k :: ks,v :: vs=>putsV (h.set k.toNat v) ks vs
 | _,_=>h
def tellV (h:List ValD) (n:GNodeD):List ValD:=putsV h n.outs [mkV ((askOf h n).val 0).type ((askOf h n).dims 0)]
def FineG:List ValD→List GNodeD→Prop
 | _,[]=>True
 | h,n :: l=>(askOf h n).fine∧FineG (tellV h n) l
def runV (h:List ValD) (l:List GNodeD):List ValD:=l.foldl tellV h
theorem putsV_snoc:∀ (ks:List Int) (k:Int) (h vs:List ValD) (v:ValD),ks.length = vs.length→putsV h (ks++[k]) (vs++[v]) = (putsV h ks vs).set k.toNat v
 | [],k,h,[],v,_=>rfl
 | _ :: ks,k,h,_ :: vs,v,e=>by
  simp only [List.cons_append,putsV]
  exact putsV_snoc ks k _ vs v (by simpa using e)
 | [],k,h,_ :: _,v,e=>by cases e
 | _ :: _,k,h,[],v,e=>by cases e
theorem putsV_const {g:GraphD} (hs:SoundD g) {n:GNodeD} (hn:n ∈ g.nodes):∀ (ks:List Int) (h vs:List ValD),(∀ k ∈ ks,k ∈ n.outs)→(∀ v ∈ vs,v.const = false)→h.map (·.const) = g.vals.map (·.const)→(putsV h ks vs).map (·.const) = g.vals.map (·.const)
 | [],h,vs,_,_,e=>by unfold putsV;exact e
 | k :: ks,h,[],_,_,e=>by unfold putsV;exact e
 | k :: ks,h,v :: vs,hk,hv,e=>by
  rw [putsV]
  refine putsV_const hs hn ks _ vs (fun x hx=>hk x (List.mem_cons_of_mem _ hx)) (fun x hx=>hv x (List.mem_cons_of_mem _ hx)) ?_
  have hko:=hk k List.mem_cons_self
  have hkr:=hs.outs n hn k hko
  have hkl:k.toNat < g.vals.length:=by omega
  have h1:=hs.once k.toNat hkl
  have h2:0 < (defsD g).count ((k.toNat:Nat):Int):=List.count_pos_iff.2 (by
   rw [show ((k.toNat:Nat):Int) = k by omega]
   exact List.mem_append_right _ (List.mem_flatMap.2 ⟨n,hn,hko⟩))
  have h3:(g.vals.map (·.const))[k.toNat]? = some false:=by
   rw [List.getD_eq_getElem?_getD,List.getElem?_map] at h1
   rw [List.getElem?_map]
   rw [List.getElem?_eq_getElem hkl] at h1 ⊢
   simp only [Option.map_some,Option.getD_some] at h1 ⊢
   unfold constN at h1
   cases hc:(g.vals[k.toNat]).const with
   | false=>rfl
   | true=>rw [hc,if_pos rfl] at h1;omega
  rw [List.map_set,e,hv v List.mem_cons_self]
  exact List.ext_getElem? fun j=>by
   rw [List.getElem?_set]
   split
   ·rename_i e2
    subst e2
    rw [h3,if_pos (by simpa using hkl)]
   ·rfl
theorem sound_const {g:GraphD} {h:List ValD} (hs:SoundD g) (e:h.map (·.const) = g.vals.map (·.const)):SoundD ⟨h,g.nodes,g.inputs,g.outputs⟩:=by
 have hl:h.length = g.vals.length:=by have:=congrArg List.length e;simpa using this
 have hc:h.map constN = g.vals.map constN:=by
  have h1:∀ l:List ValD,l.map constN = (l.map (·.const)).map fun b=>if b = true then 1 else 0:=fun l=>by rw [List.map_map];rfl
  rw [h1,h1,e]
 refine ⟨?_,?_,?_,?_,?_,?_,?_⟩
 ·rw [hl];exact hs.inputs
 ·rw [hl];exact hs.outputs
 ·rw [hl];exact hs.outs
 ·rw [hl];exact hs.ins
 ·show ∀ k < h.length,(h.map constN).getD k 0 + (defsD g).count (k:Int) ≤ 1
  rw [hl,hc]
  exact hs.once
 ·show flowsD (setsT (h.map (·.const)) g.inputs) g.nodes
  rw [e]
  exact hs.flows
 ·show g.outputs.any (lackD (thereD (setsT (h.map (·.const)) g.inputs) g.nodes)) = false
  rw [e]
  exact hs.ends
end Go.Proofs.YtoeaglpmkjoenaaGreat
