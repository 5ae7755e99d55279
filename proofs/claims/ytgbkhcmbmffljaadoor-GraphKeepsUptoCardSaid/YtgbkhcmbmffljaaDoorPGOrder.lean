/-
  Chapter 09: the builder while the nodes are laid in order: what it holds.
-/
/-
  Chapter 09: (*builder).order: the nodes laid in order.
-/
import Derived.Test.YtgbkhcmbmffljaaDoorPGUses
import Derived.Test.YtgbkhcmbmffljaaDoorPGDlt
import Derived.Deep.LoopGhost
set_option linter.unusedSimpArgs false
set_option linter.unusedVariables false
namespace Go.Proofs.YtgbkhcmbmffljaaDoor
open Go.RowKit
open Rep (rep)
set_option maxRecDepth 100000 in
set_option maxHeartbeats 800000 in
theorem lay_node (zc:List Value) (hl:zc.length = 40) (n:Nat):laySem Tryd.prog (Instr.buildSlice 61 1 #[(0,.agg zc.toArray)]) n = some (.slice (some ⟨n,0,none⟩) 1 1,[.cells zc.toArray 68]):=by
 match zc,hl with
 | a0 :: a1 :: a2 :: a3 :: a4 :: a5 :: a6 :: a7 :: a8 :: a9 :: a10 :: a11 :: a12 :: a13 :: a14 :: a15 :: a16 :: a17 :: a18 :: a19 :: a20 :: a21 :: a22 :: a23 :: a24 :: a25 :: a26 :: a27 :: a28 :: a29 :: a30 :: a31 :: a32 :: a33 :: a34 :: a35 :: a36 :: a37 :: a38 :: a39 :: [],_=>(show _ = _;kernel_rfl)
theorem lay_bind {P:Program} {α β:Type} (e:Sem α) (f:α→Sem β):∀ (n:Nat) (a:α) (os:List Obj),laySem P e n = some (a,os)→∀ (b:β) ,(∀ k,laySem P (f a) k = some (b,[]))→laySem P (e.bind f) n = some (b,os):=by
 induction e with
 | pure a=>intro n a' os h b hb;simp only [laySem,Option.some.injEq,Prod.mk.injEq] at h;obtain ⟨rfl,rfl⟩:=h;exact hb n
 | program k ih=>intro n a os h b hb;simp only [laySem] at h;exact ih _ n a os h b hb
 | mark m k ih=>intro n a os h b hb;simp only [laySem] at h;exact ih n a os h b hb
 | new o k ih =>
  intro n a os h b hb
  simp only [laySem] at h
  split at h
  ·rename_i a' os' heq
   simp only [Option.some.injEq,Prod.mk.injEq] at h
   obtain ⟨rfl,rfl⟩:=h
   show (match laySem P ((k n).bind f) (n + 1) with | some (a,os)=>some (a,o :: os) | none=>none) = _
   rw [ih n (n + 1) _ _ heq b hb]
  ·cases h
 | load | store | shape | freeze | frozen | getObj | setObj | choose | sys | halt=>intro n a os h;simp only [laySem] at h;cases h
theorem lay_one {o:Oper} {a:Act} {x:Operand} (zc:List Value) (hl:zc.length = 40) (n:Nat) (ho:o.op = .buildSlice 61 1 #[(0,x)]) (hx:a.eval x = .agg zc.toArray):laySem Tryd.prog (execOp a.eval o) n = some (.value (.slice (some ⟨n,0,none⟩) 1 1),[.cells zc.toArray 68]):=by
 unfold execOp
 rw [ho]
 simp only [List.map_toArray,List.map_cons,List.map_nil,hx]
 exact lay_bind _ _ n _ _ (lay_node zc hl n) _ (fun k=>rfl)
section
variable {lo:Nat} {ban:List Nat} {rs rs':List RowV} {W W':World} {q:Nat}
theorem Rws.ban_add (h:Rws lo ban rs W) (hq:lo ≤ q) (hs:q < W.heap.size) (ho:Off rs q):Rws lo (q :: ban) rs W :=
 ⟨h.own,fun b hb=>by rcases List.mem_cons.1 hb with rfl | hb;exact ho;exact h.free b hb,h.apart,h.base,fun b hb=>by rcases List.mem_cons.1 hb with rfl | hb;exact ⟨hq,hs⟩;exact h.ban b hb⟩
theorem Rws.ban_less (h:Rws lo (q :: ban) rs W):Rws lo ban rs W :=
 ⟨h.own,fun b hb=>h.free b (by simp [hb]),h.apart,h.base,fun b hb=>h.ban b (by simp [hb])⟩
theorem Moves.ban_add (h:Moves lo ban rs rs' W W') (hr:Rws lo (q :: ban) rs' W'):Moves lo (q :: ban) rs rs' W W' :=
 ⟨hr,fun k h1 h2 h3=>h.block k h1 (fun hm=>h2 (by simp [hm])) h3,h.size,h.os,h.tape,h.output⟩
theorem Moves.ban_less (h:Moves lo (q :: ban) rs rs' W W') (hq:W.heap.size ≤ q):Moves lo ban rs rs' W W' :=
 ⟨h.rows.ban_less,fun k h1 h2 h3=>h.block k h1 (fun hm=>by rcases List.mem_cons.1 hm with rfl | hm;omega;exact h2 hm) h3,h.size,h.os,h.tape,h.output⟩
theorem Rws.add_new (h:Rws lo ban rs W) (hb:Below W.heap.size W W') (r:RowV) (ho:W'.ownsRow W.heap.size r.e r.size r.v r.n r.xs):Moves lo ban rs (rs++[r]) W W':=by
 have hm:=h.below hb
 have hget:∀ (j:Nat) (s:RowV),(rs++[r])[j]? = some s→(j < rs.length∧rs[j]? = some s) ∨ (rs.length ≤ j∧s = r):=fun j s hj=>by
  rw [List.getElem?_append] at hj
  split at hj
  ·rename_i hl;exact .inl ⟨hl,hj⟩
  ·rename_i hl
   refine .inr ⟨by omega,?_⟩
   rcases Nat.eq_zero_or_pos (j - rs.length) with e0 | e0
   ·rw [e0] at hj;injection hj with hj;exact hj.symm
   ·rw [List.getElem?_eq_none (by simp;omega)] at hj;cases hj
 have hj1:∀ (j k:Nat) (s t:RowV),j ≠ k→(rs++[r])[j]? = some s→(rs++[r])[k]? = some t→¬ (rs.length ≤ j∧rs.length ≤ k):=fun j k s t hne hj hk hc=>by
  have h1:=(List.getElem?_eq_some_iff.1 hj).1
  have h2:=(List.getElem?_eq_some_iff.1 hk).1
  simp at h1 h2
  omega
 refine ⟨⟨fun j s hj=>?_,fun b hb2 j s hj=>?_,fun j k s t hne hj hk b hsb htb=>?_,hm.rows.base,hm.rows.ban⟩,fun k h1 h2 h3=>⟨(hm.block k h1 h2 h3).1,fun j s hj=>?_⟩,hm.size,hm.os,hm.tape,hm.output⟩
 ·rcases hget j s hj with ⟨_,hj⟩ | ⟨_,rfl⟩
  ·exact hm.rows.own j s hj
  ·exact own_less ho h.base
 ·rcases hget j s hj with ⟨_,hj⟩ | ⟨_,rfl⟩
  ·exact hm.rows.free b hb2 j s hj
  ·intro e
   have:=(ho.lt _ e).1
   have:=(h.ban b hb2).2
   omega
 ·rcases hget j s hj with ⟨_,hj2⟩ | ⟨h1,rfl⟩ <;> rcases hget k t hk with ⟨_,hk2⟩ | ⟨h2,rfl⟩
  ·exact hm.rows.apart j k s t hne hj2 hk2 b hsb htb
  ·have:=(ho.lt _ htb).1
   have:=((h.own j s hj2).lt _ hsb).2
   omega
  ·have:=(ho.lt _ hsb).1
   have:=((h.own k t hk2).lt _ htb).2
   omega
  ·exact hj1 j k _ _ hne hj hk ⟨h1,h2⟩
 ·rcases hget j s hj with ⟨_,hj⟩ | ⟨_,rfl⟩
  ·exact h3 j s hj
  ·intro e
   have:=(ho.lt _ e).1
   omega
theorem cold_ban (hq:W.heap.size ≤ q):(cold lo ban rs W).le (cold lo (q :: ban) rs W):=⟨fun b ⟨h0,h1,h2,h3⟩=>⟨h0,h1,fun hm=>by rcases List.mem_cons.1 hm with rfl | hm;omega;exact h2 hm,h3⟩,fun _=>rfl⟩
end
structure OR (lo:Nat) (ban:List Nat) (g mp:Nat) (W0:World) (rs0:List RowV) (rV rN rI rO rn rl:RowV) (ns:List ByteArray) (vals:List ValD) (ins outs:List Int) (gs:List GNodeD) (q:Nat) (bs:List Bool) (lv:Value) (left:List GNodeD) (W:World):Prop where
 br:BR lo (q :: ban) g mp W0 rs0 rV rN rI rO rn [rl] ns vals ins outs gs W
 left:Data W (cold lo (q :: ban) [rV,rN,rI,rO,rn,rl] W) rl 68 left
 lv:rl.v = lv
 there:W.heap[q]? = some (.cells (bs.map Value.bool).toArray 4 (0,0))
 gb:g ∈ ban
 mb:mp ∈ ban
 qg:q ≠ g
 qm:q ≠ mp
def OSt (lo:Nat) (ban:List Nat) (g mp:Nat) (W0:World) (rs0:List RowV) (ns:List ByteArray) (vals:List ValD) (ins outs:List Int) (gs:List GNodeD) (q:Nat) (bs:List Bool) (lv:Value) (left:List GNodeD) (W:World):Prop :=
 ∃ rV rN rI rO rn rl,OR lo ban g mp W0 rs0 rV rN rI rO rn rl ns vals ins outs gs q bs lv left W
def OHt (lo:Nat) (ban:List Nat) (g mp:Nat) (W0:World) (rs0:List RowV) (ns:List ByteArray) (vals:List ValD) (ins outs:List Int) (gs:List GNodeD) (q:Nat) (bs:List Bool) (lv:Value) (left:List GNodeD) (zc:List Value) (z:GNodeD) (W:World):Prop :=
 ∃ rV rN rI rO rn rl,OR lo ban g mp W0 rs0 rV rN rI rO rn rl ns vals ins outs gs q bs lv left W∧rep W (cold lo (q :: ban) [rV,rN,rI,rO,rn,rl] W) zc z
def DSt (lo:Nat) (ban:List Nat) (g mp:Nat) (W0:World) (rs0:List RowV) (ns:List ByteArray) (vals:List ValD) (ins outs:List Int) (gs:List GNodeD) (W:World):Prop :=
 ∃ rV rN rI rO rn ex,BR lo ban g mp W0 rs0 rV rN rI rO rn ex ns vals ins outs gs W
section
variable {lo:Nat} {ban:List Nat} {g mp:Nat} {W0 W W':World} {rs0:List RowV} {rV rN rI rO rn rl:RowV} {ns:List ByteArray} {vals:List ValD} {ins outs:List Int} {gs:List GNodeD} {q:Nat} {bs:List Bool} {lv:Value} {left:List GNodeD} {zc:List Value} {z:GNodeD}
theorem OR.next (h:OR lo ban g mp W0 rs0 rV rN rI rO rn rl ns vals ins outs gs q bs lv left W) (hb:Below W.heap.size W W'):OR lo ban g mp W0 rs0 rV rN rI rO rn rl ns vals ins outs gs q bs lv left W'∧Moves lo (q :: ban) [rV,rN,rI,rO,rn,rl] [rV,rN,rI,rO,rn,rl] W W' :=
 have ⟨h1,m⟩:=h.br.next hb
 ⟨⟨h1,h.left.move m,h.lv,(hb.block _ (Array.getElem?_eq_some_iff.1 h.there).1).trans h.there,h.gb,h.mb,h.qg,h.qm⟩,m⟩
theorem OSt.next (h:OSt lo ban g mp W0 rs0 ns vals ins outs gs q bs lv left W) (hb:Below W.heap.size W W'):OSt lo ban g mp W0 rs0 ns vals ins outs gs q bs lv left W':=by
 obtain ⟨rV,rN,rI,rO,rn,rl,h⟩:=h
 exact ⟨rV,rN,rI,rO,rn,rl,(h.next hb).1⟩
theorem OHt.next (h:OHt lo ban g mp W0 rs0 ns vals ins outs gs q bs lv left zc z W) (hb:Below W.heap.size W W'):OHt lo ban g mp W0 rs0 ns vals ins outs gs q bs lv left zc z W':=by
 obtain ⟨rV,rN,rI,rO,rn,rl,h,hz⟩:=h
 exact ⟨rV,rN,rI,rO,rn,rl,(h.next hb).1,(h.next hb).2.rep hz⟩
theorem OHt.st (h:OHt lo ban g mp W0 rs0 ns vals ins outs gs q bs lv left zc z W):OSt lo ban g mp W0 rs0 ns vals ins outs gs q bs lv left W:=by
 obtain ⟨rV,rN,rI,rO,rn,rl,h,hz⟩:=h
 exact ⟨rV,rN,rI,rO,rn,rl,h⟩
theorem OSt.there (h:OSt lo ban g mp W0 rs0 ns vals ins outs gs q bs lv left W):W.heap[q]? = some (.cells (bs.map Value.bool).toArray 4 (0,0)):=let ⟨_,_,_,_,_,_,h⟩:=h;h.there
theorem OSt.gone (h:OSt lo ban g mp W0 rs0 ns vals ins outs gs q bs lv left W) (hq:W0.heap.size ≤ q):Gone lo ban rs0 W0 W:=let ⟨_,_,_,_,_,_,h⟩:=h;⟨_,h.br.mv.ban_less hq⟩
theorem OSt.done (h:OSt lo ban g mp W0 rs0 ns vals ins outs gs q bs lv left W) (hq:W0.heap.size ≤ q):DSt lo ban g mp W0 rs0 ns vals ins outs gs W:=by
 obtain ⟨rV,rN,rI,rO,rn,rl,h⟩:=h
 have hc:(cold lo (q :: ban) [rV,rN,rI,rO,rn,rl] W).le (cold lo ban [rV,rN,rI,rO,rn,rl] W):=⟨fun b ⟨h0,h1,h2,h3⟩=>⟨h0,h1,fun hm=>h2 (by simp [hm]),h3⟩,fun _=>rfl⟩
 have hm:=h.br.mv.ban_less hq
 have hdat:∀ {α:Type} [Rep α] {r:RowV} {e:TypeId} {l:List α},Data W (cold lo (q :: ban) [rV,rN,rI,rO,rn,rl] W) r e l→Data W (cold lo ban [rV,rN,rI,rO,rn,rl] W) r e l:=fun d=>⟨d.e,d.size,d.n,d.chunks.more hc⟩
 have b:=h.br.st
 exact ⟨rV,rN,rI,rO,rn,[rl],⟨⟨b.rows.ban_less,b.box,b.map,h.gb,h.mb,b.ne⟩,hm,hdat h.br.vals,hdat h.br.ins,hdat h.br.outs,hdat h.br.gs⟩⟩
theorem DSt.base {W1:World} {rs:List RowV} (h:DSt lo ban g mp W1 rs ns vals ins outs gs W) (m:Moves lo ban rs0 rs W0 W1):DSt lo ban g mp W0 rs0 ns vals ins outs gs W:=by
 obtain ⟨rV,rN,rI,rO,rn,ex,h⟩:=h
 exact ⟨rV,rN,rI,rO,rn,ex,⟨h.st,m.trans h.mv,h.vals,h.ins,h.outs,h.gs⟩⟩
theorem OR.set (h:OR lo ban g mp W0 rs0 rV rN rI rO rn rl ns vals ins outs gs q bs lv left W) (k:Nat):OR lo ban g mp W0 rs0 rV rN rI rO rn rl ns vals ins outs gs q (bs.set k true) lv left (W.setCell ⟨q,k,none⟩ (.bool true))∧Moves lo (q :: ban) [rV,rN,rI,rO,rn,rl] [rV,rN,rI,rO,rn,rl] W (W.setCell ⟨q,k,none⟩ (.bool true))∧W.grownBy (W.setCell ⟨q,k,none⟩ (.bool true)) (some q):=by
 rw [set_as_row h.there]
 have hg:W.grownBy (W.setRow q ((bs.map Value.bool).toArray.setIfInBounds k (.bool true))) (some q):=grown_setRow _ _ _
 have m:=h.br.st.rows.wrote (b:=q) (by simp) hg
 have b:=h.br.st
 refine ⟨⟨h.br.to ⟨m.rows,(hg.block _ b.lt (fun e=>h.qg (by injection e with e;exact e.symm))).trans b.box,b.map.kept hg (fun e=>h.qm (by injection e with e;exact e.symm)),b.gin,b.min,b.ne⟩ m,h.left.move m,h.lv,?_,h.gb,h.mb,h.qg,h.qm⟩,m,hg⟩
 rw [heap_setRow _ _ _ _ _ h.there,List.map_set,List.setIfInBounds_toArray]
theorem OHt.set (h:OHt lo ban g mp W0 rs0 ns vals ins outs gs q bs lv left zc z W) (k:Nat):OHt lo ban g mp W0 rs0 ns vals ins outs gs q (bs.set k true) lv left zc z (W.setCell ⟨q,k,none⟩ (.bool true))∧W.grownBy (W.setCell ⟨q,k,none⟩ (.bool true)) (some q):=by
 obtain ⟨rV,rN,rI,rO,rn,rl,h,hz⟩:=h
 obtain ⟨h1,m,hg⟩:=h.set k
 exact ⟨⟨rV,rN,rI,rO,rn,rl,h1,m.rep hz⟩,hg⟩
theorem find_first {α:Type} (p:α→Bool):∀ (l:List α) (j:Nat) (z:α),(∀ n ∈ l.take j,p n = false)→l[j]? = some z→p z = true→l.findIdx? p = some j
 | [],j,z,_,h,_=>by simp at h
 | a :: l,0,z,_,h,hp=>by
  simp at h;subst h
  rw [List.findIdx?_cons,hp];rfl
 | a :: l,j + 1,z,hn,h,hp=>by
  rw [List.findIdx?_cons,hn a (by simp),find_first p l j z (fun n hm=>hn n (by simp [hm])) (by simpa using h) hp]
  rfl
theorem order_step {bs:List Bool} {left:List GNodeD} {k j:Nat} {z:GNodeD} (hn:∀ n ∈ left.take j,readyD bs n = false) (hz:left[j]? = some z) (hr:readyD bs z = true) :
  orderG (k + 1) bs left = (z :: (orderG k (setsT bs z.outs) (left.eraseIdx j)).1,(orderG k (setsT bs z.outs) (left.eraseIdx j)).2):=by
 rw [orderG,find_first _ _ _ _ hn hz hr]
 simp only [hz]
theorem OSt.slice (h:OSt lo ban g mp W0 rs0 ns vals ins outs gs q bs lv left W):∃ A c,lv = .slice A left.length c∧left.length ≤ c∧c ≤ maxLen:=by
 obtain ⟨rV,rN,rI,rO,rn,rl,h⟩:=h
 obtain ⟨A,c,hv,h1,h2⟩:=data_slice h.br.st.rows (i:=5) rfl h.left
 exact ⟨A,c,h.lv ▸ hv,h1,h2⟩
theorem OSt.elem (h:OSt lo ban g mp W0 rs0 ns vals ins outs gs q bs lv left W) {i:Nat} (hi:left[i]? = some z):∃ (b c:Nat) (zc:List Value),lv = .slice (some ⟨b,0,none⟩) left.length c∧left.length ≤ c∧c ≤ maxLen∧b < W.heap.size∧At W b (i * 40) zc∧OHt lo ban g mp W0 rs0 ns vals ins outs gs q bs lv left zc z W∧rep W (Go.Proofs.YtgbkhcmbmffljaaDoor.old W.heap.size) zc z:=by
 obtain ⟨rV,rN,rI,rO,rn,rl,h⟩:=h
 have hlt:=(List.getElem?_eq_some_iff.1 hi).1
 have hn:=h.left.n
 obtain ⟨b,c,hv,h1,h2,-,hb,hcell⟩:=own_some (h.br.st.rows.own 5 rl rfl) (by omega)
 obtain ⟨zc,hz,hj⟩:=h.left.chunks.get hi
 rw [hn,h.lv] at hv
 exact ⟨b,c,zc,hv,hn ▸ h1,h2,hb,fun j u hu=>(hcell _ _ (hj j u hu)).1,⟨rV,rN,rI,rO,rn,rl,h,hz⟩,Rep.more hz cold_old⟩
def OBt (lo:Nat) (ban:List Nat) (g mp:Nat) (W0:World) (rs0:List RowV) (ns:List ByteArray) (vals:List ValD) (ins outs:List Int) (gs:List GNodeD) (q:Nat) (bs:List Bool) (lv:Value) (left:List GNodeD) (zc:List Value) (z:GNodeD) (p:Nat) (W:World):Prop :=
 ∃ rV rN rI rO rn rl,OR lo ban g mp W0 rs0 rV rN rI rO rn rl ns vals ins outs gs q bs lv left W∧rep W (cold lo (q :: ban) [rV,rN,rI,rO,rn,rl] W) zc z∧W.heap[p]? = some (.cells zc.toArray 68 (0,0))∧p ∉ q :: ban∧Off [rV,rN,rI,rO,rn,rl] p
theorem OHt.box (h:OHt lo ban g mp W0 rs0 ns vals ins outs gs q bs lv left zc z W) (hb:Below W.heap.size W W') (hp:W'.heap[W.heap.size]? = some (.cells zc.toArray 68 (0,0))):OBt lo ban g mp W0 rs0 ns vals ins outs gs q bs lv left zc z W.heap.size W':=by
 obtain ⟨rV,rN,rI,rO,rn,rl,h,hz⟩:=h
 obtain ⟨h1,m⟩:=h.next hb
 have hn:=h.br.st.rows.new_block (Nat.le_refl W.heap.size)
 exact ⟨rV,rN,rI,rO,rn,rl,h1,m.rep hz,hp,hn.1,hn.2⟩
theorem OBt.next {p:Nat} (h:OBt lo ban g mp W0 rs0 ns vals ins outs gs q bs lv left zc z p W) (hb:Below W.heap.size W W'):OBt lo ban g mp W0 rs0 ns vals ins outs gs q bs lv left zc z p W':=by
 obtain ⟨rV,rN,rI,rO,rn,rl,h,hz,hp,h1,h2⟩:=h
 obtain ⟨h3,m⟩:=h.next hb
 exact ⟨rV,rN,rI,rO,rn,rl,h3,m.rep hz,(hb.block _ (Array.getElem?_eq_some_iff.1 hp).1).trans hp,h1,h2⟩
theorem OBt.st {p:Nat} (h:OBt lo ban g mp W0 rs0 ns vals ins outs gs q bs lv left zc z p W):OSt lo ban g mp W0 rs0 ns vals ins outs gs q bs lv left W:=let ⟨_,_,_,_,_,_,h,_⟩:=h;⟨_,_,_,_,_,_,h⟩
theorem OBt.row {p:Nat} (h:OBt lo ban g mp W0 rs0 ns vals ins outs gs q bs lv left zc z p W):W.heap[p]? = some (.cells zc.toArray 68 (0,0)):=let ⟨_,_,_,_,_,_,_,_,h,_⟩:=h;h
theorem OBt.rep' {p:Nat} (h:OBt lo ban g mp W0 rs0 ns vals ins outs gs q bs lv left zc z p W):rep W (Go.Proofs.YtgbkhcmbmffljaaDoor.old W.heap.size) zc z:=let ⟨_,_,_,_,_,_,_,h,_⟩:=h;Rep.more h cold_old
theorem OBt.set {p:Nat} (h:OBt lo ban g mp W0 rs0 ns vals ins outs gs q bs lv left zc z p W) (k:Nat):OBt lo ban g mp W0 rs0 ns vals ins outs gs q (bs.set k true) lv left zc z p (W.setCell ⟨q,k,none⟩ (.bool true)):=by
 obtain ⟨rV,rN,rI,rO,rn,rl,h,hz,hp,h1,h2⟩:=h
 obtain ⟨h3,m,hg⟩:=h.set k
 exact ⟨rV,rN,rI,rO,rn,rl,h3,m.rep hz,(hg.block p (Array.getElem?_eq_some_iff.1 hp).1 (fun e=>h1 (by injection e with e;simp [e]))).trans hp,h1,h2⟩
theorem OBt.push {p:Nat} (h:OBt lo ban g mp W0 rs0 ns vals ins outs gs q bs lv left zc z p W) {B:World} (hB:Below W.heap.size W B):∃ (vN:Value) (xs cells:List Value),g < W.heap.size∧lo ≤ W.heap.size∧W.cell? ⟨g,1,none⟩ = some vN∧cells.length = 6∧B.ownsRow lo 68 40 vN gs.length xs ∧
  ∀ (W9:World) (v9:Value),W9.ownsRow lo 68 40 v9 (gs.length + 1) (xs++zc)→B.grownBy W9 vN.ownBlock→(v9.ownBlock = vN.ownBlock ∨ v9.ownBlock = some B.heap.size) →
   W9.heap[g]? = some (.cells cells.toArray 108 (0,0))∧v9.oneCell' = true∧W9.heap[p]? = some (.cells zc.toArray 68 (0,0))∧p ≠ g∧OSt lo ban g mp W0 rs0 ns vals ins outs (gs++[z]) q bs lv left (W9.setRow g (cells.set 1 v9).toArray):=by
 obtain ⟨rV,rN,rI,rO,rn,rl,h,hz,hp,hp1,hp2⟩:=h
 obtain ⟨hg,hlo,-⟩:=h.br.heads
 obtain ⟨hn,m1⟩:=h.next hB
 have hown:=hn.br.st.rows.own 1 rN rfl
 rw [h.br.gs.e,h.br.gs.size,h.br.gs.n] at hown
 refine ⟨rN.v,rN.xs,[rV.v,rN.v,rI.v,rO.v,.map (some mp),rn.v],hg,hlo,h.br.st.cell (j:=1) rfl,rfl,hown,?_⟩
 intro W9 v9 ho hgr hb
 have ho':W9.ownsRow lo rN.e rN.size v9 (rN.n + 1) (rN.xs++zc):=by rw [h.br.gs.e,h.br.gs.size,h.br.gs.n];exact ho
 obtain ⟨b2,m2⟩:=hn.br.st.pushN hgr ho' (hb.imp id .inl)
 have hm:=m1.trans m2
 have d2:Data _ _ ⟨v9,rN.e,rN.size,rN.n + 1,rN.xs++zc⟩ 68 (gs++[z]):=((hn.br.gs).snoc (v':=v9) (m1.rep hz)).move m2
 have hk:=hn.br.st.kept (i:=1) (r:=rN) (r':=rN) rfl hgr
 refine ⟨hk.1,?_,(hgr.block p (Nat.lt_of_lt_of_le (Array.getElem?_eq_some_iff.1 hp).1 hB.size) (fun e=>hp2 1 rN rfl e.symm)).trans ((hB.block _ (Array.getElem?_eq_some_iff.1 hp).1).trans hp),fun e=>hp1 (by rw [e];exact h.br.st.gin),rV,⟨v9,rN.e,rN.size,rN.n + 1,rN.xs++zc⟩,rI,rO,rn,rl,⟨⟨b2,h.br.mv.trans hm,h.br.vals.move hm,h.br.ins.move hm,h.br.outs.move hm,d2⟩,h.left.move hm,h.lv,?_,h.gb,h.mb,h.qg,h.qm⟩⟩
 ·obtain ⟨A,c,rfl,-⟩:=own_slice ho;rfl
 ·have hq1:q < B.heap.size:=Nat.lt_of_lt_of_le (Array.getElem?_eq_some_iff.1 h.there).1 hB.size
  have hoff:=h.br.st.rows.free q (by simp) 1 rN rfl
  rw [heap_setRow_other _ _ _ _ h.qg]
  exact (hgr.block q hq1 (fun e=>hoff e.symm)).trans hn.there
theorem OSt.delete (h:OSt lo ban g mp W0 rs0 ns vals ins outs gs q bs lv left W) {i e:Nat} (hi:i < left.length) (he:left.length = e + 1) (hn:left.length ≤ 1048576):∃ b c,lv = .slice (some ⟨b,0,none⟩) (e + 1) c ∧
  Calls Tryd.prog 93 #[.slice (some ⟨b,0,none⟩) (e + 1) c,.int .i64 (i:Int),.int .i64 ((i:Int) + 1)] W fun en W'=>en = .returned (.slice (some ⟨b,0,none⟩) e c)∧OSt lo ban g mp W0 rs0 ns vals ins outs gs q bs (.slice (some ⟨b,0,none⟩) e c) (left.eraseIdx i) W':=by
 obtain ⟨rV,rN,rI,rO,rn,rl,h⟩:=h
 have hown:=h.br.st.rows.own 5 rl rfl
 have hln:=h.left.n
 obtain ⟨b,c,hv,-,-,-,-,-⟩:=own_some hown (by omega)
 rw [h.left.e,h.left.size,hln,hv,hln] at hown
 refine ⟨b,c,by rw [← h.lv,hv,hln,he],?_⟩
 have hob:rl.v.ownBlock = some b:=by rw [hv];rfl
 refine (delete_any left i c b e rl.xs (cold lo (q :: ban) [rV,rN,rI,rO,rn,rl] W) W hown h.left.chunks (fun k hk=>⟨hk.2.1,fun e=>hk.2.2.2 5 rl rfl (by rw [hob,e])⟩) hi he hn).mono ?_
 rintro en W' ⟨rfl,xs',ho,hch,hgr⟩
 refine ⟨rfl,?_⟩
 rw [← hob] at hgr
 have m:=h.br.st.rows.grow (i:=5) (r:=rl) (r':=⟨.slice (some ⟨b,0,none⟩) e c,68,40,e,xs'⟩) rfl hgr ho (.inl hob.symm)
 have hk:=h.br.st.kept (i:=5) (r:=rl) (r':=rl) rfl hgr
 have b':=h.br.st
 have hqo:=b'.rows.free q (by simp) 5 rl rfl
 refine ⟨rV,rN,rI,rO,rn,⟨.slice (some ⟨b,0,none⟩) e c,68,40,e,xs'⟩,⟨h.br.to ⟨m.rows,hk.1,hk.2,b'.gin,b'.min,b'.ne⟩ m,⟨rfl,rfl,?_,hch.more m.cold_le⟩,rfl,(hgr.block q (Array.getElem?_eq_some_iff.1 h.there).1 (fun e=>hqo e.symm)).trans h.there,h.gb,h.mb,h.qg,h.qm⟩⟩
 show e = (left.eraseIdx i).length
 rw [List.length_eraseIdx_of_lt hi]
 omega
theorem ord_start {ps:List PartD} {rs:List RowV} {W1:World} (h:BSt lo ban g mp W rs ns vals ins outs gs ps W) (hb1:Below W.heap.size W W1) (hq:W.heap.size ≤ q) (ht:W1.heap[q]? = some (.cells (bs.map Value.bool).toArray 4 (0,0))) (hlo:lo ≤ W.heap.size) :
  ∃ (v:Value) (xs:List Value),W1.cell? ⟨g,5,none⟩ = some v∧W1.ownsRow lo 68 40 v ps.length xs∧(∀ u ∈ xs,u.oneCell' = true)∧g < W.heap.size ∧
   ∀ (W2:World) (v2:Value),W2.ownsRow W1.heap.size 68 40 v2 ps.length xs→Below W1.heap.size W1 W2→OSt lo ban g mp W rs ns vals ins outs gs q bs v2 (ps.map (·.g)) W2:=by
 obtain ⟨rV,rN,rI,rO,rn,h,hps⟩:=h
 have hqs:=(Array.getElem?_eq_some_iff.1 ht).1
 have hnb:=h.st.rows.new_block hq
 obtain ⟨h1,m⟩:=h.next hb1
 have hr1:=m.rows.ban_add (q:=q) (by omega) hqs hnb.2
 have m1:=m.ban_add hr1
 have hdat:∀ {α:Type} [Rep α] {r:RowV} {e:TypeId} {l:List α},Data W (cold lo ban [rV,rN,rI,rO,rn] W) r e l→Data W1 (cold lo (q :: ban) [rV,rN,rI,rO,rn] W1) r e l:=fun d=>Data.move ⟨d.e,d.size,d.n,d.chunks.more (cold_ban hq)⟩ m1
 have hown:=h1.st.rows.own 4 rn rfl
 rw [hps.e,hps.size,hps.n] at hown
 refine ⟨rn.v,rn.xs,h1.st.cell (j:=5) rfl,hown,hps.chunks.one,h.st.lt,fun W2 v2 ho hb2=>?_⟩
 have m2:=hr1.add_new hb2 ⟨v2,68,40,ps.length,rn.xs⟩ ho
 have mm:=m1.trans m2
 have b1:=h1.st
 have hqg:q ≠ g:=fun e=>hnb.1 (e ▸ h.st.gin)
 have hqm:q ≠ mp:=fun e=>hnb.1 (e ▸ h.st.min)
 refine ⟨rV,rN,rI,rO,rn,⟨v2,68,40,ps.length,rn.xs⟩,⟨⟨⟨m2.rows,(hb2.block _ b1.lt).trans b1.box,b1.map.below hb2 (b1.rows.ban _ b1.min).2,by simp [h.st.gin],by simp [h.st.min],b1.ne⟩,?_,(hdat h.vals).move m2,(hdat h.ins).move m2,(hdat h.outs).move m2,(hdat h.gs).move m2⟩,?_,rfl,(hb2.block _ hqs).trans ht,h.st.gin,h.st.min,hqg,hqm⟩⟩
 ·exact ((h.mv.trans m).ban_add hr1).trans m2
 ·have d:=(hdat hps).move m2
  exact ⟨rfl,rfl,by simp,parts_nodes d.chunks⟩
end
end Go.Proofs.YtgbkhcmbmffljaaDoor
set_option linter.unusedSimpArgs false
set_option linter.unusedVariables false
namespace Go.Proofs.YtgbkhcmbmffljaaDoor
open Go.RowKit
open Rep (rep)
section
variable {lo:Nat} {ban:List Nat} {g mp:Nat} {W0 W W':World} {rs0:List RowV} {rV rN rI rO rn rl:RowV} {ns:List ByteArray} {vals:List ValD} {ins outs:List Int} {gs:List GNodeD} {q:Nat} {bs:List Bool} {lv:Value} {left:List GNodeD} {zc:List Value} {z:GNodeD} {ps:List PartD} {ex:List RowV}
theorem BR.graph (h:BR lo ban g mp W0 rs0 rV rN rI rO rn ex ns vals ins outs gs W) (h1:vals.length ≤ 1048576) (h2:ins.length ≤ 1048576) (h3:outs.length ≤ 1048576) (h4:gs.length ≤ 1048576):∃ cs:List Value,cs.length = 4∧At W g 0 cs∧rep W (fresh lo W.heap.size) cs (⟨vals,gs,ins,outs⟩:GraphD):=by
 have r0:=h.st.rows.rep (i:=0) rfl h.vals.size h.vals.n h.vals.chunks (by show vals.length * 144 ≤ reach;unfold reach;omega)
 have r1:=h.st.rows.rep (i:=1) rfl h.gs.size h.gs.n h.gs.chunks (by show gs.length * 432 ≤ reach;unfold reach;omega)
 have r2:=h.st.rows.rep (i:=2) rfl h.ins.size h.ins.n h.ins.chunks (by show ins.length * 8 ≤ reach;unfold reach;omega)
 have r3:=h.st.rows.rep (i:=3) rfl h.outs.size h.outs.n h.outs.chunks (by show outs.length * 8 ≤ reach;unfold reach;omega)
 refine ⟨_,rfl,fun j u hu=>?_,shut_GraphD (a:=⟨vals,gs,ins,outs⟩) r0 r1 r2 r3⟩
 rw [Nat.zero_add]
 refine h.st.cell ?_
 have hj:j < 4:=(List.getElem?_eq_some_iff.1 hu).1
 match j,hj with
 | 0,_=>exact hu
 | 1,_=>exact hu
 | 2,_=>exact hu
 | 3,_=>exact hu
set_option maxRecDepth 100000 in
theorem enter_order:∀ (args:Array Value) (W:World),(callFunc 92 args).run Tryd.prog W = .ok (.enter 92 args) W:=fun args W=>by kernel_rfl
theorem OSt.delfunc (h:OSt lo ban g mp W0 rs0 ns vals ins outs gs q bs lv left W) (hn:left.length ≤ 1048576) :
  Calls Tryd.prog 90 #[lv,.func (.func 92) #[] #[]] W fun en W'=>∃ v',en = .returned v'∧OSt lo ban g mp W0 rs0 ns vals ins outs gs q bs v' (left.filter fun g=>decide (g.op ≠ 61)) W':=by
 obtain ⟨rV,rN,rI,rO,rn,rl,h⟩:=h
 have hown:=h.br.st.rows.own 5 rl rfl
 rw [h.left.e,h.left.size,h.left.n] at hown
 have hlv:=h.lv
 subst hlv
 refine (delfunc_any left rl.v rl.xs (cold lo (q :: ban) [rV,rN,rI,rO,rn,rl] W) 92 constOp W enter_order (fun z zc W hz=>orderFn_any zc z W hz) hown h.left.chunks (fun k hk=>⟨hk.2.1,fun e=>hk.2.2.2 5 rl rfl e⟩) hn).mono ?_
 rintro en W' ⟨v',xs',rfl,ho,hch,hgr,hob⟩
 have ef:(fun g:GNodeD=>!constOp g) = fun g=>decide (g.op ≠ 61):=by funext g;unfold constOp;by_cases e:g.op = 61 <;> simp [e]
 rw [ef] at ho hch
 refine ⟨v',rfl,?_⟩
 generalize (left.filter fun g=>decide (g.op ≠ 61)) = L at ho hch ⊢
 have m:=h.br.st.rows.grow (i:=5) (r:=rl) (r':=⟨v',68,40,L.length,xs'⟩) rfl hgr ho (.inl hob)
 have hk:=h.br.st.kept (i:=5) (r:=rl) (r':=rl) rfl hgr
 have b':=h.br.st
 have hqo:=b'.rows.free q (by simp) 5 rl rfl
 exact ⟨rV,rN,rI,rO,rn,⟨v',68,40,L.length,xs'⟩,⟨h.br.to ⟨m.rows,hk.1,hk.2,b'.gin,b'.min,b'.ne⟩ m,⟨rfl,rfl,rfl,hch.more m.cold_le⟩,rfl,(hgr.block q (Array.getElem?_eq_some_iff.1 h.there).1 (fun e=>hqo e.symm)).trans h.there,h.gb,h.mb,h.qg,h.qm⟩⟩
end
structure OrdPost (lo:Nat) (ban:List Nat) (g mp:Nat) (W0:World) (rs0:List RowV) (N:List ByteArray) (vals:List ValD) (ins outs:List Int) (fin:List GNodeD × List GNodeD) (e:Ending) (w':World):Prop where
 bad:∀ z l,fin.2 = z :: l→e = .returned (.tuple #[.int .i64 12,.int .i64 z.source])∧Gone lo ban rs0 W0 w'
 ok:fin.2 = []→e = .returned (.tuple #[.int .i64 0,.int .i64 0])∧DSt lo ban g mp W0 rs0 N vals ins outs fin.1 w'
def FitN (K:Nat) (n:GNodeD):Prop:=(∀ x ∈ n.ins,x < (K:Int))∧(∀ x ∈ n.outs,0 ≤ x∧x < (K:Int))∧n.ins.length ≤ 1048576∧n.outs.length ≤ 1048576
set_option maxRecDepth 100000 in
set_option maxHeartbeats 16000000 in
theorem order_any (lo:Nat) (ban:List Nat) (g mp:Nat) (W0:World) (rs0:List RowV) (N:List ByteArray) (vals:List ValD) (ins outs:List Int) (gns:List GNodeD) (w:World)
  (hB:BSt lo ban g mp W0 rs0 N vals ins outs [] (gns.map fun b=>⟨b,false,false⟩) w) (h1:vals.length ≤ 1048576) (h2:ins.length ≤ 1048576) (h3:outs.length ≤ 1048576) (h4:gns.length ≤ 1048576) (hin:∀ x ∈ ins,0 ≤ x∧x < (vals.length:Int)) (hfit:∀ n ∈ gns,FitN vals.length n) :
  Calls Tryd.prog 52 #[.pointer (some ⟨g,0,none⟩)] w (OrdPost lo ban g mp W0 rs0 N vals ins outs (orderG (gns.filter fun g=>decide (g.op ≠ 61)).length (definedD ⟨vals,[],ins,outs⟩) (gns.filter fun g=>decide (g.op ≠ 61)))):=by
 obtain ⟨rs,hB1,hR,hM,-⟩:=hB.rebase
 have hlo:=hB.lo_le
 obtain ⟨cs,hcl,hat,hrep⟩:∃ cs:List Value,cs.length = 4∧At w g 0 cs∧rep w (old w.heap.size) cs (⟨vals,[],ins,outs⟩:GraphD):=by
  obtain ⟨rV,rN,rI,rO,rn,h,-⟩:=hB
  obtain ⟨cs,a,b,c⟩:=h.graph h1 h2 h3 (Nat.zero_le _)
  exact ⟨cs,a,b,Rep.more c (fresh_old (Nat.le_refl _))⟩
 have HG:=Lib.hid (And.intro hat (And.intro hrep (show (Tryd.prog.info? 63).map (·.size) = some cs.length by rw [hcl];kernel_rfl)))
 have HB:=Lib.hid (And.intro hB1 (And.intro hM (And.intro hin hfit)))
 have HR:=Lib.hid hR
 obtain ⟨L0,hL0⟩:∃ L0,(gns.filter fun g=>decide (g.op ≠ 61)) = L0:=⟨_,rfl⟩
 obtain ⟨bs0,hbs0⟩:∃ bs0,definedD ⟨vals,[],ins,outs⟩ = bs0:=⟨_,rfl⟩
 have hll:L0.length ≤ 1048576:=by rw [← hL0];exact Nat.le_trans (List.length_filter_le _ _) h4
 have HLL:=Lib.hid (And.intro hL0 (show ∀ n ∈ L0,FitN vals.length n from fun n hn=>hfit n (by rw [← hL0] at hn;exact (List.mem_filter.1 hn).1)))
 have HBS:=Lib.hid (show bs0.length = vals.length by rw [← hbs0,definedD_len])
 have HBD:=Lib.hid hbs0
 rw [hL0,hbs0]
 obtain ⟨fin,hF⟩:∃ fin,orderG L0.length bs0 L0 = fin:=⟨_,rfl⟩
 rw [hF]
 have HF:=Lib.hid (show (([]:List GNodeD)++(orderG L0.length bs0 L0).1,(orderG L0.length bs0 L0).2) = fin from hF)
 clear hB hB1 hR hM hat hrep hcl hin hfit hF hL0 hbs0
 go_enter Tryd.func52,Tryd.ntmps52
 go_wp2_with fail
 go_step3
 go_wp2_with (with_reducible refine wpList_load_agg rfl 63 _ rfl _ g 0 rfl cs Tryd.underlying63 rfl HG.out.2.2 HG.out.1 ?_)
 refine (defined_any cs ⟨vals,[],ins,outs⟩ w HG.out.2.1 h1 HB.out.2.2.1).mono ?_
 rintro e w1 ⟨q,rfl,hq,ht,hb⟩
 rw [HBD.out] at ht
 obtain ⟨v,xs,d5,hown,hone,hgl,hst⟩:=ord_start HB.out.1 hb hq ht hlo
 rw [List.length_map] at hown hst
 have HO:=Lib.hid (And.intro hown (And.intro hone hst))
 have HQ:=Lib.hid hq
 clear hb hq ht hown hone hst HG hgl
 go_wp2_with fail
 refine (clone_nodes gns.length v xs w1 HO.out.1 HO.out.2.1 h4).mono ?_
 rintro e w2 ⟨v2,rfl,ho2,hb2⟩
 have hst:=HO.out.2.2 w2 v2 ho2 hb2
 rw [List.map_map] at hst
 have hst2:OSt lo ban g mp w rs N vals ins outs [] q bs0 v2 gns w2:=by
  have e:((fun x:PartD=>x.g) ∘ fun b=>(⟨b,false,false⟩:PartD)) = id:=rfl
  rw [e,List.map_id] at hst
  exact hst
 have HS:=Lib.hid hst2
 clear hst hst2 ho2 hb2 HO d5
 go_wp2_with fail
 have hdf:=HS.out.delfunc h4
 rw [HLL.out.1] at hdf
 refine hdf.mono ?_
 clear hdf
 rintro e w3 ⟨v3,rfl,hst⟩
 obtain ⟨A,c,rfl,hc1,hc2⟩:=hst.slice
 have HS3:=Lib.hid hst
 clear hst HS
 go_wp2_with fail
 go_step3
 go_wp2_with fail
 go_loopg [5] L0.length (fun gk s5 wr=>∃ (left gsd:List GNodeD) (bs:List Bool) (A:Option Addr) (c:Nat),left.length = gk∧s5 = .slice A left.length c∧OSt lo ban g mp w rs N vals ins outs gsd q bs (.slice A left.length c) left wr∧Aside ((gsd++(orderG left.length bs left).1,(orderG left.length bs left).2) = fin∧bs.length = vals.length∧(∀ n ∈ left,FitN vals.length n)∧gsd.length + left.length = L0.length))
 case atStart=>exact ⟨L0,[],bs0,A,c,rfl,rfl,HS3.out,HF.out,HBS.out,HLL.out.2,by simp⟩
 case round =>
  obtain ⟨left,gsd,bs,A',c',hlen,rfl,hst,has⟩:=hrel
  have HO:=Lib.hid (And.intro hst has)
  clear hst has HS3
  cases gk with
  | zero =>
   have hz:left = []:=List.length_eq_zero_iff.1 hlen
   subst hz
   clear hlen
   go_wp2
   rw [Exit.noGoto_ret]
   go_ret2
   have hf:=HO.out.2.1
   rw [show (orderG ([]:List GNodeD).length bs []) = ([],[]) from rfl,List.append_nil] at hf
   refine (show OrdPost lo ban g mp W0 rs0 N vals ins outs fin _ _ from ⟨fun z l hz=>?_,fun _=>⟨rfl,?_⟩⟩)
   ·rw [← hf] at hz;cases hz
   ·rw [← hf]
    exact (HO.out.1.done HQ.out).base HB.out.2.1
  | succ gA =>
   have hgt:((left.length:Nat):Int) > 0:=by omega
   have hlp:0 < left.length:=by omega
   have hlen':=Lib.hid hlen
   clear hlen
   obtain ⟨A2,c2,hv2,hcA,hcM⟩:=HO.out.1.slice
   simp only [Value.slice.injEq,true_and] at hv2
   obtain ⟨rfl,rfl⟩:=hv2
   replace hcM:c' ≤ 9223372036854775807:=by unfold maxLen at hcM;omega
   go_wp2_with fail
   obtain ⟨wb,rfl⟩:∃ wb,wb = wr:=⟨_,rfl⟩
   go_loopg [5,26] left.length (fun k s5 s26 wr=>∃ j:Nat,j + k = left.length∧s5 = .slice A' left.length c'∧s26 = .int .i64 j∧OSt lo ban g mp w rs N vals ins outs gsd q bs (.slice A' left.length c') left wr∧Aside (∀ n ∈ left.take j,readyD bs n = false))
   case atStart=>exact ⟨0,Nat.zero_add _,rfl,rfl,HO.out.1,by simp [Aside]⟩
   case round =>
    obtain ⟨j,hjk,rfl,rfl,hst,hnr⟩:=hrel
    have HI:=Lib.hid (And.intro hst hnr)
    clear hst hnr
    cases gk with
    | zero =>
     have hj:¬ ((j:Int) < (left.length:Int)):=by omega
     have hjl:=Lib.hid (show j = left.length by omega)
     clear hjk
     obtain ⟨z0,l0,hl0⟩:∃ z0 l0,left = z0 :: l0:=by
      cases left with
      | nil=>have:=hlen'.out;simp at this
      | cons z0 l0=>exact ⟨z0,l0,rfl⟩
     have HL0:=Lib.hid hl0
     obtain ⟨b,c,zc,hv,h1,h2,hbl,hat,-,hrz⟩:=HI.out.1.elem (i:=0) (z:=z0) (by rw [hl0];rfl)
     simp only [Value.slice.injEq,true_and] at hv
     obtain ⟨rfl,rfl⟩:=hv
     obtain ⟨ss,I1,i1,O1,o1,-,-,-,z39,-⟩:=gnode_facts hrz
     have d39:wr.cell? ⟨b,39,none⟩ = some (.int .i64 z0.source):=by simpa using hat 39 _ z39
     clear hat hrz z39 hl0
     go_wp2_with fail
     refine wp_region_held_drew (S:=fun W=>W.cell? ⟨b,39,none⟩ = some (.int .i64 z0.source)) (by kernel_rfl) d39 (fun hHeld=>?_)
     refine take_d9 0 (some 64) (v:=.slice (some ⟨b,0,none⟩) left.length c') rfl (by kernel_rfl) (by kernel_rfl) (by kernel_rfl) (by kernel_rfl) (fun c a w h=>h) (Or.inl ⟨by kernel_rfl,fun w _=>by kernel_rfl⟩) hHeld ?_
     refine take_d9 1 (some 65) (v:=.pointer (some ⟨b,0,none⟩)) rfl (by kernel_rfl) (by kernel_rfl) (by kernel_rfl) (by kernel_rfl) (fun c a w h=>h) (yields_indexQ (by kernel_rfl) _ _ _ rfl b 0 left.length c' 0 40 0 0 (by kernel_rfl) (by kernel_rfl) Tryd.underlying61 (by kernel_rfl) rfl (by omega) rfl) hHeld ?_
     refine take_d9 2 (some 66) (v:=.pointer (some ⟨b,39,none⟩)) rfl (by kernel_rfl) (by kernel_rfl) (by kernel_rfl) (by kernel_rfl) (fun c a w h=>h) (Or.inl ⟨by kernel_rfl,fun w _=>by kernel_rfl⟩) hHeld ?_
     refine take_d9 3 (some 67) (v:=.int .i64 z0.source) rfl (by kernel_rfl) (by kernel_rfl) (by kernel_rfl) (by kernel_rfl) (fun c a w h=>h) (yields_load_one9 (by kernel_rfl) _ _ rfl b (39) (by kernel_rfl) _ _ Tryd.underlying3 rfl (fun _ h=>h)) hHeld ?_
     refine take_d9 4 (some 2) (v:=.int .i64 12) rfl (by kernel_rfl) (by kernel_rfl) (by kernel_rfl) (by kernel_rfl) (fun c a w h=>h) (Or.inl ⟨by kernel_rfl,fun w _=>by kernel_rfl⟩) hHeld ?_
     refine take_d9 5 (some 3) (v:=.int .i64 z0.source) rfl (by kernel_rfl) (by kernel_rfl) (by kernel_rfl) (by kernel_rfl) (fun c a w h=>h) (Or.inl ⟨by kernel_rfl,fun w _=>by kernel_rfl⟩) hHeld ?_
     refine wpAnyH_done (by kernel_rfl) ?_ _
     clear hHeld d39
     go_wp2
     rw [Exit.noGoto_ret]
     go_ret2
     have hnr:∀ n ∈ left,readyD bs n = false:=by
      have h:=HI.out.2
      rw [hjl.out,List.take_length] at h
      exact h
     have hord:orderG left.length bs left = ([],left):=by
      rw [hlen'.out]
      show (match left.findIdx? (readyD bs) with | none=>_ | some i=>_) = _
      rw [List.findIdx?_eq_none_iff.2 hnr]
     have hf:=HO.out.2.1
     rw [hord,List.append_nil] at hf
     refine (show OrdPost lo ban g mp W0 rs0 N vals ins outs fin _ _ from ⟨fun z l hz=>?_,fun hz=>?_⟩)
     ·rw [← hf] at hz
      have hz':z0 :: l0 = z :: l:=HL0.out.symm.trans hz
      have e1:z0 = z:=(List.cons.inj hz').1
      have hg:OSt lo ban g mp w rs N vals ins outs gsd q bs (.slice (some ⟨b,0,none⟩) left.length c') left wr.drew:=HI.out.1.next ((Below.refl wr.heap.size wr).drew)
      refine And.intro ?_ ((hg.gone HQ.out).base HB.out.2.1)
      rw [← e1]
      rfl
     ·rw [← hf] at hz
      have hz':z0 :: l0 = []:=HL0.out.symm.trans hz
      cases hz'
    | succ k =>
     have hj:(j:Int) < (left.length:Int):=by omega
     have hj0:(0:Int) ≤ (j:Int):=Int.natCast_nonneg _
     have hjl:j < left.length:=by omega
     obtain ⟨z,hz⟩:∃ z,left[j]? = some z:=⟨_,List.getElem?_eq_getElem hjl⟩
     have hjk':=Lib.hid hjk
     clear hjk
     have hfz:=HO.out.2.2.2.1 z (List.mem_of_getElem? hz)
     obtain ⟨b,c,zc,hv,h1,h2,hbl,hat,hht,hrz⟩:=HI.out.1.elem hz
     simp only [Value.slice.injEq,true_and] at hv
     obtain ⟨rfl,rfl⟩:=hv
     obtain ⟨ss,I1,i1,O1,o1,-,z37,z38,-,-,zi,zo,-⟩:=gnode_facts hrz
     have HA:=Lib.hid (And.intro hat (And.intro (node_lay hrz) (And.intro hht (And.intro z37 (And.intro z38 (And.intro zi zo))))))
     have HZ:=Lib.hid (And.intro hz hfz)
     clear hat hrz hht z37 z38 zi zo hz hfz h1 h2 hbl
     go_wp2_with (first
      |(with_reducible refine wpList_load_agg rfl 68 _ rfl _ b (j * 40) rfl zc Tryd.underlying68 rfl HA.out.2.1.1 HA.out.1 ?_)
      |(with_reducible refine wpList_alloc_row rfl 68 rfl zeroGN zeroGN_zero ?_)
      |(with_reducible refine wpList_store_agg rfl 68 _ _ rfl _ 0 zc rfl rfl 68 zeroGN (heap_alloc_new _ _) HA.out.2.1.1 HA.out.2.1.2.1 HA.out.2.1.2.2.2 ?_;have hY:=laid_row wr 68 zeroGN zc HA.out.2.1.2.2.1;generalize World.setRow _ _ _ = v3 at hY ⊢;have HY:=Lib.hid hY;clear hY;refine halt ?_))
     unfold Halt
     have hbx:=HA.out.2.2.1.box HY.out.1 HY.out.2.1
     have HX:=Lib.hid hbx
     have hrd:=ready_any zc z.ins _ q vals.length vals.length bs 4 v3 (Rep.len HX.out.rep') HA.out.2.2.2.1 (Rep.more (Rep.keep HA.out.2.2.2.2.2.1 (Keeps.old_below HY.out.1 (Nat.le_refl _))) (old_le HY.out.1.size)) HX.out.st.there HO.out.2.2.1 HZ.out.2.1
     have HRD:=Lib.hid hrd
     clear hbx hrd
     go_wp2_with (with_reducible refine wpList_load_agg rfl 68 _ rfl _ wr.heap.size 0 rfl zc Tryd.underlying68 rfl HA.out.2.1.1 (At.of_row HX.out.row) ?_)
     refine HRD.out.mono ?_
     obtain ⟨y,hy⟩:∃ y,(!z.ins.any (lackD bs)) = y:=⟨_,rfl⟩
     rw [hy]
     have HYY:=Lib.hid (show readyD bs z = y from hy)
     clear hy
     rintro e w4 ⟨rfl,hb4⟩
     have HX4:=Lib.hid (HX.out.next hb4)
     clear hb4 HX HRD
     cases y with
     | false =>
      go_wp2
      go_roundg k
      case measure=>omega
      case rel =>
       refine ⟨j + 1,by have:=hjk'.out;omega,rfl,by go_num,HX4.out.st,?_⟩
       intro n hn
       rw [List.take_add_one,HZ.out.1] at hn
       rcases List.mem_append.1 hn with h | h
       ·exact HI.out.2 n h
       ·simp only [Option.toList_some,List.mem_singleton] at h
        rw [h];exact HYY.out
     | true =>
      have d38:w4.cell? ⟨wr.heap.size,38,none⟩ = some (.slice O1 z.outs.length o1):=cell_of_row' HX4.out.row HA.out.2.2.2.2.1
      obtain ⟨p,hp⟩:∃ p,wr.heap.size = p:=⟨_,rfl⟩
      rw [hp] at HX4 d38
      have HPp:=Lib.hid hp
      have hob:z.outs.length ≤ o1∧o1 ≤ 9223372036854775807:=by obtain ⟨h1,h2⟩:=slice_bnd HA.out.2.2.2.2.2.2;exact ⟨h1,h2⟩
      obtain ⟨hob1,hob2⟩:=hob
      have HX5:=Lib.hid (show OBt lo ban g mp w rs N vals ins outs gsd q (setsT bs []) (.slice (some ⟨b,0,none⟩) left.length c') left zc z p w4 from HX4.out)
      clear HX4
      go_wp2_with fail
      try rw [hp]
      clear d38 hp
      go_loopg [38] z.outs.length (fun k3 s38 wr=>∃ (pre2 post2:List Int),post2.length = k3∧s38 = .int .i64 pre2.length∧OBt lo ban g mp w rs N vals ins outs gsd q (setsT bs pre2) (.slice (some ⟨b,0,none⟩) left.length c') left zc z p wr∧Aside (z.outs = pre2++post2))
      case atStart=>exact ⟨[],z.outs,rfl,rfl,HX5.out,rfl⟩
      case round =>
       obtain ⟨pre2,post2,hlen3,rfl,hst,hpp⟩:=hrel
       have HJ:=Lib.hid hst
       have hpp':=hpp.out
       clear hst hpp
       cases post2 with
       | cons v post2 =>
        have HP3:=Lib.hid (And.intro hlen3 hpp')
        obtain ⟨hzz,hlt,hpp2,hpl2⟩:=split_at hpp'
        obtain ⟨hv0,hv1⟩:=HZ.out.2.2.1 v (List.mem_of_getElem? hzz)
        obtain ⟨jj,rfl⟩:∃ jj:Nat,v = (jj:Int):=⟨v.toNat,by omega⟩
        obtain ⟨ss2,J1,j1,O2,o2,-,-,y38,-,-,-,yo,-⟩:=gnode_facts HJ.out.rep'
        have hsame:=HA.out.2.2.2.2.1
        rw [y38] at hsame
        simp only [Option.some.injEq,Value.slice.injEq,true_and] at hsame
        obtain ⟨rfl,rfl⟩:=hsame
        obtain ⟨O3,o3,ys,hv3,-,-,-,hl,hch⟩:=open_slice yo
        simp only [Value.slice.injEq,true_and] at hv3
        obtain ⟨rfl,rfl⟩:=hv3
        obtain ⟨b2,f2,xc,rfl,hbB2,hrz2,hcell2⟩:=elem_at hl hch (by decide) hzz
        obtain ⟨rfl,hv64⟩:=hrz2
        have k4':wr.cell? ⟨b2,f2 + pre2.length,none⟩ = some (.int .i64 (jj:Int)):=cell_of_elem (α:=Int) rfl hcell2 rfl
        have hk2:(0:Int) ≤ (pre2.length:Int):=Int.natCast_nonneg _
        have hk3:(pre2.length:Int) < (z.outs.length:Int):=by omega
        have H:=Lib.hid (And.intro hpp2 hpl2)
        have hrowq:=HJ.out.st.there
        have hlb:jj < (setsT bs pre2).length:=by rw [setsT_len,HO.out.2.2.1];omega
        have hx0:wr.cell? ⟨q,jj,none⟩ = some (.bool (setsT bs pre2)[jj]):=by
         rw [cell_of_row _ _ _ _ _ _ hrowq,List.getElem?_toArray,List.getElem?_map,List.getElem?_eq_getElem hlb];rfl
        obtain ⟨x0,hx0'⟩:∃ x0,(setsT bs pre2)[jj] = x0:=⟨_,rfl⟩
        rw [hx0'] at hx0
        have fL:wr.frozen? ⟨q,jj,none⟩ = false:=by simp [World.frozen?,hrowq]
        clear hpp' hpp2 hpl2 hzz hcell2 hbB2 hv64 y38 yo hl hch hrowq hlb hx0' hlen3
        go_wp2
        go_roundg post2.length
        case measure=>have:=HP3.out.1;simp at this;omega
        case rel =>
         refine ⟨pre2++[(jj:Int)],post2,rfl,by rw [H.out.2];go_num,?_,H.out.1⟩
         rw [setsT_snoc]
         exact HJ.out.set jj
       | nil =>
        have hpl2:pre2 = z.outs:=by rw [hpp',List.append_nil]
        have hge2:¬ (pre2.length:Int) < (z.outs.length:Int):=by rw [hpl2];omega
        have hB:=HJ.out
        rw [hpl2] at hB
        have HK:=Lib.hid hB
        have HPL:=Lib.hid hpl2
        clear hpp' hpl2 hB hlen3
        go_wp2_with fail
        obtain ⟨vN,xs9,cells,hgl,hlo9,d1,hcl,hown,hkey⟩:=HK.out.push (B:=wr.drew.alloc (.cells zc.toArray 68)) ((Below.refl _ _).drew.alloc (Nat.le_refl _) _)
        have hzl:zc.length = 40:=HA.out.2.1.2.2.1.trans zeroGN_len
        have hlies:=lies_new wr.drew zc 68
        have hAt:At wr.drew p 0 zc:=At.of_row (w:=wr.drew) (show wr.drew.heap[p]? = _ from HK.out.row)
        have hpl:p < wr.drew.heap.size:=(Array.getElem?_eq_some_iff.1 (show wr.drew.heap[p]? = _ from HK.out.row)).1
        have hS1:At (wr.drew.alloc (.cells zc.toArray 68)) p 0 zc:=hAt.alloc hpl _
        obtain ⟨i0,hi0,hz0,hz1,hz2⟩:=info_parts gnInfo
        have hgsl:gsd.length ≤ 1048576:=by have:=HO.out.2.2.2.2;omega
        refine wp_region_held_drew (S:=fun W=>At W p 0 zc) (by kernel_rfl) hAt (fun hHeld=>?_)
        refine take_d9 0 (some 46) (v:=.pointer (some ⟨g,0,none⟩)) rfl (by kernel_rfl) (by kernel_rfl) (by kernel_rfl) (by kernel_rfl) (fun c a w h=>h) (Or.inl ⟨by kernel_rfl,fun w _=>by kernel_rfl⟩) hHeld ?_
        refine take_d9 1 (some 47) (v:=.pointer (some ⟨g,0,none⟩)) rfl (by kernel_rfl) (by kernel_rfl) (by kernel_rfl) (by kernel_rfl) (fun c a w h=>h) (Or.inl ⟨by kernel_rfl,fun w _=>by kernel_rfl⟩) hHeld ?_
        refine take_d9 2 (some 48) (v:=.pointer (some ⟨g,0,none⟩)) rfl (by kernel_rfl) (by kernel_rfl) (by kernel_rfl) (by kernel_rfl) (fun c a w h=>h) (Or.inl ⟨by kernel_rfl,fun w _=>by kernel_rfl⟩) hHeld ?_
        refine take_d9 3 (some 49) (v:=.pointer (some ⟨g,0,none⟩)) rfl (by kernel_rfl) (by kernel_rfl) (by kernel_rfl) (by kernel_rfl) (fun c a w h=>h) (Or.inl ⟨by kernel_rfl,fun w _=>by kernel_rfl⟩) hHeld ?_
        refine take_d9 4 (some 50) (v:=.pointer (some ⟨g,1,none⟩)) rfl (by kernel_rfl) (by kernel_rfl) (by kernel_rfl) (by kernel_rfl) (fun c a w h=>h) (Or.inl ⟨by kernel_rfl,fun w _=>by kernel_rfl⟩) hHeld ?_
        refine take_d9 6 (some 52) (v:=.agg zc.toArray) rfl (by kernel_rfl) (by kernel_rfl) (by kernel_rfl) (by kernel_rfl) (fun c a w h=>h) (yields_load_agg (by kernel_rfl) 68 _ rfl _ p 0 (by kernel_rfl) zc Tryd.underlying68 rfl (by rw [hzl];kernel_rfl) (fun _ h=>h)) hHeld ?_
        refine anyH_load_lay 5 7 51 53 rfl rfl rfl rfl (by decide) (by decide) (by kernel_rfl) (by kernel_rfl) (by kernel_rfl) rfl rfl _ _ rfl g 1 vN _ Tryd.underlying61 rfl (.slice (some ⟨wr.drew.heap.size,0,none⟩) 1 1) (.cells zc.toArray 68) (by kernel_rfl) (by kernel_rfl) d1 hgl (lay_one zc hzl _ rfl (by kernel_rfl)) (lay_one zc hzl _ rfl (by kernel_rfl)) hHeld hS1 ?_
        refine anyH_1 8 rfl (by kernel_rfl) ?_
        refine steps_append9 (by kernel_rfl) _ _ _ rfl lo 68 i0 _ 40 432 Tryd.underlying61 hi0 hz0 hz1 hz2 (by kernel_rfl) (by decide) vN gsd.length xs9 (by kernel_rfl) hown
         (old (wr.drew.heap.size + 1)) (some ⟨wr.drew.heap.size,0,none⟩) 1 1 zc (by kernel_rfl) (by rw [hzl]) hlies HA.out.2.1.2.2.2 (by unfold maxLen;omega) (by omega) (Nat.le_trans hlo9 (by rw [World.size_alloc];exact Nat.le_succ _)) ?_
        intro v9 W9 ho9 hg9 hb9
        obtain ⟨q1,q2,q3,q4,q5⟩:=hkey W9 v9 ho9 hg9 hb9
        have hAt9:At W9 p 0 zc:=At.of_row q3
        refine ⟨hAt9,?_⟩
        refine take_d9 9 (some 55) (v:=.pointer (some ⟨g,0,none⟩)) rfl (by kernel_rfl) (by kernel_rfl) (by kernel_rfl) (by kernel_rfl) (fun c a w h=>h) (Or.inl ⟨by kernel_rfl,fun w _=>by kernel_rfl⟩) hAt9 ?_
        refine take_d9 10 (some 56) (v:=.pointer (some ⟨g,0,none⟩)) rfl (by kernel_rfl) (by kernel_rfl) (by kernel_rfl) (by kernel_rfl) (fun c a w h=>h) (Or.inl ⟨by kernel_rfl,fun w _=>by kernel_rfl⟩) hAt9 ?_
        refine take_d9 11 (some 57) (v:=.pointer (some ⟨g,1,none⟩)) rfl (by kernel_rfl) (by kernel_rfl) (by kernel_rfl) (by kernel_rfl) (fun c a w h=>h) (Or.inl ⟨by kernel_rfl,fun w _=>by kernel_rfl⟩) hAt9 ?_
        refine anyH_store_field 12 rfl (by kernel_rfl) (by kernel_rfl) _ _ _ rfl g 1 v9 (by kernel_rfl) (by kernel_rfl) q2 (by kernel_rfl) 108 cells q1 (by omega) (hAt9.setRow_other (by omega) _) ?_
        refine wpAnyH_done (by kernel_rfl) ?_ _
        generalize World.setRow _ _ _ = wz at q5 ⊢
        have HW:=Lib.hid q5
        clear q5 q4 q3 q2 q1 hb9 hg9 ho9 hlies hS1 hi0 hz0 hz1 hz2 hHeld hkey hown d1 hgl hlo9 hcl hAt hpl hzl hAt9
        have hle1:left.length = gA + 1:=hlen'.out
        obtain ⟨b7,c7,hv7,hdel⟩:=HW.out.delete (i:=j) (e:=gA) hjl hle1 (by have:=HO.out.2.2.2.2;omega)
        rw [hle1] at hv7
        simp only [Value.slice.injEq,true_and,Option.some.injEq,Addr.mk.injEq,and_true] at hv7
        obtain ⟨rfl,rfl⟩:=hv7
        have HDEL:=Lib.hid hdel
        have HLE:=Lib.hid hle1
        have hj9:(j:Int) ≤ 1048576:=by have:=HO.out.2.2.2.2;omega
        clear hdel hle1 hlen'
        go_wp2_with fail
        rw [HLE.out]
        refine HDEL.out.mono ?_
        rintro en w8 ⟨rfl,hfin⟩
        have HFN:=Lib.hid hfin
        clear hfin
        go_wp2
        go_roundg gA
        case measure=>omega
        case rel =>
         have hle:(left.eraseIdx j).length = gA:=by rw [List.length_eraseIdx_of_lt hjl,HLE.out];rfl
         refine ⟨left.eraseIdx j,gsd++[z],setsT bs z.outs,some ⟨b,0,none⟩,c',hle,by rw [hle],by rw [hle];exact HFN.out,?_,by rw [setsT_len];exact HO.out.2.2.1,fun n hn=>HO.out.2.2.2.1 n (List.mem_of_mem_eraseIdx hn),?_⟩
         ·have h:=HO.out.2.1
          rw [HLE.out,order_step HI.out.2 HZ.out.1 HYY.out] at h
          rw [hle,List.append_assoc]
          exact h
         ·have h:=HO.out.2.2.2.2
          rw [hle,List.length_append,List.length_singleton]
          have:=HLE.out
          omega
end Go.Proofs.YtgbkhcmbmffljaaDoor
