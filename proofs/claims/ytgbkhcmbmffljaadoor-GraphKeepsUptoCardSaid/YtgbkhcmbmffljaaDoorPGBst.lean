/-
  Chapter 09: the builder of a graph: its memory.
-/
import Derived.Test.YtgbkhcmbmffljaaDoorPGStep
import Derived.Test.YtgbkhcmbmffljaaDoorPGRows
import Derived.Test.YtgbkhcmbmffljaaDoorPGNode
set_option linter.unusedSimpArgs false
set_option linter.unusedVariables false
namespace Go.Proofs.YtgbkhcmbmffljaaDoor
open Go.RowKit
open Rep (rep)
theorem own_poke {w:World} {base:Nat} {e:TypeId} {size:Nat} {n c b:Nat} {xs:List Value} (h:w.ownsRow base e size (.slice (some ⟨b,0,none⟩) n c) n xs) (off:Nat) (u:Value) :
  (w.setCell ⟨b,off,none⟩ u).ownsRow base e size (.slice (some ⟨b,0,none⟩) n c) n (xs.set off u)∧w.grownBy (w.setCell ⟨b,off,none⟩ u) (some b):=by
 obtain ⟨h1,h2⟩:=h
 rcases h2 with ⟨hv,_⟩ | ⟨g,cap,cur,hv,hb,hh,h3,h4,h5,h6⟩
 ·cases hv
 ·simp only [Value.slice.injEq,Option.some.injEq,Addr.mk.injEq,and_true] at hv
  obtain ⟨rfl,_,rfl⟩:=hv
  rw [set_as_row hh]
  refine ⟨⟨by rw [List.length_set];exact h1,.inr ⟨b,c,_,rfl,hb,heap_setRow _ _ _ _ _ hh,h3,h4,by simpa using h5,?_⟩⟩,grown_setRow _ _ _⟩
  rw [Array.toList_setIfInBounds,List.take_set,h6]
theorem own_some {w:World} {base:Nat} {e:TypeId} {size:Nat} {v:Value} {n:Nat} {xs:List Value} (h:w.ownsRow base e size v n xs) (hn:0 < n) :
  ∃ b c,v = .slice (some ⟨b,0,none⟩) n c∧n ≤ c∧c ≤ maxLen∧base ≤ b∧b < w.heap.size∧∀ j u,xs[j]? = some u→w.cell? ⟨b,j,none⟩ = some u∧w.frozen? ⟨b,j,none⟩ = false:=by
 rcases h.2 with ⟨hv,h0⟩ | ⟨g,cap,cur,hv,hb,hh,h3,h4,h5,h6⟩
 ·omega
 ·refine ⟨g,cap,hv,h3,h4,hb,(Array.getElem?_eq_some_iff.1 hh).1,fun j u hu=>⟨?_,by simp [World.frozen?,hh]⟩⟩
  have:=h.cells (g:=g) (by rw [hv];rfl) j u hu
  rwa [show (⟨g,0,none⟩:Addr).add j = ⟨g,j,none⟩ by unfold Addr.add;split <;> simp_all] at this
theorem own_slice {w:World} {base:Nat} {e:TypeId} {size:Nat} {v:Value} {n:Nat} {xs:List Value} (h:w.ownsRow base e size v n xs):∃ A c,v = .slice A n c∧n ≤ c∧c ≤ maxLen:=by
 rcases h.2 with ⟨hv,h0⟩ | ⟨g,cap,cur,hv,hb,hh,h3,h4,h5,h6⟩
 ·exact ⟨none,0,by rw [hv,h0],by omega,Nat.zero_le _⟩
 ·exact ⟨_,cap,hv,h3,h4⟩
section
variable {lo:Nat} {ban:List Nat} {rs:List RowV} {W W':World}
theorem Rws.poke (h:Rws lo ban rs W) {i:Nat} {r:RowV} (hi:rs[i]? = some r) {b c:Nat} (hv:r.v = .slice (some ⟨b,0,none⟩) r.n c) (off:Nat) (u:Value) :
  Moves lo ban rs (rs.set i { r with xs:=r.xs.set off u }) W (W.setCell ⟨b,off,none⟩ u):=by
 have ho:=h.own i r hi
 rw [hv] at ho
 obtain ⟨h1,h2⟩:=own_poke ho off u
 refine h.grow hi (by rw [hv];exact h2) ?_ (.inl rfl)
 show World.ownsRow _ lo r.e r.size r.v r.n _
 rw [hv]
 exact h1
end
section
variable {P:Program} {md:Region.Mode} {ops:Array Oper} {Q:Exit→Act→World→Prop} {S:World→Prop} {fuel:Nat} {listed:Array Bool} {a:Act} {w:World} {o:Oper}
theorem steps_append9 {i:Nat} (hw:Region.wanted o (yielded ops a.tmps) = true) (s x:Operand) (t:TypeId) (ho:o.op = .call { callee:=.builtin .append,args:=#[s,x],argTypes:=#[t,t] })
  (base:Nat) (e:TypeId) (j:TypeInfo) (z:Value) (size bytes:Nat) (ht:P.underlying t = some (.slice e)) (hi:P.info? e = some j) (hz:j.zero = some z)
  (hsize:j.size = size) (hby:j.bytes = bytes) (hzs:z.cells.size = size) (hsz:0 < size)
  (v:Value) (n:Nat) (xs:List Value) (hs:a.eval s = v) (hown:w.ownsRow base e size v n xs)
  (Z:Zone) (A:Option Addr) (m c:Nat) (news:List Value) (hx:a.eval x = .slice A m c) (hl:news.length = m * size) (hr:Lies w Z A news) (h1:∀ u ∈ news,u.oneCell' = true)
  (h63:n + m ≤ maxLen) (hbytes:(n + m) * bytes ≤ 140737488355328) (hbase:base ≤ w.heap.size)
  (h:∀ v' w',w'.ownsRow base e size v' (n + m) (xs++news)→w.grownBy w' v.ownBlock→(v'.ownBlock = v.ownBlock ∨ v'.ownBlock = some w.heap.size)→S w'∧wpAnyH P md ops Q S fuel (listed.setIfInBounds i true) (a.put o.dst v') w'):StepTo P md ops Q S fuel listed i o a w:=by
 obtain ⟨v',w',hrun,h2,h3,h4⟩:=run_append_lies (P:=P) w base t o.type e j z size bytes ht hi hz hsize hby hzs hsz v n xs hown Z A m c news hl hr h1 h63 hbytes hbase
 refine ⟨hw,v',w',?_,(h v' w' h2 h3 h4).1,(h v' w' h2 h3 h4).2⟩
 simp [execOp,ho,resolve,invoke,builtin,hs,hx,hrun,Result.andThen]
end
theorem yields_len9 {P:Program} {ops:Array Oper} {S:World→Prop} {o:Oper} {a:Act} {e:TypeId} (hw:Region.wanted o (yielded ops a.tmps) = true) (x:Operand) (t:TypeId) (ho:o.op = .call { callee:=.builtin .len,args:=#[x],argTypes:=#[t] })
  (A:Option Addr) (n c:Nat) (hx:a.eval x = .slice A n c) (ht:P.underlying t = some (.slice e)):YieldsIf P ops S o (.int .i64 (n:Int)) a :=
 .inl ⟨hw,fun w h=>by
  unfold execOp
  simp only [ho]
  simp [resolve,invoke,builtin,hx]
  go_simp⟩
theorem gnode_outs {w:World} {Z:Zone} {cs:List Value} {a:GNodeD} (h:rep w Z cs a) {v:Value} {l:List Int} (hv:rep w Z [v] l):rep w Z (cs.set 38 v) ({ a with outs:=l }:GNodeD):=by
 obtain ⟨ss,A1,k1,A2,k2,rfl,h0,hs,h1,h2,h4⟩:=open_GNodeD h
 have hl:ss.length = 36:=hs.len
 have e:([.int .i64 a.op]++(ss++([.slice A1 a.ins.length k1]++([.slice A2 a.outs.length k2]++[.int .i64 a.source]))):List Value).set 38 v = [.int .i64 a.op]++(ss++([.slice A1 a.ins.length k1]++([v]++[.int .i64 a.source]))):=by
  simp [List.set_append,hl]
 rw [e]
 exact shut_GNodeD (a:={ a with outs:=l }) h0 hs h1 hv h4
theorem gnode_ins {w:World} {Z:Zone} {cs:List Value} {a:GNodeD} (h:rep w Z cs a) {v:Value} {l:List Int} (hv:rep w Z [v] l):rep w Z (cs.set 37 v) ({ a with ins:=l }:GNodeD):=by
 obtain ⟨ss,A1,k1,A2,k2,rfl,h0,hs,h1,h2,h4⟩:=open_GNodeD h
 have hl:ss.length = 36:=hs.len
 have e:([.int .i64 a.op]++(ss++([.slice A1 a.ins.length k1]++([.slice A2 a.outs.length k2]++[.int .i64 a.source]))):List Value).set 37 v = [.int .i64 a.op]++(ss++([v]++([.slice A2 a.outs.length k2]++[.int .i64 a.source]))):=by
  simp [List.set_append,hl]
 rw [e]
 exact shut_GNodeD (a:={ a with ins:=l }) h0 hs hv h2 h4
structure Bst (lo:Nat) (ban:List Nat) (g mp:Nat) (rV rN rI rO rn:RowV) (ex:List RowV) (ns:List ByteArray) (W:World):Prop where
 rows:Rws lo ban (rV :: rN :: rI :: rO :: rn :: ex) W
 box:W.heap[g]? = some (.cells ([rV.v,rN.v,rI.v,rO.v,.map (some mp),rn.v]:List Value).toArray 108 (0,0))
 map:MapOf W mp ns.length (fun s=>placeD ns s + 1)
 gin:g ∈ ban
 min:mp ∈ ban
 ne:mp ≠ g
section
variable {lo:Nat} {ban:List Nat} {g mp:Nat} {rV rN rI rO rn:RowV} {ex:List RowV} {ns:List ByteArray} {W W':World}
theorem Bst.lt (h:Bst lo ban g mp rV rN rI rO rn ex ns W):g < W.heap.size:=(Array.getElem?_eq_some_iff.1 h.box).1
theorem Bst.lo_le (h:Bst lo ban g mp rV rN rI rO rn ex ns W):lo ≤ W.heap.size:=h.rows.base
theorem Bst.cell (h:Bst lo ban g mp rV rN rI rO rn ex ns W) {j:Nat} {u:Value} (hj:([rV.v,rN.v,rI.v,rO.v,.map (some mp),rn.v]:List Value)[j]? = some u):W.cell? ⟨g,j,none⟩ = some u:=by
 rw [cell_of_row _ _ _ _ _ _ h.box,List.getElem?_toArray];exact hj
theorem Bst.next (h:Bst lo ban g mp rV rN rI rO rn ex ns W) (hb:Below W.heap.size W W'):Bst lo ban g mp rV rN rI rO rn ex ns W'∧Moves lo ban (rV :: rN :: rI :: rO :: rn :: ex) (rV :: rN :: rI :: rO :: rn :: ex) W W' :=
 have hm:=h.rows.below hb
 ⟨⟨hm.rows,(hb.block _ h.lt).trans h.box,h.map.below hb (h.rows.ban _ h.min).2,h.gin,h.min,h.ne⟩,hm⟩
theorem Bst.drew (h:Bst lo ban g mp rV rN rI rO rn ex ns W):Bst lo ban g mp rV rN rI rO rn ex ns W.drew:=(h.next (Below.refl _ _).drew).1
theorem Bst.kept (h:Bst lo ban g mp rV rN rI rO rn ex ns W) {i:Nat} {r r':RowV} (hi:(rV :: rN :: rI :: rO :: rn :: ex)[i]? = some r) (hg:W.grownBy W' r.v.ownBlock) :
  W'.heap[g]? = some (.cells ([rV.v,rN.v,rI.v,rO.v,.map (some mp),rn.v]:List Value).toArray 108 (0,0))∧MapOf W' mp ns.length (fun s=>placeD ns s + 1) :=
 ⟨(hg.block _ h.lt (fun e=>h.rows.free g h.gin i r hi e.symm)).trans h.box,h.map.kept hg (fun e=>h.rows.free mp h.min i r hi e.symm)⟩
theorem Bst.push (h:Bst lo ban g mp rV rN rI rO rn ex ns W) {i:Nat} {r:RowV} (hi:(rV :: rN :: rI :: rO :: rn :: ex)[i]? = some r) (hg:W.grownBy W' r.v.ownBlock) {v':Value} {n':Nat} {xs':List Value}
  (ho:W'.ownsRow lo r.e r.size v' n' xs') (hb:v'.ownBlock = r.v.ownBlock ∨ v'.ownBlock = some W.heap.size ∨ v'.ownBlock = none) (cs:List Value) :
  Moves lo ban (rV :: rN :: rI :: rO :: rn :: ex) ((rV :: rN :: rI :: rO :: rn :: ex).set i ⟨v',r.e,r.size,n',xs'⟩) W (W'.setRow g cs.toArray) ∧
  (W'.setRow g cs.toArray).heap[g]? = some (.cells cs.toArray 108 (0,0))∧MapOf (W'.setRow g cs.toArray) mp ns.length (fun s=>placeD ns s + 1):=by
 have hm:=h.rows.grow (r':=⟨v',r.e,r.size,n',xs'⟩) hi hg ho hb
 have hk:=h.kept (r':=r) hi hg
 exact ⟨hm.trans (hm.rows.wrote h.gin (grown_setRow _ _ _)),heap_setRow _ _ _ _ _ hk.1,hk.2.kept (grown_setRow _ _ _) (fun e=>h.ne (by injection e))⟩
theorem Bst.pushV (h:Bst lo ban g mp rV rN rI rO rn ex ns W) (hg:W.grownBy W' rV.v.ownBlock) {v':Value} {n':Nat} {xs':List Value} (ho:W'.ownsRow lo rV.e rV.size v' n' xs') (hb:v'.ownBlock = rV.v.ownBlock ∨ v'.ownBlock = some W.heap.size ∨ v'.ownBlock = none) :
  Bst lo ban g mp ⟨v',rV.e,rV.size,n',xs'⟩ rN rI rO rn ex ns (W'.setRow g (([rV.v,rN.v,rI.v,rO.v,.map (some mp),rn.v]:List Value).set 0 v').toArray) ∧
  Moves lo ban (rV :: rN :: rI :: rO :: rn :: ex) (⟨v',rV.e,rV.size,n',xs'⟩ :: rN :: rI :: rO :: rn :: ex) W (W'.setRow g (([rV.v,rN.v,rI.v,rO.v,.map (some mp),rn.v]:List Value).set 0 v').toArray) :=
 have ⟨h1,h2,h3⟩:=h.push (i:=0) rfl hg ho hb (([rV.v,rN.v,rI.v,rO.v,.map (some mp),rn.v]:List Value).set 0 v')
 ⟨⟨h1.rows,h2,h3,h.gin,h.min,h.ne⟩,h1⟩
theorem Bst.pushN (h:Bst lo ban g mp rV rN rI rO rn ex ns W) (hg:W.grownBy W' rN.v.ownBlock) {v':Value} {n':Nat} {xs':List Value} (ho:W'.ownsRow lo rN.e rN.size v' n' xs') (hb:v'.ownBlock = rN.v.ownBlock ∨ v'.ownBlock = some W.heap.size ∨ v'.ownBlock = none) :
  Bst lo ban g mp rV ⟨v',rN.e,rN.size,n',xs'⟩ rI rO rn ex ns (W'.setRow g (([rV.v,rN.v,rI.v,rO.v,.map (some mp),rn.v]:List Value).set 1 v').toArray) ∧
  Moves lo ban (rV :: rN :: rI :: rO :: rn :: ex) (rV :: ⟨v',rN.e,rN.size,n',xs'⟩ :: rI :: rO :: rn :: ex) W (W'.setRow g (([rV.v,rN.v,rI.v,rO.v,.map (some mp),rn.v]:List Value).set 1 v').toArray) :=
 have ⟨h1,h2,h3⟩:=h.push (i:=1) rfl hg ho hb (([rV.v,rN.v,rI.v,rO.v,.map (some mp),rn.v]:List Value).set 1 v')
 ⟨⟨h1.rows,h2,h3,h.gin,h.min,h.ne⟩,h1⟩
theorem Bst.pushI (h:Bst lo ban g mp rV rN rI rO rn ex ns W) (hg:W.grownBy W' rI.v.ownBlock) {v':Value} {n':Nat} {xs':List Value} (ho:W'.ownsRow lo rI.e rI.size v' n' xs') (hb:v'.ownBlock = rI.v.ownBlock ∨ v'.ownBlock = some W.heap.size ∨ v'.ownBlock = none) :
  Bst lo ban g mp rV rN ⟨v',rI.e,rI.size,n',xs'⟩ rO rn ex ns (W'.setRow g (([rV.v,rN.v,rI.v,rO.v,.map (some mp),rn.v]:List Value).set 2 v').toArray) ∧
  Moves lo ban (rV :: rN :: rI :: rO :: rn :: ex) (rV :: rN :: ⟨v',rI.e,rI.size,n',xs'⟩ :: rO :: rn :: ex) W (W'.setRow g (([rV.v,rN.v,rI.v,rO.v,.map (some mp),rn.v]:List Value).set 2 v').toArray) :=
 have ⟨h1,h2,h3⟩:=h.push (i:=2) rfl hg ho hb (([rV.v,rN.v,rI.v,rO.v,.map (some mp),rn.v]:List Value).set 2 v')
 ⟨⟨h1.rows,h2,h3,h.gin,h.min,h.ne⟩,h1⟩
theorem Bst.pushO (h:Bst lo ban g mp rV rN rI rO rn ex ns W) (hg:W.grownBy W' rO.v.ownBlock) {v':Value} {n':Nat} {xs':List Value} (ho:W'.ownsRow lo rO.e rO.size v' n' xs') (hb:v'.ownBlock = rO.v.ownBlock ∨ v'.ownBlock = some W.heap.size ∨ v'.ownBlock = none) :
  Bst lo ban g mp rV rN rI ⟨v',rO.e,rO.size,n',xs'⟩ rn ex ns (W'.setRow g (([rV.v,rN.v,rI.v,rO.v,.map (some mp),rn.v]:List Value).set 3 v').toArray) ∧
  Moves lo ban (rV :: rN :: rI :: rO :: rn :: ex) (rV :: rN :: rI :: ⟨v',rO.e,rO.size,n',xs'⟩ :: rn :: ex) W (W'.setRow g (([rV.v,rN.v,rI.v,rO.v,.map (some mp),rn.v]:List Value).set 3 v').toArray) :=
 have ⟨h1,h2,h3⟩:=h.push (i:=3) rfl hg ho hb (([rV.v,rN.v,rI.v,rO.v,.map (some mp),rn.v]:List Value).set 3 v')
 ⟨⟨h1.rows,h2,h3,h.gin,h.min,h.ne⟩,h1⟩
theorem Bst.pushn (h:Bst lo ban g mp rV rN rI rO rn ex ns W) (hg:W.grownBy W' rn.v.ownBlock) {v':Value} {n':Nat} {xs':List Value} (ho:W'.ownsRow lo rn.e rn.size v' n' xs') (hb:v'.ownBlock = rn.v.ownBlock ∨ v'.ownBlock = some W.heap.size ∨ v'.ownBlock = none) :
  Bst lo ban g mp rV rN rI rO ⟨v',rn.e,rn.size,n',xs'⟩ ex ns (W'.setRow g (([rV.v,rN.v,rI.v,rO.v,.map (some mp),rn.v]:List Value).set 5 v').toArray) ∧
  Moves lo ban (rV :: rN :: rI :: rO :: rn :: ex) (rV :: rN :: rI :: rO :: ⟨v',rn.e,rn.size,n',xs'⟩ :: ex) W (W'.setRow g (([rV.v,rN.v,rI.v,rO.v,.map (some mp),rn.v]:List Value).set 5 v').toArray) :=
 have ⟨h1,h2,h3⟩:=h.push (i:=4) rfl hg ho hb (([rV.v,rN.v,rI.v,rO.v,.map (some mp),rn.v]:List Value).set 5 v')
 ⟨⟨h1.rows,h2,h3,h.gin,h.min,h.ne⟩,h1⟩
theorem Bst.name (h:Bst lo ban g mp rV rN rI rO rn ex ns W) {s:ByteArray} (hs:s ∉ ns) (hg:W.grownBy W' (some mp)) (hm:MapOf W' mp (ns.length + 1) (fun z=>if z = s then ((ns.length + 1:Nat):Int) else placeD ns z + 1)) :
  Bst lo ban g mp rV rN rI rO rn ex (ns++[s]) W'∧Moves lo ban (rV :: rN :: rI :: rO :: rn :: ex) (rV :: rN :: rI :: rO :: rn :: ex) W W':=by
 have h1:=h.rows.wrote h.min hg
 refine ⟨⟨h1.rows,(hg.block _ h.lt (fun e=>h.ne (by injection e with e;exact e.symm))).trans h.box,?_,h.gin,h.min,h.ne⟩,h1⟩
 rw [List.length_append]
 have e:(fun z=>if z = s then ((ns.length + 1:Nat):Int) else placeD ns z + 1) = fun z=>placeD (ns++[s]) z + 1:=by
  funext z
  rw [place_snoc ns s z hs]
  split <;> simp
 rw [e] at hm
 exact hm
theorem Bst.grow_ex {rc:RowV} (h:Bst lo ban g mp rV rN rI rO rn [rc] ns W) (hg:W.grownBy W' rc.v.ownBlock) {v':Value} {n':Nat} {xs':List Value} (ho:W'.ownsRow lo rc.e rc.size v' n' xs') (hb:v'.ownBlock = rc.v.ownBlock ∨ v'.ownBlock = some W.heap.size ∨ v'.ownBlock = none) :
  Bst lo ban g mp rV rN rI rO rn [⟨v',rc.e,rc.size,n',xs'⟩] ns W'∧Moves lo ban [rV,rN,rI,rO,rn,rc] [rV,rN,rI,rO,rn,⟨v',rc.e,rc.size,n',xs'⟩] W W':=by
 have hm:=h.rows.grow (i:=5) (r:=rc) (r':=⟨v',rc.e,rc.size,n',xs'⟩) rfl hg ho hb
 have hk:=h.kept (i:=5) (r:=rc) (r':=rc) rfl hg
 exact ⟨⟨hm.rows,hk.1,hk.2,h.gin,h.min,h.ne⟩,hm⟩
theorem Bst.poke_n (h:Bst lo ban g mp rV rN rI rO rn ex ns W) {b c:Nat} (hv:rn.v = .slice (some ⟨b,0,none⟩) rn.n c) (off:Nat) (u:Value) :
  Bst lo ban g mp rV rN rI rO { rn with xs:=rn.xs.set off u } ex ns (W.setCell ⟨b,off,none⟩ u)∧Moves lo ban (rV :: rN :: rI :: rO :: rn :: ex) (rV :: rN :: rI :: rO :: { rn with xs:=rn.xs.set off u } :: ex) W (W.setCell ⟨b,off,none⟩ u):=by
 have hm:=h.rows.poke (i:=4) (r:=rn) rfl hv off u
 have ho:=h.rows.own 4 rn rfl
 rw [hv] at ho
 have hk:=h.kept (i:=4) (r:=rn) (r':=rn) rfl (by rw [hv];exact (own_poke ho off u).2)
 exact ⟨⟨hm.rows,hk.1,hk.2,h.gin,h.min,h.ne⟩,hm⟩
theorem Bst.add_ex (h:Bst lo ban g mp rV rN rI rO rn [] ns W) (e:TypeId) (size:Nat) :
  Bst lo ban g mp rV rN rI rO rn [⟨.slice none 0 0,e,size,0,[]⟩] ns W∧Moves lo ban [rV,rN,rI,rO,rn] [rV,rN,rI,rO,rn,⟨.slice none 0 0,e,size,0,[]⟩] W W :=
 have hm:=h.rows.add e size
 ⟨⟨hm.rows,h.box,h.map,h.gin,h.min,h.ne⟩,hm⟩
theorem Bst.drop_ex {rc:RowV} (h:Bst lo ban g mp rV rN rI rO rn [rc] ns W) :
  Bst lo ban g mp rV rN rI rO rn [] ns W∧Moves lo ban [rV,rN,rI,rO,rn,rc] [rV,rN,rI,rO,rn] W W :=
 have hm:=Rws.drop (rs:=[rV,rN,rI,rO,rn]) h.rows
 ⟨⟨hm.rows,h.box,h.map,h.gin,h.min,h.ne⟩,hm⟩
end
structure PartD where
 g:GNodeD
 i:Bool
 o:Bool
instance:Rep PartD where
 size:=40
 bytes:=Rep.bytes GNodeD
 rep w Z cs p:=rep w Z cs p.g∧(p.i = true→cs[37]? = some (.slice none 0 0))∧(p.o = true→cs[38]? = some (.slice none 0 0))
 len h:=gnode_len h.1
 one h:=Rep.one h.1
 keep h k:=⟨Rep.keep h.1 k,h.2⟩
 more h k:=⟨Rep.more h.1 k,h.2⟩
theorem parts_nodes {w:World} {Z:Zone}:∀ {l:List PartD} {xs:List Value},Chunks w Z xs l→Chunks w Z xs (l.map (·.g))
 | [],_,h=>h
 | _ :: _,_,⟨c,r,hx,hc,hr⟩=>⟨c,r,hx,hc.1,parts_nodes hr⟩
structure Data {α:Type} [Rep α] (W:World) (Z:Zone) (r:RowV) (e:TypeId) (l:List α):Prop where
 e:r.e = e
 size:r.size = Rep.size α
 n:r.n = l.length
 chunks:Chunks W Z r.xs l
structure Hot (W:World) (Z:Zone) (rn rc:RowV) (off:Nat) (pre:List PartD) (g0:PartD) (post:List PartD) (xa cs0 xb:List Value):Prop where
 e:rn.e = 68
 size:rn.size = 40
 n:rn.n = pre.length + (1 + post.length)
 xs:rn.xs = xa++(cs0.set off rc.v++xb)
 ahead:Chunks W Z xa pre
 node:rep W Z cs0 g0
 behind:Chunks W Z xb post
theorem chunks_split {α:Type} [Rep α] {W:World} {Z:Zone}:∀ {pre post:List α} {xs:List Value},Chunks W Z xs (pre++post)→∃ xa xb,xs = xa++xb∧Chunks W Z xa pre∧Chunks W Z xb post
 | [],_,xs,h=>⟨[],xs,rfl,rfl,h⟩
 | a :: pre,post,xs,⟨c,r,hx,hc,hr⟩=>by
  obtain ⟨xa,xb,rfl,h1,h2⟩:=chunks_split (pre:=pre) hr
  exact ⟨c++xa,xb,by rw [hx,List.append_assoc],⟨c,xa,rfl,hc,h1⟩,h2⟩
theorem set_same {α:Type} {l:List α} {i:Nat} {a:α} (h:l[i]? = some a):l.set i a = l:=by
 apply List.ext_getElem?
 intro j
 rw [List.getElem?_set]
 split
 ·rename_i e;subst e
  rw [if_pos (List.getElem?_eq_some_iff.1 h).1,h]
 ·rfl
section
variable {lo:Nat} {ban:List Nat} {rs rs':List RowV} {W W':World} {α:Type} [Rep α] {r rn rc:RowV} {e:TypeId} {l:List α} {off:Nat} {pre post:List PartD} {g0:PartD} {xa cs0 xb:List Value}
theorem Data.move (d:Data W (cold lo ban rs W) r e l) (h:Moves lo ban rs rs' W W'):Data W' (cold lo ban rs' W') r e l:=⟨d.e,d.size,d.n,h.chunks d.chunks⟩
theorem Data.snoc {Z:Zone} {v':Value} {a:α} {cs:List Value} (d:Data W Z r e l) (ha:rep W Z cs a):Data W Z ⟨v',r.e,r.size,r.n + 1,r.xs++cs⟩ e (l++[a]) :=
 ⟨d.e,d.size,by rw [List.length_append,← d.n];rfl,d.chunks.snoc ha⟩
theorem Data.nil (W:World) (Z:Zone) (v:Value) (e:TypeId):Data W Z ⟨v,e,Rep.size α,0,[]⟩ e ([]:List α):=⟨rfl,rfl,rfl,rfl⟩
theorem Hot.move (d:Hot W (cold lo ban rs W) rn rc off pre g0 post xa cs0 xb) (h:Moves lo ban rs rs' W W'):Hot W' (cold lo ban rs' W') rn rc off pre g0 post xa cs0 xb :=
 ⟨d.e,d.size,d.n,d.xs,h.chunks d.ahead,h.rep d.node,h.chunks d.behind⟩
theorem Hot.len_ahead {Z:Zone} (d:Hot W Z rn rc off pre g0 post xa cs0 xb):xa.length = pre.length * 40:=d.ahead.len
theorem Hot.len_node {Z:Zone} (d:Hot W Z rn rc off pre g0 post xa cs0 xb):cs0.length = 40:=Rep.len d.node
theorem Hot.poke {Z:Zone} (d:Hot W Z rn rc off pre g0 post xa cs0 xb) (ho:off < 40) (rc':RowV):Hot W Z { rn with xs:=rn.xs.set (pre.length * 40 + off) rc'.v } rc' off pre g0 post xa cs0 xb:=by
 have hl:=d.len_ahead
 have hc:=d.len_node
 refine ⟨d.e,d.size,d.n,?_,d.ahead,d.node,d.behind⟩
 show rn.xs.set _ _ = _
 rw [d.xs,List.set_append,if_neg (by omega),hl,Nat.add_sub_cancel_left,List.set_append,if_pos (by rw [List.length_set];omega),List.set_set]
theorem Hot.get {Z:Zone} (d:Hot W Z rn rc off pre g0 post xa cs0 xb) {j:Nat} {u:Value} (hj:(cs0.set off rc.v)[j]? = some u):rn.xs[pre.length * 40 + j]? = some u:=by
 have hl:=d.len_ahead
 have h1:=(List.getElem?_eq_some_iff.1 hj).1
 rw [d.xs,List.getElem?_append_right (by omega),hl,Nat.add_sub_cancel_left,List.getElem?_append_left h1]
 exact hj
theorem Data.hot {Z:Zone} {l:List PartD} (d:Data W Z rn 68 l) (e:l = pre++g0 :: post) (off:Nat) (h0:∀ cs0:List Value,rep W Z cs0 g0→cs0[off]? = some (.slice none 0 0)) (hc:rc.v = .slice none 0 0) :
  ∃ xa cs0 xb,Hot W Z rn rc off pre g0 post xa cs0 xb:=by
 subst e
 obtain ⟨xa,xr,hx,h1,cs0,xb,rfl,h2,h3⟩:=chunks_split d.chunks
 refine ⟨xa,cs0,xb,d.e,d.size,by rw [d.n];simp;omega,?_,h1,h2,h3⟩
 rw [hx,hc,set_same (h0 cs0 h2)]
theorem Hot.cool {Z:Zone} {g1:PartD} (d:Hot W Z rn rc off pre g0 post xa cs0 xb) (h:rep W Z (cs0.set off rc.v) g1):Data W Z rn 68 (pre++g1 :: post):=by
 refine ⟨d.e,d.size,by rw [d.n];simp;omega,?_⟩
 rw [d.xs]
 exact d.ahead.append ⟨_,_,rfl,h,d.behind⟩
end
theorem part_outs {w:World} {Z:Zone} {cs:List Value} {p:PartD} (h:rep w Z cs p) {v:Value} {l:List Int} (hv:rep w Z [v] l):rep w Z (cs.set 38 v) (⟨{ p.g with outs:=l },p.i,false⟩:PartD) :=
 ⟨gnode_outs h.1 hv,fun e=>by rw [List.getElem?_set,if_neg (by decide)];exact h.2.1 e,fun e=>by cases e⟩
theorem part_ins {w:World} {Z:Zone} {cs:List Value} {p:PartD} (h:rep w Z cs p) {v:Value} {l:List Int} (hv:rep w Z [v] l):rep w Z (cs.set 37 v) (⟨{ p.g with ins:=l },false,p.o⟩:PartD):=by
 refine And.intro (gnode_ins h.1 hv) (And.intro (fun e=>by cases e) fun e=>?_)
 rw [List.getElem?_set,if_neg (by decide)]
 exact h.2.2 e
section
variable {lo:Nat} {ban:List Nat} {g mp:Nat} {rV rN rI rO rn rc:RowV} {ns:List ByteArray} {W W9:World}
theorem Bst.push_ex (h:Bst lo ban g mp rV rN rI rO rn [rc] ns W) {off:Nat} {pre post:List PartD} {g0:PartD} {xa cs0 xb:List Value} {l:List Int} (hot:Hot W (cold lo ban [rV,rN,rI,rO,rn,rc] W) rn rc off pre g0 post xa cs0 xb)
  (d:Data W (cold lo ban [rV,rN,rI,rO,rn,rc] W) rc 3 l) {x:Int} (hx:I64 x) (ho:off < 40) {b c:Nat} (hv:rn.v = .slice (some ⟨b,0,none⟩) rn.n c) {q:Nat} (hq:q = pre.length * 40 + off) {v9:Value}
  (hown:W9.ownsRow lo 3 1 v9 (rc.n + 1) (rc.xs++[.int .i64 x])) (hg:(W.drew.alloc (.cells #[.int .i64 x] 3)).grownBy W9 rc.v.ownBlock) (hb:v9.ownBlock = rc.v.ownBlock ∨ v9.ownBlock = some (W.drew.alloc (.cells #[.int .i64 x] 3)).heap.size) :
  W9.cell? ⟨b,q,none⟩ = some rc.v∧W9.frozen? ⟨b,q,none⟩ = false∧v9.oneCell' = true ∧
  (∀ k u,([rV.v,rN.v,rI.v,rO.v,.map (some mp),rn.v]:List Value)[k]? = some u→W9.cell? ⟨g,k,none⟩ = some u∧(W9.setCell ⟨b,q,none⟩ v9).cell? ⟨g,k,none⟩ = some u) ∧
  Bst lo ban g mp rV rN rI rO { rn with xs:=rn.xs.set q v9 } [⟨v9,rc.e,rc.size,rc.n + 1,rc.xs++[.int .i64 x]⟩] ns (W9.setCell ⟨b,q,none⟩ v9) ∧
  Moves lo ban [rV,rN,rI,rO,rn,rc] [rV,rN,rI,rO,{ rn with xs:=rn.xs.set q v9 },⟨v9,rc.e,rc.size,rc.n + 1,rc.xs++[.int .i64 x]⟩] W (W9.setCell ⟨b,q,none⟩ v9) ∧
  Hot (W9.setCell ⟨b,q,none⟩ v9) (cold lo ban [rV,rN,rI,rO,{ rn with xs:=rn.xs.set q v9 },⟨v9,rc.e,rc.size,rc.n + 1,rc.xs++[.int .i64 x]⟩] (W9.setCell ⟨b,q,none⟩ v9)) { rn with xs:=rn.xs.set q v9 } ⟨v9,rc.e,rc.size,rc.n + 1,rc.xs++[.int .i64 x]⟩ off pre g0 post xa cs0 xb ∧
  Data (W9.setCell ⟨b,q,none⟩ v9) (cold lo ban [rV,rN,rI,rO,{ rn with xs:=rn.xs.set q v9 },⟨v9,rc.e,rc.size,rc.n + 1,rc.xs++[.int .i64 x]⟩] (W9.setCell ⟨b,q,none⟩ v9)) ⟨v9,rc.e,rc.size,rc.n + 1,rc.xs++[.int .i64 x]⟩ 3 (l++[x]):=by
 subst hq
 obtain ⟨b1,m1⟩:=h.next (W':=W.drew.alloc (.cells #[.int .i64 x] 3)) ((Below.refl _ _).drew.alloc (Nat.le_refl _) _)
 have hown':W9.ownsRow lo rc.e rc.size v9 (rc.n + 1) (rc.xs++[.int .i64 x]):=by rw [d.e,d.size];exact hown
 obtain ⟨b2,m2⟩:=b1.grow_ex hg hown' (hb.imp id .inl)
 obtain ⟨b3,m3⟩:=b2.poke_n hv (pre.length * 40 + off) v9
 have hm:=m1.trans (m2.trans m3)
 have hon:=b2.rows.own 4 rn rfl
 have hcell:=hot.get (j:=off) (u:=rc.v) (by rw [List.getElem?_set,if_pos rfl,if_pos (by rw [hot.len_node];exact ho)])
 have hnp:0 < rn.n:=by rw [hot.n];omega
 obtain ⟨b',c',hv',-,-,-,-,hc⟩:=own_some hon hnp
 rw [hv] at hv'
 simp only [Value.slice.injEq,Option.some.injEq,Addr.mk.injEq,and_true,true_and] at hv'
 obtain ⟨rfl,rfl⟩:=hv'
 obtain ⟨q1,q2⟩:=hc _ _ hcell
 refine ⟨q1,q2,?_,fun k u hk=>⟨b2.cell hk,b3.cell hk⟩,b3,hm,(hot.move hm).poke ho ⟨v9,rc.e,rc.size,rc.n + 1,rc.xs++[.int .i64 x]⟩,?_⟩
 ·obtain ⟨A,c,rfl,-⟩:=own_slice hown;rfl
 ·exact (d.move hm).snoc (show rep _ _ [.int .i64 x] x from ⟨rfl,hx⟩)
theorem Bst.push_I {ex:List RowV} (h:Bst lo ban g mp rV rN rI rO rn ex ns W) {l:List Int} (d:Data W (cold lo ban (rV :: rN :: rI :: rO :: rn :: ex) W) rI 3 l) {x:Int} (hx:I64 x) {v9:Value}
  (hown:W9.ownsRow lo 3 1 v9 (rI.n + 1) (rI.xs++[.int .i64 x])) (hg:(W.drew.alloc (.cells #[.int .i64 x] 3)).grownBy W9 rI.v.ownBlock) (hb:v9.ownBlock = rI.v.ownBlock ∨ v9.ownBlock = some (W.drew.alloc (.cells #[.int .i64 x] 3)).heap.size) :
  W9.heap[g]? = some (.cells ([rV.v,rN.v,rI.v,rO.v,.map (some mp),rn.v]:List Value).toArray 108 (0,0))∧v9.oneCell' = true ∧
  ∃ rI',rI'.v = v9∧Bst lo ban g mp rV rN rI' rO rn ex ns (W9.setRow g (([rV.v,rN.v,rI.v,rO.v,.map (some mp),rn.v]:List Value).set 2 v9).toArray) ∧
   Moves lo ban (rV :: rN :: rI :: rO :: rn :: ex) (rV :: rN :: rI' :: rO :: rn :: ex) W (W9.setRow g (([rV.v,rN.v,rI.v,rO.v,.map (some mp),rn.v]:List Value).set 2 v9).toArray) ∧
   Data (W9.setRow g (([rV.v,rN.v,rI.v,rO.v,.map (some mp),rn.v]:List Value).set 2 v9).toArray) (cold lo ban (rV :: rN :: rI' :: rO :: rn :: ex) (W9.setRow g (([rV.v,rN.v,rI.v,rO.v,.map (some mp),rn.v]:List Value).set 2 v9).toArray)) rI' 3 (l++[x]):=by
 obtain ⟨b1,m1⟩:=h.next (W':=W.drew.alloc (.cells #[.int .i64 x] 3)) ((Below.refl _ _).drew.alloc (Nat.le_refl _) _)
 have hown':W9.ownsRow lo rI.e rI.size v9 (rI.n + 1) (rI.xs++[.int .i64 x]):=by rw [d.e,d.size];exact hown
 obtain ⟨b2,m2⟩:=b1.pushI hg hown' (hb.imp id .inl)
 refine ⟨(b1.kept (i:=2) (r:=rI) (r':=rI) rfl hg).1,?_,_,rfl,b2,m1.trans m2,?_⟩
 ·obtain ⟨A,c,rfl,-⟩:=own_slice hown;rfl
 ·exact ((d.move m1).snoc (show rep _ _ [.int .i64 x] x from ⟨rfl,hx⟩)).move m2
theorem Bst.push_O {ex:List RowV} (h:Bst lo ban g mp rV rN rI rO rn ex ns W) {l:List Int} (d:Data W (cold lo ban (rV :: rN :: rI :: rO :: rn :: ex) W) rO 3 l) {x:Int} (hx:I64 x) {v9:Value} {B:World}
  (hB:Below W.heap.size W B) (hown:W9.ownsRow lo 3 1 v9 (rO.n + 1) (rO.xs++[.int .i64 x])) (hg:B.grownBy W9 rO.v.ownBlock) (hb:v9.ownBlock = rO.v.ownBlock ∨ v9.ownBlock = some B.heap.size) :
  W9.heap[g]? = some (.cells ([rV.v,rN.v,rI.v,rO.v,.map (some mp),rn.v]:List Value).toArray 108 (0,0))∧v9.oneCell' = true ∧
  ∃ rO',rO'.v = v9∧Bst lo ban g mp rV rN rI rO' rn ex ns (W9.setRow g (([rV.v,rN.v,rI.v,rO.v,.map (some mp),rn.v]:List Value).set 3 v9).toArray) ∧
   Moves lo ban (rV :: rN :: rI :: rO :: rn :: ex) (rV :: rN :: rI :: rO' :: rn :: ex) W (W9.setRow g (([rV.v,rN.v,rI.v,rO.v,.map (some mp),rn.v]:List Value).set 3 v9).toArray) ∧
   Data (W9.setRow g (([rV.v,rN.v,rI.v,rO.v,.map (some mp),rn.v]:List Value).set 3 v9).toArray) (cold lo ban (rV :: rN :: rI :: rO' :: rn :: ex) (W9.setRow g (([rV.v,rN.v,rI.v,rO.v,.map (some mp),rn.v]:List Value).set 3 v9).toArray)) rO' 3 (l++[x]):=by
 obtain ⟨b1,m1⟩:=h.next hB
 have hown':W9.ownsRow lo rO.e rO.size v9 (rO.n + 1) (rO.xs++[.int .i64 x]):=by rw [d.e,d.size];exact hown
 obtain ⟨b2,m2⟩:=b1.pushO hg hown' (hb.imp id .inl)
 refine ⟨(b1.kept (i:=3) (r:=rO) (r':=rO) rfl hg).1,?_,_,rfl,b2,m1.trans m2,?_⟩
 ·obtain ⟨A,c,rfl,-⟩:=own_slice hown;rfl
 ·exact ((d.move m1).snoc (show rep _ _ [.int .i64 x] x from ⟨rfl,hx⟩)).move m2
end
end Go.Proofs.YtgbkhcmbmffljaaDoor
