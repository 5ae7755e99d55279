/-
  Chapter 09: the builder of a graph: what it holds, as data; its steps.
-/
import Derived.Test.YtgbkhcmbmffljaaDoorPGDefine
import Derived.Test.YtgbkhcmbmffljaaDoorPTail
set_option linter.unusedSimpArgs false
set_option linter.unusedVariables false
namespace Go.Proofs.YtgbkhcmbmffljaaDoor
open Go.RowKit
open Rep (rep)
structure BR (lo:Nat) (ban:List Nat) (g mp:Nat) (W0:World) (rs0:List RowV) (rV rN rI rO rn:RowV) (ex:List RowV) (ns:List ByteArray) (vals:List ValD) (ins outs:List Int) (gs:List GNodeD) (W:World):Prop where
 st:Bst lo ban g mp rV rN rI rO rn ex ns W
 mv:Moves lo ban rs0 (rV :: rN :: rI :: rO :: rn :: ex) W0 W
 vals:Data W (cold lo ban (rV :: rN :: rI :: rO :: rn :: ex) W) rV 75 vals
 ins:Data W (cold lo ban (rV :: rN :: rI :: rO :: rn :: ex) W) rI 3 ins
 outs:Data W (cold lo ban (rV :: rN :: rI :: rO :: rn :: ex) W) rO 3 outs
 gs:Data W (cold lo ban (rV :: rN :: rI :: rO :: rn :: ex) W) rN 68 gs
def BSt (lo:Nat) (ban:List Nat) (g mp:Nat) (W0:World) (rs0:List RowV) (ns:List ByteArray) (vals:List ValD) (ins outs:List Int) (gs:List GNodeD) (ps:List PartD) (W:World):Prop :=
 ∃ rV rN rI rO rn,BR lo ban g mp W0 rs0 rV rN rI rO rn [] ns vals ins outs gs W∧Data W (cold lo ban [rV,rN,rI,rO,rn] W) rn 68 ps
def HSt (lo:Nat) (ban:List Nat) (g mp:Nat) (W0:World) (rs0:List RowV) (ns:List ByteArray) (vals:List ValD) (ins outs:List Int) (gs:List GNodeD) (off:Nat) (pre:List PartD) (g0:PartD) (post:List PartD) (l:List Int) (W:World):Prop :=
 ∃ rV rN rI rO rn rc xa cs0 xb,BR lo ban g mp W0 rs0 rV rN rI rO rn [rc] ns vals ins outs gs W∧Hot W (cold lo ban [rV,rN,rI,rO,rn,rc] W) rn rc off pre g0 post xa cs0 xb∧Data W (cold lo ban [rV,rN,rI,rO,rn,rc] W) rc 3 l
def Gone (lo:Nat) (ban:List Nat) (rs0:List RowV) (W0 W:World):Prop:=∃ rs,Moves lo ban rs0 rs W0 W
section
variable {lo:Nat} {ban:List Nat} {g mp:Nat} {W0 W W':World} {rs0:List RowV} {rV rN rI rO rn:RowV} {ex:List RowV} {ns ns':List ByteArray} {vals:List ValD} {ins outs:List Int} {gs:List GNodeD} {ps:List PartD} {off:Nat} {pre post:List PartD} {g0:PartD} {l:List Int}
theorem BR.to (h:BR lo ban g mp W0 rs0 rV rN rI rO rn ex ns vals ins outs gs W) {ex':List RowV} {rn':RowV} (b:Bst lo ban g mp rV rN rI rO rn' ex' ns' W') (m:Moves lo ban (rV :: rN :: rI :: rO :: rn :: ex) (rV :: rN :: rI :: rO :: rn' :: ex') W W'):BR lo ban g mp W0 rs0 rV rN rI rO rn' ex' ns' vals ins outs gs W' :=
 ⟨b,h.mv.trans m,h.vals.move m,h.ins.move m,h.outs.move m,h.gs.move m⟩
theorem BR.next (h:BR lo ban g mp W0 rs0 rV rN rI rO rn ex ns vals ins outs gs W) (hb:Below W.heap.size W W'):BR lo ban g mp W0 rs0 rV rN rI rO rn ex ns vals ins outs gs W'∧Moves lo ban (rV :: rN :: rI :: rO :: rn :: ex) (rV :: rN :: rI :: rO :: rn :: ex) W W' :=
 have ⟨h1,h2⟩:=h.st.next hb
 ⟨h.to h1 h2,h2⟩
theorem BSt.next (h:BSt lo ban g mp W0 rs0 ns vals ins outs gs ps W) (hb:Below W.heap.size W W'):BSt lo ban g mp W0 rs0 ns vals ins outs gs ps W':=by
 obtain ⟨rV,rN,rI,rO,rn,h1,h2⟩:=h
 obtain ⟨h3,m⟩:=h1.next hb
 exact ⟨rV,rN,rI,rO,rn,h3,h2.move m⟩
theorem HSt.next (h:HSt lo ban g mp W0 rs0 ns vals ins outs gs off pre g0 post l W) (hb:Below W.heap.size W W'):HSt lo ban g mp W0 rs0 ns vals ins outs gs off pre g0 post l W':=by
 obtain ⟨rV,rN,rI,rO,rn,rc,xa,cs0,xb,h1,h2,h3⟩:=h
 obtain ⟨h4,m⟩:=h1.next hb
 exact ⟨rV,rN,rI,rO,rn,rc,xa,cs0,xb,h4,h2.move m,h3.move m⟩
theorem BSt.gone (h:BSt lo ban g mp W0 rs0 ns vals ins outs gs ps W):Gone lo ban rs0 W0 W:=let ⟨_,_,_,_,_,h1,_⟩:=h;⟨_,h1.mv⟩
theorem HSt.gone (h:HSt lo ban g mp W0 rs0 ns vals ins outs gs off pre g0 post l W):Gone lo ban rs0 W0 W:=let ⟨_,_,_,_,_,_,_,_,_,h1,_⟩:=h;⟨_,h1.mv⟩
theorem Gone.below (h:Gone lo ban rs0 W0 W) (hr:Rws lo ban rs0 W0):Below lo W0 W:=let ⟨_,m⟩:=h;m.from_lo hr
theorem Gone.block (h:Gone lo ban rs0 W0 W) {b:Nat} (hb:b < W0.heap.size) (hn:b ∉ ban) (ho:Off rs0 b):W.heap[b]? = W0.heap[b]?:=let ⟨_,m⟩:=h;(m.block b hb hn ho).1
theorem Gone.size (h:Gone lo ban rs0 W0 W):W0.heap.size ≤ W.heap.size:=let ⟨_,m⟩:=h;m.size
theorem Gone.old (h:Gone lo ban rs0 W0 W) (hr:Rws lo ban rs0 W0) {α:Type} [Rep α] {c:List Value} {a:α} (hc:rep W0 (Go.Proofs.YtgbkhcmbmffljaaDoor.old lo) c a):rep W (Go.Proofs.YtgbkhcmbmffljaaDoor.old lo) c a:=Rep.keep hc (Keeps.old_below (h.below hr) (Nat.le_refl _))
theorem Gone.next (h:Gone lo ban rs0 W0 W) (hb:Below W.heap.size W W'):Gone lo ban rs0 W0 W':=by
 obtain ⟨rs,m⟩:=h
 exact ⟨rs,m.trans (m.rows.below hb)⟩
theorem data_slice {α:Type} [Rep α] {Z:Zone} {r:RowV} {e:TypeId} {m:List α} (hr:Rws lo ban ex W) {i:Nat} (hi:ex[i]? = some r) (d:Data W Z r e m):∃ A c,r.v = .slice A m.length c∧m.length ≤ c∧c ≤ maxLen:=by
 obtain ⟨A,c,hv,h1,h2⟩:=own_slice (hr.own i r hi)
 rw [d.n] at hv h1
 exact ⟨A,c,hv,h1,h2⟩
theorem BR.heads (h:BR lo ban g mp W0 rs0 rV rN rI rO rn ex ns vals ins outs gs W):g < W.heap.size∧lo ≤ W.heap.size∧(∃ A c,rV.v = .slice A vals.length c∧vals.length ≤ c∧c ≤ maxLen)∧(∃ A c,rI.v = .slice A ins.length c∧ins.length ≤ c∧c ≤ maxLen)∧(∃ A c,rO.v = .slice A outs.length c∧outs.length ≤ c∧c ≤ maxLen)∧(∃ A c,rN.v = .slice A gs.length c∧gs.length ≤ c∧c ≤ maxLen) :=
 ⟨h.st.lt,h.st.lo_le,data_slice h.st.rows (i:=0) rfl h.vals,data_slice h.st.rows (i:=2) rfl h.ins,data_slice h.st.rows (i:=3) rfl h.outs,data_slice h.st.rows (i:=1) rfl h.gs⟩
theorem BSt.lo_le (h:BSt lo ban g mp W0 rs0 ns vals ins outs gs ps W):lo ≤ W.heap.size:=let ⟨_,_,_,_,_,h1,_⟩:=h;h1.st.lo_le
theorem BSt.map (h:BSt lo ban g mp W0 rs0 ns vals ins outs gs ps W):MapOf W mp ns.length (fun s=>placeD ns s + 1)∧W.cell? ⟨g,4,none⟩ = some (.map (some mp)):=let ⟨_,_,_,_,_,h1,_⟩:=h;⟨h1.st.map,h1.st.cell (j:=4) rfl⟩
theorem HSt.map (h:HSt lo ban g mp W0 rs0 ns vals ins outs gs off pre g0 post l W):MapOf W mp ns.length (fun s=>placeD ns s + 1)∧W.cell? ⟨g,4,none⟩ = some (.map (some mp)):=let ⟨_,_,_,_,_,_,_,_,_,h1,_⟩:=h;⟨h1.st.map,h1.st.cell (j:=4) rfl⟩
def Kept (W w w':World):Prop:=∀ b,W.heap.size ≤ b→b < w.heap.size→w'.heap[b]? = w.heap[b]?
theorem Kept.at' {w w':World} (h:Kept W w w') {b o:Nat} {cs:List Value} (hc:At w b o cs) (h1:W.heap.size ≤ b) (h2:b < w.heap.size):At w' b o cs:=fun j u hu=>(World.cell?_of_block (a:=⟨b,o + j,none⟩) (h b h1 h2)).trans (hc j u hu)
theorem moves_kept (h:Rws lo ban ex W) {w w':World} {rs':List RowV} (m:Moves lo ban ex rs' w w'):Kept W w w':=fun b h1 h2=>(m.block b h2 (h.new_block h1).1 (h.new_block h1).2).1
theorem BSt.rebase (h:BSt lo ban g mp W0 rs0 ns vals ins outs gs ps W):∃ rs,BSt lo ban g mp W rs ns vals ins outs gs ps W∧Rws lo ban rs W∧Moves lo ban rs0 rs W0 W∧∀ W',Below W.heap.size W W'→BSt lo ban g mp W' rs ns vals ins outs gs ps W'∧Rws lo ban rs W'∧Moves lo ban rs0 rs W0 W'∧∀ b,W.heap.size ≤ b→b ∉ ban∧Off rs b:=by
 obtain ⟨rV,rN,rI,rO,rn,h1,h2⟩:=h
 refine ⟨[rV,rN,rI,rO,rn],⟨rV,rN,rI,rO,rn,⟨h1.st,h1.st.rows.self,h1.vals,h1.ins,h1.outs,h1.gs⟩,h2⟩,h1.st.rows,h1.mv,fun W' hb=>?_⟩
 obtain ⟨h3,m⟩:=h1.next hb
 exact ⟨⟨rV,rN,rI,rO,rn,⟨h3.st,h3.st.rows.self,h3.vals,h3.ins,h3.outs,h3.gs⟩,h2.move m⟩,h3.st.rows,h3.mv,fun b hb=>h1.st.rows.new_block hb⟩
theorem BSt.base {W1:World} {rs:List RowV} (h:BSt lo ban g mp W1 rs ns vals ins outs gs ps W) (m:Moves lo ban rs0 rs W0 W1):BSt lo ban g mp W0 rs0 ns vals ins outs gs ps W:=by
 obtain ⟨rV,rN,rI,rO,rn,h1,h2⟩:=h
 exact ⟨rV,rN,rI,rO,rn,⟨h1.st,m.trans h1.mv,h1.vals,h1.ins,h1.outs,h1.gs⟩,h2⟩
theorem Gone.base {W1:World} {rs:List RowV} (h:Gone lo ban rs W1 W) (m:Moves lo ban rs0 rs W0 W1):Gone lo ban rs0 W0 W:=let ⟨_,k⟩:=h;⟨_,m.trans k⟩
theorem define_br (h:BR lo ban g mp W0 rs0 rV rN rI rO rn ex ns vals ins outs gs W) {w:World} (hb:Below W.heap.size W w) {vs:List Value} {v:ValD} (hr:rep w (fresh W.heap.size w.heap.size) vs v) {name:ByteArray} (hn:name.size ≤ maxLen) (hlen:vals.length = ns.length) (hs:ns.length ≤ 1048576) :
  Calls Tryd.prog 86 #[.pointer (some ⟨g,0,none⟩),.string name,.agg vs.toArray] w fun e w'=>e = .returned (.bool (!badS ns name))∧Kept W w w'∧(badS ns name = true→Moves lo ban (rV :: rN :: rI :: rO :: rn :: ex) (rV :: rN :: rI :: rO :: rn :: ex) W w') ∧
   (badS ns name = false→∃ rV',BR lo ban g mp W0 rs0 rV' rN rI rO rn ex (ns++[name]) (vals++[v]) ins outs gs w'∧Moves lo ban (rV :: rN :: rI :: rO :: rn :: ex) (rV' :: rN :: rI :: rO :: rn :: ex) W w'):=by
 obtain ⟨h1,m⟩:=h.next hb
 refine (define_any lo ban g mp rV rN rI rO rn ex ns vals name vs v w h1.st h1.vals (Rep.more hr (h.st.rows.new_cold hb (Nat.le_refl _))) hn hlen hs).mono ?_
 rintro e w' ⟨he,k1,k2⟩
 refine ⟨he,?_,fun hbad=>m.trans (k1 hbad),fun hok=>?_⟩
 ·cases hy:badS ns name with
  | true=>exact moves_kept h.st.rows (k1 hy)
  | false =>
   obtain ⟨rV',-,m2,-⟩:=k2 hy
   exact moves_kept h.st.rows m2
 obtain ⟨rV',b,m2,d⟩:=k2 hok
 exact ⟨rV',⟨b,h1.mv.trans m2,d,h1.ins.move m2,h1.outs.move m2,h1.gs.move m2⟩,m.trans m2⟩
theorem BSt.define (h:BSt lo ban g mp W0 rs0 ns vals ins outs gs ps W) {w:World} (hb:Below W.heap.size W w) {vs:List Value} {v:ValD} (hr:rep w (fresh W.heap.size w.heap.size) vs v) {name:ByteArray} (hn:name.size ≤ maxLen) (hlen:vals.length = ns.length) (hs:ns.length ≤ 1048576) :
  Calls Tryd.prog 86 #[.pointer (some ⟨g,0,none⟩),.string name,.agg vs.toArray] w fun e w'=>e = .returned (.bool (!badS ns name))∧Kept W w w'∧(badS ns name = true→Gone lo ban rs0 W0 w')∧(badS ns name = false→BSt lo ban g mp W0 rs0 (ns++[name]) (vals++[v]) ins outs gs ps w'):=by
 obtain ⟨rV,rN,rI,rO,rn,h1,h2⟩:=h
 refine (define_br h1 hb hr hn hlen hs).mono ?_
 rintro e w' ⟨he,hk,k1,k2⟩
 refine ⟨he,hk,fun hbad=>⟨_,h1.mv.trans (k1 hbad)⟩,fun hok=>?_⟩
 obtain ⟨rV',b,m⟩:=k2 hok
 exact ⟨rV',rN,rI,rO,rn,b,h2.move m⟩
theorem HSt.define (h:HSt lo ban g mp W0 rs0 ns vals ins outs gs off pre g0 post l W) {w:World} (hb:Below W.heap.size W w) {vs:List Value} {v:ValD} (hr:rep w (fresh W.heap.size w.heap.size) vs v) {name:ByteArray} (hn:name.size ≤ maxLen) (hlen:vals.length = ns.length) (hs:ns.length ≤ 1048576) :
  Calls Tryd.prog 86 #[.pointer (some ⟨g,0,none⟩),.string name,.agg vs.toArray] w fun e w'=>e = .returned (.bool (!badS ns name))∧Kept W w w'∧(badS ns name = true→Gone lo ban rs0 W0 w')∧(badS ns name = false→HSt lo ban g mp W0 rs0 (ns++[name]) (vals++[v]) ins outs gs off pre g0 post l w'):=by
 obtain ⟨rV,rN,rI,rO,rn,rc,xa,cs0,xb,h1,h2,h3⟩:=h
 refine (define_br h1 hb hr hn hlen hs).mono ?_
 rintro e w' ⟨he,hk,k1,k2⟩
 refine ⟨he,hk,fun hbad=>⟨_,h1.mv.trans (k1 hbad)⟩,fun hok=>?_⟩
 obtain ⟨rV',b,m⟩:=k2 hok
 exact ⟨rV',rN,rI,rO,rn,rc,xa,cs0,xb,b,h2.move m,h3.move m⟩
theorem BSt.heat (h:BSt lo ban g mp W0 rs0 ns vals ins outs gs ps W) (e:ps = pre++g0 :: post) (off:Nat) (h0:∀ (Z:Zone) (cs0:List Value),rep W Z cs0 g0→cs0[off]? = some (.slice none 0 0)):HSt lo ban g mp W0 rs0 ns vals ins outs gs off pre g0 post [] W:=by
 obtain ⟨rV,rN,rI,rO,rn,h1,h2⟩:=h
 obtain ⟨b,m⟩:=h1.st.add_ex 3 1
 obtain ⟨xa,cs0,xb,hh⟩:=(h2.move m).hot (rc:=⟨.slice none 0 0,3,1,0,[]⟩) e off (fun cs0=>h0 _ cs0) rfl
 exact ⟨rV,rN,rI,rO,rn,_,xa,cs0,xb,h1.to b m,hh,⟨rfl,rfl,rfl,rfl⟩⟩
theorem HSt.cool_outs (h:HSt lo ban g mp W0 rs0 ns vals ins outs gs 38 pre g0 post l W) (hl:l.length ≤ 1048576):BSt lo ban g mp W0 rs0 ns vals ins outs gs (pre++⟨{ g0.g with outs:=l },g0.i,false⟩ :: post) W:=by
 obtain ⟨rV,rN,rI,rO,rn,rc,xa,cs0,xb,h1,h2,h3⟩:=h
 obtain ⟨b,m⟩:=h1.st.drop_ex
 have hc:rep W (cold lo ban [rV,rN,rI,rO,rn] W) [rc.v] l:=Rws.last_cold (rs:=[rV,rN,rI,rO,rn]) h1.st.rows h3.size h3.n h3.chunks (by show l.length * 8 ≤ reach;unfold reach;omega)
 exact ⟨rV,rN,rI,rO,rn,h1.to b m,(h2.move m).cool (part_outs (h2.move m).node hc)⟩
theorem HSt.cool_ins (h:HSt lo ban g mp W0 rs0 ns vals ins outs gs 37 pre g0 post l W) (hl:l.length ≤ 1048576):BSt lo ban g mp W0 rs0 ns vals ins outs gs (pre++⟨{ g0.g with ins:=l },false,g0.o⟩ :: post) W:=by
 obtain ⟨rV,rN,rI,rO,rn,rc,xa,cs0,xb,h1,h2,h3⟩:=h
 obtain ⟨b,m⟩:=h1.st.drop_ex
 have hc:rep W (cold lo ban [rV,rN,rI,rO,rn] W) [rc.v] l:=Rws.last_cold (rs:=[rV,rN,rI,rO,rn]) h1.st.rows h3.size h3.n h3.chunks (by show l.length * 8 ≤ reach;unfold reach;omega)
 exact ⟨rV,rN,rI,rO,rn,h1.to b m,(h2.move m).cool (part_ins (h2.move m).node hc)⟩
theorem BSt.push_ins (h:BSt lo ban g mp W0 rs0 ns vals ins outs gs ps W) {x:Int} (hx:I64 x):∃ (A0:Option Addr) (c0:Nat) (vI:Value) (xs cells:List Value),g < W.heap.size∧lo ≤ W.heap.size∧W.cell? ⟨g,0,none⟩ = some (.slice A0 vals.length c0)∧vals.length ≤ c0∧c0 ≤ maxLen∧W.cell? ⟨g,2,none⟩ = some vI∧cells.length = 6 ∧
  (W.drew.alloc (.cells #[.int .i64 x] 3)).ownsRow lo 3 1 vI ins.length xs ∧
  ∀ (W9:World) (v9:Value),W9.ownsRow lo 3 1 v9 (ins.length + 1) (xs++[.int .i64 x])→(W.drew.alloc (.cells #[.int .i64 x] 3)).grownBy W9 vI.ownBlock→(v9.ownBlock = vI.ownBlock ∨ v9.ownBlock = some (W.drew.alloc (.cells #[.int .i64 x] 3)).heap.size) →
   W9.heap[g]? = some (.cells cells.toArray 108 (0,0))∧v9.oneCell' = true∧W9.cell? ⟨g,0,none⟩ = some (.slice A0 vals.length c0)∧(W9.setRow g (cells.set 2 v9).toArray).cell? ⟨g,0,none⟩ = some (.slice A0 vals.length c0)∧BSt lo ban g mp W0 rs0 ns vals (ins++[x]) outs gs ps (W9.setRow g (cells.set 2 v9).toArray):=by
 obtain ⟨rV,rN,rI,rO,rn,h1,h2⟩:=h
 obtain ⟨hg,hlo,⟨A0,c0,hv,hc1,hc2⟩,-⟩:=h1.heads
 have hn1:=h1.st.next (W':=W.drew.alloc (.cells #[.int .i64 x] 3)) ((Below.refl _ _).drew.alloc (Nat.le_refl _) _)
 have hown:=hn1.1.rows.own 2 rI rfl
 rw [h1.ins.e,h1.ins.size,h1.ins.n] at hown
 refine ⟨A0,c0,rI.v,rI.xs,[rV.v,rN.v,rI.v,rO.v,.map (some mp),rn.v],hg,hlo,h1.st.cell (j:=0) (by rw [← hv];rfl),hc1,hc2,h1.st.cell (j:=2) rfl,rfl,hown,?_⟩
 intro W9 v9 ho hgr hb
 rw [← h1.ins.n] at ho
 obtain ⟨hbox,hone,rI',hrv,b2,m2,d2⟩:=h1.st.push_I h1.ins hx ho hgr hb
 subst hrv
 refine ⟨hbox,hone,cell_of_row' hbox (by rw [← hv];rfl),b2.cell (j:=0) (by rw [← hv];rfl),rV,rN,rI',rO,rn,⟨b2,h1.mv.trans m2,h1.vals.move m2,d2,h1.outs.move m2,h1.gs.move m2⟩,h2.move m2⟩
theorem BSt.push_outs (h:BSt lo ban g mp W0 rs0 ns vals ins outs gs ps W) {x:Int} (hx:I64 x) {B:World} (hB:Below W.heap.size W B):∃ (vO:Value) (xs cells:List Value),g < W.heap.size∧lo ≤ W.heap.size∧W.cell? ⟨g,3,none⟩ = some vO∧cells.length = 6 ∧
  B.ownsRow lo 3 1 vO outs.length xs ∧
  ∀ (W9:World) (v9:Value),W9.ownsRow lo 3 1 v9 (outs.length + 1) (xs++[.int .i64 x])→B.grownBy W9 vO.ownBlock→(v9.ownBlock = vO.ownBlock ∨ v9.ownBlock = some B.heap.size) →
   W9.heap[g]? = some (.cells cells.toArray 108 (0,0))∧v9.oneCell' = true∧BSt lo ban g mp W0 rs0 ns vals ins (outs++[x]) gs ps (W9.setRow g (cells.set 3 v9).toArray):=by
 obtain ⟨rV,rN,rI,rO,rn,h1,h2⟩:=h
 obtain ⟨hg,hlo,-⟩:=h1.heads
 have hn1:=h1.st.next hB
 have hown:=hn1.1.rows.own 3 rO rfl
 rw [h1.outs.e,h1.outs.size,h1.outs.n] at hown
 refine ⟨rO.v,rO.xs,[rV.v,rN.v,rI.v,rO.v,.map (some mp),rn.v],hg,hlo,h1.st.cell (j:=3) rfl,rfl,hown,?_⟩
 intro W9 v9 ho hgr hb
 rw [← h1.outs.n] at ho
 obtain ⟨hbox,hone,rO',hrv,b2,m2,d2⟩:=h1.st.push_O h1.outs hx hB ho hgr hb
 subst hrv
 exact ⟨hbox,hone,rV,rN,rI,rO',rn,⟨b2,h1.mv.trans m2,h1.vals.move m2,h1.ins.move m2,d2,h1.gs.move m2⟩,h2.move m2⟩
theorem HSt.push (h:HSt lo ban g mp W0 rs0 ns vals ins outs gs off pre g0 post l W) {x:Int} (hx:I64 x) (ho:off < 40):∃ (A0:Option Addr) (c0 b cn:Nat) (vc:Value) (xs:List Value),g < W.heap.size∧lo ≤ W.heap.size∧W.cell? ⟨g,0,none⟩ = some (.slice A0 vals.length c0)∧W.cell? ⟨g,5,none⟩ = some (.slice (some ⟨b,0,none⟩) (pre.length + (1 + post.length)) cn)∧vals.length ≤ c0∧c0 ≤ maxLen∧b < W.heap.size ∧
  W.cell? ⟨b,pre.length * 40 + off,none⟩ = some vc∧(W.drew.alloc (.cells #[.int .i64 x] 3)).ownsRow lo 3 1 vc l.length xs ∧
  ∀ (W9:World) (v9:Value),W9.ownsRow lo 3 1 v9 (l.length + 1) (xs++[.int .i64 x])→(W.drew.alloc (.cells #[.int .i64 x] 3)).grownBy W9 vc.ownBlock→(v9.ownBlock = vc.ownBlock ∨ v9.ownBlock = some (W.drew.alloc (.cells #[.int .i64 x] 3)).heap.size) →
   W9.cell? ⟨b,pre.length * 40 + off,none⟩ = some vc∧W9.frozen? ⟨b,pre.length * 40 + off,none⟩ = false∧v9.oneCell' = true∧(W9.cell? ⟨g,0,none⟩ = some (.slice A0 vals.length c0)∧W9.cell? ⟨g,5,none⟩ = some (.slice (some ⟨b,0,none⟩) (pre.length + (1 + post.length)) cn)) ∧
   ((W9.setCell ⟨b,pre.length * 40 + off,none⟩ v9).cell? ⟨g,0,none⟩ = some (.slice A0 vals.length c0)∧(W9.setCell ⟨b,pre.length * 40 + off,none⟩ v9).cell? ⟨g,5,none⟩ = some (.slice (some ⟨b,0,none⟩) (pre.length + (1 + post.length)) cn))∧HSt lo ban g mp W0 rs0 ns vals ins outs gs off pre g0 post (l++[x]) (W9.setCell ⟨b,pre.length * 40 + off,none⟩ v9):=by
 obtain ⟨rV,rN,rI,rO,rn,rc,xa,cs0,xb,h1,h2,h3⟩:=h
 obtain ⟨hg,hlo,⟨A0,c0,hv,hc1,hc2⟩,-⟩:=h1.heads
 have hn1:=h1.st.next (W':=W.drew.alloc (.cells #[.int .i64 x] 3)) ((Below.refl _ _).drew.alloc (Nat.le_refl _) _)
 have hown:=hn1.1.rows.own 5 rc rfl
 rw [h3.e,h3.size,h3.n] at hown
 obtain ⟨b,cn,hvn,-,-,-,hbl,hcell⟩:=own_some (h1.st.rows.own 4 rn rfl) (by rw [h2.n];omega)
 have hvn':=hvn
 rw [h2.n] at hvn
 have h0:=h2.get (j:=off) (u:=rc.v) (by rw [List.getElem?_set,if_pos rfl,if_pos (by rw [h2.len_node];exact ho)])
 refine ⟨A0,c0,b,cn,rc.v,rc.xs,hg,hlo,h1.st.cell (j:=0) (by rw [← hv];rfl),h1.st.cell (j:=5) (by rw [← hvn];rfl),hc1,hc2,hbl,(hcell _ _ h0).1,hown,?_⟩
 intro W9 v9 ho9 hgr hb9
 rw [← h3.n] at ho9
 obtain ⟨q1,q2,q3,q4,b2,m2,hot2,d2⟩:=h1.st.push_ex h2 h3 hx ho hvn' rfl ho9 hgr hb9
 refine ⟨q1,q2,q3,⟨(q4 0 _ (by rw [← hv];rfl)).1,(q4 5 _ (by rw [← hvn];rfl)).1⟩,⟨(q4 0 _ (by rw [← hv];rfl)).2,(q4 5 _ (by rw [← hvn];rfl)).2⟩,rV,rN,rI,rO,_,_,xa,cs0,xb,⟨b2,h1.mv.trans m2,h1.vals.move m2,h1.ins.move m2,h1.outs.move m2,h1.gs.move m2⟩,hot2,d2⟩
theorem HSt.node (h:HSt lo ban g mp W0 rs0 ns vals ins outs gs off pre g0 post l W) (ho:36 < off):∃ (b cn:Nat) (ts:List Value),W.cell? ⟨g,5,none⟩ = some (.slice (some ⟨b,0,none⟩) (pre.length + (1 + post.length)) cn)∧pre.length + (1 + post.length) ≤ cn∧cn ≤ maxLen∧W.cell? ⟨b,pre.length * 40,none⟩ = some (.int .i64 g0.g.op)∧At W b (pre.length * 40 + 1 + 31) ts∧rep W (Go.Proofs.YtgbkhcmbmffljaaDoor.old W.heap.size) ts g0.g.s.value:=by
 obtain ⟨rV,rN,rI,rO,rn,rc,xa,cs0,xb,h1,h2,h3⟩:=h
 obtain ⟨b,cn,hvn,hc1,hc2,-,hbl,hcell⟩:=own_some (h1.st.rows.own 4 rn rfl) (by rw [h2.n];omega)
 rw [h2.n] at hvn hc1
 have hn:=h2.node.1
 obtain ⟨ss,A1,k1,A2,k2,hcs,-,hs,-,-,-⟩:=open_GNodeD hn
 have hsl:ss.length = 36:=hs.len
 refine ⟨b,cn,ss.drop 31,h1.st.cell (j:=5) (by rw [← hvn];rfl),hc1,hc2,?_,fun j u hj=>?_,Rep.more hs.f31 cold_old⟩
 ·have:=(hcell _ _ (h2.get (j:=0) (u:=.int .i64 g0.g.op) (by rw [List.getElem?_set,if_neg (by omega),hcs];rfl))).1
  rwa [Nat.add_zero] at this
 ·have hj':j < 5:=by
   have:=(List.getElem?_eq_some_iff.1 hj).1
   rw [List.length_drop,hsl] at this
   omega
  rw [List.getElem?_drop] at hj
  have:=(hcell _ _ (h2.get (j:=1 + (31 + j)) (u:=u) (by
   rw [List.getElem?_set,if_neg (by omega),hcs,List.getElem?_append_right (by simp),List.length_singleton,Nat.add_sub_cancel_left,List.getElem?_append_left (by omega)]
   exact hj))).1
  rwa [show pre.length * 40 + (1 + (31 + j)) = pre.length * 40 + 1 + 31 + j by omega] at this
end
end Go.Proofs.YtgbkhcmbmffljaaDoor
