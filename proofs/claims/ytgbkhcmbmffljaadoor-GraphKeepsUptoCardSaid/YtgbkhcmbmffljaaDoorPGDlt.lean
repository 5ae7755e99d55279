/-
  Chapter 09: slices.Clone, slices.IndexFunc, slices.DeleteFunc, slices.Delete over nodes.
-/
/-
  Chapter 09: slices.Delete over nodes: one of them.
-/
import Derived.Test.YtgbkhcmbmffljaaDoorPGBst
import Derived.ArgAppend
import Derived.Test.YtgbkhcmbmffljaaDoorPTail
set_option linter.unusedSimpArgs false
set_option linter.unusedVariables false
namespace Go.Proofs.YtgbkhcmbmffljaaDoor
open Go.RowKit
open Rep (rep)
def constOp (g:GNodeD):Bool:=decide (g.op = 61)
theorem zeroGN_one:∀ u ∈ zeroGN,u.oneCell' = true:=by decide
theorem gnInfo:(Tryd.prog.info? 68).map (fun i=>(i.zero,i.size,i.bytes)) = some (some (.agg zeroGN.toArray),40,432):=by kernel_rfl
set_option maxRecDepth 100000 in
set_option maxHeartbeats 800000 in
theorem orderFn_any (zc:List Value) (z:GNodeD) (W:World) (h0:zc[0]? = some (.int .i64 z.op)) :
  Calls Tryd.prog 92 #[.agg zc.toArray] W fun e W'=>e = .returned (.bool (constOp z))∧Below W.heap.size W W':=by
 have hX:=box_start W 68 zc
 have HX:=Lib.hid hX
 have c0:(W.alloc (.cells zc.toArray 68)).cell? ⟨W.heap.size,0,none⟩ = some (.int .i64 z.op):=(cell_of_row _ _ _ _ _ _ hX.row).trans (by rw [List.getElem?_toArray];exact h0)
 clear hX
 obtain ⟨x,hx⟩:∃ x,z.op = x:=⟨_,rfl⟩
 have HC:=Lib.hid (show constOp z = decide (x = 61) by unfold constOp;rw [hx])
 rw [hx] at c0
 clear hx h0
 by_cases h:x = 61
 ·subst h
  go_enter Tryd.func92,Tryd.ntmps92
  go_wp2_with (with_reducible refine wpList_box_row rfl 68 _ rfl zc rfl ?_)
  go_ret
  exact ⟨by rw [HC.out];rfl,HX.out.below⟩
 ·go_enter Tryd.func92,Tryd.ntmps92
  go_wp2_with (with_reducible refine wpList_box_row rfl 68 _ rfl zc rfl ?_)
  go_ret
  exact ⟨by rw [HC.out];simp [h],HX.out.below⟩
set_option maxRecDepth 100000 in
set_option maxHeartbeats 1000000 in
theorem indexNodes_any (l:List GNodeD) (v:Value) (k:Nat) (p:GNodeD→Bool) (w:World) (hk:∀ args W,(callFunc k args).run Tryd.prog W = .ok (.enter k args) W) (hr:rep w (old w.heap.size) [v] l)
  (hf:∀ (z:GNodeD) (zc:List Value) (W:World),zc[0]? = some (.int .i64 z.op)→Calls Tryd.prog k #[.agg zc.toArray] W fun e W'=>e = .returned (.bool (p z))∧Below W.heap.size W W') :
  Calls Tryd.prog 117 #[v,.func (.func k) #[] #[]] w fun e w'=>e = .returned (.int .i64 (indexFrom p l 0))∧Below w.heap.size w w':=by
 obtain ⟨A,c,xs,rfl,hnc,hcm,_,hl,hch⟩:=open_slice hr
 clear hr
 have HF:=Lib.hid hf
 have HL:=Lib.hid (And.intro hl hch)
 clear hf hl hch
 have HK:=Lib.hid hk
 clear hk
 go_enter Tryd.func117,Tryd.ntmps117
 go_wp2_with fail
 go_loopw [8] (fun i wr=>∃ pre post:List GNodeD,l = pre++post∧i = .int .i64 pre.length∧indexFrom p l 0 = indexFrom p post pre.length∧Below w.heap.size w wr)
  (fun i _=>l.length - (intOf i).toNat)
 case atStart=>exact ⟨[],l,rfl,rfl,rfl,Below.refl _ _⟩
 case round =>
  obtain ⟨pre,post,hpp,rfl,hix,hs⟩:=hrel
  cases post with
  | cons z post =>
   obtain ⟨hz,hlt,hpp',hpl⟩:=split_at hpp
   obtain ⟨b,o,zc,rfl,hbB,hrz,hcell⟩:=elem_at HL.out.1 HL.out.2 (by decide) hz
   have hat:At wr b (o + pre.length * 40) zc:=fun j u hu=>by
    have h1:=(hcell j u hu).1
    rw [← Nat.add_assoc] at h1
    exact (hs.cell (p:=⟨b,o + pre.length * 40 + j,none⟩) hbB).trans h1
   obtain ⟨ss,I1,i1,O1,o1,z0,-⟩:=gnode_facts hrz
   have HA:=Lib.hid (And.intro hat (And.intro (node_lay hrz) z0))
   have H:=Lib.hid (And.intro hpp' (And.intro hpl (And.intro hix hs)))
   have hk0:(0:Int) ≤ (pre.length:Int):=Int.natCast_nonneg _
   have hk1:(pre.length:Int) < (l.length:Int):=by omega
   have HC:=Lib.hid (HF.out z zc wr HA.out.2.2)
   clear hcell hpp hpp' hpl hz hix hs hat hrz hbB z0
   obtain ⟨y,hy⟩:∃ y,p z = y:=⟨_,rfl⟩
   have HD:=Lib.hid hy
   clear hy
   cases y with
   | true =>
    go_wp2_with (with_reducible refine wpList_load_agg rfl 68 _ rfl _ _ _ rfl zc Tryd.underlying68 rfl HA.out.2.1.1 HA.out.1 ?_)
    rw [HK.out,Oper.upon_enter]
    refine HC.out.mono ?_
    rw [HD.out]
    rintro e w1 ⟨rfl,hb⟩
    have HB:=Lib.hid (H.out.2.2.2.trans (hb.mono H.out.2.2.2.size))
    clear hb
    go_wp2
    go_ret
    obtain ⟨_,_,hix,_⟩:=H.out
    refine ⟨?_,HB.out⟩
    rw [hix,indexFrom,HD.out]
    rfl
   | false =>
    go_wp2_with (with_reducible refine wpList_load_agg rfl 68 _ rfl _ _ _ rfl zc Tryd.underlying68 rfl HA.out.2.1.1 HA.out.1 ?_)
    rw [HK.out,Oper.upon_enter]
    refine HC.out.mono ?_
    rw [HD.out]
    rintro e w1 ⟨rfl,hb⟩
    have HB:=Lib.hid (H.out.2.2.2.trans (hb.mono H.out.2.2.2.size))
    clear hb
    go_wp2
    go_roundw
    case rel =>
     obtain ⟨hpp',hpl,hix,_⟩:=H.out
     exact ⟨pre++[z],post,hpp',by rw [hpl];go_num,by rw [hix,indexFrom,HD.out,hpl];rfl,HB.out⟩
    case measure=>simp [intOf];omega
  | nil =>
   obtain ⟨hge,hpl⟩:=split_end hpp
   have H:=Lib.hid (And.intro hix hs)
   clear hpl hpp hix hs
   go_wp2
   go_ret
   exact ⟨by rw [H.out.1];rfl,H.out.2⟩
set_option maxRecDepth 100000 in
set_option maxHeartbeats 1000000 in
theorem clone_nodes {base:Nat} (n:Nat) (v:Value) (xs:List Value) (w:World) (ho:w.ownsRow base 68 40 v n xs) (h1:∀ u ∈ xs,u.oneCell' = true) (hn:n ≤ 1048576) :
  Calls Tryd.prog 91 #[v] w fun e w'=>∃ v',e = .returned v'∧w'.ownsRow w.heap.size 68 40 v' n xs∧Below w.heap.size w w':=by
 obtain ⟨i0,hi0,hz0,hz1,hz2⟩:=info_parts gnInfo
 have q:∀ (w:World) (a:Option Addr) (n c n' c':Nat),(binOp .eql 61 (.slice a n c) (.slice none n' c')).run Tryd.prog w = .ok (.bool a.isNone) w:=fun w a n c n' c'=>Lib.run_eql_slice_nil w _ _ a n c n' c' Tryd.underlying61
 have hlen:=ho.1
 have ho':=ho
 rcases ho.2 with ⟨rfl,rfl⟩ | ⟨g,cap,cur,rfl,hb,hh,h3,h4,h5,h6⟩
 ·have hx:xs = []:=List.length_eq_zero_iff.1 (by omega)
  subst hx
  clear ho ho' hlen h1
  go_enter Tryd.func91,Tryd.ntmps91
  go_wp2
  go_ret
  exact ⟨_,rfl,World.ownsRow_nil _ _ _ _,Below.refl _ _⟩
 ·have hg:g < w.heap.size:=(Array.getElem?_eq_some_iff.1 hh).1
  have hl:Lies w (old w.heap.size) (some ⟨g,0,none⟩) xs:=(Lies.of_own (Z:=fresh base w.heap.size) ho' (fun g' e h1 h2=>⟨h1,h2⟩)).more (fresh_old (Nat.le_refl _))
  have hl2:∀ o:Obj,Lies (w.alloc o) (old w.heap.size) (some ⟨g,0,none⟩) xs:=fun o=>hl.keep (Keeps.old_below ((Below.refl _ _).alloc (Nat.le_refl _) o) (Nat.le_refl _))
  have HL:=Lib.hid (And.intro hl2 (And.intro hlen h1))
  clear ho ho' hl hl2 hlen h1 hh h3 h4 h5 h6 hg hb
  go_enter Tryd.func91,Tryd.ntmps91
  go_wp2_with (at_builtin;refine wpList_append_lies _ rfl _ _ 61 rfl w.heap.size 68 i0 _ 40 432 Tryd.underlying61 hi0 hz0 hz1 hz2 (by kernel_rfl) (by decide) _ 0 [] rfl (World.ownsRow_made w #[] 0 (Nat.le_refl _) (Nat.zero_le _) rfl) _ _ _ _ _ rfl HL.out.2.1 (HL.out.1 _) HL.out.2.2 ?c3 ?c4 ?c5 ?_)
  case c3=>unfold maxLen;omega
  case c4=>omega
  case c5=>simp
  intro v' w1 hown' hgrow hat
  have HX:=Lib.hid (And.intro hown' (And.intro hgrow hat))
  clear hown' hgrow hat
  go_wp2
  go_ret
  obtain ⟨hown,hgrow,hat⟩:=HX.out
  refine ⟨v',rfl,by simpa using hown,?_⟩
  exact ((Below.refl _ w).alloc (Nat.le_refl _) _).grown hgrow (by simp) (by intro k hk;simp [Value.ownBlock] at hk;omega)
theorem zero_one (zero:Array Value) (hz:0 < zero.size) (h1:∀ u ∈ zero.toList,u.oneCell' = true) (n:Nat):∀ u ∈ (Builtin.zeroCells zero n).toList,u.oneCell' = true:=by
 intro u hu
 unfold Builtin.zeroCells at hu
 simp only [Array.toList_map,List.mem_map] at hu
 obtain ⟨i,hi,rfl⟩:=hu
 have:=Nat.mod_lt i hz
 rw [getElem!_pos zero _ this]
 exact h1 _ (by simp)
section
variable {P:Program}
theorem run_clear_row (w:World) (t e ty:TypeId) (zs:List Value) (ht:P.underlying t = some (.slice e)) (hv:∀ w,(zeroValue e).run P w = .ok (.agg zs.toArray) w) (hz:0 < zs.length) (h1:∀ u ∈ zs,u.oneCell' = true)
  (b o n c:Nat) (hn:0 < n) (te:TypeId) (cur:List Value) (hg:w.heap[b]? = some (.cells cur.toArray te (0,0))) (hfit:o + n * zs.length ≤ cur.length) :
  ∃ ys:List Value,ys.length = n * zs.length∧(Builtin.clear_ #[t] ty #[.slice (some ⟨b,o,none⟩) n c]).run P w = .ok (.tuple #[]) (w.setRow b (cur.take o++ys++cur.drop (o + ys.length)).toArray):=by
 have hl:(Builtin.zeroCells zs.toArray n).toList.length = n * zs.length:=by simp [Builtin.zeroCells]
 have hst:=run_storeCells_at P b o te (Builtin.zeroCells zs.toArray n).toList 0 cur.toArray w hg (by rw [hl];simpa using hfit) (zero_one _ (by simpa using hz) (by simpa using h1) n)
 simp only [Nat.add_zero] at hst
 refine ⟨_,hl,?_⟩
 obtain ⟨m,rfl⟩:∃ m,n = m + 1:=⟨n - 1,by omega⟩
 have hc:(Value.agg zs.toArray).cells = zs.toArray:=rfl
 simp [Builtin.clear_,run_underlying ht,hv,hc,hst]
end
theorem grown_seq {w w1 w2:World} {r:Option Nat} (h:w.grownBy w1 r) (k:w1.grownBy w2 r):w.grownBy w2 r :=
 ⟨k.os.trans h.os,k.tape.trans h.tape,k.output.trans h.output,Nat.le_trans h.size k.size,fun j hj hn=>(k.block j (Nat.lt_of_lt_of_le hj h.size) hn).trans (h.block j hj hn)⟩
theorem grown_new {w w1:World} {r:Option Nat} (h:Below w.heap.size w w1):w.grownBy w1 r:=⟨h.os,h.tape,h.output,h.size,fun j hj _=>h.block j hj⟩
theorem setCells_heap (b:Nat) (t:TypeId):∀ (vs:List Value) (o:Nat) (cur:List Value) (w:World),w.heap[b]? = some (.cells cur.toArray t (0,0))→o + vs.length ≤ cur.length →
  (w.setCells b o vs).heap[b]? = some (.cells (cur.take o++(vs++cur.drop (o + vs.length))).toArray t (0,0))∧w.grownBy (w.setCells b o vs) (some b)
 | [],o,cur,w,h,_=>by
  refine ⟨?_,World.grownBy.refl w _⟩
  rw [List.length_nil,Nat.add_zero,List.nil_append,List.take_append_drop]
  exact h
 | v :: r,o,cur,w,h,hl=>by
  rw [List.length_cons] at hl
  have ho:o < cur.length:=by omega
  show ((w.setCell ⟨b,o,none⟩ v).setCells b (o + 1) r).heap[b]? = _∧w.grownBy ((w.setCell ⟨b,o,none⟩ v).setCells b (o + 1) r) _
  rw [set_as_row h,List.setIfInBounds_toArray]
  have h1:=heap_setRow w b (cur.set o v).toArray cur.toArray t h
  obtain ⟨p1,p2⟩:=setCells_heap b t r (o + 1) (cur.set o v) _ h1 (by rw [List.length_set];omega)
  refine ⟨?_,grown_seq (grown_setRow _ _ _) p2⟩
  rw [p1]
  have e1:(cur.set o v).take (o + 1) = cur.take o++[v]:=by
   rw [List.set_eq_take_append_cons_drop,if_pos ho,List.take_append]
   have e:(cur.take o).length = o:=by rw [List.length_take];omega
   rw [e,Nat.add_sub_cancel_left,List.take_take,Nat.min_eq_right (by omega)]
   rfl
  have e2:(cur.set o v).drop (o + 1 + r.length) = cur.drop (o + (r.length + 1)):=by
   rw [List.drop_set_of_lt (by omega)]
   congr 1
   omega
  rw [e1,e2,List.append_assoc]
  rfl
theorem index_at {α:Type} (p:α→Bool):∀ (l:List α) (k:Nat),(indexFrom p l k = -1∧∀ a ∈ l,p a = false) ∨ ∃ (j:Nat) (a:α),indexFrom p l k = ((k + j:Nat):Int)∧l[j]? = some a∧p a = true∧∀ b ∈ l.take j,p b = false
 | [],_=>.inl ⟨rfl,by simp⟩
 | a :: l,k=>by
  cases h:p a with
  | true=>exact .inr ⟨0,a,by simp [indexFrom,h],rfl,h,by simp⟩
  | false =>
   rcases index_at p l (k + 1) with ⟨h1,h2⟩ | ⟨j,b,h1,h2,h3,h4⟩
   ·refine .inl ⟨by simp [indexFrom,h,h1],fun x hx=>?_⟩
    rcases List.mem_cons.1 hx with rfl | hx
    ·exact h
    ·exact h2 x hx
   ·refine .inr ⟨j + 1,b,by simp only [indexFrom,h,Bool.false_eq_true,if_false,h1];omega,by simpa using h2,h3,fun x hx=>?_⟩
    rw [List.take_succ_cons] at hx
    rcases List.mem_cons.1 hx with rfl | hx
    ·exact h
    ·exact h4 x hx
structure DelS (w:World) (b n c:Nat) (Z:Zone) (p:GNodeD→Bool) (l:List GNodeD) (i j:Nat) (W:World):Prop where
 row:∃ xf xm xr xt:List Value,W.heap[b]? = some (.cells (xf++(xm++(xr++xt))).toArray 68 (0,0))∧Chunks W Z xf ((l.take j).filter fun g=>!p g)∧Chunks W Z xr (l.drop j)∧xm.length + i * 40 = j * 40∧xt.length + n * 40 = c * 40
 cnt:i = ((l.take j).filter fun g=>!p g).length
 lt:i < j
 le:j ≤ n
 grown:w.grownBy W (some b)
section
variable {w W W':World} {b n c i j:Nat} {Z:Zone} {p:GNodeD→Bool} {l:List GNodeD}
theorem DelS.inb (h:DelS w b n c Z p l i j W):b < W.heap.size:=let ⟨_,_,_,_,h1,_⟩:=h.row;(Array.getElem?_eq_some_iff.1 h1).1
theorem DelS.next (h:DelS w b n c Z p l i j W) (hZ:∀ k,Z.blk k→k < w.heap.size∧k ≠ b) (hb:Below W.heap.size W W'):DelS w b n c Z p l i j W':=by
 obtain ⟨xf,xm,xr,xt,h1,h2,h3,h4,h5⟩:=h.row
 have hk:Keeps Z W W':=Keeps.of_below hb fun k hk=>Nat.lt_of_lt_of_le (hZ k hk).1 h.grown.size
 exact ⟨⟨xf,xm,xr,xt,(hb.block _ h.inb).trans h1,Chunks.keep hk h2,Chunks.keep hk h3,h4,h5⟩,h.cnt,h.lt,h.le,grown_seq h.grown (grown_new hb)⟩
theorem DelS.keeps (h:DelS w b n c Z p l i j W) (hZ:∀ k,Z.blk k→k < w.heap.size∧k ≠ b) (hb:Below W.heap.size W W'):Keeps Z W W':=Keeps.of_below hb fun k hk=>Nat.lt_of_lt_of_le (hZ k hk).1 h.grown.size
theorem DelS.elem (h:DelS w b n c Z p l i j W) (hn:l.length = n) (hj:j < n):∃ (z:GNodeD) (zc:List Value),l[j]? = some z∧rep W Z zc z∧At W b (j * 40) zc:=by
 obtain ⟨xf,xm,xr,xt,h1,h2,h3,h4,h5⟩:=h.row
 have hlt:j < l.length:=by omega
 rw [List.drop_eq_getElem_cons hlt] at h3
 obtain ⟨zc,xr',rfl,h6,h7⟩:=h3
 refine ⟨l[j],zc,List.getElem?_eq_getElem hlt,h6,?_⟩
 have hf:xf.length = i * 40:=by rw [h2.len,h.cnt];rfl
 have hat:=At.part (xs:=xf++xm) (cs:=zc) (ys:=xr'++xt) (At.of_row (cs:=(xf++xm)++zc++(xr'++xt)) (by simpa using h1))
 rw [List.length_append,show 0 + (xf.length + xm.length) = j * 40 by omega] at hat
 exact hat
theorem take_filter_snoc {z:GNodeD} (hz:l[j]? = some z):(l.take (j + 1)).filter (fun g=>!p g) = (l.take j).filter (fun g=>!p g)++if p z = true then [] else [z]:=by
 have hlt:=(List.getElem?_eq_some_iff.1 hz).1
 rw [List.take_add_one,hz,List.filter_append]
 cases h:p z <;> simp [h]
theorem DelS.skip (h:DelS w b n c Z p l i j W) (hn:l.length = n) {z:GNodeD} (hz:l[j]? = some z) (hp:p z = true):DelS w b n c Z p l i (j + 1) W:=by
 obtain ⟨xf,xm,xr,xt,h1,h2,h3,h4,h5⟩:=h.row
 have hlt:=(List.getElem?_eq_some_iff.1 hz).1
 have e:=take_filter_snoc (p:=p) hz
 rw [hp,if_pos rfl,List.append_nil] at e
 rw [List.drop_eq_getElem_cons hlt] at h3
 obtain ⟨zc,xr',rfl,h6,h7⟩:=h3
 have hl6:zc.length = 40:=gnode_len h6
 exact ⟨⟨xf,xm++zc,xr',xt,by simpa using h1,by rw [e];exact h2,h7,by rw [List.length_append];omega,h5⟩,by rw [e];exact h.cnt,by have:=h.lt;omega,by omega,h.grown⟩
theorem DelS.keep (h:DelS w b n c Z p l i j W) (hn:l.length = n) (hZ:∀ k,Z.blk k→k < w.heap.size∧k ≠ b) {z:GNodeD} {zc:List Value} (hz:l[j]? = some z) (hp:p z = false) (hr:rep W Z zc z) :
  ∃ cur:List Value,W.heap[b]? = some (.cells cur.toArray 68 (0,0))∧i * 40 + zc.length ≤ cur.length∧DelS w b n c Z p l (i + 1) (j + 1) (W.setRow b (cur.take (i * 40)++zc++cur.drop (i * 40 + zc.length)).toArray):=by
 obtain ⟨xf,xm,xr,xt,h1,h2,h3,h4,h5⟩:=h.row
 have hlt:=(List.getElem?_eq_some_iff.1 hz).1
 have e:=take_filter_snoc (p:=p) hz
 rw [hp,if_neg (by decide)] at e
 rw [List.drop_eq_getElem_cons hlt] at h3
 obtain ⟨yc,xr',rfl,h6,h7⟩:=h3
 have hl6:yc.length = 40:=gnode_len h6
 have hlz:zc.length = 40:=gnode_len hr
 have hf:xf.length = i * 40:=by rw [h2.len,h.cnt];rfl
 have hlt':=h.lt
 refine ⟨xf++(xm++((yc++xr')++xt)),h1,by simp only [List.length_append];omega,?_⟩
 have hk:Keeps Z W (W.setRow b ((xf++(xm++((yc++xr')++xt))).take (i * 40)++zc++(xf++(xm++((yc++xr')++xt))).drop (i * 40 + zc.length)).toArray):=Keeps.of_block fun k hk=>heap_setRow_other _ _ _ _ (hZ k hk).2
 have e1:(xf++(xm++((yc++xr')++xt))).take (i * 40) = xf:=by rw [← hf,List.take_left'];rfl
 have e2:(xf++(xm++((yc++xr')++xt))).drop (i * 40 + zc.length) = (xm++yc).drop 40++(xr'++xt):=by
  rw [← hf,hlz,List.drop_append,List.drop_of_length_le (by omega),List.nil_append,show xf.length + 40 - xf.length = 40 by omega]
  rw [show xm++((yc++xr')++xt) = (xm++yc)++(xr'++xt) by simp,List.drop_append,show 40 - (xm++yc).length = 0 by rw [List.length_append];omega,List.drop_zero]
 refine ⟨⟨xf++zc,(xm++yc).drop 40,xr',xt,?_,?_,Chunks.keep hk h7,by rw [List.length_drop,List.length_append];omega,h5⟩,by rw [e,List.length_append,← h.cnt];rfl,by omega,by omega,grown_seq h.grown (grown_setRow _ _ _)⟩
 ·rw [heap_setRow _ _ _ _ _ h1,e1,e2,List.append_assoc]
 ·rw [e]
  exact (Chunks.keep hk h2).snoc (Rep.keep hr hk)
theorem DelS.start {cur:Array Value} {xs:List Value} (hh:w.heap[b]? = some (.cells cur 68 (0,0))) (h5:cur.size = c * 40) (h6:cur.toList.take (n * 40) = xs) (hl:xs.length = n * 40) (hch:Chunks w Z xs l) (hn:l.length = n) (hc:n ≤ c)
  {a:GNodeD} (ha:l[j]? = some a) (hp:p a = true) (h0:∀ x ∈ l.take j,p x = false):DelS w b n c Z p l j (j + 1) w:=by
 have hlt:=(List.getElem?_eq_some_iff.1 ha).1
 have hla:=(List.getElem?_eq_some_iff.1 ha).2
 have e0:(l.take j).filter (fun g=>!p g) = l.take j:=List.filter_eq_self.2 fun x hx=>by rw [h0 x hx];rfl
 have e:=take_filter_snoc (p:=p) ha
 rw [hp,if_pos rfl,List.append_nil,e0] at e
 have el:l = l.take j++a :: l.drop (j + 1):=by rw [← hla,List.getElem_cons_drop,List.take_append_drop]
 rw [el] at hch
 obtain ⟨xf,xr0,hx,h1,za,xr,rfl,h2,h3⟩:=chunks_split hch
 have hf:xf.length = j * 40:=by rw [h1.len,List.length_take,Nat.min_eq_left (by omega)];rfl
 have hz:za.length = 40:=gnode_len h2
 refine ⟨⟨xf,za,xr,cur.toList.drop (n * 40),?_,by rw [e];exact h1,h3,by omega,by rw [List.length_drop,Array.length_toList,h5];omega⟩,by rw [e,List.length_take,Nat.min_eq_left (by omega)],by omega,by omega,World.grownBy.refl w _⟩
 rw [hh]
 have:cur = (xf++(za++(xr++cur.toList.drop (n * 40)))).toArray:=by
  apply Array.toList_inj.1
  rw [List.toList_toArray]
  conv=>lhs;rw [← List.take_append_drop (n * 40) cur.toList,h6,hx]
  simp
 rw [← this]
theorem DelS.done (h:DelS w b n c Z p l i n W) (hn:l.length = n) (hZ:∀ k,Z.blk k→k < w.heap.size∧k ≠ b) (hc:n ≤ c) (hm:c ≤ maxLen) {base:Nat} (hb:base ≤ b) :
  ∃ cur:List Value,W.heap[b]? = some (.cells cur.toArray 68 (0,0))∧i * 40 + (n - i) * zeroGN.length ≤ cur.length∧i = (l.filter fun g=>!p g).length ∧
   ∀ ys:List Value,ys.length = (n - i) * zeroGN.length→∃ xs':List Value,(W.setRow b (cur.take (i * 40)++ys++cur.drop (i * 40 + ys.length)).toArray).ownsRow base 68 40 (.slice (some ⟨b,0,none⟩) i c) i xs' ∧
    Chunks (W.setRow b (cur.take (i * 40)++ys++cur.drop (i * 40 + ys.length)).toArray) Z xs' (l.filter fun g=>!p g)∧w.grownBy (W.setRow b (cur.take (i * 40)++ys++cur.drop (i * 40 + ys.length)).toArray) (some b):=by
 obtain ⟨xf,xm,xr,xt,h1,h2,h3,h4,h5⟩:=h.row
 have hi:=h.cnt
 rw [← hn,List.take_length] at hi h2
 have hf:xf.length = i * 40:=by rw [h2.len,hi];rfl
 have hr0:xr.length = 0:=by rw [h3.len,List.length_drop,hn,Nat.sub_self,Nat.zero_mul]
 have hlt:=h.lt
 have hzl:=zeroGN_len
 refine ⟨xf++(xm++(xr++xt)),h1,by rw [hzl];simp only [List.length_append];omega,hi,fun ys hy=>⟨xf,?_,?_,grown_seq h.grown (grown_setRow _ _ _)⟩⟩
 ·have e1:(xf++(xm++(xr++xt))).take (i * 40) = xf:=by rw [← hf,List.take_left'];rfl
  refine ⟨hf,.inr ⟨b,c,_,rfl,hb,heap_setRow _ _ _ _ _ h1,by omega,hm,?_,?_⟩⟩
  ·rw [hzl] at hy
   simp only [List.size_toArray,List.length_append,List.length_take,List.length_drop]
   omega
  ·rw [e1,List.toList_toArray,List.append_assoc,← hf,List.take_left'];rfl
 ·exact Chunks.keep (Keeps.of_block fun k hk=>heap_setRow_other _ _ _ _ (hZ k hk).2) h2
end
set_option maxRecDepth 100000 in
set_option maxHeartbeats 4000000 in
theorem delfunc_any {base:Nat} (l:List GNodeD) (v:Value) (xs:List Value) (Z:Zone) (k:Nat) (p:GNodeD→Bool) (w:World) (hk:∀ args W,(callFunc k args).run Tryd.prog W = .ok (.enter k args) W)
  (hf:∀ (z:GNodeD) (zc:List Value) (W:World),zc[0]? = some (.int .i64 z.op)→Calls Tryd.prog k #[.agg zc.toArray] W fun e W'=>e = .returned (.bool (p z))∧Below W.heap.size W W')
  (ho:w.ownsRow base 68 40 v l.length xs) (hch:Chunks w Z xs l) (hZ:∀ b,Z.blk b→b < w.heap.size∧v.ownBlock ≠ some b) (hn:l.length ≤ 1048576) :
  Calls Tryd.prog 90 #[v,.func (.func k) #[] #[]] w fun e w'=>∃ v' xs',e = .returned v'∧w'.ownsRow base 68 40 v' (l.filter fun g=>!p g).length xs'∧Chunks w' Z xs' (l.filter fun g=>!p g)∧w.grownBy w' v.ownBlock∧v'.ownBlock = v.ownBlock:=by
 have hr:rep w (old w.heap.size) [v] l:=rep_of_own (e:=68) ho (Chunks.more ⟨fun b h=>(hZ b h).1,fun e=>by cases e⟩ hch) (show l.length * 432 ≤ reach by unfold reach;omega) (fun g _ _ h=>h)
 have HIX:=Lib.hid (indexNodes_any l v k p w hk hr hf)
 clear hr
 rcases index_at p l 0 with ⟨h1,h2⟩ | ⟨j0,a,h1,h2,h3,h4⟩
 ·have HH:=Lib.hid (And.intro h1 (And.intro h2 (And.intro ho hch)))
  have HZ:=Lib.hid hZ
  clear h1 h2 ho hch hZ
  go_enter Tryd.func90,Tryd.ntmps90
  go_wp2_with fail
  refine HIX.out.mono ?_
  rw [HH.out.1]
  rintro e w1 ⟨rfl,hb⟩
  have HB:=Lib.hid hb
  clear hb
  go_wp2
  go_ret
  have e:l.filter (fun g=>!p g) = l:=List.filter_eq_self.2 fun x hx=>by rw [HH.out.2.1 x hx];rfl
  rw [e]
  exact ⟨v,xs,rfl,own_below HH.out.2.2.1 HB.out,Chunks.keep (Keeps.of_below HB.out fun k hk=>(HZ.out k hk).1) HH.out.2.2.2,grown_new HB.out,rfl⟩
 ·have hlen:=ho.1
  rcases ho.2 with ⟨rfl,h0⟩ | ⟨b,c,cur,rfl,hb,hh,h3c,h4c,h5,h6⟩
  ·rw [List.length_eq_zero_iff.1 h0] at h2;cases h2
  ·have hZ':∀ k,Z.blk k→k < w.heap.size∧k ≠ b:=fun k hk=>⟨(hZ k hk).1,fun e=>(hZ k hk).2 (by rw [e];rfl)⟩
   have hst:=DelS.start (p:=p) hh h5 h6 hlen hch rfl h3c h2 h3 h4
   have hj0:=(List.getElem?_eq_some_iff.1 h2).1
   have HS:=Lib.hid (And.intro hst (And.intro hZ' (And.intro hb h1)))
   have HK:=Lib.hid (And.intro hk hf)
   rw [Nat.zero_add] at h1
   have H1:=Lib.hid h1
   have hmc:c ≤ 9223372036854775807:=by unfold maxLen at h4c;omega
   have HM:=Lib.hid h4c
   clear hst hZ' hb h1 hk hf ho hch hZ hlen hh h5 h6 h2 h3 h4 h4c
   have hne:¬ ((j0:Int) = -1):=by omega
   have hk0:(0:Int) ≤ (j0:Int):=Int.natCast_nonneg _
   have hk1:(j0:Int) < (l.length:Int):=by omega
   go_enter Tryd.func90,Tryd.ntmps90
   go_wp2_with fail
   refine HIX.out.mono ?_
   rw [H1.out]
   rintro e w1 ⟨rfl,hb⟩
   have HD0:=Lib.hid (HS.out.1.next HS.out.2.1 hb)
   clear hb
   go_wp2_with fail
   go_loopw [5,6] (fun i j wr=>∃ i' j':Nat,i = .int .i64 i'∧j = .int .i64 j'∧DelS w b l.length c Z p l i' j' wr) (fun _ j _=>l.length - (intOf j).toNat)
   case atStart=>exact ⟨j0,j0 + 1,rfl,by go_num,HD0.out⟩
   case round =>
    obtain ⟨i',j',rfl,rfl,hD⟩:=hrel
    have hle:=hD.le
    have hlt:=hD.lt
    have HDr:=Lib.hid hD
    clear hD
    have hi0:(0:Int) ≤ (i':Int):=Int.natCast_nonneg _
    have hjz:(0:Int) ≤ (j':Int):=Int.natCast_nonneg _
    have hij:(i':Int) < (j':Int):=by omega
    have hjn:(j':Int) ≤ (l.length:Int):=by omega
    by_cases hj:(j':Int) < (l.length:Int)
    ·obtain ⟨z,zc,hz,hrz,hat⟩:=HDr.out.elem rfl (by omega)
     obtain ⟨ss,I1,i1,O1,o1,z0,-⟩:=gnode_facts hrz
     have hat':At wr b (j' * 40) zc:=hat
     have HA:=Lib.hid (And.intro hat (And.intro (node_lay hrz) (And.intro z0 (And.intro hz hrz))))
     clear hz hrz hat z0 hat'
     go_wp2_with (first
      |(with_reducible refine wpList_load_agg rfl 68 _ rfl _ b (j' * 40) rfl zc Tryd.underlying68 rfl HA.out.2.1.1 HA.out.1 ?_)
      |(with_reducible refine wpList_alloc_row rfl 68 rfl zeroGN zeroGN_zero ?_)
      |(with_reducible refine wpList_store_agg rfl 68 _ _ rfl _ 0 zc rfl rfl 68 zeroGN (heap_alloc_new _ _) HA.out.2.1.1 HA.out.2.1.2.1 HA.out.2.1.2.2.2 ?_;have hY:=laid_row wr 68 zeroGN zc HA.out.2.1.2.2.1;generalize World.setRow _ _ _ = v2 at hY ⊢;have HY:=Lib.hid hY;clear hY;refine halt ?_))
     unfold Halt
     have HD2:=Lib.hid (HDr.out.next HS.out.2.1 HY.out.1)
     have HR2:=Lib.hid (Rep.keep HA.out.2.2.2.2 (HDr.out.keeps HS.out.2.1 HY.out.1))
     go_wp2_with (with_reducible refine wpList_load_agg rfl 68 _ rfl _ wr.heap.size 0 rfl zc Tryd.underlying68 rfl HA.out.2.1.1 (At.of_row HY.out.2.1) ?_)
     rw [HK.out.1,Oper.upon_enter]
     refine (HK.out.2 z zc v2 HA.out.2.2.1).mono ?_
     obtain ⟨y,hy⟩:∃ y,p z = y:=⟨_,rfl⟩
     rw [hy]
     have HPZ:=Lib.hid hy
     clear hy
     rintro e w4 ⟨rfl,hb4⟩
     have HD3:=Lib.hid (HD2.out.next HS.out.2.1 hb4)
     have HR3:=Lib.hid (Rep.keep HR2.out (HD2.out.keeps HS.out.2.1 hb4))
     have HB4:=Lib.hid (show At w4 wr.heap.size 0 zc from (At.of_row HY.out.2.1).keep hb4 (by have:=HY.out.2.2;omega))
     clear hb4
     cases y with
     | true =>
      go_wp2
      go_roundw
      case rel=>exact ⟨_,_,_,_,_,_,_,_,_,_,_,_,_,_,_,_,_,_,_,_,_,_,_,⟨i',j' + 1,rfl,by go_num,HD3.out.skip rfl HA.out.2.2.2.1 HPZ.out⟩,rfl⟩
      case measure=>simp [intOf];omega
     | false =>
      obtain ⟨cur,hcur,hfit,hnew⟩:=HD3.out.keep rfl HS.out.2.1 HA.out.2.2.2.1 HPZ.out HR3.out
      have HN:=Lib.hid (And.intro hcur (And.intro hfit hnew))
      clear hcur hfit hnew
      go_wp2_with (first
       |(with_reducible refine wpList_load_agg rfl 68 _ rfl _ wr.heap.size 0 rfl zc Tryd.underlying68 rfl HA.out.2.1.1 HB4.out ?_)
       |(with_reducible refine wpList_store_agg rfl 68 _ _ rfl b (i' * 40) zc rfl rfl 68 cur HN.out.1 HA.out.2.1.1 HN.out.2.1 HA.out.2.1.2.2.2 ?_;have hY:=HN.out.2.2;generalize World.setRow _ _ _ = v5 at hY ⊢;have HY5:=Lib.hid hY;clear hY;refine halt ?_))
      unfold Halt
      go_wp2
      go_roundw
      case rel=>exact ⟨_,_,_,_,_,_,_,_,_,_,_,_,_,_,_,_,_,_,_,_,_,_,_,⟨i' + 1,j' + 1,by go_num,by go_num,HY5.out⟩,rfl⟩
      case measure=>simp [intOf];omega
    ·have hjl:j' = l.length:=by omega
     subst hjl
     obtain ⟨cur9,hcur,hfit,hi9,hdone⟩:=HDr.out.done rfl HS.out.2.1 h3c HM.out HS.out.2.2.1
     obtain ⟨ys,hyl,hrun⟩:=run_clear_row (P:=Tryd.prog) wr 61 68 0 zeroGN Tryd.underlying61 (fun w=>by kernel_rfl) (by rw [zeroGN_len];decide) zeroGN_one b (i' * 40) (l.length - i') (c - i') (by omega) 68 cur9 hcur hfit
     obtain ⟨xs9,d1,d2,d3⟩:=hdone ys hyl
     have HD9:=Lib.hid (And.intro hrun (And.intro d1 (And.intro d2 (And.intro d3 hi9))))
     have hci:¬ c = i':=by omega
     have hic:i' ≤ c:=by omega
     have hin:i' ≤ l.length:=by omega
     clear hcur hfit hdone hyl hrun d1 d2 d3 hi9
     go_wp2_with fail
     rw [HD9.out.1]
     simp only [Result.andThen_ok,Oper.upon_value]
     have hY:=HD9.out.2
     generalize World.setRow _ _ _ = v9 at hY ⊢
     have HY9:=Lib.hid hY
     clear hY HD9
     go_wp2
     go_ret
     obtain ⟨d1,d2,d3,hi9⟩:=HY9.out
     refine ⟨.slice (some ⟨b,0,none⟩) i' c,xs9,rfl,?_,d2,d3,rfl⟩
     rw [← hi9]
     exact d1
end Go.Proofs.YtgbkhcmbmffljaaDoor
set_option linter.unusedSimpArgs false
set_option linter.unusedVariables false
namespace Go.Proofs.YtgbkhcmbmffljaaDoor
open Go.RowKit
open Rep (rep)
section
variable {P:Program} {md:Region.Mode} {ops:Array Oper} {Q:Exit→Act→World→Prop} {S:World→Prop} {fuel:Nat} {listed:Array Bool} {a:Act} {w:World} {o:Oper}
theorem bound_ok {P:Program} (w:World) (q:Int) (i c:Nat) (code:BoundsCode) (hq:q = (i:Int)) (hi:i ≤ c):(Instr.sliceBound (.int .i64 q) c code).run P w = .ok i w:=by
 subst hq
 have h1:(0:Int) ≤ (i:Int)∧(i:Int) ≤ (c:Int):=⟨Int.natCast_nonneg _,by omega⟩
 simp [Instr.sliceBound,asIntOf,Sem.run_bind,h1]
 try go_simp
theorem yields_sliceTo {e:TypeId} (hw:Region.wanted o (yielded ops a.tmps) = true) (t:TypeId) (x y:Operand) (ho:o.op = .slice t x none (some y) none) (A:Option Addr) (n c i size:Nat) (q:Int) (hx:a.eval x = .slice A n c) (hy:a.eval y = .int .i64 q)
  (ht:P.underlying t = some (.slice e)) (hs:(P.info? e).map (·.size) = some size) (hq:q = (i:Int)) (hic:i ≤ c):YieldsIf P ops S o (.slice A i c) a :=
 .inl ⟨hw,fun w h=>by
  cases hi:P.info? e with
  | none=>simp [hi] at hs
  | some j =>
   unfold execOp
   simp only [ho,hx,Option.map_some,Option.map_none,hy]
   simp [Instr.sliceAt,Instr.slice,run_underlying ht,Instr.sliceBounds,Sem.run_bind,bound_ok w q i c _ hq hic,sizeOf,typeInfo,hi,Result.andThen]
   try (cases A <;> simp [Addr.add])⟩
theorem yields_sliceFrom {e:TypeId} (hw:Region.wanted o (yielded ops a.tmps) = true) (t:TypeId) (x y:Operand) (ho:o.op = .slice t x (some y) none none) (b n c i k size:Nat) (q:Int) (A:Addr) (hx:a.eval x = .slice (some ⟨b,0,none⟩) n c) (hy:a.eval y = .int .i64 q)
  (ht:P.underlying t = some (.slice e)) (hs:(P.info? e).map (·.size) = some size) (hq:q = (i:Int)) (hin:i ≤ n) (hk:n - i = k) (hA:(if c = i then (⟨b,0,none⟩:Addr) else ⟨b,i * size,none⟩) = A):YieldsIf P ops S o (.slice (some A) k (c - i)) a :=
 .inl ⟨hw,fun w h=>by
  subst hk hA
  cases hi:P.info? e with
  | none=>simp [hi] at hs
  | some j =>
   have hs':j.size = size:=by simpa [hi] using hs
   unfold execOp
   simp only [ho,hx,Option.map_some,Option.map_none,hy]
   simp [Instr.sliceAt,Instr.slice,run_underlying ht,Instr.sliceBounds,Sem.run_bind,bound_ok w q i n _ hq hin,sizeOf,typeInfo,hi,Result.andThen,hs',Addr.add_lit]
   by_cases hc:c = i
   ·simp [hc]
   ·simp [hc]⟩
theorem steps_append_room {i:Nat} (hw:Region.wanted o (yielded ops a.tmps) = true) (s x:Operand) (t:TypeId) (ho:o.op = .call { callee:=.builtin .append,args:=#[s,x],argTypes:=#[t,t] })
  (e:TypeId) (j:TypeInfo) (size:Nat) (ht:P.underlying t = some (.slice e)) (hi:P.info? e = some j) (hsize:j.size = size)
  (b n c:Nat) (hs:a.eval s = .slice (some ⟨b,0,none⟩) n c) (A:Addr) (m k:Nat) (news:List Value) (hx:a.eval x = .slice (some A) m k) (hl:news.length = m * size) (hc:∀ j u,news[j]? = some u→w.cell? (A.add j) = some u) (h1:∀ u ∈ news,u.oneCell' = true)
  (e':Nat) (hnm:n + m = e') (hroom:n + m ≤ c) (hsp:∀ j,j < news.length→(w.cell? ⟨b,n * size + j,none⟩).isSome = true∧w.frozen? ⟨b,n * size + j,none⟩ = false)
  (hS:S (w.setCells b (n * size) news)) (h:wpAnyH P md ops Q S fuel (listed.setIfInBounds i true) (a.put o.dst (.slice (some ⟨b,0,none⟩) e' c)) (w.setCells b (n * size) news)):StepTo P md ops Q S fuel listed i o a w:=by
 subst hsize hnm
 have hrun:=run_append_room_cells (P:=P) w t o.type e j ht hi b 0 n c A m k news hl hc h1 hroom (fun q hq=>by rw [Nat.zero_add];exact (hsp q hq).1) (fun q hq=>by rw [Nat.zero_add];exact (hsp q hq).2)
 rw [Nat.zero_add] at hrun
 refine ⟨hw,_,_,?_,hS,h⟩
 simp [execOp,ho,resolve,invoke,builtin,hs,hx,hrun,Result.andThen]
end
theorem dlt_parts {base:Nat} {l:List GNodeD} {i c b k:Nat} {xs:List Value} {Z:Zone} {w:World} (ho:w.ownsRow base 68 40 (.slice (some ⟨b,0,none⟩) l.length c) l.length xs) (hch:Chunks w Z xs l) (hZ:∀ k,Z.blk k→k < w.heap.size∧k ≠ b) (hk:l.length = i + 1 + k) :
  ∃ (xa zc xr xt:List Value),w.heap[b]? = some (.cells (xa++(zc++(xr++xt))).toArray 68 (0,0))∧xa.length = i * 40∧zc.length = 40∧xr.length = k * 40∧xt.length + l.length * 40 = c * 40∧l.length ≤ c∧c ≤ maxLen∧base ≤ b∧Chunks w Z (xa++xr) (l.eraseIdx i)∧(∀ u ∈ xr,u.oneCell' = true):=by
 rcases ho.2 with ⟨hv,_⟩ | ⟨g,cap,cur,hv,hb,hh,h3,h4,h5,h6⟩
 ·cases hv
 simp only [Value.slice.injEq,Option.some.injEq,Addr.mk.injEq,and_true,true_and] at hv
 obtain ⟨rfl,rfl⟩:=hv
 have hlt:i < l.length:=by omega
 have el:l = l.take i++l[i] :: l.drop (i + 1):=by rw [List.getElem_cons_drop,List.take_append_drop]
 have ee:l.eraseIdx i = l.take i++l.drop (i + 1):=List.eraseIdx_eq_take_drop_succ l i
 have hch':=hch
 rw [el] at hch'
 obtain ⟨xa,xz,hx,h7,zc,xr,rfl,h8,h9⟩:=chunks_split hch'
 have la:xa.length = i * 40:=by rw [h7.len,List.length_take,Nat.min_eq_left (by omega)];rfl
 have lz:zc.length = 40:=gnode_len h8
 have lr:xr.length = k * 40:=by rw [h9.len,List.length_drop,show l.length - (i + 1) = k by omega];rfl
 refine ⟨xa,zc,xr,cur.toList.drop (l.length * 40),?_,la,lz,lr,by rw [List.length_drop,Array.length_toList,h5];omega,h3,h4,hb,by rw [ee];exact h7.append h9,h9.one⟩
 rw [hh]
 have:cur = (xa++(zc++(xr++cur.toList.drop (l.length * 40)))).toArray:=by
  apply Array.toList_inj.1
  rw [List.toList_toArray]
  conv=>lhs;rw [← List.take_append_drop (l.length * 40) cur.toList,h6,hx]
  simp
 rw [← this]
theorem dlt_done {base:Nat} {i c b k e:Nat} {xa zc xr xt:List Value} {Z:Zone} {w W:World} {l:List GNodeD} (hh:w.heap[b]? = some (.cells (xa++(zc++(xr++xt))).toArray 68 (0,0))) (la:xa.length = i * 40) (lz:zc.length = 40) (lr:xr.length = k * 40)
  (lt:xt.length + (e + 1) * 40 = c * 40) (he:i + k = e) (hc:e + 1 ≤ c) (hm:c ≤ maxLen) (hb:base ≤ b) (hch:Chunks w Z (xa++xr) l) (hZ:∀ k,Z.blk k→k < w.heap.size∧k ≠ b) (hW:w.grownBy W (some b)) (hr:W.heap[b]? = w.heap[b]?) :
  ∃ cur:List Value,(W.setCells b (i * 40) xr).heap[b]? = some (.cells cur.toArray 68 (0,0))∧e * 40 + 1 * zeroGN.length ≤ cur.length∧∀ ys:List Value,ys.length = 1 * zeroGN.length →
   ((W.setCells b (i * 40) xr).setRow b (cur.take (e * 40)++ys++cur.drop (e * 40 + ys.length)).toArray).ownsRow base 68 40 (.slice (some ⟨b,0,none⟩) e c) e (xa++xr) ∧
   Chunks ((W.setCells b (i * 40) xr).setRow b (cur.take (e * 40)++ys++cur.drop (e * 40 + ys.length)).toArray) Z (xa++xr) l∧w.grownBy ((W.setCells b (i * 40) xr).setRow b (cur.take (e * 40)++ys++cur.drop (e * 40 + ys.length)).toArray) (some b):=by
 obtain ⟨h1,h2⟩:=setCells_heap b 68 xr (i * 40) (xa++(zc++(xr++xt))) W (hr.trans hh) (by simp only [List.length_append];omega)
 have e1:(xa++(zc++(xr++xt))).take (i * 40) = xa:=by rw [← la,List.take_left'];rfl
 rw [e1] at h1
 obtain ⟨yt,hyt⟩:∃ yt,(xa++(zc++(xr++xt))).drop (i * 40 + xr.length) = yt:=⟨_,rfl⟩
 have ly:yt.length + e * 40 = c * 40:=by rw [← hyt,List.length_drop];simp only [List.length_append];omega
 rw [hyt] at h1
 have hzl:=zeroGN_len
 have hg:=grown_seq hW h2
 refine ⟨xa++(xr++yt),h1,by rw [hzl];simp only [List.length_append];omega,fun ys hy=>?_⟩
 rw [hzl] at hy
 have lar:(xa++xr).length = e * 40:=by rw [List.length_append];omega
 have e2:(xa++(xr++yt)).take (e * 40) = xa++xr:=by rw [← List.append_assoc,← lar,List.take_left'];rfl
 refine ⟨⟨lar,.inr ⟨b,c,_,rfl,hb,heap_setRow _ _ _ _ _ h1,by omega,hm,?_,?_⟩⟩,?_,grown_seq hg (grown_setRow _ _ _)⟩
 ·simp only [List.size_toArray,List.length_append,List.length_take,List.length_drop]
  omega
 ·rw [e2,List.toList_toArray,List.append_assoc (xa++xr),← lar,List.take_left'];rfl
 ·exact Chunks.keep (Keeps.of_block fun k hk=>(heap_setRow_other _ _ _ _ (hZ k hk).2).trans (hg.block k (hZ k hk).1 (fun e=>(hZ k hk).2 (by injection e)))) hch
set_option maxRecDepth 100000 in
set_option maxHeartbeats 4000000 in
theorem delete_any {base:Nat} (l:List GNodeD) (i c b e:Nat) (xs:List Value) (Z:Zone) (w:World) (ho:w.ownsRow base 68 40 (.slice (some ⟨b,0,none⟩) l.length c) l.length xs) (hch:Chunks w Z xs l) (hZ:∀ k,Z.blk k→k < w.heap.size∧k ≠ b)
  (hi:i < l.length) (hle:l.length = e + 1) (hn:l.length ≤ 1048576) :
  Calls Tryd.prog 93 #[.slice (some ⟨b,0,none⟩) (e + 1) c,.int .i64 (i:Int),.int .i64 ((i:Int) + 1)] w fun en w'=>en = .returned (.slice (some ⟨b,0,none⟩) e c)∧∃ xs':List Value,w'.ownsRow base 68 40 (.slice (some ⟨b,0,none⟩) e c) e xs'∧Chunks w' Z xs' (l.eraseIdx i)∧w.grownBy w' (some b):=by
 obtain ⟨k,he⟩:∃ k,i + k = e:=⟨e - i,by omega⟩
 obtain ⟨xa,zc,xr,xt,hh,la,lz,lr,lt,hnc,hcm,hb,hch2,h1⟩:=dlt_parts (i:=i) (k:=k) ho hch hZ (by omega)
 rw [hle] at lt hnc
 have hcs:=(Array.getElem?_eq_some_iff.1 hh).1
 have hcell:∀ j u,(xa++(zc++(xr++xt)))[j]? = some u→w.drew.cell? ⟨b,j,none⟩ = some u:=fun j u hj=>by rw [show w.drew.cell? ⟨b,j,none⟩ = w.cell? ⟨b,j,none⟩ from rfl,cell_of_row _ _ _ _ _ _ hh,List.getElem?_toArray];exact hj
 obtain ⟨A,hA⟩:∃ A:Addr,(if c = i + 1 then (⟨b,0,none⟩:Addr) else ⟨b,(i + 1) * 40,none⟩) = A:=⟨_,rfl⟩
 have hcA:∀ j u,xr[j]? = some u→w.drew.cell? (A.add j) = some u:=fun j u hj=>by
  have hj':=(List.getElem?_eq_some_iff.1 hj).1
  have hne:¬ c = i + 1:=by omega
  rw [if_neg hne] at hA
  subst hA
  rw [Addr.add_lit]
  refine hcell _ _ ?_
  rw [List.getElem?_append_right (by omega),la,List.getElem?_append_right (by omega),lz,List.getElem?_append_left (by omega)]
  rw [show (i + 1) * 40 + j - i * 40 - 40 = j by omega]
  exact hj
 have hsp:∀ j,j < xr.length→(w.drew.cell? ⟨b,i * 40 + j,none⟩).isSome = true∧w.drew.frozen? ⟨b,i * 40 + j,none⟩ = false:=fun j hj=>by
  obtain ⟨u,hu⟩:∃ u,(xa++(zc++(xr++xt)))[i * 40 + j]? = some u:=⟨_,List.getElem?_eq_getElem (by simp only [List.length_append];omega)⟩
  refine ⟨by rw [hcell _ _ hu];rfl,?_⟩
  show w.frozen? _ = false
  simp [World.frozen?,hh]
 obtain ⟨cur,c1,c2,c3⟩:=dlt_done (W:=w.drew) (base:=base) hh la lz lr lt he hnc hcm hb hch2 hZ (grown_new (Below.refl _ _).drew) rfl
 obtain ⟨ys,hyl,hrun⟩:=run_clear_row (P:=Tryd.prog) (w.drew.setCells b (i * 40) xr) 61 68 0 zeroGN Tryd.underlying61 (fun w=>by kernel_rfl) (by rw [zeroGN_len];decide) zeroGN_one b (e * 40) 1 (c - e) (by omega) 68 cur c1 c2
 have HD:=Lib.hid (And.intro hrun (c3 ys hyl))
 obtain ⟨i0,hi0,hz0,hz1,hz2⟩:=info_parts gnInfo
 have HR:=Lib.hid (And.intro lr (And.intro hcA (And.intro h1 (And.intro hsp (And.intro hi0 hz1)))))
 have hk0:(0:Int) ≤ (i:Int):=Int.natCast_nonneg _
 have hk1:(i:Int) + 1 ≤ ((e + 1:Nat):Int):=by omega
 have hk2:(0:Int) ≤ (i:Int) + 1:=by omega
 have hk3:(i:Int) ≤ (i:Int) + 1:=by omega
 have hk4:((i:Int) == (i:Int) + 1) = false:=beq_eq_false_iff_ne.2 (by omega)
 have hcM:c ≤ 9223372036854775807:=by unfold maxLen at hcm;omega
 have HE:=Lib.hid (And.intro he hA)
 have hie:i ≤ e:=by omega
 clear ho hch hZ hi hle hn hh la lz lr lt hcm hb hch2 h1 hcell hcA hsp c1 c2 c3 hyl hrun hi0 hz0 hz1 hz2 he hA
 go_enter Tryd.func93,Tryd.ntmps93
 go_wp2_with fail
 obtain ⟨he,hA⟩:=HE.out
 refine wp_region_held_drew (S:=fun _=>True) (by kernel_rfl) trivial (fun hHeld=>?_)
 refine take_d9 0 (some 20) (v:=.slice (some ⟨b,0,none⟩) (e + 1) c) rfl (by kernel_rfl) (by kernel_rfl) (by kernel_rfl) (by kernel_rfl) (fun c a w h=>h) (Or.inl ⟨by kernel_rfl,fun w _=>by kernel_rfl⟩) trivial ?_
 refine take_d9 1 (some 21) (v:=.int .i64 (i:Int)) rfl (by kernel_rfl) (by kernel_rfl) (by kernel_rfl) (by kernel_rfl) (fun c a w h=>h) (Or.inl ⟨by kernel_rfl,fun w _=>by kernel_rfl⟩) trivial ?_
 refine take_d9 2 (some 22) (v:=.slice (some ⟨b,0,none⟩) i c) rfl (by kernel_rfl) (by kernel_rfl) (by kernel_rfl) (by kernel_rfl) (fun c a w h=>h) (yields_sliceTo (by kernel_rfl) _ _ _ rfl (some ⟨b,0,none⟩) (e + 1) c i 40 (i:Int) (by kernel_rfl) (by kernel_rfl) Tryd.underlying61 (by kernel_rfl) rfl (by omega)) trivial ?_
 refine take_d9 3 (some 23) (v:=.slice (some ⟨b,0,none⟩) (e + 1) c) rfl (by kernel_rfl) (by kernel_rfl) (by kernel_rfl) (by kernel_rfl) (fun c a w h=>h) (Or.inl ⟨by kernel_rfl,fun w _=>by kernel_rfl⟩) trivial ?_
 refine take_d9 4 (some 24) (v:=.int .i64 ((i:Int) + 1)) rfl (by kernel_rfl) (by kernel_rfl) (by kernel_rfl) (by kernel_rfl) (fun c a w h=>h) (Or.inl ⟨by kernel_rfl,fun w _=>by kernel_rfl⟩) trivial ?_
 refine take_d9 5 (some 25) (v:=.slice (some A) k (c - (i + 1))) rfl (by kernel_rfl) (by kernel_rfl) (by kernel_rfl) (by kernel_rfl) (fun c a w h=>h) (yields_sliceFrom (by kernel_rfl) _ _ _ rfl b (e + 1) c (i + 1) k 40 ((i:Int) + 1) A (by kernel_rfl) (by kernel_rfl) Tryd.underlying61 (by kernel_rfl) (by omega) (by omega) (by omega) hA) trivial ?_
 refine anyH_1 6 rfl (by kernel_rfl) ?_
 refine steps_append_room (by kernel_rfl) _ _ _ rfl 68 i0 40 Tryd.underlying61 HR.out.2.2.2.2.1 HR.out.2.2.2.2.2 b i c (by kernel_rfl) A k (c - (i + 1)) xr (by kernel_rfl) HR.out.1 HR.out.2.1 HR.out.2.2.1 e he (by omega) HR.out.2.2.2.1 trivial ?_
 refine take_d9 7 (some 0) (v:=.slice (some ⟨b,0,none⟩) e c) rfl (by kernel_rfl) (by kernel_rfl) (by kernel_rfl) (by kernel_rfl) (fun c a w h=>h) (Or.inl ⟨by kernel_rfl,fun w _=>by kernel_rfl⟩) trivial ?_
 refine wpAnyH_done (by kernel_rfl) ?_ _
 have hX:=HD.out
 generalize World.setCells _ _ _ _ = W1 at hX ⊢
 have HX:=Lib.hid hX
 have hne:¬ c = e:=by omega
 have hee:e ≤ c:=by omega
 clear hX HD HR hA he HE hHeld hk0 hk1 hk2 hk3 hk4 hie
 go_wp2_with fail
 rw [HX.out.1]
 simp only [Result.andThen_ok,Oper.upon_value]
 have hY:=HX.out.2
 generalize World.setRow _ _ _ = v9 at hY ⊢
 have HY9:=Lib.hid hY
 clear hY HX
 go_wp2
 go_ret
 exact ⟨rfl,_,HY9.out.1,HY9.out.2.1,HY9.out.2.2⟩
end Go.Proofs.YtgbkhcmbmffljaaDoor
