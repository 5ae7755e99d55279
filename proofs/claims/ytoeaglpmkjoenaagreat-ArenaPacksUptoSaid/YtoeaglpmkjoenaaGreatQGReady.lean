/-
  Chapter 09: graph.Live: on which nodes an output hangs.
-/
/-
  Chapter 09: slices.ContainsFunc over numbers with any closure; graph.ready, graph.defined.
-/
import Derived.Laws.MakeOwn
import Derived.Test.YtoeaglpmkjoenaaGreatQGMaps
set_option linter.unusedSimpArgs false
set_option linter.unusedVariables false
namespace Go.Proofs.YtoeaglpmkjoenaaGreat
open Go.RowKit
open Rep (rep)
def liveStep (n:GNodeD) (s:List Bool × (Int→Bool)):List Bool × (Int→Bool) :=
 (n.outs.any s.2 :: s.1,if n.outs.any s.2 = true then fun k=>s.2 k || n.ins.contains k else s.2)
def liveS (nodes:List GNodeD) (want:Int→Bool):List Bool × (Int→Bool):=nodes.foldr liveStep ([],want)
def liveD (g:GraphD):List Bool:=(liveS g.nodes fun k=>g.outputs.contains k).1
theorem liveS_len (want:Int→Bool):∀ l:List GNodeD,(liveS l want).1.length = l.length
 | []=>rfl
 | a :: l=>by
  show ((liveStep a (liveS l want)).1).length = _
  unfold liveStep
  simp [liveS_len want l]
structure LiveInv (w:World) (cs:List Value) (mb n:Nat) (f:Int→Int) (W:World):Prop where
 below:Below w.heap.size w W
 row:W.heap[w.heap.size]? = some (.cells cs.toArray 26 (0,0))
 map:MapI W mb n f
 ge:w.heap.size < mb
section
variable {w W W':World} {cs:List Value} {mb n:Nat} {f:Int→Int}
theorem LiveInv.lt (h:LiveInv w cs mb n f W):w.heap.size < W.heap.size:=(Array.getElem?_eq_some_iff.1 h.row).1
theorem LiveInv.next (h:LiveInv w cs mb n f W) (hb:Below W.heap.size W W'):LiveInv w cs mb n f W':=⟨h.below.trans (hb.mono h.below.size),(hb.block _ h.lt).trans h.row,h.map.below hb h.map.lt,h.ge⟩
theorem LiveInv.put {n':Nat} {f':Int→Int} (h:LiveInv w cs mb n f W) (hm:MapI W' mb n' f') (hg:W.grownBy W' (some mb)):LiveInv w cs mb n' f' W' :=
 ⟨h.below.grown hg h.below.size (fun g e=>by injection e with e;have:=h.ge;omega),(hg.block _ h.lt (fun e=>by injection e with e;have:=h.ge;omega)).trans h.row,hm,h.ge⟩
end
structure LiveAt (w:World) (cs:List Value) (mb n:Nat) (f:Int→Int) (q:Nat) (bs:List Bool) (W:World):Prop where
 inv:LiveInv w cs mb n f W
 arr:W.heap[q]? = some (.cells (bs.map Value.bool).toArray 4 (0,0))
 gq:mb < q
section
variable {w W W':World} {cs:List Value} {mb n q:Nat} {f:Int→Int} {bs:List Bool}
theorem LiveAt.put {n':Nat} {f':Int→Int} (h:LiveAt w cs mb n f q bs W) (hm:MapI W' mb n' f') (hg:W.grownBy W' (some mb)):LiveAt w cs mb n' f' q bs W' :=
 ⟨h.inv.put hm hg,(hg.block _ (Array.getElem?_eq_some_iff.1 h.arr).1 (fun e=>by injection e with e;have:=h.gq;omega)).trans h.arr,h.gq⟩
theorem LiveAt.set (h:LiveAt w cs mb n f q bs W) (k:Nat) (x:Bool):LiveAt w cs mb n f q (bs.set k x) (W.setCell ⟨q,k,none⟩ (.bool x)):=by
 rw [set_as_row h.arr]
 have hg:W.grownBy (W.setRow q ((bs.map Value.bool).toArray.setIfInBounds k (.bool x))) (some q):=⟨rfl,rfl,rfl,by rw [size_setRow];exact Nat.le_refl _,fun j _ hn=>heap_setRow_other _ _ _ _ (fun e=>hn (by rw [e]))⟩
 have h1:=h.gq
 have h2:=h.inv.ge
 refine ⟨⟨h.inv.below.grown hg h.inv.below.size (fun g e=>by injection e with e;omega),(heap_setRow_other _ _ _ _ (by omega)).trans h.inv.row,h.inv.map.kept hg (fun e=>by injection e with e;omega),h2⟩,?_,h1⟩
 rw [heap_setRow _ _ _ _ _ h.arr,List.map_set,List.setIfInBounds_toArray]
theorem LiveAt.free (h:LiveAt w cs mb n f q bs W) (k:Nat):W.frozen? ⟨q,k,none⟩ = false:=by simp [World.frozen?,h.arr]
theorem LiveAt.cell (h:LiveAt w cs mb n f q bs W) {k:Nat} {x:Bool} (hk:bs[k]? = some x):W.cell? ⟨q,k,none⟩ = some (.bool x):=by
 rw [cell_of_row _ _ _ _ _ _ h.arr,List.getElem?_toArray,List.getElem?_map,hk];rfl
end
theorem made_bools (n:Nat):madeCells (#[.bool false]:Array Value) n = (List.replicate n (Value.bool false)).toArray:=by
 apply Array.toList_inj.1
 rw [List.toList_toArray]
 apply List.ext_getElem?
 intro i
 simp only [Array.getElem?_toList,List.getElem?_replicate]
 by_cases h:i < n
 ·rw [if_pos h,Array.getElem?_eq_getElem (by rw [size_madeCells];exact h)]
  simp [madeCells,Nat.mod_one]
 ·rw [if_neg h,Array.getElem?_eq_none (by rw [size_madeCells];omega)]
theorem bools_arr (n:Nat):Array.replicate n (Value.bool false) = ((List.replicate n false).map Value.bool).toArray:=by simp
theorem make_bools (n:Nat) (w:World) (hn:n ≤ 1048576):(Instr.makeSlice 28 (.int .i64 (n:Int)) (.int .i64 (n:Int))).run Tryz.prog w = .ok (.slice (some ⟨w.heap.size,0,none⟩) n n) (w.alloc (.cells (Array.replicate n (.bool false)) 4)):=by
 obtain ⟨i0,hi0,hz0,hz1,hz2⟩:=info_parts info_bools
 have h:=run_make (P:=Tryz.prog) w 28 4 i0 (.bool false) Tryz.underlying28 hi0 hz0 .i64 .i64 (n:Int) (n:Int) (by omega) (Int.le_refl _) (by rw [hz2];omega) (by omega)
 rw [Int.toNat_natCast,hz1,Nat.mul_one] at h
 rw [h,show (Value.bool false).cells = #[.bool false] from rfl,made_bools,bools_arr,List.map_replicate]
theorem set_mid (n:Nat) (x y:Bool) (l:List Bool):(List.replicate n false++y :: l).set n x = List.replicate n false++x :: l:=by
 rw [List.set_append];simp
theorem chunks_of_bools {w:World} {Z:Zone}:∀ (l:List Bool),Chunks w Z (l.map Value.bool) l
 | []=>rfl
 | b :: l=>⟨[.bool b],_,rfl,rfl,chunks_of_bools l⟩
theorem rep_bools_new {W:World} {n q:Nat} {bs:List Bool} {t:TypeId} (hq:n ≤ q) (h:W.heap[q]? = some (.cells (bs.map Value.bool).toArray t (0,0))) (hb:bs.length ≤ 1048576) :
  rep W (fresh n W.heap.size) [.slice (some ⟨q,0,none⟩) bs.length bs.length] bs:=by
 refine ⟨_,_,_,bs.map Value.bool,rfl,rfl,Nat.le_refl _,by unfold maxLen;omega,?_,?_,chunks_of_bools bs⟩
 ·show bs.length * 1 ≤ reach
  unfold reach;omega
 ·intro _
  refine ⟨q,0,rfl,⟨hq,(Array.getElem?_eq_some_iff.1 h).1⟩,fun j u hu=>⟨?_,fun _=>by simp [World.frozen?,h]⟩⟩
  rw [Nat.zero_add,cell_of_row _ _ _ _ _ _ h,List.getElem?_toArray];exact hu
set_option maxRecDepth 100000 in
set_option maxHeartbeats 8000000 in
theorem live_any (cs:List Value) (a:GraphD) (w:World) (hr:rep w (old w.heap.size) cs a) (hs1:a.outputs.length ≤ 1048576) (hs2:a.nodes.length ≤ 1048576) (hs3:∀ x ∈ a.nodes,x.ins.length ≤ 1048576) :
  Calls Tryz.prog 25 #[.agg cs.toArray] w fun e w'=>∃ v,e = .returned v∧rep w' (fresh w.heap.size w'.heap.size) [v] (liveD a)∧Below w.heap.size w w':=by
 obtain ⟨A1,k1,A2,k2,A3,k3,A4,k4,rfl,r1,r2,r3,r4⟩:=open_GraphD hr
 obtain ⟨n2,n2'⟩:=slice_bnd r2
 obtain ⟨n4,n4'⟩:=slice_bnd r4
 have HR:=Lib.hid (And.intro r1 (And.intro r2 (And.intro r3 (And.intro r4 hs3))))
 clear hr r1 r2 r3 r4 hs3
 go_enter Tryz.func25,Tryz.ntmps25
 go_wp2_with (with_reducible refine wpList_box_row rfl 26 _ rfl [.slice A1 a.vals.length k1,.slice A2 a.nodes.length k2,.slice A3 a.inputs.length k3,.slice A4 a.outputs.length k4] rfl ?_;have hX:=box_start w 26 [.slice A1 a.vals.length k1,.slice A2 a.nodes.length k2,.slice A3 a.inputs.length k3,.slice A4 a.outputs.length k4];generalize World.alloc _ _ = W0 at hX ⊢;have HX:=Lib.hid hX;clear hX;refine halt ?_)
 unfold Halt
 have c3:W0.cell? ⟨w.heap.size,3,none⟩ = some (.slice A4 a.outputs.length k4):=cell_of_row _ _ _ _ _ _ HX.out.row
 have c3':(W0.alloc (.map #[] 0)).cell? ⟨w.heap.size,3,none⟩ = some (.slice A4 a.outputs.length k4):=(World.cell?_alloc_lt _ _ _ HX.out.lt).trans c3
 have hmm:=@run_makeMap Tryz.prog
 go_wp2_with fail
 clear hmm c3 c3'
 have hI:LiveInv w [.slice A1 a.vals.length k1,.slice A2 a.nodes.length k2,.slice A3 a.inputs.length k3,.slice A4 a.outputs.length k4] W0.heap.size 0 (fun _=>0) (W0.alloc (.map #[] 0)) :=
  ⟨HX.out.below.alloc HX.out.below.size _,(Below.heap_alloc _ _ _ HX.out.lt).trans HX.out.row,MapI.made W0,HX.out.lt⟩
 generalize World.alloc _ _ = W1 at hI ⊢
 obtain ⟨mb,hmb⟩:∃ mb,W0.heap.size = mb:=⟨_,rfl⟩
 rw [hmb] at hI ⊢
 obtain ⟨cs,hcs⟩:∃ cs:List Value,[.slice A1 a.vals.length k1,.slice A2 a.nodes.length k2,.slice A3 a.inputs.length k3,.slice A4 a.outputs.length k4] = cs:=⟨_,rfl⟩
 rw [hcs] at hI
 have HC:Hid (cs.toArray[1]? = some (.slice A2 a.nodes.length k2)):=Lib.hid (by rw [← hcs];rfl)
 have HI:=Lib.hid hI
 clear hI hmb HX hcs
 obtain ⟨A',c',xs,hv,hnc,hcm,-,hl,hch⟩:=open_slice HR.out.2.2.2.1
 simp only [Value.slice.injEq,true_and] at hv
 obtain ⟨rfl,rfl⟩:=hv
 have HL:=Lib.hid (And.intro hl hch)
 clear hl hch
 go_loopw [16] (fun i wr=>∃ (pre post:List Int) (f:Int→Int),a.outputs = pre++post∧i = .int .i64 pre.length∧LiveInv w cs mb pre.length f wr∧∀ k,f k = (if pre.contains k = true then 1 else 0)) (fun i _=>a.outputs.length - (intOf i).toNat)
 case atStart=>exact ⟨[],a.outputs,_,rfl,rfl,HI.out,fun k=>by simp⟩
 case round =>
  obtain ⟨pre,post,f,hpp,rfl,hI,hf⟩:=hrel
  have HIr:=Lib.hid (And.intro hI hf)
  clear hI hf
  cases post with
  | cons z post =>
   obtain ⟨hz,hlt,hpp',hpl⟩:=split_at hpp
   obtain ⟨b,o,xc,rfl,hbB,hrz,hcell⟩:=elem_at HL.out.1 HL.out.2 (by decide) hz
   obtain ⟨rfl,hz64⟩:=hrz
   have k4':wr.cell? ⟨b,o + pre.length,none⟩ = some (.int .i64 z):=(HIr.out.1.below.cell (p:=⟨b,o + pre.length,none⟩) hbB).trans (cell_of_elem (α:=Int) rfl hcell rfl)
   have hk0:(0:Int) ≤ (pre.length:Int):=Int.natCast_nonneg _
   have hk1:(pre.length:Int) < (a.outputs.length:Int):=by omega
   have H:=Lib.hid (And.intro hpp' hpl)
   clear hpp hpp' hpl hz hcell hbB
   go_wp2_with (first
    |(at_mapUpdate;refine halt ?_))
   unfold Halt
   refine wpList_mapUpdate_ofI rfl _ _ _ rfl mb pre.length f rfl HIr.out.1.map (by unfold maxLen;omega) z 1 rfl rfl hz64 (by unfold I64;omega) ?_
   intro w7 h7 g7
   have H7:=Lib.hid (HIr.out.1.put h7 g7)
   clear h7 g7
   go_wp2
   go_roundw
   case rel =>
    refine ⟨pre++[z],post,_,H.out.1,by rw [H.out.2];go_num,by rw [H.out.2];exact H7.out,fun k=>?_⟩
    by_cases e:k = z
    ·subst e;simp
    ·rw [if_neg e,HIr.out.2]
     simp [e]
   case measure=>simp [intOf];omega
  | nil =>
   obtain ⟨hge,hpl⟩:=split_end hpp
   have HP:=Lib.hid hpl
   clear hpp hpl
   have c1:wr.cell? ⟨w.heap.size,1,none⟩ = some (.slice A2 a.nodes.length k2):=(cell_of_row _ _ _ _ _ _ HIr.out.1.row).trans HC.out
   have hmk:=make_bools a.nodes.length wr (by omega)
   have c1':∀ o:Obj,(wr.alloc o).cell? ⟨w.heap.size,1,none⟩ = some (.slice A2 a.nodes.length k2):=fun o=>(World.cell?_alloc_lt _ _ _ HIr.out.1.lt).trans c1
   go_wp2_with fail
   clear hmk c1'
   have hA:LiveAt w cs mb pre.length f wr.heap.size (List.replicate a.nodes.length false) (wr.alloc (.cells (Array.replicate a.nodes.length (.bool false)) 4)) :=
    ⟨HIr.out.1.next ((Below.refl _ _).alloc (Nat.le_refl _) _),by rw [← bools_arr];exact heap_alloc_new _ _,HIr.out.1.map.lt⟩
   obtain ⟨q,hq⟩:∃ q,wr.heap.size = q:=⟨_,rfl⟩
   rw [hq] at hA ⊢
   obtain ⟨wa,hwa⟩:∃ wa,wr.alloc (.cells (Array.replicate a.nodes.length (.bool false)) 4) = wa:=⟨_,rfl⟩
   rw [hwa] at hA
   have hA2:LiveAt w cs mb a.outputs.length f q (List.replicate a.nodes.length false) wa:=by
    rw [← HP.out];exact hA
   have HA0:=Lib.hid (And.intro hA2 HIr.out.2)
   rw [hwa]
   clear hA hA2 hwa c1 hq HIr
   obtain ⟨B',d',ns,hv,hnc,hcm,-,hl,hch⟩:=open_slice HR.out.2.1
   simp only [Value.slice.injEq,true_and] at hv
   obtain ⟨rfl,rfl⟩:=hv
   have HN:=Lib.hid (And.intro hl hch)
   clear hl hch
   obtain ⟨W0,hW0⟩:∃ W0:Int→Bool,(fun k=>a.outputs.contains k) = W0:=⟨_,rfl⟩
   have HW0:=Lib.hid hW0
   clear hW0
   go_loopw [7] (fun i wr=>∃ (pre post:List GNodeD) (f:Int→Int) (m:Nat),a.nodes = pre++post∧i = .int .i64 ((pre.length:Int) - 1)∧LiveAt w cs mb m f q (List.replicate pre.length false++(liveS post W0).1) wr∧m ≤ 1048576 + post.length * 1048576∧∀ k,f k = if (liveS post W0).2 k = true then 1 else 0) (fun i _=>(intOf i + 1).toNat)
   case atStart =>
    refine ⟨a.nodes,[],f,a.outputs.length,(List.append_nil _).symm,rfl,?_,by omega,?_⟩
    ·show LiveAt _ _ _ _ _ _ (_++[]) _
     rw [List.append_nil];exact HA0.out.1
    ·intro k
     rw [HA0.out.2,HP.out,← HW0.out];rfl
   case round =>
    obtain ⟨pr,post,f2,m,hpp,rfl,hA,hm,hf⟩:=hrel
    have HAt:=Lib.hid (And.intro hA (And.intro hm hf))
    clear hA hm hf
    rcases List.eq_nil_or_concat pr with rfl | ⟨pr,z,rfl⟩
    ·have HPost:=Lib.hid (show a.nodes = post from hpp)
     clear hpp
     have hg:¬ ((([]:List GNodeD).length:Int) - 1 ≥ 0):=by simp
     go_wp2
     go_ret
     refine ⟨.slice (some ⟨q,0,none⟩) a.nodes.length a.nodes.length,rfl,?_,HAt.out.1.inv.below⟩
     have e1:(liveS post W0).1 = liveD a:=by unfold liveD;rw [HPost.out,HW0.out]
     have hA:=HAt.out.1
     rw [e1] at hA
     have hl:(liveD a).length = a.nodes.length:=liveS_len _ _
     rw [← hl]
     exact rep_bools_new (by have h3:=hA.inv.ge;have h4:=hA.gq;omega) hA.arr (by omega)
    ·rw [List.concat_eq_append,List.append_assoc] at hpp
     rw [List.concat_eq_append] at HAt
     rw [List.concat_eq_append,List.length_append,show (((pr.length + [z].length:Nat):Int) - 1) = (pr.length:Int) by simp]
     obtain ⟨hz,hlt,hpp',hpl⟩:=split_at hpp
     obtain ⟨b,o,zc,rfl,hbB,hrz,hcell⟩:=elem_at HN.out.1 HN.out.2 (by decide) hz
     obtain ⟨ss,I1,i1,O1,o1,-,z37,z38,-,-,zi,zo,-⟩:=gnode_facts hrz
     have hcz:∀ (W:World),Below w.heap.size w W→∀ j u,zc[j]? = some u→W.cell? ⟨b,o + pr.length * 40 + j,none⟩ = some u:=fun W hW j u hu=>by
      rw [Nat.add_assoc];exact (hW.cell (p:=⟨b,o + (pr.length * 40 + j),none⟩) hbB).trans (hcell j u hu).1
     have HZ:=Lib.hid (And.intro hcz (And.intro z37 (And.intro z38 (And.intro zi zo))))
     have HP2:=Lib.hid (And.intro hpp' hpl)
     have hk0:(0:Int) ≤ (pr.length:Int):=Int.natCast_nonneg _
     have hk1:(pr.length:Int) < (a.nodes.length:Int):=by omega
     have hge:(pr.length:Int) ≥ 0:=hk0
     clear hz hcell hrz z37 z38 zi zo hpp hpp' hpl hcz
     have c1:wr.cell? ⟨w.heap.size,1,none⟩ = some (.slice (some ⟨b,o,none⟩) a.nodes.length k2):=(cell_of_row _ _ _ _ _ _ HAt.out.1.inv.row).trans HC.out
     have c38:=HZ.out.1 wr HAt.out.1.inv.below _ _ HZ.out.2.2.1
     go_wp2_with fail
     clear c1 c38
     obtain ⟨O1',o1',ys,hv,hnc2,hcm2,-,hl2,hch2⟩:=open_slice HZ.out.2.2.2.2
     simp only [Value.slice.injEq,true_and] at hv
     obtain ⟨rfl,rfl⟩:=hv
     have HO:=Lib.hid (And.intro hl2 hch2)
     clear hl2 hch2
     obtain ⟨W1,hW1⟩:∃ W1:Int→Bool,(liveS post W0).2 = W1:=⟨_,rfl⟩
     obtain ⟨L1,hL1⟩:∃ L1:List Bool,(liveS post W0).1 = L1:=⟨_,rfl⟩
     have HWL:=Lib.hid (And.intro hW1 hL1)
     rw [hW1,hL1] at HAt
     clear hW1 hL1
     obtain ⟨wb,rfl⟩:∃ wb,wb = wr:=⟨_,rfl⟩
     go_loopw [42] (fun i wr=>∃ (pre2 post2:List Int),z.outs = pre2++post2∧i = .int .i64 pre2.length∧LiveAt w cs mb m f2 q (List.replicate pr.length false++pre2.any W1 :: L1) wr) (fun i _=>z.outs.length - (intOf i).toNat)
     case atStart =>
      refine ⟨[],z.outs,rfl,rfl,?_⟩
      have h:=HAt.out.1
      rw [List.length_append,List.length_singleton,List.replicate_succ',List.append_assoc] at h
      exact h
     case round =>
      obtain ⟨pre2,post2,hpp,rfl,hA⟩:=hrel
      have HB:=Lib.hid hA
      clear hA
      have hcb:(List.replicate pr.length false++pre2.any W1 :: L1)[pr.length]? = some (pre2.any W1):=by simp
      have cL:=HB.out.cell hcb
      clear hcb
      cases post2 with
      | cons v post2 =>
       obtain ⟨hz,hlt2,hpp',hpl⟩:=split_at hpp
       obtain ⟨b2,o2,xc,rfl,hbB2,hrz,hcell⟩:=elem_at HO.out.1 HO.out.2 (by decide) hz
       obtain ⟨rfl,hv64⟩:=hrz
       have k4':wr.cell? ⟨b2,o2 + pre2.length,none⟩ = some (.int .i64 v):=(HB.out.inv.below.cell (p:=⟨b2,o2 + pre2.length,none⟩) hbB2).trans (cell_of_elem (α:=Int) rfl hcell rfl)
       have hk2:(0:Int) ≤ (pre2.length:Int):=Int.natCast_nonneg _
       have hk3:(pre2.length:Int) < (z.outs.length:Int):=by omega
       have HV:=Lib.hid (And.intro hpp' (And.intro hpl (HB.out.inv.map.lookup v hv64).1))
       have fL:=HB.out.free pr.length
       have hfin:Hid (∀ x:Bool,x = (pre2++[v]).any W1→∃ pre3 post3:List Int,z.outs = pre3++post3∧Value.int .i64 ((pre2.length:Int) + 1) = .int .i64 pre3.length∧LiveAt w cs mb m f2 q (List.replicate pr.length false++pre3.any W1 :: L1) (wr.setCell ⟨q,pr.length,none⟩ (.bool x))):=Lib.hid fun x hx=>by
        refine ⟨pre2++[v],post2,hpp',by rw [hpl];go_num,?_⟩
        have h:=HB.out.set pr.length x
        rw [← hx]
        rwa [set_mid] at h
       clear hpp hpp' hpl hz hcell hbB2
       by_cases hb:pre2.any W1 = true
       ·rw [hb] at cL
        go_wp2
        go_roundw
        case rel=>exact hfin.out true (by rw [List.any_append,hb,Bool.true_or])
        case measure=>simp [intOf];omega
       ·rw [Bool.not_eq_true] at hb
        rw [hb] at cL
        have hlk:=HV.out.2.2
        rw [HAt.out.2.2 v] at hlk
        by_cases hw:W1 v = true
        ·rw [if_pos hw] at hlk
         go_wp2
         go_roundw
         case rel=>exact hfin.out true (by rw [List.any_append,hb];simp [hw])
         case measure=>simp [intOf];omega
        ·rw [if_neg hw] at hlk
         go_wp2
         go_roundw
         case rel=>exact hfin.out false (by rw [List.any_append,hb];simp [hw])
         case measure=>simp [intOf];omega
      | nil =>
       obtain ⟨hge2,hpl⟩:=split_end hpp
       replace hpl:=Lib.hid hpl
       clear hpp
       by_cases hb:pre2.any W1 = true
       ·rw [hb] at cL
        have c1:wr.cell? ⟨w.heap.size,1,none⟩ = some (.slice (some ⟨b,o,none⟩) a.nodes.length k2):=(cell_of_row _ _ _ _ _ _ HB.out.inv.row).trans HC.out
        have c37:=HZ.out.1 wr HB.out.inv.below _ _ HZ.out.2.1
        go_wp2_with fail
        clear c1 c37
        obtain ⟨J1',j1',ys2,hv,hnc3,hcm3,-,hl3,hch3⟩:=open_slice HZ.out.2.2.2.1
        simp only [Value.slice.injEq,true_and] at hv
        obtain ⟨rfl,rfl⟩:=hv
        have HI2:=Lib.hid (And.intro hl3 hch3)
        clear hl3 hch3
        have hlive:z.outs.any W1 = true:=by rw [← hpl.out];exact hb
        have HLV:=Lib.hid hlive
        have HB2:=Lib.hid (show LiveAt w cs mb m f2 q (List.replicate pr.length false++true :: L1) wr by have h:=HB.out;rwa [hb] at h)
        clear cL HB hlive hb
        have hzin:z ∈ a.nodes:=by rw [HP2.out.1];simp
        have hzl:=HR.out.2.2.2.2 z hzin
        have hpoL:post.length ≤ 1048576:=by have h:=congrArg List.length HP2.out.1;simp at h;omega
        have HZI:=Lib.hid hzl
        have HPL:=Lib.hid hpoL
        clear hzin hzl hpoL
        obtain ⟨wd,rfl⟩:∃ wd,wd = wr:=⟨_,rfl⟩
        go_loopw [72] (fun i wr=>∃ (pre3 post3:List Int) (f3:Int→Int),z.ins = pre3++post3∧i = .int .i64 pre3.length∧LiveAt w cs mb (m + pre3.length) f3 q (List.replicate pr.length false++true :: L1) wr∧∀ k,f3 k = if (W1 k || pre3.contains k) = true then 1 else 0) (fun i _=>z.ins.length - (intOf i).toNat)
        case atStart=>exact ⟨[],z.ins,f2,rfl,rfl,HB2.out,fun k=>by rw [HAt.out.2.2];simp⟩
        case round =>
         obtain ⟨pre3,post3,f3,hpp,rfl,hA,hf3⟩:=hrel
         have HD:=Lib.hid (And.intro hA hf3)
         clear hA hf3
         cases post3 with
         | cons v post3 =>
          obtain ⟨hz,hlt3,hpp',hpl'⟩:=split_at hpp
          obtain ⟨b3,o3,xc,rfl,hbB3,hrz,hcell⟩:=elem_at HI2.out.1 HI2.out.2 (by decide) hz
          obtain ⟨rfl,hv64⟩:=hrz
          have k4':wr.cell? ⟨b3,o3 + pre3.length,none⟩ = some (.int .i64 v):=(HD.out.1.inv.below.cell (p:=⟨b3,o3 + pre3.length,none⟩) hbB3).trans (cell_of_elem (α:=Int) rfl hcell rfl)
          have hk4:(0:Int) ≤ (pre3.length:Int):=Int.natCast_nonneg _
          have hk5:(pre3.length:Int) < (z.ins.length:Int):=by omega
          have hmx:m + pre3.length < maxLen:=by have h1:=HAt.out.2.1;have h2:=HPL.out;have h3:=HZI.out;unfold maxLen;omega
          have H:=Lib.hid (And.intro hpp' (And.intro hpl' hmx))
          clear hpp hpp' hpl' hz hcell hbB3 hmx
          go_wp2_with (first
           |(at_mapUpdate;refine halt ?_))
          unfold Halt
          refine wpList_mapUpdate_ofI rfl _ _ _ rfl mb (m + pre3.length) f3 rfl HD.out.1.inv.map H.out.2.2 v 1 rfl rfl hv64 (by unfold I64;omega) ?_
          intro w7 h7 g7
          have H7:=Lib.hid (HD.out.1.put h7 g7)
          clear h7 g7
          go_wp2
          go_roundw
          case rel =>
           refine ⟨pre3++[v],post3,_,H.out.1,by rw [H.out.2.1];go_num,by rw [H.out.2.1];exact H7.out,fun k=>?_⟩
           by_cases e:k = v
           ·subst e;simp
           ·rw [if_neg e,HD.out.2]
            simp [e]
          case measure=>simp [intOf];omega
         | nil =>
          obtain ⟨hge3,hpl3⟩:=split_end hpp
          replace hpl3:=Lib.hid hpl3
          clear hpp
          go_wp2
          go_roundw
          case rel =>
           have hst:liveS (z :: post) W0 = (true :: L1,fun k=>W1 k || z.ins.contains k):=by
            show liveStep z (liveS post W0) = _
            unfold liveStep
            rw [HWL.out.1,HWL.out.2,HLV.out]
            rfl
           have h:=HD.out
           rw [hpl3.out] at h
           refine ⟨pr,z :: post,f3,m + z.ins.length,by rw [HP2.out.1,List.append_assoc];rfl,rfl,?_,?_,?_⟩
           ·rw [hst];exact h.1
           ·have h1:=HAt.out.2.1;have h3:=HZI.out;rw [List.length_cons];omega
           ·rw [hst];exact h.2
          case measure=>simp [intOf] <;> omega
       ·rw [Bool.not_eq_true] at hb
        rw [hb] at cL
        go_wp2
        go_roundw
        case rel =>
         have hst:liveS (z :: post) W0 = (false :: L1,W1):=by
          show liveStep z (liveS post W0) = _
          unfold liveStep
          rw [HWL.out.1,HWL.out.2,← hpl.out,hb]
          rfl
         have h:=HB.out
         rw [hb] at h
         refine ⟨pr,z :: post,f2,m,by rw [HP2.out.1,List.append_assoc];rfl,rfl,?_,?_,?_⟩
         ·rw [hst];exact h
         ·exact Nat.le_trans HAt.out.2.1 (Nat.add_le_add_left (Nat.mul_le_mul_right _ (Nat.le_succ _)) _)
         ·rw [hst];exact HAt.out.2.2
        case measure=>simp [intOf] <;> omega
end Go.Proofs.YtoeaglpmkjoenaaGreat
set_option linter.unusedSimpArgs false
set_option linter.unusedVariables false
namespace Go.Proofs.YtoeaglpmkjoenaaGreat
open Go.RowKit
open Rep (rep)
set_option maxRecDepth 100000 in
set_option maxHeartbeats 800000 in
theorem indexInts_any (l:List Int) (v:Value) (k:Nat) (q:Addr) (p:Int→Bool) (S:World→Prop) (w:World) (hk:∀ args W,(callFunc k args).run Tryz.prog W = .ok (.enter k args) W) (hr:rep w (old w.heap.size) [v] l) (hS:S w) (hB:∀ W,S W→Below w.heap.size w W)
  (hf:∀ x ∈ l,I64 x→∀ W,S W→Calls Tryz.prog k #[.int .i64 x,.pointer (some q)] W fun e W'=>e = .returned (.bool (p x))∧S W') :
  Calls Tryz.prog 31 #[v,.func (.func k) #[] #[.pointer (some q)]] w fun e w'=>e = .returned (.int .i64 (indexFrom p l 0))∧S w':=by
 obtain ⟨A,c,xs,rfl,hnc,hcm,_,hl,hch⟩:=open_slice hr
 clear hr
 have HF:=Lib.hid (And.intro hf hB)
 clear hf hB
 have HK:=Lib.hid hk
 clear hk
 go_enter Tryz.func31,Tryz.ntmps31
 go_wp2_with fail
 go_loopw [8] (fun i wr=>∃ pre post:List Int,l = pre++post∧i = .int .i64 pre.length∧indexFrom p l 0 = indexFrom p post pre.length∧S wr)
  (fun i _=>l.length - (intOf i).toNat)
 case atStart=>exact ⟨[],l,rfl,rfl,rfl,hS⟩
 case round =>
  obtain ⟨pre,post,hpp,rfl,hix,hs⟩:=hrel
  cases post with
  | cons z post =>
   obtain ⟨hz,hlt,hpp',hpl⟩:=split_at hpp
   obtain ⟨b',o,cs,rfl,hbB,⟨rfl,hz64⟩,hcell⟩:=elem_at hl hch (by decide) hz
   have c0:=((HF.out.2 _ hs).cell (p:=⟨b',o + (pre.length * Rep.size Int + 0),none⟩) hbB).trans (hcell 0 _ rfl).1
   rw [show o + (pre.length * Rep.size Int + 0) = o + pre.length from by simp [Rep.size]] at c0
   have H:=Lib.hid (And.intro hpp' (And.intro hpl hix))
   have HC:=Lib.hid (HF.out.1 z (List.mem_of_getElem? hz) hz64 wr hs)
   clear hcell hl hch hpp hpp' hpl hz hix hs hz64
   cases hd:p z with
   | true =>
    have HD:=Lib.hid hd
    clear hd
    go_wp2_with fail
    rw [HK.out,Oper.upon_enter]
    refine HC.out.mono ?_
    rw [HD.out]
    rintro e w1 ⟨rfl,hs1⟩
    go_wp2
    go_ret
    obtain ⟨_,_,hix⟩:=H.out
    refine ⟨?_,hs1⟩
    rw [hix,indexFrom,HD.out]
    rfl
   | false =>
    have HD:=Lib.hid hd
    clear hd
    go_wp2_with fail
    rw [HK.out,Oper.upon_enter]
    refine HC.out.mono ?_
    rw [HD.out]
    rintro e w1 ⟨rfl,hs1⟩
    go_wp2
    go_roundw
    case rel =>
     obtain ⟨hpp',hpl,hix⟩:=H.out
     exact ⟨pre++[z],post,hpp',by rw [hpl];go_num,by rw [hix,indexFrom,HD.out,hpl];rfl,hs1⟩
    case measure=>simp [intOf];omega
  | nil =>
   obtain ⟨hge,hpl⟩:=split_end hpp
   have H:=Lib.hid (And.intro hix hs)
   clear hpl hpp hl hch hix hs
   go_wp2
   go_ret
   exact ⟨by rw [H.out.1];rfl,H.out.2⟩
set_option maxRecDepth 100000 in
set_option maxHeartbeats 400000 in
theorem containsInts_any (l:List Int) (v:Value) (k:Nat) (q:Addr) (p:Int→Bool) (S:World→Prop) (w:World) (hk:∀ args W,(callFunc k args).run Tryz.prog W = .ok (.enter k args) W) (hr:rep w (old w.heap.size) [v] l) (hS:S w) (hB:∀ W,S W→Below w.heap.size w W)
  (hf:∀ x ∈ l,I64 x→∀ W,S W→Calls Tryz.prog k #[.int .i64 x,.pointer (some q)] W fun e W'=>e = .returned (.bool (p x))∧S W') :
  Calls Tryz.prog 12 #[v,.func (.func k) #[] #[.pointer (some q)]] w fun e w'=>e = .returned (.bool (l.any p))∧S w':=by
 go_enter Tryz.func12,Tryz.ntmps12
 go_wp2_with fail
 refine (indexInts_any l v k q p S w hk hr hS hB hf).mono ?_
 rintro e w1 ⟨rfl,hs⟩
 have H:=Lib.hid (indexFrom_any p l 0)
 generalize indexFrom p l 0 = k at *
 go_wp2
 go_ret
 exact ⟨by rw [← H.out];rfl,hs⟩
set_option maxRecDepth 100000 in
set_option maxHeartbeats 800000 in
theorem indexInts0_any (l:List Int) (v:Value) (k:Nat) (p:Int→Bool) (S:World→Prop) (w:World) (hk:∀ args W,(callFunc k args).run Tryz.prog W = .ok (.enter k args) W) (hr:rep w (old w.heap.size) [v] l) (hS:S w) (hB:∀ W,S W→Below w.heap.size w W)
  (hf:∀ x ∈ l,I64 x→∀ W,S W→Calls Tryz.prog k #[.int .i64 x] W fun e W'=>e = .returned (.bool (p x))∧S W') :
  Calls Tryz.prog 31 #[v,.func (.func k) #[] #[]] w fun e w'=>e = .returned (.int .i64 (indexFrom p l 0))∧S w':=by
 obtain ⟨A,c,xs,rfl,hnc,hcm,_,hl,hch⟩:=open_slice hr
 clear hr
 have HF:=Lib.hid (And.intro hf hB)
 clear hf hB
 have HK:=Lib.hid hk
 clear hk
 go_enter Tryz.func31,Tryz.ntmps31
 go_wp2_with fail
 go_loopw [8] (fun i wr=>∃ pre post:List Int,l = pre++post∧i = .int .i64 pre.length∧indexFrom p l 0 = indexFrom p post pre.length∧S wr)
  (fun i _=>l.length - (intOf i).toNat)
 case atStart=>exact ⟨[],l,rfl,rfl,rfl,hS⟩
 case round =>
  obtain ⟨pre,post,hpp,rfl,hix,hs⟩:=hrel
  cases post with
  | cons z post =>
   obtain ⟨hz,hlt,hpp',hpl⟩:=split_at hpp
   obtain ⟨b',o,cs,rfl,hbB,⟨rfl,hz64⟩,hcell⟩:=elem_at hl hch (by decide) hz
   have c0:=((HF.out.2 _ hs).cell (p:=⟨b',o + (pre.length * Rep.size Int + 0),none⟩) hbB).trans (hcell 0 _ rfl).1
   rw [show o + (pre.length * Rep.size Int + 0) = o + pre.length from by simp [Rep.size]] at c0
   have H:=Lib.hid (And.intro hpp' (And.intro hpl hix))
   have HC:=Lib.hid (HF.out.1 z (List.mem_of_getElem? hz) hz64 wr hs)
   clear hcell hl hch hpp hpp' hpl hz hix hs hz64
   cases hd:p z with
   | true =>
    have HD:=Lib.hid hd
    clear hd
    go_wp2_with fail
    rw [HK.out,Oper.upon_enter]
    refine HC.out.mono ?_
    rw [HD.out]
    rintro e w1 ⟨rfl,hs1⟩
    go_wp2
    go_ret
    obtain ⟨_,_,hix⟩:=H.out
    refine ⟨?_,hs1⟩
    rw [hix,indexFrom,HD.out]
    rfl
   | false =>
    have HD:=Lib.hid hd
    clear hd
    go_wp2_with fail
    rw [HK.out,Oper.upon_enter]
    refine HC.out.mono ?_
    rw [HD.out]
    rintro e w1 ⟨rfl,hs1⟩
    go_wp2
    go_roundw
    case rel =>
     obtain ⟨hpp',hpl,hix⟩:=H.out
     exact ⟨pre++[z],post,hpp',by rw [hpl];go_num,by rw [hix,indexFrom,HD.out,hpl];rfl,hs1⟩
    case measure=>simp [intOf];omega
  | nil =>
   obtain ⟨hge,hpl⟩:=split_end hpp
   have H:=Lib.hid (And.intro hix hs)
   clear hpl hpp hl hch hix hs
   go_wp2
   go_ret
   exact ⟨by rw [H.out.1];rfl,H.out.2⟩
set_option maxRecDepth 100000 in
set_option maxHeartbeats 400000 in
theorem containsInts0_any (l:List Int) (v:Value) (k:Nat) (p:Int→Bool) (S:World→Prop) (w:World) (hk:∀ args W,(callFunc k args).run Tryz.prog W = .ok (.enter k args) W) (hr:rep w (old w.heap.size) [v] l) (hS:S w) (hB:∀ W,S W→Below w.heap.size w W)
  (hf:∀ x ∈ l,I64 x→∀ W,S W→Calls Tryz.prog k #[.int .i64 x] W fun e W'=>e = .returned (.bool (p x))∧S W') :
  Calls Tryz.prog 12 #[v,.func (.func k) #[] #[]] w fun e w'=>e = .returned (.bool (l.any p))∧S w':=by
 go_enter Tryz.func12,Tryz.ntmps12
 go_wp2_with fail
 refine (indexInts0_any l v k p S w hk hr hS hB hf).mono ?_
 rintro e w1 ⟨rfl,hs⟩
 have H:=Lib.hid (indexFrom_any p l 0)
 generalize indexFrom p l 0 = k at *
 go_wp2
 go_ret
 exact ⟨by rw [← H.out];rfl,hs⟩
def lackD (bs:List Bool) (x:Int):Bool:=decide (0 ≤ x) && !bs.getD x.toNat false
set_option maxRecDepth 100000 in
set_option maxHeartbeats 800000 in
theorem ready1_any (x:Int) (q tq N c:Nat) (bs:List Bool) (t:TypeId) (W:World) (hq:W.cell? ⟨q,0,none⟩ = some (.slice (some ⟨tq,0,none⟩) N c)) (ht:W.heap[tq]? = some (.cells (bs.map Value.bool).toArray t (0,0))) (hN:bs.length = N) (hx:x < N) :
  Calls Tryz.prog 91 #[.int .i64 x,.pointer (some ⟨q,0,none⟩)] W fun e W'=>e = .returned (.bool (lackD bs x))∧W = W':=by
 by_cases h:x ≥ 0
 ·obtain ⟨j,rfl⟩:∃ j:Nat,x = (j:Int):=⟨x.toNat,by omega⟩
  have hj:j < bs.length:=by omega
  have c0:W.cell? ⟨tq,j,none⟩ = some (.bool (bs.getD j false)):=by
   rw [cell_of_row _ _ _ _ _ _ ht,List.getElem?_toArray,List.getElem?_map,List.getElem?_eq_getElem hj,List.getD_eq_getElem?_getD,List.getElem?_eq_getElem hj];rfl
  have e:lackD bs (j:Int) = !bs.getD j false:=by simp [lackD]
  have HE:=Lib.hid e
  generalize bs.getD j false = y at *
  clear ht hN e
  cases y with
  | true =>
   go_enter Tryz.func91,Tryz.ntmps91
   go_wp2
   go_ret
   exact ⟨by rw [HE.out];rfl,rfl⟩
  | false =>
   go_enter Tryz.func91,Tryz.ntmps91
   go_wp2
   go_ret
   exact ⟨by rw [HE.out];rfl,rfl⟩
 ·have HE:=Lib.hid (show lackD bs x = false by simp [lackD];intro h';omega)
  clear hx ht
  go_enter Tryz.func91,Tryz.ntmps91
  go_wp2
  go_ret
  exact ⟨by rw [HE.out];rfl,rfl⟩
set_option maxRecDepth 100000 in
set_option maxHeartbeats 800000 in
theorem ready_any (cs:List Value) (ins:List Int) (v:Value) (tq N c:Nat) (bs:List Bool) (t:TypeId) (w:World) (hl:cs.length = 40) (h37:cs[37]? = some v) (hr:rep w (old w.heap.size) [v] ins)
  (ht:w.heap[tq]? = some (.cells (bs.map Value.bool).toArray t (0,0))) (hN:bs.length = N) (hx:∀ x ∈ ins,x < N) :
  Calls Tryz.prog 68 #[.agg cs.toArray,.slice (some ⟨tq,0,none⟩) N c] w fun e w'=>e = .returned (.bool (!ins.any (lackD bs)))∧Below w.heap.size w w':=by
 have HT:=Lib.hid (And.intro ht (And.intro hN hx))
 have HR:=Lib.hid hr
 have HL:=Lib.hid (And.intro hl h37)
 clear ht hN hx hr hl h37
 go_enter Tryz.func68,Tryz.ntmps68
 have hX:=twobox_start w 50 28 cs [.slice (some ⟨tq,0,none⟩) N c]
 have c37:=hX.a HL.out.2
 have c41:=hX.b (j:=0) rfl
 go_wp2_with (first
  |(with_reducible refine wpList_box_row rfl 50 _ rfl cs rfl ?_))
 generalize World.alloc _ _ = W0 at hX ⊢
 have HX:=Lib.hid hX
 clear hX c37 c41
 have htq:tq < w.heap.size:=(Array.getElem?_eq_some_iff.1 HT.out.1).1
 refine (containsInts_any ins v _ ⟨w.heap.size + 1,0,none⟩ (lackD bs) (fun W=>Below W0.heap.size W0 W) W0 (fun _ _=>rfl) (HX.out.rep HR.out) (Below.refl _ _) (fun _ h=>h) fun x hxi hx64 W hW=>(ready1_any x (w.heap.size + 1) tq N c bs t W ((hW.cell (p:=⟨w.heap.size + 1,0,none⟩) (by have:=HX.out.size;simp only;omega)).trans (HX.out.b (j:=0) rfl)) ((hW.block _ (by have:=HX.out.size;omega)).trans ((HX.out.below.block _ htq).trans HT.out.1)) HT.out.2.1 (HT.out.2.2 x hxi)).mono ?_).mono ?_
 ·rintro e w' ⟨rfl,rfl⟩
  exact ⟨rfl,hW⟩
 rintro e w1 ⟨rfl,hb⟩
 have HB:=Lib.hid (HX.out.below.trans (hb.mono (by have:=HX.out.size;omega)))
 clear hb
 obtain ⟨y,hy⟩:∃ y,ins.any (lackD bs) = y:=⟨_,rfl⟩
 have HY:=Lib.hid hy
 rw [hy]
 clear hy
 cases y with
 | true =>
  go_wp2
  go_ret
  exact ⟨by rw [HY.out];rfl,HB.out⟩
 | false =>
  go_wp2
  go_ret
  exact ⟨by rw [HY.out];rfl,HB.out⟩
end Go.Proofs.YtoeaglpmkjoenaaGreat
