/-
  Chapter 09: graph.defined: which values are there ahead of all nodes.
-/
import Derived.Test.YtgbkhcmbmffljaaDoorPGReady
import Derived.Test.YtgbkhcmbmffljaaDoorPGVal
set_option linter.unusedSimpArgs false
set_option linter.unusedVariables false
namespace Go.Proofs.YtgbkhcmbmffljaaDoor
open Go.RowKit
open Rep (rep)
def setsT (bs:List Bool) (l:List Int):List Bool:=l.foldl (fun bs i=>bs.set i.toNat true) bs
def definedD (a:GraphD):List Bool:=setsT (a.vals.map (·.const)) a.inputs
theorem setsT_len:∀ (l:List Int) (bs:List Bool),(setsT bs l).length = bs.length
 | [],_=>rfl
 | i :: l,bs=>by
  show (setsT (bs.set i.toNat true) l).length = _
  rw [setsT_len l,List.length_set]
theorem definedD_len (a:GraphD):(definedD a).length = a.vals.length:=by unfold definedD;rw [setsT_len,List.length_map]
theorem setsT_snoc (bs:List Bool) (l:List Int) (i:Int):setsT bs (l++[i]) = (setsT bs l).set i.toNat true:=by unfold setsT;rw [List.foldl_append];rfl
structure DefInv (w:World) (cs:List Value) (q:Nat) (bs:List Bool) (W:World):Prop where
 below:Below w.heap.size w W
 row:W.heap[w.heap.size]? = some (.cells cs.toArray 63 (0,0))
 arr:W.heap[q]? = some (.cells (bs.map Value.bool).toArray 4 (0,0))
 gq:w.heap.size < q
section
variable {w W W':World} {cs:List Value} {q:Nat} {bs:List Bool}
theorem DefInv.lt (h:DefInv w cs q bs W):q < W.heap.size:=(Array.getElem?_eq_some_iff.1 h.arr).1
theorem DefInv.next (h:DefInv w cs q bs W) (hb:Below W.heap.size W W'):DefInv w cs q bs W':=⟨h.below.trans (hb.mono h.below.size),(hb.block _ (by have:=h.lt;have:=h.gq;omega)).trans h.row,(hb.block _ h.lt).trans h.arr,h.gq⟩
theorem DefInv.set (h:DefInv w cs q bs W) (k:Nat) (x:Bool):DefInv w cs q (bs.set k x) (W.setCell ⟨q,k,none⟩ (.bool x)):=by
 rw [set_as_row h.arr]
 have hg:W.grownBy (W.setRow q ((bs.map Value.bool).toArray.setIfInBounds k (.bool x))) (some q):=⟨rfl,rfl,rfl,by rw [size_setRow];exact Nat.le_refl _,fun j _ hn=>heap_setRow_other _ _ _ _ (fun e=>hn (by rw [e]))⟩
 have h1:=h.gq
 refine ⟨h.below.grown hg h.below.size (fun g e=>by injection e with e;omega),(heap_setRow_other _ _ _ _ (by omega)).trans h.row,?_,h1⟩
 rw [heap_setRow _ _ _ _ _ h.arr,List.map_set,List.setIfInBounds_toArray]
theorem DefInv.free (h:DefInv w cs q bs W) (k:Nat):W.frozen? ⟨q,k,none⟩ = false:=by simp [World.frozen?,h.arr]
theorem DefInv.cell (h:DefInv w cs q bs W) {k:Nat} (hk:k < bs.length):∃ x,W.cell? ⟨q,k,none⟩ = some (.bool x):=by
 refine ⟨bs[k],?_⟩
 rw [cell_of_row _ _ _ _ _ _ h.arr,List.getElem?_toArray,List.getElem?_map,List.getElem?_eq_getElem hk];rfl
end
theorem val_facts {w:World} {Z:Zone} {cs:List Value} {a:ValD} (h:rep w Z cs a):cs.length = 8∧cs[2]? = some (.bool a.const)∧∀ u ∈ cs,u.oneCell' = true:=by
 refine ⟨Rep.len h,?_,Rep.one h⟩
 obtain ⟨A1,k1,A2,k2,A3,k3,A4,k4,A5,k5,rfl,_⟩:=open_ValD h
 rfl
set_option maxRecDepth 100000 in
set_option maxHeartbeats 8000000 in
theorem defined_any (cs:List Value) (a:GraphD) (w:World) (hr:rep w (old w.heap.size) cs a) (hs:a.vals.length ≤ 1048576) (hin:∀ x ∈ a.inputs,0 ≤ x∧x < a.vals.length) :
  Calls Tryd.prog 58 #[.agg cs.toArray] w fun e w'=>∃ q,e = .returned (.slice (some ⟨q,0,none⟩) a.vals.length a.vals.length)∧w.heap.size ≤ q∧w'.heap[q]? = some (.cells ((definedD a).map Value.bool).toArray 4 (0,0))∧Below w.heap.size w w':=by
 obtain ⟨A1,k1,A2,k2,A3,k3,A4,k4,rfl,r1,r2,r3,r4⟩:=open_GraphD hr
 obtain ⟨n1,n1'⟩:=slice_bnd r1
 obtain ⟨n3,n3'⟩:=slice_bnd r3
 have HR:=Lib.hid (And.intro r1 (And.intro r3 hin))
 clear hr r1 r2 r3 r4 hin
 go_enter Tryd.func58,Tryd.ntmps58
 go_wp2_with (with_reducible refine wpList_box_row rfl 63 _ rfl [.slice A1 a.vals.length k1,.slice A2 a.nodes.length k2,.slice A3 a.inputs.length k3,.slice A4 a.outputs.length k4] rfl ?_;have hX:=box_start w 63 [.slice A1 a.vals.length k1,.slice A2 a.nodes.length k2,.slice A3 a.inputs.length k3,.slice A4 a.outputs.length k4];generalize World.alloc _ _ = W0 at hX ⊢;have HX:=Lib.hid hX;clear hX;refine halt ?_)
 unfold Halt
 have c0:W0.cell? ⟨w.heap.size,0,none⟩ = some (.slice A1 a.vals.length k1):=cell_of_row _ _ _ _ _ _ HX.out.row
 have c0':∀ o:Obj,(W0.alloc o).cell? ⟨w.heap.size,0,none⟩ = some (.slice A1 a.vals.length k1):=fun o=>(World.cell?_alloc_lt _ _ _ HX.out.lt).trans c0
 have hmk:=make_bools a.vals.length W0 (by omega)
 go_wp2_with fail
 clear hmk c0 c0'
 have hI:DefInv w [.slice A1 a.vals.length k1,.slice A2 a.nodes.length k2,.slice A3 a.inputs.length k3,.slice A4 a.outputs.length k4] W0.heap.size (List.replicate a.vals.length false) (W0.alloc (.cells (Array.replicate a.vals.length (.bool false)) 4)) :=
  ⟨HX.out.below.alloc HX.out.below.size _,(Below.heap_alloc _ _ _ HX.out.lt).trans HX.out.row,by rw [← bools_arr];exact heap_alloc_new _ _,HX.out.lt⟩
 generalize World.alloc _ _ = W1 at hI ⊢
 obtain ⟨q,hq⟩:∃ q,W0.heap.size = q:=⟨_,rfl⟩
 rw [hq] at hI ⊢
 obtain ⟨cs,hcs⟩:∃ cs:List Value,[.slice A1 a.vals.length k1,.slice A2 a.nodes.length k2,.slice A3 a.inputs.length k3,.slice A4 a.outputs.length k4] = cs:=⟨_,rfl⟩
 rw [hcs] at hI
 have HC:Hid (cs.toArray[2]? = some (.slice A3 a.inputs.length k3)):=Lib.hid (by rw [← hcs];rfl)
 have HI:=Lib.hid hI
 clear hI hq HX hcs
 obtain ⟨A',c',xs,hv,hnc,hcm,-,hl,hch⟩:=open_slice HR.out.1
 simp only [Value.slice.injEq,true_and] at hv
 obtain ⟨rfl,rfl⟩:=hv
 have HL:=Lib.hid (And.intro hl hch)
 clear hl hch
 go_loopw [15] (fun i wr=>∃ (pre post:List ValD),a.vals = pre++post∧i = .int .i64 pre.length∧DefInv w cs q (pre.map (·.const)++List.replicate post.length false) wr) (fun i _=>a.vals.length - (intOf i).toNat)
 case atStart=>exact ⟨[],a.vals,rfl,rfl,HI.out⟩
 case round =>
  obtain ⟨pre,post,hpp,rfl,hI⟩:=hrel
  have HIr:=Lib.hid hI
  clear hI
  cases post with
  | cons z post =>
   obtain ⟨hz,hlt,hpp',hpl⟩:=split_at hpp
   obtain ⟨b,o,zc,rfl,hbB,hrz,hcell⟩:=elem_at HL.out.1 HL.out.2 (by decide) hz
   have hat:At wr b (o + pre.length * 8) zc:=fun j u hu=>by
    have h1:=(hcell j u hu).1
    rw [← Nat.add_assoc] at h1
    exact (HIr.out.below.cell (p:=⟨b,o + pre.length * 8 + j,none⟩) hbB).trans h1
   have hv8:=val_facts hrz
   have hsz:(Tryd.prog.info? 75).map (·.size) = some zc.length:=by rw [hv8.1];kernel_rfl
   have hft:0 + zc.length ≤ zeroV.length:=by rw [hv8.1];exact of_decide_eq_true (by kernel_rfl)
   have HA:=Lib.hid (And.intro hat (And.intro hsz (And.intro hft (And.intro (show zc.length = zeroV.length from hv8.1) hv8.2))))
   clear hv8 hsz hft
   have hk0:(0:Int) ≤ (pre.length:Int):=Int.natCast_nonneg _
   have hk1:(pre.length:Int) < (a.vals.length:Int):=by omega
   have H:=Lib.hid (And.intro hpp' hpl)
   clear hpp hpp' hpl hz hcell hbB hrz hat
   go_wp2_with (first
    |(with_reducible refine wpList_load_agg rfl 75 _ rfl _ _ _ rfl zc Tryd.underlying75 rfl HA.out.2.1 HA.out.1 ?_)
    |(with_reducible refine wpList_alloc_row rfl 75 rfl zeroV zeroV_zero ?_)
    |(with_reducible refine wpList_store_agg rfl 75 _ _ rfl _ 0 zc rfl rfl 75 zeroV (heap_alloc_new _ _) HA.out.2.1 HA.out.2.2.1 HA.out.2.2.2.2.2 ?_;have hY:=laid_row wr 75 zeroV zc HA.out.2.2.2.1;generalize World.setRow _ _ _ = v2 at hY ⊢;have HY:=Lib.hid hY;clear hY;refine halt ?_))
   unfold Halt
   have H2:=Lib.hid (HIr.out.next HY.out.1)
   obtain ⟨x0,hx0⟩:=H2.out.cell (k:=pre.length) (by simp)
   have fL:=H2.out.free pre.length
   have c2:v2.cell? ⟨wr.heap.size,2,none⟩ = some (.bool z.const):=(cell_of_row _ _ _ _ _ _ HY.out.2.1).trans (by rw [List.getElem?_toArray];exact HA.out.2.2.2.2.1)
   go_wp2
   go_roundw
   case rel =>
    refine ⟨pre++[z],post,H.out.1,by rw [H.out.2];go_num,?_⟩
    have h:=H2.out.set pre.length z.const
    have e:(pre.map (·.const)++List.replicate (z :: post).length false).set pre.length z.const = (pre++[z]).map (·.const)++List.replicate post.length false:=by
     rw [List.set_append]
     simp [List.replicate_succ]
    rwa [e] at h
   case measure=>simp [intOf];omega
  | nil =>
   obtain ⟨hge,hpl⟩:=split_end hpp
   replace hpl:=Lib.hid hpl
   clear hpp
   have c2:wr.cell? ⟨w.heap.size,2,none⟩ = some (.slice A3 a.inputs.length k3):=(cell_of_row _ _ _ _ _ _ HIr.out.row).trans HC.out
   go_wp2_with fail
   clear c2
   obtain ⟨B',d',ys,hv,hnc2,hcm2,-,hl,hch⟩:=open_slice HR.out.2.1
   simp only [Value.slice.injEq,true_and] at hv
   obtain ⟨rfl,rfl⟩:=hv
   have HM:=Lib.hid (And.intro hl hch)
   clear hl hch
   have hst:DefInv w cs q (a.vals.map (·.const)) wr:=by
    have h:=HIr.out
    rw [hpl.out] at h
    simpa using h
   have HST:=Lib.hid hst
   clear hst HIr
   obtain ⟨wb,rfl⟩:∃ wb,wb = wr:=⟨_,rfl⟩
   go_loopw [29] (fun i wr=>∃ (pre2 post2:List Int),a.inputs = pre2++post2∧i = .int .i64 pre2.length∧DefInv w cs q (setsT (a.vals.map (·.const)) pre2) wr) (fun i _=>a.inputs.length - (intOf i).toNat)
   case atStart=>exact ⟨[],a.inputs,rfl,rfl,HST.out⟩
   case round =>
    obtain ⟨pre2,post2,hpp,rfl,hI⟩:=hrel
    have HJ:=Lib.hid hI
    clear hI
    cases post2 with
    | cons v post2 =>
     obtain ⟨hz,hlt,hpp',hpl2⟩:=split_at hpp
     obtain ⟨hv0,hv1⟩:=HR.out.2.2 v (List.mem_of_getElem? hz)
     obtain ⟨j,rfl⟩:∃ j:Nat,v = (j:Int):=⟨v.toNat,by omega⟩
     obtain ⟨b2,o2,xc,rfl,hbB2,hrz,hcell⟩:=elem_at HM.out.1 HM.out.2 (by decide) hz
     obtain ⟨rfl,hv64⟩:=hrz
     have k4':wr.cell? ⟨b2,o2 + pre2.length,none⟩ = some (.int .i64 (j:Int)):=(HJ.out.below.cell (p:=⟨b2,o2 + pre2.length,none⟩) hbB2).trans (cell_of_elem (α:=Int) rfl hcell rfl)
     have hk2:(0:Int) ≤ (pre2.length:Int):=Int.natCast_nonneg _
     have hk3:(pre2.length:Int) < (a.inputs.length:Int):=by omega
     have H:=Lib.hid (And.intro hpp' hpl2)
     obtain ⟨x0,hx0⟩:=HJ.out.cell (k:=j) (by rw [setsT_len,List.length_map];omega)
     have fL:=HJ.out.free j
     clear hpp hpp' hpl2 hz hcell hbB2 hv64
     go_wp2
     go_roundw
     case rel =>
      refine ⟨pre2++[(j:Int)],post2,H.out.1,by rw [H.out.2];go_num,?_⟩
      rw [setsT_snoc]
      exact HJ.out.set j true
     case measure=>simp [intOf];omega
    | nil =>
     obtain ⟨hge2,hpl2⟩:=split_end hpp
     replace hpl2:=Lib.hid hpl2
     clear hpp
     go_wp2
     go_ret
     refine ⟨q,rfl,Nat.le_of_lt HJ.out.gq,?_,HJ.out.below⟩
     have h:=HJ.out.arr
     rw [hpl2.out] at h
     exact h
end Go.Proofs.YtgbkhcmbmffljaaDoor
