/-
  Chapter 09: graph.defined: which values are there ahead of all nodes.
-/
/-
  The reference of chapter 08: names, numbers, arities, rows.
-/
/-
  A part of the proofs of chapter 08: the operator's setting without attributes. No condition.
  A part of the proofs of chapter 08: the operator's setting without attributes. No condition.
-/
/-
  Chapter 09: graph.Build as a plain function of the model.
-/
/-
  Chapter 09: graph.Check of a sound graph: its closures.
-/
/-
  Chapter 09: graph.Check takes every sound graph.
-/
/-
  Chapter 09: whether the nodes of a model can be laid one behind the other does not hang on the order in which they stand. No program in sight.
-/
/-
  Chapter 21: how slices.SortStableFunc moves numbers about, step by step: what comes out is what went in, in another order. No program in sight.
-/
import Derived.Test.YtoeaglpmkjoenaaGreatQGReady
import Derived.Test.YtoeaglpmkjoenaaGreatQGMaps
import Derived.Test.YtoeaglpmkjoenaaGreatQResV
import Derived.Test.YtoeaglpmkjoenaaGreatQOpsB
import Derived.Deep.CutRange
import Derived.Deep.DeepCutAuto
import Derived.Laws.StructEq
import Derived.Test.YtoeaglpmkjoenaaGreatQSame
set_option linter.unusedSimpArgs false
set_option linter.unusedVariables false
namespace Go.Proofs.YtoeaglpmkjoenaaGreat
open Go.RowKit
open Rep (rep)
def setsT (bs:List Bool) (l:List Int):List Bool:=l.foldl (fun bs i=>bs.set i.toNat true) bs
def definedD (a:GraphD):List Bool:=setsT (a.vals.map (·.const)) a.inputs
theorem setsT_len:∀ (l:List Int) (bs:List Bool),(setsT bs l).length = bs.length
 | [],_=>rfl
 | i :: l,bs=>by
  show (setsT (bs.set i.toNat true) l).length = _
  rw [setsT_len l,List.length_set]
theorem definedD_len (a:GraphD):(definedD a).length = a.vals.length:=by unfold definedD;rw [setsT_len,List.length_map]
theorem setsT_snoc (bs:List Bool) (l:List Int) (i:Int):setsT bs (l++[i]) = (setsT bs l).set i.toNat true:=by unfold setsT;rw [List.foldl_append];rfl
structure DefInv (w:World) (cs:List Value) (q:Nat) (bs:List Bool) (W:World):Prop where
 below:Below w.heap.size w W
 row:W.heap[w.heap.size]? = some (.cells cs.toArray 26 (0,0))
 arr:W.heap[q]? = some (.cells (bs.map Value.bool).toArray 4 (0,0))
 gq:w.heap.size < q
section
variable {w W W':World} {cs:List Value} {q:Nat} {bs:List Bool}
theorem DefInv.lt (h:DefInv w cs q bs W):q < W.heap.size:=(Array.getElem?_eq_some_iff.1 h.arr).1
theorem DefInv.next (h:DefInv w cs q bs W) (hb:Below W.heap.size W W'):DefInv w cs q bs W':=⟨h.below.trans (hb.mono h.below.size),(hb.block _ (by have:=h.lt;have:=h.gq;omega)).trans h.row,(hb.block _ h.lt).trans h.arr,h.gq⟩
theorem DefInv.set (h:DefInv w cs q bs W) (k:Nat) (x:Bool):DefInv w cs q (bs.set k x) (W.setCell ⟨q,k,none⟩ (.bool x)):=by
 rw [set_as_row h.arr]
 have hg:W.grownBy (W.setRow q ((bs.map Value.bool).toArray.setIfInBounds k (.bool x))) (some q):=⟨rfl,rfl,rfl,by rw [size_setRow];exact Nat.le_refl _,fun j _ hn=>heap_setRow_other _ _ _ _ (fun e=>hn (by rw [e]))⟩
 have h1:=h.gq
 refine ⟨h.below.grown hg h.below.size (fun g e=>by injection e with e;omega),(heap_setRow_other _ _ _ _ (by omega)).trans h.row,?_,h1⟩
 rw [heap_setRow _ _ _ _ _ h.arr,List.map_set,List.setIfInBounds_toArray]
theorem DefInv.free (h:DefInv w cs q bs W) (k:Nat):W.frozen? ⟨q,k,none⟩ = false:=by simp [World.frozen?,h.arr]
theorem DefInv.cell (h:DefInv w cs q bs W) {k:Nat} (hk:k < bs.length):∃ x,W.cell? ⟨q,k,none⟩ = some (.bool x):=by
 refine ⟨bs[k],?_⟩
 rw [cell_of_row _ _ _ _ _ _ h.arr,List.getElem?_toArray,List.getElem?_map,List.getElem?_eq_getElem hk];rfl
end
theorem val_facts {w:World} {Z:Zone} {cs:List Value} {a:ValD} (h:rep w Z cs a):cs.length = 8∧cs[2]? = some (.bool a.const)∧∀ u ∈ cs,u.oneCell' = true:=by
 refine ⟨Rep.len h,?_,Rep.one h⟩
 obtain ⟨A1,k1,A2,k2,A3,k3,A4,k4,A5,k5,rfl,_⟩:=open_ValD h
 rfl
set_option maxRecDepth 100000 in
set_option maxHeartbeats 8000000 in
theorem defined_any (cs:List Value) (a:GraphD) (w:World) (hr:rep w (old w.heap.size) cs a) (hs:a.vals.length ≤ 1048576) (hin:∀ x ∈ a.inputs,0 ≤ x∧x < a.vals.length) :
  Calls Tryz.prog 67 #[.agg cs.toArray] w fun e w'=>∃ q,e = .returned (.slice (some ⟨q,0,none⟩) a.vals.length a.vals.length)∧w.heap.size ≤ q∧w'.heap[q]? = some (.cells ((definedD a).map Value.bool).toArray 4 (0,0))∧Below w.heap.size w w':=by
 obtain ⟨A1,k1,A2,k2,A3,k3,A4,k4,rfl,r1,r2,r3,r4⟩:=open_GraphD hr
 obtain ⟨n1,n1'⟩:=slice_bnd r1
 obtain ⟨n3,n3'⟩:=slice_bnd r3
 have HR:=Lib.hid (And.intro r1 (And.intro r3 hin))
 clear hr r1 r2 r3 r4 hin
 go_enter Tryz.func67,Tryz.ntmps67
 go_wp2_with (with_reducible refine wpList_box_row rfl 26 _ rfl [.slice A1 a.vals.length k1,.slice A2 a.nodes.length k2,.slice A3 a.inputs.length k3,.slice A4 a.outputs.length k4] rfl ?_;have hX:=box_start w 26 [.slice A1 a.vals.length k1,.slice A2 a.nodes.length k2,.slice A3 a.inputs.length k3,.slice A4 a.outputs.length k4];generalize World.alloc _ _ = W0 at hX ⊢;have HX:=Lib.hid hX;clear hX;refine halt ?_)
 unfold Halt
 have c0:W0.cell? ⟨w.heap.size,0,none⟩ = some (.slice A1 a.vals.length k1):=cell_of_row _ _ _ _ _ _ HX.out.row
 have c0':∀ o:Obj,(W0.alloc o).cell? ⟨w.heap.size,0,none⟩ = some (.slice A1 a.vals.length k1):=fun o=>(World.cell?_alloc_lt _ _ _ HX.out.lt).trans c0
 have hmk:=make_bools a.vals.length W0 (by omega)
 go_wp2_with fail
 clear hmk c0 c0'
 have hI:DefInv w [.slice A1 a.vals.length k1,.slice A2 a.nodes.length k2,.slice A3 a.inputs.length k3,.slice A4 a.outputs.length k4] W0.heap.size (List.replicate a.vals.length false) (W0.alloc (.cells (Array.replicate a.vals.length (.bool false)) 4)) :=
  ⟨HX.out.below.alloc HX.out.below.size _,(Below.heap_alloc _ _ _ HX.out.lt).trans HX.out.row,by rw [← bools_arr];exact heap_alloc_new _ _,HX.out.lt⟩
 generalize World.alloc _ _ = W1 at hI ⊢
 obtain ⟨q,hq⟩:∃ q,W0.heap.size = q:=⟨_,rfl⟩
 rw [hq] at hI ⊢
 obtain ⟨cs,hcs⟩:∃ cs:List Value,[.slice A1 a.vals.length k1,.slice A2 a.nodes.length k2,.slice A3 a.inputs.length k3,.slice A4 a.outputs.length k4] = cs:=⟨_,rfl⟩
 rw [hcs] at hI
 have HC:Hid (cs.toArray[2]? = some (.slice A3 a.inputs.length k3)):=Lib.hid (by rw [← hcs];rfl)
 have HI:=Lib.hid hI
 clear hI hq HX hcs
 obtain ⟨A',c',xs,hv,hnc,hcm,-,hl,hch⟩:=open_slice HR.out.1
 simp only [Value.slice.injEq,true_and] at hv
 obtain ⟨rfl,rfl⟩:=hv
 have HL:=Lib.hid (And.intro hl hch)
 clear hl hch
 go_loopw [15] (fun i wr=>∃ (pre post:List ValD),a.vals = pre++post∧i = .int .i64 pre.length∧DefInv w cs q (pre.map (·.const)++List.replicate post.length false) wr) (fun i _=>a.vals.length - (intOf i).toNat)
 case atStart=>exact ⟨[],a.vals,rfl,rfl,HI.out⟩
 case round =>
  obtain ⟨pre,post,hpp,rfl,hI⟩:=hrel
  have HIr:=Lib.hid hI
  clear hI
  cases post with
  | cons z post =>
   obtain ⟨hz,hlt,hpp',hpl⟩:=split_at hpp
   obtain ⟨b,o,zc,rfl,hbB,hrz,hcell⟩:=elem_at HL.out.1 HL.out.2 (by decide) hz
   have hat:At wr b (o + pre.length * 8) zc:=fun j u hu=>by
    have h1:=(hcell j u hu).1
    rw [← Nat.add_assoc] at h1
    exact (HIr.out.below.cell (p:=⟨b,o + pre.length * 8 + j,none⟩) hbB).trans h1
   have hv8:=val_facts hrz
   have hsz:(Tryz.prog.info? 45).map (·.size) = some zc.length:=by rw [hv8.1];kernel_rfl
   have hft:0 + zc.length ≤ zeroV.length:=by rw [hv8.1];exact of_decide_eq_true (by kernel_rfl)
   have HA:=Lib.hid (And.intro hat (And.intro hsz (And.intro hft (And.intro (show zc.length = zeroV.length from hv8.1) hv8.2))))
   clear hv8 hsz hft
   have hk0:(0:Int) ≤ (pre.length:Int):=Int.natCast_nonneg _
   have hk1:(pre.length:Int) < (a.vals.length:Int):=by omega
   have H:=Lib.hid (And.intro hpp' hpl)
   clear hpp hpp' hpl hz hcell hbB hrz hat
   go_wp2_with (first
    |(with_reducible refine wpList_load_agg rfl 45 _ rfl _ _ _ rfl zc Tryz.underlying45 rfl HA.out.2.1 HA.out.1 ?_)
    |(with_reducible refine wpList_alloc_row rfl 45 rfl zeroV zeroV_zero ?_)
    |(with_reducible refine wpList_store_agg rfl 45 _ _ rfl _ 0 zc rfl rfl 45 zeroV (heap_alloc_new _ _) HA.out.2.1 HA.out.2.2.1 HA.out.2.2.2.2.2 ?_;have hY:=laid_row wr 45 zeroV zc HA.out.2.2.2.1;generalize World.setRow _ _ _ = v2 at hY ⊢;have HY:=Lib.hid hY;clear hY;refine halt ?_))
   unfold Halt
   have H2:=Lib.hid (HIr.out.next HY.out.1)
   obtain ⟨x0,hx0⟩:=H2.out.cell (k:=pre.length) (by simp)
   have fL:=H2.out.free pre.length
   have c2:v2.cell? ⟨wr.heap.size,2,none⟩ = some (.bool z.const):=(cell_of_row _ _ _ _ _ _ HY.out.2.1).trans (by rw [List.getElem?_toArray];exact HA.out.2.2.2.2.1)
   go_wp2
   go_roundw
   case rel =>
    refine ⟨pre++[z],post,H.out.1,by rw [H.out.2];go_num,?_⟩
    have h:=H2.out.set pre.length z.const
    have e:(pre.map (·.const)++List.replicate (z :: post).length false).set pre.length z.const = (pre++[z]).map (·.const)++List.replicate post.length false:=by
     rw [List.set_append]
     simp [List.replicate_succ]
    rwa [e] at h
   case measure=>simp [intOf];omega
  | nil =>
   obtain ⟨hge,hpl⟩:=split_end hpp
   replace hpl:=Lib.hid hpl
   clear hpp
   have c2:wr.cell? ⟨w.heap.size,2,none⟩ = some (.slice A3 a.inputs.length k3):=(cell_of_row _ _ _ _ _ _ HIr.out.row).trans HC.out
   go_wp2_with fail
   clear c2
   obtain ⟨B',d',ys,hv,hnc2,hcm2,-,hl,hch⟩:=open_slice HR.out.2.1
   simp only [Value.slice.injEq,true_and] at hv
   obtain ⟨rfl,rfl⟩:=hv
   have HM:=Lib.hid (And.intro hl hch)
   clear hl hch
   have hst:DefInv w cs q (a.vals.map (·.const)) wr:=by
    have h:=HIr.out
    rw [hpl.out] at h
    simpa using h
   have HST:=Lib.hid hst
   clear hst HIr
   obtain ⟨wb,rfl⟩:∃ wb,wb = wr:=⟨_,rfl⟩
   go_loopw [29] (fun i wr=>∃ (pre2 post2:List Int),a.inputs = pre2++post2∧i = .int .i64 pre2.length∧DefInv w cs q (setsT (a.vals.map (·.const)) pre2) wr) (fun i _=>a.inputs.length - (intOf i).toNat)
   case atStart=>exact ⟨[],a.inputs,rfl,rfl,HST.out⟩
   case round =>
    obtain ⟨pre2,post2,hpp,rfl,hI⟩:=hrel
    have HJ:=Lib.hid hI
    clear hI
    cases post2 with
    | cons v post2 =>
     obtain ⟨hz,hlt,hpp',hpl2⟩:=split_at hpp
     obtain ⟨hv0,hv1⟩:=HR.out.2.2 v (List.mem_of_getElem? hz)
     obtain ⟨j,rfl⟩:∃ j:Nat,v = (j:Int):=⟨v.toNat,by omega⟩
     obtain ⟨b2,o2,xc,rfl,hbB2,hrz,hcell⟩:=elem_at HM.out.1 HM.out.2 (by decide) hz
     obtain ⟨rfl,hv64⟩:=hrz
     have k4':wr.cell? ⟨b2,o2 + pre2.length,none⟩ = some (.int .i64 (j:Int)):=(HJ.out.below.cell (p:=⟨b2,o2 + pre2.length,none⟩) hbB2).trans (cell_of_elem (α:=Int) rfl hcell rfl)
     have hk2:(0:Int) ≤ (pre2.length:Int):=Int.natCast_nonneg _
     have hk3:(pre2.length:Int) < (a.inputs.length:Int):=by omega
     have H:=Lib.hid (And.intro hpp' hpl2)
     obtain ⟨x0,hx0⟩:=HJ.out.cell (k:=j) (by rw [setsT_len,List.length_map];omega)
     have fL:=HJ.out.free j
     clear hpp hpp' hpl2 hz hcell hbB2 hv64
     go_wp2
     go_roundw
     case rel =>
      refine ⟨pre2++[(j:Int)],post2,H.out.1,by rw [H.out.2];go_num,?_⟩
      rw [setsT_snoc]
      exact HJ.out.set j true
     case measure=>simp [intOf];omega
    | nil =>
     obtain ⟨hge2,hpl2⟩:=split_end hpp
     replace hpl2:=Lib.hid hpl2
     clear hpp
     go_wp2
     go_ret
     refine ⟨q,rfl,Nat.le_of_lt HJ.out.gq,?_,HJ.out.below⟩
     have h:=HJ.out.arr
     rw [hpl2.out] at h
     exact h
end Go.Proofs.YtoeaglpmkjoenaaGreat
set_option linter.unusedSimpArgs false
set_option maxRecDepth 100000
namespace Go.Proofs.YtoeaglpmkjoenaaGreat
open Go.RowKit
open Rep (rep)
def AttrRowD.cells (x:AttrRowD):List Value:=[.string x.name,.string x.kind,.bool x.must]
end Go.Proofs.YtoeaglpmkjoenaaGreat
set_option linter.unusedSimpArgs false
namespace Go.Proofs.YtoeaglpmkjoenaaGreat
open Go.RowKit
open Rep (rep)
end Go.Proofs.YtoeaglpmkjoenaaGreat
set_option linter.unusedSimpArgs false
namespace Go.Proofs.YtoeaglpmkjoenaaGreat
open Go.RowKit
open Rep (rep)
def ten62 (n:Nat):List Value:=[.int .i64 1,.slice (some ⟨n + 2,0,none⟩) 1 1,.slice (some ⟨n + 3,0,none⟩) 1 1,.slice none 0 0,.slice none 0 0]
def cur62 (n:Nat):List Value:=zeroS.take 31++ten62 n++zeroS.drop (31 + (ten62 n).length)
structure Left62 (w W:World):Prop where
 below:Below w.heap.size w W
 s0:Sets W w.heap.size zeroS
 s1:Sets W (w.heap.size + 1) (cur62 w.heap.size)
 d2:W.heap[w.heap.size + 2]? = some (.cells #[.int .i64 1] 3 (0,0))
 d3:W.heap[w.heap.size + 3]? = some (.cells #[.int .u32 0] 46 (0,0))
end Go.Proofs.YtoeaglpmkjoenaaGreat
set_option linter.unusedSimpArgs false
set_option linter.unusedVariables false
namespace Go.Proofs.YtoeaglpmkjoenaaGreat
open Go.RowKit
open Rep (rep)
instance memS (s:ByteArray) (l:List ByteArray):Decidable (s ∈ l):=decidable_of_iff (l.any (fun a=>decide (a = s)) = true) (by simp)
def placeD (names:List ByteArray) (s:ByteArray):Int:=indexFrom (fun a=>decide (a = s)) names 0
def namesM (m:ModelD):List ByteArray:=m.inits.map (·.name)++m.inputs.map (·.name)++m.nodes.flatMap (·.outs)
structure SmallM (m:ModelD):Prop where
 nodes:m.nodes.length ≤ 1024
 inits:m.inits.length ≤ 1024
 inputs:m.inputs.length ≤ 64
 outputs:m.outputs.length ≤ 64
 ins:∀ n ∈ m.nodes,n.ins.length ≤ 64
 outs:∀ n ∈ m.nodes,n.outs.length ≤ 64
end Go.Proofs.YtoeaglpmkjoenaaGreat
set_option linter.unusedSimpArgs false
set_option linter.unusedVariables false
namespace Go.Proofs.YtoeaglpmkjoenaaGreat
open Go.RowKit
open Rep (rep)
def isOut (N:Nat) (k:Int):Bool:=decide (k < 0) || decide (k ≥ (N:Int))
def isOut1 (N:Nat) (k:Int):Bool:=decide (k ≠ -1) && isOut N k
set_option maxRecDepth 100000 in
set_option maxHeartbeats 800000 in
theorem chk1_any (x:Int) (g N c:Nat) (A:Option Addr) (W:World) (h0:W.cell? ⟨g,0,none⟩ = some (.slice A N c)) :
  Calls Tryz.prog 64 #[.int .i64 x,.pointer (some ⟨g,0,none⟩)] W fun e W'=>e = .returned (.bool (isOut N x))∧W = W':=by
 by_cases h:x < 0
 ·have HE:=Lib.hid (show isOut N x = true by simp [isOut,h])
  go_enter Tryz.func64,Tryz.ntmps64
  go_wp2
  go_ret
  exact ⟨by rw [HE.out];rfl,rfl⟩
 ·by_cases h':x ≥ (N:Int)
  ·have HE:=Lib.hid (show isOut N x = true by simp [isOut,h'])
   go_enter Tryz.func64,Tryz.ntmps64
   go_wp2
   go_ret
   exact ⟨by rw [HE.out];rfl,rfl⟩
  ·have HE:=Lib.hid (show isOut N x = false by simp [isOut];omega)
   go_enter Tryz.func64,Tryz.ntmps64
   go_wp2
   go_ret
   exact ⟨by rw [HE.out];rfl,rfl⟩
set_option maxRecDepth 100000 in
set_option maxHeartbeats 800000 in
theorem chk2_any (x:Int) (p g N c:Nat) (A:Option Addr) (W:World) (h0:W.cell? ⟨g,0,none⟩ = some (.slice A N c)) (hp:W.cell? ⟨p,0,none⟩ = some (.func (.func 64) #[] #[.pointer (some ⟨g,0,none⟩)])) :
  Calls Tryz.prog 65 #[.int .i64 x,.pointer (some ⟨p,0,none⟩)] W fun e W'=>e = .returned (.bool (isOut1 N x))∧Below W.heap.size W W':=by
 by_cases h:x = -1
 ·subst h
  go_enter Tryz.func65,Tryz.ntmps65
  go_wp2
  go_ret
  exact ⟨rfl,Below.refl _ _⟩
 ·have HE:=Lib.hid (show isOut1 N x = isOut N x by simp [isOut1,h])
  have HC:=Lib.hid (chk1_any x g N c A W h0)
  clear h0
  go_enter Tryz.func65,Tryz.ntmps65
  go_wp2_with fail
  refine HC.out.mono ?_
  rintro e w1 ⟨rfl,rfl⟩
  obtain ⟨y,hy⟩:∃ y,isOut N x = y:=⟨_,rfl⟩
  have HY:=Lib.hid hy
  rw [hy]
  clear hy
  cases y with
  | true =>
   go_wp2
   go_ret
   have hb:(x != -1) = true:=by simp [h]
   exact ⟨by rw [HE.out,HY.out,← hb];rfl,Below.refl _ _⟩
  | false =>
   go_wp2
   go_ret
   exact ⟨by rw [HE.out,HY.out];rfl,Below.refl _ _⟩
set_option maxRecDepth 100000 in
set_option maxHeartbeats 800000 in
theorem chk3_any (x:Int) (W:World) :
  Calls Tryz.prog 66 #[.int .i64 x] W fun e W'=>e = .returned (.bool (decide (x > 1)))∧W = W':=by
 by_cases h:x > 1
 ·go_enter Tryz.func66,Tryz.ntmps66
  go_wp2
  go_ret
  exact ⟨by simp [h],rfl⟩
 ·go_enter Tryz.func66,Tryz.ntmps66
  go_wp2
  go_ret
  exact ⟨by simp [h],rfl⟩
def defsD (a:GraphD):List Int:=a.inputs++a.nodes.flatMap (·.outs)
def constN (v:ValD):Nat:=if v.const = true then 1 else 0
def timesG (a:GraphD) (l:List Int):List Int:=(List.range a.vals.length).map fun k=>(((a.vals.map constN).getD k 0 + l.count (k:Int):Nat):Int)
def flowsD:List Bool→List GNodeD→Prop
 | _,[]=>True
 | bs,n :: l=>n.ins.any (lackD bs) = false∧flowsD (setsT bs n.outs) l
def thereD (bs:List Bool) (l:List GNodeD):List Bool:=l.foldl (fun bs n=>setsT bs n.outs) bs
theorem there_len:∀ (l:List GNodeD) (bs:List Bool),(thereD bs l).length = bs.length
 | [],_=>rfl
 | n :: l,bs=>by
  show (thereD (setsT bs n.outs) l).length = _
  rw [there_len l,setsT_len]
theorem there_snoc (bs:List Bool) (l:List GNodeD) (n:GNodeD):thereD bs (l++[n]) = setsT (thereD bs l) n.outs:=by unfold thereD;rw [List.foldl_append];rfl
structure SoundD (a:GraphD):Prop where
 inputs:∀ k ∈ a.inputs,0 ≤ k∧k < a.vals.length
 outputs:∀ k ∈ a.outputs,0 ≤ k∧k < a.vals.length
 outs:∀ n ∈ a.nodes,∀ k ∈ n.outs,0 ≤ k∧k < a.vals.length
 ins:∀ n ∈ a.nodes,∀ k ∈ n.ins,-1 ≤ k∧k < a.vals.length
 once:∀ k < a.vals.length,(a.vals.map constN).getD k 0 + (defsD a).count (k:Int) ≤ 1
 flows:flowsD (definedD a) a.nodes
 ends:a.outputs.any (lackD (thereD (definedD a) a.nodes)) = false
theorem timesG_len (a:GraphD) (l:List Int):(timesG a l).length = a.vals.length:=by simp [timesG]
theorem timesG_get (a:GraphD) (l:List Int) {k:Nat} (hk:k < a.vals.length):(timesG a l)[k]? = some (((a.vals.map constN).getD k 0 + l.count (k:Int):Nat):Int):=by
 simp [timesG,List.getElem?_range,hk]
theorem timesG_set (a:GraphD) (l:List Int) {k:Nat} (hk:k < a.vals.length):(timesG a l).set k ((((a.vals.map constN).getD k 0 + l.count (k:Int):Nat):Int) + 1) = timesG a (l++[(k:Int)]):=by
 apply List.ext_getElem?
 intro i
 by_cases hi:i < a.vals.length
 ·rw [List.getElem?_set,timesG_get a _ hi,timesG_get a _ hi]
  by_cases e:k = i
  ·subst e
   rw [if_pos rfl,if_pos (by rw [timesG_len];exact hk),List.count_append]
   simp
   omega
  ·rw [if_neg e,List.count_append,List.count_singleton,if_neg (by simp;omega)]
   rfl
 ·rw [List.getElem?_eq_none (by rw [List.length_set,timesG_len];omega),List.getElem?_eq_none (by rw [timesG_len];omega)]
theorem timesG_nil (a:GraphD):timesG a [] = a.vals.map fun v=>(constN v:Int):=by
 apply List.ext_getElem?
 intro i
 by_cases hi:i < a.vals.length
 ·rw [timesG_get a _ hi,List.getElem?_map,List.getElem?_eq_getElem hi]
  simp [List.getElem?_eq_getElem hi]
 ·rw [List.getElem?_eq_none (by rw [timesG_len];omega),List.getElem?_eq_none (by rw [List.length_map];omega)]
end Go.Proofs.YtoeaglpmkjoenaaGreat
set_option linter.unusedSimpArgs false
set_option linter.unusedVariables false
namespace Go.Proofs.YtoeaglpmkjoenaaGreat
open Go.RowKit
open Rep (rep)
theorem chunks_of_ints {w:World} {Z:Zone}:∀ (l:List Int),(∀ x ∈ l,I64 x)→Chunks w Z (l.map (Value.int .i64)) l
 | [],_=>rfl
 | b :: l,h=>⟨[.int .i64 b],_,rfl,⟨rfl,h b (by simp)⟩,chunks_of_ints l fun x hx=>h x (by simp [hx])⟩
@[reducible] def outF (g:Nat):Value:=.func (.func 64) #[] #[.pointer (some ⟨g,0,none⟩)]
structure ChkI (w:World) (cs:List Value) (W:World):Prop where
 below:Below w.heap.size w W
 row:W.heap[w.heap.size]? = some (.cells cs.toArray 26 (0,0))
 fn:W.heap[w.heap.size + 1]? = some (.cells #[outF w.heap.size] 54 (0,0))
section
variable {w W W':World} {cs:List Value}
theorem ChkI.lt (h:ChkI w cs W):w.heap.size + 1 < W.heap.size:=(Array.getElem?_eq_some_iff.1 h.fn).1
theorem ChkI.next (h:ChkI w cs W) (hb:Below W.heap.size W W'):ChkI w cs W':=⟨h.below.trans (hb.mono h.below.size),(hb.block _ (by have:=h.lt;omega)).trans h.row,(hb.block _ h.lt).trans h.fn⟩
theorem ChkI.cell (h:ChkI w cs W) {j:Nat} {u:Value} (hj:cs.toArray[j]? = some u):W.cell? ⟨w.heap.size,j,none⟩ = some u:=(cell_of_row _ _ _ _ _ _ h.row).trans hj
theorem ChkI.out (h:ChkI w cs W):W.cell? ⟨w.heap.size + 1,0,none⟩ = some (outF w.heap.size):=cell_of_row _ _ _ _ _ _ h.fn
theorem ChkI.keep (h:ChkI w cs W) {α:Type} [Rep α] {c:List Value} {a:α} (hr:rep w (old w.heap.size) c a):rep W (old W.heap.size) c a:=Rep.more (Rep.keep hr (Keeps.old_below h.below (Nat.le_refl _))) (old_le (by have:=h.lt;omega))
end
structure TimI (w:World) (cs:List Value) (q:Nat) (ts:List Int) (W:World):Prop where
 inv:ChkI w cs W
 arr:W.heap[q]? = some (.cells (ts.map (Value.int .i64)).toArray 3 (0,0))
 gq:w.heap.size + 1 < q
section
variable {w W W':World} {cs:List Value} {q:Nat} {ts:List Int}
theorem TimI.lt (h:TimI w cs q ts W):q < W.heap.size:=(Array.getElem?_eq_some_iff.1 h.arr).1
theorem TimI.next (h:TimI w cs q ts W) (hb:Below W.heap.size W W'):TimI w cs q ts W':=⟨h.inv.next hb,(hb.block _ h.lt).trans h.arr,h.gq⟩
theorem TimI.set (h:TimI w cs q ts W) (k:Nat) (x:Int):TimI w cs q (ts.set k x) (W.setCell ⟨q,k,none⟩ (.int .i64 x)):=by
 rw [set_as_row h.arr]
 have hg:W.grownBy (W.setRow q ((ts.map (Value.int .i64)).toArray.setIfInBounds k (.int .i64 x))) (some q):=⟨rfl,rfl,rfl,by rw [size_setRow];exact Nat.le_refl _,fun j _ hn=>heap_setRow_other _ _ _ _ (fun e=>hn (by rw [e]))⟩
 have h1:=h.gq
 refine ⟨⟨h.inv.below.grown hg h.inv.below.size (fun g e=>by injection e with e;omega),(heap_setRow_other _ _ _ _ (by omega)).trans h.inv.row,(heap_setRow_other _ _ _ _ (by omega)).trans h.inv.fn⟩,?_,h1⟩
 rw [heap_setRow _ _ _ _ _ h.arr,List.map_set,List.setIfInBounds_toArray]
theorem TimI.free (h:TimI w cs q ts W) (k:Nat):W.frozen? ⟨q,k,none⟩ = false:=by simp [World.frozen?,h.arr]
theorem TimI.cell (h:TimI w cs q ts W) {k:Nat} {x:Int} (hk:ts[k]? = some x):W.cell? ⟨q,k,none⟩ = some (.int .i64 x):=by
 rw [cell_of_row _ _ _ _ _ _ h.arr,List.getElem?_toArray,List.getElem?_map,hk];rfl
theorem TimI.rep (h:TimI w cs q ts W) (hn:ts.length ≤ 1048576) (h64:∀ x ∈ ts,I64 x):Rep.rep W (old W.heap.size) [.slice (some ⟨q,0,none⟩) ts.length ts.length] ts:=by
 refine ⟨_,_,_,ts.map (Value.int .i64),rfl,rfl,Nat.le_refl _,by unfold maxLen;omega,?_,?_,chunks_of_ints ts h64⟩
 ·show ts.length * 8 ≤ reach
  unfold reach;omega
 ·intro _
  refine ⟨q,0,rfl,h.lt,fun j u hu=>⟨?_,fun e=>by cases e⟩⟩
  rw [Nat.zero_add,cell_of_row _ _ _ _ _ _ h.arr,List.getElem?_toArray];exact hu
end
theorem made_ints (n:Nat):madeCells (#[.int .i64 0]:Array Value) n = (List.replicate n (Value.int .i64 0)).toArray:=by
 apply Array.toList_inj.1
 rw [List.toList_toArray]
 apply List.ext_getElem?
 intro i
 simp only [Array.getElem?_toList,List.getElem?_replicate]
 by_cases h:i < n
 ·rw [if_pos h,Array.getElem?_eq_getElem (by rw [size_madeCells];exact h)]
  simp [madeCells,Nat.mod_one]
 ·rw [if_neg h,Array.getElem?_eq_none (by rw [size_madeCells];omega)]
theorem ints_arr (n:Nat):Array.replicate n (Value.int .i64 0) = ((List.replicate n (0:Int)).map (Value.int .i64)).toArray:=by simp
theorem make_ints (n:Nat) (w:World) (hn:n ≤ 1048576):(Instr.makeSlice 24 (.int .i64 (n:Int)) (.int .i64 (n:Int))).run Tryz.prog w = .ok (.slice (some ⟨w.heap.size,0,none⟩) n n) (w.alloc (.cells (Array.replicate n (.int .i64 0)) 3)):=by
 obtain ⟨i0,hi0,hz0,hz1,hz2⟩:=info_parts info_ints
 have h:=run_make (P:=Tryz.prog) w 24 3 i0 (.int .i64 0) Tryz.underlying24 hi0 hz0 .i64 .i64 (n:Int) (n:Int) (by omega) (Int.le_refl _) (by rw [hz2];omega) (by omega)
 rw [Int.toNat_natCast,hz1,Nat.mul_one] at h
 rw [h,show (Value.int .i64 0).cells = #[.int .i64 0] from rfl,made_ints,ints_arr,List.map_replicate]
structure ThI (w:World) (cs:List Value) (q:Nat) (bs:List Bool) (W:World):Prop where
 inv:ChkI w cs W
 arr:W.heap[q]? = some (.cells (bs.map Value.bool).toArray 4 (0,0))
 gq:w.heap.size + 1 < q
section
variable {w W W':World} {cs:List Value} {q:Nat} {bs:List Bool}
theorem ThI.lt (h:ThI w cs q bs W):q < W.heap.size:=(Array.getElem?_eq_some_iff.1 h.arr).1
theorem ThI.next (h:ThI w cs q bs W) (hb:Below W.heap.size W W'):ThI w cs q bs W':=⟨h.inv.next hb,(hb.block _ h.lt).trans h.arr,h.gq⟩
theorem ThI.set (h:ThI w cs q bs W) (k:Nat) (x:Bool):ThI w cs q (bs.set k x) (W.setCell ⟨q,k,none⟩ (.bool x)):=by
 rw [set_as_row h.arr]
 have hg:W.grownBy (W.setRow q ((bs.map Value.bool).toArray.setIfInBounds k (.bool x))) (some q):=⟨rfl,rfl,rfl,by rw [size_setRow];exact Nat.le_refl _,fun j _ hn=>heap_setRow_other _ _ _ _ (fun e=>hn (by rw [e]))⟩
 have h1:=h.gq
 refine ⟨⟨h.inv.below.grown hg h.inv.below.size (fun g e=>by injection e with e;omega),(heap_setRow_other _ _ _ _ (by omega)).trans h.inv.row,(heap_setRow_other _ _ _ _ (by omega)).trans h.inv.fn⟩,?_,h1⟩
 rw [heap_setRow _ _ _ _ _ h.arr,List.map_set,List.setIfInBounds_toArray]
theorem ThI.free (h:ThI w cs q bs W) (k:Nat):W.frozen? ⟨q,k,none⟩ = false:=by simp [World.frozen?,h.arr]
theorem ThI.cell (h:ThI w cs q bs W) {k:Nat} (hk:k < bs.length):∃ x,W.cell? ⟨q,k,none⟩ = some (.bool x):=by
 refine ⟨bs[k],?_⟩
 rw [cell_of_row _ _ _ _ _ _ h.arr,List.getElem?_toArray,List.getElem?_map,List.getElem?_eq_getElem hk];rfl
end
end Go.Proofs.YtoeaglpmkjoenaaGreat
set_option linter.unusedSimpArgs false
set_option linter.unusedVariables false
namespace Go.Proofs.YtoeaglpmkjoenaaGreat
def HasB (bs:List Bool) (i:Nat):Prop:=bs[i]? = some true
theorem hasB_getD {bs:List Bool} {i:Nat}:bs.getD i false = true ↔ HasB bs i:=by
 unfold HasB
 rw [List.getD_eq_getElem?_getD]
 cases h:bs[i]? <;> simp
theorem hasB_set {bs:List Bool} {i j:Nat}:HasB (bs.set j true) i ↔ HasB bs i ∨ (i < bs.length∧j = i):=by
 unfold HasB
 rw [List.getElem?_set]
 by_cases e:j = i
 ·subst e
  rw [if_pos rfl]
  by_cases h:j < bs.length
  ·simp [h]
  ·rw [if_neg h]
   simp [List.getElem?_eq_none (Nat.le_of_not_lt h),h]
 ·rw [if_neg e]
  simp [e]
theorem hasB_sets {i:Nat}:∀ (l:List Int) (bs:List Bool),HasB (setsT bs l) i ↔ HasB bs i ∨ (i < bs.length∧∃ x ∈ l,x.toNat = i)
 | [],bs=>by simp [setsT]
 | x :: l,bs=>by
  show HasB (setsT (bs.set x.toNat true) l) i ↔ _
  rw [hasB_sets l,hasB_set,List.length_set]
  simp only [List.mem_cons,exists_eq_or_imp]
  constructor
  ·rintro ((h | ⟨h,e⟩) | ⟨h,y,hy,e⟩)
   ·exact .inl h
   ·exact .inr ⟨h,.inl e⟩
   ·exact .inr ⟨h,.inr ⟨y,hy,e⟩⟩
  ·rintro (h | ⟨h,(e | ⟨y,hy,e⟩)⟩)
   ·exact .inl (.inl h)
   ·exact .inl (.inr ⟨h,e⟩)
   ·exact .inr ⟨h,y,hy,e⟩
theorem hasB_there {i:Nat}:∀ (l:List GNodeD) (bs:List Bool),HasB (thereD bs l) i ↔ HasB bs i ∨ (i < bs.length∧∃ n ∈ l,∃ x ∈ n.outs,x.toNat = i)
 | [],bs=>by simp [thereD]
 | n :: l,bs=>by
  show HasB (thereD (setsT bs n.outs) l) i ↔ _
  rw [hasB_there l,hasB_sets,setsT_len]
  simp only [List.mem_cons,exists_eq_or_imp]
  constructor
  ·rintro ((h | ⟨h,e⟩) | ⟨h,y,hy,e⟩)
   ·exact .inl h
   ·exact .inr ⟨h,.inl e⟩
   ·exact .inr ⟨h,.inr ⟨y,hy,e⟩⟩
  ·rintro (h | ⟨h,(e | ⟨y,hy,e⟩)⟩)
   ·exact .inl (.inl h)
   ·exact .inl (.inr ⟨h,e⟩)
   ·exact .inr ⟨h,y,hy,e⟩
theorem ready_iff {bs:List Bool} {g:GNodeD}:g.ins.any (lackD bs) = false ↔ ∀ x ∈ g.ins,x < 0 ∨ HasB bs x.toNat:=by
 rw [List.any_eq_false]
 refine forall_congr' fun x=>forall_congr' fun _=>?_
 unfold lackD
 rw [← hasB_getD]
 simp only [Bool.and_eq_true,decide_eq_true_eq,Bool.not_eq_true',not_and,Bool.not_eq_false]
 constructor
 ·intro h
  by_cases h0:0 ≤ x
  ·exact .inr (h h0)
  ·exact .inl (by omega)
 ·rintro (h | h) h0
  ·omega
  ·exact h
theorem flows_append:∀ (p q:List GNodeD) (bs:List Bool),flowsD bs (p++q) ↔ flowsD bs p∧flowsD (thereD bs p) q
 | [],q,bs=>by simp [flowsD,thereD]
 | n :: p,q,bs=>by
  show (_∧flowsD (setsT bs n.outs) (p++q)) ↔ (_∧flowsD (setsT bs n.outs) p)∧flowsD (thereD (setsT bs n.outs) p) q
  rw [flows_append p q,and_assoc]
structure Named (N:List ByteArray) (g:GNodeD) (n:NodeD):Prop where
 ins:g.ins = n.ins.map (placeD N)
 outs:g.outs = n.outs.map (placeD N)
 inN:∀ s ∈ n.ins,s = ⟨#[]⟩ ∨ s ∈ N
 outN:∀ s ∈ n.outs,s ∈ N
structure Sane (m:ModelD):Prop where
 once:(namesM m).Nodup
 named:(⟨#[]⟩:ByteArray) ∉ namesM m
 ins:∀ n ∈ m.nodes,∀ s ∈ n.ins,s = ⟨#[]⟩ ∨ s ∈ namesM m
end Go.Proofs.YtoeaglpmkjoenaaGreat
set_option linter.unusedSimpArgs false
set_option linter.unusedVariables false
namespace Go.Proofs.YtoeaglpmkjoenaaGreat
def swp (l:List Int) (i j:Nat):List Int:=(l.set i (l.getD j 0)).set j (l.getD i 0)
theorem swp_len (l:List Int) (i j:Nat):(swp l i j).length = l.length:=by unfold swp;rw [List.length_set,List.length_set]
theorem count_set1:∀ (l:List Int) (i:Nat) (x y z:Int),l[i]? = some x→(l.set i y).count z + (if x = z then 1 else 0) = l.count z + (if y = z then 1 else 0)
 | [],i,x,y,z,h=>by simp at h
 | a :: l,0,x,y,z,h=>by
  have h:a = x:=by simpa using h
  subst h
  rw [List.set_cons_zero,List.count_cons,List.count_cons]
  simp only [beq_iff_eq]
  omega
 | a :: l,i + 1,x,y,z,h=>by
  have ih:=count_set1 l i x y z (by simpa using h)
  rw [List.set_cons_succ,List.count_cons,List.count_cons]
  omega
theorem swp_perm {l:List Int} {i j:Nat} (hi:i < l.length) (hj:j < l.length):(swp l i j).Perm l:=by
 refine List.perm_iff_count.2 fun z=>?_
 obtain ⟨x,hx⟩:∃ x,l[i]? = some x:=⟨_,List.getElem?_eq_getElem hi⟩
 obtain ⟨y,hy⟩:∃ y,l[j]? = some y:=⟨_,List.getElem?_eq_getElem hj⟩
 have ex:l.getD i 0 = x:=by rw [List.getD_eq_getElem?_getD,hx];rfl
 have ey:l.getD j 0 = y:=by rw [List.getD_eq_getElem?_getD,hy];rfl
 unfold swp
 rw [ex,ey]
 have h1:=count_set1 l i x y z hx
 by_cases e:i = j
 ·subst e
  have h2:=count_set1 (l.set i y) i y x z (by rw [List.getElem?_set_self hi])
  rw [hx] at hy
  injection hy with hy
  subst hy
  omega
 ·have h2:=count_set1 (l.set i y) j y x z (by rw [List.getElem?_set_ne e];exact hy)
  omega
section
variable (c:Int→Int→Int)
def lssAt (l:List Int) (i j:Nat):Bool:=decide (c (l.getD i 0) (l.getD j 0) < 0)
def insJ (a:Nat):Nat→List Int→List Int
 | 0,l=>l
 | j + 1,l=>if a < j + 1∧lssAt c l (j + 1) j = true then insJ a j (swp l (j + 1) j) else l
def insI (a:Nat):Nat→Nat→List Int→List Int
 | 0,_,l=>l
 | k + 1,i,l=>insI a k (i + 1) (insJ c a i l)
def insD (a b:Nat) (l:List Int):List Int:=insI c a (b - (a + 1)) (a + 1) l
theorem insJ_perm (a:Nat):∀ (j:Nat) (l:List Int),j < l.length→(insJ c a j l).Perm l
 | 0,l,_=>List.Perm.refl _
 | j + 1,l,h=>by
  unfold insJ
  split
  ·exact (insJ_perm a j _ (by rw [swp_len];omega)).trans (swp_perm h (by omega))
  ·exact List.Perm.refl _
theorem insI_perm (a:Nat):∀ (k i:Nat) (l:List Int),i + k ≤ l.length→(insI c a k i l).Perm l
 | 0,_,l,_=>List.Perm.refl _
 | k + 1,i,l,h=>by
  have h1:=insJ_perm c a i l (by omega)
  exact (insI_perm a k (i + 1) _ (by rw [h1.length_eq];omega)).trans h1
theorem insD_perm {a b:Nat} {l:List Int} (h:b ≤ l.length):(insD c a b l).Perm l:=by
 unfold insD
 by_cases e:a + 1 ≤ b
 ·exact insI_perm c a _ _ _ (by omega)
 ·rw [show b - (a + 1) = 0 by omega];exact List.Perm.refl _
end
def bsD (f:Nat→Bool):Nat→Nat→Nat→Nat
 | 0,i,_=>i
 | n + 1,i,j=>if i < j then (if f ((i + j) / 2) = true then bsD f n ((i + j) / 2 + 1) j else bsD f n i ((i + j) / 2)) else i
theorem bsD_in (f:Nat→Bool):∀ (n i j:Nat),i ≤ j→i ≤ bsD f n i j∧bsD f n i j ≤ j
 | 0,i,j,h=>⟨Nat.le_refl _,h⟩
 | n + 1,i,j,h=>by
  unfold bsD
  by_cases e:i < j
  ·rw [if_pos e]
   split
   ·have:=bsD_in f n ((i + j) / 2 + 1) j (by omega);omega
   ·have:=bsD_in f n i ((i + j) / 2) (by omega);omega
  ·rw [if_neg e];omega
theorem bsD_step (f:Nat→Bool) {n i j:Nat} (h:i < j):bsD f (n + 1) i j = if f ((i + j) / 2) = true then bsD f n ((i + j) / 2 + 1) j else bsD f n i ((i + j) / 2):=by
 rw [bsD,if_pos h]
theorem bsD_end (f:Nat→Bool) {n i j:Nat} (h:¬ i < j):bsD f n i j = i:=by
 cases n with
 | zero=>rfl
 | succ n=>rw [bsD,if_neg h]
def upD:Nat→Nat→List Int→List Int
 | 0,_,l=>l
 | n + 1,k,l=>upD n (k + 1) (swp l k (k + 1))
def downD:Nat→Nat→List Int→List Int
 | 0,_,l=>l
 | n + 1,k,l=>downD n (k - 1) (swp l k (k - 1))
theorem upD_perm:∀ (n k:Nat) (l:List Int),k + n < l.length→(upD n k l).Perm l
 | 0,_,l,_=>List.Perm.refl _
 | n + 1,k,l,h=>(upD_perm n (k + 1) _ (by rw [swp_len];omega)).trans (swp_perm (by omega) (by omega))
theorem downD_perm:∀ (n k:Nat) (l:List Int),n ≤ k→k < l.length→(downD n k l).Perm l
 | 0,_,l,_,_=>List.Perm.refl _
 | n + 1,k,l,h,h2=>(downD_perm n (k - 1) _ (by omega) (by rw [swp_len];omega)).trans (swp_perm (by omega) (by omega))
def rngD:Nat→Nat→Nat→List Int→List Int
 | 0,_,_,l=>l
 | n + 1,a,b,l=>rngD n (a + 1) (b + 1) (swp l a b)
theorem rngD_perm:∀ (n a b:Nat) (l:List Int),a + n ≤ l.length→b + n ≤ l.length→(rngD n a b l).Perm l
 | 0,_,_,l,_,_=>List.Perm.refl _
 | n + 1,a,b,l,h1,h2=>(rngD_perm n (a + 1) (b + 1) _ (by rw [swp_len];omega) (by rw [swp_len];omega)).trans (swp_perm (by omega) (by omega))
def rotD (m:Nat):Nat→Nat→Nat→List Int→List Int
 | 0,_,_,l=>l
 | n + 1,i,j,l=>if i = j then rngD i (m - i) m l else if j < i then rotD m n (i - j) j (rngD j (m - i) m l) else rotD m n i (j - i) (rngD i (m - i) (m + j - i) l)
theorem rotD_perm (m:Nat):∀ (n i j:Nat) (l:List Int),i ≤ m→m + j ≤ l.length→(rotD m n i j l).Perm l
 | 0,_,_,l,_,_=>List.Perm.refl _
 | n + 1,i,j,l,h1,h2=>by
  unfold rotD
  split
  ·exact rngD_perm _ _ _ _ (by omega) (by omega)
  ·split
   ·have h:=rngD_perm j (m - i) m l (by omega) (by omega)
    exact (rotD_perm m n _ _ _ (by omega) (by rw [h.length_eq];omega)).trans h
   ·have h:=rngD_perm i (m - i) (m + j - i) l (by omega) (by omega)
    exact (rotD_perm m n _ _ _ (by omega) (by rw [h.length_eq];omega)).trans h
section
variable (c:Int→Int→Int)
def symS (a m b:Nat) (l:List Int):Nat :=
 bsD (fun x=>!lssAt c l ((a + b) / 2 + m - 1 - x) x) (b - a) (if m > (a + b) / 2 then (a + b) / 2 + m - b else a) (if m > (a + b) / 2 then (a + b) / 2 else m)
def symD:Nat→Nat→Nat→Nat→List Int→List Int
 | 0,_,_,_,l=>l
 | n + 1,a,m,b,l =>
  if m - a = 1 then upD (bsD (fun h=>lssAt c l h a) (b - m) m b - 1 - a) a l
  else if b - m = 1 then downD (m - bsD (fun h=>!lssAt c l m h) (m - a) a m) m l
  else
   let start:=symS c a m b l
   let l1:=if start < m∧m < (a + b) / 2 + m - start then rotD m (b - a + 1) (m - start) ((a + b) / 2 + m - start - m) l else l
   let l2:=if a < start∧start < (a + b) / 2 then symD n a start ((a + b) / 2) l1 else l1
   if (a + b) / 2 < (a + b) / 2 + m - start∧(a + b) / 2 + m - start < b then symD n ((a + b) / 2) ((a + b) / 2 + m - start) b l2 else l2
theorem symS_in {a m b:Nat} {l:List Int} (h1:a < m) (h2:m < b):a ≤ symS c a m b l∧symS c a m b l ≤ m∧symS c a m b l ≤ (a + b) / 2∧(a + b) / 2 + m - symS c a m b l ≤ b∧m ≤ (a + b) / 2 + m - symS c a m b l:=by
 unfold symS
 by_cases e:m > (a + b) / 2
 ·rw [if_pos e,if_pos e]
  have:=bsD_in (fun x=>!lssAt c l ((a + b) / 2 + m - 1 - x) x) (b - a) ((a + b) / 2 + m - b) ((a + b) / 2) (by omega)
  omega
 ·rw [if_neg e,if_neg e]
  have:=bsD_in (fun x=>!lssAt c l ((a + b) / 2 + m - 1 - x) x) (b - a) a m (by omega)
  omega
theorem symD_perm:∀ (n a m b:Nat) (l:List Int),a < m→m < b→b ≤ l.length→(symD c n a m b l).Perm l
 | 0,_,_,_,l,_,_,_=>List.Perm.refl _
 | n + 1,a,m,b,l,h1,h2,h3=>by
  unfold symD
  split
  ·have:=bsD_in (fun h=>lssAt c l h a) (b - m) m b (by omega)
   exact upD_perm _ _ _ (by omega)
  ·split
   ·have:=bsD_in (fun h=>!lssAt c l m h) (m - a) a m (by omega)
    exact downD_perm _ _ _ (by omega) (by omega)
   ·have hs:=symS_in c (l:=l) h1 h2
    obtain ⟨s,hse⟩:∃ s,symS c a m b l = s:=⟨_,rfl⟩
    rw [hse] at hs
    simp only [hse]
    have p1:(if s < m∧m < (a + b) / 2 + m - s then rotD m (b - a + 1) (m - s) ((a + b) / 2 + m - s - m) l else l).Perm l:=by
     split
     ·exact rotD_perm _ _ _ _ _ (by omega) (by omega)
     ·exact List.Perm.refl _
    generalize (if s < m∧m < (a + b) / 2 + m - s then rotD m (b - a + 1) (m - s) ((a + b) / 2 + m - s - m) l else l) = l1 at p1 ⊢
    have p2:(if a < s∧s < (a + b) / 2 then symD c n a s ((a + b) / 2) l1 else l1).Perm l:=by
     split
     ·exact (symD_perm n a s _ l1 (by omega) (by omega) (by rw [p1.length_eq];omega)).trans p1
     ·exact p1
    generalize (if a < s∧s < (a + b) / 2 then symD c n a s ((a + b) / 2) l1 else l1) = l2 at p2 ⊢
    split
    ·exact (symD_perm n _ _ b l2 (by omega) (by omega) (by rw [p2.length_eq];omega)).trans p2
    ·exact p2
def blkD (n:Nat):Nat→Nat→List Int→List Int
 | 0,a,l=>insD c a n l
 | k + 1,a,l=>if a + 20 ≤ n then blkD n k (a + 20) (insD c a (a + 20) l) else insD c a n l
def mrgD (n s:Nat):Nat→Nat→List Int→List Int
 | 0,a,l=>l
 | k + 1,a,l=>if a + 2 * s ≤ n then mrgD n s k (a + 2 * s) (symD c (2 * s) a (a + s) (a + 2 * s) l) else if a + s < n then symD c (n - a) a (a + s) n l else l
def pasD (n:Nat):Nat→Nat→List Int→List Int
 | 0,_,l=>l
 | k + 1,s,l=>if s < n then pasD n k (2 * s) (mrgD c n s (n + 1) 0 l) else l
def stabD (l:List Int):List Int:=pasD c l.length l.length 20 (blkD c l.length l.length 0 l)
theorem blkD_perm (n:Nat):∀ (k a:Nat) (l:List Int),n ≤ l.length→(blkD c n k a l).Perm l
 | 0,a,l,h=>insD_perm c h
 | k + 1,a,l,h=>by
  unfold blkD
  split
  ·have h1:=insD_perm c (a:=a) (b:=a + 20) (l:=l) (by omega)
   exact (blkD_perm n k _ _ (by rw [h1.length_eq];exact h)).trans h1
  ·exact insD_perm c h
theorem mrgD_perm (n s:Nat) (hs:0 < s):∀ (k a:Nat) (l:List Int),n ≤ l.length→(mrgD c n s k a l).Perm l
 | 0,_,l,_=>List.Perm.refl _
 | k + 1,a,l,h=>by
  unfold mrgD
  split
  ·have h1:=symD_perm c (2 * s) a (a + s) (a + 2 * s) l (by omega) (by omega) (by omega)
   exact (mrgD_perm n s hs k _ _ (by rw [h1.length_eq];exact h)).trans h1
  ·split
   ·exact symD_perm c _ _ _ _ _ (by omega) (by omega) h
   ·exact List.Perm.refl _
theorem pasD_perm (n:Nat):∀ (k s:Nat) (l:List Int),0 < s→n ≤ l.length→(pasD c n k s l).Perm l
 | 0,_,l,_,_=>List.Perm.refl _
 | k + 1,s,l,h,h2=>by
  unfold pasD
  split
  ·have h1:=mrgD_perm c n s h (n + 1) 0 l h2
   exact (pasD_perm n k _ _ (by omega) (by rw [h1.length_eq];exact h2)).trans h1
  ·exact List.Perm.refl _
theorem stabD_perm (l:List Int):(stabD c l).Perm l:=by
 have h1:=blkD_perm c l.length l.length 0 l (Nat.le_refl _)
 exact (pasD_perm c _ _ _ _ (by omega) (by rw [h1.length_eq];exact Nat.le_refl _)).trans h1
end
end Go.Proofs.YtoeaglpmkjoenaaGreat
