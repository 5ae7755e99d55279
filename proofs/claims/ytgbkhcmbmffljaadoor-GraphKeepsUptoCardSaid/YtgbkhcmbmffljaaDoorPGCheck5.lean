/-
  Chapter 09: onnx.Check's parts: an attribute.
-/
/-
  Chapter 09: onnx.Check's parts: a node, values.
-/
/-
  Chapter 09: onnx.Check of any model, as a plain function of it.
-/
import Derived.Deep.CutRange
import Derived.Deep.DeepCutAuto
import Derived.Test.YtgbkhcmbmffljaaDoorPGCheck2
import Derived.Test.YtgbkhcmbmffljaaDoorPResX
set_option linter.unusedSimpArgs false
set_option linter.unusedVariables false
namespace Go.Proofs.YtgbkhcmbmffljaaDoor
open Go.RowKit
open Rep (rep)
def restB (f:Nat) (i:Int) (s:ByteArray) (t:TensorD) (n:Nat):Bool:=decide (f ≠ 0) || decide (i ≠ 0) || decide (s ≠ ⟨#[]⟩) || !noneT t || decide (0 < n)
def zeroTD:TensorD:=⟨0,[],[],[],[]⟩
def wrongA (a:AttrD):Bool :=
 if a.kind = 1 then restB 0 a.i a.s a.t (a.floats.length + a.ints.length) else if a.kind = 2 then restB a.f 0 a.s a.t (a.floats.length + a.ints.length)
 else if a.kind = 3 then restB a.f a.i ⟨#[]⟩ a.t (a.floats.length + a.ints.length)
 else if a.kind = 4 then decide ((sizeD a.t.dims).2 = 1) || wrongT a.t || restB a.f a.i a.s zeroTD (a.floats.length + a.ints.length)
 else if a.kind = 6 then restB a.f a.i a.s a.t (0 + a.ints.length) else if a.kind = 7 then restB a.f a.i a.s a.t (a.floats.length + 0) else true
def manyA (a:AttrD):Bool:=longS a.name || decide (4096 < max (max a.s.size a.floats.length) a.ints.length) || (decide (a.kind = 4) && decide ((sizeD a.t.dims).2 = 8))
structure AtR (w:World) (g:Nat) (acs rs:List Value) (q:Nat) (b m:Bool) (W:World):Prop where
 grown:w.grownBy W (some g)
 att:W.heap[w.heap.size]? = some (.cells acs.toArray 52 (0,0))
 rest:W.heap[q]? = some (.cells rs.toArray 52 (0,0))
 wr:Wr W g b m
 ge:w.heap.size < q
 gl:g < w.heap.size
section
variable {w W W':World} {g q:Nat} {acs rs:List Value} {b m:Bool}
theorem AtR.next (h:AtR w g acs rs q b m W) (hb:Below W.heap.size W W'):AtR w g acs rs q b m W' :=
 ⟨grown_below h.grown hb,(hb.block _ (Array.getElem?_eq_some_iff.1 h.att).1).trans h.att,(hb.block _ (Array.getElem?_eq_some_iff.1 h.rest).1).trans h.rest,h.wr.next hb,h.ge,h.gl⟩
theorem AtR.setR (h:AtR w g acs rs q b m W) (ys:List Value):AtR w g acs ys q b m (W.setRow q ys.toArray):=by
 have h1:=h.ge
 have h2:=h.gl
 exact ⟨⟨h.grown.os,h.grown.tape,h.grown.output,by rw [size_setRow];exact h.grown.size,fun k hk hn=>(heap_setRow_other _ _ _ _ (by omega)).trans (h.grown.block k hk hn)⟩,
  (heap_setRow_other _ _ _ _ (by omega)).trans h.att,heap_setRow _ _ _ _ _ h.rest,⟨(heap_setRow_other _ _ _ _ (by omega)).trans h.wr.at'⟩,h1,h2⟩
theorem AtR.out (h:AtR w g acs rs q b m W) (x:Bool):Wr (W.setRow g (([.bool b,.bool m]:List Value).set 0 (.bool x)).toArray) g x m∧w.grownBy (W.setRow g (([.bool b,.bool m]:List Value).set 0 (.bool x)).toArray) (some g) :=
 ⟨h.wr.setB x,grown_trans h.grown (grown_row _ _ _)⟩
theorem AtR.to (h:AtR w g acs rs q b m W) {b2 m2:Bool} (hg:W.grownBy W' (some g)) (hw:Wr W' g b2 m2):AtR w g acs rs q b2 m2 W':=by
 have h1:=h.ge
 have h2:=h.gl
 exact ⟨grown_trans h.grown hg,(hg.block _ (Array.getElem?_eq_some_iff.1 h.att).1 (fun e=>by injection e with e;omega)).trans h.att,(hg.block _ (Array.getElem?_eq_some_iff.1 h.rest).1 (fun e=>by injection e with e;omega)).trans h.rest,hw,h1,h2⟩
end
theorem atR_start {w W:World} {g:Nat} {acs:List Value} {b m:Bool} (hl:acs.length = 12) (hg:w.grownBy W (some g)) (ha:W.heap[w.heap.size]? = some (.cells acs.toArray 52 (0,0))) (hw:Wr W g b m) (hgl:g < w.heap.size) :
  AtR w g acs acs W.heap.size b m ((W.alloc (.cells zeroA.toArray 52)).setRow W.heap.size (zeroA.take 0++acs++zeroA.drop (0 + acs.length)).toArray):=by
 obtain ⟨h1,h2⟩:=laid_attr W acs hl
 have hlt:=(Array.getElem?_eq_some_iff.1 ha).1
 exact ⟨grown_below hg h1,(h1.block _ hlt).trans ha,h2,hw.next h1,hlt,hgl⟩
theorem Wr.free {W:World} {g:Nat} {b m:Bool} (h:Wr W g b m) (o:Nat):W.frozen? ⟨g,o,none⟩ = false:=by simp [World.frozen?,h.at']
theorem Wr.cellM {W:World} {g:Nat} {b m:Bool} (h:Wr W g b m) (x:Bool):Wr (W.setCell ⟨g,1,none⟩ (.bool x)) g b x∧W.grownBy (W.setCell ⟨g,1,none⟩ (.bool x)) (some g):=by
 rw [set_as_row h.at']
 exact ⟨⟨heap_setRow _ _ _ _ _ h.at'⟩,grown_row _ _ _⟩
theorem Wr.cellB {W:World} {g:Nat} {b m:Bool} (h:Wr W g b m) (x:Bool):Wr (W.setCell ⟨g,0,none⟩ (.bool x)) g x m∧W.grownBy (W.setCell ⟨g,0,none⟩ (.bool x)) (some g):=by
 rw [set_as_row h.at']
 exact ⟨⟨heap_setRow _ _ _ _ _ h.at'⟩,grown_row _ _ _⟩
theorem zeroTn_one:∀ u ∈ zeroTn,u.oneCell' = true:=by decide
theorem tn_lay (n:Nat):laySem Tryd.prog (Instr.build 43 #[]) n = some (.agg zeroTn.toArray,[]):=by kernel_rfl
set_option maxRecDepth 100000 in
set_option maxHeartbeats 8000000 in
theorem attr_w (cs:List Value) (a:AttrD) (g B:Nat) (b m:Bool) (w:World) (hB:B ≤ g) (hr:rep w (old B) cs a) (hw:Wr w g b m) :
  Calls Tryd.prog 113 #[.pointer (some ⟨g,0,none⟩),.agg cs.toArray] w (WrTo w g (b || wrongA a) (m || manyA a)):=by
 obtain ⟨A1,k1,A2,k2,A3,k3,A4,k4,A5,k5,A6,k6,rfl,h0,h1,h2,h3,h4,ht,hf,hi⟩:=open_AttrD hr
 have hgs:=hw.lt
 obtain ⟨n5,n5'⟩:=slice_bnd hf
 obtain ⟨n6,n6'⟩:=slice_bnd hi
 have l5:a.floats.length * 4 ≤ 140737488351232:=slice_reach hf
 have l6:a.ints.length * 8 ≤ 140737488351232:=slice_reach hi
 have y5:(a.floats.length:Int) ≤ 140737488351232:=by omega
 have y6:(a.ints.length:Int) ≤ 140737488351232:=by omega
 have HW:=Lib.hid (And.intro hw (And.intro ht h0))
 have HON:=Lib.hid (Rep.one hr)
 clear hr h0 h1 h2 h3 h4 ht hf hi hw l5 l6 n5' n6'
 go_enter Tryd.func113,Tryd.ntmps113
 go_wp2_with (with_reducible refine wpList_box_row rfl 52 _ rfl [.string a.name,.int .i64 a.kind,.int .u32 (a.f:Int),.int .i64 a.i,.string a.s,.int .i64 a.t.type,.slice A1 a.t.dims.length k1,.slice A2 a.t.f.length k2,.slice A3 a.t.i.length k3,.slice A4 a.t.b.length k4,.slice A5 a.floats.length k5,.slice A6 a.ints.length k6] rfl ?_;have hX:=box_start w 52 [.string a.name,.int .i64 a.kind,.int .u32 (a.f:Int),.int .i64 a.i,.string a.s,.int .i64 a.t.type,.slice A1 a.t.dims.length k1,.slice A2 a.t.f.length k2,.slice A3 a.t.i.length k3,.slice A4 a.t.b.length k4,.slice A5 a.floats.length k5,.slice A6 a.ints.length k6];generalize World.alloc _ _ = W0 at hX ⊢;have HX:=Lib.hid hX;clear hX;refine halt ?_)
 unfold Halt
 have c0:W0.cell? ⟨w.heap.size,0,none⟩ = some (.string a.name):=cell_of_row _ _ _ _ _ _ HX.out.row
 go_wp2_with fail
 have hN:rep (W0.alloc (.cells #[.string a.name] 9)) (fresh W0.heap.size (W0.heap.size + 1)) [.slice (some ⟨W0.heap.size,0,none⟩) 1 1] [a.name] :=
  rep_single (by decide) (heap_alloc_new W0 _) ⟨rfl,HW.out.2.2⟩ ⟨Nat.le_refl _,Nat.lt_succ_self _⟩
 have hX1:BoxInv w 52 [.string a.name,.int .i64 a.kind,.int .u32 (a.f:Int),.int .i64 a.i,.string a.s,.int .i64 a.t.type,.slice A1 a.t.dims.length k1,.slice A2 a.t.f.length k2,.slice A3 a.t.i.length k3,.slice A4 a.t.b.length k4,.slice A5 a.floats.length k5,.slice A6 a.ints.length k6] (W0.alloc (.cells #[.string a.name] 9)):=HX.out.next ((Below.refl _ _).alloc (Nat.le_refl _) _)
 have HX1:=Lib.hid hX1
 clear hX1 c0
 refine (name_w [a.name] _ g (fresh W0.heap.size (W0.heap.size + 1)) b m _ (fun h=>by have:=h.1;have:=HX.out.lt;omega) (fun k hk=>by rw [World.size_alloc];exact hk.2) hN ⟨(HX1.out.below.block _ hgs).trans HW.out.1.at'⟩).mono ?_
 clear hN
 generalize World.alloc _ _ = W1 at HX1 ⊢
 obtain ⟨m1,hm1⟩:∃ m1,(m || [a.name].any longS) = m1:=⟨_,rfl⟩
 have hm1':(m || longS a.name) = m1:=by rw [← hm1];simp
 have HM1:=Lib.hid hm1'
 rw [hm1]
 clear hm1 hm1'
 rintro e w1 ⟨rfl,hw1,hg1⟩
 have h1:w.grownBy w1 (some g)∧w1.heap[w.heap.size]? = some (.cells ([.string a.name,.int .i64 a.kind,.int .u32 (a.f:Int),.int .i64 a.i,.string a.s,.int .i64 a.t.type,.slice A1 a.t.dims.length k1,.slice A2 a.t.f.length k2,.slice A3 a.t.i.length k3,.slice A4 a.t.b.length k4,.slice A5 a.floats.length k5,.slice A6 a.ints.length k6]:List Value).toArray 52 (0,0))∧Wr w1 g b m1 :=
  ⟨grown_trans (grown_of_below HX1.out.below) hg1,(hg1.block _ HX1.out.lt (fun e=>by injection e with e;omega)).trans HX1.out.row,hw1⟩
 have H1:=Lib.hid h1
 clear hw1 hg1 h1
 have c4:w1.cell? ⟨w.heap.size,4,none⟩ = some (.string a.s):=cell_of_row _ _ _ _ _ _ H1.out.2.1
 have c10:w1.cell? ⟨w.heap.size,10,none⟩ = some (.slice A5 a.floats.length k5):=cell_of_row _ _ _ _ _ _ H1.out.2.1
 have c11:w1.cell? ⟨w.heap.size,11,none⟩ = some (.slice A6 a.ints.length k6):=cell_of_row _ _ _ _ _ _ H1.out.2.1
 have cM:=H1.out.2.2.cells.2
 have fM:=H1.out.2.2.free 1
 have key:∀ (x:Bool) (W:World),x = (m1 || decide (4096 < max (max a.s.size a.floats.length) a.ints.length))→W = w1.setCell ⟨g,1,none⟩ (.bool x) →
   w.grownBy W (some g)∧W.heap[w.heap.size]? = some (.cells ([.string a.name,.int .i64 a.kind,.int .u32 (a.f:Int),.int .i64 a.i,.string a.s,.int .i64 a.t.type,.slice A1 a.t.dims.length k1,.slice A2 a.t.f.length k2,.slice A3 a.t.i.length k3,.slice A4 a.t.b.length k4,.slice A5 a.floats.length k5,.slice A6 a.ints.length k6]:List Value).toArray 52 (0,0))∧Wr W g b (m1 || decide (4096 < max (max a.s.size a.floats.length) a.ints.length)):=fun x W hx hW=>by
  obtain ⟨hs,hgr⟩:=H1.out.2.2.cellM x
  rw [hW,← hx]
  exact ⟨grown_trans H1.out.1 hgr,(hgr.block _ (Array.getElem?_eq_some_iff.1 H1.out.2.1).1 (fun e=>by injection e with e;omega)).trans H1.out.2.1,hs⟩
 have HK:=Lib.hid key
 clear key
 go_upto_region 2 with (fail)
 go_cut [] from 10 to 29 (fun wx=>∃ wc,wx = wc∧w.grownBy wx (some g)∧wx.heap[w.heap.size]? = some (.cells ([.string a.name,.int .i64 a.kind,.int .u32 (a.f:Int),.int .i64 a.i,.string a.s,.int .i64 a.t.type,.slice A1 a.t.dims.length k1,.slice A2 a.t.f.length k2,.slice A3 a.t.i.length k3,.slice A4 a.t.b.length k4,.slice A5 a.floats.length k5,.slice A6 a.ints.length k6]:List Value).toArray 52 (0,0))∧Wr wx g b (m1 || decide (4096 < max (max a.s.size a.floats.length) a.ints.length)))
 case first =>
  cases m1 with
  | true =>
   go_wp2
   go_meet
   exact ⟨_,rfl,HK.out true _ (by simp) rfl⟩
  | false =>
   go_wp2
   all_goals go_meet
   all_goals (refine ⟨_,rfl,HK.out _ _ ?_ rfl⟩;rw [Bool.false_or,decide_eq_decide];omega)
 case rest =>
  obtain ⟨wc,hwc,hg2,hrow2,hwr2⟩:=hcut
  subst hwc
  obtain ⟨m2,hm2⟩:∃ m2,(m1 || decide (4096 < max (max a.s.size a.floats.length) a.ints.length)) = m2:=⟨_,rfl⟩
  rw [hm2] at hwr2
  have HC:=Lib.hid (And.intro hg2 (And.intro hrow2 hwr2))
  have HM2:=Lib.hid hm2
  clear hg2 hrow2 hwr2 hm2 HK
  go_wp2_with (first
   |(with_reducible refine wpList_load_agg rfl 52 _ rfl _ _ _ rfl [.string a.name,.int .i64 a.kind,.int .u32 (a.f:Int),.int .i64 a.i,.string a.s,.int .i64 a.t.type,.slice A1 a.t.dims.length k1,.slice A2 a.t.f.length k2,.slice A3 a.t.i.length k3,.slice A4 a.t.b.length k4,.slice A5 a.floats.length k5,.slice A6 a.ints.length k6] Tryd.underlying52 rfl (by kernel_rfl) (At.of_row HC.out.2.1) ?_)
   |(with_reducible refine wpList_alloc_row rfl 52 rfl zeroA zeroA_zero ?_)
   |(with_reducible refine wpList_store_agg rfl 52 _ _ rfl _ 0 [.string a.name,.int .i64 a.kind,.int .u32 (a.f:Int),.int .i64 a.i,.string a.s,.int .i64 a.t.type,.slice A1 a.t.dims.length k1,.slice A2 a.t.f.length k2,.slice A3 a.t.i.length k3,.slice A4 a.t.b.length k4,.slice A5 a.floats.length k5,.slice A6 a.ints.length k6] rfl rfl 52 zeroA (heap_alloc_new _ _) (by kernel_rfl) (of_decide_eq_true (by kernel_rfl)) HON.out ?_;have hY:=atR_start (acs:=[.string a.name,.int .i64 a.kind,.int .u32 (a.f:Int),.int .i64 a.i,.string a.s,.int .i64 a.t.type,.slice A1 a.t.dims.length k1,.slice A2 a.t.f.length k2,.slice A3 a.t.i.length k3,.slice A4 a.t.b.length k4,.slice A5 a.floats.length k5,.slice A6 a.ints.length k6]) rfl HC.out.1 HC.out.2.1 HC.out.2.2 hgs;generalize World.setRow _ _ _ = w3 at hY ⊢;have HY:=Lib.hid hY;clear hY;refine halt ?_))
  unfold Halt
  have e1:w3.cell? ⟨w.heap.size,1,none⟩ = some (.int .i64 a.kind):=cell_of_row _ _ _ _ _ _ HY.out.att
  obtain ⟨q,hq⟩:∃ q,wc.heap.size = q:=⟨_,rfl⟩
  rw [hq] at HY ⊢
  have HTR:=Lib.hid (Rep.keep HW.out.2.1 (keep_grown HY.out.grown hB (by omega)))
  clear hq
  go_upto_block 0 with (fail)
  go_cut [] (fun wy=>∃ (wc:World) (rf:Nat) (ri:Int) (rs:ByteArray) (rt:TensorD) (ts:List Value) (B5:Option Addr) (n5 j5:Nat) (B6:Option Addr) (n6 j6:Nat) (b5:Bool),wc = wy∧AtR w g [.string a.name,.int .i64 a.kind,.int .u32 (a.f:Int),.int .i64 a.i,.string a.s,.int .i64 a.t.type,.slice A1 a.t.dims.length k1,.slice A2 a.t.f.length k2,.slice A3 a.t.i.length k3,.slice A4 a.t.b.length k4,.slice A5 a.floats.length k5,.slice A6 a.ints.length k6] ([.string a.name,.int .i64 a.kind,.int .u32 (rf:Int),.int .i64 ri,.string rs]++(ts++[.slice B5 n5 j5,.slice B6 n6 j6])) q b5 (m || manyA a) wy ∧
    rep wy (old B) ts rt∧(b || wrongA a) = (b5 || restB rf ri rs rt (n5 + n6))∧n5 ≤ a.floats.length∧n6 ≤ a.ints.length)
  case first =>
   by_cases e1:a.kind = 1
   ·have hwa:wrongA a = restB 0 a.i a.s a.t (a.floats.length + a.ints.length):=by unfold wrongA;rw [if_pos e1]
    have hma:(m || manyA a) = m2:=by rw [← HM2.out,← HM1.out];unfold manyA;rw [e1];simp [Bool.or_assoc]
    have t1:(a.kind == 1) = true:=by rw [e1];rfl
    have HA:=Lib.hid (And.intro hwa hma)
    clear hwa hma e1
    go_wp2_with (with_reducible refine wpList_store_field rfl 38 _ _ rfl q 2 (.int .u32 0) rfl rfl (by kernel_rfl) (by kernel_rfl) 52 [.string a.name,.int .i64 a.kind,.int .u32 (a.f:Int),.int .i64 a.i,.string a.s,.int .i64 a.t.type,.slice A1 a.t.dims.length k1,.slice A2 a.t.f.length k2,.slice A3 a.t.i.length k3,.slice A4 a.t.b.length k4,.slice A5 a.floats.length k5,.slice A6 a.ints.length k6] HY.out.rest (of_decide_eq_true (by kernel_rfl)) ?_;have hZ:=HY.out.setR (List.set [.string a.name,.int .i64 a.kind,.int .u32 (a.f:Int),.int .i64 a.i,.string a.s,.int .i64 a.t.type,.slice A1 a.t.dims.length k1,.slice A2 a.t.f.length k2,.slice A3 a.t.i.length k3,.slice A4 a.t.b.length k4,.slice A5 a.floats.length k5,.slice A6 a.ints.length k6] 2 (.int .u32 0));have hT:=Rep.keep HTR.out (old_row (n:=B) (g:=q) (by have:=HY.out.ge;omega) (List.set [.string a.name,.int .i64 a.kind,.int .u32 (a.f:Int),.int .i64 a.i,.string a.s,.int .i64 a.t.type,.slice A1 a.t.dims.length k1,.slice A2 a.t.f.length k2,.slice A3 a.t.i.length k3,.slice A4 a.t.b.length k4,.slice A5 a.floats.length k5,.slice A6 a.ints.length k6] 2 (.int .u32 0)).toArray);generalize World.setRow _ _ _ = w4 at hZ hT ⊢;have HZ:=Lib.hid (And.intro hZ hT);clear hZ hT;refine halt ?_)
    unfold Halt
    go_wp2
    go_meet
    exact ⟨_,0,a.i,a.s,a.t,[.int .i64 a.t.type,.slice A1 a.t.dims.length k1,.slice A2 a.t.f.length k2,.slice A3 a.t.i.length k3,.slice A4 a.t.b.length k4],A5,a.floats.length,k5,A6,a.ints.length,k6,b,rfl,by rw [HA.out.2];exact HZ.out.1,HZ.out.2,by rw [HA.out.1],by omega,by omega⟩
   by_cases e2:a.kind = 2
   ·have hwa:wrongA a = restB a.f 0 a.s a.t (a.floats.length + a.ints.length):=by unfold wrongA;rw [if_neg e1,if_pos e2]
    have hma:(m || manyA a) = m2:=by rw [← HM2.out,← HM1.out];unfold manyA;rw [e2];simp [Bool.or_assoc]
    have t1:(a.kind == 1) = false:=by rw [e2];rfl
    have t2:(a.kind == 2) = true:=by rw [e2];rfl
    have HA:=Lib.hid (And.intro hwa hma)
    clear hwa hma e2
    go_wp2_with (with_reducible refine wpList_store_field rfl 2 _ _ rfl q 3 (.int .i64 0) rfl rfl (by kernel_rfl) (by kernel_rfl) 52 [.string a.name,.int .i64 a.kind,.int .u32 (a.f:Int),.int .i64 a.i,.string a.s,.int .i64 a.t.type,.slice A1 a.t.dims.length k1,.slice A2 a.t.f.length k2,.slice A3 a.t.i.length k3,.slice A4 a.t.b.length k4,.slice A5 a.floats.length k5,.slice A6 a.ints.length k6] HY.out.rest (of_decide_eq_true (by kernel_rfl)) ?_;have hZ:=HY.out.setR (List.set [.string a.name,.int .i64 a.kind,.int .u32 (a.f:Int),.int .i64 a.i,.string a.s,.int .i64 a.t.type,.slice A1 a.t.dims.length k1,.slice A2 a.t.f.length k2,.slice A3 a.t.i.length k3,.slice A4 a.t.b.length k4,.slice A5 a.floats.length k5,.slice A6 a.ints.length k6] 3 (.int .i64 0));have hT:=Rep.keep HTR.out (old_row (n:=B) (g:=q) (by have:=HY.out.ge;omega) (List.set [.string a.name,.int .i64 a.kind,.int .u32 (a.f:Int),.int .i64 a.i,.string a.s,.int .i64 a.t.type,.slice A1 a.t.dims.length k1,.slice A2 a.t.f.length k2,.slice A3 a.t.i.length k3,.slice A4 a.t.b.length k4,.slice A5 a.floats.length k5,.slice A6 a.ints.length k6] 3 (.int .i64 0)).toArray);generalize World.setRow _ _ _ = w4 at hZ hT ⊢;have HZ:=Lib.hid (And.intro hZ hT);clear hZ hT;refine halt ?_)
    unfold Halt
    go_wp2
    go_meet
    exact ⟨_,a.f,0,a.s,a.t,[.int .i64 a.t.type,.slice A1 a.t.dims.length k1,.slice A2 a.t.f.length k2,.slice A3 a.t.i.length k3,.slice A4 a.t.b.length k4],A5,a.floats.length,k5,A6,a.ints.length,k6,b,rfl,by rw [HA.out.2];exact HZ.out.1,HZ.out.2,by rw [HA.out.1],by omega,by omega⟩
   by_cases e3:a.kind = 3
   ·have hwa:wrongA a = restB a.f a.i ⟨#[]⟩ a.t (a.floats.length + a.ints.length):=by unfold wrongA;rw [if_neg e1,if_neg e2,if_pos e3]
    have hma:(m || manyA a) = m2:=by rw [← HM2.out,← HM1.out];unfold manyA;rw [e3];simp [Bool.or_assoc]
    have t1:(a.kind == 1) = false:=by rw [e3];rfl
    have t2:(a.kind == 2) = false:=by rw [e3];rfl
    have t3:(a.kind == 3) = true:=by rw [e3];rfl
    have HA:=Lib.hid (And.intro hwa hma)
    clear hwa hma e3
    go_wp2_with (with_reducible refine wpList_store_field rfl 9 _ _ rfl q 4 (.string ⟨#[]⟩) rfl rfl (by kernel_rfl) (by kernel_rfl) 52 [.string a.name,.int .i64 a.kind,.int .u32 (a.f:Int),.int .i64 a.i,.string a.s,.int .i64 a.t.type,.slice A1 a.t.dims.length k1,.slice A2 a.t.f.length k2,.slice A3 a.t.i.length k3,.slice A4 a.t.b.length k4,.slice A5 a.floats.length k5,.slice A6 a.ints.length k6] HY.out.rest (of_decide_eq_true (by kernel_rfl)) ?_;have hZ:=HY.out.setR (List.set [.string a.name,.int .i64 a.kind,.int .u32 (a.f:Int),.int .i64 a.i,.string a.s,.int .i64 a.t.type,.slice A1 a.t.dims.length k1,.slice A2 a.t.f.length k2,.slice A3 a.t.i.length k3,.slice A4 a.t.b.length k4,.slice A5 a.floats.length k5,.slice A6 a.ints.length k6] 4 (.string ⟨#[]⟩));have hT:=Rep.keep HTR.out (old_row (n:=B) (g:=q) (by have:=HY.out.ge;omega) (List.set [.string a.name,.int .i64 a.kind,.int .u32 (a.f:Int),.int .i64 a.i,.string a.s,.int .i64 a.t.type,.slice A1 a.t.dims.length k1,.slice A2 a.t.f.length k2,.slice A3 a.t.i.length k3,.slice A4 a.t.b.length k4,.slice A5 a.floats.length k5,.slice A6 a.ints.length k6] 4 (.string ⟨#[]⟩)).toArray);generalize World.setRow _ _ _ = w4 at hZ hT ⊢;have HZ:=Lib.hid (And.intro hZ hT);clear hZ hT;refine halt ?_)
    unfold Halt
    go_wp2
    go_meet
    exact ⟨_,a.f,a.i,⟨#[]⟩,a.t,[.int .i64 a.t.type,.slice A1 a.t.dims.length k1,.slice A2 a.t.f.length k2,.slice A3 a.t.i.length k3,.slice A4 a.t.b.length k4],A5,a.floats.length,k5,A6,a.ints.length,k6,b,rfl,by rw [HA.out.2];exact HZ.out.1,HZ.out.2,by rw [HA.out.1],by omega,by omega⟩
   by_cases e4:a.kind = 4
   ·have hwa:wrongA a = (decide ((sizeD a.t.dims).2 = 1) || wrongT a.t || restB a.f a.i a.s zeroTD (a.floats.length + a.ints.length)):=by unfold wrongA;rw [if_neg e1,if_neg e2,if_neg e3,if_pos e4]
    have hma:(m || manyA a) = (m2 || decide ((sizeD a.t.dims).2 = 8)):=by rw [← HM2.out,← HM1.out];unfold manyA;rw [e4];simp [Bool.or_assoc]
    have t1:(a.kind == 1) = false:=by rw [e4];rfl
    have t2:(a.kind == 2) = false:=by rw [e4];rfl
    have t3:(a.kind == 3) = false:=by rw [e4];rfl
    have t4:(a.kind == 4) = true:=by rw [e4];rfl
    have HA:=Lib.hid (And.intro hwa hma)
    clear hwa hma e4
    have HAT:=Lib.hid (show At w3 w.heap.size 5 [.int .i64 a.t.type,.slice A1 a.t.dims.length k1,.slice A2 a.t.f.length k2,.slice A3 a.t.i.length k3,.slice A4 a.t.b.length k4] from At.part (xs:=[.string a.name,.int .i64 a.kind,.int .u32 (a.f:Int),.int .i64 a.i,.string a.s]) (ys:=[.slice A5 a.floats.length k5,.slice A6 a.ints.length k6]) (At.of_row HY.out.att))
    go_wp2_with (with_reducible refine wpList_load_agg rfl 43 _ rfl _ w.heap.size 5 rfl [.int .i64 a.t.type,.slice A1 a.t.dims.length k1,.slice A2 a.t.f.length k2,.slice A3 a.t.i.length k3,.slice A4 a.t.b.length k4] Tryd.underlying43 rfl (by kernel_rfl) HAT.out ?_)
    refine (tensor_w _ a.t g B b m2 w3 hB HTR.out HY.out.wr).mono ?_
    rintro e w4 ⟨rfl,hw4,hg4⟩
    have HY4:=Lib.hid (HY.out.to hg4 hw4)
    clear hw4 hg4
    go_wp2_with (first
     |(with_reducible refine wpList_build0 rfl 43 rfl zeroTn (run_lay _ rfl (tn_lay _)) ?_)
     |(with_reducible refine wpList_store_agg rfl 43 _ _ rfl q 5 zeroTn rfl rfl 52 [.string a.name,.int .i64 a.kind,.int .u32 (a.f:Int),.int .i64 a.i,.string a.s,.int .i64 a.t.type,.slice A1 a.t.dims.length k1,.slice A2 a.t.f.length k2,.slice A3 a.t.i.length k3,.slice A4 a.t.b.length k4,.slice A5 a.floats.length k5,.slice A6 a.ints.length k6] HY4.out.rest (by kernel_rfl) (of_decide_eq_true (by kernel_rfl)) zeroTn_one ?_;have hZ:=HY4.out.setR (List.take 5 [.string a.name,.int .i64 a.kind,.int .u32 (a.f:Int),.int .i64 a.i,.string a.s,.int .i64 a.t.type,.slice A1 a.t.dims.length k1,.slice A2 a.t.f.length k2,.slice A3 a.t.i.length k3,.slice A4 a.t.b.length k4,.slice A5 a.floats.length k5,.slice A6 a.ints.length k6]++zeroTn++List.drop (5 + zeroTn.length) [.string a.name,.int .i64 a.kind,.int .u32 (a.f:Int),.int .i64 a.i,.string a.s,.int .i64 a.t.type,.slice A1 a.t.dims.length k1,.slice A2 a.t.f.length k2,.slice A3 a.t.i.length k3,.slice A4 a.t.b.length k4,.slice A5 a.floats.length k5,.slice A6 a.ints.length k6]);generalize World.setRow _ _ _ = w5 at hZ ⊢;have HZ:=Lib.hid hZ;clear hZ;refine halt ?_))
    unfold Halt
    go_wp2
    go_meet
    exact ⟨_,a.f,a.i,a.s,zeroTD,zeroTn,A5,a.floats.length,k5,A6,a.ints.length,k6,_,rfl,by rw [HA.out.2];exact HZ.out,shut_TensorD (a:=zeroTD) I64_0 (rep_nil _ _) (rep_nil _ _) (rep_nil _ _) (rep_nil _ _),by rw [HA.out.1];simp [Bool.or_assoc],by omega,by omega⟩
   by_cases e6:a.kind = 6
   ·have hwa:wrongA a = restB a.f a.i a.s a.t (0 + a.ints.length):=by unfold wrongA;rw [if_neg e1,if_neg e2,if_neg e3,if_neg e4,if_pos e6]
    have hma:(m || manyA a) = m2:=by rw [← HM2.out,← HM1.out];unfold manyA;rw [e6];simp [Bool.or_assoc]
    have t1:(a.kind == 1) = false:=by rw [e6];rfl
    have t2:(a.kind == 2) = false:=by rw [e6];rfl
    have t3:(a.kind == 3) = false:=by rw [e6];rfl
    have t4:(a.kind == 4) = false:=by rw [e6];rfl
    have t6:(a.kind == 6) = true:=by rw [e6];rfl
    have HA:=Lib.hid (And.intro hwa hma)
    clear hwa hma e6
    go_wp2_with (with_reducible refine wpList_store_field rfl 39 _ _ rfl q 10 (.slice none 0 0) rfl rfl (by kernel_rfl) (by kernel_rfl) 52 [.string a.name,.int .i64 a.kind,.int .u32 (a.f:Int),.int .i64 a.i,.string a.s,.int .i64 a.t.type,.slice A1 a.t.dims.length k1,.slice A2 a.t.f.length k2,.slice A3 a.t.i.length k3,.slice A4 a.t.b.length k4,.slice A5 a.floats.length k5,.slice A6 a.ints.length k6] HY.out.rest (of_decide_eq_true (by kernel_rfl)) ?_;have hZ:=HY.out.setR (List.set [.string a.name,.int .i64 a.kind,.int .u32 (a.f:Int),.int .i64 a.i,.string a.s,.int .i64 a.t.type,.slice A1 a.t.dims.length k1,.slice A2 a.t.f.length k2,.slice A3 a.t.i.length k3,.slice A4 a.t.b.length k4,.slice A5 a.floats.length k5,.slice A6 a.ints.length k6] 10 (.slice none 0 0));have hT:=Rep.keep HTR.out (old_row (n:=B) (g:=q) (by have:=HY.out.ge;omega) (List.set [.string a.name,.int .i64 a.kind,.int .u32 (a.f:Int),.int .i64 a.i,.string a.s,.int .i64 a.t.type,.slice A1 a.t.dims.length k1,.slice A2 a.t.f.length k2,.slice A3 a.t.i.length k3,.slice A4 a.t.b.length k4,.slice A5 a.floats.length k5,.slice A6 a.ints.length k6] 10 (.slice none 0 0)).toArray);generalize World.setRow _ _ _ = w4 at hZ hT ⊢;have HZ:=Lib.hid (And.intro hZ hT);clear hZ hT;refine halt ?_)
    unfold Halt
    go_wp2
    go_meet
    exact ⟨_,a.f,a.i,a.s,a.t,[.int .i64 a.t.type,.slice A1 a.t.dims.length k1,.slice A2 a.t.f.length k2,.slice A3 a.t.i.length k3,.slice A4 a.t.b.length k4],none,0,0,A6,a.ints.length,k6,b,rfl,by rw [HA.out.2];exact HZ.out.1,HZ.out.2,by rw [HA.out.1],by omega,by omega⟩
   by_cases e7:a.kind = 7
   ·have hwa:wrongA a = restB a.f a.i a.s a.t (a.floats.length + 0):=by unfold wrongA;rw [if_neg e1,if_neg e2,if_neg e3,if_neg e4,if_neg e6,if_pos e7]
    have hma:(m || manyA a) = m2:=by rw [← HM2.out,← HM1.out];unfold manyA;rw [e7];simp [Bool.or_assoc]
    have t1:(a.kind == 1) = false:=by rw [e7];rfl
    have t2:(a.kind == 2) = false:=by rw [e7];rfl
    have t3:(a.kind == 3) = false:=by rw [e7];rfl
    have t4:(a.kind == 4) = false:=by rw [e7];rfl
    have t6:(a.kind == 6) = false:=by rw [e7];rfl
    have t7:(a.kind == 7) = true:=by rw [e7];rfl
    have HA:=Lib.hid (And.intro hwa hma)
    clear hwa hma e7
    go_wp2_with (with_reducible refine wpList_store_field rfl 40 _ _ rfl q 11 (.slice none 0 0) rfl rfl (by kernel_rfl) (by kernel_rfl) 52 [.string a.name,.int .i64 a.kind,.int .u32 (a.f:Int),.int .i64 a.i,.string a.s,.int .i64 a.t.type,.slice A1 a.t.dims.length k1,.slice A2 a.t.f.length k2,.slice A3 a.t.i.length k3,.slice A4 a.t.b.length k4,.slice A5 a.floats.length k5,.slice A6 a.ints.length k6] HY.out.rest (of_decide_eq_true (by kernel_rfl)) ?_;have hZ:=HY.out.setR (List.set [.string a.name,.int .i64 a.kind,.int .u32 (a.f:Int),.int .i64 a.i,.string a.s,.int .i64 a.t.type,.slice A1 a.t.dims.length k1,.slice A2 a.t.f.length k2,.slice A3 a.t.i.length k3,.slice A4 a.t.b.length k4,.slice A5 a.floats.length k5,.slice A6 a.ints.length k6] 11 (.slice none 0 0));have hT:=Rep.keep HTR.out (old_row (n:=B) (g:=q) (by have:=HY.out.ge;omega) (List.set [.string a.name,.int .i64 a.kind,.int .u32 (a.f:Int),.int .i64 a.i,.string a.s,.int .i64 a.t.type,.slice A1 a.t.dims.length k1,.slice A2 a.t.f.length k2,.slice A3 a.t.i.length k3,.slice A4 a.t.b.length k4,.slice A5 a.floats.length k5,.slice A6 a.ints.length k6] 11 (.slice none 0 0)).toArray);generalize World.setRow _ _ _ = w4 at hZ hT ⊢;have HZ:=Lib.hid (And.intro hZ hT);clear hZ hT;refine halt ?_)
    unfold Halt
    go_wp2
    go_meet
    exact ⟨_,a.f,a.i,a.s,a.t,[.int .i64 a.t.type,.slice A1 a.t.dims.length k1,.slice A2 a.t.f.length k2,.slice A3 a.t.i.length k3,.slice A4 a.t.b.length k4],A5,a.floats.length,k5,none,0,0,b,rfl,by rw [HA.out.2];exact HZ.out.1,HZ.out.2,by rw [HA.out.1],by omega,by omega⟩
   have hwa:wrongA a = true:=by unfold wrongA;rw [if_neg e1,if_neg e2,if_neg e3,if_neg e4,if_neg e6,if_neg e7]
   have hma:(m || manyA a) = m2:=by rw [← HM2.out,← HM1.out];unfold manyA;rw [decide_eq_false e4];simp [Bool.or_assoc]
   have t1:(a.kind == 1) = false:=beq_eq_false_iff_ne.2 e1
   have t2:(a.kind == 2) = false:=beq_eq_false_iff_ne.2 e2
   have t3:(a.kind == 3) = false:=beq_eq_false_iff_ne.2 e3
   have t4:(a.kind == 4) = false:=beq_eq_false_iff_ne.2 e4
   have t6:(a.kind == 6) = false:=beq_eq_false_iff_ne.2 e6
   have t7:(a.kind == 7) = false:=beq_eq_false_iff_ne.2 e7
   have HA:=Lib.hid (And.intro hwa hma)
   clear hwa hma e1 e2 e3 e4 e6 e7
   go_wp2_with (with_reducible refine wpList_store_field rfl 4 _ _ rfl g 0 (.bool true) rfl rfl (by kernel_rfl) (by kernel_rfl) 133 [.bool b,.bool m2] HY.out.wr.at' (of_decide_eq_true (by kernel_rfl)) ?_;have hZ:=HY.out.to (grown_row w3 g (List.set [.bool b,.bool m2] 0 (.bool true)).toArray) (HY.out.wr.setB true);have hT:=Rep.keep HTR.out (old_row (n:=B) (g:=g) hB (List.set [.bool b,.bool m2] 0 (.bool true)).toArray);generalize World.setRow _ _ _ = w4 at hZ hT ⊢;have HZ:=Lib.hid (And.intro hZ hT);clear hZ hT;refine halt ?_)
   unfold Halt
   go_wp2
   go_meet
   exact ⟨_,a.f,a.i,a.s,a.t,[.int .i64 a.t.type,.slice A1 a.t.dims.length k1,.slice A2 a.t.f.length k2,.slice A3 a.t.i.length k3,.slice A4 a.t.b.length k4],A5,a.floats.length,k5,A6,a.ints.length,k6,true,rfl,by rw [HA.out.2];exact HZ.out.1,HZ.out.2,by rw [HA.out.1];simp,by omega,by omega⟩
  case rest =>
   obtain ⟨wd,rf,ri,rs,rt,ts,B5,n5,j5,B6,n6,j6,b5,hwd,hA,hT,hE,hn5,hn6⟩:=hcut
   subst hwd
   obtain ⟨D1,d1,D2,d2,D3,d3,D4,d4,rfl,-⟩:=open_TensorD hT
   obtain ⟨mf,hmf⟩:∃ mf,(m || manyA a) = mf:=⟨_,rfl⟩
   rw [hmf] at hA
   have HZ:=Lib.hid (And.intro hA (And.intro hT (And.intro hE hmf)))
   have HAT:=Lib.hid (show At wd q 5 [.int .i64 rt.type,.slice D1 rt.dims.length d1,.slice D2 rt.f.length d2,.slice D3 rt.i.length d3,.slice D4 rt.b.length d4] from At.part (xs:=[.string a.name,.int .i64 a.kind,.int .u32 (rf:Int),.int .i64 ri,.string rs]) (ys:=[.slice B5 n5 j5,.slice B6 n6 j6]) (At.of_row hA.rest))
   have c2:wd.cell? ⟨q,2,none⟩ = some (.int .u32 (rf:Int)):=cell_of_row _ _ _ _ _ _ hA.rest
   have c3:wd.cell? ⟨q,3,none⟩ = some (.int .i64 ri):=cell_of_row _ _ _ _ _ _ hA.rest
   have c4:wd.cell? ⟨q,4,none⟩ = some (.string rs):=cell_of_row _ _ _ _ _ _ hA.rest
   have cB:=hA.wr.cells.1
   clear hA hT hE hmf e1
   cases b5 with
   | true =>
    go_wp2_with (with_reducible refine wpList_store_field rfl 4 _ _ rfl g 0 (.bool true) rfl rfl (by kernel_rfl) (by kernel_rfl) 133 [.bool true,.bool mf] HZ.out.1.wr.at' (of_decide_eq_true (by kernel_rfl)) ?_;have hK:=HZ.out.1.out true;generalize World.setRow _ _ _ = wz at hK ⊢;have HK:=Lib.hid hK;clear hK;refine halt ?_)
    unfold Halt
    go_wp2
    refine bodyPost_end (v:=.tuple #[]) (by simp [results,Tryd.results113,go_sem]) rfl ⟨rfl,?_,HK.out.2⟩
    have hv:(b || wrongA a) = true:=by
     rw [HZ.out.2.2.1]
     simp
    rw [hv,HZ.out.2.2.2]
    exact HK.out.1
   | false =>
    by_cases hf:rf = 0
    ·subst hf
     by_cases hi:ri = 0
     ·subst hi
      by_cases hs:rs = ⟨#[]⟩
      ·subst hs
       go_wp2_with (with_reducible refine wpList_load_agg_w (by kernel_rfl) 43 _ rfl _ q 5 rfl [.int .i64 rt.type,.slice D1 rt.dims.length d1,.slice D2 rt.f.length d2,.slice D3 rt.i.length d3,.slice D4 rt.b.length d4] Tryd.underlying43 rfl (by kernel_rfl) HAT.out ?_)
       refine (none_any _ rt wd (Rep.more HZ.out.2.1 (old_le (by have:=HZ.out.1.grown.size;omega)))).mono ?_
       obtain ⟨nt,hnt⟩:∃ nt,noneT rt = nt:=⟨_,rfl⟩
       rw [hnt]
       rintro e w9 ⟨rfl,hb9⟩
       have H9:=Lib.hid (HZ.out.1.next hb9)
       have HNT:=Lib.hid hnt
       clear hb9 hnt c2 c3 c4 cB
       cases nt with
       | true =>
        have c10:w9.cell? ⟨q,10,none⟩ = some (.slice B5 n5 j5):=cell_of_row _ _ _ _ _ _ H9.out.rest
        have c11:w9.cell? ⟨q,11,none⟩ = some (.slice B6 n6 j6):=cell_of_row _ _ _ _ _ _ H9.out.rest
        have z5:(n5:Int) ≤ 140737488351232:=by omega
        have z6:(n6:Int) ≤ 140737488351232:=by omega
        go_wp2_with (with_reducible refine wpList_store_field rfl 4 _ _ rfl g 0 (.bool (decide ((0:Int) < (n5:Int) + (n6:Int)))) rfl rfl (by kernel_rfl) (by kernel_rfl) 133 [.bool false,.bool mf] H9.out.wr.at' (of_decide_eq_true (by kernel_rfl)) ?_;have hK:=H9.out.out (decide ((0:Int) < (n5:Int) + (n6:Int)));generalize World.setRow _ _ _ = wz at hK ⊢;have HK:=Lib.hid hK;clear hK;refine halt ?_)
        unfold Halt
        go_wp2
        refine bodyPost_end (v:=.tuple #[]) (by simp [results,Tryd.results113,go_sem]) rfl ⟨rfl,?_,HK.out.2⟩
        have hv:(b || wrongA a) = (decide ((0:Int) < (n5:Int) + (n6:Int))):=by
         rw [HZ.out.2.2.1]
         unfold restB;rw [HNT.out,Bool.eq_iff_iff];simp;omega
        rw [hv,HZ.out.2.2.2]
        exact HK.out.1
       | false =>
        go_wp2_with (with_reducible refine wpList_store_field rfl 4 _ _ rfl g 0 (.bool true) rfl rfl (by kernel_rfl) (by kernel_rfl) 133 [.bool false,.bool mf] H9.out.wr.at' (of_decide_eq_true (by kernel_rfl)) ?_;have hK:=H9.out.out true;generalize World.setRow _ _ _ = wz at hK ⊢;have HK:=Lib.hid hK;clear hK;refine halt ?_)
        unfold Halt
        go_wp2
        refine bodyPost_end (v:=.tuple #[]) (by simp [results,Tryd.results113,go_sem]) rfl ⟨rfl,?_,HK.out.2⟩
        have hv:(b || wrongA a) = true:=by
         rw [HZ.out.2.2.1]
         unfold restB;simp [HNT.out]
        rw [hv,HZ.out.2.2.2]
        exact HK.out.1
      ·have fs:(rs.toList == ([]:List UInt8)) = false:=by rw [beq_lit];exact decide_eq_false hs
       have HS:=Lib.hid hs
       clear hs
       go_wp2_with (with_reducible refine wpList_store_field rfl 4 _ _ rfl g 0 (.bool true) rfl rfl (by kernel_rfl) (by kernel_rfl) 133 [.bool false,.bool mf] HZ.out.1.wr.at' (of_decide_eq_true (by kernel_rfl)) ?_;have hK:=HZ.out.1.out true;generalize World.setRow _ _ _ = wz at hK ⊢;have HK:=Lib.hid hK;clear hK;refine halt ?_)
       unfold Halt
       go_wp2
       refine bodyPost_end (v:=.tuple #[]) (by simp [results,Tryd.results113,go_sem]) rfl ⟨rfl,?_,HK.out.2⟩
       have hv:(b || wrongA a) = true:=by
        rw [HZ.out.2.2.1]
        unfold restB;simp [HS.out]
       rw [hv,HZ.out.2.2.2]
       exact HK.out.1
     ·have fi:(ri != 0) = true:=bne_iff_ne.2 hi
      have HS:=Lib.hid hi
      clear hi
      go_wp2_with (with_reducible refine wpList_store_field rfl 4 _ _ rfl g 0 (.bool true) rfl rfl (by kernel_rfl) (by kernel_rfl) 133 [.bool false,.bool mf] HZ.out.1.wr.at' (of_decide_eq_true (by kernel_rfl)) ?_;have hK:=HZ.out.1.out true;generalize World.setRow _ _ _ = wz at hK ⊢;have HK:=Lib.hid hK;clear hK;refine halt ?_)
      unfold Halt
      go_wp2
      refine bodyPost_end (v:=.tuple #[]) (by simp [results,Tryd.results113,go_sem]) rfl ⟨rfl,?_,HK.out.2⟩
      have hv:(b || wrongA a) = true:=by
       rw [HZ.out.2.2.1]
       unfold restB;simp [HS.out]
      rw [hv,HZ.out.2.2.2]
      exact HK.out.1
    ·have ff:((rf:Int) != 0) = true:=bne_iff_ne.2 (by omega)
     have HS:=Lib.hid hf
     clear hf
     go_wp2_with (with_reducible refine wpList_store_field rfl 4 _ _ rfl g 0 (.bool true) rfl rfl (by kernel_rfl) (by kernel_rfl) 133 [.bool false,.bool mf] HZ.out.1.wr.at' (of_decide_eq_true (by kernel_rfl)) ?_;have hK:=HZ.out.1.out true;generalize World.setRow _ _ _ = wz at hK ⊢;have HK:=Lib.hid hK;clear hK;refine halt ?_)
     unfold Halt
     go_wp2
     refine bodyPost_end (v:=.tuple #[]) (by simp [results,Tryd.results113,go_sem]) rfl ⟨rfl,?_,HK.out.2⟩
     have hv:(b || wrongA a) = true:=by
      rw [HZ.out.2.2.1]
      unfold restB;simp [HS.out]
     rw [hv,HZ.out.2.2.2]
     exact HK.out.1
end Go.Proofs.YtgbkhcmbmffljaaDoor
set_option linter.unusedSimpArgs false
set_option linter.unusedVariables false
namespace Go.Proofs.YtgbkhcmbmffljaaDoor
open Go.RowKit
open Rep (rep)
def wrongN (n:NodeD):Bool:=decide (n.op = ⟨#[]⟩) || n.attrs.any wrongA
def manyN (n:NodeD):Bool:=longS n.op || longS n.name || n.ins.any longS || n.outs.any longS || decide (64 < max (max n.ins.length n.outs.length) n.attrs.length) || n.attrs.any manyA
structure BoxW (w:World) (g:Nat) (t:TypeId) (cs:List Value) (b m:Bool) (W:World):Prop where
 grown:w.grownBy W (some g)
 row:W.heap[w.heap.size]? = some (.cells cs.toArray t (0,0))
 wr:Wr W g b m
 gl:g < w.heap.size
section
variable {w W W':World} {g:Nat} {t:TypeId} {cs:List Value} {b m:Bool}
theorem BoxW.lt (h:BoxW w g t cs b m W):w.heap.size < W.heap.size:=(Array.getElem?_eq_some_iff.1 h.row).1
theorem BoxW.next (h:BoxW w g t cs b m W) (hb:Below W.heap.size W W'):BoxW w g t cs b m W':=⟨grown_below h.grown hb,(hb.block _ h.lt).trans h.row,h.wr.next hb,h.gl⟩
theorem BoxW.to (h:BoxW w g t cs b m W) {b2 m2:Bool} (hg:W.grownBy W' (some g)) (hw:Wr W' g b2 m2):BoxW w g t cs b2 m2 W':=by
 have h2:=h.gl
 exact ⟨grown_trans h.grown hg,(hg.block _ h.lt (fun e=>by injection e with e;omega)).trans h.row,hw,h2⟩
theorem BoxW.call (h:BoxW w g t cs b m W) {b2 m2:Bool} {e:Ending} (hc:WrTo W g b2 m2 e W'):e = .returned (.tuple #[])∧BoxW w g t cs b2 m2 W':=⟨hc.1,h.to hc.2.2 hc.2.1⟩
theorem BoxW.keep (h:BoxW w g t cs b m W) {B:Nat} (hB:B ≤ g) {α:Type} [Rep α] {c:List Value} {a:α} (hr:rep w (old B) c a):rep W (old B) c a:=Rep.keep hr (keep_grown h.grown hB (by have:=h.gl;omega))
theorem BoxW.M (h:BoxW w g t cs b m W) (x:Bool):BoxW w g t cs b x (W.setCell ⟨g,1,none⟩ (.bool x)):=h.to (h.wr.cellM x).2 (h.wr.cellM x).1
theorem BoxW.B (h:BoxW w g t cs b m W) (x:Bool):BoxW w g t cs x m (W.setCell ⟨g,0,none⟩ (.bool x)):=h.to (h.wr.cellB x).2 (h.wr.cellB x).1
end
theorem boxW_start {w:World} {g:Nat} (t:TypeId) (cs:List Value) {b m:Bool} (hw:Wr w g b m):BoxW w g t cs b m (w.alloc (.cells cs.toArray t)) :=
 ⟨grown_of_below ((Below.refl _ _).alloc (Nat.le_refl _) _),heap_alloc_new _ _,hw.next ((Below.refl _ _).alloc (Nat.le_refl _) _),hw.lt⟩
theorem rep_two {w:World} {Z:Zone} {g:Nat} {t:TypeId} {x y:ByteArray} (hg:w.heap[g]? = some (.cells #[.string x,.string y] t (0,0))) (hx:x.size ≤ reach) (hy:y.size ≤ reach) (hZ:Z.blk g):rep w Z [.slice (some ⟨g,0,none⟩) 2 2] [x,y] :=
 ⟨_,2,2,[.string x,.string y],rfl,rfl,Nat.le_refl _,by unfold maxLen;omega,by simp [Rep.bytes,reach],fun _=>⟨g,0,rfl,hZ,fun j u hu=>⟨by rw [cell_of_row _ _ _ _ _ _ hg];simpa using hu,fun _=>by simp [World.frozen?,hg]⟩⟩,
  ⟨[.string x],[.string y],rfl,⟨rfl,hx⟩,⟨[.string y],[],rfl,⟨rfl,hy⟩,rfl⟩⟩⟩
set_option maxRecDepth 100000 in
set_option maxHeartbeats 8000000 in
theorem node_w (cs:List Value) (n:NodeD) (g B:Nat) (b m:Bool) (w:World) (hB:B ≤ g) (hr:rep w (old B) cs n) (hw:Wr w g b m) :
  Calls Tryd.prog 83 #[.pointer (some ⟨g,0,none⟩),.agg cs.toArray] w (WrTo w g (b || wrongN n) (m || manyN n)):=by
 obtain ⟨A1,k1,A2,k2,A3,k3,rfl,h0,h1,hi,ho,ha⟩:=open_NodeD hr
 have hgs:=hw.lt
 obtain ⟨ni,ni'⟩:=slice_bnd hi
 obtain ⟨no,no'⟩:=slice_bnd ho
 obtain ⟨na,na'⟩:=slice_bnd ha
 have HW:=Lib.hid (And.intro hw (And.intro h0 (And.intro h1 (And.intro hi (And.intro ho ha)))))
 clear hr hw h0 h1 hi ho ha
 go_enter Tryd.func83,Tryd.ntmps83
 go_wp2_with (with_reducible refine wpList_box_row rfl 36 _ rfl [.string n.op,.string n.name,.slice A1 n.ins.length k1,.slice A2 n.outs.length k2,.slice A3 n.attrs.length k3] rfl ?_;have hX:=boxW_start 36 [.string n.op,.string n.name,.slice A1 n.ins.length k1,.slice A2 n.outs.length k2,.slice A3 n.attrs.length k3] HW.out.1;generalize World.alloc _ _ = W0 at hX ⊢;have HX:=Lib.hid hX;clear hX;refine halt ?_)
 unfold Halt
 have c0:W0.cell? ⟨w.heap.size,0,none⟩ = some (.string n.op):=cell_of_row _ _ _ _ _ _ HX.out.row
 have c1:W0.cell? ⟨w.heap.size,1,none⟩ = some (.string n.name):=cell_of_row _ _ _ _ _ _ HX.out.row
 go_wp2_with fail
 have hN:rep (W0.alloc (.cells #[.string n.op,.string n.name] 9)) (fresh W0.heap.size (W0.heap.size + 1)) [.slice (some ⟨W0.heap.size,0,none⟩) 2 2] [n.op,n.name] :=
  rep_two (heap_alloc_new W0 _) HW.out.2.1 HW.out.2.2.1 ⟨Nat.le_refl _,Nat.lt_succ_self _⟩
 have hX1:=HX.out.next ((Below.refl _ _).alloc (Nat.le_refl _) (.cells #[.string n.op,.string n.name] 9))
 refine (name_w [n.op,n.name] _ g (fresh W0.heap.size (W0.heap.size + 1)) b m _ (fun h=>by have:=h.1;have:=HX.out.lt;omega) (fun k hk=>by rw [World.size_alloc];exact hk.2) hN hX1.wr).mono ?_
 generalize World.alloc _ _ = W1 at hX1 ⊢
 intro e w1 hc
 obtain ⟨rfl,h1⟩:=hX1.call hc
 have H1:=Lib.hid h1
 clear hN hX1 hc h1 c0 c1 HX
 have c2:w1.cell? ⟨w.heap.size,2,none⟩ = some (.slice A1 n.ins.length k1):=cell_of_row _ _ _ _ _ _ H1.out.row
 go_wp2_with fail
 refine (name_w n.ins _ g (old B) b _ _ (fun h=>by have:g < B:=h;omega) (fun k hk=>by have:k < B:=hk;have:=H1.out.lt;omega) (H1.out.keep hB HW.out.2.2.2.1) H1.out.wr).mono ?_
 intro e w2 hc
 obtain ⟨rfl,h2⟩:=H1.out.call hc
 have H2:=Lib.hid h2
 clear hc h2 c2 H1
 have c3:w2.cell? ⟨w.heap.size,3,none⟩ = some (.slice A2 n.outs.length k2):=cell_of_row _ _ _ _ _ _ H2.out.row
 go_wp2_with fail
 refine (name_w n.outs _ g (old B) b _ _ (fun h=>by have:g < B:=h;omega) (fun k hk=>by have:k < B:=hk;have:=H2.out.lt;omega) (H2.out.keep hB HW.out.2.2.2.2.1) H2.out.wr).mono ?_
 intro e w3 hc
 obtain ⟨rfl,h3⟩:=H2.out.call hc
 obtain ⟨m3,hm3⟩:∃ m3,(m || [n.op,n.name].any longS || n.ins.any longS || n.outs.any longS) = m3:=⟨_,rfl⟩
 rw [hm3] at h3
 have H3:=Lib.hid h3
 have HM3:=Lib.hid hm3
 clear hc h3 c3 H2 hm3
 have c0:w3.cell? ⟨w.heap.size,0,none⟩ = some (.string n.op):=cell_of_row _ _ _ _ _ _ H3.out.row
 have cB:=H3.out.wr.cells.1
 have fB:=H3.out.wr.free 0
 have HK:Hid (∀ x:Bool,x = (b || decide (n.op = ⟨#[]⟩))→BoxW w g 36 [.string n.op,.string n.name,.slice A1 n.ins.length k1,.slice A2 n.outs.length k2,.slice A3 n.attrs.length k3] (b || decide (n.op = ⟨#[]⟩)) m3 (w3.setCell ⟨g,0,none⟩ (.bool x))):=Lib.hid fun x hx=>hx ▸ H3.out.B x
 go_upto_region 4 with (fail)
 go_cut [] from 21 to 32 (fun wy=>∃ wc,wc = wy∧BoxW w g 36 [.string n.op,.string n.name,.slice A1 n.ins.length k1,.slice A2 n.outs.length k2,.slice A3 n.attrs.length k3] (b || decide (n.op = ⟨#[]⟩)) m3 wy)
 case first =>
  cases b with
  | true =>
   go_wp2
   go_meet
   exact ⟨_,rfl,HK.out true (by simp)⟩
  | false =>
   go_wp2
   all_goals go_meet
   all_goals exact ⟨_,rfl,HK.out _ (by rw [Bool.false_or,show n.op.toList.isEmpty = (n.op.toList == ([]:List UInt8)) from (by cases n.op.toList <;> rfl),beq_lit])⟩
 case rest =>
  obtain ⟨w4,hwc,h4⟩:=hcut
  subst hwc
  obtain ⟨b4,hb4⟩:∃ b4,(b || decide (n.op = ⟨#[]⟩)) = b4:=⟨_,rfl⟩
  rw [hb4] at h4
  have H4:=Lib.hid h4
  have HB4:=Lib.hid hb4
  clear h4 hb4 HK H3 c0 cB fB
  have c2:w4.cell? ⟨w.heap.size,2,none⟩ = some (.slice A1 n.ins.length k1):=cell_of_row _ _ _ _ _ _ H4.out.row
  have c3:w4.cell? ⟨w.heap.size,3,none⟩ = some (.slice A2 n.outs.length k2):=cell_of_row _ _ _ _ _ _ H4.out.row
  have c4:w4.cell? ⟨w.heap.size,4,none⟩ = some (.slice A3 n.attrs.length k3):=cell_of_row _ _ _ _ _ _ H4.out.row
  have cM:=H4.out.wr.cells.2
  have fM:=H4.out.wr.free 1
  have HK:Hid (∀ x:Bool,x = (m3 || decide (64 < max (max n.ins.length n.outs.length) n.attrs.length))→BoxW w g 36 [.string n.op,.string n.name,.slice A1 n.ins.length k1,.slice A2 n.outs.length k2,.slice A3 n.attrs.length k3] b4 (m3 || decide (64 < max (max n.ins.length n.outs.length) n.attrs.length)) (w4.setCell ⟨g,1,none⟩ (.bool x))):=Lib.hid fun x hx=>hx ▸ H4.out.M x
  go_upto_region 5 with (fail)
  go_cut [] from 33 to 52 (fun wy=>∃ wc,wc = wy∧BoxW w g 36 [.string n.op,.string n.name,.slice A1 n.ins.length k1,.slice A2 n.outs.length k2,.slice A3 n.attrs.length k3] b4 (m3 || decide (64 < max (max n.ins.length n.outs.length) n.attrs.length)) wy)
  case first =>
   cases m3 with
   | true =>
    go_wp2
    go_meet
    exact ⟨_,rfl,HK.out true (by simp)⟩
   | false =>
    go_wp2
    all_goals go_meet
    all_goals (refine ⟨_,rfl,HK.out _ ?_⟩;rw [Bool.false_or,decide_eq_decide];omega)
  case rest =>
   obtain ⟨w5,hwc,h5⟩:=hcut
   subst hwc
   obtain ⟨m5,hm5⟩:∃ m5,(m3 || decide (64 < max (max n.ins.length n.outs.length) n.attrs.length)) = m5:=⟨_,rfl⟩
   rw [hm5] at h5
   have H5:=Lib.hid h5
   have HM5:=Lib.hid hm5
   clear h5 hm5 HK H4 c2 c3 c4 cM fM
   have c4:w5.cell? ⟨w.heap.size,4,none⟩ = some (.slice A3 n.attrs.length k3):=cell_of_row _ _ _ _ _ _ H5.out.row
   obtain ⟨A',c',xs,hv,hnc,hcm,-,hl,hch⟩:=open_slice HW.out.2.2.2.2.2
   simp only [Value.slice.injEq,true_and] at hv
   obtain ⟨rfl,rfl⟩:=hv
   have HL:=Lib.hid (And.intro hl hch)
   clear hl hch
   go_wp2_with fail
   clear c4
   go_loopw [56] (fun i wr=>∃ (pre post:List AttrD) (b' m':Bool),n.attrs = pre++post∧i = .int .i64 pre.length∧b' = (b4 || pre.any wrongA)∧m' = (m5 || pre.any manyA)∧BoxW w g 36 [.string n.op,.string n.name,.slice A1 n.ins.length k1,.slice A2 n.outs.length k2,.slice A3 n.attrs.length k3] b' m' wr) (fun i _=>n.attrs.length - (intOf i).toNat)
   case atStart=>exact ⟨[],n.attrs,b4,m5,rfl,rfl,by simp,by simp,H5.out⟩
   case round =>
    obtain ⟨pre,post,b',m',hpp,rfl,hb',hm',hbx⟩:=hrel
    have HBx:=Lib.hid hbx
    have HE:=Lib.hid (And.intro hb' hm')
    clear hbx hb' hm'
    cases post with
    | cons z post =>
     obtain ⟨hz,hlt,hpp',hpl⟩:=split_at hpp
     obtain ⟨b1,o,acs,rfl,hbB,hrz,hcell⟩:=elem_at HL.out.1 HL.out.2 (by decide) hz
     have hal:acs.length = 12:=Rep.len hrz
     have hat:At wr b1 (o + pre.length * 12) acs:=fun j u hu=>by
      have h1:=(hcell j u hu).1
      rw [← Nat.add_assoc] at h1
      exact (keep_grown HBx.out.grown hB (by omega) ⟨b1,o + pre.length * 12 + j,none⟩ hbB).1.trans h1
     have hk0:(0:Int) ≤ (pre.length:Int):=Int.natCast_nonneg _
     have hk1:(pre.length:Int) < (n.attrs.length:Int):=by omega
     have HA:=Lib.hid (And.intro hal (And.intro hat (And.intro (Rep.one hrz) hrz)))
     have HP:=Lib.hid (And.intro hpp' hpl)
     clear hpp hpp' hpl hz hcell hrz hal hat hbB
     go_wp2_with (first
      |(with_reducible refine wpList_load_agg rfl 52 _ rfl _ _ _ rfl acs Tryd.underlying52 rfl (by rw [HA.out.1];kernel_rfl) HA.out.2.1 ?_)
      |(with_reducible refine wpList_alloc_row rfl 52 rfl zeroA zeroA_zero ?_)
      |(with_reducible refine wpList_store_agg rfl 52 _ _ rfl _ 0 acs rfl rfl 52 zeroA (heap_alloc_new _ _) (by rw [HA.out.1];kernel_rfl) (by rw [HA.out.1];decide) HA.out.2.2.1 ?_;have hY:=laid_attr wr acs HA.out.1;generalize World.setRow _ _ _ = v2 at hY ⊢;have HY:=Lib.hid hY;clear hY;refine halt ?_))
     unfold Halt
     have HBy:=Lib.hid (HBx.out.next HY.out.1)
     go_wp2_with (first
      |(with_reducible refine wpList_load_agg rfl 52 _ rfl _ _ _ rfl acs Tryd.underlying52 rfl (by rw [HA.out.1];kernel_rfl) (At.of_row HY.out.2) ?_))
     refine (attr_w acs z g B b' m' v2 hB (HBy.out.keep hB HA.out.2.2.2) HBy.out.wr).mono ?_
     intro e v3 hc
     obtain ⟨rfl,h3⟩:=HBy.out.call hc
     have HBz:=Lib.hid h3
     clear hc h3
     go_wp2
     go_roundw
     case rel=>exact ⟨pre++[z],post,_,_,HP.out.1,by rw [HP.out.2];go_num,by rw [HE.out.1,List.any_append];simp [Bool.or_assoc],by rw [HE.out.2,List.any_append];simp [Bool.or_assoc],HBz.out⟩
     case measure=>simp [intOf];omega
    | nil =>
     obtain ⟨hge,hpl⟩:=split_end hpp
     have HP:=Lib.hid hpl
     have hlen:pre.length = n.attrs.length:=by rw [hpl]
     clear hpp hpl
     go_wp2
     refine bodyPost_end (v:=.tuple #[]) (by simp [results,Tryd.results83,go_sem]) rfl ⟨rfl,?_,HBx.out.grown⟩
     have e1:(b || wrongN n) = b':=by rw [HE.out.1,← HB4.out,HP.out];unfold wrongN;simp [Bool.or_assoc]
     have e2:(m || manyN n) = m':=by rw [HE.out.2,← HM5.out,← HM3.out,HP.out];unfold manyN;simp [Bool.or_assoc]
     rw [e1,e2]
     exact HBx.out.wr
def wrongV (v:ValueD):Bool:=decide ((sizeD v.dims).2 = 1) || !knownD v.type
def manyV (v:ValueD):Bool:=longS v.name || decide ((sizeD v.dims).2 = 8)
def zeroVa:List Value:=[.string ⟨#[]⟩,.int .i64 0,.slice none 0 0]
theorem zeroVa_zero:(Tryd.prog.info? 104).bind (·.zero) = some (.agg zeroVa.toArray):=by kernel_rfl
structure Wri (w:World) (g:Nat) (b m:Bool) (W:World):Prop where
 grown:w.grownBy W (some g)
 wr:Wr W g b m
 gl:g < w.heap.size
section
variable {w W W':World} {g:Nat} {b m:Bool}
theorem Wri.next (h:Wri w g b m W) (hb:Below W.heap.size W W'):Wri w g b m W':=⟨grown_below h.grown hb,h.wr.next hb,h.gl⟩
theorem Wri.to (h:Wri w g b m W) {b2 m2:Bool} (hg:W.grownBy W' (some g)) (hw:Wr W' g b2 m2):Wri w g b2 m2 W':=⟨grown_trans h.grown hg,hw,h.gl⟩
theorem Wri.call (h:Wri w g b m W) {b2 m2:Bool} {e:Ending} (hc:WrTo W g b2 m2 e W'):e = .returned (.tuple #[])∧Wri w g b2 m2 W':=⟨hc.1,h.to hc.2.2 hc.2.1⟩
theorem Wri.keep (h:Wri w g b m W) {B:Nat} (hB:B ≤ g) {α:Type} [Rep α] {c:List Value} {a:α} (hr:rep w (old B) c a):rep W (old B) c a:=Rep.keep hr (keep_grown h.grown hB (by have:=h.gl;omega))
theorem Wri.M (h:Wri w g b m W) (x:Bool):Wri w g b x (W.setCell ⟨g,1,none⟩ (.bool x)):=h.to (h.wr.cellM x).2 (h.wr.cellM x).1
theorem Wri.B (h:Wri w g b m W) (x:Bool):Wri w g x m (W.setCell ⟨g,0,none⟩ (.bool x)):=h.to (h.wr.cellB x).2 (h.wr.cellB x).1
end
theorem row_grown {W W':World} {g q:Nat} {t:TypeId} {cs:List Value} (h:W.heap[q]? = some (.cells cs.toArray t (0,0))) (hg:W.grownBy W' (some g)) (hq:q ≠ g):W'.heap[q]? = some (.cells cs.toArray t (0,0)) :=
 (hg.block _ (Array.getElem?_eq_some_iff.1 h).1 (fun e=>by injection e with e;omega)).trans h
set_option maxRecDepth 100000 in
set_option maxHeartbeats 8000000 in
theorem values_w (l:List ValueD) (v:Value) (g B:Nat) (b m:Bool) (w:World) (hB:B ≤ g) (hr:rep w (old B) [v] l) (hw:Wr w g b m) :
  Calls Tryd.prog 85 #[.pointer (some ⟨g,0,none⟩),v] w (WrTo w g (b || l.any wrongV) (m || decide (64 < l.length) || l.any manyV)):=by
 obtain ⟨A,c,xs,rfl,hnc,hcm,-,hl,hch⟩:=open_slice hr
 have hgs:=hw.lt
 have HL:=Lib.hid (And.intro hl hch)
 have H0:=Lib.hid (show Wri w g b m w from ⟨World.grownBy.refl _ _,hw,hgs⟩)
 clear hr hl hch hw
 have cM:=H0.out.wr.cells.2
 have fM:=H0.out.wr.free 1
 have HK:Hid (∀ x:Bool,x = (m || decide (64 < l.length))→Wri w g b (m || decide (64 < l.length)) (w.setCell ⟨g,1,none⟩ (.bool x))):=Lib.hid fun x hx=>hx ▸ H0.out.M x
 go_enter Tryd.func85,Tryd.ntmps85
 go_upto_region 0 with (fail)
 go_cut [] from 6 to 17 (fun wy=>∃ wc,wc = wy∧Wri w g b (m || decide (64 < l.length)) wy)
 case first =>
  cases m with
  | true =>
   go_wp2
   go_meet
   exact ⟨_,rfl,HK.out true (by simp)⟩
  | false =>
   go_wp2
   all_goals go_meet
   all_goals (refine ⟨_,rfl,HK.out _ ?_⟩;rw [Bool.false_or,decide_eq_decide];omega)
 case rest =>
  obtain ⟨w1,hwc,h1⟩:=hcut
  subst hwc
  obtain ⟨m1,hm1⟩:∃ m1,(m || decide (64 < l.length)) = m1:=⟨_,rfl⟩
  rw [hm1] at h1
  have H1:=Lib.hid h1
  have HM1:=Lib.hid hm1
  clear h1 hm1 HK H0 cM fM
  go_wp2_with fail
  go_loopw [20] (fun i wr=>∃ (pre post:List ValueD) (b' m':Bool),l = pre++post∧i = .int .i64 pre.length∧b' = (b || pre.any wrongV)∧m' = (m1 || pre.any manyV)∧Wri w g b' m' wr) (fun i _=>l.length - (intOf i).toNat)
  case atStart=>exact ⟨[],l,b,m1,rfl,rfl,by simp,by simp,H1.out⟩
  case round =>
   obtain ⟨pre,post,b',m',hpp,rfl,hb',hm',hbx⟩:=hrel
   have HBx:=Lib.hid hbx
   have HE:=Lib.hid (And.intro hb' hm')
   clear hbx hb' hm'
   cases post with
   | cons z post =>
    obtain ⟨hz,hlt,hpp',hpl⟩:=split_at hpp
    obtain ⟨b1,o,vcs,rfl,hbB,hrz,hcell⟩:=elem_at HL.out.1 HL.out.2 (by decide) hz
    obtain ⟨D1,d1,rfl,z0,z1,z2⟩:=open_ValueD hrz
    have hat:At wr b1 (o + pre.length * 3) [.string z.name,.int .i64 z.type,.slice D1 z.dims.length d1]:=fun j u hu=>by
     have h1:=(hcell j u hu).1
     rw [← Nat.add_assoc] at h1
     exact (keep_grown HBx.out.grown hB (by omega) ⟨b1,o + pre.length * 3 + j,none⟩ hbB).1.trans h1
    have hk0:(0:Int) ≤ (pre.length:Int):=Int.natCast_nonneg _
    have hk1:(pre.length:Int) < (l.length:Int):=by omega
    have HA:=Lib.hid (And.intro hat (And.intro z0 (And.intro z2 (Rep.one hrz))))
    have HP:=Lib.hid (And.intro hpp' hpl)
    clear hpp hpp' hpl hz hcell hrz hat hbB z0 z1 z2
    go_wp2_with (first
     |(with_reducible refine wpList_load_agg rfl 104 _ rfl _ _ _ rfl [.string z.name,.int .i64 z.type,.slice D1 z.dims.length d1] Tryd.underlying104 rfl (by kernel_rfl) HA.out.1 ?_)
     |(with_reducible refine wpList_alloc_row rfl 104 rfl zeroVa zeroVa_zero ?_)
     |(with_reducible refine wpList_store_agg rfl 104 _ _ rfl _ 0 [.string z.name,.int .i64 z.type,.slice D1 z.dims.length d1] rfl rfl 104 zeroVa (heap_alloc_new _ _) (by kernel_rfl) (of_decide_eq_true (by kernel_rfl)) HA.out.2.2.2 ?_;have hY:=laid_row wr 104 zeroVa [.string z.name,.int .i64 z.type,.slice D1 z.dims.length d1] rfl;generalize World.setRow _ _ _ = v2 at hY ⊢;have HY:=Lib.hid hY;clear hY;refine halt ?_))
    unfold Halt
    have HBy:=Lib.hid (HBx.out.next HY.out.1)
    have hgr:g < wr.heap.size:=HBx.out.wr.lt
    have c0:v2.cell? ⟨wr.heap.size,0,none⟩ = some (.string z.name):=cell_of_row _ _ _ _ _ _ HY.out.2.1
    go_wp2_with fail
    have hN:rep (v2.alloc (.cells #[.string z.name] 9)) (fresh v2.heap.size (v2.heap.size + 1)) [.slice (some ⟨v2.heap.size,0,none⟩) 1 1] [z.name] :=
     rep_single (by decide) (heap_alloc_new v2 _) ⟨rfl,HA.out.2.1⟩ ⟨Nat.le_refl _,Nat.lt_succ_self _⟩
    have hX1:=HBy.out.next ((Below.refl _ _).alloc (Nat.le_refl _) (.cells #[.string z.name] 9))
    have hR1:(v2.alloc (.cells #[.string z.name] 9)).heap[wr.heap.size]? = some (.cells ([.string z.name,.int .i64 z.type,.slice D1 z.dims.length d1]:List Value).toArray 104 (0,0)):=(Below.heap_alloc _ _ _ (Array.getElem?_eq_some_iff.1 HY.out.2.1).1).trans HY.out.2.1
    refine (name_w [z.name] _ g (fresh v2.heap.size (v2.heap.size + 1)) b' m' _ (fun h=>by have:=h.1;have:=HBy.out.wr.lt;omega) (fun k hk=>by rw [World.size_alloc];exact hk.2) hN hX1.wr).mono ?_
    generalize World.alloc _ _ = W1 at hX1 hR1 ⊢
    intro e v3 hc
    have hR3:=row_grown hR1 hc.2.2 (by omega)
    obtain ⟨rfl,h3⟩:=hX1.call hc
    have H3:=Lib.hid (And.intro h3 hR3)
    clear hN hX1 hR1 hc h3 hR3 c0
    have c2:v3.cell? ⟨wr.heap.size,2,none⟩ = some (.slice D1 z.dims.length d1):=cell_of_row _ _ _ _ _ _ H3.out.2
    go_wp2_with fail
    refine (count_w z.dims _ g B b' _ v3 hB (H3.out.1.keep hB HA.out.2.2.1) H3.out.1.wr).mono ?_
    intro e v4 hc
    have hR4:=row_grown H3.out.2 hc.2.2 (by omega)
    have h4:=H3.out.1.to hc.2.2 hc.2.1
    obtain ⟨rfl,-⟩:=hc
    obtain ⟨b4,hb4⟩:∃ b4,(b' || decide ((sizeD z.dims).2 = 1)) = b4:=⟨_,rfl⟩
    rw [hb4] at h4
    have H4:=Lib.hid (And.intro h4 (And.intro hR4 hb4))
    clear hR4 h4 hb4 c2
    have c1:v4.cell? ⟨wr.heap.size,1,none⟩ = some (.int .i64 z.type):=cell_of_row _ _ _ _ _ _ H4.out.2.1
    have cB:=H4.out.1.wr.cells.1
    have fB:=H4.out.1.wr.free 0
    have HR:Hid (∀ (x:Bool),x = (b4 || !knownD z.type)→∃ (pre' post':List ValueD) (b2 m2:Bool),l = pre'++post'∧Value.int .i64 ((pre.length:Int) + 1) = .int .i64 pre'.length∧b2 = (b || pre'.any wrongV)∧m2 = (m1 || pre'.any manyV)∧Wri w g b2 m2 (v4.setCell ⟨g,0,none⟩ (.bool x))):=Lib.hid fun x hx =>
     ⟨pre++[z],post,x,_,HP.out.1,by rw [HP.out.2];go_num,by rw [hx,← H4.out.2.2,HE.out.1,List.any_append];simp [wrongV,Bool.or_assoc],by rw [HE.out.2,List.any_append];simp [manyV,Bool.or_assoc],H4.out.1.B x⟩
    cases b4 with
    | true =>
     go_wp2
     go_roundw
     case rel=>exact HR.out true (by simp)
     case measure=>simp [intOf];omega
    | false =>
     go_wp2_with fail
     refine (known_any z.type v4).mono ?_
     rintro e v5 ⟨rfl,rfl⟩
     go_wp2
     go_roundw
     case rel=>exact HR.out _ (by simp)
     case measure=>simp [intOf];omega
   | nil =>
    obtain ⟨hge,hpl⟩:=split_end hpp
    have HP:=Lib.hid hpl
    have hlen:pre.length = l.length:=by rw [hpl]
    clear hpp hpl
    go_wp2
    refine bodyPost_end (v:=.tuple #[]) (by simp [results,Tryd.results85,go_sem]) rfl ⟨rfl,?_,HBx.out.grown⟩
    have e1:(b || l.any wrongV) = b':=by rw [HE.out.1,HP.out]
    have e2:(m || decide (64 < l.length) || l.any manyV) = m':=by rw [HE.out.2,← HM1.out,HP.out]
    rw [e1,e2]
    exact HBx.out.wr
end Go.Proofs.YtgbkhcmbmffljaaDoor
set_option linter.unusedSimpArgs false
set_option linter.unusedVariables false
namespace Go.Proofs.YtgbkhcmbmffljaaDoor
open Go.RowKit
open Rep (rep)
def wrongI (c:InitD):Bool:=decide ((sizeD c.t.dims).2 = 1) || wrongT c.t
def manyI (c:InitD):Bool:=longS c.name || decide ((sizeD c.t.dims).2 = 8)
def badM (m:ModelD):Bool:=decide (m.opset ≠ 17) || m.nodes.any wrongN || m.inits.any wrongI || m.inputs.any wrongV || m.outputs.any wrongV
def manyM (m:ModelD):Bool:=decide (1024 < max m.nodes.length m.inits.length) || longS m.name || m.nodes.any manyN || m.inits.any manyI || (decide (64 < m.inputs.length) || m.inputs.any manyV) || (decide (64 < m.outputs.length) || m.outputs.any manyV)
def checkD (m:ModelD):Int:=if badM m = true then 1 else if manyM m = true then 8 else 0
structure ChkW (w:World) (cs:List Value) (b m:Bool) (W:World):Prop where
 below:Below w.heap.size w W
 row:W.heap[w.heap.size]? = some (.cells cs.toArray 59 (0,0))
 wr:Wr W (w.heap.size + 1) b m
section
variable {w W W':World} {cs:List Value} {b m:Bool}
theorem ChkW.lt (h:ChkW w cs b m W):w.heap.size + 1 < W.heap.size:=h.wr.lt
theorem ChkW.next (h:ChkW w cs b m W) (hb:Below W.heap.size W W'):ChkW w cs b m W':=⟨h.below.trans (hb.mono h.below.size),(hb.block _ (by have:=h.lt;omega)).trans h.row,h.wr.next hb⟩
theorem ChkW.to (h:ChkW w cs b m W) {b2 m2:Bool} (hg:W.grownBy W' (some (w.heap.size + 1))) (hw:Wr W' (w.heap.size + 1) b2 m2):ChkW w cs b2 m2 W' :=
 ⟨h.below.grown hg h.below.size (fun g e=>by injection e with e;omega),(hg.block _ (by have:=h.lt;omega) (fun e=>by injection e with e;omega)).trans h.row,hw⟩
theorem ChkW.call (h:ChkW w cs b m W) {b2 m2:Bool} {e:Ending} (hc:WrTo W (w.heap.size + 1) b2 m2 e W'):e = .returned (.tuple #[])∧ChkW w cs b2 m2 W':=⟨hc.1,h.to hc.2.2 hc.2.1⟩
theorem ChkW.keep (h:ChkW w cs b m W) {α:Type} [Rep α] {c:List Value} {a:α} (hr:rep w (old w.heap.size) c a):rep W (old w.heap.size) c a:=Rep.keep hr (Keeps.old_below h.below (Nat.le_refl _))
end
def zeroIn:List Value:=[.string ⟨#[]⟩,.int .i64 0,.slice none 0 0,.slice none 0 0,.slice none 0 0,.slice none 0 0]
theorem zeroIn_zero:(Tryd.prog.info? 102).bind (·.zero) = some (.agg zeroIn.toArray):=by kernel_rfl
set_option maxRecDepth 100000 in
set_option maxHeartbeats 8000000 in
theorem check_any (cs:List Value) (m:ModelD) (w:World) (hr:rep w (old w.heap.size) cs m) :
  Calls Tryd.prog 49 #[.agg cs.toArray] w fun e w'=>e = .returned (.int .i64 (checkD m))∧Below w.heap.size w w':=by
 obtain ⟨A1,k1,A2,k2,A3,k3,A4,k4,rfl,h0,h1,r1,r2,r3,r4⟩:=open_ModelD hr
 obtain ⟨n1,n1'⟩:=slice_bnd r1
 obtain ⟨n2,n2'⟩:=slice_bnd r2
 have HR:=Lib.hid (And.intro h1 (And.intro r1 (And.intro r2 (And.intro r3 r4))))
 clear hr h0 h1 r1 r2 r3 r4
 go_enter Tryd.func49,Tryd.ntmps49
 go_wp2_with (with_reducible refine wpList_box_row rfl 59 _ rfl [.int .i64 m.opset,.string m.name,.slice A1 m.nodes.length k1,.slice A2 m.inits.length k2,.slice A3 m.inputs.length k3,.slice A4 m.outputs.length k4] rfl ?_;have hX:=box_start w 59 [.int .i64 m.opset,.string m.name,.slice A1 m.nodes.length k1,.slice A2 m.inits.length k2,.slice A3 m.inputs.length k3,.slice A4 m.outputs.length k4];have hz:(w.alloc (.cells ([.int .i64 m.opset,.string m.name,.slice A1 m.nodes.length k1,.slice A2 m.inits.length k2,.slice A3 m.inputs.length k3,.slice A4 m.outputs.length k4]:List Value).toArray 59)).heap.size = w.heap.size + 1:=World.size_alloc _ _;generalize World.alloc _ _ = W0 at hX hz ⊢;have HX:=Lib.hid (And.intro hX hz);clear hX hz;refine halt ?_)
 unfold Halt
 have c0:W0.cell? ⟨w.heap.size,0,none⟩ = some (.int .i64 m.opset):=cell_of_row _ _ _ _ _ _ HX.out.1.row
 have c2:W0.cell? ⟨w.heap.size,2,none⟩ = some (.slice A1 m.nodes.length k1):=cell_of_row _ _ _ _ _ _ HX.out.1.row
 have c3:W0.cell? ⟨w.heap.size,3,none⟩ = some (.slice A2 m.inits.length k2):=cell_of_row _ _ _ _ _ _ HX.out.1.row
 have HK:Hid (∀ (x y:Bool),x = decide (m.opset ≠ 17)→y = decide (1024 < max m.nodes.length m.inits.length)→ChkW w [.int .i64 m.opset,.string m.name,.slice A1 m.nodes.length k1,.slice A2 m.inits.length k2,.slice A3 m.inputs.length k3,.slice A4 m.outputs.length k4] (decide (m.opset ≠ 17)) (decide (1024 < max m.nodes.length m.inits.length)) (W0.alloc (.cells #[.bool x,.bool y] 133))):=Lib.hid fun x y hx hy=>by
  have hn:=heap_alloc_new W0 (.cells #[.bool x,.bool y] 133)
  rw [HX.out.2] at hn
  exact ⟨HX.out.1.below.alloc HX.out.1.below.size _,(Below.heap_alloc _ _ _ HX.out.1.lt).trans HX.out.1.row,⟨by rw [← hx,← hy];exact hn⟩⟩
 go_upto_region 1 with (fail)
 go_cut [3] from 8 to 20 (fun v wy=>v = .pointer (some ⟨w.heap.size + 1,0,none⟩)∧∃ wc,wc = wy∧ChkW w [.int .i64 m.opset,.string m.name,.slice A1 m.nodes.length k1,.slice A2 m.inits.length k2,.slice A3 m.inputs.length k3,.slice A4 m.outputs.length k4] (decide (m.opset ≠ 17)) (decide (1024 < max m.nodes.length m.inits.length)) wy)
 case first =>
  go_wp2
  all_goals go_meet
  all_goals exact ⟨by rw [HX.out.2],_,rfl,HK.out _ _ (by rw [Bool.eq_iff_iff];simp) (by rw [decide_eq_decide];omega)⟩
 case rest =>
  obtain ⟨rfl,w1,hwc,h1⟩:=hcut
  subst hwc
  obtain ⟨b1,hb1⟩:∃ b1,decide (m.opset ≠ 17) = b1:=⟨_,rfl⟩
  obtain ⟨y1,hy1⟩:∃ y1,decide (1024 < max m.nodes.length m.inits.length) = y1:=⟨_,rfl⟩
  rw [hb1,hy1] at h1
  have H1:=Lib.hid h1
  have HE1:=Lib.hid (And.intro hb1 hy1)
  clear h1 hb1 hy1 HK HX c0 c2 c3
  have c1:w1.cell? ⟨w.heap.size,1,none⟩ = some (.string m.name):=cell_of_row _ _ _ _ _ _ H1.out.row
  go_wp2_with fail
  have hN:rep (w1.alloc (.cells #[.string m.name] 9)) (fresh w1.heap.size (w1.heap.size + 1)) [.slice (some ⟨w1.heap.size,0,none⟩) 1 1] [m.name] :=
   rep_single (by decide) (heap_alloc_new w1 _) ⟨rfl,HR.out.1⟩ ⟨Nat.le_refl _,Nat.lt_succ_self _⟩
  have hX1:=H1.out.next ((Below.refl _ _).alloc (Nat.le_refl _) (.cells #[.string m.name] 9))
  refine (name_w [m.name] _ (w.heap.size + 1) (fresh w1.heap.size (w1.heap.size + 1)) b1 y1 _ (fun h=>by have:=h.1;have:=H1.out.lt;omega) (fun k hk=>by rw [World.size_alloc];exact hk.2) hN hX1.wr).mono ?_
  generalize World.alloc _ _ = W1 at hX1 ⊢
  intro e w2 hc
  obtain ⟨rfl,h2⟩:=hX1.call hc
  have H2:=Lib.hid h2
  clear hN hX1 hc h2 c1
  have c2:w2.cell? ⟨w.heap.size,2,none⟩ = some (.slice A1 m.nodes.length k1):=cell_of_row _ _ _ _ _ _ H2.out.row
  obtain ⟨A',c',xs,hv,hnc,hcm,-,hl,hch⟩:=open_slice HR.out.2.1
  simp only [Value.slice.injEq,true_and] at hv
  obtain ⟨rfl,rfl⟩:=hv
  have HL:=Lib.hid (And.intro hl hch)
  clear hl hch
  go_wp2_with fail
  clear c2
  go_loopw [29] (fun i wr=>∃ (pre post:List NodeD) (b' m':Bool),m.nodes = pre++post∧i = .int .i64 pre.length∧b' = (b1 || pre.any wrongN)∧m' = (y1 || [m.name].any longS || pre.any manyN)∧ChkW w [.int .i64 m.opset,.string m.name,.slice A1 m.nodes.length k1,.slice A2 m.inits.length k2,.slice A3 m.inputs.length k3,.slice A4 m.outputs.length k4] b' m' wr) (fun i _=>m.nodes.length - (intOf i).toNat)
  case atStart=>exact ⟨[],m.nodes,b1,_,rfl,rfl,by simp,by rw [List.any_nil,Bool.or_false],H2.out⟩
  case round =>
   obtain ⟨pre,post,b',m',hpp,rfl,hb',hm',hbx⟩:=hrel
   have HBx:=Lib.hid hbx
   have HE:=Lib.hid (And.intro hb' hm')
   clear hbx hb' hm'
   cases post with
   | cons z post =>
    obtain ⟨hz,hlt,hpp',hpl⟩:=split_at hpp
    obtain ⟨o1,o,ncs,rfl,hbB,hrz,hcell⟩:=elem_at HL.out.1 HL.out.2 (by decide) hz
    obtain ⟨E1,e1,E2,e2,E3,e3,rfl,-,-,-,-,-⟩:=open_NodeD hrz
    have hat:At wr o1 (o + pre.length * 5) [.string z.op,.string z.name,.slice E1 z.ins.length e1,.slice E2 z.outs.length e2,.slice E3 z.attrs.length e3]:=fun j u hu=>by
     have h1:=(hcell j u hu).1
     rw [← Nat.add_assoc] at h1
     exact (HBx.out.below.cell (p:=⟨o1,o + pre.length * 5 + j,none⟩) hbB).trans h1
    have hk0:(0:Int) ≤ (pre.length:Int):=Int.natCast_nonneg _
    have hk1:(pre.length:Int) < (m.nodes.length:Int):=by omega
    have HA:=Lib.hid (And.intro hat (And.intro (Rep.one hrz) hrz))
    have HP:=Lib.hid (And.intro hpp' hpl)
    clear hpp hpp' hpl hz hcell hrz hat hbB
    go_wp2_with (first
     |(with_reducible refine wpList_load_agg rfl 36 _ rfl _ _ _ rfl [.string z.op,.string z.name,.slice E1 z.ins.length e1,.slice E2 z.outs.length e2,.slice E3 z.attrs.length e3] Tryd.underlying36 rfl (by kernel_rfl) HA.out.1 ?_)
     |(with_reducible refine wpList_alloc_row rfl 36 rfl zeroNd zeroNd_zero ?_)
     |(with_reducible refine wpList_store_agg rfl 36 _ _ rfl _ 0 [.string z.op,.string z.name,.slice E1 z.ins.length e1,.slice E2 z.outs.length e2,.slice E3 z.attrs.length e3] rfl rfl 36 zeroNd (heap_alloc_new _ _) (by kernel_rfl) (of_decide_eq_true (by kernel_rfl)) HA.out.2.1 ?_;have hY:=laid_row wr 36 zeroNd [.string z.op,.string z.name,.slice E1 z.ins.length e1,.slice E2 z.outs.length e2,.slice E3 z.attrs.length e3] rfl;generalize World.setRow _ _ _ = v2 at hY ⊢;have HY:=Lib.hid hY;clear hY;refine halt ?_))
    unfold Halt
    have HBy:=Lib.hid (HBx.out.next HY.out.1)
    go_wp2_with (first
     |(with_reducible refine wpList_load_agg rfl 36 _ rfl _ _ _ rfl [.string z.op,.string z.name,.slice E1 z.ins.length e1,.slice E2 z.outs.length e2,.slice E3 z.attrs.length e3] Tryd.underlying36 rfl (by kernel_rfl) (At.of_row HY.out.2.1) ?_))
    refine (node_w _ z (w.heap.size + 1) w.heap.size b' m' v2 (Nat.le_succ _) (HBy.out.keep HA.out.2.2) HBy.out.wr).mono ?_
    intro e v3 hc
    obtain ⟨rfl,h3⟩:=HBy.out.call hc
    have HBz:=Lib.hid h3
    clear hc h3
    go_wp2
    go_roundw
    case rel=>exact ⟨pre++[z],post,_,_,HP.out.1,by rw [HP.out.2];go_num,by rw [HE.out.1,List.any_append];simp [Bool.or_assoc],by rw [HE.out.2,List.any_append];simp [Bool.or_assoc],HBz.out⟩
    case measure=>simp [intOf];omega
   | nil =>
    obtain ⟨hge,hpl⟩:=split_end hpp
    have HP:=Lib.hid hpl
    clear hpp hpl HL
    obtain ⟨wa,rfl⟩:∃ wa,wa = wr:=⟨_,rfl⟩
    have c3:wa.cell? ⟨w.heap.size,3,none⟩ = some (.slice A2 m.inits.length k2):=cell_of_row _ _ _ _ _ _ HBx.out.row
    obtain ⟨A',c',xs,hv,hnc2,hcm2,-,hl,hch⟩:=open_slice HR.out.2.2.1
    simp only [Value.slice.injEq,true_and] at hv
    obtain ⟨rfl,rfl⟩:=hv
    have HL:=Lib.hid (And.intro hl hch)
    clear hl hch
    go_wp2_with fail
    clear c3
    go_loopw [40] (fun i wr=>∃ (pre2 post2:List InitD) (b2 m2:Bool),m.inits = pre2++post2∧i = .int .i64 pre2.length∧b2 = (b' || pre2.any wrongI)∧m2 = (m' || pre2.any manyI)∧ChkW w [.int .i64 m.opset,.string m.name,.slice A1 m.nodes.length k1,.slice A2 m.inits.length k2,.slice A3 m.inputs.length k3,.slice A4 m.outputs.length k4] b2 m2 wr) (fun i _=>m.inits.length - (intOf i).toNat)
    case atStart=>exact ⟨[],m.inits,b',m',rfl,rfl,by simp,by simp,HBx.out⟩
    case round =>
     obtain ⟨pre2,post2,b2,m2,hpp,rfl,hb',hm',hbx⟩:=hrel
     have HBy:=Lib.hid hbx
     have HE2:=Lib.hid (And.intro hb' hm')
     clear hbx hb' hm'
     cases post2 with
     | cons z post2 =>
      obtain ⟨hz,hlt,hpp',hpl⟩:=split_at hpp
      obtain ⟨o1,o,ncs,rfl,hbB,hrz,hcell⟩:=elem_at HL.out.1 HL.out.2 (by decide) hz
      obtain ⟨E1,e1,E2,e2,E3,e3,E4,e4,rfl,z0,z1⟩:=open_InitD hrz
      have hat:At wr o1 (o + pre2.length * 6) [.string z.name,.int .i64 z.t.type,.slice E1 z.t.dims.length e1,.slice E2 z.t.f.length e2,.slice E3 z.t.i.length e3,.slice E4 z.t.b.length e4]:=fun j u hu=>by
       have h1:=(hcell j u hu).1
       rw [← Nat.add_assoc] at h1
       exact (HBy.out.below.cell (p:=⟨o1,o + pre2.length * 6 + j,none⟩) hbB).trans h1
      have hk0:(0:Int) ≤ (pre2.length:Int):=Int.natCast_nonneg _
      have hk1:(pre2.length:Int) < (m.inits.length:Int):=by omega
      have HA:=Lib.hid (And.intro hat (And.intro (Rep.one hrz) (And.intro z0 z1)))
      have HP2:=Lib.hid (And.intro hpp' hpl)
      clear hpp hpp' hpl hz hcell hrz hat hbB z0 z1
      go_wp2_with (first
       |(with_reducible refine wpList_load_agg rfl 102 _ rfl _ _ _ rfl [.string z.name,.int .i64 z.t.type,.slice E1 z.t.dims.length e1,.slice E2 z.t.f.length e2,.slice E3 z.t.i.length e3,.slice E4 z.t.b.length e4] Tryd.underlying102 rfl (by kernel_rfl) HA.out.1 ?_)
       |(with_reducible refine wpList_alloc_row rfl 102 rfl zeroIn zeroIn_zero ?_)
       |(with_reducible refine wpList_store_agg rfl 102 _ _ rfl _ 0 [.string z.name,.int .i64 z.t.type,.slice E1 z.t.dims.length e1,.slice E2 z.t.f.length e2,.slice E3 z.t.i.length e3,.slice E4 z.t.b.length e4] rfl rfl 102 zeroIn (heap_alloc_new _ _) (by kernel_rfl) (of_decide_eq_true (by kernel_rfl)) HA.out.2.1 ?_;have hY:=laid_row wr 102 zeroIn [.string z.name,.int .i64 z.t.type,.slice E1 z.t.dims.length e1,.slice E2 z.t.f.length e2,.slice E3 z.t.i.length e3,.slice E4 z.t.b.length e4] rfl;generalize World.setRow _ _ _ = v2 at hY ⊢;have HY:=Lib.hid hY;clear hY;refine halt ?_))
      unfold Halt
      have HBz:=Lib.hid (HBy.out.next HY.out.1)
      have hgr:w.heap.size + 1 < wr.heap.size:=HBy.out.lt
      have c0:v2.cell? ⟨wr.heap.size,0,none⟩ = some (.string z.name):=cell_of_row _ _ _ _ _ _ HY.out.2.1
      go_wp2_with fail
      have hN:rep (v2.alloc (.cells #[.string z.name] 9)) (fresh v2.heap.size (v2.heap.size + 1)) [.slice (some ⟨v2.heap.size,0,none⟩) 1 1] [z.name] :=
       rep_single (by decide) (heap_alloc_new v2 _) ⟨rfl,HA.out.2.2.1⟩ ⟨Nat.le_refl _,Nat.lt_succ_self _⟩
      have hX1:=HBz.out.next ((Below.refl _ _).alloc (Nat.le_refl _) (.cells #[.string z.name] 9))
      have hR1:(v2.alloc (.cells #[.string z.name] 9)).heap[wr.heap.size]? = some (.cells ([.string z.name,.int .i64 z.t.type,.slice E1 z.t.dims.length e1,.slice E2 z.t.f.length e2,.slice E3 z.t.i.length e3,.slice E4 z.t.b.length e4]:List Value).toArray 102 (0,0)):=(Below.heap_alloc _ _ _ (Array.getElem?_eq_some_iff.1 HY.out.2.1).1).trans HY.out.2.1
      refine (name_w [z.name] _ (w.heap.size + 1) (fresh v2.heap.size (v2.heap.size + 1)) b2 m2 _ (fun h=>by have:=h.1;have:=HBz.out.lt;omega) (fun k hk=>by rw [World.size_alloc];exact hk.2) hN hX1.wr).mono ?_
      generalize World.alloc _ _ = W5 at hX1 hR1 ⊢
      intro e v3 hc
      have hR3:=row_grown hR1 hc.2.2 (by omega)
      obtain ⟨rfl,h3⟩:=hX1.call hc
      have H3:=Lib.hid (And.intro h3 hR3)
      have HAT:=Lib.hid (show At v3 wr.heap.size 1 [.int .i64 z.t.type,.slice E1 z.t.dims.length e1,.slice E2 z.t.f.length e2,.slice E3 z.t.i.length e3,.slice E4 z.t.b.length e4] from At.part (xs:=[.string z.name]) (ys:=[]) (At.of_row hR3))
      clear hN hX1 hR1 hc h3 hR3 c0
      go_wp2_with (first
       |(with_reducible refine wpList_load_agg rfl 43 _ rfl _ wr.heap.size 1 rfl [.int .i64 z.t.type,.slice E1 z.t.dims.length e1,.slice E2 z.t.f.length e2,.slice E3 z.t.i.length e3,.slice E4 z.t.b.length e4] Tryd.underlying43 rfl (by kernel_rfl) HAT.out ?_))
      refine (tensor_w _ z.t (w.heap.size + 1) w.heap.size b2 _ v3 (Nat.le_succ _) (H3.out.1.keep HA.out.2.2.2) H3.out.1.wr).mono ?_
      intro e v4 hc
      obtain ⟨rfl,h4⟩:=H3.out.1.call hc
      have H4:=Lib.hid h4
      clear hc h4
      go_wp2
      go_roundw
      case rel=>exact ⟨pre2++[z],post2,_,_,HP2.out.1,by rw [HP2.out.2];go_num,by rw [HE2.out.1,List.any_append];simp [wrongI,Bool.or_assoc],by rw [HE2.out.2,List.any_append];simp [manyI,Bool.or_assoc],H4.out⟩
      case measure=>simp [intOf];omega
     | nil =>
      obtain ⟨hge2,hpl2⟩:=split_end hpp
      have hlen2:pre2.length = m.inits.length:=by rw [hpl2]
      have HP2:=Lib.hid hpl2
      clear hpp hpl2
      have c4:wr.cell? ⟨w.heap.size,4,none⟩ = some (.slice A3 m.inputs.length k3):=cell_of_row _ _ _ _ _ _ HBy.out.row
      go_wp2_with fail
      refine (values_w m.inputs _ (w.heap.size + 1) w.heap.size b2 m2 wr (Nat.le_succ _) (HBy.out.keep HR.out.2.2.2.1) HBy.out.wr).mono ?_
      intro e v6 hc
      obtain ⟨rfl,h6⟩:=HBy.out.call hc
      have H6:=Lib.hid h6
      clear hc h6 c4
      have c5:v6.cell? ⟨w.heap.size,5,none⟩ = some (.slice A4 m.outputs.length k4):=cell_of_row _ _ _ _ _ _ H6.out.row
      go_wp2_with fail
      refine (values_w m.outputs _ (w.heap.size + 1) w.heap.size _ _ v6 (Nat.le_succ _) (H6.out.keep HR.out.2.2.2.2) H6.out.wr).mono ?_
      intro e v7 hc
      obtain ⟨rfl,h7⟩:=H6.out.call hc
      obtain ⟨b7,hb7⟩:∃ b7,(b2 || m.inputs.any wrongV || m.outputs.any wrongV) = b7:=⟨_,rfl⟩
      obtain ⟨m7,hm7⟩:∃ m7,(m2 || decide (64 < m.inputs.length) || m.inputs.any manyV || decide (64 < m.outputs.length) || m.outputs.any manyV) = m7:=⟨_,rfl⟩
      rw [hb7,hm7] at h7
      have e1:badM m = b7:=by rw [← hb7,HE2.out.1,HE.out.1,← HE1.out.1,HP.out,HP2.out];rfl
      have e2:manyM m = m7:=by rw [← hm7,HE2.out.2,HE.out.2,← HE1.out.2,HP.out,HP2.out];unfold manyM;simp [Bool.or_assoc]
      have HD:=Lib.hid (show checkD m = (if b7 = true then 1 else if m7 = true then 8 else 0) by unfold checkD;rw [e1,e2])
      have H7:=Lib.hid h7
      have cB:=h7.wr.cells.1
      have cM:=h7.wr.cells.2
      clear hc h7 hb7 hm7 e1 e2 c5
      cases b7 with
      | true =>
       go_wp2
       go_ret
       exact ⟨by rw [HD.out];rfl,H7.out.below⟩
      | false =>
       cases m7 with
       | true =>
        go_wp2
        go_ret
        exact ⟨by rw [HD.out];rfl,H7.out.below⟩
       | false =>
        go_wp2
        go_ret
        exact ⟨by rw [HD.out];rfl,H7.out.below⟩
end Go.Proofs.YtgbkhcmbmffljaaDoor
