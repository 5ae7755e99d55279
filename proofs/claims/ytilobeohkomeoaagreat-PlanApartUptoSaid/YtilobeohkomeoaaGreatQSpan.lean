/-
  Chapter 10: the axis; do shapes go together? No condition.
-/
/-
  Chapter 10: what shapes come to; does one go with another? No condition.
-/
/-
  Chapter 10: lists of the caller's, and of the call's own, while own lists are written. No condition.
-/
/-
  Chapter 10: from where to where Shape tells dims. No condition.
-/
import Derived.Test.YtilobeohkomeoaaGreatQInfC
set_option linter.unusedSimpArgs false
set_option linter.unusedVariables false
namespace Go.Proofs.YtilobeohkomeoaaGreat
open Go.RowKit
open Rep (rep)
def Lst (W:World) (A:Option Addr) (k:Nat) (l:List Int):Prop:=rep W (old W.heap.size) [.slice A l.length k] l
theorem Lst.next {W W':World} {A:Option Addr} {k:Nat} {l:List Int} (h:Lst W A k l) (hb:Below W.heap.size W W'):Lst W' A k l:=Rep.more (Rep.keep h (Keeps.old_below hb (Nat.le_refl _))) (old_le hb.size)
theorem OwnR.lst {W:World} {n k:Nat} {A:Option Addr} {l:List Int} (h:OwnR W n A k l):Lst W A k l:=h.own.rep
theorem Own.lst {W:World} {n k:Nat} {A:Option Addr} {l:List Int} (h:Own W n A k l):Lst W A k l:=h.rep
theorem held_next {w W0 V V':World} {cs:List Value} {a:AskD} (h:AskI w cs a V∧Below W0.heap.size W0 V) (hb:Below V.heap.size V V'):AskI w cs a V'∧Below W0.heap.size W0 V':=⟨h.1.next hb,h.2.trans (hb.mono h.2.size)⟩
theorem yields_idx {ops:Array Oper} {S:World→Prop} {o:Oper} {c:Act} (hw:Region.wanted o (yielded ops c.tmps) = true) (x y:Operand) (ho:o.op = .indexAddr 24 x y) (b f n k i:Nat) (hx:c.eval x = .slice (some ⟨b,f,none⟩) n k) (hy:c.eval y = .int .i64 (i:Int)) (hlt:i < n):YieldsIf Tryz.prog ops S o (.pointer (some ⟨b,f + i,none⟩)) c:=by
 have h:=yields_indexI (P:=Tryz.prog) (S:=S) (e:=3) hw _ _ _ ho b f n k i 1 i hx hy Tryz.underlying24 (by kernel_rfl) rfl hlt
 rwa [Nat.mul_one] at h
theorem yields_ask {ops:Array Oper} {S:World→Prop} {o:Oper} {c:Act} {w:World} {cs:List Value} {a:AskD} (hw:Region.wanted o (yielded ops c.tmps) = true) (x:Operand) (ho:o.op = .load 91 x) (hx:c.eval x = .pointer (some ⟨w.heap.size,0,none⟩))
  (hS:∀ W,S W→AskI w cs a W):YieldsIf Tryz.prog ops S o (.agg cs.toArray) c :=
 .inl ⟨hw,fun W h=>by
  unfold execOp
  simp only [ho,hx,Instr.loadAt,Instr.sureAddr,Sem.run_bind,Sem.run_pure,Result.andThen_ok,run_load_agg W _ _ _ _ cs Tryz.underlying91 rfl (hS W h).size (hS W h).at]⟩
theorem fld_int {w:World} {Z:Zone} {cs:List Value} {j:Nat} {x:Int} (h:Fld w Z cs j x):cs[j]? = some (.int .i64 x)∧I64 x:=by
 obtain ⟨v,h1,h2,h3⟩:=h
 injection h2 with h2
 exact ⟨by rw [h1,h2],h3⟩
theorem fld_bool {w:World} {Z:Zone} {cs:List Value} {j:Nat} {x:Bool} (h:Fld w Z cs j x):cs[j]? = some (.bool x):=by
 obtain ⟨v,h1,h2⟩:=h
 have h2:[v] = [Value.bool x]:=h2
 injection h2 with h2
 rw [h1,h2]
theorem fld_list {w:World} {Z:Zone} {cs:List Value} {j:Nat} {x:List Int} (h:Fld w Z cs j x):∃ A k,cs[j]? = some (.slice A x.length k)∧rep w Z [.slice A x.length k] x:=by
 obtain ⟨v,h1,h2⟩:=h
 obtain ⟨A,k,e⟩:=slice_form h2
 injection e with e
 subst e
 exact ⟨A,k,h1,h2⟩
theorem ask_set {w:World} {Z:Zone} {cs:List Value} {a:AskD} (h:rep w Z cs a):∃ ss,SettingDAt w Z ss a.s∧∀ j u,ss[j]? = some u→cs[j + 1]? = some u:=by
 obtain ⟨ss,_,_,-,-,-,-,-,hs,-,hc⟩:=ask_cells h
 exact ⟨ss,hs,hc⟩
theorem ask_op {w:World} {Z:Zone} {cs:List Value} {a:AskD} (h:rep w Z cs a):cs[0]? = some (.int .i64 a.op)∧I64 a.op:=by
 obtain ⟨ss,_,_,h0,-,-,h1,-⟩:=ask_cells h
 exact ⟨h0,h1⟩
theorem ask_outs {w:World} {Z:Zone} {cs:List Value} {a:AskD} (h:rep w Z cs a):cs[38]? = some (.int .i64 a.outs)∧I64 a.outs:=by
 obtain ⟨ss,_,_,-,-,h0,-,h1,-⟩:=ask_cells h
 exact ⟨h0,h1⟩
theorem ask_ins {w:World} {Z:Zone} {cs:List Value} {a:AskD} (h:rep w Z cs a):∃ A k,cs[37]? = some (.slice A a.ins.length k)∧rep w Z [.slice A a.ins.length k] a.ins:=by
 obtain ⟨ss,A,k,-,h0,-,-,-,-,h1,-⟩:=ask_cells h
 exact ⟨A,k,h0,h1⟩
theorem dims_len {w W:World} {cs:List Value} {a:AskD} {i:Nat} (h:AskI w cs a W):(a.dims i).length ≤ 17592186044416:=by
 obtain ⟨_,A,k,-,-,-,-,-,-,hi,-⟩:=h.see
 unfold AskD.dims AskD.val
 by_cases hl:i < a.ins.length
 ·obtain ⟨A',c',xs,hv,hnc,hcm,-,hl',hch⟩:=open_slice hi
  obtain ⟨b,o,zc,-,-,hrz,-⟩:=elem_at hl' hch (by decide) (List.getElem?_eq_getElem hl)
  obtain ⟨A1,k1,A2,k2,A3,k3,A4,k4,A5,k5,rfl,-,h1,-⟩:=open_ValD hrz
  obtain ⟨_,_,_,_,_,_,hb,_,_⟩:=open_slice h1
  have hb:(a.ins[i]).dims.length * 8 ≤ 140737488351232:=hb
  rw [List.getD_eq_getElem?_getD,List.getElem?_eq_getElem hl]
  simp only [Option.getD_some]
  omega
 ·rw [List.getD_eq_getElem?_getD,List.getElem?_eq_none (by omega)]
  simp [zeroVD]
set_option maxRecDepth 100000 in
set_option maxHeartbeats 8000000 in
theorem axisK_any (cs:List Value) (a:AskD) (w:World) (hr:rep w (old w.heap.size) cs a) :
  Calls Tryz.prog 105 #[.agg cs.toArray] w fun e w'=>e = .returned (.int .i64 (axisD a.s.axis (a.dims 0).length).1)∧Below w.heap.size w w':=by
 obtain ⟨ss,hs,hc⟩:=ask_set hr
 have HC:=Lib.hid (And.intro (hc 0 _ (fld_int hs.f0).1) (fld_int hs.f0).2)
 clear hs hc
 go_enter Tryz.func105,Tryz.ntmps105
 go_wp2_with (with_reducible refine wpList_box_row rfl 91 _ rfl cs rfl ?_;have hX:=ask_start hr;generalize World.alloc _ _ = W0 at hX ⊢;have HX:=Lib.hid hX;clear hX hr;refine halt ?_)
 unfold Halt
 go_wp2_with fail
 refine wp_region_held_drew (S:=fun W=>AskI w cs a W∧Below W0.heap.size W0 W) (by kernel_rfl) ⟨(HX.out.next ((Below.refl _ _).drew)),(Below.refl _ _).drew⟩ (fun hHeld=>?_)
 generalize World.drew _ = V0 at hHeld ⊢
 refine tk0 0 (some 6) (v:=.pointer (some ⟨w.heap.size,1,none⟩)) rfl hHeld ?_
 refine tk0 1 (some 7) (v:=.pointer (some ⟨w.heap.size,1,none⟩)) rfl hHeld ?_
 refine tk9 2 (some 8) (v:=.int .i64 a.s.axis) rfl (yields_load_one9 (by kernel_rfl) _ _ rfl (w.heap.size) (1) (by kernel_rfl) _ _ Tryz.underlying3 rfl (fun _ h=>h.1.cell HC.out.1)) hHeld ?_
 refine tk9 3 (some 9) (v:=.agg cs.toArray) rfl (yields_ask (by kernel_rfl) _ rfl (by kernel_rfl) (fun _ h=>h.1)) hHeld ?_
 refine call_d9 4 (some 10) rfl (by kernel_rfl) (by kernel_rfl) (by kernel_rfl) 87 _ _ rfl #[.agg cs.toArray] (by kernel_rfl) (fun w=>by kernel_rfl) ?_
 refine (askRank cs a _ hHeld.1.arg).mono ?_
 rintro e V1 ⟨rfl,hb⟩
 replace hHeld:=held_next hHeld hb
 refine ⟨_,rfl,hHeld,?_⟩
 have hlen:(a.dims 0).length ≤ 17592186044416:=dims_len hHeld.1
 refine call_d9 5 (some 11) rfl (by kernel_rfl) (by kernel_rfl) (by kernel_rfl) 90 _ _ rfl #[.int .i64 a.s.axis,.int .i64 ((a.dims 0).length:Int)] (by kernel_rfl) (fun w=>by kernel_rfl) ?_
 refine (axis_any a.s.axis (a.dims 0).length _ HC.out.2 (by unfold I64;omega) (by omega)).mono ?_
 rintro e V2 ⟨rfl,rfl⟩
 refine ⟨_,rfl,hHeld,?_⟩
 refine tk0 6 (some 5) (v:=.tuple #[.int .i64 (axisD a.s.axis ((a.dims 0).length:Int)).1,.int .i64 (axisD a.s.axis ((a.dims 0).length:Int)).2]) rfl hHeld ?_
 refine tk0 7 (some 12) (v:=.int .i64 (axisD a.s.axis ((a.dims 0).length:Int)).1) rfl hHeld ?_
 refine tk0 8 (some 13) (v:=.int .i64 (axisD a.s.axis ((a.dims 0).length:Int)).2) rfl hHeld ?_
 refine tk0 9 (some 3) (v:=.int .i64 (axisD a.s.axis ((a.dims 0).length:Int)).1) rfl hHeld ?_
 refine tk0 10 (some 4) (v:=.int .i64 (axisD a.s.axis ((a.dims 0).length:Int)).2) rfl hHeld ?_
 refine wpAnyH_done (by kernel_rfl) ?_ _
 have HZ:=Lib.hid hHeld.1.below
 clear hHeld hlen
 go_wp2
 go_ret
 exact ⟨rfl,HZ.out⟩
end Go.Proofs.YtilobeohkomeoaaGreat
set_option linter.unusedSimpArgs false
set_option linter.unusedVariables false
namespace Go.Proofs.YtilobeohkomeoaaGreat
open Go.RowKit
open Rep (rep)
theorem below_drews {n:Nat} {v w:World} (h:Below n v w) (m:Nat):Below n v (w.drewN m):=⟨h.os,h.tape,h.output,h.size,h.block⟩
set_option maxRecDepth 100000 in
set_option maxHeartbeats 8000000 in
theorem within_any (l m:List Int) (A B:Option Addr) (k j:Nat) (w:World) (h1:Lst w A k l) (h2:Lst w B j m) :
  Calls Tryz.prog 72 #[.slice A l.length k,.slice B m.length j] w fun e w'=>∃ x,e = .returned (.int .i64 x)∧I64 x∧Below w.heap.size w w':=by
 obtain ⟨nb,nb'⟩:=slice_bnd h1
 obtain ⟨mb,mb'⟩:=slice_bnd h2
 have HR:=Lib.hid (And.intro h1 h2)
 clear h1 h2
 go_enter Tryz.func72,Tryz.ntmps72
 go_wp2_with fail
 refine (bcast_any l m A B k j w HR.out.1 HR.out.2).mono ?_
 rintro e w1 ⟨C,c,x,out,rfl,hx,hb,ho,-,-⟩
 have H:=Lib.hid (And.intro hx (And.intro hb (And.intro ho (HR.out.2.next hb))))
 obtain ⟨ob,ob'⟩:=slice_bnd ho.own
 clear hx hb ho
 by_cases h4:x = 4
 ·subst h4
  go_wp2
  go_ret
  exact ⟨_,rfl,by unfold I64;omega,H.out.2.1⟩
 ·by_cases h0:x = 0
  ·subst h0
   go_wp2_with fail
   refine (equalInts_any out m C B c j w1 H.out.2.2.1.rep H.out.2.2.2).mono ?_
   rintro e w2 ⟨rfl,n,rfl⟩
   generalize decide (out = m) = t
   cases t
   all_goals
    go_wp2
    go_ret
    exact ⟨_,rfl,by unfold I64;omega,below_drews H.out.2.1 n⟩
  ·have h0':(x != 0) = true:=by simpa using h0
   go_wp2
   go_ret
   exact ⟨_,rfl,by unfold I64;omega,H.out.2.1⟩
def AskD.even (a:AskD):Prop:=(∀ i,i < a.ins.length→a.dims i = a.dims 0)∧(sizeD (a.dims 0)).2 = 0
set_option maxRecDepth 100000 in
set_option maxHeartbeats 8000000 in
theorem together_any (cs:List Value) (a:AskD) (w:World) (hr:rep w (old w.heap.size) cs a) :
  Calls Tryz.prog 71 #[.agg cs.toArray] w (ShP w fun x ll=>(x = 0→ll.length = 1)∧(a.even→x = 0∧ll = [a.dims 0])):=by
 obtain ⟨A7,k7,h7,hi7⟩:=ask_ins hr
 obtain ⟨nb,nb'⟩:=slice_bnd hi7
 have H7:=Lib.hid h7
 clear h7 hi7
 go_enter Tryz.func71,Tryz.ntmps71
 go_wp2_with (with_reducible refine wpList_box_row rfl 91 _ rfl cs rfl ?_;have hX:=ask_start hr;generalize World.alloc _ _ = W0 at hX ⊢;have HX:=Lib.hid hX;clear hX hr;refine halt ?_)
 unfold Halt
 go_wp2_with (with_reducible refine wpList_load_agg rfl 91 _ rfl _ _ _ rfl cs Tryz.underlying91 rfl HX.out.size HX.out.at ?_)
 refine (askDims cs a 0 _ HX.out.arg).mono ?_
 rintro e w1 ⟨A0,k0,rfl,h0,hb⟩
 have HY:=Lib.hid (And.intro (HX.out.next hb) (show Lst w1 A0 k0 (a.dims 0) from h0))
 obtain ⟨ob,ob'⟩:=slice_bnd h0
 clear h0 hb
 go_wp2_with fail
 go_loopw [4,5] (fun d i wr=>∃ (c:Nat) (B:Option Addr) (k:Nat) (l:List Int),i = .int .i64 c∧d = .slice B l.length k∧1 ≤ c∧c ≤ a.ins.length + 1∧AskI w cs a wr∧Lst wr B k l∧(a.even→l = a.dims 0)) (fun _ i _=>a.ins.length + 1 - (intOf i).toNat)
 case atStart=>exact ⟨1,A0,k0,_,rfl,rfl,by omega,by omega,HY.out.1,HY.out.2,fun _=>rfl⟩
 case round =>
  obtain ⟨c,B,k,l,rfl,rfl,c1,c2,hX,hL,hE⟩:=hrel
  obtain ⟨lb,lb'⟩:=slice_bnd hL
  have hc7:=hX.cell H7.out
  have HA:=Lib.hid (And.intro hX (And.intro hL hE))
  clear hX hL hE
  by_cases hlt:c < a.ins.length
  ·have hlt':(c:Int) < (a.ins.length:Int):=by omega
   go_wp2_with (with_reducible refine wpList_load_agg rfl 91 _ rfl _ _ _ rfl cs Tryz.underlying91 rfl HA.out.1.size HA.out.1.at ?_)
   clear hc7
   refine (askDims cs a c _ HA.out.1.arg).mono ?_
   rintro e w2 ⟨A1,k1,rfl,h1,hb⟩
   have HB:=Lib.hid (And.intro (HA.out.1.next hb) (And.intro (HA.out.2.1.next hb) (show Lst w2 A1 k1 (a.dims c) from h1)))
   clear hb h1
   go_wp2_with fail
   refine (bcast_any l (a.dims c) B A1 k k1 w2 HB.out.2.1 HB.out.2.2).mono ?_
   rintro e w3 ⟨C,j,x,out,rfl,hx,hb,ho,hk,he⟩
   have HC:=Lib.hid (And.intro (HB.out.1.next hb) (And.intro ho.lst (And.intro hx he)))
   clear hb ho hx hk he
   by_cases h0:x = 0
   ·subst h0
    go_wp2
    go_roundw
    case rel =>
     refine ⟨c + 1,C,j,out,by go_num,rfl,by omega,by omega,HC.out.1,HC.out.2.1,fun hE=>?_⟩
     have e1:=HA.out.2.2 hE
     have e2:=(HC.out.2.2.2 (by rw [e1,hE.1 c hlt]) (by rw [e1];exact hE.2)).2
     rw [e2,e1]
    case measure=>simp [intOf];omega
   ·have h0':(x != 0) = true:=by simpa using h0
    have HN:=Lib.hid h0
    clear h0
    go_wp2
    go_ret2
    refine sh_bad HC.out.1.below HC.out.2.2.1 ⟨fun e=>absurd e HN.out,fun hE=>absurd (HC.out.2.2.2 ?_ ?_).1 HN.out⟩
    ·rw [HA.out.2.2 hE,hE.1 c hlt]
    ·rw [HA.out.2.2 hE];exact hE.2
  ·have hlt':¬ (c:Int) < (a.ins.length:Int):=by omega
   go_wp2_with fail
   clear hc7
   refine (one_any l B k wr HA.out.2.1).mono ?_
   rintro e w2 ⟨C,j,x,ll,rfl,hx,hb,hl,rfl,rfl⟩
   have HC:=Lib.hid (And.intro (HA.out.1.next hb) hl)
   clear hx hb hl
   go_wp2
   go_ret2
   exact ⟨C,j,0,[l],rfl,by unfold I64;omega,HC.out.1.below,HC.out.2,fun _=>rfl,fun hE=>⟨rfl,by rw [HA.out.2.2 hE]⟩⟩
end Go.Proofs.YtilobeohkomeoaaGreat
set_option linter.unusedSimpArgs false
set_option linter.unusedVariables false
namespace Go.Proofs.YtilobeohkomeoaaGreat
open Go.RowKit
open Rep (rep)
theorem wrap_i64 (x:Int):I64 (wrap64 x):=by unfold I64 wrap64;omega
structure LstN (n:Nat) (W:World) (A:Option Addr) (k:Nat) (l:List Int):Prop where
 le:n ≤ W.heap.size
 dat:rep W (old n) [.slice A l.length k] l
section
variable {n k b:Nat} {w W W':World} {A:Option Addr} {l:List Int} {cs:List Value} {a:AskD}
theorem LstN.next (h:LstN n W A k l) (hb:Below W.heap.size W W'):LstN n W' A k l:=⟨Nat.le_trans h.le hb.size,Rep.keep h.dat (Keeps.old_below hb h.le)⟩
theorem LstN.lst (h:LstN n W A k l):Lst W A k l:=Rep.more h.dat (old_le h.le)
theorem lst_n (hX:AskI w cs a W) (hb:Below W.heap.size W W') (h:rep W' (old w.heap.size) [.slice A l.length k] l):LstN w.heap.size W' A k l:=⟨by have:=hX.lt;have:=hb.size;omega,h⟩
theorem LstN.get (h:LstN n W A k l) {j:Nat} {z:Int} (hz:l[j]? = some z):I64 z∧∃ b o,A = some ⟨b,o,none⟩∧b < n∧W.cell? ⟨b,o + j,none⟩ = some (.int .i64 z):=int_at h.dat hz
theorem size_setC (W:World) (p:Addr) (u:Value):(W.setCell p u).heap.size = W.heap.size:=by simp [World.setCell]
theorem LstN.set (h:LstN n W A k l) {p:Addr} (hp:n ≤ p.block) (u:Value):LstN n (W.setCell p u) A k l:=⟨by rw [size_setC];exact h.le,Rep.keep h.dat (Keeps.setCell (fun e=>Nat.lt_irrefl _ (Nat.lt_of_lt_of_le e hp)) u)⟩
theorem AskI.set (h:AskI w cs a W) {p:Addr} (hp:w.heap.size < p.block) (u:Value):AskI w cs a (W.setCell p u) :=
 ⟨⟨h.box.below.setCell (by omega) u,(Below.heap_setCell _ _ _ _ (by omega)).trans h.box.row⟩,h.was⟩
theorem Own.next (h:Own W n A k l) (hb:Below W.heap.size W W'):Own W' n A k l:=h.keep hb
theorem Own.other (h:Own W n A k l) {p:Addr} (hp:p.block < n) (u:Value):Own (W.setCell p u) n A k l:=by
 unfold Own at *
 rw [size_setC]
 exact Rep.keep h (Keeps.setCell (fun (e:n ≤ p.block∧p.block < W.heap.size)=>by omega) u)
theorem Own.len (h:Own W n A k l):l.length * 8 ≤ 140737488351232:=by
 obtain ⟨_,_,_,_,_,_,hb,_,_⟩:=open_slice (α:=Int) h
 exact hb
theorem Own.at {o:Nat} (h:Own W n (some ⟨b,o,none⟩) k l) {j:Nat} {z:Int} (hz:l[j]? = some z):I64 z∧n ≤ b∧W.cell? ⟨b,o + j,none⟩ = some (.int .i64 z)∧W.frozen? ⟨b,o + j,none⟩ = false:=by
 obtain ⟨h1,b',o',e,h2⟩:=h.get hz
 injection e with e
 injection e with e1 e2
 subst e1 e2
 exact ⟨h1,h2⟩
structure OwnB (n m:Nat) (W:World) (A:Option Addr) (k:Nat) (l:List Int):Prop where
 le:m ≤ W.heap.size
 dat:rep W (fresh n m) [.slice A l.length k] l
theorem Own.bnd (h:Own W n A k l):OwnB n W.heap.size W A k l:=⟨Nat.le_refl _,h⟩
theorem OwnB.own {m:Nat} (h:OwnB n m W A k l):Own W n A k l:=Rep.more h.dat ⟨fun b e=>⟨e.1,Nat.lt_of_lt_of_le e.2 h.le⟩,fun e=>e⟩
theorem OwnB.next {m:Nat} (h:OwnB n m W A k l) (hb:Below W.heap.size W W'):OwnB n m W' A k l:=⟨Nat.le_trans h.le hb.size,Rep.keep h.dat (Keeps.fresh_below hb h.le)⟩
theorem OwnB.set {m:Nat} (h:OwnB n m W A k l) {p:Addr} (hp:m ≤ p.block) (u:Value):OwnB n m (W.setCell p u) A k l :=
 ⟨by rw [size_setC];exact h.le,Rep.keep h.dat (Keeps.setCell (fun (e:n ≤ p.block∧p.block < m)=>by omega) u)⟩
theorem OwnB.get {m:Nat} (h:OwnB n m W A k l) {j:Nat} {z:Int} (hz:l[j]? = some z):I64 z∧∃ b o,A = some ⟨b,o,none⟩∧(n ≤ b∧b < m)∧W.cell? ⟨b,o + j,none⟩ = some (.int .i64 z)∧W.frozen? ⟨b,o + j,none⟩ = false:=by
 obtain ⟨h1,b,o,rfl,hb,hc⟩:=int_at h.dat hz
 obtain ⟨-,-,h3,h4⟩:=h.own.at hz
 exact ⟨h1,b,o,rfl,hb,h3,h4⟩
theorem OwnB.write {m o:Nat} (h:OwnB n m W (some ⟨b,o,none⟩) k l) {j:Nat} (hj:j < l.length) {x:Int} (hx:I64 x):OwnB n m (W.setCell ⟨b,o + j,none⟩ (.int .i64 x)) (some ⟨b,o,none⟩) k (l.set j x):=by
 have hi:=h.own.i64
 obtain ⟨hle,A,q,c,xs,h1,h2,h3,h4,h5,h6,h7⟩:=h
 simp only [List.cons.injEq,Value.slice.injEq,and_true] at h1
 obtain ⟨rfl,rfl,rfl⟩:=h1
 have e:=chunks_ints h7
 subst e
 have h6':=h6.set_at (j:=j) (by rw [List.length_map];exact hj) (.int .i64 x)
 rw [← List.map_set] at h6'
 refine ⟨by rw [size_setC];exact hle,_,_,_,_,rfl,by simp,by rw [List.length_set];exact h3,h4,by simpa using h5,h6',?_⟩
 refine chunks_of_ints _ fun y hy=>?_
 rcases List.mem_or_eq_of_mem_set hy with h | rfl
 ·exact hi y h
 ·exact hx
end
end Go.Proofs.YtilobeohkomeoaaGreat
set_option linter.unusedSimpArgs false
set_option linter.unusedVariables false
namespace Go.Proofs.YtilobeohkomeoaaGreat
open Go.RowKit
open Rep (rep)
section
variable {P:Program} {ops:Array Oper} {S:World→Prop} {o:Oper} {a:Act}
theorem yields_mulW (hw:Region.wanted o (yielded ops a.tmps) = true) (x y:Operand) (t u:TypeId) (ho:o.op = .binOp .mul t x y u) (p q:Int) (hx:a.eval x = .int .i64 p) (hy:a.eval y = .int .i64 q)
  (ht:P.underlying t = some (.int .i64)):YieldsIf P ops S o (.int .i64 (wrap64 (p * q))) a :=
 .inl ⟨hw,fun w h=>by
  unfold execOp
  simp only [ho,hx,hy]
  go_simp
  exact IntWalk.i64_left _⟩
theorem yields_quoW (hw:Region.wanted o (yielded ops a.tmps) = true) (x y:Operand) (t u:TypeId) (ho:o.op = .binOp .quo t x y u) (p q:Int) (hx:a.eval x = .int .i64 p) (hy:a.eval y = .int .i64 q)
  (ht:P.underlying t = some (.int .i64)) (h0:¬ q = 0):YieldsIf P ops S o (.int .i64 (wrap64 (p.tdiv q))) a :=
 .inl ⟨hw,fun w h=>by
  unfold execOp
  simp only [ho,hx,hy]
  go_simp
  exact IntWalk.i64_left _⟩
end
set_option maxRecDepth 100000 in
set_option maxHeartbeats 8000000 in
theorem hold_any (x r:Int) (q:Addr) (w:World) (hx:I64 x) (hq:w.cell? q = some (.int .i64 r)) (h0:0 ≤ r) (h1:r ≤ 1152921504606846976):Calls Tryz.prog 130 #[.int .i64 x,.pointer (some q)] w fun e w'=>(∃ y,e = .returned (.int .i64 y)∧0 ≤ y∧y ≤ r)∧w' = w:=by
 unfold I64 at hx
 by_cases hn:x < 0
 ·have hw:wrap64 (x + r) = x + r:=by unfold wrap64;omega
  by_cases h2:x + r < 0
  all_goals
   go_enter Tryz.func130,Tryz.ntmps130
   go_wp2
  all_goals
   go_ret
   exact ⟨⟨_,rfl,by omega,by omega⟩,rfl⟩
 ·by_cases h2:x ≤ r
  all_goals
   go_enter Tryz.func130,Tryz.ntmps130
   go_wp2
  all_goals
   go_ret
   exact ⟨⟨_,rfl,by omega,by omega⟩,rfl⟩
section
variable {P:Program} {md:Region.Mode} {ops:Array Oper} {Q:Exit→Act→World→Prop} {S:World→Prop}
theorem call_v9 (i:Nat) (d:Option Tmp) {fuel:Nat} {listed:Array Bool} {a:Act} {w:World} {o:Oper} (hio:ops[i]? = some o) (hd:o.dst = d) (hr:Region.ready md ops listed = [i])
  (hw:Region.wanted o (yielded ops a.tmps) = true) (f:FuncId) (x:Operand) (caps:Array Value) (hx:a.eval x = .func (.func f) #[] caps) (xs:Array Operand) (ts:Array TypeId) (ho:o.op = .call { callee:=.value x,args:=xs,argTypes:=ts }) (vs:Array Value) (hv:xs.map a.eval++caps = vs) (hc:∀ w,(callFunc f vs).run P w = .ok (.enter f vs) w)
  (h:Calls P f vs w fun e w'=>∃ u,e = .returned u∧S w'∧wpAnyH P md ops Q S fuel (listed.setIfInBounds i true) (a.put d u) w'):wpAnyH P md ops Q S (fuel + 1) listed a w:=by
 subst hd
 refine wpAnyH_ready hr (by simp) (AllReadyH.cons hio (fun K hK=>?_) AllReadyH.nil)
 rw [if_pos hw]
 unfold Oper.wp
 simp only [execOp,ho]
 simp [hv,hx,resolve,invoke,Deferred.ofValue,hc]
 refine h.mono fun e w' ⟨u,he,hS,hk⟩=>?_
 subst he
 exact hK.out _ _ hS (fun _=>hk)
end
structure SpanI (w:World) (ss:List Value) (r:Int) (W:World):Prop where
 row:W.heap[w.heap.size]? = some (.cells ss.toArray 48 (0,0))
 num:W.heap[w.heap.size + 1]? = some (.cells #[.int .i64 r] 3 (0,0))
 below:Below w.heap.size w W
theorem SpanI.drew {w W:World} {ss:List Value} {r:Int} (h:SpanI w ss r W):SpanI w ss r W.drew:=⟨h.row,h.num,h.below.drew⟩
theorem SpanI.cell {w W:World} {ss:List Value} {r:Int} (h:SpanI w ss r W) {j:Nat} {u:Value} (hu:ss[j]? = some u):W.cell? ⟨w.heap.size,j,none⟩ = some u:=(cell_of_row _ _ _ _ _ _ h.row).trans (by rw [List.getElem?_toArray];exact hu)
theorem SpanI.rank {w W:World} {ss:List Value} {r:Int} (h:SpanI w ss r W):W.cell? ⟨w.heap.size + 1,0,none⟩ = some (.int .i64 r):=cell_of_row _ _ _ _ _ _ h.num
theorem span_start (w:World) (ss:List Value) (r:Int):SpanI w ss r ((w.alloc (.cells ss.toArray 48)).alloc (.cells #[.int .i64 r] 3)):=by
 have h:=heap_alloc_new (w.alloc (.cells ss.toArray 48)) (.cells #[.int .i64 r] 3)
 rw [World.size_alloc] at h
 exact ⟨(Below.heap_alloc _ _ _ (by rw [World.size_alloc];omega)).trans (heap_alloc_new _ _),h,((Below.refl _ _).alloc (Nat.le_refl _) _).alloc (by rw [World.size_alloc];omega) _⟩
set_option maxRecDepth 100000 in
set_option maxHeartbeats 8000000 in
theorem span_any (ss:List Value) (t:SettingD) (Z:Zone) (r:Int) (w w0:World) (hs:SettingDAt w0 Z ss t) (h0:0 ≤ r) (h1:r ≤ 1152921504606846976) :
  Calls Tryz.prog 121 #[.agg ss.toArray,.int .i64 r] w fun e w'=>∃ x y,e = .returned (.tuple #[.int .i64 x,.int .i64 y])∧0 ≤ x∧x ≤ r∧0 ≤ y∧y ≤ r∧Below w.heap.size w w':=by
 have HF:=Lib.hid (And.intro (fld_int hs.f28) (And.intro (fld_int hs.f29) (fld_bool hs.f30)))
 clear hs
 have hX:=span_start w ss r
 have hE:=hX.cell HF.out.2.2
 generalize t.hasEnd = b at hE
 cases b with
 | true =>
  go_enter Tryz.func121,Tryz.ntmps121
  go_wp2_with (with_reducible refine wpList_box_row rfl 48 _ rfl ss rfl ?_)
  clear hE
  generalize World.alloc _ _ = W0 at hX ⊢
  have HX:=Lib.hid hX
  clear hX
  refine wp_region_held_drew (S:=fun W=>SpanI w ss r W) (by kernel_rfl) HX.out.drew (fun hHeld=>?_)
  generalize World.drew _ = V0 at hHeld ⊢
  refine tk0 0 (some 10) (v:=.func (.func 130) #[] #[.pointer (some ⟨w.heap.size + 1,0,none⟩)]) rfl hHeld ?_
  refine tk0 1 (some 11) (v:=.pointer (some ⟨w.heap.size,28,none⟩)) rfl hHeld ?_
  refine tk9 2 (some 12) (v:=.int .i64 t.start) rfl (yields_load_one9 (by kernel_rfl) _ _ rfl (w.heap.size) (28) (by kernel_rfl) _ _ Tryz.underlying3 rfl (fun _ h=>h.cell HF.out.1.1)) hHeld ?_
  refine tk0 4 (some 14) (v:=.func (.func 130) #[] #[.pointer (some ⟨w.heap.size + 1,0,none⟩)]) rfl hHeld ?_
  refine tk0 5 (some 15) (v:=.pointer (some ⟨w.heap.size,29,none⟩)) rfl hHeld ?_
  refine tk9 6 (some 16) (v:=.int .i64 t.stop) rfl (yields_load_one9 (by kernel_rfl) _ _ rfl (w.heap.size) (29) (by kernel_rfl) _ _ Tryz.underlying3 rfl (fun _ h=>h.cell HF.out.2.1.1)) hHeld ?_
  refine call_v9 3 (some 13) rfl (by kernel_rfl) (by kernel_rfl) (by kernel_rfl) 130 _ #[.pointer (some ⟨w.heap.size + 1,0,none⟩)] (by kernel_rfl) _ _ rfl #[.int .i64 t.start,.pointer (some ⟨w.heap.size + 1,0,none⟩)] (by kernel_rfl) (fun w=>by kernel_rfl) ?_
  refine (hold_any t.start r ⟨w.heap.size + 1,0,none⟩ _ HF.out.1.2 hHeld.rank h0 h1).mono ?_
  rintro e Vy ⟨⟨y,rfl,y0,y1⟩,rfl⟩
  refine ⟨_,rfl,hHeld,?_⟩
  refine call_v9 7 (some 17) rfl (by kernel_rfl) (by kernel_rfl) (by kernel_rfl) 130 _ #[.pointer (some ⟨w.heap.size + 1,0,none⟩)] (by kernel_rfl) _ _ rfl #[.int .i64 t.stop,.pointer (some ⟨w.heap.size + 1,0,none⟩)] (by kernel_rfl) (fun w=>by kernel_rfl) ?_
  refine (hold_any t.stop r ⟨w.heap.size + 1,0,none⟩ _ HF.out.2.1.2 hHeld.rank h0 h1).mono ?_
  rintro e Vz ⟨⟨z,rfl,z0,z1⟩,rfl⟩
  refine ⟨_,rfl,hHeld,?_⟩
  refine tk0 8 (some 4) (v:=.int .i64 y) rfl hHeld ?_
  refine tk0 9 (some 5) (v:=.int .i64 z) rfl hHeld ?_
  refine wpAnyH_done (by kernel_rfl) ?_ _
  have HZ:=Lib.hid hHeld.below
  clear hHeld
  go_wp2
  go_ret2
  exact ⟨y,z,by kernel_rfl,y0,y1,z0,z1,HZ.out⟩
 | false =>
  go_enter Tryz.func121,Tryz.ntmps121
  go_wp2_with (with_reducible refine wpList_box_row rfl 48 _ rfl ss rfl ?_)
  clear hE
  generalize World.alloc _ _ = W0 at hX ⊢
  have HX:=Lib.hid hX
  clear hX
  refine wp_region_held_drew (S:=fun W=>SpanI w ss r W) (by kernel_rfl) HX.out.drew (fun hHeld=>?_)
  generalize World.drew _ = V0 at hHeld ⊢
  refine tk0 0 (some 18) (v:=.func (.func 130) #[] #[.pointer (some ⟨w.heap.size + 1,0,none⟩)]) rfl hHeld ?_
  refine tk0 1 (some 19) (v:=.pointer (some ⟨w.heap.size,28,none⟩)) rfl hHeld ?_
  refine tk9 2 (some 20) (v:=.int .i64 t.start) rfl (yields_load_one9 (by kernel_rfl) _ _ rfl (w.heap.size) (28) (by kernel_rfl) _ _ Tryz.underlying3 rfl (fun _ h=>h.cell HF.out.1.1)) hHeld ?_
  refine tk9 4 (some 22) (v:=.int .i64 r) rfl (yields_load_one9 (by kernel_rfl) _ _ rfl (w.heap.size + 1) (0) (by kernel_rfl) _ _ Tryz.underlying3 rfl (fun _ h=>h.rank)) hHeld ?_
  refine call_v9 3 (some 21) rfl (by kernel_rfl) (by kernel_rfl) (by kernel_rfl) 130 _ #[.pointer (some ⟨w.heap.size + 1,0,none⟩)] (by kernel_rfl) _ _ rfl #[.int .i64 t.start,.pointer (some ⟨w.heap.size + 1,0,none⟩)] (by kernel_rfl) (fun w=>by kernel_rfl) ?_
  refine (hold_any t.start r ⟨w.heap.size + 1,0,none⟩ _ HF.out.1.2 hHeld.rank h0 h1).mono ?_
  rintro e Vy ⟨⟨y,rfl,y0,y1⟩,rfl⟩
  refine ⟨_,rfl,hHeld,?_⟩
  refine tk0 5 (some 4) (v:=.int .i64 y) rfl hHeld ?_
  refine tk0 6 (some 5) (v:=.int .i64 r) rfl hHeld ?_
  refine wpAnyH_done (by kernel_rfl) ?_ _
  have HZ:=Lib.hid hHeld.below
  clear hHeld
  go_wp2
  go_ret2
  exact ⟨y,r,by kernel_rfl,y0,y1,h0,Int.le_refl _,HZ.out⟩
end Go.Proofs.YtilobeohkomeoaaGreat
