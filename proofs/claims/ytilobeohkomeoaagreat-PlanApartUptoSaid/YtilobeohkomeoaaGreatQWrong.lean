/-
  Chapter 10: do the attributes fit? No condition.
-/
/-
  Chapter 10: what is wrong ahead of shapes. No condition.
-/
import Derived.Deep.CutBlock
import Derived.Test.YtilobeohkomeoaaGreatQOuts
import Derived.Test.YtilobeohkomeoaaGreatQInfW
set_option linter.unusedSimpArgs false
set_option linter.unusedVariables false
namespace Go.Proofs.YtilobeohkomeoaaGreat
open Go.RowKit
open Rep (rep)
structure AskD.Att (a:AskD):Prop where
 perm:a.op = 45→a.s.hasPerm = true→a.s.perm.length = (a.dims 0).length∧∀ k ∈ a.s.perm,0 ≤ k∧k < ((a.dims 0).length:Int)
 axis:a.op = 47 ∨ a.op = 48 ∨ a.op = 50 ∨ a.op = 51 ∨ a.op = 52 ∨ a.op = 80→(axisD a.s.axis ((a.dims 0).length:Int)).2 = 0
 flat:a.op = 58→-((a.dims 0).length:Int) ≤ a.s.axis∧a.s.axis ≤ ((a.dims 0).length:Int)
 block:a.op = 63 ∨ a.op = 64→1 ≤ a.s.block∧a.s.block ≤ 4096
 group:a.op = 75→1 ≤ a.s.group
 frames:a.op = 75 ∨ a.op = 76 ∨ a.op = 77→manyD a.s.strides 2 = true∧manyD a.s.dilations 2 = true∧manyD a.s.pads 4 = true
 kernel:a.op = 76 ∨ a.op = 77→a.s.kernel.length = 2
def AttB (a:AskD) (b:Bool):Prop:=(b = true→a.Att)∧(a.op = 28 ∨ a.op = 16 ∨ a.op = 2→b = true)
theorem att_void {a:AskD} {b:Bool} (h:¬ (a.op = 28 ∨ a.op = 16 ∨ a.op = 2)∧¬ (a.op = 45 ∨ a.op = 47 ∨ a.op = 48 ∨ a.op = 50 ∨ a.op = 51 ∨ a.op = 52 ∨ a.op = 80 ∨ a.op = 58 ∨ a.op = 63 ∨ a.op = 64 ∨ a.op = 75 ∨ a.op = 76 ∨ a.op = 77)):AttB a b :=
 ⟨fun _=>⟨fun e=>by omega,fun e=>by omega,fun e=>by omega,fun e=>by omega,fun e=>by omega,fun e=>by omega,fun e=>by omega⟩,fun e=>absurd e h.1⟩
theorem att_void' {a:AskD} {b:Bool} (hb:b = false ∨ ¬ (a.op = 45 ∨ a.op = 47 ∨ a.op = 48 ∨ a.op = 50 ∨ a.op = 51 ∨ a.op = 52 ∨ a.op = 80 ∨ a.op = 58 ∨ a.op = 63 ∨ a.op = 64 ∨ a.op = 75 ∨ a.op = 76 ∨ a.op = 77)) (h:a.op = 28 ∨ a.op = 16 ∨ a.op = 2→b = true):AttB a b :=
 ⟨fun e=>by
  rcases hb with hb | hb
  ·rw [hb] at e;cases e
  ·exact ⟨fun e=>by omega,fun e=>by omega,fun e=>by omega,fun e=>by omega,fun e=>by omega,fun e=>by omega,fun e=>by omega⟩,h⟩
theorem yields_set {ops:Array Oper} {S:World→Prop} {o:Oper} {c:Act} {w:World} {cs ss:List Value} {a:AskD} (hw:Region.wanted o (yielded ops c.tmps) = true) (x:Operand) (ho:o.op = .load 48 x) (hx:c.eval x = .pointer (some ⟨w.heap.size,1,none⟩))
  (hS:∀ W,S W→AskI w cs a W) (hc:∀ j u,ss[j]? = some u→cs[j + 1]? = some u) (hl:ss.length = 36):YieldsIf Tryz.prog ops S o (.agg ss.toArray) c :=
 .inl ⟨hw,fun W h=>by
  unfold execOp
  simp only [ho,hx,Instr.loadAt,Instr.sureAddr,Sem.run_bind,Sem.run_pure,Result.andThen_ok,run_load_agg W _ _ _ _ ss Tryz.underlying48 rfl (by rw [hl];kernel_rfl) (fun j u hu=>by rw [Nat.add_comm];exact (hS W h).cell (hc j u hu))]⟩
structure AttI (w:World) (cs ss:List Value) (a:AskD) (q:Nat) (W:World):Prop where
 ask:AskI w cs a W
 row:W.heap[q]? = some (.cells ss.toArray 48 (0,0))
 gt:w.heap.size < q
section
variable {w W W':World} {cs ss:List Value} {a:AskD} {q:Nat}
theorem AttI.next (h:AttI w cs ss a q W) (hb:Below W.heap.size W W'):AttI w cs ss a q W':=⟨h.ask.next hb,(hb.block _ (Array.getElem?_eq_some_iff.1 h.row).1).trans h.row,h.gt⟩
theorem AttI.cell (h:AttI w cs ss a q W) {j:Nat} {u:Value} (hu:ss[j]? = some u):W.cell? ⟨q,j,none⟩ = some u:=cell_row h.row hu
theorem att_laid (h:AskI w cs a W) (hq:W.heap[q]? = some (.cells zeroS.toArray 48 (0,0))) (hg:w.heap.size < q) (hl:ss.length = 36):AttI w cs ss a q (W.setRow q (zeroS.take 0++ss++zeroS.drop (0 + ss.length)).toArray):=by
 have e:zeroS.take 0++ss++zeroS.drop (0 + ss.length) = ss:=by rw [List.take_zero,List.nil_append,Nat.zero_add,hl,← zeroS_len,List.drop_length,List.append_nil]
 rw [e]
 exact ⟨h.past hg (below_setRow' (Below.refl _ _) (Nat.le_refl _) _),heap_setRow _ _ _ _ _ hq,hg⟩
end
theorem att1_any (x:Int) (w:World):Calls Tryz.prog 89 #[.int .i64 x] w fun e w'=>e = .returned (.bool (decide (x < 0)))∧w' = w:=by
 go_enter Tryz.func89,Tryz.ntmps89
 go_wp2
 go_ret
 exact ⟨rfl,rfl⟩
set_option maxRecDepth 100000 in
set_option maxHeartbeats 8000000 in
theorem attributes_any (cs:List Value) (a:AskD) (w:World) (hr:rep w (old w.heap.size) cs a) :
  Calls Tryz.prog 68 #[.agg cs.toArray] w (BoolP w (AttB a)):=by
 have HO:=Lib.hid (ask_op hr)
 obtain ⟨ss,hs,hc⟩:=ask_set hr
 have HC:=Lib.hid (And.intro hc (And.intro (SettingDAt.len hs) (Rep.one (α:=SettingD) (show rep w (old w.heap.size) ss a.s from hs))))
 have HS:=Lib.hid hs
 clear hc hs
 go_enter Tryz.func68,Tryz.ntmps68
 go_wp2_with (with_reducible refine wpList_box_row rfl 91 _ rfl cs rfl ?_;have hX:=ask_start hr;generalize World.alloc _ _ = W0 at hX ⊢;have HX:=Lib.hid hX;clear hX hr;refine halt ?_)
 unfold Halt
 have HZ:=Lib.hid (dims_len (i:=0) HX.out)
 have HL:=Lib.hid HX.out.lt
 go_upto_region 1 with (fail)
 go_cut [3,4] from 12 to 15 (fun v u wx=>∃ q:Nat,v = .pointer (some ⟨q,0,none⟩)∧u = .int .i64 ((a.dims 0).length:Int)∧AttI w cs ss a q wx)
 case first =>
  refine wp_region_held_drew (S:=fun W=>AskI w cs a W) (by kernel_rfl) (HX.out.next ((Below.refl _ _).drew)) (fun hHeld=>?_)
  have hV:w.heap.size < W0.drew.heap.size:=HL.out
  have HV:=Lib.hid hV
  clear hV
  generalize World.drew _ = V0 at hHeld HV ⊢
  refine tk0 0 (some 12) (v:=.pointer (some ⟨w.heap.size,1,none⟩)) rfl hHeld ?_
  refine tk9 1 (some 13) (v:=.agg ss.toArray) rfl (yields_set (by kernel_rfl) _ rfl (by kernel_rfl) (fun _ h=>h) HC.out.1 HC.out.2.1) hHeld ?_
  refine tk9 2 (some 14) (v:=.agg cs.toArray) rfl (yields_ask (by kernel_rfl) _ rfl (by kernel_rfl) (fun _ h=>h)) hHeld ?_
  refine anyH_call_lay 3 4 (some 15) rfl rfl (by kernel_rfl) (by kernel_rfl) (by kernel_rfl) 87 _ _ rfl #[.agg cs.toArray] (by kernel_rfl) (fun w=>by kernel_rfl) ?ca ?cb
  case ca =>
   refine (askRank cs a _ hHeld.arg).mono ?_
   rintro e V1 ⟨rfl,hb⟩
   replace hHeld:=hHeld.next hb
   replace HV:Hid (w.heap.size < V1.heap.size):=Lib.hid (Nat.lt_of_lt_of_le HV.out hb.size)
   clear hb
   refine ⟨_,rfl,hHeld,?_⟩
   refine anyH_1 4 rfl (by kernel_rfl) ?_
   refine steps_lay (.pointer (some ⟨V1.heap.size,0,none⟩)) (.cells zeroS.toArray 48) (by kernel_rfl) (by kernel_rfl) (hHeld.next ((Below.refl _ _).alloc (Nat.le_refl _) _)) ?_
   replace hHeld:AskI w cs a (V1.alloc (.cells zeroS.toArray 48)):=hHeld.next ((Below.refl _ _).alloc (Nat.le_refl _) _)
   have hN:=heap_alloc_new V1 (.cells zeroS.toArray 48)
   obtain ⟨q,hq⟩:∃ q,V1.heap.size = q:=⟨_,rfl⟩
   rw [hq] at hN HV ⊢
   clear hq
   generalize World.alloc _ _ = V2 at hHeld hN ⊢
   have HN:=Lib.hid hN
   clear hN
   have hO:=att_laid (ss:=ss) hHeld HN.out HV.out HC.out.2.1
   refine anyH_store_agg 5 rfl (by kernel_rfl) (by kernel_rfl) 48 _ _ rfl q 0 ss (by kernel_rfl) (by kernel_rfl) 48 zeroS HN.out (by rw [HC.out.2.1];kernel_rfl) (by rw [HC.out.2.1,zeroS_len];omega) HC.out.2.2 hO.ask ?_
   generalize World.setRow _ _ _ = V3 at hO ⊢
   refine tk0 6 (some 4) (v:=.int .i64 ((a.dims 0).length:Int)) rfl hO.ask ?_
   refine wpAnyH_done (by kernel_rfl) ?_ _
   have HF:=Lib.hid hO
   clear hHeld
   simp [Act.put]
   go_wp2
   go_meet
   exact ⟨q,rfl,rfl,HF.out⟩
  case cb =>
   refine steps_lay (.pointer (some ⟨V0.heap.size,0,none⟩)) (.cells zeroS.toArray 48) (by kernel_rfl) (by kernel_rfl) (hHeld.next ((Below.refl _ _).alloc (Nat.le_refl _) _)) ?_
   replace hHeld:AskI w cs a (V0.alloc (.cells zeroS.toArray 48)):=hHeld.next ((Below.refl _ _).alloc (Nat.le_refl _) _)
   have hN:=heap_alloc_new V0 (.cells zeroS.toArray 48)
   obtain ⟨q,hq⟩:∃ q,V0.heap.size = q:=⟨_,rfl⟩
   rw [hq] at hN HV ⊢
   clear hq
   generalize World.alloc _ _ = V1 at hHeld hN ⊢
   have HN:=Lib.hid hN
   clear hN
   refine call_d9 3 (some 15) rfl (by kernel_rfl) (by kernel_rfl) (by kernel_rfl) 87 _ _ rfl #[.agg cs.toArray] (by kernel_rfl) (fun w=>by kernel_rfl) ?_
   refine (askRank cs a _ hHeld.arg).mono ?_
   rintro e V2 ⟨rfl,hb⟩
   replace hHeld:=hHeld.next hb
   replace HN:=Lib.hid ((hb.block q (Array.getElem?_eq_some_iff.1 HN.out).1).trans HN.out)
   clear hb
   refine ⟨_,rfl,hHeld,?_⟩
   have hO:=att_laid (ss:=ss) hHeld HN.out HV.out HC.out.2.1
   refine anyH_store_agg 5 rfl (by kernel_rfl) (by kernel_rfl) 48 _ _ rfl q 0 ss (by kernel_rfl) (by kernel_rfl) 48 zeroS HN.out (by rw [HC.out.2.1];kernel_rfl) (by rw [HC.out.2.1,zeroS_len];omega) HC.out.2.2 hO.ask ?_
   generalize World.setRow _ _ _ = V3 at hO ⊢
   refine tk0 6 (some 4) (v:=.int .i64 ((a.dims 0).length:Int)) rfl hO.ask ?_
   refine wpAnyH_done (by kernel_rfl) ?_ _
   have HF:=Lib.hid hO
   clear hHeld
   simp [Act.put]
   go_wp2
   go_meet
   exact ⟨q,rfl,rfl,HF.out⟩
 case rest =>
  obtain ⟨q,rfl,rfl,hI⟩:=hcut
  obtain ⟨wb,rfl⟩:∃ wb,wb = wc:=⟨_,rfl⟩
  replace HX:=Lib.hid hI
  clear hI HL
  have c0:=HX.out.ask.cell HO.out.1
  obtain ⟨op,hop⟩:∃ op,a.op = op:=⟨_,rfl⟩
  rw [hop] at c0
  have HP:=Lib.hid hop
  clear hop
  by_cases h32:op = 32
  ·subst h32
   have HN:Hid (¬ (a.op = 28 ∨ a.op = 16 ∨ a.op = 2)∧¬ (a.op = 45 ∨ a.op = 47 ∨ a.op = 48 ∨ a.op = 50 ∨ a.op = 51 ∨ a.op = 52 ∨ a.op = 80 ∨ a.op = 58 ∨ a.op = 63 ∨ a.op = 64 ∨ a.op = 75 ∨ a.op = 76 ∨ a.op = 77)):=Lib.hid (by have:=HP.out;omega)
   have c14:=HX.out.cell (fld_bool HS.out.f14)
   generalize a.s.fmod = fm at c14
   cases fm with
   | true =>
    go_wp2
    go_ret
    exact ⟨_,rfl,HX.out.ask.below,att_void HN.out⟩
   | false =>
    go_wp2_with (with_reducible refine wpList_load_agg_w (by kernel_rfl) 91 _ rfl _ _ _ rfl cs Tryz.underlying91 rfl HX.out.ask.size HX.out.ask.at ?_)
    refine (askVal cs a 0 _ HX.out.ask.arg).mono ?_
    rintro e w2 ⟨vs,rfl,hv,hb⟩
    obtain ⟨A1,k1,A2,k2,A3,k3,A4,k4,A5,k5,rfl,-,-,-⟩:=open_ValD hv
    replace HX:=Lib.hid (HX.out.next hb)
    clear hv hb
    have hf:=val_type
    go_wp2
    go_ret
    exact ⟨_,rfl,HX.out.ask.below,att_void HN.out⟩
  by_cases h44:op = 44
  ·subst h44
   have HN:Hid (¬ (a.op = 28 ∨ a.op = 16 ∨ a.op = 2)∧¬ (a.op = 45 ∨ a.op = 47 ∨ a.op = 48 ∨ a.op = 50 ∨ a.op = 51 ∨ a.op = 52 ∨ a.op = 80 ∨ a.op = 58 ∨ a.op = 63 ∨ a.op = 64 ∨ a.op = 75 ∨ a.op = 76 ∨ a.op = 77)):=Lib.hid (by have:=HP.out;omega)
   have c15:=HX.out.cell (fld_int HS.out.f15).1
   go_wp2_with fail
   refine (width_any a.s.dest _).mono ?_
   rintro e w2 ⟨rfl,rfl⟩
   generalize widthD a.s.dest = y
   go_wp2
   go_ret
   exact ⟨_,rfl,HX.out.ask.below,att_void HN.out⟩
  by_cases h62:op = 62
  ·subst h62
   have HN:Hid (¬ (a.op = 28 ∨ a.op = 16 ∨ a.op = 2)∧¬ (a.op = 45 ∨ a.op = 47 ∨ a.op = 48 ∨ a.op = 50 ∨ a.op = 51 ∨ a.op = 52 ∨ a.op = 80 ∨ a.op = 58 ∨ a.op = 63 ∨ a.op = 64 ∨ a.op = 75 ∨ a.op = 76 ∨ a.op = 77)):=Lib.hid (by have:=HP.out;omega)
   obtain ⟨B2,j2,B3,j3,B4,j4,B5,j5,htv,-,-,t2,t3,t4⟩:=open_TensorD HS.out.f31
   have hat:At wb q 31 [.int .i64 a.s.value.type,.slice B2 a.s.value.dims.length j2,.slice B3 a.s.value.f.length j3,.slice B4 a.s.value.i.length j4,.slice B5 a.s.value.b.length j5]:=fun j u hu=>HX.out.cell (by rw [← htv,List.getElem?_drop] at hu;exact hu)
   have hRV:rep w (old w.heap.size) [.int .i64 a.s.value.type,.slice B2 a.s.value.dims.length j2,.slice B3 a.s.value.f.length j3,.slice B4 a.s.value.i.length j4,.slice B5 a.s.value.b.length j5] a.s.value:=by rw [← htv];exact HS.out.f31
   have m2:a.s.value.f.length * 4 ≤ 140737488351232:=len_bnd t2
   have m3:a.s.value.i.length * 8 ≤ 140737488351232:=len_bnd t3
   have m4:a.s.value.b.length * 1 ≤ 140737488351232:=len_bnd t4
   obtain ⟨n2,n2'⟩:=slice_bnd t2
   obtain ⟨n3,n3'⟩:=slice_bnd t3
   obtain ⟨n4,n4'⟩:=slice_bnd t4
   have c33:wb.cell? ⟨q,33,none⟩ = some (.slice B3 a.s.value.f.length j3):=hat 2 _ rfl
   have c34:wb.cell? ⟨q,34,none⟩ = some (.slice B4 a.s.value.i.length j4):=hat 3 _ rfl
   have c35:wb.cell? ⟨q,35,none⟩ = some (.slice B5 a.s.value.b.length j5):=hat 4 _ rfl
   have HT:=Lib.hid (And.intro hat hRV)
   clear htv hat hRV t2 t3 t4
   by_cases h1:(a.s.value.f.length:Int) + (a.s.value.i.length:Int) + (a.s.value.b.length:Int) = 1
   ·go_wp2_with (with_reducible refine wpList_load_agg_w (by kernel_rfl) 43 _ rfl _ _ _ rfl [.int .i64 a.s.value.type,.slice B2 a.s.value.dims.length j2,.slice B3 a.s.value.f.length j3,.slice B4 a.s.value.i.length j4,.slice B5 a.s.value.b.length j5] Tryz.underlying43 rfl (by kernel_rfl) HT.out.1 ?_)
    refine (tcheck_any _ a.s.value _ (Rep.more (Rep.keep HT.out.2 (Keeps.old_below HX.out.ask.below (Nat.le_refl _))) (old_le HX.out.ask.below.size))).mono ?_
    rintro e w2 ⟨rfl,hb⟩
    replace HX:=Lib.hid (HX.out.next hb)
    clear hb
    generalize tcheckD a.s.value = y
    go_wp2
    go_ret
    exact ⟨_,rfl,HX.out.ask.below,att_void HN.out⟩
   ·have h1':((a.s.value.f.length:Int) + (a.s.value.i.length:Int) + (a.s.value.b.length:Int) == 1) = false:=beq_eq_false_iff_ne.2 h1
    clear h1
    go_wp2
    go_ret
    exact ⟨_,rfl,HX.out.ask.below,att_void HN.out⟩
  by_cases hbk:op = 63 ∨ op = 64
  ·rcases hbk with rfl | rfl
   all_goals
    have c27:=HX.out.cell (fld_int HS.out.f27).1
    have HB:Hid (a.s.block = a.s.block):=Lib.hid rfl
    by_cases h1:a.s.block ≥ 1
    ·have H1:=Lib.hid h1
     have HP2:=HP
     go_wp2
     go_ret
     refine ⟨_,rfl,HX.out.ask.below,⟨fun e=>?_,fun e=>?_⟩⟩
     ·have h2:=of_decide_eq_true e
      have h3:=HP.out
      exact ⟨fun e=>by omega,fun e=>by omega,fun e=>by omega,fun _=>⟨H1.out,h2⟩,fun e=>by omega,fun e=>by omega,fun e=>by omega⟩
     ·have:=HP.out;omega
    ·have HP2:=HP
     go_wp2
     go_ret
     exact ⟨false,rfl,HX.out.ask.below,att_void' (.inl rfl) (by have:=HP.out;omega)⟩
  by_cases hax:op = 47 ∨ op = 48 ∨ op = 50 ∨ op = 51 ∨ op = 52 ∨ op = 70 ∨ op = 71 ∨ op = 72 ∨ op = 80
  ·rcases hax with rfl | rfl | rfl | rfl | rfl | rfl | rfl | rfl | rfl
   all_goals
    have c5:=HX.out.cell (fld_int HS.out.f0).1
    have HI:=Lib.hid (fld_int HS.out.f0).2
    have hlen:=HZ.out
    go_wp2_with fail
    refine (axis_any a.s.axis (a.dims 0).length _ HI.out (by unfold I64;omega) (by omega)).mono ?_
    rintro e w2 ⟨rfl,rfl⟩
    have HE:Hid ((axisD a.s.axis ((a.dims 0).length:Int)).2 = (axisD a.s.axis ((a.dims 0).length:Int)).2):=Lib.hid rfl
    obtain ⟨y,hy⟩:∃ y,axisD a.s.axis ((a.dims 0).length:Int) = y:=⟨_,rfl⟩
    rw [hy]
    replace HE:=Lib.hid hy
    clear hy
    obtain ⟨y1,y2⟩:=y
    simp only
    go_wp2
    go_ret
    refine ⟨_,rfl,HX.out.ask.below,⟨fun e=>?_,fun e=>?_⟩⟩
    ·have h2:y2 = 0:=by simpa using e
     have h3:=HP.out
     exact ⟨fun e=>by omega,fun _=>by rw [HE.out];exact h2,fun e=>by omega,fun e=>by omega,fun e=>by omega,fun e=>by omega,fun e=>by omega⟩
    ·have:=HP.out;omega
  by_cases h58:op = 58
  ·subst h58
   have c5:=HX.out.cell (fld_int HS.out.f0).1
   have HI:=Lib.hid (fld_int HS.out.f0).2
   have hlen:=HZ.out
   have hn1:(-9223372036854775808:Int) ≤ -((a.dims 0).length:Int):=by omega
   have hn2:-((a.dims 0).length:Int) ≤ (9223372036854775807:Int):=by omega
   have hneg:IntKind.i64.wrap (-((a.dims 0).length:Int)) = -((a.dims 0).length:Int):=IntWalk.i64_in _ (by omega)
   by_cases h1:a.s.axis ≥ -((a.dims 0).length:Int)
   ·have H1:=Lib.hid h1
    go_wp2
    go_ret
    refine ⟨_,rfl,HX.out.ask.below,⟨fun e=>?_,fun e=>?_⟩⟩
    ·have h2:=of_decide_eq_true e
     have h3:=HP.out
     exact ⟨fun e=>by omega,fun e=>by omega,fun _=>⟨H1.out,h2⟩,fun e=>by omega,fun e=>by omega,fun e=>by omega,fun e=>by omega⟩
    ·have:=HP.out;omega
   ·skip
    go_wp2
    go_ret
    exact ⟨false,rfl,HX.out.ask.below,att_void' (.inl rfl) (by have:=HP.out;omega)⟩
  by_cases hrd:op = 66 ∨ op = 67 ∨ op = 68 ∨ op = 69
  ·rcases hrd with rfl | rfl | rfl | rfl
   all_goals
    have HN:Hid (¬ (a.op = 28 ∨ a.op = 16 ∨ a.op = 2)∧¬ (a.op = 45 ∨ a.op = 47 ∨ a.op = 48 ∨ a.op = 50 ∨ a.op = 51 ∨ a.op = 52 ∨ a.op = 80 ∨ a.op = 58 ∨ a.op = 63 ∨ a.op = 64 ∨ a.op = 75 ∨ a.op = 76 ∨ a.op = 77)):=Lib.hid (by have:=HP.out;omega)
    obtain ⟨Ax,kx,s1,r1⟩:=fld_list HS.out.f1
    have c6:=HX.out.cell s1
    have HR:Hid (rep wb (old wb.heap.size) [.slice Ax a.s.axes.length kx] a.s.axes):=Lib.hid (Rep.more (Rep.keep r1 (Keeps.old_below HX.out.ask.below (Nat.le_refl _))) (old_le HX.out.ask.below.size))
    obtain ⟨xb,xb'⟩:=slice_bnd r1
    have hlen:=HZ.out
    clear s1 r1
    go_wp2_with fail
    refine (axes_any a.s.axes Ax kx _ _ HR.out (by unfold I64;omega)).mono ?_
    rintro e w2 ⟨B,j,x,bs,rfl,hx,hb,-,-,-⟩
    replace HX:=Lib.hid (HX.out.next hb)
    clear hb hx
    go_wp2
    go_ret
    exact ⟨_,rfl,HX.out.ask.below,att_void HN.out⟩
  by_cases h45:op = 45
  ·subst h45
   obtain ⟨Ax,kx,s1,r1⟩:=fld_list HS.out.f7
   have c7:=HX.out.cell s1
   have c8:=HX.out.cell (fld_bool HS.out.f8)
   have HR:Hid (rep wb (old wb.heap.size) [.slice Ax a.s.perm.length kx] a.s.perm):=Lib.hid (Rep.more (Rep.keep r1 (Keeps.old_below HX.out.ask.below (Nat.le_refl _))) (old_le HX.out.ask.below.size))
   have HC7:=Lib.hid (And.intro s1 (fld_bool HS.out.f8))
   obtain ⟨xb,xb'⟩:=slice_bnd r1
   have hlen:=HZ.out
   clear s1 r1
   go_wp2_with fail
   refine (axes_any a.s.perm Ax kx _ _ HR.out (by unfold I64;omega)).mono ?_
   rintro e w2 ⟨B,j,x,bs,rfl,hx,hb,hbs,h0,-⟩
   replace HX:=Lib.hid (HX.out.next hb)
   replace HR:Hid (rep w2 (old w2.heap.size) [.slice Ax a.s.perm.length kx] a.s.perm):=Lib.hid (Rep.more (Rep.keep HR.out (Keeps.old_below hb (Nat.le_refl _))) (old_le hb.size))
   have H0:=Lib.hid h0
   obtain ⟨yb,yb'⟩:=slice_bnd hbs
   clear hb hx hbs h0 c7 c8
   have c7:=HX.out.cell HC7.out.1
   have c8:=HX.out.cell HC7.out.2
   obtain ⟨hp,hhp⟩:∃ hp,a.s.hasPerm = hp:=⟨_,rfl⟩
   rw [hhp] at c8
   have HH:=Lib.hid hhp
   clear hhp
   cases hp with
   | false =>
    go_wp2
    go_ret
    refine ⟨_,rfl,HX.out.ask.below,⟨fun _=>?_,by have:=HP.out;omega⟩⟩
    have h3:=HP.out
    exact ⟨fun _ e=>by (rw [HH.out] at e;cases e),fun e=>by omega,fun e=>by omega,fun e=>by omega,fun e=>by omega,fun e=>by omega,fun e=>by omega⟩
   | true =>
    by_cases hx0:x = 0
    ·have H00:=Lib.hid (H0.out hx0)
     subst hx0
     by_cases hl:(a.s.perm.length:Int) = (bs.length:Int)
     ·have HLL:=Lib.hid hl
      go_wp2_with fail
      refine (containsInts0_any a.s.perm _ 89 (fun d=>decide (d < 0)) (fun W=>W = w2) w2 (fun _ _=>rfl) HR.out rfl (fun W h=>by rw [h];exact Below.refl _ _) fun x _ _ W hW=>(att1_any x W).mono (by rintro e w' ⟨rfl,rfl⟩;exact ⟨rfl,hW⟩)).mono ?_
      rintro e w3 ⟨rfl,rfl⟩
      obtain ⟨t1,ht1⟩:∃ t,(a.s.perm.any fun d=>decide (d < 0)) = t:=⟨_,rfl⟩
      rw [ht1]
      have HT:=Lib.hid ht1
      clear ht1
      go_wp2
      go_ret
      refine ⟨!t1,rfl,HX.out.ask.below,⟨fun e=>?_,by have:=HP.out;omega⟩⟩
      have h3:=HP.out
      refine ⟨fun _ _=>?_,fun e=>by omega,fun e=>by omega,fun e=>by omega,fun e=>by omega,fun e=>by omega,fun e=>by omega⟩
      obtain ⟨e1,e2,e3,e4⟩:=H00.out
      have e5:=HLL.out
      refine ⟨by omega,fun k hk=>?_⟩
      have e6:t1 = false:=by cases t1 with
       | false=>rfl
       | true=>cases e
      have e7:=List.any_eq_false.1 (HT.out.trans e6) k hk
      have e8:¬ k < 0:=by simpa using e7
      have e9:=e3 k hk
      unfold axisD at e9
      have e10:¬ ((a.dims 0).length:Int) < 0:=by omega
      rw [if_neg e10] at e9
      by_cases e11:0 ≤ k∧k < ((a.dims 0).length:Int)
      ·exact e11
      ·rw [if_neg e11,if_neg (by omega)] at e9
       cases e9
     ·have hl':((a.s.perm.length:Int) == (bs.length:Int)) = false:=beq_eq_false_iff_ne.2 hl
      clear hl
      go_wp2
      go_ret
      exact ⟨false,rfl,HX.out.ask.below,att_void' (.inl rfl) (by have:=HP.out;omega)⟩
    ·have hx':(x == 0) = false:=beq_eq_false_iff_ne.2 hx0
     clear hx0
     go_wp2
     go_ret
     exact ⟨false,rfl,HX.out.ask.below,att_void' (.inl rfl) (by have:=HP.out;omega)⟩
  by_cases h75:op = 75
  ·subst h75
   obtain ⟨Ax,kx,s1,r1⟩:=fld_list HS.out.f20
   have c20:=HX.out.cell s1
   obtain ⟨xb,xb'⟩:=slice_bnd r1
   clear s1 r1
   have c19:=HX.out.cell (fld_int HS.out.f19).1
   by_cases h1:a.s.group ≥ 1
   ·have H1:=Lib.hid h1
    by_cases h2:a.s.group ≤ 4096
    ·go_wp2_with fail
     refine (many_any a.s.kernel Ax kx 2 _).mono ?_
     rintro e w2 ⟨rfl,rfl⟩
     obtain ⟨t1,ht1⟩:∃ t,manyD a.s.kernel 2 = t:=⟨_,rfl⟩
     rw [ht1]
     clear ht1
     cases t1 with
     | false =>
      go_wp2
      go_ret
      exact ⟨false,rfl,HX.out.ask.below,att_void' (.inl rfl) (by have:=HP.out;omega)⟩
     | true =>
      go_wp2_with (with_reducible refine wpList_load_agg_w (by kernel_rfl) 91 _ rfl _ _ _ rfl cs Tryz.underlying91 rfl HX.out.ask.size HX.out.ask.at ?_)
      refine (frames_any cs a _ HX.out.ask.arg).mono ?_
      rintro e w3 ⟨rfl,hb⟩
      replace HX:=Lib.hid (HX.out.next hb)
      clear hb
      obtain ⟨t2,ht2⟩:∃ t,(manyD a.s.strides 2 && manyD a.s.dilations 2 && manyD a.s.pads 4) = t:=⟨_,rfl⟩
      rw [ht2]
      have HT2:=Lib.hid ht2
      clear ht2
      go_wp2
      go_ret
      refine ⟨t2,rfl,HX.out.ask.below,⟨fun e=>?_,by have:=HP.out;omega⟩⟩
      have h3:=HP.out
      have h4:=HT2.out.trans e
      rw [Bool.and_eq_true,Bool.and_eq_true] at h4
      exact ⟨fun e=>by omega,fun e=>by omega,fun e=>by omega,fun e=>by omega,fun _=>H1.out,fun _=>⟨h4.1.1,h4.1.2,h4.2⟩,fun e=>by omega⟩
    ·skip
     go_wp2
     go_ret
     exact ⟨false,rfl,HX.out.ask.below,att_void' (.inl rfl) (by have:=HP.out;omega)⟩
   ·skip
    go_wp2
    go_ret
    exact ⟨false,rfl,HX.out.ask.below,att_void' (.inl rfl) (by have:=HP.out;omega)⟩
  by_cases hpl:op = 76 ∨ op = 77
  ·rcases hpl with rfl | rfl
   all_goals
    obtain ⟨Ax,kx,s1,r1⟩:=fld_list HS.out.f20
    have c20:=HX.out.cell s1
    obtain ⟨xb,xb'⟩:=slice_bnd r1
    clear s1 r1
    by_cases h1:(a.s.kernel.length:Int) = 2
    ·have H1:=Lib.hid h1
     go_wp2_with (with_reducible refine wpList_load_agg_w (by kernel_rfl) 91 _ rfl _ _ _ rfl cs Tryz.underlying91 rfl HX.out.ask.size HX.out.ask.at ?_)
     refine (frames_any cs a _ HX.out.ask.arg).mono ?_
     rintro e w3 ⟨rfl,hb⟩
     replace HX:=Lib.hid (HX.out.next hb)
     clear hb
     obtain ⟨t2,ht2⟩:∃ t,(manyD a.s.strides 2 && manyD a.s.dilations 2 && manyD a.s.pads 4) = t:=⟨_,rfl⟩
     rw [ht2]
     have HT2:=Lib.hid ht2
     clear ht2
     go_wp2
     go_ret
     refine ⟨t2,rfl,HX.out.ask.below,⟨fun e=>?_,by have:=HP.out;omega⟩⟩
     have h3:=HP.out
     have h4:=HT2.out.trans e
     rw [Bool.and_eq_true,Bool.and_eq_true] at h4
     exact ⟨fun e=>by omega,fun e=>by omega,fun e=>by omega,fun e=>by omega,fun e=>by omega,fun _=>⟨h4.1.1,h4.1.2,h4.2⟩,fun _=>by have:=H1.out;omega⟩
    ·have h1':((a.s.kernel.length:Int) == 2) = false:=beq_eq_false_iff_ne.2 h1
     clear h1
     go_wp2
     go_ret
     exact ⟨false,rfl,HX.out.ask.below,att_void' (.inl rfl) (by have:=HP.out;omega)⟩
  have HN:Hid (¬ (a.op = 45 ∨ a.op = 47 ∨ a.op = 48 ∨ a.op = 50 ∨ a.op = 51 ∨ a.op = 52 ∨ a.op = 80 ∨ a.op = 58 ∨ a.op = 63 ∨ a.op = 64 ∨ a.op = 75 ∨ a.op = 76 ∨ a.op = 77)):=Lib.hid (by have:=HP.out;omega)
  have e32:(op == 32) = false:=beq_eq_false_iff_ne.2 (by omega)
  have e44:(op == 44) = false:=beq_eq_false_iff_ne.2 (by omega)
  have e62:(op == 62) = false:=beq_eq_false_iff_ne.2 (by omega)
  have e63:(op == 63) = false:=beq_eq_false_iff_ne.2 (by omega)
  have e64:(op == 64) = false:=beq_eq_false_iff_ne.2 (by omega)
  have e45:(op == 45) = false:=beq_eq_false_iff_ne.2 (by omega)
  have e47:(op == 47) = false:=beq_eq_false_iff_ne.2 (by omega)
  have e48:(op == 48) = false:=beq_eq_false_iff_ne.2 (by omega)
  have e50:(op == 50) = false:=beq_eq_false_iff_ne.2 (by omega)
  have e51:(op == 51) = false:=beq_eq_false_iff_ne.2 (by omega)
  have e52:(op == 52) = false:=beq_eq_false_iff_ne.2 (by omega)
  have e70:(op == 70) = false:=beq_eq_false_iff_ne.2 (by omega)
  have e71:(op == 71) = false:=beq_eq_false_iff_ne.2 (by omega)
  have e72:(op == 72) = false:=beq_eq_false_iff_ne.2 (by omega)
  have e80:(op == 80) = false:=beq_eq_false_iff_ne.2 (by omega)
  have e58:(op == 58) = false:=beq_eq_false_iff_ne.2 (by omega)
  have e66:(op == 66) = false:=beq_eq_false_iff_ne.2 (by omega)
  have e67:(op == 67) = false:=beq_eq_false_iff_ne.2 (by omega)
  have e68:(op == 68) = false:=beq_eq_false_iff_ne.2 (by omega)
  have e69:(op == 69) = false:=beq_eq_false_iff_ne.2 (by omega)
  have e75:(op == 75) = false:=beq_eq_false_iff_ne.2 (by omega)
  have e76:(op == 76) = false:=beq_eq_false_iff_ne.2 (by omega)
  have e77:(op == 77) = false:=beq_eq_false_iff_ne.2 (by omega)
  clear h32 h44 h62 hbk hax h58 hrd h45 h75 hpl
  go_wp2
  go_ret
  exact ⟨true,rfl,HX.out.ask.below,att_void' (.inr HN.out) (fun _=>rfl)⟩
end Go.Proofs.YtilobeohkomeoaaGreat
set_option linter.unusedSimpArgs false
set_option linter.unusedVariables false
namespace Go.Proofs.YtilobeohkomeoaaGreat
open Go.RowKit
open Rep (rep)
def WrongP (a:AskD) (x:Int):Prop:=(x = 0→a.Att∧∀ i,i < a.ins.length→a.has i = true→(sizeD (a.dims i)).2 = 0)∧(a.plain→(∀ i,i < a.ins.length→(sizeD (a.dims i)).2 = 0)→x = 0)
theorem wrong_bad {a:AskD} {x:Int} (h:¬ x = 0) (hn:a.plain→(∀ i,i < a.ins.length→(sizeD (a.dims i)).2 = 0)→False):WrongP a x:=⟨fun e=>absurd e h,fun h1 h2=>(hn h1 h2).elim⟩
set_option maxRecDepth 100000 in
set_option maxHeartbeats 8000000 in
theorem wrong_any (cs:List Value) (a:AskD) (w:World) (hr:rep w (old w.heap.size) cs a) :
  Calls Tryz.prog 52 #[.agg cs.toArray] w (ErrP w (WrongP a)):=by
 have HI:=Lib.hid (ask_ins hr)
 go_enter Tryz.func52,Tryz.ntmps52
 go_wp2_with (with_reducible refine wpList_box_row rfl 91 _ rfl cs rfl ?_;have hX:=ask_start hr;generalize World.alloc _ _ = W0 at hX ⊢;have HX:=Lib.hid hX;clear hX hr;refine halt ?_)
 unfold Halt
 obtain ⟨Ai,ki,hci,hri⟩:=HI.out
 have ci:=HX.out.cell hci
 obtain ⟨ib,ib'⟩:=slice_bnd hri
 have HB:Hid (a.ins.length * 144 ≤ 140737488351232):=Lib.hid (len_bnd hri)
 obtain ⟨A',c',xs,hv,-,-,-,hl,hch⟩:=open_slice hri
 injection hv with hv1 hv2 hv3
 subst hv1
 have HL:=Lib.hid (And.intro hl hch)
 clear hci hri hv3 hv2 hl hch
 go_wp2_with fail
 clear ci
 go_loopw [10] (fun i wr=>∃ c:Nat,i = .int .i64 c∧c ≤ a.ins.length∧AskI w cs a wr∧∀ j < c,a.has j = true→(sizeD (a.dims j)).2 = 0) (fun i _=>a.ins.length - (intOf i).toNat)
 case atStart=>exact ⟨0,rfl,Nat.zero_le _,HX.out,by omega⟩
 case round =>
  obtain ⟨c,rfl,hcl,hA,hh⟩:=hrel
  obtain ⟨wb,rfl⟩:∃ wb,wb = wr:=⟨_,rfl⟩
  have HA:=Lib.hid hA
  have HH:=Lib.hid hh
  clear hA hh
  by_cases hlt:c < a.ins.length
  ·have hlt':(c:Int) < (a.ins.length:Int):=by omega
   have hz:a.ins[c]? = some (a.val c):=by unfold AskD.val;rw [List.getD_eq_getElem?_getD,List.getElem?_eq_getElem hlt];rfl
   obtain ⟨b,o,zc,rfl,hbB,hrz,hcell⟩:=elem_at HL.out.1 HL.out.2 (by decide) hz
   have hat:At wb b (o + c * 8) zc:=fun j u hu=>by rw [Nat.add_assoc];exact (HA.out.below.cell (p:=⟨b,o + (c * 8 + j),none⟩) hbB).trans (hcell j u hu).1
   obtain ⟨A1,k1,A2,k2,A3,k3,A4,k4,A5,k5,hzc,-,h1,-⟩:=open_ValD hrz
   obtain ⟨b1,b1'⟩:=slice_bnd h1
   have hv8:=val_facts hrz
   have HZ:=Lib.hid (And.intro hat (And.intro (show (Tryz.prog.info? 45).map (·.size) = some zc.length by rw [hv8.1];kernel_rfl) (And.intro (show zc[1]? = some (.slice A1 (a.dims c).length k1) by rw [hzc];rfl) (And.intro hv8.1 (And.intro hv8.2.2 h1)))))
   have HLN:=Lib.hid (show zc.length = zeroV.length from hv8.1)
   have hk0:(0:Int) ≤ (c:Int):=Int.natCast_nonneg _
   clear hat hrz hcell hzc h1 hv8 hz
   have hn:=heap_alloc_new wb (.cells zeroV.toArray 45)
   have HQ:=Lib.hid hn
   clear hn
   go_wp2_with (first
    |(with_reducible refine wpList_load_agg rfl 45 _ rfl _ _ _ rfl zc Tryz.underlying45 rfl HZ.out.2.1 HZ.out.1 ?_)
    |(with_reducible refine wpList_alloc_row rfl 45 rfl zeroV zeroV_zero ?_)
    |(with_reducible refine wpList_store_agg rfl 45 _ _ rfl _ 0 zc rfl rfl 45 zeroV HQ.out HZ.out.2.1 (by rw [HZ.out.2.2.2.1];exact of_decide_eq_true (by kernel_rfl)) HZ.out.2.2.2.2.1 ?_;have hX:=laid_row wb 45 zeroV zc HLN.out;generalize World.setRow _ _ _ = w1 at hX ⊢;have HW:=Lib.hid hX;clear hX;refine halt ?_))
   unfold Halt
   have hc1:=cell_row HW.out.2.1 HZ.out.2.2.1
   replace HA:=Lib.hid (HA.out.next HW.out.1)
   clear HW HQ
   go_wp2_with fail
   refine (size_any (a.dims c) A1 k1 w1 (Rep.more (Rep.keep HZ.out.2.2.2.2.2 (Keeps.old_below HA.out.below (Nat.le_refl _))) (old_le HA.out.below.size))).mono ?_
   rintro e w2 ⟨rfl,rfl⟩
   obtain ⟨y,hy⟩:∃ y,sizeD (a.dims c) = y:=⟨_,rfl⟩
   rw [hy]
   have HY:=Lib.hid hy
   clear hy
   obtain ⟨y1,y2⟩:=y
   simp only
   clear hc1
   go_wp2_with (with_reducible refine wpList_load_agg rfl 91 _ rfl _ _ _ rfl cs Tryz.underlying91 rfl HA.out.size HA.out.at ?_)
   refine (askHas cs a c _ HA.out.arg).mono ?_
   rintro e w3 ⟨rfl,hb⟩
   replace HA:=Lib.hid (HA.out.next hb)
   clear hb
   obtain ⟨h,hh⟩:∃ h,a.has c = h:=⟨_,rfl⟩
   rw [hh]
   have HHC:=Lib.hid hh
   clear hh
   cases h with
   | false =>
    go_wp2
    go_roundw
    case rel =>
     refine ⟨c + 1,by go_num,by omega,HA.out,fun j hj hs=>?_⟩
     by_cases e:j = c
     ·rw [e,HHC.out] at hs;cases hs
     ·exact HH.out j (by omega) hs
    case measure=>simp [intOf];omega
   | true =>
    by_cases hy2:y2 = 0
    ·have HY2:=Lib.hid hy2
     subst hy2
     go_wp2
     go_roundw
     case rel =>
      refine ⟨c + 1,by go_num,by omega,HA.out,fun j hj hs=>?_⟩
      by_cases e:j = c
      ·rw [e,HY.out]
      ·exact HH.out j (by omega) hs
     case measure=>simp [intOf];omega
    ·have hy2':(y2 != 0) = true:=by simpa using hy2
     have HN:=Lib.hid hy2
     clear hy2
     go_wp2
     go_ret
     exact ⟨4,rfl,by unfold I64;omega,HA.out.below,wrong_bad (by omega) fun _ hs=>HN.out (by have:=hs c hlt;rw [HY.out] at this;exact this)⟩
  ·have hlt':¬ (c:Int) < (a.ins.length:Int):=by omega
   have HK:Hid (∀ i,i < a.ins.length→a.has i = true→(sizeD (a.dims i)).2 = 0):=Lib.hid fun i hi=>HH.out i (by omega)
   go_wp2_with (with_reducible refine wpList_load_agg rfl 91 _ rfl _ _ _ rfl cs Tryz.underlying91 rfl HA.out.size HA.out.at ?_)
   refine (typed_any cs a _ HA.out.arg).mono ?_
   rintro e w2 ⟨t1,rfl,hb,ht1⟩
   replace HA:=Lib.hid (HA.out.next hb)
   have HT1:=Lib.hid ht1
   clear hb ht1
   cases t1 with
   | false =>
    go_wp2
    go_ret
    exact ⟨5,rfl,by unfold I64;omega,HA.out.below,wrong_bad (by omega) fun hp _=>by have:=HT1.out hp;cases this⟩
   | true =>
    go_wp2_with (with_reducible refine wpList_load_agg rfl 91 _ rfl _ _ _ rfl cs Tryz.underlying91 rfl HA.out.size HA.out.at ?_)
    refine (attributes_any cs a _ HA.out.arg).mono ?_
    rintro e w3 ⟨t2,rfl,hb,ht2⟩
    replace HA:=Lib.hid (HA.out.next hb)
    have HT2:=Lib.hid ht2
    clear hb ht2
    cases t2 with
    | false =>
     go_wp2
     go_ret
     exact ⟨14,rfl,by unfold I64;omega,HA.out.below,wrong_bad (by omega) fun hp _=>by have:=HT2.out.2 hp.1;cases this⟩
    | true =>
     go_wp2_with (with_reducible refine wpList_load_agg rfl 91 _ rfl _ _ _ rfl cs Tryz.underlying91 rfl HA.out.size HA.out.at ?_)
     refine (told_any cs a _ HA.out.arg).mono ?_
     rintro e w4 ⟨x,rfl,hx,hb,ht3⟩
     replace HA:=Lib.hid (HA.out.next hb)
     have HT3:=Lib.hid (And.intro hx ht3)
     clear hb ht3 hx
     go_wp2
     go_ret
     exact ⟨x,rfl,HT3.out.1,HA.out.below,fun _=>⟨HT2.out.1 rfl,HK.out⟩,fun hp _=>HT3.out.2 hp.1⟩
end Go.Proofs.YtilobeohkomeoaaGreat
