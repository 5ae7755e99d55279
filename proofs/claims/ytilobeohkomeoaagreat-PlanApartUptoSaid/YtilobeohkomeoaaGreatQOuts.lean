/-
  Chapter 10: do all inputs' types fit? No condition.
-/
/-
  Chapter 10: the outputs' type; the lists of windows; is all there? No condition.
-/
import Derived.Test.YtilobeohkomeoaaGreatQYsl
import Derived.Test.YtilobeohkomeoaaGreatQAwake
set_option linter.unusedSimpArgs false
set_option linter.unusedVariables false
namespace Go.Proofs.YtilobeohkomeoaaGreat
open Go.RowKit
open Rep (rep)
section
variable {ops:Array Oper} {S:World→Prop} {o:Oper} {a:Act}
theorem yields_minI (hw:Region.wanted o (yielded ops a.tmps) = true) (x y:Operand) (ts:Array TypeId) (ho:o.op = .call { callee:=.builtin .min,args:=#[x,y],argTypes:=ts }) (p q r:Int) (hx:a.eval x = .int .i64 p) (hy:a.eval y = .int .i64 q) (h:(if q < p then q else p) = r):YieldsIf Tryz.prog ops S o (.int .i64 r) a :=
 .inl ⟨hw,fun w _=>by
  subst h
  have e:(#[x,y]:Array Operand).map a.eval = #[.int .i64 p,.int .i64 q]:=by simp only [List.map_toArray,List.map_cons,List.map_nil,hx,hy]
  unfold execOp
  simp only [ho,resolve,e,Sem.run_bind,Sem.run_pure,Result.andThen_ok,invoke]
  rfl⟩
theorem yields_lenS (hw:Region.wanted o (yielded ops a.tmps) = true) (x:Operand) (t:TypeId) (ho:o.op = .call { callee:=.builtin .len,args:=#[x],argTypes:=#[t] })
  (s:ByteArray) (hx:a.eval x = .string s) (ht:Tryz.prog.underlying t = some .string):YieldsIf Tryz.prog ops S o (.int .i64 (s.size:Int)) a :=
 .inl ⟨hw,fun w h=>by
  unfold execOp
  simp only [ho]
  simp [resolve,invoke,builtin,hx]
  go_simp⟩
theorem yields_charI (hw:Region.wanted o (yielded ops a.tmps) = true) (x y:Operand) (ho:o.op = .index 9 x y) (s:ByteArray) (j:Nat) (c:Int) (hx:a.eval x = .string s) (hy:a.eval y = .int .i64 j) (hj:j < s.size) (hc:((s.data[j]?).map fun u=>(u.toNat:Int)) = some c):YieldsIf Tryz.prog ops S o (.int .u8 c) a :=
 .inl ⟨hw,fun w _=>by
  unfold execOp
  simp only [ho]
  simp [hx,hy]
  go_simp
  have he:s.data[j]? = some s[j]:=by
   rw [Array.getElem?_eq_getElem (show j < s.data.size from hj)];rfl
  rw [he] at hc
  simpa using hc⟩
end
def AskD.plain (a:AskD):Prop:=(a.op = 28 ∨ a.op = 16 ∨ a.op = 2)∧∀ i,i < a.ins.length→(a.val i).type = 1
theorem letter {a:AskD} {s:ByteArray} {j:Nat} {c:Int} (hs:LetP a.op s) (ha:a.plain) (hc:((s.data[j]?).map fun u=>(u.toNat:Int)) = some c):c = 110 ∨ c = 102 ∨ c = 61:=by
 obtain ⟨_,_,_,h2,h16,h28⟩:=hs
 rcases ha.1 with e | e | e
 ·rw [h28 e] at hc
  match j,hc with
  | 0,hc=>injection hc with hc;exact .inl hc.symm
  | 1,hc=>injection hc with hc;exact .inr (.inr hc.symm)
  | j + 2,hc=>cases hc
 ·rw [h16 e] at hc
  match j,hc with
  | 0,hc=>injection hc with hc;exact .inr (.inl hc.symm)
  | j + 1,hc=>cases hc
 ·rw [h2 e] at hc
  match j,hc with
  | 0,hc=>injection hc with hc;exact .inl hc.symm
  | j + 1,hc=>cases hc
def TypP (a:AskD) (b:Bool):Prop:=a.plain→b = true
set_option maxRecDepth 100000 in
set_option maxHeartbeats 8000000 in
theorem typed_any (cs:List Value) (a:AskD) (w:World) (hr:rep w (old w.heap.size) cs a) :
  Calls Tryz.prog 67 #[.agg cs.toArray] w (BoolP w (TypP a)):=by
 have HO:=Lib.hid (ask_op hr)
 obtain ⟨ss,hs,hc⟩:=ask_set hr
 have HM:=Lib.hid (hc 16 _ (fld_int hs.f16).1)
 have HI:=Lib.hid (ask_ins hr)
 clear hs hc
 go_enter Tryz.func67,Tryz.ntmps67
 go_wp2_with (with_reducible refine wpList_box_row rfl 91 _ rfl cs rfl ?_;have hX:=ask_start hr;generalize World.alloc _ _ = W0 at hX ⊢;have HX:=Lib.hid hX;clear hX hr;refine halt ?_)
 unfold Halt
 have c0:=HX.out.cell HO.out.1
 go_wp2_with fail
 refine (sorts_any a.op _).mono ?_
 rintro e w1 ⟨⟨s,rfl,hls⟩,rfl⟩
 have HS:=Lib.hid hls
 clear hls
 obtain ⟨Ai,ki,hci,hri⟩:=HI.out
 have ci:=HX.out.cell hci
 obtain ⟨ib,ib'⟩:=slice_bnd hri
 have HB:Hid (a.ins.length * 144 ≤ 140737488351232):=Lib.hid (len_bnd hri)
 clear hci hri
 go_wp2_with fail
 clear c0 ci
 go_loopw [11] (fun i wr=>∃ c:Nat,i = .int .i64 c∧c ≤ a.ins.length∧AskI w cs a wr) (fun i _=>a.ins.length - (intOf i).toNat)
 case atStart=>exact ⟨0,rfl,Nat.zero_le _,HX.out⟩
 case round =>
  obtain ⟨c,rfl,hcl,hA⟩:=hrel
  obtain ⟨wb,rfl⟩:∃ wb,wb = wr:=⟨_,rfl⟩
  have HA:=Lib.hid hA
  clear hA
  by_cases hlt:c < a.ins.length
  ·have hlt':(c:Int) < (a.ins.length:Int):=by omega
   go_wp2_with fail
   clear hlt'
   refine wp_region_held_drew (S:=fun W=>AskI w cs a W∧Below wb.heap.size wb W) (by kernel_rfl) ⟨HA.out.next ((Below.refl _ _).drew),(Below.refl _ _).drew⟩ (fun hHeld=>?_)
   generalize World.drew _ = V2 at hHeld ⊢
   have hb:=hHeld.2
   clear hb
   refine tk9 0 (some 14) (v:=.agg cs.toArray) rfl (yields_ask (by kernel_rfl) _ rfl (by kernel_rfl) (fun _ h=>h.1)) hHeld ?_
   refine tk0 1 (some 15) (v:=.int .i64 (c:Int)) rfl hHeld ?_
   refine call_d9 2 (some 16) rfl (by kernel_rfl) (by kernel_rfl) (by kernel_rfl) 66 _ _ rfl #[.agg cs.toArray,.int .i64 (c:Int)] (by kernel_rfl) (fun w=>by kernel_rfl) ?_
   refine (askHas cs a c _ hHeld.1.arg).mono ?_
   rintro e V3 ⟨rfl,hb⟩
   replace hHeld:=held_next hHeld hb
   refine ⟨_,rfl,hHeld,?_⟩
   clear hb
   refine tk0 3 (some 17) (v:=.bool (a.has c)) rfl hHeld ?_
   generalize a.has c = hh
   cases hh with
   | false =>
    refine tk9 4 (some 18) (v:=undef) rfl (Or.inr ⟨by kernel_rfl,rfl⟩) hHeld ?_
    refine tk9 5 (some 19) (v:=undef) rfl (Or.inr ⟨by kernel_rfl,rfl⟩) hHeld ?_
    refine tk9 6 (some 20) (v:=undef) rfl (Or.inr ⟨by kernel_rfl,rfl⟩) hHeld ?_
    refine tk9 7 (some 21) (v:=undef) rfl (Or.inr ⟨by kernel_rfl,rfl⟩) hHeld ?_
    refine tk9 8 (some 22) (v:=undef) rfl (Or.inr ⟨by kernel_rfl,rfl⟩) hHeld ?_
    refine tk9 9 (some 23) (v:=undef) rfl (Or.inr ⟨by kernel_rfl,rfl⟩) hHeld ?_
    refine tk9 10 (some 24) (v:=undef) rfl (Or.inr ⟨by kernel_rfl,rfl⟩) hHeld ?_
    refine tk9 11 (some 25) (v:=undef) rfl (Or.inr ⟨by kernel_rfl,rfl⟩) hHeld ?_
    refine tk9 12 (some 26) (v:=undef) rfl (Or.inr ⟨by kernel_rfl,rfl⟩) hHeld ?_
    refine tk9 13 (some 27) (v:=undef) rfl (Or.inr ⟨by kernel_rfl,rfl⟩) hHeld ?_
    refine tk9 14 (some 28) (v:=undef) rfl (Or.inr ⟨by kernel_rfl,rfl⟩) hHeld ?_
    refine tk9 15 (some 29) (v:=undef) rfl (Or.inr ⟨by kernel_rfl,rfl⟩) hHeld ?_
    refine tk9 16 (some 30) (v:=undef) rfl (Or.inr ⟨by kernel_rfl,rfl⟩) hHeld ?_
    refine tk9 17 (some 31) (v:=undef) rfl (Or.inr ⟨by kernel_rfl,rfl⟩) hHeld ?_
    refine tk9 18 (some 32) (v:=undef) rfl (Or.inr ⟨by kernel_rfl,rfl⟩) hHeld ?_
    refine tk9 19 (some 33) (v:=undef) rfl (Or.inr ⟨by kernel_rfl,rfl⟩) hHeld ?_
    refine tk9 20 (some 34) (v:=undef) rfl (Or.inr ⟨by kernel_rfl,rfl⟩) hHeld ?_
    refine tk9 21 (some 35) (v:=undef) rfl (Or.inr ⟨by kernel_rfl,rfl⟩) hHeld ?_
    refine tk9 22 (some 36) (v:=undef) rfl (Or.inr ⟨by kernel_rfl,rfl⟩) hHeld ?_
    refine tk0 23 (some 37) (v:=.bool false) rfl hHeld ?_
    refine wpAnyH_done (by kernel_rfl) ?_ _
    rename_i K0 a0
    change K0 _ _
    refine a0 _ _ (wp_cond_false (by kernel_rfl) ?_)
    replace HA:=Lib.hid hHeld.1
    clear hHeld
    simp [Act.put]
    go_wp2
    go_roundw
    case rel=>exact ⟨c + 1,by go_num,by omega,HA.out⟩
    case measure=>simp [intOf];omega
   | true =>
    refine tk9 4 (some 18) (v:=.agg cs.toArray) rfl (yields_ask (by kernel_rfl) _ rfl (by kernel_rfl) (fun _ h=>h.1)) hHeld ?_
    refine tk0 5 (some 19) (v:=.int .i64 (c:Int)) rfl hHeld ?_
    refine call_d9 6 (some 20) rfl (by kernel_rfl) (by kernel_rfl) (by kernel_rfl) 82 _ _ rfl #[.agg cs.toArray,.int .i64 (c:Int)] (by kernel_rfl) (fun w=>by kernel_rfl) ?_
    refine (askVal cs a c _ hHeld.1.arg).mono ?_
    rintro e V4 ⟨vs,rfl,hv,hb⟩
    obtain ⟨A1,k1,A2,k2,A3,k3,A4,k4,A5,k5,rfl,-,-,-⟩:=open_ValD hv
    clear hv
    replace hHeld:=held_next hHeld hb
    refine ⟨_,rfl,hHeld,?_⟩
    clear hb
    refine tk0 7 (some 21) (v:=.int .i64 (a.val c).type) rfl hHeld ?_
    refine call_d9 8 (some 22) rfl (by kernel_rfl) (by kernel_rfl) (by kernel_rfl) 33 _ _ rfl #[.int .i64 (a.val c).type] (by kernel_rfl) (fun w=>by kernel_rfl) ?_
    refine (width_any (a.val c).type _).mono ?_
    rintro e w9 ⟨rfl,rfl⟩
    refine ⟨_,rfl,hHeld,?_⟩
    have HW:Hid (∀ n,widthD (a.val c).type = n→n = 0→¬ (a.val c).type = 1):=Lib.hid (fun n h1 h2 h3=>by rw [← h1,h3] at h2;cases h2)
    by_cases hw0:widthD (a.val c).type = 0
    ·skip
     refine tk9 9 (some 23) (v:=.bool true) rfl (yields_eqlD (by kernel_rfl) _ _ _ _ rfl (widthD (a.val c).type) 0 true (by kernel_rfl) (by kernel_rfl) (by kernel_rfl) (by rw [hw0];rfl)) hHeld ?_
     refine tk0 10 (some 24) (v:=.bool true) rfl hHeld ?_
     refine tk9 11 (some 25) (v:=undef) rfl (Or.inr ⟨by kernel_rfl,rfl⟩) hHeld ?_
     refine tk9 12 (some 26) (v:=undef) rfl (Or.inr ⟨by kernel_rfl,rfl⟩) hHeld ?_
     refine tk9 13 (some 27) (v:=undef) rfl (Or.inr ⟨by kernel_rfl,rfl⟩) hHeld ?_
     refine tk9 14 (some 28) (v:=undef) rfl (Or.inr ⟨by kernel_rfl,rfl⟩) hHeld ?_
     refine tk9 15 (some 29) (v:=undef) rfl (Or.inr ⟨by kernel_rfl,rfl⟩) hHeld ?_
     refine tk9 16 (some 30) (v:=undef) rfl (Or.inr ⟨by kernel_rfl,rfl⟩) hHeld ?_
     refine tk9 17 (some 31) (v:=undef) rfl (Or.inr ⟨by kernel_rfl,rfl⟩) hHeld ?_
     refine tk9 18 (some 32) (v:=undef) rfl (Or.inr ⟨by kernel_rfl,rfl⟩) hHeld ?_
     refine tk9 19 (some 33) (v:=undef) rfl (Or.inr ⟨by kernel_rfl,rfl⟩) hHeld ?_
     refine tk9 20 (some 34) (v:=undef) rfl (Or.inr ⟨by kernel_rfl,rfl⟩) hHeld ?_
     refine tk9 21 (some 35) (v:=undef) rfl (Or.inr ⟨by kernel_rfl,rfl⟩) hHeld ?_
     refine tk0 22 (some 36) (v:=.bool true) rfl hHeld ?_
     refine tk0 23 (some 37) (v:=.bool true) rfl hHeld ?_
     refine wpAnyH_done (by kernel_rfl) ?_ _
     rename_i K0 a0
     change K0 _ _
     refine a0 _ _ (wp_cond_true (by kernel_rfl) ?_)
     replace HA:=Lib.hid hHeld.1
     clear hHeld
     have HZ:=Lib.hid (HW.out _ hw0 rfl)
     clear hw0
     simp [Act.put]
     go_wp2
     go_ret
     exact ⟨false,rfl,HA.out.below,fun hp=>absurd (hp.2 c hlt) HZ.out⟩
    ·skip
     refine tk9 9 (some 23) (v:=.bool false) rfl (yields_eqlD (by kernel_rfl) _ _ _ _ rfl (widthD (a.val c).type) 0 false (by kernel_rfl) (by kernel_rfl) (by kernel_rfl) (beq_eq_false_iff_ne.2 hw0)) hHeld ?_
     refine tk0 10 (some 24) (v:=.bool false) rfl hHeld ?_
     clear hw0
     obtain ⟨j,hj⟩:∃ j:Nat,j = if s.size - 1 < c then s.size - 1 else c:=⟨_,rfl⟩
     have hs1:1 ≤ s.size:=HS.out.1
     have hs2:s.size ≤ 100:=HS.out.2.1
     have hjs:j < s.size:=by rw [hj];split <;> omega
     have hjm:(if (s.size:Int) - 1 < (c:Int) then (s.size:Int) - 1 else (c:Int)) = (j:Int):=by rw [hj];split <;> split <;> omega
     obtain ⟨u,hu⟩:∃ u:Int,((s.data[j]?).map fun u=>(u.toNat:Int)) = some u:=⟨_,by rw [Array.getElem?_eq_getElem (show j < s.data.size from hjs)];rfl⟩
     have h43:u = 43→1 ≤ c:=fun e=>by
      rcases Nat.eq_zero_or_pos c with e0 | e0
      ·exfalso
       have ej:j = 0:=by rw [hj];split <;> omega
       rw [ej] at hu
       refine HS.out.2.2.1 ?_
       cases hq:s.data[0]? with
       | none=>rw [hq] at hu;cases hu
       | some q =>
        rw [hq] at hu
        injection hu with hu
        rw [e] at hu
        have hu:(q.toNat:Int) = 43:=by simpa using hu
        rw [show q = 43 from UInt8.toNat_inj.1 (show q.toNat = 43 by omega)]
      ·exact e0
     have HU:=Lib.hid (And.intro hu h43)
     clear hu h43 hj
     refine tk9 11 (some 25) (v:=.agg cs.toArray) rfl (yields_ask (by kernel_rfl) _ rfl (by kernel_rfl) (fun _ h=>h.1)) hHeld ?_
     refine tk0 12 (some 26) (v:=.int .i64 (c:Int)) rfl hHeld ?_
     refine tk0 13 (some 27) (v:=.string s) rfl hHeld ?_
     refine tk0 14 (some 28) (v:=.int .i64 (c:Int)) rfl hHeld ?_
     refine tk0 15 (some 29) (v:=.string s) rfl hHeld ?_
     refine tk9 16 (some 30) (v:=.int .i64 (s.size:Int)) rfl (yields_lenS (by kernel_rfl) _ _ rfl s (by kernel_rfl) (by kernel_rfl)) hHeld ?_
     refine tk9 17 (some 31) (v:=.int .i64 ((s.size:Int) - 1)) rfl (yields_subI (by kernel_rfl) _ _ _ _ rfl (s.size:Int) 1 (by kernel_rfl) (by kernel_rfl) (by kernel_rfl) (by omega) (by omega) (by omega)) hHeld ?_
     refine tk9 18 (some 32) (v:=.int .i64 (j:Int)) rfl (yields_minI (by kernel_rfl) _ _ _ rfl (c:Int) ((s.size:Int) - 1) (j:Int) (by kernel_rfl) (by kernel_rfl) hjm) hHeld ?_
     refine tk9 19 (some 33) (v:=.int .u8 u) rfl (yields_charI (by kernel_rfl) _ _ rfl s j u (by kernel_rfl) (by kernel_rfl) hjs HU.out.1) hHeld ?_
     have hc63:c < 9223372036854775807:=by have:=HB.out;omega
     refine call_d9 20 (some 34) rfl (by kernel_rfl) (by kernel_rfl) (by kernel_rfl) 86 _ _ rfl #[.agg cs.toArray,.int .i64 (c:Int),.int .u8 u] (by kernel_rfl) (fun w=>by kernel_rfl) ?_
     refine (fits_any cs a c u _ hHeld.1.arg HU.out.2 hc63).mono ?_
     rintro e V5 ⟨ff,rfl,hb,hf⟩
     have HF:=Lib.hid hf
     clear hf
     replace hHeld:=held_next hHeld hb
     refine ⟨_,rfl,hHeld,?_⟩
     clear hb
     cases ff with
     | true =>
      refine tk0 21 (some 35) (v:=.bool false) rfl hHeld ?_
      refine tk0 22 (some 36) (v:=.bool false) rfl hHeld ?_
      refine tk0 23 (some 37) (v:=.bool false) rfl hHeld ?_
      refine wpAnyH_done (by kernel_rfl) ?_ _
      rename_i K0 a0
      change K0 _ _
      refine a0 _ _ (wp_cond_false (by kernel_rfl) ?_)
      replace HA:=Lib.hid hHeld.1
      clear hHeld hs1 hs2 hjs hjm hc63
      simp [Act.put]
      go_wp2
      go_roundw
      case rel=>exact ⟨c + 1,by go_num,by omega,HA.out⟩
      case measure=>simp [intOf];omega
     | false =>
      refine tk0 21 (some 35) (v:=.bool true) rfl hHeld ?_
      refine tk0 22 (some 36) (v:=.bool true) rfl hHeld ?_
      refine tk0 23 (some 37) (v:=.bool true) rfl hHeld ?_
      refine wpAnyH_done (by kernel_rfl) ?_ _
      rename_i K0 a0
      change K0 _ _
      refine a0 _ _ (wp_cond_true (by kernel_rfl) ?_)
      replace HA:=Lib.hid hHeld.1
      clear hHeld hs1 hs2 hjs hjm hc63
      simp [Act.put]
      go_wp2
      go_ret
      refine ⟨false,rfl,HA.out.below,fun hp=>?_⟩
      refine absurd (HF.out (hp.2 c hlt) ?_) (by decide)
      rcases letter HS.out hp HU.out.1 with e | e | e
      ·exact .inl e
      ·exact .inr (.inl e)
      ·exact .inr (.inr ⟨e,hp.2 0 (by omega)⟩)
  ·have hlt':¬ (c:Int) < (a.ins.length:Int):=by omega
   have c0:=HA.out.cell HO.out.1
   by_cases h52:a.op = 52
   ·have HN:Hid (¬ a.plain):=Lib.hid (fun h=>by have:=h.1;omega)
    rw [h52] at c0
    clear h52
    have c17:=HA.out.cell HM.out
    generalize a.s.mode = md at c17
    by_cases hm:md = 0
    ·subst hm
     go_wp2
     go_ret
     exact ⟨_,rfl,HA.out.below,fun e=>absurd e HN.out⟩
    ·have hm':(md == 0) = false:=beq_eq_false_iff_ne.2 hm
     clear hm
     go_wp2_with (with_reducible refine wpList_load_agg_w (by kernel_rfl) 91 _ rfl _ _ _ rfl cs Tryz.underlying91 rfl HA.out.size HA.out.at ?_)
     clear c0 c17
     refine (askVal cs a 0 _ HA.out.arg).mono ?_
     rintro e w2 ⟨vs,rfl,hv,hb⟩
     obtain ⟨A1,k1,A2,k2,A3,k3,A4,k4,A5,k5,rfl,-,-,-⟩:=open_ValD hv
     replace HA:=Lib.hid (HA.out.next hb)
     clear hv hb
     have hf:=val_type
     go_wp2
     go_ret
     exact ⟨_,rfl,HA.out.below,fun e=>absurd e HN.out⟩
   ·have h52':(a.op != 52) = true:=by simpa using h52
    clear h52
    go_wp2
    go_ret
    exact ⟨true,rfl,HA.out.below,fun _=>rfl⟩
end Go.Proofs.YtilobeohkomeoaaGreat
set_option linter.unusedSimpArgs false
set_option linter.unusedVariables false
namespace Go.Proofs.YtilobeohkomeoaaGreat
open Go.RowKit
open Rep (rep)
def OutP (a:AskD) (x:Int):Prop:=a.op = 28 ∨ a.op = 16 ∨ a.op = 2→x = (a.val 0).type
set_option maxRecDepth 100000 in
set_option maxHeartbeats 8000000 in
theorem out_any (cs:List Value) (a:AskD) (w:World) (hr:rep w (old w.heap.size) cs a) :
  Calls Tryz.prog 54 #[.agg cs.toArray] w (ErrP w (OutP a)):=by
 have HO:=Lib.hid (ask_op hr)
 obtain ⟨ss,hs,hc⟩:=ask_set hr
 obtain ⟨B1,j1,B2,j2,B3,j3,B4,j4,hv,hvI,-⟩:=open_TensorD hs.f31
 have h31:ss[31]? = some (.int .i64 a.s.value.type):=by
  have:=List.getElem?_drop (xs:=ss) (i:=31) (j:=0)
  rw [hv] at this
  exact this.symm
 have HC:=Lib.hid (And.intro (hc 15 _ (fld_int hs.f15).1) (And.intro (hc 31 _ h31) (And.intro (fld_int hs.f15).2 hvI)))
 clear hs hc hv hvI h31
 go_enter Tryz.func54,Tryz.ntmps54
 go_wp2_with (with_reducible refine wpList_box_row rfl 91 _ rfl cs rfl ?_;have hX:=ask_start hr;generalize World.alloc _ _ = W0 at hX ⊢;have HX:=Lib.hid hX;clear hX hr;refine halt ?_)
 unfold Halt
 have c0:=HX.out.cell HO.out.1
 obtain ⟨op,hop⟩:∃ op,a.op = op:=⟨_,rfl⟩
 rw [hop] at c0
 have HP:=Lib.hid hop
 clear hop
 by_cases h44:op = 44
 ·subst h44
  have c16:=HX.out.cell HC.out.1
  have HN:Hid (¬ (a.op = 28 ∨ a.op = 16 ∨ a.op = 2)):=Lib.hid (by have:=HP.out;omega)
  go_wp2
  go_ret
  exact ⟨_,rfl,HC.out.2.2.1,HX.out.below,fun e=>absurd e HN.out⟩
 by_cases h62:op = 62
 ·subst h62
  have c32:=HX.out.cell HC.out.2.1
  have HN:Hid (¬ (a.op = 28 ∨ a.op = 16 ∨ a.op = 2)):=Lib.hid (by have:=HP.out;omega)
  go_wp2
  go_ret
  exact ⟨_,rfl,HC.out.2.2.2,HX.out.below,fun e=>absurd e HN.out⟩
 have hf:=val_type
 by_cases h42:op = 42
 ·subst h42
  have HN:Hid (¬ (a.op = 28 ∨ a.op = 16 ∨ a.op = 2)):=Lib.hid (by have:=HP.out;omega)
  go_wp2_with (with_reducible refine wpList_load_agg rfl 91 _ rfl _ _ _ rfl cs Tryz.underlying91 rfl HX.out.size HX.out.at ?_)
  refine (askVal cs a 1 _ HX.out.arg).mono ?_
  rintro e w2 ⟨vs,rfl,hv,hb⟩
  obtain ⟨A1,k1,A2,k2,A3,k3,A4,k4,A5,k5,rfl,hI,-,-⟩:=open_ValD hv
  have H:=Lib.hid (And.intro (HX.out.next hb).below hI)
  clear hv hb hI
  go_wp2
  go_ret
  exact ⟨_,rfl,H.out.2,H.out.1,fun e=>absurd e HN.out⟩
 by_cases hb:op = 22 ∨ op = 23 ∨ op = 24 ∨ op = 25 ∨ op = 26 ∨ op = 27 ∨ op = 37 ∨ op = 38 ∨ op = 39 ∨ op = 40 ∨ op = 41
 ·have HN:Hid (¬ (a.op = 28 ∨ a.op = 16 ∨ a.op = 2)):=Lib.hid (by have:=HP.out;omega)
  rcases hb with rfl | rfl | rfl | rfl | rfl | rfl | rfl | rfl | rfl | rfl | rfl
  all_goals
   go_wp2
   go_ret
   exact ⟨_,rfl,by unfold I64;omega,HX.out.below,fun e=>absurd e HN.out⟩
 by_cases hi:op = 59 ∨ op = 60 ∨ op = 70 ∨ op = 71
 ·have HN:Hid (¬ (a.op = 28 ∨ a.op = 16 ∨ a.op = 2)):=Lib.hid (by have:=HP.out;omega)
  rcases hi with rfl | rfl | rfl | rfl
  all_goals
   go_wp2
   go_ret
   exact ⟨_,rfl,by unfold I64;omega,HX.out.below,fun e=>absurd e HN.out⟩
 have e44:(op == 44) = false:=beq_eq_false_iff_ne.2 (by omega)
 have e62:(op == 62) = false:=beq_eq_false_iff_ne.2 (by omega)
 have e42:(op == 42) = false:=beq_eq_false_iff_ne.2 (by omega)
 have e22:(op == 22) = false:=beq_eq_false_iff_ne.2 (by omega)
 have e23:(op == 23) = false:=beq_eq_false_iff_ne.2 (by omega)
 have e24:(op == 24) = false:=beq_eq_false_iff_ne.2 (by omega)
 have e25:(op == 25) = false:=beq_eq_false_iff_ne.2 (by omega)
 have e26:(op == 26) = false:=beq_eq_false_iff_ne.2 (by omega)
 have e27:(op == 27) = false:=beq_eq_false_iff_ne.2 (by omega)
 have e37:(op == 37) = false:=beq_eq_false_iff_ne.2 (by omega)
 have e38:(op == 38) = false:=beq_eq_false_iff_ne.2 (by omega)
 have e39:(op == 39) = false:=beq_eq_false_iff_ne.2 (by omega)
 have e40:(op == 40) = false:=beq_eq_false_iff_ne.2 (by omega)
 have e41:(op == 41) = false:=beq_eq_false_iff_ne.2 (by omega)
 have e59:(op == 59) = false:=beq_eq_false_iff_ne.2 (by omega)
 have e60:(op == 60) = false:=beq_eq_false_iff_ne.2 (by omega)
 have e70:(op == 70) = false:=beq_eq_false_iff_ne.2 (by omega)
 have e71:(op == 71) = false:=beq_eq_false_iff_ne.2 (by omega)
 clear h44 h62 h42 hb hi
 go_wp2_with (with_reducible refine wpList_load_agg rfl 91 _ rfl _ _ _ rfl cs Tryz.underlying91 rfl HX.out.size HX.out.at ?_)
 refine (askVal cs a 0 _ HX.out.arg).mono ?_
 rintro e w2 ⟨vs,rfl,hv,hb⟩
 obtain ⟨A1,k1,A2,k2,A3,k3,A4,k4,A5,k5,rfl,hI,-,-⟩:=open_ValD hv
 have H:=Lib.hid (And.intro (HX.out.next hb).below hI)
 clear hv hb hI
 go_wp2
 go_ret
 exact ⟨_,rfl,H.out.2,H.out.1,fun _=>rfl⟩
set_option maxRecDepth 100000 in
set_option maxHeartbeats 8000000 in
theorem frames_any (cs:List Value) (a:AskD) (w:World) (hr:rep w (old w.heap.size) cs a) :
  Calls Tryz.prog 92 #[.agg cs.toArray] w fun e w'=>e = .returned (.bool (manyD a.s.strides 2 && manyD a.s.dilations 2 && manyD a.s.pads 4))∧Below w.heap.size w w':=by
 obtain ⟨ss,hs,hc⟩:=ask_set hr
 obtain ⟨Aa,ka,s1,r1⟩:=fld_list hs.f21
 obtain ⟨Ab,kb,s2,r2⟩:=fld_list hs.f23
 obtain ⟨Ac,kc,s3,r3⟩:=fld_list hs.f22
 have HC:=Lib.hid (And.intro (hc 21 _ s1) (And.intro (hc 23 _ s2) (hc 22 _ s3)))
 clear hs hc s1 s2 s3 r1 r2 r3
 go_enter Tryz.func92,Tryz.ntmps92
 go_wp2_with (with_reducible refine wpList_box_row rfl 91 _ rfl cs rfl ?_;have hX:=ask_start hr;generalize World.alloc _ _ = W0 at hX ⊢;have HX:=Lib.hid hX;clear hX hr;refine halt ?_)
 unfold Halt
 have c1:=HX.out.cell HC.out.1
 have c2:=HX.out.cell HC.out.2.1
 have c3:=HX.out.cell HC.out.2.2
 go_wp2_with fail
 refine (many_any a.s.strides Aa ka 2 _).mono ?_
 rintro e w1 ⟨rfl,rfl⟩
 obtain ⟨b1,h1⟩:∃ b,manyD a.s.strides 2 = b:=⟨_,rfl⟩
 rw [h1]
 have H1:=Lib.hid h1
 clear h1
 cases b1 with
 | false =>
  go_wp2
  go_ret
  exact ⟨by rw [H1.out];rfl,HX.out.below⟩
 | true =>
  go_wp2_with fail
  refine (many_any a.s.dilations Ab kb 2 _).mono ?_
  rintro e w2 ⟨rfl,rfl⟩
  obtain ⟨b2,h2⟩:∃ b,manyD a.s.dilations 2 = b:=⟨_,rfl⟩
  rw [h2]
  have H2:=Lib.hid h2
  clear h2
  cases b2 with
  | false =>
   go_wp2
   go_ret
   exact ⟨by rw [H1.out,H2.out];rfl,HX.out.below⟩
  | true =>
   go_wp2_with fail
   refine (many_any a.s.pads Ac kc 4 _).mono ?_
   rintro e w3 ⟨rfl,rfl⟩
   go_wp2
   go_ret
   exact ⟨by rw [H1.out,H2.out];rfl,HX.out.below⟩
def CompP (a:AskD):Prop:=¬ (findD a.op).out = 0∧¬ a.op = 61∧(findD a.op).least ≤ a.ins.length∧(a.ins.length:Int) ≤ (findD a.op).most∧(findD a.op).out ≤ a.outs∧a.outs ≤ (findD a.op).mostOuts∧∀ i:Nat,(i:Int) < (findD a.op).least→a.has i = true
def CompB (a:AskD) (b:Bool):Prop:=b = true ↔ CompP a
set_option maxRecDepth 100000 in
set_option maxHeartbeats 8000000 in
theorem complete_any (cs:List Value) (a:AskD) (w:World) (hr:rep w (old w.heap.size) cs a) :
  Calls Tryz.prog 51 #[.agg cs.toArray] w (BoolP w (CompB a)):=by
 have HO:=Lib.hid (ask_op hr)
 have HU:=Lib.hid (ask_outs hr)
 have HI:=Lib.hid (ask_ins hr)
 go_enter Tryz.func51,Tryz.ntmps51
 go_wp2_with (with_reducible refine wpList_box_row rfl 91 _ rfl cs rfl ?_;have hX:=ask_start hr;generalize World.alloc _ _ = W0 at hX ⊢;have HX:=Lib.hid hX;clear hX hr;refine halt ?_)
 unfold Halt
 have c0:=HX.out.cell HO.out.1
 go_wp2_with fail
 refine (arity_any a.op _ HO.out.2).mono ?_
 rintro e w1 ⟨rfl,hb⟩
 clear c0
 replace HX:=Lib.hid (HX.out.next hb)
 clear hb
 have HD:Hid (CompP a ↔ (¬ (findD a.op).out = 0∧¬ a.op = 61∧(findD a.op).least ≤ a.ins.length∧(a.ins.length:Int) ≤ (findD a.op).most∧(findD a.op).out ≤ a.outs∧a.outs ≤ (findD a.op).mostOuts∧∀ i:Nat,(i:Int) < (findD a.op).least→a.has i = true)):=Lib.hid Iff.rfl
 generalize (findD a.op).out = ro at HD ⊢
 generalize (findD a.op).least = rl at HD ⊢
 generalize (findD a.op).most = rm at HD ⊢
 generalize (findD a.op).mostOuts = rx at HD ⊢
 obtain ⟨Ai,ki,hci,hri⟩:=HI.out
 have c0:=HX.out.cell HO.out.1
 have c37:=HX.out.cell hci
 have c38:=HX.out.cell HU.out.1
 obtain ⟨ib,ib'⟩:=slice_bnd hri
 have hil:a.ins.length * 144 ≤ 140737488351232:=len_bnd hri
 clear hci hri
 generalize hop:a.op = op at HD c0 ⊢
 generalize houts:a.outs = outs at HD c38 ⊢
 clear hop houts
 by_cases h1:ro = 0
 ·subst h1
  have HN:Hid (CompB a false):=Lib.hid ⟨fun e=>(by cases e),fun e=>absurd rfl (HD.out.1 e).1⟩
  go_wp2
  go_ret
  exact ⟨_,rfl,HX.out.below,HN.out⟩
 have h1':(ro == 0) = false:=beq_eq_false_iff_ne.2 h1
 by_cases h2:op = 61
 ·subst h2
  have HN:Hid (CompB a false):=Lib.hid ⟨fun e=>(by cases e),fun e=>absurd rfl (HD.out.1 e).2.1⟩
  go_wp2
  go_ret
  exact ⟨_,rfl,HX.out.below,HN.out⟩
 have h2':(op == 61) = false:=beq_eq_false_iff_ne.2 h2
 by_cases h3:(a.ins.length:Int) < rl
 ·have HN:Hid (CompB a false):=Lib.hid ⟨fun e=>(by cases e),fun e=>by have:=(HD.out.1 e).2.2.1;omega⟩
  clear h1 h2
  go_wp2
  go_ret
  exact ⟨_,rfl,HX.out.below,HN.out⟩
 by_cases h4:(a.ins.length:Int) > rm
 ·have HN:Hid (CompB a false):=Lib.hid ⟨fun e=>(by cases e),fun e=>by have:=(HD.out.1 e).2.2.2.1;omega⟩
  clear h1 h2
  go_wp2
  go_ret
  exact ⟨_,rfl,HX.out.below,HN.out⟩
 by_cases h5:outs < ro
 ·have HN:Hid (CompB a false):=Lib.hid ⟨fun e=>(by cases e),fun e=>by have:=(HD.out.1 e).2.2.2.2.1;omega⟩
  clear h1 h2
  go_wp2
  go_ret
  exact ⟨_,rfl,HX.out.below,HN.out⟩
 by_cases h6:outs > rx
 ·have HN:Hid (CompB a false):=Lib.hid ⟨fun e=>(by cases e),fun e=>by have:=(HD.out.1 e).2.2.2.2.2.1;omega⟩
  clear h1 h2
  go_wp2
  go_ret
  exact ⟨_,rfl,HX.out.below,HN.out⟩
 replace HD:Hid (CompP a ↔ ∀ i:Nat,(i:Int) < rl→a.has i = true):=Lib.hid ⟨fun e=>(HD.out.1 e).2.2.2.2.2.2,fun e=>HD.out.2 ⟨h1,h2,by omega,by omega,by omega,by omega,e⟩⟩
 have hrl:rl ≤ 9223372036854775806:=by omega
 clear h1 h2
 go_wp2_with fail
 clear c0 c37 c38 h1' h2' h3 h4 h5 h6 ib
 go_loopw [50] (fun i wr=>∃ c:Nat,i = .int .i64 c∧(c:Int) ≤ max rl 0∧AskI w cs a wr∧∀ j < c,a.has j = true) (fun i _=>rl.toNat - (intOf i).toNat)
 case atStart=>exact ⟨0,rfl,by omega,HX.out,by omega⟩
 case round =>
  obtain ⟨c,rfl,hcl,hA,hh⟩:=hrel
  have HA:=Lib.hid hA
  have HH:=Lib.hid hh
  clear hA hh
  by_cases hlt:(c:Int) < rl
  ·go_wp2_with (with_reducible refine wpList_load_agg rfl 91 _ rfl _ _ _ rfl cs Tryz.underlying91 rfl HA.out.size HA.out.at ?_)
   refine (askHas cs a c _ HA.out.arg).mono ?_
   rintro e w2 ⟨rfl,hb⟩
   replace HA:=Lib.hid (HA.out.next hb)
   clear hb
   obtain ⟨x,hx⟩:∃ x,a.has c = x:=⟨_,rfl⟩
   rw [hx]
   have HX2:=Lib.hid hx
   clear hx
   cases x with
   | true =>
    go_wp2
    go_roundw
    case rel =>
     refine ⟨c + 1,by go_num,by omega,HA.out,fun j hj=>?_⟩
     by_cases e:j = c
     ·rw [e];exact HX2.out
     ·exact HH.out j (by omega)
    case measure=>simp [intOf];omega
   | false =>
    go_wp2
    go_ret
    exact ⟨_,rfl,HA.out.below,⟨fun e=>(by cases e),fun e=>absurd (HD.out.1 e c hlt) (by rw [HX2.out];decide)⟩⟩
  ·have HL:=Lib.hid hlt
   go_wp2
   go_ret
   exact ⟨_,rfl,HA.out.below,⟨fun _=>HD.out.2 fun j hj=>HH.out j (by have:=HL.out;omega),fun _=>rfl⟩⟩
end Go.Proofs.YtilobeohkomeoaaGreat
