/-
  Chapter 21: the walk of the insertion sort of slices.SortStableFunc at numbers. No condition.
-/
import Derived.Test.YtoeaglpmkjoenaaGreatQSrtW
import Derived.Test.YtoeaglpmkjoenaaGreatQSame
set_option linter.unusedSimpArgs false
set_option linter.unusedVariables false
namespace Go.Proofs.YtoeaglpmkjoenaaGreat
open Go.RowKit
open Rep (rep)
section
variable {ops:Array Oper} {S:World→Prop} {o:Oper} {a:Act}
theorem yields_ltD (hw:Region.wanted o (yielded ops a.tmps) = true) (x y:Operand) (t u:TypeId) (ho:o.op = .binOp .lss t x y u) (p q:Int) (c:Bool) (hx:a.eval x = .int .i64 p) (hy:a.eval y = .int .i64 q) (_:Tryz.prog.underlying t = some (.int .i64)) (h:decide (p < q) = c):YieldsIf Tryz.prog ops S o (.bool c) a :=
 .inl ⟨hw,fun w _=>by
  subst h
  unfold execOp
  simp only [ho,hx,hy]
  go_simp⟩
theorem yields_gtD (hw:Region.wanted o (yielded ops a.tmps) = true) (x y:Operand) (t u:TypeId) (ho:o.op = .binOp .gtr t x y u) (p q:Int) (c:Bool) (hx:a.eval x = .int .i64 p) (hy:a.eval y = .int .i64 q) (_:Tryz.prog.underlying t = some (.int .i64)) (h:decide (p > q) = c):YieldsIf Tryz.prog ops S o (.bool c) a :=
 .inl ⟨hw,fun w _=>by
  subst h
  unfold execOp
  simp only [ho,hx,hy]
  go_simp⟩
end
theorem call_f9 {P:Program} {md:Region.Mode} {ops:Array Oper} {Q:Exit→Act→World→Prop} {S:World→Prop} (i:Nat) (d:Option Tmp) {fuel:Nat} {listed:Array Bool} {a:Act} {w:World} {o:Oper} (hio:ops[i]? = some o) (hd:o.dst = d) (hr:Region.ready md ops listed = [i])
  (hw:Region.wanted o (yielded ops a.tmps) = true) (x:Operand) (xs:Array Operand) (ts:Array TypeId) (ho:o.op = .call { callee:=.value x,args:=xs,argTypes:=ts }) (f:FuncId) (cb:Array Value) (hx:a.eval x = .func (.func f) #[] cb) (vs:Array Value) (hv:xs.map a.eval = vs) (hc:∀ args w,(callFunc f args).run P w = .ok (.enter f args) w)
  (h:Calls P f (vs++cb) w fun e w'=>∃ u,e = .returned u∧S w'∧wpAnyH P md ops Q S fuel (listed.setIfInBounds i true) (a.put d u) w'):wpAnyH P md ops Q S (fuel + 1) listed a w:=by
 subst hd
 refine wpAnyH_ready hr (by simp) (AllReadyH.cons hio (fun K hK=>?_) AllReadyH.nil)
 rw [if_pos hw]
 unfold Oper.wp
 simp only [execOp,ho]
 simp [hv,hx,resolve,invoke,Deferred.ofValue,hc]
 refine h.mono fun e w' ⟨u,he,hS,hk⟩=>?_
 subst he
 exact hK.out _ _ hS (fun _=>hk)
structure CmpLaw (w0:World) (g kf:Nat) (cb:Array Value) (ok:Int→Prop) (c:Int→Int→Int):Prop where
 enter:∀ args W,(callFunc kf args).run Tryz.prog W = .ok (.enter kf args) W
 calls:∀ (l:List Int) (W:World) (x y:Int),SrtI w0 g l W→ok x→ok y→Calls Tryz.prog kf (#[.int .i64 x,.int .i64 y]++cb) W fun e W'=>e = .returned (.int .i64 (c x y))∧∃ n,W' = W.drewN n
theorem getD_mem {l:List Int} {j:Nat} (h:j < l.length):l.getD j 0 ∈ l:=by
 rw [List.getD_eq_getElem?_getD,List.getElem?_eq_getElem h]
 exact List.getElem_mem h
set_option maxRecDepth 100000 in
set_option maxHeartbeats 8000000 in
theorem insertion_any (w0 w:World) (g cp a b kf:Nat) (cb:Array Value) (ok:Int→Prop) (c:Int→Int→Int) (l:List Int) (HCL:Hid (CmpLaw w0 g kf cb ok c)) (h:SrtI w0 g l w) (hok:∀ x ∈ l,ok x) (hc:l.length ≤ cp) (hc2:cp ≤ 9223372036854775807) (hb:b ≤ l.length) (hl:l.length ≤ 1000000) (ha:a ≤ 1000000) :
  Calls Tryz.prog 55 #[.slice (some ⟨g,0,none⟩) l.length cp,.int .i64 a,.int .i64 b,.func (.func kf) #[] cb] w fun e w'=>e = .returned (.tuple #[])∧SrtI w0 g (insD c a b l) w':=by
 have HI:=Lib.hid (And.intro h hok)
 clear h hok
 obtain ⟨n,hn⟩:∃ n,l.length = n:=⟨_,rfl⟩
 rw [hn] at hc hb hl ⊢
 have HN:=Lib.hid hn
 clear hn
 go_enter Tryz.func55,Tryz.ntmps55
 go_wp2_with fail
 go_loopw [8] (fun i wr=>∃ (k:Nat) (L:List Int),i = .int .i64 k∧k ≤ 1000001∧L.length = n∧(∀ x ∈ L,ok x)∧insI c a (b - k) k L = insD c a b l∧SrtI w0 g L wr) (fun i _=>b - (intOf i).toNat)
 case atStart=>exact ⟨a + 1,l,by go_num,by omega,HN.out,HI.out.2,rfl,HI.out.1⟩
 case round =>
  clear HI
  obtain ⟨k,L,rfl,hk,hLl,hLo,hLi,hS⟩:=hrel
  obtain ⟨wx,rfl⟩:∃ wx,wx = wr:=⟨_,rfl⟩
  have HS:=Lib.hid hS
  by_cases hlt:k < b
  ·have hlt':(k:Int) < (b:Int):=by omega
   have HL:=Lib.hid (And.intro hLl (And.intro hLo (show insI c a (b - (k + 1)) (k + 1) (insJ c a k L) = insD c a b l by rw [← hLi,show b - k = (b - (k + 1)) + 1 by omega,insI])))
   clear hLl hLo hLi hS
   go_wp2_with fail
   go_loopw [9] (fun i wr=>∃ (j:Nat) (cur:List Int),i = .int .i64 j∧j ≤ k∧cur.length = n∧(∀ x ∈ cur,ok x)∧insJ c a j cur = insJ c a k L∧SrtI w0 g cur wr) (fun i _=>(intOf i).toNat)
   case atStart=>exact ⟨k,L,rfl,Nat.le_refl _,HL.out.1,HL.out.2.1,rfl,HS.out⟩
   case round =>
    clear HS
    obtain ⟨j,cur,rfl,hjk,hcl,hco,hci,hS⟩:=hrel
    obtain ⟨wy,rfl⟩:∃ wy,wy = wr:=⟨_,rfl⟩
    have HS:=Lib.hid hS
    by_cases hja:a < j
    ·have HJA:Hid (decide ((j:Int) > (a:Int)) = true):=Lib.hid (by simp;omega)
     obtain ⟨j1,rfl⟩:∃ j1,j = j1 + 1:=⟨j - 1,by omega⟩
     obtain ⟨j,hj⟩:∃ j,j1 + 1 = j:=⟨_,rfl⟩
     obtain ⟨vx,hvx⟩:∃ v,cur.getD (j1 + 1) 0 = v:=⟨_,rfl⟩
     obtain ⟨vy,hvy⟩:∃ v,cur.getD j1 0 = v:=⟨_,rfl⟩
     obtain ⟨lb,hlb⟩:∃ v,lssAt c cur (j1 + 1) j1 = v:=⟨_,rfl⟩
     have HLB:Hid (decide (c vx vy < 0) = lb):=Lib.hid (by rw [← hlb,← hvx,← hvy];rfl)
     have HOK:Hid (ok vx∧ok vy):=Lib.hid ⟨by rw [← hvx];exact hco _ (getD_mem (by omega)),by rw [← hvy];exact hco _ (getD_mem (by omega))⟩
     have HIJ:Hid (if lb = true then insJ c a j1 (swp cur (j1 + 1) j1) = insJ c a k L else cur = insJ c a k L):=Lib.hid (by
      rw [← hci,insJ,hlb]
      cases lb
      ·rw [if_neg (by decide),if_neg (fun e=>by cases e.2)]
      ·rw [if_pos rfl,if_pos ⟨hja,rfl⟩])
     have hp:=swp_perm (l:=cur) (i:=j1 + 1) (j:=j1) (by omega) (by omega)
     have HSW:Hid ((swp cur (j1 + 1) j1).length = n∧∀ x ∈ swp cur (j1 + 1) j1,ok x):=Lib.hid ⟨by rw [hp.length_eq];exact hcl,fun x hx=>hco x (hp.mem_iff.1 hx)⟩
     have HCC:=Lib.hid (And.intro hcl hco)
     rw [hj] at hvx HIJ HSW HJA hja hjk ⊢
     have HV:=Lib.hid (And.intro hvx hvy)
     have HJN:Hid (j < n∧j < cur.length∧j1 < cur.length):=Lib.hid (by omega)
     have hjn:j < n:=by omega
     have HJJ:=Lib.hid hj
     clear hci hvx hvy hlb hp hco hS hcl
     go_upto_region 4 with (fail)
     refine wp_region_held_drew (S:=fun W=>SrtI w0 g cur W) (by kernel_rfl) (HS.out.drewN 1) (fun hHeld=>?_)
     clear HS
     generalize World.drew _ = V0 at hHeld ⊢
     refine tk0 0 (some 18) (v:=.int .i64 (j:Int)) rfl hHeld ?_
     refine tk0 1 (some 19) (v:=.int .i64 (a:Int)) rfl hHeld ?_
     refine tk9 2 (some 20) (v:=.bool true) rfl (yields_gtD (by kernel_rfl) _ _ _ _ rfl (j:Int) (a:Int) true (by kernel_rfl) (by kernel_rfl) (by kernel_rfl) HJA.out) hHeld ?_
     refine tk0 3 (some 21) (v:=.bool true) rfl hHeld ?_
     refine tk0 4 (some 22) (v:=.func (.func kf) #[] cb) rfl hHeld ?_
     refine tk0 5 (some 23) (v:=.slice (some ⟨g,0,none⟩) n cp) rfl hHeld ?_
     refine tk0 6 (some 24) (v:=.int .i64 (j:Int)) rfl hHeld ?_
     refine tk9 7 (some 25) (v:=.pointer (some ⟨g,0 + j,none⟩)) rfl (yields_idx (by kernel_rfl) _ _ rfl g 0 n cp j (by kernel_rfl) (by kernel_rfl) HJN.out.1) hHeld ?_
     refine tk9 8 (some 26) (v:=.int .i64 vx) rfl (yields_load_one9 (by kernel_rfl) _ _ rfl g (0 + j) (by kernel_rfl) _ _ Tryz.underlying3 rfl (fun W h=>by rw [Nat.zero_add,h.cell HJN.out.2.1,HV.out.1])) hHeld ?_
     refine tk0 9 (some 27) (v:=.slice (some ⟨g,0,none⟩) n cp) rfl hHeld ?_
     refine tk0 10 (some 28) (v:=.int .i64 (j:Int)) rfl hHeld ?_
     refine tk9 11 (some 29) (v:=.int .i64 ((j:Int) - 1)) rfl (yields_subI (by kernel_rfl) _ _ _ _ rfl (j:Int) 1 (by kernel_rfl) (by kernel_rfl) (by kernel_rfl) (by omega) (by omega) (by omega)) hHeld ?_
     refine tk9 12 (some 30) (v:=.pointer (some ⟨g,j1,none⟩)) rfl (yields_indexQ (by kernel_rfl) _ _ _ rfl g 0 n cp j1 1 j1 ((j:Int) - 1) (by kernel_rfl) (by kernel_rfl) Tryz.underlying24 (by kernel_rfl) (by omega) (by omega) (by omega)) hHeld ?_
     refine tk9 13 (some 31) (v:=.int .i64 vy) rfl (yields_load_one9 (by kernel_rfl) _ _ rfl g j1 (by kernel_rfl) _ _ Tryz.underlying3 rfl (fun W h=>by rw [h.cell HJN.out.2.2,HV.out.2])) hHeld ?_
     refine call_f9 14 (some 32) rfl (by kernel_rfl) (by kernel_rfl) (by kernel_rfl) _ _ _ rfl kf cb (by kernel_rfl) #[.int .i64 vx,.int .i64 vy] (by kernel_rfl) HCL.out.enter ?_
     refine (HCL.out.calls cur V0 vx vy hHeld HOK.out.1 HOK.out.2).mono ?_
     rintro e V1 ⟨rfl,nn,rfl⟩
     replace hHeld:=hHeld.drewN nn
     generalize World.drewN V0 nn = V1 at hHeld ⊢
     refine ⟨_,rfl,hHeld,?_⟩
     refine tk9 15 (some 33) (v:=.bool lb) rfl (yields_ltD (by kernel_rfl) _ _ _ _ rfl (c vx vy) 0 lb (by kernel_rfl) (by kernel_rfl) (by kernel_rfl) HLB.out) hHeld ?_
     refine tk0 16 (some 34) (v:=.bool lb) rfl hHeld ?_
     have HS:=Lib.hid hHeld
     have hj1:j = j1 + 1:=HJJ.out.symm
     cases lb with
     | false =>
      refine wpAnyH_done (by kernel_rfl) ?_ _
      rename_i K0 a0
      change K0 _ _
      refine a0 _ _ (wp_cond_false (by kernel_rfl) ?_)
      clear hHeld
      simp [Act.put]
      go_wp2
      go_roundw
      case rel =>
       have e:cur = insJ c a k L:=by simpa using HIJ.out
       refine ⟨k + 1,cur,by go_num,by omega,HCC.out.1,HCC.out.2,?_,HS.out⟩
       rw [e]
       exact HL.out.2.2
      case measure=>simp [intOf];omega
     | true =>
      refine wpAnyH_done (by kernel_rfl) ?_ _
      rename_i K0 a0
      change K0 _ _
      refine a0 _ _ (wp_cond_true (by kernel_rfl) ?_)
      clear hHeld
      simp [Act.put]
      subst hj1
      have kx:=HS.out.cell HJN.out.2.1
      have ky:=HS.out.cell HJN.out.2.2
      have fx:=HS.out.free (j1 + 1)
      have fy:=HS.out.free j1
      rw [HV.out.1] at kx
      rw [HV.out.2] at ky
      have h1:=(HS.out.swap (i:=j1 + 1) (j:=j1) HJN.out.2.1 HJN.out.2.2).drewN 1
      rw [HV.out.1,HV.out.2] at h1
      have HQ:=Lib.hid h1
      have hne1:¬ j1 + 1 = j1:=by omega
      have hx0:(0:Int) ≤ (j1:Int) + 1:=by omega
      have hy0:(0:Int) ≤ (j1:Int):=by omega
      have hxn:(j1:Int) + 1 < (n:Int):=by omega
      have hyn:(j1:Int) < (n:Int):=by omega
      clear h1 HS
      go_wp2_with fail
      go_big_region
      clear kx ky fx fy
      go_wp2
      go_roundw
      case rel =>
       have e:insJ c a j1 (swp cur (j1 + 1) j1) = insJ c a k L:=by simpa using HIJ.out
       exact ⟨j1,swp cur (j1 + 1) j1,by go_num,by omega,HSW.out.1,HSW.out.2,e,HQ.out⟩
      case measure=>simp [intOf]
    ·have HJA:Hid (decide ((j:Int) > (a:Int)) = false):=Lib.hid (by simp;omega)
     have HIJ:Hid (cur = insJ c a k L):=Lib.hid (by
      rw [← hci]
      cases j with
      | zero=>rfl
      | succ j=>rw [insJ,if_neg (fun e=>hja e.1)])
     have HCC:=Lib.hid (And.intro hcl hco)
     clear hci hS hja hcl hco
     go_upto_region 4 with (fail)
     refine wp_region_held_drew (S:=fun W=>SrtI w0 g cur W) (by kernel_rfl) (HS.out.drewN 1) (fun hHeld=>?_)
     clear HS
     generalize World.drew _ = V0 at hHeld ⊢
     refine tk0 0 (some 18) (v:=.int .i64 (j:Int)) rfl hHeld ?_
     refine tk0 1 (some 19) (v:=.int .i64 (a:Int)) rfl hHeld ?_
     refine tk9 2 (some 20) (v:=.bool false) rfl (yields_gtD (by kernel_rfl) _ _ _ _ rfl (j:Int) (a:Int) false (by kernel_rfl) (by kernel_rfl) (by kernel_rfl) HJA.out) hHeld ?_
     refine tk0 3 (some 21) (v:=.bool false) rfl hHeld ?_
     refine tk9 4 (some 22) (v:=undef) rfl (Or.inr ⟨by kernel_rfl,rfl⟩) hHeld ?_
     refine tk9 5 (some 23) (v:=undef) rfl (Or.inr ⟨by kernel_rfl,rfl⟩) hHeld ?_
     refine tk9 6 (some 24) (v:=undef) rfl (Or.inr ⟨by kernel_rfl,rfl⟩) hHeld ?_
     refine tk9 7 (some 25) (v:=undef) rfl (Or.inr ⟨by kernel_rfl,rfl⟩) hHeld ?_
     refine tk9 8 (some 26) (v:=undef) rfl (Or.inr ⟨by kernel_rfl,rfl⟩) hHeld ?_
     refine tk9 9 (some 27) (v:=undef) rfl (Or.inr ⟨by kernel_rfl,rfl⟩) hHeld ?_
     refine tk9 10 (some 28) (v:=undef) rfl (Or.inr ⟨by kernel_rfl,rfl⟩) hHeld ?_
     refine tk9 11 (some 29) (v:=undef) rfl (Or.inr ⟨by kernel_rfl,rfl⟩) hHeld ?_
     refine tk9 12 (some 30) (v:=undef) rfl (Or.inr ⟨by kernel_rfl,rfl⟩) hHeld ?_
     refine tk9 13 (some 31) (v:=undef) rfl (Or.inr ⟨by kernel_rfl,rfl⟩) hHeld ?_
     refine tk9 14 (some 32) (v:=undef) rfl (Or.inr ⟨by kernel_rfl,rfl⟩) hHeld ?_
     refine tk9 15 (some 33) (v:=undef) rfl (Or.inr ⟨by kernel_rfl,rfl⟩) hHeld ?_
     refine tk0 16 (some 34) (v:=.bool false) rfl hHeld ?_
     refine wpAnyH_done (by kernel_rfl) ?_ _
     rename_i K0 a0
     change K0 _ _
     refine a0 _ _ (wp_cond_false (by kernel_rfl) ?_)
     have HS:=Lib.hid hHeld
     clear hHeld
     simp [Act.put]
     go_wp2
     go_roundw
     case rel =>
      refine ⟨k + 1,cur,by go_num,by omega,HCC.out.1,HCC.out.2,?_,HS.out⟩
      rw [HIJ.out]
      exact HL.out.2.2
     case measure=>simp [intOf];omega
  ·have hlt':¬ (k:Int) < (b:Int):=by omega
   rw [show b - k = 0 by omega,insI] at hLi
   have HR:=Lib.hid (show SrtI w0 g (insD c a b l) wx by rw [← hLi];exact hS)
   clear hLi hS hLl hLo hlt
   go_wp2
   go_end0
   exact ⟨rfl,HR.out⟩
end Go.Proofs.YtoeaglpmkjoenaaGreat
