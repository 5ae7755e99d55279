/-
  Chapter 10: Concat. No condition.
-/
/-
  Chapter 10: Reshape. No condition.
-/
/-
  Chapter 10: Pad. No condition.
-/
/-
  Chapter 10: Tile and Expand. No condition.
-/
import Derived.Test.YtilobeohkomeoaaGreatQSpan
set_option linter.unusedSimpArgs false
set_option linter.unusedVariables false
namespace Go.Proofs.YtilobeohkomeoaaGreat
open Go.RowKit
open Rep (rep)
set_option maxRecDepth 100000 in
set_option maxHeartbeats 8000000 in
theorem concat_any (cs:List Value) (a:AskD) (w:World) (hr:rep w (old w.heap.size) cs a) (hax:(axisD a.s.axis ((a.dims 0).length:Int)).2 = 0) :
  Calls Tryz.prog 102 #[.agg cs.toArray] w (ShP w P1):=by
 obtain ⟨A7,k7,h7,hi7⟩:=ask_ins hr
 obtain ⟨nb,nb'⟩:=slice_bnd hi7
 have H7:=Lib.hid h7
 clear h7 hi7
 obtain ⟨x0,x1⟩:=axis_ok hax
 obtain ⟨kx,hkx,hkl⟩:∃ k:Nat,(axisD a.s.axis ((a.dims 0).length:Int)).1 = (k:Int)∧k < (a.dims 0).length:=⟨(axisD a.s.axis ((a.dims 0).length:Int)).1.toNat,by omega,by omega⟩
 have HK:=Lib.hid hkx
 clear hax x0 x1 hkx
 go_enter Tryz.func102,Tryz.ntmps102
 go_wp2_with (with_reducible refine wpList_box_row rfl 91 _ rfl cs rfl ?_;have hX:=ask_start hr;generalize World.alloc _ _ = W0 at hX ⊢;have HX:=Lib.hid hX;clear hX hr;refine halt ?_)
 unfold Halt
 go_wp2_with fail
 refine wp_region_held_drew (S:=fun W=>AskI w cs a W∧Below W0.heap.size W0 W) (by kernel_rfl) ⟨HX.out.next ((Below.refl _ _).drew),(Below.refl _ _).drew⟩ (fun hHeld=>?_)
 generalize World.drew _ = V2 at hHeld ⊢
 have hb:=hHeld.2
 clear hb
 refine tk9 0 (some 9) (v:=.agg cs.toArray) rfl (yields_ask (by kernel_rfl) _ rfl (by kernel_rfl) (fun _ h=>h.1)) hHeld ?_
 refine tk9 3 (some 12) (v:=.agg cs.toArray) rfl (yields_ask (by kernel_rfl) _ rfl (by kernel_rfl) (fun _ h=>h.1)) hHeld ?_
 refine call_d9 1 (some 10) rfl (by kernel_rfl) (by kernel_rfl) (by kernel_rfl) 70 _ _ rfl #[.agg cs.toArray,.int .i64 0] (by kernel_rfl) (fun w=>by kernel_rfl) ?_
 refine (askDims' cs a 0 w.heap.size _ hHeld.1.below.size hHeld.1.arg0).mono ?_
 rintro e V3 ⟨A0,k0,rfl,h0,hb⟩
 have L0:=Lib.hid (lst_n hHeld.1 hb h0)
 obtain ⟨b0,b0'⟩:=slice_bnd h0
 clear h0
 replace hHeld:=held_next hHeld hb
 refine ⟨_,rfl,hHeld,?_⟩
 clear hb
 refine call_d9 2 (some 11) rfl (by kernel_rfl) (by kernel_rfl) (by kernel_rfl) 22 _ _ rfl #[.slice A0 (a.dims 0).length k0] (by kernel_rfl) (fun w=>by kernel_rfl) ?_
 refine (clone_ints (a.dims 0) _ _ L0.out.lst).mono ?_
 rintro e V4 ⟨v,rfl,hv,hb⟩
 obtain ⟨Ac,kc,rfl,hc⟩:=own_of hv
 clear hv
 replace L0:=Lib.hid (L0.out.next hb)
 have Lc:=Lib.hid (hc.more hHeld.1.lt)
 obtain ⟨bc,bc'⟩:=slice_bnd hc
 clear hc
 replace hHeld:=held_next hHeld hb
 refine ⟨_,rfl,hHeld,?_⟩
 clear hb
 refine call_d9 4 (some 13) rfl (by kernel_rfl) (by kernel_rfl) (by kernel_rfl) 105 _ _ rfl #[.agg cs.toArray] (by kernel_rfl) (fun w=>by kernel_rfl) ?_
 refine (axisK_any cs a _ hHeld.1.arg).mono ?_
 rintro e V5 ⟨rfl,hb⟩
 rw [HK.out]
 replace L0:=Lib.hid (L0.out.next hb)
 replace Lc:=Lib.hid (Lc.out.next hb)
 replace hHeld:=held_next hHeld hb
 refine ⟨_,rfl,hHeld,?_⟩
 clear hb
 refine tk0 5 (some 4) (v:=.slice Ac (a.dims 0).length kc) rfl hHeld ?_
 refine tk0 6 (some 5) (v:=.int .i64 (kx:Int)) rfl hHeld ?_
 refine wpAnyH_done (by kernel_rfl) ?_ _
 replace HX:=Lib.hid hHeld.1
 clear hHeld
 have h9:=L0.out.next (Below.refl _ _)
 clear h9 L0 b0 b0'
 go_wp2_with fail
 generalize a.dims 0 = out0 at bc hkl Lc ⊢
 go_loopw [6] (fun i wr=>∃ (c:Nat) (out:List Int),i = .int .i64 c∧1 ≤ c∧c ≤ a.ins.length + 1∧AskI w cs a wr∧Own wr (w.heap.size + 1) Ac kc out∧out.length = out0.length) (fun i _=>a.ins.length + 1 - (intOf i).toNat)
 case atStart=>exact ⟨1,out0,rfl,by omega,by omega,HX.out,Lc.out,rfl⟩
 case round =>
  obtain ⟨c,out,rfl,c1,c2,hA,hO,hl⟩:=hrel
  obtain ⟨wb,rfl⟩:∃ wb,wb = wr:=⟨_,rfl⟩
  have hc7:=hA.cell H7.out
  have HA:=Lib.hid hA
  have LO:=Lib.hid hO
  have HL:=Lib.hid hl
  rw [← hl]
  clear hA hO hl
  by_cases hlt:c < a.ins.length
  ·have hlt':(c:Int) < (a.ins.length:Int):=by omega
   go_wp2_with (with_reducible refine wpList_load_agg rfl 91 _ rfl _ _ _ rfl cs Tryz.underlying91 rfl HA.out.size HA.out.at ?_)
   refine (askDims' cs a c w.heap.size _ HA.out.below.size HA.out.arg0).mono ?_
   rintro e V21 ⟨Ad,kd,rfl,hd,hb⟩
   replace LO:=Lib.hid (LO.out.next hb)
   have Ld:=Lib.hid (lst_n HA.out hb hd)
   obtain ⟨bd,bd'⟩:=slice_bnd hd
   clear hd
   replace HA:=Lib.hid (HA.out.next hb)
   clear hb
   clear hc7
   go_wp2_with fail
   refine (clone_ints (a.dims c) _ _ Ld.out.lst).mono ?_
   rintro e V30 ⟨v,rfl,hv,hb⟩
   obtain ⟨D,kd',rfl,hd⟩:=own_of hv
   have OB:=Lib.hid ((LO.out.bnd.next hb))
   have LD:=Lib.hid hd
   obtain ⟨db,db'⟩:=slice_bnd hd
   have HS:=Lib.hid HA.out.lt
   replace HA:=Lib.hid (HA.out.next hb)
   clear hv hb hd
   clear Ld bd bd'
   generalize a.dims c = d at LD db ⊢
   by_cases hdl:d.length = out.length
   ·have HDL:=Lib.hid hdl
    have hkd:kx < d.length:=by have:=HL.out;omega
    have hko:kx < out.length:=by have:=HL.out;omega
    rw [hdl]
    clear hdl
    obtain ⟨u,hu⟩:∃ u,out[kx]? = some u:=⟨_,List.getElem?_eq_getElem hko⟩
    obtain ⟨z,hz⟩:∃ z,d[kx]? = some z:=⟨_,List.getElem?_eq_getElem (by have:=HDL.out;omega)⟩
    obtain ⟨u64,b2,o2,rfl,hb2,ku,fu⟩:=OB.out.own.get hu
    obtain ⟨z64,b3,o3,rfl,hb3,kz,fz⟩:=LD.out.get hz
    have hk0:(0:Int) ≤ (kx:Int):=Int.natCast_nonneg _
    have hk1:(kx:Int) < (out.length:Int):=by omega
    go_wp2_with fail
    have hd1:=LD.out.set (j:=kx) (by have:=HDL.out;omega) u64
    have hle:(d.set kx u).length = out.length:=by rw [List.length_set];exact HDL.out
    have ho1:=OB.out.set (p:=⟨b3,o3 + kx,none⟩) hb3 (.int .i64 u)
    have ha1:=HA.out.set (p:=⟨b3,o3 + kx,none⟩) (by have:=HS.out;simp only;omega) (.int .i64 u)
    generalize World.setCell _ _ _ = V31 at hd1 ho1 ha1 ⊢
    generalize d.set kx u = d1 at hd1 hle ⊢
    have hq:=equalInts_any d1 out _ _ kd' kc V31 hd1.rep ho1.own.rep
    rw [hle] at hq
    refine hq.mono ?_
    clear hq
    rintro e V32 ⟨rfl,n,rfl⟩
    have hb:Below V31.heap.size V31 (V31.drewN n):=below_drews (Below.refl _ _) n
    replace HA:=Lib.hid (ha1.next hb)
    replace OB:=Lib.hid (ho1.next hb)
    obtain ⟨-,hb2',ku,fu⟩:=OB.out.own.at hu
    generalize V31.drewN n = V33 at HA OB ku fu ⊢
    clear hd1 ho1 ha1 hb hle
    generalize decide (d1 = out) = t
    cases t with
    | false =>
     go_wp2_with fail
     refine (misfit_any _).mono ?_
     rintro e w9 ⟨rfl,rfl⟩
     go_wp2
     go_ret2
     exact sh_misfit HA.out.below
    | true =>
     go_wp2
     go_roundw
     case rel=>exact ⟨c + 1,out.set kx (wrap64 (u + z)),by go_num,by omega,by omega,HA.out.set (p:=⟨b2,o2 + kx,none⟩) (by simp only;omega) _,OB.out.own.set hko (wrap_i64 _),by simp⟩
     case measure=>simp [intOf];omega
   ·have hxy':((d.length:Int) != (out.length:Int)) = true:=by simp;omega
    go_wp2_with fail
    refine (misfit_any _).mono ?_
    rintro e w9 ⟨rfl,rfl⟩
    go_wp2
    go_ret2
    exact sh_misfit HA.out.below
  ·have hlt':¬ (c:Int) < (a.ins.length:Int):=by omega
   obtain ⟨lb,lb'⟩:=slice_bnd LO.out
   go_wp2_with fail
   refine (one_any out Ac kc _ LO.out.lst).mono ?_
   rintro e w8 ⟨D,j,x,ll,rfl,hx,hb,hl,rfl,rfl⟩
   have HC:=Lib.hid (And.intro (HA.out.trans hb) hl)
   clear hx hb hl
   go_wp2
   go_ret2
   exact ⟨D,j,0,_,rfl,by unfold I64;omega,HC.out.1,HC.out.2,fun _=>rfl⟩
end Go.Proofs.YtilobeohkomeoaaGreat
set_option linter.unusedSimpArgs false
set_option linter.unusedVariables false
namespace Go.Proofs.YtilobeohkomeoaaGreat
open Go.RowKit
open Rep (rep)
set_option maxRecDepth 100000 in
set_option maxHeartbeats 8000000 in
theorem reshape_any (cs:List Value) (a:AskD) (w:World) (hr:rep w (old w.heap.size) cs a) :
  Calls Tryz.prog 101 #[.agg cs.toArray] w (ShP w P1):=by
 obtain ⟨ss,hs,hc⟩:=ask_set hr
 have HC:=Lib.hid (hc 6 _ (fld_bool hs.f6))
 clear hs hc
 go_enter Tryz.func101,Tryz.ntmps101
 go_wp2_with (with_reducible refine wpList_box_row rfl 91 _ rfl cs rfl ?_;have hX:=ask_start hr;generalize World.alloc _ _ = W0 at hX ⊢;have HX:=Lib.hid hX;clear hX hr;refine halt ?_)
 unfold Halt
 go_wp2_with fail
 refine wp_region_held_drew (S:=fun W=>AskI w cs a W∧Below W0.heap.size W0 W) (by kernel_rfl) ⟨HX.out.next ((Below.refl _ _).drew),(Below.refl _ _).drew⟩ (fun hHeld=>?_)
 generalize World.drew _ = V2 at hHeld ⊢
 have hb:=hHeld.2
 clear hb
 refine tk9 0 (some 16) (v:=.agg cs.toArray) rfl (yields_ask (by kernel_rfl) _ rfl (by kernel_rfl) (fun _ h=>h.1)) hHeld ?_
 refine tk9 2 (some 18) (v:=.agg cs.toArray) rfl (yields_ask (by kernel_rfl) _ rfl (by kernel_rfl) (fun _ h=>h.1)) hHeld ?_
 refine call_d9 1 (some 17) rfl (by kernel_rfl) (by kernel_rfl) (by kernel_rfl) 70 _ _ rfl #[.agg cs.toArray,.int .i64 0] (by kernel_rfl) (fun w=>by kernel_rfl) ?_
 refine (askDims' cs a 0 w.heap.size _ hHeld.1.below.size hHeld.1.arg0).mono ?_
 rintro e V3 ⟨A0,k0,rfl,h0,hb⟩
 have L0:=Lib.hid (lst_n hHeld.1 hb h0)
 obtain ⟨b0,b0'⟩:=slice_bnd h0
 clear h0
 replace hHeld:=held_next hHeld hb
 refine ⟨_,rfl,hHeld,?_⟩
 clear hb
 refine call_d9 3 (some 19) rfl (by kernel_rfl) (by kernel_rfl) (by kernel_rfl) 117 _ _ rfl #[.agg cs.toArray,.int .i64 1] (by kernel_rfl) (fun w=>by kernel_rfl) ?_
 refine (numbers_any cs a 1 _ hHeld.1.arg).mono ?_
 rintro e V4 ⟨A1,k1,l1,rfl,hb,h1,-⟩
 replace L0:=Lib.hid (L0.out.next hb)
 have L1:=Lib.hid (h1.more hHeld.1.lt)
 obtain ⟨b1,b1'⟩:=slice_bnd h1
 clear h1
 replace hHeld:=held_next hHeld hb
 refine ⟨_,rfl,hHeld,?_⟩
 clear hb
 refine tk0 4 (some 4) (v:=.slice A0 (a.dims 0).length k0) rfl hHeld ?_
 refine tk0 5 (some 5) (v:=.slice A1 l1.length k1) rfl hHeld ?_
 refine wpAnyH_done (by kernel_rfl) ?_ _
 replace HX:=Lib.hid hHeld.1
 clear hHeld
 generalize a.dims 0 = d at L0 b0 ⊢
 go_wp2_with fail
 refine (size_any d A0 k0 _ L0.out.lst).mono ?_
 rintro e w5 ⟨rfl,rfl⟩
 have HSB:=Lib.hid (size_bd d)
 generalize (sizeD d).1 = sz at HSB ⊢
 generalize (sizeD d).2 = ez at HSB ⊢
 obtain ⟨p,hp⟩:∃ p,A1 = p:=⟨_,rfl⟩
 subst hp
 go_wp2_with fail
 go_loopw [8,27] (fun f i wr=>∃ (c:Nat) (x:Int) (out:List Int),i = .int .i64 c∧f = .int .i64 x∧-1 ≤ x∧x < (out.length:Int)∧c ≤ out.length∧AskI w cs a wr∧LstN w.heap.size wr A0 k0 d∧Own wr (w.heap.size + 1) A1 k1 out∧out.length = l1.length) (fun _ i _=>l1.length - (intOf i).toNat)
 case atStart=>exact ⟨0,-1,l1,rfl,rfl,by omega,by omega,by omega,HX.out,L0.out,L1.out,rfl⟩
 case round =>
  obtain ⟨c,x,out,rfl,rfl,x1,x2,hco,hA,hD,hO,hl⟩:=hrel
  obtain ⟨wb,rfl⟩:∃ wb,wb = wr:=⟨_,rfl⟩
  have hc6:=hA.cell HC.out
  have HA:=Lib.hid hA
  have LD:=Lib.hid hD
  have LO:=Lib.hid hO
  have HL:=Lib.hid hl
  clear hA hD hO
  rw [← hl]
  clear hl
  obtain ⟨ob,ob'⟩:=slice_bnd LO.out
  by_cases hlt:c < out.length
  ·have hlt':(c:Int) < (out.length:Int):=by omega
   obtain ⟨z,hz⟩:∃ z,out[c]? = some z:=⟨_,List.getElem?_eq_getElem hlt⟩
   obtain ⟨z64,b2,o2,rfl,hb2,kz,fz⟩:=LO.out.get hz
   have hk0:(0:Int) ≤ (c:Int):=Int.natCast_nonneg _
   have HZ:=Lib.hid z64
   clear hz z64
   rcases (show z < -1 ∨ z = -1 ∨ z = 0 ∨ 0 < z by omega) with hz | hz | hz | hz
   ·-- below -1
    go_wp2_with fail
    refine (misfit_any _).mono ?_
    rintro e w9 ⟨rfl,rfl⟩
    go_wp2
    go_ret2
    exact sh_misfit HA.out.below
   ·subst hz
    by_cases hf:x ≥ 0
    ·clear hc6
     go_wp2_with fail
     refine (misfit_any _).mono ?_
     rintro e w9 ⟨rfl,rfl⟩
     go_wp2
     go_ret2
     exact sh_misfit HA.out.below
    ·clear hc6
     go_wp2
     go_roundw
     case rel=>exact ⟨c + 1,(c:Int),out,by go_num,by go_num,by omega,by omega,by omega,HA.out,LD.out,LO.out,rfl⟩
     case measure=>simp [intOf];omega
   ·subst hz
    cases hzf:a.s.zero with
    | true =>
     rw [hzf] at hc6
     clear hzf
     go_wp2
     go_roundw
     case rel=>exact ⟨c + 1,x,out,by go_num,by go_num,by omega,by omega,by omega,HA.out,LD.out,LO.out,rfl⟩
     case measure=>simp [intOf];omega
    | false =>
     rw [hzf] at hc6
     clear hzf
     by_cases hcd:c < d.length
     ·have hcd':¬ (c:Int) ≥ (d.length:Int):=by omega
      have hcd2:(c:Int) < (d.length:Int):=by omega
      obtain ⟨u,hu⟩:∃ u,d[c]? = some u:=⟨_,List.getElem?_eq_getElem hcd⟩
      obtain ⟨u64,b3,o3,rfl,hb3,ku⟩:=LD.out.get hu
      have HU:=Lib.hid (And.intro u64 hb3)
      clear hu u64 hb3
      go_wp2
      go_roundw
      case rel=>exact ⟨c + 1,x,out.set c u,by go_num,by go_num,by omega,by simp;omega,by simp;omega,HA.out.set (p:=⟨b2,o2 + c,none⟩) (by simp only;omega) _,LD.out.set (p:=⟨b2,o2 + c,none⟩) (by simp only;omega) _,LO.out.set hlt HU.out.1,by simp⟩
      case measure=>simp [intOf];omega
     ·have hcd':(c:Int) ≥ (d.length:Int):=by omega
      go_wp2_with fail
      refine (misfit_any _).mono ?_
      rintro e w9 ⟨rfl,rfl⟩
      go_wp2
      go_ret2
      exact sh_misfit HA.out.below
   ·have hz0:¬ z = 0:=by omega
    have hz1:¬ z = -1:=by omega
    have hz2:¬ z < -1:=by omega
    go_wp2
    go_roundw
    case rel=>exact ⟨c + 1,x,out,by go_num,by go_num,by omega,by omega,by omega,HA.out,LD.out,LO.out,rfl⟩
    case measure=>simp [intOf];omega
  ·have hlt':¬ (c:Int) < (out.length:Int):=by omega
   clear hc6 hco hlt

   go_wp2_with fail
   go_loopw [9,85] (fun r i wr=>∃ (c:Nat) (y:Int),i = .int .i64 c∧r = .int .i64 y∧0 ≤ y∧y ≤ 1∧c ≤ out.length∧wr = wb) (fun _ i _=>out.length - (intOf i).toNat)
   case atStart=>exact ⟨0,1,rfl,rfl,by omega,by omega,by omega,rfl⟩
   case round =>
    obtain ⟨j,y,rfl,rfl,y1,y2,hj,rfl⟩:=hrel
    obtain ⟨wb,rfl⟩:∃ wb,wb = wr:=⟨_,rfl⟩
    by_cases hlj:j < out.length
    ·have hlj':(j:Int) < (out.length:Int):=by omega
     obtain ⟨z,hz⟩:∃ z,out[j]? = some z:=⟨_,List.getElem?_eq_getElem hlj⟩
     obtain ⟨z64,b2,o2,rfl,hb2,kz,fz⟩:=LO.out.get hz
     have hk0:(0:Int) ≤ (j:Int):=Int.natCast_nonneg _
     clear hz
     by_cases hjx:(j:Int) = x
     ·subst hjx
      go_wp2
      go_roundw
      case rel=>exact ⟨j + 1,y,by go_num,rfl,y1,y2,by omega,trivial⟩
      case measure=>simp [intOf];omega
     ·have hjx':((j:Int) != x) = true:=by simpa using hjx
      by_cases hz0:z = 0
      ·subst hz0
       go_wp2
       go_roundw
       case rel=>exact ⟨j + 1,0,by go_num,rfl,by omega,by omega,by omega,trivial⟩
       case measure=>simp [intOf];omega
      ·go_wp2
       go_roundw
       case rel=>exact ⟨j + 1,y,by go_num,rfl,y1,y2,by omega,trivial⟩
       case measure=>simp [intOf];omega
    ·have hlj':¬ (j:Int) < (out.length:Int):=by omega
     have HY:=Lib.hid (And.intro y1 y2)
     clear y1 y2 hlj hj
     go_wp2_with fail
     go_loopw [9,100] (fun r i wr=>∃ (c:Nat) (y:Int),i = .int .i64 c∧r = .int .i64 y∧I64 y∧c ≤ out.length∧wr = wb) (fun _ i _=>out.length - (intOf i).toNat)
     case atStart=>exact ⟨0,y,rfl,rfl,by have:=HY.out;unfold I64;omega,by omega,rfl⟩
     case round =>
      obtain ⟨m,t,rfl,rfl,ht,hm,rfl⟩:=hrel
      obtain ⟨wb,rfl⟩:∃ wb,wb = wr:=⟨_,rfl⟩
      by_cases hlm:m < out.length
      ·have hlm':(m:Int) < (out.length:Int):=by omega
       obtain ⟨z,hz⟩:∃ z,out[m]? = some z:=⟨_,List.getElem?_eq_getElem hlm⟩
       obtain ⟨z64,b2,o2,rfl,hb2,kz,fz⟩:=LO.out.get hz
       have hk0:(0:Int) ≤ (m:Int):=Int.natCast_nonneg _
       have HI:=Lib.hid ht
       clear hz z64 ht
       by_cases htp:t > 0
       ·by_cases hmx:(m:Int) = x
        ·subst hmx
         go_wp2
         go_roundw
         case rel=>exact ⟨m + 1,t,by go_num,by go_num,HI.out,by omega,trivial⟩
         case measure=>simp [intOf];omega
        ·have hmx':((m:Int) != x) = true:=by simpa using hmx
         have HT:=Lib.hid (wrap_i64 (t * z))
         have hu:wrap64 (t * z) = wrap64 (t * z):=rfl
         obtain ⟨u,hu⟩:∃ u,wrap64 (t * z) = u:=⟨_,rfl⟩
         by_cases h1:wrap64 (t * z) > sz
         ·by_cases h2:sz > 0
          ·clear hu
           go_wp2_with fail
           refine (misfit_any _).mono ?_
           rintro e w9 ⟨rfl,rfl⟩
           go_wp2
           go_ret2
           exact sh_misfit HA.out.below
          ·by_cases h3:wrap64 (t * z) > 4096
           ·clear hu
            go_wp2_with fail
            refine (misfit_any _).mono ?_
            rintro e w9 ⟨rfl,rfl⟩
            go_wp2
            go_ret2
            exact sh_misfit HA.out.below
           ·clear hu
            go_wp2
            go_roundw
            case rel=>exact ⟨m + 1,wrap64 (t * z),by go_num,by go_num,HT.out,by omega,trivial⟩
            case measure=>simp [intOf];omega
         ·by_cases h3:wrap64 (t * z) > 4096
          ·clear hu
           go_wp2_with fail
           refine (misfit_any _).mono ?_
           rintro e w9 ⟨rfl,rfl⟩
           go_wp2
           go_ret2
           exact sh_misfit HA.out.below
          ·clear hu
           go_wp2
           go_roundw
           case rel=>exact ⟨m + 1,wrap64 (t * z),by go_num,by go_num,HT.out,by omega,trivial⟩
           case measure=>simp [intOf];omega
       ·
        go_wp2
        go_roundw
        case rel=>exact ⟨m + 1,t,by go_num,by go_num,HI.out,by omega,trivial⟩
        case measure=>simp [intOf];omega
      ·have hlm':¬ (m:Int) < (out.length:Int):=by omega
       have HI:=Lib.hid ht
       clear ht hlm hm
       have HX1:=Lib.hid x1
       by_cases hx0:x ≥ 0
       ·by_cases ht0:t = 0
        ·subst ht0
         go_wp2_with fail
         refine (misfit_any _).mono ?_
         rintro e w9 ⟨rfl,rfl⟩
         go_wp2
         go_ret2
         exact sh_misfit HA.out.below
        ·obtain ⟨n,rfl⟩:∃ n:Nat,x = (n:Int):=⟨x.toNat,by omega⟩
         have hn:n < out.length:=by omega
         obtain ⟨z,hz⟩:∃ z,out[n]? = some z:=⟨_,List.getElem?_eq_getElem hn⟩
         obtain ⟨z64,b2,o2,rfl,hb2,kz,fz⟩:=LO.out.get hz
         clear hz z64
         go_wp2_with fail
         ·refine (misfit_any _).mono ?_
          rintro e w9 ⟨rfl,rfl⟩
          go_wp2
          go_ret2
          exact sh_misfit HA.out.below
         ·have ho1:=LO.out.set hn (wrap_i64 (sz.tdiv t))
          have ha1:=HA.out.set (p:=⟨b2,o2 + n,none⟩) (by simp only;omega) (.int .i64 (wrap64 (sz.tdiv t)))
          have hle:(out.set n (wrap64 (sz.tdiv t))).length = out.length:=List.length_set ..
          generalize World.setCell _ _ _ = V31 at ho1 ha1 ⊢
          generalize out.set n (wrap64 (sz.tdiv t)) = d1 at ho1 hle
          have hq:=one_any d1 _ k1 V31 ho1.lst
          rw [hle] at hq
          have HB:=Lib.hid ha1
          clear ho1 ha1 hle
          refine hq.mono ?_
          clear hq
          rintro e w8 ⟨D,j,x,ll,rfl,hx,hb,hl,rfl,rfl⟩
          have HC:=Lib.hid (And.intro (HB.out.trans hb) hl)
          clear hx hb hl
          go_wp2
          go_ret2
          exact ⟨D,j,0,_,rfl,by unfold I64;omega,HC.out.1,HC.out.2,fun _=>rfl⟩
       ·by_cases hts:t = sz
        ·subst hts
         go_wp2_with fail
         refine (one_any out A1 k1 _ LO.out.lst).mono ?_
         rintro e w8 ⟨D,j,x,ll,rfl,hx,hb,hl,rfl,rfl⟩
         have HC:=Lib.hid (And.intro (HA.out.trans hb) hl)
         clear hx hb hl
         go_wp2
         go_ret2
         exact ⟨D,j,0,_,rfl,by unfold I64;omega,HC.out.1,HC.out.2,fun _=>rfl⟩
        ·have hts':(t != sz) = true:=by simpa using hts
         go_wp2_with fail
         refine (misfit_any _).mono ?_
         rintro e w9 ⟨rfl,rfl⟩
         go_wp2
         go_ret2
         exact sh_misfit HA.out.below
end Go.Proofs.YtilobeohkomeoaaGreat
set_option linter.unusedSimpArgs false
set_option linter.unusedVariables false
namespace Go.Proofs.YtilobeohkomeoaaGreat
open Go.RowKit
open Rep (rep)
set_option maxRecDepth 100000 in
set_option maxHeartbeats 8000000 in
theorem pad_any (cs:List Value) (a:AskD) (w:World) (hr:rep w (old w.heap.size) cs a) :
  Calls Tryz.prog 108 #[.agg cs.toArray] w (ShP w P1):=by
 obtain ⟨ss,hs,hc⟩:=ask_set hr
 have HC:=Lib.hid (hc 16 _ (fld_int hs.f16).1)
 clear hs hc
 go_enter Tryz.func108,Tryz.ntmps108
 go_wp2_with (with_reducible refine wpList_box_row rfl 91 _ rfl cs rfl ?_;have hX:=ask_start hr;generalize World.alloc _ _ = W0 at hX ⊢;have HX:=Lib.hid hX;clear hX hr;refine halt ?_)
 unfold Halt
 go_wp2_with fail
 go_step3
 go_wp2_with fail
 refine wp_region_held_drew (S:=fun W=>AskI w cs a W∧Below W0.heap.size W0 W) (by kernel_rfl) ⟨HX.out.next ((Below.refl _ _).drew),(Below.refl _ _).drew⟩ (fun hHeld=>?_)
 generalize World.drew _ = V2 at hHeld ⊢
 have hb:=hHeld.2
 clear hb
 refine tk9 0 (some 10) (v:=.agg cs.toArray) rfl (yields_ask (by kernel_rfl) _ rfl (by kernel_rfl) (fun _ h=>h.1)) hHeld ?_
 refine tk9 3 (some 13) (v:=.agg cs.toArray) rfl (yields_ask (by kernel_rfl) _ rfl (by kernel_rfl) (fun _ h=>h.1)) hHeld ?_
 refine call_d9 1 (some 11) rfl (by kernel_rfl) (by kernel_rfl) (by kernel_rfl) 70 _ _ rfl #[.agg cs.toArray,.int .i64 0] (by kernel_rfl) (fun w=>by kernel_rfl) ?_
 refine (askDims' cs a 0 w.heap.size _ hHeld.1.below.size hHeld.1.arg0).mono ?_
 rintro e V3 ⟨A0,k0,rfl,h0,hb⟩
 have L0:=Lib.hid (lst_n hHeld.1 hb h0)
 obtain ⟨b0,b0'⟩:=slice_bnd h0
 clear h0
 replace hHeld:=held_next hHeld hb
 refine ⟨_,rfl,hHeld,?_⟩
 clear hb
 refine call_d9 2 (some 12) rfl (by kernel_rfl) (by kernel_rfl) (by kernel_rfl) 22 _ _ rfl #[.slice A0 (a.dims 0).length k0] (by kernel_rfl) (fun w=>by kernel_rfl) ?_
 refine (clone_ints (a.dims 0) _ _ L0.out.lst).mono ?_
 rintro e V4 ⟨v,rfl,hv,hb⟩
 obtain ⟨Ac,kc,rfl,hc⟩:=own_of hv
 clear hv
 replace L0:=Lib.hid (L0.out.next hb)
 have Lc:=Lib.hid (hc.more hHeld.1.lt)
 obtain ⟨bc,bc'⟩:=slice_bnd hc
 clear hc
 replace hHeld:=held_next hHeld hb
 refine ⟨_,rfl,hHeld,?_⟩
 clear hb
 replace Lc:=Lib.hid Lc.out.bnd
 have Z1:w.heap.size < V4.heap.size:=hHeld.1.lt
 refine call_d9 4 (some 14) rfl (by kernel_rfl) (by kernel_rfl) (by kernel_rfl) 117 _ _ rfl #[.agg cs.toArray,.int .i64 1] (by kernel_rfl) (fun w=>by kernel_rfl) ?_
 refine (numbers_any cs a 1 _ hHeld.1.arg).mono ?_
 rintro e V5 ⟨A1,k1,l1,rfl,hb,h1,-⟩
 replace L0:=Lib.hid (L0.out.next hb)
 replace Lc:=Lib.hid (Lc.out.next hb)
 have L1:=Lib.hid h1
 obtain ⟨b1,b1'⟩:=slice_bnd h1
 clear h1
 replace hHeld:=held_next hHeld hb
 refine ⟨_,rfl,hHeld,?_⟩
 clear hb
 refine tk0 5 (some 4) (v:=.slice Ac (a.dims 0).length kc) rfl hHeld ?_
 refine tk0 6 (some 5) (v:=.slice A1 l1.length k1) rfl hHeld ?_
 refine wpAnyH_done (by kernel_rfl) ?_ _
 replace HX:=Lib.hid hHeld.1
 clear hHeld
 have hlc:=L0.out.lst
 have hl0:(a.dims 0).length * 8 ≤ 140737488351232:=by
  obtain ⟨_,_,_,_,_,_,hb,_,_⟩:=open_slice (α:=Int) hlc
  exact hb
 clear hlc
 obtain ⟨r,hr⟩:∃ r,(a.dims 0).length = r:=⟨_,rfl⟩
 have HR:=Lib.hid hr
 rw [hr] at hl0 bc ⊢
 clear hr b0
 by_cases hl2:(l1.length:Int) = 2 * (r:Int)
 ·have hl2':((l1.length:Int) != 2 * (r:Int)) = false:=by simpa using hl2
  have HL2:=Lib.hid hl2
  clear hl2
  go_wp2_with fail
  refine (below_any l1 A1 k1 0 _ L1.out.rep).mono ?_
  rintro e w6 ⟨rfl,hb⟩
  replace L0:=Lib.hid (L0.out.next hb)
  replace Lc:=Lib.hid (Lc.out.next hb)
  replace L1:=Lib.hid (L1.out.next hb)
  replace HX:=Lib.hid (HX.out.next hb)
  clear hb
  generalize (l1.any fun x=>decide (x < 0)) = t
  cases t with
  | true =>
   go_wp2_with fail
   refine (misfit_any _).mono ?_
   rintro e w9 ⟨rfl,rfl⟩
   go_wp2
   go_ret2
   exact sh_misfit HX.out.below
  | false =>
   go_wp2_with (with_reducible refine wpList_load_agg_w (by kernel_rfl) 91 _ rfl _ _ _ rfl cs Tryz.underlying91 rfl HX.out.size HX.out.at ?_)
   refine (askDims' cs a 2 w.heap.size _ HX.out.below.size HX.out.arg0).mono ?_
   rintro e V6 ⟨A2,k2,rfl,h2,hb⟩
   replace L0:=Lib.hid (L0.out.next hb)
   replace Lc:=Lib.hid (Lc.out.next hb)
   replace L1:=Lib.hid (L1.out.next hb)
   have L2:=Lib.hid (lst_n HX.out hb h2)
   obtain ⟨b2,b2'⟩:=slice_bnd h2
   clear h2
   replace HX:=Lib.hid (HX.out.next hb)
   clear hb
   clear L2 b2
   generalize (a.dims 2).length = m2
   cases m2 with
   | succ m2 =>
    go_wp2_with fail
    refine (misfit_any _).mono ?_
    rintro e w9 ⟨rfl,rfl⟩
    go_wp2
    go_ret2
    exact sh_misfit HX.out.below
   | zero =>
    go_wp2_with fail
    go_step3
    clear hl2'
    go_wp2_with fail
    go_loopg [37] l1.length (fun gk s37 wr=>∃ (c:Nat) (out:List Int),c + gk = l1.length∧s37 = .int .i64 c∧AskI w cs a wr∧OwnB (w.heap.size + 1) V4.heap.size wr Ac kc out∧Own wr V4.heap.size A1 k1 l1∧out.length = r)
    case atStart=>exact ⟨0,a.dims 0,by omega,rfl,HX.out,Lc.out,L1.out,HR.out⟩
    case round =>
     obtain ⟨c,out,hcg,rfl,hA,hB,hO,hl⟩:=hrel
     obtain ⟨wb,rfl⟩:∃ wb,wb = wr:=⟨_,rfl⟩
     have HA:=Lib.hid hA
     have LC:=Lib.hid hB
     have LO:=Lib.hid hO
     have HG:=Lib.hid (And.intro hcg hl)
     clear hA hB hO
     cases gk with
     | zero =>
      have hlt':¬ (c:Int) < (l1.length:Int):=by omega
      clear hcg
      have hq:=one_any out Ac kc wb LC.out.own.lst
      rw [hl] at hq
      clear hl
      go_wp2_with fail
      refine hq.mono ?_
      clear hq
      rintro e w8 ⟨D,j,x,ll,rfl,hx,hb,hl,rfl,rfl⟩
      have HC:=Lib.hid (And.intro (HA.out.trans hb) hl)
      clear hx hb hl
      go_wp2
      rw [Exit.noGoto_ret]
      go_ret2
      exact ⟨D,j,0,_,rfl,by unfold I64;omega,HC.out.1,HC.out.2,fun _=>rfl⟩
     | succ gk =>
      have hlt:c < l1.length:=by omega
      have hr0:0 < r:=by have:=HL2.out;omega
      have hlt':(c:Int) < (l1.length:Int):=by omega
      obtain ⟨z,hz⟩:∃ z,l1[c]? = some z:=⟨_,List.getElem?_eq_getElem hlt⟩
      obtain ⟨z64,b2,o2,rfl,hb2,kz,fz⟩:=LO.out.get hz
      have hk0:(0:Int) ≤ (c:Int):=Int.natCast_nonneg _
      have HZ:=Lib.hid (And.intro z64 hb2)
      have hcr:c % r < r:=Nat.mod_lt _ hr0
      have hcl:c < l1.length:=hlt
      clear hz z64 hb2 hlt hcg hl
      go_wp2_with fail
      clear kz fz
      refine wp_region_held_drew (S:=fun W=>AskI w cs a W∧Below wb.heap.size wb W) (by kernel_rfl) ⟨HA.out.next ((Below.refl _ _).drew),(Below.refl _ _).drew⟩ (fun hHeld=>?_)
      generalize World.drew _ = V51 at hHeld ⊢
      have hb:=hHeld.2
      replace LC:=Lib.hid (LC.out.next hb)
      replace LO:=Lib.hid (LO.out.next hb)
      clear hb
      refine tk9 0 (some 42) (v:=.agg cs.toArray) rfl (yields_ask (by kernel_rfl) _ rfl (by kernel_rfl) (fun _ h=>h.1)) hHeld ?_
      refine tk0 2 (some 44) (v:=.int .i64 (c:Int)) rfl hHeld ?_
      refine tk0 3 (some 45) (v:=.int .i64 (r:Int)) rfl hHeld ?_
      refine tk9 4 (some 46) (v:=.int .i64 ((c:Int) % (r:Int))) rfl (yields_remI (by kernel_rfl) _ _ _ _ rfl (c:Int) (r:Int) (by kernel_rfl) (by kernel_rfl) (by kernel_rfl) (by omega) (by omega) (by omega) (by omega)) hHeld ?_
      refine call_d9 1 (some 43) rfl (by kernel_rfl) (by kernel_rfl) (by kernel_rfl) 70 _ _ rfl #[.agg cs.toArray,.int .i64 0] (by kernel_rfl) (fun w=>by kernel_rfl) ?_
      refine (askDims' cs a 0 w.heap.size _ hHeld.1.below.size hHeld.1.arg0).mono ?_
      rintro e V52 ⟨A9,k9,rfl,h9,hb⟩
      replace LC:=Lib.hid (LC.out.next hb)
      replace LO:=Lib.hid (LO.out.next hb)
      have L9:=Lib.hid (lst_n hHeld.1 hb h9)
      obtain ⟨b9,b9'⟩:=slice_bnd h9
      clear h9
      replace hHeld:=held_next hHeld hb
      refine ⟨_,rfl,hHeld,?_⟩
      clear hb
      generalize hd9:a.dims 0 = d9 at L9 b9 ⊢
      have hl9:d9.length = r:=by rw [← hd9];exact HR.out
      clear hd9
      obtain ⟨u,hu⟩:∃ u,d9[c % r]? = some u:=⟨_,List.getElem?_eq_getElem (by rw [hl9];exact hcr)⟩
      obtain ⟨u64,b3,o3,rfl,hub,ku⟩:=L9.out.get hu
      have kw:w.cell? ⟨b3,o3 + c % r,none⟩ = some (.int .i64 u):=(hHeld.1.below.cell (p:=⟨b3,o3 + c % r,none⟩) hub).symm.trans ku
      have KW:=Lib.hid (And.intro kw hub)
      clear kw hub ku
      have HU:=Lib.hid u64
      clear hu u64
      refine tk9 5 (some 47) (v:=.pointer (some ⟨b3,o3 + (c % r),none⟩)) rfl (yields_idx (by kernel_rfl) _ _ rfl b3 o3 (d9.length) k9 ((c % r)) (by kernel_rfl) (by kernel_rfl) (by rw [hl9];exact hcr)) hHeld ?_
      refine tk9 6 (some 48) (v:=.int .i64 u) rfl (yields_load_one9 (by kernel_rfl) _ _ rfl b3 (o3 + (c % r)) (by kernel_rfl) _ _ Tryz.underlying3 rfl (fun _ h=>(h.1.below.cell (p:=⟨b3,o3 + c % r,none⟩) KW.out.2).trans KW.out.1)) hHeld ?_
      refine tk0 7 (some 9) (v:=.int .i64 u) rfl hHeld ?_
      refine wpAnyH_done (by kernel_rfl) ?_ _
      replace HA:=Lib.hid hHeld.1
      clear hHeld
      by_cases hz0:z = 0
      ·subst hz0
       go_wp2
       go_roundg gk
       case measure=>omega
       case rel=>exact ⟨c + 1,out,by have:=HG.out.1;omega,by go_num,HA.out,LC.out,LO.out,HG.out.2⟩
      ·obtain ⟨y,hy⟩:∃ y,out[c % r]? = some y:=⟨_,List.getElem?_eq_getElem (by have:=HG.out.2;omega)⟩
       obtain ⟨y64,b4,o4,rfl,hb4,ky,fy⟩:=LC.out.get hy
       have hc16:=HA.out.cell HC.out
       have HB4:=Lib.hid (And.intro hb4 (show c % r < out.length by have:=HG.out.2;omega))
       clear hy y64 hb4
       have hm:(c:Int).tmod (r:Int) = ((c % r:Nat):Int):=by rw [Int.tmod_eq_emod_of_nonneg (by omega)];rfl
       have hm0:(0:Int) ≤ ((c % r:Nat):Int):=by omega
       have hm1:((c % r:Nat):Int) < (r:Int):=by omega
       have hr1:¬ (r:Int) = 0:=by omega
       generalize a.s.mode = md at hc16
       by_cases h2:md = 2
       ·subst h2
        by_cases hzu:z ≥ u
        ·
          go_wp2_with fail
          refine (misfit_any _).mono ?_
          rintro e w9 ⟨rfl,rfl⟩
          go_wp2
          rw [Exit.noGoto_ret]
          go_ret2
          exact sh_misfit HA.out.below
        ·
         go_wp2
         go_roundg gk
         case measure=>omega
         case rel=>exact ⟨c + 1,out.set (c % r) (wrap64 (y + z)),by have:=HG.out.1;omega,by go_num,HA.out.set (p:=⟨b4,o4 + c % r,none⟩) (by have:=HB4.out;simp only;omega) _,LC.out.write HB4.out.2 (wrap_i64 _),LO.out.other (p:=⟨b4,o4 + c % r,none⟩) (by have:=HB4.out;simp only;omega) _,by simp [HG.out.2]⟩
       ·by_cases h3:md = 3
        ·subst h3
         by_cases hu0:u = 0
         ·subst hu0
          go_wp2_with fail
          refine (misfit_any _).mono ?_
          rintro e w9 ⟨rfl,rfl⟩
          go_wp2
          rw [Exit.noGoto_ret]
          go_ret2
          exact sh_misfit HA.out.below
         ·
          go_wp2
          go_roundg gk
          case measure=>omega
          case rel=>exact ⟨c + 1,out.set (c % r) (wrap64 (y + z)),by have:=HG.out.1;omega,by go_num,HA.out.set (p:=⟨b4,o4 + c % r,none⟩) (by have:=HB4.out;simp only;omega) _,LC.out.write HB4.out.2 (wrap_i64 _),LO.out.other (p:=⟨b4,o4 + c % r,none⟩) (by have:=HB4.out;simp only;omega) _,by simp [HG.out.2]⟩
        ·
         go_wp2
         go_roundg gk
         case measure=>omega
         case rel=>exact ⟨c + 1,out.set (c % r) (wrap64 (y + z)),by have:=HG.out.1;omega,by go_num,HA.out.set (p:=⟨b4,o4 + c % r,none⟩) (by have:=HB4.out;simp only;omega) _,LC.out.write HB4.out.2 (wrap_i64 _),LO.out.other (p:=⟨b4,o4 + c % r,none⟩) (by have:=HB4.out;simp only;omega) _,by simp [HG.out.2]⟩
 ·have hl2':((l1.length:Int) != 2 * (r:Int)) = true:=by simpa using hl2
  clear hl2
  go_wp2_with fail
  refine (misfit_any _).mono ?_
  rintro e w9 ⟨rfl,rfl⟩
  go_wp2
  go_ret2
  exact sh_misfit HX.out.below
end Go.Proofs.YtilobeohkomeoaaGreat
set_option linter.unusedSimpArgs false
set_option linter.unusedVariables false
namespace Go.Proofs.YtilobeohkomeoaaGreat
open Go.RowKit
open Rep (rep)
set_option maxRecDepth 100000 in
set_option maxHeartbeats 8000000 in
theorem grown_any (cs:List Value) (a:AskD) (w:World) (hr:rep w (old w.heap.size) cs a) (hop:a.op = 54 ∨ a.op = 55) :
  Calls Tryz.prog 109 #[.agg cs.toArray] w (ShP w P1):=by
 have HO:=Lib.hid (ask_op hr).1
 go_enter Tryz.func109,Tryz.ntmps109
 go_wp2_with (with_reducible refine wpList_box_row rfl 91 _ rfl cs rfl ?_;have hX:=ask_start hr;generalize World.alloc _ _ = W0 at hX ⊢;have HX:=Lib.hid hX;clear hX hr;refine halt ?_)
 unfold Halt
 go_wp2_with fail
 refine wp_region_held_drew (S:=fun W=>AskI w cs a W∧Below W0.heap.size W0 W) (by kernel_rfl) ⟨HX.out.next ((Below.refl _ _).drew),(Below.refl _ _).drew⟩ (fun hHeld=>?_)
 generalize World.drew _ = V2 at hHeld ⊢
 have hb:=hHeld.2
 clear hb
 refine tk9 0 (some 9) (v:=.agg cs.toArray) rfl (yields_ask (by kernel_rfl) _ rfl (by kernel_rfl) (fun _ h=>h.1)) hHeld ?_
 refine tk9 2 (some 11) (v:=.agg cs.toArray) rfl (yields_ask (by kernel_rfl) _ rfl (by kernel_rfl) (fun _ h=>h.1)) hHeld ?_
 refine call_d9 1 (some 10) rfl (by kernel_rfl) (by kernel_rfl) (by kernel_rfl) 70 _ _ rfl #[.agg cs.toArray,.int .i64 0] (by kernel_rfl) (fun w=>by kernel_rfl) ?_
 refine (askDims' cs a 0 w.heap.size _ hHeld.1.below.size hHeld.1.arg0).mono ?_
 rintro e V3 ⟨A0,k0,rfl,h0,hb⟩
 have L0:=Lib.hid (lst_n hHeld.1 hb h0)
 obtain ⟨b0,b0'⟩:=slice_bnd h0
 clear h0
 replace hHeld:=held_next hHeld hb
 refine ⟨_,rfl,hHeld,?_⟩
 clear hb
 refine call_d9 3 (some 12) rfl (by kernel_rfl) (by kernel_rfl) (by kernel_rfl) 117 _ _ rfl #[.agg cs.toArray,.int .i64 1] (by kernel_rfl) (fun w=>by kernel_rfl) ?_
 refine (numbers_any cs a 1 _ hHeld.1.arg).mono ?_
 rintro e V4 ⟨A1,k1,l1,rfl,hb,h1,-⟩
 replace L0:=Lib.hid (L0.out.next hb)
 have L1:=Lib.hid (h1.more hHeld.1.lt)
 obtain ⟨b1,b1'⟩:=slice_bnd h1
 clear h1
 replace hHeld:=held_next hHeld hb
 refine ⟨_,rfl,hHeld,?_⟩
 clear hb
 refine tk0 4 (some 4) (v:=.slice A0 (a.dims 0).length k0) rfl hHeld ?_
 refine tk0 5 (some 5) (v:=.slice A1 l1.length k1) rfl hHeld ?_
 refine wpAnyH_done (by kernel_rfl) ?_ _
 replace HX:=Lib.hid hHeld.1
 clear hHeld
 generalize a.dims 0 = d at L0 b0 ⊢
 go_wp2_with fail
 refine (below_any l1 A1 k1 0 _ L1.out.rep).mono ?_
 rintro e w6 ⟨rfl,hb⟩
 replace L0:=Lib.hid (L0.out.next hb)
 replace L1:=Lib.hid (L1.out.next hb)
 replace HX:=Lib.hid (HX.out.next hb)
 clear hb
 generalize (l1.any fun x=>decide (x < 0)) = t
 have hc0:=HX.out.cell HO.out
 generalize a.op = op at hop hc0
 cases t with
 | true =>
  clear hc0
  go_wp2_with fail
  refine (misfit_any _).mono ?_
  rintro e w9 ⟨rfl,rfl⟩
  go_wp2
  go_ret2
  exact sh_misfit HX.out.below
 | false =>
  rcases hop with rfl | rfl
  ·by_cases hld:l1.length = d.length
   ·rw [hld]
    have HL:=Lib.hid hld
    clear hld
    go_wp2_with fail
    clear hc0
    go_loopw [44] (fun i wr=>∃ (c:Nat) (l:List Int),i = .int .i64 c∧c ≤ d.length∧AskI w cs a wr∧LstN w.heap.size wr A0 k0 d∧Own wr (w.heap.size + 1) A1 k1 l∧l.length = d.length) (fun i _=>d.length - (intOf i).toNat)
    case atStart=>exact ⟨0,l1,rfl,by omega,HX.out,L0.out,L1.out,HL.out⟩
    case round =>
     obtain ⟨c,l,rfl,hc,hA,hD,hO,hl⟩:=hrel
     obtain ⟨wb,rfl⟩:∃ wb,wb = wr:=⟨_,rfl⟩
     have HA:=Lib.hid hA
     have LD:=Lib.hid hD
     have LO:=Lib.hid hO
     have HG:=Lib.hid hl
     clear hA hD hO hl
     by_cases hlt:c < d.length
     ·have hlt':(c:Int) < (d.length:Int):=by omega
      obtain ⟨z,hz⟩:∃ z,l[c]? = some z:=⟨_,List.getElem?_eq_getElem (by have:=HG.out;omega)⟩
      obtain ⟨u,hu⟩:∃ u,d[c]? = some u:=⟨_,List.getElem?_eq_getElem hlt⟩
      obtain ⟨z64,b2,o2,rfl,hb2,kz,fz⟩:=LO.out.get hz
      obtain ⟨u64,b3,o3,rfl,hb3,ku⟩:=LD.out.get hu
      have hk0:(0:Int) ≤ (c:Int):=Int.natCast_nonneg _
      have HZ:=Lib.hid (And.intro hb2 hb3)
      clear hz hu z64 u64 hb2 hb3
      go_wp2_with fail
      go_big_region
      go_wp2
      go_roundw
      case rel=>exact ⟨c + 1,l.set c (wrap64 (z * u)),by go_num,by omega,(HA.out.set (p:=⟨b2,o2 + c,none⟩) (by have:=HZ.out;simp only;omega) _).next ((Below.refl _ _).drew),(LD.out.set (p:=⟨b2,o2 + c,none⟩) (by have:=HZ.out;simp only;omega) _).next ((Below.refl _ _).drew),(LO.out.set (j:=c) (by have:=HG.out;omega) (wrap_i64 _)).next ((Below.refl _ _).drew),by simp [HG.out]⟩
      case measure=>simp [intOf];omega
     ·have hlt':¬ (c:Int) < (d.length:Int):=by omega
      have hq:=one_any l A1 k1 wb LO.out.lst
      rw [HG.out] at hq
      go_wp2_with fail
      refine hq.mono ?_
      clear hq
      rintro e w8 ⟨D,j,x,ll,rfl,hx,hb,hl,rfl,rfl⟩
      have HC:=Lib.hid (And.intro (HA.out.trans hb) hl)
      clear hx hb hl
      go_wp2
      go_ret2
      exact ⟨D,j,0,_,rfl,by unfold I64;omega,HC.out.1,HC.out.2,fun _=>rfl⟩
   ·have hld':((l1.length:Int) != (d.length:Int)) = true:=by simp;omega
    clear hld
    go_wp2_with fail
    refine (misfit_any _).mono ?_
    rintro e w9 ⟨rfl,rfl⟩
    go_wp2
    go_ret2
    exact sh_misfit HX.out.below
  ·go_wp2_with fail
   clear hc0
   refine (bcast_any d l1 A0 A1 k0 k1 _ L0.out.lst L1.out.rep).mono ?_
   rintro e w7 ⟨C,c,x,out,rfl,hx,hb,ho,-,-⟩
   have HC:=Lib.hid (And.intro (HX.out.next hb) (And.intro ho.lst hx))
   clear hb ho hx
   go_wp2
   go_ret2
   have hb:Below w7.heap.size w7 (w7.alloc (.cells #[.slice C out.length c] 24)):=(Below.refl _ _).alloc (Nat.le_refl _) _
   refine ⟨some ⟨w7.heap.size,0,none⟩,1,x,[out],rfl,HC.out.2.2,HC.out.1.trans hb,?_,fun _=>rfl⟩
   have hr:=HC.out.2.1.next hb
   exact rep_lone (by decide) (heap_alloc_new _ _) hr (by rw [World.size_alloc];exact Nat.lt_succ_self _)
end Go.Proofs.YtilobeohkomeoaaGreat
