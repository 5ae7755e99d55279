/-
  Chapter 21: the walk of the merging of slices.SortStableFunc at numbers. No condition.
-/
import Derived.Test.YtoeaglpmkjoenaaGreatQSrtX
set_option linter.unusedSimpArgs false
set_option linter.unusedVariables false
namespace Go.Proofs.YtoeaglpmkjoenaaGreat
open Go.RowKit
open Rep (rep)
set_option maxRecDepth 100000 in
set_option maxHeartbeats 8000000 in
theorem sym_up (w0:World) (g cp kf:Nat) (cb:Array Value) (ok:Int→Prop) (c:Int→Int→Int) (HCL:Hid (CmpLaw w0 g kf cb ok c)) (a m b:Nat) (l:List Int) (w:World) (h:SrtI w0 g l w) (hok:∀ x ∈ l,ok x) (hc:l.length ≤ cp) (hc2:cp ≤ 9223372036854775807) (h1:a < m) (h2:m < b) (h3:b ≤ l.length) (hl:l.length ≤ 1000000) (hma:m - a = 1) :
  Calls Tryz.prog 56 #[.slice (some ⟨g,0,none⟩) l.length cp,.int .i64 a,.int .i64 m,.int .i64 b,.func (.func kf) #[] cb] w fun e w'=>e = .returned (.tuple #[])∧SrtI w0 g (upD (bsD (fun h=>lssAt c l h a) (b - m) m b - 1 - a) a l) w':=by
 have HI:=Lib.hid (And.intro h hok)
 clear h hok
 obtain ⟨n,hn⟩:∃ n,l.length = n:=⟨_,rfl⟩
 rw [hn] at hc h3 hl ⊢
 have HN:=Lib.hid hn
 clear hn
 obtain ⟨s0,hs0⟩:∃ s,bsD (fun h=>lssAt c l h a) (b - m) m b = s:=⟨_,rfl⟩
 rw [hs0]
 have HS0:=Lib.hid hs0
 clear hs0
 have hma':(m:Int) - (a:Int) = 1:=by omega
 go_enter Tryz.func56,Tryz.ntmps56
 go_wp2_with fail
 go_loopw [10,11] (fun x y wr=>∃ (i j k:Nat),x = .int .i64 i∧y = .int .i64 j∧m ≤ i∧i ≤ j∧j ≤ b∧j - i ≤ k∧bsD (fun h=>lssAt c l h a) k i j = s0∧SrtI w0 g l wr) (fun x y _=>(intOf y).toNat - (intOf x).toNat)
 case atStart=>exact ⟨m,b,b - m,rfl,rfl,Nat.le_refl _,by omega,Nat.le_refl _,Nat.le_refl _,HS0.out,HI.out.1⟩
 case round =>
  obtain ⟨i,j,k,rfl,rfl,p1,p2,p3,p4,hbs,hS⟩:=hrel
  obtain ⟨wx,rfl⟩:∃ wx,wx = wr:=⟨_,rfl⟩
  have HS:=Lib.hid hS
  by_cases hij:i < j
  ·have hij':(i:Int) < (j:Int):=by omega
   have HBS:=Lib.hid hbs
   clear hS hbs
   go_wp2_with fail
   obtain ⟨h,hh⟩:∃ h,(i + j) / 2 = h:=⟨_,rfl⟩
   rw [show ((i:Int) + (j:Int)) / 2 = (h:Int) from by omega]
   have hh2:i ≤ h∧h < j:=by omega
   obtain ⟨k,rfl⟩:∃ k',k = k' + 1:=⟨k - 1,by omega⟩
   obtain ⟨vx,hvx⟩:∃ v,l.getD h 0 = v:=⟨_,rfl⟩
   obtain ⟨vy,hvy⟩:∃ v,l.getD a 0 = v:=⟨_,rfl⟩
   obtain ⟨lb,hlb⟩:∃ v,lssAt c l h a = v:=⟨_,rfl⟩
   have HLB:Hid (decide (c vx vy < 0) = lb):=Lib.hid (by rw [← hlb,← hvx,← hvy];rfl)
   have hNN:=HN.out
   have HOK:Hid (ok vx∧ok vy):=Lib.hid ⟨by rw [← hvx];exact HI.out.2 _ (getD_mem (by omega)),by rw [← hvy];exact HI.out.2 _ (getD_mem (by omega))⟩
   have HNX:Hid (if lb = true then bsD (fun h=>lssAt c l h a) k (h + 1) j = s0 else bsD (fun h=>lssAt c l h a) k i h = s0):=Lib.hid (by
    have e:=HBS.out
    rw [bsD_step _ hij] at e
    simp only [hh,hlb] at e
    cases lb
    ·simpa using e
    ·simpa using e)
   have HV:=Lib.hid (And.intro hvx (And.intro hvy (show h < l.length∧a < l.length by omega)))
   clear hvx hvy hlb hNN HBS hh
   refine wp_region_held_drew (S:=fun W=>SrtI w0 g l W) (by kernel_rfl) (HS.out.drewN 1) (fun hHeld=>?_)
   clear HS
   generalize World.drew _ = V0 at hHeld ⊢
   refine tk0 0 (some 40) (v:=.func (.func kf) #[] cb) rfl hHeld ?_
   refine tk0 1 (some 41) (v:=.slice (some ⟨g,0,none⟩) n cp) rfl hHeld ?_
   refine tk0 2 (some 42) (v:=.int .i64 (h:Int)) rfl hHeld ?_
   refine tk9 3 (some 43) (v:=.pointer (some ⟨g,h,none⟩)) rfl (yields_indexQ (by kernel_rfl) _ _ _ rfl g 0 n cp h 1 h (h:Int) (by kernel_rfl) (by kernel_rfl) Tryz.underlying24 (by kernel_rfl) (by omega) (by omega) (by omega)) hHeld ?_
   refine tk9 4 (some 44) (v:=.int .i64 vx) rfl (yields_load_one9 (by kernel_rfl) _ _ rfl g (h) (by kernel_rfl) _ _ Tryz.underlying3 rfl (fun W h=>by rw [h.cell HV.out.2.2.1,HV.out.1])) hHeld ?_
   refine tk0 5 (some 45) (v:=.slice (some ⟨g,0,none⟩) n cp) rfl hHeld ?_
   refine tk0 6 (some 46) (v:=.int .i64 (a:Int)) rfl hHeld ?_
   refine tk9 7 (some 47) (v:=.pointer (some ⟨g,a,none⟩)) rfl (yields_indexQ (by kernel_rfl) _ _ _ rfl g 0 n cp a 1 a (a:Int) (by kernel_rfl) (by kernel_rfl) Tryz.underlying24 (by kernel_rfl) (by omega) (by omega) (by omega)) hHeld ?_
   refine tk9 8 (some 48) (v:=.int .i64 vy) rfl (yields_load_one9 (by kernel_rfl) _ _ rfl g (a) (by kernel_rfl) _ _ Tryz.underlying3 rfl (fun W h=>by rw [h.cell HV.out.2.2.2,HV.out.2.1])) hHeld ?_
   refine call_f9 9 (some 49) rfl (by kernel_rfl) (by kernel_rfl) (by kernel_rfl) _ _ _ rfl kf cb (by kernel_rfl) #[.int .i64 vx,.int .i64 vy] (by kernel_rfl) HCL.out.enter ?_
   refine (HCL.out.calls l V0 vx vy hHeld HOK.out.1 HOK.out.2).mono ?_
   rintro e V1 ⟨rfl,nn,rfl⟩
   replace hHeld:=hHeld.drewN nn
   generalize World.drewN V0 nn = V1 at hHeld ⊢
   refine ⟨_,rfl,hHeld,?_⟩
   refine tk9 10 (some 50) (v:=.bool lb) rfl (yields_ltD (by kernel_rfl) _ _ _ _ rfl (c vx vy) 0 lb (by kernel_rfl) (by kernel_rfl) (by kernel_rfl) HLB.out) hHeld ?_
   have HS:=Lib.hid hHeld
   cases lb with
   | true =>
    refine wpAnyH_done (by kernel_rfl) ?_ _
    rename_i K0 a0
    change K0 _ _
    refine a0 _ _ (wp_cond_true (by kernel_rfl) ?_)
    clear hHeld
    simp [Act.put]
    go_wp2
    go_roundw
    case rel=>exact ⟨h + 1,j,k,by go_num,rfl,by omega,by omega,p3,by omega,by simpa using HNX.out,HS.out⟩
    case measure=>simp [intOf];omega
   | false =>
    refine wpAnyH_done (by kernel_rfl) ?_ _
    rename_i K0 a0
    change K0 _ _
    refine a0 _ _ (wp_cond_false (by kernel_rfl) ?_)
    clear hHeld
    simp [Act.put]
    go_wp2
    go_roundw
    case rel=>exact ⟨i,h,k,rfl,rfl,p1,by omega,by omega,by omega,by simpa using HNX.out,HS.out⟩
    case measure=>simp [intOf];omega
  ·have hij':¬ (i:Int) < (j:Int):=by omega
   have hie:i = s0:=by rw [← hbs,bsD_end _ hij]
   have HSB:Hid (a + 1 ≤ s0∧s0 ≤ b):=Lib.hid (by omega)
   subst hie
   clear hbs hS hij p4
   go_wp2_with fail
   obtain ⟨wz,rfl⟩:∃ wz,wz = wx:=⟨_,rfl⟩
   go_loopw [13] (fun x wr=>∃ (q:Nat) (cur:List Int),x = .int .i64 q∧a ≤ q∧q ≤ i - 1∧cur.length = n∧upD (i - 1 - q) q cur = upD (i - 1 - a) a l∧SrtI w0 g cur wr) (fun x _=>i - (intOf x).toNat)
   case atStart=>exact ⟨a,l,rfl,Nat.le_refl _,by have:=HSB.out;omega,HN.out,rfl,HS.out⟩
   case round =>
    clear HS
    obtain ⟨q,cur,rfl,q1,q2,hcl,hup,hS⟩:=hrel
    obtain ⟨wx,rfl⟩:∃ wx,wx = wr:=⟨_,rfl⟩
    have HS:=Lib.hid hS
    have hsb:=HSB.out
    by_cases hq:q < i - 1
    ·have hq':(q:Int) < (i:Int) - 1:=by omega
     have HUP:=Lib.hid (show upD (i - 1 - (q + 1)) (q + 1) (swp cur q (q + 1)) = upD (i - 1 - a) a l by rw [← hup,show i - 1 - q = (i - 1 - (q + 1)) + 1 by omega,upD])
     have HC2:=Lib.hid hcl
     have kx:=hS.cell (j:=q) (by omega)
     have ky:=hS.cell (j:=q + 1) (by omega)
     have fx:=hS.free q
     have fy:=hS.free (q + 1)
     obtain ⟨vx,hvx⟩:∃ v,cur.getD q 0 = v:=⟨_,rfl⟩
     obtain ⟨vy,hvy⟩:∃ v,cur.getD (q + 1) 0 = v:=⟨_,rfl⟩
     have h7:=(hS.swap (i:=q) (j:=q + 1) (by omega) (by omega)).drewN 1
     rw [hvx,hvy] at h7
     rw [hvx] at kx
     rw [hvy] at ky
     have HQ:=Lib.hid h7
     have hne1:¬ q = q + 1:=by omega
     have hx0:(0:Int) ≤ (q:Int):=by omega
     have hy0:(0:Int) ≤ (q:Int) + 1:=by omega
     have hxn:(q:Int) < (n:Int):=by omega
     have hyn:(q:Int) + 1 < (n:Int):=by omega
     clear h7 hS hup hvx hvy hcl
     go_wp2_with fail
     go_big_region
     clear kx ky fx fy
     go_wp2
     go_roundw
     case rel=>exact ⟨q + 1,swp cur q (q + 1),by go_num,by omega,by omega,by rw [swp_len];exact HC2.out,HUP.out,HQ.out⟩
     case measure=>simp [intOf];omega
    ·have hq':¬ (q:Int) < (i:Int) - 1:=by omega
     have HR:=Lib.hid (show SrtI w0 g (upD (i - 1 - a) a l) wx by rw [← hup,show i - 1 - q = 0 by omega,upD];exact hS)
     clear hS hup hq
     go_wp2
     refine bodyPost_ret (results_none rfl _ _ _) rfl ?_
     exact ⟨rfl,HR.out⟩
set_option maxRecDepth 100000 in
set_option maxHeartbeats 8000000 in
theorem sym_down (w0:World) (g cp kf:Nat) (cb:Array Value) (ok:Int→Prop) (c:Int→Int→Int) (HCL:Hid (CmpLaw w0 g kf cb ok c)) (a m b:Nat) (l:List Int) (w:World) (h:SrtI w0 g l w) (hok:∀ x ∈ l,ok x) (hc:l.length ≤ cp) (hc2:cp ≤ 9223372036854775807) (h1:a < m) (h2:m < b) (h3:b ≤ l.length) (hl:l.length ≤ 1000000) (hma:¬ m - a = 1) (hbm:b - m = 1) :
  Calls Tryz.prog 56 #[.slice (some ⟨g,0,none⟩) l.length cp,.int .i64 a,.int .i64 m,.int .i64 b,.func (.func kf) #[] cb] w fun e w'=>e = .returned (.tuple #[])∧SrtI w0 g (downD (m - bsD (fun h=>!lssAt c l m h) (m - a) a m) m l) w':=by
 have HI:=Lib.hid (And.intro h hok)
 clear h hok
 obtain ⟨n,hn⟩:∃ n,l.length = n:=⟨_,rfl⟩
 rw [hn] at hc h3 hl ⊢
 have HN:=Lib.hid hn
 clear hn
 obtain ⟨s0,hs0⟩:∃ s,bsD (fun h=>!lssAt c l m h) (m - a) a m = s:=⟨_,rfl⟩
 rw [hs0]
 have HS0:=Lib.hid hs0
 clear hs0
 have hma':¬ (m:Int) - (a:Int) = 1:=by omega
 have hbm':(b:Int) - (m:Int) = 1:=by omega
 go_enter Tryz.func56,Tryz.ntmps56
 go_wp2_with fail
 go_loopw [14,15] (fun x y wr=>∃ (i j k:Nat),x = .int .i64 i∧y = .int .i64 j∧a ≤ i∧i ≤ j∧j ≤ m∧j - i ≤ k∧bsD (fun h=>!lssAt c l m h) k i j = s0∧SrtI w0 g l wr) (fun x y _=>(intOf y).toNat - (intOf x).toNat)
 case atStart=>exact ⟨a,m,m - a,rfl,rfl,Nat.le_refl _,by omega,Nat.le_refl _,Nat.le_refl _,HS0.out,HI.out.1⟩
 case round =>
  obtain ⟨i,j,k,rfl,rfl,p1,p2,p3,p4,hbs,hS⟩:=hrel
  obtain ⟨wx,rfl⟩:∃ wx,wx = wr:=⟨_,rfl⟩
  have HS:=Lib.hid hS
  by_cases hij:i < j
  ·have hij':(i:Int) < (j:Int):=by omega
   have HBS:=Lib.hid hbs
   clear hS hbs
   go_wp2_with fail
   obtain ⟨h,hh⟩:∃ h,(i + j) / 2 = h:=⟨_,rfl⟩
   rw [show ((i:Int) + (j:Int)) / 2 = (h:Int) from by omega]
   have hh2:i ≤ h∧h < j:=by omega
   obtain ⟨k,rfl⟩:∃ k',k = k' + 1:=⟨k - 1,by omega⟩
   obtain ⟨vx,hvx⟩:∃ v,l.getD m 0 = v:=⟨_,rfl⟩
   obtain ⟨vy,hvy⟩:∃ v,l.getD h 0 = v:=⟨_,rfl⟩
   obtain ⟨lb,hlb⟩:∃ v,lssAt c l m h = v:=⟨_,rfl⟩
   have HLB:Hid (decide (c vx vy < 0) = lb):=Lib.hid (by rw [← hlb,← hvx,← hvy];rfl)
   have hNN:=HN.out
   have HOK:Hid (ok vx∧ok vy):=Lib.hid ⟨by rw [← hvx];exact HI.out.2 _ (getD_mem (by omega)),by rw [← hvy];exact HI.out.2 _ (getD_mem (by omega))⟩
   have HNX:Hid (if lb = false then bsD (fun h=>!lssAt c l m h) k (h + 1) j = s0 else bsD (fun h=>!lssAt c l m h) k i h = s0):=Lib.hid (by
    have e:=HBS.out
    rw [bsD_step _ hij] at e
    simp only [hh,hlb] at e
    cases lb
    ·simpa using e
    ·simpa using e)
   have HV:=Lib.hid (And.intro hvx (And.intro hvy (show m < l.length∧h < l.length by omega)))
   clear hvx hvy hlb hNN HBS hh
   refine wp_region_held_drew (S:=fun W=>SrtI w0 g l W) (by kernel_rfl) (HS.out.drewN 1) (fun hHeld=>?_)
   clear HS
   generalize World.drew _ = V0 at hHeld ⊢
   refine tk0 0 (some 92) (v:=.func (.func kf) #[] cb) rfl hHeld ?_
   refine tk0 1 (some 93) (v:=.slice (some ⟨g,0,none⟩) n cp) rfl hHeld ?_
   refine tk0 2 (some 94) (v:=.int .i64 (m:Int)) rfl hHeld ?_
   refine tk9 3 (some 95) (v:=.pointer (some ⟨g,m,none⟩)) rfl (yields_indexQ (by kernel_rfl) _ _ _ rfl g 0 n cp m 1 m (m:Int) (by kernel_rfl) (by kernel_rfl) Tryz.underlying24 (by kernel_rfl) (by omega) (by omega) (by omega)) hHeld ?_
   refine tk9 4 (some 96) (v:=.int .i64 vx) rfl (yields_load_one9 (by kernel_rfl) _ _ rfl g (m) (by kernel_rfl) _ _ Tryz.underlying3 rfl (fun W h=>by rw [h.cell HV.out.2.2.1,HV.out.1])) hHeld ?_
   refine tk0 5 (some 97) (v:=.slice (some ⟨g,0,none⟩) n cp) rfl hHeld ?_
   refine tk0 6 (some 98) (v:=.int .i64 (h:Int)) rfl hHeld ?_
   refine tk9 7 (some 99) (v:=.pointer (some ⟨g,h,none⟩)) rfl (yields_indexQ (by kernel_rfl) _ _ _ rfl g 0 n cp h 1 h (h:Int) (by kernel_rfl) (by kernel_rfl) Tryz.underlying24 (by kernel_rfl) (by omega) (by omega) (by omega)) hHeld ?_
   refine tk9 8 (some 100) (v:=.int .i64 vy) rfl (yields_load_one9 (by kernel_rfl) _ _ rfl g (h) (by kernel_rfl) _ _ Tryz.underlying3 rfl (fun W h=>by rw [h.cell HV.out.2.2.2,HV.out.2.1])) hHeld ?_
   refine call_f9 9 (some 101) rfl (by kernel_rfl) (by kernel_rfl) (by kernel_rfl) _ _ _ rfl kf cb (by kernel_rfl) #[.int .i64 vx,.int .i64 vy] (by kernel_rfl) HCL.out.enter ?_
   refine (HCL.out.calls l V0 vx vy hHeld HOK.out.1 HOK.out.2).mono ?_
   rintro e V1 ⟨rfl,nn,rfl⟩
   replace hHeld:=hHeld.drewN nn
   generalize World.drewN V0 nn = V1 at hHeld ⊢
   refine ⟨_,rfl,hHeld,?_⟩
   refine tk9 10 (some 102) (v:=.bool lb) rfl (yields_ltD (by kernel_rfl) _ _ _ _ rfl (c vx vy) 0 lb (by kernel_rfl) (by kernel_rfl) (by kernel_rfl) HLB.out) hHeld ?_
   refine tk0 11 (some 103) (v:=.bool (!lb)) rfl hHeld ?_
   have HS:=Lib.hid hHeld
   cases lb with
   | false =>
    refine wpAnyH_done (by kernel_rfl) ?_ _
    rename_i K0 a0
    change K0 _ _
    refine a0 _ _ (wp_cond_true (by kernel_rfl) ?_)
    clear hHeld
    simp [Act.put]
    go_wp2
    go_roundw
    case rel=>exact ⟨h + 1,j,k,by go_num,rfl,by omega,by omega,p3,by omega,by simpa using HNX.out,HS.out⟩
    case measure=>simp [intOf];omega
   | true =>
    refine wpAnyH_done (by kernel_rfl) ?_ _
    rename_i K0 a0
    change K0 _ _
    refine a0 _ _ (wp_cond_false (by kernel_rfl) ?_)
    clear hHeld
    simp [Act.put]
    go_wp2
    go_roundw
    case rel=>exact ⟨i,h,k,rfl,rfl,p1,by omega,by omega,by omega,by simpa using HNX.out,HS.out⟩
    case measure=>simp [intOf];omega
  ·have hij':¬ (i:Int) < (j:Int):=by omega
   have hie:i = s0:=by rw [← hbs,bsD_end _ hij]
   have HSB:Hid (a ≤ s0∧s0 ≤ m):=Lib.hid (by omega)
   subst hie
   clear hbs hS hij p4
   go_wp2_with fail
   obtain ⟨wz,rfl⟩:∃ wz,wz = wx:=⟨_,rfl⟩
   go_loopw [17] (fun x wr=>∃ (q:Nat) (cur:List Int),x = .int .i64 q∧i ≤ q∧q ≤ m∧cur.length = n∧downD (q - i) q cur = downD (m - i) m l∧SrtI w0 g cur wr) (fun x _=>(intOf x).toNat)
   case atStart=>exact ⟨m,l,rfl,HSB.out.2,Nat.le_refl _,HN.out,rfl,HS.out⟩
   case round =>
    clear HS
    obtain ⟨q,cur,rfl,q1,q2,hcl,hup,hS⟩:=hrel
    obtain ⟨wx,rfl⟩:∃ wx,wx = wr:=⟨_,rfl⟩
    have HS:=Lib.hid hS
    have hsb:=HSB.out
    by_cases hq:i < q
    ·obtain ⟨q,rfl⟩:∃ q',q = q' + 1:=⟨q - 1,by omega⟩
     have hq':((q + 1:Nat):Int) > (i:Int):=by omega
     have HUP:=Lib.hid (show downD (q - i) q (swp cur (q + 1) q) = downD (m - i) m l by rw [← hup,show q + 1 - i = (q - i) + 1 by omega,downD,Nat.add_sub_cancel])
     have HC2:=Lib.hid hcl
     have kx:=hS.cell (j:=q + 1) (by omega)
     have ky:=hS.cell (j:=q) (by omega)
     have fx:=hS.free (q + 1)
     have fy:=hS.free q
     obtain ⟨vx,hvx⟩:∃ v,cur.getD (q + 1) 0 = v:=⟨_,rfl⟩
     obtain ⟨vy,hvy⟩:∃ v,cur.getD q 0 = v:=⟨_,rfl⟩
     have h7:=(hS.swap (i:=q + 1) (j:=q) (by omega) (by omega)).drewN 1
     rw [hvx,hvy] at h7
     rw [hvx] at kx
     rw [hvy] at ky
     have HQ:=Lib.hid h7
     have hne1:¬ q + 1 = q:=by omega
     have hx0:(0:Int) ≤ (q:Int) + 1:=by omega
     have hy0:(0:Int) ≤ (q:Int):=by omega
     have hxn:(q:Int) + 1 < (n:Int):=by omega
     have hyn:(q:Int) < (n:Int):=by omega
     have hqi:(q:Int) + 1 > (i:Int):=by omega
     clear h7 hS hup hvx hvy hcl
     go_wp2_with fail
     go_big_region
     clear kx ky fx fy
     go_wp2
     go_roundw
     case rel=>exact ⟨q,swp cur (q + 1) q,by go_num,by omega,by omega,by rw [swp_len];exact HC2.out,HUP.out,HQ.out⟩
     case measure=>simp [intOf]
    ·have hq':¬ (q:Int) > (i:Int):=by omega
     have HR:=Lib.hid (show SrtI w0 g (downD (m - i) m l) wx by rw [← hup,show q - i = 0 by omega,downD];exact hS)
     clear hS hup hq
     go_wp2
     refine bodyPost_ret (results_none rfl _ _ _) rfl ?_
     exact ⟨rfl,HR.out⟩
set_option maxRecDepth 100000 in
set_option maxHeartbeats 8000000 in
theorem sym_any (w0:World) (g cp kf:Nat) (cb:Array Value) (ok:Int→Prop) (c:Int→Int→Int) (HCL:Hid (CmpLaw w0 g kf cb ok c)) (hc2:cp ≤ 9223372036854775807):∀ (N a m b:Nat) (l:List Int) (w:World) (h:SrtI w0 g l w) (hok:∀ x ∈ l,ok x) (hc:l.length ≤ cp) (h1:a < m) (h2:m < b) (h3:b ≤ l.length) (hl:l.length ≤ 1000000) (hN:b - a ≤ N),
  Calls Tryz.prog 56 #[.slice (some ⟨g,0,none⟩) l.length cp,.int .i64 a,.int .i64 m,.int .i64 b,.func (.func kf) #[] cb] w fun e w'=>e = .returned (.tuple #[])∧SrtI w0 g (symD c N a m b l) w':=by
 intro N
 induction N with
 | zero=>intro a m b l w h hok hc h1 h2 h3 hl hN;omega
 | succ N ih =>
 intro a m b l w h hok hc h1 h2 h3 hl hN
 by_cases hma:m - a = 1
 ·rw [symD,if_pos hma]
  exact sym_up w0 g cp kf cb ok c HCL a m b l w h hok hc hc2 h1 h2 h3 hl hma
 by_cases hbm:b - m = 1
 ·rw [symD,if_neg hma,if_pos hbm]
  exact sym_down w0 g cp kf cb ok c HCL a m b l w h hok hc hc2 h1 h2 h3 hl hma hbm
 have HIH:=Lib.hid ih
 have HI:=Lib.hid (And.intro h hok)
 clear h hok ih
 obtain ⟨s0,hs0⟩:∃ s,symS c a m b l = s:=⟨_,rfl⟩
 have hsin:=symS_in c (l:=l) h1 h2
 rw [hs0] at hsin
 obtain ⟨l1,hl1⟩:∃ l1,(if s0 < m∧m < (a + b) / 2 + m - s0 then rotD m (b - a + 1) (m - s0) ((a + b) / 2 + m - s0 - m) l else l) = l1:=⟨_,rfl⟩
 obtain ⟨l2,hl2⟩:∃ l2,(if a < s0∧s0 < (a + b) / 2 then symD c N a s0 ((a + b) / 2) l1 else l1) = l2:=⟨_,rfl⟩
 obtain ⟨l3,hl3⟩:∃ l3,(if (a + b) / 2 < (a + b) / 2 + m - s0∧(a + b) / 2 + m - s0 < b then symD c N ((a + b) / 2) ((a + b) / 2 + m - s0) b l2 else l2) = l3:=⟨_,rfl⟩
 have hfin:symD c (N + 1) a m b l = l3:=by
  rw [symD,if_neg hma,if_neg hbm]
  simp only [hs0,hl1,hl2,hl3]
 rw [hfin]
 clear hfin
 have p1:l1.Perm l:=by
  rw [← hl1]
  split
  ·exact rotD_perm _ _ _ _ _ (by omega) (by omega)
  ·exact List.Perm.refl _
 have p2:l2.Perm l:=by
  rw [← hl2]
  split
  ·exact (symD_perm c N a s0 _ l1 (by omega) (by omega) (by rw [p1.length_eq];omega)).trans p1
  ·exact p1
 obtain ⟨n,hn⟩:∃ n,l.length = n:=⟨_,rfl⟩
 have HP1:Hid (l1.length = n∧∀ x ∈ l1,ok x):=Lib.hid ⟨by rw [p1.length_eq,hn],fun x hx=>HI.out.2 x (p1.mem_iff.1 hx)⟩
 have HP2:Hid (l2.length = n∧∀ x ∈ l2,ok x):=Lib.hid ⟨by rw [p2.length_eq,hn],fun x hx=>HI.out.2 x (p2.mem_iff.1 hx)⟩
 rw [hn] at hc h3 hl ⊢
 have HN:=Lib.hid hn
 have HLL:=Lib.hid (And.intro hl1 (And.intro hl2 hl3))
 have HS0:=Lib.hid hs0
 have HSI:=Lib.hid hsin
 clear hn hl1 hl2 hl3 p1 p2 hs0 hsin
 obtain ⟨mid,hmid⟩:∃ mid,(a + b) / 2 = mid:=⟨_,rfl⟩
 rw [hmid] at HLL HSI
 have HMID:=Lib.hid hmid
 have hmid2:a < mid∧mid < b:=by omega
 have hma':¬ (m:Int) - (a:Int) = 1:=by omega
 have hbm':¬ (b:Int) - (m:Int) = 1:=by omega
 have hmab:((m:Int) - (a:Int) == 1) = false:=by simpa using hma'
 have hbmb:((b:Int) - (m:Int) == 1) = false:=by simpa using hbm'
 obtain ⟨st0,hst0⟩:∃ s,(if m > mid then mid + m - b else a) = s:=⟨_,rfl⟩
 obtain ⟨r0,hr0⟩:∃ s,(if m > mid then mid else m) = s:=⟨_,rfl⟩
 have HBS:Hid (bsD (fun x=>!lssAt c l (mid + m - 1 - x) x) (b - a) st0 r0 = s0):=Lib.hid (by rw [← HS0.out,symS,← hst0,← hr0,hmid])
 have hstr:st0 ≤ r0∧r0 - st0 ≤ b - a∧r0 ≤ m∧r0 ≤ mid∧mid + m - st0 ≤ b:=by
  rw [← hst0,← hr0]
  split <;> omega
 have HSTR:=Lib.hid hstr
 go_enter Tryz.func56,Tryz.ntmps56
 go_upto_if 140 with (fail)
 have hmI:((a:Int) + (b:Int)) / 2 = (mid:Int):=by omega
 try rw [hmI]
 by_cases hmm:m > mid
 ·have hmm':(m:Int) > (mid:Int):=by omega
  rw [if_pos hmm] at hst0 hr0
  subst hr0
  have e1:(mid:Int) + (m:Int) - (b:Int) = (st0:Int):=by omega
  clear hst0 hstr hmI
  go_wp2_with fail
  try rw [e1]
  clear e1
  have hp:(mid:Int) + (m:Int) - 1 = ((mid + m - 1:Nat):Int):=by omega
  obtain ⟨p,hpe⟩:∃ p,mid + m - 1 = p:=⟨_,rfl⟩
  rw [hpe] at hp
  try rw [hp]
  have HPE:=Lib.hid hpe
  clear hpe hp
  go_loopw [20,21] (fun x y wr=>∃ (i j k:Nat),x = .int .i64 i∧y = .int .i64 j∧st0 ≤ i∧i ≤ j∧j ≤ mid∧j - i ≤ k∧bsD (fun x=>!lssAt c l (mid + m - 1 - x) x) k i j = s0∧SrtI w0 g l wr) (fun x y _=>(intOf y).toNat - (intOf x).toNat)
  case atStart=>exact ⟨st0,mid,b - a,rfl,rfl,Nat.le_refl _,HSTR.out.1,Nat.le_refl _,HSTR.out.2.1,HBS.out,HI.out.1⟩
  case round =>
   obtain ⟨i,j,k,rfl,rfl,q1,q2,q3,q4,hbs,hS⟩:=hrel
   obtain ⟨wx,rfl⟩:∃ wx,wx = wr:=⟨_,rfl⟩
   have HS:=Lib.hid hS
   by_cases hij:i < j
   ·have hij':(i:Int) < (j:Int):=by omega
    have HBT:=Lib.hid hbs
    clear hS hbs
    have hb6:j ≤ 1000000:=by have:=HSTR.out;omega
    go_wp2_with fail
    obtain ⟨h,hh⟩:∃ h,(i + j) / 2 = h:=⟨_,rfl⟩
    rw [show ((i:Int) + (j:Int)) / 2 = (h:Int) from by omega]
    have hh2:i ≤ h∧h < j:=by omega
    have hstr:=HSTR.out
    have hpe:=HPE.out
    have hpb:p ≤ 4000000:=by omega
    obtain ⟨k,rfl⟩:∃ k',k = k' + 1:=⟨k - 1,by omega⟩
    obtain ⟨pc,hpc⟩:∃ z,p - h = z:=⟨_,rfl⟩
    have hpc2:pc < n:=by omega
    have hhn:h < n:=by omega
    have hph:h ≤ p:=by omega
    obtain ⟨vx,hvx⟩:∃ v,l.getD pc 0 = v:=⟨_,rfl⟩
    obtain ⟨vy,hvy⟩:∃ v,l.getD h 0 = v:=⟨_,rfl⟩
    obtain ⟨lb,hlb⟩:∃ v,lssAt c l pc h = v:=⟨_,rfl⟩
    have HLB:Hid (decide (c vx vy < 0) = lb):=Lib.hid (by rw [← hlb,← hvx,← hvy];rfl)
    have hNN:=HN.out
    have HOK:Hid (ok vx∧ok vy):=Lib.hid ⟨by rw [← hvx];exact HI.out.2 _ (getD_mem (by omega)),by rw [← hvy];exact HI.out.2 _ (getD_mem (by omega))⟩
    have HNX:Hid (if lb = false then bsD (fun x=>!lssAt c l (mid + m - 1 - x) x) k (h + 1) j = s0 else bsD (fun x=>!lssAt c l (mid + m - 1 - x) x) k i h = s0):=Lib.hid (by
     have e:=HBT.out
     rw [bsD_step _ hij] at e
     simp only [hh,hpe,hpc,hlb] at e
     simp only [hpe]
     cases lb
     ·simpa using e
     ·simpa using e)
    have HV:=Lib.hid (And.intro hvx (And.intro hvy (show pc < l.length∧h < l.length by omega)))
    have hpcI:(p:Int) - (h:Int) = (pc:Int):=by omega
    have HPC:=Lib.hid hpcI
    clear hvx hvy hlb hNN HBT hh hpc hstr hpe hpcI
    refine wp_region_held_drew (S:=fun W=>SrtI w0 g l W) (by kernel_rfl) (HS.out.drewN 1) (fun hHeld=>?_)
    clear HS
    generalize World.drew _ = V0 at hHeld ⊢
    refine tk0 0 (some 158) (v:=.func (.func kf) #[] cb) rfl hHeld ?_
    refine tk0 1 (some 159) (v:=.slice (some ⟨g,0,none⟩) n cp) rfl hHeld ?_
    refine tk0 2 (some 160) (v:=.int .i64 (p:Int)) rfl hHeld ?_
    refine tk0 3 (some 161) (v:=.int .i64 (h:Int)) rfl hHeld ?_
    refine tk9 4 (some 162) (v:=.int .i64 (pc:Int)) rfl (by rw [← HPC.out];exact yields_subI (by kernel_rfl) _ _ _ _ rfl (p:Int) (h:Int) (by kernel_rfl) (by kernel_rfl) (by kernel_rfl) (by omega) (by omega) (by omega)) hHeld ?_
    refine tk9 5 (some 163) (v:=.pointer (some ⟨g,pc,none⟩)) rfl (yields_indexQ (by kernel_rfl) _ _ _ rfl g 0 n cp pc 1 pc (pc:Int) (by kernel_rfl) (by kernel_rfl) Tryz.underlying24 (by kernel_rfl) (by omega) (by omega) (by omega)) hHeld ?_
    refine tk9 6 (some 164) (v:=.int .i64 vx) rfl (yields_load_one9 (by kernel_rfl) _ _ rfl g (pc) (by kernel_rfl) _ _ Tryz.underlying3 rfl (fun W h=>by rw [h.cell HV.out.2.2.1,HV.out.1])) hHeld ?_
    refine tk0 7 (some 165) (v:=.slice (some ⟨g,0,none⟩) n cp) rfl hHeld ?_
    refine tk0 8 (some 166) (v:=.int .i64 (h:Int)) rfl hHeld ?_
    refine tk9 9 (some 167) (v:=.pointer (some ⟨g,h,none⟩)) rfl (yields_indexQ (by kernel_rfl) _ _ _ rfl g 0 n cp h 1 h (h:Int) (by kernel_rfl) (by kernel_rfl) Tryz.underlying24 (by kernel_rfl) (by omega) (by omega) (by omega)) hHeld ?_
    refine tk9 10 (some 168) (v:=.int .i64 vy) rfl (yields_load_one9 (by kernel_rfl) _ _ rfl g (h) (by kernel_rfl) _ _ Tryz.underlying3 rfl (fun W h=>by rw [h.cell HV.out.2.2.2,HV.out.2.1])) hHeld ?_
    refine call_f9 11 (some 169) rfl (by kernel_rfl) (by kernel_rfl) (by kernel_rfl) _ _ _ rfl kf cb (by kernel_rfl) #[.int .i64 vx,.int .i64 vy] (by kernel_rfl) HCL.out.enter ?_
    refine (HCL.out.calls l V0 vx vy hHeld HOK.out.1 HOK.out.2).mono ?_
    rintro e V1 ⟨rfl,nn,rfl⟩
    replace hHeld:=hHeld.drewN nn
    generalize World.drewN V0 nn = V1 at hHeld ⊢
    refine ⟨_,rfl,hHeld,?_⟩
    refine tk9 12 (some 170) (v:=.bool lb) rfl (yields_ltD (by kernel_rfl) _ _ _ _ rfl (c vx vy) 0 lb (by kernel_rfl) (by kernel_rfl) (by kernel_rfl) HLB.out) hHeld ?_
    refine tk0 13 (some 171) (v:=.bool (!lb)) rfl hHeld ?_
    have HS:=Lib.hid hHeld
    cases lb with
    | false =>
     refine wpAnyH_done (by kernel_rfl) ?_ _
     rename_i K0 a0
     change K0 _ _
     refine a0 _ _ (wp_cond_true (by kernel_rfl) ?_)
     clear hHeld
     simp [Act.put]
     go_wp2
     go_roundw
     case rel =>
      have HR:∃ (i' j' k':Nat),Value.int .i64 ((h:Int) + 1) = .int .i64 i'∧Value.int .i64 (j:Int) = .int .i64 j'∧st0 ≤ i'∧i' ≤ j'∧j' ≤ mid∧j' - i' ≤ k'∧bsD (fun x=>!lssAt c l (mid + m - 1 - x) x) k' i' j' = s0∧SrtI w0 g l V1:=⟨h + 1,j,k,by go_num,rfl,by omega,by omega,q3,by omega,by simpa using HNX.out,HS.out⟩
      first | exact HR | simpa using HR
     case measure=>simp [intOf];omega
    | true =>
     refine wpAnyH_done (by kernel_rfl) ?_ _
     rename_i K0 a0
     change K0 _ _
     refine a0 _ _ (wp_cond_false (by kernel_rfl) ?_)
     clear hHeld
     simp [Act.put]
     go_wp2
     go_roundw
     case rel =>
      have HR:∃ (i' j' k':Nat),Value.int .i64 (i:Int) = .int .i64 i'∧Value.int .i64 (h:Int) = .int .i64 j'∧st0 ≤ i'∧i' ≤ j'∧j' ≤ mid∧j' - i' ≤ k'∧bsD (fun x=>!lssAt c l (mid + m - 1 - x) x) k' i' j' = s0∧SrtI w0 g l V1:=⟨i,h,k,rfl,rfl,q1,by omega,by omega,by omega,by simpa using HNX.out,HS.out⟩
      clear HIH
      first | exact HR | simpa using HR | ((repeat (refine Exists.intro _ ?_));exact ⟨HR,rfl⟩)
     case measure=>simp [intOf];omega
   ·have hij':¬ (i:Int) < (j:Int):=by omega
    have hie:i = s0:=by rw [← hbs,bsD_end _ hij]
    subst hie
    have hrelS:=hS
    clear hbs hS hij q4
    obtain ⟨e,he⟩:∃ e,mid + m - i = e:=⟨_,rfl⟩
    rw [he] at HLL HSI
    have hin:=HSI.out
    have heI:(mid:Int) + (m:Int) - (i:Int) = (e:Int):=by omega
    have HS0W:=Lib.hid hrelS
    clear hrelS HBS HSTR HMID
    by_cases x0:i < m
    ·by_cases x0b:m < e
     ·have x0I:(i:Int) < (m:Int):=by omega
      have x0bI:(m:Int) < (e:Int):=by omega
      have x0bI':(m:Int) < (mid:Int) + (m:Int) - (i:Int):=by omega
      have hcall:=rotate_any w0 wx g cp i m e (b - a + 1) l (.func (.func kf) #[] cb) HS0W.out (by rw [HN.out];exact hc) hc2 (by omega) (by omega) (by rw [HN.out];omega) (by rw [HN.out];exact hl) (by omega)
      rw [HN.out] at hcall
      have HC0:=Lib.hid hcall
      clear hcall
      go_wp2_with fail
      try rw [heI]
      refine HC0.out.mono ?_
      rintro e' w1 ⟨rfl,hh0⟩
      have HS0W1:Hid (SrtI w0 g l1 w1):=Lib.hid (by rw [← HLL.out.1,if_pos (show i < m∧m < e from ⟨x0,x0b⟩)];exact hh0)
      clear hh0 HC0
      by_cases x1:a < i
      ·by_cases x1b:i < mid
       ·have x1I:(a:Int) < (i:Int):=by omega
        have x1bI:(i:Int) < (mid:Int):=by omega
        have hcall:=HIH.out a i mid l1 w1 HS0W1.out HP1.out.2 (by rw [HP1.out.1];exact hc) (by omega) (by omega) (by rw [HP1.out.1];omega) (by rw [HP1.out.1];exact hl) (by omega)
        rw [HP1.out.1] at hcall
        have HC1:=Lib.hid hcall
        clear hcall
        go_wp2_with fail
        try rw [heI]
        refine HC1.out.mono ?_
        rintro e' w2 ⟨rfl,hh1⟩
        have HS0W11:Hid (SrtI w0 g l2 w2):=Lib.hid (by rw [← HLL.out.2.1,if_pos (show a < i∧i < mid from ⟨x1,x1b⟩)];exact hh1)
        clear hh1 HC1
        by_cases x2:mid < e
        ·by_cases x2b:e < b
         ·have x2I:(mid:Int) < (e:Int):=by omega
          have x2I':(mid:Int) < (mid:Int) + (m:Int) - (i:Int):=by omega
          have x2bI:(e:Int) < (b:Int):=by omega
          have x2bI':(mid:Int) + (m:Int) - (i:Int) < (b:Int):=by omega
          have hcall:=HIH.out mid e b l2 w2 HS0W11.out HP2.out.2 (by rw [HP2.out.1];exact hc) (by omega) (by omega) (by rw [HP2.out.1];omega) (by rw [HP2.out.1];exact hl) (by omega)
          rw [HP2.out.1] at hcall
          have HC2:=Lib.hid hcall
          clear hcall
          go_wp2_with fail
          try rw [heI]
          refine HC2.out.mono ?_
          rintro e' w3 ⟨rfl,hh2⟩
          have HS0W111:Hid (SrtI w0 g l3 w3):=Lib.hid (by rw [← HLL.out.2.2,if_pos (show mid < e∧e < b from ⟨x2,x2b⟩)];exact hh2)
          clear hh2 HC2
          go_wp2
          go_end0
          exact ⟨rfl,HS0W111.out⟩
         ·have x2I:(mid:Int) < (e:Int):=by omega
          have x2I':(mid:Int) < (mid:Int) + (m:Int) - (i:Int):=by omega
          have x2bI:¬ (e:Int) < (b:Int):=by omega
          have x2bI':¬ ((mid:Int) + (m:Int) - (i:Int) < (b:Int)):=by omega
          have HS0W111:Hid (SrtI w0 g l3 w2):=Lib.hid (by rw [← HLL.out.2.2,if_neg (show ¬ (mid < e∧e < b) from fun e=>x2b e.2)];exact HS0W11.out)
          go_wp2
          go_end0
          exact ⟨rfl,HS0W111.out⟩
        ·have x2I:¬ (mid:Int) < (e:Int):=by omega
         have x2I':¬ ((mid:Int) < (mid:Int) + (m:Int) - (i:Int)):=by omega
         have HS0W111:Hid (SrtI w0 g l3 w2):=Lib.hid (by rw [← HLL.out.2.2,if_neg (show ¬ (mid < e∧e < b) from fun e=>x2 e.1)];exact HS0W11.out)
         go_wp2
         go_end0
         exact ⟨rfl,HS0W111.out⟩
       ·have x1I:(a:Int) < (i:Int):=by omega
        have x1bI:¬ (i:Int) < (mid:Int):=by omega
        have HS0W11:Hid (SrtI w0 g l2 w1):=Lib.hid (by rw [← HLL.out.2.1,if_neg (show ¬ (a < i∧i < mid) from fun e=>x1b e.2)];exact HS0W1.out)
        by_cases x2:mid < e
        ·by_cases x2b:e < b
         ·have x2I:(mid:Int) < (e:Int):=by omega
          have x2I':(mid:Int) < (mid:Int) + (m:Int) - (i:Int):=by omega
          have x2bI:(e:Int) < (b:Int):=by omega
          have x2bI':(mid:Int) + (m:Int) - (i:Int) < (b:Int):=by omega
          have hcall:=HIH.out mid e b l2 w1 HS0W11.out HP2.out.2 (by rw [HP2.out.1];exact hc) (by omega) (by omega) (by rw [HP2.out.1];omega) (by rw [HP2.out.1];exact hl) (by omega)
          rw [HP2.out.1] at hcall
          have HC2:=Lib.hid hcall
          clear hcall
          go_wp2_with fail
          try rw [heI]
          refine HC2.out.mono ?_
          rintro e' w3 ⟨rfl,hh2⟩
          have HS0W111:Hid (SrtI w0 g l3 w3):=Lib.hid (by rw [← HLL.out.2.2,if_pos (show mid < e∧e < b from ⟨x2,x2b⟩)];exact hh2)
          clear hh2 HC2
          go_wp2
          go_end0
          exact ⟨rfl,HS0W111.out⟩
         ·have x2I:(mid:Int) < (e:Int):=by omega
          have x2I':(mid:Int) < (mid:Int) + (m:Int) - (i:Int):=by omega
          have x2bI:¬ (e:Int) < (b:Int):=by omega
          have x2bI':¬ ((mid:Int) + (m:Int) - (i:Int) < (b:Int)):=by omega
          have HS0W111:Hid (SrtI w0 g l3 w1):=Lib.hid (by rw [← HLL.out.2.2,if_neg (show ¬ (mid < e∧e < b) from fun e=>x2b e.2)];exact HS0W11.out)
          go_wp2
          go_end0
          exact ⟨rfl,HS0W111.out⟩
        ·have x2I:¬ (mid:Int) < (e:Int):=by omega
         have x2I':¬ ((mid:Int) < (mid:Int) + (m:Int) - (i:Int)):=by omega
         have HS0W111:Hid (SrtI w0 g l3 w1):=Lib.hid (by rw [← HLL.out.2.2,if_neg (show ¬ (mid < e∧e < b) from fun e=>x2 e.1)];exact HS0W11.out)
         go_wp2
         go_end0
         exact ⟨rfl,HS0W111.out⟩
      ·have x1I:¬ (a:Int) < (i:Int):=by omega
       have HS0W11:Hid (SrtI w0 g l2 w1):=Lib.hid (by rw [← HLL.out.2.1,if_neg (show ¬ (a < i∧i < mid) from fun e=>x1 e.1)];exact HS0W1.out)
       by_cases x2:mid < e
       ·by_cases x2b:e < b
        ·have x2I:(mid:Int) < (e:Int):=by omega
         have x2I':(mid:Int) < (mid:Int) + (m:Int) - (i:Int):=by omega
         have x2bI:(e:Int) < (b:Int):=by omega
         have x2bI':(mid:Int) + (m:Int) - (i:Int) < (b:Int):=by omega
         have hcall:=HIH.out mid e b l2 w1 HS0W11.out HP2.out.2 (by rw [HP2.out.1];exact hc) (by omega) (by omega) (by rw [HP2.out.1];omega) (by rw [HP2.out.1];exact hl) (by omega)
         rw [HP2.out.1] at hcall
         have HC2:=Lib.hid hcall
         clear hcall
         go_wp2_with fail
         try rw [heI]
         refine HC2.out.mono ?_
         rintro e' w3 ⟨rfl,hh2⟩
         have HS0W111:Hid (SrtI w0 g l3 w3):=Lib.hid (by rw [← HLL.out.2.2,if_pos (show mid < e∧e < b from ⟨x2,x2b⟩)];exact hh2)
         clear hh2 HC2
         go_wp2
         go_end0
         exact ⟨rfl,HS0W111.out⟩
        ·have x2I:(mid:Int) < (e:Int):=by omega
         have x2I':(mid:Int) < (mid:Int) + (m:Int) - (i:Int):=by omega
         have x2bI:¬ (e:Int) < (b:Int):=by omega
         have x2bI':¬ ((mid:Int) + (m:Int) - (i:Int) < (b:Int)):=by omega
         have HS0W111:Hid (SrtI w0 g l3 w1):=Lib.hid (by rw [← HLL.out.2.2,if_neg (show ¬ (mid < e∧e < b) from fun e=>x2b e.2)];exact HS0W11.out)
         go_wp2
         go_end0
         exact ⟨rfl,HS0W111.out⟩
       ·have x2I:¬ (mid:Int) < (e:Int):=by omega
        have x2I':¬ ((mid:Int) < (mid:Int) + (m:Int) - (i:Int)):=by omega
        have HS0W111:Hid (SrtI w0 g l3 w1):=Lib.hid (by rw [← HLL.out.2.2,if_neg (show ¬ (mid < e∧e < b) from fun e=>x2 e.1)];exact HS0W11.out)
        go_wp2
        go_end0
        exact ⟨rfl,HS0W111.out⟩
     ·have x0I:(i:Int) < (m:Int):=by omega
      have x0bI:¬ (m:Int) < (e:Int):=by omega
      have x0bI':¬ ((m:Int) < (mid:Int) + (m:Int) - (i:Int)):=by omega
      have HS0W1:Hid (SrtI w0 g l1 wx):=Lib.hid (by rw [← HLL.out.1,if_neg (show ¬ (i < m∧m < e) from fun e=>x0b e.2)];exact HS0W.out)
      by_cases x1:a < i
      ·by_cases x1b:i < mid
       ·have x1I:(a:Int) < (i:Int):=by omega
        have x1bI:(i:Int) < (mid:Int):=by omega
        have hcall:=HIH.out a i mid l1 wx HS0W1.out HP1.out.2 (by rw [HP1.out.1];exact hc) (by omega) (by omega) (by rw [HP1.out.1];omega) (by rw [HP1.out.1];exact hl) (by omega)
        rw [HP1.out.1] at hcall
        have HC1:=Lib.hid hcall
        clear hcall
        go_wp2_with fail
        try rw [heI]
        refine HC1.out.mono ?_
        rintro e' w2 ⟨rfl,hh1⟩
        have HS0W11:Hid (SrtI w0 g l2 w2):=Lib.hid (by rw [← HLL.out.2.1,if_pos (show a < i∧i < mid from ⟨x1,x1b⟩)];exact hh1)
        clear hh1 HC1
        by_cases x2:mid < e
        ·by_cases x2b:e < b
         ·have x2I:(mid:Int) < (e:Int):=by omega
          have x2I':(mid:Int) < (mid:Int) + (m:Int) - (i:Int):=by omega
          have x2bI:(e:Int) < (b:Int):=by omega
          have x2bI':(mid:Int) + (m:Int) - (i:Int) < (b:Int):=by omega
          have hcall:=HIH.out mid e b l2 w2 HS0W11.out HP2.out.2 (by rw [HP2.out.1];exact hc) (by omega) (by omega) (by rw [HP2.out.1];omega) (by rw [HP2.out.1];exact hl) (by omega)
          rw [HP2.out.1] at hcall
          have HC2:=Lib.hid hcall
          clear hcall
          go_wp2_with fail
          try rw [heI]
          refine HC2.out.mono ?_
          rintro e' w3 ⟨rfl,hh2⟩
          have HS0W111:Hid (SrtI w0 g l3 w3):=Lib.hid (by rw [← HLL.out.2.2,if_pos (show mid < e∧e < b from ⟨x2,x2b⟩)];exact hh2)
          clear hh2 HC2
          go_wp2
          go_end0
          exact ⟨rfl,HS0W111.out⟩
         ·have x2I:(mid:Int) < (e:Int):=by omega
          have x2I':(mid:Int) < (mid:Int) + (m:Int) - (i:Int):=by omega
          have x2bI:¬ (e:Int) < (b:Int):=by omega
          have x2bI':¬ ((mid:Int) + (m:Int) - (i:Int) < (b:Int)):=by omega
          have HS0W111:Hid (SrtI w0 g l3 w2):=Lib.hid (by rw [← HLL.out.2.2,if_neg (show ¬ (mid < e∧e < b) from fun e=>x2b e.2)];exact HS0W11.out)
          go_wp2
          go_end0
          exact ⟨rfl,HS0W111.out⟩
        ·have x2I:¬ (mid:Int) < (e:Int):=by omega
         have x2I':¬ ((mid:Int) < (mid:Int) + (m:Int) - (i:Int)):=by omega
         have HS0W111:Hid (SrtI w0 g l3 w2):=Lib.hid (by rw [← HLL.out.2.2,if_neg (show ¬ (mid < e∧e < b) from fun e=>x2 e.1)];exact HS0W11.out)
         go_wp2
         go_end0
         exact ⟨rfl,HS0W111.out⟩
       ·have x1I:(a:Int) < (i:Int):=by omega
        have x1bI:¬ (i:Int) < (mid:Int):=by omega
        have HS0W11:Hid (SrtI w0 g l2 wx):=Lib.hid (by rw [← HLL.out.2.1,if_neg (show ¬ (a < i∧i < mid) from fun e=>x1b e.2)];exact HS0W1.out)
        by_cases x2:mid < e
        ·by_cases x2b:e < b
         ·have x2I:(mid:Int) < (e:Int):=by omega
          have x2I':(mid:Int) < (mid:Int) + (m:Int) - (i:Int):=by omega
          have x2bI:(e:Int) < (b:Int):=by omega
          have x2bI':(mid:Int) + (m:Int) - (i:Int) < (b:Int):=by omega
          have hcall:=HIH.out mid e b l2 wx HS0W11.out HP2.out.2 (by rw [HP2.out.1];exact hc) (by omega) (by omega) (by rw [HP2.out.1];omega) (by rw [HP2.out.1];exact hl) (by omega)
          rw [HP2.out.1] at hcall
          have HC2:=Lib.hid hcall
          clear hcall
          go_wp2_with fail
          try rw [heI]
          refine HC2.out.mono ?_
          rintro e' w3 ⟨rfl,hh2⟩
          have HS0W111:Hid (SrtI w0 g l3 w3):=Lib.hid (by rw [← HLL.out.2.2,if_pos (show mid < e∧e < b from ⟨x2,x2b⟩)];exact hh2)
          clear hh2 HC2
          go_wp2
          go_end0
          exact ⟨rfl,HS0W111.out⟩
         ·have x2I:(mid:Int) < (e:Int):=by omega
          have x2I':(mid:Int) < (mid:Int) + (m:Int) - (i:Int):=by omega
          have x2bI:¬ (e:Int) < (b:Int):=by omega
          have x2bI':¬ ((mid:Int) + (m:Int) - (i:Int) < (b:Int)):=by omega
          have HS0W111:Hid (SrtI w0 g l3 wx):=Lib.hid (by rw [← HLL.out.2.2,if_neg (show ¬ (mid < e∧e < b) from fun e=>x2b e.2)];exact HS0W11.out)
          go_wp2
          go_end0
          exact ⟨rfl,HS0W111.out⟩
        ·have x2I:¬ (mid:Int) < (e:Int):=by omega
         have x2I':¬ ((mid:Int) < (mid:Int) + (m:Int) - (i:Int)):=by omega
         have HS0W111:Hid (SrtI w0 g l3 wx):=Lib.hid (by rw [← HLL.out.2.2,if_neg (show ¬ (mid < e∧e < b) from fun e=>x2 e.1)];exact HS0W11.out)
         go_wp2
         go_end0
         exact ⟨rfl,HS0W111.out⟩
      ·have x1I:¬ (a:Int) < (i:Int):=by omega
       have HS0W11:Hid (SrtI w0 g l2 wx):=Lib.hid (by rw [← HLL.out.2.1,if_neg (show ¬ (a < i∧i < mid) from fun e=>x1 e.1)];exact HS0W1.out)
       by_cases x2:mid < e
       ·by_cases x2b:e < b
        ·have x2I:(mid:Int) < (e:Int):=by omega
         have x2I':(mid:Int) < (mid:Int) + (m:Int) - (i:Int):=by omega
         have x2bI:(e:Int) < (b:Int):=by omega
         have x2bI':(mid:Int) + (m:Int) - (i:Int) < (b:Int):=by omega
         have hcall:=HIH.out mid e b l2 wx HS0W11.out HP2.out.2 (by rw [HP2.out.1];exact hc) (by omega) (by omega) (by rw [HP2.out.1];omega) (by rw [HP2.out.1];exact hl) (by omega)
         rw [HP2.out.1] at hcall
         have HC2:=Lib.hid hcall
         clear hcall
         go_wp2_with fail
         try rw [heI]
         refine HC2.out.mono ?_
         rintro e' w3 ⟨rfl,hh2⟩
         have HS0W111:Hid (SrtI w0 g l3 w3):=Lib.hid (by rw [← HLL.out.2.2,if_pos (show mid < e∧e < b from ⟨x2,x2b⟩)];exact hh2)
         clear hh2 HC2
         go_wp2
         go_end0
         exact ⟨rfl,HS0W111.out⟩
        ·have x2I:(mid:Int) < (e:Int):=by omega
         have x2I':(mid:Int) < (mid:Int) + (m:Int) - (i:Int):=by omega
         have x2bI:¬ (e:Int) < (b:Int):=by omega
         have x2bI':¬ ((mid:Int) + (m:Int) - (i:Int) < (b:Int)):=by omega
         have HS0W111:Hid (SrtI w0 g l3 wx):=Lib.hid (by rw [← HLL.out.2.2,if_neg (show ¬ (mid < e∧e < b) from fun e=>x2b e.2)];exact HS0W11.out)
         go_wp2
         go_end0
         exact ⟨rfl,HS0W111.out⟩
       ·have x2I:¬ (mid:Int) < (e:Int):=by omega
        have x2I':¬ ((mid:Int) < (mid:Int) + (m:Int) - (i:Int)):=by omega
        have HS0W111:Hid (SrtI w0 g l3 wx):=Lib.hid (by rw [← HLL.out.2.2,if_neg (show ¬ (mid < e∧e < b) from fun e=>x2 e.1)];exact HS0W11.out)
        go_wp2
        go_end0
        exact ⟨rfl,HS0W111.out⟩
    ·have x0I:¬ (i:Int) < (m:Int):=by omega
     have HS0W1:Hid (SrtI w0 g l1 wx):=Lib.hid (by rw [← HLL.out.1,if_neg (show ¬ (i < m∧m < e) from fun e=>x0 e.1)];exact HS0W.out)
     by_cases x1:a < i
     ·by_cases x1b:i < mid
      ·have x1I:(a:Int) < (i:Int):=by omega
       have x1bI:(i:Int) < (mid:Int):=by omega
       have hcall:=HIH.out a i mid l1 wx HS0W1.out HP1.out.2 (by rw [HP1.out.1];exact hc) (by omega) (by omega) (by rw [HP1.out.1];omega) (by rw [HP1.out.1];exact hl) (by omega)
       rw [HP1.out.1] at hcall
       have HC1:=Lib.hid hcall
       clear hcall
       go_wp2_with fail
       try rw [heI]
       refine HC1.out.mono ?_
       rintro e' w2 ⟨rfl,hh1⟩
       have HS0W11:Hid (SrtI w0 g l2 w2):=Lib.hid (by rw [← HLL.out.2.1,if_pos (show a < i∧i < mid from ⟨x1,x1b⟩)];exact hh1)
       clear hh1 HC1
       by_cases x2:mid < e
       ·by_cases x2b:e < b
        ·have x2I:(mid:Int) < (e:Int):=by omega
         have x2I':(mid:Int) < (mid:Int) + (m:Int) - (i:Int):=by omega
         have x2bI:(e:Int) < (b:Int):=by omega
         have x2bI':(mid:Int) + (m:Int) - (i:Int) < (b:Int):=by omega
         have hcall:=HIH.out mid e b l2 w2 HS0W11.out HP2.out.2 (by rw [HP2.out.1];exact hc) (by omega) (by omega) (by rw [HP2.out.1];omega) (by rw [HP2.out.1];exact hl) (by omega)
         rw [HP2.out.1] at hcall
         have HC2:=Lib.hid hcall
         clear hcall
         go_wp2_with fail
         try rw [heI]
         refine HC2.out.mono ?_
         rintro e' w3 ⟨rfl,hh2⟩
         have HS0W111:Hid (SrtI w0 g l3 w3):=Lib.hid (by rw [← HLL.out.2.2,if_pos (show mid < e∧e < b from ⟨x2,x2b⟩)];exact hh2)
         clear hh2 HC2
         go_wp2
         go_end0
         exact ⟨rfl,HS0W111.out⟩
        ·have x2I:(mid:Int) < (e:Int):=by omega
         have x2I':(mid:Int) < (mid:Int) + (m:Int) - (i:Int):=by omega
         have x2bI:¬ (e:Int) < (b:Int):=by omega
         have x2bI':¬ ((mid:Int) + (m:Int) - (i:Int) < (b:Int)):=by omega
         have HS0W111:Hid (SrtI w0 g l3 w2):=Lib.hid (by rw [← HLL.out.2.2,if_neg (show ¬ (mid < e∧e < b) from fun e=>x2b e.2)];exact HS0W11.out)
         go_wp2
         go_end0
         exact ⟨rfl,HS0W111.out⟩
       ·have x2I:¬ (mid:Int) < (e:Int):=by omega
        have x2I':¬ ((mid:Int) < (mid:Int) + (m:Int) - (i:Int)):=by omega
        have HS0W111:Hid (SrtI w0 g l3 w2):=Lib.hid (by rw [← HLL.out.2.2,if_neg (show ¬ (mid < e∧e < b) from fun e=>x2 e.1)];exact HS0W11.out)
        go_wp2
        go_end0
        exact ⟨rfl,HS0W111.out⟩
      ·have x1I:(a:Int) < (i:Int):=by omega
       have x1bI:¬ (i:Int) < (mid:Int):=by omega
       have HS0W11:Hid (SrtI w0 g l2 wx):=Lib.hid (by rw [← HLL.out.2.1,if_neg (show ¬ (a < i∧i < mid) from fun e=>x1b e.2)];exact HS0W1.out)
       by_cases x2:mid < e
       ·by_cases x2b:e < b
        ·have x2I:(mid:Int) < (e:Int):=by omega
         have x2I':(mid:Int) < (mid:Int) + (m:Int) - (i:Int):=by omega
         have x2bI:(e:Int) < (b:Int):=by omega
         have x2bI':(mid:Int) + (m:Int) - (i:Int) < (b:Int):=by omega
         have hcall:=HIH.out mid e b l2 wx HS0W11.out HP2.out.2 (by rw [HP2.out.1];exact hc) (by omega) (by omega) (by rw [HP2.out.1];omega) (by rw [HP2.out.1];exact hl) (by omega)
         rw [HP2.out.1] at hcall
         have HC2:=Lib.hid hcall
         clear hcall
         go_wp2_with fail
         try rw [heI]
         refine HC2.out.mono ?_
         rintro e' w3 ⟨rfl,hh2⟩
         have HS0W111:Hid (SrtI w0 g l3 w3):=Lib.hid (by rw [← HLL.out.2.2,if_pos (show mid < e∧e < b from ⟨x2,x2b⟩)];exact hh2)
         clear hh2 HC2
         go_wp2
         go_end0
         exact ⟨rfl,HS0W111.out⟩
        ·have x2I:(mid:Int) < (e:Int):=by omega
         have x2I':(mid:Int) < (mid:Int) + (m:Int) - (i:Int):=by omega
         have x2bI:¬ (e:Int) < (b:Int):=by omega
         have x2bI':¬ ((mid:Int) + (m:Int) - (i:Int) < (b:Int)):=by omega
         have HS0W111:Hid (SrtI w0 g l3 wx):=Lib.hid (by rw [← HLL.out.2.2,if_neg (show ¬ (mid < e∧e < b) from fun e=>x2b e.2)];exact HS0W11.out)
         go_wp2
         go_end0
         exact ⟨rfl,HS0W111.out⟩
       ·have x2I:¬ (mid:Int) < (e:Int):=by omega
        have x2I':¬ ((mid:Int) < (mid:Int) + (m:Int) - (i:Int)):=by omega
        have HS0W111:Hid (SrtI w0 g l3 wx):=Lib.hid (by rw [← HLL.out.2.2,if_neg (show ¬ (mid < e∧e < b) from fun e=>x2 e.1)];exact HS0W11.out)
        go_wp2
        go_end0
        exact ⟨rfl,HS0W111.out⟩
     ·have x1I:¬ (a:Int) < (i:Int):=by omega
      have HS0W11:Hid (SrtI w0 g l2 wx):=Lib.hid (by rw [← HLL.out.2.1,if_neg (show ¬ (a < i∧i < mid) from fun e=>x1 e.1)];exact HS0W1.out)
      by_cases x2:mid < e
      ·by_cases x2b:e < b
       ·have x2I:(mid:Int) < (e:Int):=by omega
        have x2I':(mid:Int) < (mid:Int) + (m:Int) - (i:Int):=by omega
        have x2bI:(e:Int) < (b:Int):=by omega
        have x2bI':(mid:Int) + (m:Int) - (i:Int) < (b:Int):=by omega
        have hcall:=HIH.out mid e b l2 wx HS0W11.out HP2.out.2 (by rw [HP2.out.1];exact hc) (by omega) (by omega) (by rw [HP2.out.1];omega) (by rw [HP2.out.1];exact hl) (by omega)
        rw [HP2.out.1] at hcall
        have HC2:=Lib.hid hcall
        clear hcall
        go_wp2_with fail
        try rw [heI]
        refine HC2.out.mono ?_
        rintro e' w3 ⟨rfl,hh2⟩
        have HS0W111:Hid (SrtI w0 g l3 w3):=Lib.hid (by rw [← HLL.out.2.2,if_pos (show mid < e∧e < b from ⟨x2,x2b⟩)];exact hh2)
        clear hh2 HC2
        go_wp2
        go_end0
        exact ⟨rfl,HS0W111.out⟩
       ·have x2I:(mid:Int) < (e:Int):=by omega
        have x2I':(mid:Int) < (mid:Int) + (m:Int) - (i:Int):=by omega
        have x2bI:¬ (e:Int) < (b:Int):=by omega
        have x2bI':¬ ((mid:Int) + (m:Int) - (i:Int) < (b:Int)):=by omega
        have HS0W111:Hid (SrtI w0 g l3 wx):=Lib.hid (by rw [← HLL.out.2.2,if_neg (show ¬ (mid < e∧e < b) from fun e=>x2b e.2)];exact HS0W11.out)
        go_wp2
        go_end0
        exact ⟨rfl,HS0W111.out⟩
      ·have x2I:¬ (mid:Int) < (e:Int):=by omega
       have x2I':¬ ((mid:Int) < (mid:Int) + (m:Int) - (i:Int)):=by omega
       have HS0W111:Hid (SrtI w0 g l3 wx):=Lib.hid (by rw [← HLL.out.2.2,if_neg (show ¬ (mid < e∧e < b) from fun e=>x2 e.1)];exact HS0W11.out)
       go_wp2
       go_end0
       exact ⟨rfl,HS0W111.out⟩
 ·have hmm':¬ (m:Int) > (mid:Int):=by omega
  rw [if_neg hmm] at hst0 hr0
  subst hst0 hr0
  clear hstr hmI
  go_wp2_with fail
  have hp:(mid:Int) + (m:Int) - 1 = ((mid + m - 1:Nat):Int):=by omega
  obtain ⟨p,hpe⟩:∃ p,mid + m - 1 = p:=⟨_,rfl⟩
  rw [hpe] at hp
  try rw [hp]
  have HPE:=Lib.hid hpe
  clear hpe hp
  go_loopw [20,21] (fun x y wr=>∃ (i j k:Nat),x = .int .i64 i∧y = .int .i64 j∧a ≤ i∧i ≤ j∧j ≤ m∧j - i ≤ k∧bsD (fun x=>!lssAt c l (mid + m - 1 - x) x) k i j = s0∧SrtI w0 g l wr) (fun x y _=>(intOf y).toNat - (intOf x).toNat)
  case atStart=>exact ⟨a,m,b - a,rfl,rfl,Nat.le_refl _,HSTR.out.1,Nat.le_refl _,HSTR.out.2.1,HBS.out,HI.out.1⟩
  case round =>
   obtain ⟨i,j,k,rfl,rfl,q1,q2,q3,q4,hbs,hS⟩:=hrel
   obtain ⟨wx,rfl⟩:∃ wx,wx = wr:=⟨_,rfl⟩
   have HS:=Lib.hid hS
   by_cases hij:i < j
   ·have hij':(i:Int) < (j:Int):=by omega
    have HBT:=Lib.hid hbs
    clear hS hbs
    have hb6:j ≤ 1000000:=by have:=HSTR.out;omega
    go_wp2_with fail
    obtain ⟨h,hh⟩:∃ h,(i + j) / 2 = h:=⟨_,rfl⟩
    rw [show ((i:Int) + (j:Int)) / 2 = (h:Int) from by omega]
    have hh2:i ≤ h∧h < j:=by omega
    have hstr:=HSTR.out
    have hpe:=HPE.out
    have hpb:p ≤ 4000000:=by omega
    obtain ⟨k,rfl⟩:∃ k',k = k' + 1:=⟨k - 1,by omega⟩
    obtain ⟨pc,hpc⟩:∃ z,p - h = z:=⟨_,rfl⟩
    have hpc2:pc < n:=by omega
    have hhn:h < n:=by omega
    have hph:h ≤ p:=by omega
    obtain ⟨vx,hvx⟩:∃ v,l.getD pc 0 = v:=⟨_,rfl⟩
    obtain ⟨vy,hvy⟩:∃ v,l.getD h 0 = v:=⟨_,rfl⟩
    obtain ⟨lb,hlb⟩:∃ v,lssAt c l pc h = v:=⟨_,rfl⟩
    have HLB:Hid (decide (c vx vy < 0) = lb):=Lib.hid (by rw [← hlb,← hvx,← hvy];rfl)
    have hNN:=HN.out
    have HOK:Hid (ok vx∧ok vy):=Lib.hid ⟨by rw [← hvx];exact HI.out.2 _ (getD_mem (by omega)),by rw [← hvy];exact HI.out.2 _ (getD_mem (by omega))⟩
    have HNX:Hid (if lb = false then bsD (fun x=>!lssAt c l (mid + m - 1 - x) x) k (h + 1) j = s0 else bsD (fun x=>!lssAt c l (mid + m - 1 - x) x) k i h = s0):=Lib.hid (by
     have e:=HBT.out
     rw [bsD_step _ hij] at e
     simp only [hh,hpe,hpc,hlb] at e
     simp only [hpe]
     cases lb
     ·simpa using e
     ·simpa using e)
    have HV:=Lib.hid (And.intro hvx (And.intro hvy (show pc < l.length∧h < l.length by omega)))
    have hpcI:(p:Int) - (h:Int) = (pc:Int):=by omega
    have HPC:=Lib.hid hpcI
    clear hvx hvy hlb hNN HBT hh hpc hstr hpe hpcI
    refine wp_region_held_drew (S:=fun W=>SrtI w0 g l W) (by kernel_rfl) (HS.out.drewN 1) (fun hHeld=>?_)
    clear HS
    generalize World.drew _ = V0 at hHeld ⊢
    refine tk0 0 (some 158) (v:=.func (.func kf) #[] cb) rfl hHeld ?_
    refine tk0 1 (some 159) (v:=.slice (some ⟨g,0,none⟩) n cp) rfl hHeld ?_
    refine tk0 2 (some 160) (v:=.int .i64 (p:Int)) rfl hHeld ?_
    refine tk0 3 (some 161) (v:=.int .i64 (h:Int)) rfl hHeld ?_
    refine tk9 4 (some 162) (v:=.int .i64 (pc:Int)) rfl (by rw [← HPC.out];exact yields_subI (by kernel_rfl) _ _ _ _ rfl (p:Int) (h:Int) (by kernel_rfl) (by kernel_rfl) (by kernel_rfl) (by omega) (by omega) (by omega)) hHeld ?_
    refine tk9 5 (some 163) (v:=.pointer (some ⟨g,pc,none⟩)) rfl (yields_indexQ (by kernel_rfl) _ _ _ rfl g 0 n cp pc 1 pc (pc:Int) (by kernel_rfl) (by kernel_rfl) Tryz.underlying24 (by kernel_rfl) (by omega) (by omega) (by omega)) hHeld ?_
    refine tk9 6 (some 164) (v:=.int .i64 vx) rfl (yields_load_one9 (by kernel_rfl) _ _ rfl g (pc) (by kernel_rfl) _ _ Tryz.underlying3 rfl (fun W h=>by rw [h.cell HV.out.2.2.1,HV.out.1])) hHeld ?_
    refine tk0 7 (some 165) (v:=.slice (some ⟨g,0,none⟩) n cp) rfl hHeld ?_
    refine tk0 8 (some 166) (v:=.int .i64 (h:Int)) rfl hHeld ?_
    refine tk9 9 (some 167) (v:=.pointer (some ⟨g,h,none⟩)) rfl (yields_indexQ (by kernel_rfl) _ _ _ rfl g 0 n cp h 1 h (h:Int) (by kernel_rfl) (by kernel_rfl) Tryz.underlying24 (by kernel_rfl) (by omega) (by omega) (by omega)) hHeld ?_
    refine tk9 10 (some 168) (v:=.int .i64 vy) rfl (yields_load_one9 (by kernel_rfl) _ _ rfl g (h) (by kernel_rfl) _ _ Tryz.underlying3 rfl (fun W h=>by rw [h.cell HV.out.2.2.2,HV.out.2.1])) hHeld ?_
    refine call_f9 11 (some 169) rfl (by kernel_rfl) (by kernel_rfl) (by kernel_rfl) _ _ _ rfl kf cb (by kernel_rfl) #[.int .i64 vx,.int .i64 vy] (by kernel_rfl) HCL.out.enter ?_
    refine (HCL.out.calls l V0 vx vy hHeld HOK.out.1 HOK.out.2).mono ?_
    rintro e V1 ⟨rfl,nn,rfl⟩
    replace hHeld:=hHeld.drewN nn
    generalize World.drewN V0 nn = V1 at hHeld ⊢
    refine ⟨_,rfl,hHeld,?_⟩
    refine tk9 12 (some 170) (v:=.bool lb) rfl (yields_ltD (by kernel_rfl) _ _ _ _ rfl (c vx vy) 0 lb (by kernel_rfl) (by kernel_rfl) (by kernel_rfl) HLB.out) hHeld ?_
    refine tk0 13 (some 171) (v:=.bool (!lb)) rfl hHeld ?_
    have HS:=Lib.hid hHeld
    cases lb with
    | false =>
     refine wpAnyH_done (by kernel_rfl) ?_ _
     rename_i K0 a0
     change K0 _ _
     refine a0 _ _ (wp_cond_true (by kernel_rfl) ?_)
     clear hHeld
     simp [Act.put]
     go_wp2
     go_roundw
     case rel =>
      have HR:∃ (i' j' k':Nat),Value.int .i64 ((h:Int) + 1) = .int .i64 i'∧Value.int .i64 (j:Int) = .int .i64 j'∧a ≤ i'∧i' ≤ j'∧j' ≤ m∧j' - i' ≤ k'∧bsD (fun x=>!lssAt c l (mid + m - 1 - x) x) k' i' j' = s0∧SrtI w0 g l V1:=⟨h + 1,j,k,by go_num,rfl,by omega,by omega,q3,by omega,by simpa using HNX.out,HS.out⟩
      first | exact HR | simpa using HR
     case measure=>simp [intOf];omega
    | true =>
     refine wpAnyH_done (by kernel_rfl) ?_ _
     rename_i K0 a0
     change K0 _ _
     refine a0 _ _ (wp_cond_false (by kernel_rfl) ?_)
     clear hHeld
     simp [Act.put]
     go_wp2
     go_roundw
     case rel =>
      have HR:∃ (i' j' k':Nat),Value.int .i64 (i:Int) = .int .i64 i'∧Value.int .i64 (h:Int) = .int .i64 j'∧a ≤ i'∧i' ≤ j'∧j' ≤ m∧j' - i' ≤ k'∧bsD (fun x=>!lssAt c l (mid + m - 1 - x) x) k' i' j' = s0∧SrtI w0 g l V1:=⟨i,h,k,rfl,rfl,q1,by omega,by omega,by omega,by simpa using HNX.out,HS.out⟩
      clear HIH
      first | exact HR | simpa using HR | ((repeat (refine Exists.intro _ ?_));exact ⟨HR,rfl⟩)
     case measure=>simp [intOf];omega
   ·have hij':¬ (i:Int) < (j:Int):=by omega
    have hie:i = s0:=by rw [← hbs,bsD_end _ hij]
    subst hie
    have hrelS:=hS
    clear hbs hS hij q4
    obtain ⟨e,he⟩:∃ e,mid + m - i = e:=⟨_,rfl⟩
    rw [he] at HLL HSI
    have hin:=HSI.out
    have heI:(mid:Int) + (m:Int) - (i:Int) = (e:Int):=by omega
    have HS0W:=Lib.hid hrelS
    clear hrelS HBS HSTR HMID
    by_cases x0:i < m
    ·by_cases x0b:m < e
     ·have x0I:(i:Int) < (m:Int):=by omega
      have x0bI:(m:Int) < (e:Int):=by omega
      have x0bI':(m:Int) < (mid:Int) + (m:Int) - (i:Int):=by omega
      have hcall:=rotate_any w0 wx g cp i m e (b - a + 1) l (.func (.func kf) #[] cb) HS0W.out (by rw [HN.out];exact hc) hc2 (by omega) (by omega) (by rw [HN.out];omega) (by rw [HN.out];exact hl) (by omega)
      rw [HN.out] at hcall
      have HC0:=Lib.hid hcall
      clear hcall
      go_wp2_with fail
      try rw [heI]
      refine HC0.out.mono ?_
      rintro e' w1 ⟨rfl,hh0⟩
      have HS0W1:Hid (SrtI w0 g l1 w1):=Lib.hid (by rw [← HLL.out.1,if_pos (show i < m∧m < e from ⟨x0,x0b⟩)];exact hh0)
      clear hh0 HC0
      by_cases x1:a < i
      ·by_cases x1b:i < mid
       ·have x1I:(a:Int) < (i:Int):=by omega
        have x1bI:(i:Int) < (mid:Int):=by omega
        have hcall:=HIH.out a i mid l1 w1 HS0W1.out HP1.out.2 (by rw [HP1.out.1];exact hc) (by omega) (by omega) (by rw [HP1.out.1];omega) (by rw [HP1.out.1];exact hl) (by omega)
        rw [HP1.out.1] at hcall
        have HC1:=Lib.hid hcall
        clear hcall
        go_wp2_with fail
        try rw [heI]
        refine HC1.out.mono ?_
        rintro e' w2 ⟨rfl,hh1⟩
        have HS0W11:Hid (SrtI w0 g l2 w2):=Lib.hid (by rw [← HLL.out.2.1,if_pos (show a < i∧i < mid from ⟨x1,x1b⟩)];exact hh1)
        clear hh1 HC1
        by_cases x2:mid < e
        ·by_cases x2b:e < b
         ·have x2I:(mid:Int) < (e:Int):=by omega
          have x2I':(mid:Int) < (mid:Int) + (m:Int) - (i:Int):=by omega
          have x2bI:(e:Int) < (b:Int):=by omega
          have x2bI':(mid:Int) + (m:Int) - (i:Int) < (b:Int):=by omega
          have hcall:=HIH.out mid e b l2 w2 HS0W11.out HP2.out.2 (by rw [HP2.out.1];exact hc) (by omega) (by omega) (by rw [HP2.out.1];omega) (by rw [HP2.out.1];exact hl) (by omega)
          rw [HP2.out.1] at hcall
          have HC2:=Lib.hid hcall
          clear hcall
          go_wp2_with fail
          try rw [heI]
          refine HC2.out.mono ?_
          rintro e' w3 ⟨rfl,hh2⟩
          have HS0W111:Hid (SrtI w0 g l3 w3):=Lib.hid (by rw [← HLL.out.2.2,if_pos (show mid < e∧e < b from ⟨x2,x2b⟩)];exact hh2)
          clear hh2 HC2
          go_wp2
          go_end0
          exact ⟨rfl,HS0W111.out⟩
         ·have x2I:(mid:Int) < (e:Int):=by omega
          have x2I':(mid:Int) < (mid:Int) + (m:Int) - (i:Int):=by omega
          have x2bI:¬ (e:Int) < (b:Int):=by omega
          have x2bI':¬ ((mid:Int) + (m:Int) - (i:Int) < (b:Int)):=by omega
          have HS0W111:Hid (SrtI w0 g l3 w2):=Lib.hid (by rw [← HLL.out.2.2,if_neg (show ¬ (mid < e∧e < b) from fun e=>x2b e.2)];exact HS0W11.out)
          go_wp2
          go_end0
          exact ⟨rfl,HS0W111.out⟩
        ·have x2I:¬ (mid:Int) < (e:Int):=by omega
         have x2I':¬ ((mid:Int) < (mid:Int) + (m:Int) - (i:Int)):=by omega
         have HS0W111:Hid (SrtI w0 g l3 w2):=Lib.hid (by rw [← HLL.out.2.2,if_neg (show ¬ (mid < e∧e < b) from fun e=>x2 e.1)];exact HS0W11.out)
         go_wp2
         go_end0
         exact ⟨rfl,HS0W111.out⟩
       ·have x1I:(a:Int) < (i:Int):=by omega
        have x1bI:¬ (i:Int) < (mid:Int):=by omega
        have HS0W11:Hid (SrtI w0 g l2 w1):=Lib.hid (by rw [← HLL.out.2.1,if_neg (show ¬ (a < i∧i < mid) from fun e=>x1b e.2)];exact HS0W1.out)
        by_cases x2:mid < e
        ·by_cases x2b:e < b
         ·have x2I:(mid:Int) < (e:Int):=by omega
          have x2I':(mid:Int) < (mid:Int) + (m:Int) - (i:Int):=by omega
          have x2bI:(e:Int) < (b:Int):=by omega
          have x2bI':(mid:Int) + (m:Int) - (i:Int) < (b:Int):=by omega
          have hcall:=HIH.out mid e b l2 w1 HS0W11.out HP2.out.2 (by rw [HP2.out.1];exact hc) (by omega) (by omega) (by rw [HP2.out.1];omega) (by rw [HP2.out.1];exact hl) (by omega)
          rw [HP2.out.1] at hcall
          have HC2:=Lib.hid hcall
          clear hcall
          go_wp2_with fail
          try rw [heI]
          refine HC2.out.mono ?_
          rintro e' w3 ⟨rfl,hh2⟩
          have HS0W111:Hid (SrtI w0 g l3 w3):=Lib.hid (by rw [← HLL.out.2.2,if_pos (show mid < e∧e < b from ⟨x2,x2b⟩)];exact hh2)
          clear hh2 HC2
          go_wp2
          go_end0
          exact ⟨rfl,HS0W111.out⟩
         ·have x2I:(mid:Int) < (e:Int):=by omega
          have x2I':(mid:Int) < (mid:Int) + (m:Int) - (i:Int):=by omega
          have x2bI:¬ (e:Int) < (b:Int):=by omega
          have x2bI':¬ ((mid:Int) + (m:Int) - (i:Int) < (b:Int)):=by omega
          have HS0W111:Hid (SrtI w0 g l3 w1):=Lib.hid (by rw [← HLL.out.2.2,if_neg (show ¬ (mid < e∧e < b) from fun e=>x2b e.2)];exact HS0W11.out)
          go_wp2
          go_end0
          exact ⟨rfl,HS0W111.out⟩
        ·have x2I:¬ (mid:Int) < (e:Int):=by omega
         have x2I':¬ ((mid:Int) < (mid:Int) + (m:Int) - (i:Int)):=by omega
         have HS0W111:Hid (SrtI w0 g l3 w1):=Lib.hid (by rw [← HLL.out.2.2,if_neg (show ¬ (mid < e∧e < b) from fun e=>x2 e.1)];exact HS0W11.out)
         go_wp2
         go_end0
         exact ⟨rfl,HS0W111.out⟩
      ·have x1I:¬ (a:Int) < (i:Int):=by omega
       have HS0W11:Hid (SrtI w0 g l2 w1):=Lib.hid (by rw [← HLL.out.2.1,if_neg (show ¬ (a < i∧i < mid) from fun e=>x1 e.1)];exact HS0W1.out)
       by_cases x2:mid < e
       ·by_cases x2b:e < b
        ·have x2I:(mid:Int) < (e:Int):=by omega
         have x2I':(mid:Int) < (mid:Int) + (m:Int) - (i:Int):=by omega
         have x2bI:(e:Int) < (b:Int):=by omega
         have x2bI':(mid:Int) + (m:Int) - (i:Int) < (b:Int):=by omega
         have hcall:=HIH.out mid e b l2 w1 HS0W11.out HP2.out.2 (by rw [HP2.out.1];exact hc) (by omega) (by omega) (by rw [HP2.out.1];omega) (by rw [HP2.out.1];exact hl) (by omega)
         rw [HP2.out.1] at hcall
         have HC2:=Lib.hid hcall
         clear hcall
         go_wp2_with fail
         try rw [heI]
         refine HC2.out.mono ?_
         rintro e' w3 ⟨rfl,hh2⟩
         have HS0W111:Hid (SrtI w0 g l3 w3):=Lib.hid (by rw [← HLL.out.2.2,if_pos (show mid < e∧e < b from ⟨x2,x2b⟩)];exact hh2)
         clear hh2 HC2
         go_wp2
         go_end0
         exact ⟨rfl,HS0W111.out⟩
        ·have x2I:(mid:Int) < (e:Int):=by omega
         have x2I':(mid:Int) < (mid:Int) + (m:Int) - (i:Int):=by omega
         have x2bI:¬ (e:Int) < (b:Int):=by omega
         have x2bI':¬ ((mid:Int) + (m:Int) - (i:Int) < (b:Int)):=by omega
         have HS0W111:Hid (SrtI w0 g l3 w1):=Lib.hid (by rw [← HLL.out.2.2,if_neg (show ¬ (mid < e∧e < b) from fun e=>x2b e.2)];exact HS0W11.out)
         go_wp2
         go_end0
         exact ⟨rfl,HS0W111.out⟩
       ·have x2I:¬ (mid:Int) < (e:Int):=by omega
        have x2I':¬ ((mid:Int) < (mid:Int) + (m:Int) - (i:Int)):=by omega
        have HS0W111:Hid (SrtI w0 g l3 w1):=Lib.hid (by rw [← HLL.out.2.2,if_neg (show ¬ (mid < e∧e < b) from fun e=>x2 e.1)];exact HS0W11.out)
        go_wp2
        go_end0
        exact ⟨rfl,HS0W111.out⟩
     ·have x0I:(i:Int) < (m:Int):=by omega
      have x0bI:¬ (m:Int) < (e:Int):=by omega
      have x0bI':¬ ((m:Int) < (mid:Int) + (m:Int) - (i:Int)):=by omega
      have HS0W1:Hid (SrtI w0 g l1 wx):=Lib.hid (by rw [← HLL.out.1,if_neg (show ¬ (i < m∧m < e) from fun e=>x0b e.2)];exact HS0W.out)
      by_cases x1:a < i
      ·by_cases x1b:i < mid
       ·have x1I:(a:Int) < (i:Int):=by omega
        have x1bI:(i:Int) < (mid:Int):=by omega
        have hcall:=HIH.out a i mid l1 wx HS0W1.out HP1.out.2 (by rw [HP1.out.1];exact hc) (by omega) (by omega) (by rw [HP1.out.1];omega) (by rw [HP1.out.1];exact hl) (by omega)
        rw [HP1.out.1] at hcall
        have HC1:=Lib.hid hcall
        clear hcall
        go_wp2_with fail
        try rw [heI]
        refine HC1.out.mono ?_
        rintro e' w2 ⟨rfl,hh1⟩
        have HS0W11:Hid (SrtI w0 g l2 w2):=Lib.hid (by rw [← HLL.out.2.1,if_pos (show a < i∧i < mid from ⟨x1,x1b⟩)];exact hh1)
        clear hh1 HC1
        by_cases x2:mid < e
        ·by_cases x2b:e < b
         ·have x2I:(mid:Int) < (e:Int):=by omega
          have x2I':(mid:Int) < (mid:Int) + (m:Int) - (i:Int):=by omega
          have x2bI:(e:Int) < (b:Int):=by omega
          have x2bI':(mid:Int) + (m:Int) - (i:Int) < (b:Int):=by omega
          have hcall:=HIH.out mid e b l2 w2 HS0W11.out HP2.out.2 (by rw [HP2.out.1];exact hc) (by omega) (by omega) (by rw [HP2.out.1];omega) (by rw [HP2.out.1];exact hl) (by omega)
          rw [HP2.out.1] at hcall
          have HC2:=Lib.hid hcall
          clear hcall
          go_wp2_with fail
          try rw [heI]
          refine HC2.out.mono ?_
          rintro e' w3 ⟨rfl,hh2⟩
          have HS0W111:Hid (SrtI w0 g l3 w3):=Lib.hid (by rw [← HLL.out.2.2,if_pos (show mid < e∧e < b from ⟨x2,x2b⟩)];exact hh2)
          clear hh2 HC2
          go_wp2
          go_end0
          exact ⟨rfl,HS0W111.out⟩
         ·have x2I:(mid:Int) < (e:Int):=by omega
          have x2I':(mid:Int) < (mid:Int) + (m:Int) - (i:Int):=by omega
          have x2bI:¬ (e:Int) < (b:Int):=by omega
          have x2bI':¬ ((mid:Int) + (m:Int) - (i:Int) < (b:Int)):=by omega
          have HS0W111:Hid (SrtI w0 g l3 w2):=Lib.hid (by rw [← HLL.out.2.2,if_neg (show ¬ (mid < e∧e < b) from fun e=>x2b e.2)];exact HS0W11.out)
          go_wp2
          go_end0
          exact ⟨rfl,HS0W111.out⟩
        ·have x2I:¬ (mid:Int) < (e:Int):=by omega
         have x2I':¬ ((mid:Int) < (mid:Int) + (m:Int) - (i:Int)):=by omega
         have HS0W111:Hid (SrtI w0 g l3 w2):=Lib.hid (by rw [← HLL.out.2.2,if_neg (show ¬ (mid < e∧e < b) from fun e=>x2 e.1)];exact HS0W11.out)
         go_wp2
         go_end0
         exact ⟨rfl,HS0W111.out⟩
       ·have x1I:(a:Int) < (i:Int):=by omega
        have x1bI:¬ (i:Int) < (mid:Int):=by omega
        have HS0W11:Hid (SrtI w0 g l2 wx):=Lib.hid (by rw [← HLL.out.2.1,if_neg (show ¬ (a < i∧i < mid) from fun e=>x1b e.2)];exact HS0W1.out)
        by_cases x2:mid < e
        ·by_cases x2b:e < b
         ·have x2I:(mid:Int) < (e:Int):=by omega
          have x2I':(mid:Int) < (mid:Int) + (m:Int) - (i:Int):=by omega
          have x2bI:(e:Int) < (b:Int):=by omega
          have x2bI':(mid:Int) + (m:Int) - (i:Int) < (b:Int):=by omega
          have hcall:=HIH.out mid e b l2 wx HS0W11.out HP2.out.2 (by rw [HP2.out.1];exact hc) (by omega) (by omega) (by rw [HP2.out.1];omega) (by rw [HP2.out.1];exact hl) (by omega)
          rw [HP2.out.1] at hcall
          have HC2:=Lib.hid hcall
          clear hcall
          go_wp2_with fail
          try rw [heI]
          refine HC2.out.mono ?_
          rintro e' w3 ⟨rfl,hh2⟩
          have HS0W111:Hid (SrtI w0 g l3 w3):=Lib.hid (by rw [← HLL.out.2.2,if_pos (show mid < e∧e < b from ⟨x2,x2b⟩)];exact hh2)
          clear hh2 HC2
          go_wp2
          go_end0
          exact ⟨rfl,HS0W111.out⟩
         ·have x2I:(mid:Int) < (e:Int):=by omega
          have x2I':(mid:Int) < (mid:Int) + (m:Int) - (i:Int):=by omega
          have x2bI:¬ (e:Int) < (b:Int):=by omega
          have x2bI':¬ ((mid:Int) + (m:Int) - (i:Int) < (b:Int)):=by omega
          have HS0W111:Hid (SrtI w0 g l3 wx):=Lib.hid (by rw [← HLL.out.2.2,if_neg (show ¬ (mid < e∧e < b) from fun e=>x2b e.2)];exact HS0W11.out)
          go_wp2
          go_end0
          exact ⟨rfl,HS0W111.out⟩
        ·have x2I:¬ (mid:Int) < (e:Int):=by omega
         have x2I':¬ ((mid:Int) < (mid:Int) + (m:Int) - (i:Int)):=by omega
         have HS0W111:Hid (SrtI w0 g l3 wx):=Lib.hid (by rw [← HLL.out.2.2,if_neg (show ¬ (mid < e∧e < b) from fun e=>x2 e.1)];exact HS0W11.out)
         go_wp2
         go_end0
         exact ⟨rfl,HS0W111.out⟩
      ·have x1I:¬ (a:Int) < (i:Int):=by omega
       have HS0W11:Hid (SrtI w0 g l2 wx):=Lib.hid (by rw [← HLL.out.2.1,if_neg (show ¬ (a < i∧i < mid) from fun e=>x1 e.1)];exact HS0W1.out)
       by_cases x2:mid < e
       ·by_cases x2b:e < b
        ·have x2I:(mid:Int) < (e:Int):=by omega
         have x2I':(mid:Int) < (mid:Int) + (m:Int) - (i:Int):=by omega
         have x2bI:(e:Int) < (b:Int):=by omega
         have x2bI':(mid:Int) + (m:Int) - (i:Int) < (b:Int):=by omega
         have hcall:=HIH.out mid e b l2 wx HS0W11.out HP2.out.2 (by rw [HP2.out.1];exact hc) (by omega) (by omega) (by rw [HP2.out.1];omega) (by rw [HP2.out.1];exact hl) (by omega)
         rw [HP2.out.1] at hcall
         have HC2:=Lib.hid hcall
         clear hcall
         go_wp2_with fail
         try rw [heI]
         refine HC2.out.mono ?_
         rintro e' w3 ⟨rfl,hh2⟩
         have HS0W111:Hid (SrtI w0 g l3 w3):=Lib.hid (by rw [← HLL.out.2.2,if_pos (show mid < e∧e < b from ⟨x2,x2b⟩)];exact hh2)
         clear hh2 HC2
         go_wp2
         go_end0
         exact ⟨rfl,HS0W111.out⟩
        ·have x2I:(mid:Int) < (e:Int):=by omega
         have x2I':(mid:Int) < (mid:Int) + (m:Int) - (i:Int):=by omega
         have x2bI:¬ (e:Int) < (b:Int):=by omega
         have x2bI':¬ ((mid:Int) + (m:Int) - (i:Int) < (b:Int)):=by omega
         have HS0W111:Hid (SrtI w0 g l3 wx):=Lib.hid (by rw [← HLL.out.2.2,if_neg (show ¬ (mid < e∧e < b) from fun e=>x2b e.2)];exact HS0W11.out)
         go_wp2
         go_end0
         exact ⟨rfl,HS0W111.out⟩
       ·have x2I:¬ (mid:Int) < (e:Int):=by omega
        have x2I':¬ ((mid:Int) < (mid:Int) + (m:Int) - (i:Int)):=by omega
        have HS0W111:Hid (SrtI w0 g l3 wx):=Lib.hid (by rw [← HLL.out.2.2,if_neg (show ¬ (mid < e∧e < b) from fun e=>x2 e.1)];exact HS0W11.out)
        go_wp2
        go_end0
        exact ⟨rfl,HS0W111.out⟩
    ·have x0I:¬ (i:Int) < (m:Int):=by omega
     have HS0W1:Hid (SrtI w0 g l1 wx):=Lib.hid (by rw [← HLL.out.1,if_neg (show ¬ (i < m∧m < e) from fun e=>x0 e.1)];exact HS0W.out)
     by_cases x1:a < i
     ·by_cases x1b:i < mid
      ·have x1I:(a:Int) < (i:Int):=by omega
       have x1bI:(i:Int) < (mid:Int):=by omega
       have hcall:=HIH.out a i mid l1 wx HS0W1.out HP1.out.2 (by rw [HP1.out.1];exact hc) (by omega) (by omega) (by rw [HP1.out.1];omega) (by rw [HP1.out.1];exact hl) (by omega)
       rw [HP1.out.1] at hcall
       have HC1:=Lib.hid hcall
       clear hcall
       go_wp2_with fail
       try rw [heI]
       refine HC1.out.mono ?_
       rintro e' w2 ⟨rfl,hh1⟩
       have HS0W11:Hid (SrtI w0 g l2 w2):=Lib.hid (by rw [← HLL.out.2.1,if_pos (show a < i∧i < mid from ⟨x1,x1b⟩)];exact hh1)
       clear hh1 HC1
       by_cases x2:mid < e
       ·by_cases x2b:e < b
        ·have x2I:(mid:Int) < (e:Int):=by omega
         have x2I':(mid:Int) < (mid:Int) + (m:Int) - (i:Int):=by omega
         have x2bI:(e:Int) < (b:Int):=by omega
         have x2bI':(mid:Int) + (m:Int) - (i:Int) < (b:Int):=by omega
         have hcall:=HIH.out mid e b l2 w2 HS0W11.out HP2.out.2 (by rw [HP2.out.1];exact hc) (by omega) (by omega) (by rw [HP2.out.1];omega) (by rw [HP2.out.1];exact hl) (by omega)
         rw [HP2.out.1] at hcall
         have HC2:=Lib.hid hcall
         clear hcall
         go_wp2_with fail
         try rw [heI]
         refine HC2.out.mono ?_
         rintro e' w3 ⟨rfl,hh2⟩
         have HS0W111:Hid (SrtI w0 g l3 w3):=Lib.hid (by rw [← HLL.out.2.2,if_pos (show mid < e∧e < b from ⟨x2,x2b⟩)];exact hh2)
         clear hh2 HC2
         go_wp2
         go_end0
         exact ⟨rfl,HS0W111.out⟩
        ·have x2I:(mid:Int) < (e:Int):=by omega
         have x2I':(mid:Int) < (mid:Int) + (m:Int) - (i:Int):=by omega
         have x2bI:¬ (e:Int) < (b:Int):=by omega
         have x2bI':¬ ((mid:Int) + (m:Int) - (i:Int) < (b:Int)):=by omega
         have HS0W111:Hid (SrtI w0 g l3 w2):=Lib.hid (by rw [← HLL.out.2.2,if_neg (show ¬ (mid < e∧e < b) from fun e=>x2b e.2)];exact HS0W11.out)
         go_wp2
         go_end0
         exact ⟨rfl,HS0W111.out⟩
       ·have x2I:¬ (mid:Int) < (e:Int):=by omega
        have x2I':¬ ((mid:Int) < (mid:Int) + (m:Int) - (i:Int)):=by omega
        have HS0W111:Hid (SrtI w0 g l3 w2):=Lib.hid (by rw [← HLL.out.2.2,if_neg (show ¬ (mid < e∧e < b) from fun e=>x2 e.1)];exact HS0W11.out)
        go_wp2
        go_end0
        exact ⟨rfl,HS0W111.out⟩
      ·have x1I:(a:Int) < (i:Int):=by omega
       have x1bI:¬ (i:Int) < (mid:Int):=by omega
       have HS0W11:Hid (SrtI w0 g l2 wx):=Lib.hid (by rw [← HLL.out.2.1,if_neg (show ¬ (a < i∧i < mid) from fun e=>x1b e.2)];exact HS0W1.out)
       by_cases x2:mid < e
       ·by_cases x2b:e < b
        ·have x2I:(mid:Int) < (e:Int):=by omega
         have x2I':(mid:Int) < (mid:Int) + (m:Int) - (i:Int):=by omega
         have x2bI:(e:Int) < (b:Int):=by omega
         have x2bI':(mid:Int) + (m:Int) - (i:Int) < (b:Int):=by omega
         have hcall:=HIH.out mid e b l2 wx HS0W11.out HP2.out.2 (by rw [HP2.out.1];exact hc) (by omega) (by omega) (by rw [HP2.out.1];omega) (by rw [HP2.out.1];exact hl) (by omega)
         rw [HP2.out.1] at hcall
         have HC2:=Lib.hid hcall
         clear hcall
         go_wp2_with fail
         try rw [heI]
         refine HC2.out.mono ?_
         rintro e' w3 ⟨rfl,hh2⟩
         have HS0W111:Hid (SrtI w0 g l3 w3):=Lib.hid (by rw [← HLL.out.2.2,if_pos (show mid < e∧e < b from ⟨x2,x2b⟩)];exact hh2)
         clear hh2 HC2
         go_wp2
         go_end0
         exact ⟨rfl,HS0W111.out⟩
        ·have x2I:(mid:Int) < (e:Int):=by omega
         have x2I':(mid:Int) < (mid:Int) + (m:Int) - (i:Int):=by omega
         have x2bI:¬ (e:Int) < (b:Int):=by omega
         have x2bI':¬ ((mid:Int) + (m:Int) - (i:Int) < (b:Int)):=by omega
         have HS0W111:Hid (SrtI w0 g l3 wx):=Lib.hid (by rw [← HLL.out.2.2,if_neg (show ¬ (mid < e∧e < b) from fun e=>x2b e.2)];exact HS0W11.out)
         go_wp2
         go_end0
         exact ⟨rfl,HS0W111.out⟩
       ·have x2I:¬ (mid:Int) < (e:Int):=by omega
        have x2I':¬ ((mid:Int) < (mid:Int) + (m:Int) - (i:Int)):=by omega
        have HS0W111:Hid (SrtI w0 g l3 wx):=Lib.hid (by rw [← HLL.out.2.2,if_neg (show ¬ (mid < e∧e < b) from fun e=>x2 e.1)];exact HS0W11.out)
        go_wp2
        go_end0
        exact ⟨rfl,HS0W111.out⟩
     ·have x1I:¬ (a:Int) < (i:Int):=by omega
      have HS0W11:Hid (SrtI w0 g l2 wx):=Lib.hid (by rw [← HLL.out.2.1,if_neg (show ¬ (a < i∧i < mid) from fun e=>x1 e.1)];exact HS0W1.out)
      by_cases x2:mid < e
      ·by_cases x2b:e < b
       ·have x2I:(mid:Int) < (e:Int):=by omega
        have x2I':(mid:Int) < (mid:Int) + (m:Int) - (i:Int):=by omega
        have x2bI:(e:Int) < (b:Int):=by omega
        have x2bI':(mid:Int) + (m:Int) - (i:Int) < (b:Int):=by omega
        have hcall:=HIH.out mid e b l2 wx HS0W11.out HP2.out.2 (by rw [HP2.out.1];exact hc) (by omega) (by omega) (by rw [HP2.out.1];omega) (by rw [HP2.out.1];exact hl) (by omega)
        rw [HP2.out.1] at hcall
        have HC2:=Lib.hid hcall
        clear hcall
        go_wp2_with fail
        try rw [heI]
        refine HC2.out.mono ?_
        rintro e' w3 ⟨rfl,hh2⟩
        have HS0W111:Hid (SrtI w0 g l3 w3):=Lib.hid (by rw [← HLL.out.2.2,if_pos (show mid < e∧e < b from ⟨x2,x2b⟩)];exact hh2)
        clear hh2 HC2
        go_wp2
        go_end0
        exact ⟨rfl,HS0W111.out⟩
       ·have x2I:(mid:Int) < (e:Int):=by omega
        have x2I':(mid:Int) < (mid:Int) + (m:Int) - (i:Int):=by omega
        have x2bI:¬ (e:Int) < (b:Int):=by omega
        have x2bI':¬ ((mid:Int) + (m:Int) - (i:Int) < (b:Int)):=by omega
        have HS0W111:Hid (SrtI w0 g l3 wx):=Lib.hid (by rw [← HLL.out.2.2,if_neg (show ¬ (mid < e∧e < b) from fun e=>x2b e.2)];exact HS0W11.out)
        go_wp2
        go_end0
        exact ⟨rfl,HS0W111.out⟩
      ·have x2I:¬ (mid:Int) < (e:Int):=by omega
       have x2I':¬ ((mid:Int) < (mid:Int) + (m:Int) - (i:Int)):=by omega
       have HS0W111:Hid (SrtI w0 g l3 wx):=Lib.hid (by rw [← HLL.out.2.2,if_neg (show ¬ (mid < e∧e < b) from fun e=>x2 e.1)];exact HS0W11.out)
       go_wp2
       go_end0
       exact ⟨rfl,HS0W111.out⟩
end Go.Proofs.YtoeaglpmkjoenaaGreat
