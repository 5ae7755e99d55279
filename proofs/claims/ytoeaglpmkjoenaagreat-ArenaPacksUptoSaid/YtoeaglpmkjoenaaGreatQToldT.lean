/-
  Chapter 21: slices.SortStableFunc at numbers. No condition.
-/
/-
  Chapter 05 and 10: a type's width, is a tensor whole, is a value a constant of its own type? No condition.
-/
/-
  Chapter 10: is a value, or a number, of a kind among a list? What is wrong with the inputs that say shapes? No condition.
-/
import Derived.Test.YtoeaglpmkjoenaaGreatQSrtY
import Derived.Test.YtoeaglpmkjoenaaGreatQInfK
import Derived.Test.YtoeaglpmkjoenaaGreatQSrtW
set_option linter.unusedSimpArgs false
set_option linter.unusedVariables false
namespace Go.Proofs.YtoeaglpmkjoenaaGreat
open Go.RowKit
open Rep (rep)
section
variable (c:Int→Int→Int)
theorem blkD_step {n k a e:Nat} {l:List Int} (he:e = a + 20) (h:e ≤ n):blkD c n (k + 1) a l = blkD c n k e (insD c a e l):=by
 subst he
 rw [blkD,if_pos h]
theorem blkD_last {n k a:Nat} {l:List Int} (h:¬ a + 20 ≤ n):blkD c n k a l = insD c a n l:=by
 cases k with
 | zero=>rfl
 | succ k=>rw [blkD,if_neg h]
theorem mrgD_step {n s k a e:Nat} {l:List Int} (he:e = a + 2 * s) (h:e ≤ n):mrgD c n s (k + 1) a l = mrgD c n s k e (symD c (2 * s) a (a + s) e l):=by
 subst he
 rw [mrgD,if_pos h]
theorem mrgD_end {n s k a:Nat} {l:List Int} (h:¬ a + 2 * s ≤ n):mrgD c n s (k + 1) a l = if a + s < n then symD c (n - a) a (a + s) n l else l:=by
 rw [mrgD,if_neg h]
theorem pasD_step {n k s:Nat} {l:List Int} (h:s < n):pasD c n (k + 1) s l = pasD c n k (2 * s) (mrgD c n s (n + 1) 0 l):=by
 rw [pasD,if_pos h]
theorem pasD_end {n k s:Nat} {l:List Int} (h:¬ s < n):pasD c n k s l = l:=by
 cases k with
 | zero=>rfl
 | succ k=>rw [pasD,if_neg h]
end
set_option maxRecDepth 100000 in
set_option maxHeartbeats 8000000 in
theorem stable_any (w0 w:World) (g cp kf:Nat) (cb:Array Value) (ok:Int→Prop) (c:Int→Int→Int) (l:List Int) (HCL:Hid (CmpLaw w0 g kf cb ok c)) (h:SrtI w0 g l w) (hok:∀ x ∈ l,ok x) (hc:l.length ≤ cp) (hc2:cp ≤ 9223372036854775807) (hl:l.length ≤ 100000) :
  Calls Tryz.prog 32 #[.slice (some ⟨g,0,none⟩) l.length cp,.int .i64 (l.length:Int),.func (.func kf) #[] cb] w fun e w'=>e = .returned (.tuple #[])∧SrtI w0 g (stabD c l) w':=by
 have HI:=Lib.hid (And.intro h hok)
 clear h hok
 obtain ⟨n,hn⟩:∃ n,l.length = n:=⟨_,rfl⟩
 obtain ⟨l1,hl1⟩:∃ l1,blkD c n n 0 l = l1:=⟨_,rfl⟩
 obtain ⟨l2,hl2⟩:∃ l2,pasD c n n 20 l1 = l2:=⟨_,rfl⟩
 have HST:Hid (stabD c l = l2):=Lib.hid (by unfold stabD;rw [hn,hl1,hl2])
 have HB:=Lib.hid (And.intro hl1 hl2)
 rw [hn] at hc hl ⊢
 have HN:=Lib.hid hn
 clear hn hl1 hl2
 go_enter Tryz.func32,Tryz.ntmps32
 go_wp2_with fail
 go_loopw [7,8] (fun x y wr=>∃ (a e k:Nat) (cur:List Int),x = .int .i64 a∧y = .int .i64 e∧a ≤ n∧e ≤ n + 20∧Hid (e = a + 20∧n - a ≤ k∧cur.Perm l∧blkD c n k a cur = l1∧SrtI w0 g cur wr)) (fun x _ _=>n - (intOf x).toNat)
 case atStart=>exact ⟨0,20,n,l,rfl,rfl,Nat.zero_le _,by omega,Lib.hid ⟨rfl,by omega,List.Perm.refl _,HB.out.1,HI.out.1⟩⟩
 case round =>
  obtain ⟨a,e,k,cur,rfl,rfl,q1,q1',HS⟩:=hrel
  obtain ⟨wx,rfl⟩:∃ wx,wx = wr:=⟨_,rfl⟩
  have HC:Hid (cur.length = n∧∀ x ∈ cur,ok x):=Lib.hid ⟨by rw [HS.out.2.2.1.length_eq];exact HN.out,fun x hx=>HI.out.2 x (HS.out.2.2.1.mem_iff.1 hx)⟩
  by_cases hle:e ≤ n
  ·have hleI:(e:Int) ≤ (n:Int):=by omega
   have hcall:=insertion_any w0 wx g cp a e kf cb ok c cur HCL HS.out.2.2.2.2 HC.out.2 (by rw [HC.out.1];exact hc) hc2 (by rw [HC.out.1];exact hle) (by rw [HC.out.1];omega) (by omega)
   rw [HC.out.1] at hcall
   have HK:=Lib.hid hcall
   clear hcall
   go_wp2_with fail
   refine HK.out.mono ?_
   rintro e' w1 ⟨rfl,h1⟩
   have H1:=Lib.hid h1
   clear h1 HK
   go_wp2
   go_roundw
   case rel =>
    obtain ⟨z0,z1,z2,z3,z4⟩:=HS.out
    obtain ⟨k',rfl⟩:∃ k',k = k' + 1:=⟨k - 1,by omega⟩
    refine ⟨e,e + 20,k',insD c a e cur,rfl,by go_num,hle,by omega,Lib.hid ⟨rfl,by omega,(insD_perm c (by rw [HC.out.1];exact hle)).trans z2,?_,H1.out⟩⟩
    rw [← z3,blkD_step c z0 hle]
   case measure=>have:=HS.out.1;simp [intOf];omega
  ·have hleI:¬ (e:Int) ≤ (n:Int):=by omega
   have hcall:=insertion_any w0 wx g cp a n kf cb ok c cur HCL HS.out.2.2.2.2 HC.out.2 (by rw [HC.out.1];exact hc) hc2 (by rw [HC.out.1];exact Nat.le_refl _) (by rw [HC.out.1];omega) (by omega)
   rw [HC.out.1,← blkD_last c (k:=k) (by have:=HS.out.1;omega),HS.out.2.2.2.1] at hcall
   have HK:=Lib.hid hcall
   have HP1:Hid (l1.Perm l):=Lib.hid (by rw [← HS.out.2.2.2.1,blkD_last c (by have:=HS.out.1;omega)];exact (insD_perm c (by rw [HC.out.1];exact Nat.le_refl _)).trans HS.out.2.2.1)
   clear hcall HS HC
   go_wp2_with fail
   refine HK.out.mono ?_
   rintro e' w1 ⟨rfl,h1⟩
   have H1:=Lib.hid h1
   clear h1 HK
   go_wp2_with fail
   obtain ⟨wz,rfl⟩:∃ wz,wz = wx:=⟨_,rfl⟩
   go_loopw [6] (fun x wr=>∃ (s k:Nat) (cur:List Int),x = .int .i64 s∧20 ≤ s∧s ≤ 200020∧Hid (n - s ≤ k∧cur.Perm l∧pasD c n k s cur = l2∧SrtI w0 g cur wr)) (fun x _=>n - (intOf x).toNat)
   case atStart=>exact ⟨20,n,l1,rfl,Nat.le_refl _,by omega,Lib.hid ⟨by omega,HP1.out,HB.out.2,H1.out⟩⟩
   case round =>
    clear H1
    obtain ⟨s,k,cur,rfl,s1,s2,HS⟩:=hrel
    obtain ⟨wx,rfl⟩:∃ wx,wx = wr:=⟨_,rfl⟩
    by_cases hlt:s < n
    ·have hltI:(s:Int) < (n:Int):=by omega
     obtain ⟨l3,hl3⟩:∃ l3,mrgD c n s (n + 1) 0 cur = l3:=⟨_,rfl⟩
     obtain ⟨s3,hs3⟩:∃ s3,2 * s = s3:=⟨_,rfl⟩
     have hs3I:(2:Int) * (s:Int) = (s3:Int):=by omega
     have hs3b:s3 ≤ 200000∧40 ≤ s3:=by omega
     have HS3:=Lib.hid hs3
     have HL3:=Lib.hid hl3
     clear hs3 hl3
     go_wp2_with fail
     obtain ⟨wy,rfl⟩:∃ wy,wy = wx:=⟨_,rfl⟩
     go_loopw [7,8] (fun x y wr=>∃ (a e k':Nat) (cur':List Int),x = .int .i64 a∧y = .int .i64 e∧a ≤ n∧e ≤ n + s3∧Hid (e = a + s3∧n + 1 - a ≤ k'∧cur'.Perm l∧mrgD c n s k' a cur' = l3∧SrtI w0 g cur' wr)) (fun x _ _=>n - (intOf x).toNat)
     case atStart=>exact ⟨0,s3,n + 1,cur,rfl,rfl,Nat.zero_le _,by omega,Lib.hid ⟨by omega,by omega,HS.out.2.1,HL3.out,HS.out.2.2.2⟩⟩
     case round =>
      obtain ⟨a,e,k',cur',rfl,rfl,q1,q1',HQ⟩:=hrel
      obtain ⟨wx,rfl⟩:∃ wx,wx = wr:=⟨_,rfl⟩
      have HC:Hid (cur'.length = n∧∀ x ∈ cur',ok x):=Lib.hid ⟨by rw [HQ.out.2.2.1.length_eq];exact HN.out,fun x hx=>HI.out.2 x (HQ.out.2.2.1.mem_iff.1 hx)⟩
      obtain ⟨m,hm⟩:∃ m,a + s = m:=⟨_,rfl⟩
      have hmI:(a:Int) + (s:Int) = (m:Int):=by omega
      have hm0:a < m:=by omega
      have hmb:m ≤ 300000:=by omega
      obtain ⟨k',rfl⟩:∃ k'',k' = k'' + 1:=⟨k' - 1,by have:=HQ.out.2.1;omega⟩
      have HM:=Lib.hid hm
      clear hm
      by_cases hle:e ≤ n
      ·have hleI:(e:Int) ≤ (n:Int):=by omega
       have hcall:=sym_any w0 g cp kf cb ok c HCL hc2 (2 * s) a m e cur' wx HQ.out.2.2.2.2 HC.out.2 (by rw [HC.out.1];exact hc) (by omega) (by have:=HQ.out.1;have:=HM.out;have:=HS3.out;omega) (by rw [HC.out.1];exact hle) (by rw [HC.out.1];omega) (by have:=HQ.out.1;have:=HS3.out;omega)
       rw [HC.out.1] at hcall
       have HK:=Lib.hid hcall
       clear hcall
       go_wp2_with fail
       refine HK.out.mono ?_
       rintro e' w1 ⟨rfl,h1⟩
       have H1:=Lib.hid h1
       clear h1 HK
       go_wp2
       go_roundw
       case rel =>
        obtain ⟨z0,z1,z2,z3,z4⟩:=HQ.out
        refine ⟨e,e + s3,k',symD c (2 * s) a m e cur',rfl,by go_num,hle,by omega,Lib.hid ⟨rfl,by omega,(symD_perm c _ _ _ _ _ (by omega) (by have:=HM.out;have:=HS3.out;omega) (by rw [HC.out.1];exact hle)).trans z2,?_,H1.out⟩⟩
        rw [← z3,← HM.out,mrgD_step c (e:=e) (by rw [z0,HS3.out]) hle]
       case measure=>have:=HQ.out.1;simp [intOf];omega
      ·have hleI:¬ (e:Int) ≤ (n:Int):=by omega
       have HED:=Lib.hid (mrgD_end c (n:=n) (s:=s) (k:=k') (a:=a) (l:=cur') (by have:=HQ.out.1;have:=HS3.out;omega))
       by_cases hmn:m < n
       ·have hmnI:(m:Int) < (n:Int):=by omega
        have hcall:=sym_any w0 g cp kf cb ok c HCL hc2 (n - a) a m n cur' wx HQ.out.2.2.2.2 HC.out.2 (by rw [HC.out.1];exact hc) (by omega) hmn (by rw [HC.out.1];exact Nat.le_refl _) (by rw [HC.out.1];omega) (Nat.le_refl _)
        rw [HC.out.1] at hcall
        have HE3:Hid (symD c (n - a) a m n cur' = l3):=Lib.hid (by rw [← HQ.out.2.2.2.1,HED.out,if_pos (by have:=HM.out;omega),HM.out])
        rw [HE3.out] at hcall
        have HP3:Hid (l3.Perm l):=Lib.hid (by rw [← HE3.out];exact (symD_perm c _ _ _ _ _ (by omega) hmn (by rw [HC.out.1];exact Nat.le_refl _)).trans HQ.out.2.2.1)
        have HK:=Lib.hid hcall
        clear hcall
        go_wp2_with fail
        refine HK.out.mono ?_
        rintro e' w1 ⟨rfl,h1⟩
        have H1:=Lib.hid h1
        clear h1 HK
        go_wp2
        go_roundw
        case rel =>
         obtain ⟨z0,z1,z2,z3⟩:=HS.out
         obtain ⟨k,rfl⟩:∃ k'',k = k'' + 1:=⟨k - 1,by omega⟩
         refine ⟨s3,k,l3,by first | rfl | go_num,by omega,by omega,Lib.hid ⟨by have:=HS3.out;omega,HP3.out,?_,H1.out⟩⟩
         rw [← z2,pasD_step c hlt,HL3.out,HS3.out]
        case measure=>have:=HS3.out;simp [intOf];omega
       ·have hmnI:¬ (m:Int) < (n:Int):=by omega
        have HE3:Hid (cur' = l3):=Lib.hid (by rw [← HQ.out.2.2.2.1,HED.out,if_neg (by have:=HM.out;omega)])
        have HP3:Hid (l3.Perm l):=Lib.hid (by rw [← HE3.out];exact HQ.out.2.2.1)
        have H1:Hid (SrtI w0 g l3 wx):=Lib.hid (by rw [← HE3.out];exact HQ.out.2.2.2.2)
        go_wp2
        go_roundw
        case rel =>
         obtain ⟨z0,z1,z2,z3⟩:=HS.out
         obtain ⟨k,rfl⟩:∃ k'',k = k'' + 1:=⟨k - 1,by omega⟩
         refine ⟨s3,k,l3,by first | rfl | go_num,by omega,by omega,Lib.hid ⟨by have:=HS3.out;omega,HP3.out,?_,H1.out⟩⟩
         rw [← z2,pasD_step c hlt,HL3.out,HS3.out]
        case measure=>have:=HS3.out;simp [intOf];omega
    ·have hltI:¬ (s:Int) < (n:Int):=by omega
     have HR:Hid (SrtI w0 g (stabD c l) wx):=Lib.hid (by rw [HST.out,← HS.out.2.2.1,pasD_end c hlt];exact HS.out.2.2.2)
     clear HS
     go_wp2
     go_end0
     exact ⟨rfl,HR.out⟩
set_option maxHeartbeats 4000000 in
theorem insertion_nil (A:Option Addr) (cp:Nat) (f:Value) (w:World):Calls Tryz.prog 55 #[.slice A 0 cp,.int .i64 0,.int .i64 0,f] w fun e w'=>e = .returned (.tuple #[])∧w' = w:=by
 go_enter Tryz.func55,Tryz.ntmps55
 go_wp2_with fail
 go_loop [8] (fun i=>i = .int .i64 1) (fun _=>0)
 case atStart=>rfl
 case round =>
  obtain rfl:=hrel
  go_wp2
  go_end0
  exact ⟨rfl,rfl⟩
set_option maxHeartbeats 4000000 in
theorem stable_nil (A:Option Addr) (cp:Nat) (f:Value) (w:World):Calls Tryz.prog 32 #[.slice A 0 cp,.int .i64 0,f] w fun e w'=>e = .returned (.tuple #[])∧w' = w:=by
 go_enter Tryz.func32,Tryz.ntmps32
 go_wp2_with fail
 go_loop [7,8] (fun x y=>x = .int .i64 0∧y = .int .i64 20) (fun _ _=>0)
 case atStart=>exact ⟨rfl,rfl⟩
 case round =>
  obtain ⟨rfl,rfl⟩:=hrel
  go_wp2_with fail
  refine (insertion_nil A cp f w).mono ?_
  rintro e w1 ⟨rfl,rfl⟩
  go_wp2_with fail
  go_loop [6] (fun x=>x = .int .i64 20) (fun _=>0)
  case atStart=>rfl
  case round =>
   obtain rfl:=hrel
   go_wp2
   go_end0
   exact ⟨rfl,rfl⟩
set_option maxHeartbeats 4000000 in
theorem sortStable_nil (A:Option Addr) (cp:Nat) (f:Value) (w:World):Calls Tryz.prog 14 #[.slice A 0 cp,f] w fun e w'=>e = .returned (.tuple #[])∧w' = w:=by
 go_enter Tryz.func14,Tryz.ntmps14
 go_wp2_with fail
 refine (stable_nil A cp f w).mono ?_
 rintro e w1 ⟨rfl,rfl⟩
 go_wp2
 go_end0
 exact ⟨rfl,rfl⟩
set_option maxHeartbeats 4000000 in
theorem sortStable_any (w0 w:World) (g cp kf:Nat) (cb:Array Value) (ok:Int→Prop) (c:Int→Int→Int) (l:List Int) (HCL:Hid (CmpLaw w0 g kf cb ok c)) (h:SrtI w0 g l w) (hok:∀ x ∈ l,ok x) (hc:l.length ≤ cp) (hc2:cp ≤ 9223372036854775807) (hl:l.length ≤ 100000) :
  Calls Tryz.prog 14 #[.slice (some ⟨g,0,none⟩) l.length cp,.func (.func kf) #[] cb] w fun e w'=>e = .returned (.tuple #[])∧SrtI w0 g (stabD c l) w':=by
 have HC:=Lib.hid (stable_any w0 w g cp kf cb ok c l HCL h hok hc hc2 hl)
 clear h hok
 obtain ⟨n,hn⟩:∃ n,l.length = n:=⟨_,rfl⟩
 rw [hn] at hc HC ⊢
 clear hn hl HCL
 go_enter Tryz.func14,Tryz.ntmps14
 go_wp2_with fail
 refine HC.out.mono ?_
 rintro e w1 ⟨rfl,h1⟩
 have H1:=Lib.hid h1
 clear h1
 go_wp2
 go_end0
 exact ⟨rfl,H1.out⟩
end Go.Proofs.YtoeaglpmkjoenaaGreat
set_option linter.unusedSimpArgs false
set_option linter.unusedVariables false
namespace Go.Proofs.YtoeaglpmkjoenaaGreat
open Go.RowKit
open Rep (rep)
def widthD (k:Int):Int:=if k = 1 then 4 else if k = 7 then 8 else if k = 9 then 1 else 0
theorem width_any (k:Int) (w:World):Calls Tryz.prog 50 #[.int .i64 k] w fun e w'=>e = .returned (.int .i64 (widthD k))∧w' = w:=by
 by_cases h1:k = 1
 ·subst h1
  go_enter Tryz.func50,Tryz.ntmps50
  go_wp2
  go_ret
  exact ⟨rfl,rfl⟩
 by_cases h7:k = 7
 ·subst h7
  go_enter Tryz.func50,Tryz.ntmps50
  go_wp2
  go_ret
  exact ⟨rfl,rfl⟩
 by_cases h9:k = 9
 ·subst h9
  go_enter Tryz.func50,Tryz.ntmps50
  go_wp2
  go_ret
  exact ⟨rfl,rfl⟩
 have hk:widthD k = 0:=by unfold widthD;rw [if_neg h1,if_neg h7,if_neg h9]
 rw [hk]
 have f1:(k == 1) = false:=beq_eq_false_iff_ne.2 h1
 have f7:(k == 7) = false:=beq_eq_false_iff_ne.2 h7
 have f9:(k == 9) = false:=beq_eq_false_iff_ne.2 h9
 clear h1 h7 h9 hk
 go_enter Tryz.func50,Tryz.ntmps50
 go_wp2
 go_ret
 exact ⟨rfl,rfl⟩
theorem width_pos {k:Int} (h:¬ widthD k = 0):0 < widthD k:=by
 unfold widthD at h ⊢
 split <;> (try split) <;> (try split) <;> simp_all
theorem tknown_any (k:Int) (w:World):Calls Tryz.prog 123 #[.int .i64 k] w fun e w'=>e = .returned (.bool (decide (widthD k > 0)))∧w' = w:=by
 go_enter Tryz.func123,Tryz.ntmps123
 go_wp2_with fail
 refine (width_any k _).mono ?_
 rintro e w1 ⟨rfl,rfl⟩
 obtain ⟨n,hn⟩:∃ n,widthD k = n:=⟨_,rfl⟩
 rw [hn]
 have HN:=Lib.hid hn
 clear hn
 go_wp2
 go_ret
 exact ⟨by rw [HN.out];rfl,rfl⟩
def tcheckV (ty:Int) (sz:Int × Int) (nf ni nb:Int):Int :=
 if widthD ty = 0 then 5
 else if sz.2 = 0 then
  if (if ty = 7 then ni else if ty = 9 then nb else nf) = sz.1 then if nf + ni + nb = sz.1 then 0 else 3 else 3
 else sz.2
def tcheckD (t:TensorD):Int:=tcheckV t.type (sizeD t.dims) t.f.length t.i.length t.b.length
theorem len_bnd {α:Type} [Rep α] {w:World} {Z:Zone} {A:Option Addr} {c:Nat} {l:List α} (h:rep w Z [.slice A l.length c] l):l.length * Rep.bytes α ≤ 140737488351232:=by
 obtain ⟨_,_,_,_,_,_,hb,_,_⟩:=open_slice h
 exact hb
set_option maxRecDepth 100000 in
set_option maxHeartbeats 8000000 in
theorem tcheck_any (cs:List Value) (t:TensorD) (w:World) (hr:rep w (old w.heap.size) cs t) :
  Calls Tryz.prog 93 #[.agg cs.toArray] w fun e w'=>e = .returned (.int .i64 (tcheckD t))∧Below w.heap.size w w':=by
 obtain ⟨A1,k1,A2,k2,A3,k3,A4,k4,rfl,htI,t1,t2,t3,t4⟩:=open_TensorD hr
 obtain ⟨b2,b2'⟩:=slice_bnd t2
 obtain ⟨b3,b3'⟩:=slice_bnd t3
 obtain ⟨b4,b4'⟩:=slice_bnd t4
 have m2:t.f.length * 4 ≤ 140737488351232:=len_bnd t2
 have m3:t.i.length * 8 ≤ 140737488351232:=len_bnd t3
 have m4:t.b.length * 1 ≤ 140737488351232:=len_bnd t4
 have HT:=Lib.hid t1
 have HD:Hid (tcheckD t = tcheckV t.type (sizeD t.dims) t.f.length t.i.length t.b.length):=Lib.hid rfl
 clear hr htI t1 t2 t3 t4
 have hw:=width_pos (k:=t.type)
 have hsz:=size_bd t.dims
 generalize t.type = ty at *
 generalize t.f.length = nf at *
 generalize t.i.length = ni at *
 generalize t.b.length = nb at *
 go_enter Tryz.func93,Tryz.ntmps93
 go_wp2_with (with_reducible refine wpList_box_row rfl 43 _ rfl [.int .i64 ty,.slice A1 t.dims.length k1,.slice A2 nf k2,.slice A3 ni k3,.slice A4 nb k4] rfl ?_;have hX:=box_start w 43 [.int .i64 ty,.slice A1 t.dims.length k1,.slice A2 nf k2,.slice A3 ni k3,.slice A4 nb k4];generalize World.alloc _ _ = W0 at hX ⊢;have HX:=Lib.hid hX;clear hX;refine halt ?_)
 unfold Halt
 have c0:=cell_row HX.out.row (j:=0) rfl
 have c1:=cell_row HX.out.row (j:=1) rfl
 have c2:=cell_row HX.out.row (j:=2) rfl
 have c3:=cell_row HX.out.row (j:=3) rfl
 have c4:=cell_row HX.out.row (j:=4) rfl
 go_wp2_with fail
 refine (tknown_any ty _).mono ?_
 rintro e w1 ⟨rfl,rfl⟩
 by_cases h0:widthD ty = 0
 ·have HZ:Hid (tcheckD t = 5):=Lib.hid (by rw [HD.out];unfold tcheckV;rw [if_pos h0])
  rw [h0]
  clear hw hsz
  go_wp2
  go_ret
  exact ⟨by rw [HZ.out];rfl,HX.out.below⟩
 ·have hp:widthD ty > 0:=hw h0
  replace HD:Hid (tcheckD t = if (sizeD t.dims).2 = 0 then if (if ty = 7 then (ni:Int) else if ty = 9 then (nb:Int) else (nf:Int)) = (sizeD t.dims).1 then if (nf:Int) + ni + nb = (sizeD t.dims).1 then 0 else 3 else 3 else (sizeD t.dims).2):=Lib.hid (by rw [HD.out];unfold tcheckV;rw [if_neg h0])
  rw [decide_eq_true hp]
  clear hp hw h0
  go_wp2_with fail
  refine (size_any t.dims A1 k1 _ (HX.out.keeps' HT.out)).mono ?_
  rintro e w2 ⟨rfl,rfl⟩
  generalize sizeD t.dims = sz at *
  obtain ⟨n,x⟩:=sz
  simp only at HD hsz ⊢
  by_cases hx:x = 0
  ·subst hx
   replace HD:Hid (tcheckD t = if (if ty = 7 then (ni:Int) else if ty = 9 then (nb:Int) else (nf:Int)) = n then if (nf:Int) + ni + nb = n then 0 else 3 else 3):=Lib.hid (by rw [HD.out,if_pos rfl])
   have HS:=Lib.hid hsz
   clear hsz
   by_cases h7:ty = 7
   ·subst h7
    replace HD:Hid (tcheckD t = if (ni:Int) = n then if (nf:Int) + ni + nb = n then 0 else 3 else 3):=Lib.hid (by rw [HD.out,if_pos rfl])
    by_cases e1:(ni:Int) = n
    ·by_cases e2:(nf:Int) + (ni:Int) + (nb:Int) = n
     ·replace HD:Hid (tcheckD t = 0):=Lib.hid (by rw [HD.out,if_pos e1,if_pos e2])
      go_wp2
      go_ret
      exact ⟨by rw [HD.out];rfl,HX.out.below⟩
     ·replace HD:Hid (tcheckD t = 3):=Lib.hid (by rw [HD.out,if_pos e1,if_neg e2])
      go_wp2
      go_ret
      exact ⟨by rw [HD.out];rfl,HX.out.below⟩
    ·replace HD:Hid (tcheckD t = 3):=Lib.hid (by rw [HD.out,if_neg e1])
     go_wp2
     go_ret
     exact ⟨by rw [HD.out];rfl,HX.out.below⟩
   ·by_cases h9:ty = 9
    ·subst h9
     replace HD:Hid (tcheckD t = if (nb:Int) = n then if (nf:Int) + ni + nb = n then 0 else 3 else 3):=Lib.hid (by rw [HD.out];rfl)
     by_cases e1:(nb:Int) = n
     ·by_cases e2:(nf:Int) + (ni:Int) + (nb:Int) = n
      ·replace HD:Hid (tcheckD t = 0):=Lib.hid (by rw [HD.out,if_pos e1,if_pos e2])
       go_wp2
       go_ret
       exact ⟨by rw [HD.out];rfl,HX.out.below⟩
      ·replace HD:Hid (tcheckD t = 3):=Lib.hid (by rw [HD.out,if_pos e1,if_neg e2])
       go_wp2
       go_ret
       exact ⟨by rw [HD.out];rfl,HX.out.below⟩
     ·replace HD:Hid (tcheckD t = 3):=Lib.hid (by rw [HD.out,if_neg e1])
      go_wp2
      go_ret
      exact ⟨by rw [HD.out];rfl,HX.out.below⟩
    ·replace HD:Hid (tcheckD t = if (nf:Int) = n then if (nf:Int) + ni + nb = n then 0 else 3 else 3):=Lib.hid (by rw [HD.out,if_neg h7,if_neg h9])
     have f7:(ty == 7) = false:=beq_eq_false_iff_ne.2 h7
     have f9:(ty == 9) = false:=beq_eq_false_iff_ne.2 h9
     clear h7 h9
     by_cases e1:(nf:Int) = n
     ·by_cases e2:(nf:Int) + (ni:Int) + (nb:Int) = n
      ·replace HD:Hid (tcheckD t = 0):=Lib.hid (by rw [HD.out,if_pos e1,if_pos e2])
       go_wp2
       go_ret
       exact ⟨by rw [HD.out];rfl,HX.out.below⟩
      ·replace HD:Hid (tcheckD t = 3):=Lib.hid (by rw [HD.out,if_pos e1,if_neg e2])
       go_wp2
       go_ret
       exact ⟨by rw [HD.out];rfl,HX.out.below⟩
     ·replace HD:Hid (tcheckD t = 3):=Lib.hid (by rw [HD.out,if_neg e1])
      go_wp2
      go_ret
      exact ⟨by rw [HD.out];rfl,HX.out.below⟩
  ·replace HD:Hid (tcheckD t = x):=Lib.hid (by rw [HD.out,if_neg hx])
   have hx':(x != 0) = true:=by simpa using hx
   clear hx hsz
   go_wp2
   go_ret
   exact ⟨by rw [HD.out];rfl,HX.out.below⟩
structure ValI (w:World) (cs:List Value) (v:ValD) (W:World):Prop where
 box:BoxInv w 45 cs W
 was:rep w (old w.heap.size) cs v
section
variable {w W W':World} {cs:List Value} {v:ValD}
theorem val_start (h:rep w (old w.heap.size) cs v):ValI w cs v (w.alloc (.cells cs.toArray 45)):=⟨box_start _ _ _,h⟩
theorem ValI.next (h:ValI w cs v W) (hb:Below W.heap.size W W'):ValI w cs v W':=⟨h.box.next hb,h.was⟩
theorem ValI.arg (h:ValI w cs v W):rep W (old W.heap.size) cs v:=h.box.keeps' h.was
theorem ValI.up (h:ValI w cs v W) {α:Type} [Rep α] {c:List Value} {x:α} (hr:rep w (old w.heap.size) c x):rep W (old W.heap.size) c x:=h.box.keeps' hr
theorem ValI.below (h:ValI w cs v W):Below w.heap.size w W:=h.box.below
theorem ValI.cell (h:ValI w cs v W) {j:Nat} {u:Value} (hu:cs[j]? = some u):W.cell? ⟨w.heap.size,j,none⟩ = some u:=cell_row h.box.row hu
theorem ValI.at (h:ValI w cs v W):At W w.heap.size 0 cs:=fun j u hu=>by rw [Nat.zero_add];exact h.cell hu
theorem ValI.size (h:ValI w cs v W):(Tryz.prog.info? 45).map (·.size) = some cs.length:=by rw [show cs.length = 8 from Rep.len h.was];kernel_rfl
end
def heldD (v:ValD):Bool:=v.const && decide (tcheckD v.t = 0) && decide (v.t.type = v.type) && decide (v.t.dims = v.dims)
set_option maxRecDepth 100000 in
set_option maxHeartbeats 8000000 in
theorem held_any (cs:List Value) (v:ValD) (w:World) (hr:rep w (old w.heap.size) cs v) :
  Calls Tryz.prog 71 #[.agg cs.toArray] w fun e w'=>e = .returned (.bool (heldD v))∧Below w.heap.size w w':=by
 have HR:=Lib.hid hr
 obtain ⟨A1,k1,A2,k2,A3,k3,A4,k4,A5,k5,rfl,hI,t1,tt⟩:=open_ValD hr
 obtain ⟨A2',k2',A3',k3',A4',k4',A5',k5',he,-,t2,-⟩:=open_TensorD tt
 simp only [List.cons.injEq,Value.slice.injEq,and_true,true_and] at he
 obtain ⟨⟨rfl,rfl⟩,-⟩:=he
 obtain ⟨b1,b1'⟩:=slice_bnd t1
 obtain ⟨b2,b2'⟩:=slice_bnd t2
 have HT:=Lib.hid (And.intro t1 (And.intro tt t2))
 clear hr hI t1 tt t2
 go_enter Tryz.func71,Tryz.ntmps71
 go_wp2_with (with_reducible refine wpList_box_row rfl 45 _ rfl [.int .i64 v.type,.slice A1 v.dims.length k1,.bool v.const,.int .i64 v.t.type,.slice A2 v.t.dims.length k2,.slice A3 v.t.f.length k3,.slice A4 v.t.i.length k4,.slice A5 v.t.b.length k5] rfl ?_;have hX:=val_start HR.out;generalize World.alloc _ _ = W0 at hX ⊢;have HX:=Lib.hid hX;clear hX;refine halt ?_)
 unfold Halt
 have HH:Hid (heldD v = (v.const && decide (tcheckD v.t = 0) && decide (v.t.type = v.type) && decide (v.t.dims = v.dims))):=Lib.hid rfl
 have c2:=HX.out.cell (j:=2) rfl
 cases hc:v.const with
 | false =>
  rw [hc] at c2
  replace HH:Hid (heldD v = false):=Lib.hid (by rw [HH.out,hc];rfl)
  clear hc
  go_wp2
  go_ret
  exact ⟨by rw [HH.out];rfl,HX.out.below⟩
 | true =>
  rw [hc] at c2
  replace HH:Hid (heldD v = (decide (tcheckD v.t = 0) && decide (v.t.type = v.type) && decide (v.t.dims = v.dims))):=Lib.hid (by rw [HH.out,hc];rfl)
  clear hc
  have HT3:Hid (At W0 w.heap.size 3 _):=Lib.hid (fun j u hu=>HX.out.cell (j:=3 + j) (by rw [Nat.add_comm];exact hu):At W0 w.heap.size 3 [.int .i64 v.t.type,.slice A2 v.t.dims.length k2,.slice A3 v.t.f.length k3,.slice A4 v.t.i.length k4,.slice A5 v.t.b.length k5])
  go_wp2_with (with_reducible refine wpList_load_agg_w (by kernel_rfl) 43 _ rfl _ _ _ rfl [.int .i64 v.t.type,.slice A2 v.t.dims.length k2,.slice A3 v.t.f.length k3,.slice A4 v.t.i.length k4,.slice A5 v.t.b.length k5] Tryz.underlying43 rfl (by kernel_rfl) (HT3.out) ?_)
  refine (tcheck_any _ v.t _ (HX.out.up HT.out.2.1)).mono ?_
  rintro e w1 ⟨rfl,hb⟩
  replace HX:=Lib.hid (HX.out.next hb)
  clear hb c2 HT3
  have c0:=HX.out.cell (j:=0) rfl
  have c1:=HX.out.cell (j:=1) rfl
  have c3:=HX.out.cell (j:=3) rfl
  have c4:=HX.out.cell (j:=4) rfl
  generalize tcheckD v.t = x at HH ⊢
  by_cases hx:x = 0
  ·subst hx
   replace HH:Hid (heldD v = (decide (v.t.type = v.type) && decide (v.t.dims = v.dims))):=Lib.hid (by rw [HH.out];rfl)
   by_cases ht:v.t.type = v.type
   ·replace HH:Hid (heldD v = decide (v.t.dims = v.dims)):=Lib.hid (by rw [HH.out,decide_eq_true ht];rfl)
    go_wp2_with fail
    refine (equalInts_any v.t.dims v.dims A2 A1 k2 k1 _ (HX.out.up HT.out.2.2) (HX.out.up HT.out.1)).mono ?_
    rintro e w2 ⟨rfl,n,rfl⟩
    go_wp2
    go_ret
    exact ⟨by rw [HH.out];rfl,below_drews HX.out.below _⟩
   ·replace HH:Hid (heldD v = false):=Lib.hid (by rw [HH.out,decide_eq_false ht];rfl)
    go_wp2
    go_ret
    exact ⟨by rw [HH.out];rfl,HX.out.below⟩
  ·replace HH:Hid (heldD v = false):=Lib.hid (by rw [HH.out,decide_eq_false hx];rfl)
   have hx':(x == 0) = false:=beq_eq_false_iff_ne.2 hx
   clear hx
   go_wp2
   go_ret
   exact ⟨by rw [HH.out];rfl,HX.out.below⟩
end Go.Proofs.YtoeaglpmkjoenaaGreat
set_option linter.unusedSimpArgs false
set_option linter.unusedVariables false
namespace Go.Proofs.YtoeaglpmkjoenaaGreat
open Go.RowKit
open Rep (rep)
set_option maxRecDepth 100000 in
set_option maxHeartbeats 8000000 in
theorem indexVals_any (l:List ValD) (v:Value) (k:Nat) (p:ValD→Bool) (w:World) (hk:∀ args W,(callFunc k args).run Tryz.prog W = .ok (.enter k args) W) (hr:rep w (old w.heap.size) [v] l)
  (hf:∀ x ∈ l,∀ cs W,Below w.heap.size w W→rep W (old W.heap.size) cs x→Calls Tryz.prog k #[.agg cs.toArray] W fun e W'=>e = .returned (.bool (p x))∧Below W.heap.size W W') :
  Calls Tryz.prog 92 #[v,.func (.func k) #[] #[]] w fun e w'=>e = .returned (.int .i64 (indexFrom p l 0))∧Below w.heap.size w w':=by
 obtain ⟨A,c,xs,rfl,hnc,hcm,_,hl,hch⟩:=open_slice hr
 clear hr
 have HL:=Lib.hid (And.intro hl hch)
 clear hl hch
 have HF:=Lib.hid hf
 clear hf
 have HK:=Lib.hid hk
 clear hk
 go_enter Tryz.func92,Tryz.ntmps92
 go_wp2_with fail
 go_loopw [8] (fun i wr=>∃ pre post:List ValD,l = pre++post∧i = .int .i64 pre.length∧indexFrom p l 0 = indexFrom p post pre.length∧Below w.heap.size w wr)
  (fun i _=>l.length - (intOf i).toNat)
 case atStart=>exact ⟨[],l,rfl,rfl,rfl,Below.refl _ _⟩
 case round =>
  obtain ⟨pre,post,hpp,rfl,hix,hs⟩:=hrel
  cases post with
  | cons z post =>
   obtain ⟨hz,hlt,hpp',hpl⟩:=split_at hpp
   obtain ⟨b',o,zc,rfl,hbB,hrz,hcell⟩:=elem_at HL.out.1 HL.out.2 (by decide) hz
   have hat:At wr b' (o + pre.length * 8) zc:=fun j u hu=>by rw [Nat.add_assoc];exact (hs.cell (p:=⟨b',o + (pre.length * 8 + j),none⟩) hbB).trans (hcell j u hu).1
   have hr':rep wr (old wr.heap.size) zc z:=Rep.more (Rep.keep hrz (Keeps.old_below hs (Nat.le_refl _))) (old_le hs.size)
   have hv8:=val_facts hrz
   have HA:=Lib.hid (And.intro hat (show (Tryz.prog.info? 45).map (·.size) = some zc.length by rw [hv8.1];kernel_rfl))
   have H:=Lib.hid (And.intro hpp' (And.intro hpl (And.intro hix hs)))
   have HC:=Lib.hid (HF.out z (List.mem_of_getElem? hz) zc wr hs hr')
   have hk0:(0:Int) ≤ (pre.length:Int):=Int.natCast_nonneg _
   have hk1:(pre.length:Int) < (l.length:Int):=by omega
   clear hcell hpp hpp' hpl hz hix hs hat hr' hrz hv8
   go_wp2_with (with_reducible refine wpList_load_agg rfl 45 _ rfl _ _ _ rfl zc Tryz.underlying45 rfl HA.out.2 HA.out.1 ?_)
   rw [HK.out,Oper.upon_enter]
   refine HC.out.mono ?_
   rintro e w1 ⟨rfl,hb⟩
   have HB:=Lib.hid (H.out.2.2.2.trans (hb.mono H.out.2.2.2.size))
   clear hb
   cases hd:p z with
   | true =>
    have HD:=Lib.hid hd
    clear hd
    go_wp2
    go_ret
    obtain ⟨_,_,hix,_⟩:=H.out
    refine ⟨?_,HB.out⟩
    rw [hix,indexFrom,HD.out]
    rfl
   | false =>
    have HD:=Lib.hid hd
    clear hd
    go_wp2
    go_roundw
    case rel =>
     obtain ⟨hpp',hpl,hix,_⟩:=H.out
     refine ⟨pre++[z],post,hpp',by rw [hpl];go_num,?_,HB.out⟩
     rw [hix,indexFrom,HD.out,hpl]
     rfl
    case measure=>simp [intOf];omega
  | nil =>
   obtain ⟨hge,hpl⟩:=split_end hpp
   have H:=Lib.hid (And.intro hix hs)
   clear hpl hpp hix hs
   go_wp2
   go_ret
   refine ⟨?_,H.out.2⟩
   rw [H.out.1]
   rfl
set_option maxRecDepth 100000 in
set_option maxHeartbeats 8000000 in
theorem containsVals_any (l:List ValD) (v:Value) (k:Nat) (p:ValD→Bool) (w:World) (hk:∀ args W,(callFunc k args).run Tryz.prog W = .ok (.enter k args) W) (hr:rep w (old w.heap.size) [v] l)
  (hf:∀ x ∈ l,∀ cs W,Below w.heap.size w W→rep W (old W.heap.size) cs x→Calls Tryz.prog k #[.agg cs.toArray] W fun e W'=>e = .returned (.bool (p x))∧Below W.heap.size W W') :
  Calls Tryz.prog 69 #[v,.func (.func k) #[] #[]] w fun e w'=>e = .returned (.bool (l.any p))∧Below w.heap.size w w':=by
 go_enter Tryz.func69,Tryz.ntmps69
 go_wp2_with fail
 refine (indexVals_any l v k p w hk hr hf).mono ?_
 rintro e w1 ⟨rfl,hs⟩
 have H:=Lib.hid (indexFrom_any p l 0)
 generalize indexFrom p l 0 = k at *
 go_wp2
 go_ret
 exact ⟨by rw [← H.out];rfl,hs⟩
set_option maxRecDepth 100000 in
set_option maxHeartbeats 8000000 in
theorem told1_any (cs:List Value) (v:ValD) (w:World) (hr:rep w (old w.heap.size) cs v) :
  Calls Tryz.prog 134 #[.agg cs.toArray] w fun e w'=>e = .returned (.bool (!heldD v))∧Below w.heap.size w w':=by
 go_enter Tryz.func134,Tryz.ntmps134
 go_wp2_with (with_reducible refine wpList_box_row rfl 45 _ rfl cs rfl ?_;have hX:=val_start hr;generalize World.alloc _ _ = W0 at hX ⊢;have HX:=Lib.hid hX;clear hX;refine halt ?_)
 unfold Halt
 go_wp2_with (with_reducible refine wpList_load_agg rfl 45 _ rfl _ _ _ rfl cs Tryz.underlying45 rfl HX.out.size HX.out.at ?_)
 refine (held_any cs v _ HX.out.arg).mono ?_
 rintro e w1 ⟨rfl,hb⟩
 have H:=Lib.hid (HX.out.next hb).below
 clear hb
 go_wp2
 go_ret
 exact ⟨rfl,H.out⟩
set_option maxRecDepth 100000 in
set_option maxHeartbeats 8000000 in
theorem given1_any (cs:List Value) (v:ValD) (w:World) (hr:rep w (old w.heap.size) cs v) :
  Calls Tryz.prog 70 #[.agg cs.toArray] w fun e w'=>e = .returned (.bool (v.const && !heldD v))∧Below w.heap.size w w':=by
 obtain ⟨A1,k1,A2,k2,A3,k3,A4,k4,A5,k5,hcs,-⟩:=open_ValD hr
 have h2:cs[2]? = some (.bool v.const):=by rw [hcs];rfl
 clear hcs
 go_enter Tryz.func70,Tryz.ntmps70
 go_wp2_with (with_reducible refine wpList_box_row rfl 45 _ rfl cs rfl ?_;have hX:=val_start hr;generalize World.alloc _ _ = W0 at hX ⊢;have HX:=Lib.hid hX;clear hX;refine halt ?_)
 unfold Halt
 have c2:=HX.out.cell h2
 cases hc:v.const with
 | false =>
  rw [hc] at c2
  go_wp2
  go_ret
  exact ⟨by rw [hc];rfl,HX.out.below⟩
 | true =>
  rw [hc] at c2
  go_wp2_with (with_reducible refine wpList_load_agg_w (by kernel_rfl) 45 _ rfl _ _ _ rfl cs Tryz.underlying45 rfl HX.out.size HX.out.at ?_)
  refine (held_any cs v _ HX.out.arg).mono ?_
  rintro e w1 ⟨rfl,hb⟩
  have H:=Lib.hid (HX.out.next hb).below
  clear hb c2
  go_wp2
  go_ret
  exact ⟨by rw [hc];rfl,H.out⟩
set_option maxRecDepth 100000 in
set_option maxHeartbeats 8000000 in
theorem told2_any (cs:List Value) (v:ValD) (w:World) (hr:rep w (old w.heap.size) cs v) :
  Calls Tryz.prog 135 #[.agg cs.toArray] w fun e w'=>e = .returned (.bool ((v.dims.length:Int) != 1))∧Below w.heap.size w w':=by
 obtain ⟨A1,k1,A2,k2,A3,k3,A4,k4,A5,k5,hcs,-,h1,-⟩:=open_ValD hr
 obtain ⟨b1,b1'⟩:=slice_bnd h1
 have h2:cs[1]? = some (.slice A1 v.dims.length k1):=by rw [hcs];rfl
 clear hcs h1
 go_enter Tryz.func135,Tryz.ntmps135
 go_wp2_with (with_reducible refine wpList_box_row rfl 45 _ rfl cs rfl ?_;have hX:=val_start hr;generalize World.alloc _ _ = W0 at hX ⊢;have HX:=Lib.hid hX;clear hX;refine halt ?_)
 unfold Halt
 have c2:=HX.out.cell h2
 go_wp2
 go_ret
 exact ⟨rfl,HX.out.below⟩
theorem told31_any (x:Int) (w:World):Calls Tryz.prog 138 #[.int .i64 x] w fun e w'=>e = .returned (.bool (decide (x > 4096)))∧w' = w:=by
 go_enter Tryz.func138,Tryz.ntmps138
 go_wp2
 go_ret
 exact ⟨rfl,rfl⟩
set_option maxRecDepth 100000 in
set_option maxHeartbeats 8000000 in
theorem indexI64s_any (l:List Int) (v:Value) (k:Nat) (p:Int→Bool) (S:World→Prop) (w:World) (hk:∀ args W,(callFunc k args).run Tryz.prog W = .ok (.enter k args) W) (hr:rep w (old w.heap.size) [v] l) (hS:S w) (hB:∀ W,S W→Below w.heap.size w W)
  (hf:∀ x ∈ l,I64 x→∀ W,S W→Calls Tryz.prog k #[.int .i64 x] W fun e W'=>e = .returned (.bool (p x))∧S W') :
  Calls Tryz.prog 157 #[v,.func (.func k) #[] #[]] w fun e w'=>e = .returned (.int .i64 (indexFrom p l 0))∧S w':=by
 obtain ⟨A,c,xs,rfl,hnc,hcm,_,hl,hch⟩:=open_slice hr
 clear hr
 have HF:=Lib.hid (And.intro hf hB)
 clear hf hB
 have HK:=Lib.hid hk
 clear hk
 go_enter Tryz.func157,Tryz.ntmps157
 go_wp2_with fail
 go_loopw [8] (fun i wr=>∃ pre post:List Int,l = pre++post∧i = .int .i64 pre.length∧indexFrom p l 0 = indexFrom p post pre.length∧S wr)
  (fun i _=>l.length - (intOf i).toNat)
 case atStart=>exact ⟨[],l,rfl,rfl,rfl,hS⟩
 case round =>
  obtain ⟨pre,post,hpp,rfl,hix,hs⟩:=hrel
  cases post with
  | cons z post =>
   obtain ⟨hz,hlt,hpp',hpl⟩:=split_at hpp
   obtain ⟨b',o,cs,rfl,hbB,⟨rfl,hz64⟩,hcell⟩:=elem_at hl hch (by decide) hz
   have c0:=((HF.out.2 _ hs).cell (p:=⟨b',o + (pre.length * Rep.size Int + 0),none⟩) hbB).trans (hcell 0 _ rfl).1
   rw [show o + (pre.length * Rep.size Int + 0) = o + pre.length from by simp [Rep.size]] at c0
   have H:=Lib.hid (And.intro hpp' (And.intro hpl hix))
   have HC:=Lib.hid (HF.out.1 z (List.mem_of_getElem? hz) hz64 wr hs)
   clear hcell hl hch hpp hpp' hpl hz hix hs hz64
   cases hd:p z with
   | true =>
    have HD:=Lib.hid hd
    clear hd
    go_wp2_with fail
    rw [HK.out,Oper.upon_enter]
    refine HC.out.mono ?_
    rw [HD.out]
    rintro e w1 ⟨rfl,hs1⟩
    go_wp2
    go_ret
    obtain ⟨_,_,hix⟩:=H.out
    refine ⟨?_,hs1⟩
    rw [hix,indexFrom,HD.out]
    rfl
   | false =>
    have HD:=Lib.hid hd
    clear hd
    go_wp2_with fail
    rw [HK.out,Oper.upon_enter]
    refine HC.out.mono ?_
    rw [HD.out]
    rintro e w1 ⟨rfl,hs1⟩
    go_wp2
    go_roundw
    case rel =>
     obtain ⟨hpp',hpl,hix⟩:=H.out
     exact ⟨pre++[z],post,hpp',by rw [hpl];go_num,by rw [hix,indexFrom,HD.out,hpl];rfl,hs1⟩
    case measure=>simp [intOf];omega
  | nil =>
   obtain ⟨hge,hpl⟩:=split_end hpp
   have H:=Lib.hid (And.intro hix hs)
   clear hpl hpp hl hch hix hs
   go_wp2
   go_ret
   exact ⟨by rw [H.out.1];rfl,H.out.2⟩
set_option maxRecDepth 100000 in
set_option maxHeartbeats 8000000 in
theorem containsI64s_any (l:List Int) (v:Value) (k:Nat) (p:Int→Bool) (S:World→Prop) (w:World) (hk:∀ args W,(callFunc k args).run Tryz.prog W = .ok (.enter k args) W) (hr:rep w (old w.heap.size) [v] l) (hS:S w) (hB:∀ W,S W→Below w.heap.size w W)
  (hf:∀ x ∈ l,I64 x→∀ W,S W→Calls Tryz.prog k #[.int .i64 x] W fun e W'=>e = .returned (.bool (p x))∧S W') :
  Calls Tryz.prog 137 #[v,.func (.func k) #[] #[]] w fun e w'=>e = .returned (.bool (l.any p))∧S w':=by
 go_enter Tryz.func137,Tryz.ntmps137
 go_wp2_with fail
 refine (indexI64s_any l v k p S w hk hr hS hB hf).mono ?_
 rintro e w1 ⟨rfl,hs⟩
 have H:=Lib.hid (indexFrom_any p l 0)
 generalize indexFrom p l 0 = k at *
 go_wp2
 go_ret
 exact ⟨by rw [← H.out];rfl,hs⟩
end Go.Proofs.YtoeaglpmkjoenaaGreat
