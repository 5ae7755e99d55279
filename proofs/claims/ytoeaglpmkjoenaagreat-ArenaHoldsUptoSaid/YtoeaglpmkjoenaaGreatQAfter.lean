/-
  Chapter 21: arena.Check: may values lie so? No condition.
-/
/-
  Chapter 21: what may be said of where values lie. No program in sight.
-/
/-
  Chapter 20: how many bytes a value takes; the tasks that a node needs. No condition.
-/
import Derived.Test.YtoeaglpmkjoenaaGreatQArnM
import Derived.Test.YtoeaglpmkjoenaaGreatQArnQ
set_option linter.unusedSimpArgs false
set_option linter.unusedVariables false
namespace Go.Proofs.YtoeaglpmkjoenaaGreat
open Go.RowKit
open Rep (rep)
def InsD (p:PlanD) (at_:List Int) (size:Int) (i:Nat):Prop:=0 ≤ atD at_ i∧atD at_ i % 8 = 0∧¬ atD at_ i > size∧¬ szAt p i > size - atD at_ i
def OffP (p:PlanD) (at_:List Int) (i k:Nat):Prop:=0 < szAt p i→0 < szAt p k→atD at_ i < atD at_ k + szAt p k→atD at_ k < atD at_ i + szAt p i→¬ ApartD p i k
def CheckD (p:PlanD) (at_:List Int) (size:Int):Prop:=at_.length = p.size.length∧(∀ i,i < p.size.length→InsD p at_ size i)∧∀ i,i < p.size.length→∀ k,k < i→OffP p at_ i k
def ChkB (p:PlanD) (at_:List Int) (size:Int) (b:Bool):Prop:=b = true ↔ CheckD p at_ size
theorem chkB_no {p:PlanD} {at_:List Int} {size:Int} (h:¬ CheckD p at_ size):ChkB p at_ size false:=⟨fun e=>(by cases e),fun e=>absurd e h⟩
theorem ints_lie {w:World} {A:Option Addr} {k:Nat} {l:List Int} (hr:rep w (old w.heap.size) [.slice A l.length k] l):∀ j,j < l.length→I64 (atD l j)∧∃ b o,A = some ⟨b,o,none⟩∧b < w.heap.size∧w.cell? ⟨b,o + j,none⟩ = some (.int .i64 (atD l j)):=fun j hj=>by
 have hget:l[j]? = some (atD l j):=by
  unfold atD
  rw [List.getD_eq_getElem?_getD,List.getElem?_eq_getElem hj]
  rfl
 obtain ⟨h64,b,o,e,hb,kz⟩:=int_at hr hget
 exact ⟨h64,b,o,e,hb,kz⟩
set_option maxRecDepth 100000 in
set_option maxHeartbeats 8000000 in
theorem arenaCheck_any (cs:List Value) (p:PlanD) (A:Option Addr) (c:Nat) (at_:List Int) (size:Int) (w:World) (hr:rep w (old w.heap.size) cs p) (hs:PlanB p) (hok:SizesOk p) (ha:rep w (old w.heap.size) [.slice A at_.length c] at_) (hsz:I64 size) :
  Calls Tryz.prog 9 #[.agg cs.toArray,.slice A at_.length c,.int .i64 size] w (BoolP w (ChkB p at_ size)):=by
 obtain ⟨A6,k6,h5,n6,n6',r6,h6⟩:=sizes_lie hr
 obtain ⟨na,na'⟩:=slice_bnd ha
 have HC:=Lib.hid (And.intro h5 (And.intro h6 (And.intro (ints_lie ha) hok)))
 have HR:=Lib.hid (And.intro hr hs)
 obtain ⟨n,hn⟩:∃ n,p.size.length = n:=⟨_,rfl⟩
 obtain ⟨m,hm⟩:∃ m,at_.length = m:=⟨_,rfl⟩
 have hn4:n ≤ 4096:=by rw [← hn];exact hok.1
 rw [hn,hm] at HC
 rw [hn] at n6
 rw [hm] at na ⊢
 have HN:=Lib.hid (And.intro hn hm)
 unfold I64 at hsz
 clear h5 r6 h6 hr hs hn hm ha hok
 go_enter Tryz.func9,Tryz.ntmps9
 go_wp2_with (with_reducible refine wpList_box_row rfl 30 _ rfl cs rfl ?_;have hX:=plan_start HR.out.1;generalize World.alloc _ _ = W0 at hX ⊢;have HX:=Lib.hid hX;clear hX;refine halt ?_)
 unfold Halt
 have c5:=HX.out.cell HC.out.1
 by_cases hmn:m = n
 ·subst hmn
  go_wp2_with fail
  clear c5
  go_loop [21] (fun i=>∃ k:Nat,i = .int .i64 k∧k ≤ m∧Hid (∀ q,q < k→InsD p at_ size q)) (fun i=>m - (intOf i).toNat)
  case atStart=>exact ⟨0,rfl,Nat.zero_le _,Lib.hid (fun q hq=>by omega)⟩
  case round =>
   obtain ⟨k,rfl,hk,HS⟩:=hrel
   have hk0:(0:Int) ≤ (k:Int):=Int.natCast_nonneg _
   by_cases hlt:k < m
   ·have hlt':(k:Int) < (m:Int):=by omega
    obtain ⟨x64,b,o,rfl,hb,kx⟩:=HC.out.2.2.1 k hlt
    obtain ⟨b6,o6,e6,hb6,ks⟩:=HC.out.2.1 k hlt
    have kx':=HX.out.old2 (show b < w.heap.size from hb) kx
    have ks':=HX.out.old2 (show b6 < w.heap.size from hb6) ks
    have c5:=HX.out.cell HC.out.1
    obtain ⟨s1,s2⟩:=sizes_bd HC.out.2.2.2 k
    obtain ⟨x,hx⟩:∃ x,atD at_ k = x:=⟨_,rfl⟩
    obtain ⟨sk,hsk⟩:∃ s,szAt p k = s:=⟨_,rfl⟩
    rw [hx] at kx' x64
    rw [hsk] at ks' s1 s2
    rw [e6] at c5
    have HI:Hid (InsD p at_ size k ↔ 0 ≤ x∧x % 8 = 0∧¬ x > size∧¬ sk > size - x):=Lib.hid (by unfold InsD;rw [hx,hsk])
    unfold I64 at x64
    clear hb kx hb6 ks hx hsk
    by_cases h1:x < 0
    ·have HNO:Hid (¬ CheckD p at_ size):=Lib.hid fun h=>by have:=(HI.out.1 (h.2.1 k (by rw [HN.out.1];exact hlt))).1;omega
     go_wp2
     go_ret
     exact ⟨false,rfl,HX.out.below,chkB_no HNO.out⟩
    have h1':0 ≤ x:=by omega
    by_cases h2:x % 8 = 0
    ·have h2':(x % 8 != 0) = false:=by simpa using h2
     have H2:=Lib.hid h2
     clear h2
     by_cases h3:x > size
     ·have HNO:Hid (¬ CheckD p at_ size):=Lib.hid fun h=>(HI.out.1 (h.2.1 k (by rw [HN.out.1];exact hlt))).2.2.1 h3
      go_wp2
      go_ret
      exact ⟨false,rfl,HX.out.below,chkB_no HNO.out⟩
     ·by_cases h4:sk > size - x
      ·have HNO:Hid (¬ CheckD p at_ size):=Lib.hid fun h=>(HI.out.1 (h.2.1 k (by rw [HN.out.1];exact hlt))).2.2.2 h4
       go_wp2
       go_ret
       exact ⟨false,rfl,HX.out.below,chkB_no HNO.out⟩
      ·have HY:=Lib.hid (HI.out.2 ⟨h1',H2.out,h3,h4⟩)
       go_wp2
       go_round
       case rel =>
        refine ⟨k + 1,by go_num,by omega,Lib.hid (fun q hq=>?_)⟩
        by_cases e:q = k
        ·rw [e];exact HY.out
        ·exact HS.out q (by omega)
       case measure=>simp [intOf];omega
    ·have h2':(x % 8 != 0) = true:=by simpa using h2
     have HNO:Hid (¬ CheckD p at_ size):=Lib.hid fun h=>h2 (HI.out.1 (h.2.1 k (by rw [HN.out.1];exact hlt))).2.1
     clear h2
     go_wp2
     go_ret
     exact ⟨false,rfl,HX.out.below,chkB_no HNO.out⟩
   ·have hlt':¬ (k:Int) < (m:Int):=by omega
    have HIN:Hid (∀ q,q < m→InsD p at_ size q):=Lib.hid (fun q hq=>HS.out q (by omega))
    clear HS hk hk0
    go_wp2_with fail
    go_loopw [52] (fun i wr=>∃ k:Nat,i = .int .i64 k∧k ≤ m∧Hid (PlanI w cs p wr∧∀ q,q < k→∀ r,r < q→OffP p at_ q r)) (fun i _=>m - (intOf i).toNat)
    case atStart=>exact ⟨0,rfl,Nat.zero_le _,Lib.hid ⟨HX.out,fun q hq=>by omega⟩⟩
    case round =>
     obtain ⟨k,rfl,hk,HS⟩:=hrel
     obtain ⟨wx,rfl⟩:∃ wx,wx = wr:=⟨_,rfl⟩
     have hk0:(0:Int) ≤ (k:Int):=Int.natCast_nonneg _
     by_cases hlt:k < m
     ·have hlt':(k:Int) < (m:Int):=by omega
      obtain ⟨x64,b,o,rfl,hb,kx⟩:=HC.out.2.2.1 k hlt
      have hb':b < w.heap.size:=hb
      have HKX:=Lib.hid (And.intro hb' kx)
      have kx':=HS.out.1.old2 hb' kx
      obtain ⟨x,hx⟩:∃ x,atD at_ k = x:=⟨_,rfl⟩
      rw [hx] at kx' x64
      have HXX:=Lib.hid hx
      have hkc:k ≤ c:=by omega
      unfold I64 at x64
      clear hb hb' kx hx
      go_wp2_with fail
      clear kx'
      go_loopw [61] (fun i wr=>∃ q:Nat,i = .int .i64 q∧q ≤ k∧Hid (PlanI w cs p wr∧∀ r,r < q→OffP p at_ k r)) (fun i _=>k - (intOf i).toNat)
      case atStart=>exact ⟨0,rfl,Nat.zero_le _,Lib.hid ⟨HS.out.1,fun r hr=>by omega⟩⟩
      case round =>
       obtain ⟨q,rfl,hq,HT⟩:=hrel
       obtain ⟨wy,rfl⟩:∃ wy,wy = wr:=⟨_,rfl⟩
       have hq0:(0:Int) ≤ (q:Int):=Int.natCast_nonneg _
       by_cases hqk:q < k
       ·have hqk':(q:Int) < (k:Int):=by omega
        obtain ⟨y64,b',o',e',hb',ky⟩:=HC.out.2.2.1 q (by omega)
        injection e' with e'
        injection e' with e1 e2
        subst e1 e2
        have ky':=HT.out.1.old2 (show b < w.heap.size from hb') ky
        obtain ⟨b6,o6,rfl,hb6,ks⟩:=HC.out.2.1 k hlt
        obtain ⟨b7,o7,e7,hb7,kt⟩:=HC.out.2.1 q (by omega)
        injection e7 with e7
        injection e7 with e1 e2
        subst e1 e2
        have ks':=HT.out.1.old2 (show b6 < w.heap.size from hb6) ks
        have kt':=HT.out.1.old2 (show b6 < w.heap.size from hb7) kt
        have c5:=HT.out.1.cell HC.out.1
        obtain ⟨s1,s2⟩:=sizes_bd HC.out.2.2.2 k
        obtain ⟨t1,t2⟩:=sizes_bd HC.out.2.2.2 q
        obtain ⟨i1,-,i3,i4⟩:=HIN.out k hlt
        obtain ⟨j1,-,j3,j4⟩:=HIN.out q (by omega)
        rw [HXX.out] at i1 i3 i4
        obtain ⟨y,hy⟩:∃ y,atD at_ q = y:=⟨_,rfl⟩
        obtain ⟨sk,hsk⟩:∃ s,szAt p k = s:=⟨_,rfl⟩
        obtain ⟨sq,hsq⟩:∃ s,szAt p q = s:=⟨_,rfl⟩
        rw [hy] at ky' j1 j3 j4
        rw [hsk] at ks' s1 s2 i4
        rw [hsq] at kt' t1 t2 j4
        have HO:Hid (OffP p at_ k q ↔ (0 < sk→0 < sq→x < y + sq→y < x + sk→¬ ApartD p k q)):=Lib.hid (by unfold OffP;rw [HXX.out,hy,hsk,hsq])
        have HKI:Hid (I64 (k:Int)∧I64 (q:Int)):=Lib.hid (by unfold I64;omega)
        clear hb' ky hb6 ks hb7 kt hy hsk hsq y64
        by_cases g1:sk > 0
        ·by_cases g2:sq > 0
         ·by_cases g3:x < y + sq
          ·by_cases g4:y < x + sk
           ·have HBX:=Lib.hid HT.out.1
            go_wp2_with (with_reducible refine wpList_load_agg_w (by with_unfolding_all rfl) 30 _ rfl _ w.heap.size 0 rfl cs Tryz.underlying30 rfl HBX.out.size HBX.out.at ?_)
            refine (apart_any cs p k q wy HBX.out.arg HR.out.2 HKI.out.1 HKI.out.2).mono ?_
            rintro e w5 ⟨ap,rfl,hb5,hap⟩
            have HAP:=Lib.hid hap
            have HX5:=Lib.hid (HT.out.1.next hb5)
            clear hb5 hap HBX
            cases ap with
            | true =>
             have HNO:Hid (¬ CheckD p at_ size):=Lib.hid fun h=>HO.out.1 (h.2.2 k (by rw [HN.out.1];exact hlt) q hqk) g1 g2 g3 g4 (HAP.out.1 rfl)
             go_wp2
             go_ret
             exact ⟨false,rfl,HX5.out.below,chkB_no HNO.out⟩
            | false =>
             have HY:=Lib.hid (HO.out.2 fun _ _ _ _ h=>by have:=HAP.out.2 h;cases this)
             go_wp2
             go_roundw
             case rel =>
              refine ⟨q + 1,by go_num,by omega,Lib.hid ⟨HX5.out,fun r hr=>?_⟩⟩
              by_cases e:r = q
              ·rw [e];exact HY.out
              ·exact HT.out.2 r (by omega)
             case measure=>simp [intOf];omega
           ·have HY:=Lib.hid (HO.out.2 fun _ _ _ h=>absurd h g4)
            go_wp2
            go_roundw
            case rel =>
             refine ⟨q + 1,by go_num,by omega,Lib.hid ⟨HT.out.1,fun r hr=>?_⟩⟩
             by_cases e:r = q
             ·rw [e];exact HY.out
             ·exact HT.out.2 r (by omega)
            case measure=>simp [intOf];omega
          ·have HY:=Lib.hid (HO.out.2 fun _ _ h=>absurd h g3)
           go_wp2
           go_roundw
           case rel =>
            refine ⟨q + 1,by go_num,by omega,Lib.hid ⟨HT.out.1,fun r hr=>?_⟩⟩
            by_cases e:r = q
            ·rw [e];exact HY.out
            ·exact HT.out.2 r (by omega)
           case measure=>simp [intOf];omega
         ·have HY:=Lib.hid (HO.out.2 fun _ h=>absurd h g2)
          go_wp2
          go_roundw
          case rel =>
           refine ⟨q + 1,by go_num,by omega,Lib.hid ⟨HT.out.1,fun r hr=>?_⟩⟩
           by_cases e:r = q
           ·rw [e];exact HY.out
           ·exact HT.out.2 r (by omega)
          case measure=>simp [intOf];omega
        ·have HY:=Lib.hid (HO.out.2 fun h=>absurd h g1)
         go_wp2
         go_roundw
         case rel =>
          refine ⟨q + 1,by go_num,by omega,Lib.hid ⟨HT.out.1,fun r hr=>?_⟩⟩
          by_cases e:r = q
          ·rw [e];exact HY.out
          ·exact HT.out.2 r (by omega)
         case measure=>simp [intOf];omega
       ·have hqk':¬ (q:Int) < (k:Int):=by omega
        obtain rfl:q = k:=by omega
        go_wp2
        go_roundw
        case rel =>
         refine ⟨q + 1,by go_num,by omega,Lib.hid ⟨HT.out.1,fun r hr=>?_⟩⟩
         by_cases e:r = q
         ·rw [e];exact HT.out.2
         ·exact HS.out.2 r (by omega)
        case measure=>simp [intOf];omega
     ·have hlt':¬ (k:Int) < (m:Int):=by omega
      have HY:Hid (CheckD p at_ size):=Lib.hid ⟨by rw [HN.out.1,HN.out.2],fun i hi=>HIN.out i (by rw [HN.out.1] at hi;exact hi),fun i hi=>HS.out.2 i (by rw [HN.out.1] at hi;omega)⟩
      go_wp2
      go_ret
      exact ⟨true,rfl,HS.out.1.below,⟨fun _=>HY.out,fun _=>rfl⟩⟩
 ·have hmnI:((m:Int) != (n:Int)) = true:=by simp;omega
  have HNO:Hid (¬ CheckD p at_ size):=Lib.hid fun h=>hmn (by have:=h.1;rw [HN.out.1,HN.out.2] at this;exact this)
  clear hmn
  go_wp2
  go_ret
  exact ⟨false,rfl,HX.out.below,chkB_no HNO.out⟩
end Go.Proofs.YtoeaglpmkjoenaaGreat
set_option linter.unusedSimpArgs false
set_option linter.unusedVariables false
namespace Go.Proofs.YtoeaglpmkjoenaaGreat
theorem packAll_I {p:PlanD} (h:SizesOk p):PackI p (ordN p) (packAll p).1 (packAll p).2:=by
 have:=pack_whole srtB_law (sizes8 h) (ordN p) [] _ _ (packI_start p) (by rw [List.nil_append];exact ordN_nodup p) (fun v hv=>ordN_mem.1 hv)
 rw [List.nil_append] at this
 exact this
theorem packAll_bd {p:PlanD} (h:SizesOk p):0 ≤ (packAll p).2∧(packAll p).2 ≤ 134217728 :=
 pack_bd h (packAll_I h) (by rw [ordN_len,ordI_len];exact Nat.le_trans (liveV_len p _) h.1)
theorem size_zero {p:PlanD} (h:SizesOk p) {i:Nat} (hi:i < p.size.length) (hn:i ∉ ordN p):szAt p i = 0:=by
 have h1:=sizes_bd h i
 by_cases h2:0 < szAt p i
 ·exact (hn (ordN_mem.2 ⟨hi,h2⟩)).elim
 ·omega
theorem pack_check {p:PlanD} (h:SizesOk p) {at_:List Int} {sz:Int} (hI:PackI p (ordN p) at_ sz):CheckD p at_ sz:=by
 refine ⟨hI.len,fun i hi=>?_,fun i hi k hk hsi hsk h1 h2 ha=>?_⟩
 ·unfold InsD
  by_cases hm:i ∈ ordN p
  ·obtain ⟨a1,a2,a3⟩:=hI.ins i hm
   have:=sizes_bd h i
   exact ⟨a1,a3,by omega,by omega⟩
  ·have h0:=hI.out i hm
   have hs:=size_zero h hi hm
   have:=hI.sum.1
   rw [h0,hs]
   exact ⟨by omega,by omega,by omega,by omega⟩
 ·have:=hI.off i (ordN_mem.2 ⟨hi,hsi⟩) k (ordN_mem.2 ⟨by omega,hsk⟩) ha
  omega
def sumS (p:PlanD):Nat→Int
 | 0=>0
 | k + 1=>sumS p k + szAt p k
def maxS (p:PlanD):Nat→Int
 | 0=>0
 | k + 1=>max (maxS p k) (szAt p k)
theorem sumS_bd {p:PlanD} (h:SizesOk p):∀ k,0 ≤ sumS p k∧sumS p k ≤ (k:Int) * 32768
 | 0=>by simp [sumS]
 | k + 1=>by
  have h1:=sumS_bd h k
  have h2:=sizes_bd h k
  unfold sumS
  omega
theorem maxS_bd {p:PlanD} (h:SizesOk p):∀ k,0 ≤ maxS p k∧maxS p k ≤ 32768
 | 0=>by simp [maxS]
 | k + 1=>by
  have h1:=maxS_bd h k
  have h2:=sizes_bd h k
  unfold maxS
  omega
theorem perm_sumI {l m:List Int} (h:l.Perm m):l.sum = m.sum:=by
 induction h with
 | nil=>rfl
 | cons x _ ih=>rw [List.sum_cons,List.sum_cons,ih]
 | swap x y l=>rw [List.sum_cons,List.sum_cons,List.sum_cons,List.sum_cons];omega
 | trans _ _ h1 h2=>exact h1.trans h2
theorem live_sum {p:PlanD} (h:SizesOk p):∀ k,((liveV p k).map (szAt p)).sum = sumS p k
 | 0=>rfl
 | k + 1=>by
  have ih:=live_sum h k
  have h2:=sizes_bd h k
  rw [liveV_next,sumS]
  by_cases h1:0 < szAt p k
  ·rw [if_pos h1,List.map_append,List.sum_append,ih];simp
  ·rw [if_neg h1,ih];omega
theorem size_sum {p:PlanD} (h:SizesOk p):(packAll p).2 ≤ sumS p p.size.length:=by
 have h1:=(packAll_I h).sum.2
 rw [perm_sumI ((ordN_perm p).map (szAt p)),live_sum h] at h1
 exact h1
theorem size_ge {p:PlanD} (h:SizesOk p) {i:Nat} (hi:i < p.size.length):szAt p i ≤ (packAll p).2:=by
 by_cases hm:i ∈ ordN p
 ·have:=(packAll_I h).ins i hm
  omega
 ·rw [size_zero h hi hm];exact (packAll_bd h).1
theorem size_max {p:PlanD} (h:SizesOk p):∀ k,k ≤ p.size.length→maxS p k ≤ (packAll p).2
 | 0,_=>(packAll_bd h).1
 | k + 1,hk=>by
  have h1:=size_max h k (by omega)
  have h2:=size_ge h (show k < p.size.length by omega)
  unfold maxS
  omega
structure AliveD (p:PlanD) (al:List Nat):Prop where
 lt:∀ v ∈ al,v < p.size.length∧0 < szAt p v
 pair:al.Pairwise fun (u v:Nat)=>ApartD p v u
def sumA (p:PlanD) (al:List Nat):Int:=(al.map (szAt p)).sum
theorem AliveD.nil (p:PlanD):AliveD p []:=⟨fun v h=>(by cases h),List.Pairwise.nil⟩
theorem AliveD.more {p:PlanD} {al:List Nat} (h:AliveD p al) {v:Nat} (hv:v < p.size.length) (hs:0 < szAt p v) (ha:∀ u ∈ al,ApartD p v u):AliveD p (al++[v]):=by
 refine ⟨fun u hu=>?_,List.pairwise_append.2 ⟨h.pair,List.pairwise_singleton _ _,fun u hu w hw=>?_⟩⟩
 ·rcases List.mem_append.1 hu with hu | hu
  ·exact h.lt u hu
  ·rw [List.mem_singleton.1 hu];exact ⟨hv,hs⟩
 ·rw [List.mem_singleton.1 hw];exact ha u hu
theorem sumA_more (p:PlanD) (al:List Nat) (v:Nat):sumA p (al++[v]) = sumA p al + szAt p v:=by
 unfold sumA
 rw [List.map_append,List.sum_append]
 simp
theorem off_all {p:PlanD} {at_:List Int} {sz:Int} (hI:PackI p (ordN p) at_ sz):∀ al:List Nat,(∀ v ∈ al,v < p.size.length∧0 < szAt p v)→(al.Pairwise fun (u v:Nat)=>ApartD p v u)→OffAll (al.map fun v=>((atD at_ v).toNat,(szAt p v).toNat))
 | [],_,_=>trivial
 | v :: al,hl,hp=>by
  obtain ⟨h1,h2⟩:=List.pairwise_cons.1 hp
  refine ⟨fun y hy=>?_,off_all hI al (fun u hu=>hl u (List.mem_cons_of_mem _ hu)) h2⟩
  obtain ⟨u,hu,rfl⟩:=List.mem_map.1 hy
  have a1:=hl v List.mem_cons_self
  have a2:=hl u (List.mem_cons_of_mem _ hu)
  have b1:=hI.ins v (ordN_mem.2 a1)
  have b2:=hI.ins u (ordN_mem.2 a2)
  have:=hI.off u (ordN_mem.2 a2) v (ordN_mem.2 a1) (h1 u hu)
  unfold OffD
  simp only
  omega
theorem sum_toNat {p:PlanD}:∀ al:List Nat,(∀ v ∈ al,v < p.size.length∧0 < szAt p v)→((al.map fun v=>(szAt p v).toNat).sum:Int) = sumA p al
 | [],_=>rfl
 | v :: al,h=>by
  have ih:=sum_toNat al fun u hu=>h u (List.mem_cons_of_mem _ hu)
  have h1:=(h v List.mem_cons_self).2
  unfold sumA at ih ⊢
  rw [List.map_cons,List.sum_cons,List.map_cons,List.sum_cons,← ih]
  omega
theorem alive_le {p:PlanD} (h:SizesOk p) {al:List Nat} (ha:AliveD p al):0 ≤ sumA p al∧sumA p al ≤ (packAll p).2:=by
 have hI:=packAll_I h
 have hb:=packAll_bd h
 have h1:=packed_le (n:=(packAll p).2.toNat) (l:=al.map fun v=>((atD (packAll p).1 v).toNat,(szAt p v).toNat)) (fun iv hiv=>by
  obtain ⟨v,hv,rfl⟩:=List.mem_map.1 hiv
  have:=hI.ins v (ordN_mem.2 (ha.lt v hv))
  have:=(ha.lt v hv).2
  simp only
  omega) (off_all hI al ha.lt ha.pair)
 rw [List.map_map] at h1
 have h2:=sum_toNat al ha.lt
 have h3:(al.map (Prod.snd ∘ fun v=>((atD (packAll p).1 v).toNat,(szAt p v).toNat))) = al.map fun v=>(szAt p v).toNat:=rfl
 have h1':(al.map fun v=>(szAt p v).toNat).sum ≤ (packAll p).2.toNat:=h1
 rw [← h2]
 omega
end Go.Proofs.YtoeaglpmkjoenaaGreat
set_option linter.unusedSimpArgs false
set_option linter.unusedVariables false
namespace Go.Proofs.YtoeaglpmkjoenaaGreat
open Go.RowKit
open Rep (rep)
def bytesD (v:ValD):Int:=bits .andNot .i64 ((sizeD v.dims).1 * widthD v.type + 7) 7
theorem bytes_i64 (v:ValD):I64 (bytesD v):=by
 unfold bytesD I64
 have:=IntWalk.i64_in
 unfold bits
 simp only []
 have h:=fun n:Int=>(show -9223372036854775808 ≤ IntKind.i64.wrap n∧IntKind.i64.wrap n ≤ 9223372036854775807 by rw [IntKind.wrap_i64];omega)
 exact h _
theorem mul_bd {n t:Int} (h0:0 ≤ n) (h1:n ≤ 4096) (h2:0 ≤ t) (h3:t ≤ 8):0 ≤ n * t∧n * t ≤ 32768:=by
 have a:=Int.mul_nonneg h0 h2
 have b:=Int.mul_le_mul h1 h3 h2 (by omega:(0:Int) ≤ 4096)
 exact ⟨a,by omega⟩
theorem width_bd (k:Int):0 ≤ widthD k∧widthD k ≤ 8:=by
 unfold widthD
 split <;> (try split) <;> (try split) <;> omega
set_option maxRecDepth 100000 in
set_option maxHeartbeats 8000000 in
theorem bytes_any (cs:List Value) (v:ValD) (w:World) (hr:rep w (old w.heap.size) cs v) :
  Calls Tryz.prog 26 #[.agg cs.toArray] w fun e w'=>e = .returned (.int .i64 (bytesD v))∧Below w.heap.size w w':=by
 obtain ⟨A1,k1,A2,k2,A3,k3,A4,k4,A5,k5,hcs,-,h1,-⟩:=open_ValD hr
 have hc0:cs[0]? = some (.int .i64 v.type):=by rw [hcs];rfl
 have hc1:cs[1]? = some (.slice A1 v.dims.length k1):=by rw [hcs];rfl
 have H1:=Lib.hid h1
 clear hcs h1
 have hsb:=size_bd v.dims
 have hwb:=width_bd v.type
 have hmb:=mul_bd hsb.1 hsb.2.1 hwb.1 hwb.2
 have HB:Hid (bytesD v = bits .andNot .i64 ((sizeD v.dims).1 * widthD v.type + 7) 7):=Lib.hid rfl
 go_enter Tryz.func26,Tryz.ntmps26
 go_wp2_with (with_reducible refine wpList_box_row rfl 45 _ rfl cs rfl ?_;have hX:=val_start hr;generalize World.alloc _ _ = W0 at hX ⊢;have HX:=Lib.hid hX;clear hX hr;refine halt ?_)
 unfold Halt
 have c0:=HX.out.cell hc0
 have c1:=HX.out.cell hc1
 go_wp2_with fail
 refine (size_any v.dims A1 k1 _ (HX.out.up H1.out)).mono ?_
 rintro e w1 ⟨rfl,rfl⟩
 generalize sizeD v.dims = sz at HB hmb ⊢
 obtain ⟨n,x⟩:=sz
 simp only at HB hmb ⊢
 clear hsb hwb
 go_wp2_with fail
 refine (width_any v.type _).mono ?_
 rintro e w2 ⟨rfl,rfl⟩
 generalize widthD v.type = t at HB hmb ⊢
 go_wp2
 go_ret
 exact ⟨by rw [HB.out];rfl,HX.out.below⟩
theorem has_any (op:Int) (w:World):Calls Tryz.prog 29 #[.int .i64 op] w fun e w'=>e = .returned (.bool (decide (1 ≤ op) && decide (op ≤ 44)))∧w' = w:=by
 by_cases h:op ≥ 1
 ·go_enter Tryz.func29,Tryz.ntmps29
  go_wp2
  go_ret
  exact ⟨by rw [decide_eq_true h];rfl,rfl⟩
 ·go_enter Tryz.func29,Tryz.ntmps29
  go_wp2
  go_ret
  exact ⟨by rw [decide_eq_false (by omega)];rfl,rfl⟩
set_option maxRecDepth 100000 in
set_option maxHeartbeats 8000000 in
theorem after1_any (x:Int) (q k:Nat) (A:Option Addr) (l:List Int) (w:World) (hq:w.cell? ⟨q,37,none⟩ = some (.slice A l.length k)) (hr:rep w (old w.heap.size) [.slice A l.length k] l) :
  Calls Tryz.prog 51 #[.int .i64 x,.pointer (some ⟨q,0,none⟩)] w fun e w'=>e = .returned (.bool (l.contains x))∧w' = w:=by
 go_enter Tryz.func51,Tryz.ntmps51
 go_wp2_with fail
 refine (containsInt_any l A k x w hr).mono ?_
 rintro e w1 ⟨rfl,rfl⟩
 obtain ⟨c,hc⟩:∃ c,l.contains x = c:=⟨_,rfl⟩
 rw [hc]
 have HC:=Lib.hid hc
 clear hc
 go_wp2
 go_ret
 exact ⟨by rw [HC.out];rfl,rfl⟩
theorem afterD_lt {g:GraphD} {ts:List TaskD} {ins:List Int}:∀ x ∈ afterD g ts ins,0 ≤ x∧x < ts.length:=fun x hx=>by
 obtain ⟨k,s,rfl,hs,_⟩:=afterD_mem.1 hx
 have:=(List.getElem?_eq_some_iff.1 hs).1
 omega
theorem afterD_len (g:GraphD) (ts:List TaskD) (ins:List Int):(afterD g ts ins).length ≤ ts.length:=by
 unfold afterD
 rw [List.length_map]
 exact Nat.le_trans (List.length_filter_le _ _) (by rw [List.length_zipIdx];exact Nat.le_refl _)
def zeroTk:List Value:=[.int .i64 0,.int .i64 0,.int .i64 0,.slice none 0 0]
theorem zeroTk_zero:(Tryz.prog.info? 72).bind (·.zero) = some (.agg zeroTk.toArray):=by kernel_rfl
theorem own_list {W:World} {n:Nat} {v:Value} {l:List Int} (h:W.ownsRow n 3 1 v l.length (l.map (Value.int .i64))) (hb:l.length * 8 ≤ 140737488351232) (hi:∀ x ∈ l,I64 x):∃ A k,v = .slice A l.length k∧rep W (fresh n W.heap.size) [.slice A l.length k] l:=own_row h hb hi
set_option maxRecDepth 100000 in
set_option maxHeartbeats 8000000 in
theorem after_any (gcs ncs:List Value) (g:GraphD) (ts:List TaskD) (T:Option Addr) (kT:Nat) (z:GNodeD) (w:World) (hg:rep w (old w.heap.size) gcs g) (ht:rep w (old w.heap.size) [.slice T ts.length kT] ts) (hz:rep w (old w.heap.size) ncs z)
  (hin:∀ t ∈ ts,0 ≤ t.node∧t.node < g.nodes.length) (hl:ts.length ≤ 1000000000000) :
  Calls Tryz.prog 27 #[.agg gcs.toArray,.slice T ts.length kT,.agg ncs.toArray] w fun e w'=>∃ (A:Option Addr) (k:Nat),e = .returned (.slice A (afterD g ts z.ins).length k)∧rep w' (fresh w.heap.size w'.heap.size) [.slice A (afterD g ts z.ins).length k] (afterD g ts z.ins)∧Below w.heap.size w w':=by
 obtain ⟨i0,hi0,hz0,hz1,hz2⟩:=info_parts info_int1
 obtain ⟨A1,k1,A2,k2,A3,k3,A4,k4,hgc,r1,r2,r3,r4⟩:=open_GraphD hg
 obtain ⟨n2,n2'⟩:=slice_bnd r2
 obtain ⟨nT,nT'⟩:=slice_bnd ht
 have h1:gcs[1]? = some (.slice A2 g.nodes.length k2):=by rw [hgc];rfl
 obtain ⟨ss,I1,i1,O1,o1,-,z37,-,-,-,zi,-,-⟩:=gnode_facts hz
 have HG:=Lib.hid (And.intro h1 (And.intro r2 (And.intro z37 (And.intro zi hin))))
 have hgl:(Tryz.prog.info? 26).map (·.size) = some gcs.length:=by rw [show gcs.length = 4 from Rep.len hg];kernel_rfl
 obtain ⟨T',c',xs,hv,-,-,-,hlz,hch⟩:=open_slice ht
 injection hv with hva hvb hvc
 subst hva
 obtain ⟨A2',c2',ns,hv,-,-,-,hl2,hch2⟩:=open_slice r2
 injection hv with hva2 hvb2 hvc2
 subst hva2
 have HL:=Lib.hid (And.intro hlz (And.intro hch (And.intro hl2 hch2)))
 clear hgc r1 r2 r3 r4 h1 z37 zi hin hlz hch hl2 hch2 hvb hvc hvb2 hvc2 hg hz ht
 go_enter Tryz.func27,Tryz.ntmps27
 go_wp2_with (first
  |(with_reducible refine wpList_box_row rfl 26 _ rfl gcs rfl ?_)
  |(with_reducible refine wpList_box_row rfl 50 _ rfl ncs rfl ?_;have hX:=pair_start w 26 50 gcs ncs;generalize World.alloc _ (.cells ncs.toArray _) = W0 at hX ⊢;have HX:=Lib.hid hX;clear hX;refine halt ?_))
 unfold Halt
 go_wp2_with fail
 go_loopw [7,12] (fun v i wr=>∃ c:Nat,i = .int .i64 c∧c ≤ ts.length∧Below W0.heap.size W0 wr∧wr.ownsRow W0.heap.size 3 1 v (afterD g (ts.take c) z.ins).length ((afterD g (ts.take c) z.ins).map (Value.int .i64))) (fun _ i _=>ts.length - (intOf i).toNat)
 case atStart=>exact ⟨0,rfl,Nat.zero_le _,Below.refl _ _,World.ownsRow_nil _ _ _ _⟩
 case round =>
  obtain ⟨c,rfl,hcl,hB,hO⟩:=hrel
  obtain ⟨wb,rfl⟩:∃ wb,wb = wr:=⟨_,rfl⟩
  have HB:=Lib.hid (And.intro (HX.out.next hB) (And.intro hO hB))
  clear hB hO
  by_cases hlt:c < ts.length
  ·have hlt':(c:Int) < (ts.length:Int):=by omega
   obtain ⟨t,ht⟩:∃ t,ts[c]? = some t:=⟨_,List.getElem?_eq_getElem hlt⟩
   obtain ⟨hn0,hn1⟩:=HG.out.2.2.2.2 t (List.mem_of_getElem? ht)
   obtain ⟨b,o,zc,rfl,hbB,hrz,hcell⟩:=elem_at HL.out.1 HL.out.2.1 (by decide) ht
   have hat:At wb b (o + c * 4) zc:=fun j u hu=>by
    have h1:=(hcell j u hu).1
    rw [← Nat.add_assoc] at h1
    exact (HB.out.1.below.cell (p:=⟨b,o + c * 4 + j,none⟩) hbB).trans h1
   obtain ⟨TA,tk,rfl,-,-,-,-⟩:=open_TaskD hrz
   obtain ⟨j,hj⟩:∃ j:Nat,t.node = (j:Int):=⟨t.node.toNat,by omega⟩
   obtain ⟨y,hy⟩:∃ y,g.nodes[j]? = some y:=⟨_,List.getElem?_eq_getElem (by omega)⟩
   obtain ⟨b2,o2,yc,rfl,hbB2,hry,hcell2⟩:=elem_at HL.out.2.2.1 HL.out.2.2.2 (by decide) hy
   obtain ⟨ss2,J1,j1,Q1,q1,-,-,y38,-,-,-,yo,-⟩:=gnode_facts hry
   obtain ⟨nq1,nq2⟩:=slice_bnd yo
   have hgo:gOuts g t.node.toNat = y.outs:=by unfold gOuts;rw [hj,Int.toNat_natCast,hy];rfl
   have HT:=Lib.hid (And.intro hat (And.intro ht (And.intro hgo yo)))
   have hcell38:=(hcell2 38 _ y38).1
   have HC38:Hid (w.cell? ⟨b2,o2 + j * 40 + 38,none⟩ = some (.slice Q1 y.outs.length q1)∧b2 < w.heap.size):=Lib.hid ⟨by rwa [← Nat.add_assoc] at hcell38,hbB2⟩
   have hk0:(0:Int) ≤ (c:Int):=Int.natCast_nonneg _
   have hj0:(0:Int) ≤ (j:Int):=Int.natCast_nonneg _
   have hj1:(j:Int) < (g.nodes.length:Int):=by omega
   rw [hj] at HT
   have HJ:=Lib.hid hj
   have HZ:=Lib.hid (And.intro HT.out.1 (show (Tryz.prog.info? 72).map (·.size) = some ([.int .i64 (j:Int),.int .i64 t.lo,.int .i64 t.hi,.slice TA t.after.length tk]:List Value).length by kernel_rfl))
   have HLN:=Lib.hid (show ([.int .i64 (j:Int),.int .i64 t.lo,.int .i64 t.hi,.slice TA t.after.length tk]:List Value).length = zeroTk.length from rfl)
   have H1C:=Lib.hid (show ∀ u ∈ ([.int .i64 (j:Int),.int .i64 t.lo,.int .i64 t.hi,.slice TA t.after.length tk]:List Value),u.oneCell' = true from fun u hu=>by simp at hu;rcases hu with rfl | rfl | rfl | rfl <;> rfl)
   clear hat hrz hcell ht hy hry hcell2 y38 yo hgo hcell38 hbB hbB2 hn0 hn1 hj
   have hn:=heap_alloc_new wb (.cells zeroTk.toArray 72)
   have HQ:=Lib.hid hn
   clear hn
   go_wp2_with (first
    |(with_reducible refine wpList_load_agg rfl 72 _ rfl _ _ _ rfl [.int .i64 (j:Int),.int .i64 t.lo,.int .i64 t.hi,.slice TA t.after.length tk] Tryz.underlying72 rfl HZ.out.2 HZ.out.1 ?_)
    |(with_reducible refine wpList_alloc_row rfl 72 rfl zeroTk zeroTk_zero ?_)
    |(with_reducible refine wpList_store_agg rfl 72 _ _ rfl _ 0 [.int .i64 (j:Int),.int .i64 t.lo,.int .i64 t.hi,.slice TA t.after.length tk] rfl rfl 72 zeroTk HQ.out HZ.out.2 (of_decide_eq_true (by kernel_rfl)) H1C.out ?_;have hX:=laid_row wb 72 zeroTk [.int .i64 (j:Int),.int .i64 t.lo,.int .i64 t.hi,.slice TA t.after.length tk] HLN.out;generalize World.setRow _ _ _ = w1 at hX ⊢;have HW:=Lib.hid hX;clear hX;refine halt ?_))
   unfold Halt
   have hc0:=cell_row HW.out.2.1 (j:=0) rfl
   have hg1:=(HW.out.1.cell (p:=⟨w.heap.size,1,none⟩) (by have:=HB.out.1.lt;simp only;omega)).trans (cell_row HB.out.1.src HG.out.1)
   have hq:=(HW.out.1.cell (p:=⟨b2,o2 + j * 40 + 38,none⟩) (Nat.lt_of_lt_of_le HC38.out.2 HB.out.1.below.size)).trans ((HB.out.1.below.cell (p:=⟨b2,o2 + j * 40 + 38,none⟩) HC38.out.2).trans HC38.out.1)
   have HP:=Lib.hid (HB.out.1.next HW.out.1)
   have HO:=Lib.hid (And.intro (HB.out.2.1) (And.intro HB.out.2.2 HW.out.1))
   have HCC:Hid (Calls Tryz.prog 12 #[.slice Q1 y.outs.length q1,.func (.func 51) #[] #[.pointer (some ⟨w.heap.size + 1,0,none⟩)]] w1 fun e w'=>e = .returned (.bool (y.outs.any fun x=>z.ins.contains x))∧w' = w1):=Lib.hid <|
    containsInts_any y.outs _ 51 ⟨w.heap.size + 1,0,none⟩ (fun x=>z.ins.contains x) (fun W=>W = w1) w1 (fun _ _=>rfl) (HP.out.keeps HT.out.2.2.2) rfl (fun W h=>by rw [h];exact Below.refl _ _) fun x _ _ W hW=>(after1_any x (w.heap.size + 1) i1 I1 z.ins W (by rw [hW];exact cell_row HP.out.res HG.out.2.2.1) (by rw [hW];exact HP.out.keeps HG.out.2.2.2.1)).mono (by rintro e w' ⟨rfl,rfl⟩;exact ⟨rfl,hW⟩)
   go_wp2_with fail
   refine HCC.out.mono ?_
   rintro e w2 ⟨rfl,rfl⟩
   obtain ⟨sh,hsh⟩:∃ sh,(y.outs.any fun x=>z.ins.contains x) = sh:=⟨_,rfl⟩
   rw [hsh]
   have HSH:Hid (sharesD (gOuts g t.node.toNat) z.ins = sh):=Lib.hid (by rw [HJ.out,HT.out.2.2.1];exact hsh)
   have HTK:Hid (ts.take (c + 1) = ts.take c++[t]):=Lib.hid (by rw [List.take_add_one,HT.out.2.1];rfl)
   clear hsh HCC hc0 hg1 hq
   have HHL:Hid ((afterD g (ts.take c) z.ins).length ≤ 1000000000000):=Lib.hid (by have:=afterD_len g (ts.take c) z.ins;rw [List.length_take] at this;omega)
   have HCL:Hid (c ≤ ts.length):=Lib.hid hcl
   have hlen:((ts.take c).length:Int) = (c:Int):=by rw [List.length_take];omega
   have HLEN:=Lib.hid hlen
   clear hlen
   cases sh with
   | true =>
    go_wp2_with (at_builtin;refine wpList_append_lies _ rfl _ _ 24 rfl W0.heap.size 3 i0 (.int .i64 0) 1 8 Tryz.underlying24 hi0 hz0 hz1 hz2 rfl (by decide) _ _ _ rfl ((own_below HO.out.1 HO.out.2.2).alloc _) _ _ 1 1 [.int .i64 (c:Int)] rfl rfl (lies_new _ _ _) ?c2 ?c3 ?c4 ?c5 ?_)
    case c2=>intro u hu;simp at hu;subst hu;rfl
    case c3=>unfold maxLen;have:=HHL.out;omega
    case c4=>have:=HHL.out;omega
    case c5=>have:=HO.out.2.1.size;have:=HO.out.2.2.size;simp;omega
    intro v' w3 hown' hgrow _
    go_wp2
    go_roundw
    case rel =>
     refine ⟨c + 1,by go_num,by omega,?_,?_⟩
     ·exact ((HO.out.2.1.trans (HO.out.2.2.mono HO.out.2.1.size)).alloc (HO.out.2.1.trans (HO.out.2.2.mono HO.out.2.1.size)).size _).grown hgrow (by have:=HO.out.2.1.size;have:=HO.out.2.2.size;simp;omega) (fun g hg=>(HO.out.1.lt g hg).1)
     ·rw [HTK.out,afterD_snoc,if_pos HSH.out,HLEN.out,List.length_append,List.map_append]
      exact hown'
    case measure=>simp [intOf];omega
   | false =>
    go_wp2
    go_roundw
    case rel =>
     refine ⟨c + 1,by go_num,by omega,HO.out.2.1.trans (HO.out.2.2.mono HO.out.2.1.size),?_⟩
     rw [HTK.out,afterD_snoc,if_neg (by rw [HSH.out];exact Bool.false_ne_true),List.append_nil]
     exact own_below HO.out.1 HO.out.2.2
    case measure=>simp [intOf];omega
  ·have hlt':¬ (c:Int) < (ts.length:Int):=by omega
   have HCE:=Lib.hid (show ts.take c = ts from List.take_of_length_le (by omega))
   go_wp2
   go_ret
   have ho:=HB.out.2.1
   rw [HCE.out] at ho
   obtain ⟨A,k,rfl,hr⟩:=own_list ho (by have:=afterD_len g ts z.ins;omega) (fun x hx=>by have:=afterD_lt x hx;unfold I64;omega)
   exact ⟨A,k,rfl,Rep.more hr (fresh_le (by have:=HX.out.lt;omega) (Nat.le_refl _)),HB.out.1.below⟩
end Go.Proofs.YtoeaglpmkjoenaaGreat
