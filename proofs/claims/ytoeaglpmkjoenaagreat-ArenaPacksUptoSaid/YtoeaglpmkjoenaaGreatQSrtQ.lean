/-
  Chapter 21: arena.Check: may values lie so? No condition.
-/
/-
  Chapter 21: what may be said of where values lie. No program in sight.
-/
/-
  Chapter 21: what slices.SortStableFunc makes is in order, and of equals the earlier one comes first. No program in sight.
-/
import Derived.Test.YtoeaglpmkjoenaaGreatQArnM
import Derived.Test.YtoeaglpmkjoenaaGreatQArnQ
set_option linter.unusedSimpArgs false
set_option linter.unusedVariables false
namespace Go.Proofs.YtoeaglpmkjoenaaGreat
open Go.RowKit
open Rep (rep)
def InsD (p:PlanD) (at_:List Int) (size:Int) (i:Nat):Prop:=0 ≤ atD at_ i∧atD at_ i % 8 = 0∧¬ atD at_ i > size∧¬ szAt p i > size - atD at_ i
def OffP (p:PlanD) (at_:List Int) (i k:Nat):Prop:=0 < szAt p i→0 < szAt p k→atD at_ i < atD at_ k + szAt p k→atD at_ k < atD at_ i + szAt p i→¬ ApartD p i k
def CheckD (p:PlanD) (at_:List Int) (size:Int):Prop:=at_.length = p.size.length∧(∀ i,i < p.size.length→InsD p at_ size i)∧∀ i,i < p.size.length→∀ k,k < i→OffP p at_ i k
def ChkB (p:PlanD) (at_:List Int) (size:Int) (b:Bool):Prop:=b = true ↔ CheckD p at_ size
theorem chkB_no {p:PlanD} {at_:List Int} {size:Int} (h:¬ CheckD p at_ size):ChkB p at_ size false:=⟨fun e=>(by cases e),fun e=>absurd e h⟩
theorem ints_lie {w:World} {A:Option Addr} {k:Nat} {l:List Int} (hr:rep w (old w.heap.size) [.slice A l.length k] l):∀ j,j < l.length→I64 (atD l j)∧∃ b o,A = some ⟨b,o,none⟩∧b < w.heap.size∧w.cell? ⟨b,o + j,none⟩ = some (.int .i64 (atD l j)):=fun j hj=>by
 have hget:l[j]? = some (atD l j):=by
  unfold atD
  rw [List.getD_eq_getElem?_getD,List.getElem?_eq_getElem hj]
  rfl
 obtain ⟨h64,b,o,e,hb,kz⟩:=int_at hr hget
 exact ⟨h64,b,o,e,hb,kz⟩
set_option maxRecDepth 100000 in
set_option maxHeartbeats 8000000 in
theorem arenaCheck_any (cs:List Value) (p:PlanD) (A:Option Addr) (c:Nat) (at_:List Int) (size:Int) (w:World) (hr:rep w (old w.heap.size) cs p) (hs:PlanB p) (hok:SizesOk p) (ha:rep w (old w.heap.size) [.slice A at_.length c] at_) (hsz:I64 size) :
  Calls Tryz.prog 9 #[.agg cs.toArray,.slice A at_.length c,.int .i64 size] w (BoolP w (ChkB p at_ size)):=by
 obtain ⟨A6,k6,h5,n6,n6',r6,h6⟩:=sizes_lie hr
 obtain ⟨na,na'⟩:=slice_bnd ha
 have HC:=Lib.hid (And.intro h5 (And.intro h6 (And.intro (ints_lie ha) hok)))
 have HR:=Lib.hid (And.intro hr hs)
 obtain ⟨n,hn⟩:∃ n,p.size.length = n:=⟨_,rfl⟩
 obtain ⟨m,hm⟩:∃ m,at_.length = m:=⟨_,rfl⟩
 have hn4:n ≤ 4096:=by rw [← hn];exact hok.1
 rw [hn,hm] at HC
 rw [hn] at n6
 rw [hm] at na ⊢
 have HN:=Lib.hid (And.intro hn hm)
 unfold I64 at hsz
 clear h5 r6 h6 hr hs hn hm ha hok
 go_enter Tryz.func9,Tryz.ntmps9
 go_wp2_with (with_reducible refine wpList_box_row rfl 30 _ rfl cs rfl ?_;have hX:=plan_start HR.out.1;generalize World.alloc _ _ = W0 at hX ⊢;have HX:=Lib.hid hX;clear hX;refine halt ?_)
 unfold Halt
 have c5:=HX.out.cell HC.out.1
 by_cases hmn:m = n
 ·subst hmn
  go_wp2_with fail
  clear c5
  go_loop [21] (fun i=>∃ k:Nat,i = .int .i64 k∧k ≤ m∧Hid (∀ q,q < k→InsD p at_ size q)) (fun i=>m - (intOf i).toNat)
  case atStart=>exact ⟨0,rfl,Nat.zero_le _,Lib.hid (fun q hq=>by omega)⟩
  case round =>
   obtain ⟨k,rfl,hk,HS⟩:=hrel
   have hk0:(0:Int) ≤ (k:Int):=Int.natCast_nonneg _
   by_cases hlt:k < m
   ·have hlt':(k:Int) < (m:Int):=by omega
    obtain ⟨x64,b,o,rfl,hb,kx⟩:=HC.out.2.2.1 k hlt
    obtain ⟨b6,o6,e6,hb6,ks⟩:=HC.out.2.1 k hlt
    have kx':=HX.out.old2 (show b < w.heap.size from hb) kx
    have ks':=HX.out.old2 (show b6 < w.heap.size from hb6) ks
    have c5:=HX.out.cell HC.out.1
    obtain ⟨s1,s2⟩:=sizes_bd HC.out.2.2.2 k
    obtain ⟨x,hx⟩:∃ x,atD at_ k = x:=⟨_,rfl⟩
    obtain ⟨sk,hsk⟩:∃ s,szAt p k = s:=⟨_,rfl⟩
    rw [hx] at kx' x64
    rw [hsk] at ks' s1 s2
    rw [e6] at c5
    have HI:Hid (InsD p at_ size k ↔ 0 ≤ x∧x % 8 = 0∧¬ x > size∧¬ sk > size - x):=Lib.hid (by unfold InsD;rw [hx,hsk])
    unfold I64 at x64
    clear hb kx hb6 ks hx hsk
    by_cases h1:x < 0
    ·have HNO:Hid (¬ CheckD p at_ size):=Lib.hid fun h=>by have:=(HI.out.1 (h.2.1 k (by rw [HN.out.1];exact hlt))).1;omega
     go_wp2
     go_ret
     exact ⟨false,rfl,HX.out.below,chkB_no HNO.out⟩
    have h1':0 ≤ x:=by omega
    by_cases h2:x % 8 = 0
    ·have h2':(x % 8 != 0) = false:=by simpa using h2
     have H2:=Lib.hid h2
     clear h2
     by_cases h3:x > size
     ·have HNO:Hid (¬ CheckD p at_ size):=Lib.hid fun h=>(HI.out.1 (h.2.1 k (by rw [HN.out.1];exact hlt))).2.2.1 h3
      go_wp2
      go_ret
      exact ⟨false,rfl,HX.out.below,chkB_no HNO.out⟩
     ·by_cases h4:sk > size - x
      ·have HNO:Hid (¬ CheckD p at_ size):=Lib.hid fun h=>(HI.out.1 (h.2.1 k (by rw [HN.out.1];exact hlt))).2.2.2 h4
       go_wp2
       go_ret
       exact ⟨false,rfl,HX.out.below,chkB_no HNO.out⟩
      ·have HY:=Lib.hid (HI.out.2 ⟨h1',H2.out,h3,h4⟩)
       go_wp2
       go_round
       case rel =>
        refine ⟨k + 1,by go_num,by omega,Lib.hid (fun q hq=>?_)⟩
        by_cases e:q = k
        ·rw [e];exact HY.out
        ·exact HS.out q (by omega)
       case measure=>simp [intOf];omega
    ·have h2':(x % 8 != 0) = true:=by simpa using h2
     have HNO:Hid (¬ CheckD p at_ size):=Lib.hid fun h=>h2 (HI.out.1 (h.2.1 k (by rw [HN.out.1];exact hlt))).2.1
     clear h2
     go_wp2
     go_ret
     exact ⟨false,rfl,HX.out.below,chkB_no HNO.out⟩
   ·have hlt':¬ (k:Int) < (m:Int):=by omega
    have HIN:Hid (∀ q,q < m→InsD p at_ size q):=Lib.hid (fun q hq=>HS.out q (by omega))
    clear HS hk hk0
    go_wp2_with fail
    go_loopw [52] (fun i wr=>∃ k:Nat,i = .int .i64 k∧k ≤ m∧Hid (PlanI w cs p wr∧∀ q,q < k→∀ r,r < q→OffP p at_ q r)) (fun i _=>m - (intOf i).toNat)
    case atStart=>exact ⟨0,rfl,Nat.zero_le _,Lib.hid ⟨HX.out,fun q hq=>by omega⟩⟩
    case round =>
     obtain ⟨k,rfl,hk,HS⟩:=hrel
     obtain ⟨wx,rfl⟩:∃ wx,wx = wr:=⟨_,rfl⟩
     have hk0:(0:Int) ≤ (k:Int):=Int.natCast_nonneg _
     by_cases hlt:k < m
     ·have hlt':(k:Int) < (m:Int):=by omega
      obtain ⟨x64,b,o,rfl,hb,kx⟩:=HC.out.2.2.1 k hlt
      have hb':b < w.heap.size:=hb
      have HKX:=Lib.hid (And.intro hb' kx)
      have kx':=HS.out.1.old2 hb' kx
      obtain ⟨x,hx⟩:∃ x,atD at_ k = x:=⟨_,rfl⟩
      rw [hx] at kx' x64
      have HXX:=Lib.hid hx
      have hkc:k ≤ c:=by omega
      unfold I64 at x64
      clear hb hb' kx hx
      go_wp2_with fail
      clear kx'
      go_loopw [61] (fun i wr=>∃ q:Nat,i = .int .i64 q∧q ≤ k∧Hid (PlanI w cs p wr∧∀ r,r < q→OffP p at_ k r)) (fun i _=>k - (intOf i).toNat)
      case atStart=>exact ⟨0,rfl,Nat.zero_le _,Lib.hid ⟨HS.out.1,fun r hr=>by omega⟩⟩
      case round =>
       obtain ⟨q,rfl,hq,HT⟩:=hrel
       obtain ⟨wy,rfl⟩:∃ wy,wy = wr:=⟨_,rfl⟩
       have hq0:(0:Int) ≤ (q:Int):=Int.natCast_nonneg _
       by_cases hqk:q < k
       ·have hqk':(q:Int) < (k:Int):=by omega
        obtain ⟨y64,b',o',e',hb',ky⟩:=HC.out.2.2.1 q (by omega)
        injection e' with e'
        injection e' with e1 e2
        subst e1 e2
        have ky':=HT.out.1.old2 (show b < w.heap.size from hb') ky
        obtain ⟨b6,o6,rfl,hb6,ks⟩:=HC.out.2.1 k hlt
        obtain ⟨b7,o7,e7,hb7,kt⟩:=HC.out.2.1 q (by omega)
        injection e7 with e7
        injection e7 with e1 e2
        subst e1 e2
        have ks':=HT.out.1.old2 (show b6 < w.heap.size from hb6) ks
        have kt':=HT.out.1.old2 (show b6 < w.heap.size from hb7) kt
        have c5:=HT.out.1.cell HC.out.1
        obtain ⟨s1,s2⟩:=sizes_bd HC.out.2.2.2 k
        obtain ⟨t1,t2⟩:=sizes_bd HC.out.2.2.2 q
        obtain ⟨i1,-,i3,i4⟩:=HIN.out k hlt
        obtain ⟨j1,-,j3,j4⟩:=HIN.out q (by omega)
        rw [HXX.out] at i1 i3 i4
        obtain ⟨y,hy⟩:∃ y,atD at_ q = y:=⟨_,rfl⟩
        obtain ⟨sk,hsk⟩:∃ s,szAt p k = s:=⟨_,rfl⟩
        obtain ⟨sq,hsq⟩:∃ s,szAt p q = s:=⟨_,rfl⟩
        rw [hy] at ky' j1 j3 j4
        rw [hsk] at ks' s1 s2 i4
        rw [hsq] at kt' t1 t2 j4
        have HO:Hid (OffP p at_ k q ↔ (0 < sk→0 < sq→x < y + sq→y < x + sk→¬ ApartD p k q)):=Lib.hid (by unfold OffP;rw [HXX.out,hy,hsk,hsq])
        have HKI:Hid (I64 (k:Int)∧I64 (q:Int)):=Lib.hid (by unfold I64;omega)
        clear hb' ky hb6 ks hb7 kt hy hsk hsq y64
        by_cases g1:sk > 0
        ·by_cases g2:sq > 0
         ·by_cases g3:x < y + sq
          ·by_cases g4:y < x + sk
           ·have HBX:=Lib.hid HT.out.1
            go_wp2_with (with_reducible refine wpList_load_agg_w (by with_unfolding_all rfl) 30 _ rfl _ w.heap.size 0 rfl cs Tryz.underlying30 rfl HBX.out.size HBX.out.at ?_)
            refine (apart_any cs p k q wy HBX.out.arg HR.out.2 HKI.out.1 HKI.out.2).mono ?_
            rintro e w5 ⟨ap,rfl,hb5,hap⟩
            have HAP:=Lib.hid hap
            have HX5:=Lib.hid (HT.out.1.next hb5)
            clear hb5 hap HBX
            cases ap with
            | true =>
             have HNO:Hid (¬ CheckD p at_ size):=Lib.hid fun h=>HO.out.1 (h.2.2 k (by rw [HN.out.1];exact hlt) q hqk) g1 g2 g3 g4 (HAP.out.1 rfl)
             go_wp2
             go_ret
             exact ⟨false,rfl,HX5.out.below,chkB_no HNO.out⟩
            | false =>
             have HY:=Lib.hid (HO.out.2 fun _ _ _ _ h=>by have:=HAP.out.2 h;cases this)
             go_wp2
             go_roundw
             case rel =>
              refine ⟨q + 1,by go_num,by omega,Lib.hid ⟨HX5.out,fun r hr=>?_⟩⟩
              by_cases e:r = q
              ·rw [e];exact HY.out
              ·exact HT.out.2 r (by omega)
             case measure=>simp [intOf];omega
           ·have HY:=Lib.hid (HO.out.2 fun _ _ _ h=>absurd h g4)
            go_wp2
            go_roundw
            case rel =>
             refine ⟨q + 1,by go_num,by omega,Lib.hid ⟨HT.out.1,fun r hr=>?_⟩⟩
             by_cases e:r = q
             ·rw [e];exact HY.out
             ·exact HT.out.2 r (by omega)
            case measure=>simp [intOf];omega
          ·have HY:=Lib.hid (HO.out.2 fun _ _ h=>absurd h g3)
           go_wp2
           go_roundw
           case rel =>
            refine ⟨q + 1,by go_num,by omega,Lib.hid ⟨HT.out.1,fun r hr=>?_⟩⟩
            by_cases e:r = q
            ·rw [e];exact HY.out
            ·exact HT.out.2 r (by omega)
           case measure=>simp [intOf];omega
         ·have HY:=Lib.hid (HO.out.2 fun _ h=>absurd h g2)
          go_wp2
          go_roundw
          case rel =>
           refine ⟨q + 1,by go_num,by omega,Lib.hid ⟨HT.out.1,fun r hr=>?_⟩⟩
           by_cases e:r = q
           ·rw [e];exact HY.out
           ·exact HT.out.2 r (by omega)
          case measure=>simp [intOf];omega
        ·have HY:=Lib.hid (HO.out.2 fun h=>absurd h g1)
         go_wp2
         go_roundw
         case rel =>
          refine ⟨q + 1,by go_num,by omega,Lib.hid ⟨HT.out.1,fun r hr=>?_⟩⟩
          by_cases e:r = q
          ·rw [e];exact HY.out
          ·exact HT.out.2 r (by omega)
         case measure=>simp [intOf];omega
       ·have hqk':¬ (q:Int) < (k:Int):=by omega
        obtain rfl:q = k:=by omega
        go_wp2
        go_roundw
        case rel =>
         refine ⟨q + 1,by go_num,by omega,Lib.hid ⟨HT.out.1,fun r hr=>?_⟩⟩
         by_cases e:r = q
         ·rw [e];exact HT.out.2
         ·exact HS.out.2 r (by omega)
        case measure=>simp [intOf];omega
     ·have hlt':¬ (k:Int) < (m:Int):=by omega
      have HY:Hid (CheckD p at_ size):=Lib.hid ⟨by rw [HN.out.1,HN.out.2],fun i hi=>HIN.out i (by rw [HN.out.1] at hi;exact hi),fun i hi=>HS.out.2 i (by rw [HN.out.1] at hi;omega)⟩
      go_wp2
      go_ret
      exact ⟨true,rfl,HS.out.1.below,⟨fun _=>HY.out,fun _=>rfl⟩⟩
 ·have hmnI:((m:Int) != (n:Int)) = true:=by simp;omega
  have HNO:Hid (¬ CheckD p at_ size):=Lib.hid fun h=>hmn (by have:=h.1;rw [HN.out.1,HN.out.2] at this;exact this)
  clear hmn
  go_wp2
  go_ret
  exact ⟨false,rfl,HX.out.below,chkB_no HNO.out⟩
end Go.Proofs.YtoeaglpmkjoenaaGreat
set_option linter.unusedSimpArgs false
set_option linter.unusedVariables false
namespace Go.Proofs.YtoeaglpmkjoenaaGreat
theorem packAll_I {p:PlanD} (h:SizesOk p):PackI p (ordN p) (packAll p).1 (packAll p).2:=by
 have:=pack_whole srtB_law (sizes8 h) (ordN p) [] _ _ (packI_start p) (by rw [List.nil_append];exact ordN_nodup p) (fun v hv=>ordN_mem.1 hv)
 rw [List.nil_append] at this
 exact this
theorem size_zero {p:PlanD} (h:SizesOk p) {i:Nat} (hi:i < p.size.length) (hn:i ∉ ordN p):szAt p i = 0:=by
 have h1:=sizes_bd h i
 by_cases h2:0 < szAt p i
 ·exact (hn (ordN_mem.2 ⟨hi,h2⟩)).elim
 ·omega
theorem pack_check {p:PlanD} (h:SizesOk p) {at_:List Int} {sz:Int} (hI:PackI p (ordN p) at_ sz):CheckD p at_ sz:=by
 refine ⟨hI.len,fun i hi=>?_,fun i hi k hk hsi hsk h1 h2 ha=>?_⟩
 ·unfold InsD
  by_cases hm:i ∈ ordN p
  ·obtain ⟨a1,a2,a3⟩:=hI.ins i hm
   have:=sizes_bd h i
   exact ⟨a1,a3,by omega,by omega⟩
  ·have h0:=hI.out i hm
   have hs:=size_zero h hi hm
   have:=hI.sum.1
   rw [h0,hs]
   exact ⟨by omega,by omega,by omega,by omega⟩
 ·have:=hI.off i (ordN_mem.2 ⟨hi,hsi⟩) k (ordN_mem.2 ⟨by omega,hsk⟩) ha
  omega
structure AliveD (p:PlanD) (al:List Nat):Prop where
 lt:∀ v ∈ al,v < p.size.length∧0 < szAt p v
 pair:al.Pairwise fun (u v:Nat)=>ApartD p v u
theorem AliveD.nil (p:PlanD):AliveD p []:=⟨fun v h=>(by cases h),List.Pairwise.nil⟩
theorem AliveD.more {p:PlanD} {al:List Nat} (h:AliveD p al) {v:Nat} (hv:v < p.size.length) (hs:0 < szAt p v) (ha:∀ u ∈ al,ApartD p v u):AliveD p (al++[v]):=by
 refine ⟨fun u hu=>?_,List.pairwise_append.2 ⟨h.pair,List.pairwise_singleton _ _,fun u hu w hw=>?_⟩⟩
 ·rcases List.mem_append.1 hu with hu | hu
  ·exact h.lt u hu
  ·rw [List.mem_singleton.1 hu];exact ⟨hv,hs⟩
 ·rw [List.mem_singleton.1 hw];exact ha u hu
end Go.Proofs.YtoeaglpmkjoenaaGreat
set_option linter.unusedSimpArgs false
set_option linter.unusedVariables false
namespace Go.Proofs.YtoeaglpmkjoenaaGreat
theorem atD_swp {l:List Int} {i j k:Nat} (hi:i < l.length) (hj:j < l.length):atD (swp l i j) k = if k = j then atD l i else if k = i then atD l j else atD l k:=by
 have h:atD (swp l i j) k = atD ((l.set i (atD l j)).set j (atD l i)) k:=rfl
 rw [h,atD_set (by rw [List.length_set];exact hj),atD_set hi]
 by_cases e1:k = j
 ·rw [if_pos e1.symm,if_pos e1]
 ·rw [if_neg (fun e=>e1 e.symm),if_neg e1]
  by_cases e2:k = i
  ·rw [if_pos e2.symm,if_pos e2]
  ·rw [if_neg (fun e=>e2 e.symm),if_neg e2]
structure Loc (a b:Nat) (l l':List Int):Prop where
 len:l'.length = l.length
 out:∀ i,(i < a ∨ b ≤ i)→atD l' i = atD l i
 ins:∀ i,a ≤ i→i < b→∃ i',a ≤ i'∧i' < b∧atD l' i = atD l i'
theorem Loc.refl (a b:Nat) (l:List Int):Loc a b l l:=⟨rfl,fun _ _=>rfl,fun i h1 h2=>⟨i,h1,h2,rfl⟩⟩
theorem Loc.trans {a b:Nat} {l m n:List Int} (h:Loc a b l m) (k:Loc a b m n):Loc a b l n :=
 ⟨k.len.trans h.len,fun i hi=>(k.out i hi).trans (h.out i hi),fun i h1 h2=>by
  obtain ⟨i',a1,a2,e⟩:=k.ins i h1 h2
  obtain ⟨j,b1,b2,e2⟩:=h.ins i' a1 a2
  exact ⟨j,b1,b2,e.trans e2⟩⟩
theorem Loc.wide {a b a' b':Nat} {l m:List Int} (h:Loc a b l m) (ha:a' ≤ a) (hb:b ≤ b'):Loc a' b' l m :=
 ⟨h.len,fun i hi=>h.out i (by omega),fun i h1 h2=>by
  by_cases e:a ≤ i∧i < b
  ·obtain ⟨j,b1,b2,e2⟩:=h.ins i e.1 e.2
   exact ⟨j,by omega,by omega,e2⟩
  ·exact ⟨i,h1,h2,h.out i (by omega)⟩⟩
theorem Loc.swap {a b:Nat} {l:List Int} {i j:Nat} (hi:a ≤ i∧i < b) (hj:a ≤ j∧j < b) (hb:b ≤ l.length):Loc a b l (swp l i j):=by
 refine ⟨swp_len _ _ _,fun k hk=>?_,fun k h1 h2=>?_⟩
 ·rw [atD_swp (by omega) (by omega),if_neg (by omega),if_neg (by omega)]
 ·rw [atD_swp (by omega) (by omega)]
  by_cases e1:k = j
  ·exact ⟨i,hi.1,hi.2,by rw [if_pos e1]⟩
  ·by_cases e2:k = i
   ·exact ⟨j,hj.1,hj.2,by rw [if_neg e1,if_pos e2]⟩
   ·exact ⟨k,h1,h2,by rw [if_neg e1,if_neg e2]⟩
theorem atD_up:∀ (n k:Nat) (l:List Int) (i:Nat),k + n < l.length→atD (upD n k l) i = if i < k ∨ k + n < i then atD l i else if i = k + n then atD l k else atD l (i + 1)
 | 0,k,l,i,h=>by
  show atD l i = _
  by_cases e:i < k ∨ k + 0 < i
  ·rw [if_pos e]
  ·rw [if_neg e,if_pos (by omega),show i = k by omega]
 | n + 1,k,l,i,h=>by
  have hs:∀ q,atD (swp l k (k + 1)) q = if q = k + 1 then atD l k else if q = k then atD l (k + 1) else atD l q:=fun q=>atD_swp (by omega) (by omega)
  rw [upD,atD_up n (k + 1) _ i (by rw [swp_len];omega),hs,hs,hs]
  by_cases e1:i < k ∨ k + (n + 1) < i
  ·rw [if_pos e1,if_pos (by omega),if_neg (by omega),if_neg (by omega)]
  ·rw [if_neg e1]
   by_cases e2:i = k + (n + 1)
   ·rw [if_pos e2,if_neg (by omega),if_pos (by omega),if_pos rfl]
   ·rw [if_neg e2]
    by_cases e3:i = k
    ·rw [if_pos (by omega),if_neg (by omega),if_pos e3,e3]
    ·rw [if_neg (by omega),if_neg (by omega),if_neg (by omega),if_neg (by omega)]
theorem atD_down:∀ (n k:Nat) (l:List Int) (i:Nat),n ≤ k→k < l.length→atD (downD n k l) i = if i < k - n ∨ k < i then atD l i else if i = k - n then atD l k else atD l (i - 1)
 | 0,k,l,i,h,h2=>by
  show atD l i = _
  by_cases e:i < k - 0 ∨ k < i
  ·rw [if_pos e]
  ·rw [if_neg e,if_pos (by omega),show i = k by omega]
 | n + 1,k,l,i,h,h2=>by
  have hs:∀ q,atD (swp l k (k - 1)) q = if q = k - 1 then atD l k else if q = k then atD l (k - 1) else atD l q:=fun q=>atD_swp (by omega) (by omega)
  rw [downD,atD_down n (k - 1) _ i (by omega) (by rw [swp_len];omega),hs,hs,hs]
  by_cases e1:i < k - (n + 1) ∨ k < i
  ·rw [if_pos e1,if_pos (by omega),if_neg (by omega),if_neg (by omega)]
  ·rw [if_neg e1]
   by_cases e2:i = k - (n + 1)
   ·rw [if_pos e2,if_neg (by omega),if_pos (by omega),if_pos rfl]
   ·rw [if_neg e2]
    by_cases e3:i = k
    ·rw [if_pos (by omega),if_neg (by omega),if_pos e3,e3]
    ·rw [if_neg (by omega),if_neg (by omega),if_neg (by omega),if_neg (by omega)]
theorem atD_rng:∀ (n a b:Nat) (l:List Int) (i:Nat),a + n ≤ b→b + n ≤ l.length→atD (rngD n a b l) i = if a ≤ i∧i < a + n then atD l (i + (b - a)) else if b ≤ i∧i < b + n then atD l (i - (b - a)) else atD l i
 | 0,a,b,l,i,h,h2=>by
  show atD l i = _
  rw [if_neg (by omega),if_neg (by omega)]
 | n + 1,a,b,l,i,h,h2=>by
  have hs:∀ q,atD (swp l a b) q = if q = b then atD l a else if q = a then atD l b else atD l q:=fun q=>atD_swp (by omega) (by omega)
  rw [rngD,atD_rng n (a + 1) (b + 1) _ i (by omega) (by rw [swp_len];omega),hs,hs,hs]
  by_cases e1:i = a
  ·rw [if_neg (by omega),if_neg (by omega),if_neg (by omega),if_pos e1,if_pos (by omega),show i + (b - a) = b by omega]
  ·by_cases e2:i = b
   ·rw [if_neg (by omega),if_neg (by omega),if_pos e2,if_neg (by omega),if_pos (by omega),show i - (b - a) = a by omega]
   ·by_cases e3:a ≤ i∧i < a + (n + 1)
    ·rw [if_pos (by omega),if_neg (by omega),if_neg (by omega),if_pos e3,show i + (b + 1 - (a + 1)) = i + (b - a) by omega]
    ·by_cases e4:b ≤ i∧i < b + (n + 1)
     ·rw [if_neg (by omega),if_pos (by omega),if_neg (by omega),if_neg (by omega),if_neg e3,if_pos e4,show i - (b + 1 - (a + 1)) = i - (b - a) by omega]
     ·rw [if_neg (by omega),if_neg (by omega),if_neg (by omega),if_neg (by omega),if_neg e3,if_neg e4]
theorem rngD_len:∀ (n a b:Nat) (l:List Int),(rngD n a b l).length = l.length
 | 0,_,_,_=>rfl
 | n + 1,a,b,l=>by rw [rngD,rngD_len n,swp_len]
theorem atD_rot (m:Nat):∀ (n i j:Nat) (l:List Int) (k:Nat),0 < i→0 < j→i ≤ m→m + j ≤ l.length→i + j ≤ n→atD (rotD m n i j l) k = if k < m - i ∨ m + j ≤ k then atD l k else if k < m - i + j then atD l (k + i) else atD l (k - j)
 | 0,i,j,l,k,h1,h2,h3,h4,h5=>by omega
 | n + 1,i,j,l,k,h1,h2,h3,h4,h5=>by
  unfold rotD
  by_cases e:i = j
  ·subst e
   rw [if_pos rfl,atD_rng _ _ _ _ _ (by omega) (by omega)]
   by_cases c1:k < m - i ∨ m + i ≤ k
   ·rw [if_pos c1,if_neg (by omega),if_neg (by omega)]
   ·rw [if_neg c1]
    by_cases c2:k < m - i + i
    ·rw [if_pos c2,if_pos (by omega),show m - (m - i) = i by omega]
    ·rw [if_neg c2,if_neg (by omega),if_pos (by omega),show m - (m - i) = i by omega]
  ·rw [if_neg e]
   by_cases e2:j < i
   ·rw [if_pos e2,atD_rot m n (i - j) j _ k (by omega) h2 (by omega) (by rw [rngD_len];exact h4) (by omega)]
    have hs:∀ q,atD (rngD j (m - i) m l) q = if m - i ≤ q∧q < m - i + j then atD l (q + i) else if m ≤ q∧q < m + j then atD l (q - i) else atD l q:=fun q=>by
     rw [atD_rng _ _ _ _ _ (by omega) (by omega),show m - (m - i) = i by omega]
    rw [hs,hs,hs]
    by_cases c1:k < m - i ∨ m + j ≤ k
    ·rw [if_pos c1,if_pos (by omega),if_neg (by omega),if_neg (by omega)]
    ·rw [if_neg c1]
     by_cases c2:k < m - i + j
     ·rw [if_pos c2,if_pos (by omega),if_pos (by omega)]
     ·rw [if_neg c2,if_neg (by omega)]
      by_cases c3:k < m - (i - j) + j
      ·rw [if_pos c3,if_neg (by omega),if_pos (by omega),show k + (i - j) - i = k - j by omega]
      ·rw [if_neg c3,if_neg (by omega),if_neg (by omega)]
   ·rw [if_neg e2,atD_rot m n i (j - i) _ k h1 (by omega) h3 (by rw [rngD_len];omega) (by omega)]
    have hs:∀ q,atD (rngD i (m - i) (m + j - i) l) q = if m - i ≤ q∧q < m then atD l (q + j) else if m + j - i ≤ q∧q < m + j then atD l (q - j) else atD l q:=fun q=>by
     rw [atD_rng _ _ _ _ _ (by omega) (by omega),show m + j - i - (m - i) = j by omega,show m - i + i = m by omega,show m + j - i + i = m + j by omega]
    rw [hs,hs,hs]
    by_cases c1:k < m - i ∨ m + j ≤ k
    ·rw [if_pos c1,if_pos (by omega),if_neg (by omega),if_neg (by omega)]
    ·rw [if_neg c1]
     by_cases c2:k < m - i + j
     ·rw [if_pos c2]
      by_cases c3:k < m - i + (j - i)
      ·rw [if_neg (by omega),if_pos c3]
       by_cases c4:k < m - i
       ·omega
       ·by_cases c5:m - i ≤ k + i∧k + i < m
        ·omega
        ·rw [if_neg c5,if_neg (by omega)]
      ·by_cases c4:m + (j - i) ≤ k
       ·rw [if_pos (by omega),if_neg (by omega),if_pos (by omega)]
        omega
       ·rw [if_neg (by omega),if_neg c3,if_pos (by omega),show k - (j - i) + j = k + i by omega]
     ·rw [if_neg c2,if_pos (by omega),if_neg (by omega),if_pos (by omega)]
theorem upD_loc:∀ (n k:Nat) (l:List Int) {a b:Nat},a ≤ k→k + n < b→b ≤ l.length→Loc a b l (upD n k l)
 | 0,_,l,a,b,_,_,_=>Loc.refl _ _ _
 | n + 1,k,l,a,b,h1,h2,h3=>(Loc.swap ⟨h1,by omega⟩ ⟨by omega,by omega⟩ h3).trans (upD_loc n (k + 1) _ (by omega) (by omega) (by rw [swp_len];exact h3))
theorem downD_loc:∀ (n k:Nat) (l:List Int) {a b:Nat},a + n ≤ k→k < b→b ≤ l.length→Loc a b l (downD n k l)
 | 0,_,l,a,b,_,_,_=>Loc.refl _ _ _
 | n + 1,k,l,a,b,h1,h2,h3=>(Loc.swap ⟨by omega,by omega⟩ ⟨by omega,by omega⟩ h3).trans (downD_loc n (k - 1) _ (by omega) (by omega) (by rw [swp_len];exact h3))
theorem rngD_loc:∀ (n x y:Nat) (l:List Int) {a b:Nat},a ≤ x→x + n ≤ b→a ≤ y→y + n ≤ b→b ≤ l.length→Loc a b l (rngD n x y l)
 | 0,_,_,l,a,b,_,_,_,_,_=>Loc.refl _ _ _
 | n + 1,x,y,l,a,b,h1,h2,h3,h4,h5=>(Loc.swap ⟨h1,by omega⟩ ⟨h3,by omega⟩ h5).trans (rngD_loc n (x + 1) (y + 1) _ (by omega) (by omega) (by omega) (by omega) (by rw [swp_len];exact h5))
theorem rotD_loc (m:Nat):∀ (n i j:Nat) (l:List Int) {a b:Nat},a + i ≤ m→m + j ≤ b→b ≤ l.length→Loc a b l (rotD m n i j l)
 | 0,_,_,l,a,b,_,_,_=>Loc.refl _ _ _
 | n + 1,i,j,l,a,b,h1,h2,h3=>by
  unfold rotD
  split
  ·exact rngD_loc _ _ _ _ (by omega) (by omega) (by omega) (by omega) h3
  ·split
   ·exact (rngD_loc _ _ _ _ (by omega) (by omega) (by omega) (by omega) h3).trans (rotD_loc m n _ _ _ (by omega) (by omega) (by rw [rngD_len];exact h3))
   ·exact (rngD_loc _ _ _ _ (by omega) (by omega) (by omega) (by omega) h3).trans (rotD_loc m n _ _ _ (by omega) (by omega) (by rw [rngD_len];exact h3))
theorem bsD_spec (f:Nat→Bool):∀ (n i j:Nat),i ≤ j→j - i ≤ n→(∀ h h',i ≤ h→h ≤ h'→h' < j→f h' = true→f h = true)→(∀ h,i ≤ h→h < bsD f n i j→f h = true)∧∀ h,bsD f n i j ≤ h→h < j→f h = false
 | 0,i,j,h1,h2,hm=>⟨fun h a b=>by have:bsD f 0 i j = i:=rfl;omega,fun h a b=>by have:bsD f 0 i j = i:=rfl;omega⟩
 | n + 1,i,j,h1,h2,hm=>by
  by_cases e:i < j
  ·rw [bsD_step f e]
   by_cases y:f ((i + j) / 2) = true
   ·rw [if_pos y]
    obtain ⟨k1,k2⟩:=bsD_spec f n ((i + j) / 2 + 1) j (by omega) (by omega) (fun h h' a b c d=>hm h h' (by omega) b c d)
    refine ⟨fun h a b=>?_,k2⟩
    by_cases g:h ≤ (i + j) / 2
    ·exact hm h _ a g (by omega) y
    ·exact k1 h (by omega) b
   ·rw [if_neg y]
    obtain ⟨k1,k2⟩:=bsD_spec f n i ((i + j) / 2) (by omega) (by omega) (fun h h' a b c d=>hm h h' a b (by omega) d)
    refine ⟨k1,fun h a b=>?_⟩
    by_cases g:h < (i + j) / 2
    ·exact k2 h a g
    ·cases hf:f h with
     | false=>rfl
     | true=>exact absurd (hm ((i + j) / 2) h (by omega) (by omega) b hf) y
  ·rw [bsD_end f e]
   exact ⟨fun h a b=>by omega,fun h a b=>by omega⟩
section
variable (c:Int→Int→Int) (K:Int→Int)
def Bef (x y:Int):Prop:=K y < K x ∨ (K x = K y∧x < y)
variable {K}
theorem Bef.trans {x y z:Int} (h:Bef K x y) (k:Bef K y z):Bef K x z:=by unfold Bef at *;omega
def SegR (K:Int→Int) (l:List Int) (a b:Nat):Prop:=∀ i j,a ≤ i→i < j→j < b→Bef K (atD l i) (atD l j)
def Crs (l:List Int) (a m b:Nat):Prop:=∀ i j,a ≤ i→i < m→m ≤ j→j < b→atD l i < atD l j
variable {c} (hc:∀ x y,c x y < 0 ↔ K y < K x)
include hc
theorem lss_iff {l:List Int} {i j:Nat}:lssAt c l i j = true ↔ K (atD l j) < K (atD l i):=by
 unfold lssAt
 rw [decide_eq_true_iff]
 exact hc _ _
theorem lss_yes {l:List Int} {i j:Nat} (h:lssAt c l i j = true):Bef K (atD l i) (atD l j):=.inl ((lss_iff hc).1 h)
theorem lss_no {l:List Int} {i j:Nat} (h:lssAt c l i j = false) (hx:atD l j < atD l i):Bef K (atD l j) (atD l i):=by
 have:¬ K (atD l j) < K (atD l i):=fun e=>by rw [(lss_iff hc).2 e] at h;cases h
 unfold Bef
 omega
theorem lss_bef {l:List Int} {i j:Nat} (h:Bef K (atD l i) (atD l j)) (hx:atD l j < atD l i):lssAt c l i j = true:=(lss_iff hc).2 (by unfold Bef at h;omega)
theorem lss_not {l:List Int} {i j:Nat} (h:Bef K (atD l j) (atD l i)):lssAt c l i j = false:=by
 cases e:lssAt c l i j with
 | false=>rfl
 | true=>have:=(lss_iff hc).1 e;unfold Bef at h;omega
theorem insJ_srt {a i:Nat}:∀ (j:Nat) (l:List Int),a ≤ j→j ≤ i→i < l.length→(∀ p q,a ≤ p→p < q→q ≤ i→¬ p = j→¬ q = j→Bef K (atD l p) (atD l q))→(∀ q,j < q→q ≤ i→Bef K (atD l j) (atD l q))→(∀ p,a ≤ p→p < j→atD l p < atD l j) →
  SegR K (insJ c a j l) a (i + 1)∧Loc a (i + 1) l (insJ c a j l)
 | 0,l,h1,h2,h3,g1,g2,g3=>⟨fun p q e1 e2 e3=>by
   by_cases ep:p = 0
   ·have:=g2 q (by omega) (by omega);rw [ep];exact this
   ·exact g1 p q e1 e2 (by omega) ep (by omega),Loc.refl _ _ _⟩
 | j + 1,l,h1,h2,h3,g1,g2,g3=>by
  unfold insJ
  by_cases e:a < j + 1∧lssAt c l (j + 1) j = true
  ·rw [if_pos e]
   have hs:∀ q,atD (swp l (j + 1) j) q = if q = j then atD l (j + 1) else if q = j + 1 then atD l j else atD l q:=fun q=>atD_swp (by omega) (by omega)
   have hy:=lss_yes hc e.2
   obtain ⟨r1,r2⟩:=insJ_srt (a:=a) (i:=i) j (swp l (j + 1) j) (by omega) (by omega) (by rw [swp_len];exact h3) (fun p q e1 e2 e3 e4 e5=>by
    rw [hs p,hs q,if_neg e4,if_neg e5]
    by_cases p1:p = j + 1
    ·rw [if_pos p1,if_neg (by omega)]
     exact g1 j q (by omega) (by omega) e3 (by omega) (by omega)
    ·rw [if_neg p1]
     by_cases q1:q = j + 1
     ·rw [if_pos q1]
      exact g1 p j e1 (by omega) (by omega) (by omega) (by omega)
     ·rw [if_neg q1]
      exact g1 p q e1 e2 e3 p1 q1) (fun q e1 e2=>by
    rw [hs j,hs q,if_pos rfl,if_neg (by omega)]
    by_cases q1:q = j + 1
    ·rw [if_pos q1];exact hy
    ·rw [if_neg q1];exact g2 q (by omega) e2) (fun p e1 e2=>by
    rw [hs p,hs j,if_pos rfl,if_neg (by omega),if_neg (by omega)]
    exact g3 p e1 (by omega))
   exact ⟨r1,(Loc.swap (i:=j + 1) (j:=j) ⟨by omega,by omega⟩ ⟨by omega,by omega⟩ (by omega)).trans r2⟩
  ·rw [if_neg e]
   refine ⟨fun p q e1 e2 e3=>?_,Loc.refl _ _ _⟩
   by_cases p1:p = j + 1
   ·rw [p1];exact g2 q (by omega) (by omega)
   ·by_cases q1:q = j + 1
    ·subst q1
     have hn:lssAt c l (j + 1) j = false:=by
      cases hh:lssAt c l (j + 1) j with
      | false=>rfl
      | true=>exact absurd ⟨by omega,hh⟩ e
     have hb:=lss_no hc hn (g3 j (by omega) (by omega))
     by_cases pj:p = j
     ·rw [pj];exact hb
     ·exact (g1 p j e1 (by omega) (by omega) (by omega) (by omega)).trans hb
    ·exact g1 p q e1 e2 (by omega) p1 q1
theorem insI_srt {a:Nat}:∀ (k i:Nat) (l0 l:List Int),a ≤ i→i + k ≤ l.length→SegR K l a i→Loc a i l0 l→(∀ p q,a ≤ p→p < q→q < i + k→atD l0 p < atD l0 q)→SegR K (insI c a k i l) a (i + k)∧Loc a (i + k) l (insI c a k i l)
 | 0,i,l0,l,_,_,h,_,_=>⟨h,Loc.refl _ _ _⟩
 | k + 1,i,l0,l,h1,h2,h3,h4,h5=>by
  unfold insI
  obtain ⟨r1,r2⟩:=insJ_srt hc (a:=a) (i:=i) i l h1 (Nat.le_refl _) (by omega) (fun p q e1 e2 e3 e4 e5=>h3 p q e1 e2 (by omega)) (fun q e1 e2=>by omega) (fun p e1 e2=>by
   obtain ⟨p',b1,b2,e⟩:=h4.ins p e1 e2
   rw [e,h4.out i (by omega)]
   exact h5 p' i b1 b2 (by omega))
  have hl:=r2.len
  have:=insI_srt (a:=a) k (i + 1) l0 (insJ c a i l) (by omega) (by rw [hl];omega) r1 ((h4.wide (Nat.le_refl _) (by omega)).trans r2) (fun p q e1 e2 e3=>h5 p q e1 e2 (by omega))
  rw [show i + (k + 1) = i + 1 + k by omega]
  exact ⟨this.1,(r2.wide (Nat.le_refl _) (by omega)).trans this.2⟩
theorem insD_srt {a b:Nat} {l:List Int} (hb:b ≤ l.length) (hab:a ≤ b) (hu:∀ p q,a ≤ p→p < q→q < b→atD l p < atD l q):SegR K (insD c a b l) a b∧Loc a b l (insD c a b l):=by
 unfold insD
 by_cases e:a + 1 ≤ b
 ·have:=insI_srt hc (a:=a) (b - (a + 1)) (a + 1) l l (by omega) (by omega) (fun i j e1 e2 e3=>by omega) (Loc.refl _ _ _) (fun p q e1 e2 e3=>hu p q e1 e2 (by omega))
  rw [show a + 1 + (b - (a + 1)) = b by omega] at this
  exact this
 ·rw [show b - (a + 1) = 0 by omega]
  exact ⟨fun i j e1 e2 e3=>by omega,Loc.refl _ _ _⟩
end
end Go.Proofs.YtoeaglpmkjoenaaGreat
