/-
  Chapter 21: the law ArenaHolds: its walk. No condition.
-/
import Derived.IntWalk
import Derived.Test.YtoeaglpmkjoenaaGreatQArnA
import Derived.Test.YtoeaglpmkjoenaaGreatQRtD
set_option linter.unusedSimpArgs false
set_option linter.unusedVariables false
namespace Go.Proofs.YtoeaglpmkjoenaaGreat
open Go.RowKit
open Rep (rep)
theorem bits_low21 (x:Int):0 ≤ bits .and .i64 x 65535∧bits .and .i64 x 65535 ≤ 65535:=by
 have h:∀ m:Nat,m ≤ 65535→0 ≤ IntKind.i64.wrap (m:Int)∧IntKind.i64.wrap (m:Int) ≤ 65535:=fun m hm=>by
  rw [IntWalk.i64_in _ (by omega)];omega
 refine h _ ?_
 rw [BitVec.toNat_and]
 exact Nat.le_trans Nat.and_le_right (by decide)
theorem low_mod21 (x:Int) (n:Nat) (hn:0 < n):∃ k:Nat,(bits .and .i64 x 65535).tmod n = (k:Int)∧k < n:=by
 have h:=bits_low21 x
 rw [Int.tmod_eq_emod_of_nonneg h.1]
 have h1:=Int.emod_nonneg (bits .and .i64 x 65535) (show (n:Int) ≠ 0 by omega)
 have h2:=Int.emod_lt_of_pos (bits .and .i64 x 65535) (show (0:Int) < (n:Int) by omega)
 exact ⟨((bits .and .i64 x 65535) % n).toNat,by omega,by omega⟩
section
variable {ops:Array Oper} {S:World→Prop} {o:Oper} {a:Act}
theorem yields_and16 (hw:Region.wanted o (yielded ops a.tmps) = true) (x y:Operand) (t u:TypeId) (ho:o.op = .binOp .and t x y u) (p q:Int) (hx:a.eval x = .int .i64 p) (hy:a.eval y = .int .i64 65535) (_:Tryz.prog.underlying t = some (.int .i64)) (hq:bits .and .i64 p 65535 = q):YieldsIf Tryz.prog ops S o (.int .i64 q) a :=
 .inl ⟨hw,fun w h=>by
  subst hq
  unfold execOp
  simp only [ho,hx,hy]
  go_simp⟩
theorem yields_remN (hw:Region.wanted o (yielded ops a.tmps) = true) (x y:Operand) (t u:TypeId) (ho:o.op = .binOp .rem t x y u) (p:Int) (n k:Nat) (hx:a.eval x = .int .i64 p) (hy:a.eval y = .int .i64 (n:Int)) (_:Tryz.prog.underlying t = some (.int .i64)) (hn:0 < n) (hk:p.tmod n = (k:Int)):YieldsIf Tryz.prog ops S o (.int .i64 (k:Int)) a :=
 .inl ⟨hw,fun w h=>by
  have h1:¬ (n:Int) = 0:=by omega
  have h2:¬ (n:Int) = -1:=by omega
  have h3:¬ n = 0:=by omega
  unfold execOp
  simp only [ho,hx,hy]
  go_simp⟩
end
def Yes21 (w:World) (e:Ending) (w':World):Prop:=e = .returned (.bool true)∧Below w.heap.size w w'
structure PickI (w:World) (cs:List Value) (p:PlanD) (B:World) (v:Value) (al:List Nat) (W:World):Prop where
 box:PlanI w cs p W
 own:AppI B W v (natI al)
theorem PickI.next {w W W' B:World} {cs:List Value} {p:PlanD} {v:Value} {al:List Nat} (h:PickI w cs p B v al W) (hb:Below W.heap.size W W'):PickI w cs p B v al W':=⟨h.box.next hb,h.own.next hb⟩
set_option maxRecDepth 100000 in
set_option maxHeartbeats 16000000 in
theorem holds21_any (cs:List Value) (p:PlanD) (most:Int) (picks:List Int) (Ap:Option Addr) (cp:Nat) (w:World) (hr:rep w (old w.heap.size) cs p) (hs:PlanB p) (hpk:rep w (old w.heap.size) [.slice Ap picks.length cp] picks) :
  Calls Tryz.prog 4 #[.agg cs.toArray,.int .i64 most,.slice Ap picks.length cp] w (Yes21 w):=by
 obtain ⟨A6,k6,h5,n6,n6',r6,h6⟩:=sizes_lie hr
 obtain ⟨np,np'⟩:=slice_bnd hpk
 have HC:=Lib.hid (And.intro h5 (And.intro h6 (ints_lie hpk)))
 have HR:=Lib.hid (And.intro hr hs)
 obtain ⟨n,hn⟩:∃ n,p.size.length = n:=⟨_,rfl⟩
 obtain ⟨m,hm⟩:∃ m,picks.length = m:=⟨_,rfl⟩
 rw [hn,hm] at HC
 rw [hn] at n6
 rw [hm] at np ⊢
 have HN:=Lib.hid hn
 clear h5 r6 h6 hr hs hn hm hpk
 go_enter Tryz.func4,Tryz.ntmps4
 go_wp2_with (with_reducible refine wpList_box_row rfl 30 _ rfl cs rfl ?_;have hX:=plan_start HR.out.1;generalize World.alloc _ _ = W0 at hX ⊢;have HX:=Lib.hid hX;clear hX;refine halt ?_)
 unfold Halt
 go_wp2_with fail
 refine (awake21_any W0).mono ?_
 rintro e w1 ⟨rfl,hb⟩
 replace HX:=Lib.hid (HX.out.next hb)
 clear hb
 go_wp2_with (with_reducible refine wpList_load_agg_w (by with_unfolding_all rfl) 30 _ rfl _ w.heap.size 0 rfl cs Tryz.underlying30 rfl HX.out.size HX.out.at ?_)
 refine (arenaPack_any cs p 1099511627776 w1 HX.out.arg HR.out.2).mono ?_
 rintro e w2 ⟨hb2,hp2⟩
 have HX2:=Lib.hid (HX.out.next hb2)
 by_cases hok:SizesOk p
 ·have HOK:=Lib.hid hok
  have hbd:=packAll_bd hok
  have hp2':∃ ab,e = .returned (.tuple #[.slice (some ⟨ab,0,none⟩) n n,.int .i64 (packAll p).2,.int .i64 0])∧w2.heap[ab]? = some (.cells ((packAll p).1.map (Value.int .i64)).toArray 3 (0,0)):=by
   rw [HN.out] at hp2
   rcases hp2 with ⟨h,-⟩ | ⟨-,h,-⟩ | ⟨-,-,ab,h1,-,h2,-⟩
   ·exact (h hok).elim
   ·omega
   ·exact ⟨ab,h1,h2⟩
  obtain ⟨ab,rfl,hrow⟩:=hp2'
  have HI:=Lib.hid (packAll_I hok)
  have HLA:=Lib.hid (And.intro (size_sum hok) (And.intro (size_max hok n (by rw [HN.out];exact Nat.le_refl _)) (fun al (h:AliveD p al)=>alive_le hok h)))
  rw [HN.out] at HLA
  have HPK:Hid (∀ W,rep W (old W.heap.size) cs p→Calls Tryz.prog 6 #[.agg cs.toArray,.int .i64 most] W (fun e W'=>Below W.heap.size W W'∧((packAll p).2 > most∧e = .returned (.tuple #[.slice none 0 0,.int .i64 0,.int .i64 9]) ∨ ¬ (packAll p).2 > most∧∃ ab2,e = .returned (.tuple #[.slice (some ⟨ab2,0,none⟩) n n,.int .i64 (packAll p).2,.int .i64 0])))):=Lib.hid fun W hW=>(arenaPack_any cs p most W hW HR.out.2).mono fun e W' ⟨h1,h2⟩=>⟨h1,by
   rw [HN.out] at h2
   rcases h2 with ⟨h,-⟩ | ⟨-,h,h3⟩ | ⟨-,h,ab2,h3,-⟩
   ·exact (h hok).elim
   ·exact .inl ⟨h,h3⟩
   ·exact .inr ⟨h,ab2,h3⟩⟩
  have HCK:=Lib.hid (pack_check hok HI.out)
  obtain ⟨at_,hat⟩:∃ a,(packAll p).1 = a:=⟨_,rfl⟩
  obtain ⟨sz,hsz⟩:∃ s,(packAll p).2 = s:=⟨_,rfl⟩
  rw [hat] at hrow
  rw [hsz] at hbd HPK HLA ⊢
  rw [hat,hsz] at HI HCK
  have HW2:=Lib.hid hrow
  have HAL:Hid (at_.length = n):=Lib.hid (by rw [HI.out.len,HN.out])
  have hn4:n ≤ 4096:=by rw [← HN.out];exact hok.1
  have HA64:Hid (∀ x ∈ at_,I64 x):=Lib.hid fun x hx=>by
   obtain ⟨i,hi⟩:=List.mem_iff_getElem?.1 hx
   have hil:=(List.getElem?_eq_some_iff.1 hi).1
   have hgx:atD at_ i = x:=by unfold atD;rw [List.getD_eq_getElem?_getD,hi];rfl
   have h1:=HCK.out.2.1 i (by rw [HN.out,← HAL.out];exact hil)
   unfold InsD at h1
   rw [hgx] at h1
   unfold I64
   omega
  clear hp2 hb2 hrow hat hsz hok HX HI
  go_wp2_with (with_reducible refine wpList_load_agg_w (by with_unfolding_all rfl) 30 _ rfl _ w.heap.size 0 rfl cs Tryz.underlying30 rfl HX2.out.size HX2.out.at ?_)
  refine (HPK.out w2 HX2.out.arg).mono ?_
  rintro e w3 ⟨hb3,hp3⟩
  have HX3:=Lib.hid (HX2.out.next hb3)
  have HW3:=Lib.hid ((hb3.block ab (Array.getElem?_eq_some_iff.1 HW2.out).1).trans HW2.out)
  clear hb3 HX2 HW2 HPK
  have hch:=arenaCheck_any cs p (some ⟨ab,0,none⟩) n at_ sz w3 HX3.out.arg HR.out.2 HOK.out (by rw [HAL.out];exact own_arr HW3.out HAL.out HA64.out hn4) (by unfold I64;omega)
  rw [HAL.out] at hch
  have HCH:Hid (Calls Tryz.prog 9 #[.agg cs.toArray,.slice (some ⟨ab,0,none⟩) n n,.int .i64 sz] w3 fun e W'=>e = .returned (.bool true)∧Below w3.heap.size w3 W'):=Lib.hid (hch.mono fun e W' ⟨b,h1,h2,h3⟩=>⟨by rw [h1,(chkB_eq h3).1 HCK.out],h2⟩)
  clear hch HCK HA64 HAL HW3
  rcases hp3 with ⟨h,rfl⟩ | ⟨h,ab2,rfl⟩
  ·have hle:decide (sz ≤ most) = false:=decide_eq_false (by omega)
   have hlt:most < sz:=by omega
   clear h
   go_wp2_with (with_reducible refine wpList_load_agg_w (by with_unfolding_all rfl) 30 _ rfl _ w.heap.size 0 rfl cs Tryz.underlying30 rfl HX3.out.size HX3.out.at ?_)
   refine HCH.out.mono ?_
   rintro e w4 ⟨rfl,hb4⟩
   have HX4:=Lib.hid (HX3.out.next hb4)
   clear hb4 HX3 HCH
   go_wp2_with fail
   go_loop [14,15,16] (fun x y i=>∃ k:Nat,x = .int .i64 (sumS p k)∧y = .int .i64 (maxS p k)∧i = .int .i64 k∧k ≤ n) (fun _ _ i=>n - (intOf i).toNat)
   case atStart=>exact ⟨0,rfl,rfl,rfl,Nat.zero_le _⟩
   case round =>
    obtain ⟨k,rfl,rfl,rfl,hk⟩:=hrel
    have hk0:(0:Int) ≤ (k:Int):=Int.natCast_nonneg _
    have c5:=HX4.out.cell HC.out.1
    obtain ⟨u1,u2⟩:=sumS_bd HOK.out k
    obtain ⟨u3,u4⟩:=maxS_bd HOK.out k
    by_cases hlt:k < n
    ·have hlt':(k:Int) < (n:Int):=by omega
     obtain ⟨b6,o6,rfl,hb6,ks⟩:=HC.out.2.1 k hlt
     have ks':=HX4.out.old2 (show b6 < w.heap.size from hb6) ks
     obtain ⟨s1,s2⟩:=sizes_bd HOK.out k
     have HSS:Hid (sumS p (k + 1) = sumS p k + szAt p k∧maxS p (k + 1) = max (maxS p k) (szAt p k)):=Lib.hid ⟨rfl,rfl⟩
     obtain ⟨su,hsu⟩:∃ s,sumS p k = s:=⟨_,rfl⟩
     obtain ⟨mx,hmx⟩:∃ s,maxS p k = s:=⟨_,rfl⟩
     obtain ⟨sk,hsk⟩:∃ s,szAt p k = s:=⟨_,rfl⟩
     rw [hsu,hmx,hsk] at HSS
     rw [hsu] at u1 u2 ⊢
     rw [hmx] at u3 u4 ⊢
     rw [hsk] at ks' s1 s2
     clear hb6 ks hsu hmx hsk
     go_wp2
     go_round
     case rel=>exact ⟨k + 1,by rw [HSS.out.1],by rw [HSS.out.2],by go_num,by omega⟩
     case measure=>simp [intOf];omega
    ·have hlt':¬ (k:Int) < (n:Int):=by omega
     obtain rfl:k = n:=by omega
     obtain ⟨su,hsu⟩:∃ s,sumS p k = s:=⟨_,rfl⟩
     obtain ⟨mx,hmx⟩:∃ s,maxS p k = s:=⟨_,rfl⟩
     rw [hsu,hmx] at HLA
     rw [hsu] at u1 u2 ⊢
     rw [hmx] at u3 u4 ⊢
     obtain ⟨g1,g2,-⟩:=HLA.out
     clear hsu hmx
     obtain ⟨i0,hi0,hz0,hz1,hz2⟩:=info_parts info_int1
     go_wp2_with fail
     clear c5
     go_loopw [17,18,19] (fun v x i wr=>∃ (j:Nat) (al:List Nat),i = .int .i64 j∧j ≤ m∧al.length ≤ j∧j ≤ 100∧x = .int .i64 (sumA p al)∧Hid (AliveD p al∧PickI w cs p w4 v al wr)) (fun _ _ i _=>m - (intOf i).toNat)
     case atStart=>exact ⟨0,[],rfl,Nat.zero_le _,Nat.le_refl _,by omega,rfl,Lib.hid ⟨AliveD.nil p,HX4.out,AppI.nil _⟩⟩
     case round =>
      obtain ⟨j,al,rfl,hj,hal,hj100,rfl,HS⟩:=hrel
      obtain ⟨wx,rfl⟩:∃ wx,wx = wr:=⟨_,rfl⟩
      have hj0:(0:Int) ≤ (j:Int):=Int.natCast_nonneg _
      have c5:=HS.out.2.box.cell HC.out.1
      obtain ⟨a1,a2⟩:=HLA.out.2.2 al HS.out.1
      obtain ⟨at1,hat1⟩:∃ s,sumA p al = s:=⟨_,rfl⟩
      have HAT:=Lib.hid hat1
      rw [hat1] at a1 a2 ⊢
      clear hat1
      by_cases hgo:j < m∧j < 100∧0 < k
      ·obtain ⟨q1,q2,q3⟩:=hgo
       have q1':(j:Int) < (m:Int):=by omega
       have q2':(j:Int) < 100:=by omega
       have q3':(k:Int) > 0:=by omega
       obtain ⟨x64,b7,o7,rfl,hb7,kx⟩:=HC.out.2.2 j q1
       obtain ⟨px,hpx⟩:∃ x,atD picks j = x:=⟨_,rfl⟩
       rw [hpx] at kx
       obtain ⟨v,hv,hvk⟩:=low_mod21 px k q3
       obtain ⟨lw,hlw⟩:∃ l,bits .and .i64 px 65535 = l:=⟨_,rfl⟩
       rw [hlw] at hv
       obtain ⟨b6,o6,rfl,hb6,ks⟩:=HC.out.2.1 v hvk
       have HKX:=Lib.hid (And.intro (show b7 < w.heap.size from hb7) (And.intro kx (And.intro hlw (And.intro hv (And.intro (show b6 < w.heap.size from hb6) ks)))))
       obtain ⟨s1,s2⟩:=sizes_bd HOK.out v
       obtain ⟨sv,hsv⟩:∃ s,szAt p v = s:=⟨_,rfl⟩
       rw [hsv] at HKX s1 s2
       have HSV:=Lib.hid hsv
       clear x64 hb7 kx hpx hlw hv hb6 ks hsv
       go_upto_region 20 with (fail)
       refine wp_region_held_drew (S:=fun V=>PickI w cs p w4 u17 al V) (by kernel_rfl) (HS.out.2.next ((Below.refl _ _).drew)) (fun hHeld=>?_)
       generalize World.drew _ = V0 at hHeld ⊢
       refine tk0 0 (some 103) (v:=.slice (some ⟨b7,o7,none⟩) m cp) rfl hHeld ?_
       refine tk0 1 (some 104) (v:=.int .i64 (j:Int)) rfl hHeld ?_
       refine tk9 2 (some 105) (v:=.pointer (some ⟨b7,o7 + j,none⟩)) rfl (yields_idx (by kernel_rfl) _ _ rfl b7 o7 (m) cp j (by kernel_rfl) (by kernel_rfl) q1) hHeld ?_
       refine tk9 3 (some 106) (v:=.int .i64 px) rfl (yields_load_one9 (by kernel_rfl) _ _ rfl b7 (o7 + j) (by kernel_rfl) _ _ Tryz.underlying3 rfl (fun _ h=>h.box.old2 HKX.out.1 HKX.out.2.1)) hHeld ?_
       refine tk9 4 (some 107) (v:=.int .i64 lw) rfl (yields_and16 (by kernel_rfl) _ _ _ _ rfl px lw (by kernel_rfl) (by kernel_rfl) (by kernel_rfl) HKX.out.2.2.1) hHeld ?_
       refine tk0 5 (some 108) (v:=.pointer (some ⟨w.heap.size,5,none⟩)) rfl hHeld ?_
       refine tk9 6 (some 109) (v:=.slice (some ⟨b6,o6,none⟩) k k6) rfl (yields_load_one9 (by kernel_rfl) _ _ rfl (w.heap.size) (5) (by kernel_rfl) _ _ Tryz.underlying24 rfl (fun _ h=>h.box.cell HC.out.1)) hHeld ?_
       refine tk0 7 (some 110) (v:=.int .i64 (k:Int)) rfl hHeld ?_
       refine tk9 8 (some 111) (v:=.int .i64 (v:Int)) rfl (yields_remN (by kernel_rfl) _ _ _ _ rfl lw k v (by kernel_rfl) (by kernel_rfl) (by kernel_rfl) q3 HKX.out.2.2.2.1) hHeld ?_
       refine tk0 9 (some 20) (v:=.int .i64 (v:Int)) rfl hHeld ?_
       refine wpAnyH_done (by kernel_rfl) ?_ _
       have HP5:=Lib.hid hHeld
       have HB5:=Lib.hid hHeld.box
       clear hHeld c5
       simp [Act.put]
       have ks:=HB5.out.old2 HKX.out.2.2.2.2.1 HKX.out.2.2.2.2.2
       have c5:=HB5.out.cell HC.out.1
       obtain ⟨ok0,hok0⟩:∃ b,decide (sv > 0) = b:=⟨_,rfl⟩
       go_wp2_with fail
       try rw [hok0]
       have HOK0:=Lib.hid hok0
       clear hok0 ks c5
       obtain ⟨A9,c9,hv9,ho9⟩:=HP5.out.own.lst (by unfold natI;rw [List.length_map];omega)
       have HNL:Hid ((natI al).length = al.length):=Lib.hid (by unfold natI;exact List.length_map ..)
       obtain ⟨la,hla⟩:∃ l,al.length = l:=⟨_,rfl⟩
       rw [HNL.out,hla] at hv9
       rw [hla] at hal HNL
       have HLAL:=Lib.hid hla
       clear ho9 hla
       subst hv9
       go_loopw [21,22] (fun b i wr=>∃ (q:Nat) (ok:Bool),b = .bool ok∧i = .int .i64 q∧q ≤ la∧Hid ((ok = true ↔ (0 < sv∧∀ u ∈ al.take q,ApartD p v u))∧PickI w cs p w4 (.slice A9 la c9) al wr)) (fun _ i _=>la - (intOf i).toNat)
       case atStart=>exact ⟨0,ok0,rfl,rfl,Nat.zero_le _,Lib.hid ⟨by rw [← HOK0.out];simp,HP5.out⟩⟩
       case round =>
        obtain ⟨q,ok,rfl,rfl,hq,HT⟩:=hrel
        obtain ⟨wy,rfl⟩:∃ wy,wy = wr:=⟨_,rfl⟩
        have hq0:(0:Int) ≤ (q:Int):=Int.natCast_nonneg _
        by_cases hqa:q < la
        ·have hqa':(q:Int) < (la:Int):=by omega
         obtain ⟨u,hu⟩:∃ u,al[q]? = some u:=⟨_,List.getElem?_eq_getElem (by rw [HLAL.out];exact hqa)⟩
         have HTK:=Lib.hid (take_app hu)
         have hun:(natI al)[q]? = some (u:Int):=by unfold natI;rw [List.getElem?_map,hu];rfl
         obtain ⟨A',c',e',ho'⟩:=HT.out.2.own.lst (by rw [HNL.out];omega)
         rw [HNL.out] at e'
         injection e' with e1 _ e2
         subst e1 e2
         have hcl:la ≤ c9:=by have:=(slice_bnd ho').1;rw [HNL.out] at this;exact this
         obtain ⟨-,bu,ou,rfl,hbu,ku⟩:=int_at ho' hun
         have HKU:=Lib.hid ku
         have HBU:=Lib.hid (show bu < wy.heap.size from hbu.2)
         have hvi:I64 (v:Int):=by unfold I64;omega
         clear hun ho' hu hbu ku
         cases ok with
         | false =>
          go_upto_region 25 with (fail)
          refine wp_region_held_drew (S:=fun V=>PickI w cs p w4 (.slice (some ⟨bu,ou,none⟩) la c9) al V∧Below wy.heap.size wy V) (by kernel_rfl) ⟨HT.out.2.next ((Below.refl _ _).drew),(Below.refl _ _).drew⟩ (fun hHeld=>?_)
          generalize World.drew _ = V0 at hHeld ⊢
          refine tk0 0 (some 124) (v:=.bool false) rfl hHeld ?_
          refine tk0 1 (some 125) (v:=.bool false) rfl hHeld ?_
          refine tk9 2 (some 126) (v:=undef) rfl (Or.inr ⟨by kernel_rfl,rfl⟩) hHeld ?_
          refine tk9 3 (some 127) (v:=undef) rfl (Or.inr ⟨by kernel_rfl,rfl⟩) hHeld ?_
          refine tk9 4 (some 128) (v:=undef) rfl (Or.inr ⟨by kernel_rfl,rfl⟩) hHeld ?_
          refine tk9 5 (some 129) (v:=undef) rfl (Or.inr ⟨by kernel_rfl,rfl⟩) hHeld ?_
          refine tk9 6 (some 130) (v:=undef) rfl (Or.inr ⟨by kernel_rfl,rfl⟩) hHeld ?_
          refine tk9 7 (some 131) (v:=undef) rfl (Or.inr ⟨by kernel_rfl,rfl⟩) hHeld ?_
          refine tk9 8 (some 132) (v:=undef) rfl (Or.inr ⟨by kernel_rfl,rfl⟩) hHeld ?_
          refine tk0 9 (some 133) (v:=.bool false) rfl hHeld ?_
          refine tk0 10 (some 21) (v:=.bool false) rfl hHeld ?_
          refine wpAnyH_done (by kernel_rfl) ?_ _
          have HT25:=Lib.hid hHeld.1
          clear hHeld
          simp [Act.put]
          go_wp2_with fail
          go_roundw
          case rel=>exact ⟨q + 1,false,rfl,by go_num,by omega,Lib.hid ⟨⟨fun e=>(by cases e),fun h=>HT.out.1.2 ⟨h.1,fun z hz=>h.2 z (by rw [HTK.out];exact List.mem_append_left _ hz)⟩⟩,HT25.out⟩⟩
          case measure=>simp [intOf];omega
         | true =>
          go_upto_region 25 with (fail)
          refine wp_region_held_drew (S:=fun V=>PickI w cs p w4 (.slice (some ⟨bu,ou,none⟩) la c9) al V∧Below wy.heap.size wy V) (by kernel_rfl) ⟨HT.out.2.next ((Below.refl _ _).drew),(Below.refl _ _).drew⟩ (fun hHeld=>?_)
          generalize World.drew _ = V0 at hHeld ⊢
          refine tk0 0 (some 124) (v:=.bool true) rfl hHeld ?_
          refine tk0 1 (some 125) (v:=.bool true) rfl hHeld ?_
          refine tk9 2 (some 126) (v:=.agg cs.toArray) rfl (yields_load_agg (by kernel_rfl) _ _ rfl _ w.heap.size 0 (by kernel_rfl) cs Tryz.underlying30 rfl HT.out.2.box.size (fun W h=>h.1.box.at)) hHeld ?_
          refine tk0 3 (some 127) (v:=.int .i64 (v:Int)) rfl hHeld ?_
          refine tk0 4 (some 128) (v:=.slice (some ⟨bu,ou,none⟩) la c9) rfl hHeld ?_
          refine tk0 5 (some 129) (v:=.int .i64 (q:Int)) rfl hHeld ?_
          refine tk9 6 (some 130) (v:=.pointer (some ⟨bu,ou + q,none⟩)) rfl (yields_idx (by kernel_rfl) _ _ rfl bu ou (la) c9 q (by kernel_rfl) (by kernel_rfl) hqa) hHeld ?_
          refine tk9 7 (some 131) (v:=.int .i64 (u:Int)) rfl (yields_load_one9 (by kernel_rfl) _ _ rfl bu (ou + q) (by kernel_rfl) _ _ Tryz.underlying3 rfl (fun _ h=>(h.2.cell (p:=⟨bu,ou + q,none⟩) HBU.out).trans HKU.out)) hHeld ?_
          refine call_d9 8 (some 132) rfl (by kernel_rfl) (by kernel_rfl) (by kernel_rfl) 10 _ _ rfl #[.agg cs.toArray,.int .i64 (v:Int),.int .i64 (u:Int)] (by kernel_rfl) (fun w=>by kernel_rfl) ?_
          refine (rapart_any20 cs p v u V0 hHeld.1.box.arg HR.out.2.nodes).mono ?_
          rintro e V1 ⟨ap,rfl,hb,hap⟩
          have HAP:=Lib.hid hap
          replace hHeld:=And.intro (hHeld.1.next hb) (hHeld.2.trans (hb.mono hHeld.2.size))
          refine ⟨_,rfl,hHeld,?_⟩
          refine tk0 9 (some 133) (v:=.bool ap) rfl hHeld ?_
          refine tk0 10 (some 21) (v:=.bool ap) rfl hHeld ?_
          refine wpAnyH_done (by kernel_rfl) ?_ _
          have HT25:=Lib.hid hHeld.1
          clear hHeld
          simp [Act.put]
          go_wp2_with fail
          go_roundw
          case rel =>
           refine ⟨q + 1,ap,rfl,by go_num,by omega,Lib.hid ⟨⟨fun e=>⟨(HT.out.1.1 (by first | rfl | trivial)).1,fun z hz=>?_⟩,fun h=>HAP.out.2 (h.2 u (by rw [HTK.out];exact List.mem_append_right _ (List.mem_singleton.2 rfl)))⟩,HT25.out⟩⟩
           rw [HTK.out] at hz
           rcases List.mem_append.1 hz with hz | hz
           ·exact (HT.out.1.1 (by first | rfl | trivial)).2 z hz
           ·rw [List.mem_singleton.1 hz];exact HAP.out.1 e
          case measure=>simp [intOf];omega
        ·have hqa':¬ (q:Int) < (la:Int):=by omega
         have HTA:Hid (al.take q = al):=Lib.hid (List.take_of_length_le (by rw [HLAL.out];omega))
         cases ok with
         | false =>
          go_wp2
          go_roundw
          case rel=>exact ⟨j + 1,al,by go_num,by omega,by rw [HLAL.out];omega,by omega,by rw [HAT.out],Lib.hid ⟨HS.out.1,HT.out.2⟩⟩
          case measure=>simp [intOf];omega
         | true =>
          have hAl:AliveD p (al++[v]):=HS.out.1.more (by rw [HN.out];exact hvk) (by rw [HSV.out];exact (HT.out.1.1 rfl).1) (fun z hz=>(HT.out.1.1 rfl).2 z (by rw [HTA.out];exact hz))
          have hle2:=HLA.out.2.2 _ hAl
          rw [sumA_more,HAT.out,HSV.out] at hle2
          have HSM:Hid (sumA p (al++[v]) = at1 + sv):=Lib.hid (by rw [sumA_more,HAT.out,HSV.out])
          have HAL2:=Lib.hid hAl
          have HVI:Hid (I64 (v:Int)):=Lib.hid (by unfold I64;omega)
          have HBS:=Lib.hid HT.out.2.own.below.size
          obtain ⟨l1,l2⟩:=hle2
          clear hAl
          go_wp2_with (at_builtin;refine wpList_append_lies _ rfl _ _ 24 rfl w4.heap.size 3 i0 (.int .i64 0) 1 8 Tryz.underlying24 hi0 hz0 hz1 hz2 rfl (by decide) _ _ _ rfl (HT.out.2.own.own.alloc _) _ _ 1 1 [.int .i64 (v:Int)] rfl rfl (lies_new _ _ _) ?c2 ?c3 ?c4 ?c5 ?_)
          case c2=>first | (intro u hu;simp at hu;subst hu;rfl) | rfl
          case c3=>have:=HNL.out;unfold maxLen;omega
          case c4=>have:=HNL.out;omega
          case c5=>have:=HBS.out;simp;omega
          intro v' w7 hown' hgrow _
          have HM:=Lib.hid (HT.out.2.own.more HVI.out hown' hgrow)
          have HB7:=Lib.hid ((HT.out.2.box.next ((Below.refl _ _).alloc (Nat.le_refl _) (.cells #[.int .i64 (v:Int)] 3))).grown hgrow (fun b e=>by have:=(HT.out.2.own.own.lt b e).1;have:=HX4.out.lt;omega))
          clear hown' hgrow
          have ks:=HB7.out.old2 HKX.out.2.2.2.2.1 HKX.out.2.2.2.2.2
          have c5:=HB7.out.cell HC.out.1
          go_wp2
          go_roundw
          case rel =>
           refine ⟨j + 1,al++[v],by go_num,by omega,by rw [List.length_append,HLAL.out,List.length_singleton];omega,by omega,by rw [HSM.out],Lib.hid ⟨HAL2.out,HB7.out,?_⟩⟩
           have:=HM.out
           rw [show natI (al++[v]) = natI al++[(v:Int)] from by unfold natI;rw [List.map_append];rfl]
           exact this
          case measure=>simp [intOf];omega
      ·have HB:=Lib.hid HS.out.2.box.below
       clear HLA
       by_cases q1:j < m
       ·have q1':(j:Int) < (m:Int):=by omega
        by_cases q2:j < 100
        ·have q2':(j:Int) < 100:=by omega
         have q3':¬ (k:Int) > 0:=by omega
         clear hgo
         go_wp2
         go_ret
         exact ⟨rfl,HB.out⟩
        ·have q2':¬ (j:Int) < 100:=by omega
         clear hgo
         go_wp2
         go_ret
         exact ⟨rfl,HB.out⟩
       ·have q1':¬ (j:Int) < (m:Int):=by omega
        clear hgo
        go_wp2
        go_ret
        exact ⟨rfl,HB.out⟩
  ·have hle:sz ≤ most:=by omega
   clear h
   go_wp2_with (with_reducible refine wpList_load_agg_w (by with_unfolding_all rfl) 30 _ rfl _ w.heap.size 0 rfl cs Tryz.underlying30 rfl HX3.out.size HX3.out.at ?_)
   refine HCH.out.mono ?_
   rintro e w4 ⟨rfl,hb4⟩
   have HX4:=Lib.hid (HX3.out.next hb4)
   clear hb4 HX3 HCH
   go_wp2_with fail
   go_loop [14,15,16] (fun x y i=>∃ k:Nat,x = .int .i64 (sumS p k)∧y = .int .i64 (maxS p k)∧i = .int .i64 k∧k ≤ n) (fun _ _ i=>n - (intOf i).toNat)
   case atStart=>exact ⟨0,rfl,rfl,rfl,Nat.zero_le _⟩
   case round =>
    obtain ⟨k,rfl,rfl,rfl,hk⟩:=hrel
    have hk0:(0:Int) ≤ (k:Int):=Int.natCast_nonneg _
    have c5:=HX4.out.cell HC.out.1
    obtain ⟨u1,u2⟩:=sumS_bd HOK.out k
    obtain ⟨u3,u4⟩:=maxS_bd HOK.out k
    by_cases hlt:k < n
    ·have hlt':(k:Int) < (n:Int):=by omega
     obtain ⟨b6,o6,rfl,hb6,ks⟩:=HC.out.2.1 k hlt
     have ks':=HX4.out.old2 (show b6 < w.heap.size from hb6) ks
     obtain ⟨s1,s2⟩:=sizes_bd HOK.out k
     have HSS:Hid (sumS p (k + 1) = sumS p k + szAt p k∧maxS p (k + 1) = max (maxS p k) (szAt p k)):=Lib.hid ⟨rfl,rfl⟩
     obtain ⟨su,hsu⟩:∃ s,sumS p k = s:=⟨_,rfl⟩
     obtain ⟨mx,hmx⟩:∃ s,maxS p k = s:=⟨_,rfl⟩
     obtain ⟨sk,hsk⟩:∃ s,szAt p k = s:=⟨_,rfl⟩
     rw [hsu,hmx,hsk] at HSS
     rw [hsu] at u1 u2 ⊢
     rw [hmx] at u3 u4 ⊢
     rw [hsk] at ks' s1 s2
     clear hb6 ks hsu hmx hsk
     go_wp2
     go_round
     case rel=>exact ⟨k + 1,by rw [HSS.out.1],by rw [HSS.out.2],by go_num,by omega⟩
     case measure=>simp [intOf];omega
    ·have hlt':¬ (k:Int) < (n:Int):=by omega
     obtain rfl:k = n:=by omega
     obtain ⟨su,hsu⟩:∃ s,sumS p k = s:=⟨_,rfl⟩
     obtain ⟨mx,hmx⟩:∃ s,maxS p k = s:=⟨_,rfl⟩
     rw [hsu,hmx] at HLA
     rw [hsu] at u1 u2 ⊢
     rw [hmx] at u3 u4 ⊢
     obtain ⟨g1,g2,-⟩:=HLA.out
     clear hsu hmx
     obtain ⟨i0,hi0,hz0,hz1,hz2⟩:=info_parts info_int1
     go_wp2_with fail
     clear c5
     go_loopw [17,18,19] (fun v x i wr=>∃ (j:Nat) (al:List Nat),i = .int .i64 j∧j ≤ m∧al.length ≤ j∧j ≤ 100∧x = .int .i64 (sumA p al)∧Hid (AliveD p al∧PickI w cs p w4 v al wr)) (fun _ _ i _=>m - (intOf i).toNat)
     case atStart=>exact ⟨0,[],rfl,Nat.zero_le _,Nat.le_refl _,by omega,rfl,Lib.hid ⟨AliveD.nil p,HX4.out,AppI.nil _⟩⟩
     case round =>
      obtain ⟨j,al,rfl,hj,hal,hj100,rfl,HS⟩:=hrel
      obtain ⟨wx,rfl⟩:∃ wx,wx = wr:=⟨_,rfl⟩
      have hj0:(0:Int) ≤ (j:Int):=Int.natCast_nonneg _
      have c5:=HS.out.2.box.cell HC.out.1
      obtain ⟨a1,a2⟩:=HLA.out.2.2 al HS.out.1
      obtain ⟨at1,hat1⟩:∃ s,sumA p al = s:=⟨_,rfl⟩
      have HAT:=Lib.hid hat1
      rw [hat1] at a1 a2 ⊢
      clear hat1
      by_cases hgo:j < m∧j < 100∧0 < k
      ·obtain ⟨q1,q2,q3⟩:=hgo
       have q1':(j:Int) < (m:Int):=by omega
       have q2':(j:Int) < 100:=by omega
       have q3':(k:Int) > 0:=by omega
       obtain ⟨x64,b7,o7,rfl,hb7,kx⟩:=HC.out.2.2 j q1
       obtain ⟨px,hpx⟩:∃ x,atD picks j = x:=⟨_,rfl⟩
       rw [hpx] at kx
       obtain ⟨v,hv,hvk⟩:=low_mod21 px k q3
       obtain ⟨lw,hlw⟩:∃ l,bits .and .i64 px 65535 = l:=⟨_,rfl⟩
       rw [hlw] at hv
       obtain ⟨b6,o6,rfl,hb6,ks⟩:=HC.out.2.1 v hvk
       have HKX:=Lib.hid (And.intro (show b7 < w.heap.size from hb7) (And.intro kx (And.intro hlw (And.intro hv (And.intro (show b6 < w.heap.size from hb6) ks)))))
       obtain ⟨s1,s2⟩:=sizes_bd HOK.out v
       obtain ⟨sv,hsv⟩:∃ s,szAt p v = s:=⟨_,rfl⟩
       rw [hsv] at HKX s1 s2
       have HSV:=Lib.hid hsv
       clear x64 hb7 kx hpx hlw hv hb6 ks hsv
       go_upto_region 20 with (fail)
       refine wp_region_held_drew (S:=fun V=>PickI w cs p w4 u17 al V) (by kernel_rfl) (HS.out.2.next ((Below.refl _ _).drew)) (fun hHeld=>?_)
       generalize World.drew _ = V0 at hHeld ⊢
       refine tk0 0 (some 103) (v:=.slice (some ⟨b7,o7,none⟩) m cp) rfl hHeld ?_
       refine tk0 1 (some 104) (v:=.int .i64 (j:Int)) rfl hHeld ?_
       refine tk9 2 (some 105) (v:=.pointer (some ⟨b7,o7 + j,none⟩)) rfl (yields_idx (by kernel_rfl) _ _ rfl b7 o7 (m) cp j (by kernel_rfl) (by kernel_rfl) q1) hHeld ?_
       refine tk9 3 (some 106) (v:=.int .i64 px) rfl (yields_load_one9 (by kernel_rfl) _ _ rfl b7 (o7 + j) (by kernel_rfl) _ _ Tryz.underlying3 rfl (fun _ h=>h.box.old2 HKX.out.1 HKX.out.2.1)) hHeld ?_
       refine tk9 4 (some 107) (v:=.int .i64 lw) rfl (yields_and16 (by kernel_rfl) _ _ _ _ rfl px lw (by kernel_rfl) (by kernel_rfl) (by kernel_rfl) HKX.out.2.2.1) hHeld ?_
       refine tk0 5 (some 108) (v:=.pointer (some ⟨w.heap.size,5,none⟩)) rfl hHeld ?_
       refine tk9 6 (some 109) (v:=.slice (some ⟨b6,o6,none⟩) k k6) rfl (yields_load_one9 (by kernel_rfl) _ _ rfl (w.heap.size) (5) (by kernel_rfl) _ _ Tryz.underlying24 rfl (fun _ h=>h.box.cell HC.out.1)) hHeld ?_
       refine tk0 7 (some 110) (v:=.int .i64 (k:Int)) rfl hHeld ?_
       refine tk9 8 (some 111) (v:=.int .i64 (v:Int)) rfl (yields_remN (by kernel_rfl) _ _ _ _ rfl lw k v (by kernel_rfl) (by kernel_rfl) (by kernel_rfl) q3 HKX.out.2.2.2.1) hHeld ?_
       refine tk0 9 (some 20) (v:=.int .i64 (v:Int)) rfl hHeld ?_
       refine wpAnyH_done (by kernel_rfl) ?_ _
       have HP5:=Lib.hid hHeld
       have HB5:=Lib.hid hHeld.box
       clear hHeld c5
       simp [Act.put]
       have ks:=HB5.out.old2 HKX.out.2.2.2.2.1 HKX.out.2.2.2.2.2
       have c5:=HB5.out.cell HC.out.1
       obtain ⟨ok0,hok0⟩:∃ b,decide (sv > 0) = b:=⟨_,rfl⟩
       go_wp2_with fail
       try rw [hok0]
       have HOK0:=Lib.hid hok0
       clear hok0 ks c5
       obtain ⟨A9,c9,hv9,ho9⟩:=HP5.out.own.lst (by unfold natI;rw [List.length_map];omega)
       have HNL:Hid ((natI al).length = al.length):=Lib.hid (by unfold natI;exact List.length_map ..)
       obtain ⟨la,hla⟩:∃ l,al.length = l:=⟨_,rfl⟩
       rw [HNL.out,hla] at hv9
       rw [hla] at hal HNL
       have HLAL:=Lib.hid hla
       clear ho9 hla
       subst hv9
       go_loopw [21,22] (fun b i wr=>∃ (q:Nat) (ok:Bool),b = .bool ok∧i = .int .i64 q∧q ≤ la∧Hid ((ok = true ↔ (0 < sv∧∀ u ∈ al.take q,ApartD p v u))∧PickI w cs p w4 (.slice A9 la c9) al wr)) (fun _ i _=>la - (intOf i).toNat)
       case atStart=>exact ⟨0,ok0,rfl,rfl,Nat.zero_le _,Lib.hid ⟨by rw [← HOK0.out];simp,HP5.out⟩⟩
       case round =>
        obtain ⟨q,ok,rfl,rfl,hq,HT⟩:=hrel
        obtain ⟨wy,rfl⟩:∃ wy,wy = wr:=⟨_,rfl⟩
        have hq0:(0:Int) ≤ (q:Int):=Int.natCast_nonneg _
        by_cases hqa:q < la
        ·have hqa':(q:Int) < (la:Int):=by omega
         obtain ⟨u,hu⟩:∃ u,al[q]? = some u:=⟨_,List.getElem?_eq_getElem (by rw [HLAL.out];exact hqa)⟩
         have HTK:=Lib.hid (take_app hu)
         have hun:(natI al)[q]? = some (u:Int):=by unfold natI;rw [List.getElem?_map,hu];rfl
         obtain ⟨A',c',e',ho'⟩:=HT.out.2.own.lst (by rw [HNL.out];omega)
         rw [HNL.out] at e'
         injection e' with e1 _ e2
         subst e1 e2
         have hcl:la ≤ c9:=by have:=(slice_bnd ho').1;rw [HNL.out] at this;exact this
         obtain ⟨-,bu,ou,rfl,hbu,ku⟩:=int_at ho' hun
         have HKU:=Lib.hid ku
         have HBU:=Lib.hid (show bu < wy.heap.size from hbu.2)
         have hvi:I64 (v:Int):=by unfold I64;omega
         clear hun ho' hu hbu ku
         cases ok with
         | false =>
          go_upto_region 25 with (fail)
          refine wp_region_held_drew (S:=fun V=>PickI w cs p w4 (.slice (some ⟨bu,ou,none⟩) la c9) al V∧Below wy.heap.size wy V) (by kernel_rfl) ⟨HT.out.2.next ((Below.refl _ _).drew),(Below.refl _ _).drew⟩ (fun hHeld=>?_)
          generalize World.drew _ = V0 at hHeld ⊢
          refine tk0 0 (some 124) (v:=.bool false) rfl hHeld ?_
          refine tk0 1 (some 125) (v:=.bool false) rfl hHeld ?_
          refine tk9 2 (some 126) (v:=undef) rfl (Or.inr ⟨by kernel_rfl,rfl⟩) hHeld ?_
          refine tk9 3 (some 127) (v:=undef) rfl (Or.inr ⟨by kernel_rfl,rfl⟩) hHeld ?_
          refine tk9 4 (some 128) (v:=undef) rfl (Or.inr ⟨by kernel_rfl,rfl⟩) hHeld ?_
          refine tk9 5 (some 129) (v:=undef) rfl (Or.inr ⟨by kernel_rfl,rfl⟩) hHeld ?_
          refine tk9 6 (some 130) (v:=undef) rfl (Or.inr ⟨by kernel_rfl,rfl⟩) hHeld ?_
          refine tk9 7 (some 131) (v:=undef) rfl (Or.inr ⟨by kernel_rfl,rfl⟩) hHeld ?_
          refine tk9 8 (some 132) (v:=undef) rfl (Or.inr ⟨by kernel_rfl,rfl⟩) hHeld ?_
          refine tk0 9 (some 133) (v:=.bool false) rfl hHeld ?_
          refine tk0 10 (some 21) (v:=.bool false) rfl hHeld ?_
          refine wpAnyH_done (by kernel_rfl) ?_ _
          have HT25:=Lib.hid hHeld.1
          clear hHeld
          simp [Act.put]
          go_wp2_with fail
          go_roundw
          case rel=>exact ⟨q + 1,false,rfl,by go_num,by omega,Lib.hid ⟨⟨fun e=>(by cases e),fun h=>HT.out.1.2 ⟨h.1,fun z hz=>h.2 z (by rw [HTK.out];exact List.mem_append_left _ hz)⟩⟩,HT25.out⟩⟩
          case measure=>simp [intOf];omega
         | true =>
          go_upto_region 25 with (fail)
          refine wp_region_held_drew (S:=fun V=>PickI w cs p w4 (.slice (some ⟨bu,ou,none⟩) la c9) al V∧Below wy.heap.size wy V) (by kernel_rfl) ⟨HT.out.2.next ((Below.refl _ _).drew),(Below.refl _ _).drew⟩ (fun hHeld=>?_)
          generalize World.drew _ = V0 at hHeld ⊢
          refine tk0 0 (some 124) (v:=.bool true) rfl hHeld ?_
          refine tk0 1 (some 125) (v:=.bool true) rfl hHeld ?_
          refine tk9 2 (some 126) (v:=.agg cs.toArray) rfl (yields_load_agg (by kernel_rfl) _ _ rfl _ w.heap.size 0 (by kernel_rfl) cs Tryz.underlying30 rfl HT.out.2.box.size (fun W h=>h.1.box.at)) hHeld ?_
          refine tk0 3 (some 127) (v:=.int .i64 (v:Int)) rfl hHeld ?_
          refine tk0 4 (some 128) (v:=.slice (some ⟨bu,ou,none⟩) la c9) rfl hHeld ?_
          refine tk0 5 (some 129) (v:=.int .i64 (q:Int)) rfl hHeld ?_
          refine tk9 6 (some 130) (v:=.pointer (some ⟨bu,ou + q,none⟩)) rfl (yields_idx (by kernel_rfl) _ _ rfl bu ou (la) c9 q (by kernel_rfl) (by kernel_rfl) hqa) hHeld ?_
          refine tk9 7 (some 131) (v:=.int .i64 (u:Int)) rfl (yields_load_one9 (by kernel_rfl) _ _ rfl bu (ou + q) (by kernel_rfl) _ _ Tryz.underlying3 rfl (fun _ h=>(h.2.cell (p:=⟨bu,ou + q,none⟩) HBU.out).trans HKU.out)) hHeld ?_
          refine call_d9 8 (some 132) rfl (by kernel_rfl) (by kernel_rfl) (by kernel_rfl) 10 _ _ rfl #[.agg cs.toArray,.int .i64 (v:Int),.int .i64 (u:Int)] (by kernel_rfl) (fun w=>by kernel_rfl) ?_
          refine (rapart_any20 cs p v u V0 hHeld.1.box.arg HR.out.2.nodes).mono ?_
          rintro e V1 ⟨ap,rfl,hb,hap⟩
          have HAP:=Lib.hid hap
          replace hHeld:=And.intro (hHeld.1.next hb) (hHeld.2.trans (hb.mono hHeld.2.size))
          refine ⟨_,rfl,hHeld,?_⟩
          refine tk0 9 (some 133) (v:=.bool ap) rfl hHeld ?_
          refine tk0 10 (some 21) (v:=.bool ap) rfl hHeld ?_
          refine wpAnyH_done (by kernel_rfl) ?_ _
          have HT25:=Lib.hid hHeld.1
          clear hHeld
          simp [Act.put]
          go_wp2_with fail
          go_roundw
          case rel =>
           refine ⟨q + 1,ap,rfl,by go_num,by omega,Lib.hid ⟨⟨fun e=>⟨(HT.out.1.1 (by first | rfl | trivial)).1,fun z hz=>?_⟩,fun h=>HAP.out.2 (h.2 u (by rw [HTK.out];exact List.mem_append_right _ (List.mem_singleton.2 rfl)))⟩,HT25.out⟩⟩
           rw [HTK.out] at hz
           rcases List.mem_append.1 hz with hz | hz
           ·exact (HT.out.1.1 (by first | rfl | trivial)).2 z hz
           ·rw [List.mem_singleton.1 hz];exact HAP.out.1 e
          case measure=>simp [intOf];omega
        ·have hqa':¬ (q:Int) < (la:Int):=by omega
         have HTA:Hid (al.take q = al):=Lib.hid (List.take_of_length_le (by rw [HLAL.out];omega))
         cases ok with
         | false =>
          go_wp2
          go_roundw
          case rel=>exact ⟨j + 1,al,by go_num,by omega,by rw [HLAL.out];omega,by omega,by rw [HAT.out],Lib.hid ⟨HS.out.1,HT.out.2⟩⟩
          case measure=>simp [intOf];omega
         | true =>
          have hAl:AliveD p (al++[v]):=HS.out.1.more (by rw [HN.out];exact hvk) (by rw [HSV.out];exact (HT.out.1.1 rfl).1) (fun z hz=>(HT.out.1.1 rfl).2 z (by rw [HTA.out];exact hz))
          have hle2:=HLA.out.2.2 _ hAl
          rw [sumA_more,HAT.out,HSV.out] at hle2
          have HSM:Hid (sumA p (al++[v]) = at1 + sv):=Lib.hid (by rw [sumA_more,HAT.out,HSV.out])
          have HAL2:=Lib.hid hAl
          have HVI:Hid (I64 (v:Int)):=Lib.hid (by unfold I64;omega)
          have HBS:=Lib.hid HT.out.2.own.below.size
          obtain ⟨l1,l2⟩:=hle2
          clear hAl
          go_wp2_with (at_builtin;refine wpList_append_lies _ rfl _ _ 24 rfl w4.heap.size 3 i0 (.int .i64 0) 1 8 Tryz.underlying24 hi0 hz0 hz1 hz2 rfl (by decide) _ _ _ rfl (HT.out.2.own.own.alloc _) _ _ 1 1 [.int .i64 (v:Int)] rfl rfl (lies_new _ _ _) ?c2 ?c3 ?c4 ?c5 ?_)
          case c2=>first | (intro u hu;simp at hu;subst hu;rfl) | rfl
          case c3=>have:=HNL.out;unfold maxLen;omega
          case c4=>have:=HNL.out;omega
          case c5=>have:=HBS.out;simp;omega
          intro v' w7 hown' hgrow _
          have HM:=Lib.hid (HT.out.2.own.more HVI.out hown' hgrow)
          have HB7:=Lib.hid ((HT.out.2.box.next ((Below.refl _ _).alloc (Nat.le_refl _) (.cells #[.int .i64 (v:Int)] 3))).grown hgrow (fun b e=>by have:=(HT.out.2.own.own.lt b e).1;have:=HX4.out.lt;omega))
          clear hown' hgrow
          have ks:=HB7.out.old2 HKX.out.2.2.2.2.1 HKX.out.2.2.2.2.2
          have c5:=HB7.out.cell HC.out.1
          go_wp2
          go_roundw
          case rel =>
           refine ⟨j + 1,al++[v],by go_num,by omega,by rw [List.length_append,HLAL.out,List.length_singleton];omega,by omega,by rw [HSM.out],Lib.hid ⟨HAL2.out,HB7.out,?_⟩⟩
           have:=HM.out
           rw [show natI (al++[v]) = natI al++[(v:Int)] from by unfold natI;rw [List.map_append];rfl]
           exact this
          case measure=>simp [intOf];omega
      ·have HB:=Lib.hid HS.out.2.box.below
       clear HLA
       by_cases q1:j < m
       ·have q1':(j:Int) < (m:Int):=by omega
        by_cases q2:j < 100
        ·have q2':(j:Int) < 100:=by omega
         have q3':¬ (k:Int) > 0:=by omega
         clear hgo
         go_wp2
         go_ret
         exact ⟨rfl,HB.out⟩
        ·have q2':¬ (j:Int) < 100:=by omega
         clear hgo
         go_wp2
         go_ret
         exact ⟨rfl,HB.out⟩
       ·have q1':¬ (j:Int) < (m:Int):=by omega
        clear hgo
        go_wp2
        go_ret
        exact ⟨rfl,HB.out⟩
 ·have he:e = .returned (.tuple #[.slice none 0 0,.int .i64 0,.int .i64 1]):=by
   rcases hp2 with ⟨-,h⟩ | ⟨h,-⟩ | ⟨h,-⟩
   ·exact h
   ·exact (hok h).elim
   ·exact (hok h).elim
  subst he
  clear hp2 hb2 hok
  go_wp2
  go_ret
  exact ⟨rfl,HX2.out.below⟩
end Go.Proofs.YtoeaglpmkjoenaaGreat
