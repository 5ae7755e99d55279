/-
  Chapter 21's document: where each value of a plan lies: the program's Pack. No condition.
-/
import Derived.Test.YtoeaglpmkjoenaaGreatQPlrB
import Derived.Test.YtoeaglpmkjoenaaGreatQArnA
set_option linter.unusedSimpArgs false
set_option linter.unusedVariables false
namespace Go.Proofs.YtoeaglpmkjoenaaGreat
open Go.RowKit
open Rep (rep)
structure RkI (w:World) (cs:List Value) (p:PlanD) (ab lb:Nat) (at_:List Int) (laid:List Bool) (W:World):Prop where
 box:PlanI w cs p W
 row:W.heap[ab]? = some (.cells (at_.map (Value.int .i64)).toArray 3 (0,0))
 laid:W.heap[lb]? = some (.cells (laid.map Value.bool).toArray 4 (0,0))
 lo:w.heap.size < ab
 le:ab < lb
section
variable {w W W':World} {cs:List Value} {p:PlanD} {ab lb:Nat} {at_:List Int} {laid:List Bool}
theorem RkI.lt (h:RkI w cs p ab lb at_ laid W):lb < W.heap.size:=(Array.getElem?_eq_some_iff.1 h.laid).1
theorem RkI.grown (h:RkI w cs p ab lb at_ laid W) {row:Option Nat} (hg:W.grownBy W' row) (hr:∀ b,row = some b→lb < b):RkI w cs p ab lb at_ laid W':=by
 have hlt:=h.lt
 have hle:=h.le
 have hlo:=h.lo
 have hne:∀ k,k ≤ lb→some k ≠ row:=fun k hk e=>by have:=hr k e.symm;omega
 exact ⟨h.box.grown hg (fun b e=>by have:=hr b e;omega),(hg.block _ (by omega) (hne _ (by omega))).trans h.row,(hg.block _ hlt (hne _ (Nat.le_refl _))).trans h.laid,hlo,hle⟩
theorem RkI.next (h:RkI w cs p ab lb at_ laid W) (hb:Below W.heap.size W W'):RkI w cs p ab lb at_ laid W' :=
 h.grown (row:=none) ⟨hb.os,hb.tape,hb.output,hb.size,fun k hk _=>hb.block k hk⟩ (fun b e=>by cases e)
theorem RkI.store (h:RkI w cs p ab lb at_ laid W) (v:Nat) (x:Int):RkI w cs p ab lb (at_.set v x) laid (W.setCell ⟨ab,v,none⟩ (.int .i64 x)):=by
 have hlo:=h.lo
 have hle:=h.le
 rw [set_as_row h.row]
 refine ⟨h.box.past (Nat.lt_succ_self _) (below_setRow' (Below.refl _ _) (by omega) _),?_,?_,hlo,hle⟩
 ·rw [heap_setRow _ _ _ _ _ h.row,List.map_set,List.setIfInBounds_toArray]
 ·rw [heap_setRow_other _ _ _ _ (by omega)];exact h.laid
theorem RkI.mark (h:RkI w cs p ab lb at_ laid W) (v:Nat):RkI w cs p ab lb at_ (laid.set v true) (W.setCell ⟨lb,v,none⟩ (.bool true)):=by
 have hlo:=h.lo
 have hle:=h.le
 rw [set_as_row h.laid]
 refine ⟨h.box.past (Nat.lt_succ_self _) (below_setRow' (Below.refl _ _) (by omega) _),?_,?_,hlo,hle⟩
 ·rw [heap_setRow_other _ _ _ _ (by omega)];exact h.row
 ·rw [heap_setRow _ _ _ _ _ h.laid,List.map_set,List.setIfInBounds_toArray]
theorem RkI.cell (h:RkI w cs p ab lb at_ laid W) {k:Nat} (hk:k < at_.length):W.cell? ⟨ab,k,none⟩ = some (.int .i64 (atD at_ k)):=by
 refine cell_row h.row ?_
 unfold atD
 rw [List.getElem?_map,List.getD_eq_getElem?_getD,List.getElem?_eq_getElem hk]
 rfl
theorem RkI.free (h:RkI w cs p ab lb at_ laid W) (k:Nat):W.frozen? ⟨ab,k,none⟩ = false:=by simp [World.frozen?,h.row]
theorem RkI.free2 (h:RkI w cs p ab lb at_ laid W) (k:Nat):W.frozen? ⟨lb,k,none⟩ = false:=by simp [World.frozen?,h.laid]
end
theorem pack_i64 {p:PlanD} (hok:SizesOk p) {done:List Nat} {at_:List Int} {sz:Int} (hI:PackI p done at_ sz) (hl:done.length ≤ 4096):∀ x ∈ at_,I64 x:=fun x hx=>by
 obtain ⟨i,hi⟩:=List.mem_iff_getElem?.1 hx
 have hgx:atD at_ i = x:=by unfold atD;rw [List.getD_eq_getElem?_getD,hi];rfl
 have hb:=pack_bd hok hI hl
 by_cases g:i ∈ done
 ·have h1:=hI.ins i g
  have h2:=hI.pos i g
  rw [hgx] at h1
  unfold I64;omega
 ·have h1:=hI.out i g
  rw [hgx] at h1
  unfold I64;omega
theorem way_ok {p:PlanD} (hok:SizesOk p) {k v n:Nat} {at_:List Int} {sz:Int} (hI:PackI p ((ordN p).take k) at_ sz) (hl:((ordN p).take k).length ≤ 4096):WayOk p at_ (wayN p k v n):=by
 refine ⟨hI.len,fun u hu=>?_⟩
 have hb:=pack_bd hok hI hl
 have hm:u ∈ (ordN p).take k:=of_decide_eq_true (Bool.and_eq_true_iff.1 (List.mem_filter.1 hu).2).1
 have h1:=hI.ins u hm
 exact ⟨hI.lt u hm,h1.1,by omega⟩
theorem wayN_len (p:PlanD) (k v n:Nat):(wayN p k v n).length ≤ n:=by
 unfold wayN
 exact Nat.le_trans (List.length_filter_le _ _) (by rw [List.length_range];exact Nat.le_refl _)
set_option maxRecDepth 100000 in
set_option maxHeartbeats 16000000 in
theorem refPack_any (cs:List Value) (p:PlanD) (most:Int) (w:World) (hr:rep w (old w.heap.size) cs p) (hs:PlanB p) :
  Calls Tryz.prog 7 #[.agg cs.toArray,.int .i64 most] w (PackP p most w):=by
 obtain ⟨A6,k6,h5,n6,n6',r6,h6⟩:=sizes_lie hr
 have HC:=Lib.hid (And.intro h5 h6)
 have HR:=Lib.hid (And.intro hr hs)
 clear h5 r6 h6 hr hs
 obtain ⟨n,hn⟩:∃ n,p.size.length = n:=⟨_,rfl⟩
 rw [hn] at HC n6
 have HN:=Lib.hid hn
 obtain ⟨res,hres⟩:∃ r,packAll p = r:=⟨_,rfl⟩
 have HRES:=Lib.hid hres
 have HPP:Hid (∀ e w',PackP p most w e w' ↔ (Below w.heap.size w w'∧((¬ SizesOk p∧e = .returned (.tuple #[.slice none 0 0,.int .i64 0,.int .i64 1])) ∨
  (SizesOk p∧res.2 > most∧e = .returned (.tuple #[.slice none 0 0,.int .i64 0,.int .i64 9])) ∨
  (SizesOk p∧¬ res.2 > most∧∃ ab,e = .returned (.tuple #[.slice (some ⟨ab,0,none⟩) n n,.int .i64 res.2,.int .i64 0])∧w.heap.size ≤ ab∧w'.heap[ab]? = some (.cells (res.1.map (Value.int .i64)).toArray 3 (0,0))∧PackI p (ordN p) res.1 res.2)))):=Lib.hid fun e w'=>by unfold PackP;rw [hres,hn]
 clear hn hres
 go_enter Tryz.func7,Tryz.ntmps7
 go_wp2_with (with_reducible refine wpList_box_row rfl 30 _ rfl cs rfl ?_;have hX:=plan_start HR.out.1;generalize World.alloc _ _ = W0 at hX ⊢;have HX:=Lib.hid hX;clear hX;refine halt ?_)
 unfold Halt
 go_wp2_with (with_reducible refine wpList_load_agg_w (by with_unfolding_all rfl) 30 _ rfl _ w.heap.size 0 rfl cs Tryz.underlying30 rfl HX.out.size HX.out.at ?_)
 refine (sized21_any cs p W0 HX.out.arg).mono ?_
 rintro e w1 ⟨b,rfl,hb1,hbb⟩
 replace HX:=Lib.hid (HX.out.next hb1)
 have HBB:=Lib.hid hbb
 clear hb1 hbb
 cases b with
 | false =>
  have HB:Hid (¬ SizesOk p):=Lib.hid fun h=>by have:=HBB.out.2 h;cases this
  go_wp2
  go_ret3
  exact (HPP.out _ _).2 ⟨HX.out.below,.inl ⟨HB.out,rfl⟩⟩
 | true =>
 have HOK:=Lib.hid (HBB.out.1 rfl)
 have hn4:n ≤ 4096:=by rw [← HN.out];exact HOK.out.1
 clear HBB
 obtain ⟨i0,hi0,hz0,hz1,hz2⟩:=info_parts info_int1
 have c5:=HX.out.cell HC.out.1
 have hmk1:=make_ints n w1 (by omega)
 have hmk2:=make_bools n (w1.alloc (.cells (Array.replicate n (.int .i64 0)) 3)) (by omega)
 go_upto_region 7 with (fail)
 clear hmk1 hmk2 c5
 have hI0:RkI w cs p w1.heap.size (w1.heap.size + 1) (List.replicate n 0) (List.replicate n false) ((w1.alloc (.cells (Array.replicate n (.int .i64 0)) 3)).alloc (.cells (Array.replicate n (.bool false)) 4)):=by
  have hb:=((Below.refl w1.heap.size w1).alloc (Nat.le_refl _) (.cells (Array.replicate n (.int .i64 0)) 3))
  have hb2:=hb.alloc (by rw [World.size_alloc];omega) (.cells (Array.replicate n (.bool false)) 4)
  refine ⟨HX.out.next hb2,?_,?_,HX.out.lt,Nat.lt_succ_self _⟩
  ·refine (Below.heap_alloc _ _ _ (by rw [World.size_alloc];omega)).trans ?_
   rw [heap_alloc_new]
   simp
  ·have h:=heap_alloc_new (w1.alloc (.cells (Array.replicate n (.int .i64 0)) 3)) (.cells (Array.replicate n (.bool false)) 4)
   rw [World.size_alloc] at h
   rw [h]
   simp
 try rw [World.size_alloc]
 obtain ⟨ab,hab⟩:∃ N,w1.heap.size = N:=⟨_,rfl⟩
 obtain ⟨lb,hlb⟩:∃ N,ab + 1 = N:=⟨_,rfl⟩
 obtain ⟨W2,hW2⟩:∃ W2,(w1.alloc (.cells (Array.replicate n (.int .i64 0)) 3)).alloc (.cells (Array.replicate n (.bool false)) 4) = W2:=⟨_,rfl⟩
 rw [hW2,hab,hlb] at hI0
 rw [hab,hlb]
 try rw [hW2]
 have HI0:=Lib.hid hI0
 have HP0:Hid (packD srtB p (ordN p) [] (List.replicate n 0) 0 = res∧PackI p [] (List.replicate n 0) 0∧LaidIs p 0 (List.replicate n false)):=Lib.hid (by
  have h1:=HRES.out
  have h2:=packI_start p
  unfold packAll at h1
  rw [HN.out] at h1 h2
  refine ⟨h1,h2,by rw [List.length_replicate,HN.out],fun i=>?_⟩
  rw [List.getD_eq_getElem?_getD,List.getElem?_replicate]
  split <;> simp)
 clear hI0 hab hlb hW2 HX
 have HBX:=Lib.hid HI0.out.box
 go_wp2_with (with_reducible refine wpList_load_agg_w (by with_unfolding_all rfl) 30 _ rfl _ w.heap.size 0 rfl cs Tryz.underlying30 rfl HBX.out.size HBX.out.at ?_)
 have hnx0:=next21_any cs p lb (List.replicate n false) W2 HBX.out.arg HOK.out HP0.out.2.2.1 HI0.out.laid
 rw [HN.out] at hnx0
 refine hnx0.mono ?_
 rintro e w3 ⟨rfl,hb3⟩
 have HI3:=Lib.hid (HI0.out.next hb3)
 clear hb3 HI0 HBX hnx0
 obtain ⟨m,hm⟩:∃ m,(ordN p).length = m:=⟨_,rfl⟩
 have HM:=Lib.hid hm
 have hmn:m ≤ n:=by rw [← hm,ordN_len,ordI_len,← HN.out];exact liveV_len p _
 clear hm
 go_wp2_with fail
 go_loopg [10,11] (m + 1) (fun gk z vv wr=>∃ (k:Nat) (at_:List Int) (laid:List Bool) (sz:Int),z = .int .i64 sz∧vv = .int .i64 (nxtP p laid n)∧k + gk = m + 1∧k ≤ m∧0 ≤ sz∧sz ≤ 134217728∧Hid (packD srtB p ((ordN p).drop k) ((ordN p).take k) at_ sz = res∧PackI p ((ordN p).take k) at_ sz∧LaidIs p k laid∧RkI w cs p ab lb at_ laid wr))
 case atStart=>exact ⟨0,_,_,0,rfl,rfl,by omega,Nat.zero_le _,by omega,by omega,Lib.hid ⟨HP0.out.1,HP0.out.2.1,HP0.out.2.2,HI3.out⟩⟩
 case round =>
  clear HI3 HP0
  obtain ⟨k,at_,laid,sz,rfl,rfl,hg,hk,z0,z1,HS⟩:=hrel
  obtain ⟨wx,rfl⟩:∃ wx,wx = wr:=⟨_,rfl⟩
  have HG:=Lib.hid hg
  clear hg
  have hno:=next_ord HS.out.2.2.1
  rw [HN.out,HM.out] at hno
  obtain ⟨nx,hnx⟩:∃ x,nxtP p laid n = x:=⟨_,rfl⟩
  rw [hnx] at hno ⊢
  clear hnx
  rcases hno with ⟨hkm,rfl⟩ | ⟨v,hvk,rfl⟩
  ·obtain rfl:k = m:=by omega
   have HF:Hid ((at_,sz) = res∧PackI p (ordN p) at_ sz):=Lib.hid (by
    have h1:=HS.out.1
    have h2:=HS.out.2.1
    rw [List.drop_of_length_le (by rw [HM.out];exact Nat.le_refl _),packD] at h1
    rw [List.take_of_length_le (by rw [HM.out];exact Nat.le_refl _)] at h2
    exact ⟨h1,h2⟩)
   have HLO:Hid (w.heap.size ≤ ab):=Lib.hid (Nat.le_of_lt HS.out.2.2.2.lo)
   by_cases hmost:sz > most
   ·go_wp2
    go_ret3
    exact (HPP.out _ _).2 ⟨HS.out.2.2.2.box.below,.inr (.inl ⟨HOK.out,by rw [← HF.out.1];exact hmost,rfl⟩)⟩
   ·go_wp2
    go_ret3
    refine (HPP.out _ _).2 ⟨HS.out.2.2.2.box.below,.inr (.inr ⟨HOK.out,by rw [← HF.out.1];exact hmost,ab,?_,HLO.out,by rw [← HF.out.1];exact HS.out.2.2.2.row,by rw [← HF.out.1];exact HF.out.2⟩)⟩
    rw [← HF.out.1]
    rfl
  ·have hvm:=ordN_mem.1 (List.mem_of_getElem? hvk)
   have hvn:v < n:=by rw [← HN.out];exact hvm.1
   have HV:=Lib.hid (And.intro hvk hvm)
   have hkm:k < m:=by rw [← HM.out];exact (List.getElem?_eq_some_iff.1 hvk).1
   have hv0:(v:Int) ≥ 0:=Int.natCast_nonneg _
   have HVI:Hid (I64 (v:Int)):=Lib.hid (by unfold I64;omega)
   clear hvk hvm
   go_wp2_with fail
   go_loopw [12,13] (fun vw i wr=>∃ j:Nat,i = .int .i64 j∧j ≤ n∧Hid (AppI wx wr vw (natI (wayN p k v j)))) (fun _ i _=>n - (intOf i).toNat)
   case atStart=>exact ⟨0,rfl,Nat.zero_le _,Lib.hid (AppI.nil _)⟩
   case round =>
    obtain ⟨j,rfl,hj,HA⟩:=hrel
    obtain ⟨wy,rfl⟩:∃ wy,wy = wr:=⟨_,rfl⟩
    have hj0:(0:Int) ≤ (j:Int):=Int.natCast_nonneg _
    have HPY:=Lib.hid (HS.out.2.2.2.next HA.out.below)
    by_cases hjn:j < n
    ·have hjn':(j:Int) < (n:Int):=by omega
     obtain ⟨b,hb⟩:∃ b,laid[j]? = some b:=⟨_,List.getElem?_eq_getElem (by rw [HS.out.2.2.1.1,HN.out];exact hjn)⟩
     have kb:=bool_cell HPY.out.laid hb
     have HIN:Hid (b = true ↔ j ∈ (ordN p).take k):=Lib.hid (by
      rw [← HS.out.2.2.1.2 j,List.getD_eq_getElem?_getD,hb]
      rfl)
     have HWN:=Lib.hid (wayN_next p k v j)
     clear hb
     cases b with
     | false =>
      have HW2:Hid (wayN p k v (j + 1) = wayN p k v j):=Lib.hid (by rw [HWN.out,if_neg (fun h=>by have:=HIN.out.2 h.1;cases this),List.append_nil])
      go_wp2
      go_roundw
      case rel=>exact ⟨j + 1,by go_num,by omega,Lib.hid (by rw [HW2.out];exact HA.out)⟩
      case measure=>simp [intOf];omega
     | true =>
      have HJM:=Lib.hid (HIN.out.1 rfl)
      have HBY:=Lib.hid HPY.out.box
      have HJI:Hid (I64 (j:Int)):=Lib.hid (by unfold I64;omega)
      go_wp2_with (with_reducible refine wpList_load_agg_w (by with_unfolding_all rfl) 30 _ rfl _ w.heap.size 0 rfl cs Tryz.underlying30 rfl HBY.out.size HBY.out.at ?_)
      refine (rapart_any20 cs p v j wy HBY.out.arg HR.out.2.nodes).mono ?_
      rintro e w5 ⟨ap,rfl,hb5,hap⟩
      have HAP:Hid (apB p (v:Int) (j:Int) = ap):=Lib.hid (by
       cases ap with
       | true=>exact apB_iff.2 (hap.1 rfl)
       | false =>
        cases h:apB p (v:Int) (j:Int) with
        | false=>rfl
        | true=>exact absurd (hap.2 (apB_iff.1 h)) (by simp))
      have HA5:=Lib.hid (HA.out.next hb5)
      clear hb5 hap HBY kb
      cases ap with
      | false =>
       have HW2:Hid (wayN p k v (j + 1) = wayN p k v j):=Lib.hid (by rw [HWN.out,if_neg (fun h=>by have:=h.2;rw [HAP.out] at this;cases this),List.append_nil])
       go_wp2
       go_roundw
       case rel=>exact ⟨j + 1,by go_num,by omega,Lib.hid (by rw [HW2.out];exact HA5.out)⟩
       case measure=>simp [intOf];omega
      | true =>
       have HW2:Hid (natI (wayN p k v (j + 1)) = natI (wayN p k v j)++[(j:Int)]):=Lib.hid (by
        rw [HWN.out,if_pos ⟨HJM.out,HAP.out⟩]
        unfold natI
        rw [List.map_append]
        rfl)
       have HLEN:Hid ((natI (wayN p k v j)).length ≤ 4096):=Lib.hid (by unfold natI;rw [List.length_map];have:=wayN_len p k v j;omega)
       have HSZ:=Lib.hid HA5.out.below.size
       go_wp2_with (at_builtin;refine wpList_append_lies _ rfl _ _ 24 rfl wx.heap.size 3 i0 (.int .i64 0) 1 8 Tryz.underlying24 hi0 hz0 hz1 hz2 rfl (by decide) _ _ _ rfl (HA5.out.own.alloc _) _ _ 1 1 [.int .i64 (j:Int)] rfl rfl (lies_new _ _ _) ?c2 ?c3 ?c4 ?c5 ?_)
       case c2=>first | (intro u hu;simp at hu;subst hu;rfl) | rfl
       case c3=>have:=HLEN.out;unfold maxLen;omega
       case c4=>have:=HLEN.out;omega
       case c5=>have:=HSZ.out;simp;omega
       intro v' w7 hown' hgrow _
       have HM7:=Lib.hid (HA5.out.more HJI.out hown' hgrow)
       clear hown' hgrow
       go_wp2
       go_roundw
       case rel=>exact ⟨j + 1,by go_num,by omega,Lib.hid (by rw [HW2.out];exact HM7.out)⟩
       case measure=>simp [intOf];omega
    ·have hjn':¬ (j:Int) < (n:Int):=by omega
     obtain rfl:j = n:=by omega
     have htk:((ordN p).take k).length ≤ 4096:=by rw [List.length_take];have:=Nat.min_le_left k (ordN p).length;omega
     obtain ⟨A',c',hv',ho⟩:=HA.out.lst (by unfold natI;rw [List.length_map];have:=wayN_len p k v j;omega)
     obtain ⟨mw,hmw⟩:∃ mw,(wayN p k v j).length = mw:=⟨_,rfl⟩
     have hmw4:mw ≤ 4096:=by rw [← hmw];have:=wayN_len p k v j;omega
     have hnl:(natI (wayN p k v j)).length = mw:=by unfold natI;rw [List.length_map,hmw]
     have ho2:=ho.rep
     rw [hnl] at hv' ho2
     have HWR:=Lib.hid (And.intro ho2 hmw)
     have HWO:=Lib.hid (way_ok HOK.out (v:=v) (n:=j) HS.out.2.1 htk)
     have H64:=Lib.hid (pack_i64 HOK.out HS.out.2.1 htk)
     have HVA:Hid (v < at_.length):=Lib.hid (by rw [HS.out.2.1.len,HN.out];exact hvn)
     have HPW:=Lib.hid (place_way (v:=v) HS.out.2.1 HV.out.2.2)
     obtain ⟨hl,hhl⟩:∃ h,holeD (srtB (wayD p ((ordN p).take k) at_ v)) (szAt p v) = h:=⟨_,rfl⟩
     rw [hhl,HN.out] at HPW
     have hnext:=packI_next srtB_law (sizes8 HOK.out) HS.out.2.1 HV.out.2.1 HV.out.2.2 (fun hm=>by
      obtain ⟨i,hi⟩:=List.mem_iff_getElem?.1 hm
      have hil:=(List.getElem?_eq_some_iff.1 hi).1
      rw [List.length_take] at hil
      rw [List.getElem?_take_of_lt (by omega)] at hi
      have hil2:i < (ordN p).length:=by omega
      have:=(List.getElem?_inj hil2 (ordN_nodup p)).1 (hi.trans HV.out.1.symm)
      omega)
     rw [hhl] at hnext
     have hstep:=HS.out.1
     rw [drop_at HV.out.1,packD,hhl] at hstep
     have HTK:Hid ((ordN p).take (k + 1) = (ordN p).take k++[v]):=Lib.hid (take_app HV.out.1)
     rw [← HTK.out] at hstep hnext
     have hbd:=pack_bd HOK.out hnext (by rw [List.length_take];have:=Nat.min_le_left (k + 1) (ordN p).length;omega)
     obtain ⟨in1,in2,in3⟩:=hnext.ins v (by rw [HTK.out];exact List.mem_append_right _ (List.mem_singleton.2 rfl))
     have HNX:=Lib.hid (And.intro hstep hnext)
     rw [atD_set HVA.out,if_pos rfl] at in1 in2
     obtain ⟨s1,s2⟩:=sizes_bd HOK.out v
     obtain ⟨b6,o6,rfl,hb6,ks⟩:=HC.out.2 v hvn
     have HKS:=Lib.hid (And.intro (show b6 < w.heap.size from hb6) ks)
     obtain ⟨sv,hsv⟩:∃ s,szAt p v = s:=⟨_,rfl⟩
     have HPL:=Lib.hid (place21_any cs p (some ⟨ab,0,none⟩) A' j j mw c' v at_ (wayN p k v j) wy HPY.out.box.arg HOK.out HN.out HWR.out.2 hmw4 (own_arr HPY.out.row (by rw [HS.out.2.1.len,HN.out]) H64.out hn4) HWR.out.1 HWO.out hvn)
     rw [HPW.out] at HPL
     rw [hsv] at HNX HKS s1 s2 in2 hbd
     obtain ⟨sn,hsn⟩:∃ s,max sz (hl + sv) = s:=⟨_,rfl⟩
     rw [hsn] at HNX hbd in2
     have HSN:=Lib.hid hsn
     subst hv'
     have HBY:=Lib.hid HPY.out.box
     obtain ⟨bd1,bd2⟩:=hbd
     clear ho ho2 hmw hnl hhl hnext hstep in3 hb6 ks hsv hsn hj hj0 htk HPW HWO H64
     go_wp2_with (with_reducible refine wpList_load_agg_w (by with_unfolding_all rfl) 30 _ rfl _ w.heap.size 0 rfl cs Tryz.underlying30 rfl HBY.out.size HBY.out.at ?_)
     refine HPL.out.mono ?_
     rintro e w5 ⟨rfl,hb5⟩
     have HP5:=Lib.hid (HPY.out.next hb5)
     clear hb5 HBY hjn' HPL
     have ka:=HP5.out.cell HVA.out
     have fa:=HP5.out.free v
     have HLV:Hid (v < laid.length):=Lib.hid (by rw [HS.out.2.2.1.1,HN.out];exact hvn)
     have HP6:=Lib.hid (HP5.out.store v hl)
     obtain ⟨b0,hb0⟩:∃ b,laid[v]? = some b:=⟨_,List.getElem?_eq_getElem HLV.out⟩
     have kl:=bool_cell HP6.out.laid hb0
     have fl:=HP6.out.free2 v
     have HP7:=Lib.hid (HP6.out.mark v)
     clear hb0
     go_upto_region 18 with (fail)
     clear ka fa kl fl
     refine wp_region_held_drew (S:=fun V=>RkI w cs p ab lb (at_.set v hl) (laid.set v true) V) (by kernel_rfl) (HP7.out.next ((Below.refl _ _).drew)) (fun hHeld=>?_)
     generalize World.drew _ = V0 at hHeld ⊢
     have HAS:Hid (v < (at_.set v hl).length∧atD (at_.set v hl) v = hl):=Lib.hid ⟨by rw [List.length_set];exact HVA.out,by rw [atD_set HVA.out,if_pos rfl]⟩
     refine tk0 0 (some 62) (v:=.int .i64 sz) rfl hHeld ?_
     refine tk0 1 (some 63) (v:=.slice (some ⟨ab,0,none⟩) j j) rfl hHeld ?_
     refine tk0 2 (some 64) (v:=.int .i64 (v:Int)) rfl hHeld ?_
     refine tk9 3 (some 65) (v:=.pointer (some ⟨ab,v,none⟩)) rfl (yields_indexQ (by kernel_rfl) _ _ _ rfl ab 0 j j v 1 v (v:Int) (by kernel_rfl) (by kernel_rfl) Tryz.underlying24 (by kernel_rfl) rfl hvn (by omega)) hHeld ?_
     refine tk9 4 (some 66) (v:=.int .i64 hl) rfl (yields_load_one9 (by kernel_rfl) _ _ rfl ab v (by kernel_rfl) _ _ Tryz.underlying3 rfl (fun _ h=>by rw [h.cell HAS.out.1,HAS.out.2])) hHeld ?_
     refine tk0 5 (some 67) (v:=.pointer (some ⟨w.heap.size,5,none⟩)) rfl hHeld ?_
     refine tk9 6 (some 68) (v:=.slice (some ⟨b6,o6,none⟩) j k6) rfl (yields_load_one9 (by kernel_rfl) _ _ rfl (w.heap.size) (5) (by kernel_rfl) _ _ Tryz.underlying24 rfl (fun _ h=>h.box.cell HC.out.1)) hHeld ?_
     refine tk0 7 (some 69) (v:=.int .i64 (v:Int)) rfl hHeld ?_
     refine tk9 8 (some 70) (v:=.pointer (some ⟨b6,o6 + v,none⟩)) rfl (yields_idx (by kernel_rfl) _ _ rfl b6 o6 (j) k6 v (by kernel_rfl) (by kernel_rfl) hvn) hHeld ?_
     refine tk9 9 (some 71) (v:=.int .i64 sv) rfl (yields_load_one9 (by kernel_rfl) _ _ rfl b6 (o6 + v) (by kernel_rfl) _ _ Tryz.underlying3 rfl (fun _ h=>h.box.old2 HKS.out.1 HKS.out.2)) hHeld ?_
     refine tk9 10 (some 72) (v:=.int .i64 (hl + sv)) rfl (yields_addI (by kernel_rfl) _ _ _ _ rfl hl sv (by kernel_rfl) (by kernel_rfl) (by kernel_rfl) in1 s1 (by omega)) hHeld ?_
     refine tk9 11 (some 73) (v:=.int .i64 sn) rfl (yields_maxD (by kernel_rfl) _ _ _ _ rfl sz (hl + sv) sn (by kernel_rfl) (by kernel_rfl) HSN.out) hHeld ?_
     refine tk0 12 (some 10) (v:=.int .i64 sn) rfl hHeld ?_
     refine wpAnyH_done (by kernel_rfl) ?_ _
     have HP8:=Lib.hid hHeld
     clear hHeld
     simp [Act.put]
     have HLM:=Lib.hid (HS.out.2.2.1.more HV.out.1)
     have HB8:=Lib.hid HP8.out.box
     go_wp2_with (with_reducible refine wpList_load_agg_w (by with_unfolding_all rfl) 30 _ rfl _ w.heap.size 0 rfl cs Tryz.underlying30 rfl HB8.out.size HB8.out.at ?_)
     have hnx:=next21_any cs p lb (laid.set v true) V0 HB8.out.arg HOK.out HLM.out.1 HP8.out.laid
     rw [HN.out] at hnx
     refine hnx.mono ?_
     rintro e w9 ⟨rfl,hb9⟩
     have HP9:=Lib.hid (HP8.out.next hb9)
     clear hb9 HB8 hnx
     go_wp2
     go_roundg (m - k)
     case measure=>have:=HG.out;omega
     case rel=>exact ⟨k + 1,at_.set v hl,laid.set v true,sn,rfl,rfl,by have:=HG.out;omega,by omega,bd1,bd2,Lib.hid ⟨HNX.out.1,HNX.out.2,HLM.out,HP9.out⟩⟩
end Go.Proofs.YtoeaglpmkjoenaaGreat
