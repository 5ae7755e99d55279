/-
  Chapter 21: arena.Pack: its walk. No condition.
-/
import Derived.Test.YtoeaglpmkjoenaaGreatQArnL
set_option linter.unusedSimpArgs false
set_option linter.unusedVariables false
namespace Go.Proofs.YtoeaglpmkjoenaaGreat
open Go.RowKit
open Rep (rep)
def PackP (p:PlanD) (most:Int) (w:World) (e:Ending) (w':World):Prop :=
 Below w.heap.size w w'∧((¬ SizesOk p∧e = .returned (.tuple #[.slice none 0 0,.int .i64 0,.int .i64 1])) ∨
  (SizesOk p∧(packAll p).2 > most∧e = .returned (.tuple #[.slice none 0 0,.int .i64 0,.int .i64 9])) ∨
  (SizesOk p∧¬ (packAll p).2 > most∧∃ ab,e = .returned (.tuple #[.slice (some ⟨ab,0,none⟩) p.size.length p.size.length,.int .i64 (packAll p).2,.int .i64 0])∧w.heap.size ≤ ab∧w'.heap[ab]? = some (.cells ((packAll p).1.map (Value.int .i64)).toArray 3 (0,0))∧PackI p (ordN p) (packAll p).1 (packAll p).2))
theorem sizes_lie {w:World} {cs:List Value} {p:PlanD} (hr:rep w (old w.heap.size) cs p):∃ A k,cs[5]? = some (.slice A p.size.length k)∧p.size.length ≤ k∧k ≤ 9223372036854775807∧rep w (old w.heap.size) [.slice A p.size.length k] p.size∧∀ j,j < p.size.length→∃ b o,A = some ⟨b,o,none⟩∧b < w.heap.size∧w.cell? ⟨b,o + j,none⟩ = some (.int .i64 (szAt p j)):=by
 obtain ⟨A1,k1,A2,k2,A3,k3,A4,k4,A5,k5,A6,k6,A7,k7,hcs,-,-,-,-,-,r6,-⟩:=open_PlanD hr
 obtain ⟨n1,n2⟩:=slice_bnd r6
 refine ⟨A6,k6,by rw [hcs];rfl,n1,n2,r6,fun j hj=>?_⟩
 have hget:p.size[j]? = some (szAt p j):=by
  unfold szAt
  rw [List.getD_eq_getElem?_getD,List.getElem?_eq_getElem hj]
  rfl
 obtain ⟨-,b,o,e,hb,kz⟩:=int_at r6 hget
 exact ⟨b,o,e,hb,kz⟩
set_option maxRecDepth 100000 in
set_option maxHeartbeats 16000000 in
theorem arenaPack_any (cs:List Value) (p:PlanD) (most:Int) (w:World) (hr:rep w (old w.heap.size) cs p) (hs:PlanB p) :
  Calls Tryz.prog 6 #[.agg cs.toArray,.int .i64 most] w (PackP p most w):=by
 obtain ⟨A6,k6,h5,n6,n6',r6,h6⟩:=sizes_lie hr
 have HC:=Lib.hid (And.intro h5 (And.intro r6 h6))
 have HR:=Lib.hid (And.intro hr hs)
 clear h5 r6 h6 hr hs
 obtain ⟨n,hn⟩:∃ n,p.size.length = n:=⟨_,rfl⟩
 rw [hn] at HC n6
 have HN:=Lib.hid hn
 obtain ⟨res,hres⟩:∃ r,packAll p = r:=⟨_,rfl⟩
 have HRES:=Lib.hid hres
 have HPP:Hid (∀ e w',PackP p most w e w' ↔ (Below w.heap.size w w'∧((¬ SizesOk p∧e = .returned (.tuple #[.slice none 0 0,.int .i64 0,.int .i64 1])) ∨
  (SizesOk p∧res.2 > most∧e = .returned (.tuple #[.slice none 0 0,.int .i64 0,.int .i64 9])) ∨
  (SizesOk p∧¬ res.2 > most∧∃ ab,e = .returned (.tuple #[.slice (some ⟨ab,0,none⟩) n n,.int .i64 res.2,.int .i64 0])∧w.heap.size ≤ ab∧w'.heap[ab]? = some (.cells (res.1.map (Value.int .i64)).toArray 3 (0,0))∧PackI p (ordN p) res.1 res.2)))):=Lib.hid fun e w'=>by unfold PackP;rw [hres,hn]
 clear hn hres
 go_enter Tryz.func6,Tryz.ntmps6
 go_wp2_with (with_reducible refine wpList_box_row rfl 30 _ rfl cs rfl ?_;have hX:=plan_start HR.out.1;generalize World.alloc _ _ = W0 at hX ⊢;have HX:=Lib.hid hX;clear hX;refine halt ?_)
 unfold Halt
 have c5:=HX.out.cell HC.out.1
 by_cases hlen:n > 4096
 ·have hlenI:(n:Int) > 4096:=by omega
  have HB:Hid (¬ SizesOk p):=Lib.hid fun h=>by have:=h.1;rw [HN.out] at this;omega
  go_wp2
  go_ret3
  exact (HPP.out _ _).2 ⟨HX.out.below,.inl ⟨HB.out,rfl⟩⟩
 have hlenI:¬ (n:Int) > 4096:=by omega
 go_wp2_with fail
 refine (containsInts0_any p.size (.slice A6 n k6) 13 szB (fun W=>W = W0) W0 (enters_of Tryz.func13 (by kernel_rfl) rfl) (HX.out.box.keeps' HC.out.2.1) rfl (fun W e=>by rw [e];exact Below.refl _ _) (fun x _ hx W hW=>by
  subst hW
  exact pack1_any x W hx)).mono ?_
 rintro e w1 ⟨rfl,rfl⟩
 obtain ⟨bad,hbad⟩:∃ b,p.size.any szB = b:=⟨_,rfl⟩
 rw [hbad]
 have HBAD:=Lib.hid hbad
 clear hbad
 cases bad with
 | true =>
  have HB:Hid (¬ SizesOk p):=Lib.hid fun h=>by
   obtain ⟨x,hx,hx2⟩:=List.any_eq_true.1 HBAD.out
   rw [h.2 x hx] at hx2
   cases hx2
  go_wp2
  go_ret3
  exact (HPP.out _ _).2 ⟨HX.out.below,.inl ⟨HB.out,rfl⟩⟩
 | false =>
 have HOK:Hid (SizesOk p):=Lib.hid ⟨by rw [HN.out];omega,fun x hx=>by
  have:=List.any_eq_false.1 HBAD.out x hx
  simpa using this⟩
 clear HBAD hlenI
 have hn4:n ≤ 4096:=by omega
 clear hlen
 obtain ⟨i0,hi0,hz0,hz1,hz2⟩:=info_parts info_int1
 go_wp2_with fail
 clear c5
 go_loopw [7,29] (fun v i wr=>∃ k:Nat,i = .int .i64 k∧k ≤ n∧Hid (AppI w1 wr v (natI (liveV p k)))) (fun _ i _=>n - (intOf i).toNat)
 case atStart=>exact ⟨0,rfl,Nat.zero_le _,Lib.hid (AppI.nil _)⟩
 case round =>
  obtain ⟨k,rfl,hk,HA⟩:=hrel
  obtain ⟨wb,rfl⟩:∃ wb,wb = wr:=⟨_,rfl⟩
  have hk0:(0:Int) ≤ (k:Int):=Int.natCast_nonneg _
  by_cases hlt:k < n
  ·have hlt':(k:Int) < (n:Int):=by omega
   obtain ⟨b,o,rfl,hb,kz⟩:=HC.out.2.2 k hlt
   have kz':wb.cell? ⟨b,o + k,none⟩ = some (.int .i64 (szAt p k)):=(HA.out.below.cell (p:=⟨b,o + k,none⟩) (Nat.lt_trans hb HX.out.lt)).trans (HX.out.old2 hb kz)
   have HLV:=Lib.hid (liveV_next p k)
   obtain ⟨sz,hsz⟩:∃ s,szAt p k = s:=⟨_,rfl⟩
   rw [hsz] at kz' HLV
   clear hb kz hsz
   by_cases hp:sz > 0
   ·have HI:Hid (I64 (k:Int)):=Lib.hid (by unfold I64;omega)
    have HLEN:Hid ((natI (liveV p k)).length ≤ 4096):=Lib.hid (by unfold natI;rw [List.length_map];have:=liveV_len p k;omega)
    have HSZ:=Lib.hid HA.out.below.size
    go_wp2_with (at_builtin;refine wpList_append_lies _ rfl _ _ 24 rfl w1.heap.size 3 i0 (.int .i64 0) 1 8 Tryz.underlying24 hi0 hz0 hz1 hz2 rfl (by decide) _ _ _ rfl (HA.out.own.alloc _) _ _ 1 1 [.int .i64 (k:Int)] rfl rfl (lies_new _ _ _) ?c2 ?c3 ?c4 ?c5 ?_)
    case c2=>first | (intro u hu;simp at hu;subst hu;rfl) | rfl
    case c3=>have:=HLEN.out;unfold maxLen;omega
    case c4=>have:=HLEN.out;omega
    case c5=>have:=HSZ.out;simp;omega
    intro v' w7 hown' hgrow _
    have HM:=Lib.hid (HA.out.more HI.out hown' hgrow)
    have HLV2:Hid (natI (liveV p (k + 1)) = natI (liveV p k)++[(k:Int)]):=Lib.hid (by rw [HLV.out,if_pos hp];unfold natI;rw [List.map_append];rfl)
    clear hown' hgrow
    go_wp2
    go_roundw
    case rel=>exact ⟨k + 1,by go_num,by omega,Lib.hid (by rw [HLV2.out];exact HM.out)⟩
    case measure=>simp [intOf];omega
   ·have HLV2:Hid (liveV p (k + 1) = liveV p k):=Lib.hid (by rw [HLV.out,if_neg hp])
    go_wp2
    go_roundw
    case rel=>exact ⟨k + 1,by go_num,by omega,Lib.hid (by rw [HLV2.out];exact HA.out)⟩
    case measure=>simp [intOf];omega
  ·have hlt':¬ (k:Int) < (n:Int):=by omega
   obtain rfl:k = n:=by omega
   have HX1:=Lib.hid (HX.out.next HA.out.below)
   have HIO:=Lib.hid (ordI_len p)
   rw [HN.out] at HIO
   obtain ⟨m,hm⟩:∃ m,(liveV p k).length = m:=⟨_,rfl⟩
   rw [hm] at HIO
   have hmk:m ≤ k:=by have:=liveV_len p k;omega
   have HL0:Hid ((natI (liveV p k)).length = m):=Lib.hid (by unfold natI;rw [List.length_map,hm])
   have hsort:∃ (A:Option Addr) (cap:Nat),u7 = .slice A m cap∧m ≤ cap∧cap ≤ 9223372036854775807∧Calls Tryz.prog 14 #[.slice A m cap,.func (.func 15) #[] #[.pointer (some ⟨w.heap.size,0,none⟩)]] wb fun e w'=>e = .returned (.tuple #[])∧PlanI w cs p w'∧OrdR w'.heap.size w' A (ordI p):=by
    by_cases h0:m = 0
    ·obtain ⟨A,cap,hv,ho⟩:=HA.out.lst (by rw [HL0.out];omega)
     rw [HL0.out] at hv
     obtain ⟨c1,c2⟩:=slice_bnd ho
     rw [HL0.out] at c1
     refine ⟨A,cap,hv,c1,c2,?_⟩
     rw [h0]
     refine (sortStable_nil A cap _ wb).mono ?_
     rintro e w2 ⟨rfl,rfl⟩
     refine ⟨rfl,HX1.out,fun j x hj=>?_⟩
     have:=(List.getElem?_eq_some_iff.1 hj).1
     rw [HIO.out] at this
     omega
    ·obtain ⟨g,cap,hv,hg1,hg2,c1,c2,hS⟩:=srt_of_app HA.out (by rw [HL0.out];omega)
     rw [HL0.out] at hv c1
     refine ⟨some ⟨g,0,none⟩,cap,hv,c1,c2,?_⟩
     have hpg:w.heap.size < g:=Nat.lt_of_lt_of_le HX.out.lt hg1
     have h:=sortStable_any wb wb g cap 15 #[.pointer (some ⟨w.heap.size,0,none⟩)] (okS p) (cmpS p) (natI (liveV p k)) (Lib.hid (pack2_law HX1.out hpg)) hS (fun x hx=>by
      unfold natI at hx
      obtain ⟨v,hv,rfl⟩:=List.mem_map.1 hx
      have:=List.mem_range.1 (List.mem_filter.1 hv).1
      exact ⟨by omega,by rw [HN.out];omega⟩) (by rw [HL0.out];exact c1) c2 (by rw [HL0.out];omega)
     rw [HL0.out] at h
     refine h.mono ?_
     rintro e w2 ⟨rfl,hS2⟩
     refine ⟨rfl,HX1.out.grown hS2.fr (fun b e=>by injection e with e;omega),fun j x hj=>⟨g,rfl,Nat.lt_of_lt_of_le hg2 hS2.fr.size,?_⟩⟩
     obtain ⟨cur,e1,e2⟩:=hS2.row
     rw [cell_of_row _ _ _ _ _ _ e1]
     have:stabD (cmpS p) (natI (liveV p k)) = ordI p:=by unfold ordI;rw [HN.out]
     rw [this] at e2
     exact e2 j x hj
   obtain ⟨A,cap,rfl,hc1,hc2,hcall⟩:=hsort
   have HCALL:=Lib.hid hcall
   have HM:=Lib.hid hm
   clear hcall hm HA HL0
   go_wp2_with fail
   refine HCALL.out.mono ?_
   rintro e w2 ⟨rfl,hX2,hO2⟩
   have HX2:=Lib.hid hX2
   have HO2:=Lib.hid hO2
   clear hX2 hO2 HCALL HX1
   have c5:=HX2.out.cell HC.out.1
   have hmk2:=make_ints k w2 (by omega)
   go_wp2_with fail
   clear hmk2 c5
   have hI0:PakI w cs p w2.heap.size w2.heap.size A (ordI p) (List.replicate k 0) (w2.alloc (.cells (Array.replicate k (.int .i64 0)) 3)):=by
    have hb:=((Below.refl w2.heap.size w2).alloc (Nat.le_refl _) (.cells (Array.replicate k (.int .i64 0)) 3))
    refine ⟨HX2.out.next hb,fun j x hj=>?_,?_,HX2.out.lt,Nat.le_refl _⟩
    ·obtain ⟨g,e1,e2,e3⟩:=HO2.out j x hj
     exact ⟨g,e1,e2,(hb.cell (p:=⟨g,j,none⟩) e2).trans e3⟩
    ·rw [heap_alloc_new]
     simp
   obtain ⟨N,hN⟩:∃ N,w2.heap.size = N:=⟨_,rfl⟩
   obtain ⟨W2,hW2⟩:∃ W2,w2.alloc (.cells (Array.replicate k (.int .i64 0)) 3) = W2:=⟨_,rfl⟩
   rw [hN,hW2] at hI0
   rw [hN]
   try rw [hW2]
   have HI0:=Lib.hid hI0
   have HP0:Hid (packD srtB p (ordN p) [] (List.replicate k 0) 0 = res∧PackI p [] (List.replicate k 0) 0):=Lib.hid (by
    have h1:=HRES.out
    have h2:=packI_start p
    unfold packAll at h1
    rw [HN.out] at h1 h2
    exact ⟨h1,h2⟩)
   clear hI0 hN hW2 HX2 HO2
   have HON:Hid ((ordN p).length = m):=Lib.hid (by rw [ordN_len,HIO.out])
   go_loopw [11,50] (fun z i wr=>∃ (j:Nat) (at_:List Int) (sz:Int),z = .int .i64 sz∧i = .int .i64 j∧j ≤ m∧0 ≤ sz∧sz ≤ 134217728∧Hid (packD srtB p ((ordN p).drop j) ((ordN p).take j) at_ sz = res∧PackI p ((ordN p).take j) at_ sz∧PakI w cs p N N A (ordI p) at_ wr)) (fun _ i _=>m - (intOf i).toNat)
   case atStart=>exact ⟨0,_,0,rfl,rfl,Nat.zero_le _,by omega,by omega,Lib.hid ⟨HP0.out.1,HP0.out.2,HI0.out⟩⟩
   case round =>
    clear HI0 HP0
    obtain ⟨j,at_,sz,rfl,rfl,hj,hz1',hz2',HS⟩:=hrel
    obtain ⟨wx,rfl⟩:∃ wx,wx = wr:=⟨_,rfl⟩
    have hj0:(0:Int) ≤ (j:Int):=Int.natCast_nonneg _
    by_cases hjm:j < m
    ·have hjmI:(j:Int) < (m:Int):=by omega
     obtain ⟨x,hx⟩:∃ x,(ordI p)[j]? = some x:=⟨_,List.getElem?_eq_getElem (by rw [HIO.out];exact hjm)⟩
     obtain ⟨v,rfl,hvN,hvl,hvp⟩:=ordN_at hx
     obtain ⟨g,rfl,hg,kx⟩:=HS.out.2.2.ord j _ hx
     have HV:=Lib.hid (And.intro hvN (And.intro hvl hvp))
     have hvk:v < k:=by rw [HN.out] at hvl;exact hvl
     clear hx hvN hvl hvp hg
     have hjc:j ≤ cap:=by omega
     go_wp2_with fail
     clear kx
     go_loopw [14,59] (fun vw i wr=>∃ (q:Nat) (ws:List (Int × Int)) (xs:List Value),i = .int .i64 q∧q ≤ j∧Hid (ws = wayD p ((ordN p).take q) at_ v∧GrowB wx wr vw ws xs)) (fun _ i _=>j - (intOf i).toNat)
     case atStart=>exact ⟨0,[],[],rfl,Nat.zero_le _,Lib.hid ⟨rfl,GrowB.nil _⟩⟩
     case round =>
      obtain ⟨q,ws,xs,rfl,hq,HG⟩:=hrel
      obtain ⟨wy,rfl⟩:∃ wy,wy = wr:=⟨_,rfl⟩
      have hq0:(0:Int) ≤ (q:Int):=Int.natCast_nonneg _
      have HPY:=Lib.hid (HS.out.2.2.next HG.out.2.below)
      by_cases hqj:q < j
      ·have hqjI:(q:Int) < (j:Int):=by omega
       obtain ⟨y,hy⟩:∃ y,(ordI p)[q]? = some y:=⟨_,List.getElem?_eq_getElem (by rw [HIO.out];omega)⟩
       obtain ⟨u,rfl,huN,hul,hup⟩:=ordN_at hy
       obtain ⟨g',e,hg,ku⟩:=HPY.out.ord q _ hy
       injection e with e
       injection e with e
       subst e
       have HU:=Lib.hid (And.intro huN (And.intro hul hup))
       have huk:u < k:=by rw [HN.out] at hul;exact hul
       have HTK:Hid ((ordN p).take (q + 1) = (ordN p).take q++[u]):=Lib.hid (take_app huN)
       clear hy huN hul hup hg
       have HBX:=Lib.hid HPY.out.box
       have HVI:Hid (I64 (v:Int)∧I64 (u:Int)):=Lib.hid (by unfold I64;omega)
       go_wp2_with (with_reducible refine wpList_load_agg rfl 30 _ rfl _ _ _ rfl cs Tryz.underlying30 rfl HBX.out.size HBX.out.at ?_)
       clear ku
       refine (apart_any cs p v u wy HBX.out.arg HR.out.2 HVI.out.1 HVI.out.2).mono ?_
       rintro e w5 ⟨ap,rfl,hb5,hap⟩
       have HAP:Hid (apB p (v:Int) (u:Int) = ap):=Lib.hid (by
        cases ap with
        | true=>exact apB_iff.2 (hap.1 rfl)
        | false =>
         cases h:apB p (v:Int) (u:Int) with
         | false=>rfl
         | true=>exact absurd (hap.2 (apB_iff.1 h)) (by simp))
       have HG5:=Lib.hid (HG.out.2.next hb5)
       have HP5:=Lib.hid (HPY.out.next hb5)
       clear hb5 hap HBX
       cases ap with
       | false =>
        have HW:Hid (ws = wayD p ((ordN p).take (q + 1)) at_ v):=Lib.hid (by rw [HTK.out,way_app,HAP.out,← HG.out.1];simp)
        go_wp2
        go_roundw
        case rel=>exact ⟨q + 1,ws,xs,by go_num,by omega,Lib.hid ⟨HW.out,HG5.out⟩⟩
        case measure=>simp [intOf];omega
       | true =>
        have HW:Hid (ws++[(atD at_ u,atD at_ u + szAt p u)] = wayD p ((ordN p).take (q + 1)) at_ v):=Lib.hid (by rw [HTK.out,way_app,HAP.out,← HG.out.1];simp)
        have hua:u < at_.length:=by rw [HS.out.2.1.len,HN.out];exact huk
        have hum:u ∈ (ordN p).take j:=by
         refine List.mem_iff_getElem?.2 ⟨q,?_⟩
         rw [List.getElem?_take_of_lt hqj]
         exact HU.out.1
        obtain ⟨t1,t2,t3⟩:=HS.out.2.1.ins u hum
        obtain ⟨t4,t5⟩:=sizes_bd HOK.out u
        obtain ⟨b6,o6,eA,hb6,ks⟩:=HC.out.2.2 u huk
        have HSU:=Lib.hid (And.intro hua (And.intro (show b6 < w.heap.size from hb6) ks))
        obtain ⟨av,hav⟩:∃ a,atD at_ u = a:=⟨_,rfl⟩
        obtain ⟨su,hsu⟩:∃ a,szAt p u = a:=⟨_,rfl⟩
        rw [hav] at t1 t2 HW
        rw [hsu] at t2 t4 t5 HSU HW
        have HAV:=Lib.hid hav
        have HLW:Hid (ws.length ≤ q):=Lib.hid (by
         rw [HG.out.1]
         unfold wayD
         rw [List.length_map]
         exact Nat.le_trans (List.length_filter_le _ _) (by rw [List.length_take];exact Nat.min_le_left _ _))
        have hq4:q ≤ 4096:=by omega
        subst eA
        clear hua hum t3 hb6 ks hav hsu
        obtain ⟨i1,hi1,hy0,hy1,hy2⟩:=info_parts blockInfoZ
        go_upto_region 20 with (fail)
        refine wp_region_held_drew (S:=fun V=>PakI w cs p N N (some ⟨g,0,none⟩) (ordI p) at_ V) (by kernel_rfl) (HP5.out.next ((Below.refl _ _).drew)) (fun hHeld=>?_)
        have hG0:=HG5.out.next ((Below.refl _ _).drew)
        generalize World.drew _ = V0 at hHeld hG0 ⊢
        refine tk0 0 (some 67) (v:=u14) rfl hHeld ?_
        refine tk0 1 (some 68) (v:=.slice (some ⟨N,0,none⟩) k k) rfl hHeld ?_
        refine tk0 2 (some 69) (v:=.int .i64 (u:Int)) rfl hHeld ?_
        refine tk9 3 (some 70) (v:=.pointer (some ⟨N,u,none⟩)) rfl (yields_indexQ (by kernel_rfl) _ _ _ rfl N 0 k k u 1 u (u:Int) (by kernel_rfl) (by kernel_rfl) Tryz.underlying24 (by kernel_rfl) rfl huk (by omega)) hHeld ?_
        refine tk9 4 (some 71) (v:=.int .i64 av) rfl (yields_load_one9 (by kernel_rfl) _ _ rfl N u (by kernel_rfl) _ _ Tryz.underlying3 rfl (fun _ h=>by rw [h.cell HSU.out.1,HAV.out])) hHeld ?_
        refine tk0 5 (some 72) (v:=.slice (some ⟨N,0,none⟩) k k) rfl hHeld ?_
        refine tk0 6 (some 73) (v:=.int .i64 (u:Int)) rfl hHeld ?_
        refine tk9 7 (some 74) (v:=.pointer (some ⟨N,u,none⟩)) rfl (yields_indexQ (by kernel_rfl) _ _ _ rfl N 0 k k u 1 u (u:Int) (by kernel_rfl) (by kernel_rfl) Tryz.underlying24 (by kernel_rfl) rfl huk (by omega)) hHeld ?_
        refine tk9 8 (some 75) (v:=.int .i64 av) rfl (yields_load_one9 (by kernel_rfl) _ _ rfl N u (by kernel_rfl) _ _ Tryz.underlying3 rfl (fun _ h=>by rw [h.cell HSU.out.1,HAV.out])) hHeld ?_
        refine tk0 9 (some 76) (v:=.pointer (some ⟨w.heap.size,5,none⟩)) rfl hHeld ?_
        refine tk9 10 (some 77) (v:=.slice (some ⟨b6,o6,none⟩) k k6) rfl (yields_load_one9 (by kernel_rfl) _ _ rfl (w.heap.size) (5) (by kernel_rfl) _ _ Tryz.underlying24 rfl (fun _ h=>h.box.cell HC.out.1)) hHeld ?_
        refine tk0 11 (some 78) (v:=.int .i64 (u:Int)) rfl hHeld ?_
        refine tk9 12 (some 79) (v:=.pointer (some ⟨b6,o6 + u,none⟩)) rfl (yields_idx (by kernel_rfl) _ _ rfl b6 o6 (k) k6 u (by kernel_rfl) (by kernel_rfl) huk) hHeld ?_
        refine tk9 13 (some 80) (v:=.int .i64 su) rfl (yields_load_one9 (by kernel_rfl) _ _ rfl b6 (o6 + u) (by kernel_rfl) _ _ Tryz.underlying3 rfl (fun _ h=>h.box.old2 HSU.out.2.1 HSU.out.2.2)) hHeld ?_
        refine tk9 14 (some 81) (v:=.int .i64 (av + su)) rfl (yields_addI (by kernel_rfl) _ _ _ _ rfl av su (by kernel_rfl) (by kernel_rfl) (by kernel_rfl) t1 t4 (by omega)) hHeld ?_
        refine tk0 15 (some 82) (v:=.agg #[.int .i64 av,.int .i64 (av + su)]) rfl hHeld ?_
        refine oneLay 16 (some 83) rfl rfl (by kernel_rfl) (by kernel_rfl) (.slice (some ⟨V0.heap.size,0,none⟩) 1 1) [.cells #[.int .i64 av,.int .i64 (av + su)] 59] (by kernel_rfl) (hHeld.next ((Below.refl _ _).alloc (Nat.le_refl _) _)) ?_
        change wpAnyH _ _ _ _ _ _ _ _ (V0.alloc (.cells #[.int .i64 av,.int .i64 (av + su)] 59))
        have hbs:=hG0.below.size
        refine anyH_append_at 17 (some 84) rfl rfl (by kernel_rfl) (by kernel_rfl) _ _ 57 rfl wx.heap.size 59 i1 (.agg #[.int .i64 0,.int .i64 0]) 2 16 Tryz.underlying57 hi1 hy0 hy1 hy2 rfl (by decide) u14 ws.length xs (by kernel_rfl) (hG0.own.alloc _) ⟨V0.heap.size,0,none⟩ 1 1 [.int .i64 av,.int .i64 (av + su)] (by kernel_rfl) rfl ?c1 (by intro x hx;simp at hx;rcases hx with rfl | rfl <;> rfl) (by have:=HLW.out;unfold maxLen;omega) (by have:=HLW.out;omega) (by rw [World.size_alloc];omega) ?_
        case c1 =>
         intro j x hx
         have hnew:=heap_alloc_new V0 (.cells #[.int .i64 av,.int .i64 (av + su)] 59)
         rw [show ((⟨V0.heap.size,0,none⟩:Addr).add j) = ⟨V0.heap.size,j,none⟩ by simp [Addr.add];intro h;omega,cell_of_row _ _ _ _ _ _ hnew]
         simpa using hx
        intro v' w8 hown' hgrow hloc
        have HG8:=Lib.hid (hG0.more (b:=(av,av + su)) hown' hgrow)
        have HP8:=Lib.hid ((hHeld.next ((Below.refl _ _).alloc (Nat.le_refl _) (.cells #[.int .i64 av,.int .i64 (av + su)] 59))).grown hgrow (fun b e=>by have:=(hG0.own.lt b e).1;have:=HS.out.2.2.lt;omega))
        refine ⟨HP8.out,?_⟩
        clear hown' hgrow hloc hbs hHeld hG0
        refine tk0 18 (some 14) (v:=v') rfl HP8.out ?_
        refine wpAnyH_done (by kernel_rfl) ?_ _
        simp [Act.put]
        go_wp2_with fail
        go_roundw
        case rel=>exact ⟨q + 1,ws++[(av,av + su)],xs++encB (av,av + su),by go_num,by omega,Lib.hid ⟨HW.out,HG8.out⟩⟩
        case measure=>simp [intOf];omega
      ·have hqjI:¬ (q:Int) < (j:Int):=by omega
       obtain rfl:q = j:=by omega
       obtain ⟨A',cap',rfl,hrow,hcap',hblk⟩:=HG.out.2.fin
       obtain ⟨n',hn'⟩:∃ n',ws.length = n':=⟨_,rfl⟩
       have hlw:n' ≤ 4096:=by
        rw [← hn',HG.out.1]
        unfold wayD
        rw [List.length_map]
        exact Nat.le_trans (List.length_filter_le _ _) (by rw [List.length_take];have:=Nat.min_le_left q (ordN p).length;omega)
       obtain ⟨s1,s2⟩:=sizes_bd HOK.out v
       have hcall:=hole_any A' n' cap' ws (szAt p v) wy hn' hrow hlw hcap' (fun b hb=>by
        rw [HG.out.1] at hb
        obtain ⟨u,hu,-,rfl⟩:=way_mem.1 hb
        obtain ⟨t1,t2,-⟩:=HS.out.2.1.ins u hu
        obtain ⟨t4,t5⟩:=sizes_bd HOK.out u
        exact ⟨t1,by simp only;omega,by simp only;omega,by simp only;omega⟩) HV.out.2.2 (by omega)
       rw [HG.out.1] at hcall
       rw [hn']
       obtain ⟨hl,hhl⟩:∃ h,holeD (srtB (wayD p ((ordN p).take q) at_ v)) (szAt p v) = h:=⟨_,rfl⟩
       rw [hhl] at hcall
       have hnext:=packI_next srtB_law (sizes8 HOK.out) HS.out.2.1 HV.out.2.1 HV.out.2.2 (fun hm=>by
        obtain ⟨i,hi⟩:=List.mem_iff_getElem?.1 hm
        have hil:=(List.getElem?_eq_some_iff.1 hi).1
        rw [List.length_take] at hil
        rw [List.getElem?_take_of_lt (by omega)] at hi
        have hnd:=ordN_nodup p
        have hil2:i < (ordN p).length:=by omega
        have:=(List.getElem?_inj hil2 hnd).1 (hi.trans HV.out.1.symm)
        omega)
       rw [hhl] at hnext
       have hstep:=HS.out.1
       rw [drop_at HV.out.1,packD,hhl] at hstep
       have HTK:Hid ((ordN p).take (q + 1) = (ordN p).take q++[v]):=Lib.hid (take_app HV.out.1)
       rw [← HTK.out] at hstep hnext
       have hbd:=pack_bd HOK.out hnext (by rw [List.length_take];have:=Nat.min_le_left (q + 1) (ordN p).length;omega)
       obtain ⟨in1,in2,in3⟩:=hnext.ins v (by rw [HTK.out];exact List.mem_append_right _ (List.mem_singleton.2 rfl))
       have HNX:=Lib.hid (And.intro hstep hnext)
       have hva:v < at_.length:=by rw [HS.out.2.1.len,HN.out];exact hvk
       rw [atD_set hva,if_pos rfl] at in1 in2
       have HVA:=Lib.hid hva
       obtain ⟨b6,o6,rfl,hb6,ks⟩:=HC.out.2.2 v hvk
       have HKS:=Lib.hid (And.intro (show b6 < w.heap.size from hb6) ks)
       have HCALL:=Lib.hid hcall
       have HBLK:=Lib.hid hblk
       obtain ⟨sv,hsv⟩:∃ s,szAt p v = s:=⟨_,rfl⟩
       rw [hsv] at HCALL HNX HKS s1 s2 in2 hbd
       have c5:=HPY.out.box.cell HC.out.1
       have kv:=HPY.out.box.old2 HKS.out.1 HKS.out.2
       obtain ⟨sn,hsn⟩:∃ s,max sz (hl + sv) = s:=⟨_,rfl⟩
       rw [hsn] at HNX hbd in2
       have HSN:=Lib.hid hsn
       clear hcall hstep hnext hblk hrow hb6 ks hhl hsv hva hn' in3 hlw hsn
       go_wp2_with fail
       refine HCALL.out.mono ?_
       rintro e w5 ⟨rfl,hg5⟩
       have HP5:=Lib.hid (HPY.out.grown hg5 (fun b e=>by have:=HBLK.out b e;have:=HS.out.2.2.lt;omega))
       clear hg5 c5 kv
       have ka:=HP5.out.cell HVA.out
       have fa:=HP5.out.free v
       go_upto_region 23 with (fail)
       clear ka fa
       have HP6:=Lib.hid (HP5.out.store v hl)
       refine wp_region_held_drew (S:=fun V=>PakI w cs p N N (some ⟨g,0,none⟩) (ordI p) (at_.set v hl) V) (by kernel_rfl) (HP6.out.next ((Below.refl _ _).drew)) (fun hHeld=>?_)
       generalize World.drew _ = V0 at hHeld ⊢
       have HAS:Hid (v < (at_.set v hl).length∧atD (at_.set v hl) v = hl):=Lib.hid ⟨by rw [List.length_set];exact HVA.out,by rw [atD_set HVA.out,if_pos rfl]⟩
       refine tk0 0 (some 96) (v:=.int .i64 sz) rfl hHeld ?_
       refine tk0 1 (some 97) (v:=.slice (some ⟨N,0,none⟩) k k) rfl hHeld ?_
       refine tk0 2 (some 98) (v:=.int .i64 (v:Int)) rfl hHeld ?_
       refine tk9 3 (some 99) (v:=.pointer (some ⟨N,v,none⟩)) rfl (yields_indexQ (by kernel_rfl) _ _ _ rfl N 0 k k v 1 v (v:Int) (by kernel_rfl) (by kernel_rfl) Tryz.underlying24 (by kernel_rfl) rfl hvk (by omega)) hHeld ?_
       refine tk9 4 (some 100) (v:=.int .i64 hl) rfl (yields_load_one9 (by kernel_rfl) _ _ rfl N v (by kernel_rfl) _ _ Tryz.underlying3 rfl (fun _ h=>by rw [h.cell HAS.out.1,HAS.out.2])) hHeld ?_
       refine tk0 5 (some 101) (v:=.pointer (some ⟨w.heap.size,5,none⟩)) rfl hHeld ?_
       refine tk9 6 (some 102) (v:=.slice (some ⟨b6,o6,none⟩) k k6) rfl (yields_load_one9 (by kernel_rfl) _ _ rfl (w.heap.size) (5) (by kernel_rfl) _ _ Tryz.underlying24 rfl (fun _ h=>h.box.cell HC.out.1)) hHeld ?_
       refine tk0 7 (some 103) (v:=.int .i64 (v:Int)) rfl hHeld ?_
       refine tk9 8 (some 104) (v:=.pointer (some ⟨b6,o6 + v,none⟩)) rfl (yields_idx (by kernel_rfl) _ _ rfl b6 o6 (k) k6 v (by kernel_rfl) (by kernel_rfl) hvk) hHeld ?_
       refine tk9 9 (some 105) (v:=.int .i64 sv) rfl (yields_load_one9 (by kernel_rfl) _ _ rfl b6 (o6 + v) (by kernel_rfl) _ _ Tryz.underlying3 rfl (fun _ h=>h.box.old2 HKS.out.1 HKS.out.2)) hHeld ?_
       refine tk9 10 (some 106) (v:=.int .i64 (hl + sv)) rfl (yields_addI (by kernel_rfl) _ _ _ _ rfl hl sv (by kernel_rfl) (by kernel_rfl) (by kernel_rfl) in1 s1 (by omega)) hHeld ?_
       refine tk9 11 (some 107) (v:=.int .i64 sn) rfl (yields_maxD (by kernel_rfl) _ _ _ _ rfl sz (hl + sv) sn (by kernel_rfl) (by kernel_rfl) HSN.out) hHeld ?_
       refine tk0 12 (some 11) (v:=.int .i64 sn) rfl hHeld ?_
       refine wpAnyH_done (by kernel_rfl) ?_ _
       have HP7:=Lib.hid hHeld
       clear hHeld
       simp [Act.put]
       go_wp2_with fail
       go_roundw
       case rel=>exact ⟨q + 1,at_.set v hl,sn,rfl,by go_num,by omega,hbd.1,hbd.2,Lib.hid ⟨HNX.out.1,HNX.out.2,HP7.out⟩⟩
       case measure=>simp [intOf];omega
    ·have hjmI:¬ (j:Int) < (m:Int):=by omega
     obtain rfl:j = m:=by omega
     have HF:Hid ((at_,sz) = res∧PackI p (ordN p) at_ sz):=Lib.hid (by
      have h1:=HS.out.1
      have h2:=HS.out.2.1
      rw [List.drop_of_length_le (by rw [HON.out];exact Nat.le_refl _),packD] at h1
      rw [List.take_of_length_le (by rw [HON.out];exact Nat.le_refl _)] at h2
      exact ⟨h1,h2⟩)
     have HBW:Hid (w.heap.size ≤ N):=Lib.hid (Nat.le_of_lt HS.out.2.2.lo)
     by_cases hmost:sz > most
     ·go_wp2
      go_ret3
      exact (HPP.out _ _).2 ⟨HS.out.2.2.box.below,.inr (.inl ⟨HOK.out,by rw [← HF.out.1];exact hmost,rfl⟩)⟩
     ·go_wp2
      go_ret3
      refine (HPP.out _ _).2 ⟨HS.out.2.2.box.below,.inr (.inr ⟨HOK.out,by rw [← HF.out.1];exact hmost,N,?_,HBW.out,by rw [← HF.out.1];exact HS.out.2.2.row,by rw [← HF.out.1];exact HF.out.2⟩)⟩
      rw [← HF.out.1]
      rfl
end Go.Proofs.YtoeaglpmkjoenaaGreat
