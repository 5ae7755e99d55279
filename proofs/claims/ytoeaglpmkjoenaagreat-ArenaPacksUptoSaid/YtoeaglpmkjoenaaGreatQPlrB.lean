/-
  Chapter 21's document: where a value is laid. No condition.
-/
import Derived.Test.YtoeaglpmkjoenaaGreatQPlrA
import Derived.Test.YtoeaglpmkjoenaaGreatQQueue
set_option linter.unusedSimpArgs false
set_option linter.unusedVariables false
namespace Go.Proofs.YtoeaglpmkjoenaaGreat
open Go.RowKit
open Rep (rep)
theorem QRow.at {w:World} {base:Nat} {v:Value} {l:List Int} (h:QRow w base v l):∃ (g off cap:Nat),v = .slice (some ⟨g,off,none⟩) l.length cap∧base ≤ g∧g < w.heap.size∧l.length ≤ cap∧cap ≤ 9223372036854775807∧∀ (j:Nat) (x:Int),l[j]? = some x→w.cell? ⟨g,off + j,none⟩ = some (.int .i64 x):=by
 obtain ⟨g,off,cap,cur,hv,h1,h2,h3,h4,h5,h6⟩:=h
 exact ⟨g,off,cap,hv,h1,(Array.getElem?_eq_some_iff.1 h2).1,h3,h4,fun j x hj=>(cell_of_row _ _ _ _ _ _ h2).trans (h6 j x hj).1⟩
def startsR (rs:List (Int × Int)):List Int:=0 :: rs.map (·.2)
theorem startsR_app (rs:List (Int × Int)) (b:Int × Int):startsR (rs++[b]) = startsR rs++[b.2]:=by unfold startsR;rw [List.map_append];rfl
theorem startsR_len (rs:List (Int × Int)):(startsR rs).length = rs.length + 1:=by unfold startsR;simp
theorem rowsN_len (p:PlanD) (at_:List Int) (ws:List Nat):(rowsN p at_ ws).length = ws.length:=by unfold rowsN;exact List.length_map ..
theorem rows_bd {p:PlanD} (hok:SizesOk p) {at_:List Int} {ws:List Nat} (h:WayOk p at_ ws):∀ b ∈ rowsN p at_ ws,0 ≤ b.1∧b.1 ≤ 134217728∧0 ≤ b.2∧b.2 ≤ 134217728:=fun b hb=>by
 unfold rowsN at hb
 obtain ⟨u,hu,rfl⟩:=List.mem_map.1 hb
 obtain ⟨-,h1,h2⟩:=h.2 u hu
 have:=sizes_bd hok u
 simp only
 omega
theorem holeR_bd {rs:List (Int × Int)} (h:∀ b ∈ rs,0 ≤ b.1∧b.1 ≤ 134217728) (x:Int):-1 ≤ holeR x rs (-1)∧holeR x rs (-1) ≤ 134217728:=by
 rcases holeR_spec x rs (-1) (fun b hb=>(h b hb).1) (.inl rfl) with ⟨k,-,-⟩ | ⟨k1,k2,-,-⟩
 ·omega
 ·rcases k2 with k2 | ⟨b,hb,k2,-⟩
  ·omega
  ·have:=h b hb;omega
set_option maxRecDepth 100000 in
set_option maxHeartbeats 8000000 in
theorem place21_any (cs:List Value) (p:PlanD) (B A:Option Addr) (n ca m cw v:Nat) (at_:List Int) (ws:List Nat) (w:World) (hr:rep w (old w.heap.size) cs p) (hok:SizesOk p) (hn:p.size.length = n) (hm:ws.length = m) (hm4:m ≤ 4096) (ha:rep w (old w.heap.size) [.slice B n ca] at_) (hw:rep w (old w.heap.size) [.slice A m cw] (natI ws)) (hway:WayOk p at_ ws) (hv:v < n) :
  Calls Tryz.prog 21 #[.agg cs.toArray,.slice B n ca,.slice A m cw,.int .i64 (v:Int)] w fun e w'=>e = .returned (.int .i64 (placeR (rowsN p at_ ws) (szAt p v)))∧Below w.heap.size w w':=by
 obtain ⟨A6,k6,h5,n6,n6',h6⟩:=sizes_lie2 hr
 have hal:at_.length = n:=by rw [hway.1,hn]
 have ha':=ha
 rw [← hal] at ha'
 obtain ⟨na,na'⟩:=slice_bnd ha'
 rw [hal] at na
 have hwl:(natI ws).length = m:=by unfold natI;rw [List.length_map,hm]
 have hw':=hw
 rw [← hwl] at hw'
 obtain ⟨nw,nw'⟩:=slice_bnd hw'
 rw [hwl] at nw
 rw [hn] at h5 h6 n6
 have HA:Hid (∀ j,j < n→I64 (atD at_ j)∧∃ b o,B = some ⟨b,o,none⟩∧b < w.heap.size∧w.cell? ⟨b,o + j,none⟩ = some (.int .i64 (atD at_ j))):=Lib.hid (by have:=ints_lie ha';rw [hal] at this;exact this)
 have HC:=Lib.hid (And.intro h5 (And.intro h6 (way_lie hw hm)))
 have HR:=Lib.hid hr
 have HOK:=Lib.hid hok
 have HN:=Lib.hid (And.intro hn (And.intro hm hway))
 have HAW:=Lib.hid (And.intro ha hw)
 have HBD:=Lib.hid (rows_bd hok hway)
 have hn4:n ≤ 4096:=by rw [← hn];exact hok.1
 obtain ⟨sv1,sv2⟩:=sizes_bd hok v
 obtain ⟨rs,hrs⟩:∃ rs,rowsN p at_ ws = rs:=⟨_,rfl⟩
 have HRS:=Lib.hid hrs
 obtain ⟨-,b6,o6,rfl,hb6,ks⟩:=h6 v hv
 obtain ⟨sv,hsv⟩:∃ s,szAt p v = s:=⟨_,rfl⟩
 rw [hsv] at ks sv1 sv2
 rw [hrs,hsv]
 rw [hrs] at HBD
 have HKV:=Lib.hid (And.intro (show b6 < w.heap.size from hb6) ks)
 clear h5 h6 hr hn hok hm ha hw hway ha' hw' hal hwl hrs hb6 ks hsv
 go_enter Tryz.func21,Tryz.ntmps21
 go_wp2_with (with_reducible refine wpList_box_row rfl 30 _ rfl cs rfl ?_;have hX:=plan_start HR.out;generalize World.alloc _ _ = W0 at hX ⊢;have HX:=Lib.hid hX;clear hX;refine halt ?_)
 unfold Halt
 obtain ⟨i0,hi0,hz0,hz1,hz2⟩:=info_parts info_int1
 go_wp2_with fail
 have HB1:Hid (PlanI w cs p (W0.alloc (.cells #[.int .i64 0] 3))∧QRow (W0.alloc (.cells #[.int .i64 0] 3)) (w.heap.size + 1) (.slice (some ⟨W0.heap.size,0,none⟩) 1 1) (startsR (rowsN p at_ (ws.take 0)))):=Lib.hid ⟨HX.out.next ((Below.refl _ _).alloc (Nat.le_refl _) _),qrow_one _ HX.out.lt 0 (by unfold I64;omega)⟩
 obtain ⟨q0,hq0⟩:∃ q,W0.heap.size = q:=⟨_,rfl⟩
 obtain ⟨W1,hW1⟩:∃ W,W0.alloc (.cells #[.int .i64 0] 3) = W:=⟨_,rfl⟩
 rw [hq0,hW1] at HB1
 rw [hq0]
 try rw [hW1]
 clear hq0 hW1 HX
 go_loopw [9,10,11] (fun x y i wr=>∃ (j:Nat) (la:Int),x = .int .i64 la∧i = .int .i64 j∧j ≤ m∧0 ≤ la∧la ≤ 134217728∧Hid (PlanI w cs p wr∧la = endD (rowsN p at_ (ws.take j)) 0∧QRow wr (w.heap.size + 1) y (startsR (rowsN p at_ (ws.take j))))) (fun _ _ i _=>m - (intOf i).toNat)
 case atStart=>exact ⟨0,0,rfl,rfl,Nat.zero_le _,by omega,by omega,Lib.hid ⟨HB1.out.1,rfl,HB1.out.2⟩⟩
 case round =>
  clear HB1
  obtain ⟨j,la,rfl,rfl,hj,la0,la1,HS⟩:=hrel
  obtain ⟨wx,rfl⟩:∃ wx,wx = wr:=⟨_,rfl⟩
  have hj0:(0:Int) ≤ (j:Int):=Int.natCast_nonneg _
  by_cases hlt:j < m
  ·have hlt':(j:Int) < (m:Int):=by omega
   obtain ⟨u,hu⟩:∃ u,ws[j]? = some u:=⟨_,List.getElem?_eq_getElem (by rw [HN.out.2.1];exact hlt)⟩
   obtain ⟨hun,a1,a2⟩:=HN.out.2.2.2 u (List.mem_of_getElem? hu)
   rw [HN.out.1] at hun
   obtain ⟨bw,ow,rfl,hbw,kw⟩:=HC.out.2.2 j u hu
   obtain ⟨a64,ba,oa,rfl,hba,ka⟩:=HA.out u hun
   obtain ⟨-,b7,o7,e7,hb7,ks⟩:=HC.out.2.1 u hun
   injection e7 with e7
   injection e7 with e1 e2
   subst e1 e2
   obtain ⟨s1,s2⟩:=sizes_bd HOK.out u
   have HRT:=Lib.hid (rows_take (p:=p) (at_:=at_) hu)
   obtain ⟨av,hav⟩:∃ s,atD at_ u = s:=⟨_,rfl⟩
   obtain ⟨su,hsu⟩:∃ s,szAt p u = s:=⟨_,rfl⟩
   rw [hav,hsu] at HRT a2
   rw [hav] at ka a1
   rw [hsu] at ks s1 s2
   have HK:=Lib.hid (And.intro (show bw < w.heap.size from hbw) (And.intro kw (And.intro (show ba < w.heap.size from hba) (And.intro ka (And.intro (show b6 < w.heap.size from hb7) ks)))))
   have HSL:Hid ((startsR (rowsN p at_ (ws.take j))).length ≤ 4097):=Lib.hid (by rw [startsR_len,rowsN_len,List.length_take];have:=Nat.min_le_left j ws.length;omega)
   clear hu hbw kw a64 hba ka hb7 ks hav hsu
   go_upto_region 6 with (fail)
   refine wp_region_held_drew (S:=fun W=>PlanI w cs p W∧QRow W (w.heap.size + 1) u10 (startsR (rowsN p at_ (ws.take j)))) (by kernel_rfl) ⟨HS.out.1.next ((Below.refl _ _).drew),HS.out.2.2.below ((Below.refl _ _).drew)⟩ (fun hHeld=>?_)
   generalize World.drew _ = V0 at hHeld ⊢
   refine tk0 0 (some 25) (v:=.slice (some ⟨ba,oa,none⟩) n ca) rfl hHeld ?_
   refine tk0 1 (some 26) (v:=.slice (some ⟨bw,ow,none⟩) m cw) rfl hHeld ?_
   refine tk0 2 (some 27) (v:=.int .i64 (j:Int)) rfl hHeld ?_
   refine tk9 3 (some 28) (v:=.pointer (some ⟨bw,ow + j,none⟩)) rfl (yields_idx (by kernel_rfl) _ _ rfl bw ow (m) cw j (by kernel_rfl) (by kernel_rfl) hlt) hHeld ?_
   refine tk9 4 (some 29) (v:=.int .i64 (u:Int)) rfl (yields_load_one9 (by kernel_rfl) _ _ rfl bw (ow + j) (by kernel_rfl) _ _ Tryz.underlying3 rfl (fun _ h=>h.1.old2 HK.out.1 HK.out.2.1)) hHeld ?_
   refine tk9 5 (some 30) (v:=.pointer (some ⟨ba,oa + u,none⟩)) rfl (yields_idx (by kernel_rfl) _ _ rfl ba oa (n) ca u (by kernel_rfl) (by kernel_rfl) hun) hHeld ?_
   refine tk9 6 (some 31) (v:=.int .i64 av) rfl (yields_load_one9 (by kernel_rfl) _ _ rfl ba (oa + u) (by kernel_rfl) _ _ Tryz.underlying3 rfl (fun _ h=>h.1.old2 HK.out.2.2.1 HK.out.2.2.2.1)) hHeld ?_
   refine tk0 7 (some 32) (v:=.pointer (some ⟨w.heap.size,5,none⟩)) rfl hHeld ?_
   refine tk9 8 (some 33) (v:=.slice (some ⟨b6,o6,none⟩) n k6) rfl (yields_load_one9 (by kernel_rfl) _ _ rfl (w.heap.size) (5) (by kernel_rfl) _ _ Tryz.underlying24 rfl (fun _ h=>h.1.cell HC.out.1)) hHeld ?_
   refine tk0 9 (some 34) (v:=.slice (some ⟨bw,ow,none⟩) m cw) rfl hHeld ?_
   refine tk0 10 (some 35) (v:=.int .i64 (j:Int)) rfl hHeld ?_
   refine tk9 11 (some 36) (v:=.pointer (some ⟨bw,ow + j,none⟩)) rfl (yields_idx (by kernel_rfl) _ _ rfl bw ow (m) cw j (by kernel_rfl) (by kernel_rfl) hlt) hHeld ?_
   refine tk9 12 (some 37) (v:=.int .i64 (u:Int)) rfl (yields_load_one9 (by kernel_rfl) _ _ rfl bw (ow + j) (by kernel_rfl) _ _ Tryz.underlying3 rfl (fun _ h=>h.1.old2 HK.out.1 HK.out.2.1)) hHeld ?_
   refine tk9 13 (some 38) (v:=.pointer (some ⟨b6,o6 + u,none⟩)) rfl (yields_idx (by kernel_rfl) _ _ rfl b6 o6 (n) k6 u (by kernel_rfl) (by kernel_rfl) hun) hHeld ?_
   refine tk9 14 (some 39) (v:=.int .i64 su) rfl (yields_load_one9 (by kernel_rfl) _ _ rfl b6 (o6 + u) (by kernel_rfl) _ _ Tryz.underlying3 rfl (fun _ h=>h.1.old2 HK.out.2.2.2.2.1 HK.out.2.2.2.2.2)) hHeld ?_
   refine tk9 15 (some 40) (v:=.int .i64 (av + su)) rfl (yields_addI (by kernel_rfl) _ _ _ _ rfl av su (by kernel_rfl) (by kernel_rfl) (by kernel_rfl) a1 s1 (by omega)) hHeld ?_
   refine tk0 16 (some 12) (v:=.int .i64 (av + su)) rfl hHeld ?_
   refine wpAnyH_done (by kernel_rfl) ?_ _
   have HT:=Lib.hid hHeld
   clear hHeld
   simp [Act.put]
   have HI:Hid (I64 (av + su)):=Lib.hid (by unfold I64;omega)
   have HLE:Hid (w.heap.size + 1 ≤ V0.heap.size):=Lib.hid HT.out.1.lt
   have HQ6:Hid (QRow (V0.alloc (.cells #[.int .i64 (av + su)] 3)) (w.heap.size + 1) u10 (startsR (rowsN p at_ (ws.take j)))):=Lib.hid (HT.out.2.below ((Below.refl _ _).alloc (Nat.le_refl _) _))
   have HNEW:Hid ((V0.alloc (.cells #[.int .i64 (av + su)] 3)).heap[V0.heap.size]? = some (.cells #[.int .i64 (av + su)] 3 (0,0))):=Lib.hid (heap_alloc_new _ _)
   go_wp2_with (at_builtin;refine wpList_push rfl _ _ rfl rfl HQ6.out ?c1 (y:=av + su) HI.out rfl HNEW.out ?c2 ?_)
   case c1=>have:=HLE.out;first | omega | (rw [World.size_alloc];omega)
   case c2=>have:=HSL.out;omega
   intro v' w8 hq8 hg8
   have HB8:Hid (PlanI w cs p w8):=Lib.hid ((HT.out.1.next ((Below.refl _ _).alloc (Nat.le_refl _) (.cells #[.int .i64 (av + su)] 3))).grown hg8 (fun b e=>by have:=(HT.out.2.ge e).1;omega))
   have HQ8:=Lib.hid hq8
   have HEN:Hid (max la (av + su) = endD (rowsN p at_ (ws.take (j + 1))) 0):=Lib.hid (by rw [HRT.out,endD_app,← HS.out.2.1])
   clear hq8 hg8
   go_wp2
   go_roundw
   case rel=>exact ⟨j + 1,max la (av + su),rfl,by go_num,by omega,by omega,by omega,Lib.hid ⟨HB8.out,HEN.out,by rw [HRT.out,startsR_app];exact HQ8.out⟩⟩
   case measure=>simp [intOf];omega
  ·have hlt':¬ (j:Int) < (m:Int):=by omega
   have HF:Hid (la = endD rs 0∧QRow wx (w.heap.size + 1) u10 (startsR rs)):=Lib.hid (by
    have h:=HS.out.2
    rw [List.take_of_length_le (by rw [HN.out.2.1];omega),HRS.out] at h
    exact h)
   obtain ⟨g,off,cap,rfl,hg1,hg2,hc1,hc2,hcell⟩:=HF.out.2.at
   have HST:=Lib.hid (And.intro hg2 hcell)
   have HX5:=Lib.hid HS.out.1
   have HLA:=Lib.hid HF.out.1
   obtain ⟨t,ht⟩:∃ t,(startsR rs).length = t:=⟨_,rfl⟩
   rw [ht] at hc1 ⊢
   have HTL:=Lib.hid ht
   have ht4:t ≤ 4097:=by rw [← ht,startsR_len,← HRS.out,rowsN_len,HN.out.2.1];omega
   obtain ⟨w5,rfl⟩:∃ w5,w5 = wx:=⟨_,rfl⟩
   clear HS HF hcell hg1 hg2 ht hlt
   go_wp2_with fail
   clear hlt' hj hj0
   go_loopw [13,14,15] (fun x y i wr=>∃ (q:Nat) (bb rr:Int),x = .int .i64 bb∧y = .int .i64 rr∧i = .int .i64 q∧q ≤ t∧-1 ≤ bb∧bb ≤ 134217728∧0 ≤ rr∧rr ≤ 134217728∧Hid (pickR rs sv ((startsR rs).drop q) bb rr = pickR rs sv (startsR rs) (-1) 0∧PlanI w cs p wr∧Below w5.heap.size w5 wr)) (fun _ _ i _=>t - (intOf i).toNat)
   case atStart=>exact ⟨0,-1,0,rfl,rfl,rfl,Nat.zero_le _,by omega,by omega,by omega,by omega,Lib.hid ⟨rfl,HX5.out,Below.refl _ _⟩⟩
   case round =>
    obtain ⟨q,bb,rr,rfl,rfl,rfl,hq,p1,p2,p3,p4,HS⟩:=hrel
    obtain ⟨wy,rfl⟩:∃ wy,wy = wr:=⟨_,rfl⟩
    have hq0:(0:Int) ≤ (q:Int):=Int.natCast_nonneg _
    by_cases hqt:q < t
    ·have hqt':(q:Int) < (t:Int):=by omega
     obtain ⟨x,hx⟩:∃ x,(startsR rs)[q]? = some x:=⟨_,List.getElem?_eq_getElem (by rw [HTL.out];exact hqt)⟩
     have hxb:0 ≤ x∧x ≤ 134217728:=by
      have hm:=List.mem_of_getElem? hx
      unfold startsR at hm
      rcases List.mem_cons.1 hm with rfl | hm
      ·omega
      ·obtain ⟨b,hb,rfl⟩:=List.mem_map.1 hm
       have:=HBD.out b hb
       omega
     obtain ⟨x0,x1⟩:=hxb
     have kx:=(HS.out.2.2.cell (p:=⟨g,off + q,none⟩) HST.out.1).trans (HST.out.2 q x hx)
     have hstep:=HS.out.1
     rw [drop_at hx,pickR] at hstep
     have HSTEP:=Lib.hid hstep
     have HXY:=Lib.hid HS.out.2.1
     clear hx hstep
     go_wp2_with (with_reducible refine wpList_load_agg_w (by with_unfolding_all rfl) 30 _ rfl _ w.heap.size 0 rfl cs Tryz.underlying30 rfl HXY.out.size HXY.out.at ?_)
     clear kx
     refine (free21_any cs p B A n ca m cw at_ ws x wy HXY.out.arg HOK.out HN.out.1 HN.out.2.1 hm4 (HXY.out.dat HAW.out.1) (HXY.out.dat HAW.out.2) HN.out.2.2 x0 x1).mono ?_
     rintro e w6 ⟨rfl,hb6'⟩
     rw [HRS.out]
     have HX6:=Lib.hid (HXY.out.next hb6')
     have HB6:=Lib.hid (HS.out.2.2.trans (hb6'.mono HS.out.2.2.size))
     clear hb6' HXY
     obtain ⟨f,hf⟩:∃ f,freeR rs x = f:=⟨_,rfl⟩
     rw [hf]
     have HFR:=Lib.hid hf
     clear hf
     cases f with
     | false =>
      have HNX:Hid (pickR rs sv ((startsR rs).drop (q + 1)) bb rr = pickR rs sv (startsR rs) (-1) 0):=Lib.hid (by have h:=HSTEP.out;rw [if_neg (fun k=>by have:=k.1;rw [HFR.out] at this;cases this)] at h;exact h)
      go_wp2
      go_roundw
      case rel=>exact ⟨q + 1,bb,rr,rfl,rfl,by go_num,by omega,by omega,by omega,by omega,by omega,Lib.hid ⟨HNX.out,HX6.out,HB6.out⟩⟩
      case measure=>simp [intOf];omega
     | true =>
      go_wp2_with (with_reducible refine wpList_load_agg_w (by with_unfolding_all rfl) 30 _ rfl _ w.heap.size 0 rfl cs Tryz.underlying30 rfl HX6.out.size HX6.out.at ?_)
      refine (hole21_any cs p B A n ca m cw at_ ws x w6 HX6.out.arg HOK.out HN.out.1 HN.out.2.1 hm4 (HX6.out.dat HAW.out.1) (HX6.out.dat HAW.out.2) HN.out.2.2 x0 x1).mono ?_
      rintro e w7 ⟨rfl,hb7'⟩
      rw [HRS.out]
      have hhb:=holeR_bd (fun b hb=>⟨(HBD.out b hb).1,(HBD.out b hb).2.1⟩) x
      obtain ⟨h,hh⟩:∃ h,holeR x rs (-1) = h:=⟨_,rfl⟩
      rw [hh] at HSTEP hhb ⊢
      obtain ⟨h0,h1⟩:=hhb
      replace HX6:=Lib.hid (HX6.out.next hb7')
      replace HB6:=Lib.hid (HB6.out.trans (hb7'.mono HB6.out.size))
      clear hb7' hh
      have c5:=HX6.out.cell HC.out.1
      have kv:=HX6.out.old2 HKV.out.1 HKV.out.2
      by_cases g1:h < 0
      ·have HNX:Hid (pickR rs sv ((startsR rs).drop (q + 1)) bb rr = pickR rs sv (startsR rs) (-1) 0):=Lib.hid (by have k:=HSTEP.out;rw [if_neg (fun k=>k.2.1 (.inl g1))] at k;exact k)
       go_wp2
       go_roundw
       case rel=>exact ⟨q + 1,bb,rr,rfl,rfl,by go_num,by omega,by omega,by omega,by omega,by omega,Lib.hid ⟨HNX.out,HX6.out,HB6.out⟩⟩
       case measure=>simp [intOf];omega
      ·by_cases g2:h - x < sv
       ·have HNX:Hid (pickR rs sv ((startsR rs).drop (q + 1)) bb rr = pickR rs sv (startsR rs) (-1) 0):=Lib.hid (by have k:=HSTEP.out;rw [if_neg (fun k=>k.2.1 (.inr g2))] at k;exact k)
        go_wp2
        go_roundw
        case rel=>exact ⟨q + 1,bb,rr,rfl,rfl,by go_num,by omega,by omega,by omega,by omega,by omega,Lib.hid ⟨HNX.out,HX6.out,HB6.out⟩⟩
        case measure=>simp [intOf];omega
       ·have HFA:Hid (∀ P:Prop,(freeR rs x = true∧¬ (h < 0 ∨ h - x < sv)∧P) ↔ P):=Lib.hid fun P=>⟨fun k=>k.2.2,fun k=>⟨HFR.out,fun z=>z.elim g1 g2,k⟩⟩
        have hd0:0 ≤ h - x:=by omega
        by_cases g3:bb < 0
        ·have HNX:Hid (pickR rs sv ((startsR rs).drop (q + 1)) x (h - x) = pickR rs sv (startsR rs) (-1) 0):=Lib.hid (by have k:=HSTEP.out;rw [if_pos ((HFA.out _).2 (.inl g3))] at k;exact k)
         go_wp2
         go_roundw
         case rel=>exact ⟨q + 1,x,h - x,rfl,rfl,by go_num,by omega,by omega,by omega,by omega,by omega,Lib.hid ⟨HNX.out,HX6.out,HB6.out⟩⟩
         case measure=>simp [intOf];omega
        ·by_cases g4:h - x < rr
         ·have HNX:Hid (pickR rs sv ((startsR rs).drop (q + 1)) x (h - x) = pickR rs sv (startsR rs) (-1) 0):=Lib.hid (by have k:=HSTEP.out;rw [if_pos ((HFA.out _).2 (.inr (.inl g4)))] at k;exact k)
          go_wp2
          go_roundw
          case rel=>exact ⟨q + 1,x,h - x,rfl,rfl,by go_num,by omega,by omega,by omega,by omega,by omega,Lib.hid ⟨HNX.out,HX6.out,HB6.out⟩⟩
          case measure=>simp [intOf];omega
         ·by_cases g5:h - x = rr
          ·have g5':(h - x == rr) = true:=by simpa using g5
           have G5:=Lib.hid g5
           by_cases g6:x < bb
           ·have HNX:Hid (pickR rs sv ((startsR rs).drop (q + 1)) x (h - x) = pickR rs sv (startsR rs) (-1) 0):=Lib.hid (by have k:=HSTEP.out;rw [if_pos ((HFA.out _).2 (.inr (.inr ⟨G5.out,g6⟩)))] at k;exact k)
            clear g5
            go_wp2
            go_roundw
            case rel=>exact ⟨q + 1,x,h - x,rfl,by first | rfl | rw [G5.out],by go_num,by omega,by omega,by omega,by omega,by omega,Lib.hid ⟨HNX.out,HX6.out,HB6.out⟩⟩
            case measure=>simp [intOf];omega
           ·have HNX:Hid (pickR rs sv ((startsR rs).drop (q + 1)) bb rr = pickR rs sv (startsR rs) (-1) 0):=Lib.hid (by have k:=HSTEP.out;rw [if_neg (fun z=>((HFA.out _).1 z).elim g3 (fun z=>z.elim g4 (fun z=>g6 z.2)))] at k;exact k)
            clear g5
            go_wp2
            go_roundw
            case rel=>exact ⟨q + 1,bb,rr,rfl,rfl,by go_num,by omega,by omega,by omega,by omega,by omega,Lib.hid ⟨HNX.out,HX6.out,HB6.out⟩⟩
            case measure=>simp [intOf];omega
          ·have g5':(h - x == rr) = false:=by simpa using g5
           have HNX:Hid (pickR rs sv ((startsR rs).drop (q + 1)) bb rr = pickR rs sv (startsR rs) (-1) 0):=Lib.hid (by have k:=HSTEP.out;rw [if_neg (fun z=>((HFA.out _).1 z).elim g3 (fun z=>z.elim g4 (fun z=>g5 z.1)))] at k;exact k)
           clear g5
           go_wp2
           go_roundw
           case rel=>exact ⟨q + 1,bb,rr,rfl,rfl,by go_num,by omega,by omega,by omega,by omega,by omega,Lib.hid ⟨HNX.out,HX6.out,HB6.out⟩⟩
           case measure=>simp [intOf];omega
    ·have hqt':¬ (q:Int) < (t:Int):=by omega
     have HF2:Hid (bb = pickR rs sv (startsR rs) (-1) 0):=Lib.hid (by
      have h:=HS.out.1
      rw [List.drop_of_length_le (by rw [HTL.out];omega),pickR] at h
      exact h)
     have HPL:Hid (placeR rs sv = if bb < 0 then la else bb):=Lib.hid (by
      unfold placeR
      rw [show (0 :: rs.map (·.2)) = startsR rs from rfl,← HF2.out,← HLA.out])
     have HBE:=Lib.hid HS.out.2.1.below
     clear HS
     by_cases g:bb < 0
     ·have HPL2:Hid (placeR rs sv = la):=Lib.hid (by rw [HPL.out,if_pos g])
      go_wp2
      go_ret
      exact ⟨by rw [HPL2.out];rfl,HBE.out⟩
     ·have HPL2:Hid (placeR rs sv = bb):=Lib.hid (by rw [HPL.out,if_neg g])
      go_wp2
      go_ret
      exact ⟨by rw [HPL2.out];rfl,HBE.out⟩
end Go.Proofs.YtoeaglpmkjoenaaGreat
