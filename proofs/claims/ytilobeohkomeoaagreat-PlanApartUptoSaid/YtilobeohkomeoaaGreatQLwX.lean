/-
  Chapter 20: the law PlanApart: its walk. No condition.
-/
import Derived.Test.YtilobeohkomeoaaGreatQLwA
import Derived.Test.YtilobeohkomeoaaGreatQLwR
import Derived.Test.YtilobeohkomeoaaGreatQLwW
set_option linter.unusedSimpArgs false
set_option linter.unusedVariables false
namespace Go.Proofs.YtilobeohkomeoaaGreat
open Go.RowKit
open Rep (rep)
def touchB (p:PlanD) (c:Nat) (v:Int):Bool:=(gIns p.graph (((p.tasks[c]?).map (fun t:TaskD=>t.node)).getD 0).toNat).contains v || (gOuts p.graph (((p.tasks[c]?).map (fun t:TaskD=>t.node)).getD 0).toNat).contains v
theorem touchB_iff {p:PlanD} {c:Nat} {v:Int} {t:TaskD} (h:p.tasks[c]? = some t):touchB p c v = true ↔ TouchesD p t v:=by
 unfold touchB TouchesD
 rw [h]
 simp
theorem touches20 (pcs:List Value) (p:PlanD) (h:Told20 p) (c:Nat) (v:Int) (w:World) (hr:rep w (old w.heap.size) pcs p) (hc:c < p.tasks.length) :
  Calls Tryz.prog 12 #[.agg pcs.toArray,.int .i64 c,.int .i64 v] w fun e w'=>e = .returned (.bool (touchB p c v))∧Below w.heap.size w w':=by
 obtain ⟨t,ht⟩:∃ t,p.tasks[c]? = some t:=⟨_,List.getElem?_eq_getElem hc⟩
 obtain ⟨x,hx,e,-,-⟩:=h.plan.after ht
 obtain ⟨z,hz⟩:∃ z,p.graph.nodes[x]? = some z:=⟨_,List.getElem?_eq_getElem hx⟩
 have e2:touchB p c v = (z.ins.contains v || z.outs.contains v):=by
  unfold touchB gIns gOuts
  rw [ht]
  simp only [Option.map_some,Option.getD_some]
  rw [e,Int.toNat_natCast,hz]
  rfl
 rw [e2]
 exact touches_any pcs p c x v t z w hr ht e hz
theorem after20 {p:PlanD} (h:Told20 p):∀ t ∈ p.tasks,∀ y ∈ t.after,0 ≤ y∧y < p.tasks.length:=fun t ht y hy=>by
 obtain ⟨q,hq⟩:=List.mem_iff_getElem?.1 ht
 obtain ⟨i,-,-,-,ha⟩:=h.plan.after hq
 obtain ⟨k,j,s,rfl,hk,-⟩:=ha y hy
 have:=(List.getElem?_eq_some_iff.1 hq).1
 omega
theorem apart_sym {p:PlanD} {x y:Int}:ApartD p x y ↔ ApartD p y x:=⟨fun h=>⟨fun e=>h.1 e.symm,h.2.2.1,h.2.1,h.2.2.2.2,h.2.2.2.1⟩,fun h=>⟨fun e=>h.1 e.symm,h.2.2.1,h.2.1,h.2.2.2.2,h.2.2.2.1⟩⟩
theorem dead_of {p:PlanD} {x y:Int} (h:¬ ApartD p x y) (h1:¬ x = y) (h2:SizedD p x) (h3:SizedD p y):DeadD p x y ∨ DeadD p y x :=
 Classical.byContradiction fun hn=>h ⟨h1,h2,h3,fun e=>hn (.inl e),fun e=>hn (.inr e)⟩
structure SeenI (w:World) (q:Nat) (pcs:List Value) (p:PlanD) (sb:Nat) (bs:List Bool) (W:World):Prop where
 law:LawI w q pcs p W
 row:W.heap[sb]? = some (.cells (bs.map Value.bool).toArray 4 (0,0))
theorem SeenI.next {w W W':World} {q sb:Nat} {pcs:List Value} {bs:List Bool} {p:PlanD} (h:SeenI w q pcs p sb bs W) (hb:Below W.heap.size W W'):SeenI w q pcs p sb bs W':=⟨h.law.next hb,(hb.block _ (Array.getElem?_eq_some_iff.1 h.row).1).trans h.row⟩
theorem SeenI.cell {w W:World} {q sb:Nat} {pcs:List Value} {bs:List Bool} {p:PlanD} (h:SeenI w q pcs p sb bs W) {k:Nat} {x:Bool} (hk:bs[k]? = some x):W.cell? ⟨sb,k,none⟩ = some (.bool x):=by
 rw [cell_of_row _ _ _ _ _ _ h.row,List.getElem?_toArray,List.getElem?_map,hk];rfl
set_option maxRecDepth 100000 in
set_option maxHeartbeats 8000000 in
theorem apart20_any (gcs:List Value) (g:GraphD) (a:Int) (b:Int) (w:World) (hr:rep w (old w.heap.size) gcs g) (hf:Fit20 g) :
  Calls Tryz.prog 4 #[.agg gcs.toArray,.int .i64 a,.int .i64 b] w (Yes20 w):=by
 have hl4:gcs.length = 4:=Rep.len hr
 have HG:=Lib.hid (And.intro hr hf)
 have HSZ:=Lib.hid (show (Tryz.prog.info? 26).map (·.size) = some gcs.length by rw [hl4];kernel_rfl)
 clear hr hf hl4
 go_enter Tryz.func4,Tryz.ntmps4
 go_wp2_with (with_reducible refine wpList_box_row rfl 26 _ rfl gcs rfl ?_;have hX:=box_start w 26 gcs;generalize World.alloc _ _ = W0 at hX ⊢;have HX:=Lib.hid hX;clear hX;refine halt ?_)
 unfold Halt
 go_wp2_with fail
 refine (awake20_any W0).mono ?_
 rintro e w1 ⟨rfl,hb⟩
 replace HX:=Lib.hid (HX.out.next hb)
 clear hb
 go_wp2_with (with_reducible refine wpList_load_agg rfl 26 _ rfl _ w.heap.size 0 rfl gcs Tryz.underlying26 rfl HSZ.out (At.of_row HX.out.row) ?_)
 refine (planof_any gcs g w1 (HX.out.keeps' HG.out.1) HG.out.2.vals HG.out.2.defs HG.out.2.ins HG.out.2.outs HG.out.2.nodes).mono ?_
 rintro e w2 ⟨pcs,x,y,p,rfl,hx,hy,hb2,hr2,hP⟩
 have hl7:pcs.length = 7:=Rep.len hr2
 have HB2:=Lib.hid (And.intro (HX.out.below.trans (hb2.mono HX.out.below.size)) hr2)
 have HS:=Lib.hid (And.intro (plan_size hr2) (And.intro (Rep.one hr2) (And.intro (show 0 + pcs.length ≤ z7.length by rw [hl7];decide) (show pcs.length = z7.length from hl7))))
 have HP:=Lib.hid (plan_told hP HG.out.2)
 clear hx hy hb2 hr2 hP hl7 HX HSZ
 go_wp2_with (first
  |(with_reducible refine wpList_alloc_row rfl 31 rfl z7 z7_zero ?_)
  |(with_reducible refine wpList_store_agg rfl 31 _ _ rfl _ 0 pcs rfl rfl 31 z7 (heap_alloc_new _ _) HS.out.1 HS.out.2.2.1 HS.out.2.1 ?_;have hY:=laid_row w2 31 z7 pcs HS.out.2.2.2;generalize World.setRow _ _ _ = w3 at hY ⊢;have HY:=Lib.hid hY;clear hY;refine halt ?_))
 unfold Halt
 have hL:=law_start HB2.out.1 HB2.out.2 HY.out
 obtain ⟨q,hq⟩:∃ q,w2.heap.size = q:=⟨_,rfl⟩
 rw [hq] at hL ⊢
 clear hq HY HS HB2
 obtain ⟨A1,A2,A5,A6,A7,k1,k2,k5,k6,k7,hC⟩:=plan_cells hL.dat
 have HC:=Lib.hid hC
 have HL:=Lib.hid hL
 clear hC
 obtain ⟨n,hn⟩:∃ n,p.size.length = n:=⟨_,rfl⟩
 have c5:=hL.cell HC.out.c5
 have HC5:=Lib.hid HC.out.c5
 obtain ⟨ns1,ns2⟩:=slice_bnd (HC.out.sizes hL.dat)
 rw [hn] at c5 ns1 HC5
 by_cases h0:x = 0
 ·subst h0
  have HT:=Lib.hid (HP.out.2 rfl)
  have HPB:=Lib.hid HT.out.b
  have HNS:=Lib.hid hn
  by_cases hn0:n = 0
  ·subst hn0
   clear hL HP hn
   go_wp2
   go_ret
   exact ⟨rfl,HL.out.below⟩
  ·obtain ⟨T,hT⟩:∃ n,p.tasks.length = n:=⟨_,rfl⟩
   obtain ⟨nt1,nt2⟩:=slice_bnd (HC.out.tasks hL.dat)
   have HC4:=Lib.hid HC.out.c4
   rw [hT] at nt1 HC4
   have HN:=Lib.hid (And.intro hT hn)
   have HPS:=Lib.hid hL.size
   obtain ⟨i,hi,hi2⟩:=low_mod a n (by omega)
   obtain ⟨j,hj,hj2⟩:=low_mod b n (by omega)
   have hn1:¬ (n:Int) = 0:=by omega
   have hn2:¬ (n:Int) = -1:=by omega
   have HI:Hid (I64 (i:Int)):=Lib.hid (by unfold I64;omega)
   have HJ:Hid (I64 (j:Int)):=Lib.hid (by unfold I64;omega)
   obtain ⟨bz,hbz⟩:∃ b:Bool,(b = true ↔ ApartD p (i:Int) (j:Int)):=by
    by_cases h:ApartD p (i:Int) (j:Int)
    ·exact ⟨true,by simp [h]⟩
    ·exact ⟨false,by simp [h]⟩
   have HBZ:Hid ((∀ b,ApB p (i:Int) (j:Int) b→b = bz)∧∀ b,ApB p (j:Int) (i:Int) b→b = bz):=Lib.hid ⟨fun b hb=>Bool.eq_iff_iff.2 (hb.trans hbz.symm),fun b hb=>Bool.eq_iff_iff.2 (hb.trans (apart_sym.trans hbz.symm))⟩
   have HBZ2:=Lib.hid hbz
   obtain ⟨si,hsi⟩:∃ z,p.size[i]? = some z:=⟨_,List.getElem?_eq_getElem (by rw [hn];exact hi2)⟩
   obtain ⟨sj,hsj⟩:∃ z,p.size[j]? = some z:=⟨_,List.getElem?_eq_getElem (by rw [hn];exact hj2)⟩
   have HSI:=Lib.hid hsi
   have HSJ:=Lib.hid hsj
   clear hL HP hn hT hbz hsi hsj
   go_upto_region 7 with (fail)
   refine wp_region_held_drew (S:=fun W=>LawI w q pcs p W) (by kernel_rfl) (HL.out.next ((Below.refl _ _).drew)) (fun hHeld=>?_)
   clear HL c5
   generalize World.drew _ = V0 at hHeld ⊢
   refine tk9 0 (some 46) (v:=.agg pcs.toArray) rfl (yields_load_agg (by kernel_rfl) _ _ rfl _ q 0 (by kernel_rfl) pcs Tryz.underlying31 rfl HPS.out (fun W h=>h.at)) hHeld ?_
   refine tk0 1 (some 47) (v:=.int .i64 (i:Int)) rfl hHeld ?_
   refine tk0 2 (some 48) (v:=.int .i64 (j:Int)) rfl hHeld ?_
   refine tk9 4 (some 50) (v:=.agg pcs.toArray) rfl (yields_load_agg (by kernel_rfl) _ _ rfl _ q 0 (by kernel_rfl) pcs Tryz.underlying31 rfl HPS.out (fun W h=>h.at)) hHeld ?_
   refine tk0 5 (some 51) (v:=.int .i64 (j:Int)) rfl hHeld ?_
   refine tk0 6 (some 52) (v:=.int .i64 (i:Int)) rfl hHeld ?_
   refine call_d9 3 (some 49) rfl (by kernel_rfl) (by kernel_rfl) (by kernel_rfl) 11 _ _ rfl #[.agg pcs.toArray,.int .i64 (i:Int),.int .i64 (j:Int)] (by kernel_rfl) (fun w=>by kernel_rfl) ?_
   refine (apart_any pcs p i j _ hHeld.arg HPB.out HI.out HJ.out).mono ?_
   rintro e V1 ⟨bb,rfl,hb,hB⟩
   obtain rfl:=HBZ.out.1 bb hB
   clear hB
   replace hHeld:=hHeld.next hb
   refine ⟨_,rfl,hHeld,?_⟩
   clear hb
   refine call_d9 7 (some 53) rfl (by kernel_rfl) (by kernel_rfl) (by kernel_rfl) 11 _ _ rfl #[.agg pcs.toArray,.int .i64 (j:Int),.int .i64 (i:Int)] (by kernel_rfl) (fun w=>by kernel_rfl) ?_
   refine (apart_any pcs p j i _ hHeld.arg HPB.out HJ.out HI.out).mono ?_
   rintro e V2 ⟨bb2,rfl,hb,hB⟩
   obtain rfl:=HBZ.out.2 bb2 hB
   clear hB
   replace hHeld:=hHeld.next hb
   refine ⟨_,rfl,hHeld,?_⟩
   clear hb
   refine tk9 8 (some 54) (v:=.bool false) rfl (Or.inl ⟨by kernel_rfl,fun w _=>by cases bb2 <;> kernel_rfl⟩) hHeld ?_
   refine wpAnyH_done (by kernel_rfl) ?_ _
   rename_i K0 a0
   change K0 _ _
   refine a0 _ _ (wp_cond_false (by kernel_rfl) ?_)
   have HL:=Lib.hid hHeld
   clear hHeld
   have c5:=HL.out.cell HC5.out
   simp [Act.put]
   have hrs:=HC.out.sizes HL.out.dat
   obtain ⟨-,bs,fs,he,hbs,csi⟩:=int_at hrs HSI.out
   obtain ⟨-,bs',fs',he',-,csj⟩:=int_at hrs HSJ.out
   subst he
   injection he' with he'
   injection he' with he1 he2
   subst he1 he2
   have hi0:(0:Int) ≤ (i:Int):=Int.natCast_nonneg _
   have hj0:(0:Int) ≤ (j:Int):=Int.natCast_nonneg _
   have hi3:(i:Int) < (n:Int):=by omega
   have hj3:(j:Int) < (n:Int):=by omega
   clear hrs hbs
   by_cases hij:i = j
   ·subst hij
    go_wp2
    go_ret
    exact ⟨rfl,HL.out.below⟩
   have hij':¬ (i:Int) = (j:Int):=by omega
   have HIJ:=Lib.hid hij'
   have hijb:((i:Int) == (j:Int)) = false:=by simpa using hij'
   by_cases hs0:si = 0
   ·subst hs0
    go_wp2
    go_ret
    exact ⟨rfl,HL.out.below⟩
   have hs0b:(si == 0) = false:=by simpa using hs0
   by_cases hs1:sj = 0
   ·subst hs1
    go_wp2
    go_ret
    exact ⟨rfl,HL.out.below⟩
   have hs1b:(sj == 0) = false:=by simpa using hs1
   have HSZ:Hid (SizedD p (i:Int)∧SizedD p (j:Int)):=Lib.hid ⟨⟨by omega,by rw [HNS.out];exact hi3,si,by rw [Int.toNat_natCast];exact HSI.out,hs0⟩,⟨by omega,by rw [HNS.out];exact hj3,sj,by rw [Int.toNat_natCast];exact HSJ.out,hs1⟩⟩
   go_wp2_with (with_reducible refine wpList_load_agg_w (by with_unfolding_all rfl) 31 _ rfl _ q 0 rfl pcs Tryz.underlying31 rfl HL.out.size HL.out.at ?_)
   refine (apart_any pcs p (i:Int) (j:Int) _ HL.out.arg HPB.out HI.out HJ.out).mono ?_
   rintro e w9 ⟨b9,rfl,hb,hB⟩
   obtain rfl:=HBZ.out.1 b9 hB
   replace HL:=Lib.hid (HL.out.next hb)
   clear hb hB csi csj c5
   cases b9 with
   | true =>
    go_wp2
    go_ret
    exact ⟨rfl,HL.out.below⟩
   | false =>
    have HD:=Lib.hid (dead_of (fun h=>by have:=HBZ2.out.2 h;cases this) HIJ.out HSZ.out.1 HSZ.out.2)
    have c4:=HL.out.cell HC4.out
    by_cases h300:T > 300
    ·have h300':(T:Int) > 300:=by omega
     go_wp2
     go_ret
     exact ⟨rfl,HL.out.below⟩
    ·have h300':¬ (T:Int) > 300:=by omega
     have H300:=Lib.hid h300
     go_wp2_with fail
     clear c4
     go_loopw [13,14,15] (fun aa bb k wr=>∃ (c:Nat) (xb yb:Bool),k = .int .i64 c∧c ≤ T∧aa = .bool xb∧bb = .bool yb∧(DeadD p (i:Int) (j:Int)→xb = true)∧(DeadD p (j:Int) (i:Int)→yb = true)∧LawI w q pcs p wr) (fun _ _ k _=>T - (intOf k).toNat)
     case atStart=>exact ⟨0,true,true,rfl,Nat.zero_le _,rfl,rfl,fun _=>rfl,fun _=>rfl,HL.out⟩
     case round =>
      clear HL
      obtain ⟨c,xb,yb,rfl,hcT,rfl,rfl,hxb,hyb,hL⟩:=hrel
      obtain ⟨wb,rfl⟩:∃ wb,wb = wr:=⟨_,rfl⟩
      have HXB:=Lib.hid hxb
      have HYB:=Lib.hid hyb
      have HLX:=Lib.hid hL
      have c4:=hL.cell HC4.out
      have hc0:(0:Int) ≤ (c:Int):=Int.natCast_nonneg _
      clear hxb hyb
      by_cases hlt:c < T
      ·have hlt':(c:Int) < (T:Int):=by omega
       obtain ⟨t,ht⟩:∃ t,p.tasks[c]? = some t:=⟨_,List.getElem?_eq_getElem (by rw [HN.out.1];exact hlt)⟩
       have HTC:=Lib.hid ht
       have HCT:=Lib.hid (show c < p.tasks.length by rw [HN.out.1];exact hlt)
       clear ht hL hcT
       go_upto_region 16 with (fail)
       clear c4
       go_wp2_with (with_reducible refine wpList_load_agg_w (by with_unfolding_all rfl) 31 _ rfl _ q 0 rfl pcs Tryz.underlying31 rfl HLX.out.size HLX.out.at ?_)
       refine (touches20 pcs p HT.out c (j:Int) _ HLX.out.arg HCT.out).mono ?_
       rintro e Y ⟨rfl,hb⟩
       replace HLX:=Lib.hid (HLX.out.next hb)
       clear hb
       obtain ⟨b5,hb5⟩:∃ b,touchB p c (j:Int) = b:=⟨_,rfl⟩
       rw [hb5]
       have Hb5:=Lib.hid hb5
       clear hb5
       cases b5 with
       | true =>
        go_wp2_with (with_reducible refine wpList_load_agg_w (by with_unfolding_all rfl) 31 _ rfl _ q 0 rfl pcs Tryz.underlying31 rfl HLX.out.size HLX.out.at ?_)
        have hlx:=HLX.out.lt
        refine (reach_any pcs p c _ HLX.out.arg HCT.out (by rw [HN.out.1];omega) (after20 HT.out)).mono ?_
        rintro e Y2 ⟨sb,n,bs,rfl,hn,hbl,hrow,-,hb,hwt⟩
        have HS0:Hid (SeenI w q pcs p sb bs Y2):=Lib.hid ⟨HLX.out.next hb,hrow⟩
        rw [HN.out.1] at hn
        subst hn
        have HW:=Lib.hid hwt
        have HBL:=Lib.hid hbl
        have c4:=HS0.out.law.cell HC4.out
        clear hrow hb hwt hbl hlx HLX
        go_wp2_with fail
        clear c4
        go_loopw [13,14,17] (fun aa bb k wr=>∃ (d:Nat) (xb yb:Bool),k = .int .i64 d∧d ≤ n∧aa = .bool xb∧bb = .bool yb∧(DeadD p (i:Int) (j:Int)→xb = true)∧(DeadD p (j:Int) (i:Int)→yb = true)∧SeenI w q pcs p sb bs wr) (fun _ _ k _=>n - (intOf k).toNat)
        case atStart=>exact ⟨0,xb,yb,rfl,Nat.zero_le _,rfl,rfl,HXB.out,HYB.out,HS0.out⟩
        case round =>
         clear HS0 HXB HYB
         obtain ⟨d,xb,yb,rfl,hdn,rfl,rfl,hxb,hyb,hS⟩:=hrel
         obtain ⟨wx,rfl⟩:∃ wx,wx = wr:=⟨_,rfl⟩
         have HXB:=Lib.hid hxb
         have HYB:=Lib.hid hyb
         have HS:=Lib.hid hS
         have c4:=hS.law.cell HC4.out
         have hd0:(0:Int) ≤ (d:Int):=Int.natCast_nonneg _
         by_cases hltd:d < n
         ·have hltd':(d:Int) < (n:Int):=by omega
          obtain ⟨t2,ht2⟩:∃ t,p.tasks[d]? = some t:=⟨_,List.getElem?_eq_getElem (by rw [HN.out.1];exact hltd)⟩
          have HTD:=Lib.hid ht2
          have HDT:=Lib.hid (show d < p.tasks.length by rw [HN.out.1];exact hltd)
          obtain ⟨sd,hsd⟩:∃ b,bs[d]? = some b:=⟨_,List.getElem?_eq_getElem (by rw [HBL.out];exact hltd)⟩
          have HSD:=Lib.hid hsd
          clear ht2 hsd hxb hyb hS hdn
          go_upto_region 21 with (fail)
          clear c4
          go_cut [132] from 116 to 132 (fun aa wx=>∃ cb:Bool,aa = .bool cb∧(cb = true→¬ DeadD p (i:Int) (j:Int))∧SeenI w q pcs p sb bs wx)
          case first =>
           go_wp2_with (with_reducible refine wpList_load_agg_w (by with_unfolding_all rfl) 31 _ rfl _ q 0 rfl pcs Tryz.underlying31 rfl HS.out.law.size HS.out.law.at ?_)
           refine (touches20 pcs p HT.out c (j:Int) _ HS.out.law.arg HCT.out).mono ?_
           rintro e Y ⟨rfl,hb⟩
           replace HS:=Lib.hid (HS.out.next hb)
           clear hb
           obtain ⟨b1,hb1⟩:∃ b,touchB p c (j:Int) = b:=⟨_,rfl⟩
           rw [hb1]
           have Hb1:=Lib.hid hb1
           clear hb1
           cases b1 with
           | false =>
            go_wp2
            go_meet
            exact ⟨false,rfl,fun h=>(by cases h),HS.out⟩
           | true =>
            go_wp2_with (with_reducible refine wpList_load_agg_w (by with_unfolding_all rfl) 31 _ rfl _ q 0 rfl pcs Tryz.underlying31 rfl HS.out.law.size HS.out.law.at ?_)
            refine (touches20 pcs p HT.out d (i:Int) _ HS.out.law.arg HDT.out).mono ?_
            rintro e Y ⟨rfl,hb⟩
            replace HS:=Lib.hid (HS.out.next hb)
            clear hb
            obtain ⟨b2,hb2⟩:∃ b,touchB p d (i:Int) = b:=⟨_,rfl⟩
            rw [hb2]
            have Hb2:=Lib.hid hb2
            clear hb2
            cases b2 with
            | false =>
             go_wp2
             go_meet
             exact ⟨false,rfl,fun h=>(by cases h),HS.out⟩
            | true =>
             have cs2:=HS.out.cell HSD.out
             cases sd with
             | true =>
              go_wp2
              go_meet
              exact ⟨false,rfl,fun h=>(by cases h),HS.out⟩
             | false =>
              go_wp2
              go_meet
              refine ⟨true,rfl,fun _ hd=>?_,HS.out⟩
              have h1:=HW.out d (dead_ahead HT.out.plan hd HTC.out HTD.out ((touchB_iff HTC.out).1 Hb1.out) ((touchB_iff HTD.out).1 Hb2.out))
              have h2:=HSD.out
              unfold HasB at h1
              rw [h1] at h2
              cases h2
          case rest =>
           clear HS
           obtain ⟨cb,rfl,hcb,hS⟩:=hcut
           have HCBB:=Lib.hid hcb
           have HS:=Lib.hid hS
           clear hcb hS
           cases cb with
           | false =>
            go_wp2_with (with_reducible refine wpList_load_agg_w (by with_unfolding_all rfl) 31 _ rfl _ q 0 rfl pcs Tryz.underlying31 rfl HS.out.law.size HS.out.law.at ?_)
            refine (touches20 pcs p HT.out c (i:Int) _ HS.out.law.arg HCT.out).mono ?_
            rintro e Y ⟨rfl,hb⟩
            replace HS:=Lib.hid (HS.out.next hb)
            clear hb
            obtain ⟨b3,hb3⟩:∃ b,touchB p c (i:Int) = b:=⟨_,rfl⟩
            rw [hb3]
            have Hb3:=Lib.hid hb3
            clear hb3
            cases b3 with
            | false =>
             go_wp2
             go_roundw
             case rel=>exact ⟨d + 1,xb,yb,by go_num,by omega,rfl,rfl,HXB.out,HYB.out,HS.out⟩
             case measure=>simp [intOf];omega
            | true =>
             go_wp2_with (with_reducible refine wpList_load_agg_w (by with_unfolding_all rfl) 31 _ rfl _ q 0 rfl pcs Tryz.underlying31 rfl HS.out.law.size HS.out.law.at ?_)
             refine (touches20 pcs p HT.out d (j:Int) _ HS.out.law.arg HDT.out).mono ?_
             rintro e Y ⟨rfl,hb⟩
             replace HS:=Lib.hid (HS.out.next hb)
             clear hb
             obtain ⟨b4,hb4⟩:∃ b,touchB p d (j:Int) = b:=⟨_,rfl⟩
             rw [hb4]
             have Hb4:=Lib.hid hb4
             clear hb4
             cases b4 with
             | false =>
              go_wp2
              go_roundw
              case rel=>exact ⟨d + 1,xb,yb,by go_num,by omega,rfl,rfl,HXB.out,HYB.out,HS.out⟩
              case measure=>simp [intOf];omega
             | true =>
              have cs2:=HS.out.cell HSD.out
              cases sd with
              | true =>
               go_wp2
               go_roundw
               case rel=>exact ⟨d + 1,xb,yb,by go_num,by omega,rfl,rfl,HXB.out,HYB.out,HS.out⟩
               case measure=>simp [intOf];omega
              | false =>
               have HYF:Hid (DeadD p (j:Int) (i:Int)→false = true):=Lib.hid fun hd=>by
                have h1:=HW.out d (dead_ahead HT.out.plan hd HTC.out HTD.out ((touchB_iff HTC.out).1 Hb3.out) ((touchB_iff HTD.out).1 Hb4.out))
                have h2:=HSD.out
                unfold HasB at h1
                rw [h1] at h2
                cases h2
               go_wp2
               go_roundw
               case rel=>exact ⟨d + 1,xb,false,by go_num,by omega,rfl,rfl,HXB.out,HYF.out,HS.out⟩
               case measure=>simp [intOf];omega
           | true =>
            have HXF:Hid (DeadD p (i:Int) (j:Int)→false = true):=Lib.hid fun hd=>absurd hd (HCBB.out rfl)
            go_wp2_with (with_reducible refine wpList_load_agg_w (by with_unfolding_all rfl) 31 _ rfl _ q 0 rfl pcs Tryz.underlying31 rfl HS.out.law.size HS.out.law.at ?_)
            refine (touches20 pcs p HT.out c (i:Int) _ HS.out.law.arg HCT.out).mono ?_
            rintro e Y ⟨rfl,hb⟩
            replace HS:=Lib.hid (HS.out.next hb)
            clear hb
            obtain ⟨b3,hb3⟩:∃ b,touchB p c (i:Int) = b:=⟨_,rfl⟩
            rw [hb3]
            have Hb3:=Lib.hid hb3
            clear hb3
            cases b3 with
            | false =>
             go_wp2
             go_roundw
             case rel=>exact ⟨d + 1,false,yb,by go_num,by omega,rfl,rfl,HXF.out,HYB.out,HS.out⟩
             case measure=>simp [intOf];omega
            | true =>
             go_wp2_with (with_reducible refine wpList_load_agg_w (by with_unfolding_all rfl) 31 _ rfl _ q 0 rfl pcs Tryz.underlying31 rfl HS.out.law.size HS.out.law.at ?_)
             refine (touches20 pcs p HT.out d (j:Int) _ HS.out.law.arg HDT.out).mono ?_
             rintro e Y ⟨rfl,hb⟩
             replace HS:=Lib.hid (HS.out.next hb)
             clear hb
             obtain ⟨b4,hb4⟩:∃ b,touchB p d (j:Int) = b:=⟨_,rfl⟩
             rw [hb4]
             have Hb4:=Lib.hid hb4
             clear hb4
             cases b4 with
             | false =>
              go_wp2
              go_roundw
              case rel=>exact ⟨d + 1,false,yb,by go_num,by omega,rfl,rfl,HXF.out,HYB.out,HS.out⟩
              case measure=>simp [intOf];omega
             | true =>
              have cs2:=HS.out.cell HSD.out
              cases sd with
              | true =>
               go_wp2
               go_roundw
               case rel=>exact ⟨d + 1,false,yb,by go_num,by omega,rfl,rfl,HXF.out,HYB.out,HS.out⟩
               case measure=>simp [intOf];omega
              | false =>
               have HYF:Hid (DeadD p (j:Int) (i:Int)→false = true):=Lib.hid fun hd=>by
                have h1:=HW.out d (dead_ahead HT.out.plan hd HTC.out HTD.out ((touchB_iff HTC.out).1 Hb3.out) ((touchB_iff HTD.out).1 Hb4.out))
                have h2:=HSD.out
                unfold HasB at h1
                rw [h1] at h2
                cases h2
               go_wp2
               go_roundw
               case rel=>exact ⟨d + 1,false,false,by go_num,by omega,rfl,rfl,HXF.out,HYF.out,HS.out⟩
               case measure=>simp [intOf];omega
         ·have hltd':¬ (d:Int) < (n:Int):=by omega
          clear hltd hxb hyb hS hdn
          go_wp2
          go_roundw
          case rel=>exact ⟨c + 1,xb,yb,by go_num,by omega,rfl,rfl,HXB.out,HYB.out,HS.out.law⟩
          case measure=>simp [intOf];omega
       | false =>
        go_wp2_with (with_reducible refine wpList_load_agg_w (by with_unfolding_all rfl) 31 _ rfl _ q 0 rfl pcs Tryz.underlying31 rfl HLX.out.size HLX.out.at ?_)
        refine (touches20 pcs p HT.out c (i:Int) _ HLX.out.arg HCT.out).mono ?_
        rintro e Y ⟨rfl,hb⟩
        replace HLX:=Lib.hid (HLX.out.next hb)
        clear hb
        obtain ⟨b6,hb6⟩:∃ b,touchB p c (i:Int) = b:=⟨_,rfl⟩
        rw [hb6]
        have Hb6:=Lib.hid hb6
        clear hb6
        cases b6 with
        | false =>
         go_wp2
         go_roundw
         case rel=>exact ⟨c + 1,xb,yb,by go_num,by omega,rfl,rfl,HXB.out,HYB.out,HLX.out⟩
         case measure=>simp [intOf];omega
        | true =>
         go_wp2_with (with_reducible refine wpList_load_agg_w (by with_unfolding_all rfl) 31 _ rfl _ q 0 rfl pcs Tryz.underlying31 rfl HLX.out.size HLX.out.at ?_)
         have hlx:=HLX.out.lt
         refine (reach_any pcs p c _ HLX.out.arg HCT.out (by rw [HN.out.1];omega) (after20 HT.out)).mono ?_
         rintro e Y2 ⟨sb,n,bs,rfl,hn,hbl,hrow,-,hb,hwt⟩
         have HS0:Hid (SeenI w q pcs p sb bs Y2):=Lib.hid ⟨HLX.out.next hb,hrow⟩
         rw [HN.out.1] at hn
         subst hn
         have HW:=Lib.hid hwt
         have HBL:=Lib.hid hbl
         have c4:=HS0.out.law.cell HC4.out
         clear hrow hb hwt hbl hlx HLX
         go_wp2_with fail
         clear c4
         go_loopw [13,14,17] (fun aa bb k wr=>∃ (d:Nat) (xb yb:Bool),k = .int .i64 d∧d ≤ n∧aa = .bool xb∧bb = .bool yb∧(DeadD p (i:Int) (j:Int)→xb = true)∧(DeadD p (j:Int) (i:Int)→yb = true)∧SeenI w q pcs p sb bs wr) (fun _ _ k _=>n - (intOf k).toNat)
         case atStart=>exact ⟨0,xb,yb,rfl,Nat.zero_le _,rfl,rfl,HXB.out,HYB.out,HS0.out⟩
         case round =>
          clear HS0 HXB HYB
          obtain ⟨d,xb,yb,rfl,hdn,rfl,rfl,hxb,hyb,hS⟩:=hrel
          obtain ⟨wx,rfl⟩:∃ wx,wx = wr:=⟨_,rfl⟩
          have HXB:=Lib.hid hxb
          have HYB:=Lib.hid hyb
          have HS:=Lib.hid hS
          have c4:=hS.law.cell HC4.out
          have hd0:(0:Int) ≤ (d:Int):=Int.natCast_nonneg _
          by_cases hltd:d < n
          ·have hltd':(d:Int) < (n:Int):=by omega
           obtain ⟨t2,ht2⟩:∃ t,p.tasks[d]? = some t:=⟨_,List.getElem?_eq_getElem (by rw [HN.out.1];exact hltd)⟩
           have HTD:=Lib.hid ht2
           have HDT:=Lib.hid (show d < p.tasks.length by rw [HN.out.1];exact hltd)
           obtain ⟨sd,hsd⟩:∃ b,bs[d]? = some b:=⟨_,List.getElem?_eq_getElem (by rw [HBL.out];exact hltd)⟩
           have HSD:=Lib.hid hsd
           clear ht2 hsd hxb hyb hS hdn
           go_upto_region 21 with (fail)
           clear c4
           go_cut [132] from 116 to 132 (fun aa wx=>∃ cb:Bool,aa = .bool cb∧(cb = true→¬ DeadD p (i:Int) (j:Int))∧SeenI w q pcs p sb bs wx)
           case first =>
            go_wp2_with (with_reducible refine wpList_load_agg_w (by with_unfolding_all rfl) 31 _ rfl _ q 0 rfl pcs Tryz.underlying31 rfl HS.out.law.size HS.out.law.at ?_)
            refine (touches20 pcs p HT.out c (j:Int) _ HS.out.law.arg HCT.out).mono ?_
            rintro e Y ⟨rfl,hb⟩
            replace HS:=Lib.hid (HS.out.next hb)
            clear hb
            obtain ⟨b1,hb1⟩:∃ b,touchB p c (j:Int) = b:=⟨_,rfl⟩
            rw [hb1]
            have Hb1:=Lib.hid hb1
            clear hb1
            cases b1 with
            | false =>
             go_wp2
             go_meet
             exact ⟨false,rfl,fun h=>(by cases h),HS.out⟩
            | true =>
             go_wp2_with (with_reducible refine wpList_load_agg_w (by with_unfolding_all rfl) 31 _ rfl _ q 0 rfl pcs Tryz.underlying31 rfl HS.out.law.size HS.out.law.at ?_)
             refine (touches20 pcs p HT.out d (i:Int) _ HS.out.law.arg HDT.out).mono ?_
             rintro e Y ⟨rfl,hb⟩
             replace HS:=Lib.hid (HS.out.next hb)
             clear hb
             obtain ⟨b2,hb2⟩:∃ b,touchB p d (i:Int) = b:=⟨_,rfl⟩
             rw [hb2]
             have Hb2:=Lib.hid hb2
             clear hb2
             cases b2 with
             | false =>
              go_wp2
              go_meet
              exact ⟨false,rfl,fun h=>(by cases h),HS.out⟩
             | true =>
              have cs2:=HS.out.cell HSD.out
              cases sd with
              | true =>
               go_wp2
               go_meet
               exact ⟨false,rfl,fun h=>(by cases h),HS.out⟩
              | false =>
               go_wp2
               go_meet
               refine ⟨true,rfl,fun _ hd=>?_,HS.out⟩
               have h1:=HW.out d (dead_ahead HT.out.plan hd HTC.out HTD.out ((touchB_iff HTC.out).1 Hb1.out) ((touchB_iff HTD.out).1 Hb2.out))
               have h2:=HSD.out
               unfold HasB at h1
               rw [h1] at h2
               cases h2
           case rest =>
            clear HS
            obtain ⟨cb,rfl,hcb,hS⟩:=hcut
            have HCBB:=Lib.hid hcb
            have HS:=Lib.hid hS
            clear hcb hS
            cases cb with
            | false =>
             go_wp2_with (with_reducible refine wpList_load_agg_w (by with_unfolding_all rfl) 31 _ rfl _ q 0 rfl pcs Tryz.underlying31 rfl HS.out.law.size HS.out.law.at ?_)
             refine (touches20 pcs p HT.out c (i:Int) _ HS.out.law.arg HCT.out).mono ?_
             rintro e Y ⟨rfl,hb⟩
             replace HS:=Lib.hid (HS.out.next hb)
             clear hb
             obtain ⟨b3,hb3⟩:∃ b,touchB p c (i:Int) = b:=⟨_,rfl⟩
             rw [hb3]
             have Hb3:=Lib.hid hb3
             clear hb3
             cases b3 with
             | false =>
              go_wp2
              go_roundw
              case rel=>exact ⟨d + 1,xb,yb,by go_num,by omega,rfl,rfl,HXB.out,HYB.out,HS.out⟩
              case measure=>simp [intOf];omega
             | true =>
              go_wp2_with (with_reducible refine wpList_load_agg_w (by with_unfolding_all rfl) 31 _ rfl _ q 0 rfl pcs Tryz.underlying31 rfl HS.out.law.size HS.out.law.at ?_)
              refine (touches20 pcs p HT.out d (j:Int) _ HS.out.law.arg HDT.out).mono ?_
              rintro e Y ⟨rfl,hb⟩
              replace HS:=Lib.hid (HS.out.next hb)
              clear hb
              obtain ⟨b4,hb4⟩:∃ b,touchB p d (j:Int) = b:=⟨_,rfl⟩
              rw [hb4]
              have Hb4:=Lib.hid hb4
              clear hb4
              cases b4 with
              | false =>
               go_wp2
               go_roundw
               case rel=>exact ⟨d + 1,xb,yb,by go_num,by omega,rfl,rfl,HXB.out,HYB.out,HS.out⟩
               case measure=>simp [intOf];omega
              | true =>
               have cs2:=HS.out.cell HSD.out
               cases sd with
               | true =>
                go_wp2
                go_roundw
                case rel=>exact ⟨d + 1,xb,yb,by go_num,by omega,rfl,rfl,HXB.out,HYB.out,HS.out⟩
                case measure=>simp [intOf];omega
               | false =>
                have HYF:Hid (DeadD p (j:Int) (i:Int)→false = true):=Lib.hid fun hd=>by
                 have h1:=HW.out d (dead_ahead HT.out.plan hd HTC.out HTD.out ((touchB_iff HTC.out).1 Hb3.out) ((touchB_iff HTD.out).1 Hb4.out))
                 have h2:=HSD.out
                 unfold HasB at h1
                 rw [h1] at h2
                 cases h2
                go_wp2
                go_roundw
                case rel=>exact ⟨d + 1,xb,false,by go_num,by omega,rfl,rfl,HXB.out,HYF.out,HS.out⟩
                case measure=>simp [intOf];omega
            | true =>
             have HXF:Hid (DeadD p (i:Int) (j:Int)→false = true):=Lib.hid fun hd=>absurd hd (HCBB.out rfl)
             go_wp2_with (with_reducible refine wpList_load_agg_w (by with_unfolding_all rfl) 31 _ rfl _ q 0 rfl pcs Tryz.underlying31 rfl HS.out.law.size HS.out.law.at ?_)
             refine (touches20 pcs p HT.out c (i:Int) _ HS.out.law.arg HCT.out).mono ?_
             rintro e Y ⟨rfl,hb⟩
             replace HS:=Lib.hid (HS.out.next hb)
             clear hb
             obtain ⟨b3,hb3⟩:∃ b,touchB p c (i:Int) = b:=⟨_,rfl⟩
             rw [hb3]
             have Hb3:=Lib.hid hb3
             clear hb3
             cases b3 with
             | false =>
              go_wp2
              go_roundw
              case rel=>exact ⟨d + 1,false,yb,by go_num,by omega,rfl,rfl,HXF.out,HYB.out,HS.out⟩
              case measure=>simp [intOf];omega
             | true =>
              go_wp2_with (with_reducible refine wpList_load_agg_w (by with_unfolding_all rfl) 31 _ rfl _ q 0 rfl pcs Tryz.underlying31 rfl HS.out.law.size HS.out.law.at ?_)
              refine (touches20 pcs p HT.out d (j:Int) _ HS.out.law.arg HDT.out).mono ?_
              rintro e Y ⟨rfl,hb⟩
              replace HS:=Lib.hid (HS.out.next hb)
              clear hb
              obtain ⟨b4,hb4⟩:∃ b,touchB p d (j:Int) = b:=⟨_,rfl⟩
              rw [hb4]
              have Hb4:=Lib.hid hb4
              clear hb4
              cases b4 with
              | false =>
               go_wp2
               go_roundw
               case rel=>exact ⟨d + 1,false,yb,by go_num,by omega,rfl,rfl,HXF.out,HYB.out,HS.out⟩
               case measure=>simp [intOf];omega
              | true =>
               have cs2:=HS.out.cell HSD.out
               cases sd with
               | true =>
                go_wp2
                go_roundw
                case rel=>exact ⟨d + 1,false,yb,by go_num,by omega,rfl,rfl,HXF.out,HYB.out,HS.out⟩
                case measure=>simp [intOf];omega
               | false =>
                have HYF:Hid (DeadD p (j:Int) (i:Int)→false = true):=Lib.hid fun hd=>by
                 have h1:=HW.out d (dead_ahead HT.out.plan hd HTC.out HTD.out ((touchB_iff HTC.out).1 Hb3.out) ((touchB_iff HTD.out).1 Hb4.out))
                 have h2:=HSD.out
                 unfold HasB at h1
                 rw [h1] at h2
                 cases h2
                go_wp2
                go_roundw
                case rel=>exact ⟨d + 1,false,false,by go_num,by omega,rfl,rfl,HXF.out,HYF.out,HS.out⟩
                case measure=>simp [intOf];omega
          ·have hltd':¬ (d:Int) < (n:Int):=by omega
           clear hltd hxb hyb hS hdn
           go_wp2
           go_roundw
           case rel=>exact ⟨c + 1,xb,yb,by go_num,by omega,rfl,rfl,HXB.out,HYB.out,HS.out.law⟩
           case measure=>simp [intOf];omega
      ·have hlt':¬ (c:Int) < (T:Int):=by omega
       clear hL hcT hlt
       rcases HD.out with hd | hd
       ·have h1:=HXB.out hd
        subst h1
        go_wp2
        go_ret
        exact ⟨rfl,HLX.out.below⟩
       ·have h1:=HYB.out hd
        subst h1
        cases xb with
        | true =>
         go_wp2
         go_ret
         exact ⟨rfl,HLX.out.below⟩
        | false =>
         go_wp2
         go_ret
         exact ⟨rfl,HLX.out.below⟩
 ·have h0':(x != 0) = true:=by simpa using h0
  clear h0 HP hL
  go_wp2
  go_ret
  exact ⟨rfl,HL.out.below⟩
end Go.Proofs.YtilobeohkomeoaaGreat
