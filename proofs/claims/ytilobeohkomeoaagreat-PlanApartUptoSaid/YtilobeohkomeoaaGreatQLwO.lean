/-
  Chapter 20: the law PlanOrder: its walk. No condition.
-/
import Derived.Test.YtilobeohkomeoaaGreatQLwA
set_option linter.unusedSimpArgs false
set_option linter.unusedVariables false
namespace Go.Proofs.YtilobeohkomeoaaGreat
open Go.RowKit
open Rep (rep)
structure Fit20 (g:GraphD):Prop where
 vals:g.vals.length ≤ 1048576
 defs:(defsD g).length ≤ 1048576
 ins:∀ n ∈ g.nodes,n.ins.length ≤ 1048576
 outs:g.outputs.length ≤ 1048576
 nodes:g.nodes.length ≤ 1048576
def Yes20 (w:World) (e:Ending) (w':World):Prop:=e = .returned (.bool true)∧Below w.heap.size w w'
structure Told20 (p:PlanD):Prop where
 plan:Planned p (szD p.graph)
 nodes:p.graph.nodes.length ≤ 1048576
 ins:∀ n ∈ p.graph.nodes,n.ins.length ≤ 1048576
 tasks:p.tasks.length ≤ 268435456
 outs:∀ n ∈ p.graph.nodes,1 ≤ n.outs.length
theorem plan_told {g:GraphD} {x:Int} {p:PlanD} (h:PofP g x p) (hf:Fit20 g):(¬ x = 0→p = emptyP)∧(x = 0→Told20 p):=by
 obtain ⟨h1,hh,ho,h2⟩:=h
 refine ⟨h1,fun hx=>?_⟩
 obtain ⟨hs,e1,-,-,-,e5⟩:=ho.2.1 hx
 rw [h2 hx]
 have hn:hh.nodes.length ≤ 1048576:=by rw [e1];exact hf.nodes
 have hl:=tasksD_len hh (liveD hh) hh.nodes.length
 refine ⟨⟨hs,liveS_len _ _,rfl⟩,hn,?_,?_,e5⟩
 ·show ∀ n ∈ hh.nodes,_
  rw [e1];exact hf.ins
 ·show (tasksD hh (liveD hh) (szD hh) hh.nodes.length).length ≤ _
  omega
theorem Told20.b {p:PlanD} (h:Told20 p):PlanB p:=⟨h.nodes,h.ins⟩
theorem bits_low (x:Int):0 ≤ bits .and .i64 x 65535∧bits .and .i64 x 65535 ≤ 65535:=by
 have h:∀ m:Nat,m ≤ 65535→0 ≤ IntKind.i64.wrap (m:Int)∧IntKind.i64.wrap (m:Int) ≤ 65535:=fun m hm=>by
  rw [IntWalk.i64_in _ (by omega)];omega
 refine h _ ?_
 rw [BitVec.toNat_and]
 exact Nat.le_trans Nat.and_le_right (by decide)
theorem low_mod (x:Int) (n:Nat) (hn:0 < n):∃ k:Nat,(bits .and .i64 x 65535).tmod n = (k:Int)∧k < n:=by
 have h:=bits_low x
 rw [Int.tmod_eq_emod_of_nonneg h.1]
 have h1:=Int.emod_nonneg (bits .and .i64 x 65535) (show (n:Int) ≠ 0 by omega)
 have h2:=Int.emod_lt_of_pos (bits .and .i64 x 65535) (show (0:Int) < (n:Int) by omega)
 exact ⟨((bits .and .i64 x 65535) % n).toNat,by omega,by omega⟩
theorem bef_lt {p:PlanD} (h:Told20 p) {x y:Int} (hb:BeforeD p x y):x < y:=by
 obtain ⟨i,j,rfl,rfl,-,-,-,-,hb⟩:=hb
 have:=behind_lt h.plan.sound hb
 omega
theorem bef_irr {p:PlanD} (h:Told20 p) {x:Int}:¬ BeforeD p x x:=fun hb=>by have:=bef_lt h hb;omega
theorem bef_asym {p:PlanD} (h:Told20 p) {x y:Int} (hb:BeforeD p x y):¬ BeforeD p y x:=fun h2=>by have:=bef_lt h hb;have:=bef_lt h h2;omega
theorem bef_trans {p:PlanD} {x y z:Int} (h1:BeforeD p x y) (h2:BeforeD p y z):BeforeD p x z:=by
 obtain ⟨i,j,rfl,rfl,a1,a2,a3,a4,hb⟩:=h1
 obtain ⟨j',k,e,rfl,b1,b2,b3,b4,hb2⟩:=h2
 obtain rfl:j = j':=by omega
 exact ⟨i,k,rfl,rfl,a1,b2,a3,b4,hb.trans hb2⟩
set_option maxRecDepth 100000 in
set_option maxHeartbeats 8000000 in
theorem order20_any (gcs:List Value) (g:GraphD) (a:Int) (b:Int) (c:Int) (w:World) (hr:rep w (old w.heap.size) gcs g) (hf:Fit20 g) :
  Calls Tryz.prog 5 #[.agg gcs.toArray,.int .i64 a,.int .i64 b,.int .i64 c] w (Yes20 w):=by
 have hl4:gcs.length = 4:=Rep.len hr
 have HG:=Lib.hid (And.intro hr hf)
 have HSZ:=Lib.hid (show (Tryz.prog.info? 26).map (·.size) = some gcs.length by rw [hl4];kernel_rfl)
 clear hr hf hl4
 go_enter Tryz.func5,Tryz.ntmps5
 go_wp2_with (with_reducible refine wpList_box_row rfl 26 _ rfl gcs rfl ?_;have hX:=box_start w 26 gcs;generalize World.alloc _ _ = W0 at hX ⊢;have HX:=Lib.hid hX;clear hX;refine halt ?_)
 unfold Halt
 go_wp2_with fail
 refine (awake20_any W0).mono ?_
 rintro e w1 ⟨rfl,hb⟩
 replace HX:=Lib.hid (HX.out.next hb)
 clear hb
 go_wp2_with (with_reducible refine wpList_load_agg rfl 26 _ rfl _ w.heap.size 0 rfl gcs Tryz.underlying26 rfl HSZ.out (At.of_row HX.out.row) ?_)
 refine (planof_any gcs g w1 (HX.out.keeps' HG.out.1) HG.out.2.vals HG.out.2.defs HG.out.2.ins HG.out.2.outs HG.out.2.nodes).mono ?_
 rintro e w2 ⟨pcs,x,y,p,rfl,hx,hy,hb2,hr2,hP⟩
 have hl7:pcs.length = 7:=Rep.len hr2
 have HB2:=Lib.hid (And.intro (HX.out.below.trans (hb2.mono HX.out.below.size)) hr2)
 have HS:=Lib.hid (And.intro (plan_size hr2) (And.intro (Rep.one hr2) (And.intro (show 0 + pcs.length ≤ z7.length by rw [hl7];decide) (show pcs.length = z7.length from hl7))))
 have HP:=Lib.hid (plan_told hP HG.out.2)
 clear hx hy hb2 hr2 hP hl7 HX HSZ
 go_wp2_with (first
  |(with_reducible refine wpList_alloc_row rfl 31 rfl z7 z7_zero ?_)
  |(with_reducible refine wpList_store_agg rfl 31 _ _ rfl _ 0 pcs rfl rfl 31 z7 (heap_alloc_new _ _) HS.out.1 HS.out.2.2.1 HS.out.2.1 ?_;have hY:=laid_row w2 31 z7 pcs HS.out.2.2.2;generalize World.setRow _ _ _ = w3 at hY ⊢;have HY:=Lib.hid hY;clear hY;refine halt ?_))
 unfold Halt
 have hL:=law_start HB2.out.1 HB2.out.2 HY.out
 obtain ⟨q,hq⟩:∃ q,w2.heap.size = q:=⟨_,rfl⟩
 rw [hq] at hL ⊢
 clear hq HY HS HB2
 obtain ⟨A1,A2,A5,A6,A7,k1,k2,k5,k6,k7,hC⟩:=plan_cells hL.dat
 have HC:=Lib.hid hC
 have HL:=Lib.hid hL
 clear hC
 have c1:=hL.cell HC.out.c1
 obtain ⟨n,hn⟩:∃ n,p.graph.nodes.length = n:=⟨_,rfl⟩
 have nb:=slice_bnd (HC.out.nodes hL.dat)
 obtain ⟨nb1,nb2⟩:=nb
 rw [hn] at c1 nb1
 clear hL
 by_cases h0:x = 0
 ·subst h0
  have HT:=Lib.hid (HP.out.2 rfl)
  have hnn:=HT.out.nodes
  rw [hn] at hnn
  have HPB:=Lib.hid HT.out.b
  have HN:=Lib.hid hn
  clear HP hn
  by_cases hn0:n = 0
  ·subst hn0
   go_wp2
   go_ret
   exact ⟨rfl,HL.out.below⟩
  ·obtain ⟨i,hi,hi2⟩:=low_mod a n (by omega)
   obtain ⟨j,hj,hj2⟩:=low_mod b n (by omega)
   obtain ⟨k,hk,hk2⟩:=low_mod c n (by omega)
   have hn1:¬ (n:Int) = 0:=by omega
   have hn2:¬ (n:Int) = -1:=by omega
   go_wp2_with (with_reducible refine wpList_load_agg_w (by with_unfolding_all rfl) 31 _ rfl _ q 0 rfl pcs Tryz.underlying31 rfl HL.out.size HL.out.at ?_)
   refine (before_any pcs p i j _ HL.out.arg HPB.out (by unfold I64;omega) (by unfold I64;omega)).mono ?_
   rintro e w4 ⟨b1,rfl,hb,hb1⟩
   replace HL:=Lib.hid (HL.out.next hb)
   have Hb1:=Lib.hid hb1
   clear hb hb1
   cases b1 with
   | false =>
    have H1:Hid (¬ BeforeD p i j):=Lib.hid fun h=>by have:=Hb1.out.2 h;cases this
    clear Hb1
    go_wp2_with (with_reducible refine wpList_load_agg_w (by with_unfolding_all rfl) 31 _ rfl _ q 0 rfl pcs Tryz.underlying31 rfl HL.out.size HL.out.at ?_)
    refine (before_any pcs p i j _ HL.out.arg HPB.out (by unfold I64;omega) (by unfold I64;omega)).mono ?_
    rintro e T1 ⟨d1,rfl,hb,hd1⟩
    replace HL:=Lib.hid (HL.out.next hb)
    have Hd1:=Lib.hid hd1
    clear hb hd1
    obtain rfl:=(befB_eq Hd1.out).2 H1.out
    clear Hd1
    go_wp2_with (with_reducible refine wpList_load_agg_w (by with_unfolding_all rfl) 31 _ rfl _ q 0 rfl pcs Tryz.underlying31 rfl HL.out.size HL.out.at ?_)
    refine (before_any pcs p i i _ HL.out.arg HPB.out (by unfold I64;omega) (by unfold I64;omega)).mono ?_
    rintro e T3 ⟨d3,rfl,hb,hd3⟩
    replace HL:=Lib.hid (HL.out.next hb)
    have Hd3:=Lib.hid hd3
    clear hb hd3
    obtain rfl:=(befB_eq Hd3.out).2 (bef_irr HT.out)
    clear Hd3
    go_wp2_with (with_reducible refine wpList_load_agg_w (by with_unfolding_all rfl) 31 _ rfl _ q 0 rfl pcs Tryz.underlying31 rfl HL.out.size HL.out.at ?_)
    refine (before_any pcs p i j _ HL.out.arg HPB.out (by unfold I64;omega) (by unfold I64;omega)).mono ?_
    rintro e T4 ⟨d4,rfl,hb,hd4⟩
    replace HL:=Lib.hid (HL.out.next hb)
    have Hd4:=Lib.hid hd4
    clear hb hd4
    obtain rfl:=(befB_eq Hd4.out).2 H1.out
    clear Hd4
    go_wp2
    go_ret
    exact ⟨rfl,HL.out.below⟩
   | true =>
    have H1:Hid (BeforeD p i j):=Lib.hid (Hb1.out.1 rfl)
    clear Hb1
    go_wp2_with (with_reducible refine wpList_load_agg_w (by with_unfolding_all rfl) 31 _ rfl _ q 0 rfl pcs Tryz.underlying31 rfl HL.out.size HL.out.at ?_)
    refine (before_any pcs p j k _ HL.out.arg HPB.out (by unfold I64;omega) (by unfold I64;omega)).mono ?_
    rintro e w5 ⟨b2,rfl,hb,hb2⟩
    replace HL:=Lib.hid (HL.out.next hb)
    have Hb2:=Lib.hid hb2
    clear hb hb2
    cases b2 with
    | false =>
     clear Hb2
     go_wp2_with (with_reducible refine wpList_load_agg_w (by with_unfolding_all rfl) 31 _ rfl _ q 0 rfl pcs Tryz.underlying31 rfl HL.out.size HL.out.at ?_)
     refine (before_any pcs p i j _ HL.out.arg HPB.out (by unfold I64;omega) (by unfold I64;omega)).mono ?_
     rintro e T1 ⟨d1,rfl,hb,hd1⟩
     replace HL:=Lib.hid (HL.out.next hb)
     have Hd1:=Lib.hid hd1
     clear hb hd1
     obtain rfl:=(befB_eq Hd1.out).1 H1.out
     clear Hd1
     go_wp2_with (with_reducible refine wpList_load_agg_w (by with_unfolding_all rfl) 31 _ rfl _ q 0 rfl pcs Tryz.underlying31 rfl HL.out.size HL.out.at ?_)
     refine (before_any pcs p j i _ HL.out.arg HPB.out (by unfold I64;omega) (by unfold I64;omega)).mono ?_
     rintro e T2 ⟨d2,rfl,hb,hd2⟩
     replace HL:=Lib.hid (HL.out.next hb)
     have Hd2:=Lib.hid hd2
     clear hb hd2
     obtain rfl:=(befB_eq Hd2.out).2 (bef_asym HT.out H1.out)
     clear Hd2
     go_wp2_with (with_reducible refine wpList_load_agg_w (by with_unfolding_all rfl) 31 _ rfl _ q 0 rfl pcs Tryz.underlying31 rfl HL.out.size HL.out.at ?_)
     refine (before_any pcs p i i _ HL.out.arg HPB.out (by unfold I64;omega) (by unfold I64;omega)).mono ?_
     rintro e T3 ⟨d3,rfl,hb,hd3⟩
     replace HL:=Lib.hid (HL.out.next hb)
     have Hd3:=Lib.hid hd3
     clear hb hd3
     obtain rfl:=(befB_eq Hd3.out).2 (bef_irr HT.out)
     clear Hd3
     go_wp2_with (with_reducible refine wpList_load_agg_w (by with_unfolding_all rfl) 31 _ rfl _ q 0 rfl pcs Tryz.underlying31 rfl HL.out.size HL.out.at ?_)
     refine (before_any pcs p i j _ HL.out.arg HPB.out (by unfold I64;omega) (by unfold I64;omega)).mono ?_
     rintro e T4 ⟨d4,rfl,hb,hd4⟩
     replace HL:=Lib.hid (HL.out.next hb)
     have Hd4:=Lib.hid hd4
     clear hb hd4
     obtain rfl:=(befB_eq Hd4.out).1 H1.out
     have hlt:=bef_lt HT.out H1.out
     clear Hd4
     go_wp2
     go_ret
     exact ⟨rfl,HL.out.below⟩
    | true =>
     have H2:Hid (BeforeD p j k):=Lib.hid (Hb2.out.1 rfl)
     clear Hb2
     go_wp2_with (with_reducible refine wpList_load_agg_w (by with_unfolding_all rfl) 31 _ rfl _ q 0 rfl pcs Tryz.underlying31 rfl HL.out.size HL.out.at ?_)
     refine (before_any pcs p i k _ HL.out.arg HPB.out (by unfold I64;omega) (by unfold I64;omega)).mono ?_
     rintro e w6 ⟨b3,rfl,hb,hb3⟩
     replace HL:=Lib.hid (HL.out.next hb)
     have Hb3:=Lib.hid hb3
     clear hb hb3
     obtain rfl:=(befB_eq Hb3.out).1 (bef_trans H1.out H2.out)
     clear Hb3
     go_wp2_with (with_reducible refine wpList_load_agg_w (by with_unfolding_all rfl) 31 _ rfl _ q 0 rfl pcs Tryz.underlying31 rfl HL.out.size HL.out.at ?_)
     refine (before_any pcs p i j _ HL.out.arg HPB.out (by unfold I64;omega) (by unfold I64;omega)).mono ?_
     rintro e T1 ⟨d1,rfl,hb,hd1⟩
     replace HL:=Lib.hid (HL.out.next hb)
     have Hd1:=Lib.hid hd1
     clear hb hd1
     obtain rfl:=(befB_eq Hd1.out).1 H1.out
     clear Hd1
     go_wp2_with (with_reducible refine wpList_load_agg_w (by with_unfolding_all rfl) 31 _ rfl _ q 0 rfl pcs Tryz.underlying31 rfl HL.out.size HL.out.at ?_)
     refine (before_any pcs p j i _ HL.out.arg HPB.out (by unfold I64;omega) (by unfold I64;omega)).mono ?_
     rintro e T2 ⟨d2,rfl,hb,hd2⟩
     replace HL:=Lib.hid (HL.out.next hb)
     have Hd2:=Lib.hid hd2
     clear hb hd2
     obtain rfl:=(befB_eq Hd2.out).2 (bef_asym HT.out H1.out)
     clear Hd2
     go_wp2_with (with_reducible refine wpList_load_agg_w (by with_unfolding_all rfl) 31 _ rfl _ q 0 rfl pcs Tryz.underlying31 rfl HL.out.size HL.out.at ?_)
     refine (before_any pcs p i i _ HL.out.arg HPB.out (by unfold I64;omega) (by unfold I64;omega)).mono ?_
     rintro e T3 ⟨d3,rfl,hb,hd3⟩
     replace HL:=Lib.hid (HL.out.next hb)
     have Hd3:=Lib.hid hd3
     clear hb hd3
     obtain rfl:=(befB_eq Hd3.out).2 (bef_irr HT.out)
     clear Hd3
     go_wp2_with (with_reducible refine wpList_load_agg_w (by with_unfolding_all rfl) 31 _ rfl _ q 0 rfl pcs Tryz.underlying31 rfl HL.out.size HL.out.at ?_)
     refine (before_any pcs p i j _ HL.out.arg HPB.out (by unfold I64;omega) (by unfold I64;omega)).mono ?_
     rintro e T4 ⟨d4,rfl,hb,hd4⟩
     replace HL:=Lib.hid (HL.out.next hb)
     have Hd4:=Lib.hid hd4
     clear hb hd4
     obtain rfl:=(befB_eq Hd4.out).1 H1.out
     have hlt:=bef_lt HT.out H1.out
     clear Hd4
     go_wp2
     go_ret
     exact ⟨rfl,HL.out.below⟩
 ·have h0':(x != 0) = true:=by simpa using h0
  clear h0 HP
  go_wp2
  go_ret
  exact ⟨rfl,HL.out.below⟩
end Go.Proofs.YtilobeohkomeoaaGreat
