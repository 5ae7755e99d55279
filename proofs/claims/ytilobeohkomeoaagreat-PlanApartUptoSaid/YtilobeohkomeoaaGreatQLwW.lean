/-
  Chapter 20: the law PlanWhole: its walk. No condition.
-/
import Derived.Test.YtilobeohkomeoaaGreatQLwA
import Derived.Test.YtilobeohkomeoaaGreatQLwC
import Derived.Test.YtilobeohkomeoaaGreatQLwO
import Derived.Test.YtilobeohkomeoaaGreatQYsl
set_option linter.unusedSimpArgs false
set_option linter.unusedVariables false
namespace Go.Proofs.YtilobeohkomeoaaGreat
open Go.RowKit
open Rep (rep)
section
variable {ops:Array Oper} {S:World→Prop} {o:Oper} {a:Act}
theorem yields_lssD (hw:Region.wanted o (yielded ops a.tmps) = true) (x y:Operand) (t u:TypeId) (ho:o.op = .binOp .lss t x y u) (p q:Int) (c:Bool) (hx:a.eval x = .int .i64 p) (hy:a.eval y = .int .i64 q) (_:Tryz.prog.underlying t = some (.int .i64)) (h:decide (p < q) = c):YieldsIf Tryz.prog ops S o (.bool c) a :=
 .inl ⟨hw,fun w _=>by
  subst h
  unfold execOp
  simp only [ho,hx,hy]
  go_simp⟩
theorem yields_geqD (hw:Region.wanted o (yielded ops a.tmps) = true) (x y:Operand) (t u:TypeId) (ho:o.op = .binOp .geq t x y u) (p q:Int) (c:Bool) (hx:a.eval x = .int .i64 p) (hy:a.eval y = .int .i64 q) (_:Tryz.prog.underlying t = some (.int .i64)) (h:decide (q ≤ p) = c):YieldsIf Tryz.prog ops S o (.bool c) a :=
 .inl ⟨hw,fun w _=>by
  subst h
  unfold execOp
  simp only [ho,hx,hy]
  go_simp⟩
end
structure TskI (w:World) (q:Nat) (pcs:List Value) (p:PlanD) (tb:Nat) (c:List Value) (W:World):Prop where
 law:LawI w q pcs p W
 row:W.heap[tb]? = some (.cells c.toArray 36 (0,0))
theorem TskI.next {w W W':World} {q tb:Nat} {pcs c:List Value} {p:PlanD} (h:TskI w q pcs p tb c W) (hb:Below W.heap.size W W'):TskI w q pcs p tb c W':=⟨h.law.next hb,(hb.block _ (Array.getElem?_eq_some_iff.1 h.row).1).trans h.row⟩
theorem LawI.celO {w W0 W:World} {q:Nat} {pcs:List Value} {p:PlanD} (h:LawI w q pcs p W0) (hb:Below W0.heap.size W0 W) {a:Addr} {v:Value} (ha:a.block < q) (hv:W0.cell? a = some v):W.cell? a = some v:=(hb.cell (Nat.lt_trans ha h.lt)).trans hv
theorem LawI.repO {w W0 W:World} {q:Nat} {pcs:List Value} {p:PlanD} (h:LawI w q pcs p W0) (hb:Below W0.heap.size W0 W) {α:Type} [Rep α] {c:List Value} {a:α} (hr:Rep.rep W0 (old q) c a):Rep.rep W (old q) c a:=Rep.keep hr (Keeps.old_below hb (Nat.le_of_lt h.lt))
theorem tasks_split {p:PlanD} (h:Told20 p) {c:Nat} (hc:c < p.graph.nodes.length) (hl:p.live[c]? = some true):∃ post,p.tasks = tasksD p.graph p.live (szD p.graph) c++tasksOf (gOp p.graph c) (szD p.graph c) (c:Int) (afterD p.graph (tasksD p.graph p.live (szD p.graph) c) (gIns p.graph c))++post∧∀ t ∈ post,¬ t.node = (c:Int):=by
 obtain ⟨r,hr⟩:=tasksD_pre p.graph p.live (szD p.graph) (show c + 1 ≤ p.graph.nodes.length from hc)
 rw [← h.plan.tasks,tasksD_live hl] at hr
 refine ⟨r,hr,fun t ht e=>?_⟩
 obtain ⟨j,hj⟩:=List.mem_iff_getElem?.1 ht
 have hlen:(tasksD p.graph p.live (szD p.graph) (c + 1)).length = (tasksD p.graph p.live (szD p.graph) c++tasksOf (gOp p.graph c) (szD p.graph c) (c:Int) (afterD p.graph (tasksD p.graph p.live (szD p.graph) c) (gIns p.graph c))).length:=by rw [tasksD_live hl]
 have hq:p.tasks[(tasksD p.graph p.live (szD p.graph) (c + 1)).length + j]? = some t:=by
  rw [hr,List.getElem?_append_right (by rw [hlen];omega),hlen,Nat.add_sub_cancel_left]
  exact hj
 rw [h.plan.tasks] at hq
 obtain ⟨i,hi,en,-,-,-,hlt⟩:=task_at hq
 obtain rfl:i = c:=by omega
 omega
theorem live_lt {p:PlanD} (h:Told20 p) {c:Nat} {b:Bool} (hl:p.live[c]? = some b):c < p.graph.nodes.length:=by
 have:=(List.getElem?_eq_some_iff.1 hl).1
 rw [h.plan.live] at this
 exact this
set_option maxRecDepth 100000 in
set_option maxHeartbeats 8000000 in
theorem whole20_any (gcs:List Value) (g:GraphD) (w:World) (hr:rep w (old w.heap.size) gcs g) (hf:Fit20 g) :
  Calls Tryz.prog 3 #[.agg gcs.toArray] w (Yes20 w):=by
 have hl4:gcs.length = 4:=Rep.len hr
 have HG:=Lib.hid (And.intro hr hf)
 have HSZ:=Lib.hid (show (Tryz.prog.info? 26).map (·.size) = some gcs.length by rw [hl4];kernel_rfl)
 clear hr hf hl4
 go_enter Tryz.func3,Tryz.ntmps3
 go_wp2_with (with_reducible refine wpList_box_row rfl 26 _ rfl gcs rfl ?_;have hX:=box_start w 26 gcs;generalize World.alloc _ _ = W0 at hX ⊢;have HX:=Lib.hid hX;clear hX;refine halt ?_)
 unfold Halt
 go_wp2_with fail
 refine (awake20_any W0).mono ?_
 rintro e w1 ⟨rfl,hb⟩
 replace HX:=Lib.hid (HX.out.next hb)
 clear hb
 go_wp2_with (with_reducible refine wpList_load_agg rfl 26 _ rfl _ w.heap.size 0 rfl gcs Tryz.underlying26 rfl HSZ.out (At.of_row HX.out.row) ?_)
 refine (planof_any gcs g w1 (HX.out.keeps' HG.out.1) HG.out.2.vals HG.out.2.defs HG.out.2.ins HG.out.2.outs HG.out.2.nodes).mono ?_
 rintro e w2 ⟨pcs,x,y,p,rfl,hx,hy,hb2,hr2,hP⟩
 have hl7:pcs.length = 7:=Rep.len hr2
 have HB2:=Lib.hid (And.intro (HX.out.below.trans (hb2.mono HX.out.below.size)) hr2)
 have HS:=Lib.hid (And.intro (plan_size hr2) (And.intro (Rep.one hr2) (And.intro (show 0 + pcs.length ≤ z7.length by rw [hl7];decide) (show pcs.length = z7.length from hl7))))
 have HP:=Lib.hid (plan_told hP HG.out.2)
 clear hx hy hb2 hr2 hP hl7 HX HSZ
 go_wp2_with (first
  |(with_reducible refine wpList_alloc_row rfl 31 rfl z7 z7_zero ?_)
  |(with_reducible refine wpList_store_agg rfl 31 _ _ rfl _ 0 pcs rfl rfl 31 z7 (heap_alloc_new _ _) HS.out.1 HS.out.2.2.1 HS.out.2.1 ?_;have hY:=laid_row w2 31 z7 pcs HS.out.2.2.2;generalize World.setRow _ _ _ = w3 at hY ⊢;have HY:=Lib.hid hY;clear hY;refine halt ?_))
 unfold Halt
 have hL:=law_start HB2.out.1 HB2.out.2 HY.out
 obtain ⟨q,hq⟩:∃ q,w2.heap.size = q:=⟨_,rfl⟩
 rw [hq] at hL ⊢
 clear hq HY HS HB2
 obtain ⟨A1,A2,A5,A6,A7,k1,k2,k5,k6,k7,hC⟩:=plan_cells hL.dat
 have HC:=Lib.hid hC
 have HL:=Lib.hid hL
 clear hC
 by_cases h0:x = 0
 ·subst h0
  have HT:=Lib.hid (HP.out.2 rfl)
  have HPB:=Lib.hid HT.out.b
  obtain ⟨N,hN⟩:∃ n,p.graph.nodes.length = n:=⟨_,rfl⟩
  obtain ⟨T,hT⟩:∃ n,p.tasks.length = n:=⟨_,rfl⟩
  obtain ⟨M,hM⟩:∃ n,p.live.length = n:=⟨_,rfl⟩
  obtain ⟨nv,hnv⟩:∃ n,p.graph.vals.length = n:=⟨_,rfl⟩
  have HC0:=Lib.hid HC.out.c0
  have HC1:=Lib.hid HC.out.c1
  have HC4:=Lib.hid HC.out.c4
  have HC6:=Lib.hid HC.out.c6
  have b1:=slice_bnd (HC.out.nodes hL.dat)
  have b4:=slice_bnd (HC.out.tasks hL.dat)
  have b6:=slice_bnd (HC.out.live hL.dat)
  have b0:=slice_bnd (HC.out.vals hL.dat)
  have hT2:=HT.out.tasks
  have hN2:=HT.out.nodes
  have hMN:=HT.out.plan.live
  rw [hN] at HC1 b1 hN2 hMN
  rw [hT] at HC4 b4 hT2
  rw [hM] at HC6 b6 hMN
  rw [hnv] at HC0 b0
  obtain ⟨b11,b12⟩:=b1
  obtain ⟨b41,b42⟩:=b4
  obtain ⟨b61,b62⟩:=b6
  obtain ⟨b01,b02⟩:=b0
  have HN:=Lib.hid (And.intro hN (And.intro hT (And.intro hM (And.intro hnv hMN))))
  have c4:=hL.cell HC4.out
  clear hL HP hN hT hM hnv hMN
  go_wp2_with fail
  go_loopw [7] (fun i wr=>∃ c:Nat,i = .int .i64 c∧c ≤ T∧LawI w q pcs p wr) (fun i _=>T - (intOf i).toNat)
  case atStart=>exact ⟨0,rfl,Nat.zero_le _,HL.out⟩
  case round =>
   clear HL c4
   obtain ⟨c,rfl,hcT,hL⟩:=hrel
   obtain ⟨wb,rfl⟩:∃ wb,wb = wr:=⟨_,rfl⟩
   have HL:=Lib.hid hL
   have c4:=hL.cell HC4.out
   have hc0:(0:Int) ≤ (c:Int):=Int.natCast_nonneg _
   by_cases hlt:c < T
   ·have hlt':(c:Int) < (T:Int):=by omega
    obtain ⟨t,ht⟩:∃ t,p.tasks[c]? = some t:=⟨_,List.getElem?_eq_getElem (by rw [HN.out.2.1];exact hlt)⟩
    obtain ⟨ni,hni,htn,hlv,haf⟩:=HT.out.plan.after ht
    rw [HN.out.1] at hni
    have hrt:=HC.out.tasks hL.dat
    obtain ⟨bt,ft,AF,kf,rfl,hbt,hat,hraf⟩:=elem_task hrt ht
    obtain ⟨na1,na2⟩:=slice_bnd hraf
    obtain ⟨na,hna⟩:∃ n,t.after.length = n:=⟨_,rfl⟩
    have HRAF:=Lib.hid hraf
    rw [htn,hna] at hat
    rw [hna] at na1
    have HNA:=Lib.hid hna
    have HAF0:=Lib.hid haf
    have HTT:=Lib.hid (And.intro ht (And.intro htn hlv))
    obtain ⟨lo,hlo⟩:∃ l,t.lo = l:=⟨_,rfl⟩
    obtain ⟨hi,hhi⟩:∃ l,t.hi = l:=⟨_,rfl⟩
    rw [hlo,hhi] at hat
    have HAT:=Lib.hid hat
    obtain ⟨bl,fl,rfl,hbl,hcl⟩:=bool_at (HC.out.live hL.dat) hlv
    have c1:=hL.cell HC1.out
    have c6:=hL.cell HC6.out
    have hZ:=laid_row wb 36 zeroTk ([.int .i64 (ni:Int),.int .i64 lo,.int .i64 hi,.slice AF na kf]:List Value) rfl
    have HZ:=Lib.hid hZ
    have hni0:(0:Int) ≤ (ni:Int):=Int.natCast_nonneg _
    have hni':(ni:Int) < (N:Int):=by omega
    have hniM:(ni:Int) < (M:Int):=by have:=HN.out.2.2.2.2;omega
    have HCL:=Lib.hid (And.intro (show bl < q from hbl) (And.intro hcl hni))
    have HCB:=Lib.hid (And.intro c1 c6)
    clear hL hat hraf hna haf ht htn hlv hlo hhi hrt hZ c1 c6 hcl hbl
    go_wp2_with (first
     |(with_reducible refine wpList_load_agg rfl 36 _ rfl _ _ _ rfl ([.int .i64 (ni:Int),.int .i64 lo,.int .i64 hi,.slice AF na kf]:List Value) Tryz.underlying36 rfl (by kernel_rfl) HAT.out ?_)
     |(with_reducible refine wpList_alloc_row rfl 36 rfl zeroTk zeroTk_zero ?_)
     |(with_reducible refine wpList_store_agg rfl 36 _ _ rfl _ 0 ([.int .i64 (ni:Int),.int .i64 lo,.int .i64 hi,.slice AF na kf]:List Value) rfl rfl 36 zeroTk (heap_alloc_new _ _) (by kernel_rfl) (of_decide_eq_true (by kernel_rfl)) (by simp [Value.oneCell']) ?_;have hY:=HZ.out;generalize World.setRow _ _ _ = w5 at hY ⊢;have HY:=Lib.hid hY;clear hY;refine halt ?_))
    unfold Halt
    clear HZ
    have hL5:=HL.out.next HY.out.1
    have hrow:=HY.out.2.1
    have hq5:q < wb.heap.size:=HL.out.lt
    obtain ⟨tb,htb⟩:∃ q,wb.heap.size = q:=⟨_,rfl⟩
    have c4':=hL5.cell HC4.out
    have c1':=hL5.cell HC1.out
    have c6':=hL5.cell HC6.out
    have cl':=HL.out.celO HY.out.1 HCL.out.1 HCL.out.2.1
    have HTA:=Lib.hid (fun j u hu=>HL.out.celO HY.out.1 (show bt < q from hbt) (HAT.out j u hu))
    rw [htb] at hrow ⊢
    have HT1:Hid (TskI w q pcs p tb ([.int .i64 (ni:Int),.int .i64 lo,.int .i64 hi,.slice AF na kf]:List Value) w5):=Lib.hid ⟨hL5,hrow⟩
    have HRF5:=Lib.hid (HL.out.repO HY.out.1 HRAF.out)
    have t0:=cell_row (q:=tb) (j:=0) hrow rfl
    have t3:=cell_row (q:=tb) (j:=3) hrow rfl
    clear c4 hrow hL5 htb HY HAT HCB HRAF hq5
    go_wp2_with fail
    clear t0 c1' c6' cl' c4'
    go_loopw [9] (fun k wr=>∃ d:Nat,k = .int .i64 d∧d ≤ na∧TskI w q pcs p tb ([.int .i64 (ni:Int),.int .i64 lo,.int .i64 hi,.slice AF na kf]:List Value) wr∧Below w5.heap.size w5 wr) (fun k _=>na - (intOf k).toNat)
    case atStart=>exact ⟨0,rfl,Nat.zero_le _,HT1.out,Below.refl _ _⟩
    case round =>
     clear t3
     obtain ⟨d,rfl,hdn,hT2,hb2⟩:=hrel
     obtain ⟨wx,rfl⟩:∃ wx,wx = wr:=⟨_,rfl⟩
     have HT2:=Lib.hid hT2
     have HB2:=Lib.hid hb2
     have t3:=cell_row (q:=tb) (j:=3) hT2.row rfl
     have hd0:(0:Int) ≤ (d:Int):=Int.natCast_nonneg _
     by_cases hltd:d < na
     ·have hltd':(d:Int) < (na:Int):=by omega
      obtain ⟨xx,hxx⟩:∃ z,t.after[d]? = some z:=⟨_,List.getElem?_eq_getElem (by rw [HNA.out];exact hltd)⟩
      obtain ⟨kk,jn,st,rfl,hkc,hkt,hjn,hjl,hedge⟩:=HAF0.out xx (List.mem_of_getElem? hxx)
      obtain ⟨-,bf,ff,rfl,hbf,hcf⟩:=int_at HRF5.out hxx
      have HAF:=Lib.hid (And.intro (show bf < q from hbf) (HT1.out.law.celO hb2 (show bf < q from hbf) hcf))
      have hrt2:=HC.out.tasks hT2.law.dat
      obtain ⟨bt',ft',AF2,kf2,he,hbt2,hat2,-⟩:=elem_task hrt2 hkt
      injection he with he
      injection he with he1 he2
      subst he1 he2
      have hk0:=hat2 0 _ rfl
      rw [hjn] at hk0
      have HTK:=Lib.hid (And.intro (show bt < q from hbt2) hk0)
      have HDN:=Lib.hid hltd
      have hkT:kk < T:=by omega
      have HKK:Hid (decide ((kk:Int) < 0) = false∧decide ((c:Int) ≤ (kk:Int)) = false∧kk < T):=Lib.hid ⟨by simp,by simp;omega,hkT⟩
      have hjN:=live_lt HT.out hjl
      have hnl:=live_lt HT.out HTT.out.2.2
      have hNN:=HT.out.nodes
      have HJN:Hid (I64 (jn:Int)):=Lib.hid (by unfold I64;omega)
      have HNI:Hid (I64 (ni:Int)):=Lib.hid (by unfold I64;omega)
      have HBF:Hid (BeforeD p (jn:Int) (ni:Int)):=Lib.hid ⟨jn,ni,rfl,rfl,hjN,hnl,hjl,HTT.out.2.2,.one hedge⟩
      clear hT2 hb2 hxx hkc hkt hjn hjl hedge hcf hrt2 hbt2 hat2 hk0 hkT hjN hnl hNN hbf HTA
      go_upto_region 14 with (fail)
      have hdr:Below wx.heap.size wx wx.drew:=(Below.refl _ _).drew
      refine wp_region_held_drew (S:=fun W=>TskI w q pcs p tb ([.int .i64 (ni:Int),.int .i64 lo,.int .i64 hi,.slice (some ⟨bf,ff,none⟩) na kf]:List Value) W∧Below wx.heap.size wx W) (by kernel_rfl) ⟨HT2.out.next hdr,hdr⟩ (fun hHeld=>?_)
      clear hdr
      generalize World.drew _ = V0 at hHeld ⊢
      refine tk0 0 (some 72) (v:=.pointer (some ⟨tb,3,none⟩)) rfl hHeld ?_
      refine tk9 1 (some 73) (v:=.slice (some ⟨bf,ff,none⟩) na kf) rfl (yields_load_one9 (by kernel_rfl) _ _ rfl tb 3 (by kernel_rfl) _ _ Tryz.underlying24 rfl (fun _ h=>cell_row h.1.row rfl)) hHeld ?_
      refine tk0 2 (some 74) (v:=.int .i64 (d:Int)) rfl hHeld ?_
      refine tk9 3 (some 75) (v:=.pointer (some ⟨bf,ff + d,none⟩)) rfl (yields_idx (by kernel_rfl) _ _ rfl bf ff na kf d (by kernel_rfl) (by kernel_rfl) HDN.out) hHeld ?_
      refine tk9 4 (some 76) (v:=.int .i64 (kk:Int)) rfl (yields_load_one9 (by kernel_rfl) _ _ rfl bf (ff + d) (by kernel_rfl) _ _ Tryz.underlying3 rfl (fun _ h=>HT2.out.law.celO h.2 HAF.out.1 HAF.out.2)) hHeld ?_
      refine tk9 5 (some 77) (v:=.bool false) rfl (yields_lssD (by kernel_rfl) _ _ _ _ rfl (kk:Int) 0 false (by kernel_rfl) (by kernel_rfl) (by kernel_rfl) HKK.out.1) hHeld ?_
      refine tk0 6 (some 78) (v:=.bool false) rfl hHeld ?_
      refine tk0 7 (some 79) (v:=.pointer (some ⟨tb,3,none⟩)) rfl hHeld ?_
      refine tk9 8 (some 80) (v:=.slice (some ⟨bf,ff,none⟩) na kf) rfl (yields_load_one9 (by kernel_rfl) _ _ rfl tb 3 (by kernel_rfl) _ _ Tryz.underlying24 rfl (fun _ h=>cell_row h.1.row rfl)) hHeld ?_
      refine tk0 9 (some 81) (v:=.int .i64 (d:Int)) rfl hHeld ?_
      refine tk9 10 (some 82) (v:=.pointer (some ⟨bf,ff + d,none⟩)) rfl (yields_idx (by kernel_rfl) _ _ rfl bf ff na kf d (by kernel_rfl) (by kernel_rfl) HDN.out) hHeld ?_
      refine tk9 11 (some 83) (v:=.int .i64 (kk:Int)) rfl (yields_load_one9 (by kernel_rfl) _ _ rfl bf (ff + d) (by kernel_rfl) _ _ Tryz.underlying3 rfl (fun _ h=>HT2.out.law.celO h.2 HAF.out.1 HAF.out.2)) hHeld ?_
      refine tk0 12 (some 84) (v:=.int .i64 (c:Int)) rfl hHeld ?_
      refine tk9 13 (some 85) (v:=.bool false) rfl (yields_geqD (by kernel_rfl) _ _ _ _ rfl (kk:Int) (c:Int) false (by kernel_rfl) (by kernel_rfl) (by kernel_rfl) HKK.out.2.1) hHeld ?_
      refine tk0 14 (some 86) (v:=.bool false) rfl hHeld ?_
      refine tk0 15 (some 87) (v:=.bool false) rfl hHeld ?_
      refine tk9 16 (some 88) (v:=.agg pcs.toArray) rfl (yields_load_agg (by kernel_rfl) _ _ rfl _ q 0 (by kernel_rfl) pcs Tryz.underlying31 rfl HT2.out.law.size (fun W h=>h.1.law.at)) hHeld ?_
      refine tk0 17 (some 89) (v:=.pointer (some ⟨q,4,none⟩)) rfl hHeld ?_
      refine tk9 18 (some 90) (v:=.slice (some ⟨bt,ft,none⟩) T k5) rfl (yields_load_one9 (by kernel_rfl) _ _ rfl q 4 (by kernel_rfl) _ _ Tryz.underlying28 rfl (fun _ h=>h.1.law.cell HC4.out)) hHeld ?_
      refine tk0 19 (some 91) (v:=.pointer (some ⟨tb,3,none⟩)) rfl hHeld ?_
      refine tk9 20 (some 92) (v:=.slice (some ⟨bf,ff,none⟩) na kf) rfl (yields_load_one9 (by kernel_rfl) _ _ rfl tb 3 (by kernel_rfl) _ _ Tryz.underlying24 rfl (fun _ h=>cell_row h.1.row rfl)) hHeld ?_
      refine tk0 21 (some 93) (v:=.int .i64 (d:Int)) rfl hHeld ?_
      refine tk9 22 (some 94) (v:=.pointer (some ⟨bf,ff + d,none⟩)) rfl (yields_idx (by kernel_rfl) _ _ rfl bf ff na kf d (by kernel_rfl) (by kernel_rfl) HDN.out) hHeld ?_
      refine tk9 23 (some 95) (v:=.int .i64 (kk:Int)) rfl (yields_load_one9 (by kernel_rfl) _ _ rfl bf (ff + d) (by kernel_rfl) _ _ Tryz.underlying3 rfl (fun _ h=>HT2.out.law.celO h.2 HAF.out.1 HAF.out.2)) hHeld ?_
      refine tk9 24 (some 96) (v:=.pointer (some ⟨bt,ft + kk * 4,none⟩)) rfl (yields_indexI (by kernel_rfl) _ _ _ rfl bt ft T k5 kk 4 (kk:Int) (by kernel_rfl) (by kernel_rfl) Tryz.underlying28 (by kernel_rfl) rfl HKK.out.2.2) hHeld ?_
      refine tk0 25 (some 97) (v:=.pointer (some ⟨bt,ft + kk * 4,none⟩)) rfl hHeld ?_
      refine tk9 26 (some 98) (v:=.int .i64 (jn:Int)) rfl (yields_load_one9 (by kernel_rfl) _ _ rfl bt (ft + kk * 4) (by kernel_rfl) _ _ Tryz.underlying3 rfl (fun _ h=>HT2.out.law.celO h.2 HTK.out.1 HTK.out.2)) hHeld ?_
      refine tk0 27 (some 99) (v:=.pointer (some ⟨tb,0,none⟩)) rfl hHeld ?_
      refine tk9 28 (some 100) (v:=.int .i64 (ni:Int)) rfl (yields_load_one9 (by kernel_rfl) _ _ rfl tb 0 (by kernel_rfl) _ _ Tryz.underlying3 rfl (fun _ h=>cell_row h.1.row rfl)) hHeld ?_
      refine call_d9 29 (some 101) rfl (by kernel_rfl) (by kernel_rfl) (by kernel_rfl) 8 _ _ rfl #[.agg pcs.toArray,.int .i64 (jn:Int),.int .i64 (ni:Int)] (by kernel_rfl) (fun w=>by kernel_rfl) ?_
      refine (before_any pcs p (jn:Int) (ni:Int) _ hHeld.1.law.arg HPB.out HJN.out HNI.out).mono ?_
      rintro e V1 ⟨bb,rfl,hb,hbb⟩
      obtain rfl:=(befB_eq hbb).1 HBF.out
      clear hbb
      replace hHeld:=And.intro (hHeld.1.next hb) (hHeld.2.trans (hb.mono hHeld.2.size))
      refine ⟨_,rfl,hHeld,?_⟩
      refine tk0 30 (some 102) (v:=.bool false) rfl hHeld ?_
      refine tk0 31 (some 103) (v:=.bool false) rfl hHeld ?_
      refine wpAnyH_done (by kernel_rfl) ?_ _
      rename_i K0 a0
      change K0 _ _
      refine a0 _ _ (wp_cond_false (by kernel_rfl) ?_)
      have HT3:=Lib.hid hHeld.1
      have HB3:=Lib.hid (HB2.out.trans (hHeld.2.mono HB2.out.size))
      clear hHeld hb
      go_wp2
      go_roundw
      case rel=>exact ⟨d + 1,by go_num,by omega,HT3.out,HB3.out⟩
      case measure=>simp [intOf];omega
     ·have hltd':¬ (d:Int) < (na:Int):=by omega
      clear hltd hT2 hb2
      go_wp2
      go_roundw
      case rel=>exact ⟨c + 1,by go_num,by omega,HT2.out.law⟩
      case measure=>simp [intOf];omega
   ·have hlt':¬ (c:Int) < (T:Int):=by omega
    clear hL hlt hcT
    go_wp2_with fail
    have c6:=HL.out.cell HC6.out
    go_wp2_with fail
    clear c4 c6
    have HL0:=HL
    obtain ⟨w0,hw0⟩:∃ w0,w0 = wb:=⟨_,rfl⟩
    rw [← hw0] at HL HL0 ⊢
    clear hw0
    go_loopw [10,11] (fun a i wr=>∃ c n:Nat,i = .int .i64 c∧c ≤ M∧a = .int .i64 n∧n = (tasksD p.graph p.live (szD p.graph) c).length∧LawI w q pcs p wr) (fun _ i _=>M - (intOf i).toNat)
    case atStart=>exact ⟨0,0,rfl,Nat.zero_le _,rfl,rfl,HL.out⟩
    case round =>
     clear HL HL0
     obtain ⟨c,n,rfl,hcM,rfl,hn,hL⟩:=hrel
     obtain ⟨wx,rfl⟩:∃ wx,wx = wr:=⟨_,rfl⟩
     have HLX:=Lib.hid hL
     have HNN:=Lib.hid hn
     have c6:=hL.cell HC6.out
     have c4:=hL.cell HC4.out
     have hc0:(0:Int) ≤ (c:Int):=Int.natCast_nonneg _
     by_cases hlt2:c < M
     ·have hlt2':(c:Int) < (M:Int):=by omega
      have hrl:=HC.out.live hL.dat
      obtain ⟨lb,hlb⟩:∃ b,p.live[c]? = some b:=⟨_,List.getElem?_eq_getElem (by rw [HN.out.2.2.1];exact hlt2)⟩
      obtain ⟨bl,fl,rfl,hbl,hcl⟩:=bool_at hrl hlb
      have HLB:=Lib.hid hlb
      have HLT:=Lib.hid hlt2
      clear hL hn hrl hlb hbl hlt2 hcM
      cases lb with
      | false =>
       go_wp2
       go_roundw
       case rel=>exact ⟨c + 1,n,by go_num,HLT.out,rfl,by rw [tasksD_skip HLB.out];exact HNN.out,HLX.out⟩
       case measure=>simp [intOf];omega
      | true =>
       obtain ⟨post,hsp,hpo⟩:=tasks_split HT.out (live_lt HT.out HLB.out) HLB.out
       have hpos:=tasksOf_pos (gOp p.graph c) (szD p.graph c) (c:Int) (afterD p.graph (tasksD p.graph p.live (szD p.graph) c) (gIns p.graph c))
       have hlen:T = n + (tasksOf (gOp p.graph c) (szD p.graph c) (c:Int) (afterD p.graph (tasksD p.graph p.live (szD p.graph) c) (gIns p.graph c))).length + post.length:=by rw [← HN.out.2.1,hsp,List.length_append,List.length_append,HNN.out]
       obtain ⟨t1,ht1⟩:∃ t,(tasksOf (gOp p.graph c) (szD p.graph c) (c:Int) (afterD p.graph (tasksD p.graph p.live (szD p.graph) c) (gIns p.graph c)))[0]? = some t:=⟨_,List.getElem?_eq_getElem hpos⟩
       have hg1:=mid_get hsp ht1
       rw [← HNN.out,Nat.add_zero] at hg1
       have hnd:=(tasksOf_mem (List.mem_of_getElem? ht1)).1
       obtain ⟨bt,ft,A9,k9,rfl,hbt,hat,-⟩:=elem_task (HC.out.tasks HLX.out.dat) hg1
       have tk0:wx.cell? ⟨bt,ft + n * 4,none⟩ = some (.int .i64 t1.node):=hat 0 _ rfl
       rw [hnd] at tk0
       have hnT:(n:Int) < (T:Int):=by omega
       have hn0:(0:Int) ≤ (n:Int):=Int.natCast_nonneg _
       have HSP:=Lib.hid (And.intro hsp hpo)
       clear hsp hpo hpos hlen ht1 hg1 hnd hat hbt
       go_wp2_with fail
       clear hcl tk0 c4 c6
       obtain ⟨z,hz⟩:∃ z,p.graph.nodes[c]? = some z:=⟨_,List.getElem?_eq_getElem (live_lt HT.out HLB.out)⟩
       obtain ⟨bn,fn,zc,rfl,hbn,han,hrz⟩:=elem_node (HC.out.nodes HLX.out.dat) hz
       obtain ⟨ss,I1,i1,O1,o1,-,-,z38,-,-,-,zo,-⟩:=gnode_facts hrz
       obtain ⟨no,hno⟩:∃ n,z.outs.length = n:=⟨_,rfl⟩
       have hno1:=HT.out.outs z (List.mem_of_getElem? hz)
       obtain ⟨kk,hkk⟩:∃ k,z.outs[0]? = some k:=⟨_,List.getElem?_eq_getElem hno1⟩
       obtain ⟨kr0,kr1⟩:=HT.out.plan.sound.outs z (List.mem_of_getElem? hz) kk (List.mem_of_getElem? hkk)
       obtain ⟨j,rfl⟩:∃ j:Nat,kk = (j:Int):=⟨kk.toNat,by omega⟩
       obtain ⟨bo1,bo2⟩:=slice_bnd zo
       obtain ⟨-,bo,fo,rfl,hbo,hco⟩:=int_at zo hkk
       have h38:=han 38 _ z38
       rw [hno] at h38 hno1 bo1
       rw [HN.out.2.2.2.1] at kr1
       obtain ⟨v,hv⟩:∃ v,p.graph.vals[j]? = some v:=⟨_,List.getElem?_eq_getElem (by rw [HN.out.2.2.2.1];omega)⟩
       obtain ⟨bv,fv,vc,rfl,hbv,hav,hrv⟩:=elem_val (HC.out.vals HLX.out.dat) hv
       obtain ⟨D,kd,E2,e2,E3,e3,E4,e4,E5,e5,hvc,-,hrd,-⟩:=open_ValD hrv
       obtain ⟨nd1,nd2⟩:=slice_bnd hrd
       have hv1:=hav 1 (.slice D v.dims.length kd) (by rw [hvc];rfl)
       obtain ⟨sn,s2,hsz⟩:∃ (sn:Nat) (s2:Int),sizeD v.dims = ((sn:Int),s2):=⟨(sizeD v.dims).1.toNat,(sizeD v.dims).2,Prod.ext (by have:=size_bd v.dims;simp only;omega) rfl⟩
       have hsn:szD p.graph c = sn:=by
        have hgo:gOuts p.graph c = z.outs:=by unfold gOuts;rw [hz];rfl
        unfold szD
        rw [hgo,hkk]
        simp only [Option.getD_some,Int.toNat_natCast]
        rw [hv]
        simp only [Option.map_some,Option.getD_some]
        rw [hsz,Int.toNat_natCast]
       have HND:=Lib.hid (And.intro (show bn < q from hbn) h38)
       have HO0:=Lib.hid (And.intro (show bo < q from hbo) hco)
       have HVD:=Lib.hid (And.intro (show bv < q from hbv) hv1)
       have HRD:=Lib.hid hrd
       have HSZ:=Lib.hid hsz
       have HSN:=Lib.hid hsn
       have HNO:=Lib.hid (show 0 < no by omega)
       have HJV:=Lib.hid (show j < nv by omega)
       have HCN:=Lib.hid (show c < N by have:=HN.out.2.2.2.2;have:=HLT.out;omega)
       clear hz hbn han hrz z38 zo hno hno1 hkk kr0 kr1 hbo hco h38 hv hbv hav hrv hvc hrd hv1 hsz hsn
       go_upto_region 23 with (fail)
       have hdr:Below wx.heap.size wx wx.drew:=(Below.refl _ _).drew
       refine wp_region_held_drew (S:=fun W=>LawI w q pcs p W∧Below wx.heap.size wx W) (by kernel_rfl) ⟨HLX.out.next hdr,hdr⟩ (fun hHeld=>?_)
       clear hdr
       generalize World.drew _ = V0 at hHeld ⊢
       refine tk0 0 (some 133) (v:=.pointer (some ⟨q,0,none⟩)) rfl hHeld ?_
       refine tk0 1 (some 134) (v:=.pointer (some ⟨q,0,none⟩)) rfl hHeld ?_
       refine tk9 2 (some 135) (v:=.slice (some ⟨bv,fv,none⟩) nv k1) rfl (yields_load_one9 (by kernel_rfl) _ _ rfl q 0 (by kernel_rfl) _ _ Tryz.underlying22 rfl (fun _ h=>h.1.cell HC0.out)) hHeld ?_
       refine tk0 3 (some 136) (v:=.pointer (some ⟨q,0,none⟩)) rfl hHeld ?_
       refine tk0 4 (some 137) (v:=.pointer (some ⟨q,1,none⟩)) rfl hHeld ?_
       refine tk9 5 (some 138) (v:=.slice (some ⟨bn,fn,none⟩) N k2) rfl (yields_load_one9 (by kernel_rfl) _ _ rfl q 1 (by kernel_rfl) _ _ Tryz.underlying23 rfl (fun _ h=>h.1.cell HC1.out)) hHeld ?_
       refine tk0 6 (some 139) (v:=.int .i64 (c:Int)) rfl hHeld ?_
       refine tk9 7 (some 140) (v:=.pointer (some ⟨bn,fn + c * 40,none⟩)) rfl (yields_indexI (by kernel_rfl) _ _ _ rfl bn fn N k2 c 40 (c:Int) (by kernel_rfl) (by kernel_rfl) Tryz.underlying23 (by kernel_rfl) rfl HCN.out) hHeld ?_
       refine tk0 8 (some 141) (v:=.pointer (some ⟨bn,fn + c * 40 + 38,none⟩)) rfl hHeld ?_
       refine tk9 9 (some 142) (v:=.slice (some ⟨bo,fo,none⟩) no o1) rfl (yields_load_one9 (by kernel_rfl) _ _ rfl bn (fn + c * 40 + 38) (by kernel_rfl) _ _ Tryz.underlying24 rfl (fun _ h=>HLX.out.celO h.2 HND.out.1 HND.out.2)) hHeld ?_
       refine tk9 10 (some 143) (v:=.pointer (some ⟨bo,fo + 0,none⟩)) rfl (yields_idx (by kernel_rfl) _ _ rfl bo fo no o1 0 (by kernel_rfl) (by kernel_rfl) HNO.out) hHeld ?_
       refine tk9 11 (some 144) (v:=.int .i64 (j:Int)) rfl (yields_load_one9 (by kernel_rfl) _ _ rfl bo (fo + 0) (by kernel_rfl) _ _ Tryz.underlying3 rfl (fun _ h=>HLX.out.celO h.2 HO0.out.1 HO0.out.2)) hHeld ?_
       refine tk9 12 (some 145) (v:=.pointer (some ⟨bv,fv + j * 8,none⟩)) rfl (yields_indexI (by kernel_rfl) _ _ _ rfl bv fv nv k1 j 8 (j:Int) (by kernel_rfl) (by kernel_rfl) Tryz.underlying22 (by kernel_rfl) rfl HJV.out) hHeld ?_
       refine tk0 13 (some 146) (v:=.pointer (some ⟨bv,fv + j * 8 + 1,none⟩)) rfl hHeld ?_
       refine tk9 14 (some 147) (v:=.slice D v.dims.length kd) rfl (yields_load_one9 (by kernel_rfl) _ _ rfl bv (fv + j * 8 + 1) (by kernel_rfl) _ _ Tryz.underlying24 rfl (fun _ h=>HLX.out.celO h.2 HVD.out.1 HVD.out.2)) hHeld ?_
       refine call_d9 15 (some 148) rfl (by kernel_rfl) (by kernel_rfl) (by kernel_rfl) 9 _ _ rfl #[.slice D v.dims.length kd] (by kernel_rfl) (fun w=>by kernel_rfl) ?_
       refine (size4_any v.dims D kd _ (Rep.more (HLX.out.repO hHeld.2 HRD.out) (old_le (Nat.le_of_lt hHeld.1.lt)))).mono ?_
       rintro e V1 ⟨he,hV⟩
       rw [HSZ.out] at he
       subst he
       rw [hV]
       clear hV
       refine ⟨_,rfl,hHeld,?_⟩
       refine tk0 16 (some 132) (v:=.tuple #[.int .i64 (sn:Int),.int .i64 s2]) rfl hHeld ?_
       refine tk0 17 (some 149) (v:=.int .i64 (sn:Int)) rfl hHeld ?_
       refine tk0 18 (some 150) (v:=.int .i64 s2) rfl hHeld ?_
       refine tk0 19 (some 12) (v:=.int .i64 (sn:Int)) rfl hHeld ?_
       refine tk0 20 (some 13) (v:=.int .i64 s2) rfl hHeld ?_
       refine wpAnyH_done (by kernel_rfl) ?_ _
       have HL5:=Lib.hid hHeld.1
       clear hHeld
       simp [Act.put]
       go_wp2_with (with_reducible refine wpList_load_agg_w (by with_unfolding_all rfl) 31 _ rfl _ q 0 rfl pcs Tryz.underlying31 rfl HL5.out.size HL5.out.at ?_)
       have hs4:=szD_le p.graph c
       have hcov:=covers_any pcs p (gOp p.graph c) (szD p.graph c) c n _ _ post _ HL5.out.arg HSP.out.1 HSP.out.2 hs4 HNN.out.symm (by rw [HN.out.2.1];omega)
       rw [HSN.out] at hcov
       refine hcov.mono ?_
       rintro e w9 ⟨rfl,hb⟩
       have HL9:=Lib.hid (HL5.out.next hb)
       clear hb hcov hs4
       go_wp2
       go_roundw
       case rel=>exact ⟨c + 1,_,by go_num,HLT.out,rfl,by rw [tasksD_live HLB.out,List.length_append,← HNN.out,HSN.out],HL9.out⟩
       case measure=>have:=HLT.out;simp [intOf];omega
     ·have hlt2':¬ (c:Int) < (M:Int):=by omega
      have hnT:n = T:=by
       have e:c = p.graph.nodes.length:=by have:=HN.out.2.2.2.2;have:=HN.out.1;omega
       rw [hn,e,← HT.out.plan.tasks,HN.out.2.1]
      subst hnT
      clear hL hn hlt2 hcM
      go_wp2
      go_ret
      exact ⟨rfl,HLX.out.below⟩
 ·have h0':(x != 0) = true:=by simpa using h0
  have hp:=HP.out.1 h0
  subst hp
  clear h0 HP
  have c4:w3.cell? ⟨q,4,none⟩ = some (.slice A5 0 k5):=hL.cell HC.out.c4
  clear hL
  go_wp2
  go_ret
  exact ⟨rfl,HL.out.below⟩
end Go.Proofs.YtilobeohkomeoaaGreat
