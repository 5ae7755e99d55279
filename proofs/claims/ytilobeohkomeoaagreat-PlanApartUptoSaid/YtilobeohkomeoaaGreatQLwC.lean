/-
  Chapter 20: latticelaw20.covers. No condition.
-/
import Derived.Test.YtilobeohkomeoaaGreatQLwT
set_option linter.unusedSimpArgs false
set_option linter.unusedVariables false
namespace Go.Proofs.YtilobeohkomeoaaGreat
open Go.RowKit
open Rep (rep)
theorem tile_get {op:Int} {size:Nat} {i:Int} {aft:List Int} {c:Nat} (h:hasE op∧16 < size) (hc:c < (size + 15) / 16):(tasksOf op size i aft)[c]? = some ⟨i,((16 * c:Nat):Int),((min (16 * c + 16) size:Nat):Int),aft⟩:=by
 unfold tasksOf tilesD
 rw [if_neg (by rintro (h1 | h1);exact h1 h.1;omega),List.getElem?_map,List.getElem?_range hc]
 rfl
theorem tile_len {op:Int} {size:Nat} {i:Int} {aft:List Int} (h:hasE op∧16 < size):(tasksOf op size i aft).length = (size + 15) / 16:=by
 unfold tasksOf tilesD
 rw [if_neg (by rintro (h1 | h1);exact h1 h.1;omega),List.length_map,List.length_range]
theorem whole_one {op:Int} {size:Nat} {i:Int} {aft:List Int} (h:¬ (hasE op∧16 < size)):tasksOf op size i aft = [⟨i,0,-1,aft⟩]:=by
 unfold tasksOf
 rw [if_pos]
 by_cases h1:hasE op
 ·exact .inr (by have:¬ 16 < size:=fun h2=>h ⟨h1,h2⟩;omega)
 ·exact .inl h1
theorem mid_get {α:Type} {l pre mid post:List α} (h:l = pre++mid++post) {c:Nat} {x:α} (hx:mid[c]? = some x):l[pre.length + c]? = some x:=by
 have hc:=(List.getElem?_eq_some_iff.1 hx).1
 rw [h,List.append_assoc,List.getElem?_append_right (Nat.le_add_right _ _),Nat.add_sub_cancel_left,List.getElem?_append_left hc]
 exact hx
set_option maxRecDepth 100000 in
set_option maxHeartbeats 8000000 in
theorem covers_any (cs:List Value) (p:PlanD) (op:Int) (size i n:Nat) (aft:List Int) (pre post:List TaskD) (w:World) (hr:rep w (old w.heap.size) cs p) (hts:p.tasks = pre++tasksOf op size (i:Int) aft++post) (hpost:∀ t ∈ post,¬ t.node = (i:Int)) (hs:size ≤ 4096) (hn:pre.length = n) (hl:p.tasks.length ≤ 1000000000) :
  Calls Tryz.prog 10 #[.agg cs.toArray,.int .i64 n,.int .i64 size] w fun e w'=>e = .returned (.tuple #[.int .i64 ((n + (tasksOf op size (i:Int) aft).length:Nat):Int),.bool true])∧Below w.heap.size w w':=by
 obtain ⟨A2,k2,A5,k5,A7,k7,c1,c4,-,r2,r5,-⟩:=plan_at hr
 have hlen:p.tasks.length = n + (tasksOf op size (i:Int) aft).length + post.length:=by rw [hts,List.length_append,List.length_append,hn]
 have hpos:=tasksOf_pos op size (i:Int) aft
 obtain ⟨t0,ht0⟩:∃ t,(tasksOf op size (i:Int) aft)[0]? = some t:=⟨_,List.getElem?_eq_getElem hpos⟩
 have hg0:=mid_get hts ht0
 rw [hn,Nat.add_zero] at hg0
 have hnode:=(tasksOf_mem (List.mem_of_getElem? ht0)).1
 obtain ⟨bt,ft,A',k',rfl,hbt,hat,-⟩:=elem_task r5 hg0
 have e0:=hat 0 _ rfl
 have e1:=hat 1 _ rfl
 have e2:=hat 2 _ rfl
 rw [hnode] at e0
 have hnl:(n:Int) < (p.tasks.length:Int):=by omega
 have hn0:(0:Int) ≤ (n:Int):=Int.natCast_nonneg _
 obtain ⟨nt1,nt2⟩:=slice_bnd r5
 have HR:=Lib.hid hr
 have HC:=Lib.hid (And.intro c4 (show n < p.tasks.length by omega))
 have HT0:=Lib.hid (And.intro (show bt < w.heap.size from hbt) (And.intro e0 (And.intro e1 e2)))
 have HG:=Lib.hid (And.intro hts (And.intro hpost (And.intro hn (And.intro r5 (And.intro hlen (And.intro ht0 hs))))))
 clear hr hts hpost hn c1 c4 r2 r5 hg0 hnode hat e0 e1 e2 hlen hpos ht0 hs hbt
 obtain ⟨res,hres⟩:∃ res,n + (tasksOf op size (i:Int) aft).length = res:=⟨_,rfl⟩
 rw [hres]
 have HRES:=Lib.hid hres
 clear hres
 go_enter Tryz.func10,Tryz.ntmps10
 go_wp2_with (with_reducible refine wpList_box_row rfl 31 _ rfl cs rfl ?_;have hX:=plan_start HR.out;generalize World.alloc _ _ = W0 at hX ⊢;have HX:=Lib.hid hX;clear hX;refine halt ?_)
 unfold Halt
 have c4:=HX.out.cell HC.out.1
 have k0:=HX.out.old (q:=⟨bt,ft + n * 4,none⟩) HT0.out.1 HT0.out.2.1
 have k2:=HX.out.old (q:=⟨bt,ft + n * 4 + 2,none⟩) HT0.out.1 HT0.out.2.2.2
 by_cases hE:hasE op∧16 < size
 ·have HE:=Lib.hid hE
  have h0:t0 = ⟨(i:Int),0,16,aft⟩:=by
   have h1:=HG.out.2.2.2.2.2.1
   rw [tile_get hE (c:=0) (by omega),show min (16 * 0 + 16) size = 16 by omega] at h1
   exact (Option.some.inj h1).symm
  subst h0
  clear hE
  go_wp2_with fail
  clear k0 k2 c4
  go_loopw [1,9] (fun a lo wr=>∃ c m q:Nat,c ≤ (size + 15) / 16∧m = n + c∧q = min (16 * c) size∧a = .int .i64 (m:Int)∧lo = .int .i64 (q:Int)∧PlanI w cs p wr) (fun a _ _=>p.tasks.length - (intOf a).toNat)
  case atStart=>exact ⟨0,n,0,Nat.zero_le _,rfl,by omega,rfl,rfl,HX.out⟩
  case round =>
   clear HX
   obtain ⟨c,m,q,hc,hm,hq,rfl,rfl,hX⟩:=hrel
   obtain ⟨wb,rfl⟩:∃ wb,wb = wr:=⟨_,rfl⟩
   have HX:=Lib.hid hX
   have c4:=hX.cell HC.out.1
   clear hX
   have hln:p.tasks.length = n + (size + 15) / 16 + post.length:=by rw [HG.out.2.2.2.2.1,tile_len HE.out]
   have hs16:=HE.out.2
   have hs40:=HG.out.2.2.2.2.2.2
   have hk0:(0:Int) ≤ (m:Int):=Int.natCast_nonneg _
   by_cases hlt:c < (size + 15) / 16
   ·have hg:=mid_get HG.out.1 (tile_get (i:=(i:Int)) (aft:=aft) HE.out hlt)
    rw [HG.out.2.2.1,← hm,show min (16 * c + 16) size = min (16 * (c + 1)) size by omega,show 16 * c = q by omega] at hg
    obtain ⟨b',f',A9,k9,he,hb9,hat,-⟩:=elem_task HG.out.2.2.2.1 hg
    injection he with he
    injection he with he1 he2
    subst he1
    subst he2
    have hk1:(m:Int) < (p.tasks.length:Int):=by omega
    obtain ⟨u,hu⟩:∃ u,min (16 * (c + 1)) size = u:=⟨_,rfl⟩
    rw [hu] at hat
    have HAT:Hid (At wb bt (ft + m * 4) ([.int .i64 (i:Int),.int .i64 (q:Int),.int .i64 (u:Int),.slice A9 aft.length k9]:List Value)):=Lib.hid fun j u hu=>HX.out.old (q:=⟨bt,ft + m * 4 + j,none⟩) HT0.out.1 (hat j u hu)
    have ka:wb.cell? ⟨bt,ft + m * 4,none⟩ = some (.int .i64 (i:Int)):=HAT.out 0 _ rfl
    have hu1:¬ (u:Int) ≤ (q:Int):=by omega
    have hu2:¬ (u:Int) > (size:Int):=by omega
    have hu3:¬ (u:Int) - (q:Int) > 16:=by omega
    have hu4:(u:Int) ≤ 4096:=by omega
    have hu5:(q:Int) ≤ 4096:=by omega
    have hu6:(0:Int) ≤ (u:Int) - (q:Int):=by omega
    have HU:=Lib.hid (And.intro hu (And.intro hm (show c + 1 ≤ (size + 15) / 16 by omega)))
    have hZ:=laid_row wb 36 zeroTk ([.int .i64 (i:Int),.int .i64 (q:Int),.int .i64 (u:Int),.slice A9 aft.length k9]:List Value) rfl
    have HZ:=Lib.hid hZ
    clear hat hg hu hlt hc hln hm hq hZ
    go_wp2_with (first
     |(with_reducible refine wpList_load_agg rfl 36 _ rfl _ _ _ rfl ([.int .i64 (i:Int),.int .i64 (q:Int),.int .i64 (u:Int),.slice A9 aft.length k9]:List Value) Tryz.underlying36 rfl (by kernel_rfl) HAT.out ?_)
     |(with_reducible refine wpList_alloc_row rfl 36 rfl zeroTk zeroTk_zero ?_)
     |(with_reducible refine wpList_store_agg rfl 36 _ _ rfl _ 0 ([.int .i64 (i:Int),.int .i64 (q:Int),.int .i64 (u:Int),.slice A9 aft.length k9]:List Value) rfl rfl 36 zeroTk (heap_alloc_new _ _) (by kernel_rfl) (of_decide_eq_true (by kernel_rfl)) (by simp [Value.oneCell']) ?_;have hY:=HZ.out;generalize World.setRow _ _ _ = w5 at hY ⊢;have HY:=Lib.hid hY;clear hY;refine halt ?_))
    unfold Halt
    clear HZ
    obtain ⟨qb,hqb⟩:∃ q,wb.heap.size = q:=⟨_,rfl⟩
    have HX5:=Lib.hid (HX.out.next HY.out.1)
    have hrow:=HY.out.2.1
    rw [hqb] at hrow ⊢
    have t1:w5.cell? ⟨qb,1,none⟩ = some (.int .i64 (q:Int)):=cell_row hrow rfl
    have t2:w5.cell? ⟨qb,2,none⟩ = some (.int .i64 (u:Int)):=cell_row hrow rfl
    clear hrow hqb HY HX c4 ka
    go_wp2
    go_roundw
    case rel =>
     obtain ⟨h1,h2,h3⟩:=HU.out
     exact ⟨c + 1,m + 1,u,h3,by omega,h1.symm,by go_num,rfl,HX5.out⟩
    case measure=>simp [intOf];omega
   ·have hc':c = (size + 15) / 16:=by omega
    have hqs:q = size:=by omega
    have HM:Hid (m = n + (tasksOf op size (i:Int) aft).length):=Lib.hid (by rw [tile_len HE.out];omega)
    have HQS:=Lib.hid hqs
    cases post with
    | nil =>
     have hk1:¬ (m:Int) < (p.tasks.length:Int):=by simp at hln;omega
     subst hqs
     clear hln hc hlt hc' hm hq
     go_wp2
     go_ret2
     have hfin:m = res:=HM.out.trans HRES.out
     subst hfin
     exact ⟨rfl,HX.out.below⟩
    | cons t1 post =>
     have hg:p.tasks[m]? = some t1:=by rw [HG.out.1,List.getElem?_append_right (by rw [List.length_append,HG.out.2.2.1];have:=HM.out;omega),List.length_append,HG.out.2.2.1,HM.out,Nat.sub_self];rfl
     obtain ⟨b',f',A9,k9,he,hb9,hat,-⟩:=elem_task HG.out.2.2.2.1 hg
     injection he with he
     injection he with he1 he2
     subst he1
     subst he2
     have hk1:(m:Int) < (p.tasks.length:Int):=by simp at hln;omega
     have ka:wb.cell? ⟨bt,ft + m * 4,none⟩ = some (.int .i64 t1.node):=HX.out.old (q:=⟨bt,ft + m * 4,none⟩) HT0.out.1 (hat 0 _ rfl)
     have hne:¬ t1.node = (i:Int):=HG.out.2.1 t1 List.mem_cons_self
     subst hqs
     clear hln hc hlt hc' hm hq hg hat
     go_wp2
     go_ret2
     have hfin:m = res:=HM.out.trans HRES.out
     subst hfin
     exact ⟨rfl,HX.out.below⟩
 ·have h1:tasksOf op size (i:Int) aft = [⟨(i:Int),0,-1,aft⟩]:=whole_one hE
  have h0:t0 = ⟨(i:Int),0,-1,aft⟩:=by
   have h2:=HG.out.2.2.2.2.2.1
   rw [h1] at h2
   exact (Option.some.inj h2).symm
  subst h0
  have HL:=Lib.hid (show (tasksOf op size (i:Int) aft).length = 1 by rw [h1];rfl)
  have HT:=HT0
  clear h1 hE
  go_wp2_with fail
  go_upto_region 3 with (fail)
  refine wp_region_held_drew (S:=fun W=>PlanI w cs p W) (by kernel_rfl) (HX.out.next ((Below.refl _ _).drew)) (fun hHeld=>?_)
  generalize World.drew _ = V0 at hHeld ⊢
  refine tk0 0 (some 24) (v:=.int .i64 (n:Int)) rfl hHeld ?_
  refine tk9 1 (some 25) (v:=.int .i64 ((n:Int) + 1)) rfl (yields_addI (by kernel_rfl) _ _ _ _ rfl (n:Int) 1 (by kernel_rfl) (by kernel_rfl) (by kernel_rfl) (by omega) (by omega) (by omega)) hHeld ?_
  refine tk0 2 (some 26) (v:=.pointer (some ⟨w.heap.size,4,none⟩)) rfl hHeld ?_
  refine tk9 3 (some 27) (v:=.slice (some ⟨bt,ft,none⟩) p.tasks.length k5) rfl (yields_load_one9 (by kernel_rfl) _ _ rfl w.heap.size 4 (by kernel_rfl) _ _ Tryz.underlying28 rfl (fun _ h=>h.cell HC.out.1)) hHeld ?_
  refine tk0 4 (some 28) (v:=.int .i64 (n:Int)) rfl hHeld ?_
  refine tk9 5 (some 29) (v:=.pointer (some ⟨bt,ft + n * 4,none⟩)) rfl (yields_indexI (by kernel_rfl) _ _ _ rfl bt ft p.tasks.length k5 n 4 (n:Int) (by kernel_rfl) (by kernel_rfl) Tryz.underlying28 (by kernel_rfl) rfl HC.out.2) hHeld ?_
  refine tk0 6 (some 30) (v:=.pointer (some ⟨bt,ft + n * 4 + 1,none⟩)) rfl hHeld ?_
  refine tk9 7 (some 31) (v:=.int .i64 0) rfl (yields_load_one9 (by kernel_rfl) _ _ rfl bt (ft + n * 4 + 1) (by kernel_rfl) _ _ Tryz.underlying3 rfl (fun _ h=>h.old HT.out.1 HT.out.2.2.1)) hHeld ?_
  refine tk0 8 (some 32) (v:=.bool true) rfl hHeld ?_
  refine tk0 9 (some 6) (v:=.int .i64 ((n:Int) + 1)) rfl hHeld ?_
  refine tk0 10 (some 7) (v:=.bool true) rfl hHeld ?_
  refine wpAnyH_done (by kernel_rfl) ?_ _
  have HX1:=Lib.hid hHeld
  clear hHeld
  simp [Act.put]
  clear c4 k0 k2
  go_wp2
  go_ret2
  have hfin:n + 1 = res:=by rw [← HRES.out,HL.out]
  subst hfin
  exact ⟨rfl,HX1.out.below⟩
end Go.Proofs.YtilobeohkomeoaaGreat
