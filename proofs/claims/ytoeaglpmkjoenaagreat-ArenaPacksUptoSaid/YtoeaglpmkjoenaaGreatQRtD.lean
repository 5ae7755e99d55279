/-
  Chapter 20's document: who makes a value, is it dead ahead of another one, must two values not share memory? No condition.
-/
import Derived.Test.YtoeaglpmkjoenaaGreatQRtB
set_option linter.unusedSimpArgs false
set_option linter.unusedVariables false
namespace Go.Proofs.YtoeaglpmkjoenaaGreat
open Go.RowKit
open Rep (rep)
set_option maxRecDepth 100000 in
set_option maxHeartbeats 8000000 in
theorem rmaker_any20 (cs:List Value) (p:PlanD) (v:Int) (w:World) (hr:rep w (old w.heap.size) cs p) (hl:p.graph.nodes.length ≤ 1048576) :
  Calls Tryz.prog 42 #[.agg cs.toArray,.int .i64 v] w fun e w'=>e = .returned (.int .i64 (makerD p v))∧Below w.heap.size w w':=by
 obtain ⟨A2,k2,A5,k5,A7,k7,c1,-,-,r2,-,-⟩:=plan_at hr
 obtain ⟨n2,n2'⟩:=slice_bnd r2
 have HR:=Lib.hid hr
 have HC:=Lib.hid (And.intro c1 r2)
 clear hr c1 r2
 obtain ⟨n,hn⟩:∃ n,p.graph.nodes.length = n:=⟨_,rfl⟩
 have HN0:=Lib.hid hn
 rw [hn] at n2 hl
 clear hn
 go_enter Tryz.func42,Tryz.ntmps42
 go_wp2_with (with_reducible refine wpList_box_row rfl 30 _ rfl cs rfl ?_;have hX:=plan_start HR.out;generalize World.alloc _ _ = W0 at hX ⊢;have HX:=Lib.hid hX;clear hX;refine halt ?_)
 unfold Halt
 go_wp2_with fail
 go_loopw [5] (fun i wr=>∃ c:Nat,i = .int .i64 c∧c ≤ n∧Hid (PlanI w cs p wr∧∀ j,j < c→makes p v j = false)) (fun i _=>n - (intOf i).toNat)
 case atStart=>exact ⟨0,rfl,Nat.zero_le _,Lib.hid ⟨HX.out,by omega⟩⟩
 case round =>
  clear HX
  obtain ⟨c,rfl,hcl,HB⟩:=hrel
  obtain ⟨wb,rfl⟩:∃ wb,wb = wr:=⟨_,rfl⟩
  have HX:=Lib.hid HB.out.1
  have c1:=HX.out.cell HC.out.1
  rw [HN0.out] at c1
  by_cases hlt:c < n
  ·have hlt':(c:Int) < (n:Int):=by omega
   have hk0:(0:Int) ≤ (c:Int):=Int.natCast_nonneg _
   obtain ⟨z,hz⟩:∃ z,p.graph.nodes[c]? = some z:=⟨_,List.getElem?_eq_getElem (by rw [HN0.out];exact hlt)⟩
   obtain ⟨b,o,zc,rfl,hbB,hat,hrz⟩:=elem_node HC.out.2 hz
   obtain ⟨ss,I1,i1,O1,o1,-,-,z38,-,-,-,zo,-⟩:=gnode_facts hrz
   have HZ:=Lib.hid (And.intro (show b < w.heap.size from hbB) (And.intro (hat 38 _ z38) (And.intro zo (makes_eq (v:=v) hz))))
   clear hat z38 zo hrz hz hbB
   go_wp2_with (with_reducible refine wpList_load_agg_w (by with_unfolding_all rfl) 30 _ rfl _ w.heap.size 0 rfl cs Tryz.underlying30 rfl HX.out.size HX.out.at ?_)
   refine (rlive_any20 cs p c wb HX.out.arg).mono ?_
   rintro e w6 ⟨rfl,hb⟩
   have H6:=Lib.hid (HX.out.next hb)
   clear hb c1
   have c1:=H6.out.cell HC.out.1
   rw [HN0.out] at c1
   have c38:=H6.out.old HZ.out.1 HZ.out.2.1
   obtain ⟨lv,hlv⟩:∃ l,liveB p (c:Int) = l:=⟨_,rfl⟩
   rw [hlv]
   have HLV:=Lib.hid hlv
   clear hlv
   cases lv with
   | false =>
    go_wp2
    go_roundw
    case rel =>
     refine ⟨c + 1,by go_num,by omega,Lib.hid ⟨H6.out,fun j hj=>?_⟩⟩
     by_cases e:j = c
     ·rw [e,HZ.out.2.2.2,HLV.out];rfl
     ·exact HB.out.2 j (by omega)
    case measure=>simp [intOf];omega
   | true =>
    go_wp2_with fail
    refine (rhas_any20 (.slice O1 z.outs.length o1) z.outs v w6 (H6.out.dat HZ.out.2.2.1)).mono ?_
    rintro e w7 ⟨rfl,rfl⟩
    obtain ⟨ct,hct⟩:∃ x,z.outs.contains v = x:=⟨_,rfl⟩
    rw [hct]
    have HCT:=Lib.hid hct
    clear hct
    cases ct with
    | false =>
     go_wp2
     go_roundw
     case rel =>
      refine ⟨c + 1,by go_num,by omega,Lib.hid ⟨H6.out,fun j hj=>?_⟩⟩
      by_cases e:j = c
      ·rw [e,HZ.out.2.2.2,HLV.out,HCT.out];rfl
      ·exact HB.out.2 j (by omega)
     case measure=>simp [intOf];omega
    | true =>
     have HLT:=Lib.hid (show c < p.graph.nodes.length by rw [HN0.out];exact hlt)
     go_wp2
     go_ret
     exact ⟨by rw [makerD_at HLT.out HB.out.2 (by rw [HZ.out.2.2.2,HLV.out,HCT.out];rfl)];rfl,H6.out.below⟩
  ·have hlt':¬ (c:Int) < (n:Int):=by omega
   have HCE:=Lib.hid (show c = p.graph.nodes.length by rw [HN0.out];omega)
   go_wp2
   go_ret
   exact ⟨by rw [makerD_none (fun i hi=>HB.out.2 i (by have:=HCE.out;omega))];rfl,HX.out.below⟩
theorem plan_more {w:World} {Z:Zone} {cs:List Value} {p:PlanD} (h:rep w Z cs p):∃ A3 k3 A4 k4,cs[2]? = some (.slice A3 p.graph.inputs.length k3)∧cs[3]? = some (.slice A4 p.graph.outputs.length k4)∧rep w Z [.slice A3 p.graph.inputs.length k3] p.graph.inputs∧rep w Z [.slice A4 p.graph.outputs.length k4] p.graph.outputs:=by
 obtain ⟨A1,k1,A2,k2,A3,k3,A4,k4,A5,k5,A6,k6,A7,k7,hcs,r1,r2,r3,r4,r5,r6,r7⟩:=open_PlanD h
 exact ⟨A3,k3,A4,k4,by rw [hcs];rfl,by rw [hcs];rfl,r3,r4⟩
theorem bef_makers {p:PlanD} {m n:Int} (hm:liveAt p m.toNat) (hn:liveAt p n.toNat) (h0:0 ≤ m) (h1:0 ≤ n) (h2:m < p.graph.nodes.length) (h3:n < p.graph.nodes.length):BeforeD p m n ↔ Behind p m.toNat n.toNat :=
 ⟨fun ⟨i,j,e1,e2,_,_,_,_,h⟩=>by subst e1 e2;exact h,fun h=>⟨m.toNat,n.toNat,by omega,by omega,by omega,by omega,hm,hn,h⟩⟩
theorem uses_eq {p:PlanD} {v:Int} {i:Nat} {z:GNodeD} (hz:p.graph.nodes[i]? = some z):UsesD p v i ↔ liveB p (i:Int) = true∧z.ins.contains v = true:=by
 unfold UsesD gIns
 rw [hz,liveB_nat]
 simp
set_option maxRecDepth 100000 in
set_option maxHeartbeats 8000000 in
theorem rdead_any20 (cs:List Value) (p:PlanD) (x y:Int) (w:World) (hr:rep w (old w.heap.size) cs p) (hl:p.graph.nodes.length ≤ 1048576) :
  Calls Tryz.prog 23 #[.agg cs.toArray,.int .i64 x,.int .i64 y] w (BoolP w (DeadB p x y)):=by
 obtain ⟨A2,k2,A5,k5,A7,k7,c1,-,-,r2,-,-⟩:=plan_at hr
 obtain ⟨A3,k3,A4,k4,c2,c3,r3,r4⟩:=plan_more hr
 obtain ⟨n2,n2'⟩:=slice_bnd r2
 have HR:=Lib.hid hr
 have HC:=Lib.hid (And.intro c1 (And.intro r2 (And.intro c2 (And.intro c3 (And.intro r3 r4)))))
 clear hr c1 r2 c2 c3 r3 r4
 obtain ⟨n,hn⟩:∃ n,p.graph.nodes.length = n:=⟨_,rfl⟩
 have HN0:=Lib.hid hn
 have HL:=Lib.hid hl
 rw [hn] at n2 hl
 clear hn
 go_enter Tryz.func23,Tryz.ntmps23
 go_wp2_with (with_reducible refine wpList_box_row rfl 30 _ rfl cs rfl ?_;have hX:=plan_start HR.out;generalize World.alloc _ _ = W0 at hX ⊢;have HX:=Lib.hid hX;clear hX;refine halt ?_)
 unfold Halt
 go_wp2_with (with_reducible refine wpList_load_agg_w (by with_unfolding_all rfl) 30 _ rfl _ w.heap.size 0 rfl cs Tryz.underlying30 rfl HX.out.size HX.out.at ?_)
 refine (rmaker_any20 cs p y W0 HX.out.arg HL.out).mono ?_
 rintro e w1 ⟨rfl,hb1⟩
 replace HX:=Lib.hid (HX.out.next hb1)
 clear hb1
 have hbd:=makerD_bd p y
 obtain ⟨my,hmy⟩:∃ m,makerD p y = m:=⟨_,rfl⟩
 rw [hmy] at hbd ⊢
 have HMY:=Lib.hid hmy
 rw [HN0.out] at hbd
 clear hmy
 by_cases h0:my < 0
 ·have HN:=Lib.hid (show ¬ DeadD p x y from fun h=>by have:=h.1;rw [HMY.out] at this;omega)
  go_wp2
  go_ret
  exact ⟨false,rfl,HX.out.below,deadB_no HN.out⟩
 have c3:=HX.out.cell HC.out.2.2.2.1
 go_wp2_with fail
 refine (rhas_any20 (.slice A4 p.graph.outputs.length k4) p.graph.outputs x w1 (HX.out.dat HC.out.2.2.2.2.2)).mono ?_
 rintro e w2 ⟨rfl,rfl⟩
 clear c3
 obtain ⟨ho,hho⟩:∃ b,p.graph.outputs.contains x = b:=⟨_,rfl⟩
 rw [hho]
 have HHO:=Lib.hid hho
 clear hho
 cases ho with
 | true =>
  have HN:=Lib.hid (show ¬ DeadD p x y from fun h=>h.2.1 (List.contains_iff_mem.1 HHO.out))
  go_wp2
  go_ret
  exact ⟨false,rfl,HX.out.below,deadB_no HN.out⟩
 | false =>
 have HOUT:=Lib.hid (show x ∉ p.graph.outputs from fun h=>by have:=List.contains_iff_mem.2 h;rw [HHO.out] at this;cases this)
 go_wp2_with (with_reducible refine wpList_load_agg_w (by with_unfolding_all rfl) 30 _ rfl _ w.heap.size 0 rfl cs Tryz.underlying30 rfl HX.out.size HX.out.at ?_)
 refine (rmaker_any20 cs p x _ HX.out.arg HL.out).mono ?_
 rintro e w3 ⟨rfl,hb3⟩
 replace HX:=Lib.hid (HX.out.next hb3)
 clear hb3
 have hbx:=makerD_bd p x
 obtain ⟨mx,hmx⟩:∃ m,makerD p x = m:=⟨_,rfl⟩
 rw [hmx] at hbx ⊢
 have HMX:=Lib.hid hmx
 rw [HN0.out] at hbx
 clear hmx
 have HLY:=Lib.hid (show 0 ≤ my∧my < p.graph.nodes.length∧liveAt p my.toNat from ⟨by omega,by rw [HN0.out];omega,by have:=(makerD_some (p:=p) (v:=y) (by rw [HMY.out];omega)).1;rw [HMY.out] at this;exact this⟩)
 have HYI:Hid (I64 my):=Lib.hid (by unfold I64;omega)
 have HXI:Hid (I64 mx):=Lib.hid (by unfold I64;omega)
 have HGO:Hid (0 ≤ mx→liveAt p mx.toNat):=Lib.hid fun h=>by have:=(makerD_some (p:=p) (v:=x) (by rw [HMX.out];exact h)).1;rw [HMX.out] at this;exact this
 by_cases hm0:mx ≥ 0
 ·have hm1:¬ mx < 0:=by omega
  go_wp2_with (with_reducible refine wpList_load_agg_w (by with_unfolding_all rfl) 30 _ rfl _ w.heap.size 0 rfl cs Tryz.underlying30 rfl HX.out.size HX.out.at ?_)
  refine (rbefore_any20 cs p mx my _ HX.out.arg HL.out HXI.out HYI.out).mono ?_
  rintro e w4 ⟨b4,rfl,hb4,hB4⟩
  replace HX:=Lib.hid (HX.out.next hb4)
  have HBF:=Lib.hid (show b4 = true ↔ Behind p mx.toNat my.toNat from hB4.trans (bef_makers (HGO.out (by omega)) HLY.out.2.2 (by omega) HLY.out.1 (by rw [HN0.out];omega) HLY.out.2.1))
  clear hb4 hB4
  cases b4 with
  | false =>
   have HN:=Lib.hid (show ¬ DeadD p x y from fun h=>by
    have:=h.2.2.2.1 (by rw [HMX.out];omega)
    rw [HMX.out,HMY.out] at this
    have:=HBF.out.2 this
    cases this)
   go_wp2
   go_ret
   exact ⟨false,rfl,HX.out.below,deadB_no HN.out⟩
  | true =>
   have HD0:=Lib.hid (show (mx < 0→x ∈ p.graph.inputs)∧(0 ≤ mx→Behind p mx.toNat my.toNat) from ⟨fun h=>by omega,fun _=>HBF.out.1 rfl⟩)
   go_wp2_with fail
   go_loopw [9] (fun i wr=>∃ c:Nat,i = .int .i64 c∧c ≤ n∧Hid (PlanI w cs p wr∧∀ j,j < c→UsesD p x j→Behind p j my.toNat)) (fun i _=>n - (intOf i).toNat)
   case atStart=>exact ⟨0,rfl,Nat.zero_le _,Lib.hid ⟨HX.out,by omega⟩⟩
   case round =>
    clear HX
    obtain ⟨c,rfl,hcl,HB⟩:=hrel
    obtain ⟨wb,rfl⟩:∃ wb,wb = wr:=⟨_,rfl⟩
    have HX:=Lib.hid HB.out.1
    have c1:=HX.out.cell HC.out.1
    rw [HN0.out] at c1
    by_cases hlt:c < n
    ·have hlt':(c:Int) < (n:Int):=by omega
     have hk0:(0:Int) ≤ (c:Int):=Int.natCast_nonneg _
     obtain ⟨z,hz⟩:∃ z,p.graph.nodes[c]? = some z:=⟨_,List.getElem?_eq_getElem (by rw [HN0.out];exact hlt)⟩
     obtain ⟨b,o,zc,rfl,hbB,hat,hrz⟩:=elem_node HC.out.2.1 hz
     obtain ⟨ss,I1,i1,O1,o1,-,z37,-,-,-,zi,-,-⟩:=gnode_facts hrz
     have HZ:=Lib.hid (And.intro (show b < w.heap.size from hbB) (And.intro (hat 37 _ z37) (And.intro zi (uses_eq (v:=x) hz))))
     clear hat z37 zi hrz hz hbB
     go_wp2_with (with_reducible refine wpList_load_agg_w (by with_unfolding_all rfl) 30 _ rfl _ w.heap.size 0 rfl cs Tryz.underlying30 rfl HX.out.size HX.out.at ?_)
     refine (rlive_any20 cs p c wb HX.out.arg).mono ?_
     rintro e w6 ⟨rfl,hb⟩
     have H6:=Lib.hid (HX.out.next hb)
     clear hb c1
     have c1:=H6.out.cell HC.out.1
     rw [HN0.out] at c1
     have c37:=H6.out.old HZ.out.1 HZ.out.2.1
     obtain ⟨lv,hlv⟩:∃ l,liveB p (c:Int) = l:=⟨_,rfl⟩
     rw [hlv]
     have HLV:=Lib.hid hlv
     clear hlv
     cases lv with
     | false =>
      go_wp2
      go_roundw
      case rel =>
       refine ⟨c + 1,by go_num,by omega,Lib.hid ⟨H6.out,fun j hj hu=>?_⟩⟩
       by_cases e:j = c
       ·rw [e] at hu
        have:=(HZ.out.2.2.2.1 hu).1
        rw [HLV.out] at this
        cases this
       ·exact HB.out.2 j (by omega) hu
      case measure=>simp [intOf];omega
     | true =>
      go_wp2_with fail
      refine (rhas_any20 (.slice I1 z.ins.length i1) z.ins x w6 (H6.out.dat HZ.out.2.2.1)).mono ?_
      rintro e w7 ⟨rfl,rfl⟩
      obtain ⟨ct,hct⟩:∃ q,z.ins.contains x = q:=⟨_,rfl⟩
      rw [hct]
      have HCT:=Lib.hid hct
      clear hct
      cases ct with
      | false =>
       go_wp2
       go_roundw
       case rel =>
        refine ⟨c + 1,by go_num,by omega,Lib.hid ⟨H6.out,fun j hj hu=>?_⟩⟩
        by_cases e:j = c
        ·rw [e] at hu
         have:=(HZ.out.2.2.2.1 hu).2
         rw [HCT.out] at this
         cases this
        ·exact HB.out.2 j (by omega) hu
       case measure=>simp [intOf];omega
      | true =>
       have HU:=Lib.hid (HZ.out.2.2.2.2 ⟨HLV.out,HCT.out⟩)
       have HCI:Hid (I64 (c:Int)):=Lib.hid (by unfold I64;omega)
       go_wp2_with (with_reducible refine wpList_load_agg_w (by with_unfolding_all rfl) 30 _ rfl _ w.heap.size 0 rfl cs Tryz.underlying30 rfl H6.out.size H6.out.at ?_)
       refine (rbefore_any20 cs p c my _ H6.out.arg HL.out HCI.out HYI.out).mono ?_
       rintro e w8 ⟨b8,rfl,hb8,hB8⟩
       have H8:=Lib.hid (H6.out.next hb8)
       have HBF8:=Lib.hid (show b8 = true ↔ Behind p c my.toNat from hB8.trans (by
        have h:=bef_makers (p:=p) (m:=(c:Int)) (n:=my) (by rw [Int.toNat_natCast];exact HU.out.1) HLY.out.2.2 (by omega) HLY.out.1 (by rw [HN0.out];omega) HLY.out.2.1
        rw [Int.toNat_natCast] at h
        exact h))
       clear hb8 hB8
       cases b8 with
       | false =>
        have HN:=Lib.hid (show ¬ DeadD p x y from fun h=>by
         have:=h.2.2.2.2 c HU.out
         rw [HMY.out] at this
         have:=HBF8.out.2 this
         cases this)
        go_wp2
        go_ret
        exact ⟨false,rfl,H8.out.below,deadB_no HN.out⟩
       | true =>
        go_wp2
        go_roundw
        case rel =>
         refine ⟨c + 1,by go_num,by omega,Lib.hid ⟨H8.out,fun j hj hu=>?_⟩⟩
         by_cases e:j = c
         ·rw [e];exact HBF8.out.1 (by first | rfl | trivial)
         ·exact HB.out.2 j (by omega) hu
        case measure=>simp [intOf];omega
    ·have hlt':¬ (c:Int) < (n:Int):=by omega
     have HD:=Lib.hid (show DeadD p x y by
      refine ⟨by rw [HMY.out];exact HLY.out.1,HOUT.out,by rw [HMX.out];exact HD0.out.1,by rw [HMX.out,HMY.out];exact HD0.out.2,fun u hu=>?_⟩
      rw [HMY.out]
      obtain ⟨z,hz,-⟩:=gIns_mem hu.2
      have:=(List.getElem?_eq_some_iff.1 hz).1
      rw [HN0.out] at this
      exact HB.out.2 u (by omega) hu)
     go_wp2
     go_ret
     exact ⟨true,rfl,HX.out.below,⟨fun _=>HD.out,fun _=>rfl⟩⟩
 ·have hm1:mx < 0:=by omega
  have c2:=HX.out.cell HC.out.2.2.1
  go_wp2_with fail
  refine (rhas_any20 (.slice A3 p.graph.inputs.length k3) p.graph.inputs x w3 (HX.out.dat HC.out.2.2.2.2.1)).mono ?_
  rintro e w4 ⟨rfl,rfl⟩
  clear c2
  obtain ⟨hi,hhi⟩:∃ b,p.graph.inputs.contains x = b:=⟨_,rfl⟩
  rw [hhi]
  have HHI:=Lib.hid hhi
  clear hhi
  cases hi with
  | false =>
   have HN:=Lib.hid (show ¬ DeadD p x y from fun h=>by
    have:=List.contains_iff_mem.2 (h.2.2.1 (by rw [HMX.out];omega))
    rw [HHI.out] at this
    cases this)
   go_wp2
   go_ret
   exact ⟨false,rfl,HX.out.below,deadB_no HN.out⟩
  | true =>
   have HD0:=Lib.hid (show (mx < 0→x ∈ p.graph.inputs)∧(0 ≤ mx→Behind p mx.toNat my.toNat) from ⟨fun _=>List.contains_iff_mem.1 HHI.out,fun h=>by omega⟩)
   go_wp2_with fail
   go_loopw [9] (fun i wr=>∃ c:Nat,i = .int .i64 c∧c ≤ n∧Hid (PlanI w cs p wr∧∀ j,j < c→UsesD p x j→Behind p j my.toNat)) (fun i _=>n - (intOf i).toNat)
   case atStart=>exact ⟨0,rfl,Nat.zero_le _,Lib.hid ⟨HX.out,by omega⟩⟩
   case round =>
    clear HX
    obtain ⟨c,rfl,hcl,HB⟩:=hrel
    obtain ⟨wb,rfl⟩:∃ wb,wb = wr:=⟨_,rfl⟩
    have HX:=Lib.hid HB.out.1
    have c1:=HX.out.cell HC.out.1
    rw [HN0.out] at c1
    by_cases hlt:c < n
    ·have hlt':(c:Int) < (n:Int):=by omega
     have hk0:(0:Int) ≤ (c:Int):=Int.natCast_nonneg _
     obtain ⟨z,hz⟩:∃ z,p.graph.nodes[c]? = some z:=⟨_,List.getElem?_eq_getElem (by rw [HN0.out];exact hlt)⟩
     obtain ⟨b,o,zc,rfl,hbB,hat,hrz⟩:=elem_node HC.out.2.1 hz
     obtain ⟨ss,I1,i1,O1,o1,-,z37,-,-,-,zi,-,-⟩:=gnode_facts hrz
     have HZ:=Lib.hid (And.intro (show b < w.heap.size from hbB) (And.intro (hat 37 _ z37) (And.intro zi (uses_eq (v:=x) hz))))
     clear hat z37 zi hrz hz hbB
     go_wp2_with (with_reducible refine wpList_load_agg_w (by with_unfolding_all rfl) 30 _ rfl _ w.heap.size 0 rfl cs Tryz.underlying30 rfl HX.out.size HX.out.at ?_)
     refine (rlive_any20 cs p c wb HX.out.arg).mono ?_
     rintro e w6 ⟨rfl,hb⟩
     have H6:=Lib.hid (HX.out.next hb)
     clear hb c1
     have c1:=H6.out.cell HC.out.1
     rw [HN0.out] at c1
     have c37:=H6.out.old HZ.out.1 HZ.out.2.1
     obtain ⟨lv,hlv⟩:∃ l,liveB p (c:Int) = l:=⟨_,rfl⟩
     rw [hlv]
     have HLV:=Lib.hid hlv
     clear hlv
     cases lv with
     | false =>
      go_wp2
      go_roundw
      case rel =>
       refine ⟨c + 1,by go_num,by omega,Lib.hid ⟨H6.out,fun j hj hu=>?_⟩⟩
       by_cases e:j = c
       ·rw [e] at hu
        have:=(HZ.out.2.2.2.1 hu).1
        rw [HLV.out] at this
        cases this
       ·exact HB.out.2 j (by omega) hu
      case measure=>simp [intOf];omega
     | true =>
      go_wp2_with fail
      refine (rhas_any20 (.slice I1 z.ins.length i1) z.ins x w6 (H6.out.dat HZ.out.2.2.1)).mono ?_
      rintro e w7 ⟨rfl,rfl⟩
      obtain ⟨ct,hct⟩:∃ q,z.ins.contains x = q:=⟨_,rfl⟩
      rw [hct]
      have HCT:=Lib.hid hct
      clear hct
      cases ct with
      | false =>
       go_wp2
       go_roundw
       case rel =>
        refine ⟨c + 1,by go_num,by omega,Lib.hid ⟨H6.out,fun j hj hu=>?_⟩⟩
        by_cases e:j = c
        ·rw [e] at hu
         have:=(HZ.out.2.2.2.1 hu).2
         rw [HCT.out] at this
         cases this
        ·exact HB.out.2 j (by omega) hu
       case measure=>simp [intOf];omega
      | true =>
       have HU:=Lib.hid (HZ.out.2.2.2.2 ⟨HLV.out,HCT.out⟩)
       have HCI:Hid (I64 (c:Int)):=Lib.hid (by unfold I64;omega)
       go_wp2_with (with_reducible refine wpList_load_agg_w (by with_unfolding_all rfl) 30 _ rfl _ w.heap.size 0 rfl cs Tryz.underlying30 rfl H6.out.size H6.out.at ?_)
       refine (rbefore_any20 cs p c my _ H6.out.arg HL.out HCI.out HYI.out).mono ?_
       rintro e w8 ⟨b8,rfl,hb8,hB8⟩
       have H8:=Lib.hid (H6.out.next hb8)
       have HBF8:=Lib.hid (show b8 = true ↔ Behind p c my.toNat from hB8.trans (by
        have h:=bef_makers (p:=p) (m:=(c:Int)) (n:=my) (by rw [Int.toNat_natCast];exact HU.out.1) HLY.out.2.2 (by omega) HLY.out.1 (by rw [HN0.out];omega) HLY.out.2.1
        rw [Int.toNat_natCast] at h
        exact h))
       clear hb8 hB8
       cases b8 with
       | false =>
        have HN:=Lib.hid (show ¬ DeadD p x y from fun h=>by
         have:=h.2.2.2.2 c HU.out
         rw [HMY.out] at this
         have:=HBF8.out.2 this
         cases this)
        go_wp2
        go_ret
        exact ⟨false,rfl,H8.out.below,deadB_no HN.out⟩
       | true =>
        go_wp2
        go_roundw
        case rel =>
         refine ⟨c + 1,by go_num,by omega,Lib.hid ⟨H8.out,fun j hj hu=>?_⟩⟩
         by_cases e:j = c
         ·rw [e];exact HBF8.out.1 (by first | rfl | trivial)
         ·exact HB.out.2 j (by omega) hu
        case measure=>simp [intOf];omega
    ·have hlt':¬ (c:Int) < (n:Int):=by omega
     have HD:=Lib.hid (show DeadD p x y by
      refine ⟨by rw [HMY.out];exact HLY.out.1,HOUT.out,by rw [HMX.out];exact HD0.out.1,by rw [HMX.out,HMY.out];exact HD0.out.2,fun u hu=>?_⟩
      rw [HMY.out]
      obtain ⟨z,hz,-⟩:=gIns_mem hu.2
      have:=(List.getElem?_eq_some_iff.1 hz).1
      rw [HN0.out] at this
      exact HB.out.2 u (by omega) hu)
     go_wp2
     go_ret
     exact ⟨true,rfl,HX.out.below,⟨fun _=>HD.out,fun _=>rfl⟩⟩
set_option maxRecDepth 100000 in
set_option maxHeartbeats 8000000 in
theorem rapart_any20 (cs:List Value) (p:PlanD) (x y:Int) (w:World) (hr:rep w (old w.heap.size) cs p) (hl:p.graph.nodes.length ≤ 1048576) :
  Calls Tryz.prog 10 #[.agg cs.toArray,.int .i64 x,.int .i64 y] w (BoolP w (ApB p x y)):=by
 have HR:=Lib.hid hr
 have HL:=Lib.hid hl
 clear hr hl
 go_enter Tryz.func10,Tryz.ntmps10
 go_wp2_with (with_reducible refine wpList_box_row rfl 30 _ rfl cs rfl ?_;have hX:=plan_start HR.out;generalize World.alloc _ _ = W0 at hX ⊢;have HX:=Lib.hid hX;clear hX;refine halt ?_)
 unfold Halt
 by_cases g1:x = y
 ·have HN:=Lib.hid (show ¬ ApartD p x y from fun e=>e.1 g1)
  subst g1
  go_wp2
  go_ret
  exact ⟨false,rfl,HX.out.below,apB_no HN.out⟩
 have g1':(x == y) = false:=beq_eq_false_iff_ne.2 g1
 have HNE:=Lib.hid g1
 clear g1
 go_wp2_with (with_reducible refine wpList_load_agg_w (by with_unfolding_all rfl) 30 _ rfl _ w.heap.size 0 rfl cs Tryz.underlying30 rfl HX.out.size HX.out.at ?_)
 refine (rsized_any20 cs p x W0 HX.out.arg).mono ?_
 rintro e w1 ⟨s1,rfl,hb1,h1⟩
 replace HX:=Lib.hid (HX.out.next hb1)
 have H1:=Lib.hid h1
 clear h1 hb1
 cases s1 with
 | false =>
  have HN:=Lib.hid (show ¬ ApartD p x y from fun e=>by have:=H1.out.2 e.2.1;cases this)
  go_wp2
  go_ret
  exact ⟨false,rfl,HX.out.below,apB_no HN.out⟩
 | true =>
 go_wp2_with (with_reducible refine wpList_load_agg_w (by with_unfolding_all rfl) 30 _ rfl _ w.heap.size 0 rfl cs Tryz.underlying30 rfl HX.out.size HX.out.at ?_)
 refine (rsized_any20 cs p y w1 HX.out.arg).mono ?_
 rintro e w2 ⟨s2,rfl,hb2,h2⟩
 replace HX:=Lib.hid (HX.out.next hb2)
 have H2:=Lib.hid h2
 clear h2 hb2
 cases s2 with
 | false =>
  have HN:=Lib.hid (show ¬ ApartD p x y from fun e=>by have:=H2.out.2 e.2.2.1;cases this)
  go_wp2
  go_ret
  exact ⟨false,rfl,HX.out.below,apB_no HN.out⟩
 | true =>
 go_wp2_with (with_reducible refine wpList_load_agg_w (by with_unfolding_all rfl) 30 _ rfl _ w.heap.size 0 rfl cs Tryz.underlying30 rfl HX.out.size HX.out.at ?_)
 refine (rdead_any20 cs p x y w2 HX.out.arg HL.out).mono ?_
 rintro e w3 ⟨s3,rfl,hb3,h3⟩
 replace HX:=Lib.hid (HX.out.next hb3)
 have H3:=Lib.hid h3
 clear h3 hb3
 cases s3 with
 | true =>
  have HN:=Lib.hid (show ¬ ApartD p x y from fun e=>e.2.2.2.1 (H3.out.1 rfl))
  go_wp2
  go_ret
  exact ⟨false,rfl,HX.out.below,apB_no HN.out⟩
 | false =>
 go_wp2_with (with_reducible refine wpList_load_agg_w (by with_unfolding_all rfl) 30 _ rfl _ w.heap.size 0 rfl cs Tryz.underlying30 rfl HX.out.size HX.out.at ?_)
 refine (rdead_any20 cs p y x w3 HX.out.arg HL.out).mono ?_
 rintro e w4 ⟨s4,rfl,hb4,h4⟩
 replace HX:=Lib.hid (HX.out.next hb4)
 have H4:=Lib.hid h4
 clear h4 hb4
 cases s4 with
 | true =>
  have HN:=Lib.hid (show ¬ ApartD p x y from fun e=>e.2.2.2.2 (H4.out.1 rfl))
  go_wp2
  go_ret
  exact ⟨false,rfl,HX.out.below,apB_no HN.out⟩
 | false =>
  have HY:=Lib.hid (show ApartD p x y from ⟨HNE.out,H1.out.1 rfl,H2.out.1 rfl,fun e=>(by have:=H3.out.2 e;cases this),fun e=>(by have:=H4.out.2 e;cases this)⟩)
  go_wp2
  go_ret
  exact ⟨true,rfl,HX.out.below,⟨fun _=>HY.out,fun _=>rfl⟩⟩
end Go.Proofs.YtoeaglpmkjoenaaGreat
