/-
  Chapter 20: who makes a value; is one value dead ahead of another; must two values not share memory? No condition.
-/
/-
  Chapter 20: must two values not share memory? No condition.
-/
/-
  Chapter 21: the arena of a plan, value by value. No program in sight.
-/
import Derived.Test.YtoeaglpmkjoenaaGreatQBefD
import Derived.Test.YtoeaglpmkjoenaaGreatQGRows
set_option linter.unusedSimpArgs false
set_option linter.unusedVariables false
namespace Go.Proofs.YtoeaglpmkjoenaaGreat
open Go.RowKit
open Rep (rep)
def makes (p:PlanD) (v:Int) (i:Nat):Bool:=p.live[i]? == some true && (gOuts p.graph i).contains v
theorem makes_eq {p:PlanD} {v:Int} {i:Nat} {z:GNodeD} (hz:p.graph.nodes[i]? = some z):makes p v i = (liveB p (i:Int) && z.outs.contains v):=by
 unfold makes gOuts
 rw [hz]
 have:(p.live[i]? == some true) = liveB p (i:Int):=by
  cases h:liveB p (i:Int) with
  | true=>have h2:=(liveB_nat p i).1 h;unfold liveAt at h2;rw [h2];rfl
  | false =>
   rw [beq_eq_false_iff_ne]
   intro e
   have:=(liveB_nat p i).2 e
   rw [h] at this
   cases this
 rw [this]
 rfl
theorem makerD_none {p:PlanD} {v:Int} (h:∀ i,i < p.graph.nodes.length→makes p v i = false):makerD p v = -1:=by
 unfold makerD
 rw [List.find?_eq_none.2 fun i hi=>by have:=h i (List.mem_range.1 hi);unfold makes at this;rw [this];decide]
theorem makerD_at {p:PlanD} {v:Int} {c:Nat} (hc:c < p.graph.nodes.length) (h:∀ i,i < c→makes p v i = false) (hm:makes p v c = true):makerD p v = (c:Int):=by
 unfold makerD
 have:(List.range p.graph.nodes.length).find? (fun i=>p.live[i]? == some true && (gOuts p.graph i).contains v) = some c:=by
  rw [List.find?_range_eq_some]
  exact ⟨hm,List.mem_range.2 hc,fun j hj=>by have:=h j hj;unfold makes at this;rw [this];rfl⟩
 rw [this]
theorem makerD_bd (p:PlanD) (v:Int):-1 ≤ makerD p v∧makerD p v < p.graph.nodes.length:=by
 unfold makerD
 split
 ·rename_i i h
  have:=List.mem_range.1 (List.mem_of_find?_eq_some h)
  omega
 ·omega
theorem FlowI.see {w W:World} {n fb:Nat} {p:PlanD} (h:FlowI w n fb p W):∃ (cs:List Value) (mb k k1 k2 k3 k4:Nat) (A1 A2 A3 A4:Option Addr),W.heap[fb]? = some (.cells (cs++[Value.map (some mb)]).toArray 95 (0,0))∧rep W (old n) cs p∧cs.length = 7 ∧
  cs[1]? = some (.slice A2 p.graph.nodes.length k2)∧cs[2]? = some (.slice A3 p.graph.inputs.length k3)∧cs[3]? = some (.slice A4 p.graph.outputs.length k4)∧rep W (old n) [.slice A2 p.graph.nodes.length k2] p.graph.nodes∧rep W (old n) [.slice A3 p.graph.inputs.length k3] p.graph.inputs∧rep W (old n) [.slice A4 p.graph.outputs.length k4] p.graph.outputs∧n ≤ W.heap.size∧MapL W (mb + 1) mb k (fun s=>(usersD p s).map fun (j:Nat)=>(j:Int))∧k < maxLen:=by
 obtain ⟨cs,mb,k,hbox,hr,hm,hk,hn⟩:=h.ex
 obtain ⟨A1,k1,A2,k2,A3,k3,A4,k4,A5,k5,A6,k6,A7,k7,hcs,r1,r2,r3,r4,-⟩:=open_PlanD hr
 exact ⟨cs,mb,k,k1,k2,k3,k4,A1,A2,A3,A4,hbox,hr,Rep.len hr,by rw [hcs];rfl,by rw [hcs];rfl,by rw [hcs];rfl,r2,r3,r4,hn,hm,hk⟩
theorem app_at {cs:List Value} {x u:Value} {j:Nat} (h:cs[j]? = some u):(cs++[x])[j]? = some u:=by
 rw [List.getElem?_append_left (List.getElem?_eq_some_iff.1 h).1];exact h
set_option maxRecDepth 100000 in
set_option maxHeartbeats 8000000 in
theorem maker_any (n fb:Nat) (v:Int) (p:PlanD) (w w0:World) (hf:FlowI w0 n fb p w) (hs:PlanB p) :
  Calls Tryz.prog 58 #[.pointer (some ⟨fb,0,none⟩),.int .i64 v] w fun e w'=>e = .returned (.int .i64 (makerD p v))∧Below w.heap.size w w':=by
 have hlt:=hf.lt
 obtain ⟨cs,mb,k,k1,k2,k3,k4,A1,A2,A3,A4,hbox,hr,hcl,h1,-,-,r2,-,-,hn,-,-⟩:=hf.see
 obtain ⟨n2,n2'⟩:=slice_bnd r2
 obtain ⟨A',c',xs,hv,-,-,-,hl,hch⟩:=open_slice r2
 injection hv with hva hvb hvc
 subst hva
 have hsn:=hs.nodes
 have HL:=Lib.hid (And.intro hl hch)
 have HF:=Lib.hid (And.intro hbox (And.intro hr (And.intro hn (And.intro hlt hf))))
 have c1:=cell_row hbox (app_at h1)
 clear hl hch hvb hvc hbox hr hn hcl h1 r2 hs hlt hf
 go_enter Tryz.func58,Tryz.ntmps58
 go_wp2_with fail
 clear c1
 go_loopw [14] (fun i wr=>∃ c:Nat,i = .int .i64 c∧c ≤ p.graph.nodes.length∧Below w.heap.size w wr∧∀ j,j < c→makes p v j = false) (fun i _=>p.graph.nodes.length - (intOf i).toNat)
 case atStart=>exact ⟨0,rfl,Nat.zero_le _,Below.refl _ _,by omega⟩
 case round =>
  obtain ⟨c,rfl,hcl,hB,hM⟩:=hrel
  obtain ⟨wb,rfl⟩:∃ wb,wb = wr:=⟨_,rfl⟩
  have HB:=Lib.hid (And.intro hB hM)
  clear hB hM
  by_cases hlt:c < p.graph.nodes.length
  ·have hlt':(c:Int) < (p.graph.nodes.length:Int):=by omega
   obtain ⟨z,hz⟩:∃ z,p.graph.nodes[c]? = some z:=⟨_,List.getElem?_eq_getElem hlt⟩
   obtain ⟨b,o,zc,rfl,hbB,hrz,hcell⟩:=elem_at HL.out.1 HL.out.2 (by decide) hz
   have hbw:b < w.heap.size:=Nat.lt_of_lt_of_le hbB HF.out.2.2.1
   have hat:At wb b (o + c * 40) zc:=fun j u hu=>by
    have h1:=(hcell j u hu).1
    rw [← Nat.add_assoc] at h1
    exact (HB.out.1.cell (p:=⟨b,o + c * 40 + j,none⟩) hbw).trans h1
   obtain ⟨ss,I1,i1,O1,o1,-,-,z38,-,-,-,zo,-⟩:=gnode_facts hrz
   obtain ⟨nO1,nO2⟩:=slice_bnd zo
   have HA:=Lib.hid (And.intro hat (node_lay hrz))
   have HZ:=Lib.hid (And.intro z38 (And.intro zo (makes_eq (v:=v) hz)))
   have hk0:(0:Int) ≤ (c:Int):=Int.natCast_nonneg _
   clear hat z38 zo hrz hcell hz hbB hbw
   go_wp2_with (first
    |(with_reducible refine wpList_load_agg rfl 50 _ rfl _ _ _ rfl zc Tryz.underlying50 rfl HA.out.2.1 HA.out.1 ?_)
    |(with_reducible refine wpList_alloc_row rfl 50 rfl zeroGN zeroGN_zero ?_)
    |(with_reducible refine wpList_store_agg rfl 50 _ _ rfl _ 0 zc rfl rfl 50 zeroGN (heap_alloc_new _ _) HA.out.2.1 HA.out.2.2.1 HA.out.2.2.2.2 ?_;have hY:=laid_row wb 50 zeroGN zc HA.out.2.2.2.1;generalize World.setRow _ _ _ = w5 at hY ⊢;have HY:=Lib.hid hY;clear hY;refine halt ?_))
   unfold Halt
   obtain ⟨q,hq⟩:∃ q,wb.heap.size = q:=⟨_,rfl⟩
   have hb5:Below w.heap.size w w5:=HB.out.1.trans (HY.out.1.mono HB.out.1.size)
   have hrow:=HY.out.2.1
   rw [hq] at hrow
   rw [hq]
   have hat5:At w5 fb 0 cs:=fun j u hu=>(hb5.cell (p:=⟨fb,0 + j,none⟩) HF.out.2.2.2.1).trans (by rw [Nat.zero_add];exact cell_row HF.out.1 (app_at hu))
   have hr5:rep w5 (old w5.heap.size) cs p:=Rep.more (Rep.keep HF.out.2.1 (Keeps.old_below hb5 HF.out.2.2.1)) (old_le (Nat.le_trans HF.out.2.2.1 hb5.size))
   have H5:=Lib.hid (And.intro hb5 (And.intro hrow (And.intro hat5 hr5)))
   have HPS:=Lib.hid (plan_size hr5)
   clear hb5 hrow hat5 hr5 hq HY
   go_wp2_with (with_reducible refine wpList_load_agg rfl 30 _ rfl _ _ _ rfl cs Tryz.underlying30 rfl HPS.out H5.out.2.2.1 ?_)
   refine (planlive_any cs p c _ H5.out.2.2.2).mono ?_
   rintro e w6 ⟨rfl,hb⟩
   have H6:=Lib.hid (And.intro (H5.out.1.trans (hb.mono H5.out.1.size)) ((hb.block q (Array.getElem?_eq_some_iff.1 H5.out.2.1).1).trans H5.out.2.1))
   clear hb
   obtain ⟨lv,hlv⟩:∃ l,liveB p (c:Int) = l:=⟨_,rfl⟩
   rw [hlv]
   have HLV:=Lib.hid hlv
   clear hlv
   cases lv with
   | false =>
    go_wp2
    go_roundw
    case rel =>
     refine ⟨c + 1,by go_num,by omega,H6.out.1,fun j hj=>?_⟩
     by_cases e:j = c
     ·rw [e,HZ.out.2.2,HLV.out];rfl
     ·exact HB.out.2 j (by omega)
    case measure=>simp [intOf];omega
   | true =>
    have c38:=cell_row H6.out.2 HZ.out.1
    go_wp2_with fail
    clear c38
    refine (containsInt_any z.outs O1 o1 v w6 (Rep.more (Rep.keep HZ.out.2.1 (Keeps.old_below H6.out.1 HF.out.2.2.1)) (old_le (Nat.le_trans HF.out.2.2.1 H6.out.1.size)))).mono ?_
    rintro e w7 ⟨rfl,rfl⟩
    obtain ⟨ct,hct⟩:∃ x,z.outs.contains v = x:=⟨_,rfl⟩
    rw [hct]
    have HCT:=Lib.hid hct
    clear hct
    cases ct with
    | false =>
     go_wp2
     go_roundw
     case rel =>
      refine ⟨c + 1,by go_num,by omega,H6.out.1,fun j hj=>?_⟩
      by_cases e:j = c
      ·rw [e,HZ.out.2.2,HLV.out,HCT.out];rfl
      ·exact HB.out.2 j (by omega)
     case measure=>simp [intOf];omega
    | true =>
     have HLT:=Lib.hid hlt
     go_wp2
     go_ret
     exact ⟨by rw [makerD_at HLT.out HB.out.2 (by rw [HZ.out.2.2,HLV.out,HCT.out];rfl)];rfl,H6.out.1⟩
  ·have hlt':¬ (c:Int) < (p.graph.nodes.length:Int):=by omega
   have HCE:=Lib.hid (show c = p.graph.nodes.length by omega)
   go_wp2
   go_ret
   exact ⟨by rw [makerD_none (fun i hi=>HB.out.2 i (by have:=HCE.out;omega))];rfl,HB.out.1⟩
def DeadB (p:PlanD) (x y:Int) (b:Bool):Prop:=b = true ↔ DeadD p x y
theorem deadB_no {p:PlanD} {x y:Int} (h:¬ DeadD p x y):DeadB p x y false:=⟨fun e=>(by cases e),fun e=>absurd e h⟩
set_option maxRecDepth 100000 in
set_option maxHeartbeats 8000000 in
theorem dead_any (n fb:Nat) (x y:Int) (p:PlanD) (w w0:World) (hf:FlowI w0 n fb p w) (hs:PlanB p) (hx:I64 x) :
  Calls Tryz.prog 36 #[.pointer (some ⟨fb,0,none⟩),.int .i64 x,.int .i64 y] w (BoolP w (DeadB p x y)):=by
 have hlt:=hf.lt
 obtain ⟨cs,mb,k,k1,k2,k3,k4,A1,A2,A3,A4,hbox,hr,hcl,-,h2,h3,-,r3,r4,hn,hm,hk⟩:=hf.see
 obtain ⟨n3,n3'⟩:=slice_bnd r3
 obtain ⟨n4,n4'⟩:=slice_bnd r4
 have hsn:=hs.nodes
 have HS:=Lib.hid hs
 have HF:=Lib.hid (And.intro hbox (And.intro hn (And.intro hlt (And.intro hf (And.intro hm hx)))))
 have HR:=Lib.hid (And.intro (app_at (x:=Value.map (some mb)) h2) (And.intro (app_at (x:=Value.map (some mb)) h3) (And.intro r3 r4)))
 have HC7:Hid ((cs++[Value.map (some mb)])[7]? = some (.map (some mb))):=Lib.hid (by rw [List.getElem?_append_right (by rw [hcl];exact Nat.le_refl _),hcl];rfl)
 clear hbox hr hcl h2 h3 r3 r4 hn hm hk hlt hf hs
 go_enter Tryz.func36,Tryz.ntmps36
 go_wp2_with fail
 refine (maker_any n fb x p w w0 HF.out.2.2.2.1 HS.out).mono ?_
 rintro e w1 ⟨rfl,hb1⟩
 have HB1:=Lib.hid hb1
 clear hb1
 go_wp2_with fail
 refine (maker_any n fb y p w1 w0 (HF.out.2.2.2.1.next HB1.out) HS.out).mono ?_
 rintro e w2 ⟨rfl,hb2⟩
 have HB2:=Lib.hid (HB1.out.trans (hb2.mono HB1.out.size))
 clear hb2
 obtain ⟨m,hmx⟩:∃ m,makerD p x = m:=⟨_,rfl⟩
 obtain ⟨ny,hmy⟩:∃ m,makerD p y = m:=⟨_,rfl⟩
 have hbm:=makerD_bd p x
 have hby:=makerD_bd p y
 rw [hmx] at hbm ⊢
 rw [hmy] at hby ⊢
 have HM:=Lib.hid (And.intro hmx hmy)
 clear hmx hmy HB1
 have HD:Hid (DeadD p x y ↔ (0 ≤ ny∧x ∉ p.graph.outputs∧(m < 0→x ∈ p.graph.inputs)∧(0 ≤ m→Behind p m.toNat ny.toNat)∧∀ u,UsesD p x u→Behind p u ny.toNat)):=Lib.hid (by unfold DeadD;rw [HM.out.1,HM.out.2])
 by_cases g1:ny < 0
 ·have HN:Hid (¬ DeadD p x y):=Lib.hid fun e=>by have:=(HD.out.1 e).1;omega
  go_wp2
  go_ret
  exact ⟨false,rfl,HB2.out,deadB_no HN.out⟩
 obtain ⟨ni,rfl⟩:∃ ni:Nat,ny = (ni:Int):=⟨ny.toNat,by omega⟩
 have hni:ni < p.graph.nodes.length:=by omega
 have c3:w2.cell? ⟨fb,3,none⟩ = some (.slice A4 p.graph.outputs.length k4):=(HB2.out.cell (p:=⟨fb,3,none⟩) HF.out.2.2.1).trans (cell_row HF.out.1 HR.out.2.1)
 go_wp2_with fail
 clear c3
 refine (containsInt_any p.graph.outputs A4 k4 x w2 (Rep.more (Rep.keep HR.out.2.2.2 (Keeps.old_below HB2.out HF.out.2.1)) (old_le (Nat.le_trans HF.out.2.1 HB2.out.size)))).mono ?_
 rintro e w3 ⟨rfl,rfl⟩
 obtain ⟨co,hco⟩:∃ c,p.graph.outputs.contains x = c:=⟨_,rfl⟩
 rw [hco]
 have HCO:=Lib.hid hco
 clear hco
 cases co with
 | true =>
  have HN:Hid (¬ DeadD p x y):=Lib.hid fun e=>(HD.out.1 e).2.1 (List.contains_iff_mem.1 HCO.out)
  go_wp2
  go_ret
  exact ⟨false,rfl,HB2.out,deadB_no HN.out⟩
 | false =>
  have HNO:Hid (x ∉ p.graph.outputs):=Lib.hid fun e=>by have:=List.contains_iff_mem.2 e;rw [HCO.out] at this;cases this
  have hmid:(m < 0∧p.graph.inputs.contains x = true) ∨ (m < 0∧p.graph.inputs.contains x = false) ∨ ∃ mi:Nat,m = (mi:Int)∧mi < p.graph.nodes.length:=by
   by_cases g:m < 0
   ·cases hc:p.graph.inputs.contains x with
    | true=>exact .inl ⟨g,rfl⟩
    | false=>exact .inr (.inl ⟨g,rfl⟩)
   ·exact .inr (.inr ⟨m.toNat,by omega,by omega⟩)
  rcases hmid with ⟨g,hin⟩ | ⟨g,hin⟩ | ⟨mi,rfl,hmi⟩
  ·have HIN:=Lib.hid hin
   clear hin
   have c2:w3.cell? ⟨fb,2,none⟩ = some (.slice A3 p.graph.inputs.length k3):=(HB2.out.cell (p:=⟨fb,2,none⟩) HF.out.2.2.1).trans (cell_row HF.out.1 HR.out.1)
   go_wp2_with fail
   clear c2
   refine (containsInt_any p.graph.inputs A3 k3 x w3 (Rep.more (Rep.keep HR.out.2.2.1 (Keeps.old_below HB2.out HF.out.2.1)) (old_le (Nat.le_trans HF.out.2.1 HB2.out.size)))).mono ?_
   rintro e w4 ⟨rfl,rfl⟩
   rw [HIN.out]
   have HI:Hid (m < 0→x ∈ p.graph.inputs):=Lib.hid fun _=>List.contains_iff_mem.1 HIN.out
   have HMM:Hid (0 ≤ m→Behind p m.toNat ((ni:Int)).toNat):=Lib.hid fun e=>by omega
   have HBW:=HB2
   have c7:w4.cell? ⟨fb,7,none⟩ = some (.map (some mb)):=(HBW.out.cell (p:=⟨fb,7,none⟩) HF.out.2.2.1).trans (cell_row HF.out.1 HC7.out)
   obtain ⟨U,cu,hlk,hu1,hu2,hu3⟩:=HF.out.2.2.2.2.1.look HBW.out x HF.out.2.2.2.2.2
   rw [List.length_map] at hlk hu1
   have HU:=Lib.hid hu3
   obtain ⟨un,hun⟩:∃ un,(usersD p x).length = un:=⟨_,rfl⟩
   rw [hun] at hlk hu1
   have HUN:=Lib.hid hun
   clear hu3 hun
   go_wp2_with fail
   clear hlk c7
   go_loopw [62] (fun i wr=>∃ c:Nat,i = .int .i64 c∧c ≤ un∧Below w.heap.size w wr∧∀ u ∈ (usersD p x).take c,Behind p u ni) (fun i _=>un - (intOf i).toNat)
   case atStart=>exact ⟨0,rfl,Nat.zero_le _,HBW.out,fun u h=>by simp at h⟩
   case round =>
    obtain ⟨c,rfl,hcu,hB,hA⟩:=hrel
    obtain ⟨wb,rfl⟩:∃ wb,wb = wr:=⟨_,rfl⟩
    have HB:=Lib.hid (And.intro hB hA)
    clear hB hA
    by_cases hlt3:c < un
    ·obtain ⟨u,hu⟩:∃ u,(usersD p x)[c]? = some u:=⟨_,List.getElem?_eq_getElem (by have:=HUN.out;omega)⟩
     obtain ⟨gu,rfl,hgu,hcg⟩:=HU.out c (u:Int) (by rw [List.getElem?_map,hu];rfl)
     have huN:u < p.graph.nodes.length:=by
      have h1:=usersD_mem.1 (List.mem_of_getElem? hu)
      obtain ⟨n,hn,_⟩:=gIns_mem h1.2
      exact (List.getElem?_eq_some_iff.1 hn).1
     have k5:wb.cell? ⟨gu,c,none⟩ = some (.int .i64 (u:Int)):=(HB.out.1.cell (p:=⟨gu,c,none⟩) hgu).trans hcg
     have HUU:=Lib.hid hu
     have hk10:(0:Int) ≤ (c:Int):=Int.natCast_nonneg _
     have hk11:(c:Int) < (un:Int):=by omega
     clear hcg hu
     go_wp2_with fail
     clear k5
     refine (behind_any n fb u p wb w0 (HF.out.2.2.2.1.next HB.out.1) huN HS.out.nodes).mono ?_
     rintro e w5 ⟨sb,ws,rfl,s1,s2,s3,s4,hb5⟩
     have HW5:=Lib.hid (And.intro (HB.out.1.trans (hb5.mono HB.out.1.size)) s4)
     have hcall:=bhas_any ws sb (p.graph.nodes.length / 64 + 1) ni w5 115 s1 (by rw [s2];have:=Nat.div_le_div_right (c:=64) (Nat.le_of_lt hni);omega) (by omega) s3
     rw [s2] at hcall
     have HC:=Lib.hid hcall
     clear hcall s1 s2 s3 s4 hb5
     go_wp2_with fail
     refine HC.out.mono ?_
     rintro e w6 ⟨rfl,rfl⟩
     obtain ⟨bt,hbt⟩:∃ b,bitAt ws ni = b:=⟨_,rfl⟩
     rw [hbt]
     have HBT:=Lib.hid hbt
     clear hbt
     cases bt with
     | true =>
      go_wp2
      go_roundw
      case rel =>
       refine ⟨c + 1,by go_num,by omega,HW5.out.1,fun u' h=>?_⟩
       rw [List.take_add_one,HUU.out,Option.toList_some] at h
       rcases List.mem_append.1 h with h | h
       ·exact HB.out.2 u' h
       ·rw [List.mem_singleton] at h
        rw [h]
        exact (HW5.out.2 ni).1 HBT.out
      case measure=>simp [intOf];omega
     | false =>
      have HN:Hid (¬ DeadD p x y):=Lib.hid fun e=>by
       have:=(HW5.out.2 ni).2 ((HD.out.1 e).2.2.2.2 u (usersD_mem.1 (List.mem_of_getElem? HUU.out)))
       rw [HBT.out] at this
       cases this
      go_wp2
      go_ret
      exact ⟨false,rfl,HW5.out.1,deadB_no HN.out⟩
    ·have hlt4:¬ (c:Int) < (un:Int):=by omega
     have HCU:=Lib.hid (show c = un by omega)
     go_wp2
     go_ret
     refine ⟨true,rfl,HB.out.1,⟨fun _=>HD.out.2 ⟨by omega,HNO.out,HI.out,HMM.out,fun u hu=>?_⟩,fun _=>rfl⟩⟩
     refine HB.out.2 u ?_
     rw [HCU.out,← HUN.out,List.take_length]
     exact usersD_mem.2 hu
  ·have HIN:=Lib.hid hin
   have HN:Hid (¬ DeadD p x y):=Lib.hid fun e=>by
    have:=List.contains_iff_mem.2 ((HD.out.1 e).2.2.1 g)
    rw [hin] at this
    cases this
   clear hin
   have c2:w3.cell? ⟨fb,2,none⟩ = some (.slice A3 p.graph.inputs.length k3):=(HB2.out.cell (p:=⟨fb,2,none⟩) HF.out.2.2.1).trans (cell_row HF.out.1 HR.out.1)
   go_wp2_with fail
   clear c2
   refine (containsInt_any p.graph.inputs A3 k3 x w3 (Rep.more (Rep.keep HR.out.2.2.1 (Keeps.old_below HB2.out HF.out.2.1)) (old_le (Nat.le_trans HF.out.2.1 HB2.out.size)))).mono ?_
   rintro e w4 ⟨rfl,rfl⟩
   rw [HIN.out]
   go_wp2
   go_ret
   exact ⟨false,rfl,HB2.out,deadB_no HN.out⟩
  ·have g:¬ (mi:Int) < 0:=by omega
   have g2:(mi:Int) ≥ 0:=by omega
   go_wp2_with fail
   refine (behind_any n fb mi p w3 w0 (HF.out.2.2.2.1.next HB2.out) hmi HS.out.nodes).mono ?_
   rintro e w5 ⟨sb,ws,rfl,s1,s2,s3,s4,hb5⟩
   have HBW:=Lib.hid (HB2.out.trans (hb5.mono HB2.out.size))
   have HS4:=Lib.hid s4
   have hcall:=bhas_any ws sb (p.graph.nodes.length / 64 + 1) ni w5 115 s1 (by rw [s2];have:=Nat.div_le_div_right (c:=64) (Nat.le_of_lt hni);omega) (by omega) s3
   rw [s2] at hcall
   have HC:=Lib.hid hcall
   clear hcall s1 s2 s3 s4 hb5
   go_wp2_with fail
   refine HC.out.mono ?_
   rintro e w6 ⟨rfl,rfl⟩
   obtain ⟨bt,hbt⟩:∃ b,bitAt ws ni = b:=⟨_,rfl⟩
   rw [hbt]
   have HBT:=Lib.hid hbt
   clear hbt
   cases bt with
   | false =>
    have HN:Hid (¬ DeadD p x y):=Lib.hid fun e=>by
     have h1:=(HD.out.1 e).2.2.2.1 (by omega)
     rw [Int.toNat_natCast,Int.toNat_natCast] at h1
     have:=(HS4.out ni).2 h1
     rw [HBT.out] at this
     cases this
    go_wp2
    go_ret
    exact ⟨false,rfl,HBW.out,deadB_no HN.out⟩
   | true =>
    have HI:Hid ((mi:Int) < 0→x ∈ p.graph.inputs):=Lib.hid fun e=>by omega
    have HMM:Hid (0 ≤ (mi:Int)→Behind p ((mi:Int)).toNat ((ni:Int)).toNat):=Lib.hid fun _=>by rw [Int.toNat_natCast,Int.toNat_natCast];exact (HS4.out ni).1 HBT.out
    have c7:w6.cell? ⟨fb,7,none⟩ = some (.map (some mb)):=(HBW.out.cell (p:=⟨fb,7,none⟩) HF.out.2.2.1).trans (cell_row HF.out.1 HC7.out)
    obtain ⟨U,cu,hlk,hu1,hu2,hu3⟩:=HF.out.2.2.2.2.1.look HBW.out x HF.out.2.2.2.2.2
    rw [List.length_map] at hlk hu1
    have HU:=Lib.hid hu3
    obtain ⟨un,hun⟩:∃ un,(usersD p x).length = un:=⟨_,rfl⟩
    rw [hun] at hlk hu1
    have HUN:=Lib.hid hun
    clear hu3 hun
    go_wp2_with fail
    clear hlk c7
    go_loopw [62] (fun i wr=>∃ c:Nat,i = .int .i64 c∧c ≤ un∧Below w.heap.size w wr∧∀ u ∈ (usersD p x).take c,Behind p u ni) (fun i _=>un - (intOf i).toNat)
    case atStart=>exact ⟨0,rfl,Nat.zero_le _,HBW.out,fun u h=>by simp at h⟩
    case round =>
     obtain ⟨c,rfl,hcu,hB,hA⟩:=hrel
     obtain ⟨wb,rfl⟩:∃ wb,wb = wr:=⟨_,rfl⟩
     have HB:=Lib.hid (And.intro hB hA)
     clear hB hA
     by_cases hlt3:c < un
     ·obtain ⟨u,hu⟩:∃ u,(usersD p x)[c]? = some u:=⟨_,List.getElem?_eq_getElem (by have:=HUN.out;omega)⟩
      obtain ⟨gu,rfl,hgu,hcg⟩:=HU.out c (u:Int) (by rw [List.getElem?_map,hu];rfl)
      have huN:u < p.graph.nodes.length:=by
       have h1:=usersD_mem.1 (List.mem_of_getElem? hu)
       obtain ⟨n,hn,_⟩:=gIns_mem h1.2
       exact (List.getElem?_eq_some_iff.1 hn).1
      have k5:wb.cell? ⟨gu,c,none⟩ = some (.int .i64 (u:Int)):=(HB.out.1.cell (p:=⟨gu,c,none⟩) hgu).trans hcg
      have HUU:=Lib.hid hu
      have hk10:(0:Int) ≤ (c:Int):=Int.natCast_nonneg _
      have hk11:(c:Int) < (un:Int):=by omega
      clear hcg hu
      go_wp2_with fail
      clear k5
      refine (behind_any n fb u p wb w0 (HF.out.2.2.2.1.next HB.out.1) huN HS.out.nodes).mono ?_
      rintro e w5 ⟨sb,ws,rfl,s1,s2,s3,s4,hb5⟩
      have HW5:=Lib.hid (And.intro (HB.out.1.trans (hb5.mono HB.out.1.size)) s4)
      have hcall:=bhas_any ws sb (p.graph.nodes.length / 64 + 1) ni w5 115 s1 (by rw [s2];have:=Nat.div_le_div_right (c:=64) (Nat.le_of_lt hni);omega) (by omega) s3
      rw [s2] at hcall
      have HC:=Lib.hid hcall
      clear hcall s1 s2 s3 s4 hb5
      go_wp2_with fail
      refine HC.out.mono ?_
      rintro e w6 ⟨rfl,rfl⟩
      obtain ⟨bt,hbt⟩:∃ b,bitAt ws ni = b:=⟨_,rfl⟩
      rw [hbt]
      have HBT:=Lib.hid hbt
      clear hbt
      cases bt with
      | true =>
       go_wp2
       go_roundw
       case rel =>
        refine ⟨c + 1,by go_num,by omega,HW5.out.1,fun u' h=>?_⟩
        rw [List.take_add_one,HUU.out,Option.toList_some] at h
        rcases List.mem_append.1 h with h | h
        ·exact HB.out.2 u' h
        ·rw [List.mem_singleton] at h
         rw [h]
         exact (HW5.out.2 ni).1 HBT.out
       case measure=>simp [intOf];omega
      | false =>
       have HN:Hid (¬ DeadD p x y):=Lib.hid fun e=>by
        have:=(HW5.out.2 ni).2 ((HD.out.1 e).2.2.2.2 u (usersD_mem.1 (List.mem_of_getElem? HUU.out)))
        rw [HBT.out] at this
        cases this
       go_wp2
       go_ret
       exact ⟨false,rfl,HW5.out.1,deadB_no HN.out⟩
     ·have hlt4:¬ (c:Int) < (un:Int):=by omega
      have HCU:=Lib.hid (show c = un by omega)
      go_wp2
      go_ret
      refine ⟨true,rfl,HB.out.1,⟨fun _=>HD.out.2 ⟨by omega,HNO.out,HI.out,HMM.out,fun u hu=>?_⟩,fun _=>rfl⟩⟩
      refine HB.out.2 u ?_
      rw [HCU.out,← HUN.out,List.take_length]
      exact usersD_mem.2 hu
end Go.Proofs.YtoeaglpmkjoenaaGreat
set_option linter.unusedSimpArgs false
set_option linter.unusedVariables false
namespace Go.Proofs.YtoeaglpmkjoenaaGreat
open Go.RowKit
open Rep (rep)
def SizedD (p:PlanD) (v:Int):Prop:=0 ≤ v∧v < p.size.length∧∃ s,p.size[v.toNat]? = some s∧¬ s = 0
def SizB (p:PlanD) (v:Int) (b:Bool):Prop:=b = true ↔ SizedD p v
theorem sizB_no {p:PlanD} {v:Int} (h:¬ SizedD p v):SizB p v false:=⟨fun e=>(by cases e),fun e=>absurd e h⟩
set_option maxRecDepth 100000 in
set_option maxHeartbeats 8000000 in
theorem sized_any (cs:List Value) (p:PlanD) (v:Int) (w W:World) (h:PlanI w cs p W) :
  Calls Tryz.prog 34 #[.int .i64 v,.pointer (some ⟨w.heap.size,0,none⟩)] W (fun e W'=>W' = W∧BoolP W (SizB p v) e W'):=by
 obtain ⟨A1,k1,A2,k2,A3,k3,A4,k4,A5,k5,A6,k6,A7,k7,hcs,-,-,-,-,-,r6,-⟩:=open_PlanD h.was
 obtain ⟨n6,n6'⟩:=slice_bnd r6
 have h5:cs[5]? = some (.slice A6 p.size.length k6):=by rw [hcs];rfl
 have c5:=h.cell h5
 have HH:=Lib.hid (And.intro h r6)
 clear h hcs r6
 by_cases g1:v ≥ 0
 ·by_cases g2:v < (p.size.length:Int)
  ·obtain ⟨j,rfl⟩:∃ j:Nat,v = (j:Int):=⟨v.toNat,by omega⟩
   obtain ⟨s,hs⟩:∃ s,p.size[j]? = some s:=⟨_,List.getElem?_eq_getElem (by omega)⟩
   obtain ⟨s64,b,o,rfl,hb,kz⟩:=int_at HH.out.2 hs
   have kz':W.cell? ⟨b,o + j,none⟩ = some (.int .i64 s):=(HH.out.1.below.cell (p:=⟨b,o + j,none⟩) hb).trans kz
   have HS:=Lib.hid (show SizedD p (j:Int) ↔ ¬ s = 0 from ⟨fun ⟨_,_,s',e,h⟩=>by rw [Int.toNat_natCast,hs] at e;cases e;exact h,fun h=>⟨g1,g2,s,by rw [Int.toNat_natCast];exact hs,h⟩⟩)
   clear hs s64 hb kz
   go_enter Tryz.func34,Tryz.ntmps34
   go_wp2
   go_ret
   refine ⟨rfl,s != 0,rfl,Below.refl _ _,⟨fun e=>HS.out.2 (by simpa using e),fun e=>by simpa using HS.out.1 e⟩⟩
  ·have HN:=Lib.hid (show ¬ SizedD p v from fun e=>g2 e.2.1)
   go_enter Tryz.func34,Tryz.ntmps34
   go_wp2
   go_ret
   exact ⟨rfl,false,rfl,Below.refl _ _,sizB_no HN.out⟩
 ·have HN:=Lib.hid (show ¬ SizedD p v from fun e=>g1 e.1)
  go_enter Tryz.func34,Tryz.ntmps34
  go_wp2
  go_ret
  exact ⟨rfl,false,rfl,Below.refl _ _,sizB_no HN.out⟩
def ApartD (p:PlanD) (x y:Int):Prop:=¬ x = y∧SizedD p x∧SizedD p y∧¬ DeadD p x y∧¬ DeadD p y x
def ApB (p:PlanD) (x y:Int) (b:Bool):Prop:=b = true ↔ ApartD p x y
theorem apB_no {p:PlanD} {x y:Int} (h:¬ ApartD p x y):ApB p x y false:=⟨fun e=>(by cases e),fun e=>absurd e h⟩
set_option maxRecDepth 100000 in
set_option maxHeartbeats 8000000 in
theorem apart_any (cs:List Value) (p:PlanD) (x y:Int) (w:World) (hr:rep w (old w.heap.size) cs p) (hs:PlanB p) (hx:I64 x) (hy:I64 y) :
  Calls Tryz.prog 17 #[.agg cs.toArray,.int .i64 x,.int .i64 y] w (BoolP w (ApB p x y)):=by
 have HS:=Lib.hid (And.intro hs (And.intro hx hy))
 clear hs hx hy
 go_enter Tryz.func17,Tryz.ntmps17
 go_wp2_with (with_reducible refine wpList_box_row rfl 30 _ rfl cs rfl ?_;have hX:=plan_start hr;generalize World.alloc _ _ = W0 at hX ⊢;have HX:=Lib.hid hX;clear hX hr;refine halt ?_)
 unfold Halt
 by_cases g1:x = y
 ·have HN:=Lib.hid (show ¬ ApartD p x y from fun e=>e.1 g1)
  subst g1
  go_wp2
  go_ret
  exact ⟨false,rfl,HX.out.below,apB_no HN.out⟩
 have g1':(x == y) = false:=beq_eq_false_iff_ne.2 g1
 have HNE:=Lib.hid g1
 clear g1
 go_wp2_with fail
 refine (sized_any cs p x w W0 HX.out).mono ?_
 rintro e w1 ⟨rfl,s1,rfl,-,h1⟩
 have H1:=Lib.hid h1
 clear h1
 cases s1 with
 | false =>
  have HN:=Lib.hid (show ¬ ApartD p x y from fun e=>by have:=H1.out.2 e.2.1;cases this)
  go_wp2
  go_ret
  exact ⟨false,rfl,HX.out.below,apB_no HN.out⟩
 | true =>
  go_wp2_with fail
  refine (sized_any cs p y w w1 HX.out).mono ?_
  rintro e w2 ⟨rfl,s2,rfl,-,h2⟩
  have H2:=Lib.hid h2
  clear h2
  cases s2 with
  | false =>
   have HN:=Lib.hid (show ¬ ApartD p x y from fun e=>by have:=H2.out.2 e.2.2.1;cases this)
   go_wp2
   go_ret
   exact ⟨false,rfl,HX.out.below,apB_no HN.out⟩
  | true =>
   go_wp2_with (with_reducible refine wpList_load_agg rfl 30 _ rfl _ _ _ rfl cs Tryz.underlying30 rfl HX.out.size HX.out.at ?_)
   refine (flowOf_any cs p _ HX.out.arg HS.out.1.nodes HS.out.1.ins).mono ?_
   rintro e w3 ⟨fb,rfl,hf,hb⟩
   replace HX:=Lib.hid (HX.out.next hb)
   have HF:=Lib.hid hf
   clear hf hb
   go_wp2_with fail
   refine (dead_any _ fb x y p w3 _ HF.out HS.out.1 HS.out.2.1).mono ?_
   rintro e w4 ⟨d1,rfl,hb,hd1⟩
   have HF4:=Lib.hid (HF.out.next hb)
   replace HX:=Lib.hid (HX.out.next hb)
   have HD1:=Lib.hid hd1
   clear hb hd1
   cases d1 with
   | true =>
    have HN:=Lib.hid (show ¬ ApartD p x y from fun e=>e.2.2.2.1 (HD1.out.1 rfl))
    go_wp2
    go_ret
    exact ⟨false,rfl,HX.out.below,apB_no HN.out⟩
   | false =>
    go_wp2_with fail
    refine (dead_any _ fb y x p w4 _ HF4.out HS.out.1 HS.out.2.2).mono ?_
    rintro e w5 ⟨d2,rfl,hb,hd2⟩
    replace HX:=Lib.hid (HX.out.next hb)
    have HD2:=Lib.hid hd2
    clear hb hd2
    cases d2 with
    | true =>
     have HN:=Lib.hid (show ¬ ApartD p x y from fun e=>e.2.2.2.2 (HD2.out.1 rfl))
     go_wp2
     go_ret
     exact ⟨false,rfl,HX.out.below,apB_no HN.out⟩
    | false =>
     go_wp2
     go_ret
     exact ⟨true,rfl,HX.out.below,⟨fun _=>⟨HNE.out,H1.out.1 rfl,H2.out.1 rfl,fun e=>(by have:=HD1.out.2 e;cases this),fun e=>(by have:=HD2.out.2 e;cases this)⟩,fun _=>rfl⟩⟩
end Go.Proofs.YtoeaglpmkjoenaaGreat
set_option linter.unusedSimpArgs false
set_option linter.unusedVariables false
namespace Go.Proofs.YtoeaglpmkjoenaaGreat
theorem apart_symm {p:PlanD} {x y:Int} (h:ApartD p x y):ApartD p y x:=⟨fun e=>h.1 e.symm,h.2.2.1,h.2.1,h.2.2.2.2,h.2.2.2.1⟩
noncomputable def apB (p:PlanD) (v w:Int):Bool:=@decide (ApartD p v w) (Classical.propDecidable _)
theorem apB_iff {p:PlanD} {v w:Int}:apB p v w = true ↔ ApartD p v w:=by unfold apB;exact @decide_eq_true_iff _ (Classical.propDecidable _)
def szAt (p:PlanD) (v:Nat):Int:=p.size.getD v 0
def atD (at_:List Int) (v:Nat):Int:=at_.getD v 0
noncomputable def wayD (p:PlanD) (done:List Nat) (at_:List Int) (v:Nat):List (Int × Int):=(done.filter fun (w:Nat)=>apB p v w).map fun w=>(atD at_ w,atD at_ w + szAt p w)
noncomputable def packD (S:List (Int × Int)→List (Int × Int)) (p:PlanD):List Nat→List Nat→List Int→Int→List Int × Int
 | [],_,at_,sz=>(at_,sz)
 | v :: todo,done,at_,sz=>packD S p todo (done++[v]) (at_.set v (holeD (S (wayD p done at_ v)) (szAt p v))) (max sz (holeD (S (wayD p done at_ v)) (szAt p v) + szAt p v))
def OrdLaw (S:List (Int × Int)→List (Int × Int)):Prop:=∀ l,(S l).Perm l∧InOrder (S l)
structure PackI (p:PlanD) (done:List Nat) (at_:List Int) (sz:Int):Prop where
 len:at_.length = p.size.length
 lt:∀ v ∈ done,v < p.size.length
 pos:∀ v ∈ done,0 < szAt p v
 ins:∀ v ∈ done,0 ≤ atD at_ v∧atD at_ v + szAt p v ≤ sz∧atD at_ v % 8 = 0
 off:∀ v ∈ done,∀ w ∈ done,ApartD p v w→atD at_ v + szAt p v ≤ atD at_ w ∨ atD at_ w + szAt p w ≤ atD at_ v
 out:∀ v,v ∉ done→atD at_ v = 0
 sum:0 ≤ sz∧sz ≤ (done.map (szAt p)).sum
theorem atD_set {l:List Int} {v w:Nat} {x:Int} (h:v < l.length):atD (l.set v x) w = if v = w then x else atD l w:=by
 unfold atD
 rw [List.getD_eq_getElem?_getD,List.getD_eq_getElem?_getD]
 by_cases e:v = w
 ·subst e;rw [if_pos rfl,List.getElem?_set_self h];rfl
 ·rw [if_neg e,List.getElem?_set_ne e]
theorem packI_start (p:PlanD):PackI p [] (List.replicate p.size.length 0) 0:=by
 refine ⟨List.length_replicate ..,fun v h=>(by cases h),fun v h=>(by cases h),fun v h=>(by cases h),fun v h=>(by cases h),fun v _=>?_,by simp⟩
 unfold atD
 rw [List.getD_eq_getElem?_getD,List.getElem?_replicate]
 split <;> rfl
theorem way_mem {p:PlanD} {done:List Nat} {at_:List Int} {v:Nat} {b:Int × Int}:b ∈ wayD p done at_ v ↔ ∃ w ∈ done,ApartD p v w∧b = (atD at_ w,atD at_ w + szAt p w):=by
 unfold wayD
 rw [List.mem_map]
 constructor
 ·rintro ⟨w,hw,rfl⟩
  obtain ⟨h1,h2⟩:=List.mem_filter.1 hw
  exact ⟨w,h1,apB_iff.1 h2,rfl⟩
 ·rintro ⟨w,h1,h2,rfl⟩
  exact ⟨w,List.mem_filter.2 ⟨h1,apB_iff.2 h2⟩,rfl⟩
theorem packI_next {S:List (Int × Int)→List (Int × Int)} (hS:OrdLaw S) {p:PlanD} {done:List Nat} {at_:List Int} {sz:Int} (h8:∀ x ∈ p.size,x % 8 = 0) (h:PackI p done at_ sz) {v:Nat} (hv:v < p.size.length) (hp:0 < szAt p v) (hn:v ∉ done) :
  PackI p (done++[v]) (at_.set v (holeD (S (wayD p done at_ v)) (szAt p v))) (max sz (holeD (S (wayD p done at_ v)) (szAt p v) + szAt p v)):=by
 obtain ⟨hperm,hord⟩:=hS (wayD p done at_ v)
 obtain ⟨hf,h0,hz⟩:=hole_free hp hord
 have hvl:v < at_.length:=by rw [h.len];exact hv
 have hmem:∀ b,b ∈ S (wayD p done at_ v) ↔ b ∈ wayD p done at_ v:=fun b=>hperm.mem_iff
 generalize holeD (S (wayD p done at_ v)) (szAt p v) = x at hf h0 hz ⊢
 have hs8:∀ w,szAt p w % 8 = 0:=fun w=>by
  unfold szAt
  rw [List.getD_eq_getElem?_getD]
  cases hw:p.size[w]? with
  | none=>rfl
  | some y=>exact h8 y (List.mem_of_getElem? hw)
 have hx8:x % 8 = 0:=by
  rcases hz with rfl | ⟨b,hb,rfl⟩
  ·rfl
  ·obtain ⟨w,hw,-,rfl⟩:=way_mem.1 ((hmem b).1 hb)
   have h1:=(h.ins w hw).2.2
   have h2:=hs8 w
   show (atD at_ w + szAt p w) % 8 = 0
   omega
 have hxs:x ≤ sz:=by
  rcases hz with rfl | ⟨b,hb,rfl⟩
  ·exact h.sum.1
  ·obtain ⟨w,hw,-,rfl⟩:=way_mem.1 ((hmem b).1 hb)
   exact (h.ins w hw).2.1
 have hset:∀ w,atD (at_.set v x) w = if v = w then x else atD at_ w:=fun w=>atD_set hvl
 have hold:∀ w ∈ done,atD (at_.set v x) w = atD at_ w:=fun w hw=>by rw [hset,if_neg (show ¬ v = w from fun e=>hn (by rw [e];exact hw))]
 have hnew:atD (at_.set v x) v = x:=by rw [hset,if_pos rfl]
 have hfree:∀ w ∈ done,ApartD p v w→x + szAt p v ≤ atD at_ w ∨ atD at_ w + szAt p w ≤ x:=fun w hw ha=>hf _ ((hmem _).2 (way_mem.2 ⟨w,hw,ha,rfl⟩))
 refine ⟨by rw [List.length_set];exact h.len,fun w hw=>?_,fun w hw=>?_,fun w hw=>?_,fun a ha b hb hab=>?_,fun w hw=>?_,?_⟩
 ·rcases List.mem_append.1 hw with hw | hw
  ·exact h.lt w hw
  ·rw [List.mem_singleton.1 hw];exact hv
 ·rcases List.mem_append.1 hw with hw | hw
  ·exact h.pos w hw
  ·rw [List.mem_singleton.1 hw];exact hp
 ·rcases List.mem_append.1 hw with hw | hw
  ·rw [hold w hw]
   obtain ⟨a1,a2,a3⟩:=h.ins w hw
   exact ⟨a1,by omega,a3⟩
  ·rw [List.mem_singleton.1 hw,hnew]
   exact ⟨h0,by omega,hx8⟩
 ·rcases List.mem_append.1 ha with ha1 | ha1
  ·rcases List.mem_append.1 hb with hb1 | hb1
   ·rw [hold a ha1,hold b hb1];exact h.off a ha1 b hb1 hab
   ·have e:=List.mem_singleton.1 hb1
    rw [e] at hab ⊢
    rw [hold a ha1,hnew]
    have:=hfree a ha1 (apart_symm hab)
    omega
  ·have e:=List.mem_singleton.1 ha1
   rw [e] at hab ⊢
   rcases List.mem_append.1 hb with hb1 | hb1
   ·rw [hold b hb1,hnew];exact hfree b hb1 hab
   ·have e2:=List.mem_singleton.1 hb1
    rw [e2] at hab
    exact absurd rfl hab.1
 ·rw [hset,if_neg (fun e=>hw (List.mem_append_right _ (List.mem_singleton.2 e.symm)))]
  exact h.out w fun e=>hw (List.mem_append_left _ e)
 ·obtain ⟨a1,a2⟩:=h.sum
  rw [List.map_append,List.sum_append]
  simp only [List.map_cons,List.map_nil,List.sum_cons,List.sum_nil]
  omega
theorem pack_whole {S:List (Int × Int)→List (Int × Int)} (hS:OrdLaw S) {p:PlanD} (h8:∀ x ∈ p.size,x % 8 = 0):∀ (todo done:List Nat) (at_:List Int) (sz:Int),PackI p done at_ sz→(done++todo).Nodup→(∀ v ∈ todo,v < p.size.length∧0 < szAt p v) →
  PackI p (done++todo) (packD S p todo done at_ sz).1 (packD S p todo done at_ sz).2
 | [],done,at_,sz,h,_,_=>by rw [List.append_nil];exact h
 | v :: todo,done,at_,sz,h,hn,ht=>by
  have e:done++v :: todo = (done++[v])++todo:=by rw [List.append_assoc];rfl
  have hv:v ∉ done:=fun hv=>by
   have:=(List.nodup_append.1 hn).2.2 v hv v List.mem_cons_self
   exact this rfl
  have h1:=packI_next hS h8 h (ht v List.mem_cons_self).1 (ht v List.mem_cons_self).2 hv
  rw [e] at hn ⊢
  unfold packD
  exact pack_whole hS h8 todo _ _ _ h1 hn fun w hw=>ht w (List.mem_cons_of_mem _ hw)
end Go.Proofs.YtoeaglpmkjoenaaGreat
