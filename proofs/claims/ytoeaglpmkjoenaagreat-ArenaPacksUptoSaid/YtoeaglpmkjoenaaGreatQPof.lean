/-
  Chapter 20: plan.Of. No condition.
-/
import Derived.Test.YtoeaglpmkjoenaaGreatQPofM
set_option linter.unusedSimpArgs false
set_option linter.unusedVariables false
namespace Go.Proofs.YtoeaglpmkjoenaaGreat
open Go.RowKit
open Rep (rep)
def emptyP:PlanD:={ graph:=⟨[],[],[],[]⟩,live:=[],tasks:=[],size:=[] }
theorem rep_z7 (w:World) (Z:Zone):rep w Z z7 emptyP:=shut_PlanD (a:=emptyP) (c0:=z4) (rep_z4 _ _) (rep_nil _ _) (rep_nil _ _) (rep_nil _ _)
theorem z7_one:∀ u ∈ z7,u.oneCell' = true:=by simp [z7,Value.oneCell']
def PofP (g:GraphD) (x:Int) (p:PlanD):Prop:=(¬ x = 0→p = emptyP)∧∃ h,OfP g x h∧(x = 0→p = planD h)
def PofE (w:World) (g:GraphD) (e:Ending) (w':World):Prop:=∃ (pcs:List Value) (x y:Int) (p:PlanD),e = .returned (.tuple #[.agg pcs.toArray,.int .i64 x,.int .i64 y])∧I64 x∧I64 y∧Below w.heap.size w w'∧rep w' (old w'.heap.size) pcs p∧PofP g x p
set_option maxRecDepth 100000 in
set_option maxHeartbeats 8000000 in
theorem planof_any (gcs:List Value) (g:GraphD) (w:World) (HSH:Hid (ShapesAll g)) (hr:rep w (old w.heap.size) gcs g) (hs1:g.vals.length ≤ 1048576) (hs2:(defsD g).length ≤ 1048576) (hs3:∀ n ∈ g.nodes,n.ins.length ≤ 1048576) (hs4:g.outputs.length ≤ 1048576) (hs5:g.nodes.length ≤ 1048576) :
  Calls Tryz.prog 11 #[.agg gcs.toArray] w (PofE w g):=by
 have hl:gcs.length = 4:=Rep.len hr
 have HG:=Lib.hid (And.intro hr (And.intro hs1 (And.intro hs2 (And.intro hs3 (And.intro hs4 hs5)))))
 have HSZ:=Lib.hid (show (Tryz.prog.info? 26).map (·.size) = some gcs.length by rw [hl];kernel_rfl)
 clear hr hl hs1 hs2 hs3 hs4 hs5
 go_enter Tryz.func11,Tryz.ntmps11
 go_wp2_with (first
  |(with_reducible refine wpList_box_row rfl 26 _ rfl gcs rfl ?_)
  |(with_reducible refine wpList_alloc_row rfl 30 rfl z7 z7_zero ?_;have hX:=pair_start w 26 30 gcs z7;generalize World.alloc _ (.cells z7.toArray _) = W0 at hX ⊢;have HX:=Lib.hid hX;clear hX;refine halt ?_))
 unfold Halt
 go_wp2_with (with_reducible refine wpList_load_agg rfl 26 _ rfl _ w.heap.size 0 rfl gcs Tryz.underlying26 rfl HSZ.out (At.of_row HX.out.src) ?_)
 refine (of_any gcs g _ HSH (HX.out.keeps HG.out.1) HG.out.2.1 HG.out.2.2.1 HG.out.2.2.2.1).mono ?_
 rintro e w1 ⟨cs,x,y,h,rfl,hx,hy,hb,hr,hP⟩
 have hl4:cs.length = 4:=Rep.len hr
 have h1c:=Rep.one hr
 have HC:=Lib.hid (And.intro (show (Tryz.prog.info? 26).map (·.size) = some cs.length by rw [hl4];kernel_rfl) (And.intro hl4 h1c))
 have HP:=Lib.hid hP
 have HXY:=Lib.hid (And.intro hx hy)
 have HQ:=Lib.hid (heap_alloc_new w1 (.cells z4.toArray 26))
 have h2:=HX.out.lt
 have HS1:Hid (w.heap.size + 1 < w1.heap.size):=Lib.hid (Nat.lt_of_lt_of_le h2 hb.size)
 have HX1:=Lib.hid (HX.out.next hb)
 have HR1:Hid (rep w1 (Zb (w.heap.size + 2) w1.heap.size) cs h):=Lib.hid (Rep.more hr ⟨fun b (hb:W0.heap.size ≤ b∧b < w1.heap.size)=>⟨by omega,hb.2⟩,fun e=>by cases e⟩)
 have HLN:=Lib.hid (show cs.length = z4.length from hl4)
 clear hl4 h1c hP hx hy hb hr h2
 by_cases h0:x = 0
 ·subst h0
  go_wp2_with (first
   |(with_reducible refine wpList_alloc_row rfl 26 rfl z4 z4_zero ?_)
   |(with_reducible refine wpList_store_agg rfl 26 _ _ rfl w1.heap.size 0 cs rfl rfl 26 z4 HQ.out HC.out.1 (by rw [HC.out.2.1];exact of_decide_eq_true (by kernel_rfl)) HC.out.2.2 ?_;have hZ:=laid_row w1 26 z4 cs HLN.out;generalize World.setRow _ _ _ = w2 at hZ ⊢;have HZ:=Lib.hid hZ;clear hZ;refine halt ?_))
  unfold Halt
  have hS:PlS w w1.heap.size cs h w2:=by
   have h1:=HS1.out
   exact ⟨(HX1.out.next HZ.out.1).below,(HX1.out.next HZ.out.1).res,HZ.out.2.1,⟨h1,by rw [HZ.out.2.2];omega⟩,Rep.keep HR1.out (Keeps.of_below HZ.out.1 fun k (hk:w.heap.size + 2 ≤ k∧k < w1.heap.size)=>hk.2)⟩
  obtain ⟨A1,k1,A2,k2,A3,k3,A4,k4,hcs,-,-,-,-⟩:=open_GraphD hS.dat
  have HOF:=Lib.hid (HP.out.2.1 rfl)
  obtain ⟨q5,hq5⟩:∃ q5,w1.heap.size = q5:=⟨_,rfl⟩
  subst hcs
  rw [hq5] at hS ⊢
  have HS:=Lib.hid hS
  have hb1:=HG.out.2.1
  have hvl:h.vals.length = g.vals.length:=HOF.out.2.2.2.2.1
  rw [← hvl] at hb1
  have HVB:=Lib.hid hb1
  clear hS HZ HQ HR1 HX1 HS1 HLN HX hq5 hvl hb1
  have hgb:h.outputs.length ≤ 1048576∧h.nodes.length ≤ 1048576∧∀ n ∈ h.nodes,n.ins.length ≤ 1048576:=by
   obtain ⟨-,e1,-,e3,-,-⟩:=HOF.out
   rw [e1,e3]
   exact ⟨HG.out.2.2.2.2.1,HG.out.2.2.2.2.2,HG.out.2.2.2.1⟩
  have HGB:=Lib.hid hgb
  clear hgb
  go_upto_region 4 with (fail)
  go_cut [8] from 30 to 38 (fun v wx=>∃ (m q8 qs:Nat) (vL:Value),v = .pointer (some ⟨q8,0,none⟩)∧PlO w m q5 q8 qs ([.slice A1 h.vals.length k1,.slice A2 h.nodes.length k2,.slice A3 h.inputs.length k3,.slice A4 h.outputs.length k4]:List Value) h vL (liveD h) (List.replicate h.vals.length 0) (.slice none 0 0) [] [] wx)
  case first =>
   refine wp_region_held_drew (S:=fun W=>W.heap[q5]? = some (.cells ([.slice A1 h.vals.length k1,.slice A2 h.nodes.length k2,.slice A3 h.inputs.length k3,.slice A4 h.outputs.length k4]:List Value).toArray 26 (0,0))) (by kernel_rfl) (HS.out.next ((Below.refl _ _).drew)).g5 (fun hHeld=>?_)
   have h5:=HS.out.next ((Below.refl _ _).drew)
   generalize World.drew _ = W5 at hHeld h5 ⊢
   have H5:=Lib.hid h5
   clear h5
   have L0:=Lib.hid (Lay3.start W5 h.vals.length (liveD h))
   refine tk9 0 (some 30) (v:=.agg ([.slice A1 h.vals.length k1,.slice A2 h.nodes.length k2,.slice A3 h.inputs.length k3,.slice A4 h.outputs.length k4]:List Value).toArray) rfl (yields_load_agg (by kernel_rfl) _ _ rfl _ q5 0 (by kernel_rfl) ([.slice A1 h.vals.length k1,.slice A2 h.nodes.length k2,.slice A3 h.inputs.length k3,.slice A4 h.outputs.length k4]:List Value) Tryz.underlying26 rfl (by kernel_rfl) (fun W h=>At.of_row h)) hHeld ?_
   refine tk9 1 (some 31) (v:=.agg ([.slice A1 h.vals.length k1,.slice A2 h.nodes.length k2,.slice A3 h.inputs.length k3,.slice A4 h.outputs.length k4]:List Value).toArray) rfl (yields_load_agg (by kernel_rfl) _ _ rfl _ q5 0 (by kernel_rfl) ([.slice A1 h.vals.length k1,.slice A2 h.nodes.length k2,.slice A3 h.inputs.length k3,.slice A4 h.outputs.length k4]:List Value) Tryz.underlying26 rfl (by kernel_rfl) (fun W h=>At.of_row h)) hHeld ?_
   refine tk0 3 (some 33) (v:=.pointer (some ⟨q5,0,none⟩)) rfl hHeld ?_
   refine tk9 4 (some 34) (v:=.slice A1 h.vals.length k1) rfl (yields_load_one9 (by kernel_rfl) _ _ rfl q5 0 (by kernel_rfl) _ _ Tryz.underlying22 rfl (fun _ h=>cell_row h rfl)) hHeld ?_
   refine tk0 5 (some 35) (v:=.int .i64 (h.vals.length:Int)) rfl hHeld ?_
   refine anyH_call_lay2 2 6 8 (some 32) rfl rfl rfl rfl (by kernel_rfl) (by kernel_rfl) 25 _ _ rfl #[.agg ([.slice A1 h.vals.length k1,.slice A2 h.nodes.length k2,.slice A3 h.inputs.length k3,.slice A4 h.outputs.length k4]:List Value).toArray] (by kernel_rfl) (fun w=>by kernel_rfl) ?x1a ?x1b ?x1c
   case x1a =>
    refine (live_any _ h W5 (H5.out.next L0.out.below).graph HGB.out.1 HGB.out.2.1 HGB.out.2.2).mono ?_
    rintro e V2 ⟨v,rfl,hv,hb⟩
    obtain ⟨AL,kL,ev⟩:=slice_form hv
    injection ev with ev
    subst ev
    have L2:=Lib.hid (L0.out.live hb hv)
    clear hb hv
    refine ⟨_,rfl,(H5.out.next L2.out.below).g5,?_⟩
    refine anyH_2 6 8 rfl rfl (by kernel_rfl) ?x3a ?x3b
    case x3a =>
     have L4:=Lib.hid L2.out.sizes
     refine steps_make_ints _ _ h.vals.length (by kernel_rfl) rfl HVB.out (by kernel_rfl) (by kernel_rfl) (H5.out.next L4.out.below).g5 ?_
     obtain ⟨qs,hq⟩:∃ q,V2.heap.size = q:=⟨_,rfl⟩
     generalize World.alloc _ _ = V4 at L4 ⊢
     rw [hq] at L4 ⊢
     clear hq
     refine tk9 7 (some 37) (v:=.agg (([.slice A1 h.vals.length k1,.slice A2 h.nodes.length k2,.slice A3 h.inputs.length k3,.slice A4 h.outputs.length k4]:List Value)++[.slice none 0 0,.slice (some ⟨qs,0,none⟩) h.vals.length h.vals.length,.slice AL (liveD h).length kL]:List Value).toArray) rfl (Or.inl ⟨by kernel_rfl,fun w _=>by kernel_rfl⟩) (H5.out.next L4.out.below).g5 ?_
     refine anyH_1 8 rfl (by kernel_rfl) ?x5a
     case x5a =>
      have L6:=Lib.hid L4.out.plan
      refine steps_lay (.pointer (some ⟨V4.heap.size,0,none⟩)) (.cells z7.toArray 30) (by kernel_rfl) (by kernel_rfl) (H5.out.next L6.out.below).g5 ?_
      obtain ⟨q8,hq⟩:∃ q,V4.heap.size = q:=⟨_,rfl⟩
      generalize World.alloc _ _ = V6 at L6 ⊢
      rw [hq] at L6 ⊢
      clear hq
      have HONE:=Lib.hid (show ∀ u ∈ (([.slice A1 h.vals.length k1,.slice A2 h.nodes.length k2,.slice A3 h.inputs.length k3,.slice A4 h.outputs.length k4]:List Value)++[.slice none 0 0,.slice (some ⟨qs,0,none⟩) h.vals.length h.vals.length,.slice AL (liveD h).length kL]:List Value),u.oneCell' = true from fun u hu=>by
       simp only [List.cons_append,List.nil_append,List.mem_cons,List.not_mem_nil,or_false] at hu
       rcases hu with rfl | rfl | rfl | rfl | rfl | rfl | rfl <;> rfl)
      have hF:=Lay3.fin H5.out L6.out (cs:=(([.slice A1 h.vals.length k1,.slice A2 h.nodes.length k2,.slice A3 h.inputs.length k3,.slice A4 h.outputs.length k4]:List Value)++[.slice none 0 0,.slice (some ⟨qs,0,none⟩) h.vals.length h.vals.length,.slice AL (liveD h).length kL]:List Value)) rfl
      obtain ⟨hF1,hF2⟩:=hF
      have HF1:=Lib.hid hF1
      clear hF1
      refine anyH_store_agg 9 rfl (by kernel_rfl) (by kernel_rfl) 30 _ _ rfl q8 0 (([.slice A1 h.vals.length k1,.slice A2 h.nodes.length k2,.slice A3 h.inputs.length k3,.slice A4 h.outputs.length k4]:List Value)++[.slice none 0 0,.slice (some ⟨qs,0,none⟩) h.vals.length h.vals.length,.slice AL (liveD h).length kL]:List Value) (by kernel_rfl) (by kernel_rfl) 30 z7 HF1.out (by kernel_rfl) (of_decide_eq_true (by kernel_rfl)) HONE.out (by exact hF2.g5) ?_
      generalize World.setRow _ _ _ = W9 at hF2 ⊢
      have HF2:=Lib.hid hF2
      refine wpAnyH_done (by kernel_rfl) ?_ _
      clear hHeld hF2
      simp [Act.put]
      go_wp2
      go_meet
      exact ⟨_,q8,qs,_,rfl,HF2.out⟩
    case x3b =>
     have L7:=Lib.hid L2.out.plan
     refine steps_lay (.pointer (some ⟨V2.heap.size,0,none⟩)) (.cells z7.toArray 30) (by kernel_rfl) (by kernel_rfl) (H5.out.next L7.out.below).g5 ?_
     obtain ⟨q8,hq⟩:∃ q,V2.heap.size = q:=⟨_,rfl⟩
     generalize World.alloc _ _ = V7 at L7 ⊢
     rw [hq] at L7 ⊢
     clear hq
     refine anyH_1 6 rfl (by kernel_rfl) ?x8a
     case x8a =>
      have L9:=Lib.hid L7.out.sizes
      refine steps_make_ints _ _ h.vals.length (by kernel_rfl) rfl HVB.out (by kernel_rfl) (by kernel_rfl) (H5.out.next L9.out.below).g5 ?_
      obtain ⟨qs,hq⟩:∃ q,V7.heap.size = q:=⟨_,rfl⟩
      generalize World.alloc _ _ = V9 at L9 ⊢
      rw [hq] at L9 ⊢
      clear hq
      refine tk9 7 (some 37) (v:=.agg (([.slice A1 h.vals.length k1,.slice A2 h.nodes.length k2,.slice A3 h.inputs.length k3,.slice A4 h.outputs.length k4]:List Value)++[.slice none 0 0,.slice (some ⟨qs,0,none⟩) h.vals.length h.vals.length,.slice AL (liveD h).length kL]:List Value).toArray) rfl (Or.inl ⟨by kernel_rfl,fun w _=>by kernel_rfl⟩) (H5.out.next L9.out.below).g5 ?_
      have HONE:=Lib.hid (show ∀ u ∈ (([.slice A1 h.vals.length k1,.slice A2 h.nodes.length k2,.slice A3 h.inputs.length k3,.slice A4 h.outputs.length k4]:List Value)++[.slice none 0 0,.slice (some ⟨qs,0,none⟩) h.vals.length h.vals.length,.slice AL (liveD h).length kL]:List Value),u.oneCell' = true from fun u hu=>by
       simp only [List.cons_append,List.nil_append,List.mem_cons,List.not_mem_nil,or_false] at hu
       rcases hu with rfl | rfl | rfl | rfl | rfl | rfl | rfl <;> rfl)
      have hF:=Lay3.fin H5.out L9.out (cs:=(([.slice A1 h.vals.length k1,.slice A2 h.nodes.length k2,.slice A3 h.inputs.length k3,.slice A4 h.outputs.length k4]:List Value)++[.slice none 0 0,.slice (some ⟨qs,0,none⟩) h.vals.length h.vals.length,.slice AL (liveD h).length kL]:List Value)) rfl
      obtain ⟨hF1,hF2⟩:=hF
      have HF1:=Lib.hid hF1
      clear hF1
      refine anyH_store_agg 9 rfl (by kernel_rfl) (by kernel_rfl) 30 _ _ rfl q8 0 (([.slice A1 h.vals.length k1,.slice A2 h.nodes.length k2,.slice A3 h.inputs.length k3,.slice A4 h.outputs.length k4]:List Value)++[.slice none 0 0,.slice (some ⟨qs,0,none⟩) h.vals.length h.vals.length,.slice AL (liveD h).length kL]:List Value) (by kernel_rfl) (by kernel_rfl) 30 z7 HF1.out (by kernel_rfl) (of_decide_eq_true (by kernel_rfl)) HONE.out (by exact hF2.g5) ?_
      generalize World.setRow _ _ _ = W9 at hF2 ⊢
      have HF2:=Lib.hid hF2
      refine wpAnyH_done (by kernel_rfl) ?_ _
      clear hHeld hF2
      simp [Act.put]
      go_wp2
      go_meet
      exact ⟨_,q8,qs,_,rfl,HF2.out⟩
   case x1b =>
    have L10:=Lib.hid L0.out.sizes
    refine steps_make_ints _ _ h.vals.length (by kernel_rfl) rfl HVB.out (by kernel_rfl) (by kernel_rfl) (H5.out.next L10.out.below).g5 ?_
    obtain ⟨qs,hq⟩:∃ q,W5.heap.size = q:=⟨_,rfl⟩
    generalize World.alloc _ _ = V10 at L10 ⊢
    rw [hq] at L10 ⊢
    clear hq
    refine anyH_call_lay 2 8 (some 32) rfl rfl rfl (by kernel_rfl) (by kernel_rfl) 25 _ _ rfl #[.agg ([.slice A1 h.vals.length k1,.slice A2 h.nodes.length k2,.slice A3 h.inputs.length k3,.slice A4 h.outputs.length k4]:List Value).toArray] (by kernel_rfl) (fun w=>by kernel_rfl) ?x11a ?x11b
    case x11a =>
     refine (live_any _ h V10 (H5.out.next L10.out.below).graph HGB.out.1 HGB.out.2.1 HGB.out.2.2).mono ?_
     rintro e V12 ⟨v,rfl,hv,hb⟩
     obtain ⟨AL,kL,ev⟩:=slice_form hv
     injection ev with ev
     subst ev
     have L12:=Lib.hid (L10.out.live hb hv)
     clear hb hv
     refine ⟨_,rfl,(H5.out.next L12.out.below).g5,?_⟩
     refine tk9 7 (some 37) (v:=.agg (([.slice A1 h.vals.length k1,.slice A2 h.nodes.length k2,.slice A3 h.inputs.length k3,.slice A4 h.outputs.length k4]:List Value)++[.slice none 0 0,.slice (some ⟨qs,0,none⟩) h.vals.length h.vals.length,.slice AL (liveD h).length kL]:List Value).toArray) rfl (Or.inl ⟨by kernel_rfl,fun w _=>by kernel_rfl⟩) (H5.out.next L12.out.below).g5 ?_
     refine anyH_1 8 rfl (by kernel_rfl) ?x13a
     case x13a =>
      have L14:=Lib.hid L12.out.plan
      refine steps_lay (.pointer (some ⟨V12.heap.size,0,none⟩)) (.cells z7.toArray 30) (by kernel_rfl) (by kernel_rfl) (H5.out.next L14.out.below).g5 ?_
      obtain ⟨q8,hq⟩:∃ q,V12.heap.size = q:=⟨_,rfl⟩
      generalize World.alloc _ _ = V14 at L14 ⊢
      rw [hq] at L14 ⊢
      clear hq
      have HONE:=Lib.hid (show ∀ u ∈ (([.slice A1 h.vals.length k1,.slice A2 h.nodes.length k2,.slice A3 h.inputs.length k3,.slice A4 h.outputs.length k4]:List Value)++[.slice none 0 0,.slice (some ⟨qs,0,none⟩) h.vals.length h.vals.length,.slice AL (liveD h).length kL]:List Value),u.oneCell' = true from fun u hu=>by
       simp only [List.cons_append,List.nil_append,List.mem_cons,List.not_mem_nil,or_false] at hu
       rcases hu with rfl | rfl | rfl | rfl | rfl | rfl | rfl <;> rfl)
      have hF:=Lay3.fin H5.out L14.out (cs:=(([.slice A1 h.vals.length k1,.slice A2 h.nodes.length k2,.slice A3 h.inputs.length k3,.slice A4 h.outputs.length k4]:List Value)++[.slice none 0 0,.slice (some ⟨qs,0,none⟩) h.vals.length h.vals.length,.slice AL (liveD h).length kL]:List Value)) rfl
      obtain ⟨hF1,hF2⟩:=hF
      have HF1:=Lib.hid hF1
      clear hF1
      refine anyH_store_agg 9 rfl (by kernel_rfl) (by kernel_rfl) 30 _ _ rfl q8 0 (([.slice A1 h.vals.length k1,.slice A2 h.nodes.length k2,.slice A3 h.inputs.length k3,.slice A4 h.outputs.length k4]:List Value)++[.slice none 0 0,.slice (some ⟨qs,0,none⟩) h.vals.length h.vals.length,.slice AL (liveD h).length kL]:List Value) (by kernel_rfl) (by kernel_rfl) 30 z7 HF1.out (by kernel_rfl) (of_decide_eq_true (by kernel_rfl)) HONE.out (by exact hF2.g5) ?_
      generalize World.setRow _ _ _ = W9 at hF2 ⊢
      have HF2:=Lib.hid hF2
      refine wpAnyH_done (by kernel_rfl) ?_ _
      clear hHeld hF2
      simp [Act.put]
      go_wp2
      go_meet
      exact ⟨_,q8,qs,_,rfl,HF2.out⟩
    case x11b =>
     have L15:=Lib.hid L10.out.plan
     refine steps_lay (.pointer (some ⟨V10.heap.size,0,none⟩)) (.cells z7.toArray 30) (by kernel_rfl) (by kernel_rfl) (H5.out.next L15.out.below).g5 ?_
     obtain ⟨q8,hq⟩:∃ q,V10.heap.size = q:=⟨_,rfl⟩
     generalize World.alloc _ _ = V15 at L15 ⊢
     rw [hq] at L15 ⊢
     clear hq
     refine call_d9 2 (some 32) rfl (by kernel_rfl) (by kernel_rfl) (by kernel_rfl) 25 _ _ rfl #[.agg ([.slice A1 h.vals.length k1,.slice A2 h.nodes.length k2,.slice A3 h.inputs.length k3,.slice A4 h.outputs.length k4]:List Value).toArray] (by kernel_rfl) (fun w=>by kernel_rfl) ?x16a
     case x16a =>
      refine (live_any _ h V15 (H5.out.next L15.out.below).graph HGB.out.1 HGB.out.2.1 HGB.out.2.2).mono ?_
      rintro e V17 ⟨v,rfl,hv,hb⟩
      obtain ⟨AL,kL,ev⟩:=slice_form hv
      injection ev with ev
      subst ev
      have L17:=Lib.hid (L15.out.live hb hv)
      clear hb hv
      refine ⟨_,rfl,(H5.out.next L17.out.below).g5,?_⟩
      refine tk9 7 (some 37) (v:=.agg (([.slice A1 h.vals.length k1,.slice A2 h.nodes.length k2,.slice A3 h.inputs.length k3,.slice A4 h.outputs.length k4]:List Value)++[.slice none 0 0,.slice (some ⟨qs,0,none⟩) h.vals.length h.vals.length,.slice AL (liveD h).length kL]:List Value).toArray) rfl (Or.inl ⟨by kernel_rfl,fun w _=>by kernel_rfl⟩) (H5.out.next L17.out.below).g5 ?_
      have HONE:=Lib.hid (show ∀ u ∈ (([.slice A1 h.vals.length k1,.slice A2 h.nodes.length k2,.slice A3 h.inputs.length k3,.slice A4 h.outputs.length k4]:List Value)++[.slice none 0 0,.slice (some ⟨qs,0,none⟩) h.vals.length h.vals.length,.slice AL (liveD h).length kL]:List Value),u.oneCell' = true from fun u hu=>by
       simp only [List.cons_append,List.nil_append,List.mem_cons,List.not_mem_nil,or_false] at hu
       rcases hu with rfl | rfl | rfl | rfl | rfl | rfl | rfl <;> rfl)
      have hF:=Lay3.fin H5.out L17.out (cs:=(([.slice A1 h.vals.length k1,.slice A2 h.nodes.length k2,.slice A3 h.inputs.length k3,.slice A4 h.outputs.length k4]:List Value)++[.slice none 0 0,.slice (some ⟨qs,0,none⟩) h.vals.length h.vals.length,.slice AL (liveD h).length kL]:List Value)) rfl
      obtain ⟨hF1,hF2⟩:=hF
      have HF1:=Lib.hid hF1
      clear hF1
      refine anyH_store_agg 9 rfl (by kernel_rfl) (by kernel_rfl) 30 _ _ rfl q8 0 (([.slice A1 h.vals.length k1,.slice A2 h.nodes.length k2,.slice A3 h.inputs.length k3,.slice A4 h.outputs.length k4]:List Value)++[.slice none 0 0,.slice (some ⟨qs,0,none⟩) h.vals.length h.vals.length,.slice AL (liveD h).length kL]:List Value) (by kernel_rfl) (by kernel_rfl) 30 z7 HF1.out (by kernel_rfl) (of_decide_eq_true (by kernel_rfl)) HONE.out (by exact hF2.g5) ?_
      generalize World.setRow _ _ _ = W9 at hF2 ⊢
      have HF2:=Lib.hid hF2
      refine wpAnyH_done (by kernel_rfl) ?_ _
      clear hHeld hF2
      simp [Act.put]
      go_wp2
      go_meet
      exact ⟨_,q8,qs,_,rfl,HF2.out⟩
   case x1c =>
    have L18:=Lib.hid L0.out.plan
    refine steps_lay (.pointer (some ⟨W5.heap.size,0,none⟩)) (.cells z7.toArray 30) (by kernel_rfl) (by kernel_rfl) (H5.out.next L18.out.below).g5 ?_
    obtain ⟨q8,hq⟩:∃ q,W5.heap.size = q:=⟨_,rfl⟩
    generalize World.alloc _ _ = V18 at L18 ⊢
    rw [hq] at L18 ⊢
    clear hq
    refine anyH_call_lay 2 6 (some 32) rfl rfl rfl (by kernel_rfl) (by kernel_rfl) 25 _ _ rfl #[.agg ([.slice A1 h.vals.length k1,.slice A2 h.nodes.length k2,.slice A3 h.inputs.length k3,.slice A4 h.outputs.length k4]:List Value).toArray] (by kernel_rfl) (fun w=>by kernel_rfl) ?x19a ?x19b
    case x19a =>
     refine (live_any _ h V18 (H5.out.next L18.out.below).graph HGB.out.1 HGB.out.2.1 HGB.out.2.2).mono ?_
     rintro e V20 ⟨v,rfl,hv,hb⟩
     obtain ⟨AL,kL,ev⟩:=slice_form hv
     injection ev with ev
     subst ev
     have L20:=Lib.hid (L18.out.live hb hv)
     clear hb hv
     refine ⟨_,rfl,(H5.out.next L20.out.below).g5,?_⟩
     refine anyH_1 6 rfl (by kernel_rfl) ?x21a
     case x21a =>
      have L22:=Lib.hid L20.out.sizes
      refine steps_make_ints _ _ h.vals.length (by kernel_rfl) rfl HVB.out (by kernel_rfl) (by kernel_rfl) (H5.out.next L22.out.below).g5 ?_
      obtain ⟨qs,hq⟩:∃ q,V20.heap.size = q:=⟨_,rfl⟩
      generalize World.alloc _ _ = V22 at L22 ⊢
      rw [hq] at L22 ⊢
      clear hq
      refine tk9 7 (some 37) (v:=.agg (([.slice A1 h.vals.length k1,.slice A2 h.nodes.length k2,.slice A3 h.inputs.length k3,.slice A4 h.outputs.length k4]:List Value)++[.slice none 0 0,.slice (some ⟨qs,0,none⟩) h.vals.length h.vals.length,.slice AL (liveD h).length kL]:List Value).toArray) rfl (Or.inl ⟨by kernel_rfl,fun w _=>by kernel_rfl⟩) (H5.out.next L22.out.below).g5 ?_
      have HONE:=Lib.hid (show ∀ u ∈ (([.slice A1 h.vals.length k1,.slice A2 h.nodes.length k2,.slice A3 h.inputs.length k3,.slice A4 h.outputs.length k4]:List Value)++[.slice none 0 0,.slice (some ⟨qs,0,none⟩) h.vals.length h.vals.length,.slice AL (liveD h).length kL]:List Value),u.oneCell' = true from fun u hu=>by
       simp only [List.cons_append,List.nil_append,List.mem_cons,List.not_mem_nil,or_false] at hu
       rcases hu with rfl | rfl | rfl | rfl | rfl | rfl | rfl <;> rfl)
      have hF:=Lay3.fin H5.out L22.out (cs:=(([.slice A1 h.vals.length k1,.slice A2 h.nodes.length k2,.slice A3 h.inputs.length k3,.slice A4 h.outputs.length k4]:List Value)++[.slice none 0 0,.slice (some ⟨qs,0,none⟩) h.vals.length h.vals.length,.slice AL (liveD h).length kL]:List Value)) rfl
      obtain ⟨hF1,hF2⟩:=hF
      have HF1:=Lib.hid hF1
      clear hF1
      refine anyH_store_agg 9 rfl (by kernel_rfl) (by kernel_rfl) 30 _ _ rfl q8 0 (([.slice A1 h.vals.length k1,.slice A2 h.nodes.length k2,.slice A3 h.inputs.length k3,.slice A4 h.outputs.length k4]:List Value)++[.slice none 0 0,.slice (some ⟨qs,0,none⟩) h.vals.length h.vals.length,.slice AL (liveD h).length kL]:List Value) (by kernel_rfl) (by kernel_rfl) 30 z7 HF1.out (by kernel_rfl) (of_decide_eq_true (by kernel_rfl)) HONE.out (by exact hF2.g5) ?_
      generalize World.setRow _ _ _ = W9 at hF2 ⊢
      have HF2:=Lib.hid hF2
      refine wpAnyH_done (by kernel_rfl) ?_ _
      clear hHeld hF2
      simp [Act.put]
      go_wp2
      go_meet
      exact ⟨_,q8,qs,_,rfl,HF2.out⟩
    case x19b =>
     have L23:=Lib.hid L18.out.sizes
     refine steps_make_ints _ _ h.vals.length (by kernel_rfl) rfl HVB.out (by kernel_rfl) (by kernel_rfl) (H5.out.next L23.out.below).g5 ?_
     obtain ⟨qs,hq⟩:∃ q,V18.heap.size = q:=⟨_,rfl⟩
     generalize World.alloc _ _ = V23 at L23 ⊢
     rw [hq] at L23 ⊢
     clear hq
     refine call_d9 2 (some 32) rfl (by kernel_rfl) (by kernel_rfl) (by kernel_rfl) 25 _ _ rfl #[.agg ([.slice A1 h.vals.length k1,.slice A2 h.nodes.length k2,.slice A3 h.inputs.length k3,.slice A4 h.outputs.length k4]:List Value).toArray] (by kernel_rfl) (fun w=>by kernel_rfl) ?x24a
     case x24a =>
      refine (live_any _ h V23 (H5.out.next L23.out.below).graph HGB.out.1 HGB.out.2.1 HGB.out.2.2).mono ?_
      rintro e V25 ⟨v,rfl,hv,hb⟩
      obtain ⟨AL,kL,ev⟩:=slice_form hv
      injection ev with ev
      subst ev
      have L25:=Lib.hid (L23.out.live hb hv)
      clear hb hv
      refine ⟨_,rfl,(H5.out.next L25.out.below).g5,?_⟩
      refine tk9 7 (some 37) (v:=.agg (([.slice A1 h.vals.length k1,.slice A2 h.nodes.length k2,.slice A3 h.inputs.length k3,.slice A4 h.outputs.length k4]:List Value)++[.slice none 0 0,.slice (some ⟨qs,0,none⟩) h.vals.length h.vals.length,.slice AL (liveD h).length kL]:List Value).toArray) rfl (Or.inl ⟨by kernel_rfl,fun w _=>by kernel_rfl⟩) (H5.out.next L25.out.below).g5 ?_
      have HONE:=Lib.hid (show ∀ u ∈ (([.slice A1 h.vals.length k1,.slice A2 h.nodes.length k2,.slice A3 h.inputs.length k3,.slice A4 h.outputs.length k4]:List Value)++[.slice none 0 0,.slice (some ⟨qs,0,none⟩) h.vals.length h.vals.length,.slice AL (liveD h).length kL]:List Value),u.oneCell' = true from fun u hu=>by
       simp only [List.cons_append,List.nil_append,List.mem_cons,List.not_mem_nil,or_false] at hu
       rcases hu with rfl | rfl | rfl | rfl | rfl | rfl | rfl <;> rfl)
      have hF:=Lay3.fin H5.out L25.out (cs:=(([.slice A1 h.vals.length k1,.slice A2 h.nodes.length k2,.slice A3 h.inputs.length k3,.slice A4 h.outputs.length k4]:List Value)++[.slice none 0 0,.slice (some ⟨qs,0,none⟩) h.vals.length h.vals.length,.slice AL (liveD h).length kL]:List Value)) rfl
      obtain ⟨hF1,hF2⟩:=hF
      have HF1:=Lib.hid hF1
      clear hF1
      refine anyH_store_agg 9 rfl (by kernel_rfl) (by kernel_rfl) 30 _ _ rfl q8 0 (([.slice A1 h.vals.length k1,.slice A2 h.nodes.length k2,.slice A3 h.inputs.length k3,.slice A4 h.outputs.length k4]:List Value)++[.slice none 0 0,.slice (some ⟨qs,0,none⟩) h.vals.length h.vals.length,.slice AL (liveD h).length kL]:List Value) (by kernel_rfl) (by kernel_rfl) 30 z7 HF1.out (by kernel_rfl) (of_decide_eq_true (by kernel_rfl)) HONE.out (by exact hF2.g5) ?_
      generalize World.setRow _ _ _ = W9 at hF2 ⊢
      have HF2:=Lib.hid hF2
      refine wpAnyH_done (by kernel_rfl) ?_ _
      clear hHeld hF2
      simp [Act.put]
      go_wp2
      go_meet
      exact ⟨_,q8,qs,_,rfl,HF2.out⟩
  case rest =>
   obtain ⟨m,q8,qs,vL,rfl,hI⟩:=hcut
   obtain ⟨wb,rfl⟩:∃ wb,wb = wc:=⟨_,rfl⟩
   obtain ⟨AL,kL,ev⟩:=slice_form hI.liv
   injection ev with ev
   subst ev
   obtain ⟨nI1,nI2⟩:=slice_bnd (graph_parts hI.dat).2.2.1
   obtain ⟨nN1,nN2⟩:=slice_bnd (graph_parts hI.dat).2.1
   have HI:=Lib.hid hI
   have c5:=hI.cell5 (j:=2) rfl
   clear hI
   go_wp2_with fail
   clear c5
   go_loopw [41] (fun i wr=>∃ c:Nat,i = .int .i64 c∧c ≤ h.inputs.length∧PlO w m q5 q8 qs ([.slice A1 h.vals.length k1,.slice A2 h.nodes.length k2,.slice A3 h.inputs.length k3,.slice A4 h.outputs.length k4]:List Value) h (.slice AL (liveD h).length kL) (liveD h) (putS h.vals (List.replicate h.vals.length 0) (h.inputs.take c)) (.slice none 0 0) [] [] wr) (fun i _=>h.inputs.length - (intOf i).toNat)
   case atStart=>exact ⟨0,rfl,Nat.zero_le _,HI.out⟩
   case round =>
    obtain ⟨c,rfl,hcl,hJ⟩:=hrel
    obtain ⟨wx,rfl⟩:∃ wx,wx = wr:=⟨_,rfl⟩
    by_cases hlt:c < h.inputs.length
    ·have hlt':(c:Int) < (h.inputs.length:Int):=by omega
     have hk0:(0:Int) ≤ (c:Int):=Int.natCast_nonneg _
     obtain ⟨kk,hkk⟩:∃ k,h.inputs[c]? = some k:=⟨_,List.getElem?_eq_getElem hlt⟩
     obtain ⟨kr0,kr1⟩:=HOF.out.1.inputs kk (List.mem_of_getElem? hkk)
     obtain ⟨j,rfl⟩:∃ j:Nat,kk = (j:Int):=⟨kk.toNat,by omega⟩
     obtain ⟨-,b3,o3,rfl,hb3,hc3⟩:=int_at (graph_parts hJ.dat).2.2.1 hkk
     obtain ⟨szl,hszl⟩:∃ szl,putS h.vals (List.replicate h.vals.length 0) (h.inputs.take c) = szl:=⟨_,rfl⟩
     have hsl:szl.length = h.vals.length:=by rw [← hszl,putS_len,List.length_replicate]
     rw [hszl] at hJ
     have HSZL:=Lib.hid hszl
     have HKK:=Lib.hid hkk
     clear hszl hkk hb3
     obtain ⟨v,hv⟩:∃ v,h.vals[j]? = some v:=⟨_,List.getElem?_eq_getElem (by omega)⟩
     have HJ:=Lib.hid hJ
     have HSL:=Lib.hid (And.intro hsl (show j < h.vals.length by omega))
     have HV:=Lib.hid hv
     clear hJ hsl kr0 kr1 hv
     go_wp2_with fail
     clear hc3
     obtain ⟨b1,o1,vc,rfl,hb1,hat,hrv⟩:=elem_val (graph_parts HJ.out.dat).1 HV.out
     have hH0:PlO w m q5 q8 qs ([.slice (some ⟨b1,o1,none⟩) h.vals.length k1,.slice A2 h.nodes.length k2,.slice (some ⟨b3,o3,none⟩) h.inputs.length k3,.slice A4 h.outputs.length k4]:List Value) h (.slice AL (liveD h).length kL) (liveD h) szl (.slice none 0 0) [] [] wx.drew∧At wx.drew b1 (o1 + j * 8) vc∧rep wx.drew (old wx.drew.heap.size) vc v∧True:=by
      have hbb:Below wx.heap.size wx wx.drew:=(Below.refl _ _).drew
      have hlt:b1 < wx.heap.size:=HJ.out.zq.1 _ hb1
      exact ⟨HJ.out.next hbb,(fun i u hu=>(hbb.cell (p:=⟨b1,o1 + j * 8 + i,none⟩) hlt).trans (hat i u hu)),Rep.keep (Rep.more hrv HJ.out.zq) (Keeps.old_below hbb (Nat.le_refl _)),trivial⟩
     have HB1:Hid (b1 < m):=Lib.hid hb1.2.1
     have HVC:=Lib.hid (show (Tryz.prog.info? 45).map (·.size) = some vc.length by rw [show vc.length = 8 from Rep.len hrv];kernel_rfl)
     clear hat hrv hb1
     refine wp_region_tail [10] (S:=fun W=>PlO w m q5 q8 qs ([.slice (some ⟨b1,o1,none⟩) h.vals.length k1,.slice A2 h.nodes.length k2,.slice (some ⟨b3,o3,none⟩) h.inputs.length k3,.slice A4 h.outputs.length k4]:List Value) h (.slice AL (liveD h).length kL) (liveD h) szl (.slice none 0 0) [] [] W∧At W b1 (o1 + j * 8) vc∧rep W (old W.heap.size) vc v∧True) (by kernel_rfl) hH0 (fun hHeld=>?_)
     clear hH0
     generalize World.drew _ = V0 at hHeld ⊢
     refine tt9 0 (some 45) (v:=.pointer (some ⟨q8,5,none⟩)) rfl (Or.inl ⟨by kernel_rfl,fun w _=>by kernel_rfl⟩) hHeld ?_
     refine tt9 1 (some 46) (v:=.slice (some ⟨qs,0,none⟩) szl.length szl.length) rfl (yields_load_one9 (by kernel_rfl) _ _ rfl q8 5 (by kernel_rfl) _ _ Tryz.underlying24 rfl (fun _ h=>h.1.cell8 (j:=1) rfl)) hHeld ?_
     refine tt9 2 (some 47) (v:=.int .i64 (j:Int)) rfl (Or.inl ⟨by kernel_rfl,fun w _=>by kernel_rfl⟩) hHeld ?_
     refine tt9 3 (some 48) (v:=.pointer (some ⟨q5,0,none⟩)) rfl (Or.inl ⟨by kernel_rfl,fun w _=>by kernel_rfl⟩) hHeld ?_
     refine tt9 4 (some 49) (v:=.slice (some ⟨b1,o1,none⟩) h.vals.length k1) rfl (yields_load_one9 (by kernel_rfl) _ _ rfl q5 0 (by kernel_rfl) _ _ Tryz.underlying22 rfl (fun _ h=>h.1.cell5 rfl)) hHeld ?_
     refine tt9 5 (some 50) (v:=.int .i64 (j:Int)) rfl (Or.inl ⟨by kernel_rfl,fun w _=>by kernel_rfl⟩) hHeld ?_
     refine tt9 6 (some 51) (v:=.pointer (some ⟨b1,o1 + j * 8,none⟩)) rfl (yields_indexI (by kernel_rfl) _ _ _ rfl b1 o1 h.vals.length k1 j 8 (j:Int) (by kernel_rfl) (by kernel_rfl) Tryz.underlying22 (by kernel_rfl) rfl HSL.out.2) hHeld ?_
     refine tt9 7 (some 52) (v:=.agg vc.toArray) rfl (yields_load_agg (by kernel_rfl) _ _ rfl _ b1 (o1 + j * 8) (by kernel_rfl) vc Tryz.underlying45 rfl HVC.out (fun W h=>h.2.1)) hHeld ?_
     refine call_t9 8 (some 53) rfl (by kernel_rfl) (by kernel_rfl) (by kernel_rfl) 26 _ _ rfl #[.agg vc.toArray] (by kernel_rfl) (fun w=>by kernel_rfl) ?_
     refine (bytes_any vc v _ hHeld.2.2.1).mono ?_
     rintro e V1 ⟨rfl,hb⟩
     have hlm:m ≤ V0.heap.size:=hHeld.1.le
     have hlt1:b1 < V0.heap.size:=Nat.lt_of_lt_of_le HB1.out hlm
     replace hHeld:PlO w m q5 q8 qs ([.slice (some ⟨b1,o1,none⟩) h.vals.length k1,.slice A2 h.nodes.length k2,.slice (some ⟨b3,o3,none⟩) h.inputs.length k3,.slice A4 h.outputs.length k4]:List Value) h (.slice AL (liveD h).length kL) (liveD h) szl (.slice none 0 0) [] [] V1∧At V1 b1 (o1 + j * 8) vc∧rep V1 (old V1.heap.size) vc v∧True:=⟨hHeld.1.next hb,(fun i u hu=>(hb.cell (p:=⟨b1,o1 + j * 8 + i,none⟩) hlt1).trans (hHeld.2.1 i u hu)),Rep.more (Rep.keep hHeld.2.2.1 (Keeps.old_below hb (Nat.le_refl _))) (old_le hb.size),trivial⟩
     refine ⟨_,rfl,hHeld,?_⟩
     refine tt9 9 (some 54) (v:=.pointer (some ⟨qs,0 + j,none⟩)) rfl (yields_idx (by kernel_rfl) _ _ rfl qs 0 szl.length szl.length j (by kernel_rfl) (by kernel_rfl) (by rw [HSL.out.1];exact HSL.out.2)) hHeld ?_
     refine tail_free _ _ _ _ (by kernel_rfl) ?_
     have hX:=hHeld.1.size (0 + j) (bytesD v)
     have hS1:=hHeld.1.ss
     refine anyH_store_field 10 rfl (by kernel_rfl) (by kernel_rfl) 3 _ _ rfl qs (0 + j) (.int .i64 (bytesD v)) (by kernel_rfl) (by kernel_rfl) rfl (by kernel_rfl) 3 (szl.map (Value.int .i64)) (by exact hS1) (by rw [List.length_map,HSL.out.1,Nat.zero_add];exact HSL.out.2) trivial ?_
     refine wpAnyH_done (by kernel_rfl) ?_ _
     generalize World.setRow _ _ _ = w9 at hX ⊢
     have H9:=Lib.hid hX
     clear hX hS1 hHeld hlm hlt1 hb
     simp [Act.put]
     go_wp2
     go_roundw
     case rel =>
      refine ⟨c + 1,by go_num,by omega,?_⟩
      have h9:=H9.out
      rw [Nat.zero_add] at h9
      rw [List.take_add_one,HKK.out,Option.toList_some,putS_snoc,HSZL.out,Int.toNat_natCast,show bytesAt h.vals (j:Int) = bytesD v from by unfold bytesAt;rw [Int.toNat_natCast,HV.out];rfl]
      exact h9
     case measure=>simp [intOf];omega
    ·have hlt':¬ (c:Int) < (h.inputs.length:Int):=by omega
     have hJ0:PlO w m q5 q8 qs ([.slice A1 h.vals.length k1,.slice A2 h.nodes.length k2,.slice A3 h.inputs.length k3,.slice A4 h.outputs.length k4]:List Value) h (.slice AL (liveD h).length kL) (liveD h) (sizesD h (liveD h) 0) (.slice none 0 0) (tasksD h (liveD h) (szD h) 0) [] wx:=by
      rw [List.take_of_length_le (by omega)] at hJ
      exact hJ
     have HJ:=Lib.hid hJ0
     have c5:=hJ.cell5 (j:=1) rfl
     clear hJ hJ0
     go_wp2_with fail
     obtain ⟨wb2,rfl⟩:∃ wb2,wb2 = wx:=⟨_,rfl⟩
     go_loopw [59] (fun i wr=>∃ (c:Nat) (vT:Value) (xs:List Value),i = .int .i64 c∧c ≤ h.nodes.length∧PlO w m q5 q8 qs ([.slice A1 h.vals.length k1,.slice A2 h.nodes.length k2,.slice A3 h.inputs.length k3,.slice A4 h.outputs.length k4]:List Value) h (.slice AL (liveD h).length kL) (liveD h) (sizesD h (liveD h) c) vT (tasksD h (liveD h) (szD h) c) xs wr) (fun i _=>h.nodes.length - (intOf i).toNat)
     case atStart=>exact ⟨0,_,_,rfl,Nat.zero_le _,HJ.out⟩
     case round =>
      clear HJ
      obtain ⟨c,vT,xs,rfl,hcl,hJ⟩:=hrel
      obtain ⟨wy,rfl⟩:∃ wy,wy = wr:=⟨_,rfl⟩
      by_cases hlt:c < h.nodes.length
      ·have hlt':(c:Int) < (h.nodes.length:Int):=by omega
       have hk0:(0:Int) ≤ (c:Int):=Int.natCast_nonneg _
       obtain ⟨z,hz⟩:∃ z,h.nodes[c]? = some z:=⟨_,List.getElem?_eq_getElem hlt⟩
       obtain ⟨b2,o2,zc,rfl,hb2,hat,hrz⟩:=elem_node (graph_parts hJ.dat).2.1 hz
       obtain ⟨ss,I1,i1,O1,o1,-,z37,z38,-,-,zi,zo,-⟩:=gnode_facts hrz
       obtain ⟨nO1,nO2⟩:=slice_bnd zo
       have HA:=Lib.hid (And.intro hat (node_lay hrz))
       have HZ:=Lib.hid (And.intro hz (And.intro z37 z38))
       obtain ⟨lb,hlb⟩:∃ lb,(liveD h)[c]? = some lb:=⟨_,List.getElem?_eq_getElem (by rw [show (liveD h).length = h.nodes.length from liveS_len _ _];exact hlt)⟩
       obtain ⟨bL,oL,rfl,hbL,hcL⟩:=bool_at hJ.liv hlb
       have hll:(liveD h).length = h.nodes.length:=liveS_len _ _
       have hlt2:(c:Int) < ((liveD h).length:Int):=by omega
       have hE:ExN (w.heap.size + 2) m q5 q8 qs wy.heap.size zc z (wy.alloc (.cells zeroGN.toArray 50)) ∨ True:=.inr trivial
       have HJ:=Lib.hid hJ
       have HLB:=Lib.hid hlb
       have HRZ:=Lib.hid hrz
       have HCL:=Lib.hid (And.intro hcL (show bL < wy.heap.size from hJ.zq.1 _ hbL))
       clear hat z37 z38 zi zo hrz hz hb2 hbL hcL hJ hE hlb hll
       go_wp2_with (first
        |(with_reducible refine wpList_load_agg rfl 50 _ rfl _ _ _ rfl zc Tryz.underlying50 rfl HA.out.2.1 HA.out.1 ?_)
        |(with_reducible refine wpList_alloc_row rfl 50 rfl zeroGN zeroGN_zero ?_)
        |(with_reducible refine wpList_store_agg rfl 50 _ _ rfl _ 0 zc rfl rfl 50 zeroGN (heap_alloc_new _ _) HA.out.2.1 HA.out.2.2.1 HA.out.2.2.2.2 ?_;have hY:=laid_row wy 50 zeroGN zc HA.out.2.2.2.1;generalize World.setRow _ _ _ = w5 at hY ⊢;have HY:=Lib.hid hY;clear hY;refine halt ?_))
       unfold Halt
       obtain ⟨q12,hq⟩:∃ q,wy.heap.size = q:=⟨_,rfl⟩
       have hle:=HJ.out.le
       have hJ5:=HJ.out.next HY.out.1
       have hE5:ExN (w.heap.size + 2) m q5 q8 qs q12 zc z w5:=⟨by omega,by rw [← hq];exact HY.out.2.1,Rep.keep HRZ.out (Keeps.of_below HY.out.1 fun k (hk:w.heap.size + 2 ≤ k∧k < m∧k ≠ q5∧k ≠ q8∧k ≠ qs)=>by omega)⟩
       have hcL:=(HY.out.1.cell (p:=⟨bL,oL + c,none⟩) HCL.out.2).trans HCL.out.1
       have c86:w5.cell? ⟨q8,6,none⟩ = some (.slice (some ⟨bL,oL,none⟩) (liveD h).length kL):=hJ5.cell8 (j:=2) rfl
       rw [hq]
       have HJ5:=Lib.hid hJ5
       have HE5:=Lib.hid hE5
       clear hq hJ5 hE5 HY hle HCL
       cases lb with
       | false =>
        go_wp2
        go_roundw
        case rel=>exact ⟨c + 1,vT,xs,by go_num,by omega,by rw [sizesD_skip HLB.out,tasksD_skip HLB.out];exact HJ5.out⟩
        case measure=>simp [intOf];omega
       | true =>
        have c38:=cell_row HE5.out.row HZ.out.2.2
        go_wp2_with fail
        clear c38 c86 hcL
        go_loopw [73] (fun i wr=>∃ d:Nat,i = .int .i64 d∧d ≤ z.outs.length∧PlO w m q5 q8 qs ([.slice A1 h.vals.length k1,.slice (some ⟨b2,o2,none⟩) h.nodes.length k2,.slice A3 h.inputs.length k3,.slice A4 h.outputs.length k4]:List Value) h (.slice (some ⟨bL,oL,none⟩) (liveD h).length kL) (liveD h) (putS h.vals (sizesD h (liveD h) c) (z.outs.take d)) vT (tasksD h (liveD h) (szD h) c) xs wr∧ExN (w.heap.size + 2) m q5 q8 qs q12 zc z wr) (fun i _=>z.outs.length - (intOf i).toNat)
        case atStart=>exact ⟨0,rfl,Nat.zero_le _,HJ5.out,HE5.out⟩
        case round =>
         clear HJ5 HE5
         obtain ⟨d,rfl,hdl,hJ,hE⟩:=hrel
         obtain ⟨wx,rfl⟩:∃ wx,wx = wr:=⟨_,rfl⟩
         by_cases hltd:d < z.outs.length
         ·have hltd':(d:Int) < (z.outs.length:Int):=by omega
          have hkd0:(0:Int) ≤ (d:Int):=Int.natCast_nonneg _
          obtain ⟨kk,hkk⟩:∃ k,z.outs[d]? = some k:=⟨_,List.getElem?_eq_getElem hltd⟩
          obtain ⟨kr0,kr1⟩:=HOF.out.1.outs z (List.mem_of_getElem? HZ.out.1) kk (List.mem_of_getElem? hkk)
          obtain ⟨j,rfl⟩:∃ j:Nat,kk = (j:Int):=⟨kk.toNat,by omega⟩
          obtain ⟨-,b3,o3,rfl,hb3,hc3⟩:=int_at (node_outs hE.rz HZ.out.2.2) hkk
          obtain ⟨szl,hszl⟩:∃ szl,putS h.vals (sizesD h (liveD h) c) (z.outs.take d) = szl:=⟨_,rfl⟩
          have hsl:szl.length = h.vals.length:=by rw [← hszl,putS_len,sizesD_len]
          rw [hszl] at hJ
          have HSZL:=Lib.hid hszl
          have HKK:=Lib.hid hkk
          clear hszl hkk hb3
          obtain ⟨v,hv⟩:∃ v,h.vals[j]? = some v:=⟨_,List.getElem?_eq_getElem (by omega)⟩
          have HJ:=Lib.hid hJ
          have HEX:=Lib.hid hE
          have HSL:=Lib.hid (And.intro hsl (show j < h.vals.length by omega))
          have HV:=Lib.hid hv
          clear hJ hE hsl kr0 kr1 hv
          go_wp2_with fail
          clear hc3
          obtain ⟨b1,o1,vc,rfl,hb1,hat,hrv⟩:=elem_val (graph_parts HJ.out.dat).1 HV.out
          have hH0:PlO w m q5 q8 qs ([.slice (some ⟨b1,o1,none⟩) h.vals.length k1,.slice (some ⟨b2,o2,none⟩) h.nodes.length k2,.slice A3 h.inputs.length k3,.slice A4 h.outputs.length k4]:List Value) h (.slice (some ⟨bL,oL,none⟩) (liveD h).length kL) (liveD h) szl vT (tasksD h (liveD h) (szD h) c) xs wx.drew∧At wx.drew b1 (o1 + j * 8) vc∧rep wx.drew (old wx.drew.heap.size) vc v∧ExN (w.heap.size + 2) m q5 q8 qs q12 zc z wx.drew:=by
           have hbb:Below wx.heap.size wx wx.drew:=(Below.refl _ _).drew
           have hlt:b1 < wx.heap.size:=HJ.out.zq.1 _ hb1
           exact ⟨HJ.out.next hbb,(fun i u hu=>(hbb.cell (p:=⟨b1,o1 + j * 8 + i,none⟩) hlt).trans (hat i u hu)),Rep.keep (Rep.more hrv HJ.out.zq) (Keeps.old_below hbb (Nat.le_refl _)),HEX.out.next hbb⟩
          have HB1:Hid (b1 < m):=Lib.hid hb1.2.1
          have HVC:=Lib.hid (show (Tryz.prog.info? 45).map (·.size) = some vc.length by rw [show vc.length = 8 from Rep.len hrv];kernel_rfl)
          clear hat hrv hb1
          refine wp_region_tail [10] (S:=fun W=>PlO w m q5 q8 qs ([.slice (some ⟨b1,o1,none⟩) h.vals.length k1,.slice (some ⟨b2,o2,none⟩) h.nodes.length k2,.slice A3 h.inputs.length k3,.slice A4 h.outputs.length k4]:List Value) h (.slice (some ⟨bL,oL,none⟩) (liveD h).length kL) (liveD h) szl vT (tasksD h (liveD h) (szD h) c) xs W∧At W b1 (o1 + j * 8) vc∧rep W (old W.heap.size) vc v∧ExN (w.heap.size + 2) m q5 q8 qs q12 zc z W) (by kernel_rfl) hH0 (fun hHeld=>?_)
          clear hH0
          generalize World.drew _ = V0 at hHeld ⊢
          refine tt9 0 (some 77) (v:=.pointer (some ⟨q8,5,none⟩)) rfl (Or.inl ⟨by kernel_rfl,fun w _=>by kernel_rfl⟩) hHeld ?_
          refine tt9 1 (some 78) (v:=.slice (some ⟨qs,0,none⟩) szl.length szl.length) rfl (yields_load_one9 (by kernel_rfl) _ _ rfl q8 5 (by kernel_rfl) _ _ Tryz.underlying24 rfl (fun _ h=>h.1.cell8 (j:=1) rfl)) hHeld ?_
          refine tt9 2 (some 79) (v:=.int .i64 (j:Int)) rfl (Or.inl ⟨by kernel_rfl,fun w _=>by kernel_rfl⟩) hHeld ?_
          refine tt9 3 (some 80) (v:=.pointer (some ⟨q5,0,none⟩)) rfl (Or.inl ⟨by kernel_rfl,fun w _=>by kernel_rfl⟩) hHeld ?_
          refine tt9 4 (some 81) (v:=.slice (some ⟨b1,o1,none⟩) h.vals.length k1) rfl (yields_load_one9 (by kernel_rfl) _ _ rfl q5 0 (by kernel_rfl) _ _ Tryz.underlying22 rfl (fun _ h=>h.1.cell5 rfl)) hHeld ?_
          refine tt9 5 (some 82) (v:=.int .i64 (j:Int)) rfl (Or.inl ⟨by kernel_rfl,fun w _=>by kernel_rfl⟩) hHeld ?_
          refine tt9 6 (some 83) (v:=.pointer (some ⟨b1,o1 + j * 8,none⟩)) rfl (yields_indexI (by kernel_rfl) _ _ _ rfl b1 o1 h.vals.length k1 j 8 (j:Int) (by kernel_rfl) (by kernel_rfl) Tryz.underlying22 (by kernel_rfl) rfl HSL.out.2) hHeld ?_
          refine tt9 7 (some 84) (v:=.agg vc.toArray) rfl (yields_load_agg (by kernel_rfl) _ _ rfl _ b1 (o1 + j * 8) (by kernel_rfl) vc Tryz.underlying45 rfl HVC.out (fun W h=>h.2.1)) hHeld ?_
          refine call_t9 8 (some 85) rfl (by kernel_rfl) (by kernel_rfl) (by kernel_rfl) 26 _ _ rfl #[.agg vc.toArray] (by kernel_rfl) (fun w=>by kernel_rfl) ?_
          refine (bytes_any vc v _ hHeld.2.2.1).mono ?_
          rintro e V1 ⟨rfl,hb⟩
          have hlm:m ≤ V0.heap.size:=hHeld.1.le
          have hlt1:b1 < V0.heap.size:=Nat.lt_of_lt_of_le HB1.out hlm
          replace hHeld:PlO w m q5 q8 qs ([.slice (some ⟨b1,o1,none⟩) h.vals.length k1,.slice (some ⟨b2,o2,none⟩) h.nodes.length k2,.slice A3 h.inputs.length k3,.slice A4 h.outputs.length k4]:List Value) h (.slice (some ⟨bL,oL,none⟩) (liveD h).length kL) (liveD h) szl vT (tasksD h (liveD h) (szD h) c) xs V1∧At V1 b1 (o1 + j * 8) vc∧rep V1 (old V1.heap.size) vc v∧ExN (w.heap.size + 2) m q5 q8 qs q12 zc z V1:=⟨hHeld.1.next hb,(fun i u hu=>(hb.cell (p:=⟨b1,o1 + j * 8 + i,none⟩) hlt1).trans (hHeld.2.1 i u hu)),Rep.more (Rep.keep hHeld.2.2.1 (Keeps.old_below hb (Nat.le_refl _))) (old_le hb.size),hHeld.2.2.2.next hb⟩
          refine ⟨_,rfl,hHeld,?_⟩
          refine tt9 9 (some 86) (v:=.pointer (some ⟨qs,0 + j,none⟩)) rfl (yields_idx (by kernel_rfl) _ _ rfl qs 0 szl.length szl.length j (by kernel_rfl) (by kernel_rfl) (by rw [HSL.out.1];exact HSL.out.2)) hHeld ?_
          refine tail_free _ _ _ _ (by kernel_rfl) ?_
          have hX:=hHeld.1.size (0 + j) (bytesD v)
          have hS1:=hHeld.1.ss
          have hE:=hHeld.2.2.2.size hHeld.1.bs.2 ((szl.map (Value.int .i64)).set (0 + j) (.int .i64 (bytesD v))).toArray
          refine anyH_store_field 10 rfl (by kernel_rfl) (by kernel_rfl) 3 _ _ rfl qs (0 + j) (.int .i64 (bytesD v)) (by kernel_rfl) (by kernel_rfl) rfl (by kernel_rfl) 3 (szl.map (Value.int .i64)) (by exact hS1) (by rw [List.length_map,HSL.out.1,Nat.zero_add];exact HSL.out.2) trivial ?_
          refine wpAnyH_done (by kernel_rfl) ?_ _
          generalize World.setRow _ _ _ = w9 at hX hE ⊢
          have H9:=Lib.hid hX
          have HE9:=Lib.hid hE
          clear hE
          clear hX hS1 hHeld hlm hlt1 hb
          simp [Act.put]
          go_wp2
          go_roundw
          case rel =>
           refine ⟨d + 1,by go_num,by omega,?_,HE9.out⟩
           have h9:=H9.out
           rw [Nat.zero_add] at h9
           rw [List.take_add_one,HKK.out,Option.toList_some,putS_snoc,HSZL.out,Int.toNat_natCast,show bytesAt h.vals (j:Int) = bytesD v from by unfold bytesAt;rw [Int.toNat_natCast,HV.out];rfl]
           exact h9
          case measure=>simp [intOf];omega
         ·have hltd':¬ (d:Int) < (z.outs.length:Int):=by omega
          have hgo:gOuts h c = z.outs:=by unfold gOuts;rw [HZ.out.1];rfl
          have hgi:gIns h c = z.ins:=by unfold gIns;rw [HZ.out.1];rfl
          rw [List.take_of_length_le (by omega),← hgo,← sizesD_live HLB.out] at hJ
          have hN:h.nodes.length ≤ 1048576:=HGB.out.2.1
          have htl:=tasksD_len h (liveD h) c
          obtain ⟨AT,kT,rfl,hts⟩:=hJ.tasks (by unfold reach;omega)
          obtain ⟨nT1,nT2⟩:=slice_bnd hts
          have HJ:=Lib.hid hJ
          have HEX:=Lib.hid hE
          have HTS:=Lib.hid (And.intro hts (And.intro htl (And.intro hgo hgi)))
          have c84:wx.cell? ⟨q8,4,none⟩ = some (.slice AT (tasksD h (liveD h) (szD h) c).length kT):=hJ.cell8 (j:=0) rfl
          have HIN:Hid (∀ t ∈ tasksD h (liveD h) (szD h) c,0 ≤ t.node∧t.node < h.nodes.length):=Lib.hid fun t ht=>by have:=tasksD_in t ht;omega
          clear hJ hE hts hgo hgi
          go_wp2_with (first
           |(with_reducible refine wpList_load_agg rfl 26 _ rfl _ q5 0 rfl ([.slice A1 h.vals.length k1,.slice (some ⟨b2,o2,none⟩) h.nodes.length k2,.slice A3 h.inputs.length k3,.slice A4 h.outputs.length k4]:List Value) Tryz.underlying26 rfl (by kernel_rfl) HJ.out.at5 ?_)
           |(with_reducible refine wpList_load_agg rfl 50 _ rfl _ q12 0 rfl zc Tryz.underlying50 rfl HA.out.2.1 (At.of_row HEX.out.row) ?_))
          refine (after_any ([.slice A1 h.vals.length k1,.slice (some ⟨b2,o2,none⟩) h.nodes.length k2,.slice A3 h.inputs.length k3,.slice A4 h.outputs.length k4]:List Value) zc h (tasksD h (liveD h) (szD h) c) AT kT z wx HJ.out.graph HTS.out.1 (Rep.more HEX.out.rz HJ.out.zq) HIN.out (by omega)).mono ?_
          rintro e w7 ⟨AA,kA,rfl,hra,hb⟩
          have hle:m ≤ wx.heap.size:=HJ.out.le
          have hra':rep w7 (Zr m w7.heap.size (.slice AT (tasksD h (liveD h) (szD h) c).length kT)) [.slice AA (afterD h (tasksD h (liveD h) (szD h) c) z.ins).length kA] (afterD h (tasksD h (liveD h) (szD h) c) z.ins) :=
           Rep.more hra ⟨fun b (hb:wx.heap.size ≤ b∧b < w7.heap.size)=>⟨by omega,hb.2,fun e=>by have:=(HJ.out.own.lt b e).2;omega⟩,fun e=>by cases e⟩
          obtain ⟨nA1,nA2⟩:=slice_bnd hra'
          have HAF:=Lib.hid hra'
          have HJ7:=Lib.hid (HJ.out.next hb)
          have HE7:=Lib.hid (HEX.out.next hb)
          clear hra hra' hb c84 hle
          go_wp2_with fail
          obtain ⟨i0,hi0,hz0,hz1,hz2⟩:=info_parts taskInfoZ
          have h1o:0 < z.outs.length:=HOF.out.2.2.2.2.2 z (List.mem_of_getElem? HZ.out.1)
          obtain ⟨kk,hkk⟩:∃ k,z.outs[0]? = some k:=⟨_,List.getElem?_eq_getElem (by omega)⟩
          obtain ⟨kr0,kr1⟩:=HOF.out.1.outs z (List.mem_of_getElem? HZ.out.1) kk (List.mem_of_getElem? hkk)
          obtain ⟨j,rfl⟩:∃ j:Nat,kk = (j:Int):=⟨kk.toNat,by omega⟩
          obtain ⟨v,hv⟩:∃ v,h.vals[j]? = some v:=⟨_,List.getElem?_eq_getElem (by omega)⟩
          obtain ⟨sn,s2,hsz⟩:∃ (sn:Nat) (s2:Int),sizeD v.dims = ((sn:Int),s2):=⟨(sizeD v.dims).1.toNat,(sizeD v.dims).2,Prod.ext (by have:=size_bd v.dims;simp only;omega) rfl⟩
          have hsn:szD h c = sn:=by
           unfold szD
           rw [HTS.out.2.2.1,hkk]
           simp only [Option.getD_some,Int.toNat_natCast]
           rw [hv]
           simp only [Option.map_some,Option.getD_some]
           rw [hsz,Int.toNat_natCast]
          have hs4:sn ≤ 4096:=by have:=szD_le h c;omega
          have HSN:=Lib.hid hsn
          have HSZ2:=Lib.hid hsz
          have H1O:=Lib.hid h1o
          have HJL:Hid (j < h.vals.length):=Lib.hid (by omega)
          have HCI:Hid (I64 (c:Int)):=Lib.hid (by have:=HGB.out.2.1;unfold I64;omega)
          have HOP:Hid (gOp h c = z.op):=Lib.hid (by unfold gOp;rw [HZ.out.1];rfl)
          have hb7:Below w7.heap.size w7 w7.drew:=(Below.refl _ _).drew
          have hJ8:=HJ7.out.next hb7
          have hE8:=HE7.out.next hb7
          have hA8:rep w7.drew (Zr m w7.drew.heap.size (.slice AT (tasksD h (liveD h) (szD h) c).length kT)) [.slice AA (afterD h (tasksD h (liveD h) (szD h) c) z.ins).length kA] (afterD h (tasksD h (liveD h) (szD h) c) z.ins):=Rep.more (Rep.keep HAF.out (zr_keep hb7)) (zr_le hb7.size)
          clear hb7 hsn hsz h1o kr0 kr1 HJ7 HE7 HAF HJ HEX hN htl hs4
          refine wp_region_held_drew (S:=fun W=>W = w7.drew) (by kernel_rfl) rfl (fun hHeld=>?_)
          generalize World.drew w7 = V0 at hHeld hJ8 hE8 hA8 ⊢
          obtain ⟨-,b3,o3,rfl,hb3,hc3⟩:=int_at (node_outs hE8.rz HZ.out.2.2) hkk
          obtain ⟨b1,p1,vc,rfl,hb1,hat,hrv⟩:=elem_val (graph_parts hJ8.dat).1 hv
          obtain ⟨D,kd,E2,e2,E3,e3,E4,e4,E5,e5,hvc,-,hrd,-⟩:=open_ValD hrv
          obtain ⟨nd1,nd2⟩:=slice_bnd hrd
          have HD:=Lib.hid (Rep.more hrd hJ8.zq)
          have HD1:=Lib.hid (hat 1 (.slice D v.dims.length kd) (by rw [hvc];rfl))
          have HC3:=Lib.hid hc3
          obtain ⟨ss',I1',i1',O1',o1',z0,-⟩:=gnode_facts hE8.rz
          have HJ8:=Lib.hid hJ8
          have HE8:=Lib.hid hE8
          have HA8:=Lib.hid hA8
          have HZ0:=Lib.hid z0
          clear hb3 hc3 hb1 hat hrv hvc hrd hJ8 hE8 hA8 z0 hkk hv
          refine tk0 0 (some 94) (v:=.pointer (some ⟨q5,0,none⟩)) rfl hHeld ?_
          refine tk9 1 (some 95) (v:=.slice (some ⟨b1,p1,none⟩) h.vals.length k1) rfl (yields_load_one9 (by kernel_rfl) _ _ rfl q5 0 (by kernel_rfl) _ _ Tryz.underlying22 rfl (fun _ h=>by rw [h];exact HJ8.out.cell5 rfl)) hHeld ?_
          refine tk0 2 (some 96) (v:=.pointer (some ⟨q12,38,none⟩)) rfl hHeld ?_
          refine tk9 3 (some 97) (v:=.slice (some ⟨b3,o3,none⟩) z.outs.length o1) rfl (yields_load_one9 (by kernel_rfl) _ _ rfl q12 38 (by kernel_rfl) _ _ Tryz.underlying24 rfl (fun _ h=>by rw [h];exact cell_row HE8.out.row HZ.out.2.2)) hHeld ?_
          refine tk9 4 (some 98) (v:=.pointer (some ⟨b3,o3 + 0,none⟩)) rfl (yields_idx (by kernel_rfl) _ _ rfl b3 o3 z.outs.length o1 0 (by kernel_rfl) (by kernel_rfl) H1O.out) hHeld ?_
          refine tk9 5 (some 99) (v:=.int .i64 (j:Int)) rfl (yields_load_one9 (by kernel_rfl) _ _ rfl b3 (o3 + 0) (by kernel_rfl) _ _ Tryz.underlying3 rfl (fun _ h=>by rw [h];exact HC3.out)) hHeld ?_
          refine tk9 6 (some 100) (v:=.pointer (some ⟨b1,p1 + j * 8,none⟩)) rfl (yields_indexI (by kernel_rfl) _ _ _ rfl b1 p1 h.vals.length k1 j 8 (j:Int) (by kernel_rfl) (by kernel_rfl) Tryz.underlying22 (by kernel_rfl) rfl HJL.out) hHeld ?_
          refine tk0 7 (some 101) (v:=.pointer (some ⟨b1,p1 + j * 8 + 1,none⟩)) rfl hHeld ?_
          refine tk9 8 (some 102) (v:=.slice D v.dims.length kd) rfl (yields_load_one9 (by kernel_rfl) _ _ rfl b1 (p1 + j * 8 + 1) (by kernel_rfl) _ _ Tryz.underlying24 rfl (fun _ h=>by rw [h];exact HD1.out)) hHeld ?_
          refine call_d9 9 (some 103) rfl (by kernel_rfl) (by kernel_rfl) (by kernel_rfl) 28 _ _ rfl #[.slice D v.dims.length kd] (by kernel_rfl) (fun w=>by kernel_rfl) ?_
          refine (size_any v.dims D kd _ HD.out).mono ?_
          rintro e V1 ⟨he,hV⟩
          rw [HSZ2.out] at he
          subst he
          rw [hV]
          clear hV
          refine ⟨_,rfl,hHeld,?_⟩
          refine tk0 10 (some 93) (v:=.tuple #[.int .i64 (sn:Int),.int .i64 s2]) rfl hHeld ?_
          refine tk0 11 (some 104) (v:=.int .i64 (sn:Int)) rfl hHeld ?_
          refine tk0 12 (some 105) (v:=.int .i64 s2) rfl hHeld ?_
          refine tk0 13 (some 16) (v:=.int .i64 (sn:Int)) rfl hHeld ?_
          refine tk0 14 (some 17) (v:=.int .i64 s2) rfl hHeld ?_
          refine wpAnyH_done (by kernel_rfl) ?_ _
          clear hHeld
          simp [Act.put]
          have c0:=cell_row HE8.out.row HZ0.out
          go_wp2_with fail
          clear c0
          refine (has_any z.op V0).mono ?_
          rintro e V2 ⟨rfl,hV⟩
          rw [hV]
          clear hV
          obtain ⟨hs,hhs⟩:∃ b,(decide (1 ≤ z.op) && decide (z.op ≤ 44)) = b:=⟨_,rfl⟩
          rw [hhs]
          have HHS:=Lib.hid hhs
          clear hhs
          cases hs with
          | false =>
           have c84:V0.cell? ⟨q8,4,none⟩ = some (.slice AT (tasksD h (liveD h) (szD h) c).length kT):=HJ8.out.cell8 (j:=0) rfl
           go_wp2_with (at_builtin;refine wpList_append_lies _ rfl _ _ 27 rfl m 72 i0 (.agg zeroTk.toArray) 4 48 Tryz.underlying27 hi0 hz0 hz1 hz2 rfl (by decide) _ _ _ rfl (HJ8.out.own.alloc _) _ _ 1 1 [.int .i64 (c:Int),.int .i64 0,.int .i64 (-1),.slice AA (afterD h (tasksD h (liveD h) (szD h) c) z.ins).length kA] rfl rfl (lies_new _ _ _) ?c2 ?c3 ?c4 ?c5 ?_)
           case c2=>intro u hu;simp at hu;rcases hu with rfl | rfl | rfl | rfl <;> rfl
           case c3=>unfold maxLen;have:=HTS.out.2.1;have:=HGB.out.2.1;omega
           case c4=>have:=HTS.out.2.1;have:=HGB.out.2.1;omega
           case c5=>have:=HJ8.out.le;simp;omega
           intro v' w8 hown' hgrow hso
           have hrow:=HJ8.out.row8 hgrow
           have hM:=(HJ8.out.more (t:={ node:=(c:Int),lo:=0,hi:=-1,after:=(afterD h (tasksD h (liveD h) (szD h) c) z.ins) }) (Below.refl _ _) HA8.out HCI.out (show I64 (0:Int) from by unfold I64;omega) (show I64 (-1:Int) from by unfold I64;omega) hown' hgrow (by simpa using hso)).1
           have HROW:=Lib.hid (And.intro hrow (own_one8 hown'))
           have HM:=Lib.hid hM
           clear hrow hM hown' hgrow hso c84
           go_wp2_with ((with_reducible refine wpList_store_field rfl 27 _ _ rfl q8 4 v' rfl rfl HROW.out.2 (by kernel_rfl) 30 (([.slice (some ⟨b1,p1,none⟩) h.vals.length k1,.slice (some ⟨b2,o2,none⟩) h.nodes.length k2,.slice A3 h.inputs.length k3,.slice A4 h.outputs.length k4]:List Value)++[.slice AT (tasksD h (liveD h) (szD h) c).length kT,.slice (some ⟨qs,0,none⟩) (sizesD h (liveD h) (c + 1)).length (sizesD h (liveD h) (c + 1)).length,(.slice (some ⟨bL,oL,none⟩) (liveD h).length kL)]) HROW.out.1 (of_decide_eq_true (by kernel_rfl)) ?_);have hX:=HM.out;generalize World.setRow _ _ _ = w10 at hX ⊢;have HM10:=Lib.hid hX;clear hX;refine halt ?_)
           unfold Halt
           clear HM HROW
           go_wp2
           go_roundw
           case rel =>
            refine ⟨c + 1,v',xs++[.int .i64 (c:Int),.int .i64 0,.int .i64 (-1),.slice AA (afterD h (tasksD h (liveD h) (szD h) c) z.ins).length kA],by go_num,by omega,?_⟩
            rw [tasksD_live HLB.out,HTS.out.2.2.2,HSN.out,HOP.out,show tasksOf z.op sn (c:Int) (afterD h (tasksD h (liveD h) (szD h) c) z.ins) = [{ node:=(c:Int),lo:=0,hi:=-1,after:=(afterD h (tasksD h (liveD h) (szD h) c) z.ins) }] from by unfold tasksOf;rw [if_pos (.inl (fun e=>by have:=HHS.out;unfold hasE at e;simp [e.1,e.2] at this))]]
            exact HM10.out
           case measure=>simp [intOf];omega
          | true =>
           by_cases h16:sn ≤ 16
           ·have h16':(sn:Int) ≤ 16:=by omega
            have H16:=Lib.hid h16
            have c84:V0.cell? ⟨q8,4,none⟩ = some (.slice AT (tasksD h (liveD h) (szD h) c).length kT):=HJ8.out.cell8 (j:=0) rfl
            go_wp2_with (at_builtin;refine wpList_append_lies _ rfl _ _ 27 rfl m 72 i0 (.agg zeroTk.toArray) 4 48 Tryz.underlying27 hi0 hz0 hz1 hz2 rfl (by decide) _ _ _ rfl (HJ8.out.own.alloc _) _ _ 1 1 [.int .i64 (c:Int),.int .i64 0,.int .i64 (-1),.slice AA (afterD h (tasksD h (liveD h) (szD h) c) z.ins).length kA] rfl rfl (lies_new _ _ _) ?c2 ?c3 ?c4 ?c5 ?_)
            case c2=>intro u hu;simp at hu;rcases hu with rfl | rfl | rfl | rfl <;> rfl
            case c3=>unfold maxLen;have:=HTS.out.2.1;have:=HGB.out.2.1;omega
            case c4=>have:=HTS.out.2.1;have:=HGB.out.2.1;omega
            case c5=>have:=HJ8.out.le;simp;omega
            intro v' w8 hown' hgrow hso
            have hrow:=HJ8.out.row8 hgrow
            have hM:=(HJ8.out.more (t:={ node:=(c:Int),lo:=0,hi:=-1,after:=(afterD h (tasksD h (liveD h) (szD h) c) z.ins) }) (Below.refl _ _) HA8.out HCI.out (show I64 (0:Int) from by unfold I64;omega) (show I64 (-1:Int) from by unfold I64;omega) hown' hgrow (by simpa using hso)).1
            have HROW:=Lib.hid (And.intro hrow (own_one8 hown'))
            have HM:=Lib.hid hM
            clear hrow hM hown' hgrow hso c84
            go_wp2_with ((with_reducible refine wpList_store_field rfl 27 _ _ rfl q8 4 v' rfl rfl HROW.out.2 (by kernel_rfl) 30 (([.slice (some ⟨b1,p1,none⟩) h.vals.length k1,.slice (some ⟨b2,o2,none⟩) h.nodes.length k2,.slice A3 h.inputs.length k3,.slice A4 h.outputs.length k4]:List Value)++[.slice AT (tasksD h (liveD h) (szD h) c).length kT,.slice (some ⟨qs,0,none⟩) (sizesD h (liveD h) (c + 1)).length (sizesD h (liveD h) (c + 1)).length,(.slice (some ⟨bL,oL,none⟩) (liveD h).length kL)]) HROW.out.1 (of_decide_eq_true (by kernel_rfl)) ?_);have hX:=HM.out;generalize World.setRow _ _ _ = w10 at hX ⊢;have HM10:=Lib.hid hX;clear hX;refine halt ?_)
            unfold Halt
            clear HM HROW
            go_wp2
            go_roundw
            case rel =>
             refine ⟨c + 1,v',xs++[.int .i64 (c:Int),.int .i64 0,.int .i64 (-1),.slice AA (afterD h (tasksD h (liveD h) (szD h) c) z.ins).length kA],by go_num,by omega,?_⟩
             rw [tasksD_live HLB.out,HTS.out.2.2.2,HSN.out,HOP.out,show tasksOf z.op sn (c:Int) (afterD h (tasksD h (liveD h) (szD h) c) z.ins) = [{ node:=(c:Int),lo:=0,hi:=-1,after:=(afterD h (tasksD h (liveD h) (szD h) c) z.ins) }] from by unfold tasksOf;rw [if_pos (.inr H16.out)]]
             exact HM10.out
            case measure=>simp [intOf];omega
           ·have h16':¬ (sn:Int) ≤ 16:=by omega
            have H16:=Lib.hid (And.intro h16 (show sn ≤ 4096 by have:=szD_le h c;rw [HSN.out] at this;exact this))
            go_wp2_with fail
            go_loopw [18] (fun lo wr=>∃ (d q:Nat) (vT:Value) (xs:List Value),d ≤ (sn + 15) / 16∧q = 16 * d∧lo = .int .i64 (q:Int)∧PlO w m q5 q8 qs ([.slice (some ⟨b1,p1,none⟩) h.vals.length k1,.slice (some ⟨b2,o2,none⟩) h.nodes.length k2,.slice A3 h.inputs.length k3,.slice A4 h.outputs.length k4]:List Value) h (.slice (some ⟨bL,oL,none⟩) (liveD h).length kL) (liveD h) (sizesD h (liveD h) (c + 1)) vT ((tasksD h (liveD h) (szD h) c)++(tilesD (c:Int) sn (afterD h (tasksD h (liveD h) (szD h) c) z.ins)).take d) xs wr∧rep wr (Zr m wr.heap.size vT) [.slice AA (afterD h (tasksD h (liveD h) (szD h) c) z.ins).length kA] (afterD h (tasksD h (liveD h) (szD h) c) z.ins)) (fun lo _=>sn + 16 - (intOf lo).toNat)
            case atStart=>exact ⟨0,0,_,xs,Nat.zero_le _,rfl,rfl,by rw [List.take_zero,List.append_nil];exact HJ8.out,HA8.out⟩
            case round =>
             clear HJ8 HA8
             obtain ⟨d,q,vT,xs,hd,hq,rfl,hJ4,hA4⟩:=hrel
             obtain ⟨wy,rfl⟩:∃ wy,wy = wr:=⟨_,rfl⟩
             have hq0:(0:Int) ≤ (q:Int):=Int.natCast_nonneg _
             by_cases hlq:q < sn
             ·have hlq':(q:Int) < (sn:Int):=by omega
              have hd2:d < (sn + 15) / 16:=by omega
              obtain ⟨u,hu⟩:∃ u,min (q + 16) sn = u:=⟨_,rfl⟩
              have hs4:=H16.out.2
              have htl:=HTS.out.2.1
              have hN:=HGB.out.2.1
              have hlen:((tasksD h (liveD h) (szD h) c)++(tilesD (c:Int) sn (afterD h (tasksD h (liveD h) (szD h) c) z.ins)).take d).length ≤ 268435456 + 256:=by
               rw [List.length_append]
               have:((tilesD (c:Int) sn (afterD h (tasksD h (liveD h) (szD h) c) z.ins)).take d).length ≤ d:=by rw [List.length_take];omega
               omega
              obtain ⟨AT,kT,rfl,hts⟩:=hJ4.tasks (by unfold reach;omega)
              obtain ⟨nT1,nT2⟩:=slice_bnd hts
              obtain ⟨nT,hnT⟩:∃ n,((tasksD h (liveD h) (szD h) c)++(tilesD (c:Int) sn (afterD h (tasksD h (liveD h) (szD h) c) z.ins)).take d).length = n:=⟨_,rfl⟩
              rw [hnT] at hJ4 hA4 nT1 hlen
              have H50:=Lib.hid (And.intro hnT hlen)
              have HQ:Hid (q = 16 * d∧(if (sn:Int) < (q:Int) + 16 then (sn:Int) else (q:Int) + 16) = (u:Int)∧d < (sn + 15) / 16∧(0:Int) ≤ (q:Int)∧(q:Int) + 16 ≤ 9223372036854775807∧q < sn):=Lib.hid ⟨hq,by split <;> omega,hd2,hq0,by omega,hlq⟩
              have hq40:(q:Int) ≤ 4096:=by omega
              have hq41:(u:Int) ≤ 4096:=by omega
              have HU:=Lib.hid hu
              have HQI:Hid (I64 (q:Int)∧I64 (u:Int)):=Lib.hid ⟨by unfold I64;omega,by unfold I64;omega⟩
              have HJ4:=Lib.hid hJ4
              have HA4:=Lib.hid hA4
              clear hJ4 hA4 hts hnT hq hu hd2 hs4 htl hN hlen hd hlq hq0
              go_upto_region 26 with (fail)
              have hdr:Below wy.heap.size wy wy.drew:=(Below.refl _ _).drew
              have hJ3:=HJ4.out.next hdr
              have hA3:=Rep.more (Rep.keep HA4.out (zr_keep hdr)) (zr_le hdr.size)
              refine wp_region_tail [14] (S:=fun W=>W.cell? ⟨q8,4,none⟩ = some (.slice AT nT kT)) (by kernel_rfl) (hJ3.cell8 (j:=0) rfl) (fun hHeld=>?_)
              clear HJ4 HA4 hdr
              generalize World.drew _ = V3 at hJ3 hA3 hHeld ⊢
              have HJ4:=Lib.hid hJ3
              have HA4:=Lib.hid hA3
              clear hJ3 hA3
              refine tt9 0 (some 127) (v:=.pointer (some ⟨q8,4,none⟩)) rfl (Or.inl ⟨by kernel_rfl,fun w _=>by kernel_rfl⟩) hHeld ?_
              refine tt9 1 (some 128) (v:=.slice AT nT kT) rfl (yields_load_one9 (by kernel_rfl) _ _ rfl q8 4 (by kernel_rfl) _ _ Tryz.underlying27 rfl (fun _ h=>h)) hHeld ?_
              refine tt9 2 (some 129) (v:=.int .i64 (c:Int)) rfl (Or.inl ⟨by kernel_rfl,fun w _=>by kernel_rfl⟩) hHeld ?_
              refine tt9 3 (some 130) (v:=.int .i64 (q:Int)) rfl (Or.inl ⟨by kernel_rfl,fun w _=>by kernel_rfl⟩) hHeld ?_
              refine tt9 4 (some 131) (v:=.int .i64 (q:Int)) rfl (Or.inl ⟨by kernel_rfl,fun w _=>by kernel_rfl⟩) hHeld ?_
              refine tt9 5 (some 132) (v:=.int .i64 ((q:Int) + 16)) rfl (yields_addI (by kernel_rfl) _ _ _ _ rfl (q:Int) 16 (by kernel_rfl) (by kernel_rfl) (by kernel_rfl) HQ.out.2.2.2.1 (by omega) HQ.out.2.2.2.2.1) hHeld ?_
              refine tt9 6 (some 133) (v:=.int .i64 (sn:Int)) rfl (Or.inl ⟨by kernel_rfl,fun w _=>by kernel_rfl⟩) hHeld ?_
              refine tt9 7 (some 134) (v:=.int .i64 (u:Int)) rfl (yields_minI (by kernel_rfl) _ _ _ rfl ((q:Int) + 16) (sn:Int) (u:Int) (by kernel_rfl) (by kernel_rfl) HQ.out.2.1) hHeld ?_
              refine tt9 8 (some 135) (v:=.slice AA (afterD h (tasksD h (liveD h) (szD h) c) z.ins).length kA) rfl (Or.inl ⟨by kernel_rfl,fun w _=>by kernel_rfl⟩) hHeld ?_
              refine call_t9 9 (some 136) rfl (by kernel_rfl) (by kernel_rfl) (by kernel_rfl) 30 _ _ rfl #[.slice AA (afterD h (tasksD h (liveD h) (szD h) c) z.ins).length kA] (by kernel_rfl) (fun w=>by kernel_rfl) ?_
              refine (clone_ints (afterD h (tasksD h (liveD h) (szD h) c) z.ins) _ V3 (Rep.more HA4.out (zr_old (Nat.le_refl _)))).mono ?_
              rintro e V4 ⟨v5,rfl,hv5,hb⟩
              obtain ⟨AC,kC,rfl,hAC⟩:=own_of hv5
              have hJ4:PlO w m q5 q8 qs ([.slice (some ⟨b1,p1,none⟩) h.vals.length k1,.slice (some ⟨b2,o2,none⟩) h.nodes.length k2,.slice A3 h.inputs.length k3,.slice A4 h.outputs.length k4]:List Value) h (.slice (some ⟨bL,oL,none⟩) (liveD h).length kL) (liveD h) (sizesD h (liveD h) (c + 1)) (.slice AT nT kT) ((tasksD h (liveD h) (szD h) c)++(tilesD (c:Int) sn (afterD h (tasksD h (liveD h) (szD h) c) z.ins)).take d) xs V4:=HJ4.out.next hb
              have hAF2:rep V4 (Zr m V4.heap.size (.slice AT nT kT)) [.slice AA (afterD h (tasksD h (liveD h) (szD h) c) z.ins).length kA] (afterD h (tasksD h (liveD h) (szD h) c) z.ins):=Rep.more (Rep.keep HA4.out (zr_keep hb)) (zr_le hb.size)
              have hle3:m ≤ V3.heap.size:=HJ4.out.le
              have hlt3:∀ g,Value.ownBlock (.slice AT nT kT) = some g→m ≤ g∧g < V3.heap.size:=fun g hv=>HJ4.out.own.lt g hv
              have hC2:rep V4 (Zr m V4.heap.size (.slice AT nT kT)) [.slice AC (afterD h (tasksD h (liveD h) (szD h) c) z.ins).length kC] (afterD h (tasksD h (liveD h) (szD h) c) z.ins):=Rep.more hv5 ⟨fun b (hk:V3.heap.size ≤ b∧b < V4.heap.size)=>⟨by omega,hk.2,fun e=>by have:=(hlt3 b e).2;omega⟩,fun e=>by cases e⟩
              replace hHeld:V4.cell? ⟨q8,4,none⟩ = some (.slice AT nT kT):=hJ4.cell8 (j:=0) rfl
              refine ⟨_,rfl,hHeld,?_⟩
              have HC2:=Lib.hid hC2
              replace HJ4:=Lib.hid hJ4
              replace HA4:=Lib.hid hAF2
              clear hv5 hAC hC2 hJ4 hAF2 hle3 hlt3 hb
              refine tt9 10 (some 137) (v:=.agg #[.int .i64 (c:Int),.int .i64 (q:Int),.int .i64 (u:Int),.slice AC (afterD h (tasksD h (liveD h) (szD h) c) z.ins).length kC]) rfl (Or.inl ⟨by kernel_rfl,fun w _=>by kernel_rfl⟩) hHeld ?_
              have hA5:(V4.alloc (.cells #[.int .i64 (c:Int),.int .i64 (q:Int),.int .i64 (u:Int),.slice AC (afterD h (tasksD h (liveD h) (szD h) c) z.ins).length kC] 72)).cell? ⟨q8,4,none⟩ = some (.slice AT nT kT):=(World.cell?_alloc_lt _ _ _ (show q8 < V4.heap.size by have:=HJ4.out.b8;have:=HJ4.out.le;omega)).trans hHeld
              refine lay_t9 11 (some 138) rfl rfl (by kernel_rfl) (by kernel_rfl) (.slice (some ⟨V4.heap.size,0,none⟩) 1 1) (.cells #[.int .i64 (c:Int),.int .i64 (q:Int),.int .i64 (u:Int),.slice AC (afterD h (tasksD h (liveD h) (szD h) c) z.ins).length kC] 72) (by kernel_rfl) hA5 ?_
              clear hA5 hHeld
              refine append_t9 12 (some 139) rfl rfl (by kernel_rfl) (by kernel_rfl) _ _ 27 rfl m 72 i0 (.agg zeroTk.toArray) 4 48 Tryz.underlying27 hi0 hz0 hz1 hz2 rfl (by decide) _ _ xs (by kernel_rfl) (H50.out.1 ▸ HJ4.out.own.alloc _) ⟨V4.heap.size,0,none⟩ 1 1 [.int .i64 (c:Int),.int .i64 (q:Int),.int .i64 (u:Int),.slice AC (afterD h (tasksD h (liveD h) (szD h) c) z.ins).length kC] (by kernel_rfl) rfl ?c1 ?c2 ?c3 ?c4 ?c5 ?_
              case c1=>exact fun j u hu=>by rw [show (⟨V4.heap.size,0,none⟩:Addr).add j = ⟨V4.heap.size,j,none⟩ by unfold Addr.add;split <;> simp_all];exact cell_row (heap_alloc_new _ _) hu
              case c2=>intro u hu;simp at hu;rcases hu with rfl | rfl | rfl | rfl <;> rfl
              case c3=>have:=H50.out.2;unfold maxLen;omega
              case c4=>have:=H50.out.2;omega
              case c5=>rw [World.size_alloc];have:=HJ4.out.le;omega
              intro v' w8 hown' hgrow hso
              rw [World.size_alloc] at hso
              have hrow:=HJ4.out.row8 hgrow
              have hHeld:w8.cell? ⟨q8,4,none⟩ = some (.slice AT nT kT):=cell_row hrow rfl
              refine ⟨hHeld,?_⟩
              refine tt9 13 (some 140) (v:=.pointer (some ⟨q8,4,none⟩)) rfl (Or.inl ⟨by kernel_rfl,fun w _=>by kernel_rfl⟩) hHeld ?_
              refine tail_free _ _ _ _ (by kernel_rfl) ?_
              have hM:=HJ4.out.more (t:={ node:=(c:Int),lo:=(q:Int),hi:=(u:Int),after:=(afterD h (tasksD h (liveD h) (szD h) c) z.ins) }) (Below.refl _ _) HC2.out HCI.out HQI.out.1 HQI.out.2 (H50.out.1 ▸ hown') hgrow hso
              have HROW:=Lib.hid (And.intro hrow (own_one8 hown'))
              refine anyH_store_field 14 rfl (by kernel_rfl) (by kernel_rfl) 27 _ _ rfl q8 4 v' (by kernel_rfl) (by kernel_rfl) HROW.out.2 (by kernel_rfl) 30 (([.slice (some ⟨b1,p1,none⟩) h.vals.length k1,.slice (some ⟨b2,o2,none⟩) h.nodes.length k2,.slice A3 h.inputs.length k3,.slice A4 h.outputs.length k4]:List Value)++[.slice AT nT kT,.slice (some ⟨qs,0,none⟩) (sizesD h (liveD h) (c + 1)).length (sizesD h (liveD h) (c + 1)).length,(.slice (some ⟨bL,oL,none⟩) (liveD h).length kL)]) (by exact HROW.out.1) (of_decide_eq_true (by kernel_rfl)) trivial ?_
              have hM2:=hM.2 [.slice AA (afterD h (tasksD h (liveD h) (szD h) c) z.ins).length kA] (afterD h (tasksD h (liveD h) (szD h) c) z.ins) HA4.out
              have hM1:=hM.1
              generalize World.setRow _ _ _ = w10 at hM1 hM2 ⊢
              have HM1:=Lib.hid hM1
              have HM2:=Lib.hid hM2
              clear hM hM1 hM2 hrow hown' hgrow hso HROW
              refine wpAnyH_done (by kernel_rfl) ?_ _
              clear hHeld
              simp [Act.put]
              go_wp2
              go_roundw
              case rel =>
               refine ⟨d + 1,q + 16,v',xs++[.int .i64 (c:Int),.int .i64 (q:Int),.int .i64 (u:Int),.slice AC (afterD h (tasksD h (liveD h) (szD h) c) z.ins).length kC],HQ.out.2.2.1,by rw [HQ.out.1,Nat.mul_succ],by go_num,?_,HM2.out⟩
               have e:(tilesD (c:Int) sn (afterD h (tasksD h (liveD h) (szD h) c) z.ins)).take (d + 1) = (tilesD (c:Int) sn (afterD h (tasksD h (liveD h) (szD h) c) z.ins)).take d++[{ node:=(c:Int),lo:=(q:Int),hi:=(u:Int),after:=(afterD h (tasksD h (liveD h) (szD h) c) z.ins) }]:=by
                rw [List.take_add_one]
                congr 1
                unfold tilesD
                rw [List.getElem?_map,List.getElem?_range HQ.out.2.2.1,← HU.out,HQ.out.1]
                rfl
               rw [e,← List.append_assoc]
               exact HM1.out
              case measure =>
               have h1:=HQ.out.2.2.2.2.2
               simp [intOf]
               omega
             ·have hlq':¬ (q:Int) < (sn:Int):=by omega
              have hd2:d = (sn + 15) / 16:=by omega
              have HD:=Lib.hid hd2
              have HJ4:=Lib.hid hJ4
              clear hJ4 hA4 hd2 hq hd hlq
              go_wp2
              go_roundw
              case rel =>
               refine ⟨c + 1,vT,xs,by go_num,by omega,?_⟩
               rw [tasksD_live HLB.out,HTS.out.2.2.2,HSN.out,HOP.out,show tasksOf z.op sn (c:Int) (afterD h (tasksD h (liveD h) (szD h) c) z.ins) = (tilesD (c:Int) sn (afterD h (tasksD h (liveD h) (szD h) c) z.ins)).take d from by
                unfold tasksOf
                rw [if_neg (by
                 rintro (h1 | h1)
                 ·refine h1 ?_
                  have:=HHS.out
                  unfold hasE
                  simpa using this
                 ·exact H16.out.1 h1),List.take_of_length_le]
                unfold tilesD
                rw [List.length_map,List.length_range,HD.out]
                exact Nat.le_refl _]
               exact HJ4.out
              case measure=>simp [intOf];omega
      ·have hlt':¬ (c:Int) < (h.nodes.length:Int):=by omega
       obtain rfl:c = h.nodes.length:=by omega
       have hN:=HGB.out.2.1
       have htl:=tasksD_len h (liveD h) h.nodes.length
       have hvl:=HVB.out
       have hF:=hJ.fin (by unfold reach;omega) (sizesD_i64 h (liveD h) _) (by rw [sizesD_len];exact hvl) _ rfl
       have HJ:=Lib.hid hJ
       have HF:=Lib.hid hF
       have HONE9:=Lib.hid (show ∀ u ∈ (([.slice A1 h.vals.length k1,.slice A2 h.nodes.length k2,.slice A3 h.inputs.length k3,.slice A4 h.outputs.length k4]:List Value)++[vT,.slice (some ⟨qs,0,none⟩) (sizesD h (liveD h) h.nodes.length).length (sizesD h (liveD h) h.nodes.length).length,.slice AL (liveD h).length kL]:List Value),u.oneCell' = true from fun u hu=>by
        have h8:vT.oneCell' = true:=by
         rcases HJ.out.own.2 with ⟨hv,-⟩ | ⟨g,cap,cur,hv,-⟩ <;> rw [hv] <;> rfl
        simp only [List.cons_append,List.nil_append,List.mem_cons,List.not_mem_nil,or_false] at hu
        rcases hu with rfl | rfl | rfl | rfl | rfl | rfl | rfl
        ·rfl
        ·rfl
        ·rfl
        ·rfl
        ·exact h8
        ·rfl
        ·rfl)
       clear hJ hF hN htl hvl hcl hlt
       go_wp2_with (first
        |(with_reducible refine wpList_load_agg rfl 30 _ rfl _ q8 0 rfl (([.slice A1 h.vals.length k1,.slice A2 h.nodes.length k2,.slice A3 h.inputs.length k3,.slice A4 h.outputs.length k4]:List Value)++[vT,.slice (some ⟨qs,0,none⟩) (sizesD h (liveD h) h.nodes.length).length (sizesD h (liveD h) h.nodes.length).length,.slice AL (liveD h).length kL]) Tryz.underlying30 rfl (by kernel_rfl) (At.of_row HJ.out.p8) ?_)
        |((with_reducible refine wpList_store_agg rfl 30 _ _ rfl (w.heap.size + 1) 0 (([.slice A1 h.vals.length k1,.slice A2 h.nodes.length k2,.slice A3 h.inputs.length k3,.slice A4 h.outputs.length k4]:List Value)++[vT,.slice (some ⟨qs,0,none⟩) (sizesD h (liveD h) h.nodes.length).length (sizesD h (liveD h) h.nodes.length).length,.slice AL (liveD h).length kL]) rfl rfl 30 z7 HJ.out.res (by kernel_rfl) (of_decide_eq_true (by kernel_rfl)) HONE9.out ?_);have hX:=HF.out;generalize World.setRow _ _ _ = w9 at hX ⊢;have H9:=Lib.hid hX;clear hX;refine halt ?_))
       unfold Halt
       go_wp2
       refine bodyPost_ret (results_ctt rfl _ _ (w.heap.size + 1) 30 _ (0,0) _ (.int .i64 0) (.int .i64 0) (by kernel_rfl) (by kernel_rfl) (by kernel_rfl) H9.out.2.1 Tryz.underlying30 rfl (by kernel_rfl)) (by kernel_rfl) ?_
       exact ⟨_,0,0,planD h,rfl,by unfold I64;omega,by unfold I64;omega,H9.out.1,H9.out.2.2,fun e=>absurd rfl e,h,HP.out,fun _=>rfl⟩
 ·have h0':(x != 0) = true:=by simpa using h0
  have HN:=Lib.hid h0
  clear h0
  go_wp2_with (first
   |(with_reducible refine wpList_alloc_row rfl 26 rfl z4 z4_zero ?_)
   |(with_reducible refine wpList_store_agg rfl 26 _ _ rfl w1.heap.size 0 cs rfl rfl 26 z4 HQ.out HC.out.1 (by rw [HC.out.2.1];exact of_decide_eq_true (by kernel_rfl)) HC.out.2.2 ?_;have hZ:=laid_row w1 26 z4 cs HLN.out;generalize World.setRow _ _ _ = w2 at hZ ⊢;have HZ:=Lib.hid hZ;clear hZ;refine halt ?_))
  unfold Halt
  have HX2:=Lib.hid (HX1.out.next HZ.out.1)
  go_wp2_with ((with_reducible refine wpList_store_agg rfl 30 _ _ rfl (w.heap.size + 1) 0 z7 rfl rfl 30 z7 HX2.out.res (by kernel_rfl) (of_decide_eq_true (by kernel_rfl)) z7_one ?_);have hX:=HX2.out.out z7 rfl;generalize World.setRow _ _ _ = w9 at hX ⊢;have H9:=Lib.hid hX;clear hX;refine halt ?_)
  unfold Halt
  go_wp2
  refine bodyPost_ret (results_ctt rfl _ _ (w.heap.size + 1) 30 _ (0,0) _ (.int .i64 x) (.int .i64 y) (by kernel_rfl) (by kernel_rfl) (by kernel_rfl) H9.out.2 Tryz.underlying30 rfl (by kernel_rfl)) (by kernel_rfl) ?_
  exact ⟨z7,x,y,emptyP,rfl,HXY.out.1,HXY.out.2,H9.out.1,rep_z7 _ _,fun _=>rfl,h,HP.out,fun e=>absurd e HN.out⟩
end Go.Proofs.YtoeaglpmkjoenaaGreat
