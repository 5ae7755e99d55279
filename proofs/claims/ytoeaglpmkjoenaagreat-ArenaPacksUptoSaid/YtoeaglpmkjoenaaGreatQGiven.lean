/-
  Chapter 10: what is wrong with the values that are there ahead of all nodes. No condition.
-/
import Derived.Test.YtoeaglpmkjoenaaGreatQNodeI
import Derived.Test.YtoeaglpmkjoenaaGreatQGChkA
set_option linter.unusedSimpArgs false
set_option linter.unusedVariables false
namespace Go.Proofs.YtoeaglpmkjoenaaGreat
open Go.RowKit
open Rep (rep)
def GoodG (g:GraphD):Prop:=∀ (i:Nat) (v:ValD),g.vals[i]? = some v→v.const = false∧((i:Int) ∈ g.inputs→(sizeD v.dims).2 = 0∧¬ widthD v.type = 0)
def GivP (g:GraphD) (x:Int):Prop:=GoodG g→x = 0
set_option maxRecDepth 100000 in
set_option maxHeartbeats 8000000 in
theorem given_any (gcs:List Value) (a:GraphD) (w:World) (hr:rep w (old w.heap.size) gcs a) (hs1:a.inputs.length ≤ 1048576) :
  Calls Tryz.prog 47 #[.agg gcs.toArray] w (ErrP w (GivP a)):=by
 obtain ⟨A1,k1,A2,k2,A3,k3,A4,k4,rfl,r1,r2,r3,r4⟩:=open_GraphD hr
 obtain ⟨n1,n1'⟩:=slice_bnd r1
 obtain ⟨n3,n3'⟩:=slice_bnd r3
 have m1:a.vals.length * 144 ≤ 140737488351232:=len_bnd r1
 have HR:=Lib.hid (And.intro r1 r3)
 clear hr r1 r2 r3 r4
 go_enter Tryz.func47,Tryz.ntmps47
 go_wp2_with (with_reducible refine wpList_box_row rfl 26 _ rfl [.slice A1 a.vals.length k1,.slice A2 a.nodes.length k2,.slice A3 a.inputs.length k3,.slice A4 a.outputs.length k4] rfl ?_;have hX:=box_start w 26 [.slice A1 a.vals.length k1,.slice A2 a.nodes.length k2,.slice A3 a.inputs.length k3,.slice A4 a.outputs.length k4];generalize World.alloc _ _ = W0 at hX ⊢;have HX:=Lib.hid hX;clear hX;refine halt ?_)
 unfold Halt
 have c2:W0.cell? ⟨w.heap.size,2,none⟩ = some (.slice A3 a.inputs.length k3):=cell_of_row _ _ _ _ _ _ HX.out.row
 have c2':(W0.alloc (.map #[] 0)).cell? ⟨w.heap.size,2,none⟩ = some (.slice A3 a.inputs.length k3):=(World.cell?_alloc_lt _ _ _ HX.out.lt).trans c2
 have hmm:=@run_makeMap Tryz.prog
 go_wp2_with fail
 clear hmm c2 c2'
 have hI:LiveInv w [.slice A1 a.vals.length k1,.slice A2 a.nodes.length k2,.slice A3 a.inputs.length k3,.slice A4 a.outputs.length k4] W0.heap.size 0 (fun _=>0) (W0.alloc (.map #[] 0)) :=
  ⟨HX.out.below.alloc HX.out.below.size _,(Below.heap_alloc _ _ _ HX.out.lt).trans HX.out.row,MapI.made W0,HX.out.lt⟩
 generalize World.alloc _ _ = W1 at hI ⊢
 obtain ⟨mb,hmb⟩:∃ mb,W0.heap.size = mb:=⟨_,rfl⟩
 rw [hmb] at hI ⊢
 obtain ⟨cs,hcs⟩:∃ cs:List Value,[.slice A1 a.vals.length k1,.slice A2 a.nodes.length k2,.slice A3 a.inputs.length k3,.slice A4 a.outputs.length k4] = cs:=⟨_,rfl⟩
 rw [hcs] at hI
 have HC:Hid (cs.toArray[0]? = some (.slice A1 a.vals.length k1)):=Lib.hid (by rw [← hcs];rfl)
 have HI:=Lib.hid hI
 clear hI hmb HX hcs
 obtain ⟨A',c',xs,hv,hnc,hcm,-,hl,hch⟩:=open_slice HR.out.2
 simp only [Value.slice.injEq,true_and] at hv
 obtain ⟨rfl,rfl⟩:=hv
 have HL:=Lib.hid (And.intro hl hch)
 clear hl hch
 go_loopw [14] (fun i wr=>∃ (pre post:List Int) (f:Int→Int),a.inputs = pre++post∧i = .int .i64 pre.length∧LiveInv w cs mb pre.length f wr∧∀ k,f k = (if pre.contains k = true then 1 else 0)) (fun i _=>a.inputs.length - (intOf i).toNat)
 case atStart=>exact ⟨[],a.inputs,_,rfl,rfl,HI.out,fun k=>by simp⟩
 case round =>
  obtain ⟨pre,post,f,hpp,rfl,hI,hf⟩:=hrel
  have HIr:=Lib.hid (And.intro hI hf)
  clear hI hf
  cases post with
  | cons z post =>
   obtain ⟨hz,hlt,hpp',hpl⟩:=split_at hpp
   obtain ⟨b,o,xc,rfl,hbB,hrz,hcell⟩:=elem_at HL.out.1 HL.out.2 (by decide) hz
   obtain ⟨rfl,hz64⟩:=hrz
   have k4':wr.cell? ⟨b,o + pre.length,none⟩ = some (.int .i64 z):=(HIr.out.1.below.cell (p:=⟨b,o + pre.length,none⟩) hbB).trans (cell_of_elem (α:=Int) rfl hcell rfl)
   have hk0:(0:Int) ≤ (pre.length:Int):=Int.natCast_nonneg _
   have hk1:(pre.length:Int) < (a.inputs.length:Int):=by omega
   have H:=Lib.hid (And.intro hpp' hpl)
   clear hpp hpp' hpl hz hcell hbB
   go_wp2_with (first
    |(at_mapUpdate;refine halt ?_))
   unfold Halt
   refine wpList_mapUpdate_ofI rfl _ _ _ rfl mb pre.length f rfl HIr.out.1.map (by unfold maxLen;omega) z 1 rfl rfl hz64 (by unfold I64;omega) ?_
   intro w7 h7 g7
   have H7:=Lib.hid (HIr.out.1.put h7 g7)
   clear h7 g7
   go_wp2
   go_roundw
   case rel =>
    refine ⟨pre++[z],post,_,H.out.1,by rw [H.out.2];go_num,by rw [H.out.2];exact H7.out,fun k=>?_⟩
    by_cases e:k = z
    ·subst e;simp
    ·rw [if_neg e,HIr.out.2]
     simp [e]
   case measure=>simp [intOf];omega
  | nil =>
   obtain ⟨hge,hpl⟩:=split_end hpp
   have HF:Hid (∀ k,f k = (if a.inputs.contains k = true then 1 else 0)):=Lib.hid (by rw [hpp,List.append_nil];exact HIr.out.2)
   replace HIr:=Lib.hid HIr.out.1
   clear hpp hpl
   have c1:wr.cell? ⟨w.heap.size,0,none⟩ = some (.slice A1 a.vals.length k1):=(cell_of_row _ _ _ _ _ _ HIr.out.row).trans HC.out
   go_wp2_with fail
   clear c1
   obtain ⟨A',c',xs,hv,-,-,-,hl,hch⟩:=open_slice HR.out.1
   injection hv with hv1 hv2 hv3
   subst hv1
   have HV:=Lib.hid (And.intro hl hch)
   clear hl hch hv2 hv3
   obtain ⟨m,hm⟩:∃ m:Nat,pre.length = m:=⟨_,rfl⟩
   rw [hm] at HIr
   obtain ⟨wl,hwl⟩:∃ wl,wl = wr:=⟨_,rfl⟩
   rw [← hwl] at HIr ⊢
   clear hm hwl hge
   go_loopw [24] (fun i wr=>∃ c:Nat,i = .int .i64 c∧c ≤ a.vals.length∧LiveInv w cs mb m f wr) (fun i _=>a.vals.length - (intOf i).toNat)
   case atStart=>exact ⟨0,rfl,Nat.zero_le _,HIr.out⟩
   case round =>
    obtain ⟨c,rfl,hcl,hI⟩:=hrel
    obtain ⟨wb,rfl⟩:∃ wb,wb = wr:=⟨_,rfl⟩
    have HJ:=Lib.hid hI
    clear hI HIr
    by_cases hlt:c < a.vals.length
    ·have hlt':(c:Int) < (a.vals.length:Int):=by omega
     obtain ⟨v,hz⟩:∃ v,a.vals[c]? = some v:=⟨_,List.getElem?_eq_getElem hlt⟩
     obtain ⟨b,o,zc,rfl,hbB,hrz,hcell⟩:=elem_at HV.out.1 HV.out.2 (by decide) hz
     have hat:At wb b (o + c * 8) zc:=fun j u hu=>by rw [Nat.add_assoc];exact (HJ.out.below.cell (p:=⟨b,o + (c * 8 + j),none⟩) hbB).trans (hcell j u hu).1
     obtain ⟨B1,j1,B2,j2,B3,j3,B4,j4,B5,j5,hzc,-,h1,-⟩:=open_ValD hrz
     obtain ⟨b1,b1'⟩:=slice_bnd h1
     have hv8:=val_facts hrz
     have HZ:=Lib.hid (And.intro hat (And.intro (show (Tryz.prog.info? 45).map (·.size) = some zc.length by rw [hv8.1];kernel_rfl) (And.intro (show zc[1]? = some (.slice B1 v.dims.length j1) by rw [hzc];rfl) (And.intro hv8.1 (And.intro hv8.2.2 h1)))))
     have HZ2:=Lib.hid (And.intro (show zc[0]? = some (.int .i64 v.type) by rw [hzc];rfl) (show zc[2]? = some (.bool v.const) by rw [hzc];rfl))
     have HLN:=Lib.hid (show zc.length = zeroV.length from hv8.1)
     have hk0:(0:Int) ≤ (c:Int):=Int.natCast_nonneg _
     have HQ:=Lib.hid (heap_alloc_new wb (.cells zeroV.toArray 45))
     have HZZ:=Lib.hid hz
     clear hat hrz hcell hzc h1 hv8 hz
     go_wp2_with (first
      |(with_reducible refine wpList_load_agg rfl 45 _ rfl _ _ _ rfl zc Tryz.underlying45 rfl HZ.out.2.1 HZ.out.1 ?_)
      |(with_reducible refine wpList_alloc_row rfl 45 rfl zeroV zeroV_zero ?_)
      |(with_reducible refine wpList_store_agg rfl 45 _ _ rfl _ 0 zc rfl rfl 45 zeroV HQ.out HZ.out.2.1 (by rw [HZ.out.2.2.2.1];exact of_decide_eq_true (by kernel_rfl)) HZ.out.2.2.2.2.1 ?_;have hX:=laid_row wb 45 zeroV zc HLN.out;generalize World.setRow _ _ _ = w1 at hX ⊢;have HW:=Lib.hid hX;clear hX;refine halt ?_))
     unfold Halt
     have hc0:=cell_row HW.out.2.1 HZ2.out.1
     have hc1:=cell_row HW.out.2.1 HZ.out.2.2.1
     have hc2:=cell_row HW.out.2.1 HZ2.out.2
     replace HJ:=Lib.hid (HJ.out.next HW.out.1)
     clear HW HQ
     obtain ⟨vc,hvc⟩:∃ x,v.const = x:=⟨_,rfl⟩
     rw [hvc] at hc2
     have HVC:=Lib.hid hvc
     clear hvc
     have c64:I64 (c:Int):=by unfold I64;omega
     have hlk:=(HJ.out.map.lookup (c:Int) c64).1
     by_cases hsk:vc = false∧f (c:Int) = 0
     ·obtain ⟨rfl,hf0⟩:=hsk
      rw [hf0] at hlk
      clear hf0 c64 hc0 hc1
      go_wp2
      go_roundw
      case rel=>exact ⟨c + 1,by go_num,by omega,HJ.out⟩
      case measure=>simp [intOf];omega
     ·have HSK:=Lib.hid hsk
      have HBAD:Hid (¬ (sizeD v.dims).2 = 0 ∨ widthD v.type = 0→¬ GoodG a):=Lib.hid fun h hg=>by
       obtain ⟨g1,g2⟩:=hg c v HZZ.out
       refine HSK.out ⟨HVC.out.symm.trans g1,?_⟩
       rw [HF.out]
       by_cases hm:a.inputs.contains (c:Int) = true
       ·have g3:=g2 (List.contains_iff_mem.1 hm)
        rcases h with h | h
        ·exact absurd g3.1 h
        ·exact absurd h g3.2
       ·rw [if_neg hm]
      have h01:vc = true ∨ vc = false∧(f (c:Int) == 0) = false:=by
       cases vc with
       | true=>exact .inl rfl
       | false=>exact .inr ⟨rfl,beq_eq_false_iff_ne.2 fun e=>hsk ⟨rfl,e⟩⟩
      clear c64 hsk
      rcases h01 with rfl | ⟨rfl,hf0⟩
      all_goals
       go_wp2_with fail
       clear hlk
       refine (size_any v.dims B1 j1 w1 (Rep.more (Rep.keep HZ.out.2.2.2.2.2 (Keeps.old_below HJ.out.below (Nat.le_refl _))) (old_le HJ.out.below.size))).mono ?_
       rintro e w2 ⟨rfl,rfl⟩
       obtain ⟨y,hy⟩:∃ y,sizeD v.dims = y:=⟨_,rfl⟩
       rw [hy]
       have HY:=Lib.hid hy
       have hbd:=size_bd v.dims
       rw [hy] at hbd
       have HBD:=Lib.hid hbd
       clear hy hbd
       obtain ⟨y1,y2⟩:=y
       simp only
       by_cases hy2:y2 = 0
       ·subst hy2
        go_wp2_with fail
        refine (width_any v.type _).mono ?_
        rintro e w3 ⟨rfl,rfl⟩
        obtain ⟨t,ht⟩:∃ t,widthD v.type = t:=⟨_,rfl⟩
        rw [ht]
        have HT:=Lib.hid ht
        clear ht
        by_cases ht0:t = 0
        ·have HN:=Lib.hid ht0
         subst ht0
         go_wp2
         go_ret
         exact ⟨5,rfl,by unfold I64;omega,HJ.out.below,fun hg=>absurd hg (HBAD.out (.inr HT.out))⟩
        ·have ht0':(t == 0) = false:=beq_eq_false_iff_ne.2 ht0
         clear ht0
         go_wp2
         go_roundw
         case rel=>exact ⟨c + 1,by go_num,by omega,HJ.out⟩
         case measure=>simp [intOf];omega
       ·have hy2':(y2 != 0) = true:=by simpa using hy2
        have HN:=Lib.hid hy2
        clear hy2
        go_wp2
        go_ret
        exact ⟨y2,rfl,by have:=HBD.out;unfold I64;omega,HJ.out.below,fun hg=>absurd hg (HBAD.out (.inl (by rw [HY.out];exact HN.out)))⟩
    ·have hlt':¬ (c:Int) < (a.vals.length:Int):=by omega
     have c1:wb.cell? ⟨w.heap.size,0,none⟩ = some (.slice A1 a.vals.length k1):=(cell_of_row _ _ _ _ _ _ HJ.out.row).trans HC.out
     go_wp2_with fail
     refine (containsVals_any a.vals _ 70 (fun v=>v.const && !heldD v) wb (fun _ _=>rfl) (Rep.more (Rep.keep HR.out.1 (Keeps.old_below HJ.out.below (Nat.le_refl _))) (old_le HJ.out.below.size)) fun x _ zc W _ hW=>given1_any zc x W hW).mono ?_
     rintro e w2 ⟨rfl,hb⟩
     have HB:=Lib.hid (HJ.out.next hb).below
     clear hb c1
     obtain ⟨t,ht⟩:∃ t,(a.vals.any fun v=>v.const && !heldD v) = t:=⟨_,rfl⟩
     rw [ht]
     have HT:Hid (GoodG a→t = false):=Lib.hid fun hg=>by
      rw [← ht]
      refine List.any_eq_false.2 fun v hv=>?_
      obtain ⟨i,hi⟩:=List.mem_iff_getElem?.1 hv
      rw [(hg i v hi).1]
      simp
     clear ht
     cases t with
     | true =>
      go_wp2
      go_ret
      exact ⟨3,rfl,by unfold I64;omega,HB.out,fun hg=>by have:=HT.out hg;cases this⟩
     | false =>
      go_wp2
      go_ret
      exact ⟨0,rfl,by unfold I64;omega,HB.out,fun _=>rfl⟩
end Go.Proofs.YtoeaglpmkjoenaaGreat
