/-
  Chapter 20: how many bytes a value takes; the tasks that a node needs. No condition.
-/
import Derived.Test.YtilobeohkomeoaaGreatQApart
set_option linter.unusedSimpArgs false
set_option linter.unusedVariables false
namespace Go.Proofs.YtilobeohkomeoaaGreat
open Go.RowKit
open Rep (rep)
def bytesD (v:ValD):Int:=bits .andNot .i64 ((sizeD v.dims).1 * widthD v.type + 7) 7
theorem bytes_i64 (v:ValD):I64 (bytesD v):=by
 unfold bytesD I64
 have:=IntWalk.i64_in
 unfold bits
 simp only []
 have h:=fun n:Int=>(show -9223372036854775808 ≤ IntKind.i64.wrap n∧IntKind.i64.wrap n ≤ 9223372036854775807 by rw [IntKind.wrap_i64];omega)
 exact h _
theorem mul_bd {n t:Int} (h0:0 ≤ n) (h1:n ≤ 4096) (h2:0 ≤ t) (h3:t ≤ 8):0 ≤ n * t∧n * t ≤ 32768:=by
 have a:=Int.mul_nonneg h0 h2
 have b:=Int.mul_le_mul h1 h3 h2 (by omega:(0:Int) ≤ 4096)
 exact ⟨a,by omega⟩
theorem width_bd (k:Int):0 ≤ widthD k∧widthD k ≤ 8:=by
 unfold widthD
 split <;> (try split) <;> (try split) <;> omega
set_option maxRecDepth 100000 in
set_option maxHeartbeats 8000000 in
theorem bytes_any (cs:List Value) (v:ValD) (w:World) (hr:rep w (old w.heap.size) cs v) :
  Calls Tryz.prog 18 #[.agg cs.toArray] w fun e w'=>e = .returned (.int .i64 (bytesD v))∧Below w.heap.size w w':=by
 obtain ⟨A1,k1,A2,k2,A3,k3,A4,k4,A5,k5,hcs,-,h1,-⟩:=open_ValD hr
 have hc0:cs[0]? = some (.int .i64 v.type):=by rw [hcs];rfl
 have hc1:cs[1]? = some (.slice A1 v.dims.length k1):=by rw [hcs];rfl
 have H1:=Lib.hid h1
 clear hcs h1
 have hsb:=size_bd v.dims
 have hwb:=width_bd v.type
 have hmb:=mul_bd hsb.1 hsb.2.1 hwb.1 hwb.2
 have HB:Hid (bytesD v = bits .andNot .i64 ((sizeD v.dims).1 * widthD v.type + 7) 7):=Lib.hid rfl
 go_enter Tryz.func18,Tryz.ntmps18
 go_wp2_with (with_reducible refine wpList_box_row rfl 45 _ rfl cs rfl ?_;have hX:=val_start hr;generalize World.alloc _ _ = W0 at hX ⊢;have HX:=Lib.hid hX;clear hX hr;refine halt ?_)
 unfold Halt
 have c0:=HX.out.cell hc0
 have c1:=HX.out.cell hc1
 go_wp2_with fail
 refine (size_any v.dims A1 k1 _ (HX.out.up H1.out)).mono ?_
 rintro e w1 ⟨rfl,rfl⟩
 generalize sizeD v.dims = sz at HB hmb ⊢
 obtain ⟨n,x⟩:=sz
 simp only at HB hmb ⊢
 clear hsb hwb
 go_wp2_with fail
 refine (width_any v.type _).mono ?_
 rintro e w2 ⟨rfl,rfl⟩
 generalize widthD v.type = t at HB hmb ⊢
 go_wp2
 go_ret
 exact ⟨by rw [HB.out];rfl,HX.out.below⟩
theorem has_any (op:Int) (w:World):Calls Tryz.prog 21 #[.int .i64 op] w fun e w'=>e = .returned (.bool (decide (1 ≤ op) && decide (op ≤ 44)))∧w' = w:=by
 by_cases h:op ≥ 1
 ·go_enter Tryz.func21,Tryz.ntmps21
  go_wp2
  go_ret
  exact ⟨by rw [decide_eq_true h];rfl,rfl⟩
 ·go_enter Tryz.func21,Tryz.ntmps21
  go_wp2
  go_ret
  exact ⟨by rw [decide_eq_false (by omega)];rfl,rfl⟩
set_option maxRecDepth 100000 in
set_option maxHeartbeats 8000000 in
theorem after1_any (x:Int) (q k:Nat) (A:Option Addr) (l:List Int) (w:World) (hq:w.cell? ⟨q,37,none⟩ = some (.slice A l.length k)) (hr:rep w (old w.heap.size) [.slice A l.length k] l) :
  Calls Tryz.prog 35 #[.int .i64 x,.pointer (some ⟨q,0,none⟩)] w fun e w'=>e = .returned (.bool (l.contains x))∧w' = w:=by
 go_enter Tryz.func35,Tryz.ntmps35
 go_wp2_with fail
 refine (containsInt_any l A k x w hr).mono ?_
 rintro e w1 ⟨rfl,rfl⟩
 obtain ⟨c,hc⟩:∃ c,l.contains x = c:=⟨_,rfl⟩
 rw [hc]
 have HC:=Lib.hid hc
 clear hc
 go_wp2
 go_ret
 exact ⟨by rw [HC.out];rfl,rfl⟩
theorem afterD_lt {g:GraphD} {ts:List TaskD} {ins:List Int}:∀ x ∈ afterD g ts ins,0 ≤ x∧x < ts.length:=fun x hx=>by
 obtain ⟨k,s,rfl,hs,_⟩:=afterD_mem.1 hx
 have:=(List.getElem?_eq_some_iff.1 hs).1
 omega
theorem afterD_len (g:GraphD) (ts:List TaskD) (ins:List Int):(afterD g ts ins).length ≤ ts.length:=by
 unfold afterD
 rw [List.length_map]
 exact Nat.le_trans (List.length_filter_le _ _) (by rw [List.length_zipIdx];exact Nat.le_refl _)
def zeroTk:List Value:=[.int .i64 0,.int .i64 0,.int .i64 0,.slice none 0 0]
theorem zeroTk_zero:(Tryz.prog.info? 36).bind (·.zero) = some (.agg zeroTk.toArray):=by kernel_rfl
theorem own_list {W:World} {n:Nat} {v:Value} {l:List Int} (h:W.ownsRow n 3 1 v l.length (l.map (Value.int .i64))) (hb:l.length * 8 ≤ 140737488351232) (hi:∀ x ∈ l,I64 x):∃ A k,v = .slice A l.length k∧rep W (fresh n W.heap.size) [.slice A l.length k] l:=own_row h hb hi
set_option maxRecDepth 100000 in
set_option maxHeartbeats 8000000 in
theorem after_any (gcs ncs:List Value) (g:GraphD) (ts:List TaskD) (T:Option Addr) (kT:Nat) (z:GNodeD) (w:World) (hg:rep w (old w.heap.size) gcs g) (ht:rep w (old w.heap.size) [.slice T ts.length kT] ts) (hz:rep w (old w.heap.size) ncs z)
  (hin:∀ t ∈ ts,0 ≤ t.node∧t.node < g.nodes.length) (hl:ts.length ≤ 1000000000000) :
  Calls Tryz.prog 19 #[.agg gcs.toArray,.slice T ts.length kT,.agg ncs.toArray] w fun e w'=>∃ (A:Option Addr) (k:Nat),e = .returned (.slice A (afterD g ts z.ins).length k)∧rep w' (fresh w.heap.size w'.heap.size) [.slice A (afterD g ts z.ins).length k] (afterD g ts z.ins)∧Below w.heap.size w w':=by
 obtain ⟨i0,hi0,hz0,hz1,hz2⟩:=info_parts info_int1
 obtain ⟨A1,k1,A2,k2,A3,k3,A4,k4,hgc,r1,r2,r3,r4⟩:=open_GraphD hg
 obtain ⟨n2,n2'⟩:=slice_bnd r2
 obtain ⟨nT,nT'⟩:=slice_bnd ht
 have h1:gcs[1]? = some (.slice A2 g.nodes.length k2):=by rw [hgc];rfl
 obtain ⟨ss,I1,i1,O1,o1,-,z37,-,-,-,zi,-,-⟩:=gnode_facts hz
 have HG:=Lib.hid (And.intro h1 (And.intro r2 (And.intro z37 (And.intro zi hin))))
 have hgl:(Tryz.prog.info? 26).map (·.size) = some gcs.length:=by rw [show gcs.length = 4 from Rep.len hg];kernel_rfl
 obtain ⟨T',c',xs,hv,-,-,-,hlz,hch⟩:=open_slice ht
 injection hv with hva hvb hvc
 subst hva
 obtain ⟨A2',c2',ns,hv,-,-,-,hl2,hch2⟩:=open_slice r2
 injection hv with hva2 hvb2 hvc2
 subst hva2
 have HL:=Lib.hid (And.intro hlz (And.intro hch (And.intro hl2 hch2)))
 clear hgc r1 r2 r3 r4 h1 z37 zi hin hlz hch hl2 hch2 hvb hvc hvb2 hvc2 hg hz ht
 go_enter Tryz.func19,Tryz.ntmps19
 go_wp2_with (first
  |(with_reducible refine wpList_box_row rfl 26 _ rfl gcs rfl ?_)
  |(with_reducible refine wpList_box_row rfl 50 _ rfl ncs rfl ?_;have hX:=pair_start w 26 50 gcs ncs;generalize World.alloc _ (.cells ncs.toArray _) = W0 at hX ⊢;have HX:=Lib.hid hX;clear hX;refine halt ?_))
 unfold Halt
 go_wp2_with fail
 go_loopw [7,12] (fun v i wr=>∃ c:Nat,i = .int .i64 c∧c ≤ ts.length∧Below W0.heap.size W0 wr∧wr.ownsRow W0.heap.size 3 1 v (afterD g (ts.take c) z.ins).length ((afterD g (ts.take c) z.ins).map (Value.int .i64))) (fun _ i _=>ts.length - (intOf i).toNat)
 case atStart=>exact ⟨0,rfl,Nat.zero_le _,Below.refl _ _,World.ownsRow_nil _ _ _ _⟩
 case round =>
  obtain ⟨c,rfl,hcl,hB,hO⟩:=hrel
  obtain ⟨wb,rfl⟩:∃ wb,wb = wr:=⟨_,rfl⟩
  have HB:=Lib.hid (And.intro (HX.out.next hB) (And.intro hO hB))
  clear hB hO
  by_cases hlt:c < ts.length
  ·have hlt':(c:Int) < (ts.length:Int):=by omega
   obtain ⟨t,ht⟩:∃ t,ts[c]? = some t:=⟨_,List.getElem?_eq_getElem hlt⟩
   obtain ⟨hn0,hn1⟩:=HG.out.2.2.2.2 t (List.mem_of_getElem? ht)
   obtain ⟨b,o,zc,rfl,hbB,hrz,hcell⟩:=elem_at HL.out.1 HL.out.2.1 (by decide) ht
   have hat:At wb b (o + c * 4) zc:=fun j u hu=>by
    have h1:=(hcell j u hu).1
    rw [← Nat.add_assoc] at h1
    exact (HB.out.1.below.cell (p:=⟨b,o + c * 4 + j,none⟩) hbB).trans h1
   obtain ⟨TA,tk,rfl,-,-,-,-⟩:=open_TaskD hrz
   obtain ⟨j,hj⟩:∃ j:Nat,t.node = (j:Int):=⟨t.node.toNat,by omega⟩
   obtain ⟨y,hy⟩:∃ y,g.nodes[j]? = some y:=⟨_,List.getElem?_eq_getElem (by omega)⟩
   obtain ⟨b2,o2,yc,rfl,hbB2,hry,hcell2⟩:=elem_at HL.out.2.2.1 HL.out.2.2.2 (by decide) hy
   obtain ⟨ss2,J1,j1,Q1,q1,-,-,y38,-,-,-,yo,-⟩:=gnode_facts hry
   obtain ⟨nq1,nq2⟩:=slice_bnd yo
   have hgo:gOuts g t.node.toNat = y.outs:=by unfold gOuts;rw [hj,Int.toNat_natCast,hy];rfl
   have HT:=Lib.hid (And.intro hat (And.intro ht (And.intro hgo yo)))
   have hcell38:=(hcell2 38 _ y38).1
   have HC38:Hid (w.cell? ⟨b2,o2 + j * 40 + 38,none⟩ = some (.slice Q1 y.outs.length q1)∧b2 < w.heap.size):=Lib.hid ⟨by rwa [← Nat.add_assoc] at hcell38,hbB2⟩
   have hk0:(0:Int) ≤ (c:Int):=Int.natCast_nonneg _
   have hj0:(0:Int) ≤ (j:Int):=Int.natCast_nonneg _
   have hj1:(j:Int) < (g.nodes.length:Int):=by omega
   rw [hj] at HT
   have HJ:=Lib.hid hj
   have HZ:=Lib.hid (And.intro HT.out.1 (show (Tryz.prog.info? 36).map (·.size) = some ([.int .i64 (j:Int),.int .i64 t.lo,.int .i64 t.hi,.slice TA t.after.length tk]:List Value).length by kernel_rfl))
   have HLN:=Lib.hid (show ([.int .i64 (j:Int),.int .i64 t.lo,.int .i64 t.hi,.slice TA t.after.length tk]:List Value).length = zeroTk.length from rfl)
   have H1C:=Lib.hid (show ∀ u ∈ ([.int .i64 (j:Int),.int .i64 t.lo,.int .i64 t.hi,.slice TA t.after.length tk]:List Value),u.oneCell' = true from fun u hu=>by simp at hu;rcases hu with rfl | rfl | rfl | rfl <;> rfl)
   clear hat hrz hcell ht hy hry hcell2 y38 yo hgo hcell38 hbB hbB2 hn0 hn1 hj
   have hn:=heap_alloc_new wb (.cells zeroTk.toArray 36)
   have HQ:=Lib.hid hn
   clear hn
   go_wp2_with (first
    |(with_reducible refine wpList_load_agg rfl 36 _ rfl _ _ _ rfl [.int .i64 (j:Int),.int .i64 t.lo,.int .i64 t.hi,.slice TA t.after.length tk] Tryz.underlying36 rfl HZ.out.2 HZ.out.1 ?_)
    |(with_reducible refine wpList_alloc_row rfl 36 rfl zeroTk zeroTk_zero ?_)
    |(with_reducible refine wpList_store_agg rfl 36 _ _ rfl _ 0 [.int .i64 (j:Int),.int .i64 t.lo,.int .i64 t.hi,.slice TA t.after.length tk] rfl rfl 36 zeroTk HQ.out HZ.out.2 (of_decide_eq_true (by kernel_rfl)) H1C.out ?_;have hX:=laid_row wb 36 zeroTk [.int .i64 (j:Int),.int .i64 t.lo,.int .i64 t.hi,.slice TA t.after.length tk] HLN.out;generalize World.setRow _ _ _ = w1 at hX ⊢;have HW:=Lib.hid hX;clear hX;refine halt ?_))
   unfold Halt
   have hc0:=cell_row HW.out.2.1 (j:=0) rfl
   have hg1:=(HW.out.1.cell (p:=⟨w.heap.size,1,none⟩) (by have:=HB.out.1.lt;simp only;omega)).trans (cell_row HB.out.1.src HG.out.1)
   have hq:=(HW.out.1.cell (p:=⟨b2,o2 + j * 40 + 38,none⟩) (Nat.lt_of_lt_of_le HC38.out.2 HB.out.1.below.size)).trans ((HB.out.1.below.cell (p:=⟨b2,o2 + j * 40 + 38,none⟩) HC38.out.2).trans HC38.out.1)
   have HP:=Lib.hid (HB.out.1.next HW.out.1)
   have HO:=Lib.hid (And.intro (HB.out.2.1) (And.intro HB.out.2.2 HW.out.1))
   have HCC:Hid (Calls Tryz.prog 34 #[.slice Q1 y.outs.length q1,.func (.func 35) #[] #[.pointer (some ⟨w.heap.size + 1,0,none⟩)]] w1 fun e w'=>e = .returned (.bool (y.outs.any fun x=>z.ins.contains x))∧w' = w1):=Lib.hid <|
    containsInts_any y.outs _ 35 ⟨w.heap.size + 1,0,none⟩ (fun x=>z.ins.contains x) (fun W=>W = w1) w1 (fun _ _=>rfl) (HP.out.keeps HT.out.2.2.2) rfl (fun W h=>by rw [h];exact Below.refl _ _) fun x _ _ W hW=>(after1_any x (w.heap.size + 1) i1 I1 z.ins W (by rw [hW];exact cell_row HP.out.res HG.out.2.2.1) (by rw [hW];exact HP.out.keeps HG.out.2.2.2.1)).mono (by rintro e w' ⟨rfl,rfl⟩;exact ⟨rfl,hW⟩)
   go_wp2_with fail
   refine HCC.out.mono ?_
   rintro e w2 ⟨rfl,rfl⟩
   obtain ⟨sh,hsh⟩:∃ sh,(y.outs.any fun x=>z.ins.contains x) = sh:=⟨_,rfl⟩
   rw [hsh]
   have HSH:Hid (sharesD (gOuts g t.node.toNat) z.ins = sh):=Lib.hid (by rw [HJ.out,HT.out.2.2.1];exact hsh)
   have HTK:Hid (ts.take (c + 1) = ts.take c++[t]):=Lib.hid (by rw [List.take_add_one,HT.out.2.1];rfl)
   clear hsh HCC hc0 hg1 hq
   have HHL:Hid ((afterD g (ts.take c) z.ins).length ≤ 1000000000000):=Lib.hid (by have:=afterD_len g (ts.take c) z.ins;rw [List.length_take] at this;omega)
   have HCL:Hid (c ≤ ts.length):=Lib.hid hcl
   have hlen:((ts.take c).length:Int) = (c:Int):=by rw [List.length_take];omega
   have HLEN:=Lib.hid hlen
   clear hlen
   cases sh with
   | true =>
    go_wp2_with (at_builtin;refine wpList_append_lies _ rfl _ _ 24 rfl W0.heap.size 3 i0 (.int .i64 0) 1 8 Tryz.underlying24 hi0 hz0 hz1 hz2 rfl (by decide) _ _ _ rfl ((own_below HO.out.1 HO.out.2.2).alloc _) _ _ 1 1 [.int .i64 (c:Int)] rfl rfl (lies_new _ _ _) ?c2 ?c3 ?c4 ?c5 ?_)
    case c2=>intro u hu;simp at hu;subst hu;rfl
    case c3=>unfold maxLen;have:=HHL.out;omega
    case c4=>have:=HHL.out;omega
    case c5=>have:=HO.out.2.1.size;have:=HO.out.2.2.size;simp;omega
    intro v' w3 hown' hgrow _
    go_wp2
    go_roundw
    case rel =>
     refine ⟨c + 1,by go_num,by omega,?_,?_⟩
     ·exact ((HO.out.2.1.trans (HO.out.2.2.mono HO.out.2.1.size)).alloc (HO.out.2.1.trans (HO.out.2.2.mono HO.out.2.1.size)).size _).grown hgrow (by have:=HO.out.2.1.size;have:=HO.out.2.2.size;simp;omega) (fun g hg=>(HO.out.1.lt g hg).1)
     ·rw [HTK.out,afterD_snoc,if_pos HSH.out,HLEN.out,List.length_append,List.map_append]
      exact hown'
    case measure=>simp [intOf];omega
   | false =>
    go_wp2
    go_roundw
    case rel =>
     refine ⟨c + 1,by go_num,by omega,HO.out.2.1.trans (HO.out.2.2.mono HO.out.2.1.size),?_⟩
     rw [HTK.out,afterD_snoc,if_neg (by rw [HSH.out];exact Bool.false_ne_true),List.append_nil]
     exact own_below HO.out.1 HO.out.2.2
    case measure=>simp [intOf];omega
  ·have hlt':¬ (c:Int) < (ts.length:Int):=by omega
   have HCE:=Lib.hid (show ts.take c = ts from List.take_of_length_le (by omega))
   go_wp2
   go_ret
   have ho:=HB.out.2.1
   rw [HCE.out] at ho
   obtain ⟨A,k,rfl,hr⟩:=own_list ho (by have:=afterD_len g ts z.ins;omega) (fun x hx=>by have:=afterD_lt x hx;unfold I64;omega)
   exact ⟨A,k,rfl,Rep.more hr (fresh_le (by have:=HX.out.lt;omega) (Nat.le_refl _)),HB.out.1.below⟩
end Go.Proofs.YtilobeohkomeoaaGreat
