/-
  Chapter 09: all names that are used in a graph that is being built.
-/
import Derived.Test.YtgbkhcmbmffljaaDoorPGVals
set_option linter.unusedSimpArgs false
set_option linter.unusedVariables false
namespace Go.Proofs.YtgbkhcmbmffljaaDoor
open Go.RowKit
open Rep (rep)
set_option maxRecDepth 100000 in
set_option maxHeartbeats 800000 in
theorem findB_any (g mp:Nat) (ns:List ByteArray) (s:ByteArray) (W:World) (h:MapOf W mp ns.length (fun s=>placeD ns s + 1)∧W.cell? ⟨g,4,none⟩ = some (.map (some mp))) (hs:s.size ≤ maxLen) (hn:ns.length ≤ 1048576) :
  Calls Tryd.prog 89 #[.pointer (some ⟨g,0,none⟩),.string s] W fun e w'=>e = .returned (.int .i64 (placeD ns s))∧W = w':=by
 have hlk:=(h.1.lookup s hs).1
 have cg:=h.2
 have hb:=place_bd ns s
 obtain ⟨x,hx⟩:∃ x:Int,placeD ns s + 1 = x:=⟨_,rfl⟩
 have HX:=Lib.hid (show placeD ns s = x - 1 by omega)
 rw [hx] at hlk
 have hx0:0 ≤ x:=by omega
 have hx1:x ≤ 1048576:=by omega
 clear h hb hx
 go_enter Tryd.func89,Tryd.ntmps89
 go_wp2
 go_ret
 exact ⟨by rw [HX.out];rfl,rfl⟩
def lackS (N:List ByteArray) (s:ByteArray):Bool:=decide (s ≠ ⟨#[]⟩) && decide (s ∉ N)
theorem lack_at {N:List ByteArray} {n:NodeD} {l:List NodeD} {i:Nat} {q:Option Int} (h:q = firstLack N i (n :: l)) {s:ByteArray} (hs:s ∈ n.ins) (hl:lackS N s = true):q = some (i:Int):=by
 rw [h,lack_cons,if_pos]
 unfold lacksN
 exact List.any_eq_true.2 ⟨s,hs,hl⟩
theorem lack_next {N:List ByteArray} {n:NodeD} {l:List NodeD} {i:Nat} {q:Option Int} (h:q = firstLack N i (n :: l)) (hs:∀ s ∈ n.ins,lackS N s = false):q = firstLack N (i + 1) l:=by
 rw [h,lack_cons,if_neg]
 intro hc
 unfold lacksN at hc
 obtain ⟨s,h1,h2⟩:=List.any_eq_true.1 hc
 have:=hs s h1
 unfold lackS at this
 rw [this] at h2;cases h2
structure UsesPost (lo:Nat) (ban:List Nat) (g mp:Nat) (W0:World) (rs0:List RowV) (N:List ByteArray) (vals:List ValD) (ins:List Int) (gs gos:List GNodeD) (m:ModelD) (e:Ending) (w':World):Prop where
 bad:∀ i,firstLack N 0 m.nodes = some i→e = .returned (.tuple #[.int .i64 13,.int .i64 i])∧Gone lo ban rs0 W0 w'
 bad2:firstLack N 0 m.nodes = none→lacksOut N m = true→e = .returned (.tuple #[.int .i64 13,.int .i64 (-1)])∧Gone lo ban rs0 W0 w'
 ok:firstLack N 0 m.nodes = none→lacksOut N m = false→e = .returned (.tuple #[.int .i64 0,.int .i64 0])∧BSt lo ban g mp W0 rs0 N vals ins (m.outputs.map fun v=>placeD N v.name) gs ((inedD N m.nodes gos).map fun b=>⟨b,false,false⟩) w'
section
variable {lo:Nat} {ban:List Nat} {g mp:Nat} {W0 w':World} {rs0:List RowV} {N:List ByteArray} {vals:List ValD} {ins:List Int} {gs gos:List GNodeD} {m:ModelD}
theorem uses_bad {i:Int} (h:firstLack N 0 m.nodes = some i) (hg:Gone lo ban rs0 W0 w'):UsesPost lo ban g mp W0 rs0 N vals ins gs gos m (.returned (.tuple #[.int .i64 13,.int .i64 i])) w' :=
 ⟨fun j hj=>(by rw [h] at hj;injection hj with hj;subst hj;exact ⟨rfl,hg⟩),fun hn=>(by rw [h] at hn;cases hn),fun hn=>(by rw [h] at hn;cases hn)⟩
theorem uses_bad2 (h:firstLack N 0 m.nodes = none) (h2:lacksOut N m = true) (hg:Gone lo ban rs0 W0 w'):UsesPost lo ban g mp W0 rs0 N vals ins gs gos m (.returned (.tuple #[.int .i64 13,.int .i64 (-1)])) w' :=
 ⟨fun j hj=>(by rw [h] at hj;cases hj),fun _ _=>⟨rfl,hg⟩,fun _ h3=>(by rw [h2] at h3;cases h3)⟩
theorem uses_ok (h:firstLack N 0 m.nodes = none) (h2:lacksOut N m = false) (hg:BSt lo ban g mp W0 rs0 N vals ins (m.outputs.map fun v=>placeD N v.name) gs ((inedD N m.nodes gos).map fun b=>⟨b,false,false⟩) w'):UsesPost lo ban g mp W0 rs0 N vals ins gs gos m (.returned (.tuple #[.int .i64 0,.int .i64 0])) w' :=
 ⟨fun j hj=>(by rw [h] at hj;cases hj),fun _ h3=>(by rw [h2] at h3;cases h3),fun _ _=>⟨rfl,hg⟩⟩
end
set_option maxRecDepth 100000 in
set_option maxHeartbeats 32000000 in
theorem uses_any (lo:Nat) (ban:List Nat) (g mp:Nat) (W0:World) (rs0:List RowV) (N:List ByteArray) (vals:List ValD) (ins:List Int) (gs gos:List GNodeD) (m:ModelD) (mcs:List Value) (w:World)
  (hB:BSt lo ban g mp W0 rs0 N vals ins [] gs (gos.map fun b=>⟨b,true,false⟩) w) (hm:rep w (old lo) mcs m) (hs:SmallM m) (hN:N.length ≤ 1048576) (hgo:gos.length = m.nodes.length) :
  Calls Tryd.prog 51 #[.pointer (some ⟨g,0,none⟩),.agg mcs.toArray] w (UsesPost lo ban g mp W0 rs0 N vals ins gs gos m):=by
 obtain ⟨A1,k1,A2,k2,A3,k3,A4,k4,rfl,-,-,r1,-,-,r4⟩:=open_ModelD hm
 obtain ⟨i0,hi0,hz0,hz1,hz2⟩:=info_parts info_ints
 have HZ:=Lib.hid (And.intro hi0 (And.intro hz0 (And.intro hz1 hz2)))
 obtain ⟨rs,-,-,-,hB1⟩:=hB.rebase
 have hlo0:=hB.lo_le
 obtain ⟨n1,n1'⟩:=slice_bnd r1
 obtain ⟨n4,n4'⟩:=slice_bnd r4
 have s1:=hs.nodes
 have s2:=hs.outputs
 have s4:=hs.ins
 have hX:=box_start w 59 ([.int .i64 m.opset,.string m.name,.slice A1 m.nodes.length k1,.slice A2 m.inits.length k2,.slice A3 m.inputs.length k3,.slice A4 m.outputs.length k4]:List Value)
 have hsz:(w.alloc (.cells ([.int .i64 m.opset,.string m.name,.slice A1 m.nodes.length k1,.slice A2 m.inits.length k2,.slice A3 m.inputs.length k3,.slice A4 m.outputs.length k4]:List Value).toArray 59)).heap.size = w.heap.size + 1:=World.size_alloc _ _
 obtain ⟨hB2,hR2,hM2,hnew⟩:=hB1 _ hX.below
 have ha:=Rep.keep r1 (Keeps.old_below hX.below hlo0)
 have hb:=Rep.keep r4 (Keeps.old_below hX.below hlo0)
 have HX:=Lib.hid (And.intro hX.row (And.intro hsz (And.intro hB2 (And.intro hR2 (And.intro hM2 (And.intro (hnew _ (Nat.le_refl _)) (And.intro ha hb)))))))
 have HS:=Lib.hid s4
 clear hB hm hs r1 r4 hB1 hX hsz hB2 hR2 hM2 hnew ha hb s4 hi0 hz0 hz1 hz2
 obtain ⟨FB,hFB⟩:∃ FB,firstLack N 0 m.nodes = FB:=⟨_,rfl⟩
 have HFB:=Lib.hid hFB
 clear hFB
 go_enter Tryd.func51,Tryd.ntmps51
 go_wp2_with (with_reducible refine wpList_box_row rfl 59 _ rfl ([.int .i64 m.opset,.string m.name,.slice A1 m.nodes.length k1,.slice A2 m.inits.length k2,.slice A3 m.inputs.length k3,.slice A4 m.outputs.length k4]:List Value) rfl ?_;have hX:=HX.out;generalize World.alloc _ _ = W1 at hX ⊢;have HX:=Lib.hid hX;clear hX;refine halt ?_)
 unfold Halt
 have c2:W1.cell? ⟨w.heap.size,2,none⟩ = some (.slice A1 m.nodes.length k1):=cell_of_row' HX.out.1 rfl
 obtain ⟨A',c',xs,hv,hnc,hcm,-,hl,hch⟩:=open_slice HX.out.2.2.2.2.2.2.1
 simp only [Value.slice.injEq,true_and] at hv
 obtain ⟨rfl,rfl⟩:=hv
 have HL:=Lib.hid (And.intro hl hch)
 have HGO:=Lib.hid hgo
 clear hl hch hgo
 go_wp2_with fail
 clear c2
 go_loopw [17] (fun i wr=>∃ (pre post:List NodeD) (gp gq:List GNodeD),m.nodes = pre++post∧i = .int .i64 pre.length∧(gos = gp++gq∧gp.length = pre.length∧gq.length = post.length)∧BSt lo ban g mp W1 rs N vals ins [] gs ((inedD N pre gp).map (fun b=>(⟨b,false,false⟩:PartD))++gq.map fun b=>⟨b,true,false⟩) wr∧FB = firstLack N pre.length post) (fun i _=>m.nodes.length - (intOf i).toNat)
 case atStart=>exact ⟨[],m.nodes,[],gos,rfl,rfl,⟨rfl,rfl,HGO.out⟩,HX.out.2.2.1,HFB.out.symm⟩
 case round =>
  obtain ⟨pre,post,gp,gq,hpp,rfl,hgg,hB,hF⟩:=hrel
  have HB:=Lib.hid (And.intro hB (And.intro hF hgg))
  clear hB hF hgg
  cases post with
  | cons z post =>
   obtain ⟨hz,hlt,hpp',hpl⟩:=split_at hpp
   obtain ⟨o1,o,ics,rfl,hbB,hrz,hcell⟩:=elem_at HL.out.1 HL.out.2 (by decide) hz
   have hrz':=hrz
   obtain ⟨E1,e1,E2,e2,E3,e3,rfl,-,-,hri,-,-⟩:=open_NodeD hrz
   have hbl:=HB.out.1.gone.below HX.out.2.2.2.1
   have hat:At wr o1 (o + pre.length * 5) ([.string z.op,.string z.name,.slice E1 z.ins.length e1,.slice E2 z.outs.length e2,.slice E3 z.attrs.length e3]:List Value):=fun j u hu=>by
    have h1:=(hcell j u hu).1
    rw [← Nat.add_assoc] at h1
    exact (hbl.cell (p:=⟨o1,o + pre.length * 5 + j,none⟩) hbB).trans h1
   have hk0:(0:Int) ≤ (pre.length:Int):=Int.natCast_nonneg _
   have hk1:(pre.length:Int) < (m.nodes.length:Int):=by omega
   have hzo:=HS.out z (List.mem_of_getElem? hz)
   have HA:=Lib.hid (And.intro hat (And.intro (Rep.one hrz') hri))
   have HP:=Lib.hid (And.intro hpp' hpl)
   have hpn:pre.length < 1024:=by omega
   cases gq with
   | nil=>have h:=HB.out.2.2.2.2;simp at h
   | cons y gq =>
    have hpo:pre.length + (1 + gq.length) = m.nodes.length:=by
     have h:=congrArg List.length hpp
     have h2:=HB.out.2.2.2.2
     rw [List.length_append,List.length_cons] at h
     rw [List.length_cons,List.length_cons] at h2
     omega
    have HPO:=Lib.hid hpo
    clear hpp hpp' hpl hz hcell hrz hrz' hat hbB hri hbl hpo
    have hheat:HSt lo ban g mp W1 rs N vals ins [] gs 37 ((inedD N pre gp).map (fun b=>(⟨b,false,false⟩:PartD))) ⟨y,true,false⟩ (gq.map fun b=>⟨b,true,false⟩) [] wr :=
     HB.out.1.heat rfl 37 (fun Z cs0 h=>h.2.1 rfl)
    obtain ⟨P0,hP0⟩:∃ P0:List PartD,(inedD N pre gp).map (fun b=>(⟨b,false,false⟩:PartD)) = P0:=⟨_,rfl⟩
    obtain ⟨P2,hP2⟩:∃ P2:List PartD,gq.map (fun b=>(⟨b,true,false⟩:PartD)) = P2:=⟨_,rfl⟩
    have hlP:P0.length = pre.length:=by rw [← hP0,List.length_map,ined_len _ _ _ HB.out.2.2.2.1.symm]
    have hlP2:P2.length = gq.length:=by rw [← hP2,List.length_map]
    rw [hP0,hP2] at hheat
    have HPP:=Lib.hid (And.intro hP0 (And.intro hP2 (And.intro hlP hlP2)))
    have HH0:=Lib.hid hheat
    clear hP0 hP2 hlP hlP2 hheat
    obtain ⟨wc,rfl⟩:∃ wc,wc = wr:=⟨_,rfl⟩
    go_wp2_with (first
     |(with_reducible refine wpList_load_agg rfl 36 _ rfl _ _ _ rfl ([.string z.op,.string z.name,.slice E1 z.ins.length e1,.slice E2 z.outs.length e2,.slice E3 z.attrs.length e3]:List Value) Tryd.underlying36 rfl (by kernel_rfl) HA.out.1 ?_)
     |(with_reducible refine wpList_alloc_row rfl 36 rfl zeroNd zeroNd_zero ?_)
     |(with_reducible refine wpList_store_agg rfl 36 _ _ rfl _ 0 ([.string z.op,.string z.name,.slice E1 z.ins.length e1,.slice E2 z.outs.length e2,.slice E3 z.attrs.length e3]:List Value) rfl rfl 36 zeroNd (heap_alloc_new _ _) (by kernel_rfl) (of_decide_eq_true (by kernel_rfl)) HA.out.2.1 ?_;have hY:=laid_row wc 36 zeroNd ([.string z.op,.string z.name,.slice E1 z.ins.length e1,.slice E2 z.outs.length e2,.slice E3 z.attrs.length e3]:List Value) rfl;generalize World.setRow _ _ _ = v2 at hY ⊢;have HV2:=Lib.hid hY;clear hY;refine halt ?_))
    unfold Halt
    have cE:v2.cell? ⟨wc.heap.size,2,none⟩ = some (.slice E1 z.ins.length e1):=cell_of_row' HV2.out.2.1 rfl
    obtain ⟨O',o',ys,hv,hnc4,hcm4,-,hl,hch⟩:=open_slice HA.out.2.2
    simp only [Value.slice.injEq,true_and] at hv
    obtain ⟨rfl,rfl⟩:=hv
    have HO:=Lib.hid (And.intro hl hch)
    clear hl hch
    have HH:=Lib.hid (HH0.out.next HV2.out.1)
    clear HH0 HV2
    go_wp2_with fail
    clear cE
    go_loopw [25] (fun i wr=>∃ (pre2 post2:List ByteArray),z.ins = pre2++post2∧i = .int .i64 pre2.length∧HSt lo ban g mp W1 rs N vals ins [] gs 37 P0 ⟨y,true,false⟩ P2 (pre2.map (placeD N)) wr∧∀ s ∈ pre2,lackS N s = false) (fun i _=>z.ins.length - (intOf i).toNat)
    case atStart=>exact ⟨[],z.ins,rfl,rfl,HH.out,by simp⟩
    case round =>
     obtain ⟨pre2,post2,hpp,rfl,hB2,hF2⟩:=hrel
     have HI:=Lib.hid (And.intro hB2 hF2)
     clear hB2 hF2
     cases post2 with
     | cons s post2 =>
      obtain ⟨hz,hlt2,hpp',hpl⟩:=split_at hpp
      obtain ⟨o3,p3,scs,rfl,hbB,⟨rfl,hnm⟩,hcell⟩:=elem_at HO.out.1 HO.out.2 (by decide) hz
      have hbl:=HI.out.1.gone.below HX.out.2.2.2.1
      have k4:wr.cell? ⟨o3,p3 + pre2.length,none⟩ = some (.string s):=(hbl.cell (p:=⟨o3,p3 + pre2.length,none⟩) hbB).trans (cell_of_elem (α:=ByteArray) rfl hcell rfl)
      have hk2:(0:Int) ≤ (pre2.length:Int):=Int.natCast_nonneg _
      have hk3:(pre2.length:Int) < (z.ins.length:Int):=by omega
      have HQ:=Lib.hid (And.intro hpp' (And.intro hpl (And.intro (show s.size ≤ maxLen by unfold reach at hnm;unfold maxLen;omega) (List.mem_of_getElem? hz))))
      have hpb:=place_bd N s
      have hpi:=place_iff N s
      clear hpp hpp' hpl hz hcell hbB hnm hbl
      have hq5:pre2.length ≤ 64:=by omega
      obtain ⟨x,hx⟩:∃ x,placeD N s = x:=⟨_,rfl⟩
      rw [hx] at hpb hpi
      have hx0:=hpb.1
      have hx1:x ≤ 1048576:=by omega
      have HXX:=Lib.hid hx
      clear hx hpb
      by_cases hx2:x < 0
      ·have hout:=hpi.1 hx2
       by_cases he:s = ⟨#[]⟩
       ·subst he
        have HOK:=Lib.hid (show lackS N ⟨#[]⟩ = false by unfold lackS;simp)
        clear hpi hout
        go_wp2_with fail
        refine (findB_any g mp N ⟨#[]⟩ wr HI.out.1.map HQ.out.2.2.1 hN).mono ?_
        rw [HXX.out]
        rintro e w6 ⟨rfl,rfl⟩
        go_wp2_with fail
        have hx64:I64 x:=by unfold I64;omega
        obtain ⟨A0,c0,b6,cn6,vI,xs,hgl,hlo,d0,d6,hc1,hc2,hbl6,d2,hown,hkey⟩:=HI.out.1.push hx64 (by decide)
        have hlP:P0.length = pre.length:=HPP.out.2.2.1
        have hlies:=lies_new wr.drew ([.int .i64 x]:List Value) 3
        clear hc1 hc2
        refine wp_region_held_drew (S:=fun W=>W.cell? ⟨g,0,none⟩ = some (.slice A0 vals.length c0)∧W.cell? ⟨g,5,none⟩ = some (.slice (some ⟨b6,0,none⟩) (P0.length + (1 + P2.length)) cn6)) (by kernel_rfl) ⟨d0,d6⟩ (fun hHeld=>?_)
        refine take_d9 0 (some 39) (v:=.pointer (some ⟨g,0,none⟩)) rfl (by kernel_rfl) (by kernel_rfl) (by kernel_rfl) (by kernel_rfl) (fun c a w h=>h) (Or.inl ⟨by kernel_rfl,fun w _=>by kernel_rfl⟩) hHeld ?_
        refine take_d9 1 (some 40) (v:=.pointer (some ⟨g,0,none⟩)) rfl (by kernel_rfl) (by kernel_rfl) (by kernel_rfl) (by kernel_rfl) (fun c a w h=>h) (Or.inl ⟨by kernel_rfl,fun w _=>by kernel_rfl⟩) hHeld ?_
        refine take_d9 2 (some 41) (v:=.pointer (some ⟨g,5,none⟩)) rfl (by kernel_rfl) (by kernel_rfl) (by kernel_rfl) (by kernel_rfl) (fun c a w h=>h) (Or.inl ⟨by kernel_rfl,fun w _=>by kernel_rfl⟩) hHeld ?_
        refine take_d9 3 (some 42) (v:=.slice (some ⟨b6,0,none⟩) (P0.length + (1 + P2.length)) cn6) rfl (by kernel_rfl) (by kernel_rfl) (by kernel_rfl) (by kernel_rfl) (fun c a w h=>h) (yields_load_one9 (by kernel_rfl) _ _ rfl g (5) (by kernel_rfl) _ _ Tryd.underlying61 rfl (fun _ h=>h.2)) hHeld ?_
        refine take_d9 4 (some 43) (v:=.int .i64 (pre.length:Int)) rfl (by kernel_rfl) (by kernel_rfl) (by kernel_rfl) (by kernel_rfl) (fun c a w h=>h) (Or.inl ⟨by kernel_rfl,fun w _=>by kernel_rfl⟩) hHeld ?_
        refine take_d9 5 (some 44) (v:=.pointer (some ⟨g,0,none⟩)) rfl (by kernel_rfl) (by kernel_rfl) (by kernel_rfl) (by kernel_rfl) (fun c a w h=>h) (Or.inl ⟨by kernel_rfl,fun w _=>by kernel_rfl⟩) hHeld ?_
        refine take_d9 6 (some 45) (v:=.pointer (some ⟨g,0,none⟩)) rfl (by kernel_rfl) (by kernel_rfl) (by kernel_rfl) (by kernel_rfl) (fun c a w h=>h) (Or.inl ⟨by kernel_rfl,fun w _=>by kernel_rfl⟩) hHeld ?_
        refine take_d9 7 (some 46) (v:=.pointer (some ⟨g,5,none⟩)) rfl (by kernel_rfl) (by kernel_rfl) (by kernel_rfl) (by kernel_rfl) (fun c a w h=>h) (Or.inl ⟨by kernel_rfl,fun w _=>by kernel_rfl⟩) hHeld ?_
        refine take_d9 8 (some 47) (v:=.slice (some ⟨b6,0,none⟩) (P0.length + (1 + P2.length)) cn6) rfl (by kernel_rfl) (by kernel_rfl) (by kernel_rfl) (by kernel_rfl) (fun c a w h=>h) (yields_load_one9 (by kernel_rfl) _ _ rfl g (5) (by kernel_rfl) _ _ Tryd.underlying61 rfl (fun _ h=>h.2)) hHeld ?_
        refine take_d9 9 (some 48) (v:=.int .i64 (pre.length:Int)) rfl (by kernel_rfl) (by kernel_rfl) (by kernel_rfl) (by kernel_rfl) (fun c a w h=>h) (Or.inl ⟨by kernel_rfl,fun w _=>by kernel_rfl⟩) hHeld ?_
        refine take_d9 10 (some 49) (v:=.pointer (some ⟨b6,P0.length * 40,none⟩)) rfl (by kernel_rfl) (by kernel_rfl) (by kernel_rfl) (by kernel_rfl) (fun c a w h=>h) (yields_indexQ (by kernel_rfl) _ _ _ rfl b6 0 (P0.length + (1 + P2.length)) cn6 pre.length 40 (P0.length * 40) (pre.length:Int) (by kernel_rfl) (by kernel_rfl) Tryd.underlying61 (by kernel_rfl) rfl (by omega) (by omega)) hHeld ?_
        refine take_d9 11 (some 50) (v:=.pointer (some ⟨b6,P0.length * 40 + 37,none⟩)) rfl (by kernel_rfl) (by kernel_rfl) (by kernel_rfl) (by kernel_rfl) (fun c a w h=>h) (Or.inl ⟨by kernel_rfl,fun w _=>by kernel_rfl⟩) hHeld ?_
        refine take_d9 13 (some 52) (v:=.int .i64 x) rfl (by kernel_rfl) (by kernel_rfl) (by kernel_rfl) (by kernel_rfl) (fun c a w h=>h) (Or.inl ⟨by kernel_rfl,fun w _=>by kernel_rfl⟩) hHeld ?_
        obtain ⟨hi0,hz0,hz1,hz2⟩:=HZ.out
        have hS1:(wr.drew.alloc (.cells #[.int .i64 x] 3)).cell? ⟨g,0,none⟩ = some (.slice A0 vals.length c0)∧(wr.drew.alloc (.cells #[.int .i64 x] 3)).cell? ⟨g,5,none⟩ = some (.slice (some ⟨b6,0,none⟩) (P0.length + (1 + P2.length)) cn6):=⟨(World.cell?_alloc_lt _ _ _ hgl).trans d0,(World.cell?_alloc_lt _ _ _ hgl).trans d6⟩
        refine anyH_load_lay 12 14 51 53 rfl rfl rfl rfl (by decide) (by decide) (by kernel_rfl) (by kernel_rfl) (by kernel_rfl) rfl rfl _ _ rfl b6 (P0.length * 40 + 37) vI _ Tryd.underlying37 rfl (.slice (some ⟨wr.drew.heap.size,0,none⟩) 1 1) (.cells #[.int .i64 x] 3) (by kernel_rfl) (by kernel_rfl) d2 hbl6 (by kernel_rfl) (by kernel_rfl) hHeld hS1 ?_
        refine anyH_1 15 rfl (by kernel_rfl) ?_
        refine steps_append9 (by kernel_rfl) _ _ _ rfl lo 3 i0 _ 1 8 Tryd.underlying37 hi0 hz0 hz1 hz2 (by kernel_rfl) (by decide) vI (pre2.map (placeD N)).length xs (by kernel_rfl) hown
         (old (wr.drew.heap.size + 1)) (some ⟨wr.drew.heap.size,0,none⟩) 1 1 ([.int .i64 x]:List Value) (by kernel_rfl) rfl hlies (by intro u hu;simp only [List.mem_singleton] at hu;subst hu;rfl) (by rw [List.length_map];unfold maxLen;omega) (by rw [List.length_map];omega) (Nat.le_trans hlo (by rw [World.size_alloc];exact Nat.le_succ _)) ?_
        intro v9 W9 ho9 hg9 hb9
        obtain ⟨q1,q2,q3,q4,q5,q6⟩:=hkey W9 v9 ho9 hg9 hb9
        refine ⟨q4,?_⟩
        refine take_d9 16 (some 55) (v:=.pointer (some ⟨b6,P0.length * 40,none⟩)) rfl (by kernel_rfl) (by kernel_rfl) (by kernel_rfl) (by kernel_rfl) (fun c a w h=>h) (yields_indexQ (by kernel_rfl) _ _ _ rfl b6 0 (P0.length + (1 + P2.length)) cn6 pre.length 40 (P0.length * 40) (pre.length:Int) (by kernel_rfl) (by kernel_rfl) Tryd.underlying61 (by kernel_rfl) rfl (by omega) (by omega)) q4 ?_
        refine take_d9 17 (some 56) (v:=.pointer (some ⟨b6,P0.length * 40 + 37,none⟩)) rfl (by kernel_rfl) (by kernel_rfl) (by kernel_rfl) (by kernel_rfl) (fun c a w h=>h) (Or.inl ⟨by kernel_rfl,fun w _=>by kernel_rfl⟩) q4 ?_
        refine anyH_store_cell9 18 rfl (by kernel_rfl) (by kernel_rfl) _ _ _ rfl b6 (P0.length * 40 + 37) v9 vI (by kernel_rfl) (by kernel_rfl) q3 (by kernel_rfl) q1 q2 q5 ?_
        refine wpAnyH_done (by kernel_rfl) ?_ _
        generalize World.setCell _ _ _ = wz at q6 ⊢
        have HW:=Lib.hid q6
        clear q6 q5 q4 q3 q2 q1 hb9 hg9 ho9 hlies hS1 hi0 hz0 hz1 hz2 hHeld hkey hown d2 d0 d6 hgl hlo hx64 hlP hbl6
        go_wp2
        go_roundw
        case rel =>
         refine ⟨pre2++[⟨#[]⟩],post2,HQ.out.1,by rw [HQ.out.2.1];go_num,?_,?_⟩
         ·rw [List.map_append,List.map_singleton,HXX.out]
          exact HW.out
         ·intro t ht
          rcases List.mem_append.1 ht with h | h
          ·exact HI.out.2 t h
          ·rw [List.mem_singleton.1 h];exact HOK.out
        case measure=>simp [intOf];omega
       ·have HBAD:=Lib.hid (show lackS N s = true by unfold lackS;simp [he,hout])
        obtain ⟨hs1,hs2⟩:=str_some he
        clear hpi hout
        go_wp2_with fail
        refine (findB_any g mp N s wr HI.out.1.map HQ.out.2.2.1 hN).mono ?_
        rw [HXX.out]
        rintro e w6 ⟨rfl,rfl⟩
        go_wp2
        go_ret2
        exact (show UsesPost lo ban g mp W0 rs0 N vals ins gs gos m _ _ from uses_bad (HFB.out.trans (lack_at HB.out.2.1 HQ.out.2.2.2 HBAD.out)) (HI.out.1.gone.base HX.out.2.2.2.2.1))
      ·have HOK:=Lib.hid (show lackS N s = false by
        unfold lackS
        have:s ∈ N:=by
         rcases (inferInstance:Decidable (s ∈ N)) with h | h
         ·exact absurd (hpi.2 h) hx2
         ·exact h
        simp [this])
       clear hpi
       go_wp2_with fail
       refine (findB_any g mp N s wr HI.out.1.map HQ.out.2.2.1 hN).mono ?_
       rw [HXX.out]
       rintro e w6 ⟨rfl,rfl⟩
       go_wp2_with fail
       have hx64:I64 x:=by unfold I64;omega
       obtain ⟨A0,c0,b6,cn6,vI,xs,hgl,hlo,d0,d6,hc1,hc2,hbl6,d2,hown,hkey⟩:=HI.out.1.push hx64 (by decide)
       have hlP:P0.length = pre.length:=HPP.out.2.2.1
       have hlies:=lies_new wr.drew ([.int .i64 x]:List Value) 3
       clear hc1 hc2
       refine wp_region_held_drew (S:=fun W=>W.cell? ⟨g,0,none⟩ = some (.slice A0 vals.length c0)∧W.cell? ⟨g,5,none⟩ = some (.slice (some ⟨b6,0,none⟩) (P0.length + (1 + P2.length)) cn6)) (by kernel_rfl) ⟨d0,d6⟩ (fun hHeld=>?_)
       refine take_d9 0 (some 39) (v:=.pointer (some ⟨g,0,none⟩)) rfl (by kernel_rfl) (by kernel_rfl) (by kernel_rfl) (by kernel_rfl) (fun c a w h=>h) (Or.inl ⟨by kernel_rfl,fun w _=>by kernel_rfl⟩) hHeld ?_
       refine take_d9 1 (some 40) (v:=.pointer (some ⟨g,0,none⟩)) rfl (by kernel_rfl) (by kernel_rfl) (by kernel_rfl) (by kernel_rfl) (fun c a w h=>h) (Or.inl ⟨by kernel_rfl,fun w _=>by kernel_rfl⟩) hHeld ?_
       refine take_d9 2 (some 41) (v:=.pointer (some ⟨g,5,none⟩)) rfl (by kernel_rfl) (by kernel_rfl) (by kernel_rfl) (by kernel_rfl) (fun c a w h=>h) (Or.inl ⟨by kernel_rfl,fun w _=>by kernel_rfl⟩) hHeld ?_
       refine take_d9 3 (some 42) (v:=.slice (some ⟨b6,0,none⟩) (P0.length + (1 + P2.length)) cn6) rfl (by kernel_rfl) (by kernel_rfl) (by kernel_rfl) (by kernel_rfl) (fun c a w h=>h) (yields_load_one9 (by kernel_rfl) _ _ rfl g (5) (by kernel_rfl) _ _ Tryd.underlying61 rfl (fun _ h=>h.2)) hHeld ?_
       refine take_d9 4 (some 43) (v:=.int .i64 (pre.length:Int)) rfl (by kernel_rfl) (by kernel_rfl) (by kernel_rfl) (by kernel_rfl) (fun c a w h=>h) (Or.inl ⟨by kernel_rfl,fun w _=>by kernel_rfl⟩) hHeld ?_
       refine take_d9 5 (some 44) (v:=.pointer (some ⟨g,0,none⟩)) rfl (by kernel_rfl) (by kernel_rfl) (by kernel_rfl) (by kernel_rfl) (fun c a w h=>h) (Or.inl ⟨by kernel_rfl,fun w _=>by kernel_rfl⟩) hHeld ?_
       refine take_d9 6 (some 45) (v:=.pointer (some ⟨g,0,none⟩)) rfl (by kernel_rfl) (by kernel_rfl) (by kernel_rfl) (by kernel_rfl) (fun c a w h=>h) (Or.inl ⟨by kernel_rfl,fun w _=>by kernel_rfl⟩) hHeld ?_
       refine take_d9 7 (some 46) (v:=.pointer (some ⟨g,5,none⟩)) rfl (by kernel_rfl) (by kernel_rfl) (by kernel_rfl) (by kernel_rfl) (fun c a w h=>h) (Or.inl ⟨by kernel_rfl,fun w _=>by kernel_rfl⟩) hHeld ?_
       refine take_d9 8 (some 47) (v:=.slice (some ⟨b6,0,none⟩) (P0.length + (1 + P2.length)) cn6) rfl (by kernel_rfl) (by kernel_rfl) (by kernel_rfl) (by kernel_rfl) (fun c a w h=>h) (yields_load_one9 (by kernel_rfl) _ _ rfl g (5) (by kernel_rfl) _ _ Tryd.underlying61 rfl (fun _ h=>h.2)) hHeld ?_
       refine take_d9 9 (some 48) (v:=.int .i64 (pre.length:Int)) rfl (by kernel_rfl) (by kernel_rfl) (by kernel_rfl) (by kernel_rfl) (fun c a w h=>h) (Or.inl ⟨by kernel_rfl,fun w _=>by kernel_rfl⟩) hHeld ?_
       refine take_d9 10 (some 49) (v:=.pointer (some ⟨b6,P0.length * 40,none⟩)) rfl (by kernel_rfl) (by kernel_rfl) (by kernel_rfl) (by kernel_rfl) (fun c a w h=>h) (yields_indexQ (by kernel_rfl) _ _ _ rfl b6 0 (P0.length + (1 + P2.length)) cn6 pre.length 40 (P0.length * 40) (pre.length:Int) (by kernel_rfl) (by kernel_rfl) Tryd.underlying61 (by kernel_rfl) rfl (by omega) (by omega)) hHeld ?_
       refine take_d9 11 (some 50) (v:=.pointer (some ⟨b6,P0.length * 40 + 37,none⟩)) rfl (by kernel_rfl) (by kernel_rfl) (by kernel_rfl) (by kernel_rfl) (fun c a w h=>h) (Or.inl ⟨by kernel_rfl,fun w _=>by kernel_rfl⟩) hHeld ?_
       refine take_d9 13 (some 52) (v:=.int .i64 x) rfl (by kernel_rfl) (by kernel_rfl) (by kernel_rfl) (by kernel_rfl) (fun c a w h=>h) (Or.inl ⟨by kernel_rfl,fun w _=>by kernel_rfl⟩) hHeld ?_
       obtain ⟨hi0,hz0,hz1,hz2⟩:=HZ.out
       have hS1:(wr.drew.alloc (.cells #[.int .i64 x] 3)).cell? ⟨g,0,none⟩ = some (.slice A0 vals.length c0)∧(wr.drew.alloc (.cells #[.int .i64 x] 3)).cell? ⟨g,5,none⟩ = some (.slice (some ⟨b6,0,none⟩) (P0.length + (1 + P2.length)) cn6):=⟨(World.cell?_alloc_lt _ _ _ hgl).trans d0,(World.cell?_alloc_lt _ _ _ hgl).trans d6⟩
       refine anyH_load_lay 12 14 51 53 rfl rfl rfl rfl (by decide) (by decide) (by kernel_rfl) (by kernel_rfl) (by kernel_rfl) rfl rfl _ _ rfl b6 (P0.length * 40 + 37) vI _ Tryd.underlying37 rfl (.slice (some ⟨wr.drew.heap.size,0,none⟩) 1 1) (.cells #[.int .i64 x] 3) (by kernel_rfl) (by kernel_rfl) d2 hbl6 (by kernel_rfl) (by kernel_rfl) hHeld hS1 ?_
       refine anyH_1 15 rfl (by kernel_rfl) ?_
       refine steps_append9 (by kernel_rfl) _ _ _ rfl lo 3 i0 _ 1 8 Tryd.underlying37 hi0 hz0 hz1 hz2 (by kernel_rfl) (by decide) vI (pre2.map (placeD N)).length xs (by kernel_rfl) hown
        (old (wr.drew.heap.size + 1)) (some ⟨wr.drew.heap.size,0,none⟩) 1 1 ([.int .i64 x]:List Value) (by kernel_rfl) rfl hlies (by intro u hu;simp only [List.mem_singleton] at hu;subst hu;rfl) (by rw [List.length_map];unfold maxLen;omega) (by rw [List.length_map];omega) (Nat.le_trans hlo (by rw [World.size_alloc];exact Nat.le_succ _)) ?_
       intro v9 W9 ho9 hg9 hb9
       obtain ⟨q1,q2,q3,q4,q5,q6⟩:=hkey W9 v9 ho9 hg9 hb9
       refine ⟨q4,?_⟩
       refine take_d9 16 (some 55) (v:=.pointer (some ⟨b6,P0.length * 40,none⟩)) rfl (by kernel_rfl) (by kernel_rfl) (by kernel_rfl) (by kernel_rfl) (fun c a w h=>h) (yields_indexQ (by kernel_rfl) _ _ _ rfl b6 0 (P0.length + (1 + P2.length)) cn6 pre.length 40 (P0.length * 40) (pre.length:Int) (by kernel_rfl) (by kernel_rfl) Tryd.underlying61 (by kernel_rfl) rfl (by omega) (by omega)) q4 ?_
       refine take_d9 17 (some 56) (v:=.pointer (some ⟨b6,P0.length * 40 + 37,none⟩)) rfl (by kernel_rfl) (by kernel_rfl) (by kernel_rfl) (by kernel_rfl) (fun c a w h=>h) (Or.inl ⟨by kernel_rfl,fun w _=>by kernel_rfl⟩) q4 ?_
       refine anyH_store_cell9 18 rfl (by kernel_rfl) (by kernel_rfl) _ _ _ rfl b6 (P0.length * 40 + 37) v9 vI (by kernel_rfl) (by kernel_rfl) q3 (by kernel_rfl) q1 q2 q5 ?_
       refine wpAnyH_done (by kernel_rfl) ?_ _
       generalize World.setCell _ _ _ = wz at q6 ⊢
       have HW:=Lib.hid q6
       clear q6 q5 q4 q3 q2 q1 hb9 hg9 ho9 hlies hS1 hi0 hz0 hz1 hz2 hHeld hkey hown d2 d0 d6 hgl hlo hx64 hlP hbl6
       go_wp2
       go_roundw
       case rel =>
        refine ⟨pre2++[s],post2,HQ.out.1,by rw [HQ.out.2.1];go_num,?_,?_⟩
        ·rw [List.map_append,List.map_singleton,HXX.out]
         exact HW.out
        ·intro t ht
         rcases List.mem_append.1 ht with h | h
         ·exact HI.out.2 t h
         ·rw [List.mem_singleton.1 h];exact HOK.out
       case measure=>simp [intOf];omega
     | nil =>
      obtain ⟨hge4,hpl⟩:=split_end hpp
      have hl:(pre2.map (placeD N)).length ≤ 1048576:=by rw [List.length_map,hpl];omega
      have hcool:=HI.out.1.cool_ins hl
      have hF3:=HI.out.2
      rw [hpl] at hcool hF3
      have HC:=Lib.hid (And.intro hcool (lack_next HB.out.2.1 hF3))
      clear hpp hpl hl hcool hF3
      go_wp2
      go_roundw
      case rel =>
       refine ⟨pre++[z],post,gp++[y],gq,HP.out.1,by rw [HP.out.2];go_num,⟨by rw [List.append_assoc];exact HB.out.2.2.1,by rw [List.length_append,List.length_append,HB.out.2.2.2.1];rfl,by have h:=HB.out.2.2.2.2;simpa using h⟩,?_,?_⟩
       ·have h:=HC.out.1
        rw [← HPP.out.1,← HPP.out.2.1] at h
        rw [ined_snoc N z y _ _ HB.out.2.2.2.1.symm,List.map_append,List.append_assoc]
        exact h
       ·rw [HP.out.2];exact HC.out.2
      case measure=>simp [intOf];omega
  | nil =>
   obtain ⟨hge3,hpl⟩:=split_end hpp
   have hN3:=HB.out.2.1
   have hS3:=HB.out.1
   cases gq with
   | cons y gq=>have h:=HB.out.2.2.2.2;simp at h
   | nil =>
    have hgg:=HB.out.2.2.1
    rw [List.append_nil] at hgg
    rw [hpl,List.map_nil,List.append_nil,← hgg] at hS3
    have HN3:=Lib.hid (show firstLack N 0 m.nodes = none from HFB.out.trans (hN3.trans rfl))
    have HS3:=Lib.hid hS3
    have c5:wr.cell? ⟨w.heap.size,5,none⟩ = some (.slice A4 m.outputs.length k4):=box_of_gone hS3.gone HX.out.1 HX.out.2.2.2.2.2.1 rfl
    clear hpp hpl hN3 hS3 hgg HB HL
    obtain ⟨A',c',xs,hv,hnc2,hcm2,-,hl,hch⟩:=open_slice HX.out.2.2.2.2.2.2.2
    simp only [Value.slice.injEq,true_and] at hv
    obtain ⟨rfl,rfl⟩:=hv
    have HL:=Lib.hid (And.intro hl hch)
    clear hl hch
    obtain ⟨wa,rfl⟩:∃ wa,wa = wr:=⟨_,rfl⟩
    go_wp2_with fail
    clear c5
    obtain ⟨PP,hPP⟩:∃ PP:List PartD,(inedD N m.nodes gos).map (fun b=>(⟨b,false,false⟩:PartD)) = PP:=⟨_,rfl⟩
    rw [hPP] at HS3
    have HPP:=Lib.hid hPP
    clear hPP
    go_loopw [62] (fun i wr=>∃ (pre post:List ValueD),m.outputs = pre++post∧i = .int .i64 pre.length∧BSt lo ban g mp W1 rs N vals ins (pre.map fun v=>placeD N v.name) gs PP wr∧∀ v ∈ pre,v.name ∈ N) (fun i _=>m.outputs.length - (intOf i).toNat)
    case atStart=>exact ⟨[],m.outputs,rfl,rfl,HS3.out,by simp⟩
    case round =>
     obtain ⟨pre,post,hpp,rfl,hB,hF⟩:=hrel
     have HB:=Lib.hid (And.intro hB hF)
     clear hB hF
     cases post with
     | cons z post =>
      obtain ⟨hz,hlt,hpp',hpl⟩:=split_at hpp
      obtain ⟨o1,o,ics,rfl,hbB,hrz,hcell⟩:=elem_at HL.out.1 HL.out.2 (by decide) hz
      have hrz':=hrz
      obtain ⟨E1,e1,rfl,hnm,-,-⟩:=open_ValueD hrz
      have hbl:=HB.out.1.gone.below HX.out.2.2.2.1
      have hat:At wr o1 (o + pre.length * 3) ([.string z.name,.int .i64 z.type,.slice E1 z.dims.length e1]:List Value):=fun j u hu=>by
       have h1:=(hcell j u hu).1
       rw [← Nat.add_assoc] at h1
       exact (hbl.cell (p:=⟨o1,o + pre.length * 3 + j,none⟩) hbB).trans h1
      have hk0:(0:Int) ≤ (pre.length:Int):=Int.natCast_nonneg _
      have hk1:(pre.length:Int) < (m.outputs.length:Int):=by omega
      have HA:=Lib.hid (And.intro hat (Rep.one hrz'))
      have HP:=Lib.hid (And.intro hpp' (And.intro hpl (And.intro (show z.name.size ≤ maxLen by unfold reach at hnm;unfold maxLen;omega) (List.mem_of_getElem? hz))))
      have hpb:=place_bd N z.name
      have hpi:=place_iff N z.name
      clear hpp hpp' hpl hz hcell hrz hrz' hat hbB hnm hbl
      obtain ⟨x,hx⟩:∃ x,placeD N z.name = x:=⟨_,rfl⟩
      rw [hx] at hpb hpi
      have hx0:=hpb.1
      have hx1:x ≤ 1048576:=by omega
      have HXX:=Lib.hid hx
      clear hx hpb
      have HPI:=Lib.hid hpi
      clear hpi
      go_wp2_with (first
       |(with_reducible refine wpList_load_agg rfl 104 _ rfl _ _ _ rfl ([.string z.name,.int .i64 z.type,.slice E1 z.dims.length e1]:List Value) Tryd.underlying104 rfl (by kernel_rfl) HA.out.1 ?_)
       |(with_reducible refine wpList_alloc_row rfl 104 rfl zeroVa zeroVa_zero ?_)
       |(with_reducible refine wpList_store_agg rfl 104 _ _ rfl _ 0 ([.string z.name,.int .i64 z.type,.slice E1 z.dims.length e1]:List Value) rfl rfl 104 zeroVa (heap_alloc_new _ _) (by kernel_rfl) (of_decide_eq_true (by kernel_rfl)) HA.out.2 ?_;have hY:=laid_row wr 104 zeroVa ([.string z.name,.int .i64 z.type,.slice E1 z.dims.length e1]:List Value) rfl;generalize World.setRow _ _ _ = v2 at hY ⊢;have HV2:=Lib.hid hY;clear hY;refine halt ?_))
      unfold Halt
      have hB2:=HB.out.1.next HV2.out.1
      have HB2:=Lib.hid hB2
      have d0:v2.cell? ⟨wr.heap.size,0,none⟩ = some (.string z.name):=cell_of_row' HV2.out.2.1 rfl
      clear hB2 HV2
      go_wp2_with fail
      refine (findB_any g mp N z.name v2 HB2.out.map HP.out.2.2.1 hN).mono ?_
      rw [HXX.out]
      rintro e w6 ⟨rfl,rfl⟩
      by_cases hx2:x < 0
      ·have HBAD:=Lib.hid (show lacksOut N m = true from List.any_eq_true.2 ⟨z,HP.out.2.2.2,by simpa using HPI.out.1 hx2⟩)
       go_wp2
       go_ret2
       exact (show UsesPost lo ban g mp W0 rs0 N vals ins gs gos m _ _ from uses_bad2 HN3.out HBAD.out (HB2.out.gone.base HX.out.2.2.2.2.1))
      ·have HIN:=Lib.hid (show z.name ∈ N by
        rcases (inferInstance:Decidable (z.name ∈ N)) with h | h
        ·exact absurd (HPI.out.2 h) hx2
        ·exact h)
       have hx64:I64 x:=by unfold I64;omega
       obtain ⟨vO,xs,cells,hgl,hlo,d3,hcl,hown,hkey⟩:=HB2.out.push_outs hx64 (B:=v2.alloc (.cells #[.int .i64 x] 3)) ((Below.refl _ _).alloc (Nat.le_refl _) _)
       rw [List.length_map] at hown
       simp only [List.length_map] at hkey
       have hlies:=lies_new v2 ([.int .i64 x]:List Value) 3
       have d3':∀ o:Obj,(v2.alloc o).cell? ⟨g,3,none⟩ = some vO:=fun o=>(World.cell?_alloc_lt _ _ _ hgl).trans d3
       have HK:=Lib.hid (And.intro hown (And.intro hkey (And.intro hcl (And.intro hlies hlo))))
       clear hown hkey hcl hlies hlo d0
       obtain ⟨hi0,hz0,hz1,hz2⟩:=HZ.out
       have hpm:pre.length ≤ 64:=by omega
       go_wp2_with (at_builtin;refine wpList_append_lies _ rfl _ _ 37 rfl lo 3 i0 _ 1 8 Tryd.underlying37 hi0 hz0 hz1 hz2 (by kernel_rfl) (by decide) vO pre.length xs (by kernel_rfl) HK.out.1 (old (v2.heap.size + 1)) (some ⟨v2.heap.size,0,none⟩) 1 1 ([.int .i64 x]:List Value) (by kernel_rfl) rfl HK.out.2.2.2.1 ?c1 ?c2 ?c3 ?c4 ?_)
       case c1=>intro u hu;simp only [List.mem_singleton] at hu;subst hu;rfl
       case c2=>unfold maxLen;omega
       case c3=>omega
       case c4=>exact Nat.le_trans HK.out.2.2.2.2 (by rw [World.size_alloc];exact Nat.le_succ _)
       intro v9 W9 ho9 hg9 hb9
       obtain ⟨q1,q2,q5⟩:=HK.out.2.1 W9 v9 ho9 hg9 (by rw [World.size_alloc];exact hb9)
       obtain ⟨A9,c9,rfl,-,-⟩:=own_slice ho9
       obtain ⟨u9,hu9⟩:∃ u,cells[3]? = some u:=⟨cells[3]'(by rw [HK.out.2.2.1];decide),List.getElem?_eq_getElem _⟩
       have d9:W9.cell? ⟨g,3,none⟩ = some u9:=cell_of_row' q1 hu9
       have f9:W9.frozen? ⟨g,3,none⟩ = false:=by simp [World.frozen?,q1]
       have e9:W9.setCell ⟨g,3,none⟩ (.slice A9 (pre.length + 1) c9) = W9.setRow g (cells.set 3 (.slice A9 (pre.length + 1) c9)).toArray:=by rw [set_as_row q1,List.setIfInBounds_toArray]
       rw [← e9] at q5
       have HW:=Lib.hid q5
       clear q5 e9 q2 q1 hb9 hg9 ho9 d3 d3' hgl hu9 hi0 hz0 hz1 hz2 HK hx64
       go_wp2
       go_roundw
       case rel =>
        refine ⟨pre++[z],post,HP.out.1,by rw [HP.out.2.1];go_num,?_,?_⟩
        ·rw [List.map_append,List.map_singleton,HXX.out]
         exact HW.out
        ·intro t ht
         rcases List.mem_append.1 ht with h | h
         ·exact HB.out.2 t h
         ·rw [List.mem_singleton.1 h];exact HIN.out
       case measure=>simp [intOf];omega
     | nil =>
      obtain ⟨hge3,hpl⟩:=split_end hpp
      have hS4:=HB.out.1
      have hF4:=HB.out.2
      rw [hpl] at hS4 hF4
      rw [← HPP.out] at hS4
      have HE:=Lib.hid (And.intro hS4 hF4)
      clear hpp hpl hS4 hF4
      go_wp2
      go_ret2
      refine (show UsesPost lo ban g mp W0 rs0 N vals ins gs gos m _ _ from uses_ok HN3.out ?_ (HE.out.1.base HX.out.2.2.2.2.1))
      unfold lacksOut
      rw [List.any_eq_false]
      intro v hv
      simpa using HE.out.2 v hv
end Go.Proofs.YtgbkhcmbmffljaaDoor
