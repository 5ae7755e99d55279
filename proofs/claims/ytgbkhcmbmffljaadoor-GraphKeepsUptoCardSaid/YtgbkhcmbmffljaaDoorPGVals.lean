/-
  Chapter 09: all values of a graph that is being built.
-/
import Derived.Test.YtgbkhcmbmffljaaDoorPGMem
set_option linter.unusedSimpArgs false
set_option linter.unusedVariables false
namespace Go.Proofs.YtgbkhcmbmffljaaDoor
open Go.RowKit
open Rep (rep)
theorem rep_tensor0 (w:World) (Z:Zone):rep w Z ([.int .i64 0,.slice none 0 0,.slice none 0 0,.slice none 0 0,.slice none 0 0]:List Value) tensor0 :=
 shut_TensorD (a:=tensor0) (by unfold I64 tensor0;decide) (rep_nil w Z) (rep_nil w Z) (rep_nil w Z) (rep_nil w Z)
theorem zeroV_rep (w:World) (Z:Zone):rep w Z zeroV noVal:=shut_ValD (a:=noVal) (by unfold I64 noVal;decide) (rep_nil w Z) (rep_tensor0 w Z)
theorem cell_kept {w w':World} (h:Below w.heap.size w w') {p:Addr} {u:Value} (hc:w.cell? p = some u):w'.cell? p = some u:=by
 refine (h.cell (p:=p) ?_).trans hc
 rcases Nat.lt_or_ge p.block w.heap.size with h1 | h1
 ·exact h1
 ·have:w.heap[p.block]? = none:=Array.getElem?_eq_none h1
  simp [World.cell?,this] at hc
theorem set_whole {w v w4:World} {zs vs:List Value} {t:TypeId} (hrow:w4.heap[w.heap.size]? = some (.cells zs.toArray t (0,0))) (hl:vs.length = zs.length) (hb4:Below v.heap.size v w4) (hb:Below w.heap.size w v) (hs:w.heap.size + 1 ≤ v.heap.size) :
  (w4.setRow w.heap.size (zs.take 0++vs++zs.drop (0 + vs.length)).toArray).heap[w.heap.size]? = some (.cells vs.toArray t (0,0))∧Below w.heap.size w (w4.setRow w.heap.size (zs.take 0++vs++zs.drop (0 + vs.length)).toArray) ∧
   ∀ {α:Type} [Rep α] (c:List Value) (a:α),rep w4 (fresh (w.heap.size + 1) w4.heap.size) c a→rep (w4.setRow w.heap.size (zs.take 0++vs++zs.drop (0 + vs.length)).toArray) (fresh w.heap.size (w4.setRow w.heap.size (zs.take 0++vs++zs.drop (0 + vs.length)).toArray).heap.size) c a:=by
 have e:(zs.take 0++vs++zs.drop (0 + vs.length)).toArray = vs.toArray:=by rw [List.take_zero,List.nil_append,Nat.zero_add,List.drop_of_length_le (by omega),List.append_nil]
 rw [e]
 refine ⟨heap_setRow _ _ _ _ _ hrow,below_setRow' (hb.trans (hb4.mono (by omega))) (Nat.le_refl _) _,fun c a h=>?_⟩
 exact Rep.more (Rep.keep h (Keeps.of_block fun k hk=>heap_setRow_other _ _ _ _ (by have:=hk.1;omega))) (fresh_le (Nat.le_succ _) (by rw [size_setRow];exact Nat.le_refl _))
structure ValsPost (lo:Nat) (ban:List Nat) (g mp:Nat) (W0:World) (rs0:List RowV) (gs:List GNodeD) (m:ModelD) (e:Ending) (w':World):Prop where
 bad:∀ i,firstBad [] (namesAt m) = some i→e = .returned (.tuple #[.int .i64 13,.int .i64 i])∧Gone lo ban rs0 W0 w'
 ok:firstBad [] (namesAt m) = none→e = .returned (.tuple #[.int .i64 0,.int .i64 0])∧BSt lo ban g mp W0 rs0 (namesM m) (valsM m) (inputsM m) [] gs ((outedD (m.inits.length + m.inputs.length) m.nodes (baresD 0 m.nodes)).map fun b=>⟨b,true,false⟩) w'
theorem vals_bad {lo:Nat} {ban:List Nat} {g mp:Nat} {W0 w':World} {rs0:List RowV} {gs:List GNodeD} {m:ModelD} {i:Int} (h:firstBad [] (namesAt m) = some i) (hg:Gone lo ban rs0 W0 w'):ValsPost lo ban g mp W0 rs0 gs m (.returned (.tuple #[.int .i64 13,.int .i64 i])) w' :=
 ⟨fun j hj=>(by rw [h] at hj;injection hj with hj;subst hj;exact ⟨rfl,hg⟩),fun hn=>(by rw [h] at hn;cases hn)⟩
theorem bad_here {seen:List ByteArray} {s:ByteArray} {i:Int} {l:List (ByteArray × Int)} {q:Option Int} (h:q = firstBad seen ((s,i) :: l)) (hb:badS seen s = true):q = some i:=by rw [h,bad_cons,if_pos hb]
theorem bad_next {seen:List ByteArray} {s:ByteArray} {i:Int} {l:List (ByteArray × Int)} {q:Option Int} (h:q = firstBad seen ((s,i) :: l)) (hb:badS seen s = false):q = firstBad (seen++[s]) l:=by rw [h,bad_cons,if_neg (by rw [hb];decide)]
theorem box_of_gone {lo:Nat} {ban:List Nat} {W1 W:World} {rs:List RowV} (h:Gone lo ban rs W1 W) {b:Nat} {cs:List Value} {t:TypeId} (hb:W1.heap[b]? = some (.cells cs.toArray t (0,0))) (hn:b ∉ ban∧Off rs b) {j:Nat} {u:Value} (hj:cs[j]? = some u):W.cell? ⟨b,j,none⟩ = some u :=
 cell_of_row' ((h.block (Array.getElem?_eq_some_iff.1 hb).1 hn.1 hn.2).trans hb) hj
set_option maxRecDepth 100000 in
set_option maxHeartbeats 32000000 in
theorem values_any (lo:Nat) (ban:List Nat) (g mp:Nat) (W0:World) (rs0:List RowV) (gs:List GNodeD) (m:ModelD) (mcs:List Value) (w:World)
  (hB:BSt lo ban g mp W0 rs0 [] [] [] [] gs ((baresD 0 m.nodes).map fun b=>⟨b,true,true⟩) w) (hm:rep w (old lo) mcs m) (hs:SmallM m) :
  Calls Tryd.prog 50 #[.pointer (some ⟨g,0,none⟩),.agg mcs.toArray] w (ValsPost lo ban g mp W0 rs0 gs m):=by
 obtain ⟨A1,k1,A2,k2,A3,k3,A4,k4,rfl,-,-,r1,r2,r3,-⟩:=open_ModelD hm
 obtain ⟨i0,hi0,hz0,hz1,hz2⟩:=info_parts info_ints
 have HZ:=Lib.hid (And.intro hi0 (And.intro hz0 (And.intro hz1 hz2)))
 obtain ⟨rs,-,-,-,hB1⟩:=hB.rebase
 have hlo0:=hB.lo_le
 obtain ⟨n1,n1'⟩:=slice_bnd r1
 obtain ⟨n2,n2'⟩:=slice_bnd r2
 obtain ⟨n3,n3'⟩:=slice_bnd r3
 have s1:=hs.nodes
 have s2:=hs.inits
 have s3:=hs.inputs
 have s4:=hs.outs
 have hX:=box_start w 59 ([.int .i64 m.opset,.string m.name,.slice A1 m.nodes.length k1,.slice A2 m.inits.length k2,.slice A3 m.inputs.length k3,.slice A4 m.outputs.length k4]:List Value)
 have hsz:(w.alloc (.cells ([.int .i64 m.opset,.string m.name,.slice A1 m.nodes.length k1,.slice A2 m.inits.length k2,.slice A3 m.inputs.length k3,.slice A4 m.outputs.length k4]:List Value).toArray 59)).heap.size = w.heap.size + 1:=World.size_alloc _ _
 obtain ⟨hB2,hR2,hM2,hnew⟩:=hB1 _ hX.below
 have ha:=Rep.keep r1 (Keeps.old_below hX.below hlo0)
 have hb:=Rep.keep r2 (Keeps.old_below hX.below hlo0)
 have hc:=Rep.keep r3 (Keeps.old_below hX.below hlo0)
 have HX:=Lib.hid (And.intro hX.row (And.intro hsz (And.intro hB2 (And.intro hR2 (And.intro hM2 (And.intro (hnew _ (Nat.le_refl _)) (And.intro ha (And.intro hb hc))))))))
 have HS:=Lib.hid s4
 have HN:=Lib.hid (show firstBad [] (namesAt m) = firstBad (([]:List InitD).map (·.name)) (m.inits.map (fun c=>(c.name,(-1:Int)))++(m.inputs.map (fun v=>(v.name,(-1:Int)))++outsAt 0 m.nodes)) by unfold namesAt;rw [List.append_assoc];rfl)
 clear hB hm hs r1 r2 r3 hB1 hX hsz hB2 hR2 hM2 hnew ha hb hc s4 hi0 hz0 hz1 hz2
 obtain ⟨FB,hFB⟩:∃ FB,firstBad [] (namesAt m) = FB:=⟨_,rfl⟩
 have HFB:=Lib.hid hFB
 rw [hFB] at HN
 clear hFB
 go_enter Tryd.func50,Tryd.ntmps50
 go_wp2_with (with_reducible refine wpList_box_row rfl 59 _ rfl ([.int .i64 m.opset,.string m.name,.slice A1 m.nodes.length k1,.slice A2 m.inits.length k2,.slice A3 m.inputs.length k3,.slice A4 m.outputs.length k4]:List Value) rfl ?_;have hX:=HX.out;generalize World.alloc _ _ = W1 at hX ⊢;have HX:=Lib.hid hX;clear hX;refine halt ?_)
 unfold Halt
 have c3:W1.cell? ⟨w.heap.size,3,none⟩ = some (.slice A2 m.inits.length k2):=cell_of_row' HX.out.1 rfl
 obtain ⟨A',c',xs,hv,hnc,hcm,-,hl,hch⟩:=open_slice HX.out.2.2.2.2.2.2.2.1
 simp only [Value.slice.injEq,true_and] at hv
 obtain ⟨rfl,rfl⟩:=hv
 have HL:=Lib.hid (And.intro hl hch)
 clear hl hch
 go_wp2_with fail
 clear c3
 go_loopw [18] (fun i wr=>∃ (pre post:List InitD),m.inits = pre++post∧i = .int .i64 pre.length∧BSt lo ban g mp W1 rs (pre.map (·.name)) (pre.map fun c=>constD c.t) [] [] gs ((baresD 0 m.nodes).map fun b=>⟨b,true,true⟩) wr∧FB = firstBad (pre.map (·.name)) (post.map (fun c=>(c.name,(-1:Int)))++(m.inputs.map (fun v=>(v.name,(-1:Int)))++outsAt 0 m.nodes))) (fun i _=>m.inits.length - (intOf i).toNat)
 case atStart=>exact ⟨[],m.inits,rfl,rfl,HX.out.2.2.1,HN.out⟩
 case round =>
  obtain ⟨pre,post,hpp,rfl,hB,hF⟩:=hrel
  have HB:=Lib.hid (And.intro hB hF)
  clear hB hF
  cases post with
  | cons z post =>
   obtain ⟨hz,hlt,hpp',hpl⟩:=split_at hpp
   obtain ⟨o1,o,ics,rfl,hbB,hrz,hcell⟩:=elem_at HL.out.1 HL.out.2 (by decide) hz
   have hrz':=hrz
   obtain ⟨E1,e1,E2,e2,E3,e3,E4,e4,rfl,hnm,hrt⟩:=open_InitD hrz
   have hbl:=HB.out.1.gone.below HX.out.2.2.2.1
   have hat:At wr o1 (o + pre.length * 6) ([.string z.name,.int .i64 z.t.type,.slice E1 z.t.dims.length e1,.slice E2 z.t.f.length e2,.slice E3 z.t.i.length e3,.slice E4 z.t.b.length e4]:List Value):=fun j u hu=>by
    have h1:=(hcell j u hu).1
    rw [← Nat.add_assoc] at h1
    exact (hbl.cell (p:=⟨o1,o + pre.length * 6 + j,none⟩) hbB).trans h1
   have hk0:(0:Int) ≤ (pre.length:Int):=Int.natCast_nonneg _
   have hk1:(pre.length:Int) < (m.inits.length:Int):=by omega
   have HA:=Lib.hid (And.intro hat (And.intro (Rep.one hrz') (HB.out.1.gone.old HX.out.2.2.2.1 hrt)))
   have HP:=Lib.hid (And.intro hpp' (And.intro hpl (show z.name.size ≤ maxLen by unfold reach at hnm;unfold maxLen;omega)))
   have HNs:=Lib.hid (And.intro (show (pre.map fun c=>constD c.t).length = (pre.map (·.name)).length by simp) (show (pre.map (·.name)).length ≤ 1048576 by rw [List.length_map];omega))
   clear hpp hpp' hpl hz hcell hrz hrz' hat hbB hrt hnm hbl
   obtain ⟨y,hy⟩:∃ y,badS (pre.map (·.name)) z.name = y:=⟨_,rfl⟩
   have HY:=Lib.hid hy
   clear hy
   go_wp2_with (first
    |(with_reducible refine wpList_load_agg rfl 102 _ rfl _ _ _ rfl ([.string z.name,.int .i64 z.t.type,.slice E1 z.t.dims.length e1,.slice E2 z.t.f.length e2,.slice E3 z.t.i.length e3,.slice E4 z.t.b.length e4]:List Value) Tryd.underlying102 rfl (by kernel_rfl) HA.out.1 ?_)
    |(with_reducible refine wpList_alloc_row rfl 102 rfl zeroIn zeroIn_zero ?_)
    |(with_reducible refine wpList_store_agg rfl 102 _ _ rfl _ 0 ([.string z.name,.int .i64 z.t.type,.slice E1 z.t.dims.length e1,.slice E2 z.t.f.length e2,.slice E3 z.t.i.length e3,.slice E4 z.t.b.length e4]:List Value) rfl rfl 102 zeroIn (heap_alloc_new _ _) (by kernel_rfl) (of_decide_eq_true (by kernel_rfl)) HA.out.2.1 ?_;have hY:=laid_row wr 102 zeroIn ([.string z.name,.int .i64 z.t.type,.slice E1 z.t.dims.length e1,.slice E2 z.t.f.length e2,.slice E3 z.t.i.length e3,.slice E4 z.t.b.length e4]:List Value) rfl;generalize World.setRow _ _ _ = v2 at hY ⊢;have HV2:=Lib.hid hY;clear hY;refine halt ?_))
   unfold Halt
   have HAt:=Lib.hid (show At v2.drew wr.heap.size 0 ([.string z.name,.int .i64 z.t.type,.slice E1 z.t.dims.length e1,.slice E2 z.t.f.length e2,.slice E3 z.t.i.length e3,.slice E4 z.t.b.length e4]:List Value) from At.of_row HV2.out.2.1)
   have hbv:=HV2.out.1.drew
   have hsv:v2.drew.heap.size = wr.heap.size + 1:=HV2.out.2.2
   have HV:=Lib.hid (And.intro hbv (And.intro hsv (Rep.keep HA.out.2.2 (Keeps.old_below hbv HB.out.1.lo_le))))
   clear hbv hsv HV2
   go_wp2_with fail
   refine wp_region_held_drew (S:=fun W=>At W wr.heap.size 0 ([.string z.name,.int .i64 z.t.type,.slice E1 z.t.dims.length e1,.slice E2 z.t.f.length e2,.slice E3 z.t.i.length e3,.slice E4 z.t.b.length e4]:List Value)) (by kernel_rfl) HAt.out (fun hHeld=>?_)
   refine take_d9 0 (some 22) (v:=.pointer (some ⟨g,0,none⟩)) rfl (by kernel_rfl) (by kernel_rfl) (by kernel_rfl) (by kernel_rfl) (fun c a w h=>h) (Or.inl ⟨by kernel_rfl,fun w _=>by kernel_rfl⟩) hHeld ?_
   refine take_d9 1 (some 23) (v:=.pointer (some ⟨wr.heap.size,0,none⟩)) rfl (by kernel_rfl) (by kernel_rfl) (by kernel_rfl) (by kernel_rfl) (fun c a w h=>h) (Or.inl ⟨by kernel_rfl,fun w _=>by kernel_rfl⟩) hHeld ?_
   refine take_d9 2 (some 24) (v:=.string z.name) rfl (by kernel_rfl) (by kernel_rfl) (by kernel_rfl) (by kernel_rfl) (fun c a w h=>h) (yields_load_one9 (by kernel_rfl) _ _ rfl wr.heap.size (0) (by kernel_rfl) _ _ Tryd.underlying9 rfl (fun _ h=>h 0 _ rfl)) hHeld ?_
   refine take_d9 3 (some 25) (v:=.pointer (some ⟨wr.heap.size,1,none⟩)) rfl (by kernel_rfl) (by kernel_rfl) (by kernel_rfl) (by kernel_rfl) (fun c a w h=>h) (Or.inl ⟨by kernel_rfl,fun w _=>by kernel_rfl⟩) hHeld ?_
   refine take_d9 4 (some 26) (v:=.agg ([.int .i64 z.t.type,.slice E1 z.t.dims.length e1,.slice E2 z.t.f.length e2,.slice E3 z.t.i.length e3,.slice E4 z.t.b.length e4]:List Value).toArray) rfl (by kernel_rfl) (by kernel_rfl) (by kernel_rfl) (by kernel_rfl) (fun c a w h=>h) (yields_load_agg (by kernel_rfl) 43 _ rfl _ wr.heap.size 1 (by kernel_rfl) ([.int .i64 z.t.type,.slice E1 z.t.dims.length e1,.slice E2 z.t.f.length e2,.slice E3 z.t.i.length e3,.slice E4 z.t.b.length e4]:List Value) Tryd.underlying43 rfl (by kernel_rfl) (fun _ h=>At.part (xs:=[.string z.name]) (cs:=([.int .i64 z.t.type,.slice E1 z.t.dims.length e1,.slice E2 z.t.f.length e2,.slice E3 z.t.i.length e3,.slice E4 z.t.b.length e4]:List Value)) (ys:=[]) (o:=0) h)) hHeld ?_
   refine call_d9 5 (some 27) rfl (by kernel_rfl) (by kernel_rfl) (by kernel_rfl) 87 _ _ rfl #[.agg ([.int .i64 z.t.type,.slice E1 z.t.dims.length e1,.slice E2 z.t.f.length e2,.slice E3 z.t.i.length e3,.slice E4 z.t.b.length e4]:List Value).toArray] (by kernel_rfl) (fun w=>by kernel_rfl) ?_
   refine (constant_any _ z.t v2.drew (Rep.more HV.out.2.2 (old_le (by have:=HV.out.2.1;have:=HB.out.1.lo_le;omega)))).mono ?_
   rintro e w4 ⟨vs,rfl,hv4,hb4⟩
   have hAt4:At w4 wr.heap.size 0 ([.string z.name,.int .i64 z.t.type,.slice E1 z.t.dims.length e1,.slice E2 z.t.f.length e2,.slice E3 z.t.i.length e3,.slice E4 z.t.b.length e4]:List Value):=HAt.out.keep hb4 (by have:=HV.out.2.1;omega)
   have hbw4:Below wr.heap.size wr w4:=HV.out.1.trans (hb4.mono (by have:=HV.out.2.1;omega))
   refine ⟨_,rfl,hAt4,?_⟩
   refine call_d9 6 (some 28) rfl (by kernel_rfl) (by kernel_rfl) (by kernel_rfl) 86 _ _ rfl #[.pointer (some ⟨g,0,none⟩),.string z.name,.agg vs.toArray] (by kernel_rfl) (fun w=>by kernel_rfl) ?_
   refine (HB.out.1.define hbw4 (Rep.more hv4 (fresh_le (by have:=HV.out.2.1;omega) (Nat.le_refl _))) HP.out.2.2 HNs.out.1 HNs.out.2).mono ?_
   rw [HY.out]
   rintro e w5 ⟨rfl,hkp,hbad,hok⟩
   have hAt5:At w5 wr.heap.size 0 ([.string z.name,.int .i64 z.t.type,.slice E1 z.t.dims.length e1,.slice E2 z.t.f.length e2,.slice E3 z.t.i.length e3,.slice E4 z.t.b.length e4]:List Value):=hkp.at' hAt4 (Nat.le_refl _) (by have:=HV.out.2.1;have:=hb4.size;omega)
   refine ⟨_,rfl,hAt5,?_⟩
   have H5:=Lib.hid (And.intro hbad hok)
   clear hbad hok hkp hAt4 hbw4 hv4 hb4
   refine take_d9 7 (some 29) (v:=.bool (!(!y))) rfl (by kernel_rfl) (by kernel_rfl) (by kernel_rfl) (by kernel_rfl) (fun c a w h=>h) (Or.inl ⟨by kernel_rfl,fun w _=>by kernel_rfl⟩) hAt5 ?_
   refine wpAnyH_done (by kernel_rfl) ?_ _
   clear hAt5 hHeld
   cases y with
   | true =>
    rename_i K0 a0
    change K0 _ _
    refine a0 _ _ (wp_cond_true (by kernel_rfl) ?_)
    go_wp2
    go_ret2
    exact (show ValsPost lo ban g mp W0 rs0 gs m _ _ from vals_bad (HFB.out.trans (bad_here HB.out.2 HY.out)) ((H5.out.1 (by simp)).base HX.out.2.2.2.2.1))
   | false =>
    rename_i K0 a0
    change K0 _ _
    refine a0 _ _ (wp_cond_false (by kernel_rfl) ?_)
    go_wp2
    go_roundw
    case rel=>exact ⟨pre++[z],post,HP.out.1,by rw [HP.out.2.1];go_num,by rw [List.map_append,List.map_append];exact H5.out.2 (by simp),by rw [List.map_append];exact bad_next HB.out.2 HY.out⟩
    case measure=>simp [intOf];omega
  | nil =>
   obtain ⟨hge,hpl⟩:=split_end hpp
   have hN2:FB = firstBad (m.inits.map (·.name)++([]:List ValueD).map (·.name)) (m.inputs.map (fun v=>(v.name,(-1:Int)))++outsAt 0 m.nodes):=by
    have h:=HB.out.2
    rw [hpl] at h
    rw [List.map_nil,List.append_nil]
    exact h
   have hS2:BSt lo ban g mp W1 rs (m.inits.map (·.name)++([]:List ValueD).map (·.name)) ((m.inits.map fun c=>constD c.t)++([]:List ValueD).map inputV) (seqI m.inits.length 0) [] gs ((baresD 0 m.nodes).map fun b=>⟨b,true,true⟩) wr:=by
    have h:=HB.out.1
    rw [hpl] at h
    rw [List.map_nil,List.append_nil,List.map_nil,List.append_nil]
    exact h
   have c4:wr.cell? ⟨w.heap.size,4,none⟩ = some (.slice A3 m.inputs.length k3):=box_of_gone hS2.gone HX.out.1 HX.out.2.2.2.2.2.1 rfl
   have HB0:=Lib.hid (And.intro hS2 hN2)
   clear hpp hpl HL HB hS2 hN2 HN
   obtain ⟨A',c',xs,hv,hnc2,hcm2,-,hl,hch⟩:=open_slice HX.out.2.2.2.2.2.2.2.2
   simp only [Value.slice.injEq,true_and] at hv
   obtain ⟨rfl,rfl⟩:=hv
   have HL:=Lib.hid (And.intro hl hch)
   clear hl hch
   obtain ⟨wa,rfl⟩:∃ wa,wa = wr:=⟨_,rfl⟩
   go_wp2_with fail
   clear c4
   go_loopw [34] (fun i wr=>∃ (pre post:List ValueD),m.inputs = pre++post∧i = .int .i64 pre.length∧BSt lo ban g mp W1 rs (m.inits.map (·.name)++pre.map (·.name)) ((m.inits.map fun c=>constD c.t)++pre.map inputV) (seqI m.inits.length pre.length) [] gs ((baresD 0 m.nodes).map fun b=>⟨b,true,true⟩) wr∧FB = firstBad (m.inits.map (·.name)++pre.map (·.name)) (post.map (fun v=>(v.name,(-1:Int)))++outsAt 0 m.nodes)) (fun i _=>m.inputs.length - (intOf i).toNat)
   case atStart=>exact ⟨[],m.inputs,rfl,rfl,HB0.out.1,HB0.out.2⟩
   case round =>
    obtain ⟨pre,post,hpp,rfl,hB,hF⟩:=hrel
    have HB:=Lib.hid (And.intro hB hF)
    clear hB hF HB0
    cases post with
    | cons z post =>
     obtain ⟨hz,hlt,hpp',hpl⟩:=split_at hpp
     obtain ⟨o1,o,ics,rfl,hbB,hrz,hcell⟩:=elem_at HL.out.1 HL.out.2 (by decide) hz
     have hrz':=hrz
     obtain ⟨E1,e1,rfl,hnm,hti,hrt⟩:=open_ValueD hrz
     have hbl:=HB.out.1.gone.below HX.out.2.2.2.1
     have hat:At wr o1 (o + pre.length * 3) ([.string z.name,.int .i64 z.type,.slice E1 z.dims.length e1]:List Value):=fun j u hu=>by
      have h1:=(hcell j u hu).1
      rw [← Nat.add_assoc] at h1
      exact (hbl.cell (p:=⟨o1,o + pre.length * 3 + j,none⟩) hbB).trans h1
     have hk0:(0:Int) ≤ (pre.length:Int):=Int.natCast_nonneg _
     have hk1:(pre.length:Int) < (m.inputs.length:Int):=by omega
     have HA:=Lib.hid (And.intro hat (And.intro (Rep.one hrz') (HB.out.1.gone.old HX.out.2.2.2.1 hrt)))
     have HP:=Lib.hid (And.intro hpp' (And.intro hpl (And.intro (show z.name.size ≤ maxLen by unfold reach at hnm;unfold maxLen;omega) hti)))
     have HNs:=Lib.hid (And.intro (show ((m.inits.map fun c=>constD c.t)++pre.map inputV).length = (m.inits.map (·.name)++pre.map (·.name)).length by simp) (And.intro (show (m.inits.map (·.name)++pre.map (·.name)).length ≤ 1048576 by rw [List.length_append,List.length_map,List.length_map];omega) (show ((m.inits.map fun c=>constD c.t)++pre.map inputV++[inputV z]).length = m.inits.length + pre.length + 1 by simp;omega)))
     clear hpp hpp' hpl hz hcell hrz hrz' hat hbB hrt hnm hbl hti
     obtain ⟨y,hy⟩:∃ y,badS (m.inits.map (·.name)++pre.map (·.name)) z.name = y:=⟨_,rfl⟩
     have HY:=Lib.hid hy
     clear hy
     go_wp2_with (first
      |(with_reducible refine wpList_load_agg rfl 104 _ rfl _ _ _ rfl ([.string z.name,.int .i64 z.type,.slice E1 z.dims.length e1]:List Value) Tryd.underlying104 rfl (by kernel_rfl) HA.out.1 ?_)
      |(with_reducible refine wpList_alloc_row rfl 104 rfl zeroVa zeroVa_zero ?_)
      |(with_reducible refine wpList_store_agg rfl 104 _ _ rfl _ 0 ([.string z.name,.int .i64 z.type,.slice E1 z.dims.length e1]:List Value) rfl rfl 104 zeroVa (heap_alloc_new _ _) (by kernel_rfl) (of_decide_eq_true (by kernel_rfl)) HA.out.2.1 ?_;have hY:=laid_row wr 104 zeroVa ([.string z.name,.int .i64 z.type,.slice E1 z.dims.length e1]:List Value) rfl;generalize World.setRow _ _ _ = v2 at hY ⊢;have HV2:=Lib.hid hY;clear hY;refine halt ?_))
     unfold Halt
     have HAt:=Lib.hid (show At v2.drew wr.heap.size 0 ([.string z.name,.int .i64 z.type,.slice E1 z.dims.length e1]:List Value) from At.of_row HV2.out.2.1)
     have hbv:=HV2.out.1.drew
     have hsv:v2.drew.heap.size = wr.heap.size + 1:=HV2.out.2.2
     have HV:=Lib.hid (And.intro hbv (And.intro hsv (Rep.keep HA.out.2.2 (Keeps.old_below hbv HB.out.1.lo_le))))
     clear hbv hsv HV2
     go_wp2_with fail
     refine wp_region_held_drew (S:=fun W=>At W wr.heap.size 0 ([.string z.name,.int .i64 z.type,.slice E1 z.dims.length e1]:List Value)) (by kernel_rfl) HAt.out (fun hHeld=>?_)
     refine take_d9 0 (some 38) (v:=.pointer (some ⟨g,0,none⟩)) rfl (by kernel_rfl) (by kernel_rfl) (by kernel_rfl) (by kernel_rfl) (fun c a w h=>h) (Or.inl ⟨by kernel_rfl,fun w _=>by kernel_rfl⟩) hHeld ?_
     refine take_d9 1 (some 39) (v:=.pointer (some ⟨wr.heap.size,0,none⟩)) rfl (by kernel_rfl) (by kernel_rfl) (by kernel_rfl) (by kernel_rfl) (fun c a w h=>h) (Or.inl ⟨by kernel_rfl,fun w _=>by kernel_rfl⟩) hHeld ?_
     refine take_d9 2 (some 40) (v:=.string z.name) rfl (by kernel_rfl) (by kernel_rfl) (by kernel_rfl) (by kernel_rfl) (fun c a w h=>h) (yields_load_one9 (by kernel_rfl) _ _ rfl wr.heap.size (0) (by kernel_rfl) _ _ Tryd.underlying9 rfl (fun _ h=>h 0 _ rfl)) hHeld ?_
     refine take_d9 3 (some 41) (v:=.pointer (some ⟨wr.heap.size,1,none⟩)) rfl (by kernel_rfl) (by kernel_rfl) (by kernel_rfl) (by kernel_rfl) (fun c a w h=>h) (Or.inl ⟨by kernel_rfl,fun w _=>by kernel_rfl⟩) hHeld ?_
     refine take_d9 4 (some 42) (v:=.int .i64 z.type) rfl (by kernel_rfl) (by kernel_rfl) (by kernel_rfl) (by kernel_rfl) (fun c a w h=>h) (yields_load_one9 (by kernel_rfl) _ _ rfl wr.heap.size (1) (by kernel_rfl) _ _ Tryd.underlying3 rfl (fun _ h=>h 1 _ rfl)) hHeld ?_
     refine take_d9 5 (some 43) (v:=.pointer (some ⟨wr.heap.size,2,none⟩)) rfl (by kernel_rfl) (by kernel_rfl) (by kernel_rfl) (by kernel_rfl) (fun c a w h=>h) (Or.inl ⟨by kernel_rfl,fun w _=>by kernel_rfl⟩) hHeld ?_
     refine take_d9 6 (some 44) (v:=.slice E1 z.dims.length e1) rfl (by kernel_rfl) (by kernel_rfl) (by kernel_rfl) (by kernel_rfl) (fun c a w h=>h) (yields_load_one9 (by kernel_rfl) _ _ rfl wr.heap.size (2) (by kernel_rfl) _ _ Tryd.underlying37 rfl (fun _ h=>h 2 _ rfl)) hHeld ?_
     refine call_d9 7 (some 45) rfl (by kernel_rfl) (by kernel_rfl) (by kernel_rfl) 88 _ _ rfl #[.slice E1 z.dims.length e1] (by kernel_rfl) (fun w=>by kernel_rfl) ?_
     refine ((clone_ints z.dims _ v2.drew (Rep.more HV.out.2.2 (old_le (by have:=HV.out.2.1;have:=HB.out.1.lo_le;omega)))).mono (fun _ _ h=>sliced h)).mono ?_
     rintro e w4 ⟨C1,c1,rfl,hv4,hb4⟩
     have hAt4:At w4 wr.heap.size 0 ([.string z.name,.int .i64 z.type,.slice E1 z.dims.length e1]:List Value):=HAt.out.keep hb4 (by have:=HV.out.2.1;omega)
     have hbw4:Below wr.heap.size wr w4:=HV.out.1.trans (hb4.mono (by have:=HV.out.2.1;omega))
     have hv5:rep w4 (fresh wr.heap.size w4.heap.size) ([.int .i64 z.type,.slice C1 z.dims.length c1,.bool false,.int .i64 0,.slice none 0 0,.slice none 0 0,.slice none 0 0,.slice none 0 0]:List Value) (inputV z):=shut_ValD (a:=inputV z) HP.out.2.2.2 (Rep.more hv4 (fresh_le (by have:=HV.out.2.1;omega) (Nat.le_refl _))) (rep_tensor0 _ _)
     refine ⟨_,rfl,hAt4,?_⟩
     refine take_d9 8 (some 46) (v:=.agg ([.int .i64 z.type,.slice C1 z.dims.length c1,.bool false,.int .i64 0,.slice none 0 0,.slice none 0 0,.slice none 0 0,.slice none 0 0]:List Value).toArray) rfl (by kernel_rfl) (by kernel_rfl) (by kernel_rfl) (by kernel_rfl) (fun c a w h=>h) (Or.inl ⟨by kernel_rfl,fun w _=>by kernel_rfl⟩) hAt4 ?_
     refine call_d9 9 (some 47) rfl (by kernel_rfl) (by kernel_rfl) (by kernel_rfl) 86 _ _ rfl #[.pointer (some ⟨g,0,none⟩),.string z.name,.agg ([.int .i64 z.type,.slice C1 z.dims.length c1,.bool false,.int .i64 0,.slice none 0 0,.slice none 0 0,.slice none 0 0,.slice none 0 0]:List Value).toArray] (by kernel_rfl) (fun w=>by kernel_rfl) ?_
     refine (HB.out.1.define hbw4 hv5 HP.out.2.2.1 HNs.out.1 HNs.out.2.1).mono ?_
     rw [HY.out]
     rintro e w5 ⟨rfl,hkp,hbad,hok⟩
     have hAt5:At w5 wr.heap.size 0 ([.string z.name,.int .i64 z.type,.slice E1 z.dims.length e1]:List Value):=hkp.at' hAt4 (Nat.le_refl _) (by have:=HV.out.2.1;have:=hb4.size;omega)
     refine ⟨_,rfl,hAt5,?_⟩
     have H5:=Lib.hid (And.intro hbad hok)
     clear hbad hok hkp hAt4 hbw4 hv4 hb4 hv5
     refine take_d9 10 (some 48) (v:=.bool (!(!y))) rfl (by kernel_rfl) (by kernel_rfl) (by kernel_rfl) (by kernel_rfl) (fun c a w h=>h) (Or.inl ⟨by kernel_rfl,fun w _=>by kernel_rfl⟩) hAt5 ?_
     refine wpAnyH_done (by kernel_rfl) ?_ _
     clear hAt5 hHeld
     cases y with
     | true =>
      rename_i K0 a0
      change K0 _ _
      refine a0 _ _ (wp_cond_true (by kernel_rfl) ?_)
      go_wp2
      go_ret2
      exact (show ValsPost lo ban g mp W0 rs0 gs m _ _ from vals_bad (HFB.out.trans (bad_here HB.out.2 HY.out)) ((H5.out.1 (by simp)).base HX.out.2.2.2.2.1))
     | false =>
      rename_i K0 a0
      change K0 _ _
      refine a0 _ _ (wp_cond_false (by kernel_rfl) ?_)
      have hst:=H5.out.2 (by simp)
      have HF:=Lib.hid (show FB = firstBad (m.inits.map (·.name)++(pre++[z]).map (·.name)) (post.map (fun v=>(v.name,(-1:Int)))++outsAt 0 m.nodes) by rw [List.map_append,← List.append_assoc];exact bad_next HB.out.2 HY.out)
      go_wp2_with fail
      have hx64:I64 (((m.inits.length + pre.length + 1:Nat):Int) - 1):=by unfold I64;omega
      obtain ⟨A0,c0,vI,xs,cells,hgl,hlo,d0,hc1,hc2,d2,hcl,hown,hkey⟩:=hst.push_ins hx64
      rw [HNs.out.2.2] at d0 hc1 hkey
      have hlies:=lies_new w5.drew ([.int .i64 (((m.inits.length + pre.length + 1:Nat):Int) - 1)]:List Value) 3
      clear H5 HAt HV hst hc1 hc2
      refine wp_region_held_drew (S:=fun W=>W.cell? ⟨g,0,none⟩ = some (.slice A0 (m.inits.length + pre.length + 1) c0)) (by kernel_rfl) d0 (fun hHeld=>?_)
      refine take_d9 0 (some 49) (v:=.pointer (some ⟨g,0,none⟩)) rfl (by kernel_rfl) (by kernel_rfl) (by kernel_rfl) (by kernel_rfl) (fun c a w h=>h) (Or.inl ⟨by kernel_rfl,fun w _=>by kernel_rfl⟩) hHeld ?_
      refine take_d9 1 (some 50) (v:=.pointer (some ⟨g,0,none⟩)) rfl (by kernel_rfl) (by kernel_rfl) (by kernel_rfl) (by kernel_rfl) (fun c a w h=>h) (Or.inl ⟨by kernel_rfl,fun w _=>by kernel_rfl⟩) hHeld ?_
      refine take_d9 2 (some 51) (v:=.pointer (some ⟨g,0,none⟩)) rfl (by kernel_rfl) (by kernel_rfl) (by kernel_rfl) (by kernel_rfl) (fun c a w h=>h) (Or.inl ⟨by kernel_rfl,fun w _=>by kernel_rfl⟩) hHeld ?_
      refine take_d9 3 (some 52) (v:=.pointer (some ⟨g,0,none⟩)) rfl (by kernel_rfl) (by kernel_rfl) (by kernel_rfl) (by kernel_rfl) (fun c a w h=>h) (Or.inl ⟨by kernel_rfl,fun w _=>by kernel_rfl⟩) hHeld ?_
      refine take_d9 4 (some 53) (v:=.pointer (some ⟨g,2,none⟩)) rfl (by kernel_rfl) (by kernel_rfl) (by kernel_rfl) (by kernel_rfl) (fun c a w h=>h) (Or.inl ⟨by kernel_rfl,fun w _=>by kernel_rfl⟩) hHeld ?_
      refine take_d9 6 (some 55) (v:=.pointer (some ⟨g,0,none⟩)) rfl (by kernel_rfl) (by kernel_rfl) (by kernel_rfl) (by kernel_rfl) (fun c a w h=>h) (Or.inl ⟨by kernel_rfl,fun w _=>by kernel_rfl⟩) hHeld ?_
      refine take_d9 7 (some 56) (v:=.pointer (some ⟨g,0,none⟩)) rfl (by kernel_rfl) (by kernel_rfl) (by kernel_rfl) (by kernel_rfl) (fun c a w h=>h) (Or.inl ⟨by kernel_rfl,fun w _=>by kernel_rfl⟩) hHeld ?_
      refine take_d9 8 (some 57) (v:=.pointer (some ⟨g,0,none⟩)) rfl (by kernel_rfl) (by kernel_rfl) (by kernel_rfl) (by kernel_rfl) (fun c a w h=>h) (Or.inl ⟨by kernel_rfl,fun w _=>by kernel_rfl⟩) hHeld ?_
      refine take_d9 9 (some 58) (v:=.pointer (some ⟨g,0,none⟩)) rfl (by kernel_rfl) (by kernel_rfl) (by kernel_rfl) (by kernel_rfl) (fun c a w h=>h) (Or.inl ⟨by kernel_rfl,fun w _=>by kernel_rfl⟩) hHeld ?_
      refine take_d9 10 (some 59) (v:=.slice A0 (m.inits.length + pre.length + 1) c0) rfl (by kernel_rfl) (by kernel_rfl) (by kernel_rfl) (by kernel_rfl) (fun c a w h=>h) (yields_load_one9 (by kernel_rfl) _ _ rfl g (0) (by kernel_rfl) _ _ Tryd.underlying60 rfl (fun _ h=>h)) hHeld ?_
      refine take_d9 11 (some 60) (v:=.int .i64 ((m.inits.length + pre.length + 1:Nat):Int)) rfl (by kernel_rfl) (by kernel_rfl) (by kernel_rfl) (by kernel_rfl) (fun c a w h=>h) (yields_len9 (by kernel_rfl) _ _ rfl A0 (m.inits.length + pre.length + 1) c0 (by kernel_rfl) Tryd.underlying60) hHeld ?_
      refine take_d9 12 (some 61) (v:=.int .i64 (((m.inits.length + pre.length + 1:Nat):Int) - 1)) rfl (by kernel_rfl) (by kernel_rfl) (by kernel_rfl) (by kernel_rfl) (fun c a w h=>h) (yields_subI (by kernel_rfl) _ _ _ _ rfl _ 1 (by kernel_rfl) (by kernel_rfl) Tryd.underlying3 (by decide) (by omega) (by omega)) hHeld ?_
      obtain ⟨hi0,hz0,hz1,hz2⟩:=HZ.out
      have hS1:(w5.drew.alloc (.cells #[.int .i64 (((m.inits.length + pre.length + 1:Nat):Int) - 1)] 3)).cell? ⟨g,0,none⟩ = some (.slice A0 (m.inits.length + pre.length + 1) c0):=(World.cell?_alloc_lt _ _ _ hgl).trans d0
      refine anyH_load_lay 5 13 54 62 rfl rfl rfl rfl (by decide) (by decide) (by kernel_rfl) (by kernel_rfl) (by kernel_rfl) rfl rfl _ _ rfl g 2 vI _ Tryd.underlying37 rfl (.slice (some ⟨w5.drew.heap.size,0,none⟩) 1 1) (.cells #[.int .i64 (((m.inits.length + pre.length + 1:Nat):Int) - 1)] 3) (by kernel_rfl) (by kernel_rfl) d2 hgl (by kernel_rfl) (by kernel_rfl) hHeld hS1 ?_
      refine anyH_1 14 rfl (by kernel_rfl) ?_
      refine steps_append9 (by kernel_rfl) _ _ _ rfl lo 3 i0 _ 1 8 Tryd.underlying37 hi0 hz0 hz1 hz2 (by kernel_rfl) (by decide) vI (seqI m.inits.length pre.length).length xs (by kernel_rfl) hown
       (old (w5.drew.heap.size + 1)) (some ⟨w5.drew.heap.size,0,none⟩) 1 1 ([.int .i64 (((m.inits.length + pre.length + 1:Nat):Int) - 1)]:List Value) (by kernel_rfl) rfl hlies (by intro u hu;simp only [List.mem_singleton] at hu;subst hu;rfl) (by rw [seqI_len];unfold maxLen;omega) (by rw [seqI_len];omega) (Nat.le_trans hlo (by rw [World.size_alloc];exact Nat.le_succ _)) ?_
      intro v9 W9 ho9 hg9 hb9
      obtain ⟨q1,q2,q3,q4,q5⟩:=hkey W9 v9 ho9 hg9 hb9
      refine ⟨q3,?_⟩
      refine take_d9 15 (some 64) (v:=.pointer (some ⟨g,0,none⟩)) rfl (by kernel_rfl) (by kernel_rfl) (by kernel_rfl) (by kernel_rfl) (fun c a w h=>h) (Or.inl ⟨by kernel_rfl,fun w _=>by kernel_rfl⟩) q3 ?_
      refine take_d9 16 (some 65) (v:=.pointer (some ⟨g,0,none⟩)) rfl (by kernel_rfl) (by kernel_rfl) (by kernel_rfl) (by kernel_rfl) (fun c a w h=>h) (Or.inl ⟨by kernel_rfl,fun w _=>by kernel_rfl⟩) q3 ?_
      refine take_d9 17 (some 66) (v:=.pointer (some ⟨g,2,none⟩)) rfl (by kernel_rfl) (by kernel_rfl) (by kernel_rfl) (by kernel_rfl) (fun c a w h=>h) (Or.inl ⟨by kernel_rfl,fun w _=>by kernel_rfl⟩) q3 ?_
      refine anyH_store_field 18 rfl (by kernel_rfl) (by kernel_rfl) _ _ _ rfl g 2 v9 (by kernel_rfl) (by kernel_rfl) q2 (by kernel_rfl) 108 cells q1 (by omega) q4 ?_
      refine wpAnyH_done (by kernel_rfl) ?_ _
      generalize World.setRow _ _ _ = wc at q5 ⊢
      have HW:=Lib.hid q5
      clear q5 q4 q3 q2 q1 hb9 hg9 ho9 hlies hS1 hi0 hz0 hz1 hz2 hHeld hkey hown d2 d0 hgl hlo hcl hx64
      go_wp2
      go_roundw
      case rel =>
       refine ⟨pre++[z],post,HP.out.1,by rw [HP.out.2.1];go_num,?_,HF.out⟩
       rw [HP.out.2.1,seqI_snoc,List.map_append,List.map_append,← List.append_assoc,← List.append_assoc]
       have h:=HW.out
       rwa [show (((m.inits.length + pre.length + 1:Nat):Int) - 1) = ((m.inits.length + pre.length:Nat):Int) by omega] at h
      case measure=>simp [intOf];omega
    | nil =>
     obtain ⟨hge2,hpl⟩:=split_end hpp
     have hN2:FB = firstBad ((m.inits.map (·.name)++m.inputs.map (·.name))++([]:List NodeD).flatMap (·.outs)) (outsAt ([]:List NodeD).length m.nodes):=by
      have h:=HB.out.2
      rw [hpl] at h
      rw [List.flatMap_nil,List.append_nil]
      exact h
     have hS2:BSt lo ban g mp W1 rs ((m.inits.map (·.name)++m.inputs.map (·.name))++([]:List NodeD).flatMap (·.outs)) (((m.inits.map fun c=>constD c.t)++m.inputs.map inputV)++outVals [] (baresD 0 [])) (inputsM m) [] gs ((outedD (m.inits.length + m.inputs.length) [] (baresD 0 [])).map (fun b=>(⟨b,true,false⟩:PartD))++(baresD ([]:List NodeD).length m.nodes).map fun b=>⟨b,true,true⟩) wr:=by
      have h:=HB.out.1
      rw [hpl] at h
      rw [List.flatMap_nil,List.append_nil]
      show BSt lo ban g mp W1 rs _ (_++[]) _ _ _ ([]++_) _
      rw [List.append_nil]
      exact h
     have c2:wr.cell? ⟨w.heap.size,2,none⟩ = some (.slice A1 m.nodes.length k1):=box_of_gone hS2.gone HX.out.1 HX.out.2.2.2.2.2.1 rfl
     have HB0:=Lib.hid (And.intro hS2 hN2)
     clear hpp hpl HL HB hS2 hN2
     obtain ⟨A',c',xs,hv,hnc3,hcm3,-,hl,hch⟩:=open_slice HX.out.2.2.2.2.2.2.1
     simp only [Value.slice.injEq,true_and] at hv
     obtain ⟨rfl,rfl⟩:=hv
     have HL:=Lib.hid (And.intro hl hch)
     clear hl hch
     obtain ⟨wb,rfl⟩:∃ wb,wb = wr:=⟨_,rfl⟩
     obtain ⟨N0,hN0⟩:∃ N0:List ByteArray,m.inits.map (·.name)++m.inputs.map (·.name) = N0:=⟨_,rfl⟩
     obtain ⟨V0,hV0⟩:∃ V0:List ValD,(m.inits.map fun c=>constD c.t)++m.inputs.map inputV = V0:=⟨_,rfl⟩
     obtain ⟨K0,hK0⟩:∃ K0:Nat,m.inits.length + m.inputs.length = K0:=⟨_,rfl⟩
     have hlN:N0.length = K0:=by rw [← hN0,← hK0];simp
     have hlV:V0.length = K0:=by rw [← hV0,← hK0];simp
     have hKs:K0 ≤ 2048:=by omega
     rw [hN0,hV0,hK0] at HB0
     have HNV:=Lib.hid (And.intro hN0 (And.intro hV0 (And.intro hK0 (And.intro hlN hlV))))
     clear hN0 hV0 hK0 hlN hlV
     go_wp2_with fail
     clear c2
     go_loopw [71] (fun i wr=>∃ (pre post:List NodeD),m.nodes = pre++post∧i = .int .i64 pre.length∧BSt lo ban g mp W1 rs (N0++pre.flatMap (·.outs)) (V0++outVals pre (baresD 0 pre)) (inputsM m) [] gs ((outedD K0 pre (baresD 0 pre)).map (fun b=>(⟨b,true,false⟩:PartD))++(baresD pre.length post).map fun b=>⟨b,true,true⟩) wr∧(FB = firstBad (N0++pre.flatMap (·.outs)) (outsAt pre.length post)∧(pre.flatMap (·.outs)).length ≤ pre.length * 64∧(outVals pre (baresD 0 pre)).length = (pre.flatMap (·.outs)).length)) (fun i _=>m.nodes.length - (intOf i).toNat)
     case atStart=>exact ⟨[],m.nodes,rfl,rfl,HB0.out.1,HB0.out.2,Nat.le_refl _,rfl⟩
     case round =>
      obtain ⟨pre,post,hpp,rfl,hB,hF⟩:=hrel
      have HB:=Lib.hid (And.intro hB hF)
      clear hB hF HB0
      cases post with
      | cons z post =>
       obtain ⟨hz,hlt,hpp',hpl⟩:=split_at hpp
       obtain ⟨o1,o,ics,rfl,hbB,hrz,hcell⟩:=elem_at HL.out.1 HL.out.2 (by decide) hz
       have hrz':=hrz
       obtain ⟨E1,e1,E2,e2,E3,e3,rfl,-,-,-,hro,-⟩:=open_NodeD hrz
       have hbl:=HB.out.1.gone.below HX.out.2.2.2.1
       have hat:At wr o1 (o + pre.length * 5) ([.string z.op,.string z.name,.slice E1 z.ins.length e1,.slice E2 z.outs.length e2,.slice E3 z.attrs.length e3]:List Value):=fun j u hu=>by
        have h1:=(hcell j u hu).1
        rw [← Nat.add_assoc] at h1
        exact (hbl.cell (p:=⟨o1,o + pre.length * 5 + j,none⟩) hbB).trans h1
       have hk0:(0:Int) ≤ (pre.length:Int):=Int.natCast_nonneg _
       have hk1:(pre.length:Int) < (m.nodes.length:Int):=by omega
       have hzo:=HS.out z (List.mem_of_getElem? hz)
       have HA:=Lib.hid (And.intro hat (And.intro (Rep.one hrz') hro))
       have HP:=Lib.hid (And.intro hpp' hpl)
       have hpn:pre.length < 1024:=by omega
       have hpo:pre.length + (1 + (baresD (pre.length + 1) post).length) = m.nodes.length:=by
        have h:=congrArg List.length hpp
        rw [List.length_append,List.length_cons] at h
        rw [bares_len];omega
       have HPO:=Lib.hid hpo
       clear hpp hpp' hpl hz hcell hrz hrz' hat hbB hro hbl hpo
       have hheat:HSt lo ban g mp W1 rs (N0++pre.flatMap (·.outs)) (V0++outVals pre (baresD 0 pre)) (inputsM m) [] gs 38 ((outedD K0 pre (baresD 0 pre)).map (fun b=>(⟨b,true,false⟩:PartD))) ⟨bareD pre.length z,true,true⟩ ((baresD (pre.length + 1) post).map fun b=>⟨b,true,true⟩) [] wr :=
        HB.out.1.heat rfl 38 (fun Z cs0 h=>h.2.2 rfl)
       obtain ⟨P0,hP0⟩:∃ P0:List PartD,(outedD K0 pre (baresD 0 pre)).map (fun b=>(⟨b,true,false⟩:PartD)) = P0:=⟨_,rfl⟩
       obtain ⟨P2,hP2⟩:∃ P2:List PartD,(baresD (pre.length + 1) post).map (fun b=>(⟨b,true,true⟩:PartD)) = P2:=⟨_,rfl⟩
       obtain ⟨G0,hG0⟩:∃ G0:GNodeD,bareD pre.length z = G0:=⟨_,rfl⟩
       have hlP:P0.length = pre.length:=by rw [← hP0,List.length_map,outed_len _ _ _ (bares_len _ _).symm]
       have hlP2:P2.length = (baresD (pre.length + 1) post).length:=by rw [← hP2,List.length_map]
       rw [hP0,hP2,hG0] at hheat
       have HPP:=Lib.hid (And.intro hP0 (And.intro hP2 (And.intro hG0 (And.intro hlP hlP2))))
       have HH0:=Lib.hid hheat
       clear hP0 hP2 hG0 hlP hlP2 hheat
       obtain ⟨wc,rfl⟩:∃ wc,wc = wr:=⟨_,rfl⟩
       go_wp2_with (first
        |(with_reducible refine wpList_load_agg rfl 36 _ rfl _ _ _ rfl ([.string z.op,.string z.name,.slice E1 z.ins.length e1,.slice E2 z.outs.length e2,.slice E3 z.attrs.length e3]:List Value) Tryd.underlying36 rfl (by kernel_rfl) HA.out.1 ?_)
        |(with_reducible refine wpList_alloc_row rfl 36 rfl zeroNd zeroNd_zero ?_)
        |(with_reducible refine wpList_store_agg rfl 36 _ _ rfl _ 0 ([.string z.op,.string z.name,.slice E1 z.ins.length e1,.slice E2 z.outs.length e2,.slice E3 z.attrs.length e3]:List Value) rfl rfl 36 zeroNd (heap_alloc_new _ _) (by kernel_rfl) (of_decide_eq_true (by kernel_rfl)) HA.out.2.1 ?_;have hY:=laid_row wc 36 zeroNd ([.string z.op,.string z.name,.slice E1 z.ins.length e1,.slice E2 z.outs.length e2,.slice E3 z.attrs.length e3]:List Value) rfl;generalize World.setRow _ _ _ = v2 at hY ⊢;have HV2:=Lib.hid hY;clear hY;refine halt ?_))
       unfold Halt
       have cE:v2.cell? ⟨wc.heap.size,3,none⟩ = some (.slice E2 z.outs.length e2):=cell_of_row' HV2.out.2.1 rfl
       obtain ⟨O',o',ys,hv,hnc4,hcm4,-,hl,hch⟩:=open_slice HA.out.2.2
       simp only [Value.slice.injEq,true_and] at hv
       obtain ⟨rfl,rfl⟩:=hv
       have HO:=Lib.hid (And.intro hl hch)
       clear hl hch
       have HH:=Lib.hid (HH0.out.next HV2.out.1)
       clear HH0 HV2
       go_wp2_with fail
       clear cE
       go_loopw [79] (fun i wr=>∃ (pre2 post2:List ByteArray),z.outs = pre2++post2∧i = .int .i64 pre2.length∧HSt lo ban g mp W1 rs (N0++pre.flatMap (·.outs)++pre2) (V0++outVals pre (baresD 0 pre)++pre2.map fun _=>outV G0) (inputsM m) [] gs 38 P0 ⟨G0,true,true⟩ P2 (seqI (K0 + (pre.flatMap (·.outs)).length) pre2.length) wr∧FB = firstBad (N0++pre.flatMap (·.outs)++pre2) (post2.map (fun s=>(s,(pre.length:Int)))++outsAt (pre.length + 1) post)) (fun i _=>z.outs.length - (intOf i).toNat)
       case atStart =>
        refine ⟨[],z.outs,rfl,rfl,?_,?_⟩
        ·rw [List.append_nil,List.map_nil,List.append_nil];exact HH.out
        ·rw [List.append_nil];exact HB.out.2.1
       case round =>
        obtain ⟨pre2,post2,hpp,rfl,hB2,hF2⟩:=hrel
        have HI:=Lib.hid (And.intro hB2 hF2)
        clear hB2 hF2
        cases post2 with
        | cons s post2 =>
         obtain ⟨hz,hlt2,hpp',hpl⟩:=split_at hpp
         obtain ⟨o3,p3,scs,rfl,hbB,⟨rfl,hnm⟩,hcell⟩:=elem_at HO.out.1 HO.out.2 (by decide) hz
         have hbl:=HI.out.1.gone.below HX.out.2.2.2.1
         have k4:wr.cell? ⟨o3,p3 + pre2.length,none⟩ = some (.string s):=(hbl.cell (p:=⟨o3,p3 + pre2.length,none⟩) hbB).trans (cell_of_elem (α:=ByteArray) rfl hcell rfl)
         have hk2:(0:Int) ≤ (pre2.length:Int):=Int.natCast_nonneg _
         have hk3:(pre2.length:Int) < (z.outs.length:Int):=by omega
         have HQ:=Lib.hid (And.intro hpp' (And.intro hpl (show s.size ≤ maxLen by unfold reach at hnm;unfold maxLen;omega)))
         have hq0:=HB.out.2.2.1
         have hq1:=HB.out.2.2.2
         obtain ⟨hlN,hlV⟩:=HNV.out.2.2.2
         obtain ⟨q,hq⟩:∃ q,K0 + (pre.flatMap (·.outs)).length + pre2.length = q:=⟨_,rfl⟩
         have hqs:q ≤ 1000000:=by omega
         have HNs:=Lib.hid (And.intro (show (V0++outVals pre (baresD 0 pre)++pre2.map fun _=>outV G0).length = (N0++pre.flatMap (·.outs)++pre2).length by simp only [List.length_append,List.length_map];omega) (And.intro (show (N0++pre.flatMap (·.outs)++pre2).length ≤ 1048576 by simp only [List.length_append];omega) (And.intro (show (V0++outVals pre (baresD 0 pre)++(pre2.map fun _=>outV G0)++[outV G0]).length = q + 1 by simp only [List.length_append,List.length_map,List.length_singleton];omega) hq)))
         clear hpp hpp' hpl hz hcell hbB hnm hbl hq0 hq1 hlN hlV hq
         obtain ⟨y,hy⟩:∃ y,badS (N0++pre.flatMap (·.outs)++pre2) s = y:=⟨_,rfl⟩
         have HY:=Lib.hid hy
         clear hy
         obtain ⟨b5,cn,ts,d5,hcn1,hcn2,dop,hats,hrts⟩:=HI.out.1.node (by decide)
         rw [HPP.out.2.2.2.1,HPP.out.2.2.2.2,HPO.out] at d5 hcn1
         rw [HPP.out.2.2.2.1] at dop hats
         replace hcn2:cn ≤ 9223372036854775807:=by unfold maxLen at hcn2;omega
         have HTS:=Lib.hid (And.intro hats hrts)
         clear hats hrts
         have HC5:=Lib.hid (And.intro d5 dop)
         clear d5 dop
         go_wp2_with (first
          |(with_reducible refine wpList_alloc_row rfl 75 rfl zeroV zeroV_zero ?_)
          |(with_reducible refine wpList_store_agg rfl 75 _ _ rfl _ 0 zeroV rfl rfl 75 zeroV (heap_alloc_new _ _) (by kernel_rfl) (of_decide_eq_true (by kernel_rfl)) (by decide) ?_;have hY:=laid_row wr 75 zeroV zeroV rfl;generalize World.setRow _ _ _ = v3 at hY ⊢;have HV3:=Lib.hid hY;clear hY;refine halt ?_))
         unfold Halt
         have hb3:=HV3.out.1
         have d5:v3.cell? ⟨g,5,none⟩ = some (.slice (some ⟨b5,0,none⟩) m.nodes.length cn):=cell_kept hb3 HC5.out.1
         have dop:v3.cell? ⟨b5,pre.length * 40,none⟩ = some (.int .i64 G0.op):=cell_kept hb3 HC5.out.2
         have hat3:At v3 b5 (pre.length * 40 + 1 + 31) ts:=fun j u hj=>cell_kept hb3 (HTS.out.1 j u hj)
         have hr3:rep v3 (old v3.heap.size) ts G0.s.value:=Rep.more (Rep.keep HTS.out.2 (Keeps.old_below hb3 (Nat.le_refl _))) (old_le hb3.size)
         have HT3:=Lib.hid (And.intro hat3 hr3)
         clear hb3 hat3 hr3 HTS HC5
         obtain ⟨x,hx⟩:∃ x,G0.op = x:=⟨_,rfl⟩
         rw [hx] at dop
         have HOP:=Lib.hid hx
         clear hx
         by_cases h61:x = 61
         ·subst h61
          go_wp2_with (with_reducible refine wpList_load_agg rfl 43 _ rfl _ b5 (pre.length * 40 + 1 + 31) rfl ts Tryd.underlying43 rfl (by rw [Rep.len HT3.out.2];kernel_rfl) HT3.out.1 ?_)
          refine (constant_any ts G0.s.value v3 HT3.out.2).mono ?_
          rintro e w4 ⟨vs,rfl,hv4,hb4⟩
          have hv8:=val_facts hv4
          have hsz:(Tryd.prog.info? 75).map (·.size) = some vs.length:=by rw [hv8.1];kernel_rfl
          have hft:0 + vs.length ≤ zeroV.length:=by rw [hv8.1];exact of_decide_eq_true (by kernel_rfl)
          have hrow4:w4.heap[wr.heap.size]? = some (.cells zeroV.toArray 75 (0,0)):=(hb4.block _ (by have:=HV3.out.2.2;omega)).trans HV3.out.2.1
          have hset:=set_whole (vs:=vs) hrow4 (by rw [hv8.1];rfl) hb4 HV3.out.1 (Nat.le_of_eq HV3.out.2.2.symm)
          have HV4:=Lib.hid (And.intro hrow4 (And.intro hsz (And.intro hft (And.intro hv8.2.2 (And.intro hset (And.intro (show outV G0 = constD G0.s.value by unfold outV;rw [HOP.out];rfl) (show rep w4 (fresh (wr.heap.size + 1) w4.heap.size) vs (constD G0.s.value) from Rep.more hv4 (fresh_le (by have:=HV3.out.2.2;omega) (Nat.le_refl _)))))))))
          clear hv8 hsz hft hrow4 hset hv4 hb4 d5 dop
          go_wp2_with (with_reducible refine wpList_store_agg rfl 75 _ _ rfl wr.heap.size 0 vs rfl rfl 75 zeroV HV4.out.1 HV4.out.2.1 HV4.out.2.2.1 HV4.out.2.2.2.1 ?_;have hY:=HV4.out.2.2.2.2;generalize World.setRow _ _ _ = v5 at hY ⊢;have HV5:=Lib.hid hY;clear hY;refine halt ?_)
          unfold Halt
          have hb5:Below wr.heap.size wr v5:=HV5.out.1.2.1
          have hv5:rep v5 (fresh wr.heap.size v5.heap.size) vs (outV G0):=by rw [HV5.out.2.1];exact HV5.out.1.2.2 _ _ HV5.out.2.2
          have hat5:At v5 wr.heap.size 0 vs:=At.of_row HV5.out.1.1
          have HLEN:=Lib.hid HV4.out.2.1
          have HV6:=Lib.hid (And.intro hb5 (And.intro hv5 hat5))
          clear hb5 hv5 hat5 HV5 HV4 HT3 HV3
          go_wp2_with (with_reducible refine wpList_load_agg rfl 75 _ rfl _ wr.heap.size 0 rfl vs Tryd.underlying75 rfl HLEN.out HV6.out.2.2 ?_)
          refine (HI.out.1.define HV6.out.1 HV6.out.2.1 HQ.out.2.2 HNs.out.1 HNs.out.2.1).mono ?_
          rw [HY.out]
          rintro e w6 ⟨rfl,hkp,hbad,hok⟩
          have H5:=Lib.hid (And.intro hbad hok)
          clear hbad hok hkp HV6 HLEN
          cases y with
          | true =>
           go_wp2
           go_ret2
           exact (show ValsPost lo ban g mp W0 rs0 gs m _ _ from vals_bad (HFB.out.trans (bad_here HI.out.2 HY.out)) ((H5.out.1 (by simp)).base HX.out.2.2.2.2.1))
          | false =>
           have hst:=H5.out.2 (by simp)
           have HF:=Lib.hid (bad_next HI.out.2 HY.out)
           clear H5
           go_wp2_with fail
           have hx64:I64 (((q + 1:Nat):Int) - 1):=by unfold I64;omega
           obtain ⟨A0,c0,b6,cn6,vI,xs,hgl,hlo,d0,d6,hc1,hc2,hbl6,d2,hown,hkey⟩:=hst.push hx64 (by decide)
           have hlP:P0.length = pre.length:=HPP.out.2.2.2.1
           rw [HNs.out.2.2.1] at d0 hc1 hkey
           have hlies:=lies_new w6.drew ([.int .i64 (((q + 1:Nat):Int) - 1)]:List Value) 3
           clear hst hc1 hc2
           refine wp_region_held_drew (S:=fun W=>W.cell? ⟨g,0,none⟩ = some (.slice A0 (q + 1) c0)∧W.cell? ⟨g,5,none⟩ = some (.slice (some ⟨b6,0,none⟩) (P0.length + (1 + P2.length)) cn6)) (by kernel_rfl) ⟨d0,d6⟩ (fun hHeld=>?_)
           refine take_d9 0 (some 109) (v:=.pointer (some ⟨g,0,none⟩)) rfl (by kernel_rfl) (by kernel_rfl) (by kernel_rfl) (by kernel_rfl) (fun c a w h=>h) (Or.inl ⟨by kernel_rfl,fun w _=>by kernel_rfl⟩) hHeld ?_
           refine take_d9 1 (some 110) (v:=.pointer (some ⟨g,0,none⟩)) rfl (by kernel_rfl) (by kernel_rfl) (by kernel_rfl) (by kernel_rfl) (fun c a w h=>h) (Or.inl ⟨by kernel_rfl,fun w _=>by kernel_rfl⟩) hHeld ?_
           refine take_d9 2 (some 111) (v:=.pointer (some ⟨g,5,none⟩)) rfl (by kernel_rfl) (by kernel_rfl) (by kernel_rfl) (by kernel_rfl) (fun c a w h=>h) (Or.inl ⟨by kernel_rfl,fun w _=>by kernel_rfl⟩) hHeld ?_
           refine take_d9 3 (some 112) (v:=.slice (some ⟨b6,0,none⟩) (P0.length + (1 + P2.length)) cn6) rfl (by kernel_rfl) (by kernel_rfl) (by kernel_rfl) (by kernel_rfl) (fun c a w h=>h) (yields_load_one9 (by kernel_rfl) _ _ rfl g (5) (by kernel_rfl) _ _ Tryd.underlying61 rfl (fun _ h=>h.2)) hHeld ?_
           refine take_d9 4 (some 113) (v:=.int .i64 (pre.length:Int)) rfl (by kernel_rfl) (by kernel_rfl) (by kernel_rfl) (by kernel_rfl) (fun c a w h=>h) (Or.inl ⟨by kernel_rfl,fun w _=>by kernel_rfl⟩) hHeld ?_
           refine take_d9 5 (some 114) (v:=.pointer (some ⟨g,0,none⟩)) rfl (by kernel_rfl) (by kernel_rfl) (by kernel_rfl) (by kernel_rfl) (fun c a w h=>h) (Or.inl ⟨by kernel_rfl,fun w _=>by kernel_rfl⟩) hHeld ?_
           refine take_d9 6 (some 115) (v:=.pointer (some ⟨g,0,none⟩)) rfl (by kernel_rfl) (by kernel_rfl) (by kernel_rfl) (by kernel_rfl) (fun c a w h=>h) (Or.inl ⟨by kernel_rfl,fun w _=>by kernel_rfl⟩) hHeld ?_
           refine take_d9 7 (some 116) (v:=.pointer (some ⟨g,5,none⟩)) rfl (by kernel_rfl) (by kernel_rfl) (by kernel_rfl) (by kernel_rfl) (fun c a w h=>h) (Or.inl ⟨by kernel_rfl,fun w _=>by kernel_rfl⟩) hHeld ?_
           refine take_d9 8 (some 117) (v:=.slice (some ⟨b6,0,none⟩) (P0.length + (1 + P2.length)) cn6) rfl (by kernel_rfl) (by kernel_rfl) (by kernel_rfl) (by kernel_rfl) (fun c a w h=>h) (yields_load_one9 (by kernel_rfl) _ _ rfl g (5) (by kernel_rfl) _ _ Tryd.underlying61 rfl (fun _ h=>h.2)) hHeld ?_
           refine take_d9 9 (some 118) (v:=.int .i64 (pre.length:Int)) rfl (by kernel_rfl) (by kernel_rfl) (by kernel_rfl) (by kernel_rfl) (fun c a w h=>h) (Or.inl ⟨by kernel_rfl,fun w _=>by kernel_rfl⟩) hHeld ?_
           refine take_d9 10 (some 119) (v:=.pointer (some ⟨b6,P0.length * 40,none⟩)) rfl (by kernel_rfl) (by kernel_rfl) (by kernel_rfl) (by kernel_rfl) (fun c a w h=>h) (yields_indexQ (by kernel_rfl) _ _ _ rfl b6 0 (P0.length + (1 + P2.length)) cn6 pre.length 40 (P0.length * 40) (pre.length:Int) (by kernel_rfl) (by kernel_rfl) Tryd.underlying61 (by kernel_rfl) rfl (by omega) (by omega)) hHeld ?_
           refine take_d9 11 (some 120) (v:=.pointer (some ⟨b6,P0.length * 40 + 38,none⟩)) rfl (by kernel_rfl) (by kernel_rfl) (by kernel_rfl) (by kernel_rfl) (fun c a w h=>h) (Or.inl ⟨by kernel_rfl,fun w _=>by kernel_rfl⟩) hHeld ?_
           refine take_d9 13 (some 122) (v:=.pointer (some ⟨g,0,none⟩)) rfl (by kernel_rfl) (by kernel_rfl) (by kernel_rfl) (by kernel_rfl) (fun c a w h=>h) (Or.inl ⟨by kernel_rfl,fun w _=>by kernel_rfl⟩) hHeld ?_
           refine take_d9 14 (some 123) (v:=.pointer (some ⟨g,0,none⟩)) rfl (by kernel_rfl) (by kernel_rfl) (by kernel_rfl) (by kernel_rfl) (fun c a w h=>h) (Or.inl ⟨by kernel_rfl,fun w _=>by kernel_rfl⟩) hHeld ?_
           refine take_d9 15 (some 124) (v:=.pointer (some ⟨g,0,none⟩)) rfl (by kernel_rfl) (by kernel_rfl) (by kernel_rfl) (by kernel_rfl) (fun c a w h=>h) (Or.inl ⟨by kernel_rfl,fun w _=>by kernel_rfl⟩) hHeld ?_
           refine take_d9 16 (some 125) (v:=.pointer (some ⟨g,0,none⟩)) rfl (by kernel_rfl) (by kernel_rfl) (by kernel_rfl) (by kernel_rfl) (fun c a w h=>h) (Or.inl ⟨by kernel_rfl,fun w _=>by kernel_rfl⟩) hHeld ?_
           refine take_d9 17 (some 126) (v:=.slice A0 (q + 1) c0) rfl (by kernel_rfl) (by kernel_rfl) (by kernel_rfl) (by kernel_rfl) (fun c a w h=>h) (yields_load_one9 (by kernel_rfl) _ _ rfl g (0) (by kernel_rfl) _ _ Tryd.underlying60 rfl (fun _ h=>h.1)) hHeld ?_
           refine take_d9 18 (some 127) (v:=.int .i64 ((q + 1:Nat):Int)) rfl (by kernel_rfl) (by kernel_rfl) (by kernel_rfl) (by kernel_rfl) (fun c a w h=>h) (yields_len9 (by kernel_rfl) _ _ rfl A0 (q + 1) c0 (by kernel_rfl) Tryd.underlying60) hHeld ?_
           refine take_d9 19 (some 128) (v:=.int .i64 (((q + 1:Nat):Int) - 1)) rfl (by kernel_rfl) (by kernel_rfl) (by kernel_rfl) (by kernel_rfl) (fun c a w h=>h) (yields_subI (by kernel_rfl) _ _ _ _ rfl _ 1 (by kernel_rfl) (by kernel_rfl) Tryd.underlying3 (by decide) (by omega) (by omega)) hHeld ?_
           obtain ⟨hi0,hz0,hz1,hz2⟩:=HZ.out
           have hS1:(w6.drew.alloc (.cells #[.int .i64 (((q + 1:Nat):Int) - 1)] 3)).cell? ⟨g,0,none⟩ = some (.slice A0 (q + 1) c0)∧(w6.drew.alloc (.cells #[.int .i64 (((q + 1:Nat):Int) - 1)] 3)).cell? ⟨g,5,none⟩ = some (.slice (some ⟨b6,0,none⟩) (P0.length + (1 + P2.length)) cn6):=⟨(World.cell?_alloc_lt _ _ _ hgl).trans d0,(World.cell?_alloc_lt _ _ _ hgl).trans d6⟩
           refine anyH_load_lay 12 20 121 129 rfl rfl rfl rfl (by decide) (by decide) (by kernel_rfl) (by kernel_rfl) (by kernel_rfl) rfl rfl _ _ rfl b6 (P0.length * 40 + 38) vI _ Tryd.underlying37 rfl (.slice (some ⟨w6.drew.heap.size,0,none⟩) 1 1) (.cells #[.int .i64 (((q + 1:Nat):Int) - 1)] 3) (by kernel_rfl) (by kernel_rfl) d2 hbl6 (by kernel_rfl) (by kernel_rfl) hHeld hS1 ?_
           refine anyH_1 21 rfl (by kernel_rfl) ?_
           refine steps_append9 (by kernel_rfl) _ _ _ rfl lo 3 i0 _ 1 8 Tryd.underlying37 hi0 hz0 hz1 hz2 (by kernel_rfl) (by decide) vI (seqI (K0 + (pre.flatMap (·.outs)).length) pre2.length).length xs (by kernel_rfl) hown
            (old (w6.drew.heap.size + 1)) (some ⟨w6.drew.heap.size,0,none⟩) 1 1 ([.int .i64 (((q + 1:Nat):Int) - 1)]:List Value) (by kernel_rfl) rfl hlies (by intro u hu;simp only [List.mem_singleton] at hu;subst hu;rfl) (by rw [seqI_len];unfold maxLen;omega) (by rw [seqI_len];omega) (Nat.le_trans hlo (by rw [World.size_alloc];exact Nat.le_succ _)) ?_
           intro v9 W9 ho9 hg9 hb9
           obtain ⟨q1,q2,q3,q4,q5,q6⟩:=hkey W9 v9 ho9 hg9 hb9
           refine ⟨q4,?_⟩
           refine take_d9 22 (some 131) (v:=.pointer (some ⟨b6,P0.length * 40,none⟩)) rfl (by kernel_rfl) (by kernel_rfl) (by kernel_rfl) (by kernel_rfl) (fun c a w h=>h) (yields_indexQ (by kernel_rfl) _ _ _ rfl b6 0 (P0.length + (1 + P2.length)) cn6 pre.length 40 (P0.length * 40) (pre.length:Int) (by kernel_rfl) (by kernel_rfl) Tryd.underlying61 (by kernel_rfl) rfl (by omega) (by omega)) q4 ?_
           refine take_d9 23 (some 132) (v:=.pointer (some ⟨b6,P0.length * 40 + 38,none⟩)) rfl (by kernel_rfl) (by kernel_rfl) (by kernel_rfl) (by kernel_rfl) (fun c a w h=>h) (Or.inl ⟨by kernel_rfl,fun w _=>by kernel_rfl⟩) q4 ?_
           refine anyH_store_cell9 24 rfl (by kernel_rfl) (by kernel_rfl) _ _ _ rfl b6 (P0.length * 40 + 38) v9 vI (by kernel_rfl) (by kernel_rfl) q3 (by kernel_rfl) q1 q2 q5 ?_
           refine wpAnyH_done (by kernel_rfl) ?_ _
           generalize World.setCell _ _ _ = wz at q6 ⊢
           have HW:=Lib.hid q6
           clear q6 q5 q4 q3 q2 q1 hb9 hg9 ho9 hlies hS1 hi0 hz0 hz1 hz2 hHeld hkey hown d2 d0 d6 hgl hlo hx64 hlP hbl6
           go_wp2
           go_roundw
           case rel =>
            refine ⟨pre2++[s],post2,HQ.out.1,by rw [HQ.out.2.1];go_num,?_,?_⟩
            ·rw [HQ.out.2.1,seqI_snoc,List.map_append,← List.append_assoc,← List.append_assoc]
             have h:=HW.out
             rwa [show (((q + 1:Nat):Int) - 1) = ((K0 + (pre.flatMap (·.outs)).length + pre2.length:Nat):Int) by have:=HNs.out.2.2.2;omega] at h
            ·rw [← List.append_assoc];exact HF.out
           case measure=>simp [intOf];omega
         ·have hop:outV G0 = noVal:=by unfold outV;rw [HOP.out,if_neg h61]
          have HV6:=Lib.hid (And.intro HV3.out.1 (And.intro (show rep v3 (fresh wr.heap.size v3.heap.size) zeroV (outV G0) by rw [hop];exact zeroV_rep _ _) (show At v3 wr.heap.size 0 zeroV from At.of_row HV3.out.2.1)))
          obtain ⟨vs,hvs⟩:∃ vs,zeroV = vs:=⟨_,rfl⟩
          have HLEN:=Lib.hid (show (Tryd.prog.info? 75).map (·.size) = some zeroV.length by kernel_rfl)
          rw [hvs] at HV6 HLEN
          obtain ⟨v5,rfl⟩:∃ v5,v5 = v3:=⟨_,rfl⟩
          clear hvs hop HT3 HV3
          go_wp2_with (with_reducible refine wpList_load_agg rfl 75 _ rfl _ wr.heap.size 0 rfl vs Tryd.underlying75 rfl HLEN.out HV6.out.2.2 ?_)
          refine (HI.out.1.define HV6.out.1 HV6.out.2.1 HQ.out.2.2 HNs.out.1 HNs.out.2.1).mono ?_
          rw [HY.out]
          rintro e w6 ⟨rfl,hkp,hbad,hok⟩
          have H5:=Lib.hid (And.intro hbad hok)
          clear hbad hok hkp HV6 HLEN
          cases y with
          | true =>
           go_wp2
           go_ret2
           exact (show ValsPost lo ban g mp W0 rs0 gs m _ _ from vals_bad (HFB.out.trans (bad_here HI.out.2 HY.out)) ((H5.out.1 (by simp)).base HX.out.2.2.2.2.1))
          | false =>
           have hst:=H5.out.2 (by simp)
           have HF:=Lib.hid (bad_next HI.out.2 HY.out)
           clear H5
           go_wp2_with fail
           have hx64:I64 (((q + 1:Nat):Int) - 1):=by unfold I64;omega
           obtain ⟨A0,c0,b6,cn6,vI,xs,hgl,hlo,d0,d6,hc1,hc2,hbl6,d2,hown,hkey⟩:=hst.push hx64 (by decide)
           have hlP:P0.length = pre.length:=HPP.out.2.2.2.1
           rw [HNs.out.2.2.1] at d0 hc1 hkey
           have hlies:=lies_new w6.drew ([.int .i64 (((q + 1:Nat):Int) - 1)]:List Value) 3
           clear hst hc1 hc2
           refine wp_region_held_drew (S:=fun W=>W.cell? ⟨g,0,none⟩ = some (.slice A0 (q + 1) c0)∧W.cell? ⟨g,5,none⟩ = some (.slice (some ⟨b6,0,none⟩) (P0.length + (1 + P2.length)) cn6)) (by kernel_rfl) ⟨d0,d6⟩ (fun hHeld=>?_)
           refine take_d9 0 (some 109) (v:=.pointer (some ⟨g,0,none⟩)) rfl (by kernel_rfl) (by kernel_rfl) (by kernel_rfl) (by kernel_rfl) (fun c a w h=>h) (Or.inl ⟨by kernel_rfl,fun w _=>by kernel_rfl⟩) hHeld ?_
           refine take_d9 1 (some 110) (v:=.pointer (some ⟨g,0,none⟩)) rfl (by kernel_rfl) (by kernel_rfl) (by kernel_rfl) (by kernel_rfl) (fun c a w h=>h) (Or.inl ⟨by kernel_rfl,fun w _=>by kernel_rfl⟩) hHeld ?_
           refine take_d9 2 (some 111) (v:=.pointer (some ⟨g,5,none⟩)) rfl (by kernel_rfl) (by kernel_rfl) (by kernel_rfl) (by kernel_rfl) (fun c a w h=>h) (Or.inl ⟨by kernel_rfl,fun w _=>by kernel_rfl⟩) hHeld ?_
           refine take_d9 3 (some 112) (v:=.slice (some ⟨b6,0,none⟩) (P0.length + (1 + P2.length)) cn6) rfl (by kernel_rfl) (by kernel_rfl) (by kernel_rfl) (by kernel_rfl) (fun c a w h=>h) (yields_load_one9 (by kernel_rfl) _ _ rfl g (5) (by kernel_rfl) _ _ Tryd.underlying61 rfl (fun _ h=>h.2)) hHeld ?_
           refine take_d9 4 (some 113) (v:=.int .i64 (pre.length:Int)) rfl (by kernel_rfl) (by kernel_rfl) (by kernel_rfl) (by kernel_rfl) (fun c a w h=>h) (Or.inl ⟨by kernel_rfl,fun w _=>by kernel_rfl⟩) hHeld ?_
           refine take_d9 5 (some 114) (v:=.pointer (some ⟨g,0,none⟩)) rfl (by kernel_rfl) (by kernel_rfl) (by kernel_rfl) (by kernel_rfl) (fun c a w h=>h) (Or.inl ⟨by kernel_rfl,fun w _=>by kernel_rfl⟩) hHeld ?_
           refine take_d9 6 (some 115) (v:=.pointer (some ⟨g,0,none⟩)) rfl (by kernel_rfl) (by kernel_rfl) (by kernel_rfl) (by kernel_rfl) (fun c a w h=>h) (Or.inl ⟨by kernel_rfl,fun w _=>by kernel_rfl⟩) hHeld ?_
           refine take_d9 7 (some 116) (v:=.pointer (some ⟨g,5,none⟩)) rfl (by kernel_rfl) (by kernel_rfl) (by kernel_rfl) (by kernel_rfl) (fun c a w h=>h) (Or.inl ⟨by kernel_rfl,fun w _=>by kernel_rfl⟩) hHeld ?_
           refine take_d9 8 (some 117) (v:=.slice (some ⟨b6,0,none⟩) (P0.length + (1 + P2.length)) cn6) rfl (by kernel_rfl) (by kernel_rfl) (by kernel_rfl) (by kernel_rfl) (fun c a w h=>h) (yields_load_one9 (by kernel_rfl) _ _ rfl g (5) (by kernel_rfl) _ _ Tryd.underlying61 rfl (fun _ h=>h.2)) hHeld ?_
           refine take_d9 9 (some 118) (v:=.int .i64 (pre.length:Int)) rfl (by kernel_rfl) (by kernel_rfl) (by kernel_rfl) (by kernel_rfl) (fun c a w h=>h) (Or.inl ⟨by kernel_rfl,fun w _=>by kernel_rfl⟩) hHeld ?_
           refine take_d9 10 (some 119) (v:=.pointer (some ⟨b6,P0.length * 40,none⟩)) rfl (by kernel_rfl) (by kernel_rfl) (by kernel_rfl) (by kernel_rfl) (fun c a w h=>h) (yields_indexQ (by kernel_rfl) _ _ _ rfl b6 0 (P0.length + (1 + P2.length)) cn6 pre.length 40 (P0.length * 40) (pre.length:Int) (by kernel_rfl) (by kernel_rfl) Tryd.underlying61 (by kernel_rfl) rfl (by omega) (by omega)) hHeld ?_
           refine take_d9 11 (some 120) (v:=.pointer (some ⟨b6,P0.length * 40 + 38,none⟩)) rfl (by kernel_rfl) (by kernel_rfl) (by kernel_rfl) (by kernel_rfl) (fun c a w h=>h) (Or.inl ⟨by kernel_rfl,fun w _=>by kernel_rfl⟩) hHeld ?_
           refine take_d9 13 (some 122) (v:=.pointer (some ⟨g,0,none⟩)) rfl (by kernel_rfl) (by kernel_rfl) (by kernel_rfl) (by kernel_rfl) (fun c a w h=>h) (Or.inl ⟨by kernel_rfl,fun w _=>by kernel_rfl⟩) hHeld ?_
           refine take_d9 14 (some 123) (v:=.pointer (some ⟨g,0,none⟩)) rfl (by kernel_rfl) (by kernel_rfl) (by kernel_rfl) (by kernel_rfl) (fun c a w h=>h) (Or.inl ⟨by kernel_rfl,fun w _=>by kernel_rfl⟩) hHeld ?_
           refine take_d9 15 (some 124) (v:=.pointer (some ⟨g,0,none⟩)) rfl (by kernel_rfl) (by kernel_rfl) (by kernel_rfl) (by kernel_rfl) (fun c a w h=>h) (Or.inl ⟨by kernel_rfl,fun w _=>by kernel_rfl⟩) hHeld ?_
           refine take_d9 16 (some 125) (v:=.pointer (some ⟨g,0,none⟩)) rfl (by kernel_rfl) (by kernel_rfl) (by kernel_rfl) (by kernel_rfl) (fun c a w h=>h) (Or.inl ⟨by kernel_rfl,fun w _=>by kernel_rfl⟩) hHeld ?_
           refine take_d9 17 (some 126) (v:=.slice A0 (q + 1) c0) rfl (by kernel_rfl) (by kernel_rfl) (by kernel_rfl) (by kernel_rfl) (fun c a w h=>h) (yields_load_one9 (by kernel_rfl) _ _ rfl g (0) (by kernel_rfl) _ _ Tryd.underlying60 rfl (fun _ h=>h.1)) hHeld ?_
           refine take_d9 18 (some 127) (v:=.int .i64 ((q + 1:Nat):Int)) rfl (by kernel_rfl) (by kernel_rfl) (by kernel_rfl) (by kernel_rfl) (fun c a w h=>h) (yields_len9 (by kernel_rfl) _ _ rfl A0 (q + 1) c0 (by kernel_rfl) Tryd.underlying60) hHeld ?_
           refine take_d9 19 (some 128) (v:=.int .i64 (((q + 1:Nat):Int) - 1)) rfl (by kernel_rfl) (by kernel_rfl) (by kernel_rfl) (by kernel_rfl) (fun c a w h=>h) (yields_subI (by kernel_rfl) _ _ _ _ rfl _ 1 (by kernel_rfl) (by kernel_rfl) Tryd.underlying3 (by decide) (by omega) (by omega)) hHeld ?_
           obtain ⟨hi0,hz0,hz1,hz2⟩:=HZ.out
           have hS1:(w6.drew.alloc (.cells #[.int .i64 (((q + 1:Nat):Int) - 1)] 3)).cell? ⟨g,0,none⟩ = some (.slice A0 (q + 1) c0)∧(w6.drew.alloc (.cells #[.int .i64 (((q + 1:Nat):Int) - 1)] 3)).cell? ⟨g,5,none⟩ = some (.slice (some ⟨b6,0,none⟩) (P0.length + (1 + P2.length)) cn6):=⟨(World.cell?_alloc_lt _ _ _ hgl).trans d0,(World.cell?_alloc_lt _ _ _ hgl).trans d6⟩
           refine anyH_load_lay 12 20 121 129 rfl rfl rfl rfl (by decide) (by decide) (by kernel_rfl) (by kernel_rfl) (by kernel_rfl) rfl rfl _ _ rfl b6 (P0.length * 40 + 38) vI _ Tryd.underlying37 rfl (.slice (some ⟨w6.drew.heap.size,0,none⟩) 1 1) (.cells #[.int .i64 (((q + 1:Nat):Int) - 1)] 3) (by kernel_rfl) (by kernel_rfl) d2 hbl6 (by kernel_rfl) (by kernel_rfl) hHeld hS1 ?_
           refine anyH_1 21 rfl (by kernel_rfl) ?_
           refine steps_append9 (by kernel_rfl) _ _ _ rfl lo 3 i0 _ 1 8 Tryd.underlying37 hi0 hz0 hz1 hz2 (by kernel_rfl) (by decide) vI (seqI (K0 + (pre.flatMap (·.outs)).length) pre2.length).length xs (by kernel_rfl) hown
            (old (w6.drew.heap.size + 1)) (some ⟨w6.drew.heap.size,0,none⟩) 1 1 ([.int .i64 (((q + 1:Nat):Int) - 1)]:List Value) (by kernel_rfl) rfl hlies (by intro u hu;simp only [List.mem_singleton] at hu;subst hu;rfl) (by rw [seqI_len];unfold maxLen;omega) (by rw [seqI_len];omega) (Nat.le_trans hlo (by rw [World.size_alloc];exact Nat.le_succ _)) ?_
           intro v9 W9 ho9 hg9 hb9
           obtain ⟨q1,q2,q3,q4,q5,q6⟩:=hkey W9 v9 ho9 hg9 hb9
           refine ⟨q4,?_⟩
           refine take_d9 22 (some 131) (v:=.pointer (some ⟨b6,P0.length * 40,none⟩)) rfl (by kernel_rfl) (by kernel_rfl) (by kernel_rfl) (by kernel_rfl) (fun c a w h=>h) (yields_indexQ (by kernel_rfl) _ _ _ rfl b6 0 (P0.length + (1 + P2.length)) cn6 pre.length 40 (P0.length * 40) (pre.length:Int) (by kernel_rfl) (by kernel_rfl) Tryd.underlying61 (by kernel_rfl) rfl (by omega) (by omega)) q4 ?_
           refine take_d9 23 (some 132) (v:=.pointer (some ⟨b6,P0.length * 40 + 38,none⟩)) rfl (by kernel_rfl) (by kernel_rfl) (by kernel_rfl) (by kernel_rfl) (fun c a w h=>h) (Or.inl ⟨by kernel_rfl,fun w _=>by kernel_rfl⟩) q4 ?_
           refine anyH_store_cell9 24 rfl (by kernel_rfl) (by kernel_rfl) _ _ _ rfl b6 (P0.length * 40 + 38) v9 vI (by kernel_rfl) (by kernel_rfl) q3 (by kernel_rfl) q1 q2 q5 ?_
           refine wpAnyH_done (by kernel_rfl) ?_ _
           generalize World.setCell _ _ _ = wz at q6 ⊢
           have HW:=Lib.hid q6
           clear q6 q5 q4 q3 q2 q1 hb9 hg9 ho9 hlies hS1 hi0 hz0 hz1 hz2 hHeld hkey hown d2 d0 d6 hgl hlo hx64 hlP hbl6
           go_wp2
           go_roundw
           case rel =>
            refine ⟨pre2++[s],post2,HQ.out.1,by rw [HQ.out.2.1];go_num,?_,?_⟩
            ·rw [HQ.out.2.1,seqI_snoc,List.map_append,← List.append_assoc,← List.append_assoc]
             have h:=HW.out
             rwa [show (((q + 1:Nat):Int) - 1) = ((K0 + (pre.flatMap (·.outs)).length + pre2.length:Nat):Int) by have:=HNs.out.2.2.2;omega] at h
            ·rw [← List.append_assoc];exact HF.out
           case measure=>simp [intOf];omega
        | nil =>
         obtain ⟨hge4,hpl⟩:=split_end hpp
         have hl:(seqI (K0 + (pre.flatMap (·.outs)).length) pre2.length).length ≤ 1048576:=by rw [seqI_len,hpl];omega
         have hcool:=HI.out.1.cool_outs hl
         have hF3:=HI.out.2
         rw [hpl] at hcool hF3
         have HC:=Lib.hid (And.intro hcool (And.intro hF3 hzo))
         clear hpp hpl hl hcool hF3
         go_wp2
         go_roundw
         case rel =>
          refine ⟨pre++[z],post,HP.out.1,by rw [HP.out.2];go_num,?_,?_,?_,?_⟩
          ·have h:=HC.out.1
           rw [← HPP.out.1,← HPP.out.2.1,← HPP.out.2.2.1] at h
           rw [List.flatMap_append,bares_snoc,outVals_snoc z _ _ _ (bares_len _ _).symm,outed_snoc z _ _ _ _ (bares_len _ _).symm,List.map_append,HP.out.2,Nat.zero_add,List.append_assoc ((outedD K0 pre (baresD 0 pre)).map _),← List.append_assoc N0,← List.append_assoc V0]
           simpa using h
          ·have h:=HC.out.2.1
           rw [HP.out.2,List.flatMap_append,← List.append_assoc]
           simpa using h
          ·rw [List.flatMap_append,List.length_append,HP.out.2]
           have h1:=HB.out.2.2.1
           have h2:=HC.out.2.2
           simp only [List.flatMap_cons,List.flatMap_nil,List.append_nil]
           omega
          ·rw [bares_snoc,outVals_snoc z _ _ _ (bares_len _ _).symm,List.flatMap_append,List.length_append,List.length_append,HB.out.2.2.2]
           simp
         case measure=>simp [intOf];omega
      | nil =>
       obtain ⟨hge3,hpl⟩:=split_end hpp
       have hN3:=HB.out.2.1
       have hS3:=HB.out.1
       rw [hpl] at hN3 hS3
       have HE:=Lib.hid (And.intro hN3 hS3)
       clear hpp hpl hN3 hS3
       go_wp2
       go_ret2
       have hF:firstBad [] (namesAt m) = none:=HFB.out.trans HE.out.1
       refine (show ValsPost lo ban g mp W0 rs0 gs m _ _ from ⟨fun i hi=>(by rw [hF] at hi;cases hi),fun _=>⟨rfl,?_⟩⟩)
       have h:=HE.out.2.base HX.out.2.2.2.2.1
       rw [← HNV.out.1,← HNV.out.2.1,← HNV.out.2.2.1] at h
       have e0:(baresD m.nodes.length ([]:List NodeD)) = []:=rfl
       rw [e0,List.map_nil,List.append_nil] at h
       exact h
end Go.Proofs.YtgbkhcmbmffljaaDoor
