/-
  Chapter 10, a graph's types and shapes: the walk. No condition.
-/
import Derived.Test.YtoeaglpmkjoenaaGreatQOfM
set_option linter.unusedSimpArgs false
set_option linter.unusedVariables false
namespace Go.Proofs.YtoeaglpmkjoenaaGreat
open Go.RowKit
open Rep (rep)
theorem results_ctt {P:Program} {fn:Func} {p q r:Tmp} {ty:TypeId} (h:fn.results = #[.cell p ty,.tmp q,.tmp r]) (tmps:Array Value) (w:World) (g:Nat) (t:TypeId) (cs:Array Value) (fr:Nat × Nat) (d:TypeDesc) (v1 v2:Value)
  (hq:tmps.getD q undef = v1) (hr:tmps.getD r undef = v2) (hp:tmps.getD p undef = .pointer (some ⟨g,0,none⟩)) (hg:w.heap[g]? = some (.cells cs t fr))
  (hu:P.underlying ty = some d) (hd:(match d with | .struct _ | .array _ _=>true | _=>false) = true) (hi:(P.info? ty).map (·.size) = some cs.size) :
  (results fn tmps).run P w = .ok (.tuple #[.agg cs,v1,v2]) w:=by
 have hp':tmps[p]?.getD undef = .pointer (some ⟨g,0,none⟩):=by simpa using hp
 have hq':tmps[q]?.getD undef = v1:=by simpa using hq
 have hr':tmps[r]?.getD undef = v2:=by simpa using hr
 simp [results,h,hp',hq',hr',asAddr,run_loadVar_row w g t ty cs fr d hg hu hd hi]
def z4:List Value:=[.slice none 0 0,.slice none 0 0,.slice none 0 0,.slice none 0 0]
theorem z4_zero:(Tryz.prog.info? 26).bind (·.zero) = some (.agg z4.toArray):=by kernel_rfl
theorem z4_one:∀ u ∈ z4,u.oneCell' = true:=by simp [z4,Value.oneCell']
theorem z4_len:z4.length = 4:=rfl
theorem rep_z4 (w:World) (Z:Zone):rep w Z z4 (⟨[],[],[],[]⟩:GraphD):=shut_GraphD (a:=⟨[],[],[],[]⟩) (c0:=[_]) (rep_nil _ _) (c1:=[_]) (rep_nil _ _) (c2:=[_]) (rep_nil _ _) (c3:=[_]) (rep_nil _ _)
theorem of_start {w W2 W3:World} {gcs cs:List Value} {g:GraphD} (hX:Pair w 26 26 gcs z4 W2) (hb:Below W2.heap.size W2 W3) (hc:CpX W2 cs g W3) (hl:gcs.length = 4) :
  ∃ vV vN vI vO xs,cs = [vV,vN,vI,vO]∧OfI w vV vN vI vO g g.vals xs (W3.setRow w.heap.size (gcs.take 0++cs++gcs.drop (0 + cs.length)).toArray):=by
 obtain ⟨vV,vN,vI,vO,xs,rfl,ho,hv,hn,hi,hu⟩:=hc
 have e:gcs.take 0++([vV,vN,vI,vO]:List Value)++gcs.drop (0 + ([vV,vN,vI,vO]:List Value).length) = [vV,vN,vI,vO]:=by
  rw [List.take_zero,List.nil_append,List.drop_of_length_le (by simp [hl]),List.append_nil]
 rw [e]
 have h3:=hX.next hb
 have hlt:w.heap.size + 2 ≤ W2.heap.size:=hX.lt
 have kp:Keeps (Zr W2.heap.size W3.heap.size vV) W3 (W3.setRow w.heap.size ([vV,vN,vI,vO]:List Value).toArray):=Keeps.of_block fun q (hq:W2.heap.size ≤ q∧q < W3.heap.size∧vV.ownBlock ≠ some q)=>heap_setRow_other _ _ _ _ (by omega)
 have hle:(Zr W2.heap.size W3.heap.size vV).le (Zr (w.heap.size + 2) (W3.setRow w.heap.size ([vV,vN,vI,vO]:List Value).toArray).heap.size vV):=by
  rw [size_setRow]
  exact ⟨fun b (hb:W2.heap.size ≤ b∧b < W3.heap.size∧vV.ownBlock ≠ some b)=>⟨Nat.le_trans hlt hb.1,hb.2⟩,fun e=>by cases e⟩
 refine ⟨vV,vN,vI,vO,xs,rfl,below_setRow' h3.below (Nat.le_refl _) _,heap_setRow _ _ _ _ _ h3.src,(heap_setRow_other _ _ _ _ (by omega)).trans h3.res,own_setRow (own_lower ho hlt) (fun b hb=>by have:=(ho.lt b hb).1;omega) _,?_,?_,?_,?_⟩
 ·exact Chunks.more hle (Chunks.keep kp hv)
 ·exact Rep.more (Rep.keep hn kp) hle
 ·exact Rep.more (Rep.keep hi kp) hle
 ·exact Rep.more (Rep.keep hu kp) hle
theorem yields_index0 {P:Program} {ops:Array Oper} {S:World→Prop} {o:Oper} {a:Act} {e:TypeId} (hw:Region.wanted o (yielded ops a.tmps) = true) (t:TypeId) (x y:Operand) (ho:o.op = .indexAddr t x y) (b n c i size:Nat) (q:Int) (hx:a.eval x = .slice (some ⟨b,0,none⟩) n c) (hy:a.eval y = .int .i64 q)
  (ht:P.underlying t = some (.slice e)) (hi:(P.info? e).map (·.size) = some size) (hq:q = (i:Int)) (hlt:i < n):YieldsIf P ops S o (.pointer (some ⟨b,i * size,none⟩)) a:=by
 have h:=yields_indexI (S:=S) hw t x y ho b 0 n c i size q hx hy ht hi hq hlt
 rwa [Nat.zero_add] at h
theorem of_end {w W:World} {vV vN vI vO:Value} {g:GraphD} {h:List ValD} {xs:List Value} (d:OfI w vV vN vI vO g h xs W) (hl:h.length * 144 ≤ reach) (x:Array Value):Below w.heap.size w (W.setRow (w.heap.size + 1) x)∧rep (W.setRow (w.heap.size + 1) x) (Zb w.heap.size (W.setRow (w.heap.size + 1) x).heap.size) [vV,vN,vI,vO] (⟨h,g.nodes,g.inputs,g.outputs⟩:GraphD):=by
 refine ⟨below_setRow' d.below (by omega) _,?_⟩
 have kp:Keeps (Zr (w.heap.size + 2) W.heap.size vV) W (W.setRow (w.heap.size + 1) x):=Keeps.of_block fun q (hq:w.heap.size + 2 ≤ q∧q < W.heap.size∧vV.ownBlock ≠ some q)=>heap_setRow_other _ _ _ _ (by omega)
 rw [size_setRow]
 have own9:=own_setRow (g:=w.heap.size + 1) d.own (fun b hb=>by have:=(d.own.lt b hb).1;omega) x
 have hz:(Zr (w.heap.size + 2) W.heap.size vV).le (Zb w.heap.size W.heap.size):=⟨fun b (hb:w.heap.size + 2 ≤ b∧b < W.heap.size∧vV.ownBlock ≠ some b)=>⟨by omega,hb.2.1⟩,fun e=>by cases e⟩
 have hv:rep (W.setRow (w.heap.size + 1) x) (Zb w.heap.size W.heap.size) [vV] h:=rep_of_own own9 (Chunks.more hz (Chunks.keep kp d.ch)) hl (fun b _ h1 h2=>by rw [size_setRow] at h2;exact ⟨by omega,h2⟩)
 exact shut_GraphD (a:=⟨h,g.nodes,g.inputs,g.outputs⟩) (c0:=[_]) hv (c1:=[_]) (Rep.more (Rep.keep d.nodes kp) hz) (c2:=[_]) (Rep.more (Rep.keep d.ins kp) hz) (c3:=[_]) (Rep.more (Rep.keep d.outs kp) hz)
theorem of_row {W:World} {q:Nat} {cs:List Value} (hq:W.heap[q]? = some (.cells z4.toArray 26 (0,0))) (hl:cs.length = 4):(W.setRow q (z4.take 0++cs++z4.drop (0 + cs.length)).toArray).heap[q]? = some (.cells cs.toArray 26 (0,0)):=by
 have e:z4.take 0++cs++z4.drop (0 + cs.length) = cs:=by
  rw [List.take_zero,List.nil_append,List.drop_of_length_le (by rw [z4_len];omega),List.append_nil]
 rw [e]
 exact heap_setRow _ _ _ _ _ hq
def OfP (g:GraphD) (x:Int) (h:GraphD):Prop:=(¬ x = 0→h = ⟨[],[],[],[]⟩)∧(x = 0→SoundD h∧h.nodes = g.nodes∧h.inputs = g.inputs∧h.outputs = g.outputs∧h.vals.length = g.vals.length∧∀ n ∈ h.nodes,1 ≤ n.outs.length)∧(SoundD g→GoodG g→FineG g.vals g.nodes→x = 0∧h.vals = runV g.vals g.nodes)
def OfE (w:World) (g:GraphD) (e:Ending) (w':World):Prop:=∃ (gcs:List Value) (x y:Int) (h:GraphD),e = .returned (.tuple #[.agg gcs.toArray,.int .i64 x,.int .i64 y])∧I64 x∧I64 y∧Below w.heap.size w w'∧rep w' (Zb w.heap.size w'.heap.size) gcs h∧OfP g x h
theorem ofE_bad {w w':World} {g:GraphD} {x y:Int} (hb:Below w.heap.size w w') (hx:I64 x) (hy:I64 y) (h0:¬ x = 0) (hn:SoundD g→GoodG g→FineG g.vals g.nodes→False):OfE w g (.returned (.tuple #[.agg z4.toArray,.int .i64 x,.int .i64 y])) w' :=
 ⟨z4,x,y,⟨[],[],[],[]⟩,rfl,hx,hy,hb,rep_z4 _ _,fun _=>rfl,fun e=>absurd e h0,fun h1 h2 h3=>(hn h1 h2 h3).elim⟩
set_option maxRecDepth 100000 in
set_option maxHeartbeats 8000000 in
theorem of_any (gcs:List Value) (g:GraphD) (w:World) (HSH:Hid (ShapesAll g)) (hr:rep w (old w.heap.size) gcs g) (hs1:g.vals.length ≤ 1048576) (hs2:(defsD g).length ≤ 1048576) (hs3:∀ n ∈ g.nodes,n.ins.length ≤ 1048576) :
  Calls Tryz.prog 24 #[.agg gcs.toArray] w (OfE w g):=by
 have hl:gcs.length = 4:=Rep.len hr
 have HG:=Lib.hid (And.intro hr (And.intro hl (And.intro (Rep.one hr) hs3)))
 have HSZ:=Lib.hid (show (Tryz.prog.info? 26).map (·.size) = some gcs.length by rw [hl];kernel_rfl)
 have hin:g.inputs.length ≤ 1048576:=by
  have:g.inputs.length ≤ (defsD g).length:=by unfold defsD;rw [List.length_append];omega
  omega
 clear hr hl hs3
 go_enter Tryz.func24,Tryz.ntmps24
 go_wp2_with (first
  |(with_reducible refine wpList_box_row rfl 26 _ rfl gcs rfl ?_)
  |(with_reducible refine wpList_alloc_row rfl 26 rfl z4 z4_zero ?_;have hX:=pair_start w 26 26 gcs z4;generalize World.alloc _ (.cells z4.toArray _) = W0 at hX ⊢;have HX:=Lib.hid hX;clear hX;refine halt ?_))
 unfold Halt
 go_wp2_with (with_reducible refine wpList_load_agg rfl 26 _ rfl _ w.heap.size 0 rfl gcs Tryz.underlying26 rfl HSZ.out (At.of_row HX.out.src) ?_)
 refine (check_allX gcs g _ (HX.out.keeps HG.out.1) hs1 hs2).mono ?_
 rintro e w1 ⟨x,rfl,hb,hx,hx0,hx1,hxs⟩
 replace HX:=Lib.hid (HX.out.next hb)
 have HC:=Lib.hid (And.intro hx (And.intro hx0 (And.intro hx1 hxs)))
 clear hb hx hx0 hx1 hxs
 by_cases h0:x = 0
 ·have HS:=Lib.hid (HC.out.1 h0)
  subst h0
  go_wp2_with (with_reducible refine wpList_load_agg rfl 26 _ rfl _ w.heap.size 0 rfl gcs Tryz.underlying26 rfl HSZ.out (At.of_row HX.out.src) ?_)
  refine (given_any gcs g _ (HX.out.keeps HG.out.1) hin).mono ?_
  rintro e w2 ⟨y,rfl,hy,hb,hyg⟩
  replace HX:=Lib.hid (HX.out.next hb)
  have HY:=Lib.hid (And.intro hy hyg)
  clear hb hy hyg
  by_cases h1:y = 0
  ·subst h1
   go_wp2_with (with_reducible refine wpList_load_agg rfl 26 _ rfl _ w.heap.size 0 rfl gcs Tryz.underlying26 rfl HSZ.out (At.of_row HX.out.src) ?_)
   refine (copyX_any gcs g _ (HX.out.keeps HG.out.1)).mono ?_
   rintro e w3 ⟨cs,rfl,hcr,hb,hcp⟩
   have hcl:cs.length = 4:=Rep.len hcr
   obtain ⟨vV,vN,vI,vO,xs,hcs,hI⟩:=of_start HX.out hb hcp HG.out.2.1
   have HCO:=Lib.hid (And.intro hcl (Rep.one hcr))
   have HII:=Lib.hid hI
   have HSR:=Lib.hid (HX.out.next hb).src
   clear hcr hb hcp hcl hI
   subst hcs
   go_wp2_with ((with_reducible refine wpList_store_agg rfl 26 _ _ rfl w.heap.size 0 ([vV,vN,vI,vO]:List Value) rfl rfl 26 gcs HSR.out (by kernel_rfl) (by rw [HG.out.2.1];exact of_decide_eq_true (by kernel_rfl)) HCO.out.2 ?_);have hX:=HII.out;generalize World.setRow _ _ _ = w4 at hX ⊢;have HI:=Lib.hid hX;clear hX;refine halt ?_)
   unfold Halt
   clear HII HSR HX
   obtain ⟨AV,kV,rfl,hv1,hv2⟩:=HI.out.slice
   obtain ⟨AN,kN,hvn⟩:=slice_form HI.out.nodes
   injection hvn with hvn
   subst hvn
   obtain ⟨nn1,nn2⟩:=slice_bnd HI.out.nodes
   have c1:=HI.out.cell (j:=1) rfl
   go_wp2_with fail
   clear c1
   go_loopw [33] (fun i wr=>∃ (pre post:List GNodeD) (h:List ValD) (ys:List Value),g.nodes = pre++post∧i = .int .i64 pre.length∧OfI w (.slice AV g.vals.length kV) (.slice AN g.nodes.length kN) vI vO g h ys wr∧h.map (·.const) = g.vals.map (·.const)∧(FineG g.vals g.nodes→FineG h post∧runV h post = runV g.vals g.nodes)∧∀ n ∈ pre,1 ≤ n.outs.length) (fun i _=>g.nodes.length - (intOf i).toNat)
   case atStart=>exact ⟨[],g.nodes,g.vals,xs,rfl,rfl,HI.out,rfl,fun h=>⟨h,rfl⟩,fun n h=>by cases h⟩
   case round =>
    obtain ⟨pre,post,h,ys,hpp,rfl,hI,hc,hf,hn⟩:=hrel
    obtain ⟨wb,rfl⟩:∃ wb,wb = wr:=⟨_,rfl⟩
    have HJ:=Lib.hid hI
    have hlen:h.length = g.vals.length:=by have:=congrArg List.length hc;simpa using this
    have HF:=Lib.hid (And.intro hc (And.intro hf (And.intro hn hlen)))
    clear hI hc hf hn hlen HI
    cases post with
    | cons z post =>
     obtain ⟨hz,hlt,hpp',hpl⟩:=split_at hpp
     have hmem:=List.mem_of_getElem? hz
     obtain ⟨A',c',zs,hv,-,-,-,hl,hch⟩:=open_slice HJ.out.nodes
     injection hv with hva hvb hvc
     subst hva
     obtain ⟨b,o,zc,rfl,hbB,hrz,hcell⟩:=elem_at hl hch (by decide) hz
     have hat:At wb b (o + pre.length * 40) zc:=fun j u hu=>by
      have h1:=(hcell j u hu).1
      rwa [← Nat.add_assoc] at h1
     obtain ⟨ss,I1,i1,O1,o1,z0,z37,z38,z39,hss,zi,zo,hsub⟩:=gnode_facts hrz
     obtain ⟨nI1,nI2⟩:=slice_bnd zi
     obtain ⟨nO1,nO2⟩:=slice_bnd zo
     obtain ⟨-,-,-,-,-,-,ho64,-,-,-,hs64⟩:=open_GNodeD hrz
     have HA:=Lib.hid (And.intro hat (And.intro (node_lay hrz) (gnode_len hrz)))
     have HZ:=Lib.hid (And.intro z0 (And.intro z37 (And.intro z38 (And.intro z39 (And.intro hss (And.intro zi (And.intro zo hsub)))))))
     have HM:=Lib.hid (And.intro hmem (And.intro ho64 hs64))
     have HP:=Lib.hid (And.intro hpp' hpl)
     have hk0:(0:Int) ≤ (pre.length:Int):=Int.natCast_nonneg _
     have hk1:(pre.length:Int) < (g.nodes.length:Int):=by omega
     have HL2:=Lib.hid (HG.out.2.2.2 z hmem)
     clear hpp hpp' hpl hz hcell hbB hrz hat z0 z37 z38 z39 hss zi zo hsub hl hch ho64 hs64 hmem hvb hvc
     go_wp2_with (first
      |(with_reducible refine wpList_load_agg rfl 50 _ rfl _ _ _ rfl zc Tryz.underlying50 rfl HA.out.2.1.1 HA.out.1 ?_)
      |(with_reducible refine wpList_alloc_row rfl 50 rfl zeroGN zeroGN_zero ?_)
      |(with_reducible refine wpList_store_agg rfl 50 _ _ rfl _ 0 zc rfl rfl 50 zeroGN (heap_alloc_new _ _) HA.out.2.1.1 HA.out.2.1.2.1 HA.out.2.1.2.2.2 ?_;have hY:=laid_row wb 50 zeroGN zc HA.out.2.1.2.2.1;generalize World.setRow _ _ _ = w5 at hY ⊢;have HY:=Lib.hid hY;clear hY;refine halt ?_))
     unfold Halt
     obtain ⟨q,hq⟩:∃ q,wb.heap.size = q:=⟨_,rfl⟩
     have hq1:w.heap.size + 1 < q:=by have:=HJ.out.lt;omega
     have hJ5:=HJ.out.next HY.out.1
     have hrow:=HY.out.2.1
     have hsz:=HY.out.2.2
     have hss:=HZ.out.2.2.2.2.1
     have zi:=HZ.out.2.2.2.2.2.1
     have zo:=HZ.out.2.2.2.2.2.2.1
     have hHb:=HY.out.1
     rw [hq] at hrow hsz hHb hss zi zo
     rw [hq]
     have HR:=Lib.hid (And.intro hrow (And.intro hsz hq1))
     have HJ5:=Lib.hid hJ5
     have HW:=Lib.hid (And.intro hss (And.intro zi (And.intro zo hHb)))
     have HQE:=Lib.hid hq
     clear hrow hsz hq1 hJ5 hq hss zi zo hHb HY
     have c37:=cell_row HR.out.1 HZ.out.2.1
     go_wp2_with fail
     clear c37
     obtain ⟨i0,hi0,hz0,hz1,hz2⟩:=info_parts valInfoZ
     obtain ⟨A',c',ks,hv,-,-,hm8,hl,hch⟩:=open_slice HW.out.2.1
     injection hv with hva hvb hvc
     subst hva
     have HK:=Lib.hid (And.intro hl (And.intro hch hm8))
     have HSI:=Lib.hid (HS.out.ins z HM.out.1)
     clear hl hch hvb hvc hm8
     go_loopw [9,40] (fun v i wr=>∃ (pre2 post2:List Int) (ws:List Value),z.ins = pre2++post2∧i = .int .i64 pre2.length∧GrowV w5.heap.size wr v (pre2.map fun k=>if k < 0 then zeroVD else h.getD k.toNat zeroVD) ws∧Below w5.heap.size w5 wr) (fun _ i _=>z.ins.length - (intOf i).toNat)
     case atStart=>exact ⟨[],z.ins,[],rfl,rfl,GrowV.nil _,Below.refl _ _⟩
     case round =>
      obtain ⟨pre2,post2,ws,hpp,rfl,hG,hB⟩:=hrel
      obtain ⟨wx,rfl⟩:∃ wx,wx = wr:=⟨_,rfl⟩
      have HGV:=Lib.hid hG
      have HB:=Lib.hid hB
      clear hG hB
      cases post2 with
      | cons k post2 =>
       obtain ⟨hz,hlt2,hpp',hpl⟩:=split_at hpp
       have hkr:=HSI.out k (List.mem_of_getElem? hz)
       obtain ⟨bi,oi,xc,rfl,hbB,⟨rfl,hk64⟩,hcell⟩:=elem_at HK.out.1 HK.out.2.1 (by decide) hz
       have hbq:bi < q:=hbB.2.1
       have hqs:q ≤ w5.heap.size:=by have:=HR.out.2.1;omega
       have k4':wx.cell? ⟨bi,oi + pre2.length,none⟩ = some (.int .i64 k) :=
        (HB.out.cell (p:=⟨bi,oi + pre2.length,none⟩) (by simp only;omega)).trans ((HW.out.2.2.2.cell (p:=⟨bi,oi + pre2.length,none⟩) hbq).trans (cell_of_elem (α:=Int) rfl hcell rfl))
       have H2:=Lib.hid (And.intro hpp' hpl)
       have HI5:=Lib.hid (HJ5.out.next HB.out)
       have hk2:(0:Int) ≤ (pre2.length:Int):=Int.natCast_nonneg _
       have hk3:(pre2.length:Int) < (z.ins.length:Int):=by omega
       have hl2:=HL2.out
       clear hpp hpp' hpl hz hcell hbB hbq hqs
       by_cases hk0':k < 0
       ·go_wp2_with (at_builtin;refine wpList_append_lies _ rfl _ _ 22 rfl w5.heap.size 45 i0 (.agg zeroV.toArray) 8 144 Tryz.underlying22 hi0 hz0 hz1 hz2 rfl (by decide) _ _ _ rfl (HGV.out.own.alloc _) _ _ 1 1 _ rfl rfl (lies_new _ _ _) ?c2 ?c3 ?c4 ?c5 ?_)
        case c2=>exact zeroV_one
        case c3=>unfold maxLen;rw [List.length_map];omega
        case c4=>rw [List.length_map];omega
        case c5=>have:=HGV.out.le;simp;omega
        intro v' w6 hown' hgrow _
        obtain ⟨hG2,hb2⟩:=HGV.out.more (rep_zeroVD wx w5.heap.size) (by rw [List.length_map];exact hown') hgrow
        obtain ⟨ws2,hG3⟩:∃ ws2,GrowV w5.heap.size w6 v' ((pre2++[k]).map (fun k=>if k < 0 then zeroVD else h.getD k.toNat zeroVD)) ws2:=⟨_,by rw [List.map_append];exact (by rw [List.map_singleton,if_pos hk0'];exact hG2)⟩
        have HG2:=Lib.hid hG3
        clear hG3
        have HB2:=Lib.hid (HB.out.trans hb2)
        clear hG2 hb2 hown' hgrow
        go_wp2
        go_roundw
        case rel =>
         exact ⟨pre2++[k],post2,ws2,H2.out.1,by rw [H2.out.2];go_num,HG2.out,HB2.out⟩
        case measure=>simp [intOf];omega
       ·obtain ⟨j,rfl⟩:∃ j:Nat,k = (j:Int):=⟨k.toNat,by omega⟩
        have hjl:j < h.length:=by have:=HF.out.2.2.2;omega
        obtain ⟨v,hv⟩:∃ v,h[j]? = some v:=⟨_,List.getElem?_eq_getElem hjl⟩
        obtain ⟨bv,cv,vc,hve,hb0,hb1,hrv,hav⟩:=HJ5.out.elem hv
        injection hve with hve1 hve2 hve3
        subst hve1
        have hav':At wx bv (j * 8) vc:=fun i u hu=>(HB.out.cell (p:=⟨bv,j * 8 + i,none⟩) hb1).trans (hav i u hu)
        have hrv':rep wx (old w5.heap.size) vc v:=Rep.more (Rep.keep hrv (zr_keep HB.out)) (zr_old (Nat.le_refl _))
        obtain ⟨B1,j1,B2,j2,B3,j3,B4,j4,B5,j5,rfl,-⟩:=open_ValD hrv'
        have HVV:=Lib.hid (And.intro hav' (And.intro hrv' hv))
        have c0:=HI5.out.cell (j:=0) rfl
        have hj1:(j:Int) < (g.vals.length:Int):=by omega
        have hj0:(0:Int) ≤ (j:Int):=Int.natCast_nonneg _
        clear hav hrv hav' hrv' hv hb0 hb1 hve2 hve3 hk0' hjl
        go_wp2_with (first
         |(with_reducible refine wpList_load_agg rfl 45 _ rfl _ _ _ rfl _ Tryz.underlying45 rfl (by kernel_rfl) HVV.out.1 ?_)
         |(at_builtin;refine wpList_append_lies _ rfl _ _ 22 rfl w5.heap.size 45 i0 (.agg zeroV.toArray) 8 144 Tryz.underlying22 hi0 hz0 hz1 hz2 rfl (by decide) _ _ _ rfl (HGV.out.own.alloc _) _ _ 1 1 _ rfl rfl (lies_new _ _ _) ?d2 ?d3 ?d4 ?d5 ?_))
        case d2=>exact Rep.one HVV.out.2.1
        case d3=>unfold maxLen;rw [List.length_map];omega
        case d4=>rw [List.length_map];omega
        case d5=>have:=HGV.out.le;simp;omega
        intro v' w6 hown' hgrow _
        obtain ⟨hG2,hb2⟩:=HGV.out.more HVV.out.2.1 (by rw [List.length_map];exact hown') hgrow
        obtain ⟨ws2,hG3⟩:∃ ws2,GrowV w5.heap.size w6 v' ((pre2++[(j:Int)]).map (fun k=>if k < 0 then zeroVD else h.getD k.toNat zeroVD)) ws2:=⟨_,by rw [List.map_append];exact (by rw [List.map_singleton,if_neg (by omega),List.getD_eq_getElem?_getD,Int.toNat_natCast,HVV.out.2.2];exact hG2)⟩
        have HG2:=Lib.hid hG3
        clear hG3
        have HB2:=Lib.hid (HB.out.trans hb2)
        clear hG2 hb2 hown' hgrow
        go_wp2
        go_roundw
        case rel =>
         exact ⟨pre2++[(j:Int)],post2,ws2,H2.out.1,by rw [H2.out.2];go_num,HG2.out,HB2.out⟩
        case measure=>simp [intOf];omega
      | nil =>
       obtain ⟨hge,hpl⟩:=split_end hpp
       replace hpl:=Lib.hid hpl
       clear hpp
       have HI5:=Lib.hid (HJ5.out.next HB.out)
       have HA5:Hid (askOf h z = askOf h z):=Lib.hid rfl
       obtain ⟨AI,kI,rfl,hri⟩:=HGV.out.fin (by rw [List.length_map,hpl.out];have:=HL2.out;unfold reach;omega)
       have hrow:wx.heap[q]? = some (.cells zc.toArray 50 (0,0)):=(HB.out.block _ (by have:=HR.out.2.1;omega)).trans HR.out.1
       have hq5:q ≤ w5.heap.size:=by have:=HR.out.2.1;omega
       have hbb:Below q wb wx:=HW.out.2.2.2.trans (HB.out.mono hq5)
       have hqx:q ≤ wx.heap.size:=Nat.le_trans hq5 HB.out.size
       have hs5:rep wx (old wx.heap.size) ss z.s:=Rep.more (Rep.keep (show rep wb _ ss z.s from HW.out.1) (zr_keep hbb)) (zr_old hqx)
       have hri':rep wx (old wx.heap.size) [.slice AI (askOf h z).ins.length kI] (askOf h z).ins:=by
        have e:=hri
        rw [hpl.out] at e
        exact e
       have hln:(pre2.map fun k=>if k < 0 then zeroVD else h.getD k.toNat zeroVD).length = (askOf h z).ins.length:=by rw [hpl.out];rfl
       obtain ⟨m1,m2⟩:=slice_bnd hri'
       rw [hln]
       have HQ:=Lib.hid (And.intro hrow (And.intro hbb (And.intro hs5 hri')))
       have HAT:Hid (At wx q 1 ss):=Lib.hid (by have:=HZ.out.2.2.2.2.2.2.2 wx q 0 (At.of_row HQ.out.1);simpa using this)
       have HSS:Hid ((Tryz.prog.info? 48).map (·.size) = some ss.length):=Lib.hid (by rw [Rep.len hs5];kernel_rfl)
       have c0:=cell_row HQ.out.1 HZ.out.1
       have c38:=cell_row HQ.out.1 HZ.out.2.2.1
       clear hrow hbb hs5 hri' hri hln HGV
       go_wp2_with (with_reducible refine wpList_load_agg rfl 48 _ rfl _ _ _ rfl ss Tryz.underlying48 rfl HSS.out HAT.out ?_)
       refine (node_any ss AI kI (askOf h z) wx (Lib.hid fun h1=>HSH.out (askOf h z) h1 ⟨z,HM.out.1,rfl⟩) HM.out.2.1 HQ.out.2.2.1 HQ.out.2.2.2 (show I64 (z.outs.length:Int) by unfold I64;omega)).mono ?_
       rintro e w7 ⟨L,kL,y,l,rfl,hy,hb7,hrl,hnp⟩
       obtain ⟨nl1,nl2⟩:=slice_bnd hrl
       have HI7:=Lib.hid (HI5.out.next hb7)
       have HQ7:=Lib.hid ((hb7.block _ (by have:=HR.out.2.1;have:=HB.out.size;omega)).trans HQ.out.1:w7.heap[q]? = some (.cells zc.toArray 50 (0,0)))
       have HN7:=Lib.hid (And.intro hy (And.intro hrl (And.intro hnp hb7)))
       clear c0 c38 hy hb7 hrl hnp
       by_cases h0:y = 0
       ·have HNP:=Lib.hid (HN7.out.2.2.1.1 h0)
        have HNF:=Lib.hid HN7.out.2.2.1.2
        subst h0
        have c38:=cell_row HQ7.out HZ.out.2.2.1
        have hol:z.outs.length = l.length:=by have:=HNP.out.1;unfold askOf at this;simp only at this;omega
        have HOL:=Lib.hid hol
        clear hol
        go_wp2_with fail
        clear c38
        obtain ⟨A',c',os,hv,-,-,-,hl,hch⟩:=open_slice HW.out.2.2.1
        injection hv with hva hvb hvc
        subst hva
        obtain ⟨A',c',us,hv,-,-,-,hl2,hch2⟩:=open_slice HN7.out.2.1
        injection hv with hva' hvb' hvc'
        subst hva'
        have HO:=Lib.hid (And.intro hl (And.intro hch (And.intro hl2 hch2)))
        have HSO:=Lib.hid (HS.out.outs z HM.out.1)
        have hbx:Below q wb w7:=HQ.out.2.1.trans (HN7.out.2.2.2.mono (Nat.le_trans (by have:=HR.out.2.1;omega) HB.out.size))
        have HBX:=Lib.hid hbx
        clear hl hch hl2 hch2 hvb hvc hvb' hvc' hbx
        go_loopw [80] (fun i wr=>∃ (c:Nat) (h3:List ValD) (ys3:List Value),i = .int .i64 c∧c ≤ z.outs.length∧OfI w (.slice AV g.vals.length kV) (.slice (some ⟨b,o,none⟩) g.nodes.length kN) vI vO g h3 ys3 wr∧h3.length = g.vals.length∧h3 = putsV h (z.outs.take c) (l.take c)∧wr.heap.size = w7.heap.size∧∀ k,(Value.slice AV g.vals.length kV).ownBlock ≠ some k→wr.heap[k]? = w7.heap[k]?) (fun i _=>z.outs.length - (intOf i).toNat)
        case atStart=>exact ⟨0,h,ys,rfl,Nat.zero_le _,HI7.out,HF.out.2.2.2,rfl,rfl,fun _ _=>rfl⟩
        case round =>
         obtain ⟨c,h3,ys3,rfl,hcl,hI3,hl3,he3,hsz3,hk3⟩:=hrel
         obtain ⟨wy,rfl⟩:∃ wy,wy = wr:=⟨_,rfl⟩
         have H3:=Lib.hid (And.intro hI3 (And.intro hl3 (And.intro he3 (And.intro hsz3 hk3))))
         clear hI3 hl3 he3 hsz3 hk3
         by_cases hlt3:c < z.outs.length
         ·obtain ⟨k,hk⟩:∃ k,z.outs[c]? = some k:=⟨_,List.getElem?_eq_getElem hlt3⟩
          have hkr:=HSO.out k (List.mem_of_getElem? hk)
          obtain ⟨j,rfl⟩:∃ j:Nat,k = (j:Int):=⟨k.toNat,by omega⟩
          have hcl2:c < l.length:=by have:=HOL.out;omega
          obtain ⟨v,hv⟩:∃ v,l[c]? = some v:=⟨_,List.getElem?_eq_getElem hcl2⟩
          obtain ⟨bo,oo,xc,rfl,hbo,⟨rfl,hj64⟩,hco⟩:=elem_at HO.out.1 HO.out.2.1 (by decide) hk
          obtain ⟨bl,ol,vc,rfl,hbl,hrv,hcv⟩:=elem_at HO.out.2.2.1 HO.out.2.2.2 (by decide) hv
          have hvb:∀ b,(Value.slice AV g.vals.length kV).ownBlock = some b→b < wx.heap.size:=fun b hb=>(HI5.out.own.lt b hb).2
          have k4':wy.cell? ⟨bo,oo + c,none⟩ = some (.int .i64 (j:Int)) :=
           (World.cell?_of_block (w:=w7) (w':=wy) (a:=⟨bo,oo + c,none⟩) (H3.out.2.2.2.2 bo hbo.2.2)).trans ((HBX.out.cell (p:=⟨bo,oo + c,none⟩) hbo.2.1).trans (cell_of_elem (α:=Int) rfl hco rfl))
          have hnb:∀ k,wx.heap.size ≤ k→(Value.slice AV g.vals.length kV).ownBlock ≠ some k:=fun k hk e=>by have:=hvb k e;omega
          have hat:At wy.drew bl (ol + c * 8) vc:=fun i u hu=>(World.cell?_of_block (w:=w7) (w':=wy.drew) (a:=⟨bl,ol + c * 8 + i,none⟩) (H3.out.2.2.2.2 bl (hnb _ hbl.1))).trans (by rw [Nat.add_assoc];exact (hcv i u hu).1)
          have hrv9:rep wy.drew (Zr (w.heap.size + 2) wy.drew.heap.size (.slice AV g.vals.length kV)) vc v:=by
           refine Rep.more (Rep.keep hrv (w':=wy.drew) (Keeps.of_block fun k hk=>H3.out.2.2.2.2 k (hnb k hk.1))) ⟨fun b hb=>⟨?_,?_,hnb b hb.1⟩,fun e=>by cases e⟩
           ·have:=hb.1;have:=HI5.out.lt;omega
           ·exact Nat.lt_of_lt_of_eq hb.2 H3.out.2.2.2.1.symm
          have hvs:=val_facts hrv
          obtain ⟨bv,cv,cur,hve,hb0,hb1,hcv1,hcv2,hh,hfit,hI4,hne⟩:=(H3.out.1.next (Below.refl _ _).drew).put (k:=j) (by have:=H3.out.2.1;omega) hrv9
          injection hve with hve1 hve2 hve3
          subst hve1
          have HCU:=Lib.hid (And.intro hh (And.intro hfit (And.intro hI4 (And.intro hne (size_setRow wy.drew bv (cur.take (j * 8)++vc++cur.drop (j * 8 + vc.length)).toArray)))))
          have HVL:=Lib.hid (And.intro (show (Tryz.prog.info? 45).map (·.size) = some vc.length by rw [hvs.1];kernel_rfl) (And.intro hat hrv9))
          have HKV:=Lib.hid (And.intro hk hv)
          have H4:=Lib.hid (H3.out.1.next (Below.refl _ _).drew)
          have hjv:j < g.vals.length:=by omega
          have hc0:(0:Int) ≤ (c:Int):=Int.natCast_nonneg _
          have hc1:(c:Int) < (z.outs.length:Int):=by omega
          have hc2:(c:Int) < (l.length:Int):=by omega
          clear hk hv hco hcv hat hrv hrv9 hvb hnb hvs hve2 hve3 hb0 hb1 hcv1 hcv2 hh hfit hI4 hne hbo hbl hj64
          go_wp2_with fail
          clear k4'
          refine wp_region_tail [8] (S:=fun W=>W = wy.drew) (by kernel_rfl) rfl (fun hHeld=>?_)
          clear hHeld
          refine tt9 0 (some 85) (v:=.pointer (some ⟨w.heap.size,0,none⟩)) rfl (Or.inl ⟨by kernel_rfl,fun w _=>by kernel_rfl⟩) rfl ?_
          refine tt9 1 (some 86) (v:=.slice (some ⟨bv,0,none⟩) g.vals.length kV) rfl (yields_load_one9 (by kernel_rfl) _ _ rfl w.heap.size 0 (by kernel_rfl) _ _ Tryz.underlying22 rfl (fun _ h=>by rw [h];exact H4.out.cell (j:=0) rfl)) rfl ?_
          refine tt9 2 (some 87) (v:=.int .i64 (j:Int)) rfl (Or.inl ⟨by kernel_rfl,fun w _=>by kernel_rfl⟩) rfl ?_
          refine tt9 3 (some 88) (v:=.slice (some ⟨bl,ol,none⟩) l.length kL) rfl (Or.inl ⟨by kernel_rfl,fun w _=>by kernel_rfl⟩) rfl ?_
          refine tt9 4 (some 89) (v:=.int .i64 (c:Int)) rfl (Or.inl ⟨by kernel_rfl,fun w _=>by kernel_rfl⟩) rfl ?_
          refine tt9 5 (some 90) (v:=.pointer (some ⟨bl,ol + c * 8,none⟩)) rfl (yields_indexI (by kernel_rfl) _ _ _ rfl bl ol l.length kL c 8 (c:Int) (by kernel_rfl) (by kernel_rfl) Tryz.underlying22 (by kernel_rfl) rfl hcl2) rfl ?_
          refine tt9 6 (some 91) (v:=.agg vc.toArray) rfl (yields_load_agg (by kernel_rfl) _ _ rfl _ bl (ol + c * 8) (by kernel_rfl) vc Tryz.underlying45 rfl HVL.out.1 (fun W h=>by rw [h];exact HVL.out.2.1)) rfl ?_
          refine tt9 7 (some 92) (v:=.pointer (some ⟨bv,j * 8,none⟩)) rfl (yields_index0 (by kernel_rfl) _ _ _ rfl bv g.vals.length kV j 8 (j:Int) (by kernel_rfl) (by kernel_rfl) Tryz.underlying22 (by kernel_rfl) rfl hjv) rfl ?_
          refine tail_free _ _ _ _ (by kernel_rfl) ?_
          refine anyH_store_agg 8 rfl (by kernel_rfl) (by kernel_rfl) 45 _ _ rfl bv (j * 8) vc (by kernel_rfl) (by kernel_rfl) 45 cur HCU.out.1 HVL.out.1 HCU.out.2.1 (Rep.one HVL.out.2.2) trivial ?_
          have hX:=HCU.out.2.2
          refine wpAnyH_done (by kernel_rfl) ?_ _
          generalize World.setRow _ _ _ = w9 at hX ⊢
          have H9:=Lib.hid hX
          clear hX
          simp [Act.put]
          go_wp2
          go_roundw
          case rel =>
           refine ⟨c + 1,h3.set j v,_,by go_num,by omega,H9.out.1,by rw [List.length_set];exact H3.out.2.1,?_,H9.out.2.2.trans H3.out.2.2.2.1,fun k hk=>?_⟩
           ·rw [List.take_add_one,List.take_add_one,HKV.out.1,HKV.out.2,Option.toList_some,Option.toList_some,putsV_snoc _ _ _ _ _ (by rw [List.length_take,List.length_take];omega),← H3.out.2.2.1,Int.toNat_natCast]
           ·exact (H9.out.2.1 k (fun e=>hk (by rw [e];rfl))).trans (H3.out.2.2.2.2 k hk)
          case measure=>simp [intOf];omega
         ·have hlt4:¬ (c:Int) < (z.outs.length:Int):=by omega
          have hce:c = z.outs.length:=by omega
          have HCE:=Lib.hid hce
          have hh3:h3 = putsV h z.outs l:=by
           have e:=H3.out.2.2.1
           rw [hce,List.take_length,HOL.out,List.take_length] at e
           exact e
          have HH3:=Lib.hid hh3
          clear hce hh3 hlt3
          go_wp2
          go_roundw
          case rel =>
           refine ⟨pre++[z],post,h3,_,HP.out.1,by rw [HP.out.2];go_num,H3.out.1,?_,fun hf=>?_,fun n hn=>?_⟩
           ·rw [HH3.out]
            exact putsV_const HS.out HM.out.1 _ _ _ (fun k h=>h) (fun v hv=>by obtain ⟨t,d,rfl,-⟩:=HNP.out.2.2 v hv;rfl) HF.out.1
           ·obtain ⟨f1,f2⟩:=HF.out.2.1 hf
            have f3:=(HNF.out f1.1).2
            have f4:h3 = tellV h z:=by rw [HH3.out,f3];rfl
            rw [f4]
            exact ⟨f1.2,f2⟩
           ·rcases List.mem_append.1 hn with h | h
            ·exact HF.out.2.2.1 n h
            ·rw [List.mem_singleton] at h
             rw [h]
             have:=HNP.out.2.1
             unfold askOf at this
             simp only at this
             omega
          case measure=>simp [intOf];omega
       ·have HY0:=Lib.hid h0
        have h0':(y != 0) = true:=by simpa using h0
        clear h0
        go_wp2_with fail
        refine wp_region_held_drew (S:=fun W=>W.heap[q]? = some (.cells zc.toArray 50 (0,0))) (by kernel_rfl) (show w7.drew.heap[q]? = _ from HQ7.out) (fun hHeld=>?_)
        refine tk0 0 (some 73) (v:=.agg z4.toArray) rfl hHeld ?_
        refine tk0 1 (some 74) (v:=.int .i64 y) rfl hHeld ?_
        refine tk0 2 (some 75) (v:=.pointer (some ⟨q,39,none⟩)) rfl hHeld ?_
        refine tk9 3 (some 76) (v:=.int .i64 z.source) rfl (yields_load_one9 (by kernel_rfl) _ _ rfl q 39 (by kernel_rfl) _ _ Tryz.underlying3 rfl (fun _ h=>cell_row h HZ.out.2.2.2.1)) hHeld ?_
        have h9:(w7.drew.setRow (w.heap.size + 1) (z4.take 0++z4++z4.drop (0 + z4.length)).toArray).heap[q]? = some (.cells zc.toArray 50 (0,0)):=(heap_setRow_other _ _ _ _ (by have:=HR.out.2.2;omega)).trans HQ7.out
        have hr9:(w7.drew.setRow (w.heap.size + 1) (z4.take 0++z4++z4.drop (0 + z4.length)).toArray).heap[w.heap.size + 1]? = some (.cells z4.toArray 26 (0,0)):=heap_setRow _ _ _ _ _ HI7.out.res
        have hw9:Below w.heap.size w (w7.drew.setRow (w.heap.size + 1) (z4.take 0++z4++z4.drop (0 + z4.length)).toArray):=below_setRow' HI7.out.below.drew (by omega) _
        refine anyH_store_agg 4 rfl (by kernel_rfl) (by kernel_rfl) 26 _ _ rfl (w.heap.size + 1) 0 z4 (by kernel_rfl) (by kernel_rfl) 26 z4 HI7.out.res (by kernel_rfl) (of_decide_eq_true (by kernel_rfl)) z4_one h9 ?_
        generalize World.setRow _ _ _ = w9 at h9 hr9 hw9 ⊢
        replace hHeld:=h9
        refine tk0 5 (some 3) (v:=.int .i64 y) rfl hHeld ?_
        refine tk0 6 (some 4) (v:=.int .i64 z.source) rfl hHeld ?_
        refine wpAnyH_done (by kernel_rfl) ?_ _
        have H9:=Lib.hid (And.intro hr9 hw9)
        clear hHeld h9 hr9 hw9
        simp [Act.put]
        go_wp2
        refine bodyPost_ret (results_ctt rfl _ _ (w.heap.size + 1) 26 _ (0,0) _ (.int .i64 y) (.int .i64 z.source) (by kernel_rfl) (by kernel_rfl) (by kernel_rfl) H9.out.1 Tryz.underlying26 rfl (by kernel_rfl)) (by kernel_rfl) ?_
        exact ofE_bad H9.out.2 HN7.out.1 HM.out.2.2 HY0.out (fun _ _ hf=>HY0.out (HN7.out.2.2.1.2 (HF.out.2.1 hf).1.1).1)
    | nil =>
     obtain ⟨hge,hpl⟩:=split_end hpp
     have HPL:=Lib.hid (show g.nodes = pre by rw [hpp,List.append_nil])
     clear hpp hpl
     have hres:=HJ.out.res
     have hv4:∀ u ∈ ([.slice AV g.vals.length kV,.slice AN g.nodes.length kN,vI,vO]:List Value),u.oneCell' = true:=HCO.out.2
     have HV4:=Lib.hid hv4
     clear hv4 hres
     have HLEN:=Lib.hid (show h.length * 144 ≤ reach by rw [HF.out.2.2.2];unfold reach;omega)
     have HRES:=Lib.hid (show wb.heap[w.heap.size + 1]? = some (.cells z4.toArray 26 (0,0)) from HJ.out.res)
     go_wp2_with (first
      |(with_reducible refine wpList_load_agg rfl 26 _ rfl _ w.heap.size 0 rfl ([.slice AV g.vals.length kV,.slice AN g.nodes.length kN,vI,vO]:List Value) Tryz.underlying26 rfl (by kernel_rfl) (At.of_row HJ.out.box) ?_)
      |((with_reducible refine wpList_store_agg rfl 26 _ _ rfl (w.heap.size + 1) 0 ([.slice AV g.vals.length kV,.slice AN g.nodes.length kN,vI,vO]:List Value) rfl rfl 26 z4 HRES.out (by kernel_rfl) (of_decide_eq_true (by kernel_rfl)) HV4.out ?_);have hX:=And.intro (of_row (cs:=[.slice AV g.vals.length kV,.slice AN g.nodes.length kN,vI,vO]) HRES.out rfl) (of_end HJ.out HLEN.out (z4.take 0++([.slice AV g.vals.length kV,.slice AN g.nodes.length kN,vI,vO]:List Value)++z4.drop (0 + ([.slice AV g.vals.length kV,.slice AN g.nodes.length kN,vI,vO]:List Value).length)).toArray);generalize World.setRow _ _ _ = w9 at hX ⊢;have H9:=Lib.hid hX;clear hX;refine halt ?_))
     unfold Halt
     go_wp2
     refine bodyPost_ret (results_ctt rfl _ _ (w.heap.size + 1) 26 _ (0,0) _ (.int .i64 0) (.int .i64 0) (by kernel_rfl) (by kernel_rfl) (by kernel_rfl) H9.out.1 Tryz.underlying26 rfl (by kernel_rfl)) (by kernel_rfl) ?_
     refine ⟨_,0,0,⟨h,g.nodes,g.inputs,g.outputs⟩,rfl,by unfold I64;omega,by unfold I64;omega,H9.out.2.1,H9.out.2.2,fun e=>absurd rfl e,fun _=>⟨sound_const HS.out HF.out.1,rfl,rfl,rfl,HF.out.2.2.2,fun n hn=>HF.out.2.2.1 n (by rw [← HPL.out];exact hn)⟩,fun _ _ hf=>⟨rfl,?_⟩⟩
     exact (HF.out.2.1 hf).2
  ·have hy':(y != 0) = true:=by simpa using h1
   have HN:=Lib.hid h1
   clear h1
   go_wp2_with ((with_reducible refine wpList_store_agg rfl 26 _ _ rfl (w.heap.size + 1) 0 z4 rfl rfl 26 z4 HX.out.res (by kernel_rfl) (of_decide_eq_true (by kernel_rfl)) z4_one ?_);have hX:=HX.out.out z4 rfl;generalize World.setRow _ _ _ = w9 at hX ⊢;have H9:=Lib.hid hX;clear hX;refine halt ?_)
   unfold Halt
   go_wp2
   refine bodyPost_ret (results_ctt rfl _ _ (w.heap.size + 1) 26 _ (0,0) _ (.int .i64 y) (.int .i64 (-1)) (by kernel_rfl) (by kernel_rfl) (by kernel_rfl) H9.out.2 Tryz.underlying26 rfl (by kernel_rfl)) (by kernel_rfl) ?_
   exact ofE_bad H9.out.1 HY.out.1 (by unfold I64;omega) HN.out (fun _ h _=>HN.out (HY.out.2 h))
 ·have hx':(x != 0) = true:=by simpa using h0
  have HN:=Lib.hid h0
  clear h0
  go_wp2_with ((with_reducible refine wpList_store_agg rfl 26 _ _ rfl (w.heap.size + 1) 0 z4 rfl rfl 26 z4 HX.out.res (by kernel_rfl) (of_decide_eq_true (by kernel_rfl)) z4_one ?_);have hX:=HX.out.out z4 rfl;generalize World.setRow _ _ _ = w9 at hX ⊢;have H9:=Lib.hid hX;clear hX;refine halt ?_)
  unfold Halt
  go_wp2
  refine bodyPost_ret (results_ctt rfl _ _ (w.heap.size + 1) 26 _ (0,0) _ (.int .i64 x) (.int .i64 (-1)) (by kernel_rfl) (by kernel_rfl) (by kernel_rfl) H9.out.2 Tryz.underlying26 rfl (by kernel_rfl)) (by kernel_rfl) ?_
  exact ofE_bad H9.out.1 (by have:=HC.out;unfold I64;omega) (by unfold I64;omega) HN.out (fun h _ _=>HN.out (HC.out.2.2.2 h))
end Go.Proofs.YtoeaglpmkjoenaaGreat
