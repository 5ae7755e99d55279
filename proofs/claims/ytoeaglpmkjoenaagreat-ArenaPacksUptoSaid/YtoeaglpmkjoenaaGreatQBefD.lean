/-
  Chapter 20: what comes behind a node. No condition.
-/
/-
  Chapter 20: before, and the sizes asked of a plan: plain words.
-/
import Derived.Test.YtoeaglpmkjoenaaGreatQQueue
set_option linter.unusedSimpArgs false
set_option linter.unusedVariables false
namespace Go.Proofs.YtoeaglpmkjoenaaGreat
open Go.RowKit
open Rep (rep)
open Go.ChangeShapes
open Go.Maps (Keyed int_keyed keyOf_int_mk IsMap)
theorem FlowI.next {w W W':World} {n fb:Nat} {p:PlanD} (h:FlowI w n fb p W) (hb:Below W.heap.size W W'):FlowI w n fb p W':=by
 obtain ⟨cs,mb,k,h1,h2,h3,h4,h5⟩:=h.ex
 exact ⟨cs,mb,k,(hb.block _ (Array.getElem?_eq_some_iff.1 h1).1).trans h1,Rep.keep h2 (Keeps.old_below hb h5),h3.below hb,h4,Nat.le_trans h5 hb.size⟩
theorem FlowI.lt {w W:World} {n fb:Nat} {p:PlanD} (h:FlowI w n fb p W):fb < W.heap.size:=by
 obtain ⟨cs,mb,k,h1,-⟩:=h.ex
 exact (Array.getElem?_eq_some_iff.1 h1).1
theorem MapL.look {w W:World} {base mb n:Nat} {f:Int→List Int} (h:MapL w base mb n f) (hB:Below w.heap.size w W) (s:Int) (hs:I64 s):∃ (A:Option Addr) (c:Nat),(Instr.lookup 93 (.map (some mb)) (.int .i64 s) false).run Tryz.prog W = .ok (.slice A (f s).length c) W∧(f s).length ≤ c∧c ≤ 9223372036854775807 ∧
  ∀ j x,(f s)[j]? = some x→∃ g,A = some ⟨g,0,none⟩∧g < w.heap.size∧w.cell? ⟨g,j,none⟩ = some (.int .i64 x):=by
 obtain ⟨D,⟨es,clock,hb,F,hsz,rfl,hbb,hlen,hap⟩,hm,hf⟩:=h
 have hbW:W.heap[mb]? = some (.map es clock):=(hB.block _ (Array.getElem?_eq_some_iff.1 hb).1).trans hb
 have key:∀ (v:Value) (zs:List Int),w.ownsInts base 3 .i64 v zs→datL (f s) = rowDatum .i64 v zs→(Instr.lookup 93 (.map (some mb)) (.int .i64 s) false).run Tryz.prog W = .ok v W→∃ (A:Option Addr) (c:Nat),(Instr.lookup 93 (.map (some mb)) (.int .i64 s) false).run Tryz.prog W = .ok (.slice A (f s).length c) W∧(f s).length ≤ c∧c ≤ 9223372036854775807 ∧
   ∀ j x,(f s)[j]? = some x→∃ g,A = some ⟨g,0,none⟩∧g < w.heap.size∧w.cell? ⟨g,j,none⟩ = some (.int .i64 x):=by
  intro v zs ho hd hrun
  obtain rfl:=dat_eq ho hd
  rcases ho.1.2 with ⟨hv,h0⟩ | ⟨g,cap,cur,hv,h1,hh,h3,h4,h5,h6⟩
  ·subst hv
   rw [← h0] at hrun
   exact ⟨none,_,hrun,by rw [h0];exact Nat.le_refl _,by omega,fun j x hx=>by rw [List.length_eq_zero_iff.1 h0] at hx;simp at hx⟩
  ·subst hv
   unfold maxLen at h4
   refine ⟨_,cap,hrun,h3,by omega,fun j x hx=>⟨g,rfl,(Array.getElem?_eq_some_iff.1 hh).1,?_⟩⟩
   have:=ho.1.cells (g:=g) rfl j (.int .i64 x) (by rw [List.getElem?_map,hx];rfl)
   rwa [show (⟨g,0,none⟩:Addr).add j = ⟨g,j,none⟩ by unfold Addr.add;split <;> simp_all] at this
 have hk:keyOf Tryz.prog 3 (.int .i64 s) = some (.int .i64 s):=keyOf_int_mk Tryz.underlying3 (wf_of_I64 hs)
 rcases Go.Maps.fit_look false mapIK Tryz.underlying93 (zero_ints _) hbW F hk with ⟨hrun,_,hat⟩ | ⟨e0,y,hm0,h3,hrun,hR,hat,_⟩
 ·exact key _ [] (World.ownsInts_nil _ _ _ _) ((hf s).symm.trans (hat _)) hrun
 ·obtain ⟨zs,ho,rfl⟩:=rowElem_inv hR
  exact key _ zs ho ((hf s).symm.trans (hat _)) hrun
structure BhI (w:World) (p:PlanD) (a j sb:Nat) (V:List Nat) (v:Value) (W:World):Prop where
 below:Below w.heap.size w W
 seen:∃ ws,W.heap[sb]? = some (.cells (u64s ws).toArray 115 (0,0))∧ws.length = p.graph.nodes.length / 64 + 1∧W64 ws∧∀ i,bitAt ws i = decide (i ∈ V)
 todo:QRow W w.heap.size v (((a :: V).drop j).map fun (x:Nat)=>(x:Int))
 ge:w.heap.size ≤ sb
 lt:∀ x ∈ a :: V,x < p.graph.nodes.length
section
variable {w W W':World} {p:PlanD} {a j sb:Nat} {V:List Nat} {v:Value}
theorem BhI.next (h:BhI w p a j sb V v W) (hb:Below W.heap.size W W'):BhI w p a j sb V v W':=by
 obtain ⟨ws,h1,h2⟩:=h.seen
 exact ⟨h.below.trans (hb.mono h.below.size),⟨ws,(hb.block _ (Array.getElem?_eq_some_iff.1 h1).1).trans h1,h2⟩,h.todo.below hb,h.ge,h.lt⟩
theorem BhI.visit (h:BhI w p a j sb V v W) {y:Nat} (hy:y < p.graph.nodes.length) (hj:j ≤ V.length + 1) {ws:List Nat} (hws:W.heap[sb]? = some (.cells (u64s ws).toArray 115 (0,0))) (hl:ws.length = p.graph.nodes.length / 64 + 1) (h64:W64 ws) (hbt:∀ i,bitAt ws i = decide (i ∈ V))
  {W1 W2:World} {v':Value} {ob:Obj} (h1:W1.heap[sb]? = some (.cells (u64s (setW ws y)).toArray 115 (0,0))) (hg:W.grownBy W1 (some sb)) (hq:QRow W2 w.heap.size v' (((a :: V).drop j).map (fun (x:Nat)=>(x:Int))++[(y:Int)])) (hg2:(W1.alloc ob).grownBy W2 v.ownBlock):BhI w p a j sb (V++[y]) v' W2:=by
 have hsb:=(Array.getElem?_eq_some_iff.1 hws).1
 have hsb1:=(Array.getElem?_eq_some_iff.1 h1).1
 have hsz:=h.below.size
 have hb1:Below w.heap.size w W1:=h.below.grown hg hsz (fun b e=>by injection e with e;subst e;exact h.ge)
 have hb2:Below w.heap.size w W2:=(hb1.alloc hb1.size ob).grown hg2 (by rw [World.size_alloc];have:=hb1.size;omega) (fun b e=>(h.todo.ge e).1)
 refine ⟨hb2,⟨setW ws y,?_,by rw [setW_len];exact hl,setW_64 h64 y,fun i=>?_⟩,?_,h.ge,fun x hx=>?_⟩
 ·exact (hg2.block sb (by rw [World.size_alloc];omega) (fun e=>h.todo.ne hws (by decide) e.symm)).trans ((Below.heap_alloc _ _ _ hsb1).trans h1)
 ·rw [bitAt_set (by rw [hl];have:=Nat.div_le_div_right (c:=64) (Nat.le_of_lt hy);omega),hbt]
  simp [Bool.decide_or]
 ·rw [← List.cons_append,List.drop_append_of_le_length (by simpa using hj),List.map_append]
  exact hq
 ·rw [← List.cons_append] at hx
  rcases List.mem_append.1 hx with h2 | h2
  ·exact h.lt x h2
  ·rw [List.mem_singleton] at h2;rw [h2];exact hy
theorem BhI.flow {n fb:Nat} (h:BhI w p a j sb V v W) (hf:FlowI w n fb p w):FlowI w n fb p W:=hf.next h.below
end
set_option maxRecDepth 100000 in
set_option maxHeartbeats 8000000 in
theorem behind_any (n fb a:Nat) (p:PlanD) (w w0:World) (hf:FlowI w0 n fb p w) (ha:a < p.graph.nodes.length) (hs1:p.graph.nodes.length ≤ 1048576) :
  Calls Tryz.prog 59 #[.pointer (some ⟨fb,0,none⟩),.int .i64 a] w fun e w'=>∃ (sb:Nat) (ws:List Nat),e = .returned (.slice (some ⟨sb,0,none⟩) (p.graph.nodes.length / 64 + 1) (p.graph.nodes.length / 64 + 1))∧w'.heap[sb]? = some (.cells (u64s ws).toArray 115 (0,0))∧ws.length = p.graph.nodes.length / 64 + 1∧W64 ws∧(∀ i:Nat,bitAt ws i = true ↔ Behind p a i)∧Below w.heap.size w w':=by
 obtain ⟨cs,mb,k,hbox,hr,hm,hk,hn⟩:=hf.ex
 have hcl:cs.length = 7:=Rep.len hr
 obtain ⟨A1,k1,A2,k2,A3,k3,A4,k4,A5,k5,A6,k6,A7,k7,hcs,-,r2,-⟩:=open_PlanD hr
 obtain ⟨n2,n2'⟩:=slice_bnd r2
 have hb1:(cs++[Value.map (some mb)])[1]? = some (.slice A2 p.graph.nodes.length k2):=by rw [hcs];rfl
 have hb7:(cs++[Value.map (some mb)])[7]? = some (.map (some mb)):=by rw [hcs];rfl
 have HF:=Lib.hid (And.intro hbox (And.intro hm (And.intro hk (And.intro r2 (And.intro hb1 hb7)))))
 have HN:=Lib.hid hn
 clear hbox hr hm hk hn hcl hcs r2 hf hb1 hb7
 obtain ⟨i0,hi0,hz0,hz1,hz2⟩:=info_parts info_int1
 have c1:=cell_row HF.out.1 HF.out.2.2.2.2.1
 go_enter Tryz.func59,Tryz.ntmps59
 go_wp2_with fail
 go_step3
 go_wp2_with fail
 refine (rowOf_any p.graph.nodes.length w hs1).mono ?_
 rintro e w1 ⟨rfl,hw1⟩
 have hrep:(u64s (List.replicate (p.graph.nodes.length / 64 + 1) 0)).toArray = ((List.replicate (p.graph.nodes.length / 64 + 1) 0).map fun x:Nat=>Value.int .u64 (x:Int)).toArray:=rfl
 have hI:w1.heap.size = w.heap.size + 1∧BhI w p a 0 w.heap.size [] (.slice (some ⟨w1.heap.size,0,none⟩) 1 1) (w1.alloc (.cells #[.int .i64 (a:Int)] 3)):=by
  have e1:=heap_alloc_new w (.cells (u64s (List.replicate (p.graph.nodes.length / 64 + 1) 0)).toArray 115)
  have e0:w1 = w.alloc (.cells (u64s (List.replicate (p.graph.nodes.length / 64 + 1) 0)).toArray 115):=hw1
  subst e0
  refine ⟨World.size_alloc _ _,((Below.refl _ _).alloc (Nat.le_refl _) _).alloc (by rw [World.size_alloc];omega) _,⟨List.replicate (p.graph.nodes.length / 64 + 1) 0,?_,List.length_replicate ..,fun x hx=>by rw [(List.mem_replicate.1 hx).2];decide,fun i=>by rw [bitAt_zero];simp⟩,?_,Nat.le_refl _,by simpa using ha⟩
  ·exact (Below.heap_alloc _ _ _ (by rw [World.size_alloc];omega)).trans e1
  ·exact qrow_one _ (base:=w.heap.size) (by rw [World.size_alloc];omega) (a:Int) (by unfold I64;omega)
 have HW1:=Lib.hid hI.1
 replace hI:=hI.2
 clear hw1 hrep
 have HI:=Lib.hid hI
 clear hI c1
 go_wp2_with fail
 go_step3
 generalize World.alloc _ _ = W1 at HI ⊢
 have HFR:=Lib.hid (Front.start p a)
 go_wp2_with fail
 go_loopg [6] (p.graph.nodes.length + 2) (fun gk v wr=>∃ (V:List Nat) (j:Nat),j + gk = p.graph.nodes.length + 2∧Front p a V j∧BhI w p a j w.heap.size V v wr)
 case atStart=>exact ⟨[],0,by omega,HFR.out,HI.out⟩
 case round =>
  obtain ⟨V,j,hg,hF,hB⟩:=hrel
  obtain ⟨wb,rfl⟩:∃ wb,wb = wr:=⟨_,rfl⟩
  have hjl:=hF.le
  have hVl:=hF.lt
  obtain ⟨gk,rfl⟩:∃ g,gk = g + 1:=⟨gk - 1,by omega⟩
  have HV:=Lib.hid hF
  have HB:=Lib.hid hB
  clear hF hB HI HFR
  by_cases hend:j = V.length + 1
  ·have hd:(a :: V).drop j = []:=List.drop_eq_nil_of_le (by simp;omega)
   obtain ⟨g,off,cap,cur,hv,h1,h2,h3,h4,h5,h6⟩:=HB.out.todo
   rw [hd] at hv
   simp only [List.map_nil,List.length_nil] at hv
   subst hv
   have HE:=Lib.hid hend
   clear h1 h2 h3 h5 h6 hd hend
   go_wp2
   rw [Exit.noGoto_ret]
   go_ret
   obtain ⟨ws,s1,s2,s3,s4⟩:=HB.out.seen
   refine ⟨_,ws,rfl,s1,s2,s3,fun i=>?_,HB.out.below⟩
   rw [s4,decide_eq_true_eq]
   have:=HV.out
   rw [HE.out] at this
   exact this.all i
  ·obtain ⟨x,rest,hd⟩:∃ x rest,(a :: V).drop j = x :: rest:=by
    cases hq:(a :: V).drop j with
    | nil=>have:=congrArg List.length hq;simp at this;omega
    | cons x rest=>exact ⟨x,rest,rfl⟩
   have hx0:(a :: V)[j]? = some x:=by
    have:=List.getElem?_drop (xs:=a :: V) (i:=j) (j:=0)
    rw [hd] at this
    exact this.symm
   have hxN:=HB.out.lt x (List.mem_of_getElem? hx0)
   have HJV:=Lib.hid (show j ≤ V.length by omega)
   have hrest:(a :: V).drop (j + 1) = rest:=by rw [← List.tail_drop,hd];rfl
   have htd:=HB.out.todo
   rw [hd] at htd
   obtain ⟨g,off,cap,rfl,hc1,hc2,-,hcell,htail⟩:=QRow.head (x:=(x:Int)) (l:=rest.map fun (x:Nat)=>(x:Int)) htd
   obtain ⟨q,hq⟩:∃ q,q = (if cap - 1 = 0 then 0 else 1):=⟨_,rfl⟩
   have htl:=htail q hq
   obtain ⟨ws,s1,s2⟩:=HB.out.seen
   have HT:Hid (BhI w p a (j + 1) w.heap.size V (.slice (some ⟨g,off + q,none⟩) (rest.map fun (x:Nat)=>(x:Int)).length (cap - 1)) wb):=Lib.hid ⟨HB.out.below,⟨ws,s1,s2⟩,by rw [hrest];exact htl,HB.out.ge,HB.out.lt⟩
   have HX:=Lib.hid (And.intro hx0 hq)
   obtain ⟨rl,hrl⟩:∃ rl,(rest.map fun (x:Nat)=>(x:Int)).length = rl:=⟨_,rfl⟩
   rw [hrl] at hc1 HT ⊢
   clear htd htail htl s1 s2 hd hx0 hq hrest hrl
   obtain ⟨z,hz⟩:∃ z,p.graph.nodes[x]? = some z:=⟨_,List.getElem?_eq_getElem hxN⟩
   obtain ⟨A',c',xs,hv,-,-,-,hl,hch⟩:=open_slice HF.out.2.2.2.1
   injection hv with hva hvb hvc
   subst hva
   obtain ⟨b,o,zc,rfl,hbB,hrz,hzcell⟩:=elem_at hl hch (by decide) hz
   obtain ⟨ss,I1,i1,O1,o1,-,-,z38,-,-,-,zo,-⟩:=gnode_facts hrz
   obtain ⟨no1,no2⟩:=slice_bnd zo
   have hbw:b < w.heap.size:=Nat.lt_of_lt_of_le hbB HN.out
   have c38:wb.cell? ⟨b,o + x * 40 + 38,none⟩ = some (.slice O1 z.outs.length o1):=(HB.out.below.cell (p:=⟨b,o + x * 40 + 38,none⟩) hbw).trans (by have:=(hzcell 38 _ z38).1;rwa [← Nat.add_assoc] at this)
   have c1:wb.cell? ⟨fb,1,none⟩ = some (.slice (some ⟨b,o,none⟩) p.graph.nodes.length k2):=(HB.out.below.cell (p:=⟨fb,1,none⟩) (Array.getElem?_eq_some_iff.1 HF.out.1).1).trans (cell_row HF.out.1 HF.out.2.2.2.2.1)
   have hgo:gOuts p.graph x = z.outs:=by unfold gOuts;rw [hz];rfl
   have HZ:=Lib.hid (And.intro zo hgo)
   have hk4:¬ ((rl + 1:Nat):Int) = 0:=by omega
   have hk5:(0:Int) < ((rl + 1:Nat):Int):=by omega
   have hk6:(0:Int) ≤ (x:Int):=Int.natCast_nonneg _
   have hk7:(x:Int) < (p.graph.nodes.length:Int):=by omega
   clear hz hl hch hvb hvc hrz hzcell z38 zo hgo hbB hend hbw
   go_wp2_with (with_reducible refine wpList_tail (by kernel_rfl) _ _ rfl g off (rl + 1) cap q (by kernel_rfl) (by kernel_rfl) (Nat.le_add_left _ _) hc1 HX.out.2 ?_)
   obtain ⟨A',c',os,hv,-,-,-,hl,hch⟩:=open_slice HZ.out.1
   injection hv with hva hvb hvc
   subst hva
   have HO:=Lib.hid (And.intro hl hch)
   clear hl hch hvb hvc c1 c38
   go_loopw [41,6] (fun i v wr=>∃ (pre post:List Int) (V2:List Nat),z.outs = pre++post∧i = .int .i64 pre.length∧V2 = visit V (pre.flatMap (usersD p))∧BhI w p a (j + 1) w.heap.size V2 v wr) (fun i _ _=>z.outs.length - (intOf i).toNat)
   case atStart=>exact ⟨[],z.outs,V,rfl,rfl,rfl,HT.out⟩
   case round =>
    obtain ⟨pre,post,V2,hpp,rfl,hV2,hB2⟩:=hrel
    obtain ⟨wx,rfl⟩:∃ wx,wx = wr:=⟨_,rfl⟩
    have H2:=Lib.hid (And.intro hV2 hB2)
    clear hV2 hB2 HT
    cases post with
    | cons kk post =>
     obtain ⟨hz,hlt2,hpp',hpl⟩:=split_at hpp
     obtain ⟨bo,oo,xc,rfl,hbo,⟨rfl,hk64⟩,hco⟩:=elem_at HO.out.1 HO.out.2 (by decide) hz
     have k4':wx.cell? ⟨bo,oo + pre.length,none⟩ = some (.int .i64 kk):=(H2.out.2.below.cell (p:=⟨bo,oo + pre.length,none⟩) (Nat.lt_of_lt_of_le hbo HN.out)).trans (cell_of_elem (α:=Int) rfl hco rfl)
     have c7:wx.cell? ⟨fb,7,none⟩ = some (.map (some mb)):=(H2.out.2.below.cell (p:=⟨fb,7,none⟩) (Array.getElem?_eq_some_iff.1 HF.out.1).1).trans (cell_row HF.out.1 HF.out.2.2.2.2.2)
     obtain ⟨U,cu,hlk,hu1,hu2,hu3⟩:=HF.out.2.1.look H2.out.2.below kk hk64
     rw [List.length_map] at hlk hu1
     have HP:=Lib.hid (And.intro hpp' hpl)
     have HU:=Lib.hid hu3
     have hk8:(0:Int) ≤ (pre.length:Int):=Int.natCast_nonneg _
     have hk9:(pre.length:Int) < (z.outs.length:Int):=by omega
     obtain ⟨un,hun⟩:∃ un,(usersD p kk).length = un:=⟨_,rfl⟩
     rw [hun] at hlk hu1
     have HUN:=Lib.hid hun
     clear hpp hpp' hpl hz hco hbo hu3 hun
     go_wp2_with fail
     clear hlk c7 k4'
     go_loopw [52,6] (fun i v wr=>∃ (c:Nat) (V3:List Nat),i = .int .i64 c∧c ≤ un∧V3 = visit V2 ((usersD p kk).take c)∧BhI w p a (j + 1) w.heap.size V3 v wr) (fun i _ _=>un - (intOf i).toNat)
     case atStart=>exact ⟨0,V2,rfl,Nat.zero_le _,rfl,H2.out.2⟩
     case round =>
      obtain ⟨c,V3,rfl,hcu,hV3,hB3⟩:=hrel
      obtain ⟨wy,rfl⟩:∃ wy,wy = wr:=⟨_,rfl⟩
      have H3:=Lib.hid (And.intro hV3 hB3)
      clear hV3 hB3
      by_cases hlt3:c < un
      ·obtain ⟨y,hy⟩:∃ y,(usersD p kk)[c]? = some y:=⟨_,List.getElem?_eq_getElem (by have:=HUN.out;omega)⟩
       obtain ⟨gu,rfl,hgu,hcg⟩:=HU.out c (y:Int) (by rw [List.getElem?_map,hy];rfl)
       have hyN:y < p.graph.nodes.length:=by
        have h1:=usersD_mem.1 (List.mem_of_getElem? hy)
        obtain ⟨n,hn,_⟩:=gIns_mem h1.2
        exact (List.getElem?_eq_some_iff.1 hn).1
       have k5:wy.cell? ⟨gu,c,none⟩ = some (.int .i64 (y:Int)):=(H3.out.2.below.cell (p:=⟨gu,c,none⟩) hgu).trans hcg
       obtain ⟨ws,s1,s2,s3,s4⟩:=H3.out.2.seen
       have hyw:y / 64 < ws.length:=by rw [s2];have:=Nat.div_le_div_right (c:=64) (Nat.le_of_lt hyN);omega
       have hcall:=bhas_any ws w.heap.size (p.graph.nodes.length / 64 + 1) y wy 115 s1 hyw (by omega) s3
       rw [s2,s4 y] at hcall
       have HS:=Lib.hid (And.intro s1 (And.intro s2 (And.intro s3 (And.intro s4 hyw))))
       have HC:=Lib.hid hcall
       have HY:=Lib.hid hy
       have hk10:(0:Int) ≤ (c:Int):=Int.natCast_nonneg _
       have hk11:(c:Int) < (un:Int):=by omega
       clear s1 s2 s3 s4 hyw hcall hy hcg
       go_wp2_with fail
       refine HC.out.mono ?_
       rintro e w5 ⟨rfl,rfl⟩
       clear k5
       by_cases hin:y ∈ V3
       ·rw [decide_eq_true hin]
        have HIN:=Lib.hid hin
        clear hin
        go_wp2
        go_roundw
        case rel=>exact ⟨c + 1,V3,by go_num,by omega,by rw [List.take_add_one,HY.out,Option.toList_some,visit_snoc,← H3.out.1,if_pos HIN.out],H3.out.2⟩
        case measure=>simp [intOf];omega
       ·rw [decide_eq_false hin]
        have HIN:=Lib.hid hin
        clear hin
        have hset:=bset_any ws w.heap.size (p.graph.nodes.length / 64 + 1) y w5 115 HS.out.1 HS.out.2.2.2.2 (by omega) HS.out.2.2.1
        rw [HS.out.2.1] at hset
        have HSET:=Lib.hid hset
        clear hset
        go_wp2_with fail
        refine HSET.out.mono ?_
        rintro e w6 ⟨⟨u,rfl⟩,h1,hg1⟩
        have HW6:=Lib.hid (And.intro h1 hg1)
        clear h1 hg1
        have hq6:QRow (w6.alloc (.cells #[.int .i64 (y:Int)] 3)) w.heap.size _ _:=(H3.out.2.todo.kept HW6.out.2 (H3.out.2.todo.ne HS.out.1 (by decide))).below ((Below.refl _ _).alloc (Nat.le_refl _) _)
        have hb6:w.heap.size ≤ w6.heap.size:=Nat.le_trans H3.out.2.below.size HW6.out.2.size
        have HQ6:=Lib.hid (And.intro hq6 hb6)
        clear hq6 hb6
        go_wp2_with (at_builtin;refine wpList_push rfl _ _ rfl rfl HQ6.out.1 ?c1 (y:=(y:Int)) (by unfold I64;omega) rfl (heap_alloc_new _ _) ?c2 ?_)
        case c1=>rw [World.size_alloc];have:=HQ6.out.2;omega
        case c2 =>
         have hn3:V3.Nodup:=by rw [H3.out.1,H2.out.1];exact visit_nodup _ _ (visit_nodup _ _ HV.out.nodup)
         have hl3:V3.length ≤ p.graph.nodes.length:=nodup_le hn3 fun x hx=>H3.out.2.lt x (List.mem_cons_of_mem _ hx)
         rw [List.length_map,List.length_drop,List.length_cons]
         omega
        intro v' w8 hq8 hg8
        have hv3:V.length ≤ V3.length:=by
         obtain ⟨r1,e1⟩:=visit_pre (pre.flatMap (usersD p)) V
         obtain ⟨r2,e2⟩:=visit_pre ((usersD p kk).take c) V2
         rw [H3.out.1,e2,H2.out.1,e1,List.length_append,List.length_append]
         omega
        have HB8:=Lib.hid (H3.out.2.visit hyN (by have:=HJV.out;omega) HS.out.1 HS.out.2.1 HS.out.2.2.1 HS.out.2.2.2.1 HW6.out.1 HW6.out.2 (by rw [List.drop_succ_cons,List.map_drop];exact hq8) hg8)
        clear hq8 hg8 hv3
        go_wp2
        go_roundw
        case rel=>exact ⟨c + 1,V3++[y],by go_num,by omega,by rw [List.take_add_one,HY.out,Option.toList_some,visit_snoc,← H3.out.1,if_neg HIN.out],HB8.out⟩
        case measure=>simp [intOf];omega
      ·have hlt4:¬ (c:Int) < (un:Int):=by omega
       have hcu:c = un:=by omega
       have HCU:=Lib.hid hcu
       clear hcu hlt3
       go_wp2
       go_roundw
       case rel =>
        refine ⟨pre++[kk],post,V3,HP.out.1,by rw [HP.out.2];go_num,?_,H3.out.2⟩
        rw [H3.out.1,HCU.out,← HUN.out,List.take_length,List.flatMap_append,visit_append,← H2.out.1]
        simp
       case measure=>simp [intOf];omega
    | nil =>
     obtain ⟨hge,hpl⟩:=split_end hpp
     have HE:=Lib.hid (show z.outs = pre by rw [hpp,List.append_nil])
     clear hpp hpl
     go_wp2
     go_roundg gk
     case measure=>omega
     case rel =>
      refine ⟨V2,j + 1,by omega,?_,H2.out.2⟩
      have h1:=HV.out.next HX.out.1
      unfold nextD at h1
      rw [HZ.out.2,HE.out,← H2.out.1] at h1
      exact h1
end Go.Proofs.YtoeaglpmkjoenaaGreat
set_option linter.unusedSimpArgs false
set_option linter.unusedVariables false
namespace Go.Proofs.YtoeaglpmkjoenaaGreat
open Go.RowKit
open Rep (rep)
def BeforeD (p:PlanD) (x y:Int):Prop:=∃ i j:Nat,x = (i:Int)∧y = (j:Int)∧i < p.graph.nodes.length∧j < p.graph.nodes.length∧liveAt p i∧liveAt p j∧Behind p i j
def BefB (p:PlanD) (x y:Int) (b:Bool):Prop:=b = true ↔ BeforeD p x y
theorem befB_no {p:PlanD} {x y:Int} (h:¬ BeforeD p x y):BefB p x y false:=⟨fun e=>(by cases e),fun e=>absurd e h⟩
structure PlanB (p:PlanD):Prop where
 nodes:p.graph.nodes.length ≤ 1048576
 ins:∀ n ∈ p.graph.nodes,n.ins.length ≤ 1048576
end Go.Proofs.YtoeaglpmkjoenaaGreat
