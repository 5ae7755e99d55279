/-
  Chapter 09: graph.Build of any model: its graph, or what is wrong and where.
-/
import Derived.Test.YtgbkhcmbmffljaaDoorPGOrder
import Derived.Test.YtgbkhcmbmffljaaDoorPResolve
import Derived.Test.YtgbkhcmbmffljaaDoorPGSound
set_option linter.unusedSimpArgs false
set_option linter.unusedVariables false
namespace Go.Proofs.YtgbkhcmbmffljaaDoor
open Go.RowKit
open Rep (rep)
theorem results_ctt {P:Program} {fn:Func} {p q r:Tmp} {ty:TypeId} (h:fn.results = #[.cell p ty,.tmp q,.tmp r]) (tmps:Array Value) (w:World) (g:Nat) (t:TypeId) (cs:Array Value) (fr:Nat × Nat) (d:TypeDesc) (v1 v2:Value)
  (hq:tmps.getD q undef = v1) (hr:tmps.getD r undef = v2) (hp:tmps.getD p undef = .pointer (some ⟨g,0,none⟩)) (hg:w.heap[g]? = some (.cells cs t fr))
  (hu:P.underlying ty = some d) (hd:(match d with | .struct _ | .array _ _=>true | _=>false) = true) (hi:(P.info? ty).map (·.size) = some cs.size) :
  (results fn tmps).run P w = .ok (.tuple #[.agg cs,v1,v2]) w:=by
 have hp':tmps[p]?.getD undef = .pointer (some ⟨g,0,none⟩):=by simpa using hp
 have hq':tmps[q]?.getD undef = v1:=by simpa using hq
 have hr':tmps[r]?.getD undef = v2:=by simpa using hr
 simp [results,h,hp',hq',hr',asAddr,run_loadVar_row w g t ty cs fr d hg hu hd hi]
set_option maxRecDepth 100000 in
set_option maxHeartbeats 800000 in
theorem run_node (op src:Int) (ss:List Value) (hl:ss.length = 36) (w:World):(Instr.build 68 #[(0,.int .i64 op),(1,.agg ss.toArray),(4,.int .i64 src)]).run Tryd.prog w = .ok (.agg (([.int .i64 op]++(ss++[.slice none 0 0,.slice none 0 0,.int .i64 src]):List Value)).toArray) w:=by
 match ss,hl with
 | a0 :: a1 :: a2 :: a3 :: a4 :: a5 :: a6 :: a7 :: a8 :: a9 :: a10 :: a11 :: a12 :: a13 :: a14 :: a15 :: a16 :: a17 :: a18 :: a19 :: a20 :: a21 :: a22 :: a23 :: a24 :: a25 :: a26 :: a27 :: a28 :: a29 :: a30 :: a31 :: a32 :: a33 :: a34 :: a35 :: [],_=>(show _ = _;kernel_rfl)
theorem yields_node {ops:Array Oper} {S:World→Prop} {o:Oper} {a:Act} (hw:Region.wanted o (yielded ops a.tmps) = true) (x y z:Operand) (ho:o.op = .build 68 #[(0,x),(1,y),(4,z)]) (op src:Int) (ss:List Value) (hl:ss.length = 36) (hx:a.eval x = .int .i64 op) (hy:a.eval y = .agg ss.toArray) (hz:a.eval z = .int .i64 src) :
  YieldsIf Tryd.prog ops S o (.agg (([.int .i64 op]++(ss++[.slice none 0 0,.slice none 0 0,.int .i64 src]):List Value)).toArray) a :=
 .inl ⟨hw,fun w h=>by
  unfold execOp
  rw [ho]
  simp only [List.map_toArray,List.map_cons,List.map_nil,hx,hy,hz]
  have hr:=run_node op src ss hl w
  simp [Sem.run_bind,hr]⟩
section
variable {lo:Nat} {ban:List Nat} {g mp:Nat} {W0 W W':World} {rs0:List RowV} {ns:List ByteArray} {vals:List ValD} {ins outs:List Int} {gs:List GNodeD} {ps:List PartD}
theorem BSt.push_n (h:BSt lo ban g mp W0 rs0 ns vals ins outs gs ps W) {B:World} (hB:Below W.heap.size W B) {zc:List Value} {z:PartD} (hz:rep B (fresh W.heap.size B.heap.size) zc z):∃ (vn:Value) (xs cells:List Value),g < W.heap.size∧lo ≤ W.heap.size∧W.cell? ⟨g,5,none⟩ = some vn∧cells.length = 6∧B.ownsRow lo 68 40 vn ps.length xs ∧
  ∀ (W9:World) (v9:Value),W9.ownsRow lo 68 40 v9 (ps.length + 1) (xs++zc)→B.grownBy W9 vn.ownBlock→(v9.ownBlock = vn.ownBlock ∨ v9.ownBlock = some B.heap.size) →
   W9.heap[g]? = some (.cells cells.toArray 108 (0,0))∧v9.oneCell' = true∧(∀ b,W.heap.size ≤ b→b < B.heap.size→W9.heap[b]? = B.heap[b]?∧b ≠ g)∧BSt lo ban g mp W0 rs0 ns vals ins outs gs (ps++[z]) (W9.setRow g (cells.set 5 v9).toArray):=by
 obtain ⟨rV,rN,rI,rO,rn,h,hps⟩:=h
 obtain ⟨hg,hlo,-⟩:=h.heads
 obtain ⟨hn,m1⟩:=h.next hB
 have hown:=hn.st.rows.own 4 rn rfl
 rw [hps.e,hps.size,hps.n] at hown
 refine ⟨rn.v,rn.xs,[rV.v,rN.v,rI.v,rO.v,.map (some mp),rn.v],hg,hlo,h.st.cell (j:=5) rfl,rfl,hown,?_⟩
 intro W9 v9 ho hgr hb
 have ho':W9.ownsRow lo rn.e rn.size v9 (rn.n + 1) (rn.xs++zc):=by rw [hps.e,hps.size,hps.n];exact ho
 obtain ⟨b2,m2⟩:=hn.st.pushn hgr ho' (hb.imp id .inl)
 have hm:=m1.trans m2
 have d2:Data _ _ ⟨v9,rn.e,rn.size,rn.n + 1,rn.xs++zc⟩ 68 (ps++[z]):=((hps.move m1).snoc (v':=v9) (Rep.more hz (h.st.rows.new_cold hB (Nat.le_refl _)))).move m2
 have hk:=hn.st.kept (i:=4) (r:=rn) (r':=rn) rfl hgr
 refine ⟨hk.1,?_,fun b h1 h2=>⟨hgr.block b h2 (fun e=>(h.st.rows.new_block h1).2 4 rn rfl e.symm),fun e=>by subst e;omega⟩,rV,rN,rI,rO,⟨v9,rn.e,rn.size,rn.n + 1,rn.xs++zc⟩,⟨b2,h.mv.trans hm,h.vals.move hm,h.ins.move hm,h.outs.move hm,h.gs.move hm⟩,d2⟩
 obtain ⟨A,c,rfl,-⟩:=own_slice ho;rfl
theorem bst_start (W:World):∃ (rs:List RowV),BSt W.heap.size [W.heap.size + 1,W.heap.size] (W.heap.size + 1) W.heap.size ((W.alloc (.map #[] 0)).alloc (.cells ([.slice none 0 0,.slice none 0 0,.slice none 0 0,.slice none 0 0,.map (some W.heap.size),.slice none 0 0]:List Value).toArray 108)) rs [] [] [] [] [] [] ((W.alloc (.map #[] 0)).alloc (.cells ([.slice none 0 0,.slice none 0 0,.slice none 0 0,.slice none 0 0,.map (some W.heap.size),.slice none 0 0]:List Value).toArray 108)) ∧
  Rws W.heap.size [W.heap.size + 1,W.heap.size] rs ((W.alloc (.map #[] 0)).alloc (.cells ([.slice none 0 0,.slice none 0 0,.slice none 0 0,.slice none 0 0,.map (some W.heap.size),.slice none 0 0]:List Value).toArray 108))∧Below W.heap.size W ((W.alloc (.map #[] 0)).alloc (.cells ([.slice none 0 0,.slice none 0 0,.slice none 0 0,.slice none 0 0,.map (some W.heap.size),.slice none 0 0]:List Value).toArray 108))∧∀ b,Off rs b:=by
 have hbl:Below W.heap.size W ((W.alloc (.map #[] 0)).alloc (.cells ([.slice none 0 0,.slice none 0 0,.slice none 0 0,.slice none 0 0,.map (some W.heap.size),.slice none 0 0]:List Value).toArray 108)):=((Below.refl _ W).alloc (Nat.le_refl _) _).alloc (by simp) _
 have hmap:=(MapOf.made W).alloc (.cells ([.slice none 0 0,.slice none 0 0,.slice none 0 0,.slice none 0 0,.map (some W.heap.size),.slice none 0 0]:List Value).toArray 108)
 have hbox:=heap_alloc_new (W.alloc (.map #[] 0)) (.cells ([.slice none 0 0,.slice none 0 0,.slice none 0 0,.slice none 0 0,.map (some W.heap.size),.slice none 0 0]:List Value).toArray 108)
 rw [World.size_alloc] at hbox
 have hsz:((W.alloc (.map #[] 0)).alloc (.cells ([.slice none 0 0,.slice none 0 0,.slice none 0 0,.slice none 0 0,.map (some W.heap.size),.slice none 0 0]:List Value).toArray 108)).heap.size = W.heap.size + 2:=by rw [World.size_alloc,World.size_alloc]
 have hv:∀ (j:Nat) (r:RowV),([⟨.slice none 0 0,75,8,0,[]⟩,⟨.slice none 0 0,68,40,0,[]⟩,⟨.slice none 0 0,3,1,0,[]⟩,⟨.slice none 0 0,3,1,0,[]⟩,⟨.slice none 0 0,68,40,0,[]⟩]:List RowV)[j]? = some r→r.v = .slice none 0 0∧r.n = 0∧r.xs = []:=fun j r hj=>by
  match j,hj with
  | 0,hj=>injection hj with hj;subst hj;exact ⟨rfl,rfl,rfl⟩
  | 1,hj=>injection hj with hj;subst hj;exact ⟨rfl,rfl,rfl⟩
  | 2,hj=>injection hj with hj;subst hj;exact ⟨rfl,rfl,rfl⟩
  | 3,hj=>injection hj with hj;subst hj;exact ⟨rfl,rfl,rfl⟩
  | 4,hj=>injection hj with hj;subst hj;exact ⟨rfl,rfl,rfl⟩
 have hoff:∀ b,Off ([⟨.slice none 0 0,75,8,0,[]⟩,⟨.slice none 0 0,68,40,0,[]⟩,⟨.slice none 0 0,3,1,0,[]⟩,⟨.slice none 0 0,3,1,0,[]⟩,⟨.slice none 0 0,68,40,0,[]⟩]:List RowV) b:=fun b j r hj=>by rw [(hv j r hj).1];intro e;cases e
 generalize hW:(W.alloc (.map #[] 0)).alloc (.cells ([.slice none 0 0,.slice none 0 0,.slice none 0 0,.slice none 0 0,.map (some W.heap.size),.slice none 0 0]:List Value).toArray 108) = W4 at hbl hmap hbox hsz ⊢
 have hr:Rws W.heap.size [W.heap.size + 1,W.heap.size] ([⟨.slice none 0 0,75,8,0,[]⟩,⟨.slice none 0 0,68,40,0,[]⟩,⟨.slice none 0 0,3,1,0,[]⟩,⟨.slice none 0 0,3,1,0,[]⟩,⟨.slice none 0 0,68,40,0,[]⟩]:List RowV) W4:=by
  refine ⟨fun j r hj=>?_,fun b _=>hoff b,fun i j r s _ hi _ b hb=>?_,hbl.size,fun b hb=>?_⟩
  ·obtain ⟨h1,h2,h3⟩:=hv j r hj
   rw [h1,h2,h3]
   exact World.ownsRow_nil _ _ _ _
  ·rw [(hv i r hi).1] at hb;cases hb
  ·simp only [List.mem_cons,List.not_mem_nil,or_false] at hb
   rcases hb with rfl | rfl <;> omega
 refine ⟨_,⟨_,_,_,_,_,⟨⟨hr,hbox,?_,by simp,by simp,by omega⟩,hr.self,Data.nil (α:=ValD) _ _ _ _,Data.nil (α:=Int) _ _ _ _,Data.nil (α:=Int) _ _ _ _,Data.nil (α:=GNodeD) _ _ _ _⟩,Data.nil (α:=PartD) _ _ _ _⟩,hr,hbl,hoff⟩
 have e:(fun s=>placeD [] s + 1) = fun _:ByteArray=>(0:Int):=by funext s;rfl
 rw [e]
 exact hmap
end
def BuildPost (m:ModelD) (w:World) (e:Ending) (w':World):Prop:=∃ gcs:List Value,e = .returned (.tuple #[.agg gcs.toArray,.int .i64 (buildD m).2.1,.int .i64 (buildD m).2.2])∧rep w' (fresh w.heap.size w'.heap.size) gcs (buildD m).1∧Below w.heap.size w w'
theorem zero4_zero:(Tryd.prog.info? 63).bind (·.zero) = some (.agg ([.slice none 0 0,.slice none 0 0,.slice none 0 0,.slice none 0 0]:List Value).toArray):=by kernel_rfl
theorem rep_emptyG (W:World) (Z:Zone):rep W Z ([.slice none 0 0,.slice none 0 0,.slice none 0 0,.slice none 0 0]:List Value) emptyG:=shut_GraphD (a:=emptyG) (rep_nil W Z) (rep_nil W Z) (rep_nil W Z) (rep_nil W Z)
theorem build_bad {m:ModelD} {w W:World} {x i:Int} (h:buildD m = (emptyG,x,i)) (hb:Below w.heap.size w W) (cs:Array Value):BuildPost m w (.returned (.tuple #[.agg ([.slice none 0 0,.slice none 0 0,.slice none 0 0,.slice none 0 0]:List Value).toArray,.int .i64 x,.int .i64 i])) (W.setRow (w.heap.size + 1) cs):=by
 refine ⟨([.slice none 0 0,.slice none 0 0,.slice none 0 0,.slice none 0 0]:List Value),by rw [h],by rw [h];exact rep_emptyG _ _,below_setRow' hb (by omega) _⟩
theorem check_nz {m:ModelD} (h:¬ checkD m = 0):buildD m = (emptyG,checkD m,-1):=by unfold buildD;rw [if_pos h]
theorem build_wrong {m:ModelD} {e i:Int} (h:checkD m = 0) (h1:wrongAt 0 m.nodes = some (e,i)):buildD m = (emptyG,e,i):=by unfold buildD;rw [if_neg (by simp [h]),h1]
theorem build_name {m:ModelD} {i:Int} (h:checkD m = 0) (h1:wrongAt 0 m.nodes = none) (h2:firstBad [] (namesAt m) = some i):buildD m = (emptyG,13,i):=by unfold buildD;rw [if_neg (by simp [h]),h1];simp only [h2]
theorem build_lack {m:ModelD} {i:Int} (h:checkD m = 0) (h1:wrongAt 0 m.nodes = none) (h2:firstBad [] (namesAt m) = none) (h3:firstLack (namesM m) 0 m.nodes = some i):buildD m = (emptyG,13,i):=by unfold buildD;rw [if_neg (by simp [h]),h1];simp only [h2,h3]
theorem build_out {m:ModelD} (h:checkD m = 0) (h1:wrongAt 0 m.nodes = none) (h2:firstBad [] (namesAt m) = none) (h3:firstLack (namesM m) 0 m.nodes = none) (h4:lacksOut (namesM m) m = true):buildD m = (emptyG,13,-1):=by unfold buildD;rw [if_neg (by simp [h]),h1];simp only [h2,h3];rw [if_pos h4]
theorem build_cycle {m:ModelD} {z:GNodeD} {l:List GNodeD} (h:checkD m = 0) (h1:wrongAt 0 m.nodes = none) (h2:firstBad [] (namesAt m) = none) (h3:firstLack (namesM m) 0 m.nodes = none) (h4:lacksOut (namesM m) m = false) (h5:(orderM m).2 = z :: l):buildD m = (emptyG,12,z.source):=by unfold buildD;rw [if_neg (by simp [h]),h1];simp only [h2,h3];rw [if_neg (by simp [h4])];simp only [h5]
theorem build_fine {m:ModelD} (h:checkD m = 0) (h1:wrongAt 0 m.nodes = none) (h2:firstBad [] (namesAt m) = none) (h3:firstLack (namesM m) 0 m.nodes = none) (h4:lacksOut (namesM m) m = false) (h5:(orderM m).2 = []):buildD m = ({ startM m with nodes:=(orderM m).1 },0,0):=by unfold buildD;rw [if_neg (by simp [h]),h1];simp only [h2,h3];rw [if_neg (by simp [h4])];simp only [h5]
theorem resolve_I64 (n:NodeD):I64 (resolveD n).1:=by
 have h0:I64 0:=by unfold I64;decide
 have hn:=number_I64 n.op
 unfold resolveD
 repeat' split
 all_goals first | exact h0 | exact hn
theorem full_zero4 {cs:List Value} (hl:cs.length = 4):(([.slice none 0 0,.slice none 0 0,.slice none 0 0,.slice none 0 0]:List Value).take 0++cs++([.slice none 0 0,.slice none 0 0,.slice none 0 0,.slice none 0 0]:List Value).drop (0 + cs.length)).toArray = cs.toArray:=by
 rw [List.take_zero,List.nil_append,Nat.zero_add,List.drop_of_length_le (by rw [hl];decide),List.append_nil]
theorem outed_mem:∀ (k:Nat) (l:List NodeD) (r:List GNodeD),l.length = r.length→∀ n ∈ outedD k l r,∃ a ∈ l,∃ p,k ≤ p∧p + a.outs.length ≤ k + (l.flatMap (·.outs)).length∧n.outs = seqI p a.outs.length
 | _,[],[],_,n,hn=>by cases hn
 | k,a :: l,b :: r,h,n,hn=>by
  rcases List.mem_cons.1 (show n ∈ { b with outs:=seqI k a.outs.length } :: outedD (k + a.outs.length) l r from hn) with rfl | hn
  ·exact ⟨a,by simp,k,Nat.le_refl _,by rw [List.flatMap_cons,List.length_append];omega,rfl⟩
  ·obtain ⟨c,hc,p,h1,h2,h3⟩:=outed_mem (k + a.outs.length) l r (by simpa using h) n hn
   exact ⟨c,by simp [hc],p,by omega,by rw [List.flatMap_cons,List.length_append];omega,h3⟩
 | _,[],_ :: _,h,_,_=>by cases h
 | _,_ :: _,[],h,_,_=>by cases h
theorem ined_mem (N:List ByteArray):∀ (l:List NodeD) (r:List GNodeD),l.length = r.length→∀ n ∈ inedD N l r,∃ a ∈ l,∃ b ∈ r,n.ins = a.ins.map (placeD N)∧n.outs = b.outs
 | [],[],_,n,hn=>by cases hn
 | a :: l,b :: r,h,n,hn=>by
  rcases List.mem_cons.1 (show n ∈ { b with ins:=a.ins.map (placeD N) } :: inedD N l r from hn) with rfl | hn
  ·exact ⟨a,by simp,b,by simp,rfl,rfl⟩
  ·obtain ⟨c,hc,d,hd,h1,h2⟩:=ined_mem N l r (by simpa using h) n hn
   exact ⟨c,by simp [hc],d,by simp [hd],h1,h2⟩
 | [],_ :: _,h,_,_=>by cases h
 | _ :: _,[],h,_,_=>by cases h
theorem names_small {m:ModelD} (hs:SmallM m):(namesM m).length ≤ 1048576∧(m.nodes.flatMap (·.outs)).length ≤ 65536:=by
 have h1:∀ (l:List NodeD),(∀ n ∈ l,n.outs.length ≤ 64)→(l.flatMap (·.outs)).length ≤ l.length * 64:=fun l=>by
  induction l with
  | nil=>intro _;exact Nat.le_refl _
  | cons a l ih =>
   intro h
   rw [List.flatMap_cons,List.length_append,List.length_cons]
   have:=ih fun n hn=>h n (by simp [hn])
   have:=h a (by simp)
   omega
 have h2:=h1 m.nodes hs.outs
 have:=hs.nodes
 have:=hs.inits
 have:=hs.inputs
 refine ⟨?_,by omega⟩
 unfold namesM
 simp only [List.length_append,List.length_map]
 omega
theorem fit_nodes {m:ModelD} (hs:SmallM m):∀ n ∈ gnodesM m,FitN (valsM m).length n:=by
 intro n hn
 have hv:=vals_len m
 obtain ⟨a,ha,b,hb,h1,h2⟩:=ined_mem _ _ _ (by rw [outed_len _ _ _ (bares_len _ _).symm]) n hn
 obtain ⟨c,hc,p,h3,h4,h5⟩:=outed_mem _ _ _ (bares_len _ _).symm b hb
 have hN:(namesM m).length = m.inits.length + m.inputs.length + (m.nodes.flatMap (·.outs)).length:=by unfold namesM;simp [Nat.add_assoc]
 refine ⟨fun x hx=>?_,fun x hx=>?_,?_,?_⟩
 ·rw [h1] at hx
  obtain ⟨s,-,rfl⟩:=List.mem_map.1 hx
  have:=place_bd (namesM m) s
  rw [hv];omega
 ·rw [h2,h5] at hx
  have:=seqI_mem.1 hx
  rw [hv,hN];omega
 ·rw [h1,List.length_map];have:=hs.ins a ha;omega
 ·rw [h2,h5,seqI_len];have:=hs.outs c hc;omega
set_option maxRecDepth 100000 in
set_option maxHeartbeats 32000000 in
theorem build_any (mcs:List Value) (m:ModelD) (w:World) (ht:Tab w) (hr:rep w (old w.heap.size) mcs m) :
  Calls Tryd.prog 24 #[.agg mcs.toArray] w (BuildPost m w):=by
 have hr':=hr
 obtain ⟨A1,k1,A2,k2,A3,k3,A4,k4,rfl,-,-,r1,-,-,-⟩:=open_ModelD hr
 obtain ⟨n1,n1'⟩:=slice_bnd r1
 have HT:=Lib.hid (And.intro ht (And.intro hr' r1))
 obtain ⟨i0,hi0,hz0,hz1,hz2⟩:=info_parts gnInfo
 have HZ:=Lib.hid (And.intro hi0 (And.intro hz0 (And.intro hz1 hz2)))
 clear hr hr' r1 ht hi0 hz0 hz1 hz2
 go_enter Tryd.func24,Tryd.ntmps24
 go_wp2_with (first
  |(with_reducible refine wpList_box_row rfl 59 _ rfl ([.int .i64 m.opset,.string m.name,.slice A1 m.nodes.length k1,.slice A2 m.inits.length k2,.slice A3 m.inputs.length k3,.slice A4 m.outputs.length k4]:List Value) rfl ?_)
  |(with_reducible refine wpList_alloc_row rfl 63 rfl ([.slice none 0 0,.slice none 0 0,.slice none 0 0,.slice none 0 0]:List Value) zero4_zero ?_;have hX:=pair_start w 59 63 ([.int .i64 m.opset,.string m.name,.slice A1 m.nodes.length k1,.slice A2 m.inits.length k2,.slice A3 m.inputs.length k3,.slice A4 m.outputs.length k4]:List Value) ([.slice none 0 0,.slice none 0 0,.slice none 0 0,.slice none 0 0]:List Value);generalize World.alloc _ (.cells ([.slice none 0 0,.slice none 0 0,.slice none 0 0,.slice none 0 0]:List Value).toArray _) = W0 at hX ⊢;have HX:=Lib.hid hX;clear hX;refine halt ?_))
 unfold Halt
 go_wp2_with (with_reducible refine wpList_load_agg rfl 59 _ rfl _ w.heap.size 0 rfl ([.int .i64 m.opset,.string m.name,.slice A1 m.nodes.length k1,.slice A2 m.inits.length k2,.slice A3 m.inputs.length k3,.slice A4 m.outputs.length k4]:List Value) Tryd.underlying59 rfl (by kernel_rfl) (At.of_row HX.out.src) ?_)
 refine (check_any _ m W0 (HX.out.keeps HT.out.2.1)).mono ?_
 rintro e w1 ⟨rfl,hb⟩
 have HX1:=Lib.hid (HX.out.next hb)
 clear hb HX
 obtain ⟨ck,hck⟩:∃ ck,checkD m = ck:=⟨_,rfl⟩
 rw [hck]
 have HCK:=Lib.hid hck
 clear hck
 by_cases hc0:ck = 0
 ·subst hc0
  have hs:SmallM m:=small_of_check HCK.out
  have HS:=Lib.hid hs
  clear hs
  have hmm:=@run_makeMap Tryd.prog
  go_wp2_with (first
   |(with_reducible refine wpList_box_row rfl 108 _ rfl ([.slice none 0 0,.slice none 0 0,.slice none 0 0,.slice none 0 0,.map (some w1.heap.size),.slice none 0 0]:List Value) rfl ?_;have hX:=bst_start w1;generalize World.alloc _ (.cells ([.slice none 0 0,.slice none 0 0,.slice none 0 0,.slice none 0 0,.map (some w1.heap.size),.slice none 0 0]:List Value).toArray _) = W4 at hX ⊢;have HX4:=Lib.hid hX;clear hX;refine halt ?_))
  unfold Halt
  clear hmm
  obtain ⟨rs,hst,hrw,hbl,hoff⟩:=HX4.out
  have hp4:=HX1.out.next hbl
  have HB4:=Lib.hid (And.intro hst (And.intro hrw (And.intro hbl (And.intro hoff hp4))))
  clear hst hrw hbl hoff hp4 HX4
  have hlt:w.heap.size + 1 < w1.heap.size:=HX1.out.lt
  have hkeep:∀ W,Gone w1.heap.size [w1.heap.size + 1,w1.heap.size] rs W4 W→Pair w 59 63 ([.int .i64 m.opset,.string m.name,.slice A1 m.nodes.length k1,.slice A2 m.inits.length k2,.slice A3 m.inputs.length k3,.slice A4 m.outputs.length k4]:List Value) ([.slice none 0 0,.slice none 0 0,.slice none 0 0,.slice none 0 0]:List Value) W:=fun W hg=>by
   have hnb:∀ b,b < w1.heap.size→b ∉ [w1.heap.size + 1,w1.heap.size]:=fun b hb hm=>by
    simp only [List.mem_cons,List.not_mem_nil,or_false] at hm
    omega
   have hs4:w1.heap.size ≤ W4.heap.size:=HB4.out.2.2.1.size
   have hp:=HB4.out.2.2.2.2
   exact ⟨hp.below.trans ((hg.below HB4.out.2.1).mono (by omega)),(hg.block (by omega) (hnb _ (by omega)) (HB4.out.2.2.2.1 _)).trans hp.src,(hg.block (by omega) (hnb _ (by omega)) (HB4.out.2.2.2.1 _)).trans hp.res⟩
  have HK:=Lib.hid hkeep
  clear hkeep
  have c2:W4.cell? ⟨w.heap.size,2,none⟩ = some (.slice A1 m.nodes.length k1):=cell_of_row' HB4.out.2.2.2.2.src rfl
  obtain ⟨A',c',xs,hv,hnc,hcm,-,hl,hch⟩:=open_slice HT.out.2.2
  simp only [Value.slice.injEq,true_and] at hv
  obtain ⟨rfl,rfl⟩:=hv
  have HL:=Lib.hid (And.intro hl hch)
  clear hl hch
  obtain ⟨FB,hFB⟩:∃ FB,wrongAt 0 m.nodes = FB:=⟨_,rfl⟩
  have HFB:=Lib.hid hFB
  clear hFB
  obtain ⟨g,hg⟩:∃ g,w1.heap.size + 1 = g:=⟨_,rfl⟩
  obtain ⟨mp,hmp⟩:∃ mp,w1.heap.size = mp:=⟨_,rfl⟩
  have HGM:=Lib.hid (And.intro hg hmp)
  rw [hg] at HB4 HK
  rw [hmp] at HB4 HK
  try rw [hg]
  clear hg hmp
  go_wp2_with fail
  clear c2
  go_loopw [30] (fun i wr=>∃ (pre post:List NodeD),m.nodes = pre++post∧i = .int .i64 pre.length∧BSt mp [g,mp] g mp W4 rs [] [] [] [] [] ((baresD 0 pre).map fun b=>⟨b,true,true⟩) wr∧FB = wrongAt pre.length post) (fun i _=>m.nodes.length - (intOf i).toNat)
  case atStart=>exact ⟨[],m.nodes,rfl,rfl,HB4.out.1,HFB.out.symm⟩
  case round =>
   obtain ⟨pre,post,hpp,rfl,hB,hF⟩:=hrel
   have HB:=Lib.hid (And.intro hB hF)
   clear hB hF
   cases post with
   | cons z post =>
    obtain ⟨hz,hlt2,hpp',hpl⟩:=split_at hpp
    obtain ⟨o1,o,ics,rfl,hbB,hrz,hcell⟩:=elem_at HL.out.1 HL.out.2 (by decide) hz
    have hrz':=hrz
    obtain ⟨E1,e1,E2,e2,E3,e3,rfl,-,-,-,-,-⟩:=open_NodeD hrz
    have hbl:=(HK.out wr HB.out.1.gone).below
    have hat:At wr o1 (o + pre.length * 5) ([.string z.op,.string z.name,.slice E1 z.ins.length e1,.slice E2 z.outs.length e2,.slice E3 z.attrs.length e3]:List Value):=fun j u hu=>by
     have h1:=(hcell j u hu).1
     rw [← Nat.add_assoc] at h1
     exact (hbl.cell (p:=⟨o1,o + pre.length * 5 + j,none⟩) hbB).trans h1
    have hk0:(0:Int) ≤ (pre.length:Int):=Int.natCast_nonneg _
    have hk1:(pre.length:Int) < (m.nodes.length:Int):=by omega
    have s1:=HS.out.nodes
    have hpn:pre.length < 1024:=by omega
    have HA:=Lib.hid (And.intro hat (And.intro (Rep.one hrz') (And.intro (Rep.more (Rep.keep hrz' (Keeps.old_below hbl (Nat.le_refl _))) (old_le hbl.size)) (HT.out.1.ext hbl))))
    have HP:=Lib.hid (And.intro hpp' hpl)
    clear hpp hpp' hpl hz hcell hrz hrz' hat hbB hbl s1
    go_wp2_with (first
     |(with_reducible refine wpList_load_agg rfl 36 _ rfl _ _ _ rfl ([.string z.op,.string z.name,.slice E1 z.ins.length e1,.slice E2 z.outs.length e2,.slice E3 z.attrs.length e3]:List Value) Tryd.underlying36 rfl (by kernel_rfl) HA.out.1 ?_)
     |(with_reducible refine wpList_alloc_row rfl 36 rfl zeroNd zeroNd_zero ?_)
     |(with_reducible refine wpList_store_agg rfl 36 _ _ rfl _ 0 ([.string z.op,.string z.name,.slice E1 z.ins.length e1,.slice E2 z.outs.length e2,.slice E3 z.attrs.length e3]:List Value) rfl rfl 36 zeroNd (heap_alloc_new _ _) (by kernel_rfl) (of_decide_eq_true (by kernel_rfl)) HA.out.2.1 ?_;have hY:=laid_row wr 36 zeroNd ([.string z.op,.string z.name,.slice E1 z.ins.length e1,.slice E2 z.outs.length e2,.slice E3 z.attrs.length e3]:List Value) rfl;generalize World.setRow _ _ _ = v2 at hY ⊢;have HV2:=Lib.hid hY;clear hY;refine halt ?_))
    unfold Halt
    go_wp2_with (with_reducible refine wpList_load_agg rfl 36 _ rfl _ wr.heap.size 0 rfl ([.string z.op,.string z.name,.slice E1 z.ins.length e1,.slice E2 z.outs.length e2,.slice E3 z.attrs.length e3]:List Value) Tryd.underlying36 rfl (by kernel_rfl) (At.of_row HV2.out.2.1) ?_)
    refine (resolve_any _ z v2 (HA.out.2.2.2.ext HV2.out.1) (Rep.more (Rep.keep HA.out.2.2.1 (Keeps.old_below HV2.out.1 (Nat.le_refl _))) (old_le HV2.out.1.size))).mono ?_
    rintro e w3 ⟨ss,rfl,hss,hb3⟩
    have hbw3:Below wr.heap.size wr w3:=HV2.out.1.trans (hb3.mono HV2.out.1.size)
    have hsl:ss.length = 36:=hss.len
    have hlay:(Tryd.prog.info? 45).map (·.size) = some ss.length:=by rw [hsl];kernel_rfl
    have hft:0 + ss.length ≤ zeroS.length:=by rw [hsl,zeroS_len];decide
    have H3:=Lib.hid (And.intro hbw3 (And.intro hsl (And.intro hlay (And.intro hft (And.intro (Rep.one (show rep w3 _ ss (resolveD z).2.1 from hss)) (show rep w3 (fresh wr.heap.size w3.heap.size) ss (resolveD z).2.1 from Rep.more (show rep w3 _ ss (resolveD z).2.1 from hss) (fresh_le HV2.out.1.size (Nat.le_refl _))))))))
    clear hss hb3 hbw3 hsl hlay hft HV2
    obtain ⟨op,hop⟩:∃ op,(resolveD z).1 = op:=⟨_,rfl⟩
    obtain ⟨er,her⟩:∃ er,(resolveD z).2.2 = er:=⟨_,rfl⟩
    rw [hop,her]
    have HOE:=Lib.hid (And.intro hop her)
    clear hop her
    go_wp2_with (first
     |(with_reducible refine wpList_alloc_row rfl 45 rfl zeroS zeroS_zero ?_)
     |(with_reducible refine wpList_store_agg rfl 45 _ _ rfl _ 0 ss rfl rfl 45 zeroS (heap_alloc_new _ _) H3.out.2.2.1 H3.out.2.2.2.1 H3.out.2.2.2.2.1 ?_;have hY:=laid_row w3 45 zeroS ss (by rw [H3.out.2.1,zeroS_len]);generalize World.setRow _ _ _ = v4 at hY ⊢;have HV4:=Lib.hid hY;clear hY;refine halt ?_))
    unfold Halt
    have hb4:Below wr.heap.size wr v4:=H3.out.1.trans (HV4.out.1.mono H3.out.1.size)
    have hpr:=((HK.out wr HB.out.1.gone).next H3.out.1).next HV4.out.1
    have HP4:=Lib.hid (And.intro hb4 hpr)
    clear hb4 hpr
    by_cases he:er = 0
    ·subst he
     have hWX:=HB.out.2
     rw [wrong_cons_ok HOE.out.2] at hWX
     have HWX:=Lib.hid hWX
     clear hWX
     go_wp2_with fail
     obtain ⟨zc,hzc⟩:∃ zc:List Value,(([.int .i64 op]++(ss++[.slice none 0 0,.slice none 0 0,.int .i64 (pre.length:Int)]):List Value)) = zc:=⟨_,rfl⟩
     have hzl:zc.length = 40:=by rw [← hzc];simp [H3.out.2.1]
     have hbB:Below wr.heap.size wr (v4.drew.alloc (.cells zc.toArray 68)):=HP4.out.1.drew.alloc HP4.out.1.size _
     have hpz:rep (v4.drew.alloc (.cells zc.toArray 68)) (fresh wr.heap.size (v4.drew.alloc (.cells zc.toArray 68)).heap.size) zc (⟨bareD pre.length z,true,true⟩:PartD):=by
      have hk:Below w3.heap.size w3 (v4.drew.alloc (.cells zc.toArray 68)):=HV4.out.1.drew.alloc HV4.out.1.size _
      have hs1:rep (v4.drew.alloc (.cells zc.toArray 68)) (fresh wr.heap.size (v4.drew.alloc (.cells zc.toArray 68)).heap.size) ss (resolveD z).2.1:=Rep.more (Rep.keep H3.out.2.2.2.2.2 (Keeps.fresh_below hk (Nat.le_refl _))) (fresh_le (Nat.le_refl _) hk.size)
      have hi:=resolve_I64 z
      rw [HOE.out.1] at hi
      have h38:zc[37]? = some (.slice none 0 0)∧zc[38]? = some (.slice none 0 0):=by
       rw [← hzc]
       constructor <;> simp [List.getElem?_append,H3.out.2.1]
      refine And.intro ?_ (And.intro (fun _=>h38.1) fun _=>h38.2)
      rw [← hzc]
      have hb:=shut_GNodeD (a:=bareD pre.length z) (w:=v4.drew.alloc (.cells zc.toArray 68)) (Z:=fresh wr.heap.size (v4.drew.alloc (.cells zc.toArray 68)).heap.size) (by show I64 (resolveD z).1;rw [HOE.out.1];exact hi) hs1 (rep_nil _ _) (rep_nil _ _) (by show I64 (pre.length:Int);unfold I64;omega)
      have e1:(bareD pre.length z).op = op:=HOE.out.1
      rw [e1] at hb
      rw [← hzc] at hb
      exact hb
     obtain ⟨vn,xs9,cells,hgl,hlo9,d5,hcl,hown,hkey⟩:=HB.out.1.push_n hbB hpz
     have d5':v4.drew.cell? ⟨g,5,none⟩ = some vn:=cell_kept HP4.out.1.drew d5
     have hgl4:g < v4.drew.heap.size:=Nat.lt_of_lt_of_le hgl HP4.out.1.size
     have hlies:=lies_new v4.drew zc 68
     have hAt:At v4.drew w3.heap.size 0 ss:=At.of_row (w:=v4.drew) (show v4.drew.heap[w3.heap.size]? = _ from HV4.out.2.1)
     have hpl:w3.heap.size < v4.drew.heap.size:=by have:=HV4.out.2.2;show _ < v4.heap.size;omega
     have hS1:At (v4.drew.alloc (.cells zc.toArray 68)) w3.heap.size 0 ss:=hAt.alloc hpl _
     have hone:∀ u ∈ zc,u.oneCell' = true:=Rep.one hpz
     obtain ⟨hi0,hz0,hz1,hz2⟩:=HZ.out
     rw [List.length_map,bares_len] at hown hkey
     refine wp_region_held_drew (S:=fun W=>At W w3.heap.size 0 ss) (by kernel_rfl) hAt (fun hHeld=>?_)
     refine take_d9 0 (some 46) (v:=.pointer (some ⟨g,0,none⟩)) rfl (by kernel_rfl) (by kernel_rfl) (by kernel_rfl) (by kernel_rfl) (fun c a w h=>h) (Or.inl ⟨by kernel_rfl,fun w _=>by kernel_rfl⟩) hHeld ?_
     refine take_d9 1 (some 47) (v:=.pointer (some ⟨g,0,none⟩)) rfl (by kernel_rfl) (by kernel_rfl) (by kernel_rfl) (by kernel_rfl) (fun c a w h=>h) (Or.inl ⟨by kernel_rfl,fun w _=>by kernel_rfl⟩) hHeld ?_
     refine take_d9 2 (some 48) (v:=.pointer (some ⟨g,0,none⟩)) rfl (by kernel_rfl) (by kernel_rfl) (by kernel_rfl) (by kernel_rfl) (fun c a w h=>h) (Or.inl ⟨by kernel_rfl,fun w _=>by kernel_rfl⟩) hHeld ?_
     refine take_d9 3 (some 49) (v:=.pointer (some ⟨g,5,none⟩)) rfl (by kernel_rfl) (by kernel_rfl) (by kernel_rfl) (by kernel_rfl) (fun c a w h=>h) (Or.inl ⟨by kernel_rfl,fun w _=>by kernel_rfl⟩) hHeld ?_
     refine take_d9 5 (some 51) (v:=.int .i64 op) rfl (by kernel_rfl) (by kernel_rfl) (by kernel_rfl) (by kernel_rfl) (fun c a w h=>h) (Or.inl ⟨by kernel_rfl,fun w _=>by kernel_rfl⟩) hHeld ?_
     refine take_d9 6 (some 52) (v:=.agg ss.toArray) rfl (by kernel_rfl) (by kernel_rfl) (by kernel_rfl) (by kernel_rfl) (fun c a w h=>h) (yields_load_agg (by kernel_rfl) 45 _ rfl _ w3.heap.size 0 (by kernel_rfl) ss Tryd.underlying45 rfl H3.out.2.2.1 (fun _ h=>h)) hHeld ?_
     refine take_d9 7 (some 53) (v:=.int .i64 (pre.length:Int)) rfl (by kernel_rfl) (by kernel_rfl) (by kernel_rfl) (by kernel_rfl) (fun c a w h=>h) (Or.inl ⟨by kernel_rfl,fun w _=>by kernel_rfl⟩) hHeld ?_
     refine take_d9 8 (some 54) (v:=.agg zc.toArray) rfl (by kernel_rfl) (by kernel_rfl) (by kernel_rfl) (by kernel_rfl) (fun c a w h=>h) (by rw [← hzc];exact yields_node (by kernel_rfl) _ _ _ rfl op (pre.length:Int) ss H3.out.2.1 (by kernel_rfl) (by kernel_rfl) (by kernel_rfl)) hHeld ?_
     refine anyH_load_lay 4 9 50 55 rfl rfl rfl rfl (by decide) (by decide) (by kernel_rfl) (by kernel_rfl) (by kernel_rfl) rfl rfl _ _ rfl g 5 vn _ Tryd.underlying61 rfl (.slice (some ⟨v4.drew.heap.size,0,none⟩) 1 1) (.cells zc.toArray 68) (by kernel_rfl) (by kernel_rfl) d5' hgl4 (lay_one zc hzl _ rfl (by kernel_rfl)) (lay_one zc hzl _ rfl (by kernel_rfl)) hHeld hS1 ?_
     refine anyH_1 10 rfl (by kernel_rfl) ?_
     refine steps_append9 (by kernel_rfl) _ _ _ rfl mp 68 i0 _ 40 432 Tryd.underlying61 hi0 hz0 hz1 hz2 (by kernel_rfl) (by decide) vn pre.length xs9 (by kernel_rfl) hown
      (old (v4.drew.heap.size + 1)) (some ⟨v4.drew.heap.size,0,none⟩) 1 1 zc (by kernel_rfl) (by rw [hzl]) hlies hone (by unfold maxLen;omega) (by omega) (Nat.le_trans hlo9 hbB.size) ?_
     intro v9 W9 ho9 hg9 hb9
     obtain ⟨q1,q2,q3,q5⟩:=hkey W9 v9 ho9 hg9 hb9
     have hp9:=q3 w3.heap.size H3.out.1.size (by rw [World.size_alloc];omega)
     have hAt9:At W9 w3.heap.size 0 ss:=At.of_row (hp9.1.trans ((Below.heap_alloc _ _ _ hpl).trans HV4.out.2.1))
     refine ⟨hAt9,?_⟩
     refine take_d9 11 (some 57) (v:=.pointer (some ⟨g,0,none⟩)) rfl (by kernel_rfl) (by kernel_rfl) (by kernel_rfl) (by kernel_rfl) (fun c a w h=>h) (Or.inl ⟨by kernel_rfl,fun w _=>by kernel_rfl⟩) hAt9 ?_
     refine take_d9 12 (some 58) (v:=.pointer (some ⟨g,5,none⟩)) rfl (by kernel_rfl) (by kernel_rfl) (by kernel_rfl) (by kernel_rfl) (fun c a w h=>h) (Or.inl ⟨by kernel_rfl,fun w _=>by kernel_rfl⟩) hAt9 ?_
     refine anyH_store_field 13 rfl (by kernel_rfl) (by kernel_rfl) _ _ _ rfl g 5 v9 (by kernel_rfl) (by kernel_rfl) q2 (by kernel_rfl) 108 cells q1 (by omega) (hAt9.setRow_other (by have:=hp9.2;omega) _) ?_
     refine wpAnyH_done (by kernel_rfl) ?_ _
     generalize World.setRow _ _ _ = wz at q5 ⊢
     have HW:=Lib.hid q5
     clear q5 q3 q2 q1 hb9 hg9 ho9 hlies hS1 hi0 hz0 hz1 hz2 hHeld hkey hown d5 d5' hgl hgl4 hlo9 hcl hAt hpl hzl hAt9 hp9 hone hpz hbB
     go_wp2
     go_roundw
     case rel =>
      refine ⟨pre++[z],post,HP.out.1,by rw [HP.out.2];go_num,?_,by rw [HP.out.2];exact HWX.out⟩
      rw [bares_snoc,List.map_append,Nat.zero_add]
      exact HW.out
     case measure=>simp [intOf];omega
    ·have hWX:=HB.out.2
     rw [wrong_cons_bad (by rw [HOE.out.2];exact he)] at hWX
     have hbd:=build_wrong HCK.out (HFB.out.trans hWX)
     rw [HOE.out.2] at hbd
     have HBD:=Lib.hid hbd
     have hrow:=HP4.out.2.res
     have hbx:=HP4.out.2.below
     clear hWX hbd
     go_wp2_with (with_reducible refine wpList_store_agg rfl 63 _ _ rfl (w.heap.size + 1) 0 ([.slice none 0 0,.slice none 0 0,.slice none 0 0,.slice none 0 0]:List Value) rfl rfl 63 ([.slice none 0 0,.slice none 0 0,.slice none 0 0,.slice none 0 0]:List Value) hrow (by kernel_rfl) (of_decide_eq_true (by kernel_rfl)) (by decide) ?_)
     refine bodyPost_ret (results_ctt rfl _ _ (w.heap.size + 1) 63 _ (0,0) _ (.int .i64 er) (.int .i64 (pre.length:Int)) rfl rfl rfl (heap_setRow _ _ _ _ _ hrow) Tryd.underlying63 rfl (by kernel_rfl)) rfl ?_
     exact build_bad HBD.out hbx _
   | nil =>
    obtain ⟨hge,hpl⟩:=split_end hpp
    have hW:=HB.out.2
    have hst:=HB.out.1
    rw [hpl] at hW hst
    have HW:=Lib.hid (show wrongAt 0 m.nodes = none from HFB.out.trans (hW.trans rfl))
    have HST:=Lib.hid hst
    have hpr:=HK.out wr hst.gone
    have hmo:rep wr (old w.heap.size) ([.int .i64 m.opset,.string m.name,.slice A1 m.nodes.length k1,.slice A2 m.inits.length k2,.slice A3 m.inputs.length k3,.slice A4 m.outputs.length k4]:List Value) m:=Rep.keep HT.out.2.1 (Keeps.old_below hpr.below (Nat.le_refl _))
    have hmp:w.heap.size ≤ mp:=by have:=HGM.out.2;omega
    have HM:=Lib.hid (And.intro hpr (Rep.more hmo (old_le hmp)))
    clear hpp hpl hW hst hpr hmo HL
    go_wp2_with (with_reducible refine wpList_load_agg rfl 59 _ rfl _ w.heap.size 0 rfl ([.int .i64 m.opset,.string m.name,.slice A1 m.nodes.length k1,.slice A2 m.inits.length k2,.slice A3 m.inputs.length k3,.slice A4 m.outputs.length k4]:List Value) Tryd.underlying59 rfl (by kernel_rfl) (At.of_row HM.out.1.src) ?_)
    refine (values_any mp [g,mp] g mp W4 rs [] m _ wr HST.out HM.out.2 HS.out).mono ?_
    rintro e w5 hvp
    cases hfb:firstBad [] (namesAt m) with
    | some i =>
     obtain ⟨rfl,hg5⟩:=hvp.bad i hfb
     have hbd:=build_name HCK.out HW.out hfb
     have HBD:=Lib.hid hbd
     have hrow:=(HK.out w5 hg5).res
     have hbx:=(HK.out w5 hg5).below
     clear hvp hfb hbd hg5
     go_wp2_with (with_reducible refine wpList_store_agg rfl 63 _ _ rfl (w.heap.size + 1) 0 ([.slice none 0 0,.slice none 0 0,.slice none 0 0,.slice none 0 0]:List Value) rfl rfl 63 ([.slice none 0 0,.slice none 0 0,.slice none 0 0,.slice none 0 0]:List Value) hrow (by kernel_rfl) (of_decide_eq_true (by kernel_rfl)) (by decide) ?_)
     refine bodyPost_ret (results_ctt rfl _ _ (w.heap.size + 1) 63 _ (0,0) _ (.int .i64 13) (.int .i64 i) rfl rfl rfl (heap_setRow _ _ _ _ _ hrow) Tryd.underlying63 rfl (by kernel_rfl)) rfl ?_
     exact build_bad HBD.out hbx _
    | none =>
     obtain ⟨rfl,hst5⟩:=hvp.ok hfb
     have HFN:=Lib.hid hfb
     have hp5:=HK.out w5 hst5.gone
     have hm5:rep w5 (old mp) ([.int .i64 m.opset,.string m.name,.slice A1 m.nodes.length k1,.slice A2 m.inits.length k2,.slice A3 m.inputs.length k3,.slice A4 m.outputs.length k4]:List Value) m:=Rep.more (Rep.keep HT.out.2.1 (Keeps.old_below hp5.below (Nat.le_refl _))) (old_le hmp)
     have H5:=Lib.hid (And.intro hst5 (And.intro hp5 hm5))
     clear hvp hfb hst5 hp5 hm5 HM HST
     obtain ⟨hns,hno⟩:=names_small HS.out
     have hls:(outedD (m.inits.length + m.inputs.length) m.nodes (baresD 0 m.nodes)).length = m.nodes.length:=outed_len _ _ _ (bares_len _ _).symm
     go_wp2_with (with_reducible refine wpList_load_agg rfl 59 _ rfl _ w.heap.size 0 rfl ([.int .i64 m.opset,.string m.name,.slice A1 m.nodes.length k1,.slice A2 m.inits.length k2,.slice A3 m.inputs.length k3,.slice A4 m.outputs.length k4]:List Value) Tryd.underlying59 rfl (by kernel_rfl) (At.of_row H5.out.2.1.src) ?_)
     refine (uses_any mp [g,mp] g mp W4 rs (namesM m) (valsM m) (inputsM m) [] (outedD (m.inits.length + m.inputs.length) m.nodes (baresD 0 m.nodes)) m _ w5 H5.out.1 H5.out.2.2 HS.out hns hls).mono ?_
     rintro e w6 hup
     cases hfl:firstLack (namesM m) 0 m.nodes with
     | some i =>
      obtain ⟨rfl,hg6⟩:=hup.bad i hfl
      have hbd:=build_lack HCK.out HW.out HFN.out hfl
      have HBD:=Lib.hid hbd
      have hrow:=(HK.out w6 hg6).res
      have hbx:=(HK.out w6 hg6).below
      clear hup hfl hbd hg6 hls hns hno
      go_wp2_with (with_reducible refine wpList_store_agg rfl 63 _ _ rfl (w.heap.size + 1) 0 ([.slice none 0 0,.slice none 0 0,.slice none 0 0,.slice none 0 0]:List Value) rfl rfl 63 ([.slice none 0 0,.slice none 0 0,.slice none 0 0,.slice none 0 0]:List Value) hrow (by kernel_rfl) (of_decide_eq_true (by kernel_rfl)) (by decide) ?_)
      refine bodyPost_ret (results_ctt rfl _ _ (w.heap.size + 1) 63 _ (0,0) _ (.int .i64 13) (.int .i64 i) rfl rfl rfl (heap_setRow _ _ _ _ _ hrow) Tryd.underlying63 rfl (by kernel_rfl)) rfl ?_
      exact build_bad HBD.out hbx _
     | none =>
      have HLN:=Lib.hid hfl
      cases hlo:lacksOut (namesM m) m with
      | true =>
       obtain ⟨rfl,hg6⟩:=hup.bad2 hfl hlo
       have hbd:=build_out HCK.out HW.out HFN.out hfl hlo
       have HBD:=Lib.hid hbd
       have hrow:=(HK.out w6 hg6).res
       have hbx:=(HK.out w6 hg6).below
       clear hup hfl hbd hg6 hls hns hno hlo
       go_wp2_with (with_reducible refine wpList_store_agg rfl 63 _ _ rfl (w.heap.size + 1) 0 ([.slice none 0 0,.slice none 0 0,.slice none 0 0,.slice none 0 0]:List Value) rfl rfl 63 ([.slice none 0 0,.slice none 0 0,.slice none 0 0,.slice none 0 0]:List Value) hrow (by kernel_rfl) (of_decide_eq_true (by kernel_rfl)) (by decide) ?_)
       refine bodyPost_ret (results_ctt rfl _ _ (w.heap.size + 1) 63 _ (0,0) _ (.int .i64 13) (.int .i64 (-1)) rfl rfl rfl (heap_setRow _ _ _ _ _ hrow) Tryd.underlying63 rfl (by kernel_rfl)) rfl ?_
       exact build_bad HBD.out hbx _
      | false =>
       obtain ⟨rfl,hst6⟩:=hup.ok hfl hlo
       have H6:=Lib.hid hst6
       have HLO:=Lib.hid hlo
       have hv1:(valsM m).length ≤ 1048576:=by rw [vals_len];exact hns
       have hv2:(inputsM m).length ≤ 1048576:=by unfold inputsM;rw [seqI_len];have:=HS.out.inputs;omega
       have hv3:(m.outputs.map fun v=>placeD (namesM m) v.name).length ≤ 1048576:=by rw [List.length_map];have:=HS.out.outputs;omega
       have hv4:(gnodesM m).length ≤ 1048576:=by unfold gnodesM;rw [ined_len _ _ _ hls.symm];have:=HS.out.nodes;omega
       have hv5:∀ x ∈ inputsM m,0 ≤ x∧x < ((valsM m).length:Int):=fun x hx=>by
        have:=seqI_mem.1 hx
        have hN:(namesM m).length = m.inits.length + m.inputs.length + (m.nodes.flatMap (·.outs)).length:=by unfold namesM;simp [Nat.add_assoc]
        rw [vals_len];omega
       have hord:=order_any mp [g,mp] g mp W4 rs (namesM m) (valsM m) (inputsM m) (m.outputs.map fun v=>placeD (namesM m) v.name) (gnodesM m) w6 hst6 hv1 hv2 hv3 hv4 hv5 (fit_nodes HS.out)
       have HORD:=Lib.hid hord
       have hol:∀ l r,orderM m = (l,r)→l.length ≤ 1048576:=fun l r he=>by
        have h:=(order_spec (leftM m).length (definedD (startM m)) (leftM m) (Nat.le_refl _)).2.1.length_eq
        have h2:(leftM m).length ≤ (gnodesM m).length:=List.length_filter_le _ _
        rw [show orderG (leftM m).length (definedD (startM m)) (leftM m) = (l,r) from he] at h
        simp only [List.length_append] at h
        omega
       have HOL:=Lib.hid (And.intro hol (And.intro hv1 (And.intro hv2 hv3)))
       clear hup hfl hlo hst6 hord hls hns hno hv1 hv2 hv3 hv4 hv5 hol
       go_wp2_with fail
       refine HORD.out.mono ?_
       rintro e w7 hop
       have hop':OrdPost mp [g,mp] g mp W4 rs (namesM m) (valsM m) (inputsM m) (outputsM m) (orderM m) e w7:=hop
       clear hop HORD
       obtain ⟨ol,orr,hoe⟩:∃ ol orr,orderM m = (ol,orr):=⟨_,_,rfl⟩
       rw [hoe] at hop'
       have HOE:=Lib.hid hoe
       clear hoe
       cases orr with
       | cons zz ll =>
        obtain ⟨rfl,hg7⟩:=hop'.bad zz ll rfl
        have hbd:=build_cycle (z:=zz) (l:=ll) HCK.out HW.out HFN.out HLN.out HLO.out (by rw [HOE.out])
        have HBD:=Lib.hid hbd
        have hrow:=(HK.out w7 hg7).res
        have hbx:=(HK.out w7 hg7).below
        clear hop' hbd hg7
        go_wp2_with (with_reducible refine wpList_store_agg rfl 63 _ _ rfl (w.heap.size + 1) 0 ([.slice none 0 0,.slice none 0 0,.slice none 0 0,.slice none 0 0]:List Value) rfl rfl 63 ([.slice none 0 0,.slice none 0 0,.slice none 0 0,.slice none 0 0]:List Value) hrow (by kernel_rfl) (of_decide_eq_true (by kernel_rfl)) (by decide) ?_)
        refine bodyPost_ret (results_ctt rfl _ _ (w.heap.size + 1) 63 _ (0,0) _ (.int .i64 12) (.int .i64 zz.source) rfl rfl rfl (heap_setRow _ _ _ _ _ hrow) Tryd.underlying63 rfl (by kernel_rfl)) rfl ?_
        exact build_bad HBD.out hbx _
       | nil =>
        obtain ⟨rfl,rV,rN,rI,rO,rn,ex,hbr⟩:=hop'.ok rfl
        have hbd:=build_fine HCK.out HW.out HFN.out HLN.out HLO.out (by rw [HOE.out])
        rw [HOE.out] at hbd
        obtain ⟨cs,hcl,hat,hrep⟩:=hbr.graph HOL.out.2.1 HOL.out.2.2.1 HOL.out.2.2.2 (HOL.out.1 _ _ HOE.out)
        have hp7:=HK.out w7 ⟨_,hbr.mv⟩
        have hgr:=hrep
        have hone:∀ u ∈ cs,u.oneCell' = true:=Rep.one hrep
        have hrow:=hp7.res
        have HE:=Lib.hid (And.intro hbd (And.intro hcl (And.intro hat (And.intro hrep (And.intro hp7.below (And.intro (show (Tryd.prog.info? 63).map (·.size) = some cs.length by rw [hcl];kernel_rfl) (show 0 + cs.length ≤ ([.slice none 0 0,.slice none 0 0,.slice none 0 0,.slice none 0 0]:List Value).length by rw [hcl];decide)))))))
        clear hop' hbr hbd hcl hat hrep hp7 hgr
        go_wp2_with (first
         |(with_reducible refine wpList_load_agg rfl 63 _ rfl _ g 0 rfl cs Tryd.underlying63 rfl HE.out.2.2.2.2.2.1 HE.out.2.2.1 ?_)
         |(with_reducible refine wpList_store_agg rfl 63 _ _ rfl (w.heap.size + 1) 0 cs rfl rfl 63 ([.slice none 0 0,.slice none 0 0,.slice none 0 0,.slice none 0 0]:List Value) hrow HE.out.2.2.2.2.2.1 HE.out.2.2.2.2.2.2 hone ?_;rw [full_zero4 HE.out.2.1]))
        have hfull:=full_zero4 HE.out.2.1
        have hrow9:=heap_setRow w7 (w.heap.size + 1) (([.slice none 0 0,.slice none 0 0,.slice none 0 0,.slice none 0 0]:List Value).take 0++cs++([.slice none 0 0,.slice none 0 0,.slice none 0 0,.slice none 0 0]:List Value).drop (0 + cs.length)).toArray _ _ hrow
        rw [hfull] at hrow9
        refine bodyPost_ret (results_ctt rfl _ _ (w.heap.size + 1) 63 cs.toArray (0,0) _ (.int .i64 0) (.int .i64 0) rfl rfl rfl hrow9 Tryd.underlying63 rfl (by rw [List.size_toArray];exact HE.out.2.2.2.2.2.1)) rfl ?_
        have hgm:=HGM.out.2
        refine (show BuildPost m w _ _ from ⟨cs,by rw [HE.out.1],?_,below_setRow' HE.out.2.2.2.2.1 (by omega) _⟩)
        rw [HE.out.1]
        exact Rep.more (Rep.keep HE.out.2.2.2.1 (Keeps.of_block fun k hk=>heap_setRow_other _ _ _ _ (by have:=hk.1;omega))) (fresh_le (by omega) (by rw [size_setRow];exact Nat.le_refl _))
 ·have hrow:=HX1.out.res
  have hbx:=HX1.out.below
  go_wp2_with (with_reducible refine wpList_store_agg rfl 63 _ _ rfl (w.heap.size + 1) 0 ([.slice none 0 0,.slice none 0 0,.slice none 0 0,.slice none 0 0]:List Value) rfl rfl 63 ([.slice none 0 0,.slice none 0 0,.slice none 0 0,.slice none 0 0]:List Value) hrow (by kernel_rfl) (of_decide_eq_true (by kernel_rfl)) (by decide) ?_)
  refine bodyPost_ret (results_ctt rfl _ _ (w.heap.size + 1) 63 _ (0,0) _ (.int .i64 ck) (.int .i64 (-1)) rfl rfl rfl (heap_setRow _ _ _ _ _ hrow) Tryd.underlying63 rfl (by kernel_rfl)) rfl ?_
  rw [← HCK.out]
  exact build_bad (check_nz (by rw [HCK.out];exact hc0)) hbx _
end Go.Proofs.YtgbkhcmbmffljaaDoor
