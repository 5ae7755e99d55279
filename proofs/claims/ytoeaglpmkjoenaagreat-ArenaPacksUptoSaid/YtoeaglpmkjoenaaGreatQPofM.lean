/-
  Chapter 20: what lies in memory while a plan is made. No condition.
-/
import Derived.Test.YtoeaglpmkjoenaaGreatQAfter
import Derived.Test.YtoeaglpmkjoenaaGreatQSame
set_option linter.unusedSimpArgs false
set_option linter.unusedVariables false
namespace Go.Proofs.YtoeaglpmkjoenaaGreat
open Go.RowKit
open Rep (rep)
def bytesAt (vs:List ValD) (k:Int):Int:=((vs[k.toNat]?).map bytesD).getD 0
theorem bytesAt_i64 (vs:List ValD) (k:Int):I64 (bytesAt vs k):=by
 unfold bytesAt
 cases vs[k.toNat]? with
 | none=>simp only [Option.map_none,Option.getD_none];unfold I64;omega
 | some v=>exact bytes_i64 v
def putS (vs:List ValD) (sz:List Int) (ks:List Int):List Int:=ks.foldl (fun s k=>s.set k.toNat (bytesAt vs k)) sz
theorem putS_snoc (vs:List ValD) (sz ks:List Int) (k:Int):putS vs sz (ks++[k]) = (putS vs sz ks).set k.toNat (bytesAt vs k):=by unfold putS;rw [List.foldl_append];rfl
theorem putS_len (vs:List ValD):∀ (ks sz:List Int),(putS vs sz ks).length = sz.length
 | [],_=>rfl
 | k :: ks,sz=>by
  have:=putS_len vs ks (sz.set k.toNat (bytesAt vs k))
  rw [List.length_set] at this
  exact this
theorem putS_i64 (vs:List ValD):∀ (ks sz:List Int),(∀ x ∈ sz,I64 x)→∀ x ∈ putS vs sz ks,I64 x
 | [],_,h=>h
 | k :: ks,sz,h=>putS_i64 vs ks _ fun x hx=>by
  rcases List.mem_or_eq_of_mem_set hx with h1 | h1
  ·exact h x h1
  ·rw [h1];exact bytesAt_i64 vs k
def sizesD (g:GraphD) (lv:List Bool):Nat→List Int
 | 0=>putS g.vals (List.replicate g.vals.length 0) g.inputs
 | m + 1=>if lv[m]? = some true then putS g.vals (sizesD g lv m) (gOuts g m) else sizesD g lv m
theorem sizesD_len (g:GraphD) (lv:List Bool):∀ m,(sizesD g lv m).length = g.vals.length
 | 0=>by unfold sizesD;rw [putS_len,List.length_replicate]
 | m + 1=>by
  unfold sizesD
  split
  ·rw [putS_len];exact sizesD_len g lv m
  ·exact sizesD_len g lv m
theorem sizesD_i64 (g:GraphD) (lv:List Bool):∀ m,∀ x ∈ sizesD g lv m,I64 x
 | 0=>putS_i64 _ _ _ fun x hx=>by rw [(List.mem_replicate.1 hx).2];unfold I64;omega
 | m + 1=>by
  unfold sizesD
  split
  ·exact putS_i64 _ _ _ (sizesD_i64 g lv m)
  ·exact sizesD_i64 g lv m
def szD (g:GraphD) (i:Nat):Nat:=(sizeD (((g.vals[((gOuts g i)[0]?.getD 0).toNat]?).map (·.dims)).getD [])).1.toNat
theorem szD_le (g:GraphD) (i:Nat):szD g i ≤ 4096:=by unfold szD;have:=size_bd (((g.vals[((gOuts g i)[0]?.getD 0).toNat]?).map (·.dims)).getD []);omega
def planD (g:GraphD):PlanD:={ graph:=g,live:=liveD g,tasks:=tasksD g (liveD g) (szD g) g.nodes.length,size:=sizesD g (liveD g) g.nodes.length }
theorem tasksOf_len {op:Int} {size:Nat} {i:Int} {aft:List Int} (h:size ≤ 4096):(tasksOf op size i aft).length ≤ 256:=by
 unfold tasksOf tilesD
 split
 ·show 1 ≤ 256;omega
 ·rw [List.length_map,List.length_range];omega
theorem tasksD_len (g:GraphD) (lv:List Bool):∀ m,(tasksD g lv (szD g) m).length ≤ m * 256
 | 0=>by unfold tasksD;exact Nat.zero_le _
 | m + 1=>by
  have h:=tasksD_len g lv m
  unfold tasksD
  rw [List.length_append,Nat.succ_mul]
  split
  ·exact Nat.add_le_add h (tasksOf_len (op:=gOp g m) (i:=(m:Int)) (aft:=afterD g (tasksD g lv (szD g) m) (gIns g m)) (szD_le g m))
  ·exact Nat.add_le_add h (Nat.zero_le _)
def z7:List Value:=[.slice none 0 0,.slice none 0 0,.slice none 0 0,.slice none 0 0,.slice none 0 0,.slice none 0 0,.slice none 0 0]
theorem z7_zero:(Tryz.prog.info? 30).bind (·.zero) = some (.agg z7.toArray):=by kernel_rfl
def Zq (n m q5 q8 qs:Nat):Zone:=⟨fun b=>n ≤ b∧b < m∧b ≠ q5∧b ≠ q8∧b ≠ qs,false⟩
structure PlO (w:World) (m q5 q8 qs:Nat) (gcs:List Value) (h:GraphD) (vL:Value) (lv:List Bool) (sz:List Int) (vT:Value) (ts:List TaskD) (xs:List Value) (W:World):Prop where
 below:Below w.heap.size w W
 res:W.heap[w.heap.size + 1]? = some (.cells z7.toArray 30 (0,0))
 g5:W.heap[q5]? = some (.cells gcs.toArray 26 (0,0))
 p8:W.heap[q8]? = some (.cells (gcs++[vT,.slice (some ⟨qs,0,none⟩) sz.length sz.length,vL]).toArray 30 (0,0))
 ss:W.heap[qs]? = some (.cells (sz.map (Value.int .i64)).toArray 3 (0,0))
 b5:w.heap.size + 1 < q5∧q5 < m
 b8:w.heap.size + 1 < q8∧q8 < m
 bs:w.heap.size + 1 < qs∧qs < m
 ne:q5 ≠ q8∧q5 ≠ qs∧q8 ≠ qs
 dat:rep W (Zq (w.heap.size + 2) m q5 q8 qs) gcs h
 liv:rep W (Zq (w.heap.size + 2) m q5 q8 qs) [vL] lv
 own:W.ownsRow m 72 4 vT ts.length xs
 ch:Chunks W (Zr m W.heap.size vT) xs ts
 le:m ≤ W.heap.size
section
variable {w W W':World} {m q5 q8 qs:Nat} {gcs:List Value} {h:GraphD} {vL vT:Value} {lv:List Bool} {sz:List Int} {ts:List TaskD} {xs:List Value}
theorem PlO.len (d:PlO w m q5 q8 qs gcs h vL lv sz vT ts xs W):gcs.length = 4:=Rep.len d.dat
theorem PlO.zq (d:PlO w m q5 q8 qs gcs h vL lv sz vT ts xs W):(Zq (w.heap.size + 2) m q5 q8 qs).le (old W.heap.size):=⟨fun b (hb:w.heap.size + 2 ≤ b∧b < m∧b ≠ q5∧b ≠ q8∧b ≠ qs)=>Nat.lt_of_lt_of_le hb.2.1 d.le,fun e=>by cases e⟩
theorem PlO.graph (d:PlO w m q5 q8 qs gcs h vL lv sz vT ts xs W):rep W (old W.heap.size) gcs h:=Rep.more d.dat d.zq
theorem PlO.live (d:PlO w m q5 q8 qs gcs h vL lv sz vT ts xs W):rep W (old W.heap.size) [vL] lv:=Rep.more d.liv d.zq
theorem PlO.tasks (d:PlO w m q5 q8 qs gcs h vL lv sz vT ts xs W) (hl:ts.length * 48 ≤ reach):∃ A k,vT = .slice A ts.length k∧rep W (old W.heap.size) [.slice A ts.length k] ts:=by
 have hr:rep W (old W.heap.size) [vT] ts:=rep_of_own d.own (Chunks.more (zr_old (Nat.le_refl _)) d.ch) hl (fun g _ _ h2=>h2)
 obtain ⟨A,k,e⟩:=slice_form hr
 injection e with e
 subst e
 exact ⟨A,k,rfl,hr⟩
theorem PlO.cell5 (d:PlO w m q5 q8 qs gcs h vL lv sz vT ts xs W) {j:Nat} {u:Value} (hu:gcs[j]? = some u):W.cell? ⟨q5,j,none⟩ = some u:=cell_row d.g5 hu
theorem PlO.cell8 (d:PlO w m q5 q8 qs gcs h vL lv sz vT ts xs W) {j:Nat} {u:Value} (hu:[vT,.slice (some ⟨qs,0,none⟩) sz.length sz.length,vL][j]? = some u):W.cell? ⟨q8,4 + j,none⟩ = some u :=
 cell_row d.p8 (by rw [List.getElem?_append_right (by rw [d.len];omega),d.len,Nat.add_sub_cancel_left];exact hu)
theorem PlO.at5 (d:PlO w m q5 q8 qs gcs h vL lv sz vT ts xs W):At W q5 0 gcs:=fun j u hu=>by rw [Nat.zero_add];exact d.cell5 hu
theorem PlO.next (d:PlO w m q5 q8 qs gcs h vL lv sz vT ts xs W) (hb:Below W.heap.size W W'):PlO w m q5 q8 qs gcs h vL lv sz vT ts xs W':=by
 have hle:=d.le
 have h5:=d.b5
 have h8:=d.b8
 have hs:=d.bs
 have kq:Keeps (Zq (w.heap.size + 2) m q5 q8 qs) W W':=Keeps.of_below hb fun k (hk:w.heap.size + 2 ≤ k∧k < m∧k ≠ q5∧k ≠ q8∧k ≠ qs)=>by omega
 exact ⟨d.below.trans (hb.mono (by omega)),(hb.block _ (by omega)).trans d.res,(hb.block _ (by omega)).trans d.g5,(hb.block _ (by omega)).trans d.p8,(hb.block _ (by omega)).trans d.ss,h5,h8,hs,d.ne,Rep.keep d.dat kq,Rep.keep d.liv kq,
  own_below d.own hb,Chunks.more (zr_le hb.size) (Chunks.keep (zr_keep hb) d.ch),Nat.le_trans hle hb.size⟩
theorem PlO.size (d:PlO w m q5 q8 qs gcs h vL lv sz vT ts xs W) (j:Nat) (x:Int):PlO w m q5 q8 qs gcs h vL lv (sz.set j x) vT ts xs (W.setRow qs ((sz.map (Value.int .i64)).set j (.int .i64 x)).toArray):=by
 have hle:=d.le
 have h5:=d.b5
 have h8:=d.b8
 have hs:=d.bs
 have hn:=d.ne
 have kq:Keeps (Zq (w.heap.size + 2) m q5 q8 qs) W (W.setRow qs ((sz.map (Value.int .i64)).set j (.int .i64 x)).toArray):=Keeps.of_block fun k (hk:w.heap.size + 2 ≤ k∧k < m∧k ≠ q5∧k ≠ q8∧k ≠ qs)=>heap_setRow_other _ _ _ _ hk.2.2.2.2
 refine ⟨below_setRow' d.below (by omega) _,(heap_setRow_other _ _ _ _ (by omega)).trans d.res,(heap_setRow_other _ _ _ _ hn.2.1).trans d.g5,(heap_setRow_other _ _ _ _ hn.2.2).trans (by rw [List.length_set];exact d.p8),?_,h5,h8,hs,hn,Rep.keep d.dat kq,Rep.keep d.liv kq,own_setRow d.own (fun b hb=>by have:=(d.own.lt b hb).1;omega) _,?_,by rw [size_setRow];exact hle⟩
 ·rw [List.map_set]
  exact heap_setRow _ _ _ _ _ d.ss
 ·rw [size_setRow]
  exact Chunks.keep (Keeps.of_block fun k (hk:m ≤ k∧k < W.heap.size∧vT.ownBlock ≠ some k)=>heap_setRow_other _ _ _ _ (by omega)) d.ch
theorem PlO.more (d:PlO w m q5 q8 qs gcs h vL lv sz vT ts xs W) {W2 W3:World} {vT' vA:Value} {t:TaskD} {ob:Obj} (hb:Below W.heap.size W W2) (hz:rep W2 (Zr m W2.heap.size vT) [vA] t.after) (hn:I64 t.node) (hlo:I64 t.lo) (hhi:I64 t.hi)
  (hown:W3.ownsRow m 72 4 vT' (ts.length + 1) (xs++[.int .i64 t.node,.int .i64 t.lo,.int .i64 t.hi,vA])) (hg:(W2.alloc ob).grownBy W3 vT.ownBlock) (hs:vT'.ownBlock = vT.ownBlock ∨ vT'.ownBlock = some (W2.heap.size + 1)) :
  PlO w m q5 q8 qs gcs h vL lv sz vT' (ts++[t]) (xs++[.int .i64 t.node,.int .i64 t.lo,.int .i64 t.hi,vA]) (W3.setRow q8 ((gcs++[vT,.slice (some ⟨qs,0,none⟩) sz.length sz.length,vL]).set 4 vT').toArray) ∧
  ∀ {α:Type} [Rep α] (c:List Value) (a:α),rep W2 (Zr m W2.heap.size vT) c a→rep (W3.setRow q8 ((gcs++[vT,.slice (some ⟨qs,0,none⟩) sz.length sz.length,vL]).set 4 vT').toArray) (Zr m (W3.setRow q8 ((gcs++[vT,.slice (some ⟨qs,0,none⟩) sz.length sz.length,vL]).set 4 vT').toArray).heap.size vT') c a:=by
 have d2:=d.next hb
 have hsz:W2.heap.size + 1 ≤ W3.heap.size:=by have:=hg.size;rwa [World.size_alloc] at this
 have hle:=d2.le
 have h5:=d2.b5
 have h8:=d2.b8
 have hqs:=d2.bs
 have hne:=d2.ne
 have hl:∀ g,vT.ownBlock = some g→m ≤ g∧g < W2.heap.size:=fun g hv=>d2.own.lt g hv
 have hbm:Below m W2 W3:=((Below.refl _ _).alloc hle ob).grown hg (by rw [World.size_alloc];omega) (fun g hg=>(hl g hg).1)
 have e8:(gcs++[vT,.slice (some ⟨qs,0,none⟩) sz.length sz.length,vL]).set 4 vT' = gcs++[vT',.slice (some ⟨qs,0,none⟩) sz.length sz.length,vL]:=by
  rw [List.set_append_right _ _ (by rw [d.len];exact Nat.le_refl _),d.len];rfl
 rw [e8]
 generalize hW9:W3.setRow q8 (gcs++[vT',.slice (some ⟨qs,0,none⟩) sz.length sz.length,vL]).toArray = W9
 have hs9:W9.heap.size = W3.heap.size:=by rw [← hW9,size_setRow]
 have ho9:∀ k,k ≠ q8→W9.heap[k]? = W3.heap[k]?:=fun k hk=>by rw [← hW9];exact heap_setRow_other _ _ _ _ hk
 have k1:Keeps (Zr m W2.heap.size vT) W2 W9:=Keeps.of_block fun k (hk:m ≤ k∧k < W2.heap.size∧vT.ownBlock ≠ some k)=>(ho9 k (by omega)).trans ((hg.block k (by rw [World.size_alloc];omega) (fun e=>hk.2.2 e.symm)).trans (Below.heap_alloc _ _ _ hk.2.1))
 have l1:(Zr m W2.heap.size vT).le (Zr m W9.heap.size vT'):=⟨fun b (hb:m ≤ b∧b < W2.heap.size∧vT.ownBlock ≠ some b)=>⟨hb.1,by rw [hs9];omega,fun e=>by
  rcases hs with hs | hs
  ·exact hb.2.2 (hs ▸ e)
  ·rw [hs] at e;injection e with e;omega⟩,fun e=>by cases e⟩
 have kq:Keeps (Zq (w.heap.size + 2) m q5 q8 qs) W2 W9:=Keeps.of_block fun k (hk:w.heap.size + 2 ≤ k∧k < m∧k ≠ q5∧k ≠ q8∧k ≠ qs)=>(ho9 k hk.2.2.2.1).trans (hbm.block k hk.2.1)
 have hb9:Below w.heap.size w W9:=by rw [← hW9];exact below_setRow' (d2.below.trans (hbm.mono (by omega))) (by omega) _
 refine ⟨⟨hb9,(ho9 _ (by omega)).trans ((hbm.block _ (by omega)).trans d2.res),(ho9 _ hne.1).trans ((hbm.block _ h5.2).trans d2.g5),?_,(ho9 _ (fun e=>hne.2.2 e.symm)).trans ((hbm.block _ hqs.2).trans d2.ss),h5,h8,hqs,hne,Rep.keep d2.dat kq,Rep.keep d2.liv kq,?_,?_,by rw [hs9];omega⟩,fun c a hr=>Rep.more (Rep.keep hr k1) l1⟩
 ·rw [← hW9]
  exact heap_setRow _ _ _ _ _ ((hbm.block _ h8.2).trans d2.p8)
 ·rw [← hW9,List.length_append]
  exact own_setRow hown (fun b hb=>by have:=(hown.lt b hb).1;omega) _
 ·exact Chunks.snoc (Chunks.more l1 (Chunks.keep k1 d2.ch)) (shut_TaskD hn hlo hhi (Rep.more (Rep.keep hz k1) l1))
end
theorem PlO.fin {w W:World} {m q5 q8 qs:Nat} {gcs:List Value} {h:GraphD} {vL vT:Value} {lv:List Bool} {sz:List Int} {ts:List TaskD} {xs:List Value} (d:PlO w m q5 q8 qs gcs h vL lv sz vT ts xs W) (hl:ts.length * 48 ≤ reach) (hs:∀ x ∈ sz,I64 x) (hsl:sz.length ≤ 1048576) (cs:List Value) (hc:cs = gcs++[vT,.slice (some ⟨qs,0,none⟩) sz.length sz.length,vL]) :
  Below w.heap.size w (W.setRow (w.heap.size + 1) (z7.take 0++cs++z7.drop (0 + cs.length)).toArray)∧(W.setRow (w.heap.size + 1) (z7.take 0++cs++z7.drop (0 + cs.length)).toArray).heap[w.heap.size + 1]? = some (.cells cs.toArray 30 (0,0))∧rep (W.setRow (w.heap.size + 1) (z7.take 0++cs++z7.drop (0 + cs.length)).toArray) (old (W.setRow (w.heap.size + 1) (z7.take 0++cs++z7.drop (0 + cs.length)).toArray).heap.size) cs ({ graph:=h,live:=lv,tasks:=ts,size:=sz }:PlanD):=by
 have hlen:=d.len
 have hcl:cs.length = 7:=by rw [hc,List.length_append,hlen];rfl
 have e:z7.take 0++cs++z7.drop (0 + cs.length) = cs:=by
  rw [List.take_zero,List.nil_append,List.drop_of_length_le (by rw [hcl];exact Nat.le_refl _),List.append_nil]
 rw [e]
 have h5:=d.b5
 have h8:=d.b8
 have hqs:=d.bs
 have hle:=d.le
 have kp:Keeps (Zb (w.heap.size + 2) W.heap.size) W (W.setRow (w.heap.size + 1) cs.toArray):=Keeps.of_block fun k (hk:w.heap.size + 2 ≤ k∧k < W.heap.size)=>heap_setRow_other _ _ _ _ (by omega)
 have lo:(Zb (w.heap.size + 2) W.heap.size).le (old (W.setRow (w.heap.size + 1) cs.toArray).heap.size):=⟨fun b (hb:w.heap.size + 2 ≤ b∧b < W.heap.size)=>by rw [size_setRow];exact hb.2,fun e=>by cases e⟩
 have zf:(Zq (w.heap.size + 2) m q5 q8 qs).le (Zb (w.heap.size + 2) W.heap.size):=⟨fun b (hb:w.heap.size + 2 ≤ b∧b < m∧b ≠ q5∧b ≠ q8∧b ≠ qs)=>⟨hb.1,Nat.lt_of_lt_of_le hb.2.1 hle⟩,fun e=>by cases e⟩
 have hr:rep W (Zb (w.heap.size + 2) W.heap.size) [vT] ts:=rep_of_own d.own (Chunks.more (show (Zr m W.heap.size vT).le (Zb (w.heap.size + 2) W.heap.size) from ⟨fun b (hb:m ≤ b∧b < W.heap.size∧vT.ownBlock ≠ some b)=>⟨by omega,hb.2.1⟩,fun e=>by cases e⟩) d.ch) hl (fun g _ h1 h2=>⟨by omega,h2⟩)
 have hsz:W.ownsRow (w.heap.size + 2) 3 1 (.slice (some ⟨qs,0,none⟩) sz.length sz.length) sz.length (sz.map (Value.int .i64)):=by
  refine ⟨by rw [List.length_map,Nat.mul_one],.inr ⟨qs,sz.length,_,rfl,by omega,d.ss,Nat.le_refl _,by unfold maxLen;omega,by rw [List.size_toArray,List.length_map,Nat.mul_one],?_⟩⟩
  rw [List.take_of_length_le (by rw [Nat.mul_one];show (sz.map (Value.int .i64)).length ≤ _;rw [List.length_map];exact Nat.le_refl _)]
 have hrs:rep W (Zb (w.heap.size + 2) W.heap.size) [.slice (some ⟨qs,0,none⟩) sz.length sz.length] sz:=rep_of_own hsz (chunks_of_ints _ hs) (by unfold reach;show sz.length * 8 ≤ _;omega) (fun g _ h1 h2=>⟨h1,h2⟩)
 refine ⟨below_setRow' d.below (by omega) _,heap_setRow _ _ _ _ _ d.res,?_⟩
 rw [hc] at kp lo ⊢
 exact shut_PlanD (a:={ graph:=h,live:=lv,tasks:=ts,size:=sz }) (Rep.more (Rep.keep (Rep.more d.dat zf) kp) lo) (Rep.more (Rep.keep hr kp) lo) (Rep.more (Rep.keep hrs kp) lo) (Rep.more (Rep.keep (Rep.more d.liv zf) kp) lo)
theorem graph_parts {W:World} {Z:Zone} {h:GraphD} {A1 A2 A3 A4:Option Addr} {k1 k2 k3 k4:Nat} (hr:rep W Z [.slice A1 h.vals.length k1,.slice A2 h.nodes.length k2,.slice A3 h.inputs.length k3,.slice A4 h.outputs.length k4] h) :
  rep W Z [.slice A1 h.vals.length k1] h.vals∧rep W Z [.slice A2 h.nodes.length k2] h.nodes∧rep W Z [.slice A3 h.inputs.length k3] h.inputs∧rep W Z [.slice A4 h.outputs.length k4] h.outputs:=by
 obtain ⟨B1,j1,B2,j2,B3,j3,B4,j4,he,r1,r2,r3,r4⟩:=open_GraphD hr
 simp only [List.cons.injEq,Value.slice.injEq,and_true,true_and] at he
 obtain ⟨⟨rfl,rfl⟩,⟨rfl,rfl⟩,⟨rfl,rfl⟩,rfl,rfl⟩:=he
 exact ⟨r1,r2,r3,r4⟩
theorem elem_val {W:World} {Z:Zone} {l:List ValD} {A:Option Addr} {k j:Nat} {v:ValD} (hr:rep W Z [.slice A l.length k] l) (hv:l[j]? = some v):∃ b o vc,A = some ⟨b,o,none⟩∧Z.blk b∧At W b (o + j * 8) vc∧rep W Z vc v:=by
 obtain ⟨A',c',xs,he,-,-,-,hl,hch⟩:=open_slice hr
 injection he with he
 subst he
 obtain ⟨b,o,zc,hA,hbB,hrz,hcell⟩:=elem_at hl hch (by decide) hv
 exact ⟨b,o,zc,hA,hbB,fun i u hu=>by rw [Nat.add_assoc];exact (hcell i u hu).1,hrz⟩
theorem elem_node {W:World} {Z:Zone} {l:List GNodeD} {A:Option Addr} {k j:Nat} {v:GNodeD} (hr:rep W Z [.slice A l.length k] l) (hv:l[j]? = some v):∃ b o vc,A = some ⟨b,o,none⟩∧Z.blk b∧At W b (o + j * 40) vc∧rep W Z vc v:=by
 obtain ⟨A',c',xs,he,-,-,-,hl,hch⟩:=open_slice hr
 injection he with he
 subst he
 obtain ⟨b,o,zc,hA,hbB,hrz,hcell⟩:=elem_at hl hch (by decide) hv
 exact ⟨b,o,zc,hA,hbB,fun i u hu=>by rw [Nat.add_assoc];exact (hcell i u hu).1,hrz⟩
theorem node_outs {W:World} {Z:Zone} {zc:List Value} {z:GNodeD} {A:Option Addr} {k:Nat} (hr:rep W Z zc z) (h:zc[38]? = some (.slice A z.outs.length k)):rep W Z [.slice A z.outs.length k] z.outs:=by
 obtain ⟨ss,I1,i1,O1,o1,-,-,z38,-,-,-,zo,-⟩:=gnode_facts hr
 rw [h] at z38
 injection z38 with z38
 rw [z38]
 exact zo
structure ExN (n m q5 q8 qs q12:Nat) (zc:List Value) (z:GNodeD) (W:World):Prop where
 le:m ≤ q12
 row:W.heap[q12]? = some (.cells zc.toArray 50 (0,0))
 rz:rep W (Zq n m q5 q8 qs) zc z
theorem ExN.next {n m q5 q8 qs q12:Nat} {zc:List Value} {z:GNodeD} {W W':World} (d:ExN n m q5 q8 qs q12 zc z W) (hb:Below W.heap.size W W'):ExN n m q5 q8 qs q12 zc z W':=by
 have h1:=(Array.getElem?_eq_some_iff.1 d.row).1
 have h2:=d.le
 exact ⟨d.le,(hb.block _ h1).trans d.row,Rep.keep d.rz (Keeps.of_below hb fun k (hk:n ≤ k∧k < m∧k ≠ q5∧k ≠ q8∧k ≠ qs)=>by omega)⟩
theorem ExN.size {n m q5 q8 qs q12:Nat} {zc:List Value} {z:GNodeD} {W:World} (d:ExN n m q5 q8 qs q12 zc z W) (hq:qs < m) (x:Array Value):ExN n m q5 q8 qs q12 zc z (W.setRow qs x):=by
 have h2:=d.le
 exact ⟨d.le,(heap_setRow_other _ _ _ _ (by omega)).trans d.row,Rep.keep d.rz (Keeps.of_block fun k (hk:n ≤ k∧k < m∧k ≠ q5∧k ≠ q8∧k ≠ qs)=>heap_setRow_other _ _ _ _ hk.2.2.2.2)⟩
theorem sizesD_skip {g:GraphD} {lv:List Bool} {m:Nat} (h:lv[m]? = some false):sizesD g lv (m + 1) = sizesD g lv m:=by
 unfold sizesD
 rw [if_neg (by rw [h];decide)]
 cases m <;> simp only [sizesD]
theorem sizesD_live {g:GraphD} {lv:List Bool} {m:Nat} (h:lv[m]? = some true):sizesD g lv (m + 1) = putS g.vals (sizesD g lv m) (gOuts g m):=by
 rw [sizesD,if_pos h]
theorem tasksD_skip {g:GraphD} {lv:List Bool} {sz:Nat→Nat} {m:Nat} (h:lv[m]? = some false):tasksD g lv sz (m + 1) = tasksD g lv sz m:=by
 rw [tasksD,if_neg (by rw [h];decide),List.append_nil]
theorem tasksD_live {g:GraphD} {lv:List Bool} {sz:Nat→Nat} {m:Nat} (h:lv[m]? = some true):tasksD g lv sz (m + 1) = tasksD g lv sz m++tasksOf (gOp g m) (sz m) m (afterD g (tasksD g lv sz m) (gIns g m)):=by
 rw [tasksD,if_pos h]
theorem tasksD_in {g:GraphD} {lv:List Bool} {sz:Nat→Nat} {m:Nat}:∀ t ∈ tasksD g lv sz m,0 ≤ t.node∧t.node < (m:Int):=fun t ht=>by
 obtain ⟨q,hq⟩:=List.mem_iff_getElem?.1 ht
 obtain ⟨i,hi,hn,-⟩:=task_at hq
 omega
theorem taskInfoZ:(Tryz.prog.info? 72).map (fun i=>(i.zero,i.size,i.bytes)) = some (some (.agg zeroTk.toArray),4,48):=by kernel_rfl
theorem own_one8 {W:World} {v9:Value} {e:TypeId} {size n:Nat} {xs:List Value} {lo:Nat} (h:W.ownsRow lo e size v9 (n + 1) xs):v9.oneCell' = true:=by
 rcases h.2 with ⟨hv,h0⟩ | ⟨g,cap,cur,hv,_⟩
 ·omega
 ·rw [hv];rfl
theorem PlO.row8 {w W:World} {m q5 q8 qs:Nat} {gcs:List Value} {h:GraphD} {vL vT:Value} {lv:List Bool} {sz:List Int} {ts:List TaskD} {xs:List Value} (d:PlO w m q5 q8 qs gcs h vL lv sz vT ts xs W) {W3:World} {ob:Obj} (hg:(W.alloc ob).grownBy W3 vT.ownBlock) :
  W3.heap[q8]? = some (.cells (gcs++[vT,.slice (some ⟨qs,0,none⟩) sz.length sz.length,vL]).toArray 30 (0,0)):=by
 have h1:=d.b8
 have h2:=d.le
 exact (hg.block q8 (by rw [World.size_alloc];omega) (fun e=>by have:=(d.own.lt q8 e.symm).1;omega)).trans ((Below.heap_alloc _ _ _ (by omega)).trans d.p8)
structure PlS (w:World) (q5:Nat) (gcs:List Value) (h:GraphD) (W:World):Prop where
 below:Below w.heap.size w W
 res:W.heap[w.heap.size + 1]? = some (.cells z7.toArray 30 (0,0))
 g5:W.heap[q5]? = some (.cells gcs.toArray 26 (0,0))
 lt:w.heap.size + 1 < q5∧q5 < W.heap.size
 dat:rep W (Zb (w.heap.size + 2) q5) gcs h
theorem PlS.next {w W W':World} {q5:Nat} {gcs:List Value} {h:GraphD} (d:PlS w q5 gcs h W) (hb:Below W.heap.size W W'):PlS w q5 gcs h W':=by
 have hl:=d.lt
 exact ⟨d.below.trans (hb.mono (by omega)),(hb.block _ (by omega)).trans d.res,(hb.block _ hl.2).trans d.g5,⟨hl.1,Nat.lt_of_lt_of_le hl.2 hb.size⟩,Rep.keep d.dat (Keeps.of_below hb fun k (hk:w.heap.size + 2 ≤ k∧k < q5)=>by omega)⟩
theorem PlS.graph {w W:World} {q5:Nat} {gcs:List Value} {h:GraphD} (d:PlS w q5 gcs h W):rep W (old W.heap.size) gcs h :=
 Rep.more d.dat ⟨fun b (hb:w.heap.size + 2 ≤ b∧b < q5)=>Nat.lt_trans hb.2 d.lt.2,fun e=>by cases e⟩
structure Lay3 (W5:World) (n:Nat) (lv:List Bool) (o8 os:Option Nat) (oL:Option Value) (W:World):Prop where
 below:Below W5.heap.size W5 W
 l8:∀ q,o8 = some q→W5.heap.size ≤ q∧W.heap[q]? = some (.cells z7.toArray 30 (0,0))
 ls:∀ q,os = some q→W5.heap.size ≤ q∧W.heap[q]? = some (.cells ((List.replicate n (0:Int)).map (Value.int .i64)).toArray 3 (0,0))
 ll:∀ v,oL = some v→rep W ⟨fun b=>W5.heap.size ≤ b∧b < W.heap.size∧o8 ≠ some b∧os ≠ some b,false⟩ [v] lv
section
variable {W5 W W':World} {n:Nat} {lv:List Bool} {o8 os:Option Nat} {oL:Option Value}
theorem Lay3.start (W5:World) (n:Nat) (lv:List Bool):Lay3 W5 n lv none none none W5:=⟨Below.refl _ _,(fun _ e=>by cases e),(fun _ e=>by cases e),(fun _ e=>by cases e)⟩
theorem row_lt {W:World} {q:Nat} {o:Obj} (h:W.heap[q]? = some o):q < W.heap.size:=(Array.getElem?_eq_some_iff.1 h).1
theorem Lay3.plan (h:Lay3 W5 n lv none os oL W):Lay3 W5 n lv (some W.heap.size) os oL (W.alloc (.cells z7.toArray 30)):=by
 have hb:Below W.heap.size W (W.alloc (.cells z7.toArray 30)):=(Below.refl _ _).alloc (Nat.le_refl _) _
 refine ⟨h.below.trans (hb.mono h.below.size),fun q e=>?_,fun q e=>⟨(h.ls q e).1,(hb.block _ (row_lt (h.ls q e).2)).trans (h.ls q e).2⟩,fun v e=>?_⟩
 ·injection e with e
  subst e
  exact ⟨h.below.size,heap_alloc_new _ _⟩
 ·refine Rep.more (Rep.keep (h.ll v e) (Keeps.of_below hb fun k hk=>hk.2.1)) ⟨fun b hk=>⟨hk.1,by rw [World.size_alloc];have:=hk.2.1;omega,fun e=>?_,hk.2.2.2⟩,fun e=>by cases e⟩
  injection e with e
  have:=hk.2.1
  omega
theorem Lay3.sizes (h:Lay3 W5 n lv o8 none oL W):Lay3 W5 n lv o8 (some W.heap.size) oL (W.alloc (.cells (Array.replicate n (.int .i64 0)) 3)):=by
 have hb:Below W.heap.size W (W.alloc (.cells (Array.replicate n (.int .i64 0)) 3)):=(Below.refl _ _).alloc (Nat.le_refl _) _
 refine ⟨h.below.trans (hb.mono h.below.size),fun q e=>⟨(h.l8 q e).1,(hb.block _ (row_lt (h.l8 q e).2)).trans (h.l8 q e).2⟩,fun q e=>?_,fun v e=>?_⟩
 ·injection e with e
  subst e
  exact ⟨h.below.size,by rw [← ints_arr];exact heap_alloc_new _ _⟩
 ·refine Rep.more (Rep.keep (h.ll v e) (Keeps.of_below hb fun k hk=>hk.2.1)) ⟨fun b hk=>⟨hk.1,by rw [World.size_alloc];have:=hk.2.1;omega,hk.2.2.1,fun e=>?_⟩,fun e=>by cases e⟩
  injection e with e
  have:=hk.2.1
  omega
theorem Lay3.live {v:Value} (h:Lay3 W5 n lv o8 os none W) (hb:Below W.heap.size W W') (hr:rep W' (fresh W.heap.size W'.heap.size) [v] lv):Lay3 W5 n lv o8 os (some v) W':=by
 refine ⟨h.below.trans (hb.mono h.below.size),fun q e=>⟨(h.l8 q e).1,(hb.block _ (row_lt (h.l8 q e).2)).trans (h.l8 q e).2⟩,fun q e=>⟨(h.ls q e).1,(hb.block _ (row_lt (h.ls q e).2)).trans (h.ls q e).2⟩,fun u e=>?_⟩
 injection e with e
 subst e
 have hs:=h.below.size
 exact Rep.more hr ⟨fun b (hk:W.heap.size ≤ b∧b < W'.heap.size)=>⟨by omega,hk.2,fun e=>by have:=row_lt (h.l8 b e).2;omega,fun e=>by have:=row_lt (h.ls b e).2;omega⟩,fun e=>by cases e⟩
theorem Lay3.fin {w:World} {q5 q8 qs:Nat} {gcs:List Value} {g:GraphD} {vL:Value} (d:PlS w q5 gcs g W5) (h:Lay3 W5 n lv (some q8) (some qs) (some vL) W) {cs:List Value} (hc:cs = gcs++[.slice none 0 0,.slice (some ⟨qs,0,none⟩) n n,vL]) :
  W.heap[q8]? = some (.cells z7.toArray 30 (0,0)) ∧
  PlO w W.heap.size q5 q8 qs gcs g vL lv (List.replicate n 0) (.slice none 0 0) [] [] (W.setRow q8 (z7.take 0++cs++z7.drop (0 + cs.length)).toArray):=by
 obtain ⟨g8,r8⟩:=h.l8 q8 rfl
 obtain ⟨gs,rs⟩:=h.ls qs rfl
 have hl:=d.lt
 have hlen:gcs.length = 4:=Rep.len d.dat
 have l8:=row_lt r8
 have ls:=row_lt rs
 have hne:q8 ≠ qs:=fun e=>by
  rw [e,rs] at r8
  injection r8 with r8
  injection r8 with _ r8 _
  exact absurd r8 (by decide)
 have h5:q5 < W.heap.size:=Nat.lt_of_lt_of_le hl.2 h.below.size
 have d':PlS w q5 gcs g W:=d.next h.below
 have hcl:cs.length = 7:=by rw [hc,List.length_append,hlen];rfl
 have e:z7.take 0++cs++z7.drop (0 + cs.length) = cs:=by
  rw [List.take_zero,List.nil_append,List.drop_of_length_le (by rw [hcl];exact Nat.le_refl _),List.append_nil]
 refine ⟨r8,?_⟩
 rw [e]
 have kp:Keeps ⟨fun b=>b < W.heap.size∧b ≠ q8,false⟩ W (W.setRow q8 cs.toArray):=Keeps.of_block fun k (hk:k < W.heap.size∧k ≠ q8)=>heap_setRow_other _ _ _ _ hk.2
 refine ⟨below_setRow' d'.below (by omega) _,(heap_setRow_other _ _ _ _ (by omega)).trans d'.res,(heap_setRow_other _ _ _ _ (by omega)).trans d'.g5,?_,(heap_setRow_other _ _ _ _ (fun e=>hne e.symm)).trans rs,⟨hl.1,h5⟩,⟨by omega,l8⟩,⟨by omega,ls⟩,⟨by omega,by omega,hne⟩,?_,?_,World.ownsRow_nil _ _ _ _,rfl,by rw [size_setRow];exact Nat.le_refl _⟩
 ·rw [List.length_replicate,← hc]
  exact heap_setRow _ _ _ _ _ r8
 ·exact Rep.more (Rep.keep d'.dat (Keeps.less kp ⟨fun b (hb:w.heap.size + 2 ≤ b∧b < q5)=>⟨by omega,by omega⟩,fun e=>by cases e⟩)) ⟨fun b (hb:w.heap.size + 2 ≤ b∧b < q5)=>⟨hb.1,by omega,by omega,by omega,by omega⟩,fun e=>by cases e⟩
 ·refine Rep.more (Rep.keep (h.ll vL rfl) (Keeps.less kp ⟨fun b hb=>⟨hb.2.1,fun e=>hb.2.2.1 (by rw [e])⟩,fun e=>by cases e⟩)) ⟨fun b hb=>?_,fun e=>by cases e⟩
  obtain ⟨h1,h2,h3,h4⟩:=hb
  exact ⟨by omega,h2,by omega,fun e=>h3 (by rw [e]),fun e=>h4 (by rw [e])⟩
end
theorem steps_make_ints {md:Region.Mode} {ops:Array Oper} {Q:Exit→Act→World→Prop} {S:World→Prop} {fuel:Nat} {listed:Array Bool} {a:Act} {w:World} {o:Oper} {i:Nat} (x y:Operand) (n:Nat) (hw:Region.wanted o (yielded ops a.tmps) = true) (ho:o.op = .makeSlice 24 x y) (hn:n ≤ 1048576)
  (hx:a.eval x = .int .i64 (n:Int)) (hy:a.eval y = .int .i64 (n:Int)) (hS:S (w.alloc (.cells (Array.replicate n (.int .i64 0)) 3)))
  (h:wpAnyH Tryz.prog md ops Q S fuel (listed.setIfInBounds i true) (a.put o.dst (.slice (some ⟨w.heap.size,0,none⟩) n n)) (w.alloc (.cells (Array.replicate n (.int .i64 0)) 3))):StepTo Tryz.prog md ops Q S fuel listed i o a w:=by
 refine ⟨hw,_,_,?_,hS,h⟩
 unfold execOp
 simp [ho,hx,hy,make_ints n w hn,Result.andThen]
section
variable {P:Program} {md:Region.Mode} {ops:Array Oper} {Q:Exit→Act→World→Prop} {S:World→Prop}
theorem anyH_call_lay2 (i j k:Nat) (d:Option Tmp) {fuel:Nat} {listed:Array Bool} {a:Act} {w:World} {o o' o2:Oper} (hio:ops[i]? = some o) (hjo:ops[j]? = some o') (hko:ops[k]? = some o2) (hd:o.dst = d) (hr:Region.ready md ops listed = [i,j,k])
  (hw:Region.wanted o (yielded ops a.tmps) = true) (f:FuncId) (xs:Array Operand) (ts:Array TypeId) (ho:o.op = .call { callee:=.value (.func f),args:=xs,argTypes:=ts }) (vs:Array Value) (hv:xs.map a.eval = vs) (hc:∀ w,(callFunc f vs).run P w = .ok (.enter f vs) w)
  (h:Calls P f vs w fun e w'=>∃ u,e = .returned u∧S w'∧wpAnyH P md ops Q S fuel (listed.setIfInBounds i true) (a.put d u) w')
  (h':StepTo P md ops Q S fuel listed j o' a w) (h2:StepTo P md ops Q S fuel listed k o2 a w):wpAnyH P md ops Q S (fuel + 1) listed a w:=by
 subst hd
 refine wpAnyH_ready hr (by simp) (AllReadyH.cons hio (fun K hK=>?_) (AllReadyH.cons hjo (fun _ hK=>step_to h' hK) (AllReadyH.cons hko (fun _ hK=>step_to h2 hK) AllReadyH.nil)))
 rw [if_pos hw]
 unfold Oper.wp
 simp only [execOp,ho]
 have hf:a.eval (Operand.func f) = .func (.func f) #[] #[]:=rfl
 simp [hv,hf,resolve,invoke,Deferred.ofValue,hc]
 refine h.mono fun e w' ⟨u,he,hS,hk⟩=>?_
 subst he
 exact hK.out _ _ hS (fun _=>hk)
theorem one_t9 {T:List Nat} (i:Nat) (d:Option Tmp) {n:Nat} {listed:Array Bool} {a:Act} {w w':World} {o:Oper} {u:Value} (hio:ops[i]? = some o) (hd:o.dst = d) (hr:Region.ready md ops listed = [i])
  (hw:Region.wanted o (yielded ops a.tmps) = true) (hrun:(execOp a.eval o).run P w = .ok (.value u) w') (hS:S w')
  (h:wpAnyT P md ops Q S T n (listed.setIfInBounds i true) (a.put d u) w'):wpAnyT P md ops Q S T (n + 1) listed a w:=by
 subst hd
 refine ⟨fun h0=>(by rw [hr] at h0;cases h0),fun j hj=>?_⟩
 rw [hr] at hj
 cases List.mem_singleton.1 hj
 unfold wpOp
 simp only [hio]
 rw [if_pos hw]
 refine Or.inl ?_
 unfold Oper.wp
 rw [hrun]
 exact ⟨fun _=>hS,h⟩
theorem lay_t9 {T:List Nat} (i:Nat) (d:Option Tmp) {n:Nat} {listed:Array Bool} {a:Act} {w:World} {o:Oper} (hio:ops[i]? = some o) (hd:o.dst = d) (hr:Region.ready md ops listed = [i])
  (hw:Region.wanted o (yielded ops a.tmps) = true) (v:Value) (ob:Obj) (hl:laySem P (execOp a.eval o) w.heap.size = some (.value v,[ob])) (hS:S (w.alloc ob))
  (h:wpAnyT P md ops Q S T n (listed.setIfInBounds i true) (a.put d v) (w.alloc ob)):wpAnyT P md ops Q S T (n + 1) listed a w :=
 one_t9 i d hio hd hr hw (run_lay _ rfl hl) hS h
theorem append_t9 {T:List Nat} (i:Nat) (d:Option Tmp) {n0:Nat} {listed:Array Bool} {a:Act} {w:World} {o:Oper} (hio:ops[i]? = some o) (hd:o.dst = d) (hr:Region.ready md ops listed = [i]) (hw:Region.wanted o (yielded ops a.tmps) = true) (s x:Operand) (t:TypeId)
  (ho:o.op = .call { callee:=.builtin .append,args:=#[s,x],argTypes:=#[t,t] })
  (base:Nat) (e:TypeId) (j:TypeInfo) (z:Value) (size bytes:Nat) (ht:P.underlying t = some (.slice e)) (hi:P.info? e = some j) (hz:j.zero = some z)
  (hsize:j.size = size) (hby:j.bytes = bytes) (hzs:z.cells.size = size) (hsz:0 < size)
  (v:Value) (n:Nat) (xs:List Value) (hs:a.eval s = v) (hown:w.ownsRow base e size v n xs)
  (ad:Addr) (m c:Nat) (news:List Value) (hx:a.eval x = .slice (some ad) m c) (hl:news.length = m * size) (hnews:∀ j u,news[j]? = some u→w.cell? (ad.add j) = some u) (h1:∀ u ∈ news,u.oneCell' = true)
  (h63:n + m ≤ maxLen) (hbytes:(n + m) * bytes ≤ 140737488355328) (hbase:base ≤ w.heap.size)
  (h:∀ v' w',w'.ownsRow base e size v' (n + m) (xs++news)→w.grownBy w' v.ownBlock→(v'.ownBlock = v.ownBlock ∨ v'.ownBlock = some w.heap.size)→S w'∧wpAnyT P md ops Q S T n0 (listed.setIfInBounds i true) (a.put d v') w') :
  wpAnyT P md ops Q S T (n0 + 1) listed a w:=by
 obtain ⟨v',w',hrun,h2,h3,h4,h5⟩:=run_append_own_at (P:=P) w base t o.type e j z size bytes ht hi hz hsize hby hzs hsz v n xs hown ad m c news hl hnews h1 h63 hbytes hbase
 obtain ⟨hS,hk⟩:=h v' w' h2 h3 h5
 refine one_t9 i d hio hd hr hw ?_ hS hk
 simp [execOp,ho,resolve,invoke,builtin,hs,hx,hrun,Result.andThen]
end
end Go.Proofs.YtoeaglpmkjoenaaGreat
