/-
  Chapter 20: a plan in a law's own box. No condition.
-/
/-
  Chapter 20: latticelaw20.three: the document's example, as data. No condition.
-/
/-
  Chapter 20: what the plan of the document's example is. No program in sight.
-/
/-
  Chapter 20: latticeref04.Size says what shape.Size says; latticeref04.SameInts of equal lists. No condition.
-/
/-
  Chapter 20: latticelaw20.awake: the document's example holds. No condition.
-/
import Derived.Test.YtilobeohkomeoaaGreatQLwT
import Derived.Test.YtilobeohkomeoaaGreatQPof
import Derived.Deep.QuietTactic
import Derived.BigQuiet
import Derived.Test.YtilobeohkomeoaaGreatQAxes
import Derived.Test.YtilobeohkomeoaaGreatQGNode
set_option linter.unusedSimpArgs false
set_option linter.unusedVariables false
namespace Go.Proofs.YtilobeohkomeoaaGreat
open Go.RowKit
open Rep (rep)
structure LawI (w:World) (q:Nat) (pcs:List Value) (p:PlanD) (W:World):Prop where
 below:Below w.heap.size w W
 row:W.heap[q]? = some (.cells pcs.toArray 31 (0,0))
 dat:rep W (old q) pcs p
 ge:w.heap.size ≤ q
section
variable {w W W':World} {q:Nat} {pcs:List Value} {p:PlanD}
theorem LawI.lt (h:LawI w q pcs p W):q < W.heap.size:=(Array.getElem?_eq_some_iff.1 h.row).1
theorem LawI.next (h:LawI w q pcs p W) (hb:Below W.heap.size W W'):LawI w q pcs p W' :=
 ⟨h.below.trans (hb.mono h.below.size),(hb.block _ h.lt).trans h.row,Rep.keep h.dat (Keeps.old_below hb (Nat.le_of_lt h.lt)),h.ge⟩
theorem LawI.arg (h:LawI w q pcs p W):rep W (old W.heap.size) pcs p:=Rep.more h.dat (old_le (Nat.le_of_lt h.lt))
theorem LawI.cell (h:LawI w q pcs p W) {j:Nat} {u:Value} (hu:pcs[j]? = some u):W.cell? ⟨q,j,none⟩ = some u:=cell_row h.row hu
theorem LawI.at (h:LawI w q pcs p W):At W q 0 pcs:=At.of_row h.row
theorem LawI.size (h:LawI w q pcs p W):(Tryz.prog.info? 31).map (·.size) = some pcs.length:=plan_size h.dat
theorem law_start {w1 w2:World} (hb:Below w.heap.size w w1) (hr:rep w1 (old w1.heap.size) pcs p) (hZ:Below w1.heap.size w1 w2∧w2.heap[w1.heap.size]? = some (.cells pcs.toArray 31 (0,0))∧w2.heap.size = w1.heap.size + 1):LawI w w1.heap.size pcs p w2 :=
 ⟨hb.trans (hZ.1.mono hb.size),hZ.2.1,Rep.keep hr (Keeps.old_below hZ.1 (Nat.le_refl _)),hb.size⟩
structure PlanC (pcs:List Value) (p:PlanD) (A1 A2 A5 A6 A7:Option Addr) (k1 k2 k5 k6 k7:Nat):Prop where
 c0:pcs[0]? = some (.slice A1 p.graph.vals.length k1)
 c1:pcs[1]? = some (.slice A2 p.graph.nodes.length k2)
 c4:pcs[4]? = some (.slice A5 p.tasks.length k5)
 c5:pcs[5]? = some (.slice A6 p.size.length k6)
 c6:pcs[6]? = some (.slice A7 p.live.length k7)
theorem plan_cells {Z:Zone} (h:rep W Z pcs p):∃ A1 A2 A5 A6 A7 k1 k2 k5 k6 k7,PlanC pcs p A1 A2 A5 A6 A7 k1 k2 k5 k6 k7:=by
 obtain ⟨A1,k1,A2,k2,A3,k3,A4,k4,A5,k5,A6,k6,A7,k7,hcs,-⟩:=open_PlanD h
 exact ⟨A1,A2,A5,A6,A7,k1,k2,k5,k6,k7,by rw [hcs];rfl,by rw [hcs];rfl,by rw [hcs];rfl,by rw [hcs];rfl,by rw [hcs];rfl⟩
variable {A1 A2 A5 A6 A7:Option Addr} {k1 k2 k5 k6 k7:Nat} {Z:Zone}
theorem PlanC.vals (c:PlanC pcs p A1 A2 A5 A6 A7 k1 k2 k5 k6 k7) (h:rep W Z pcs p):rep W Z [.slice A1 p.graph.vals.length k1] p.graph.vals:=by
 obtain ⟨B1,j1,B2,j2,B3,j3,B4,j4,B5,j5,B6,j6,B7,j7,hcs,r1,r2,r3,r4,r5,r6,r7⟩:=open_PlanD h
 have e:=c.c0
 rw [hcs] at e
 injection e with e
 injection e with e1 _ e2
 subst e1 e2
 exact r1
theorem PlanC.nodes (c:PlanC pcs p A1 A2 A5 A6 A7 k1 k2 k5 k6 k7) (h:rep W Z pcs p):rep W Z [.slice A2 p.graph.nodes.length k2] p.graph.nodes:=by
 obtain ⟨B1,j1,B2,j2,B3,j3,B4,j4,B5,j5,B6,j6,B7,j7,hcs,r1,r2,r3,r4,r5,r6,r7⟩:=open_PlanD h
 have e:=c.c1
 rw [hcs] at e
 injection e with e
 injection e with e1 _ e2
 subst e1 e2
 exact r2
theorem PlanC.tasks (c:PlanC pcs p A1 A2 A5 A6 A7 k1 k2 k5 k6 k7) (h:rep W Z pcs p):rep W Z [.slice A5 p.tasks.length k5] p.tasks:=by
 obtain ⟨B1,j1,B2,j2,B3,j3,B4,j4,B5,j5,B6,j6,B7,j7,hcs,r1,r2,r3,r4,r5,r6,r7⟩:=open_PlanD h
 have e:=c.c4
 rw [hcs] at e
 injection e with e
 injection e with e1 _ e2
 subst e1 e2
 exact r5
theorem PlanC.sizes (c:PlanC pcs p A1 A2 A5 A6 A7 k1 k2 k5 k6 k7) (h:rep W Z pcs p):rep W Z [.slice A6 p.size.length k6] p.size:=by
 obtain ⟨B1,j1,B2,j2,B3,j3,B4,j4,B5,j5,B6,j6,B7,j7,hcs,r1,r2,r3,r4,r5,r6,r7⟩:=open_PlanD h
 have e:=c.c5
 rw [hcs] at e
 injection e with e
 injection e with e1 _ e2
 subst e1 e2
 exact r6
theorem PlanC.live (c:PlanC pcs p A1 A2 A5 A6 A7 k1 k2 k5 k6 k7) (h:rep W Z pcs p):rep W Z [.slice A7 p.live.length k7] p.live:=by
 obtain ⟨B1,j1,B2,j2,B3,j3,B4,j4,B5,j5,B6,j6,B7,j7,hcs,r1,r2,r3,r4,r5,r6,r7⟩:=open_PlanD h
 have e:=c.c6
 rw [hcs] at e
 injection e with e
 injection e with e1 _ e2
 subst e1 e2
 exact r7
end
theorem befB_eq {p:PlanD} {x y:Int} {b:Bool} (h:BefB p x y b):(BeforeD p x y→b = true)∧(¬ BeforeD p x y→b = false):=⟨fun e=>h.2 e,fun e=>by
 cases b with
 | false=>rfl
 | true=>exact (e (h.1 rfl)).elim⟩
theorem apB_eq {p:PlanD} {x y:Int} {b:Bool} (h:ApB p x y b):(ApartD p x y→b = true)∧(¬ ApartD p x y→b = false):=⟨fun e=>h.2 e,fun e=>by
 cases b with
 | false=>rfl
 | true=>exact (e (h.1 rfl)).elim⟩
end Go.Proofs.YtilobeohkomeoaaGreat
set_option linter.unusedSimpArgs false
set_option linter.unusedVariables false
namespace Go.Proofs.YtilobeohkomeoaaGreat
open Go.RowKit
open Rep (rep)
def setC0:List Value:=[.int .i64 0,.slice none 0 0,.bool false,.bool false,.bool false,.bool false,.bool false,.slice none 0 0,.bool false,.int .u32 0,.int .u32 0,.int .u32 0,.bool false,.bool false,.bool false,.int .i64 0,.int .i64 0,.bool false,.bool false,.int .i64 0,.slice none 0 0,.slice none 0 0,.slice none 0 0,.slice none 0 0,.int .i64 0,.bool false,.bool false,.int .i64 0,.int .i64 0,.int .i64 0,.bool false,.int .i64 0,.slice none 0 0,.slice none 0 0,.slice none 0 0,.slice none 0 0]
def set0:SettingD:=⟨0,[],false,false,false,false,false,[],false,0,0,0,false,false,false,0,0,false,false,0,[],[],[],[],0,false,false,0,0,0,false,⟨0,[],[],[],[]⟩⟩
theorem i64_0:I64 0:=by unfold I64;omega
theorem set0_rep (w:World) (Z:Zone):rep w Z setC0 set0:=by
 have i:∀ j:Nat,setC0[j]? = some (.int .i64 0)→Fld w Z setC0 j (0:Int):=fun j h=>⟨_,h,rfl,i64_0⟩
 have u:∀ j:Nat,setC0[j]? = some (.int .u32 0)→Fld w Z setC0 j (0:Nat):=fun j h=>⟨_,h,rfl,by decide⟩
 have b:∀ j:Nat,setC0[j]? = some (.bool false)→Fld w Z setC0 j false:=fun j h=>⟨_,h,rfl⟩
 have l:∀ j:Nat,setC0[j]? = some (.slice none 0 0)→Fld w Z setC0 j ([]:List Int):=fun j h=>⟨_,h,rep_nil _ _⟩
 exact (⟨rfl,i 0 rfl,l 1 rfl,b 2 rfl,b 3 rfl,b 4 rfl,b 5 rfl,b 6 rfl,l 7 rfl,b 8 rfl,u 9 rfl,u 10 rfl,u 11 rfl,b 12 rfl,b 13 rfl,b 14 rfl,i 15 rfl,i 16 rfl,b 17 rfl,b 18 rfl,i 19 rfl,l 20 rfl,l 21 rfl,l 22 rfl,l 23 rfl,i 24 rfl,b 25 rfl,b 26 rfl,i 27 rfl,i 28 rfl,i 29 rfl,b 30 rfl,
  shut_TensorD (a:=⟨0,[],[],[],[]⟩) i64_0 (rep_nil _ _) (rep_nil _ _) (rep_nil _ _) (rep_nil _ _)⟩:SettingDAt w Z setC0 set0)
def threeD:GraphD:={ vals:=[mkV 1 [40],zeroVD,zeroVD,zeroVD],nodes:=[⟨16,set0,[0],[1],0⟩,⟨2,set0,[1],[2],1⟩,⟨28,set0,[1,2],[3],2⟩],inputs:=[0],outputs:=[3] }
def sl (n k m:Nat):Value:=.slice (some ⟨n + k,0,none⟩) m m
def valC1 (n:Nat):List Value:=[.int .i64 1,sl n 1 1,.bool false,.int .i64 0,.slice none 0 0,.slice none 0 0,.slice none 0 0,.slice none 0 0]
def valC0:List Value:=[.int .i64 0,.slice none 0 0,.bool false,.int .i64 0,.slice none 0 0,.slice none 0 0,.slice none 0 0,.slice none 0 0]
def threeC (n:Nat):List Value:=[sl n 3 4,sl n 12 3,sl n 4 1,sl n 5 1]
def nodesC3 (n:Nat):List Value:=([.int .i64 16]++(setC0++([sl n 6 1]++([sl n 7 1]++[.int .i64 0]))))++(([.int .i64 2]++(setC0++([sl n 8 1]++([sl n 9 1]++[.int .i64 1]))))++([.int .i64 28]++(setC0++([sl n 10 2]++([sl n 11 1]++[.int .i64 2])))))
def intsC (l:List Int):Obj:=.cells (l.map (Value.int .i64)).toArray 3
def threeO (n:Nat):List Obj:=[.cells (threeC n).toArray 26,intsC [40],.cells (valC1 n).toArray 45,.cells (valC1 n++(valC0++(valC0++valC0))).toArray 45,intsC [0],intsC [3],intsC [0],intsC [1],intsC [1],intsC [2],intsC [1,2],intsC [3],.cells (nodesC3 n).toArray 50]
theorem lays_get:∀ (os:List Obj) (w:World) (i:Nat) (o:Obj),os[i]? = some o→(lays w os).heap[w.heap.size + i]? = some o
 | [],_,i,o,h=>by simp at h
 | x :: os,w,0,o,h=>by
  have h:x = o:=by simpa using h
  subst h
  show (lays (w.alloc x) os).heap[w.heap.size + 0]? = some x
  rw [Nat.add_zero,(lays_below (B:=(w.alloc x).heap.size) os (w.alloc x) (Nat.le_refl _)).block w.heap.size (by rw [World.size_alloc];omega)]
  exact heap_alloc_new _ _
 | x :: os,w,i + 1,o,h=>by
  have:=lays_get os (w.alloc x) i o (by simpa using h)
  rw [World.size_alloc,show w.heap.size + 1 + i = w.heap.size + (i + 1) by omega] at this
  exact this
theorem list_row {W:World} {α:Type} [Rep α] {l:List α} {xs:List Value} {n k:Nat} {t:TypeId} (h:W.heap[n + k]? = some (.cells xs.toArray t (0,0))) (hc:Chunks W (old W.heap.size) xs l) (hl:l.length ≤ 4) (hb:l.length * Rep.bytes α ≤ reach):rep W (old W.heap.size) [sl n k l.length] l :=
 ⟨_,_,_,xs,rfl,rfl,Nat.le_refl _,by unfold maxLen;omega,hb,fun _=>⟨n + k,0,rfl,(Array.getElem?_eq_some_iff.1 h).1,fun j u hu=>⟨by rw [cell_of_row _ _ _ _ _ _ h,List.getElem?_toArray,Nat.zero_add];exact hu,fun e=>by cases e⟩⟩,hc⟩
theorem ints_at {W:World} {n k:Nat} {l:List Int} (h:W.heap[n + k]? = some (intsC l)) (h64:∀ x ∈ l,I64 x) (hl:l.length ≤ 4):rep W (old W.heap.size) [sl n k l.length] l :=
 list_row h (chunks_of_ints _ h64) hl (by unfold reach;show l.length * 8 ≤ _;omega)
theorem node_rep {W:World} {Z:Zone} {op src:Int} {vi vo:Value} {ins outs:List Int} (h1:I64 op) (h2:I64 src) (hi:rep W Z [vi] ins) (ho:rep W Z [vo] outs):rep W Z ([.int .i64 op]++(setC0++([vi]++([vo]++[.int .i64 src])))) (⟨op,set0,ins,outs,src⟩:GNodeD) :=
 shut_GNodeD (a:=⟨op,set0,ins,outs,src⟩) h1 (set0_rep _ _) hi ho h2
theorem val0_rep (W:World) (Z:Zone):rep W Z valC0 zeroVD :=
 shut_ValD (a:=zeroVD) (c1:=[.slice none 0 0]) (c3:=[.int .i64 0,.slice none 0 0,.slice none 0 0,.slice none 0 0,.slice none 0 0]) i64_0 (rep_nil _ _) (shut_TensorD (a:=⟨0,[],[],[],[]⟩) i64_0 (rep_nil _ _) (rep_nil _ _) (rep_nil _ _) (rep_nil _ _))
theorem chunk_cons {W:World} {Z:Zone} {α:Type} [Rep α] {c xs:List Value} {a:α} {l:List α} (h:rep W Z c a) (k:Chunks W Z xs l):Chunks W Z (c++xs) (a :: l):=⟨c,xs,rfl,h,k⟩
theorem small_i64 {x:Int} (h:0 ≤ x∧x ≤ 40):I64 x:=by unfold I64;omega
theorem three_rep (w:World):rep (lays w (threeO w.heap.size)) (old (lays w (threeO w.heap.size)).heap.size) (threeC w.heap.size) threeD:=by
 have g:∀ i o,(threeO w.heap.size)[i]? = some o→(lays w (threeO w.heap.size)).heap[w.heap.size + i]? = some o:=fun i o h=>lays_get _ _ i o h
 generalize lays w (threeO w.heap.size) = W at g ⊢
 generalize w.heap.size = n at g ⊢
 have i1:=ints_at (g 1 _ rfl) (by simpa using small_i64 (x:=40) (by omega)) (by decide)
 have i4:=ints_at (g 4 _ rfl) (by simpa using small_i64 (x:=0) (by omega)) (by decide)
 have i5:=ints_at (g 5 _ rfl) (by simpa using small_i64 (x:=3) (by omega)) (by decide)
 have i6:=ints_at (g 6 _ rfl) (by simpa using small_i64 (x:=0) (by omega)) (by decide)
 have i7:=ints_at (g 7 _ rfl) (by simpa using small_i64 (x:=1) (by omega)) (by decide)
 have i8:=ints_at (g 8 _ rfl) (by simpa using small_i64 (x:=1) (by omega)) (by decide)
 have i9:=ints_at (g 9 _ rfl) (by simpa using small_i64 (x:=2) (by omega)) (by decide)
 have i10:=ints_at (g 10 _ rfl) (by simpa using And.intro (small_i64 (x:=1) (by omega)) (small_i64 (x:=2) (by omega))) (by decide)
 have i11:=ints_at (g 11 _ rfl) (by simpa using small_i64 (x:=3) (by omega)) (by decide)
 have v1:rep W (old W.heap.size) (valC1 n) (mkV 1 [40]):=shut_ValD (a:=mkV 1 [40]) (c1:=[sl n 1 1]) (c3:=[.int .i64 0,.slice none 0 0,.slice none 0 0,.slice none 0 0,.slice none 0 0]) (small_i64 (by decide)) i1 (shut_TensorD (a:=⟨0,[],[],[],[]⟩) i64_0 (rep_nil _ _) (rep_nil _ _) (rep_nil _ _) (rep_nil _ _))
 have vs:rep W (old W.heap.size) [sl n 3 4] threeD.vals:=list_row (g 3 _ rfl) (chunk_cons v1 (chunk_cons (val0_rep _ _) (chunk_cons (val0_rep _ _) (Chunks.single (val0_rep _ _))))) (by decide) (of_decide_eq_true (by kernel_rfl))
 have ns:rep W (old W.heap.size) [sl n 12 3] threeD.nodes:=list_row (g 12 _ rfl) (chunk_cons (node_rep (small_i64 (by decide)) (small_i64 (by decide)) i6 i7) (chunk_cons (node_rep (small_i64 (by decide)) (small_i64 (by decide)) i8 i9) (Chunks.single (node_rep (small_i64 (by decide)) (small_i64 (by decide)) i10 i11)))) (by decide) (of_decide_eq_true (by kernel_rfl))
 exact shut_GraphD (a:=threeD) (c0:=[sl n 3 4]) (c1:=[sl n 12 3]) (c2:=[sl n 4 1]) (c3:=[sl n 5 1]) vs ns i4 i5
set_option maxRecDepth 100000 in
set_option maxHeartbeats 8000000 in
theorem three_any (w:World) :
  Calls Tryz.prog 14 #[] w fun e w'=>∃ gcs:List Value,e = .returned (.agg gcs.toArray)∧Below w.heap.size w w'∧rep w' (old w'.heap.size) gcs threeD:=by
 go_enter Tryz.func14,Tryz.ntmps14
 go_wp2
 have hg:=lays_get (threeO w.heap.size) w 0 _ rfl
 have hr:=three_rep w
 have hb:=lays_below (B:=w.heap.size) (threeO w.heap.size) w (Nat.le_refl _)
 refine bodyPost_ret (results_cell_row rfl _ _ w.heap.size 26 (threeC w.heap.size).toArray (0,0) _ rfl hg Tryz.underlying26 rfl (by kernel_rfl)) (by kernel_rfl) ?_
 exact ⟨threeC w.heap.size,rfl,hb,hr⟩
end Go.Proofs.YtilobeohkomeoaaGreat
set_option linter.unusedSimpArgs false
set_option linter.unusedVariables false
namespace Go.Proofs.YtilobeohkomeoaaGreat
def threeH:GraphD:={ threeD with vals:=[mkV 1 [40],mkV 1 [40],mkV 1 [40],mkV 1 [40]] }
theorem three_sound:SoundD threeD:=by
 refine ⟨by decide,by decide,by decide,by decide,by decide,?_,by decide⟩
 refine ⟨by decide,by decide,by decide,trivial⟩
theorem three_good:GoodG threeD:=fun i v h=>by
 match i,h with
 | 0,h=>cases h;exact ⟨rfl,fun _=>⟨by kernel_rfl,by decide⟩⟩
 | 1,h=>cases h;exact ⟨rfl,fun h=>absurd h (by decide)⟩
 | 2,h=>cases h;exact ⟨rfl,fun h=>absurd h (by decide)⟩
 | 3,h=>cases h;exact ⟨rfl,fun h=>absurd h (by decide)⟩
 | n + 4,h=>simp [threeD] at h
theorem fine_of {a:AskD} (h1:a.op = 28 ∨ a.op = 16 ∨ a.op = 2) (hl:a.ins.length ≤ 2) (h2:(∀ i,i < 2→i < a.ins.length→(a.val i).type = 1∧a.dims i = [40])) (hp:0 < a.ins.length) (hc:CompP a):a.fine:=by
 have hd:∀ i,i < a.ins.length→a.dims i = [40]:=fun i hi=>(h2 i (by omega) hi).2
 have hs:(sizeD [40]).2 = 0:=by kernel_rfl
 refine ⟨⟨h1,fun i hi=>(h2 i (by omega) hi).1⟩,hc,fun _=>⟨fun i hi=>by rw [hd i hi,hd 0 hp],by rw [hd 0 hp];exact hs⟩,fun i hi=>by rw [hd i hi];exact hs⟩
theorem comp_of {a:AskD} (h1:¬ (findD a.op).out = 0∧¬ a.op = 61∧(findD a.op).least ≤ a.ins.length∧(a.ins.length:Int) ≤ (findD a.op).most∧(findD a.op).out ≤ a.outs∧a.outs ≤ (findD a.op).mostOuts) (hl:(findD a.op).least ≤ 2) (h0:a.has 0 = true) (h2:1 < (findD a.op).least→a.has 1 = true):CompP a:=by
 obtain ⟨a1,a2,a3,a4,a5,a6⟩:=h1
 refine ⟨a1,a2,a3,a4,a5,a6,fun i hi=>?_⟩
 match i,hi with
 | 0,_=>exact h0
 | 1,hi=>exact h2 hi
 | n + 2,hi=>exact absurd hi (by omega)
theorem three_fine:FineG threeD.vals threeD.nodes:=by
 refine ⟨fine_of (by decide) (by decide) (by decide) (by decide) (comp_of (by decide) (by decide) (by decide) (by decide)),fine_of (by decide) (by decide) (by decide) (by decide) (comp_of (by decide) (by decide) (by decide) (by decide)),fine_of (by decide) (by decide) (by decide) (by decide) (comp_of (by decide) (by decide) (by decide) (by decide)),trivial⟩
theorem three_run:runV threeD.vals threeD.nodes = [mkV 1 [40],mkV 1 [40],mkV 1 [40],mkV 1 [40]]:=by kernel_rfl
theorem three_h {x:Int} {h:GraphD} (hp:OfP threeD x h):x = 0∧h = threeH:=by
 obtain ⟨-,h2,h3⟩:=hp
 obtain ⟨hx,hv⟩:=h3 three_sound three_good three_fine
 obtain ⟨-,e1,e2,e3,-,-⟩:=h2 hx
 refine ⟨hx,?_⟩
 rw [three_run] at hv
 cases h
 simp only at hv e1 e2 e3
 subst hv e1 e2 e3
 rfl
theorem three_tasks:(planD threeH).tasks.length = 9:=by kernel_rfl
theorem three_size:(planD threeH).size = [160,160,160,160]:=by kernel_rfl
theorem three_live:(planD threeH).live = [true,true,true]:=by kernel_rfl
theorem three_2:∃ t,(planD threeH).tasks[2]? = some t∧t.lo = 32∧t.hi = 40:=⟨_,rfl,by kernel_rfl,by kernel_rfl⟩
theorem three_4:∃ t,(planD threeH).tasks[4]? = some t∧t.after = [0,1,2]:=⟨_,rfl,by kernel_rfl⟩
theorem three_8:∃ t,(planD threeH).tasks[8]? = some t∧t.after.length = 6:=⟨_,rfl,by kernel_rfl⟩
theorem three_soundH:SoundD (planD threeH).graph:=by
 refine ⟨by decide,by decide,by decide,by decide,by decide,?_,by decide⟩
 refine ⟨by decide,by decide,by decide,trivial⟩
theorem three_liveAt {i:Nat} (h:i < 3):liveAt (planD threeH) i:=by
 unfold liveAt
 rw [three_live]
 match i,h with
 | 0,_=>rfl
 | 1,_=>rfl
 | 2,_=>rfl
theorem three_e01:Edge (planD threeH) 0 1:=⟨three_liveAt (by omega),1,by decide,by decide⟩
theorem three_e12:Edge (planD threeH) 1 2:=⟨three_liveAt (by omega),2,by decide,by decide⟩
theorem three_b02:BeforeD (planD threeH) 0 2:=⟨0,2,rfl,rfl,by decide,by decide,three_liveAt (by omega),three_liveAt (by omega),.step (.one three_e01) three_e12⟩
theorem three_b20:¬ BeforeD (planD threeH) 2 0:=fun ⟨i,j,e1,e2,_,_,_,_,hb⟩=>by
 have:=behind_lt three_soundH hb
 omega
theorem three_m0:makerD (planD threeH) 0 = -1:=by kernel_rfl
theorem three_m1:makerD (planD threeH) 1 = 0:=by kernel_rfl
theorem three_m2:makerD (planD threeH) 2 = 1:=by kernel_rfl
theorem three_sized {v:Int} (h0:0 ≤ v) (h1:v < 4):SizedD (planD threeH) v:=by
 obtain ⟨n,rfl⟩:∃ n:Nat,v = (n:Int):=⟨v.toNat,by omega⟩
 refine ⟨h0,by rw [three_size];exact h1,160,?_,by decide⟩
 rw [three_size,Int.toNat_natCast]
 match n,h1 with
 | 0,_=>rfl
 | 1,_=>rfl
 | 2,_=>rfl
 | 3,_=>rfl
 | n + 4,h=>omega
theorem three_a12:ApartD (planD threeH) 1 2:=by
 refine ⟨by decide,three_sized (by decide) (by decide),three_sized (by decide) (by decide),fun hd=>?_,fun hd=>?_⟩
 ·have h1:=hd.2.2.2.2 2 ⟨three_liveAt (by omega),by decide⟩
  rw [three_m2] at h1
  have:=behind_lt three_soundH h1
  simp at this
 ·have h1:=hd.2.2.2.1 (by rw [three_m2];decide)
  rw [three_m2,three_m1] at h1
  have:=behind_lt three_soundH h1
  simp at this
theorem three_a02:¬ ApartD (planD threeH) 0 2:=fun ha=>ha.2.2.2.1 (by
 refine ⟨by rw [three_m2];decide,by decide,fun _=>by decide,fun h=>?_,fun u hu=>?_⟩
 ·rw [three_m0] at h;exact absurd h (by decide)
 ·obtain ⟨n,hn,hm⟩:=gIns_mem hu.2
  rw [three_m2]
  match u,hn with
  | 0,_=>exact .one three_e01
  | 1,hn=>cases hn;exact absurd hm (by decide)
  | 2,hn=>cases hn;exact absurd hm (by decide))
theorem three_a01:ApartD (planD threeH) 0 1:=by
 refine ⟨by decide,three_sized (by decide) (by decide),three_sized (by decide) (by decide),fun hd=>?_,fun hd=>?_⟩
 ·have h1:=hd.2.2.2.2 0 ⟨three_liveAt (by omega),by decide⟩
  rw [three_m1] at h1
  have:=behind_lt three_soundH h1
  simp at this
 ·have h1:=hd.1
  rw [three_m0] at h1
  exact absurd h1 (by decide)
end Go.Proofs.YtilobeohkomeoaaGreat
set_option linter.unusedSimpArgs false
set_option linter.unusedVariables false
namespace Go.Proofs.YtilobeohkomeoaaGreat
open Go.RowKit
open Rep (rep)
theorem sizeD_neg {l:List Int} {z:Int} (h:z ∈ l) (hz:z < 0):sizeD l = (0,1):=by
 unfold sizeD
 rw [if_pos (List.any_eq_true.2 ⟨z,h,by simpa using hz⟩)]
theorem sizeD_great {l:List Int} (h0:∀ z ∈ l,0 ≤ z) (h:(decide (l.length > 8) || l.any fun d=>decide (d > 4096)) = true):sizeD l = (0,4):=by
 unfold sizeD
 rw [if_neg (by simpa using h0),if_pos (by simpa using h)]
theorem sizeD_zero {l:List Int} (h0:∀ z ∈ l,0 ≤ z) (h:(decide (l.length > 8) || l.any fun d=>decide (d > 4096)) = false) (hz:l.contains 0 = true):sizeD l = (0,0):=by
 unfold sizeD
 rw [if_neg (by simpa using h0),if_neg (by simpa using h),if_pos hz]
theorem sizeD_mul {l:List Int} (h0:∀ z ∈ l,0 ≤ z) (h:(decide (l.length > 8) || l.any fun d=>decide (d > 4096)) = false) (hz:l.contains 0 = false):sizeD l = (match mulD 1 l with | some n=>(n,0) | none=>(0,4)):=by
 unfold sizeD
 rw [if_neg (by simpa using h0),if_neg (by simpa using h),if_neg (by rw [hz];decide)]
 rfl
theorem zero_snoc (l:List Int) (z:Int):(l++[z]).contains 0 = (l.contains 0 || z == 0):=by
 rw [Bool.eq_iff_iff]
 simp only [Bool.or_eq_true,List.contains_iff_mem,List.mem_append,List.mem_singleton,beq_iff_eq]
 exact or_congr Iff.rfl ⟨fun e=>e.symm,fun e=>e.symm⟩
theorem great_snoc (n:Nat) (l:List Int) (z:Int):(decide (n > 8) || (l++[z]).any fun d=>decide (d > 4096)) = ((decide (n > 8) || l.any fun d=>decide (d > 4096)) || decide (z > 4096)):=by
 rw [List.any_append,Bool.or_assoc,List.any_cons,List.any_nil,Bool.or_false]
theorem tdiv_gt {m z:Int} (h1:1 ≤ m):z > Int.tdiv 4096 m ↔ m * z > 4096:=by
 rw [Int.tdiv_eq_ediv_of_nonneg (by omega)]
 constructor
 ·intro h
  rw [Int.mul_comm]
  exact (Int.ediv_lt_iff_lt_mul (by omega)).1 h
 ·intro h
  rw [Int.mul_comm] at h
  exact (Int.ediv_lt_iff_lt_mul (by omega)).2 h
set_option maxRecDepth 100000 in
set_option maxHeartbeats 8000000 in
theorem size4_any (l:List Int) (A:Option Addr) (k:Nat) (w:World) (hr:rep w (old w.heap.size) [.slice A l.length k] l) :
  Calls Tryz.prog 9 #[.slice A l.length k] w fun e w'=>e = .returned (.tuple #[.int .i64 (sizeD l).1,.int .i64 (sizeD l).2])∧w' = w:=by
 obtain ⟨nb,nb'⟩:=slice_bnd hr
 have HR:=Lib.hid hr
 clear hr
 go_enter Tryz.func9,Tryz.ntmps9
 go_wp2
 go_loopw [4,5,6] (fun z g i wr=>∃ pre post:List Int,l = pre++post∧i = .int .i64 pre.length∧z = .bool (pre.contains 0)∧g = .bool (decide (l.length > 8) || pre.any fun d=>decide (d > 4096))∧(∀ x ∈ pre,0 ≤ x)∧wr = w) (fun _ _ i _=>l.length - (intOf i).toNat)
 case atStart=>exact ⟨[],l,rfl,rfl,rfl,by simp;omega,by simp,rfl⟩
 case round =>
  obtain ⟨pre,post,hpp,rfl,rfl,rfl,hp0,rfl⟩:=hrel
  have HP:=Lib.hid hp0
  clear hp0
  cases post with
  | cons z post =>
   obtain ⟨hz,hlt,hpp',hpl⟩:=split_at hpp
   obtain ⟨-,b,o,rfl,-,kz⟩:=int_at HR.out hz
   have HM:=Lib.hid (List.mem_of_getElem? hz)
   have H:=Lib.hid (And.intro hpp' hpl)
   have hk0:(0:Int) ≤ (pre.length:Int):=Int.natCast_nonneg _
   have hk1:(pre.length:Int) < (l.length:Int):=by omega
   clear hpp hpp' hpl hz
   by_cases hneg:z < 0
   ·have HN:=Lib.hid (sizeD_neg HM.out hneg)
    go_wp2
    go_ret2
    exact ⟨by rw [HN.out];rfl,rfl⟩
   ·have hge:¬ z < 0:=hneg
    obtain ⟨zb,hzb⟩:∃ b,pre.contains (0:Int) = b:=⟨_,rfl⟩
    obtain ⟨gb,hgb⟩:∃ b,(decide (l.length > 8) || pre.any fun d=>decide (d > 4096)) = b:=⟨_,rfl⟩
    rw [hzb,hgb]
    have HB:=Lib.hid (And.intro hzb (And.intro hgb (show ¬ z < 0 from hge)))
    clear hzb hgb
    go_upto_region 8 with (fail)
    go_cut [4,30] from 23 to 30 (fun u r wx=>u = .bool (zb || z == 0)∧wx = wr)
    case first =>
     cases zb with
     | true=>go_wp2;go_meet;exact ⟨rfl,rfl⟩
     | false=>go_wp2;go_meet;exact ⟨rfl,rfl⟩
    case rest =>
     obtain ⟨rfl,rfl⟩:=hcut
     cases gb with
     | true =>
      go_wp2
      go_roundw
      case rel =>
       obtain ⟨hpp',hpl⟩:=H.out
       exact ⟨pre++[z],post,hpp',by rw [hpl];go_num,by rw [zero_snoc,HB.out.1],by rw [great_snoc,HB.out.2.1];rfl,fun x hx=>(List.mem_append.1 hx).elim (HP.out x) fun hx=>by have:=HB.out.2.2;rw [List.mem_singleton.1 hx];omega,trivial⟩
      case measure=>simp [intOf];omega
     | false =>
      go_wp2
      go_roundw
      case rel =>
       obtain ⟨hpp',hpl⟩:=H.out
       exact ⟨pre++[z],post,hpp',by rw [hpl];go_num,by rw [zero_snoc,HB.out.1],by rw [great_snoc,HB.out.2.1];rfl,fun x hx=>(List.mem_append.1 hx).elim (HP.out x) fun hx=>by have:=HB.out.2.2;rw [List.mem_singleton.1 hx];omega,trivial⟩
      case measure=>simp [intOf];omega
  | nil =>
   obtain ⟨hge,rfl⟩:=split_end hpp
   clear hpp
   obtain ⟨zb,hzb⟩:∃ b,pre.contains (0:Int) = b:=⟨_,rfl⟩
   obtain ⟨gb,hgb⟩:∃ b,(decide (pre.length > 8) || pre.any fun d=>decide (d > 4096)) = b:=⟨_,rfl⟩
   rw [hzb,hgb]
   have HB:=Lib.hid (And.intro hzb hgb)
   clear hzb hgb
   have hge':¬ (pre.length:Int) < (pre.length:Int):=by omega
   cases gb with
   | true =>
    have HN:=Lib.hid (sizeD_great HP.out HB.out.2)
    go_wp2
    go_ret2
    exact ⟨by rw [HN.out];rfl,rfl⟩
   | false =>
    cases zb with
    | true =>
     have HN:=Lib.hid (sizeD_zero HP.out HB.out.2 HB.out.1)
     go_wp2
     go_ret2
     exact ⟨by rw [HN.out];rfl,rfl⟩
    | false =>
     have H8:=Lib.hid (sizeD_mul HP.out HB.out.2 HB.out.1)
     have HM:Hid (∀ d ∈ pre,1 ≤ d∧d ≤ 4096):=Lib.hid fun d hd=>by
      have h1:=HP.out d hd
      have h2:=HB.out.2
      have h3:d ≠ 0:=fun e=>by
       rw [e] at hd
       have:=List.contains_iff_mem.2 hd
       rw [HB.out.1] at this
       cases this
      rw [Bool.or_eq_false_iff] at h2
      have h4:=List.any_eq_false.1 h2.2 d hd
      simp at h4
      omega
     clear hge hge'
     obtain ⟨wb,rfl⟩:∃ wb,wb = wr:=⟨_,rfl⟩
     go_wp2
     go_loopw [7,8] (fun n i wr=>∃ (pr post:List Int) (m:Int),pre = pr++post∧i = .int .i64 pr.length∧n = .int .i64 m∧1 ≤ m∧m ≤ 4096∧mulD 1 pre = mulD m post∧wr = wb) (fun _ i _=>pre.length - (intOf i).toNat)
     case atStart=>exact ⟨[],pre,1,rfl,rfl,rfl,by omega,by omega,rfl,rfl⟩
     case round =>
      obtain ⟨pr,post,m,hpp,rfl,rfl,m1,m2,hm,rfl⟩:=hrel
      have HMM:=Lib.hid hm
      clear hm
      cases post with
      | cons z post =>
       obtain ⟨hz,hlt,hpp',hpl⟩:=split_at hpp
       obtain ⟨-,b,o,rfl,-,kz⟩:=int_at HR.out hz
       obtain ⟨z1,z2⟩:=HM.out z (List.mem_of_getElem? hz)
       have H:=Lib.hid (And.intro hpp' hpl)
       have hk0:(0:Int) ≤ (pr.length:Int):=Int.natCast_nonneg _
       have hk1:(pr.length:Int) < (pre.length:Int):=by omega
       have hzg:¬ z > 4096:=by omega
       have hmz0:0 ≤ m * z:=Int.mul_nonneg (by omega) (by omega)
       have hmz1:m * z ≤ 4096 * 4096:=Int.le_trans (Int.mul_le_mul_of_nonneg_right m2 (by omega)) (Int.mul_le_mul_of_nonneg_left z2 (by omega))
       clear hpp hpp' hpl hz
       by_cases hq:m * z > 4096
       ·have HQ:=Lib.hid ((tdiv_gt m1).2 hq)
        go_wp2
        go_ret2
        exact ⟨by rw [H8.out,HMM.out,mulD,if_pos HQ.out];rfl,rfl⟩
       ·have HQ:=Lib.hid (fun h=>hq ((tdiv_gt m1).1 h))
        have n1:1 ≤ m * z:=by
         have:=Int.mul_le_mul_of_nonneg_right m1 (show 0 ≤ z by omega)
         omega
        go_wp2
        go_roundw
        case rel =>
         obtain ⟨hpp',hpl⟩:=H.out
         exact ⟨pr++[z],post,m * z,hpp',by rw [hpl];go_num,by go_num,n1,by omega,by rw [HMM.out,mulD,if_neg HQ.out],trivial⟩
        case measure=>simp [intOf];omega
      | nil =>
       obtain ⟨hge,hpl⟩:=split_end hpp
       clear hpp hpl
       go_wp2
       go_ret2
       exact ⟨by rw [H8.out,HMM.out];rfl,rfl⟩
def SameD (w:World) (e:Ending) (w':World):Prop:=e = .returned (.bool true)∧∃ n,w' = w.drewN n
set_option maxRecDepth 100000 in
set_option maxHeartbeats 4000000 in
theorem sameInts4_any (v1 v2:Value) (l:List Int) (w:World) (h1:rep w (old w.heap.size) [v1] l) (h2:rep w (old w.heap.size) [v2] l) :
  Calls Tryz.prog 15 #[v1,v2] w (SameD w):=by
 obtain ⟨A1,k1,x1,rfl,hn1,hc1,-,hl1,hch1⟩:=open_slice h1
 obtain ⟨A2,k2,x2,rfl,hn2,hc2,-,hl2,hch2⟩:=open_slice h2
 have HL:=Lib.hid (And.intro hl1 (And.intro hch1 (And.intro hl2 hch2)))
 clear h1 h2 hl1 hch1 hl2 hch2
 go_enter Tryz.func15,Tryz.ntmps15
 go_wp2_with fail
 go_loopw [5] (fun i wr=>∃ pre post:List Int,l = pre++post∧i = .int .i64 pre.length∧DrewFrom w wr)
  (fun i _=>l.length - (intOf i).toNat)
 case atStart=>exact ⟨[],l,rfl,rfl,DrewFrom.refl w⟩
 case round =>
  obtain ⟨pre,post,hpp,rfl,hdr⟩:=hrel
  obtain ⟨m,rfl⟩:=hdr
  cases post with
  | cons z post =>
   obtain ⟨hz,hlt,hpp',hpl⟩:=split_at hpp
   obtain ⟨b1,o1,xc1,rfl,-,hrz1,hcell1⟩:=elem_at HL.out.1 HL.out.2.1 (by decide) hz
   obtain ⟨b2,o2,xc2,rfl,-,hrz2,hcell2⟩:=elem_at HL.out.2.2.1 HL.out.2.2.2 (by decide) hz
   obtain ⟨rfl,-⟩:=hrz1
   obtain ⟨rfl,-⟩:=hrz2
   have k4:w.cell? ⟨b1,o1 + pre.length,none⟩ = some (.int .i64 z):=cell_of_elem (α:=Int) rfl hcell1 rfl
   have k5:w.cell? ⟨b2,o2 + pre.length,none⟩ = some (.int .i64 z):=cell_of_elem (α:=Int) rfl hcell2 rfl
   have H:=Lib.hid (And.intro hpp' hpl)
   have hk0:(0:Int) ≤ (pre.length:Int):=Int.natCast_nonneg _
   have hk1:(pre.length:Int) < (l.length:Int):=by omega
   clear hpp hpp' hpl hz hcell1 hcell2
   go_wp2_with fail
   go_quiet (fail)
   go_wp2
   go_roundw
   case rel =>
    obtain ⟨hpp',hpl⟩:=H.out
    exact ⟨pre++[z],post,hpp',by rw [hpl];go_num,_,rfl⟩
   case measure=>simp [intOf];omega
  | nil =>
   obtain ⟨hge,hpl⟩:=split_end hpp
   clear hpp hpl
   go_wp2
   go_ret
   exact ⟨rfl,_,rfl⟩
end Go.Proofs.YtilobeohkomeoaaGreat
set_option linter.unusedSimpArgs false
set_option linter.unusedVariables false
namespace Go.Proofs.YtilobeohkomeoaaGreat
open Go.RowKit
open Rep (rep)
set_option maxRecDepth 100000 in
set_option maxHeartbeats 8000000 in
theorem awake20_any (w:World):Calls Tryz.prog 6 #[] w fun e w'=>e = .returned (.bool true)∧Below w.heap.size w w':=by
 go_enter Tryz.func6,Tryz.ntmps6
 go_wp2_with fail
 refine (three_any w).mono ?_
 rintro e w1 ⟨gcs,rfl,hb1,hr1⟩
 have HB1:=Lib.hid (And.intro hb1 hr1)
 clear hb1 hr1
 go_wp2_with fail
 refine (planof_any gcs threeD w1 HB1.out.2 (by decide) (by decide) (by decide) (by decide) (by decide)).mono ?_
 rintro e w2 ⟨pcs,x,y,p,rfl,hx,hy,hb2,hr2,-,h,hof,hp⟩
 obtain ⟨rfl,rfl⟩:=three_h hof
 obtain rfl:=hp rfl
 have hl7:pcs.length = 7:=Rep.len hr2
 have HB2:=Lib.hid (And.intro (HB1.out.1.trans (hb2.mono HB1.out.1.size)) hr2)
 have HS:=Lib.hid (And.intro (plan_size hr2) (And.intro (Rep.one hr2) (And.intro (show 0 + pcs.length ≤ z7.length by rw [hl7];decide) (show pcs.length = z7.length from hl7))))
 clear hx hy hb2 hr2 hof hp hl7
 go_wp2_with (first
  |(with_reducible refine wpList_alloc_row rfl 31 rfl z7 z7_zero ?_)
  |(with_reducible refine wpList_store_agg rfl 31 _ _ rfl _ 0 pcs rfl rfl 31 z7 (heap_alloc_new _ _) HS.out.1 HS.out.2.2.1 HS.out.2.1 ?_;have hY:=laid_row w2 31 z7 pcs HS.out.2.2.2;generalize World.setRow _ _ _ = w3 at hY ⊢;have HY:=Lib.hid hY;clear hY;refine halt ?_))
 unfold Halt
 have hL:=law_start HB2.out.1 HB2.out.2 HY.out
 obtain ⟨q,hq⟩:∃ q,w2.heap.size = q:=⟨_,rfl⟩
 rw [hq] at hL ⊢
 clear hq HY HS HB1 HB2
 obtain ⟨A1,A2,A5,A6,A7,k1,k2,k5,k6,k7,hC⟩:=plan_cells hL.dat
 obtain ⟨t2,g2,e21,e22⟩:=three_2
 obtain ⟨t4,g4,e41⟩:=three_4
 obtain ⟨t8,g8,e81⟩:=three_8
 have hrt:=hC.tasks hL.dat
 obtain ⟨bt,ft,B2,j2,rfl,hbt,hat2,-⟩:=elem_task hrt g2
 obtain ⟨bt',ft',B4,j4,he,-,hat4,ha4⟩:=elem_task hrt g4
 injection he with he
 injection he with he1 he2
 subst he1 he2
 obtain ⟨bt',ft',B8,j8,he,-,hat8,-⟩:=elem_task hrt g8
 injection he with he
 injection he with he1 he2
 subst he1 he2
 obtain ⟨nt1,nt2⟩:=slice_bnd hrt
 have hrs:=hC.sizes hL.dat
 obtain ⟨ns1,ns2⟩:=slice_bnd hrs
 obtain ⟨-,bs,fs,rfl,hbs,hs3⟩:=int_at hrs (show (planD threeH).size[3]? = some 160 by rw [three_size];rfl)
 have c4:=hL.cell hC.c4
 have c5:=hL.cell hC.c5
 have l4:(planD threeH).size.length = 4:=by rw [three_size];rfl
 rw [three_tasks] at c4 nt1
 rw [l4] at c5 ns1
 rw [e41] at ha4 hat4
 have k1:=hat2 1 _ rfl
 have k2:=hat2 2 _ rfl
 have k3:=hat4 3 _ rfl
 have k4:=hat8 3 _ rfl
 rw [e21] at k1
 rw [e22] at k2
 rw [e81] at k4
 have HL:=Lib.hid hL
 clear hat2 hat4 hat8 hrt hrs hL
 go_wp2_with fail
 have hrow:=heap_alloc_new w3 (.cells #[.int .i64 0,.int .i64 1,.int .i64 2] 3)
 have hba:Below w3.heap.size w3 (w3.alloc (.cells #[.int .i64 0,.int .i64 1,.int .i64 2] 3)):=(Below.refl _ _).alloc (Nat.le_refl _) _
 have hq4:=HL.out.lt
 have hL5:=HL.out.next hba
 have ha5:rep (w3.alloc (.cells #[.int .i64 0,.int .i64 1,.int .i64 2] 3)) (old (w3.alloc (.cells #[.int .i64 0,.int .i64 1,.int .i64 2] 3)).heap.size) [.slice B4 3 j4] ([0,1,2]:List Int):=Rep.more (Rep.keep ha4 (Keeps.old_below hba (Nat.le_of_lt hq4))) (old_le (Nat.le_of_lt (by rw [World.size_alloc];omega)))
 have hb5:rep (w3.alloc (.cells #[.int .i64 0,.int .i64 1,.int .i64 2] 3)) (old (w3.alloc (.cells #[.int .i64 0,.int .i64 1,.int .i64 2] 3)).heap.size) [.slice (some ⟨w3.heap.size,0,none⟩) 3 3] ([0,1,2]:List Int):=ints_at (n:=w3.heap.size) (k:=0) (l:=[0,1,2]) hrow (by simpa using And.intro (small_i64 (x:=0) (by omega)) (And.intro (small_i64 (x:=1) (by omega)) (small_i64 (x:=2) (by omega)))) (by decide)
 have h45:∀ {a:Addr} {v:Value},a.block < w3.heap.size→w3.cell? a = some v→(w3.alloc (.cells #[.int .i64 0,.int .i64 1,.int .i64 2] 3)).cell? a = some v:=fun h1 h2=>(hba.cell h1).trans h2
 have hbs':bs < w3.heap.size:=Nat.lt_trans hbs hq4
 have hbt':bt < w3.heap.size:=Nat.lt_trans hbt hq4
 refine (sameInts4_any _ _ [0,1,2] _ ha5 hb5).mono ?_
 rintro e w5 ⟨rfl,m,rfl⟩
 have hbd:Below w3.heap.size w3 ((w3.alloc (.cells #[.int .i64 0,.int .i64 1,.int .i64 2] 3)).drewN m):=below_drewN hba m
 have hL6:=HL.out.next hbd
 have c4':=hL6.cell hC.c4
 have c5':=hL6.cell hC.c5
 rw [three_tasks] at c4'
 rw [l4] at c5'
 replace k4:=(hbd.cell (p:=⟨bt,ft + 8 * 4 + 3,none⟩) hbt').trans k4
 replace hs3:=(hbd.cell (p:=⟨bs,fs + 3,none⟩) hbs').trans hs3
 generalize World.drewN _ m = w6 at hL6 c4' c5' k4 hs3 ⊢
 have HL6:=Lib.hid hL6
 clear hrow hba hL5 ha5 hb5 h45 hL6 hbd HL c4 c5 k1 k2 k3 ha4
 go_wp2_with (with_reducible refine wpList_load_agg_w (by kernel_rfl) 31 _ rfl _ q 0 rfl pcs Tryz.underlying31 rfl HL6.out.size HL6.out.at ?_)
 refine (before_any pcs (planD threeH) 0 2 w6 HL6.out.arg ⟨by decide,by decide⟩ i64_0 (small_i64 (by decide))).mono ?_
 rintro e w7 ⟨b,rfl,hb,hbb⟩
 obtain rfl:=(befB_eq hbb).1 three_b02
 have HL7:=Lib.hid (HL6.out.next hb)
 clear hb hbb
 go_wp2_with (with_reducible refine wpList_load_agg_w (by kernel_rfl) 31 _ rfl _ q 0 rfl pcs Tryz.underlying31 rfl HL7.out.size HL7.out.at ?_)
 refine (before_any pcs (planD threeH) 2 0 w7 HL7.out.arg ⟨by decide,by decide⟩ (small_i64 (by decide)) i64_0).mono ?_
 rintro e w8 ⟨b,rfl,hb,hbb⟩
 obtain rfl:=(befB_eq hbb).2 three_b20
 have HL8:=Lib.hid (HL7.out.next hb)
 clear hb hbb
 go_wp2_with (with_reducible refine wpList_load_agg_w (by kernel_rfl) 31 _ rfl _ q 0 rfl pcs Tryz.underlying31 rfl HL8.out.size HL8.out.at ?_)
 refine (apart_any pcs (planD threeH) 1 2 w8 HL8.out.arg ⟨by decide,by decide⟩ (small_i64 (by decide)) (small_i64 (by decide))).mono ?_
 rintro e w9 ⟨b,rfl,hb,hbb⟩
 obtain rfl:=(apB_eq hbb).1 three_a12
 have HL9:=Lib.hid (HL8.out.next hb)
 clear hb hbb
 go_wp2_with (with_reducible refine wpList_load_agg_w (by kernel_rfl) 31 _ rfl _ q 0 rfl pcs Tryz.underlying31 rfl HL9.out.size HL9.out.at ?_)
 refine (apart_any pcs (planD threeH) 0 2 w9 HL9.out.arg ⟨by decide,by decide⟩ i64_0 (small_i64 (by decide))).mono ?_
 rintro e w10 ⟨b,rfl,hb,hbb⟩
 obtain rfl:=(apB_eq hbb).2 three_a02
 have HL10:=Lib.hid (HL9.out.next hb)
 clear hb hbb
 go_wp2_with (with_reducible refine wpList_load_agg_w (by kernel_rfl) 31 _ rfl _ q 0 rfl pcs Tryz.underlying31 rfl HL10.out.size HL10.out.at ?_)
 refine (apart_any pcs (planD threeH) 0 1 w10 HL10.out.arg ⟨by decide,by decide⟩ i64_0 (small_i64 (by decide))).mono ?_
 rintro e w11 ⟨b,rfl,hb,hbb⟩
 obtain rfl:=(apB_eq hbb).1 three_a01
 have HL11:=Lib.hid (HL10.out.next hb)
 clear hb hbb
 go_wp2
 go_ret
 exact ⟨rfl,HL11.out.below⟩
end Go.Proofs.YtilobeohkomeoaaGreat
