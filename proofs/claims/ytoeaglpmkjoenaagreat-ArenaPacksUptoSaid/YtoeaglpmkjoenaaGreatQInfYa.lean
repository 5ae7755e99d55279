/-
  Chapter 20: a plan in a law's own box. No condition.
-/
/-
  Chapter 04's document: SameInts of equal lists. No condition.
-/
/-
  Chapter 10: the dims of the outputs of the operators that take them as they come. No condition.
-/
import Derived.Test.YtoeaglpmkjoenaaGreatQPof
import Derived.Test.YtoeaglpmkjoenaaGreatQArnQ
import Derived.Deep.QuietTactic
import Derived.BigQuiet
import Derived.Test.YtoeaglpmkjoenaaGreatQAxes
import Derived.Test.YtoeaglpmkjoenaaGreatQSame
import Derived.Test.YtoeaglpmkjoenaaGreatQAttr
import Derived.Test.YtoeaglpmkjoenaaGreatQInfK
set_option linter.unusedSimpArgs false
set_option linter.unusedVariables false
namespace Go.Proofs.YtoeaglpmkjoenaaGreat
open Go.RowKit
open Rep (rep)
structure LawI (w:World) (q:Nat) (pcs:List Value) (p:PlanD) (W:World):Prop where
 below:Below w.heap.size w W
 row:W.heap[q]? = some (.cells pcs.toArray 30 (0,0))
 dat:rep W (old q) pcs p
 ge:w.heap.size ≤ q
section
variable {w W W':World} {q:Nat} {pcs:List Value} {p:PlanD}
theorem LawI.lt (h:LawI w q pcs p W):q < W.heap.size:=(Array.getElem?_eq_some_iff.1 h.row).1
theorem LawI.next (h:LawI w q pcs p W) (hb:Below W.heap.size W W'):LawI w q pcs p W' :=
 ⟨h.below.trans (hb.mono h.below.size),(hb.block _ h.lt).trans h.row,Rep.keep h.dat (Keeps.old_below hb (Nat.le_of_lt h.lt)),h.ge⟩
theorem LawI.arg (h:LawI w q pcs p W):rep W (old W.heap.size) pcs p:=Rep.more h.dat (old_le (Nat.le_of_lt h.lt))
theorem LawI.cell (h:LawI w q pcs p W) {j:Nat} {u:Value} (hu:pcs[j]? = some u):W.cell? ⟨q,j,none⟩ = some u:=cell_row h.row hu
theorem LawI.at (h:LawI w q pcs p W):At W q 0 pcs:=At.of_row h.row
theorem LawI.size (h:LawI w q pcs p W):(Tryz.prog.info? 30).map (·.size) = some pcs.length:=plan_size h.dat
theorem law_start {w1 w2:World} (hb:Below w.heap.size w w1) (hr:rep w1 (old w1.heap.size) pcs p) (hZ:Below w1.heap.size w1 w2∧w2.heap[w1.heap.size]? = some (.cells pcs.toArray 30 (0,0))∧w2.heap.size = w1.heap.size + 1):LawI w w1.heap.size pcs p w2 :=
 ⟨hb.trans (hZ.1.mono hb.size),hZ.2.1,Rep.keep hr (Keeps.old_below hZ.1 (Nat.le_refl _)),hb.size⟩
structure PlanC (pcs:List Value) (p:PlanD) (A1 A2 A5 A6 A7:Option Addr) (k1 k2 k5 k6 k7:Nat):Prop where
 c0:pcs[0]? = some (.slice A1 p.graph.vals.length k1)
 c1:pcs[1]? = some (.slice A2 p.graph.nodes.length k2)
 c4:pcs[4]? = some (.slice A5 p.tasks.length k5)
 c5:pcs[5]? = some (.slice A6 p.size.length k6)
 c6:pcs[6]? = some (.slice A7 p.live.length k7)
variable {A1 A2 A5 A6 A7:Option Addr} {k1 k2 k5 k6 k7:Nat} {Z:Zone}
theorem PlanC.vals (c:PlanC pcs p A1 A2 A5 A6 A7 k1 k2 k5 k6 k7) (h:rep W Z pcs p):rep W Z [.slice A1 p.graph.vals.length k1] p.graph.vals:=by
 obtain ⟨B1,j1,B2,j2,B3,j3,B4,j4,B5,j5,B6,j6,B7,j7,hcs,r1,r2,r3,r4,r5,r6,r7⟩:=open_PlanD h
 have e:=c.c0
 rw [hcs] at e
 injection e with e
 injection e with e1 _ e2
 subst e1 e2
 exact r1
theorem PlanC.nodes (c:PlanC pcs p A1 A2 A5 A6 A7 k1 k2 k5 k6 k7) (h:rep W Z pcs p):rep W Z [.slice A2 p.graph.nodes.length k2] p.graph.nodes:=by
 obtain ⟨B1,j1,B2,j2,B3,j3,B4,j4,B5,j5,B6,j6,B7,j7,hcs,r1,r2,r3,r4,r5,r6,r7⟩:=open_PlanD h
 have e:=c.c1
 rw [hcs] at e
 injection e with e
 injection e with e1 _ e2
 subst e1 e2
 exact r2
end
end Go.Proofs.YtoeaglpmkjoenaaGreat
set_option linter.unusedSimpArgs false
set_option linter.unusedVariables false
namespace Go.Proofs.YtoeaglpmkjoenaaGreat
open Go.RowKit
open Rep (rep)
def SameD (w:World) (e:Ending) (w':World):Prop:=e = .returned (.bool true)∧∃ n,w' = w.drewN n
set_option maxRecDepth 100000 in
set_option maxHeartbeats 4000000 in
theorem sameInts4_any (v1 v2:Value) (l:List Int) (w:World) (h1:rep w (old w.heap.size) [v1] l) (h2:rep w (old w.heap.size) [v2] l) :
  Calls Tryz.prog 8 #[v1,v2] w (SameD w):=by
 obtain ⟨A1,k1,x1,rfl,hn1,hc1,-,hl1,hch1⟩:=open_slice h1
 obtain ⟨A2,k2,x2,rfl,hn2,hc2,-,hl2,hch2⟩:=open_slice h2
 have HL:=Lib.hid (And.intro hl1 (And.intro hch1 (And.intro hl2 hch2)))
 clear h1 h2 hl1 hch1 hl2 hch2
 go_enter Tryz.func8,Tryz.ntmps8
 go_wp2_with fail
 go_loopw [5] (fun i wr=>∃ pre post:List Int,l = pre++post∧i = .int .i64 pre.length∧DrewFrom w wr)
  (fun i _=>l.length - (intOf i).toNat)
 case atStart=>exact ⟨[],l,rfl,rfl,DrewFrom.refl w⟩
 case round =>
  obtain ⟨pre,post,hpp,rfl,hdr⟩:=hrel
  obtain ⟨m,rfl⟩:=hdr
  cases post with
  | cons z post =>
   obtain ⟨hz,hlt,hpp',hpl⟩:=split_at hpp
   obtain ⟨b1,o1,xc1,rfl,-,hrz1,hcell1⟩:=elem_at HL.out.1 HL.out.2.1 (by decide) hz
   obtain ⟨b2,o2,xc2,rfl,-,hrz2,hcell2⟩:=elem_at HL.out.2.2.1 HL.out.2.2.2 (by decide) hz
   obtain ⟨rfl,-⟩:=hrz1
   obtain ⟨rfl,-⟩:=hrz2
   have k4:w.cell? ⟨b1,o1 + pre.length,none⟩ = some (.int .i64 z):=cell_of_elem (α:=Int) rfl hcell1 rfl
   have k5:w.cell? ⟨b2,o2 + pre.length,none⟩ = some (.int .i64 z):=cell_of_elem (α:=Int) rfl hcell2 rfl
   have H:=Lib.hid (And.intro hpp' hpl)
   have hk0:(0:Int) ≤ (pre.length:Int):=Int.natCast_nonneg _
   have hk1:(pre.length:Int) < (l.length:Int):=by omega
   clear hpp hpp' hpl hz hcell1 hcell2
   go_wp2_with fail
   go_quiet (fail)
   go_wp2
   go_roundw
   case rel =>
    obtain ⟨hpp',hpl⟩:=H.out
    exact ⟨pre++[z],post,hpp',by rw [hpl];go_num,_,rfl⟩
   case measure=>simp [intOf];omega
  | nil =>
   obtain ⟨hge,hpl⟩:=split_end hpp
   clear hpp hpl
   go_wp2
   go_ret
   exact ⟨rfl,_,rfl⟩
end Go.Proofs.YtoeaglpmkjoenaaGreat
set_option linter.unusedSimpArgs false
set_option linter.unusedVariables false
namespace Go.Proofs.YtoeaglpmkjoenaaGreat
open Go.RowKit
open Rep (rep)
set_option maxRecDepth 100000 in
set_option maxHeartbeats 8000000 in
theorem shapes_together (cs:List Value) (a:AskD) (w:World) (hr:rep w (old w.heap.size) cs a) (hok:a.Ok) (hop:a.op = 23 ∨ a.op = 24 ∨ a.op = 25 ∨ a.op = 28 ∨ a.op = 29 ∨ a.op = 30 ∨ a.op = 31 ∨ a.op = 32 ∨ a.op = 33 ∨ a.op = 34 ∨ a.op = 35 ∨ a.op = 37 ∨ a.op = 38 ∨ a.op = 39 ∨ a.op = 40 ∨ a.op = 41 ∨ a.op = 42) :
  Calls Tryz.prog 75 #[.agg cs.toArray] w (ShP w (SO a)):=by
 have HO:=Lib.hid (And.intro (ask_op hr).1 hok)
 go_enter Tryz.func75,Tryz.ntmps75
 go_wp2_with (with_reducible refine wpList_box_row rfl 107 _ rfl cs rfl ?_;have hX:=ask_start hr;generalize World.alloc _ _ = W0 at hX ⊢;have HX:=Lib.hid hX;clear hX hr;refine halt ?_)
 unfold Halt
 go_wp2_with (with_reducible refine wpList_load_agg rfl 107 _ rfl _ _ _ rfl cs Tryz.underlying107 rfl HX.out.size HX.out.at ?_)
 refine (askDims' cs a 0 w.heap.size _ HX.out.below.size HX.out.arg0).mono ?_
 rintro e V2 ⟨A0,k0,rfl,h0,hb⟩
 have L0:=Lib.hid (lst_n HX.out hb h0)
 obtain ⟨b0,b0'⟩:=slice_bnd h0
 clear h0
 replace HX:=Lib.hid (HX.out.next hb)
 clear hb
 have hc0:=HX.out.cell HO.out.1
 rcases hop with hop | hop | hop | hop | hop | hop | hop | hop | hop | hop | hop | hop | hop | hop | hop | hop | hop
 all_goals
  rw [hop] at hc0
  go_wp2_with (with_reducible refine wpList_load_agg rfl 107 _ rfl _ _ _ rfl cs Tryz.underlying107 rfl HX.out.size HX.out.at ?_)
  refine (together_any cs a _ HX.out.arg).mono ?_
  rintro e w9 ⟨A9,k9,x9,ll,rfl,hx,hb,hl,hp⟩
  have HC:=Lib.hid (And.intro (HX.out.trans hb) (And.intro hl (And.intro hx hp)))
  clear hx hb hl hp
  go_wp2
  go_ret2
  exact ⟨A9,k9,x9,ll,rfl,HC.out.2.2.1,HC.out.1,HC.out.2.1,⟨po_one (by omega) HC.out.2.2.2.1,fun e=>HC.out.2.2.2.2 (e.elim (fun e=>e.2) (fun e=>absurd e (by omega)))⟩⟩
set_option maxRecDepth 100000 in
set_option maxHeartbeats 8000000 in
theorem shapes_plain (cs:List Value) (a:AskD) (w:World) (hr:rep w (old w.heap.size) cs a) (hok:a.Ok) (hop:1 ≤ a.op∧a.op ≤ 22 ∨ a.op = 26 ∨ a.op = 27 ∨ a.op = 44 ∨ a.op = 72) :
  Calls Tryz.prog 75 #[.agg cs.toArray] w (ShP w (SO a)):=by
 have HO:=Lib.hid (And.intro (ask_op hr).1 (show ¬ a.op = 48 by omega))
 go_enter Tryz.func75,Tryz.ntmps75
 go_wp2_with (with_reducible refine wpList_box_row rfl 107 _ rfl cs rfl ?_;have hX:=ask_start hr;generalize World.alloc _ _ = W0 at hX ⊢;have HX:=Lib.hid hX;clear hX hr;refine halt ?_)
 unfold Halt
 go_wp2_with (with_reducible refine wpList_load_agg rfl 107 _ rfl _ _ _ rfl cs Tryz.underlying107 rfl HX.out.size HX.out.at ?_)
 refine (askDims' cs a 0 w.heap.size _ HX.out.below.size HX.out.arg0).mono ?_
 rintro e V2 ⟨A0,k0,rfl,h0,hb⟩
 have L0:=Lib.hid (lst_n HX.out hb h0)
 obtain ⟨b0,b0'⟩:=slice_bnd h0
 clear h0
 replace HX:=Lib.hid (HX.out.next hb)
 clear hb
 have hc0:=HX.out.cell HO.out.1
 have HN:=Lib.hid HO.out.2
 generalize hy:a.op = y at hc0 hop
 clear hy hok
 have h23:(y == 23) = false:=by simp only [beq_eq_false_iff_ne];omega
 have h24:(y == 24) = false:=by simp only [beq_eq_false_iff_ne];omega
 have h25:(y == 25) = false:=by simp only [beq_eq_false_iff_ne];omega
 have h28:(y == 28) = false:=by simp only [beq_eq_false_iff_ne];omega
 have h29:(y == 29) = false:=by simp only [beq_eq_false_iff_ne];omega
 have h30:(y == 30) = false:=by simp only [beq_eq_false_iff_ne];omega
 have h31:(y == 31) = false:=by simp only [beq_eq_false_iff_ne];omega
 have h32:(y == 32) = false:=by simp only [beq_eq_false_iff_ne];omega
 have h33:(y == 33) = false:=by simp only [beq_eq_false_iff_ne];omega
 have h34:(y == 34) = false:=by simp only [beq_eq_false_iff_ne];omega
 have h35:(y == 35) = false:=by simp only [beq_eq_false_iff_ne];omega
 have h37:(y == 37) = false:=by simp only [beq_eq_false_iff_ne];omega
 have h38:(y == 38) = false:=by simp only [beq_eq_false_iff_ne];omega
 have h39:(y == 39) = false:=by simp only [beq_eq_false_iff_ne];omega
 have h40:(y == 40) = false:=by simp only [beq_eq_false_iff_ne];omega
 have h41:(y == 41) = false:=by simp only [beq_eq_false_iff_ne];omega
 have h42:(y == 42) = false:=by simp only [beq_eq_false_iff_ne];omega
 have h36:(y == 36) = false:=by simp only [beq_eq_false_iff_ne];omega
 have h43:(y == 43) = false:=by simp only [beq_eq_false_iff_ne];omega
 have h45:(y == 45) = false:=by simp only [beq_eq_false_iff_ne];omega
 have h46:(y == 46) = false:=by simp only [beq_eq_false_iff_ne];omega
 have h47:(y == 47) = false:=by simp only [beq_eq_false_iff_ne];omega
 have h48:(y == 48) = false:=by simp only [beq_eq_false_iff_ne];omega
 have h49:(y == 49) = false:=by simp only [beq_eq_false_iff_ne];omega
 have h50:(y == 50) = false:=by simp only [beq_eq_false_iff_ne];omega
 have h51:(y == 51) = false:=by simp only [beq_eq_false_iff_ne];omega
 have h52:(y == 52) = false:=by simp only [beq_eq_false_iff_ne];omega
 have h53:(y == 53) = false:=by simp only [beq_eq_false_iff_ne];omega
 have h54:(y == 54) = false:=by simp only [beq_eq_false_iff_ne];omega
 have h55:(y == 55) = false:=by simp only [beq_eq_false_iff_ne];omega
 have h56:(y == 56) = false:=by simp only [beq_eq_false_iff_ne];omega
 have h57:(y == 57) = false:=by simp only [beq_eq_false_iff_ne];omega
 have h58:(y == 58) = false:=by simp only [beq_eq_false_iff_ne];omega
 have h59:(y == 59) = false:=by simp only [beq_eq_false_iff_ne];omega
 have h60:(y == 60) = false:=by simp only [beq_eq_false_iff_ne];omega
 have h62:(y == 62) = false:=by simp only [beq_eq_false_iff_ne];omega
 have h63:(y == 63) = false:=by simp only [beq_eq_false_iff_ne];omega
 have h64:(y == 64) = false:=by simp only [beq_eq_false_iff_ne];omega
 have h65:(y == 65) = false:=by simp only [beq_eq_false_iff_ne];omega
 have h66:(y == 66) = false:=by simp only [beq_eq_false_iff_ne];omega
 have h67:(y == 67) = false:=by simp only [beq_eq_false_iff_ne];omega
 have h68:(y == 68) = false:=by simp only [beq_eq_false_iff_ne];omega
 have h69:(y == 69) = false:=by simp only [beq_eq_false_iff_ne];omega
 have h70:(y == 70) = false:=by simp only [beq_eq_false_iff_ne];omega
 have h71:(y == 71) = false:=by simp only [beq_eq_false_iff_ne];omega
 have h73:(y == 73) = false:=by simp only [beq_eq_false_iff_ne];omega
 have h74:(y == 74) = false:=by simp only [beq_eq_false_iff_ne];omega
 have h75:(y == 75) = false:=by simp only [beq_eq_false_iff_ne];omega
 have h76:(y == 76) = false:=by simp only [beq_eq_false_iff_ne];omega
 have h77:(y == 77) = false:=by simp only [beq_eq_false_iff_ne];omega
 have h78:(y == 78) = false:=by simp only [beq_eq_false_iff_ne];omega
 have h79:(y == 79) = false:=by simp only [beq_eq_false_iff_ne];omega
 have h80:(y == 80) = false:=by simp only [beq_eq_false_iff_ne];omega
 clear hop
 go_wp2_with fail
 refine (one_any (a.dims 0) A0 k0 _ L0.out.lst).mono ?_
 rintro e w9 ⟨A9,k9,x9,ll,rfl,hx,hb,hl,hp⟩
 have HC:=Lib.hid (And.intro (HX.out.trans hb) (And.intro hl (And.intro hx hp)))
 clear hx hb hl hp
 go_wp2
 go_ret2
 exact ⟨A9,k9,x9,ll,rfl,HC.out.2.2.1,HC.out.1,HC.out.2.1,so_all HN.out HC.out.2.2.2⟩
theorem shapes_three (a:AskD) (h:a.op = 28 ∨ a.op = 16 ∨ a.op = 2):ShapesLaw a:=fun cs w hr hok=>by
 rcases h with h | h
 ·exact shapes_together cs a w hr hok (by omega)
 ·exact shapes_plain cs a w hr hok (by omega)
end Go.Proofs.YtoeaglpmkjoenaaGreat
