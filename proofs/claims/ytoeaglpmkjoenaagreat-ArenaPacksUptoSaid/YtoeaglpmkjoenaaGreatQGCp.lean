/-
  graph.Copy.
-/
import Derived.Deep.CutRange
import Derived.Deep.DeepCutAuto
import Derived.Test.YtoeaglpmkjoenaaGreatQGCpN
import Derived.Test.YtoeaglpmkjoenaaGreatQGMaps
set_option linter.unusedSimpArgs false
set_option linter.unusedVariables false
namespace Go.Proofs.YtoeaglpmkjoenaaGreat
open Go.RowKit
open Rep (rep)
def ZrC (n m:Nat) (v:Value):Zone:=⟨fun b=>n ≤ b∧b < m∧v.ownBlock ≠ some b,false⟩
def CpX (w:World) (cs:List Value) (g:GraphD) (W:World):Prop:=∃ (vV vN vI vO:Value) (xV:List Value),cs = [vV,vN,vI,vO]∧W.ownsRow w.heap.size 45 8 vV g.vals.length xV∧Chunks W (ZrC w.heap.size W.heap.size vV) xV g.vals ∧
 rep W (ZrC w.heap.size W.heap.size vV) [vN] g.nodes∧rep W (ZrC w.heap.size W.heap.size vV) [vI] g.inputs∧rep W (ZrC w.heap.size W.heap.size vV) [vO] g.outputs
theorem own_lower {w:World} {base base':Nat} {e:TypeId} {size:Nat} {v:Value} {n:Nat} {xs:List Value} (h:w.ownsRow base e size v n xs) (hb:base' ≤ base):w.ownsRow base' e size v n xs :=
 ⟨h.1,h.2.imp id fun ⟨g',cap,cur,hv,hb',r⟩=>⟨g',cap,cur,hv,Nat.le_trans hb hb',r⟩⟩
theorem cpx_end {w W W9:World} {src res:List Value} {g:GraphD} {o:Nat} {vV vN vI vO:Value} {xV xN:List Value} (h:CSX w src res g o g.vals g.nodes vV xV vN xN vI vO W) (hn:g.nodes.length * 432 ≤ reach) (x:Array Value) (h9:W9 = W.setRow (w.heap.size + 1) x):CpX w [vV,vN,vI,vO] g W9:=by
 subst h9
 have hof:∀ b,Off (rowsC g.vals g.nodes vV xV vN xN) b→vV.ownBlock ≠ some b:=fun b hb e=>hb 0 _ rfl e
 have hc:(cold (w.heap.size + 2) [o] (rowsC g.vals g.nodes vV xV vN xN) W).le (ZrC w.heap.size W.heap.size vV):=⟨fun b hb=>⟨by have:=hb.1;omega,hb.2.1,hof b hb.2.2.2⟩,fun e=>by cases e⟩
 have own0:=h.rows.own 0 _ rfl
 have own1:=h.rows.own 1 _ rfl
 have kp:Keeps (ZrC (w.heap.size + 2) W.heap.size vV) W (W.setRow (w.heap.size + 1) x):=Keeps.of_block fun k hk=>heap_setRow_other _ _ _ _ (by have:=hk.1;omega)
 have hc2:(cold (w.heap.size + 2) [o] (rowsC g.vals g.nodes vV xV vN xN) W).le (ZrC (w.heap.size + 2) W.heap.size vV):=⟨fun b hb=>⟨hb.1,hb.2.1,hof b hb.2.2.2⟩,fun e=>by cases e⟩
 have hle:(ZrC (w.heap.size + 2) W.heap.size vV).le (ZrC w.heap.size (W.setRow (w.heap.size + 1) x).heap.size vV):=by
  rw [size_setRow]
  exact ⟨fun b hb=>⟨by have:=hb.1;omega,hb.2⟩,fun e=>by cases e⟩
 have hN:rep W (ZrC (w.heap.size + 2) W.heap.size vV) [vN] g.nodes:=rep_of_own own1 (Chunks.more hc2 h.cN) hn (fun b e h1 h2=>⟨h1,h2,fun e2=>h.rows.apart 0 1 _ _ (by decide) rfl rfl b e2 e⟩)
 refine ⟨vV,vN,vI,vO,xV,rfl,own_setRow (own_lower own0 (by omega)) (fun b hb=>by have:=(own0.lt b hb).1;omega) x,?_,?_,?_,?_⟩
 ·exact Chunks.more hle (Chunks.keep kp (Chunks.more hc2 h.cV))
 ·exact Rep.more (Rep.keep hN kp) hle
 ·exact Rep.more (Rep.keep (Rep.more h.rI hc2) kp) hle
 ·exact Rep.more (Rep.keep (Rep.more h.rO hc2) kp) hle
set_option maxRecDepth 100000 in
set_option maxHeartbeats 40000000 in
theorem copyX_any (gcs:List Value) (g:GraphD) (w:World) (hr:rep w (old w.heap.size) gcs g) :
  Calls Tryz.prog 48 #[.agg gcs.toArray] w fun e w'=>∃ cs:List Value,e = .returned (.agg cs.toArray)∧rep w' (fresh w.heap.size w'.heap.size) cs g∧Below w.heap.size w w'∧CpX w cs g w':=by
 obtain ⟨A1,k1,A2,k2,A3,k3,A4,k4,rfl,r1,r2,r3,r4⟩:=open_GraphD hr
 obtain ⟨n1,n1'⟩:=slice_bnd r1
 obtain ⟨n2,n2'⟩:=slice_bnd r2
 have HR:=Lib.hid (And.intro r1 (And.intro r2 (And.intro r3 (And.intro r4 (And.intro n1' n2')))))
 clear hr r1 r2 r3 r4 n1' n2'
 go_enter Tryz.func48,Tryz.ntmps48
 go_wp2_with (first
  |(with_reducible refine wpList_box_row rfl 26 _ rfl ([.slice A1 g.vals.length k1,.slice A2 g.nodes.length k2,.slice A3 g.inputs.length k3,.slice A4 g.outputs.length k4]:List Value) rfl ?_)
  |(with_reducible refine wpList_alloc_row rfl 26 rfl ([.slice none 0 0,.slice none 0 0,.slice none 0 0,.slice none 0 0]:List Value) zero4C ?_;have hX:=pair_start w 26 26 ([.slice A1 g.vals.length k1,.slice A2 g.nodes.length k2,.slice A3 g.inputs.length k3,.slice A4 g.outputs.length k4]:List Value) ([.slice none 0 0,.slice none 0 0,.slice none 0 0,.slice none 0 0]:List Value);generalize World.alloc _ (.cells ([.slice none 0 0,.slice none 0 0,.slice none 0 0,.slice none 0 0]:List Value).toArray _) = W0 at hX ⊢;have HX:=Lib.hid hX;clear hX;refine halt ?_))
 unfold Halt
 go_wp2_with fail
 go_cut [3] from 9 to 16 (fun v wx=>∃ (o:Nat) (vI vO:Value),v = .pointer (some ⟨o,0,none⟩)∧CSX w ([.slice A1 g.vals.length k1,.slice A2 g.nodes.length k2,.slice A3 g.inputs.length k3,.slice A4 g.outputs.length k4]:List Value) ([.slice none 0 0,.slice none 0 0,.slice none 0 0,.slice none 0 0]:List Value) g o [] [] (.slice none 0 0) [] (.slice none 0 0) [] vI vO wx)
 case first =>
  refine wp_region_held_drew (S:=fun W=>At W w.heap.size 0 ([.slice A1 g.vals.length k1,.slice A2 g.nodes.length k2,.slice A3 g.inputs.length k3,.slice A4 g.outputs.length k4]:List Value)) (by kernel_rfl) (At.of_row HX.out.drew.src) (fun hHeld=>?_)
  refine tk0 0 (some 9) (v:=.pointer (some ⟨w.heap.size,2,none⟩)) rfl hHeld ?_
  refine tk9 1 (some 10) (v:=.slice A3 g.inputs.length k3) rfl (yields_load_one9 (by kernel_rfl) _ _ rfl w.heap.size (2) (by kernel_rfl) _ _ Tryz.underlying24 rfl (fun _ h=>h 2 _ rfl)) hHeld ?_
  refine tk0 3 (some 12) (v:=.pointer (some ⟨w.heap.size,3,none⟩)) rfl hHeld ?_
  refine tk9 4 (some 13) (v:=.slice A4 g.outputs.length k4) rfl (yields_load_one9 (by kernel_rfl) _ _ rfl w.heap.size (3) (by kernel_rfl) _ _ Tryz.underlying24 rfl (fun _ h=>h 3 _ rfl)) hHeld ?_
  have hPB:w.heap.size + 2 ≤ W0.drew.heap.size:=HX.out.drew.lt
  have PB:=Lib.hid hPB
  have HD:=Lib.hid HX.out.drew
  clear hPB
  refine anyH_call_lay 2 7 (some 11) rfl rfl (by kernel_rfl) (by kernel_rfl) (by kernel_rfl) 30 _ _ rfl #[.slice A3 g.inputs.length k3] (by kernel_rfl) (fun w=>by kernel_rfl) ?ca ?cb
  case ca =>
   refine ((clone_ints g.inputs _ _ (HD.out.keeps HR.out.2.2.1)).mono (fun _ _ h=>sliced h)).mono ?_
   rintro e w1 ⟨B1,j1,rfl,hv,hb⟩
   have H1:=Lib.hid (HD.out.next hb)
   have R1:=Lib.hid (And.intro hv hb)
   clear hv hb
   refine ⟨_,rfl,At.of_row H1.out.src,?_⟩
   have z1:W0.drew.heap.size ≤ w1.heap.size:=R1.out.2.size
   refine anyH_call_lay 5 7 (some 14) rfl rfl (by kernel_rfl) (by kernel_rfl) (by kernel_rfl) 30 _ _ rfl #[.slice A4 g.outputs.length k4] (by kernel_rfl) (fun w=>by kernel_rfl) ?da ?db
   case da =>
    refine ((clone_ints g.outputs _ _ (H1.out.keeps HR.out.2.2.2.1)).mono (fun _ _ h=>sliced h)).mono ?_
    rintro e w2 ⟨B2,j2,rfl,hv,hb⟩
    have H2:=Lib.hid (H1.out.next hb)
    have R2:=Lib.hid (And.intro hv hb)
    clear hv hb
    refine ⟨_,rfl,At.of_row H2.out.src,?_⟩
    have z2:w1.heap.size ≤ w2.heap.size:=R2.out.2.size
    refine tk9 6 (some 15) (v:=.agg ([.slice none 0 0,.slice none 0 0,.slice B1 g.inputs.length j1,.slice B2 g.outputs.length j2]:List Value).toArray) rfl (Or.inl ⟨by kernel_rfl,fun w _=>by kernel_rfl⟩) (At.of_row H2.out.src) ?_
    refine anyH_1 7 rfl (by kernel_rfl) ?_
    refine steps_lay (.pointer (some ⟨w2.heap.size,0,none⟩)) (.cells ([.slice none 0 0,.slice none 0 0,.slice none 0 0,.slice none 0 0]:List Value).toArray 26) (by kernel_rfl) (by kernel_rfl) (At.of_row (H2.out.next ((Below.refl _ _).alloc (Nat.le_refl _) _)).src) ?_
    have hX:=H2.out.next ((Below.refl _ _).alloc (Nat.le_refl _) (.cells ([.slice none 0 0,.slice none 0 0,.slice none 0 0,.slice none 0 0]:List Value).toArray 26))
    have hN:=heap_alloc_new w2 (.cells ([.slice none 0 0,.slice none 0 0,.slice none 0 0,.slice none 0 0]:List Value).toArray 26)
    have hBA:Below w2.heap.size w2 (w2.alloc (.cells ([.slice none 0 0,.slice none 0 0,.slice none 0 0,.slice none 0 0]:List Value).toArray 26)):=(Below.refl _ _).alloc (Nat.le_refl _) _
    generalize w2.alloc (.cells ([.slice none 0 0,.slice none 0 0,.slice none 0 0,.slice none 0 0]:List Value).toArray 26) = w3 at hX hN hBA ⊢
    have H3:=Lib.hid hX
    have HN:=Lib.hid (And.intro hN hBA)
    clear hX hN hBA
    have hH:At w3 w.heap.size 0 ([.slice A1 g.vals.length k1,.slice A2 g.nodes.length k2,.slice A3 g.inputs.length k3,.slice A4 g.outputs.length k4]:List Value):=At.of_row H3.out.src
    have hO:=csx_laid (vI:=.slice B1 g.inputs.length j1) (vO:=.slice B2 g.outputs.length j2) H3.out (by have:=PB.out;omega) (z:=([.slice none 0 0,.slice none 0 0,.slice none 0 0,.slice none 0 0]:List Value)) rfl HN.out.1 (off_of R1.out.1 (R2.out.2.trans (HN.out.2.mono z2)) (by have:=PB.out;omega) (.inr z2)) (off_of R2.out.1 HN.out.2 (by have:=PB.out;omega) (.inr (Nat.le_refl _)))
    refine anyH_store_agg 8 rfl (by kernel_rfl) (by kernel_rfl) 26 _ _ rfl w2.heap.size 0 ([.slice none 0 0,.slice none 0 0,.slice B1 g.inputs.length j1,.slice B2 g.outputs.length j2]:List Value) (by kernel_rfl) (by kernel_rfl) 26 ([.slice none 0 0,.slice none 0 0,.slice none 0 0,.slice none 0 0]:List Value) HN.out.1 (by kernel_rfl) (of_decide_eq_true (by kernel_rfl)) (by simp [Value.oneCell']) (At.of_row hO.arg) ?_
    refine wpAnyH_done (by kernel_rfl) ?_ _
    generalize World.setRow _ _ _ = wc at hO ⊢
    have HO:=Lib.hid hO
    clear hO hH hHeld
    go_wp2
    go_meet
    exact ⟨_,_,_,rfl,HO.out⟩
   case db =>
    refine steps_lay (.pointer (some ⟨w1.heap.size,0,none⟩)) (.cells ([.slice none 0 0,.slice none 0 0,.slice none 0 0,.slice none 0 0]:List Value).toArray 26) (by kernel_rfl) (by kernel_rfl) (At.of_row (H1.out.next ((Below.refl _ _).alloc (Nat.le_refl _) _)).src) ?_
    have hX:=H1.out.next ((Below.refl _ _).alloc (Nat.le_refl _) (.cells ([.slice none 0 0,.slice none 0 0,.slice none 0 0,.slice none 0 0]:List Value).toArray 26))
    have hN:=heap_alloc_new w1 (.cells ([.slice none 0 0,.slice none 0 0,.slice none 0 0,.slice none 0 0]:List Value).toArray 26)
    have hBA:Below w1.heap.size w1 (w1.alloc (.cells ([.slice none 0 0,.slice none 0 0,.slice none 0 0,.slice none 0 0]:List Value).toArray 26)):=(Below.refl _ _).alloc (Nat.le_refl _) _
    generalize w1.alloc (.cells ([.slice none 0 0,.slice none 0 0,.slice none 0 0,.slice none 0 0]:List Value).toArray 26) = w2 at hX hN hBA ⊢
    have H2:=Lib.hid hX
    have HN:=Lib.hid (And.intro hN hBA)
    clear hX hN hBA
    refine call_d9 5 (some 14) rfl (by kernel_rfl) (by kernel_rfl) (by kernel_rfl) 30 _ _ rfl #[.slice A4 g.outputs.length k4] (by kernel_rfl) (fun w=>by kernel_rfl) ?_
    refine ((clone_ints g.outputs _ _ (H2.out.keeps HR.out.2.2.2.1)).mono (fun _ _ h=>sliced h)).mono ?_
    rintro e w3 ⟨B2,j2,rfl,hv,hb⟩
    have H3:=Lib.hid (H2.out.next hb)
    have R2:=Lib.hid (And.intro hv hb)
    clear hv hb
    refine ⟨_,rfl,At.of_row H3.out.src,?_⟩
    have z2:w1.heap.size < w2.heap.size:=(Array.getElem?_eq_some_iff.1 HN.out.1).1
    have hH:At w3 w.heap.size 0 ([.slice A1 g.vals.length k1,.slice A2 g.nodes.length k2,.slice A3 g.inputs.length k3,.slice A4 g.outputs.length k4]:List Value):=At.of_row H3.out.src
    refine tk0 6 (some 15) (v:=.agg ([.slice none 0 0,.slice none 0 0,.slice B1 g.inputs.length j1,.slice B2 g.outputs.length j2]:List Value).toArray) rfl hH ?_
    have hO:=csx_laid (vI:=.slice B1 g.inputs.length j1) (vO:=.slice B2 g.outputs.length j2) H3.out (by have:=PB.out;omega) (z:=([.slice none 0 0,.slice none 0 0,.slice none 0 0,.slice none 0 0]:List Value)) rfl ((R2.out.2.block _ z2).trans HN.out.1) (off_of R1.out.1 (HN.out.2.trans (R2.out.2.mono HN.out.2.size)) (by have:=PB.out;omega) (.inr (Nat.le_refl _))) (off_of R2.out.1 (Below.refl _ _) (by have:=PB.out;omega) (.inl z2))
    refine anyH_store_agg 8 rfl (by kernel_rfl) (by kernel_rfl) 26 _ _ rfl w1.heap.size 0 ([.slice none 0 0,.slice none 0 0,.slice B1 g.inputs.length j1,.slice B2 g.outputs.length j2]:List Value) (by kernel_rfl) (by kernel_rfl) 26 ([.slice none 0 0,.slice none 0 0,.slice none 0 0,.slice none 0 0]:List Value) ((R2.out.2.block _ z2).trans HN.out.1) (by kernel_rfl) (of_decide_eq_true (by kernel_rfl)) (by simp [Value.oneCell']) (At.of_row hO.arg) ?_
    refine wpAnyH_done (by kernel_rfl) ?_ _
    generalize World.setRow _ _ _ = wc at hO ⊢
    have HO:=Lib.hid hO
    clear hO hH hHeld
    go_wp2
    go_meet
    exact ⟨_,_,_,rfl,HO.out⟩
  case cb =>
   refine steps_lay (.pointer (some ⟨W0.drew.heap.size,0,none⟩)) (.cells ([.slice none 0 0,.slice none 0 0,.slice none 0 0,.slice none 0 0]:List Value).toArray 26) (by kernel_rfl) (by kernel_rfl) (At.of_row (HD.out.next ((Below.refl _ _).alloc (Nat.le_refl _) _)).src) ?_
   have hX:=HD.out.next ((Below.refl _ _).alloc (Nat.le_refl _) (.cells ([.slice none 0 0,.slice none 0 0,.slice none 0 0,.slice none 0 0]:List Value).toArray 26))
   have hN:=heap_alloc_new W0.drew (.cells ([.slice none 0 0,.slice none 0 0,.slice none 0 0,.slice none 0 0]:List Value).toArray 26)
   have hBA:Below W0.drew.heap.size W0.drew (W0.drew.alloc (.cells ([.slice none 0 0,.slice none 0 0,.slice none 0 0,.slice none 0 0]:List Value).toArray 26)):=(Below.refl _ _).alloc (Nat.le_refl _) _
   generalize W0.drew.alloc (.cells ([.slice none 0 0,.slice none 0 0,.slice none 0 0,.slice none 0 0]:List Value).toArray 26) = w1 at hX hN hBA ⊢
   have H1:=Lib.hid hX
   have HN:=Lib.hid (And.intro hN hBA)
   clear hX hN hBA
   have z1:W0.drew.heap.size < w1.heap.size:=(Array.getElem?_eq_some_iff.1 HN.out.1).1
   refine call_d9 2 (some 11) rfl (by kernel_rfl) (by kernel_rfl) (by kernel_rfl) 30 _ _ rfl #[.slice A3 g.inputs.length k3] (by kernel_rfl) (fun w=>by kernel_rfl) ?_
   refine ((clone_ints g.inputs _ _ (H1.out.keeps HR.out.2.2.1)).mono (fun _ _ h=>sliced h)).mono ?_
   rintro e w2 ⟨B1,j1,rfl,hv,hb⟩
   have H2:=Lib.hid (H1.out.next hb)
   have R1:=Lib.hid (And.intro hv hb)
   clear hv hb
   refine ⟨_,rfl,At.of_row H2.out.src,?_⟩
   refine call_d9 5 (some 14) rfl (by kernel_rfl) (by kernel_rfl) (by kernel_rfl) 30 _ _ rfl #[.slice A4 g.outputs.length k4] (by kernel_rfl) (fun w=>by kernel_rfl) ?_
   refine ((clone_ints g.outputs _ _ (H2.out.keeps HR.out.2.2.2.1)).mono (fun _ _ h=>sliced h)).mono ?_
   rintro e w3 ⟨B2,j2,rfl,hv,hb⟩
   have H3:=Lib.hid (H2.out.next hb)
   have R2:=Lib.hid (And.intro hv hb)
   clear hv hb
   refine ⟨_,rfl,At.of_row H3.out.src,?_⟩
   have z2:w1.heap.size ≤ w2.heap.size:=R1.out.2.size
   have hH:At w3 w.heap.size 0 ([.slice A1 g.vals.length k1,.slice A2 g.nodes.length k2,.slice A3 g.inputs.length k3,.slice A4 g.outputs.length k4]:List Value):=At.of_row H3.out.src
   refine tk0 6 (some 15) (v:=.agg ([.slice none 0 0,.slice none 0 0,.slice B1 g.inputs.length j1,.slice B2 g.outputs.length j2]:List Value).toArray) rfl hH ?_
   have hO:=csx_laid (vI:=.slice B1 g.inputs.length j1) (vO:=.slice B2 g.outputs.length j2) H3.out (by have:=PB.out;omega) (z:=([.slice none 0 0,.slice none 0 0,.slice none 0 0,.slice none 0 0]:List Value)) rfl ((R2.out.2.block _ (by omega)).trans ((R1.out.2.block _ z1).trans HN.out.1)) (off_of R1.out.1 R2.out.2 (by have:=PB.out;omega) (.inl z1)) (off_of R2.out.1 (Below.refl _ _) (by have:=PB.out;omega) (.inl (by omega)))
   refine anyH_store_agg 8 rfl (by kernel_rfl) (by kernel_rfl) 26 _ _ rfl W0.drew.heap.size 0 ([.slice none 0 0,.slice none 0 0,.slice B1 g.inputs.length j1,.slice B2 g.outputs.length j2]:List Value) (by kernel_rfl) (by kernel_rfl) 26 ([.slice none 0 0,.slice none 0 0,.slice none 0 0,.slice none 0 0]:List Value) ((R2.out.2.block _ (by omega)).trans ((R1.out.2.block _ z1).trans HN.out.1)) (by kernel_rfl) (of_decide_eq_true (by kernel_rfl)) (by simp [Value.oneCell']) (At.of_row hO.arg) ?_
   refine wpAnyH_done (by kernel_rfl) ?_ _
   generalize World.setRow _ _ _ = wc at hO ⊢
   have HO:=Lib.hid hO
   clear hO hH hHeld
   go_wp2
   go_meet
   exact ⟨_,_,_,rfl,HO.out⟩
 case rest =>
  obtain ⟨o,vI,vO,rfl,hC⟩:=hcut
  have HC:=Lib.hid hC
  clear hC HX
  obtain ⟨VB,vc,vs,hv,-,-,hbt,hl,hch⟩:=open_slice HR.out.1
  simp only [Value.slice.injEq,true_and] at hv
  obtain ⟨rfl,rfl⟩:=hv
  have HV:=Lib.hid (And.intro hl (And.intro hch (show g.vals.length * 144 ≤ 140737488351232 from hbt)))
  clear hl hch hbt
  obtain ⟨MB,mc,ms,hv,-,-,hbt,hl,hch⟩:=open_slice HR.out.2.1
  simp only [Value.slice.injEq,true_and] at hv
  obtain ⟨rfl,rfl⟩:=hv
  have HM:=Lib.hid (And.intro hl (And.intro hch (show g.nodes.length * 432 ≤ 140737488351232 from hbt)))
  clear hl hch hbt
  have c0:=cell_at (j:=0) HC.out.arg rfl
  go_wp2_with fail
  clear c0
  go_loopw [19] (fun i wr=>∃ (pre post:List ValD),g.vals = pre++post∧i = .int .i64 pre.length∧∃ vV xV,CSX w ([.slice A1 g.vals.length k1,.slice A2 g.nodes.length k2,.slice A3 g.inputs.length k3,.slice A4 g.outputs.length k4]:List Value) ([.slice none 0 0,.slice none 0 0,.slice none 0 0,.slice none 0 0]:List Value) g o pre [] vV xV (.slice none 0 0) [] vI vO wr) (fun i _=>g.vals.length - (intOf i).toNat)
  case atStart=>exact ⟨[],g.vals,rfl,rfl,_,_,HC.out⟩
  case round =>
   obtain ⟨pre,post,hpp,rfl,vV,xV,hI⟩:=hrel
   have HI:=Lib.hid hI
   clear hI
   cases post with
   | cons z post =>
    obtain ⟨hz,hlt,hpp',hpl⟩:=split_at hpp
    obtain ⟨b2,o2,zc,rfl,hbB,hrz,hcell⟩:=elem_at HV.out.1 HV.out.2.1 (by decide) hz
    have hat:At wr b2 (o2 + pre.length * 8) zc:=fun j u hu=>by
     have h1:=(hcell j u hu).1
     rw [← Nat.add_assoc] at h1
     exact (HI.out.below.cell (p:=⟨b2,o2 + pre.length * 8 + j,none⟩) hbB).trans h1
    replace hrz:=HI.out.keeps' hrz
    obtain ⟨D1,e1,D2,e2,D3,e3,D4,e4,D5,e5,rfl,q0,q1,q3⟩:=open_ValD hrz
    have HQ:=Lib.hid (And.intro hat (And.intro q0 (And.intro q1 q3)))
    have hk0:(0:Int) ≤ (pre.length:Int):=Int.natCast_nonneg _
    have hk1:(pre.length:Int) < (g.vals.length:Int):=by omega
    have HP:=Lib.hid (And.intro hpp' (And.intro hpl hlt))
    clear hpp hpp' hpl hz hcell hbB hrz hat q0 q1 q3
    go_wp2_with (first
     |(with_reducible refine wpList_load_agg rfl 45 _ rfl _ _ _ rfl ([.int .i64 z.type,.slice D1 z.dims.length e1,.bool z.const,.int .i64 z.t.type,.slice D2 z.t.dims.length e2,.slice D3 z.t.f.length e3,.slice D4 z.t.i.length e4,.slice D5 z.t.b.length e5]:List Value) Tryz.underlying45 rfl (by kernel_rfl) HQ.out.1 ?_)
     |(with_reducible refine wpList_alloc_row rfl 45 rfl zeroV zeroV_zero ?_)
     |(with_reducible refine wpList_store_agg rfl 45 _ _ rfl _ 0 ([.int .i64 z.type,.slice D1 z.dims.length e1,.bool z.const,.int .i64 z.t.type,.slice D2 z.t.dims.length e2,.slice D3 z.t.f.length e3,.slice D4 z.t.i.length e4,.slice D5 z.t.b.length e5]:List Value) rfl rfl 45 zeroV (heap_alloc_new _ _) (by kernel_rfl) (of_decide_eq_true (by kernel_rfl)) (by simp [Value.oneCell']) ?_;have hY:=laid_row wr 45 zeroV ([.int .i64 z.type,.slice D1 z.dims.length e1,.bool z.const,.int .i64 z.t.type,.slice D2 z.t.dims.length e2,.slice D3 z.t.f.length e3,.slice D4 z.t.i.length e4,.slice D5 z.t.b.length e5]:List Value) rfl;generalize World.setRow _ _ _ = v0 at hY ⊢;have HY:=Lib.hid hY;clear hY;refine halt ?_))
    unfold Halt
    have K:=Lib.hid ((Work.start wr).box 45 ([.int .i64 z.type,.slice D1 z.dims.length e1,.bool z.const,.int .i64 z.t.type,.slice D2 z.t.dims.length e2,.slice D3 z.t.f.length e3,.slice D4 z.t.i.length e4,.slice D5 z.t.b.length e5]:List Value) HY.out.1 HY.out.2.1)
    clear HY
    go_wp2_with fail
    have hC:=offB_drew (lo:=wr.heap.size) (bs:=[wr.heap.size]) (W:=v0)
    clear hC
    replace K:=Lib.hid K.out.drew
    refine wp_region_tail [7,8,9] (S:=fun W=>At W wr.heap.size 0 ([.int .i64 z.type,.slice D1 z.dims.length e1,.bool z.const,.int .i64 z.t.type,.slice D2 z.t.dims.length e2,.slice D3 z.t.f.length e3,.slice D4 z.t.i.length e4,.slice D5 z.t.b.length e5]:List Value)) (by kernel_rfl) K.out.at0 (fun hHeld=>?_)
    refine tt9 0 (some 23) (v:=.pointer (some ⟨wr.heap.size,1,none⟩)) rfl (Or.inl ⟨by kernel_rfl,fun w _=>by kernel_rfl⟩) hHeld ?_
    refine tt9 1 (some 24) (v:=.slice D1 z.dims.length e1) rfl (yields_load_one9 (by kernel_rfl) _ _ rfl wr.heap.size (1) (by kernel_rfl) _ _ Tryz.underlying24 rfl (fun _ h=>h 1 _ rfl)) hHeld ?_
    refine tt9 3 (some 26) (v:=.pointer (some ⟨wr.heap.size,3,none⟩)) rfl (Or.inl ⟨by kernel_rfl,fun w _=>by kernel_rfl⟩) hHeld ?_
    refine tt9 4 (some 27) (v:=.agg ([.int .i64 z.t.type,.slice D2 z.t.dims.length e2,.slice D3 z.t.f.length e3,.slice D4 z.t.i.length e4,.slice D5 z.t.b.length e5]:List Value).toArray) rfl (yields_load_agg (by kernel_rfl) 43 _ rfl _ wr.heap.size 3 (by kernel_rfl) ([.int .i64 z.t.type,.slice D2 z.t.dims.length e2,.slice D3 z.t.f.length e3,.slice D4 z.t.i.length e4,.slice D5 z.t.b.length e5]:List Value) Tryz.underlying43 rfl (by kernel_rfl) (fun _ h=>At.part (xs:=[.int .i64 z.type,.slice D1 z.dims.length e1,.bool z.const]) (cs:=([.int .i64 z.t.type,.slice D2 z.t.dims.length e2,.slice D3 z.t.f.length e3,.slice D4 z.t.i.length e4,.slice D5 z.t.b.length e5]:List Value)) (ys:=[]) (o:=0) h)) hHeld ?_
    refine call_t9 2 (some 25) rfl (by kernel_rfl) (by kernel_rfl) (by kernel_rfl) 30 _ _ rfl #[.slice D1 z.dims.length e1] (by kernel_rfl) (fun w=>by kernel_rfl) ?_
    refine ((clone_ints z.dims _ _ (K.out.old (HQ.out.2.2.1))).mono (fun _ _ h=>sliced h)).mono ?_
    rintro e v1 ⟨B1,j1,rfl,hv,hb⟩
    have hC:=offB_next (lo:=wr.heap.size) (bs:=[wr.heap.size]) hb
    clear hC
    have P1:=Lib.hid (K.out.newB (bs:=[wr.heap.size]) rfl hb hv)
    replace K:=Lib.hid (K.out.next hb)
    clear hv hb
    refine ⟨_,rfl,K.out.at0,?_⟩
    replace hHeld:=K.out.at0
    refine tt9 6 (some 29) (v:=.pointer (some ⟨wr.heap.size,1,none⟩)) rfl (Or.inl ⟨by kernel_rfl,fun w _=>by kernel_rfl⟩) hHeld ?_
    refine call_t9 5 (some 28) rfl (by kernel_rfl) (by kernel_rfl) (by kernel_rfl) 72 _ _ rfl #[.agg ([.int .i64 z.t.type,.slice D2 z.t.dims.length e2,.slice D3 z.t.f.length e3,.slice D4 z.t.i.length e4,.slice D5 z.t.b.length e5]:List Value).toArray] (by kernel_rfl) (fun w=>by kernel_rfl) ?_
    refine (tcopy_any ([.int .i64 z.t.type,.slice D2 z.t.dims.length e2,.slice D3 z.t.f.length e3,.slice D4 z.t.i.length e4,.slice D5 z.t.b.length e5]:List Value) z.t v1 (K.out.old HQ.out.2.2.2)).mono ?_
    rintro e v2 ⟨ts,rfl,hv,hb⟩
    obtain ⟨E2,f2,E3,f3,E4,f4,E5,f5,rfl,-⟩:=open_TensorD hv
    have hC:=offB_next (lo:=wr.heap.size) (bs:=[wr.heap.size]) hb
    replace P1:=Lib.hid (hC.data P1.out)
    clear hC
    have P2:=Lib.hid (K.out.newB (bs:=[wr.heap.size]) rfl hb (Rep.more hv (fresh_le (Nat.le_add_right _ _) (Nat.le_refl _))))
    replace K:=Lib.hid (K.out.next hb)
    clear hv hb
    refine ⟨_,rfl,K.out.at0,?_⟩
    clear hHeld
    refine tail_free _ _ _ _ (by kernel_rfl) ?_
    have hR:=K.out.row0
    refine anyH_store_field 7 rfl (by kernel_rfl) (by kernel_rfl) 24 _ _ rfl wr.heap.size 1 (.slice B1 z.dims.length j1) (by kernel_rfl) (by kernel_rfl) rfl (by kernel_rfl) 45 ([.int .i64 z.type,.slice D1 z.dims.length e1,.bool z.const,.int .i64 z.t.type,.slice D2 z.t.dims.length e2,.slice D3 z.t.f.length e3,.slice D4 z.t.i.length e4,.slice D5 z.t.b.length e5]:List Value) hR (of_decide_eq_true (by kernel_rfl)) trivial ?_
    have hK:=K.out.set0 (cs':=(([.int .i64 z.type,.slice D1 z.dims.length e1,.bool z.const,.int .i64 z.t.type,.slice D2 z.t.dims.length e2,.slice D3 z.t.f.length e3,.slice D4 z.t.i.length e4,.slice D5 z.t.b.length e5]:List Value).set 1 (.slice B1 z.dims.length j1))) (fun x h=>by cases h)
    have hC:=offB_set (lo:=wr.heap.size) (bs:=[wr.heap.size]) (W:=v2) (b:=wr.heap.size) (xs:=(([.int .i64 z.type,.slice D1 z.dims.length e1,.bool z.const,.int .i64 z.t.type,.slice D2 z.t.dims.length e2,.slice D3 z.t.f.length e3,.slice D4 z.t.i.length e4,.slice D5 z.t.b.length e5]:List Value).set 1 (.slice B1 z.dims.length j1)).toArray) (by simp)
    generalize World.setRow _ _ _ = v3 at hK hC ⊢
    replace K:=Lib.hid hK
    clear hK hR
    replace P1:=Lib.hid (hC.data P1.out)
    replace P2:=Lib.hid (hC.data P2.out)
    clear hC
    replace K:=Lib.hid (show Work wr [⟨wr.heap.size,45,([.int .i64 z.type,.slice B1 z.dims.length j1,.bool z.const,.int .i64 z.t.type,.slice D2 z.t.dims.length e2,.slice D3 z.t.f.length e3,.slice D4 z.t.i.length e4,.slice D5 z.t.b.length e5]:List Value)⟩] v3 from K.out)
    refine tk0 8 (some 30) (v:=.pointer (some ⟨wr.heap.size,3,none⟩)) rfl trivial ?_
    have hR:=K.out.row0
    refine anyH_store_agg 9 rfl (by kernel_rfl) (by kernel_rfl) 43 _ _ rfl wr.heap.size 3 ([.int .i64 z.t.type,.slice E2 z.t.dims.length f2,.slice E3 z.t.f.length f3,.slice E4 z.t.i.length f4,.slice E5 z.t.b.length f5]:List Value) (by kernel_rfl) (by kernel_rfl) 45 ([.int .i64 z.type,.slice B1 z.dims.length j1,.bool z.const,.int .i64 z.t.type,.slice D2 z.t.dims.length e2,.slice D3 z.t.f.length e3,.slice D4 z.t.i.length e4,.slice D5 z.t.b.length e5]:List Value) hR (by kernel_rfl) (of_decide_eq_true (by kernel_rfl)) (by simp [Value.oneCell']) trivial ?_
    have hK:=K.out.set0 (cs':=(([.int .i64 z.type,.slice B1 z.dims.length j1,.bool z.const,.int .i64 z.t.type,.slice D2 z.t.dims.length e2,.slice D3 z.t.f.length e3,.slice D4 z.t.i.length e4,.slice D5 z.t.b.length e5]:List Value).take 3++([.int .i64 z.t.type,.slice E2 z.t.dims.length f2,.slice E3 z.t.f.length f3,.slice E4 z.t.i.length f4,.slice E5 z.t.b.length f5]:List Value)++([.int .i64 z.type,.slice B1 z.dims.length j1,.bool z.const,.int .i64 z.t.type,.slice D2 z.t.dims.length e2,.slice D3 z.t.f.length e3,.slice D4 z.t.i.length e4,.slice D5 z.t.b.length e5]:List Value).drop (3 + ([.int .i64 z.t.type,.slice E2 z.t.dims.length f2,.slice E3 z.t.f.length f3,.slice E4 z.t.i.length f4,.slice E5 z.t.b.length f5]:List Value).length))) (fun x h=>by cases h)
    have hC:=offB_set (lo:=wr.heap.size) (bs:=[wr.heap.size]) (W:=v3) (b:=wr.heap.size) (xs:=(([.int .i64 z.type,.slice B1 z.dims.length j1,.bool z.const,.int .i64 z.t.type,.slice D2 z.t.dims.length e2,.slice D3 z.t.f.length e3,.slice D4 z.t.i.length e4,.slice D5 z.t.b.length e5]:List Value).take 3++([.int .i64 z.t.type,.slice E2 z.t.dims.length f2,.slice E3 z.t.f.length f3,.slice E4 z.t.i.length f4,.slice E5 z.t.b.length f5]:List Value)++([.int .i64 z.type,.slice B1 z.dims.length j1,.bool z.const,.int .i64 z.t.type,.slice D2 z.t.dims.length e2,.slice D3 z.t.f.length e3,.slice D4 z.t.i.length e4,.slice D5 z.t.b.length e5]:List Value).drop (3 + ([.int .i64 z.t.type,.slice E2 z.t.dims.length f2,.slice E3 z.t.f.length f3,.slice E4 z.t.i.length f4,.slice E5 z.t.b.length f5]:List Value).length)).toArray) (by simp)
    generalize World.setRow _ _ _ = v4 at hK hC ⊢
    replace K:=Lib.hid hK
    clear hK hR
    replace P1:=Lib.hid (hC.data P1.out)
    replace P2:=Lib.hid (hC.data P2.out)
    clear hC
    replace K:=Lib.hid (show Work wr [⟨wr.heap.size,45,([.int .i64 z.type,.slice B1 z.dims.length j1,.bool z.const,.int .i64 z.t.type,.slice E2 z.t.dims.length f2,.slice E3 z.t.f.length f3,.slice E4 z.t.i.length f4,.slice E5 z.t.b.length f5]:List Value)⟩] v4 from K.out)
    refine wpAnyH_done (by kernel_rfl) ?_ _
    have hZN:rep v4 (fresh wr.heap.size v4.heap.size) ([.int .i64 z.type,.slice B1 z.dims.length j1,.bool z.const,.int .i64 z.t.type,.slice E2 z.t.dims.length f2,.slice E3 z.t.f.length f3,.slice E4 z.t.i.length f4,.slice E5 z.t.b.length f5]:List Value) z:=Rep.more (shut_ValD HQ.out.2.1 (c1:=[_]) P1.out (c3:=([.int .i64 z.t.type,.slice E2 z.t.dims.length f2,.slice E3 z.t.f.length f3,.slice E4 z.t.i.length f4,.slice E5 z.t.b.length f5]:List Value)) P2.out) offB_fresh
    have hI4:=HI.out.next K.out.below
    have hb5:Below v4.heap.size v4 (v4.alloc (.cells ([.int .i64 z.type,.slice B1 z.dims.length j1,.bool z.const,.int .i64 z.t.type,.slice E2 z.t.dims.length f2,.slice E3 z.t.f.length f3,.slice E4 z.t.i.length f4,.slice E5 z.t.b.length f5]:List Value).toArray 45)):=(Below.refl _ _).alloc (Nat.le_refl _) _
    have hI5:=hI4.next hb5
    have hown:=hI5.rows.own 0 _ rfl
    have hlies:=lies_new v4 ([.int .i64 z.type,.slice B1 z.dims.length j1,.bool z.const,.int .i64 z.t.type,.slice E2 z.t.dims.length f2,.slice E3 z.t.f.length f3,.slice E4 z.t.i.length f4,.slice E5 z.t.b.length f5]:List Value) 45
    have hbw:=K.out.below.trans (hb5.mono K.out.below.size)
    have hz5:rep (v4.alloc (.cells ([.int .i64 z.type,.slice B1 z.dims.length j1,.bool z.const,.int .i64 z.t.type,.slice E2 z.t.dims.length f2,.slice E3 z.t.f.length f3,.slice E4 z.t.i.length f4,.slice E5 z.t.b.length f5]:List Value).toArray 45)) (fresh wr.heap.size (v4.alloc (.cells ([.int .i64 z.type,.slice B1 z.dims.length j1,.bool z.const,.int .i64 z.t.type,.slice E2 z.t.dims.length f2,.slice E3 z.t.f.length f3,.slice E4 z.t.i.length f4,.slice E5 z.t.b.length f5]:List Value).toArray 45)).heap.size) ([.int .i64 z.type,.slice B1 z.dims.length j1,.bool z.const,.int .i64 z.t.type,.slice E2 z.t.dims.length f2,.slice E3 z.t.f.length f3,.slice E4 z.t.i.length f4,.slice E5 z.t.b.length f5]:List Value) z:=new_next hZN hb5
    have hlo:w.heap.size + 2 ≤ (v4.alloc (.cells ([.int .i64 z.type,.slice B1 z.dims.length j1,.bool z.const,.int .i64 z.t.type,.slice E2 z.t.dims.length f2,.slice E3 z.t.f.length f3,.slice E4 z.t.i.length f4,.slice E5 z.t.b.length f5]:List Value).toArray 45)).heap.size:=hI5.base
    have hbt:(pre.length + 1) * 144 ≤ 140737488355328:=by have:=HV.out.2.2;have:=HP.out.2.2;omega
    have hmx:pre.length + 1 ≤ maxLen:=by unfold maxLen;omega
    have hon:=Rep.one hz5
    have hrw:=K.out.row0
    have d0:=cell_at (j:=0) hI4.row rfl
    have HD:=Lib.hid (And.intro hown (And.intro hlies (And.intro hbw (And.intro hz5 (And.intro hlo (And.intro hbt (And.intro hmx (And.intro hon hrw))))))))
    clear hI4 hb5 hI5 hown hlies hbw hz5 hlo hbt hmx hon hZN hrw
    obtain ⟨i0,hi0,hz0,hz1,hz2⟩:=info_parts (show (Tryz.prog.info? 45).map (fun i=>(i.zero,i.size,i.bytes)) = some (some (.agg zeroV.toArray),8,144) by kernel_rfl)
    have HZ:=Lib.hid (And.intro hi0 (And.intro hz0 (And.intro hz1 hz2)))
    clear hi0 hz0 hz1 hz2
    go_wp2_with (first
     |(with_reducible refine wpList_load_agg rfl 45 _ rfl _ wr.heap.size 0 rfl ([.int .i64 z.type,.slice B1 z.dims.length j1,.bool z.const,.int .i64 z.t.type,.slice E2 z.t.dims.length f2,.slice E3 z.t.f.length f3,.slice E4 z.t.i.length f4,.slice E5 z.t.b.length f5]:List Value) Tryz.underlying45 rfl (by kernel_rfl) (At.of_row HD.out.2.2.2.2.2.2.2.2) ?_)
     |(at_builtin;refine wpList_append_lies _ rfl _ _ 22 rfl (w.heap.size + 2) 45 i0 (.agg zeroV.toArray) 8 144 Tryz.underlying22 HZ.out.1 HZ.out.2.1 HZ.out.2.2.1 HZ.out.2.2.2 rfl (by decide) vV pre.length xV rfl HD.out.1 (old (v4.heap.size + 1)) (some ⟨v4.heap.size,0,none⟩) 1 1 ([.int .i64 z.type,.slice B1 z.dims.length j1,.bool z.const,.int .i64 z.t.type,.slice E2 z.t.dims.length f2,.slice E3 z.t.f.length f3,.slice E4 z.t.i.length f4,.slice E5 z.t.b.length f5]:List Value) rfl rfl HD.out.2.1 HD.out.2.2.2.2.2.2.2.1 HD.out.2.2.2.2.2.2.1 HD.out.2.2.2.2.2.1 HD.out.2.2.2.2.1 ?_;intro v9 W9 ho9 hg9 hb9;have HK:=Lib.hid (HI.out.push_val HD.out.2.2.1 HD.out.2.2.2.1 hg9 ho9 hb9);clear ho9 hg9 hb9)
     |(with_reducible refine wpList_store_field rfl 22 _ _ rfl o 0 v9 rfl rfl HK.out.2.1 (by kernel_rfl) 26 ([vV,.slice none 0 0,vI,vO]:List Value) HK.out.1 (of_decide_eq_true (by kernel_rfl)) ?_;have hX:=HK.out.2.2;generalize World.setRow _ _ _ = w10 at hX ⊢;have HX:=Lib.hid hX;clear hX;refine halt ?_))
    unfold Halt
    have hvm:pre.length < 1000000000000:=by have:=HV.out.2.2;have:=HP.out.2.2;omega
    go_wp2
    go_roundw
    case rel=>exact ⟨pre++[z],post,HP.out.1,by rw [HP.out.2.1];go_num,_,_,HX.out⟩
    case measure=>simp [intOf];have:=HP.out.2.2;omega
   | nil =>
    obtain ⟨hge,hpl⟩:=split_end hpp
    have hI':=HI.out
    rw [hpl] at hI'
    replace HI:=Lib.hid hI'
    replace hpl:=Lib.hid hpl
    clear hpp hI'
    have c1:=cell_at (j:=1) HI.out.arg rfl
    go_wp2_with fail
    clear c1
    obtain ⟨wb,rfl⟩:∃ wb,wb = wr:=⟨_,rfl⟩
    go_loopw [41] (fun i wr=>∃ (pre post:List GNodeD),g.nodes = pre++post∧i = .int .i64 pre.length∧∃ vN xN,CSX w ([.slice A1 g.vals.length k1,.slice A2 g.nodes.length k2,.slice A3 g.inputs.length k3,.slice A4 g.outputs.length k4]:List Value) ([.slice none 0 0,.slice none 0 0,.slice none 0 0,.slice none 0 0]:List Value) g o g.vals pre vV xV vN xN vI vO wr) (fun i _=>g.nodes.length - (intOf i).toNat)
    case atStart=>exact ⟨[],g.nodes,rfl,rfl,_,_,HI.out⟩
    case round =>
     obtain ⟨pre2,post2,hpp,rfl,vN,xN,hI⟩:=hrel
     have HI:=Lib.hid hI
     clear hI
     cases post2 with
     | cons z post2 =>
      obtain ⟨hz,hlt,hpp',hpl⟩:=split_at hpp
      obtain ⟨b2,o2,zc,rfl,hbB,hrz,hcell⟩:=elem_at HM.out.1 HM.out.2.1 (by decide) hz
      have hat:At wr b2 (o2 + pre2.length * 40) zc:=fun j u hu=>by
       have h1:=(hcell j u hu).1
       rw [← Nat.add_assoc] at h1
       exact (HI.out.below.cell (p:=⟨b2,o2 + pre2.length * 40 + j,none⟩) hbB).trans h1
      replace hrz:=HI.out.keeps' hrz
      have hlay:=node_lay hrz
      obtain ⟨ss,I1,i1,O1,o1,rfl,q0,qs,q1,q2,q4⟩:=open_GNodeD hrz
      obtain ⟨X1,x1,s1,t1⟩:=qs.f1.list
      obtain ⟨X2,x2,s2,t2⟩:=qs.f7.list
      obtain ⟨X3,x3,s3,t3⟩:=qs.f20.list
      obtain ⟨X4,x4,s4,t4⟩:=qs.f21.list
      obtain ⟨X5,x5,s5,t5⟩:=qs.f22.list
      obtain ⟨X6,x6,s6,t6⟩:=qs.f23.list
      have hsl:ss.length = 36:=qs.len
      have hso:∀ u ∈ ss,u.oneCell' = true:=Rep.one (show rep wr (old wr.heap.size) ss z.s from qs)
      have HQ:=Lib.hid (And.intro hat (And.intro q0 (And.intro q1 (And.intro q2 (And.intro q4 (And.intro hlay qs))))))
      have HS:=Lib.hid (And.intro hsl hso)
      have HL:=Lib.hid (And.intro (And.intro s1 t1) (And.intro (And.intro s2 t2) (And.intro (And.intro s3 t3) (And.intro (And.intro s4 t4) (And.intro (And.intro s5 t5) (And.intro s6 t6))))))
      have hk0:(0:Int) ≤ (pre2.length:Int):=Int.natCast_nonneg _
      have hk1:(pre2.length:Int) < (g.nodes.length:Int):=by omega
      have HP:=Lib.hid (And.intro hpp' (And.intro hpl hlt))
      clear hpp hpp' hpl hz hcell hbB hrz hat q0 q1 q2 q4 qs hlay s1 s2 s3 s4 s5 s6 t1 t2 t3 t4 t5 t6 hsl hso
      go_wp2_with (first
       |(with_reducible refine wpList_load_agg rfl 50 _ rfl _ _ _ rfl ([Value.int .i64 z.op]++(ss++([.slice I1 z.ins.length i1]++([.slice O1 z.outs.length o1]++[Value.int .i64 z.source]))):List Value) Tryz.underlying50 rfl HQ.out.2.2.2.2.2.1.1 HQ.out.1 ?_)
       |(with_reducible refine wpList_alloc_row rfl 50 rfl zeroGN zeroGN_zero ?_)
       |(with_reducible refine wpList_store_agg rfl 50 _ _ rfl _ 0 ([Value.int .i64 z.op]++(ss++([.slice I1 z.ins.length i1]++([.slice O1 z.outs.length o1]++[Value.int .i64 z.source]))):List Value) rfl rfl 50 zeroGN (heap_alloc_new _ _) HQ.out.2.2.2.2.2.1.1 HQ.out.2.2.2.2.2.1.2.1 HQ.out.2.2.2.2.2.1.2.2.2 ?_;have hY:=laid_row wr 50 zeroGN ([Value.int .i64 z.op]++(ss++([.slice I1 z.ins.length i1]++([.slice O1 z.outs.length o1]++[Value.int .i64 z.source]))):List Value) HQ.out.2.2.2.2.2.1.2.2.1;generalize World.setRow _ _ _ = u0 at hY ⊢;have HY:=Lib.hid hY;clear hY;refine halt ?_))
      unfold Halt
      have K:=Lib.hid ((Work.start wr).box 50 ([Value.int .i64 z.op]++(ss++([.slice I1 z.ins.length i1]++([.slice O1 z.outs.length o1]++[Value.int .i64 z.source]))):List Value) HY.out.1 HY.out.2.1)
      clear HY
      go_wp2_with fail
      have hC:=offB_drew (lo:=wr.heap.size) (bs:=[wr.heap.size]) (W:=u0)
      clear hC
      replace K:=Lib.hid K.out.drew
      refine wp_region_tail [7,8,9] (S:=fun W=>At W wr.heap.size 0 ([Value.int .i64 z.op]++(ss++([.slice I1 z.ins.length i1]++([.slice O1 z.outs.length o1]++[Value.int .i64 z.source]))):List Value)) (by kernel_rfl) K.out.at0 (fun hHeld=>?_)
      refine tt9 0 (some 45) (v:=.pointer (some ⟨wr.heap.size,37,none⟩)) rfl (Or.inl ⟨by kernel_rfl,fun w _=>by kernel_rfl⟩) hHeld ?_
      refine tt9 1 (some 46) (v:=.slice I1 z.ins.length i1) rfl (yields_load_one9 (by kernel_rfl) _ _ rfl wr.heap.size (37) (by kernel_rfl) _ _ Tryz.underlying24 rfl (fun _ h=>by have h1:=h 37 _ (node_37 HS.out.1);rwa [Nat.zero_add] at h1)) hHeld ?_
      refine tt9 3 (some 48) (v:=.pointer (some ⟨wr.heap.size,38,none⟩)) rfl (Or.inl ⟨by kernel_rfl,fun w _=>by kernel_rfl⟩) hHeld ?_
      refine tt9 4 (some 49) (v:=.slice O1 z.outs.length o1) rfl (yields_load_one9 (by kernel_rfl) _ _ rfl wr.heap.size (38) (by kernel_rfl) _ _ Tryz.underlying24 rfl (fun _ h=>by have h1:=h 38 _ (node_38 HS.out.1);rwa [Nat.zero_add] at h1)) hHeld ?_
      refine call_t9 2 (some 47) rfl (by kernel_rfl) (by kernel_rfl) (by kernel_rfl) 30 _ _ rfl #[.slice I1 z.ins.length i1] (by kernel_rfl) (fun w=>by kernel_rfl) ?_
      refine ((clone_ints z.ins _ _ (K.out.old (HQ.out.2.2.1))).mono (fun _ _ h=>sliced h)).mono ?_
      rintro e u1 ⟨B1,j1,rfl,hv,hb⟩
      have hC:=offB_next (lo:=wr.heap.size) (bs:=[wr.heap.size]) hb
      clear hC
      have P1:=Lib.hid (K.out.newB (bs:=[wr.heap.size]) rfl hb hv)
      replace K:=Lib.hid (K.out.next hb)
      clear hv hb
      refine ⟨_,rfl,K.out.at0,?_⟩
      replace hHeld:=K.out.at0
      refine tt9 6 (some 51) (v:=.pointer (some ⟨wr.heap.size,37,none⟩)) rfl (Or.inl ⟨by kernel_rfl,fun w _=>by kernel_rfl⟩) hHeld ?_
      refine call_t9 5 (some 50) rfl (by kernel_rfl) (by kernel_rfl) (by kernel_rfl) 30 _ _ rfl #[.slice O1 z.outs.length o1] (by kernel_rfl) (fun w=>by kernel_rfl) ?_
      refine ((clone_ints z.outs _ _ (K.out.old (HQ.out.2.2.2.1))).mono (fun _ _ h=>sliced h)).mono ?_
      rintro e u2 ⟨B2,j2,rfl,hv,hb⟩
      have hC:=offB_next (lo:=wr.heap.size) (bs:=[wr.heap.size]) hb
      replace P1:=Lib.hid (hC.data P1.out)
      clear hC
      have P2:=Lib.hid (K.out.newB (bs:=[wr.heap.size]) rfl hb hv)
      replace K:=Lib.hid (K.out.next hb)
      clear hv hb
      refine ⟨_,rfl,K.out.at0,?_⟩
      clear hHeld
      refine tail_free _ _ _ _ (by kernel_rfl) ?_
      have hR:=K.out.row0
      refine anyH_store_field 7 rfl (by kernel_rfl) (by kernel_rfl) 24 _ _ rfl wr.heap.size 37 (.slice B1 z.ins.length j1) (by kernel_rfl) (by kernel_rfl) rfl (by kernel_rfl) 50 ([Value.int .i64 z.op]++(ss++([.slice I1 z.ins.length i1]++([.slice O1 z.outs.length o1]++[Value.int .i64 z.source]))):List Value) hR (by rw [node_l HS.out.1];decide) trivial ?_
      have hK:=K.out.set0 (cs':=(([Value.int .i64 z.op]++(ss++([.slice I1 z.ins.length i1]++([.slice O1 z.outs.length o1]++[Value.int .i64 z.source]))):List Value).set 37 (.slice B1 z.ins.length j1))) (fun x h=>by cases h)
      have hC:=offB_set (lo:=wr.heap.size) (bs:=[wr.heap.size]) (W:=u2) (b:=wr.heap.size) (xs:=(([Value.int .i64 z.op]++(ss++([.slice I1 z.ins.length i1]++([.slice O1 z.outs.length o1]++[Value.int .i64 z.source]))):List Value).set 37 (.slice B1 z.ins.length j1)).toArray) (by simp)
      generalize World.setRow _ _ _ = u3 at hK hC ⊢
      replace K:=Lib.hid hK
      clear hK hR
      replace P1:=Lib.hid (hC.data P1.out)
      replace P2:=Lib.hid (hC.data P2.out)
      clear hC
      refine tk0 8 (some 52) (v:=.pointer (some ⟨wr.heap.size,38,none⟩)) rfl trivial ?_
      have hR:=K.out.row0
      refine anyH_store_field 9 rfl (by kernel_rfl) (by kernel_rfl) 24 _ _ rfl wr.heap.size 38 (.slice B2 z.outs.length j2) (by kernel_rfl) (by kernel_rfl) rfl (by kernel_rfl) 50 (([Value.int .i64 z.op]++(ss++([.slice I1 z.ins.length i1]++([.slice O1 z.outs.length o1]++[Value.int .i64 z.source]))):List Value).set 37 (.slice B1 z.ins.length j1)) hR (by rw [List.length_set,node_l HS.out.1];decide) trivial ?_
      have hK:=K.out.set0 (cs':=((([Value.int .i64 z.op]++(ss++([.slice I1 z.ins.length i1]++([.slice O1 z.outs.length o1]++[Value.int .i64 z.source]))):List Value).set 37 (.slice B1 z.ins.length j1)).set 38 (.slice B2 z.outs.length j2))) (fun x h=>by cases h)
      have hC:=offB_set (lo:=wr.heap.size) (bs:=[wr.heap.size]) (W:=u3) (b:=wr.heap.size) (xs:=((([Value.int .i64 z.op]++(ss++([.slice I1 z.ins.length i1]++([.slice O1 z.outs.length o1]++[Value.int .i64 z.source]))):List Value).set 37 (.slice B1 z.ins.length j1)).set 38 (.slice B2 z.outs.length j2)).toArray) (by simp)
      generalize World.setRow _ _ _ = u4 at hK hC ⊢
      rw [node_set HS.out.1] at hK
      replace K:=Lib.hid hK
      clear hK hR
      replace P1:=Lib.hid (hC.data P1.out)
      replace P2:=Lib.hid (hC.data P2.out)
      clear hC
      refine wpAnyH_done (by kernel_rfl) ?_ _
      have hA:=node_at K.out.at0
      go_wp2_with (first
       |(with_reducible refine wpList_load_agg rfl 48 _ rfl _ wr.heap.size 1 rfl ss Tryz.underlying48 rfl (by rw [HS.out.1];kernel_rfl) hA ?_)
       |(with_reducible refine wpList_alloc_row rfl 48 rfl zeroS zeroS_zero ?_)
       |(with_reducible refine wpList_store_agg rfl 48 _ _ rfl _ 0 ss rfl rfl 48 zeroS (heap_alloc_new _ _) (by rw [HS.out.1];kernel_rfl) (by rw [HS.out.1,zeroS_len];omega) HS.out.2 ?_;have hY:=laid_row u4 48 zeroS ss (by rw [HS.out.1,zeroS_len]);generalize World.setRow _ _ _ = y0 at hY ⊢;have HY:=Lib.hid hY;clear hY;refine halt ?_))
      unfold Halt
      have hne:=K.out.lt (List.mem_cons_self ..)
      have hC:=offB_box (lo:=wr.heap.size) (bs:=[wr.heap.size]) HY.out.1
      have hK:=K.out.box 48 ss HY.out.1 HY.out.2.1
      clear HY hA
      obtain ⟨p,hp⟩:∃ p,p = u4.heap.size:=⟨_,rfl⟩
      rw [← hp] at hC hK ⊢
      have hne':p ≠ wr.heap.size:=by
       intro e
       have h:wr.heap.size < u4.heap.size:=hne
       omega
      have HN:=Lib.hid hne'
      replace K:=Lib.hid hK
      clear hK hne hne'
      replace P1:=Lib.hid (hC.data P1.out)
      replace P2:=Lib.hid (hC.data P2.out)
      clear hC
      clear hp
      go_wp2_with fail
      have hC:=offB_drew (lo:=wr.heap.size) (bs:=[p,wr.heap.size]) (W:=y0)
      replace P1:=Lib.hid (hC.data P1.out)
      replace P2:=Lib.hid (hC.data P2.out)
      clear hC
      replace K:=Lib.hid K.out.drew
      refine wp_region_tail [10,11,12,13,14] (S:=fun W=>At W p 0 ss) (by kernel_rfl) K.out.at0 (fun hHeld=>?_)
      refine tt9 0 (some 55) (v:=.pointer (some ⟨p,1,none⟩)) rfl (Or.inl ⟨by kernel_rfl,fun w _=>by kernel_rfl⟩) hHeld ?_
      refine tt9 1 (some 56) (v:=.slice X1 z.s.axes.length x1) rfl (yields_load_one9 (by kernel_rfl) _ _ rfl p (1) (by kernel_rfl) _ _ Tryz.underlying24 rfl (fun _ h=>by have h1:=h 1 _ HL.out.1.1;rwa [Nat.zero_add] at h1)) hHeld ?_
      refine tt9 3 (some 58) (v:=.pointer (some ⟨p,7,none⟩)) rfl (Or.inl ⟨by kernel_rfl,fun w _=>by kernel_rfl⟩) hHeld ?_
      refine tt9 4 (some 59) (v:=.slice X2 z.s.perm.length x2) rfl (yields_load_one9 (by kernel_rfl) _ _ rfl p (7) (by kernel_rfl) _ _ Tryz.underlying24 rfl (fun _ h=>by have h1:=h 7 _ HL.out.2.1.1;rwa [Nat.zero_add] at h1)) hHeld ?_
      refine tt9 6 (some 61) (v:=.pointer (some ⟨p,20,none⟩)) rfl (Or.inl ⟨by kernel_rfl,fun w _=>by kernel_rfl⟩) hHeld ?_
      refine tt9 7 (some 62) (v:=.slice X3 z.s.kernel.length x3) rfl (yields_load_one9 (by kernel_rfl) _ _ rfl p (20) (by kernel_rfl) _ _ Tryz.underlying24 rfl (fun _ h=>by have h1:=h 20 _ HL.out.2.2.1.1;rwa [Nat.zero_add] at h1)) hHeld ?_
      refine call_t9 2 (some 57) rfl (by kernel_rfl) (by kernel_rfl) (by kernel_rfl) 30 _ _ rfl #[.slice X1 z.s.axes.length x1] (by kernel_rfl) (fun w=>by kernel_rfl) ?_
      refine ((clone_ints z.s.axes _ _ (K.out.old (HL.out.1.2))).mono (fun _ _ h=>sliced h)).mono ?_
      rintro e y1 ⟨B3,j3,rfl,hv,hb⟩
      have hC:=offB_next (lo:=wr.heap.size) (bs:=[p,wr.heap.size]) hb
      replace P1:=Lib.hid (hC.data P1.out)
      replace P2:=Lib.hid (hC.data P2.out)
      clear hC
      have P3:=Lib.hid (K.out.newB (bs:=[p,wr.heap.size]) rfl hb hv)
      replace K:=Lib.hid (K.out.next hb)
      clear hv hb
      refine ⟨_,rfl,K.out.at0,?_⟩
      replace hHeld:=K.out.at0
      refine tt9 9 (some 64) (v:=.pointer (some ⟨p,1,none⟩)) rfl (Or.inl ⟨by kernel_rfl,fun w _=>by kernel_rfl⟩) hHeld ?_
      refine call_t9 5 (some 60) rfl (by kernel_rfl) (by kernel_rfl) (by kernel_rfl) 30 _ _ rfl #[.slice X2 z.s.perm.length x2] (by kernel_rfl) (fun w=>by kernel_rfl) ?_
      refine ((clone_ints z.s.perm _ _ (K.out.old (HL.out.2.1.2))).mono (fun _ _ h=>sliced h)).mono ?_
      rintro e y2 ⟨B4,j4,rfl,hv,hb⟩
      have hC:=offB_next (lo:=wr.heap.size) (bs:=[p,wr.heap.size]) hb
      replace P1:=Lib.hid (hC.data P1.out)
      replace P2:=Lib.hid (hC.data P2.out)
      replace P3:=Lib.hid (hC.data P3.out)
      clear hC
      have P4:=Lib.hid (K.out.newB (bs:=[p,wr.heap.size]) rfl hb hv)
      replace K:=Lib.hid (K.out.next hb)
      clear hv hb
      refine ⟨_,rfl,K.out.at0,?_⟩
      refine call_t9 8 (some 63) rfl (by kernel_rfl) (by kernel_rfl) (by kernel_rfl) 30 _ _ rfl #[.slice X3 z.s.kernel.length x3] (by kernel_rfl) (fun w=>by kernel_rfl) ?_
      refine ((clone_ints z.s.kernel _ _ (K.out.old (HL.out.2.2.1.2))).mono (fun _ _ h=>sliced h)).mono ?_
      rintro e y3 ⟨B5,j5,rfl,hv,hb⟩
      have hC:=offB_next (lo:=wr.heap.size) (bs:=[p,wr.heap.size]) hb
      replace P1:=Lib.hid (hC.data P1.out)
      replace P2:=Lib.hid (hC.data P2.out)
      replace P3:=Lib.hid (hC.data P3.out)
      replace P4:=Lib.hid (hC.data P4.out)
      clear hC
      have P5:=Lib.hid (K.out.newB (bs:=[p,wr.heap.size]) rfl hb hv)
      replace K:=Lib.hid (K.out.next hb)
      clear hv hb
      refine ⟨_,rfl,K.out.at0,?_⟩
      clear hHeld
      refine tail_free _ _ _ _ (by kernel_rfl) ?_
      have hR:=K.out.row0
      refine anyH_store_field 10 rfl (by kernel_rfl) (by kernel_rfl) 24 _ _ rfl p 1 (.slice B3 z.s.axes.length j3) (by kernel_rfl) (by kernel_rfl) rfl (by kernel_rfl) 48 ss hR (by simp only [List.length_set,HS.out.1];decide) trivial ?_
      have hK:=K.out.set0 (cs':=(ss.set 1 (.slice B3 z.s.axes.length j3))) (fun x h=>by rw [List.mem_singleton.1 h];exact HN.out.symm)
      have hC:=offB_set (lo:=wr.heap.size) (bs:=[p,wr.heap.size]) (W:=y3) (b:=p) (xs:=(ss.set 1 (.slice B3 z.s.axes.length j3)).toArray) (by simp)
      generalize World.setRow _ _ _ = y4 at hK hC ⊢
      replace K:=Lib.hid hK
      clear hK hR
      replace P1:=Lib.hid (hC.data P1.out)
      replace P2:=Lib.hid (hC.data P2.out)
      replace P3:=Lib.hid (hC.data P3.out)
      replace P4:=Lib.hid (hC.data P4.out)
      replace P5:=Lib.hid (hC.data P5.out)
      clear hC
      refine tk0 11 (some 65) (v:=.pointer (some ⟨p,7,none⟩)) rfl trivial ?_
      have hR:=K.out.row0
      refine anyH_store_field 12 rfl (by kernel_rfl) (by kernel_rfl) 24 _ _ rfl p 7 (.slice B4 z.s.perm.length j4) (by kernel_rfl) (by kernel_rfl) rfl (by kernel_rfl) 48 (ss.set 1 (.slice B3 z.s.axes.length j3)) hR (by simp only [List.length_set,HS.out.1];decide) trivial ?_
      have hK:=K.out.set0 (cs':=((ss.set 1 (.slice B3 z.s.axes.length j3)).set 7 (.slice B4 z.s.perm.length j4))) (fun x h=>by rw [List.mem_singleton.1 h];exact HN.out.symm)
      have hC:=offB_set (lo:=wr.heap.size) (bs:=[p,wr.heap.size]) (W:=y4) (b:=p) (xs:=((ss.set 1 (.slice B3 z.s.axes.length j3)).set 7 (.slice B4 z.s.perm.length j4)).toArray) (by simp)
      generalize World.setRow _ _ _ = y5 at hK hC ⊢
      replace K:=Lib.hid hK
      clear hK hR
      replace P1:=Lib.hid (hC.data P1.out)
      replace P2:=Lib.hid (hC.data P2.out)
      replace P3:=Lib.hid (hC.data P3.out)
      replace P4:=Lib.hid (hC.data P4.out)
      replace P5:=Lib.hid (hC.data P5.out)
      clear hC
      refine tk0 13 (some 66) (v:=.pointer (some ⟨p,20,none⟩)) rfl trivial ?_
      have hR:=K.out.row0
      refine anyH_store_field 14 rfl (by kernel_rfl) (by kernel_rfl) 24 _ _ rfl p 20 (.slice B5 z.s.kernel.length j5) (by kernel_rfl) (by kernel_rfl) rfl (by kernel_rfl) 48 ((ss.set 1 (.slice B3 z.s.axes.length j3)).set 7 (.slice B4 z.s.perm.length j4)) hR (by simp only [List.length_set,HS.out.1];decide) trivial ?_
      have hK:=K.out.set0 (cs':=(((ss.set 1 (.slice B3 z.s.axes.length j3)).set 7 (.slice B4 z.s.perm.length j4)).set 20 (.slice B5 z.s.kernel.length j5))) (fun x h=>by rw [List.mem_singleton.1 h];exact HN.out.symm)
      have hC:=offB_set (lo:=wr.heap.size) (bs:=[p,wr.heap.size]) (W:=y5) (b:=p) (xs:=(((ss.set 1 (.slice B3 z.s.axes.length j3)).set 7 (.slice B4 z.s.perm.length j4)).set 20 (.slice B5 z.s.kernel.length j5)).toArray) (by simp)
      generalize World.setRow _ _ _ = y6 at hK hC ⊢
      replace K:=Lib.hid hK
      clear hK hR
      replace P1:=Lib.hid (hC.data P1.out)
      replace P2:=Lib.hid (hC.data P2.out)
      replace P3:=Lib.hid (hC.data P3.out)
      replace P4:=Lib.hid (hC.data P4.out)
      replace P5:=Lib.hid (hC.data P5.out)
      clear hC
      refine wpAnyH_done (by kernel_rfl) ?_ _
      go_wp2_with fail
      have hC:=offB_drew (lo:=wr.heap.size) (bs:=[p,wr.heap.size]) (W:=y6)
      replace P1:=Lib.hid (hC.data P1.out)
      replace P2:=Lib.hid (hC.data P2.out)
      replace P3:=Lib.hid (hC.data P3.out)
      replace P4:=Lib.hid (hC.data P4.out)
      replace P5:=Lib.hid (hC.data P5.out)
      clear hC
      replace K:=Lib.hid K.out.drew
      refine wp_region_tail [10,11,12,13,14] (S:=fun W=>At W p 0 (((ss.set 1 (.slice B3 z.s.axes.length j3)).set 7 (.slice B4 z.s.perm.length j4)).set 20 (.slice B5 z.s.kernel.length j5))) (by kernel_rfl) K.out.at0 (fun hHeld=>?_)
      refine tt9 0 (some 67) (v:=.pointer (some ⟨p,21,none⟩)) rfl (Or.inl ⟨by kernel_rfl,fun w _=>by kernel_rfl⟩) hHeld ?_
      refine tt9 1 (some 68) (v:=.slice X4 z.s.strides.length x4) rfl (yields_load_one9 (by kernel_rfl) _ _ rfl p (21) (by kernel_rfl) _ _ Tryz.underlying24 rfl (fun _ h=>by have h1:=h 21 _ ((List.getElem?_set_ne (by decide)).trans ((List.getElem?_set_ne (by decide)).trans ((List.getElem?_set_ne (by decide)).trans (HL.out.2.2.2.1.1))));rwa [Nat.zero_add] at h1)) hHeld ?_
      refine tt9 3 (some 70) (v:=.pointer (some ⟨p,22,none⟩)) rfl (Or.inl ⟨by kernel_rfl,fun w _=>by kernel_rfl⟩) hHeld ?_
      refine tt9 4 (some 71) (v:=.slice X5 z.s.pads.length x5) rfl (yields_load_one9 (by kernel_rfl) _ _ rfl p (22) (by kernel_rfl) _ _ Tryz.underlying24 rfl (fun _ h=>by have h1:=h 22 _ ((List.getElem?_set_ne (by decide)).trans ((List.getElem?_set_ne (by decide)).trans ((List.getElem?_set_ne (by decide)).trans (HL.out.2.2.2.2.1.1))));rwa [Nat.zero_add] at h1)) hHeld ?_
      refine tt9 6 (some 73) (v:=.pointer (some ⟨p,23,none⟩)) rfl (Or.inl ⟨by kernel_rfl,fun w _=>by kernel_rfl⟩) hHeld ?_
      refine tt9 7 (some 74) (v:=.slice X6 z.s.dilations.length x6) rfl (yields_load_one9 (by kernel_rfl) _ _ rfl p (23) (by kernel_rfl) _ _ Tryz.underlying24 rfl (fun _ h=>by have h1:=h 23 _ ((List.getElem?_set_ne (by decide)).trans ((List.getElem?_set_ne (by decide)).trans ((List.getElem?_set_ne (by decide)).trans (HL.out.2.2.2.2.2.1))));rwa [Nat.zero_add] at h1)) hHeld ?_
      refine call_t9 2 (some 69) rfl (by kernel_rfl) (by kernel_rfl) (by kernel_rfl) 30 _ _ rfl #[.slice X4 z.s.strides.length x4] (by kernel_rfl) (fun w=>by kernel_rfl) ?_
      refine ((clone_ints z.s.strides _ _ (K.out.old (HL.out.2.2.2.1.2))).mono (fun _ _ h=>sliced h)).mono ?_
      rintro e y7 ⟨B6,j6,rfl,hv,hb⟩
      have hC:=offB_next (lo:=wr.heap.size) (bs:=[p,wr.heap.size]) hb
      replace P1:=Lib.hid (hC.data P1.out)
      replace P2:=Lib.hid (hC.data P2.out)
      replace P3:=Lib.hid (hC.data P3.out)
      replace P4:=Lib.hid (hC.data P4.out)
      replace P5:=Lib.hid (hC.data P5.out)
      clear hC
      have P6:=Lib.hid (K.out.newB (bs:=[p,wr.heap.size]) rfl hb hv)
      replace K:=Lib.hid (K.out.next hb)
      clear hv hb
      refine ⟨_,rfl,K.out.at0,?_⟩
      replace hHeld:=K.out.at0
      refine tt9 9 (some 76) (v:=.pointer (some ⟨p,21,none⟩)) rfl (Or.inl ⟨by kernel_rfl,fun w _=>by kernel_rfl⟩) hHeld ?_
      refine call_t9 5 (some 72) rfl (by kernel_rfl) (by kernel_rfl) (by kernel_rfl) 30 _ _ rfl #[.slice X5 z.s.pads.length x5] (by kernel_rfl) (fun w=>by kernel_rfl) ?_
      refine ((clone_ints z.s.pads _ _ (K.out.old (HL.out.2.2.2.2.1.2))).mono (fun _ _ h=>sliced h)).mono ?_
      rintro e y8 ⟨B7,j7,rfl,hv,hb⟩
      have hC:=offB_next (lo:=wr.heap.size) (bs:=[p,wr.heap.size]) hb
      replace P1:=Lib.hid (hC.data P1.out)
      replace P2:=Lib.hid (hC.data P2.out)
      replace P3:=Lib.hid (hC.data P3.out)
      replace P4:=Lib.hid (hC.data P4.out)
      replace P5:=Lib.hid (hC.data P5.out)
      replace P6:=Lib.hid (hC.data P6.out)
      clear hC
      have P7:=Lib.hid (K.out.newB (bs:=[p,wr.heap.size]) rfl hb hv)
      replace K:=Lib.hid (K.out.next hb)
      clear hv hb
      refine ⟨_,rfl,K.out.at0,?_⟩
      refine call_t9 8 (some 75) rfl (by kernel_rfl) (by kernel_rfl) (by kernel_rfl) 30 _ _ rfl #[.slice X6 z.s.dilations.length x6] (by kernel_rfl) (fun w=>by kernel_rfl) ?_
      refine ((clone_ints z.s.dilations _ _ (K.out.old (HL.out.2.2.2.2.2.2))).mono (fun _ _ h=>sliced h)).mono ?_
      rintro e y9 ⟨B8,j8,rfl,hv,hb⟩
      have hC:=offB_next (lo:=wr.heap.size) (bs:=[p,wr.heap.size]) hb
      replace P1:=Lib.hid (hC.data P1.out)
      replace P2:=Lib.hid (hC.data P2.out)
      replace P3:=Lib.hid (hC.data P3.out)
      replace P4:=Lib.hid (hC.data P4.out)
      replace P5:=Lib.hid (hC.data P5.out)
      replace P6:=Lib.hid (hC.data P6.out)
      replace P7:=Lib.hid (hC.data P7.out)
      clear hC
      have P8:=Lib.hid (K.out.newB (bs:=[p,wr.heap.size]) rfl hb hv)
      replace K:=Lib.hid (K.out.next hb)
      clear hv hb
      refine ⟨_,rfl,K.out.at0,?_⟩
      clear hHeld
      refine tail_free _ _ _ _ (by kernel_rfl) ?_
      have hR:=K.out.row0
      refine anyH_store_field 10 rfl (by kernel_rfl) (by kernel_rfl) 24 _ _ rfl p 21 (.slice B6 z.s.strides.length j6) (by kernel_rfl) (by kernel_rfl) rfl (by kernel_rfl) 48 (((ss.set 1 (.slice B3 z.s.axes.length j3)).set 7 (.slice B4 z.s.perm.length j4)).set 20 (.slice B5 z.s.kernel.length j5)) hR (by simp only [List.length_set,HS.out.1];decide) trivial ?_
      have hK:=K.out.set0 (cs':=((((ss.set 1 (.slice B3 z.s.axes.length j3)).set 7 (.slice B4 z.s.perm.length j4)).set 20 (.slice B5 z.s.kernel.length j5)).set 21 (.slice B6 z.s.strides.length j6))) (fun x h=>by rw [List.mem_singleton.1 h];exact HN.out.symm)
      have hC:=offB_set (lo:=wr.heap.size) (bs:=[p,wr.heap.size]) (W:=y9) (b:=p) (xs:=((((ss.set 1 (.slice B3 z.s.axes.length j3)).set 7 (.slice B4 z.s.perm.length j4)).set 20 (.slice B5 z.s.kernel.length j5)).set 21 (.slice B6 z.s.strides.length j6)).toArray) (by simp)
      generalize World.setRow _ _ _ = y10 at hK hC ⊢
      replace K:=Lib.hid hK
      clear hK hR
      replace P1:=Lib.hid (hC.data P1.out)
      replace P2:=Lib.hid (hC.data P2.out)
      replace P3:=Lib.hid (hC.data P3.out)
      replace P4:=Lib.hid (hC.data P4.out)
      replace P5:=Lib.hid (hC.data P5.out)
      replace P6:=Lib.hid (hC.data P6.out)
      replace P7:=Lib.hid (hC.data P7.out)
      replace P8:=Lib.hid (hC.data P8.out)
      clear hC
      refine tk0 11 (some 77) (v:=.pointer (some ⟨p,22,none⟩)) rfl trivial ?_
      have hR:=K.out.row0
      refine anyH_store_field 12 rfl (by kernel_rfl) (by kernel_rfl) 24 _ _ rfl p 22 (.slice B7 z.s.pads.length j7) (by kernel_rfl) (by kernel_rfl) rfl (by kernel_rfl) 48 ((((ss.set 1 (.slice B3 z.s.axes.length j3)).set 7 (.slice B4 z.s.perm.length j4)).set 20 (.slice B5 z.s.kernel.length j5)).set 21 (.slice B6 z.s.strides.length j6)) hR (by simp only [List.length_set,HS.out.1];decide) trivial ?_
      have hK:=K.out.set0 (cs':=(((((ss.set 1 (.slice B3 z.s.axes.length j3)).set 7 (.slice B4 z.s.perm.length j4)).set 20 (.slice B5 z.s.kernel.length j5)).set 21 (.slice B6 z.s.strides.length j6)).set 22 (.slice B7 z.s.pads.length j7))) (fun x h=>by rw [List.mem_singleton.1 h];exact HN.out.symm)
      have hC:=offB_set (lo:=wr.heap.size) (bs:=[p,wr.heap.size]) (W:=y10) (b:=p) (xs:=(((((ss.set 1 (.slice B3 z.s.axes.length j3)).set 7 (.slice B4 z.s.perm.length j4)).set 20 (.slice B5 z.s.kernel.length j5)).set 21 (.slice B6 z.s.strides.length j6)).set 22 (.slice B7 z.s.pads.length j7)).toArray) (by simp)
      generalize World.setRow _ _ _ = y11 at hK hC ⊢
      replace K:=Lib.hid hK
      clear hK hR
      replace P1:=Lib.hid (hC.data P1.out)
      replace P2:=Lib.hid (hC.data P2.out)
      replace P3:=Lib.hid (hC.data P3.out)
      replace P4:=Lib.hid (hC.data P4.out)
      replace P5:=Lib.hid (hC.data P5.out)
      replace P6:=Lib.hid (hC.data P6.out)
      replace P7:=Lib.hid (hC.data P7.out)
      replace P8:=Lib.hid (hC.data P8.out)
      clear hC
      refine tk0 13 (some 78) (v:=.pointer (some ⟨p,23,none⟩)) rfl trivial ?_
      have hR:=K.out.row0
      refine anyH_store_field 14 rfl (by kernel_rfl) (by kernel_rfl) 24 _ _ rfl p 23 (.slice B8 z.s.dilations.length j8) (by kernel_rfl) (by kernel_rfl) rfl (by kernel_rfl) 48 (((((ss.set 1 (.slice B3 z.s.axes.length j3)).set 7 (.slice B4 z.s.perm.length j4)).set 20 (.slice B5 z.s.kernel.length j5)).set 21 (.slice B6 z.s.strides.length j6)).set 22 (.slice B7 z.s.pads.length j7)) hR (by simp only [List.length_set,HS.out.1];decide) trivial ?_
      have hK:=K.out.set0 (cs':=((((((ss.set 1 (.slice B3 z.s.axes.length j3)).set 7 (.slice B4 z.s.perm.length j4)).set 20 (.slice B5 z.s.kernel.length j5)).set 21 (.slice B6 z.s.strides.length j6)).set 22 (.slice B7 z.s.pads.length j7)).set 23 (.slice B8 z.s.dilations.length j8))) (fun x h=>by rw [List.mem_singleton.1 h];exact HN.out.symm)
      have hC:=offB_set (lo:=wr.heap.size) (bs:=[p,wr.heap.size]) (W:=y11) (b:=p) (xs:=((((((ss.set 1 (.slice B3 z.s.axes.length j3)).set 7 (.slice B4 z.s.perm.length j4)).set 20 (.slice B5 z.s.kernel.length j5)).set 21 (.slice B6 z.s.strides.length j6)).set 22 (.slice B7 z.s.pads.length j7)).set 23 (.slice B8 z.s.dilations.length j8)).toArray) (by simp)
      generalize World.setRow _ _ _ = y12 at hK hC ⊢
      replace K:=Lib.hid hK
      clear hK hR
      replace P1:=Lib.hid (hC.data P1.out)
      replace P2:=Lib.hid (hC.data P2.out)
      replace P3:=Lib.hid (hC.data P3.out)
      replace P4:=Lib.hid (hC.data P4.out)
      replace P5:=Lib.hid (hC.data P5.out)
      replace P6:=Lib.hid (hC.data P6.out)
      replace P7:=Lib.hid (hC.data P7.out)
      replace P8:=Lib.hid (hC.data P8.out)
      clear hC
      refine wpAnyH_done (by kernel_rfl) ?_ _
      replace K:=Lib.hid (show Work wr [⟨p,48,(settingWith ss (.slice B3 z.s.axes.length j3) (.slice B4 z.s.perm.length j4) (.slice B5 z.s.kernel.length j5) (.slice B6 z.s.strides.length j6) (.slice B7 z.s.pads.length j7) (.slice B8 z.s.dilations.length j8))⟩,⟨wr.heap.size,50,([Value.int .i64 z.op]++(ss++([.slice B1 z.ins.length j1]++([.slice B2 z.outs.length j2]++[Value.int .i64 z.source]))):List Value)⟩] y12 from K.out)
      have hA:=K.out.at0.from 31
      rw [with_drop] at hA
      go_wp2_with (with_reducible refine wpList_load_agg rfl 43 _ rfl _ p 31 rfl (ss.drop 31) Tryz.underlying43 rfl (by rw [List.length_drop,HS.out.1];kernel_rfl) hA ?_)
      refine (tcopy_any (ss.drop 31) z.s.value y12 (K.out.old HQ.out.2.2.2.2.2.2.f31)).mono ?_
      rintro e y13 ⟨ts,rfl,hv,hb⟩
      have htl:ts.length = 5:=Rep.len hv
      have hto:∀ u ∈ ts,u.oneCell' = true:=Rep.one hv
      have HT:=Lib.hid (And.intro htl hto)
      clear hA htl hto
      have hC:=offB_next (lo:=wr.heap.size) (bs:=[p,wr.heap.size]) hb
      replace P1:=Lib.hid (hC.data P1.out)
      replace P2:=Lib.hid (hC.data P2.out)
      replace P3:=Lib.hid (hC.data P3.out)
      replace P4:=Lib.hid (hC.data P4.out)
      replace P5:=Lib.hid (hC.data P5.out)
      replace P6:=Lib.hid (hC.data P6.out)
      replace P7:=Lib.hid (hC.data P7.out)
      replace P8:=Lib.hid (hC.data P8.out)
      clear hC
      have P9:=Lib.hid (K.out.newB (bs:=[p,wr.heap.size]) rfl hb (Rep.more hv (fresh_le (Nat.le_add_right _ _) (Nat.le_refl _))))
      replace K:=Lib.hid (K.out.next hb)
      clear hv hb
      have hR:=K.out.row0
      go_wp2_with (first
       |((with_reducible refine wpList_store_agg rfl 43 _ _ rfl p 31 ts rfl rfl 48 (settingWith ss (.slice B3 z.s.axes.length j3) (.slice B4 z.s.perm.length j4) (.slice B5 z.s.kernel.length j5) (.slice B6 z.s.strides.length j6) (.slice B7 z.s.pads.length j7) (.slice B8 z.s.dilations.length j8)) hR (by rw [HT.out.1];kernel_rfl) (by rw [settingWith_len,HS.out.1,HT.out.1];decide) HT.out.2 ?_);have hK:=K.out.set0 (cs':=((settingWith ss (.slice B3 z.s.axes.length j3) (.slice B4 z.s.perm.length j4) (.slice B5 z.s.kernel.length j5) (.slice B6 z.s.strides.length j6) (.slice B7 z.s.pads.length j7) (.slice B8 z.s.dilations.length j8)).take 31++ts++(settingWith ss (.slice B3 z.s.axes.length j3) (.slice B4 z.s.perm.length j4) (.slice B5 z.s.kernel.length j5) (.slice B6 z.s.strides.length j6) (.slice B7 z.s.pads.length j7) (.slice B8 z.s.dilations.length j8)).drop (31 + ts.length))) (fun x h=>by rw [List.mem_singleton.1 h];exact HN.out.symm);have hC:=offB_set (lo:=wr.heap.size) (bs:=[p,wr.heap.size]) (W:=y13) (b:=p) (xs:=((settingWith ss (.slice B3 z.s.axes.length j3) (.slice B4 z.s.perm.length j4) (.slice B5 z.s.kernel.length j5) (.slice B6 z.s.strides.length j6) (.slice B7 z.s.pads.length j7) (.slice B8 z.s.dilations.length j8)).take 31++ts++(settingWith ss (.slice B3 z.s.axes.length j3) (.slice B4 z.s.perm.length j4) (.slice B5 z.s.kernel.length j5) (.slice B6 z.s.strides.length j6) (.slice B7 z.s.pads.length j7) (.slice B8 z.s.dilations.length j8)).drop (31 + ts.length)).toArray) (by simp);generalize World.setRow _ _ _ = y14 at hK hC ⊢;have HK:=Lib.hid hK;have HC2:=Lib.hid hC;clear hK hC;refine halt ?_))
      unfold Halt
      have hK:=HK.out
      have hC:=HC2.out
      rw [with_put HS.out.1 HT.out.1] at hK
      replace K:=Lib.hid hK
      clear hK HK HC2 hR
      replace P1:=Lib.hid (hC.data P1.out)
      replace P2:=Lib.hid (hC.data P2.out)
      replace P3:=Lib.hid (hC.data P3.out)
      replace P4:=Lib.hid (hC.data P4.out)
      replace P5:=Lib.hid (hC.data P5.out)
      replace P6:=Lib.hid (hC.data P6.out)
      replace P7:=Lib.hid (hC.data P7.out)
      replace P8:=Lib.hid (hC.data P8.out)
      replace P9:=Lib.hid (hC.data P9.out)
      clear hC
      obtain ⟨st,hst⟩:∃ st,st = ((settingWith ss (.slice B3 z.s.axes.length j3) (.slice B4 z.s.perm.length j4) (.slice B5 z.s.kernel.length j5) (.slice B6 z.s.strides.length j6) (.slice B7 z.s.pads.length j7) (.slice B8 z.s.dilations.length j8)).take 31++ts):=⟨_,rfl⟩
      have hfl:st.length = 36:=by rw [hst,List.length_append,List.length_take,settingWith_len,HS.out.1,HT.out.1];rfl
      have hK:=K.out
      rw [← hst] at hK
      have hsr:SettingDAt y14 (offB wr.heap.size [p,wr.heap.size] y14) st z.s:=by rw [hst];exact setting_copied HQ.out.2.2.2.2.2.2 P3.out P4.out P5.out P6.out P7.out P8.out P9.out
      replace K:=Lib.hid hK
      have P3:=Lib.hid (show rep y14 (offB wr.heap.size [p,wr.heap.size] y14) st z.s from hsr)
      have HST:=Lib.hid (And.intro (Rep.one P3.out) hfl)
      clear hst hK hsr hfl P4 P5 P6 P7 P8 P9 HT
      have hR:=K.out.row1
      have hA:=K.out.at0
      go_wp2_with (first
       |(with_reducible refine wpList_load_agg rfl 48 _ rfl _ p 0 rfl st Tryz.underlying48 rfl (by rw [HST.out.2];kernel_rfl) hA ?_)
       |((with_reducible refine wpList_store_agg rfl 48 _ _ rfl wr.heap.size 1 st rfl rfl 50 ([Value.int .i64 z.op]++(ss++([.slice B1 z.ins.length j1]++([.slice B2 z.outs.length j2]++[Value.int .i64 z.source]))):List Value) hR (by rw [HST.out.2];kernel_rfl) (by rw [node_l HS.out.1,HST.out.2];decide) HST.out.1 ?_);have hK:=K.out.set1 (cs':=(([Value.int .i64 z.op]++(ss++([.slice B1 z.ins.length j1]++([.slice B2 z.outs.length j2]++[Value.int .i64 z.source]))):List Value).take 1++st++([Value.int .i64 z.op]++(ss++([.slice B1 z.ins.length j1]++([.slice B2 z.outs.length j2]++[Value.int .i64 z.source]))):List Value).drop (1 + st.length))) HN.out (fun x h=>by cases h);have hC:=offB_set (lo:=wr.heap.size) (bs:=[p,wr.heap.size]) (W:=y14) (b:=wr.heap.size) (xs:=(([Value.int .i64 z.op]++(ss++([.slice B1 z.ins.length j1]++([.slice B2 z.outs.length j2]++[Value.int .i64 z.source]))):List Value).take 1++st++([Value.int .i64 z.op]++(ss++([.slice B1 z.ins.length j1]++([.slice B2 z.outs.length j2]++[Value.int .i64 z.source]))):List Value).drop (1 + st.length)).toArray) (by simp);generalize World.setRow _ _ _ = y15 at hK hC ⊢;have HK:=Lib.hid hK;have HC2:=Lib.hid hC;clear hK hC;refine halt ?_))
      unfold Halt
      have hK:=HK.out
      have hC:=HC2.out
      rw [node_put HS.out.1 HST.out.2] at hK
      replace K:=Lib.hid hK
      clear hK HK HC2 hR
      replace P1:=Lib.hid (hC.data P1.out)
      replace P2:=Lib.hid (hC.data P2.out)
      replace P3:=Lib.hid (hC.data P3.out)
      clear hC
      clear hA
      have hZN:rep y15 (fresh wr.heap.size y15.heap.size) ([Value.int .i64 z.op]++(st++([.slice B1 z.ins.length j1]++([.slice B2 z.outs.length j2]++[Value.int .i64 z.source]))):List Value) z:=Rep.more (shut_GNodeD HQ.out.2.1 P3.out (c2:=[_]) P1.out (c3:=[_]) P2.out HQ.out.2.2.2.2.1) offB_fresh
      clear P1 P2 P3 HQ HL
      have hI4:=HI.out.next K.out.below
      have hb5:Below y15.heap.size y15 (y15.alloc (.cells ([Value.int .i64 z.op]++(st++([.slice B1 z.ins.length j1]++([.slice B2 z.outs.length j2]++[Value.int .i64 z.source]))):List Value).toArray 50)):=(Below.refl _ _).alloc (Nat.le_refl _) _
      have hI5:=hI4.next hb5
      have hown:=hI5.rows.own 1 _ rfl
      have hlies:=lies_new y15 ([Value.int .i64 z.op]++(st++([.slice B1 z.ins.length j1]++([.slice B2 z.outs.length j2]++[Value.int .i64 z.source]))):List Value) 50
      have hbw:=K.out.below.trans (hb5.mono K.out.below.size)
      have hz5:rep (y15.alloc (.cells ([Value.int .i64 z.op]++(st++([.slice B1 z.ins.length j1]++([.slice B2 z.outs.length j2]++[Value.int .i64 z.source]))):List Value).toArray 50)) (fresh wr.heap.size (y15.alloc (.cells ([Value.int .i64 z.op]++(st++([.slice B1 z.ins.length j1]++([.slice B2 z.outs.length j2]++[Value.int .i64 z.source]))):List Value).toArray 50)).heap.size) ([Value.int .i64 z.op]++(st++([.slice B1 z.ins.length j1]++([.slice B2 z.outs.length j2]++[Value.int .i64 z.source]))):List Value) z:=new_next hZN hb5
      have hlo:w.heap.size + 2 ≤ (y15.alloc (.cells ([Value.int .i64 z.op]++(st++([.slice B1 z.ins.length j1]++([.slice B2 z.outs.length j2]++[Value.int .i64 z.source]))):List Value).toArray 50)).heap.size:=hI5.base
      have hbt:(pre2.length + 1) * 432 ≤ 140737488355328:=by have:=HM.out.2.2;have:=HP.out.2.2;omega
      have hmx:pre2.length + 1 ≤ maxLen:=by unfold maxLen;omega
      have hon:=Rep.one hz5
      have hrw:=K.out.row1
      have d0:=cell_at (j:=1) hI4.row rfl
      have HD:=Lib.hid (And.intro hown (And.intro hlies (And.intro hbw (And.intro hz5 (And.intro hlo (And.intro hbt (And.intro hmx (And.intro hon hrw))))))))
      clear hI4 hb5 hI5 hown hlies hbw hz5 hlo hbt hmx hon hZN hrw
      obtain ⟨i0,hi0,hz0,hz1,hz2⟩:=info_parts (show (Tryz.prog.info? 50).map (fun i=>(i.zero,i.size,i.bytes)) = some (some (.agg zeroGN.toArray),40,432) by kernel_rfl)
      have HZ:=Lib.hid (And.intro hi0 (And.intro hz0 (And.intro hz1 hz2)))
      clear hi0 hz0 hz1 hz2
      go_wp2_with (first
       |(with_reducible refine wpList_load_agg rfl 50 _ rfl _ wr.heap.size 0 rfl ([Value.int .i64 z.op]++(st++([.slice B1 z.ins.length j1]++([.slice B2 z.outs.length j2]++[Value.int .i64 z.source]))):List Value) Tryz.underlying50 rfl (by rw [node_l HST.out.2];kernel_rfl) (At.of_row HD.out.2.2.2.2.2.2.2.2) ?_)
       |(refine wpList_layC rfl (.slice (some ⟨y15.heap.size,0,none⟩) 1 1) (.cells ([Value.int .i64 z.op]++(st++([.slice B1 z.ins.length j1]++([.slice B2 z.outs.length j2]++[Value.int .i64 z.source]))):List Value).toArray 50) (layC_one ([Value.int .i64 z.op]++(st++([.slice B1 z.ins.length j1]++([.slice B2 z.outs.length j2]++[Value.int .i64 z.source]))):List Value) (node_l HST.out.2) _ rfl rfl) ?_)
       |(at_builtin;refine wpList_append_lies _ rfl _ _ 23 rfl (w.heap.size + 2) 50 i0 (.agg zeroGN.toArray) 40 432 Tryz.underlying23 HZ.out.1 HZ.out.2.1 HZ.out.2.2.1 HZ.out.2.2.2 (by kernel_rfl) (by decide) vN pre2.length xN rfl HD.out.1 (old (y15.heap.size + 1)) (some ⟨y15.heap.size,0,none⟩) 1 1 ([Value.int .i64 z.op]++(st++([.slice B1 z.ins.length j1]++([.slice B2 z.outs.length j2]++[Value.int .i64 z.source]))):List Value) rfl (node_l HST.out.2) HD.out.2.1 HD.out.2.2.2.2.2.2.2.1 HD.out.2.2.2.2.2.2.1 HD.out.2.2.2.2.2.1 HD.out.2.2.2.2.1 ?_;intro v9 W9 ho9 hg9 hb9;have HK:=Lib.hid (HI.out.push_node HD.out.2.2.1 HD.out.2.2.2.1 hg9 ho9 hb9);clear ho9 hg9 hb9)
       |(with_reducible refine wpList_store_field rfl 23 _ _ rfl o 1 v9 rfl rfl HK.out.2.1 (by kernel_rfl) 26 ([vV,vN,vI,vO]:List Value) HK.out.1 (of_decide_eq_true (by kernel_rfl)) ?_;have hX:=HK.out.2.2;generalize World.setRow _ _ _ = w10 at hX ⊢;have HX:=Lib.hid hX;clear hX;refine halt ?_))
      unfold Halt
      have hvm:pre2.length < 1000000000000:=by have:=HM.out.2.2;have:=HP.out.2.2;omega
      go_wp2
      go_roundw
      case rel=>exact ⟨pre2++[z],post2,HP.out.1,by rw [HP.out.2.1];go_num,_,_,HX.out⟩
      case measure=>simp [intOf];have:=HP.out.2.2;omega
     | nil =>
      obtain ⟨hge2,hpl2⟩:=split_end hpp
      have hI':=HI.out
      rw [hpl2] at hI'
      replace hpl2:=Lib.hid hpl2
      replace HI:=Lib.hid hI'
      have HE:=Lib.hid (csx_end hI' rfl HV.out.2.2 HM.out.2.2)
      have HO:=Lib.hid (Rep.one (hI'.done HV.out.2.2 HM.out.2.2))
      have HX9:=Lib.hid (cpx_end hI' HM.out.2.2 (([.slice none 0 0,.slice none 0 0,.slice none 0 0,.slice none 0 0]:List Value).take 0++([vV,vN,vI,vO]:List Value)++([.slice none 0 0,.slice none 0 0,.slice none 0 0,.slice none 0 0]:List Value).drop (0 + ([vV,vN,vI,vO]:List Value).length)).toArray rfl)
      clear hpp hI'
      go_wp2_with (first
       |(with_reducible refine wpList_load_agg rfl 26 _ rfl _ o 0 rfl ([vV,vN,vI,vO]:List Value) Tryz.underlying26 rfl (by kernel_rfl) (At.of_row HI.out.row) ?_)
       |((with_reducible refine wpList_store_agg rfl 26 _ _ rfl (w.heap.size + 1) 0 ([vV,vN,vI,vO]:List Value) rfl rfl 26 ([.slice none 0 0,.slice none 0 0,.slice none 0 0,.slice none 0 0]:List Value) HI.out.res (by kernel_rfl) (of_decide_eq_true (by kernel_rfl)) HO.out ?_);have hE:=And.intro HE.out HX9.out;generalize World.setRow _ _ _ = w9 at hE ⊢;have HR9:=Lib.hid hE;clear hE;refine halt ?_))
      unfold Halt
      go_wp2
      refine bodyPost_ret (results_cell_row rfl _ _ (w.heap.size + 1) 26 _ (0,0) _ (by kernel_rfl) HR9.out.1.1 Tryz.underlying26 rfl (by kernel_rfl)) (by kernel_rfl) ⟨_,rfl,HR9.out.1.2.1,HR9.out.1.2.2,HR9.out.2⟩
end Go.Proofs.YtoeaglpmkjoenaaGreat
