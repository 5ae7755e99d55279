/-
  Chapter 10: the dims of the outputs. No condition.
-/
import Derived.Test.YtilobeohkomeoaaGreatQInfX
import Derived.Test.YtilobeohkomeoaaGreatQInfF
import Derived.Test.YtilobeohkomeoaaGreatQWin
import Derived.Test.YtilobeohkomeoaaGreatQYsl
import Derived.Test.YtilobeohkomeoaaGreatQInfS
import Derived.Test.YtilobeohkomeoaaGreatQInfU
set_option linter.unusedSimpArgs false
set_option linter.unusedVariables false
namespace Go.Proofs.YtilobeohkomeoaaGreat
open Go.RowKit
open Rep (rep)
def SO (a:AskD) (x:Int) (ll:List (List Int)):Prop:=PO a x ll∧(a.op = 28∧a.even ∨ a.op = 16 ∨ a.op = 2→x = 0∧ll = [a.dims 0])
theorem so_one {a:AskD} {x:Int} {ll:List (List Int)} (h:¬ a.op = 48) (hn:¬ (a.op = 28 ∨ a.op = 16 ∨ a.op = 2)) (hp:P1 x ll):SO a x ll:=⟨po_one h hp,fun e=>by omega⟩
theorem so_all {a:AskD} {x:Int} {ll:List (List Int)} (h:¬ a.op = 48) (hp:x = 0∧ll = [a.dims 0]):SO a x ll:=⟨po_one h fun _=>by rw [hp.2];rfl,fun _=>hp⟩
set_option maxRecDepth 100000 in
set_option maxHeartbeats 8000000 in
theorem shapes_together (cs:List Value) (a:AskD) (w:World) (hr:rep w (old w.heap.size) cs a) (hok:a.Ok) (hop:a.op = 23 ∨ a.op = 24 ∨ a.op = 25 ∨ a.op = 28 ∨ a.op = 29 ∨ a.op = 30 ∨ a.op = 31 ∨ a.op = 32 ∨ a.op = 33 ∨ a.op = 34 ∨ a.op = 35 ∨ a.op = 37 ∨ a.op = 38 ∨ a.op = 39 ∨ a.op = 40 ∨ a.op = 41 ∨ a.op = 42) :
  Calls Tryz.prog 53 #[.agg cs.toArray] w (ShP w (SO a)):=by
 have HO:=Lib.hid (And.intro (ask_op hr).1 hok)
 go_enter Tryz.func53,Tryz.ntmps53
 go_wp2_with (with_reducible refine wpList_box_row rfl 91 _ rfl cs rfl ?_;have hX:=ask_start hr;generalize World.alloc _ _ = W0 at hX ⊢;have HX:=Lib.hid hX;clear hX hr;refine halt ?_)
 unfold Halt
 go_wp2_with (with_reducible refine wpList_load_agg rfl 91 _ rfl _ _ _ rfl cs Tryz.underlying91 rfl HX.out.size HX.out.at ?_)
 refine (askDims' cs a 0 w.heap.size _ HX.out.below.size HX.out.arg0).mono ?_
 rintro e V2 ⟨A0,k0,rfl,h0,hb⟩
 have L0:=Lib.hid (lst_n HX.out hb h0)
 obtain ⟨b0,b0'⟩:=slice_bnd h0
 clear h0
 replace HX:=Lib.hid (HX.out.next hb)
 clear hb
 have hc0:=HX.out.cell HO.out.1
 rcases hop with hop | hop | hop | hop | hop | hop | hop | hop | hop | hop | hop | hop | hop | hop | hop | hop | hop
 all_goals
  rw [hop] at hc0
  go_wp2_with (with_reducible refine wpList_load_agg rfl 91 _ rfl _ _ _ rfl cs Tryz.underlying91 rfl HX.out.size HX.out.at ?_)
  refine (together_any cs a _ HX.out.arg).mono ?_
  rintro e w9 ⟨A9,k9,x9,ll,rfl,hx,hb,hl,hp⟩
  have HC:=Lib.hid (And.intro (HX.out.trans hb) (And.intro hl (And.intro hx hp)))
  clear hx hb hl hp
  go_wp2
  go_ret2
  exact ⟨A9,k9,x9,ll,rfl,HC.out.2.2.1,HC.out.1,HC.out.2.1,⟨po_one (by omega) HC.out.2.2.2.1,fun e=>HC.out.2.2.2.2 (e.elim (fun e=>e.2) (fun e=>absurd e (by omega)))⟩⟩
set_option maxRecDepth 100000 in
set_option maxHeartbeats 8000000 in
theorem shapes_moved (cs:List Value) (a:AskD) (w:World) (hr:rep w (old w.heap.size) cs a) (hok:a.Ok) (hop:a.op = 45 ∨ a.op = 46 ∨ a.op = 47 ∨ a.op = 48 ∨ a.op = 49 ∨ a.op = 50 ∨ a.op = 51 ∨ a.op = 52 ∨ a.op = 53 ∨ a.op = 54 ∨ a.op = 55 ∨ a.op = 56 ∨ a.op = 57 ∨ a.op = 58 ∨ a.op = 59 ∨ a.op = 60 ∨ a.op = 62 ∨ a.op = 63 ∨ a.op = 64) :
  Calls Tryz.prog 53 #[.agg cs.toArray] w (ShP w (SO a)):=by
 have HO:=Lib.hid (And.intro (ask_op hr).1 hok)
 go_enter Tryz.func53,Tryz.ntmps53
 go_wp2_with (with_reducible refine wpList_box_row rfl 91 _ rfl cs rfl ?_;have hX:=ask_start hr;generalize World.alloc _ _ = W0 at hX ⊢;have HX:=Lib.hid hX;clear hX hr;refine halt ?_)
 unfold Halt
 go_wp2_with (with_reducible refine wpList_load_agg rfl 91 _ rfl _ _ _ rfl cs Tryz.underlying91 rfl HX.out.size HX.out.at ?_)
 refine (askDims' cs a 0 w.heap.size _ HX.out.below.size HX.out.arg0).mono ?_
 rintro e V2 ⟨A0,k0,rfl,h0,hb⟩
 have L0:=Lib.hid (lst_n HX.out hb h0)
 obtain ⟨b0,b0'⟩:=slice_bnd h0
 clear h0
 replace HX:=Lib.hid (HX.out.next hb)
 clear hb
 have hc0:=HX.out.cell HO.out.1
 rcases hop with hop | hop | hop | hop | hop | hop | hop | hop | hop | hop | hop | hop | hop | hop | hop | hop | hop | hop | hop
 all_goals
  rw [hop] at hc0
  go_wp2_with (with_reducible refine wpList_load_agg rfl 91 _ rfl _ _ _ rfl cs Tryz.underlying91 rfl HX.out.size HX.out.at ?_)
  refine (moved_any cs a _ HX.out.arg HO.out.2 (by omega)).mono ?_
  rintro e w9 ⟨A9,k9,x9,ll,rfl,hx,hb,hl,hp⟩
  have HC:=Lib.hid (And.intro (HX.out.trans hb) (And.intro hl (And.intro hx hp)))
  clear hx hb hl hp
  go_wp2
  go_ret2
  exact ⟨A9,k9,x9,ll,rfl,HC.out.2.2.1,HC.out.1,HC.out.2.1,⟨HC.out.2.2.2,fun e=>by omega⟩⟩
set_option maxRecDepth 100000 in
set_option maxHeartbeats 8000000 in
theorem shapes_reduced (cs:List Value) (a:AskD) (w:World) (hr:rep w (old w.heap.size) cs a) (hok:a.Ok) (hop:a.op = 65 ∨ a.op = 66 ∨ a.op = 67 ∨ a.op = 68 ∨ a.op = 69 ∨ a.op = 70 ∨ a.op = 71) :
  Calls Tryz.prog 53 #[.agg cs.toArray] w (ShP w (SO a)):=by
 have HO:=Lib.hid (And.intro (ask_op hr).1 hok)
 go_enter Tryz.func53,Tryz.ntmps53
 go_wp2_with (with_reducible refine wpList_box_row rfl 91 _ rfl cs rfl ?_;have hX:=ask_start hr;generalize World.alloc _ _ = W0 at hX ⊢;have HX:=Lib.hid hX;clear hX hr;refine halt ?_)
 unfold Halt
 go_wp2_with (with_reducible refine wpList_load_agg rfl 91 _ rfl _ _ _ rfl cs Tryz.underlying91 rfl HX.out.size HX.out.at ?_)
 refine (askDims' cs a 0 w.heap.size _ HX.out.below.size HX.out.arg0).mono ?_
 rintro e V2 ⟨A0,k0,rfl,h0,hb⟩
 have L0:=Lib.hid (lst_n HX.out hb h0)
 obtain ⟨b0,b0'⟩:=slice_bnd h0
 clear h0
 replace HX:=Lib.hid (HX.out.next hb)
 clear hb
 have hc0:=HX.out.cell HO.out.1
 rcases hop with hop | hop | hop | hop | hop | hop | hop
 all_goals
  rw [hop] at hc0
  go_wp2_with (with_reducible refine wpList_load_agg rfl 91 _ rfl _ _ _ rfl cs Tryz.underlying91 rfl HX.out.size HX.out.at ?_)
  refine (reduced_any cs a _ HX.out.arg).mono ?_
  rintro e w9 ⟨A9,k9,x9,ll,rfl,hx,hb,hl,hp⟩
  have HC:=Lib.hid (And.intro (HX.out.trans hb) (And.intro hl (And.intro hx hp)))
  clear hx hb hl hp
  go_wp2
  go_ret2
  exact ⟨A9,k9,x9,ll,rfl,HC.out.2.2.1,HC.out.1,HC.out.2.1,(so_one (by omega) (by omega) HC.out.2.2.2)⟩
set_option maxRecDepth 100000 in
set_option maxHeartbeats 8000000 in
theorem shapes_product (cs:List Value) (a:AskD) (w:World) (hr:rep w (old w.heap.size) cs a) (hok:a.Ok) (hop:a.op = 73) :
  Calls Tryz.prog 53 #[.agg cs.toArray] w (ShP w (SO a)):=by
 have HO:=Lib.hid (And.intro (ask_op hr).1 hok)
 go_enter Tryz.func53,Tryz.ntmps53
 go_wp2_with (with_reducible refine wpList_box_row rfl 91 _ rfl cs rfl ?_;have hX:=ask_start hr;generalize World.alloc _ _ = W0 at hX ⊢;have HX:=Lib.hid hX;clear hX hr;refine halt ?_)
 unfold Halt
 go_wp2_with (with_reducible refine wpList_load_agg rfl 91 _ rfl _ _ _ rfl cs Tryz.underlying91 rfl HX.out.size HX.out.at ?_)
 refine (askDims' cs a 0 w.heap.size _ HX.out.below.size HX.out.arg0).mono ?_
 rintro e V2 ⟨A0,k0,rfl,h0,hb⟩
 have L0:=Lib.hid (lst_n HX.out hb h0)
 obtain ⟨b0,b0'⟩:=slice_bnd h0
 clear h0
 replace HX:=Lib.hid (HX.out.next hb)
 clear hb
 have hc0:=HX.out.cell HO.out.1
 rw [hop] at hc0
 go_wp2_with (with_reducible refine wpList_load_agg rfl 91 _ rfl _ _ _ rfl cs Tryz.underlying91 rfl HX.out.size HX.out.at ?_)
 refine (product_any cs a _ HX.out.arg).mono ?_
 rintro e w9 ⟨A9,k9,x9,ll,rfl,hx,hb,hl,hp⟩
 have HC:=Lib.hid (And.intro (HX.out.trans hb) (And.intro hl (And.intro hx hp)))
 clear hx hb hl hp
 go_wp2
 go_ret2
 exact ⟨A9,k9,x9,ll,rfl,HC.out.2.2.1,HC.out.1,HC.out.2.1,(so_one (by omega) (by omega) HC.out.2.2.2)⟩
set_option maxRecDepth 100000 in
set_option maxHeartbeats 8000000 in
theorem shapes_gemm (cs:List Value) (a:AskD) (w:World) (hr:rep w (old w.heap.size) cs a) (hok:a.Ok) (hop:a.op = 74) :
  Calls Tryz.prog 53 #[.agg cs.toArray] w (ShP w (SO a)):=by
 have HO:=Lib.hid (And.intro (ask_op hr).1 hok)
 go_enter Tryz.func53,Tryz.ntmps53
 go_wp2_with (with_reducible refine wpList_box_row rfl 91 _ rfl cs rfl ?_;have hX:=ask_start hr;generalize World.alloc _ _ = W0 at hX ⊢;have HX:=Lib.hid hX;clear hX hr;refine halt ?_)
 unfold Halt
 go_wp2_with (with_reducible refine wpList_load_agg rfl 91 _ rfl _ _ _ rfl cs Tryz.underlying91 rfl HX.out.size HX.out.at ?_)
 refine (askDims' cs a 0 w.heap.size _ HX.out.below.size HX.out.arg0).mono ?_
 rintro e V2 ⟨A0,k0,rfl,h0,hb⟩
 have L0:=Lib.hid (lst_n HX.out hb h0)
 obtain ⟨b0,b0'⟩:=slice_bnd h0
 clear h0
 replace HX:=Lib.hid (HX.out.next hb)
 clear hb
 have hc0:=HX.out.cell HO.out.1
 rw [hop] at hc0
 go_wp2_with (with_reducible refine wpList_load_agg rfl 91 _ rfl _ _ _ rfl cs Tryz.underlying91 rfl HX.out.size HX.out.at ?_)
 refine (gemm_any cs a _ HX.out.arg).mono ?_
 rintro e w9 ⟨A9,k9,x9,ll,rfl,hx,hb,hl,hp⟩
 have HC:=Lib.hid (And.intro (HX.out.trans hb) (And.intro hl (And.intro hx hp)))
 clear hx hb hl hp
 go_wp2
 go_ret2
 exact ⟨A9,k9,x9,ll,rfl,HC.out.2.2.1,HC.out.1,HC.out.2.1,(so_one (by omega) (by omega) HC.out.2.2.2)⟩
set_option maxRecDepth 100000 in
set_option maxHeartbeats 8000000 in
theorem shapes_conv (cs:List Value) (a:AskD) (w:World) (hr:rep w (old w.heap.size) cs a) (hok:a.Ok) (hop:a.op = 75) :
  Calls Tryz.prog 53 #[.agg cs.toArray] w (ShP w (SO a)):=by
 have HO:=Lib.hid (And.intro (ask_op hr).1 hok)
 go_enter Tryz.func53,Tryz.ntmps53
 go_wp2_with (with_reducible refine wpList_box_row rfl 91 _ rfl cs rfl ?_;have hX:=ask_start hr;generalize World.alloc _ _ = W0 at hX ⊢;have HX:=Lib.hid hX;clear hX hr;refine halt ?_)
 unfold Halt
 go_wp2_with (with_reducible refine wpList_load_agg rfl 91 _ rfl _ _ _ rfl cs Tryz.underlying91 rfl HX.out.size HX.out.at ?_)
 refine (askDims' cs a 0 w.heap.size _ HX.out.below.size HX.out.arg0).mono ?_
 rintro e V2 ⟨A0,k0,rfl,h0,hb⟩
 have L0:=Lib.hid (lst_n HX.out hb h0)
 obtain ⟨b0,b0'⟩:=slice_bnd h0
 clear h0
 replace HX:=Lib.hid (HX.out.next hb)
 clear hb
 have hc0:=HX.out.cell HO.out.1
 rw [hop] at hc0
 go_wp2_with (with_reducible refine wpList_load_agg rfl 91 _ rfl _ _ _ rfl cs Tryz.underlying91 rfl HX.out.size HX.out.at ?_)
 refine (conv_any cs a _ HX.out.arg (HO.out.2.group hop) (HO.out.2.frames (by omega)).1 (HO.out.2.frames (by omega)).2.1 (HO.out.2.frames (by omega)).2.2).mono ?_
 rintro e w9 ⟨A9,k9,x9,ll,rfl,hx,hb,hl,hp⟩
 have HC:=Lib.hid (And.intro (HX.out.trans hb) (And.intro hl (And.intro hx hp)))
 clear hx hb hl hp
 go_wp2
 go_ret2
 exact ⟨A9,k9,x9,ll,rfl,HC.out.2.2.1,HC.out.1,HC.out.2.1,(so_one (by omega) (by omega) HC.out.2.2.2)⟩
set_option maxRecDepth 100000 in
set_option maxHeartbeats 8000000 in
theorem shapes_pool (cs:List Value) (a:AskD) (w:World) (hr:rep w (old w.heap.size) cs a) (hok:a.Ok) (hop:a.op = 76 ∨ a.op = 77) :
  Calls Tryz.prog 53 #[.agg cs.toArray] w (ShP w (SO a)):=by
 have HO:=Lib.hid (And.intro (ask_op hr).1 hok)
 go_enter Tryz.func53,Tryz.ntmps53
 go_wp2_with (with_reducible refine wpList_box_row rfl 91 _ rfl cs rfl ?_;have hX:=ask_start hr;generalize World.alloc _ _ = W0 at hX ⊢;have HX:=Lib.hid hX;clear hX hr;refine halt ?_)
 unfold Halt
 go_wp2_with (with_reducible refine wpList_load_agg rfl 91 _ rfl _ _ _ rfl cs Tryz.underlying91 rfl HX.out.size HX.out.at ?_)
 refine (askDims' cs a 0 w.heap.size _ HX.out.below.size HX.out.arg0).mono ?_
 rintro e V2 ⟨A0,k0,rfl,h0,hb⟩
 have L0:=Lib.hid (lst_n HX.out hb h0)
 obtain ⟨b0,b0'⟩:=slice_bnd h0
 clear h0
 replace HX:=Lib.hid (HX.out.next hb)
 clear hb
 have hc0:=HX.out.cell HO.out.1
 rcases hop with hop | hop
 all_goals
  rw [hop] at hc0
  go_wp2_with (with_reducible refine wpList_load_agg rfl 91 _ rfl _ _ _ rfl cs Tryz.underlying91 rfl HX.out.size HX.out.at ?_)
  refine (pool_any cs a _ HX.out.arg (HO.out.2.kernel (by omega)) (HO.out.2.frames (by omega)).1 (HO.out.2.frames (by omega)).2.1 (HO.out.2.frames (by omega)).2.2).mono ?_
  rintro e w9 ⟨A9,k9,x9,ll,rfl,hx,hb,hl,hp⟩
  have HC:=Lib.hid (And.intro (HX.out.trans hb) (And.intro hl (And.intro hx hp)))
  clear hx hb hl hp
  go_wp2
  go_ret2
  exact ⟨A9,k9,x9,ll,rfl,HC.out.2.2.1,HC.out.1,HC.out.2.1,(so_one (by omega) (by omega) HC.out.2.2.2)⟩
set_option maxRecDepth 100000 in
set_option maxHeartbeats 8000000 in
theorem shapes_normal (cs:List Value) (a:AskD) (w:World) (hr:rep w (old w.heap.size) cs a) (hok:a.Ok) (hop:a.op = 78 ∨ a.op = 79 ∨ a.op = 80) :
  Calls Tryz.prog 53 #[.agg cs.toArray] w (ShP w (SO a)):=by
 have HO:=Lib.hid (And.intro (ask_op hr).1 hok)
 go_enter Tryz.func53,Tryz.ntmps53
 go_wp2_with (with_reducible refine wpList_box_row rfl 91 _ rfl cs rfl ?_;have hX:=ask_start hr;generalize World.alloc _ _ = W0 at hX ⊢;have HX:=Lib.hid hX;clear hX hr;refine halt ?_)
 unfold Halt
 go_wp2_with (with_reducible refine wpList_load_agg rfl 91 _ rfl _ _ _ rfl cs Tryz.underlying91 rfl HX.out.size HX.out.at ?_)
 refine (askDims' cs a 0 w.heap.size _ HX.out.below.size HX.out.arg0).mono ?_
 rintro e V2 ⟨A0,k0,rfl,h0,hb⟩
 have L0:=Lib.hid (lst_n HX.out hb h0)
 obtain ⟨b0,b0'⟩:=slice_bnd h0
 clear h0
 replace HX:=Lib.hid (HX.out.next hb)
 clear hb
 have hc0:=HX.out.cell HO.out.1
 rcases hop with hop | hop | hop
 all_goals
  rw [hop] at hc0
  go_wp2_with (with_reducible refine wpList_load_agg rfl 91 _ rfl _ _ _ rfl cs Tryz.underlying91 rfl HX.out.size HX.out.at ?_)
  refine (normal_any cs a _ HX.out.arg (by omega) (size_len HO.out.2.size) (fun h=>HO.out.2.axis (by omega))).mono ?_
  rintro e w9 ⟨A9,k9,x9,ll,rfl,hx,hb,hl,hp⟩
  have HC:=Lib.hid (And.intro (HX.out.trans hb) (And.intro hl (And.intro hx hp)))
  clear hx hb hl hp
  go_wp2
  go_ret2
  exact ⟨A9,k9,x9,ll,rfl,HC.out.2.2.1,HC.out.1,HC.out.2.1,(so_one (by omega) (by omega) HC.out.2.2.2)⟩
set_option maxRecDepth 100000 in
set_option maxHeartbeats 8000000 in
theorem shapes_prelu (cs:List Value) (a:AskD) (w:World) (hr:rep w (old w.heap.size) cs a) (hok:a.Ok) (hop:a.op = 36) :
  Calls Tryz.prog 53 #[.agg cs.toArray] w (ShP w (SO a)):=by
 have HO:=Lib.hid (And.intro (ask_op hr).1 hok)
 go_enter Tryz.func53,Tryz.ntmps53
 go_wp2_with (with_reducible refine wpList_box_row rfl 91 _ rfl cs rfl ?_;have hX:=ask_start hr;generalize World.alloc _ _ = W0 at hX ⊢;have HX:=Lib.hid hX;clear hX hr;refine halt ?_)
 unfold Halt
 go_wp2_with (with_reducible refine wpList_load_agg rfl 91 _ rfl _ _ _ rfl cs Tryz.underlying91 rfl HX.out.size HX.out.at ?_)
 refine (askDims' cs a 0 w.heap.size _ HX.out.below.size HX.out.arg0).mono ?_
 rintro e V2 ⟨A0,k0,rfl,h0,hb⟩
 have L0:=Lib.hid (lst_n HX.out hb h0)
 obtain ⟨b0,b0'⟩:=slice_bnd h0
 clear h0
 replace HX:=Lib.hid (HX.out.next hb)
 clear hb
 have hc0:=HX.out.cell HO.out.1
 rw [hop] at hc0
 go_wp2_with (with_reducible refine wpList_load_agg rfl 91 _ rfl _ _ _ rfl cs Tryz.underlying91 rfl HX.out.size HX.out.at ?_)
 refine (askDims' cs a 1 w.heap.size _ HX.out.below.size HX.out.arg0).mono ?_
 rintro e V3 ⟨A1,k1,rfl,h1,hb⟩
 replace L0:=Lib.hid (L0.out.next hb)
 have L1:=Lib.hid (lst_n HX.out hb h1)
 obtain ⟨b1,b1'⟩:=slice_bnd h1
 clear h1
 replace HX:=Lib.hid (HX.out.next hb)
 clear hb
 go_wp2_with fail
 refine (within_any (a.dims 1) (a.dims 0) A1 A0 k1 k0 _ L1.out.lst L0.out.lst).mono ?_
 rintro e V8 ⟨x,rfl,hx,hb⟩
 replace L0:=Lib.hid (L0.out.next hb)
 replace HX:=Lib.hid (HX.out.next hb)
 have HXX:=Lib.hid hx
 clear hb hx
 by_cases hx0:x = 0
 ·subst hx0
  go_wp2_with fail
  refine (one_any (a.dims 0) A0 k0 _ L0.out.lst).mono ?_
  rintro e w9 ⟨A9,k9,x9,ll,rfl,hx,hb,hl,hp⟩
  have HC:=Lib.hid (And.intro (HX.out.trans hb) (And.intro hl (And.intro hx hp)))
  clear hx hb hl hp
  go_wp2
  go_ret2
  exact ⟨A9,k9,x9,ll,rfl,HC.out.2.2.1,HC.out.1,HC.out.2.1,so_all (by omega) HC.out.2.2.2⟩
 ·have hx0':(x != 0) = true:=by simpa using hx0
  go_wp2
  go_ret2
  exact sh_bad HX.out.below HXX.out (so_one (by omega) (by omega) fun e=>absurd e hx0)
set_option maxRecDepth 100000 in
set_option maxHeartbeats 8000000 in
theorem shapes_clip (cs:List Value) (a:AskD) (w:World) (hr:rep w (old w.heap.size) cs a) (hok:a.Ok) (hop:a.op = 43) :
  Calls Tryz.prog 53 #[.agg cs.toArray] w (ShP w (SO a)):=by
 have HO:=Lib.hid (And.intro (ask_op hr).1 hok)
 go_enter Tryz.func53,Tryz.ntmps53
 go_wp2_with (with_reducible refine wpList_box_row rfl 91 _ rfl cs rfl ?_;have hX:=ask_start hr;generalize World.alloc _ _ = W0 at hX ⊢;have HX:=Lib.hid hX;clear hX hr;refine halt ?_)
 unfold Halt
 go_wp2_with (with_reducible refine wpList_load_agg rfl 91 _ rfl _ _ _ rfl cs Tryz.underlying91 rfl HX.out.size HX.out.at ?_)
 refine (askDims' cs a 0 w.heap.size _ HX.out.below.size HX.out.arg0).mono ?_
 rintro e V2 ⟨A0,k0,rfl,h0,hb⟩
 have L0:=Lib.hid (lst_n HX.out hb h0)
 obtain ⟨b0,b0'⟩:=slice_bnd h0
 clear h0
 replace HX:=Lib.hid (HX.out.next hb)
 clear hb
 have hc0:=HX.out.cell HO.out.1
 rw [hop] at hc0
 go_wp2_with fail

 refine wp_region_held_drew (S:=fun W=>AskI w cs a W∧Below V2.heap.size V2 W) (by kernel_rfl) ⟨HX.out.next ((Below.refl _ _).drew),(Below.refl _ _).drew⟩ (fun hHeld=>?_)
 generalize World.drew _ = V3 at hHeld ⊢
 have hb:=hHeld.2
 replace L0:=Lib.hid (L0.out.next hb)
 clear hb
 refine tk9 0 (some 43) (v:=.agg cs.toArray) rfl (yields_ask (by kernel_rfl) _ rfl (by kernel_rfl) (fun _ h=>h.1)) hHeld ?_
 refine tk9 3 (some 46) (v:=.agg cs.toArray) rfl (yields_ask (by kernel_rfl) _ rfl (by kernel_rfl) (fun _ h=>h.1)) hHeld ?_
 refine call_d9 1 (some 44) rfl (by kernel_rfl) (by kernel_rfl) (by kernel_rfl) 70 _ _ rfl #[.agg cs.toArray,.int .i64 1] (by kernel_rfl) (fun w=>by kernel_rfl) ?_
 refine (askDims' cs a 1 w.heap.size _ hHeld.1.below.size hHeld.1.arg0).mono ?_
 rintro e V4 ⟨A1,k1,rfl,h1,hb⟩
 replace L0:=Lib.hid (L0.out.next hb)
 have L1:=Lib.hid (lst_n hHeld.1 hb h1)
 obtain ⟨b1,b1'⟩:=slice_bnd h1
 clear h1
 replace hHeld:=held_next hHeld hb
 refine ⟨_,rfl,hHeld,?_⟩
 clear hb
 refine tk0 2 (some 45) (v:=.int .i64 ((a.dims 1).length:Int)) rfl hHeld ?_
 refine call_d9 4 (some 47) rfl (by kernel_rfl) (by kernel_rfl) (by kernel_rfl) 70 _ _ rfl #[.agg cs.toArray,.int .i64 2] (by kernel_rfl) (fun w=>by kernel_rfl) ?_
 refine (askDims' cs a 2 w.heap.size _ hHeld.1.below.size hHeld.1.arg0).mono ?_
 rintro e V5 ⟨A2,k2,rfl,h2,hb⟩
 replace L0:=Lib.hid (L0.out.next hb)
 replace L1:=Lib.hid (L1.out.next hb)
 have L2:=Lib.hid (lst_n hHeld.1 hb h2)
 obtain ⟨b2,b2'⟩:=slice_bnd h2
 clear h2
 replace hHeld:=held_next hHeld hb
 refine ⟨_,rfl,hHeld,?_⟩
 clear hb
 refine tk0 5 (some 48) (v:=.int .i64 ((a.dims 2).length:Int)) rfl hHeld ?_
 have hl1:=dims_len (i:=1) hHeld.1
 have hl2:=dims_len (i:=2) hHeld.1
 refine tk9 6 (some 49) (v:=.int .i64 (((a.dims 1).length:Int) + ((a.dims 2).length:Int))) rfl (yields_addI (by kernel_rfl) _ _ _ _ rfl ((a.dims 1).length:Int) ((a.dims 2).length:Int) (by kernel_rfl) (by kernel_rfl) (by kernel_rfl) (by omega) (by omega) (by omega)) hHeld ?_
 refine tk0 7 (some 50) (v:=.bool (decide (((a.dims 1).length:Int) + ((a.dims 2).length:Int) > 0))) rfl hHeld ?_
 generalize decide (((a.dims 1).length:Int) + ((a.dims 2).length:Int) > 0) = t2
 have HH:=Lib.hid hHeld.1
 cases t2 with
 | true =>
  refine wpAnyH_done (by kernel_rfl) ?_ _
  rename_i K0 a0
  change K0 _ _
  refine a0 _ _ (wp_cond_true (by kernel_rfl) ?_)
  replace HX:=HH
  clear hHeld
  simp [Act.put]
  go_wp2_with fail
  refine (misfit_any _).mono ?_
  rintro e w9 ⟨rfl,rfl⟩
  go_wp2
  go_ret2
  exact sh_bad HX.out.below (by unfold I64;omega) (so_one (by omega) (by omega) fun e=>by cases e)
 | false =>
  refine wpAnyH_done (by kernel_rfl) ?_ _
  rename_i K0 a0
  change K0 _ _
  refine a0 _ _ (wp_cond_false (by kernel_rfl) ?_)
  replace HX:=HH
  clear hHeld
  simp [Act.put]
  go_wp2_with fail
  refine (one_any (a.dims 0) A0 k0 _ L0.out.lst).mono ?_
  rintro e w9 ⟨A9,k9,x9,ll,rfl,hx,hb,hl,hp⟩
  have HC:=Lib.hid (And.intro (HX.out.trans hb) (And.intro hl (And.intro hx hp)))
  clear hx hb hl hp
  go_wp2
  go_ret2
  exact ⟨A9,k9,x9,ll,rfl,HC.out.2.2.1,HC.out.1,HC.out.2.1,so_all (by omega) HC.out.2.2.2⟩
set_option maxRecDepth 100000 in
set_option maxHeartbeats 8000000 in
theorem shapes_plain (cs:List Value) (a:AskD) (w:World) (hr:rep w (old w.heap.size) cs a) (hok:a.Ok) (hop:1 ≤ a.op∧a.op ≤ 22 ∨ a.op = 26 ∨ a.op = 27 ∨ a.op = 44 ∨ a.op = 72) :
  Calls Tryz.prog 53 #[.agg cs.toArray] w (ShP w (SO a)):=by
 have HO:=Lib.hid (And.intro (ask_op hr).1 (show ¬ a.op = 48 by omega))
 go_enter Tryz.func53,Tryz.ntmps53
 go_wp2_with (with_reducible refine wpList_box_row rfl 91 _ rfl cs rfl ?_;have hX:=ask_start hr;generalize World.alloc _ _ = W0 at hX ⊢;have HX:=Lib.hid hX;clear hX hr;refine halt ?_)
 unfold Halt
 go_wp2_with (with_reducible refine wpList_load_agg rfl 91 _ rfl _ _ _ rfl cs Tryz.underlying91 rfl HX.out.size HX.out.at ?_)
 refine (askDims' cs a 0 w.heap.size _ HX.out.below.size HX.out.arg0).mono ?_
 rintro e V2 ⟨A0,k0,rfl,h0,hb⟩
 have L0:=Lib.hid (lst_n HX.out hb h0)
 obtain ⟨b0,b0'⟩:=slice_bnd h0
 clear h0
 replace HX:=Lib.hid (HX.out.next hb)
 clear hb
 have hc0:=HX.out.cell HO.out.1
 have HN:=Lib.hid HO.out.2
 generalize hy:a.op = y at hc0 hop
 clear hy hok
 have h23:(y == 23) = false:=by simp only [beq_eq_false_iff_ne];omega
 have h24:(y == 24) = false:=by simp only [beq_eq_false_iff_ne];omega
 have h25:(y == 25) = false:=by simp only [beq_eq_false_iff_ne];omega
 have h28:(y == 28) = false:=by simp only [beq_eq_false_iff_ne];omega
 have h29:(y == 29) = false:=by simp only [beq_eq_false_iff_ne];omega
 have h30:(y == 30) = false:=by simp only [beq_eq_false_iff_ne];omega
 have h31:(y == 31) = false:=by simp only [beq_eq_false_iff_ne];omega
 have h32:(y == 32) = false:=by simp only [beq_eq_false_iff_ne];omega
 have h33:(y == 33) = false:=by simp only [beq_eq_false_iff_ne];omega
 have h34:(y == 34) = false:=by simp only [beq_eq_false_iff_ne];omega
 have h35:(y == 35) = false:=by simp only [beq_eq_false_iff_ne];omega
 have h37:(y == 37) = false:=by simp only [beq_eq_false_iff_ne];omega
 have h38:(y == 38) = false:=by simp only [beq_eq_false_iff_ne];omega
 have h39:(y == 39) = false:=by simp only [beq_eq_false_iff_ne];omega
 have h40:(y == 40) = false:=by simp only [beq_eq_false_iff_ne];omega
 have h41:(y == 41) = false:=by simp only [beq_eq_false_iff_ne];omega
 have h42:(y == 42) = false:=by simp only [beq_eq_false_iff_ne];omega
 have h36:(y == 36) = false:=by simp only [beq_eq_false_iff_ne];omega
 have h43:(y == 43) = false:=by simp only [beq_eq_false_iff_ne];omega
 have h45:(y == 45) = false:=by simp only [beq_eq_false_iff_ne];omega
 have h46:(y == 46) = false:=by simp only [beq_eq_false_iff_ne];omega
 have h47:(y == 47) = false:=by simp only [beq_eq_false_iff_ne];omega
 have h48:(y == 48) = false:=by simp only [beq_eq_false_iff_ne];omega
 have h49:(y == 49) = false:=by simp only [beq_eq_false_iff_ne];omega
 have h50:(y == 50) = false:=by simp only [beq_eq_false_iff_ne];omega
 have h51:(y == 51) = false:=by simp only [beq_eq_false_iff_ne];omega
 have h52:(y == 52) = false:=by simp only [beq_eq_false_iff_ne];omega
 have h53:(y == 53) = false:=by simp only [beq_eq_false_iff_ne];omega
 have h54:(y == 54) = false:=by simp only [beq_eq_false_iff_ne];omega
 have h55:(y == 55) = false:=by simp only [beq_eq_false_iff_ne];omega
 have h56:(y == 56) = false:=by simp only [beq_eq_false_iff_ne];omega
 have h57:(y == 57) = false:=by simp only [beq_eq_false_iff_ne];omega
 have h58:(y == 58) = false:=by simp only [beq_eq_false_iff_ne];omega
 have h59:(y == 59) = false:=by simp only [beq_eq_false_iff_ne];omega
 have h60:(y == 60) = false:=by simp only [beq_eq_false_iff_ne];omega
 have h62:(y == 62) = false:=by simp only [beq_eq_false_iff_ne];omega
 have h63:(y == 63) = false:=by simp only [beq_eq_false_iff_ne];omega
 have h64:(y == 64) = false:=by simp only [beq_eq_false_iff_ne];omega
 have h65:(y == 65) = false:=by simp only [beq_eq_false_iff_ne];omega
 have h66:(y == 66) = false:=by simp only [beq_eq_false_iff_ne];omega
 have h67:(y == 67) = false:=by simp only [beq_eq_false_iff_ne];omega
 have h68:(y == 68) = false:=by simp only [beq_eq_false_iff_ne];omega
 have h69:(y == 69) = false:=by simp only [beq_eq_false_iff_ne];omega
 have h70:(y == 70) = false:=by simp only [beq_eq_false_iff_ne];omega
 have h71:(y == 71) = false:=by simp only [beq_eq_false_iff_ne];omega
 have h73:(y == 73) = false:=by simp only [beq_eq_false_iff_ne];omega
 have h74:(y == 74) = false:=by simp only [beq_eq_false_iff_ne];omega
 have h75:(y == 75) = false:=by simp only [beq_eq_false_iff_ne];omega
 have h76:(y == 76) = false:=by simp only [beq_eq_false_iff_ne];omega
 have h77:(y == 77) = false:=by simp only [beq_eq_false_iff_ne];omega
 have h78:(y == 78) = false:=by simp only [beq_eq_false_iff_ne];omega
 have h79:(y == 79) = false:=by simp only [beq_eq_false_iff_ne];omega
 have h80:(y == 80) = false:=by simp only [beq_eq_false_iff_ne];omega
 clear hop
 go_wp2_with fail
 refine (one_any (a.dims 0) A0 k0 _ L0.out.lst).mono ?_
 rintro e w9 ⟨A9,k9,x9,ll,rfl,hx,hb,hl,hp⟩
 have HC:=Lib.hid (And.intro (HX.out.trans hb) (And.intro hl (And.intro hx hp)))
 clear hx hb hl hp
 go_wp2
 go_ret2
 exact ⟨A9,k9,x9,ll,rfl,HC.out.2.2.1,HC.out.1,HC.out.2.1,so_all HN.out HC.out.2.2.2⟩
theorem shapes_any (cs:List Value) (a:AskD) (w:World) (hr:rep w (old w.heap.size) cs a) (hok:a.Ok) (hop:1 ≤ a.op∧a.op ≤ 60 ∨ 62 ≤ a.op∧a.op ≤ 80) :
  Calls Tryz.prog 53 #[.agg cs.toArray] w (ShP w (SO a)):=by
 by_cases h1:1 ≤ a.op∧a.op ≤ 22 ∨ a.op = 26 ∨ a.op = 27 ∨ a.op = 44 ∨ a.op = 72
 ·exact shapes_plain cs a w hr hok h1
 ·by_cases h2:a.op = 36
  ·exact shapes_prelu cs a w hr hok h2
  ·by_cases h3:a.op = 43
   ·exact shapes_clip cs a w hr hok h3
   ·by_cases h4:a.op ≤ 42
    ·exact shapes_together cs a w hr hok (by omega)
    ·by_cases h5:a.op ≤ 64
     ·exact shapes_moved cs a w hr hok (by omega)
     ·by_cases h6:a.op ≤ 71
      ·exact shapes_reduced cs a w hr hok (by omega)
      ·have hc:a.op = 73 ∨ a.op = 74 ∨ a.op = 75 ∨ (a.op = 76 ∨ a.op = 77) ∨ a.op = 78 ∨ a.op = 79 ∨ a.op = 80:=by omega
       rcases hc with h | h | h | h | h
       ·exact shapes_product cs a w hr hok h
       ·exact shapes_gemm cs a w hr hok h
       ·exact shapes_conv cs a w hr hok h
       ·exact shapes_pool cs a w hr hok h
       ·exact shapes_normal cs a w hr hok h
end Go.Proofs.YtilobeohkomeoaaGreat
