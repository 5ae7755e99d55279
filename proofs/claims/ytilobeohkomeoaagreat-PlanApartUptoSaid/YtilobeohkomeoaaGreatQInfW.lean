/-
  Chapter 10: data movement, all in one. No condition.
-/
import Derived.Test.YtilobeohkomeoaaGreatQInfF
import Derived.Test.YtilobeohkomeoaaGreatQInfJ
import Derived.Test.YtilobeohkomeoaaGreatQCount
import Derived.Test.YtilobeohkomeoaaGreatQRept
import Derived.Test.YtilobeohkomeoaaGreatQWin
set_option linter.unusedSimpArgs false
set_option linter.unusedVariables false
namespace Go.Proofs.YtilobeohkomeoaaGreat
open Go.RowKit
open Rep (rep)
structure AskD.Ok (a:AskD):Prop where
 perm:a.op = 45→a.s.hasPerm = true→a.s.perm.length = (a.dims 0).length∧∀ k ∈ a.s.perm,0 ≤ k∧k < ((a.dims 0).length:Int)
 axis:a.op = 47 ∨ a.op = 48 ∨ a.op = 50 ∨ a.op = 51 ∨ a.op = 52 ∨ a.op = 80→(axisD a.s.axis ((a.dims 0).length:Int)).2 = 0
 flat:a.op = 58→-((a.dims 0).length:Int) ≤ a.s.axis∧a.s.axis ≤ ((a.dims 0).length:Int)
 block:a.op = 63 ∨ a.op = 64→1 ≤ a.s.block∧a.s.block ≤ 4096
 group:a.op = 75→1 ≤ a.s.group
 frames:a.op = 75 ∨ a.op = 76 ∨ a.op = 77→manyD a.s.strides 2 = true∧manyD a.s.dilations 2 = true∧manyD a.s.pads 4 = true
 kernel:a.op = 76 ∨ a.op = 77→a.s.kernel.length = 2
 outs:a.op = 48→1 ≤ a.outs∧a.outs ≤ 64
 size:(sizeD (a.dims 0)).2 = 0
 two:a.op = 50→(sizeD (a.dims 1)).2 = 0
def PO (a:AskD) (x:Int) (ll:List (List Int)):Prop:=x = 0→(ll.length:Int) = if a.op = 48 then a.outs else 1
theorem po_one {a:AskD} {x:Int} {ll:List (List Int)} (h:¬ a.op = 48) (hp:P1 x ll):PO a x ll:=fun e=>by rw [if_neg h];have:=hp e;omega
set_option maxRecDepth 100000 in
set_option maxHeartbeats 8000000 in
theorem moved_46 (cs:List Value) (a:AskD) (w:World) (hr:rep w (old w.heap.size) cs a) (hok:a.Ok) (hop:a.op = 46) :
  Calls Tryz.prog 74 #[.agg cs.toArray] w (ShP w P1):=by
 have HO:=Lib.hid (And.intro (ask_op hr).1 hok)
 go_enter Tryz.func74,Tryz.ntmps74
 go_wp2_with (with_reducible refine wpList_box_row rfl 91 _ rfl cs rfl ?_;have hX:=ask_start hr;generalize World.alloc _ _ = W0 at hX ⊢;have HX:=Lib.hid hX;clear hX hr;refine halt ?_)
 unfold Halt
 go_wp2_with (with_reducible refine wpList_load_agg rfl 91 _ rfl _ _ _ rfl cs Tryz.underlying91 rfl HX.out.size HX.out.at ?_)
 refine (askDims' cs a 0 w.heap.size _ HX.out.below.size HX.out.arg0).mono ?_
 rintro e V2 ⟨A0,k0,rfl,h0,hb⟩
 have L0:=Lib.hid (lst_n HX.out hb h0)
 obtain ⟨b0,b0'⟩:=slice_bnd h0
 clear h0
 replace HX:=Lib.hid (HX.out.next hb)
 clear hb
 have hc0:=HX.out.cell HO.out.1
 rw [hop] at hc0
 go_wp2_with (with_reducible refine wpList_load_agg rfl 91 _ rfl _ _ _ rfl cs Tryz.underlying91 rfl HX.out.size HX.out.at ?_)
 refine (reshape_any cs a _ HX.out.arg).mono ?_
 rintro e w9 ⟨A9,k9,x9,ll,rfl,hx,hb,hl,hp⟩
 have HC:=Lib.hid (And.intro (HX.out.trans hb) (And.intro hl (And.intro hx hp)))
 clear hx hb hl hp
 go_wp2
 go_ret2
 exact ⟨A9,k9,x9,ll,rfl,HC.out.2.2.1,HC.out.1,HC.out.2.1,HC.out.2.2.2⟩
set_option maxRecDepth 100000 in
set_option maxHeartbeats 8000000 in
theorem moved_47 (cs:List Value) (a:AskD) (w:World) (hr:rep w (old w.heap.size) cs a) (hok:a.Ok) (hop:a.op = 47) :
  Calls Tryz.prog 74 #[.agg cs.toArray] w (ShP w P1):=by
 have HO:=Lib.hid (And.intro (ask_op hr).1 hok)
 go_enter Tryz.func74,Tryz.ntmps74
 go_wp2_with (with_reducible refine wpList_box_row rfl 91 _ rfl cs rfl ?_;have hX:=ask_start hr;generalize World.alloc _ _ = W0 at hX ⊢;have HX:=Lib.hid hX;clear hX hr;refine halt ?_)
 unfold Halt
 go_wp2_with (with_reducible refine wpList_load_agg rfl 91 _ rfl _ _ _ rfl cs Tryz.underlying91 rfl HX.out.size HX.out.at ?_)
 refine (askDims' cs a 0 w.heap.size _ HX.out.below.size HX.out.arg0).mono ?_
 rintro e V2 ⟨A0,k0,rfl,h0,hb⟩
 have L0:=Lib.hid (lst_n HX.out hb h0)
 obtain ⟨b0,b0'⟩:=slice_bnd h0
 clear h0
 replace HX:=Lib.hid (HX.out.next hb)
 clear hb
 have hc0:=HX.out.cell HO.out.1
 rw [hop] at hc0
 go_wp2_with (with_reducible refine wpList_load_agg rfl 91 _ rfl _ _ _ rfl cs Tryz.underlying91 rfl HX.out.size HX.out.at ?_)
 refine (concat_any cs a _ HX.out.arg (HO.out.2.axis (by omega))).mono ?_
 rintro e w9 ⟨A9,k9,x9,ll,rfl,hx,hb,hl,hp⟩
 have HC:=Lib.hid (And.intro (HX.out.trans hb) (And.intro hl (And.intro hx hp)))
 clear hx hb hl hp
 go_wp2
 go_ret2
 exact ⟨A9,k9,x9,ll,rfl,HC.out.2.2.1,HC.out.1,HC.out.2.1,HC.out.2.2.2⟩
set_option maxRecDepth 100000 in
set_option maxHeartbeats 8000000 in
theorem moved_48 (cs:List Value) (a:AskD) (w:World) (hr:rep w (old w.heap.size) cs a) (hok:a.Ok) (hop:a.op = 48) :
  Calls Tryz.prog 74 #[.agg cs.toArray] w (ShP w (PO a)):=by
 have HO:=Lib.hid (And.intro (ask_op hr).1 hok)
 go_enter Tryz.func74,Tryz.ntmps74
 go_wp2_with (with_reducible refine wpList_box_row rfl 91 _ rfl cs rfl ?_;have hX:=ask_start hr;generalize World.alloc _ _ = W0 at hX ⊢;have HX:=Lib.hid hX;clear hX hr;refine halt ?_)
 unfold Halt
 go_wp2_with (with_reducible refine wpList_load_agg rfl 91 _ rfl _ _ _ rfl cs Tryz.underlying91 rfl HX.out.size HX.out.at ?_)
 refine (askDims' cs a 0 w.heap.size _ HX.out.below.size HX.out.arg0).mono ?_
 rintro e V2 ⟨A0,k0,rfl,h0,hb⟩
 have L0:=Lib.hid (lst_n HX.out hb h0)
 obtain ⟨b0,b0'⟩:=slice_bnd h0
 clear h0
 replace HX:=Lib.hid (HX.out.next hb)
 clear hb
 have hc0:=HX.out.cell HO.out.1
 rw [hop] at hc0
 go_wp2_with (with_reducible refine wpList_load_agg rfl 91 _ rfl _ _ _ rfl cs Tryz.underlying91 rfl HX.out.size HX.out.at ?_)
 refine (split_any cs a _ HX.out.arg (HO.out.2.axis (by omega)) (HO.out.2.outs hop).1 (HO.out.2.outs hop).2).mono ?_
 rintro e w9 ⟨A9,k9,x9,ll,rfl,hx,hb,hl,hp⟩
 have HC:=Lib.hid (And.intro (HX.out.trans hb) (And.intro hl (And.intro hx hp)))
 clear hx hb hl hp
 go_wp2
 go_ret2
 exact ⟨A9,k9,x9,ll,rfl,HC.out.2.2.1,HC.out.1,HC.out.2.1,(fun e=>by rw [if_pos hop];exact HC.out.2.2.2 e)⟩
set_option maxRecDepth 100000 in
set_option maxHeartbeats 8000000 in
theorem moved_49 (cs:List Value) (a:AskD) (w:World) (hr:rep w (old w.heap.size) cs a) (hok:a.Ok) (hop:a.op = 49) :
  Calls Tryz.prog 74 #[.agg cs.toArray] w (ShP w P1):=by
 have HO:=Lib.hid (And.intro (ask_op hr).1 hok)
 go_enter Tryz.func74,Tryz.ntmps74
 go_wp2_with (with_reducible refine wpList_box_row rfl 91 _ rfl cs rfl ?_;have hX:=ask_start hr;generalize World.alloc _ _ = W0 at hX ⊢;have HX:=Lib.hid hX;clear hX hr;refine halt ?_)
 unfold Halt
 go_wp2_with (with_reducible refine wpList_load_agg rfl 91 _ rfl _ _ _ rfl cs Tryz.underlying91 rfl HX.out.size HX.out.at ?_)
 refine (askDims' cs a 0 w.heap.size _ HX.out.below.size HX.out.arg0).mono ?_
 rintro e V2 ⟨A0,k0,rfl,h0,hb⟩
 have L0:=Lib.hid (lst_n HX.out hb h0)
 obtain ⟨b0,b0'⟩:=slice_bnd h0
 clear h0
 replace HX:=Lib.hid (HX.out.next hb)
 clear hb
 have hc0:=HX.out.cell HO.out.1
 rw [hop] at hc0
 go_wp2_with (with_reducible refine wpList_load_agg rfl 91 _ rfl _ _ _ rfl cs Tryz.underlying91 rfl HX.out.size HX.out.at ?_)
 refine (slice_any cs a _ HX.out.arg).mono ?_
 rintro e w9 ⟨A9,k9,x9,ll,rfl,hx,hb,hl,hp⟩
 have HC:=Lib.hid (And.intro (HX.out.trans hb) (And.intro hl (And.intro hx hp)))
 clear hx hb hl hp
 go_wp2
 go_ret2
 exact ⟨A9,k9,x9,ll,rfl,HC.out.2.2.1,HC.out.1,HC.out.2.1,HC.out.2.2.2⟩
set_option maxRecDepth 100000 in
set_option maxHeartbeats 8000000 in
theorem moved_53 (cs:List Value) (a:AskD) (w:World) (hr:rep w (old w.heap.size) cs a) (hok:a.Ok) (hop:a.op = 53) :
  Calls Tryz.prog 74 #[.agg cs.toArray] w (ShP w P1):=by
 have HO:=Lib.hid (And.intro (ask_op hr).1 hok)
 go_enter Tryz.func74,Tryz.ntmps74
 go_wp2_with (with_reducible refine wpList_box_row rfl 91 _ rfl cs rfl ?_;have hX:=ask_start hr;generalize World.alloc _ _ = W0 at hX ⊢;have HX:=Lib.hid hX;clear hX hr;refine halt ?_)
 unfold Halt
 go_wp2_with (with_reducible refine wpList_load_agg rfl 91 _ rfl _ _ _ rfl cs Tryz.underlying91 rfl HX.out.size HX.out.at ?_)
 refine (askDims' cs a 0 w.heap.size _ HX.out.below.size HX.out.arg0).mono ?_
 rintro e V2 ⟨A0,k0,rfl,h0,hb⟩
 have L0:=Lib.hid (lst_n HX.out hb h0)
 obtain ⟨b0,b0'⟩:=slice_bnd h0
 clear h0
 replace HX:=Lib.hid (HX.out.next hb)
 clear hb
 have hc0:=HX.out.cell HO.out.1
 rw [hop] at hc0
 go_wp2_with (with_reducible refine wpList_load_agg rfl 91 _ rfl _ _ _ rfl cs Tryz.underlying91 rfl HX.out.size HX.out.at ?_)
 refine (pad_any cs a _ HX.out.arg).mono ?_
 rintro e w9 ⟨A9,k9,x9,ll,rfl,hx,hb,hl,hp⟩
 have HC:=Lib.hid (And.intro (HX.out.trans hb) (And.intro hl (And.intro hx hp)))
 clear hx hb hl hp
 go_wp2
 go_ret2
 exact ⟨A9,k9,x9,ll,rfl,HC.out.2.2.1,HC.out.1,HC.out.2.1,HC.out.2.2.2⟩
set_option maxRecDepth 100000 in
set_option maxHeartbeats 8000000 in
theorem moved_54 (cs:List Value) (a:AskD) (w:World) (hr:rep w (old w.heap.size) cs a) (hok:a.Ok) (hop:a.op = 54) :
  Calls Tryz.prog 74 #[.agg cs.toArray] w (ShP w P1):=by
 have HO:=Lib.hid (And.intro (ask_op hr).1 hok)
 go_enter Tryz.func74,Tryz.ntmps74
 go_wp2_with (with_reducible refine wpList_box_row rfl 91 _ rfl cs rfl ?_;have hX:=ask_start hr;generalize World.alloc _ _ = W0 at hX ⊢;have HX:=Lib.hid hX;clear hX hr;refine halt ?_)
 unfold Halt
 go_wp2_with (with_reducible refine wpList_load_agg rfl 91 _ rfl _ _ _ rfl cs Tryz.underlying91 rfl HX.out.size HX.out.at ?_)
 refine (askDims' cs a 0 w.heap.size _ HX.out.below.size HX.out.arg0).mono ?_
 rintro e V2 ⟨A0,k0,rfl,h0,hb⟩
 have L0:=Lib.hid (lst_n HX.out hb h0)
 obtain ⟨b0,b0'⟩:=slice_bnd h0
 clear h0
 replace HX:=Lib.hid (HX.out.next hb)
 clear hb
 have hc0:=HX.out.cell HO.out.1
 rw [hop] at hc0
 go_wp2_with (with_reducible refine wpList_load_agg rfl 91 _ rfl _ _ _ rfl cs Tryz.underlying91 rfl HX.out.size HX.out.at ?_)
 refine (grown_any cs a _ HX.out.arg (.inl hop)).mono ?_
 rintro e w9 ⟨A9,k9,x9,ll,rfl,hx,hb,hl,hp⟩
 have HC:=Lib.hid (And.intro (HX.out.trans hb) (And.intro hl (And.intro hx hp)))
 clear hx hb hl hp
 go_wp2
 go_ret2
 exact ⟨A9,k9,x9,ll,rfl,HC.out.2.2.1,HC.out.1,HC.out.2.1,HC.out.2.2.2⟩
set_option maxRecDepth 100000 in
set_option maxHeartbeats 8000000 in
theorem moved_55 (cs:List Value) (a:AskD) (w:World) (hr:rep w (old w.heap.size) cs a) (hok:a.Ok) (hop:a.op = 55) :
  Calls Tryz.prog 74 #[.agg cs.toArray] w (ShP w P1):=by
 have HO:=Lib.hid (And.intro (ask_op hr).1 hok)
 go_enter Tryz.func74,Tryz.ntmps74
 go_wp2_with (with_reducible refine wpList_box_row rfl 91 _ rfl cs rfl ?_;have hX:=ask_start hr;generalize World.alloc _ _ = W0 at hX ⊢;have HX:=Lib.hid hX;clear hX hr;refine halt ?_)
 unfold Halt
 go_wp2_with (with_reducible refine wpList_load_agg rfl 91 _ rfl _ _ _ rfl cs Tryz.underlying91 rfl HX.out.size HX.out.at ?_)
 refine (askDims' cs a 0 w.heap.size _ HX.out.below.size HX.out.arg0).mono ?_
 rintro e V2 ⟨A0,k0,rfl,h0,hb⟩
 have L0:=Lib.hid (lst_n HX.out hb h0)
 obtain ⟨b0,b0'⟩:=slice_bnd h0
 clear h0
 replace HX:=Lib.hid (HX.out.next hb)
 clear hb
 have hc0:=HX.out.cell HO.out.1
 rw [hop] at hc0
 go_wp2_with (with_reducible refine wpList_load_agg rfl 91 _ rfl _ _ _ rfl cs Tryz.underlying91 rfl HX.out.size HX.out.at ?_)
 refine (grown_any cs a _ HX.out.arg (.inr hop)).mono ?_
 rintro e w9 ⟨A9,k9,x9,ll,rfl,hx,hb,hl,hp⟩
 have HC:=Lib.hid (And.intro (HX.out.trans hb) (And.intro hl (And.intro hx hp)))
 clear hx hb hl hp
 go_wp2
 go_ret2
 exact ⟨A9,k9,x9,ll,rfl,HC.out.2.2.1,HC.out.1,HC.out.2.1,HC.out.2.2.2⟩
set_option maxRecDepth 100000 in
set_option maxHeartbeats 8000000 in
theorem moved_56 (cs:List Value) (a:AskD) (w:World) (hr:rep w (old w.heap.size) cs a) (hok:a.Ok) (hop:a.op = 56) :
  Calls Tryz.prog 74 #[.agg cs.toArray] w (ShP w P1):=by
 have HO:=Lib.hid (And.intro (ask_op hr).1 hok)
 go_enter Tryz.func74,Tryz.ntmps74
 go_wp2_with (with_reducible refine wpList_box_row rfl 91 _ rfl cs rfl ?_;have hX:=ask_start hr;generalize World.alloc _ _ = W0 at hX ⊢;have HX:=Lib.hid hX;clear hX hr;refine halt ?_)
 unfold Halt
 go_wp2_with (with_reducible refine wpList_load_agg rfl 91 _ rfl _ _ _ rfl cs Tryz.underlying91 rfl HX.out.size HX.out.at ?_)
 refine (askDims' cs a 0 w.heap.size _ HX.out.below.size HX.out.arg0).mono ?_
 rintro e V2 ⟨A0,k0,rfl,h0,hb⟩
 have L0:=Lib.hid (lst_n HX.out hb h0)
 obtain ⟨b0,b0'⟩:=slice_bnd h0
 clear h0
 replace HX:=Lib.hid (HX.out.next hb)
 clear hb
 have hc0:=HX.out.cell HO.out.1
 rw [hop] at hc0
 go_wp2_with (with_reducible refine wpList_load_agg rfl 91 _ rfl _ _ _ rfl cs Tryz.underlying91 rfl HX.out.size HX.out.at ?_)
 refine (squeezed_56 cs a _ HX.out.arg hop).mono ?_
 rintro e w9 ⟨A9,k9,x9,ll,rfl,hx,hb,hl,hp⟩
 have HC:=Lib.hid (And.intro (HX.out.trans hb) (And.intro hl (And.intro hx hp)))
 clear hx hb hl hp
 go_wp2
 go_ret2
 exact ⟨A9,k9,x9,ll,rfl,HC.out.2.2.1,HC.out.1,HC.out.2.1,HC.out.2.2.2⟩
set_option maxRecDepth 100000 in
set_option maxHeartbeats 8000000 in
theorem moved_57 (cs:List Value) (a:AskD) (w:World) (hr:rep w (old w.heap.size) cs a) (hok:a.Ok) (hop:a.op = 57) :
  Calls Tryz.prog 74 #[.agg cs.toArray] w (ShP w P1):=by
 have HO:=Lib.hid (And.intro (ask_op hr).1 hok)
 go_enter Tryz.func74,Tryz.ntmps74
 go_wp2_with (with_reducible refine wpList_box_row rfl 91 _ rfl cs rfl ?_;have hX:=ask_start hr;generalize World.alloc _ _ = W0 at hX ⊢;have HX:=Lib.hid hX;clear hX hr;refine halt ?_)
 unfold Halt
 go_wp2_with (with_reducible refine wpList_load_agg rfl 91 _ rfl _ _ _ rfl cs Tryz.underlying91 rfl HX.out.size HX.out.at ?_)
 refine (askDims' cs a 0 w.heap.size _ HX.out.below.size HX.out.arg0).mono ?_
 rintro e V2 ⟨A0,k0,rfl,h0,hb⟩
 have L0:=Lib.hid (lst_n HX.out hb h0)
 obtain ⟨b0,b0'⟩:=slice_bnd h0
 clear h0
 replace HX:=Lib.hid (HX.out.next hb)
 clear hb
 have hc0:=HX.out.cell HO.out.1
 rw [hop] at hc0
 go_wp2_with (with_reducible refine wpList_load_agg rfl 91 _ rfl _ _ _ rfl cs Tryz.underlying91 rfl HX.out.size HX.out.at ?_)
 refine (squeezed_57 cs a _ HX.out.arg hop).mono ?_
 rintro e w9 ⟨A9,k9,x9,ll,rfl,hx,hb,hl,hp⟩
 have HC:=Lib.hid (And.intro (HX.out.trans hb) (And.intro hl (And.intro hx hp)))
 clear hx hb hl hp
 go_wp2
 go_ret2
 exact ⟨A9,k9,x9,ll,rfl,HC.out.2.2.1,HC.out.1,HC.out.2.1,HC.out.2.2.2⟩
set_option maxRecDepth 100000 in
set_option maxHeartbeats 8000000 in
theorem moved_58 (cs:List Value) (a:AskD) (w:World) (hr:rep w (old w.heap.size) cs a) (hok:a.Ok) (hop:a.op = 58) :
  Calls Tryz.prog 74 #[.agg cs.toArray] w (ShP w P1):=by
 have HO:=Lib.hid (And.intro (ask_op hr).1 hok)
 go_enter Tryz.func74,Tryz.ntmps74
 go_wp2_with (with_reducible refine wpList_box_row rfl 91 _ rfl cs rfl ?_;have hX:=ask_start hr;generalize World.alloc _ _ = W0 at hX ⊢;have HX:=Lib.hid hX;clear hX hr;refine halt ?_)
 unfold Halt
 go_wp2_with (with_reducible refine wpList_load_agg rfl 91 _ rfl _ _ _ rfl cs Tryz.underlying91 rfl HX.out.size HX.out.at ?_)
 refine (askDims' cs a 0 w.heap.size _ HX.out.below.size HX.out.arg0).mono ?_
 rintro e V2 ⟨A0,k0,rfl,h0,hb⟩
 have L0:=Lib.hid (lst_n HX.out hb h0)
 obtain ⟨b0,b0'⟩:=slice_bnd h0
 clear h0
 replace HX:=Lib.hid (HX.out.next hb)
 clear hb
 have hc0:=HX.out.cell HO.out.1
 rw [hop] at hc0
 go_wp2_with (with_reducible refine wpList_load_agg rfl 91 _ rfl _ _ _ rfl cs Tryz.underlying91 rfl HX.out.size HX.out.at ?_)
 refine (counted_any cs a _ HX.out.arg (by omega) HO.out.2.flat HO.out.2.block).mono ?_
 rintro e w9 ⟨A9,k9,x9,ll,rfl,hx,hb,hl,hp⟩
 have HC:=Lib.hid (And.intro (HX.out.trans hb) (And.intro hl (And.intro hx hp)))
 clear hx hb hl hp
 go_wp2
 go_ret2
 exact ⟨A9,k9,x9,ll,rfl,HC.out.2.2.1,HC.out.1,HC.out.2.1,HC.out.2.2.2⟩
set_option maxRecDepth 100000 in
set_option maxHeartbeats 8000000 in
theorem moved_59 (cs:List Value) (a:AskD) (w:World) (hr:rep w (old w.heap.size) cs a) (hok:a.Ok) (hop:a.op = 59) :
  Calls Tryz.prog 74 #[.agg cs.toArray] w (ShP w P1):=by
 have HO:=Lib.hid (And.intro (ask_op hr).1 hok)
 go_enter Tryz.func74,Tryz.ntmps74
 go_wp2_with (with_reducible refine wpList_box_row rfl 91 _ rfl cs rfl ?_;have hX:=ask_start hr;generalize World.alloc _ _ = W0 at hX ⊢;have HX:=Lib.hid hX;clear hX hr;refine halt ?_)
 unfold Halt
 go_wp2_with (with_reducible refine wpList_load_agg rfl 91 _ rfl _ _ _ rfl cs Tryz.underlying91 rfl HX.out.size HX.out.at ?_)
 refine (askDims' cs a 0 w.heap.size _ HX.out.below.size HX.out.arg0).mono ?_
 rintro e V2 ⟨A0,k0,rfl,h0,hb⟩
 have L0:=Lib.hid (lst_n HX.out hb h0)
 obtain ⟨b0,b0'⟩:=slice_bnd h0
 clear h0
 replace HX:=Lib.hid (HX.out.next hb)
 clear hb
 have hc0:=HX.out.cell HO.out.1
 rw [hop] at hc0
 go_wp2_with (with_reducible refine wpList_load_agg rfl 91 _ rfl _ _ _ rfl cs Tryz.underlying91 rfl HX.out.size HX.out.at ?_)
 refine (counted_any cs a _ HX.out.arg (by omega) HO.out.2.flat HO.out.2.block).mono ?_
 rintro e w9 ⟨A9,k9,x9,ll,rfl,hx,hb,hl,hp⟩
 have HC:=Lib.hid (And.intro (HX.out.trans hb) (And.intro hl (And.intro hx hp)))
 clear hx hb hl hp
 go_wp2
 go_ret2
 exact ⟨A9,k9,x9,ll,rfl,HC.out.2.2.1,HC.out.1,HC.out.2.1,HC.out.2.2.2⟩
set_option maxRecDepth 100000 in
set_option maxHeartbeats 8000000 in
theorem moved_60 (cs:List Value) (a:AskD) (w:World) (hr:rep w (old w.heap.size) cs a) (hok:a.Ok) (hop:a.op = 60) :
  Calls Tryz.prog 74 #[.agg cs.toArray] w (ShP w P1):=by
 have HO:=Lib.hid (And.intro (ask_op hr).1 hok)
 go_enter Tryz.func74,Tryz.ntmps74
 go_wp2_with (with_reducible refine wpList_box_row rfl 91 _ rfl cs rfl ?_;have hX:=ask_start hr;generalize World.alloc _ _ = W0 at hX ⊢;have HX:=Lib.hid hX;clear hX hr;refine halt ?_)
 unfold Halt
 go_wp2_with (with_reducible refine wpList_load_agg rfl 91 _ rfl _ _ _ rfl cs Tryz.underlying91 rfl HX.out.size HX.out.at ?_)
 refine (askDims' cs a 0 w.heap.size _ HX.out.below.size HX.out.arg0).mono ?_
 rintro e V2 ⟨A0,k0,rfl,h0,hb⟩
 have L0:=Lib.hid (lst_n HX.out hb h0)
 obtain ⟨b0,b0'⟩:=slice_bnd h0
 clear h0
 replace HX:=Lib.hid (HX.out.next hb)
 clear hb
 have hc0:=HX.out.cell HO.out.1
 rw [hop] at hc0
 go_wp2_with (with_reducible refine wpList_load_agg rfl 91 _ rfl _ _ _ rfl cs Tryz.underlying91 rfl HX.out.size HX.out.at ?_)
 refine (counted_any cs a _ HX.out.arg (by omega) HO.out.2.flat HO.out.2.block).mono ?_
 rintro e w9 ⟨A9,k9,x9,ll,rfl,hx,hb,hl,hp⟩
 have HC:=Lib.hid (And.intro (HX.out.trans hb) (And.intro hl (And.intro hx hp)))
 clear hx hb hl hp
 go_wp2
 go_ret2
 exact ⟨A9,k9,x9,ll,rfl,HC.out.2.2.1,HC.out.1,HC.out.2.1,HC.out.2.2.2⟩
set_option maxRecDepth 100000 in
set_option maxHeartbeats 8000000 in
theorem moved_62 (cs:List Value) (a:AskD) (w:World) (hr:rep w (old w.heap.size) cs a) (hok:a.Ok) (hop:a.op = 62) :
  Calls Tryz.prog 74 #[.agg cs.toArray] w (ShP w P1):=by
 have HO:=Lib.hid (And.intro (ask_op hr).1 hok)
 go_enter Tryz.func74,Tryz.ntmps74
 go_wp2_with (with_reducible refine wpList_box_row rfl 91 _ rfl cs rfl ?_;have hX:=ask_start hr;generalize World.alloc _ _ = W0 at hX ⊢;have HX:=Lib.hid hX;clear hX hr;refine halt ?_)
 unfold Halt
 go_wp2_with (with_reducible refine wpList_load_agg rfl 91 _ rfl _ _ _ rfl cs Tryz.underlying91 rfl HX.out.size HX.out.at ?_)
 refine (askDims' cs a 0 w.heap.size _ HX.out.below.size HX.out.arg0).mono ?_
 rintro e V2 ⟨A0,k0,rfl,h0,hb⟩
 have L0:=Lib.hid (lst_n HX.out hb h0)
 obtain ⟨b0,b0'⟩:=slice_bnd h0
 clear h0
 replace HX:=Lib.hid (HX.out.next hb)
 clear hb
 have hc0:=HX.out.cell HO.out.1
 rw [hop] at hc0
 go_wp2_with (with_reducible refine wpList_load_agg rfl 91 _ rfl _ _ _ rfl cs Tryz.underlying91 rfl HX.out.size HX.out.at ?_)
 refine (counted_any cs a _ HX.out.arg (by omega) HO.out.2.flat HO.out.2.block).mono ?_
 rintro e w9 ⟨A9,k9,x9,ll,rfl,hx,hb,hl,hp⟩
 have HC:=Lib.hid (And.intro (HX.out.trans hb) (And.intro hl (And.intro hx hp)))
 clear hx hb hl hp
 go_wp2
 go_ret2
 exact ⟨A9,k9,x9,ll,rfl,HC.out.2.2.1,HC.out.1,HC.out.2.1,HC.out.2.2.2⟩
set_option maxRecDepth 100000 in
set_option maxHeartbeats 8000000 in
theorem moved_63 (cs:List Value) (a:AskD) (w:World) (hr:rep w (old w.heap.size) cs a) (hok:a.Ok) (hop:a.op = 63) :
  Calls Tryz.prog 74 #[.agg cs.toArray] w (ShP w P1):=by
 have HO:=Lib.hid (And.intro (ask_op hr).1 hok)
 go_enter Tryz.func74,Tryz.ntmps74
 go_wp2_with (with_reducible refine wpList_box_row rfl 91 _ rfl cs rfl ?_;have hX:=ask_start hr;generalize World.alloc _ _ = W0 at hX ⊢;have HX:=Lib.hid hX;clear hX hr;refine halt ?_)
 unfold Halt
 go_wp2_with (with_reducible refine wpList_load_agg rfl 91 _ rfl _ _ _ rfl cs Tryz.underlying91 rfl HX.out.size HX.out.at ?_)
 refine (askDims' cs a 0 w.heap.size _ HX.out.below.size HX.out.arg0).mono ?_
 rintro e V2 ⟨A0,k0,rfl,h0,hb⟩
 have L0:=Lib.hid (lst_n HX.out hb h0)
 obtain ⟨b0,b0'⟩:=slice_bnd h0
 clear h0
 replace HX:=Lib.hid (HX.out.next hb)
 clear hb
 have hc0:=HX.out.cell HO.out.1
 rw [hop] at hc0
 go_wp2_with (with_reducible refine wpList_load_agg rfl 91 _ rfl _ _ _ rfl cs Tryz.underlying91 rfl HX.out.size HX.out.at ?_)
 refine (counted_any cs a _ HX.out.arg (by omega) HO.out.2.flat HO.out.2.block).mono ?_
 rintro e w9 ⟨A9,k9,x9,ll,rfl,hx,hb,hl,hp⟩
 have HC:=Lib.hid (And.intro (HX.out.trans hb) (And.intro hl (And.intro hx hp)))
 clear hx hb hl hp
 go_wp2
 go_ret2
 exact ⟨A9,k9,x9,ll,rfl,HC.out.2.2.1,HC.out.1,HC.out.2.1,HC.out.2.2.2⟩
set_option maxRecDepth 100000 in
set_option maxHeartbeats 8000000 in
theorem moved_64 (cs:List Value) (a:AskD) (w:World) (hr:rep w (old w.heap.size) cs a) (hok:a.Ok) (hop:a.op = 64) :
  Calls Tryz.prog 74 #[.agg cs.toArray] w (ShP w P1):=by
 have HO:=Lib.hid (And.intro (ask_op hr).1 hok)
 go_enter Tryz.func74,Tryz.ntmps74
 go_wp2_with (with_reducible refine wpList_box_row rfl 91 _ rfl cs rfl ?_;have hX:=ask_start hr;generalize World.alloc _ _ = W0 at hX ⊢;have HX:=Lib.hid hX;clear hX hr;refine halt ?_)
 unfold Halt
 go_wp2_with (with_reducible refine wpList_load_agg rfl 91 _ rfl _ _ _ rfl cs Tryz.underlying91 rfl HX.out.size HX.out.at ?_)
 refine (askDims' cs a 0 w.heap.size _ HX.out.below.size HX.out.arg0).mono ?_
 rintro e V2 ⟨A0,k0,rfl,h0,hb⟩
 have L0:=Lib.hid (lst_n HX.out hb h0)
 obtain ⟨b0,b0'⟩:=slice_bnd h0
 clear h0
 replace HX:=Lib.hid (HX.out.next hb)
 clear hb
 have hc0:=HX.out.cell HO.out.1
 rw [hop] at hc0
 go_wp2_with (with_reducible refine wpList_load_agg rfl 91 _ rfl _ _ _ rfl cs Tryz.underlying91 rfl HX.out.size HX.out.at ?_)
 refine (counted_any cs a _ HX.out.arg (by omega) HO.out.2.flat HO.out.2.block).mono ?_
 rintro e w9 ⟨A9,k9,x9,ll,rfl,hx,hb,hl,hp⟩
 have HC:=Lib.hid (And.intro (HX.out.trans hb) (And.intro hl (And.intro hx hp)))
 clear hx hb hl hp
 go_wp2
 go_ret2
 exact ⟨A9,k9,x9,ll,rfl,HC.out.2.2.1,HC.out.1,HC.out.2.1,HC.out.2.2.2⟩
set_option maxRecDepth 100000 in
set_option maxHeartbeats 8000000 in
theorem moved_51 (cs:List Value) (a:AskD) (w:World) (hr:rep w (old w.heap.size) cs a) (hok:a.Ok) (hop:a.op = 51) :
  Calls Tryz.prog 74 #[.agg cs.toArray] w (ShP w P1):=by
 have HO:=Lib.hid (And.intro (ask_op hr).1 hok)
 go_enter Tryz.func74,Tryz.ntmps74
 go_wp2_with (with_reducible refine wpList_box_row rfl 91 _ rfl cs rfl ?_;have hX:=ask_start hr;generalize World.alloc _ _ = W0 at hX ⊢;have HX:=Lib.hid hX;clear hX hr;refine halt ?_)
 unfold Halt
 go_wp2_with (with_reducible refine wpList_load_agg rfl 91 _ rfl _ _ _ rfl cs Tryz.underlying91 rfl HX.out.size HX.out.at ?_)
 refine (askDims' cs a 0 w.heap.size _ HX.out.below.size HX.out.arg0).mono ?_
 rintro e V2 ⟨A0,k0,rfl,h0,hb⟩
 have L0:=Lib.hid (lst_n HX.out hb h0)
 obtain ⟨b0,b0'⟩:=slice_bnd h0
 clear h0
 replace HX:=Lib.hid (HX.out.next hb)
 clear hb
 have hc0:=HX.out.cell HO.out.1
 rw [hop] at hc0
 clear b0 b0'
 go_wp2_with fail
 refine wp_region_held_drew (S:=fun W=>AskI w cs a W∧Below V2.heap.size V2 W) (by kernel_rfl) ⟨HX.out.next ((Below.refl _ _).drew),(Below.refl _ _).drew⟩ (fun hHeld=>?_)
 generalize World.drew _ = V3 at hHeld ⊢
 have hb:=hHeld.2
 replace L0:=Lib.hid (L0.out.next hb)
 clear hb
 refine tk9 0 (some 87) (v:=.agg cs.toArray) rfl (yields_ask (by kernel_rfl) _ rfl (by kernel_rfl) (fun _ h=>h.1)) hHeld ?_
 refine tk9 1 (some 88) (v:=.agg cs.toArray) rfl (yields_ask (by kernel_rfl) _ rfl (by kernel_rfl) (fun _ h=>h.1)) hHeld ?_
 refine call_d9 2 (some 89) rfl (by kernel_rfl) (by kernel_rfl) (by kernel_rfl) 70 _ _ rfl #[.agg cs.toArray,.int .i64 1] (by kernel_rfl) (fun w=>by kernel_rfl) ?_
 refine (askDims' cs a 1 w.heap.size _ hHeld.1.below.size hHeld.1.arg0).mono ?_
 rintro e V4 ⟨A1,k1,rfl,h1,hb⟩
 replace L0:=Lib.hid (L0.out.next hb)
 have L1:=Lib.hid (lst_n hHeld.1 hb h1)
 obtain ⟨b1,b1'⟩:=slice_bnd h1
 clear h1
 replace hHeld:=held_next hHeld hb
 refine ⟨_,rfl,hHeld,?_⟩
 clear hb
 refine call_d9 3 (some 90) rfl (by kernel_rfl) (by kernel_rfl) (by kernel_rfl) 107 _ _ rfl #[.agg cs.toArray,.slice A1 (a.dims 1).length k1] (by kernel_rfl) (fun w=>by kernel_rfl) ?_
 refine (picked_any cs a (a.dims 1) A1 k1 _ hHeld.1.arg L1.out.lst).mono ?_
 rintro e V5 ⟨A9,k9,x9,ll,rfl,hx,hb,hl,hp⟩
 have HC:=Lib.hid (And.intro hl (And.intro hx hp))
 clear hx hl hp
 replace hHeld:=held_next hHeld hb
 refine ⟨_,rfl,hHeld,?_⟩
 clear hb
 refine tk0 4 (some 91) (v:=.slice A9 ll.length k9) rfl hHeld ?_
 refine tk0 5 (some 92) (v:=.int .i64 x9) rfl hHeld ?_
 refine tk0 6 (some 2) (v:=.slice A9 ll.length k9) rfl hHeld ?_
 refine tk0 7 (some 3) (v:=.int .i64 x9) rfl hHeld ?_
 refine wpAnyH_done (by kernel_rfl) ?_ _
 replace HX:=Lib.hid hHeld.1
 clear hHeld
 simp [Act.put]
 go_wp2
 go_ret2
 exact ⟨A9,k9,x9,ll,by kernel_rfl,HC.out.2.1,HX.out.below,HC.out.1,HC.out.2.2⟩
set_option maxRecDepth 100000 in
set_option maxHeartbeats 8000000 in
theorem moved_52 (cs:List Value) (a:AskD) (w:World) (hr:rep w (old w.heap.size) cs a) (hok:a.Ok) (hop:a.op = 52) :
  Calls Tryz.prog 74 #[.agg cs.toArray] w (ShP w P1):=by
 have HO:=Lib.hid (And.intro (ask_op hr).1 hok)
 go_enter Tryz.func74,Tryz.ntmps74
 go_wp2_with (with_reducible refine wpList_box_row rfl 91 _ rfl cs rfl ?_;have hX:=ask_start hr;generalize World.alloc _ _ = W0 at hX ⊢;have HX:=Lib.hid hX;clear hX hr;refine halt ?_)
 unfold Halt
 go_wp2_with (with_reducible refine wpList_load_agg rfl 91 _ rfl _ _ _ rfl cs Tryz.underlying91 rfl HX.out.size HX.out.at ?_)
 refine (askDims' cs a 0 w.heap.size _ HX.out.below.size HX.out.arg0).mono ?_
 rintro e V2 ⟨A0,k0,rfl,h0,hb⟩
 have L0:=Lib.hid (lst_n HX.out hb h0)
 obtain ⟨b0,b0'⟩:=slice_bnd h0
 clear h0
 replace HX:=Lib.hid (HX.out.next hb)
 clear hb
 have hc0:=HX.out.cell HO.out.1
 rw [hop] at hc0
 go_wp2_with fail
 refine wp_region_held_drew (S:=fun W=>AskI w cs a W∧Below V2.heap.size V2 W) (by kernel_rfl) ⟨HX.out.next ((Below.refl _ _).drew),(Below.refl _ _).drew⟩ (fun hHeld=>?_)
 generalize World.drew _ = V3 at hHeld ⊢
 have hb:=hHeld.2
 replace L0:=Lib.hid (L0.out.next hb)
 clear hb
 refine tk9 0 (some 95) (v:=.agg cs.toArray) rfl (yields_ask (by kernel_rfl) _ rfl (by kernel_rfl) (fun _ h=>h.1)) hHeld ?_
 refine tk9 2 (some 97) (v:=.agg cs.toArray) rfl (yields_ask (by kernel_rfl) _ rfl (by kernel_rfl) (fun _ h=>h.1)) hHeld ?_
 refine call_d9 1 (some 96) rfl (by kernel_rfl) (by kernel_rfl) (by kernel_rfl) 70 _ _ rfl #[.agg cs.toArray,.int .i64 1] (by kernel_rfl) (fun w=>by kernel_rfl) ?_
 refine (askDims' cs a 1 w.heap.size _ hHeld.1.below.size hHeld.1.arg0).mono ?_
 rintro e V4 ⟨A1,k1,rfl,h1,hb⟩
 replace L0:=Lib.hid (L0.out.next hb)
 have L1:=Lib.hid (lst_n hHeld.1 hb h1)
 obtain ⟨b1,b1'⟩:=slice_bnd h1
 clear h1
 replace hHeld:=held_next hHeld hb
 refine ⟨_,rfl,hHeld,?_⟩
 clear hb
 refine call_d9 3 (some 98) rfl (by kernel_rfl) (by kernel_rfl) (by kernel_rfl) 70 _ _ rfl #[.agg cs.toArray,.int .i64 2] (by kernel_rfl) (fun w=>by kernel_rfl) ?_
 refine (askDims' cs a 2 w.heap.size _ hHeld.1.below.size hHeld.1.arg0).mono ?_
 rintro e V5 ⟨A2,k2,rfl,h2,hb⟩
 replace L0:=Lib.hid (L0.out.next hb)
 replace L1:=Lib.hid (L1.out.next hb)
 have L2:=Lib.hid (lst_n hHeld.1 hb h2)
 obtain ⟨b2,b2'⟩:=slice_bnd h2
 clear h2
 replace hHeld:=held_next hHeld hb
 refine ⟨_,rfl,hHeld,?_⟩
 clear hb
 refine call_d9 4 (some 99) rfl (by kernel_rfl) (by kernel_rfl) (by kernel_rfl) 60 _ _ rfl #[.slice A1 (a.dims 1).length k1,.slice A2 (a.dims 2).length k2] (by kernel_rfl) (fun w=>by kernel_rfl) ?_
 refine (equalInts_any (a.dims 1) (a.dims 2) A1 A2 k1 k2 _ L1.out.lst L2.out.lst).mono ?_
 rintro e V99 ⟨rfl,n9,rfl⟩
 have hb:=below_drews (Below.refl V5.heap.size V5) n9
 generalize World.drewN V5 n9 = V6 at hb ⊢
 generalize decide (a.dims 1 = a.dims 2) = t2
 replace L0:=Lib.hid (L0.out.next hb)
 replace L1:=Lib.hid (L1.out.next hb)
 replace L2:=Lib.hid (L2.out.next hb)
 replace hHeld:=held_next hHeld hb
 refine ⟨_,rfl,hHeld,?_⟩
 clear hb
 refine tk0 5 (some 100) (v:=.bool (!t2)) rfl hHeld ?_
 have HH:=Lib.hid hHeld.1
 cases t2 with
 | true =>
  refine wpAnyH_done (by kernel_rfl) ?_ _
  rename_i K0 a0
  change K0 _ _
  refine a0 _ _ (wp_cond_false (by kernel_rfl) ?_)
  replace HX:=HH
  clear hHeld
  simp [Act.put]
  go_wp2_with (with_reducible refine wpList_load_agg rfl 91 _ rfl _ _ _ rfl cs Tryz.underlying91 rfl HX.out.size HX.out.at ?_)
  refine (picked_any cs a (a.dims 0) A0 k0 _ HX.out.arg L0.out.lst).mono ?_
  rintro e w9 ⟨A9,k9,x9,ll,rfl,hx,hb,hl,hp⟩
  have HC:=Lib.hid (And.intro (HX.out.trans hb) (And.intro hl (And.intro hx hp)))
  clear hx hb hl hp
  go_wp2
  go_ret2
  exact ⟨A9,k9,x9,ll,rfl,HC.out.2.2.1,HC.out.1,HC.out.2.1,HC.out.2.2.2⟩
 | false =>
  refine wpAnyH_done (by kernel_rfl) ?_ _
  rename_i K0 a0
  change K0 _ _
  refine a0 _ _ (wp_cond_true (by kernel_rfl) ?_)
  replace HX:=HH
  clear hHeld
  simp [Act.put]
  go_wp2_with fail
  refine (misfit_any _).mono ?_
  rintro e w9 ⟨rfl,rfl⟩
  go_wp2
  go_ret2
  exact sh_misfit HX.out.below
end Go.Proofs.YtilobeohkomeoaaGreat
