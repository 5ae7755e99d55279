/-
  Chapter 21: the law ArenaPacks: its walk. No condition.
-/
import Derived.Test.YtoeaglpmkjoenaaGreatQPlrC
set_option linter.unusedSimpArgs false
set_option linter.unusedVariables false
namespace Go.Proofs.YtoeaglpmkjoenaaGreat
open Go.RowKit
open Rep (rep)
def Yes21P (w:World) (e:Ending) (w':World):Prop:=e = .returned (.bool true)∧Below w.heap.size w w'
set_option maxRecDepth 100000 in
set_option maxHeartbeats 8000000 in
theorem packs21_any (cs:List Value) (p:PlanD) (most:Int) (w:World) (hr:rep w (old w.heap.size) cs p) (hs:PlanB p) :
  Calls Tryz.prog 3 #[.agg cs.toArray,.int .i64 most] w (Yes21P w):=by
 have HR:=Lib.hid (And.intro hr hs)
 clear hr hs
 go_enter Tryz.func3,Tryz.ntmps3
 go_wp2_with (with_reducible refine wpList_box_row rfl 30 _ rfl cs rfl ?_;have hX:=plan_start HR.out.1;generalize World.alloc _ _ = W0 at hX ⊢;have HX:=Lib.hid hX;clear hX;refine halt ?_)
 unfold Halt
 go_wp2_with fail
 refine (awake21_any W0).mono ?_
 rintro e w1 ⟨rfl,hb⟩
 replace HX:=Lib.hid (HX.out.next hb)
 clear hb
 go_wp2_with (with_reducible refine wpList_load_agg_w (by with_unfolding_all rfl) 30 _ rfl _ w.heap.size 0 rfl cs Tryz.underlying30 rfl HX.out.size HX.out.at ?_)
 refine (arenaPack_any cs p most w1 HX.out.arg HR.out.2).mono ?_
 rintro e w2 ⟨hb2,hp2⟩
 have HX2:=Lib.hid (HX.out.next hb2)
 have HREF:=Lib.hid (fun W (hW:rep W (old W.heap.size) cs p)=>refPack_any cs p most W hW HR.out.2)
 clear hb2 HX
 rcases hp2 with ⟨h,rfl⟩ | ⟨hok,h,rfl⟩ | ⟨hok,h,ab,rfl,-,hrow,hI⟩
 ·have HN:=Lib.hid h
  clear h
  go_wp2_with (with_reducible refine wpList_load_agg_w (by with_unfolding_all rfl) 30 _ rfl _ w.heap.size 0 rfl cs Tryz.underlying30 rfl HX2.out.size HX2.out.at ?_)
  refine (HREF.out w2 HX2.out.arg).mono ?_
  rintro e w3 ⟨hb3,hp3⟩
  have he:e = .returned (.tuple #[.slice none 0 0,.int .i64 0,.int .i64 1]):=by
   rcases hp3 with ⟨-,h⟩ | ⟨h,-⟩ | ⟨h,-⟩
   ·exact h
   ·exact (HN.out h).elim
   ·exact (HN.out h).elim
  subst he
  have HX3:=Lib.hid (HX2.out.next hb3)
  clear hp3 hb3
  go_wp2_with fail
  refine (sameInts4_any _ _ [] w3 (rep_nil _ _) (rep_nil _ _)).mono ?_
  rintro e w4 ⟨rfl,q,rfl⟩
  have hbd:=below_drewN (Below.refl w3.heap.size w3) q
  have HX4:=Lib.hid (HX3.out.next hbd)
  clear hbd
  generalize World.drewN _ q = w4 at HX4 ⊢
  go_wp2
  go_ret
  exact ⟨rfl,HX4.out.below⟩
 ·have HN:=Lib.hid (And.intro hok h)
  clear h hok
  go_wp2_with (with_reducible refine wpList_load_agg_w (by with_unfolding_all rfl) 30 _ rfl _ w.heap.size 0 rfl cs Tryz.underlying30 rfl HX2.out.size HX2.out.at ?_)
  refine (HREF.out w2 HX2.out.arg).mono ?_
  rintro e w3 ⟨hb3,hp3⟩
  have he:e = .returned (.tuple #[.slice none 0 0,.int .i64 0,.int .i64 9]):=by
   rcases hp3 with ⟨h,-⟩ | ⟨-,-,h⟩ | ⟨-,h,-⟩
   ·exact (h HN.out.1).elim
   ·exact h
   ·exact (h HN.out.2).elim
  subst he
  have HX3:=Lib.hid (HX2.out.next hb3)
  clear hp3 hb3
  go_wp2_with fail
  refine (sameInts4_any _ _ [] w3 (rep_nil _ _) (rep_nil _ _)).mono ?_
  rintro e w4 ⟨rfl,q,rfl⟩
  have hbd:=below_drewN (Below.refl w3.heap.size w3) q
  have HX4:=Lib.hid (HX3.out.next hbd)
  clear hbd
  generalize World.drewN _ q = w4 at HX4 ⊢
  go_wp2
  go_ret
  exact ⟨rfl,HX4.out.below⟩
 ·have HN:=Lib.hid (And.intro hok (And.intro h (And.intro hrow hI)))
  have hn4:=hok.1
  obtain ⟨n,hn⟩:∃ n,p.size.length = n:=⟨_,rfl⟩
  obtain ⟨sz,hsz⟩:∃ s,(packAll p).2 = s:=⟨_,rfl⟩
  obtain ⟨at_,hat⟩:∃ s,(packAll p).1 = s:=⟨_,rfl⟩
  have HS:=Lib.hid (And.intro hn (And.intro hsz hat))
  rw [hn] at hn4
  rw [hn,hsz]
  have HL:Hid (at_.length = n∧∀ x ∈ at_,I64 x):=Lib.hid ⟨by rw [← hat,hI.len,hn],by rw [← hat];exact pack_i64 hok hI (by rw [ordN_len,ordI_len];exact Nat.le_trans (liveV_len p _) hok.1)⟩
  clear h hok hrow hI hn hsz hat
  go_wp2_with (with_reducible refine wpList_load_agg_w (by with_unfolding_all rfl) 30 _ rfl _ w.heap.size 0 rfl cs Tryz.underlying30 rfl HX2.out.size HX2.out.at ?_)
  refine (HREF.out w2 HX2.out.arg).mono ?_
  rintro e w3 ⟨hb3,hp3⟩
  have he:∃ ab2,e = .returned (.tuple #[.slice (some ⟨ab2,0,none⟩) n n,.int .i64 sz,.int .i64 0])∧w3.heap[ab2]? = some (.cells (at_.map (Value.int .i64)).toArray 3 (0,0)):=by
   rw [HS.out.1,HS.out.2.1,HS.out.2.2] at hp3
   rcases hp3 with ⟨h,-⟩ | ⟨-,h,-⟩ | ⟨-,-,ab2,h,-,h2,-⟩
   ·exact (h HN.out.1).elim
   ·have h9:=HN.out.2.1
    rw [HS.out.2.1] at h9
    omega
   ·exact ⟨ab2,h,h2⟩
  obtain ⟨ab2,rfl,hrow2⟩:=he
  have HX3:=Lib.hid (HX2.out.next hb3)
  have HW1:Hid (w3.heap[ab]? = some (.cells (at_.map (Value.int .i64)).toArray 3 (0,0))):=Lib.hid (by
   have h:=HN.out.2.2.1
   rw [HS.out.2.2] at h
   exact (hb3.block ab (Array.getElem?_eq_some_iff.1 h).1).trans h)
  have HW2:=Lib.hid hrow2
  clear hp3 hb3 hrow2
  go_wp2_with fail
  refine (sameInts4_any _ _ at_ w3 (own_arr HW1.out HL.out.1 HL.out.2 hn4) (own_arr HW2.out HL.out.1 HL.out.2 hn4)).mono ?_
  rintro e w4 ⟨rfl,q,rfl⟩
  have hbd:=below_drewN (Below.refl w3.heap.size w3) q
  have HX4:=Lib.hid (HX3.out.next hbd)
  clear hbd
  generalize World.drewN _ q = w4 at HX4 ⊢
  go_wp2
  go_ret
  exact ⟨rfl,HX4.out.below⟩
end Go.Proofs.YtoeaglpmkjoenaaGreat
