/-
  Chapter 10: Flatten, Shape, Size, ConstantOfShape, DepthToSpace, SpaceToDepth. No condition.
-/
import Derived.Test.YtilobeohkomeoaaGreatQSpan
set_option linter.unusedSimpArgs false
set_option linter.unusedVariables false
namespace Go.Proofs.YtilobeohkomeoaaGreat
open Go.RowKit
open Rep (rep)
theorem rep_pre {Z:Zone} {k:Nat} {W:World} {A:Option Addr} {l:List Int} (h:rep W Z [.slice A l.length k] l) {j:Nat} (hj:j ≤ l.length):rep W Z [.slice A (l.take j).length k] (l.take j):=by
 obtain ⟨A',q,c',xs,h1,h2,h3,h4,h5,h6,h7⟩:=h
 simp only [List.cons.injEq,Value.slice.injEq,and_true] at h1
 obtain ⟨rfl,rfl,rfl⟩:=h1
 have e:=chunks_ints h7
 subst e
 have hl:(l.take j).length = j:=by rw [List.length_take];omega
 refine ⟨A,j,k,(l.take j).map (Value.int .i64),by rw [hl],hl.symm ▸ rfl,by omega,h4,?_,?_,?_⟩
 ·exact Nat.le_trans (Nat.mul_le_mul_right _ hj) h5
 ·intro hn
  obtain ⟨b',o',e,hb,hcell⟩:=h6 (by intro e;have:=congrArg List.length e;simp at this;rw [this] at hn;simp at hn)
  refine ⟨b',o',e,hb,fun m u hu=>hcell m u ?_⟩
  rw [List.getElem?_map] at hu ⊢
  rw [List.getElem?_take] at hu
  split at hu
  ·exact hu
  ·simp at hu
 ·refine chunks_of_ints _ fun x hx=>?_
  obtain ⟨q,hq⟩:=List.mem_iff_getElem?.1 (List.mem_of_mem_take hx)
  exact (int_at (Z:=Z) (W:=W) ⟨_,_,_,_,rfl,rfl,h3,h4,h5,h6,h7⟩ hq).1
theorem rep_post {Z:Zone} {k:Nat} {W:World} {A:Option Addr} {l:List Int} (h:rep W Z [.slice A l.length k] l) {j:Nat} (hj:j ≤ l.length):rep W Z [.slice (A.map (fun x=>x.add j)) (l.drop j).length (k - j)] (l.drop j):=by
 obtain ⟨A',q,c',xs,h1,h2,h3,h4,h5,h6,h7⟩:=h
 simp only [List.cons.injEq,Value.slice.injEq,and_true] at h1
 obtain ⟨rfl,rfl,rfl⟩:=h1
 have e:=chunks_ints h7
 subst e
 have hl:(l.drop j).length = l.length - j:=List.length_drop
 refine ⟨A.map (fun x=>x.add j),l.length - j,k - j,(l.drop j).map (Value.int .i64),by rw [hl],hl.symm ▸ rfl,by omega,by omega,?_,?_,?_⟩
 ·exact Nat.le_trans (Nat.mul_le_mul_right _ (by omega)) h5
 ·intro hn
  obtain ⟨b',o',e,hb,hcell⟩:=h6 (by intro e;have:=congrArg List.length e;simp at this;rw [this] at hn;simp at hn)
  rw [e]
  refine ⟨b',o' + j,by simp [Addr.add],hb,fun m u hu=>?_⟩
  rw [Nat.add_assoc]
  refine hcell (j + m) u ?_
  rw [List.getElem?_map] at hu ⊢
  rwa [List.getElem?_drop] at hu
 ·refine chunks_of_ints _ fun x hx=>?_
  obtain ⟨q,hq⟩:=List.mem_iff_getElem?.1 (List.mem_of_mem_drop hx)
  exact (int_at (Z:=Z) (W:=W) ⟨_,_,_,_,rfl,rfl,h3,h4,h5,h6,h7⟩ hq).1
theorem LstN.at {n k b o:Nat} {W:World} {l:List Int} (h:LstN n W (some ⟨b,o,none⟩) k l) {j:Nat} {z:Int} (hz:l[j]? = some z):I64 z∧b < n∧W.cell? ⟨b,o + j,none⟩ = some (.int .i64 z):=by
 obtain ⟨h1,b',o',e,h2⟩:=h.get hz
 injection e with e
 injection e with e1 e2
 subst e1 e2
 exact ⟨h1,h2⟩
theorem AskI.back {w W:World} {cs:List Value} {a:AskD} {k:Nat} {A:Option Addr} {l:List Int} (hX:AskI w cs a W) (h:LstN w.heap.size W A k l):LstN w.heap.size w A k l :=
 ⟨Nat.le_refl _,Rep.keep h.dat (Keeps.of_block fun k hk=>(hX.below.block k hk).symm)⟩
theorem AskI.elem {w W:World} {cs:List Value} {a:AskD} {k b o:Nat} {l:List Int} (hX:AskI w cs a W) (h:LstN w.heap.size w (some ⟨b,o,none⟩) k l) {j:Nat} {z:Int} (hz:l[j]? = some z):W.cell? ⟨b,o + j,none⟩ = some (.int .i64 z):=by
 obtain ⟨-,hb,hc⟩:=h.at hz
 exact (hX.below.cell (p:=⟨b,o + j,none⟩) hb).trans hc
theorem lst_new (W:World) (l:List Int) (t:TypeId) (hi:∀ x ∈ l,I64 x) (hl:l.length ≤ 1000):Lst (W.alloc (.cells (l.map (Value.int .i64)).toArray t)) (some ⟨W.heap.size,0,none⟩) l.length l:=by
 refine ⟨_,_,_,l.map (Value.int .i64),rfl,rfl,Nat.le_refl _,by unfold maxLen;omega,by show l.length * 8 ≤ reach;unfold reach;omega,fun _=>⟨W.heap.size,0,rfl,by show W.heap.size < _;rw [World.size_alloc];omega,fun j u hu=>⟨?_,fun e=>by cases e⟩⟩,chunks_of_ints _ hi⟩
 rw [cell_of_row _ _ _ _ _ _ (heap_alloc_new _ _)]
 simpa using hu
theorem four {d:List Int} (h:d.length = 4):∃ d0 d1 d2 d3,d = [d0,d1,d2,d3]:=by
 match d,h with
 | [x,y,z,u],_=>exact ⟨x,y,z,u,rfl⟩
theorem sq_bd {b:Int} (h1:1 ≤ b) (h2:b ≤ 4096):1 ≤ b * b∧b * b ≤ 16777216:=by
 have e1:=Int.mul_le_mul h1 h1 (by omega) (by omega)
 have e2:=Int.mul_le_mul h2 h2 (by omega) (by omega)
 omega
theorem rep_gone {Z:Zone} {k:Nat} {W:World} {A:Option Addr} {l:List Int} (h:l = []) (hk:k ≤ maxLen):rep W Z [.slice A l.length k] l:=by
 subst h
 exact ⟨A,0,k,[],rfl,rfl,Nat.zero_le _,hk,by simp,fun h=>absurd rfl h,rfl⟩
set_option maxRecDepth 100000 in
set_option maxHeartbeats 8000000 in
theorem counted_58 (cs:List Value) (a:AskD) (w:World) (hr:rep w (old w.heap.size) cs a) (hop:a.op = 58) (hf:-((a.dims 0).length:Int) ≤ a.s.axis∧a.s.axis ≤ ((a.dims 0).length:Int)) :
  Calls Tryz.prog 111 #[.agg cs.toArray] w (ShP w P1):=by
 obtain ⟨ss,hs,hc⟩:=ask_set hr
 have HC:=Lib.hid (And.intro (hc 27 _ (fld_int hs.f27).1) (And.intro (hc 0 _ (fld_int hs.f0).1) (And.intro hs hc)))
 have HO:=Lib.hid (ask_op hr).1
 clear hs hc
 go_enter Tryz.func111,Tryz.ntmps111
 go_wp2_with (with_reducible refine wpList_box_row rfl 91 _ rfl cs rfl ?_;have hX:=ask_start hr;generalize World.alloc _ _ = W0 at hX ⊢;have HX:=Lib.hid hX;clear hX hr;refine halt ?_)
 unfold Halt
 go_wp2_with fail
 refine wp_region_held_drew (S:=fun W=>AskI w cs a W∧Below W0.heap.size W0 W) (by kernel_rfl) ⟨HX.out.next ((Below.refl _ _).drew),(Below.refl _ _).drew⟩ (fun hHeld=>?_)
 generalize World.drew _ = V2 at hHeld ⊢
 have hb:=hHeld.2
 clear hb
 refine tk9 0 (some 14) (v:=.agg cs.toArray) rfl (yields_ask (by kernel_rfl) _ rfl (by kernel_rfl) (fun _ h=>h.1)) hHeld ?_
 refine tk0 2 (some 16) (v:=.pointer (some ⟨w.heap.size,1,none⟩)) rfl hHeld ?_
 refine tk0 3 (some 17) (v:=.pointer (some ⟨w.heap.size,28,none⟩)) rfl hHeld ?_
 refine tk9 4 (some 18) (v:=.int .i64 a.s.block) rfl (yields_load_one9 (by kernel_rfl) _ _ rfl (w.heap.size) (28) (by kernel_rfl) _ _ Tryz.underlying3 rfl (fun _ h=>h.1.cell HC.out.1)) hHeld ?_
 refine call_d9 1 (some 15) rfl (by kernel_rfl) (by kernel_rfl) (by kernel_rfl) 70 _ _ rfl #[.agg cs.toArray,.int .i64 0] (by kernel_rfl) (fun w=>by kernel_rfl) ?_
 refine (askDims' cs a 0 w.heap.size _ hHeld.1.below.size hHeld.1.arg0).mono ?_
 rintro e V3 ⟨A0,k0,rfl,h0,hb⟩
 have L0:=Lib.hid (lst_n hHeld.1 hb h0)
 obtain ⟨b0,b0'⟩:=slice_bnd h0
 clear h0
 replace hHeld:=held_next hHeld hb
 refine ⟨_,rfl,hHeld,?_⟩
 clear hb
 refine tk0 5 (some 4) (v:=.slice A0 (a.dims 0).length k0) rfl hHeld ?_
 refine tk0 6 (some 5) (v:=.int .i64 a.s.block) rfl hHeld ?_
 refine wpAnyH_done (by kernel_rfl) ?_ _
 replace HX:=Lib.hid hHeld.1
 clear hHeld
 have hl:=dims_len (i:=0) HX.out
 have hc0:=HX.out.cell HO.out
 rw [hop] at hc0
 clear hop
 generalize a.dims 0 = d at L0 b0 hf hl ⊢
 obtain ⟨x1,x2⟩:=hf
 have hcx:=HX.out.cell HC.out.2.1
 generalize a.s.axis = x at x1 x2 hcx
 obtain ⟨j,hj,hjl⟩:∃ j:Nat,(if x < 0 then x + (d.length:Int) else x) = (j:Int)∧j ≤ d.length:=by
  by_cases hx:x < 0
  ·exact ⟨(x + (d.length:Int)).toNat,by rw [if_pos hx];omega,by omega⟩
  ·exact ⟨x.toNat,by rw [if_neg hx];omega,by omega⟩
 have LJ:=Lib.hid (And.intro (rep_pre L0.out.lst hjl) (rep_post L0.out.lst hjl))
 have HJ:Hid ((d.take j).length = j∧(d.drop j).length = d.length - j):=Lib.hid ⟨by rw [List.length_take];omega,List.length_drop⟩
 by_cases hx:x < 0
 ·rw [if_pos hx] at hj
  have hjj:(x + (d.length:Int)).toNat = j:=by omega
  go_wp2_with fail
  have hq:=size_any (d.take j) A0 k0 _ LJ.out.1
  rw [HJ.out.1] at hq
  refine hq.mono ?_
  clear hq
  rintro e w7 ⟨rfl,rfl⟩
  have HSB:=Lib.hid (size_bd (d.take j))
  generalize (sizeD (d.take j)).1 = s1 at HSB ⊢
  generalize (sizeD (d.take j)).2 = e1 at HSB ⊢
  go_wp2_with fail
  have hq:=size_any (d.drop j) _ _ _ LJ.out.2
  rw [HJ.out.2] at hq
  refine hq.mono ?_
  clear hq
  rintro e w8 ⟨rfl,rfl⟩
  have HSC:=Lib.hid (size_bd (d.drop j))
  generalize (sizeD (d.drop j)).1 = s2 at HSC ⊢
  generalize (sizeD (d.drop j)).2 = e2 at HSC ⊢
  by_cases h1:e1 = 0
  ·by_cases h2:e2 = 0
   ·subst h1 h2
    go_wp2_with fail
    refine (one_any [s1,s2] _ 2 _ (lst_new _ [s1,s2] 3 (by intro y hy;simp only [List.mem_cons,List.not_mem_nil,or_false] at hy;have:=HSB.out;have:=HSC.out;unfold I64;omega) (by simp))).mono ?_
    rintro e w9 ⟨D,jj,x,ll,rfl,hx,hb,hl,rfl,rfl⟩
    have HD:=Lib.hid (And.intro (HX.out.trans (((Below.refl _ _).alloc (Nat.le_refl _) _).trans (hb.mono (by rw [World.size_alloc];omega)))) hl)
    clear hx hb hl
    go_wp2
    go_ret2
    exact ⟨D,jj,0,_,rfl,by unfold I64;omega,HD.out.1,HD.out.2,fun _=>rfl⟩
   ·subst h1
    have h2':(e2 != 0) = true:=by simpa using h2
    go_wp2
    go_ret2
    exact sh_bad HX.out.below (by unfold I64;omega) (fun e=>by cases e)
  ·have h1':(e1 != 0) = true:=by simpa using h1
   go_wp2
   go_ret2
   exact sh_bad HX.out.below (by unfold I64;omega) (fun e=>by cases e)
 ·rw [if_neg hx] at hj
  have hjj:x.toNat = j:=by omega
  have hx0:0 ≤ x:=by omega
  clear hj x1
  go_wp2_with fail
  have hq:=size_any (d.take j) A0 k0 _ LJ.out.1
  rw [HJ.out.1] at hq
  refine hq.mono ?_
  clear hq
  rintro e w7 ⟨rfl,rfl⟩
  have HSB:=Lib.hid (size_bd (d.take j))
  generalize (sizeD (d.take j)).1 = s1 at HSB ⊢
  generalize (sizeD (d.take j)).2 = e1 at HSB ⊢
  go_wp2_with fail
  ·have hq:=size_any (d.drop j) A0 0 w7 (rep_gone (List.drop_eq_nil_of_le (by omega)) (Nat.zero_le _))
   rw [HJ.out.2] at hq
   refine hq.mono ?_
   clear hq
   rintro e w8 ⟨rfl,rfl⟩
   have HSC:=Lib.hid (size_bd (d.drop j))
   generalize (sizeD (d.drop j)).1 = s2 at HSC ⊢
   generalize (sizeD (d.drop j)).2 = e2 at HSC ⊢
   by_cases h1:e1 = 0
   ·by_cases h2:e2 = 0
    ·subst h1 h2
     go_wp2_with fail
     refine (one_any [s1,s2] _ 2 _ (lst_new _ [s1,s2] 3 (by intro y hy;simp only [List.mem_cons,List.not_mem_nil,or_false] at hy;have:=HSB.out;have:=HSC.out;unfold I64;omega) (by simp))).mono ?_
     rintro e w9 ⟨D,jj,x,ll,rfl,hx,hb,hl,rfl,rfl⟩
     have HD:=Lib.hid (And.intro (HX.out.trans (((Below.refl _ _).alloc (Nat.le_refl _) _).trans (hb.mono (by rw [World.size_alloc];omega)))) hl)
     clear hx hb hl
     go_wp2
     go_ret2
     exact ⟨D,jj,0,_,rfl,by unfold I64;omega,HD.out.1,HD.out.2,fun _=>rfl⟩
    ·subst h1
     have h2':(e2 != 0) = true:=by simpa using h2
     go_wp2
     go_ret2
     exact sh_bad HX.out.below (by unfold I64;omega) (fun e=>by cases e)
   ·have h1':(e1 != 0) = true:=by simpa using h1
    go_wp2
    go_ret2
    exact sh_bad HX.out.below (by unfold I64;omega) (fun e=>by cases e)
  ·have hq:=size_any (d.drop j) _ _ _ LJ.out.2
   rw [HJ.out.2] at hq
   refine hq.mono ?_
   clear hq
   rintro e w8 ⟨rfl,rfl⟩
   have HSC:=Lib.hid (size_bd (d.drop j))
   generalize (sizeD (d.drop j)).1 = s2 at HSC ⊢
   generalize (sizeD (d.drop j)).2 = e2 at HSC ⊢
   by_cases h1:e1 = 0
   ·by_cases h2:e2 = 0
    ·subst h1 h2
     go_wp2_with fail
     refine (one_any [s1,s2] _ 2 _ (lst_new _ [s1,s2] 3 (by intro y hy;simp only [List.mem_cons,List.not_mem_nil,or_false] at hy;have:=HSB.out;have:=HSC.out;unfold I64;omega) (by simp))).mono ?_
     rintro e w9 ⟨D,jj,x,ll,rfl,hx,hb,hl,rfl,rfl⟩
     have HD:=Lib.hid (And.intro (HX.out.trans (((Below.refl _ _).alloc (Nat.le_refl _) _).trans (hb.mono (by rw [World.size_alloc];omega)))) hl)
     clear hx hb hl
     go_wp2
     go_ret2
     exact ⟨D,jj,0,_,rfl,by unfold I64;omega,HD.out.1,HD.out.2,fun _=>rfl⟩
    ·subst h1
     have h2':(e2 != 0) = true:=by simpa using h2
     go_wp2
     go_ret2
     exact sh_bad HX.out.below (by unfold I64;omega) (fun e=>by cases e)
   ·have h1':(e1 != 0) = true:=by simpa using h1
    go_wp2
    go_ret2
    exact sh_bad HX.out.below (by unfold I64;omega) (fun e=>by cases e)
set_option maxRecDepth 100000 in
set_option maxHeartbeats 8000000 in
theorem counted_59 (cs:List Value) (a:AskD) (w:World) (hr:rep w (old w.heap.size) cs a) (hop:a.op = 59) :
  Calls Tryz.prog 111 #[.agg cs.toArray] w (ShP w P1):=by
 obtain ⟨ss,hs,hc⟩:=ask_set hr
 have HC:=Lib.hid (And.intro (hc 27 _ (fld_int hs.f27).1) (And.intro (hc 0 _ (fld_int hs.f0).1) (And.intro hs hc)))
 have HO:=Lib.hid (ask_op hr).1
 clear hs hc
 go_enter Tryz.func111,Tryz.ntmps111
 go_wp2_with (with_reducible refine wpList_box_row rfl 91 _ rfl cs rfl ?_;have hX:=ask_start hr;generalize World.alloc _ _ = W0 at hX ⊢;have HX:=Lib.hid hX;clear hX hr;refine halt ?_)
 unfold Halt
 go_wp2_with fail
 refine wp_region_held_drew (S:=fun W=>AskI w cs a W∧Below W0.heap.size W0 W) (by kernel_rfl) ⟨HX.out.next ((Below.refl _ _).drew),(Below.refl _ _).drew⟩ (fun hHeld=>?_)
 generalize World.drew _ = V2 at hHeld ⊢
 have hb:=hHeld.2
 clear hb
 refine tk9 0 (some 14) (v:=.agg cs.toArray) rfl (yields_ask (by kernel_rfl) _ rfl (by kernel_rfl) (fun _ h=>h.1)) hHeld ?_
 refine tk0 2 (some 16) (v:=.pointer (some ⟨w.heap.size,1,none⟩)) rfl hHeld ?_
 refine tk0 3 (some 17) (v:=.pointer (some ⟨w.heap.size,28,none⟩)) rfl hHeld ?_
 refine tk9 4 (some 18) (v:=.int .i64 a.s.block) rfl (yields_load_one9 (by kernel_rfl) _ _ rfl (w.heap.size) (28) (by kernel_rfl) _ _ Tryz.underlying3 rfl (fun _ h=>h.1.cell HC.out.1)) hHeld ?_
 refine call_d9 1 (some 15) rfl (by kernel_rfl) (by kernel_rfl) (by kernel_rfl) 70 _ _ rfl #[.agg cs.toArray,.int .i64 0] (by kernel_rfl) (fun w=>by kernel_rfl) ?_
 refine (askDims' cs a 0 w.heap.size _ hHeld.1.below.size hHeld.1.arg0).mono ?_
 rintro e V3 ⟨A0,k0,rfl,h0,hb⟩
 have L0:=Lib.hid (lst_n hHeld.1 hb h0)
 obtain ⟨b0,b0'⟩:=slice_bnd h0
 clear h0
 replace hHeld:=held_next hHeld hb
 refine ⟨_,rfl,hHeld,?_⟩
 clear hb
 refine tk0 5 (some 4) (v:=.slice A0 (a.dims 0).length k0) rfl hHeld ?_
 refine tk0 6 (some 5) (v:=.int .i64 a.s.block) rfl hHeld ?_
 refine wpAnyH_done (by kernel_rfl) ?_ _
 replace HX:=Lib.hid hHeld.1
 clear hHeld
 have hl:=dims_len (i:=0) HX.out
 have hc0:=HX.out.cell HO.out
 rw [hop] at hc0
 clear hop
 generalize a.dims 0 = d at L0 b0 hl ⊢
 have hat:At V3 w.heap.size 1 ss:=fun j u hu=>by rw [Nat.add_comm];exact HX.out.cell (HC.out.2.2.2 j u hu)
 have hsz:(Tryz.prog.info? 48).map (·.size) = some ss.length:=by rw [SettingDAt.len HC.out.2.2.1];kernel_rfl
 have HT:=Lib.hid (And.intro hat hsz)
 clear hat hsz
 go_wp2_with (with_reducible refine wpList_load_agg rfl 48 _ rfl _ _ _ rfl ss Tryz.underlying48 rfl HT.out.2 HT.out.1 ?_)
 refine (span_any ss a.s _ d.length _ w HC.out.2.2.1 (Int.natCast_nonneg _) (by omega)).mono ?_
 rintro e w7 ⟨x,y,rfl,x0,x1,y0,y1,hb⟩
 replace HX:=Lib.hid (HX.out.next hb)
 clear hb
 go_wp2_with fail
 ·refine (one_any [(y - x)] _ 1 _ (lst_new _ [(y - x)] 3 (by intro y hy;simp only [List.mem_cons,List.not_mem_nil,or_false] at hy;unfold I64;omega) (by simp))).mono ?_
  rintro e w9 ⟨D,jj,x,ll,rfl,hx,hb,hl,rfl,rfl⟩
  have HD:=Lib.hid (And.intro (HX.out.trans (((Below.refl _ _).alloc (Nat.le_refl _) _).trans (hb.mono (by rw [World.size_alloc];omega)))) hl)
  clear hx hb hl
  go_wp2
  go_ret2
  exact ⟨D,jj,0,_,rfl,by unfold I64;omega,HD.out.1,HD.out.2,fun _=>rfl⟩
 ·refine (one_any [0] _ 1 _ (lst_new _ [0] 3 (by intro y hy;simp only [List.mem_cons,List.not_mem_nil,or_false] at hy;unfold I64;omega) (by simp))).mono ?_
  rintro e w9 ⟨D,jj,x,ll,rfl,hx,hb,hl,rfl,rfl⟩
  have HD:=Lib.hid (And.intro (HX.out.trans (((Below.refl _ _).alloc (Nat.le_refl _) _).trans (hb.mono (by rw [World.size_alloc];omega)))) hl)
  clear hx hb hl
  go_wp2
  go_ret2
  exact ⟨D,jj,0,_,rfl,by unfold I64;omega,HD.out.1,HD.out.2,fun _=>rfl⟩
set_option maxRecDepth 100000 in
set_option maxHeartbeats 8000000 in
theorem counted_60 (cs:List Value) (a:AskD) (w:World) (hr:rep w (old w.heap.size) cs a) (hop:a.op = 60) :
  Calls Tryz.prog 111 #[.agg cs.toArray] w (ShP w P1):=by
 obtain ⟨ss,hs,hc⟩:=ask_set hr
 have HC:=Lib.hid (And.intro (hc 27 _ (fld_int hs.f27).1) (And.intro (hc 0 _ (fld_int hs.f0).1) (And.intro hs hc)))
 have HO:=Lib.hid (ask_op hr).1
 clear hs hc
 go_enter Tryz.func111,Tryz.ntmps111
 go_wp2_with (with_reducible refine wpList_box_row rfl 91 _ rfl cs rfl ?_;have hX:=ask_start hr;generalize World.alloc _ _ = W0 at hX ⊢;have HX:=Lib.hid hX;clear hX hr;refine halt ?_)
 unfold Halt
 go_wp2_with fail
 refine wp_region_held_drew (S:=fun W=>AskI w cs a W∧Below W0.heap.size W0 W) (by kernel_rfl) ⟨HX.out.next ((Below.refl _ _).drew),(Below.refl _ _).drew⟩ (fun hHeld=>?_)
 generalize World.drew _ = V2 at hHeld ⊢
 have hb:=hHeld.2
 clear hb
 refine tk9 0 (some 14) (v:=.agg cs.toArray) rfl (yields_ask (by kernel_rfl) _ rfl (by kernel_rfl) (fun _ h=>h.1)) hHeld ?_
 refine tk0 2 (some 16) (v:=.pointer (some ⟨w.heap.size,1,none⟩)) rfl hHeld ?_
 refine tk0 3 (some 17) (v:=.pointer (some ⟨w.heap.size,28,none⟩)) rfl hHeld ?_
 refine tk9 4 (some 18) (v:=.int .i64 a.s.block) rfl (yields_load_one9 (by kernel_rfl) _ _ rfl (w.heap.size) (28) (by kernel_rfl) _ _ Tryz.underlying3 rfl (fun _ h=>h.1.cell HC.out.1)) hHeld ?_
 refine call_d9 1 (some 15) rfl (by kernel_rfl) (by kernel_rfl) (by kernel_rfl) 70 _ _ rfl #[.agg cs.toArray,.int .i64 0] (by kernel_rfl) (fun w=>by kernel_rfl) ?_
 refine (askDims' cs a 0 w.heap.size _ hHeld.1.below.size hHeld.1.arg0).mono ?_
 rintro e V3 ⟨A0,k0,rfl,h0,hb⟩
 have L0:=Lib.hid (lst_n hHeld.1 hb h0)
 obtain ⟨b0,b0'⟩:=slice_bnd h0
 clear h0
 replace hHeld:=held_next hHeld hb
 refine ⟨_,rfl,hHeld,?_⟩
 clear hb
 refine tk0 5 (some 4) (v:=.slice A0 (a.dims 0).length k0) rfl hHeld ?_
 refine tk0 6 (some 5) (v:=.int .i64 a.s.block) rfl hHeld ?_
 refine wpAnyH_done (by kernel_rfl) ?_ _
 replace HX:=Lib.hid hHeld.1
 clear hHeld
 have hl:=dims_len (i:=0) HX.out
 have hc0:=HX.out.cell HO.out
 rw [hop] at hc0
 clear hop
 go_wp2_with fail
 refine (one_any [] none 0 _ (rep_nil _ _)).mono ?_
 rintro e w8 ⟨D,j,x,ll,rfl,hx,hb,hl,rfl,rfl⟩
 have HD:=Lib.hid (And.intro (HX.out.trans hb) hl)
 clear hx hb hl
 go_wp2
 go_ret2
 exact ⟨D,j,0,_,rfl,by unfold I64;omega,HD.out.1,HD.out.2,fun _=>rfl⟩
set_option maxRecDepth 100000 in
set_option maxHeartbeats 8000000 in
theorem counted_62 (cs:List Value) (a:AskD) (w:World) (hr:rep w (old w.heap.size) cs a) (hop:a.op = 62) :
  Calls Tryz.prog 111 #[.agg cs.toArray] w (ShP w P1):=by
 obtain ⟨ss,hs,hc⟩:=ask_set hr
 have HC:=Lib.hid (And.intro (hc 27 _ (fld_int hs.f27).1) (And.intro (hc 0 _ (fld_int hs.f0).1) (And.intro hs hc)))
 have HO:=Lib.hid (ask_op hr).1
 clear hs hc
 go_enter Tryz.func111,Tryz.ntmps111
 go_wp2_with (with_reducible refine wpList_box_row rfl 91 _ rfl cs rfl ?_;have hX:=ask_start hr;generalize World.alloc _ _ = W0 at hX ⊢;have HX:=Lib.hid hX;clear hX hr;refine halt ?_)
 unfold Halt
 go_wp2_with fail
 refine wp_region_held_drew (S:=fun W=>AskI w cs a W∧Below W0.heap.size W0 W) (by kernel_rfl) ⟨HX.out.next ((Below.refl _ _).drew),(Below.refl _ _).drew⟩ (fun hHeld=>?_)
 generalize World.drew _ = V2 at hHeld ⊢
 have hb:=hHeld.2
 clear hb
 refine tk9 0 (some 14) (v:=.agg cs.toArray) rfl (yields_ask (by kernel_rfl) _ rfl (by kernel_rfl) (fun _ h=>h.1)) hHeld ?_
 refine tk0 2 (some 16) (v:=.pointer (some ⟨w.heap.size,1,none⟩)) rfl hHeld ?_
 refine tk0 3 (some 17) (v:=.pointer (some ⟨w.heap.size,28,none⟩)) rfl hHeld ?_
 refine tk9 4 (some 18) (v:=.int .i64 a.s.block) rfl (yields_load_one9 (by kernel_rfl) _ _ rfl (w.heap.size) (28) (by kernel_rfl) _ _ Tryz.underlying3 rfl (fun _ h=>h.1.cell HC.out.1)) hHeld ?_
 refine call_d9 1 (some 15) rfl (by kernel_rfl) (by kernel_rfl) (by kernel_rfl) 70 _ _ rfl #[.agg cs.toArray,.int .i64 0] (by kernel_rfl) (fun w=>by kernel_rfl) ?_
 refine (askDims' cs a 0 w.heap.size _ hHeld.1.below.size hHeld.1.arg0).mono ?_
 rintro e V3 ⟨A0,k0,rfl,h0,hb⟩
 have L0:=Lib.hid (lst_n hHeld.1 hb h0)
 obtain ⟨b0,b0'⟩:=slice_bnd h0
 clear h0
 replace hHeld:=held_next hHeld hb
 refine ⟨_,rfl,hHeld,?_⟩
 clear hb
 refine tk0 5 (some 4) (v:=.slice A0 (a.dims 0).length k0) rfl hHeld ?_
 refine tk0 6 (some 5) (v:=.int .i64 a.s.block) rfl hHeld ?_
 refine wpAnyH_done (by kernel_rfl) ?_ _
 replace HX:=Lib.hid hHeld.1
 clear hHeld
 have hl:=dims_len (i:=0) HX.out
 have hc0:=HX.out.cell HO.out
 rw [hop] at hc0
 clear hop
 go_wp2_with (with_reducible refine wpList_load_agg rfl 91 _ rfl _ _ _ rfl cs Tryz.underlying91 rfl HX.out.size HX.out.at ?_)
 refine (numbers_any cs a 0 _ HX.out.arg).mono ?_
 rintro e w7 ⟨A1,k1,l1,rfl,hb,h1,-⟩
 replace HX:=Lib.hid (HX.out.next hb)
 have L1:=Lib.hid h1
 obtain ⟨b1,b1'⟩:=slice_bnd h1
 clear hb h1
 go_wp2_with fail
 refine (below_any l1 A1 k1 0 _ L1.out.rep).mono ?_
 rintro e w8 ⟨rfl,hb⟩
 replace HX:=Lib.hid (HX.out.next hb)
 replace L1:=Lib.hid (L1.out.next hb)
 clear hb
 cases (l1.any fun x=>decide (x < 0)) with
 | true =>
  go_wp2_with fail
  refine (misfit_any _).mono ?_
  rintro e w9 ⟨rfl,rfl⟩
  go_wp2
  go_ret2
  exact sh_misfit HX.out.below
 | false =>
  go_wp2_with fail
  refine (one_any l1 A1 k1 _ L1.out.lst).mono ?_
  rintro e w9 ⟨D,j,x,ll,rfl,hx,hb,hl,rfl,rfl⟩
  have HD:=Lib.hid (And.intro (HX.out.trans hb) hl)
  clear hx hb hl
  go_wp2
  go_ret2
  exact ⟨D,j,0,_,rfl,by unfold I64;omega,HD.out.1,HD.out.2,fun _=>rfl⟩
set_option maxRecDepth 100000 in
set_option maxHeartbeats 8000000 in
theorem counted_63 (cs:List Value) (a:AskD) (w:World) (hr:rep w (old w.heap.size) cs a) (hop:a.op = 63) (hb:1 ≤ a.s.block∧a.s.block ≤ 4096) :
  Calls Tryz.prog 111 #[.agg cs.toArray] w (ShP w P1):=by
 obtain ⟨ss,hs,hc⟩:=ask_set hr
 have HC:=Lib.hid (And.intro (hc 27 _ (fld_int hs.f27).1) (And.intro (hc 0 _ (fld_int hs.f0).1) (And.intro hs hc)))
 have HO:=Lib.hid (ask_op hr).1
 clear hs hc
 go_enter Tryz.func111,Tryz.ntmps111
 go_wp2_with (with_reducible refine wpList_box_row rfl 91 _ rfl cs rfl ?_;have hX:=ask_start hr;generalize World.alloc _ _ = W0 at hX ⊢;have HX:=Lib.hid hX;clear hX hr;refine halt ?_)
 unfold Halt
 go_wp2_with fail
 refine wp_region_held_drew (S:=fun W=>AskI w cs a W∧Below W0.heap.size W0 W) (by kernel_rfl) ⟨HX.out.next ((Below.refl _ _).drew),(Below.refl _ _).drew⟩ (fun hHeld=>?_)
 generalize World.drew _ = V2 at hHeld ⊢
 have hb:=hHeld.2
 clear hb
 refine tk9 0 (some 14) (v:=.agg cs.toArray) rfl (yields_ask (by kernel_rfl) _ rfl (by kernel_rfl) (fun _ h=>h.1)) hHeld ?_
 refine tk0 2 (some 16) (v:=.pointer (some ⟨w.heap.size,1,none⟩)) rfl hHeld ?_
 refine tk0 3 (some 17) (v:=.pointer (some ⟨w.heap.size,28,none⟩)) rfl hHeld ?_
 refine tk9 4 (some 18) (v:=.int .i64 a.s.block) rfl (yields_load_one9 (by kernel_rfl) _ _ rfl (w.heap.size) (28) (by kernel_rfl) _ _ Tryz.underlying3 rfl (fun _ h=>h.1.cell HC.out.1)) hHeld ?_
 refine call_d9 1 (some 15) rfl (by kernel_rfl) (by kernel_rfl) (by kernel_rfl) 70 _ _ rfl #[.agg cs.toArray,.int .i64 0] (by kernel_rfl) (fun w=>by kernel_rfl) ?_
 refine (askDims' cs a 0 w.heap.size _ hHeld.1.below.size hHeld.1.arg0).mono ?_
 rintro e V3 ⟨A0,k0,rfl,h0,hb⟩
 have L0:=Lib.hid (lst_n hHeld.1 hb h0)
 obtain ⟨b0,b0'⟩:=slice_bnd h0
 clear h0
 replace hHeld:=held_next hHeld hb
 refine ⟨_,rfl,hHeld,?_⟩
 clear hb
 refine tk0 5 (some 4) (v:=.slice A0 (a.dims 0).length k0) rfl hHeld ?_
 refine tk0 6 (some 5) (v:=.int .i64 a.s.block) rfl hHeld ?_
 refine wpAnyH_done (by kernel_rfl) ?_ _
 replace HX:=Lib.hid hHeld.1
 clear hHeld
 have hl:=dims_len (i:=0) HX.out
 have hc0:=HX.out.cell HO.out
 rw [hop] at hc0
 clear hop
 obtain ⟨m1,m2⟩:=hb
 generalize a.s.block = blk at HC m1 m2 ⊢
 generalize a.dims 0 = d at L0 b0 hl ⊢
 by_cases h4:d.length = 4
 ·obtain ⟨d0,d1,d2,d3,rfl⟩:=four h4
  clear h4 hl
  have LB:=Lib.hid (HX.out.back L0.out)
  obtain ⟨i0,b2,o2,rfl,hb2,q0⟩:=L0.out.get (j:=0) rfl
  obtain ⟨i1,-,q1⟩:=L0.out.at (j:=1) rfl
  obtain ⟨i2,-,q2⟩:=L0.out.at (j:=2) rfl
  obtain ⟨i3,-,q3⟩:=L0.out.at (j:=3) rfl
  have HQ:=Lib.hid (And.intro i0 (And.intro i1 (And.intro i2 (And.intro i3 hb2))))
  clear i0 i1 i2 i3 hb2
  have hb0:¬ blk = 0:=by omega
  have hbb:=sq_bd m1 m2
  obtain ⟨m,hm⟩:∃ m,blk * blk = m:=⟨_,rfl⟩
  rw [hm] at hbb
  obtain ⟨n1,n2⟩:=hbb
  have hm0:¬ m = 0:=by omega
  by_cases hq:d1.tmod m = 0
  ·go_wp2_with fail
   have hm1:¬ wrap64 (blk * blk) = 0:=by rw [hm];unfold wrap64;omega
   clear hm hq

   refine wp_region_held_drew (S:=fun W=>AskI w cs a W∧Below V3.heap.size V3 W) (by kernel_rfl) ⟨HX.out.next ((Below.refl _ _).drew),(Below.refl _ _).drew⟩ (fun hHeld=>?_)
   generalize World.drew _ = V61 at hHeld ⊢
   have hb:=hHeld.2
   clear hb
   refine tk0 0 (some 115) (v:=.slice (some ⟨b2,o2,none⟩) 4 k0) rfl hHeld ?_
   refine tk9 1 (some 116) (v:=.pointer (some ⟨b2,o2 + 0,none⟩)) rfl (yields_idx (by kernel_rfl) _ _ rfl b2 o2 (4) k0 0 (by kernel_rfl) (by kernel_rfl) (by omega)) hHeld ?_
   refine tk9 2 (some 117) (v:=.int .i64 d0) rfl (yields_load_one9 (by kernel_rfl) _ _ rfl b2 (o2 + 0) (by kernel_rfl) _ _ Tryz.underlying3 rfl (fun _ h=>h.1.elem LB.out (j:=0) rfl)) hHeld ?_
   refine tk0 3 (some 118) (v:=.slice (some ⟨b2,o2,none⟩) 4 k0) rfl hHeld ?_
   refine tk9 4 (some 119) (v:=.pointer (some ⟨b2,o2 + 1,none⟩)) rfl (yields_idx (by kernel_rfl) _ _ rfl b2 o2 (4) k0 1 (by kernel_rfl) (by kernel_rfl) (by omega)) hHeld ?_
   refine tk9 5 (some 120) (v:=.int .i64 d1) rfl (yields_load_one9 (by kernel_rfl) _ _ rfl b2 (o2 + 1) (by kernel_rfl) _ _ Tryz.underlying3 rfl (fun _ h=>h.1.elem LB.out (j:=1) rfl)) hHeld ?_
   refine tk0 6 (some 121) (v:=.int .i64 blk) rfl hHeld ?_
   refine tk0 7 (some 122) (v:=.int .i64 blk) rfl hHeld ?_
   refine tk9 8 (some 123) (v:=.int .i64 (wrap64 (blk * blk))) rfl (yields_mulW (by kernel_rfl) _ _ _ _ rfl (blk) (blk) (by kernel_rfl) (by kernel_rfl) (by kernel_rfl)) hHeld ?_
   refine tk9 9 (some 124) (v:=.int .i64 (wrap64 (Int.tdiv d1 (wrap64 (blk * blk))))) rfl (yields_quoW (by kernel_rfl) _ _ _ _ rfl (d1) ((wrap64 (blk * blk))) (by kernel_rfl) (by kernel_rfl) (by kernel_rfl) hm1) hHeld ?_
   refine tk0 10 (some 125) (v:=.slice (some ⟨b2,o2,none⟩) 4 k0) rfl hHeld ?_
   refine tk9 11 (some 126) (v:=.pointer (some ⟨b2,o2 + 2,none⟩)) rfl (yields_idx (by kernel_rfl) _ _ rfl b2 o2 (4) k0 2 (by kernel_rfl) (by kernel_rfl) (by omega)) hHeld ?_
   refine tk9 12 (some 127) (v:=.int .i64 d2) rfl (yields_load_one9 (by kernel_rfl) _ _ rfl b2 (o2 + 2) (by kernel_rfl) _ _ Tryz.underlying3 rfl (fun _ h=>h.1.elem LB.out (j:=2) rfl)) hHeld ?_
   refine tk0 13 (some 128) (v:=.int .i64 blk) rfl hHeld ?_
   refine tk9 14 (some 129) (v:=.int .i64 (wrap64 (d2 * blk))) rfl (yields_mulW (by kernel_rfl) _ _ _ _ rfl (d2) (blk) (by kernel_rfl) (by kernel_rfl) (by kernel_rfl)) hHeld ?_
   refine tk0 15 (some 130) (v:=.slice (some ⟨b2,o2,none⟩) 4 k0) rfl hHeld ?_
   refine tk9 16 (some 131) (v:=.pointer (some ⟨b2,o2 + 3,none⟩)) rfl (yields_idx (by kernel_rfl) _ _ rfl b2 o2 (4) k0 3 (by kernel_rfl) (by kernel_rfl) (by omega)) hHeld ?_
   refine tk9 17 (some 132) (v:=.int .i64 d3) rfl (yields_load_one9 (by kernel_rfl) _ _ rfl b2 (o2 + 3) (by kernel_rfl) _ _ Tryz.underlying3 rfl (fun _ h=>h.1.elem LB.out (j:=3) rfl)) hHeld ?_
   refine tk0 18 (some 133) (v:=.int .i64 blk) rfl hHeld ?_
   refine tk9 19 (some 134) (v:=.int .i64 (wrap64 (d3 * blk))) rfl (yields_mulW (by kernel_rfl) _ _ _ _ rfl (d3) (blk) (by kernel_rfl) (by kernel_rfl) (by kernel_rfl)) hHeld ?_
   refine oneLay 20 (some 135) rfl rfl (by kernel_rfl) (by kernel_rfl) (.slice (some ⟨V61.heap.size,0,none⟩) 4 4) [.cells #[.int .i64 d0,.int .i64 (wrap64 (Int.tdiv d1 (wrap64 (blk * blk)))),.int .i64 (wrap64 (d2 * blk)),.int .i64 (wrap64 (d3 * blk))] 3] (by kernel_rfl) (held_next hHeld ((Below.refl _ _).alloc (Nat.le_refl _) _)) ?_
   replace hHeld:=held_next hHeld ((Below.refl V61.heap.size V61).alloc (Nat.le_refl _) (.cells #[.int .i64 d0,.int .i64 (wrap64 (Int.tdiv d1 (wrap64 (blk * blk)))),.int .i64 (wrap64 (d2 * blk)),.int .i64 (wrap64 (d3 * blk))] 3))
   refine call_d9 21 (some 136) rfl (by kernel_rfl) (by kernel_rfl) (by kernel_rfl) 81 _ _ rfl #[.slice (some ⟨V61.heap.size,0,none⟩) 4 4] (by kernel_rfl) (fun w=>by kernel_rfl) ?_
   refine (one_any [d0,(wrap64 (Int.tdiv d1 (wrap64 (blk * blk)))),(wrap64 (d2 * blk)),(wrap64 (d3 * blk))] (some ⟨V61.heap.size,0,none⟩) 4 _ (lst_new V61 [d0,(wrap64 (Int.tdiv d1 (wrap64 (blk * blk)))),(wrap64 (d2 * blk)),(wrap64 (d3 * blk))] 3 (by intro y hy;simp only [List.mem_cons,List.not_mem_nil,or_false] at hy;rcases hy with rfl | rfl | rfl | rfl <;> first | exact wrap_i64 _ | exact HQ.out.1 | exact HQ.out.2.1 | exact HQ.out.2.2.1) (by simp))).mono ?_
   rintro e V62 ⟨D,jj,x,ll,rfl,hx,hb,hL,rfl,rfl⟩
   have HD:=Lib.hid hL
   replace hHeld:=held_next hHeld hb
   refine ⟨_,rfl,hHeld,?_⟩
   clear hx hb hL
   refine tk0 22 (some 137) (v:=.slice D 1 jj) rfl hHeld ?_
   refine tk0 23 (some 138) (v:=.int .i64 0) rfl hHeld ?_
   refine tk0 24 (some 2) (v:=.slice D 1 jj) rfl hHeld ?_
   refine tk0 25 (some 3) (v:=.int .i64 0) rfl hHeld ?_
   refine wpAnyH_done (by kernel_rfl) ?_ _
   have HZ:=Lib.hid hHeld.1.below
   clear hHeld
   go_wp2
   go_ret2
   exact ⟨D,jj,0,_,by kernel_rfl,by unfold I64;omega,HZ.out,HD.out,fun _=>rfl⟩
  ·go_wp2_with fail
   refine (misfit_any _).mono ?_
   rintro e w9 ⟨rfl,rfl⟩
   go_wp2
   go_ret2
   exact sh_misfit HX.out.below
 ·have h4':((d.length:Int) != 4) = true:=by simp;omega
  clear h4
  go_wp2_with fail
  refine (misfit_any _).mono ?_
  rintro e w9 ⟨rfl,rfl⟩
  go_wp2
  go_ret2
  exact sh_misfit HX.out.below
set_option maxRecDepth 100000 in
set_option maxHeartbeats 8000000 in
theorem counted_64 (cs:List Value) (a:AskD) (w:World) (hr:rep w (old w.heap.size) cs a) (hop:a.op = 64) (hb:1 ≤ a.s.block∧a.s.block ≤ 4096) :
  Calls Tryz.prog 111 #[.agg cs.toArray] w (ShP w P1):=by
 obtain ⟨ss,hs,hc⟩:=ask_set hr
 have HC:=Lib.hid (And.intro (hc 27 _ (fld_int hs.f27).1) (And.intro (hc 0 _ (fld_int hs.f0).1) (And.intro hs hc)))
 have HO:=Lib.hid (ask_op hr).1
 clear hs hc
 go_enter Tryz.func111,Tryz.ntmps111
 go_wp2_with (with_reducible refine wpList_box_row rfl 91 _ rfl cs rfl ?_;have hX:=ask_start hr;generalize World.alloc _ _ = W0 at hX ⊢;have HX:=Lib.hid hX;clear hX hr;refine halt ?_)
 unfold Halt
 go_wp2_with fail
 refine wp_region_held_drew (S:=fun W=>AskI w cs a W∧Below W0.heap.size W0 W) (by kernel_rfl) ⟨HX.out.next ((Below.refl _ _).drew),(Below.refl _ _).drew⟩ (fun hHeld=>?_)
 generalize World.drew _ = V2 at hHeld ⊢
 have hb:=hHeld.2
 clear hb
 refine tk9 0 (some 14) (v:=.agg cs.toArray) rfl (yields_ask (by kernel_rfl) _ rfl (by kernel_rfl) (fun _ h=>h.1)) hHeld ?_
 refine tk0 2 (some 16) (v:=.pointer (some ⟨w.heap.size,1,none⟩)) rfl hHeld ?_
 refine tk0 3 (some 17) (v:=.pointer (some ⟨w.heap.size,28,none⟩)) rfl hHeld ?_
 refine tk9 4 (some 18) (v:=.int .i64 a.s.block) rfl (yields_load_one9 (by kernel_rfl) _ _ rfl (w.heap.size) (28) (by kernel_rfl) _ _ Tryz.underlying3 rfl (fun _ h=>h.1.cell HC.out.1)) hHeld ?_
 refine call_d9 1 (some 15) rfl (by kernel_rfl) (by kernel_rfl) (by kernel_rfl) 70 _ _ rfl #[.agg cs.toArray,.int .i64 0] (by kernel_rfl) (fun w=>by kernel_rfl) ?_
 refine (askDims' cs a 0 w.heap.size _ hHeld.1.below.size hHeld.1.arg0).mono ?_
 rintro e V3 ⟨A0,k0,rfl,h0,hb⟩
 have L0:=Lib.hid (lst_n hHeld.1 hb h0)
 obtain ⟨b0,b0'⟩:=slice_bnd h0
 clear h0
 replace hHeld:=held_next hHeld hb
 refine ⟨_,rfl,hHeld,?_⟩
 clear hb
 refine tk0 5 (some 4) (v:=.slice A0 (a.dims 0).length k0) rfl hHeld ?_
 refine tk0 6 (some 5) (v:=.int .i64 a.s.block) rfl hHeld ?_
 refine wpAnyH_done (by kernel_rfl) ?_ _
 replace HX:=Lib.hid hHeld.1
 clear hHeld
 have hl:=dims_len (i:=0) HX.out
 have hc0:=HX.out.cell HO.out
 rw [hop] at hc0
 clear hop
 obtain ⟨m1,m2⟩:=hb
 generalize a.s.block = blk at HC m1 m2 ⊢
 generalize a.dims 0 = d at L0 b0 hl ⊢
 by_cases h4:d.length = 4
 ·obtain ⟨d0,d1,d2,d3,rfl⟩:=four h4
  clear h4 hl
  have LB:=Lib.hid (HX.out.back L0.out)
  obtain ⟨i0,b2,o2,rfl,hb2,q0⟩:=L0.out.get (j:=0) rfl
  obtain ⟨i1,-,q1⟩:=L0.out.at (j:=1) rfl
  obtain ⟨i2,-,q2⟩:=L0.out.at (j:=2) rfl
  obtain ⟨i3,-,q3⟩:=L0.out.at (j:=3) rfl
  have HQ:=Lib.hid (And.intro i0 (And.intro i1 (And.intro i2 (And.intro i3 hb2))))
  clear i0 i1 i2 i3 hb2
  have hb0:¬ blk = 0:=by omega
  by_cases hq:d2.tmod blk = 0
  ·by_cases hq2:d3.tmod blk = 0
   ·go_wp2_with fail
    clear hq hq2

    refine wp_region_held_drew (S:=fun W=>AskI w cs a W∧Below V3.heap.size V3 W) (by kernel_rfl) ⟨HX.out.next ((Below.refl _ _).drew),(Below.refl _ _).drew⟩ (fun hHeld=>?_)
    generalize World.drew _ = V61 at hHeld ⊢
    have hb:=hHeld.2
    clear hb
    refine tk0 0 (some 159) (v:=.slice (some ⟨b2,o2,none⟩) 4 k0) rfl hHeld ?_
    refine tk9 1 (some 160) (v:=.pointer (some ⟨b2,o2 + 0,none⟩)) rfl (yields_idx (by kernel_rfl) _ _ rfl b2 o2 (4) k0 0 (by kernel_rfl) (by kernel_rfl) (by omega)) hHeld ?_
    refine tk9 2 (some 161) (v:=.int .i64 d0) rfl (yields_load_one9 (by kernel_rfl) _ _ rfl b2 (o2 + 0) (by kernel_rfl) _ _ Tryz.underlying3 rfl (fun _ h=>h.1.elem LB.out (j:=0) rfl)) hHeld ?_
    refine tk0 3 (some 162) (v:=.slice (some ⟨b2,o2,none⟩) 4 k0) rfl hHeld ?_
    refine tk9 4 (some 163) (v:=.pointer (some ⟨b2,o2 + 1,none⟩)) rfl (yields_idx (by kernel_rfl) _ _ rfl b2 o2 (4) k0 1 (by kernel_rfl) (by kernel_rfl) (by omega)) hHeld ?_
    refine tk9 5 (some 164) (v:=.int .i64 d1) rfl (yields_load_one9 (by kernel_rfl) _ _ rfl b2 (o2 + 1) (by kernel_rfl) _ _ Tryz.underlying3 rfl (fun _ h=>h.1.elem LB.out (j:=1) rfl)) hHeld ?_
    refine tk0 6 (some 165) (v:=.int .i64 blk) rfl hHeld ?_
    refine tk9 7 (some 166) (v:=.int .i64 (wrap64 (d1 * blk))) rfl (yields_mulW (by kernel_rfl) _ _ _ _ rfl (d1) (blk) (by kernel_rfl) (by kernel_rfl) (by kernel_rfl)) hHeld ?_
    refine tk0 8 (some 167) (v:=.int .i64 blk) rfl hHeld ?_
    refine tk9 9 (some 168) (v:=.int .i64 (wrap64 ((wrap64 (d1 * blk)) * blk))) rfl (yields_mulW (by kernel_rfl) _ _ _ _ rfl ((wrap64 (d1 * blk))) (blk) (by kernel_rfl) (by kernel_rfl) (by kernel_rfl)) hHeld ?_
    refine tk0 10 (some 169) (v:=.slice (some ⟨b2,o2,none⟩) 4 k0) rfl hHeld ?_
    refine tk9 11 (some 170) (v:=.pointer (some ⟨b2,o2 + 2,none⟩)) rfl (yields_idx (by kernel_rfl) _ _ rfl b2 o2 (4) k0 2 (by kernel_rfl) (by kernel_rfl) (by omega)) hHeld ?_
    refine tk9 12 (some 171) (v:=.int .i64 d2) rfl (yields_load_one9 (by kernel_rfl) _ _ rfl b2 (o2 + 2) (by kernel_rfl) _ _ Tryz.underlying3 rfl (fun _ h=>h.1.elem LB.out (j:=2) rfl)) hHeld ?_
    refine tk0 13 (some 172) (v:=.int .i64 blk) rfl hHeld ?_
    refine tk9 14 (some 173) (v:=.int .i64 (wrap64 (Int.tdiv d2 blk))) rfl (yields_quoW (by kernel_rfl) _ _ _ _ rfl (d2) (blk) (by kernel_rfl) (by kernel_rfl) (by kernel_rfl) hb0) hHeld ?_
    refine tk0 15 (some 174) (v:=.slice (some ⟨b2,o2,none⟩) 4 k0) rfl hHeld ?_
    refine tk9 16 (some 175) (v:=.pointer (some ⟨b2,o2 + 3,none⟩)) rfl (yields_idx (by kernel_rfl) _ _ rfl b2 o2 (4) k0 3 (by kernel_rfl) (by kernel_rfl) (by omega)) hHeld ?_
    refine tk9 17 (some 176) (v:=.int .i64 d3) rfl (yields_load_one9 (by kernel_rfl) _ _ rfl b2 (o2 + 3) (by kernel_rfl) _ _ Tryz.underlying3 rfl (fun _ h=>h.1.elem LB.out (j:=3) rfl)) hHeld ?_
    refine tk0 18 (some 177) (v:=.int .i64 blk) rfl hHeld ?_
    refine tk9 19 (some 178) (v:=.int .i64 (wrap64 (Int.tdiv d3 blk))) rfl (yields_quoW (by kernel_rfl) _ _ _ _ rfl (d3) (blk) (by kernel_rfl) (by kernel_rfl) (by kernel_rfl) hb0) hHeld ?_
    refine oneLay 20 (some 179) rfl rfl (by kernel_rfl) (by kernel_rfl) (.slice (some ⟨V61.heap.size,0,none⟩) 4 4) [.cells #[.int .i64 d0,.int .i64 (wrap64 ((wrap64 (d1 * blk)) * blk)),.int .i64 (wrap64 (Int.tdiv d2 blk)),.int .i64 (wrap64 (Int.tdiv d3 blk))] 3] (by kernel_rfl) (held_next hHeld ((Below.refl _ _).alloc (Nat.le_refl _) _)) ?_
    replace hHeld:=held_next hHeld ((Below.refl V61.heap.size V61).alloc (Nat.le_refl _) (.cells #[.int .i64 d0,.int .i64 (wrap64 ((wrap64 (d1 * blk)) * blk)),.int .i64 (wrap64 (Int.tdiv d2 blk)),.int .i64 (wrap64 (Int.tdiv d3 blk))] 3))
    refine call_d9 21 (some 180) rfl (by kernel_rfl) (by kernel_rfl) (by kernel_rfl) 81 _ _ rfl #[.slice (some ⟨V61.heap.size,0,none⟩) 4 4] (by kernel_rfl) (fun w=>by kernel_rfl) ?_
    refine (one_any [d0,(wrap64 ((wrap64 (d1 * blk)) * blk)),(wrap64 (Int.tdiv d2 blk)),(wrap64 (Int.tdiv d3 blk))] (some ⟨V61.heap.size,0,none⟩) 4 _ (lst_new V61 [d0,(wrap64 ((wrap64 (d1 * blk)) * blk)),(wrap64 (Int.tdiv d2 blk)),(wrap64 (Int.tdiv d3 blk))] 3 (by intro y hy;simp only [List.mem_cons,List.not_mem_nil,or_false] at hy;rcases hy with rfl | rfl | rfl | rfl <;> first | exact wrap_i64 _ | exact HQ.out.1 | exact HQ.out.2.1 | exact HQ.out.2.2.1) (by simp))).mono ?_
    rintro e V62 ⟨D,jj,x,ll,rfl,hx,hb,hL,rfl,rfl⟩
    have HD:=Lib.hid hL
    replace hHeld:=held_next hHeld hb
    refine ⟨_,rfl,hHeld,?_⟩
    clear hx hb hL
    refine tk0 22 (some 181) (v:=.slice D 1 jj) rfl hHeld ?_
    refine tk0 23 (some 182) (v:=.int .i64 0) rfl hHeld ?_
    refine tk0 24 (some 2) (v:=.slice D 1 jj) rfl hHeld ?_
    refine tk0 25 (some 3) (v:=.int .i64 0) rfl hHeld ?_
    refine wpAnyH_done (by kernel_rfl) ?_ _
    have HZ:=Lib.hid hHeld.1.below
    clear hHeld
    go_wp2
    go_ret2
    exact ⟨D,jj,0,_,by kernel_rfl,by unfold I64;omega,HZ.out,HD.out,fun _=>rfl⟩
   ·go_wp2_with fail
    refine (misfit_any _).mono ?_
    rintro e w9 ⟨rfl,rfl⟩
    go_wp2
    go_ret2
    exact sh_misfit HX.out.below
  ·go_wp2_with fail
   refine (misfit_any _).mono ?_
   rintro e w9 ⟨rfl,rfl⟩
   go_wp2
   go_ret2
   exact sh_misfit HX.out.below
 ·have h4':((d.length:Int) != 4) = true:=by simp;omega
  clear h4
  go_wp2_with fail
  refine (misfit_any _).mono ?_
  rintro e w9 ⟨rfl,rfl⟩
  go_wp2
  go_ret2
  exact sh_misfit HX.out.below
theorem counted_any (cs:List Value) (a:AskD) (w:World) (hr:rep w (old w.heap.size) cs a)
  (hop:a.op = 58 ∨ a.op = 59 ∨ a.op = 60 ∨ a.op = 62 ∨ a.op = 63 ∨ a.op = 64) (hf:a.op = 58→-((a.dims 0).length:Int) ≤ a.s.axis∧a.s.axis ≤ ((a.dims 0).length:Int)) (hb:a.op = 63 ∨ a.op = 64→1 ≤ a.s.block∧a.s.block ≤ 4096) :
  Calls Tryz.prog 111 #[.agg cs.toArray] w (ShP w P1):=by
 rcases hop with h | h | h | h | h | h
 ·exact counted_58 cs a w hr h (hf h)
 ·exact counted_59 cs a w hr h
 ·exact counted_60 cs a w hr h
 ·exact counted_62 cs a w hr h
 ·exact counted_63 cs a w hr h (hb (.inl h))
 ·exact counted_64 cs a w hr h (hb (.inr h))
end Go.Proofs.YtilobeohkomeoaaGreat
