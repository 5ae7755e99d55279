/-
  Chapter 10: Split. No condition.
-/
/-
  Chapter 10: reductions. No condition.
-/
/-
  Chapter 10: one window's reckoning. No condition.
-/
import Derived.Test.YtilobeohkomeoaaGreatQRept
import Derived.Deep.CutBlock
set_option linter.unusedSimpArgs false
set_option linter.unusedVariables false
namespace Go.Proofs.YtilobeohkomeoaaGreat
open Go.RowKit
open Rep (rep)
def Zr (n m:Nat) (v:Value):Zone:=⟨fun b=>n ≤ b∧b < m∧v.ownBlock ≠ some b,false⟩
structure LLs (n:Nat) (W:World) (v:Value) (ll:List (List Int)) (xs:List Value):Prop where
 own:W.ownsRow n 24 1 v ll.length xs
 ch:Chunks W (Zr n W.heap.size v) xs ll
 le:n ≤ W.heap.size
theorem LLs.nil (W:World):LLs W.heap.size W (.slice none 0 0) [] []:=⟨World.ownsRow_nil _ _ _ _,rfl,Nat.le_refl _⟩
theorem LLs.more {n k:Nat} {W W2 W':World} {v v':Value} {ll:List (List Int)} {xs:List Value} {A:Option Addr} {l:List Int} {ob:Obj} (h:LLs n W v ll xs) (hb:Below W.heap.size W W2) (ho:Own W2 W.heap.size A k l)
  (hown:W'.ownsRow n 24 1 v' (ll.length + 1) (xs++[.slice A l.length k])) (hg:(W2.alloc ob).grownBy W' v.ownBlock) (hs:v'.ownBlock = v.ownBlock ∨ v'.ownBlock = some (W2.heap.size + 1)):LLs n W' v' (ll++[l]) (xs++[.slice A l.length k]):=by
 have hsz:W2.heap.size + 1 ≤ W'.heap.size:=by have:=hg.size;rwa [World.size_alloc] at this
 have h2:=hb.size
 refine ⟨by rw [List.length_append];exact hown,?_,by have:=h.le;omega⟩
 have k1:Keeps (Zr n W.heap.size v) W W':=(Keeps.of_below (hb.trans ((Below.refl _ _).alloc h2 ob)) (fun k (hk:n ≤ k∧k < W.heap.size∧v.ownBlock ≠ some k)=>hk.2.1)).trans (Keeps.of_grown hg fun k (hk:n ≤ k∧k < W.heap.size∧v.ownBlock ≠ some k)=>⟨by rw [World.size_alloc];have:=hk.2.1;omega,fun e=>hk.2.2 e.symm⟩)
 have hl:∀ g,v.ownBlock = some g→g < W.heap.size:=fun g hv=>(h.own.lt g hv).2
 have l1:(Zr n W.heap.size v).le (Zr n W'.heap.size v'):=⟨fun b hb=>⟨hb.1,by have:=hb.2.1;omega,fun e=>by
  rcases hs with hs | hs
  ·exact hb.2.2 (hs ▸ e)
  ·rw [hs] at e;injection e with e;have:=hb.2.1;omega⟩,fun e=>by cases e⟩
 have k2:Keeps (fresh W.heap.size W2.heap.size) W2 W':=(Keeps.of_below ((Below.refl _ _).alloc (Nat.le_refl _) ob) (fun k (hk:W.heap.size ≤ k∧k < W2.heap.size)=>hk.2)).trans (Keeps.of_grown hg fun k (hk:W.heap.size ≤ k∧k < W2.heap.size)=>⟨by rw [World.size_alloc];have:=hk.2;omega,fun e=>by have:=hl _ e.symm;have:=hk.1;omega⟩)
 have l2:(fresh W.heap.size W2.heap.size).le (Zr n W'.heap.size v'):=⟨fun b hb=>⟨by have:=hb.1;have:=h.le;omega,by have:=hb.2;omega,fun e=>by
  rcases hs with hs | hs
  ·rw [hs] at e;have:=hl _ e;have:=hb.1;omega
  ·rw [hs] at e;injection e with e;have:=hb.2;omega⟩,fun e=>by cases e⟩
 exact Chunks.snoc (Chunks.more l1 (Chunks.keep k1 h.ch)) (Rep.more (Rep.keep ho k2) l2)
theorem LLs.fin {n:Nat} {W:World} {v:Value} {ll:List (List Int)} {xs:List Value} (h:LLs n W v ll xs) (hl:ll.length ≤ 100000):∃ A k,v = .slice A ll.length k∧rep W (old W.heap.size) [.slice A ll.length k] ll:=by
 have hr:rep W (old W.heap.size) [v] ll:=rep_of_own h.own (Chunks.more ⟨fun b (hb:n ≤ b∧b < W.heap.size∧v.ownBlock ≠ some b)=>hb.2.1,fun e=>by cases e⟩ h.ch) (by show ll.length * 24 ≤ reach;unfold reach;omega) (fun g _ _ h2=>h2)
 obtain ⟨A,k,e⟩:=slice_form hr
 injection e with e
 subst e
 exact ⟨A,k,rfl,hr⟩
theorem info_ll:(Tryz.prog.info? 24).map (fun i=>(i.zero,i.size,i.bytes)) = some (some (.slice none 0 0),1,24):=by kernel_rfl
set_option maxRecDepth 100000 in
set_option maxHeartbeats 8000000 in
theorem split_any (cs:List Value) (a:AskD) (w:World) (hr:rep w (old w.heap.size) cs a) (hax:(axisD a.s.axis ((a.dims 0).length:Int)).2 = 0) (ho1:1 ≤ a.outs) (ho2:a.outs ≤ 64) :
  Calls Tryz.prog 103 #[.agg cs.toArray] w (ShP w fun x ll=>x = 0→(ll.length:Int) = a.outs):=by
 obtain ⟨i0,hi0,hz0,hz1,hz2⟩:=info_parts info_ll
 have H8:=Lib.hid (ask_outs hr).1
 obtain ⟨x0,x1⟩:=axis_ok hax
 obtain ⟨kx,hkx,hkl⟩:∃ k:Nat,(axisD a.s.axis ((a.dims 0).length:Int)).1 = (k:Int)∧k < (a.dims 0).length:=⟨(axisD a.s.axis ((a.dims 0).length:Int)).1.toNat,by omega,by omega⟩
 have HK:=Lib.hid hkx
 clear hax x0 x1 hkx
 generalize a.outs = outs at H8 ho1 ho2 ⊢
 obtain ⟨no,hno⟩:∃ no:Nat,outs = (no:Int):=⟨outs.toNat,by omega⟩
 subst hno
 go_enter Tryz.func103,Tryz.ntmps103
 go_wp2_with (with_reducible refine wpList_box_row rfl 91 _ rfl cs rfl ?_;have hX:=ask_start hr;generalize World.alloc _ _ = W0 at hX ⊢;have HX:=Lib.hid hX;clear hX hr;refine halt ?_)
 unfold Halt
 go_wp2_with fail
 refine wp_region_held_drew (S:=fun W=>AskI w cs a W∧Below W0.heap.size W0 W) (by kernel_rfl) ⟨HX.out.next ((Below.refl _ _).drew),(Below.refl _ _).drew⟩ (fun hHeld=>?_)
 generalize World.drew _ = V2 at hHeld ⊢
 have hb:=hHeld.2
 clear hb
 refine tk9 0 (some 12) (v:=.agg cs.toArray) rfl (yields_ask (by kernel_rfl) _ rfl (by kernel_rfl) (fun _ h=>h.1)) hHeld ?_
 refine tk9 2 (some 14) (v:=.agg cs.toArray) rfl (yields_ask (by kernel_rfl) _ rfl (by kernel_rfl) (fun _ h=>h.1)) hHeld ?_
 refine call_d9 1 (some 13) rfl (by kernel_rfl) (by kernel_rfl) (by kernel_rfl) 70 _ _ rfl #[.agg cs.toArray,.int .i64 0] (by kernel_rfl) (fun w=>by kernel_rfl) ?_
 refine (askDims' cs a 0 w.heap.size _ hHeld.1.below.size hHeld.1.arg0).mono ?_
 rintro e V3 ⟨A0,k0,rfl,h0,hb⟩
 have L0:=Lib.hid (lst_n hHeld.1 hb h0)
 obtain ⟨b0,b0'⟩:=slice_bnd h0
 clear h0
 replace hHeld:=held_next hHeld hb
 refine ⟨_,rfl,hHeld,?_⟩
 clear hb
 refine call_d9 3 (some 15) rfl (by kernel_rfl) (by kernel_rfl) (by kernel_rfl) 105 _ _ rfl #[.agg cs.toArray] (by kernel_rfl) (fun w=>by kernel_rfl) ?_
 refine (axisK_any cs a _ hHeld.1.arg).mono ?_
 rintro e V4 ⟨rfl,hb⟩
 rw [HK.out]
 replace L0:=Lib.hid (L0.out.next hb)
 replace hHeld:=held_next hHeld hb
 refine ⟨_,rfl,hHeld,?_⟩
 clear hb
 refine tk0 4 (some 4) (v:=.slice A0 (a.dims 0).length k0) rfl hHeld ?_
 refine tk0 5 (some 5) (v:=.int .i64 (kx:Int)) rfl hHeld ?_
 refine wpAnyH_done (by kernel_rfl) ?_ _
 replace HX:=Lib.hid hHeld.1
 clear hHeld
 generalize a.dims 0 = d at L0 b0 hkl ⊢
 go_wp2_with (with_reducible refine wpList_load_agg rfl 91 _ rfl _ _ _ rfl cs Tryz.underlying91 rfl HX.out.size HX.out.at ?_)
 refine (numbers_any cs a 1 _ HX.out.arg).mono ?_
 rintro e V5 ⟨A1,k1,l1,rfl,hb,h1,-⟩
 replace L0:=Lib.hid (L0.out.next hb)
 have L1:=Lib.hid (h1.more HX.out.lt)
 obtain ⟨b1,b1'⟩:=slice_bnd h1
 clear h1
 replace HX:=Lib.hid (HX.out.next hb)
 clear hb
 go_wp2_with (with_reducible refine wpList_load_agg rfl 91 _ rfl _ _ _ rfl cs Tryz.underlying91 rfl HX.out.size HX.out.at ?_)
 refine (askHas cs a 1 _ HX.out.arg).mono ?_
 rintro e V6 ⟨rfl,hb⟩
 replace L0:=Lib.hid (L0.out.next hb)
 replace L1:=Lib.hid (L1.out.next hb)
 replace HX:=Lib.hid (HX.out.next hb)
 clear hb
 have HC:Hid (∀ W,AskI w cs a W→W.cell? ⟨w.heap.size,38,none⟩ = some (.int .i64 (no:Int))):=Lib.hid (fun W h=>h.cell H8.out)
 obtain ⟨z,hz⟩:∃ z,d[kx]? = some z:=⟨_,List.getElem?_eq_getElem hkl⟩
 obtain ⟨z64,b2,o2,rfl,hb2,kz⟩:=L0.out.get hz
 have LB:=Lib.hid (HX.out.back L0.out)
 have HZ:=Lib.hid (And.intro z64 (And.intro hb2 hz))
 clear hz z64 kz hb2
 have hk0:(0:Int) ≤ (kx:Int):=Int.natCast_nonneg _
 have hk1:(kx:Int) < (d.length:Int):=by omega
 have hn0:¬ (no:Int) = 0:=by omega
 generalize a.has 1 = t
 go_upto_if 20 with (fail)
 go_cut [6] from 21 to 42 (fun v wx=>∃ (A6:Option Addr) (k6:Nat) (lp:List Int),v = .slice A6 lp.length k6∧AskI w cs a wx∧LstN w.heap.size wx (some ⟨b2,o2,none⟩) k0 d∧Own wx (w.heap.size + 1) A6 k6 lp)
 case first =>
  cases t with
  | true =>
   go_wp2
   go_meet
   exact ⟨A1,k1,l1,rfl,HX.out,L0.out,L1.out⟩
  | false =>
   have kz:=HX.out.elem LB.out HZ.out.2.2
   have hc:=HC.out _ HX.out
   by_cases hq:z.tmod (no:Int) = 0
   ·go_wp2_with fail
    go_quiet (fail)
    clear kz hc
    have hbb:∀ m,Below V6.heap.size V6 (V6.drewN m):=fun m=>below_drews (Below.refl _ _) m
    generalize hV:World.drewN V6 _ = V59
    have hb:Below V6.heap.size V6 V59:=hV ▸ hbb _
    clear hV hbb
    replace HX:=Lib.hid (HX.out.next hb)
    replace L0:=Lib.hid (L0.out.next hb)
    clear hb
    go_wp2_with fail

    refine wp_region_held_drew (S:=fun W=>AskI w cs a W∧Below V59.heap.size V59 W) (by kernel_rfl) ⟨HX.out.next ((Below.refl _ _).drew),(Below.refl _ _).drew⟩ (fun hHeld=>?_)
    generalize World.drew _ = V61 at hHeld ⊢
    have hb:=hHeld.2
    replace L0:=Lib.hid (L0.out.next hb)
    clear hb
    refine tk0 0 (some 32) (v:=.slice (some ⟨b2,o2,none⟩) d.length k0) rfl hHeld ?_
    refine tk0 1 (some 33) (v:=.int .i64 (kx:Int)) rfl hHeld ?_
    refine tk9 2 (some 34) (v:=.pointer (some ⟨b2,o2 + kx,none⟩)) rfl (yields_idx (by kernel_rfl) _ _ rfl b2 o2 (d.length) k0 kx (by kernel_rfl) (by kernel_rfl) hkl) hHeld ?_
    refine tk9 3 (some 35) (v:=.int .i64 z) rfl (yields_load_one9 (by kernel_rfl) _ _ rfl b2 (o2 + kx) (by kernel_rfl) _ _ Tryz.underlying3 rfl (fun _ h=>h.1.elem LB.out HZ.out.2.2)) hHeld ?_
    refine tk0 4 (some 36) (v:=.pointer (some ⟨w.heap.size,38,none⟩)) rfl hHeld ?_
    refine tk9 5 (some 37) (v:=.int .i64 (no:Int)) rfl (yields_load_one9 (by kernel_rfl) _ _ rfl (w.heap.size) (38) (by kernel_rfl) _ _ Tryz.underlying3 rfl (fun _ h=>h.1.cell H8.out)) hHeld ?_
    refine tk9 6 (some 38) (v:=.int .i64 (wrap64 (Int.tdiv z (no:Int)))) rfl (yields_quoW (by kernel_rfl) _ _ _ _ rfl z (no:Int) (by kernel_rfl) (by kernel_rfl) (by kernel_rfl) hn0) hHeld ?_
    refine tk0 8 (some 40) (v:=.pointer (some ⟨w.heap.size,38,none⟩)) rfl hHeld ?_
    refine tk9 9 (some 41) (v:=.int .i64 (no:Int)) rfl (yields_load_one9 (by kernel_rfl) _ _ rfl (w.heap.size) (38) (by kernel_rfl) _ _ Tryz.underlying3 rfl (fun _ h=>h.1.cell H8.out)) hHeld ?_
    refine oneLay 7 (some 39) rfl rfl (by kernel_rfl) (by kernel_rfl) (.slice (some ⟨V61.heap.size,0,none⟩) 1 1) [.cells #[.int .i64 (wrap64 (Int.tdiv z (no:Int)))] 3] (by kernel_rfl) (held_next hHeld ((Below.refl _ _).alloc (Nat.le_refl _) _)) ?_
    have hb:=(Below.refl V61.heap.size V61).alloc (Nat.le_refl _) (.cells #[.int .i64 (wrap64 (Int.tdiv z (no:Int)))] 3)
    replace hHeld:=held_next hHeld hb
    replace L0:=Lib.hid (L0.out.next hb)
    clear hb
    refine call_d9 10 (some 42) rfl (by kernel_rfl) (by kernel_rfl) (by kernel_rfl) 114 _ _ rfl #[.slice (some ⟨V61.heap.size,0,none⟩) 1 1,.int .i64 (no:Int)] (by kernel_rfl) (fun w=>by kernel_rfl) ?_
    refine (repeat_any (wrap64 (Int.tdiv z (no:Int))) no _ _ _ (lst_new V61 [wrap64 (Int.tdiv z (no:Int))] 3 (by intro y hy;rw [List.mem_singleton.1 hy];exact wrap_i64 _) (by simp)) (by omega)).mono ?_
    rintro e V70 ⟨A6,k6,lp,rfl,hb,hO,-⟩
    have LO:=Lib.hid (hO.more (by have:=hHeld.1.lt;simp only [World.size_alloc] at this ⊢;omega:w.heap.size + 1 ≤ _))
    replace L0:=Lib.hid (L0.out.next hb)
    clear hO
    replace hHeld:=held_next hHeld hb
    refine ⟨_,rfl,hHeld,?_⟩
    clear hb
    refine tk0 11 (some 6) (v:=.slice A6 lp.length k6) rfl hHeld ?_
    refine wpAnyH_done (by kernel_rfl) ?_ _
    replace HX:=Lib.hid hHeld.1
    clear hHeld
    go_wp2
    simp [Act.put]
    go_meet
    exact ⟨A6,k6,lp,rfl,HX.out,L0.out,LO.out⟩
   ·go_wp2_with fail
    go_quiet (fail)
    go_wp2_with fail
    refine (misfit_any _).mono ?_
    rintro e w9 ⟨rfl,rfl⟩
    go_wp2
    go_ret2
    exact sh_bad (HX.out.next (below_drews (Below.refl _ _) _)).below (by unfold I64;omega) (fun e=>by cases e)
 case rest =>
  obtain ⟨A6,k6,lp,rfl,hA,hL,hO⟩:=hcut
  obtain ⟨lb,lb'⟩:=slice_bnd hO
  replace HX:=Lib.hid hA
  replace L0:=Lib.hid hL
  have LP:=Lib.hid hO
  clear hA hL hO L1 b1 b1'
  by_cases hlp:lp.length = no
  ·have hc:=HC.out _ HX.out
   have HLP:=Lib.hid hlp
   rw [hlp]
   clear hlp
   have hq:=below_any lp A6 k6 0 wc LP.out.rep
   rw [HLP.out] at hq
   go_wp2_with fail
   refine hq.mono ?_
   clear hq hc
   rintro e w6 ⟨rfl,hb⟩
   replace HX:=Lib.hid (HX.out.next hb)
   replace L0:=Lib.hid (L0.out.next hb)
   replace LP:=Lib.hid (LP.out.next hb)
   clear hb
   cases (lp.any fun x=>decide (x < 0)) with
   | true =>
    go_wp2_with fail
    refine (misfit_any _).mono ?_
    rintro e w9 ⟨rfl,rfl⟩
    go_wp2
    go_ret2
    exact sh_bad HX.out.below (by unfold I64;omega) (fun e=>by cases e)
   | false =>
    go_wp2_with fail
    go_loopw [7,8,57] (fun s7 v i wr=>∃ (c:Nat) (s:Int) (ll:List (List Int)) (xs:List Value),i = .int .i64 c∧s7 = .int .i64 s∧I64 s∧c ≤ no∧ll.length = c∧LLs w6.heap.size wr v ll xs∧Below w6.heap.size w6 wr) (fun _ _ i _=>no - (intOf i).toNat)
    case atStart=>exact ⟨0,0,[],[],rfl,rfl,by unfold I64;omega,by omega,rfl,LLs.nil _,Below.refl _ _⟩
    case round =>
     obtain ⟨c,s,ll,xs,rfl,rfl,s64,hc,hll,hLL,hB⟩:=hrel
     obtain ⟨wb,rfl⟩:∃ wb,wb = wr:=⟨_,rfl⟩
     have QL:=Lib.hid (And.intro hLL (And.intro hll s64))
     have QB:=Lib.hid hB
     clear hLL hB hll s64
     by_cases hlt:c < no
     ·have hlt':(c:Int) < (no:Int):=by omega
      obtain ⟨y,hy⟩:∃ y,lp[c]? = some y:=⟨_,List.getElem?_eq_getElem (by have:=HLP.out;omega)⟩
      obtain ⟨y64,b3,o3,rfl,hb3,ky,fy⟩:=(LP.out.next QB.out).get hy
      have HY:=Lib.hid y64
      have hj0:(0:Int) ≤ (c:Int):=Int.natCast_nonneg _
      clear hy y64 hb3
      go_wp2_with fail
      clear ky fy
      refine (clone_ints d _ _ (L0.out.next QB.out).lst).mono ?_
      rintro e w7 ⟨v2,rfl,hv,hb⟩
      obtain ⟨D,kd,rfl,hd⟩:=own_of hv
      obtain ⟨u,hu⟩:∃ u,d[kx]? = some u:=⟨_,HZ.out.2.2⟩
      obtain ⟨u64,b4,o4,rfl,hb4,ku,fu⟩:=hd.get hu
      obtain ⟨db,db'⟩:=slice_bnd hd
      have HD:=Lib.hid (And.intro hd (And.intro hb hb4))
      clear hv hb hd hu u64 hb4
      have hown:=own_below QL.out.1.own HD.out.2.1
      have hd1:=HD.out.1.set (j:=kx) hkl HY.out
      have hbb:Below wb.heap.size wb (w7.setCell ⟨b4,o4 + kx,none⟩ (.int .i64 y)):=HD.out.2.1.setCell HD.out.2.2 _
      have hle:(d.set kx y).length = d.length:=List.length_set ..
      go_upto_region 17 with (fail)
      generalize World.setCell _ _ _ = w8 at hd1 hbb ⊢
      generalize d.set kx y = d1 at hd1 hle
      have hown8:=own_below QL.out.1.own hbb
      have H8:=Lib.hid (And.intro hd1 (And.intro hle hbb))
      clear hown hd1 hle hbb ku fu
      go_wp2_with (at_builtin;refine wpList_append_lies _ rfl _ _ 93 rfl w6.heap.size 24 i0 (.slice none 0 0) 1 24 Tryz.underlying93 hi0 hz0 hz1 hz2 rfl (by decide) _ _ _ rfl (hown8.alloc _) _ _ 1 1 [.slice (some ⟨b4,o4,none⟩) d.length kd] rfl rfl (lies_new _ _ _) ?c2 ?c3 ?c4 ?c5 ?_)
      case c2=>first | (intro u hu;simp at hu;subst hu;rfl) | rfl
      case c3=>unfold maxLen;have:=QL.out.2.1;omega
      case c4=>have:=QL.out.2.1;omega
      case c5=>have:=QB.out.size;have:=H8.out.2.2.size;simp;omega
      intro v' w9 hown' hgrow hside
      have hM:=QL.out.1.more H8.out.2.2 H8.out.1 (by rw [H8.out.2.1];exact hown') hgrow hside
      have hb9:Below w6.heap.size w6 w9:=((QB.out.trans (H8.out.2.2.mono QB.out.size)).alloc (by have:=QB.out.size;have:=H8.out.2.2.size;omega) _).grown hgrow (by have:=QB.out.size;have:=H8.out.2.2.size;rw [World.size_alloc];omega) (fun g hg=>(hown8.lt g hg).1)
      have HM:=Lib.hid (And.intro hM hb9)
      clear hown' hgrow hside hM hb9 hown8
      go_wp2
      go_roundw
      case rel=>exact ⟨c + 1,wrap64 (s + y),ll++[d1],_,by go_num,rfl,wrap_i64 _,by omega,by rw [List.length_append,QL.out.2.1];rfl,HM.out.1,HM.out.2⟩
      case measure=>simp [intOf];omega
     ·have hlt':¬ (c:Int) < (no:Int):=by omega
      have kz:=(HX.out.next QB.out).elem LB.out HZ.out.2.2
      obtain ⟨D,kd,rfl,hR⟩:=QL.out.1.fin (by have:=QL.out.2.1;omega)
      have HR:=Lib.hid hR
      clear hR
      by_cases hsz:s = z
      ·subst hsz
       go_wp2
       go_ret2
       exact ⟨D,kd,0,ll,rfl,by unfold I64;omega,(HX.out.next QB.out).below,HR.out,fun _=>by have:=QL.out.2.1;omega⟩
      ·have hsz':(s != z) = true:=by simpa using hsz
       go_wp2_with fail
       refine (misfit_any _).mono ?_
       rintro e w9 ⟨rfl,rfl⟩
       go_wp2
       go_ret2
       exact sh_bad (HX.out.next QB.out).below (by unfold I64;omega) (fun e=>by cases e)
  ·have hc:=HC.out _ HX.out
   have hlp':((lp.length:Int) != (no:Int)) = true:=by simp;omega
   go_wp2_with fail
   refine (misfit_any _).mono ?_
   rintro e w9 ⟨rfl,rfl⟩
   go_wp2
   go_ret2
   exact sh_bad HX.out.below (by unfold I64;omega) (fun e=>by cases e)
end Go.Proofs.YtilobeohkomeoaaGreat
set_option linter.unusedSimpArgs false
set_option linter.unusedVariables false
namespace Go.Proofs.YtilobeohkomeoaaGreat
open Go.RowKit
open Rep (rep)
def OwnM (W:World) (n:Nat) (A:Option Addr) (k:Nat) (l:List Bool):Prop:=rep W (fresh n W.heap.size) [.slice A l.length k] l
section
variable {n k b o:Nat} {W W':World} {A:Option Addr} {l:List Bool}
theorem OwnM.next (h:OwnM W n A k l) (hb:Below W.heap.size W W'):OwnM W' n A k l:=by
 unfold OwnM at *
 exact Rep.more (Rep.keep h (.of_below hb fun _ h=>h.2)) ⟨fun b h=>⟨h.1,Nat.lt_of_lt_of_le h.2 hb.size⟩,fun h=>h⟩
theorem OwnM.get (h:OwnM W n A k l) {j:Nat} {z:Bool} (hz:l[j]? = some z):∃ b o,A = some ⟨b,o,none⟩∧n ≤ b∧W.cell? ⟨b,o + j,none⟩ = some (.bool z)∧W.frozen? ⟨b,o + j,none⟩ = false:=by
 obtain ⟨A',c',xs,hv,hnc,hcm,-,hl,hch⟩:=open_slice (α:=Bool) h
 simp only [Value.slice.injEq,true_and] at hv
 obtain ⟨rfl,rfl⟩:=hv
 obtain ⟨b,o,xc,rfl,hbB,hrz,hcell⟩:=elem_at hl hch (by decide) hz
 have hrz:xc = [.bool z]:=hrz
 subst hrz
 have h0:=hcell 0 _ rfl
 rw [show o + (j * Rep.size Bool + 0) = o + j from by simp [Rep.size]] at h0
 exact ⟨b,o,rfl,hbB.1,h0.1,h0.2 rfl⟩
theorem OwnM.set (h:OwnM W n (some ⟨b,o,none⟩) k l) {j:Nat} (hj:j < l.length) (x:Bool):OwnM (W.setCell ⟨b,o + j,none⟩ (.bool x)) n (some ⟨b,o,none⟩) k (l.set j x):=by
 unfold OwnM at *
 obtain ⟨A,m,c,xs,h1,h2,h3,h4,h5,h6,h7⟩:=h
 simp only [List.cons.injEq,Value.slice.injEq,and_true] at h1
 obtain ⟨rfl,rfl,rfl⟩:=h1
 have e:=chunks_bools h7
 subst e
 have h6':=h6.set_at (j:=j) (by rw [List.length_map];exact hj) (.bool x)
 rw [← List.map_set] at h6'
 rw [size_setC]
 exact ⟨_,_,_,_,rfl,by simp,by rw [List.length_set];exact h3,h4,by simpa using h5,h6',chunks_of_bools _⟩
end
theorem dims_len2 {w W:World} {cs:List Value} {a:AskD} {i:Nat} (h:AskI w cs a W):(a.dims i).length * 8 ≤ 140737488351232:=by
 obtain ⟨_,A,k,-,-,-,-,-,-,hi,-⟩:=h.see
 unfold AskD.dims AskD.val
 by_cases hl:i < a.ins.length
 ·obtain ⟨A',c',xs,hv,hnc,hcm,-,hl',hch⟩:=open_slice hi
  obtain ⟨b,o,zc,-,-,hrz,-⟩:=elem_at hl' hch (by decide) (List.getElem?_eq_getElem hl)
  obtain ⟨A1,k1,A2,k2,A3,k3,A4,k4,A5,k5,rfl,-,h1,-⟩:=open_ValD hrz
  obtain ⟨_,_,_,_,_,_,hb,_,_⟩:=open_slice h1
  rw [List.getD_eq_getElem?_getD,List.getElem?_eq_getElem hl]
  exact hb
 ·rw [List.getD_eq_getElem?_getD,List.getElem?_eq_none (by omega)]
  simp [zeroVD]
set_option maxRecDepth 100000 in
set_option maxHeartbeats 8000000 in
theorem over_any (cs:List Value) (a:AskD) (w:World) (hr:rep w (old w.heap.size) cs a) :
  Calls Tryz.prog 112 #[.agg cs.toArray] w fun e w'=>∃ (A:Option Addr) (k:Nat) (x:Int) (bs:List Bool),e = .returned (.tuple #[.slice A bs.length k,.int .i64 x])∧I64 x∧Below w.heap.size w w'∧rep w' (old w'.heap.size) [.slice A bs.length k] bs∧(x = 0→bs.length = (a.dims 0).length):=by
 obtain ⟨ss,hs,hc⟩:=ask_set hr
 obtain ⟨Ax,kx,hx1,hx2⟩:=fld_list hs.f1
 have HC:=Lib.hid (And.intro (hc 0 _ (fld_int hs.f0).1) (And.intro (hc 1 _ hx1) (And.intro (hc 4 _ (fld_bool hs.f4)) (And.intro (fld_int hs.f0).2 (And.intro hx2 (ask_op hr).1)))))
 obtain ⟨xb,xb'⟩:=slice_bnd hx2
 clear hs hc hx1 hx2
 go_enter Tryz.func112,Tryz.ntmps112
 go_wp2_with (with_reducible refine wpList_box_row rfl 91 _ rfl cs rfl ?_;have hX:=ask_start hr;generalize World.alloc _ _ = W0 at hX ⊢;have HX:=Lib.hid hX;clear hX hr;refine halt ?_)
 unfold Halt
 have ca:=HX.out.cell HC.out.2.1
 have c0:=HX.out.cell HC.out.2.2.2.2.2
 have cx:=HX.out.cell HC.out.1
 go_upto_block 0 with (fail)
 go_cut [4] from 8 to 26 (fun v wx=>∃ (A:Option Addr) (k:Nat) (l:List Int),v = .slice A l.length k∧AskI w cs a wx∧Lst wx A k l)
 case first =>
  have hax:=HX.out.stay HC.out.2.2.2.2.1
  have HAX:=Lib.hid (HX.out.up hax)
  clear hax
  have HOP:Hid (cs[0]? = some (.int .i64 a.op)):=Lib.hid HC.out.2.2.2.2.2
  generalize a.op = op at c0 ⊢
  by_cases h70:op = 70 ∨ op = 71
  ·have hb:Below W0.heap.size W0 (W0.alloc (.cells #[.int .i64 a.s.axis] 3)):=(Below.refl _ _).alloc (Nat.le_refl _) _
   have HB:=Lib.hid (And.intro (HX.out.next hb) (lst_new W0 [a.s.axis] 3 (by intro y hy;rw [List.mem_singleton.1 hy];exact HC.out.2.2.2.1) (by simp)))
   clear hb
   rcases h70 with rfl | rfl
   all_goals
    go_wp2
    go_meet
    exact ⟨some ⟨W0.heap.size,0,none⟩,1,[a.s.axis],rfl,HB.out.1,HB.out.2⟩
  ·have h70':¬ op = 70:=fun e=>h70 (.inl e)
   have h71':¬ op = 71:=fun e=>h70 (.inr e)
   clear h70
   by_cases h65:op = 65
   ·subst h65
    go_wp2_with (with_reducible refine wpList_load_agg rfl 91 _ rfl _ _ _ rfl cs Tryz.underlying91 rfl HX.out.size HX.out.at ?_)
    clear c0 ca cx
    refine (numbers_any cs a 1 _ HX.out.arg).mono ?_
    rintro e w5 ⟨A1,k1,l1,rfl,hb,h1,-⟩
    replace HX:=Lib.hid (HX.out.next hb)
    have L1:=Lib.hid h1
    obtain ⟨b1,b1'⟩:=slice_bnd h1
    clear hb h1
    go_wp2_with (with_reducible refine wpList_load_agg rfl 91 _ rfl _ _ _ rfl cs Tryz.underlying91 rfl HX.out.size HX.out.at ?_)
    refine (askHas cs a 1 _ HX.out.arg).mono ?_
    rintro e w6 ⟨rfl,hb⟩
    replace HX:=Lib.hid (HX.out.next hb)
    replace L1:=Lib.hid (L1.out.next hb)
    clear hb
    cases a.has 1 with
    | true =>
     go_wp2
     go_meet
     exact ⟨A1,k1,l1,rfl,HX.out,L1.out.lst⟩
    | false =>
     go_wp2
     go_meet
     exact ⟨none,0,[],rfl,HX.out,rep_nil _ _⟩
   ·go_wp2
    go_meet
    exact ⟨Ax,kx,a.s.axes,rfl,HX.out,HAX.out⟩
 case rest =>
  obtain ⟨A,k,l,rfl,hA,hL⟩:=hcut
  clear ca c0 cx
  replace HX:=Lib.hid hA
  have HL:=Lib.hid hL
  obtain ⟨lb,lb'⟩:=slice_bnd hL
  clear hA hL
  go_wp2_with (with_reducible refine wpList_load_agg rfl 91 _ rfl _ _ _ rfl cs Tryz.underlying91 rfl HX.out.size HX.out.at ?_)
  refine (askRank cs a _ HX.out.arg).mono ?_
  rintro e w5 ⟨rfl,hb⟩
  replace HX:=Lib.hid (HX.out.next hb)
  replace HL:=Lib.hid (HL.out.next hb)
  clear hb
  have hd:=dims_len (i:=0) HX.out
  go_wp2_with fail
  refine (axes_any l A k (a.dims 0).length w5 HL.out (by unfold I64;omega)).mono ?_
  rintro e w6 ⟨B,kb,x,bs,rfl,hx,hb,hB,hax,-⟩
  have HM:=Lib.hid (And.intro (show OwnM w6 w5.heap.size B kb bs from hB) (And.intro hx hax))
  have HLT:=Lib.hid HX.out.lt
  replace HX:=Lib.hid (HX.out.next hb)
  obtain ⟨mb,mb'⟩:=slice_bnd hB
  clear hx hb hB hax
  have c0:=HX.out.cell HC.out.2.2.2.2.2
  have cn:=HX.out.cell HC.out.2.2.1
  generalize a.op = op at c0
  generalize a.s.noop = nn at cn
  have hfin:x = 0→bs.length = (a.dims 0).length:=fun e=>by have:=(HM.out.2.2 e).1;omega
  have HF:=Lib.hid hfin
  clear hfin
  by_cases hl0:l.length = 0
  ·rw [hl0]
   clear lb hl0
   by_cases hop:op = 65∧nn = true
   ·obtain ⟨rfl,rfl⟩:=hop
    go_wp2
    go_ret2
    exact ⟨B,kb,x,bs,rfl,HM.out.2.1,HX.out.below,Rep.more HM.out.1 ⟨fun _ h=>h.2,fun h=>by cases h⟩,HF.out⟩
   ·have hcond:((op == 65) && nn) = false:=by
     cases nn
     ·simp
     ·simp at hop ⊢
      exact hop
    by_cases h65:op = 65
    ·subst h65
     have hnn:nn = false:=by simpa using hcond
     subst hnn
     clear hcond hop
     go_wp2_with fail
     clear c0 cn
     go_loopw [50] (fun i wr=>∃ (c:Nat) (bs':List Bool),i = .int .i64 c∧c ≤ bs.length∧bs'.length = bs.length∧OwnM wr w5.heap.size B kb bs'∧Below w.heap.size w wr) (fun i _=>bs.length - (intOf i).toNat)
     case atStart=>exact ⟨0,bs,rfl,by omega,rfl,HM.out.1,HX.out.below⟩
     case round =>
      obtain ⟨c,bs',rfl,hc,hbl,hO,hB⟩:=hrel
      obtain ⟨wb,rfl⟩:∃ wb,wb = wr:=⟨_,rfl⟩
      have HO:=Lib.hid (And.intro hO (And.intro hB hbl))
      clear hO hB hbl
      by_cases hlt:c < bs.length
      ·have hlt':(c:Int) < (bs.length:Int):=by omega
       obtain ⟨z,hz⟩:∃ z,bs'[c]? = some z:=⟨_,List.getElem?_eq_getElem (by have:=HO.out.2.2;omega)⟩
       obtain ⟨b2,o2,rfl,hb2,kz,fz⟩:=HO.out.1.get hz
       have HZ:=Lib.hid hb2
       have hk0:(0:Int) ≤ (c:Int):=Int.natCast_nonneg _
       clear hz hb2
       go_wp2
       go_roundw
       case rel=>exact ⟨c + 1,bs'.set c true,by go_num,by omega,by rw [List.length_set];exact HO.out.2.2,HO.out.1.set (by have:=HO.out.2.2;omega) true,HO.out.2.1.setCell (p:=⟨b2,o2 + c,none⟩) (by have:=HZ.out;have:=HLT.out;simp only;omega) _⟩
       case measure=>simp [intOf];omega
      ·have hlt':¬ (c:Int) < (bs.length:Int):=by omega
       go_wp2
       go_ret2
       obtain ⟨h1,h2,h3⟩:=HO.out
       exact ⟨B,kb,x,bs',by rw [h3];rfl,HM.out.2.1,h2,Rep.more h1 ⟨fun _ h=>h.2,fun h=>by cases h⟩,fun e=>by rw [h3];exact HF.out e⟩
    ·clear hop hcond
     go_wp2_with fail
     clear c0 cn
     go_loopw [50] (fun i wr=>∃ (c:Nat) (bs':List Bool),i = .int .i64 c∧c ≤ bs.length∧bs'.length = bs.length∧OwnM wr w5.heap.size B kb bs'∧Below w.heap.size w wr) (fun i _=>bs.length - (intOf i).toNat)
     case atStart=>exact ⟨0,bs,rfl,by omega,rfl,HM.out.1,HX.out.below⟩
     case round =>
      obtain ⟨c,bs',rfl,hc,hbl,hO,hB⟩:=hrel
      obtain ⟨wb,rfl⟩:∃ wb,wb = wr:=⟨_,rfl⟩
      have HO:=Lib.hid (And.intro hO (And.intro hB hbl))
      clear hO hB hbl
      by_cases hlt:c < bs.length
      ·have hlt':(c:Int) < (bs.length:Int):=by omega
       obtain ⟨z,hz⟩:∃ z,bs'[c]? = some z:=⟨_,List.getElem?_eq_getElem (by have:=HO.out.2.2;omega)⟩
       obtain ⟨b2,o2,rfl,hb2,kz,fz⟩:=HO.out.1.get hz
       have HZ:=Lib.hid hb2
       have hk0:(0:Int) ≤ (c:Int):=Int.natCast_nonneg _
       clear hz hb2
       go_wp2
       go_roundw
       case rel=>exact ⟨c + 1,bs'.set c true,by go_num,by omega,by rw [List.length_set];exact HO.out.2.2,HO.out.1.set (by have:=HO.out.2.2;omega) true,HO.out.2.1.setCell (p:=⟨b2,o2 + c,none⟩) (by have:=HZ.out;have:=HLT.out;simp only;omega) _⟩
       case measure=>simp [intOf];omega
      ·have hlt':¬ (c:Int) < (bs.length:Int):=by omega
       go_wp2
       go_ret2
       obtain ⟨h1,h2,h3⟩:=HO.out
       exact ⟨B,kb,x,bs',by rw [h3];rfl,HM.out.2.1,h2,Rep.more h1 ⟨fun _ h=>h.2,fun h=>by cases h⟩,fun e=>by rw [h3];exact HF.out e⟩
  ·have hl0':¬ (l.length:Int) = 0:=by omega
   go_wp2
   go_ret2
   exact ⟨B,kb,x,bs,rfl,HM.out.2.1,HX.out.below,Rep.more HM.out.1 ⟨fun _ h=>h.2,fun h=>by cases h⟩,HF.out⟩
set_option maxRecDepth 100000 in
set_option maxHeartbeats 8000000 in
theorem reduced_any (cs:List Value) (a:AskD) (w:World) (hr:rep w (old w.heap.size) cs a) :
  Calls Tryz.prog 75 #[.agg cs.toArray] w (ShP w P1):=by
 obtain ⟨ss,hs,hc⟩:=ask_set hr
 have HC:=Lib.hid (And.intro (hc 3 _ (fld_bool hs.f3)) (ask_op hr).1)
 obtain ⟨i0,hi0,hz0,hz1,hz2⟩:=info_parts intInfo
 clear hs hc
 go_enter Tryz.func75,Tryz.ntmps75
 go_wp2_with (with_reducible refine wpList_box_row rfl 91 _ rfl cs rfl ?_;have hX:=ask_start hr;generalize World.alloc _ _ = W0 at hX ⊢;have HX:=Lib.hid hX;clear hX hr;refine halt ?_)
 unfold Halt
 go_wp2_with (with_reducible refine wpList_load_agg rfl 91 _ rfl _ _ _ rfl cs Tryz.underlying91 rfl HX.out.size HX.out.at ?_)
 refine (over_any cs a _ HX.out.arg).mono ?_
 rintro e w5 ⟨B,kb,x,bs,rfl,hx,hb,hB,hfin⟩
 replace HX:=Lib.hid (HX.out.next hb)
 have HM:=Lib.hid (And.intro hB (And.intro hx hfin))
 obtain ⟨mb,mb'⟩:=slice_bnd hB
 clear hx hb hB hfin
 by_cases hx0:x = 0
 ·subst hx0
  go_wp2_with (with_reducible refine wpList_load_agg rfl 91 _ rfl _ _ _ rfl cs Tryz.underlying91 rfl HX.out.size HX.out.at ?_)
  refine (askDims cs a 0 _ HX.out.arg).mono ?_
  rintro e w6 ⟨A0,k0,rfl,h0,hb⟩
  have hdl:=dims_len2 (i:=0) HX.out
  replace HX:=Lib.hid (HX.out.next hb)
  have L0:=Lib.hid (show Lst w6 A0 k0 (a.dims 0) from h0)
  have HB:=Lib.hid (Rep.more (Rep.keep HM.out.1 (Keeps.old_below hb (Nat.le_refl _))) (old_le hb.size))
  obtain ⟨b0,b0'⟩:=slice_bnd h0
  have HL:=Lib.hid (HM.out.2.2 (by simp))
  clear hb h0
  generalize a.dims 0 = d at L0 b0 hdl HL ⊢
  go_wp2_with fail
  go_loopw [6,22] (fun v i wr=>∃ (c:Nat) (out:List Int),i = .int .i64 c∧c ≤ d.length∧out.length ≤ c∧AppI w6 wr v out) (fun _ i _=>d.length - (intOf i).toNat)
  case atStart=>exact ⟨0,[],rfl,by omega,by simp,AppI.nil _⟩
  case round =>
   obtain ⟨c,out,rfl,hc,hoc,hA⟩:=hrel
   obtain ⟨wb,rfl⟩:∃ wb,wb = wr:=⟨_,rfl⟩
   have HA:=Lib.hid hA
   have HBB:=Lib.hid hA.below
   clear hA
   by_cases hlt:c < d.length
   ·have hlt':(c:Int) < (d.length:Int):=by omega
    obtain ⟨z,hz⟩:∃ z,d[c]? = some z:=⟨_,List.getElem?_eq_getElem hlt⟩
    obtain ⟨m,hm⟩:∃ m,bs[c]? = some m:=⟨_,List.getElem?_eq_getElem (by have:=HL.out;omega)⟩
    obtain ⟨z64,b2,o2,rfl,hb2,kz⟩:=int_at L0.out hz
    obtain ⟨b3,o3,rfl,hb3,km⟩:=bool_at HB.out hm
    have hb2:b2 < w6.heap.size:=hb2
    have hb3:b3 < w6.heap.size:=hb3
    have kz':wb.cell? ⟨b2,o2 + c,none⟩ = some (.int .i64 z):=(HBB.out.cell (p:=⟨b2,o2 + c,none⟩) hb2).trans kz
    have km':wb.cell? ⟨b3,o3 + c,none⟩ = some (.bool m):=(HBB.out.cell (p:=⟨b3,o3 + c,none⟩) hb3).trans km
    have HQ:=Lib.hid (HX.out.next HBB.out)
    have c0:=HQ.out.cell HC.out.2
    have ck:=HQ.out.cell HC.out.1
    have HZ:=Lib.hid z64
    have hk0:(0:Int) ≤ (c:Int):=Int.natCast_nonneg _
    have hlb:(c:Int) < (bs.length:Int):=by have:=HL.out;omega
    clear hz hm kz km hb2 hb3 z64
    generalize a.op = op at c0
    generalize a.s.keeps = kp at ck
    have HB:=HBB
    cases m with
    | false =>
     go_wp2_with (at_builtin;refine wpList_append_lies _ rfl _ _ 24 rfl w6.heap.size 3 i0 (.int .i64 0) 1 8 Tryz.underlying24 hi0 hz0 hz1 hz2 rfl (by decide) _ _ _ rfl (HA.out.own.alloc _) _ _ 1 1 [.int .i64 z] rfl rfl (lies_new _ _ _) ?c2 ?c3 ?c4 ?c5 ?_)
     case c2=>first | (intro u hu;simp at hu;subst hu;rfl) | rfl
     case c3=>unfold maxLen;omega
     case c4=>omega
     case c5=>have:=HB.out.size;simp;omega
     intro v' w7 hown' hgrow _
     go_wp2
     go_roundw
     case rel=>exact ⟨c + 1,out++[z],by go_num,by omega,by simp;omega,HA.out.more HZ.out hown' hgrow⟩
     case measure=>simp [intOf];omega
    | true =>
     by_cases hbad:z = 0∧op ≠ 65∧op ≠ 69
     ·obtain ⟨rfl,h65,h69⟩:=hbad
      have h65':(op != 65) = true:=by simpa using h65
      have h69':(op != 69) = true:=by simpa using h69
      go_wp2_with fail
      refine (misfit_any _).mono ?_
      rintro e w9 ⟨rfl,rfl⟩
      go_wp2
      go_ret2
      exact sh_misfit HQ.out.below
     ·have hok:(z = 0∧op = 65) ∨ (z = 0∧op = 69) ∨ ¬ z = 0:=by omega
      clear hbad
      rcases hok with ⟨rfl,rfl⟩ | ⟨rfl,rfl⟩ | hzz
      all_goals
       cases kp with
       | true =>
        go_wp2_with (at_builtin;refine wpList_append_lies _ rfl _ _ 24 rfl w6.heap.size 3 i0 (.int .i64 0) 1 8 Tryz.underlying24 hi0 hz0 hz1 hz2 rfl (by decide) _ _ _ rfl (HA.out.own.alloc _) _ _ 1 1 [.int .i64 1] rfl rfl (lies_new _ _ _) ?c2 ?c3 ?c4 ?c5 ?_)
        case c2=>first | (intro u hu;simp at hu;subst hu;rfl) | rfl
        case c3=>unfold maxLen;omega
        case c4=>omega
        case c5=>have:=HB.out.size;simp;omega
        intro v' w7 hown' hgrow _
        go_wp2
        go_roundw
        case rel=>exact ⟨c + 1,out++[1],by go_num,by omega,by simp;omega,HA.out.more (by unfold I64;omega) hown' hgrow⟩
        case measure=>simp [intOf];omega
       | false =>
        go_wp2
        go_roundw
        case rel=>exact ⟨c + 1,out,by go_num,by omega,by omega,HA.out⟩
        case measure=>simp [intOf];omega
   ·have hlt':¬ (c:Int) < (d.length:Int):=by omega
    obtain ⟨D,kd,rfl,ho⟩:=HA.out.list (by omega)
    obtain ⟨ob,ob'⟩:=slice_bnd ho
    have HO2:=Lib.hid ho
    clear ho
    go_wp2_with fail
    refine (one_any out D kd _ HO2.out.rep).mono ?_
    rintro e w8 ⟨D',j,x,ll,rfl,hx,hb,hl,rfl,rfl⟩
    have HC:=Lib.hid (And.intro ((HX.out.next HBB.out).trans hb) hl)
    clear hx hb hl
    go_wp2
    go_ret2
    exact ⟨D',j,0,_,rfl,by unfold I64;omega,HC.out.1,HC.out.2,fun _=>rfl⟩
 ·have hx0':(x != 0) = true:=by simpa using hx0
  go_wp2_with fail
  refine (misfit_any _).mono ?_
  rintro e w9 ⟨rfl,rfl⟩
  go_wp2
  go_ret2
  exact sh_misfit HX.out.below
end Go.Proofs.YtilobeohkomeoaaGreat
set_option linter.unusedSimpArgs false
set_option linter.unusedVariables false
namespace Go.Proofs.YtilobeohkomeoaaGreat
open Go.RowKit
open Rep (rep)
set_option maxRecDepth 100000 in
set_option maxHeartbeats 8000000 in
theorem ranged1_any (x lo:Int) (q:Addr) (w:World) (hq:w.cell? q = some (.int .i64 lo)):Calls Tryz.prog 135 #[.int .i64 x,.pointer (some q)] w fun e w'=>e = .returned (.bool (decide (x < lo) || decide (x > 4096)))∧w' = w:=by
 by_cases h:x < lo
 ·go_enter Tryz.func135,Tryz.ntmps135
  go_wp2
  go_ret
  exact ⟨by simp [h],rfl⟩
 ·go_enter Tryz.func135,Tryz.ntmps135
  go_wp2
  go_ret
  exact ⟨by rw [decide_eq_false (by omega:¬ x < lo)];rfl,rfl⟩
theorem three {p:Int→Prop} {a b c:Int} (ha:p a) (hb:p b) (hc:p c):∀ x ∈ [a,b,c],p x:=fun x hx=>by
 simp only [List.mem_cons,List.not_mem_nil,or_false] at hx
 rcases hx with rfl | rfl | rfl
 ·exact ha
 ·exact hb
 ·exact hc
set_option maxRecDepth 100000 in
set_option maxHeartbeats 8000000 in
theorem ranged_any (l:List Int) (A:Option Addr) (k:Nat) (lo:Int) (w:World) (hr:Lst w A k l) :
  Calls Tryz.prog 131 #[.int .i64 lo,.slice A l.length k] w fun e w'=>(∃ c,e = .returned (.bool c)∧(c = true→∀ x ∈ l,lo ≤ x∧x ≤ 4096))∧Below w.heap.size w w':=by
 have HR:=Lib.hid hr
 clear hr
 go_enter Tryz.func131,Tryz.ntmps131
 go_wp2_with fail
 have hb:Below w.heap.size w (w.alloc (.cells #[.int .i64 lo] 3)):=(Below.refl _ _).alloc (Nat.le_refl _) _
 have hc:(w.alloc (.cells #[.int .i64 lo] 3)).cell? ⟨w.heap.size,0,none⟩ = some (.int .i64 lo):=cell_of_row _ _ _ _ _ _ (heap_alloc_new _ _)
 have hr:=HR.out.next hb
 generalize World.alloc _ _ = W1 at hb hc hr ⊢
 have H:=Lib.hid (And.intro hb hc)
 clear hb hc
 refine (containsInts_any l _ 135 ⟨w.heap.size,0,none⟩ (fun x=>decide (x < lo) || decide (x > 4096)) (fun W=>W = W1) W1 (fun _ _=>rfl) hr rfl (fun W h=>by rw [h];exact Below.refl _ _) fun x _ _ W hW=>(ranged1_any x lo _ W (by rw [hW];exact H.out.2)).mono (by rintro e w' ⟨rfl,rfl⟩;exact ⟨rfl,hW⟩)).mono ?_
 rintro e w1 ⟨rfl,rfl⟩
 have ht:∀ t:Bool,(l.any fun x=>decide (x < lo) || decide (x > 4096)) = t→((!t) = true→∀ x ∈ l,lo ≤ x∧x ≤ 4096):=fun t ht h x hx=>by
  cases t with
  | true=>cases h
  | false =>
   have:=List.any_eq_false.1 ht x hx
   simp at this
   omega
 have HT:=Lib.hid (ht _ rfl)
 clear ht
 generalize (l.any fun x=>decide (x < lo) || decide (x > 4096)) = t at HT ⊢
 go_wp2
 go_ret
 exact ⟨⟨!t,rfl,HT.out⟩,H.out.1⟩
set_option maxRecDepth 100000 in
set_option maxHeartbeats 8000000 in
theorem window_any (sz kn st di ah bh au:Int) (ce:Bool) (w:World) (h0:I64 sz) (h1:I64 kn) (h2:I64 st) (h3:I64 di) (h4:I64 ah) (h5:I64 bh) (h6:I64 au) :
  Calls Tryz.prog 122 #[.int .i64 sz,.int .i64 kn,.int .i64 st,.int .i64 di,.int .i64 ah,.int .i64 bh,.int .i64 au,.bool ce] w fun e w'=>(∃ x y z,e = .returned (.tuple #[.int .i64 x,.int .i64 y,.int .i64 z])∧I64 x∧I64 z)∧Below w.heap.size w w':=by
 have HI:=Lib.hid (And.intro h0 (And.intro h1 (And.intro h2 (And.intro h3 (And.intro h4 h5)))))
 clear h0 h1 h2 h3 h4 h5 h6
 go_enter Tryz.func122,Tryz.ntmps122
 go_wp2_with fail
 refine (ranged_any [sz,ah,bh] _ 3 0 _ (lst_new w [sz,ah,bh] 3 (three HI.out.1 HI.out.2.2.2.2.1 HI.out.2.2.2.2.2) (by simp))).mono ?_
 rintro e w1 ⟨⟨t1,rfl,hr1⟩,hb⟩
 have HB:Hid (Below w.heap.size w w1):=Lib.hid (((Below.refl _ _).alloc (Nat.le_refl _) _).trans (hb.mono (by rw [World.size_alloc];omega)))
 have HR1:=Lib.hid hr1
 clear hb hr1
 cases t1 with
 | false =>
  go_wp2
  go_ret3
  exact ⟨⟨0,0,1,rfl,by unfold I64;omega,by unfold I64;omega⟩,HB.out⟩
 | true =>
  go_wp2_with fail
  refine (ranged_any [kn,st,di] _ 3 1 _ (lst_new w1 [kn,st,di] 3 (three HI.out.2.1 HI.out.2.2.1 HI.out.2.2.2.1) (by simp))).mono ?_
  rintro e w2 ⟨⟨t2,rfl,hr2⟩,hb⟩
  replace HB:Hid (Below w.heap.size w w2):=Lib.hid (HB.out.trans (((Below.refl _ _).alloc HB.out.size _).trans (hb.mono (by have:=HB.out.size;rw [World.size_alloc];omega))))
  have HR2:=Lib.hid hr2
  clear hb hr2
  cases t2 with
  | false =>
   go_wp2
   go_ret3
   exact ⟨⟨0,0,1,rfl,by unfold I64;omega,by unfold I64;omega⟩,HB.out⟩
  | true =>
   have hst:=(HR2.out rfl) st (by simp)
   have hst0:¬ st = 0:=by omega
   have hst1:1 ≤ st:=hst.1
   clear hst
   go_upto_region 3 with (fail)
   go_cut [19] from 38 to 42 (fun v wx=>∃ y:Int,v = .int .i64 y∧I64 y∧w2 = wx)
   case first =>
    go_wp2
    go_meet
    exact ⟨_,rfl,wrap_i64 _,rfl⟩
   case rest =>
    obtain ⟨ex,rfl,hex,rfl⟩:=hcut
    have HE:=Lib.hid hex
    clear hex
    go_upto_block 0 with (fail)
    go_cut [4,5] from 44 to 72 (fun v u wx=>∃ x y:Int,v = .int .i64 x∧u = .int .i64 y∧I64 x∧I64 y∧w2 = wx)
    case first =>
     by_cases h9:au = 9 ∨ au = 10
     ·rcases h9 with rfl | rfl
      all_goals
       go_wp2
      all_goals
       go_ret3
       exact ⟨⟨_,_,_,rfl,by first | exact wrap_i64 _ | (unfold I64;omega),by unfold I64;omega⟩,HB.out⟩
     ·have h9':¬ au = 9:=fun e=>h9 (.inl e)
      have h10:¬ au = 10:=fun e=>h9 (.inr e)
      clear h9
      by_cases h8:au = 8
      ·subst h8
       go_wp2
       go_meet
       exact ⟨0,0,rfl,rfl,by unfold I64;omega,by unfold I64;omega,rfl⟩
      ·go_wp2
       go_meet
       exact ⟨ah,bh,rfl,rfl,HI.out.2.2.2.2.1,HI.out.2.2.2.2.2,rfl⟩
    case rest =>
     obtain ⟨ah2,bh2,rfl,rfl,ha,hb,rfl⟩:=hcut
     clear ha hb
     go_upto_region 16 with (fail)
     go_cut [22] from 73 to 79 (fun v wx=>∃ y:Int,v = .int .i64 y∧w2 = wx)
     case first =>
      go_wp2
      go_meet
      exact ⟨_,rfl,rfl⟩
     case rest =>
      obtain ⟨room,rfl,rfl⟩:=hcut
      by_cases hr0:room < 0
      ·go_wp2
       go_ret3
       exact ⟨⟨0,0,3,rfl,by unfold I64;omega,by unfold I64;omega⟩,HB.out⟩
      ·go_upto_region 19 with (fail)
       go_cut [23] from 82 to 85 (fun v wx=>∃ y:Int,v = .int .i64 y∧I64 y∧w2 = wx)
       case first =>
        go_wp2
        go_meet
        exact ⟨_,rfl,wrap_i64 _,rfl⟩
       case rest =>
        obtain ⟨n,rfl,hn,rfl⟩:=hcut
        have HN:=Lib.hid hn
        clear hn
        go_wp2
        all_goals
         go_ret3
         exact ⟨⟨_,_,_,rfl,by first | exact wrap_i64 _ | exact HN.out,by unfold I64;omega⟩,HB.out⟩
end Go.Proofs.YtilobeohkomeoaaGreat
