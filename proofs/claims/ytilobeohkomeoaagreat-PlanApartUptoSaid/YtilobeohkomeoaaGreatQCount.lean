/-
  Chapter 10: Squeeze and Unsqueeze. No condition.
-/
/-
  Chapter 10: how many places a slice takes. No condition.
-/
import Derived.Test.YtilobeohkomeoaaGreatQInfK
set_option linter.unusedSimpArgs false
set_option linter.unusedVariables false
namespace Go.Proofs.YtilobeohkomeoaaGreat
open Go.RowKit
open Rep (rep)
theorem bool_at {W:World} {A:Option Addr} {k:Nat} {l:List Bool} {Z:Zone} (h:rep W Z [.slice A l.length k] l) {j:Nat} {z:Bool} (hz:l[j]? = some z):∃ b o,A = some ⟨b,o,none⟩∧Z.blk b∧W.cell? ⟨b,o + j,none⟩ = some (.bool z):=by
 obtain ⟨A',c',xs,hv,hnc,hcm,-,hl,hch⟩:=open_slice h
 simp only [Value.slice.injEq,true_and] at hv
 obtain ⟨rfl,rfl⟩:=hv
 obtain ⟨b,o,xc,rfl,hbB,hrz,hcell⟩:=elem_at hl hch (by decide) hz
 have hrz:xc = [.bool z]:=hrz
 subst hrz
 have h0:=hcell 0 _ rfl
 rw [show o + (j * Rep.size Bool + 0) = o + j from by simp [Rep.size]] at h0
 exact ⟨b,o,rfl,hbB,h0.1⟩
structure AppI (B:World) (W:World) (v:Value) (l:List Int):Prop where
 own:W.ownsRow B.heap.size 3 1 v l.length (l.map (Value.int .i64))
 ints:∀ x ∈ l,I64 x
 below:Below B.heap.size B W
theorem AppI.nil (B:World):AppI B B (.slice none 0 0) []:=⟨World.ownsRow_nil _ _ _ _,by simp,Below.refl _ _⟩
theorem AppI.next {B W W':World} {v:Value} {l:List Int} (h:AppI B W v l) (hb:Below W.heap.size W W'):AppI B W' v l:=⟨own_below h.own hb,h.ints,h.below.trans (hb.mono h.below.size)⟩
theorem AppI.more {B W W':World} {v v':Value} {l:List Int} {x:Int} {ob:Obj} (h:AppI B W v l) (hx:I64 x) (hown:W'.ownsRow B.heap.size 3 1 v' (l.length + 1) (l.map (Value.int .i64)++[.int .i64 x])) (hg:(W.alloc ob).grownBy W' v.ownBlock):AppI B W' v' (l++[x]) :=
 ⟨by rw [List.length_append,List.map_append];exact hown,fun y hy=>(List.mem_append.1 hy).elim (h.ints y) (fun h'=>by rw [List.mem_singleton.1 h'];exact hx),
  (h.below.alloc h.below.size _).grown hg (by have:=h.below.size;rw [World.size_alloc];omega) (fun g hg=>(h.own.lt g hg).1)⟩
theorem AppI.lst {B W:World} {v:Value} {l:List Int} (h:AppI B W v l) (hl:l.length ≤ 100000):∃ A k,v = .slice A l.length k∧Own W B.heap.size A k l:=own_row h.own (by omega) h.ints
set_option maxRecDepth 100000 in
set_option maxHeartbeats 8000000 in
theorem squeezed_56 (cs:List Value) (a:AskD) (w:World) (hr:rep w (old w.heap.size) cs a) (hop:a.op = 56) :
  Calls Tryz.prog 110 #[.agg cs.toArray] w (ShP w P1):=by
 obtain ⟨i0,hi0,hz0,hz1,hz2⟩:=info_parts intInfo
 have HO:=Lib.hid (ask_op hr).1
 go_enter Tryz.func110,Tryz.ntmps110
 go_wp2_with (with_reducible refine wpList_box_row rfl 91 _ rfl cs rfl ?_;have hX:=ask_start hr;generalize World.alloc _ _ = W0 at hX ⊢;have HX:=Lib.hid hX;clear hX hr;refine halt ?_)
 unfold Halt
 go_wp2_with fail
 refine wp_region_held_drew (S:=fun W=>AskI w cs a W∧Below W0.heap.size W0 W) (by kernel_rfl) ⟨HX.out.next ((Below.refl _ _).drew),(Below.refl _ _).drew⟩ (fun hHeld=>?_)
 generalize World.drew _ = V2 at hHeld ⊢
 have hb:=hHeld.2
 clear hb
 refine tk9 0 (some 12) (v:=.agg cs.toArray) rfl (yields_ask (by kernel_rfl) _ rfl (by kernel_rfl) (fun _ h=>h.1)) hHeld ?_
 refine tk9 2 (some 14) (v:=.agg cs.toArray) rfl (yields_ask (by kernel_rfl) _ rfl (by kernel_rfl) (fun _ h=>h.1)) hHeld ?_
 refine call_d9 1 (some 13) rfl (by kernel_rfl) (by kernel_rfl) (by kernel_rfl) 70 _ _ rfl #[.agg cs.toArray,.int .i64 0] (by kernel_rfl) (fun w=>by kernel_rfl) ?_
 refine (askDims' cs a 0 w.heap.size _ hHeld.1.below.size hHeld.1.arg0).mono ?_
 rintro e V3 ⟨A0,k0,rfl,h0,hb⟩
 have L0:=Lib.hid (lst_n hHeld.1 hb h0)
 obtain ⟨b0,b0'⟩:=slice_bnd h0
 clear h0
 replace hHeld:=held_next hHeld hb
 refine ⟨_,rfl,hHeld,?_⟩
 clear hb
 refine call_d9 3 (some 15) rfl (by kernel_rfl) (by kernel_rfl) (by kernel_rfl) 117 _ _ rfl #[.agg cs.toArray,.int .i64 1] (by kernel_rfl) (fun w=>by kernel_rfl) ?_
 refine (numbers_any cs a 1 _ hHeld.1.arg).mono ?_
 rintro e V4 ⟨A1,k1,l1,rfl,hb,h1,-⟩
 replace L0:=Lib.hid (L0.out.next hb)
 have L1:=Lib.hid (h1.more hHeld.1.lt)
 obtain ⟨b1,b1'⟩:=slice_bnd h1
 clear h1
 replace hHeld:=held_next hHeld hb
 refine ⟨_,rfl,hHeld,?_⟩
 clear hb
 refine tk0 4 (some 4) (v:=.slice A0 (a.dims 0).length k0) rfl hHeld ?_
 refine tk0 5 (some 5) (v:=.slice A1 l1.length k1) rfl hHeld ?_
 refine wpAnyH_done (by kernel_rfl) ?_ _
 replace HX:=Lib.hid hHeld.1
 clear hHeld
 have hl:=dims_len (i:=0) HX.out
 have hc0:=HX.out.cell HO.out
 rw [hop] at hc0
 generalize a.dims 0 = d at L0 b0 hl ⊢
 go_wp2_with fail
 clear hc0
 refine (axes_any l1 A1 k1 d.length _ L1.out.rep (by unfold I64;omega)).mono ?_
 rintro e w5 ⟨B,kb,x,bs,rfl,hx,hb,hB,hax,-⟩
 have HX:=Lib.hid (HX.out.next hb)
 have L0:=Lib.hid (L0.out.next hb)
 have HM:=Lib.hid (And.intro hB (And.intro hax hx))
 obtain ⟨mb,mb'⟩:=slice_bnd hB
 clear hb hB hax hx
 by_cases hx0:x = 0
 ·subst hx0
  obtain ⟨hbl,hb8,-,-⟩:=HM.out.2.1 rfl
  have hbl:bs.length = d.length:=by omega
  have HL:=Lib.hid hbl
  rw [hbl]
  clear hbl
  have hd8:d.length ≤ 8:=by have:=HL.out;omega
  clear hb8
  go_wp2_with fail
  go_loopw [4,9,40] (fun s4 v i wr=>∃ (c:Nat) (out:List Int),i = .int .i64 c∧s4 = .slice A0 d.length k0∧c ≤ d.length∧out.length ≤ c∧AppI w5 wr v out) (fun _ _ i _=>d.length - (intOf i).toNat)
  case atStart=>exact ⟨0,[],rfl,rfl,by omega,by simp,AppI.nil _⟩
  case round =>
   obtain ⟨c,out,rfl,rfl,hc,hoc,hA⟩:=hrel
   obtain ⟨wb,rfl⟩:∃ wb,wb = wr:=⟨_,rfl⟩
   have HA:=Lib.hid hA
   clear hA
   by_cases hlt:c < d.length
   ·have hlt':(c:Int) < (d.length:Int):=by omega
    obtain ⟨z,hz⟩:∃ z,d[c]? = some z:=⟨_,List.getElem?_eq_getElem hlt⟩
    obtain ⟨m,hm⟩:∃ m,bs[c]? = some m:=⟨_,List.getElem?_eq_getElem (by have:=HL.out;omega)⟩
    obtain ⟨z64,b2,o2,rfl,hb2,kz⟩:=L0.out.get hz
    obtain ⟨b3,o3,rfl,hb3,km⟩:=bool_at HM.out.1 hm
    have HZ:=Lib.hid (And.intro z64 (And.intro (show b2 < w5.heap.size by have:=L0.out.le;omega) (And.intro hb3.2 (And.intro kz km))))
    have hk0:(0:Int) ≤ (c:Int):=Int.natCast_nonneg _
    clear hz hm z64 hb2 hb3 kz km
    have km:wb.cell? ⟨b3,o3 + c,none⟩ = some (.bool m):=(HA.out.below.cell (p:=⟨b3,o3 + c,none⟩) HZ.out.2.2.1).trans HZ.out.2.2.2.2
    have HQ:=Lib.hid (HX.out.next HA.out.below)
    have hc0:=HQ.out.cell HO.out
    rw [hop] at hc0
    go_wp2_with (with_reducible refine wpList_load_agg rfl 91 _ rfl _ _ _ rfl cs Tryz.underlying91 rfl HQ.out.size HQ.out.at ?_)
    clear km hc0
    refine (askHas cs a 1 _ HQ.out.arg).mono ?_
    rintro e w6 ⟨rfl,hb⟩
    replace HA:=Lib.hid (HA.out.next hb)
    clear hb HQ
    have HB:=Lib.hid HA.out.below
    have kz:w6.cell? ⟨b2,o2 + c,none⟩ = some (.int .i64 z):=(HB.out.cell (p:=⟨b2,o2 + c,none⟩) HZ.out.2.1).trans HZ.out.2.2.2.1
    generalize a.has 1 = t
    by_cases hz1':z = 1
    ·subst hz1'
     cases t with
     | false =>
      go_wp2
      go_roundw
      case rel=>exact ⟨c + 1,out,by go_num,rfl,by omega,by omega,HA.out⟩
      case measure=>simp [intOf];omega
     | true =>
      cases m with
      | true =>
       go_wp2
       go_roundw
       case rel=>exact ⟨c + 1,out,by go_num,rfl,by omega,by omega,HA.out⟩
       case measure=>simp [intOf];omega
      | false =>
       go_wp2_with (at_builtin;refine wpList_append_lies _ rfl _ _ 24 rfl w5.heap.size 3 i0 (.int .i64 0) 1 8 Tryz.underlying24 hi0 hz0 hz1 hz2 rfl (by decide) _ _ _ rfl (HA.out.own.alloc _) _ _ 1 1 [.int .i64 1] rfl rfl (lies_new _ _ _) ?c2 ?c3 ?c4 ?c5 ?_)
       case c2=>first | (intro u hu;simp at hu;subst hu;rfl) | rfl
       case c3=>unfold maxLen;omega
       case c4=>omega
       case c5=>have:=HB.out.size;simp;omega
       intro v' w7 hown' hgrow _
       go_wp2
       go_roundw
       case rel=>exact ⟨c + 1,out++[1],by go_num,rfl,by omega,by simp;omega,HA.out.more HZ.out.1 hown' hgrow⟩
       case measure=>simp [intOf];omega
    ·have hzn:(z == 1) = false:=by simpa using hz1'
     cases m with
     | false =>
      cases t
      all_goals
       go_wp2_with (at_builtin;refine wpList_append_lies _ rfl _ _ 24 rfl w5.heap.size 3 i0 (.int .i64 0) 1 8 Tryz.underlying24 hi0 hz0 hz1 hz2 rfl (by decide) _ _ _ rfl (HA.out.own.alloc _) _ _ 1 1 [.int .i64 z] rfl rfl (lies_new _ _ _) ?c2 ?c3 ?c4 ?c5 ?_)
       case c2=>first | (intro u hu;simp at hu;subst hu;rfl) | rfl
       case c3=>unfold maxLen;omega
       case c4=>omega
       case c5=>have:=HB.out.size;simp;omega
       intro v' w7 hown' hgrow _
       go_wp2
       go_roundw
       case rel=>exact ⟨c + 1,out++[z],by go_num,rfl,by omega,by simp;omega,HA.out.more HZ.out.1 hown' hgrow⟩
       case measure=>simp [intOf];omega
     | true =>
      cases t
      all_goals
       go_wp2_with fail
       refine (misfit_any _).mono ?_
       rintro e w9 ⟨rfl,rfl⟩
       go_wp2
       go_ret2
       exact sh_misfit (HX.out.next HA.out.below).below
   ·have hlt':¬ (c:Int) < (d.length:Int):=by omega
    obtain ⟨D,kd,rfl,ho⟩:=HA.out.lst (by omega)
    obtain ⟨ob,ob'⟩:=slice_bnd ho
    have HO2:=Lib.hid ho
    clear ho
    go_wp2_with fail
    refine (one_any out D kd _ HO2.out.rep).mono ?_
    rintro e w8 ⟨D',j,x,ll,rfl,hx,hb,hl,rfl,rfl⟩
    have HC:=Lib.hid (And.intro ((HX.out.next HA.out.below).trans hb) hl)
    clear hx hb hl
    go_wp2
    go_ret2
    exact ⟨D',j,0,_,rfl,by unfold I64;omega,HC.out.1,HC.out.2,fun _=>rfl⟩
 ·have hx0':(x != 0) = true:=by simpa using hx0
  go_wp2_with fail
  refine (misfit_any _).mono ?_
  rintro e w9 ⟨rfl,rfl⟩
  go_wp2
  go_ret2
  exact sh_misfit HX.out.below
theorem lst_tail {W:World} {b o k:Nat} {rest:List Int} (h:Lst W (some ⟨b,o,none⟩) k rest) (h0:0 < rest.length):Lst W (if k = 1 then some ⟨b,o,none⟩ else some ⟨b,o + 1,none⟩) (k - 1) (rest.drop 1):=by
 obtain ⟨hk,hk'⟩:=slice_bnd h
 by_cases h1:k = 1
 ·rw [if_pos h1]
  exact rep_gone (List.drop_eq_nil_of_le (by omega)) (by unfold maxLen;omega)
 ·rw [if_neg h1]
  unfold Lst
  have:=rep_post h (j:=1) h0
  simpa [Addr.add] using this
theorem drop_mark {bs:List Bool} {c:Nat} {m:Bool} (h:bs[c]? = some m):(bs.drop c).count false = (if m then 0 else 1) + (bs.drop (c + 1)).count false:=by
 obtain ⟨hc,e⟩:=List.getElem?_eq_some_iff.1 h
 rw [List.drop_eq_getElem_cons hc,e,List.count_cons]
 cases m <;> simp <;> omega
theorem count_all (bs:List Bool):bs.count true + bs.count false = bs.length:=by
 induction bs with
 | nil=>rfl
 | cons b bs ih=>cases b <;> simp <;> omega
set_option maxRecDepth 100000 in
set_option maxHeartbeats 8000000 in
theorem squeezed_57 (cs:List Value) (a:AskD) (w:World) (hr:rep w (old w.heap.size) cs a) (hop:a.op = 57) :
  Calls Tryz.prog 110 #[.agg cs.toArray] w (ShP w P1):=by
 obtain ⟨i0,hi0,hz0,hz1,hz2⟩:=info_parts intInfo
 have HO:=Lib.hid (ask_op hr).1
 go_enter Tryz.func110,Tryz.ntmps110
 go_wp2_with (with_reducible refine wpList_box_row rfl 91 _ rfl cs rfl ?_;have hX:=ask_start hr;generalize World.alloc _ _ = W0 at hX ⊢;have HX:=Lib.hid hX;clear hX hr;refine halt ?_)
 unfold Halt
 go_wp2_with fail
 refine wp_region_held_drew (S:=fun W=>AskI w cs a W∧Below W0.heap.size W0 W) (by kernel_rfl) ⟨HX.out.next ((Below.refl _ _).drew),(Below.refl _ _).drew⟩ (fun hHeld=>?_)
 generalize World.drew _ = V2 at hHeld ⊢
 have hb:=hHeld.2
 clear hb
 refine tk9 0 (some 12) (v:=.agg cs.toArray) rfl (yields_ask (by kernel_rfl) _ rfl (by kernel_rfl) (fun _ h=>h.1)) hHeld ?_
 refine tk9 2 (some 14) (v:=.agg cs.toArray) rfl (yields_ask (by kernel_rfl) _ rfl (by kernel_rfl) (fun _ h=>h.1)) hHeld ?_
 refine call_d9 1 (some 13) rfl (by kernel_rfl) (by kernel_rfl) (by kernel_rfl) 70 _ _ rfl #[.agg cs.toArray,.int .i64 0] (by kernel_rfl) (fun w=>by kernel_rfl) ?_
 refine (askDims' cs a 0 w.heap.size _ hHeld.1.below.size hHeld.1.arg0).mono ?_
 rintro e V3 ⟨A0,k0,rfl,h0,hb⟩
 have L0:=Lib.hid (lst_n hHeld.1 hb h0)
 obtain ⟨b0,b0'⟩:=slice_bnd h0
 clear h0
 replace hHeld:=held_next hHeld hb
 refine ⟨_,rfl,hHeld,?_⟩
 clear hb
 refine call_d9 3 (some 15) rfl (by kernel_rfl) (by kernel_rfl) (by kernel_rfl) 117 _ _ rfl #[.agg cs.toArray,.int .i64 1] (by kernel_rfl) (fun w=>by kernel_rfl) ?_
 refine (numbers_any cs a 1 _ hHeld.1.arg).mono ?_
 rintro e V4 ⟨A1,k1,l1,rfl,hb,h1,-⟩
 replace L0:=Lib.hid (L0.out.next hb)
 have L1:=Lib.hid (h1.more hHeld.1.lt)
 obtain ⟨b1,b1'⟩:=slice_bnd h1
 clear h1
 replace hHeld:=held_next hHeld hb
 refine ⟨_,rfl,hHeld,?_⟩
 clear hb
 refine tk0 4 (some 4) (v:=.slice A0 (a.dims 0).length k0) rfl hHeld ?_
 refine tk0 5 (some 5) (v:=.slice A1 l1.length k1) rfl hHeld ?_
 refine wpAnyH_done (by kernel_rfl) ?_ _
 replace HX:=Lib.hid hHeld.1
 clear hHeld
 have hl:=dims_len (i:=0) HX.out
 have hc0:=HX.out.cell HO.out
 rw [hop] at hc0
 generalize a.dims 0 = d at L0 b0 hl ⊢
 have hl1:=L1.out.len
 by_cases h8:((d.length:Int) + (l1.length:Int)) > 8
 ·go_wp2
  go_ret2
  exact sh_bad HX.out.below (by unfold I64;omega) (fun e=>by cases e)
 ·go_wp2_with fail
  clear hc0
  refine (axes_any l1 A1 k1 ((d.length:Int) + (l1.length:Int)) _ L1.out.rep (by unfold I64;omega)).mono ?_
  rintro e w5 ⟨B,kb,x,bs,rfl,hx,hb,hB,hax,-⟩
  have HX:=Lib.hid (HX.out.next hb)
  have L0:=Lib.hid (L0.out.next hb)
  have HM:=Lib.hid (And.intro hB (And.intro hax hx))
  obtain ⟨mb,mb'⟩:=slice_bnd hB
  clear hb hB hax hx
  by_cases hx0:x = 0
  ·subst hx0
   obtain ⟨hbl,hb8,-,hct⟩:=HM.out.2.1 rfl
   have hcf:d.length = (bs.drop 0).count false:=by
    have:=count_all bs
    rw [List.drop_zero]
    omega
   have HCF:=Lib.hid hcf
   clear hbl hct hcf
   go_wp2_with fail
   go_loopw [4,9,40] (fun s4 v i wr=>∃ (c:Nat) (out:List Int) (A':Option Addr) (k':Nat) (rest:List Int),i = .int .i64 c∧s4 = .slice A' rest.length k'∧c ≤ bs.length∧out.length ≤ c∧AppI w5 wr v out∧Lst w5 A' k' rest∧rest.length = (bs.drop c).count false) (fun _ _ i _=>bs.length - (intOf i).toNat)
   case atStart=>exact ⟨0,[],A0,k0,d,rfl,rfl,by omega,by simp,AppI.nil _,L0.out.lst,HCF.out⟩
   case round =>
    obtain ⟨c,out,A',k',rest,rfl,rfl,hc,hoc,hA,hR,hrc⟩:=hrel
    obtain ⟨wb,rfl⟩:∃ wb,wb = wr:=⟨_,rfl⟩
    obtain ⟨rb,rb'⟩:=slice_bnd hR
    have HA:=Lib.hid hA
    have HR:=Lib.hid hR
    have HRC:=Lib.hid hrc
    clear hA hR hrc
    by_cases hlt:c < bs.length
    ·have hlt':(c:Int) < (bs.length:Int):=by omega
     obtain ⟨m,hm⟩:∃ m,bs[c]? = some m:=⟨_,List.getElem?_eq_getElem hlt⟩
     have hdm:=drop_mark hm
     obtain ⟨b3,o3,rfl,hb3,km⟩:=bool_at HM.out.1 hm
     have HZ:=Lib.hid (And.intro hb3.2 km)
     have hk0:(0:Int) ≤ (c:Int):=Int.natCast_nonneg _
     clear hm hb3 km
     have km:wb.cell? ⟨b3,o3 + c,none⟩ = some (.bool m):=(HA.out.below.cell (p:=⟨b3,o3 + c,none⟩) HZ.out.1).trans HZ.out.2
     have HQ:=Lib.hid (HX.out.next HA.out.below)
     have HB:=Lib.hid HA.out.below
     have hc0:=HQ.out.cell HO.out
     rw [hop] at hc0
     cases m with
     | true =>
      have HDM:=Lib.hid hdm
      clear hdm
      go_wp2_with (at_builtin;refine wpList_append_lies _ rfl _ _ 24 rfl w5.heap.size 3 i0 (.int .i64 0) 1 8 Tryz.underlying24 hi0 hz0 hz1 hz2 rfl (by decide) _ _ _ rfl (HA.out.own.alloc _) _ _ 1 1 [.int .i64 1] rfl rfl (lies_new _ _ _) ?c2 ?c3 ?c4 ?c5 ?_)
      case c2=>first | (intro u hu;simp at hu;subst hu;rfl) | rfl
      case c3=>unfold maxLen;omega
      case c4=>omega
      case c5=>have:=HB.out.size;simp;omega
      intro v' w7 hown' hgrow _
      go_wp2
      go_roundw
      case rel=>exact ⟨c + 1,out++[1],A',k',rest,by go_num,rfl,by omega,by simp;omega,HA.out.more (by unfold I64;omega) hown' hgrow,HR.out,by have h1:=HRC.out;have h2:=HDM.out;simp at h2;omega⟩
      case measure=>simp [intOf];omega
     | false =>
      simp only [Bool.false_eq_true,if_false] at hdm
      have hr1:0 < rest.length:=by have:=HRC.out;omega
      have HDM:=Lib.hid hdm
      clear hdm
      obtain ⟨z,hz⟩:∃ z,rest[0]? = some z:=⟨_,List.getElem?_eq_getElem hr1⟩
      obtain ⟨z64,b2,o2,rfl,hb2,kz⟩:=int_at HR.out hz
      have hb2:b2 < w5.heap.size:=hb2
      have kz':wb.cell? ⟨b2,o2,none⟩ = some (.int .i64 z):=by simpa using (HA.out.below.cell (p:=⟨b2,o2 + 0,none⟩) hb2).trans kz
      have HZ2:=Lib.hid z64
      have hr1':(0:Int) < (rest.length:Int):=by omega
      clear hz z64 kz hb2
      go_wp2_with (at_builtin;refine wpList_append_lies _ rfl _ _ 24 rfl w5.heap.size 3 i0 (.int .i64 0) 1 8 Tryz.underlying24 hi0 hz0 hz1 hz2 rfl (by decide) _ _ _ rfl (HA.out.own.alloc _) _ _ 1 1 [.int .i64 z] rfl rfl (lies_new _ _ _) ?c2 ?c3 ?c4 ?c5 ?_)
      case c2=>first | (intro u hu;simp at hu;subst hu;rfl) | rfl
      case c3=>unfold maxLen;omega
      case c4=>omega
      case c5=>have:=HB.out.size;simp;omega
      intro v' w7 hown' hgrow _
      clear kz'
      go_wp2
      go_roundw
      case rel=>exact ⟨c + 1,out++[z],_,k' - 1,rest.drop 1,by go_num,by rw [List.length_drop],by omega,by simp;omega,HA.out.more HZ2.out hown' hgrow,lst_tail HR.out hr1,by rw [List.length_drop];have h1:=HRC.out;have h2:=HDM.out;omega⟩
      case measure=>simp [intOf];omega
    ·have hlt':¬ (c:Int) < (bs.length:Int):=by omega
     obtain ⟨D,kd,rfl,ho⟩:=HA.out.lst (by omega)
     obtain ⟨ob,ob'⟩:=slice_bnd ho
     have HO2:=Lib.hid ho
     clear ho
     go_wp2_with fail
     refine (one_any out D kd _ HO2.out.rep).mono ?_
     rintro e w8 ⟨D',j,x,ll,rfl,hx,hb,hl,rfl,rfl⟩
     have HC:=Lib.hid (And.intro ((HX.out.next HA.out.below).trans hb) hl)
     clear hx hb hl
     go_wp2
     go_ret2
     exact ⟨D',j,0,_,rfl,by unfold I64;omega,HC.out.1,HC.out.2,fun _=>rfl⟩
  ·have hx0':(x != 0) = true:=by simpa using hx0
   go_wp2_with fail
   refine (misfit_any _).mono ?_
   rintro e w9 ⟨rfl,rfl⟩
   go_wp2
   go_ret2
   exact sh_misfit HX.out.below
end Go.Proofs.YtilobeohkomeoaaGreat
set_option linter.unusedSimpArgs false
set_option linter.unusedVariables false
namespace Go.Proofs.YtilobeohkomeoaaGreat
open Go.RowKit
open Rep (rep)
set_option maxRecDepth 100000 in
set_option maxHeartbeats 8000000 in
theorem count_any (n s e p:Int) (w:World) (hn:I64 n) (hs:I64 s) (he:I64 e) (hp:I64 p) (h0:p ≠ 0):Calls Tryz.prog 119 #[.int .i64 n,.int .i64 s,.int .i64 e,.int .i64 p] w fun e w'=>(∃ y,e = .returned (.int .i64 y)∧I64 y)∧w' = w:=by
 have HI:=Lib.hid (And.intro hn (And.intro hs (And.intro he (And.intro hp h0))))
 clear hn hs he hp h0
 go_enter Tryz.func119,Tryz.ntmps119
 go_upto_if 10 with (fail)
 go_cut [1] from 11 to 13 (fun v wx=>∃ y:Int,v = .int .i64 y∧I64 y∧w = wx)
 case first =>
  by_cases h:s < 0
  ·go_wp2
   go_meet
   exact ⟨_,rfl,wrap_i64 _,rfl⟩
  ·go_wp2
   go_meet
   exact ⟨_,rfl,HI.out.2.1,rfl⟩
 case rest =>
  obtain ⟨s1,rfl,hs1,rfl⟩:=hcut
  have HS:=Lib.hid hs1
  clear hs1
  go_upto_if 15 with (fail)
  go_cut [2] from 16 to 18 (fun v wx=>∃ y:Int,v = .int .i64 y∧I64 y∧w = wx)
  case first =>
   by_cases h:e < 0
   ·go_wp2
    go_meet
    exact ⟨_,rfl,wrap_i64 _,rfl⟩
   ·go_wp2
    go_meet
    exact ⟨_,rfl,HI.out.2.2.1,rfl⟩
  case rest =>
   obtain ⟨e1,rfl,he1,rfl⟩:=hcut
   have HE:=Lib.hid he1
   clear he1
   go_upto_region 5 with (fail)
   go_cut [3] from 19 to 21 (fun v wx=>∃ y:Int,v = .int .i64 y∧-4097 ≤ y∧y ≤ 4097∧y ≠ 0∧w = wx)
   case first =>
    have hp0:=HI.out.2.2.2.2
    by_cases h1:p ≤ 4097
    ·by_cases h2:-4097 ≤ p
     all_goals
      go_wp2
     all_goals
      go_meet
      exact ⟨_,rfl,by omega,by omega,by omega,rfl⟩
    ·go_wp2
     all_goals
      go_meet
      exact ⟨_,rfl,by omega,by omega,by omega,rfl⟩
   case rest =>
    obtain ⟨p1,rfl,p2,p3,p4,rfl⟩:=hcut
    go_upto_if 23 with (fail)
    go_cut [1,2,3] from 23 to 47 (fun v1 v2 v3 wx=>∃ x y z:Int,v1 = .int .i64 x∧v2 = .int .i64 y∧v3 = .int .i64 z∧I64 x∧I64 y∧z ≠ 0∧w = wx)
    case first =>
     obtain ⟨n64,-⟩:=HI.out
     have s64:=HS.out
     have e64:=HE.out
     unfold I64 at n64 s64 e64
     by_cases h:p1 < 0
     ·go_wp2
      all_goals
       go_meet
       exact ⟨_,_,_,rfl,rfl,rfl,by (try unfold wrap64 at *);unfold I64;omega,by (try unfold wrap64 at *);unfold I64;omega,by omega,rfl⟩
     ·go_wp2
      all_goals
       go_meet
       exact ⟨_,_,_,rfl,rfl,rfl,by (try unfold wrap64 at *);unfold I64;omega,by (try unfold wrap64 at *);unfold I64;omega,by omega,rfl⟩
    case rest =>
     obtain ⟨x,y,z,rfl,rfl,rfl,hx,hy,hz,rfl⟩:=hcut
     go_wp2
     all_goals
      go_ret
      exact ⟨⟨_,rfl,by first | exact wrap_i64 _ | (unfold I64;omega)⟩,rfl⟩
end Go.Proofs.YtilobeohkomeoaaGreat
