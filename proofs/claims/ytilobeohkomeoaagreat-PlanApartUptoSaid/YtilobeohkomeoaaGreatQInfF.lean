/-
  Chapter 10: MatMul. No condition.
-/
/-
  slices.Grow of nothing, slices.Concat. No condition.
-/
/-
  Chapter 10: GatherElements and ScatterElements. No condition.
-/
import Derived.Test.YtilobeohkomeoaaGreatQInfU
import Derived.Lib.AppendZeros
import Derived.Test.YtilobeohkomeoaaGreatQSpan
set_option linter.unusedSimpArgs false
set_option linter.unusedVariables false
namespace Go.Proofs.YtilobeohkomeoaaGreat
open Go.RowKit
open Rep (rep)
theorem size_len {l:List Int} (h:(sizeD l).2 = 0):l.length ≤ 8:=by
 unfold sizeD at h
 split at h
 ·simp at h
 ·split at h
  ·simp at h
  ·rename_i h2
   have:¬ l.length > 8:=fun e=>h2 (.inl e)
   omega
theorem OwnR.app {B W:World} {A:Option Addr} {k:Nat} {l:List Int} (h:OwnR W B.heap.size A k l) (hb:Below B.heap.size B W):AppI B W (.slice A l.length k) l:=⟨h.row,h.own.i64,hb⟩
theorem two_all {p:Int→Prop} {a b:Int} (ha:p a) (hb:p b):∀ x ∈ [a,b],p x:=fun x hx=>by
 simp only [List.mem_cons,List.not_mem_nil,or_false] at hx
 rcases hx with rfl | rfl
 ·exact ha
 ·exact hb
theorem lst_lt {W:World} {b o k j:Nat} {l:List Int} {z:Int} (h:Lst W (some ⟨b,o,none⟩) k l) (hz:l[j]? = some z):I64 z∧b < W.heap.size∧W.cell? ⟨b,o + j,none⟩ = some (.int .i64 z):=by
 obtain ⟨h1,b',o',e,h2,h3⟩:=int_at h hz
 injection e with e
 injection e with e1 e2
 subst e1 e2
 exact ⟨h1,h2,h3⟩
set_option maxRecDepth 100000 in
set_option maxHeartbeats 8000000 in
theorem product_any (cs:List Value) (a:AskD) (w:World) (hr:rep w (old w.heap.size) cs a) :
  Calls Tryz.prog 76 #[.agg cs.toArray] w (ShP w P1):=by
 obtain ⟨i0,hi0,hz0,hz1,hz2⟩:=info_parts intInfo
 go_enter Tryz.func76,Tryz.ntmps76
 go_wp2_with (with_reducible refine wpList_box_row rfl 91 _ rfl cs rfl ?_;have hX:=ask_start hr;generalize World.alloc _ _ = W0 at hX ⊢;have HX:=Lib.hid hX;clear hX hr;refine halt ?_)
 unfold Halt
 go_wp2_with fail
 refine wp_region_held_drew (S:=fun W=>AskI w cs a W∧Below W0.heap.size W0 W) (by kernel_rfl) ⟨HX.out.next ((Below.refl _ _).drew),(Below.refl _ _).drew⟩ (fun hHeld=>?_)
 generalize World.drew _ = V2 at hHeld ⊢
 have hb:=hHeld.2
 clear hb
 refine tk9 0 (some 12) (v:=.agg cs.toArray) rfl (yields_ask (by kernel_rfl) _ rfl (by kernel_rfl) (fun _ h=>h.1)) hHeld ?_
 refine tk9 2 (some 14) (v:=.agg cs.toArray) rfl (yields_ask (by kernel_rfl) _ rfl (by kernel_rfl) (fun _ h=>h.1)) hHeld ?_
 refine call_d9 1 (some 13) rfl (by kernel_rfl) (by kernel_rfl) (by kernel_rfl) 70 _ _ rfl #[.agg cs.toArray,.int .i64 0] (by kernel_rfl) (fun w=>by kernel_rfl) ?_
 refine (askDims' cs a 0 w.heap.size _ hHeld.1.below.size hHeld.1.arg0).mono ?_
 rintro e V3 ⟨A0,k0,rfl,h0,hb⟩
 have L0:=Lib.hid (lst_n hHeld.1 hb h0)
 obtain ⟨b0,b0'⟩:=slice_bnd h0
 clear h0
 replace hHeld:=held_next hHeld hb
 refine ⟨_,rfl,hHeld,?_⟩
 clear hb
 refine call_d9 3 (some 15) rfl (by kernel_rfl) (by kernel_rfl) (by kernel_rfl) 70 _ _ rfl #[.agg cs.toArray,.int .i64 1] (by kernel_rfl) (fun w=>by kernel_rfl) ?_
 refine (askDims' cs a 1 w.heap.size _ hHeld.1.below.size hHeld.1.arg0).mono ?_
 rintro e V4 ⟨A1,k1,rfl,h1,hb⟩
 replace L0:=Lib.hid (L0.out.next hb)
 have L1:=Lib.hid (lst_n hHeld.1 hb h1)
 obtain ⟨b1,b1'⟩:=slice_bnd h1
 clear h1
 replace hHeld:=held_next hHeld hb
 refine ⟨_,rfl,hHeld,?_⟩
 clear hb
 refine tk0 4 (some 4) (v:=.slice A0 (a.dims 0).length k0) rfl hHeld ?_
 refine tk0 5 (some 5) (v:=.slice A1 (a.dims 1).length k1) rfl hHeld ?_
 refine wpAnyH_done (by kernel_rfl) ?_ _
 replace HX:=Lib.hid hHeld.1
 clear hHeld
 simp [Act.put]
 generalize a.dims 0 = x at L0 b0 ⊢
 generalize a.dims 1 = y at L1 b1 ⊢
 by_cases hx:x.length = 0
 ·rw [hx]
  clear hx b0
  go_wp2_with fail
  refine (misfit_any _).mono ?_
  rintro e w9 ⟨rfl,rfl⟩
  go_wp2
  go_ret2
  exact sh_misfit HX.out.below
 ·obtain ⟨mx,hmx⟩:∃ m,x.length = m + 1:=⟨x.length - 1,by omega⟩
  have HMX:=Lib.hid hmx
  rw [hmx] at b0 ⊢
  clear hmx hx
  by_cases hy:y.length = 0
  ·rw [hy]
   clear hy b1
   go_wp2_with fail
   refine (misfit_any _).mono ?_
   rintro e w9 ⟨rfl,rfl⟩
   go_wp2
   go_ret2
   exact sh_misfit HX.out.below
  ·obtain ⟨my,hmy⟩:∃ m,y.length = m + 1:=⟨y.length - 1,by omega⟩
   have HMY:=Lib.hid hmy
   rw [hmy] at b1 ⊢
   clear hmy hy
   have e1:(((mx:Nat):Int) + 1 == 0) = false:=by simp only [beq_eq_false_iff_ne];omega
   have e2:(((my:Nat):Int) + 1 == 0) = false:=by simp only [beq_eq_false_iff_ne];omega
   go_upto_if 33 with (fail)
   go_cut [4] from 34 to 37 (fun v wx=>∃ (A:Option Addr) (k:Nat) (l:List Int) (nx:Nat),v = .slice A l.length k∧l.length = nx + 2∧Lst wx A k l∧AskI w cs a wx∧LstN w.heap.size wx A1 k1 y)
   case first =>
    cases mx with
    | zero =>
     obtain ⟨x0,rfl⟩:∃ x0,x = [x0]:=by
      match x,HMX.out with
      | [z],_=>exact ⟨z,rfl⟩
     obtain ⟨z64,b2,o2,rfl,-,kz⟩:=L0.out.get (j:=0) rfl
     simp only [Nat.add_zero] at kz
     have hb:=(Below.refl V4.heap.size V4).alloc (Nat.le_refl _) (.cells #[.int .i64 1,.int .i64 x0] 3)
     have HN:=Lib.hid (And.intro (lst_new V4 [1,x0] 3 (two_all (by unfold I64;omega) z64) (by simp)) (And.intro (HX.out.next hb) (L1.out.next hb)))
     clear hb z64
     go_wp2
     go_meet
     exact ⟨some ⟨V4.heap.size,0,none⟩,2,[1,x0],0,rfl,rfl,HN.out.1,HN.out.2.1,HN.out.2.2⟩
    | succ mx =>
     go_wp2
     go_meet
     exact ⟨A0,k0,x,mx,by rw [HMX.out],HMX.out,L0.out.lst,HX.out,L1.out⟩
   case rest =>
    obtain ⟨Ax,kx,lx,nx,rfl,hlx,hLx,hA,hLy⟩:=hcut
    obtain ⟨wd,rfl⟩:∃ wd,wd = wc:=⟨_,rfl⟩
    replace HX:=Lib.hid hA
    replace L1:=Lib.hid hLy
    have Lx:=Lib.hid (And.intro hLx hlx)
    obtain ⟨xb,xb'⟩:=slice_bnd hLx
    clear hA hLy hLx hlx
    generalize hrb:((mx:Int) + 1 == 1) = rb
    clear hrb
    go_upto_if 38 with (fail)
    go_cut [5] from 39 to 42 (fun v wx=>∃ (A:Option Addr) (k:Nat) (l:List Int) (ny:Nat),v = .slice A l.length k∧l.length = ny + 2∧Lst wx A k l∧AskI w cs a wx∧Lst wx Ax kx lx)
    case first =>
     cases my with
     | zero =>
      obtain ⟨y0,rfl⟩:∃ y0,y = [y0]:=by
       match y,HMY.out with
       | [z],_=>exact ⟨z,rfl⟩
      obtain ⟨z64,b2,o2,rfl,-,kz⟩:=L1.out.get (j:=0) rfl
      simp only [Nat.add_zero] at kz
      have hb:=(Below.refl wd.heap.size wd).alloc (Nat.le_refl _) (.cells #[.int .i64 y0,.int .i64 1] 3)
      have HN:=Lib.hid (And.intro (lst_new wd [y0,1] 3 (two_all z64 (by unfold I64;omega)) (by simp)) (And.intro (HX.out.next hb) (Lx.out.1.next hb)))
      clear hb z64
      go_wp2
      go_meet
      exact ⟨some ⟨wd.heap.size,0,none⟩,2,[y0,1],0,rfl,rfl,HN.out.1,HN.out.2.1,HN.out.2.2⟩
     | succ my =>
      go_wp2
      go_meet
      exact ⟨A1,k1,y,my,by rw [HMY.out],HMY.out,L1.out.lst,HX.out,Lx.out.1⟩
    case rest =>
     obtain ⟨Ay,ky,ly,ny,rfl,hly,hLy,hA,hLx⟩:=hcut
     obtain ⟨we,rfl⟩:∃ we,we = wc:=⟨_,rfl⟩
     replace HX:=Lib.hid hA
     have Ly:=Lib.hid (And.intro hLy hly)
     replace Lx:=Lib.hid (And.intro hLx Lx.out.2)
     obtain ⟨yb,yb'⟩:=slice_bnd hLy
     clear hA hLy hLx hly L1 L0 b0 b1
     generalize hcb:((my:Int) + 1 == 1) = cb
     clear hcb
     have hnx:(lx.length:Int) - 2 = (nx:Int):=by have:=Lx.out.2;omega
     have hny:(ly.length:Int) - 2 = (ny:Int):=by have:=Ly.out.2;omega
     obtain ⟨x1,hx1⟩:∃ z,lx[nx]? = some z:=⟨_,List.getElem?_eq_getElem (by have:=Lx.out.2;omega)⟩
     obtain ⟨x2,hx2⟩:∃ z,lx[nx + 1]? = some z:=⟨_,List.getElem?_eq_getElem (by have:=Lx.out.2;omega)⟩
     obtain ⟨y1,hy1⟩:∃ z,ly[ny]? = some z:=⟨_,List.getElem?_eq_getElem (by have:=Ly.out.2;omega)⟩
     obtain ⟨y2,hy2⟩:∃ z,ly[ny + 1]? = some z:=⟨_,List.getElem?_eq_getElem (by have:=Ly.out.2;omega)⟩
     obtain ⟨-,bx,ox,rfl,-,-⟩:=int_at Lx.out.1 hx1
     obtain ⟨-,by1,oy,rfl,-,-⟩:=int_at Ly.out.1 hy1
     have GX1:=Lib.hid (lst_lt Lx.out.1 hx1)
     have GX2:=Lib.hid (lst_lt Lx.out.1 hx2)
     have GY1:=Lib.hid (lst_lt Ly.out.1 hy1)
     have GY2:=Lib.hid (lst_lt Ly.out.1 hy2)
     have hlx:nx + 1 < lx.length:=by have:=Lx.out.2;omega
     have hly:ny + 1 < ly.length:=by have:=Ly.out.2;omega
     clear hx1 hx2 hy1 hy2
     have hlx':nx ≤ lx.length:=by omega
     have hly':ny ≤ ly.length:=by omega
     have HE:Hid (∀ W,Lst W (some ⟨bx,ox,none⟩) kx lx→Lst W (some ⟨by1,oy,none⟩) ky ly→Calls Tryz.prog 99 #[.slice (some ⟨bx,ox,none⟩) nx kx,.slice (some ⟨by1,oy,none⟩) ny ky] W (BcastP (lx.take nx) (ly.take ny) W)):=Lib.hid (fun W h1 h2=>by
      have h:=bcast_any (lx.take nx) (ly.take ny) (some ⟨bx,ox,none⟩) (some ⟨by1,oy,none⟩) kx ky W (rep_pre h1 (by omega)) (rep_pre h2 (by omega))
      rw [List.length_take,List.length_take,Nat.min_eq_left hlx',Nat.min_eq_left hly'] at h
      exact h)
     go_wp2_with fail
     clear hnx hny e1 e2
     refine wp_region_held_drew (S:=fun W=>AskI w cs a W∧Below we.heap.size we W) (by kernel_rfl) ⟨HX.out.next ((Below.refl _ _).drew),(Below.refl _ _).drew⟩ (fun hHeld=>?_)
     generalize World.drew _ = V41 at hHeld ⊢
     have hb:=hHeld.2
     clear hb
     refine tk0 0 (some 49) (v:=.slice (some ⟨bx,ox,none⟩) lx.length kx) rfl hHeld ?_
     refine tk0 1 (some 50) (v:=.int .i64 (nx:Int)) rfl hHeld ?_
     refine tk9 2 (some 51) (v:=.int .i64 ((nx:Int) + 1)) rfl (yields_addI (by kernel_rfl) _ _ _ _ rfl (nx:Int) 1 (by kernel_rfl) (by kernel_rfl) (by kernel_rfl) (by omega) (by omega) (by omega)) hHeld ?_
     refine tk9 3 (some 52) (v:=.pointer (some ⟨bx,ox + (nx + 1),none⟩)) rfl (yields_idx (by kernel_rfl) _ _ rfl bx ox (lx.length) kx ((nx + 1)) (by kernel_rfl) (by kernel_rfl) (by omega)) hHeld ?_
     refine tk9 4 (some 53) (v:=.int .i64 x2) rfl (yields_load_one9 (by kernel_rfl) _ _ rfl bx (ox + (nx + 1)) (by kernel_rfl) _ _ Tryz.underlying3 rfl (fun _ h=>(h.2.cell (p:=⟨bx,ox + (nx + 1),none⟩) GX2.out.2.1).trans GX2.out.2.2)) hHeld ?_
     refine tk0 5 (some 54) (v:=.slice (some ⟨by1,oy,none⟩) ly.length ky) rfl hHeld ?_
     refine tk0 6 (some 55) (v:=.int .i64 (ny:Int)) rfl hHeld ?_
     refine tk9 7 (some 56) (v:=.pointer (some ⟨by1,oy + ny,none⟩)) rfl (yields_idx (by kernel_rfl) _ _ rfl by1 oy (ly.length) ky ny (by kernel_rfl) (by kernel_rfl) (by omega)) hHeld ?_
     refine tk9 8 (some 57) (v:=.int .i64 y1) rfl (yields_load_one9 (by kernel_rfl) _ _ rfl by1 (oy + ny) (by kernel_rfl) _ _ Tryz.underlying3 rfl (fun _ h=>(h.2.cell (p:=⟨by1,oy + ny,none⟩) GY1.out.2.1).trans GY1.out.2.2)) hHeld ?_
     obtain ⟨cc,hcc⟩:∃ c,(x2 != y1) = c:=⟨_,rfl⟩
     refine tk9 9 (some 58) (v:=.bool cc) rfl (yields_neqD (by kernel_rfl) _ _ _ _ rfl x2 y1 cc (by kernel_rfl) (by kernel_rfl) (by kernel_rfl) hcc) hHeld ?_
     clear hcc
     cases cc with
     | true =>
      refine wpAnyH_done (by kernel_rfl) ?_ _
      rename_i K0 a0
      change K0 _ _
      refine a0 _ _ (wp_cond_true (by kernel_rfl) ?_)
      replace HX:=Lib.hid hHeld.1
      clear hHeld
      go_wp2_with fail
      refine (misfit_any _).mono ?_
      rintro e w9 ⟨rfl,rfl⟩
      go_wp2
      go_ret2
      exact sh_misfit HX.out.below
     | false =>
      have HB2:=Lib.hid hHeld.2
      refine wpAnyH_done (by kernel_rfl) ?_ _
      rename_i K0 a0
      change K0 _ _
      refine a0 _ _ (wp_cond_false (by kernel_rfl) ?_)
      replace HX:=Lib.hid hHeld.1
      clear hHeld
      replace Lx:=Lib.hid (And.intro (Lx.out.1.next HB2.out) Lx.out.2)
      replace Ly:=Lib.hid (And.intro (Ly.out.1.next HB2.out) Ly.out.2)
      replace GX1:=Lib.hid (show I64 x1∧bx < V41.heap.size∧V41.cell? ⟨bx,ox + nx,none⟩ = some (.int .i64 x1) from ⟨GX1.out.1,Nat.lt_of_lt_of_le GX1.out.2.1 HB2.out.size,(HB2.out.cell (p:=⟨bx,ox + nx,none⟩) GX1.out.2.1).trans GX1.out.2.2⟩)
      replace GY2:=Lib.hid (show I64 y2∧by1 < V41.heap.size∧V41.cell? ⟨by1,oy + (ny + 1),none⟩ = some (.int .i64 y2) from ⟨GY2.out.1,Nat.lt_of_lt_of_le GY2.out.2.1 HB2.out.size,(HB2.out.cell (p:=⟨by1,oy + (ny + 1),none⟩) GY2.out.2.1).trans GY2.out.2.2⟩)
      clear HB2 GX2 GY1
      go_upto_region 12 with (fail)
      simp [Act.put]
      refine wp_region_held_drew (S:=fun W=>AskI w cs a W∧Below V41.heap.size V41 W) (by kernel_rfl) ⟨HX.out.next ((Below.refl _ _).drew),(Below.refl _ _).drew⟩ (fun hHeld=>?_)
      generalize World.drew _ = V42 at hHeld ⊢
      have hb:=hHeld.2
      clear hb
      refine tk0 0 (some 63) (v:=.slice (some ⟨bx,ox,none⟩) lx.length kx) rfl hHeld ?_
      refine tk0 1 (some 64) (v:=.int .i64 (nx:Int)) rfl hHeld ?_
      refine tk9 2 (some 65) (v:=.slice (some ⟨bx,ox,none⟩) nx kx) rfl (yields_pre (by kernel_rfl) _ _ rfl bx ox lx.length kx nx (by kernel_rfl) (by kernel_rfl) (by omega) (by omega)) hHeld ?_
      refine tk0 3 (some 66) (v:=.slice (some ⟨by1,oy,none⟩) ly.length ky) rfl hHeld ?_
      refine tk0 4 (some 67) (v:=.int .i64 (ny:Int)) rfl hHeld ?_
      refine tk9 5 (some 68) (v:=.slice (some ⟨by1,oy,none⟩) ny ky) rfl (yields_pre (by kernel_rfl) _ _ rfl by1 oy ly.length ky ny (by kernel_rfl) (by kernel_rfl) (by omega) (by omega)) hHeld ?_
      have HB1:=Lib.hid hHeld.2
      have HY:=Lib.hid hHeld.1.below
      refine call_d9 6 (some 69) rfl (by kernel_rfl) (by kernel_rfl) (by kernel_rfl) 99 _ _ rfl #[.slice (some ⟨bx,ox,none⟩) nx kx,.slice (some ⟨by1,oy,none⟩) ny ky] (by kernel_rfl) (fun w=>by kernel_rfl) ?_
      refine (HE.out _ (Lx.out.1.next hHeld.2) (Ly.out.1.next hHeld.2)).mono ?_
      rintro e V43 ⟨Ao,ko,xo,lo,rfl,hxo,hb,hO,ho,-⟩
      have HO:=Lib.hid (And.intro hxo (And.intro hO (And.intro hb ho)))
      obtain ⟨ob,ob'⟩:=slice_bnd hO.lst
      clear hxo hO ho
      replace hHeld:=held_next hHeld hb
      refine ⟨_,rfl,hHeld,?_⟩
      refine tk0 7 (some 62) (v:=.tuple #[.slice Ao lo.length ko,.int .i64 xo]) rfl hHeld ?_
      refine tk0 8 (some 70) (v:=.slice Ao lo.length ko) rfl hHeld ?_
      refine tk0 9 (some 71) (v:=.int .i64 xo) rfl hHeld ?_
      refine tk0 10 (some 10) (v:=.slice Ao lo.length ko) rfl hHeld ?_
      refine tk0 11 (some 11) (v:=.int .i64 xo) rfl hHeld ?_
      clear hb
      have HB2:=Lib.hid hHeld.2
      refine wpAnyH_done (by kernel_rfl) ?_ _
      replace HX:=Lib.hid hHeld.1
      clear hHeld
      replace Lx:=Lib.hid (And.intro (Lx.out.1.next HB2.out) Lx.out.2)
      replace GX1:=Lib.hid (show I64 x1∧bx < V42.heap.size∧V42.cell? ⟨bx,ox + nx,none⟩ = some (.int .i64 x1) from ⟨GX1.out.1,Nat.lt_of_lt_of_le GX1.out.2.1 HB1.out.size,(HB1.out.cell (p:=⟨bx,ox + nx,none⟩) GX1.out.2.1).trans GX1.out.2.2⟩)
      replace GY2:=Lib.hid (show I64 y2∧by1 < V42.heap.size∧V42.cell? ⟨by1,oy + (ny + 1),none⟩ = some (.int .i64 y2) from ⟨GY2.out.1,Nat.lt_of_lt_of_le GY2.out.2.1 HB1.out.size,(HB1.out.cell (p:=⟨by1,oy + (ny + 1),none⟩) GY2.out.2.1).trans GY2.out.2.2⟩)
      clear HE hlx' hly' HB1 HB2 Lx Ly
      obtain ⟨hx64,hO,hB3,ho⟩:=HO.out
      by_cases hx0:xo = 0
      ·subst hx0
       obtain ⟨ho1,ho2⟩:=ho rfl
       have hlo:=size_len ho1
       have HA:=Lib.hid (OwnR.app hO hB3)
       have HB:=Lib.hid hB3
       have GX:Hid (I64 x1∧bx < V42.heap.size∧V42.cell? ⟨bx,ox + nx,none⟩ = some (.int .i64 x1)):=GX1
       clear hx64 hO hB3 ho ho1 ho2 HO GX1
       go_upto_if 76 with (fail)
       go_cut [10] from 77 to 83 (fun v wx=>∃ out,AppI V42 wx v out∧out.length ≤ 9)
       case first =>
        cases rb with
        | true =>
         go_wp2
         go_meet
         exact ⟨lo,HA.out,by omega⟩
        | false =>
         have ki:=(HA.out.below.cell (p:=⟨bx,ox + nx,none⟩) GX.out.2.1).trans GX.out.2.2
         have hk0:(0:Int) ≤ (nx:Int):=Int.natCast_nonneg _
         have hk1:(nx:Int) < (lx.length:Int):=by omega
         go_wp2_with (at_builtin;refine wpList_append_lies _ rfl _ _ 24 rfl V42.heap.size 3 i0 (.int .i64 0) 1 8 Tryz.underlying24 hi0 hz0 hz1 hz2 rfl (by decide) _ _ _ rfl (HA.out.own.alloc _) _ _ 1 1 [.int .i64 x1] rfl rfl (lies_new _ _ _) ?c2 ?c3 ?c4 ?c5 ?_)
         case c2=>first | (intro u hu;simp at hu;subst hu;rfl) | rfl
         case c3=>unfold maxLen;omega
         case c4=>omega
         case c5=>have:=HB.out.size;simp;omega
         intro v' w7 hown' hgrow _
         clear ki
         go_wp2
         go_meet
         exact ⟨lo++[x1],HA.out.more GX.out.1 hown' hgrow,by simp;omega⟩
       case rest =>
        obtain ⟨out,hA,hlo⟩:=hcut
        obtain ⟨wf,rfl⟩:∃ wf,wf = wc:=⟨_,rfl⟩
        obtain ⟨D,kd,rfl,ho⟩:=hA.lst (by omega)
        obtain ⟨db,db'⟩:=slice_bnd ho
        replace HA:=Lib.hid hA
        replace HB:=Lib.hid hA.below
        clear hA ho
        go_upto_if 85 with (fail)
        go_cut [10] from 86 to 93 (fun v wx=>∃ out,AppI V42 wx v out∧out.length ≤ 10)
        case first =>
         cases cb with
         | true =>
          go_wp2
          go_meet
          exact ⟨out,HA.out,by omega⟩
         | false =>
          have ki:=(HA.out.below.cell (p:=⟨by1,oy + (ny + 1),none⟩) GY2.out.2.1).trans GY2.out.2.2
          have hk0:(0:Int) ≤ (ny:Int) + 1:=by omega
          have hk1:(ny:Int) + 1 < (ly.length:Int):=by omega
          have hk2:((ny:Int) + 1).toNat = ny + 1:=by omega
          go_wp2_with (at_builtin;refine wpList_append_lies _ rfl _ _ 24 rfl V42.heap.size 3 i0 (.int .i64 0) 1 8 Tryz.underlying24 hi0 hz0 hz1 hz2 rfl (by decide) _ _ _ rfl (HA.out.own.alloc _) _ _ 1 1 [.int .i64 y2] rfl rfl (lies_new _ _ _) ?c2 ?c3 ?c4 ?c5 ?_)
          case c2=>first | (intro u hu;simp at hu;subst hu;rfl) | rfl
          case c3=>unfold maxLen;omega
          case c4=>omega
          case c5=>have:=HB.out.size;simp;omega
          intro v' w7 hown' hgrow _
          clear ki
          go_wp2
          go_meet
          exact ⟨out++[y2],HA.out.more GY2.out.1 hown' hgrow,by simp;omega⟩
        case rest =>
         obtain ⟨out2,hA2,hlo2⟩:=hcut
         obtain ⟨wg,rfl⟩:∃ wg,wg = wc:=⟨_,rfl⟩
         obtain ⟨D2,kd2,rfl,ho⟩:=hA2.lst (by omega)
         obtain ⟨db2,db2'⟩:=slice_bnd ho
         have HO2:=Lib.hid (And.intro ho hA2.below)
         clear hA2 ho
         go_wp2_with fail
         refine (one_any out2 D2 kd2 _ HO2.out.1.rep).mono ?_
         rintro e w8 ⟨D3,j,x,ll,rfl,hx,hb,hl,rfl,rfl⟩
         have HD:=Lib.hid (And.intro ((HY.out.trans (HO2.out.2.mono HY.out.size)).trans (hb.mono (HY.out.trans (HO2.out.2.mono HY.out.size)).size)) hl)
         clear hx hb hl
         go_wp2
         go_ret2
         exact ⟨D3,j,0,_,rfl,by unfold I64;omega,HD.out.1,HD.out.2,fun _=>rfl⟩
      ·have hx0':(xo != 0) = true:=by simpa using hx0
       go_wp2
       go_ret2
       exact sh_bad HX.out.below hx64 (fun e=>absurd e hx0)
end Go.Proofs.YtilobeohkomeoaaGreat
set_option linter.unusedSimpArgs false
set_option linter.unusedVariables false
namespace Go.Proofs.YtilobeohkomeoaaGreat
open Go.RowKit
open Rep (rep)
set_option maxRecDepth 100000 in
set_option maxHeartbeats 4000000 in
theorem grow_nil (n:Nat) (w:World) (hn:n ≤ 100000) :
  Calls Tryz.prog 120 #[.slice none 0 0,.int .i64 (n:Int)] w fun e w'=>∃ v,e = .returned v∧w'.ownsRow w.heap.size 3 1 v 0 []∧Below w.heap.size w w':=by
 obtain ⟨i0,hi0,hz0,hz1,hz2⟩:=info_parts info_ints
 cases n with
 | zero =>
  go_enter Tryz.func120,Tryz.ntmps120
  go_wp2_with fail
  go_ret
  exact ⟨_,rfl,World.ownsRow_nil _ _ _ _,Below.refl _ _⟩
 | succ n =>
  have hrz:=fun ty=>Lib.run_append_nil_zeros (P:=Tryz.prog) w 24 3 ty 3 i0 (.int .i64 0) .i64 .i64 Tryz.underlying24 (by kernel_rfl) hi0 hz0 (n + 1) (by omega) (by omega) (by omega) (by rw [hz2];omega)
  have hG:=grownCap_ge w (n + 1) 0 3
  have hG2:=grownCap_le_maxLen w (n + 1) 0 3 (by unfold maxLen;omega)
  have HO:Hid (∀ G,n + 1 ≤ G→G ≤ maxLen→(w.drew.alloc (.cells (Builtin.zeroCells (Value.int .i64 0).cells (n + 1)++Builtin.zeroCells (Value.int .i64 0).cells (G - (n + 1))) 3)).ownsRow w.heap.size 3 1 (.slice (some ⟨w.heap.size,0,none⟩) 0 G) 0 []):=Lib.hid fun G h1 h2=>World.ownsRow_made w.drew _ G (Nat.le_refl _) h2 (by
   rw [Array.size_append,size_zeroCells,size_zeroCells]
   simp [Value.cells]
   omega)
  generalize grownCap w (n + 1) 0 3 = G at hrz hG hG2
  have HG:=Lib.hid hG2
  unfold maxLen at hG2
  have hGi:(n:Int) + 1 > 0:=by omega
  go_enter Tryz.func120,Tryz.ntmps120
  go_wp2_with (at_builtin;refine Lib.wpList_append_run _ rfl _ _ _ _ rfl _ _ rfl rfl _ _ (hrz _) ?_)
  go_ret
  exact ⟨_,rfl,HO.out G hG HG.out,((Below.refl _ _).drew).alloc (Nat.le_refl _) _⟩
theorem chunks_i64 {w:World} {Z:Zone}:∀ {l:List Int} {xs:List Value},Chunks w Z xs l→∀ x ∈ l,I64 x:=fun {l xs} h x hx=>by
 obtain ⟨j,hj⟩:=List.mem_iff_getElem?.1 hx
 obtain ⟨c,hr,-⟩:=h.get hj
 exact hr.2
def Lists (w:World) (A:Option Addr) (ll:List (List Int)):Prop:=∀ c l,ll[c]? = some l→∃ b o B k,A = some ⟨b,o,none⟩∧b < w.heap.size∧w.cell? ⟨b,o + c,none⟩ = some (.slice B l.length k)∧Lst w B k l
def Sum (ll:List (List Int)):Nat:=ll.flatten.length
theorem sum_take {ll:List (List Int)} {c:Nat} {l:List Int} (h:ll[c]? = some l):Sum (ll.take (c + 1)) = Sum (ll.take c) + l.length:=by
 obtain ⟨h1,rfl⟩:=List.getElem?_eq_some_iff.1 h
 unfold Sum
 rw [List.take_succ_eq_append_getElem h1,List.flatten_append,List.length_append]
 simp
theorem sum_le {ll:List (List Int)} (c:Nat):Sum (ll.take c) ≤ Sum ll:=by
 unfold Sum
 conv=>rhs;rw [← List.take_append_drop c ll]
 rw [List.flatten_append,List.length_append]
 omega
set_option maxRecDepth 100000 in
set_option maxHeartbeats 8000000 in
theorem ccat_any (ll:List (List Int)) (A:Option Addr) (k:Nat) (w:World) (hL:Lists w A ll) (hb:ll.length ≤ k) (hb':k ≤ 9223372036854775807) (hs:Sum ll ≤ 1000) (hn:ll.length ≤ 1000) :
  Calls Tryz.prog 106 #[.slice A ll.length k] w fun e w'=>∃ A' k' out,e = .returned (.slice A' out.length k')∧Own w' w.heap.size A' k' out∧Below w.heap.size w w':=by
 obtain ⟨i0,hi0,hz0,hz1,hz2⟩:=info_parts info_ints
 have HL:=Lib.hid hL
 clear hL
 go_enter Tryz.func106,Tryz.ntmps106
 go_wp2_with fail
 go_loopw [3,11] (fun s i wr=>∃ c:Nat,s = .int .i64 (Sum (ll.take c):Int)∧i = .int .i64 (c:Int)∧c ≤ ll.length∧wr = w) (fun _ i _=>ll.length - (intOf i).toNat)
 case atStart=>exact ⟨0,by simp [Sum],rfl,by omega,rfl⟩
 case round =>
  obtain ⟨c,rfl,rfl,hc,rfl⟩:=hrel
  by_cases hlt:c < ll.length
  ·have hlt':(c:Int) < (ll.length:Int):=by omega
   obtain ⟨l,hl⟩:∃ l,ll[c]? = some l:=⟨_,List.getElem?_eq_getElem hlt⟩
   obtain ⟨b,o,B,kB,rfl,hbb,hcell,hlst⟩:=HL.out c l hl
   obtain ⟨lb,lb'⟩:=slice_bnd hlst
   have h1:=sum_take hl
   have h2:=sum_le (ll:=ll) (c + 1)
   have hk0:(0:Int) ≤ (c:Int):=Int.natCast_nonneg _
   obtain ⟨s,hs0⟩:∃ s,Sum (ll.take c) = s:=⟨_,rfl⟩
   rw [hs0] at h1 ⊢
   have hp:¬ ((s:Int) + (l.length:Int) < 0):=by omega
   have hw:wrap64 ((s:Int) + (l.length:Int)) = (s:Int) + (l.length:Int):=by unfold wrap64;omega
   have H1:=Lib.hid h1
   have HW:=Lib.hid hw
   clear hl hlst hs0 h1
   go_wp2_with fail
   go_roundw
   case rel=>exact ⟨c + 1,by rw [H1.out,Int.natCast_add,HW.out],by go_num,by omega,trivial⟩
   case measure=>simp [intOf];omega
  ·have hlt':¬ (c:Int) < (ll.length:Int):=by omega
   obtain rfl:c = ll.length:=by omega
   have hs2:Sum (ll.take ll.length) = Sum ll:=by rw [List.take_length]
   rw [hs2]
   clear hs2 hc
   go_wp2_with fail
   obtain ⟨w0,rfl⟩:∃ w0,w0 = wr:=⟨_,rfl⟩
   refine (grow_nil (Sum ll) w0 (by omega)).mono ?_
   rintro e w1 ⟨v,rfl,hown,hbel⟩
   have HA:=Lib.hid (show AppI w0 w1 v [] from ⟨hown,by simp,hbel⟩)
   clear hown hbel
   go_wp2_with fail
   go_loopw [6,27] (fun v i wr=>∃ (c:Nat) (out:List Int),i = .int .i64 (c:Int)∧c ≤ ll.length∧AppI w0 wr v out∧out.length = Sum (ll.take c)) (fun _ i _=>ll.length - (intOf i).toNat)
   case atStart=>exact ⟨0,[],rfl,by omega,HA.out,by simp [Sum]⟩
   case round =>
    obtain ⟨c,out,rfl,hc,hA,hol⟩:=hrel
    obtain ⟨wb,rfl⟩:∃ wb,wb = wr:=⟨_,rfl⟩
    replace HA:=Lib.hid hA
    have HB:=Lib.hid hA.below
    have HS:=Lib.hid hol
    have hs3:=sum_le (ll:=ll) c
    have hol2:out.length ≤ 1000:=by omega
    clear hA hol
    by_cases hlt:c < ll.length
    ·have hlt':(c:Int) < (ll.length:Int):=by omega
     obtain ⟨l,hl⟩:∃ l,ll[c]? = some l:=⟨_,List.getElem?_eq_getElem hlt⟩
     obtain ⟨b,o,B,kB,rfl,hbb,hcell,hlst⟩:=HL.out c l hl
     obtain ⟨A3,k3,xs,hv,-,-,-,hlx,hch⟩:=open_slice (Rep.keep hlst (Keeps.old_below HB.out (Nat.le_refl _)))
     simp only [Value.slice.injEq,true_and] at hv
     obtain ⟨rfl,rfl⟩:=hv
     obtain rfl:=chunks_ints hch
     have h1:=sum_take hl
     have h2:=sum_le (ll:=ll) (c + 1)
     have hl2:l.length ≤ 1000:=by omega
     have hcell:=(HB.out.cell (p:=⟨b,o + c,none⟩) hbb).trans hcell
     have H1:=Lib.hid (And.intro h1 (And.intro hlx hch))
     have hk0:(0:Int) ≤ (c:Int):=Int.natCast_nonneg _
     clear hl hlst h1 h2 hlx hch hs3
     go_wp2_with (at_builtin;refine wpList_append_lies _ rfl _ _ 24 rfl w0.heap.size 3 i0 (.int .i64 0) 1 8 Tryz.underlying24 hi0 hz0 hz1 hz2 rfl (by decide) _ _ _ rfl HA.out.own (old w0.heap.size) _ _ _ _ rfl ?c1 H1.out.2.1 ?c2 ?c3 ?c4 ?c5 ?_)
     case c1=>simp
     case c2=>exact fun u hu=>by obtain ⟨x,-,rfl⟩:=List.mem_map.1 hu;rfl
     case c3=>unfold maxLen;omega
     case c4=>omega
     case c5=>exact HB.out.size
     intro v' w7 hown' hgrow _
     have HG:=Lib.hid (And.intro (⟨by rw [List.length_append,List.map_append];exact hown',fun x hx=>by
      rcases List.mem_append.1 hx with h | h
      ·exact HA.out.ints x h
      ·obtain ⟨j,hj⟩:=List.mem_iff_getElem?.1 h
       exact (chunks_i64 H1.out.2.2) x h,HB.out.grown hgrow HB.out.size (fun g hg=>(HA.out.own.lt g hg).1)⟩:AppI w0 w7 v' (out++l)) (show (out++l).length = Sum (ll.take (c + 1)) by rw [List.length_append,HS.out,H1.out.1]))
     clear hown' hgrow hcell
     go_wp2
     go_roundw
     case rel=>exact ⟨c + 1,out++l,by go_num,by omega,HG.out.1,HG.out.2⟩
     case measure=>simp [intOf];omega
    ·have hlt':¬ (c:Int) < (ll.length:Int):=by omega
     obtain ⟨D,kd,rfl,ho⟩:=HA.out.lst (by omega)
     have HO:=Lib.hid ho
     clear ho
     go_wp2
     go_ret
     exact ⟨D,kd,out,rfl,HO.out,HB.out⟩
theorem lists_three {w:World} {g:Nat} {t:TypeId} {A B C:Option Addr} {i j k:Nat} {a b c:List Int} (hg:w.heap[g]? = some (.cells #[.slice A a.length i,.slice B b.length j,.slice C c.length k] t (0,0))) (ha:Lst w A i a) (hb:Lst w B j b) (hc:Lst w C k c):Lists w (some ⟨g,0,none⟩) [a,b,c]:=fun n l hl=>by
 have hlt:g < w.heap.size:=(Array.getElem?_eq_some_iff.1 hg).1
 have hce:∀ m,w.cell? ⟨g,0 + m,none⟩ = (#[Value.slice A a.length i,.slice B b.length j,.slice C c.length k]:Array Value)[m]?:=fun m=>by rw [cell_of_row _ _ _ _ _ _ hg];simp
 match n,hl with
 | 0,hl=>obtain rfl:=Option.some.inj hl;exact ⟨g,0,A,i,rfl,hlt,(hce 0).trans rfl,ha⟩
 | 1,hl=>obtain rfl:=Option.some.inj hl;exact ⟨g,0,B,j,rfl,hlt,(hce 1).trans rfl,hb⟩
 | 2,hl=>obtain rfl:=Option.some.inj hl;exact ⟨g,0,C,k,rfl,hlt,(hce 2).trans rfl,hc⟩
end Go.Proofs.YtilobeohkomeoaaGreat
set_option linter.unusedSimpArgs false
set_option linter.unusedVariables false
namespace Go.Proofs.YtilobeohkomeoaaGreat
open Go.RowKit
open Rep (rep)
set_option maxRecDepth 100000 in
set_option maxHeartbeats 8000000 in
theorem picked_any (cs:List Value) (a:AskD) (out:List Int) (C:Option Addr) (kC:Nat) (w:World) (hr:rep w (old w.heap.size) cs a) (ho:Lst w C kC out) :
  Calls Tryz.prog 107 #[.agg cs.toArray,.slice C out.length kC] w (ShP w P1):=by
 obtain ⟨cb,cb'⟩:=slice_bnd ho
 have HO:=Lib.hid ho
 clear ho
 go_enter Tryz.func107,Tryz.ntmps107
 go_wp2_with (with_reducible refine wpList_box_row rfl 91 _ rfl cs rfl ?_;have hX:=ask_start hr;generalize World.alloc _ _ = W0 at hX ⊢;have HX:=Lib.hid hX;clear hX hr;refine halt ?_)
 unfold Halt
 go_wp2_with fail
 refine wp_region_held_drew (S:=fun W=>AskI w cs a W∧Below W0.heap.size W0 W) (by kernel_rfl) ⟨(HX.out.next ((Below.refl _ _).drew)),(Below.refl _ _).drew⟩ (fun hHeld=>?_)
 generalize World.drew _ = V0 at hHeld ⊢
 refine tk9 0 (some 9) (v:=.agg cs.toArray) rfl (yields_ask (by kernel_rfl) _ rfl (by kernel_rfl) (fun _ h=>h.1)) hHeld ?_
 refine tk9 2 (some 11) (v:=.agg cs.toArray) rfl (yields_ask (by kernel_rfl) _ rfl (by kernel_rfl) (fun _ h=>h.1)) hHeld ?_
 refine call_d9 1 (some 10) rfl (by kernel_rfl) (by kernel_rfl) (by kernel_rfl) 70 _ _ rfl #[.agg cs.toArray,.int .i64 0] (by kernel_rfl) (fun w=>by kernel_rfl) ?_
 refine (askDims cs a 0 _ hHeld.1.arg).mono ?_
 rintro e V1 ⟨A0,k0,rfl,h0,hb⟩
 have L0:=Lib.hid (show Lst V1 A0 k0 (a.dims 0) from h0)
 clear h0
 replace hHeld:=held_next hHeld hb
 refine ⟨_,rfl,hHeld,?_⟩
 clear hb
 refine call_d9 3 (some 12) rfl (by kernel_rfl) (by kernel_rfl) (by kernel_rfl) 70 _ _ rfl #[.agg cs.toArray,.int .i64 1] (by kernel_rfl) (fun w=>by kernel_rfl) ?_
 refine (askDims cs a 1 _ hHeld.1.arg).mono ?_
 rintro e V2 ⟨A1,k1,rfl,h1,hb⟩
 replace L0:=Lib.hid (L0.out.next hb)
 have L1:=Lib.hid (show Lst V2 A1 k1 (a.dims 1) from h1)
 clear h1
 replace hHeld:=held_next hHeld hb
 refine ⟨_,rfl,hHeld,?_⟩
 clear hb
 refine tk0 4 (some 6) (v:=.slice A0 (a.dims 0).length k0) rfl hHeld ?_
 refine tk0 5 (some 7) (v:=.slice A1 (a.dims 1).length k1) rfl hHeld ?_
 refine wpAnyH_done (by kernel_rfl) ?_ _
 have HX2:=Lib.hid (And.intro hHeld.1 (HO.out.next (show Below w.heap.size w V2 from hHeld.1.below)))
 obtain ⟨b0,b0'⟩:=slice_bnd L0.out
 obtain ⟨b1,b1'⟩:=slice_bnd L1.out
 clear hHeld
 generalize a.dims 0 = x at L0 b0 ⊢
 generalize a.dims 1 = y at L1 b1 ⊢
 by_cases hxy:x.length = y.length
 ·have HL:=Lib.hid hxy
  rw [← hxy]
  clear hxy
  go_wp2_with fail
  go_loopw [23] (fun i wr=>∃ c:Nat,i = .int .i64 c∧c ≤ x.length∧AskI w cs a wr∧Below V2.heap.size V2 wr) (fun i _=>x.length - (intOf i).toNat)
  case atStart=>exact ⟨0,rfl,by omega,HX2.out.1,Below.refl _ _⟩
  case round =>
   obtain ⟨c,rfl,hc,hA,hB⟩:=hrel
   obtain ⟨wb,rfl⟩:∃ wb,wb = wr:=⟨_,rfl⟩
   have HA:=Lib.hid (And.intro hA hB)
   clear hA hB
   by_cases hlt:c < x.length
   ·have hlt':(c:Int) < (x.length:Int):=by omega
    obtain ⟨z,hz⟩:∃ z,x[c]? = some z:=⟨_,List.getElem?_eq_getElem hlt⟩
    obtain ⟨u,hu⟩:∃ u,y[c]? = some u:=⟨_,List.getElem?_eq_getElem (by have:=HL.out;omega)⟩
    obtain ⟨-,b2,o2,rfl,hzb,kz⟩:=int_at L0.out hz
    obtain ⟨-,b3,o3,rfl,hub,ku⟩:=int_at L1.out hu
    have KZ:=Lib.hid (And.intro kz (And.intro ku (And.intro (show b2 < V2.heap.size from hzb) (show b3 < V2.heap.size from hub))))
    clear hz hu kz ku hzb hub
    go_wp2_with fail
    refine wp_region_held_drew (S:=fun W=>AskI w cs a W∧Below V2.heap.size V2 W) (by kernel_rfl) ⟨HA.out.1.next ((Below.refl _ _).drew),HA.out.2.drew⟩ (fun hHeld=>?_)
    generalize World.drew _ = V3 at hHeld ⊢
    refine tk0 0 (some 26) (v:=.int .i64 (c:Int)) rfl hHeld ?_
    refine tk9 1 (some 27) (v:=.agg cs.toArray) rfl (yields_ask (by kernel_rfl) _ rfl (by kernel_rfl) (fun _ h=>h.1)) hHeld ?_
    refine call_d9 2 (some 28) rfl (by kernel_rfl) (by kernel_rfl) (by kernel_rfl) 105 _ _ rfl #[.agg cs.toArray] (by kernel_rfl) (fun w=>by kernel_rfl) ?_
    refine (axisK_any cs a _ hHeld.1.arg).mono ?_
    rintro e V4 ⟨rfl,hb⟩
    generalize (axisD a.s.axis ((a.dims 0).length:Int)).1 = kx
    replace hHeld:=held_next hHeld hb
    refine ⟨_,rfl,hHeld,?_⟩
    clear hb
    refine tk0 3 (some 29) (v:=.bool ((c:Int) != kx)) rfl hHeld ?_
    generalize ((c:Int) != kx) = t
    refine tk0 4 (some 30) (v:=.bool t) rfl hHeld ?_
    cases t with
    | false =>
     refine tk9 5 (some 31) (v:=undef) rfl (Or.inr ⟨by kernel_rfl,rfl⟩) hHeld ?_
     refine tk9 6 (some 32) (v:=undef) rfl (Or.inr ⟨by kernel_rfl,rfl⟩) hHeld ?_
     refine tk9 7 (some 33) (v:=undef) rfl (Or.inr ⟨by kernel_rfl,rfl⟩) hHeld ?_
     refine tk9 8 (some 34) (v:=undef) rfl (Or.inr ⟨by kernel_rfl,rfl⟩) hHeld ?_
     refine tk9 9 (some 35) (v:=undef) rfl (Or.inr ⟨by kernel_rfl,rfl⟩) hHeld ?_
     refine tk9 10 (some 36) (v:=undef) rfl (Or.inr ⟨by kernel_rfl,rfl⟩) hHeld ?_
     refine tk9 11 (some 37) (v:=undef) rfl (Or.inr ⟨by kernel_rfl,rfl⟩) hHeld ?_
     refine tk9 12 (some 38) (v:=undef) rfl (Or.inr ⟨by kernel_rfl,rfl⟩) hHeld ?_
     refine tk9 13 (some 39) (v:=undef) rfl (Or.inr ⟨by kernel_rfl,rfl⟩) hHeld ?_
     refine tk0 14 (some 40) (v:=.bool false) rfl hHeld ?_
     refine wpAnyH_done (by kernel_rfl) ?_ _
     rename_i K0 a0
     change K0 _ _
     refine a0 _ _ (wp_cond_false (by kernel_rfl) ?_)
     have HZ:=Lib.hid hHeld
     clear hHeld
     go_wp2
     go_roundw
     case rel=>exact ⟨c + 1,by go_num,by omega,HZ.out.1,HZ.out.2⟩
     case measure=>simp [intOf];omega
    | true =>
     refine tk0 5 (some 31) (v:=.slice (some ⟨b3,o3,none⟩) x.length k1) rfl hHeld ?_
     refine tk0 6 (some 32) (v:=.int .i64 (c:Int)) rfl hHeld ?_
     refine tk9 7 (some 33) (v:=.pointer (some ⟨b3,o3 + c,none⟩)) rfl (yields_idx (by kernel_rfl) _ _ rfl b3 o3 (x.length) k1 c (by kernel_rfl) (by kernel_rfl) hlt) hHeld ?_
     refine tk9 8 (some 34) (v:=.int .i64 u) rfl (yields_load_one9 (by kernel_rfl) _ _ rfl b3 (o3 + c) (by kernel_rfl) _ _ Tryz.underlying3 rfl (fun _ h=>(h.2.cell (p:=⟨b3,o3 + c,none⟩) KZ.out.2.2.2).trans KZ.out.2.1)) hHeld ?_
     refine tk0 9 (some 35) (v:=.slice (some ⟨b2,o2,none⟩) x.length k0) rfl hHeld ?_
     refine tk0 10 (some 36) (v:=.int .i64 (c:Int)) rfl hHeld ?_
     refine tk9 11 (some 37) (v:=.pointer (some ⟨b2,o2 + c,none⟩)) rfl (yields_idx (by kernel_rfl) _ _ rfl b2 o2 (x.length) k0 c (by kernel_rfl) (by kernel_rfl) hlt) hHeld ?_
     refine tk9 12 (some 38) (v:=.int .i64 z) rfl (yields_load_one9 (by kernel_rfl) _ _ rfl b2 (o2 + c) (by kernel_rfl) _ _ Tryz.underlying3 rfl (fun _ h=>(h.2.cell (p:=⟨b2,o2 + c,none⟩) KZ.out.2.2.1).trans KZ.out.1)) hHeld ?_
     refine tk0 13 (some 39) (v:=.bool (decide (u > z))) rfl hHeld ?_
     generalize decide (u > z) = t2
     refine tk0 14 (some 40) (v:=.bool t2) rfl hHeld ?_
     have HZ:=Lib.hid hHeld
     clear hHeld
     cases t2 with
     | false =>
      refine wpAnyH_done (by kernel_rfl) ?_ _
      rename_i K0 a0
      change K0 _ _
      refine a0 _ _ (wp_cond_false (by kernel_rfl) ?_)
      go_wp2
      go_roundw
      case rel=>exact ⟨c + 1,by go_num,by omega,HZ.out.1,HZ.out.2⟩
      case measure=>simp [intOf];omega
     | true =>
      refine wpAnyH_done (by kernel_rfl) ?_ _
      rename_i K0 a0
      change K0 _ _
      refine a0 _ _ (wp_cond_true (by kernel_rfl) ?_)
      go_wp2_with fail
      refine (misfit_any _).mono ?_
      rintro e w5 ⟨rfl,rfl⟩
      go_wp2
      go_ret2
      exact sh_misfit HZ.out.1.below
   ·have hlt':¬ (c:Int) < (x.length:Int):=by omega
    have HW:=Lib.hid (HX2.out.2.next HA.out.2)
    go_wp2_with fail
    refine (one_any out C kC wb HW.out).mono ?_
    rintro e w2 ⟨D,j,x,ll,rfl,hx,hb,hl,rfl,rfl⟩
    have HC:=Lib.hid (And.intro (HA.out.1.trans hb) hl)
    clear hx hb hl
    go_wp2
    go_ret2
    exact ⟨D,j,0,[out],rfl,by unfold I64;omega,HC.out.1,HC.out.2,fun _=>rfl⟩
 ·have hxy':((x.length:Int) != (y.length:Int)) = true:=by simp;omega
  go_wp2_with fail
  refine (misfit_any _).mono ?_
  rintro e w5 ⟨rfl,rfl⟩
  go_wp2
  go_ret2
  exact sh_misfit HX2.out.1.below
end Go.Proofs.YtilobeohkomeoaaGreat
