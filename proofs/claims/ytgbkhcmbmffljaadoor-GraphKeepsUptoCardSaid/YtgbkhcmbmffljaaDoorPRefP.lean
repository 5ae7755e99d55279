/-
  latticeref09.has, Live: what the document says of the nodes on which nothing hangs is what the program's Live says.
-/
/-
  graph.Prune: a graph without the nodes on which nothing hangs, in new memory.
-/
/-
  latticeref09.Prune: the document's graph without the nodes on which nothing hangs.
-/
import Derived.Test.YtgbkhcmbmffljaaDoorPGReady
import Derived.Test.YtgbkhcmbmffljaaDoorPGSound
import Derived.Test.YtgbkhcmbmffljaaDoorPWorn
import Derived.Test.YtgbkhcmbmffljaaDoorPGCp
set_option linter.unusedSimpArgs false
set_option linter.unusedVariables false
namespace Go.Proofs.YtgbkhcmbmffljaaDoor
open Go.RowKit
open Rep (rep)
set_option maxRecDepth 100000 in
set_option maxHeartbeats 4000000 in
theorem has_any (v:Value) (l:List Int) (x:Int) (w:World) (hr:rep w (old w.heap.size) [v] l) :
  Calls Tryd.prog 99 #[v,.int .i64 x] w fun e w'=>e = .returned (.bool (l.contains x))∧w' = w:=by
 obtain ⟨A1,k1,xs,rfl,hn1,hc1,-,hl1,hch1⟩:=open_slice hr
 have HL:=Lib.hid (And.intro hl1 hch1)
 clear hr hl1 hch1
 go_enter Tryd.func99,Tryd.ntmps99
 go_wp2_with fail
 go_loopw [5] (fun i wr=>∃ (pre post:List Int),l = pre++post∧i = .int .i64 pre.length∧Aside (pre.contains x = false)∧wr = w) (fun i _=>l.length - (intOf i).toNat)
 case atStart=>exact ⟨[],l,rfl,rfl,rfl,rfl⟩
 case round =>
  obtain ⟨pre,post,hpp,rfl,hno,rfl⟩:=hrel
  have HNO:=Lib.hid hno
  clear hno
  cases post with
  | cons z post =>
   obtain ⟨hz,hlt,hpp',hpl⟩:=split_at hpp
   obtain ⟨b1,o1,xc1,rfl,-,hrz1,hcell1⟩:=elem_at HL.out.1 HL.out.2 (by decide) hz
   obtain ⟨rfl,-⟩:=hrz1
   have k4:wr.cell? ⟨b1,o1 + pre.length,none⟩ = some (.int .i64 z):=cell_of_elem (α:=Int) rfl hcell1 rfl
   have H:=Lib.hid (And.intro hpp' (And.intro hpl hpp))
   have hk0:(0:Int) ≤ (pre.length:Int):=Int.natCast_nonneg _
   have hk1:(pre.length:Int) < (l.length:Int):=by omega
   clear hpp hpp' hpl hz hcell1
   by_cases hzx:z = x
   ·subst hzx
    go_wp2
    go_ret
    refine ⟨by rw [H.out.2.2];simp,?_⟩
    first | rfl | trivial
   ·have HZ:=Lib.hid hzx
    go_wp2
    go_roundw
    case rel=>exact ⟨pre++[z],post,H.out.1,by rw [H.out.2.1];go_num,by
     have h:=HNO.out
     have h2:=HZ.out
     show (pre++[z]).contains x = false
     rw [List.contains_eq_any_beq] at h ⊢
     rw [List.any_append]
     have h':pre.any (fun a=>x == a) = false:=h
     simp only [h',Bool.false_or,List.any_cons,List.any_nil,Bool.or_false]
     exact beq_eq_false_iff_ne.2 (fun e=>h2 e.symm),by first | rfl | trivial⟩
    case measure=>simp [intOf];omega
  | nil =>
   obtain ⟨hge,hpl⟩:=split_end hpp
   have HP:=Lib.hid hpl
   clear hpp hpl
   go_wp2
   go_ret
   have h:=HNO.out
   rw [HP.out] at h
   refine ⟨by rw [show l.contains x = false from h];rfl,?_⟩
   first | rfl | trivial
def hangs (W0:Int→Bool) (l:List GNodeD) (bs:List Bool) (v:Int):Bool:=W0 v || (l.zip bs).any fun p=>p.2 && p.1.ins.contains v
theorem hangs_live (W0:Int→Bool) (v:Int):∀ l:List GNodeD,hangs W0 l (liveS l W0).1 v = (liveS l W0).2 v
 | []=>by simp [hangs,liveS]
 | n :: l=>by
  have ih:=hangs_live W0 v l
  rw [liveS_cons]
  unfold liveStep
  unfold hangs at ih ⊢
  simp only [List.zip_cons_cons,List.any_cons]
  rw [← Bool.or_assoc,Bool.or_comm (W0 v),Bool.or_assoc,ih]
  cases h:n.outs.any (liveS l W0).2 with
  | true=>simp [Bool.or_comm]
  | false=>simp
theorem hangs_snoc (W0:Int→Bool) (v:Int) (l:List GNodeD) (bs:List Bool) (z:GNodeD) (y:Bool) (h:l.length = bs.length):hangs W0 (l++[z]) (bs++[y]) v = (hangs W0 l bs v || (y && z.ins.contains v)):=by
 unfold hangs
 rw [List.zip_append h,List.any_append]
 simp [Bool.or_assoc]
structure BoolAt (w:World) (cs:List Value) (q:Nat) (bs:List Bool) (W:World):Prop where
 below:Below w.heap.size w W
 row:W.heap[w.heap.size]? = some (.cells cs.toArray 63 (0,0))
 arr:W.heap[q]? = some (.cells (bs.map Value.bool).toArray 4 (0,0))
 gq:w.heap.size < q
section
variable {w W W':World} {cs:List Value} {q:Nat} {bs:List Bool}
theorem BoolAt.set (h:BoolAt w cs q bs W) (k:Nat) (x:Bool):BoolAt w cs q (bs.set k x) (W.setCell ⟨q,k,none⟩ (.bool x)):=by
 rw [set_as_row h.arr]
 have h1:=h.gq
 refine ⟨below_setRow' h.below (by omega) _,(heap_setRow_other _ _ _ _ (by omega)).trans h.row,?_,h1⟩
 rw [heap_setRow _ _ _ _ _ h.arr,List.map_set,List.setIfInBounds_toArray]
theorem BoolAt.free (h:BoolAt w cs q bs W) (k:Nat):W.frozen? ⟨q,k,none⟩ = false:=by simp [World.frozen?,h.arr]
theorem BoolAt.cell (h:BoolAt w cs q bs W) {k:Nat} {x:Bool} (hk:bs[k]? = some x):W.cell? ⟨q,k,none⟩ = some (.bool x):=by
 rw [cell_of_row _ _ _ _ _ _ h.arr,List.getElem?_toArray,List.getElem?_map,hk];rfl
theorem BoolAt.keeps' (h:BoolAt w cs q bs W) {α:Type} [Rep α] {c:List Value} {a:α} (hr:rep w (old w.heap.size) c a):rep W (old W.heap.size) c a :=
 Rep.more (Rep.keep hr (Keeps.old_below h.below (Nat.le_refl _))) (old_le h.below.size)
end
theorem mid_get (n:Nat) (y:Bool) (l:List Bool):(List.replicate n false++y :: l)[n]? = some y:=by simp
theorem mid_get2 (n:Nat) (y:Bool) (l:List Bool) (j:Nat):(List.replicate n false++y :: l)[n + 1 + j]? = l[j]?:=by
 rw [List.getElem?_append_right (by simp;omega),List.length_replicate,show n + 1 + j - n = j + 1 by omega,List.getElem?_cons_succ]
set_option maxRecDepth 100000 in
set_option maxHeartbeats 40000000 in
theorem rlive_any (cs:List Value) (a:GraphD) (w:World) (hr:rep w (old w.heap.size) cs a) (hs2:a.nodes.length ≤ 1048576) :
  Calls Tryd.prog 62 #[.agg cs.toArray] w fun e w'=>∃ v,e = .returned v∧rep w' (fresh w.heap.size w'.heap.size) [v] (liveD a)∧Below w.heap.size w w':=by
 obtain ⟨A1,k1,A2,k2,A3,k3,A4,k4,rfl,r1,r2,r3,r4⟩:=open_GraphD hr
 obtain ⟨n2,n2'⟩:=slice_bnd r2
 obtain ⟨NB,nc,ns,hv,-,-,-,hl,hch⟩:=open_slice r2
 simp only [Value.slice.injEq,true_and] at hv
 obtain ⟨rfl,rfl⟩:=hv
 have HR:=Lib.hid (And.intro r4 (And.intro hl hch))
 clear hr r1 r2 r3 r4 hl hch
 go_enter Tryd.func62,Tryd.ntmps62
 go_wp2_with (with_reducible refine wpList_box_row rfl 63 _ rfl ([.slice A1 a.vals.length k1,.slice A2 a.nodes.length k2,.slice A3 a.inputs.length k3,.slice A4 a.outputs.length k4]:List Value) rfl ?_;have hX:=heap_alloc_new w (.cells ([.slice A1 a.vals.length k1,.slice A2 a.nodes.length k2,.slice A3 a.inputs.length k3,.slice A4 a.outputs.length k4]:List Value).toArray 63);have hB:Below w.heap.size w (w.alloc (.cells ([.slice A1 a.vals.length k1,.slice A2 a.nodes.length k2,.slice A3 a.inputs.length k3,.slice A4 a.outputs.length k4]:List Value).toArray 63)):=(Below.refl _ _).alloc (Nat.le_refl _) _;generalize World.alloc _ _ = W0 at hX hB ⊢;have HX:=Lib.hid (And.intro hX hB);clear hX hB;refine halt ?_)
 unfold Halt
 have hlt:w.heap.size < W0.heap.size:=(Array.getElem?_eq_some_iff.1 HX.out.1).1
 have c1:=cell_at (j:=1) HX.out.1 rfl
 have hmk:=make_bools a.nodes.length W0 hs2
 have c1':∀ o:Obj,(W0.alloc o).cell? ⟨w.heap.size,1,none⟩ = some (.slice A2 a.nodes.length k2):=fun o=>(World.cell?_alloc_lt _ _ _ hlt).trans c1
 go_wp2_with fail
 clear hmk c1'
 have hA:BoolAt w ([.slice A1 a.vals.length k1,.slice A2 a.nodes.length k2,.slice A3 a.inputs.length k3,.slice A4 a.outputs.length k4]:List Value) W0.heap.size (List.replicate a.nodes.length false) (W0.alloc (.cells (Array.replicate a.nodes.length (.bool false)) 4)) :=
  ⟨HX.out.2.trans (((Below.refl _ _).alloc (Nat.le_refl _) _).mono (Nat.le_of_lt hlt)),(Below.heap_alloc _ _ _ hlt).trans HX.out.1,by rw [← bools_arr];exact heap_alloc_new _ _,hlt⟩
 obtain ⟨q,hq⟩:∃ q,W0.heap.size = q:=⟨_,rfl⟩
 rw [hq] at hA ⊢
 generalize W0.alloc (.cells (Array.replicate a.nodes.length (.bool false)) 4) = wa at hA ⊢
 have HA:=Lib.hid hA
 clear hA c1 hq hlt
 obtain ⟨F,hF⟩:∃ F:Int→Bool,(fun k=>a.outputs.contains k) = F:=⟨_,rfl⟩
 have HF:=Lib.hid hF
 clear hF
 go_loopg [4] (a.nodes.length + 1) (fun gk s4 wr=>∃ (pr post:List GNodeD),a.nodes = pr++post∧pr.length + 1 = gk∧s4 = .int .i64 ((pr.length:Int) - 1)∧BoolAt w ([.slice A1 a.vals.length k1,.slice A2 a.nodes.length k2,.slice A3 a.inputs.length k3,.slice A4 a.outputs.length k4]:List Value) q (List.replicate pr.length false++(liveS post F).1) wr)
 case atStart=>exact ⟨a.nodes,[],(List.append_nil _).symm,rfl,rfl,by
  show BoolAt _ _ _ (_++[]) _
  rw [List.append_nil];exact HA.out⟩
 case round =>
  obtain ⟨pr,post,hpp,hgk,rfl,hA⟩:=hrel
  have HI:=Lib.hid hA
  clear hA HA HX
  cases gk with
  | zero=>omega
  | succ gA =>
   rcases List.eq_nil_or_concat pr with rfl | ⟨pr,z,rfl⟩
   ·have HPost:=Lib.hid (show a.nodes = post from hpp)
    clear hpp
    have hg:¬ ((([]:List GNodeD).length:Int) - 1 ≥ 0):=by simp
    go_wp2
    go_ret
    refine ⟨.slice (some ⟨q,0,none⟩) a.nodes.length a.nodes.length,rfl,?_,HI.out.below⟩
    have e1:(liveS post F).1 = liveD a:=by unfold liveD;rw [HPost.out,HF.out]
    have hA:=HI.out
    rw [e1] at hA
    have hl:(liveD a).length = a.nodes.length:=liveS_len _ _
    rw [← hl]
    exact rep_bools_new (Nat.le_of_lt hA.gq) hA.arr (by omega)
   ·rw [List.concat_eq_append,List.append_assoc] at hpp
    rw [List.concat_eq_append] at HI hgk
    rw [List.concat_eq_append,List.length_append,show (((pr.length + [z].length:Nat):Int) - 1) = (pr.length:Int) by simp]
    obtain ⟨hz,hlt,hpp',hpl⟩:=split_at hpp
    have hnl:a.nodes.length = pr.length + 1 + post.length:=by rw [hpp];simp;omega
    have HP:=Lib.hid (And.intro hpp' (And.intro hpl (And.intro hgk hnl)))
    have HZ:=Lib.hid hz
    have hk0:(0:Int) ≤ (pr.length:Int):=Int.natCast_nonneg _
    have hk1:(pr.length:Int) < (a.nodes.length:Int):=by omega
    have hge:(pr.length:Int) ≥ 0:=hk0
    clear hz hpp hpp' hpl hgk hnl
    have hA:=HI.out
    rw [List.length_append,List.length_singleton,List.replicate_succ',List.append_assoc] at hA
    replace HI:=Lib.hid (show BoolAt w ([.slice A1 a.vals.length k1,.slice A2 a.nodes.length k2,.slice A3 a.inputs.length k3,.slice A4 a.outputs.length k4]:List Value) q (List.replicate pr.length false++false :: (liveS post F).1) wr from hA)
    clear hA
    obtain ⟨b,o,zc,rfl,hbB,hrz,hcell⟩:=elem_at HR.out.2.1 HR.out.2.2 (by decide) HZ.out
    obtain ⟨ss,I1,i1,O1,o1,-,z37,z38,-,-,zi,zo,-⟩:=gnode_facts hrz
    have hcz:∀ (W:World),Below w.heap.size w W→∀ j u,zc[j]? = some u→W.cell? ⟨b,o + pr.length * 40 + j,none⟩ = some u:=fun W hW j u hu=>by
     rw [Nat.add_assoc];exact (hW.cell (p:=⟨b,o + (pr.length * 40 + j),none⟩) hbB).trans (hcell j u hu).1
    obtain ⟨O1',o1',ys,hv,hnc2,hcm2,-,hl2,hch2⟩:=open_slice zo
    simp only [Value.slice.injEq,true_and] at hv
    obtain ⟨rfl,rfl⟩:=hv
    have HZC:=Lib.hid (And.intro hcz (And.intro z38 (And.intro hl2 hch2)))
    clear hrz hcell z37 z38 zi zo hcz hl2 hch2
    obtain ⟨W1,hW1⟩:∃ W1:Int→Bool,(liveS post F).2 = W1:=⟨_,rfl⟩
    obtain ⟨L1,hL1⟩:∃ L1:List Bool,(liveS post F).1 = L1:=⟨_,rfl⟩
    have hLl:L1.length = post.length:=by rw [← hL1];exact liveS_len _ _
    have hWH:∀ v,hangs F post L1 v = W1 v:=fun v=>by rw [← hL1,← hW1];exact hangs_live F v post
    rw [hL1] at HI
    have HWL:=Lib.hid (And.intro hW1 (And.intro hL1 (And.intro hLl hWH)))
    clear hW1 hL1 hLl hWH
    go_wp2_with fail
    go_loopg [5] z.outs.length (fun k s5 wr=>∃ (p2 q2:List Int),z.outs = p2++q2∧q2.length = k∧s5 = .int .i64 p2.length∧BoolAt w ([.slice A1 a.vals.length k1,.slice (some ⟨b,o,none⟩) a.nodes.length k2,.slice A3 a.inputs.length k3,.slice A4 a.outputs.length k4]:List Value) q (List.replicate pr.length false++p2.any W1 :: L1) wr)
    case atStart=>exact ⟨[],z.outs,rfl,rfl,rfl,HI.out⟩
    case round =>
     obtain ⟨p2,q2,hpp2,hgk2,rfl,hA⟩:=hrel
     have HI2:=Lib.hid hA
     have c1:=cell_at (j:=1) hA.row rfl
     have c38:=HZC.out.1 _ hA.below _ _ HZC.out.2.1
     clear hA
     cases gk with
     | zero =>
      have hq0:q2 = []:=List.length_eq_zero_iff.1 hgk2
      subst hq0
      obtain ⟨hge2,hpl2⟩:=split_end hpp2
      have HPL:=Lib.hid hpl2
      clear hpp2 hpl2 hgk2
      go_wp2
      go_roundg gA
      case measure=>omega
      case rel =>
       refine ⟨pr,z :: post,by rw [HP.out.1];simp,by have:=HP.out.2.2.1;have:=HP.out.2.1;omega,by go_num,?_⟩
       rw [liveS_cons]
       unfold liveStep
       rw [HWL.out.1,HWL.out.2.1,← HPL.out]
       exact HI2.out
     | succ gB =>
      cases q2 with
      | nil=>cases hgk2
      | cons v q2 =>
       obtain ⟨hz2,hlt2,hpp2',hpl2⟩:=split_at hpp2
       obtain ⟨b4,o4,vc,rfl,hb4,hrv,hcv⟩:=elem_at HZC.out.2.2.1 HZC.out.2.2.2 (by decide) hz2
       obtain ⟨rfl,-⟩:=hrv
       have k4:=(HI2.out.below.cell (p:=⟨b4,o4 + p2.length,none⟩) hb4).trans (cell_of_elem (α:=Int) rfl hcv rfl)
       have HP2:=Lib.hid (And.intro hpp2' (And.intro hpl2 hgk2))
       have hm0:(0:Int) ≤ (p2.length:Int):=Int.natCast_nonneg _
       have hm1:(p2.length:Int) < (z.outs.length:Int):=by omega
       clear hpp2 hpp2' hpl2 hgk2 hz2 hb4 hcv
       go_upto_region 9 with (fail)
       clear c1 c38 k4
       go_cut [] from 40 to 52 (fun wx=>BoolAt w ([.slice A1 a.vals.length k1,.slice (some ⟨b,o,none⟩) a.nodes.length k2,.slice A3 a.inputs.length k3,.slice A4 a.outputs.length k4]:List Value) q (List.replicate pr.length false++(p2.any W1 || F v) :: L1) wx)
       case first =>
        have di:=HI2.out.cell (mid_get pr.length (p2.any W1) L1)
        have fi:=HI2.out.free pr.length
        obtain ⟨y,hy⟩:∃ y,p2.any W1 = y:=⟨_,rfl⟩
        rw [hy] at di
        have HY:=Lib.hid hy
        clear hy
        cases y with
        | true =>
         go_wp2
         go_meet
         have h:=HI2.out.set pr.length true
         rw [HY.out,set_mid] at h
         rw [HY.out,Bool.true_or]
         exact h
        | false =>
         have c3:=cell_at (j:=3) HI2.out.row rfl
         go_wp2_with fail
         clear c3 di fi
         have hh:=has_any _ a.outputs v _ (HI2.out.keeps' HR.out.1)
         obtain ⟨hb,hhb⟩:∃ hb,a.outputs.contains v = hb:=⟨_,rfl⟩
         rw [hhb] at hh
         have HHB:=Lib.hid hhb
         clear hhb
         refine hh.mono ?_
         clear hh
         rintro e w4 ⟨rfl,rfl⟩
         have fi:=HI2.out.free pr.length
         have di:=HI2.out.cell (mid_get pr.length (p2.any W1) L1)
         go_wp2
         go_meet
         have h:=HI2.out.set pr.length hb
         rw [HY.out,set_mid] at h
         rw [HY.out,Bool.false_or,← HF.out,show (fun k=>a.outputs.contains k) v = hb from HHB.out]
         exact h
       case rest =>
        have HC:=Lib.hid hcut
        clear hcut HI2
        obtain ⟨P2,hP2⟩:∃ P2,p2.any W1 = P2:=⟨_,rfl⟩
        rw [hP2] at HC
        have HPP:=Lib.hid hP2
        clear hP2
        go_wp2_with fail
        go_loopg [7] post.length (fun k s7 wr=>∃ (p3 q3:List GNodeD) (j:Nat),post = p3++q3∧q3.length = k∧j = pr.length + 1 + p3.length∧s7 = .int .i64 (j:Int)∧BoolAt w ([.slice A1 a.vals.length k1,.slice (some ⟨b,o,none⟩) a.nodes.length k2,.slice A3 a.inputs.length k3,.slice A4 a.outputs.length k4]:List Value) q (List.replicate pr.length false++(P2 || hangs F p3 (L1.take p3.length) v) :: L1) wr)
        case atStart =>
         refine ⟨[],post,pr.length + 1,rfl,rfl,rfl,by go_num,?_⟩
         simpa [hangs] using HC.out
        case round =>
         obtain ⟨p3,q3,j,hpp3,hgk3,hj,rfl,hA⟩:=hrel
         have HI3:=Lib.hid hA
         have c1:=cell_at (j:=1) hA.row rfl
         have HJ:=Lib.hid hj
         have hnl:=HP.out.2.2.2
         clear hA
         cases gk with
         | zero =>
          have hq0:q3 = []:=List.length_eq_zero_iff.1 hgk3
          subst hq0
          obtain ⟨hge3,hpl3⟩:=split_end hpp3
          have hjn:¬ ((j:Int) < (a.nodes.length:Int)):=by rw [hj,hpl3,hnl];omega
          have hA:=HI3.out
          rw [hpl3,List.take_of_length_le (by rw [HWL.out.2.2.1];exact Nat.le_refl _),HWL.out.2.2.2,← HPP.out] at hA
          have HA3:=Lib.hid hA
          clear hpp3 hpl3 hgk3 hj hA hnl hge3
          go_wp2
          go_roundg gB
          case measure=>omega
          case rel =>
           refine ⟨p2++[v],q2,HP2.out.1,by have:=HP2.out.2.2;simpa using this,by rw [HP2.out.2.1];go_num,?_⟩
           rw [List.any_append]
           simpa using HA3.out
         | succ gC =>
          cases q3 with
          | nil=>cases hgk3
          | cons y3 q3 =>
           obtain ⟨hz3,hlt3,hpp3',hpl3⟩:=split_at hpp3
           have hjn:(j:Int) < (a.nodes.length:Int):=by rw [hj,hnl];omega
           have hj0:(0:Int) ≤ (j:Int):=Int.natCast_nonneg _
           have hjz:a.nodes[j]? = some y3:=by
            rw [HP.out.1,hj]
            have e:∀ (x:List GNodeD),([]:List GNodeD).append x = x:=fun _=>rfl
            rw [List.append_assoc,e,List.getElem?_append_right (by omega),show pr.length + 1 + p3.length - pr.length = p3.length + 1 by omega,List.singleton_append,List.getElem?_cons_succ]
            exact hz3
           obtain ⟨lj,hlj⟩:∃ lj,L1[p3.length]? = some lj:=⟨_,List.getElem?_eq_getElem (by rw [HWL.out.2.2.1];exact hlt3)⟩
           obtain ⟨b5,o5,yc,he,hbY,hry,hcy⟩:=elem_at HR.out.2.1 HR.out.2.2 (by decide) hjz
           simp only [Option.some.injEq,Addr.mk.injEq,and_true] at he
           obtain ⟨rfl,rfl⟩:=he
           obtain ⟨sy,J1,i2,J2,o2,-,y37,-,-,-,yi,-,-⟩:=gnode_facts hry
           have d37:wr.cell? ⟨b,o + j * 40 + 37,none⟩ = some (.slice J1 y3.ins.length i2):=by
            rw [Nat.add_assoc];exact (HI3.out.below.cell (p:=⟨b,o + (j * 40 + 37),none⟩) hbY).trans (hcy 37 _ y37).1
           have hsn:=hangs_snoc F v p3 (L1.take p3.length) y3 lj (by rw [List.length_take,HWL.out.2.2.1];omega)
           rw [show L1.take p3.length++[lj] = L1.take (p3.length + 1) by rw [List.take_add_one,hlj];rfl] at hsn
           have HP3:=Lib.hid (And.intro hpp3' (And.intro hpl3 (And.intro hgk3 (And.intro hsn (And.intro yi hlj)))))
           obtain ⟨H3,hH3⟩:∃ H3,(P2 || hangs F p3 (L1.take p3.length) v) = H3:=⟨_,rfl⟩
           rw [hH3] at HI3
           have HH3:=Lib.hid hH3
           have D37:=Lib.hid d37
           clear hpp3 hpp3' hpl3 hgk3 hz3 hjz hlj hbY hry hcy y37 yi d37 hsn hH3 hnl hj hlt3
           have di:=HI3.out.cell (mid_get pr.length H3 L1)
           have fi:=HI3.out.free pr.length
           cases H3 with
           | true =>
            go_wp2
            go_roundg gC
            case measure=>omega
            case rel =>
             refine ⟨p3++[y3],q3,j + 1,HP3.out.1,by have:=HP3.out.2.2.1;simpa using this,by rw [HP3.out.2.1,HJ.out];omega,by go_num,?_⟩
             rw [HP3.out.2.1,HP3.out.2.2.2.1,← Bool.or_assoc,HH3.out]
             have h:=HI3.out.set pr.length true
             rw [set_mid] at h
             rw [Bool.true_or]
             exact h
           | false =>
            have dj:wr.cell? ⟨q,j,none⟩ = some (.bool lj):=HI3.out.cell (by rw [HJ.out,mid_get2];exact HP3.out.2.2.2.2.2)
            cases lj with
            | false =>
             go_wp2
             go_roundg gC
             case measure=>omega
             case rel =>
              refine ⟨p3++[y3],q3,j + 1,HP3.out.1,by have:=HP3.out.2.2.1;simpa using this,by rw [HP3.out.2.1,HJ.out];omega,by go_num,?_⟩
              rw [HP3.out.2.1,HP3.out.2.2.2.1,← Bool.or_assoc,HH3.out]
              have h:=HI3.out.set pr.length false
              rw [set_mid] at h
              exact h
            | true =>
             have d37:=D37.out
             go_wp2_with fail
             clear c1 d37 di dj fi
             have hh:=has_any _ y3.ins v _ (HI3.out.keeps' HP3.out.2.2.2.2.1)
             obtain ⟨hb,hhb⟩:∃ hb,y3.ins.contains v = hb:=⟨_,rfl⟩
             rw [hhb] at hh
             have HHB:=Lib.hid hhb
             clear hhb
             refine hh.mono ?_
             clear hh
             rintro e w4 ⟨rfl,rfl⟩
             have fi:=HI3.out.free pr.length
             have di:=HI3.out.cell (mid_get pr.length false L1)
             go_wp2
             go_roundg gC
             case measure=>omega
             case rel =>
              refine ⟨p3++[y3],q3,j + 1,HP3.out.1,by have:=HP3.out.2.2.1;simpa using this,by rw [HP3.out.2.1,HJ.out];omega,by go_num,?_⟩
              rw [HP3.out.2.1,HP3.out.2.2.2.1,← Bool.or_assoc,HH3.out]
              have h:=HI3.out.set pr.length hb
              rw [set_mid] at h
              rw [Bool.false_or,Bool.true_and,HHB.out]
              exact h
end Go.Proofs.YtgbkhcmbmffljaaDoor
set_option linter.unusedSimpArgs false
set_option linter.unusedVariables false
namespace Go.Proofs.YtgbkhcmbmffljaaDoor
open Go.RowKit
open Rep (rep)
theorem keepD_snoc:∀ (l:List GNodeD) (bs:List Bool) (z:GNodeD) (y:Bool),l.length = bs.length→keepD (l++[z]) (bs++[y]) = keepD l bs++(if y = true then [z] else [])
 | [],[],z,y,_=>by cases y <;> rfl
 | n :: l,b :: bs,z,y,h=>by
  have ih:=keepD_snoc l bs z y (by simpa using h)
  simp only [List.cons_append,keepD,ih]
  cases b <;> simp
 | [],b :: bs,z,y,h=>by simp at h
 | n :: l,[],z,y,h=>by simp at h
theorem keepD_le (l:List GNodeD) (bs:List Bool):(keepD l bs).length ≤ l.length:=(keep_sub l bs).length_le
structure PrI (lo:Nat) (w1:World) (v:Value) (xs:List Value) (l:List GNodeD) (W:World):Prop where
 below:Below w1.heap.size w1 W
 own:W.ownsRow w1.heap.size 68 40 v l.length xs
 ch:Chunks W (old lo) xs l
 le:lo ≤ w1.heap.size
section
variable {lo:Nat} {w1 W W' W9:World} {v v9:Value} {xs:List Value} {l:List GNodeD}
theorem PrI.next (h:PrI lo w1 v xs l W) (hb:Below W.heap.size W W'):PrI lo w1 v xs l W' :=
 ⟨h.below.trans (hb.mono h.below.size),own_below h.own hb,h.ch.keep (Keeps.old_below hb (Nat.le_trans h.le h.below.size)),h.le⟩
theorem PrI.push (h:PrI lo w1 v xs l W) {zc:List Value} {z:GNodeD} (hz:rep W (old lo) zc z) (hg:W.grownBy W9 v.ownBlock) (ho:W9.ownsRow w1.heap.size 68 40 v9 (l.length + 1) (xs++zc)):PrI lo w1 v9 (xs++zc) (l++[z]) W9:=by
 have hk:∀ k,k < w1.heap.size→W9.heap[k]? = W.heap[k]?:=fun k hk=>hg.block k (Nat.lt_of_lt_of_le hk h.below.size) (fun e=>by
  have:=(h.own.lt k e.symm).1
  omega)
 refine ⟨h.below.trans ⟨hg.os,hg.tape,hg.output,hg.size,hk⟩,by rw [List.length_append];exact ho,(h.ch.keep (Keeps.of_block fun k hk'=>hk k (Nat.lt_of_lt_of_le hk' h.le))).snoc (Rep.keep hz (Keeps.of_block fun k hk'=>hk k (Nat.lt_of_lt_of_le hk' h.le))),h.le⟩
theorem PrI.rep (h:PrI lo w1 v xs l W) (hb:l.length * 432 ≤ reach):rep W (old W.heap.size) [v] l :=
 rep_of_own h.own (h.ch.more (old_le (Nat.le_trans h.le h.below.size))) hb (fun k _ _ hk=>hk)
theorem PrI.set (h:PrI lo w1 v xs l W) {b:Nat} (h0:lo ≤ b) (h1:b < w1.heap.size) (cs:Array Value) (hb:l.length * 432 ≤ reach):Rep.rep (W.setRow b cs) (old (W.setRow b cs).heap.size) [v] l:=by
 refine rep_of_own (h.own.kept (grown_setRow W b cs) ?_) ((h.ch.keep (Keeps.of_block fun k hk=>heap_setRow_other _ _ _ _ (Nat.ne_of_lt (Nat.lt_of_lt_of_le hk h0)))).more (old_le (by rw [size_setRow];exact Nat.le_trans h.le h.below.size))) hb (fun k _ _ hk=>hk)
 cases hv:v.ownBlock with
 | none=>exact .inl rfl
 | some k =>
  refine .inr fun e=>?_
  have e':k = b:=Option.some.inj e
  have:=(h.own.lt k hv).1
  omega
end
theorem Pair.put {w W:World} {t1 t2:TypeId} {cs xs:List Value} (h:Pair w t1 t2 cs xs W) (ys:List Value):Pair w t1 t2 ys xs (W.setRow w.heap.size ys.toArray) :=
 ⟨below_setRow' h.below (Nat.le_refl _) _,heap_setRow _ _ _ _ _ h.src,(heap_setRow_other _ _ _ _ (by omega)).trans h.res⟩
set_option maxRecDepth 100000 in
set_option maxHeartbeats 40000000 in
theorem prune_any (gcs:List Value) (g:GraphD) (w:World) (hr:rep w (old w.heap.size) gcs g) (hs1:g.outputs.length ≤ 1048576) (hs2:g.nodes.length ≤ 1048576) (hs3:∀ x ∈ g.nodes,x.ins.length ≤ 1048576) :
  Calls Tryd.prog 25 #[.agg gcs.toArray] w fun e w'=>∃ cs:List Value,e = .returned (.agg cs.toArray)∧rep w' (fresh w.heap.size w'.heap.size) cs (pruneD g)∧Below w.heap.size w w':=by
 have hr0:=Lib.hid hr
 obtain ⟨A1,k1,A2,k2,A3,k3,A4,k4,rfl,r1,r2,r3,r4⟩:=open_GraphD hr
 obtain ⟨n1,n1'⟩:=slice_bnd r1
 obtain ⟨n2,n2'⟩:=slice_bnd r2
 obtain ⟨MB,mc,ms,hv,-,-,hbt,hl,hch⟩:=open_slice r2
 simp only [Value.slice.injEq,true_and] at hv
 obtain ⟨rfl,rfl⟩:=hv
 have HM:=Lib.hid (And.intro hl (And.intro hch (show g.nodes.length * 432 ≤ 140737488351232 from hbt)))
 have HR:=Lib.hid (And.intro r1 (And.intro r2 (And.intro r3 (And.intro r4 (And.intro n1' n2')))))
 have HB:=Lib.hid (And.intro hs1 (And.intro hs2 hs3))
 clear hr r1 r2 r3 r4 n1' n2' hl hch hbt hs1 hs3
 go_enter Tryd.func25,Tryd.ntmps25
 go_wp2_with (first
  |(with_reducible refine wpList_box_row rfl 63 _ rfl ([.slice A1 g.vals.length k1,.slice A2 g.nodes.length k2,.slice A3 g.inputs.length k3,.slice A4 g.outputs.length k4]:List Value) rfl ?_)
  |(with_reducible refine wpList_alloc_row rfl 63 rfl ([.slice none 0 0,.slice none 0 0,.slice none 0 0,.slice none 0 0]:List Value) zero4C ?_;have hX:=pair_start w 63 63 ([.slice A1 g.vals.length k1,.slice A2 g.nodes.length k2,.slice A3 g.inputs.length k3,.slice A4 g.outputs.length k4]:List Value) ([.slice none 0 0,.slice none 0 0,.slice none 0 0,.slice none 0 0]:List Value);generalize World.alloc _ (.cells ([.slice none 0 0,.slice none 0 0,.slice none 0 0,.slice none 0 0]:List Value).toArray _) = W0 at hX ⊢;have HX:=Lib.hid hX;clear hX;refine halt ?_))
 unfold Halt
 go_wp2_with (with_reducible refine wpList_load_agg rfl 63 _ rfl _ w.heap.size 0 rfl ([.slice A1 g.vals.length k1,.slice A2 g.nodes.length k2,.slice A3 g.inputs.length k3,.slice A4 g.outputs.length k4]:List Value) Tryd.underlying63 rfl (by kernel_rfl) (At.of_row HX.out.src) ?_)
 refine (live_any ([.slice A1 g.vals.length k1,.slice A2 g.nodes.length k2,.slice A3 g.inputs.length k3,.slice A4 g.outputs.length k4]:List Value) g W0 (HX.out.keeps hr0.out) HB.out.1 HB.out.2.1 HB.out.2.2).mono ?_
 rintro e w1 ⟨vL,rfl,hL,hb⟩
 obtain ⟨LA,lc,ls,rfl,hLc,hLm,-,hLl,hLh⟩:=open_slice hL
 have H1:=Lib.hid (HX.out.next hb)
 have hll:(liveD g).length = g.nodes.length:=liveS_len _ _
 rw [hll] at hLc
 have HL:=Lib.hid (And.intro hLl (And.intro hLh hll))
 have hPI:PrI w.heap.size w1 (.slice none 0 0) [] [] w1:=⟨Below.refl _ _,World.ownsRow_nil _ _ _ _,rfl,H1.out.below.size⟩
 have HPI:=Lib.hid hPI
 have c1:=cell_at (j:=1) H1.out.src rfl
 rw [hll]
 clear hL hb hLl hLh hll HX hPI
 go_wp2_with fail
 clear c1
 go_loopg [4,12] g.nodes.length (fun gk s4 s12 wr=>∃ (pre post:List GNodeD) (xs:List Value),g.nodes = pre++post∧post.length = gk∧s12 = .int .i64 pre.length∧PrI w.heap.size w1 s4 xs (keepD pre ((liveD g).take pre.length)) wr)
 case atStart=>exact ⟨[],g.nodes,[],rfl,rfl,rfl,HPI.out⟩
 case round =>
  obtain ⟨pre,post,xs,hpp,hpo,rfl,hI⟩:=hrel
  have HI:=Lib.hid hI
  clear hI
  cases gk with
  | zero =>
   have hp0:post = []:=List.length_eq_zero_iff.1 hpo
   subst hp0
   clear hpo
   obtain ⟨hge,hpl⟩:=split_end hpp
   have hI':=HI.out
   rw [hpl,List.take_of_length_le (by rw [HL.out.2.2];exact Nat.le_refl _)] at hI'
   replace hpl:=Lib.hid hpl
   have hkl:(keepD g.nodes (liveD g)).length ≤ g.nodes.length:=keepD_le _ _
   have hkb:(keepD g.nodes (liveD g)).length * 432 ≤ reach:=by have:=HM.out.2.2;show _ * 432 ≤ 140737488351232;omega
   obtain ⟨A9,c9,hA9⟩:=slice_form (hI'.rep hkb)
   simp only [List.cons.injEq,and_true] at hA9
   subst hA9
   have HI9:=Lib.hid (And.intro hI' hkb)
   have H9:=Lib.hid (H1.out.next hI'.below)
   have hlt:=H1.out.lt
   have hset:=hI'.set (b:=w.heap.size) (Nat.le_refl _) (by omega) ([.slice A1 g.vals.length k1,.slice A9 (keepD g.nodes (liveD g)).length c9,.slice A3 g.inputs.length k3,.slice A4 g.outputs.length k4]:List Value).toArray hkb
   have hpr:=H9.out.put ([.slice A1 g.vals.length k1,.slice A9 (keepD g.nodes (liveD g)).length c9,.slice A3 g.inputs.length k3,.slice A4 g.outputs.length k4]:List Value)
   have HS:=Lib.hid (And.intro hset hpr)
   clear hpp hI' hkl hkb hset hpr
   go_wp2_with ((with_reducible refine wpList_store_field rfl 61 _ _ rfl w.heap.size 1 (.slice A9 (keepD g.nodes (liveD g)).length c9) rfl rfl rfl (by kernel_rfl) 63 ([.slice A1 g.vals.length k1,.slice A2 g.nodes.length k2,.slice A3 g.inputs.length k3,.slice A4 g.outputs.length k4]:List Value) H9.out.src (of_decide_eq_true (by kernel_rfl)) ?_);(change wpList _ _ _ _ _ (wr.setRow w.heap.size ([.slice A1 g.vals.length k1,.slice A9 (keepD g.nodes (liveD g)).length c9,.slice A3 g.inputs.length k3,.slice A4 g.outputs.length k4]:List Value).toArray));have hY:=HS.out;generalize World.setRow _ _ _ = v5 at hY ⊢;have HY:=Lib.hid hY;clear hY;refine halt ?_)
   unfold Halt
   have hg:rep v5 (old v5.heap.size) ([.slice A1 g.vals.length k1,.slice A9 (keepD g.nodes (liveD g)).length c9,.slice A3 g.inputs.length k3,.slice A4 g.outputs.length k4]:List Value) (pruneD g):=shut_GraphD (a:=pruneD g) (c0:=[_]) (HY.out.2.keeps HR.out.1) (c1:=[_]) HY.out.1 (c2:=[_]) (HY.out.2.keeps HR.out.2.2.1) (c3:=[_]) (HY.out.2.keeps HR.out.2.2.2.1)
   have HG:=Lib.hid hg
   clear hg
   go_wp2_with (with_reducible refine wpList_load_agg rfl 63 _ rfl _ w.heap.size 0 rfl ([.slice A1 g.vals.length k1,.slice A9 (keepD g.nodes (liveD g)).length c9,.slice A3 g.inputs.length k3,.slice A4 g.outputs.length k4]:List Value) Tryd.underlying63 rfl (by kernel_rfl) (At.of_row HY.out.2.src) ?_)
   refine (copy_any ([.slice A1 g.vals.length k1,.slice A9 (keepD g.nodes (liveD g)).length c9,.slice A3 g.inputs.length k3,.slice A4 g.outputs.length k4]:List Value) (pruneD g) v5 HG.out).mono ?_
   rintro e v6 ⟨cs,rfl,hc,hb⟩
   have hcl:cs.length = 4:=Rep.len hc
   have hco:∀ u ∈ cs,u.oneCell' = true:=Rep.one hc
   have h6:=HY.out.2.next hb
   have h5:=HY.out.2.lt
   have ho:=h6.out cs hcl
   have hr9:=new_more (new_row hc h5 (([.slice none 0 0,.slice none 0 0,.slice none 0 0,.slice none 0 0]:List Value).take 0++cs++([.slice none 0 0,.slice none 0 0,.slice none 0 0,.slice none 0 0]:List Value).drop (0 + cs.length)).toArray) (show w.heap.size ≤ v5.heap.size by omega)
   have HE:=Lib.hid (And.intro ho hr9)
   have HC:=Lib.hid (And.intro hcl (And.intro hco h6.res))
   clear hc hb hcl hco h6 h5 ho hr9 hlt
   go_wp2_with ((with_reducible refine wpList_store_agg rfl 63 _ _ rfl (w.heap.size + 1) 0 cs rfl rfl 63 ([.slice none 0 0,.slice none 0 0,.slice none 0 0,.slice none 0 0]:List Value) HC.out.2.2 (by rw [HC.out.1];kernel_rfl) (by rw [HC.out.1];decide) HC.out.2.1 ?_);have hE:=HE.out;generalize World.setRow _ _ _ = w9 at hE ⊢;have HR9:=Lib.hid hE;clear hE;refine halt ?_)
   unfold Halt
   go_wp2
   refine bodyPost_ret (results_cell_row rfl _ _ (w.heap.size + 1) 63 _ (0,0) _ (by kernel_rfl) HR9.out.1.2 Tryd.underlying63 rfl (by rw [List.size_toArray,HC.out.1];kernel_rfl)) (by kernel_rfl) ⟨_,rfl,HR9.out.2,HR9.out.1.1⟩
  | succ gk =>
   cases post with
   | nil=>cases hpo
   | cons z post =>
    obtain ⟨hz,hlt,hpp',hpl⟩:=split_at hpp
    obtain ⟨b2,o2,zc,rfl,hbB,hrz,hcell⟩:=elem_at HM.out.1 HM.out.2.1 (by decide) hz
    have hat:At wr b2 (o2 + pre.length * 40) zc:=fun j u hu=>by
     have h1:=(hcell j u hu).1
     rw [← Nat.add_assoc] at h1
     exact (HI.out.below.cell (p:=⟨b2,o2 + pre.length * 40 + j,none⟩) (Nat.lt_of_lt_of_le hbB (by have:=H1.out.lt;omega))).trans ((H1.out.below.cell (p:=⟨b2,o2 + pre.length * 40 + j,none⟩) hbB).trans h1)
    obtain ⟨y,hy⟩:∃ y,(liveD g)[pre.length]? = some y:=⟨_,List.getElem?_eq_getElem (by rw [HL.out.2.2];exact hlt)⟩
    obtain ⟨b3,o3,yc,rfl,hbY,hry,hcy⟩:=elem_at HL.out.1 HL.out.2.1 (by decide) hy
    have d0:w1.cell? ⟨b3,o3 + pre.length,none⟩ = some (.bool y):=cell_of_elem (α:=Bool) rfl hcy (one_bool hry)
    have hkp:=keepD_snoc pre ((liveD g).take pre.length) z y (by rw [List.length_take,HL.out.2.2];omega)
    have htk:(liveD g).take pre.length++[y] = (liveD g).take (pre.length + 1):=by rw [List.take_add_one,hy];rfl
    rw [htk] at hkp
    have hkl:(keepD pre ((liveD g).take pre.length)).length ≤ pre.length:=keepD_le _ _
    have hlay:=node_lay hrz
    have HQ:=Lib.hid (And.intro hat (And.intro (And.intro (Rep.keep hrz (Keeps.old_below H1.out.below (Nat.le_refl _))) hlay) (And.intro d0 (And.intro hbY.2 hkp))))
    have hk0:(0:Int) ≤ (pre.length:Int):=Int.natCast_nonneg _
    have hk1:(pre.length:Int) < (g.nodes.length:Int):=by omega
    have HP:=Lib.hid (And.intro hpp' (And.intro hpl (And.intro hlt (And.intro hpo hkl))))
    clear hpp hpp' hpl hpo hz hcell hbB hrz hat hy hbY hry hcy d0 hkp htk hlay hkl
    go_wp2_with (first
     |(with_reducible refine wpList_load_agg rfl 68 _ rfl _ _ _ rfl zc Tryd.underlying68 rfl HQ.out.2.1.2.1 HQ.out.1 ?_)
     |(with_reducible refine wpList_alloc_row rfl 68 rfl zeroGN zeroGN_zero ?_)
     |(with_reducible refine wpList_store_agg rfl 68 _ _ rfl _ 0 zc rfl rfl 68 zeroGN (heap_alloc_new _ _) HQ.out.2.1.2.1 HQ.out.2.1.2.2.1 HQ.out.2.1.2.2.2.2 ?_;have hY:=laid_row wr 68 zeroGN zc HQ.out.2.1.2.2.2.1;generalize World.setRow _ _ _ = v2 at hY ⊢;have HY:=Lib.hid hY;clear hY;refine halt ?_))
    unfold Halt
    have H2:=Lib.hid (HI.out.next HY.out.1)
    have d0:v2.cell? ⟨b3,o3 + pre.length,none⟩ = some (.bool y):=(H2.out.below.cell (p:=⟨b3,o3 + pre.length,none⟩) HQ.out.2.2.2.1).trans HQ.out.2.2.1
    cases y with
    | false =>
     go_wp2
     go_roundg gk
     case measure=>omega
     case rel =>
      refine ⟨pre++[z],post,xs,HP.out.1,by have:=HP.out.2.2.2.1;simpa using this,by rw [HP.out.2.1];go_num,?_⟩
      rw [HP.out.2.1,HQ.out.2.2.2.2]
      simpa using H2.out
    | true =>
     have hb5:Below v2.heap.size v2 (v2.alloc (.cells zc.toArray 68)):=(Below.refl _ _).alloc (Nat.le_refl _) _
     have H5:=H2.out.next hb5
     have hz5:=Rep.keep HQ.out.2.1.1 (Keeps.old_below H5.below H5.le)
     have hbt:((keepD pre ((liveD g).take pre.length)).length + 1) * 432 ≤ 140737488355328:=by have:=HM.out.2.2;have:=HP.out.2.2.2.2;have:=HP.out.2.2.1;omega
     have hmx:(keepD pre ((liveD g).take pre.length)).length + 1 ≤ maxLen:=by unfold maxLen;omega
     have HD:=Lib.hid (And.intro H5.own (And.intro (lies_new v2 zc 68) (And.intro H5.below.size (And.intro hbt (And.intro hmx (And.intro H5 hz5))))))
     clear hb5 H5 hz5 hbt hmx
     obtain ⟨i0,hi0,hz0,hz1,hz2⟩:=info_parts (show (Tryd.prog.info? 68).map (fun i=>(i.zero,i.size,i.bytes)) = some (some (.agg zeroGN.toArray),40,432) by kernel_rfl)
     have HZ:=Lib.hid (And.intro hi0 (And.intro hz0 (And.intro hz1 hz2)))
     clear hi0 hz0 hz1 hz2
     go_wp2_with (first
      |(with_reducible refine wpList_load_agg rfl 68 _ rfl _ wr.heap.size 0 rfl zc Tryd.underlying68 rfl HQ.out.2.1.2.1 (At.of_row HY.out.2.1) ?_)
      |(refine wpList_layC rfl (.slice (some ⟨v2.heap.size,0,none⟩) 1 1) (.cells zc.toArray 68) (layC_one zc HQ.out.2.1.2.2.2.1 _ rfl rfl) ?_)
      |(at_builtin;refine wpList_append_lies _ rfl _ _ 61 rfl w1.heap.size 68 i0 (.agg zeroGN.toArray) 40 432 Tryd.underlying61 HZ.out.1 HZ.out.2.1 HZ.out.2.2.1 HZ.out.2.2.2 (by kernel_rfl) (by decide) _ (keepD pre ((liveD g).take pre.length)).length xs rfl HD.out.1 (old (v2.heap.size + 1)) (some ⟨v2.heap.size,0,none⟩) 1 1 zc rfl HQ.out.2.1.2.2.2.1 HD.out.2.1 HQ.out.2.1.2.2.2.2 HD.out.2.2.2.2.1 HD.out.2.2.2.1 HD.out.2.2.1 ?_;intro v9 W9 ho9 hg9 hb9;have HK:=Lib.hid (HD.out.2.2.2.2.2.1.push HD.out.2.2.2.2.2.2 hg9 ho9);clear ho9 hg9 hb9))
     go_wp2
     go_roundg gk
     case measure=>omega
     case rel =>
      refine ⟨pre++[z],post,xs++zc,HP.out.1,by have:=HP.out.2.2.2.1;simpa using this,by rw [HP.out.2.1];go_num,?_⟩
      rw [HP.out.2.1,HQ.out.2.2.2.2]
      simpa using HK.out
end Go.Proofs.YtgbkhcmbmffljaaDoor
set_option linter.unusedSimpArgs false
set_option linter.unusedVariables false
namespace Go.Proofs.YtgbkhcmbmffljaaDoor
open Go.RowKit
open Rep (rep)
structure GGrow (w w3:World) (p y z:Value) (l:List GNodeD) (W:World):Prop where
 below:Below w3.heap.size w3 W
 att:∃ v xs,W.heap[w3.heap.size]? = some (.cells ([p,v,y,z]:List Value).toArray 63 (0,0))∧W.ownsRow (w3.heap.size + 1) 68 40 v l.length xs∧Chunks W (old w.heap.size) xs l
section
variable {w w3 W W':World} {p y z:Value} {l:List GNodeD}
theorem GGrow.lt (h:GGrow w w3 p y z l W):w3.heap.size < W.heap.size:=let ⟨_,_,h1,_⟩:=h.att;(Array.getElem?_eq_some_iff.1 h1).1
theorem ggrow_start {w4:World} {v:Value} (hb:Below w3.heap.size w3 w4) (hr:w4.heap[w3.heap.size]? = some (.cells ([p,v,y,z]:List Value).toArray 63 (0,0))) :
  GGrow w w3 p y z [] (w4.setRow w3.heap.size (([p,v,y,z]:List Value).set 1 (.slice none 0 0)).toArray) :=
 ⟨below_setRow' hb (Nat.le_refl _) _,.slice none 0 0,[],heap_setRow _ _ _ _ _ hr,⟨rfl,.inl ⟨rfl,rfl⟩⟩,rfl⟩
theorem GGrow.next (h:GGrow w w3 p y z l W) (hw:w.heap.size ≤ w3.heap.size) (hb:Below W.heap.size W W'):GGrow w w3 p y z l W':=by
 obtain ⟨v,xs,h1,h2,h3⟩:=h.att
 have hl:=h.lt
 exact ⟨h.below.trans (hb.mono (by omega)),v,xs,(hb.block _ hl).trans h1,own_below h2 hb,h3.keep (Keeps.old_below hb (by omega))⟩
theorem GGrow.put (h:GGrow w w3 p y z l W) (hw:w.heap.size ≤ w3.heap.size) (hlen:l.length * 432 ≤ 140737488351232) {b:Nat} (h0:w.heap.size ≤ b) (h1:b < w3.heap.size) :
  ∃ v,W.heap[w3.heap.size]? = some (.cells ([p,v,y,z]:List Value).toArray 63 (0,0))∧rep W (old W.heap.size) [v] l∧∀ cs:Array Value,rep (W.setRow b cs) (old (W.setRow b cs).heap.size) [v] l:=by
 obtain ⟨v,xs,h2,h3,h4⟩:=h.att
 have hl:=h.lt
 refine ⟨v,h2,rep_of_own (e:=68) (xs:=xs) h3 (h4.more (old_le (by omega))) hlen (fun g _ _ h2=>h2),fun cs=>?_⟩
 refine rep_of_own (e:=68) (xs:=xs) (h3.kept (grown_setRow W b cs) ?_) ((h4.keep (Keeps.of_block fun k hk=>heap_setRow_other _ _ _ _ (Nat.ne_of_lt (Nat.lt_of_lt_of_le hk h0)))).more (old_le (by rw [size_setRow];omega))) hlen (fun g _ _ h2=>h2)
 cases hv:v.ownBlock with
 | none=>exact .inl rfl
 | some k =>
  refine .inr fun e=>?_
  have e':k = b:=Option.some.inj e
  have:=(h3.lt k hv).1
  omega
theorem GGrow.grow (h:GGrow w w3 p y z l W) (hw:w.heap.size ≤ w3.heap.size) {v v':Value} {xs acs:List Value} {n:GNodeD} (hrow:W.heap[w3.heap.size]? = some (.cells ([p,v,y,z]:List Value).toArray 63 (0,0)))
  (hc:Chunks W (old w.heap.size) xs l) (hr:rep W (old w.heap.size) acs n) {r:Option Nat} (hg:W.grownBy W' r) (hgr:∀ g,r = some g→w3.heap.size + 1 ≤ g)
  (hown:W'.ownsRow (w3.heap.size + 1) 68 40 v' (l.length + 1) (xs++acs)) :
  W'.heap[w3.heap.size]? = some (.cells ([p,v,y,z]:List Value).toArray 63 (0,0))∧v'.oneCell' = true∧GGrow w w3 p y z (l++[n]) (W'.setRow w3.heap.size (([p,v,y,z]:List Value).set 1 v').toArray):=by
 have hlt:=h.lt
 have hb1:Below (w3.heap.size + 1) W W':=(Below.refl _ _).grown hg (by omega) (fun g e=>hgr g e)
 have hrow':W'.heap[w3.heap.size]? = some (.cells ([p,v,y,z]:List Value).toArray 63 (0,0)):=(hb1.block _ (by omega)).trans hrow
 have hone:v'.oneCell' = true:=own_one hown
 refine ⟨hrow',hone,?_,v',xs++acs,heap_setRow _ _ _ _ _ hrow',?_,?_⟩
 ·exact below_setRow' (h.below.trans (hb1.mono (by omega))) (Nat.le_refl _) _
 ·rw [List.length_append]
  refine hown.kept (grown_setRow W' w3.heap.size _) ?_
  cases hv:v'.ownBlock with
  | none=>exact .inl rfl
  | some k =>
   refine .inr fun e=>?_
   have e':k = w3.heap.size:=Option.some.inj e
   have:=(hown.lt k hv).1
   omega
 ·have hk:Keeps (old w.heap.size) W (W'.setRow w3.heap.size (([p,v,y,z]:List Value).set 1 v').toArray) :=
   Keeps.old_below (below_setRow' (hb1.mono (by omega)) (Nat.le_refl _) _) hw
  exact (Chunks.keep hk hc).snoc (Rep.keep hr hk)
end
set_option maxRecDepth 100000 in
set_option maxHeartbeats 40000000 in
theorem rprune_any (gcs:List Value) (g:GraphD) (w:World) (hr:rep w (old w.heap.size) gcs g) (hs2:g.nodes.length ≤ 1048576) :
  Calls Tryd.prog 30 #[.agg gcs.toArray] w fun e w'=>∃ cs:List Value,e = .returned (.agg cs.toArray)∧rep w' (old w'.heap.size) cs (pruneD g)∧Below w.heap.size w w':=by
 have hr0:=Lib.hid hr
 obtain ⟨A1,k1,A2,k2,A3,k3,A4,k4,rfl,r1,r2,r3,r4⟩:=open_GraphD hr
 obtain ⟨n1,n1'⟩:=slice_bnd r1
 obtain ⟨n2,n2'⟩:=slice_bnd r2
 obtain ⟨MB,mc,ms,hv,-,-,hbt,hl,hch⟩:=open_slice r2
 simp only [Value.slice.injEq,true_and] at hv
 obtain ⟨rfl,rfl⟩:=hv
 have HM:=Lib.hid (And.intro hl (And.intro hch (show g.nodes.length * 432 ≤ 140737488351232 from hbt)))
 have HR:=Lib.hid (And.intro r1 (And.intro r3 r4))
 have HNO:=Lib.hid (show ∀ u ∈ ([.slice A1 g.vals.length k1,.slice A2 g.nodes.length k2,.slice A3 g.inputs.length k3,.slice A4 g.outputs.length k4]:List Value),u.oneCell' = true from Rep.one hr)
 clear hr r1 r2 r3 r4 hl hch hbt
 go_enter Tryd.func30,Tryd.ntmps30
 go_wp2_with (first
  |(with_reducible refine wpList_box_row rfl 63 _ rfl ([.slice A1 g.vals.length k1,.slice A2 g.nodes.length k2,.slice A3 g.inputs.length k3,.slice A4 g.outputs.length k4]:List Value) rfl ?_)
  |(with_reducible refine wpList_alloc_row rfl 63 rfl ([.slice none 0 0,.slice none 0 0,.slice none 0 0,.slice none 0 0]:List Value) zero4C ?_;have hX:=pair_start w 63 63 ([.slice A1 g.vals.length k1,.slice A2 g.nodes.length k2,.slice A3 g.inputs.length k3,.slice A4 g.outputs.length k4]:List Value) ([.slice none 0 0,.slice none 0 0,.slice none 0 0,.slice none 0 0]:List Value);generalize World.alloc _ (.cells ([.slice none 0 0,.slice none 0 0,.slice none 0 0,.slice none 0 0]:List Value).toArray _) = W0 at hX ⊢;have HX:=Lib.hid hX;clear hX;refine halt ?_))
 unfold Halt
 go_wp2_with (with_reducible refine wpList_load_agg rfl 63 _ rfl _ w.heap.size 0 rfl ([.slice A1 g.vals.length k1,.slice A2 g.nodes.length k2,.slice A3 g.inputs.length k3,.slice A4 g.outputs.length k4]:List Value) Tryd.underlying63 rfl (by kernel_rfl) (At.of_row HX.out.src) ?_)
 refine (rlive_any ([.slice A1 g.vals.length k1,.slice A2 g.nodes.length k2,.slice A3 g.inputs.length k3,.slice A4 g.outputs.length k4]:List Value) g W0 (HX.out.keeps hr0.out) hs2).mono ?_
 rintro e w1 ⟨vL,rfl,hL,hb⟩
 obtain ⟨LA,lc,ls,rfl,hLc,hLm,-,hLl,hLh⟩:=open_slice hL
 have H1:=Lib.hid (HX.out.next hb)
 have hll:(liveD g).length = g.nodes.length:=liveS_len _ _
 rw [hll] at hLc
 have HL:=Lib.hid (And.intro hLl (And.intro hLh hll))
 rw [hll]
 clear hL hb hLl hLh hll HX
 go_wp2_with (first
  |(with_reducible refine wpList_load_agg rfl 63 _ rfl _ w.heap.size 0 rfl ([.slice A1 g.vals.length k1,.slice A2 g.nodes.length k2,.slice A3 g.inputs.length k3,.slice A4 g.outputs.length k4]:List Value) Tryd.underlying63 rfl (by kernel_rfl) (At.of_row H1.out.src) ?_)
  |(with_reducible refine wpList_alloc_row rfl 63 rfl ([.slice none 0 0,.slice none 0 0,.slice none 0 0,.slice none 0 0]:List Value) zero4C ?_)
  |(with_reducible refine wpList_store_agg rfl 63 _ _ rfl _ 0 ([.slice A1 g.vals.length k1,.slice A2 g.nodes.length k2,.slice A3 g.inputs.length k3,.slice A4 g.outputs.length k4]:List Value) rfl rfl 63 ([.slice none 0 0,.slice none 0 0,.slice none 0 0,.slice none 0 0]:List Value) (heap_alloc_new _ _) (by kernel_rfl) (of_decide_eq_true (by kernel_rfl)) HNO.out ?_;have hX:=laid_row w1 63 ([.slice none 0 0,.slice none 0 0,.slice none 0 0,.slice none 0 0]:List Value) ([.slice A1 g.vals.length k1,.slice A2 g.nodes.length k2,.slice A3 g.inputs.length k3,.slice A4 g.outputs.length k4]:List Value) rfl;generalize World.setRow _ _ _ = w4 at hX ⊢;have HX4:=Lib.hid hX;clear hX;refine halt ?_))
 unfold Halt
 go_wp2_with (first
  |((with_reducible refine wpList_store_field rfl 61 _ _ rfl w1.heap.size 1 (.slice none 0 0) rfl rfl rfl (by kernel_rfl) 63 ([.slice A1 g.vals.length k1,.slice A2 g.nodes.length k2,.slice A3 g.inputs.length k3,.slice A4 g.outputs.length k4]:List Value) HX4.out.2.1 (of_decide_eq_true (by kernel_rfl)) ?_);have hX:=ggrow_start (w:=w) HX4.out.1 HX4.out.2.1;generalize World.setRow _ _ _ = w5 at hX ⊢;have HG5:=Lib.hid hX;clear hX;refine halt ?_))
 unfold Halt
 have hw3:w.heap.size ≤ w1.heap.size:=H1.out.below.size
 obtain ⟨i0,hi0,hz0,hz1,hz2⟩:=info_parts (show (Tryd.prog.info? 68).map (fun i=>(i.zero,i.size,i.bytes)) = some (some (.agg zeroGN.toArray),40,432) by kernel_rfl)
 have HZ:=Lib.hid (And.intro hi0 (And.intro hz0 (And.intro hz1 hz2)))
 clear hi0 hz0 hz1 hz2
 go_wp2_with fail
 go_loopg [5] g.nodes.length (fun gk s5 wr=>∃ (pre post:List GNodeD),g.nodes = pre++post∧post.length = gk∧s5 = .int .i64 pre.length∧GGrow w w1 (.slice A1 g.vals.length k1) (.slice A3 g.inputs.length k3) (.slice A4 g.outputs.length k4) (keepD pre ((liveD g).take pre.length)) wr)
 case atStart=>exact ⟨[],g.nodes,rfl,rfl,rfl,HG5.out⟩
 case round =>
  obtain ⟨pre,post,hpp,hpo,rfl,hI⟩:=hrel
  have HG:=Lib.hid hI
  have hP:=H1.out.next hI.below
  have HP1:=Lib.hid hP
  have c1:=cell_at (j:=1) hP.src rfl
  clear hI hP
  cases gk with
  | zero =>
   have hp0:post = []:=List.length_eq_zero_iff.1 hpo
   subst hp0
   clear hpo
   obtain ⟨hge,hpl⟩:=split_end hpp
   have hI':=HG.out
   rw [hpl,List.take_of_length_le (by rw [HL.out.2.2];exact Nat.le_refl _)] at hI'
   have hkl:(keepD g.nodes (liveD g)).length ≤ g.nodes.length:=keepD_le _ _
   obtain ⟨vm,hrow,hvm,hvs⟩:=hI'.put hw3 (by have:=HM.out.2.2;omega) (b:=w.heap.size + 1) (Nat.le_succ _) H1.out.lt
   replace hpl:=Lib.hid hpl
   have hone:∀ u ∈ ([.slice A1 g.vals.length k1,vm,.slice A3 g.inputs.length k3,.slice A4 g.outputs.length k4]:List Value),u.oneCell' = true:=by
    have h1:=Rep.one hvm vm (List.mem_singleton.2 rfl)
    intro u hu
    simp only [List.mem_cons,List.not_mem_nil,or_false] at hu
    rcases hu with h | h | h | h <;> rw [h]
    ·rfl
    ·exact h1
    ·rfl
    ·rfl
   have ho:=HP1.out.out ([.slice A1 g.vals.length k1,vm,.slice A3 g.inputs.length k3,.slice A4 g.outputs.length k4]:List Value) rfl
   have hrg:rep (wr.setRow (w.heap.size + 1) (([.slice none 0 0,.slice none 0 0,.slice none 0 0,.slice none 0 0]:List Value).take 0++([.slice A1 g.vals.length k1,vm,.slice A3 g.inputs.length k3,.slice A4 g.outputs.length k4]:List Value)++([.slice none 0 0,.slice none 0 0,.slice none 0 0,.slice none 0 0]:List Value).drop (0 + ([.slice A1 g.vals.length k1,vm,.slice A3 g.inputs.length k3,.slice A4 g.outputs.length k4]:List Value).length)).toArray) (old (wr.setRow (w.heap.size + 1) (([.slice none 0 0,.slice none 0 0,.slice none 0 0,.slice none 0 0]:List Value).take 0++([.slice A1 g.vals.length k1,vm,.slice A3 g.inputs.length k3,.slice A4 g.outputs.length k4]:List Value)++([.slice none 0 0,.slice none 0 0,.slice none 0 0,.slice none 0 0]:List Value).drop (0 + ([.slice A1 g.vals.length k1,vm,.slice A3 g.inputs.length k3,.slice A4 g.outputs.length k4]:List Value).length)).toArray).heap.size) ([.slice A1 g.vals.length k1,vm,.slice A3 g.inputs.length k3,.slice A4 g.outputs.length k4]:List Value) (pruneD g):=by
    exact shut_GraphD (a:=pruneD g) (c0:=[_]) (Rep.more (Rep.keep HR.out.1 (Keeps.old_below ho.1 (Nat.le_refl _))) (old_le ho.1.size)) (c1:=[_]) (hvs _) (c2:=[_]) (Rep.more (Rep.keep HR.out.2.1 (Keeps.old_below ho.1 (Nat.le_refl _))) (old_le ho.1.size)) (c3:=[_]) (Rep.more (Rep.keep HR.out.2.2 (Keeps.old_below ho.1 (Nat.le_refl _))) (old_le ho.1.size))
   have HE:=Lib.hid (And.intro ho hrg)
   have HD:=Lib.hid (And.intro hone (And.intro hrow HP1.out.res))
   clear hpp hI' hkl hrow hvm hvs hone ho hrg
   go_wp2_with (first
    |(with_reducible refine wpList_load_agg rfl 63 _ rfl _ w1.heap.size 0 rfl ([.slice A1 g.vals.length k1,vm,.slice A3 g.inputs.length k3,.slice A4 g.outputs.length k4]:List Value) Tryd.underlying63 rfl (by kernel_rfl) (At.of_row HD.out.2.1) ?_)
    |((with_reducible refine wpList_store_agg rfl 63 _ _ rfl (w.heap.size + 1) 0 ([.slice A1 g.vals.length k1,vm,.slice A3 g.inputs.length k3,.slice A4 g.outputs.length k4]:List Value) rfl rfl 63 ([.slice none 0 0,.slice none 0 0,.slice none 0 0,.slice none 0 0]:List Value) HD.out.2.2 (by kernel_rfl) (of_decide_eq_true (by kernel_rfl)) HD.out.1 ?_);have hE:=HE.out;generalize World.setRow _ _ _ = w9 at hE ⊢;have HR9:=Lib.hid hE;clear hE;refine halt ?_))
   unfold Halt
   clear c1
   go_wp2
   refine bodyPost_ret (results_cell_row rfl _ _ (w.heap.size + 1) 63 _ (0,0) _ (by kernel_rfl) HR9.out.1.2 Tryd.underlying63 rfl (by kernel_rfl)) (by kernel_rfl) ⟨_,rfl,HR9.out.2,HR9.out.1.1⟩
  | succ gk =>
   cases post with
   | nil=>cases hpo
   | cons z post =>
    obtain ⟨hz,hlt,hpp',hpl⟩:=split_at hpp
    obtain ⟨b2,o2,zc,rfl,hbB,hrz,hcell⟩:=elem_at HM.out.1 HM.out.2.1 (by decide) hz
    have hat:At w b2 (o2 + pre.length * 40) zc:=fun j u hu=>by
     have h1:=(hcell j u hu).1
     rw [← Nat.add_assoc] at h1
     exact h1
    obtain ⟨y,hy⟩:∃ y,(liveD g)[pre.length]? = some y:=⟨_,List.getElem?_eq_getElem (by rw [HL.out.2.2];exact hlt)⟩
    obtain ⟨b3,o3,yc,rfl,hbY,hry,hcy⟩:=elem_at HL.out.1 HL.out.2.1 (by decide) hy
    have d0:wr.cell? ⟨b3,o3 + pre.length,none⟩ = some (.bool y):=(HG.out.below.cell (p:=⟨b3,o3 + pre.length,none⟩) hbY.2).trans (cell_of_elem (α:=Bool) rfl hcy (one_bool hry))
    have hkp:=keepD_snoc pre ((liveD g).take pre.length) z y (by rw [List.length_take,HL.out.2.2];omega)
    have htk:(liveD g).take pre.length++[y] = (liveD g).take (pre.length + 1):=by rw [List.take_add_one,hy];rfl
    rw [htk] at hkp
    have hkl:(keepD pre ((liveD g).take pre.length)).length ≤ pre.length:=keepD_le _ _
    have hal:=gnode_len hrz
    have hao:=Rep.one hrz
    have hk0:(0:Int) ≤ (pre.length:Int):=Int.natCast_nonneg _
    have hk1:(pre.length:Int) < (g.nodes.length:Int):=by omega
    have HP:=Lib.hid (And.intro hpp' (And.intro hpl (And.intro hlt (And.intro hpo (And.intro hkl hkp)))))
    have HA:=Lib.hid (And.intro hal (And.intro hao (And.intro hat (And.intro hbB hrz))))
    clear hpp hpp' hpl hpo hz hcell hbB hrz hat hy hbY hry hcy hkp htk hkl hal hao
    cases y with
    | false =>
     go_wp2
     go_roundg gk
     case measure=>omega
     case rel =>
      refine ⟨pre++[z],post,HP.out.1,by have:=HP.out.2.2.2.1;simpa using this,by rw [HP.out.2.1];go_num,?_⟩
      rw [HP.out.2.1,HP.out.2.2.2.2.2]
      simpa using HG.out
    | true =>
     obtain ⟨vm,xs2,hrow,hown,hch2⟩:=HG.out.att
     have hgl:=HG.out.lt
     have HO:=Lib.hid (And.intro hrow (And.intro hown (And.intro hch2 hgl)))
     have hS0:∀ W:World,Below w1.heap.size w1 W→W.cell? ⟨w.heap.size,1,none⟩ = some (.slice (some ⟨b2,o2,none⟩) g.nodes.length k2)∧At W b2 (o2 + pre.length * 40) zc:=fun W hb =>
      ⟨cell_at (j:=1) (H1.out.next hb).src rfl,HA.out.2.2.1.keep (H1.out.next hb).below HA.out.2.2.2.1⟩
     have HSW:=Lib.hid hS0
     clear hrow hown hch2 hgl hS0
     go_wp2_with fail
     clear c1 d0
     refine wp_region_held_drew (S:=fun W:World=>W.cell? ⟨w.heap.size,1,none⟩ = some (.slice (some ⟨b2,o2,none⟩) g.nodes.length k2)∧At W b2 (o2 + pre.length * 40) zc) (by kernel_rfl) (HSW.out _ HG.out.below.drew) (fun hHeld=>?_)
     refine take_d9 0 (some 21) (v:=.pointer (some ⟨w1.heap.size,1,none⟩)) rfl (by kernel_rfl) (by kernel_rfl) (by kernel_rfl) (by kernel_rfl) (fun c a w h=>h) (Or.inl ⟨by kernel_rfl,fun w _=>by kernel_rfl⟩) hHeld ?_
     refine take_d9 2 (some 23) (v:=.pointer (some ⟨w.heap.size,1,none⟩)) rfl (by kernel_rfl) (by kernel_rfl) (by kernel_rfl) (by kernel_rfl) (fun c a w h=>h) (Or.inl ⟨by kernel_rfl,fun w _=>by kernel_rfl⟩) hHeld ?_
     refine take_d9 3 (some 24) (v:=.slice (some ⟨b2,o2,none⟩) g.nodes.length k2) rfl (by kernel_rfl) (by kernel_rfl) (by kernel_rfl) (by kernel_rfl) (fun c a w h=>h) (yields_load_one9 (by kernel_rfl) _ _ rfl w.heap.size 1 (by kernel_rfl) _ _ Tryd.underlying61 rfl (fun _ h=>h.1)) hHeld ?_
     refine take_d9 4 (some 25) (v:=.int .i64 (pre.length:Int)) rfl (by kernel_rfl) (by kernel_rfl) (by kernel_rfl) (by kernel_rfl) (fun c a w h=>h) (Or.inl ⟨by kernel_rfl,fun w _=>by kernel_rfl⟩) hHeld ?_
     refine take_d9 5 (some 26) (v:=.pointer (some ⟨b2,o2 + pre.length * 40,none⟩)) rfl (by kernel_rfl) (by kernel_rfl) (by kernel_rfl) (by kernel_rfl) (fun c a w h=>h) (yields_indexQ (by kernel_rfl) _ _ _ rfl b2 o2 g.nodes.length k2 pre.length 40 (o2 + pre.length * 40) (pre.length:Int) (by kernel_rfl) (by kernel_rfl) Tryd.underlying61 (by kernel_rfl) rfl hlt rfl) hHeld ?_
     refine take_d9 6 (some 27) (v:=.agg zc.toArray) rfl (by kernel_rfl) (by kernel_rfl) (by kernel_rfl) (by kernel_rfl) (fun c a w h=>h) (yields_load_agg (by kernel_rfl) 68 _ rfl _ b2 (o2 + pre.length * 40) (by kernel_rfl) zc Tryd.underlying68 rfl (by rw [HA.out.1];kernel_rfl) (fun _ h=>h.2)) hHeld ?_
     obtain ⟨hi0,hz0,hz1,hz2⟩:=HZ.out
     obtain ⟨hrow,hown,hch2,hgl⟩:=HO.out
     have hb1:Below wr.heap.size wr (wr.drew.alloc (.cells zc.toArray 68)):=(Below.refl _ _).drew.alloc (Nat.le_refl _) _
     have hown1:(wr.drew.alloc (.cells zc.toArray 68)).ownsRow (w1.heap.size + 1) 68 40 vm (keepD pre ((liveD g).take pre.length)).length xs2:=own_below hown hb1
     have hlies1:=lies_new wr.drew zc 68
     have hbw3:Below w1.heap.size w1 (wr.drew.alloc (.cells zc.toArray 68)):=HG.out.below.trans (hb1.mono (Nat.le_of_lt hgl))
     have hg1:=HG.out.next hw3 hb1
     have hrow0:wr.drew.cell? ⟨w1.heap.size,1,none⟩ = some vm:=cell_at (j:=1) hrow rfl
     have hrow1:=(hb1.block _ hgl).trans hrow
     have hch1:=hch2.keep (Keeps.old_below hb1 (by omega:w.heap.size ≤ wr.heap.size))
     have hrz1:rep (wr.drew.alloc (.cells zc.toArray 68)) (old w.heap.size) zc z:=Rep.keep HA.out.2.2.2.2 (Keeps.old_below (H1.out.next hbw3).below (Nat.le_refl _))
     have hS1:=HSW.out _ hbw3
     refine anyH_load_lay 1 7 22 28 rfl rfl rfl rfl (by decide) (by decide) (by kernel_rfl) (by kernel_rfl) (by kernel_rfl) rfl rfl _ _ rfl w1.heap.size 1 vm _ Tryd.underlying61 rfl (.slice (some ⟨wr.drew.heap.size,0,none⟩) 1 1) (.cells zc.toArray 68) (by kernel_rfl) (by kernel_rfl) hrow0 hgl (layC_one zc HA.out.1 _ rfl (by kernel_rfl)) (layC_one zc HA.out.1 _ rfl (by kernel_rfl)) hHeld hS1 ?_
     refine anyH_1 8 rfl (by kernel_rfl) ?_
     have hsz1:w1.heap.size + 1 ≤ (wr.drew.alloc (.cells zc.toArray 68)).heap.size:=by have:=hb1.size;omega
     refine steps_append (by kernel_rfl) _ _ _ rfl (w1.heap.size + 1) 68 i0 _ 40 432 Tryd.underlying61 hi0 hz0 hz1 hz2 (by kernel_rfl) (by decide) vm (keepD pre ((liveD g).take pre.length)).length xs2 (by kernel_rfl) hown1
      (old (wr.drew.heap.size + 1)) (some ⟨wr.drew.heap.size,0,none⟩) 1 1 zc (by kernel_rfl) HA.out.1 hlies1 HA.out.2.1 (by have:=HP.out.2.2.1;have:=HP.out.2.2.2.2.1;unfold maxLen;omega) (by have:=HM.out.2.2;have:=HP.out.2.2.1;have:=HP.out.2.2.2.2.1;omega) hsz1 ?_
     intro v9 W9 hown9 hg9
     have hbase:∀ g,vm.ownBlock = some g→w1.heap.size + 1 ≤ g:=fun g hg=>(hown1.lt g hg).1
     have h9:=hg1.grow hw3 hrow1 hch1 hrz1 hg9 hbase hown9
     obtain ⟨hrow9,hone,hres⟩:=h9
     have hq9:Below w1.heap.size w1 W9:=hbw3.grown hg9 (by have:=hb1.size;omega) (fun g hg=>by have:=hbase g hg;omega)
     have hS9:=HSW.out _ hq9
     have hS10:=HSW.out _ hres.below
     refine ⟨hS9,?_⟩
     refine take_d9 9 (some 30) (v:=.pointer (some ⟨w1.heap.size,1,none⟩)) rfl (by kernel_rfl) (by kernel_rfl) (by kernel_rfl) (by kernel_rfl) (fun c a w h=>h) (Or.inl ⟨by kernel_rfl,fun w _=>by kernel_rfl⟩) hS9 ?_
     refine anyH_store_field 10 rfl (by kernel_rfl) (by kernel_rfl) _ _ _ rfl w1.heap.size 1 v9 (by kernel_rfl) (by kernel_rfl) hone (by kernel_rfl) 63 ([.slice A1 g.vals.length k1,vm,.slice A3 g.inputs.length k3,.slice A4 g.outputs.length k4]:List Value) hrow9 (by show 1 < 4;decide) hS10 ?_
     refine wpAnyH_done (by kernel_rfl) ?_ _
     generalize World.setRow _ _ _ = wc at hres ⊢
     have HC:=Lib.hid hres
     clear hS9 hS10 hq9 hres hrow9 hone hbase hsz1 hS1 hrz1 hch1 hrow1 hrow0 hg1 hbw3 hlies1 hown1 hb1 hown9 hg9 hrow hown hch2 hgl hi0 hz0 hz1 hz2 hHeld
     go_wp2
     go_roundg gk
     case measure=>omega
     case rel =>
      refine ⟨pre++[z],post,HP.out.1,by have:=HP.out.2.2.2.1;simpa using this,by rw [HP.out.2.1];go_num,?_⟩
      rw [HP.out.2.1,HP.out.2.2.2.2.2]
      exact HC.out
end Go.Proofs.YtgbkhcmbmffljaaDoor
