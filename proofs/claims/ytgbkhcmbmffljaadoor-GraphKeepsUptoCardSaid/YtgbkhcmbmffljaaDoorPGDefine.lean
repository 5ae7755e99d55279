/-
  Chapter 09: a name and its value are added to a graph that is being built.
-/
import Derived.Test.YtgbkhcmbmffljaaDoorPGBst
import Derived.Test.YtgbkhcmbmffljaaDoorPGStep
import Derived.Test.YtgbkhcmbmffljaaDoorPGVal
set_option linter.unusedSimpArgs false
set_option linter.unusedVariables false
namespace Go.Proofs.YtgbkhcmbmffljaaDoor
open Go.RowKit
open Rep (rep)
theorem valInfo3:(Tryd.prog.info? 75).map (fun i=>(i.zero,i.size,i.bytes)) = some (some (.agg zeroV.toArray),8,144):=by kernel_rfl
section
variable {P:Program} {md:Region.Mode} {ops:Array Oper} {Q:Exit→Act→World→Prop} {S:World→Prop} {fuel:Nat} {listed:Array Bool} {a:Act} {w:World} {o:Oper}
theorem anyH_mapUpdate (i:Nat) (hio:ops[i]? = some o) (hr:Region.ready md ops listed = [i]) (hw:Region.wanted o (yielded ops a.tmps) = true) (m x v:Operand) (hop:o.op = Op.mapUpdate 90 m x v) (b n:Nat) (f:ByteArray→Int)
  (hm:a.eval m = .map (some b)) (h:MapOf w b n f) (hn:n < maxLen) (s:ByteArray) (y:Int) (hx:a.eval x = .string s) (hv:a.eval v = .int .i64 y) (hs:s.size ≤ maxLen) (hy:I64 y)
  (hK:∀ w',MapOf w' b (n + 1) (fun z=>if z = s then y else f z)→w.grownBy w' (some b)→S w'∧wpAnyH Tryd.prog md ops Q S fuel (listed.setIfInBounds i true) (a.put o.dst undef) w') :
  wpAnyH Tryd.prog md ops Q S (fuel + 1) listed a w:=by
 refine wpAnyH_ready hr (by simp) (AllReadyH.cons hio (fun K hK'=>?_) AllReadyH.nil)
 rw [if_pos hw]
 obtain ⟨w',hrun,r1,r2⟩:=h.update s hs y hy hn
 unfold Oper.wp
 simp [execOp,hop,hm,hx,hv,hrun,Result.andThen]
 exact hK'.out _ _ (hK w' r1 r2).1 (fun _=>(hK w' r1 r2).2)
end
theorem str_some {s:ByteArray} (h:¬ s = ⟨#[]⟩):s.toList.isEmpty = false∧(s.toList == ([]:List UInt8)) = false:=by
 have e:(s.toList == ([]:List UInt8)) = false:=by rw [beq_lit];exact decide_eq_false h
 refine ⟨?_,e⟩
 rw [show s.toList.isEmpty = (s.toList == ([]:List UInt8)) from (by cases s.toList <;> rfl)]
 exact e
theorem own_not_new {w:World} {base:Nat} {e:TypeId} {size:Nat} {v:Value} {n:Nat} {xs:List Value} (h:w.ownsRow base e size v n xs):some w.heap.size ≠ v.ownBlock:=fun e=>by
 have:=(h.lt _ e.symm).2
 omega
theorem cell_of_row' {w:World} {g j:Nat} {cs:List Value} {t:TypeId} {fr:Nat × Nat} {u:Value} (h:w.heap[g]? = some (.cells cs.toArray t fr)) (hj:cs[j]? = some u):w.cell? ⟨g,j,none⟩ = some u:=by
 rw [cell_of_row _ _ _ _ _ _ h,List.getElem?_toArray];exact hj
set_option maxRecDepth 100000 in
set_option maxHeartbeats 16000000 in
theorem define_any (lo:Nat) (ban:List Nat) (g mp:Nat) (rV rN rI rO rn:RowV) (ex:List RowV) (ns:List ByteArray) (vals:List ValD) (name:ByteArray) (vs:List Value) (v:ValD) (w:World)
  (hB:Bst lo ban g mp rV rN rI rO rn ex ns w) (hV:Data w (cold lo ban (rV :: rN :: rI :: rO :: rn :: ex) w) rV 75 vals) (hr:rep w (cold lo ban (rV :: rN :: rI :: rO :: rn :: ex) w) vs v) (hn:name.size ≤ maxLen) (hlen:vals.length = ns.length) (hs:ns.length ≤ 1048576) :
  Calls Tryd.prog 86 #[.pointer (some ⟨g,0,none⟩),.string name,.agg vs.toArray] w fun e w'=>e = .returned (.bool (!badS ns name))∧(badS ns name = true→Moves lo ban (rV :: rN :: rI :: rO :: rn :: ex) (rV :: rN :: rI :: rO :: rn :: ex) w w') ∧
   (badS ns name = false→∃ rV',Bst lo ban g mp rV' rN rI rO rn ex (ns++[name]) w'∧Moves lo ban (rV :: rN :: rI :: rO :: rn :: ex) (rV' :: rN :: rI :: rO :: rn :: ex) w w'∧Data w' (cold lo ban (rV' :: rN :: rI :: rO :: rn :: ex) w') rV' 75 (vals++[v])):=by
 obtain ⟨i0,hi0,hz0,hz1,hz2⟩:=info_parts valInfo3
 have HZ:=Lib.hid (And.intro hi0 (And.intro hz0 (And.intro hz1 hz2)))
 clear hi0 hz0 hz1 hz2
 have hr':=hr
 obtain ⟨A1,k1,A2,k2,A3,k3,A4,k4,A5,k5,rfl,-⟩:=open_ValD hr
 have HR:=Lib.hid hr'
 have HN1:=Lib.hid (show ∀ u ∈ ([.int .i64 v.type,.slice A1 v.dims.length k1,.bool v.const,.int .i64 v.t.type,.slice A2 v.t.dims.length k2,.slice A3 v.t.f.length k3,.slice A4 v.t.i.length k4,.slice A5 v.t.b.length k5]:List Value),u.oneCell' = true from Rep.one hr')
 have HV:=Lib.hid hV
 have HBw:=Lib.hid hB
 have hlook:=hB.map.lookup name hn
 have hp0:=place_bd ns name
 have hpi:=place_iff ns name
 have cg:=hB.cell (j:=4) (u:=.map (some mp)) rfl
 have hgl:=hB.lt
 have hvn:rV.n = ns.length:=by rw [← hlen];exact hV.n
 clear hr hr' hV hlen
 have hbox:=box_start w 75 ([.int .i64 v.type,.slice A1 v.dims.length k1,.bool v.const,.int .i64 v.t.type,.slice A2 v.t.dims.length k2,.slice A3 v.t.f.length k3,.slice A4 v.t.i.length k4,.slice A5 v.t.b.length k5]:List Value)
 have HX:=Lib.hid hbox
 have hB0:=HBw.out.next hbox.below
 have HB0:=Lib.hid hB0
 clear hB hbox hB0
 by_cases he:name = ⟨#[]⟩
 ·have hbad:badS ns name = true:=by simp [badS,he]
  subst he
  clear hlook hp0 hpi
  have HQ:=Lib.hid (And.intro hbad HB0.out.2)
  go_enter Tryd.func86,Tryd.ntmps86
  go_wp2
  go_ret
  exact ⟨by rw [HQ.out.1];rfl,fun _=>HQ.out.2,fun h=>by rw [HQ.out.1] at h;cases h⟩
 ·obtain ⟨hs1,hs2⟩:=str_some he
  by_cases hin:name ∈ ns
  ·have hbad:badS ns name = true:=by simp [badS,hin]
   have HQ:=Lib.hid (And.intro hbad HB0.out.2)
   have hlk:=(HB0.out.1.map.lookup name hn).1
   have cg0:=HB0.out.1.cell (j:=4) (u:=.map (some mp)) rfl
   obtain ⟨j,h1,-⟩:=place_in hin
   rw [h1] at hlk
   obtain ⟨x,hx⟩:∃ x:Int,(j:Int) + 1 = x:=⟨_,rfl⟩
   rw [hx] at hlk
   have hx0:x > 0:=by omega
   clear hx h1 hpi hp0 hbad hin cg hlook
   go_enter Tryd.func86,Tryd.ntmps86
   go_wp2
   go_ret
   exact ⟨by rw [HQ.out.1];rfl,fun _=>HQ.out.2,fun h=>by rw [HQ.out.1] at h;cases h⟩
  ·have hbad:badS ns name = false:=by simp [badS,hin,he]
   have HQ:=Lib.hid (And.intro hbad hin)
   have hw0:=And.intro HB0.out.1 (And.intro HB0.out.2 (And.intro HX.out.row (World.size_alloc w (.cells ([.int .i64 v.type,.slice A1 v.dims.length k1,.bool v.const,.int .i64 v.t.type,.slice A2 v.t.dims.length k2,.slice A3 v.t.f.length k3,.slice A4 v.t.i.length k4,.slice A5 v.t.b.length k5]:List Value).toArray 75))))
   have HW0:=Lib.hid hw0
   have hpz:placeD ns name = -1:=place_out hin
   have HP:=Lib.hid hpz
   clear hw0 hpz hpi hp0 hbad hin cg hlook HB0 HX
   go_enter Tryd.func86,Tryd.ntmps86
   go_wp2_with (with_reducible refine wpList_box_row rfl 75 _ rfl ([.int .i64 v.type,.slice A1 v.dims.length k1,.bool v.const,.int .i64 v.t.type,.slice A2 v.t.dims.length k2,.slice A3 v.t.f.length k3,.slice A4 v.t.i.length k4,.slice A5 v.t.b.length k5]:List Value) rfl ?_;have hX:=HW0.out;generalize World.alloc _ _ = W0 at hX ⊢;have HX:=Lib.hid hX;clear hX;refine halt ?_)
   unfold Halt
   have hlk:=(HX.out.1.map.lookup name hn).1
   rw [HP.out] at hlk
   have cg:=HX.out.1.cell (j:=4) (u:=.map (some mp)) rfl
   go_wp2_with fail
   clear hlk cg
   have HAt:=Lib.hid (show At W0.drew w.heap.size 0 ([.int .i64 v.type,.slice A1 v.dims.length k1,.bool v.const,.int .i64 v.t.type,.slice A2 v.t.dims.length k2,.slice A3 v.t.f.length k3,.slice A4 v.t.i.length k4,.slice A5 v.t.b.length k5]:List Value) from At.of_row HX.out.2.2.1)
   have hb1:Below W0.heap.size W0 (W0.drew.alloc (.cells ([.int .i64 v.type,.slice A1 v.dims.length k1,.bool v.const,.int .i64 v.t.type,.slice A2 v.t.dims.length k2,.slice A3 v.t.f.length k3,.slice A4 v.t.i.length k4,.slice A5 v.t.b.length k5]:List Value).toArray 75)):=(Below.refl _ _).drew.alloc (Nat.le_refl _) _
   have HB1:=Lib.hid (HX.out.1.next hb1)
   have hlies1:=lies_new W0.drew ([.int .i64 v.type,.slice A1 v.dims.length k1,.bool v.const,.int .i64 v.t.type,.slice A2 v.t.dims.length k2,.slice A3 v.t.f.length k3,.slice A4 v.t.i.length k4,.slice A5 v.t.b.length k5]:List Value) 75
   have hAt1:At (W0.drew.alloc (.cells ([.int .i64 v.type,.slice A1 v.dims.length k1,.bool v.const,.int .i64 v.t.type,.slice A2 v.t.dims.length k2,.slice A3 v.t.f.length k3,.slice A4 v.t.i.length k4,.slice A5 v.t.b.length k5]:List Value).toArray 75)) w.heap.size 0 ([.int .i64 v.type,.slice A1 v.dims.length k1,.bool v.const,.int .i64 v.t.type,.slice A2 v.t.dims.length k2,.slice A3 v.t.f.length k3,.slice A4 v.t.i.length k4,.slice A5 v.t.b.length k5]:List Value):=(At.of_row HX.out.2.2.1).keep hb1 (by rw [HX.out.2.2.2];omega)
   have hsz1:(W0.drew.alloc (.cells ([.int .i64 v.type,.slice A1 v.dims.length k1,.bool v.const,.int .i64 v.t.type,.slice A2 v.t.dims.length k2,.slice A3 v.t.f.length k3,.slice A4 v.t.i.length k4,.slice A5 v.t.b.length k5]:List Value).toArray 75)).heap.size = W0.heap.size + 1:=by rw [World.size_alloc];rfl
   have hown1:=HB1.out.1.rows.own 0 rV rfl
   rw [HV.out.e,HV.out.size] at hown1
   replace hown1:World.ownsRow _ lo 75 8 rV.v rV.n rV.xs:=hown1
   have hfx:=HB1.out.1.box
   have hbox0:=HX.out.1.box
   generalize hW1:W0.drew.alloc (.cells ([.int .i64 v.type,.slice A1 v.dims.length k1,.bool v.const,.int .i64 v.t.type,.slice A2 v.t.dims.length k2,.slice A3 v.t.f.length k3,.slice A4 v.t.i.length k4,.slice A5 v.t.b.length k5]:List Value).toArray 75) = W1 at HB1 hlies1 hAt1 hown1 hfx hb1 hsz1
   have key:∀ (W9:World) (v9:Value),W9.ownsRow lo 75 8 v9 (rV.n + 1) (rV.xs++([.int .i64 v.type,.slice A1 v.dims.length k1,.bool v.const,.int .i64 v.t.type,.slice A2 v.t.dims.length k2,.slice A3 v.t.f.length k3,.slice A4 v.t.i.length k4,.slice A5 v.t.b.length k5]:List Value))→W1.grownBy W9 rV.v.ownBlock→(v9.ownBlock = rV.v.ownBlock ∨ v9.ownBlock = some W1.heap.size) →
     W9.heap[g]? = some (.cells ([rV.v,rN.v,rI.v,rO.v,.map (some mp),rn.v]:List Value).toArray 108 (0,0))∧v9.oneCell' = true∧At W9 w.heap.size 0 ([.int .i64 v.type,.slice A1 v.dims.length k1,.bool v.const,.int .i64 v.t.type,.slice A2 v.t.dims.length k2,.slice A3 v.t.f.length k3,.slice A4 v.t.i.length k4,.slice A5 v.t.b.length k5]:List Value) ∧
     Bst lo ban g mp ⟨v9,rV.e,rV.size,rV.n + 1,rV.xs++([.int .i64 v.type,.slice A1 v.dims.length k1,.bool v.const,.int .i64 v.t.type,.slice A2 v.t.dims.length k2,.slice A3 v.t.f.length k3,.slice A4 v.t.i.length k4,.slice A5 v.t.b.length k5]:List Value)⟩ rN rI rO rn ex ns (W9.setRow g (([rV.v,rN.v,rI.v,rO.v,.map (some mp),rn.v]:List Value).set 0 v9).toArray) ∧
     Moves lo ban (rV :: rN :: rI :: rO :: rn :: ex) (⟨v9,rV.e,rV.size,rV.n + 1,rV.xs++([.int .i64 v.type,.slice A1 v.dims.length k1,.bool v.const,.int .i64 v.t.type,.slice A2 v.t.dims.length k2,.slice A3 v.t.f.length k3,.slice A4 v.t.i.length k4,.slice A5 v.t.b.length k5]:List Value)⟩ :: rN :: rI :: rO :: rn :: ex) w (W9.setRow g (([rV.v,rN.v,rI.v,rO.v,.map (some mp),rn.v]:List Value).set 0 v9).toArray) ∧
     Data (W9.setRow g (([rV.v,rN.v,rI.v,rO.v,.map (some mp),rn.v]:List Value).set 0 v9).toArray) (cold lo ban (⟨v9,rV.e,rV.size,rV.n + 1,rV.xs++([.int .i64 v.type,.slice A1 v.dims.length k1,.bool v.const,.int .i64 v.t.type,.slice A2 v.t.dims.length k2,.slice A3 v.t.f.length k3,.slice A4 v.t.i.length k4,.slice A5 v.t.b.length k5]:List Value)⟩ :: rN :: rI :: rO :: rn :: ex) (W9.setRow g (([rV.v,rN.v,rI.v,rO.v,.map (some mp),rn.v]:List Value).set 0 v9).toArray)) ⟨v9,rV.e,rV.size,rV.n + 1,rV.xs++([.int .i64 v.type,.slice A1 v.dims.length k1,.bool v.const,.int .i64 v.t.type,.slice A2 v.t.dims.length k2,.slice A3 v.t.f.length k3,.slice A4 v.t.i.length k4,.slice A5 v.t.b.length k5]:List Value)⟩ 75 (vals++[v]):=by
    intro W9 v9 hown9 hg9 hb9
    have hm1:=HX.out.2.1.trans HB1.out.2
    have hown9':W9.ownsRow lo rV.e rV.size v9 (rV.n + 1) (rV.xs++([.int .i64 v.type,.slice A1 v.dims.length k1,.bool v.const,.int .i64 v.t.type,.slice A2 v.t.dims.length k2,.slice A3 v.t.f.length k3,.slice A4 v.t.i.length k4,.slice A5 v.t.b.length k5]:List Value)):=by rw [HV.out.e,HV.out.size];exact hown9
    obtain ⟨p1,p2⟩:=HB1.out.1.pushV hg9 hown9' (hb9.imp id .inl)
    refine ⟨(HB1.out.1.kept (i:=0) (r:=rV) (r':=rV) rfl hg9).1,?_,?_,p1,hm1.trans p2,?_⟩
    ·obtain ⟨A,c,rfl,-⟩:=own_slice hown9;rfl
    ·have hrow9:W9.heap[w.heap.size]? = some (.cells ([.int .i64 v.type,.slice A1 v.dims.length k1,.bool v.const,.int .i64 v.t.type,.slice A2 v.t.dims.length k2,.slice A3 v.t.f.length k3,.slice A4 v.t.i.length k4,.slice A5 v.t.b.length k5]:List Value).toArray 75 (0,0)):=(hg9.block _ (by have:=HX.out.2.2.2;omega) (own_not_new (HBw.out.rows.own 0 rV rfl))).trans ((hb1.block _ (by rw [HX.out.2.2.2];omega)).trans HX.out.2.2.1)
     exact At.of_row hrow9
    ·exact ((HV.out.move hm1).snoc (hm1.rep HR.out)).move p2
   have KEY:=Lib.hid key
   clear key
   obtain ⟨hi0,hz0,hz1,hz2⟩:=HZ.out
   have hvs:rV.n ≤ 1048576:=by omega
   refine wp_region_held_drew (S:=fun W=>At W w.heap.size 0 ([.int .i64 v.type,.slice A1 v.dims.length k1,.bool v.const,.int .i64 v.t.type,.slice A2 v.t.dims.length k2,.slice A3 v.t.f.length k3,.slice A4 v.t.i.length k4,.slice A5 v.t.b.length k5]:List Value)) (by kernel_rfl) HAt.out (fun hHeld=>?_)
   refine take_d9 0 (some 18) (v:=.pointer (some ⟨g,0,none⟩)) rfl (by kernel_rfl) (by kernel_rfl) (by kernel_rfl) (by kernel_rfl) (fun c a w h=>h) (Or.inl ⟨by kernel_rfl,fun w _=>by kernel_rfl⟩) hHeld ?_
   refine take_d9 1 (some 19) (v:=.pointer (some ⟨g,0,none⟩)) rfl (by kernel_rfl) (by kernel_rfl) (by kernel_rfl) (by kernel_rfl) (fun c a w h=>h) (Or.inl ⟨by kernel_rfl,fun w _=>by kernel_rfl⟩) hHeld ?_
   refine take_d9 2 (some 20) (v:=.pointer (some ⟨g,0,none⟩)) rfl (by kernel_rfl) (by kernel_rfl) (by kernel_rfl) (by kernel_rfl) (fun c a w h=>h) (Or.inl ⟨by kernel_rfl,fun w _=>by kernel_rfl⟩) hHeld ?_
   refine take_d9 3 (some 21) (v:=.pointer (some ⟨g,0,none⟩)) rfl (by kernel_rfl) (by kernel_rfl) (by kernel_rfl) (by kernel_rfl) (fun c a w h=>h) (Or.inl ⟨by kernel_rfl,fun w _=>by kernel_rfl⟩) hHeld ?_
   refine take_d9 4 (some 22) (v:=.pointer (some ⟨g,0,none⟩)) rfl (by kernel_rfl) (by kernel_rfl) (by kernel_rfl) (by kernel_rfl) (fun c a w h=>h) (Or.inl ⟨by kernel_rfl,fun w _=>by kernel_rfl⟩) hHeld ?_
   refine take_d9 6 (some 24) (v:=.agg (([.int .i64 v.type,.slice A1 v.dims.length k1,.bool v.const,.int .i64 v.t.type,.slice A2 v.t.dims.length k2,.slice A3 v.t.f.length k3,.slice A4 v.t.i.length k4,.slice A5 v.t.b.length k5]:List Value)).toArray) rfl (by kernel_rfl) (by kernel_rfl) (by kernel_rfl) (by kernel_rfl) (fun c a w h=>h) (yields_load_agg (by kernel_rfl) 75 _ rfl _ w.heap.size 0 (by kernel_rfl) ([.int .i64 v.type,.slice A1 v.dims.length k1,.bool v.const,.int .i64 v.t.type,.slice A2 v.t.dims.length k2,.slice A3 v.t.f.length k3,.slice A4 v.t.i.length k4,.slice A5 v.t.b.length k5]:List Value) Tryd.underlying75 rfl (by kernel_rfl) (fun _ h=>h)) hHeld ?_
   refine anyH_2 5 7 rfl rfl (by kernel_rfl) ?oa ?ob
   case oa =>
    refine steps_load_slice (by kernel_rfl) _ _ rfl g 0 (by kernel_rfl) rV.v Tryd.underlying60 (cell_of_row _ _ _ _ _ _ hbox0) hHeld ?_
    refine anyH_1 7 rfl (by kernel_rfl) ?_
    refine steps_lay (.slice (some ⟨W0.heap.size,0,none⟩) 1 1) (.cells ([.int .i64 v.type,.slice A1 v.dims.length k1,.bool v.const,.int .i64 v.t.type,.slice A2 v.t.dims.length k2,.slice A3 v.t.f.length k3,.slice A4 v.t.i.length k4,.slice A5 v.t.b.length k5]:List Value).toArray 75) (by kernel_rfl) (by kernel_rfl) (by rw [hW1];exact hAt1) ?_
    rw [hW1]
    refine anyH_1 8 rfl (by kernel_rfl) ?_
    refine steps_append9 (by kernel_rfl) _ _ _ rfl lo 75 i0 (.agg zeroV.toArray) 8 144 Tryd.underlying60 hi0 hz0 hz1 hz2 rfl (by decide) rV.v rV.n rV.xs (by kernel_rfl) hown1
     (old (W0.drew.heap.size + 1)) (some ⟨W0.drew.heap.size,0,none⟩) 1 1 ([.int .i64 v.type,.slice A1 v.dims.length k1,.bool v.const,.int .i64 v.t.type,.slice A2 v.t.dims.length k2,.slice A3 v.t.f.length k3,.slice A4 v.t.i.length k4,.slice A5 v.t.b.length k5]:List Value) (by kernel_rfl) rfl hlies1 HN1.out (by unfold maxLen;omega) (by omega) HB1.out.1.lo_le ?_
    intro v9 W9 hown9 hg9 hb9
    obtain ⟨hbox9,hone,hc9,hres⟩:=KEY.out W9 v9 hown9 hg9 hb9
    refine ⟨hc9,?_⟩
    refine take_d9 9 (some 27) (v:=.pointer (some ⟨g,0,none⟩)) rfl (by kernel_rfl) (by kernel_rfl) (by kernel_rfl) (by kernel_rfl) (fun c a w h=>h) (Or.inl ⟨by kernel_rfl,fun w _=>by kernel_rfl⟩) hc9 ?_
    refine take_d9 10 (some 28) (v:=.pointer (some ⟨g,0,none⟩)) rfl (by kernel_rfl) (by kernel_rfl) (by kernel_rfl) (by kernel_rfl) (fun c a w h=>h) (Or.inl ⟨by kernel_rfl,fun w _=>by kernel_rfl⟩) hc9 ?_
    refine take_d9 11 (some 29) (v:=.pointer (some ⟨g,0,none⟩)) rfl (by kernel_rfl) (by kernel_rfl) (by kernel_rfl) (by kernel_rfl) (fun c a w h=>h) (Or.inl ⟨by kernel_rfl,fun w _=>by kernel_rfl⟩) hc9 ?_
    refine anyH_store_field 12 rfl (by kernel_rfl) (by kernel_rfl) _ _ _ rfl g 0 v9 (by kernel_rfl) (by kernel_rfl) hone (by kernel_rfl) 108 ([rV.v,rN.v,rI.v,rO.v,.map (some mp),rn.v]:List Value) hbox9 (by show 0 < 6;decide) (hc9.setRow_other (by omega) _) ?_
    refine wpAnyH_done (by kernel_rfl) ?_ _
    obtain ⟨A9,c9,rfl,hnc9,hcm9⟩:=own_slice hown9
    generalize World.setRow _ _ _ = wc at hres ⊢
    obtain ⟨r1,r2,r3⟩:=hres
    have hRV:∃ rV',rV' = (⟨.slice A9 (rV.n + 1) c9,rV.e,rV.size,rV.n + 1,rV.xs++([.int .i64 v.type,.slice A1 v.dims.length k1,.bool v.const,.int .i64 v.t.type,.slice A2 v.t.dims.length k2,.slice A3 v.t.f.length k3,.slice A4 v.t.i.length k4,.slice A5 v.t.b.length k5]:List Value)⟩:RowV)∧rV'.v = .slice A9 (rV.n + 1) c9:=⟨_,rfl,rfl⟩
    obtain ⟨rV',hrv,hrv2⟩:=hRV
    rw [← hrv] at r1 r2 r3
    rw [hvn] at hrv2
    clear hrv hbox9 hone hc9 hown9 hg9 hb9 hown1 hlies1 hAt1 hW1 hHeld hi0 hz0 hz1 hz2 HB1 HAt hfx hbox0 hb1 hsz1 KEY HX hnc9 hcm9
    have HC:=Lib.hid (And.intro r1 (And.intro r2 r3))
    clear r1 r2 r3
    have HRV:=Lib.hid hrv2
    clear hrv2
    go_wp2_with fail
    have c4:wc.drew.cell? ⟨g,4,none⟩ = some (.map (some mp)):=HC.out.1.cell (j:=4) rfl
    have c0:wc.drew.cell? ⟨g,0,none⟩ = some (.slice A9 (ns.length + 1) c9):=HC.out.1.cell (j:=0) (by rw [← HRV.out];rfl)
    refine wp_region_held_drew (S:=fun W=>W.cell? ⟨g,4,none⟩ = some (.map (some mp))∧W.cell? ⟨g,0,none⟩ = some (.slice A9 (ns.length + 1) c9)) (by kernel_rfl) ⟨c4,c0⟩ (fun hHeld=>?_)
    refine take_d9 0 (some 30) (v:=.pointer (some ⟨g,0,none⟩)) rfl (by kernel_rfl) (by kernel_rfl) (by kernel_rfl) (by kernel_rfl) (fun c a w h=>h) (Or.inl ⟨by kernel_rfl,fun w _=>by kernel_rfl⟩) hHeld ?_
    refine take_d9 1 (some 31) (v:=.pointer (some ⟨g,0,none⟩)) rfl (by kernel_rfl) (by kernel_rfl) (by kernel_rfl) (by kernel_rfl) (fun c a w h=>h) (Or.inl ⟨by kernel_rfl,fun w _=>by kernel_rfl⟩) hHeld ?_
    refine take_d9 2 (some 32) (v:=.pointer (some ⟨g,4,none⟩)) rfl (by kernel_rfl) (by kernel_rfl) (by kernel_rfl) (by kernel_rfl) (fun c a w h=>h) (Or.inl ⟨by kernel_rfl,fun w _=>by kernel_rfl⟩) hHeld ?_
    refine take_d9 5 (some 35) (v:=.pointer (some ⟨g,0,none⟩)) rfl (by kernel_rfl) (by kernel_rfl) (by kernel_rfl) (by kernel_rfl) (fun c a w h=>h) (Or.inl ⟨by kernel_rfl,fun w _=>by kernel_rfl⟩) hHeld ?_
    refine take_d9 6 (some 36) (v:=.pointer (some ⟨g,0,none⟩)) rfl (by kernel_rfl) (by kernel_rfl) (by kernel_rfl) (by kernel_rfl) (fun c a w h=>h) (Or.inl ⟨by kernel_rfl,fun w _=>by kernel_rfl⟩) hHeld ?_
    refine take_d9 7 (some 37) (v:=.pointer (some ⟨g,0,none⟩)) rfl (by kernel_rfl) (by kernel_rfl) (by kernel_rfl) (by kernel_rfl) (fun c a w h=>h) (Or.inl ⟨by kernel_rfl,fun w _=>by kernel_rfl⟩) hHeld ?_
    refine take_d9 8 (some 38) (v:=.pointer (some ⟨g,0,none⟩)) rfl (by kernel_rfl) (by kernel_rfl) (by kernel_rfl) (by kernel_rfl) (fun c a w h=>h) (Or.inl ⟨by kernel_rfl,fun w _=>by kernel_rfl⟩) hHeld ?_
    refine take_d9 4 (some 34) (v:=.string name) rfl (by kernel_rfl) (by kernel_rfl) (by kernel_rfl) (by kernel_rfl) (fun c a w h=>h) (Or.inl ⟨by kernel_rfl,fun w _=>by kernel_rfl⟩) hHeld ?_
    refine take_d9 3 (some 33) (v:=.map (some mp)) rfl (by kernel_rfl) (by kernel_rfl) (by kernel_rfl) (by kernel_rfl) (fun c a w h=>h) (yields_load_one9 (by kernel_rfl) _ _ rfl g 4 (by kernel_rfl) _ _ Tryd.underlying90 rfl (fun _ h=>h.1)) hHeld ?_
    refine take_d9 9 (some 39) (v:=.slice A9 (ns.length + 1) c9) rfl (by kernel_rfl) (by kernel_rfl) (by kernel_rfl) (by kernel_rfl) (fun c a w h=>h) (yields_load_one9 (by kernel_rfl) _ _ rfl g 0 (by kernel_rfl) _ _ Tryd.underlying60 rfl (fun _ h=>h.2)) hHeld ?_
    refine take_d9 10 (some 40) (v:=.int .i64 ((ns.length + 1:Nat):Int)) rfl (by kernel_rfl) (by kernel_rfl) (by kernel_rfl) (by kernel_rfl) (fun c a w h=>h) (yields_len9 (by kernel_rfl) _ _ rfl A9 (ns.length + 1) c9 (by kernel_rfl) Tryd.underlying60) hHeld ?_
    refine anyH_mapUpdate 11 rfl (by kernel_rfl) (by kernel_rfl) _ _ _ rfl mp ns.length _ (by kernel_rfl) HC.out.1.map.drew (by unfold maxLen;omega) name ((ns.length + 1:Nat):Int) (by kernel_rfl) (by kernel_rfl) hn (by unfold I64;omega) ?_
    intro w8 hm8 hg8
    have hbx:w8.heap[g]? = _:=(hg8.block _ HC.out.1.lt (fun e=>HC.out.1.ne (by injection e with e;exact e.symm))).trans HC.out.1.box
    refine ⟨⟨cell_of_row' hbx rfl,cell_of_row' hbx (by rw [← HRV.out];rfl)⟩,?_⟩
    refine wpAnyH_done (by kernel_rfl) ?_ _
    have hcd:=HC.out.1.next (Below.refl _ _).drew
    have hnm:=hcd.1.name HQ.out.2 hg8 hm8
    have hfin:=And.intro hnm.1 (hcd.2.trans hnm.2)
    have HF:=Lib.hid hfin
    clear hfin hcd hnm hbx hm8 hg8 hHeld c4 c0
    go_wp2
    go_ret
    refine ⟨by rw [HQ.out.1];rfl,fun h=>(by rw [HQ.out.1] at h;cases h),fun _=>⟨rV',HF.out.1,HC.out.2.1.trans HF.out.2,HC.out.2.2.move HF.out.2⟩⟩
   case ob =>
    refine steps_lay (.slice (some ⟨W0.heap.size,0,none⟩) 1 1) (.cells ([.int .i64 v.type,.slice A1 v.dims.length k1,.bool v.const,.int .i64 v.t.type,.slice A2 v.t.dims.length k2,.slice A3 v.t.f.length k3,.slice A4 v.t.i.length k4,.slice A5 v.t.b.length k5]:List Value).toArray 75) (by kernel_rfl) (by kernel_rfl) (by rw [hW1];exact hAt1) ?_
    rw [hW1]
    refine anyH_1 5 rfl (by kernel_rfl) ?_
    refine steps_load_slice (by kernel_rfl) _ _ rfl g 0 (by kernel_rfl) rV.v Tryd.underlying60 (cell_of_row _ _ _ _ _ _ hfx) hAt1 ?_
    refine anyH_1 8 rfl (by kernel_rfl) ?_
    refine steps_append9 (by kernel_rfl) _ _ _ rfl lo 75 i0 (.agg zeroV.toArray) 8 144 Tryd.underlying60 hi0 hz0 hz1 hz2 rfl (by decide) rV.v rV.n rV.xs (by kernel_rfl) hown1
     (old (W0.drew.heap.size + 1)) (some ⟨W0.drew.heap.size,0,none⟩) 1 1 ([.int .i64 v.type,.slice A1 v.dims.length k1,.bool v.const,.int .i64 v.t.type,.slice A2 v.t.dims.length k2,.slice A3 v.t.f.length k3,.slice A4 v.t.i.length k4,.slice A5 v.t.b.length k5]:List Value) (by kernel_rfl) rfl hlies1 HN1.out (by unfold maxLen;omega) (by omega) HB1.out.1.lo_le ?_
    intro v9 W9 hown9 hg9 hb9
    obtain ⟨hbox9,hone,hc9,hres⟩:=KEY.out W9 v9 hown9 hg9 hb9
    refine ⟨hc9,?_⟩
    refine take_d9 9 (some 27) (v:=.pointer (some ⟨g,0,none⟩)) rfl (by kernel_rfl) (by kernel_rfl) (by kernel_rfl) (by kernel_rfl) (fun c a w h=>h) (Or.inl ⟨by kernel_rfl,fun w _=>by kernel_rfl⟩) hc9 ?_
    refine take_d9 10 (some 28) (v:=.pointer (some ⟨g,0,none⟩)) rfl (by kernel_rfl) (by kernel_rfl) (by kernel_rfl) (by kernel_rfl) (fun c a w h=>h) (Or.inl ⟨by kernel_rfl,fun w _=>by kernel_rfl⟩) hc9 ?_
    refine take_d9 11 (some 29) (v:=.pointer (some ⟨g,0,none⟩)) rfl (by kernel_rfl) (by kernel_rfl) (by kernel_rfl) (by kernel_rfl) (fun c a w h=>h) (Or.inl ⟨by kernel_rfl,fun w _=>by kernel_rfl⟩) hc9 ?_
    refine anyH_store_field 12 rfl (by kernel_rfl) (by kernel_rfl) _ _ _ rfl g 0 v9 (by kernel_rfl) (by kernel_rfl) hone (by kernel_rfl) 108 ([rV.v,rN.v,rI.v,rO.v,.map (some mp),rn.v]:List Value) hbox9 (by show 0 < 6;decide) (hc9.setRow_other (by omega) _) ?_
    refine wpAnyH_done (by kernel_rfl) ?_ _
    obtain ⟨A9,c9,rfl,hnc9,hcm9⟩:=own_slice hown9
    generalize World.setRow _ _ _ = wc at hres ⊢
    obtain ⟨r1,r2,r3⟩:=hres
    have hRV:∃ rV',rV' = (⟨.slice A9 (rV.n + 1) c9,rV.e,rV.size,rV.n + 1,rV.xs++([.int .i64 v.type,.slice A1 v.dims.length k1,.bool v.const,.int .i64 v.t.type,.slice A2 v.t.dims.length k2,.slice A3 v.t.f.length k3,.slice A4 v.t.i.length k4,.slice A5 v.t.b.length k5]:List Value)⟩:RowV)∧rV'.v = .slice A9 (rV.n + 1) c9:=⟨_,rfl,rfl⟩
    obtain ⟨rV',hrv,hrv2⟩:=hRV
    rw [← hrv] at r1 r2 r3
    rw [hvn] at hrv2
    clear hrv hbox9 hone hc9 hown9 hg9 hb9 hown1 hlies1 hAt1 hW1 hHeld hi0 hz0 hz1 hz2 HB1 HAt hfx hbox0 hb1 hsz1 KEY HX hnc9 hcm9
    have HC:=Lib.hid (And.intro r1 (And.intro r2 r3))
    clear r1 r2 r3
    have HRV:=Lib.hid hrv2
    clear hrv2
    go_wp2_with fail
    have c4:wc.drew.cell? ⟨g,4,none⟩ = some (.map (some mp)):=HC.out.1.cell (j:=4) rfl
    have c0:wc.drew.cell? ⟨g,0,none⟩ = some (.slice A9 (ns.length + 1) c9):=HC.out.1.cell (j:=0) (by rw [← HRV.out];rfl)
    refine wp_region_held_drew (S:=fun W=>W.cell? ⟨g,4,none⟩ = some (.map (some mp))∧W.cell? ⟨g,0,none⟩ = some (.slice A9 (ns.length + 1) c9)) (by kernel_rfl) ⟨c4,c0⟩ (fun hHeld=>?_)
    refine take_d9 0 (some 30) (v:=.pointer (some ⟨g,0,none⟩)) rfl (by kernel_rfl) (by kernel_rfl) (by kernel_rfl) (by kernel_rfl) (fun c a w h=>h) (Or.inl ⟨by kernel_rfl,fun w _=>by kernel_rfl⟩) hHeld ?_
    refine take_d9 1 (some 31) (v:=.pointer (some ⟨g,0,none⟩)) rfl (by kernel_rfl) (by kernel_rfl) (by kernel_rfl) (by kernel_rfl) (fun c a w h=>h) (Or.inl ⟨by kernel_rfl,fun w _=>by kernel_rfl⟩) hHeld ?_
    refine take_d9 2 (some 32) (v:=.pointer (some ⟨g,4,none⟩)) rfl (by kernel_rfl) (by kernel_rfl) (by kernel_rfl) (by kernel_rfl) (fun c a w h=>h) (Or.inl ⟨by kernel_rfl,fun w _=>by kernel_rfl⟩) hHeld ?_
    refine take_d9 5 (some 35) (v:=.pointer (some ⟨g,0,none⟩)) rfl (by kernel_rfl) (by kernel_rfl) (by kernel_rfl) (by kernel_rfl) (fun c a w h=>h) (Or.inl ⟨by kernel_rfl,fun w _=>by kernel_rfl⟩) hHeld ?_
    refine take_d9 6 (some 36) (v:=.pointer (some ⟨g,0,none⟩)) rfl (by kernel_rfl) (by kernel_rfl) (by kernel_rfl) (by kernel_rfl) (fun c a w h=>h) (Or.inl ⟨by kernel_rfl,fun w _=>by kernel_rfl⟩) hHeld ?_
    refine take_d9 7 (some 37) (v:=.pointer (some ⟨g,0,none⟩)) rfl (by kernel_rfl) (by kernel_rfl) (by kernel_rfl) (by kernel_rfl) (fun c a w h=>h) (Or.inl ⟨by kernel_rfl,fun w _=>by kernel_rfl⟩) hHeld ?_
    refine take_d9 8 (some 38) (v:=.pointer (some ⟨g,0,none⟩)) rfl (by kernel_rfl) (by kernel_rfl) (by kernel_rfl) (by kernel_rfl) (fun c a w h=>h) (Or.inl ⟨by kernel_rfl,fun w _=>by kernel_rfl⟩) hHeld ?_
    refine take_d9 4 (some 34) (v:=.string name) rfl (by kernel_rfl) (by kernel_rfl) (by kernel_rfl) (by kernel_rfl) (fun c a w h=>h) (Or.inl ⟨by kernel_rfl,fun w _=>by kernel_rfl⟩) hHeld ?_
    refine take_d9 3 (some 33) (v:=.map (some mp)) rfl (by kernel_rfl) (by kernel_rfl) (by kernel_rfl) (by kernel_rfl) (fun c a w h=>h) (yields_load_one9 (by kernel_rfl) _ _ rfl g 4 (by kernel_rfl) _ _ Tryd.underlying90 rfl (fun _ h=>h.1)) hHeld ?_
    refine take_d9 9 (some 39) (v:=.slice A9 (ns.length + 1) c9) rfl (by kernel_rfl) (by kernel_rfl) (by kernel_rfl) (by kernel_rfl) (fun c a w h=>h) (yields_load_one9 (by kernel_rfl) _ _ rfl g 0 (by kernel_rfl) _ _ Tryd.underlying60 rfl (fun _ h=>h.2)) hHeld ?_
    refine take_d9 10 (some 40) (v:=.int .i64 ((ns.length + 1:Nat):Int)) rfl (by kernel_rfl) (by kernel_rfl) (by kernel_rfl) (by kernel_rfl) (fun c a w h=>h) (yields_len9 (by kernel_rfl) _ _ rfl A9 (ns.length + 1) c9 (by kernel_rfl) Tryd.underlying60) hHeld ?_
    refine anyH_mapUpdate 11 rfl (by kernel_rfl) (by kernel_rfl) _ _ _ rfl mp ns.length _ (by kernel_rfl) HC.out.1.map.drew (by unfold maxLen;omega) name ((ns.length + 1:Nat):Int) (by kernel_rfl) (by kernel_rfl) hn (by unfold I64;omega) ?_
    intro w8 hm8 hg8
    have hbx:w8.heap[g]? = _:=(hg8.block _ HC.out.1.lt (fun e=>HC.out.1.ne (by injection e with e;exact e.symm))).trans HC.out.1.box
    refine ⟨⟨cell_of_row' hbx rfl,cell_of_row' hbx (by rw [← HRV.out];rfl)⟩,?_⟩
    refine wpAnyH_done (by kernel_rfl) ?_ _
    have hcd:=HC.out.1.next (Below.refl _ _).drew
    have hnm:=hcd.1.name HQ.out.2 hg8 hm8
    have hfin:=And.intro hnm.1 (hcd.2.trans hnm.2)
    have HF:=Lib.hid hfin
    clear hfin hcd hnm hbx hm8 hg8 hHeld c4 c0
    go_wp2
    go_ret
    refine ⟨by rw [HQ.out.1];rfl,fun h=>(by rw [HQ.out.1] at h;cases h),fun _=>⟨rV',HF.out.1,HC.out.2.1.trans HF.out.2,HC.out.2.2.move HF.out.2⟩⟩
end Go.Proofs.YtgbkhcmbmffljaaDoor
