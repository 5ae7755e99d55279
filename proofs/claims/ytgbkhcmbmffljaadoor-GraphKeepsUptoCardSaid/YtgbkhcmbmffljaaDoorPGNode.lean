/-
  Chapter 09: two graphs that hold the same are the same: latticeref04.SameInts, latticeref05.Same, latticeref09.SameSetting.
-/
/-
  A node whose attributes are laid anew, one by one: what a law's loop holds of it. A list turned round.
-/
/-
  Chapter 09: nodes of graphs: their cells; latticeref09.SameNode of equal ones.
-/
import Derived.Test.YtgbkhcmbmffljaaDoorPGData
import Derived.Test.YtgbkhcmbmffljaaDoorPSame
import Derived.Test.YtgbkhcmbmffljaaDoorPAwake
import Derived.Test.YtgbkhcmbmffljaaDoorPTail
import Derived.Test.YtgbkhcmbmffljaaDoorPGVal
set_option linter.unusedSimpArgs false
set_option linter.unusedVariables false
namespace Go.Proofs.YtgbkhcmbmffljaaDoor
open Go.RowKit
open Rep (rep)
set_option maxRecDepth 100000 in
set_option maxHeartbeats 4000000 in
theorem sameInts4_any (v1 v2:Value) (l:List Int) (w:World) (h1:rep w (old w.heap.size) [v1] l) (h2:rep w (old w.heap.size) [v2] l) :
  Calls Tryd.prog 97 #[v1,v2] w (YesDrew w):=by
 obtain ⟨A1,k1,x1,rfl,hn1,hc1,-,hl1,hch1⟩:=open_slice h1
 obtain ⟨A2,k2,x2,rfl,hn2,hc2,-,hl2,hch2⟩:=open_slice h2
 have HL:=Lib.hid (And.intro hl1 (And.intro hch1 (And.intro hl2 hch2)))
 clear h1 h2 hl1 hch1 hl2 hch2
 go_enter Tryd.func97,Tryd.ntmps97
 go_wp2_with fail
 go_loopw [5] (fun i wr=>∃ pre post:List Int,l = pre++post∧i = .int .i64 pre.length∧DrewFrom w wr)
  (fun i _=>l.length - (intOf i).toNat)
 case atStart=>exact ⟨[],l,rfl,rfl,DrewFrom.refl w⟩
 case round =>
  obtain ⟨pre,post,hpp,rfl,hdr⟩:=hrel
  obtain ⟨m,rfl⟩:=hdr
  cases post with
  | cons z post =>
   obtain ⟨hz,hlt,hpp',hpl⟩:=split_at hpp
   obtain ⟨b1,o1,xc1,rfl,-,hrz1,hcell1⟩:=elem_at HL.out.1 HL.out.2.1 (by decide) hz
   obtain ⟨b2,o2,xc2,rfl,-,hrz2,hcell2⟩:=elem_at HL.out.2.2.1 HL.out.2.2.2 (by decide) hz
   obtain ⟨rfl,-⟩:=hrz1
   obtain ⟨rfl,-⟩:=hrz2
   have k4:w.cell? ⟨b1,o1 + pre.length,none⟩ = some (.int .i64 z):=cell_of_elem (α:=Int) rfl hcell1 rfl
   have k5:w.cell? ⟨b2,o2 + pre.length,none⟩ = some (.int .i64 z):=cell_of_elem (α:=Int) rfl hcell2 rfl
   have H:=Lib.hid (And.intro hpp' hpl)
   have hk0:(0:Int) ≤ (pre.length:Int):=Int.natCast_nonneg _
   have hk1:(pre.length:Int) < (l.length:Int):=by omega
   clear hpp hpp' hpl hz hcell1 hcell2
   go_wp2_with fail
   go_quiet (fail)
   go_wp2
   go_roundw
   case rel =>
    obtain ⟨hpp',hpl⟩:=H.out
    exact ⟨pre++[z],post,hpp',by rw [hpl];go_num,_,rfl⟩
   case measure=>simp [intOf];omega
  | nil =>
   obtain ⟨hge,hpl⟩:=split_end hpp
   clear hpp hpl
   go_wp2
   go_ret
   exact ⟨rfl,_,rfl⟩
set_option maxRecDepth 100000 in
set_option maxHeartbeats 40000000 in
theorem sameTensor5_any (c1 c2:List Value) (t:TensorD) (w:World) (h1:rep w (old w.heap.size) c1 t) (h2:rep w (old w.heap.size) c2 t) :
  Calls Tryd.prog 60 #[.agg c1.toArray,.agg c2.toArray] w (YesBelow w):=by
 obtain ⟨A1,k1,A2,k2,A3,k3,A4,k4,rfl,-,d1,d2,d3,d4⟩:=open_TensorD h1
 obtain ⟨B1,m1,B2,m2,B3,m3,B4,m4,rfl,-,e1,e2,e3,e4⟩:=open_TensorD h2
 have HD:=Lib.hid (And.intro d1 e1)
 obtain ⟨b2,b2'⟩:=slice_bound d2
 obtain ⟨b3,b3'⟩:=slice_bound d3
 obtain ⟨b4,b4'⟩:=slice_bound d4
 obtain ⟨g2,g2'⟩:=slice_bound e2
 obtain ⟨g3,g3'⟩:=slice_bound e3
 obtain ⟨g4,g4'⟩:=slice_bound e4
 obtain ⟨x2,p2,q2⟩:=lies_of_slice d2
 obtain ⟨x3,p3,q3⟩:=lies_of_slice d3
 obtain ⟨x4,p4,q4⟩:=lies_of_slice d4
 obtain ⟨y2,r2,s2⟩:=lies_of_slice e2
 obtain ⟨y3,r3,s3⟩:=lies_of_slice e3
 obtain ⟨y4,r4,s4⟩:=lies_of_slice e4
 have H2:=Lib.hid (And.intro p2 (And.intro q2 (And.intro r2 s2)))
 have H3:=Lib.hid (And.intro p3 (And.intro q3 (And.intro r3 s3)))
 have H4:=Lib.hid (And.intro p4 (And.intro q4 (And.intro r4 s4)))
 clear h1 h2 d1 d2 d3 d4 e1 e2 e3 e4 p2 q2 r2 s2 p3 q3 r3 s3 p4 q4 r4 s4
 go_enter Tryd.func60,Tryd.ntmps60
 go_wp2_with fail
 have hX:TwoBox w 43 43 [.int .i64 t.type,.slice A1 t.dims.length k1,.slice A2 t.f.length k2,.slice A3 t.i.length k3,.slice A4 t.b.length k4] [.int .i64 t.type,.slice B1 t.dims.length m1,.slice B2 t.f.length m2,.slice B3 t.i.length m3,.slice B4 t.b.length m4]
  ((w.alloc (.cells #[.int .i64 t.type,.slice A1 t.dims.length k1,.slice A2 t.f.length k2,.slice A3 t.i.length k3,.slice A4 t.b.length k4] 43)).alloc (.cells #[.int .i64 t.type,.slice B1 t.dims.length m1,.slice B2 t.f.length m2,.slice B3 t.i.length m3,.slice B4 t.b.length m4] 43)):=twobox_start w _ _ _ _
 generalize World.alloc _ _ = W0 at hX ⊢
 have HX:=Lib.hid hX
 clear hX
 have a0:=HX.out.a (j:=0) rfl
 have a1:=HX.out.a (j:=1) rfl
 have a2:=HX.out.a (j:=2) rfl
 have a3:=HX.out.a (j:=3) rfl
 have a4:=HX.out.a (j:=4) rfl
 have f0:=HX.out.b (j:=0) rfl
 have f1:=HX.out.b (j:=1) rfl
 have f2:=HX.out.b (j:=2) rfl
 have f3:=HX.out.b (j:=3) rfl
 have f4:=HX.out.b (j:=4) rfl
 refine (sameInts4_any _ _ t.dims _ (HX.out.rep HD.out.1) (HX.out.rep HD.out.2)).mono ?_
 rintro e w1 ⟨rfl,n1,rfl⟩
 go_wp2_with fail

 go_loopw [5] (fun i wr=>∃ pre post:List Nat,t.f = pre++post∧i = .int .i64 pre.length∧DrewFrom W0 wr)
  (fun i _=>t.f.length - (intOf i).toNat)
 case atStart=>exact ⟨[],t.f,rfl,rfl,_,rfl⟩
 case round =>
  obtain ⟨pre,post,hpp,rfl,hdr⟩:=hrel
  obtain ⟨n2,rfl⟩:=hdr
  cases post with
  | cons z post =>
   obtain ⟨hz,hlt,hpp',hpl⟩:=split_at hpp
   obtain ⟨b1,o1,xc1,rfl,hbB1,hrz1,hcell1⟩:=elem_at H2.out.1 H2.out.2.1 (by decide) hz
   obtain ⟨b2,o2,xc2,rfl,hbB2,hrz2,hcell2⟩:=elem_at H2.out.2.2.1 H2.out.2.2.2 (by decide) hz
   have hx1:xc1[0]? = some (.int .u32 (z:Int)):=by exact one_u32 hrz1
   have hx2:xc2[0]? = some (.int .u32 (z:Int)):=by exact one_u32 hrz2
   have k5:W0.cell? ⟨b1,o1 + pre.length,none⟩ = some (.int .u32 (z:Int)):=(HX.out.below.cell (p:=⟨b1,o1 + pre.length,none⟩) hbB1).trans (cell_of_elem (α:=Nat) rfl hcell1 hx1)
   have k6:W0.cell? ⟨b2,o2 + pre.length,none⟩ = some (.int .u32 (z:Int)):=(HX.out.below.cell (p:=⟨b2,o2 + pre.length,none⟩) hbB2).trans (cell_of_elem (α:=Nat) rfl hcell2 hx2)
   have H:=Lib.hid (And.intro hpp' hpl)
   have hk0:(0:Int) ≤ (pre.length:Int):=Int.natCast_nonneg _
   have hk1:(pre.length:Int) < (t.f.length:Int):=by omega
   clear hpp hpp' hpl hz hcell1 hcell2 hx1 hx2 hrz1 hrz2 hbB1 hbB2
   go_wp2_with fail
   go_quiet (fail)
   go_wp2
   go_roundw
   case rel =>
    obtain ⟨hpp',hpl⟩:=H.out
    exact ⟨pre++[z],post,hpp',by rw [hpl];go_num,_,rfl⟩
   case measure=>simp [intOf];omega
  | nil =>
   obtain ⟨hge,hpl⟩:=split_end hpp
   clear hpp hpl
   go_wp2_with fail
   go_loopw [6] (fun i wr=>∃ pre post:List Int,t.i = pre++post∧i = .int .i64 pre.length∧DrewFrom W0 wr)
    (fun i _=>t.i.length - (intOf i).toNat)
   case atStart=>exact ⟨[],t.i,rfl,rfl,_,rfl⟩
   case round =>
    obtain ⟨pre,post,hpp,rfl,hdr⟩:=hrel
    obtain ⟨n2,rfl⟩:=hdr
    cases post with
    | cons z post =>
     obtain ⟨hz,hlt,hpp',hpl⟩:=split_at hpp
     obtain ⟨b1,o1,xc1,rfl,hbB1,hrz1,hcell1⟩:=elem_at H3.out.1 H3.out.2.1 (by decide) hz
     obtain ⟨b2,o2,xc2,rfl,hbB2,hrz2,hcell2⟩:=elem_at H3.out.2.2.1 H3.out.2.2.2 (by decide) hz
     have hx1:xc1[0]? = some (.int .i64 z):=by exact one_i64 hrz1
     have hx2:xc2[0]? = some (.int .i64 z):=by exact one_i64 hrz2
     have k5:W0.cell? ⟨b1,o1 + pre.length,none⟩ = some (.int .i64 z):=(HX.out.below.cell (p:=⟨b1,o1 + pre.length,none⟩) hbB1).trans (cell_of_elem (α:=Int) rfl hcell1 hx1)
     have k6:W0.cell? ⟨b2,o2 + pre.length,none⟩ = some (.int .i64 z):=(HX.out.below.cell (p:=⟨b2,o2 + pre.length,none⟩) hbB2).trans (cell_of_elem (α:=Int) rfl hcell2 hx2)
     have H:=Lib.hid (And.intro hpp' hpl)
     have hk0:(0:Int) ≤ (pre.length:Int):=Int.natCast_nonneg _
     have hk1:(pre.length:Int) < (t.i.length:Int):=by omega
     clear hpp hpp' hpl hz hcell1 hcell2 hx1 hx2 hrz1 hrz2 hbB1 hbB2
     go_wp2_with fail
     go_quiet (fail)
     go_wp2
     go_roundw
     case rel =>
      obtain ⟨hpp',hpl⟩:=H.out
      exact ⟨pre++[z],post,hpp',by rw [hpl];go_num,_,rfl⟩
     case measure=>simp [intOf];omega
    | nil =>
     obtain ⟨hge,hpl⟩:=split_end hpp
     clear hpp hpl
     go_wp2_with fail
     go_loopw [7] (fun i wr=>∃ pre post:List Bool,t.b = pre++post∧i = .int .i64 pre.length∧DrewFrom W0 wr)
      (fun i _=>t.b.length - (intOf i).toNat)
     case atStart=>exact ⟨[],t.b,rfl,rfl,_,rfl⟩
     case round =>
      obtain ⟨pre,post,hpp,rfl,hdr⟩:=hrel
      obtain ⟨n2,rfl⟩:=hdr
      cases post with
      | cons z post =>
       obtain ⟨hz,hlt,hpp',hpl⟩:=split_at hpp
       obtain ⟨b1,o1,xc1,rfl,hbB1,hrz1,hcell1⟩:=elem_at H4.out.1 H4.out.2.1 (by decide) hz
       obtain ⟨b2,o2,xc2,rfl,hbB2,hrz2,hcell2⟩:=elem_at H4.out.2.2.1 H4.out.2.2.2 (by decide) hz
       have hx1:xc1[0]? = some (.bool z):=by exact one_bool hrz1
       have hx2:xc2[0]? = some (.bool z):=by exact one_bool hrz2
       have k5:W0.cell? ⟨b1,o1 + pre.length,none⟩ = some (.bool z):=(HX.out.below.cell (p:=⟨b1,o1 + pre.length,none⟩) hbB1).trans (cell_of_elem (α:=Bool) rfl hcell1 hx1)
       have k6:W0.cell? ⟨b2,o2 + pre.length,none⟩ = some (.bool z):=(HX.out.below.cell (p:=⟨b2,o2 + pre.length,none⟩) hbB2).trans (cell_of_elem (α:=Bool) rfl hcell2 hx2)
       have H:=Lib.hid (And.intro hpp' hpl)
       have hk0:(0:Int) ≤ (pre.length:Int):=Int.natCast_nonneg _
       have hk1:(pre.length:Int) < (t.b.length:Int):=by omega
       clear hpp hpp' hpl hz hcell1 hcell2 hx1 hx2 hrz1 hrz2 hbB1 hbB2
       go_wp2_with fail
       go_quiet (fail)
       go_wp2
       go_roundw
       case rel =>
        obtain ⟨hpp',hpl⟩:=H.out
        exact ⟨pre++[z],post,hpp',by rw [hpl];go_num,_,rfl⟩
       case measure=>simp [intOf];omega
      | nil =>
       obtain ⟨hge,hpl⟩:=split_end hpp
       clear hpp hpl
       go_wp2
       go_ret
       exact ⟨rfl,below_drewN HX.out.below _⟩
set_option maxRecDepth 100000 in
set_option maxHeartbeats 40000000 in
theorem sameSetting_any (c1 c2:List Value) (s:SettingD) (w:World) (h1:rep w (old w.heap.size) c1 s) (h2:rep w (old w.heap.size) c2 s) :
  Calls Tryd.prog 98 #[.agg c1.toArray,.agg c2.toArray] w (YesBelow w):=by
 have hS1:SettingDAt w (old w.heap.size) c1 s:=h1
 have hS2:SettingDAt w (old w.heap.size) c2 s:=h2
 clear h1 h2
 go_enter Tryd.func98,Tryd.ntmps98
 have HS:=Lib.hid (And.intro hS1 hS2)
 clear hS1 hS2
 go_wp2_with (first
  |(with_reducible refine wpList_box_row rfl 45 _ rfl c1 rfl ?_)
  |(with_reducible refine wpList_box_row rfl 45 _ rfl c2 rfl ?_;have hX:=twobox_start w 45 45 c1 c2;generalize World.alloc _ _ = W0 at hX ⊢;have HX:=Lib.hid hX;clear hX;refine haltS ?_))
 unfold HaltS
 have a0:=HX.out.a (Fld.int HS.out.1.f0).1
 have b0:=HX.out.b (Fld.int HS.out.2.f0).1
 obtain ⟨A1,k1,hc1,hr1⟩:=Fld.list HS.out.1.f1
 obtain ⟨B1,m1,gc1,gr1⟩:=Fld.list HS.out.2.f1
 have a1:=HX.out.a hc1
 have b1:=HX.out.b gc1
 have R1:=Lib.hid (And.intro (HX.out.rep hr1) (HX.out.rep gr1))
 clear hc1 hr1 gc1 gr1
 have a2:=HX.out.a (Fld.bool HS.out.1.f2)
 have b2:=HX.out.b (Fld.bool HS.out.2.f2)
 have a3:=HX.out.a (Fld.bool HS.out.1.f3)
 have b3:=HX.out.b (Fld.bool HS.out.2.f3)
 have a4:=HX.out.a (Fld.bool HS.out.1.f4)
 have b4:=HX.out.b (Fld.bool HS.out.2.f4)
 have a5:=HX.out.a (Fld.bool HS.out.1.f5)
 have b5:=HX.out.b (Fld.bool HS.out.2.f5)
 have a6:=HX.out.a (Fld.bool HS.out.1.f6)
 have b6:=HX.out.b (Fld.bool HS.out.2.f6)
 obtain ⟨A7,k7,hc7,hr7⟩:=Fld.list HS.out.1.f7
 obtain ⟨B7,m7,gc7,gr7⟩:=Fld.list HS.out.2.f7
 have a7:=HX.out.a hc7
 have b7:=HX.out.b gc7
 have R7:=Lib.hid (And.intro (HX.out.rep hr7) (HX.out.rep gr7))
 clear hc7 hr7 gc7 gr7
 have a8:=HX.out.a (Fld.bool HS.out.1.f8)
 have b8:=HX.out.b (Fld.bool HS.out.2.f8)
 have a9:=HX.out.a (Fld.u32 HS.out.1.f9).1
 have b9:=HX.out.b (Fld.u32 HS.out.2.f9).1
 have a10:=HX.out.a (Fld.u32 HS.out.1.f10).1
 have b10:=HX.out.b (Fld.u32 HS.out.2.f10).1
 have a11:=HX.out.a (Fld.u32 HS.out.1.f11).1
 have b11:=HX.out.b (Fld.u32 HS.out.2.f11).1
 have a12:=HX.out.a (Fld.bool HS.out.1.f12)
 have b12:=HX.out.b (Fld.bool HS.out.2.f12)
 have a13:=HX.out.a (Fld.bool HS.out.1.f13)
 have b13:=HX.out.b (Fld.bool HS.out.2.f13)
 have a14:=HX.out.a (Fld.bool HS.out.1.f14)
 have b14:=HX.out.b (Fld.bool HS.out.2.f14)
 have a15:=HX.out.a (Fld.int HS.out.1.f15).1
 have b15:=HX.out.b (Fld.int HS.out.2.f15).1
 have a16:=HX.out.a (Fld.int HS.out.1.f16).1
 have b16:=HX.out.b (Fld.int HS.out.2.f16).1
 have a17:=HX.out.a (Fld.bool HS.out.1.f17)
 have b17:=HX.out.b (Fld.bool HS.out.2.f17)
 have a18:=HX.out.a (Fld.bool HS.out.1.f18)
 have b18:=HX.out.b (Fld.bool HS.out.2.f18)
 have a19:=HX.out.a (Fld.int HS.out.1.f19).1
 have b19:=HX.out.b (Fld.int HS.out.2.f19).1
 obtain ⟨A20,k20,hc20,hr20⟩:=Fld.list HS.out.1.f20
 obtain ⟨B20,m20,gc20,gr20⟩:=Fld.list HS.out.2.f20
 have a20:=HX.out.a hc20
 have b20:=HX.out.b gc20
 have R20:=Lib.hid (And.intro (HX.out.rep hr20) (HX.out.rep gr20))
 clear hc20 hr20 gc20 gr20
 obtain ⟨A21,k21,hc21,hr21⟩:=Fld.list HS.out.1.f21
 obtain ⟨B21,m21,gc21,gr21⟩:=Fld.list HS.out.2.f21
 have a21:=HX.out.a hc21
 have b21:=HX.out.b gc21
 have R21:=Lib.hid (And.intro (HX.out.rep hr21) (HX.out.rep gr21))
 clear hc21 hr21 gc21 gr21
 obtain ⟨A22,k22,hc22,hr22⟩:=Fld.list HS.out.1.f22
 obtain ⟨B22,m22,gc22,gr22⟩:=Fld.list HS.out.2.f22
 have a22:=HX.out.a hc22
 have b22:=HX.out.b gc22
 have R22:=Lib.hid (And.intro (HX.out.rep hr22) (HX.out.rep gr22))
 clear hc22 hr22 gc22 gr22
 obtain ⟨A23,k23,hc23,hr23⟩:=Fld.list HS.out.1.f23
 obtain ⟨B23,m23,gc23,gr23⟩:=Fld.list HS.out.2.f23
 have a23:=HX.out.a hc23
 have b23:=HX.out.b gc23
 have R23:=Lib.hid (And.intro (HX.out.rep hr23) (HX.out.rep gr23))
 clear hc23 hr23 gc23 gr23
 have a24:=HX.out.a (Fld.int HS.out.1.f24).1
 have b24:=HX.out.b (Fld.int HS.out.2.f24).1
 have a25:=HX.out.a (Fld.bool HS.out.1.f25)
 have b25:=HX.out.b (Fld.bool HS.out.2.f25)
 have a26:=HX.out.a (Fld.bool HS.out.1.f26)
 have b26:=HX.out.b (Fld.bool HS.out.2.f26)
 have a27:=HX.out.a (Fld.int HS.out.1.f27).1
 have b27:=HX.out.b (Fld.int HS.out.2.f27).1
 have a28:=HX.out.a (Fld.int HS.out.1.f28).1
 have b28:=HX.out.b (Fld.int HS.out.2.f28).1
 have a29:=HX.out.a (Fld.int HS.out.1.f29).1
 have b29:=HX.out.b (Fld.int HS.out.2.f29).1
 have a30:=HX.out.a (Fld.bool HS.out.1.f30)
 have b30:=HX.out.b (Fld.bool HS.out.2.f30)
 obtain ⟨A31,k31,A32,k32,A33,k33,A34,k34,hv,-⟩:=open_TensorD HS.out.1.f31
 obtain ⟨B31,m31,B32,m32,B33,m33,B34,m34,gv,-⟩:=open_TensorD HS.out.2.f31
 have hrv:=HS.out.1.f31
 have grv:=HS.out.2.f31
 rw [hv] at hrv
 rw [gv] at grv
 have RV:=Lib.hid (And.intro (HX.out.rep hrv) (HX.out.rep grv))
 have a31:=HX.out.aDrop hv (j:=0) rfl
 have b31:=HX.out.bDrop gv (j:=0) rfl
 simp only [Nat.reduceAdd] at a31 b31
 have a32:=HX.out.aDrop hv (j:=1) rfl
 have b32:=HX.out.bDrop gv (j:=1) rfl
 simp only [Nat.reduceAdd] at a32 b32
 have a33:=HX.out.aDrop hv (j:=2) rfl
 have b33:=HX.out.bDrop gv (j:=2) rfl
 simp only [Nat.reduceAdd] at a33 b33
 have a34:=HX.out.aDrop hv (j:=3) rfl
 have b34:=HX.out.bDrop gv (j:=3) rfl
 simp only [Nat.reduceAdd] at a34 b34
 have a35:=HX.out.aDrop hv (j:=4) rfl
 have b35:=HX.out.bDrop gv (j:=4) rfl
 simp only [Nat.reduceAdd] at a35 b35
 clear hv gv hrv grv
 go_wp2_with fail
 refine (sameInts_any _ _ s.axes _ (R1.out.1) (R1.out.2)).mono ?_
 rintro e w1 ⟨rfl,n1,rfl⟩
 go_wp2_with fail
 refine (sameInts_any _ _ s.perm _ ((rep_drewN R7.out.1 _)) ((rep_drewN R7.out.2 _))).mono ?_
 rintro e w2 ⟨rfl,n2,rfl⟩
 go_wp2_with fail
 refine (sameInts_any _ _ s.kernel _ ((rep_drewN R20.out.1 _)) ((rep_drewN R20.out.2 _))).mono ?_
 rintro e w3 ⟨rfl,n3,rfl⟩
 go_wp2_with fail
 refine (sameInts_any _ _ s.strides _ ((rep_drewN R21.out.1 _)) ((rep_drewN R21.out.2 _))).mono ?_
 rintro e w4 ⟨rfl,n4,rfl⟩
 go_wp2_with fail
 refine (sameInts_any _ _ s.pads _ ((rep_drewN R22.out.1 _)) ((rep_drewN R22.out.2 _))).mono ?_
 rintro e w5 ⟨rfl,n5,rfl⟩
 go_wp2_with fail
 refine (sameInts_any _ _ s.dilations _ ((rep_drewN R23.out.1 _)) ((rep_drewN R23.out.2 _))).mono ?_
 rintro e w6 ⟨rfl,n6,rfl⟩
 go_wp2_with fail
 refine (sameTensor5_any _ _ s.value _ (rep_drewN RV.out.1 _) (rep_drewN RV.out.2 _)).mono ?_
 rintro e w7 ⟨rfl,hb⟩
 have HB:=Lib.hid hb
 clear hb
 go_wp2
 go_ret
 exact ⟨rfl,(below_drewN HX.out.below _).trans (HB.out.mono (by show w.heap.size ≤ W0.heap.size;rw [HX.out.size];omega))⟩
end Go.Proofs.YtgbkhcmbmffljaaDoor
set_option linter.unusedSimpArgs false
namespace Go.Proofs.YtgbkhcmbmffljaaDoor
open Go.RowKit
open Rep (rep)
theorem own_setRow {w:World} {base:Nat} {e:TypeId} {size:Nat} {v:Value} {n:Nat} {xs:List Value} {g:Nat} (h:w.ownsRow base e size v n xs) (hg:∀ k,v.ownBlock = some k→k ≠ g) (cs:Array Value):(w.setRow g cs).ownsRow base e size v n xs :=
 ⟨h.1,h.2.imp id fun ⟨g',cap,cur,hv,hb,hh,r⟩=>⟨g',cap,cur,hv,hb,(heap_setRow_other _ _ _ _ (hg g' (by rw [hv];rfl))).trans hh,r⟩⟩
def zeroNd:List Value:=[.string ⟨#[]⟩,.string ⟨#[]⟩,.slice none 0 0,.slice none 0 0,.slice none 0 0]
theorem zeroNd_zero:(Tryd.prog.info? 36).bind (·.zero) = some (.agg zeroNd.toArray):=by kernel_rfl
structure BoxInv (w:World) (t:TypeId) (cs:List Value) (W:World):Prop where
 below:Below w.heap.size w W
 row:W.heap[w.heap.size]? = some (.cells cs.toArray t (0,0))
section
variable {w W W':World} {t:TypeId} {cs:List Value}
theorem BoxInv.lt (h:BoxInv w t cs W):w.heap.size < W.heap.size:=(Array.getElem?_eq_some_iff.1 h.row).1
theorem BoxInv.next (h:BoxInv w t cs W) (hb:Below W.heap.size W W'):BoxInv w t cs W' :=
 ⟨h.below.trans (hb.mono (by have:=h.lt;omega)),(hb.block _ h.lt).trans h.row⟩
theorem BoxInv.keeps' (h:BoxInv w t cs W) {α:Type} [Rep α] {c:List Value} {a:α} (hr:rep w (old w.heap.size) c a):rep W (old W.heap.size) c a :=
 Rep.more (Rep.keep hr (Keeps.old_below h.below (Nat.le_refl _))) (old_le (by have:=h.lt;omega))
theorem box_start (w:World) (t:TypeId) (cs:List Value):BoxInv w t cs (w.alloc (.cells cs.toArray t)):=⟨(Below.refl _ _).alloc (Nat.le_refl _) _,heap_alloc_new _ _⟩
end
structure GrowInv (w w3:World) (p q x y:Value) (l:List AttrD) (W:World):Prop where
 below:Below w3.heap.size w3 W
 att:∃ v xs,W.heap[w3.heap.size]? = some (.cells ([p,q,x,y,v]:List Value).toArray 36 (0,0))∧W.ownsRow (w3.heap.size + 1) 52 12 v l.length xs∧Chunks W (old w.heap.size) xs l
section
variable {w w3 W W':World} {p q x y:Value} {l:List AttrD}
theorem GrowInv.lt (h:GrowInv w w3 p q x y l W):w3.heap.size < W.heap.size:=let ⟨_,_,h1,_⟩:=h.att;(Array.getElem?_eq_some_iff.1 h1).1
theorem GrowInv.next (h:GrowInv w w3 p q x y l W) (hw:w.heap.size ≤ w3.heap.size) (hb:Below W.heap.size W W'):GrowInv w w3 p q x y l W':=by
 obtain ⟨v,xs,h1,h2,h3⟩:=h.att
 have hl:=h.lt
 exact ⟨h.below.trans (hb.mono (by omega)),v,xs,(hb.block _ hl).trans h1,own_below h2 hb,h3.keep (Keeps.old_below hb (by omega))⟩
theorem GrowInv.grow (h:GrowInv w w3 p q x y l W) (hw:w.heap.size ≤ w3.heap.size) {v v':Value} {xs acs:List Value} {z:AttrD} (hrow:W.heap[w3.heap.size]? = some (.cells ([p,q,x,y,v]:List Value).toArray 36 (0,0)))
  (hc:Chunks W (old w.heap.size) xs l) (hr:rep W (old w.heap.size) acs z) (hb:Below W.heap.size W W' ∨ ∃ r,W.grownBy W' r∧∀ g,r = some g→w3.heap.size + 1 ≤ g)
  (hown:W'.ownsRow (w3.heap.size + 1) 52 12 v' (l.length + 1) (xs++acs)) :
  W'.heap[w3.heap.size]? = some (.cells ([p,q,x,y,v]:List Value).toArray 36 (0,0))∧v'.oneCell' = true∧GrowInv w w3 p q x y (l++[z]) (W'.setRow w3.heap.size (([p,q,x,y,v]:List Value).set 4 v').toArray):=by
 have hlt:=h.lt
 have hb1:Below (w3.heap.size + 1) W W':=by
  rcases hb with hb | ⟨r,hg,hr⟩
  ·exact hb.mono (by omega)
  ·exact (Below.refl _ _).grown hg (by omega) (fun g hg=>hr g hg)
 have hrow':W'.heap[w3.heap.size]? = some (.cells ([p,q,x,y,v]:List Value).toArray 36 (0,0)):=(hb1.block _ (by omega)).trans hrow
 have hone:v'.oneCell' = true:=by
  rcases hown.2 with ⟨hv,h0⟩ | ⟨g,cap,cur,hv,_⟩
  ·omega
  ·rw [hv];rfl
 refine ⟨hrow',hone,?_,v',xs++acs,heap_setRow _ _ _ _ _ hrow',?_,?_⟩
 ·exact below_setRow' (h.below.trans (hb1.mono (by omega))) (Nat.le_refl _) _
 ·rw [List.length_append]
  exact own_setRow hown (fun g hg=>by have:=(hown.lt g hg).1;omega) _
 ·have hk:Keeps (old w.heap.size) W (W'.setRow w3.heap.size (([p,q,x,y,v]:List Value).set 4 v').toArray) :=
   Keeps.old_below (below_setRow' (hb1.mono (by omega)) (Nat.le_refl _) _) hw
  exact (Chunks.keep hk hc).snoc (Rep.keep hr hk)
end
section
variable {P:Program} {md:Region.Mode} {ops:Array Oper} {Q:Exit→Act→World→Prop} {S:World→Prop} {fuel:Nat} {listed:Array Bool} {a:Act} {w:World} {o:Oper}
theorem steps_load_slice {i:Nat} {e:TypeId} (hw:Region.wanted o (yielded ops a.tmps) = true) (ty:TypeId) (x:Operand) (ho:o.op = .load ty x) (b f:Nat) (hx:a.eval x = .pointer (some ⟨b,f,none⟩))
  (v:Value) (hu:P.underlying ty = some (.slice e)) (hc:w.cell? ⟨b,f,none⟩ = some v) (hS:S w)
  (h:wpAnyH P md ops Q S fuel (listed.setIfInBounds i true) (a.put o.dst v) w):StepTo P md ops Q S fuel listed i o a w:=by
 refine ⟨hw,v,w,?_,hS,h⟩
 have hag:(isAgg ty).run P w = .ok false w:=by unfold isAgg;rw [Sem.run_bind,run_underlying hu w];rfl
 unfold execOp
 simp only [ho,hx,Instr.loadAt,Instr.sureAddr,Sem.run_bind,Sem.run_pure,Result.andThen_ok,loadVar,hag]
 simp [hc]
theorem wpList_load_agg_w {rest:List Oper} (hw:Region.wanted o (yielded ops a.tmps) = true) (ty:TypeId) (x:Operand) (ho:o.op = .load ty x)
  (d:TypeDesc) (b f:Nat) (hx:a.eval x = .pointer (some ⟨b,f,none⟩)) (cs:List Value) (hu:P.underlying ty = some d) (hd:(match d with | .struct _ | .array _ _=>true | _=>false) = true)
  (hi:(P.info? ty).map (·.size) = some cs.length) (hc:At w b f cs)
  (h:wpList P ops Q rest (a.put o.dst (.agg cs.toArray)) w):wpList P ops Q (o :: rest) a w :=
 wpList_step fun K hK=>by
  rw [if_pos hw]
  unfold Oper.wp execOp
  simp only [ho,hx,Instr.loadAt,Instr.sureAddr,Sem.run_bind,Sem.run_pure,Result.andThen_ok,run_load_agg w ty d b f cs hu hd hi hc]
  exact hK _ _ h
end
end Go.Proofs.YtgbkhcmbmffljaaDoor
set_option linter.unusedSimpArgs false
set_option linter.unusedVariables false
namespace Go.Proofs.YtgbkhcmbmffljaaDoor
open Go.RowKit
open Rep (rep)
theorem gnode_facts {w:World} {Z:Zone} {cs:List Value} {a:GNodeD} (h:rep w Z cs a):∃ (ss:List Value) (A1:Option Addr) (k1:Nat) (A2:Option Addr) (k2:Nat),
  cs[0]? = some (.int .i64 a.op)∧cs[37]? = some (.slice A1 a.ins.length k1)∧cs[38]? = some (.slice A2 a.outs.length k2)∧cs[39]? = some (.int .i64 a.source) ∧
  SettingDAt w Z ss a.s∧rep w Z [.slice A1 a.ins.length k1] a.ins∧rep w Z [.slice A2 a.outs.length k2] a.outs∧∀ (W:World) (b o:Nat),At W b o cs→At W b (o + 1) ss:=by
 obtain ⟨ss,A1,k1,A2,k2,rfl,-,hs,h1,h2,-⟩:=open_GNodeD h
 have hl:ss.length = 36:=hs.len
 refine ⟨ss,A1,k1,A2,k2,rfl,?_,?_,?_,hs,h1,h2,fun W b o hat=>?_⟩
 ·simp [List.getElem?_append,hl]
 ·simp [List.getElem?_append,hl]
 ·simp [List.getElem?_append,hl]
 ·exact At.part (xs:=[.int .i64 a.op]) (ys:=[.slice A1 a.ins.length k1,.slice A2 a.outs.length k2,.int .i64 a.source]) (by simpa using hat)
theorem gnode_len {w:World} {Z:Zone} {cs:List Value} {a:GNodeD} (h:rep w Z cs a):cs.length = 40:=Rep.len h
def zeroGN:List Value:=[.int .i64 0]++zeroS++[.slice none 0 0,.slice none 0 0,.int .i64 0]
theorem zeroGN_zero:(Tryd.prog.info? 68).bind (·.zero) = some (.agg zeroGN.toArray):=by kernel_rfl
theorem zeroGN_len:zeroGN.length = 40:=by kernel_rfl
theorem node_lay {w:World} {Z:Zone} {cs:List Value} {a:GNodeD} (h:rep w Z cs a):(Tryd.prog.info? 68).map (·.size) = some cs.length∧0 + cs.length ≤ zeroGN.length∧cs.length = zeroGN.length∧∀ u ∈ cs,u.oneCell' = true:=by
 have hl:=gnode_len h
 have hz:=zeroGN_len
 refine ⟨?_,by omega,by omega,Rep.one h⟩
 rw [hl];kernel_rfl
set_option maxRecDepth 100000 in
set_option maxHeartbeats 8000000 in
theorem sameNode_any (c1 c2:List Value) (a:GNodeD) (w:World) (h1:rep w (old w.heap.size) c1 a) (h2:rep w (old w.heap.size) c2 a) :
  Calls Tryd.prog 61 #[.agg c1.toArray,.agg c2.toArray] w (YesBelow w):=by
 obtain ⟨s1,A1,k1,A2,k2,p0,p37,p38,p39,hs1,i1,o1,hat1⟩:=gnode_facts h1
 obtain ⟨s2,B1,m1,B2,m2,q0,q37,q38,q39,hs2,i2,o2,hat2⟩:=gnode_facts h2
 have HP:=Lib.hid (And.intro p0 (And.intro p37 (And.intro p38 p39)))
 have HQ:=Lib.hid (And.intro q0 (And.intro q37 (And.intro q38 q39)))
 have HS:=Lib.hid (And.intro hs1 (And.intro hs2 (And.intro i1 (And.intro i2 (And.intro o1 o2)))))
 have HL:=Lib.hid (And.intro hs1.len hs2.len)
 have HA:=Lib.hid (And.intro hat1 hat2)
 clear h1 h2 p0 p37 p38 p39 q0 q37 q38 q39 hs1 hs2 i1 i2 o1 o2 hat1 hat2
 go_enter Tryd.func61,Tryd.ntmps61
 go_wp2_with (first
  |(with_reducible refine wpList_box_row rfl 68 _ rfl c1 rfl ?_)
  |(with_reducible refine wpList_box_row rfl 68 _ rfl c2 rfl ?_;have hX:=twobox_start w 68 68 c1 c2;generalize World.alloc _ _ = W0 at hX ⊢;have HX:=Lib.hid hX;clear hX;refine halt ?_))
 unfold Halt
 have a0:=HX.out.a HP.out.1
 have b0:=HX.out.b HQ.out.1
 have a37:=HX.out.a HP.out.2.1
 have b37:=HX.out.b HQ.out.2.1
 have a39:=HX.out.a HP.out.2.2.2
 have b39:=HX.out.b HQ.out.2.2.2
 go_wp2_with fail
 refine (sameInts_any _ _ a.ins W0 (HX.out.rep HS.out.2.2.1) (HX.out.rep HS.out.2.2.2.1)).mono ?_
 rintro e w1 ⟨rfl,n1,rfl⟩
 have a38:(W0.drewN n1).cell? _ = _:=HX.out.a HP.out.2.2.1
 have b38:(W0.drewN n1).cell? _ = _:=HX.out.b HQ.out.2.2.1
 clear a0 b0 a37 b37 a39 b39
 go_wp2_with fail
 refine (sameInts_any _ _ a.outs _ (rep_drewN (HX.out.rep HS.out.2.2.2.2.1) n1) (rep_drewN (HX.out.rep HS.out.2.2.2.2.2) n1)).mono ?_
 rintro e w2 ⟨rfl,n2,rfl⟩
 rw [World.drewN_drewN]
 have hA:At (W0.drewN (n1 + n2)) w.heap.size 1 s1:=HA.out.1 _ _ 0 (fun j u hu=>by rw [Nat.zero_add];exact HX.out.a hu)
 have hB:At (W0.drewN (n1 + n2)) (w.heap.size + 1) 1 s2:=HA.out.2 _ _ 0 (fun j u hu=>by rw [Nat.zero_add];exact HX.out.b hu)
 have HAB:=Lib.hid (And.intro hA hB)
 clear hA hB a38 b38
 go_wp2_with (first
  |(with_reducible refine wpList_load_agg_w (by kernel_rfl) 45 _ rfl _ w.heap.size 1 rfl s1 Tryd.underlying45 rfl (by rw [HL.out.1];kernel_rfl) HAB.out.1 ?_)
  |(with_reducible refine wpList_load_agg_w (by kernel_rfl) 45 _ rfl _ (w.heap.size + 1) 1 rfl s2 Tryd.underlying45 rfl (by rw [HL.out.2];kernel_rfl) HAB.out.2 ?_))
 refine (sameSetting_any s1 s2 a.s _ (rep_drewN (HX.out.rep (show rep w (old w.heap.size) s1 a.s from HS.out.1)) _) (rep_drewN (HX.out.rep (show rep w (old w.heap.size) s2 a.s from HS.out.2.1)) _)).mono ?_
 rintro e w3 ⟨rfl,hb⟩
 have HB:=Lib.hid ((below_drewN HX.out.below (n1 + n2)).trans (hb.mono (by have:=HX.out.below.size;simpa using this)))
 clear hb
 go_wp2
 go_ret
 exact ⟨rfl,HB.out⟩
end Go.Proofs.YtgbkhcmbmffljaaDoor
