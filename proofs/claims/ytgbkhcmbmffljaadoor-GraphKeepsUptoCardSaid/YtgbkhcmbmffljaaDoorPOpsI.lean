/-
  A part of the proofs of chapter 08: walks of the package ops. No condition.
-/
/-
  A part of the proofs of chapter 08: walks of the package ops. No condition.
-/
/-
  A part of the proofs of chapter 08: walks of the package ops. No condition.
-/
import Derived.Test.YtgbkhcmbmffljaaDoorPOpsB
import Derived.Test.YtgbkhcmbmffljaaDoorPAid
namespace Go.Proofs.YtgbkhcmbmffljaaDoor
open Go.RowKit
open Rep (rep)
def kindD (n:Int):Int :=
 if n = 102 then 1 else if n = 116 then 3 else if n = 84 ∨ n = 83 then 4 else if n = 70 then 6 else if n = 73 ∨ n = 112 ∨ n = 120 ∨ n = 122 ∨ n = 100 then 7 else 2
set_option maxRecDepth 100000 in
set_option maxHeartbeats 1000000 in
theorem kind_any (nm:ByteArray) (n:Int) (b:Bool) (w:World) :
  Calls Tryd.prog 39 #[.agg #[.string nm,.int .u8 n,.bool b]] w fun e w'=>e = .returned (.int .i64 (kindD n))∧w.alloc (.cells #[.string nm,.int .u8 n,.bool b] 84) = w':=by
 go_enter Tryd.func39,Tryd.ntmps39
 go_wp2
 all_goals (go_ret;refine ⟨?_,rfl⟩;simp_all [kindD])
def outD (lo hi x:Int):Bool:=decide (x < lo ∨ x > hi)
set_option maxRecDepth 100000 in
set_option maxHeartbeats 400000 in
theorem within1_any (x lo hi:Int) (b1 b2:Nat) (w:World) (h1:w.cell? ⟨b1,0,none⟩ = some (.int .i64 lo)) (h2:w.cell? ⟨b2,0,none⟩ = some (.int .i64 hi)) :
  Calls Tryd.prog 106 #[.int .i64 x,.pointer (some ⟨b1,0,none⟩),.pointer (some ⟨b2,0,none⟩)] w fun e w'=>e = .returned (.bool (outD lo hi x))∧w = w':=by
 by_cases h:x < lo
 ·go_enter Tryd.func106,Tryd.ntmps106
  go_wp2
  go_ret
  exact ⟨by simp [outD,h],rfl⟩
 ·by_cases h':hi < x
  ·go_enter Tryd.func106,Tryd.ntmps106
   go_wp2
   go_ret
   exact ⟨by simp [outD,h'],rfl⟩
  ·go_enter Tryd.func106,Tryd.ntmps106
   go_wp2
   go_ret
   refine ⟨?_,rfl⟩
   have:outD lo hi x = false:=by unfold outD;simp;omega
   rw [this];rfl
set_option maxRecDepth 100000 in
set_option maxHeartbeats 400000 in
theorem indexI64_any (l:List Int) (v:Value) (lo hi:Int) (b1 b2:Nat) (w:World) (hr:rep w (old w.heap.size) [v] l) (h1:w.cell? ⟨b1,0,none⟩ = some (.int .i64 lo)) (h2:w.cell? ⟨b2,0,none⟩ = some (.int .i64 hi)) :
  Calls Tryd.prog 123 #[v,.func (.func 106) #[] #[.pointer (some ⟨b1,0,none⟩),.pointer (some ⟨b2,0,none⟩)]] w fun e w'=>e = .returned (.int .i64 (indexFrom (outD lo hi) l 0))∧w = w':=by
 obtain ⟨A,c,xs,rfl,hnc,hcm,_,hl,hch⟩:=open_slice hr
 clear hr
 go_enter Tryd.func123,Tryd.ntmps123
 go_wp2_with fail
 go_loop [8] (fun i=>∃ pre post:List Int,l = pre++post∧i = .int .i64 pre.length∧indexFrom (outD lo hi) l 0 = indexFrom (outD lo hi) post pre.length)
  (fun i=>l.length - (intOf i).toNat)
 case atStart=>exact ⟨[],l,rfl,rfl,rfl⟩
 case round =>
  obtain ⟨pre,post,hpp,rfl,hix⟩:=hrel
  cases post with
  | cons z post =>
   obtain ⟨hz,hlt,hpp',hpl⟩:=split_at hpp
   obtain ⟨b',o,cs,rfl,hbB,⟨rfl,_⟩,hcell⟩:=elem_at hl hch (by decide) hz
   have c0:=(hcell 0 _ rfl).1
   rw [show o + (pre.length * Rep.size Int + 0) = o + pre.length from by simp [Rep.size]] at c0
   have H:=Lib.hid (And.intro hpp' (And.intro hpl hix))
   clear hcell hl hch hpp hpp' hpl hz hix
   cases hd:outD lo hi z with
   | true =>
    have HD:=Lib.hid hd
    clear hd
    go_wp2_with (go_at_call 106;refine (within1_any z lo hi b1 b2 _ h1 h2).mono ?_;rw [HD.out];rintro e w1 ⟨rfl,rfl⟩)
    go_ret
    obtain ⟨_,_,hix⟩:=H.out
    refine ⟨?_,rfl⟩
    rw [hix,indexFrom,HD.out]
    rfl
   | false =>
    have HD:=Lib.hid hd
    clear hd
    go_wp2_with (go_at_call 106;refine (within1_any z lo hi b1 b2 _ h1 h2).mono ?_;rw [HD.out];rintro e w1 ⟨rfl,rfl⟩)
    go_round
    case rel =>
     obtain ⟨hpp',hpl,hix⟩:=H.out
     exact ⟨pre++[z],post,hpp',by rw [hpl];go_num,by rw [hix,indexFrom,HD.out,hpl];rfl⟩
    case measure=>simp [intOf];omega
  | nil =>
   obtain ⟨hge,hpl⟩:=split_end hpp
   have H:=Lib.hid hix
   clear hpl hpp hl hch hix
   go_wp2
   go_ret
   exact ⟨by rw [H.out];rfl,rfl⟩
theorem indexFrom_any {α:Type} (p:α→Bool):∀ (l:List α) (k:Nat),decide (0 ≤ indexFrom p l k) = l.any p
 | [],k=>by simp [indexFrom]
 | a :: l,k=>by
  simp only [indexFrom,List.any_cons]
  split
  ·rename_i h;rw [h];simp
  ·rename_i h;rw [indexFrom_any p l (k + 1)];simp [h]
set_option maxRecDepth 100000 in
set_option maxHeartbeats 400000 in
theorem containsI64_any (l:List Int) (v:Value) (lo hi:Int) (b1 b2:Nat) (w:World) (hr:rep w (old w.heap.size) [v] l) (h1:w.cell? ⟨b1,0,none⟩ = some (.int .i64 lo)) (h2:w.cell? ⟨b2,0,none⟩ = some (.int .i64 hi)) :
  Calls Tryd.prog 105 #[v,.func (.func 106) #[] #[.pointer (some ⟨b1,0,none⟩),.pointer (some ⟨b2,0,none⟩)]] w fun e w'=>e = .returned (.bool (l.any (outD lo hi)))∧w = w':=by
 go_enter Tryd.func105,Tryd.ntmps105
 go_wp2_with fail
 refine (indexI64_any l v lo hi b1 b2 w hr h1 h2).mono ?_
 rintro e w1 ⟨rfl,rfl⟩
 have H:=Lib.hid (indexFrom_any (outD lo hi) l 0)
 generalize indexFrom (outD lo hi) l 0 = k at *
 go_wp2
 go_ret
 exact ⟨by rw [← H.out];rfl,rfl⟩
def withinD (l:List Int) (most lo hi:Int):Bool:=decide ((l.length:Int) ≤ most) && !l.any (outD lo hi)
set_option maxRecDepth 100000 in
set_option maxHeartbeats 400000 in
theorem within_any (l:List Int) (v:Value) (most lo hi:Int) (w:World) (hr:rep w (old w.heap.size) [v] l) :
  Calls Tryd.prog 71 #[v,.int .i64 most,.int .i64 lo,.int .i64 hi] w fun e w'=>e = .returned (.bool (withinD l most lo hi))∧Below w.heap.size w w':=by
 have hr2:rep ((w.alloc (.cells #[.int .i64 lo] 2)).alloc (.cells #[.int .i64 hi] 2)) (old ((w.alloc (.cells #[.int .i64 lo] 2)).alloc (.cells #[.int .i64 hi] 2)).heap.size) [v] l :=
  Rep.more (Rep.keep hr (Keeps.old_below (((Below.refl w.heap.size w).alloc (Nat.le_refl _) _).alloc (by simp) _) (Nat.le_refl _))) (old_le (by simp;omega))
 have HR:=Lib.hid hr2
 have H1:=Lib.hid (cell_new2 w #[.int .i64 lo] 2 (.cells #[.int .i64 hi] 2) 0)
 have h2:=cell_new (w.alloc (.cells #[.int .i64 lo] 2)) #[.int .i64 hi] 2 0
 rw [World.size_alloc] at h2
 have H2:=Lib.hid h2
 clear h2
 obtain ⟨A,c,xs,rfl,hnc,hcm,_,_,_⟩:=open_slice hr
 clear hr hr2
 by_cases h:(l.length:Int) ≤ most
 ·have hd:withinD l most lo hi = !l.any (outD lo hi):=by simp [withinD,h]
  have HD:=Lib.hid hd
  clear hd
  go_enter Tryd.func71,Tryd.ntmps71
  go_wp2_with (go_at_call 105;refine (containsI64_any l _ lo hi _ _ _ HR.out H1.out H2.out).mono ?_;rintro e w1 ⟨rfl,rfl⟩)
  go_ret
  exact ⟨by rw [HD.out];rfl,((Below.refl w.heap.size w).alloc (Nat.le_refl _) _).alloc (by simp) _⟩
 ·have hd:withinD l most lo hi = false:=by simp [withinD,h]
  have HD:=Lib.hid hd
  clear hd
  go_enter Tryd.func71,Tryd.ntmps71
  go_wp2
  go_ret
  exact ⟨by rw [HD.out];rfl,((Below.refl w.heap.size w).alloc (Nat.le_refl _) _).alloc (by simp) _⟩
end Go.Proofs.YtgbkhcmbmffljaaDoor
namespace Go.Proofs.YtgbkhcmbmffljaaDoor
open Go.RowKit
open Rep (rep)
structure ModeD where
 op:Int
 name:ByteArray
 text:ByteArray
 mode:Int
def ModeD.cells (r:ModeD):List Value:=[.int .i64 r.op,.string r.name,.string r.text,.int .i64 r.mode]
theorem ModeD.one (r:ModeD):∀ u ∈ r.cells,u.oneCell' = true:=by
 intro u hu;simp [ModeD.cells] at hu;rcases hu with rfl | rfl | rfl | rfl <;> rfl
instance:Rep ModeD where
 size:=4
 bytes:=48
 rep _ _ cs r:=cs = r.cells
 len:=by rintro w Z cs a rfl;rfl
 one:=by rintro w Z cs a rfl;exact a.one
 keep:=fun h _=>h
 more:=fun h _=>h
def sAutoPad:ByteArray:=⟨#[97,117,116,111,95,112,97,100]⟩
def sReduction:ByteArray:=⟨#[114,101,100,117,99,116,105,111,110]⟩
def sMode:ByteArray:=⟨#[109,111,100,101]⟩
def modesD:List ModeD:=[
 ⟨0,sAutoPad,⟨#[78,79,84,83,69,84]⟩,0⟩,⟨0,sAutoPad,⟨#[86,65,76,73,68]⟩,8⟩,⟨0,sAutoPad,⟨#[83,65,77,69,95,85,80,80,69,82]⟩,9⟩,⟨0,sAutoPad,⟨#[83,65,77,69,95,76,79,87,69,82]⟩,10⟩,
 ⟨0,sReduction,⟨#[110,111,110,101]⟩,0⟩,⟨0,sReduction,⟨#[97,100,100]⟩,4⟩,⟨0,sReduction,⟨#[109,117,108]⟩,5⟩,
 ⟨53,sMode,⟨#[99,111,110,115,116,97,110,116]⟩,1⟩,⟨53,sMode,⟨#[114,101,102,108,101,99,116]⟩,2⟩,⟨53,sMode,⟨#[101,100,103,101]⟩,3⟩,
 ⟨63,sMode,⟨#[68,67,82]⟩,6⟩,⟨63,sMode,⟨#[67,82,68]⟩,7⟩]
def modeFits (op:Int) (name text:ByteArray) (m:ModeD):Bool:=(m.op == 0 || m.op == op) && m.name.toList == name.toList && m.text.toList == text.toList
def modeOfD (op:Int) (name text:ByteArray):Option Int:=(modesD.find? (modeFits op name text)).map (·.mode)
theorem chunks_modes {w:World} {Z:Zone}:∀ (l:List ModeD),Chunks w Z (l.flatMap ModeD.cells) l
 | []=>rfl
 | a :: l=>⟨a.cells,l.flatMap ModeD.cells,rfl,rfl,chunks_modes l⟩
set_option maxRecDepth 100000 in
set_option maxHeartbeats 4000000 in
theorem modeOf_any (op:Int) (name text:ByteArray) (w:World) :
  Calls Tryd.prog 70 #[.int .i64 op,.string name,.string text] w fun e w'=>e = .returned (.tuple #[.int .i64 ((modeOfD op name text).getD 0),.bool (modeOfD op name text).isSome])∧Below w.heap.size w w':=by
 go_enter Tryd.func70,Tryd.ntmps70
 go_wp2_with fail
 have hat:∀ o:Obj,o = .cells (modesD.flatMap ModeD.cells).toArray 155→Lies (w.alloc o) (old (w.heap.size + 1)) (some ⟨w.heap.size,0,none⟩) (modesD.flatMap ModeD.cells)∧Below w.heap.size w (w.alloc o)∧(w.alloc o).heap.size = w.heap.size + 1:=by
  rintro o rfl
  exact ⟨lies_new w _ _,(Below.refl _ _).alloc (Nat.le_refl _) _,by simp⟩
 have HA':=hat _ rfl
 clear hat
 have hlen:modesD.length = 12:=rfl
 change Code.wp _ _ _ _ (w.alloc (.cells (modesD.flatMap ModeD.cells).toArray 155))
 generalize w.alloc (.cells (modesD.flatMap ModeD.cells).toArray 155) = w1 at *
 have HA:=Lib.hid HA'
 clear HA'
 have HL:=Lib.hid hlen
 clear hlen
 go_loopw [24] (fun i wr=>∃ pre post:List ModeD,modesD = pre++post∧i = .int .i64 pre.length∧modeOfD op name text = (post.find? (modeFits op name text)).map (·.mode)∧Below (w.heap.size + 1) w1 wr)
  (fun i _=>12 - (intOf i).toNat)
 case atStart=>exact ⟨[],modesD,rfl,rfl,rfl,Below.refl _ _⟩
 case round =>
  obtain ⟨pre,post,hpp,rfl,hix,hbel⟩:=hrel
  obtain ⟨hli,hb1,hz1⟩:=HA.out
  cases post with
  | cons z post =>
   obtain ⟨hz,hlt,hpp',hpl⟩:=split_at hpp
   rw [HL.out] at hlt
   obtain ⟨b',o,cs,hbo,hbB,hrz,hcell⟩:=elem_at hli (chunks_modes (w:=w1) (Z:=old (w.heap.size + 1)) modesD) (by decide) hz
   have hrz':cs = z.cells:=hrz
   subst hrz'
   obtain ⟨rfl,rfl⟩:w.heap.size = b'∧0 = o:=by simpa using hbo
   have hat:At wr w.heap.size (pre.length * 4) [.int .i64 z.op,.string z.name,.string z.text,.int .i64 z.mode]:=fun j u hu=>(hbel.cell (p:=⟨w.heap.size,pre.length * 4 + j,none⟩) (by simp)).trans (by have:=(hcell j u hu).1;simpa [Rep.size] using this)
   have hsz:=hbel.size
   have H:=Lib.hid (And.intro hpp' (And.intro hpl (And.intro hix (And.intro hbel (And.intro hat (And.intro hb1 hz1))))))
   clear hcell hli hpp hpp' hpl hz hrz hix hbel hat hb1 hz1 hbo hbB
   have hfits:modeFits op name text z = ((z.op == 0 || z.op == op) && z.name.toList == name.toList && z.text.toList == text.toList):=rfl
   have yes:modeFits op name text z = true→modeOfD op name text = some z.mode:=fun h=>by rw [H.out.2.2.1,List.find?_cons,h];rfl
   have no:modeFits op name text z = false→modeOfD op name text = (post.find? (modeFits op name text)).map (·.mode):=fun h=>by rw [H.out.2.2.1,List.find?_cons,h]
   have HY:=Lib.hid (And.intro hfits (And.intro yes no))
   clear hfits yes no
   have fin:∀ w2:World,Below w.heap.size w wr→Below w.heap.size w (wr.alloc (.cells #[.int .i64 z.op,.string z.name,.string z.text,.int .i64 z.mode] 155)):=fun _ h=>h.alloc h.size _
   have HF:=Lib.hid fin
   clear fin
   have hbw:Hid (Below w.heap.size w wr):=H.out.2.2.2.2.2.1.trans (H.out.2.2.2.1.mono (by omega))
   cases e1:(z.op == 0) <;> cases e2:(z.op == op) <;> cases e3:(z.name.toList == name.toList) <;> cases e4:(z.text.toList == text.toList)
   all_goals
    have HE:=Lib.hid (And.intro e1 (And.intro e2 (And.intro e3 e4)))
    go_wp2_with (first | (with_reducible refine wpList_load_agg rfl 155 _ rfl _ _ _ rfl [.int .i64 z.op,.string z.name,.string z.text,.int .i64 z.mode] Tryd.underlying155 rfl (by kernel_rfl) H.out.2.2.2.2.1 ?_))
    first
     |(refine bodyPost_ret (results_tmp2 rfl _ _ _) rfl ?_
       have hy:=HY.out.2.1 (by rw [HY.out.1,HE.out.1,HE.out.2.1,HE.out.2.2.1,HE.out.2.2.2];rfl)
       exact ⟨by rw [hy];rfl,HF.out wr hbw.out⟩)
     |(go_roundw
       case rel =>
        obtain ⟨hpp',hpl,_,hbel,_⟩:=H.out
        have hn:=HY.out.2.2 (by rw [HY.out.1,HE.out.1,HE.out.2.1,HE.out.2.2.1,HE.out.2.2.2];rfl)
        exact ⟨pre++[z],post,hpp',by rw [hpl];go_num,hn,hbel.alloc (by rw [← H.out.2.2.2.2.2.2];exact hsz) _⟩
       case measure=>simp [intOf];omega)
  | nil =>
   obtain ⟨hge,hpl⟩:=split_end hpp
   rw [HL.out] at hge
   have H:=Lib.hid (And.intro hix (hb1.trans (hbel.mono (by omega))))
   clear hix hbel hpp hpl hli hb1 hz1
   go_wp2
   refine bodyPost_ret (results_tmp2 rfl _ _ _) rfl ?_
   exact ⟨by rw [H.out.1];rfl,H.out.2⟩
end Go.Proofs.YtgbkhcmbmffljaaDoor
namespace Go.Proofs.YtgbkhcmbmffljaaDoor
open Go.RowKit
open Rep (rep)
def rangeD (lo hi x:Int):Bool:=decide (lo ≤ x) && decide (x ≤ hi)
def mayD (n:Int) (op:Int) (name:ByteArray) (a:AttrD):Bool :=
 if n = 48 then rangeD 0 0 a.i else if n = 49 then rangeD 1 1 a.i else if n = 98 then rangeD 0 1 a.i else if n = 97 then rangeD (-8) 8 a.i else if n = 115 then rangeD 1 4096 a.i
 else if n = 121 then a.i == 1 || a.i == 7 || a.i == 9
 else if n = 116 then (modeOfD op name a.s).isSome
 else if n = 83 then decide (a.t.f.length + a.t.i.length + a.t.b.length = 1)
 else if n = 70 then decide (a.floats.length ≤ 4096) else if n = 73 then decide (a.ints.length ≤ 4096)
 else if n = 112 then withinD a.ints 8 0 7 else if n = 120 then withinD a.ints 8 (-8) 8 else if n = 122 then withinD a.ints 8 1 4096 else if n = 100 then withinD a.ints 16 0 4096
 else true
set_option maxRecDepth 100000 in
set_option maxHeartbeats 1000000 in
theorem may_48 (nm:ByteArray) (m:Bool) (op:Int) (cs:List Value) (a:AttrD) (w:World) (hr:rep w (old w.heap.size) cs a) :
  Calls Tryd.prog 40 #[.agg #[.string nm,.int .u8 48,.bool m],.int .i64 op,.agg cs.toArray] w fun e w'=>e = .returned (.bool (mayD 48 op nm a))∧Below w.heap.size w w':=by
 obtain ⟨A1,k1,A2,k2,A3,k3,A4,k4,A5,k5,A6,k6,rfl,h0,h1,h2,h3,h4,ht,hf,hi⟩:=open_AttrD hr
 have hb:∀ o1 o2:Obj,Below w.heap.size w ((w.alloc o1).alloc o2):=fun _ _=>((Below.refl w.heap.size w).alloc (Nat.le_refl _) _).alloc (by simp) _
 have HB:=Lib.hid hb
 clear hr h0 h1 h2 h3 h4 ht hf hi hb
 by_cases g1:(0:Int) ≤ a.i
 ·by_cases g2:a.i ≤ 0
  ·have hm:mayD 48 op nm a = true:=by simp [mayD,rangeD,g1,g2]
   rw [hm]
   clear hm
   go_enter Tryd.func40,Tryd.ntmps40
   go_wp2
   go_ret
   exact ⟨rfl,HB.out _ _⟩
  ·have hm:mayD 48 op nm a = false:=by simp [mayD,rangeD,g1,g2]
   rw [hm]
   clear hm
   go_enter Tryd.func40,Tryd.ntmps40
   go_wp2
   go_ret
   exact ⟨rfl,HB.out _ _⟩
 ·have hm:mayD 48 op nm a = false:=by simp [mayD,rangeD,g1]
  rw [hm]
  clear hm
  go_enter Tryd.func40,Tryd.ntmps40
  go_wp2
  go_ret
  exact ⟨rfl,HB.out _ _⟩
set_option maxRecDepth 100000 in
set_option maxHeartbeats 1000000 in
theorem may_49 (nm:ByteArray) (m:Bool) (op:Int) (cs:List Value) (a:AttrD) (w:World) (hr:rep w (old w.heap.size) cs a) :
  Calls Tryd.prog 40 #[.agg #[.string nm,.int .u8 49,.bool m],.int .i64 op,.agg cs.toArray] w fun e w'=>e = .returned (.bool (mayD 49 op nm a))∧Below w.heap.size w w':=by
 obtain ⟨A1,k1,A2,k2,A3,k3,A4,k4,A5,k5,A6,k6,rfl,h0,h1,h2,h3,h4,ht,hf,hi⟩:=open_AttrD hr
 have hb:∀ o1 o2:Obj,Below w.heap.size w ((w.alloc o1).alloc o2):=fun _ _=>((Below.refl w.heap.size w).alloc (Nat.le_refl _) _).alloc (by simp) _
 have HB:=Lib.hid hb
 clear hr h0 h1 h2 h3 h4 ht hf hi hb
 by_cases g1:(1:Int) ≤ a.i
 ·by_cases g2:a.i ≤ 1
  ·have hm:mayD 49 op nm a = true:=by simp [mayD,rangeD,g1,g2]
   rw [hm]
   clear hm
   go_enter Tryd.func40,Tryd.ntmps40
   go_wp2
   go_ret
   exact ⟨rfl,HB.out _ _⟩
  ·have hm:mayD 49 op nm a = false:=by simp [mayD,rangeD,g1,g2]
   rw [hm]
   clear hm
   go_enter Tryd.func40,Tryd.ntmps40
   go_wp2
   go_ret
   exact ⟨rfl,HB.out _ _⟩
 ·have hm:mayD 49 op nm a = false:=by simp [mayD,rangeD,g1]
  rw [hm]
  clear hm
  go_enter Tryd.func40,Tryd.ntmps40
  go_wp2
  go_ret
  exact ⟨rfl,HB.out _ _⟩
set_option maxRecDepth 100000 in
set_option maxHeartbeats 1000000 in
theorem may_98 (nm:ByteArray) (m:Bool) (op:Int) (cs:List Value) (a:AttrD) (w:World) (hr:rep w (old w.heap.size) cs a) :
  Calls Tryd.prog 40 #[.agg #[.string nm,.int .u8 98,.bool m],.int .i64 op,.agg cs.toArray] w fun e w'=>e = .returned (.bool (mayD 98 op nm a))∧Below w.heap.size w w':=by
 obtain ⟨A1,k1,A2,k2,A3,k3,A4,k4,A5,k5,A6,k6,rfl,h0,h1,h2,h3,h4,ht,hf,hi⟩:=open_AttrD hr
 have hb:∀ o1 o2:Obj,Below w.heap.size w ((w.alloc o1).alloc o2):=fun _ _=>((Below.refl w.heap.size w).alloc (Nat.le_refl _) _).alloc (by simp) _
 have HB:=Lib.hid hb
 clear hr h0 h1 h2 h3 h4 ht hf hi hb
 by_cases g1:(0:Int) ≤ a.i
 ·by_cases g2:a.i ≤ 1
  ·have hm:mayD 98 op nm a = true:=by simp [mayD,rangeD,g1,g2]
   rw [hm]
   clear hm
   go_enter Tryd.func40,Tryd.ntmps40
   go_wp2
   go_ret
   exact ⟨rfl,HB.out _ _⟩
  ·have hm:mayD 98 op nm a = false:=by simp [mayD,rangeD,g1,g2]
   rw [hm]
   clear hm
   go_enter Tryd.func40,Tryd.ntmps40
   go_wp2
   go_ret
   exact ⟨rfl,HB.out _ _⟩
 ·have hm:mayD 98 op nm a = false:=by simp [mayD,rangeD,g1]
  rw [hm]
  clear hm
  go_enter Tryd.func40,Tryd.ntmps40
  go_wp2
  go_ret
  exact ⟨rfl,HB.out _ _⟩
set_option maxRecDepth 100000 in
set_option maxHeartbeats 1000000 in
theorem may_97 (nm:ByteArray) (m:Bool) (op:Int) (cs:List Value) (a:AttrD) (w:World) (hr:rep w (old w.heap.size) cs a) :
  Calls Tryd.prog 40 #[.agg #[.string nm,.int .u8 97,.bool m],.int .i64 op,.agg cs.toArray] w fun e w'=>e = .returned (.bool (mayD 97 op nm a))∧Below w.heap.size w w':=by
 obtain ⟨A1,k1,A2,k2,A3,k3,A4,k4,A5,k5,A6,k6,rfl,h0,h1,h2,h3,h4,ht,hf,hi⟩:=open_AttrD hr
 have hb:∀ o1 o2:Obj,Below w.heap.size w ((w.alloc o1).alloc o2):=fun _ _=>((Below.refl w.heap.size w).alloc (Nat.le_refl _) _).alloc (by simp) _
 have HB:=Lib.hid hb
 clear hr h0 h1 h2 h3 h4 ht hf hi hb
 by_cases g1:(-8:Int) ≤ a.i
 ·by_cases g2:a.i ≤ 8
  ·have hm:mayD 97 op nm a = true:=by simp [mayD,rangeD,g1,g2]
   rw [hm]
   clear hm
   go_enter Tryd.func40,Tryd.ntmps40
   go_wp2
   go_ret
   exact ⟨rfl,HB.out _ _⟩
  ·have hm:mayD 97 op nm a = false:=by simp [mayD,rangeD,g1,g2]
   rw [hm]
   clear hm
   go_enter Tryd.func40,Tryd.ntmps40
   go_wp2
   go_ret
   exact ⟨rfl,HB.out _ _⟩
 ·have hm:mayD 97 op nm a = false:=by simp [mayD,rangeD,g1]
  rw [hm]
  clear hm
  go_enter Tryd.func40,Tryd.ntmps40
  go_wp2
  go_ret
  exact ⟨rfl,HB.out _ _⟩
set_option maxRecDepth 100000 in
set_option maxHeartbeats 1000000 in
theorem may_115 (nm:ByteArray) (m:Bool) (op:Int) (cs:List Value) (a:AttrD) (w:World) (hr:rep w (old w.heap.size) cs a) :
  Calls Tryd.prog 40 #[.agg #[.string nm,.int .u8 115,.bool m],.int .i64 op,.agg cs.toArray] w fun e w'=>e = .returned (.bool (mayD 115 op nm a))∧Below w.heap.size w w':=by
 obtain ⟨A1,k1,A2,k2,A3,k3,A4,k4,A5,k5,A6,k6,rfl,h0,h1,h2,h3,h4,ht,hf,hi⟩:=open_AttrD hr
 have hb:∀ o1 o2:Obj,Below w.heap.size w ((w.alloc o1).alloc o2):=fun _ _=>((Below.refl w.heap.size w).alloc (Nat.le_refl _) _).alloc (by simp) _
 have HB:=Lib.hid hb
 clear hr h0 h1 h2 h3 h4 ht hf hi hb
 by_cases g1:(1:Int) ≤ a.i
 ·by_cases g2:a.i ≤ 4096
  ·have hm:mayD 115 op nm a = true:=by simp [mayD,rangeD,g1,g2]
   rw [hm]
   clear hm
   go_enter Tryd.func40,Tryd.ntmps40
   go_wp2
   go_ret
   exact ⟨rfl,HB.out _ _⟩
  ·have hm:mayD 115 op nm a = false:=by simp [mayD,rangeD,g1,g2]
   rw [hm]
   clear hm
   go_enter Tryd.func40,Tryd.ntmps40
   go_wp2
   go_ret
   exact ⟨rfl,HB.out _ _⟩
 ·have hm:mayD 115 op nm a = false:=by simp [mayD,rangeD,g1]
  rw [hm]
  clear hm
  go_enter Tryd.func40,Tryd.ntmps40
  go_wp2
  go_ret
  exact ⟨rfl,HB.out _ _⟩
set_option maxRecDepth 100000 in
set_option maxHeartbeats 1000000 in
theorem may_121 (nm:ByteArray) (m:Bool) (op:Int) (cs:List Value) (a:AttrD) (w:World) (hr:rep w (old w.heap.size) cs a) :
  Calls Tryd.prog 40 #[.agg #[.string nm,.int .u8 121,.bool m],.int .i64 op,.agg cs.toArray] w fun e w'=>e = .returned (.bool (mayD 121 op nm a))∧Below w.heap.size w w':=by
 obtain ⟨A1,k1,A2,k2,A3,k3,A4,k4,A5,k5,A6,k6,rfl,h0,h1,h2,h3,h4,ht,hf,hi⟩:=open_AttrD hr
 have hb:∀ o1 o2:Obj,Below w.heap.size w ((w.alloc o1).alloc o2):=fun _ _=>((Below.refl w.heap.size w).alloc (Nat.le_refl _) _).alloc (by simp) _
 have HB:=Lib.hid hb
 clear hr h0 h1 h2 h3 h4 ht hf hi hb
 cases e1:(a.i == 1) <;> cases e2:(a.i == 7) <;> cases e3:(a.i == 9)
 all_goals
  have hm:mayD 121 op nm a = (a.i == 1 || a.i == 7 || a.i == 9):=rfl
  rw [e1,e2,e3] at hm
  rw [hm]
  clear hm
  go_enter Tryd.func40,Tryd.ntmps40
  go_wp2
  go_ret
  exact ⟨rfl,HB.out _ _⟩
set_option maxRecDepth 100000 in
set_option maxHeartbeats 1000000 in
theorem may_116 (nm:ByteArray) (m:Bool) (op:Int) (cs:List Value) (a:AttrD) (w:World) (hr:rep w (old w.heap.size) cs a) :
  Calls Tryd.prog 40 #[.agg #[.string nm,.int .u8 116,.bool m],.int .i64 op,.agg cs.toArray] w fun e w'=>e = .returned (.bool (mayD 116 op nm a))∧Below w.heap.size w w':=by
 obtain ⟨A1,k1,A2,k2,A3,k3,A4,k4,A5,k5,A6,k6,rfl,h0,h1,h2,h3,h4,ht,hf,hi⟩:=open_AttrD hr
 have hb:∀ o1 o2:Obj,Below w.heap.size w ((w.alloc o1).alloc o2):=fun _ _=>((Below.refl w.heap.size w).alloc (Nat.le_refl _) _).alloc (by simp) _
 have HB:=Lib.hid hb
 clear hr h0 h1 h2 h3 h4 ht hf hi hb
 have hm:mayD 116 op nm a = (modeOfD op nm a.s).isSome:=rfl
 rw [hm]
 clear hm
 go_enter Tryd.func40,Tryd.ntmps40
 go_wp2_with fail
 refine (modeOf_any op nm a.s _).mono ?_
 rintro e w1 ⟨rfl,hb1⟩
 have H1:=Lib.hid hb1
 clear hb1
 go_wp2
 go_ret
 exact ⟨rfl,(HB.out _ _).trans (H1.out.mono (by simp;omega))⟩
set_option maxRecDepth 100000 in
set_option maxHeartbeats 1000000 in
theorem may_83 (nm:ByteArray) (m:Bool) (op:Int) (cs:List Value) (a:AttrD) (w:World) (hr:rep w (old w.heap.size) cs a) :
  Calls Tryd.prog 40 #[.agg #[.string nm,.int .u8 83,.bool m],.int .i64 op,.agg cs.toArray] w fun e w'=>e = .returned (.bool (mayD 83 op nm a))∧Below w.heap.size w w':=by
 obtain ⟨A1,k1,A2,k2,A3,k3,A4,k4,A5,k5,A6,k6,rfl,h0,h1,h2,h3,h4,ht,hf,hi⟩:=open_AttrD hr
 have hb:∀ o1 o2:Obj,Below w.heap.size w ((w.alloc o1).alloc o2):=fun _ _=>((Below.refl w.heap.size w).alloc (Nat.le_refl _) _).alloc (by simp) _
 have HB:=Lib.hid hb
 obtain ⟨_,_,_,_,_,_,_,_,hcs,_,t1,t2,t3,t4⟩:=open_TensorD ht
 simp only [List.cons.injEq,Value.slice.injEq,true_and,and_true] at hcs
 obtain ⟨⟨rfl,rfl⟩,⟨rfl,rfl⟩,⟨rfl,rfl⟩,⟨rfl,rfl⟩⟩:=hcs
 obtain ⟨_,_,_,hv2,_,_,b2,_⟩:=open_slice t2
 obtain ⟨_,_,_,hv3,_,_,b3,_⟩:=open_slice t3
 obtain ⟨_,_,_,hv4,_,_,b4,_⟩:=open_slice t4
 replace b2:a.t.f.length * 4 ≤ 140737488351232:=b2
 replace b3:a.t.i.length * 8 ≤ 140737488351232:=b3
 replace b4:a.t.b.length * 1 ≤ 140737488351232:=b4
 clear hr h0 h1 h2 h3 h4 ht hf hi hb t1 t2 t3 t4 hv2 hv3 hv4
 have hm:mayD 83 op nm a = decide (a.t.f.length + a.t.i.length + a.t.b.length = 1):=rfl
 rw [hm]
 clear hm
 go_enter Tryd.func40,Tryd.ntmps40
 go_wp2
 go_ret
 refine ⟨?_,HB.out _ _⟩
 show Ending.returned (Value.bool ((a.t.f.length:Int) + a.t.i.length + a.t.b.length == 1)) = _
 rw [show ((a.t.f.length:Int) + a.t.i.length + a.t.b.length == 1) = decide (a.t.f.length + a.t.i.length + a.t.b.length = 1) from by rw [Bool.eq_iff_iff];simp;omega]
set_option maxRecDepth 100000 in
set_option maxHeartbeats 1000000 in
theorem may_70 (nm:ByteArray) (m:Bool) (op:Int) (cs:List Value) (a:AttrD) (w:World) (hr:rep w (old w.heap.size) cs a) :
  Calls Tryd.prog 40 #[.agg #[.string nm,.int .u8 70,.bool m],.int .i64 op,.agg cs.toArray] w fun e w'=>e = .returned (.bool (mayD 70 op nm a))∧Below w.heap.size w w':=by
 obtain ⟨A1,k1,A2,k2,A3,k3,A4,k4,A5,k5,A6,k6,rfl,h0,h1,h2,h3,h4,ht,hf,hi⟩:=open_AttrD hr
 have hb:∀ o1 o2:Obj,Below w.heap.size w ((w.alloc o1).alloc o2):=fun _ _=>((Below.refl w.heap.size w).alloc (Nat.le_refl _) _).alloc (by simp) _
 have HB:=Lib.hid hb
 clear hr h0 h1 h2 h3 h4 ht hf hi hb
 by_cases g:a.floats.length ≤ 4096
 ·have hm:mayD 70 op nm a = true:=by simp [mayD,g]
  rw [hm]
  clear hm
  have g':(a.floats.length:Int) ≤ 4096:=by omega
  clear g
  go_enter Tryd.func40,Tryd.ntmps40
  go_wp2
  go_ret
  exact ⟨rfl,HB.out _ _⟩
 ·have hm:mayD 70 op nm a = false:=by simp [mayD,g]
  rw [hm]
  clear hm
  have g':¬ (a.floats.length:Int) ≤ 4096:=by omega
  clear g
  go_enter Tryd.func40,Tryd.ntmps40
  go_wp2
  go_ret
  exact ⟨rfl,HB.out _ _⟩
set_option maxRecDepth 100000 in
set_option maxHeartbeats 1000000 in
theorem may_73 (nm:ByteArray) (m:Bool) (op:Int) (cs:List Value) (a:AttrD) (w:World) (hr:rep w (old w.heap.size) cs a) :
  Calls Tryd.prog 40 #[.agg #[.string nm,.int .u8 73,.bool m],.int .i64 op,.agg cs.toArray] w fun e w'=>e = .returned (.bool (mayD 73 op nm a))∧Below w.heap.size w w':=by
 obtain ⟨A1,k1,A2,k2,A3,k3,A4,k4,A5,k5,A6,k6,rfl,h0,h1,h2,h3,h4,ht,hf,hi⟩:=open_AttrD hr
 have hb:∀ o1 o2:Obj,Below w.heap.size w ((w.alloc o1).alloc o2):=fun _ _=>((Below.refl w.heap.size w).alloc (Nat.le_refl _) _).alloc (by simp) _
 have HB:=Lib.hid hb
 clear hr h0 h1 h2 h3 h4 ht hf hi hb
 by_cases g:a.ints.length ≤ 4096
 ·have hm:mayD 73 op nm a = true:=by simp [mayD,g]
  rw [hm]
  clear hm
  have g':(a.ints.length:Int) ≤ 4096:=by omega
  clear g
  go_enter Tryd.func40,Tryd.ntmps40
  go_wp2
  go_ret
  exact ⟨rfl,HB.out _ _⟩
 ·have hm:mayD 73 op nm a = false:=by simp [mayD,g]
  rw [hm]
  clear hm
  have g':¬ (a.ints.length:Int) ≤ 4096:=by omega
  clear g
  go_enter Tryd.func40,Tryd.ntmps40
  go_wp2
  go_ret
  exact ⟨rfl,HB.out _ _⟩
set_option maxRecDepth 100000 in
set_option maxHeartbeats 1000000 in
theorem may_112 (nm:ByteArray) (m:Bool) (op:Int) (cs:List Value) (a:AttrD) (w:World) (hr:rep w (old w.heap.size) cs a) :
  Calls Tryd.prog 40 #[.agg #[.string nm,.int .u8 112,.bool m],.int .i64 op,.agg cs.toArray] w fun e w'=>e = .returned (.bool (mayD 112 op nm a))∧Below w.heap.size w w':=by
 obtain ⟨A1,k1,A2,k2,A3,k3,A4,k4,A5,k5,A6,k6,rfl,h0,h1,h2,h3,h4,ht,hf,hi⟩:=open_AttrD hr
 have hb:∀ o1 o2:Obj,Below w.heap.size w ((w.alloc o1).alloc o2):=fun _ _=>((Below.refl w.heap.size w).alloc (Nat.le_refl _) _).alloc (by simp) _
 have HB:=Lib.hid hb
 have hi2:∀ o1 o2:Obj,rep ((w.alloc o1).alloc o2) (old ((w.alloc o1).alloc o2).heap.size) [.slice A6 a.ints.length k6] a.ints:=fun o1 o2=>Rep.more (Rep.keep hi (Keeps.old_below (hb o1 o2) (Nat.le_refl _))) (old_le (by simp;omega))
 have HI:=Lib.hid hi2
 clear hr h0 h1 h2 h3 h4 ht hf hi hb hi2
 have hm:mayD 112 op nm a = withinD a.ints 8 0 7:=rfl
 rw [hm]
 clear hm
 go_enter Tryd.func40,Tryd.ntmps40
 go_wp2_with fail
 refine (within_any a.ints _ 8 0 7 _ (HI.out _ _)).mono ?_
 rintro e w1 ⟨rfl,hb1⟩
 have H1:=Lib.hid hb1
 clear hb1
 go_wp2
 go_ret
 exact ⟨rfl,(HB.out _ _).trans (H1.out.mono (by simp;omega))⟩
set_option maxRecDepth 100000 in
set_option maxHeartbeats 1000000 in
theorem may_120 (nm:ByteArray) (m:Bool) (op:Int) (cs:List Value) (a:AttrD) (w:World) (hr:rep w (old w.heap.size) cs a) :
  Calls Tryd.prog 40 #[.agg #[.string nm,.int .u8 120,.bool m],.int .i64 op,.agg cs.toArray] w fun e w'=>e = .returned (.bool (mayD 120 op nm a))∧Below w.heap.size w w':=by
 obtain ⟨A1,k1,A2,k2,A3,k3,A4,k4,A5,k5,A6,k6,rfl,h0,h1,h2,h3,h4,ht,hf,hi⟩:=open_AttrD hr
 have hb:∀ o1 o2:Obj,Below w.heap.size w ((w.alloc o1).alloc o2):=fun _ _=>((Below.refl w.heap.size w).alloc (Nat.le_refl _) _).alloc (by simp) _
 have HB:=Lib.hid hb
 have hi2:∀ o1 o2:Obj,rep ((w.alloc o1).alloc o2) (old ((w.alloc o1).alloc o2).heap.size) [.slice A6 a.ints.length k6] a.ints:=fun o1 o2=>Rep.more (Rep.keep hi (Keeps.old_below (hb o1 o2) (Nat.le_refl _))) (old_le (by simp;omega))
 have HI:=Lib.hid hi2
 clear hr h0 h1 h2 h3 h4 ht hf hi hb hi2
 have hm:mayD 120 op nm a = withinD a.ints 8 (-8) 8:=rfl
 rw [hm]
 clear hm
 go_enter Tryd.func40,Tryd.ntmps40
 go_wp2_with fail
 refine (within_any a.ints _ 8 (-8) 8 _ (HI.out _ _)).mono ?_
 rintro e w1 ⟨rfl,hb1⟩
 have H1:=Lib.hid hb1
 clear hb1
 go_wp2
 go_ret
 exact ⟨rfl,(HB.out _ _).trans (H1.out.mono (by simp;omega))⟩
set_option maxRecDepth 100000 in
set_option maxHeartbeats 1000000 in
theorem may_122 (nm:ByteArray) (m:Bool) (op:Int) (cs:List Value) (a:AttrD) (w:World) (hr:rep w (old w.heap.size) cs a) :
  Calls Tryd.prog 40 #[.agg #[.string nm,.int .u8 122,.bool m],.int .i64 op,.agg cs.toArray] w fun e w'=>e = .returned (.bool (mayD 122 op nm a))∧Below w.heap.size w w':=by
 obtain ⟨A1,k1,A2,k2,A3,k3,A4,k4,A5,k5,A6,k6,rfl,h0,h1,h2,h3,h4,ht,hf,hi⟩:=open_AttrD hr
 have hb:∀ o1 o2:Obj,Below w.heap.size w ((w.alloc o1).alloc o2):=fun _ _=>((Below.refl w.heap.size w).alloc (Nat.le_refl _) _).alloc (by simp) _
 have HB:=Lib.hid hb
 have hi2:∀ o1 o2:Obj,rep ((w.alloc o1).alloc o2) (old ((w.alloc o1).alloc o2).heap.size) [.slice A6 a.ints.length k6] a.ints:=fun o1 o2=>Rep.more (Rep.keep hi (Keeps.old_below (hb o1 o2) (Nat.le_refl _))) (old_le (by simp;omega))
 have HI:=Lib.hid hi2
 clear hr h0 h1 h2 h3 h4 ht hf hi hb hi2
 have hm:mayD 122 op nm a = withinD a.ints 8 1 4096:=rfl
 rw [hm]
 clear hm
 go_enter Tryd.func40,Tryd.ntmps40
 go_wp2_with fail
 refine (within_any a.ints _ 8 1 4096 _ (HI.out _ _)).mono ?_
 rintro e w1 ⟨rfl,hb1⟩
 have H1:=Lib.hid hb1
 clear hb1
 go_wp2
 go_ret
 exact ⟨rfl,(HB.out _ _).trans (H1.out.mono (by simp;omega))⟩
set_option maxRecDepth 100000 in
set_option maxHeartbeats 1000000 in
theorem may_100 (nm:ByteArray) (m:Bool) (op:Int) (cs:List Value) (a:AttrD) (w:World) (hr:rep w (old w.heap.size) cs a) :
  Calls Tryd.prog 40 #[.agg #[.string nm,.int .u8 100,.bool m],.int .i64 op,.agg cs.toArray] w fun e w'=>e = .returned (.bool (mayD 100 op nm a))∧Below w.heap.size w w':=by
 obtain ⟨A1,k1,A2,k2,A3,k3,A4,k4,A5,k5,A6,k6,rfl,h0,h1,h2,h3,h4,ht,hf,hi⟩:=open_AttrD hr
 have hb:∀ o1 o2:Obj,Below w.heap.size w ((w.alloc o1).alloc o2):=fun _ _=>((Below.refl w.heap.size w).alloc (Nat.le_refl _) _).alloc (by simp) _
 have HB:=Lib.hid hb
 have hi2:∀ o1 o2:Obj,rep ((w.alloc o1).alloc o2) (old ((w.alloc o1).alloc o2).heap.size) [.slice A6 a.ints.length k6] a.ints:=fun o1 o2=>Rep.more (Rep.keep hi (Keeps.old_below (hb o1 o2) (Nat.le_refl _))) (old_le (by simp;omega))
 have HI:=Lib.hid hi2
 clear hr h0 h1 h2 h3 h4 ht hf hi hb hi2
 have hm:mayD 100 op nm a = withinD a.ints 16 0 4096:=rfl
 rw [hm]
 clear hm
 go_enter Tryd.func40,Tryd.ntmps40
 go_wp2_with fail
 refine (within_any a.ints _ 16 0 4096 _ (HI.out _ _)).mono ?_
 rintro e w1 ⟨rfl,hb1⟩
 have H1:=Lib.hid hb1
 clear hb1
 go_wp2
 go_ret
 exact ⟨rfl,(HB.out _ _).trans (H1.out.mono (by simp;omega))⟩
set_option maxRecDepth 100000 in
set_option maxHeartbeats 1000000 in
theorem may_102 (nm:ByteArray) (m:Bool) (op:Int) (cs:List Value) (a:AttrD) (w:World) (hr:rep w (old w.heap.size) cs a) :
  Calls Tryd.prog 40 #[.agg #[.string nm,.int .u8 102,.bool m],.int .i64 op,.agg cs.toArray] w fun e w'=>e = .returned (.bool (mayD 102 op nm a))∧Below w.heap.size w w':=by
 obtain ⟨A1,k1,A2,k2,A3,k3,A4,k4,A5,k5,A6,k6,rfl,h0,h1,h2,h3,h4,ht,hf,hi⟩:=open_AttrD hr
 have hb:∀ o1 o2:Obj,Below w.heap.size w ((w.alloc o1).alloc o2):=fun _ _=>((Below.refl w.heap.size w).alloc (Nat.le_refl _) _).alloc (by simp) _
 have HB:=Lib.hid hb
 clear hr h0 h1 h2 h3 h4 ht hf hi hb
 have hm:mayD 102 op nm a = true:=rfl
 rw [hm]
 clear hm
 go_enter Tryd.func40,Tryd.ntmps40
 go_wp2
 go_ret
 exact ⟨rfl,HB.out _ _⟩
set_option maxRecDepth 100000 in
set_option maxHeartbeats 1000000 in
theorem may_105 (nm:ByteArray) (m:Bool) (op:Int) (cs:List Value) (a:AttrD) (w:World) (hr:rep w (old w.heap.size) cs a) :
  Calls Tryd.prog 40 #[.agg #[.string nm,.int .u8 105,.bool m],.int .i64 op,.agg cs.toArray] w fun e w'=>e = .returned (.bool (mayD 105 op nm a))∧Below w.heap.size w w':=by
 obtain ⟨A1,k1,A2,k2,A3,k3,A4,k4,A5,k5,A6,k6,rfl,h0,h1,h2,h3,h4,ht,hf,hi⟩:=open_AttrD hr
 have hb:∀ o1 o2:Obj,Below w.heap.size w ((w.alloc o1).alloc o2):=fun _ _=>((Below.refl w.heap.size w).alloc (Nat.le_refl _) _).alloc (by simp) _
 have HB:=Lib.hid hb
 clear hr h0 h1 h2 h3 h4 ht hf hi hb
 have hm:mayD 105 op nm a = true:=rfl
 rw [hm]
 clear hm
 go_enter Tryd.func40,Tryd.ntmps40
 go_wp2
 go_ret
 exact ⟨rfl,HB.out _ _⟩
set_option maxRecDepth 100000 in
set_option maxHeartbeats 1000000 in
theorem may_84 (nm:ByteArray) (m:Bool) (op:Int) (cs:List Value) (a:AttrD) (w:World) (hr:rep w (old w.heap.size) cs a) :
  Calls Tryd.prog 40 #[.agg #[.string nm,.int .u8 84,.bool m],.int .i64 op,.agg cs.toArray] w fun e w'=>e = .returned (.bool (mayD 84 op nm a))∧Below w.heap.size w w':=by
 obtain ⟨A1,k1,A2,k2,A3,k3,A4,k4,A5,k5,A6,k6,rfl,h0,h1,h2,h3,h4,ht,hf,hi⟩:=open_AttrD hr
 have hb:∀ o1 o2:Obj,Below w.heap.size w ((w.alloc o1).alloc o2):=fun _ _=>((Below.refl w.heap.size w).alloc (Nat.le_refl _) _).alloc (by simp) _
 have HB:=Lib.hid hb
 clear hr h0 h1 h2 h3 h4 ht hf hi hb
 have hm:mayD 84 op nm a = true:=rfl
 rw [hm]
 clear hm
 go_enter Tryd.func40,Tryd.ntmps40
 go_wp2
 go_ret
 exact ⟨rfl,HB.out _ _⟩
def lettersD:List Int:=[48,49,98,97,115,121,116,83,70,73,112,120,122,100,102,105,84]
theorem may_any (n:Int) (hn:n ∈ lettersD) (nm:ByteArray) (m:Bool) (op:Int) (cs:List Value) (a:AttrD) (w:World) (hr:rep w (old w.heap.size) cs a) :
  Calls Tryd.prog 40 #[.agg #[.string nm,.int .u8 n,.bool m],.int .i64 op,.agg cs.toArray] w fun e w'=>e = .returned (.bool (mayD n op nm a))∧Below w.heap.size w w':=by
 simp only [lettersD,List.mem_cons,List.not_mem_nil,or_false] at hn
 rcases hn with rfl | rfl | rfl | rfl | rfl | rfl | rfl | rfl | rfl | rfl | rfl | rfl | rfl | rfl | rfl | rfl | rfl
 ·exact may_48 nm m op cs a w hr
 ·exact may_49 nm m op cs a w hr
 ·exact may_98 nm m op cs a w hr
 ·exact may_97 nm m op cs a w hr
 ·exact may_115 nm m op cs a w hr
 ·exact may_121 nm m op cs a w hr
 ·exact may_116 nm m op cs a w hr
 ·exact may_83 nm m op cs a w hr
 ·exact may_70 nm m op cs a w hr
 ·exact may_73 nm m op cs a w hr
 ·exact may_112 nm m op cs a w hr
 ·exact may_120 nm m op cs a w hr
 ·exact may_122 nm m op cs a w hr
 ·exact may_100 nm m op cs a w hr
 ·exact may_102 nm m op cs a w hr
 ·exact may_105 nm m op cs a w hr
 ·exact may_84 nm m op cs a w hr
end Go.Proofs.YtgbkhcmbmffljaaDoor
