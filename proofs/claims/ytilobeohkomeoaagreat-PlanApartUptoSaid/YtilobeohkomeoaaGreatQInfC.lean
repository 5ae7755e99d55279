/-
  Chapter 04: lists of the call's own that are written; what two shapes come to. No condition.
-/
/-
  Chapter 10: small functions: lists of windows, an axis, numbers, one output, a misfit. No condition.
-/
/-
  Chapter 10: what an input says in numbers; numbers below another; the axis; is the operation whole? No condition.
-/
import Derived.Test.YtilobeohkomeoaaGreatQAxes
import Derived.Test.YtilobeohkomeoaaGreatQGTurn
import Derived.Test.YtilobeohkomeoaaGreatQGNode
import Derived.Test.YtilobeohkomeoaaGreatQAwake
set_option linter.unusedSimpArgs false
set_option linter.unusedVariables false
namespace Go.Proofs.YtilobeohkomeoaaGreat
open Go.RowKit
open Rep (rep)
def Own (W:World) (n:Nat) (A:Option Addr) (k:Nat) (l:List Int):Prop:=rep W (fresh n W.heap.size) [.slice A l.length k] l
theorem Own.get {W:World} {n k:Nat} {A:Option Addr} {l:List Int} (h:Own W n A k l) {j:Nat} {z:Int} (hz:l[j]? = some z):I64 z∧∃ b o,A = some ⟨b,o,none⟩∧n ≤ b∧W.cell? ⟨b,o + j,none⟩ = some (.int .i64 z)∧W.frozen? ⟨b,o + j,none⟩ = false:=by
 obtain ⟨A',c',xs,hv,hnc,hcm,-,hl,hch⟩:=open_slice (α:=Int) h
 simp only [Value.slice.injEq,true_and] at hv
 obtain ⟨rfl,rfl⟩:=hv
 obtain ⟨b,o,xc,rfl,hbB,hrz,hcell⟩:=elem_at hl hch (by decide) hz
 obtain ⟨rfl,hz64⟩:=hrz
 have h0:=hcell 0 _ rfl
 rw [show o + (j * Rep.size Int + 0) = o + j from by simp [Rep.size]] at h0
 exact ⟨hz64,b,o,rfl,hbB.1,h0.1,h0.2 rfl⟩
theorem Own.i64 {W:World} {n k:Nat} {A:Option Addr} {l:List Int} (h:Own W n A k l):∀ x ∈ l,I64 x:=fun x hx=>by
 obtain ⟨j,hj⟩:=List.mem_iff_getElem?.1 hx
 exact (h.get hj).1
theorem Own.set {W:World} {n k b o:Nat} {l:List Int} (h:Own W n (some ⟨b,o,none⟩) k l) {j:Nat} (hj:j < l.length) {x:Int} (hx:I64 x):Own (W.setCell ⟨b,o + j,none⟩ (.int .i64 x)) n (some ⟨b,o,none⟩) k (l.set j x):=by
 have hi:=h.i64
 unfold Own at *
 obtain ⟨A,m,c,xs,h1,h2,h3,h4,h5,h6,h7⟩:=h
 simp only [List.cons.injEq,Value.slice.injEq,and_true] at h1
 obtain ⟨rfl,rfl,rfl⟩:=h1
 have e:=chunks_ints h7
 subst e
 have h6':=h6.set_at (j:=j) (by rw [List.length_map];exact hj) (.int .i64 x)
 rw [← List.map_set] at h6'
 rw [show (W.setCell ⟨b,o + j,none⟩ (.int .i64 x)).heap.size = W.heap.size by simp [World.setCell]]
 refine ⟨_,_,_,_,rfl,by simp,by rw [List.length_set];exact h3,h4,by simpa using h5,h6',?_⟩
 refine chunks_of_ints _ fun y hy=>?_
 rcases List.mem_or_eq_of_mem_set hy with h | rfl
 ·exact hi y h
 ·exact hx
theorem Own.keep {W W':World} {n k:Nat} {A:Option Addr} {l:List Int} (h:Own W n A k l) (hb:Below W.heap.size W W'):Own W' n A k l:=by
 unfold Own at *
 exact Rep.more (Rep.keep h (.of_below hb fun _ h=>h.2)) ⟨fun b h=>⟨h.1,Nat.lt_of_lt_of_le h.2 hb.size⟩,fun h=>h⟩
theorem Own.rep {W:World} {n k:Nat} {A:Option Addr} {l:List Int} (h:Own W n A k l):rep W (old W.heap.size) [.slice A l.length k] l:=Rep.more h ⟨fun b h=>h.2,fun h=>by cases h⟩
theorem own_of {W:World} {n:Nat} {v:Value} {l:List Int} (h:Rep.rep W (fresh n W.heap.size) [v] l):∃ A k,v = .slice A l.length k∧Own W n A k l:=by
 obtain ⟨A,k,e⟩:=slice_form h
 injection e with e
 subst e
 exact ⟨A,k,rfl,h⟩
theorem Own.more {W:World} {n n' k:Nat} {A:Option Addr} {l:List Int} (h:Own W n A k l) (hn:n' ≤ n):Own W n' A k l:=Rep.more h ⟨fun b h=>⟨Nat.le_trans hn h.1,h.2⟩,fun h=>h⟩
structure OwnR (W:World) (n:Nat) (A:Option Addr) (k:Nat) (l:List Int):Prop where
 own:Own W n A k l
 row:W.ownsRow n 3 1 (.slice A l.length k) l.length (l.map (Value.int .i64))
theorem OwnR.get {W:World} {n k:Nat} {A:Option Addr} {l:List Int} (h:OwnR W n A k l) {j:Nat} {z:Int} (hz:l[j]? = some z):I64 z∧∃ b o,A = some ⟨b,o,none⟩∧n ≤ b∧W.cell? ⟨b,o + j,none⟩ = some (.int .i64 z)∧W.frozen? ⟨b,o + j,none⟩ = false:=h.own.get hz
theorem OwnR.rep {W:World} {n k:Nat} {A:Option Addr} {l:List Int} (h:OwnR W n A k l):rep W (old W.heap.size) [.slice A l.length k] l:=h.own.rep
theorem OwnR.keep {W W':World} {n k:Nat} {A:Option Addr} {l:List Int} (h:OwnR W n A k l) (hb:Below W.heap.size W W'):OwnR W' n A k l :=
 ⟨h.own.keep hb,h.row.kept (row:=none) ⟨hb.os,hb.tape,hb.output,hb.size,fun k hk _=>hb.block k hk⟩ (by cases hv:(Value.slice A l.length k).ownBlock <;> simp)⟩
theorem OwnR.more {W:World} {n n' k:Nat} {A:Option Addr} {l:List Int} (h:OwnR W n A k l) (hn:n' ≤ n):OwnR W n' A k l :=
 ⟨h.own.more hn,h.row.1,h.row.2.imp id fun ⟨g,cap,cur,h1,h2,h3⟩=>⟨g,cap,cur,h1,Nat.le_trans hn h2,h3⟩⟩
theorem OwnR.set {W:World} {n k b o:Nat} {l:List Int} (h:OwnR W n (some ⟨b,o,none⟩) k l) {j:Nat} (hj:j < l.length) {x:Int} (hx:I64 x):OwnR (W.setCell ⟨b,o + j,none⟩ (.int .i64 x)) n (some ⟨b,o,none⟩) k (l.set j x):=by
 refine ⟨h.own.set hj hx,by simp,.inr ?_⟩
 rcases h.row.2 with ⟨hv,-⟩ | ⟨g,cap,cur,hv,hb,hg,hc,hm,hs,ht⟩
 ·cases hv
 ·simp only [Value.slice.injEq,Option.some.injEq,Addr.mk.injEq] at hv
  obtain ⟨⟨rfl,rfl,-⟩,-,rfl⟩:=hv
  refine ⟨b,k,cur.setIfInBounds (0 + j) (.int .i64 x),by simp,hb,?_,by simpa using hc,hm,by simpa using hs,?_⟩
  ·rw [set_as_row hg]
   exact heap_setRow _ _ _ _ _ hg
  ·rw [Array.toList_setIfInBounds,List.length_set,List.take_set,ht,Nat.zero_add,List.map_set]
set_option maxRecDepth 100000 in
set_option maxHeartbeats 2000000 in
theorem clone_own (l:List Int) (v:Value) (w:World) (hr:rep w (old w.heap.size) [v] l) :
  Calls Tryz.prog 22 #[v] w fun e w'=>∃ A k,e = .returned (.slice A l.length k)∧OwnR w' w.heap.size A k l∧Below w.heap.size w w':=by
 obtain ⟨i0,hi0,hz0,hz1,hz2⟩:=info_parts info_ints
 have q:∀ (w:World) (a:Option Addr) (n c n' c':Nat),(binOp .eql 24 (.slice a n c) (.slice none n' c')).run Tryz.prog w = .ok (.bool a.isNone) w:=fun w a n c n' c'=>Lib.run_eql_slice_nil w _ _ a n c n' c' Tryz.underlying24
 obtain ⟨A,c,xs,rfl,hnc,hcm,hb,hl,hch⟩:=open_slice hr
 replace hb:l.length * 8 ≤ 140737488351232:=hb
 cases A with
 | none =>
  have hxs:xs = []:=Classical.byContradiction fun hne=>by
   obtain ⟨b,o,hA,_⟩:=hl hne
   cases hA
  have hl0:l = []:=by
   have:=hch.len
   rw [hxs] at this
   have h2:0 = l.length * 1:=this
   exact List.eq_nil_of_length_eq_zero (by omega)
  subst hl0
  clear hr hl hch hb hnc hcm hxs
  go_enter Tryz.func22,Tryz.ntmps22
  go_wp2
  go_ret
  exact ⟨none,0,rfl,⟨rep_nil _ _,World.ownsRow_nil _ _ _ _⟩,Below.refl _ _⟩
 | some ad =>
  have hn1:=hch.len
  replace hn1:xs.length = l.length * 1:=hn1
  have H:=Lib.hid (And.intro hch (And.intro hn1 hch.one))
  have hl2:∀ o:Obj,Lies (w.alloc o) (old w.heap.size) (some ad) xs:=fun o=>hl.keep (Keeps.old_below ((Below.refl _ _).alloc (Nat.le_refl _) o) (Nat.le_refl _))
  have HL:=Lib.hid hl2
  have hbz:l.length ≤ 140737488351232:=by omega
  clear hr hl hch hl2 hn1 hnc hcm
  go_enter Tryz.func22,Tryz.ntmps22
  go_wp2_with (at_builtin;refine wpList_append_lies _ rfl _ _ 24 rfl w.heap.size 3 i0 _ 1 8 Tryz.underlying24 hi0 hz0 hz1 hz2 rfl (by decide) _ 0 [] rfl (World.ownsRow_made w #[] 0 (Nat.le_refl _) (Nat.zero_le _) rfl) _ _ _ _ _ rfl H.out.2.1 (HL.out _) H.out.2.2 ?c3 ?c4 ?c5 ?_)
  case c3=>unfold maxLen;omega
  case c4=>omega
  case c5=>simp
  intro v' w1 hown' hgrow hat
  have HX:=Lib.hid (And.intro hown' (And.intro hgrow hat))
  clear hown' hgrow hat
  go_wp2
  go_ret
  obtain ⟨hown,hgrow,hat⟩:=HX.out
  have hbel:Below w.heap.size w w1:=((Below.refl _ w).alloc (Nat.le_refl _) _).grown hgrow (by simp) (by intro k hk;simp [Value.ownBlock] at hk;omega)
  have hr2:rep w1 (fresh w.heap.size w1.heap.size) [v'] l:=rep_of_own hown (Chunks.any H.out.1) hb (fun g _ h1 h2=>⟨h1,h2⟩)
  obtain ⟨A',k',rfl,ho⟩:=own_of hr2
  have hx:xs = l.map (Value.int .i64):=chunks_ints H.out.1
  rw [hx] at hown
  exact ⟨A',k',rfl,⟨ho,by simpa using hown⟩,hbel⟩
def BcastP (l m:List Int) (w:World) (e:Ending) (w':World):Prop:=∃ (A:Option Addr) (k:Nat) (x:Int) (out:List Int),e = .returned (.tuple #[.slice A out.length k,.int .i64 x])∧I64 x∧Below w.heap.size w w'∧OwnR w' w.heap.size A k out ∧
 (x = 0→(sizeD out).2 = 0∧out.length = max l.length m.length)∧(l = m→(sizeD l).2 = 0→x = 0∧out = l)
theorem bcast_bad {l m:List Int} {x:Int} {w w':World} (h:Below w.heap.size w w') (hx:I64 x) (h0:x ≠ 0) (hl:l = m→(sizeD l).2 = 0→False):BcastP l m w (.returned (.tuple #[.slice none 0 0,.int .i64 x])) w' :=
 ⟨none,0,x,[],rfl,hx,h,⟨rep_nil _ _,World.ownsRow_nil _ _ _ _⟩,fun e=>absurd e h0,fun e h1=>(hl e h1).elim⟩
theorem mulD_bd:∀ {l:List Int} {n m:Int},(1 ≤ n∧n ≤ 4096)→(∀ d ∈ l,1 ≤ d)→mulD n l = some m→1 ≤ m∧m ≤ 4096
 | [],n,m,hn,_,h=>by
  unfold mulD at h
  injection h with h
  exact h ▸ hn
 | d :: l,n,m,hn,hl,h=>by
  unfold mulD at h
  split at h
  ·cases h
  ·rename_i hd
   exact mulD_bd (mul_next hn.1 hn.2 (hl d List.mem_cons_self) hd) (fun x hx=>hl x (List.mem_cons_of_mem _ hx)) h
theorem size_bd (l:List Int):0 ≤ (sizeD l).1∧(sizeD l).1 ≤ 4096∧0 ≤ (sizeD l).2∧(sizeD l).2 ≤ 4:=by
 unfold sizeD
 split
 ·simp
 ·split
  ·simp
  ·split
   ·simp
   ·rename_i h1 h2 h3
    cases hm:mulD 1 l with
    | none=>simp
    | some n =>
     have:=mulD_bd (l:=l) (by omega) (fun d hd=>(mul_start l (by simpa using h1) (Bool.eq_false_iff.2 fun h=>h2 (.inr h)) (by simpa using h3) d hd).1) hm
     simp only
     omega
theorem size_i64 (l:List Int):I64 (sizeD l).1∧I64 (sizeD l).2:=by
 have:=size_bd l
 unfold I64
 omega
set_option maxRecDepth 100000 in
set_option maxHeartbeats 8000000 in
theorem bcast_any (l m:List Int) (A B:Option Addr) (k j:Nat) (w:World) (h1:rep w (old w.heap.size) [.slice A l.length k] l) (h2:rep w (old w.heap.size) [.slice B m.length j] m) :
  Calls Tryz.prog 99 #[.slice A l.length k,.slice B m.length j] w (BcastP l m w):=by
 obtain ⟨nb,nb'⟩:=slice_bnd h1
 obtain ⟨mb,mb'⟩:=slice_bnd h2
 have HR:=Lib.hid (And.intro h1 h2)
 clear h1 h2
 go_enter Tryz.func99,Tryz.ntmps99
 go_wp2_with fail
 have hb0:Below w.heap.size w (w.alloc (.cells #[.slice A l.length k,.slice B m.length j] 24)):=(Below.refl _ _).alloc (Nat.le_refl _) _
 have hc0:(w.alloc (.cells #[.slice A l.length k,.slice B m.length j] 24)).cell? ⟨w.heap.size,0,none⟩ = some (.slice A l.length k):=cell_of_row _ _ _ _ _ _ (heap_alloc_new _ _)
 have hc1:(w.alloc (.cells #[.slice A l.length k,.slice B m.length j] 24)).cell? ⟨w.heap.size,1,none⟩ = some (.slice B m.length j):=cell_of_row _ _ _ _ _ _ (heap_alloc_new _ _)
 have hsz:w.heap.size ≤ (w.alloc (.cells #[.slice A l.length k,.slice B m.length j] 24)).heap.size:=hb0.size
 have r1:=Rep.more (Rep.keep HR.out.1 (Keeps.old_below hb0 (Nat.le_refl _))) (old_le hsz)
 have r2:=Rep.more (Rep.keep HR.out.2 (Keeps.old_below hb0 (Nat.le_refl _))) (old_le hsz)
 generalize World.alloc _ _ = W1 at hb0 hc0 hc1 hsz r1 r2 ⊢
 have H1:=Lib.hid (And.intro hb0 (And.intro hsz (And.intro r1 (And.intro r2 (And.intro hc0 hc1)))))
 clear hb0 hsz r1 r2 hc0 hc1
 go_loopw [21] (fun i wr=>∃ c:Nat,i = .int .i64 (c:Int)∧c ≤ 2∧wr = W1∧(1 ≤ c→(sizeD l).2 = 0)∧(2 ≤ c→(sizeD m).2 = 0)) (fun i _=>2 - (intOf i).toNat)
 case atStart=>exact ⟨0,rfl,by omega,rfl,by omega,by omega⟩
 case round =>
  obtain ⟨c,rfl,hc2,rfl,ha,hb⟩:=hrel
  have HS:=Lib.hid (And.intro ha hb)
  clear ha hb
  rcases (show c = 0 ∨ c = 1 ∨ c = 2 by omega) with rfl | rfl | rfl
  ·have hc0:=H1.out.2.2.2.2.1
   go_wp2_with fail
   refine (size_any l A k wr H1.out.2.2.1).mono ?_
   rintro e w1 ⟨rfl,rfl⟩
   by_cases hz:(sizeD l).2 = 0
   ·have HZ:=Lib.hid hz
    rw [hz]
    clear hz
    go_wp2
    go_roundw
    case rel=>exact ⟨1,by go_num,by omega,trivial,fun _=>HZ.out,by omega⟩
    case measure=>simp [intOf]
   ·have HZ:=Lib.hid hz
    have hI:=(size_i64 l).2
    have HI:=Lib.hid hI
    clear hI
    generalize hx:(sizeD l).2 = x at HZ HI hz ⊢
    have HX:=Lib.hid hx
    clear hx
    go_wp2
    go_ret2
    exact bcast_bad H1.out.1 HI.out HZ.out (fun _ h=>HZ.out (by rw [← HX.out];exact h))
  ·have hc1:=H1.out.2.2.2.2.2
   go_wp2_with fail
   refine (size_any m B j wr H1.out.2.2.2.1).mono ?_
   rintro e w1 ⟨rfl,rfl⟩
   by_cases hz:(sizeD m).2 = 0
   ·have HZ:=Lib.hid hz
    rw [hz]
    clear hz
    go_wp2
    go_roundw
    case rel=>exact ⟨2,by go_num,by omega,trivial,fun _=>HS.out.1 (by omega),fun _=>HZ.out⟩
    case measure=>simp [intOf]
   ·have HZ:=Lib.hid hz
    have hI:=(size_i64 m).2
    have HI:=Lib.hid hI
    clear hI
    generalize hx:(sizeD m).2 = x at HZ HI hz ⊢
    have HX:=Lib.hid hx
    clear hx
    go_wp2
    go_ret2
    exact bcast_bad H1.out.1 HI.out HZ.out (fun e h=>HZ.out (by rw [← HX.out,← e];exact h))
  ·have HZ:=Lib.hid (And.intro (HS.out.1 (by omega)) (HS.out.2 (by omega)))
   clear HS
   by_cases hlt:l.length < m.length
   ·have hlt':(l.length:Int) < (m.length:Int):=by omega
    go_wp2_with fail
    refine (clone_own m _ _ H1.out.2.2.2.1).mono ?_
    rintro e w2 ⟨C,c,rfl,ho,hb⟩
    have HO:=Lib.hid (And.intro (H1.out.1.trans (hb.mono H1.out.2.1)) (ho.more H1.out.2.1))
    obtain ⟨d,hd⟩:∃ d:Nat,(m.length:Int) - (l.length:Int) = (d:Int):=⟨m.length - l.length,by omega⟩
    have HD:=Lib.hid hd
    clear hb ho
    go_wp2_with fail
    clear hd
    go_loopw [50] (fun i wr=>∃ (pre post out:List Int),l = pre++post∧i = .int .i64 pre.length∧Below w.heap.size w wr∧OwnR wr w.heap.size C c out∧out.length = m.length∧(m = l→out = m)) (fun i _=>l.length - (intOf i).toNat)
    case atStart=>exact ⟨[],l,m,rfl,rfl,HO.out.1,HO.out.2,rfl,fun _=>rfl⟩
    case round =>
     obtain ⟨pre,post,out,hpp,rfl,hbe,how,hol,hxy⟩:=hrel
     have HI:=Lib.hid (And.intro hbe (And.intro how (And.intro hol hxy)))
     clear hbe how hol hxy
     cases post with
     | cons z post =>
      obtain ⟨hz,hly,hpp',hpl⟩:=split_at hpp
      obtain ⟨z64,b,o,rfl,hzb,kz⟩:=int_at HR.out.1 hz
      have kz':wr.cell? ⟨b,o + pre.length,none⟩ = some (.int .i64 z):=(HI.out.1.cell (p:=⟨b,o + pre.length,none⟩) hzb).trans kz
      have hp:d + pre.length < out.length:=by have:=HI.out.2.2.1;have:=HD.out;omega
      obtain ⟨u,hu⟩:∃ u,out[d + pre.length]? = some u:=⟨_,List.getElem?_eq_getElem hp⟩
      obtain ⟨u64,b2,o2,rfl,hb2,ku,fu⟩:=HI.out.2.1.get hu
      have H:=Lib.hid (And.intro hpp' (And.intro hpl (And.intro hz (And.intro hp (And.intro hu (And.intro z64 hb2))))))
      have hk0:(0:Int) ≤ (pre.length:Int):=Int.natCast_nonneg _
      have hk1:(pre.length:Int) < (l.length:Int):=by omega
      have hk2:(0:Int) ≤ (d:Int) + (pre.length:Int):=by omega
      have hk3:(d:Int) + (pre.length:Int) < (m.length:Int):=by have:=HI.out.2.2.1;omega
      have hk4:((d:Int) + (pre.length:Int)).toNat = d + pre.length:=by omega
      have hE:m = l→z = u:=fun e=>by
       have h1:=HI.out.2.2.2 e
       have h2:d = 0:=by have h3:=HD.out;rw [e] at h3;omega
       rw [h1,h2,Nat.zero_add,e,hz] at hu
       injection hu
      have HE:=Lib.hid hE
      clear hpp hpp' hpl hz kz hp hu hE
      by_cases hu1:u = 1
      ·subst hu1
       go_wp2
       go_roundw
       case rel =>
        obtain ⟨hpp',hpl,hz,hp,hu,-,-⟩:=H.out
        refine ⟨pre++[z],post,out.set (d + pre.length) z,hpp',by rw [hpl];go_num,HI.out.1.setCell hb2 _,HI.out.2.1.set hp z64,by rw [List.length_set];exact HI.out.2.2.1,fun e=>?_⟩
        rw [HE.out e,← List.getElem_of_getElem? hu |>.2,List.set_getElem_self]
        exact HI.out.2.2.2 e
       case measure=>simp [intOf];omega
      ·by_cases hz1:z = 1
       ·subst hz1
        go_wp2
        go_roundw
        case rel=>exact ⟨pre++[1],post,out,H.out.1,by rw [H.out.2.1];go_num,HI.out.1,HI.out.2.1,HI.out.2.2.1,HI.out.2.2.2⟩
        case measure=>simp [intOf];omega
       ·by_cases hzu:z = u
        ·subst hzu
         go_wp2
         go_roundw
         case rel=>exact ⟨pre++[z],post,out,H.out.1,by rw [H.out.2.1];go_num,HI.out.1,HI.out.2.1,HI.out.2.2.1,HI.out.2.2.2⟩
         case measure=>simp [intOf];omega
        ·have HZU:=Lib.hid hzu
         have hz1':(z != 1) = true:=by simpa using hz1
         have hzu':(z != u) = true:=by simpa using hzu
         go_wp2
         go_ret2
         exact bcast_bad HI.out.1 (by unfold I64;omega) (by omega) (fun e _=>HZU.out (HE.out e.symm))
     | nil =>
      obtain ⟨hge,hpl⟩:=split_end hpp
      clear hpp hpl
      go_wp2_with fail
      have hl:=HI.out.2.2.1
      rw [← hl]
      refine (size_any out C c wr HI.out.2.1.rep).mono ?_
      rintro e w3 ⟨rfl,rfl⟩
      by_cases hs:(sizeD out).2 = 0
      ·have HS:=Lib.hid hs
       rw [hs]
       clear hs
       go_wp2
       go_ret2
       refine ⟨C,c,0,out,by rw [← hl];rfl,by unfold I64;omega,HI.out.1,HI.out.2.1,fun _=>⟨HS.out,by omega⟩,fun e _=>⟨rfl,?_⟩⟩
       exact (HI.out.2.2.2 e.symm).trans e.symm
      ·have HI4:=Lib.hid (size_i64 out).2
       have HZ:=Lib.hid hs
       generalize hx:(sizeD out).2 = x at HZ HI4 hs ⊢
       have HX:=Lib.hid hx
       clear hx
       go_wp2
       go_ret2
       refine bcast_bad HI.out.1 HI4.out HZ.out (fun e h=>HZ.out ?_)
       rw [← HX.out,show out = l from (HI.out.2.2.2 e.symm).trans e.symm]
       exact h
   ·have hlt':¬ (l.length:Int) < (m.length:Int):=by omega
    go_wp2_with fail
    refine (clone_own l _ _ H1.out.2.2.1).mono ?_
    rintro e w2 ⟨C,c,rfl,ho,hb⟩
    have HO:=Lib.hid (And.intro (H1.out.1.trans (hb.mono H1.out.2.1)) (ho.more H1.out.2.1))
    obtain ⟨d,hd⟩:∃ d:Nat,(l.length:Int) - (m.length:Int) = (d:Int):=⟨l.length - m.length,by omega⟩
    have HD:=Lib.hid hd
    clear hb ho
    go_wp2_with fail
    clear hd
    go_loopw [50] (fun i wr=>∃ (pre post out:List Int),m = pre++post∧i = .int .i64 pre.length∧Below w.heap.size w wr∧OwnR wr w.heap.size C c out∧out.length = l.length∧(l = m→out = l)) (fun i _=>m.length - (intOf i).toNat)
    case atStart=>exact ⟨[],m,l,rfl,rfl,HO.out.1,HO.out.2,rfl,fun _=>rfl⟩
    case round =>
     obtain ⟨pre,post,out,hpp,rfl,hbe,how,hol,hxy⟩:=hrel
     have HI:=Lib.hid (And.intro hbe (And.intro how (And.intro hol hxy)))
     clear hbe how hol hxy
     cases post with
     | cons z post =>
      obtain ⟨hz,hly,hpp',hpl⟩:=split_at hpp
      obtain ⟨z64,b,o,rfl,hzb,kz⟩:=int_at HR.out.2 hz
      have kz':wr.cell? ⟨b,o + pre.length,none⟩ = some (.int .i64 z):=(HI.out.1.cell (p:=⟨b,o + pre.length,none⟩) hzb).trans kz
      have hp:d + pre.length < out.length:=by have:=HI.out.2.2.1;have:=HD.out;omega
      obtain ⟨u,hu⟩:∃ u,out[d + pre.length]? = some u:=⟨_,List.getElem?_eq_getElem hp⟩
      obtain ⟨u64,b2,o2,rfl,hb2,ku,fu⟩:=HI.out.2.1.get hu
      have H:=Lib.hid (And.intro hpp' (And.intro hpl (And.intro hz (And.intro hp (And.intro hu (And.intro z64 hb2))))))
      have hk0:(0:Int) ≤ (pre.length:Int):=Int.natCast_nonneg _
      have hk1:(pre.length:Int) < (m.length:Int):=by omega
      have hk2:(0:Int) ≤ (d:Int) + (pre.length:Int):=by omega
      have hk3:(d:Int) + (pre.length:Int) < (l.length:Int):=by have:=HI.out.2.2.1;omega
      have hk4:((d:Int) + (pre.length:Int)).toNat = d + pre.length:=by omega
      have hE:l = m→z = u:=fun e=>by
       have h1:=HI.out.2.2.2 e
       have h2:d = 0:=by have h3:=HD.out;rw [e] at h3;omega
       rw [h1,h2,Nat.zero_add,e,hz] at hu
       injection hu
      have HE:=Lib.hid hE
      clear hpp hpp' hpl hz kz hp hu hE
      by_cases hu1:u = 1
      ·subst hu1
       go_wp2
       go_roundw
       case rel =>
        obtain ⟨hpp',hpl,hz,hp,hu,-,-⟩:=H.out
        refine ⟨pre++[z],post,out.set (d + pre.length) z,hpp',by rw [hpl];go_num,HI.out.1.setCell hb2 _,HI.out.2.1.set hp z64,by rw [List.length_set];exact HI.out.2.2.1,fun e=>?_⟩
        rw [HE.out e,← List.getElem_of_getElem? hu |>.2,List.set_getElem_self]
        exact HI.out.2.2.2 e
       case measure=>simp [intOf];omega
      ·by_cases hz1:z = 1
       ·subst hz1
        go_wp2
        go_roundw
        case rel=>exact ⟨pre++[1],post,out,H.out.1,by rw [H.out.2.1];go_num,HI.out.1,HI.out.2.1,HI.out.2.2.1,HI.out.2.2.2⟩
        case measure=>simp [intOf];omega
       ·by_cases hzu:z = u
        ·subst hzu
         go_wp2
         go_roundw
         case rel=>exact ⟨pre++[z],post,out,H.out.1,by rw [H.out.2.1];go_num,HI.out.1,HI.out.2.1,HI.out.2.2.1,HI.out.2.2.2⟩
         case measure=>simp [intOf];omega
        ·have HZU:=Lib.hid hzu
         have hz1':(z != 1) = true:=by simpa using hz1
         have hzu':(z != u) = true:=by simpa using hzu
         go_wp2
         go_ret2
         exact bcast_bad HI.out.1 (by unfold I64;omega) (by omega) (fun e _=>HZU.out (HE.out e))
     | nil =>
      obtain ⟨hge,hpl⟩:=split_end hpp
      clear hpp hpl
      go_wp2_with fail
      have hl:=HI.out.2.2.1
      rw [← hl]
      refine (size_any out C c wr HI.out.2.1.rep).mono ?_
      rintro e w3 ⟨rfl,rfl⟩
      by_cases hs:(sizeD out).2 = 0
      ·have HS:=Lib.hid hs
       rw [hs]
       clear hs
       go_wp2
       go_ret2
       refine ⟨C,c,0,out,by rw [← hl];rfl,by unfold I64;omega,HI.out.1,HI.out.2.1,fun _=>⟨HS.out,by omega⟩,fun e _=>⟨rfl,?_⟩⟩
       exact HI.out.2.2.2 e
      ·have HI4:=Lib.hid (size_i64 out).2
       have HZ:=Lib.hid hs
       generalize hx:(sizeD out).2 = x at HZ HI4 hs ⊢
       have HX:=Lib.hid hx
       clear hx
       go_wp2
       go_ret2
       refine bcast_bad HI.out.1 HI4.out HZ.out (fun e h=>HZ.out ?_)
       rw [← HX.out,show out = l from HI.out.2.2.2 e]
       exact h
end Go.Proofs.YtilobeohkomeoaaGreat
set_option linter.unusedSimpArgs false
set_option linter.unusedVariables false
namespace Go.Proofs.YtilobeohkomeoaaGreat
open Go.RowKit
open Rep (rep)
def manyD (l:List Int) (n:Int):Bool:=(l.length:Int) == 0 || (l.length:Int) == n
set_option maxRecDepth 100000 in
set_option maxHeartbeats 8000000 in
theorem many_any (l:List Int) (A:Option Addr) (k:Nat) (n:Int) (w:World) :
  Calls Tryz.prog 91 #[.slice A l.length k,.int .i64 n] w fun e w'=>e = .returned (.bool (manyD l n))∧w' = w:=by
 have H:Hid (manyD l n = ((l.length:Int) == 0 || (l.length:Int) == n)):=Lib.hid rfl
 generalize l.length = m at H ⊢
 cases m with
 | zero =>
  go_enter Tryz.func91,Tryz.ntmps91
  go_wp2
  go_ret
  exact ⟨by rw [H.out];rfl,rfl⟩
 | succ m =>
  have h0:¬ ((m + 1:Nat):Int) = 0:=by omega
  have H:=Lib.hid (show manyD l n = ((m:Int) + 1 == 0 || (m:Int) + 1 == n) from H.out)
  go_enter Tryz.func91,Tryz.ntmps91
  go_wp2
  go_ret
  exact ⟨by rw [H.out];rfl,rfl⟩
set_option maxRecDepth 100000 in
set_option maxHeartbeats 8000000 in
theorem misfit_any (w:World):Calls Tryz.prog 73 #[] w fun e w'=>e = .returned (.tuple #[.slice none 0 0,.int .i64 3])∧w' = w:=by
 go_enter Tryz.func73,Tryz.ntmps73
 go_wp2
 go_ret2
 exact ⟨rfl,rfl⟩
def ShP (w:World) (P:Int→List (List Int)→Prop) (e:Ending) (w':World):Prop:=∃ (A:Option Addr) (k:Nat) (x:Int) (ll:List (List Int)),e = .returned (.tuple #[.slice A ll.length k,.int .i64 x])∧I64 x∧Below w.heap.size w w'∧rep w' (old w'.heap.size) [.slice A ll.length k] ll∧P x ll
@[reducible] def P1 (x:Int) (ll:List (List Int)):Prop:=x = 0→ll.length = 1
theorem sh_bad {w w':World} {P:Int→List (List Int)→Prop} {x:Int} (h:Below w.heap.size w w') (hx:I64 x) (hP:P x []):ShP w P (.returned (.tuple #[.slice none 0 0,.int .i64 x])) w':=⟨none,0,x,[],rfl,hx,h,rep_nil _ _,hP⟩
theorem sh_misfit {w w':World} (h:Below w.heap.size w w'):ShP w P1 (.returned (.tuple #[.slice none 0 0,.int .i64 3])) w':=sh_bad h (by unfold I64;omega) (fun e=>by cases e)
theorem ShP.mono {w w':World} {P Q:Int→List (List Int)→Prop} {e:Ending} (h:ShP w P e w') (hpq:∀ x l,P x l→Q x l):ShP w Q e w':=by
 obtain ⟨A,k,x,ll,h1,h2,h3,h4,h5⟩:=h
 exact ⟨A,k,x,ll,h1,h2,h3,h4,hpq _ _ h5⟩
theorem ShP.more {w v w':World} {P:Int→List (List Int)→Prop} {e:Ending} (h:ShP v P e w') (hb:Below w.heap.size w v):ShP w P e w':=by
 obtain ⟨A,k,x,ll,h1,h2,h3,h4,h5⟩:=h
 exact ⟨A,k,x,ll,h1,h2,hb.trans (h3.mono hb.size),h4,h5⟩
theorem rep_lone {α:Type} [Rep α] {w:World} {Z:Zone} {g:Nat} {t:TypeId} {v:Value} {x:α} (hb:Rep.bytes α ≤ 1000) (hg:w.heap[g]? = some (.cells #[v] t (0,0))) (hx:rep w Z [v] x) (hZ:Z.blk g):rep w Z [.slice (some ⟨g,0,none⟩) 1 1] [x] :=
 ⟨_,1,1,[v],rfl,rfl,Nat.le_refl _,by unfold maxLen;omega,by unfold reach;omega,fun _=>⟨g,0,rfl,hZ,fun j u hu=>⟨by rw [cell_of_row _ _ _ _ _ _ hg];simpa using hu,fun _=>by simp [World.frozen?,hg]⟩⟩,Chunks.single hx⟩
set_option maxRecDepth 100000 in
set_option maxHeartbeats 8000000 in
theorem one_any (l:List Int) (A:Option Addr) (k:Nat) (w:World) (hr:rep w (old w.heap.size) [.slice A l.length k] l) :
  Calls Tryz.prog 81 #[.slice A l.length k] w (ShP w (fun x ll=>x = 0∧ll = [l])):=by
 have HR:=Lib.hid hr
 clear hr
 go_enter Tryz.func81,Tryz.ntmps81
 go_wp2
 go_ret2
 have hb:Below w.heap.size w (w.alloc (.cells #[.slice A l.length k] 24)):=(Below.refl _ _).alloc (Nat.le_refl _) _
 refine ⟨some ⟨w.heap.size,0,none⟩,1,0,[l],rfl,by unfold I64;omega,hb,?_,rfl,rfl⟩
 have hr:=Rep.more (Rep.keep HR.out (Keeps.old_below hb (Nat.le_refl _))) (old_le hb.size)
 exact rep_lone (by decide) (heap_alloc_new _ _) hr (by rw [World.size_alloc];exact Nat.lt_succ_self _)
end Go.Proofs.YtilobeohkomeoaaGreat
set_option linter.unusedSimpArgs false
set_option linter.unusedVariables false
namespace Go.Proofs.YtilobeohkomeoaaGreat
open Go.RowKit
open Rep (rep)
theorem val_ten (t:Int) (A1:Option Addr) (n1 k1:Nat) (c:Bool) (u:Int) (A2:Option Addr) (n2 k2:Nat) (A3:Option Addr) (n3 k3:Nat) (A4:Option Addr) (n4 k4:Nat) (A5:Option Addr) (n5 k5:Nat) (w:World) :
  (Instr.field 45 (.agg #[.int .i64 t,.slice A1 n1 k1,.bool c,.int .i64 u,.slice A2 n2 k2,.slice A3 n3 k3,.slice A4 n4 k4,.slice A5 n5 k5]) 3).run Tryz.prog w = .ok (.agg #[.int .i64 u,.slice A2 n2 k2,.slice A3 n3 k3,.slice A4 n4 k4,.slice A5 n5 k5]) w:=by kernel_rfl
theorem ten_ints (u:Int) (A2:Option Addr) (n2 k2:Nat) (A3:Option Addr) (n3 k3:Nat) (A4:Option Addr) (n4 k4:Nat) (A5:Option Addr) (n5 k5:Nat) (w:World) :
  (Instr.field 43 (.agg #[.int .i64 u,.slice A2 n2 k2,.slice A3 n3 k3,.slice A4 n4 k4,.slice A5 n5 k5]) 3).run Tryz.prog w = .ok (.slice A4 n4 k4) w:=by kernel_rfl
theorem own_row {W:World} {n:Nat} {v:Value} {l:List Int} (h:W.ownsRow n 3 1 v l.length (l.map (Value.int .i64))) (hb:l.length * 8 ≤ 140737488351232) (hi:∀ x ∈ l,I64 x):∃ A k,v = .slice A l.length k∧Own W n A k l :=
 own_of (rep_of_own h (chunks_of_ints _ hi) (by unfold reach;exact hb) (fun g _ h1 h2=>⟨h1,h2⟩))
def OwnP (w:World) (P:List Int→Prop) (e:Ending) (w':World):Prop:=∃ (A:Option Addr) (k:Nat) (l:List Int),e = .returned (.slice A l.length k)∧Below w.heap.size w w'∧Own w' w.heap.size A k l∧P l
set_option maxRecDepth 100000 in
set_option maxHeartbeats 8000000 in
theorem numbers_any (cs:List Value) (a:AskD) (i:Nat) (w:World) (hr:rep w (old w.heap.size) cs a) :
  Calls Tryz.prog 117 #[.agg cs.toArray,.int .i64 i] w (OwnP w fun _=>True):=by
 obtain ⟨i0,hi0,hz0,hz1,hz2⟩:=info_parts intInfo
 go_enter Tryz.func117,Tryz.ntmps117
 go_wp2_with (with_reducible refine wpList_box_row rfl 91 _ rfl cs rfl ?_;have hX:=ask_start hr;generalize World.alloc _ _ = W0 at hX ⊢;have HX:=Lib.hid hX;clear hX hr;refine halt ?_)
 unfold Halt
 go_wp2_with (with_reducible refine wpList_load_agg rfl 91 _ rfl _ _ _ rfl cs Tryz.underlying91 rfl HX.out.size HX.out.at ?_)
 refine (askHas cs a i _ HX.out.arg).mono ?_
 rintro e w1 ⟨rfl,hb⟩
 have HY:=Lib.hid (HX.out.next hb)
 clear hb
 cases a.has i with
 | false =>
  go_wp2
  go_ret
  exact ⟨none,0,[],rfl,HY.out.below,rep_nil _ _,trivial⟩
 | true =>
  go_wp2_with (with_reducible refine wpList_load_agg rfl 91 _ rfl _ _ _ rfl cs Tryz.underlying91 rfl HY.out.size HY.out.at ?_)
  refine (askVal cs a i _ HY.out.arg).mono ?_
  rintro e w2 ⟨vs,rfl,hv,hb⟩
  obtain ⟨A1,k1,A2,k2,A3,k3,A4,k4,A5,k5,rfl,-,-,ht⟩:=open_ValD hv
  obtain ⟨A2',k2',A3',k3',A4',k4',A5',k5',he,-,-,-,hi,-⟩:=open_TensorD ht
  have hii:rep w2 (old w2.heap.size) [.slice A4 (a.val i).t.i.length k4] (a.val i).t.i:=by
   simp only [List.cons.injEq,Value.slice.injEq,and_true,true_and] at he
   obtain ⟨-,-,⟨rfl,rfl⟩,-⟩:=he
   exact hi
  generalize (a.val i).t.i = l at hii ⊢
  have hlen:l.length * 8 ≤ 140737488351232:=(open_slice hii).elim fun _ h=>h.elim fun _ h=>h.elim fun _ h=>h.2.2.2.1
  obtain ⟨nb,nb'⟩:=slice_bnd hii
  have H2:=Lib.hid (And.intro (HY.out.next hb) (And.intro hii hlen))
  clear hv ht he hi hii hb hlen
  have hf:=val_ten
  have hf2:=ten_ints
  go_wp2_with fail
  clear hf hf2
  go_loopw [5,18] (fun v i wr=>∃ pre post:List Int,l = pre++post∧i = .int .i64 pre.length∧wr.ownsRow w2.heap.size 3 1 v pre.length (pre.map (Value.int .i64))∧Below w2.heap.size w2 wr)
   (fun _ i _=>l.length - (intOf i).toNat)
  case atStart=>exact ⟨[],l,rfl,rfl,World.ownsRow_nil _ _ _ _,Below.refl _ _⟩
  case round =>
   obtain ⟨pre,post,hpp,rfl,hown,hbel⟩:=hrel
   cases post with
   | cons z post =>
    obtain ⟨hz,hlt,hpp',hpl⟩:=split_at hpp
    obtain ⟨z64,b,o,rfl,hzb,kz⟩:=int_at H2.out.2.1 hz
    have kz':wr.cell? ⟨b,o + pre.length,none⟩ = some (.int .i64 z):=(hbel.cell (p:=⟨b,o + pre.length,none⟩) hzb).trans kz
    have H:=Lib.hid (And.intro hpp' (And.intro hpl hbel))
    have HI:=Lib.hid z64
    have hk0:(0:Int) ≤ (pre.length:Int):=Int.natCast_nonneg _
    have hk1:(pre.length:Int) < (l.length:Int):=by omega
    clear hpp hpp' hpl hbel hz kz z64
    go_wp2_with (at_builtin;refine wpList_append_lies _ rfl _ _ 24 rfl w2.heap.size 3 i0 (.int .i64 0) 1 8 Tryz.underlying24 hi0 hz0 hz1 hz2 rfl (by decide) _ _ _ rfl (hown.alloc _) _ _ 1 1 [.int .i64 z] rfl rfl (lies_new _ _ _) ?c2 ?c3 ?c4 ?c5 ?_)
    case c2=>intro u hu;simp at hu;subst hu;rfl
    case c3=>unfold maxLen;have:=H2.out.2.2;omega
    case c4=>have:=H2.out.2.2;omega
    case c5=>have:=H.out.2.2.size;simp;omega
    intro v' w3 hown' hgrow _
    go_wp2
    go_roundw
    case rel =>
     obtain ⟨hpp',hpl,hbel⟩:=H.out
     refine ⟨pre++[z],post,hpp',by rw [hpl];go_num,by rw [hpl,List.map_append];exact hown',?_⟩
     exact (hbel.alloc hbel.size _).grown hgrow (by have:=hbel.size;simp;omega) (fun g hg=>(hown.lt g hg).1)
    case measure=>simp [intOf];omega
   | nil =>
    obtain ⟨hge,hpl⟩:=split_end hpp
    have HE:Hid (l = pre):=Lib.hid (by rw [hpp,List.append_nil])
    have H:=Lib.hid (And.intro hown hbel)
    clear hpl hbel hpp
    go_wp2
    go_ret
    obtain rfl:=HE.out
    have hint:∀ x ∈ l,I64 x:=fun x hx=>by
     obtain ⟨j,hj⟩:=List.mem_iff_getElem?.1 hx
     exact (int_at H2.out.2.1 hj).1
    obtain ⟨A,k,rfl,ho⟩:=own_row H.out.1 H2.out.2.2 hint
    exact ⟨A,k,l,rfl,H2.out.1.trans H.out.2,ho.more (by have:=H2.out.1.lt;omega),trivial⟩
set_option maxRecDepth 100000 in
set_option maxHeartbeats 8000000 in
theorem below1_any (x lo:Int) (q:Addr) (w:World) (hq:w.cell? q = some (.int .i64 lo)):Calls Tryz.prog 129 #[.int .i64 x,.pointer (some q)] w fun e w'=>e = .returned (.bool (decide (x < lo)))∧w' = w:=by
 by_cases h:x < lo
 all_goals
  go_enter Tryz.func129,Tryz.ntmps129
  go_wp2
  go_ret
  exact ⟨by simp [h],rfl⟩
set_option maxRecDepth 100000 in
set_option maxHeartbeats 8000000 in
theorem below_any (l:List Int) (A:Option Addr) (k:Nat) (lo:Int) (w:World) (hr:rep w (old w.heap.size) [.slice A l.length k] l) :
  Calls Tryz.prog 118 #[.slice A l.length k,.int .i64 lo] w fun e w'=>e = .returned (.bool (l.any fun x=>decide (x < lo)))∧Below w.heap.size w w':=by
 have HR:=Lib.hid hr
 clear hr
 go_enter Tryz.func118,Tryz.ntmps118
 go_wp2_with fail
 have hb:Below w.heap.size w (w.alloc (.cells #[.int .i64 lo] 3)):=(Below.refl _ _).alloc (Nat.le_refl _) _
 have hc:(w.alloc (.cells #[.int .i64 lo] 3)).cell? ⟨w.heap.size,0,none⟩ = some (.int .i64 lo):=cell_of_row _ _ _ _ _ _ (heap_alloc_new _ _)
 have hr:=Rep.more (Rep.keep HR.out (Keeps.old_below hb (Nat.le_refl _))) (old_le hb.size)
 generalize World.alloc _ _ = W1 at hb hc hr ⊢
 have H:=Lib.hid (And.intro hb hc)
 clear hb hc
 refine (containsInts_any l _ 129 ⟨w.heap.size,0,none⟩ (fun x=>decide (x < lo)) (fun W=>W = W1) W1 (fun _ _=>rfl) hr rfl (fun W h=>by rw [h];exact Below.refl _ _) fun x _ _ W hW=>(below1_any x lo _ W (by rw [hW];exact H.out.2)).mono (by rintro e w' ⟨rfl,rfl⟩;exact ⟨rfl,hW⟩)).mono ?_
 rintro e w1 ⟨rfl,rfl⟩
 go_wp2
 go_ret
 exact ⟨rfl,H.out.1⟩
end Go.Proofs.YtilobeohkomeoaaGreat
