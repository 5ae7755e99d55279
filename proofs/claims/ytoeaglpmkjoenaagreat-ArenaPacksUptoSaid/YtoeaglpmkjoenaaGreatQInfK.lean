/-
  Chapter 04: lists of the call's own that are written; what two shapes come to. No condition.
-/
/-
  Chapter 10: small functions: lists of windows, an axis, numbers, one output, a misfit. No condition.
-/
/-
  Chapter 10: what an input says in numbers; numbers below another; the axis; is the operation whole? No condition.
-/
/-
  Chapter 10: the axis; do shapes go together? No condition.
-/
/-
  Chapter 10: what shapes come to; does one go with another? No condition.
-/
/-
  Chapter 10: lists of the caller's, and of the call's own, while own lists are written. No condition.
-/
/-
  Chapter 10: from where to where Shape tells dims. No condition.
-/
/-
  Chapter 10: Flatten, Shape, Size, ConstantOfShape, DepthToSpace, SpaceToDepth. No condition.
-/
import Derived.Test.YtoeaglpmkjoenaaGreatQAxes
import Derived.Test.YtoeaglpmkjoenaaGreatQSrtP
import Derived.Test.YtoeaglpmkjoenaaGreatQGMaps
import Derived.Test.YtoeaglpmkjoenaaGreatQResV
set_option linter.unusedSimpArgs false
set_option linter.unusedVariables false
namespace Go.Proofs.YtoeaglpmkjoenaaGreat
open Go.RowKit
open Rep (rep)
def Own (W:World) (n:Nat) (A:Option Addr) (k:Nat) (l:List Int):Prop:=rep W (fresh n W.heap.size) [.slice A l.length k] l
theorem Own.get {W:World} {n k:Nat} {A:Option Addr} {l:List Int} (h:Own W n A k l) {j:Nat} {z:Int} (hz:l[j]? = some z):I64 z∧∃ b o,A = some ⟨b,o,none⟩∧n ≤ b∧W.cell? ⟨b,o + j,none⟩ = some (.int .i64 z)∧W.frozen? ⟨b,o + j,none⟩ = false:=by
 obtain ⟨A',c',xs,hv,hnc,hcm,-,hl,hch⟩:=open_slice (α:=Int) h
 simp only [Value.slice.injEq,true_and] at hv
 obtain ⟨rfl,rfl⟩:=hv
 obtain ⟨b,o,xc,rfl,hbB,hrz,hcell⟩:=elem_at hl hch (by decide) hz
 obtain ⟨rfl,hz64⟩:=hrz
 have h0:=hcell 0 _ rfl
 rw [show o + (j * Rep.size Int + 0) = o + j from by simp [Rep.size]] at h0
 exact ⟨hz64,b,o,rfl,hbB.1,h0.1,h0.2 rfl⟩
theorem Own.i64 {W:World} {n k:Nat} {A:Option Addr} {l:List Int} (h:Own W n A k l):∀ x ∈ l,I64 x:=fun x hx=>by
 obtain ⟨j,hj⟩:=List.mem_iff_getElem?.1 hx
 exact (h.get hj).1
theorem Own.set {W:World} {n k b o:Nat} {l:List Int} (h:Own W n (some ⟨b,o,none⟩) k l) {j:Nat} (hj:j < l.length) {x:Int} (hx:I64 x):Own (W.setCell ⟨b,o + j,none⟩ (.int .i64 x)) n (some ⟨b,o,none⟩) k (l.set j x):=by
 have hi:=h.i64
 unfold Own at *
 obtain ⟨A,m,c,xs,h1,h2,h3,h4,h5,h6,h7⟩:=h
 simp only [List.cons.injEq,Value.slice.injEq,and_true] at h1
 obtain ⟨rfl,rfl,rfl⟩:=h1
 have e:=chunks_ints h7
 subst e
 have h6':=h6.set_at (j:=j) (by rw [List.length_map];exact hj) (.int .i64 x)
 rw [← List.map_set] at h6'
 rw [show (W.setCell ⟨b,o + j,none⟩ (.int .i64 x)).heap.size = W.heap.size by simp [World.setCell]]
 refine ⟨_,_,_,_,rfl,by simp,by rw [List.length_set];exact h3,h4,by simpa using h5,h6',?_⟩
 refine chunks_of_ints _ fun y hy=>?_
 rcases List.mem_or_eq_of_mem_set hy with h | rfl
 ·exact hi y h
 ·exact hx
theorem Own.keep {W W':World} {n k:Nat} {A:Option Addr} {l:List Int} (h:Own W n A k l) (hb:Below W.heap.size W W'):Own W' n A k l:=by
 unfold Own at *
 exact Rep.more (Rep.keep h (.of_below hb fun _ h=>h.2)) ⟨fun b h=>⟨h.1,Nat.lt_of_lt_of_le h.2 hb.size⟩,fun h=>h⟩
theorem Own.rep {W:World} {n k:Nat} {A:Option Addr} {l:List Int} (h:Own W n A k l):rep W (old W.heap.size) [.slice A l.length k] l:=Rep.more h ⟨fun b h=>h.2,fun h=>by cases h⟩
theorem own_of {W:World} {n:Nat} {v:Value} {l:List Int} (h:Rep.rep W (fresh n W.heap.size) [v] l):∃ A k,v = .slice A l.length k∧Own W n A k l:=by
 obtain ⟨A,k,e⟩:=slice_form h
 injection e with e
 subst e
 exact ⟨A,k,rfl,h⟩
theorem Own.more {W:World} {n n' k:Nat} {A:Option Addr} {l:List Int} (h:Own W n A k l) (hn:n' ≤ n):Own W n' A k l:=Rep.more h ⟨fun b h=>⟨Nat.le_trans hn h.1,h.2⟩,fun h=>h⟩
structure OwnR (W:World) (n:Nat) (A:Option Addr) (k:Nat) (l:List Int):Prop where
 own:Own W n A k l
 row:W.ownsRow n 3 1 (.slice A l.length k) l.length (l.map (Value.int .i64))
theorem OwnR.get {W:World} {n k:Nat} {A:Option Addr} {l:List Int} (h:OwnR W n A k l) {j:Nat} {z:Int} (hz:l[j]? = some z):I64 z∧∃ b o,A = some ⟨b,o,none⟩∧n ≤ b∧W.cell? ⟨b,o + j,none⟩ = some (.int .i64 z)∧W.frozen? ⟨b,o + j,none⟩ = false:=h.own.get hz
theorem OwnR.rep {W:World} {n k:Nat} {A:Option Addr} {l:List Int} (h:OwnR W n A k l):rep W (old W.heap.size) [.slice A l.length k] l:=h.own.rep
theorem OwnR.keep {W W':World} {n k:Nat} {A:Option Addr} {l:List Int} (h:OwnR W n A k l) (hb:Below W.heap.size W W'):OwnR W' n A k l :=
 ⟨h.own.keep hb,h.row.kept (row:=none) ⟨hb.os,hb.tape,hb.output,hb.size,fun k hk _=>hb.block k hk⟩ (by cases hv:(Value.slice A l.length k).ownBlock <;> simp)⟩
theorem OwnR.more {W:World} {n n' k:Nat} {A:Option Addr} {l:List Int} (h:OwnR W n A k l) (hn:n' ≤ n):OwnR W n' A k l :=
 ⟨h.own.more hn,h.row.1,h.row.2.imp id fun ⟨g,cap,cur,h1,h2,h3⟩=>⟨g,cap,cur,h1,Nat.le_trans hn h2,h3⟩⟩
theorem OwnR.set {W:World} {n k b o:Nat} {l:List Int} (h:OwnR W n (some ⟨b,o,none⟩) k l) {j:Nat} (hj:j < l.length) {x:Int} (hx:I64 x):OwnR (W.setCell ⟨b,o + j,none⟩ (.int .i64 x)) n (some ⟨b,o,none⟩) k (l.set j x):=by
 refine ⟨h.own.set hj hx,by simp,.inr ?_⟩
 rcases h.row.2 with ⟨hv,-⟩ | ⟨g,cap,cur,hv,hb,hg,hc,hm,hs,ht⟩
 ·cases hv
 ·simp only [Value.slice.injEq,Option.some.injEq,Addr.mk.injEq] at hv
  obtain ⟨⟨rfl,rfl,-⟩,-,rfl⟩:=hv
  refine ⟨b,k,cur.setIfInBounds (0 + j) (.int .i64 x),by simp,hb,?_,by simpa using hc,hm,by simpa using hs,?_⟩
  ·rw [set_as_row hg]
   exact heap_setRow _ _ _ _ _ hg
  ·rw [Array.toList_setIfInBounds,List.length_set,List.take_set,ht,Nat.zero_add,List.map_set]
set_option maxRecDepth 100000 in
set_option maxHeartbeats 2000000 in
theorem clone_own (l:List Int) (v:Value) (w:World) (hr:rep w (old w.heap.size) [v] l) :
  Calls Tryz.prog 30 #[v] w fun e w'=>∃ A k,e = .returned (.slice A l.length k)∧OwnR w' w.heap.size A k l∧Below w.heap.size w w':=by
 obtain ⟨i0,hi0,hz0,hz1,hz2⟩:=info_parts info_ints
 have q:∀ (w:World) (a:Option Addr) (n c n' c':Nat),(binOp .eql 24 (.slice a n c) (.slice none n' c')).run Tryz.prog w = .ok (.bool a.isNone) w:=fun w a n c n' c'=>Lib.run_eql_slice_nil w _ _ a n c n' c' Tryz.underlying24
 obtain ⟨A,c,xs,rfl,hnc,hcm,hb,hl,hch⟩:=open_slice hr
 replace hb:l.length * 8 ≤ 140737488351232:=hb
 cases A with
 | none =>
  have hxs:xs = []:=Classical.byContradiction fun hne=>by
   obtain ⟨b,o,hA,_⟩:=hl hne
   cases hA
  have hl0:l = []:=by
   have:=hch.len
   rw [hxs] at this
   have h2:0 = l.length * 1:=this
   exact List.eq_nil_of_length_eq_zero (by omega)
  subst hl0
  clear hr hl hch hb hnc hcm hxs
  go_enter Tryz.func30,Tryz.ntmps30
  go_wp2
  go_ret
  exact ⟨none,0,rfl,⟨rep_nil _ _,World.ownsRow_nil _ _ _ _⟩,Below.refl _ _⟩
 | some ad =>
  have hn1:=hch.len
  replace hn1:xs.length = l.length * 1:=hn1
  have H:=Lib.hid (And.intro hch (And.intro hn1 hch.one))
  have hl2:∀ o:Obj,Lies (w.alloc o) (old w.heap.size) (some ad) xs:=fun o=>hl.keep (Keeps.old_below ((Below.refl _ _).alloc (Nat.le_refl _) o) (Nat.le_refl _))
  have HL:=Lib.hid hl2
  have hbz:l.length ≤ 140737488351232:=by omega
  clear hr hl hch hl2 hn1 hnc hcm
  go_enter Tryz.func30,Tryz.ntmps30
  go_wp2_with (at_builtin;refine wpList_append_lies _ rfl _ _ 24 rfl w.heap.size 3 i0 _ 1 8 Tryz.underlying24 hi0 hz0 hz1 hz2 rfl (by decide) _ 0 [] rfl (World.ownsRow_made w #[] 0 (Nat.le_refl _) (Nat.zero_le _) rfl) _ _ _ _ _ rfl H.out.2.1 (HL.out _) H.out.2.2 ?c3 ?c4 ?c5 ?_)
  case c3=>unfold maxLen;omega
  case c4=>omega
  case c5=>simp
  intro v' w1 hown' hgrow hat
  have HX:=Lib.hid (And.intro hown' (And.intro hgrow hat))
  clear hown' hgrow hat
  go_wp2
  go_ret
  obtain ⟨hown,hgrow,hat⟩:=HX.out
  have hbel:Below w.heap.size w w1:=((Below.refl _ w).alloc (Nat.le_refl _) _).grown hgrow (by simp) (by intro k hk;simp [Value.ownBlock] at hk;omega)
  have hr2:rep w1 (fresh w.heap.size w1.heap.size) [v'] l:=rep_of_own hown (Chunks.any H.out.1) hb (fun g _ h1 h2=>⟨h1,h2⟩)
  obtain ⟨A',k',rfl,ho⟩:=own_of hr2
  have hx:xs = l.map (Value.int .i64):=chunks_ints H.out.1
  rw [hx] at hown
  exact ⟨A',k',rfl,⟨ho,by simpa using hown⟩,hbel⟩
def BcastP (l m:List Int) (w:World) (e:Ending) (w':World):Prop:=∃ (A:Option Addr) (k:Nat) (x:Int) (out:List Int),e = .returned (.tuple #[.slice A out.length k,.int .i64 x])∧I64 x∧Below w.heap.size w w'∧OwnR w' w.heap.size A k out ∧
 (x = 0→(sizeD out).2 = 0∧out.length = max l.length m.length)∧(l = m→(sizeD l).2 = 0→x = 0∧out = l)
theorem bcast_bad {l m:List Int} {x:Int} {w w':World} (h:Below w.heap.size w w') (hx:I64 x) (h0:x ≠ 0) (hl:l = m→(sizeD l).2 = 0→False):BcastP l m w (.returned (.tuple #[.slice none 0 0,.int .i64 x])) w' :=
 ⟨none,0,x,[],rfl,hx,h,⟨rep_nil _ _,World.ownsRow_nil _ _ _ _⟩,fun e=>absurd e h0,fun e h1=>(hl e h1).elim⟩
theorem mulD_bd:∀ {l:List Int} {n m:Int},(1 ≤ n∧n ≤ 4096)→(∀ d ∈ l,1 ≤ d)→mulD n l = some m→1 ≤ m∧m ≤ 4096
 | [],n,m,hn,_,h=>by
  unfold mulD at h
  injection h with h
  exact h ▸ hn
 | d :: l,n,m,hn,hl,h=>by
  unfold mulD at h
  split at h
  ·cases h
  ·rename_i hd
   exact mulD_bd (mul_next hn.1 hn.2 (hl d List.mem_cons_self) hd) (fun x hx=>hl x (List.mem_cons_of_mem _ hx)) h
theorem size_bd (l:List Int):0 ≤ (sizeD l).1∧(sizeD l).1 ≤ 4096∧0 ≤ (sizeD l).2∧(sizeD l).2 ≤ 4:=by
 unfold sizeD
 split
 ·simp
 ·split
  ·simp
  ·split
   ·simp
   ·rename_i h1 h2 h3
    cases hm:mulD 1 l with
    | none=>simp
    | some n =>
     have:=mulD_bd (l:=l) (by omega) (fun d hd=>(mul_start l (by simpa using h1) (Bool.eq_false_iff.2 fun h=>h2 (.inr h)) (by simpa using h3) d hd).1) hm
     simp only
     omega
theorem size_i64 (l:List Int):I64 (sizeD l).1∧I64 (sizeD l).2:=by
 have:=size_bd l
 unfold I64
 omega
set_option maxRecDepth 100000 in
set_option maxHeartbeats 8000000 in
theorem bcast_any (l m:List Int) (A B:Option Addr) (k j:Nat) (w:World) (h1:rep w (old w.heap.size) [.slice A l.length k] l) (h2:rep w (old w.heap.size) [.slice B m.length j] m) :
  Calls Tryz.prog 139 #[.slice A l.length k,.slice B m.length j] w (BcastP l m w):=by
 obtain ⟨nb,nb'⟩:=slice_bnd h1
 obtain ⟨mb,mb'⟩:=slice_bnd h2
 have HR:=Lib.hid (And.intro h1 h2)
 clear h1 h2
 go_enter Tryz.func139,Tryz.ntmps139
 go_wp2_with fail
 have hb0:Below w.heap.size w (w.alloc (.cells #[.slice A l.length k,.slice B m.length j] 24)):=(Below.refl _ _).alloc (Nat.le_refl _) _
 have hc0:(w.alloc (.cells #[.slice A l.length k,.slice B m.length j] 24)).cell? ⟨w.heap.size,0,none⟩ = some (.slice A l.length k):=cell_of_row _ _ _ _ _ _ (heap_alloc_new _ _)
 have hc1:(w.alloc (.cells #[.slice A l.length k,.slice B m.length j] 24)).cell? ⟨w.heap.size,1,none⟩ = some (.slice B m.length j):=cell_of_row _ _ _ _ _ _ (heap_alloc_new _ _)
 have hsz:w.heap.size ≤ (w.alloc (.cells #[.slice A l.length k,.slice B m.length j] 24)).heap.size:=hb0.size
 have r1:=Rep.more (Rep.keep HR.out.1 (Keeps.old_below hb0 (Nat.le_refl _))) (old_le hsz)
 have r2:=Rep.more (Rep.keep HR.out.2 (Keeps.old_below hb0 (Nat.le_refl _))) (old_le hsz)
 generalize World.alloc _ _ = W1 at hb0 hc0 hc1 hsz r1 r2 ⊢
 have H1:=Lib.hid (And.intro hb0 (And.intro hsz (And.intro r1 (And.intro r2 (And.intro hc0 hc1)))))
 clear hb0 hsz r1 r2 hc0 hc1
 go_loopw [21] (fun i wr=>∃ c:Nat,i = .int .i64 (c:Int)∧c ≤ 2∧wr = W1∧(1 ≤ c→(sizeD l).2 = 0)∧(2 ≤ c→(sizeD m).2 = 0)) (fun i _=>2 - (intOf i).toNat)
 case atStart=>exact ⟨0,rfl,by omega,rfl,by omega,by omega⟩
 case round =>
  obtain ⟨c,rfl,hc2,rfl,ha,hb⟩:=hrel
  have HS:=Lib.hid (And.intro ha hb)
  clear ha hb
  rcases (show c = 0 ∨ c = 1 ∨ c = 2 by omega) with rfl | rfl | rfl
  ·have hc0:=H1.out.2.2.2.2.1
   go_wp2_with fail
   refine (size_any l A k wr H1.out.2.2.1).mono ?_
   rintro e w1 ⟨rfl,rfl⟩
   by_cases hz:(sizeD l).2 = 0
   ·have HZ:=Lib.hid hz
    rw [hz]
    clear hz
    go_wp2
    go_roundw
    case rel=>exact ⟨1,by go_num,by omega,trivial,fun _=>HZ.out,by omega⟩
    case measure=>simp [intOf]
   ·have HZ:=Lib.hid hz
    have hI:=(size_i64 l).2
    have HI:=Lib.hid hI
    clear hI
    generalize hx:(sizeD l).2 = x at HZ HI hz ⊢
    have HX:=Lib.hid hx
    clear hx
    go_wp2
    go_ret2
    exact bcast_bad H1.out.1 HI.out HZ.out (fun _ h=>HZ.out (by rw [← HX.out];exact h))
  ·have hc1:=H1.out.2.2.2.2.2
   go_wp2_with fail
   refine (size_any m B j wr H1.out.2.2.2.1).mono ?_
   rintro e w1 ⟨rfl,rfl⟩
   by_cases hz:(sizeD m).2 = 0
   ·have HZ:=Lib.hid hz
    rw [hz]
    clear hz
    go_wp2
    go_roundw
    case rel=>exact ⟨2,by go_num,by omega,trivial,fun _=>HS.out.1 (by omega),fun _=>HZ.out⟩
    case measure=>simp [intOf]
   ·have HZ:=Lib.hid hz
    have hI:=(size_i64 m).2
    have HI:=Lib.hid hI
    clear hI
    generalize hx:(sizeD m).2 = x at HZ HI hz ⊢
    have HX:=Lib.hid hx
    clear hx
    go_wp2
    go_ret2
    exact bcast_bad H1.out.1 HI.out HZ.out (fun e h=>HZ.out (by rw [← HX.out,← e];exact h))
  ·have HZ:=Lib.hid (And.intro (HS.out.1 (by omega)) (HS.out.2 (by omega)))
   clear HS
   by_cases hlt:l.length < m.length
   ·have hlt':(l.length:Int) < (m.length:Int):=by omega
    go_wp2_with fail
    refine (clone_own m _ _ H1.out.2.2.2.1).mono ?_
    rintro e w2 ⟨C,c,rfl,ho,hb⟩
    have HO:=Lib.hid (And.intro (H1.out.1.trans (hb.mono H1.out.2.1)) (ho.more H1.out.2.1))
    obtain ⟨d,hd⟩:∃ d:Nat,(m.length:Int) - (l.length:Int) = (d:Int):=⟨m.length - l.length,by omega⟩
    have HD:=Lib.hid hd
    clear hb ho
    go_wp2_with fail
    clear hd
    go_loopw [50] (fun i wr=>∃ (pre post out:List Int),l = pre++post∧i = .int .i64 pre.length∧Below w.heap.size w wr∧OwnR wr w.heap.size C c out∧out.length = m.length∧(m = l→out = m)) (fun i _=>l.length - (intOf i).toNat)
    case atStart=>exact ⟨[],l,m,rfl,rfl,HO.out.1,HO.out.2,rfl,fun _=>rfl⟩
    case round =>
     obtain ⟨pre,post,out,hpp,rfl,hbe,how,hol,hxy⟩:=hrel
     have HI:=Lib.hid (And.intro hbe (And.intro how (And.intro hol hxy)))
     clear hbe how hol hxy
     cases post with
     | cons z post =>
      obtain ⟨hz,hly,hpp',hpl⟩:=split_at hpp
      obtain ⟨z64,b,o,rfl,hzb,kz⟩:=int_at HR.out.1 hz
      have kz':wr.cell? ⟨b,o + pre.length,none⟩ = some (.int .i64 z):=(HI.out.1.cell (p:=⟨b,o + pre.length,none⟩) hzb).trans kz
      have hp:d + pre.length < out.length:=by have:=HI.out.2.2.1;have:=HD.out;omega
      obtain ⟨u,hu⟩:∃ u,out[d + pre.length]? = some u:=⟨_,List.getElem?_eq_getElem hp⟩
      obtain ⟨u64,b2,o2,rfl,hb2,ku,fu⟩:=HI.out.2.1.get hu
      have H:=Lib.hid (And.intro hpp' (And.intro hpl (And.intro hz (And.intro hp (And.intro hu (And.intro z64 hb2))))))
      have hk0:(0:Int) ≤ (pre.length:Int):=Int.natCast_nonneg _
      have hk1:(pre.length:Int) < (l.length:Int):=by omega
      have hk2:(0:Int) ≤ (d:Int) + (pre.length:Int):=by omega
      have hk3:(d:Int) + (pre.length:Int) < (m.length:Int):=by have:=HI.out.2.2.1;omega
      have hk4:((d:Int) + (pre.length:Int)).toNat = d + pre.length:=by omega
      have hE:m = l→z = u:=fun e=>by
       have h1:=HI.out.2.2.2 e
       have h2:d = 0:=by have h3:=HD.out;rw [e] at h3;omega
       rw [h1,h2,Nat.zero_add,e,hz] at hu
       injection hu
      have HE:=Lib.hid hE
      clear hpp hpp' hpl hz kz hp hu hE
      by_cases hu1:u = 1
      ·subst hu1
       go_wp2
       go_roundw
       case rel =>
        obtain ⟨hpp',hpl,hz,hp,hu,-,-⟩:=H.out
        refine ⟨pre++[z],post,out.set (d + pre.length) z,hpp',by rw [hpl];go_num,HI.out.1.setCell hb2 _,HI.out.2.1.set hp z64,by rw [List.length_set];exact HI.out.2.2.1,fun e=>?_⟩
        rw [HE.out e,← List.getElem_of_getElem? hu |>.2,List.set_getElem_self]
        exact HI.out.2.2.2 e
       case measure=>simp [intOf];omega
      ·by_cases hz1:z = 1
       ·subst hz1
        go_wp2
        go_roundw
        case rel=>exact ⟨pre++[1],post,out,H.out.1,by rw [H.out.2.1];go_num,HI.out.1,HI.out.2.1,HI.out.2.2.1,HI.out.2.2.2⟩
        case measure=>simp [intOf];omega
       ·by_cases hzu:z = u
        ·subst hzu
         go_wp2
         go_roundw
         case rel=>exact ⟨pre++[z],post,out,H.out.1,by rw [H.out.2.1];go_num,HI.out.1,HI.out.2.1,HI.out.2.2.1,HI.out.2.2.2⟩
         case measure=>simp [intOf];omega
        ·have HZU:=Lib.hid hzu
         have hz1':(z != 1) = true:=by simpa using hz1
         have hzu':(z != u) = true:=by simpa using hzu
         go_wp2
         go_ret2
         exact bcast_bad HI.out.1 (by unfold I64;omega) (by omega) (fun e _=>HZU.out (HE.out e.symm))
     | nil =>
      obtain ⟨hge,hpl⟩:=split_end hpp
      clear hpp hpl
      go_wp2_with fail
      have hl:=HI.out.2.2.1
      rw [← hl]
      refine (size_any out C c wr HI.out.2.1.rep).mono ?_
      rintro e w3 ⟨rfl,rfl⟩
      by_cases hs:(sizeD out).2 = 0
      ·have HS:=Lib.hid hs
       rw [hs]
       clear hs
       go_wp2
       go_ret2
       refine ⟨C,c,0,out,by rw [← hl];rfl,by unfold I64;omega,HI.out.1,HI.out.2.1,fun _=>⟨HS.out,by omega⟩,fun e _=>⟨rfl,?_⟩⟩
       exact (HI.out.2.2.2 e.symm).trans e.symm
      ·have HI4:=Lib.hid (size_i64 out).2
       have HZ:=Lib.hid hs
       generalize hx:(sizeD out).2 = x at HZ HI4 hs ⊢
       have HX:=Lib.hid hx
       clear hx
       go_wp2
       go_ret2
       refine bcast_bad HI.out.1 HI4.out HZ.out (fun e h=>HZ.out ?_)
       rw [← HX.out,show out = l from (HI.out.2.2.2 e.symm).trans e.symm]
       exact h
   ·have hlt':¬ (l.length:Int) < (m.length:Int):=by omega
    go_wp2_with fail
    refine (clone_own l _ _ H1.out.2.2.1).mono ?_
    rintro e w2 ⟨C,c,rfl,ho,hb⟩
    have HO:=Lib.hid (And.intro (H1.out.1.trans (hb.mono H1.out.2.1)) (ho.more H1.out.2.1))
    obtain ⟨d,hd⟩:∃ d:Nat,(l.length:Int) - (m.length:Int) = (d:Int):=⟨l.length - m.length,by omega⟩
    have HD:=Lib.hid hd
    clear hb ho
    go_wp2_with fail
    clear hd
    go_loopw [50] (fun i wr=>∃ (pre post out:List Int),m = pre++post∧i = .int .i64 pre.length∧Below w.heap.size w wr∧OwnR wr w.heap.size C c out∧out.length = l.length∧(l = m→out = l)) (fun i _=>m.length - (intOf i).toNat)
    case atStart=>exact ⟨[],m,l,rfl,rfl,HO.out.1,HO.out.2,rfl,fun _=>rfl⟩
    case round =>
     obtain ⟨pre,post,out,hpp,rfl,hbe,how,hol,hxy⟩:=hrel
     have HI:=Lib.hid (And.intro hbe (And.intro how (And.intro hol hxy)))
     clear hbe how hol hxy
     cases post with
     | cons z post =>
      obtain ⟨hz,hly,hpp',hpl⟩:=split_at hpp
      obtain ⟨z64,b,o,rfl,hzb,kz⟩:=int_at HR.out.2 hz
      have kz':wr.cell? ⟨b,o + pre.length,none⟩ = some (.int .i64 z):=(HI.out.1.cell (p:=⟨b,o + pre.length,none⟩) hzb).trans kz
      have hp:d + pre.length < out.length:=by have:=HI.out.2.2.1;have:=HD.out;omega
      obtain ⟨u,hu⟩:∃ u,out[d + pre.length]? = some u:=⟨_,List.getElem?_eq_getElem hp⟩
      obtain ⟨u64,b2,o2,rfl,hb2,ku,fu⟩:=HI.out.2.1.get hu
      have H:=Lib.hid (And.intro hpp' (And.intro hpl (And.intro hz (And.intro hp (And.intro hu (And.intro z64 hb2))))))
      have hk0:(0:Int) ≤ (pre.length:Int):=Int.natCast_nonneg _
      have hk1:(pre.length:Int) < (m.length:Int):=by omega
      have hk2:(0:Int) ≤ (d:Int) + (pre.length:Int):=by omega
      have hk3:(d:Int) + (pre.length:Int) < (l.length:Int):=by have:=HI.out.2.2.1;omega
      have hk4:((d:Int) + (pre.length:Int)).toNat = d + pre.length:=by omega
      have hE:l = m→z = u:=fun e=>by
       have h1:=HI.out.2.2.2 e
       have h2:d = 0:=by have h3:=HD.out;rw [e] at h3;omega
       rw [h1,h2,Nat.zero_add,e,hz] at hu
       injection hu
      have HE:=Lib.hid hE
      clear hpp hpp' hpl hz kz hp hu hE
      by_cases hu1:u = 1
      ·subst hu1
       go_wp2
       go_roundw
       case rel =>
        obtain ⟨hpp',hpl,hz,hp,hu,-,-⟩:=H.out
        refine ⟨pre++[z],post,out.set (d + pre.length) z,hpp',by rw [hpl];go_num,HI.out.1.setCell hb2 _,HI.out.2.1.set hp z64,by rw [List.length_set];exact HI.out.2.2.1,fun e=>?_⟩
        rw [HE.out e,← List.getElem_of_getElem? hu |>.2,List.set_getElem_self]
        exact HI.out.2.2.2 e
       case measure=>simp [intOf];omega
      ·by_cases hz1:z = 1
       ·subst hz1
        go_wp2
        go_roundw
        case rel=>exact ⟨pre++[1],post,out,H.out.1,by rw [H.out.2.1];go_num,HI.out.1,HI.out.2.1,HI.out.2.2.1,HI.out.2.2.2⟩
        case measure=>simp [intOf];omega
       ·by_cases hzu:z = u
        ·subst hzu
         go_wp2
         go_roundw
         case rel=>exact ⟨pre++[z],post,out,H.out.1,by rw [H.out.2.1];go_num,HI.out.1,HI.out.2.1,HI.out.2.2.1,HI.out.2.2.2⟩
         case measure=>simp [intOf];omega
        ·have HZU:=Lib.hid hzu
         have hz1':(z != 1) = true:=by simpa using hz1
         have hzu':(z != u) = true:=by simpa using hzu
         go_wp2
         go_ret2
         exact bcast_bad HI.out.1 (by unfold I64;omega) (by omega) (fun e _=>HZU.out (HE.out e))
     | nil =>
      obtain ⟨hge,hpl⟩:=split_end hpp
      clear hpp hpl
      go_wp2_with fail
      have hl:=HI.out.2.2.1
      rw [← hl]
      refine (size_any out C c wr HI.out.2.1.rep).mono ?_
      rintro e w3 ⟨rfl,rfl⟩
      by_cases hs:(sizeD out).2 = 0
      ·have HS:=Lib.hid hs
       rw [hs]
       clear hs
       go_wp2
       go_ret2
       refine ⟨C,c,0,out,by rw [← hl];rfl,by unfold I64;omega,HI.out.1,HI.out.2.1,fun _=>⟨HS.out,by omega⟩,fun e _=>⟨rfl,?_⟩⟩
       exact HI.out.2.2.2 e
      ·have HI4:=Lib.hid (size_i64 out).2
       have HZ:=Lib.hid hs
       generalize hx:(sizeD out).2 = x at HZ HI4 hs ⊢
       have HX:=Lib.hid hx
       clear hx
       go_wp2
       go_ret2
       refine bcast_bad HI.out.1 HI4.out HZ.out (fun e h=>HZ.out ?_)
       rw [← HX.out,show out = l from HI.out.2.2.2 e]
       exact h
end Go.Proofs.YtoeaglpmkjoenaaGreat
set_option linter.unusedSimpArgs false
set_option linter.unusedVariables false
namespace Go.Proofs.YtoeaglpmkjoenaaGreat
open Go.RowKit
open Rep (rep)
def manyD (l:List Int) (n:Int):Bool:=(l.length:Int) == 0 || (l.length:Int) == n
set_option maxRecDepth 100000 in
set_option maxHeartbeats 8000000 in
theorem many_any (l:List Int) (A:Option Addr) (k:Nat) (n:Int) (w:World) :
  Calls Tryz.prog 131 #[.slice A l.length k,.int .i64 n] w fun e w'=>e = .returned (.bool (manyD l n))∧w' = w:=by
 have H:Hid (manyD l n = ((l.length:Int) == 0 || (l.length:Int) == n)):=Lib.hid rfl
 generalize l.length = m at H ⊢
 cases m with
 | zero =>
  go_enter Tryz.func131,Tryz.ntmps131
  go_wp2
  go_ret
  exact ⟨by rw [H.out];rfl,rfl⟩
 | succ m =>
  have h0:¬ ((m + 1:Nat):Int) = 0:=by omega
  have H:=Lib.hid (show manyD l n = ((m:Int) + 1 == 0 || (m:Int) + 1 == n) from H.out)
  go_enter Tryz.func131,Tryz.ntmps131
  go_wp2
  go_ret
  exact ⟨by rw [H.out];rfl,rfl⟩
def ShP (w:World) (P:Int→List (List Int)→Prop) (e:Ending) (w':World):Prop:=∃ (A:Option Addr) (k:Nat) (x:Int) (ll:List (List Int)),e = .returned (.tuple #[.slice A ll.length k,.int .i64 x])∧I64 x∧Below w.heap.size w w'∧rep w' (old w'.heap.size) [.slice A ll.length k] ll∧P x ll
@[reducible] def P1 (x:Int) (ll:List (List Int)):Prop:=x = 0→ll.length = 1
theorem sh_bad {w w':World} {P:Int→List (List Int)→Prop} {x:Int} (h:Below w.heap.size w w') (hx:I64 x) (hP:P x []):ShP w P (.returned (.tuple #[.slice none 0 0,.int .i64 x])) w':=⟨none,0,x,[],rfl,hx,h,rep_nil _ _,hP⟩
theorem ShP.mono {w w':World} {P Q:Int→List (List Int)→Prop} {e:Ending} (h:ShP w P e w') (hpq:∀ x l,P x l→Q x l):ShP w Q e w':=by
 obtain ⟨A,k,x,ll,h1,h2,h3,h4,h5⟩:=h
 exact ⟨A,k,x,ll,h1,h2,h3,h4,hpq _ _ h5⟩
theorem ShP.more {w v w':World} {P:Int→List (List Int)→Prop} {e:Ending} (h:ShP v P e w') (hb:Below w.heap.size w v):ShP w P e w':=by
 obtain ⟨A,k,x,ll,h1,h2,h3,h4,h5⟩:=h
 exact ⟨A,k,x,ll,h1,h2,hb.trans (h3.mono hb.size),h4,h5⟩
theorem rep_lone {α:Type} [Rep α] {w:World} {Z:Zone} {g:Nat} {t:TypeId} {v:Value} {x:α} (hb:Rep.bytes α ≤ 1000) (hg:w.heap[g]? = some (.cells #[v] t (0,0))) (hx:rep w Z [v] x) (hZ:Z.blk g):rep w Z [.slice (some ⟨g,0,none⟩) 1 1] [x] :=
 ⟨_,1,1,[v],rfl,rfl,Nat.le_refl _,by unfold maxLen;omega,by unfold reach;omega,fun _=>⟨g,0,rfl,hZ,fun j u hu=>⟨by rw [cell_of_row _ _ _ _ _ _ hg];simpa using hu,fun _=>by simp [World.frozen?,hg]⟩⟩,Chunks.single hx⟩
set_option maxRecDepth 100000 in
set_option maxHeartbeats 8000000 in
theorem one_any (l:List Int) (A:Option Addr) (k:Nat) (w:World) (hr:rep w (old w.heap.size) [.slice A l.length k] l) :
  Calls Tryz.prog 115 #[.slice A l.length k] w (ShP w (fun x ll=>x = 0∧ll = [l])):=by
 have HR:=Lib.hid hr
 clear hr
 go_enter Tryz.func115,Tryz.ntmps115
 go_wp2
 go_ret2
 have hb:Below w.heap.size w (w.alloc (.cells #[.slice A l.length k] 24)):=(Below.refl _ _).alloc (Nat.le_refl _) _
 refine ⟨some ⟨w.heap.size,0,none⟩,1,0,[l],rfl,by unfold I64;omega,hb,?_,rfl,rfl⟩
 have hr:=Rep.more (Rep.keep HR.out (Keeps.old_below hb (Nat.le_refl _))) (old_le hb.size)
 exact rep_lone (by decide) (heap_alloc_new _ _) hr (by rw [World.size_alloc];exact Nat.lt_succ_self _)
end Go.Proofs.YtoeaglpmkjoenaaGreat
set_option linter.unusedSimpArgs false
set_option linter.unusedVariables false
namespace Go.Proofs.YtoeaglpmkjoenaaGreat
open Go.RowKit
open Rep (rep)
theorem own_row {W:World} {n:Nat} {v:Value} {l:List Int} (h:W.ownsRow n 3 1 v l.length (l.map (Value.int .i64))) (hb:l.length * 8 ≤ 140737488351232) (hi:∀ x ∈ l,I64 x):∃ A k,v = .slice A l.length k∧Own W n A k l :=
 own_of (rep_of_own h (chunks_of_ints _ hi) (by unfold reach;exact hb) (fun g _ h1 h2=>⟨h1,h2⟩))
end Go.Proofs.YtoeaglpmkjoenaaGreat
set_option linter.unusedSimpArgs false
set_option linter.unusedVariables false
namespace Go.Proofs.YtoeaglpmkjoenaaGreat
open Go.RowKit
open Rep (rep)
def Lst (W:World) (A:Option Addr) (k:Nat) (l:List Int):Prop:=rep W (old W.heap.size) [.slice A l.length k] l
theorem Lst.next {W W':World} {A:Option Addr} {k:Nat} {l:List Int} (h:Lst W A k l) (hb:Below W.heap.size W W'):Lst W' A k l:=Rep.more (Rep.keep h (Keeps.old_below hb (Nat.le_refl _))) (old_le hb.size)
theorem OwnR.lst {W:World} {n k:Nat} {A:Option Addr} {l:List Int} (h:OwnR W n A k l):Lst W A k l:=h.own.rep
theorem Own.lst {W:World} {n k:Nat} {A:Option Addr} {l:List Int} (h:Own W n A k l):Lst W A k l:=h.rep
theorem held_next {w W0 V V':World} {cs:List Value} {a:AskD} (h:AskI w cs a V∧Below W0.heap.size W0 V) (hb:Below V.heap.size V V'):AskI w cs a V'∧Below W0.heap.size W0 V':=⟨h.1.next hb,h.2.trans (hb.mono h.2.size)⟩
theorem yields_idx {ops:Array Oper} {S:World→Prop} {o:Oper} {c:Act} (hw:Region.wanted o (yielded ops c.tmps) = true) (x y:Operand) (ho:o.op = .indexAddr 24 x y) (b f n k i:Nat) (hx:c.eval x = .slice (some ⟨b,f,none⟩) n k) (hy:c.eval y = .int .i64 (i:Int)) (hlt:i < n):YieldsIf Tryz.prog ops S o (.pointer (some ⟨b,f + i,none⟩)) c:=by
 have h:=yields_indexI (P:=Tryz.prog) (S:=S) (e:=3) hw _ _ _ ho b f n k i 1 i hx hy Tryz.underlying24 (by kernel_rfl) rfl hlt
 rwa [Nat.mul_one] at h
theorem yields_ask {ops:Array Oper} {S:World→Prop} {o:Oper} {c:Act} {w:World} {cs:List Value} {a:AskD} (hw:Region.wanted o (yielded ops c.tmps) = true) (x:Operand) (ho:o.op = .load 107 x) (hx:c.eval x = .pointer (some ⟨w.heap.size,0,none⟩))
  (hS:∀ W,S W→AskI w cs a W):YieldsIf Tryz.prog ops S o (.agg cs.toArray) c :=
 .inl ⟨hw,fun W h=>by
  unfold execOp
  simp only [ho,hx,Instr.loadAt,Instr.sureAddr,Sem.run_bind,Sem.run_pure,Result.andThen_ok,run_load_agg W _ _ _ _ cs Tryz.underlying107 rfl (hS W h).size (hS W h).at]⟩
theorem fld_int {w:World} {Z:Zone} {cs:List Value} {j:Nat} {x:Int} (h:Fld w Z cs j x):cs[j]? = some (.int .i64 x)∧I64 x:=by
 obtain ⟨v,h1,h2,h3⟩:=h
 injection h2 with h2
 exact ⟨by rw [h1,h2],h3⟩
theorem fld_bool {w:World} {Z:Zone} {cs:List Value} {j:Nat} {x:Bool} (h:Fld w Z cs j x):cs[j]? = some (.bool x):=by
 obtain ⟨v,h1,h2⟩:=h
 have h2:[v] = [Value.bool x]:=h2
 injection h2 with h2
 rw [h1,h2]
theorem fld_list {w:World} {Z:Zone} {cs:List Value} {j:Nat} {x:List Int} (h:Fld w Z cs j x):∃ A k,cs[j]? = some (.slice A x.length k)∧rep w Z [.slice A x.length k] x:=by
 obtain ⟨v,h1,h2⟩:=h
 obtain ⟨A,k,e⟩:=slice_form h2
 injection e with e
 subst e
 exact ⟨A,k,h1,h2⟩
theorem ask_set {w:World} {Z:Zone} {cs:List Value} {a:AskD} (h:rep w Z cs a):∃ ss,SettingDAt w Z ss a.s∧∀ j u,ss[j]? = some u→cs[j + 1]? = some u:=by
 obtain ⟨ss,_,_,-,-,-,-,-,hs,-,hc⟩:=ask_cells h
 exact ⟨ss,hs,hc⟩
theorem ask_op {w:World} {Z:Zone} {cs:List Value} {a:AskD} (h:rep w Z cs a):cs[0]? = some (.int .i64 a.op)∧I64 a.op:=by
 obtain ⟨ss,_,_,h0,-,-,h1,-⟩:=ask_cells h
 exact ⟨h0,h1⟩
theorem ask_outs {w:World} {Z:Zone} {cs:List Value} {a:AskD} (h:rep w Z cs a):cs[38]? = some (.int .i64 a.outs)∧I64 a.outs:=by
 obtain ⟨ss,_,_,-,-,h0,-,h1,-⟩:=ask_cells h
 exact ⟨h0,h1⟩
theorem ask_ins {w:World} {Z:Zone} {cs:List Value} {a:AskD} (h:rep w Z cs a):∃ A k,cs[37]? = some (.slice A a.ins.length k)∧rep w Z [.slice A a.ins.length k] a.ins:=by
 obtain ⟨ss,A,k,-,h0,-,-,-,-,h1,-⟩:=ask_cells h
 exact ⟨A,k,h0,h1⟩
theorem dims_len {w W:World} {cs:List Value} {a:AskD} {i:Nat} (h:AskI w cs a W):(a.dims i).length ≤ 17592186044416:=by
 obtain ⟨_,A,k,-,-,-,-,-,-,hi,-⟩:=h.see
 unfold AskD.dims AskD.val
 by_cases hl:i < a.ins.length
 ·obtain ⟨A',c',xs,hv,hnc,hcm,-,hl',hch⟩:=open_slice hi
  obtain ⟨b,o,zc,-,-,hrz,-⟩:=elem_at hl' hch (by decide) (List.getElem?_eq_getElem hl)
  obtain ⟨A1,k1,A2,k2,A3,k3,A4,k4,A5,k5,rfl,-,h1,-⟩:=open_ValD hrz
  obtain ⟨_,_,_,_,_,_,hb,_,_⟩:=open_slice h1
  have hb:(a.ins[i]).dims.length * 8 ≤ 140737488351232:=hb
  rw [List.getD_eq_getElem?_getD,List.getElem?_eq_getElem hl]
  simp only [Option.getD_some]
  omega
 ·rw [List.getD_eq_getElem?_getD,List.getElem?_eq_none (by omega)]
  simp [zeroVD]
end Go.Proofs.YtoeaglpmkjoenaaGreat
set_option linter.unusedSimpArgs false
set_option linter.unusedVariables false
namespace Go.Proofs.YtoeaglpmkjoenaaGreat
open Go.RowKit
open Rep (rep)
theorem below_drews {n:Nat} {v w:World} (h:Below n v w) (m:Nat):Below n v (w.drewN m):=⟨h.os,h.tape,h.output,h.size,h.block⟩
def AskD.even (a:AskD):Prop:=(∀ i,i < a.ins.length→a.dims i = a.dims 0)∧(sizeD (a.dims 0)).2 = 0
set_option maxRecDepth 100000 in
set_option maxHeartbeats 8000000 in
theorem together_any (cs:List Value) (a:AskD) (w:World) (hr:rep w (old w.heap.size) cs a) :
  Calls Tryz.prog 105 #[.agg cs.toArray] w (ShP w fun x ll=>(x = 0→ll.length = 1)∧(a.even→x = 0∧ll = [a.dims 0])):=by
 obtain ⟨A7,k7,h7,hi7⟩:=ask_ins hr
 obtain ⟨nb,nb'⟩:=slice_bnd hi7
 have H7:=Lib.hid h7
 clear h7 hi7
 go_enter Tryz.func105,Tryz.ntmps105
 go_wp2_with (with_reducible refine wpList_box_row rfl 107 _ rfl cs rfl ?_;have hX:=ask_start hr;generalize World.alloc _ _ = W0 at hX ⊢;have HX:=Lib.hid hX;clear hX hr;refine halt ?_)
 unfold Halt
 go_wp2_with (with_reducible refine wpList_load_agg rfl 107 _ rfl _ _ _ rfl cs Tryz.underlying107 rfl HX.out.size HX.out.at ?_)
 refine (askDims cs a 0 _ HX.out.arg).mono ?_
 rintro e w1 ⟨A0,k0,rfl,h0,hb⟩
 have HY:=Lib.hid (And.intro (HX.out.next hb) (show Lst w1 A0 k0 (a.dims 0) from h0))
 obtain ⟨ob,ob'⟩:=slice_bnd h0
 clear h0 hb
 go_wp2_with fail
 go_loopw [4,5] (fun d i wr=>∃ (c:Nat) (B:Option Addr) (k:Nat) (l:List Int),i = .int .i64 c∧d = .slice B l.length k∧1 ≤ c∧c ≤ a.ins.length + 1∧AskI w cs a wr∧Lst wr B k l∧(a.even→l = a.dims 0)) (fun _ i _=>a.ins.length + 1 - (intOf i).toNat)
 case atStart=>exact ⟨1,A0,k0,_,rfl,rfl,by omega,by omega,HY.out.1,HY.out.2,fun _=>rfl⟩
 case round =>
  obtain ⟨c,B,k,l,rfl,rfl,c1,c2,hX,hL,hE⟩:=hrel
  obtain ⟨lb,lb'⟩:=slice_bnd hL
  have hc7:=hX.cell H7.out
  have HA:=Lib.hid (And.intro hX (And.intro hL hE))
  clear hX hL hE
  by_cases hlt:c < a.ins.length
  ·have hlt':(c:Int) < (a.ins.length:Int):=by omega
   go_wp2_with (with_reducible refine wpList_load_agg rfl 107 _ rfl _ _ _ rfl cs Tryz.underlying107 rfl HA.out.1.size HA.out.1.at ?_)
   clear hc7
   refine (askDims cs a c _ HA.out.1.arg).mono ?_
   rintro e w2 ⟨A1,k1,rfl,h1,hb⟩
   have HB:=Lib.hid (And.intro (HA.out.1.next hb) (And.intro (HA.out.2.1.next hb) (show Lst w2 A1 k1 (a.dims c) from h1)))
   clear hb h1
   go_wp2_with fail
   refine (bcast_any l (a.dims c) B A1 k k1 w2 HB.out.2.1 HB.out.2.2).mono ?_
   rintro e w3 ⟨C,j,x,out,rfl,hx,hb,ho,hk,he⟩
   have HC:=Lib.hid (And.intro (HB.out.1.next hb) (And.intro ho.lst (And.intro hx he)))
   clear hb ho hx hk he
   by_cases h0:x = 0
   ·subst h0
    go_wp2
    go_roundw
    case rel =>
     refine ⟨c + 1,C,j,out,by go_num,rfl,by omega,by omega,HC.out.1,HC.out.2.1,fun hE=>?_⟩
     have e1:=HA.out.2.2 hE
     have e2:=(HC.out.2.2.2 (by rw [e1,hE.1 c hlt]) (by rw [e1];exact hE.2)).2
     rw [e2,e1]
    case measure=>simp [intOf];omega
   ·have h0':(x != 0) = true:=by simpa using h0
    have HN:=Lib.hid h0
    clear h0
    go_wp2
    go_ret2
    refine sh_bad HC.out.1.below HC.out.2.2.1 ⟨fun e=>absurd e HN.out,fun hE=>absurd (HC.out.2.2.2 ?_ ?_).1 HN.out⟩
    ·rw [HA.out.2.2 hE,hE.1 c hlt]
    ·rw [HA.out.2.2 hE];exact hE.2
  ·have hlt':¬ (c:Int) < (a.ins.length:Int):=by omega
   go_wp2_with fail
   clear hc7
   refine (one_any l B k wr HA.out.2.1).mono ?_
   rintro e w2 ⟨C,j,x,ll,rfl,hx,hb,hl,rfl,rfl⟩
   have HC:=Lib.hid (And.intro (HA.out.1.next hb) hl)
   clear hx hb hl
   go_wp2
   go_ret2
   exact ⟨C,j,0,[l],rfl,by unfold I64;omega,HC.out.1.below,HC.out.2,fun _=>rfl,fun hE=>⟨rfl,by rw [HA.out.2.2 hE]⟩⟩
end Go.Proofs.YtoeaglpmkjoenaaGreat
set_option linter.unusedSimpArgs false
set_option linter.unusedVariables false
namespace Go.Proofs.YtoeaglpmkjoenaaGreat
open Go.RowKit
open Rep (rep)
theorem wrap_i64 (x:Int):I64 (wrap64 x):=by unfold I64 wrap64;omega
structure LstN (n:Nat) (W:World) (A:Option Addr) (k:Nat) (l:List Int):Prop where
 le:n ≤ W.heap.size
 dat:rep W (old n) [.slice A l.length k] l
section
variable {n k b:Nat} {w W W':World} {A:Option Addr} {l:List Int} {cs:List Value} {a:AskD}
theorem LstN.next (h:LstN n W A k l) (hb:Below W.heap.size W W'):LstN n W' A k l:=⟨Nat.le_trans h.le hb.size,Rep.keep h.dat (Keeps.old_below hb h.le)⟩
theorem LstN.lst (h:LstN n W A k l):Lst W A k l:=Rep.more h.dat (old_le h.le)
theorem lst_n (hX:AskI w cs a W) (hb:Below W.heap.size W W') (h:rep W' (old w.heap.size) [.slice A l.length k] l):LstN w.heap.size W' A k l:=⟨by have:=hX.lt;have:=hb.size;omega,h⟩
theorem LstN.get (h:LstN n W A k l) {j:Nat} {z:Int} (hz:l[j]? = some z):I64 z∧∃ b o,A = some ⟨b,o,none⟩∧b < n∧W.cell? ⟨b,o + j,none⟩ = some (.int .i64 z):=int_at h.dat hz
theorem size_setC (W:World) (p:Addr) (u:Value):(W.setCell p u).heap.size = W.heap.size:=by simp [World.setCell]
theorem LstN.set (h:LstN n W A k l) {p:Addr} (hp:n ≤ p.block) (u:Value):LstN n (W.setCell p u) A k l:=⟨by rw [size_setC];exact h.le,Rep.keep h.dat (Keeps.setCell (fun e=>Nat.lt_irrefl _ (Nat.lt_of_lt_of_le e hp)) u)⟩
theorem AskI.set (h:AskI w cs a W) {p:Addr} (hp:w.heap.size < p.block) (u:Value):AskI w cs a (W.setCell p u) :=
 ⟨⟨h.box.below.setCell (by omega) u,(Below.heap_setCell _ _ _ _ (by omega)).trans h.box.row⟩,h.was⟩
theorem Own.next (h:Own W n A k l) (hb:Below W.heap.size W W'):Own W' n A k l:=h.keep hb
theorem Own.len (h:Own W n A k l):l.length * 8 ≤ 140737488351232:=by
 obtain ⟨_,_,_,_,_,_,hb,_,_⟩:=open_slice (α:=Int) h
 exact hb
theorem Own.at {o:Nat} (h:Own W n (some ⟨b,o,none⟩) k l) {j:Nat} {z:Int} (hz:l[j]? = some z):I64 z∧n ≤ b∧W.cell? ⟨b,o + j,none⟩ = some (.int .i64 z)∧W.frozen? ⟨b,o + j,none⟩ = false:=by
 obtain ⟨h1,b',o',e,h2⟩:=h.get hz
 injection e with e
 injection e with e1 e2
 subst e1 e2
 exact ⟨h1,h2⟩
structure OwnB (n m:Nat) (W:World) (A:Option Addr) (k:Nat) (l:List Int):Prop where
 le:m ≤ W.heap.size
 dat:rep W (fresh n m) [.slice A l.length k] l
theorem OwnB.own {m:Nat} (h:OwnB n m W A k l):Own W n A k l:=Rep.more h.dat ⟨fun b e=>⟨e.1,Nat.lt_of_lt_of_le e.2 h.le⟩,fun e=>e⟩
theorem OwnB.next {m:Nat} (h:OwnB n m W A k l) (hb:Below W.heap.size W W'):OwnB n m W' A k l:=⟨Nat.le_trans h.le hb.size,Rep.keep h.dat (Keeps.fresh_below hb h.le)⟩
theorem OwnB.set {m:Nat} (h:OwnB n m W A k l) {p:Addr} (hp:m ≤ p.block) (u:Value):OwnB n m (W.setCell p u) A k l :=
 ⟨by rw [size_setC];exact h.le,Rep.keep h.dat (Keeps.setCell (fun (e:n ≤ p.block∧p.block < m)=>by omega) u)⟩
theorem OwnB.get {m:Nat} (h:OwnB n m W A k l) {j:Nat} {z:Int} (hz:l[j]? = some z):I64 z∧∃ b o,A = some ⟨b,o,none⟩∧(n ≤ b∧b < m)∧W.cell? ⟨b,o + j,none⟩ = some (.int .i64 z)∧W.frozen? ⟨b,o + j,none⟩ = false:=by
 obtain ⟨h1,b,o,rfl,hb,hc⟩:=int_at h.dat hz
 obtain ⟨-,-,h3,h4⟩:=h.own.at hz
 exact ⟨h1,b,o,rfl,hb,h3,h4⟩
end
end Go.Proofs.YtoeaglpmkjoenaaGreat
set_option linter.unusedSimpArgs false
set_option linter.unusedVariables false
namespace Go.Proofs.YtoeaglpmkjoenaaGreat
open Go.RowKit
open Rep (rep)
structure SpanI (w:World) (ss:List Value) (r:Int) (W:World):Prop where
 row:W.heap[w.heap.size]? = some (.cells ss.toArray 48 (0,0))
 num:W.heap[w.heap.size + 1]? = some (.cells #[.int .i64 r] 3 (0,0))
 below:Below w.heap.size w W
theorem SpanI.drew {w W:World} {ss:List Value} {r:Int} (h:SpanI w ss r W):SpanI w ss r W.drew:=⟨h.row,h.num,h.below.drew⟩
theorem SpanI.cell {w W:World} {ss:List Value} {r:Int} (h:SpanI w ss r W) {j:Nat} {u:Value} (hu:ss[j]? = some u):W.cell? ⟨w.heap.size,j,none⟩ = some u:=(cell_of_row _ _ _ _ _ _ h.row).trans (by rw [List.getElem?_toArray];exact hu)
theorem SpanI.rank {w W:World} {ss:List Value} {r:Int} (h:SpanI w ss r W):W.cell? ⟨w.heap.size + 1,0,none⟩ = some (.int .i64 r):=cell_of_row _ _ _ _ _ _ h.num
end Go.Proofs.YtoeaglpmkjoenaaGreat
set_option linter.unusedSimpArgs false
set_option linter.unusedVariables false
namespace Go.Proofs.YtoeaglpmkjoenaaGreat
open Go.RowKit
open Rep (rep)
theorem LstN.at {n k b o:Nat} {W:World} {l:List Int} (h:LstN n W (some ⟨b,o,none⟩) k l) {j:Nat} {z:Int} (hz:l[j]? = some z):I64 z∧b < n∧W.cell? ⟨b,o + j,none⟩ = some (.int .i64 z):=by
 obtain ⟨h1,b',o',e,h2⟩:=h.get hz
 injection e with e
 injection e with e1 e2
 subst e1 e2
 exact ⟨h1,h2⟩
theorem AskI.elem {w W:World} {cs:List Value} {a:AskD} {k b o:Nat} {l:List Int} (hX:AskI w cs a W) (h:LstN w.heap.size w (some ⟨b,o,none⟩) k l) {j:Nat} {z:Int} (hz:l[j]? = some z):W.cell? ⟨b,o + j,none⟩ = some (.int .i64 z):=by
 obtain ⟨-,hb,hc⟩:=h.at hz
 exact (hX.below.cell (p:=⟨b,o + j,none⟩) hb).trans hc
end Go.Proofs.YtoeaglpmkjoenaaGreat
