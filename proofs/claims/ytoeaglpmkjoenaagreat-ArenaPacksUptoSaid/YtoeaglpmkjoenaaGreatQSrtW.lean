/-
  Chapter 10: Squeeze and Unsqueeze. No condition.
-/
/-
  Chapter 10: Slice. No condition.
-/
/-
  Chapter 10: Split. No condition.
-/
/-
  Chapter 10: reductions. No condition.
-/
/-
  Chapter 10: how many windows there are. No condition.
-/
/-
  Steps of a region that draws: parts of a list. No condition.
-/
/-
  Chapter 21: the walks of slices.SortStableFunc at numbers: what they make is what the plain steps make. No condition.
-/
import Derived.Test.YtoeaglpmkjoenaaGreatQInfK
import Derived.Laws.CopyOwn
import Derived.Deep.RegionLaw
import Derived.Deep.CutBlock
import Derived.BigQuiet
import Derived.Deep.QuietTactic
import Derived.Test.YtoeaglpmkjoenaaGreatQSrtP
import Derived.Test.YtoeaglpmkjoenaaGreatQResV
set_option linter.unusedSimpArgs false
set_option linter.unusedVariables false
namespace Go.Proofs.YtoeaglpmkjoenaaGreat
open Go.RowKit
open Rep (rep)
theorem bool_at {W:World} {A:Option Addr} {k:Nat} {l:List Bool} {Z:Zone} (h:rep W Z [.slice A l.length k] l) {j:Nat} {z:Bool} (hz:l[j]? = some z):∃ b o,A = some ⟨b,o,none⟩∧Z.blk b∧W.cell? ⟨b,o + j,none⟩ = some (.bool z):=by
 obtain ⟨A',c',xs,hv,hnc,hcm,-,hl,hch⟩:=open_slice h
 simp only [Value.slice.injEq,true_and] at hv
 obtain ⟨rfl,rfl⟩:=hv
 obtain ⟨b,o,xc,rfl,hbB,hrz,hcell⟩:=elem_at hl hch (by decide) hz
 have hrz:xc = [.bool z]:=hrz
 subst hrz
 have h0:=hcell 0 _ rfl
 rw [show o + (j * Rep.size Bool + 0) = o + j from by simp [Rep.size]] at h0
 exact ⟨b,o,rfl,hbB,h0.1⟩
structure AppI (B:World) (W:World) (v:Value) (l:List Int):Prop where
 own:W.ownsRow B.heap.size 3 1 v l.length (l.map (Value.int .i64))
 ints:∀ x ∈ l,I64 x
 below:Below B.heap.size B W
theorem AppI.nil (B:World):AppI B B (.slice none 0 0) []:=⟨World.ownsRow_nil _ _ _ _,by simp,Below.refl _ _⟩
theorem AppI.next {B W W':World} {v:Value} {l:List Int} (h:AppI B W v l) (hb:Below W.heap.size W W'):AppI B W' v l:=⟨own_below h.own hb,h.ints,h.below.trans (hb.mono h.below.size)⟩
theorem AppI.more {B W W':World} {v v':Value} {l:List Int} {x:Int} {ob:Obj} (h:AppI B W v l) (hx:I64 x) (hown:W'.ownsRow B.heap.size 3 1 v' (l.length + 1) (l.map (Value.int .i64)++[.int .i64 x])) (hg:(W.alloc ob).grownBy W' v.ownBlock):AppI B W' v' (l++[x]) :=
 ⟨by rw [List.length_append,List.map_append];exact hown,fun y hy=>(List.mem_append.1 hy).elim (h.ints y) (fun h'=>by rw [List.mem_singleton.1 h'];exact hx),
  (h.below.alloc h.below.size _).grown hg (by have:=h.below.size;rw [World.size_alloc];omega) (fun g hg=>(h.own.lt g hg).1)⟩
theorem AppI.lst {B W:World} {v:Value} {l:List Int} (h:AppI B W v l) (hl:l.length ≤ 100000):∃ A k,v = .slice A l.length k∧Own W B.heap.size A k l:=own_row h.own (by omega) h.ints
end Go.Proofs.YtoeaglpmkjoenaaGreat
set_option linter.unusedSimpArgs false
set_option linter.unusedVariables false
namespace Go.Proofs.YtoeaglpmkjoenaaGreat
open Go.RowKit
open Rep (rep)
theorem AppI.list {B W:World} {v:Value} {l:List Int} (h:AppI B W v l) (hl:l.length * 8 ≤ 140737488351232):∃ A k,v = .slice A l.length k∧Own W B.heap.size A k l:=own_row h.own hl h.ints
def Apart2 (v u:Value):Prop:=v.ownBlock = none ∨ u.ownBlock = none ∨ v.ownBlock ≠ u.ownBlock
theorem Apart2.symm {v u:Value} (h:Apart2 v u):Apart2 u v:=by
 unfold Apart2 at *
 rcases h with h | h | h
 ·exact .inr (.inl h)
 ·exact .inl h
 ·exact .inr (.inr (Ne.symm h))
theorem Apart2.off {v u:Value} (h:Apart2 v u):u.ownBlock = none ∨ u.ownBlock ≠ v.ownBlock:=by
 rcases h with h | h | h
 ·cases hu:u.ownBlock with
  | none=>exact .inl rfl
  | some x=>exact .inr (by rw [h];exact fun e=>by cases e)
 ·exact .inl h
 ·exact .inr (Ne.symm h)
def Gr (g:Bool) (B:World) (A:Option Addr) (k:Nat) (l0:List Int) (W:World) (v:Value) (c:Nat):Prop:=(g = true∧v = .slice A l0.length k) ∨ (g = false∧∃ l,AppI B W v l∧l.length = c)
section
variable {g:Bool} {B W W':World} {A:Option Addr} {k c:Nat} {l0:List Int} {v u:Value}
theorem Gr.next (h:Gr g B A k l0 W v c) (hb:Below W.heap.size W W'):Gr g B A k l0 W' v c:=h.imp id fun ⟨h1,l,h2,h3⟩=>⟨h1,l,h2.next hb,h3⟩
theorem Gr.app (h:Gr g B A k l0 W v c) (hg:g = false):∃ l,AppI B W v l∧l.length = c:=h.elim (fun h=>by rw [hg] at h;cases h.1) fun h=>h.2
theorem Gr.up (h:Gr g B A k l0 W v c) (hg:g = true) {c':Nat}:Gr g B A k l0 W v c':=h.elim .inl fun h=>by rw [hg] at h;cases h.1
theorem AppI.kept {l:List Int} {ob:Obj} {row:Option Nat} (h:AppI B W v l) (hg:(W.alloc ob).grownBy W' row) (hne:v.ownBlock = none ∨ v.ownBlock ≠ row) (hr:∀ x,row = some x→B.heap.size ≤ x):AppI B W' v l :=
 ⟨(own_below h.own ((Below.refl _ _).alloc (Nat.le_refl _) _)).kept hg hne,h.ints,(h.below.alloc h.below.size _).grown hg (by have:=h.below.size;rw [World.size_alloc];omega) hr⟩
theorem Gr.kept {ob:Obj} {row:Option Nat} (h:Gr g B A k l0 W v c) (hg:(W.alloc ob).grownBy W' row) (hr:∀ x,row = some x→B.heap.size ≤ x) (hne:g = false→v.ownBlock = none ∨ v.ownBlock ≠ row):Gr g B A k l0 W' v c :=
 h.imp id fun ⟨h1,l,h2,h3⟩=>⟨h1,l,h2.kept hg (hne h1) hr,h3⟩
theorem Gr.lt (h:Gr g B A k l0 W v c) (hg:g = false):∀ x,v.ownBlock = some x→x < W.heap.size + 1:=fun x hx=>by
 obtain ⟨l,h1,-⟩:=h.app hg
 have:=(h1.own.lt x hx).2
 omega
theorem Gr.fin (h:Gr g B A k l0 W v c) {n:Nat} (hn:n ≤ B.heap.size) (hO:Own B n A k l0) (hb:Below B.heap.size B W) (hc:c * 8 ≤ 140737488351232):∃ A' k' l,v = .slice A' l.length k'∧Own W n A' k' l:=by
 rcases h with ⟨-,rfl⟩ | ⟨-,l,h1,h2⟩
 ·exact ⟨A,k,l0,rfl,hO.next hb⟩
 ·obtain ⟨A',k',h3,h4⟩:=h1.list (by rw [h2];exact hc)
  exact ⟨A',k',l,h3,h4.more hn⟩
end
end Go.Proofs.YtoeaglpmkjoenaaGreat
set_option linter.unusedSimpArgs false
set_option linter.unusedVariables false
namespace Go.Proofs.YtoeaglpmkjoenaaGreat
open Go.RowKit
open Rep (rep)
def Zr (n m:Nat) (v:Value):Zone:=⟨fun b=>n ≤ b∧b < m∧v.ownBlock ≠ some b,false⟩
structure LLs (n:Nat) (W:World) (v:Value) (ll:List (List Int)) (xs:List Value):Prop where
 own:W.ownsRow n 24 1 v ll.length xs
 ch:Chunks W (Zr n W.heap.size v) xs ll
 le:n ≤ W.heap.size
theorem LLs.nil (W:World):LLs W.heap.size W (.slice none 0 0) [] []:=⟨World.ownsRow_nil _ _ _ _,rfl,Nat.le_refl _⟩
theorem LLs.more {n k:Nat} {W W2 W':World} {v v':Value} {ll:List (List Int)} {xs:List Value} {A:Option Addr} {l:List Int} {ob:Obj} (h:LLs n W v ll xs) (hb:Below W.heap.size W W2) (ho:Own W2 W.heap.size A k l)
  (hown:W'.ownsRow n 24 1 v' (ll.length + 1) (xs++[.slice A l.length k])) (hg:(W2.alloc ob).grownBy W' v.ownBlock) (hs:v'.ownBlock = v.ownBlock ∨ v'.ownBlock = some (W2.heap.size + 1)):LLs n W' v' (ll++[l]) (xs++[.slice A l.length k]):=by
 have hsz:W2.heap.size + 1 ≤ W'.heap.size:=by have:=hg.size;rwa [World.size_alloc] at this
 have h2:=hb.size
 refine ⟨by rw [List.length_append];exact hown,?_,by have:=h.le;omega⟩
 have k1:Keeps (Zr n W.heap.size v) W W':=(Keeps.of_below (hb.trans ((Below.refl _ _).alloc h2 ob)) (fun k (hk:n ≤ k∧k < W.heap.size∧v.ownBlock ≠ some k)=>hk.2.1)).trans (Keeps.of_grown hg fun k (hk:n ≤ k∧k < W.heap.size∧v.ownBlock ≠ some k)=>⟨by rw [World.size_alloc];have:=hk.2.1;omega,fun e=>hk.2.2 e.symm⟩)
 have hl:∀ g,v.ownBlock = some g→g < W.heap.size:=fun g hv=>(h.own.lt g hv).2
 have l1:(Zr n W.heap.size v).le (Zr n W'.heap.size v'):=⟨fun b hb=>⟨hb.1,by have:=hb.2.1;omega,fun e=>by
  rcases hs with hs | hs
  ·exact hb.2.2 (hs ▸ e)
  ·rw [hs] at e;injection e with e;have:=hb.2.1;omega⟩,fun e=>by cases e⟩
 have k2:Keeps (fresh W.heap.size W2.heap.size) W2 W':=(Keeps.of_below ((Below.refl _ _).alloc (Nat.le_refl _) ob) (fun k (hk:W.heap.size ≤ k∧k < W2.heap.size)=>hk.2)).trans (Keeps.of_grown hg fun k (hk:W.heap.size ≤ k∧k < W2.heap.size)=>⟨by rw [World.size_alloc];have:=hk.2;omega,fun e=>by have:=hl _ e.symm;have:=hk.1;omega⟩)
 have l2:(fresh W.heap.size W2.heap.size).le (Zr n W'.heap.size v'):=⟨fun b hb=>⟨by have:=hb.1;have:=h.le;omega,by have:=hb.2;omega,fun e=>by
  rcases hs with hs | hs
  ·rw [hs] at e;have:=hl _ e;have:=hb.1;omega
  ·rw [hs] at e;injection e with e;have:=hb.2;omega⟩,fun e=>by cases e⟩
 exact Chunks.snoc (Chunks.more l1 (Chunks.keep k1 h.ch)) (Rep.more (Rep.keep ho k2) l2)
theorem LLs.fin {n:Nat} {W:World} {v:Value} {ll:List (List Int)} {xs:List Value} (h:LLs n W v ll xs) (hl:ll.length ≤ 100000):∃ A k,v = .slice A ll.length k∧rep W (old W.heap.size) [.slice A ll.length k] ll:=by
 have hr:rep W (old W.heap.size) [v] ll:=rep_of_own h.own (Chunks.more ⟨fun b (hb:n ≤ b∧b < W.heap.size∧v.ownBlock ≠ some b)=>hb.2.1,fun e=>by cases e⟩ h.ch) (by show ll.length * 24 ≤ reach;unfold reach;omega) (fun g _ _ h2=>h2)
 obtain ⟨A,k,e⟩:=slice_form hr
 injection e with e
 subst e
 exact ⟨A,k,rfl,hr⟩
end Go.Proofs.YtoeaglpmkjoenaaGreat
set_option linter.unusedSimpArgs false
set_option linter.unusedVariables false
namespace Go.Proofs.YtoeaglpmkjoenaaGreat
open Go.RowKit
open Rep (rep)
def OwnM (W:World) (n:Nat) (A:Option Addr) (k:Nat) (l:List Bool):Prop:=rep W (fresh n W.heap.size) [.slice A l.length k] l
section
variable {n k b o:Nat} {W W':World} {A:Option Addr} {l:List Bool}
theorem OwnM.next (h:OwnM W n A k l) (hb:Below W.heap.size W W'):OwnM W' n A k l:=by
 unfold OwnM at *
 exact Rep.more (Rep.keep h (.of_below hb fun _ h=>h.2)) ⟨fun b h=>⟨h.1,Nat.lt_of_lt_of_le h.2 hb.size⟩,fun h=>h⟩
theorem OwnM.get (h:OwnM W n A k l) {j:Nat} {z:Bool} (hz:l[j]? = some z):∃ b o,A = some ⟨b,o,none⟩∧n ≤ b∧W.cell? ⟨b,o + j,none⟩ = some (.bool z)∧W.frozen? ⟨b,o + j,none⟩ = false:=by
 obtain ⟨A',c',xs,hv,hnc,hcm,-,hl,hch⟩:=open_slice (α:=Bool) h
 simp only [Value.slice.injEq,true_and] at hv
 obtain ⟨rfl,rfl⟩:=hv
 obtain ⟨b,o,xc,rfl,hbB,hrz,hcell⟩:=elem_at hl hch (by decide) hz
 have hrz:xc = [.bool z]:=hrz
 subst hrz
 have h0:=hcell 0 _ rfl
 rw [show o + (j * Rep.size Bool + 0) = o + j from by simp [Rep.size]] at h0
 exact ⟨b,o,rfl,hbB.1,h0.1,h0.2 rfl⟩
theorem OwnM.set (h:OwnM W n (some ⟨b,o,none⟩) k l) {j:Nat} (hj:j < l.length) (x:Bool):OwnM (W.setCell ⟨b,o + j,none⟩ (.bool x)) n (some ⟨b,o,none⟩) k (l.set j x):=by
 unfold OwnM at *
 obtain ⟨A,m,c,xs,h1,h2,h3,h4,h5,h6,h7⟩:=h
 simp only [List.cons.injEq,Value.slice.injEq,and_true] at h1
 obtain ⟨rfl,rfl,rfl⟩:=h1
 have e:=chunks_bools h7
 subst e
 have h6':=h6.set_at (j:=j) (by rw [List.length_map];exact hj) (.bool x)
 rw [← List.map_set] at h6'
 rw [size_setC]
 exact ⟨_,_,_,_,rfl,by simp,by rw [List.length_set];exact h3,h4,by simpa using h5,h6',chunks_of_bools _⟩
end
end Go.Proofs.YtoeaglpmkjoenaaGreat
set_option linter.unusedSimpArgs false
set_option linter.unusedVariables false
namespace Go.Proofs.YtoeaglpmkjoenaaGreat
open Go.RowKit
open Rep (rep)
theorem cell_row {W:World} {q:Nat} {cs:List Value} {t:TypeId} (h:W.heap[q]? = some (.cells cs.toArray t (0,0))) {j:Nat} {u:Value} (hu:cs[j]? = some u):W.cell? ⟨q,j,none⟩ = some u:=(cell_of_row _ _ _ _ _ _ h).trans (by rw [List.getElem?_toArray];exact hu)
end Go.Proofs.YtoeaglpmkjoenaaGreat
set_option linter.unusedSimpArgs false
set_option linter.unusedVariables false
namespace Go.Proofs.YtoeaglpmkjoenaaGreat
open Go.RowKit
open Rep (rep)
section
variable {ops:Array Oper} {S:World→Prop} {o:Oper} {a:Act}
theorem yields_post (hw:Region.wanted o (yielded ops a.tmps) = true) (x y:Operand) (ho:o.op = .slice 24 x (some y) none none) (b f n c j:Nat) (hx:a.eval x = .slice (some ⟨b,f,none⟩) n c) (hy:a.eval y = .int .i64 (j:Int)) (hj:j ≤ n) (hnc:n ≤ c) (hc:¬ c - j = 0):YieldsIf Tryz.prog ops S o (.slice (some ⟨b,f + j,none⟩) (n - j) (c - j)) a :=
 .inl ⟨hw,fun w h=>by
  have h0:(0:Int) ≤ (j:Int):=Int.natCast_nonneg _
  have h1:(j:Int) ≤ (n:Int):=by omega
  have h2:(n:Int) ≤ (c:Int):=by omega
  unfold execOp
  simp only [ho,hx,hy,Option.map]
  go_simp
  intro e
  omega⟩
theorem yields_eqlD (hw:Region.wanted o (yielded ops a.tmps) = true) (x y:Operand) (t u:TypeId) (ho:o.op = .binOp .eql t x y u) (p q:Int) (c:Bool) (hx:a.eval x = .int .i64 p) (hy:a.eval y = .int .i64 q) (_:Tryz.prog.underlying t = some (.int .i64)) (h:(p == q) = c):YieldsIf Tryz.prog ops S o (.bool c) a :=
 .inl ⟨hw,fun w _=>by
  subst h
  unfold execOp
  simp only [ho,hx,hy]
  go_simp⟩
end
theorem yields_postA {ops:Array Oper} {S:World→Prop} {o:Oper} {a:Act} (hw:Region.wanted o (yielded ops a.tmps) = true) (x y:Operand) (ho:o.op = .slice 24 x (some y) none none) (b f n c j q:Nat) (hx:a.eval x = .slice (some ⟨b,f,none⟩) n c) (hy:a.eval y = .int .i64 (j:Int)) (hj:j ≤ n) (hnc:n ≤ c) (hq:q = if c - j = 0 then 0 else j):YieldsIf Tryz.prog ops S o (.slice (some ⟨b,f + q,none⟩) (n - j) (c - j)) a:=by
 by_cases hc:c - j = 0
 ·rw [if_pos hc] at hq
  subst hq
  refine .inl ⟨hw,fun w h=>?_⟩
  have h0:(0:Int) ≤ (j:Int):=Int.natCast_nonneg _
  have h1:(j:Int) ≤ (n:Int):=by omega
  have h2:(n:Int) ≤ (c:Int):=by omega
  unfold execOp
  simp only [ho,hx,hy,Option.map]
  go_simp
  intro e
  omega
 ·rw [if_neg hc] at hq
  subst hq
  exact yields_post hw x y ho b f n c q hx hy hj hnc hc
end Go.Proofs.YtoeaglpmkjoenaaGreat
set_option linter.unusedSimpArgs false
set_option linter.unusedVariables false
namespace Go.Proofs.YtoeaglpmkjoenaaGreat
open Go.RowKit
open Rep (rep)
structure SrtI (w0:World) (g:Nat) (l:List Int) (W:World):Prop where
 fr:w0.grownBy W (some g)
 row:∃ cur:Array Value,W.heap[g]? = some (.cells cur 3 (0,0))∧∀ (j:Nat) (x:Int),l[j]? = some x→cur[j]? = some (.int .i64 x)
section
variable {w0 W:World} {g:Nat} {l:List Int}
theorem SrtI.cell (h:SrtI w0 g l W) {j:Nat} (hj:j < l.length):W.cell? ⟨g,j,none⟩ = some (.int .i64 (l.getD j 0)):=by
 obtain ⟨cur,h1,h2⟩:=h.row
 rw [cell_of_row _ _ _ _ _ _ h1]
 refine h2 j _ ?_
 rw [List.getD_eq_getElem?_getD,List.getElem?_eq_getElem hj]
 rfl
theorem SrtI.free (h:SrtI w0 g l W) (j:Nat):W.frozen? ⟨g,j,none⟩ = false:=by
 obtain ⟨cur,h1,-⟩:=h.row
 simp [World.frozen?,h1]
theorem grown_two {A B C:World} {row:Option Nat} (h1:A.grownBy B row) (h2:B.grownBy C row):A.grownBy C row :=
 ⟨h2.os.trans h1.os,h2.tape.trans h1.tape,h2.output.trans h1.output,Nat.le_trans h1.size h2.size,fun j hj hn=>(h2.block j (Nat.lt_of_lt_of_le hj h1.size) hn).trans (h1.block j hj hn)⟩
theorem SrtI.set (h:SrtI w0 g l W) {j:Nat} (hj:j < l.length) (x:Int):SrtI w0 g (l.set j x) (W.setCell ⟨g,j,none⟩ (.int .i64 x)):=by
 obtain ⟨cur,h1,h2⟩:=h.row
 have hc:=h2 j (l[j]) (List.getElem?_eq_getElem hj)
 have hjc:=(Array.getElem?_eq_some_iff.1 hc).1
 rw [set_as_row h1]
 refine ⟨grown_two h.fr (grown_setRow _ _ _),_,heap_setRow _ _ _ _ _ h1,fun k y hk=>?_⟩
 by_cases e:j = k
 ·subst e
  rw [List.getElem?_set_self hj] at hk
  injection hk with hk
  subst hk
  rw [Array.getElem?_setIfInBounds_self_of_lt hjc]
 ·rw [List.getElem?_set_ne e] at hk
  rw [Array.getElem?_setIfInBounds_ne e]
  exact h2 k y hk
theorem SrtI.drewN (h:SrtI w0 g l W) (n:Nat):SrtI w0 g l (W.drewN n):=⟨⟨h.fr.os,h.fr.tape,h.fr.output,h.fr.size,h.fr.block⟩,h.row⟩
theorem SrtI.swap (h:SrtI w0 g l W) {i j:Nat} (hi:i < l.length) (hj:j < l.length):SrtI w0 g (swp l i j) ((W.setCell ⟨g,i,none⟩ (.int .i64 (l.getD j 0))).setCell ⟨g,j,none⟩ (.int .i64 (l.getD i 0))):=(h.set hi _).set (by rw [List.length_set];exact hj) _
end
set_option maxRecDepth 100000 in
set_option maxHeartbeats 8000000 in
theorem swapRange_any (w0 w:World) (g c a b n:Nat) (l:List Int) (f:Value) (h:SrtI w0 g l w) (hc:l.length ≤ c) (hc2:c ≤ 9223372036854775807) (h1:a + n ≤ l.length) (h2:b + n ≤ l.length) (hl:l.length ≤ 1000000) (hne:¬ a = b) :
  Calls Tryz.prog 117 #[.slice (some ⟨g,0,none⟩) l.length c,.int .i64 a,.int .i64 b,.int .i64 n,f] w fun e w'=>e = .returned (.tuple #[])∧SrtI w0 g (rngD n a b l) w':=by
 have HI:=Lib.hid h
 clear h
 obtain ⟨m,hm⟩:∃ m,l.length = m:=⟨_,rfl⟩
 rw [hm] at hc h1 h2 hl ⊢
 have HM:=Lib.hid hm
 clear hm
 go_enter Tryz.func117,Tryz.ntmps117
 go_wp2_with fail
 go_loopw [10] (fun i wr=>∃ (k:Nat) (cur:List Int),i = .int .i64 k∧k ≤ n∧cur.length = m∧rngD (n - k) (a + k) (b + k) cur = rngD n a b l∧SrtI w0 g cur wr) (fun i _=>n - (intOf i).toNat)
 case atStart=>exact ⟨0,l,rfl,Nat.zero_le _,HM.out,rfl,HI.out⟩
 case round =>
  clear HI
  obtain ⟨k,cur,rfl,hk,hcl,hrg,hS⟩:=hrel
  obtain ⟨wx,rfl⟩:∃ wx,wx = wr:=⟨_,rfl⟩
  by_cases hlt:k < n
  ·have hlt':(k:Int) < (n:Int):=by omega
   have HS:=Lib.hid hS
   have HCL:=Lib.hid (And.intro hcl hrg)
   have kx:=hS.cell (j:=a + k) (by omega)
   have ky:=hS.cell (j:=b + k) (by omega)
   have fx:=hS.free (a + k)
   have fy:=hS.free (b + k)
   obtain ⟨vx,hvx⟩:∃ v,cur.getD (a + k) 0 = v:=⟨_,rfl⟩
   obtain ⟨vy,hvy⟩:∃ v,cur.getD (b + k) 0 = v:=⟨_,rfl⟩
   rw [hvx] at kx
   rw [hvy] at ky
   have HV:=Lib.hid (And.intro hvx hvy)
   have hxy:¬ a + k = b + k:=by omega
   have hx0:(0:Int) ≤ (a:Int) + (k:Int):=by omega
   have hy0:(0:Int) ≤ (b:Int) + (k:Int):=by omega
   have hxm':(a:Int) + (k:Int) < (m:Int):=by omega
   have hym':(b:Int) + (k:Int) < (m:Int):=by omega
   have h1:=(hS.swap (i:=a + k) (j:=b + k) (by omega) (by omega)).drewN 1
   rw [hvx,hvy] at h1
   have HQ:=Lib.hid h1
   clear hS hcl hrg hvx hvy h1
   go_wp2_with fail
   go_big_region
   clear kx ky fx fy
   go_wp2
   go_roundw
   case rel =>
    refine ⟨k + 1,swp cur (a + k) (b + k),by go_num,by omega,by rw [swp_len];exact HCL.out.1,?_,HQ.out⟩
    rw [← HCL.out.2,show n - k = (n - (k + 1)) + 1 by omega,rngD]
    rfl
   case measure=>simp [intOf];omega
  ·have hlt':¬ (k:Int) < (n:Int):=by omega
   have hkn:k = n:=by omega
   subst hkn
   rw [Nat.sub_self] at hrg
   have HR:=Lib.hid (show SrtI w0 g (rngD k a b l) wx by rw [← hrg];exact hS)
   clear hrg hS hlt
   go_wp2
   go_end0
   exact ⟨rfl,HR.out⟩
set_option maxRecDepth 100000 in
set_option maxHeartbeats 8000000 in
theorem rotate_any (w0 w:World) (g c a m b N:Nat) (l:List Int) (f:Value) (h:SrtI w0 g l w) (hc:l.length ≤ c) (hc2:c ≤ 9223372036854775807) (h1:a < m) (h2:m < b) (h3:b ≤ l.length) (hl:l.length ≤ 1000000) (hN:(m - a) + (b - m) ≤ N) :
  Calls Tryz.prog 78 #[.slice (some ⟨g,0,none⟩) l.length c,.int .i64 a,.int .i64 m,.int .i64 b,f] w fun e w'=>e = .returned (.tuple #[])∧SrtI w0 g (rotD m N (m - a) (b - m) l) w':=by
 have HI:=Lib.hid h
 clear h
 obtain ⟨n,hn⟩:∃ n,l.length = n:=⟨_,rfl⟩
 rw [hn] at hc h3 hl ⊢
 have HM:=Lib.hid hn
 have HN:=Lib.hid hN
 clear hn hN
 have ha:(m:Int) - (a:Int) = ((m - a:Nat):Int):=by omega
 have hb:(b:Int) - (m:Int) = ((b - m:Nat):Int):=by omega
 go_enter Tryz.func78,Tryz.ntmps78
 go_wp2_with fail
 try rw [ha,hb]
 obtain ⟨i0,hi0⟩:∃ i,m - a = i:=⟨_,rfl⟩
 obtain ⟨j0,hj0⟩:∃ j,b - m = j:=⟨_,rfl⟩
 rw [hi0,hj0]
 have HIJ:Hid (0 < i0∧0 < j0∧i0 ≤ m∧m + j0 ≤ n∧i0 + j0 ≤ N):=Lib.hid (by have:=HN.out;omega)
 have HI0:=Lib.hid hi0
 have HJ0:=Lib.hid hj0
 clear ha hb hi0 hj0 HN
 go_loopw [10,11] (fun x y wr=>∃ (i j k:Nat) (cur:List Int),x = .int .i64 i∧y = .int .i64 j∧0 < i∧0 < j∧i ≤ m∧m + j ≤ n∧i + j ≤ k∧cur.length = n∧rotD m k i j cur = rotD m N i0 j0 l∧SrtI w0 g cur wr) (fun x y _=>(intOf x).toNat + (intOf y).toNat)
 case atStart =>
  obtain ⟨p1,p2,p3,p4,p5⟩:=HIJ.out
  exact ⟨i0,j0,N,l,rfl,rfl,p1,p2,p3,p4,p5,HM.out,rfl,HI.out⟩
 case round =>
  clear HI
  obtain ⟨i,j,k,cur,rfl,rfl,p1,p2,p3,p4,p5,hcl,hrt,hS⟩:=hrel
  obtain ⟨wx,rfl⟩:∃ wx,wx = wr:=⟨_,rfl⟩
  have HS:=Lib.hid hS
  have HCL:=Lib.hid hcl
  obtain ⟨k',rfl⟩:∃ k',k = k' + 1:=⟨k - 1,by omega⟩
  have HRT:=Lib.hid hrt
  clear hS hcl hrt
  have hmi:(m:Int) - (i:Int) = ((m - i:Nat):Int):=by omega
  by_cases hij:i = j
  ·subst hij
   have hcall:=swapRange_any w0 wx g c (m - i) m i cur f HS.out (by rw [HCL.out];exact hc) hc2 (by rw [HCL.out];omega) (by rw [HCL.out];omega) (by rw [HCL.out];exact hl) (by omega)
   rw [HCL.out] at hcall
   have HC:=Lib.hid hcall
   have HF:=Lib.hid (show rngD i (m - i) m cur = rotD m N i0 j0 l by rw [← HRT.out,rotD,if_pos rfl])
   clear hcall
   go_wp2_with fail
   try rw [hmi]
   refine HC.out.mono ?_
   rintro e w7 ⟨rfl,h7⟩
   have H7:=Lib.hid h7
   clear h7
   go_wp2
   go_end0
   exact ⟨rfl,by rw [HI0.out,HJ0.out,← HF.out];exact H7.out⟩
  ·have hij':¬ (i:Int) = (j:Int):=by omega
   by_cases hgt:j < i
   ·have hgt':(i:Int) > (j:Int):=by omega
    have hcall:=swapRange_any w0 wx g c (m - i) m j cur f HS.out (by rw [HCL.out];exact hc) hc2 (by rw [HCL.out];omega) (by rw [HCL.out];omega) (by rw [HCL.out];exact hl) (by omega)
    rw [HCL.out] at hcall
    have HC:=Lib.hid hcall
    have HF:=Lib.hid (show rotD m k' (i - j) j (rngD j (m - i) m cur) = rotD m N i0 j0 l by rw [← HRT.out,rotD,if_neg hij,if_pos hgt])
    have HL7:=Lib.hid (show (rngD j (m - i) m cur).length = n by rw [(rngD_perm j (m - i) m cur (by rw [HCL.out];omega) (by rw [HCL.out];omega)).length_eq,HCL.out])
    clear hcall
    go_wp2_with fail
    try rw [hmi]
    refine HC.out.mono ?_
    rintro e w7 ⟨rfl,h7⟩
    have H7:=Lib.hid h7
    clear h7
    go_wp2
    go_roundw
    case rel=>exact ⟨i - j,j,k',_,by go_num,rfl,by omega,p2,by omega,p4,by omega,HL7.out,HF.out,H7.out⟩
    case measure=>simp [intOf];omega
   ·have hgt':¬ (i:Int) > (j:Int):=by omega
    have hmj:(m:Int) + (j:Int) - (i:Int) = ((m + j - i:Nat):Int):=by omega
    have hcall:=swapRange_any w0 wx g c (m - i) (m + j - i) i cur f HS.out (by rw [HCL.out];exact hc) hc2 (by rw [HCL.out];omega) (by rw [HCL.out];omega) (by rw [HCL.out];exact hl) (by omega)
    rw [HCL.out] at hcall
    have HC:=Lib.hid hcall
    have HF:=Lib.hid (show rotD m k' i (j - i) (rngD i (m - i) (m + j - i) cur) = rotD m N i0 j0 l by rw [← HRT.out,rotD,if_neg hij,if_neg hgt])
    have HL7:=Lib.hid (show (rngD i (m - i) (m + j - i) cur).length = n by rw [(rngD_perm i (m - i) (m + j - i) cur (by rw [HCL.out];omega) (by rw [HCL.out];omega)).length_eq,HCL.out])
    clear hcall
    go_wp2_with fail
    try rw [hmi,hmj]
    refine HC.out.mono ?_
    rintro e w7 ⟨rfl,h7⟩
    have H7:=Lib.hid h7
    clear h7
    go_wp2
    go_roundw
    case rel=>exact ⟨i,j - i,k',_,rfl,by go_num,p1,by omega,p3,by omega,by omega,HL7.out,HF.out,H7.out⟩
    case measure=>simp [intOf];omega
end Go.Proofs.YtoeaglpmkjoenaaGreat
