/-
  Chapter 21: slices.SortFunc at rows of bytes: the library's contract laid (the table of numbers as the kit's tool prints it). No condition.
-/
/-
  The base of this seat's proofs: what a slice, a string, a struct in memory holds, and that it is kept. No program in sight.
-/
import Derived.Shelf.SlSortCmp.NoneTotal
import Derived.Test.YtoeaglpmkjoenaaGreatProg
import Derived.WalkKit
import Derived.WalkSpells
import Derived.WalkLawsBesides
import Derived.Deep.Draws
import Derived.Deep.DeepFit
import Derived.Handy
import Derived.Lib.Hide
import Derived.Maps.AppendAt
import Derived.Deep.AppendLies
import Derived.Laws.OwnMore
import Derived.Laws.Rows
import Derived.Lib.AppendZerosOnto
import Derived.Lib.AppendZeros
import Derived.Lib.SliceRun
import Derived.BigQuiet
import Derived.Deep.QuietTactic
set_option linter.unusedSimpArgs false
set_option linter.unusedVariables false
namespace Go.Proofs.YtoeaglpmkjoenaaGreat
open Go.Shelf
def sortB_ren:Go.Shelf.Ren:=⟨fun | 6=>37 | 15=>62 | 14=>61 | 28=>89 | 29=>90 | 20=>81 | 21=>82 | 22=>83 | 23=>84 | 24=>85 | 25=>86 | 26=>87 | 27=>88 | 46=>118 | 47=>119 | 48=>120 | 49=>121 | 50=>122 | 57=>155 | n=>n,fun | 22=>57 | 24=>59 | 25=>81 | 3=>3 | 39=>101 | 0=>0 | 53=>46 | 55=>115 | 4=>4 | 46=>118 | 45=>117 | 50=>122 | 5=>5 | 9=>9 | 66=>137 | 70=>141 | 76=>163 | 77=>164 | n=>n,fun | n=>n⟩
theorem sortB:Go.Proofs.SlLaysF0.n6 Tryz.prog sortB_ren:={
 mixed:=by kernel_rfl
 f6:=⟨Tryz.f37.name,by decide,Tryz.func37.trans (congrArg some (by kernel_rfl))⟩
 f14:=⟨Tryz.f61.name,by decide,Tryz.func61.trans (congrArg some (by kernel_rfl))⟩
 f15:=Tryz.func62.trans (congrArg some (by kernel_rfl))
 f20:=⟨Tryz.f81.name,by decide,Tryz.func81.trans (congrArg some (by kernel_rfl))⟩
 f21:=⟨Tryz.f82.name,by decide,Tryz.func82.trans (congrArg some (by kernel_rfl))⟩
 f22:=⟨Tryz.f83.name,by decide,Tryz.func83.trans (congrArg some (by kernel_rfl))⟩
 f23:=⟨Tryz.f84.name,by decide,Tryz.func84.trans (congrArg some (by kernel_rfl))⟩
 f24:=⟨Tryz.f85.name,by decide,Tryz.func85.trans (congrArg some (by kernel_rfl))⟩
 f25:=⟨Tryz.f86.name,by decide,Tryz.func86.trans (congrArg some (by kernel_rfl))⟩
 f26:=⟨Tryz.f87.name,by decide,Tryz.func87.trans (congrArg some (by kernel_rfl))⟩
 f27:=⟨Tryz.f88.name,by decide,Tryz.func88.trans (congrArg some (by kernel_rfl))⟩
 f28:=Tryz.func89.trans (congrArg some (by kernel_rfl))
 f29:=Tryz.func90.trans (congrArg some (by kernel_rfl))
 f46:=⟨Tryz.f118.name,by decide,Tryz.func118.trans (congrArg some (by kernel_rfl))⟩
 f47:=Tryz.func119.trans (congrArg some (by kernel_rfl))
 f48:=Tryz.func120.trans (congrArg some (by kernel_rfl))
 f49:=⟨Tryz.f121.name,by decide,Tryz.func121.trans (congrArg some (by kernel_rfl))⟩
 f50:=⟨Tryz.f122.name,by decide,Tryz.func122.trans (congrArg some (by kernel_rfl))⟩
 f57:=⟨Tryz.f155.name,by decide,Tryz.func155.trans (congrArg some (by kernel_rfl))⟩
 t0:=Tryz.underlying0
 a0:=Tryz.isAgg0
 z0:=Tryz.sizeOf0
 v0:=Tryz.zeroValue0
 t3:=Tryz.underlying3
 a3:=Tryz.isAgg3
 z3:=Tryz.sizeOf3
 v3:=Tryz.zeroValue3
 t4:=Tryz.underlying4
 a4:=Tryz.isAgg4
 z4:=Tryz.sizeOf4
 v4:=Tryz.zeroValue4
 t5:=Tryz.underlying5
 a5:=Tryz.isAgg5
 z5:=Tryz.sizeOf5
 v5:=Tryz.zeroValue5
 t9:=Tryz.underlying9
 a9:=Tryz.isAgg9
 z9:=Tryz.sizeOf9
 v9:=Tryz.zeroValue9
 t22:=Tryz.underlying57
 a22:=Tryz.isAgg57
 z22:=Tryz.sizeOf57
 v22:=Tryz.zeroValue57
 t25:=Tryz.underlying81
 a25:=Tryz.isAgg81
 z25:=Tryz.sizeOf81
 v25:=Tryz.zeroValue81
 t39:=Tryz.underlying101
 a39:=Tryz.isAgg101
 z39:=Tryz.sizeOf101
 v39:=Tryz.zeroValue101
 t45:=Tryz.underlying117
 a45:=Tryz.isAgg117
 z45:=Tryz.sizeOf117
 v45:=Tryz.zeroValue117
 t46:=Tryz.underlying118
 a46:=Tryz.isAgg118
 z46:=Tryz.sizeOf118
 v46:=Tryz.zeroValue118
 t50:=Tryz.underlying122
 a50:=Tryz.isAgg122
 z50:=Tryz.sizeOf122
 v50:=Tryz.zeroValue122
 t53:=Tryz.underlying46
 a53:=Tryz.isAgg46
 z53:=Tryz.sizeOf46
 v53:=Tryz.zeroValue46
 t55:=Tryz.underlying115
 a55:=Tryz.isAgg115
 z55:=Tryz.sizeOf115
 v55:=Tryz.zeroValue115
 t66:=Tryz.underlying137
 a66:=Tryz.isAgg137
 z66:=Tryz.sizeOf137
 v66:=Tryz.zeroValue137
 t70:=Tryz.underlying141
 a70:=Tryz.isAgg141
 z70:=Tryz.sizeOf141
 v70:=Tryz.zeroValue141
 t76:=Tryz.underlying163
 a76:=Tryz.isAgg163
 z76:=Tryz.sizeOf163
 v76:=Tryz.zeroValue163
 t77:=Tryz.underlying164
 a77:=Tryz.isAgg164
 z77:=Tryz.sizeOf164
 v77:=Tryz.zeroValue164 }
end Go.Proofs.YtoeaglpmkjoenaaGreat
namespace Go.Proofs.YtoeaglpmkjoenaaGreat
open Go.RowKit
structure Zone where
 blk:Nat→Prop
 free:Bool
def old (n:Nat):Zone:=⟨fun b=>b < n,false⟩
def fresh (n m:Nat):Zone:=⟨fun b=>n ≤ b∧b < m,true⟩
def freshBut (n m g:Nat):Zone:=⟨fun b=>n ≤ b∧b < m∧b ≠ g,true⟩
def Zone.le (Z Z':Zone):Prop:=(∀ b,Z.blk b→Z'.blk b)∧(Z'.free = true→Z.free = true)
theorem Zone.le_refl (Z:Zone):Z.le Z:=⟨fun _ h=>h,fun h=>h⟩
theorem Zone.le_trans {X Y Z:Zone} (h:X.le Y) (k:Y.le Z):X.le Z:=⟨fun b hb=>k.1 b (h.1 b hb),fun e=>h.2 (k.2 e)⟩
theorem old_le {n m:Nat} (h:n ≤ m):(old n).le (old m):=⟨fun _ hb=>Nat.lt_of_lt_of_le hb h,fun e=>by cases e⟩
theorem fresh_le {n m n' m':Nat} (h:n' ≤ n) (k:m ≤ m'):(fresh n m).le (fresh n' m'):=⟨fun _ hb=>⟨Nat.le_trans h hb.1,Nat.lt_of_lt_of_le hb.2 k⟩,fun _=>rfl⟩
def Keeps (Z:Zone) (w w':World):Prop:=∀ q:Addr,Z.blk q.block→w'.cell? q = w.cell? q∧w'.frozen? q = w.frozen? q
theorem Keeps.refl (Z:Zone) (w:World):Keeps Z w w:=fun _ _=>⟨rfl,rfl⟩
theorem Keeps.trans {Z:Zone} {a b c:World} (h:Keeps Z a b) (k:Keeps Z b c):Keeps Z a c:=fun q hq=>⟨(k q hq).1.trans (h q hq).1,(k q hq).2.trans (h q hq).2⟩
theorem Keeps.less {Z Z':Zone} {a b:World} (h:Keeps Z a b) (hB:Z'.le Z):Keeps Z' a b:=fun q hq=>h q (hB.1 _ hq)
theorem Keeps.of_block {Z:Zone} {w w':World} (h:∀ k,Z.blk k→w'.heap[k]? = w.heap[k]?):Keeps Z w w':=fun q hq=>⟨World.cell?_of_block (h q.block hq),World.frozen?_of_block (h q.block hq)⟩
theorem Keeps.of_below {B:Nat} {Z:Zone} {w w':World} (h:Below B w w') (hB:∀ k,Z.blk k→k < B):Keeps Z w w':=.of_block fun k hk=>h.block k (hB k hk)
theorem Keeps.old_below {B n:Nat} {w w':World} (h:Below B w w') (hB:n ≤ B):Keeps (old n) w w':=.of_below h fun _ hk=>Nat.lt_of_lt_of_le hk hB
theorem Keeps.fresh_below {B n m:Nat} {w w':World} (h:Below B w w') (hB:m ≤ B):Keeps (fresh n m) w w':=.of_below h fun _ hk=>Nat.lt_of_lt_of_le hk.2 hB
theorem Keeps.of_grown {Z:Zone} {w w':World} {row:Option Nat} (h:w.grownBy w' row) (hB:∀ k,Z.blk k→k < w.heap.size∧some k ≠ row):Keeps Z w w' :=
 .of_block fun k hk=>h.block k (hB k hk).1 (hB k hk).2
theorem Keeps.alloc {Z:Zone} {w:World} (h:∀ k,Z.blk k→k < w.heap.size) (o:Obj):Keeps Z w (w.alloc o):=.of_block fun k hk=>Below.heap_alloc w o k (h k hk)
theorem Keeps.setCell {Z:Zone} {w:World} {p:Addr} (h:¬ Z.blk p.block) (u:Value):Keeps Z w (w.setCell p u):=.of_block fun k hk=>Below.heap_setCell w p u k (fun e=>h (e ▸ hk))
def Lies (w:World) (Z:Zone) (A:Option Addr) (xs:List Value):Prop :=
 xs ≠ []→∃ b o,A = some ⟨b,o,none⟩∧Z.blk b∧∀ j u,xs[j]? = some u→w.cell? ⟨b,o + j,none⟩ = some u∧(Z.free = true→w.frozen? ⟨b,o + j,none⟩ = false)
section
variable {w w':World} {Z Z':Zone} {A:Option Addr} {xs:List Value}
theorem Lies.nil (w:World) (Z:Zone) (A:Option Addr):Lies w Z A []:=fun h=>absurd rfl h
theorem Lies.keep (h:Lies w Z A xs) (k:Keeps Z w w'):Lies w' Z A xs:=fun hn=>by
 obtain ⟨b,o,hA,hb,hc⟩:=h hn
 exact ⟨b,o,hA,hb,fun j u hu=>⟨(k ⟨b,o + j,none⟩ hb).1.trans (hc j u hu).1,fun e=>(k ⟨b,o + j,none⟩ hb).2.trans ((hc j u hu).2 e)⟩⟩
theorem Lies.more (h:Lies w Z A xs) (hZ:Z.le Z'):Lies w Z' A xs:=fun hn=>by
 obtain ⟨b,o,hA,hb,hc⟩:=h hn
 exact ⟨b,o,hA,hZ.1 _ hb,fun j u hu=>⟨(hc j u hu).1,fun e=>(hc j u hu).2 (hZ.2 e)⟩⟩
theorem Lies.of_own {base size n c:Nat} {e:TypeId} (h:w.ownsRow base e size (.slice A n c) n xs) (hZ:∀ g,A = some ⟨g,0,none⟩→base ≤ g→g < w.heap.size→Z.blk g):Lies w Z A xs:=fun hn=>by
 rcases h.2 with ⟨hv,h0⟩ | ⟨g,cap,cur,hv,hg,hh,_,_,_,ht⟩
 ·have:=h.1;rw [h0] at this;simp at this;exact absurd this hn
 ·have hA:A = some ⟨g,0,none⟩:=by injection hv
  refine ⟨g,0,hA,hZ g hA hg (Array.getElem?_eq_some_iff.1 hh).1,fun j u hu=>⟨?_,fun _=>?_⟩⟩
  ·have:=h.cells (g:=g) (by rw [hA];rfl) j u hu
   rwa [show (⟨g,0,none⟩:Addr).add j = ⟨g,0 + j,none⟩ by unfold Addr.add;split <;> simp_all] at this
  ·simp [World.frozen?,hh]
end
def reach:Nat:=140737488351232
class Rep (α:Type) where
 size:Nat
 bytes:Nat
 rep:World→Zone→List Value→α→Prop
 len:∀ {w Z cs a},rep w Z cs a→cs.length = size
 one:∀ {w Z cs a},rep w Z cs a→∀ u ∈ cs,u.oneCell' = true
 keep:∀ {w w' Z cs a},rep w Z cs a→Keeps Z w w'→rep w' Z cs a
 more:∀ {w Z Z' cs a},rep w Z cs a→Z.le Z'→rep w Z' cs a
open Rep (rep)
def Chunks {α:Type} [Rep α] (w:World) (Z:Zone):List Value→List α→Prop
 | xs,[]=>xs = []
 | xs,a :: l=>∃ c r,xs = c++r∧rep w Z c a∧Chunks w Z r l
section
variable {α:Type} [Rep α] {w w':World} {Z Z':Zone}
theorem Chunks.len:∀ {l:List α} {xs:List Value},Chunks w Z xs l→xs.length = l.length * Rep.size α
 | [],xs,h=>by simp only [Chunks] at h;simp [h]
 | a :: l,xs,⟨c,r,hx,hc,hr⟩=>by rw [hx,List.length_append,Rep.len hc,Chunks.len hr,List.length_cons,Nat.succ_mul,Nat.add_comm]
theorem Chunks.one:∀ {l:List α} {xs:List Value},Chunks w Z xs l→∀ u ∈ xs,u.oneCell' = true
 | [],xs,h=>by simp only [Chunks] at h;simp [h]
 | a :: l,xs,⟨c,r,hx,hc,hr⟩=>by
  intro u hu
  rw [hx,List.mem_append] at hu
  rcases hu with hu | hu
  ·exact Rep.one hc u hu
  ·exact Chunks.one hr u hu
theorem Chunks.keep (k:Keeps Z w w'):∀ {l:List α} {xs:List Value},Chunks w Z xs l→Chunks w' Z xs l
 | [],_,h=>h
 | _ :: _,_,⟨c,r,hx,hc,hr⟩=>⟨c,r,hx,Rep.keep hc k,Chunks.keep k hr⟩
theorem Chunks.more (hZ:Z.le Z'):∀ {l:List α} {xs:List Value},Chunks w Z xs l→Chunks w Z' xs l
 | [],_,h=>h
 | _ :: _,_,⟨c,r,hx,hc,hr⟩=>⟨c,r,hx,Rep.more hc hZ,Chunks.more hZ hr⟩
theorem Chunks.append:∀ {l m:List α} {xs ys:List Value},Chunks w Z xs l→Chunks w Z ys m→Chunks w Z (xs++ys) (l++m)
 | [],m,xs,ys,h,k=>by simp only [Chunks] at h;subst h;exact k
 | a :: l,m,xs,ys,⟨c,r,hx,hc,hr⟩,k=>⟨c,r++ys,by rw [hx,List.append_assoc],hc,Chunks.append hr k⟩
theorem Chunks.single {a:α} {c:List Value} (h:rep w Z c a):Chunks w Z c [a]:=⟨c,[],by simp,h,rfl⟩
theorem Chunks.snoc {l:List α} {a:α} {xs c:List Value} (h:Chunks w Z xs l) (k:rep w Z c a):Chunks w Z (xs++c) (l++[a]):=h.append (Chunks.single k)
theorem Chunks.get:∀ {l:List α} {xs:List Value} {i:Nat} {a:α},Chunks w Z xs l→l[i]? = some a →
  ∃ c,rep w Z c a∧∀ j u,c[j]? = some u→xs[i * Rep.size α + j]? = some u
 | [],_,i,_,_,hi=>by simp at hi
 | a :: l,xs,0,a',⟨c,r,hx,hc,_⟩,hi=>by
  simp at hi;subst hi
  refine ⟨c,hc,fun j u hu=>?_⟩
  rw [hx,Nat.zero_mul,Nat.zero_add,List.getElem?_append_left (List.getElem?_eq_some_iff.1 hu).1];exact hu
 | a :: l,xs,i + 1,a',⟨c,r,hx,hc,hr⟩,hi=>by
  obtain ⟨c',hc',hj⟩:=Chunks.get hr (show l[i]? = some a' by simpa using hi)
  refine ⟨c',hc',fun j u hu=>?_⟩
  have hl:=Rep.len hc
  rw [hx,List.getElem?_append_right (by rw [hl,Nat.succ_mul];omega),hl,show (i + 1) * Rep.size α + j - Rep.size α = i * Rep.size α + j by rw [Nat.succ_mul];omega]
  exact hj j u hu
end
instance {α:Type} [Rep α]:Rep (List α) where
 size:=1
 bytes:=24
 rep w Z cs l:=∃ A n c xs,cs = [.slice A n c]∧n = l.length∧n ≤ c∧c ≤ maxLen∧n * Rep.bytes α ≤ reach∧Lies w Z A xs∧Chunks w Z xs l
 len:=by rintro w Z cs a ⟨A,n,c,xs,rfl,_⟩;rfl
 one:=by rintro w Z cs a ⟨A,n,c,xs,rfl,_⟩ u hu;simp at hu;subst hu;rfl
 keep:=by rintro w w' Z cs a ⟨A,n,c,xs,h1,h2,h3,h4,h5,h6,h7⟩ k;exact ⟨A,n,c,xs,h1,h2,h3,h4,h5,h6.keep k,h7.keep k⟩
 more:=by rintro w Z Z' cs a ⟨A,n,c,xs,h1,h2,h3,h4,h5,h6,h7⟩ k;exact ⟨A,n,c,xs,h1,h2,h3,h4,h5,h6.more k,h7.more k⟩
theorem rep_list {α:Type} [Rep α] {w:World} {Z:Zone} {cs:List Value} {l:List α} (h:rep w Z cs l) :
  ∃ A n c xs,cs = [.slice A n c]∧n = l.length∧n ≤ c∧c ≤ maxLen∧n * Rep.bytes α ≤ reach∧Lies w Z A xs∧Chunks w Z xs l:=h
theorem open_slice {α:Type} [Rep α] {w:World} {Z:Zone} {v:Value} {l:List α} (h:rep w Z [v] l) :
  ∃ A c xs,v = .slice A l.length c∧l.length ≤ c∧c ≤ 9223372036854775807∧l.length * Rep.bytes α ≤ 140737488351232∧Lies w Z A xs∧Chunks w Z xs l:=by
 obtain ⟨A,n,c,xs,hv,hn,hnc,hcm,hb,hl,hc⟩:=h
 simp only [List.cons.injEq,and_true] at hv
 subst hv hn
 unfold maxLen at hcm
 exact ⟨A,c,xs,rfl,hnc,by omega,hb,hl,hc⟩
theorem rep_of_own {α:Type} [Rep α] {w:World} {Z:Zone} {base:Nat} {e:TypeId} {v:Value} {l:List α} {xs:List Value} (h:w.ownsRow base e (Rep.size α) v l.length xs) (hc:Chunks w Z xs l)
  (hb:l.length * Rep.bytes α ≤ reach) (hZ:∀ g,v.ownBlock = some g→base ≤ g→g < w.heap.size→Z.blk g):rep w Z [v] l:=by
 obtain ⟨A,c,hv,h1,h2⟩:∃ A c,v = .slice A l.length c∧l.length ≤ c∧c ≤ maxLen:=by
  rcases h.2 with ⟨hv,h0⟩ | ⟨g,cap,cur,hv,_,_,h3,h4,_⟩
  ·exact ⟨none,0,by rw [hv,h0],by omega,Nat.zero_le _⟩
  ·exact ⟨_,cap,hv,h3,h4⟩
 subst hv
 exact ⟨A,_,c,xs,rfl,rfl,h1,h2,hb,Lies.of_own h (fun g hA=>hZ g (by rw [hA];rfl)),hc⟩
def I64 (n:Int):Prop:=-9223372036854775808 ≤ n∧n ≤ 9223372036854775807
instance:Rep Int where
 size:=1
 bytes:=8
 rep _ _ cs n:=cs = [.int .i64 n]∧I64 n
 len:=by rintro w Z cs a ⟨rfl,_⟩;rfl
 one:=by rintro w Z cs a ⟨rfl,_⟩ u hu;simp at hu;subst hu;rfl
 keep:=fun h _=>h
 more:=fun h _=>h
instance:Rep Nat where
 size:=1
 bytes:=4
 rep _ _ cs n:=cs = [.int .u32 (n:Int)]∧n < 4294967296
 len:=by rintro w Z cs a ⟨rfl,_⟩;rfl
 one:=by rintro w Z cs a ⟨rfl,_⟩ u hu;simp at hu;subst hu;rfl
 keep:=fun h _=>h
 more:=fun h _=>h
instance:Rep Bool where
 size:=1
 bytes:=1
 rep _ _ cs b:=cs = [.bool b]
 len:=by rintro w Z cs a rfl;rfl
 one:=by rintro w Z cs a rfl u hu;simp at hu;subst hu;rfl
 keep:=fun h _=>h
 more:=fun h _=>h
instance:Rep ByteArray where
 size:=1
 bytes:=16
 rep _ _ cs s:=cs = [.string s]∧s.size ≤ reach
 len:=by rintro w Z cs a ⟨rfl,_⟩;rfl
 one:=by rintro w Z cs a ⟨rfl,_⟩ u hu;simp at hu;subst hu;rfl
 keep:=fun h _=>h
 more:=fun h _=>h
theorem chunks_ints {w:World} {Z:Zone}:∀ {l:List Int} {xs:List Value},Chunks w Z xs l→xs = l.map (Value.int .i64)
 | [],_,h=>by simpa [Chunks] using h
 | a :: l,xs,⟨c,r,hx,hc,hr⟩=>by rw [hx,hc.1,chunks_ints hr];rfl
theorem elem_at {α:Type} [Rep α] {w:World} {Z:Zone} {A:Option Addr} {xs:List Value} {l:List α} (hl:Lies w Z A xs) (hc:Chunks w Z xs l) (hz:0 < Rep.size α) {i:Nat} {a:α} (hi:l[i]? = some a) :
  ∃ b o c,A = some ⟨b,o,none⟩∧Z.blk b∧rep w Z c a∧∀ j u,c[j]? = some u→w.cell? ⟨b,o + (i * Rep.size α + j),none⟩ = some u∧(Z.free = true→w.frozen? ⟨b,o + (i * Rep.size α + j),none⟩ = false):=by
 obtain ⟨c,hr,hj⟩:=hc.get hi
 have hn:xs ≠ []:=by
  intro e
  have h0:=hc.len
  have hi':=(List.getElem?_eq_some_iff.1 hi).1
  have:=Nat.mul_pos (show 0 < l.length by omega) hz
  rw [e,List.length_nil] at h0
  omega
 obtain ⟨b,o,hA,hb,hcell⟩:=hl hn
 exact ⟨b,o,c,hA,hb,hr,fun j u hu=>hcell _ u (hj j u hu)⟩
section
variable {P:Program} (w:World)
theorem run_append_lies (base:Nat) (t ty e:TypeId) (i:TypeInfo) (z:Value) (size bytes:Nat) (ht:P.underlying t = some (.slice e)) (hi:P.info? e = some i) (hz:i.zero = some z)
  (hsize:i.size = size) (hby:i.bytes = bytes) (hzs:z.cells.size = size) (hsz:0 < size)
  (v:Value) (n:Nat) (xs:List Value) (hown:w.ownsRow base e size v n xs)
  (Z:Zone) (A:Option Addr) (m c:Nat) (news:List Value) (hl:news.length = m * size) (hr:Lies w Z A news) (h1:∀ u ∈ news,u.oneCell' = true)
  (h63:n + m ≤ maxLen) (hbytes:(n + m) * bytes ≤ 140737488355328) (hbase:base ≤ w.heap.size) :
  ∃ v' w',(Builtin.append_ #[t,t] ty #[v,.slice A m c]).run P w = .ok v' w'∧w'.ownsRow base e size v' (n + m) (xs++news)∧w.grownBy w' v.ownBlock∧(v'.ownBlock = v.ownBlock ∨ v'.ownBlock = some w.heap.size):=by
 cases A with
 | none =>
  have hn:news = []:=Classical.byContradiction fun hne=>by
   obtain ⟨b,o,hA,_⟩:=hr hne
   cases hA
  subst hn
  have hm:m = 0:=by
   rcases Nat.eq_zero_or_pos m with h | h
   ·exact h
   ·have:=Nat.mul_pos h hsz
    rw [← hl,List.length_nil] at this
    omega
  subst hm
  refine ⟨v,w,?_,by simpa using hown,World.grownBy.refl w _,.inl rfl⟩
  rcases hown.2 with ⟨rfl,rfl⟩ | ⟨g,cap,cur,rfl,_,_,hnc,_⟩
  ·simp [Builtin.append_,run_underlying ht,sizeOf,typeInfo,hi,Builtin.lenOf,Builtin.firstCells]
  ·simp [Builtin.append_,run_underlying ht,sizeOf,typeInfo,hi,Builtin.lenOf,Builtin.firstCells,hnc,storeCells]
 | some a =>
  have hcells:∀ j u,news[j]? = some u→w.cell? (a.add j) = some u:=by
   intro j u hu
   have hne:news ≠ []:=by rintro rfl;simp at hu
   obtain ⟨b,o,hA,_,hc⟩:=hr hne
   injection hA with hA
   subst hA
   have:=(hc j u hu).1
   unfold Addr.add
   split
   ·rename_i h0;subst h0;simpa using this
   ·exact this
  obtain ⟨v',w',hrun,h2,h3,_,h5⟩:=run_append_own_at (P:=P) w base t ty e i z size bytes ht hi hz hsize hby hzs hsz v n xs hown a m c news hl hcells h1 h63 hbytes hbase
  exact ⟨v',w',hrun,h2,h3,h5⟩
theorem wpList_append_lies {ops:Array Oper} {rest:List Oper} {o:Oper} {a:Act} {Q:Exit→Act→World→Prop} (hgd:o.guard = none) (s x:Operand) (t:TypeId)
  (ho:o.op = .call { callee:=.builtin .append,args:=#[s,x],argTypes:=#[t,t] })
  (base:Nat) (e:TypeId) (i:TypeInfo) (z:Value) (size bytes:Nat) (ht:P.underlying t = some (.slice e)) (hi:P.info? e = some i) (hz:i.zero = some z)
  (hsize:i.size = size) (hby:i.bytes = bytes) (hzs:z.cells.size = size) (hsz:0 < size)
  (v:Value) (n:Nat) (xs:List Value) (hs:a.eval s = v) (hown:w.ownsRow base e size v n xs)
  (Z:Zone) (A:Option Addr) (m c:Nat) (news:List Value) (hx:a.eval x = .slice A m c) (hl:news.length = m * size) (hr:Lies w Z A news) (h1:∀ u ∈ news,u.oneCell' = true)
  (h63:n + m ≤ maxLen) (hbytes:(n + m) * bytes ≤ 140737488355328) (hbase:base ≤ w.heap.size)
  (h:∀ v' w',w'.ownsRow base e size v' (n + m) (xs++news)→w.grownBy w' v.ownBlock→(v'.ownBlock = v.ownBlock ∨ v'.ownBlock = some w.heap.size)→wpList P ops Q rest (a.put o.dst v') w'):wpList P ops Q (o :: rest) a w:=by
 obtain ⟨v',w',hrun,h2,h3,h4⟩:=run_append_lies (P:=P) w base t o.type e i z size bytes ht hi hz hsize hby hzs hsz v n xs hown Z A m c news hl hr h1 h63 hbytes hbase
 exact Lib.wpList_append_run w hgd s x t t ho v _ hs hx v' w' hrun (h v' w' h2 h3 h4)
end
def At (w:World) (b o:Nat) (cs:List Value):Prop:=∀ j u,cs[j]? = some u→w.cell? ⟨b,o + j,none⟩ = some u
theorem At.keep {w w':World} {B b o:Nat} {cs:List Value} (h:At w b o cs) (k:Below B w w') (hb:b < B):At w' b o cs:=fun j u hu=>(k.cell (p:=⟨b,o + j,none⟩) hb).trans (h j u hu)
theorem At.alloc {w:World} {b o:Nat} {cs:List Value} (h:At w b o cs) (hb:b < w.heap.size) (ob:Obj):At (w.alloc ob) b o cs:=fun j u hu=>(World.cell?_alloc_lt w ob ⟨b,o + j,none⟩ hb).trans (h j u hu)
theorem At.of_row {w:World} {g:Nat} {t:TypeId} {cs:List Value} {fr:Nat × Nat} (h:w.heap[g]? = some (.cells cs.toArray t fr)):At w g 0 cs:=fun j u hu=>by
 rw [cell_of_row _ _ _ _ _ _ h];simpa using hu
theorem At.part {w:World} {b o:Nat} {xs cs ys:List Value} (h:At w b o (xs++cs++ys)):At w b (o + xs.length) cs:=fun j u hu=>by
 have:=h (xs.length + j) u (by rw [List.append_assoc,List.getElem?_append_right (by omega),Nat.add_sub_cancel_left,List.getElem?_append_left (List.getElem?_eq_some_iff.1 hu).1];exact hu)
 rwa [Nat.add_assoc]
section
variable {P:Program}
theorem run_load_agg (w:World) (ty:TypeId) (d:TypeDesc) (b o:Nat) (cs:List Value) (hu:P.underlying ty = some d) (hd:(match d with | .struct _ | .array _ _=>true | _=>false) = true)
  (hi:(P.info? ty).map (·.size) = some cs.length) (hc:At w b o cs):(loadVar ty ⟨b,o,none⟩).run P w = .ok (.agg cs.toArray) w:=by
 have hl:=run_loadCells_list (P:=P) w ⟨b,o,none⟩ cs (fun j v hv=>by
  have:=hc j v hv
  unfold Addr.add
  split
  ·rename_i h0;subst h0;simpa using this
  ·exact this)
 cases hq:P.info? ty with
 | none=>simp [hq] at hi
 | some i =>
  have hs:i.size = cs.length:=by simpa [hq] using hi
  have hagg:(isAgg ty).run P w = .ok true w:=by
   unfold isAgg
   rw [Sem.run_bind,run_underlying hu w]
   cases d <;> simp_all
  simp [loadVar,Sem.run_bind,hagg,sizeOf,typeInfo,hq,hs,hl]
theorem wpList_load_agg {ops:Array Oper} {rest:List Oper} {o:Oper} {a:Act} {w:World} {Q:Exit→Act→World→Prop} (hgd:o.guard = none) (ty:TypeId) (x:Operand) (ho:o.op = .load ty x)
  (d:TypeDesc) (b f:Nat) (hx:a.eval x = .pointer (some ⟨b,f,none⟩)) (cs:List Value) (hu:P.underlying ty = some d) (hd:(match d with | .struct _ | .array _ _=>true | _=>false) = true)
  (hi:(P.info? ty).map (·.size) = some cs.length) (hc:At w b f cs)
  (h:wpList P ops Q rest (a.put o.dst (.agg cs.toArray)) w):wpList P ops Q (o :: rest) a w :=
 wpList_plain hgd fun _ hK=>by
  unfold Oper.wp execOp
  simp only [ho,hx,Instr.loadAt,Instr.sureAddr,Sem.run_bind,Sem.run_pure,Result.andThen_ok,run_load_agg w ty d b f cs hu hd hi hc]
  exact hK _ _ h
theorem heap_setRow (w:World) (g:Nat) (cs cur:Array Value) (t:TypeId) (hg:w.heap[g]? = some (.cells cur t (0,0))):(w.setRow g cs).heap[g]? = some (.cells cs t (0,0)):=by
 simp [World.setRow,Array.getElem?_modify,hg]
theorem heap_setRow_other (w:World) (g:Nat) (cs:Array Value) (k:Nat) (h:k ≠ g):(w.setRow g cs).heap[k]? = w.heap[k]?:=by
 simp only [World.setRow,Array.getElem?_modify]
 rw [if_neg (by omega)]
theorem size_setRow (w:World) (g:Nat) (cs:Array Value):(w.setRow g cs).heap.size = w.heap.size:=by simp [World.setRow]
theorem below_setRow' {B:Nat} {a w:World} (h:Below B a w) {g:Nat} (hg:B ≤ g) (cs:Array Value):Below B a (w.setRow g cs) :=
 h.trans ⟨rfl,rfl,rfl,by rw [size_setRow];exact Nat.le_refl _,fun k hk=>heap_setRow_other _ _ _ _ (by omega)⟩
theorem wpList_store_agg {ops:Array Oper} {rest:List Oper} {o:Oper} {a:Act} {w:World} {Q:Exit→Act→World→Prop} (hgd:o.guard = none) (ty:TypeId) (x y:Operand) (ho:o.op = .store ty x y)
  (g f:Nat) (cs:List Value) (hx:a.eval x = .pointer (some ⟨g,f,none⟩)) (hy:a.eval y = .agg cs.toArray)
  (t:TypeId) (cur:List Value) (hg:w.heap[g]? = some (.cells cur.toArray t (0,0))) (hi:(P.info? ty).map (·.size) = some cs.length)
  (hfit:f + cs.length ≤ cur.length) (h1:∀ u ∈ cs,u.oneCell' = true)
  (h:wpList P ops Q rest (a.put o.dst undef) (w.setRow g (cur.take f++cs++cur.drop (f + cs.length)).toArray)):wpList P ops Q (o :: rest) a w :=
 wpList_plain hgd fun _ hK=>by
  have hst:=run_storeCells_at P g f t cs 0 cur.toArray w hg (by simpa using hfit) h1
  simp only [Nat.add_zero] at hst
  unfold Oper.wp execOp
  cases hq:P.info? ty with
  | none=>simp [hq] at hi
  | some i =>
   have hs:i.size = cs.length:=by simpa [hq] using hi
   have hv:(storeVar ty ⟨g,f,none⟩ (.agg cs.toArray)).run P w = .ok () (w.setRow g (cur.take f++cs++cur.drop (f + cs.length)).toArray):=by
    simp only [storeVar,Value.cells,sizeOf,typeInfo,List.size_toArray,Sem.run_bind]
    simp [hq,hs,hst]
   simp only [ho,hx,hy,Instr.storeAt,Instr.sureAddr,Sem.run_bind,Sem.run_pure,Result.andThen_ok,hv]
   exact hK _ _ h
end
def indexFrom {α:Type} (p:α→Bool):List α→Nat→Int
 | [],_=>-1
 | a :: l,k=>if p a then (k:Int) else indexFrom p l (k + 1)
theorem lies_new (w:World) (cs:List Value) (e:TypeId):Lies (w.alloc (.cells cs.toArray e)) (old (w.heap.size + 1)) (some ⟨w.heap.size,0,none⟩) cs:=fun _ =>
 ⟨w.heap.size,0,rfl,Nat.lt_succ_self _,fun j u hu=>⟨by rw [cell_of_row _ _ _ _ _ _ (heap_alloc_new w _)];simpa using hu,fun e=>by cases e⟩⟩
theorem split_at {α:Type} {l pre post:List α} {z:α} (h:l = pre++z :: post):l[pre.length]? = some z∧pre.length < l.length∧l = (pre++[z])++post∧(pre++[z]).length = pre.length + 1:=by
 subst h;simp
theorem split_end {α:Type} {l pre:List α} (h:l = pre++[]):¬ pre.length < l.length∧pre = l:=by subst h;simp
end Go.Proofs.YtoeaglpmkjoenaaGreat
