/-
  Chapter 09: the document's examples as data, in memory.
-/
/-
  Chapter 09: the document's examples: the program answers them.
-/
import Derived.Test.YtgbkhcmbmffljaaDoorPGBuild
import Derived.Test.YtgbkhcmbmffljaaDoorPGSound
import Derived.Test.YtgbkhcmbmffljaaDoorPGChk2
set_option linter.unusedSimpArgs false
set_option linter.unusedVariables false
namespace Go.Proofs.YtgbkhcmbmffljaaDoor
open Go.RowKit
open Rep (rep)
def m0D (s:ByteArray):ModelD:=⟨17,⟨#[]⟩,[⟨⟨#[65,100,100]⟩,⟨#[]⟩,[⟨#[116]⟩,⟨#[99]⟩],[⟨#[121]⟩],[]⟩,⟨⟨#[82,101,108,117]⟩,⟨#[]⟩,[s],[⟨#[116]⟩],[]⟩],[⟨⟨#[99]⟩,⟨1,[],[1],[],[]⟩⟩],[⟨⟨#[120]⟩,1,[]⟩],[⟨⟨#[121]⟩,1,[]⟩]⟩
theorem m0_x:(buildD (m0D ⟨#[120]⟩)).2 = (0,0):=by kernel_rfl
theorem m0_y:(buildD (m0D ⟨#[121]⟩)).2 = (12,0):=by kernel_rfl
theorem m0_z:(buildD (m0D ⟨#[122]⟩)).2 = (13,1):=by kernel_rfl
theorem m0_nodes:((buildD (m0D ⟨#[120]⟩)).1.nodes.map fun n=>(n.op,n.ins,n.outs,n.source)) = [(16,[1],[3],1),(28,[3,0],[2],0)]:=by kernel_rfl
theorem m0_vals:(buildD (m0D ⟨#[120]⟩)).1.vals.length = 4:=by kernel_rfl
theorem m0_outs:(buildD (m0D ⟨#[120]⟩)).1.outputs = [2]:=by kernel_rfl
theorem m0_insl:((buildD (m0D ⟨#[120]⟩)).1.nodes.map fun n=>n.ins.length) = [1,2]:=by kernel_rfl
theorem m0_insb:∀ x ∈ (buildD (m0D ⟨#[120]⟩)).1.nodes,x.ins.length ≤ 1048576:=fun x hx=>by
 have h:x.ins.length ∈ ((buildD (m0D ⟨#[120]⟩)).1.nodes.map fun n=>n.ins.length):=List.mem_map.2 ⟨x,hx,rfl⟩
 rw [m0_insl] at h
 simp at h
 omega
theorem m0_live:liveD (buildD (m0D ⟨#[120]⟩)).1 = [true,true]:=by kernel_rfl
def mcs0 (n:Nat) (v:Value):List Value:=[.int .i64 17,.string ⟨#[]⟩,v,.slice (some ⟨n + 1,0,none⟩) 1 1,.slice (some ⟨n + 2,0,none⟩) 1 1,.slice (some ⟨n + 3,0,none⟩) 1 1]
def initC (n:Nat):List Value:=[.string ⟨#[99]⟩,.int .i64 1,.slice none 0 0,.slice (some ⟨n,0,none⟩) 1 1,.slice none 0 0,.slice none 0 0]
def valC (s:ByteArray):List Value:=[.string s,.int .i64 1,.slice none 0 0]
def nodesC (n:Nat):List Value:=[.string ⟨#[65,100,100]⟩,.string ⟨#[]⟩,.slice (some ⟨n + 5,0,none⟩) 2 2,.slice (some ⟨n + 6,0,none⟩) 1 1,.slice none 0 0,.string ⟨#[82,101,108,117]⟩,.string ⟨#[]⟩,.slice (some ⟨n + 7,0,none⟩) 1 1,.slice (some ⟨n + 8,0,none⟩) 1 1,.slice none 0 0]
structure Aw0 (w:World) (v:Value) (W:World):Prop where
 below:Below w.heap.size w W
 h0:W.heap[w.heap.size]? = some (.cells ([.int .u32 1]:List Value).toArray 38 (0,0))
 h1:W.heap[w.heap.size + 1]? = some (.cells (initC w.heap.size).toArray 102 (0,0))
 h2:W.heap[w.heap.size + 2]? = some (.cells (valC ⟨#[120]⟩).toArray 104 (0,0))
 h3:W.heap[w.heap.size + 3]? = some (.cells (valC ⟨#[121]⟩).toArray 104 (0,0))
 h4:W.heap[w.heap.size + 4]? = some (.cells (mcs0 w.heap.size v).toArray 59 (0,0))
structure Aw (w:World) (s:ByteArray) (W:World):Prop where
 a:Aw0 w (.slice (some ⟨w.heap.size + 9,0,none⟩) 2 2) W
 h5:W.heap[w.heap.size + 5]? = some (.cells ([.string ⟨#[116]⟩,.string ⟨#[99]⟩]:List Value).toArray 9 (0,0))
 h6:W.heap[w.heap.size + 6]? = some (.cells ([.string ⟨#[121]⟩]:List Value).toArray 9 (0,0))
 h7:W.heap[w.heap.size + 7]? = some (.cells ([.string s]:List Value).toArray 9 (0,0))
 h8:W.heap[w.heap.size + 8]? = some (.cells ([.string ⟨#[116]⟩]:List Value).toArray 9 (0,0))
 h9:W.heap[w.heap.size + 9]? = some (.cells (nodesC w.heap.size).toArray 36 (0,0))
theorem row_lt {W:World} {k:Nat} {o:Obj} (h:W.heap[k]? = some o):k < W.heap.size:=(Array.getElem?_eq_some_iff.1 h).1
section
variable {w W W':World} {v:Value} {s:ByteArray}
theorem Aw0.next (h:Aw0 w v W) (hb:Below W.heap.size W W'):Aw0 w v W' :=
 ⟨h.below.trans (hb.mono h.below.size),(hb.block _ (row_lt h.h0)).trans h.h0,(hb.block _ (row_lt h.h1)).trans h.h1,(hb.block _ (row_lt h.h2)).trans h.h2,(hb.block _ (row_lt h.h3)).trans h.h3,(hb.block _ (row_lt h.h4)).trans h.h4⟩
theorem Aw.next (h:Aw w s W) (hb:Below W.heap.size W W'):Aw w s W' :=
 ⟨h.a.next hb,(hb.block _ (row_lt h.h5)).trans h.h5,(hb.block _ (row_lt h.h6)).trans h.h6,(hb.block _ (row_lt h.h7)).trans h.h7,(hb.block _ (row_lt h.h8)).trans h.h8,(hb.block _ (row_lt h.h9)).trans h.h9⟩
theorem Aw.set (h:Aw w s W) (t:ByteArray):Aw w t (W.setCell ⟨w.heap.size + 7,0,none⟩ (.string t)):=by
 rw [set_as_row h.h7]
 have k:∀ j,j ≠ w.heap.size + 7→(W.setRow (w.heap.size + 7) (([.string s]:List Value).toArray.setIfInBounds 0 (.string t))).heap[j]? = W.heap[j]?:=fun j hj=>heap_setRow_other _ _ _ _ hj
 have a:=h.a
 refine ⟨⟨below_setRow' a.below (by omega) _,(k _ (by omega)).trans a.h0,(k _ (by omega)).trans a.h1,(k _ (by omega)).trans a.h2,(k _ (by omega)).trans a.h3,(k _ (by omega)).trans a.h4⟩,(k _ (by omega)).trans h.h5,(k _ (by omega)).trans h.h6,?_,(k _ (by omega)).trans h.h8,(k _ (by omega)).trans h.h9⟩
 rw [heap_setRow _ _ _ _ _ h.h7]
 rfl
theorem list_of_row {α:Type} [Rep α] {l:List α} {xs:List Value} {b:Nat} {t:TypeId} (h:W.heap[b]? = some (.cells xs.toArray t (0,0))) (hc:Chunks W (old W.heap.size) xs l) (hl:l.length ≤ 2) (hb:l.length * Rep.bytes α ≤ reach):rep W (old W.heap.size) [.slice (some ⟨b,0,none⟩) l.length l.length] l :=
 ⟨_,_,_,xs,rfl,rfl,Nat.le_refl _,by unfold maxLen;omega,hb,fun _=>⟨b,0,rfl,row_lt h,fun j u hu=>⟨by rw [cell_of_row _ _ _ _ _ _ h,List.getElem?_toArray,Nat.zero_add];exact hu,fun e=>by cases e⟩⟩,hc⟩
theorem str_ok (s:ByteArray) (h:s.size ≤ 4):s.size ≤ reach:=by unfold reach;omega
theorem Aw.model (h:Aw w s W) (hs:s.size ≤ 4):rep W (old W.heap.size) (mcs0 w.heap.size (.slice (some ⟨w.heap.size + 9,0,none⟩) 2 2)) (m0D s):=by
 have a:=h.a
 have t0:rep W (old W.heap.size) [.slice (some ⟨w.heap.size,0,none⟩) 1 1] ([1]:List Nat):=list_of_row (l:=([1]:List Nat)) a.h0 ⟨[_],[],rfl,⟨rfl,by decide⟩,rfl⟩ (by decide) (by show 1 * 4 ≤ reach;unfold reach;omega)
 have t1:rep W (old W.heap.size) ([.int .i64 1,.slice none 0 0,.slice (some ⟨w.heap.size,0,none⟩) 1 1,.slice none 0 0,.slice none 0 0]:List Value) (⟨1,[],[1],[],[]⟩:TensorD):=shut_TensorD (a:=⟨1,[],[1],[],[]⟩) i64_1 (rep_nil _ _) t0 (rep_nil _ _) (rep_nil _ _)
 have r1:rep W (old W.heap.size) [.slice (some ⟨w.heap.size + 1,0,none⟩) 1 1] ([⟨⟨#[99]⟩,⟨1,[],[1],[],[]⟩⟩]:List InitD):=list_of_row (l:=([⟨⟨#[99]⟩,⟨1,[],[1],[],[]⟩⟩]:List InitD)) a.h1 ⟨_,[],(List.append_nil _).symm,shut_InitD (a:=⟨⟨#[99]⟩,⟨1,[],[1],[],[]⟩⟩) (str_ok _ (by decide)) t1,rfl⟩ (by decide) (by show 1 * 120 ≤ reach;unfold reach;omega)
 have r2:rep W (old W.heap.size) [.slice (some ⟨w.heap.size + 2,0,none⟩) 1 1] ([⟨⟨#[120]⟩,1,[]⟩]:List ValueD):=list_of_row (l:=([⟨⟨#[120]⟩,1,[]⟩]:List ValueD)) a.h2 ⟨_,[],(List.append_nil _).symm,shut_ValueD (a:=⟨⟨#[120]⟩,1,[]⟩) (str_ok _ (by decide)) i64_1 (rep_nil _ _),rfl⟩ (by decide) (by show 1 * 48 ≤ reach;unfold reach;omega)
 have r3:rep W (old W.heap.size) [.slice (some ⟨w.heap.size + 3,0,none⟩) 1 1] ([⟨⟨#[121]⟩,1,[]⟩]:List ValueD):=list_of_row (l:=([⟨⟨#[121]⟩,1,[]⟩]:List ValueD)) a.h3 ⟨_,[],(List.append_nil _).symm,shut_ValueD (a:=⟨⟨#[121]⟩,1,[]⟩) (str_ok _ (by decide)) i64_1 (rep_nil _ _),rfl⟩ (by decide) (by show 1 * 48 ≤ reach;unfold reach;omega)
 have q5:rep W (old W.heap.size) [.slice (some ⟨w.heap.size + 5,0,none⟩) 2 2] ([⟨#[116]⟩,⟨#[99]⟩]:List ByteArray):=list_of_row (l:=([⟨#[116]⟩,⟨#[99]⟩]:List ByteArray)) h.h5 ⟨[_],[_],rfl,⟨rfl,str_ok _ (by decide)⟩,[_],[],rfl,⟨rfl,str_ok _ (by decide)⟩,rfl⟩ (by decide) (by show 2 * 16 ≤ reach;unfold reach;omega)
 have q6:rep W (old W.heap.size) [.slice (some ⟨w.heap.size + 6,0,none⟩) 1 1] ([⟨#[121]⟩]:List ByteArray):=list_of_row (l:=([⟨#[121]⟩]:List ByteArray)) h.h6 ⟨[_],[],rfl,⟨rfl,str_ok _ (by decide)⟩,rfl⟩ (by decide) (by show 1 * 16 ≤ reach;unfold reach;omega)
 have q7:rep W (old W.heap.size) [.slice (some ⟨w.heap.size + 7,0,none⟩) 1 1] ([s]:List ByteArray):=list_of_row (l:=([s]:List ByteArray)) h.h7 ⟨[_],[],rfl,⟨rfl,str_ok _ hs⟩,rfl⟩ (by simp) (by show 1 * 16 ≤ reach;unfold reach;omega)
 have q8:rep W (old W.heap.size) [.slice (some ⟨w.heap.size + 8,0,none⟩) 1 1] ([⟨#[116]⟩]:List ByteArray):=list_of_row (l:=([⟨#[116]⟩]:List ByteArray)) h.h8 ⟨[_],[],rfl,⟨rfl,str_ok _ (by decide)⟩,rfl⟩ (by decide) (by show 1 * 16 ≤ reach;unfold reach;omega)
 have n1:=shut_NodeD (w:=W) (Z:=old W.heap.size) (a:=⟨⟨#[65,100,100]⟩,⟨#[]⟩,[⟨#[116]⟩,⟨#[99]⟩],[⟨#[121]⟩],[]⟩) (str_ok _ (by decide)) (str_ok _ (by decide)) q5 q6 (rep_nil _ _)
 have n2:=shut_NodeD (w:=W) (Z:=old W.heap.size) (a:=⟨⟨#[82,101,108,117]⟩,⟨#[]⟩,[s],[⟨#[116]⟩],[]⟩) (show (⟨#[82,101,108,117]⟩:ByteArray).size ≤ reach from str_ok _ (by decide)) (show (⟨#[]⟩:ByteArray).size ≤ reach from str_ok _ (by decide)) q7 q8 (rep_nil _ _)
 have r0:rep W (old W.heap.size) [.slice (some ⟨w.heap.size + 9,0,none⟩) 2 2] ([⟨⟨#[65,100,100]⟩,⟨#[]⟩,[⟨#[116]⟩,⟨#[99]⟩],[⟨#[121]⟩],[]⟩,⟨⟨#[82,101,108,117]⟩,⟨#[]⟩,[s],[⟨#[116]⟩],[]⟩]:List NodeD):=list_of_row (l:=([⟨⟨#[65,100,100]⟩,⟨#[]⟩,[⟨#[116]⟩,⟨#[99]⟩],[⟨#[121]⟩],[]⟩,⟨⟨#[82,101,108,117]⟩,⟨#[]⟩,[s],[⟨#[116]⟩],[]⟩]:List NodeD)) (xs:=nodesC w.heap.size) h.h9 ⟨_,_,rfl,n1,_,[],(List.append_nil _).symm,n2,rfl⟩ (by simp) (by show 2 * 104 ≤ reach;unfold reach;omega)
 exact shut_ModelD (a:=m0D s) (by show I64 17;unfold I64;decide) (show (⟨#[]⟩:ByteArray).size ≤ reach from str_ok _ (by decide)) r0 r1 r2 r3
theorem heap_alloc_get (w:World) (o:Obj) (k:Nat):(w.alloc o).heap[k]? = if k = w.heap.size then some o else w.heap[k]?:=by
 by_cases h:k = w.heap.size
 ·subst h;rw [if_pos rfl];exact heap_alloc_new w o
 ·rw [if_neg h]
  rcases Nat.lt_or_ge k w.heap.size with h1 | h1
  ·exact Below.heap_alloc w o k h1
  ·rw [Array.getElem?_eq_none (show (w.alloc o).heap.size ≤ k by rw [World.size_alloc];omega),Array.getElem?_eq_none h1]
theorem aw_lit (w:World) (s:ByteArray) (W:World) (h:((((((((((w.alloc (.cells ([.int .u32 1]:List Value).toArray 38)).alloc (.cells (initC w.heap.size).toArray 102)).alloc (.cells (valC ⟨#[120]⟩).toArray 104)).alloc (.cells (valC ⟨#[121]⟩).toArray 104)).alloc (.cells (mcs0 w.heap.size (.slice (some ⟨w.heap.size + 9,0,none⟩) 2 2)).toArray 59)).alloc (.cells ([.string ⟨#[116]⟩,.string ⟨#[99]⟩]:List Value).toArray 9)).alloc (.cells ([.string ⟨#[121]⟩]:List Value).toArray 9)).alloc (.cells ([.string s]:List Value).toArray 9)).alloc (.cells ([.string ⟨#[116]⟩]:List Value).toArray 9)).alloc (.cells (nodesC w.heap.size).toArray 36)) = W):Aw w s W:=by
 have hb:Below w.heap.size w W:=by
  subst h
  exact (((((((((((Below.refl _ w).alloc (Nat.le_refl _) _).alloc (by simp only [World.size_alloc];omega) _).alloc (by simp only [World.size_alloc];omega) _).alloc (by simp only [World.size_alloc];omega) _).alloc (by simp only [World.size_alloc];omega) _).alloc (by simp only [World.size_alloc];omega) _).alloc (by simp only [World.size_alloc];omega) _).alloc (by simp only [World.size_alloc];omega) _).alloc (by simp only [World.size_alloc];omega) _).alloc (by simp only [World.size_alloc];omega) _)
 have a0:W.heap[w.heap.size]? = some (.cells ([.int .u32 1]:List Value).toArray 38 (0,0)):=by subst h;repeat (rw [heap_alloc_get];first | rw [if_pos (by first | omega | (simp only [World.size_alloc];done) | (simp only [World.size_alloc];omega))] | rw [if_neg (by first | omega | (simp only [World.size_alloc];done) | (simp only [World.size_alloc];omega))])
 have a1:W.heap[w.heap.size + 1]? = some (.cells (initC w.heap.size).toArray 102 (0,0)):=by subst h;repeat (rw [heap_alloc_get];first | rw [if_pos (by first | omega | (simp only [World.size_alloc];done) | (simp only [World.size_alloc];omega))] | rw [if_neg (by first | omega | (simp only [World.size_alloc];done) | (simp only [World.size_alloc];omega))])
 have a2:W.heap[w.heap.size + 2]? = some (.cells (valC ⟨#[120]⟩).toArray 104 (0,0)):=by subst h;repeat (rw [heap_alloc_get];first | rw [if_pos (by first | omega | (simp only [World.size_alloc];done) | (simp only [World.size_alloc];omega))] | rw [if_neg (by first | omega | (simp only [World.size_alloc];done) | (simp only [World.size_alloc];omega))])
 have a3:W.heap[w.heap.size + 3]? = some (.cells (valC ⟨#[121]⟩).toArray 104 (0,0)):=by subst h;repeat (rw [heap_alloc_get];first | rw [if_pos (by first | omega | (simp only [World.size_alloc];done) | (simp only [World.size_alloc];omega))] | rw [if_neg (by first | omega | (simp only [World.size_alloc];done) | (simp only [World.size_alloc];omega))])
 have a4:W.heap[w.heap.size + 4]? = some (.cells (mcs0 w.heap.size (.slice (some ⟨w.heap.size + 9,0,none⟩) 2 2)).toArray 59 (0,0)):=by subst h;repeat (rw [heap_alloc_get];first | rw [if_pos (by first | omega | (simp only [World.size_alloc];done) | (simp only [World.size_alloc];omega))] | rw [if_neg (by first | omega | (simp only [World.size_alloc];done) | (simp only [World.size_alloc];omega))])
 have a5:W.heap[w.heap.size + 5]? = some (.cells ([.string ⟨#[116]⟩,.string ⟨#[99]⟩]:List Value).toArray 9 (0,0)):=by subst h;repeat (rw [heap_alloc_get];first | rw [if_pos (by first | omega | (simp only [World.size_alloc];done) | (simp only [World.size_alloc];omega))] | rw [if_neg (by first | omega | (simp only [World.size_alloc];done) | (simp only [World.size_alloc];omega))])
 have a6:W.heap[w.heap.size + 6]? = some (.cells ([.string ⟨#[121]⟩]:List Value).toArray 9 (0,0)):=by subst h;repeat (rw [heap_alloc_get];first | rw [if_pos (by first | omega | (simp only [World.size_alloc];done) | (simp only [World.size_alloc];omega))] | rw [if_neg (by first | omega | (simp only [World.size_alloc];done) | (simp only [World.size_alloc];omega))])
 have a7:W.heap[w.heap.size + 7]? = some (.cells ([.string s]:List Value).toArray 9 (0,0)):=by subst h;repeat (rw [heap_alloc_get];first | rw [if_pos (by first | omega | (simp only [World.size_alloc];done) | (simp only [World.size_alloc];omega))] | rw [if_neg (by first | omega | (simp only [World.size_alloc];done) | (simp only [World.size_alloc];omega))])
 have a8:W.heap[w.heap.size + 8]? = some (.cells ([.string ⟨#[116]⟩]:List Value).toArray 9 (0,0)):=by subst h;repeat (rw [heap_alloc_get];first | rw [if_pos (by first | omega | (simp only [World.size_alloc];done) | (simp only [World.size_alloc];omega))] | rw [if_neg (by first | omega | (simp only [World.size_alloc];done) | (simp only [World.size_alloc];omega))])
 have a9:W.heap[w.heap.size + 9]? = some (.cells (nodesC w.heap.size).toArray 36 (0,0)):=by subst h;repeat (rw [heap_alloc_get];first | rw [if_pos (by first | omega | (simp only [World.size_alloc];done) | (simp only [World.size_alloc];omega))] | rw [if_neg (by first | omega | (simp only [World.size_alloc];done) | (simp only [World.size_alloc];omega))])
 exact ⟨⟨hb,a0,a1,a2,a3,a4⟩,a5,a6,a7,a8,a9⟩
structure Awk (w:World) (s:ByteArray) (gcs:List Value) (gb:Nat) (W:World):Prop where
 aw:Aw w s W
 row:W.heap[gb]? = some (.cells gcs.toArray 63 (0,0))
 gn:w.heap.size + 10 ≤ gb
 grep:rep W (fresh (w.heap.size + 10) W.heap.size) gcs (buildD (m0D ⟨#[120]⟩)).1
theorem Awk.next {gcs:List Value} {gb:Nat} (h:Awk w s gcs gb W) (hb:Below W.heap.size W W'):Awk w s gcs gb W' :=
 ⟨h.aw.next hb,(hb.block _ (row_lt h.row)).trans h.row,h.gn,Rep.more (Rep.keep h.grep (Keeps.fresh_below hb (Nat.le_refl _))) (fresh_le (Nat.le_refl _) hb.size)⟩
theorem Awk.set {gcs:List Value} {gb:Nat} (h:Awk w s gcs gb W) (t:ByteArray):Awk w t gcs gb (W.setCell ⟨w.heap.size + 7,0,none⟩ (.string t)):=by
 have hg:=h.gn
 refine ⟨h.aw.set t,?_,hg,?_⟩
 ·exact (Below.heap_setCell W _ _ gb (show gb ≠ w.heap.size + 7 by omega)).trans h.row
 ·have hs:(W.setCell ⟨w.heap.size + 7,0,none⟩ (.string t)).heap.size = W.heap.size:=by rw [set_as_row h.aw.h7,size_setRow]
  rw [hs]
  exact Rep.keep h.grep (Keeps.setCell (by rintro ⟨h1,-⟩;replace h1:w.heap.size + 10 ≤ w.heap.size + 7:=h1;omega) _)
theorem Awk.graph {gcs:List Value} {gb:Nat} (h:Awk w s gcs gb W):rep W (old W.heap.size) gcs (buildD (m0D ⟨#[120]⟩)).1:=Rep.more h.grep (fresh_old (Nat.le_refl _))
theorem Awk.facts {gb:Nat} {V0 V1 V2 V3:Option Addr} {a0 a2 a3 c0 c1 c2 c3:Nat} (h:Awk w s ([.slice V0 a0 c0,.slice V1 2 c1,.slice V2 a2 c2,.slice V3 a3 c3]:List Value) gb W) {n0 n1:GNodeD} (hn:(buildD (m0D ⟨#[120]⟩)).1.nodes = [n0,n1]) :
  ∃ (b o:Nat) (b2 o2 k:Nat),V1 = some ⟨b,o,none⟩∧W.cell? ⟨b,o,none⟩ = some (.int .i64 n0.op)∧W.cell? ⟨b,o + 39,none⟩ = some (.int .i64 n0.source)∧(n1.ins = [3,0]→W.cell? ⟨b,o + 40 + 37,none⟩ = some (.slice (some ⟨b2,o2,none⟩) 2 k)∧W.cell? ⟨b2,o2,none⟩ = some (.int .i64 3)∧W.cell? ⟨b2,o2 + 1,none⟩ = some (.int .i64 0)):=by
 obtain ⟨A1,k1,A2,k2,A3,k3,A4,k4,hcs,-,r2,-,-⟩:=open_GraphD h.graph
 simp only [List.cons.injEq,Value.slice.injEq,and_true] at hcs
 obtain ⟨-,⟨rfl,-,rfl⟩,-,-⟩:=hcs
 obtain ⟨A',c',xs,hv,-,-,-,hl,hch⟩:=open_slice r2
 simp only [Value.slice.injEq,true_and] at hv
 obtain ⟨rfl,rfl⟩:=hv
 rw [hn] at hch
 obtain ⟨b,o,z0,rfl,hb0,hz0,hc0⟩:=elem_at (i:=0) hl hch (by decide) rfl
 obtain ⟨b',o',z1,hbo,hb1,hz1,hc1⟩:=elem_at (i:=1) hl hch (by decide) rfl
 simp only [Option.some.injEq,Addr.mk.injEq,and_true] at hbo
 obtain ⟨rfl,rfl⟩:=hbo
 obtain ⟨_,_,_,_,_,p0,-,-,p39,-,-,-,-⟩:=gnode_facts hz0
 obtain ⟨_,J,kJ,_,_,-,q37,-,-,-,qi,-,-⟩:=gnode_facts hz1
 have f0:=(hc0 0 _ p0).1
 have f39:=(hc0 39 _ p39).1
 have f37:=(hc1 37 _ q37).1
 obtain ⟨J',kJ',ys,hv2,-,-,-,hl2,hch2⟩:=open_slice qi
 simp only [Value.slice.injEq,true_and] at hv2
 obtain ⟨rfl,rfl⟩:=hv2
 by_cases hi:n1.ins = [3,0]
 ·rw [hi] at hch2 f37
  obtain ⟨b2,o2,x0,rfl,-,⟨rfl,-⟩,g0⟩:=elem_at (i:=0) hl2 hch2 (by decide) rfl
  obtain ⟨b2',o2',x1,hbo2,-,⟨rfl,-⟩,g1⟩:=elem_at (i:=1) hl2 hch2 (by decide) rfl
  simp only [Option.some.injEq,Addr.mk.injEq,and_true] at hbo2
  obtain ⟨rfl,rfl⟩:=hbo2
  refine ⟨b,o,b2,o2,kJ,rfl,by simpa [Rep.size] using f0,by simpa [Rep.size] using f39,fun _=>⟨?_,by simpa [Rep.size] using (g0 0 _ rfl).1,by simpa [Rep.size] using (g1 0 _ rfl).1⟩⟩
  have e:o + (1 * Rep.size GNodeD + 37) = o + 40 + 37:=by show o + (1 * 40 + 37) = _;omega
  rw [e] at f37
  exact f37
 ·exact ⟨b,o,0,0,0,rfl,by simpa [Rep.size] using f0,by simpa [Rep.size] using f39,fun h=>absurd h hi⟩
theorem m0_two:∃ n0 n1:GNodeD,(buildD (m0D ⟨#[120]⟩)).1.nodes = [n0,n1]∧n0.op = 16∧n0.source = 1∧n1.ins = [3,0]:=by
 have h:=m0_nodes
 generalize (buildD (m0D ⟨#[120]⟩)).1.nodes = l at h
 match l,h with
 | [n0,n1],h =>
  simp only [List.map_cons,List.map_nil,List.cons.injEq,Prod.mk.injEq,and_true] at h
  exact ⟨n0,n1,rfl,h.1.1,h.1.2.2.2,h.2.2.1⟩
 | [],h=>simp at h
 | [a],h=>simp at h
 | a :: b :: c :: r,h=>simp at h
end
end Go.Proofs.YtgbkhcmbmffljaaDoor
set_option linter.unusedSimpArgs false
set_option linter.unusedVariables false
namespace Go.Proofs.YtgbkhcmbmffljaaDoor
open Go.RowKit
open Rep (rep)
set_option maxRecDepth 100000 in
set_option maxHeartbeats 40000000 in
theorem awake9_any (w:World) (ht:Tab w) :
  Calls Tryd.prog 23 #[] w fun e w'=>e = .returned (.bool true)∧Below w.heap.size w w':=by
 have HT:=Lib.hid ht
 clear ht
 go_enter Tryd.func23,Tryd.ntmps23
 go_wp2_with fail
 have hA:=aw_lit w ⟨#[120]⟩ _ rfl
 refine (build_any (mcs0 w.heap.size (.slice (some ⟨w.heap.size + 9,0,none⟩) 2 2)) (m0D ⟨#[120]⟩) _ (HT.out.ext hA.a.below) (hA.model (by decide))).mono ?_
 rintro e w1 ⟨gcs,rfl,hg,hb1⟩
 have hA1:=hA.next hb1
 have hsz1:=row_lt hA.h9
 have hg1:rep w1 (fresh (w.heap.size + 10) w1.heap.size) gcs (buildD (m0D ⟨#[120]⟩)).1:=Rep.more hg (fresh_le (by omega) (Nat.le_refl _))
 have hs1:w.heap.size + 10 ≤ w1.heap.size:=by have:=hb1.size;omega
 clear hA hg hb1 hsz1
 have e0:(buildD (m0D ⟨#[120]⟩)).2.1 = 0:=by rw [m0_x]
 have e1:(buildD (m0D ⟨#[120]⟩)).2.2 = 0:=by rw [m0_x]
 rw [e0,e1]
 clear e0 e1
 obtain ⟨n0,n1,hnn,hop0,hso0,hin1⟩:=m0_two
 have hg':=hg1
 obtain ⟨V0,c0,V1,c1,V2,c2,V3,c3,rfl,gv,gn,gi,go⟩:=open_GraphD hg1
 have hlv:=m0_vals
 have hln:(buildD (m0D ⟨#[120]⟩)).1.nodes.length = 2:=by rw [hnn];rfl
 rw [hlv,hln] at *
 have HG1:=Lib.hid (And.intro hA1 (And.intro hg' (And.intro hs1 (And.intro hnn (And.intro hop0 (And.intro hso0 hin1))))))
 have HN:=Lib.hid (And.intro gv gn)
 clear hA1 hg' hs1 hnn hop0 hso0 hin1 gv gn gi go hlv hln
 go_wp2_with (first
  |(with_reducible refine wpList_alloc_row rfl 63 rfl ([.slice none 0 0,.slice none 0 0,.slice none 0 0,.slice none 0 0]:List Value) zero4_zero ?_)
  |(with_reducible refine wpList_store_agg rfl 63 _ _ rfl _ 0 ([.slice V0 4 c0,.slice V1 2 c1,.slice V2 (buildD (m0D ⟨#[120]⟩)).1.inputs.length c2,.slice V3 (buildD (m0D ⟨#[120]⟩)).1.outputs.length c3]:List Value) rfl rfl 63 ([.slice none 0 0,.slice none 0 0,.slice none 0 0,.slice none 0 0]:List Value) (heap_alloc_new _ _) (by kernel_rfl) (of_decide_eq_true (by kernel_rfl)) (by simp [Value.oneCell']) ?_;have hY:=laid_row w1 63 ([.slice none 0 0,.slice none 0 0,.slice none 0 0,.slice none 0 0]:List Value) ([.slice V0 4 c0,.slice V1 2 c1,.slice V2 (buildD (m0D ⟨#[120]⟩)).1.inputs.length c2,.slice V3 (buildD (m0D ⟨#[120]⟩)).1.outputs.length c3]:List Value) rfl;generalize World.setRow _ _ _ = v2 at hY ⊢;have HY:=Lib.hid hY;clear hY;refine halt ?_))
 unfold Halt
 have hk:Awk w ⟨#[120]⟩ ([.slice V0 4 c0,.slice V1 2 c1,.slice V2 (buildD (m0D ⟨#[120]⟩)).1.inputs.length c2,.slice V3 (buildD (m0D ⟨#[120]⟩)).1.outputs.length c3]:List Value) w1.heap.size v2 :=
  ⟨HG1.out.1.next HY.out.1,HY.out.2.1,HG1.out.2.2.1,Rep.more (Rep.keep HG1.out.2.1 (Keeps.fresh_below HY.out.1 (Nat.le_refl _))) (fresh_le (Nat.le_refl _) HY.out.1.size)⟩
 have HK2:=Lib.hid hk
 clear hk
 obtain ⟨gb,hgb⟩:∃ gb,w1.heap.size = gb:=⟨_,rfl⟩
 rw [hgb] at HK2 ⊢
 have HGB:=Lib.hid hgb
 clear hgb HY
 have hlt4:w.heap.size + 10 ≤ gb:=HK2.out.gn
 obtain ⟨b,o,b2,o2,k2,rfl,d0,d39,hd⟩:=HK2.out.facts HG1.out.2.2.2.1
 obtain ⟨d77,-,-⟩:=hd HG1.out.2.2.2.2.2.2
 have m2:v2.cell? ⟨w.heap.size + 1 + 1 + 1 + 1,2,none⟩ = some (.slice (some ⟨w.heap.size + 9,0,none⟩) 2 2):=cell_of_row' HK2.out.aw.a.h4 rfl
 have m9:v2.cell? ⟨w.heap.size + 9,7,none⟩ = some (.slice (some ⟨w.heap.size + 7,0,none⟩) 1 1):=cell_of_row' HK2.out.aw.h9 rfl
 have m7:v2.cell? ⟨w.heap.size + 7,0,none⟩ = some (.string ⟨#[120]⟩):=cell_of_row' HK2.out.aw.h7 rfl
 have f7:v2.frozen? ⟨w.heap.size + 7,0,none⟩ = false:=by simp [World.frozen?,HK2.out.aw.h7]
 have g0:v2.cell? ⟨gb,0,none⟩ = some (.slice V0 4 c0):=cell_of_row' HK2.out.row rfl
 have g1:v2.cell? ⟨gb,1,none⟩ = some (.slice (some ⟨b,o,none⟩) 2 c1):=cell_of_row' HK2.out.row rfl
 have HN0:=Lib.hid hlt4
 clear d0 d39 hd hlt4
 have hk3:=HK2.out.set ⟨#[121]⟩
 have HK34:=Lib.hid hk3
 have hat3:At (v2.setCell ⟨w.heap.size + 7,0,none⟩ (.string ⟨#[121]⟩)) (w.heap.size + 1 + 1 + 1 + 1) 0 ([.int .i64 17,.string ⟨#[]⟩,.slice (some ⟨w.heap.size + 9,0,none⟩) 2 2,.slice (some ⟨w.heap.size + 1,0,none⟩) 1 1,.slice (some ⟨w.heap.size + 2,0,none⟩) 1 1,.slice (some ⟨w.heap.size + 3,0,none⟩) 1 1]:List Value):=At.of_row hk3.aw.a.h4
 have HAT3:=Lib.hid hat3
 clear hk3 hat3
 go_wp2_with (with_reducible refine wpList_load_agg rfl 59 _ rfl _ (w.heap.size + 1 + 1 + 1 + 1) 0 rfl ([.int .i64 17,.string ⟨#[]⟩,.slice (some ⟨w.heap.size + 9,0,none⟩) 2 2,.slice (some ⟨w.heap.size + 1,0,none⟩) 1 1,.slice (some ⟨w.heap.size + 2,0,none⟩) 1 1,.slice (some ⟨w.heap.size + 3,0,none⟩) 1 1]:List Value) Tryd.underlying59 rfl (by kernel_rfl) HAT3.out ?_)
 refine (build_any ([.int .i64 17,.string ⟨#[]⟩,.slice (some ⟨w.heap.size + 9,0,none⟩) 2 2,.slice (some ⟨w.heap.size + 1,0,none⟩) 1 1,.slice (some ⟨w.heap.size + 2,0,none⟩) 1 1,.slice (some ⟨w.heap.size + 3,0,none⟩) 1 1]:List Value) (m0D ⟨#[121]⟩) _ (HT.out.ext HK34.out.aw.a.below) (HK34.out.aw.model (by decide))).mono ?_
 rintro e w34 ⟨gc4,rfl,hg,hb3⟩
 have e0:(buildD (m0D ⟨#[121]⟩)).2.1 = 12:=by rw [m0_y]
 have e1:(buildD (m0D ⟨#[121]⟩)).2.2 = 0:=by rw [m0_y]
 rw [e0,e1]
 clear e0 e1
 have hk4:=HK34.out.next hb3
 have hl4:gc4.length = 4:=Rep.len hg
 have HG4:=Lib.hid (And.intro hk4 (And.intro (show (Tryd.prog.info? 63).map (·.size) = some gc4.length by rw [hl4];kernel_rfl) (And.intro (show 0 + gc4.length ≤ ([.slice none 0 0,.slice none 0 0,.slice none 0 0,.slice none 0 0]:List Value).length by rw [hl4];decide) (And.intro (Rep.one hg) (show gc4.length = ([.slice none 0 0,.slice none 0 0,.slice none 0 0,.slice none 0 0]:List Value).length by rw [hl4];rfl)))))
 clear hg hb3 hk4 hl4 HAT3 m2 m9 m7 f7
 go_wp2_with (first
  |(with_reducible refine wpList_alloc_row rfl 63 rfl ([.slice none 0 0,.slice none 0 0,.slice none 0 0,.slice none 0 0]:List Value) zero4_zero ?_)
  |(with_reducible refine wpList_store_agg rfl 63 _ _ rfl _ 0 gc4 rfl rfl 63 ([.slice none 0 0,.slice none 0 0,.slice none 0 0,.slice none 0 0]:List Value) (heap_alloc_new _ _) HG4.out.2.1 HG4.out.2.2.1 HG4.out.2.2.2.1 ?_;have hY:=laid_row w34 63 ([.slice none 0 0,.slice none 0 0,.slice none 0 0,.slice none 0 0]:List Value) gc4 HG4.out.2.2.2.2;generalize World.setRow _ _ _ = v4 at hY ⊢;have HY4:=Lib.hid hY;clear hY;refine halt ?_))
 unfold Halt
 have HK4:=Lib.hid (HG4.out.1.next HY4.out.1)
 have m2:v4.cell? ⟨w.heap.size + 1 + 1 + 1 + 1,2,none⟩ = some (.slice (some ⟨w.heap.size + 9,0,none⟩) 2 2):=cell_of_row' HK4.out.aw.a.h4 rfl
 have m9:v4.cell? ⟨w.heap.size + 9,7,none⟩ = some (.slice (some ⟨w.heap.size + 7,0,none⟩) 1 1):=cell_of_row' HK4.out.aw.h9 rfl
 have m7:v4.cell? ⟨w.heap.size + 7,0,none⟩ = some (.string ⟨#[121]⟩):=cell_of_row' HK4.out.aw.h7 rfl
 have f7:v4.frozen? ⟨w.heap.size + 7,0,none⟩ = false:=by simp [World.frozen?,HK4.out.aw.h7]
 have hk3:=HK4.out.set ⟨#[122]⟩
 have HK36:=Lib.hid hk3
 have hat3:At (v4.setCell ⟨w.heap.size + 7,0,none⟩ (.string ⟨#[122]⟩)) (w.heap.size + 1 + 1 + 1 + 1) 0 ([.int .i64 17,.string ⟨#[]⟩,.slice (some ⟨w.heap.size + 9,0,none⟩) 2 2,.slice (some ⟨w.heap.size + 1,0,none⟩) 1 1,.slice (some ⟨w.heap.size + 2,0,none⟩) 1 1,.slice (some ⟨w.heap.size + 3,0,none⟩) 1 1]:List Value):=At.of_row hk3.aw.a.h4
 have HAT3:=Lib.hid hat3
 clear hk3 hat3
 go_wp2_with (with_reducible refine wpList_load_agg rfl 59 _ rfl _ (w.heap.size + 1 + 1 + 1 + 1) 0 rfl ([.int .i64 17,.string ⟨#[]⟩,.slice (some ⟨w.heap.size + 9,0,none⟩) 2 2,.slice (some ⟨w.heap.size + 1,0,none⟩) 1 1,.slice (some ⟨w.heap.size + 2,0,none⟩) 1 1,.slice (some ⟨w.heap.size + 3,0,none⟩) 1 1]:List Value) Tryd.underlying59 rfl (by kernel_rfl) HAT3.out ?_)
 refine (build_any ([.int .i64 17,.string ⟨#[]⟩,.slice (some ⟨w.heap.size + 9,0,none⟩) 2 2,.slice (some ⟨w.heap.size + 1,0,none⟩) 1 1,.slice (some ⟨w.heap.size + 2,0,none⟩) 1 1,.slice (some ⟨w.heap.size + 3,0,none⟩) 1 1]:List Value) (m0D ⟨#[122]⟩) _ (HT.out.ext HK36.out.aw.a.below) (HK36.out.aw.model (by decide))).mono ?_
 rintro e w36 ⟨gc6,rfl,hg,hb3⟩
 have e0:(buildD (m0D ⟨#[122]⟩)).2.1 = 13:=by rw [m0_z]
 have e1:(buildD (m0D ⟨#[122]⟩)).2.2 = 1:=by rw [m0_z]
 rw [e0,e1]
 clear e0 e1
 have hk4:=HK36.out.next hb3
 have hl4:gc6.length = 4:=Rep.len hg
 have HG6:=Lib.hid (And.intro hk4 (And.intro (show (Tryd.prog.info? 63).map (·.size) = some gc6.length by rw [hl4];kernel_rfl) (And.intro (show 0 + gc6.length ≤ ([.slice none 0 0,.slice none 0 0,.slice none 0 0,.slice none 0 0]:List Value).length by rw [hl4];decide) (And.intro (Rep.one hg) (show gc6.length = ([.slice none 0 0,.slice none 0 0,.slice none 0 0,.slice none 0 0]:List Value).length by rw [hl4];rfl)))))
 clear hg hb3 hk4 hl4 HAT3 m2 m9 m7 f7
 go_wp2_with (first
  |(with_reducible refine wpList_alloc_row rfl 63 rfl ([.slice none 0 0,.slice none 0 0,.slice none 0 0,.slice none 0 0]:List Value) zero4_zero ?_)
  |(with_reducible refine wpList_store_agg rfl 63 _ _ rfl _ 0 gc6 rfl rfl 63 ([.slice none 0 0,.slice none 0 0,.slice none 0 0,.slice none 0 0]:List Value) (heap_alloc_new _ _) HG6.out.2.1 HG6.out.2.2.1 HG6.out.2.2.2.1 ?_;have hY:=laid_row w36 63 ([.slice none 0 0,.slice none 0 0,.slice none 0 0,.slice none 0 0]:List Value) gc6 HG6.out.2.2.2.2;generalize World.setRow _ _ _ = v6 at hY ⊢;have HY6:=Lib.hid hY;clear hY;refine halt ?_))
 unfold Halt
 have HK6:=Lib.hid (HG6.out.1.next HY6.out.1)
 have hnodes:(buildD (m0D ⟨#[120]⟩)).1.nodes.length ≤ 1048576:=by rw [HG1.out.2.2.2.1];show 2 ≤ 1048576;omega
 have hgat:At v6 gb 0 ([.slice V0 4 c0,.slice (some ⟨b,o,none⟩) 2 c1,.slice V2 (buildD (m0D ⟨#[120]⟩)).1.inputs.length c2,.slice V3 (buildD (m0D ⟨#[120]⟩)).1.outputs.length c3]:List Value):=At.of_row HK6.out.row
 have HGAT:=Lib.hid hgat
 have htk:TakenM (m0D ⟨#[120]⟩):=Classical.byContradiction fun hn=>(build_not hn).2 (by rw [m0_x])
 have hsnd:=build_sound htk
 have hlive:=live_any ([.slice V0 4 c0,.slice (some ⟨b,o,none⟩) 2 c1,.slice V2 (buildD (m0D ⟨#[120]⟩)).1.inputs.length c2,.slice V3 (buildD (m0D ⟨#[120]⟩)).1.outputs.length c3]:List Value) (buildD (m0D ⟨#[120]⟩)).1 v6 HK6.out.graph (by rw [m0_outs];decide) hnodes (by rw [HG1.out.2.2.2.1];intro x hx;exact m0_insb x (by rw [HG1.out.2.2.2.1];exact hx))
 have HLV:=Lib.hid hlive
 have HSN:=Lib.hid hsnd
 clear hgat hnodes htk hsnd hlive
 go_wp2_with (with_reducible refine wpList_load_agg rfl 63 _ rfl _ gb 0 rfl ([.slice V0 4 c0,.slice (some ⟨b,o,none⟩) 2 c1,.slice V2 (buildD (m0D ⟨#[120]⟩)).1.inputs.length c2,.slice V3 (buildD (m0D ⟨#[120]⟩)).1.outputs.length c3]:List Value) Tryd.underlying63 rfl (by kernel_rfl) HGAT.out ?_)
 refine HLV.out.mono ?_
 rw [m0_live]
 rintro e w7 ⟨lv,rfl,hlv,hb7⟩
 have hk7:=HK6.out.next hb7
 obtain ⟨LA,lc,lxs,rfl,-,-,-,hll,hlch⟩:=open_slice hlv
 obtain ⟨bl,ol,lx0,rfl,-,rfl,hl0⟩:=elem_at (i:=0) hll hlch (by decide) rfl
 obtain ⟨bl',ol',lx1,hbo,-,rfl,hl1⟩:=elem_at (i:=1) hll hlch (by decide) rfl
 simp only [Option.some.injEq,Addr.mk.injEq,and_true] at hbo
 obtain ⟨rfl,rfl⟩:=hbo
 have q0:w7.cell? ⟨bl,ol,none⟩ = some (.bool true):=by simpa [Rep.size] using (hl0 0 _ rfl).1
 have q1:w7.cell? ⟨bl,ol + 1,none⟩ = some (.bool true):=by simpa [Rep.size] using (hl1 0 _ rfl).1
 have hblt:bl < w7.heap.size:=by
  rcases Nat.lt_or_ge bl w7.heap.size with h | h
  ·exact h
  ·have:w7.heap[bl]? = none:=Array.getElem?_eq_none h
   simp [World.cell?,this] at q0
 have HK7:=Lib.hid hk7
 have HL7:=Lib.hid (And.intro q0 (And.intro q1 hblt))
 obtain ⟨b',o',b2',o2',k2',hbe,d0,d39,hd⟩:=HK7.out.facts HG1.out.2.2.2.1
 obtain ⟨d77,dj0,dj1⟩:=hd HG1.out.2.2.2.2.2.2
 simp only [Option.some.injEq,Addr.mk.injEq,and_true] at hbe
 obtain ⟨rfl,rfl⟩:=hbe
 rw [HG1.out.2.2.2.2.1] at d0
 rw [HG1.out.2.2.2.2.2.1] at d39
 have g1:w7.cell? ⟨gb,1,none⟩ = some (.slice (some ⟨b,o,none⟩) 2 c1):=cell_of_row' HK7.out.row rfl
 have hgat7:At w7 gb 0 ([.slice V0 4 c0,.slice (some ⟨b,o,none⟩) 2 c1,.slice V2 (buildD (m0D ⟨#[120]⟩)).1.inputs.length c2,.slice V3 (buildD (m0D ⟨#[120]⟩)).1.outputs.length c3]:List Value):=At.of_row HK7.out.row
 have HGAT7:=Lib.hid hgat7
 have hck:=check_sound ([.slice V0 4 c0,.slice (some ⟨b,o,none⟩) 2 c1,.slice V2 (buildD (m0D ⟨#[120]⟩)).1.inputs.length c2,.slice V3 (buildD (m0D ⟨#[120]⟩)).1.outputs.length c3]:List Value) (buildD (m0D ⟨#[120]⟩)).1 w7 HK7.out.graph (by rw [m0_vals];decide) HSN.out
 have HCK:=Lib.hid hck
 have hlen2:([true,true]:List Bool).length = 2:=rfl
 rw [hlen2]
 clear hlv hb7 hk7 hll hlch hl0 hl1 hd hgat7 hck hlen2 hblt HGAT HLV
 go_wp2_with (with_reducible refine wpList_load_agg_w (by kernel_rfl) 63 _ rfl _ gb 0 rfl ([.slice V0 4 c0,.slice (some ⟨b,o,none⟩) 2 c1,.slice V2 (buildD (m0D ⟨#[120]⟩)).1.inputs.length c2,.slice V3 (buildD (m0D ⟨#[120]⟩)).1.outputs.length c3]:List Value) Tryd.underlying63 rfl (by kernel_rfl) HGAT7.out ?_)
 refine HCK.out.mono ?_
 rintro e w8 ⟨rfl,hb8⟩
 have p0:w8.cell? ⟨bl,ol,none⟩ = some (.bool true):=cell_kept hb8 HL7.out.1
 have p1:w8.cell? ⟨bl,ol + 1,none⟩ = some (.bool true):=cell_kept hb8 HL7.out.2.1
 have HB8:=Lib.hid (HK7.out.next hb8).aw.a.below
 clear hb8
 go_wp2
 go_ret
 exact ⟨rfl,HB8.out⟩
end Go.Proofs.YtgbkhcmbmffljaaDoor
