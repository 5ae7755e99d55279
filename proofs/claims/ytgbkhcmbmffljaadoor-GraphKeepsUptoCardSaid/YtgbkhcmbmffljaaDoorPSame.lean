/-
  Two settings that hold the same are the same: latticeref07.SameInts, SameTensor, latticelaw08.same, where they answer yes.
-/
import Derived.Deep.QuietTactic
import Derived.BigQuiet
import Derived.Test.YtgbkhcmbmffljaaDoorPAid
import Derived.Test.YtgbkhcmbmffljaaDoorChecked
set_option linter.unusedSimpArgs false
set_option linter.unusedVariables false
namespace Go.Proofs.YtgbkhcmbmffljaaDoor
open Go.RowKit
open Rep (rep)
def HaltS (p:Prop):Prop:=p
theorem haltS {p:Prop} (h:HaltS p):p:=h
def YesDrew (w:World) (e:Ending) (w':World):Prop:=e = .returned (.bool true)∧∃ n,w' = w.drewN n
def YesBelow (w:World) (e:Ending) (w':World):Prop:=e = .returned (.bool true)∧Below w.heap.size w w'
def DrewFrom (w w':World):Prop:=∃ n,w' = w.drewN n
theorem DrewFrom.refl (w:World):DrewFrom w w:=⟨0,rfl⟩
theorem DrewFrom.more {w w':World} (h:DrewFrom w w') (n:Nat):DrewFrom w (w'.drewN n):=by
 obtain ⟨m,rfl⟩:=h
 exact ⟨m + n,by rw [World.drewN_drewN]⟩
theorem keeps_drewN (Z:Zone) (w:World) (n:Nat):Keeps Z w (w.drewN n):=fun _ _=>⟨rfl,rfl⟩
theorem rep_drewN {α:Type} [Rep α] {w:World} {Z:Zone} {cs:List Value} {a:α} (h:rep w Z cs a) (n:Nat):rep (w.drewN n) Z cs a:=Rep.keep h (keeps_drewN _ _ _)
section
variable {α:Type} [Rep α]
theorem cell_of_elem {w:World} {Z:Zone} {b o:Nat} {c:List Value} {i:Nat} {u:Value} (hs:Rep.size α = 1) (h:∀ j v,c[j]? = some v→w.cell? ⟨b,o + (i * Rep.size α + j),none⟩ = some v∧(Z.free = true→w.frozen? ⟨b,o + (i * Rep.size α + j),none⟩ = false)) (h0:c[0]? = some u) :
  w.cell? ⟨b,o + i,none⟩ = some u:=by
 have:=(h 0 u h0).1
 rwa [hs,Nat.mul_one,Nat.add_zero] at this
end
theorem one_i64 {w:World} {Z:Zone} {c:List Value} {z:Int} (h:rep w Z c z):c[0]? = some (.int .i64 z):=by obtain ⟨rfl,-⟩:=h;rfl
theorem one_u32 {w:World} {Z:Zone} {c:List Value} {z:Nat} (h:rep w Z c z):c[0]? = some (.int .u32 (z:Int)):=by obtain ⟨rfl,-⟩:=h;rfl
theorem one_bool {w:World} {Z:Zone} {c:List Value} {z:Bool} (h:rep w Z c z):c[0]? = some (.bool z):=by
 have h:c = [.bool z]:=h
 rw [h];rfl
set_option maxRecDepth 100000 in
set_option maxHeartbeats 4000000 in
theorem sameInts_any (v1 v2:Value) (l:List Int) (w:World) (h1:rep w (old w.heap.size) [v1] l) (h2:rep w (old w.heap.size) [v2] l) :
  Calls Tryd.prog 28 #[v1,v2] w (YesDrew w):=by
 obtain ⟨A1,k1,x1,rfl,hn1,hc1,-,hl1,hch1⟩:=open_slice h1
 obtain ⟨A2,k2,x2,rfl,hn2,hc2,-,hl2,hch2⟩:=open_slice h2
 have HL:=Lib.hid (And.intro hl1 (And.intro hch1 (And.intro hl2 hch2)))
 clear h1 h2 hl1 hch1 hl2 hch2
 go_enter Tryd.func28,Tryd.ntmps28
 go_wp2_with fail
 go_loopw [5] (fun i wr=>∃ pre post:List Int,l = pre++post∧i = .int .i64 pre.length∧DrewFrom w wr)
  (fun i _=>l.length - (intOf i).toNat)
 case atStart=>exact ⟨[],l,rfl,rfl,DrewFrom.refl w⟩
 case round =>
  obtain ⟨pre,post,hpp,rfl,hdr⟩:=hrel
  obtain ⟨m,rfl⟩:=hdr
  cases post with
  | cons z post =>
   obtain ⟨hz,hlt,hpp',hpl⟩:=split_at hpp
   obtain ⟨b1,o1,xc1,rfl,-,hrz1,hcell1⟩:=elem_at HL.out.1 HL.out.2.1 (by decide) hz
   obtain ⟨b2,o2,xc2,rfl,-,hrz2,hcell2⟩:=elem_at HL.out.2.2.1 HL.out.2.2.2 (by decide) hz
   obtain ⟨rfl,-⟩:=hrz1
   obtain ⟨rfl,-⟩:=hrz2
   have k4:w.cell? ⟨b1,o1 + pre.length,none⟩ = some (.int .i64 z):=cell_of_elem (α:=Int) rfl hcell1 rfl
   have k5:w.cell? ⟨b2,o2 + pre.length,none⟩ = some (.int .i64 z):=cell_of_elem (α:=Int) rfl hcell2 rfl
   have H:=Lib.hid (And.intro hpp' hpl)
   have hk0:(0:Int) ≤ (pre.length:Int):=Int.natCast_nonneg _
   have hk1:(pre.length:Int) < (l.length:Int):=by omega
   clear hpp hpp' hpl hz hcell1 hcell2
   go_wp2_with fail
   go_quiet (fail)
   go_wp2
   go_roundw
   case rel =>
    obtain ⟨hpp',hpl⟩:=H.out
    exact ⟨pre++[z],post,hpp',by rw [hpl];go_num,_,rfl⟩
   case measure=>simp [intOf];omega
  | nil =>
   obtain ⟨hge,hpl⟩:=split_end hpp
   clear hpp hpl
   go_wp2
   go_ret
   exact ⟨rfl,_,rfl⟩
structure TwoBox (w:World) (ta tb:TypeId) (ca cb:List Value) (W:World):Prop where
 below:Below w.heap.size w W
 fst:W.heap[w.heap.size]? = some (.cells ca.toArray ta (0,0))
 snd:W.heap[w.heap.size + 1]? = some (.cells cb.toArray tb (0,0))
 size:W.heap.size = w.heap.size + 2
theorem twobox_start (w:World) (ta tb:TypeId) (ca cb:List Value):TwoBox w ta tb ca cb ((w.alloc (.cells ca.toArray ta)).alloc (.cells cb.toArray tb)):=by
 have h1:=heap_alloc_new (w.alloc (.cells ca.toArray ta)) (.cells cb.toArray tb)
 rw [World.size_alloc] at h1
 exact ⟨((Below.refl _ _).alloc (Nat.le_refl _) _).alloc (by simp) _,(Below.heap_alloc _ _ _ (by simp)).trans (heap_alloc_new _ _),h1,by simp⟩
section
variable {w W:World} {ta tb:TypeId} {ca cb:List Value}
theorem TwoBox.a (h:TwoBox w ta tb ca cb W) {j:Nat} {u:Value} (hj:ca[j]? = some u):W.cell? ⟨w.heap.size,j,none⟩ = some u:=by
 have:=At.of_row h.fst j u hj
 rwa [Nat.zero_add] at this
theorem TwoBox.b (h:TwoBox w ta tb ca cb W) {j:Nat} {u:Value} (hj:cb[j]? = some u):W.cell? ⟨w.heap.size + 1,j,none⟩ = some u:=by
 have:=At.of_row h.snd j u hj
 rwa [Nat.zero_add] at this
theorem TwoBox.rep {α:Type} [Rep α] (h:TwoBox w ta tb ca cb W) {c:List Value} {a:α} (hr:rep w (old w.heap.size) c a):rep W (old W.heap.size) c a :=
 Rep.more (Rep.keep hr (Keeps.old_below h.below (Nat.le_refl _))) (old_le (by rw [h.size];omega))
end
theorem lies_of_slice {α:Type} [Rep α] {w:World} {Z:Zone} {A:Option Addr} {c:Nat} {l:List α} (h:rep w Z [.slice A l.length c] l):∃ xs,Lies w Z A xs∧Chunks w Z xs l:=by
 obtain ⟨A',n',c',xs,hv,hn,hnc,hcm,hb,hl,hc⟩:=h
 simp only [List.cons.injEq,and_true,Value.slice.injEq] at hv
 obtain ⟨rfl,_⟩:=hv
 exact ⟨xs,hl,hc⟩
theorem slice_bound {α:Type} [Rep α] {w:World} {Z:Zone} {A:Option Addr} {c:Nat} {l:List α} (h:rep w Z [.slice A l.length c] l):l.length ≤ c∧c ≤ 9223372036854775807:=by
 obtain ⟨A',n',c',xs,hv,hn,hnc,hcm,hb,hl,hc⟩:=h
 simp only [List.cons.injEq,and_true,Value.slice.injEq] at hv
 obtain ⟨_,rfl,rfl⟩:=hv
 unfold maxLen at hcm
 exact ⟨hnc,hcm⟩
theorem TwoBox.aDrop {w W:World} {ta tb:TypeId} {ca cb:List Value} (h:TwoBox w ta tb ca cb W) {k:Nat} {xs:List Value} (hx:ca.drop k = xs) {j:Nat} {u:Value} (hj:xs[j]? = some u):W.cell? ⟨w.heap.size,k + j,none⟩ = some u :=
 h.a (by rw [← hx,List.getElem?_drop] at hj;exact hj)
theorem TwoBox.bDrop {w W:World} {ta tb:TypeId} {ca cb:List Value} (h:TwoBox w ta tb ca cb W) {k:Nat} {xs:List Value} (hx:cb.drop k = xs) {j:Nat} {u:Value} (hj:xs[j]? = some u):W.cell? ⟨w.heap.size + 1,k + j,none⟩ = some u :=
 h.b (by rw [← hx,List.getElem?_drop] at hj;exact hj)
end Go.Proofs.YtgbkhcmbmffljaaDoor
