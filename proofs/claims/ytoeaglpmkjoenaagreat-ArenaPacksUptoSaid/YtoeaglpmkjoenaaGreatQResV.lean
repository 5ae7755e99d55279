/-
  The program's plain types as Lean data, and what their cells hold.
-/
/-
  Laws for a struct in a block of the call's own, field by field; lists that are copied.
-/
/-
  A part of the proofs of chapter 08: walks of the package ops. No condition.
-/
/-
  A part of the proofs of chapter 08: walks of the package ops. No condition.
-/
/-
  A part of the proofs of chapter 08: walks of the package ops. No condition.
-/
/-
  A part of the proofs of chapter 08: walks of the package ops. No condition.
-/
/-
  A part of the proofs of chapter 08: walks of the package ops. No condition.
-/
/-
  A part of the proofs of chapter 08: walks of the package ops. No condition.
-/
/-
  A part of the proofs of chapter 08: walks of the package ops. No condition.
-/
/-
  A part of the proofs of chapter 08: walks of the package ops. No condition.
-/
/-
  A part of the proofs of chapter 08: walks of the package ops. No condition.
-/
/-
  A part of the proofs of chapter 08: walks of the package ops. No condition.
-/
/-
  What 'Resolve' answers, as a plain function of the node.
-/
/-
  Plain laws of what 'Resolve' answers: what is taken names every attribute once; a value that stands anyway says nothing.
-/
/-
  'Resolve', the second loop: what one attribute of the operator does, as facts.
-/
import Derived.Test.YtoeaglpmkjoenaaGreatQBase
import Derived.Test.YtoeaglpmkjoenaaGreatQOpsB
import Derived.Deep.RegionHeld3
import Derived.Test.YtoeaglpmkjoenaaGreatRows
namespace Go.Proofs.YtoeaglpmkjoenaaGreat
open Go.RowKit
open Rep (rep)
theorem slice_form {α:Type} [Rep α] {w:World} {Z:Zone} {cs:List Value} {l:List α} (h:rep w Z cs l):∃ A c,cs = [.slice A l.length c]:=by
 obtain ⟨A,n,c,xs,rfl,rfl,_⟩:=h
 exact ⟨A,c,rfl⟩
theorem app_one {a b:List Value} (ha:∀ u ∈ a,u.oneCell' = true) (hb:∀ u ∈ b,u.oneCell' = true):∀ u ∈ a++b,u.oneCell' = true:=by
 intro u hu
 rcases List.mem_append.1 hu with h | h
 ·exact ha u h
 ·exact hb u h
instance:Rep UInt8 where
 size:=1
 bytes:=1
 rep _ _ cs n:=cs = [.int .u8 (n.toNat:Int)]
 len:=by rintro w Z cs a rfl;rfl
 one:=by rintro w Z cs a rfl u hu;simp at hu;subst hu;rfl
 keep:=fun h _=>h
 more:=fun h _=>h
def Fld {α:Type} [Rep α] (w:World) (Z:Zone) (cs:List Value) (j:Nat) (x:α):Prop:=∃ v,cs[j]? = some v∧rep w Z [v] x
section
variable {α:Type} [Rep α] {w w':World} {Z Z':Zone} {cs:List Value} {j k:Nat} {x:α} {v:Value}
theorem Fld.keep (h:Fld w Z cs j x) (kk:Keeps Z w w'):Fld w' Z cs j x:=let ⟨v,h1,h2⟩:=h;⟨v,h1,Rep.keep h2 kk⟩
theorem Fld.more (h:Fld w Z cs j x) (kk:Z.le Z'):Fld w Z' cs j x:=let ⟨v,h1,h2⟩:=h;⟨v,h1,Rep.more h2 kk⟩
theorem Fld.one (h:Fld w Z cs j x):∃ v,cs[j]? = some v∧v.oneCell' = true:=let ⟨v,h1,h2⟩:=h;⟨v,h1,Rep.one h2 v (List.mem_singleton.2 rfl)⟩
theorem Fld.set_ne (h:Fld w Z cs j x) (hk:k ≠ j):Fld w Z (cs.set k v) j x:=let ⟨u,h1,h2⟩:=h;⟨u,by rw [List.getElem?_set_ne hk];exact h1,h2⟩
theorem Fld.set_eq (hk:j < cs.length) (h:rep w Z [v] x):Fld w Z (cs.set j v) j x:=⟨v,by rw [List.getElem?_set_self hk],h⟩
theorem Fld.int {n:Int} (h:Fld w Z cs j n):cs[j]? = some (.int .i64 n)∧I64 n:=by
 obtain ⟨v,h1,h2,h3⟩:=h
 simp only [List.cons.injEq,and_true] at h2
 exact ⟨h2 ▸ h1,h3⟩
theorem Fld.u32 {n:Nat} (h:Fld w Z cs j n):cs[j]? = some (.int .u32 (n:Int))∧n < 4294967296:=by
 obtain ⟨v,h1,h2,h3⟩:=h
 simp only [List.cons.injEq,and_true] at h2
 exact ⟨h2 ▸ h1,h3⟩
theorem Fld.bool {b:Bool} (h:Fld w Z cs j b):cs[j]? = some (.bool b):=by
 obtain ⟨v,h1,h2⟩:=h
 have h3:[v] = [Value.bool b]:=h2
 simp only [List.cons.injEq,and_true] at h3
 exact h3 ▸ h1
theorem Fld.list {β:Type} [Rep β] {l:List β} (h:Fld w Z cs j l):∃ A c,cs[j]? = some (.slice A l.length c)∧rep w Z [.slice A l.length c] l:=by
 obtain ⟨v,h1,h2⟩:=h
 obtain ⟨A,c,xs,rfl,_⟩:=open_slice h2
 exact ⟨A,c,h1,h2⟩
end
structure TensorD where
 type:Int
 dims:List Int
 f:List Nat
 i:List Int
 b:List Bool
 deriving DecidableEq
instance:Rep TensorD where
 size:=5
 bytes:=104
 rep w Z cs a:=∃ c0 c1 c2 c3 c4,cs = c0++(c1++(c2++(c3++c4)))∧rep w Z c0 a.type∧rep w Z c1 a.dims∧rep w Z c2 a.f∧rep w Z c3 a.i∧rep w Z c4 a.b
 len:=by
  rintro w Z cs a ⟨c0,c1,c2,c3,c4,rfl,h0,h1,h2,h3,h4⟩
  simp only [List.length_append,Rep.len h0,Rep.len h1,Rep.len h2,Rep.len h3,Rep.len h4];rfl
 one:=by
  rintro w Z cs a ⟨c0,c1,c2,c3,c4,rfl,h0,h1,h2,h3,h4⟩
  exact app_one (Rep.one h0) (app_one (Rep.one h1) (app_one (Rep.one h2) (app_one (Rep.one h3) (Rep.one h4))))
 keep:=by
  rintro w w' Z cs a ⟨c0,c1,c2,c3,c4,hc,h0,h1,h2,h3,h4⟩ k
  exact ⟨c0,c1,c2,c3,c4,hc,Rep.keep h0 k,Rep.keep h1 k,Rep.keep h2 k,Rep.keep h3 k,Rep.keep h4 k⟩
 more:=by
  rintro w Z Z' cs a ⟨c0,c1,c2,c3,c4,hc,h0,h1,h2,h3,h4⟩ k
  exact ⟨c0,c1,c2,c3,c4,hc,Rep.more h0 k,Rep.more h1 k,Rep.more h2 k,Rep.more h3 k,Rep.more h4 k⟩
theorem open_TensorD {w:World} {Z:Zone} {cs:List Value} {a:TensorD} (h:rep w Z cs a):∃ A1 k1 A2 k2 A3 k3 A4 k4,cs = [.int .i64 a.type,.slice A1 a.dims.length k1,.slice A2 a.f.length k2,.slice A3 a.i.length k3,.slice A4 a.b.length k4]∧I64 a.type∧rep w Z [.slice A1 a.dims.length k1] a.dims∧rep w Z [.slice A2 a.f.length k2] a.f∧rep w Z [.slice A3 a.i.length k3] a.i∧rep w Z [.slice A4 a.b.length k4] a.b:=by
 obtain ⟨_,_,_,_,_,rfl,⟨rfl,h0⟩,h1,h2,h3,h4⟩:=h
 obtain ⟨A1,k1,rfl⟩:=slice_form h1
 obtain ⟨A2,k2,rfl⟩:=slice_form h2
 obtain ⟨A3,k3,rfl⟩:=slice_form h3
 obtain ⟨A4,k4,rfl⟩:=slice_form h4
 exact ⟨A1,k1,A2,k2,A3,k3,A4,k4,rfl,h0,h1,h2,h3,h4⟩
theorem shut_TensorD {w:World} {Z:Zone} {a:TensorD} (h0:I64 a.type) {c1:List Value} (h1:rep w Z c1 a.dims) {c2:List Value} (h2:rep w Z c2 a.f) {c3:List Value} (h3:rep w Z c3 a.i) {c4:List Value} (h4:rep w Z c4 a.b):rep w Z ([.int .i64 a.type]++(c1++(c2++(c3++c4)))) a :=
 ⟨_,_,_,_,_,rfl,⟨rfl,h0⟩,h1,h2,h3,h4⟩
structure AttrD where
 name:ByteArray
 kind:Int
 f:Nat
 i:Int
 s:ByteArray
 t:TensorD
 floats:List Nat
 ints:List Int
instance:Rep AttrD where
 size:=12
 bytes:=208
 rep w Z cs a:=∃ c0 c1 c2 c3 c4 c5 c6 c7,cs = c0++(c1++(c2++(c3++(c4++(c5++(c6++c7))))))∧rep w Z c0 a.name∧rep w Z c1 a.kind∧rep w Z c2 a.f∧rep w Z c3 a.i∧rep w Z c4 a.s∧rep w Z c5 a.t∧rep w Z c6 a.floats∧rep w Z c7 a.ints
 len:=by
  rintro w Z cs a ⟨c0,c1,c2,c3,c4,c5,c6,c7,rfl,h0,h1,h2,h3,h4,h5,h6,h7⟩
  simp only [List.length_append,Rep.len h0,Rep.len h1,Rep.len h2,Rep.len h3,Rep.len h4,Rep.len h5,Rep.len h6,Rep.len h7];rfl
 one:=by
  rintro w Z cs a ⟨c0,c1,c2,c3,c4,c5,c6,c7,rfl,h0,h1,h2,h3,h4,h5,h6,h7⟩
  exact app_one (Rep.one h0) (app_one (Rep.one h1) (app_one (Rep.one h2) (app_one (Rep.one h3) (app_one (Rep.one h4) (app_one (Rep.one h5) (app_one (Rep.one h6) (Rep.one h7)))))))
 keep:=by
  rintro w w' Z cs a ⟨c0,c1,c2,c3,c4,c5,c6,c7,hc,h0,h1,h2,h3,h4,h5,h6,h7⟩ k
  exact ⟨c0,c1,c2,c3,c4,c5,c6,c7,hc,Rep.keep h0 k,Rep.keep h1 k,Rep.keep h2 k,Rep.keep h3 k,Rep.keep h4 k,Rep.keep h5 k,Rep.keep h6 k,Rep.keep h7 k⟩
 more:=by
  rintro w Z Z' cs a ⟨c0,c1,c2,c3,c4,c5,c6,c7,hc,h0,h1,h2,h3,h4,h5,h6,h7⟩ k
  exact ⟨c0,c1,c2,c3,c4,c5,c6,c7,hc,Rep.more h0 k,Rep.more h1 k,Rep.more h2 k,Rep.more h3 k,Rep.more h4 k,Rep.more h5 k,Rep.more h6 k,Rep.more h7 k⟩
structure NodeD where
 op:ByteArray
 name:ByteArray
 ins:List ByteArray
 outs:List ByteArray
 attrs:List AttrD
instance:Rep NodeD where
 size:=5
 bytes:=104
 rep w Z cs a:=∃ c0 c1 c2 c3 c4,cs = c0++(c1++(c2++(c3++c4)))∧rep w Z c0 a.op∧rep w Z c1 a.name∧rep w Z c2 a.ins∧rep w Z c3 a.outs∧rep w Z c4 a.attrs
 len:=by
  rintro w Z cs a ⟨c0,c1,c2,c3,c4,rfl,h0,h1,h2,h3,h4⟩
  simp only [List.length_append,Rep.len h0,Rep.len h1,Rep.len h2,Rep.len h3,Rep.len h4];rfl
 one:=by
  rintro w Z cs a ⟨c0,c1,c2,c3,c4,rfl,h0,h1,h2,h3,h4⟩
  exact app_one (Rep.one h0) (app_one (Rep.one h1) (app_one (Rep.one h2) (app_one (Rep.one h3) (Rep.one h4))))
 keep:=by
  rintro w w' Z cs a ⟨c0,c1,c2,c3,c4,hc,h0,h1,h2,h3,h4⟩ k
  exact ⟨c0,c1,c2,c3,c4,hc,Rep.keep h0 k,Rep.keep h1 k,Rep.keep h2 k,Rep.keep h3 k,Rep.keep h4 k⟩
 more:=by
  rintro w Z Z' cs a ⟨c0,c1,c2,c3,c4,hc,h0,h1,h2,h3,h4⟩ k
  exact ⟨c0,c1,c2,c3,c4,hc,Rep.more h0 k,Rep.more h1 k,Rep.more h2 k,Rep.more h3 k,Rep.more h4 k⟩
structure SettingD where
 axis:Int
 axes:List Int
 hasAxes:Bool
 keeps:Bool
 noop:Bool
 last:Bool
 zero:Bool
 perm:List Int
 hasPerm:Bool
 alpha:Nat
 beta:Nat
 epsilon:Nat
 low:Bool
 high:Bool
 fmod:Bool
 dest:Int
 mode:Int
 transA:Bool
 transB:Bool
 group:Int
 kernel:List Int
 strides:List Int
 pads:List Int
 dilations:List Int
 auto:Int
 ceil:Bool
 count:Bool
 block:Int
 start:Int
 stop:Int
 hasEnd:Bool
 value:TensorD
 deriving DecidableEq
structure SettingDAt (w:World) (Z:Zone) (cs:List Value) (a:SettingD):Prop where
 len:cs.length = 36
 f0:Fld w Z cs 0 a.axis
 f1:Fld w Z cs 1 a.axes
 f2:Fld w Z cs 2 a.hasAxes
 f3:Fld w Z cs 3 a.keeps
 f4:Fld w Z cs 4 a.noop
 f5:Fld w Z cs 5 a.last
 f6:Fld w Z cs 6 a.zero
 f7:Fld w Z cs 7 a.perm
 f8:Fld w Z cs 8 a.hasPerm
 f9:Fld w Z cs 9 a.alpha
 f10:Fld w Z cs 10 a.beta
 f11:Fld w Z cs 11 a.epsilon
 f12:Fld w Z cs 12 a.low
 f13:Fld w Z cs 13 a.high
 f14:Fld w Z cs 14 a.fmod
 f15:Fld w Z cs 15 a.dest
 f16:Fld w Z cs 16 a.mode
 f17:Fld w Z cs 17 a.transA
 f18:Fld w Z cs 18 a.transB
 f19:Fld w Z cs 19 a.group
 f20:Fld w Z cs 20 a.kernel
 f21:Fld w Z cs 21 a.strides
 f22:Fld w Z cs 22 a.pads
 f23:Fld w Z cs 23 a.dilations
 f24:Fld w Z cs 24 a.auto
 f25:Fld w Z cs 25 a.ceil
 f26:Fld w Z cs 26 a.count
 f27:Fld w Z cs 27 a.block
 f28:Fld w Z cs 28 a.start
 f29:Fld w Z cs 29 a.stop
 f30:Fld w Z cs 30 a.hasEnd
 f31:rep w Z (cs.drop 31) a.value
instance:Rep SettingD where
 size:=36
 bytes:=400
 rep:=SettingDAt
 len:=fun h=>h.len
 one:=by
  intro w Z cs a h u hu
  obtain ⟨j,hj,rfl⟩:=List.mem_iff_getElem.1 hu
  have key:∀ j,j < 31→∃ v,cs[j]? = some v∧v.oneCell' = true:=fun j hj=>match j,hj with
   | 0,_=>h.f0.one
   | 1,_=>h.f1.one
   | 2,_=>h.f2.one
   | 3,_=>h.f3.one
   | 4,_=>h.f4.one
   | 5,_=>h.f5.one
   | 6,_=>h.f6.one
   | 7,_=>h.f7.one
   | 8,_=>h.f8.one
   | 9,_=>h.f9.one
   | 10,_=>h.f10.one
   | 11,_=>h.f11.one
   | 12,_=>h.f12.one
   | 13,_=>h.f13.one
   | 14,_=>h.f14.one
   | 15,_=>h.f15.one
   | 16,_=>h.f16.one
   | 17,_=>h.f17.one
   | 18,_=>h.f18.one
   | 19,_=>h.f19.one
   | 20,_=>h.f20.one
   | 21,_=>h.f21.one
   | 22,_=>h.f22.one
   | 23,_=>h.f23.one
   | 24,_=>h.f24.one
   | 25,_=>h.f25.one
   | 26,_=>h.f26.one
   | 27,_=>h.f27.one
   | 28,_=>h.f28.one
   | 29,_=>h.f29.one
   | 30,_=>h.f30.one
   | j + 31,hj=>absurd hj (by omega)
  by_cases hlt:j < 31
  ·obtain ⟨v,hv,h1⟩:=key j hlt
   rw [List.getElem?_eq_getElem hj] at hv
   injection hv with hv
   rw [hv];exact h1
  ·have h1:=Rep.one h.f31 (cs[j]) (by rw [List.mem_drop_iff_getElem];exact ⟨j - 31,by omega,by congr 1;omega⟩)
   exact h1
 keep:=fun h k=>⟨h.len,h.f0.keep k,h.f1.keep k,h.f2.keep k,h.f3.keep k,h.f4.keep k,h.f5.keep k,h.f6.keep k,h.f7.keep k,h.f8.keep k,h.f9.keep k,h.f10.keep k,h.f11.keep k,h.f12.keep k,h.f13.keep k,h.f14.keep k,h.f15.keep k,h.f16.keep k,h.f17.keep k,h.f18.keep k,h.f19.keep k,h.f20.keep k,h.f21.keep k,h.f22.keep k,h.f23.keep k,h.f24.keep k,h.f25.keep k,h.f26.keep k,h.f27.keep k,h.f28.keep k,h.f29.keep k,h.f30.keep k,Rep.keep h.f31 k⟩
 more:=fun h k=>⟨h.len,h.f0.more k,h.f1.more k,h.f2.more k,h.f3.more k,h.f4.more k,h.f5.more k,h.f6.more k,h.f7.more k,h.f8.more k,h.f9.more k,h.f10.more k,h.f11.more k,h.f12.more k,h.f13.more k,h.f14.more k,h.f15.more k,h.f16.more k,h.f17.more k,h.f18.more k,h.f19.more k,h.f20.more k,h.f21.more k,h.f22.more k,h.f23.more k,h.f24.more k,h.f25.more k,h.f26.more k,h.f27.more k,h.f28.more k,h.f29.more k,h.f30.more k,Rep.more h.f31 k⟩
structure SortD where
 name:ByteArray
 letter:UInt8
 must:Bool
 deriving DecidableEq
instance:Rep SortD where
 size:=3
 bytes:=24
 rep w Z cs a:=∃ c0 c1 c2,cs = c0++(c1++c2)∧rep w Z c0 a.name∧rep w Z c1 a.letter∧rep w Z c2 a.must
 len:=by
  rintro w Z cs a ⟨c0,c1,c2,rfl,h0,h1,h2⟩
  simp only [List.length_append,Rep.len h0,Rep.len h1,Rep.len h2];rfl
 one:=by
  rintro w Z cs a ⟨c0,c1,c2,rfl,h0,h1,h2⟩
  exact app_one (Rep.one h0) (app_one (Rep.one h1) (Rep.one h2))
 keep:=by
  rintro w w' Z cs a ⟨c0,c1,c2,hc,h0,h1,h2⟩ k
  exact ⟨c0,c1,c2,hc,Rep.keep h0 k,Rep.keep h1 k,Rep.keep h2 k⟩
 more:=by
  rintro w Z Z' cs a ⟨c0,c1,c2,hc,h0,h1,h2⟩ k
  exact ⟨c0,c1,c2,hc,Rep.more h0 k,Rep.more h1 k,Rep.more h2 k⟩
structure AttrRowD where
 name:ByteArray
 kind:ByteArray
 must:Bool
 deriving DecidableEq
instance:Rep AttrRowD where
 size:=3
 bytes:=40
 rep w Z cs a:=∃ c0 c1 c2,cs = c0++(c1++c2)∧rep w Z c0 a.name∧rep w Z c1 a.kind∧rep w Z c2 a.must
 len:=by
  rintro w Z cs a ⟨c0,c1,c2,rfl,h0,h1,h2⟩
  simp only [List.length_append,Rep.len h0,Rep.len h1,Rep.len h2];rfl
 one:=by
  rintro w Z cs a ⟨c0,c1,c2,rfl,h0,h1,h2⟩
  exact app_one (Rep.one h0) (app_one (Rep.one h1) (Rep.one h2))
 keep:=by
  rintro w w' Z cs a ⟨c0,c1,c2,hc,h0,h1,h2⟩ k
  exact ⟨c0,c1,c2,hc,Rep.keep h0 k,Rep.keep h1 k,Rep.keep h2 k⟩
 more:=by
  rintro w Z Z' cs a ⟨c0,c1,c2,hc,h0,h1,h2⟩ k
  exact ⟨c0,c1,c2,hc,Rep.more h0 k,Rep.more h1 k,Rep.more h2 k⟩
end Go.Proofs.YtoeaglpmkjoenaaGreat
namespace Go.Proofs.YtoeaglpmkjoenaaGreat
open Go.RowKit
open Rep (rep)
class Flat (α:Type) extends Rep α where
 any:∀ {w w':World} {Z Z':Zone} {cs:List Value} {a:α},Rep.rep w Z cs a→Rep.rep w' Z' cs a
instance:Flat Int:={ any:=fun h=>h }
instance:Flat Nat:={ any:=fun h=>h }
instance:Flat Bool:={ any:=fun h=>h }
instance:Flat ByteArray:={ any:=fun h=>h }
theorem Chunks.any {α:Type} [Flat α] {w w':World} {Z Z':Zone}:∀ {l:List α} {xs:List Value},Chunks w Z xs l→Chunks w' Z' xs l
 | [],_,h=>h
 | _ :: _,_,⟨c,r,hx,hc,hr⟩=>⟨c,r,hx,Flat.any hc,Chunks.any hr⟩
theorem rep_nil {α:Type} [Rep α] (w:World) (Z:Zone):rep w Z [.slice none 0 0] ([]:List α):=⟨none,0,0,[],rfl,rfl,Nat.le_refl _,Nat.zero_le _,by simp [reach],Lies.nil _ _ _,rfl⟩
section
variable {P:Program}
theorem wpList_store_field {ops:Array Oper} {rest:List Oper} {o:Oper} {a:Act} {w:World} {Q:Exit→Act→World→Prop} (hgd:o.guard = none) (ty:TypeId) (x y:Operand) (ho:o.op = .store ty x y)
  (g f:Nat) (v:Value) (hx:a.eval x = .pointer (some ⟨g,f,none⟩)) (hy:a.eval y = v) (h1:v.oneCell' = true) (hi:(P.info? ty).map (·.size) = some 1)
  (t:TypeId) (cs:List Value) (hg:w.heap[g]? = some (.cells cs.toArray t (0,0))) (hf:f < cs.length)
  (h:wpList P ops Q rest (a.put o.dst undef) (w.setRow g (cs.set f v).toArray)):wpList P ops Q (o :: rest) a w :=
 wpList_plain hgd fun _ hK=>by
  have hst:=run_storeCells_at P g f t [v] 0 cs.toArray w hg (by simp;omega) (by intro u hu;simp at hu;subst hu;exact h1)
  simp only [Nat.add_zero,List.length_cons,List.length_nil,Nat.zero_add] at hst
  have hset:cs.take f++[v]++cs.drop (f + 1) = cs.set f v:=by
   rw [List.set_eq_take_append_cons_drop,if_pos hf,List.append_assoc];rfl
  rw [hset] at hst
  unfold Oper.wp execOp
  cases hq:P.info? ty with
  | none=>simp [hq] at hi
  | some i =>
   have hs:i.size = 1:=by simpa [hq] using hi
   have hc:v.cells = #[v]:=by cases v <;> first | rfl | cases h1
   have hv:(storeVar ty ⟨g,f,none⟩ v).run P w = .ok () (w.setRow g (cs.set f v).toArray):=by
    simp only [storeVar,sizeOf,typeInfo,Sem.run_bind,hc]
    simp [hq,hs,hst]
   simp only [ho,hx,hy,Instr.storeAt,Instr.sureAddr,Sem.run_bind,Sem.run_pure,Result.andThen_ok,hv]
   exact hK _ _ h
theorem wpList_alloc_row {ops:Array Oper} {rest:List Oper} {o:Oper} {a:Act} {w:World} {Q:Exit→Act→World→Prop} (hgd:o.guard = none) (ty:TypeId) (ho:o.op = .alloc ty)
  (cs:List Value) (hz:(P.info? ty).bind (·.zero) = some (.agg cs.toArray))
  (h:wpList P ops Q rest (a.put o.dst (.pointer (some ⟨w.heap.size,0,none⟩))) (w.alloc (.cells cs.toArray ty))):wpList P ops Q (o :: rest) a w :=
 wpList_plain hgd fun _ hK=>by
  unfold Oper.wp execOp
  cases hq:P.info? ty with
  | none=>simp [hq] at hz
  | some i =>
   have hs:i.zero = some (.agg cs.toArray):=by simpa [hq] using hz
   have hrun:(Instr.alloc ty true (.tuple #[])).run P w = .ok (.pointer (some ⟨w.heap.size,0,none⟩)) (w.alloc (.cells cs.toArray ty)):=by
    simp [Instr.alloc,zeroValue,typeInfo,hq,hs,newVar,newRow,Value.cells]
   simp only [ho,Sem.run_bind,Sem.run_pure,Result.andThen_ok,hrun]
   exact hK _ _ h
theorem wpList_box_row {ops:Array Oper} {rest:List Oper} {o:Oper} {a:Act} {w:World} {Q:Exit→Act→World→Prop} (hgd:o.guard = none) (ty:TypeId) (x:Operand) (ho:o.op = .box ty x)
  (cs:List Value) (hx:a.eval x = .agg cs.toArray)
  (h:wpList P ops Q rest (a.put o.dst (.pointer (some ⟨w.heap.size,0,none⟩))) (w.alloc (.cells cs.toArray ty))):wpList P ops Q (o :: rest) a w :=
 wpList_plain hgd fun _ hK=>by
  unfold Oper.wp execOp
  have hrun:(Instr.box ty (.agg cs.toArray)).run P w = .ok (.pointer (some ⟨w.heap.size,0,none⟩)) (w.alloc (.cells cs.toArray ty)):=by
   simp [Instr.box,newVar,newRow,Value.cells]
  simp only [ho,hx,Sem.run_bind,Sem.run_pure,Result.andThen_ok,hrun]
  exact hK _ _ h
end
end Go.Proofs.YtoeaglpmkjoenaaGreat
namespace Go.Proofs.YtoeaglpmkjoenaaGreat
open Go.RowKit
open Rep (rep)
set_option maxRecDepth 100000 in
set_option maxHeartbeats 400000 in
theorem arity_any (op:Int) (w:World) (hI:I64 op) :
  Calls Tryz.prog 99 #[.int .i64 op] w fun e w'=>e = .returned (.tuple #[.int .i64 (findD op).least,.int .i64 (findD op).most,.int .i64 (findD op).out,.int .i64 (findD op).mostOuts])∧Below w.heap.size w w':=by
 go_enter Tryz.func99,Tryz.ntmps99
 go_wp2_with fail
 refine (find_any op _ hI).mono ?_
 rintro e w1 ⟨rfl,hb⟩
 have H:=Lib.hid hb
 clear hb
 obtain ⟨r,hr⟩:∃ r,findD op = r:=⟨_,rfl⟩
 rw [hr]
 have HR:=Lib.hid hr
 clear hr
 unfold RowD.cells
 go_wp2
 go_quiet (fail)
 go_wp2
 refine bodyPost_ret (v:=.tuple #[.int .i64 r.least,.int .i64 r.most,.int .i64 r.out,.int .i64 r.mostOuts]) (by simp [results,Tryz.results99]) rfl ⟨by rw [HR.out],?_⟩
 exact below_drewN (H.out.alloc H.out.size _) _
theorem indexFrom_any {α:Type} (p:α→Bool):∀ (l:List α) (k:Nat),decide (0 ≤ indexFrom p l k) = l.any p
 | [],k=>by simp [indexFrom]
 | a :: l,k=>by
  simp only [indexFrom,List.any_cons]
  split
  ·rename_i h;rw [h];simp
  ·rename_i h;rw [indexFrom_any p l (k + 1)];simp [h]
end Go.Proofs.YtoeaglpmkjoenaaGreat
namespace Go.Proofs.YtoeaglpmkjoenaaGreat
open Go.RowKit
open Rep (rep)
structure ModeD where
 op:Int
 name:ByteArray
 text:ByteArray
 mode:Int
def ModeD.cells (r:ModeD):List Value:=[.int .i64 r.op,.string r.name,.string r.text,.int .i64 r.mode]
theorem ModeD.one (r:ModeD):∀ u ∈ r.cells,u.oneCell' = true:=by
 intro u hu;simp [ModeD.cells] at hu;rcases hu with rfl | rfl | rfl | rfl <;> rfl
instance:Rep ModeD where
 size:=4
 bytes:=48
 rep _ _ cs r:=cs = r.cells
 len:=by rintro w Z cs a rfl;rfl
 one:=by rintro w Z cs a rfl;exact a.one
 keep:=fun h _=>h
 more:=fun h _=>h
end Go.Proofs.YtoeaglpmkjoenaaGreat
namespace Go.Proofs.YtoeaglpmkjoenaaGreat
open Go.RowKit
open Rep (rep)
def SortD.cells (s:SortD):List Value:=[.string s.name,.int .u8 (s.letter.toNat:Int),.bool s.must]
theorem SortD.one (r:SortD):∀ u ∈ r.cells,u.oneCell' = true:=by
 intro u hu;simp [SortD.cells] at hu;rcases hu with rfl | rfl | rfl <;> rfl
end Go.Proofs.YtoeaglpmkjoenaaGreat
namespace Go.Proofs.YtoeaglpmkjoenaaGreat
open Go.RowKit
open Rep (rep)
theorem intInfo:(Tryz.prog.info? 3).map (fun i=>(i.zero,i.size,i.bytes)) = some (some (.int .i64 0),1,8):=by kernel_rfl
end Go.Proofs.YtoeaglpmkjoenaaGreat
namespace Go.Proofs.YtoeaglpmkjoenaaGreat
open Go.RowKit
open Rep (rep)
theorem info_ints:(Tryz.prog.info? 3).map (fun i=>(i.zero,i.size,i.bytes)) = some (some (.int .i64 0),1,8):=by kernel_rfl
set_option maxRecDepth 100000 in
set_option maxHeartbeats 1000000 in
theorem clone_ints (l:List Int) (v:Value) (w:World) (hr:rep w (old w.heap.size) [v] l) :
  Calls Tryz.prog 30 #[v] w fun e w'=>∃ v',e = .returned v'∧rep w' (fresh w.heap.size w'.heap.size) [v'] l∧Below w.heap.size w w':=by
 obtain ⟨i0,hi0,hz0,hz1,hz2⟩:=info_parts info_ints
 have q:∀ (w:World) (a:Option Addr) (n c n' c':Nat),(binOp .eql 24 (.slice a n c) (.slice none n' c')).run Tryz.prog w = .ok (.bool a.isNone) w:=fun w a n c n' c'=>Lib.run_eql_slice_nil w _ _ a n c n' c' Tryz.underlying24
 obtain ⟨A,c,xs,rfl,hnc,hcm,hb,hl,hch⟩:=open_slice hr
 replace hb:l.length * 8 ≤ 140737488351232:=hb
 cases A with
 | none =>
  have hxs:xs = []:=Classical.byContradiction fun hne=>by
   obtain ⟨b,o,hA,_⟩:=hl hne
   cases hA
  have hl0:l = []:=by
   have:=hch.len
   rw [hxs] at this
   have h2:0 = l.length * 1:=this
   exact List.eq_nil_of_length_eq_zero (by omega)
  subst hl0
  clear hr hl hch hb hnc hcm hxs
  go_enter Tryz.func30,Tryz.ntmps30
  go_wp2
  go_ret
  exact ⟨_,rfl,rep_nil _ _,Below.refl _ _⟩
 | some ad =>
  have hn1:=hch.len
  replace hn1:xs.length = l.length * 1:=hn1
  have H:=Lib.hid (And.intro hch (And.intro hn1 hch.one))
  have hl2:∀ o:Obj,Lies (w.alloc o) (old w.heap.size) (some ad) xs:=fun o=>hl.keep (Keeps.old_below ((Below.refl _ _).alloc (Nat.le_refl _) o) (Nat.le_refl _))
  have HL:=Lib.hid hl2
  have hbz:l.length ≤ 140737488351232:=by omega
  clear hr hl hch hl2 hn1 hnc hcm
  go_enter Tryz.func30,Tryz.ntmps30
  go_wp2_with (at_builtin;refine wpList_append_lies _ rfl _ _ 24 rfl w.heap.size 3 i0 _ 1 8 Tryz.underlying24 hi0 hz0 hz1 hz2 rfl (by decide) _ 0 [] rfl (World.ownsRow_made w #[] 0 (Nat.le_refl _) (Nat.zero_le _) rfl) _ _ _ _ _ rfl H.out.2.1 (HL.out _) H.out.2.2 ?c3 ?c4 ?c5 ?_)
  case c3=>unfold maxLen;omega
  case c4=>omega
  case c5=>simp
  intro v' w1 hown' hgrow hat
  have HX:=Lib.hid (And.intro hown' (And.intro hgrow hat))
  clear hown' hgrow hat
  go_wp2
  go_ret
  obtain ⟨hown,hgrow,hat⟩:=HX.out
  refine ⟨v',rfl,rep_of_own hown (Chunks.any H.out.1) hb (fun g _ h1 h2=>⟨h1,h2⟩),?_⟩
  exact ((Below.refl _ w).alloc (Nat.le_refl _) _).grown hgrow (by simp) (by intro k hk;simp [Value.ownBlock] at hk;omega)
theorem info_u32s:(Tryz.prog.info? 46).map (fun i=>(i.zero,i.size,i.bytes)) = some (some (.int .u32 0),1,4):=by kernel_rfl
theorem info_i64s:(Tryz.prog.info? 2).map (fun i=>(i.zero,i.size,i.bytes)) = some (some (.int .i64 0),1,8):=by kernel_rfl
theorem info_bools:(Tryz.prog.info? 4).map (fun i=>(i.zero,i.size,i.bytes)) = some (some (.bool false),1,1):=by kernel_rfl
end Go.Proofs.YtoeaglpmkjoenaaGreat
namespace Go.Proofs.YtoeaglpmkjoenaaGreat
open Go.RowKit
open Rep (rep)
def Ten (W:World) (g:Nat):Prop:=W.heap[g]? = some (.cells #[.int .i64 0,.slice none 0 0,.slice none 0 0,.slice none 0 0,.slice none 0 0] 43 (0,0))
theorem Ten.lt {W:World} {g:Nat} (h:Ten W g):g < W.heap.size:=(Array.getElem?_eq_some_iff.1 h).1
theorem Ten.alloc {W:World} {g:Nat} (h:Ten W g) (o:Obj):Ten (W.alloc o) g:=(Below.heap_alloc W o g h.lt).trans h
theorem Ten.drew {W:World} {g:Nat} (h:Ten W g):Ten W.drew g:=h
theorem Ten.below {W W':World} {g:Nat} (h:Ten W g) (hb:Below W.heap.size W W'):Ten W' g:=(hb.block g h.lt).trans h
theorem Ten.cells {W:World} {g:Nat} (h:Ten W g):W.cell? ⟨g,0,none⟩ = some (.int .i64 0)∧W.cell? ⟨g,1,none⟩ = some (.slice none 0 0)∧W.cell? ⟨g,2,none⟩ = some (.slice none 0 0)∧W.cell? ⟨g,3,none⟩ = some (.slice none 0 0)∧W.cell? ⟨g,4,none⟩ = some (.slice none 0 0) :=
 ⟨cell_of_row _ _ _ _ _ _ h,cell_of_row _ _ _ _ _ _ h,cell_of_row _ _ _ _ _ _ h,cell_of_row _ _ _ _ _ _ h,cell_of_row _ _ _ _ _ _ h⟩
theorem Ten.free {W:World} {g:Nat} (h:Ten W g) (o:Nat):W.frozen? ⟨g,o,none⟩ = false:=by unfold Ten at h;simp [World.frozen?,h]
theorem set_as_row {W:World} {g j:Nat} {cs:Array Value} {t:TypeId} {fr:Nat × Nat} (h:W.heap[g]? = some (.cells cs t fr)) (v:Value):W.setCell ⟨g,j,none⟩ v = W.setRow g (cs.setIfInBounds j v):=by
 simp only [World.setCell,World.setRow]
 congr 1
 apply Array.ext_getElem?
 intro k
 simp only [Array.getElem?_modify]
 by_cases hk:g = k
 ·subst hk
  rw [h]
  rfl
 ·rw [if_neg hk,if_neg hk]
theorem keep_row {W:World} {g n m:Nat} (hg:g < n) (cs:Array Value):Keeps (fresh n m) W (W.setRow g cs):=.of_block fun k hk=>heap_setRow_other _ _ _ _ (by have:=hk.1;omega)
theorem sliced {α:Type} [Rep α] {l:List α} {e:Ending} {W w':World} (h:∃ v',e = .returned v'∧rep w' (fresh W.heap.size w'.heap.size) [v'] l∧Below W.heap.size W w') :
  ∃ A' c',e = .returned (.slice A' l.length c')∧rep w' (fresh W.heap.size w'.heap.size) [.slice A' l.length c'] l∧Below W.heap.size W w':=by
 obtain ⟨v',he,hv,hb⟩:=h
 obtain ⟨A,c,hf⟩:=slice_form hv
 simp only [List.cons.injEq,and_true] at hf
 exact ⟨A,c,by rw [he,hf],by rw [← hf];exact hv,hb⟩
end Go.Proofs.YtoeaglpmkjoenaaGreat
namespace Go.Proofs.YtoeaglpmkjoenaaGreat
open Go.RowKit
open Rep (rep)
structure ValInv (w:World) (c0 c1 c2 c3 c4:Value) (W:World):Prop where
 below:Below w.heap.size w W
 ten:Ten W (w.heap.size + 1)
 row:W.heap[w.heap.size + 2]? = some (.cells #[c0,c1,c2,c3,c4] 43 (0,0))
theorem ValInv.drew {w W:World} {c0 c1 c2 c3 c4:Value} (h:ValInv w c0 c1 c2 c3 c4 W):ValInv w c0 c1 c2 c3 c4 W.drew:=⟨h.below.drew,h.ten,h.row⟩
theorem ValInv.lt {w W:World} {c0 c1 c2 c3 c4:Value} (h:ValInv w c0 c1 c2 c3 c4 W):w.heap.size + 2 < W.heap.size:=(Array.getElem?_eq_some_iff.1 h.row).1
theorem ValInv.next {w W W':World} {c0 c1 c2 c3 c4:Value} (h:ValInv w c0 c1 c2 c3 c4 W) (hb:Below W.heap.size W W'):ValInv w c0 c1 c2 c3 c4 W' :=
 ⟨h.below.trans (hb.mono (by have:=h.lt;omega)),h.ten.below hb,(hb.block _ h.lt).trans h.row⟩
theorem ValInv.cells {w W:World} {c0 c1 c2 c3 c4:Value} (h:ValInv w c0 c1 c2 c3 c4 W):W.cell? ⟨w.heap.size + 2,0,none⟩ = some c0∧W.cell? ⟨w.heap.size + 2,1,none⟩ = some c1∧W.cell? ⟨w.heap.size + 2,2,none⟩ = some c2∧W.cell? ⟨w.heap.size + 2,3,none⟩ = some c3∧W.cell? ⟨w.heap.size + 2,4,none⟩ = some c4 :=
 ⟨cell_of_row _ _ _ _ _ _ h.row,cell_of_row _ _ _ _ _ _ h.row,cell_of_row _ _ _ _ _ _ h.row,cell_of_row _ _ _ _ _ _ h.row,cell_of_row _ _ _ _ _ _ h.row⟩
end Go.Proofs.YtoeaglpmkjoenaaGreat
set_option linter.unusedSimpArgs false
namespace Go.Proofs.YtoeaglpmkjoenaaGreat
open Go.RowKit
open Rep (rep)
structure Sets (w:World) (g:Nat) (cs:List Value):Prop where
 at':w.heap[g]? = some (.cells cs.toArray 48 (0,0))
 len:cs.length = 36
theorem Sets.free {w:World} {g:Nat} {cs:List Value} (h:Sets w g cs) (o:Nat):w.frozen? ⟨g,o,none⟩ = false:=by simp [World.frozen?,h.at']
theorem Sets.cell {w:World} {g:Nat} {cs:List Value} (h:Sets w g cs) (k:Nat) (hk:k < 36):∃ v,w.cell? ⟨g,k,none⟩ = some v:=by
 refine ⟨cs[k]'(by rw [h.len];exact hk),?_⟩
 rw [cell_of_row _ _ _ _ _ _ h.at']
 simp [h.len,hk]
theorem Sets.row {w:World} {g:Nat} {cs:List Value} (h:Sets w g cs) (cs':List Value) (hl:cs'.length = 36):Sets (w.setRow g cs'.toArray) g cs':=⟨heap_setRow _ _ _ _ _ h.at',hl⟩
theorem Sets.lt {w:World} {g:Nat} {cs:List Value} (h:Sets w g cs):g < w.heap.size:=(Array.getElem?_eq_some_iff.1 h.at').1
theorem Sets.below {w w':World} {g:Nat} {cs:List Value} (h:Sets w g cs) (hb:Below w.heap.size w w'):Sets w' g cs:=⟨(hb.block g h.lt).trans h.at',h.len⟩
theorem Sets.set1 {w:World} {g:Nat} {cs:List Value} (h:Sets w g cs) (k:Nat) (v:Value):w.setCell ⟨g,k,none⟩ v = w.setRow g (cs.set k v).toArray:=by
 rw [set_as_row h.at'];simp
theorem Sets.set0 {w:World} {g:Nat} {cs:List Value} (h:Sets w g cs):w = w.setRow g cs.toArray:=by
 have h':=h.at'
 cases w with
 | mk heap _ =>
  simp only [World.setRow,World.mk.injEq,and_true]
  apply Array.ext_getElem?
  intro k
  simp only [Array.getElem?_modify]
  by_cases hk:g = k
  ·subst hk
   simp only [if_pos] at *
   rw [h'];rfl
  ·simp [hk]
theorem SettingDAt.set0 {w:World} {Z:Zone} {cs:List Value} {a:SettingD} (h:SettingDAt w Z cs a) {v:Value} {x:Int} (hv:rep w Z [v] x):SettingDAt w Z (cs.set 0 v) { a with axis:=x } :=
 ⟨by rw [List.length_set];exact h.len,.set_eq (by rw [h.len];omega) hv,h.f1.set_ne (by decide),h.f2.set_ne (by decide),h.f3.set_ne (by decide),h.f4.set_ne (by decide),h.f5.set_ne (by decide),h.f6.set_ne (by decide),h.f7.set_ne (by decide),h.f8.set_ne (by decide),h.f9.set_ne (by decide),h.f10.set_ne (by decide),h.f11.set_ne (by decide),h.f12.set_ne (by decide),h.f13.set_ne (by decide),h.f14.set_ne (by decide),h.f15.set_ne (by decide),h.f16.set_ne (by decide),h.f17.set_ne (by decide),h.f18.set_ne (by decide),h.f19.set_ne (by decide),h.f20.set_ne (by decide),h.f21.set_ne (by decide),h.f22.set_ne (by decide),h.f23.set_ne (by decide),h.f24.set_ne (by decide),h.f25.set_ne (by decide),h.f26.set_ne (by decide),h.f27.set_ne (by decide),h.f28.set_ne (by decide),h.f29.set_ne (by decide),h.f30.set_ne (by decide),by rw [List.drop_set_of_lt (by decide)];exact h.f31⟩
theorem SettingDAt.set1 {w:World} {Z:Zone} {cs:List Value} {a:SettingD} (h:SettingDAt w Z cs a) {v:Value} {x:List Int} (hv:rep w Z [v] x):SettingDAt w Z (cs.set 1 v) { a with axes:=x } :=
 ⟨by rw [List.length_set];exact h.len,h.f0.set_ne (by decide),.set_eq (by rw [h.len];omega) hv,h.f2.set_ne (by decide),h.f3.set_ne (by decide),h.f4.set_ne (by decide),h.f5.set_ne (by decide),h.f6.set_ne (by decide),h.f7.set_ne (by decide),h.f8.set_ne (by decide),h.f9.set_ne (by decide),h.f10.set_ne (by decide),h.f11.set_ne (by decide),h.f12.set_ne (by decide),h.f13.set_ne (by decide),h.f14.set_ne (by decide),h.f15.set_ne (by decide),h.f16.set_ne (by decide),h.f17.set_ne (by decide),h.f18.set_ne (by decide),h.f19.set_ne (by decide),h.f20.set_ne (by decide),h.f21.set_ne (by decide),h.f22.set_ne (by decide),h.f23.set_ne (by decide),h.f24.set_ne (by decide),h.f25.set_ne (by decide),h.f26.set_ne (by decide),h.f27.set_ne (by decide),h.f28.set_ne (by decide),h.f29.set_ne (by decide),h.f30.set_ne (by decide),by rw [List.drop_set_of_lt (by decide)];exact h.f31⟩
end Go.Proofs.YtoeaglpmkjoenaaGreat
set_option linter.unusedSimpArgs false
namespace Go.Proofs.YtoeaglpmkjoenaaGreat
open Go.RowKit
open Rep (rep)
def zeroS:List Value:=[.int .i64 0,.slice none 0 0,.bool false,.bool false,.bool false,.bool false,.bool false,.slice none 0 0,.bool false,.int .u32 0,.int .u32 0,.int .u32 0,.bool false,.bool false,.bool false,.int .i64 0,.int .i64 0,.bool false,.bool false,.int .i64 0,.slice none 0 0,.slice none 0 0,.slice none 0 0,.slice none 0 0,.int .i64 0,.bool false,.bool false,.int .i64 0,.int .i64 0,.int .i64 0,.bool false,.int .i64 0,.slice none 0 0,.slice none 0 0,.slice none 0 0,.slice none 0 0]
theorem zeroS_len:zeroS.length = 36:=rfl
theorem zeroS_zero:(Tryz.prog.info? 48).bind (·.zero) = some (.agg zeroS.toArray):=by kernel_rfl
structure LeftAt (w W:World):Prop where
 below:Below w.heap.size w W
 s0:Sets W w.heap.size zeroS
 s1:Sets W (w.heap.size + 1) zeroS
theorem LeftAt.alloc {w W:World} (h:LeftAt w W) (o:Obj):LeftAt w (W.alloc o):=⟨h.below.alloc h.below.size o,⟨(Below.heap_alloc _ _ _ h.s0.lt).trans h.s0.at',rfl⟩,⟨(Below.heap_alloc _ _ _ h.s1.lt).trans h.s1.at',rfl⟩⟩
theorem LeftAt.other {w W:World} (h:LeftAt w W) (cs:Array Value):(W.setRow (w.heap.size + 1) cs).heap[w.heap.size]? = some (.cells zeroS.toArray 48 (0,0)):=(heap_setRow_other _ _ _ _ (by omega)).trans h.s0.at'
theorem LeftAt.res {w W:World} (h:LeftAt w W) (cs:List Value) (hl:cs.length = 36):((W.setRow (w.heap.size + 1) cs.toArray).setRow w.heap.size (zeroS.take 0++cs++zeroS.drop (0 + cs.length)).toArray).heap[w.heap.size]? = some (.cells cs.toArray 48 (0,0)):=by
 have e:zeroS.take 0++cs++zeroS.drop (0 + cs.length) = cs:=by rw [List.take_zero,List.nil_append,Nat.zero_add,List.drop_of_length_le (by rw [hl,zeroS_len];exact Nat.le_refl _),List.append_nil]
 rw [e]
 exact heap_setRow _ _ _ _ _ (h.other _)
def Halt (p:Prop):Prop:=p
theorem halt {p:Prop} (h:Halt p):p:=h
end Go.Proofs.YtoeaglpmkjoenaaGreat
set_option linter.unusedSimpArgs false
namespace Go.Proofs.YtoeaglpmkjoenaaGreat
open Go.RowKit
open Rep (rep)
theorem freshBut_le {n n' m m' g:Nat} (h:n' ≤ n) (k:m ≤ m'):(freshBut n m g).le (freshBut n' m' g):=⟨fun _ hb=>⟨Nat.le_trans h hb.1,Nat.lt_of_lt_of_le hb.2.1 k,hb.2.2⟩,fun _=>rfl⟩
end Go.Proofs.YtoeaglpmkjoenaaGreat
set_option linter.unusedSimpArgs false
namespace Go.Proofs.YtoeaglpmkjoenaaGreat
open Go.RowKit
open Rep (rep)
def countD (l:List AttrD) (s:ByteArray):Nat:=(l.filter fun a=>decide (a.name = s)).length
end Go.Proofs.YtoeaglpmkjoenaaGreat
set_option linter.unusedSimpArgs false
namespace Go.Proofs.YtoeaglpmkjoenaaGreat
open Go.RowKit
open Rep (rep)
def sumN (l:List Nat):Nat:=l.foldr (· + ·) 0
theorem sum_cons (a:Nat) (l:List Nat):sumN (a :: l) = a + sumN l:=rfl
theorem count_cons (a:AttrD) (l:List AttrD) (s:ByteArray):countD (a :: l) s = (if a.name = s then 1 else 0) + countD l s:=by
 unfold countD
 by_cases h:a.name = s <;> simp [h];omega
end Go.Proofs.YtoeaglpmkjoenaaGreat
set_option linter.unusedSimpArgs false
namespace Go.Proofs.YtoeaglpmkjoenaaGreat
open Go.RowKit
open Rep (rep)
theorem laid_row (W:World) (t:TypeId) (z cs:List Value) (hl:cs.length = z.length) :
  Below W.heap.size W ((W.alloc (.cells z.toArray t)).setRow W.heap.size (z.take 0++cs++z.drop (0 + cs.length)).toArray) ∧
  ((W.alloc (.cells z.toArray t)).setRow W.heap.size (z.take 0++cs++z.drop (0 + cs.length)).toArray).heap[W.heap.size]? = some (.cells cs.toArray t (0,0)) ∧
  ((W.alloc (.cells z.toArray t)).setRow W.heap.size (z.take 0++cs++z.drop (0 + cs.length)).toArray).heap.size = W.heap.size + 1:=by
 have e:z.take 0++cs++z.drop (0 + cs.length) = cs:=by
  rw [List.take_zero,List.nil_append,Nat.zero_add,List.drop_of_length_le (by omega),List.append_nil]
 rw [e]
 exact ⟨below_setRow' ((Below.refl _ _).alloc (Nat.le_refl _) _) (Nat.le_refl _) _,heap_setRow _ _ _ _ _ (heap_alloc_new _ _),by rw [size_setRow];simp⟩
theorem grown_below {a b c:World} {q:Option Nat} (h:a.grownBy b q) (k:Below b.heap.size b c):a.grownBy c q :=
 ⟨k.os.trans h.os,k.tape.trans h.tape,k.output.trans h.output,Nat.le_trans h.size k.size,fun i hi hn=>(k.block i (Nat.lt_of_lt_of_le hi h.size)).trans (h.block i hi hn)⟩
theorem grown_drew {a b:World} {q:Option Nat} (h:a.grownBy b q):a.grownBy b.drew q:=⟨h.os,h.tape,h.output,h.size,h.block⟩
structure LoopInv (w8:World) (n0 g:Nat) (ss:List Value) (s:SettingD) (W:World):Prop where
 grown:w8.grownBy W (some g)
 sets:Sets W g ss
 dat:SettingDAt W (freshBut n0 W.heap.size g) ss s
section
variable {w8 W W':World} {n0 g:Nat} {ss:List Value} {s:SettingD}
theorem LoopInv.next (h:LoopInv w8 n0 g ss s W) (hb:Below W.heap.size W W'):LoopInv w8 n0 g ss s W' :=
 ⟨grown_below h.grown hb,h.sets.below hb,(inferInstance:Rep SettingD).more ((inferInstance:Rep SettingD).keep h.dat (.of_below hb fun _ hk=>hk.2.1)) (freshBut_le (Nat.le_refl _) hb.size)⟩
theorem LoopInv.drew (h:LoopInv w8 n0 g ss s W):LoopInv w8 n0 g ss s W.drew:=⟨grown_drew h.grown,⟨h.sets.at',h.sets.len⟩,(inferInstance:Rep SettingD).keep h.dat (.of_block fun _ _=>rfl)⟩
theorem LoopInv.start {w6:World} (_:n0 ≤ w6.heap.size) (hl:ss.length = 36) (hd:SettingDAt w6 (fresh n0 w6.heap.size) ss s) :
  Below w6.heap.size w6 ((w6.alloc (.cells zeroS.toArray 48)).setRow w6.heap.size (zeroS.take 0++ss++zeroS.drop (0 + ss.length)).toArray) ∧
  LoopInv ((w6.alloc (.cells zeroS.toArray 48)).setRow w6.heap.size (zeroS.take 0++ss++zeroS.drop (0 + ss.length)).toArray) n0 w6.heap.size ss s
   ((w6.alloc (.cells zeroS.toArray 48)).setRow w6.heap.size (zeroS.take 0++ss++zeroS.drop (0 + ss.length)).toArray):=by
 obtain ⟨h1,h2,h3⟩:=laid_row w6 48 zeroS ss (by rw [hl,zeroS_len])
 refine ⟨h1,World.grownBy.refl _ _,⟨h2,hl⟩,(inferInstance:Rep SettingD).more ((inferInstance:Rep SettingD).keep hd (.of_below h1 fun _ hk=>hk.2)) ⟨fun k hk=>⟨hk.1,by rw [h3];exact Nat.lt_succ_of_lt hk.2,fun e=>by have:=hk.2;omega⟩,fun _=>rfl⟩⟩
end
section
variable {P:Program}
theorem step_store_agg {ops:Array Oper} {o:Oper} {a:Act} {w:World} {K:Act→World→Prop} {Q:Exit→Act→World→Prop} {E:Prop} (hw:Region.wanted o (yielded ops a.tmps) = true) (ty:TypeId) (x y:Operand) (ho:o.op = .store ty x y)
  (g f:Nat) (cs:List Value) (hx:a.eval x = .pointer (some ⟨g,f,none⟩)) (hy:a.eval y = .agg cs.toArray)
  (t:TypeId) (cur:List Value) (hg:w.heap[g]? = some (.cells cur.toArray t (0,0))) (hi:(P.info? ty).map (·.size) = some cs.length)
  (hfit:f + cs.length ≤ cur.length) (h1:∀ u ∈ cs,u.oneCell' = true)
  (h:K (a.put o.dst undef) (w.setRow g (cur.take f++cs++cur.drop (f + cs.length)).toArray)) :
  if Region.wanted o (yielded ops a.tmps) = true then Oper.wp P o a w K Q else E:=by
 rw [if_pos hw]
 have hst:=run_storeCells_at P g f t cs 0 cur.toArray w hg (by simpa using hfit) h1
 simp only [Nat.add_zero] at hst
 unfold Oper.wp execOp
 cases hq:P.info? ty with
 | none=>simp [hq] at hi
 | some i =>
  have hs:i.size = cs.length:=by simpa [hq] using hi
  have hv:(storeVar ty ⟨g,f,none⟩ (.agg cs.toArray)).run P w = .ok () (w.setRow g (cur.take f++cs++cur.drop (f + cs.length)).toArray):=by
   simp only [storeVar,Value.cells,sizeOf,typeInfo,List.size_toArray,Sem.run_bind]
   simp [hq,hs,hst]
  simp only [ho,hx,hy,Instr.storeAt,Instr.sureAddr,Sem.run_bind,Sem.run_pure,Result.andThen_ok,hv]
  exact h
end
section
variable {P:Program}
theorem yields_load_agg {ops:Array Oper} {S:World→Prop} {o:Oper} {a:Act} (hw:Region.wanted o (yielded ops a.tmps) = true) (ty:TypeId) (x:Operand) (ho:o.op = .load ty x)
  (d:TypeDesc) (b f:Nat) (hx:a.eval x = .pointer (some ⟨b,f,none⟩)) (cs:List Value) (hu:P.underlying ty = some d) (hd:(match d with | .struct _ | .array _ _=>true | _=>false) = true)
  (hi:(P.info? ty).map (·.size) = some cs.length) (hS:∀ w,S w→At w b f cs):YieldsIf P ops S o (.agg cs.toArray) a :=
 .inl ⟨hw,fun w h=>by
  unfold execOp
  simp only [ho,hx,Instr.loadAt,Instr.sureAddr,Sem.run_bind,Sem.run_pure,Result.andThen_ok,run_load_agg w ty d b f cs hu hd hi (hS w h)]⟩
end
theorem At.setRow_other {w:World} {b o g:Nat} {cs:List Value} (h:At w b o cs) (hg:b ≠ g) (x:Array Value):At (w.setRow g x) b o cs:=fun j u hu =>
 (World.cell?_of_block (w:=w) (w':=w.setRow g x) (a:=⟨b,o + j,none⟩) (heap_setRow_other _ _ _ _ hg)).trans (h j u hu)
theorem anyH_store_agg {P:Program} {md:Region.Mode} {ops:Array Oper} {Q:Exit→Act→World→Prop} {S:World→Prop} {fuel:Nat} {listed:Array Bool} {a:Act} {w:World} {o:Oper} (i:Nat) (hio:ops[i]? = some o) (hr:Region.ready md ops listed = [i])
  (hw:Region.wanted o (yielded ops a.tmps) = true) (ty:TypeId) (x y:Operand) (ho:o.op = .store ty x y)
  (g f:Nat) (cs:List Value) (hx:a.eval x = .pointer (some ⟨g,f,none⟩)) (hy:a.eval y = .agg cs.toArray)
  (t:TypeId) (cur:List Value) (hg:w.heap[g]? = some (.cells cur.toArray t (0,0))) (hi:(P.info? ty).map (·.size) = some cs.length)
  (hfit:f + cs.length ≤ cur.length) (h1:∀ u ∈ cs,u.oneCell' = true) (hS:S (w.setRow g (cur.take f++cs++cur.drop (f + cs.length)).toArray))
  (h:wpAnyH P md ops Q S fuel (listed.setIfInBounds i true) (a.put o.dst undef) (w.setRow g (cur.take f++cs++cur.drop (f + cs.length)).toArray)):wpAnyH P md ops Q S (fuel + 1) listed a w :=
 wpAnyH_ready hr (by simp) (AllReadyH.cons hio (fun _ hK=>step_store_agg hw ty x y ho g f cs hx hy t cur hg hi hfit h1 (hK.out _ _ hS (fun _=>h))) AllReadyH.nil)
theorem LoopInv.fin {w w8 W:World} {n0 g:Nat} {ss:List Value} {s:SettingD} (h:LoopInv w8 n0 g ss s W) (hn:w.heap.size + 1 < n0) (b:Array Value) :
  SettingDAt (W.drew.setRow (w.heap.size + 1) b) (fresh w.heap.size (W.drew.setRow (w.heap.size + 1) b).heap.size) ss s :=
 (inferInstance:Rep SettingD).more ((inferInstance:Rep SettingD).keep h.drew.dat (.of_block fun k hk=>heap_setRow_other _ _ _ _ (by have:=hk.1;omega)))
  ⟨fun k hk=>⟨by have:=hk.1;omega,by rw [size_setRow];exact hk.2.1⟩,fun _=>rfl⟩
end Go.Proofs.YtoeaglpmkjoenaaGreat
