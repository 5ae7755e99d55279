/-
  The program's plain types as Lean data, and what their cells hold.
-/
/-
  Laws for a struct in a block of the call's own, field by field; lists that are copied.
-/
import Derived.Test.YtgbkhcmbmffljaaDoorPBase
namespace Go.Proofs.YtgbkhcmbmffljaaDoor
open Go.RowKit
open Rep (rep)
theorem slice_form {α:Type} [Rep α] {w:World} {Z:Zone} {cs:List Value} {l:List α} (h:rep w Z cs l):∃ A c,cs = [.slice A l.length c]:=by
 obtain ⟨A,n,c,xs,rfl,rfl,_⟩:=h
 exact ⟨A,c,rfl⟩
theorem app_one {a b:List Value} (ha:∀ u ∈ a,u.oneCell' = true) (hb:∀ u ∈ b,u.oneCell' = true):∀ u ∈ a++b,u.oneCell' = true:=by
 intro u hu
 rcases List.mem_append.1 hu with h | h
 ·exact ha u h
 ·exact hb u h
instance:Rep UInt8 where
 size:=1
 bytes:=1
 rep _ _ cs n:=cs = [.int .u8 (n.toNat:Int)]
 len:=by rintro w Z cs a rfl;rfl
 one:=by rintro w Z cs a rfl u hu;simp at hu;subst hu;rfl
 keep:=fun h _=>h
 more:=fun h _=>h
def Fld {α:Type} [Rep α] (w:World) (Z:Zone) (cs:List Value) (j:Nat) (x:α):Prop:=∃ v,cs[j]? = some v∧rep w Z [v] x
section
variable {α:Type} [Rep α] {w w':World} {Z Z':Zone} {cs:List Value} {j k:Nat} {x:α} {v:Value}
theorem Fld.keep (h:Fld w Z cs j x) (kk:Keeps Z w w'):Fld w' Z cs j x:=let ⟨v,h1,h2⟩:=h;⟨v,h1,Rep.keep h2 kk⟩
theorem Fld.more (h:Fld w Z cs j x) (kk:Z.le Z'):Fld w Z' cs j x:=let ⟨v,h1,h2⟩:=h;⟨v,h1,Rep.more h2 kk⟩
theorem Fld.one (h:Fld w Z cs j x):∃ v,cs[j]? = some v∧v.oneCell' = true:=let ⟨v,h1,h2⟩:=h;⟨v,h1,Rep.one h2 v (List.mem_singleton.2 rfl)⟩
theorem Fld.set_ne (h:Fld w Z cs j x) (hk:k ≠ j):Fld w Z (cs.set k v) j x:=let ⟨u,h1,h2⟩:=h;⟨u,by rw [List.getElem?_set_ne hk];exact h1,h2⟩
theorem Fld.set_eq (hk:j < cs.length) (h:rep w Z [v] x):Fld w Z (cs.set j v) j x:=⟨v,by rw [List.getElem?_set_self hk],h⟩
theorem Fld.int {n:Int} (h:Fld w Z cs j n):cs[j]? = some (.int .i64 n)∧I64 n:=by
 obtain ⟨v,h1,h2,h3⟩:=h
 simp only [List.cons.injEq,and_true] at h2
 exact ⟨h2 ▸ h1,h3⟩
theorem Fld.u32 {n:Nat} (h:Fld w Z cs j n):cs[j]? = some (.int .u32 (n:Int))∧n < 4294967296:=by
 obtain ⟨v,h1,h2,h3⟩:=h
 simp only [List.cons.injEq,and_true] at h2
 exact ⟨h2 ▸ h1,h3⟩
theorem Fld.bool {b:Bool} (h:Fld w Z cs j b):cs[j]? = some (.bool b):=by
 obtain ⟨v,h1,h2⟩:=h
 have h3:[v] = [Value.bool b]:=h2
 simp only [List.cons.injEq,and_true] at h3
 exact h3 ▸ h1
theorem Fld.list {β:Type} [Rep β] {l:List β} (h:Fld w Z cs j l):∃ A c,cs[j]? = some (.slice A l.length c)∧rep w Z [.slice A l.length c] l:=by
 obtain ⟨v,h1,h2⟩:=h
 obtain ⟨A,c,xs,rfl,_⟩:=open_slice h2
 exact ⟨A,c,h1,h2⟩
end
structure TensorD where
 type:Int
 dims:List Int
 f:List Nat
 i:List Int
 b:List Bool
 deriving DecidableEq
instance:Rep TensorD where
 size:=5
 bytes:=104
 rep w Z cs a:=∃ c0 c1 c2 c3 c4,cs = c0++(c1++(c2++(c3++c4)))∧rep w Z c0 a.type∧rep w Z c1 a.dims∧rep w Z c2 a.f∧rep w Z c3 a.i∧rep w Z c4 a.b
 len:=by
  rintro w Z cs a ⟨c0,c1,c2,c3,c4,rfl,h0,h1,h2,h3,h4⟩
  simp only [List.length_append,Rep.len h0,Rep.len h1,Rep.len h2,Rep.len h3,Rep.len h4];rfl
 one:=by
  rintro w Z cs a ⟨c0,c1,c2,c3,c4,rfl,h0,h1,h2,h3,h4⟩
  exact app_one (Rep.one h0) (app_one (Rep.one h1) (app_one (Rep.one h2) (app_one (Rep.one h3) (Rep.one h4))))
 keep:=by
  rintro w w' Z cs a ⟨c0,c1,c2,c3,c4,hc,h0,h1,h2,h3,h4⟩ k
  exact ⟨c0,c1,c2,c3,c4,hc,Rep.keep h0 k,Rep.keep h1 k,Rep.keep h2 k,Rep.keep h3 k,Rep.keep h4 k⟩
 more:=by
  rintro w Z Z' cs a ⟨c0,c1,c2,c3,c4,hc,h0,h1,h2,h3,h4⟩ k
  exact ⟨c0,c1,c2,c3,c4,hc,Rep.more h0 k,Rep.more h1 k,Rep.more h2 k,Rep.more h3 k,Rep.more h4 k⟩
theorem open_TensorD {w:World} {Z:Zone} {cs:List Value} {a:TensorD} (h:rep w Z cs a):∃ A1 k1 A2 k2 A3 k3 A4 k4,cs = [.int .i64 a.type,.slice A1 a.dims.length k1,.slice A2 a.f.length k2,.slice A3 a.i.length k3,.slice A4 a.b.length k4]∧I64 a.type∧rep w Z [.slice A1 a.dims.length k1] a.dims∧rep w Z [.slice A2 a.f.length k2] a.f∧rep w Z [.slice A3 a.i.length k3] a.i∧rep w Z [.slice A4 a.b.length k4] a.b:=by
 obtain ⟨_,_,_,_,_,rfl,⟨rfl,h0⟩,h1,h2,h3,h4⟩:=h
 obtain ⟨A1,k1,rfl⟩:=slice_form h1
 obtain ⟨A2,k2,rfl⟩:=slice_form h2
 obtain ⟨A3,k3,rfl⟩:=slice_form h3
 obtain ⟨A4,k4,rfl⟩:=slice_form h4
 exact ⟨A1,k1,A2,k2,A3,k3,A4,k4,rfl,h0,h1,h2,h3,h4⟩
theorem shut_TensorD {w:World} {Z:Zone} {a:TensorD} (h0:I64 a.type) {c1:List Value} (h1:rep w Z c1 a.dims) {c2:List Value} (h2:rep w Z c2 a.f) {c3:List Value} (h3:rep w Z c3 a.i) {c4:List Value} (h4:rep w Z c4 a.b):rep w Z ([.int .i64 a.type]++(c1++(c2++(c3++c4)))) a :=
 ⟨_,_,_,_,_,rfl,⟨rfl,h0⟩,h1,h2,h3,h4⟩
structure AttrD where
 name:ByteArray
 kind:Int
 f:Nat
 i:Int
 s:ByteArray
 t:TensorD
 floats:List Nat
 ints:List Int
instance:Rep AttrD where
 size:=12
 bytes:=208
 rep w Z cs a:=∃ c0 c1 c2 c3 c4 c5 c6 c7,cs = c0++(c1++(c2++(c3++(c4++(c5++(c6++c7))))))∧rep w Z c0 a.name∧rep w Z c1 a.kind∧rep w Z c2 a.f∧rep w Z c3 a.i∧rep w Z c4 a.s∧rep w Z c5 a.t∧rep w Z c6 a.floats∧rep w Z c7 a.ints
 len:=by
  rintro w Z cs a ⟨c0,c1,c2,c3,c4,c5,c6,c7,rfl,h0,h1,h2,h3,h4,h5,h6,h7⟩
  simp only [List.length_append,Rep.len h0,Rep.len h1,Rep.len h2,Rep.len h3,Rep.len h4,Rep.len h5,Rep.len h6,Rep.len h7];rfl
 one:=by
  rintro w Z cs a ⟨c0,c1,c2,c3,c4,c5,c6,c7,rfl,h0,h1,h2,h3,h4,h5,h6,h7⟩
  exact app_one (Rep.one h0) (app_one (Rep.one h1) (app_one (Rep.one h2) (app_one (Rep.one h3) (app_one (Rep.one h4) (app_one (Rep.one h5) (app_one (Rep.one h6) (Rep.one h7)))))))
 keep:=by
  rintro w w' Z cs a ⟨c0,c1,c2,c3,c4,c5,c6,c7,hc,h0,h1,h2,h3,h4,h5,h6,h7⟩ k
  exact ⟨c0,c1,c2,c3,c4,c5,c6,c7,hc,Rep.keep h0 k,Rep.keep h1 k,Rep.keep h2 k,Rep.keep h3 k,Rep.keep h4 k,Rep.keep h5 k,Rep.keep h6 k,Rep.keep h7 k⟩
 more:=by
  rintro w Z Z' cs a ⟨c0,c1,c2,c3,c4,c5,c6,c7,hc,h0,h1,h2,h3,h4,h5,h6,h7⟩ k
  exact ⟨c0,c1,c2,c3,c4,c5,c6,c7,hc,Rep.more h0 k,Rep.more h1 k,Rep.more h2 k,Rep.more h3 k,Rep.more h4 k,Rep.more h5 k,Rep.more h6 k,Rep.more h7 k⟩
theorem open_AttrD {w:World} {Z:Zone} {cs:List Value} {a:AttrD} (h:rep w Z cs a):∃ A1 k1 A2 k2 A3 k3 A4 k4 A5 k5 A6 k6,cs = [.string a.name,.int .i64 a.kind,.int .u32 (a.f:Int),.int .i64 a.i,.string a.s,.int .i64 a.t.type,.slice A1 a.t.dims.length k1,.slice A2 a.t.f.length k2,.slice A3 a.t.i.length k3,.slice A4 a.t.b.length k4,.slice A5 a.floats.length k5,.slice A6 a.ints.length k6]∧a.name.size ≤ reach∧I64 a.kind∧a.f < 4294967296∧I64 a.i∧a.s.size ≤ reach∧rep w Z [.int .i64 a.t.type,.slice A1 a.t.dims.length k1,.slice A2 a.t.f.length k2,.slice A3 a.t.i.length k3,.slice A4 a.t.b.length k4] a.t∧rep w Z [.slice A5 a.floats.length k5] a.floats∧rep w Z [.slice A6 a.ints.length k6] a.ints:=by
 obtain ⟨_,_,_,_,_,_,_,_,rfl,⟨rfl,h0⟩,⟨rfl,h1⟩,⟨rfl,h2⟩,⟨rfl,h3⟩,⟨rfl,h4⟩,h5,h6,h7⟩:=h
 obtain ⟨A1,k1,A2,k2,A3,k3,A4,k4,rfl,_⟩:=open_TensorD h5
 obtain ⟨A5,k5,rfl⟩:=slice_form h6
 obtain ⟨A6,k6,rfl⟩:=slice_form h7
 exact ⟨A1,k1,A2,k2,A3,k3,A4,k4,A5,k5,A6,k6,rfl,h0,h1,h2,h3,h4,h5,h6,h7⟩
structure NodeD where
 op:ByteArray
 name:ByteArray
 ins:List ByteArray
 outs:List ByteArray
 attrs:List AttrD
instance:Rep NodeD where
 size:=5
 bytes:=104
 rep w Z cs a:=∃ c0 c1 c2 c3 c4,cs = c0++(c1++(c2++(c3++c4)))∧rep w Z c0 a.op∧rep w Z c1 a.name∧rep w Z c2 a.ins∧rep w Z c3 a.outs∧rep w Z c4 a.attrs
 len:=by
  rintro w Z cs a ⟨c0,c1,c2,c3,c4,rfl,h0,h1,h2,h3,h4⟩
  simp only [List.length_append,Rep.len h0,Rep.len h1,Rep.len h2,Rep.len h3,Rep.len h4];rfl
 one:=by
  rintro w Z cs a ⟨c0,c1,c2,c3,c4,rfl,h0,h1,h2,h3,h4⟩
  exact app_one (Rep.one h0) (app_one (Rep.one h1) (app_one (Rep.one h2) (app_one (Rep.one h3) (Rep.one h4))))
 keep:=by
  rintro w w' Z cs a ⟨c0,c1,c2,c3,c4,hc,h0,h1,h2,h3,h4⟩ k
  exact ⟨c0,c1,c2,c3,c4,hc,Rep.keep h0 k,Rep.keep h1 k,Rep.keep h2 k,Rep.keep h3 k,Rep.keep h4 k⟩
 more:=by
  rintro w Z Z' cs a ⟨c0,c1,c2,c3,c4,hc,h0,h1,h2,h3,h4⟩ k
  exact ⟨c0,c1,c2,c3,c4,hc,Rep.more h0 k,Rep.more h1 k,Rep.more h2 k,Rep.more h3 k,Rep.more h4 k⟩
theorem open_NodeD {w:World} {Z:Zone} {cs:List Value} {a:NodeD} (h:rep w Z cs a):∃ A1 k1 A2 k2 A3 k3,cs = [.string a.op,.string a.name,.slice A1 a.ins.length k1,.slice A2 a.outs.length k2,.slice A3 a.attrs.length k3]∧a.op.size ≤ reach∧a.name.size ≤ reach∧rep w Z [.slice A1 a.ins.length k1] a.ins∧rep w Z [.slice A2 a.outs.length k2] a.outs∧rep w Z [.slice A3 a.attrs.length k3] a.attrs:=by
 obtain ⟨_,_,_,_,_,rfl,⟨rfl,h0⟩,⟨rfl,h1⟩,h2,h3,h4⟩:=h
 obtain ⟨A1,k1,rfl⟩:=slice_form h2
 obtain ⟨A2,k2,rfl⟩:=slice_form h3
 obtain ⟨A3,k3,rfl⟩:=slice_form h4
 exact ⟨A1,k1,A2,k2,A3,k3,rfl,h0,h1,h2,h3,h4⟩
theorem shut_NodeD {w:World} {Z:Zone} {a:NodeD} (h0:a.op.size ≤ reach) (h1:a.name.size ≤ reach) {c2:List Value} (h2:rep w Z c2 a.ins) {c3:List Value} (h3:rep w Z c3 a.outs) {c4:List Value} (h4:rep w Z c4 a.attrs):rep w Z ([.string a.op]++([.string a.name]++(c2++(c3++c4)))) a :=
 ⟨_,_,_,_,_,rfl,⟨rfl,h0⟩,⟨rfl,h1⟩,h2,h3,h4⟩
structure SettingD where
 axis:Int
 axes:List Int
 hasAxes:Bool
 keeps:Bool
 noop:Bool
 last:Bool
 zero:Bool
 perm:List Int
 hasPerm:Bool
 alpha:Nat
 beta:Nat
 epsilon:Nat
 low:Bool
 high:Bool
 fmod:Bool
 dest:Int
 mode:Int
 transA:Bool
 transB:Bool
 group:Int
 kernel:List Int
 strides:List Int
 pads:List Int
 dilations:List Int
 auto:Int
 ceil:Bool
 count:Bool
 block:Int
 start:Int
 stop:Int
 hasEnd:Bool
 value:TensorD
 deriving DecidableEq
structure SettingDAt (w:World) (Z:Zone) (cs:List Value) (a:SettingD):Prop where
 len:cs.length = 36
 f0:Fld w Z cs 0 a.axis
 f1:Fld w Z cs 1 a.axes
 f2:Fld w Z cs 2 a.hasAxes
 f3:Fld w Z cs 3 a.keeps
 f4:Fld w Z cs 4 a.noop
 f5:Fld w Z cs 5 a.last
 f6:Fld w Z cs 6 a.zero
 f7:Fld w Z cs 7 a.perm
 f8:Fld w Z cs 8 a.hasPerm
 f9:Fld w Z cs 9 a.alpha
 f10:Fld w Z cs 10 a.beta
 f11:Fld w Z cs 11 a.epsilon
 f12:Fld w Z cs 12 a.low
 f13:Fld w Z cs 13 a.high
 f14:Fld w Z cs 14 a.fmod
 f15:Fld w Z cs 15 a.dest
 f16:Fld w Z cs 16 a.mode
 f17:Fld w Z cs 17 a.transA
 f18:Fld w Z cs 18 a.transB
 f19:Fld w Z cs 19 a.group
 f20:Fld w Z cs 20 a.kernel
 f21:Fld w Z cs 21 a.strides
 f22:Fld w Z cs 22 a.pads
 f23:Fld w Z cs 23 a.dilations
 f24:Fld w Z cs 24 a.auto
 f25:Fld w Z cs 25 a.ceil
 f26:Fld w Z cs 26 a.count
 f27:Fld w Z cs 27 a.block
 f28:Fld w Z cs 28 a.start
 f29:Fld w Z cs 29 a.stop
 f30:Fld w Z cs 30 a.hasEnd
 f31:rep w Z (cs.drop 31) a.value
instance:Rep SettingD where
 size:=36
 bytes:=400
 rep:=SettingDAt
 len:=fun h=>h.len
 one:=by
  intro w Z cs a h u hu
  obtain ⟨j,hj,rfl⟩:=List.mem_iff_getElem.1 hu
  have key:∀ j,j < 31→∃ v,cs[j]? = some v∧v.oneCell' = true:=fun j hj=>match j,hj with
   | 0,_=>h.f0.one
   | 1,_=>h.f1.one
   | 2,_=>h.f2.one
   | 3,_=>h.f3.one
   | 4,_=>h.f4.one
   | 5,_=>h.f5.one
   | 6,_=>h.f6.one
   | 7,_=>h.f7.one
   | 8,_=>h.f8.one
   | 9,_=>h.f9.one
   | 10,_=>h.f10.one
   | 11,_=>h.f11.one
   | 12,_=>h.f12.one
   | 13,_=>h.f13.one
   | 14,_=>h.f14.one
   | 15,_=>h.f15.one
   | 16,_=>h.f16.one
   | 17,_=>h.f17.one
   | 18,_=>h.f18.one
   | 19,_=>h.f19.one
   | 20,_=>h.f20.one
   | 21,_=>h.f21.one
   | 22,_=>h.f22.one
   | 23,_=>h.f23.one
   | 24,_=>h.f24.one
   | 25,_=>h.f25.one
   | 26,_=>h.f26.one
   | 27,_=>h.f27.one
   | 28,_=>h.f28.one
   | 29,_=>h.f29.one
   | 30,_=>h.f30.one
   | j + 31,hj=>absurd hj (by omega)
  by_cases hlt:j < 31
  ·obtain ⟨v,hv,h1⟩:=key j hlt
   rw [List.getElem?_eq_getElem hj] at hv
   injection hv with hv
   rw [hv];exact h1
  ·have h1:=Rep.one h.f31 (cs[j]) (by rw [List.mem_drop_iff_getElem];exact ⟨j - 31,by omega,by congr 1;omega⟩)
   exact h1
 keep:=fun h k=>⟨h.len,h.f0.keep k,h.f1.keep k,h.f2.keep k,h.f3.keep k,h.f4.keep k,h.f5.keep k,h.f6.keep k,h.f7.keep k,h.f8.keep k,h.f9.keep k,h.f10.keep k,h.f11.keep k,h.f12.keep k,h.f13.keep k,h.f14.keep k,h.f15.keep k,h.f16.keep k,h.f17.keep k,h.f18.keep k,h.f19.keep k,h.f20.keep k,h.f21.keep k,h.f22.keep k,h.f23.keep k,h.f24.keep k,h.f25.keep k,h.f26.keep k,h.f27.keep k,h.f28.keep k,h.f29.keep k,h.f30.keep k,Rep.keep h.f31 k⟩
 more:=fun h k=>⟨h.len,h.f0.more k,h.f1.more k,h.f2.more k,h.f3.more k,h.f4.more k,h.f5.more k,h.f6.more k,h.f7.more k,h.f8.more k,h.f9.more k,h.f10.more k,h.f11.more k,h.f12.more k,h.f13.more k,h.f14.more k,h.f15.more k,h.f16.more k,h.f17.more k,h.f18.more k,h.f19.more k,h.f20.more k,h.f21.more k,h.f22.more k,h.f23.more k,h.f24.more k,h.f25.more k,h.f26.more k,h.f27.more k,h.f28.more k,h.f29.more k,h.f30.more k,Rep.more h.f31 k⟩
structure SortD where
 name:ByteArray
 letter:UInt8
 must:Bool
 deriving DecidableEq
instance:Rep SortD where
 size:=3
 bytes:=24
 rep w Z cs a:=∃ c0 c1 c2,cs = c0++(c1++c2)∧rep w Z c0 a.name∧rep w Z c1 a.letter∧rep w Z c2 a.must
 len:=by
  rintro w Z cs a ⟨c0,c1,c2,rfl,h0,h1,h2⟩
  simp only [List.length_append,Rep.len h0,Rep.len h1,Rep.len h2];rfl
 one:=by
  rintro w Z cs a ⟨c0,c1,c2,rfl,h0,h1,h2⟩
  exact app_one (Rep.one h0) (app_one (Rep.one h1) (Rep.one h2))
 keep:=by
  rintro w w' Z cs a ⟨c0,c1,c2,hc,h0,h1,h2⟩ k
  exact ⟨c0,c1,c2,hc,Rep.keep h0 k,Rep.keep h1 k,Rep.keep h2 k⟩
 more:=by
  rintro w Z Z' cs a ⟨c0,c1,c2,hc,h0,h1,h2⟩ k
  exact ⟨c0,c1,c2,hc,Rep.more h0 k,Rep.more h1 k,Rep.more h2 k⟩
theorem open_SortD {w:World} {Z:Zone} {cs:List Value} {a:SortD} (h:rep w Z cs a):cs = [.string a.name,.int .u8 (a.letter.toNat:Int),.bool a.must]∧a.name.size ≤ reach:=by
 obtain ⟨_,_,_,rfl,⟨rfl,h0⟩,rfl,rfl⟩:=h
 exact ⟨rfl,h0⟩
theorem shut_SortD {w:World} {Z:Zone} {a:SortD} (h0:a.name.size ≤ reach):rep w Z ([.string a.name]++([.int .u8 (a.letter.toNat:Int)]++[.bool a.must])) a :=
 ⟨_,_,_,rfl,⟨rfl,h0⟩,rfl,rfl⟩
structure AttrRowD where
 name:ByteArray
 kind:ByteArray
 must:Bool
 deriving DecidableEq
instance:Rep AttrRowD where
 size:=3
 bytes:=40
 rep w Z cs a:=∃ c0 c1 c2,cs = c0++(c1++c2)∧rep w Z c0 a.name∧rep w Z c1 a.kind∧rep w Z c2 a.must
 len:=by
  rintro w Z cs a ⟨c0,c1,c2,rfl,h0,h1,h2⟩
  simp only [List.length_append,Rep.len h0,Rep.len h1,Rep.len h2];rfl
 one:=by
  rintro w Z cs a ⟨c0,c1,c2,rfl,h0,h1,h2⟩
  exact app_one (Rep.one h0) (app_one (Rep.one h1) (Rep.one h2))
 keep:=by
  rintro w w' Z cs a ⟨c0,c1,c2,hc,h0,h1,h2⟩ k
  exact ⟨c0,c1,c2,hc,Rep.keep h0 k,Rep.keep h1 k,Rep.keep h2 k⟩
 more:=by
  rintro w Z Z' cs a ⟨c0,c1,c2,hc,h0,h1,h2⟩ k
  exact ⟨c0,c1,c2,hc,Rep.more h0 k,Rep.more h1 k,Rep.more h2 k⟩
end Go.Proofs.YtgbkhcmbmffljaaDoor
namespace Go.Proofs.YtgbkhcmbmffljaaDoor
open Go.RowKit
open Rep (rep)
class Flat (α:Type) extends Rep α where
 any:∀ {w w':World} {Z Z':Zone} {cs:List Value} {a:α},Rep.rep w Z cs a→Rep.rep w' Z' cs a
instance:Flat Int:={ any:=fun h=>h }
instance:Flat Nat:={ any:=fun h=>h }
instance:Flat Bool:={ any:=fun h=>h }
instance:Flat ByteArray:={ any:=fun h=>h }
theorem Chunks.any {α:Type} [Flat α] {w w':World} {Z Z':Zone}:∀ {l:List α} {xs:List Value},Chunks w Z xs l→Chunks w' Z' xs l
 | [],_,h=>h
 | _ :: _,_,⟨c,r,hx,hc,hr⟩=>⟨c,r,hx,Flat.any hc,Chunks.any hr⟩
theorem rep_nil {α:Type} [Rep α] (w:World) (Z:Zone):rep w Z [.slice none 0 0] ([]:List α):=⟨none,0,0,[],rfl,rfl,Nat.le_refl _,Nat.zero_le _,by simp [reach],Lies.nil _ _ _,rfl⟩
section
variable {P:Program}
theorem wpList_store_field {ops:Array Oper} {rest:List Oper} {o:Oper} {a:Act} {w:World} {Q:Exit→Act→World→Prop} (hgd:o.guard = none) (ty:TypeId) (x y:Operand) (ho:o.op = .store ty x y)
  (g f:Nat) (v:Value) (hx:a.eval x = .pointer (some ⟨g,f,none⟩)) (hy:a.eval y = v) (h1:v.oneCell' = true) (hi:(P.info? ty).map (·.size) = some 1)
  (t:TypeId) (cs:List Value) (hg:w.heap[g]? = some (.cells cs.toArray t (0,0))) (hf:f < cs.length)
  (h:wpList P ops Q rest (a.put o.dst undef) (w.setRow g (cs.set f v).toArray)):wpList P ops Q (o :: rest) a w :=
 wpList_plain hgd fun _ hK=>by
  have hst:=run_storeCells_at P g f t [v] 0 cs.toArray w hg (by simp;omega) (by intro u hu;simp at hu;subst hu;exact h1)
  simp only [Nat.add_zero,List.length_cons,List.length_nil,Nat.zero_add] at hst
  have hset:cs.take f++[v]++cs.drop (f + 1) = cs.set f v:=by
   rw [List.set_eq_take_append_cons_drop,if_pos hf,List.append_assoc];rfl
  rw [hset] at hst
  unfold Oper.wp execOp
  cases hq:P.info? ty with
  | none=>simp [hq] at hi
  | some i =>
   have hs:i.size = 1:=by simpa [hq] using hi
   have hc:v.cells = #[v]:=by cases v <;> first | rfl | cases h1
   have hv:(storeVar ty ⟨g,f,none⟩ v).run P w = .ok () (w.setRow g (cs.set f v).toArray):=by
    simp only [storeVar,sizeOf,typeInfo,Sem.run_bind,hc]
    simp [hq,hs,hst]
   simp only [ho,hx,hy,Instr.storeAt,Instr.sureAddr,Sem.run_bind,Sem.run_pure,Result.andThen_ok,hv]
   exact hK _ _ h
theorem wpList_alloc_row {ops:Array Oper} {rest:List Oper} {o:Oper} {a:Act} {w:World} {Q:Exit→Act→World→Prop} (hgd:o.guard = none) (ty:TypeId) (ho:o.op = .alloc ty)
  (cs:List Value) (hz:(P.info? ty).bind (·.zero) = some (.agg cs.toArray))
  (h:wpList P ops Q rest (a.put o.dst (.pointer (some ⟨w.heap.size,0,none⟩))) (w.alloc (.cells cs.toArray ty))):wpList P ops Q (o :: rest) a w :=
 wpList_plain hgd fun _ hK=>by
  unfold Oper.wp execOp
  cases hq:P.info? ty with
  | none=>simp [hq] at hz
  | some i =>
   have hs:i.zero = some (.agg cs.toArray):=by simpa [hq] using hz
   have hrun:(Instr.alloc ty true (.tuple #[])).run P w = .ok (.pointer (some ⟨w.heap.size,0,none⟩)) (w.alloc (.cells cs.toArray ty)):=by
    simp [Instr.alloc,zeroValue,typeInfo,hq,hs,newVar,newRow,Value.cells]
   simp only [ho,Sem.run_bind,Sem.run_pure,Result.andThen_ok,hrun]
   exact hK _ _ h
theorem wpList_box_row {ops:Array Oper} {rest:List Oper} {o:Oper} {a:Act} {w:World} {Q:Exit→Act→World→Prop} (hgd:o.guard = none) (ty:TypeId) (x:Operand) (ho:o.op = .box ty x)
  (cs:List Value) (hx:a.eval x = .agg cs.toArray)
  (h:wpList P ops Q rest (a.put o.dst (.pointer (some ⟨w.heap.size,0,none⟩))) (w.alloc (.cells cs.toArray ty))):wpList P ops Q (o :: rest) a w :=
 wpList_plain hgd fun _ hK=>by
  unfold Oper.wp execOp
  have hrun:(Instr.box ty (.agg cs.toArray)).run P w = .ok (.pointer (some ⟨w.heap.size,0,none⟩)) (w.alloc (.cells cs.toArray ty)):=by
   simp [Instr.box,newVar,newRow,Value.cells]
  simp only [ho,hx,Sem.run_bind,Sem.run_pure,Result.andThen_ok,hrun]
  exact hK _ _ h
end
end Go.Proofs.YtgbkhcmbmffljaaDoor
