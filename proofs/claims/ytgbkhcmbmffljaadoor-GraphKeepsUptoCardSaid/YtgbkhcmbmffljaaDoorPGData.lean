/-
  The types of chapter 09 as Lean data, and what their cells hold.
-/
import Derived.Test.YtgbkhcmbmffljaaDoorPAid
import Derived.Test.YtgbkhcmbmffljaaDoorProg
set_option linter.unusedVariables false
namespace Go.Proofs.YtgbkhcmbmffljaaDoor
open Go.RowKit
open Rep (rep)
structure ValD where
 type:Int
 dims:List Int
 const:Bool
 t:TensorD
 deriving DecidableEq
instance:Rep ValD where
 size:=8
 bytes:=144
 rep w Z cs a:=∃ c0 c1 c2 c3,cs = c0++(c1++(c2++c3))∧rep w Z c0 a.type∧rep w Z c1 a.dims∧rep w Z c2 a.const∧rep w Z c3 a.t
 len:=by
  rintro w Z cs a ⟨c0,c1,c2,c3,rfl,h0,h1,h2,h3⟩
  simp only [List.length_append,Rep.len h0,Rep.len h1,Rep.len h2,Rep.len h3];rfl
 one:=by
  rintro w Z cs a ⟨c0,c1,c2,c3,rfl,h0,h1,h2,h3⟩
  exact app_one (Rep.one h0) (app_one (Rep.one h1) (app_one (Rep.one h2) (Rep.one h3)))
 keep:=by
  rintro w w' Z cs a ⟨c0,c1,c2,c3,hc,h0,h1,h2,h3⟩ k
  exact ⟨c0,c1,c2,c3,hc,Rep.keep h0 k,Rep.keep h1 k,Rep.keep h2 k,Rep.keep h3 k⟩
 more:=by
  rintro w Z Z' cs a ⟨c0,c1,c2,c3,hc,h0,h1,h2,h3⟩ k
  exact ⟨c0,c1,c2,c3,hc,Rep.more h0 k,Rep.more h1 k,Rep.more h2 k,Rep.more h3 k⟩
theorem open_ValD {w:World} {Z:Zone} {cs:List Value} {a:ValD} (h:rep w Z cs a):∃ A1 k1 A2 k2 A3 k3 A4 k4 A5 k5,cs = [.int .i64 a.type,.slice A1 a.dims.length k1,.bool a.const,.int .i64 a.t.type,.slice A2 a.t.dims.length k2,.slice A3 a.t.f.length k3,.slice A4 a.t.i.length k4,.slice A5 a.t.b.length k5]∧I64 a.type∧rep w Z [.slice A1 a.dims.length k1] a.dims∧rep w Z [.int .i64 a.t.type,.slice A2 a.t.dims.length k2,.slice A3 a.t.f.length k3,.slice A4 a.t.i.length k4,.slice A5 a.t.b.length k5] a.t:=by
 obtain ⟨_,_,_,_,rfl,⟨rfl,h0⟩,h1,rfl,h3⟩:=h
 obtain ⟨A1,k1,rfl⟩:=slice_form h1
 obtain ⟨A2,k2,A3,k3,A4,k4,A5,k5,rfl,_⟩:=open_TensorD h3
 exact ⟨A1,k1,A2,k2,A3,k3,A4,k4,A5,k5,rfl,h0,h1,h3⟩
theorem shut_ValD {w:World} {Z:Zone} {a:ValD} (h0:I64 a.type) {c1:List Value} (h1:rep w Z c1 a.dims) {c3:List Value} (h3:rep w Z c3 a.t):rep w Z ([.int .i64 a.type]++(c1++([.bool a.const]++c3))) a :=
 ⟨_,_,_,_,rfl,⟨rfl,h0⟩,h1,rfl,h3⟩
structure InitD where
 name:ByteArray
 t:TensorD
instance:Rep InitD where
 size:=6
 bytes:=120
 rep w Z cs a:=∃ c0 c1,cs = c0++c1∧rep w Z c0 a.name∧rep w Z c1 a.t
 len:=by
  rintro w Z cs a ⟨c0,c1,rfl,h0,h1⟩
  simp only [List.length_append,Rep.len h0,Rep.len h1];rfl
 one:=by
  rintro w Z cs a ⟨c0,c1,rfl,h0,h1⟩
  exact app_one (Rep.one h0) (Rep.one h1)
 keep:=by
  rintro w w' Z cs a ⟨c0,c1,hc,h0,h1⟩ k
  exact ⟨c0,c1,hc,Rep.keep h0 k,Rep.keep h1 k⟩
 more:=by
  rintro w Z Z' cs a ⟨c0,c1,hc,h0,h1⟩ k
  exact ⟨c0,c1,hc,Rep.more h0 k,Rep.more h1 k⟩
theorem open_InitD {w:World} {Z:Zone} {cs:List Value} {a:InitD} (h:rep w Z cs a):∃ A1 k1 A2 k2 A3 k3 A4 k4,cs = [.string a.name,.int .i64 a.t.type,.slice A1 a.t.dims.length k1,.slice A2 a.t.f.length k2,.slice A3 a.t.i.length k3,.slice A4 a.t.b.length k4]∧a.name.size ≤ reach∧rep w Z [.int .i64 a.t.type,.slice A1 a.t.dims.length k1,.slice A2 a.t.f.length k2,.slice A3 a.t.i.length k3,.slice A4 a.t.b.length k4] a.t:=by
 obtain ⟨_,_,rfl,⟨rfl,h0⟩,h1⟩:=h
 obtain ⟨A1,k1,A2,k2,A3,k3,A4,k4,rfl,_⟩:=open_TensorD h1
 exact ⟨A1,k1,A2,k2,A3,k3,A4,k4,rfl,h0,h1⟩
theorem shut_InitD {w:World} {Z:Zone} {a:InitD} (h0:a.name.size ≤ reach) {c1:List Value} (h1:rep w Z c1 a.t):rep w Z ([.string a.name]++c1) a :=
 ⟨_,_,rfl,⟨rfl,h0⟩,h1⟩
structure ValueD where
 name:ByteArray
 type:Int
 dims:List Int
instance:Rep ValueD where
 size:=3
 bytes:=48
 rep w Z cs a:=∃ c0 c1 c2,cs = c0++(c1++c2)∧rep w Z c0 a.name∧rep w Z c1 a.type∧rep w Z c2 a.dims
 len:=by
  rintro w Z cs a ⟨c0,c1,c2,rfl,h0,h1,h2⟩
  simp only [List.length_append,Rep.len h0,Rep.len h1,Rep.len h2];rfl
 one:=by
  rintro w Z cs a ⟨c0,c1,c2,rfl,h0,h1,h2⟩
  exact app_one (Rep.one h0) (app_one (Rep.one h1) (Rep.one h2))
 keep:=by
  rintro w w' Z cs a ⟨c0,c1,c2,hc,h0,h1,h2⟩ k
  exact ⟨c0,c1,c2,hc,Rep.keep h0 k,Rep.keep h1 k,Rep.keep h2 k⟩
 more:=by
  rintro w Z Z' cs a ⟨c0,c1,c2,hc,h0,h1,h2⟩ k
  exact ⟨c0,c1,c2,hc,Rep.more h0 k,Rep.more h1 k,Rep.more h2 k⟩
theorem open_ValueD {w:World} {Z:Zone} {cs:List Value} {a:ValueD} (h:rep w Z cs a):∃ A1 k1,cs = [.string a.name,.int .i64 a.type,.slice A1 a.dims.length k1]∧a.name.size ≤ reach∧I64 a.type∧rep w Z [.slice A1 a.dims.length k1] a.dims:=by
 obtain ⟨_,_,_,rfl,⟨rfl,h0⟩,⟨rfl,h1⟩,h2⟩:=h
 obtain ⟨A1,k1,rfl⟩:=slice_form h2
 exact ⟨A1,k1,rfl,h0,h1,h2⟩
theorem shut_ValueD {w:World} {Z:Zone} {a:ValueD} (h0:a.name.size ≤ reach) (h1:I64 a.type) {c2:List Value} (h2:rep w Z c2 a.dims):rep w Z ([.string a.name]++([.int .i64 a.type]++c2)) a :=
 ⟨_,_,_,rfl,⟨rfl,h0⟩,⟨rfl,h1⟩,h2⟩
structure GNodeD where
 op:Int
 s:SettingD
 ins:List Int
 outs:List Int
 source:Int
 deriving DecidableEq
instance:Rep GNodeD where
 size:=40
 bytes:=432
 rep w Z cs a:=∃ c0 c1 c2 c3 c4,cs = c0++(c1++(c2++(c3++c4)))∧rep w Z c0 a.op∧rep w Z c1 a.s∧rep w Z c2 a.ins∧rep w Z c3 a.outs∧rep w Z c4 a.source
 len:=by
  rintro w Z cs a ⟨c0,c1,c2,c3,c4,rfl,h0,h1,h2,h3,h4⟩
  simp only [List.length_append,Rep.len h0,Rep.len h1,Rep.len h2,Rep.len h3,Rep.len h4];rfl
 one:=by
  rintro w Z cs a ⟨c0,c1,c2,c3,c4,rfl,h0,h1,h2,h3,h4⟩
  exact app_one (Rep.one h0) (app_one (Rep.one h1) (app_one (Rep.one h2) (app_one (Rep.one h3) (Rep.one h4))))
 keep:=by
  rintro w w' Z cs a ⟨c0,c1,c2,c3,c4,hc,h0,h1,h2,h3,h4⟩ k
  exact ⟨c0,c1,c2,c3,c4,hc,Rep.keep h0 k,Rep.keep h1 k,Rep.keep h2 k,Rep.keep h3 k,Rep.keep h4 k⟩
 more:=by
  rintro w Z Z' cs a ⟨c0,c1,c2,c3,c4,hc,h0,h1,h2,h3,h4⟩ k
  exact ⟨c0,c1,c2,c3,c4,hc,Rep.more h0 k,Rep.more h1 k,Rep.more h2 k,Rep.more h3 k,Rep.more h4 k⟩
theorem open_GNodeD {w:World} {Z:Zone} {cs:List Value} {a:GNodeD} (h:rep w Z cs a):∃ (ss:List Value) (A1:Option Addr) (k1:Nat) (A2:Option Addr) (k2:Nat),cs = [.int .i64 a.op]++(ss++([.slice A1 a.ins.length k1]++([.slice A2 a.outs.length k2]++[.int .i64 a.source])))∧I64 a.op∧SettingDAt w Z ss a.s∧rep w Z [.slice A1 a.ins.length k1] a.ins∧rep w Z [.slice A2 a.outs.length k2] a.outs∧I64 a.source:=by
 obtain ⟨_,ss,_,_,_,rfl,⟨rfl,h0⟩,h1,h2,h3,⟨rfl,h4⟩⟩:=h
 obtain ⟨A1,k1,rfl⟩:=slice_form h2
 obtain ⟨A2,k2,rfl⟩:=slice_form h3
 exact ⟨ss,A1,k1,A2,k2,rfl,h0,h1,h2,h3,h4⟩
theorem shut_GNodeD {w:World} {Z:Zone} {a:GNodeD} (h0:I64 a.op) {c1:List Value} (h1:rep w Z c1 a.s) {c2:List Value} (h2:rep w Z c2 a.ins) {c3:List Value} (h3:rep w Z c3 a.outs) (h4:I64 a.source):rep w Z ([.int .i64 a.op]++(c1++(c2++(c3++[.int .i64 a.source])))) a :=
 ⟨_,_,_,_,_,rfl,⟨rfl,h0⟩,h1,h2,h3,⟨rfl,h4⟩⟩
structure GraphD where
 vals:List ValD
 nodes:List GNodeD
 inputs:List Int
 outputs:List Int
instance:Rep GraphD where
 size:=4
 bytes:=96
 rep w Z cs a:=∃ c0 c1 c2 c3,cs = c0++(c1++(c2++c3))∧rep w Z c0 a.vals∧rep w Z c1 a.nodes∧rep w Z c2 a.inputs∧rep w Z c3 a.outputs
 len:=by
  rintro w Z cs a ⟨c0,c1,c2,c3,rfl,h0,h1,h2,h3⟩
  simp only [List.length_append,Rep.len h0,Rep.len h1,Rep.len h2,Rep.len h3];rfl
 one:=by
  rintro w Z cs a ⟨c0,c1,c2,c3,rfl,h0,h1,h2,h3⟩
  exact app_one (Rep.one h0) (app_one (Rep.one h1) (app_one (Rep.one h2) (Rep.one h3)))
 keep:=by
  rintro w w' Z cs a ⟨c0,c1,c2,c3,hc,h0,h1,h2,h3⟩ k
  exact ⟨c0,c1,c2,c3,hc,Rep.keep h0 k,Rep.keep h1 k,Rep.keep h2 k,Rep.keep h3 k⟩
 more:=by
  rintro w Z Z' cs a ⟨c0,c1,c2,c3,hc,h0,h1,h2,h3⟩ k
  exact ⟨c0,c1,c2,c3,hc,Rep.more h0 k,Rep.more h1 k,Rep.more h2 k,Rep.more h3 k⟩
theorem open_GraphD {w:World} {Z:Zone} {cs:List Value} {a:GraphD} (h:rep w Z cs a):∃ A1 k1 A2 k2 A3 k3 A4 k4,cs = [.slice A1 a.vals.length k1,.slice A2 a.nodes.length k2,.slice A3 a.inputs.length k3,.slice A4 a.outputs.length k4]∧rep w Z [.slice A1 a.vals.length k1] a.vals∧rep w Z [.slice A2 a.nodes.length k2] a.nodes∧rep w Z [.slice A3 a.inputs.length k3] a.inputs∧rep w Z [.slice A4 a.outputs.length k4] a.outputs:=by
 obtain ⟨_,_,_,_,rfl,h0,h1,h2,h3⟩:=h
 obtain ⟨A1,k1,rfl⟩:=slice_form h0
 obtain ⟨A2,k2,rfl⟩:=slice_form h1
 obtain ⟨A3,k3,rfl⟩:=slice_form h2
 obtain ⟨A4,k4,rfl⟩:=slice_form h3
 exact ⟨A1,k1,A2,k2,A3,k3,A4,k4,rfl,h0,h1,h2,h3⟩
theorem shut_GraphD {w:World} {Z:Zone} {a:GraphD} {c0:List Value} (h0:rep w Z c0 a.vals) {c1:List Value} (h1:rep w Z c1 a.nodes) {c2:List Value} (h2:rep w Z c2 a.inputs) {c3:List Value} (h3:rep w Z c3 a.outputs):rep w Z (c0++(c1++(c2++c3))) a :=
 ⟨_,_,_,_,rfl,h0,h1,h2,h3⟩
structure ModelD where
 opset:Int
 name:ByteArray
 nodes:List NodeD
 inits:List InitD
 inputs:List ValueD
 outputs:List ValueD
instance:Rep ModelD where
 size:=6
 bytes:=128
 rep w Z cs a:=∃ c0 c1 c2 c3 c4 c5,cs = c0++(c1++(c2++(c3++(c4++c5))))∧rep w Z c0 a.opset∧rep w Z c1 a.name∧rep w Z c2 a.nodes∧rep w Z c3 a.inits∧rep w Z c4 a.inputs∧rep w Z c5 a.outputs
 len:=by
  rintro w Z cs a ⟨c0,c1,c2,c3,c4,c5,rfl,h0,h1,h2,h3,h4,h5⟩
  simp only [List.length_append,Rep.len h0,Rep.len h1,Rep.len h2,Rep.len h3,Rep.len h4,Rep.len h5];rfl
 one:=by
  rintro w Z cs a ⟨c0,c1,c2,c3,c4,c5,rfl,h0,h1,h2,h3,h4,h5⟩
  exact app_one (Rep.one h0) (app_one (Rep.one h1) (app_one (Rep.one h2) (app_one (Rep.one h3) (app_one (Rep.one h4) (Rep.one h5)))))
 keep:=by
  rintro w w' Z cs a ⟨c0,c1,c2,c3,c4,c5,hc,h0,h1,h2,h3,h4,h5⟩ k
  exact ⟨c0,c1,c2,c3,c4,c5,hc,Rep.keep h0 k,Rep.keep h1 k,Rep.keep h2 k,Rep.keep h3 k,Rep.keep h4 k,Rep.keep h5 k⟩
 more:=by
  rintro w Z Z' cs a ⟨c0,c1,c2,c3,c4,c5,hc,h0,h1,h2,h3,h4,h5⟩ k
  exact ⟨c0,c1,c2,c3,c4,c5,hc,Rep.more h0 k,Rep.more h1 k,Rep.more h2 k,Rep.more h3 k,Rep.more h4 k,Rep.more h5 k⟩
theorem open_ModelD {w:World} {Z:Zone} {cs:List Value} {a:ModelD} (h:rep w Z cs a):∃ A1 k1 A2 k2 A3 k3 A4 k4,cs = [.int .i64 a.opset,.string a.name,.slice A1 a.nodes.length k1,.slice A2 a.inits.length k2,.slice A3 a.inputs.length k3,.slice A4 a.outputs.length k4]∧I64 a.opset∧a.name.size ≤ reach∧rep w Z [.slice A1 a.nodes.length k1] a.nodes∧rep w Z [.slice A2 a.inits.length k2] a.inits∧rep w Z [.slice A3 a.inputs.length k3] a.inputs∧rep w Z [.slice A4 a.outputs.length k4] a.outputs:=by
 obtain ⟨_,_,_,_,_,_,rfl,⟨rfl,h0⟩,⟨rfl,h1⟩,h2,h3,h4,h5⟩:=h
 obtain ⟨A1,k1,rfl⟩:=slice_form h2
 obtain ⟨A2,k2,rfl⟩:=slice_form h3
 obtain ⟨A3,k3,rfl⟩:=slice_form h4
 obtain ⟨A4,k4,rfl⟩:=slice_form h5
 exact ⟨A1,k1,A2,k2,A3,k3,A4,k4,rfl,h0,h1,h2,h3,h4,h5⟩
theorem shut_ModelD {w:World} {Z:Zone} {a:ModelD} (h0:I64 a.opset) (h1:a.name.size ≤ reach) {c2:List Value} (h2:rep w Z c2 a.nodes) {c3:List Value} (h3:rep w Z c3 a.inits) {c4:List Value} (h4:rep w Z c4 a.inputs) {c5:List Value} (h5:rep w Z c5 a.outputs):rep w Z ([.int .i64 a.opset]++([.string a.name]++(c2++(c3++(c4++c5))))) a :=
 ⟨_,_,_,_,_,_,rfl,⟨rfl,h0⟩,⟨rfl,h1⟩,h2,h3,h4,h5⟩
end Go.Proofs.YtgbkhcmbmffljaaDoor
