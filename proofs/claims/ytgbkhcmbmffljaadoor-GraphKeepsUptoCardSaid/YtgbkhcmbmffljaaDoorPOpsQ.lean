/-
  A part of the proofs of chapter 08: walks of the package ops. No condition.
-/
import Derived.Test.YtgbkhcmbmffljaaDoorPOpsP
import Derived.Test.YtgbkhcmbmffljaaDoorPOpsA
import Derived.Test.YtgbkhcmbmffljaaDoorPOpsI
import Derived.Test.YtgbkhcmbmffljaaDoorShelf
set_option linter.unusedSimpArgs false
namespace Go.Proofs.YtgbkhcmbmffljaaDoor
open Go.RowKit
open Rep (rep)
def sValue:List UInt8:=[118,97,108,117,101]
def scalarD (op:Int) (a:AttrD) (s:SettingD):SettingD :=
 if a.name.toList == ([97,108,112,104,97]:List UInt8) then { s with alpha:=a.f } else if a.name.toList == ([98,101,116,97]:List UInt8) then { s with beta:=a.f } else if a.name.toList == ([101,112,115,105,108,111,110]:List UInt8) then { s with epsilon:=a.f }
 else if a.name.toList == ([109,111,100,101]:List UInt8) then { s with mode:=(modeOfD op a.name a.s).getD 0 } else if a.name.toList == ([114,101,100,117,99,116,105,111,110]:List UInt8) then { s with mode:=(modeOfD op a.name a.s).getD 0 }
 else if a.name.toList == ([97,117,116,111,95,112,97,100]:List UInt8) then { s with auto:=(modeOfD op a.name a.s).getD 0 } else s
def setD (op:Int) (a:AttrD) (s:SettingD):SettingD :=
 if Lib.hasPrefix a.name.data.toList sValue then { s with value:=valueOfD a }
 else numD a.name a.i (listD a.name a.ints (flagD a.name (a.i == 1) (scalarD op a s)))
structure SetInv (w:World) (g:Nat) (acs cs:List Value) (W:World):Prop where
 grown:w.grownBy W (some g)
 sets:Sets W g cs
 att:W.heap[w.heap.size]? = some (.cells acs.toArray 52 (0,0))
 lt:g < w.heap.size
section
variable {w W W':World} {g:Nat} {acs cs:List Value}
theorem SetInv.size (h:SetInv w g acs cs W):w.heap.size < W.heap.size:=(Array.getElem?_eq_some_iff.1 h.att).1
theorem SetInv.drew (h:SetInv w g acs cs W):SetInv w g acs cs W.drew:=⟨⟨h.grown.os,h.grown.tape,h.grown.output,h.grown.size,h.grown.block⟩,⟨h.sets.at',h.sets.len⟩,h.att,h.lt⟩
theorem SetInv.next (h:SetInv w g acs cs W) (hb:Below W.heap.size W W'):SetInv w g acs cs W' :=
 ⟨⟨hb.os.trans h.grown.os,hb.tape.trans h.grown.tape,hb.output.trans h.grown.output,Nat.le_trans h.grown.size hb.size,fun k hk hn=>(hb.block k (Nat.lt_of_lt_of_le hk h.grown.size)).trans (h.grown.block k hk hn)⟩,
  h.sets.below hb,(hb.block _ h.size).trans h.att,h.lt⟩
theorem SetInv.row (h:SetInv w g acs cs W) (cs':List Value) (hl:cs'.length = 36):SetInv w g acs cs' (W.setRow g cs'.toArray) :=
 ⟨⟨h.grown.os,h.grown.tape,h.grown.output,by rw [size_setRow];exact h.grown.size,fun k hk hn=>(heap_setRow_other _ _ _ _ (fun e=>hn (by rw [e]))).trans (h.grown.block k hk hn)⟩,
  h.sets.row cs' hl,(heap_setRow_other _ _ _ _ (by have:=h.lt;omega)).trans h.att,h.lt⟩
end
theorem freshBut_le {n n' m m' g:Nat} (h:n' ≤ n) (k:m ≤ m'):(freshBut n m g).le (freshBut n' m' g):=⟨fun _ hb=>⟨Nat.le_trans h hb.1,Nat.lt_of_lt_of_le hb.2.1 k,hb.2.2⟩,fun _=>rfl⟩
theorem fresh_freshBut {n n' m m' g:Nat} (h:n' ≤ n) (k:m ≤ m') (hg:g < n):(fresh n m).le (freshBut n' m' g):=⟨fun _ hb=>⟨Nat.le_trans h hb.1,Nat.lt_of_lt_of_le hb.2 k,fun e=>by have:=hb.1;omega⟩,fun _=>rfl⟩
theorem keeps_grown {w w':World} {N g:Nat} (h:w.grownBy w' (some g)):Keeps (freshBut N w.heap.size g) w w':=.of_block fun k hk=>h.block k hk.2.1 (fun e=>hk.2.2 (by injection e))
theorem SettingDAt.carry {w w':World} {N g:Nat} {cs:List Value} {s:SettingD} (h:SettingDAt w (freshBut N w.heap.size g) cs s) (hg:w.grownBy w' (some g)):SettingDAt w' (freshBut N w'.heap.size g) cs s :=
 (inferInstance:Rep SettingD).more ((inferInstance:Rep SettingD).keep h (keeps_grown hg)) (freshBut_le (Nat.le_refl _) hg.size)
theorem SettingDAt.setValue {w:World} {Z:Zone} {cs ts:List Value} {s:SettingD} {t:TensorD} (h:SettingDAt w Z cs s) (ht:rep w Z ts t):SettingDAt w Z (cs.take 31++ts++cs.drop (31 + ts.length)) { s with value:=t }:=by
 have h5:ts.length = 5:=Rep.len ht
 have h31:(cs.take 31).length = 31:=by rw [List.length_take,h.len];rfl
 have e:∀ {α:Type} [Rep α] {j:Nat} {x:α},j < 31→Fld w Z cs j x→Fld w Z (cs.take 31++ts++cs.drop (31 + ts.length)) j x:=fun {_ _ j x} hj ⟨v,h1,h2⟩=>⟨v,by
  rw [List.append_assoc,List.getElem?_append_left (by rw [h31];exact hj),List.getElem?_take,if_pos hj];exact h1,h2⟩
 refine ⟨by simp [h5,h.len],e (by decide) h.f0,e (by decide) h.f1,e (by decide) h.f2,e (by decide) h.f3,e (by decide) h.f4,e (by decide) h.f5,e (by decide) h.f6,e (by decide) h.f7,e (by decide) h.f8,e (by decide) h.f9,e (by decide) h.f10,e (by decide) h.f11,e (by decide) h.f12,e (by decide) h.f13,e (by decide) h.f14,e (by decide) h.f15,e (by decide) h.f16,e (by decide) h.f17,e (by decide) h.f18,e (by decide) h.f19,e (by decide) h.f20,e (by decide) h.f21,e (by decide) h.f22,e (by decide) h.f23,e (by decide) h.f24,e (by decide) h.f25,e (by decide) h.f26,e (by decide) h.f27,e (by decide) h.f28,e (by decide) h.f29,e (by decide) h.f30,?_⟩
 have:(cs.take 31++ts++cs.drop (31 + ts.length)).drop 31 = ts:=by
  rw [List.append_assoc,List.drop_append_of_le_length (by rw [h31];exact Nat.le_refl _),List.drop_of_length_le (by rw [h31];exact Nat.le_refl _),List.nil_append,List.drop_of_length_le (l:=cs) (by rw [h.len,h5];decide),List.append_nil]
 rw [this]
 exact ht
theorem modeOfD_I64 (op:Int) (name text:ByteArray):I64 ((modeOfD op name text).getD 0):=by
 unfold modeOfD
 cases h:modesD.find? (modeFits op name text) with
 | none=>simp [I64]
 | some m =>
  have hm:=List.mem_of_find?_eq_some h
  have:∀ m ∈ modesD,-9223372036854775808 ≤ m.mode∧m.mode ≤ 9223372036854775807:=by decide
  exact this m hm
set_option maxRecDepth 100000 in
set_option maxHeartbeats 4000000 in
theorem set_value (op:Int) (g:Nat) (a:AttrD) (acs cs:List Value) (w:World) (N0:Nat) (hN0:N0 ≤ g) (hr:rep w (old N0) acs a) (hs:Sets w g cs)
  (hp:Lib.hasPrefix a.name.data.toList sValue = true) :
  Calls Tryd.prog 41 #[.int .i64 op,.pointer (some ⟨g,0,none⟩),.agg acs.toArray] w fun e w'=>e = .returned (.tuple #[])∧∃ cs':List Value,Sets w' g cs'∧w.grownBy w' (some g) ∧
   ∀ (N:Nat) (s:SettingD),N ≤ g→SettingDAt w (freshBut N w.heap.size g) cs s→SettingDAt w' (freshBut N w'.heap.size g) cs' (setD op a s):=by
 obtain ⟨A1,k1,A2,k2,A3,k3,A4,k4,A5,k5,A6,k6,rfl,h0,h1,h2,h3,h4,ht,hf,hi⟩:=open_AttrD hr
 have hS:∀ W:World,Calls Tryd.prog 72 #[.string a.name,.string ⟨#[118,97,108,117,101]⟩] W fun e w'=>e = .returned (.bool true)∧W = w':=fun W =>
  (Tryd.strings_HasPrefix a.name ⟨#[118,97,108,117,101]⟩ W).mono fun e w' ⟨he,hw⟩=>⟨by rw [he];exact congrArg (fun b=>Ending.returned (Value.bool b)) hp,hw.symm⟩
 have HS:=Lib.hid hS
 have hv:∀ s,setD op a s = { s with value:=valueOfD a }:=fun s=>by unfold setD;rw [hp];rfl
 have HV:=Lib.hid hv
 have HG:=Lib.hid hs
 have hinv:∀ o:Obj,o = .cells [.string a.name,.int .i64 a.kind,.int .u32 (a.f:Int),.int .i64 a.i,.string a.s,.int .i64 a.t.type,.slice A1 a.t.dims.length k1,.slice A2 a.t.f.length k2,.slice A3 a.t.i.length k3,.slice A4 a.t.b.length k4,.slice A5 a.floats.length k5,.slice A6 a.ints.length k6].toArray 52 (0,0)→SetInv w g [.string a.name,.int .i64 a.kind,.int .u32 (a.f:Int),.int .i64 a.i,.string a.s,.int .i64 a.t.type,.slice A1 a.t.dims.length k1,.slice A2 a.t.f.length k2,.slice A3 a.t.i.length k3,.slice A4 a.t.b.length k4,.slice A5 a.floats.length k5,.slice A6 a.ints.length k6] cs (w.alloc o):=by
  rintro o rfl
  exact ⟨World.grownBy_alloc w _ (some g),⟨(Below.heap_alloc w _ g hs.lt).trans hs.at',hs.len⟩,heap_alloc_new w _,hs.lt⟩
 have HR:=Lib.hid hr
 clear hs hp hS hv hr h0 h1 h2 h3 h4 ht hf hi
 go_enter Tryd.func41,Tryd.ntmps41
 go_wp2_with fail
 have hI:=hinv _ rfl
 clear hinv
 generalize w.alloc _ = W0 at hI ⊢
 have HI:=Lib.hid hI
 clear hI
 refine (HS.out _).mono ?_
 rintro e w1 ⟨rfl,rfl⟩
 have hB:Below w.heap.size w W0:=⟨HI.out.grown.os,HI.out.grown.tape,HI.out.grown.output,HI.out.grown.size,fun k hk=>by
  by_cases hg:k = g
  ·subst hg;rw [HI.out.sets.at',HG.out.at']
  ·exact HI.out.grown.block k hk (fun e=>hg (by injection e))⟩
 have HB:=Lib.hid hB
 clear hB
 go_wp2_with (first | (with_reducible refine wpList_load_agg rfl 52 _ rfl _ _ _ rfl [.string a.name,.int .i64 a.kind,.int .u32 (a.f:Int),.int .i64 a.i,.string a.s,.int .i64 a.t.type,.slice A1 a.t.dims.length k1,.slice A2 a.t.f.length k2,.slice A3 a.t.i.length k3,.slice A4 a.t.b.length k4,.slice A5 a.floats.length k5,.slice A6 a.ints.length k6] Tryd.underlying52 rfl (by kernel_rfl) (At.of_row HI.out.att) ?_))
 refine (valueOf_any _ a _ (Rep.more (Rep.keep HR.out (Keeps.old_below HB.out (Nat.le_of_lt (Nat.lt_of_le_of_lt hN0 HI.out.lt)))) (old_le (by have:=HI.out.lt;have:=HB.out.size;omega)))).mono ?_
 rintro e w2 ⟨ts,rfl,hts,hb2⟩
 have hI2:=HI.out.next hb2
 have h5:ts.length = 5:=Rep.len hts
 have HX:=Lib.hid (And.intro hts (And.intro hb2 hI2))
 clear hts hb2 hI2
 go_wp2_with (first | (with_reducible refine wpList_store_agg rfl 43 _ _ rfl g 31 ts rfl rfl 45 cs HX.out.2.2.sets.at' (by rw [h5];kernel_rfl) (by rw [h5,HX.out.2.2.sets.len];omega) (Rep.one HX.out.1) ?_))
 have hgr:w.grownBy (w2.setRow g (cs.take 31++ts++cs.drop (31 + ts.length)).toArray) (some g):=(HX.out.2.2.row _ (by simp [h5,HX.out.2.2.sets.len])).grown
 have hl:(cs.take 31++ts++cs.drop (31 + ts.length)).length = 36:=by simp [h5,HX.out.2.2.sets.len]
 refine bodyPost_ret (v:=.tuple #[]) (by simp [results,Tryd.results41,go_sem]) rfl ⟨rfl,_,HX.out.2.2.sets.row _ hl,hgr,fun N s hN hs=>?_⟩
 rw [HV.out]
 refine SettingDAt.setValue (hs.carry hgr) ?_
 rw [size_setRow]
 exact Rep.more (Rep.keep HX.out.1 (.of_block fun k hk=>heap_setRow_other _ _ _ _ (by have:=hk.1;have:=HI.out.grown.size;have:=HI.out.lt;omega))) (fresh_freshBut (Nat.le_trans hN (Nat.le_trans (Nat.le_of_lt HI.out.lt) HI.out.grown.size)) (Nat.le_refl _) (Nat.lt_of_lt_of_le HI.out.lt HI.out.grown.size))
set_option maxRecDepth 100000 in
set_option maxHeartbeats 4000000 in
theorem set_none (op:Int) (g:Nat) (a:AttrD) (acs cs:List Value) (w:World) (N0:Nat) (hN0:N0 ≤ g) (hr:rep w (old N0) acs a) (hs:Sets w g cs)
  (hp:Lib.hasPrefix a.name.data.toList sValue = false) (e0:(a.name.toList == ([97,108,112,104,97]:List UInt8)) = false) (e1:(a.name.toList == ([98,101,116,97]:List UInt8)) = false) (e2:(a.name.toList == ([101,112,115,105,108,111,110]:List UInt8)) = false) (e3:(a.name.toList == ([109,111,100,101]:List UInt8)) = false) (e4:(a.name.toList == ([114,101,100,117,99,116,105,111,110]:List UInt8)) = false) (e5:(a.name.toList == ([97,117,116,111,95,112,97,100]:List UInt8)) = false) :
  Calls Tryd.prog 41 #[.int .i64 op,.pointer (some ⟨g,0,none⟩),.agg acs.toArray] w fun e w'=>e = .returned (.tuple #[])∧∃ cs':List Value,Sets w' g cs'∧w.grownBy w' (some g) ∧
   ∀ (N:Nat) (s:SettingD),N ≤ g→SettingDAt w (freshBut N w.heap.size g) cs s→SettingDAt w' (freshBut N w'.heap.size g) cs' (setD op a s):=by
 obtain ⟨A1,k1,A2,k2,A3,k3,A4,k4,A5,k5,A6,k6,rfl,h0,h1,h2,h3,h4,ht,hf,hi⟩:=open_AttrD hr
 have hS:∀ W:World,Calls Tryd.prog 72 #[.string a.name,.string ⟨#[118,97,108,117,101]⟩] W fun e w'=>e = .returned (.bool false)∧W = w':=fun W =>
  (Tryd.strings_HasPrefix a.name ⟨#[118,97,108,117,101]⟩ W).mono fun e w' ⟨he,hw⟩=>⟨by rw [he];exact congrArg (fun b=>Ending.returned (Value.bool b)) hp,hw.symm⟩
 have HS:=Lib.hid hS
 have hv:∀ s,setD op a s = numD a.name a.i (listD a.name a.ints (flagD a.name (a.i == 1) (s))):=fun s=>by unfold setD;rw [hp];simp only [Bool.false_eq_true,↓reduceIte,scalarD,e0,e1,e2,e3,e4,e5]
 have HV:=Lib.hid hv
 have HG:=Lib.hid hs
 have hinv:∀ o:Obj,o = .cells [.string a.name,.int .i64 a.kind,.int .u32 (a.f:Int),.int .i64 a.i,.string a.s,.int .i64 a.t.type,.slice A1 a.t.dims.length k1,.slice A2 a.t.f.length k2,.slice A3 a.t.i.length k3,.slice A4 a.t.b.length k4,.slice A5 a.floats.length k5,.slice A6 a.ints.length k6].toArray 52 (0,0)→SetInv w g [.string a.name,.int .i64 a.kind,.int .u32 (a.f:Int),.int .i64 a.i,.string a.s,.int .i64 a.t.type,.slice A1 a.t.dims.length k1,.slice A2 a.t.f.length k2,.slice A3 a.t.i.length k3,.slice A4 a.t.b.length k4,.slice A5 a.floats.length k5,.slice A6 a.ints.length k6] cs (w.alloc o):=by
  rintro o rfl
  exact ⟨World.grownBy_alloc w _ (some g),⟨(Below.heap_alloc w _ g hs.lt).trans hs.at',hs.len⟩,heap_alloc_new w _,hs.lt⟩
 clear hs hp hS hv h0 h1 ht hf
 have HE:=Lib.hid (And.intro h2 (And.intro h3 hi))
 have hN:∀ (cs:List Value) (W:World),SetInv w g [.string a.name,.int .i64 a.kind,.int .u32 (a.f:Int),.int .i64 a.i,.string a.s,.int .i64 a.t.type,.slice A1 a.t.dims.length k1,.slice A2 a.t.f.length k2,.slice A3 a.t.i.length k3,.slice A4 a.t.b.length k4,.slice A5 a.floats.length k5,.slice A6 a.ints.length k6] cs W→Calls Tryd.prog 76 #[.slice A6 a.ints.length k6] W fun e w'=>∃ A' c',e = .returned (.slice A' a.ints.length c')∧rep w' (fresh W.heap.size w'.heap.size) [.slice A' a.ints.length c'] a.ints∧Below W.heap.size W w':=fun cs W h =>
  (ints_new a.ints _ W (Rep.more (Rep.keep HE.out.2.2 (.of_block fun k hk=>h.grown.block k (by have:=h.lt;have:k < N0:=hk;omega) (fun e=>by injection e with e;have:k < N0:=hk;omega))) (old_le (by have:=h.lt;have:=h.grown.size;omega)))).mono fun _ _ h=>sliced h
 have HN:=Lib.hid hN
 clear hN
 clear h2 h3 h4 hi hr
 go_enter Tryd.func41,Tryd.ntmps41
 go_wp2_with fail
 have hI:=hinv _ rfl
 clear hinv
 generalize w.alloc _ = W0 at hI ⊢
 have c0:W0.cell? ⟨w.heap.size,0,none⟩ = some (.string a.name):=cell_of_row _ _ _ _ _ _ hI.att
 have c4:W0.cell? ⟨w.heap.size,4,none⟩ = some (.string a.s):=cell_of_row _ _ _ _ _ _ hI.att
 have HI:=Lib.hid hI
 clear hI
 refine (HS.out _).mono ?_
 rintro e w1 ⟨rfl,rfl⟩
 go_wp2_with fail
 refine (modeOf_any op a.name a.s _).mono ?_
 rintro e w2 ⟨rfl,hb2⟩
 have hm:=modeOfD_I64 op a.name a.s
 generalize (modeOfD op a.name a.s).getD 0 = m at hm HV ⊢
 have HM:=Lib.hid (And.intro hm hm)
 clear hm
 have HI2:=Lib.hid (HI.out.next hb2)
 clear HI hb2 c0 c4
 have c0:w2.cell? ⟨w.heap.size,0,none⟩ = some (.string a.name):=cell_of_row _ _ _ _ _ _ HI2.out.att
 have c2:w2.cell? ⟨w.heap.size,2,none⟩ = some (.int .u32 (a.f:Int)):=cell_of_row _ _ _ _ _ _ HI2.out.att
 have c3:w2.cell? ⟨w.heap.size,3,none⟩ = some (.int .i64 a.i):=cell_of_row _ _ _ _ _ _ HI2.out.att
 have hne:w.heap.size ≠ g:=by have:=HI2.out.lt;omega
 go_wp2_with fail
 have HI3:=HI2
 have HD3:=Lib.hid (fun (W:World) (Z:Zone) (s:SettingD) (h:SettingDAt W Z cs s)=>h)
 refine (set_flag_any g a.name (a.i == 1) _ _ HI3.out.sets).mono ?_
 rintro e w4' ⟨rfl,cs4,rfl,hl4,hD4⟩
 have HI4:=Lib.hid (HI3.out.row cs4 hl4)
 generalize World.setRow _ g cs4.toArray = w4 at HI4 ⊢
 have HD4:=Lib.hid hD4
 clear hD4 hl4 c0 c2 c3 HI2 HI3
 have c0:w4.cell? ⟨w.heap.size,0,none⟩ = some (.string a.name):=cell_of_row _ _ _ _ _ _ HI4.out.att
 have c11:w4.cell? ⟨w.heap.size,11,none⟩ = some (.slice A6 a.ints.length k6):=cell_of_row _ _ _ _ _ _ HI4.out.att
 go_wp2_with fail
 go_region_held3 (fun w'=>w'.cell? ⟨w.heap.size,0,none⟩ = some (.string a.name)∧w'.cell? ⟨w.heap.size,11,none⟩ = some (.slice A6 a.ints.length k6))
  (first | go_keep)
  (first
   |(go_at_call 76;refine (HN.out _ _ HI4.out.drew).mono ?_;rintro e w5 ⟨A',k',rfl,hv5,hb5⟩;have HI5:=Lib.hid (HI4.out.drew.next hb5);have c05:w5.cell? ⟨w.heap.size,0,none⟩ = some (.string a.name):=cell_of_row _ _ _ _ _ _ HI5.out.att;have c115:w5.cell? ⟨w.heap.size,11,none⟩ = some (.slice A6 a.ints.length k6):=cell_of_row _ _ _ _ _ _ HI5.out.att;have HR5:=Lib.hid hv5;clear hv5 hb5)
   |(go_at_call 75;refine (set_list_any g a.name A' k' a.ints cs4 w5 HI5.out.sets).mono ?_;rintro e w6' ⟨rfl,cs6,rfl,hl6,hD6⟩;have HI6:=Lib.hid (HI5.out.row cs6 hl6);have HD6:=Lib.hid (And.intro hD6 hl6);clear hD6 hl6;have c06:(w5.setRow g cs6.toArray).cell? ⟨w.heap.size,0,none⟩ = some (.string a.name):=cell_of_row _ _ _ _ _ _ HI6.out.att;have c116:(w5.setRow g cs6.toArray).cell? ⟨w.heap.size,11,none⟩ = some (.slice A6 a.ints.length k6):=cell_of_row _ _ _ _ _ _ HI6.out.att))
 all_goals
  clear c05 c115 c06 c116 c0 c11
  generalize hw6:w5.setRow g cs6.toArray = w6 at HI6 ⊢
  have H6:=Lib.hid hw6
  clear hw6
  have c0:w6.cell? ⟨w.heap.size,0,none⟩ = some (.string a.name):=cell_of_row _ _ _ _ _ _ HI6.out.att
  have c3:w6.cell? ⟨w.heap.size,3,none⟩ = some (.int .i64 a.i):=cell_of_row _ _ _ _ _ _ HI6.out.att
  go_wp2_with fail
  refine (set_number_any g a.name a.i cs6 w6 HI6.out.sets).mono ?_
  rintro e w7' ⟨rfl,cs7,rfl,hl7,hD7⟩
  have HI7:=Lib.hid (HI6.out.row cs7 hl7)
  have HD7:=Lib.hid hD7
  clear hD7 hl7 c0 c3
  go_wp2
  refine bodyPost_end (v:=.tuple #[]) (by simp [results,Tryd.results41,go_sem]) rfl ⟨rfl,_,HI7.out.sets,HI7.out.grown,fun N s hN hs=>?_⟩
  rw [HV.out]
  refine HD7.out _ _ _ (HD6.out.1 _ _ _ (HD4.out _ _ _ (HD3.out _ _ _ (hs.carry HI7.out.grown))) ?_) HE.out.2.1
  have hw6:=H6.out
  subst hw6
  rw [size_setRow,size_setRow]
  have hlt:=HI4.out.lt
  have hsz:=HI4.out.grown.size
  exact Rep.more (Rep.keep (Rep.keep HR5.out (.of_block fun k hk=>heap_setRow_other _ _ _ _ (by have:=hk.1;simp at this;omega))) (.of_block fun k hk=>heap_setRow_other _ _ _ _ (by have:=hk.1;simp at this;omega))) (fresh_freshBut (by simp;omega) (Nat.le_refl _) (by simp;omega))
set_option maxRecDepth 100000 in
set_option maxHeartbeats 4000000 in
theorem set_alpha (op:Int) (g:Nat) (a:AttrD) (acs cs:List Value) (w:World) (N0:Nat) (hN0:N0 ≤ g) (hr:rep w (old N0) acs a) (hs:Sets w g cs)
  (hp:Lib.hasPrefix a.name.data.toList sValue = false) (e0:(a.name.toList == ([97,108,112,104,97]:List UInt8)) = true) :
  Calls Tryd.prog 41 #[.int .i64 op,.pointer (some ⟨g,0,none⟩),.agg acs.toArray] w fun e w'=>e = .returned (.tuple #[])∧∃ cs':List Value,Sets w' g cs'∧w.grownBy w' (some g) ∧
   ∀ (N:Nat) (s:SettingD),N ≤ g→SettingDAt w (freshBut N w.heap.size g) cs s→SettingDAt w' (freshBut N w'.heap.size g) cs' (setD op a s):=by
 obtain ⟨A1,k1,A2,k2,A3,k3,A4,k4,A5,k5,A6,k6,rfl,h0,h1,h2,h3,h4,ht,hf,hi⟩:=open_AttrD hr
 have hS:∀ W:World,Calls Tryd.prog 72 #[.string a.name,.string ⟨#[118,97,108,117,101]⟩] W fun e w'=>e = .returned (.bool false)∧W = w':=fun W =>
  (Tryd.strings_HasPrefix a.name ⟨#[118,97,108,117,101]⟩ W).mono fun e w' ⟨he,hw⟩=>⟨by rw [he];exact congrArg (fun b=>Ending.returned (Value.bool b)) hp,hw.symm⟩
 have HS:=Lib.hid hS
 have hv:∀ s,setD op a s = numD a.name a.i (listD a.name a.ints (flagD a.name (a.i == 1) ({ s with alpha:=a.f }))):=fun s=>by unfold setD;rw [hp];simp only [Bool.false_eq_true,↓reduceIte,scalarD,e0]
 have HV:=Lib.hid hv
 have HG:=Lib.hid hs
 have hinv:∀ o:Obj,o = .cells [.string a.name,.int .i64 a.kind,.int .u32 (a.f:Int),.int .i64 a.i,.string a.s,.int .i64 a.t.type,.slice A1 a.t.dims.length k1,.slice A2 a.t.f.length k2,.slice A3 a.t.i.length k3,.slice A4 a.t.b.length k4,.slice A5 a.floats.length k5,.slice A6 a.ints.length k6].toArray 52 (0,0)→SetInv w g [.string a.name,.int .i64 a.kind,.int .u32 (a.f:Int),.int .i64 a.i,.string a.s,.int .i64 a.t.type,.slice A1 a.t.dims.length k1,.slice A2 a.t.f.length k2,.slice A3 a.t.i.length k3,.slice A4 a.t.b.length k4,.slice A5 a.floats.length k5,.slice A6 a.ints.length k6] cs (w.alloc o):=by
  rintro o rfl
  exact ⟨World.grownBy_alloc w _ (some g),⟨(Below.heap_alloc w _ g hs.lt).trans hs.at',hs.len⟩,heap_alloc_new w _,hs.lt⟩
 clear hs hp hS hv h0 h1 ht hf
 have HE:=Lib.hid (And.intro h2 (And.intro h3 hi))
 have hN:∀ (cs:List Value) (W:World),SetInv w g [.string a.name,.int .i64 a.kind,.int .u32 (a.f:Int),.int .i64 a.i,.string a.s,.int .i64 a.t.type,.slice A1 a.t.dims.length k1,.slice A2 a.t.f.length k2,.slice A3 a.t.i.length k3,.slice A4 a.t.b.length k4,.slice A5 a.floats.length k5,.slice A6 a.ints.length k6] cs W→Calls Tryd.prog 76 #[.slice A6 a.ints.length k6] W fun e w'=>∃ A' c',e = .returned (.slice A' a.ints.length c')∧rep w' (fresh W.heap.size w'.heap.size) [.slice A' a.ints.length c'] a.ints∧Below W.heap.size W w':=fun cs W h =>
  (ints_new a.ints _ W (Rep.more (Rep.keep HE.out.2.2 (.of_block fun k hk=>h.grown.block k (by have:=h.lt;have:k < N0:=hk;omega) (fun e=>by injection e with e;have:k < N0:=hk;omega))) (old_le (by have:=h.lt;have:=h.grown.size;omega)))).mono fun _ _ h=>sliced h
 have HN:=Lib.hid hN
 clear hN
 clear h2 h3 h4 hi hr
 go_enter Tryd.func41,Tryd.ntmps41
 go_wp2_with fail
 have hI:=hinv _ rfl
 clear hinv
 generalize w.alloc _ = W0 at hI ⊢
 have c0:W0.cell? ⟨w.heap.size,0,none⟩ = some (.string a.name):=cell_of_row _ _ _ _ _ _ hI.att
 have c4:W0.cell? ⟨w.heap.size,4,none⟩ = some (.string a.s):=cell_of_row _ _ _ _ _ _ hI.att
 have HI:=Lib.hid hI
 clear hI
 refine (HS.out _).mono ?_
 rintro e w1 ⟨rfl,rfl⟩
 go_wp2_with fail
 refine (modeOf_any op a.name a.s _).mono ?_
 rintro e w2 ⟨rfl,hb2⟩
 have hm:=modeOfD_I64 op a.name a.s
 generalize (modeOfD op a.name a.s).getD 0 = m at hm HV ⊢
 have HM:=Lib.hid (And.intro hm hm)
 clear hm
 have HI2:=Lib.hid (HI.out.next hb2)
 clear HI hb2 c0 c4
 have c0:w2.cell? ⟨w.heap.size,0,none⟩ = some (.string a.name):=cell_of_row _ _ _ _ _ _ HI2.out.att
 have c2:w2.cell? ⟨w.heap.size,2,none⟩ = some (.int .u32 (a.f:Int)):=cell_of_row _ _ _ _ _ _ HI2.out.att
 have c3:w2.cell? ⟨w.heap.size,3,none⟩ = some (.int .i64 a.i):=cell_of_row _ _ _ _ _ _ HI2.out.att
 have hne:w.heap.size ≠ g:=by have:=HI2.out.lt;omega
 obtain ⟨o,co⟩:=HI2.out.sets.cell 9 (by decide)
 have fo:w2.frozen? ⟨g,9,none⟩ = false:=HI2.out.sets.free 9
 go_wp2_with fail
 rw [HI2.out.sets.set1 9 _]
 have HI3:=Lib.hid (HI2.out.row (cs.set 9 (.int .u32 (a.f:Int))) (by rw [List.length_set];exact HI2.out.sets.len))
 have HD3:=Lib.hid (fun (W:World) (Z:Zone) (s:SettingD) (h:SettingDAt W Z cs s)=>h.set9 (v:=.int .u32 (a.f:Int)) (x:=a.f) ⟨rfl,HE.out.1⟩)
 refine (set_flag_any g a.name (a.i == 1) _ _ HI3.out.sets).mono ?_
 rintro e w4' ⟨rfl,cs4,rfl,hl4,hD4⟩
 have HI4:=Lib.hid (HI3.out.row cs4 hl4)
 generalize World.setRow _ g cs4.toArray = w4 at HI4 ⊢
 have HD4:=Lib.hid hD4
 clear hD4 hl4 c0 c2 c3 HI2 HI3
 have c0:w4.cell? ⟨w.heap.size,0,none⟩ = some (.string a.name):=cell_of_row _ _ _ _ _ _ HI4.out.att
 have c11:w4.cell? ⟨w.heap.size,11,none⟩ = some (.slice A6 a.ints.length k6):=cell_of_row _ _ _ _ _ _ HI4.out.att
 go_wp2_with fail
 go_region_held3 (fun w'=>w'.cell? ⟨w.heap.size,0,none⟩ = some (.string a.name)∧w'.cell? ⟨w.heap.size,11,none⟩ = some (.slice A6 a.ints.length k6))
  (first | go_keep)
  (first
   |(go_at_call 76;refine (HN.out _ _ HI4.out.drew).mono ?_;rintro e w5 ⟨A',k',rfl,hv5,hb5⟩;have HI5:=Lib.hid (HI4.out.drew.next hb5);have c05:w5.cell? ⟨w.heap.size,0,none⟩ = some (.string a.name):=cell_of_row _ _ _ _ _ _ HI5.out.att;have c115:w5.cell? ⟨w.heap.size,11,none⟩ = some (.slice A6 a.ints.length k6):=cell_of_row _ _ _ _ _ _ HI5.out.att;have HR5:=Lib.hid hv5;clear hv5 hb5)
   |(go_at_call 75;refine (set_list_any g a.name A' k' a.ints cs4 w5 HI5.out.sets).mono ?_;rintro e w6' ⟨rfl,cs6,rfl,hl6,hD6⟩;have HI6:=Lib.hid (HI5.out.row cs6 hl6);have HD6:=Lib.hid (And.intro hD6 hl6);clear hD6 hl6;have c06:(w5.setRow g cs6.toArray).cell? ⟨w.heap.size,0,none⟩ = some (.string a.name):=cell_of_row _ _ _ _ _ _ HI6.out.att;have c116:(w5.setRow g cs6.toArray).cell? ⟨w.heap.size,11,none⟩ = some (.slice A6 a.ints.length k6):=cell_of_row _ _ _ _ _ _ HI6.out.att))
 all_goals
  clear c05 c115 c06 c116 c0 c11
  generalize hw6:w5.setRow g cs6.toArray = w6 at HI6 ⊢
  have H6:=Lib.hid hw6
  clear hw6
  have c0:w6.cell? ⟨w.heap.size,0,none⟩ = some (.string a.name):=cell_of_row _ _ _ _ _ _ HI6.out.att
  have c3:w6.cell? ⟨w.heap.size,3,none⟩ = some (.int .i64 a.i):=cell_of_row _ _ _ _ _ _ HI6.out.att
  go_wp2_with fail
  refine (set_number_any g a.name a.i cs6 w6 HI6.out.sets).mono ?_
  rintro e w7' ⟨rfl,cs7,rfl,hl7,hD7⟩
  have HI7:=Lib.hid (HI6.out.row cs7 hl7)
  have HD7:=Lib.hid hD7
  clear hD7 hl7 c0 c3
  go_wp2
  refine bodyPost_end (v:=.tuple #[]) (by simp [results,Tryd.results41,go_sem]) rfl ⟨rfl,_,HI7.out.sets,HI7.out.grown,fun N s hN hs=>?_⟩
  rw [HV.out]
  refine HD7.out _ _ _ (HD6.out.1 _ _ _ (HD4.out _ _ _ (HD3.out _ _ _ (hs.carry HI7.out.grown))) ?_) HE.out.2.1
  have hw6:=H6.out
  subst hw6
  rw [size_setRow,size_setRow]
  have hlt:=HI4.out.lt
  have hsz:=HI4.out.grown.size
  exact Rep.more (Rep.keep (Rep.keep HR5.out (.of_block fun k hk=>heap_setRow_other _ _ _ _ (by have:=hk.1;simp at this;omega))) (.of_block fun k hk=>heap_setRow_other _ _ _ _ (by have:=hk.1;simp at this;omega))) (fresh_freshBut (by simp;omega) (Nat.le_refl _) (by simp;omega))
set_option maxRecDepth 100000 in
set_option maxHeartbeats 4000000 in
theorem set_beta (op:Int) (g:Nat) (a:AttrD) (acs cs:List Value) (w:World) (N0:Nat) (hN0:N0 ≤ g) (hr:rep w (old N0) acs a) (hs:Sets w g cs)
  (hp:Lib.hasPrefix a.name.data.toList sValue = false) (e0:(a.name.toList == ([97,108,112,104,97]:List UInt8)) = false) (e1:(a.name.toList == ([98,101,116,97]:List UInt8)) = true) :
  Calls Tryd.prog 41 #[.int .i64 op,.pointer (some ⟨g,0,none⟩),.agg acs.toArray] w fun e w'=>e = .returned (.tuple #[])∧∃ cs':List Value,Sets w' g cs'∧w.grownBy w' (some g) ∧
   ∀ (N:Nat) (s:SettingD),N ≤ g→SettingDAt w (freshBut N w.heap.size g) cs s→SettingDAt w' (freshBut N w'.heap.size g) cs' (setD op a s):=by
 obtain ⟨A1,k1,A2,k2,A3,k3,A4,k4,A5,k5,A6,k6,rfl,h0,h1,h2,h3,h4,ht,hf,hi⟩:=open_AttrD hr
 have hS:∀ W:World,Calls Tryd.prog 72 #[.string a.name,.string ⟨#[118,97,108,117,101]⟩] W fun e w'=>e = .returned (.bool false)∧W = w':=fun W =>
  (Tryd.strings_HasPrefix a.name ⟨#[118,97,108,117,101]⟩ W).mono fun e w' ⟨he,hw⟩=>⟨by rw [he];exact congrArg (fun b=>Ending.returned (Value.bool b)) hp,hw.symm⟩
 have HS:=Lib.hid hS
 have hv:∀ s,setD op a s = numD a.name a.i (listD a.name a.ints (flagD a.name (a.i == 1) ({ s with beta:=a.f }))):=fun s=>by unfold setD;rw [hp];simp only [Bool.false_eq_true,↓reduceIte,scalarD,e0,e1]
 have HV:=Lib.hid hv
 have HG:=Lib.hid hs
 have hinv:∀ o:Obj,o = .cells [.string a.name,.int .i64 a.kind,.int .u32 (a.f:Int),.int .i64 a.i,.string a.s,.int .i64 a.t.type,.slice A1 a.t.dims.length k1,.slice A2 a.t.f.length k2,.slice A3 a.t.i.length k3,.slice A4 a.t.b.length k4,.slice A5 a.floats.length k5,.slice A6 a.ints.length k6].toArray 52 (0,0)→SetInv w g [.string a.name,.int .i64 a.kind,.int .u32 (a.f:Int),.int .i64 a.i,.string a.s,.int .i64 a.t.type,.slice A1 a.t.dims.length k1,.slice A2 a.t.f.length k2,.slice A3 a.t.i.length k3,.slice A4 a.t.b.length k4,.slice A5 a.floats.length k5,.slice A6 a.ints.length k6] cs (w.alloc o):=by
  rintro o rfl
  exact ⟨World.grownBy_alloc w _ (some g),⟨(Below.heap_alloc w _ g hs.lt).trans hs.at',hs.len⟩,heap_alloc_new w _,hs.lt⟩
 clear hs hp hS hv h0 h1 ht hf
 have HE:=Lib.hid (And.intro h2 (And.intro h3 hi))
 have hN:∀ (cs:List Value) (W:World),SetInv w g [.string a.name,.int .i64 a.kind,.int .u32 (a.f:Int),.int .i64 a.i,.string a.s,.int .i64 a.t.type,.slice A1 a.t.dims.length k1,.slice A2 a.t.f.length k2,.slice A3 a.t.i.length k3,.slice A4 a.t.b.length k4,.slice A5 a.floats.length k5,.slice A6 a.ints.length k6] cs W→Calls Tryd.prog 76 #[.slice A6 a.ints.length k6] W fun e w'=>∃ A' c',e = .returned (.slice A' a.ints.length c')∧rep w' (fresh W.heap.size w'.heap.size) [.slice A' a.ints.length c'] a.ints∧Below W.heap.size W w':=fun cs W h =>
  (ints_new a.ints _ W (Rep.more (Rep.keep HE.out.2.2 (.of_block fun k hk=>h.grown.block k (by have:=h.lt;have:k < N0:=hk;omega) (fun e=>by injection e with e;have:k < N0:=hk;omega))) (old_le (by have:=h.lt;have:=h.grown.size;omega)))).mono fun _ _ h=>sliced h
 have HN:=Lib.hid hN
 clear hN
 clear h2 h3 h4 hi hr
 go_enter Tryd.func41,Tryd.ntmps41
 go_wp2_with fail
 have hI:=hinv _ rfl
 clear hinv
 generalize w.alloc _ = W0 at hI ⊢
 have c0:W0.cell? ⟨w.heap.size,0,none⟩ = some (.string a.name):=cell_of_row _ _ _ _ _ _ hI.att
 have c4:W0.cell? ⟨w.heap.size,4,none⟩ = some (.string a.s):=cell_of_row _ _ _ _ _ _ hI.att
 have HI:=Lib.hid hI
 clear hI
 refine (HS.out _).mono ?_
 rintro e w1 ⟨rfl,rfl⟩
 go_wp2_with fail
 refine (modeOf_any op a.name a.s _).mono ?_
 rintro e w2 ⟨rfl,hb2⟩
 have hm:=modeOfD_I64 op a.name a.s
 generalize (modeOfD op a.name a.s).getD 0 = m at hm HV ⊢
 have HM:=Lib.hid (And.intro hm hm)
 clear hm
 have HI2:=Lib.hid (HI.out.next hb2)
 clear HI hb2 c0 c4
 have c0:w2.cell? ⟨w.heap.size,0,none⟩ = some (.string a.name):=cell_of_row _ _ _ _ _ _ HI2.out.att
 have c2:w2.cell? ⟨w.heap.size,2,none⟩ = some (.int .u32 (a.f:Int)):=cell_of_row _ _ _ _ _ _ HI2.out.att
 have c3:w2.cell? ⟨w.heap.size,3,none⟩ = some (.int .i64 a.i):=cell_of_row _ _ _ _ _ _ HI2.out.att
 have hne:w.heap.size ≠ g:=by have:=HI2.out.lt;omega
 obtain ⟨o,co⟩:=HI2.out.sets.cell 10 (by decide)
 have fo:w2.frozen? ⟨g,10,none⟩ = false:=HI2.out.sets.free 10
 go_wp2_with fail
 rw [HI2.out.sets.set1 10 _]
 have HI3:=Lib.hid (HI2.out.row (cs.set 10 (.int .u32 (a.f:Int))) (by rw [List.length_set];exact HI2.out.sets.len))
 have HD3:=Lib.hid (fun (W:World) (Z:Zone) (s:SettingD) (h:SettingDAt W Z cs s)=>h.set10 (v:=.int .u32 (a.f:Int)) (x:=a.f) ⟨rfl,HE.out.1⟩)
 refine (set_flag_any g a.name (a.i == 1) _ _ HI3.out.sets).mono ?_
 rintro e w4' ⟨rfl,cs4,rfl,hl4,hD4⟩
 have HI4:=Lib.hid (HI3.out.row cs4 hl4)
 generalize World.setRow _ g cs4.toArray = w4 at HI4 ⊢
 have HD4:=Lib.hid hD4
 clear hD4 hl4 c0 c2 c3 HI2 HI3
 have c0:w4.cell? ⟨w.heap.size,0,none⟩ = some (.string a.name):=cell_of_row _ _ _ _ _ _ HI4.out.att
 have c11:w4.cell? ⟨w.heap.size,11,none⟩ = some (.slice A6 a.ints.length k6):=cell_of_row _ _ _ _ _ _ HI4.out.att
 go_wp2_with fail
 go_region_held3 (fun w'=>w'.cell? ⟨w.heap.size,0,none⟩ = some (.string a.name)∧w'.cell? ⟨w.heap.size,11,none⟩ = some (.slice A6 a.ints.length k6))
  (first | go_keep)
  (first
   |(go_at_call 76;refine (HN.out _ _ HI4.out.drew).mono ?_;rintro e w5 ⟨A',k',rfl,hv5,hb5⟩;have HI5:=Lib.hid (HI4.out.drew.next hb5);have c05:w5.cell? ⟨w.heap.size,0,none⟩ = some (.string a.name):=cell_of_row _ _ _ _ _ _ HI5.out.att;have c115:w5.cell? ⟨w.heap.size,11,none⟩ = some (.slice A6 a.ints.length k6):=cell_of_row _ _ _ _ _ _ HI5.out.att;have HR5:=Lib.hid hv5;clear hv5 hb5)
   |(go_at_call 75;refine (set_list_any g a.name A' k' a.ints cs4 w5 HI5.out.sets).mono ?_;rintro e w6' ⟨rfl,cs6,rfl,hl6,hD6⟩;have HI6:=Lib.hid (HI5.out.row cs6 hl6);have HD6:=Lib.hid (And.intro hD6 hl6);clear hD6 hl6;have c06:(w5.setRow g cs6.toArray).cell? ⟨w.heap.size,0,none⟩ = some (.string a.name):=cell_of_row _ _ _ _ _ _ HI6.out.att;have c116:(w5.setRow g cs6.toArray).cell? ⟨w.heap.size,11,none⟩ = some (.slice A6 a.ints.length k6):=cell_of_row _ _ _ _ _ _ HI6.out.att))
 all_goals
  clear c05 c115 c06 c116 c0 c11
  generalize hw6:w5.setRow g cs6.toArray = w6 at HI6 ⊢
  have H6:=Lib.hid hw6
  clear hw6
  have c0:w6.cell? ⟨w.heap.size,0,none⟩ = some (.string a.name):=cell_of_row _ _ _ _ _ _ HI6.out.att
  have c3:w6.cell? ⟨w.heap.size,3,none⟩ = some (.int .i64 a.i):=cell_of_row _ _ _ _ _ _ HI6.out.att
  go_wp2_with fail
  refine (set_number_any g a.name a.i cs6 w6 HI6.out.sets).mono ?_
  rintro e w7' ⟨rfl,cs7,rfl,hl7,hD7⟩
  have HI7:=Lib.hid (HI6.out.row cs7 hl7)
  have HD7:=Lib.hid hD7
  clear hD7 hl7 c0 c3
  go_wp2
  refine bodyPost_end (v:=.tuple #[]) (by simp [results,Tryd.results41,go_sem]) rfl ⟨rfl,_,HI7.out.sets,HI7.out.grown,fun N s hN hs=>?_⟩
  rw [HV.out]
  refine HD7.out _ _ _ (HD6.out.1 _ _ _ (HD4.out _ _ _ (HD3.out _ _ _ (hs.carry HI7.out.grown))) ?_) HE.out.2.1
  have hw6:=H6.out
  subst hw6
  rw [size_setRow,size_setRow]
  have hlt:=HI4.out.lt
  have hsz:=HI4.out.grown.size
  exact Rep.more (Rep.keep (Rep.keep HR5.out (.of_block fun k hk=>heap_setRow_other _ _ _ _ (by have:=hk.1;simp at this;omega))) (.of_block fun k hk=>heap_setRow_other _ _ _ _ (by have:=hk.1;simp at this;omega))) (fresh_freshBut (by simp;omega) (Nat.le_refl _) (by simp;omega))
set_option maxRecDepth 100000 in
set_option maxHeartbeats 4000000 in
theorem set_epsilon (op:Int) (g:Nat) (a:AttrD) (acs cs:List Value) (w:World) (N0:Nat) (hN0:N0 ≤ g) (hr:rep w (old N0) acs a) (hs:Sets w g cs)
  (hp:Lib.hasPrefix a.name.data.toList sValue = false) (e0:(a.name.toList == ([97,108,112,104,97]:List UInt8)) = false) (e1:(a.name.toList == ([98,101,116,97]:List UInt8)) = false) (e2:(a.name.toList == ([101,112,115,105,108,111,110]:List UInt8)) = true) :
  Calls Tryd.prog 41 #[.int .i64 op,.pointer (some ⟨g,0,none⟩),.agg acs.toArray] w fun e w'=>e = .returned (.tuple #[])∧∃ cs':List Value,Sets w' g cs'∧w.grownBy w' (some g) ∧
   ∀ (N:Nat) (s:SettingD),N ≤ g→SettingDAt w (freshBut N w.heap.size g) cs s→SettingDAt w' (freshBut N w'.heap.size g) cs' (setD op a s):=by
 obtain ⟨A1,k1,A2,k2,A3,k3,A4,k4,A5,k5,A6,k6,rfl,h0,h1,h2,h3,h4,ht,hf,hi⟩:=open_AttrD hr
 have hS:∀ W:World,Calls Tryd.prog 72 #[.string a.name,.string ⟨#[118,97,108,117,101]⟩] W fun e w'=>e = .returned (.bool false)∧W = w':=fun W =>
  (Tryd.strings_HasPrefix a.name ⟨#[118,97,108,117,101]⟩ W).mono fun e w' ⟨he,hw⟩=>⟨by rw [he];exact congrArg (fun b=>Ending.returned (Value.bool b)) hp,hw.symm⟩
 have HS:=Lib.hid hS
 have hv:∀ s,setD op a s = numD a.name a.i (listD a.name a.ints (flagD a.name (a.i == 1) ({ s with epsilon:=a.f }))):=fun s=>by unfold setD;rw [hp];simp only [Bool.false_eq_true,↓reduceIte,scalarD,e0,e1,e2]
 have HV:=Lib.hid hv
 have HG:=Lib.hid hs
 have hinv:∀ o:Obj,o = .cells [.string a.name,.int .i64 a.kind,.int .u32 (a.f:Int),.int .i64 a.i,.string a.s,.int .i64 a.t.type,.slice A1 a.t.dims.length k1,.slice A2 a.t.f.length k2,.slice A3 a.t.i.length k3,.slice A4 a.t.b.length k4,.slice A5 a.floats.length k5,.slice A6 a.ints.length k6].toArray 52 (0,0)→SetInv w g [.string a.name,.int .i64 a.kind,.int .u32 (a.f:Int),.int .i64 a.i,.string a.s,.int .i64 a.t.type,.slice A1 a.t.dims.length k1,.slice A2 a.t.f.length k2,.slice A3 a.t.i.length k3,.slice A4 a.t.b.length k4,.slice A5 a.floats.length k5,.slice A6 a.ints.length k6] cs (w.alloc o):=by
  rintro o rfl
  exact ⟨World.grownBy_alloc w _ (some g),⟨(Below.heap_alloc w _ g hs.lt).trans hs.at',hs.len⟩,heap_alloc_new w _,hs.lt⟩
 clear hs hp hS hv h0 h1 ht hf
 have HE:=Lib.hid (And.intro h2 (And.intro h3 hi))
 have hN:∀ (cs:List Value) (W:World),SetInv w g [.string a.name,.int .i64 a.kind,.int .u32 (a.f:Int),.int .i64 a.i,.string a.s,.int .i64 a.t.type,.slice A1 a.t.dims.length k1,.slice A2 a.t.f.length k2,.slice A3 a.t.i.length k3,.slice A4 a.t.b.length k4,.slice A5 a.floats.length k5,.slice A6 a.ints.length k6] cs W→Calls Tryd.prog 76 #[.slice A6 a.ints.length k6] W fun e w'=>∃ A' c',e = .returned (.slice A' a.ints.length c')∧rep w' (fresh W.heap.size w'.heap.size) [.slice A' a.ints.length c'] a.ints∧Below W.heap.size W w':=fun cs W h =>
  (ints_new a.ints _ W (Rep.more (Rep.keep HE.out.2.2 (.of_block fun k hk=>h.grown.block k (by have:=h.lt;have:k < N0:=hk;omega) (fun e=>by injection e with e;have:k < N0:=hk;omega))) (old_le (by have:=h.lt;have:=h.grown.size;omega)))).mono fun _ _ h=>sliced h
 have HN:=Lib.hid hN
 clear hN
 clear h2 h3 h4 hi hr
 go_enter Tryd.func41,Tryd.ntmps41
 go_wp2_with fail
 have hI:=hinv _ rfl
 clear hinv
 generalize w.alloc _ = W0 at hI ⊢
 have c0:W0.cell? ⟨w.heap.size,0,none⟩ = some (.string a.name):=cell_of_row _ _ _ _ _ _ hI.att
 have c4:W0.cell? ⟨w.heap.size,4,none⟩ = some (.string a.s):=cell_of_row _ _ _ _ _ _ hI.att
 have HI:=Lib.hid hI
 clear hI
 refine (HS.out _).mono ?_
 rintro e w1 ⟨rfl,rfl⟩
 go_wp2_with fail
 refine (modeOf_any op a.name a.s _).mono ?_
 rintro e w2 ⟨rfl,hb2⟩
 have hm:=modeOfD_I64 op a.name a.s
 generalize (modeOfD op a.name a.s).getD 0 = m at hm HV ⊢
 have HM:=Lib.hid (And.intro hm hm)
 clear hm
 have HI2:=Lib.hid (HI.out.next hb2)
 clear HI hb2 c0 c4
 have c0:w2.cell? ⟨w.heap.size,0,none⟩ = some (.string a.name):=cell_of_row _ _ _ _ _ _ HI2.out.att
 have c2:w2.cell? ⟨w.heap.size,2,none⟩ = some (.int .u32 (a.f:Int)):=cell_of_row _ _ _ _ _ _ HI2.out.att
 have c3:w2.cell? ⟨w.heap.size,3,none⟩ = some (.int .i64 a.i):=cell_of_row _ _ _ _ _ _ HI2.out.att
 have hne:w.heap.size ≠ g:=by have:=HI2.out.lt;omega
 obtain ⟨o,co⟩:=HI2.out.sets.cell 11 (by decide)
 have fo:w2.frozen? ⟨g,11,none⟩ = false:=HI2.out.sets.free 11
 go_wp2_with fail
 rw [HI2.out.sets.set1 11 _]
 have HI3:=Lib.hid (HI2.out.row (cs.set 11 (.int .u32 (a.f:Int))) (by rw [List.length_set];exact HI2.out.sets.len))
 have HD3:=Lib.hid (fun (W:World) (Z:Zone) (s:SettingD) (h:SettingDAt W Z cs s)=>h.set11 (v:=.int .u32 (a.f:Int)) (x:=a.f) ⟨rfl,HE.out.1⟩)
 refine (set_flag_any g a.name (a.i == 1) _ _ HI3.out.sets).mono ?_
 rintro e w4' ⟨rfl,cs4,rfl,hl4,hD4⟩
 have HI4:=Lib.hid (HI3.out.row cs4 hl4)
 generalize World.setRow _ g cs4.toArray = w4 at HI4 ⊢
 have HD4:=Lib.hid hD4
 clear hD4 hl4 c0 c2 c3 HI2 HI3
 have c0:w4.cell? ⟨w.heap.size,0,none⟩ = some (.string a.name):=cell_of_row _ _ _ _ _ _ HI4.out.att
 have c11:w4.cell? ⟨w.heap.size,11,none⟩ = some (.slice A6 a.ints.length k6):=cell_of_row _ _ _ _ _ _ HI4.out.att
 go_wp2_with fail
 go_region_held3 (fun w'=>w'.cell? ⟨w.heap.size,0,none⟩ = some (.string a.name)∧w'.cell? ⟨w.heap.size,11,none⟩ = some (.slice A6 a.ints.length k6))
  (first | go_keep)
  (first
   |(go_at_call 76;refine (HN.out _ _ HI4.out.drew).mono ?_;rintro e w5 ⟨A',k',rfl,hv5,hb5⟩;have HI5:=Lib.hid (HI4.out.drew.next hb5);have c05:w5.cell? ⟨w.heap.size,0,none⟩ = some (.string a.name):=cell_of_row _ _ _ _ _ _ HI5.out.att;have c115:w5.cell? ⟨w.heap.size,11,none⟩ = some (.slice A6 a.ints.length k6):=cell_of_row _ _ _ _ _ _ HI5.out.att;have HR5:=Lib.hid hv5;clear hv5 hb5)
   |(go_at_call 75;refine (set_list_any g a.name A' k' a.ints cs4 w5 HI5.out.sets).mono ?_;rintro e w6' ⟨rfl,cs6,rfl,hl6,hD6⟩;have HI6:=Lib.hid (HI5.out.row cs6 hl6);have HD6:=Lib.hid (And.intro hD6 hl6);clear hD6 hl6;have c06:(w5.setRow g cs6.toArray).cell? ⟨w.heap.size,0,none⟩ = some (.string a.name):=cell_of_row _ _ _ _ _ _ HI6.out.att;have c116:(w5.setRow g cs6.toArray).cell? ⟨w.heap.size,11,none⟩ = some (.slice A6 a.ints.length k6):=cell_of_row _ _ _ _ _ _ HI6.out.att))
 all_goals
  clear c05 c115 c06 c116 c0 c11
  generalize hw6:w5.setRow g cs6.toArray = w6 at HI6 ⊢
  have H6:=Lib.hid hw6
  clear hw6
  have c0:w6.cell? ⟨w.heap.size,0,none⟩ = some (.string a.name):=cell_of_row _ _ _ _ _ _ HI6.out.att
  have c3:w6.cell? ⟨w.heap.size,3,none⟩ = some (.int .i64 a.i):=cell_of_row _ _ _ _ _ _ HI6.out.att
  go_wp2_with fail
  refine (set_number_any g a.name a.i cs6 w6 HI6.out.sets).mono ?_
  rintro e w7' ⟨rfl,cs7,rfl,hl7,hD7⟩
  have HI7:=Lib.hid (HI6.out.row cs7 hl7)
  have HD7:=Lib.hid hD7
  clear hD7 hl7 c0 c3
  go_wp2
  refine bodyPost_end (v:=.tuple #[]) (by simp [results,Tryd.results41,go_sem]) rfl ⟨rfl,_,HI7.out.sets,HI7.out.grown,fun N s hN hs=>?_⟩
  rw [HV.out]
  refine HD7.out _ _ _ (HD6.out.1 _ _ _ (HD4.out _ _ _ (HD3.out _ _ _ (hs.carry HI7.out.grown))) ?_) HE.out.2.1
  have hw6:=H6.out
  subst hw6
  rw [size_setRow,size_setRow]
  have hlt:=HI4.out.lt
  have hsz:=HI4.out.grown.size
  exact Rep.more (Rep.keep (Rep.keep HR5.out (.of_block fun k hk=>heap_setRow_other _ _ _ _ (by have:=hk.1;simp at this;omega))) (.of_block fun k hk=>heap_setRow_other _ _ _ _ (by have:=hk.1;simp at this;omega))) (fresh_freshBut (by simp;omega) (Nat.le_refl _) (by simp;omega))
set_option maxRecDepth 100000 in
set_option maxHeartbeats 4000000 in
theorem set_mode (op:Int) (g:Nat) (a:AttrD) (acs cs:List Value) (w:World) (N0:Nat) (hN0:N0 ≤ g) (hr:rep w (old N0) acs a) (hs:Sets w g cs)
  (hp:Lib.hasPrefix a.name.data.toList sValue = false) (e0:(a.name.toList == ([97,108,112,104,97]:List UInt8)) = false) (e1:(a.name.toList == ([98,101,116,97]:List UInt8)) = false) (e2:(a.name.toList == ([101,112,115,105,108,111,110]:List UInt8)) = false) (e3:(a.name.toList == ([109,111,100,101]:List UInt8)) = true) :
  Calls Tryd.prog 41 #[.int .i64 op,.pointer (some ⟨g,0,none⟩),.agg acs.toArray] w fun e w'=>e = .returned (.tuple #[])∧∃ cs':List Value,Sets w' g cs'∧w.grownBy w' (some g) ∧
   ∀ (N:Nat) (s:SettingD),N ≤ g→SettingDAt w (freshBut N w.heap.size g) cs s→SettingDAt w' (freshBut N w'.heap.size g) cs' (setD op a s):=by
 obtain ⟨A1,k1,A2,k2,A3,k3,A4,k4,A5,k5,A6,k6,rfl,h0,h1,h2,h3,h4,ht,hf,hi⟩:=open_AttrD hr
 have hS:∀ W:World,Calls Tryd.prog 72 #[.string a.name,.string ⟨#[118,97,108,117,101]⟩] W fun e w'=>e = .returned (.bool false)∧W = w':=fun W =>
  (Tryd.strings_HasPrefix a.name ⟨#[118,97,108,117,101]⟩ W).mono fun e w' ⟨he,hw⟩=>⟨by rw [he];exact congrArg (fun b=>Ending.returned (Value.bool b)) hp,hw.symm⟩
 have HS:=Lib.hid hS
 have hv:∀ s,setD op a s = numD a.name a.i (listD a.name a.ints (flagD a.name (a.i == 1) ({ s with mode:=(modeOfD op a.name a.s).getD 0 }))):=fun s=>by unfold setD;rw [hp];simp only [Bool.false_eq_true,↓reduceIte,scalarD,e0,e1,e2,e3]
 have HV:=Lib.hid hv
 have HG:=Lib.hid hs
 have hinv:∀ o:Obj,o = .cells [.string a.name,.int .i64 a.kind,.int .u32 (a.f:Int),.int .i64 a.i,.string a.s,.int .i64 a.t.type,.slice A1 a.t.dims.length k1,.slice A2 a.t.f.length k2,.slice A3 a.t.i.length k3,.slice A4 a.t.b.length k4,.slice A5 a.floats.length k5,.slice A6 a.ints.length k6].toArray 52 (0,0)→SetInv w g [.string a.name,.int .i64 a.kind,.int .u32 (a.f:Int),.int .i64 a.i,.string a.s,.int .i64 a.t.type,.slice A1 a.t.dims.length k1,.slice A2 a.t.f.length k2,.slice A3 a.t.i.length k3,.slice A4 a.t.b.length k4,.slice A5 a.floats.length k5,.slice A6 a.ints.length k6] cs (w.alloc o):=by
  rintro o rfl
  exact ⟨World.grownBy_alloc w _ (some g),⟨(Below.heap_alloc w _ g hs.lt).trans hs.at',hs.len⟩,heap_alloc_new w _,hs.lt⟩
 clear hs hp hS hv h0 h1 ht hf
 have HE:=Lib.hid (And.intro h2 (And.intro h3 hi))
 have hN:∀ (cs:List Value) (W:World),SetInv w g [.string a.name,.int .i64 a.kind,.int .u32 (a.f:Int),.int .i64 a.i,.string a.s,.int .i64 a.t.type,.slice A1 a.t.dims.length k1,.slice A2 a.t.f.length k2,.slice A3 a.t.i.length k3,.slice A4 a.t.b.length k4,.slice A5 a.floats.length k5,.slice A6 a.ints.length k6] cs W→Calls Tryd.prog 76 #[.slice A6 a.ints.length k6] W fun e w'=>∃ A' c',e = .returned (.slice A' a.ints.length c')∧rep w' (fresh W.heap.size w'.heap.size) [.slice A' a.ints.length c'] a.ints∧Below W.heap.size W w':=fun cs W h =>
  (ints_new a.ints _ W (Rep.more (Rep.keep HE.out.2.2 (.of_block fun k hk=>h.grown.block k (by have:=h.lt;have:k < N0:=hk;omega) (fun e=>by injection e with e;have:k < N0:=hk;omega))) (old_le (by have:=h.lt;have:=h.grown.size;omega)))).mono fun _ _ h=>sliced h
 have HN:=Lib.hid hN
 clear hN
 clear h2 h3 h4 hi hr
 go_enter Tryd.func41,Tryd.ntmps41
 go_wp2_with fail
 have hI:=hinv _ rfl
 clear hinv
 generalize w.alloc _ = W0 at hI ⊢
 have c0:W0.cell? ⟨w.heap.size,0,none⟩ = some (.string a.name):=cell_of_row _ _ _ _ _ _ hI.att
 have c4:W0.cell? ⟨w.heap.size,4,none⟩ = some (.string a.s):=cell_of_row _ _ _ _ _ _ hI.att
 have HI:=Lib.hid hI
 clear hI
 refine (HS.out _).mono ?_
 rintro e w1 ⟨rfl,rfl⟩
 go_wp2_with fail
 refine (modeOf_any op a.name a.s _).mono ?_
 rintro e w2 ⟨rfl,hb2⟩
 have hm:=modeOfD_I64 op a.name a.s
 generalize (modeOfD op a.name a.s).getD 0 = m at hm HV ⊢
 have HM:=Lib.hid (And.intro hm hm)
 clear hm
 have HI2:=Lib.hid (HI.out.next hb2)
 clear HI hb2 c0 c4
 have c0:w2.cell? ⟨w.heap.size,0,none⟩ = some (.string a.name):=cell_of_row _ _ _ _ _ _ HI2.out.att
 have c2:w2.cell? ⟨w.heap.size,2,none⟩ = some (.int .u32 (a.f:Int)):=cell_of_row _ _ _ _ _ _ HI2.out.att
 have c3:w2.cell? ⟨w.heap.size,3,none⟩ = some (.int .i64 a.i):=cell_of_row _ _ _ _ _ _ HI2.out.att
 have hne:w.heap.size ≠ g:=by have:=HI2.out.lt;omega
 obtain ⟨o,co⟩:=HI2.out.sets.cell 16 (by decide)
 have fo:w2.frozen? ⟨g,16,none⟩ = false:=HI2.out.sets.free 16
 go_wp2_with fail
 rw [HI2.out.sets.set1 16 _]
 have HI3:=Lib.hid (HI2.out.row (cs.set 16 (.int .i64 m)) (by rw [List.length_set];exact HI2.out.sets.len))
 have HD3:=Lib.hid (fun (W:World) (Z:Zone) (s:SettingD) (h:SettingDAt W Z cs s)=>h.set16 (v:=.int .i64 m) (x:=m) ⟨rfl,HM.out.2⟩)
 refine (set_flag_any g a.name (a.i == 1) _ _ HI3.out.sets).mono ?_
 rintro e w4' ⟨rfl,cs4,rfl,hl4,hD4⟩
 have HI4:=Lib.hid (HI3.out.row cs4 hl4)
 generalize World.setRow _ g cs4.toArray = w4 at HI4 ⊢
 have HD4:=Lib.hid hD4
 clear hD4 hl4 c0 c2 c3 HI2 HI3
 have c0:w4.cell? ⟨w.heap.size,0,none⟩ = some (.string a.name):=cell_of_row _ _ _ _ _ _ HI4.out.att
 have c11:w4.cell? ⟨w.heap.size,11,none⟩ = some (.slice A6 a.ints.length k6):=cell_of_row _ _ _ _ _ _ HI4.out.att
 go_wp2_with fail
 go_region_held3 (fun w'=>w'.cell? ⟨w.heap.size,0,none⟩ = some (.string a.name)∧w'.cell? ⟨w.heap.size,11,none⟩ = some (.slice A6 a.ints.length k6))
  (first | go_keep)
  (first
   |(go_at_call 76;refine (HN.out _ _ HI4.out.drew).mono ?_;rintro e w5 ⟨A',k',rfl,hv5,hb5⟩;have HI5:=Lib.hid (HI4.out.drew.next hb5);have c05:w5.cell? ⟨w.heap.size,0,none⟩ = some (.string a.name):=cell_of_row _ _ _ _ _ _ HI5.out.att;have c115:w5.cell? ⟨w.heap.size,11,none⟩ = some (.slice A6 a.ints.length k6):=cell_of_row _ _ _ _ _ _ HI5.out.att;have HR5:=Lib.hid hv5;clear hv5 hb5)
   |(go_at_call 75;refine (set_list_any g a.name A' k' a.ints cs4 w5 HI5.out.sets).mono ?_;rintro e w6' ⟨rfl,cs6,rfl,hl6,hD6⟩;have HI6:=Lib.hid (HI5.out.row cs6 hl6);have HD6:=Lib.hid (And.intro hD6 hl6);clear hD6 hl6;have c06:(w5.setRow g cs6.toArray).cell? ⟨w.heap.size,0,none⟩ = some (.string a.name):=cell_of_row _ _ _ _ _ _ HI6.out.att;have c116:(w5.setRow g cs6.toArray).cell? ⟨w.heap.size,11,none⟩ = some (.slice A6 a.ints.length k6):=cell_of_row _ _ _ _ _ _ HI6.out.att))
 all_goals
  clear c05 c115 c06 c116 c0 c11
  generalize hw6:w5.setRow g cs6.toArray = w6 at HI6 ⊢
  have H6:=Lib.hid hw6
  clear hw6
  have c0:w6.cell? ⟨w.heap.size,0,none⟩ = some (.string a.name):=cell_of_row _ _ _ _ _ _ HI6.out.att
  have c3:w6.cell? ⟨w.heap.size,3,none⟩ = some (.int .i64 a.i):=cell_of_row _ _ _ _ _ _ HI6.out.att
  go_wp2_with fail
  refine (set_number_any g a.name a.i cs6 w6 HI6.out.sets).mono ?_
  rintro e w7' ⟨rfl,cs7,rfl,hl7,hD7⟩
  have HI7:=Lib.hid (HI6.out.row cs7 hl7)
  have HD7:=Lib.hid hD7
  clear hD7 hl7 c0 c3
  go_wp2
  refine bodyPost_end (v:=.tuple #[]) (by simp [results,Tryd.results41,go_sem]) rfl ⟨rfl,_,HI7.out.sets,HI7.out.grown,fun N s hN hs=>?_⟩
  rw [HV.out]
  refine HD7.out _ _ _ (HD6.out.1 _ _ _ (HD4.out _ _ _ (HD3.out _ _ _ (hs.carry HI7.out.grown))) ?_) HE.out.2.1
  have hw6:=H6.out
  subst hw6
  rw [size_setRow,size_setRow]
  have hlt:=HI4.out.lt
  have hsz:=HI4.out.grown.size
  exact Rep.more (Rep.keep (Rep.keep HR5.out (.of_block fun k hk=>heap_setRow_other _ _ _ _ (by have:=hk.1;simp at this;omega))) (.of_block fun k hk=>heap_setRow_other _ _ _ _ (by have:=hk.1;simp at this;omega))) (fresh_freshBut (by simp;omega) (Nat.le_refl _) (by simp;omega))
set_option maxRecDepth 100000 in
set_option maxHeartbeats 4000000 in
theorem set_reduction (op:Int) (g:Nat) (a:AttrD) (acs cs:List Value) (w:World) (N0:Nat) (hN0:N0 ≤ g) (hr:rep w (old N0) acs a) (hs:Sets w g cs)
  (hp:Lib.hasPrefix a.name.data.toList sValue = false) (e0:(a.name.toList == ([97,108,112,104,97]:List UInt8)) = false) (e1:(a.name.toList == ([98,101,116,97]:List UInt8)) = false) (e2:(a.name.toList == ([101,112,115,105,108,111,110]:List UInt8)) = false) (e3:(a.name.toList == ([109,111,100,101]:List UInt8)) = false) (e4:(a.name.toList == ([114,101,100,117,99,116,105,111,110]:List UInt8)) = true) :
  Calls Tryd.prog 41 #[.int .i64 op,.pointer (some ⟨g,0,none⟩),.agg acs.toArray] w fun e w'=>e = .returned (.tuple #[])∧∃ cs':List Value,Sets w' g cs'∧w.grownBy w' (some g) ∧
   ∀ (N:Nat) (s:SettingD),N ≤ g→SettingDAt w (freshBut N w.heap.size g) cs s→SettingDAt w' (freshBut N w'.heap.size g) cs' (setD op a s):=by
 obtain ⟨A1,k1,A2,k2,A3,k3,A4,k4,A5,k5,A6,k6,rfl,h0,h1,h2,h3,h4,ht,hf,hi⟩:=open_AttrD hr
 have hS:∀ W:World,Calls Tryd.prog 72 #[.string a.name,.string ⟨#[118,97,108,117,101]⟩] W fun e w'=>e = .returned (.bool false)∧W = w':=fun W =>
  (Tryd.strings_HasPrefix a.name ⟨#[118,97,108,117,101]⟩ W).mono fun e w' ⟨he,hw⟩=>⟨by rw [he];exact congrArg (fun b=>Ending.returned (Value.bool b)) hp,hw.symm⟩
 have HS:=Lib.hid hS
 have hv:∀ s,setD op a s = numD a.name a.i (listD a.name a.ints (flagD a.name (a.i == 1) ({ s with mode:=(modeOfD op a.name a.s).getD 0 }))):=fun s=>by unfold setD;rw [hp];simp only [Bool.false_eq_true,↓reduceIte,scalarD,e0,e1,e2,e3,e4]
 have HV:=Lib.hid hv
 have HG:=Lib.hid hs
 have hinv:∀ o:Obj,o = .cells [.string a.name,.int .i64 a.kind,.int .u32 (a.f:Int),.int .i64 a.i,.string a.s,.int .i64 a.t.type,.slice A1 a.t.dims.length k1,.slice A2 a.t.f.length k2,.slice A3 a.t.i.length k3,.slice A4 a.t.b.length k4,.slice A5 a.floats.length k5,.slice A6 a.ints.length k6].toArray 52 (0,0)→SetInv w g [.string a.name,.int .i64 a.kind,.int .u32 (a.f:Int),.int .i64 a.i,.string a.s,.int .i64 a.t.type,.slice A1 a.t.dims.length k1,.slice A2 a.t.f.length k2,.slice A3 a.t.i.length k3,.slice A4 a.t.b.length k4,.slice A5 a.floats.length k5,.slice A6 a.ints.length k6] cs (w.alloc o):=by
  rintro o rfl
  exact ⟨World.grownBy_alloc w _ (some g),⟨(Below.heap_alloc w _ g hs.lt).trans hs.at',hs.len⟩,heap_alloc_new w _,hs.lt⟩
 clear hs hp hS hv h0 h1 ht hf
 have HE:=Lib.hid (And.intro h2 (And.intro h3 hi))
 have hN:∀ (cs:List Value) (W:World),SetInv w g [.string a.name,.int .i64 a.kind,.int .u32 (a.f:Int),.int .i64 a.i,.string a.s,.int .i64 a.t.type,.slice A1 a.t.dims.length k1,.slice A2 a.t.f.length k2,.slice A3 a.t.i.length k3,.slice A4 a.t.b.length k4,.slice A5 a.floats.length k5,.slice A6 a.ints.length k6] cs W→Calls Tryd.prog 76 #[.slice A6 a.ints.length k6] W fun e w'=>∃ A' c',e = .returned (.slice A' a.ints.length c')∧rep w' (fresh W.heap.size w'.heap.size) [.slice A' a.ints.length c'] a.ints∧Below W.heap.size W w':=fun cs W h =>
  (ints_new a.ints _ W (Rep.more (Rep.keep HE.out.2.2 (.of_block fun k hk=>h.grown.block k (by have:=h.lt;have:k < N0:=hk;omega) (fun e=>by injection e with e;have:k < N0:=hk;omega))) (old_le (by have:=h.lt;have:=h.grown.size;omega)))).mono fun _ _ h=>sliced h
 have HN:=Lib.hid hN
 clear hN
 clear h2 h3 h4 hi hr
 go_enter Tryd.func41,Tryd.ntmps41
 go_wp2_with fail
 have hI:=hinv _ rfl
 clear hinv
 generalize w.alloc _ = W0 at hI ⊢
 have c0:W0.cell? ⟨w.heap.size,0,none⟩ = some (.string a.name):=cell_of_row _ _ _ _ _ _ hI.att
 have c4:W0.cell? ⟨w.heap.size,4,none⟩ = some (.string a.s):=cell_of_row _ _ _ _ _ _ hI.att
 have HI:=Lib.hid hI
 clear hI
 refine (HS.out _).mono ?_
 rintro e w1 ⟨rfl,rfl⟩
 go_wp2_with fail
 refine (modeOf_any op a.name a.s _).mono ?_
 rintro e w2 ⟨rfl,hb2⟩
 have hm:=modeOfD_I64 op a.name a.s
 generalize (modeOfD op a.name a.s).getD 0 = m at hm HV ⊢
 have HM:=Lib.hid (And.intro hm hm)
 clear hm
 have HI2:=Lib.hid (HI.out.next hb2)
 clear HI hb2 c0 c4
 have c0:w2.cell? ⟨w.heap.size,0,none⟩ = some (.string a.name):=cell_of_row _ _ _ _ _ _ HI2.out.att
 have c2:w2.cell? ⟨w.heap.size,2,none⟩ = some (.int .u32 (a.f:Int)):=cell_of_row _ _ _ _ _ _ HI2.out.att
 have c3:w2.cell? ⟨w.heap.size,3,none⟩ = some (.int .i64 a.i):=cell_of_row _ _ _ _ _ _ HI2.out.att
 have hne:w.heap.size ≠ g:=by have:=HI2.out.lt;omega
 obtain ⟨o,co⟩:=HI2.out.sets.cell 16 (by decide)
 have fo:w2.frozen? ⟨g,16,none⟩ = false:=HI2.out.sets.free 16
 go_wp2_with fail
 rw [HI2.out.sets.set1 16 _]
 have HI3:=Lib.hid (HI2.out.row (cs.set 16 (.int .i64 m)) (by rw [List.length_set];exact HI2.out.sets.len))
 have HD3:=Lib.hid (fun (W:World) (Z:Zone) (s:SettingD) (h:SettingDAt W Z cs s)=>h.set16 (v:=.int .i64 m) (x:=m) ⟨rfl,HM.out.2⟩)
 refine (set_flag_any g a.name (a.i == 1) _ _ HI3.out.sets).mono ?_
 rintro e w4' ⟨rfl,cs4,rfl,hl4,hD4⟩
 have HI4:=Lib.hid (HI3.out.row cs4 hl4)
 generalize World.setRow _ g cs4.toArray = w4 at HI4 ⊢
 have HD4:=Lib.hid hD4
 clear hD4 hl4 c0 c2 c3 HI2 HI3
 have c0:w4.cell? ⟨w.heap.size,0,none⟩ = some (.string a.name):=cell_of_row _ _ _ _ _ _ HI4.out.att
 have c11:w4.cell? ⟨w.heap.size,11,none⟩ = some (.slice A6 a.ints.length k6):=cell_of_row _ _ _ _ _ _ HI4.out.att
 go_wp2_with fail
 go_region_held3 (fun w'=>w'.cell? ⟨w.heap.size,0,none⟩ = some (.string a.name)∧w'.cell? ⟨w.heap.size,11,none⟩ = some (.slice A6 a.ints.length k6))
  (first | go_keep)
  (first
   |(go_at_call 76;refine (HN.out _ _ HI4.out.drew).mono ?_;rintro e w5 ⟨A',k',rfl,hv5,hb5⟩;have HI5:=Lib.hid (HI4.out.drew.next hb5);have c05:w5.cell? ⟨w.heap.size,0,none⟩ = some (.string a.name):=cell_of_row _ _ _ _ _ _ HI5.out.att;have c115:w5.cell? ⟨w.heap.size,11,none⟩ = some (.slice A6 a.ints.length k6):=cell_of_row _ _ _ _ _ _ HI5.out.att;have HR5:=Lib.hid hv5;clear hv5 hb5)
   |(go_at_call 75;refine (set_list_any g a.name A' k' a.ints cs4 w5 HI5.out.sets).mono ?_;rintro e w6' ⟨rfl,cs6,rfl,hl6,hD6⟩;have HI6:=Lib.hid (HI5.out.row cs6 hl6);have HD6:=Lib.hid (And.intro hD6 hl6);clear hD6 hl6;have c06:(w5.setRow g cs6.toArray).cell? ⟨w.heap.size,0,none⟩ = some (.string a.name):=cell_of_row _ _ _ _ _ _ HI6.out.att;have c116:(w5.setRow g cs6.toArray).cell? ⟨w.heap.size,11,none⟩ = some (.slice A6 a.ints.length k6):=cell_of_row _ _ _ _ _ _ HI6.out.att))
 all_goals
  clear c05 c115 c06 c116 c0 c11
  generalize hw6:w5.setRow g cs6.toArray = w6 at HI6 ⊢
  have H6:=Lib.hid hw6
  clear hw6
  have c0:w6.cell? ⟨w.heap.size,0,none⟩ = some (.string a.name):=cell_of_row _ _ _ _ _ _ HI6.out.att
  have c3:w6.cell? ⟨w.heap.size,3,none⟩ = some (.int .i64 a.i):=cell_of_row _ _ _ _ _ _ HI6.out.att
  go_wp2_with fail
  refine (set_number_any g a.name a.i cs6 w6 HI6.out.sets).mono ?_
  rintro e w7' ⟨rfl,cs7,rfl,hl7,hD7⟩
  have HI7:=Lib.hid (HI6.out.row cs7 hl7)
  have HD7:=Lib.hid hD7
  clear hD7 hl7 c0 c3
  go_wp2
  refine bodyPost_end (v:=.tuple #[]) (by simp [results,Tryd.results41,go_sem]) rfl ⟨rfl,_,HI7.out.sets,HI7.out.grown,fun N s hN hs=>?_⟩
  rw [HV.out]
  refine HD7.out _ _ _ (HD6.out.1 _ _ _ (HD4.out _ _ _ (HD3.out _ _ _ (hs.carry HI7.out.grown))) ?_) HE.out.2.1
  have hw6:=H6.out
  subst hw6
  rw [size_setRow,size_setRow]
  have hlt:=HI4.out.lt
  have hsz:=HI4.out.grown.size
  exact Rep.more (Rep.keep (Rep.keep HR5.out (.of_block fun k hk=>heap_setRow_other _ _ _ _ (by have:=hk.1;simp at this;omega))) (.of_block fun k hk=>heap_setRow_other _ _ _ _ (by have:=hk.1;simp at this;omega))) (fresh_freshBut (by simp;omega) (Nat.le_refl _) (by simp;omega))
set_option maxRecDepth 100000 in
set_option maxHeartbeats 4000000 in
theorem set_auto (op:Int) (g:Nat) (a:AttrD) (acs cs:List Value) (w:World) (N0:Nat) (hN0:N0 ≤ g) (hr:rep w (old N0) acs a) (hs:Sets w g cs)
  (hp:Lib.hasPrefix a.name.data.toList sValue = false) (e0:(a.name.toList == ([97,108,112,104,97]:List UInt8)) = false) (e1:(a.name.toList == ([98,101,116,97]:List UInt8)) = false) (e2:(a.name.toList == ([101,112,115,105,108,111,110]:List UInt8)) = false) (e3:(a.name.toList == ([109,111,100,101]:List UInt8)) = false) (e4:(a.name.toList == ([114,101,100,117,99,116,105,111,110]:List UInt8)) = false) (e5:(a.name.toList == ([97,117,116,111,95,112,97,100]:List UInt8)) = true) :
  Calls Tryd.prog 41 #[.int .i64 op,.pointer (some ⟨g,0,none⟩),.agg acs.toArray] w fun e w'=>e = .returned (.tuple #[])∧∃ cs':List Value,Sets w' g cs'∧w.grownBy w' (some g) ∧
   ∀ (N:Nat) (s:SettingD),N ≤ g→SettingDAt w (freshBut N w.heap.size g) cs s→SettingDAt w' (freshBut N w'.heap.size g) cs' (setD op a s):=by
 obtain ⟨A1,k1,A2,k2,A3,k3,A4,k4,A5,k5,A6,k6,rfl,h0,h1,h2,h3,h4,ht,hf,hi⟩:=open_AttrD hr
 have hS:∀ W:World,Calls Tryd.prog 72 #[.string a.name,.string ⟨#[118,97,108,117,101]⟩] W fun e w'=>e = .returned (.bool false)∧W = w':=fun W =>
  (Tryd.strings_HasPrefix a.name ⟨#[118,97,108,117,101]⟩ W).mono fun e w' ⟨he,hw⟩=>⟨by rw [he];exact congrArg (fun b=>Ending.returned (Value.bool b)) hp,hw.symm⟩
 have HS:=Lib.hid hS
 have hv:∀ s,setD op a s = numD a.name a.i (listD a.name a.ints (flagD a.name (a.i == 1) ({ s with auto:=(modeOfD op a.name a.s).getD 0 }))):=fun s=>by unfold setD;rw [hp];simp only [Bool.false_eq_true,↓reduceIte,scalarD,e0,e1,e2,e3,e4,e5]
 have HV:=Lib.hid hv
 have HG:=Lib.hid hs
 have hinv:∀ o:Obj,o = .cells [.string a.name,.int .i64 a.kind,.int .u32 (a.f:Int),.int .i64 a.i,.string a.s,.int .i64 a.t.type,.slice A1 a.t.dims.length k1,.slice A2 a.t.f.length k2,.slice A3 a.t.i.length k3,.slice A4 a.t.b.length k4,.slice A5 a.floats.length k5,.slice A6 a.ints.length k6].toArray 52 (0,0)→SetInv w g [.string a.name,.int .i64 a.kind,.int .u32 (a.f:Int),.int .i64 a.i,.string a.s,.int .i64 a.t.type,.slice A1 a.t.dims.length k1,.slice A2 a.t.f.length k2,.slice A3 a.t.i.length k3,.slice A4 a.t.b.length k4,.slice A5 a.floats.length k5,.slice A6 a.ints.length k6] cs (w.alloc o):=by
  rintro o rfl
  exact ⟨World.grownBy_alloc w _ (some g),⟨(Below.heap_alloc w _ g hs.lt).trans hs.at',hs.len⟩,heap_alloc_new w _,hs.lt⟩
 clear hs hp hS hv h0 h1 ht hf
 have HE:=Lib.hid (And.intro h2 (And.intro h3 hi))
 have hN:∀ (cs:List Value) (W:World),SetInv w g [.string a.name,.int .i64 a.kind,.int .u32 (a.f:Int),.int .i64 a.i,.string a.s,.int .i64 a.t.type,.slice A1 a.t.dims.length k1,.slice A2 a.t.f.length k2,.slice A3 a.t.i.length k3,.slice A4 a.t.b.length k4,.slice A5 a.floats.length k5,.slice A6 a.ints.length k6] cs W→Calls Tryd.prog 76 #[.slice A6 a.ints.length k6] W fun e w'=>∃ A' c',e = .returned (.slice A' a.ints.length c')∧rep w' (fresh W.heap.size w'.heap.size) [.slice A' a.ints.length c'] a.ints∧Below W.heap.size W w':=fun cs W h =>
  (ints_new a.ints _ W (Rep.more (Rep.keep HE.out.2.2 (.of_block fun k hk=>h.grown.block k (by have:=h.lt;have:k < N0:=hk;omega) (fun e=>by injection e with e;have:k < N0:=hk;omega))) (old_le (by have:=h.lt;have:=h.grown.size;omega)))).mono fun _ _ h=>sliced h
 have HN:=Lib.hid hN
 clear hN
 clear h2 h3 h4 hi hr
 go_enter Tryd.func41,Tryd.ntmps41
 go_wp2_with fail
 have hI:=hinv _ rfl
 clear hinv
 generalize w.alloc _ = W0 at hI ⊢
 have c0:W0.cell? ⟨w.heap.size,0,none⟩ = some (.string a.name):=cell_of_row _ _ _ _ _ _ hI.att
 have c4:W0.cell? ⟨w.heap.size,4,none⟩ = some (.string a.s):=cell_of_row _ _ _ _ _ _ hI.att
 have HI:=Lib.hid hI
 clear hI
 refine (HS.out _).mono ?_
 rintro e w1 ⟨rfl,rfl⟩
 go_wp2_with fail
 refine (modeOf_any op a.name a.s _).mono ?_
 rintro e w2 ⟨rfl,hb2⟩
 have hm:=modeOfD_I64 op a.name a.s
 generalize (modeOfD op a.name a.s).getD 0 = m at hm HV ⊢
 have HM:=Lib.hid (And.intro hm hm)
 clear hm
 have HI2:=Lib.hid (HI.out.next hb2)
 clear HI hb2 c0 c4
 have c0:w2.cell? ⟨w.heap.size,0,none⟩ = some (.string a.name):=cell_of_row _ _ _ _ _ _ HI2.out.att
 have c2:w2.cell? ⟨w.heap.size,2,none⟩ = some (.int .u32 (a.f:Int)):=cell_of_row _ _ _ _ _ _ HI2.out.att
 have c3:w2.cell? ⟨w.heap.size,3,none⟩ = some (.int .i64 a.i):=cell_of_row _ _ _ _ _ _ HI2.out.att
 have hne:w.heap.size ≠ g:=by have:=HI2.out.lt;omega
 obtain ⟨o,co⟩:=HI2.out.sets.cell 24 (by decide)
 have fo:w2.frozen? ⟨g,24,none⟩ = false:=HI2.out.sets.free 24
 go_wp2_with fail
 rw [HI2.out.sets.set1 24 _]
 have HI3:=Lib.hid (HI2.out.row (cs.set 24 (.int .i64 m)) (by rw [List.length_set];exact HI2.out.sets.len))
 have HD3:=Lib.hid (fun (W:World) (Z:Zone) (s:SettingD) (h:SettingDAt W Z cs s)=>h.set24 (v:=.int .i64 m) (x:=m) ⟨rfl,HM.out.2⟩)
 refine (set_flag_any g a.name (a.i == 1) _ _ HI3.out.sets).mono ?_
 rintro e w4' ⟨rfl,cs4,rfl,hl4,hD4⟩
 have HI4:=Lib.hid (HI3.out.row cs4 hl4)
 generalize World.setRow _ g cs4.toArray = w4 at HI4 ⊢
 have HD4:=Lib.hid hD4
 clear hD4 hl4 c0 c2 c3 HI2 HI3
 have c0:w4.cell? ⟨w.heap.size,0,none⟩ = some (.string a.name):=cell_of_row _ _ _ _ _ _ HI4.out.att
 have c11:w4.cell? ⟨w.heap.size,11,none⟩ = some (.slice A6 a.ints.length k6):=cell_of_row _ _ _ _ _ _ HI4.out.att
 go_wp2_with fail
 go_region_held3 (fun w'=>w'.cell? ⟨w.heap.size,0,none⟩ = some (.string a.name)∧w'.cell? ⟨w.heap.size,11,none⟩ = some (.slice A6 a.ints.length k6))
  (first | go_keep)
  (first
   |(go_at_call 76;refine (HN.out _ _ HI4.out.drew).mono ?_;rintro e w5 ⟨A',k',rfl,hv5,hb5⟩;have HI5:=Lib.hid (HI4.out.drew.next hb5);have c05:w5.cell? ⟨w.heap.size,0,none⟩ = some (.string a.name):=cell_of_row _ _ _ _ _ _ HI5.out.att;have c115:w5.cell? ⟨w.heap.size,11,none⟩ = some (.slice A6 a.ints.length k6):=cell_of_row _ _ _ _ _ _ HI5.out.att;have HR5:=Lib.hid hv5;clear hv5 hb5)
   |(go_at_call 75;refine (set_list_any g a.name A' k' a.ints cs4 w5 HI5.out.sets).mono ?_;rintro e w6' ⟨rfl,cs6,rfl,hl6,hD6⟩;have HI6:=Lib.hid (HI5.out.row cs6 hl6);have HD6:=Lib.hid (And.intro hD6 hl6);clear hD6 hl6;have c06:(w5.setRow g cs6.toArray).cell? ⟨w.heap.size,0,none⟩ = some (.string a.name):=cell_of_row _ _ _ _ _ _ HI6.out.att;have c116:(w5.setRow g cs6.toArray).cell? ⟨w.heap.size,11,none⟩ = some (.slice A6 a.ints.length k6):=cell_of_row _ _ _ _ _ _ HI6.out.att))
 all_goals
  clear c05 c115 c06 c116 c0 c11
  generalize hw6:w5.setRow g cs6.toArray = w6 at HI6 ⊢
  have H6:=Lib.hid hw6
  clear hw6
  have c0:w6.cell? ⟨w.heap.size,0,none⟩ = some (.string a.name):=cell_of_row _ _ _ _ _ _ HI6.out.att
  have c3:w6.cell? ⟨w.heap.size,3,none⟩ = some (.int .i64 a.i):=cell_of_row _ _ _ _ _ _ HI6.out.att
  go_wp2_with fail
  refine (set_number_any g a.name a.i cs6 w6 HI6.out.sets).mono ?_
  rintro e w7' ⟨rfl,cs7,rfl,hl7,hD7⟩
  have HI7:=Lib.hid (HI6.out.row cs7 hl7)
  have HD7:=Lib.hid hD7
  clear hD7 hl7 c0 c3
  go_wp2
  refine bodyPost_end (v:=.tuple #[]) (by simp [results,Tryd.results41,go_sem]) rfl ⟨rfl,_,HI7.out.sets,HI7.out.grown,fun N s hN hs=>?_⟩
  rw [HV.out]
  refine HD7.out _ _ _ (HD6.out.1 _ _ _ (HD4.out _ _ _ (HD3.out _ _ _ (hs.carry HI7.out.grown))) ?_) HE.out.2.1
  have hw6:=H6.out
  subst hw6
  rw [size_setRow,size_setRow]
  have hlt:=HI4.out.lt
  have hsz:=HI4.out.grown.size
  exact Rep.more (Rep.keep (Rep.keep HR5.out (.of_block fun k hk=>heap_setRow_other _ _ _ _ (by have:=hk.1;simp at this;omega))) (.of_block fun k hk=>heap_setRow_other _ _ _ _ (by have:=hk.1;simp at this;omega))) (fresh_freshBut (by simp;omega) (Nat.le_refl _) (by simp;omega))
theorem set_any (op:Int) (g:Nat) (a:AttrD) (acs cs:List Value) (w:World) (N0:Nat) (hN0:N0 ≤ g) (hr:rep w (old N0) acs a) (hs:Sets w g cs) :
  Calls Tryd.prog 41 #[.int .i64 op,.pointer (some ⟨g,0,none⟩),.agg acs.toArray] w fun e w'=>e = .returned (.tuple #[])∧∃ cs':List Value,Sets w' g cs'∧w.grownBy w' (some g) ∧
   ∀ (N:Nat) (s:SettingD),N ≤ g→SettingDAt w (freshBut N w.heap.size g) cs s→SettingDAt w' (freshBut N w'.heap.size g) cs' (setD op a s):=by
 cases hp:Lib.hasPrefix a.name.data.toList sValue with
 | true=>exact set_value op g a acs cs w N0 hN0 hr hs hp
 | false =>
  cases e0:(a.name.toList == ([97,108,112,104,97]:List UInt8)) with
  | true=>exact set_alpha op g a acs cs w N0 hN0 hr hs hp e0
  | false =>
   cases e1:(a.name.toList == ([98,101,116,97]:List UInt8)) with
   | true=>exact set_beta op g a acs cs w N0 hN0 hr hs hp e0 e1
   | false =>
    cases e2:(a.name.toList == ([101,112,115,105,108,111,110]:List UInt8)) with
    | true=>exact set_epsilon op g a acs cs w N0 hN0 hr hs hp e0 e1 e2
    | false =>
     cases e3:(a.name.toList == ([109,111,100,101]:List UInt8)) with
     | true=>exact set_mode op g a acs cs w N0 hN0 hr hs hp e0 e1 e2 e3
     | false =>
      cases e4:(a.name.toList == ([114,101,100,117,99,116,105,111,110]:List UInt8)) with
      | true=>exact set_reduction op g a acs cs w N0 hN0 hr hs hp e0 e1 e2 e3 e4
      | false =>
       cases e5:(a.name.toList == ([97,117,116,111,95,112,97,100]:List UInt8)) with
       | true=>exact set_auto op g a acs cs w N0 hN0 hr hs hp e0 e1 e2 e3 e4 e5
       | false =>
        exact set_none op g a acs cs w N0 hN0 hr hs hp e0 e1 e2 e3 e4 e5
end Go.Proofs.YtgbkhcmbmffljaaDoor
