/-
  A part of the proofs of chapter 08: walks of the package ops. No condition.
-/
import Derived.Test.YtgbkhcmbmffljaaDoorPOpsP
set_option linter.unusedSimpArgs false
namespace Go.Proofs.YtgbkhcmbmffljaaDoor
open Go.RowKit
open Rep (rep)
def zeroS:List Value:=[.int .i64 0,.slice none 0 0,.bool false,.bool false,.bool false,.bool false,.bool false,.slice none 0 0,.bool false,.int .u32 0,.int .u32 0,.int .u32 0,.bool false,.bool false,.bool false,.int .i64 0,.int .i64 0,.bool false,.bool false,.int .i64 0,.slice none 0 0,.slice none 0 0,.slice none 0 0,.slice none 0 0,.int .i64 0,.bool false,.bool false,.int .i64 0,.int .i64 0,.int .i64 0,.bool false,.int .i64 0,.slice none 0 0,.slice none 0 0,.slice none 0 0,.slice none 0 0]
theorem zeroS_len:zeroS.length = 36:=rfl
theorem zeroS_one:∀ u ∈ zeroS,u.oneCell' = true:=by decide
theorem build_lay (n:Nat):laySem Tryd.prog (Instr.build 45 #[]) n = some (.agg zeroS.toArray,[]):=by kernel_rfl
theorem zeroS_build (w:World):(Instr.build 45 #[]).run Tryd.prog w = .ok (.agg zeroS.toArray) w:=run_lay _ rfl (build_lay _)
theorem zeroS_zero:(Tryd.prog.info? 45).bind (·.zero) = some (.agg zeroS.toArray):=by kernel_rfl
def settingD0:SettingD:=⟨0,[],false,false,false,false,false,[],false,0,0,0,false,false,false,0,0,false,false,0,[],[],[],[],0,false,false,0,0,0,false,⟨0,[],[],[],[]⟩⟩
theorem I64_0:I64 0:=by unfold I64;omega
theorem zeroS_rep (w:World) (Z:Zone):SettingDAt w Z zeroS settingD0:=by
 have i:∀ j:Nat,zeroS[j]? = some (.int .i64 0)→Fld w Z zeroS j (0:Int):=fun j h=>⟨_,h,rfl,I64_0⟩
 have u:∀ j:Nat,zeroS[j]? = some (.int .u32 0)→Fld w Z zeroS j (0:Nat):=fun j h=>⟨_,h,rfl,by decide⟩
 have b:∀ j:Nat,zeroS[j]? = some (.bool false)→Fld w Z zeroS j false:=fun j h=>⟨_,h,rfl⟩
 have l:∀ j:Nat,zeroS[j]? = some (.slice none 0 0)→Fld w Z zeroS j ([]:List Int):=fun j h=>⟨_,h,rep_nil _ _⟩
 exact ⟨rfl,i 0 rfl,l 1 rfl,b 2 rfl,b 3 rfl,b 4 rfl,b 5 rfl,b 6 rfl,l 7 rfl,b 8 rfl,u 9 rfl,u 10 rfl,u 11 rfl,b 12 rfl,b 13 rfl,b 14 rfl,i 15 rfl,i 16 rfl,b 17 rfl,b 18 rfl,i 19 rfl,l 20 rfl,l 21 rfl,l 22 rfl,l 23 rfl,i 24 rfl,b 25 rfl,b 26 rfl,i 27 rfl,i 28 rfl,i 29 rfl,b 30 rfl,
  shut_TensorD (a:=⟨0,[],[],[],[]⟩) I64_0 (rep_nil _ _) (rep_nil _ _) (rep_nil _ _) (rep_nil _ _)⟩
def leftD (op:Int):SettingD :=
 if op = 17 then { settingD0 with alpha:=1008981770 } else if op = 19 then { settingD0 with alpha:=1045220557,beta:=1056964608 }
 else if op = 74 then { settingD0 with beta:=1065353216,alpha:=1065353216 } else if op = 18 then { settingD0 with alpha:=1065353216 } else if op = 27 then { settingD0 with low:=true,high:=true }
 else if op = 53 then { settingD0 with mode:=1 } else if op = 63 then { settingD0 with mode:=6 } else if op = 58 then { settingD0 with axis:=1 } else if op = 62 then { settingD0 with value:=⟨1,[1],[0],[],[]⟩ }
 else if op = 65 ∨ op = 66 ∨ op = 67 ∨ op = 68 ∨ op = 69 ∨ op = 70 ∨ op = 71 then { settingD0 with keeps:=true } else if op = 75 then { settingD0 with group:=1 }
 else if op = 80 then { settingD0 with epsilon:=925353388,axis:=-1 } else if op = 72 then { settingD0 with axis:=-1 } else if op = 79 then { settingD0 with epsilon:=925353388 } else settingD0
section
variable {P:Program}
theorem wpList_build0 {ops:Array Oper} {rest:List Oper} {o:Oper} {a:Act} {w:World} {Q:Exit→Act→World→Prop} (hgd:o.guard = none) (ty:TypeId) (ho:o.op = .build ty #[])
  (cs:List Value) (hb:(Instr.build ty #[]).run P w = .ok (.agg cs.toArray) w)
  (h:wpList P ops Q rest (a.put o.dst (.agg cs.toArray)) w):wpList P ops Q (o :: rest) a w :=
 wpList_plain hgd fun _ hK=>by
  unfold Oper.wp execOp
  simp only [ho,List.map_toArray,List.map_nil,Sem.run_bind,Sem.run_pure,Result.andThen_ok,hb]
  exact hK _ _ h
end
structure LeftAt (w W:World):Prop where
 below:Below w.heap.size w W
 s0:Sets W w.heap.size zeroS
 s1:Sets W (w.heap.size + 1) zeroS
theorem LeftAt.alloc {w W:World} (h:LeftAt w W) (o:Obj):LeftAt w (W.alloc o):=⟨h.below.alloc h.below.size o,⟨(Below.heap_alloc _ _ _ h.s0.lt).trans h.s0.at',rfl⟩,⟨(Below.heap_alloc _ _ _ h.s1.lt).trans h.s1.at',rfl⟩⟩
theorem LeftAt.other {w W:World} (h:LeftAt w W) (cs:Array Value):(W.setRow (w.heap.size + 1) cs).heap[w.heap.size]? = some (.cells zeroS.toArray 45 (0,0)):=(heap_setRow_other _ _ _ _ (by omega)).trans h.s0.at'
theorem one_set {cs:List Value} (h:∀ u ∈ cs,u.oneCell' = true) (k:Nat) {v:Value} (hv:v.oneCell' = true):∀ u ∈ cs.set k v,u.oneCell' = true:=fun u hu=>by
 rcases List.mem_or_eq_of_mem_set hu with h1 | h1
 ·exact h u h1
 ·rw [h1];exact hv
theorem LeftAt.res {w W:World} (h:LeftAt w W) (cs:List Value) (hl:cs.length = 36):((W.setRow (w.heap.size + 1) cs.toArray).setRow w.heap.size (zeroS.take 0++cs++zeroS.drop (0 + cs.length)).toArray).heap[w.heap.size]? = some (.cells cs.toArray 45 (0,0)):=by
 have e:zeroS.take 0++cs++zeroS.drop (0 + cs.length) = cs:=by rw [List.take_zero,List.nil_append,Nat.zero_add,List.drop_of_length_le (by rw [hl,zeroS_len];exact Nat.le_refl _),List.append_nil]
 rw [e]
 exact heap_setRow _ _ _ _ _ (h.other _)
theorem LeftAt.end' {w W:World} (h:LeftAt w W) (a b:Array Value):Below w.heap.size w ((W.setRow (w.heap.size + 1) a).setRow w.heap.size b):=below_setRow' (below_setRow' h.below (by omega) _) (Nat.le_refl _) _
def Halt (p:Prop):Prop:=p
theorem halt {p:Prop} (h:Halt p):p:=h
theorem at_store {P:Program} {ops:Array Oper} {rest:List Oper} {o:Oper} {a:Act} {w:World} {Q:Exit→Act→World→Prop} (ty:TypeId) (x y:Operand) (_:o.op = .store ty x y) (h:wpList P ops Q (o :: rest) a w):wpList P ops Q (o :: rest) a w:=h
theorem left_at (w:World):LeftAt w (((w.alloc (.cells zeroS.toArray 45)).alloc (.cells zeroS.toArray 45)).setRow (w.heap.size + 1) (zeroS.take 0++zeroS++zeroS.drop (0 + zeroS.length)).toArray):=by
 have h0:=heap_alloc_new w (.cells zeroS.toArray 45)
 have h1:=heap_alloc_new (w.alloc (.cells zeroS.toArray 45)) (.cells zeroS.toArray 45)
 rw [World.size_alloc] at h1
 refine ⟨below_setRow' (((Below.refl _ _).alloc (Nat.le_refl _) _).alloc (by simp) _) (by omega) _,⟨?_,zeroS_len⟩,⟨heap_setRow _ _ _ _ _ h1,zeroS_len⟩⟩
 rw [heap_setRow_other _ _ _ _ (by omega),Below.heap_alloc _ _ _ (by simp)]
 exact h0
theorem left_at' (w:World):LeftAt w (((w.alloc (.cells zeroS.toArray 45)).alloc (.cells zeroS.toArray 45)).setRow (w.alloc (.cells zeroS.toArray 45)).heap.size (zeroS.take 0++zeroS++zeroS.drop (0 + zeroS.length)).toArray):=by
 have:=left_at w
 rw [World.size_alloc]
 exact this
end Go.Proofs.YtgbkhcmbmffljaaDoor
