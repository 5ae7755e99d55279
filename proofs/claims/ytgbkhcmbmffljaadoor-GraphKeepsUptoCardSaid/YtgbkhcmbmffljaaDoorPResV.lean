/-
  Where 'Resolve' stands: the node in its box, the answer's setting; the ways out with an error.
-/
/-
  'Resolve', the second loop: what one attribute of the operator does, as facts.
-/
import Derived.Test.YtgbkhcmbmffljaaDoorPResB
import Derived.Test.YtgbkhcmbmffljaaDoorPOpsB
import Derived.Test.YtgbkhcmbmffljaaDoorPAid
import Derived.Test.YtgbkhcmbmffljaaDoorPOpsK
import Derived.Test.YtgbkhcmbmffljaaDoorPOpsQ
set_option linter.unusedSimpArgs false
namespace Go.Proofs.YtgbkhcmbmffljaaDoor
open Go.RowKit
open Rep (rep)
structure ResInv (w:World) (cs:List Value) (W:World):Prop where
 below:Below w.heap.size w W
 node:W.heap[w.heap.size]? = some (.cells cs.toArray 36 (0,0))
 res:Sets W (w.heap.size + 1) zeroS
section
variable {w W W':World} {cs:List Value}
theorem ResInv.lt (h:ResInv w cs W):w.heap.size + 1 < W.heap.size:=h.res.lt
theorem ResInv.next (h:ResInv w cs W) (hb:Below W.heap.size W W'):ResInv w cs W' :=
 ⟨h.below.trans (hb.mono (by have:=h.lt;omega)),(hb.block _ (by have:=h.lt;omega)).trans h.node,h.res.below hb⟩
theorem ResInv.grown {r:Option Nat} (h:ResInv w cs W) (hg:W.grownBy W' r) (hr:∀ g,r = some g→w.heap.size + 2 ≤ g):ResInv w cs W':=by
 have hlt:=h.lt
 have hn:∀ k,k < w.heap.size + 2→some k ≠ r:=fun k hk e=>by have:=hr k e.symm;omega
 refine ⟨h.below.grown hg (by omega) (fun g e=>by have:=hr g e;omega),(hg.block _ (by omega) (hn _ (by omega))).trans h.node,⟨(hg.block _ hlt (hn _ (by omega))).trans h.res.at',h.res.len⟩⟩
theorem ResInv.alloc (h:ResInv w cs W) (o:Obj):ResInv w cs (W.alloc o):=h.next ((Below.refl _ _).alloc (Nat.le_refl _) o)
theorem ResInv.drew (h:ResInv w cs W):ResInv w cs W.drew:=⟨h.below.drew,h.node,⟨h.res.at',h.res.len⟩⟩
theorem ResInv.keeps (h:ResInv w cs W) {α:Type} [Rep α] {c:List Value} {a:α} (hr:rep w (old w.heap.size) c a):rep W (old w.heap.size) c a:=Rep.keep hr (Keeps.old_below h.below (Nat.le_refl _))
theorem ResInv.keeps' (h:ResInv w cs W) {α:Type} [Rep α] {c:List Value} {a:α} (hr:rep w (old w.heap.size) c a):rep W (old W.heap.size) c a:=Rep.more (h.keeps hr) (old_le (by have:=h.lt;omega))
theorem ResInv.at (h:ResInv w cs W):At W w.heap.size 0 cs:=At.of_row h.node
theorem res_start (w:World) (cs:List Value):ResInv w cs ((w.alloc (.cells cs.toArray 36)).alloc (.cells zeroS.toArray 45)):=by
 have h1:=heap_alloc_new (w.alloc (.cells cs.toArray 36)) (.cells zeroS.toArray 45)
 rw [World.size_alloc] at h1
 exact ⟨((Below.refl _ _).alloc (Nat.le_refl _) _).alloc (by simp) _,(Below.heap_alloc _ _ _ (by simp)).trans (heap_alloc_new _ _),⟨h1,rfl⟩⟩
theorem full_row (cs:List Value) (h:cs.length = 36):zeroS.take 0++cs++zeroS.drop (0 + cs.length) = cs:=by
 rw [List.take_zero,List.nil_append,Nat.zero_add,List.drop_of_length_le (by rw [h,zeroS_len];exact Nat.le_refl _),List.append_nil]
theorem ResInv.out (h:ResInv w cs W) (ss:List Value) (hl:ss.length = 36) :
  (W.setRow (w.heap.size + 1) (zeroS.take 0++ss++zeroS.drop (0 + ss.length)).toArray).heap[w.heap.size + 1]? = some (.cells ss.toArray 45 (0,0)) ∧
  Below w.heap.size w (W.setRow (w.heap.size + 1) (zeroS.take 0++ss++zeroS.drop (0 + ss.length)).toArray):=by
 rw [full_row ss hl]
 exact ⟨heap_setRow _ _ _ _ _ h.res.at',below_setRow' h.below (by omega) _⟩
end
theorem results_tct {P:Program} {fn:Func} {p q r:Tmp} {ty:TypeId} (h:fn.results = #[.tmp q,.cell p ty,.tmp r]) (tmps:Array Value) (w:World) (g:Nat) (t:TypeId) (cs:Array Value) (fr:Nat × Nat) (d:TypeDesc) (v1 v2:Value)
  (hq:tmps.getD q undef = v1) (hr:tmps.getD r undef = v2) (hp:tmps.getD p undef = .pointer (some ⟨g,0,none⟩)) (hg:w.heap[g]? = some (.cells cs t fr))
  (hu:P.underlying ty = some d) (hd:(match d with | .struct _ | .array _ _=>true | _=>false) = true) (hi:(P.info? ty).map (·.size) = some cs.size) :
  (results fn tmps).run P w = .ok (.tuple #[v1,.agg cs,v2]) w:=by
 have hp':tmps[p]?.getD undef = .pointer (some ⟨g,0,none⟩):=by simpa using hp
 have hq':tmps[q]?.getD undef = v1:=by simpa using hq
 have hr':tmps[r]?.getD undef = v2:=by simpa using hr
 simp [results,h,hp',hq',hr',asAddr,run_loadVar_row w g t ty cs fr d hg hu hd hi]
def AnswerD (w:World) (op:Int) (s:SettingD) (x:Int) (e:Ending) (w':World):Prop :=
 ∃ ss:List Value,e = .returned (.tuple #[.int .i64 op,.agg ss.toArray,.int .i64 x])∧SettingDAt w' (fresh w.heap.size w'.heap.size) ss s∧Below w.heap.size w w'
theorem number_bd (name:ByteArray):0 ≤ numberD name∧numberD name ≤ 80:=by
 have:=indexFrom_bd (fun r:RowD=>decide (r.name = name)) tableD 0
 rw [tableD_len] at this
 unfold numberD
 omega
theorem number_I64 (name:ByteArray):I64 (numberD name):=by have:=number_bd name;unfold I64;omega
theorem row_zero:(Tryd.prog.info? 79).bind (·.zero) = some (.agg noRow.cells.toArray):=by kernel_rfl
structure RowInv (w:World) (cs:List Value) (b:Nat) (r:RowD) (W:World):Prop where
 inv:ResInv w cs W
 row:W.heap[b]? = some (.cells r.cells.toArray 79 (0,0))
 ge:w.heap.size + 2 ≤ b
section
variable {w W W':World} {cs:List Value} {b:Nat} {r:RowD}
theorem RowInv.lt (h:RowInv w cs b r W):b < W.heap.size:=(Array.getElem?_eq_some_iff.1 h.row).1
theorem RowInv.next (h:RowInv w cs b r W) (hb:Below W.heap.size W W'):RowInv w cs b r W':=⟨h.inv.next hb,(hb.block _ h.lt).trans h.row,h.ge⟩
theorem RowInv.grown (h:RowInv w cs b r W) {q:Option Nat} (hg:W.grownBy W' q) (hr:∀ g,q = some g→b < g):RowInv w cs b r W' :=
 ⟨h.inv.grown hg (fun g e=>by have:=hr g e;have:=h.ge;omega),(hg.block _ h.lt (fun e=>by have:=hr b e.symm;omega)).trans h.row,h.ge⟩
theorem RowInv.alloc (h:RowInv w cs b r W) (o:Obj):RowInv w cs b r (W.alloc o):=h.next ((Below.refl _ _).alloc (Nat.le_refl _) o)
theorem RowInv.drew (h:RowInv w cs b r W):RowInv w cs b r W.drew:=⟨h.inv.drew,h.row,h.ge⟩
theorem res_row (h:ResInv w cs W) (r:RowD):RowInv w cs W.heap.size r ((W.alloc (.cells noRow.cells.toArray 79)).setRow W.heap.size (noRow.cells.take 0++r.cells++noRow.cells.drop (0 + r.cells.length)).toArray):=by
 have e:noRow.cells.take 0++r.cells++noRow.cells.drop (0 + r.cells.length) = r.cells:=by simp [RowD.cells]
 rw [e]
 exact ⟨h.next (below_setRow' ((Below.refl _ _).alloc (Nat.le_refl _) _) (Nat.le_refl _) _),heap_setRow _ _ _ _ _ (heap_alloc_new _ _),h.lt⟩
end
set_option maxRecDepth 100000 in
set_option maxHeartbeats 2000000 in
theorem resolve_0 (cs:List Value) (n:NodeD) (w:World) (hr:rep w (old w.heap.size) cs n) (h0:numberD n.op = 0) :
  Calls Tryd.prog 20 #[.agg cs.toArray] w (AnswerD w 0 settingD0 7):=by
 obtain ⟨A1,k1,A2,k2,A3,k3,rfl,g0,g1,hi,ho,ha⟩:=open_NodeD hr
 have HR:=Lib.hid h0
 clear hr hi ho ha g0 g1 h0
 go_enter Tryd.func20,Tryd.ntmps20
 go_wp2_with (first
  |(with_reducible refine wpList_alloc_row rfl 45 rfl zeroS zeroS_zero ?_;have hI:=res_start w [.string n.op,.string n.name,.slice A1 n.ins.length k1,.slice A2 n.outs.length k2,.slice A3 n.attrs.length k3];generalize World.alloc _ (.cells zeroS.toArray _) = W0 at hI ⊢;have HI:=Lib.hid hI;clear hI;have c0:W0.cell? ⟨w.heap.size,0,none⟩ = some (.string n.op):=cell_of_row _ _ _ _ _ _ HI.out.node))
 refine (number_any n.op _).mono ?_
 rw [HR.out]
 rintro e w1 ⟨rfl,hb⟩
 have HI1:=Lib.hid (HI.out.next hb)
 clear hb c0
 go_wp2_with (first
  |(with_reducible refine wpList_build0 rfl 45 rfl zeroS (zeroS_build _) ?_)
  |(with_reducible refine wpList_store_agg rfl 45 _ _ rfl (w.heap.size + 1) 0 zeroS rfl rfl 45 zeroS HI1.out.res.at' (by kernel_rfl) (by decide) zeroS_one ?_))
 obtain ⟨ho,hbo⟩:=HI1.out.out zeroS zeroS_len
 refine bodyPost_ret (results_tct rfl _ _ (w.heap.size + 1) 45 _ (0,0) _ (.int .i64 0) (.int .i64 7) rfl rfl rfl ho Tryd.underlying45 rfl (by kernel_rfl)) rfl ⟨_,rfl,zeroS_rep _ _,hbo⟩
set_option maxRecDepth 100000 in
set_option maxHeartbeats 2000000 in
theorem resolve_1 (cs:List Value) (n:NodeD) (w:World) (hr:rep w (old w.heap.size) cs n) (h0:numberD n.op ≠ 0) (h1:countsD (findD (numberD n.op)) n = false) :
  Calls Tryd.prog 20 #[.agg cs.toArray] w (AnswerD w 0 settingD0 1):=by
 have hrn:=hr
 obtain ⟨A1,k1,A2,k2,A3,k3,rfl,g0,g1,hi,ho,ha⟩:=open_NodeD hr
 have hI:=number_I64 n.op
 obtain ⟨op,hop⟩:∃ op,numberD n.op = op:=⟨_,rfl⟩
 rw [hop] at h0 h1 hI
 have hz:(findD op).cells = [.string (findD op).name,.int .i64 (findD op).least,.int .i64 (findD op).most,.int .i64 (findD op).out,.int .i64 (findD op).mostOuts,.string (findD op).attrs]:=rfl
 have hok:0 ≤ (findD op).least:=by have:=findD_ok op;unfold rowOk at this;simp only [Bool.and_eq_true,decide_eq_true_eq] at this;exact this.2
 have HR:=Lib.hid (And.intro hop (And.intro hI (And.intro h1 (And.intro hrn hok))))
 clear hr hi ho ha g0 g1 h1 hop hI hrn hok hz
 go_enter Tryd.func20,Tryd.ntmps20
 go_wp2_with (first
  |(with_reducible refine wpList_alloc_row rfl 45 rfl zeroS zeroS_zero ?_;have hI:=res_start w [.string n.op,.string n.name,.slice A1 n.ins.length k1,.slice A2 n.outs.length k2,.slice A3 n.attrs.length k3];generalize World.alloc _ (.cells zeroS.toArray _) = W0 at hI ⊢;have HI:=Lib.hid hI;clear hI;have c0:W0.cell? ⟨w.heap.size,0,none⟩ = some (.string n.op):=cell_of_row _ _ _ _ _ _ HI.out.node))
 refine (number_any n.op _).mono ?_
 rw [HR.out.1]
 rintro e w1 ⟨rfl,hb⟩
 have HI1:=Lib.hid (HI.out.next hb)
 clear hb c0
 go_wp2_with fail
 refine (find_any op _ HR.out.2.1).mono ?_
 rintro e w2 ⟨rfl,hb⟩
 have HI2:=Lib.hid (HI1.out.next hb)
 clear hb
 obtain ⟨r,hr⟩:∃ r,findD op = r:=⟨_,rfl⟩
 have HR2:=HR
 rw [hr] at HR2 ⊢
 clear hr HR
 go_wp2_with (first
  |(with_reducible refine wpList_alloc_row rfl 79 rfl noRow.cells row_zero ?_)
  |(with_reducible refine wpList_store_agg rfl 79 _ _ rfl _ 0 r.cells rfl rfl 79 noRow.cells (heap_alloc_new _ _) (by kernel_rfl) (by rw [RowD.cells_len,RowD.cells_len];omega) r.one ?_;have hI:=res_row HI2.out r;generalize World.setRow _ _ _ = w3 at hI ⊢;have HI3:=Lib.hid hI;clear hI)
  |(with_reducible refine wpList_load_agg rfl 79 _ rfl _ _ _ rfl r.cells Tryd.underlying79 rfl (by kernel_rfl) (At.of_row HI3.out.row) ?_)
  |(with_reducible refine wpList_load_agg rfl 36 _ rfl _ _ _ rfl [.string n.op,.string n.name,.slice A1 n.ins.length k1,.slice A2 n.outs.length k2,.slice A3 n.attrs.length k3] Tryd.underlying36 rfl (by kernel_rfl) HI3.out.inv.at ?_))
 refine (counts_any r HR2.out.2.2.2.2 _ n _ (HI3.out.inv.keeps' HR2.out.2.2.2.1)).mono ?_
 rw [HR2.out.2.2.1]
 rintro e w4 ⟨rfl,hb⟩
 have HI4:=Lib.hid (HI3.out.inv.next hb)
 clear hb
 go_wp2_with (first
  |(with_reducible refine wpList_build0 rfl 45 rfl zeroS (zeroS_build _) ?_)
  |(with_reducible refine wpList_store_agg rfl 45 _ _ rfl (w.heap.size + 1) 0 zeroS rfl rfl 45 zeroS HI4.out.res.at' (by kernel_rfl) (by decide) zeroS_one ?_))
 obtain ⟨ho,hbo⟩:=HI4.out.out zeroS zeroS_len
 refine bodyPost_ret (results_tct rfl _ _ (w.heap.size + 1) 45 _ (0,0) _ (.int .i64 0) (.int .i64 1) rfl rfl rfl ho Tryd.underlying45 rfl (by kernel_rfl)) rfl ⟨_,rfl,zeroS_rep _ _,hbo⟩
end Go.Proofs.YtgbkhcmbmffljaaDoor
set_option linter.unusedSimpArgs false
namespace Go.Proofs.YtgbkhcmbmffljaaDoor
open Go.RowKit
open Rep (rep)
theorem laid_row (W:World) (t:TypeId) (z cs:List Value) (hl:cs.length = z.length) :
  Below W.heap.size W ((W.alloc (.cells z.toArray t)).setRow W.heap.size (z.take 0++cs++z.drop (0 + cs.length)).toArray) ∧
  ((W.alloc (.cells z.toArray t)).setRow W.heap.size (z.take 0++cs++z.drop (0 + cs.length)).toArray).heap[W.heap.size]? = some (.cells cs.toArray t (0,0)) ∧
  ((W.alloc (.cells z.toArray t)).setRow W.heap.size (z.take 0++cs++z.drop (0 + cs.length)).toArray).heap.size = W.heap.size + 1:=by
 have e:z.take 0++cs++z.drop (0 + cs.length) = cs:=by
  rw [List.take_zero,List.nil_append,Nat.zero_add,List.drop_of_length_le (by omega),List.append_nil]
 rw [e]
 exact ⟨below_setRow' ((Below.refl _ _).alloc (Nat.le_refl _) _) (Nat.le_refl _) _,heap_setRow _ _ _ _ _ (heap_alloc_new _ _),by rw [size_setRow];simp⟩
theorem grown_trans {a b c:World} {q:Option Nat} (h:a.grownBy b q) (k:b.grownBy c q):a.grownBy c q :=
 ⟨k.os.trans h.os,k.tape.trans h.tape,k.output.trans h.output,Nat.le_trans h.size k.size,fun i hi hn=>(k.block i (Nat.lt_of_lt_of_le hi h.size) hn).trans (h.block i hi hn)⟩
theorem grown_below {a b c:World} {q:Option Nat} (h:a.grownBy b q) (k:Below b.heap.size b c):a.grownBy c q :=
 ⟨k.os.trans h.os,k.tape.trans h.tape,k.output.trans h.output,Nat.le_trans h.size k.size,fun i hi hn=>(k.block i (Nat.lt_of_lt_of_le hi h.size)).trans (h.block i hi hn)⟩
theorem grown_drew {a b:World} {q:Option Nat} (h:a.grownBy b q):a.grownBy b.drew q:=⟨h.os,h.tape,h.output,h.size,h.block⟩
structure LoopInv (w8:World) (n0 g:Nat) (ss:List Value) (s:SettingD) (W:World):Prop where
 grown:w8.grownBy W (some g)
 sets:Sets W g ss
 dat:SettingDAt W (freshBut n0 W.heap.size g) ss s
section
variable {w8 W W':World} {n0 g:Nat} {ss:List Value} {s:SettingD}
theorem LoopInv.next (h:LoopInv w8 n0 g ss s W) (hb:Below W.heap.size W W'):LoopInv w8 n0 g ss s W' :=
 ⟨grown_below h.grown hb,h.sets.below hb,(inferInstance:Rep SettingD).more ((inferInstance:Rep SettingD).keep h.dat (.of_below hb fun _ hk=>hk.2.1)) (freshBut_le (Nat.le_refl _) hb.size)⟩
theorem LoopInv.drew (h:LoopInv w8 n0 g ss s W):LoopInv w8 n0 g ss s W.drew:=⟨grown_drew h.grown,⟨h.sets.at',h.sets.len⟩,(inferInstance:Rep SettingD).keep h.dat (.of_block fun _ _=>rfl)⟩
theorem LoopInv.start {w6:World} (_:n0 ≤ w6.heap.size) (hl:ss.length = 36) (hd:SettingDAt w6 (fresh n0 w6.heap.size) ss s) :
  Below w6.heap.size w6 ((w6.alloc (.cells zeroS.toArray 45)).setRow w6.heap.size (zeroS.take 0++ss++zeroS.drop (0 + ss.length)).toArray) ∧
  LoopInv ((w6.alloc (.cells zeroS.toArray 45)).setRow w6.heap.size (zeroS.take 0++ss++zeroS.drop (0 + ss.length)).toArray) n0 w6.heap.size ss s
   ((w6.alloc (.cells zeroS.toArray 45)).setRow w6.heap.size (zeroS.take 0++ss++zeroS.drop (0 + ss.length)).toArray):=by
 obtain ⟨h1,h2,h3⟩:=laid_row w6 45 zeroS ss (by rw [hl,zeroS_len])
 refine ⟨h1,World.grownBy.refl _ _,⟨h2,hl⟩,(inferInstance:Rep SettingD).more ((inferInstance:Rep SettingD).keep hd (.of_below h1 fun _ hk=>hk.2)) ⟨fun k hk=>⟨hk.1,by rw [h3];exact Nat.lt_succ_of_lt hk.2,fun e=>by have:=hk.2;omega⟩,fun _=>rfl⟩⟩
end
section
variable {P:Program}
theorem step_store_agg {ops:Array Oper} {o:Oper} {a:Act} {w:World} {K:Act→World→Prop} {Q:Exit→Act→World→Prop} {E:Prop} (hw:Region.wanted o (yielded ops a.tmps) = true) (ty:TypeId) (x y:Operand) (ho:o.op = .store ty x y)
  (g f:Nat) (cs:List Value) (hx:a.eval x = .pointer (some ⟨g,f,none⟩)) (hy:a.eval y = .agg cs.toArray)
  (t:TypeId) (cur:List Value) (hg:w.heap[g]? = some (.cells cur.toArray t (0,0))) (hi:(P.info? ty).map (·.size) = some cs.length)
  (hfit:f + cs.length ≤ cur.length) (h1:∀ u ∈ cs,u.oneCell' = true)
  (h:K (a.put o.dst undef) (w.setRow g (cur.take f++cs++cur.drop (f + cs.length)).toArray)) :
  if Region.wanted o (yielded ops a.tmps) = true then Oper.wp P o a w K Q else E:=by
 rw [if_pos hw]
 have hst:=run_storeCells_at P g f t cs 0 cur.toArray w hg (by simpa using hfit) h1
 simp only [Nat.add_zero] at hst
 unfold Oper.wp execOp
 cases hq:P.info? ty with
 | none=>simp [hq] at hi
 | some i =>
  have hs:i.size = cs.length:=by simpa [hq] using hi
  have hv:(storeVar ty ⟨g,f,none⟩ (.agg cs.toArray)).run P w = .ok () (w.setRow g (cur.take f++cs++cur.drop (f + cs.length)).toArray):=by
   simp only [storeVar,Value.cells,sizeOf,typeInfo,List.size_toArray,Sem.run_bind]
   simp [hq,hs,hst]
  simp only [ho,hx,hy,Instr.storeAt,Instr.sureAddr,Sem.run_bind,Sem.run_pure,Result.andThen_ok,hv]
  exact h
end
section
variable {P:Program}
theorem yields_load_agg {ops:Array Oper} {S:World→Prop} {o:Oper} {a:Act} (hw:Region.wanted o (yielded ops a.tmps) = true) (ty:TypeId) (x:Operand) (ho:o.op = .load ty x)
  (d:TypeDesc) (b f:Nat) (hx:a.eval x = .pointer (some ⟨b,f,none⟩)) (cs:List Value) (hu:P.underlying ty = some d) (hd:(match d with | .struct _ | .array _ _=>true | _=>false) = true)
  (hi:(P.info? ty).map (·.size) = some cs.length) (hS:∀ w,S w→At w b f cs):YieldsIf P ops S o (.agg cs.toArray) a :=
 .inl ⟨hw,fun w h=>by
  unfold execOp
  simp only [ho,hx,Instr.loadAt,Instr.sureAddr,Sem.run_bind,Sem.run_pure,Result.andThen_ok,run_load_agg w ty d b f cs hu hd hi (hS w h)]⟩
end
theorem panic_free {P:Program} {f:Func} {post:Ending→World→Prop} {K:Act→World→Prop} (c:List PanicEntry) (a b:Act) (w:World) (hd:a.defers = b.defers) (h:Exit.then K (bodyPost P f post) (.panic c) a w):Exit.then K (bodyPost P f post) (.panic c) b w :=
 ⟨hd ▸ (show a.defers = []∧post (.panicked c) w from h).1,(show a.defers = []∧post (.panicked c) w from h).2⟩
theorem At.setRow_other {w:World} {b o g:Nat} {cs:List Value} (h:At w b o cs) (hg:b ≠ g) (x:Array Value):At (w.setRow g x) b o cs:=fun j u hu =>
 (World.cell?_of_block (w:=w) (w':=w.setRow g x) (a:=⟨b,o + j,none⟩) (heap_setRow_other _ _ _ _ hg)).trans (h j u hu)
theorem anyH_store_agg {P:Program} {md:Region.Mode} {ops:Array Oper} {Q:Exit→Act→World→Prop} {S:World→Prop} {fuel:Nat} {listed:Array Bool} {a:Act} {w:World} {o:Oper} (i:Nat) (hio:ops[i]? = some o) (hr:Region.ready md ops listed = [i])
  (hw:Region.wanted o (yielded ops a.tmps) = true) (ty:TypeId) (x y:Operand) (ho:o.op = .store ty x y)
  (g f:Nat) (cs:List Value) (hx:a.eval x = .pointer (some ⟨g,f,none⟩)) (hy:a.eval y = .agg cs.toArray)
  (t:TypeId) (cur:List Value) (hg:w.heap[g]? = some (.cells cur.toArray t (0,0))) (hi:(P.info? ty).map (·.size) = some cs.length)
  (hfit:f + cs.length ≤ cur.length) (h1:∀ u ∈ cs,u.oneCell' = true) (hS:S (w.setRow g (cur.take f++cs++cur.drop (f + cs.length)).toArray))
  (h:wpAnyH P md ops Q S fuel (listed.setIfInBounds i true) (a.put o.dst undef) (w.setRow g (cur.take f++cs++cur.drop (f + cs.length)).toArray)):wpAnyH P md ops Q S (fuel + 1) listed a w :=
 wpAnyH_ready hr (by simp) (AllReadyH.cons hio (fun _ hK=>step_store_agg hw ty x y ho g f cs hx hy t cur hg hi hfit h1 (hK.out _ _ hS (fun _=>h))) AllReadyH.nil)
theorem attr_cell1 {w:World} {Z:Zone} {acs:List Value} {z:AttrD} (h:rep w Z acs z):acs[0]? = some (.string z.name)∧acs[1]? = some (.int .i64 z.kind)∧z.name.size ≤ reach:=by
 obtain ⟨A1,k1,A2,k2,A3,k3,A4,k4,A5,k5,A6,k6,rfl,h0,_⟩:=open_AttrD h
 exact ⟨rfl,rfl,h0⟩
theorem reg_flat {w:World} {q1 q2:Nat} {a0 a1 a2 b0 b1 b2 b3 b4 b5 b6 b7 b8 b9 b10 b11:Value} (h1:At w q1 0 [a0,a1,a2]) (h2:At w q2 0 [b0,b1,b2,b3,b4,b5,b6,b7,b8,b9,b10,b11]):w.cell? ⟨q1,0,none⟩ = some a0∧w.cell? ⟨q1,1,none⟩ = some a1∧w.cell? ⟨q1,2,none⟩ = some a2∧w.cell? ⟨q2,0,none⟩ = some b0∧w.cell? ⟨q2,1,none⟩ = some b1∧w.cell? ⟨q2,2,none⟩ = some b2∧w.cell? ⟨q2,3,none⟩ = some b3∧w.cell? ⟨q2,4,none⟩ = some b4∧w.cell? ⟨q2,5,none⟩ = some b5∧w.cell? ⟨q2,6,none⟩ = some b6∧w.cell? ⟨q2,7,none⟩ = some b7∧w.cell? ⟨q2,8,none⟩ = some b8∧w.cell? ⟨q2,9,none⟩ = some b9∧w.cell? ⟨q2,10,none⟩ = some b10∧w.cell? ⟨q2,11,none⟩ = some b11:=⟨h1 0 _ rfl,h1 1 _ rfl,h1 2 _ rfl,h2 0 _ rfl,h2 1 _ rfl,h2 2 _ rfl,h2 3 _ rfl,h2 4 _ rfl,h2 5 _ rfl,h2 6 _ rfl,h2 7 _ rfl,h2 8 _ rfl,h2 9 _ rfl,h2 10 _ rfl,h2 11 _ rfl⟩
theorem LoopInv.fin {w w8 W:World} {n0 g:Nat} {ss:List Value} {s:SettingD} (h:LoopInv w8 n0 g ss s W) (hn:w.heap.size + 1 < n0) (b:Array Value) :
  SettingDAt (W.drew.setRow (w.heap.size + 1) b) (fresh w.heap.size (W.drew.setRow (w.heap.size + 1) b).heap.size) ss s :=
 (inferInstance:Rep SettingD).more ((inferInstance:Rep SettingD).keep h.drew.dat (.of_block fun k hk=>heap_setRow_other _ _ _ _ (by have:=hk.1;omega)))
  ⟨fun k hk=>⟨by have:=hk.1;omega,by rw [size_setRow];exact hk.2.1⟩,fun _=>rfl⟩
def sortOk (x:SortD):Bool:=decide (x.name.size ≤ 1000) && lettersD.contains (x.letter.toNat:Int)
theorem rows_sorts:((noRow :: tableD).all fun r=>(sortsD r).all sortOk && decide ((sortsD r).length ≤ 64)) = true:=by decide +kernel
theorem sorts_ok (op:Int):(∀ x ∈ sortsD (findD op),x.name.size ≤ 1000∧(x.letter.toNat:Int) ∈ lettersD)∧(sortsD (findD op)).length ≤ 64:=by
 have hm:findD op ∈ noRow :: tableD:=by
  unfold findD
  split
  ·simp
  ·cases hz:tableD[(op - 1).toNat]? with
   | none=>simp
   | some z=>exact List.mem_cons_of_mem _ (List.mem_of_getElem? hz)
 have h:=List.all_eq_true.1 rows_sorts _ hm
 simp only [Bool.and_eq_true,decide_eq_true_eq] at h
 refine ⟨fun x hx=>?_,h.2⟩
 have h2:=List.all_eq_true.1 h.1 x hx
 unfold sortOk at h2
 simp only [Bool.and_eq_true,decide_eq_true_eq] at h2
 exact ⟨h2.1,List.contains_iff_mem.1 h2.2⟩
theorem chunks_sorts {w:World} {Z:Zone}:∀ (l:List SortD),(∀ x ∈ l,x.name.size ≤ 1000)→Chunks w Z (l.flatMap SortD.cells) l
 | [],_=>rfl
 | a :: l,h=>⟨a.cells,l.flatMap SortD.cells,rfl,rep_sort (by have:=h a (by simp);unfold reach;omega),chunks_sorts l fun x hx=>h x (by simp [hx])⟩
section
variable {op:Int} {l:List AttrD} {x:SortD} {xs:List SortD} {s:SettingD} {k:Nat} {a:AttrD}
theorem step_many (h:1 < countD l x.name):stepD op l (x :: xs) s k = none:=by unfold stepD;rw [if_pos h]
theorem step_must (h:countD l x.name = 0) (hm:x.must = true):stepD op l (x :: xs) s k = none:=by unfold stepD;rw [if_neg (by omega),if_pos h,if_pos hm]
theorem step_skip (h:countD l x.name = 0) (hm:x.must = false):stepD op l (x :: xs) s k = stepD op l xs s k:=by rw [stepD,if_neg (by omega),if_pos h,if_neg (by rw [hm];simp)]
theorem step_bad (h:countD l x.name = 1) (hf:foundD l x.name = some a) (hb:¬ (a.kind = kindD x.letter.toNat∧mayD x.letter.toNat op x.name a = true)):stepD op l (x :: xs) s k = none:=by
 unfold stepD;rw [if_neg (by omega),if_neg (by omega),hf];simp only;rw [if_neg hb]
theorem step_set (h:countD l x.name = 1) (hf:foundD l x.name = some a) (hb:a.kind = kindD x.letter.toNat∧mayD x.letter.toNat op x.name a = true):stepD op l (x :: xs) s k = stepD op l xs (setD op a s) (k + 1):=by
 rw [stepD,if_neg (by omega),if_neg (by omega),hf];simp only;rw [if_pos hb]
end
section
variable {n:NodeD} {op:Int} {s:SettingD} {k:Nat}
theorem resolve_none (hop:numberD n.op = op) (h0:op ≠ 0) (hc:countsD (findD op) n = true) (hs:stepD op n.attrs (sortsD (findD op)) (leftD op) 0 = none):resolveD n = (0,settingD0,14):=by
 unfold resolveD
 rw [hop,if_neg h0,hc,hs]
 rfl
theorem resolve_bad (hop:numberD n.op = op) (h0:op ≠ 0) (hc:countsD (findD op) n = true) (hs:stepD op n.attrs (sortsD (findD op)) (leftD op) 0 = some (s,k))
  (hb:k ≠ n.attrs.length ∨ op = 61∧k ≠ 1 ∨ s.auto ≠ 0∧0 < countD n.attrs sPads):resolveD n = (0,settingD0,14):=by
 unfold resolveD
 rw [hop,if_neg h0,hc,hs]
 simp only [Bool.true_eq_false,if_false]
 rw [if_pos hb]
 rfl
theorem resolve_good (hop:numberD n.op = op) (h0:op ≠ 0) (hc:countsD (findD op) n = true) (hs:stepD op n.attrs (sortsD (findD op)) (leftD op) 0 = some (s,k))
  (hb:¬ (k ≠ n.attrs.length ∨ op = 61∧k ≠ 1 ∨ s.auto ≠ 0∧0 < countD n.attrs sPads)):resolveD n = (op,s,0):=by
 unfold resolveD
 rw [hop,if_neg h0,hc,hs]
 simp only [Bool.true_eq_false,if_false]
 rw [if_neg hb]
end
def zeroSort:List Value:=[.string ⟨#[]⟩,.int .u8 0,.bool false]
theorem zeroSort_zero:(Tryd.prog.info? 84).bind (·.zero) = some (.agg zeroSort.toArray):=by kernel_rfl
end Go.Proofs.YtgbkhcmbmffljaaDoor
