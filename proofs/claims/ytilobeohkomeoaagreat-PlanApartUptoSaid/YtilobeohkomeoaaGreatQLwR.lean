/-
  Chapter 20: latticelaw20.reach: the tasks that must have ended ahead of one. No condition.
-/
import Derived.Test.YtilobeohkomeoaaGreatQLwT
import Derived.Test.YtilobeohkomeoaaGreatQQueue
set_option linter.unusedSimpArgs false
set_option linter.unusedVariables false
namespace Go.Proofs.YtilobeohkomeoaaGreat
open Go.RowKit
open Rep (rep)
structure Stack2 (ts:List TaskD) (i:Nat) (bs:List Bool) (td:List Nat) (x d:Nat):Prop where
 len:bs.length = ts.length
 lt:∀ z ∈ td,z < ts.length
 done:∀ z,(z = i ∨ HasB bs z)→z ≠ x→z ∈ td ∨ ∀ y ∈ afterAt ts z,HasB bs y.toNat
 part:∀ y ∈ (afterAt ts x).take d,HasB bs y.toNat
theorem Stack2.pop {ts:List TaskD} {i x:Nat} {bs:List Bool} {td:List Nat} (h:Stack ts i bs (td++[x])):Stack2 ts i bs td x 0:=by
 refine ⟨h.len,fun z hz=>h.lt z (List.mem_append_left _ hz),fun z hz hne=>?_,fun y hy=>by simp at hy⟩
 rcases h.done z hz with h1 | h1
 ·rcases List.mem_append.1 h1 with h2 | h2
  ·exact .inl h2
  ·exact (hne (List.mem_singleton.1 h2)).elim
 ·exact .inr h1
theorem Stack2.seen {ts:List TaskD} {i x d:Nat} {bs:List Bool} {td:List Nat} (h:Stack2 ts i bs td x d) {y:Nat} (hy:(afterAt ts x)[d]? = some (y:Int)) (hb:HasB bs y):Stack2 ts i bs td x (d + 1):=by
 refine ⟨h.len,h.lt,h.done,fun u hu=>?_⟩
 rw [List.take_add_one,hy,Option.toList_some] at hu
 rcases List.mem_append.1 hu with h1 | h1
 ·exact h.part u h1
 ·rw [List.mem_singleton.1 h1];exact hb
theorem Stack2.push {ts:List TaskD} {i x d:Nat} {bs:List Bool} {td:List Nat} (h:Stack2 ts i bs td x d) {y:Nat} (hy:(afterAt ts x)[d]? = some (y:Int)) (hl:y < ts.length):Stack2 ts i (bs.set y true) (td++[y]) x (d + 1):=by
 have mono:∀ z,HasB bs z→HasB (bs.set y true) z:=fun z hz=>hasB_set.2 (.inl hz)
 have hny:HasB (bs.set y true) y:=hasB_set.2 (.inr ⟨by rw [h.len];exact hl,rfl⟩)
 refine ⟨by rw [List.length_set];exact h.len,fun z hz=>?_,fun z hz hne=>?_,fun u hu=>?_⟩
 ·rcases List.mem_append.1 hz with h1 | h1
  ·exact h.lt z h1
  ·rw [List.mem_singleton.1 h1];exact hl
 ·by_cases e:z = y
  ·exact .inl (List.mem_append_right _ (List.mem_singleton.2 e))
  ·have hz':z = i ∨ HasB bs z:=hz.imp_right fun h1=>(hasB_set.1 h1).resolve_right fun h2=>e h2.2.symm
   rcases h.done z hz' hne with h1 | h1
   ·exact .inl (List.mem_append_left _ h1)
   ·exact .inr fun u hu=>mono _ (h1 u hu)
 ·rw [List.take_add_one,hy,Option.toList_some] at hu
  rcases List.mem_append.1 hu with h1 | h1
  ·exact mono _ (h.part u h1)
  ·rw [List.mem_singleton.1 h1];exact hny
theorem Stack2.fin {ts:List TaskD} {i x d:Nat} {bs:List Bool} {td:List Nat} (h:Stack2 ts i bs td x d) (hd:(afterAt ts x).length ≤ d):Stack ts i bs td:=by
 refine ⟨h.len,h.lt,fun z hz=>?_⟩
 by_cases e:z = x
 ·subst e
  exact .inr fun u hu=>h.part u (by rw [List.take_of_length_le hd];exact hu)
 ·exact h.done z hz e
theorem countF_set:∀ (bs:List Bool) (y:Nat),bs[y]? = some false→(bs.set y true).count false + 1 = bs.count false
 | [],y,h=>by simp at h
 | b :: bs,0,h=>by
  simp at h
  subst h
  simp
 | b :: bs,y + 1,h=>by
  have ih:=countF_set bs y (by simpa using h)
  rw [List.set_cons_succ,List.count_cons,List.count_cons]
  omega
theorem QRow.last {w:World} {base:Nat} {v:Value} {x:Int} {l:List Int} (h:QRow w base v (l++[x])):∃ (g off cap:Nat),v = .slice (some ⟨g,off,none⟩) (l.length + 1) cap∧l.length + 1 ≤ cap∧cap ≤ 9223372036854775807∧w.cell? ⟨g,off + l.length,none⟩ = some (.int .i64 x)∧QRow w base (.slice (some ⟨g,off,none⟩) l.length cap) l:=by
 obtain ⟨g,off,cap,cur,hv,h1,h2,h3,h4,h5,h6⟩:=h
 rw [List.length_append,List.length_singleton] at h3 hv
 obtain ⟨hx,-⟩:=h6 l.length x (by rw [List.getElem?_append_right (Nat.le_refl _),Nat.sub_self];rfl)
 exact ⟨g,off,cap,hv,h3,h4,(cell_of_row _ _ _ _ _ _ h2).trans hx,g,off,cap,cur,rfl,h1,h2,by omega,h4,h5,fun j y hj=>h6 j y (by rw [List.getElem?_append_left (List.getElem?_eq_some_iff.1 hj).1];exact hj)⟩
structure RchI (w:World) (cs:List Value) (p:PlanD) (sb:Nat) (bs:List Bool) (v:Value) (td:List Nat) (W:World):Prop where
 box:PlanI w cs p W
 seen:W.heap[sb]? = some (.cells (bs.map Value.bool).toArray 4 (0,0))
 todo:QRow W (w.heap.size + 1) v (td.map fun (x:Nat)=>(x:Int))
 ge:w.heap.size < sb
section
variable {w W W':World} {cs:List Value} {p:PlanD} {sb:Nat} {bs:List Bool} {v v':Value} {td:List Nat}
theorem RchI.lt (h:RchI w cs p sb bs v td W):sb < W.heap.size:=(Array.getElem?_eq_some_iff.1 h.seen).1
theorem RchI.next (h:RchI w cs p sb bs v td W) (hb:Below W.heap.size W W'):RchI w cs p sb bs v td W':=⟨h.box.next hb,(hb.block _ h.lt).trans h.seen,h.todo.below hb,h.ge⟩
theorem RchI.with (h:RchI w cs p sb bs v td W) {td':List Nat} (hq:QRow W (w.heap.size + 1) v' (td'.map fun (x:Nat)=>(x:Int))):RchI w cs p sb bs v' td' W:=⟨h.box,h.seen,hq,h.ge⟩
theorem RchI.mark (h:RchI w cs p sb bs v td W) (y:Nat):RchI w cs p sb (bs.set y true) v td (W.setCell ⟨sb,y,none⟩ (.bool true)):=by
 rw [set_as_row h.seen]
 refine ⟨h.box.past (Nat.lt_succ_self _) (below_setRow' (Below.refl _ _) h.ge _),?_,?_,h.ge⟩
 ·rw [heap_setRow _ _ _ _ _ h.seen,List.map_set,List.setIfInBounds_toArray]
 ·exact h.todo.kept (grown_setRow _ _ _) (h.todo.ne h.seen (by decide))
theorem RchI.free (h:RchI w cs p sb bs v td W) (k:Nat):W.frozen? ⟨sb,k,none⟩ = false:=by simp [World.frozen?,h.seen]
theorem RchI.cell (h:RchI w cs p sb bs v td W) {k:Nat} {x:Bool} (hk:bs[k]? = some x):W.cell? ⟨sb,k,none⟩ = some (.bool x):=by
 rw [cell_of_row _ _ _ _ _ _ h.seen,List.getElem?_toArray,List.getElem?_map,hk];rfl
theorem RchI.push (h:RchI w cs p sb bs v td W) {ob:Obj} {y:Nat} (hg:(W.alloc ob).grownBy W' v.ownBlock) (hq:QRow W' (w.heap.size + 1) v' (td.map (fun (x:Nat)=>(x:Int))++[(y:Int)])):RchI w cs p sb bs v' (td++[y]) W':=by
 have hlt:=h.lt
 have hb:Below (w.heap.size + 1) W W':=((Below.refl _ _).alloc h.box.lt ob).grown hg (by rw [World.size_alloc];have:=h.box.lt;omega) (fun b e=>(h.todo.ge e).1)
 refine ⟨h.box.past (Nat.lt_succ_self _) hb,?_,by rw [List.map_append];exact hq,h.ge⟩
 exact (hg.block sb (by rw [World.size_alloc];omega) (fun e=>h.todo.ne h.seen (by decide) e.symm)).trans ((Below.heap_alloc _ _ _ hlt).trans h.seen)
end
theorem after_at {ts:List TaskD} {x:Nat} {t:TaskD} (h:ts[x]? = some t):afterAt ts x = t.after:=by unfold afterAt;rw [h];rfl
set_option maxRecDepth 100000 in
set_option maxHeartbeats 8000000 in
theorem reach_any (cs:List Value) (p:PlanD) (i:Nat) (w:World) (hr:rep w (old w.heap.size) cs p) (hi:i < p.tasks.length) (hl:p.tasks.length ≤ 1048576) (ha:∀ t ∈ p.tasks,∀ y ∈ t.after,0 ≤ y∧y < p.tasks.length) :
  Calls Tryz.prog 13 #[.agg cs.toArray,.int .i64 i] w fun e w'=>∃ (sb n:Nat) (bs:List Bool),e = .returned (.slice (some ⟨sb,0,none⟩) n n)∧n = p.tasks.length∧bs.length = n∧w'.heap[sb]? = some (.cells (bs.map Value.bool).toArray 4 (0,0))∧w.heap.size < sb∧Below w.heap.size w w'∧∀ k,Waits p.tasks i k→HasB bs k:=by
 obtain ⟨A2,k2,A5,k5,A7,k7,-,c4,-,-,r5,-⟩:=plan_at hr
 obtain ⟨nt1,nt2⟩:=slice_bnd r5
 have HR:=Lib.hid hr
 have HC:=Lib.hid (And.intro c4 r5)
 have HA:=Lib.hid ha
 have HS:=Lib.hid (Stack.start p.tasks i hi)
 have HI:=Lib.hid hi
 clear hr c4 r5 ha hi
 go_enter Tryz.func13,Tryz.ntmps13
 go_wp2_with (with_reducible refine wpList_box_row rfl 31 _ rfl cs rfl ?_;have hX:=plan_start HR.out;generalize World.alloc _ _ = W0 at hX ⊢;have HX:=Lib.hid hX;clear hX;refine halt ?_)
 unfold Halt
 have c4:=HX.out.cell HC.out.1
 have hmk:=make_bools p.tasks.length W0 hl
 go_wp2_with fail
 clear hmk c4
 have hI:RchI w cs p W0.heap.size (List.replicate p.tasks.length false) (.slice (some ⟨(W0.alloc (.cells (Array.replicate p.tasks.length (.bool false)) 4)).heap.size,0,none⟩) 1 1) [i] ((W0.alloc (.cells (Array.replicate p.tasks.length (.bool false)) 4)).alloc (.cells #[.int .i64 (i:Int)] 3)):=by
  have hlt:=HX.out.lt
  refine ⟨(HX.out.next ((Below.refl _ _).alloc (Nat.le_refl _) _)).next ((Below.refl _ _).alloc (Nat.le_refl _) _),?_,qrow_one _ (base:=w.heap.size + 1) (by rw [World.size_alloc];omega) (i:Int) (by have:=HI.out;unfold I64;omega),hlt⟩
  rw [← bools_arr]
  exact (Below.heap_alloc _ _ _ (by rw [World.size_alloc];omega)).trans (heap_alloc_new _ _)
 rw [World.size_alloc] at hI
 obtain ⟨sb,hsb⟩:∃ q,W0.heap.size = q:=⟨_,rfl⟩
 rw [hsb] at hI ⊢
 obtain ⟨wa,hwa⟩:∃ wa,W0.alloc (.cells (Array.replicate p.tasks.length (.bool false)) 4) = wa:=⟨_,rfl⟩
 rw [hwa] at hI ⊢
 have H0:=Lib.hid hI
 clear hI hwa hsb HX
 have hn48:p.tasks.length ≤ 1048576:=hl
 obtain ⟨n,hn⟩:∃ n,p.tasks.length = n:=⟨_,rfl⟩
 rw [hn] at hn48 nt1 H0 ⊢
 have HN:=Lib.hid hn
 clear hn hl
 go_loopg [6] (2 * n + 2) (fun gk v wr=>∃ (bs:List Bool) (td:List Nat),2 * bs.count false + td.length + 1 ≤ gk∧2 * bs.count false + td.length ≤ 2 * n + 1∧Stack p.tasks i bs td∧RchI w cs p sb bs v td wr)
 case atStart=>exact ⟨List.replicate n false,[i],by rw [List.count_replicate_self,List.length_singleton];omega,by rw [List.count_replicate_self,List.length_singleton];omega,by rw [← HN.out];exact HS.out,H0.out⟩
 case round =>
  obtain ⟨bs,td,hg,hg2,hS,hR⟩:=hrel
  obtain ⟨wb,rfl⟩:∃ wb,wb = wr:=⟨_,rfl⟩
  clear H0
  have HB:=Lib.hid (And.intro hS hR)
  clear hS hR
  rcases List.eq_nil_or_concat td with htd | ⟨td',x,htd⟩
  ·subst htd
   obtain ⟨g,off,cap,cur,hv,-⟩:=HB.out.2.todo
   simp only [List.map_nil,List.length_nil] at hv
   subst hv
   clear hg hg2
   go_wp2
   go_ret
   refine ⟨sb,n,bs,rfl,HN.out.symm,by rw [HB.out.1.len,HN.out],HB.out.2.seen,HB.out.2.ge,HB.out.2.box.below,fun k hk=>HB.out.1.all hk⟩
  ·rw [List.concat_eq_append] at htd
   subst htd
   have hq:=HB.out.2.todo
   rw [List.map_append,List.map_cons,List.map_nil] at hq
   obtain ⟨g,off,cap,rfl,hc1,hc2,hcell,hlast⟩:=QRow.last hq
   have hxl:x < p.tasks.length:=HB.out.1.lt x (List.mem_append_right _ (List.mem_singleton.2 rfl))
   rw [HN.out] at hxl
   rw [List.length_append,List.length_singleton] at hg hg2
   have HL:=Lib.hid (And.intro (Stack2.pop HB.out.1) (HB.out.2.with hlast))
   rw [List.length_map] at hc1 hcell HL ⊢
   obtain ⟨m,hm⟩:∃ m,td'.length = m:=⟨_,rfl⟩
   rw [hm] at hc1 hcell HL hg hg2 ⊢
   have HM:=Lib.hid hm
   have HG:=Lib.hid (And.intro hg hg2)
   clear hq hlast hm hg hg2
   obtain ⟨t,ht⟩:∃ t,p.tasks[x]? = some t:=⟨_,List.getElem?_eq_getElem (by rw [HN.out];exact hxl)⟩
   obtain ⟨bt,ft,At',kt',hA5,hbt,hat,hraf⟩:=elem_task HC.out.2 ht
   subst hA5
   obtain ⟨na1,na2⟩:=slice_bnd hraf
   have hxl':(x:Int) < (n:Int):=by omega
   have hx0:(0:Int) ≤ (x:Int):=Int.natCast_nonneg _
   have HT:=Lib.hid (And.intro ht (And.intro (show bt < w.heap.size from hbt) (And.intro (hat 3 _ rfl) hraf)))
   have hmm0:(0:Int) ≤ (m:Int):=Int.natCast_nonneg _
   have hmm1:((m + 1:Nat):Int) - 1 = (m:Int):=by omega
   clear ht hbt hat hraf
   go_wp2_with fail
   obtain ⟨na,hna⟩:∃ na,t.after.length = na:=⟨_,rfl⟩
   rw [hna] at na1 HT
   have HNA:=Lib.hid hna
   clear hna hmm1 hcell
   go_loopw [8,6] (fun k v wr=>∃ (d:Nat) (bs2:List Bool) (td2:List Nat),k = .int .i64 d∧d ≤ na∧Stack2 p.tasks i bs2 td2 x d∧2 * bs2.count false + td2.length ≤ 2 * bs.count false + m∧RchI w cs p sb bs2 v td2 wr) (fun k _ _=>na - (intOf k).toNat)
   case atStart=>exact ⟨0,bs,td',rfl,Nat.zero_le _,HL.out.1,by rw [HM.out];exact Nat.le_refl _,HL.out.2⟩
   case round =>
    obtain ⟨d,bs2,td2,rfl,hd,hS2,hc2,hR2⟩:=hrel
    obtain ⟨wx,rfl⟩:∃ wx,wx = wr:=⟨_,rfl⟩
    have HB2:=Lib.hid (And.intro hS2 (And.intro hc2 hR2))
    clear hS2 hc2 hR2
    have c4:=HB2.out.2.2.box.cell HC.out.1
    rw [HN.out] at c4
    have ct:=HB2.out.2.2.box.old (q:=⟨bt,ft + x * 4 + 3,none⟩) HT.out.2.1 HT.out.2.2.1
    by_cases hlt:d < na
    ·have hlt':(d:Int) < (na:Int):=by omega
     have hd0:(0:Int) ≤ (d:Int):=Int.natCast_nonneg _
     have hraf:=HT.out.2.2.2
     rw [← HNA.out] at hraf
     obtain ⟨yy,hyy⟩:∃ y,t.after[d]? = some y:=⟨_,List.getElem?_eq_getElem (by rw [HNA.out];exact hlt)⟩
     obtain ⟨y0,y1⟩:=HA.out t (List.mem_of_getElem? HT.out.1) yy (List.mem_of_getElem? hyy)
     obtain ⟨y,rfl⟩:∃ y:Nat,yy = (y:Int):=⟨yy.toNat,by omega⟩
     obtain ⟨-,bb,ob,rfl,hbb,ky⟩:=int_at hraf hyy
     have ky':=HB2.out.2.2.box.old (show bb < w.heap.size from hbb) ky
     rw [HN.out] at y1
     have HYA:Hid ((afterAt p.tasks x)[d]? = some (y:Int)):=Lib.hid (by rw [after_at HT.out.1];exact hyy)
     have HYL:Hid (y < p.tasks.length):=Lib.hid (by rw [HN.out];omega)
     obtain ⟨b,hb⟩:∃ b,bs2[y]? = some b:=⟨_,List.getElem?_eq_getElem (by rw [HB2.out.1.len];exact HYL.out)⟩
     have cs2:=HB2.out.2.2.cell hb
     have HBY:=Lib.hid hb
     have HYI:Hid (I64 (y:Int)):=Lib.hid (by unfold I64;omega)
     clear hraf hyy hbb ky hb
     cases b with
     | true =>
      go_wp2
      go_roundw
      case rel=>exact ⟨d + 1,bs2,td2,by go_num,by omega,HB2.out.1.seen HYA.out HBY.out,HB2.out.2.1,HB2.out.2.2⟩
      case measure=>simp [intOf];omega
     | false =>
      have fL:=HB2.out.2.2.free y
      have hR3:=(HB2.out.2.2.mark y).todo
      have HR3:=Lib.hid (HB2.out.2.2.mark y)
      have hcnt:=countF_set bs2 y HBY.out
      have hS3:=HB2.out.1.push HYA.out HYL.out
      have HS3:=Lib.hid (And.intro hS3 hcnt)
      clear hR3 hcnt hS3
      have hq6:QRow ((wx.setCell ⟨sb,y,none⟩ (.bool true)).alloc (.cells #[.int .i64 (y:Int)] 3)) (w.heap.size + 1) _ _:=HR3.out.todo.below ((Below.refl _ _).alloc (Nat.le_refl _) _)
      have HQ6:=Lib.hid (And.intro hq6 (show w.heap.size + 1 ≤ (wx.setCell ⟨sb,y,none⟩ (.bool true)).heap.size from HR3.out.box.lt))
      have HNEW:Hid (((wx.setCell ⟨sb,y,none⟩ (.bool true)).alloc (.cells #[.int .i64 (y:Int)] 3)).heap[wx.heap.size]? = some (.cells #[.int .i64 (y:Int)] 3 (0,0))):=Lib.hid (by
       have:=heap_alloc_new (wx.setCell ⟨sb,y,none⟩ (.bool true)) (.cells #[.int .i64 (y:Int)] 3)
       rwa [size_setC] at this)
      clear hq6
      go_wp2_with (at_builtin;refine wpList_push rfl _ _ rfl rfl HQ6.out.1 ?c1 (y:=(y:Int)) HYI.out rfl HNEW.out ?c2 ?_)
      case c1=>rw [World.size_alloc];have:=HQ6.out.2;omega
      case c2 =>
       rw [List.length_map]
       have h1:=HB2.out.2.1
       have h2:=HG.out.2
       omega
      intro v' w8 hq8 hg8
      have HB8:=Lib.hid (HR3.out.push hg8 hq8)
      clear hq8 hg8
      go_wp2
      go_roundw
      case rel =>
       refine ⟨d + 1,bs2.set y true,td2++[y],by go_num,by omega,HS3.out.1,?_,HB8.out⟩
       have h1:=HB2.out.2.1
       have h2:=HS3.out.2
       rw [List.length_append,List.length_singleton]
       omega
      case measure=>simp [intOf];omega
    ·have hlt':¬ (d:Int) < (na:Int):=by omega
     have HD:=Lib.hid (show na ≤ d by omega)
     clear hlt
     go_wp2
     go_roundg (2 * bs2.count false + td2.length + 1)
     case measure =>
      have h1:=HB2.out.2.1
      have h2:=HG.out.1
      omega
     case rel =>
      have h1:=HB2.out.2.1
      have h2:=HG.out.2
      exact ⟨bs2,td2,Nat.le_refl _,by omega,HB2.out.1.fin (by rw [after_at HT.out.1,HNA.out];exact HD.out),HB2.out.2.2⟩
end Go.Proofs.YtilobeohkomeoaaGreat
