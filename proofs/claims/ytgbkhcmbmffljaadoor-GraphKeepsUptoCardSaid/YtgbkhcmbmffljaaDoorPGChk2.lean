/-
  Chapter 09: graph.Check of a sound graph: its closures.
-/
/-
  Chapter 09: graph.Check takes every sound graph.
-/
import Derived.Test.YtgbkhcmbmffljaaDoorPGDef
set_option linter.unusedSimpArgs false
set_option linter.unusedVariables false
namespace Go.Proofs.YtgbkhcmbmffljaaDoor
open Go.RowKit
open Rep (rep)
def isOut (N:Nat) (k:Int):Bool:=decide (k < 0) || decide (k ≥ (N:Int))
def isOut1 (N:Nat) (k:Int):Bool:=decide (k ≠ -1) && isOut N k
set_option maxRecDepth 100000 in
set_option maxHeartbeats 800000 in
theorem chk1_any (x:Int) (g N c:Nat) (A:Option Addr) (W:World) (h0:W.cell? ⟨g,0,none⟩ = some (.slice A N c)) :
  Calls Tryd.prog 54 #[.int .i64 x,.pointer (some ⟨g,0,none⟩)] W fun e W'=>e = .returned (.bool (isOut N x))∧W = W':=by
 by_cases h:x < 0
 ·have HE:=Lib.hid (show isOut N x = true by simp [isOut,h])
  go_enter Tryd.func54,Tryd.ntmps54
  go_wp2
  go_ret
  exact ⟨by rw [HE.out];rfl,rfl⟩
 ·by_cases h':x ≥ (N:Int)
  ·have HE:=Lib.hid (show isOut N x = true by simp [isOut,h'])
   go_enter Tryd.func54,Tryd.ntmps54
   go_wp2
   go_ret
   exact ⟨by rw [HE.out];rfl,rfl⟩
  ·have HE:=Lib.hid (show isOut N x = false by simp [isOut];omega)
   go_enter Tryd.func54,Tryd.ntmps54
   go_wp2
   go_ret
   exact ⟨by rw [HE.out];rfl,rfl⟩
set_option maxRecDepth 100000 in
set_option maxHeartbeats 800000 in
theorem chk2_any (x:Int) (p g N c:Nat) (A:Option Addr) (W:World) (h0:W.cell? ⟨g,0,none⟩ = some (.slice A N c)) (hp:W.cell? ⟨p,0,none⟩ = some (.func (.func 54) #[] #[.pointer (some ⟨g,0,none⟩)])) :
  Calls Tryd.prog 56 #[.int .i64 x,.pointer (some ⟨p,0,none⟩)] W fun e W'=>e = .returned (.bool (isOut1 N x))∧Below W.heap.size W W':=by
 by_cases h:x = -1
 ·subst h
  go_enter Tryd.func56,Tryd.ntmps56
  go_wp2
  go_ret
  exact ⟨rfl,Below.refl _ _⟩
 ·have HE:=Lib.hid (show isOut1 N x = isOut N x by simp [isOut1,h])
  have HC:=Lib.hid (chk1_any x g N c A W h0)
  clear h0
  go_enter Tryd.func56,Tryd.ntmps56
  go_wp2_with fail
  refine HC.out.mono ?_
  rintro e w1 ⟨rfl,rfl⟩
  obtain ⟨y,hy⟩:∃ y,isOut N x = y:=⟨_,rfl⟩
  have HY:=Lib.hid hy
  rw [hy]
  clear hy
  cases y with
  | true =>
   go_wp2
   go_ret
   have hb:(x != -1) = true:=by simp [h]
   exact ⟨by rw [HE.out,HY.out,← hb];rfl,Below.refl _ _⟩
  | false =>
   go_wp2
   go_ret
   exact ⟨by rw [HE.out,HY.out];rfl,Below.refl _ _⟩
set_option maxRecDepth 100000 in
set_option maxHeartbeats 800000 in
theorem chk3_any (x:Int) (W:World) :
  Calls Tryd.prog 57 #[.int .i64 x] W fun e W'=>e = .returned (.bool (decide (x > 1)))∧W = W':=by
 by_cases h:x > 1
 ·go_enter Tryd.func57,Tryd.ntmps57
  go_wp2
  go_ret
  exact ⟨by simp [h],rfl⟩
 ·go_enter Tryd.func57,Tryd.ntmps57
  go_wp2
  go_ret
  exact ⟨by simp [h],rfl⟩
def defsD (a:GraphD):List Int:=a.inputs++a.nodes.flatMap (·.outs)
def constN (v:ValD):Nat:=if v.const = true then 1 else 0
def timesG (a:GraphD) (l:List Int):List Int:=(List.range a.vals.length).map fun k=>(((a.vals.map constN).getD k 0 + l.count (k:Int):Nat):Int)
def flowsD:List Bool→List GNodeD→Prop
 | _,[]=>True
 | bs,n :: l=>n.ins.any (lackD bs) = false∧flowsD (setsT bs n.outs) l
def thereD (bs:List Bool) (l:List GNodeD):List Bool:=l.foldl (fun bs n=>setsT bs n.outs) bs
theorem there_len:∀ (l:List GNodeD) (bs:List Bool),(thereD bs l).length = bs.length
 | [],_=>rfl
 | n :: l,bs=>by
  show (thereD (setsT bs n.outs) l).length = _
  rw [there_len l,setsT_len]
theorem there_snoc (bs:List Bool) (l:List GNodeD) (n:GNodeD):thereD bs (l++[n]) = setsT (thereD bs l) n.outs:=by unfold thereD;rw [List.foldl_append];rfl
structure SoundD (a:GraphD):Prop where
 inputs:∀ k ∈ a.inputs,0 ≤ k∧k < a.vals.length
 outputs:∀ k ∈ a.outputs,0 ≤ k∧k < a.vals.length
 outs:∀ n ∈ a.nodes,∀ k ∈ n.outs,0 ≤ k∧k < a.vals.length
 ins:∀ n ∈ a.nodes,∀ k ∈ n.ins,-1 ≤ k∧k < a.vals.length
 once:∀ k < a.vals.length,(a.vals.map constN).getD k 0 + (defsD a).count (k:Int) ≤ 1
 flows:flowsD (definedD a) a.nodes
 ends:a.outputs.any (lackD (thereD (definedD a) a.nodes)) = false
theorem timesG_len (a:GraphD) (l:List Int):(timesG a l).length = a.vals.length:=by simp [timesG]
theorem timesG_get (a:GraphD) (l:List Int) {k:Nat} (hk:k < a.vals.length):(timesG a l)[k]? = some (((a.vals.map constN).getD k 0 + l.count (k:Int):Nat):Int):=by
 simp [timesG,List.getElem?_range,hk]
theorem timesG_set (a:GraphD) (l:List Int) {k:Nat} (hk:k < a.vals.length):(timesG a l).set k ((((a.vals.map constN).getD k 0 + l.count (k:Int):Nat):Int) + 1) = timesG a (l++[(k:Int)]):=by
 apply List.ext_getElem?
 intro i
 by_cases hi:i < a.vals.length
 ·rw [List.getElem?_set,timesG_get a _ hi,timesG_get a _ hi]
  by_cases e:k = i
  ·subst e
   rw [if_pos rfl,if_pos (by rw [timesG_len];exact hk),List.count_append]
   simp
   omega
  ·rw [if_neg e,List.count_append,List.count_singleton,if_neg (by simp;omega)]
   rfl
 ·rw [List.getElem?_eq_none (by rw [List.length_set,timesG_len];omega),List.getElem?_eq_none (by rw [timesG_len];omega)]
theorem timesG_nil (a:GraphD):timesG a [] = a.vals.map fun v=>(constN v:Int):=by
 apply List.ext_getElem?
 intro i
 by_cases hi:i < a.vals.length
 ·rw [timesG_get a _ hi,List.getElem?_map,List.getElem?_eq_getElem hi]
  simp [List.getElem?_eq_getElem hi]
 ·rw [List.getElem?_eq_none (by rw [timesG_len];omega),List.getElem?_eq_none (by rw [List.length_map];omega)]
theorem SoundD.times_le {a:GraphD} (h:SoundD a) {l r:List Int} (hl:defsD a = l++r) {k:Nat} (hk:k < a.vals.length):(a.vals.map constN).getD k 0 + l.count (k:Int) ≤ 1:=by
 have:=h.once k hk
 rw [hl,List.count_append] at this
 omega
theorem SoundD.times_ok {a:GraphD} (h:SoundD a):(timesG a (defsD a)).any (fun x=>decide (x > 1)) = false:=by
 rw [List.any_eq_false]
 intro x hx
 obtain ⟨k,hk,rfl⟩:=List.mem_map.1 hx
 have:=h.once k (List.mem_range.1 hk)
 intro hh
 rw [decide_eq_true_eq] at hh
 omega
theorem SoundD.times_bd {a:GraphD} (h:SoundD a):∀ x ∈ timesG a (defsD a),I64 x:=by
 intro x hx
 obtain ⟨k,hk,rfl⟩:=List.mem_map.1 hx
 have:=h.once k (List.mem_range.1 hk)
 unfold I64
 omega
theorem not_out {N:Nat} {l:List Int} (h:∀ k ∈ l,0 ≤ k∧k < N):l.any (isOut N) = false:=by
 rw [List.any_eq_false]
 intro x hx
 have:=h x hx
 simp [isOut]
 omega
theorem not_out1 {N:Nat} {l:List Int} (h:∀ k ∈ l,-1 ≤ k∧k < N):l.any (isOut1 N) = false:=by
 rw [List.any_eq_false]
 intro x hx
 have:=h x hx
 simp [isOut1,isOut]
 omega
end Go.Proofs.YtgbkhcmbmffljaaDoor
set_option linter.unusedSimpArgs false
set_option linter.unusedVariables false
namespace Go.Proofs.YtgbkhcmbmffljaaDoor
open Go.RowKit
open Rep (rep)
theorem chunks_of_ints {w:World} {Z:Zone}:∀ (l:List Int),(∀ x ∈ l,I64 x)→Chunks w Z (l.map (Value.int .i64)) l
 | [],_=>rfl
 | b :: l,h=>⟨[.int .i64 b],_,rfl,⟨rfl,h b (by simp)⟩,chunks_of_ints l fun x hx=>h x (by simp [hx])⟩
@[reducible] def outF (g:Nat):Value:=.func (.func 54) #[] #[.pointer (some ⟨g,0,none⟩)]
structure ChkI (w:World) (cs:List Value) (W:World):Prop where
 below:Below w.heap.size w W
 row:W.heap[w.heap.size]? = some (.cells cs.toArray 63 (0,0))
 fn:W.heap[w.heap.size + 1]? = some (.cells #[outF w.heap.size] 113 (0,0))
section
variable {w W W':World} {cs:List Value}
theorem ChkI.lt (h:ChkI w cs W):w.heap.size + 1 < W.heap.size:=(Array.getElem?_eq_some_iff.1 h.fn).1
theorem ChkI.next (h:ChkI w cs W) (hb:Below W.heap.size W W'):ChkI w cs W':=⟨h.below.trans (hb.mono h.below.size),(hb.block _ (by have:=h.lt;omega)).trans h.row,(hb.block _ h.lt).trans h.fn⟩
theorem ChkI.cell (h:ChkI w cs W) {j:Nat} {u:Value} (hj:cs.toArray[j]? = some u):W.cell? ⟨w.heap.size,j,none⟩ = some u:=(cell_of_row _ _ _ _ _ _ h.row).trans hj
theorem ChkI.out (h:ChkI w cs W):W.cell? ⟨w.heap.size + 1,0,none⟩ = some (outF w.heap.size):=cell_of_row _ _ _ _ _ _ h.fn
theorem ChkI.keep (h:ChkI w cs W) {α:Type} [Rep α] {c:List Value} {a:α} (hr:rep w (old w.heap.size) c a):rep W (old W.heap.size) c a:=Rep.more (Rep.keep hr (Keeps.old_below h.below (Nat.le_refl _))) (old_le (by have:=h.lt;omega))
set_option maxRecDepth 100000 in
theorem ChkI.places (h:ChkI w cs W) {N c:Nat} {A:Option Addr} (h0:cs.toArray[0]? = some (.slice A N c)) {v:Value} {l:List Int} (hr:rep w (old w.heap.size) [v] l) (hl:∀ k ∈ l,0 ≤ k∧k < N) :
  Calls Tryd.prog 55 #[v,outF w.heap.size] W fun e W'=>e = .returned (.bool false)∧ChkI w cs W'∧Below W.heap.size W W':=by
 have hc:=containsInts_any l v 54 ⟨w.heap.size,0,none⟩ (isOut N) (fun V=>Below W.heap.size W V) W (fun _ _=>rfl) (h.keep hr) (Below.refl _ _) (fun _ h=>h) fun x hx _ V hV =>
  (chk1_any x w.heap.size N c A V ((h.next hV).cell h0)).mono (by rintro e w' ⟨rfl,rfl⟩;exact ⟨rfl,hV⟩)
 rw [not_out hl] at hc
 exact hc.mono (by rintro e w' ⟨rfl,hb⟩;exact ⟨rfl,h.next hb,hb⟩)
set_option maxRecDepth 100000 in
theorem ChkI.uses (h:ChkI w cs W) {N c:Nat} {A:Option Addr} (h0:cs.toArray[0]? = some (.slice A N c)) {v:Value} {l:List Int} (hr:rep w (old w.heap.size) [v] l) (hl:∀ k ∈ l,-1 ≤ k∧k < N) :
  Calls Tryd.prog 55 #[v,.func (.func 56) #[] #[.pointer (some ⟨w.heap.size + 1,0,none⟩)]] W fun e W'=>e = .returned (.bool false)∧ChkI w cs W'∧Below W.heap.size W W':=by
 have hc:=containsInts_any l v 56 ⟨w.heap.size + 1,0,none⟩ (isOut1 N) (fun V=>Below W.heap.size W V) W (fun _ _=>rfl) (h.keep hr) (Below.refl _ _) (fun _ h=>h) fun x hx _ V hV =>
  (chk2_any x (w.heap.size + 1) w.heap.size N c A V ((h.next hV).cell h0) (h.next hV).out).mono (by rintro e w' ⟨rfl,hb⟩;exact ⟨rfl,hV.trans (hb.mono hV.size)⟩)
 rw [not_out1 hl] at hc
 exact hc.mono (by rintro e w' ⟨rfl,hb⟩;exact ⟨rfl,h.next hb,hb⟩)
end
structure TimI (w:World) (cs:List Value) (q:Nat) (ts:List Int) (W:World):Prop where
 inv:ChkI w cs W
 arr:W.heap[q]? = some (.cells (ts.map (Value.int .i64)).toArray 3 (0,0))
 gq:w.heap.size + 1 < q
section
variable {w W W':World} {cs:List Value} {q:Nat} {ts:List Int}
theorem TimI.lt (h:TimI w cs q ts W):q < W.heap.size:=(Array.getElem?_eq_some_iff.1 h.arr).1
theorem TimI.next (h:TimI w cs q ts W) (hb:Below W.heap.size W W'):TimI w cs q ts W':=⟨h.inv.next hb,(hb.block _ h.lt).trans h.arr,h.gq⟩
theorem TimI.set (h:TimI w cs q ts W) (k:Nat) (x:Int):TimI w cs q (ts.set k x) (W.setCell ⟨q,k,none⟩ (.int .i64 x)):=by
 rw [set_as_row h.arr]
 have hg:W.grownBy (W.setRow q ((ts.map (Value.int .i64)).toArray.setIfInBounds k (.int .i64 x))) (some q):=⟨rfl,rfl,rfl,by rw [size_setRow];exact Nat.le_refl _,fun j _ hn=>heap_setRow_other _ _ _ _ (fun e=>hn (by rw [e]))⟩
 have h1:=h.gq
 refine ⟨⟨h.inv.below.grown hg h.inv.below.size (fun g e=>by injection e with e;omega),(heap_setRow_other _ _ _ _ (by omega)).trans h.inv.row,(heap_setRow_other _ _ _ _ (by omega)).trans h.inv.fn⟩,?_,h1⟩
 rw [heap_setRow _ _ _ _ _ h.arr,List.map_set,List.setIfInBounds_toArray]
theorem TimI.free (h:TimI w cs q ts W) (k:Nat):W.frozen? ⟨q,k,none⟩ = false:=by simp [World.frozen?,h.arr]
theorem TimI.cell (h:TimI w cs q ts W) {k:Nat} {x:Int} (hk:ts[k]? = some x):W.cell? ⟨q,k,none⟩ = some (.int .i64 x):=by
 rw [cell_of_row _ _ _ _ _ _ h.arr,List.getElem?_toArray,List.getElem?_map,hk];rfl
theorem TimI.rep (h:TimI w cs q ts W) (hn:ts.length ≤ 1048576) (h64:∀ x ∈ ts,I64 x):Rep.rep W (old W.heap.size) [.slice (some ⟨q,0,none⟩) ts.length ts.length] ts:=by
 refine ⟨_,_,_,ts.map (Value.int .i64),rfl,rfl,Nat.le_refl _,by unfold maxLen;omega,?_,?_,chunks_of_ints ts h64⟩
 ·show ts.length * 8 ≤ reach
  unfold reach;omega
 ·intro _
  refine ⟨q,0,rfl,h.lt,fun j u hu=>⟨?_,fun e=>by cases e⟩⟩
  rw [Nat.zero_add,cell_of_row _ _ _ _ _ _ h.arr,List.getElem?_toArray];exact hu
end
theorem made_ints (n:Nat):madeCells (#[.int .i64 0]:Array Value) n = (List.replicate n (Value.int .i64 0)).toArray:=by
 apply Array.toList_inj.1
 rw [List.toList_toArray]
 apply List.ext_getElem?
 intro i
 simp only [Array.getElem?_toList,List.getElem?_replicate]
 by_cases h:i < n
 ·rw [if_pos h,Array.getElem?_eq_getElem (by rw [size_madeCells];exact h)]
  simp [madeCells,Nat.mod_one]
 ·rw [if_neg h,Array.getElem?_eq_none (by rw [size_madeCells];omega)]
theorem ints_arr (n:Nat):Array.replicate n (Value.int .i64 0) = ((List.replicate n (0:Int)).map (Value.int .i64)).toArray:=by simp
theorem make_ints (n:Nat) (w:World) (hn:n ≤ 1048576):(Instr.makeSlice 37 (.int .i64 (n:Int)) (.int .i64 (n:Int))).run Tryd.prog w = .ok (.slice (some ⟨w.heap.size,0,none⟩) n n) (w.alloc (.cells (Array.replicate n (.int .i64 0)) 3)):=by
 obtain ⟨i0,hi0,hz0,hz1,hz2⟩:=info_parts info_ints
 have h:=run_make (P:=Tryd.prog) w 37 3 i0 (.int .i64 0) Tryd.underlying37 hi0 hz0 .i64 .i64 (n:Int) (n:Int) (by omega) (Int.le_refl _) (by rw [hz2];omega) (by omega)
 rw [Int.toNat_natCast,hz1,Nat.mul_one] at h
 rw [h,show (Value.int .i64 0).cells = #[.int .i64 0] from rfl,made_ints,ints_arr,List.map_replicate]
structure ThI (w:World) (cs:List Value) (q:Nat) (bs:List Bool) (W:World):Prop where
 inv:ChkI w cs W
 arr:W.heap[q]? = some (.cells (bs.map Value.bool).toArray 4 (0,0))
 gq:w.heap.size + 1 < q
section
variable {w W W':World} {cs:List Value} {q:Nat} {bs:List Bool}
theorem ThI.lt (h:ThI w cs q bs W):q < W.heap.size:=(Array.getElem?_eq_some_iff.1 h.arr).1
theorem ThI.next (h:ThI w cs q bs W) (hb:Below W.heap.size W W'):ThI w cs q bs W':=⟨h.inv.next hb,(hb.block _ h.lt).trans h.arr,h.gq⟩
theorem ThI.set (h:ThI w cs q bs W) (k:Nat) (x:Bool):ThI w cs q (bs.set k x) (W.setCell ⟨q,k,none⟩ (.bool x)):=by
 rw [set_as_row h.arr]
 have hg:W.grownBy (W.setRow q ((bs.map Value.bool).toArray.setIfInBounds k (.bool x))) (some q):=⟨rfl,rfl,rfl,by rw [size_setRow];exact Nat.le_refl _,fun j _ hn=>heap_setRow_other _ _ _ _ (fun e=>hn (by rw [e]))⟩
 have h1:=h.gq
 refine ⟨⟨h.inv.below.grown hg h.inv.below.size (fun g e=>by injection e with e;omega),(heap_setRow_other _ _ _ _ (by omega)).trans h.inv.row,(heap_setRow_other _ _ _ _ (by omega)).trans h.inv.fn⟩,?_,h1⟩
 rw [heap_setRow _ _ _ _ _ h.arr,List.map_set,List.setIfInBounds_toArray]
theorem ThI.free (h:ThI w cs q bs W) (k:Nat):W.frozen? ⟨q,k,none⟩ = false:=by simp [World.frozen?,h.arr]
theorem ThI.cell (h:ThI w cs q bs W) {k:Nat} (hk:k < bs.length):∃ x,W.cell? ⟨q,k,none⟩ = some (.bool x):=by
 refine ⟨bs[k],?_⟩
 rw [cell_of_row _ _ _ _ _ _ h.arr,List.getElem?_toArray,List.getElem?_map,List.getElem?_eq_getElem hk];rfl
end
set_option maxRecDepth 100000 in
set_option maxHeartbeats 8000000 in
theorem check_sound (cs:List Value) (a:GraphD) (w:World) (hr:rep w (old w.heap.size) cs a) (hs:a.vals.length ≤ 1048576) (hS:SoundD a) :
  Calls Tryd.prog 27 #[.agg cs.toArray] w fun e w'=>e = .returned (.int .i64 0)∧Below w.heap.size w w':=by
 obtain ⟨A1,k1,A2,k2,A3,k3,A4,k4,rfl,r1,r2,r3,r4⟩:=open_GraphD hr
 obtain ⟨n1,n1'⟩:=slice_bnd r1
 obtain ⟨n2,n2'⟩:=slice_bnd r2
 obtain ⟨n3,n3'⟩:=slice_bnd r3
 have HG:=Lib.hid hr
 have HR:=Lib.hid (And.intro r1 (And.intro r2 (And.intro r3 r4)))
 have HS:=Lib.hid hS
 clear hr r1 r2 r3 r4 hS
 go_enter Tryd.func27,Tryd.ntmps27
 go_wp2_with (with_reducible refine wpList_box_row rfl 63 _ rfl [.slice A1 a.vals.length k1,.slice A2 a.nodes.length k2,.slice A3 a.inputs.length k3,.slice A4 a.outputs.length k4] rfl ?_;have hX:=box_start w 63 [.slice A1 a.vals.length k1,.slice A2 a.nodes.length k2,.slice A3 a.inputs.length k3,.slice A4 a.outputs.length k4];have hZ:=World.size_alloc w (.cells ([.slice A1 a.vals.length k1,.slice A2 a.nodes.length k2,.slice A3 a.inputs.length k3,.slice A4 a.outputs.length k4]:List Value).toArray 63);generalize World.alloc _ _ = W0 at hX hZ ⊢;have HX:=Lib.hid hX;clear hX;refine halt ?_)
 unfold Halt
 have hN:=heap_alloc_new W0 (.cells #[.nilFunc] 113)
 rw [hZ] at hN
 have HN:=Lib.hid hN
 clear hN
 go_wp2_with (with_reducible refine wpList_store_field rfl 113 _ _ rfl (w.heap.size + 1) 0 (outF w.heap.size) rfl rfl rfl (by kernel_rfl) 113 [.nilFunc] HN.out (by decide) ?_;refine halt ?_)
 unfold Halt
 have hI:ChkI w [.slice A1 a.vals.length k1,.slice A2 a.nodes.length k2,.slice A3 a.inputs.length k3,.slice A4 a.outputs.length k4] ((W0.alloc (.cells #[.nilFunc] 113)).setRow (w.heap.size + 1) #[outF w.heap.size]):=by
  exact ⟨below_setRow' (HX.out.below.alloc HX.out.below.size _) (by omega) _,(heap_setRow_other _ _ _ _ (by omega)).trans ((Below.heap_alloc _ _ _ HX.out.lt).trans HX.out.row),heap_setRow _ _ #[outF w.heap.size] _ _ HN.out⟩
 generalize World.setRow _ _ _ = W1 at hI ⊢
 obtain ⟨cs,hcs⟩:∃ cs:List Value,[.slice A1 a.vals.length k1,.slice A2 a.nodes.length k2,.slice A3 a.inputs.length k3,.slice A4 a.outputs.length k4] = cs:=⟨_,rfl⟩
 rw [hcs] at hI HG
 have HC:Hid (cs.toArray[0]? = some (.slice A1 a.vals.length k1)∧cs.toArray[1]? = some (.slice A2 a.nodes.length k2)∧cs.toArray[2]? = some (.slice A3 a.inputs.length k3)∧cs.toArray[3]? = some (.slice A4 a.outputs.length k4)):=Lib.hid (by rw [← hcs];exact ⟨rfl,rfl,rfl,rfl⟩)
 have HI:=Lib.hid hI
 clear hI HX hcs hZ
 have cf:=HI.out.out
 have c2:=HI.out.cell HC.out.2.2.1
 go_wp2_with fail
 refine (HI.out.places HC.out.1 HR.out.2.2.1 HS.out.inputs).mono ?_
 rintro e w1 ⟨rfl,hI,-⟩
 have HI1:=Lib.hid hI
 clear hI c2 cf
 have cf:=HI1.out.out
 have c3:=HI1.out.cell HC.out.2.2.2
 go_wp2_with fail
 refine (HI1.out.places HC.out.1 HR.out.2.2.2 HS.out.outputs).mono ?_
 rintro e w2 ⟨rfl,hI,-⟩
 have HI2:=Lib.hid hI
 clear hI c3 cf HI1 HI
 have c1:=HI2.out.cell HC.out.2.1
 go_wp2_with fail
 clear c1
 obtain ⟨B',d',ns,hv,hnc,hcm,-,hl,hch⟩:=open_slice HR.out.2.1
 simp only [Value.slice.injEq,true_and] at hv
 obtain ⟨rfl,rfl⟩:=hv
 have HN2:=Lib.hid (And.intro hl hch)
 clear hl hch
 go_loopw [34] (fun i wr=>∃ (pre post:List GNodeD),a.nodes = pre++post∧i = .int .i64 pre.length∧ChkI w cs wr) (fun i _=>a.nodes.length - (intOf i).toNat)
 case atStart=>exact ⟨[],a.nodes,rfl,rfl,HI2.out⟩
 case round =>
  obtain ⟨pre,post,hpp,rfl,hI⟩:=hrel
  have HIr:=Lib.hid hI
  clear hI
  cases post with
  | cons z post =>
   obtain ⟨hz,hlt,hpp',hpl⟩:=split_at hpp
   have hmem:=List.mem_of_getElem? hz
   obtain ⟨b,o,zc,rfl,hbB,hrz,hcell⟩:=elem_at HN2.out.1 HN2.out.2 (by decide) hz
   have hat:At wr b (o + pre.length * 40) zc:=fun j u hu=>by
    have h1:=(hcell j u hu).1
    rw [← Nat.add_assoc] at h1
    exact (HIr.out.below.cell (p:=⟨b,o + pre.length * 40 + j,none⟩) hbB).trans h1
   have HA:=Lib.hid (And.intro hat (node_lay hrz))
   obtain ⟨ss,I1,i1,O1,o1,-,z37,z38,-,-,zi,zo,-⟩:=gnode_facts hrz
   have HZ:=Lib.hid (And.intro z37 (And.intro z38 (And.intro zi (And.intro zo hmem))))
   have hk0:(0:Int) ≤ (pre.length:Int):=Int.natCast_nonneg _
   have hk1:(pre.length:Int) < (a.nodes.length:Int):=by omega
   have H:=Lib.hid (And.intro hpp' hpl)
   clear hpp hpp' hpl hz hcell hbB hrz hat z37 z38 zi zo hmem
   go_wp2_with (first
    |(with_reducible refine wpList_load_agg rfl 68 _ rfl _ _ _ rfl zc Tryd.underlying68 rfl HA.out.2.1 HA.out.1 ?_)
    |(with_reducible refine wpList_alloc_row rfl 68 rfl zeroGN zeroGN_zero ?_)
    |(with_reducible refine wpList_store_agg rfl 68 _ _ rfl _ 0 zc rfl rfl 68 zeroGN (heap_alloc_new _ _) HA.out.2.1 HA.out.2.2.1 HA.out.2.2.2.2 ?_;have hY:=laid_row wr 68 zeroGN zc HA.out.2.2.2.1;generalize World.setRow _ _ _ = v2 at hY ⊢;have HY:=Lib.hid hY;clear hY;refine halt ?_))
   unfold Halt
   have HI3:=Lib.hid (HIr.out.next HY.out.1)
   have c38:v2.cell? ⟨wr.heap.size,38,none⟩ = some (.slice O1 z.outs.length o1):=(cell_of_row _ _ _ _ _ _ HY.out.2.1).trans (by rw [List.getElem?_toArray];exact HZ.out.2.1)
   have cf:=HI3.out.out
   go_wp2_with fail
   refine (HI3.out.places HC.out.1 HZ.out.2.2.2.1 (HS.out.outs z HZ.out.2.2.2.2)).mono ?_
   rintro e w4 ⟨rfl,hI,hb⟩
   have HI4:=Lib.hid hI
   have c37:w4.cell? ⟨wr.heap.size,37,none⟩ = some (.slice I1 z.ins.length i1):=(hb.cell (p:=⟨wr.heap.size,37,none⟩) (by have:=HY.out.2.2;simp only;omega)).trans ((cell_of_row _ _ _ _ _ _ HY.out.2.1).trans (by rw [List.getElem?_toArray];exact HZ.out.1))
   clear hI hb c38 cf
   have cf:=HI4.out.out
   go_wp2_with fail
   refine (HI4.out.uses HC.out.1 HZ.out.2.2.1 (HS.out.ins z HZ.out.2.2.2.2)).mono ?_
   rintro e w5 ⟨rfl,hI,-⟩
   have HI5:=Lib.hid hI
   clear hI
   go_wp2
   go_roundw
   case rel=>exact ⟨pre++[z],post,H.out.1,by rw [H.out.2];go_num,HI5.out⟩
   case measure=>simp [intOf];omega
  | nil =>
   obtain ⟨hge,hpl⟩:=split_end hpp
   clear hpp hpl
   have c0:=HIr.out.cell HC.out.1
   have c0':∀ o:Obj,(wr.alloc o).cell? ⟨w.heap.size,0,none⟩ = some (.slice A1 a.vals.length k1):=fun o=>(World.cell?_alloc_lt _ _ _ (by have:=HIr.out.lt;simp only;omega)).trans c0
   have hmk:=make_ints a.vals.length wr (by omega)
   go_wp2_with fail
   clear hmk c0 c0'
   have hT:TimI w cs wr.heap.size (List.replicate a.vals.length 0) (wr.alloc (.cells (Array.replicate a.vals.length (.int .i64 0)) 3)) :=
    ⟨HIr.out.next ((Below.refl _ _).alloc (Nat.le_refl _) _),by rw [← ints_arr];exact heap_alloc_new _ _,HIr.out.lt⟩
   generalize World.alloc _ _ = W2 at hT ⊢
   obtain ⟨q,hq⟩:∃ q,wr.heap.size = q:=⟨_,rfl⟩
   rw [hq] at hT ⊢
   have HT0:=Lib.hid hT
   clear hT hq HIr
   obtain ⟨B2,d2,vs,hv,hnc2,hcm2,-,hl,hch⟩:=open_slice HR.out.1
   simp only [Value.slice.injEq,true_and] at hv
   obtain ⟨rfl,rfl⟩:=hv
   have HV:=Lib.hid (And.intro hl hch)
   clear hl hch
   go_loopw [56] (fun i wr=>∃ (pre post:List ValD),a.vals = pre++post∧i = .int .i64 pre.length∧TimI w cs q (pre.map (fun v=>(constN v:Int))++List.replicate post.length 0) wr) (fun i _=>a.vals.length - (intOf i).toNat)
   case atStart=>exact ⟨[],a.vals,rfl,rfl,HT0.out⟩
   case round =>
    obtain ⟨pre2,post2,hpp,rfl,hI⟩:=hrel
    have HTr:=Lib.hid hI
    clear hI
    cases post2 with
    | cons z post2 =>
     obtain ⟨hz,hlt,hpp',hpl⟩:=split_at hpp
     obtain ⟨b2,o2,zc,rfl,hbB,hrz,hcell⟩:=elem_at HV.out.1 HV.out.2 (by decide) hz
     have hat:At wr b2 (o2 + pre2.length * 8) zc:=fun j u hu=>by
      have h1:=(hcell j u hu).1
      rw [← Nat.add_assoc] at h1
      exact (HTr.out.inv.below.cell (p:=⟨b2,o2 + pre2.length * 8 + j,none⟩) hbB).trans h1
     have hv8:=val_facts hrz
     have hsz:(Tryd.prog.info? 75).map (·.size) = some zc.length:=by rw [hv8.1];kernel_rfl
     have hft:0 + zc.length ≤ zeroV.length:=by rw [hv8.1];exact of_decide_eq_true (by kernel_rfl)
     have HA:=Lib.hid (And.intro hat (And.intro hsz (And.intro hft (And.intro (show zc.length = zeroV.length from hv8.1) hv8.2))))
     have hk0:(0:Int) ≤ (pre2.length:Int):=Int.natCast_nonneg _
     have hk1:(pre2.length:Int) < (a.vals.length:Int):=by omega
     have H:=Lib.hid (And.intro hpp' hpl)
     clear hpp hpp' hpl hz hcell hbB hrz hat hv8 hsz hft
     go_wp2_with (first
      |(with_reducible refine wpList_load_agg rfl 75 _ rfl _ _ _ rfl zc Tryd.underlying75 rfl HA.out.2.1 HA.out.1 ?_)
      |(with_reducible refine wpList_alloc_row rfl 75 rfl zeroV zeroV_zero ?_)
      |(with_reducible refine wpList_store_agg rfl 75 _ _ rfl _ 0 zc rfl rfl 75 zeroV (heap_alloc_new _ _) HA.out.2.1 HA.out.2.2.1 HA.out.2.2.2.2.2 ?_;have hY:=laid_row wr 75 zeroV zc HA.out.2.2.2.1;generalize World.setRow _ _ _ = v2 at hY ⊢;have HY:=Lib.hid hY;clear hY;refine halt ?_))
     unfold Halt
     have H2:=Lib.hid (HTr.out.next HY.out.1)
     have hx0:=H2.out.cell (k:=pre2.length) (x:=0) (by simp)
     have fL:=H2.out.free pre2.length
     have c2:v2.cell? ⟨wr.heap.size,2,none⟩ = some (.bool z.const):=(cell_of_row _ _ _ _ _ _ HY.out.2.1).trans (by rw [List.getElem?_toArray];exact HA.out.2.2.2.2.1)
     obtain ⟨y,hy⟩:∃ y,z.const = y:=⟨_,rfl⟩
     rw [hy] at c2
     have HYC:=Lib.hid hy
     clear hy
     have hrel:Hid (∀ W:World,TimI w cs q ((pre2.map (fun v=>(constN v:Int))++List.replicate (z :: post2).length 0).set pre2.length (constN z:Int)) W→∃ (pre3 post3:List ValD),a.vals = pre3++post3∧Value.int .i64 ((pre2.length:Int) + 1) = .int .i64 pre3.length∧TimI w cs q (pre3.map (fun v=>(constN v:Int))++List.replicate post3.length 0) W):=Lib.hid fun W h=>by
      refine ⟨pre2++[z],post2,H.out.1,by rw [H.out.2];go_num,?_⟩
      have e:(pre2.map (fun v=>(constN v:Int))++List.replicate (z :: post2).length 0).set pre2.length (constN z:Int) = (pre2++[z]).map (fun v=>(constN v:Int))++List.replicate post2.length 0:=by
       rw [List.set_append]
       simp [List.replicate_succ]
      rwa [e] at h
     cases y with
     | true =>
      go_wp2
      go_roundw
      case rel =>
       have h:=H2.out.set pre2.length 1
       exact hrel.out _ (by rw [show (constN z:Int) = 1 by unfold constN;rw [HYC.out];rfl];exact h)
      case measure=>simp [intOf];omega
     | false =>
      go_wp2
      go_roundw
      case rel =>
       have h:=H2.out
       refine hrel.out _ ?_
       rw [show (constN z:Int) = 0 by unfold constN;rw [HYC.out];rfl,List.set_append]
       simpa [List.replicate_succ] using h
      case measure=>simp [intOf];omega
    | nil =>
     obtain ⟨hge2,hpl⟩:=split_end hpp
     replace hpl:=Lib.hid hpl
     clear hpp
     have hst:TimI w cs q (timesG a []) wr:=by
      have h:=HTr.out
      rw [hpl.out] at h
      rw [timesG_nil]
      simpa using h
     have HT1:=Lib.hid hst
     clear hst HTr
     have c2:=HT1.out.inv.cell HC.out.2.2.1
     go_wp2_with fail
     clear c2
     obtain ⟨B3,d3,is,hv,hnc3,hcm3,-,hl,hch⟩:=open_slice HR.out.2.2.1
     simp only [Value.slice.injEq,true_and] at hv
     obtain ⟨rfl,rfl⟩:=hv
     have HM:=Lib.hid (And.intro hl hch)
     clear hl hch
     obtain ⟨wb,rfl⟩:∃ wb,wb = wr:=⟨_,rfl⟩
     go_loopw [73] (fun i wr=>∃ (pre post:List Int),a.inputs = pre++post∧i = .int .i64 pre.length∧TimI w cs q (timesG a pre) wr) (fun i _=>a.inputs.length - (intOf i).toNat)
     case atStart=>exact ⟨[],a.inputs,rfl,rfl,HT1.out⟩
     case round =>
      obtain ⟨pre3,post3,hpp,rfl,hI⟩:=hrel
      have HTs:=Lib.hid hI
      clear hI
      cases post3 with
      | cons v post3 =>
       obtain ⟨hz,hlt,hpp',hpl3⟩:=split_at hpp
       obtain ⟨hv0,hv1⟩:=HS.out.inputs v (List.mem_of_getElem? hz)
       obtain ⟨j,rfl⟩:∃ j:Nat,v = (j:Int):=⟨v.toNat,by omega⟩
       obtain ⟨b2,o2,xc,rfl,hbB2,hrz,hcell⟩:=elem_at HM.out.1 HM.out.2 (by decide) hz
       obtain ⟨rfl,hv64⟩:=hrz
       have k4':wr.cell? ⟨b2,o2 + pre3.length,none⟩ = some (.int .i64 (j:Int)):=(HTs.out.inv.below.cell (p:=⟨b2,o2 + pre3.length,none⟩) hbB2).trans (cell_of_elem (α:=Int) rfl hcell rfl)
       have hk2:(0:Int) ≤ (pre3.length:Int):=Int.natCast_nonneg _
       have hk3:(pre3.length:Int) < (a.inputs.length:Int):=by omega
       have H:=Lib.hid (And.intro hpp' hpl3)
       have hj:j < a.vals.length:=by omega
       have hx0:=HTs.out.cell (timesG_get a pre3 hj)
       have hle:=HS.out.times_le (l:=pre3) (r:=((j:Int) :: post3)++a.nodes.flatMap (·.outs)) (by unfold defsD;rw [hpp,List.append_assoc]) hj
       have hset:=Lib.hid (timesG_set a pre3 hj)
       have fL:=HTs.out.free j
       clear hpp hpp' hpl3 hz hcell hbB2 hv64
       generalize (a.vals.map constN).getD j 0 + pre3.count (j:Int) = x at hx0 hle hset
       have hx1:(0:Int) ≤ (x:Int):=Int.natCast_nonneg _
       have hx2:(x:Int) ≤ 1:=by omega
       clear hle
       go_wp2
       go_roundw
       case rel =>
        refine ⟨pre3++[(j:Int)],post3,H.out.1,by rw [H.out.2];go_num,?_⟩
        rw [← hset.out]
        exact HTs.out.set j ((x:Int) + 1)
       case measure=>simp [intOf];omega
      | nil =>
       obtain ⟨hge3,hpl3⟩:=split_end hpp
       replace hpl3:=Lib.hid hpl3
       clear hpp
       have HT2:=Lib.hid (show TimI w cs q (timesG a (a.inputs++([]:List GNodeD).flatMap (·.outs))) wr by
        have h:=HTs.out
        rw [hpl3.out] at h
        simpa using h)
       clear HTs
       have c1:=HT2.out.inv.cell HC.out.2.1
       go_wp2_with fail
       clear c1
       obtain ⟨wc,rfl⟩:∃ wc,wc = wr:=⟨_,rfl⟩
       go_loopw [87] (fun i wr=>∃ (pre post:List GNodeD),a.nodes = pre++post∧i = .int .i64 pre.length∧TimI w cs q (timesG a (a.inputs++pre.flatMap (·.outs))) wr) (fun i _=>a.nodes.length - (intOf i).toNat)
       case atStart=>exact ⟨[],a.nodes,rfl,rfl,HT2.out⟩
       case round =>
        obtain ⟨pre4,post4,hpp,rfl,hI⟩:=hrel
        have HT4:=Lib.hid hI
        clear hI
        cases post4 with
        | cons z post4 =>
         obtain ⟨hz,hlt,hpp',hpl⟩:=split_at hpp
         have hmem:=List.mem_of_getElem? hz
         obtain ⟨b,o,zc,rfl,hbB,hrz,hcell⟩:=elem_at HN2.out.1 HN2.out.2 (by decide) hz
         have hat:At wr b (o + pre4.length * 40) zc:=fun j u hu=>by
          have h1:=(hcell j u hu).1
          rw [← Nat.add_assoc] at h1
          exact (HT4.out.inv.below.cell (p:=⟨b,o + pre4.length * 40 + j,none⟩) hbB).trans h1
         have HA:=Lib.hid (And.intro hat (node_lay hrz))
         obtain ⟨ss,I1,i1,O1,o1,-,z37,z38,-,-,zi,zo,-⟩:=gnode_facts hrz
         obtain ⟨no1,no2⟩:=slice_bnd zo
         have HZ:=Lib.hid (And.intro z37 (And.intro z38 (And.intro zi (And.intro zo hmem))))
         have hk0:(0:Int) ≤ (pre4.length:Int):=Int.natCast_nonneg _
         have hk1:(pre4.length:Int) < (a.nodes.length:Int):=by omega
         have H:=Lib.hid (And.intro hpp' hpl)
         clear hpp hpp' hpl hz hcell hbB hrz hat z37 z38 zi zo hmem
         go_wp2_with (first
          |(with_reducible refine wpList_load_agg rfl 68 _ rfl _ _ _ rfl zc Tryd.underlying68 rfl HA.out.2.1 HA.out.1 ?_)
          |(with_reducible refine wpList_alloc_row rfl 68 rfl zeroGN zeroGN_zero ?_)
          |(with_reducible refine wpList_store_agg rfl 68 _ _ rfl _ 0 zc rfl rfl 68 zeroGN (heap_alloc_new _ _) HA.out.2.1 HA.out.2.2.1 HA.out.2.2.2.2 ?_;have hY:=laid_row wr 68 zeroGN zc HA.out.2.2.2.1;generalize World.setRow _ _ _ = v2 at hY ⊢;have HY:=Lib.hid hY;clear hY;refine halt ?_))
         unfold Halt
         have HT5:=Lib.hid (HT4.out.next HY.out.1)
         have c38:v2.cell? ⟨wr.heap.size,38,none⟩ = some (.slice O1 z.outs.length o1):=(cell_of_row _ _ _ _ _ _ HY.out.2.1).trans (by rw [List.getElem?_toArray];exact HZ.out.2.1)
         go_wp2_with fail
         clear c38
         obtain ⟨O1',o1',ys,hv,hnc5,hcm5,-,hl2,hch2⟩:=open_slice HZ.out.2.2.2.1
         simp only [Value.slice.injEq,true_and] at hv
         obtain ⟨rfl,rfl⟩:=hv
         have HO:=Lib.hid (And.intro hl2 hch2)
         clear hl2 hch2
         obtain ⟨wd,rfl⟩:∃ wd,wd = wr:=⟨_,rfl⟩
         go_loopw [94] (fun i wr=>∃ (pre5 post5:List Int),z.outs = pre5++post5∧i = .int .i64 pre5.length∧TimI w cs q (timesG a (a.inputs++pre4.flatMap (·.outs)++pre5)) wr) (fun i _=>z.outs.length - (intOf i).toNat)
         case atStart=>exact ⟨[],z.outs,rfl,rfl,by rw [List.append_nil];exact HT5.out⟩
         case round =>
          obtain ⟨pre5,post5,hpp,rfl,hI⟩:=hrel
          have HT6:=Lib.hid hI
          clear hI
          cases post5 with
          | cons v post5 =>
           obtain ⟨hz,hlt,hpp',hpl5⟩:=split_at hpp
           obtain ⟨hv0,hv1⟩:=HS.out.outs z HZ.out.2.2.2.2 v (List.mem_of_getElem? hz)
           obtain ⟨j,rfl⟩:∃ j:Nat,v = (j:Int):=⟨v.toNat,by omega⟩
           obtain ⟨b2,o2,xc,rfl,hbB2,hrz,hcell⟩:=elem_at HO.out.1 HO.out.2 (by decide) hz
           obtain ⟨rfl,hv64⟩:=hrz
           have k4':wr.cell? ⟨b2,o2 + pre5.length,none⟩ = some (.int .i64 (j:Int)):=(HT6.out.inv.below.cell (p:=⟨b2,o2 + pre5.length,none⟩) hbB2).trans (cell_of_elem (α:=Int) rfl hcell rfl)
           have hk2:(0:Int) ≤ (pre5.length:Int):=Int.natCast_nonneg _
           have hk3:(pre5.length:Int) < (z.outs.length:Int):=by omega
           have H5:=Lib.hid (And.intro hpp' hpl5)
           have hj:j < a.vals.length:=by omega
           have hx0:=HT6.out.cell (timesG_get a _ hj)
           have hle:=HS.out.times_le (l:=a.inputs++pre4.flatMap (·.outs)++pre5) (r:=((j:Int) :: post5)++post4.flatMap (·.outs)) (by unfold defsD;rw [H.out.1];simp [hpp]) hj
           have hset:=Lib.hid (timesG_set a (a.inputs++pre4.flatMap (·.outs)++pre5) hj)
           have fL:=HT6.out.free j
           clear hpp hpp' hpl5 hz hcell hbB2 hv64
           generalize (a.vals.map constN).getD j 0 + (a.inputs++pre4.flatMap (·.outs)++pre5).count (j:Int) = x at hx0 hle hset
           have hx1:(0:Int) ≤ (x:Int):=Int.natCast_nonneg _
           have hx2:(x:Int) ≤ 1:=by omega
           clear hle
           go_wp2
           go_roundw
           case rel =>
            refine ⟨pre5++[(j:Int)],post5,H5.out.1,by rw [H5.out.2];go_num,?_⟩
            rw [← List.append_assoc,← hset.out]
            exact HT6.out.set j ((x:Int) + 1)
           case measure=>simp [intOf];omega
          | nil =>
           obtain ⟨hge5,hpl5⟩:=split_end hpp
           replace hpl5:=Lib.hid hpl5
           clear hpp
           go_wp2
           go_roundw
           case rel =>
            refine ⟨pre4++[z],post4,H.out.1,by rw [H.out.2];go_num,?_⟩
            have h:=HT6.out
            rw [hpl5.out,List.append_assoc] at h
            rw [List.flatMap_append]
            simpa using h
           case measure=>simp [intOf];omega
        | nil =>
         obtain ⟨hge4,hpl⟩:=split_end hpp
         replace hpl:=Lib.hid hpl
         clear hpp
         have HT7:=Lib.hid (show TimI w cs q (timesG a (defsD a)) wr by
          have h:=HT4.out
          rw [hpl.out] at h
          exact h)
         clear HT4
         go_wp2_with fail
         have hr7:=HT7.out.rep (by rw [timesG_len];exact hs) HS.out.times_bd
         rw [timesG_len] at hr7
         have hc7:=containsInts0_any (timesG a (defsD a)) _ 57 (fun x=>decide (x > 1)) (fun V=>wr = V) wr (fun _ _=>rfl) hr7 rfl (fun V h=>h ▸ Below.refl _ _) (fun x _ _ V hV=>(chk3_any x V).mono (by rintro e w' ⟨rfl,rfl⟩;exact ⟨rfl,hV⟩))
         rw [HS.out.times_ok] at hc7
         clear hr7
         refine hc7.mono ?_
         clear hc7
         rintro e w8 ⟨rfl,rfl⟩
         have HI8:=Lib.hid HT7.out.inv
         have HSZ:=Lib.hid (show (Tryd.prog.info? 63).map (·.size) = some cs.length by rw [show cs.length = 4 from Rep.len HG.out];kernel_rfl)
         clear HT7
         go_wp2_with (first
          |(with_reducible refine wpList_load_agg rfl 63 _ rfl _ w.heap.size 0 rfl cs Tryd.underlying63 rfl HSZ.out (At.of_row HI8.out.row) ?_))
         refine (defined_any cs a wr (HI8.out.keep HG.out) hs HS.out.inputs).mono ?_
         rintro e w9 ⟨tq,rfl,htq,harr,hb9⟩
         have hTh:ThI w cs tq (definedD a) w9:=⟨HI8.out.next hb9,harr,by have:=HI8.out.lt;omega⟩
         have HH0:=Lib.hid hTh
         clear hTh harr htq hb9 HI8
         have c1:=HH0.out.inv.cell HC.out.2.1
         go_wp2_with fail
         clear c1
         obtain ⟨we,rfl⟩:∃ we,we = wr:=⟨_,rfl⟩
         go_loopw [113] (fun i wr=>∃ (pre post:List GNodeD),a.nodes = pre++post∧i = .int .i64 pre.length∧flowsD (thereD (definedD a) pre) post∧ThI w cs tq (thereD (definedD a) pre) wr) (fun i _=>a.nodes.length - (intOf i).toNat)
         case atStart=>exact ⟨[],a.nodes,rfl,rfl,HS.out.flows,HH0.out⟩
         case round =>
          obtain ⟨pre6,post6,hpp,rfl,hfl,hI⟩:=hrel
          have HH:=Lib.hid hI
          clear hI
          cases post6 with
          | cons z post6 =>
           obtain ⟨hz,hlt,hpp',hpl⟩:=split_at hpp
           have hmem:=List.mem_of_getElem? hz
           obtain ⟨hrd,hfl'⟩:=hfl
           have HFL:=Lib.hid (And.intro hrd hfl')
           clear hrd hfl'
           obtain ⟨b,o,zc,rfl,hbB,hrz,hcell⟩:=elem_at HN2.out.1 HN2.out.2 (by decide) hz
           have hat:At wr b (o + pre6.length * 40) zc:=fun j u hu=>by
            have h1:=(hcell j u hu).1
            rw [← Nat.add_assoc] at h1
            exact (HH.out.inv.below.cell (p:=⟨b,o + pre6.length * 40 + j,none⟩) hbB).trans h1
           have HA:=Lib.hid (And.intro hat (And.intro (node_lay hrz) (gnode_len hrz)))
           obtain ⟨ss,I1,i1,O1,o1,-,z37,z38,-,-,zi,zo,-⟩:=gnode_facts hrz
           obtain ⟨no1,no2⟩:=slice_bnd zo
           have HZ:=Lib.hid (And.intro z37 (And.intro z38 (And.intro zi (And.intro zo hmem))))
           have hk0:(0:Int) ≤ (pre6.length:Int):=Int.natCast_nonneg _
           have hk1:(pre6.length:Int) < (a.nodes.length:Int):=by omega
           have H:=Lib.hid (And.intro hpp' hpl)
           clear hpp hpp' hpl hz hcell hbB hrz hat z37 z38 zi zo hmem
           go_wp2_with (first
            |(with_reducible refine wpList_load_agg rfl 68 _ rfl _ _ _ rfl zc Tryd.underlying68 rfl HA.out.2.1.1 HA.out.1 ?_)
            |(with_reducible refine wpList_alloc_row rfl 68 rfl zeroGN zeroGN_zero ?_)
            |(with_reducible refine wpList_store_agg rfl 68 _ _ rfl _ 0 zc rfl rfl 68 zeroGN (heap_alloc_new _ _) HA.out.2.1.1 HA.out.2.1.2.1 HA.out.2.1.2.2.2 ?_;have hY:=laid_row wr 68 zeroGN zc HA.out.2.1.2.2.1;generalize World.setRow _ _ _ = v2 at hY ⊢;have HY:=Lib.hid hY;clear hY;refine halt ?_))
           unfold Halt
           have HH5:=Lib.hid (HH.out.next HY.out.1)
           go_wp2_with (first
            |(with_reducible refine wpList_load_agg rfl 68 _ rfl _ wr.heap.size 0 rfl zc Tryd.underlying68 rfl HA.out.2.1.1 (At.of_row HY.out.2.1) ?_))
           refine (ready_any zc z.ins (.slice I1 z.ins.length i1) tq a.vals.length a.vals.length (thereD (definedD a) pre6) 4 v2 HA.out.2.2 HZ.out.1 (HH5.out.inv.keep HZ.out.2.2.1) HH5.out.arr (by rw [there_len,definedD_len]) (fun x hx=>(HS.out.ins z HZ.out.2.2.2.2 x hx).2)).mono ?_
           rw [HFL.out.1]
           rintro e w10 ⟨rfl,hb10⟩
           have HH6:=Lib.hid (HH5.out.next hb10)
           have c38:w10.cell? ⟨wr.heap.size,38,none⟩ = some (.slice O1 z.outs.length o1):=(hb10.cell (p:=⟨wr.heap.size,38,none⟩) (by have:=HY.out.2.2;simp only;omega)).trans ((cell_of_row _ _ _ _ _ _ HY.out.2.1).trans (by rw [List.getElem?_toArray];exact HZ.out.2.1))
           clear hb10
           go_wp2_with fail
           clear c38
           obtain ⟨O1',o1',ys,hv,hnc5,hcm5,-,hl2,hch2⟩:=open_slice HZ.out.2.2.2.1
           simp only [Value.slice.injEq,true_and] at hv
           obtain ⟨rfl,rfl⟩:=hv
           have HO:=Lib.hid (And.intro hl2 hch2)
           clear hl2 hch2
           obtain ⟨wf,rfl⟩:∃ wf,wf = wr:=⟨_,rfl⟩
           go_loopw [124] (fun i wr=>∃ (pre7 post7:List Int),z.outs = pre7++post7∧i = .int .i64 pre7.length∧ThI w cs tq (setsT (thereD (definedD a) pre6) pre7) wr) (fun i _=>z.outs.length - (intOf i).toNat)
           case atStart=>exact ⟨[],z.outs,rfl,rfl,HH6.out⟩
           case round =>
            obtain ⟨pre7,post7,hpp,rfl,hI⟩:=hrel
            have HJ:=Lib.hid hI
            clear hI
            cases post7 with
            | cons v post7 =>
             obtain ⟨hz,hlt,hpp',hpl7⟩:=split_at hpp
             obtain ⟨hv0,hv1⟩:=HS.out.outs z HZ.out.2.2.2.2 v (List.mem_of_getElem? hz)
             obtain ⟨j,rfl⟩:∃ j:Nat,v = (j:Int):=⟨v.toNat,by omega⟩
             obtain ⟨b2,o2,xc,rfl,hbB2,hrz,hcell⟩:=elem_at HO.out.1 HO.out.2 (by decide) hz
             obtain ⟨rfl,hv64⟩:=hrz
             have k4':wr.cell? ⟨b2,o2 + pre7.length,none⟩ = some (.int .i64 (j:Int)):=(HJ.out.inv.below.cell (p:=⟨b2,o2 + pre7.length,none⟩) hbB2).trans (cell_of_elem (α:=Int) rfl hcell rfl)
             have hk2:(0:Int) ≤ (pre7.length:Int):=Int.natCast_nonneg _
             have hk3:(pre7.length:Int) < (z.outs.length:Int):=by omega
             have H7:=Lib.hid (And.intro hpp' hpl7)
             obtain ⟨x0,hx0⟩:=HJ.out.cell (k:=j) (by rw [setsT_len,there_len,definedD_len];omega)
             have fL:=HJ.out.free j
             clear hpp hpp' hpl7 hz hcell hbB2 hv64
             go_wp2
             go_roundw
             case rel =>
              refine ⟨pre7++[(j:Int)],post7,H7.out.1,by rw [H7.out.2];go_num,?_⟩
              rw [setsT_snoc]
              exact HJ.out.set j true
             case measure=>simp [intOf];omega
            | nil =>
             obtain ⟨hge7,hpl7⟩:=split_end hpp
             replace hpl7:=Lib.hid hpl7
             clear hpp
             go_wp2
             go_roundw
             case rel =>
              refine ⟨pre6++[z],post6,H.out.1,by rw [H.out.2];go_num,?_,?_⟩
              ·rw [there_snoc];exact HFL.out.2
              ·rw [there_snoc]
               have h:=HJ.out
               rw [hpl7.out] at h
               exact h
             case measure=>simp [intOf];omega
          | nil =>
           obtain ⟨hge6,hpl⟩:=split_end hpp
           replace hpl:=Lib.hid hpl
           clear hpp hfl
           have HE:=Lib.hid (show ThI w cs tq (thereD (definedD a) a.nodes) wr by
            have h:=HH.out
            rw [hpl.out] at h
            exact h)
           clear HH
           have c3:=HE.out.inv.cell HC.out.2.2.2
           go_wp2_with fail
           clear c3
           refine (ready_any _ a.outputs (.slice A4 a.outputs.length k4) tq a.vals.length a.vals.length (thereD (definedD a) a.nodes) 4 wr (by kernel_rfl) (by kernel_rfl) (HE.out.inv.keep HR.out.2.2.2) HE.out.arr (by rw [there_len,definedD_len]) (fun x hx=>(HS.out.outputs x hx).2)).mono ?_
           rw [HS.out.ends]
           rintro e w11 ⟨rfl,hb⟩
           have HB:=Lib.hid (HE.out.next hb).inv.below
           clear hb
           go_wp2
           go_ret
           exact ⟨rfl,HB.out⟩
end Go.Proofs.YtgbkhcmbmffljaaDoor
