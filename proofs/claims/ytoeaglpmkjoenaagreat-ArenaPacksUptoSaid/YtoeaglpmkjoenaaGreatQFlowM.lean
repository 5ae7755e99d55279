/-
  Chapter 20: plans and tasks in memory; does a node live? No condition.
-/
/-
  Chapter 20: a row of bits. No condition.
-/
/-
  Chapter 20: how what comes behind a node is found, round by round; and how a task's row of ends is found. No program in sight.
-/
/-
  Chapter 20: a map from numbers to lists of numbers. No condition.
-/
import Derived.Test.YtoeaglpmkjoenaaGreatQOfV
import Derived.Test.YtoeaglpmkjoenaaGreatQInfA
import Derived.Maps.OwnRows
import Derived.Maps.GroupsBeside
import Derived.Lib.SmallJoins
import Derived.Test.YtoeaglpmkjoenaaGreatQGMaps
set_option linter.unusedSimpArgs false
set_option linter.unusedVariables false
namespace Go.Proofs.YtoeaglpmkjoenaaGreat
open Go.RowKit
open Rep (rep)
instance:Rep TaskD where
 size:=4
 bytes:=48
 rep w Z cs a:=∃ c0 c1 c2 c3,cs = c0++(c1++(c2++c3))∧rep w Z c0 a.node∧rep w Z c1 a.lo∧rep w Z c2 a.hi∧rep w Z c3 a.after
 len:=by
  rintro w Z cs a ⟨c0,c1,c2,c3,rfl,h0,h1,h2,h3⟩
  simp only [List.length_append,Rep.len h0,Rep.len h1,Rep.len h2,Rep.len h3];rfl
 one:=by
  rintro w Z cs a ⟨c0,c1,c2,c3,rfl,h0,h1,h2,h3⟩
  exact app_one (Rep.one h0) (app_one (Rep.one h1) (app_one (Rep.one h2) (Rep.one h3)))
 keep:=by
  rintro w w' Z cs a ⟨c0,c1,c2,c3,hc,h0,h1,h2,h3⟩ k
  exact ⟨c0,c1,c2,c3,hc,Rep.keep h0 k,Rep.keep h1 k,Rep.keep h2 k,Rep.keep h3 k⟩
 more:=by
  rintro w Z Z' cs a ⟨c0,c1,c2,c3,hc,h0,h1,h2,h3⟩ k
  exact ⟨c0,c1,c2,c3,hc,Rep.more h0 k,Rep.more h1 k,Rep.more h2 k,Rep.more h3 k⟩
theorem open_TaskD {w:World} {Z:Zone} {cs:List Value} {a:TaskD} (h:rep w Z cs a):∃ A k,cs = [.int .i64 a.node,.int .i64 a.lo,.int .i64 a.hi,.slice A a.after.length k]∧I64 a.node∧I64 a.lo∧I64 a.hi∧rep w Z [.slice A a.after.length k] a.after:=by
 obtain ⟨_,_,_,_,rfl,⟨rfl,h0⟩,⟨rfl,h1⟩,⟨rfl,h2⟩,h3⟩:=h
 obtain ⟨A,k,rfl⟩:=slice_form h3
 exact ⟨A,k,rfl,h0,h1,h2,h3⟩
theorem shut_TaskD {w:World} {Z:Zone} {a:TaskD} {v:Value} (h0:I64 a.node) (h1:I64 a.lo) (h2:I64 a.hi) (h3:rep w Z [v] a.after):rep w Z [.int .i64 a.node,.int .i64 a.lo,.int .i64 a.hi,v] a :=
 ⟨[_],[_],[_],[_],rfl,⟨rfl,h0⟩,⟨rfl,h1⟩,⟨rfl,h2⟩,h3⟩
instance:Rep PlanD where
 size:=7
 bytes:=168
 rep w Z cs a:=∃ c0 c1 c2 c3,cs = c0++(c1++(c2++c3))∧rep w Z c0 a.graph∧rep w Z c1 a.tasks∧rep w Z c2 a.size∧rep w Z c3 a.live
 len:=by
  rintro w Z cs a ⟨c0,c1,c2,c3,rfl,h0,h1,h2,h3⟩
  simp only [List.length_append,Rep.len h0,Rep.len h1,Rep.len h2,Rep.len h3];rfl
 one:=by
  rintro w Z cs a ⟨c0,c1,c2,c3,rfl,h0,h1,h2,h3⟩
  exact app_one (Rep.one h0) (app_one (Rep.one h1) (app_one (Rep.one h2) (Rep.one h3)))
 keep:=by
  rintro w w' Z cs a ⟨c0,c1,c2,c3,hc,h0,h1,h2,h3⟩ k
  exact ⟨c0,c1,c2,c3,hc,Rep.keep h0 k,Rep.keep h1 k,Rep.keep h2 k,Rep.keep h3 k⟩
 more:=by
  rintro w Z Z' cs a ⟨c0,c1,c2,c3,hc,h0,h1,h2,h3⟩ k
  exact ⟨c0,c1,c2,c3,hc,Rep.more h0 k,Rep.more h1 k,Rep.more h2 k,Rep.more h3 k⟩
theorem open_PlanD {w:World} {Z:Zone} {cs:List Value} {a:PlanD} (h:rep w Z cs a):∃ A1 k1 A2 k2 A3 k3 A4 k4 A5 k5 A6 k6 A7 k7,cs = [.slice A1 a.graph.vals.length k1,.slice A2 a.graph.nodes.length k2,.slice A3 a.graph.inputs.length k3,.slice A4 a.graph.outputs.length k4,.slice A5 a.tasks.length k5,.slice A6 a.size.length k6,.slice A7 a.live.length k7] ∧
  rep w Z [.slice A1 a.graph.vals.length k1] a.graph.vals∧rep w Z [.slice A2 a.graph.nodes.length k2] a.graph.nodes∧rep w Z [.slice A3 a.graph.inputs.length k3] a.graph.inputs∧rep w Z [.slice A4 a.graph.outputs.length k4] a.graph.outputs∧rep w Z [.slice A5 a.tasks.length k5] a.tasks∧rep w Z [.slice A6 a.size.length k6] a.size∧rep w Z [.slice A7 a.live.length k7] a.live:=by
 obtain ⟨_,_,_,_,rfl,h0,h1,h2,h3⟩:=h
 obtain ⟨A1,k1,A2,k2,A3,k3,A4,k4,rfl,g1,g2,g3,g4⟩:=open_GraphD h0
 obtain ⟨A5,k5,rfl⟩:=slice_form h1
 obtain ⟨A6,k6,rfl⟩:=slice_form h2
 obtain ⟨A7,k7,rfl⟩:=slice_form h3
 exact ⟨A1,k1,A2,k2,A3,k3,A4,k4,A5,k5,A6,k6,A7,k7,rfl,g1,g2,g3,g4,h1,h2,h3⟩
theorem shut_PlanD {w:World} {Z:Zone} {a:PlanD} {c0:List Value} (h0:rep w Z c0 a.graph) {v1 v2 v3:Value} (h1:rep w Z [v1] a.tasks) (h2:rep w Z [v2] a.size) (h3:rep w Z [v3] a.live):rep w Z (c0++[v1,v2,v3]) a :=
 ⟨c0,[v1],[v2],[v3],rfl,h0,h1,h2,h3⟩
structure PlanI (w:World) (cs:List Value) (p:PlanD) (W:World):Prop where
 box:BoxInv w 30 cs W
 was:rep w (old w.heap.size) cs p
section
variable {w W W':World} {cs:List Value} {p:PlanD}
theorem plan_start (h:rep w (old w.heap.size) cs p):PlanI w cs p (w.alloc (.cells cs.toArray 30)):=⟨box_start _ _ _,h⟩
theorem PlanI.next (h:PlanI w cs p W) (hb:Below W.heap.size W W'):PlanI w cs p W':=⟨h.box.next hb,h.was⟩
theorem PlanI.past (h:PlanI w cs p W) {n:Nat} (hn:w.heap.size < n) (hb:Below n W W'):PlanI w cs p W':=⟨⟨h.box.below.trans (hb.mono (Nat.le_of_lt hn)),(hb.block _ hn).trans h.box.row⟩,h.was⟩
theorem PlanI.lt (h:PlanI w cs p W):w.heap.size < W.heap.size:=h.box.lt
theorem PlanI.arg (h:PlanI w cs p W):rep W (old W.heap.size) cs p:=h.box.keeps' h.was
theorem PlanI.below (h:PlanI w cs p W):Below w.heap.size w W:=h.box.below
theorem PlanI.cell (h:PlanI w cs p W) {j:Nat} {u:Value} (hu:cs[j]? = some u):W.cell? ⟨w.heap.size,j,none⟩ = some u:=cell_row h.box.row hu
theorem PlanI.at (h:PlanI w cs p W):At W w.heap.size 0 cs:=fun j u hu=>by rw [Nat.zero_add];exact h.cell hu
theorem PlanI.size (h:PlanI w cs p W):(Tryz.prog.info? 30).map (·.size) = some cs.length:=by rw [show cs.length = 7 from Rep.len h.was];kernel_rfl
end
theorem plan_size {w:World} {Z:Zone} {cs:List Value} {p:PlanD} (h:rep w Z cs p):(Tryz.prog.info? 30).map (·.size) = some cs.length:=by rw [show cs.length = 7 from Rep.len h];kernel_rfl
def liveB (p:PlanD) (i:Int):Bool:=decide (0 ≤ i) && p.live.getD i.toNat false
theorem liveB_nat (p:PlanD) (i:Nat):liveB p i = true ↔ liveAt p i:=by
 unfold liveB liveAt
 rw [Int.toNat_natCast,List.getD_eq_getElem?_getD]
 cases p.live[i]? with
 | none=>simp
 | some b=>simp
set_option maxRecDepth 100000 in
set_option maxHeartbeats 8000000 in
theorem planlive_any (cs:List Value) (p:PlanD) (i:Int) (w:World) (hr:rep w (old w.heap.size) cs p) :
  Calls Tryz.prog 57 #[.agg cs.toArray,.int .i64 i] w fun e w'=>e = .returned (.bool (liveB p i))∧Below w.heap.size w w':=by
 obtain ⟨A1,k1,A2,k2,A3,k3,A4,k4,A5,k5,A6,k6,A7,k7,hcs,-,-,-,-,-,-,r7⟩:=open_PlanD hr
 have h6:cs[6]? = some (.slice A7 p.live.length k7):=by rw [hcs];rfl
 obtain ⟨n7,n7'⟩:=slice_bnd r7
 obtain ⟨A',c',xs,hv,-,-,-,hl,hch⟩:=open_slice r7
 injection hv with hva hvb hvc
 subst hva
 have HL:=Lib.hid (And.intro hl hch)
 clear hcs r7 hvb hvc hl hch
 go_enter Tryz.func57,Tryz.ntmps57
 go_wp2_with (with_reducible refine wpList_box_row rfl 30 _ rfl cs rfl ?_;have hX:=plan_start hr;generalize World.alloc _ _ = W0 at hX ⊢;have HX:=Lib.hid hX;clear hX hr;refine halt ?_)
 unfold Halt
 have c6:=HX.out.cell h6
 have HE:Hid (liveB p i = (decide (0 ≤ i) && p.live.getD i.toNat false)):=Lib.hid rfl
 by_cases h0:i ≥ 0
 ·obtain ⟨j,rfl⟩:∃ j:Nat,i = (j:Int):=⟨i.toNat,by omega⟩
  by_cases hj:(j:Int) < (p.live.length:Int)
  ·have hjn:j < p.live.length:=by omega
   obtain ⟨b,hb⟩:∃ b,p.live[j]? = some b:=⟨_,List.getElem?_eq_getElem hjn⟩
   obtain ⟨g,o,xc,rfl,hg,hrz,hcell⟩:=elem_at HL.out.1 HL.out.2 (by decide) hb
   have kc:W0.cell? ⟨g,o + j,none⟩ = some (.bool b):=(HX.out.below.cell (p:=⟨g,o + j,none⟩) hg).trans (cell_of_elem (α:=Bool) rfl hcell (by rw [hrz];rfl))
   have hE:liveB p (j:Int) = b:=by rw [HE.out,decide_eq_true h0,Int.toNat_natCast,List.getD_eq_getElem?_getD,hb];rfl
   replace HE:=Lib.hid hE
   clear hE hrz hcell hb hg
   go_wp2
   go_ret
   exact ⟨by rw [HE.out];rfl,HX.out.below⟩
  ·have hE:liveB p (j:Int) = false:=by rw [HE.out,Int.toNat_natCast,List.getD_eq_getElem?_getD,List.getElem?_eq_none (by omega)];simp
   replace HE:=Lib.hid hE
   clear hE
   go_wp2
   go_ret
   exact ⟨by rw [HE.out];rfl,HX.out.below⟩
 ·have hE:liveB p i = false:=by rw [HE.out,decide_eq_false (by omega)];rfl
  replace HE:=Lib.hid hE
  clear hE
  go_wp2
  go_ret
  exact ⟨by rw [HE.out];rfl,HX.out.below⟩
end Go.Proofs.YtoeaglpmkjoenaaGreat
set_option linter.unusedSimpArgs false
set_option linter.unusedVariables false
namespace Go.Proofs.YtoeaglpmkjoenaaGreat
open Go.RowKit
open Rep (rep)
theorem quo64 (i:Nat) (hi:i < 4611686018427387904):wrap64 (Int.tdiv (i:Int) 64) = ((i / 64:Nat):Int):=by
 rw [Int.tdiv_eq_ediv_of_nonneg (by omega)]
 unfold wrap64
 omega
theorem wrap_u64 (x:Nat) (hx:x < 18446744073709551616):IntKind.u64.wrap (x:Int) = (x:Int):=by
 simp [IntKind.wrap,IntKind.signed,IntKind.bits]
 omega
theorem and_one (x:Nat) (hx:x < 18446744073709551616):bits .and .u64 (x:Int) 1 = ((x % 2:Nat):Int):=by
 show IntKind.u64.wrap (((BitVec.ofInt 64 (x:Int) &&& BitVec.ofInt 64 ((1:Nat):Int)).toNat:Nat):Int) = _
 rw [BitVec.ofInt_natCast,BitVec.ofInt_natCast,BitVec.toNat_and,BitVec.toNat_ofNat,BitVec.toNat_ofNat,Nat.mod_eq_of_lt hx,Nat.mod_eq_of_lt (by decide),Nat.and_one_is_mod]
 exact wrap_u64 _ (by omega)
theorem or_bit (x y:Nat) (hx:x < 18446744073709551616) (hy:y < 18446744073709551616):bits .or .u64 (x:Int) (y:Int) = ((x ||| y:Nat):Int):=by
 show IntKind.u64.wrap (((BitVec.ofInt 64 (x:Int) ||| BitVec.ofInt 64 (y:Int)).toNat:Nat):Int) = _
 rw [BitVec.ofInt_natCast,BitVec.ofInt_natCast,BitVec.toNat_or,BitVec.toNat_ofNat,BitVec.toNat_ofNat,Nat.mod_eq_of_lt hx,Nat.mod_eq_of_lt hy]
 exact wrap_u64 _ (Nat.or_lt_two_pow (n:=64) hx hy)
theorem bit_of (x k:Nat) (hx:x < 18446744073709551616):(bits .and .u64 ((x:Int) / 2 ^ k) 1 != 0) = x.testBit k:=by
 have e:(x:Int) / 2 ^ k = ((x / 2 ^ k:Nat):Int):=by simp
 rw [e,and_one _ (Nat.lt_of_le_of_lt (Nat.div_le_self _ _) hx),Nat.testBit_eq_decide_div_mod_eq]
 have:=Nat.mod_two_eq_zero_or_one (x / 2 ^ k)
 rcases this with h | h <;> rw [h] <;> rfl
def W64 (ws:List Nat):Prop:=∀ x ∈ ws,x < 18446744073709551616
def bitAt (ws:List Nat) (i:Nat):Bool:=(ws.getD (i / 64) 0).testBit (i % 64)
set_option maxRecDepth 100000 in
set_option maxHeartbeats 8000000 in
theorem bhas_any (ws:List Nat) (q k i:Nat) (w:World) (t:TypeId) (hq:w.heap[q]? = some (.cells (ws.map fun x:Nat=>Value.int .u64 (x:Int)).toArray t (0,0))) (hi:i / 64 < ws.length) (hb:i < 4611686018427387904) (hw:W64 ws) :
  Calls Tryz.prog 60 #[.slice (some ⟨q,0,none⟩) ws.length k,.int .i64 i] w fun e w'=>e = .returned (.bool (bitAt ws i))∧w' = w:=by
 have hq64:=quo64 i hb
 have kc:w.cell? ⟨q,i / 64,none⟩ = some (.int .u64 ((ws.getD (i / 64) 0:Nat):Int)):=by
  rw [cell_of_row _ _ _ _ _ _ hq,List.getElem?_toArray,List.getElem?_map,List.getD_eq_getElem?_getD,List.getElem?_eq_getElem hi];rfl
 have h1:((i / 64:Nat):Int) < (ws.length:Int):=by omega
 have h0:(0:Int) ≤ ((i / 64:Nat):Int):=Int.natCast_nonneg _
 go_enter Tryz.func60,Tryz.ntmps60
 go_wp2
 go_ret
 refine ⟨?_,rfl⟩
 unfold bitAt
 rw [List.getD_eq_getElem?_getD,List.getElem?_eq_getElem hi,Option.getD_some,← bit_of _ _ (hw _ (List.getElem_mem hi))]
 rfl
theorem info_u64:(Tryz.prog.info? 115).map (fun i=>(i.zero,i.size,i.bytes)) = some (some (.int .u64 0),1,8):=by kernel_rfl
theorem made_u64 (n:Nat):madeCells #[Value.int .u64 0] n = Array.replicate n (Value.int .u64 0):=by
 apply Array.toList_inj.1
 rw [Array.toList_replicate]
 apply List.ext_getElem?
 intro i
 simp only [Array.getElem?_toList,List.getElem?_replicate]
 by_cases h:i < n
 ·rw [if_pos h,Array.getElem?_eq_getElem (by rw [size_madeCells];exact h)]
  simp [madeCells,Nat.mod_one]
 ·rw [if_neg h,Array.getElem?_eq_none (by rw [size_madeCells];omega)]
theorem make_u64 (n:Nat) (w:World) (hn:n ≤ 1048576):(Instr.makeSlice 97 (.int .i64 (n:Int)) (.int .i64 (n:Int))).run Tryz.prog w = .ok (.slice (some ⟨w.heap.size,0,none⟩) n n) (w.alloc (.cells (Array.replicate n (.int .u64 0)) 115)):=by
 obtain ⟨i0,hi0,hz0,hz1,hz2⟩:=info_parts info_u64
 have h:=run_make (P:=Tryz.prog) w 97 115 i0 (.int .u64 0) Tryz.underlying97 hi0 hz0 .i64 .i64 (n:Int) (n:Int) (by omega) (Int.le_refl _) (by rw [hz2];omega) (by omega)
 rw [Int.toNat_natCast,hz1,Nat.mul_one] at h
 rw [h,show (Value.int .u64 0).cells = #[.int .u64 0] from rfl,made_u64]
set_option maxRecDepth 100000 in
set_option maxHeartbeats 8000000 in
theorem rowOf_any (n:Nat) (w:World) (hn:n ≤ 1048576) :
  Calls Tryz.prog 79 #[.int .i64 n] w fun e w'=>e = .returned (.slice (some ⟨w.heap.size,0,none⟩) (n / 64 + 1) (n / 64 + 1))∧w' = w.alloc (.cells ((List.replicate (n / 64 + 1) 0).map fun x:Nat=>Value.int .u64 (x:Int)).toArray 115):=by
 have hq64:=quo64 n (by omega)
 have hmk:=make_u64 (n / 64 + 1) w (by omega)
 rw [show ((n / 64 + 1:Nat):Int) = (n:Int) / 64 + 1 by omega] at hmk
 go_enter Tryz.func79,Tryz.ntmps79
 go_wp2
 go_ret
 exact ⟨rfl,by simp⟩
def setW (ws:List Nat) (i:Nat):List Nat:=ws.set (i / 64) (ws.getD (i / 64) 0 ||| 2 ^ (i % 64))
theorem setW_len (ws:List Nat) (i:Nat):(setW ws i).length = ws.length:=List.length_set ..
theorem setW_64 {ws:List Nat} (h:W64 ws) (i:Nat):W64 (setW ws i):=fun x hx=>by
 rcases List.mem_or_eq_of_mem_set hx with h1 | h1
 ·exact h x h1
 ·rw [h1]
  refine Nat.or_lt_two_pow (n:=64) ?_ (Nat.pow_lt_pow_right (by decide) (Nat.mod_lt _ (by decide)))
  rw [List.getD_eq_getElem?_getD]
  cases hg:ws[i / 64]? with
  | none=>exact Nat.two_pow_pos 64
  | some y=>exact h y (List.mem_of_getElem? hg)
theorem bitAt_set {ws:List Nat} {i:Nat} (hi:i / 64 < ws.length) (j:Nat):bitAt (setW ws i) j = (bitAt ws j || decide (j = i)):=by
 unfold bitAt setW
 rw [List.getD_eq_getElem?_getD,List.getElem?_set]
 by_cases h:i / 64 = j / 64
 ·rw [if_pos h,if_pos hi,Option.getD_some,Nat.testBit_or,Nat.testBit_two_pow,h]
  congr 1
  have:(i % 64 = j % 64) ↔ (j = i):=by omega
  rw [decide_eq_decide]
  exact this
 ·rw [if_neg h,← List.getD_eq_getElem?_getD,decide_eq_false (fun e=>h (by rw [e])),Bool.or_false]
theorem bitAt_zero (n i:Nat):bitAt (List.replicate n 0) i = false:=by
 unfold bitAt
 rw [List.getD_eq_getElem?_getD,List.getElem?_replicate]
 split <;> simp
def u64s (ws:List Nat):List Value:=ws.map fun x:Nat=>Value.int .u64 (x:Int)
theorem u64s_set (ws:List Nat) (k x:Nat):u64s (ws.set k x) = (u64s ws).set k (.int .u64 (x:Int)):=by unfold u64s;rw [List.map_set]
set_option maxRecDepth 100000 in
set_option maxHeartbeats 8000000 in
theorem bset_any (ws:List Nat) (q k i:Nat) (w:World) (t:TypeId) (hq:w.heap[q]? = some (.cells (u64s ws).toArray t (0,0))) (hi:i / 64 < ws.length) (hb:i < 4611686018427387904) (hw:W64 ws) :
  Calls Tryz.prog 80 #[.slice (some ⟨q,0,none⟩) ws.length k,.int .i64 i] w fun e w'=>(∃ v,e = .returned v)∧w'.heap[q]? = some (.cells (u64s (setW ws i)).toArray t (0,0))∧w.grownBy w' (some q):=by
 have hq64:=quo64 i hb
 have kc:w.cell? ⟨q,i / 64,none⟩ = some (.int .u64 ((ws.getD (i / 64) 0:Nat):Int)):=by
  rw [cell_of_row _ _ _ _ _ _ hq,List.getElem?_toArray,u64s,List.getElem?_map,List.getD_eq_getElem?_getD,List.getElem?_eq_getElem hi];rfl
 have kf:w.frozen? ⟨q,i / 64,none⟩ = false:=by simp [World.frozen?,hq]
 have h1:((i / 64:Nat):Int) < (ws.length:Int):=by omega
 have h0:(0:Int) ≤ ((i / 64:Nat):Int):=Int.natCast_nonneg _
 have hbit:bits .or .u64 ((ws[i / 64]:Nat):Int) (IntKind.u64.wrap (2 ^ (i % 64))) = ((ws.getD (i / 64) 0 ||| 2 ^ (i % 64):Nat):Int):=by
  have e2:(2 ^ (i % 64):Nat) < 18446744073709551616:=Nat.pow_lt_pow_right (n:=64) (by decide) (Nat.mod_lt _ (by decide))
  have e1:IntKind.u64.wrap (2 ^ (i % 64)) = ((2 ^ (i % 64):Nat):Int):=by
   rw [← wrap_u64 _ e2];simp
  rw [e1,or_bit _ _ (hw _ (List.getElem_mem hi)) e2,List.getD_eq_getElem?_getD,List.getElem?_eq_getElem hi,Option.getD_some]
 have HQ:=Lib.hid (And.intro hq hbit)
 clear hbit
 go_enter Tryz.func80,Tryz.ntmps80
 go_wp2_with fail
 go_big_region
 go_end0
 have hs:=set_as_row (j:=i / 64) HQ.out.1 (.int .u64 ((ws.getD (i / 64) 0 ||| 2 ^ (i % 64):Nat):Int))
 refine ⟨⟨_,rfl⟩,?_,?_⟩
 ·rw [HQ.out.2]
  show (World.setCell _ _ _).heap[q]? = _
  rw [hs,heap_setRow _ _ _ _ _ HQ.out.1,setW,u64s_set]
  simp
 ·rw [HQ.out.2,hs]
  have:=grown_setRow w q ((u64s ws).toArray.setIfInBounds (i / 64) (.int .u64 ((ws.getD (i / 64) 0 ||| 2 ^ (i % 64):Nat):Int)))
  exact ⟨this.os,this.tape,this.output,this.size,this.block⟩
end Go.Proofs.YtoeaglpmkjoenaaGreat
set_option linter.unusedSimpArgs false
set_option linter.unusedVariables false
namespace Go.Proofs.YtoeaglpmkjoenaaGreat
def usersD (p:PlanD) (k:Int):List Nat:=(List.range p.graph.nodes.length).filter fun i=>decide (p.live[i]? = some true) && (gIns p.graph i).contains k
theorem usersD_mem {p:PlanD} {k:Int} {y:Nat}:y ∈ usersD p k ↔ UsesD p k y:=by
 unfold usersD UsesD liveAt
 rw [List.mem_filter,Bool.and_eq_true,decide_eq_true_eq,List.contains_iff_mem,List.mem_range]
 constructor
 ·exact fun h=>h.2
 ·refine fun h=>⟨?_,h⟩
  obtain ⟨n,hn,_⟩:=gIns_mem h.2
  exact (List.getElem?_eq_some_iff.1 hn).1
def visit (V:List Nat) (ys:List Nat):List Nat:=ys.foldl (fun V y=>if y ∈ V then V else V++[y]) V
theorem visit_cons (V:List Nat) (y:Nat) (ys:List Nat):visit V (y :: ys) = visit (if y ∈ V then V else V++[y]) ys:=rfl
theorem visit_append (V:List Nat) (ys zs:List Nat):visit V (ys++zs) = visit (visit V ys) zs:=by unfold visit;rw [List.foldl_append]
theorem visit_snoc (V:List Nat) (ys:List Nat) (y:Nat):visit V (ys++[y]) = if y ∈ visit V ys then visit V ys else visit V ys++[y]:=by rw [visit_append];rfl
theorem visit_pre (ys:List Nat):∀ V,∃ r,visit V ys = V++r:=by
 induction ys with
 | nil=>exact fun V=>⟨[],by simp [visit]⟩
 | cons y ys ih =>
  intro V
  rw [visit_cons]
  split
  ·exact ih V
  ·obtain ⟨r,hr⟩:=ih (V++[y])
   exact ⟨[y]++r,by rw [hr,List.append_assoc]⟩
theorem visit_mem {x:Nat} (ys:List Nat):∀ V,x ∈ visit V ys ↔ x ∈ V ∨ x ∈ ys:=by
 induction ys with
 | nil=>simp [visit]
 | cons y ys ih =>
  intro V
  rw [visit_cons,ih]
  split
  ·rename_i h
   simp only [List.mem_cons]
   constructor
   ·rintro (h1 | h1)
    ·exact .inl h1
    ·exact .inr (.inr h1)
   ·rintro (h1 | rfl | h1)
    ·exact .inl h1
    ·exact .inl h
    ·exact .inr h1
  ·simp only [List.mem_append,List.mem_cons,List.not_mem_nil,or_false,or_assoc]
theorem visit_nodup (ys:List Nat):∀ V:List Nat,V.Nodup→(visit V ys).Nodup:=by
 induction ys with
 | nil=>exact fun V h=>h
 | cons y ys ih =>
  intro V h
  rw [visit_cons]
  split
  ·exact ih V h
  ·rename_i hy
   refine ih _ (List.nodup_append.2 ⟨h,by simp,?_⟩)
   intro a ha b hb e
   rw [List.mem_singleton] at hb
   subst hb
   subst e
   exact hy ha
theorem nodup_le:∀ {n:Nat} {l:List Nat},l.Nodup→(∀ x ∈ l,x < n)→l.length ≤ n
 | 0,l,_,hl=>by
  cases l with
  | nil=>exact Nat.le_refl _
  | cons x l=>exact absurd (hl x List.mem_cons_self) (Nat.not_lt_zero _)
 | n + 1,l,h,hl=>by
  by_cases hn:n ∈ l
  ·have h1:=nodup_le (n:=n) (h.erase n) fun x hx=>by
    obtain ⟨hne,hx⟩:=(h.mem_erase_iff).1 hx
    have:=hl x hx
    omega
   rw [List.length_erase_of_mem hn] at h1
   omega
  ·have:=nodup_le (n:=n) h fun x hx=>by
    have:=hl x hx
    have:x ≠ n:=fun e=>hn (e ▸ hx)
    omega
   omega
def nextD (p:PlanD) (x:Nat):List Nat:=(gOuts p.graph x).flatMap (usersD p)
theorem nextD_mem {p:PlanD} {x y:Nat}:y ∈ nextD p x ↔ Edge p x y:=by
 unfold nextD Edge
 rw [List.mem_flatMap]
 constructor
 ·rintro ⟨k,hk,hy⟩
  have:=usersD_mem.1 hy
  exact ⟨this.1,k,hk,this.2⟩
 ·rintro ⟨hl,k,hk,hi⟩
  exact ⟨k,hk,usersD_mem.2 ⟨hl,hi⟩⟩
structure Front (p:PlanD) (a:Nat) (V:List Nat) (j:Nat):Prop where
 nodup:V.Nodup
 sound:∀ y ∈ V,Behind p a y
 le:j ≤ V.length + 1
 done:∀ i x y,i < j→(a :: V)[i]? = some x→Edge p x y→y ∈ V
theorem Front.start (p:PlanD) (a:Nat):Front p a [] 0:=⟨List.nodup_nil,by simp,by omega,by intros;omega⟩
theorem Front.lt {p:PlanD} {a j:Nat} {V:List Nat} (h:Front p a V j):V.length ≤ p.graph.nodes.length:=nodup_le h.nodup fun x hx=>(h.sound x hx).lt_len
theorem Front.next {p:PlanD} {a j x:Nat} {V:List Nat} (h:Front p a V j) (hx:(a :: V)[j]? = some x):Front p a (visit V (nextD p x)) (j + 1):=by
 obtain ⟨r,hr⟩:=visit_pre (nextD p x) V
 have hj:=(List.getElem?_eq_some_iff.1 hx).1
 rw [List.length_cons] at hj
 have hb:∀ y,Edge p x y→Behind p a y:=by
  intro y hy
  cases j with
  | zero =>
   cases hx
   exact .one hy
  | succ j=>exact .step (h.sound x (List.mem_of_getElem? hx)) hy
 refine ⟨visit_nodup _ _ h.nodup,?_,?_,?_⟩
 ·intro y hy
  rcases (visit_mem _ _).1 hy with h1 | h1
  ·exact h.sound y h1
  ·exact hb y (nextD_mem.1 h1)
 ·rw [hr,List.length_append]
  omega
 ·intro i z y hi hz he
  by_cases e:i = j
  ·subst e
   rw [hr,← List.cons_append,List.getElem?_append_left (by simp;omega),hx] at hz
   cases hz
   exact (visit_mem _ _).2 (.inr (nextD_mem.2 he))
  ·rw [hr,← List.cons_append,List.getElem?_append_left (by simp;omega)] at hz
   exact (visit_mem _ _).2 (.inl (h.done i z y (by omega) hz he))
theorem Front.all {p:PlanD} {a:Nat} {V:List Nat} (h:Front p a V (V.length + 1)) (y:Nat):y ∈ V ↔ Behind p a y:=by
 refine ⟨h.sound y,fun hb=>?_⟩
 have key:∀ {x:Nat},x ∈ a :: V→∀ z,Edge p x z→z ∈ V:=by
  intro x hx z hz
  obtain ⟨i,hi⟩:=List.mem_iff_getElem?.1 hx
  have:=(List.getElem?_eq_some_iff.1 hi).1
  rw [List.length_cons] at this
  exact h.done i x z this hi hz
 induction hb with
 | one e=>exact key List.mem_cons_self _ e
 | step _ e ih=>exact key (List.mem_cons_of_mem _ ih) _ e
def afterAt (ts:List TaskD) (x:Nat):List Int:=((ts[x]?).map (·.after)).getD []
structure Stack (ts:List TaskD) (i:Nat) (seen:List Bool) (todo:List Nat):Prop where
 len:seen.length = ts.length
 lt:∀ x ∈ todo,x < ts.length
 done:∀ x,(x = i ∨ HasB seen x)→x ∈ todo ∨ ∀ y ∈ afterAt ts x,HasB seen y.toNat
theorem Stack.start (ts:List TaskD) (i:Nat) (hi:i < ts.length):Stack ts i (List.replicate ts.length false) [i]:=by
 refine ⟨List.length_replicate ..,by simpa using hi,?_⟩
 rintro x (rfl | h)
 ·exact .inl (List.mem_singleton.2 rfl)
 ·unfold HasB at h
  rw [List.getElem?_replicate] at h
  split at h <;> simp at h
theorem Stack.all {ts:List TaskD} {i:Nat} {seen:List Bool} (h:Stack ts i seen []) {k:Nat} (hw:Waits ts i k):HasB seen k:=by
 have key:∀ {x k:Nat},Waits ts x k→(x = i ∨ HasB seen x)→HasB seen k:=by
  intro x k hw
  induction hw with
  | one ht hk =>
   intro hx
   rename_i a b t
   have:=(h.done a hx).resolve_left (by simp) (b:Int) (by unfold afterAt;rw [ht];exact hk)
   simpa using this
  | step _ _ ih1 ih2=>exact fun hx=>ih2 (.inr (ih1 hx))
 exact key hw (.inl rfl)
end Go.Proofs.YtoeaglpmkjoenaaGreat
set_option linter.unusedSimpArgs false
set_option linter.unusedVariables false
namespace Go.Proofs.YtoeaglpmkjoenaaGreat
open Go.RowKit
open Rep (rep)
open Go.ChangeShapes
open Go.Maps (Keyed int_keyed keyOf_int_mk IsMap isMap_empty atKey_put_same atKey_put_other)
def datL (l:List Int):DataW Unit:=if l = [] then .nil else .slice (lits .i64 l) []
def MapL (w:World) (base mb n:Nat) (f:Int→List Int):Prop:=∃ D:DataW Unit,w.ownsGroups Tryz.prog 3 base 3 .i64 mb n D∧IsMap D∧∀ s,D.atKey (.int .i64 s) .nil = datL (f s)
theorem zero_ints (w:World):(zeroValue 24).run Tryz.prog w = .ok (.slice none 0 0) w:=by kernel_rfl
section
variable {w w':World} {base mb n:Nat} {f:Int→List Int}
theorem MapL.made (w:World):MapL (w.alloc (.map #[] 0)) (w.heap.size + 1) w.heap.size 0 (fun _=>[]):=⟨_,World.ownsGroups_made _ _ _ _ _,isMap_empty,fun _=>rfl⟩
theorem grown_of_below (h:Below w.heap.size w w'):w.grownBy w' none:=⟨h.os,h.tape,h.output,h.size,fun k hk _=>h.block k hk⟩
theorem MapL.below (h:MapL w base mb n f) (hb:Below w.heap.size w w'):MapL w' base mb n f:=by
 obtain ⟨D,h1,h2,h3⟩:=h
 exact ⟨D,h1.kept (grown_of_below hb) (fun e=>by cases e) (fun _ _ _ x _=>by cases x.val.ownBlock <;> simp),h2,h3⟩
theorem MapL.lt (h:MapL w base mb n f):mb < w.heap.size∧mb < base:=by
 obtain ⟨D,⟨es,clock,hb,_,_,_,h3,_⟩,_⟩:=h
 exact ⟨(Array.getElem?_eq_some_iff.1 hb).1,h3⟩
theorem dat_eq {v:Value} {zs l:List Int} (ho:w.ownsInts base 3 .i64 v zs) (h:datL l = rowDatum .i64 v zs):zs = l:=by
 unfold datL at h
 rcases ho.datum (H:=Unit) with ⟨h1,h2⟩ | h1
 ·rw [h1] at h
  by_cases e:l = []
  ·rw [h2,e]
  ·rw [if_neg e] at h;cases h
 ·rw [h1] at h
  by_cases e:l = []
  ·rw [if_pos e] at h;cases h
  ·rw [if_neg e] at h
   injection h with h
   have:=congrArg (List.map Go.Joins.intIn) h
   rw [Go.Joins.intIn_lits,Go.Joins.intIn_lits] at this
   exact this.symm
theorem MapL.at (h:MapL w base mb n f) (hn:n < maxLen) (s:Int) (hs:I64 s):∃ v,(Instr.lookup 93 (.map (some mb)) (.int .i64 s) false).run Tryz.prog w = .ok v w∧w.ownsInts base 3 .i64 v (f s)∧(f s).length ≤ n:=by
 obtain ⟨D,h1,h2,h3⟩:=h
 obtain ⟨v,zs,hrun,hat,hoi,hzl,-⟩:=h1.at mapIK Tryz.underlying93 (zero_ints _) hn (keyOf_int_mk Tryz.underlying3 (wf_of_I64 hs))
 rw [h3] at hat
 obtain rfl:=dat_eq hoi hat
 exact ⟨v,hrun,hoi,hzl⟩
end
section
variable {P:Program} {md:Region.Mode} {ops:Array Oper} {Q:Exit→Act→World→Prop} {S:World→Prop} {fuel:Nat} {listed:Array Bool} {a:Act} {w:World} {o:Oper}
theorem anyH_append_at (i:Nat) (d:Option Tmp) (hio:ops[i]? = some o) (hd:o.dst = d) (hr:Region.ready md ops listed = [i]) (hw:Region.wanted o (yielded ops a.tmps) = true) (s x:Operand) (t:TypeId)
  (ho:o.op = .call { callee:=.builtin .append,args:=#[s,x],argTypes:=#[t,t] })
  (base:Nat) (e:TypeId) (j:TypeInfo) (z:Value) (size bytes:Nat) (ht:P.underlying t = some (.slice e)) (hi:P.info? e = some j) (hz:j.zero = some z)
  (hsize:j.size = size) (hby:j.bytes = bytes) (hzs:z.cells.size = size) (hsz:0 < size)
  (v:Value) (n:Nat) (xs:List Value) (hs:a.eval s = v) (hown:w.ownsRow base e size v n xs)
  (ad:Addr) (m c:Nat) (news:List Value) (hx:a.eval x = .slice (some ad) m c) (hl:news.length = m * size) (hnews:∀ j u,news[j]? = some u→w.cell? (ad.add j) = some u) (h1:∀ u ∈ news,u.oneCell' = true)
  (h63:n + m ≤ maxLen) (hbytes:(n + m) * bytes ≤ 140737488355328) (hbase:base ≤ w.heap.size)
  (h:∀ v' w',w'.ownsRow base e size v' (n + m) (xs++news)→w.grownBy w' v.ownBlock→(v'.ownBlock = v.ownBlock ∨ v'.ownBlock = some w.heap.size)→S w'∧wpAnyH P md ops Q S fuel (listed.setIfInBounds i true) (a.put d v') w') :
  wpAnyH P md ops Q S (fuel + 1) listed a w:=by
 subst hd
 obtain ⟨v',w',hrun,h2,h3,h4,h5⟩:=run_append_own_at (P:=P) w base t o.type e j z size bytes ht hi hz hsize hby hzs hsz v n xs hown ad m c news hl hnews h1 h63 hbytes hbase
 obtain ⟨hS,hk⟩:=h v' w' h2 h3 h5
 refine anyH_1 i hio hr ⟨hw,v',w',?_,hS,hk⟩
 unfold execOp
 simp only [ho,resolve,invoke,builtin,Sem.run_bind,Sem.run_pure,Result.andThen_ok,List.map_toArray,List.map_cons,List.map_nil,hs,hx,hrun]
theorem anyH_mapUpdate (i:Nat) (hio:ops[i]? = some o) (hr:Region.ready md ops listed = [i]) (hw:Region.wanted o (yielded ops a.tmps) = true) (m x v:Operand) (t:TypeId) (hop:o.op = Op.mapUpdate t m x v)
  {M X V:Value} (hm:a.eval m = M) (hx:a.eval x = X) (hv:a.eval v = V) {w2:World} (hrun:(Instr.mapUpdate t M X V).run P w = .ok () w2) (hS:S w2)
  (h:wpAnyH P md ops Q S fuel (listed.setIfInBounds i true) (a.put o.dst undef) w2):wpAnyH P md ops Q S (fuel + 1) listed a w:=by
 refine wpAnyH_ready hr (by simp) (AllReadyH.cons hio (fun K hK=>?_) AllReadyH.nil)
 rw [if_pos hw]
 unfold Oper.wp
 simp [execOp,hop,hm,hx,hv,hrun,Result.andThen]
 exact hK.out _ _ hS (fun _=>h)
end
end Go.Proofs.YtoeaglpmkjoenaaGreat
