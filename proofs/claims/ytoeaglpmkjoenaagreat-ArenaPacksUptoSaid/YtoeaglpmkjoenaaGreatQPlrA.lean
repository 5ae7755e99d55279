/-
  Chapter 21's document: which sizes may be, which value is next, is a byte free, where does a hole end? No condition.
-/
import Derived.Test.YtoeaglpmkjoenaaGreatQAfter
import Derived.Test.YtoeaglpmkjoenaaGreatQRtD
set_option linter.unusedSimpArgs false
set_option linter.unusedVariables false
namespace Go.Proofs.YtoeaglpmkjoenaaGreat
open Go.RowKit
open Rep (rep)
section
variable {ops:Array Oper} {S:World→Prop} {o:Oper} {a:Act}
theorem yields_geD (hw:Region.wanted o (yielded ops a.tmps) = true) (x y:Operand) (t u:TypeId) (ho:o.op = .binOp .geq t x y u) (p q:Int) (c:Bool) (hx:a.eval x = .int .i64 p) (hy:a.eval y = .int .i64 q) (_:Tryz.prog.underlying t = some (.int .i64)) (h:decide (q ≤ p) = c):YieldsIf Tryz.prog ops S o (.bool c) a :=
 .inl ⟨hw,fun w _=>by
  subst h
  unfold execOp
  simp only [ho,hx,hy]
  go_simp⟩
end
theorem sizes_iff {p:PlanD}:(∀ x ∈ p.size,szB x = false) ↔ ∀ q,q < p.size.length→szB (szAt p q) = false:=by
 constructor
 ·intro h q hq
  refine h _ ?_
  unfold szAt
  rw [List.getD_eq_getElem?_getD,List.getElem?_eq_getElem hq]
  exact List.getElem_mem hq
 ·intro h x hx
  obtain ⟨i,hi⟩:=List.mem_iff_getElem?.1 hx
  have:=h i (List.getElem?_eq_some_iff.1 hi).1
  unfold szAt at this
  rw [List.getD_eq_getElem?_getD,hi] at this
  exact this
def OkB (p:PlanD) (b:Bool):Prop:=b = true ↔ SizesOk p
theorem okB_no {p:PlanD} (h:¬ SizesOk p):OkB p false:=⟨fun e=>(by cases e),fun e=>absurd e h⟩
theorem sizes_lie2 {w:World} {cs:List Value} {p:PlanD} (hr:rep w (old w.heap.size) cs p):∃ A k,cs[5]? = some (.slice A p.size.length k)∧p.size.length ≤ k∧k ≤ 9223372036854775807∧∀ j,j < p.size.length→I64 (szAt p j)∧∃ b o,A = some ⟨b,o,none⟩∧b < w.heap.size∧w.cell? ⟨b,o + j,none⟩ = some (.int .i64 (szAt p j)):=by
 obtain ⟨A,k,h1,h2,h3,h4,h5⟩:=sizes_lie hr
 exact ⟨A,k,h1,h2,h3,fun j hj=>⟨(ints_lie h4 j hj).1,h5 j hj⟩⟩
set_option maxRecDepth 100000 in
set_option maxHeartbeats 8000000 in
theorem sized21_any (cs:List Value) (p:PlanD) (w:World) (hr:rep w (old w.heap.size) cs p) :
  Calls Tryz.prog 19 #[.agg cs.toArray] w (BoolP w (OkB p)):=by
 obtain ⟨A6,k6,h5,n6,n6',h6⟩:=sizes_lie2 hr
 have HC:=Lib.hid (And.intro h5 h6)
 have HR:=Lib.hid hr
 obtain ⟨n,hn⟩:∃ n,p.size.length = n:=⟨_,rfl⟩
 rw [hn] at HC n6
 have HN:=Lib.hid hn
 clear h5 h6 hr hn
 go_enter Tryz.func19,Tryz.ntmps19
 go_wp2_with (with_reducible refine wpList_box_row rfl 30 _ rfl cs rfl ?_;have hX:=plan_start HR.out;generalize World.alloc _ _ = W0 at hX ⊢;have HX:=Lib.hid hX;clear hX;refine halt ?_)
 unfold Halt
 have c5:=HX.out.cell HC.out.1
 by_cases hlen:n > 4096
 ·have hlenI:(n:Int) > 4096:=by omega
  have HB:Hid (¬ SizesOk p):=Lib.hid fun h=>by have:=h.1;rw [HN.out] at this;omega
  go_wp2
  go_ret
  exact ⟨false,rfl,HX.out.below,okB_no HB.out⟩
 have hlenI:¬ (n:Int) > 4096:=by omega
 go_wp2_with fail
 go_loop [3] (fun i=>∃ k:Nat,i = .int .i64 k∧k ≤ n∧Hid (∀ q,q < k→szB (szAt p q) = false)) (fun i=>n - (intOf i).toNat)
 case atStart=>exact ⟨0,rfl,Nat.zero_le _,Lib.hid (fun q hq=>by omega)⟩
 case round =>
  obtain ⟨k,rfl,hk,HS⟩:=hrel
  have hk0:(0:Int) ≤ (k:Int):=Int.natCast_nonneg _
  by_cases hlt:k < n
  ·have hlt':(k:Int) < (n:Int):=by omega
   obtain ⟨x64,b,o,rfl,hb,kx⟩:=HC.out.2 k hlt
   have kx':=HX.out.old2 (show b < w.heap.size from hb) kx
   obtain ⟨x,hx⟩:∃ x,szAt p k = x:=⟨_,rfl⟩
   rw [hx] at kx' x64
   have HXX:=Lib.hid hx
   unfold I64 at x64
   have HNO:Hid (szB x = true→¬ SizesOk p):=Lib.hid fun h hs=>by
    have:=sizes_iff.1 hs.2 k (by rw [HN.out];exact hlt)
    rw [HXX.out,h] at this
    cases this
   clear hb kx hx
   by_cases h1:x < 0
   ·have HB:=Lib.hid (HNO.out (by unfold szB;rw [decide_eq_true h1];rfl))
    go_wp2
    go_ret
    exact ⟨false,rfl,HX.out.below,okB_no HB.out⟩
   ·have h0:0 ≤ x:=by omega
    by_cases h2:x % 8 = 0
    ·have h2':(x % 8 != 0) = false:=by simpa using h2
     have H2:=Lib.hid h2
     clear h2
     by_cases h3:x > 32768
     ·have HB:=Lib.hid (HNO.out (by unfold szB;rw [decide_eq_true h3];simp))
      go_wp2
      go_ret
      exact ⟨false,rfl,HX.out.below,okB_no HB.out⟩
     ·have HY:Hid (szB x = false):=Lib.hid (by unfold szB;rw [decide_eq_false h1,decide_eq_false h3,decide_eq_true H2.out];rfl)
      go_wp2
      go_round
      case rel =>
       refine ⟨k + 1,by go_num,by omega,Lib.hid (fun q hq=>?_)⟩
       by_cases e:q = k
       ·rw [e,HXX.out];exact HY.out
       ·exact HS.out q (by omega)
      case measure=>simp [intOf];omega
    ·have h2':(x % 8 != 0) = true:=by simpa using h2
     have HB:=Lib.hid (HNO.out (by unfold szB;rw [decide_eq_false h2];simp))
     clear h2
     go_wp2
     go_ret
     exact ⟨false,rfl,HX.out.below,okB_no HB.out⟩
  ·have hlt':¬ (k:Int) < (n:Int):=by omega
   have HY:Hid (SizesOk p):=Lib.hid ⟨by rw [HN.out];omega,sizes_iff.2 fun q hq=>HS.out q (by rw [HN.out] at hq;omega)⟩
   go_wp2
   go_ret
   exact ⟨true,rfl,HX.out.below,⟨fun _=>HY.out,fun _=>rfl⟩⟩
theorem bool_cell {W:World} {lb:Nat} {laid:List Bool} {k:Nat} {b:Bool} (h:W.heap[lb]? = some (.cells (laid.map Value.bool).toArray 4 (0,0))) (hb:laid[k]? = some b):W.cell? ⟨lb,k,none⟩ = some (.bool b):=by
 rw [cell_of_row _ _ _ _ _ _ h,List.getElem?_toArray,List.getElem?_map,hb];rfl
theorem nxtP_bd (p:PlanD) (laid:List Bool) (k:Nat):nxtP p laid k = -1 ∨ ∃ v:Nat,nxtP p laid k = (v:Int)∧v < k:=by
 rcases nxtP_spec p laid k with ⟨h,-⟩ | ⟨v,h,hv,-⟩
 ·exact .inl h
 ·exact .inr ⟨v,h,hv⟩
set_option maxRecDepth 100000 in
set_option maxHeartbeats 8000000 in
theorem next21_any (cs:List Value) (p:PlanD) (lb:Nat) (laid:List Bool) (w:World) (hr:rep w (old w.heap.size) cs p) (hok:SizesOk p) (hl:laid.length = p.size.length) (hrow:w.heap[lb]? = some (.cells (laid.map Value.bool).toArray 4 (0,0))) :
  Calls Tryz.prog 20 #[.agg cs.toArray,.slice (some ⟨lb,0,none⟩) p.size.length p.size.length] w fun e w'=>e = .returned (.int .i64 (nxtP p laid p.size.length))∧Below w.heap.size w w':=by
 obtain ⟨A6,k6,h5,n6,n6',h6⟩:=sizes_lie2 hr
 have HC:=Lib.hid (And.intro h5 h6)
 have HR:=Lib.hid hr
 have HOK:=Lib.hid hok
 have hn4:=hok.1
 have hlt0:=(Array.getElem?_eq_some_iff.1 hrow).1
 have HROW:=Lib.hid (And.intro hrow (And.intro hlt0 hl))
 obtain ⟨n,hn⟩:∃ n,p.size.length = n:=⟨_,rfl⟩
 rw [hn] at HC HROW n6 hn4 ⊢
 clear h5 h6 hr hn hok hl hrow hlt0
 go_enter Tryz.func20,Tryz.ntmps20
 go_wp2_with (with_reducible refine wpList_box_row rfl 30 _ rfl cs rfl ?_;have hX:=plan_start HR.out;generalize World.alloc _ _ = W0 at hX ⊢;have HX:=Lib.hid hX;clear hX;refine halt ?_)
 unfold Halt
 have HW0:Hid (W0.heap[lb]? = some (.cells (laid.map Value.bool).toArray 4 (0,0))):=Lib.hid ((HX.out.below.block lb HROW.out.2.1).trans HROW.out.1)
 go_wp2_with fail
 go_loopw [5,6] (fun x i wr=>∃ k:Nat,x = .int .i64 (nxtP p laid k)∧i = .int .i64 k∧k ≤ n∧Hid ((nxtP p laid k = -1 ∨ ∃ v:Nat,nxtP p laid k = (v:Int)∧v < k)∧PlanI w cs p wr∧wr.heap[lb]? = some (.cells (laid.map Value.bool).toArray 4 (0,0)))) (fun _ i _=>n - (intOf i).toNat)
 case atStart=>exact ⟨0,rfl,rfl,Nat.zero_le _,Lib.hid ⟨.inl rfl,HX.out,HW0.out⟩⟩
 case round =>
  clear HX HW0
  obtain ⟨k,rfl,rfl,hk,HS⟩:=hrel
  obtain ⟨wx,rfl⟩:∃ wx,wx = wr:=⟨_,rfl⟩
  have hk0:(0:Int) ≤ (k:Int):=Int.natCast_nonneg _
  have c5:=HS.out.2.1.cell HC.out.1
  obtain ⟨bst,hbst⟩:∃ b,nxtP p laid k = b:=⟨_,rfl⟩
  have HST:Hid (nxtP p laid (k + 1) = if laid.getD k false = false∧0 < szAt p k∧(bst < 0 ∨ szAt p k > szAt p bst.toNat) then (k:Int) else bst):=Lib.hid (by rw [nxtP,hbst])
  have HBD2:=Lib.hid (nxtP_bd p laid (k + 1))
  have HBN:=Lib.hid hbst
  rw [hbst] at HS ⊢
  clear hbst
  by_cases hlt:k < n
  ·have hlt':(k:Int) < (n:Int):=by omega
   obtain ⟨b,hb⟩:∃ b,laid[k]? = some b:=⟨_,List.getElem?_eq_getElem (by rw [HROW.out.2.2];exact hlt)⟩
   have HLB:=Lib.hid hb
   have HGD:Hid (laid.getD k false = b):=Lib.hid (by rw [List.getD_eq_getElem?_getD,hb];rfl)
   obtain ⟨-,b6,o6,rfl,hb6,ks⟩:=HC.out.2 k hlt
   obtain ⟨sk,hsk⟩:∃ s,szAt p k = s:=⟨_,rfl⟩
   rw [hsk] at ks HST
   have HSK:=Lib.hid (And.intro (show b6 < w.heap.size from hb6) ks)
   clear hb hb6 ks hsk
   go_upto_region 5 with (fail)
   clear c5
   cases b with
   | true =>
    have HNX:Hid (nxtP p laid (k + 1) = bst):=Lib.hid (by rw [HST.out,if_neg (fun h=>by have:=h.1;rw [HGD.out] at this;cases this)])
    refine wp_region_held_drew (S:=fun W=>PlanI w cs p W∧W.heap[lb]? = some (.cells (laid.map Value.bool).toArray 4 (0,0))) (by kernel_rfl) ⟨HS.out.2.1.next ((Below.refl _ _).drew),HS.out.2.2⟩ (fun hHeld=>?_)
    generalize World.drew _ = V0 at hHeld ⊢
    refine tk0 0 (some 14) (v:=.slice (some ⟨lb,0,none⟩) n n) rfl hHeld ?_
    refine tk0 1 (some 15) (v:=.int .i64 (k:Int)) rfl hHeld ?_
    refine tk9 2 (some 16) (v:=.pointer (some ⟨lb,k,none⟩)) rfl (yields_indexQ (by kernel_rfl) _ _ _ rfl lb 0 n n k 1 k (k:Int) (by kernel_rfl) (by kernel_rfl) Tryz.underlying28 (by kernel_rfl) rfl hlt (by omega)) hHeld ?_
    refine tk9 3 (some 17) (v:=.bool true) rfl (yields_load_one9 (by kernel_rfl) _ _ rfl lb k (by kernel_rfl) _ _ Tryz.underlying4 rfl (fun _ h=>bool_cell h.2 HLB.out)) hHeld ?_
    refine tk0 4 (some 18) (v:=.bool false) rfl hHeld ?_
    refine tk0 5 (some 19) (v:=.bool false) rfl hHeld ?_
    refine tk9 6 (some 20) (v:=undef) rfl (Or.inr ⟨by kernel_rfl,rfl⟩) hHeld ?_
    refine tk9 7 (some 21) (v:=undef) rfl (Or.inr ⟨by kernel_rfl,rfl⟩) hHeld ?_
    refine tk9 8 (some 22) (v:=undef) rfl (Or.inr ⟨by kernel_rfl,rfl⟩) hHeld ?_
    refine tk9 9 (some 23) (v:=undef) rfl (Or.inr ⟨by kernel_rfl,rfl⟩) hHeld ?_
    refine tk9 10 (some 24) (v:=undef) rfl (Or.inr ⟨by kernel_rfl,rfl⟩) hHeld ?_
    refine tk9 11 (some 25) (v:=undef) rfl (Or.inr ⟨by kernel_rfl,rfl⟩) hHeld ?_
    refine tk0 12 (some 26) (v:=.bool false) rfl hHeld ?_
    refine tk0 13 (some 27) (v:=.bool false) rfl hHeld ?_
    refine tk9 14 (some 28) (v:=undef) rfl (Or.inr ⟨by kernel_rfl,rfl⟩) hHeld ?_
    refine tk9 15 (some 29) (v:=undef) rfl (Or.inr ⟨by kernel_rfl,rfl⟩) hHeld ?_
    refine tk9 16 (some 30) (v:=undef) rfl (Or.inr ⟨by kernel_rfl,rfl⟩) hHeld ?_
    refine tk9 17 (some 31) (v:=undef) rfl (Or.inr ⟨by kernel_rfl,rfl⟩) hHeld ?_
    refine tk9 18 (some 32) (v:=undef) rfl (Or.inr ⟨by kernel_rfl,rfl⟩) hHeld ?_
    refine tk9 19 (some 33) (v:=undef) rfl (Or.inr ⟨by kernel_rfl,rfl⟩) hHeld ?_
    refine tk9 20 (some 34) (v:=undef) rfl (Or.inr ⟨by kernel_rfl,rfl⟩) hHeld ?_
    refine tk9 21 (some 35) (v:=undef) rfl (Or.inr ⟨by kernel_rfl,rfl⟩) hHeld ?_
    refine tk9 22 (some 36) (v:=undef) rfl (Or.inr ⟨by kernel_rfl,rfl⟩) hHeld ?_
    refine tk9 23 (some 37) (v:=undef) rfl (Or.inr ⟨by kernel_rfl,rfl⟩) hHeld ?_
    refine tk9 24 (some 38) (v:=undef) rfl (Or.inr ⟨by kernel_rfl,rfl⟩) hHeld ?_
    refine tk9 25 (some 39) (v:=undef) rfl (Or.inr ⟨by kernel_rfl,rfl⟩) hHeld ?_
    refine tk9 26 (some 40) (v:=undef) rfl (Or.inr ⟨by kernel_rfl,rfl⟩) hHeld ?_
    refine tk9 27 (some 41) (v:=undef) rfl (Or.inr ⟨by kernel_rfl,rfl⟩) hHeld ?_
    refine tk9 28 (some 42) (v:=undef) rfl (Or.inr ⟨by kernel_rfl,rfl⟩) hHeld ?_
    refine tk0 29 (some 43) (v:=.bool false) rfl hHeld ?_
    refine wpAnyH_done (by kernel_rfl) ?_ _
    have HT:=Lib.hid hHeld
    clear hHeld
    simp [Act.put]
    go_wp2
    go_roundw
    case rel=>exact ⟨k + 1,by rw [HNX.out],by go_num,by omega,Lib.hid ⟨HBD2.out,HT.out⟩⟩
    case measure=>simp [intOf];omega
   | false =>
    by_cases hp:sk > 0
    ·have HPOS:Hid (decide (sk > 0) = true):=Lib.hid (decide_eq_true hp)
     by_cases hb0:bst < 0
     ·have HBST:Hid (decide (bst < 0) = true):=Lib.hid (decide_eq_true hb0)
      have HNX:Hid (nxtP p laid (k + 1) = (k:Int)):=Lib.hid (by rw [HST.out,if_pos ⟨HGD.out,hp,.inl hb0⟩])
      refine wp_region_held_drew (S:=fun W=>PlanI w cs p W∧W.heap[lb]? = some (.cells (laid.map Value.bool).toArray 4 (0,0))) (by kernel_rfl) ⟨HS.out.2.1.next ((Below.refl _ _).drew),HS.out.2.2⟩ (fun hHeld=>?_)
      generalize World.drew _ = V0 at hHeld ⊢
      refine tk0 0 (some 14) (v:=.slice (some ⟨lb,0,none⟩) n n) rfl hHeld ?_
      refine tk0 1 (some 15) (v:=.int .i64 (k:Int)) rfl hHeld ?_
      refine tk9 2 (some 16) (v:=.pointer (some ⟨lb,k,none⟩)) rfl (yields_indexQ (by kernel_rfl) _ _ _ rfl lb 0 n n k 1 k (k:Int) (by kernel_rfl) (by kernel_rfl) Tryz.underlying28 (by kernel_rfl) rfl hlt (by omega)) hHeld ?_
      refine tk9 3 (some 17) (v:=.bool false) rfl (yields_load_one9 (by kernel_rfl) _ _ rfl lb k (by kernel_rfl) _ _ Tryz.underlying4 rfl (fun _ h=>bool_cell h.2 HLB.out)) hHeld ?_
      refine tk0 4 (some 18) (v:=.bool true) rfl hHeld ?_
      refine tk0 5 (some 19) (v:=.bool true) rfl hHeld ?_
      refine tk0 6 (some 20) (v:=.pointer (some ⟨w.heap.size,5,none⟩)) rfl hHeld ?_
      refine tk9 7 (some 21) (v:=.slice (some ⟨b6,o6,none⟩) n k6) rfl (yields_load_one9 (by kernel_rfl) _ _ rfl (w.heap.size) (5) (by kernel_rfl) _ _ Tryz.underlying24 rfl (fun _ h=>h.1.cell HC.out.1)) hHeld ?_
      refine tk0 8 (some 22) (v:=.int .i64 (k:Int)) rfl hHeld ?_
      refine tk9 9 (some 23) (v:=.pointer (some ⟨b6,o6 + k,none⟩)) rfl (yields_idx (by kernel_rfl) _ _ rfl b6 o6 (n) k6 k (by kernel_rfl) (by kernel_rfl) hlt) hHeld ?_
      refine tk9 10 (some 24) (v:=.int .i64 sk) rfl (yields_load_one9 (by kernel_rfl) _ _ rfl b6 (o6 + k) (by kernel_rfl) _ _ Tryz.underlying3 rfl (fun _ h=>h.1.old2 HSK.out.1 HSK.out.2)) hHeld ?_
      refine tk9 11 (some 25) (v:=.bool true) rfl (yields_gtD (by kernel_rfl) _ _ _ _ rfl sk 0 true (by kernel_rfl) (by kernel_rfl) (by kernel_rfl) HPOS.out) hHeld ?_
      refine tk0 12 (some 26) (v:=.bool true) rfl hHeld ?_
      refine tk0 13 (some 27) (v:=.bool true) rfl hHeld ?_
      refine tk0 14 (some 28) (v:=.int .i64 bst) rfl hHeld ?_
      refine tk9 15 (some 29) (v:=.bool true) rfl (yields_ltD (by kernel_rfl) _ _ _ _ rfl bst 0 true (by kernel_rfl) (by kernel_rfl) (by kernel_rfl) HBST.out) hHeld ?_
      refine tk0 16 (some 30) (v:=.bool true) rfl hHeld ?_
      refine tk9 17 (some 31) (v:=undef) rfl (Or.inr ⟨by kernel_rfl,rfl⟩) hHeld ?_
      refine tk9 18 (some 32) (v:=undef) rfl (Or.inr ⟨by kernel_rfl,rfl⟩) hHeld ?_
      refine tk9 19 (some 33) (v:=undef) rfl (Or.inr ⟨by kernel_rfl,rfl⟩) hHeld ?_
      refine tk9 20 (some 34) (v:=undef) rfl (Or.inr ⟨by kernel_rfl,rfl⟩) hHeld ?_
      refine tk9 21 (some 35) (v:=undef) rfl (Or.inr ⟨by kernel_rfl,rfl⟩) hHeld ?_
      refine tk9 22 (some 36) (v:=undef) rfl (Or.inr ⟨by kernel_rfl,rfl⟩) hHeld ?_
      refine tk9 23 (some 37) (v:=undef) rfl (Or.inr ⟨by kernel_rfl,rfl⟩) hHeld ?_
      refine tk9 24 (some 38) (v:=undef) rfl (Or.inr ⟨by kernel_rfl,rfl⟩) hHeld ?_
      refine tk9 25 (some 39) (v:=undef) rfl (Or.inr ⟨by kernel_rfl,rfl⟩) hHeld ?_
      refine tk9 26 (some 40) (v:=undef) rfl (Or.inr ⟨by kernel_rfl,rfl⟩) hHeld ?_
      refine tk9 27 (some 41) (v:=undef) rfl (Or.inr ⟨by kernel_rfl,rfl⟩) hHeld ?_
      refine tk0 28 (some 42) (v:=.bool true) rfl hHeld ?_
      refine tk0 29 (some 43) (v:=.bool true) rfl hHeld ?_
      refine wpAnyH_done (by kernel_rfl) ?_ _
      have HT:=Lib.hid hHeld
      clear hHeld
      simp [Act.put]
      go_wp2
      go_roundw
      case rel=>exact ⟨k + 1,by rw [HNX.out],by go_num,by omega,Lib.hid ⟨HBD2.out,HT.out⟩⟩
      case measure=>simp [intOf];omega
     ·have HBST:Hid (decide (bst < 0) = false):=Lib.hid (decide_eq_false hb0)
      obtain ⟨bn,hbe,hbk⟩:∃ v:Nat,bst = (v:Int)∧v < k:=by
       rcases HS.out.1 with h | h
       ·omega
       ·exact h
      subst hbe
      have hbn:bn < n:=by omega
      obtain ⟨-,b7,o7,e7,hb7,kb⟩:=HC.out.2 bn hbn
      injection e7 with e7
      injection e7 with e1 e2
      subst e1 e2
      obtain ⟨sb,hsb⟩:∃ s,szAt p bn = s:=⟨_,rfl⟩
      rw [hsb] at kb
      have HSB:=Lib.hid (And.intro (show b6 < w.heap.size from hb7) kb)
      obtain ⟨gt,hgt⟩:∃ g,decide (sk > sb) = g:=⟨_,rfl⟩
      have HGT:=Lib.hid hgt
      have HST2:Hid (nxtP p laid (k + 1) = if gt = true then (k:Int) else (bn:Int)):=Lib.hid (by
       rw [HST.out,Int.toNat_natCast,hsb,← hgt]
       by_cases g:sk > sb
       ·rw [if_pos ⟨HGD.out,hp,.inr g⟩,if_pos (decide_eq_true g)]
       ·rw [if_neg (fun h=>h.2.2.elim hb0 g),if_neg (by simpa using g)])
      clear hb7 kb hsb hgt HST
      refine wp_region_held_drew (S:=fun W=>PlanI w cs p W∧W.heap[lb]? = some (.cells (laid.map Value.bool).toArray 4 (0,0))) (by kernel_rfl) ⟨HS.out.2.1.next ((Below.refl _ _).drew),HS.out.2.2⟩ (fun hHeld=>?_)
      generalize World.drew _ = V0 at hHeld ⊢
      refine tk0 0 (some 14) (v:=.slice (some ⟨lb,0,none⟩) n n) rfl hHeld ?_
      refine tk0 1 (some 15) (v:=.int .i64 (k:Int)) rfl hHeld ?_
      refine tk9 2 (some 16) (v:=.pointer (some ⟨lb,k,none⟩)) rfl (yields_indexQ (by kernel_rfl) _ _ _ rfl lb 0 n n k 1 k (k:Int) (by kernel_rfl) (by kernel_rfl) Tryz.underlying28 (by kernel_rfl) rfl hlt (by omega)) hHeld ?_
      refine tk9 3 (some 17) (v:=.bool false) rfl (yields_load_one9 (by kernel_rfl) _ _ rfl lb k (by kernel_rfl) _ _ Tryz.underlying4 rfl (fun _ h=>bool_cell h.2 HLB.out)) hHeld ?_
      refine tk0 4 (some 18) (v:=.bool true) rfl hHeld ?_
      refine tk0 5 (some 19) (v:=.bool true) rfl hHeld ?_
      refine tk0 6 (some 20) (v:=.pointer (some ⟨w.heap.size,5,none⟩)) rfl hHeld ?_
      refine tk9 7 (some 21) (v:=.slice (some ⟨b6,o6,none⟩) n k6) rfl (yields_load_one9 (by kernel_rfl) _ _ rfl (w.heap.size) (5) (by kernel_rfl) _ _ Tryz.underlying24 rfl (fun _ h=>h.1.cell HC.out.1)) hHeld ?_
      refine tk0 8 (some 22) (v:=.int .i64 (k:Int)) rfl hHeld ?_
      refine tk9 9 (some 23) (v:=.pointer (some ⟨b6,o6 + k,none⟩)) rfl (yields_idx (by kernel_rfl) _ _ rfl b6 o6 (n) k6 k (by kernel_rfl) (by kernel_rfl) hlt) hHeld ?_
      refine tk9 10 (some 24) (v:=.int .i64 sk) rfl (yields_load_one9 (by kernel_rfl) _ _ rfl b6 (o6 + k) (by kernel_rfl) _ _ Tryz.underlying3 rfl (fun _ h=>h.1.old2 HSK.out.1 HSK.out.2)) hHeld ?_
      refine tk9 11 (some 25) (v:=.bool true) rfl (yields_gtD (by kernel_rfl) _ _ _ _ rfl sk 0 true (by kernel_rfl) (by kernel_rfl) (by kernel_rfl) HPOS.out) hHeld ?_
      refine tk0 12 (some 26) (v:=.bool true) rfl hHeld ?_
      refine tk0 13 (some 27) (v:=.bool true) rfl hHeld ?_
      refine tk0 14 (some 28) (v:=.int .i64 (bn:Int)) rfl hHeld ?_
      refine tk9 15 (some 29) (v:=.bool false) rfl (yields_ltD (by kernel_rfl) _ _ _ _ rfl (bn:Int) 0 false (by kernel_rfl) (by kernel_rfl) (by kernel_rfl) HBST.out) hHeld ?_
      refine tk0 16 (some 30) (v:=.bool false) rfl hHeld ?_
      refine tk0 17 (some 31) (v:=.pointer (some ⟨w.heap.size,5,none⟩)) rfl hHeld ?_
      refine tk9 18 (some 32) (v:=.slice (some ⟨b6,o6,none⟩) n k6) rfl (yields_load_one9 (by kernel_rfl) _ _ rfl (w.heap.size) (5) (by kernel_rfl) _ _ Tryz.underlying24 rfl (fun _ h=>h.1.cell HC.out.1)) hHeld ?_
      refine tk0 19 (some 33) (v:=.int .i64 (k:Int)) rfl hHeld ?_
      refine tk9 20 (some 34) (v:=.pointer (some ⟨b6,o6 + k,none⟩)) rfl (yields_idx (by kernel_rfl) _ _ rfl b6 o6 (n) k6 k (by kernel_rfl) (by kernel_rfl) hlt) hHeld ?_
      refine tk9 21 (some 35) (v:=.int .i64 sk) rfl (yields_load_one9 (by kernel_rfl) _ _ rfl b6 (o6 + k) (by kernel_rfl) _ _ Tryz.underlying3 rfl (fun _ h=>h.1.old2 HSK.out.1 HSK.out.2)) hHeld ?_
      refine tk0 22 (some 36) (v:=.pointer (some ⟨w.heap.size,5,none⟩)) rfl hHeld ?_
      refine tk9 23 (some 37) (v:=.slice (some ⟨b6,o6,none⟩) n k6) rfl (yields_load_one9 (by kernel_rfl) _ _ rfl (w.heap.size) (5) (by kernel_rfl) _ _ Tryz.underlying24 rfl (fun _ h=>h.1.cell HC.out.1)) hHeld ?_
      refine tk0 24 (some 38) (v:=.int .i64 (bn:Int)) rfl hHeld ?_
      refine tk9 25 (some 39) (v:=.pointer (some ⟨b6,o6 + bn,none⟩)) rfl (yields_idx (by kernel_rfl) _ _ rfl b6 o6 (n) k6 bn (by kernel_rfl) (by kernel_rfl) hbn) hHeld ?_
      refine tk9 26 (some 40) (v:=.int .i64 sb) rfl (yields_load_one9 (by kernel_rfl) _ _ rfl b6 (o6 + bn) (by kernel_rfl) _ _ Tryz.underlying3 rfl (fun _ h=>h.1.old2 HSB.out.1 HSB.out.2)) hHeld ?_
      refine tk9 27 (some 41) (v:=.bool gt) rfl (yields_gtD (by kernel_rfl) _ _ _ _ rfl sk sb gt (by kernel_rfl) (by kernel_rfl) (by kernel_rfl) HGT.out) hHeld ?_
      refine tk0 28 (some 42) (v:=.bool gt) rfl hHeld ?_
      refine tk0 29 (some 43) (v:=.bool gt) rfl hHeld ?_
      refine wpAnyH_done (by kernel_rfl) ?_ _
      have HT:=Lib.hid hHeld
      clear hHeld
      simp [Act.put]
      cases gt with
      | true =>
       have HNX:Hid (nxtP p laid (k + 1) = (k:Int)):=Lib.hid (by rw [HST2.out,if_pos rfl])
       go_wp2
       go_roundw
       case rel=>exact ⟨k + 1,by rw [HNX.out],by go_num,by omega,Lib.hid ⟨HBD2.out,HT.out⟩⟩
       case measure=>simp [intOf];omega
      | false =>
       have HNX:Hid (nxtP p laid (k + 1) = (bn:Int)):=Lib.hid (by rw [HST2.out,if_neg (by decide)])
       go_wp2
       go_roundw
       case rel=>exact ⟨k + 1,by rw [HNX.out],by go_num,by omega,Lib.hid ⟨HBD2.out,HT.out⟩⟩
       case measure=>simp [intOf];omega
    ·have HPOS:Hid (decide (sk > 0) = false):=Lib.hid (decide_eq_false hp)
     have HNX:Hid (nxtP p laid (k + 1) = bst):=Lib.hid (by rw [HST.out,if_neg (fun h=>hp h.2.1)])
     refine wp_region_held_drew (S:=fun W=>PlanI w cs p W∧W.heap[lb]? = some (.cells (laid.map Value.bool).toArray 4 (0,0))) (by kernel_rfl) ⟨HS.out.2.1.next ((Below.refl _ _).drew),HS.out.2.2⟩ (fun hHeld=>?_)
     generalize World.drew _ = V0 at hHeld ⊢
     refine tk0 0 (some 14) (v:=.slice (some ⟨lb,0,none⟩) n n) rfl hHeld ?_
     refine tk0 1 (some 15) (v:=.int .i64 (k:Int)) rfl hHeld ?_
     refine tk9 2 (some 16) (v:=.pointer (some ⟨lb,k,none⟩)) rfl (yields_indexQ (by kernel_rfl) _ _ _ rfl lb 0 n n k 1 k (k:Int) (by kernel_rfl) (by kernel_rfl) Tryz.underlying28 (by kernel_rfl) rfl hlt (by omega)) hHeld ?_
     refine tk9 3 (some 17) (v:=.bool false) rfl (yields_load_one9 (by kernel_rfl) _ _ rfl lb k (by kernel_rfl) _ _ Tryz.underlying4 rfl (fun _ h=>bool_cell h.2 HLB.out)) hHeld ?_
     refine tk0 4 (some 18) (v:=.bool true) rfl hHeld ?_
     refine tk0 5 (some 19) (v:=.bool true) rfl hHeld ?_
     refine tk0 6 (some 20) (v:=.pointer (some ⟨w.heap.size,5,none⟩)) rfl hHeld ?_
     refine tk9 7 (some 21) (v:=.slice (some ⟨b6,o6,none⟩) n k6) rfl (yields_load_one9 (by kernel_rfl) _ _ rfl (w.heap.size) (5) (by kernel_rfl) _ _ Tryz.underlying24 rfl (fun _ h=>h.1.cell HC.out.1)) hHeld ?_
     refine tk0 8 (some 22) (v:=.int .i64 (k:Int)) rfl hHeld ?_
     refine tk9 9 (some 23) (v:=.pointer (some ⟨b6,o6 + k,none⟩)) rfl (yields_idx (by kernel_rfl) _ _ rfl b6 o6 (n) k6 k (by kernel_rfl) (by kernel_rfl) hlt) hHeld ?_
     refine tk9 10 (some 24) (v:=.int .i64 sk) rfl (yields_load_one9 (by kernel_rfl) _ _ rfl b6 (o6 + k) (by kernel_rfl) _ _ Tryz.underlying3 rfl (fun _ h=>h.1.old2 HSK.out.1 HSK.out.2)) hHeld ?_
     refine tk9 11 (some 25) (v:=.bool false) rfl (yields_gtD (by kernel_rfl) _ _ _ _ rfl sk 0 false (by kernel_rfl) (by kernel_rfl) (by kernel_rfl) HPOS.out) hHeld ?_
     refine tk0 12 (some 26) (v:=.bool false) rfl hHeld ?_
     refine tk0 13 (some 27) (v:=.bool false) rfl hHeld ?_
     refine tk9 14 (some 28) (v:=undef) rfl (Or.inr ⟨by kernel_rfl,rfl⟩) hHeld ?_
     refine tk9 15 (some 29) (v:=undef) rfl (Or.inr ⟨by kernel_rfl,rfl⟩) hHeld ?_
     refine tk9 16 (some 30) (v:=undef) rfl (Or.inr ⟨by kernel_rfl,rfl⟩) hHeld ?_
     refine tk9 17 (some 31) (v:=undef) rfl (Or.inr ⟨by kernel_rfl,rfl⟩) hHeld ?_
     refine tk9 18 (some 32) (v:=undef) rfl (Or.inr ⟨by kernel_rfl,rfl⟩) hHeld ?_
     refine tk9 19 (some 33) (v:=undef) rfl (Or.inr ⟨by kernel_rfl,rfl⟩) hHeld ?_
     refine tk9 20 (some 34) (v:=undef) rfl (Or.inr ⟨by kernel_rfl,rfl⟩) hHeld ?_
     refine tk9 21 (some 35) (v:=undef) rfl (Or.inr ⟨by kernel_rfl,rfl⟩) hHeld ?_
     refine tk9 22 (some 36) (v:=undef) rfl (Or.inr ⟨by kernel_rfl,rfl⟩) hHeld ?_
     refine tk9 23 (some 37) (v:=undef) rfl (Or.inr ⟨by kernel_rfl,rfl⟩) hHeld ?_
     refine tk9 24 (some 38) (v:=undef) rfl (Or.inr ⟨by kernel_rfl,rfl⟩) hHeld ?_
     refine tk9 25 (some 39) (v:=undef) rfl (Or.inr ⟨by kernel_rfl,rfl⟩) hHeld ?_
     refine tk9 26 (some 40) (v:=undef) rfl (Or.inr ⟨by kernel_rfl,rfl⟩) hHeld ?_
     refine tk9 27 (some 41) (v:=undef) rfl (Or.inr ⟨by kernel_rfl,rfl⟩) hHeld ?_
     refine tk9 28 (some 42) (v:=undef) rfl (Or.inr ⟨by kernel_rfl,rfl⟩) hHeld ?_
     refine tk0 29 (some 43) (v:=.bool false) rfl hHeld ?_
     refine wpAnyH_done (by kernel_rfl) ?_ _
     have HT:=Lib.hid hHeld
     clear hHeld
     simp [Act.put]
     go_wp2
     go_roundw
     case rel=>exact ⟨k + 1,by rw [HNX.out],by go_num,by omega,Lib.hid ⟨HBD2.out,HT.out⟩⟩
     case measure=>simp [intOf];omega
  ·have hlt':¬ (k:Int) < (n:Int):=by omega
   obtain rfl:k = n:=by omega
   have HE:=Lib.hid HS.out.2.1.below
   clear HS
   go_wp2
   go_ret
   exact ⟨by rw [HBN.out];rfl,HE.out⟩
def WayOk (p:PlanD) (at_:List Int) (ws:List Nat):Prop:=at_.length = p.size.length∧∀ u ∈ ws,u < p.size.length∧0 ≤ atD at_ u∧atD at_ u + szAt p u ≤ 134217728
theorem way_lie {w:World} {A:Option Addr} {m c:Nat} {ws:List Nat} (hr:rep w (old w.heap.size) [.slice A m c] (natI ws)) (hm:ws.length = m):∀ (j u:Nat),ws[j]? = some u→∃ b o,A = some ⟨b,o,none⟩∧b < w.heap.size∧w.cell? ⟨b,o + j,none⟩ = some (.int .i64 (u:Int)):=fun j u hu=>by
 have hl:(natI ws).length = m:=by unfold natI;rw [List.length_map,hm]
 rw [← hl] at hr
 have hj:=(List.getElem?_eq_some_iff.1 hu).1
 obtain ⟨-,b,o,e,hb,kz⟩:=ints_lie hr j (by rw [hl,← hm];exact hj)
 refine ⟨b,o,e,hb,?_⟩
 rw [kz]
 unfold atD natI
 rw [List.getD_eq_getElem?_getD,List.getElem?_map,hu]
 rfl
theorem rows_take {p:PlanD} {at_:List Int} {ws:List Nat} {j u:Nat} (hu:ws[j]? = some u):rowsN p at_ (ws.take (j + 1)) = rowsN p at_ (ws.take j)++[(atD at_ u,atD at_ u + szAt p u)]:=by
 unfold rowsN
 rw [take_app hu,List.map_append]
 rfl
theorem rows_drop {p:PlanD} {at_:List Int} {ws:List Nat} {j u:Nat} (hu:ws[j]? = some u):rowsN p at_ (ws.drop j) = (atD at_ u,atD at_ u + szAt p u) :: rowsN p at_ (ws.drop (j + 1)):=by
 unfold rowsN
 rw [drop_at hu,List.map_cons]
theorem freeR_app (rs:List (Int × Int)) (b:Int × Int) (x:Int):freeR (rs++[b]) x = (freeR rs x && !(decide (b.1 ≤ x) && decide (x < b.2))):=by
 unfold freeR
 rw [List.all_append]
 simp
theorem freeR_no {rs:List (Int × Int)} {b:Int × Int} {x:Int} (hb:b ∈ rs) (h1:b.1 ≤ x) (h2:x < b.2):freeR rs x = false:=by
 cases h:freeR rs x with
 | false=>rfl
 | true=>exact (freeR_iff.1 h b hb ⟨h1,h2⟩).elim
set_option maxRecDepth 100000 in
set_option maxHeartbeats 8000000 in
theorem free21_any (cs:List Value) (p:PlanD) (B A:Option Addr) (n ca m cw:Nat) (at_:List Int) (ws:List Nat) (x:Int) (w:World) (hr:rep w (old w.heap.size) cs p) (hok:SizesOk p) (hn:p.size.length = n) (hm:ws.length = m) (hm4:m ≤ 4096) (ha:rep w (old w.heap.size) [.slice B n ca] at_) (hw:rep w (old w.heap.size) [.slice A m cw] (natI ws)) (hway:WayOk p at_ ws) (hx0:0 ≤ x) (hx1:x ≤ 134217728) :
  Calls Tryz.prog 40 #[.agg cs.toArray,.slice B n ca,.slice A m cw,.int .i64 x] w fun e w'=>e = .returned (.bool (freeR (rowsN p at_ ws) x))∧Below w.heap.size w w':=by
 obtain ⟨A6,k6,h5,n6,n6',h6⟩:=sizes_lie2 hr
 have hal:at_.length = n:=by rw [hway.1,hn]
 have ha':=ha
 rw [← hal] at ha'
 obtain ⟨na,na'⟩:=slice_bnd ha'
 rw [hal] at na
 have hwl:(natI ws).length = m:=by unfold natI;rw [List.length_map,hm]
 have hw':=hw
 rw [← hwl] at hw'
 obtain ⟨nw,nw'⟩:=slice_bnd hw'
 rw [hwl] at nw
 rw [hn] at h5 h6 n6
 have HA:Hid (∀ j,j < n→I64 (atD at_ j)∧∃ b o,B = some ⟨b,o,none⟩∧b < w.heap.size∧w.cell? ⟨b,o + j,none⟩ = some (.int .i64 (atD at_ j))):=Lib.hid (by have:=ints_lie ha';rw [hal] at this;exact this)
 have HC:=Lib.hid (And.intro h5 (And.intro h6 (way_lie hw hm)))
 have HR:=Lib.hid hr
 have HOK:=Lib.hid hok
 have HN:=Lib.hid (And.intro hn (And.intro hm hway))
 have hn4:n ≤ 4096:=by rw [← hn];exact hok.1
 clear h5 h6 hr hn hok hm ha hw hway ha' hw' hal hwl
 go_enter Tryz.func40,Tryz.ntmps40
 go_wp2_with (with_reducible refine wpList_box_row rfl 30 _ rfl cs rfl ?_;have hX:=plan_start HR.out;generalize World.alloc _ _ = W0 at hX ⊢;have HX:=Lib.hid hX;clear hX;refine halt ?_)
 unfold Halt
 go_wp2_with fail
 go_loopw [9] (fun i wr=>∃ j:Nat,i = .int .i64 j∧j ≤ m∧Hid (PlanI w cs p wr∧freeR (rowsN p at_ (ws.take j)) x = true)) (fun i _=>m - (intOf i).toNat)
 case atStart=>exact ⟨0,rfl,Nat.zero_le _,Lib.hid ⟨HX.out,rfl⟩⟩
 case round =>
  clear HX
  obtain ⟨j,rfl,hj,HS⟩:=hrel
  obtain ⟨wx,rfl⟩:∃ wx,wx = wr:=⟨_,rfl⟩
  have hj0:(0:Int) ≤ (j:Int):=Int.natCast_nonneg _
  by_cases hlt:j < m
  ·have hlt':(j:Int) < (m:Int):=by omega
   obtain ⟨u,hu⟩:∃ u,ws[j]? = some u:=⟨_,List.getElem?_eq_getElem (by rw [HN.out.2.1];exact hlt)⟩
   obtain ⟨hun,a1,a2⟩:=HN.out.2.2.2 u (List.mem_of_getElem? hu)
   rw [HN.out.1] at hun
   obtain ⟨bw,ow,rfl,hbw,kw⟩:=HC.out.2.2 j u hu
   obtain ⟨a64,ba,oa,rfl,hba,ka⟩:=HA.out u hun
   obtain ⟨-,b6,o6,rfl,hb6,ks⟩:=HC.out.2.1 u hun
   obtain ⟨s1,s2⟩:=sizes_bd HOK.out u
   have HRT:=Lib.hid (rows_take (p:=p) (at_:=at_) hu)
   have HMEM:Hid ((atD at_ u,atD at_ u + szAt p u) ∈ rowsN p at_ ws):=Lib.hid (by unfold rowsN;exact List.mem_map.2 ⟨u,List.mem_of_getElem? hu,rfl⟩)
   obtain ⟨av,hav⟩:∃ s,atD at_ u = s:=⟨_,rfl⟩
   obtain ⟨su,hsu⟩:∃ s,szAt p u = s:=⟨_,rfl⟩
   rw [hav,hsu] at HRT HMEM a2
   rw [hav] at ka a1
   rw [hsu] at ks s1 s2
   have HK:=Lib.hid (And.intro (show bw < w.heap.size from hbw) (And.intro kw (And.intro (show ba < w.heap.size from hba) (And.intro ka (And.intro (show b6 < w.heap.size from hb6) ks)))))
   clear hu hbw kw a64 hba ka hb6 ks hav hsu
   go_upto_region 4 with (fail)
   by_cases g:av ≤ x
   ·have HGE:Hid (decide (av ≤ x) = true):=Lib.hid (decide_eq_true g)
    obtain ⟨lt,hlt2⟩:∃ l,decide (x < av + su) = l:=⟨_,rfl⟩
    have HLT:=Lib.hid hlt2
    clear hlt2
    refine wp_region_held_drew (S:=fun W=>PlanI w cs p W) (by kernel_rfl) (HS.out.1.next ((Below.refl _ _).drew)) (fun hHeld=>?_)
    generalize World.drew _ = V0 at hHeld ⊢
    refine tk0 0 (some 16) (v:=.int .i64 x) rfl hHeld ?_
    refine tk0 1 (some 17) (v:=.slice (some ⟨ba,oa,none⟩) n ca) rfl hHeld ?_
    refine tk0 2 (some 18) (v:=.slice (some ⟨bw,ow,none⟩) m cw) rfl hHeld ?_
    refine tk0 3 (some 19) (v:=.int .i64 (j:Int)) rfl hHeld ?_
    refine tk9 4 (some 20) (v:=.pointer (some ⟨bw,ow + j,none⟩)) rfl (yields_idx (by kernel_rfl) _ _ rfl bw ow (m) cw j (by kernel_rfl) (by kernel_rfl) hlt) hHeld ?_
    refine tk9 5 (some 21) (v:=.int .i64 (u:Int)) rfl (yields_load_one9 (by kernel_rfl) _ _ rfl bw (ow + j) (by kernel_rfl) _ _ Tryz.underlying3 rfl (fun _ h=>h.old2 HK.out.1 HK.out.2.1)) hHeld ?_
    refine tk9 6 (some 22) (v:=.pointer (some ⟨ba,oa + u,none⟩)) rfl (yields_idx (by kernel_rfl) _ _ rfl ba oa (n) ca u (by kernel_rfl) (by kernel_rfl) hun) hHeld ?_
    refine tk9 7 (some 23) (v:=.int .i64 av) rfl (yields_load_one9 (by kernel_rfl) _ _ rfl ba (oa + u) (by kernel_rfl) _ _ Tryz.underlying3 rfl (fun _ h=>h.old2 HK.out.2.2.1 HK.out.2.2.2.1)) hHeld ?_
    refine tk9 8 (some 24) (v:=.bool true) rfl (yields_geD (by kernel_rfl) _ _ _ _ rfl x av true (by kernel_rfl) (by kernel_rfl) (by kernel_rfl) HGE.out) hHeld ?_
    refine tk0 9 (some 25) (v:=.bool true) rfl hHeld ?_
    refine tk0 10 (some 26) (v:=.int .i64 x) rfl hHeld ?_
    refine tk0 11 (some 27) (v:=.slice (some ⟨ba,oa,none⟩) n ca) rfl hHeld ?_
    refine tk0 12 (some 28) (v:=.slice (some ⟨bw,ow,none⟩) m cw) rfl hHeld ?_
    refine tk0 13 (some 29) (v:=.int .i64 (j:Int)) rfl hHeld ?_
    refine tk9 14 (some 30) (v:=.pointer (some ⟨bw,ow + j,none⟩)) rfl (yields_idx (by kernel_rfl) _ _ rfl bw ow (m) cw j (by kernel_rfl) (by kernel_rfl) hlt) hHeld ?_
    refine tk9 15 (some 31) (v:=.int .i64 (u:Int)) rfl (yields_load_one9 (by kernel_rfl) _ _ rfl bw (ow + j) (by kernel_rfl) _ _ Tryz.underlying3 rfl (fun _ h=>h.old2 HK.out.1 HK.out.2.1)) hHeld ?_
    refine tk9 16 (some 32) (v:=.pointer (some ⟨ba,oa + u,none⟩)) rfl (yields_idx (by kernel_rfl) _ _ rfl ba oa (n) ca u (by kernel_rfl) (by kernel_rfl) hun) hHeld ?_
    refine tk9 17 (some 33) (v:=.int .i64 av) rfl (yields_load_one9 (by kernel_rfl) _ _ rfl ba (oa + u) (by kernel_rfl) _ _ Tryz.underlying3 rfl (fun _ h=>h.old2 HK.out.2.2.1 HK.out.2.2.2.1)) hHeld ?_
    refine tk0 18 (some 34) (v:=.pointer (some ⟨w.heap.size,5,none⟩)) rfl hHeld ?_
    refine tk9 19 (some 35) (v:=.slice (some ⟨b6,o6,none⟩) n k6) rfl (yields_load_one9 (by kernel_rfl) _ _ rfl (w.heap.size) (5) (by kernel_rfl) _ _ Tryz.underlying24 rfl (fun _ h=>h.cell HC.out.1)) hHeld ?_
    refine tk0 20 (some 36) (v:=.slice (some ⟨bw,ow,none⟩) m cw) rfl hHeld ?_
    refine tk0 21 (some 37) (v:=.int .i64 (j:Int)) rfl hHeld ?_
    refine tk9 22 (some 38) (v:=.pointer (some ⟨bw,ow + j,none⟩)) rfl (yields_idx (by kernel_rfl) _ _ rfl bw ow (m) cw j (by kernel_rfl) (by kernel_rfl) hlt) hHeld ?_
    refine tk9 23 (some 39) (v:=.int .i64 (u:Int)) rfl (yields_load_one9 (by kernel_rfl) _ _ rfl bw (ow + j) (by kernel_rfl) _ _ Tryz.underlying3 rfl (fun _ h=>h.old2 HK.out.1 HK.out.2.1)) hHeld ?_
    refine tk9 24 (some 40) (v:=.pointer (some ⟨b6,o6 + u,none⟩)) rfl (yields_idx (by kernel_rfl) _ _ rfl b6 o6 (n) k6 u (by kernel_rfl) (by kernel_rfl) hun) hHeld ?_
    refine tk9 25 (some 41) (v:=.int .i64 su) rfl (yields_load_one9 (by kernel_rfl) _ _ rfl b6 (o6 + u) (by kernel_rfl) _ _ Tryz.underlying3 rfl (fun _ h=>h.old2 HK.out.2.2.2.2.1 HK.out.2.2.2.2.2)) hHeld ?_
    refine tk9 26 (some 42) (v:=.int .i64 (av + su)) rfl (yields_addI (by kernel_rfl) _ _ _ _ rfl av su (by kernel_rfl) (by kernel_rfl) (by kernel_rfl) a1 s1 (by omega)) hHeld ?_
    refine tk9 27 (some 43) (v:=.bool lt) rfl (yields_ltD (by kernel_rfl) _ _ _ _ rfl x (av + su) lt (by kernel_rfl) (by kernel_rfl) (by kernel_rfl) HLT.out) hHeld ?_
    refine tk0 28 (some 44) (v:=.bool lt) rfl hHeld ?_
    refine wpAnyH_done (by kernel_rfl) ?_ _
    have HT:=Lib.hid hHeld
    clear hHeld
    simp [Act.put]
    cases lt with
    | true =>
     have HF:Hid (freeR (rowsN p at_ ws) x = false):=Lib.hid (freeR_no HMEM.out g (of_decide_eq_true HLT.out))
     go_wp2
     go_ret
     exact ⟨by rw [HF.out];rfl,HT.out.below⟩
    | false =>
     go_wp2
     go_roundw
     case rel=>exact ⟨j + 1,by go_num,by omega,Lib.hid ⟨HT.out,by rw [HRT.out,freeR_app,HS.out.2,HLT.out];simp⟩⟩
     case measure=>simp [intOf];omega
   ·have HGE:Hid (decide (av ≤ x) = false):=Lib.hid (decide_eq_false g)
    refine wp_region_held_drew (S:=fun W=>PlanI w cs p W) (by kernel_rfl) (HS.out.1.next ((Below.refl _ _).drew)) (fun hHeld=>?_)
    generalize World.drew _ = V0 at hHeld ⊢
    refine tk0 0 (some 16) (v:=.int .i64 x) rfl hHeld ?_
    refine tk0 1 (some 17) (v:=.slice (some ⟨ba,oa,none⟩) n ca) rfl hHeld ?_
    refine tk0 2 (some 18) (v:=.slice (some ⟨bw,ow,none⟩) m cw) rfl hHeld ?_
    refine tk0 3 (some 19) (v:=.int .i64 (j:Int)) rfl hHeld ?_
    refine tk9 4 (some 20) (v:=.pointer (some ⟨bw,ow + j,none⟩)) rfl (yields_idx (by kernel_rfl) _ _ rfl bw ow (m) cw j (by kernel_rfl) (by kernel_rfl) hlt) hHeld ?_
    refine tk9 5 (some 21) (v:=.int .i64 (u:Int)) rfl (yields_load_one9 (by kernel_rfl) _ _ rfl bw (ow + j) (by kernel_rfl) _ _ Tryz.underlying3 rfl (fun _ h=>h.old2 HK.out.1 HK.out.2.1)) hHeld ?_
    refine tk9 6 (some 22) (v:=.pointer (some ⟨ba,oa + u,none⟩)) rfl (yields_idx (by kernel_rfl) _ _ rfl ba oa (n) ca u (by kernel_rfl) (by kernel_rfl) hun) hHeld ?_
    refine tk9 7 (some 23) (v:=.int .i64 av) rfl (yields_load_one9 (by kernel_rfl) _ _ rfl ba (oa + u) (by kernel_rfl) _ _ Tryz.underlying3 rfl (fun _ h=>h.old2 HK.out.2.2.1 HK.out.2.2.2.1)) hHeld ?_
    refine tk9 8 (some 24) (v:=.bool false) rfl (yields_geD (by kernel_rfl) _ _ _ _ rfl x av false (by kernel_rfl) (by kernel_rfl) (by kernel_rfl) HGE.out) hHeld ?_
    refine tk0 9 (some 25) (v:=.bool false) rfl hHeld ?_
    refine tk9 10 (some 26) (v:=undef) rfl (Or.inr ⟨by kernel_rfl,rfl⟩) hHeld ?_
    refine tk9 11 (some 27) (v:=undef) rfl (Or.inr ⟨by kernel_rfl,rfl⟩) hHeld ?_
    refine tk9 12 (some 28) (v:=undef) rfl (Or.inr ⟨by kernel_rfl,rfl⟩) hHeld ?_
    refine tk9 13 (some 29) (v:=undef) rfl (Or.inr ⟨by kernel_rfl,rfl⟩) hHeld ?_
    refine tk9 14 (some 30) (v:=undef) rfl (Or.inr ⟨by kernel_rfl,rfl⟩) hHeld ?_
    refine tk9 15 (some 31) (v:=undef) rfl (Or.inr ⟨by kernel_rfl,rfl⟩) hHeld ?_
    refine tk9 16 (some 32) (v:=undef) rfl (Or.inr ⟨by kernel_rfl,rfl⟩) hHeld ?_
    refine tk9 17 (some 33) (v:=undef) rfl (Or.inr ⟨by kernel_rfl,rfl⟩) hHeld ?_
    refine tk9 18 (some 34) (v:=undef) rfl (Or.inr ⟨by kernel_rfl,rfl⟩) hHeld ?_
    refine tk9 19 (some 35) (v:=undef) rfl (Or.inr ⟨by kernel_rfl,rfl⟩) hHeld ?_
    refine tk9 20 (some 36) (v:=undef) rfl (Or.inr ⟨by kernel_rfl,rfl⟩) hHeld ?_
    refine tk9 21 (some 37) (v:=undef) rfl (Or.inr ⟨by kernel_rfl,rfl⟩) hHeld ?_
    refine tk9 22 (some 38) (v:=undef) rfl (Or.inr ⟨by kernel_rfl,rfl⟩) hHeld ?_
    refine tk9 23 (some 39) (v:=undef) rfl (Or.inr ⟨by kernel_rfl,rfl⟩) hHeld ?_
    refine tk9 24 (some 40) (v:=undef) rfl (Or.inr ⟨by kernel_rfl,rfl⟩) hHeld ?_
    refine tk9 25 (some 41) (v:=undef) rfl (Or.inr ⟨by kernel_rfl,rfl⟩) hHeld ?_
    refine tk9 26 (some 42) (v:=undef) rfl (Or.inr ⟨by kernel_rfl,rfl⟩) hHeld ?_
    refine tk9 27 (some 43) (v:=undef) rfl (Or.inr ⟨by kernel_rfl,rfl⟩) hHeld ?_
    refine tk0 28 (some 44) (v:=.bool false) rfl hHeld ?_
    refine wpAnyH_done (by kernel_rfl) ?_ _
    have HT:=Lib.hid hHeld
    clear hHeld
    simp [Act.put]
    go_wp2
    go_roundw
    case rel=>exact ⟨j + 1,by go_num,by omega,Lib.hid ⟨HT.out,by rw [HRT.out,freeR_app,HS.out.2,HGE.out];rfl⟩⟩
    case measure=>simp [intOf];omega
  ·have hlt':¬ (j:Int) < (m:Int):=by omega
   have HF:Hid (freeR (rowsN p at_ ws) x = true):=Lib.hid (by
    have h:=HS.out.2
    rw [List.take_of_length_le (by rw [HN.out.2.1];omega)] at h
    exact h)
   go_wp2
   go_ret
   exact ⟨by rw [HF.out];rfl,HS.out.1.below⟩
set_option maxRecDepth 100000 in
set_option maxHeartbeats 8000000 in
theorem hole21_any (cs:List Value) (p:PlanD) (B A:Option Addr) (n ca m cw:Nat) (at_:List Int) (ws:List Nat) (x:Int) (w:World) (hr:rep w (old w.heap.size) cs p) (hok:SizesOk p) (hn:p.size.length = n) (hm:ws.length = m) (hm4:m ≤ 4096) (ha:rep w (old w.heap.size) [.slice B n ca] at_) (hw:rep w (old w.heap.size) [.slice A m cw] (natI ws)) (hway:WayOk p at_ ws) (hx0:0 ≤ x) (hx1:x ≤ 134217728) :
  Calls Tryz.prog 41 #[.agg cs.toArray,.slice B n ca,.slice A m cw,.int .i64 x] w fun e w'=>e = .returned (.int .i64 (holeR x (rowsN p at_ ws) (-1)))∧Below w.heap.size w w':=by
 obtain ⟨A6,k6,h5,n6,n6',h6⟩:=sizes_lie2 hr
 have hal:at_.length = n:=by rw [hway.1,hn]
 have ha':=ha
 rw [← hal] at ha'
 obtain ⟨na,na'⟩:=slice_bnd ha'
 rw [hal] at na
 have hwl:(natI ws).length = m:=by unfold natI;rw [List.length_map,hm]
 have hw':=hw
 rw [← hwl] at hw'
 obtain ⟨nw,nw'⟩:=slice_bnd hw'
 rw [hwl] at nw
 rw [hn] at h5 h6 n6
 have HA:Hid (∀ j,j < n→I64 (atD at_ j)∧∃ b o,B = some ⟨b,o,none⟩∧b < w.heap.size∧w.cell? ⟨b,o + j,none⟩ = some (.int .i64 (atD at_ j))):=Lib.hid (by have:=ints_lie ha';rw [hal] at this;exact this)
 have HC:=Lib.hid (And.intro h5 (And.intro h6 (way_lie hw hm)))
 have HR:=Lib.hid hr
 have HOK:=Lib.hid hok
 have HN:=Lib.hid (And.intro hn (And.intro hm hway))
 have hn4:n ≤ 4096:=by rw [← hn];exact hok.1
 clear h5 h6 hr hn hok hm ha hw hway ha' hw' hal hwl
 go_enter Tryz.func41,Tryz.ntmps41
 go_wp2_with (with_reducible refine wpList_box_row rfl 30 _ rfl cs rfl ?_;have hX:=plan_start HR.out;generalize World.alloc _ _ = W0 at hX ⊢;have HX:=Lib.hid hX;clear hX;refine halt ?_)
 unfold Halt
 go_wp2_with fail
 go_loop [9,10] (fun y i=>∃ (j:Nat) (e:Int),y = .int .i64 e∧i = .int .i64 j∧j ≤ m∧-1 ≤ e∧e ≤ 134217728∧Hid (holeR x (rowsN p at_ (ws.drop j)) e = holeR x (rowsN p at_ ws) (-1))) (fun _ i=>m - (intOf i).toNat)
 case atStart=>exact ⟨0,-1,rfl,rfl,Nat.zero_le _,by omega,by omega,Lib.hid rfl⟩
 case round =>
  obtain ⟨j,e,rfl,rfl,hj,e0,e1,HS⟩:=hrel
  have hj0:(0:Int) ≤ (j:Int):=Int.natCast_nonneg _
  by_cases hlt:j < m
  ·have hlt':(j:Int) < (m:Int):=by omega
   obtain ⟨u,hu⟩:∃ u,ws[j]? = some u:=⟨_,List.getElem?_eq_getElem (by rw [HN.out.2.1];exact hlt)⟩
   obtain ⟨hun,a1,a2⟩:=HN.out.2.2.2 u (List.mem_of_getElem? hu)
   rw [HN.out.1] at hun
   obtain ⟨bw,ow,rfl,hbw,kw⟩:=HC.out.2.2 j u hu
   obtain ⟨a64,ba,oa,rfl,hba,ka⟩:=HA.out u hun
   obtain ⟨-,b6,o6,rfl,hb6,ks⟩:=HC.out.2.1 u hun
   obtain ⟨s1,s2⟩:=sizes_bd HOK.out u
   have hstep:=HS.out
   rw [rows_drop hu,holeR] at hstep
   have kw':=HX.out.old2 (show bw < w.heap.size from hbw) kw
   have ka':=HX.out.old2 (show ba < w.heap.size from hba) ka
   obtain ⟨av,hav⟩:∃ s,atD at_ u = s:=⟨_,rfl⟩
   rw [hav] at ka' a1 a2 hstep
   have HST:=Lib.hid hstep
   have hu0:(0:Int) ≤ (u:Int):=Int.natCast_nonneg _
   have hun':(u:Int) < (n:Int):=by omega
   clear hu hbw kw a64 hba ka hb6 ks hav hstep
   by_cases g1:av ≥ x
   ·by_cases g2:e < 0
    ·have HNX:Hid (holeR x (rowsN p at_ (ws.drop (j + 1))) av = holeR x (rowsN p at_ ws) (-1)):=Lib.hid (by have h:=HST.out;rw [if_pos ⟨g1,.inl g2⟩] at h;exact h)
     go_wp2
     go_round
     case rel=>exact ⟨j + 1,av,rfl,by go_num,by omega,by omega,by omega,Lib.hid HNX.out⟩
     case measure=>simp [intOf];omega
    ·by_cases g3:av < e
     ·have HNX:Hid (holeR x (rowsN p at_ (ws.drop (j + 1))) av = holeR x (rowsN p at_ ws) (-1)):=Lib.hid (by have h:=HST.out;rw [if_pos ⟨g1,.inr g3⟩] at h;exact h)
      go_wp2
      go_round
      case rel=>exact ⟨j + 1,av,rfl,by go_num,by omega,by omega,by omega,Lib.hid HNX.out⟩
      case measure=>simp [intOf];omega
     ·have HNX:Hid (holeR x (rowsN p at_ (ws.drop (j + 1))) e = holeR x (rowsN p at_ ws) (-1)):=Lib.hid (by have h:=HST.out;rw [if_neg (fun q=>q.2.elim g2 g3)] at h;exact h)
      go_wp2
      go_round
      case rel=>exact ⟨j + 1,e,rfl,by go_num,by omega,by omega,by omega,Lib.hid HNX.out⟩
      case measure=>simp [intOf];omega
   ·have HNX:Hid (holeR x (rowsN p at_ (ws.drop (j + 1))) e = holeR x (rowsN p at_ ws) (-1)):=Lib.hid (by have h:=HST.out;rw [if_neg (fun q=>g1 q.1)] at h;exact h)
    go_wp2
    go_round
    case rel=>exact ⟨j + 1,e,rfl,by go_num,by omega,by omega,by omega,Lib.hid HNX.out⟩
    case measure=>simp [intOf];omega
  ·have hlt':¬ (j:Int) < (m:Int):=by omega
   have HF:Hid (e = holeR x (rowsN p at_ ws) (-1)):=Lib.hid (by
    have h:=HS.out
    rw [List.drop_of_length_le (by rw [HN.out.2.1];omega)] at h
    exact h)
   go_wp2
   go_ret
   exact ⟨by rw [← HF.out];rfl,HX.out.below⟩
end Go.Proofs.YtoeaglpmkjoenaaGreat
