/-
  Chapter 10: the inputs that say shapes; what is wrong with them. No condition.
-/
/-
  Chapter 10: what an operator's inputs must be, and its outputs are. No condition.
-/
/-
  Chapter 10: do all inputs' types fit? No condition.
-/
import Derived.Deep.CutBlock
import Derived.Test.YtoeaglpmkjoenaaGreatQToldT
import Derived.Test.YtoeaglpmkjoenaaGreatQSrtW
set_option linter.unusedSimpArgs false
set_option linter.unusedVariables false
namespace Go.Proofs.YtoeaglpmkjoenaaGreat
open Go.RowKit
open Rep (rep)
structure GrowV (n:Nat) (W:World) (v:Value) (l:List ValD) (xs:List Value):Prop where
 own:W.ownsRow n 45 8 v l.length xs
 ch:Chunks W (old n) xs l
 le:n ≤ W.heap.size
theorem GrowV.nil (W:World):GrowV W.heap.size W (.slice none 0 0) [] []:=⟨World.ownsRow_nil _ _ _ _,rfl,Nat.le_refl _⟩
theorem GrowV.next {n:Nat} {W W':World} {v:Value} {l:List ValD} {xs:List Value} (h:GrowV n W v l xs) (hb:Below W.heap.size W W'):GrowV n W' v l xs :=
 ⟨own_below h.own hb,h.ch.keep (Keeps.old_below hb h.le),Nat.le_trans h.le hb.size⟩
theorem GrowV.more {n:Nat} {W W':World} {v v':Value} {l:List ValD} {xs zc:List Value} {z:ValD} {ob:Obj} (h:GrowV n W v l xs) (hz:rep W (old n) zc z)
  (hown:W'.ownsRow n 45 8 v' (l.length + 1) (xs++zc)) (hg:(W.alloc ob).grownBy W' v.ownBlock):GrowV n W' v' (l++[z]) (xs++zc)∧Below n W W':=by
 have hb:Below n W W':=((Below.refl _ _).alloc h.le ob).grown hg (by rw [World.size_alloc];have:=h.le;omega) (fun g hg=>(h.own.lt g hg).1)
 have hk:Keeps (old n) W W':=Keeps.old_below hb (Nat.le_refl _)
 exact ⟨⟨by rw [List.length_append];exact hown,(Chunks.keep hk h.ch).snoc (Rep.keep hz hk),Nat.le_trans h.le hb.size⟩,hb⟩
theorem GrowV.fin {n:Nat} {W:World} {v:Value} {l:List ValD} {xs:List Value} (h:GrowV n W v l xs) (hl:l.length * 144 ≤ reach):∃ A k,v = .slice A l.length k∧rep W (old W.heap.size) [.slice A l.length k] l:=by
 have hr:rep W (old W.heap.size) [v] l:=rep_of_own h.own (Chunks.more (old_le h.le) h.ch) hl (fun g _ _ h2=>h2)
 obtain ⟨A,k,e⟩:=slice_form hr
 injection e with e
 subst e
 exact ⟨A,k,rfl,hr⟩
theorem valInfoZ:(Tryz.prog.info? 45).map (fun i=>(i.zero,i.size,i.bytes)) = some (some (.agg zeroV.toArray),8,144):=by kernel_rfl
theorem AskI.past {w W W':World} {cs:List Value} {a:AskD} (h:AskI w cs a W) {n:Nat} (hn:w.heap.size < n) (hb:Below n W W'):AskI w cs a W' :=
 ⟨⟨h.box.below.trans (hb.mono (Nat.le_of_lt hn)),(hb.block _ hn).trans h.box.row⟩,h.was⟩
set_option maxRecDepth 100000 in
set_option maxHeartbeats 8000000 in
theorem lists_any (cs:List Value) (a:AskD) (w:World) (hr:rep w (old w.heap.size) cs a) :
  Calls Tryz.prog 133 #[.agg cs.toArray] w fun e w'=>∃ (A:Option Addr) (k:Nat) (ls:List ValD),e = .returned (.slice A ls.length k)∧rep w' (old w'.heap.size) [.slice A ls.length k] ls∧Below w.heap.size w w'∧(a.op = 28 ∨ a.op = 16 ∨ a.op = 2→ls = []):=by
 obtain ⟨i0,hi0,hz0,hz1,hz2⟩:=info_parts valInfoZ
 have HO:=Lib.hid (ask_op hr)
 go_enter Tryz.func133,Tryz.ntmps133
 go_wp2_with (with_reducible refine wpList_box_row rfl 107 _ rfl cs rfl ?_;have hX:=ask_start hr;generalize World.alloc _ _ = W0 at hX ⊢;have HX:=Lib.hid hX;clear hX hr;refine halt ?_)
 unfold Halt
 have c0:=HX.out.cell HO.out.1
 obtain ⟨op,hop⟩:∃ op,a.op = op:=⟨_,rfl⟩
 rw [hop] at c0
 have HP:=Lib.hid hop
 clear hop
 go_upto_block 0 with (fail)
 go_cut [3,4] from 9 to 21 (fun u v wx=>∃ f t:Nat,u = .int .i64 f∧v = .int .i64 t∧f ≤ t∧t ≤ 5∧¬ (op = 28 ∨ op = 16 ∨ op = 2)∧W0 = wx)
 case first =>
  by_cases h1:op = 62
  ·subst h1
   go_wp2
   go_meet
   exact ⟨0,1,rfl,rfl,by omega,by omega,by omega,rfl⟩
  by_cases h2:op = 49
  ·subst h2
   go_wp2
   go_meet
   exact ⟨1,5,rfl,rfl,by omega,by omega,by omega,rfl⟩
  by_cases h3:op = 46 ∨ op = 48 ∨ op = 53 ∨ op = 54 ∨ op = 55 ∨ op = 56 ∨ op = 57 ∨ op = 65
  ·rcases h3 with rfl | rfl | rfl | rfl | rfl | rfl | rfl | rfl
   all_goals
    go_wp2
    go_meet
    exact ⟨1,2,rfl,rfl,by omega,by omega,by omega,rfl⟩
  ·have HB:=HX.out.below
   have e62:(op == 62) = false:=beq_eq_false_iff_ne.2 (by omega)
   have e49:(op == 49) = false:=beq_eq_false_iff_ne.2 (by omega)
   have e46:(op == 46) = false:=beq_eq_false_iff_ne.2 (by omega)
   have e48:(op == 48) = false:=beq_eq_false_iff_ne.2 (by omega)
   have e53:(op == 53) = false:=beq_eq_false_iff_ne.2 (by omega)
   have e54:(op == 54) = false:=beq_eq_false_iff_ne.2 (by omega)
   have e55:(op == 55) = false:=beq_eq_false_iff_ne.2 (by omega)
   have e56:(op == 56) = false:=beq_eq_false_iff_ne.2 (by omega)
   have e57:(op == 57) = false:=beq_eq_false_iff_ne.2 (by omega)
   have e65:(op == 65) = false:=beq_eq_false_iff_ne.2 (by omega)
   clear h1 h2 h3
   go_wp2
   go_ret
   exact ⟨none,0,[],rfl,rep_nil _ _,HB,fun _=>rfl⟩
 case rest =>
  obtain ⟨f,t,rfl,rfl,hft,ht5,hn,rfl⟩:=hcut
  clear c0
  have HN:Hid (¬ (a.op = 28 ∨ a.op = 16 ∨ a.op = 2)):=Lib.hid (by rw [HP.out];exact hn)
  clear hn
  go_wp2_with fail
  go_loopw [5,6] (fun v i wr=>∃ (c:Nat) (l:List ValD) (xs:List Value),i = .int .i64 c∧f ≤ c∧c ≤ t∧l.length ≤ c∧GrowV W0.heap.size wr v l xs∧AskI w cs a wr) (fun _ i _=>t - (intOf i).toNat)
  case atStart=>exact ⟨f,[],[],rfl,Nat.le_refl _,hft,Nat.zero_le _,GrowV.nil _,HX.out⟩
  case round =>
   obtain ⟨c,l,xs,rfl,hfc,hct,hlc,hG,hA⟩:=hrel
   obtain ⟨wb,rfl⟩:∃ wb,wb = wr:=⟨_,rfl⟩
   have HA:=Lib.hid hA
   have HG:=Lib.hid hG
   clear hA hG
   by_cases hlt:c < t
   ·have hlt':(c:Int) < (t:Int):=by omega
    go_wp2_with (with_reducible refine wpList_load_agg rfl 107 _ rfl _ _ _ rfl cs Tryz.underlying107 rfl HA.out.size HA.out.at ?_)
    refine (askHas cs a c _ HA.out.arg).mono ?_
    rintro e w1 ⟨rfl,hb⟩
    replace HA:=Lib.hid (HA.out.next hb)
    replace HG:=Lib.hid (HG.out.next hb)
    clear hb
    cases a.has c with
    | false =>
     go_wp2
     go_roundw
     case rel=>exact ⟨c + 1,l,xs,by go_num,by omega,by omega,by omega,HG.out,HA.out⟩
     case measure=>simp [intOf];omega
    | true =>
     go_wp2_with (with_reducible refine wpList_load_agg rfl 107 _ rfl _ _ _ rfl cs Tryz.underlying107 rfl HA.out.size HA.out.at ?_)
     refine (askVal' cs a c w.heap.size _ HA.out.below.size HA.out.arg0).mono ?_
     rintro e w2 ⟨zc,rfl,hv,hb⟩
     replace HA:=Lib.hid (HA.out.next hb)
     replace HG:=Lib.hid (HG.out.next hb)
     have HV:=Lib.hid (Rep.more hv (old_le (Nat.le_of_lt HX.out.lt)):rep w2 (old W0.heap.size) zc (a.val c))
     obtain ⟨A1,k1,A2,k2,A3,k3,A4,k4,A5,k5,rfl,-⟩:=open_ValD hv
     clear hb hv
     go_wp2_with (at_builtin;refine wpList_append_lies _ rfl _ _ 22 rfl W0.heap.size 45 i0 (.agg zeroV.toArray) 8 144 Tryz.underlying22 hi0 hz0 hz1 hz2 rfl (by decide) _ _ _ rfl (HG.out.own.alloc _) _ _ 1 1 _ rfl rfl (lies_new _ _ _) ?c2 ?c3 ?c4 ?c5 ?_)
     case c2=>exact Rep.one HV.out
     case c3=>unfold maxLen;omega
     case c4=>omega
     case c5=>have:=HG.out.le;simp;omega
     intro v' w3 hown' hgrow _
     obtain ⟨hG2,hb2⟩:=HG.out.more HV.out hown' hgrow
     replace HG:=Lib.hid hG2
     replace HA:=Lib.hid (HA.out.past HX.out.lt hb2)
     clear hG2 hb2 hown' hgrow
     go_wp2
     go_roundw
     case rel=>exact ⟨c + 1,_,_,by go_num,by omega,by omega,by simp;omega,HG.out,HA.out⟩
     case measure=>simp [intOf];omega
   ·have hlt':¬ (c:Int) < (t:Int):=by omega
    go_wp2
    go_ret
    obtain ⟨A,k,rfl,hr⟩:=HG.out.fin (by unfold reach;omega)
    exact ⟨A,k,l,rfl,hr,HA.out.below,fun e=>absurd e HN.out⟩
set_option maxRecDepth 100000 in
set_option maxHeartbeats 8000000 in
theorem told3_any (cs:List Value) (v:ValD) (w:World) (hr:rep w (old w.heap.size) cs v) :
  Calls Tryz.prog 136 #[.agg cs.toArray] w fun e w'=>e = .returned (.bool (v.t.i.any fun x=>decide (x > 4096)))∧Below w.heap.size w w':=by
 obtain ⟨A1,k1,A2,k2,A3,k3,A4,k4,A5,k5,hcs,-,-,ht⟩:=open_ValD hr
 obtain ⟨A2',k2',A3',k3',A4',k4',A5',k5',he,-,-,-,hi,-⟩:=open_TensorD ht
 simp only [List.cons.injEq,Value.slice.injEq,and_true,true_and] at he
 obtain ⟨-,-,⟨rfl,rfl⟩,-⟩:=he
 have h6:cs[6]? = some (.slice A4 v.t.i.length k4):=by rw [hcs];rfl
 have HI:=Lib.hid hi
 clear hcs ht hi
 go_enter Tryz.func136,Tryz.ntmps136
 go_wp2_with (with_reducible refine wpList_box_row rfl 45 _ rfl cs rfl ?_;have hX:=val_start hr;generalize World.alloc _ _ = W0 at hX ⊢;have HX:=Lib.hid hX;clear hX;refine halt ?_)
 unfold Halt
 have c6:=HX.out.cell h6
 go_wp2_with fail
 refine (containsI64s_any v.t.i _ 138 (fun x=>decide (x > 4096)) (fun W=>W = W0) W0 (fun _ _=>rfl) (HX.out.up HI.out) rfl (fun W h=>by rw [h];exact Below.refl _ _) fun x _ _ W hW=>(told31_any x W).mono (by rintro e w' ⟨rfl,rfl⟩;exact ⟨rfl,hW⟩)).mono ?_
 rintro e w1 ⟨rfl,rfl⟩
 go_wp2
 go_ret
 exact ⟨rfl,HX.out.below⟩
def ErrP (w:World) (P:Int→Prop) (e:Ending) (w':World):Prop:=∃ x:Int,e = .returned (.int .i64 x)∧I64 x∧Below w.heap.size w w'∧P x
set_option maxRecDepth 100000 in
set_option maxHeartbeats 8000000 in
theorem told_any (cs:List Value) (a:AskD) (w:World) (hr:rep w (old w.heap.size) cs a) :
  Calls Tryz.prog 103 #[.agg cs.toArray] w (ErrP w fun x=>a.op = 28 ∨ a.op = 16 ∨ a.op = 2→x = 0):=by
 have HO:=Lib.hid (ask_op hr)
 go_enter Tryz.func103,Tryz.ntmps103
 go_wp2_with (with_reducible refine wpList_box_row rfl 107 _ rfl cs rfl ?_;have hX:=ask_start hr;generalize World.alloc _ _ = W0 at hX ⊢;have HX:=Lib.hid hX;clear hX hr;refine halt ?_)
 unfold Halt
 go_wp2_with (with_reducible refine wpList_load_agg rfl 107 _ rfl _ _ _ rfl cs Tryz.underlying107 rfl HX.out.size HX.out.at ?_)
 refine (lists_any cs a _ HX.out.arg).mono ?_
 rintro e w1 ⟨A,k,ls,rfl,hl,hb,hn⟩
 replace HX:=Lib.hid (HX.out.next hb)
 have HL:=Lib.hid (And.intro hl hn)
 clear hb hl hn
 go_wp2_with fail
 refine (containsVals_any ls _ 134 (fun v=>!heldD v) w1 (fun _ _=>rfl) HL.out.1 fun x _ zc W _ hW=>told1_any zc x W hW).mono ?_
 rintro e w2 ⟨rfl,hb⟩
 have HK:Hid (rep w2 (old w2.heap.size) [.slice A ls.length k] ls):=Lib.hid (Rep.more (Rep.keep HL.out.1 (Keeps.old_below hb (Nat.le_refl _))) (old_le hb.size))
 replace HX:=Lib.hid (HX.out.next hb)
 clear hb
 obtain ⟨t1,h1⟩:∃ t,(ls.any fun v=>!heldD v) = t:=⟨_,rfl⟩
 rw [h1]
 have H1:Hid ((a.op = 28 ∨ a.op = 16 ∨ a.op = 2)→t1 = false):=Lib.hid fun e=>by rw [← h1,HL.out.2 e];rfl
 clear h1
 cases t1 with
 | true =>
  go_wp2
  go_ret
  exact ⟨15,rfl,by unfold I64;omega,HX.out.below,fun e=>absurd (H1.out e) (by simp)⟩
 | false =>
  go_wp2_with fail
  refine (containsVals_any ls _ 135 (fun v=>(v.dims.length:Int) != 1) w2 (fun _ _=>rfl) HK.out fun x _ zc W _ hW=>told2_any zc x W hW).mono ?_
  rintro e w3 ⟨rfl,hb⟩
  replace HK:Hid (rep w3 (old w3.heap.size) [.slice A ls.length k] ls):=Lib.hid (Rep.more (Rep.keep HK.out (Keeps.old_below hb (Nat.le_refl _))) (old_le hb.size))
  replace HX:=Lib.hid (HX.out.next hb)
  clear hb
  obtain ⟨t2,h2⟩:∃ t,(ls.any fun v=>(v.dims.length:Int) != 1) = t:=⟨_,rfl⟩
  rw [h2]
  have H2:Hid ((a.op = 28 ∨ a.op = 16 ∨ a.op = 2)→t2 = false):=Lib.hid fun e=>by rw [← h2,HL.out.2 e];rfl
  clear h2
  have c0:=HX.out.cell HO.out.1
  cases t2 with
  | true =>
   go_wp2
   go_ret
   exact ⟨3,rfl,by unfold I64;omega,HX.out.below,fun e=>absurd (H2.out e) (by simp)⟩
  | false =>
   by_cases h49:a.op = 49
   ·rw [h49] at c0
    have HN:Hid (¬ (a.op = 28 ∨ a.op = 16 ∨ a.op = 2)):=Lib.hid (by omega)
    clear h49
    go_wp2
    go_ret
    exact ⟨0,rfl,by unfold I64;omega,HX.out.below,fun _=>rfl⟩
   ·have h49':(a.op != 49) = true:=by simpa using h49
    clear h49
    go_wp2_with fail
    refine (containsVals_any ls _ 136 (fun v=>v.t.i.any fun x=>decide (x > 4096)) w3 (fun _ _=>rfl) HK.out fun x _ zc W _ hW=>told3_any zc x W hW).mono ?_
    rintro e w4 ⟨rfl,hb⟩
    replace HX:=Lib.hid (HX.out.next hb)
    clear hb c0
    obtain ⟨t3,h3⟩:∃ t,(ls.any fun v=>v.t.i.any fun x=>decide (x > 4096)) = t:=⟨_,rfl⟩
    rw [h3]
    have H3:Hid ((a.op = 28 ∨ a.op = 16 ∨ a.op = 2)→t3 = false):=Lib.hid fun e=>by rw [← h3,HL.out.2 e];rfl
    clear h3
    cases t3 with
    | true =>
     go_wp2
     go_ret
     exact ⟨4,rfl,by unfold I64;omega,HX.out.below,fun e=>absurd (H3.out e) (by simp)⟩
    | false =>
     go_wp2
     go_ret
     exact ⟨0,rfl,by unfold I64;omega,HX.out.below,fun _=>rfl⟩
end Go.Proofs.YtoeaglpmkjoenaaGreat
set_option linter.unusedSimpArgs false
set_option linter.unusedVariables false
namespace Go.Proofs.YtoeaglpmkjoenaaGreat
open Go.RowKit
open Rep (rep)
def LetP (op:Int) (s:ByteArray):Prop:=1 ≤ s.size∧s.size ≤ 100∧¬ s.data[0]? = some 43∧(op = 2→s = ⟨#[110]⟩)∧(op = 16→s = ⟨#[102]⟩)∧(op = 28→s = ⟨#[110,61]⟩)
set_option maxRecDepth 100000 in
set_option maxHeartbeats 8000000 in
theorem sorts_any (op:Int) (w:World):Calls Tryz.prog 125 #[.int .i64 op] w fun e w'=>(∃ s,e = .returned (.string s)∧LetP op s)∧w' = w:=by
 by_cases h2:op = 2
 ·subst h2
  go_enter Tryz.func125,Tryz.ntmps125
  go_wp2
  go_ret
  exact ⟨⟨_,rfl,by decide,by decide,by decide,fun _=>rfl,by omega,by omega⟩,rfl⟩
 by_cases h16:op = 16
 ·subst h16
  go_enter Tryz.func125,Tryz.ntmps125
  go_wp2
  go_ret
  exact ⟨⟨_,rfl,by decide,by decide,by decide,by omega,fun _=>rfl,by omega⟩,rfl⟩
 by_cases h28:op = 28
 ·subst h28
  go_enter Tryz.func125,Tryz.ntmps125
  go_wp2
  go_ret
  exact ⟨⟨_,rfl,by decide,by decide,by decide,by omega,by omega,fun _=>rfl⟩,rfl⟩
 have HN:=Lib.hid (And.intro h2 (And.intro h16 h28))
 clear h2 h16 h28
 go_enter Tryz.func125,Tryz.ntmps125
 go_wp2
 all_goals
  go_ret
  exact ⟨⟨_,rfl,by decide,by decide,by decide,fun e=>absurd e HN.out.1,fun e=>absurd e HN.out.2.1,fun e=>absurd e HN.out.2.2⟩,rfl⟩
def FitP (a:AskD) (i:Nat) (c:Int) (b:Bool):Prop:=(a.val i).type = 1→c = 110 ∨ c = 102 ∨ c = 61∧(a.val 0).type = 1→b = true
def BoolP (w:World) (P:Bool→Prop) (e:Ending) (w':World):Prop:=∃ b:Bool,e = .returned (.bool b)∧Below w.heap.size w w'∧P b
set_option maxRecDepth 100000 in
set_option maxHeartbeats 8000000 in
theorem fits_any (cs:List Value) (a:AskD) (i:Nat) (c:Int) (w:World) (hr:rep w (old w.heap.size) cs a) (hc:c = 43→1 ≤ i) (hi:i < 9223372036854775807) :
  Calls Tryz.prog 126 #[.agg cs.toArray,.int .i64 i,.int .u8 c] w (BoolP w (FitP a i c)):=by
 have HC:=Lib.hid hc
 clear hc
 go_enter Tryz.func126,Tryz.ntmps126
 go_wp2_with (with_reducible refine wpList_box_row rfl 107 _ rfl cs rfl ?_;have hX:=ask_start hr;generalize World.alloc _ _ = W0 at hX ⊢;have HX:=Lib.hid hX;clear hX hr;refine halt ?_)
 unfold Halt
 have hf:=val_type
 go_wp2_with (with_reducible refine wpList_load_agg rfl 107 _ rfl _ _ _ rfl cs Tryz.underlying107 rfl HX.out.size HX.out.at ?_)
 refine (askVal cs a i _ HX.out.arg).mono ?_
 rintro e w1 ⟨vs,rfl,hv,hb⟩
 obtain ⟨A1,k1,A2,k2,A3,k3,A4,k4,A5,k5,rfl,hI,-,-⟩:=open_ValD hv
 replace HX:=Lib.hid (HX.out.next hb)
 clear hv hb
 obtain ⟨ty,hty⟩:∃ ty,(a.val i).type = ty:=⟨_,rfl⟩
 rw [hty]
 have HT:=Lib.hid hty
 clear hI hty
 by_cases h61:c = 61
 ·subst h61
  clear HC
  go_wp2_with (with_reducible refine wpList_load_agg rfl 107 _ rfl _ _ _ rfl cs Tryz.underlying107 rfl HX.out.size HX.out.at ?_)
  refine (askVal cs a 0 _ HX.out.arg).mono ?_
  rintro e w2 ⟨vs,rfl,hv,hb⟩
  obtain ⟨B1,j1,B2,j2,B3,j3,B4,j4,B5,j5,rfl,-,-,-⟩:=open_ValD hv
  replace HX:=Lib.hid (HX.out.next hb)
  clear hv hb
  obtain ⟨ty0,hty0⟩:∃ ty,(a.val 0).type = ty:=⟨_,rfl⟩
  rw [hty0]
  have HT0:=Lib.hid hty0
  clear hty0
  go_wp2
  go_ret
  refine ⟨_,rfl,HX.out.below,fun h1 h2=>?_⟩
  rcases h2 with h2 | h2 | ⟨-,h2⟩
  ·cases h2
  ·cases h2
  ·rw [HT.out] at h1
   rw [HT0.out] at h2
   rw [h1,h2];rfl
 by_cases h43:c = 43
 ·subst h43
  have hi1:=HC.out rfl
  obtain ⟨j,rfl⟩:∃ j,i = j + 1:=⟨i - 1,by omega⟩
  clear hi1 HC h61
  have hj:((j + 1:Nat):Int) - 1 = (j:Int):=by omega
  go_wp2_with (with_reducible refine wpList_load_agg rfl 107 _ rfl _ _ _ rfl cs Tryz.underlying107 rfl HX.out.size HX.out.at ?_)
  refine (askVal cs a j _ HX.out.arg).mono ?_
  rintro e w2 ⟨vs,rfl,hv,hb⟩
  obtain ⟨B1,j1,B2,j2,B3,j3,B4,j4,B5,j5,rfl,-,-,-⟩:=open_ValD hv
  replace HX:=Lib.hid (HX.out.next hb)
  clear hv hb
  go_wp2
  go_ret
  refine ⟨_,rfl,HX.out.below,fun h1 h2=>?_⟩
  rcases h2 with h2 | h2 | ⟨h2,-⟩ <;> cases h2
 by_cases h110:c = 110
 ·subst h110
  by_cases t1:ty = 1
  ·subst t1
   go_wp2
   go_ret
   exact ⟨_,rfl,HX.out.below,fun _ _=>rfl⟩
  ·have t1':(ty == 1) = false:=beq_eq_false_iff_ne.2 t1
   have HN:=Lib.hid t1
   clear t1
   go_wp2
   go_ret
   exact ⟨_,rfl,HX.out.below,fun h1 _=>absurd (HT.out.symm.trans h1) HN.out⟩
 by_cases h102:c = 102
 ·subst h102
  go_wp2
  go_ret
  refine ⟨_,rfl,HX.out.below,fun h1 _=>?_⟩
  rw [HT.out] at h1
  rw [h1];rfl
 have HQ:Hid (¬ (c = 110 ∨ c = 102 ∨ c = 61∧(a.val 0).type = 1)):=Lib.hid (by rintro (e | e | ⟨e,-⟩) <;> contradiction)
 have f1:(c == 61) = false:=beq_eq_false_iff_ne.2 h61
 have f2:(c == 43) = false:=beq_eq_false_iff_ne.2 h43
 have f3:(c == 110) = false:=beq_eq_false_iff_ne.2 h110
 have f4:(c == 102) = false:=beq_eq_false_iff_ne.2 h102
 clear h61 h43 h110 h102 HC
 by_cases h98:c = 98
 ·subst h98
  go_wp2
  go_ret
  exact ⟨_,rfl,HX.out.below,fun _ e=>absurd e HQ.out⟩
 by_cases h105:c = 105
 ·subst h105
  go_wp2
  go_ret
  exact ⟨_,rfl,HX.out.below,fun _ e=>absurd e HQ.out⟩
 have f5:(c == 98) = false:=beq_eq_false_iff_ne.2 h98
 have f6:(c == 105) = false:=beq_eq_false_iff_ne.2 h105
 clear h98 h105
 go_wp2_with fail
 refine (width_any ty _).mono ?_
 rintro e w2 ⟨rfl,rfl⟩
 generalize widthD ty = y
 go_wp2
 go_ret
 exact ⟨_,rfl,HX.out.below,fun _ e=>absurd e HQ.out⟩
end Go.Proofs.YtoeaglpmkjoenaaGreat
set_option linter.unusedSimpArgs false
set_option linter.unusedVariables false
namespace Go.Proofs.YtoeaglpmkjoenaaGreat
open Go.RowKit
open Rep (rep)
section
variable {ops:Array Oper} {S:World→Prop} {o:Oper} {a:Act}
theorem yields_minI (hw:Region.wanted o (yielded ops a.tmps) = true) (x y:Operand) (ts:Array TypeId) (ho:o.op = .call { callee:=.builtin .min,args:=#[x,y],argTypes:=ts }) (p q r:Int) (hx:a.eval x = .int .i64 p) (hy:a.eval y = .int .i64 q) (h:(if q < p then q else p) = r):YieldsIf Tryz.prog ops S o (.int .i64 r) a :=
 .inl ⟨hw,fun w _=>by
  subst h
  have e:(#[x,y]:Array Operand).map a.eval = #[.int .i64 p,.int .i64 q]:=by simp only [List.map_toArray,List.map_cons,List.map_nil,hx,hy]
  unfold execOp
  simp only [ho,resolve,e,Sem.run_bind,Sem.run_pure,Result.andThen_ok,invoke]
  rfl⟩
theorem yields_lenS (hw:Region.wanted o (yielded ops a.tmps) = true) (x:Operand) (t:TypeId) (ho:o.op = .call { callee:=.builtin .len,args:=#[x],argTypes:=#[t] })
  (s:ByteArray) (hx:a.eval x = .string s) (ht:Tryz.prog.underlying t = some .string):YieldsIf Tryz.prog ops S o (.int .i64 (s.size:Int)) a :=
 .inl ⟨hw,fun w h=>by
  unfold execOp
  simp only [ho]
  simp [resolve,invoke,builtin,hx]
  go_simp⟩
theorem yields_charI (hw:Region.wanted o (yielded ops a.tmps) = true) (x y:Operand) (ho:o.op = .index 9 x y) (s:ByteArray) (j:Nat) (c:Int) (hx:a.eval x = .string s) (hy:a.eval y = .int .i64 j) (hj:j < s.size) (hc:((s.data[j]?).map fun u=>(u.toNat:Int)) = some c):YieldsIf Tryz.prog ops S o (.int .u8 c) a :=
 .inl ⟨hw,fun w _=>by
  unfold execOp
  simp only [ho]
  simp [hx,hy]
  go_simp
  have he:s.data[j]? = some s[j]:=by
   rw [Array.getElem?_eq_getElem (show j < s.data.size from hj)];rfl
  rw [he] at hc
  simpa using hc⟩
end
def AskD.plain (a:AskD):Prop:=(a.op = 28 ∨ a.op = 16 ∨ a.op = 2)∧∀ i,i < a.ins.length→(a.val i).type = 1
theorem letter {a:AskD} {s:ByteArray} {j:Nat} {c:Int} (hs:LetP a.op s) (ha:a.plain) (hc:((s.data[j]?).map fun u=>(u.toNat:Int)) = some c):c = 110 ∨ c = 102 ∨ c = 61:=by
 obtain ⟨_,_,_,h2,h16,h28⟩:=hs
 rcases ha.1 with e | e | e
 ·rw [h28 e] at hc
  match j,hc with
  | 0,hc=>injection hc with hc;exact .inl hc.symm
  | 1,hc=>injection hc with hc;exact .inr (.inr hc.symm)
  | j + 2,hc=>cases hc
 ·rw [h16 e] at hc
  match j,hc with
  | 0,hc=>injection hc with hc;exact .inr (.inl hc.symm)
  | j + 1,hc=>cases hc
 ·rw [h2 e] at hc
  match j,hc with
  | 0,hc=>injection hc with hc;exact .inl hc.symm
  | j + 1,hc=>cases hc
def TypP (a:AskD) (b:Bool):Prop:=a.plain→b = true
set_option maxRecDepth 100000 in
set_option maxHeartbeats 8000000 in
theorem typed_any (cs:List Value) (a:AskD) (w:World) (hr:rep w (old w.heap.size) cs a) :
  Calls Tryz.prog 101 #[.agg cs.toArray] w (BoolP w (TypP a)):=by
 have HO:=Lib.hid (ask_op hr)
 obtain ⟨ss,hs,hc⟩:=ask_set hr
 have HM:=Lib.hid (hc 16 _ (fld_int hs.f16).1)
 have HI:=Lib.hid (ask_ins hr)
 clear hs hc
 go_enter Tryz.func101,Tryz.ntmps101
 go_wp2_with (with_reducible refine wpList_box_row rfl 107 _ rfl cs rfl ?_;have hX:=ask_start hr;generalize World.alloc _ _ = W0 at hX ⊢;have HX:=Lib.hid hX;clear hX hr;refine halt ?_)
 unfold Halt
 have c0:=HX.out.cell HO.out.1
 go_wp2_with fail
 refine (sorts_any a.op _).mono ?_
 rintro e w1 ⟨⟨s,rfl,hls⟩,rfl⟩
 have HS:=Lib.hid hls
 clear hls
 obtain ⟨Ai,ki,hci,hri⟩:=HI.out
 have ci:=HX.out.cell hci
 obtain ⟨ib,ib'⟩:=slice_bnd hri
 have HB:Hid (a.ins.length * 144 ≤ 140737488351232):=Lib.hid (len_bnd hri)
 clear hci hri
 go_wp2_with fail
 clear c0 ci
 go_loopw [11] (fun i wr=>∃ c:Nat,i = .int .i64 c∧c ≤ a.ins.length∧AskI w cs a wr) (fun i _=>a.ins.length - (intOf i).toNat)
 case atStart=>exact ⟨0,rfl,Nat.zero_le _,HX.out⟩
 case round =>
  obtain ⟨c,rfl,hcl,hA⟩:=hrel
  obtain ⟨wb,rfl⟩:∃ wb,wb = wr:=⟨_,rfl⟩
  have HA:=Lib.hid hA
  clear hA
  by_cases hlt:c < a.ins.length
  ·have hlt':(c:Int) < (a.ins.length:Int):=by omega
   go_wp2_with fail
   clear hlt'
   refine wp_region_held_drew (S:=fun W=>AskI w cs a W∧Below wb.heap.size wb W) (by kernel_rfl) ⟨HA.out.next ((Below.refl _ _).drew),(Below.refl _ _).drew⟩ (fun hHeld=>?_)
   generalize World.drew _ = V2 at hHeld ⊢
   have hb:=hHeld.2
   clear hb
   refine tk9 0 (some 14) (v:=.agg cs.toArray) rfl (yields_ask (by kernel_rfl) _ rfl (by kernel_rfl) (fun _ h=>h.1)) hHeld ?_
   refine tk0 1 (some 15) (v:=.int .i64 (c:Int)) rfl hHeld ?_
   refine call_d9 2 (some 16) rfl (by kernel_rfl) (by kernel_rfl) (by kernel_rfl) 100 _ _ rfl #[.agg cs.toArray,.int .i64 (c:Int)] (by kernel_rfl) (fun w=>by kernel_rfl) ?_
   refine (askHas cs a c _ hHeld.1.arg).mono ?_
   rintro e V3 ⟨rfl,hb⟩
   replace hHeld:=held_next hHeld hb
   refine ⟨_,rfl,hHeld,?_⟩
   clear hb
   refine tk0 3 (some 17) (v:=.bool (a.has c)) rfl hHeld ?_
   generalize a.has c = hh
   cases hh with
   | false =>
    refine tk9 4 (some 18) (v:=undef) rfl (Or.inr ⟨by kernel_rfl,rfl⟩) hHeld ?_
    refine tk9 5 (some 19) (v:=undef) rfl (Or.inr ⟨by kernel_rfl,rfl⟩) hHeld ?_
    refine tk9 6 (some 20) (v:=undef) rfl (Or.inr ⟨by kernel_rfl,rfl⟩) hHeld ?_
    refine tk9 7 (some 21) (v:=undef) rfl (Or.inr ⟨by kernel_rfl,rfl⟩) hHeld ?_
    refine tk9 8 (some 22) (v:=undef) rfl (Or.inr ⟨by kernel_rfl,rfl⟩) hHeld ?_
    refine tk9 9 (some 23) (v:=undef) rfl (Or.inr ⟨by kernel_rfl,rfl⟩) hHeld ?_
    refine tk9 10 (some 24) (v:=undef) rfl (Or.inr ⟨by kernel_rfl,rfl⟩) hHeld ?_
    refine tk9 11 (some 25) (v:=undef) rfl (Or.inr ⟨by kernel_rfl,rfl⟩) hHeld ?_
    refine tk9 12 (some 26) (v:=undef) rfl (Or.inr ⟨by kernel_rfl,rfl⟩) hHeld ?_
    refine tk9 13 (some 27) (v:=undef) rfl (Or.inr ⟨by kernel_rfl,rfl⟩) hHeld ?_
    refine tk9 14 (some 28) (v:=undef) rfl (Or.inr ⟨by kernel_rfl,rfl⟩) hHeld ?_
    refine tk9 15 (some 29) (v:=undef) rfl (Or.inr ⟨by kernel_rfl,rfl⟩) hHeld ?_
    refine tk9 16 (some 30) (v:=undef) rfl (Or.inr ⟨by kernel_rfl,rfl⟩) hHeld ?_
    refine tk9 17 (some 31) (v:=undef) rfl (Or.inr ⟨by kernel_rfl,rfl⟩) hHeld ?_
    refine tk9 18 (some 32) (v:=undef) rfl (Or.inr ⟨by kernel_rfl,rfl⟩) hHeld ?_
    refine tk9 19 (some 33) (v:=undef) rfl (Or.inr ⟨by kernel_rfl,rfl⟩) hHeld ?_
    refine tk9 20 (some 34) (v:=undef) rfl (Or.inr ⟨by kernel_rfl,rfl⟩) hHeld ?_
    refine tk9 21 (some 35) (v:=undef) rfl (Or.inr ⟨by kernel_rfl,rfl⟩) hHeld ?_
    refine tk9 22 (some 36) (v:=undef) rfl (Or.inr ⟨by kernel_rfl,rfl⟩) hHeld ?_
    refine tk0 23 (some 37) (v:=.bool false) rfl hHeld ?_
    refine wpAnyH_done (by kernel_rfl) ?_ _
    rename_i K0 a0
    change K0 _ _
    refine a0 _ _ (wp_cond_false (by kernel_rfl) ?_)
    replace HA:=Lib.hid hHeld.1
    clear hHeld
    simp [Act.put]
    go_wp2
    go_roundw
    case rel=>exact ⟨c + 1,by go_num,by omega,HA.out⟩
    case measure=>simp [intOf];omega
   | true =>
    refine tk9 4 (some 18) (v:=.agg cs.toArray) rfl (yields_ask (by kernel_rfl) _ rfl (by kernel_rfl) (fun _ h=>h.1)) hHeld ?_
    refine tk0 5 (some 19) (v:=.int .i64 (c:Int)) rfl hHeld ?_
    refine call_d9 6 (some 20) rfl (by kernel_rfl) (by kernel_rfl) (by kernel_rfl) 116 _ _ rfl #[.agg cs.toArray,.int .i64 (c:Int)] (by kernel_rfl) (fun w=>by kernel_rfl) ?_
    refine (askVal cs a c _ hHeld.1.arg).mono ?_
    rintro e V4 ⟨vs,rfl,hv,hb⟩
    obtain ⟨A1,k1,A2,k2,A3,k3,A4,k4,A5,k5,rfl,-,-,-⟩:=open_ValD hv
    clear hv
    replace hHeld:=held_next hHeld hb
    refine ⟨_,rfl,hHeld,?_⟩
    clear hb
    refine tk0 7 (some 21) (v:=.int .i64 (a.val c).type) rfl hHeld ?_
    refine call_d9 8 (some 22) rfl (by kernel_rfl) (by kernel_rfl) (by kernel_rfl) 50 _ _ rfl #[.int .i64 (a.val c).type] (by kernel_rfl) (fun w=>by kernel_rfl) ?_
    refine (width_any (a.val c).type _).mono ?_
    rintro e w9 ⟨rfl,rfl⟩
    refine ⟨_,rfl,hHeld,?_⟩
    have HW:Hid (∀ n,widthD (a.val c).type = n→n = 0→¬ (a.val c).type = 1):=Lib.hid (fun n h1 h2 h3=>by rw [← h1,h3] at h2;cases h2)
    by_cases hw0:widthD (a.val c).type = 0
    ·skip
     refine tk9 9 (some 23) (v:=.bool true) rfl (yields_eqlD (by kernel_rfl) _ _ _ _ rfl (widthD (a.val c).type) 0 true (by kernel_rfl) (by kernel_rfl) (by kernel_rfl) (by rw [hw0];rfl)) hHeld ?_
     refine tk0 10 (some 24) (v:=.bool true) rfl hHeld ?_
     refine tk9 11 (some 25) (v:=undef) rfl (Or.inr ⟨by kernel_rfl,rfl⟩) hHeld ?_
     refine tk9 12 (some 26) (v:=undef) rfl (Or.inr ⟨by kernel_rfl,rfl⟩) hHeld ?_
     refine tk9 13 (some 27) (v:=undef) rfl (Or.inr ⟨by kernel_rfl,rfl⟩) hHeld ?_
     refine tk9 14 (some 28) (v:=undef) rfl (Or.inr ⟨by kernel_rfl,rfl⟩) hHeld ?_
     refine tk9 15 (some 29) (v:=undef) rfl (Or.inr ⟨by kernel_rfl,rfl⟩) hHeld ?_
     refine tk9 16 (some 30) (v:=undef) rfl (Or.inr ⟨by kernel_rfl,rfl⟩) hHeld ?_
     refine tk9 17 (some 31) (v:=undef) rfl (Or.inr ⟨by kernel_rfl,rfl⟩) hHeld ?_
     refine tk9 18 (some 32) (v:=undef) rfl (Or.inr ⟨by kernel_rfl,rfl⟩) hHeld ?_
     refine tk9 19 (some 33) (v:=undef) rfl (Or.inr ⟨by kernel_rfl,rfl⟩) hHeld ?_
     refine tk9 20 (some 34) (v:=undef) rfl (Or.inr ⟨by kernel_rfl,rfl⟩) hHeld ?_
     refine tk9 21 (some 35) (v:=undef) rfl (Or.inr ⟨by kernel_rfl,rfl⟩) hHeld ?_
     refine tk0 22 (some 36) (v:=.bool true) rfl hHeld ?_
     refine tk0 23 (some 37) (v:=.bool true) rfl hHeld ?_
     refine wpAnyH_done (by kernel_rfl) ?_ _
     rename_i K0 a0
     change K0 _ _
     refine a0 _ _ (wp_cond_true (by kernel_rfl) ?_)
     replace HA:=Lib.hid hHeld.1
     clear hHeld
     have HZ:=Lib.hid (HW.out _ hw0 rfl)
     clear hw0
     simp [Act.put]
     go_wp2
     go_ret
     exact ⟨false,rfl,HA.out.below,fun hp=>absurd (hp.2 c hlt) HZ.out⟩
    ·skip
     refine tk9 9 (some 23) (v:=.bool false) rfl (yields_eqlD (by kernel_rfl) _ _ _ _ rfl (widthD (a.val c).type) 0 false (by kernel_rfl) (by kernel_rfl) (by kernel_rfl) (beq_eq_false_iff_ne.2 hw0)) hHeld ?_
     refine tk0 10 (some 24) (v:=.bool false) rfl hHeld ?_
     clear hw0
     obtain ⟨j,hj⟩:∃ j:Nat,j = if s.size - 1 < c then s.size - 1 else c:=⟨_,rfl⟩
     have hs1:1 ≤ s.size:=HS.out.1
     have hs2:s.size ≤ 100:=HS.out.2.1
     have hjs:j < s.size:=by rw [hj];split <;> omega
     have hjm:(if (s.size:Int) - 1 < (c:Int) then (s.size:Int) - 1 else (c:Int)) = (j:Int):=by rw [hj];split <;> split <;> omega
     obtain ⟨u,hu⟩:∃ u:Int,((s.data[j]?).map fun u=>(u.toNat:Int)) = some u:=⟨_,by rw [Array.getElem?_eq_getElem (show j < s.data.size from hjs)];rfl⟩
     have h43:u = 43→1 ≤ c:=fun e=>by
      rcases Nat.eq_zero_or_pos c with e0 | e0
      ·exfalso
       have ej:j = 0:=by rw [hj];split <;> omega
       rw [ej] at hu
       refine HS.out.2.2.1 ?_
       cases hq:s.data[0]? with
       | none=>rw [hq] at hu;cases hu
       | some q =>
        rw [hq] at hu
        injection hu with hu
        rw [e] at hu
        have hu:(q.toNat:Int) = 43:=by simpa using hu
        rw [show q = 43 from UInt8.toNat_inj.1 (show q.toNat = 43 by omega)]
      ·exact e0
     have HU:=Lib.hid (And.intro hu h43)
     clear hu h43 hj
     refine tk9 11 (some 25) (v:=.agg cs.toArray) rfl (yields_ask (by kernel_rfl) _ rfl (by kernel_rfl) (fun _ h=>h.1)) hHeld ?_
     refine tk0 12 (some 26) (v:=.int .i64 (c:Int)) rfl hHeld ?_
     refine tk0 13 (some 27) (v:=.string s) rfl hHeld ?_
     refine tk0 14 (some 28) (v:=.int .i64 (c:Int)) rfl hHeld ?_
     refine tk0 15 (some 29) (v:=.string s) rfl hHeld ?_
     refine tk9 16 (some 30) (v:=.int .i64 (s.size:Int)) rfl (yields_lenS (by kernel_rfl) _ _ rfl s (by kernel_rfl) (by kernel_rfl)) hHeld ?_
     refine tk9 17 (some 31) (v:=.int .i64 ((s.size:Int) - 1)) rfl (yields_subI (by kernel_rfl) _ _ _ _ rfl (s.size:Int) 1 (by kernel_rfl) (by kernel_rfl) (by kernel_rfl) (by omega) (by omega) (by omega)) hHeld ?_
     refine tk9 18 (some 32) (v:=.int .i64 (j:Int)) rfl (yields_minI (by kernel_rfl) _ _ _ rfl (c:Int) ((s.size:Int) - 1) (j:Int) (by kernel_rfl) (by kernel_rfl) hjm) hHeld ?_
     refine tk9 19 (some 33) (v:=.int .u8 u) rfl (yields_charI (by kernel_rfl) _ _ rfl s j u (by kernel_rfl) (by kernel_rfl) hjs HU.out.1) hHeld ?_
     have hc63:c < 9223372036854775807:=by have:=HB.out;omega
     refine call_d9 20 (some 34) rfl (by kernel_rfl) (by kernel_rfl) (by kernel_rfl) 126 _ _ rfl #[.agg cs.toArray,.int .i64 (c:Int),.int .u8 u] (by kernel_rfl) (fun w=>by kernel_rfl) ?_
     refine (fits_any cs a c u _ hHeld.1.arg HU.out.2 hc63).mono ?_
     rintro e V5 ⟨ff,rfl,hb,hf⟩
     have HF:=Lib.hid hf
     clear hf
     replace hHeld:=held_next hHeld hb
     refine ⟨_,rfl,hHeld,?_⟩
     clear hb
     cases ff with
     | true =>
      refine tk0 21 (some 35) (v:=.bool false) rfl hHeld ?_
      refine tk0 22 (some 36) (v:=.bool false) rfl hHeld ?_
      refine tk0 23 (some 37) (v:=.bool false) rfl hHeld ?_
      refine wpAnyH_done (by kernel_rfl) ?_ _
      rename_i K0 a0
      change K0 _ _
      refine a0 _ _ (wp_cond_false (by kernel_rfl) ?_)
      replace HA:=Lib.hid hHeld.1
      clear hHeld hs1 hs2 hjs hjm hc63
      simp [Act.put]
      go_wp2
      go_roundw
      case rel=>exact ⟨c + 1,by go_num,by omega,HA.out⟩
      case measure=>simp [intOf];omega
     | false =>
      refine tk0 21 (some 35) (v:=.bool true) rfl hHeld ?_
      refine tk0 22 (some 36) (v:=.bool true) rfl hHeld ?_
      refine tk0 23 (some 37) (v:=.bool true) rfl hHeld ?_
      refine wpAnyH_done (by kernel_rfl) ?_ _
      rename_i K0 a0
      change K0 _ _
      refine a0 _ _ (wp_cond_true (by kernel_rfl) ?_)
      replace HA:=Lib.hid hHeld.1
      clear hHeld hs1 hs2 hjs hjm hc63
      simp [Act.put]
      go_wp2
      go_ret
      refine ⟨false,rfl,HA.out.below,fun hp=>?_⟩
      refine absurd (HF.out (hp.2 c hlt) ?_) (by decide)
      rcases letter HS.out hp HU.out.1 with e | e | e
      ·exact .inl e
      ·exact .inr (.inl e)
      ·exact .inr (.inr ⟨e,hp.2 0 (by omega)⟩)
  ·have hlt':¬ (c:Int) < (a.ins.length:Int):=by omega
   have c0:=HA.out.cell HO.out.1
   by_cases h52:a.op = 52
   ·have HN:Hid (¬ a.plain):=Lib.hid (fun h=>by have:=h.1;omega)
    rw [h52] at c0
    clear h52
    have c17:=HA.out.cell HM.out
    generalize a.s.mode = md at c17
    by_cases hm:md = 0
    ·subst hm
     go_wp2
     go_ret
     exact ⟨_,rfl,HA.out.below,fun e=>absurd e HN.out⟩
    ·have hm':(md == 0) = false:=beq_eq_false_iff_ne.2 hm
     clear hm
     go_wp2_with (with_reducible refine wpList_load_agg_w (by kernel_rfl) 107 _ rfl _ _ _ rfl cs Tryz.underlying107 rfl HA.out.size HA.out.at ?_)
     clear c0 c17
     refine (askVal cs a 0 _ HA.out.arg).mono ?_
     rintro e w2 ⟨vs,rfl,hv,hb⟩
     obtain ⟨A1,k1,A2,k2,A3,k3,A4,k4,A5,k5,rfl,-,-,-⟩:=open_ValD hv
     replace HA:=Lib.hid (HA.out.next hb)
     clear hv hb
     have hf:=val_type
     go_wp2
     go_ret
     exact ⟨_,rfl,HA.out.below,fun e=>absurd e HN.out⟩
   ·have h52':(a.op != 52) = true:=by simpa using h52
    clear h52
    go_wp2
    go_ret
    exact ⟨true,rfl,HA.out.below,fun _=>rfl⟩
end Go.Proofs.YtoeaglpmkjoenaaGreat
