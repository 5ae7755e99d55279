/-
  Chapter 10: the inputs that say shapes; what is wrong with them. No condition.
-/
/-
  Chapter 10: what an operator's inputs must be, and its outputs are. No condition.
-/
/-
  Chapter 10: MaxPool, AveragePool, Conv. No condition.
-/
/-
  Steps of a region that draws: parts of a list. No condition.
-/
import Derived.Deep.CutBlock
import Derived.Test.YtilobeohkomeoaaGreatQToldT
set_option linter.unusedSimpArgs false
set_option linter.unusedVariables false
namespace Go.Proofs.YtilobeohkomeoaaGreat
open Go.RowKit
open Rep (rep)
structure GrowV (n:Nat) (W:World) (v:Value) (l:List ValD) (xs:List Value):Prop where
 own:W.ownsRow n 45 8 v l.length xs
 ch:Chunks W (old n) xs l
 le:n ≤ W.heap.size
theorem GrowV.nil (W:World):GrowV W.heap.size W (.slice none 0 0) [] []:=⟨World.ownsRow_nil _ _ _ _,rfl,Nat.le_refl _⟩
theorem GrowV.next {n:Nat} {W W':World} {v:Value} {l:List ValD} {xs:List Value} (h:GrowV n W v l xs) (hb:Below W.heap.size W W'):GrowV n W' v l xs :=
 ⟨own_below h.own hb,h.ch.keep (Keeps.old_below hb h.le),Nat.le_trans h.le hb.size⟩
theorem GrowV.more {n:Nat} {W W':World} {v v':Value} {l:List ValD} {xs zc:List Value} {z:ValD} {ob:Obj} (h:GrowV n W v l xs) (hz:rep W (old n) zc z)
  (hown:W'.ownsRow n 45 8 v' (l.length + 1) (xs++zc)) (hg:(W.alloc ob).grownBy W' v.ownBlock):GrowV n W' v' (l++[z]) (xs++zc)∧Below n W W':=by
 have hb:Below n W W':=((Below.refl _ _).alloc h.le ob).grown hg (by rw [World.size_alloc];have:=h.le;omega) (fun g hg=>(h.own.lt g hg).1)
 have hk:Keeps (old n) W W':=Keeps.old_below hb (Nat.le_refl _)
 exact ⟨⟨by rw [List.length_append];exact hown,(Chunks.keep hk h.ch).snoc (Rep.keep hz hk),Nat.le_trans h.le hb.size⟩,hb⟩
theorem GrowV.fin {n:Nat} {W:World} {v:Value} {l:List ValD} {xs:List Value} (h:GrowV n W v l xs) (hl:l.length * 144 ≤ reach):∃ A k,v = .slice A l.length k∧rep W (old W.heap.size) [.slice A l.length k] l:=by
 have hr:rep W (old W.heap.size) [v] l:=rep_of_own h.own (Chunks.more (old_le h.le) h.ch) hl (fun g _ _ h2=>h2)
 obtain ⟨A,k,e⟩:=slice_form hr
 injection e with e
 subst e
 exact ⟨A,k,rfl,hr⟩
theorem valInfoZ:(Tryz.prog.info? 45).map (fun i=>(i.zero,i.size,i.bytes)) = some (some (.agg zeroV.toArray),8,144):=by kernel_rfl
theorem AskI.past {w W W':World} {cs:List Value} {a:AskD} (h:AskI w cs a W) {n:Nat} (hn:w.heap.size < n) (hb:Below n W W'):AskI w cs a W' :=
 ⟨⟨h.box.below.trans (hb.mono (Nat.le_of_lt hn)),(hb.block _ hn).trans h.box.row⟩,h.was⟩
set_option maxRecDepth 100000 in
set_option maxHeartbeats 8000000 in
theorem lists_any (cs:List Value) (a:AskD) (w:World) (hr:rep w (old w.heap.size) cs a) :
  Calls Tryz.prog 93 #[.agg cs.toArray] w fun e w'=>∃ (A:Option Addr) (k:Nat) (ls:List ValD),e = .returned (.slice A ls.length k)∧rep w' (old w'.heap.size) [.slice A ls.length k] ls∧Below w.heap.size w w'∧(a.op = 28 ∨ a.op = 16 ∨ a.op = 2→ls = []):=by
 obtain ⟨i0,hi0,hz0,hz1,hz2⟩:=info_parts valInfoZ
 have HO:=Lib.hid (ask_op hr)
 go_enter Tryz.func93,Tryz.ntmps93
 go_wp2_with (with_reducible refine wpList_box_row rfl 91 _ rfl cs rfl ?_;have hX:=ask_start hr;generalize World.alloc _ _ = W0 at hX ⊢;have HX:=Lib.hid hX;clear hX hr;refine halt ?_)
 unfold Halt
 have c0:=HX.out.cell HO.out.1
 obtain ⟨op,hop⟩:∃ op,a.op = op:=⟨_,rfl⟩
 rw [hop] at c0
 have HP:=Lib.hid hop
 clear hop
 go_upto_block 0 with (fail)
 go_cut [3,4] from 9 to 21 (fun u v wx=>∃ f t:Nat,u = .int .i64 f∧v = .int .i64 t∧f ≤ t∧t ≤ 5∧¬ (op = 28 ∨ op = 16 ∨ op = 2)∧W0 = wx)
 case first =>
  by_cases h1:op = 62
  ·subst h1
   go_wp2
   go_meet
   exact ⟨0,1,rfl,rfl,by omega,by omega,by omega,rfl⟩
  by_cases h2:op = 49
  ·subst h2
   go_wp2
   go_meet
   exact ⟨1,5,rfl,rfl,by omega,by omega,by omega,rfl⟩
  by_cases h3:op = 46 ∨ op = 48 ∨ op = 53 ∨ op = 54 ∨ op = 55 ∨ op = 56 ∨ op = 57 ∨ op = 65
  ·rcases h3 with rfl | rfl | rfl | rfl | rfl | rfl | rfl | rfl
   all_goals
    go_wp2
    go_meet
    exact ⟨1,2,rfl,rfl,by omega,by omega,by omega,rfl⟩
  ·have HB:=HX.out.below
   have e62:(op == 62) = false:=beq_eq_false_iff_ne.2 (by omega)
   have e49:(op == 49) = false:=beq_eq_false_iff_ne.2 (by omega)
   have e46:(op == 46) = false:=beq_eq_false_iff_ne.2 (by omega)
   have e48:(op == 48) = false:=beq_eq_false_iff_ne.2 (by omega)
   have e53:(op == 53) = false:=beq_eq_false_iff_ne.2 (by omega)
   have e54:(op == 54) = false:=beq_eq_false_iff_ne.2 (by omega)
   have e55:(op == 55) = false:=beq_eq_false_iff_ne.2 (by omega)
   have e56:(op == 56) = false:=beq_eq_false_iff_ne.2 (by omega)
   have e57:(op == 57) = false:=beq_eq_false_iff_ne.2 (by omega)
   have e65:(op == 65) = false:=beq_eq_false_iff_ne.2 (by omega)
   clear h1 h2 h3
   go_wp2
   go_ret
   exact ⟨none,0,[],rfl,rep_nil _ _,HB,fun _=>rfl⟩
 case rest =>
  obtain ⟨f,t,rfl,rfl,hft,ht5,hn,rfl⟩:=hcut
  clear c0
  have HN:Hid (¬ (a.op = 28 ∨ a.op = 16 ∨ a.op = 2)):=Lib.hid (by rw [HP.out];exact hn)
  clear hn
  go_wp2_with fail
  go_loopw [5,6] (fun v i wr=>∃ (c:Nat) (l:List ValD) (xs:List Value),i = .int .i64 c∧f ≤ c∧c ≤ t∧l.length ≤ c∧GrowV W0.heap.size wr v l xs∧AskI w cs a wr) (fun _ i _=>t - (intOf i).toNat)
  case atStart=>exact ⟨f,[],[],rfl,Nat.le_refl _,hft,Nat.zero_le _,GrowV.nil _,HX.out⟩
  case round =>
   obtain ⟨c,l,xs,rfl,hfc,hct,hlc,hG,hA⟩:=hrel
   obtain ⟨wb,rfl⟩:∃ wb,wb = wr:=⟨_,rfl⟩
   have HA:=Lib.hid hA
   have HG:=Lib.hid hG
   clear hA hG
   by_cases hlt:c < t
   ·have hlt':(c:Int) < (t:Int):=by omega
    go_wp2_with (with_reducible refine wpList_load_agg rfl 91 _ rfl _ _ _ rfl cs Tryz.underlying91 rfl HA.out.size HA.out.at ?_)
    refine (askHas cs a c _ HA.out.arg).mono ?_
    rintro e w1 ⟨rfl,hb⟩
    replace HA:=Lib.hid (HA.out.next hb)
    replace HG:=Lib.hid (HG.out.next hb)
    clear hb
    cases a.has c with
    | false =>
     go_wp2
     go_roundw
     case rel=>exact ⟨c + 1,l,xs,by go_num,by omega,by omega,by omega,HG.out,HA.out⟩
     case measure=>simp [intOf];omega
    | true =>
     go_wp2_with (with_reducible refine wpList_load_agg rfl 91 _ rfl _ _ _ rfl cs Tryz.underlying91 rfl HA.out.size HA.out.at ?_)
     refine (askVal' cs a c w.heap.size _ HA.out.below.size HA.out.arg0).mono ?_
     rintro e w2 ⟨zc,rfl,hv,hb⟩
     replace HA:=Lib.hid (HA.out.next hb)
     replace HG:=Lib.hid (HG.out.next hb)
     have HV:=Lib.hid (Rep.more hv (old_le (Nat.le_of_lt HX.out.lt)):rep w2 (old W0.heap.size) zc (a.val c))
     obtain ⟨A1,k1,A2,k2,A3,k3,A4,k4,A5,k5,rfl,-⟩:=open_ValD hv
     clear hb hv
     go_wp2_with (at_builtin;refine wpList_append_lies _ rfl _ _ 22 rfl W0.heap.size 45 i0 (.agg zeroV.toArray) 8 144 Tryz.underlying22 hi0 hz0 hz1 hz2 rfl (by decide) _ _ _ rfl (HG.out.own.alloc _) _ _ 1 1 _ rfl rfl (lies_new _ _ _) ?c2 ?c3 ?c4 ?c5 ?_)
     case c2=>exact Rep.one HV.out
     case c3=>unfold maxLen;omega
     case c4=>omega
     case c5=>have:=HG.out.le;simp;omega
     intro v' w3 hown' hgrow _
     obtain ⟨hG2,hb2⟩:=HG.out.more HV.out hown' hgrow
     replace HG:=Lib.hid hG2
     replace HA:=Lib.hid (HA.out.past HX.out.lt hb2)
     clear hG2 hb2 hown' hgrow
     go_wp2
     go_roundw
     case rel=>exact ⟨c + 1,_,_,by go_num,by omega,by omega,by simp;omega,HG.out,HA.out⟩
     case measure=>simp [intOf];omega
   ·have hlt':¬ (c:Int) < (t:Int):=by omega
    go_wp2
    go_ret
    obtain ⟨A,k,rfl,hr⟩:=HG.out.fin (by unfold reach;omega)
    exact ⟨A,k,l,rfl,hr,HA.out.below,fun e=>absurd e HN.out⟩
set_option maxRecDepth 100000 in
set_option maxHeartbeats 8000000 in
theorem told3_any (cs:List Value) (v:ValD) (w:World) (hr:rep w (old w.heap.size) cs v) :
  Calls Tryz.prog 96 #[.agg cs.toArray] w fun e w'=>e = .returned (.bool (v.t.i.any fun x=>decide (x > 4096)))∧Below w.heap.size w w':=by
 obtain ⟨A1,k1,A2,k2,A3,k3,A4,k4,A5,k5,hcs,-,-,ht⟩:=open_ValD hr
 obtain ⟨A2',k2',A3',k3',A4',k4',A5',k5',he,-,-,-,hi,-⟩:=open_TensorD ht
 simp only [List.cons.injEq,Value.slice.injEq,and_true,true_and] at he
 obtain ⟨-,-,⟨rfl,rfl⟩,-⟩:=he
 have h6:cs[6]? = some (.slice A4 v.t.i.length k4):=by rw [hcs];rfl
 have HI:=Lib.hid hi
 clear hcs ht hi
 go_enter Tryz.func96,Tryz.ntmps96
 go_wp2_with (with_reducible refine wpList_box_row rfl 45 _ rfl cs rfl ?_;have hX:=val_start hr;generalize World.alloc _ _ = W0 at hX ⊢;have HX:=Lib.hid hX;clear hX;refine halt ?_)
 unfold Halt
 have c6:=HX.out.cell h6
 go_wp2_with fail
 refine (containsI64s_any v.t.i _ 98 (fun x=>decide (x > 4096)) (fun W=>W = W0) W0 (fun _ _=>rfl) (HX.out.up HI.out) rfl (fun W h=>by rw [h];exact Below.refl _ _) fun x _ _ W hW=>(told31_any x W).mono (by rintro e w' ⟨rfl,rfl⟩;exact ⟨rfl,hW⟩)).mono ?_
 rintro e w1 ⟨rfl,rfl⟩
 go_wp2
 go_ret
 exact ⟨rfl,HX.out.below⟩
def ErrP (w:World) (P:Int→Prop) (e:Ending) (w':World):Prop:=∃ x:Int,e = .returned (.int .i64 x)∧I64 x∧Below w.heap.size w w'∧P x
set_option maxRecDepth 100000 in
set_option maxHeartbeats 8000000 in
theorem told_any (cs:List Value) (a:AskD) (w:World) (hr:rep w (old w.heap.size) cs a) :
  Calls Tryz.prog 69 #[.agg cs.toArray] w (ErrP w fun x=>a.op = 28 ∨ a.op = 16 ∨ a.op = 2→x = 0):=by
 have HO:=Lib.hid (ask_op hr)
 go_enter Tryz.func69,Tryz.ntmps69
 go_wp2_with (with_reducible refine wpList_box_row rfl 91 _ rfl cs rfl ?_;have hX:=ask_start hr;generalize World.alloc _ _ = W0 at hX ⊢;have HX:=Lib.hid hX;clear hX hr;refine halt ?_)
 unfold Halt
 go_wp2_with (with_reducible refine wpList_load_agg rfl 91 _ rfl _ _ _ rfl cs Tryz.underlying91 rfl HX.out.size HX.out.at ?_)
 refine (lists_any cs a _ HX.out.arg).mono ?_
 rintro e w1 ⟨A,k,ls,rfl,hl,hb,hn⟩
 replace HX:=Lib.hid (HX.out.next hb)
 have HL:=Lib.hid (And.intro hl hn)
 clear hb hl hn
 go_wp2_with fail
 refine (containsVals_any ls _ 94 (fun v=>!heldD v) w1 (fun _ _=>rfl) HL.out.1 fun x _ zc W _ hW=>told1_any zc x W hW).mono ?_
 rintro e w2 ⟨rfl,hb⟩
 have HK:Hid (rep w2 (old w2.heap.size) [.slice A ls.length k] ls):=Lib.hid (Rep.more (Rep.keep HL.out.1 (Keeps.old_below hb (Nat.le_refl _))) (old_le hb.size))
 replace HX:=Lib.hid (HX.out.next hb)
 clear hb
 obtain ⟨t1,h1⟩:∃ t,(ls.any fun v=>!heldD v) = t:=⟨_,rfl⟩
 rw [h1]
 have H1:Hid ((a.op = 28 ∨ a.op = 16 ∨ a.op = 2)→t1 = false):=Lib.hid fun e=>by rw [← h1,HL.out.2 e];rfl
 clear h1
 cases t1 with
 | true =>
  go_wp2
  go_ret
  exact ⟨15,rfl,by unfold I64;omega,HX.out.below,fun e=>absurd (H1.out e) (by simp)⟩
 | false =>
  go_wp2_with fail
  refine (containsVals_any ls _ 95 (fun v=>(v.dims.length:Int) != 1) w2 (fun _ _=>rfl) HK.out fun x _ zc W _ hW=>told2_any zc x W hW).mono ?_
  rintro e w3 ⟨rfl,hb⟩
  replace HK:Hid (rep w3 (old w3.heap.size) [.slice A ls.length k] ls):=Lib.hid (Rep.more (Rep.keep HK.out (Keeps.old_below hb (Nat.le_refl _))) (old_le hb.size))
  replace HX:=Lib.hid (HX.out.next hb)
  clear hb
  obtain ⟨t2,h2⟩:∃ t,(ls.any fun v=>(v.dims.length:Int) != 1) = t:=⟨_,rfl⟩
  rw [h2]
  have H2:Hid ((a.op = 28 ∨ a.op = 16 ∨ a.op = 2)→t2 = false):=Lib.hid fun e=>by rw [← h2,HL.out.2 e];rfl
  clear h2
  have c0:=HX.out.cell HO.out.1
  cases t2 with
  | true =>
   go_wp2
   go_ret
   exact ⟨3,rfl,by unfold I64;omega,HX.out.below,fun e=>absurd (H2.out e) (by simp)⟩
  | false =>
   by_cases h49:a.op = 49
   ·rw [h49] at c0
    have HN:Hid (¬ (a.op = 28 ∨ a.op = 16 ∨ a.op = 2)):=Lib.hid (by omega)
    clear h49
    go_wp2
    go_ret
    exact ⟨0,rfl,by unfold I64;omega,HX.out.below,fun _=>rfl⟩
   ·have h49':(a.op != 49) = true:=by simpa using h49
    clear h49
    go_wp2_with fail
    refine (containsVals_any ls _ 96 (fun v=>v.t.i.any fun x=>decide (x > 4096)) w3 (fun _ _=>rfl) HK.out fun x _ zc W _ hW=>told3_any zc x W hW).mono ?_
    rintro e w4 ⟨rfl,hb⟩
    replace HX:=Lib.hid (HX.out.next hb)
    clear hb c0
    obtain ⟨t3,h3⟩:∃ t,(ls.any fun v=>v.t.i.any fun x=>decide (x > 4096)) = t:=⟨_,rfl⟩
    rw [h3]
    have H3:Hid ((a.op = 28 ∨ a.op = 16 ∨ a.op = 2)→t3 = false):=Lib.hid fun e=>by rw [← h3,HL.out.2 e];rfl
    clear h3
    cases t3 with
    | true =>
     go_wp2
     go_ret
     exact ⟨4,rfl,by unfold I64;omega,HX.out.below,fun e=>absurd (H3.out e) (by simp)⟩
    | false =>
     go_wp2
     go_ret
     exact ⟨0,rfl,by unfold I64;omega,HX.out.below,fun _=>rfl⟩
end Go.Proofs.YtilobeohkomeoaaGreat
set_option linter.unusedSimpArgs false
set_option linter.unusedVariables false
namespace Go.Proofs.YtilobeohkomeoaaGreat
open Go.RowKit
open Rep (rep)
def LetP (op:Int) (s:ByteArray):Prop:=1 ≤ s.size∧s.size ≤ 100∧¬ s.data[0]? = some 43∧(op = 2→s = ⟨#[110]⟩)∧(op = 16→s = ⟨#[102]⟩)∧(op = 28→s = ⟨#[110,61]⟩)
set_option maxRecDepth 100000 in
set_option maxHeartbeats 8000000 in
theorem sorts_any (op:Int) (w:World):Calls Tryz.prog 85 #[.int .i64 op] w fun e w'=>(∃ s,e = .returned (.string s)∧LetP op s)∧w' = w:=by
 by_cases h2:op = 2
 ·subst h2
  go_enter Tryz.func85,Tryz.ntmps85
  go_wp2
  go_ret
  exact ⟨⟨_,rfl,by decide,by decide,by decide,fun _=>rfl,by omega,by omega⟩,rfl⟩
 by_cases h16:op = 16
 ·subst h16
  go_enter Tryz.func85,Tryz.ntmps85
  go_wp2
  go_ret
  exact ⟨⟨_,rfl,by decide,by decide,by decide,by omega,fun _=>rfl,by omega⟩,rfl⟩
 by_cases h28:op = 28
 ·subst h28
  go_enter Tryz.func85,Tryz.ntmps85
  go_wp2
  go_ret
  exact ⟨⟨_,rfl,by decide,by decide,by decide,by omega,by omega,fun _=>rfl⟩,rfl⟩
 have HN:=Lib.hid (And.intro h2 (And.intro h16 h28))
 clear h2 h16 h28
 go_enter Tryz.func85,Tryz.ntmps85
 go_wp2
 all_goals
  go_ret
  exact ⟨⟨_,rfl,by decide,by decide,by decide,fun e=>absurd e HN.out.1,fun e=>absurd e HN.out.2.1,fun e=>absurd e HN.out.2.2⟩,rfl⟩
def FitP (a:AskD) (i:Nat) (c:Int) (b:Bool):Prop:=(a.val i).type = 1→c = 110 ∨ c = 102 ∨ c = 61∧(a.val 0).type = 1→b = true
def BoolP (w:World) (P:Bool→Prop) (e:Ending) (w':World):Prop:=∃ b:Bool,e = .returned (.bool b)∧Below w.heap.size w w'∧P b
set_option maxRecDepth 100000 in
set_option maxHeartbeats 8000000 in
theorem fits_any (cs:List Value) (a:AskD) (i:Nat) (c:Int) (w:World) (hr:rep w (old w.heap.size) cs a) (hc:c = 43→1 ≤ i) (hi:i < 9223372036854775807) :
  Calls Tryz.prog 86 #[.agg cs.toArray,.int .i64 i,.int .u8 c] w (BoolP w (FitP a i c)):=by
 have HC:=Lib.hid hc
 clear hc
 go_enter Tryz.func86,Tryz.ntmps86
 go_wp2_with (with_reducible refine wpList_box_row rfl 91 _ rfl cs rfl ?_;have hX:=ask_start hr;generalize World.alloc _ _ = W0 at hX ⊢;have HX:=Lib.hid hX;clear hX hr;refine halt ?_)
 unfold Halt
 have hf:=val_type
 go_wp2_with (with_reducible refine wpList_load_agg rfl 91 _ rfl _ _ _ rfl cs Tryz.underlying91 rfl HX.out.size HX.out.at ?_)
 refine (askVal cs a i _ HX.out.arg).mono ?_
 rintro e w1 ⟨vs,rfl,hv,hb⟩
 obtain ⟨A1,k1,A2,k2,A3,k3,A4,k4,A5,k5,rfl,hI,-,-⟩:=open_ValD hv
 replace HX:=Lib.hid (HX.out.next hb)
 clear hv hb
 obtain ⟨ty,hty⟩:∃ ty,(a.val i).type = ty:=⟨_,rfl⟩
 rw [hty]
 have HT:=Lib.hid hty
 clear hI hty
 by_cases h61:c = 61
 ·subst h61
  clear HC
  go_wp2_with (with_reducible refine wpList_load_agg rfl 91 _ rfl _ _ _ rfl cs Tryz.underlying91 rfl HX.out.size HX.out.at ?_)
  refine (askVal cs a 0 _ HX.out.arg).mono ?_
  rintro e w2 ⟨vs,rfl,hv,hb⟩
  obtain ⟨B1,j1,B2,j2,B3,j3,B4,j4,B5,j5,rfl,-,-,-⟩:=open_ValD hv
  replace HX:=Lib.hid (HX.out.next hb)
  clear hv hb
  obtain ⟨ty0,hty0⟩:∃ ty,(a.val 0).type = ty:=⟨_,rfl⟩
  rw [hty0]
  have HT0:=Lib.hid hty0
  clear hty0
  go_wp2
  go_ret
  refine ⟨_,rfl,HX.out.below,fun h1 h2=>?_⟩
  rcases h2 with h2 | h2 | ⟨-,h2⟩
  ·cases h2
  ·cases h2
  ·rw [HT.out] at h1
   rw [HT0.out] at h2
   rw [h1,h2];rfl
 by_cases h43:c = 43
 ·subst h43
  have hi1:=HC.out rfl
  obtain ⟨j,rfl⟩:∃ j,i = j + 1:=⟨i - 1,by omega⟩
  clear hi1 HC h61
  have hj:((j + 1:Nat):Int) - 1 = (j:Int):=by omega
  go_wp2_with (with_reducible refine wpList_load_agg rfl 91 _ rfl _ _ _ rfl cs Tryz.underlying91 rfl HX.out.size HX.out.at ?_)
  refine (askVal cs a j _ HX.out.arg).mono ?_
  rintro e w2 ⟨vs,rfl,hv,hb⟩
  obtain ⟨B1,j1,B2,j2,B3,j3,B4,j4,B5,j5,rfl,-,-,-⟩:=open_ValD hv
  replace HX:=Lib.hid (HX.out.next hb)
  clear hv hb
  go_wp2
  go_ret
  refine ⟨_,rfl,HX.out.below,fun h1 h2=>?_⟩
  rcases h2 with h2 | h2 | ⟨h2,-⟩ <;> cases h2
 by_cases h110:c = 110
 ·subst h110
  by_cases t1:ty = 1
  ·subst t1
   go_wp2
   go_ret
   exact ⟨_,rfl,HX.out.below,fun _ _=>rfl⟩
  ·have t1':(ty == 1) = false:=beq_eq_false_iff_ne.2 t1
   have HN:=Lib.hid t1
   clear t1
   go_wp2
   go_ret
   exact ⟨_,rfl,HX.out.below,fun h1 _=>absurd (HT.out.symm.trans h1) HN.out⟩
 by_cases h102:c = 102
 ·subst h102
  go_wp2
  go_ret
  refine ⟨_,rfl,HX.out.below,fun h1 _=>?_⟩
  rw [HT.out] at h1
  rw [h1];rfl
 have HQ:Hid (¬ (c = 110 ∨ c = 102 ∨ c = 61∧(a.val 0).type = 1)):=Lib.hid (by rintro (e | e | ⟨e,-⟩) <;> contradiction)
 have f1:(c == 61) = false:=beq_eq_false_iff_ne.2 h61
 have f2:(c == 43) = false:=beq_eq_false_iff_ne.2 h43
 have f3:(c == 110) = false:=beq_eq_false_iff_ne.2 h110
 have f4:(c == 102) = false:=beq_eq_false_iff_ne.2 h102
 clear h61 h43 h110 h102 HC
 by_cases h98:c = 98
 ·subst h98
  go_wp2
  go_ret
  exact ⟨_,rfl,HX.out.below,fun _ e=>absurd e HQ.out⟩
 by_cases h105:c = 105
 ·subst h105
  go_wp2
  go_ret
  exact ⟨_,rfl,HX.out.below,fun _ e=>absurd e HQ.out⟩
 have f5:(c == 98) = false:=beq_eq_false_iff_ne.2 h98
 have f6:(c == 105) = false:=beq_eq_false_iff_ne.2 h105
 clear h98 h105
 go_wp2_with fail
 refine (width_any ty _).mono ?_
 rintro e w2 ⟨rfl,rfl⟩
 generalize widthD ty = y
 go_wp2
 go_ret
 exact ⟨_,rfl,HX.out.below,fun _ e=>absurd e HQ.out⟩
end Go.Proofs.YtilobeohkomeoaaGreat
set_option linter.unusedSimpArgs false
set_option linter.unusedVariables false
namespace Go.Proofs.YtilobeohkomeoaaGreat
open Go.RowKit
open Rep (rep)
theorem four_all {p:Int→Prop} {a b c d:Int} (ha:p a) (hb:p b) (hc:p c) (hd:p d):∀ x ∈ [a,b,c,d],p x:=fun x hx=>by
 simp only [List.mem_cons,List.not_mem_nil,or_false] at hx
 rcases hx with rfl | rfl | rfl | rfl
 ·exact ha
 ·exact hb
 ·exact hc
 ·exact hd
theorem two_of {l:List Int} (h:l.length = 2):∃ x y,l = [x,y]:=by
 match l,h with
 | [x,y],_=>exact ⟨x,y,rfl⟩
set_option maxRecDepth 100000 in
set_option maxHeartbeats 8000000 in
theorem pool_any (cs:List Value) (a:AskD) (w:World) (hr:rep w (old w.heap.size) cs a) (hk2:a.s.kernel.length = 2) (hf1:manyD a.s.strides 2 = true) (hf2:manyD a.s.dilations 2 = true) (hf3:manyD a.s.pads 4 = true) :
  Calls Tryz.prog 79 #[.agg cs.toArray] w (ShP w P1):=by
 obtain ⟨ss,hs,hc⟩:=ask_set hr
 obtain ⟨Ak,kk,s1,r1⟩:=fld_list hs.f20
 have HC:=Lib.hid (And.intro (show LstN w.heap.size w Ak kk a.s.kernel from ⟨Nat.le_refl _,r1⟩) (hc 20 _ s1))
 have HF:=Lib.hid (And.intro hk2 (And.intro hf1 (And.intro hf2 hf3)))
 obtain ⟨kb,kb'⟩:=slice_bnd r1
 clear hs hc s1 r1 hk2 hf1 hf2 hf3
 go_enter Tryz.func79,Tryz.ntmps79
 go_wp2_with (with_reducible refine wpList_box_row rfl 91 _ rfl cs rfl ?_;have hX:=ask_start hr;generalize World.alloc _ _ = W0 at hX ⊢;have HX:=Lib.hid hX;clear hX hr;refine halt ?_)
 unfold Halt
 go_wp2_with (with_reducible refine wpList_load_agg rfl 91 _ rfl _ _ _ rfl cs Tryz.underlying91 rfl HX.out.size HX.out.at ?_)
 refine (askDims' cs a 0 w.heap.size _ HX.out.below.size HX.out.arg0).mono ?_
 rintro e V2 ⟨A0,k0,rfl,h0,hb⟩
 have L0:=Lib.hid (lst_n HX.out hb h0)
 obtain ⟨b0,b0'⟩:=slice_bnd h0
 clear h0
 replace HX:=Lib.hid (HX.out.next hb)
 clear hb
 have HD:=Lib.hid (rfl:a.dims 0 = a.dims 0)
 obtain ⟨d,hd⟩:∃ d,a.dims 0 = d:=⟨_,rfl⟩
 replace HD:Hid (a.dims 0 = d):=Lib.hid hd
 rw [hd] at L0 b0 ⊢
 clear hd
 by_cases h4:d.length = 4
 ·obtain ⟨d0,d1,d2,d3,rfl⟩:=four h4
  have LB:=Lib.hid (HX.out.back L0.out)
  obtain ⟨i0,b2,o2,rfl,-,-⟩:=L0.out.get (j:=0) rfl
  obtain ⟨i1,-,-⟩:=L0.out.at (j:=1) rfl
  have HI:=Lib.hid (And.intro i0 i1)
  clear h4 i0 i1
  have ck:=HX.out.cell HC.out.2
  go_wp2_with (with_reducible refine wpList_load_agg rfl 91 _ rfl _ _ _ rfl cs Tryz.underlying91 rfl HX.out.size HX.out.at ?_)
  clear ck
  refine (windows_any cs a a.s.kernel Ak kk _ HX.out.arg (HC.out.1.next HX.out.below).lst HF.out.1 (by rw [HD.out];rfl) HF.out.2.1 HF.out.2.2.1 HF.out.2.2.2).mono ?_
  rintro e V7 ⟨⟨An,kn,ln,bn,rfl,hO,hbn⟩,hb⟩
  replace HX:=Lib.hid (HX.out.next hb)
  have LN:=Lib.hid (And.intro hO hbn)
  obtain ⟨nb,nb'⟩:=slice_bnd hO
  clear hb hO hbn
  cases bn with
  | false =>
   go_wp2_with fail
   refine (misfit_any _).mono ?_
   rintro e w9 ⟨rfl,rfl⟩
   go_wp2
   go_ret2
   exact sh_misfit HX.out.below
  | true =>
   obtain ⟨n0,n1,rfl⟩:=two_of (LN.out.2 rfl)
   obtain ⟨j0,b5,o5,rfl,-,c50,-⟩:=LN.out.1.get (j:=0) rfl
   obtain ⟨j1,-,c51,-⟩:=LN.out.1.at (j:=1) rfl
   have h5:b5 < V7.heap.size:=(int_at (j:=0) LN.out.1.rep rfl).2.elim fun b h=>h.elim fun o h=>by obtain ⟨e,h,-⟩:=h;injection e with e;injection e with e1 e2;rw [e1];exact h
   have HN:=Lib.hid (And.intro c50 (And.intro c51 (And.intro h5 (And.intro j0 j1))))
   clear c50 c51 h5 j0 j1
   go_wp2_with fail
   refine wp_region_held_drew (S:=fun W=>AskI w cs a W∧Below V7.heap.size V7 W) (by kernel_rfl) ⟨HX.out.next ((Below.refl _ _).drew),(Below.refl _ _).drew⟩ (fun hHeld=>?_)
   generalize World.drew _ = V41 at hHeld ⊢
   have hb:=hHeld.2
   clear hb
   refine tk0 0 (some 28) (v:=.slice (some ⟨b2,o2,none⟩) 4 k0) rfl hHeld ?_
   refine tk9 1 (some 29) (v:=.pointer (some ⟨b2,o2 + 0,none⟩)) rfl (yields_idx (by kernel_rfl) _ _ rfl b2 o2 (4) k0 0 (by kernel_rfl) (by kernel_rfl) (by omega)) hHeld ?_
   refine tk9 2 (some 30) (v:=.int .i64 d0) rfl (yields_load_one9 (by kernel_rfl) _ _ rfl b2 (o2 + 0) (by kernel_rfl) _ _ Tryz.underlying3 rfl (fun _ h=>h.1.elem LB.out (j:=0) rfl)) hHeld ?_
   refine tk0 3 (some 31) (v:=.slice (some ⟨b2,o2,none⟩) 4 k0) rfl hHeld ?_
   refine tk9 4 (some 32) (v:=.pointer (some ⟨b2,o2 + 1,none⟩)) rfl (yields_idx (by kernel_rfl) _ _ rfl b2 o2 (4) k0 1 (by kernel_rfl) (by kernel_rfl) (by omega)) hHeld ?_
   refine tk9 5 (some 33) (v:=.int .i64 d1) rfl (yields_load_one9 (by kernel_rfl) _ _ rfl b2 (o2 + 1) (by kernel_rfl) _ _ Tryz.underlying3 rfl (fun _ h=>h.1.elem LB.out (j:=1) rfl)) hHeld ?_
   refine tk0 6 (some 34) (v:=.slice (some ⟨b5,o5,none⟩) 2 kn) rfl hHeld ?_
   refine tk9 7 (some 35) (v:=.pointer (some ⟨b5,o5 + 0,none⟩)) rfl (yields_idx (by kernel_rfl) _ _ rfl b5 o5 (2) kn 0 (by kernel_rfl) (by kernel_rfl) (by omega)) hHeld ?_
   refine tk9 8 (some 36) (v:=.int .i64 n0) rfl (yields_load_one9 (by kernel_rfl) _ _ rfl b5 (o5 + 0) (by kernel_rfl) _ _ Tryz.underlying3 rfl (fun _ h=>(h.2.cell (p:=⟨b5,o5 + 0,none⟩) HN.out.2.2.1).trans HN.out.1)) hHeld ?_
   refine tk0 9 (some 37) (v:=.slice (some ⟨b5,o5,none⟩) 2 kn) rfl hHeld ?_
   refine tk9 10 (some 38) (v:=.pointer (some ⟨b5,o5 + 1,none⟩)) rfl (yields_idx (by kernel_rfl) _ _ rfl b5 o5 (2) kn 1 (by kernel_rfl) (by kernel_rfl) (by omega)) hHeld ?_
   refine tk9 11 (some 39) (v:=.int .i64 n1) rfl (yields_load_one9 (by kernel_rfl) _ _ rfl b5 (o5 + 1) (by kernel_rfl) _ _ Tryz.underlying3 rfl (fun _ h=>(h.2.cell (p:=⟨b5,o5 + 1,none⟩) HN.out.2.2.1).trans HN.out.2.1)) hHeld ?_
   refine oneLay 12 (some 40) rfl rfl (by kernel_rfl) (by kernel_rfl) (.slice (some ⟨V41.heap.size,0,none⟩) 4 4) [.cells #[.int .i64 d0,.int .i64 d1,.int .i64 n0,.int .i64 n1] 3] (by kernel_rfl) (held_next hHeld ((Below.refl _ _).alloc (Nat.le_refl _) _)) ?_
   replace hHeld:=held_next hHeld ((Below.refl V41.heap.size V41).alloc (Nat.le_refl _) (.cells #[.int .i64 d0,.int .i64 d1,.int .i64 n0,.int .i64 n1] 3))
   refine call_d9 13 (some 41) rfl (by kernel_rfl) (by kernel_rfl) (by kernel_rfl) 81 _ _ rfl #[.slice (some ⟨V41.heap.size,0,none⟩) 4 4] (by kernel_rfl) (fun w=>by kernel_rfl) ?_
   refine (one_any [d0,d1,n0,n1] (some ⟨V41.heap.size,0,none⟩) 4 _ (lst_new V41 [d0,d1,n0,n1] 3 (four_all HI.out.1 HI.out.2 HN.out.2.2.2.1 HN.out.2.2.2.2) (by simp))).mono ?_
   rintro e V62 ⟨D,jj,x,ll,rfl,hx,hb,hL,rfl,rfl⟩
   have HD:=Lib.hid hL
   replace hHeld:=held_next hHeld hb
   refine ⟨_,rfl,hHeld,?_⟩
   clear hx hb hL
   refine tk0 14 (some 42) (v:=.slice D 1 jj) rfl hHeld ?_
   refine tk0 15 (some 43) (v:=.int .i64 0) rfl hHeld ?_
   refine tk0 16 (some 2) (v:=.slice D 1 jj) rfl hHeld ?_
   refine tk0 17 (some 3) (v:=.int .i64 0) rfl hHeld ?_
   refine wpAnyH_done (by kernel_rfl) ?_ _
   have HZ:=Lib.hid hHeld.1.below
   clear hHeld
   go_wp2
   go_ret2
   exact ⟨D,jj,0,_,by kernel_rfl,by unfold I64;omega,HZ.out,HD.out,fun _=>rfl⟩
 ·have h4':((d.length:Int) != 4) = true:=by simp;omega
  clear h4
  go_wp2_with fail
  refine (misfit_any _).mono ?_
  rintro e w9 ⟨rfl,rfl⟩
  go_wp2
  go_ret2
  exact sh_misfit HX.out.below
end Go.Proofs.YtilobeohkomeoaaGreat
set_option linter.unusedSimpArgs false
set_option linter.unusedVariables false
namespace Go.Proofs.YtilobeohkomeoaaGreat
open Go.RowKit
open Rep (rep)
section
variable {ops:Array Oper} {S:World→Prop} {o:Oper} {a:Act}
theorem yields_pre (hw:Region.wanted o (yielded ops a.tmps) = true) (x y:Operand) (ho:o.op = .slice 24 x none (some y) none) (b f n c j:Nat) (hx:a.eval x = .slice (some ⟨b,f,none⟩) n c) (hy:a.eval y = .int .i64 (j:Int)) (hj:j ≤ c) (hnc:n ≤ c):YieldsIf Tryz.prog ops S o (.slice (some ⟨b,f,none⟩) j c) a :=
 .inl ⟨hw,fun w h=>by
  have h0:(0:Int) ≤ (j:Int):=Int.natCast_nonneg _
  have h1:(j:Int) ≤ (c:Int):=by omega
  unfold execOp
  simp only [ho,hx,hy,Option.map]
  go_simp⟩
theorem yields_post (hw:Region.wanted o (yielded ops a.tmps) = true) (x y:Operand) (ho:o.op = .slice 24 x (some y) none none) (b f n c j:Nat) (hx:a.eval x = .slice (some ⟨b,f,none⟩) n c) (hy:a.eval y = .int .i64 (j:Int)) (hj:j ≤ n) (hnc:n ≤ c) (hc:¬ c - j = 0):YieldsIf Tryz.prog ops S o (.slice (some ⟨b,f + j,none⟩) (n - j) (c - j)) a :=
 .inl ⟨hw,fun w h=>by
  have h0:(0:Int) ≤ (j:Int):=Int.natCast_nonneg _
  have h1:(j:Int) ≤ (n:Int):=by omega
  have h2:(n:Int) ≤ (c:Int):=by omega
  unfold execOp
  simp only [ho,hx,hy,Option.map]
  go_simp
  intro e
  omega⟩
theorem yields_neqD (hw:Region.wanted o (yielded ops a.tmps) = true) (x y:Operand) (t u:TypeId) (ho:o.op = .binOp .neq t x y u) (p q:Int) (c:Bool) (hx:a.eval x = .int .i64 p) (hy:a.eval y = .int .i64 q) (_:Tryz.prog.underlying t = some (.int .i64)) (h:(p != q) = c):YieldsIf Tryz.prog ops S o (.bool c) a :=
 .inl ⟨hw,fun w _=>by
  subst h
  unfold execOp
  simp only [ho,hx,hy]
  go_simp⟩
theorem yields_eqlD (hw:Region.wanted o (yielded ops a.tmps) = true) (x y:Operand) (t u:TypeId) (ho:o.op = .binOp .eql t x y u) (p q:Int) (c:Bool) (hx:a.eval x = .int .i64 p) (hy:a.eval y = .int .i64 q) (_:Tryz.prog.underlying t = some (.int .i64)) (h:(p == q) = c):YieldsIf Tryz.prog ops S o (.bool c) a :=
 .inl ⟨hw,fun w _=>by
  subst h
  unfold execOp
  simp only [ho,hx,hy]
  go_simp⟩
theorem yields_remW (hw:Region.wanted o (yielded ops a.tmps) = true) (x y:Operand) (t u:TypeId) (ho:o.op = .binOp .rem t x y u) (p q:Int) (hx:a.eval x = .int .i64 p) (hy:a.eval y = .int .i64 q)
  (_:Tryz.prog.underlying t = some (.int .i64)) (h0:¬ q = 0):YieldsIf Tryz.prog ops S o (.int .i64 (p.tmod q)) a :=
 .inl ⟨hw,fun w _=>by
  unfold execOp
  simp only [ho,hx,hy]
  go_simp⟩
end
end Go.Proofs.YtilobeohkomeoaaGreat
