/-
  Chapter 10: what is wrong ahead of shapes. No condition.
-/
/-
  Chapter 10: the types and shapes of an operation's outputs. No condition.
-/
import Derived.Test.YtoeaglpmkjoenaaGreatQAttr
set_option linter.unusedSimpArgs false
set_option linter.unusedVariables false
namespace Go.Proofs.YtoeaglpmkjoenaaGreat
open Go.RowKit
open Rep (rep)
def WrongP (a:AskD) (x:Int):Prop:=(x = 0→a.Att∧∀ i,i < a.ins.length→a.has i = true→(sizeD (a.dims i)).2 = 0)∧(a.plain→(∀ i,i < a.ins.length→(sizeD (a.dims i)).2 = 0)→x = 0)
theorem wrong_bad {a:AskD} {x:Int} (h:¬ x = 0) (hn:a.plain→(∀ i,i < a.ins.length→(sizeD (a.dims i)).2 = 0)→False):WrongP a x:=⟨fun e=>absurd e h,fun h1 h2=>(hn h1 h2).elim⟩
set_option maxRecDepth 100000 in
set_option maxHeartbeats 8000000 in
theorem wrong_any (cs:List Value) (a:AskD) (w:World) (hr:rep w (old w.heap.size) cs a) :
  Calls Tryz.prog 74 #[.agg cs.toArray] w (ErrP w (WrongP a)):=by
 have HI:=Lib.hid (ask_ins hr)
 go_enter Tryz.func74,Tryz.ntmps74
 go_wp2_with (with_reducible refine wpList_box_row rfl 107 _ rfl cs rfl ?_;have hX:=ask_start hr;generalize World.alloc _ _ = W0 at hX ⊢;have HX:=Lib.hid hX;clear hX hr;refine halt ?_)
 unfold Halt
 obtain ⟨Ai,ki,hci,hri⟩:=HI.out
 have ci:=HX.out.cell hci
 obtain ⟨ib,ib'⟩:=slice_bnd hri
 have HB:Hid (a.ins.length * 144 ≤ 140737488351232):=Lib.hid (len_bnd hri)
 obtain ⟨A',c',xs,hv,-,-,-,hl,hch⟩:=open_slice hri
 injection hv with hv1 hv2 hv3
 subst hv1
 have HL:=Lib.hid (And.intro hl hch)
 clear hci hri hv3 hv2 hl hch
 go_wp2_with fail
 clear ci
 go_loopw [10] (fun i wr=>∃ c:Nat,i = .int .i64 c∧c ≤ a.ins.length∧AskI w cs a wr∧∀ j < c,a.has j = true→(sizeD (a.dims j)).2 = 0) (fun i _=>a.ins.length - (intOf i).toNat)
 case atStart=>exact ⟨0,rfl,Nat.zero_le _,HX.out,by omega⟩
 case round =>
  obtain ⟨c,rfl,hcl,hA,hh⟩:=hrel
  obtain ⟨wb,rfl⟩:∃ wb,wb = wr:=⟨_,rfl⟩
  have HA:=Lib.hid hA
  have HH:=Lib.hid hh
  clear hA hh
  by_cases hlt:c < a.ins.length
  ·have hlt':(c:Int) < (a.ins.length:Int):=by omega
   have hz:a.ins[c]? = some (a.val c):=by unfold AskD.val;rw [List.getD_eq_getElem?_getD,List.getElem?_eq_getElem hlt];rfl
   obtain ⟨b,o,zc,rfl,hbB,hrz,hcell⟩:=elem_at HL.out.1 HL.out.2 (by decide) hz
   have hat:At wb b (o + c * 8) zc:=fun j u hu=>by rw [Nat.add_assoc];exact (HA.out.below.cell (p:=⟨b,o + (c * 8 + j),none⟩) hbB).trans (hcell j u hu).1
   obtain ⟨A1,k1,A2,k2,A3,k3,A4,k4,A5,k5,hzc,-,h1,-⟩:=open_ValD hrz
   obtain ⟨b1,b1'⟩:=slice_bnd h1
   have hv8:=val_facts hrz
   have HZ:=Lib.hid (And.intro hat (And.intro (show (Tryz.prog.info? 45).map (·.size) = some zc.length by rw [hv8.1];kernel_rfl) (And.intro (show zc[1]? = some (.slice A1 (a.dims c).length k1) by rw [hzc];rfl) (And.intro hv8.1 (And.intro hv8.2.2 h1)))))
   have HLN:=Lib.hid (show zc.length = zeroV.length from hv8.1)
   have hk0:(0:Int) ≤ (c:Int):=Int.natCast_nonneg _
   clear hat hrz hcell hzc h1 hv8 hz
   have hn:=heap_alloc_new wb (.cells zeroV.toArray 45)
   have HQ:=Lib.hid hn
   clear hn
   go_wp2_with (first
    |(with_reducible refine wpList_load_agg rfl 45 _ rfl _ _ _ rfl zc Tryz.underlying45 rfl HZ.out.2.1 HZ.out.1 ?_)
    |(with_reducible refine wpList_alloc_row rfl 45 rfl zeroV zeroV_zero ?_)
    |(with_reducible refine wpList_store_agg rfl 45 _ _ rfl _ 0 zc rfl rfl 45 zeroV HQ.out HZ.out.2.1 (by rw [HZ.out.2.2.2.1];exact of_decide_eq_true (by kernel_rfl)) HZ.out.2.2.2.2.1 ?_;have hX:=laid_row wb 45 zeroV zc HLN.out;generalize World.setRow _ _ _ = w1 at hX ⊢;have HW:=Lib.hid hX;clear hX;refine halt ?_))
   unfold Halt
   have hc1:=cell_row HW.out.2.1 HZ.out.2.2.1
   replace HA:=Lib.hid (HA.out.next HW.out.1)
   clear HW HQ
   go_wp2_with fail
   refine (size_any (a.dims c) A1 k1 w1 (Rep.more (Rep.keep HZ.out.2.2.2.2.2 (Keeps.old_below HA.out.below (Nat.le_refl _))) (old_le HA.out.below.size))).mono ?_
   rintro e w2 ⟨rfl,rfl⟩
   obtain ⟨y,hy⟩:∃ y,sizeD (a.dims c) = y:=⟨_,rfl⟩
   rw [hy]
   have HY:=Lib.hid hy
   clear hy
   obtain ⟨y1,y2⟩:=y
   simp only
   clear hc1
   go_wp2_with (with_reducible refine wpList_load_agg rfl 107 _ rfl _ _ _ rfl cs Tryz.underlying107 rfl HA.out.size HA.out.at ?_)
   refine (askHas cs a c _ HA.out.arg).mono ?_
   rintro e w3 ⟨rfl,hb⟩
   replace HA:=Lib.hid (HA.out.next hb)
   clear hb
   obtain ⟨h,hh⟩:∃ h,a.has c = h:=⟨_,rfl⟩
   rw [hh]
   have HHC:=Lib.hid hh
   clear hh
   cases h with
   | false =>
    go_wp2
    go_roundw
    case rel =>
     refine ⟨c + 1,by go_num,by omega,HA.out,fun j hj hs=>?_⟩
     by_cases e:j = c
     ·rw [e,HHC.out] at hs;cases hs
     ·exact HH.out j (by omega) hs
    case measure=>simp [intOf];omega
   | true =>
    by_cases hy2:y2 = 0
    ·have HY2:=Lib.hid hy2
     subst hy2
     go_wp2
     go_roundw
     case rel =>
      refine ⟨c + 1,by go_num,by omega,HA.out,fun j hj hs=>?_⟩
      by_cases e:j = c
      ·rw [e,HY.out]
      ·exact HH.out j (by omega) hs
     case measure=>simp [intOf];omega
    ·have hy2':(y2 != 0) = true:=by simpa using hy2
     have HN:=Lib.hid hy2
     clear hy2
     go_wp2
     go_ret
     exact ⟨4,rfl,by unfold I64;omega,HA.out.below,wrong_bad (by omega) fun _ hs=>HN.out (by have:=hs c hlt;rw [HY.out] at this;exact this)⟩
  ·have hlt':¬ (c:Int) < (a.ins.length:Int):=by omega
   have HK:Hid (∀ i,i < a.ins.length→a.has i = true→(sizeD (a.dims i)).2 = 0):=Lib.hid fun i hi=>HH.out i (by omega)
   go_wp2_with (with_reducible refine wpList_load_agg rfl 107 _ rfl _ _ _ rfl cs Tryz.underlying107 rfl HA.out.size HA.out.at ?_)
   refine (typed_any cs a _ HA.out.arg).mono ?_
   rintro e w2 ⟨t1,rfl,hb,ht1⟩
   replace HA:=Lib.hid (HA.out.next hb)
   have HT1:=Lib.hid ht1
   clear hb ht1
   cases t1 with
   | false =>
    go_wp2
    go_ret
    exact ⟨5,rfl,by unfold I64;omega,HA.out.below,wrong_bad (by omega) fun hp _=>by have:=HT1.out hp;cases this⟩
   | true =>
    go_wp2_with (with_reducible refine wpList_load_agg rfl 107 _ rfl _ _ _ rfl cs Tryz.underlying107 rfl HA.out.size HA.out.at ?_)
    refine (attributes_any cs a _ HA.out.arg).mono ?_
    rintro e w3 ⟨t2,rfl,hb,ht2⟩
    replace HA:=Lib.hid (HA.out.next hb)
    have HT2:=Lib.hid ht2
    clear hb ht2
    cases t2 with
    | false =>
     go_wp2
     go_ret
     exact ⟨14,rfl,by unfold I64;omega,HA.out.below,wrong_bad (by omega) fun hp _=>by have:=HT2.out.2 hp.1;cases this⟩
    | true =>
     go_wp2_with (with_reducible refine wpList_load_agg rfl 107 _ rfl _ _ _ rfl cs Tryz.underlying107 rfl HA.out.size HA.out.at ?_)
     refine (told_any cs a _ HA.out.arg).mono ?_
     rintro e w4 ⟨x,rfl,hx,hb,ht3⟩
     replace HA:=Lib.hid (HA.out.next hb)
     have HT3:=Lib.hid (And.intro hx ht3)
     clear hb ht3 hx
     go_wp2
     go_ret
     exact ⟨x,rfl,HT3.out.1,HA.out.below,fun _=>⟨HT2.out.1 rfl,HK.out⟩,fun hp _=>HT3.out.2 hp.1⟩
end Go.Proofs.YtoeaglpmkjoenaaGreat
set_option linter.unusedSimpArgs false
set_option linter.unusedVariables false
namespace Go.Proofs.YtoeaglpmkjoenaaGreat
open Go.RowKit
open Rep (rep)
def arityOk (k:Nat):Bool:=let r:=findD ((k:Int) + 1);decide (r.out = if (k:Int) + 1 = 61 then r.out else 1) && decide ((k:Int) + 1 = 61 ∨ (1 ≤ r.least∧((k:Int) + 1 = 50→2 ≤ r.least))) && decide ((k:Int) + 1 = 48 ∨ (k:Int) + 1 = 61 ∨ r.mostOuts = 1) && decide (r.mostOuts ≤ 64)
theorem arities_ok:((List.range 80).all arityOk) = true:=by decide +kernel
theorem arity_of {a:AskD} (h:CompP a):(1 ≤ a.op∧a.op ≤ 60 ∨ 62 ≤ a.op∧a.op ≤ 80)∧1 ≤ a.outs∧a.outs ≤ 64∧(¬ a.op = 48→a.outs = 1)∧a.has 0 = true∧0 < a.ins.length∧(a.op = 50→a.has 1 = true∧1 < a.ins.length):=by
 obtain ⟨h0,h61,h1,h2,h3,h4,h5⟩:=h
 have hr:¬ (a.op < 1 ∨ a.op > 80):=fun e=>h0 (by unfold findD;rw [if_pos e];rfl)
 have hk:=List.all_eq_true.1 arities_ok (a.op - 1).toNat (List.mem_range.2 (by omega))
 have e:(((a.op - 1).toNat:Nat):Int) + 1 = a.op:=by omega
 unfold arityOk at hk
 rw [e] at hk
 simp only [Bool.and_eq_true,decide_eq_true_eq,if_neg h61] at hk
 obtain ⟨⟨⟨k1,k2⟩,k3⟩,k4⟩:=hk
 have k2:=k2.resolve_left h61
 refine ⟨by omega,by omega,by omega,fun e48=>?_,h5 0 (by omega),by omega,fun e50=>?_⟩
 ·have:=(k3.resolve_left e48).resolve_left h61
  omega
 ·have:=k2.2 e50
  exact ⟨h5 1 (by omega),by omega⟩
theorem ok_of {a:AskD} (hc:CompP a) (ha:a.Att) (hz:∀ i,i < a.ins.length→a.has i = true→(sizeD (a.dims i)).2 = 0):a.Ok:=by
 obtain ⟨-,o1,o2,-,h0,h1,h2⟩:=arity_of hc
 exact ⟨ha.perm,ha.axis,ha.flat,ha.block,ha.group,ha.frames,ha.kernel,fun _=>⟨o1,o2⟩,hz 0 h1 h0,fun e=>hz 1 (h2 e).2 (h2 e).1⟩
def mkV (x:Int) (d:List Int):ValD:=⟨x,d,false,⟨0,[],[],[],[]⟩⟩
theorem rep_mkV {w:World} {Z:Zone} {x:Int} {d:List Int} {v:Value} (hx:I64 x) (hd:rep w Z [v] d):rep w Z [.int .i64 x,v,.bool false,.int .i64 0,.slice none 0 0,.slice none 0 0,.slice none 0 0,.slice none 0 0] (mkV x d):=by
 refine shut_ValD (a:=mkV x d) (c1:=[v]) (c3:=[.int .i64 0,.slice none 0 0,.slice none 0 0,.slice none 0 0,.slice none 0 0]) hx hd ?_
 exact shut_TensorD (a:=(mkV x d).t) (show I64 0 by unfold I64;omega) (rep_nil _ _) (rep_nil _ _) (rep_nil _ _) (rep_nil _ _)
structure GrowW (n:Nat) (W:World) (v:Value) (l:List ValD) (xs:List Value):Prop where
 own:W.ownsRow n 45 8 v l.length xs
 ch:Chunks W (Zr n W.heap.size v) xs l
 le:n ≤ W.heap.size
theorem GrowW.nil (W:World):GrowW W.heap.size W (.slice none 0 0) [] []:=⟨World.ownsRow_nil _ _ _ _,rfl,Nat.le_refl _⟩
theorem GrowW.more {n:Nat} {W W2 W':World} {v v':Value} {l:List ValD} {xs zc:List Value} {z:ValD} {ob:Obj} (h:GrowW n W v l xs) (hb:Below W.heap.size W W2) (ho:rep W2 (fresh W.heap.size W2.heap.size) zc z)
  (hown:W'.ownsRow n 45 8 v' (l.length + 1) (xs++zc)) (hg:(W2.alloc ob).grownBy W' v.ownBlock) (hs:v'.ownBlock = v.ownBlock ∨ v'.ownBlock = some (W2.heap.size + 1)):GrowW n W' v' (l++[z]) (xs++zc)∧Below n W W':=by
 have hsz:W2.heap.size + 1 ≤ W'.heap.size:=by have:=hg.size;rwa [World.size_alloc] at this
 have h2:=hb.size
 refine ⟨⟨by rw [List.length_append];exact hown,?_,by have:=h.le;omega⟩,?_⟩
 ·have k1:Keeps (Zr n W.heap.size v) W W':=(Keeps.of_below (hb.trans ((Below.refl _ _).alloc h2 ob)) (fun k (hk:n ≤ k∧k < W.heap.size∧v.ownBlock ≠ some k)=>hk.2.1)).trans (Keeps.of_grown hg fun k (hk:n ≤ k∧k < W.heap.size∧v.ownBlock ≠ some k)=>⟨by rw [World.size_alloc];have:=hk.2.1;omega,fun e=>hk.2.2 e.symm⟩)
  have hl:∀ g,v.ownBlock = some g→g < W.heap.size:=fun g hv=>(h.own.lt g hv).2
  have l1:(Zr n W.heap.size v).le (Zr n W'.heap.size v'):=⟨fun b hb=>⟨hb.1,by have:=hb.2.1;omega,fun e=>by
   rcases hs with hs | hs
   ·exact hb.2.2 (hs ▸ e)
   ·rw [hs] at e;injection e with e;have:=hb.2.1;omega⟩,fun e=>by cases e⟩
  have k2:Keeps (fresh W.heap.size W2.heap.size) W2 W':=(Keeps.of_below ((Below.refl _ _).alloc (Nat.le_refl _) ob) (fun k (hk:W.heap.size ≤ k∧k < W2.heap.size)=>hk.2)).trans (Keeps.of_grown hg fun k (hk:W.heap.size ≤ k∧k < W2.heap.size)=>⟨by rw [World.size_alloc];have:=hk.2;omega,fun e=>by have:=hl _ e.symm;have:=hk.1;omega⟩)
  have l2:(fresh W.heap.size W2.heap.size).le (Zr n W'.heap.size v'):=⟨fun b hb=>⟨by have:=hb.1;have:=h.le;omega,by have:=hb.2;omega,fun e=>by
   rcases hs with hs | hs
   ·have:=hl b (hs ▸ e);have:=hb.1;omega
   ·rw [hs] at e;injection e with e;have:=hb.2;omega⟩,fun e=>by cases e⟩
  exact Chunks.snoc (Chunks.more l1 (Chunks.keep k1 h.ch)) (Rep.more (Rep.keep ho k2) l2)
 ·exact ((hb.mono h.le).trans (((Below.refl _ _).alloc (Nat.le_trans h.le h2) ob).mono (Nat.le_refl _))).grown hg (by rw [World.size_alloc];have:=h.le;omega) (fun g hg=>(h.own.lt g hg).1)
def Zb (n m:Nat):Zone:=⟨fun b=>n ≤ b∧b < m,false⟩
theorem GrowW.fin {n:Nat} {W:World} {v:Value} {l:List ValD} {xs:List Value} (h:GrowW n W v l xs) (hl:l.length * 144 ≤ reach):∃ A k,v = .slice A l.length k∧rep W (Zb n W.heap.size) [.slice A l.length k] l:=by
 have hr:rep W (Zb n W.heap.size) [v] l:=rep_of_own h.own (Chunks.more (show (Zr n W.heap.size v).le (Zb n W.heap.size) from ⟨fun b (hb:n ≤ b∧b < W.heap.size∧v.ownBlock ≠ some b)=>⟨hb.1,hb.2.1⟩,fun e=>by cases e⟩) h.ch) hl (fun g _ h1 h2=>⟨h1,h2⟩)
 obtain ⟨A,k,e⟩:=slice_form hr
 injection e with e
 subst e
 exact ⟨A,k,rfl,hr⟩
def zeroAsk:List Value:=[.int .i64 0]++(zeroS++([.slice none 0 0]++[.int .i64 0]))
theorem zeroAsk_zero:(Tryz.prog.info? 107).bind (·.zero) = some (.agg zeroAsk.toArray):=by kernel_rfl
theorem zeroAsk_len:zeroAsk.length = 39:=by kernel_rfl
theorem run_ask (op outs:Int) (ss:List Value) (A:Option Addr) (n k:Nat) (hl:ss.length = 36) (w:World):(Instr.build 107 #[(0,.int .i64 op),(1,.agg ss.toArray),(2,.slice A n k),(3,.int .i64 outs)]).run Tryz.prog w = .ok (.agg (([.int .i64 op]++(ss++([.slice A n k]++[.int .i64 outs])):List Value)).toArray) w:=by
 match ss,hl with
 | a0 :: a1 :: a2 :: a3 :: a4 :: a5 :: a6 :: a7 :: a8 :: a9 :: a10 :: a11 :: a12 :: a13 :: a14 :: a15 :: a16 :: a17 :: a18 :: a19 :: a20 :: a21 :: a22 :: a23 :: a24 :: a25 :: a26 :: a27 :: a28 :: a29 :: a30 :: a31 :: a32 :: a33 :: a34 :: a35 :: [],_=>(show _ = _;kernel_rfl)
theorem run_val2 (x:Int) (A:Option Addr) (n k:Nat) (w:World):(Instr.build 45 #[(0,.int .i64 x),(1,.slice A n k)]).run Tryz.prog w = .ok (.agg #[.int .i64 x,.slice A n k,.bool false,.int .i64 0,.slice none 0 0,.slice none 0 0,.slice none 0 0,.slice none 0 0]) w:=by kernel_rfl
section
variable {P:Program} {ops:Array Oper} {Q:Exit→Act→World→Prop} {a:Act} {w:World} {o:Oper}
theorem wpList_build_ask {rest:List Oper} (hw:Region.wanted o (yielded ops a.tmps) = true) (x y z u:Operand) (ho:o.op = .build 107 #[(0,x),(1,y),(2,z),(3,u)]) (p q r s:Value) (cs:List Value)
  (hx:a.eval x = p) (hy:a.eval y = q) (hz:a.eval z = r) (hu:a.eval u = s) (hr:(Instr.build 107 #[(0,p),(1,q),(2,r),(3,s)]).run Tryz.prog w = .ok (.agg cs.toArray) w)
  (h:wpList Tryz.prog ops Q rest (a.put o.dst (.agg cs.toArray)) w):wpList Tryz.prog ops Q (o :: rest) a w :=
 wpList_step fun K hK=>by
  rw [if_pos hw]
  unfold Oper.wp execOp
  rw [ho]
  simp only [List.map_toArray,List.map_cons,List.map_nil,hx,hy,hz,hu]
  simp [Sem.run_bind,hr]
  exact hK _ _ h
end
def AskD.fine (a:AskD):Prop:=a.plain∧CompP a∧(a.op = 28→a.even)∧∀ i,i < a.ins.length→(sizeD (a.dims i)).2 = 0
def NodeP (a:AskD) (x:Int) (l:List ValD):Prop:=(x = 0→(l.length:Int) = a.outs∧1 ≤ a.outs∧∀ v ∈ l,∃ t d,v = mkV t d∧(sizeD d).2 = 0)∧(a.fine→x = 0∧l = [mkV (a.val 0).type (a.dims 0)])
theorem nodeP_bad {a:AskD} {x:Int} (h:¬ x = 0) (hf:¬ a.fine):NodeP a x []:=⟨fun e=>absurd e h,fun e=>absurd e hf⟩
def NodE (w:World) (a:AskD) (e:Ending) (w':World):Prop:=∃ (A:Option Addr) (k:Nat) (x:Int) (l:List ValD),e = .returned (.tuple #[.slice A l.length k,.int .i64 x])∧I64 x∧Below w.heap.size w w'∧rep w' (Zb w.heap.size w'.heap.size) [.slice A l.length k] l∧NodeP a x l
theorem nodE_bad {w w':World} {a:AskD} {x:Int} (hb:Below w.heap.size w w') (hx:I64 x) (h:¬ x = 0) (hf:¬ a.fine):NodE w a (.returned (.tuple #[.slice none 0 0,.int .i64 x])) w':=⟨none,0,x,[],rfl,hx,hb,rep_nil _ _,nodeP_bad h hf⟩
set_option maxRecDepth 100000 in
set_option maxHeartbeats 8000000 in
theorem node_any (ss:List Value) (A:Option Addr) (k:Nat) (a:AskD) (w:World) (HSH:Hid (RangeOp a.op→ShapesLaw a)) (hop:I64 a.op) (hs:rep w (old w.heap.size) ss a.s) (hi:rep w (old w.heap.size) [.slice A a.ins.length k] a.ins) (ho:I64 a.outs) :
  Calls Tryz.prog 49 #[.int .i64 a.op,.agg ss.toArray,.slice A a.ins.length k,.int .i64 a.outs] w (NodE w a):=by
 obtain ⟨i0,hi0,hz0,hz1,hz2⟩:=info_parts valInfoZ
 have hsl:ss.length = 36:=Rep.len hs
 obtain ⟨cs,hcs⟩:∃ cs,([.int .i64 a.op]++(ss++([.slice A a.ins.length k]++[.int .i64 a.outs])):List Value) = cs:=⟨_,rfl⟩
 have hb1:∀ w',(Instr.build 107 #[(0,.int .i64 a.op),(1,.agg ss.toArray),(2,.slice A a.ins.length k),(3,.int .i64 a.outs)]).run Tryz.prog w' = .ok (.agg cs.toArray) w':=by rw [← hcs];exact run_ask _ _ _ _ _ _ hsl
 have hr:rep w (old w.heap.size) cs a:=by rw [← hcs];exact ⟨_,_,_,_,rfl,⟨rfl,hop⟩,hs,hi,⟨rfl,ho⟩⟩
 have H1:=Lib.hid (And.intro hsl (And.intro (Rep.one hs) hr))
 have hcl:cs.length = 39:=Rep.len hr
 have H2:=Lib.hid (And.intro hcl (Rep.one hr))
 have HB1:=Lib.hid hb1
 have HLN:=Lib.hid (show cs.length = zeroAsk.length from hcl)
 have HSZ:=Lib.hid (show (Tryz.prog.info? 107).map (·.size) = some cs.length by rw [hcl];kernel_rfl)
 have HFT:=Lib.hid (show 0 + cs.length ≤ zeroAsk.length by rw [hcl,zeroAsk_len];omega)
 clear hcs hr hs hi hop ho hsl hcl hb1
 go_enter Tryz.func49,Tryz.ntmps49
 go_wp2_with (first
  |(with_reducible refine wpList_box_row rfl 48 _ rfl ss rfl ?_;have hX:=box_start w 48 ss;generalize World.alloc _ _ = W0 at hX ⊢;have HX:=Lib.hid hX;clear hX)
  |(with_reducible refine wpList_load_agg rfl 48 _ rfl _ _ _ rfl ss Tryz.underlying48 rfl (by rw [H1.out.1];kernel_rfl) (At.of_row HX.out.row) ?_)
  |(with_reducible refine wpList_build_ask (by kernel_rfl) _ _ _ _ rfl (.int .i64 a.op) (.agg ss.toArray) (.slice A a.ins.length k) (.int .i64 a.outs) cs (by kernel_rfl) (by kernel_rfl) (by kernel_rfl) (by kernel_rfl) (HB1.out _) ?_)
  |(with_reducible refine wpList_alloc_row rfl 107 rfl zeroAsk zeroAsk_zero ?_)
  |(with_reducible refine wpList_store_agg rfl 107 _ _ rfl _ 0 cs rfl rfl 107 zeroAsk (heap_alloc_new _ _) HSZ.out HFT.out H2.out.2 ?_;have hX:=laid_row W0 107 zeroAsk cs HLN.out;generalize World.setRow _ _ _ = w1 at hX ⊢;have HW:=Lib.hid hX;clear hX;refine halt ?_))
 unfold Halt
 have HA:Hid (AskI W0 cs a w1):=Lib.hid ⟨⟨HW.out.1,HW.out.2.1⟩,HX.out.keeps' H1.out.2.2⟩
 have HB0:=Lib.hid HX.out.below
 clear HW
 go_wp2_with (with_reducible refine wpList_load_agg rfl 107 _ rfl _ _ _ rfl cs Tryz.underlying107 rfl HA.out.size HA.out.at ?_)
 refine (complete_any cs a _ HA.out.arg).mono ?_
 rintro e w2 ⟨t1,rfl,hb,ht1⟩
 replace HA:=Lib.hid (HA.out.next hb)
 have HT1:=Lib.hid ht1
 clear hb ht1
 cases t1 with
 | false =>
  go_wp2
  go_ret2
  exact nodE_bad (HB0.out.trans (HA.out.below.mono HB0.out.size)) (by unfold I64;omega) (by omega) (fun hf=>by have:=HT1.out.2 hf.2.1;cases this)
 | true =>
  have HC:Hid (CompP a):=Lib.hid (HT1.out.1 rfl)
  clear HT1
  go_wp2_with (with_reducible refine wpList_load_agg rfl 107 _ rfl _ _ _ rfl cs Tryz.underlying107 rfl HA.out.size HA.out.at ?_)
  refine (wrong_any cs a _ HA.out.arg).mono ?_
  rintro e w3 ⟨x,rfl,hx,hb,hw⟩
  replace HA:=Lib.hid (HA.out.next hb)
  have HWR:=Lib.hid (And.intro hx hw)
  clear hb hx hw
  by_cases hx0:x = 0
  ·have HOK:Hid a.Ok:=Lib.hid (ok_of HC.out (HWR.out.2.1 hx0).1 (HWR.out.2.1 hx0).2)
   subst hx0
   go_wp2_with (with_reducible refine wpList_load_agg rfl 107 _ rfl _ _ _ rfl cs Tryz.underlying107 rfl HA.out.size HA.out.at ?_)
   refine (HSH.out (arity_of HC.out).1 cs _ HA.out.arg HOK.out).mono ?_
   rintro e w4 ⟨B,j,y,ll,rfl,hy,hb,hl,hso⟩
   replace HA:=Lib.hid (HA.out.next hb)
   have HS:=Lib.hid (And.intro hy (And.intro hl hso))
   obtain ⟨lb,lb'⟩:=slice_bnd hl
   have HLB:Hid (ll.length * 24 ≤ 140737488351232):=Lib.hid (len_bnd hl)
   clear hb hy hl hso
   by_cases hy0:y = 0
   ·have HN:Hid ((ll.length:Int) = a.outs∧ll.length ≤ 64∧(a.fine→ll = [a.dims 0])):=Lib.hid (by
     have h1:=HS.out.2.2.1 hy0
     obtain ⟨-,h2,h3,h4,-⟩:=arity_of HC.out
     have h5:(ll.length:Int) = a.outs:=by
      by_cases e:a.op = 48
      ·rw [if_pos e] at h1;exact h1
      ·rw [if_neg e] at h1;rw [h1,h4 e]
     refine ⟨h5,by omega,fun hf=>(HS.out.2.2.2 ?_).2⟩
     rcases hf.1.1 with e | e | e
     ·exact .inl ⟨e,hf.2.2.1 e⟩
     ·exact .inr (.inl e)
     ·exact .inr (.inr e))
    subst hy0
    obtain ⟨B',c',xs,hv,-,-,-,hlz,hch⟩:=open_slice HS.out.2.1
    injection hv with hv1 hv2 hv3
    subst hv1
    have HLL:=Lib.hid (And.intro hlz hch)
    clear hlz hch hv2 hv3
    go_wp2_with fail
    go_loopw [14,42] (fun v i wr=>∃ (c:Nat) (l:List ValD) (xs:List Value),i = .int .i64 c∧c ≤ ll.length∧l.length = c∧GrowW w4.heap.size wr v l xs∧Below w4.heap.size w4 wr∧(∀ v ∈ l,∃ t d,v = mkV t d∧(sizeD d).2 = 0)∧(a.fine→l = (ll.take c).map (mkV (a.val 0).type))) (fun _ i _=>ll.length - (intOf i).toNat)
    case atStart=>exact ⟨0,[],[],rfl,Nat.zero_le _,rfl,GrowW.nil _,Below.refl _ _,by simp,fun _=>rfl⟩
    case round =>
     obtain ⟨c,l,zs,rfl,hcl,hlc,hG,hB,hV,hF⟩:=hrel
     obtain ⟨wb,rfl⟩:∃ wb,wb = wr:=⟨_,rfl⟩
     have HG:=Lib.hid hG
     have HBB:=Lib.hid hB
     have HV:=Lib.hid (And.intro hV (And.intro hF hlc))
     clear hG hB hV hF hlc
     by_cases hlt:c < ll.length
     ·have hlt':(c:Int) < (ll.length:Int):=by omega
      obtain ⟨d,hd⟩:∃ d,ll[c]? = some d:=⟨_,List.getElem?_eq_getElem hlt⟩
      obtain ⟨b,o,dc,rfl,hbB,hrd,hcell⟩:=elem_at HLL.out.1 HLL.out.2 (by decide) hd
      obtain ⟨D,kd,rfl⟩:=slice_form hrd
      obtain ⟨db,db'⟩:=slice_bnd hrd
      have kc:wb.cell? ⟨b,o + c,none⟩ = some (.slice D d.length kd):=by
       have h1:=(hcell 0 _ rfl).1
       have h2:o + (c * Rep.size (List Int) + 0) = o + c:=by simp [Rep.size]
       rw [h2] at h1
       exact (HBB.out.cell (p:=⟨b,o + c,none⟩) hbB).trans h1
      have HD:=Lib.hid (And.intro hd (And.intro (show Lst w4 D kd d from hrd) (show Lst wb D kd d from Lst.next (W:=w4) hrd HBB.out)))
      have HAB:=Lib.hid (HA.out.next HBB.out)
      have hk0:(0:Int) ≤ (c:Int):=Int.natCast_nonneg _
      clear hrd hcell hd
      go_wp2_with fail
      refine (size_any d D kd _ HD.out.2.2).mono ?_
      rintro e w5 ⟨rfl,rfl⟩
      obtain ⟨z,hz⟩:∃ z,sizeD d = z:=⟨_,rfl⟩
      rw [hz]
      have HZ:=Lib.hid hz
      clear hz kc
      obtain ⟨z1,z2⟩:=z
      simp only
      by_cases hz2':z2 = 0
      ·subst hz2'
       go_wp2_with (with_reducible refine wpList_load_agg rfl 107 _ rfl _ _ _ rfl cs Tryz.underlying107 rfl HAB.out.size HAB.out.at ?_)
       refine (out_any cs a _ HAB.out.arg).mono ?_
       rintro e w6 ⟨tx,rfl,htx,hb6,hto⟩
       have HO:=Lib.hid (And.intro htx (And.intro hto hb6))
       clear htx hto
       have hL6:=HD.out.2.2.next hb6
       have HL6:=Lib.hid hL6
       clear hb6 hL6
       go_wp2_with fail
       refine (clone_ints d _ _ HL6.out).mono ?_
       rintro e w7 ⟨v7,rfl,hv7,hb7⟩
       obtain ⟨E,ke,hve⟩:=slice_form hv7
       injection hve with hve
       subst hve
       obtain ⟨eb,eb'⟩:=slice_bnd hv7
       have HE:Hid (rep w7 (fresh w5.heap.size w7.heap.size) [.int .i64 tx,.slice E d.length ke,.bool false,.int .i64 0,.slice none 0 0,.slice none 0 0,.slice none 0 0,.slice none 0 0] (mkV tx d)∧Below w5.heap.size w5 w7) :=
        Lib.hid ⟨rep_mkV HO.out.1 (Rep.more hv7 ⟨fun b hb=>⟨Nat.le_trans HO.out.2.2.size hb.1,hb.2⟩,fun e=>e⟩),HO.out.2.2.trans (hb7.mono HO.out.2.2.size)⟩
       clear hv7 hb7
       have hlc:=HV.out.2.2
       have hll:=HN.out.2.1
       have hbv:=run_val2
       go_wp2_with (at_builtin;refine wpList_append_lies _ rfl _ _ 22 rfl w4.heap.size 45 i0 (.agg zeroV.toArray) 8 144 Tryz.underlying22 hi0 hz0 hz1 hz2 rfl (by decide) _ _ _ rfl ((own_below HG.out.own HE.out.2).alloc _) _ _ 1 1 _ rfl rfl (lies_new _ _ _) ?c2 ?c3 ?c4 ?c5 ?_)
       case c2=>exact Rep.one HE.out.1
       case c3=>unfold maxLen;omega
       case c4=>omega
       case c5=>have:=HG.out.le;have:=HE.out.2.size;simp;omega
       intro v' w8 hown' hgrow hso
       obtain ⟨hG2,hb2⟩:=HG.out.more HE.out.2 HE.out.1 (by rw [HV.out.2.2];exact hown') hgrow (by simpa using hso)
       have HG2:=Lib.hid hG2
       have HB2:=Lib.hid (HBB.out.trans hb2)
       clear hG2 hb2 hown' hgrow hso
       go_wp2
       go_roundw
       case rel =>
        refine ⟨c + 1,_,_,by go_num,by omega,by simp;omega,HG2.out,HB2.out,fun v hv=>?_,fun hf=>?_⟩
        ·rcases List.mem_append.1 hv with h | h
         ·exact HV.out.1 v h
         ·rw [List.mem_singleton] at h
          exact ⟨tx,d,h,by rw [HZ.out]⟩
        ·rw [HV.out.2.1 hf,List.take_add_one,HD.out.1]
         have:tx = (a.val 0).type:=HO.out.2.1 hf.1.1
         simp [this]
       case measure=>simp [intOf];omega
      ·have hz2n:(z2 != 0) = true:=by simpa using hz2'
       have HZN:=Lib.hid hz2'
       clear hz2'
       go_wp2
       go_ret2
       refine nodE_bad (HB0.out.trans ((HAB.out.below).mono HB0.out.size)) (by unfold I64;omega) (by omega) (fun hf=>?_)
       have h1:=HN.out.2.2 hf
       have h2:=HD.out.1
       rw [h1] at h2 hlt
       obtain rfl:c = 0:=by simpa using hlt
       injection h2 with h2
       have h3:=hf.2.2.2 0 (arity_of HC.out).2.2.2.2.2.1
       rw [h2,HZ.out] at h3
       exact HZN.out h3
     ·have hlt':¬ (c:Int) < (ll.length:Int):=by omega
      go_wp2
      go_ret2
      have hc:c = ll.length:=by omega
      have h1:=HV.out.2.2
      have h2:=HN.out
      obtain ⟨D,kd,rfl,hr⟩:=HG.out.fin (by unfold reach;omega)
      refine ⟨D,kd,0,l,rfl,by unfold I64;omega,HB0.out.trans (((HA.out.below).trans (HBB.out.mono HA.out.below.size)).mono HB0.out.size),Rep.more hr ⟨fun b hb=>⟨Nat.le_trans (Nat.le_trans HB0.out.size HA.out.below.size) hb.1,hb.2⟩,fun e=>e⟩,fun _=>⟨by omega,(arity_of HC.out).2.1,HV.out.1⟩,fun hf=>⟨rfl,?_⟩⟩
      have h3:=HV.out.2.1 hf
      rw [hc,List.take_length,h2.2.2 hf] at h3
      exact h3
   ·have hy':(y != 0) = true:=by simpa using hy0
    have HYN:=Lib.hid hy0
    clear hy0
    go_wp2
    go_ret2
    refine nodE_bad (HB0.out.trans (HA.out.below.mono HB0.out.size)) HS.out.1 HYN.out (fun hf=>HYN.out (HS.out.2.2.2 ?_).1)
    rcases hf.1.1 with e | e | e
    ·exact .inl ⟨e,hf.2.2.1 e⟩
    ·exact .inr (.inl e)
    ·exact .inr (.inr e)
  ·have hx':(x != 0) = true:=by simpa using hx0
   have HXN:=Lib.hid hx0
   clear hx0
   go_wp2
   go_ret2
   exact nodE_bad (HB0.out.trans (HA.out.below.mono HB0.out.size)) HWR.out.1 HXN.out (fun hf=>HXN.out (HWR.out.2.2 hf.1 hf.2.2.2))
end Go.Proofs.YtoeaglpmkjoenaaGreat
