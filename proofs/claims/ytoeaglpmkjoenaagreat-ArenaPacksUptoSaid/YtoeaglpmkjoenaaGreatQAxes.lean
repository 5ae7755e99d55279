/-
  Chapter 04: how many elements a shape has; axes. No condition.
-/
/-
  Chapter 04: the axes of a list. No condition.
-/
import Derived.Test.YtoeaglpmkjoenaaGreatQInfA
import Derived.Test.YtoeaglpmkjoenaaGreatQGReady
set_option linter.unusedSimpArgs false
set_option linter.unusedVariables false
namespace Go.Proofs.YtoeaglpmkjoenaaGreat
open Go.RowKit
open Rep (rep)
set_option maxRecDepth 100000 in
set_option maxHeartbeats 800000 in
theorem size1_any (x:Int) (W:World):Calls Tryz.prog 53 #[.int .i64 x] W fun e W'=>e = .returned (.bool (decide (x < 0)))∧W' = W:=by
 by_cases h:x < 0
 all_goals
  go_enter Tryz.func53,Tryz.ntmps53
  go_wp2
  go_ret
  exact ⟨by simp [h],rfl⟩
set_option maxRecDepth 100000 in
set_option maxHeartbeats 800000 in
theorem size2_any (x:Int) (W:World):Calls Tryz.prog 54 #[.int .i64 x] W fun e W'=>e = .returned (.bool (decide (x > 4096)))∧W' = W:=by
 by_cases h:x > 4096
 all_goals
  go_enter Tryz.func54,Tryz.ntmps54
  go_wp2
  go_ret
  exact ⟨by simp [h],rfl⟩
theorem int_at {W:World} {A:Option Addr} {k:Nat} {l:List Int} {Z:Zone} (h:rep W Z [.slice A l.length k] l) {j:Nat} {z:Int} (hz:l[j]? = some z):I64 z∧∃ b o,A = some ⟨b,o,none⟩∧Z.blk b∧W.cell? ⟨b,o + j,none⟩ = some (.int .i64 z):=by
 obtain ⟨A',c',xs,hv,hnc,hcm,-,hl,hch⟩:=open_slice h
 simp only [Value.slice.injEq,true_and] at hv
 obtain ⟨rfl,rfl⟩:=hv
 obtain ⟨b,o,xc,rfl,hbB,hrz,hcell⟩:=elem_at hl hch (by decide) hz
 obtain ⟨rfl,hz64⟩:=hrz
 have h0:=hcell 0 _ rfl
 rw [show o + (j * Rep.size Int + 0) = o + j from by simp [Rep.size]] at h0
 exact ⟨hz64,b,o,rfl,hbB,h0.1⟩
def whereD (x:Int):List Int→Int→Int
 | [],_=>-1
 | y :: l,i=>if x = y then i else whereD x l (i + 1)
theorem where_has (x:Int):∀ (l:List Int) (i:Int),0 ≤ i→decide (whereD x l i ≥ 0) = l.contains x
 | [],_,_=>by simp [whereD]
 | y :: l,i,hi=>by
  unfold whereD
  by_cases h:x = y
  ·simp [h,hi]
  ·rw [if_neg h,where_has x l (i + 1) (by omega)]
   simp [h]
set_option maxRecDepth 100000 in
set_option maxHeartbeats 8000000 in
theorem indexInt_any (l:List Int) (A:Option Addr) (k:Nat) (x:Int) (w:World) (hr:rep w (old w.heap.size) [.slice A l.length k] l) :
  Calls Tryz.prog 77 #[.slice A l.length k,.int .i64 x] w fun e w'=>e = .returned (.int .i64 (whereD x l 0))∧w' = w:=by
 obtain ⟨nb,nb'⟩:=slice_bnd hr
 have HR:=Lib.hid hr
 clear hr
 go_enter Tryz.func77,Tryz.ntmps77
 go_wp2_with fail
 go_loopw [8] (fun i wr=>∃ pre post:List Int,l = pre++post∧i = .int .i64 pre.length∧whereD x l 0 = whereD x post pre.length∧wr = w) (fun i _=>l.length - (intOf i).toNat)
 case atStart=>exact ⟨[],l,rfl,rfl,rfl,rfl⟩
 case round =>
  obtain ⟨pre,post,hpp,rfl,hw,rfl⟩:=hrel
  have HW:=Lib.hid hw
  clear hw
  cases post with
  | cons z post =>
   obtain ⟨hz,hlt,hpp',hpl⟩:=split_at hpp
   obtain ⟨-,b,o,rfl,-,kz⟩:=int_at HR.out hz
   have H:=Lib.hid (And.intro hpp' hpl)
   have hk0:(0:Int) ≤ (pre.length:Int):=Int.natCast_nonneg _
   have hk1:(pre.length:Int) < (l.length:Int):=by omega
   clear hpp hpp' hpl hz
   by_cases hx:x = z
   ·have HX:=Lib.hid hx
    have hx':(x == z) = true:=by simp [hx]
    clear hx
    go_wp2
    go_ret
    exact ⟨by rw [HW.out,whereD,if_pos HX.out];rfl,rfl⟩
   ·have HX:=Lib.hid hx
    go_wp2
    go_roundw
    case rel =>
     obtain ⟨hpp',hpl⟩:=H.out
     exact ⟨pre++[z],post,hpp',by rw [hpl];go_num,by rw [HW.out,whereD,if_neg HX.out,hpl];rfl,trivial⟩
    case measure=>simp [intOf];omega
  | nil =>
   obtain ⟨hge,hpl⟩:=split_end hpp
   clear hpp hpl
   go_wp2
   go_ret
   exact ⟨by rw [HW.out];rfl,rfl⟩
set_option maxRecDepth 100000 in
set_option maxHeartbeats 8000000 in
theorem containsInt_any (l:List Int) (A:Option Addr) (k:Nat) (x:Int) (w:World) (hr:rep w (old w.heap.size) [.slice A l.length k] l) :
  Calls Tryz.prog 52 #[.slice A l.length k,.int .i64 x] w fun e w'=>e = .returned (.bool (l.contains x))∧w' = w:=by
 go_enter Tryz.func52,Tryz.ntmps52
 go_wp2_with fail
 refine (indexInt_any l A k x w hr).mono ?_
 rintro e w1 ⟨rfl,rfl⟩
 have H:=Lib.hid (where_has x l 0 (Int.le_refl _))
 generalize whereD x l 0 = k at *
 go_wp2
 go_ret
 exact ⟨by rw [← H.out];rfl,rfl⟩
set_option maxRecDepth 100000 in
set_option maxHeartbeats 8000000 in
theorem equalInts_any (l m:List Int) (A B:Option Addr) (k j:Nat) (w:World) (h1:rep w (old w.heap.size) [.slice A l.length k] l) (h2:rep w (old w.heap.size) [.slice B m.length j] m) :
  Calls Tryz.prog 94 #[.slice A l.length k,.slice B m.length j] w fun e w'=>e = .returned (.bool (decide (l = m)))∧DrewFrom w w':=by
 obtain ⟨nb,nb'⟩:=slice_bnd h1
 obtain ⟨mb,mb'⟩:=slice_bnd h2
 have HR:=Lib.hid (And.intro h1 h2)
 clear h1 h2
 go_enter Tryz.func94,Tryz.ntmps94
 by_cases hlm:l.length = m.length
 ·have HM:=Lib.hid hlm
  rw [← hlm]
  clear hlm
  go_wp2_with fail
  go_loopw [13] (fun i wr=>∃ pre post mid:List Int,l = pre++post∧m = pre++mid∧i = .int .i64 pre.length∧DrewFrom w wr) (fun i _=>l.length - (intOf i).toNat)
  case atStart=>exact ⟨[],l,m,rfl,rfl,rfl,DrewFrom.refl w⟩
  case round =>
   obtain ⟨pre,post,mid,hpp,hpm,rfl,n,rfl⟩:=hrel
   cases post with
   | cons z post =>
    obtain ⟨y,mid,rfl⟩:∃ y mid',mid = y :: mid':=by
     cases mid with
     | nil =>
      have h1:=congrArg List.length hpp
      have h2:=congrArg List.length hpm
      have:=HM.out
      simp at h1 h2
      omega
     | cons y mid=>exact ⟨y,mid,rfl⟩
    obtain ⟨hz,hlt,hpp',hpl⟩:=split_at hpp
    obtain ⟨hy,hlt2,hpm',-⟩:=split_at hpm
    obtain ⟨-,b,o,rfl,-,kz⟩:=int_at HR.out.1 hz
    obtain ⟨-,b2,o2,rfl,-,ky⟩:=int_at HR.out.2 hy
    have H:=Lib.hid (And.intro hpp' (And.intro hpm' (And.intro hpl (And.intro hpp hpm))))
    have hk0:(0:Int) ≤ (pre.length:Int):=Int.natCast_nonneg _
    have hk1:(pre.length:Int) < (l.length:Int):=by omega
    clear hpp hpp' hpm hpm' hpl hz hy hlt2
    by_cases hx:z = y
    ·subst hx
     go_wp2_with fail
     go_quiet (fail)
     go_wp2
     go_roundw
     case rel =>
      obtain ⟨hpp',hpm',hpl,-⟩:=H.out
      exact ⟨pre++[z],post,mid,hpp',hpm',by rw [hpl];go_num,_,rfl⟩
     case measure=>simp [intOf];omega
    ·have HX:=Lib.hid hx
     go_wp2_with fail
     go_quiet (fail)
     go_wp2
     go_ret
     refine ⟨?_,by rw [World.drewN_drewN];exact ⟨_,rfl⟩⟩
     have:decide (l = m) = false:=decide_eq_false fun e=>HX.out (by
      obtain ⟨-,-,-,h1,h2⟩:=H.out
      rw [h1,h2] at e
      exact (List.cons.inj (List.append_cancel_left e)).1)
     rw [this]
     rfl
   | nil =>
    obtain ⟨hge,hpl⟩:=split_end hpp
    have HE:Hid (l = m):=Lib.hid (by
     have h1:=HM.out
     rw [hpp,hpm] at h1 ⊢
     simp at h1
     rw [h1])
    clear hpp hpl hpm
    go_wp2
    go_ret
    exact ⟨by rw [decide_eq_true HE.out];rfl,_,rfl⟩
 ·have HM:Hid (decide (l = m) = false):=Lib.hid (decide_eq_false fun e=>hlm (by rw [e]))
  have hlm':¬ (l.length:Int) = (m.length:Int):=by omega
  go_wp2
  go_ret
  exact ⟨by rw [HM.out];rfl,DrewFrom.refl w⟩
def mulD:Int→List Int→Option Int
 | n,[]=>some n
 | n,d :: l=>if d > Int.tdiv 4096 n then none else mulD (n * d) l
def sizeD (l:List Int):Int × Int :=
 if (l.any fun d=>decide (d < 0)) = true then (0,1)
 else if l.length > 8 ∨ (l.any fun d=>decide (d > 4096)) = true then (0,4)
 else if l.contains 0 = true then (0,0)
 else match mulD 1 l with
  | some n=>(n,0)
  | none=>(0,4)
theorem mul_start (l:List Int) (h1:(l.any fun d=>decide (d < 0)) = false) (h2:(l.any fun d=>decide (d > 4096)) = false) (h3:l.contains 0 = false):∀ d ∈ l,1 ≤ d∧d ≤ 4096:=fun d hd=>by
 have a:=List.any_eq_false.1 h1 d hd
 have b:=List.any_eq_false.1 h2 d hd
 have c:d ≠ 0:=fun e=>by
  rw [e] at hd
  have:=List.contains_iff_mem.2 hd
  rw [h3] at this
  cases this
 simp at a b
 omega
theorem mul_next {n d:Int} (hn:1 ≤ n) (hn2:n ≤ 4096) (hd:1 ≤ d) (h:¬ d > Int.tdiv 4096 n):1 ≤ n * d∧n * d ≤ 4096:=by
 rw [Int.tdiv_eq_ediv_of_nonneg (by omega)] at h
 have h1:d * n ≤ 4096:=(Int.le_ediv_iff_mul_le (by omega)).1 (Int.not_lt.1 h)
 have h2:1 * 1 ≤ n * d:=Int.mul_le_mul hn hd (by omega) (by omega)
 rw [Int.mul_comm] at h1
 omega
set_option maxRecDepth 100000 in
set_option maxHeartbeats 8000000 in
theorem size_any (l:List Int) (A:Option Addr) (k:Nat) (w:World) (hr:rep w (old w.heap.size) [.slice A l.length k] l) :
  Calls Tryz.prog 28 #[.slice A l.length k] w fun e w'=>e = .returned (.tuple #[.int .i64 (sizeD l).1,.int .i64 (sizeD l).2])∧w' = w:=by
 obtain ⟨nb,nb'⟩:=slice_bnd hr
 have HR:=Lib.hid hr
 clear hr
 go_enter Tryz.func28,Tryz.ntmps28
 go_wp2_with fail
 refine (containsInts0_any l _ 53 (fun d=>decide (d < 0)) (fun W=>W = w) w (fun _ _=>rfl) HR.out rfl (fun W h=>by rw [h];exact Below.refl _ _) fun x _ _ W hW=>(size1_any x W).mono (by rintro e w' ⟨rfl,rfl⟩;exact ⟨rfl,hW⟩)).mono ?_
 rintro e w1 ⟨rfl,rfl⟩
 obtain ⟨c1,h1⟩:∃ c,(l.any fun d=>decide (d < 0)) = c:=⟨_,rfl⟩
 rw [h1]
 have H1:=Lib.hid h1
 clear h1
 cases c1 with
 | true =>
  go_wp2
  go_ret2
  exact ⟨by unfold sizeD;rw [if_pos H1.out];rfl,rfl⟩
 | false =>
  have H1':Hid (¬ (l.any fun d=>decide (d < 0)) = true):=Lib.hid (by rw [H1.out];decide)
  by_cases h8:(l.length:Int) > 8
  ·have H8:Hid (sizeD l = (0,4)):=Lib.hid (by unfold sizeD;rw [if_neg H1'.out,if_pos (Or.inl (by omega))])
   go_wp2
   go_ret2
   exact ⟨by rw [H8.out];rfl,rfl⟩
  ·go_wp2_with fail
   refine (containsInts0_any l _ 54 (fun d=>decide (d > 4096)) (fun W=>W = w1) w1 (fun _ _=>rfl) HR.out rfl (fun W h=>by rw [h];exact Below.refl _ _) fun x _ _ W hW=>(size2_any x W).mono (by rintro e w' ⟨rfl,rfl⟩;exact ⟨rfl,hW⟩)).mono ?_
   rintro e w2 ⟨rfl,rfl⟩
   obtain ⟨c2,h2⟩:∃ c,(l.any fun d=>decide (d > 4096)) = c:=⟨_,rfl⟩
   rw [h2]
   have H2:=Lib.hid h2
   clear h2
   cases c2 with
   | true =>
    have H8:Hid (sizeD l = (0,4)):=Lib.hid (by unfold sizeD;rw [if_neg H1'.out,if_pos (Or.inr H2.out)])
    go_wp2
    go_ret2
    exact ⟨by rw [H8.out];rfl,rfl⟩
   | false =>
    have HB:Hid (¬ (l.length > 8 ∨ (l.any fun d=>decide (d > 4096)) = true)):=Lib.hid (by rw [H2.out];simp;omega)
    go_wp2_with fail
    refine (containsInt_any l _ _ 0 _ HR.out).mono ?_
    rintro e w3 ⟨rfl,rfl⟩
    obtain ⟨c3,h3⟩:∃ c,l.contains (0:Int) = c:=⟨_,rfl⟩
    rw [h3]
    have H3:=Lib.hid h3
    clear h3
    cases c3 with
    | true =>
     have H8:Hid (sizeD l = (0,0)):=Lib.hid (by unfold sizeD;rw [if_neg H1'.out,if_neg HB.out,if_pos H3.out])
     go_wp2
     go_ret2
     exact ⟨by rw [H8.out];rfl,rfl⟩
    | false =>
     have H8:Hid (sizeD l = match mulD 1 l with | some n=>(n,0) | none=>(0,4)):=Lib.hid (by unfold sizeD;rw [if_neg H1'.out,if_neg HB.out,if_neg (by rw [H3.out];decide)])
     have HM:=Lib.hid (mul_start l H1.out H2.out H3.out)
     go_wp2_with fail
     go_loopw [4,20] (fun n i wr=>∃ (pre post:List Int) (m:Int),l = pre++post∧i = .int .i64 pre.length∧n = .int .i64 m∧1 ≤ m∧m ≤ 4096∧mulD 1 l = mulD m post∧wr = w3) (fun _ i _=>l.length - (intOf i).toNat)
     case atStart=>exact ⟨[],l,1,rfl,rfl,rfl,by omega,by omega,rfl,rfl⟩
     case round =>
      obtain ⟨pre,post,m,hpp,rfl,rfl,m1,m2,hm,rfl⟩:=hrel
      have HMM:=Lib.hid hm
      clear hm
      cases post with
      | cons z post =>
       obtain ⟨hz,hlt,hpp',hpl⟩:=split_at hpp
       obtain ⟨-,b,o,rfl,-,kz⟩:=int_at HR.out hz
       obtain ⟨z1,z2⟩:=HM.out z (List.mem_of_getElem? hz)
       have H:=Lib.hid (And.intro hpp' hpl)
       have hk0:(0:Int) ≤ (pre.length:Int):=Int.natCast_nonneg _
       have hk1:(pre.length:Int) < (l.length:Int):=by omega
       have hm0:¬ m = 0:=by omega
       clear hpp hpp' hpl hz
       by_cases hq:z > Int.tdiv 4096 m
       ·have HQ:=Lib.hid hq
        have hq':=hq
        rw [Int.tdiv_eq_ediv_of_nonneg (by omega)] at hq'
        go_wp2
        go_ret2
        exact ⟨by rw [H8.out,HMM.out,mulD,if_pos HQ.out];rfl,rfl⟩
       ·have HQ:=Lib.hid hq
        obtain ⟨n1,n2⟩:=mul_next m1 m2 z1 hq
        have hq':=hq
        rw [Int.tdiv_eq_ediv_of_nonneg (by omega)] at hq'
        go_wp2
        go_roundw
        case rel =>
         obtain ⟨hpp',hpl⟩:=H.out
         exact ⟨pre++[z],post,m * z,hpp',by rw [hpl];go_num,by go_num,n1,n2,by rw [HMM.out,mulD,if_neg HQ.out],trivial⟩
        case measure=>simp [intOf];omega
      | nil =>
       obtain ⟨hge,hpl⟩:=split_end hpp
       clear hpp hpl
       go_wp2
       go_ret2
       exact ⟨by rw [H8.out,HMM.out];rfl,rfl⟩
def axisD (x r:Int):Int × Int:=if r < 0 then (0,2) else if 0 ≤ x∧x < r then (x,0) else if x < 0∧-r ≤ x then (r + x,0) else (0,2)
theorem axis_ok {x r:Int} (h:(axisD x r).2 = 0):0 ≤ (axisD x r).1∧(axisD x r).1 < r:=by
 unfold axisD at h ⊢
 by_cases h1:r < 0
 ·simp [h1] at h
 ·rw [if_neg h1] at h ⊢
  by_cases h2:0 ≤ x∧x < r
  ·rw [if_pos h2];exact h2
  ·rw [if_neg h2] at h ⊢
   by_cases h3:x < 0∧-r ≤ x
   ·rw [if_pos h3];simp only;omega
   ·simp [h3] at h
set_option maxRecDepth 100000 in
set_option maxHeartbeats 8000000 in
theorem axis_any (x r:Int) (w:World) (hx:I64 x) (hr:I64 r) (hr2:-1152921504606846976 ≤ r∧r ≤ 1152921504606846976) :
  Calls Tryz.prog 130 #[.int .i64 x,.int .i64 r] w fun e w'=>e = .returned (.tuple #[.int .i64 (axisD x r).1,.int .i64 (axisD x r).2])∧w' = w:=by
 unfold I64 at hx hr
 by_cases h1:r < 0
 ·have H:Hid (axisD x r = (0,2)):=Lib.hid (by unfold axisD;rw [if_pos h1])
  go_enter Tryz.func130,Tryz.ntmps130
  go_wp2
  go_ret2
  exact ⟨by rw [H.out];rfl,rfl⟩
 ·by_cases h2:0 ≤ x
  ·have h2':x ≥ 0:=h2
   have h3':¬ x < 0:=by omega
   by_cases h3:x < r
   ·have H:Hid (axisD x r = (x,0)):=Lib.hid (by unfold axisD;rw [if_neg h1,if_pos ⟨h2,h3⟩])
    go_enter Tryz.func130,Tryz.ntmps130
    go_wp2
    go_ret2
    exact ⟨by rw [H.out];rfl,rfl⟩
   ·have H:Hid (axisD x r = (0,2)):=Lib.hid (by unfold axisD;rw [if_neg h1,if_neg (by omega),if_neg (by omega)])
    go_enter Tryz.func130,Tryz.ntmps130
    go_wp2
    go_ret2
    exact ⟨by rw [H.out];rfl,rfl⟩
  ·have h2':¬ x ≥ 0:=h2
   have h3':x < 0:=by omega
   by_cases h3:x ≥ -r
   ·have H:Hid (axisD x r = (r + x,0)):=Lib.hid (by unfold axisD;rw [if_neg h1,if_neg (by omega),if_pos ⟨h3',h3⟩])
    go_enter Tryz.func130,Tryz.ntmps130
    go_wp2
    go_ret2
    exact ⟨by rw [H.out];rfl,rfl⟩
   ·have H:Hid (axisD x r = (0,2)):=Lib.hid (by unfold axisD;rw [if_neg h1,if_neg (by omega),if_neg (by omega)])
    go_enter Tryz.func130,Tryz.ntmps130
    go_wp2
    go_ret2
    exact ⟨by rw [H.out];rfl,rfl⟩
end Go.Proofs.YtoeaglpmkjoenaaGreat
set_option linter.unusedSimpArgs false
set_option linter.unusedVariables false
namespace Go.Proofs.YtoeaglpmkjoenaaGreat
open Go.RowKit
open Rep (rep)
structure MkI (w:World) (q:Nat) (bs:List Bool) (W:World):Prop where
 below:Below w.heap.size w W
 arr:W.heap[q]? = some (.cells (bs.map Value.bool).toArray 4 (0,0))
 gq:w.heap.size ≤ q
section
variable {w W W':World} {q:Nat} {bs:List Bool}
theorem MkI.lt (h:MkI w q bs W):q < W.heap.size:=(Array.getElem?_eq_some_iff.1 h.arr).1
theorem MkI.next (h:MkI w q bs W) (hb:Below W.heap.size W W'):MkI w q bs W':=⟨h.below.trans (hb.mono h.below.size),(hb.block _ h.lt).trans h.arr,h.gq⟩
theorem MkI.set (h:MkI w q bs W) (k:Nat) (x:Bool):MkI w q (bs.set k x) (W.setCell ⟨q,k,none⟩ (.bool x)):=by
 rw [set_as_row h.arr]
 have hg:W.grownBy (W.setRow q ((bs.map Value.bool).toArray.setIfInBounds k (.bool x))) (some q):=⟨rfl,rfl,rfl,by rw [size_setRow];exact Nat.le_refl _,fun j _ hn=>heap_setRow_other _ _ _ _ (fun e=>hn (by rw [e]))⟩
 have h1:=h.gq
 refine ⟨h.below.grown hg h.below.size (fun g e=>by injection e with e;omega),?_,h1⟩
 rw [heap_setRow _ _ _ _ _ h.arr,List.map_set,List.setIfInBounds_toArray]
theorem MkI.free (h:MkI w q bs W) (k:Nat):W.frozen? ⟨q,k,none⟩ = false:=by simp [World.frozen?,h.arr]
theorem MkI.cell (h:MkI w q bs W) {k:Nat} {x:Bool} (hk:bs[k]? = some x):W.cell? ⟨q,k,none⟩ = some (.bool x):=by
 rw [cell_of_row _ _ _ _ _ _ h.arr,List.getElem?_toArray,List.getElem?_map,hk];rfl
theorem MkI.rep (h:MkI w q bs W) (hn:bs.length ≤ 1048576):rep W (fresh w.heap.size W.heap.size) [.slice (some ⟨q,0,none⟩) bs.length bs.length] bs:=rep_bools_new h.gq h.arr hn
end
theorem count_set {bs:List Bool}:∀ {k:Nat},bs[k]? = some false→(bs.set k true).count true = bs.count true + 1:=by
 induction bs with
 | nil=>intro k h;simp at h
 | cons b bs ih =>
  intro k h
  cases k with
  | zero=>cases h;simp
  | succ k =>
   rw [List.set_cons_succ,List.count_cons,List.count_cons,ih (by simpa using h)]
   omega
theorem axis_bad {x r:Int} (h:¬ (axisD x r).2 = 0):(axisD x r).2 = 2:=by
 unfold axisD at h ⊢
 by_cases h1:r < 0
 ·simp [h1]
 ·rw [if_neg h1] at h ⊢
  by_cases h2:0 ≤ x∧x < r
  ·simp [h2] at h
  ·rw [if_neg h2] at h ⊢
   by_cases h3:x < 0∧-r ≤ x
   ·simp [h3] at h
   ·rw [if_neg h3]
def AxesP (l:List Int) (r:Int) (w:World) (e:Ending) (w':World):Prop:=∃ (A:Option Addr) (k:Nat) (x:Int) (bs:List Bool),e = .returned (.tuple #[.slice A bs.length k,.int .i64 x])∧I64 x∧Below w.heap.size w w'∧rep w' (fresh w.heap.size w'.heap.size) [.slice A bs.length k] bs ∧
 (x = 0→(bs.length:Int) = r∧bs.length ≤ 8∧(∀ y ∈ l,(axisD y r).2 = 0)∧bs.count true = l.length)∧(l = []→0 ≤ r→r ≤ 8→x = 0)
theorem axes_bad {l:List Int} {r x:Int} {w w':World} (h:Below w.heap.size w w') (hx:I64 x) (h0:x ≠ 0) (hl:l = []→0 ≤ r→¬ r ≤ 8):AxesP l r w (.returned (.tuple #[.slice none 0 0,.int .i64 x])) w' :=
 ⟨none,0,x,[],rfl,hx,h,rep_nil _ _,fun e=>absurd e h0,fun e h1 h2=>absurd h2 (hl e h1)⟩
set_option maxRecDepth 100000 in
set_option maxHeartbeats 8000000 in
theorem axes_any (l:List Int) (A:Option Addr) (k:Nat) (r:Int) (w:World) (hr:rep w (old w.heap.size) [.slice A l.length k] l) (hI:I64 r) :
  Calls Tryz.prog 128 #[.slice A l.length k,.int .i64 r] w (AxesP l r w):=by
 obtain ⟨nb,nb'⟩:=slice_bnd hr
 have HR:=Lib.hid hr
 clear hr
 by_cases h1:r < 0
 ·go_enter Tryz.func128,Tryz.ntmps128
  go_wp2
  go_ret2
  exact axes_bad (Below.refl _ _) (by unfold I64;omega) (by omega) (fun _ h=>by omega)
 ·by_cases h2:r > 8
  ·go_enter Tryz.func128,Tryz.ntmps128
   go_wp2
   go_ret2
   exact axes_bad (Below.refl _ _) (by unfold I64;omega) (by omega) (fun _ _=>by omega)
  ·obtain ⟨m,rfl⟩:∃ m:Nat,r = (m:Int):=⟨r.toNat,by omega⟩
   have hm:m ≤ 8:=by omega
   go_enter Tryz.func128,Tryz.ntmps128
   have hmk:=make_bools m w (by omega)
   go_wp2_with fail
   clear hmk
   have hS:MkI w w.heap.size (List.replicate m false) (w.alloc (.cells (Array.replicate m (.bool false)) 4)):=⟨(Below.refl _ _).alloc (Nat.le_refl _) _,by rw [← bools_arr];exact heap_alloc_new _ _,Nat.le_refl _⟩
   generalize World.alloc _ _ = W1 at hS ⊢
   obtain ⟨q,hq⟩:∃ q,w.heap.size = q:=⟨_,rfl⟩
   rw [hq] at hS ⊢
   have HS:=Lib.hid (And.intro hS hq)
   clear hS hq
   go_loopw [7,22] (fun t i wr=>∃ (pre post:List Int) (tw:Bool) (bs:List Bool),l = pre++post∧i = .int .i64 pre.length∧t = .bool tw∧MkI w q bs wr∧bs.length = m∧(∀ y ∈ pre,(axisD y m).2 = 0)∧(tw = false→bs.count true = pre.length)∧(pre = []→tw = false)) (fun _ i _=>l.length - (intOf i).toNat)
   case atStart=>exact ⟨[],l,false,_,rfl,rfl,rfl,HS.out.1,by simp,by simp,by simp [List.count_replicate],fun _=>rfl⟩
   case round =>
    obtain ⟨pre,post,tw,bs,hpp,rfl,rfl,hb,hbl,hpre,hcnt,hpn⟩:=hrel
    have HB:=Lib.hid (And.intro hb (And.intro hpre (And.intro hcnt hpn)))
    clear hb hpre hcnt hpn
    cases post with
    | cons z post =>
     obtain ⟨hz,hlt,hpp',hpl⟩:=split_at hpp
     obtain ⟨z64,b,o,rfl,hzb,kz⟩:=int_at HR.out hz
     have kz':wr.cell? ⟨b,o + pre.length,none⟩ = some (.int .i64 z):=(HB.out.1.below.cell (p:=⟨b,o + pre.length,none⟩) hzb).trans kz
     have H:=Lib.hid (And.intro hpp' (And.intro hpl (List.mem_of_getElem? hz)))
     have hk0:(0:Int) ≤ (pre.length:Int):=Int.natCast_nonneg _
     have hk1:(pre.length:Int) < (l.length:Int):=by omega
     clear hpp hpp' hpl hz kz
     go_wp2_with fail
     refine (axis_any z m wr z64 hI (by omega)).mono ?_
     rintro e w1 ⟨rfl,rfl⟩
     by_cases hx:(axisD z m).2 = 0
     ·obtain ⟨a0,a1⟩:=axis_ok hx
      have HX:=Lib.hid hx
      rw [hx]
      generalize (axisD z (m:Int)).1 = j at a0 a1 ⊢
      obtain ⟨j,rfl⟩:∃ j':Nat,j = (j':Int):=⟨j.toNat,by omega⟩
      have hj:j < bs.length:=by omega
      obtain ⟨y,hy⟩:∃ y,bs[j]? = some y:=⟨_,List.getElem?_eq_getElem hj⟩
      have cy:=HB.out.1.cell hy
      have fy:=HB.out.1.free j
      have HY:=Lib.hid (And.intro hy hj)
      clear hx hy hj
      cases tw with
      | true =>
       go_wp2
       go_roundw
       case rel =>
        obtain ⟨hpp',hpl,-⟩:=H.out
        refine ⟨pre++[z],post,true,_,hpp',by rw [hpl];go_num,rfl,HB.out.1.set j true,by simp [hbl],?_,by simp,by simp⟩
        intro u hu
        rcases List.mem_append.1 hu with hu | hu
        ·exact HB.out.2.1 u hu
        ·rw [List.mem_singleton.1 hu];exact HX.out
       case measure=>simp [intOf];omega
      | false =>
       cases y with
       | true =>
        go_wp2
        go_roundw
        case rel =>
         obtain ⟨hpp',hpl,-⟩:=H.out
         refine ⟨pre++[z],post,true,_,hpp',by rw [hpl];go_num,rfl,HB.out.1.set j true,by simp [hbl],?_,by simp,by simp⟩
         intro u hu
         rcases List.mem_append.1 hu with hu | hu
         ·exact HB.out.2.1 u hu
         ·rw [List.mem_singleton.1 hu];exact HX.out
        case measure=>simp [intOf];omega
       | false =>
        go_wp2
        go_roundw
        case rel =>
         obtain ⟨hpp',hpl,-⟩:=H.out
         refine ⟨pre++[z],post,false,_,hpp',by rw [hpl];go_num,rfl,HB.out.1.set j true,by simp [hbl],?_,fun _=>by rw [count_set HY.out.1,HB.out.2.2.1 (by trivial),hpl],by simp⟩
         intro u hu
         rcases List.mem_append.1 hu with hu | hu
         ·exact HB.out.2.1 u hu
         ·rw [List.mem_singleton.1 hu];exact HX.out
        case measure=>simp [intOf];omega
     ·have hx2:=axis_bad hx
      rw [hx2]
      have HL:Hid (l ≠ []):=Lib.hid (fun e=>by have:=H.out.2.2;rw [e] at this;cases this)
      clear hx hx2
      go_wp2
      go_ret2
      exact axes_bad HB.out.1.below (by unfold I64;omega) (by omega) (fun e=>absurd e HL.out)
    | nil =>
     obtain ⟨hge,hpl⟩:=split_end hpp
     have HE:Hid (l = pre):=Lib.hid (by rw [hpp,List.append_nil])
     clear hpp hpl
     cases tw with
     | true =>
      go_wp2
      go_ret2
      exact axes_bad HB.out.1.below (by unfold I64;omega) (by omega) (fun e=>by have:=HB.out.2.2.2 (by rw [← HE.out];exact e);cases this)
     | false =>
      go_wp2
      go_ret2
      refine ⟨some ⟨q,0,none⟩,m,0,bs,by rw [hbl];rfl,by unfold I64;omega,HB.out.1.below,?_,fun _=>⟨by omega,by omega,by rw [HE.out];exact HB.out.2.1,by rw [HE.out];exact HB.out.2.2.1 (by trivial)⟩,fun _ _ _=>rfl⟩
      have:=HB.out.1.rep (by omega)
      rw [hbl] at this ⊢
      exact this
end Go.Proofs.YtoeaglpmkjoenaaGreat
