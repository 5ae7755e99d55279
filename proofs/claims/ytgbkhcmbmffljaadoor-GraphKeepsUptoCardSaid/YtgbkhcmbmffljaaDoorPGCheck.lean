/-
  Chapter 09: onnx.Check and what it calls, as plain functions of the model.
-/
import Derived.Test.YtgbkhcmbmffljaaDoorPOpsR
import Derived.Test.YtgbkhcmbmffljaaDoorPResV
import Derived.Test.YtgbkhcmbmffljaaDoorPGVal
set_option linter.unusedSimpArgs false
set_option linter.unusedVariables false
namespace Go.Proofs.YtgbkhcmbmffljaaDoor
open Go.RowKit
open Rep (rep)
def prodD:List Int→Int→Option Int
 | [],n=>some n
 | d :: r,n=>if 4096 / n < d then none else prodD r (n * d)
def sizeD (l:List Int):Int × Int :=
 if l.any (fun d=>decide (d < 0)) = true then (0,1) else if 8 < l.length then (0,8) else if l.any (fun d=>decide (d = 0)) = true then (0,0)
 else match prodD l 1 with
  | none=>(0,8)
  | some n=>(n,0)
set_option maxRecDepth 100000 in
set_option maxHeartbeats 4000000 in
theorem size_any (l:List Int) (v:Value) (w:World) (hr:rep w (old w.heap.size) [v] l) :
  Calls Tryd.prog 125 #[v] w fun e w'=>e = .returned (.tuple #[.int .i64 (sizeD l).1,.int .i64 (sizeD l).2])∧w = w':=by
 obtain ⟨A,c,xs,rfl,hnc,hcm,-,hl,hch⟩:=open_slice hr
 have HL:=Lib.hid (And.intro hl hch)
 clear hr hl hch
 go_enter Tryd.func125,Tryd.ntmps125
 go_wp2_with fail
 go_loop [4,11] (fun n i=>∃ (pre post:List Int) (x:Int),l = pre++post∧i = .int .i64 pre.length∧n = .int .i64 x∧x = (if pre.any (fun d=>decide (d = 0)) = true then 0 else 1)∧pre.any (fun d=>decide (d < 0)) = false) (fun n i=>l.length - (intOf i).toNat)
 case atStart=>exact ⟨[],l,1,rfl,rfl,rfl,rfl,rfl⟩
 case round =>
  obtain ⟨pre,post,x,hpp,rfl,rfl,hx,hno⟩:=hrel
  cases post with
  | cons z post =>
   obtain ⟨hz,hlt,hpp',hpl⟩:=split_at hpp
   obtain ⟨b,o,xc,rfl,-,hrz,hcell⟩:=elem_at HL.out.1 HL.out.2 (by decide) hz
   obtain ⟨rfl,-⟩:=hrz
   have k4:w.cell? ⟨b,o + pre.length,none⟩ = some (.int .i64 z):=cell_of_elem (α:=Int) rfl hcell rfl
   have hk0:(0:Int) ≤ (pre.length:Int):=Int.natCast_nonneg _
   have hk1:(pre.length:Int) < (l.length:Int):=by omega
   have H:=Lib.hid (And.intro hpp (And.intro hpp' (And.intro hpl (And.intro hno hx))))
   have hx01:x = 0 ∨ x = 1:=by rw [hx];split <;> simp
   clear hpp hpp' hpl hz hcell hno hx
   by_cases h1:z < 0
   ·have hD:sizeD l = (0,1):=by
     unfold sizeD
     rw [if_pos]
     rw [H.out.1,List.any_append,List.any_cons]
     simp [h1]
    have HD:=Lib.hid hD
    clear hD
    go_wp2
    refine bodyPost_ret (v:=.tuple #[.int .i64 0,.int .i64 1]) (by simp [results,Tryd.results125,go_sem]) rfl ⟨by rw [HD.out],rfl⟩
   ·have HN:=Lib.hid h1
    have hz0:0 ≤ z:=by omega
    clear h1
    have hmn:∃ y:Int,min x z = y∧y = (if (pre++[z]).any (fun d=>decide (d = 0)) = true then 0 else 1):=by
     refine ⟨_,rfl,?_⟩
     have hx:=H.out.2.2.2.2
     rw [List.any_append,List.any_cons,List.any_nil,Bool.or_false]
     by_cases e:z = 0
     ·subst e
      have:min x 0 = 0:=by omega
      rw [this]
      simp
     ·have:min x z = x:=by rcases hx01 with e1 | e1 <;> omega
      rw [this,hx]
      simp [e]
    have HM:=Lib.hid hmn
    clear hmn hx01
    go_wp2
    go_round
    case rel =>
     obtain ⟨hpp,hpp',hpl,hno,hx⟩:=H.out
     obtain ⟨y,hy,hy2⟩:=HM.out
     refine ⟨pre++[z],post,y,hpp',by rw [hpl];go_num,by rw [← hy],hy2,?_⟩
     rw [List.any_append,hno]
     simp [HN.out]
    case measure=>simp [intOf];omega
  | nil =>
   obtain ⟨hge,hpl⟩:=split_end hpp
   subst hpl
   have H:=Lib.hid (And.intro hno hx)
   clear hpp hno hge
   by_cases h8:(8:Int) < (pre.length:Int)
   ·have hD:sizeD pre = (0,8):=by unfold sizeD;rw [if_neg (by rw [H.out.1];simp),if_pos (by omega)]
    have HD:=Lib.hid hD
    clear hD hx
    go_wp2
    refine bodyPost_ret (v:=.tuple #[.int .i64 0,.int .i64 8]) (by simp [results,Tryd.results125,go_sem]) rfl ⟨by rw [HD.out],rfl⟩
   ·have hx01:x = 0 ∨ x = 1:=by rw [hx];split <;> simp
    have H8:=Lib.hid h8
    have h8f:decide ((8:Int) < (pre.length:Int)) = false:=decide_eq_false h8
    clear hx
    rcases hx01 with rfl | rfl
    ·have hD:sizeD pre = (0,0):=by
      unfold sizeD
      rw [if_neg (by rw [H.out.1];simp),if_neg (by have:=H8.out;omega),if_pos]
      have:=H.out.2
      split at this
      ·assumption
      ·cases this
     have HD:=Lib.hid hD
     clear hD
     go_wp2
     refine bodyPost_ret (v:=.tuple #[.int .i64 0,.int .i64 0]) (by simp [results,Tryd.results125,go_sem]) rfl ⟨by rw [HD.out],rfl⟩
    ·have hnz:pre.any (fun d=>decide (d = 0)) = false:=by
      have:=H.out.2
      cases hb:pre.any (fun d=>decide (d = 0)) with
      | false=>rfl
      | true=>rw [hb] at this;simp at this
     have hpos:∀ z ∈ pre,1 ≤ z:=fun z hz=>by
      have h1:=List.any_eq_false.1 H.out.1 z hz
      have h2:=List.any_eq_false.1 hnz z hz
      simp at h1 h2
      omega
     have hD:sizeD pre = (match prodD pre 1 with | none=>(0,8) | some n=>(n,0)):=by
      unfold sizeD
      rw [if_neg (by rw [H.out.1];simp),if_neg (by have:=H8.out;omega),if_neg (by rw [hnz];simp)]
     have HD:=Lib.hid (And.intro hD hpos)
     clear hD hnz hpos h8
     go_wp2_with fail
     go_loop [4,28] (fun n i=>∃ (pre2 post2:List Int) (y:Int),pre = pre2++post2∧i = .int .i64 pre2.length∧n = .int .i64 y∧1 ≤ y∧y ≤ 4096∧prodD pre 1 = prodD post2 y) (fun n i=>pre.length - (intOf i).toNat)
     case atStart=>exact ⟨[],pre,1,rfl,rfl,rfl,by omega,by omega,rfl⟩
     case round =>
      obtain ⟨pre2,post2,y,hpp,rfl,rfl,hy1,hy2,hst⟩:=hrel
      cases post2 with
      | cons z post2 =>
       obtain ⟨hz,hlt,hpp',hpl⟩:=split_at hpp
       obtain ⟨b,o,xc,rfl,-,hrz,hcell⟩:=elem_at HL.out.1 HL.out.2 (by decide) hz
       obtain ⟨rfl,-⟩:=hrz
       have k4:w.cell? ⟨b,o + pre2.length,none⟩ = some (.int .i64 z):=cell_of_elem (α:=Int) rfl hcell rfl
       have hz1:1 ≤ z:=HD.out.2 z (List.mem_of_getElem? hz)
       have hk0:(0:Int) ≤ (pre2.length:Int):=Int.natCast_nonneg _
       have hk1:(pre2.length:Int) < (pre.length:Int):=by omega
       have H2:=Lib.hid (And.intro hpp' (And.intro hpl hst))
       clear hpp hpp' hpl hz hcell hst
       have hy0:y ≠ 0:=by omega
       by_cases hqz:4096 / y < z
       ·have hD2:sizeD pre = (0,8):=by rw [HD.out.1,H2.out.2.2];unfold prodD;rw [if_pos hqz]
        have HD2:=Lib.hid hD2
        clear hD2
        go_wp2
        refine bodyPost_ret (v:=.tuple #[.int .i64 0,.int .i64 8]) (by simp [results,Tryd.results125,go_sem]) rfl ⟨by rw [HD2.out],rfl⟩
       ·have hmul:1 ≤ y * z∧y * z ≤ 4096:=by
         have h2:z * y ≤ 4096:=Int.mul_le_of_le_ediv (by omega) (Int.not_lt.1 hqz)
         rw [Int.mul_comm y z]
         exact ⟨by have:=Int.mul_le_mul hz1 hy1 (by omega) (by omega);omega,h2⟩
        have hst2:prodD pre 1 = prodD post2 (y * z):=by
         rw [H2.out.2.2]
         conv =>
          lhs
          unfold prodD
          rw [if_neg hqz]
        have hwr:wrap64 (y * z) = y * z:=by
         obtain ⟨m1,m2⟩:=hmul
         obtain ⟨p,hp⟩:∃ p,y * z = p:=⟨_,rfl⟩
         rw [hp] at m1 m2 ⊢
         unfold wrap64
         omega
        have HS:=Lib.hid (And.intro hst2 (And.intro hmul.1 (And.intro hmul.2 hwr)))
        obtain ⟨m1,m2⟩:=hmul
        clear hst2
        go_wp2
        go_round
        case rel=>exact ⟨pre2++[z],post2,y * z,H2.out.1,by rw [H2.out.2.1];go_num,rfl,HS.out.2.1,HS.out.2.2.1,HS.out.1⟩
        case measure=>simp [intOf];omega
      | nil =>
       obtain ⟨hge,hpl⟩:=split_end hpp
       subst hpl
       have hD2:sizeD pre2 = (y,0):=by rw [HD.out.1,hst];rfl
       have HD2:=Lib.hid hD2
       clear hD2 hpp hst
       go_wp2
       refine bodyPost_ret (v:=.tuple #[.int .i64 y,.int .i64 0]) (by simp [results,Tryd.results125,go_sem]) rfl ⟨by rw [HD2.out],rfl⟩
structure Wr (W:World) (g:Nat) (b m:Bool):Prop where
 at':W.heap[g]? = some (.cells ([.bool b,.bool m]:List Value).toArray 133 (0,0))
section
variable {w W W':World} {g:Nat} {b m:Bool}
theorem Wr.lt (h:Wr W g b m):g < W.heap.size:=(Array.getElem?_eq_some_iff.1 h.at').1
theorem Wr.next (h:Wr W g b m) (hb:Below W.heap.size W W'):Wr W' g b m:=⟨(hb.block _ h.lt).trans h.at'⟩
theorem Wr.cells (h:Wr W g b m):W.cell? ⟨g,0,none⟩ = some (.bool b)∧W.cell? ⟨g,1,none⟩ = some (.bool m):=⟨cell_of_row _ _ _ _ _ _ h.at',cell_of_row _ _ _ _ _ _ h.at'⟩
theorem Wr.setB (h:Wr W g b m) (x:Bool):Wr (W.setRow g (([.bool b,.bool m]:List Value).set 0 (.bool x)).toArray) g x m:=⟨heap_setRow _ _ _ _ _ h.at'⟩
theorem Wr.setM (h:Wr W g b m) (x:Bool):Wr (W.setRow g (([.bool b,.bool m]:List Value).set 1 (.bool x)).toArray) g b x:=⟨heap_setRow _ _ _ _ _ h.at'⟩
theorem grown_row (W:World) (g:Nat) (cs:Array Value):W.grownBy (W.setRow g cs) (some g):=⟨rfl,rfl,rfl,by rw [size_setRow];exact Nat.le_refl _,fun k _ hn=>heap_setRow_other _ _ _ _ (fun e=>hn (by rw [e]))⟩
theorem grown_of_below {q:Option Nat} (h:Below w.heap.size w W):w.grownBy W q:=⟨h.os,h.tape,h.output,h.size,fun k hk _=>h.block k hk⟩
theorem keep_grown {B:Nat} (h:w.grownBy W (some g)) (hB:B ≤ g) (hs:B ≤ w.heap.size):Keeps (old B) w W:=.of_block fun k hk=>h.block k (Nat.lt_of_lt_of_le hk hs) (fun e=>by injection e with e;have:k < B:=hk;omega)
end
theorem keep_z {w W:World} {g:Nat} {Z:Zone} (h:w.grownBy W (some g)) (hg:¬ Z.blk g) (hs:∀ k,Z.blk k→k < w.heap.size):Keeps Z w W:=.of_block fun k hk=>h.block k (hs k hk) (fun e=>by injection e with e;exact hg (e ▸ hk))
def WrTo (w:World) (g:Nat) (b m:Bool) (e:Ending) (w':World):Prop:=e = .returned (.tuple #[])∧Wr w' g b m∧w.grownBy w' (some g)
def longS (s:ByteArray):Bool:=decide (256 < s.size)
set_option maxRecDepth 100000 in
set_option maxHeartbeats 4000000 in
theorem name_w (l:List ByteArray) (v:Value) (g:Nat) (Z:Zone) (b m:Bool) (w:World) (hB:¬ Z.blk g) (hs:∀ k,Z.blk k→k < w.heap.size) (hr:rep w Z [v] l) (hw:Wr w g b m) :
  Calls Tryd.prog 82 #[.pointer (some ⟨g,0,none⟩),v] w (WrTo w g b (m || l.any longS)):=by
 obtain ⟨A,c,xs,rfl,hnc,hcm,-,hl,hch⟩:=open_slice hr
 have HL:=Lib.hid (And.intro hl hch)
 have HZ:=Lib.hid (And.intro hB hs)
 have hgs:=hw.lt
 have HW:=Lib.hid hw
 clear hr hl hch hw hB hs
 go_enter Tryd.func82,Tryd.ntmps82
 go_wp2_with fail
 go_loopw [8] (fun i wr=>∃ (pre post:List ByteArray) (m':Bool),l = pre++post∧i = .int .i64 pre.length∧m' = (m || pre.any longS)∧Wr wr g b m'∧w.grownBy wr (some g)) (fun i _=>l.length - (intOf i).toNat)
 case atStart=>exact ⟨[],l,m,rfl,rfl,by simp,HW.out,World.grownBy.refl _ _⟩
 case round =>
  obtain ⟨pre,post,m',hpp,rfl,hm,hwr,hg⟩:=hrel
  have HWr:=Lib.hid (And.intro hwr hg)
  have cm:=hwr.cells.2
  cases post with
  | cons z post =>
   obtain ⟨hz,hlt,hpp',hpl⟩:=split_at hpp
   obtain ⟨b',o,xc,rfl,hbB,hrz,hcell⟩:=elem_at HL.out.1 HL.out.2 (by decide) hz
   obtain ⟨rfl,-⟩:=hrz
   have k4:wr.cell? ⟨b',o + pre.length,none⟩ = some (.string z):=(keep_z hg HZ.out.1 HZ.out.2 ⟨b',o + pre.length,none⟩ hbB).1.trans (cell_of_elem (α:=ByteArray) rfl hcell rfl)
   have hk0:(0:Int) ≤ (pre.length:Int):=Int.natCast_nonneg _
   have hk1:(pre.length:Int) < (l.length:Int):=by omega
   have H:=Lib.hid (And.intro hpp' (And.intro hpl hm))
   clear hpp hpp' hpl hz hcell hm hwr hg hbB
   have key:∀ x:Bool,x = (m' || longS z)→(∃ (pre' post':List ByteArray) (m2:Bool),l = pre'++post'∧Value.int .i64 ((pre.length:Int) + 1) = .int .i64 pre'.length∧m2 = (m || pre'.any longS)∧Wr (wr.setRow g (([.bool b,.bool m']:List Value).set 1 (.bool x)).toArray) g b m2∧w.grownBy (wr.setRow g (([.bool b,.bool m']:List Value).set 1 (.bool x)).toArray) (some g)):=fun x hx=>by
    refine ⟨pre++[z],post,x,H.out.1,by rw [H.out.2.1];go_num,?_,HWr.out.1.setM x,grown_trans HWr.out.2 (grown_row _ _ _)⟩
    rw [hx,H.out.2.2,List.any_append]
    simp [Bool.or_assoc]
   have HK:=Lib.hid key
   clear key
   cases m' with
   | true =>
    go_wp2_with (first
     |(with_reducible refine wpList_store_field rfl 4 _ _ rfl g 1 (.bool true) rfl rfl (by kernel_rfl) (by kernel_rfl) 133 [.bool b,.bool true] HWr.out.1.at' (of_decide_eq_true (by kernel_rfl)) ?_;have hK:=HK.out true (by simp);generalize World.setRow _ _ _ = wn at hK ⊢;have HKn:=Lib.hid hK;clear hK;refine halt ?_))
    unfold Halt
    go_wp2
    go_roundw
    case rel=>exact HKn.out
    case measure=>simp [intOf];omega
   | false =>
    have hx:decide ((256:Int) < (z.size:Int)) = (false || longS z):=by
     unfold longS
     rw [Bool.false_or,decide_eq_decide]
     omega
    have HX:=Lib.hid hx
    clear hx
    go_wp2_with (first
     |(with_reducible refine wpList_store_field rfl 4 _ _ rfl g 1 (.bool (decide ((256:Int) < (z.size:Int)))) rfl rfl (by kernel_rfl) (by kernel_rfl) 133 [.bool b,.bool false] HWr.out.1.at' (of_decide_eq_true (by kernel_rfl)) ?_;have hK:=HK.out _ HX.out;generalize World.setRow _ _ _ = wn at hK ⊢;have HKn:=Lib.hid hK;clear hK;refine halt ?_))
    unfold Halt
    go_wp2
    go_roundw
    case rel=>exact HKn.out
    case measure=>simp [intOf];omega
  | nil =>
   obtain ⟨hge,hpl⟩:=split_end hpp
   subst hpl
   subst hm
   clear hpp hwr hg
   go_wp2
   exact bodyPost_end (v:=.tuple #[]) (by simp [results,Tryd.results82,go_sem]) rfl ⟨rfl,HWr.out.1,HWr.out.2⟩
end Go.Proofs.YtgbkhcmbmffljaaDoor
