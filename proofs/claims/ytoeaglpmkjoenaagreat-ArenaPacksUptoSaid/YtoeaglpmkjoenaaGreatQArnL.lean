/-
  Chapter 21: arena.Pack's own functions: which sizes are refused, and which value is laid first. No condition.
-/
/-
  Chapter 21: arena.Pack: plain words and what lies in memory. No condition.
-/
import Derived.Test.YtoeaglpmkjoenaaGreatQArnH
import Derived.Test.YtoeaglpmkjoenaaGreatQToldT
import Derived.Test.YtoeaglpmkjoenaaGreatQArnQ
import Derived.Test.YtoeaglpmkjoenaaGreatQSrtW
set_option linter.unusedSimpArgs false
set_option linter.unusedVariables false
namespace Go.Proofs.YtoeaglpmkjoenaaGreat
open Go.RowKit
open Rep (rep)
section
variable {ops:Array Oper} {S:World→Prop} {o:Oper} {a:Act}
theorem yields_maxD (hw:Region.wanted o (yielded ops a.tmps) = true) (x y:Operand) (t u:TypeId) (ho:o.op = .call { callee:=.builtin .max,args:=#[x,y],argTypes:=#[t,u] }) (p q r:Int) (hx:a.eval x = .int .i64 p) (hy:a.eval y = .int .i64 q) (h:max p q = r):YieldsIf Tryz.prog ops S o (.int .i64 r) a :=
 .inl ⟨hw,fun w _=>by
  have h':(if q > p then q else p) = r:=by
   rw [← h]
   by_cases e:q > p
   ·rw [if_pos e];omega
   ·rw [if_neg e];omega
  unfold execOp
  simp only [ho]
  simp [resolve,invoke,builtin,hx,hy,Builtin.max_,Builtin.max2,h',Result.andThen]⟩
end
def szB (x:Int):Bool:=decide (x < 0) || (!decide (x % 8 = 0) || decide (x > 32768))
set_option maxRecDepth 100000 in
set_option maxHeartbeats 800000 in
theorem pack1_any (x:Int) (W:World) (hx:I64 x):Calls Tryz.prog 13 #[.int .i64 x] W fun e W'=>e = .returned (.bool (szB x))∧W' = W:=by
 obtain ⟨r,hr⟩:∃ r,szB x = r:=⟨_,rfl⟩
 rw [hr]
 have HR:=Lib.hid hr
 clear hr
 unfold I64 at hx
 by_cases h:x < 0
 ·have HT:Hid (r = true):=Lib.hid (by rw [← HR.out];unfold szB;rw [decide_eq_true h];rfl)
  go_enter Tryz.func13,Tryz.ntmps13
  go_wp2
  go_ret
  exact ⟨by rw [HT.out];rfl,rfl⟩
 ·have h0:0 ≤ x:=by omega
  by_cases h2:x % 8 = 0
  ·have h2':(x % 8 != 0) = false:=by simpa using h2
   have H2:=Lib.hid h2
   clear h2
   by_cases h3:x > 32768
   ·have HT:Hid (r = true):=Lib.hid (by rw [← HR.out];unfold szB;rw [decide_eq_true h3];simp)
    go_enter Tryz.func13,Tryz.ntmps13
    go_wp2
    go_ret
    exact ⟨by rw [HT.out];rfl,rfl⟩
   ·have HT:Hid (r = false):=Lib.hid (by rw [← HR.out];unfold szB;rw [decide_eq_false h,decide_eq_false h3,decide_eq_true H2.out];rfl)
    go_enter Tryz.func13,Tryz.ntmps13
    go_wp2
    go_ret
    exact ⟨by rw [HT.out];rfl,rfl⟩
  ·have h2':(x % 8 != 0) = true:=by simpa using h2
   have HT:Hid (r = true):=Lib.hid (by rw [← HR.out];unfold szB;rw [decide_eq_false h2];simp)
   clear h2
   go_enter Tryz.func13,Tryz.ntmps13
   go_wp2
   go_ret
   exact ⟨by rw [HT.out];rfl,rfl⟩
theorem PlanI.grown {w W W':World} {cs:List Value} {p:PlanD} {row:Option Nat} (h:PlanI w cs p W) (hg:W.grownBy W' row) (hr:∀ b,row = some b→w.heap.size < b):PlanI w cs p W':=by
 have hne:∀ k,k ≤ w.heap.size→some k ≠ row:=fun k hk e=>by have:=hr k e.symm;omega
 have hb:=h.below
 refine ⟨⟨⟨hg.os.trans hb.os,hg.tape.trans hb.tape,hg.output.trans hb.output,Nat.le_trans hb.size hg.size,fun k hk=>(hg.block k (Nat.lt_of_lt_of_le hk hb.size) (hne k (by omega))).trans (hb.block k hk)⟩,(hg.block _ h.lt (hne _ (Nat.le_refl _))).trans h.box.row⟩,h.was⟩
def cmpS (p:PlanD) (x y:Int):Int:=cmpI (szAt p y.toNat) (szAt p x.toNat)
def okS (p:PlanD) (x:Int):Prop:=0 ≤ x∧x < p.size.length
theorem PlanI.old2 {w W:World} {cs:List Value} {p:PlanD} (h:PlanI w cs p W) {q:Addr} {v:Value} (hq:q.block < w.heap.size) (hv:w.cell? q = some v):W.cell? q = some v:=(h.below.cell hq).trans hv
theorem size_at {w:World} {cs:List Value} {p:PlanD} (hr:rep w (old w.heap.size) cs p) {j:Nat} (hj:j < p.size.length):∃ b o k,cs[5]? = some (.slice (some ⟨b,o,none⟩) p.size.length k)∧p.size.length ≤ k∧k ≤ 9223372036854775807∧b < w.heap.size∧I64 (szAt p j)∧∀ i,i < p.size.length→w.cell? ⟨b,o + i,none⟩ = some (.int .i64 (szAt p i)):=by
 obtain ⟨A1,k1,A2,k2,A3,k3,A4,k4,A5,k5,A6,k6,A7,k7,hcs,-,-,-,-,-,r6,-⟩:=open_PlanD hr
 obtain ⟨n1,n2⟩:=slice_bnd r6
 have hget:∀ i,i < p.size.length→p.size[i]? = some (szAt p i):=fun i hi=>by
  unfold szAt
  rw [List.getD_eq_getElem?_getD,List.getElem?_eq_getElem hi]
  rfl
 obtain ⟨s64,b,o,rfl,hb,-⟩:=int_at r6 (hget j hj)
 refine ⟨b,o,k6,by rw [hcs];rfl,n1,n2,hb,s64,fun i hi=>?_⟩
 obtain ⟨-,b',o',e,-,kz⟩:=int_at r6 (hget i hi)
 injection e with e
 injection e with e1 e2
 subst e1 e2
 exact kz
set_option maxRecDepth 100000 in
set_option maxHeartbeats 8000000 in
theorem pack2_law {w w0:World} {cs:List Value} {p:PlanD} {g:Nat} (h:PlanI w cs p w0) (hg:w.heap.size < g):CmpLaw w0 g 15 #[.pointer (some ⟨w.heap.size,0,none⟩)] (okS p) (cmpS p):=by
 refine ⟨enters_of Tryz.func15 (by kernel_rfl) rfl,fun l W x y hS hx hy=>?_⟩
 have HX:=Lib.hid (h.grown hS.fr (fun b e=>by injection e with e;omega))
 obtain ⟨i,rfl⟩:∃ i:Nat,x = (i:Int):=⟨x.toNat,by have:=hx.1;omega⟩
 obtain ⟨j,rfl⟩:∃ j:Nat,y = (j:Int):=⟨y.toNat,by have:=hy.1;omega⟩
 have hi:i < p.size.length:=by have:=hx.2;omega
 have hj:j < p.size.length:=by have:=hy.2;omega
 obtain ⟨b,o,k,h5,hk1,hk2,hb,-,hc⟩:=size_at h.was hi
 have HC:=Lib.hid (And.intro h5 (And.intro hb (And.intro (hc i hi) (And.intro (hc j hj) (And.intro hi hj)))))
 have HE:Hid (cmpS p (i:Int) (j:Int) = cmpI (szAt p j) (szAt p i)):=Lib.hid (by unfold cmpS;rw [Int.toNat_natCast,Int.toNat_natCast])
 obtain ⟨n,hn⟩:∃ n,p.size.length = n:=⟨_,rfl⟩
 rw [hn] at HC hk1
 obtain ⟨si,hsi⟩:∃ s,szAt p i = s:=⟨_,rfl⟩
 obtain ⟨sj,hsj⟩:∃ s,szAt p j = s:=⟨_,rfl⟩
 rw [hsi,hsj] at HC HE
 clear h hg hS hx hy hi hj h5 hb hc hn hsi hsj
 go_enter Tryz.func15,Tryz.ntmps15
 go_upto_region 1 with (fail)
 refine wp_region_held_drew (S:=fun V=>∃ q,V = W.drewN q) (by kernel_rfl) ⟨1,rfl⟩ (fun hHeld=>?_)
 generalize World.drew _ = V0 at hHeld ⊢
 refine tk0 0 (some 6) (v:=.pointer (some ⟨w.heap.size,5,none⟩)) rfl hHeld ?_
 refine tk9 1 (some 7) (v:=.slice (some ⟨b,o,none⟩) n k) rfl (yields_load_one9 (by kernel_rfl) _ _ rfl (w.heap.size) (5) (by kernel_rfl) _ _ Tryz.underlying24 rfl (fun _ h=>by obtain ⟨q,rfl⟩:=h;exact HX.out.cell HC.out.1)) hHeld ?_
 refine tk0 2 (some 8) (v:=.int .i64 (j:Int)) rfl hHeld ?_
 refine tk9 3 (some 9) (v:=.pointer (some ⟨b,o + j,none⟩)) rfl (yields_idx (by kernel_rfl) _ _ rfl b o (n) k j (by kernel_rfl) (by kernel_rfl) HC.out.2.2.2.2.2) hHeld ?_
 refine tk9 4 (some 10) (v:=.int .i64 sj) rfl (yields_load_one9 (by kernel_rfl) _ _ rfl b (o + j) (by kernel_rfl) _ _ Tryz.underlying3 rfl (fun _ h=>by obtain ⟨q,rfl⟩:=h;exact HX.out.old2 HC.out.2.1 HC.out.2.2.2.1)) hHeld ?_
 refine tk0 5 (some 11) (v:=.pointer (some ⟨w.heap.size,5,none⟩)) rfl hHeld ?_
 refine tk9 6 (some 12) (v:=.slice (some ⟨b,o,none⟩) n k) rfl (yields_load_one9 (by kernel_rfl) _ _ rfl (w.heap.size) (5) (by kernel_rfl) _ _ Tryz.underlying24 rfl (fun _ h=>by obtain ⟨q,rfl⟩:=h;exact HX.out.cell HC.out.1)) hHeld ?_
 refine tk0 7 (some 13) (v:=.int .i64 (i:Int)) rfl hHeld ?_
 refine tk9 8 (some 14) (v:=.pointer (some ⟨b,o + i,none⟩)) rfl (yields_idx (by kernel_rfl) _ _ rfl b o (n) k i (by kernel_rfl) (by kernel_rfl) HC.out.2.2.2.2.1) hHeld ?_
 refine tk9 9 (some 15) (v:=.int .i64 si) rfl (yields_load_one9 (by kernel_rfl) _ _ rfl b (o + i) (by kernel_rfl) _ _ Tryz.underlying3 rfl (fun _ h=>by obtain ⟨q,rfl⟩:=h;exact HX.out.old2 HC.out.2.1 HC.out.2.2.1)) hHeld ?_
 refine call_d9 10 (some 16) rfl (by kernel_rfl) (by kernel_rfl) (by kernel_rfl) 16 _ _ rfl #[.int .i64 sj,.int .i64 si] (by kernel_rfl) (fun w=>by kernel_rfl) ?_
 refine (compare_any sj si V0).mono ?_
 rintro e V1 ⟨rfl,rfl⟩
 refine ⟨_,rfl,hHeld,?_⟩
 refine tk0 11 (some 5) (v:=.int .i64 (cmpI sj si)) rfl hHeld ?_
 refine wpAnyH_done (by kernel_rfl) ?_ _
 have HF:=Lib.hid hHeld
 clear hHeld
 simp [Act.put]
 go_wp2
 go_ret
 obtain ⟨q,e⟩:=HF.out
 exact ⟨by rw [HE.out];rfl,q,e⟩
end Go.Proofs.YtoeaglpmkjoenaaGreat
set_option linter.unusedSimpArgs false
set_option linter.unusedVariables false
namespace Go.Proofs.YtoeaglpmkjoenaaGreat
open Go.RowKit
open Rep (rep)
def liveV (p:PlanD) (k:Nat):List Nat:=(List.range k).filter fun v=>decide (0 < szAt p v)
def natI (l:List Nat):List Int:=l.map fun (x:Nat)=>(x:Int)
def ordI (p:PlanD):List Int:=stabD (cmpS p) (natI (liveV p p.size.length))
def ordN (p:PlanD):List Nat:=(ordI p).map Int.toNat
noncomputable def packAll (p:PlanD):List Int × Int:=packD srtB p (ordN p) [] (List.replicate p.size.length 0) 0
def SizesOk (p:PlanD):Prop:=p.size.length ≤ 4096∧∀ x ∈ p.size,szB x = false
theorem liveV_next (p:PlanD) (k:Nat):liveV p (k + 1) = if 0 < szAt p k then liveV p k++[k] else liveV p k:=by
 unfold liveV
 rw [List.range_succ,List.filter_append]
 by_cases h:0 < szAt p k <;> simp [h]
theorem liveV_len (p:PlanD) (k:Nat):(liveV p k).length ≤ k:=by
 unfold liveV
 exact Nat.le_trans (List.length_filter_le _ _) (by rw [List.length_range];exact Nat.le_refl _)
theorem ordI_mem {p:PlanD} {x:Int}:x ∈ ordI p ↔ ∃ v:Nat,x = (v:Int)∧v < p.size.length∧0 < szAt p v:=by
 unfold ordI
 rw [(stabD_perm _ _).mem_iff]
 unfold natI liveV
 rw [List.mem_map]
 constructor
 ·rintro ⟨v,hv,rfl⟩
  obtain ⟨h1,h2⟩:=List.mem_filter.1 hv
  exact ⟨v,rfl,List.mem_range.1 h1,of_decide_eq_true h2⟩
 ·rintro ⟨v,rfl,h1,h2⟩
  exact ⟨v,List.mem_filter.2 ⟨List.mem_range.2 h1,decide_eq_true h2⟩,rfl⟩
theorem ordN_mem {p:PlanD} {v:Nat}:v ∈ ordN p ↔ v < p.size.length∧0 < szAt p v:=by
 unfold ordN
 rw [List.mem_map]
 constructor
 ·rintro ⟨x,hx,rfl⟩
  obtain ⟨v,rfl,h1,h2⟩:=ordI_mem.1 hx
  rw [Int.toNat_natCast]
  exact ⟨h1,h2⟩
 ·rintro ⟨h1,h2⟩
  exact ⟨(v:Int),ordI_mem.2 ⟨v,rfl,h1,h2⟩,Int.toNat_natCast v⟩
theorem ordN_perm (p:PlanD):(ordN p).Perm (liveV p p.size.length):=by
 unfold ordN ordI
 refine ((stabD_perm (cmpS p) _).map Int.toNat).trans ?_
 unfold natI
 rw [List.map_map]
 have:(Int.toNat ∘ fun (x:Nat)=>(x:Int)) = id:=by funext x;exact Int.toNat_natCast x
 rw [this,List.map_id]
theorem ordN_nodup (p:PlanD):(ordN p).Nodup:=(ordN_perm p).nodup_iff.2 (List.nodup_range.filter _)
theorem ordN_len (p:PlanD):(ordN p).length = (ordI p).length:=List.length_map ..
theorem ordI_len (p:PlanD):(ordI p).length = (liveV p p.size.length).length:=by unfold ordI;rw [(stabD_perm _ _).length_eq];unfold natI;exact List.length_map ..
theorem ordN_at {p:PlanD} {j:Nat} {x:Int} (h:(ordI p)[j]? = some x):∃ v:Nat,x = (v:Int)∧(ordN p)[j]? = some v∧v < p.size.length∧0 < szAt p v:=by
 obtain ⟨v,rfl,h1,h2⟩:=ordI_mem.1 (List.mem_of_getElem? h)
 refine ⟨v,rfl,?_,h1,h2⟩
 unfold ordN
 rw [List.getElem?_map,h]
 simp
theorem way_app (p:PlanD) (d:List Nat) (w:Nat) (at_:List Int) (v:Nat):wayD p (d++[w]) at_ v = wayD p d at_ v++if apB p v w = true then [(atD at_ w,atD at_ w + szAt p w)] else []:=by
 unfold wayD
 rw [List.filter_append,List.map_append]
 by_cases h:apB p (v:Int) (w:Int) = true
 ·simp [h]
 ·simp [h]
theorem sizes8 {p:PlanD} (h:SizesOk p):∀ x ∈ p.size,x % 8 = 0:=fun x hx=>by
 have:=h.2 x hx
 unfold szB at this
 simp at this
 exact this.2.1
theorem sizes_bd {p:PlanD} (h:SizesOk p) (v:Nat):0 ≤ szAt p v∧szAt p v ≤ 32768:=by
 unfold szAt
 rw [List.getD_eq_getElem?_getD]
 cases hv:p.size[v]? with
 | none=>simp
 | some x =>
  have:=h.2 x (List.mem_of_getElem? hv)
  unfold szB at this
  simp at this
  simp only [Option.getD_some]
  omega
theorem sum_le {p:PlanD} (h:SizesOk p):∀ l:List Nat,(l.map (szAt p)).sum ≤ (l.length:Int) * 32768
 | []=>by simp
 | v :: l=>by
  have h1:=sum_le h l
  have h2:=(sizes_bd h v).2
  rw [List.map_cons,List.sum_cons,List.length_cons]
  omega
theorem pack_bd {p:PlanD} (h:SizesOk p) {done:List Nat} {at_:List Int} {sz:Int} (hI:PackI p done at_ sz) (hl:done.length ≤ 4096):0 ≤ sz∧sz ≤ 134217728:=by
 have h1:=sum_le h done
 have h2:=hI.sum
 omega
def OrdR (N:Nat) (W:World) (A:Option Addr) (ord:List Int):Prop:=∀ (j:Nat) (x:Int),ord[j]? = some x→∃ g,A = some ⟨g,0,none⟩∧g < N∧W.cell? ⟨g,j,none⟩ = some (.int .i64 x)
structure PakI (w:World) (cs:List Value) (p:PlanD) (N ab:Nat) (A:Option Addr) (ord at_:List Int) (W:World):Prop where
 box:PlanI w cs p W
 ord:OrdR N W A ord
 row:W.heap[ab]? = some (.cells (at_.map (Value.int .i64)).toArray 3 (0,0))
 lo:w.heap.size < N
 le:N ≤ ab
section
variable {w W W':World} {cs:List Value} {p:PlanD} {N ab:Nat} {A:Option Addr} {ord at_:List Int}
theorem PakI.lt (h:PakI w cs p N ab A ord at_ W):ab < W.heap.size:=(Array.getElem?_eq_some_iff.1 h.row).1
theorem PakI.grown (h:PakI w cs p N ab A ord at_ W) {row:Option Nat} (hg:W.grownBy W' row) (hr:∀ b,row = some b→ab < b):PakI w cs p N ab A ord at_ W':=by
 have hlt:=h.lt
 have hle:=h.le
 have hne:∀ k,k ≤ ab→some k ≠ row:=fun k hk e=>by have:=hr k e.symm;omega
 refine ⟨h.box.grown hg (fun b e=>by have:=hr b e;have:=h.lo;omega),fun j x hj=>?_,(hg.block _ hlt (hne _ (Nat.le_refl _))).trans h.row,h.lo,h.le⟩
 obtain ⟨g,h1,h2,h3⟩:=h.ord j x hj
 refine ⟨g,h1,h2,?_⟩
 rw [World.cell?_of_block (hg.block g (by omega) (hne g (by omega)))]
 exact h3
theorem PakI.next (h:PakI w cs p N ab A ord at_ W) (hb:Below W.heap.size W W'):PakI w cs p N ab A ord at_ W' :=
 h.grown (row:=none) ⟨hb.os,hb.tape,hb.output,hb.size,fun k hk _=>hb.block k hk⟩ (fun b e=>by cases e)
theorem PakI.store (h:PakI w cs p N ab A ord at_ W) (v:Nat) (x:Int):PakI w cs p N ab A ord (at_.set v x) (W.setCell ⟨ab,v,none⟩ (.int .i64 x)):=by
 have hlo:=h.lo
 have hle:=h.le
 rw [set_as_row h.row]
 refine ⟨h.box.past (Nat.lt_succ_self _) (below_setRow' (Below.refl _ _) (by omega) _),fun j y hj=>?_,?_,h.lo,h.le⟩
 ·obtain ⟨g,h1,h2,h3⟩:=h.ord j y hj
  refine ⟨g,h1,h2,?_⟩
  rw [World.cell?_of_block (show (W.setRow ab _).heap[g]? = W.heap[g]? from heap_setRow_other _ _ _ _ (by omega))]
  exact h3
 ·rw [heap_setRow _ _ _ _ _ h.row,List.map_set,List.setIfInBounds_toArray]
theorem PakI.free (h:PakI w cs p N ab A ord at_ W) (k:Nat):W.frozen? ⟨ab,k,none⟩ = false:=by simp [World.frozen?,h.row]
theorem PakI.cell (h:PakI w cs p N ab A ord at_ W) {k:Nat} (hk:k < at_.length):W.cell? ⟨ab,k,none⟩ = some (.int .i64 (atD at_ k)):=by
 refine cell_row h.row ?_
 unfold atD
 rw [List.getElem?_map,List.getD_eq_getElem?_getD,List.getElem?_eq_getElem hk]
 rfl
end
structure GrowB (B W:World) (v:Value) (ws:List (Int × Int)) (xs:List Value):Prop where
 own:W.ownsRow B.heap.size 59 2 v ws.length xs
 eq:xs = ws.flatMap encB
 below:Below B.heap.size B W
theorem GrowB.nil (B:World):GrowB B B (.slice none 0 0) [] []:=⟨World.ownsRow_nil _ _ _ _,rfl,Below.refl _ _⟩
theorem GrowB.next {B W W':World} {v:Value} {ws:List (Int × Int)} {xs:List Value} (h:GrowB B W v ws xs) (hb:Below W.heap.size W W'):GrowB B W' v ws xs:=⟨own_below h.own hb,h.eq,h.below.trans (hb.mono h.below.size)⟩
theorem GrowB.more {B W W':World} {v v':Value} {ws:List (Int × Int)} {xs:List Value} {b:Int × Int} {ob:Obj} (h:GrowB B W v ws xs) (hown:W'.ownsRow B.heap.size 59 2 v' (ws.length + 1) (xs++encB b)) (hg:(W.alloc ob).grownBy W' v.ownBlock):GrowB B W' v' (ws++[b]) (xs++encB b) :=
 ⟨by rw [List.length_append];exact hown,by rw [List.flatMap_append,h.eq];simp,
  (h.below.alloc h.below.size _).grown hg (by have:=h.below.size;rw [World.size_alloc];omega) (fun g hg=>(h.own.lt g hg).1)⟩
theorem flat_at:∀ (ws:List (Int × Int)) (i:Nat) (b:Int × Int),ws[i]? = some b→(ws.flatMap encB)[i * 2]? = some (.int .i64 b.1)∧(ws.flatMap encB)[i * 2 + 1]? = some (.int .i64 b.2)
 | [],i,b,h=>by simp at h
 | x :: ws,0,b,h=>by
  have h:x = b:=by simpa using h
  subst h
  exact ⟨rfl,rfl⟩
 | x :: ws,i + 1,b,h=>by
  have h1:=flat_at ws i b (by simpa using h)
  rw [show (x :: ws).flatMap encB = .int .i64 x.1 :: .int .i64 x.2 :: ws.flatMap encB from rfl,show (i + 1) * 2 = i * 2 + 1 + 1 by omega]
  simpa using h1
theorem GrowB.fin {B W:World} {v:Value} {ws:List (Int × Int)} {xs:List Value} (h:GrowB B W v ws xs):∃ A cap,v = .slice A ws.length cap∧RowB W A ws∧cap ≤ 9223372036854775807∧∀ g,A.map (·.block) = some g→B.heap.size ≤ g:=by
 obtain ⟨hxl,hr⟩:=h.own
 rcases hr with ⟨rfl,hn⟩ | ⟨g,cap,cur,rfl,hg,hrow,hnc,hcm,hcs,htk⟩
 ·refine ⟨none,0,by rw [hn],.inl ⟨rfl,List.length_eq_zero_iff.1 hn⟩,by omega,fun g hg=>by cases hg⟩
 ·refine ⟨some ⟨g,0,none⟩,cap,rfl,.inr ⟨g,rfl,(Array.getElem?_eq_some_iff.1 hrow).1,?_⟩,by unfold maxLen at hcm;omega,fun q hq=>by injection hq with hq;subst hq;exact hg⟩
  intro j hj
  rw [Go.Sort.size_flatK,List.size_toArray] at hj
  have hi:j / 2 < ws.length:=by omega
  obtain ⟨b,hb⟩:∃ b,ws[j / 2]? = some b:=⟨_,List.getElem?_eq_getElem hi⟩
  have hget:ws.toArray[j / 2]! = b:=by
   rw [getElem!_pos _ _ (by rw [List.size_toArray];exact hi),List.getElem_toArray]
   exact (List.getElem?_eq_some_iff.1 hb).2
  have hfl:(ws.flatMap encB)[j]? = some ((encB b)[j % 2]!):=by
   obtain ⟨f1,f2⟩:=flat_at ws _ b hb
   rcases Nat.mod_two_eq_zero_or_one j with e | e
   ·rw [e,show j = j / 2 * 2 by omega]
    exact (show (j / 2 * 2) / 2 = j / 2 by omega) ▸ f1
   ·rw [e]
    have:j = j / 2 * 2 + 1:=by omega
    rw [this]
    exact (show (j / 2 * 2 + 1) / 2 = j / 2 by omega) ▸ f2
  rw [Go.Sort.get_flatK _ _ _ _ (by rw [List.size_toArray];exact hj),hget]
  refine ⟨?_,by simp [World.frozen?,hrow]⟩
  rw [cell_of_row _ _ _ _ _ _ hrow,Nat.zero_add]
  have h1:(cur.toList.take (ws.length * 2))[j]? = cur.toList[j]?:=List.getElem?_take_of_lt hj
  rw [htk,h.eq,hfl] at h1
  rw [← Array.getElem?_toList,← h1]
  rfl
theorem blockInfoZ:(Tryz.prog.info? 59).map (fun i=>(i.zero,i.size,i.bytes)) = some (some (.agg #[.int .i64 0,.int .i64 0]),2,16):=by kernel_rfl
theorem srt_of_app {B W:World} {v:Value} {l:List Int} (h:AppI B W v l) (hl:0 < l.length):∃ g cap,v = .slice (some ⟨g,0,none⟩) l.length cap∧B.heap.size ≤ g∧g < W.heap.size∧l.length ≤ cap∧cap ≤ 9223372036854775807∧SrtI W g l W:=by
 obtain ⟨hxl,hr⟩:=h.own
 rcases hr with ⟨rfl,hn⟩ | ⟨g,cap,cur,rfl,hg,hrow,hnc,hcm,hcs,htk⟩
 ·omega
 ·refine ⟨g,cap,rfl,hg,(Array.getElem?_eq_some_iff.1 hrow).1,hnc,by unfold maxLen at hcm;omega,grown_refl _ _,cur,hrow,fun j x hj=>?_⟩
  have hjl:=(List.getElem?_eq_some_iff.1 hj).1
  have h1:(cur.toList.take (l.length * 1))[j]? = cur.toList[j]?:=List.getElem?_take_of_lt (by omega)
  rw [htk,List.getElem?_map,hj] at h1
  rw [← Array.getElem?_toList,← h1]
  rfl
end Go.Proofs.YtoeaglpmkjoenaaGreat
