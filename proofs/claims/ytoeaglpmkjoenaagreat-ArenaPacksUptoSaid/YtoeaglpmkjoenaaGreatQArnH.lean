/-
  Chapter 21: rows of bytes put in order by where they begin. No condition.
-/
/-
  Chapter 21: arena.hole. No condition.
-/
import Derived.Test.YtoeaglpmkjoenaaGreatQBase
import Derived.Test.YtoeaglpmkjoenaaGreatQGRows
import Derived.Test.YtoeaglpmkjoenaaGreatQSrtX
set_option linter.unusedSimpArgs false
set_option linter.unusedVariables false
namespace Go.Proofs.YtoeaglpmkjoenaaGreat
open Go.RowKit
open Rep (rep)
def cmpI (x y:Int):Int:=if x < y then -1 else if x > y then 1 else 0
def cmpB (a b:Int × Int):Int:=if cmpI a.1 b.1 = 0 then cmpI a.2 b.2 else cmpI a.1 b.1
def encB (x:Int × Int):List Value:=[.int .i64 x.1,.int .i64 x.2]
def ltB (x y:Int × Int):Bool:=decide (x.1 < y.1 ∨ (x.1 = y.1∧x.2 < y.2))
theorem lt_cmpB (x y:Int × Int):Go.Proofs.ltOf cmpB x y = ltB x y:=by
 unfold Go.Proofs.ltOf cmpB cmpI ltB
 by_cases h1:x.1 < y.1
 ·simp [h1]
 ·by_cases h2:y.1 < x.1
  ·have:¬ x.1 = y.1:=by omega
   simp [h1,h2,this]
  ·have e:x.1 = y.1:=by omega
   by_cases h3:x.2 < y.2
   ·simp [h1,h2,h3,e]
   ·by_cases h4:y.2 < x.2 <;> simp [h1,h2,h3,h4,e]
theorem swo_B:Go.Sort.SWO (Go.Proofs.ltOf cmpB) where
 irrefl x:=by rw [lt_cmpB];simp [ltB]
 trans x y z h1 h2:=by rw [lt_cmpB] at *;simp [ltB] at *;omega
 ntrans x y z h1 h2:=by rw [lt_cmpB] at *;simp [ltB] at *;omega
def srtB (l:List (Int × Int)):List (Int × Int):=l.mergeSort fun x y=>!(Go.Proofs.ltOf cmpB) y x
theorem inOrder_of {l:List (Int × Int)} (h:l.Pairwise fun a b=>a.1 ≤ b.1):InOrder l:=by
 induction l with
 | nil=>trivial
 | cons b l ih =>
  obtain ⟨h1,h2⟩:=List.pairwise_cons.1 h
  exact ⟨h1,ih h2⟩
theorem srtB_law (l:List (Int × Int)):(srtB l).Perm l∧InOrder (srtB l):=by
 refine ⟨List.mergeSort_perm _ _,inOrder_of ?_⟩
 have h:=List.pairwise_mergeSort (le:=fun x y:Int × Int=>!(Go.Proofs.ltOf cmpB) y x) (fun a b c h1 h2=>by simp [lt_cmpB,ltB] at *;omega) (fun a b=>by simp [lt_cmpB,ltB];omega) l
 refine List.Pairwise.imp ?_ h
 intro a b h
 simp [lt_cmpB,ltB] at h
 omega
set_option maxHeartbeats 1000000 in
theorem compare_any (x y:Int) (w:World):Calls Tryz.prog 16 #[.int .i64 x,.int .i64 y] w fun e w'=>e = .returned (.int .i64 (cmpI x y))∧w' = w:=by
 have hn:∀ (z:Int) (W:World),Calls Tryz.prog 33 #[.int .i64 z] W fun e w'=>e = .returned (.bool false)∧w' = W:=fun z W=>by
  go_enter Tryz.func33,Tryz.ntmps33
  go_wp2
  go_ret
  exact ⟨rfl,rfl⟩
 obtain ⟨r,hr⟩:∃ r,cmpI x y = r:=⟨_,rfl⟩
 rw [hr]
 have HR:=Lib.hid hr
 have HN:=Lib.hid hn
 clear hr hn
 unfold cmpI at HR
 by_cases h1:x < y
 ·have HRR:Hid (r = -1):=Lib.hid (by rw [← HR.out,if_pos h1])
  go_enter Tryz.func16,Tryz.ntmps16
  go_wp2_with (refine (HN.out _ _).mono ?_;rintro e w' ⟨rfl,rfl⟩)
  go_ret
  exact ⟨by rw [HRR.out];rfl,rfl⟩
 ·by_cases h2:x > y
  ·have HRR:Hid (r = 1):=Lib.hid (by rw [← HR.out,if_neg h1,if_pos h2])
   go_enter Tryz.func16,Tryz.ntmps16
   go_wp2_with (refine (HN.out _ _).mono ?_;rintro e w' ⟨rfl,rfl⟩)
   go_ret
   exact ⟨by rw [HRR.out];rfl,rfl⟩
  ·have HRR:Hid (r = 0):=Lib.hid (by rw [← HR.out,if_neg h1,if_neg h2])
   go_enter Tryz.func16,Tryz.ntmps16
   go_wp2_with (refine (HN.out _ _).mono ?_;rintro e w' ⟨rfl,rfl⟩)
   go_ret
   exact ⟨by rw [HRR.out];rfl,rfl⟩
set_option maxRecDepth 100000 in
set_option maxHeartbeats 4000000 in
theorem or_any (b:Nat) (x y:Int) (w:World) (h0:w.cell? ⟨b,0,none⟩ = some (.int .i64 x)) (h1:w.cell? ⟨b,1,none⟩ = some (.int .i64 y)):Calls Tryz.prog 39 #[.slice (some ⟨b,0,none⟩) 2 2] w fun e w'=>e = .returned (.int .i64 (if x = 0 then y else x))∧w' = w:=by
 have H:=Lib.hid (And.intro h0 h1)
 clear h0 h1
 obtain ⟨r,hr⟩:∃ r,(if x = 0 then y else x) = r:=⟨_,rfl⟩
 rw [hr]
 have HR:=Lib.hid hr
 clear hr
 go_enter Tryz.func39,Tryz.ntmps39
 go_wp2_with fail
 go_loop [8] (fun i=>∃ k:Nat,i = .int .i64 k∧k ≤ 2∧Hid ((0 < k→x = 0)∧(1 < k→y = 0))) (fun i=>2 - (intOf i).toNat)
 case atStart=>exact ⟨0,rfl,by omega,Lib.hid ⟨fun h=>by omega,fun h=>by omega⟩⟩
 case round =>
  obtain ⟨k,rfl,hk,HK⟩:=hrel
  by_cases k0:k = 0
  ·subst k0
   have c0:=H.out.1
   by_cases hx:x = 0
   ·have HX:=Lib.hid hx
    subst hx
    go_wp2
    go_round
    case rel=>exact ⟨1,rfl,by omega,Lib.hid ⟨fun _=>(by first | rfl | trivial),fun h=>by omega⟩⟩
    case measure=>simp [intOf]
   ·have hx':(x != 0) = true:=by simpa using hx
    have HRR:Hid (r = x):=Lib.hid (by rw [← HR.out,if_neg hx])
    go_wp2
    go_ret
    exact ⟨by rw [HRR.out];rfl,rfl⟩
  ·by_cases k1:k = 1
   ·subst k1
    have c1:=H.out.2
    have HX:=Lib.hid (HK.out.1 (by omega))
    by_cases hy:y = 0
    ·have HY:=Lib.hid hy
     subst hy
     go_wp2
     go_round
     case rel=>exact ⟨2,rfl,by omega,Lib.hid ⟨fun _=>HX.out,fun _=>(by first | rfl | trivial)⟩⟩
     case measure=>simp [intOf]
    ·have hy':(y != 0) = true:=by simpa using hy
     have HRR:Hid (r = y):=Lib.hid (by rw [← HR.out,if_pos HX.out])
     go_wp2
     go_ret
     exact ⟨by rw [HRR.out];rfl,rfl⟩
   ·obtain rfl:k = 2:=by omega
    have HRR:Hid (r = 0):=Lib.hid (by rw [← HR.out,if_pos (HK.out.1 (by omega))];exact HK.out.2 (by omega))
    go_wp2
    go_ret
    exact ⟨by rw [HRR.out];rfl,rfl⟩
def LaidB (W:World) (x y:Int × Int) (V:World):Prop:=∃ q os,V = Go.Sort.grow (W.drewN q) (#[.cells (encB x).toArray 59,.cells (encB y).toArray 59]++os)
section
variable {W V:World} {x y:Int × Int}
theorem LaidB.start:LaidB W x y (((W.alloc (.cells (encB x).toArray 59)).alloc (.cells (encB y).toArray 59)).drew) :=
 ⟨1,#[],by rw [Go.Sort.alloc_eq_grow,Go.Sort.alloc_eq_grow,Go.Sort.grow_grow,Go.Sort.drew_grow];rfl⟩
theorem LaidB.alloc (h:LaidB W x y V) (o:Obj):LaidB W x y (V.alloc o):=by
 obtain ⟨q,os,rfl⟩:=h
 exact ⟨q,os++#[o],by rw [Go.Sort.alloc_eq_grow,Go.Sort.grow_grow,Array.append_assoc]⟩
theorem LaidB.one (h:LaidB W x y V):V.heap[W.heap.size]? = some (.cells (encB x).toArray 59):=by
 obtain ⟨q,os,rfl⟩:=h
 show (W.heap++(#[Obj.cells (encB x).toArray 59 (0,0),Obj.cells (encB y).toArray 59 (0,0)]++os))[W.heap.size]? = _
 rw [Array.getElem?_append_right (Nat.le_refl _),Nat.sub_self]
 exact (Array.getElem?_append_left (show 0 < 2 by decide)).trans rfl
theorem LaidB.two (h:LaidB W x y V):V.heap[W.heap.size + 1]? = some (.cells (encB y).toArray 59):=by
 obtain ⟨q,os,rfl⟩:=h
 show (W.heap++(#[Obj.cells (encB x).toArray 59 (0,0),Obj.cells (encB y).toArray 59 (0,0)]++os))[W.heap.size + 1]? = _
 rw [Array.getElem?_append_right (by omega),show W.heap.size + 1 - W.heap.size = 1 by omega]
 exact (Array.getElem?_append_left (show 1 < 2 by decide)).trans rfl
theorem LaidB.c00 (h:LaidB W x y V):V.cell? ⟨W.heap.size,0,none⟩ = some (.int .i64 x.1):=by rw [cell_of_row _ _ _ _ _ _ h.one];rfl
theorem LaidB.c01 (h:LaidB W x y V):V.cell? ⟨W.heap.size,1,none⟩ = some (.int .i64 x.2):=by rw [cell_of_row _ _ _ _ _ _ h.one];rfl
theorem LaidB.c10 (h:LaidB W x y V):V.cell? ⟨W.heap.size + 1,0,none⟩ = some (.int .i64 y.1):=by rw [cell_of_row _ _ _ _ _ _ h.two];rfl
theorem LaidB.c11 (h:LaidB W x y V):V.cell? ⟨W.heap.size + 1,1,none⟩ = some (.int .i64 y.2):=by rw [cell_of_row _ _ _ _ _ _ h.two];rfl
end
set_option maxRecDepth 100000 in
set_option maxHeartbeats 8000000 in
theorem closureB_any (x y:Int × Int) (W:World):Calls Tryz.prog 38 #[.agg (encB x).toArray,.agg (encB y).toArray] W fun e w'=>e = .returned (.int .i64 (cmpB x y))∧∃ q os',w' = Go.Sort.grow (W.drewN q) os':=by
 obtain ⟨r,hr⟩:∃ r,cmpB x y = r:=⟨_,rfl⟩
 rw [hr]
 have HR:=Lib.hid hr
 clear hr
 unfold encB
 go_enter Tryz.func38,Tryz.ntmps38
 go_upto_region 1 with (fail)
 refine wp_region_held_drew (S:=LaidB W x y) (by kernel_rfl) LaidB.start (fun hHeld=>?_)
 generalize World.drew _ = V0 at hHeld ⊢
 refine tk0 0 (some 5) (v:=.pointer (some ⟨W.heap.size,0,none⟩)) rfl hHeld ?_
 refine tk9 1 (some 6) (v:=.int .i64 x.1) rfl (yields_load_one9 (by kernel_rfl) _ _ rfl (W.heap.size) (0) (by kernel_rfl) _ _ Tryz.underlying3 rfl (fun _ h=>h.c00)) hHeld ?_
 refine tk0 2 (some 7) (v:=.pointer (some ⟨(W.heap.size + 1),0,none⟩)) rfl hHeld ?_
 refine tk9 3 (some 8) (v:=.int .i64 y.1) rfl (yields_load_one9 (by kernel_rfl) _ _ rfl ((W.heap.size + 1)) (0) (by kernel_rfl) _ _ Tryz.underlying3 rfl (fun _ h=>h.c10)) hHeld ?_
 refine tk0 5 (some 10) (v:=.pointer (some ⟨W.heap.size,1,none⟩)) rfl hHeld ?_
 refine tk9 6 (some 11) (v:=.int .i64 x.2) rfl (yields_load_one9 (by kernel_rfl) _ _ rfl (W.heap.size) (1) (by kernel_rfl) _ _ Tryz.underlying3 rfl (fun _ h=>h.c01)) hHeld ?_
 refine tk0 7 (some 12) (v:=.pointer (some ⟨(W.heap.size + 1),1,none⟩)) rfl hHeld ?_
 refine tk9 8 (some 13) (v:=.int .i64 y.2) rfl (yields_load_one9 (by kernel_rfl) _ _ rfl ((W.heap.size + 1)) (1) (by kernel_rfl) _ _ Tryz.underlying3 rfl (fun _ h=>h.c11)) hHeld ?_
 refine call_d9 4 (some 9) rfl (by kernel_rfl) (by kernel_rfl) (by kernel_rfl) 16 _ _ rfl #[.int .i64 x.1,.int .i64 y.1] (by kernel_rfl) (fun w=>by kernel_rfl) ?_
 refine (compare_any x.1 y.1 V0).mono ?_
 rintro e V1 ⟨rfl,rfl⟩
 refine ⟨_,rfl,hHeld,?_⟩
 refine call_d9 9 (some 14) rfl (by kernel_rfl) (by kernel_rfl) (by kernel_rfl) 16 _ _ rfl #[.int .i64 x.2,.int .i64 y.2] (by kernel_rfl) (fun w=>by kernel_rfl) ?_
 refine (compare_any x.2 y.2 V1).mono ?_
 rintro e V2 ⟨rfl,rfl⟩
 refine ⟨_,rfl,hHeld,?_⟩
 refine oneLay 10 (some 15) rfl rfl (by kernel_rfl) (by kernel_rfl) (.slice (some ⟨V2.heap.size,0,none⟩) 2 2) [.cells #[.int .i64 (cmpI x.1 y.1),.int .i64 (cmpI x.2 y.2)] 3] (by kernel_rfl) (hHeld.alloc _) ?_
 have hnew:=heap_alloc_new V2 (.cells #[.int .i64 (cmpI x.1 y.1),.int .i64 (cmpI x.2 y.2)] 3)
 replace hHeld:=hHeld.alloc (.cells #[.int .i64 (cmpI x.1 y.1),.int .i64 (cmpI x.2 y.2)] 3)
 change wpAnyH _ _ _ _ _ _ _ _ (V2.alloc _)
 obtain ⟨V3,hV3⟩:∃ V3,V2.alloc (.cells #[.int .i64 (cmpI x.1 y.1),.int .i64 (cmpI x.2 y.2)] 3) = V3:=⟨_,rfl⟩
 rw [hV3] at hnew hHeld ⊢
 clear hV3
 have hor:=or_any V2.heap.size (cmpI x.1 y.1) (cmpI x.2 y.2) V3 (by rw [cell_of_row _ _ _ _ _ _ hnew];rfl) (by rw [cell_of_row _ _ _ _ _ _ hnew];rfl)
 rw [show (if cmpI x.1 y.1 = 0 then cmpI x.2 y.2 else cmpI x.1 y.1) = r from HR.out] at hor
 refine call_d9 11 (some 16) rfl (by kernel_rfl) (by kernel_rfl) (by kernel_rfl) 39 _ _ rfl #[.slice (some ⟨V2.heap.size,0,none⟩) 2 2] (by kernel_rfl) (fun w=>by kernel_rfl) ?_
 refine (hor).mono ?_
 rintro e V4 ⟨rfl,rfl⟩
 refine ⟨_,rfl,hHeld,?_⟩
 refine tk0 12 (some 4) (v:=.int .i64 r) rfl hHeld ?_
 refine wpAnyH_done (by kernel_rfl) ?_ _
 have HX:=Lib.hid hHeld
 clear hHeld
 simp [Act.put]
 go_wp2
 go_ret
 obtain ⟨q,os,e⟩:=HX.out
 exact ⟨rfl,q,_,e⟩
theorem sortB_any (g cap:Nat) (d:Array (Int × Int)) (w:World) (hH:Go.Sort.HoldsK encB 2 w g 0 d) (hg:g < w.heap.size) (hd:d.size < 4611686018427387904) :
  Calls Tryz.prog 37 #[.slice (some ⟨g,0,none⟩) d.size cap,.func (.func 38) #[] #[]] w fun e w'=>e = .returned (.tuple #[])∧∃ n os,w' = sortWorldK encB 2 w g 0 n (srtB d.toList).toArray os:=by
 have eg:∀ args w,(callFunc 38 args).run Tryz.prog w = .ok (.enter 38 args) w:=enters_of Tryz.func38 (by kernel_rfl) rfl
 have h:=Go.Proofs.AnyQ.slices_SortFunc_total sortB 2 Tryz.isAgg59 Tryz.sizeOf59 encB (fun _=>rfl) (fun x v hv=>by simp [encB] at hv;rcases hv with rfl | rfl <;> rfl) cmpB swo_B 38 #[] g 0 cap d w eg (fun _ _ _ _ x y=>closureB_any x y _) hH hg hd (fun x y h1 h2=>by
  rw [lt_cmpB] at h1 h2
  simp [ltB] at h1 h2
  exact Prod.ext (by omega) (by omega))
 exact h
theorem sortB_none (p:Option Addr) (cap:Nat) (fv:Value) (w:World):Calls Tryz.prog 37 #[.slice p 0 cap,fv] w fun e w'=>e = .returned (.tuple #[])∧w' = w :=
 Go.Proofs.AnyF.slices_SortFunc_none sortB p cap fv w
end Go.Proofs.YtoeaglpmkjoenaaGreat
set_option linter.unusedSimpArgs false
set_option linter.unusedVariables false
namespace Go.Proofs.YtoeaglpmkjoenaaGreat
open Go.RowKit
open Rep (rep)
def RowB (w:World) (A:Option Addr) (ws:List (Int × Int)):Prop:=(A = none∧ws = []) ∨ ∃ g,A = some ⟨g,0,none⟩∧g < w.heap.size∧Go.Sort.HoldsK encB 2 w g 0 ws.toArray
structure HolV (w:World) (A:Option Addr) (ds:List (Int × Int)) (W:World):Prop where
 fr:w.grownBy W (A.map (·.block))
 el:∀ (j:Nat) (b:Int × Int),ds[j]? = some b→∃ g,A = some ⟨g,0,none⟩∧g < w.heap.size∧At W g (j * 2) (encB b)
theorem HolV.next {w W W':World} {A:Option Addr} {ds:List (Int × Int)} (h:HolV w A ds W) (hb:Below W.heap.size W W'):HolV w A ds W':=by
 refine ⟨grown_below h.fr hb,fun j b hj=>?_⟩
 obtain ⟨g,h1,h2,h3⟩:=h.el j b hj
 exact ⟨g,h1,h2,fun i u hu=>(hb.cell (p:=⟨g,j * 2 + i,none⟩) (Nat.lt_of_lt_of_le h2 h.fr.size)).trans (h3 i u hu)⟩
theorem grown_refl (w:World) (row:Option Nat):w.grownBy w row:=⟨rfl,rfl,rfl,Nat.le_refl _,fun _ _ _=>rfl⟩
theorem sorted_grown (w:World) (g n:Nat) (d:Array (Int × Int)) (os:Array Obj):w.grownBy (sortWorldK encB 2 w g 0 n d os) (some g):=by
 refine ⟨rfl,rfl,rfl,size_sortWorldK_c encB 2 w g 0 n d os,fun k hk hne=>?_⟩
 have hkg:¬ g = k:=fun e=>hne (by rw [e])
 unfold sortWorldK Go.Sort.putRowK Go.Sort.putRow
 rw [Go.Sort.heap_grow_old _ _ (by simpa [Go.Sort.mapBlock,Go.Sort.ahead] using hk)]
 simp [Go.Sort.mapBlock,Go.Sort.ahead,Array.getElem?_modify,hkg]
theorem sortV_any (A:Option Addr) (n cap:Nat) (ws:List (Int × Int)) (w:World) (hn:ws.length = n) (hr:RowB w A ws) (hl:n ≤ 4096) :
  Calls Tryz.prog 37 #[.slice A n cap,.func (.func 38) #[] #[]] w fun e w'=>e = .returned (.tuple #[])∧HolV w A (srtB ws) w':=by
 rcases hr with ⟨rfl,rfl⟩ | ⟨g,rfl,hg,hH⟩
 ·subst hn
  refine (sortB_none none cap _ w).mono ?_
  rintro e w' ⟨rfl,rfl⟩
  refine ⟨rfl,grown_refl _ _,fun j b hj=>?_⟩
  have:(srtB []).length = 0:=(srtB_law []).1.length_eq
  have:=(List.getElem?_eq_some_iff.1 hj).1
  omega
 ·have h:=sortB_any g cap ws.toArray w hH hg (by rw [List.size_toArray];omega)
  rw [List.size_toArray,hn] at h
  refine h.mono ?_
  rintro e w' ⟨rfl,m,os,rfl⟩
  refine ⟨rfl,sorted_grown _ _ _ _ _,fun j b hj=>⟨g,rfl,hg,?_⟩⟩
  have hsz:(srtB ws).toArray.size = ws.toArray.size:=by rw [List.size_toArray,List.size_toArray,(srtB_law ws).1.length_eq]
  have hK:=holdsK_sortWorldK_c encB 2 w g 0 ws.toArray (srtB ws).toArray m os hH hg hsz
  have hjl:=(List.getElem?_eq_some_iff.1 hj).1
  have hget:(srtB ws).toArray[j]! = b:=by
   rw [getElem!_pos _ j (by rw [List.size_toArray];exact hjl),List.getElem_toArray]
   exact (List.getElem?_eq_some_iff.1 hj).2
  intro i u hu
  have hi:i < 2:=(List.getElem?_eq_some_iff.1 hu).1
  have hc:=(hK.cell (i:=j) (c:=i) (by rw [List.size_toArray];exact hjl) hi).1
  rw [hget,Nat.zero_add] at hc
  rw [hc]
  match i,hi,hu with
  | 0,_,hu=>exact hu
  | 1,_,hu=>exact hu
theorem endD_app (ws:List (Int × Int)) (b:Int × Int) (e:Int):endD (ws++[b]) e = max (endD ws e) b.2:=by
 unfold endD;rw [List.foldl_append];rfl
theorem take_app {α:Type} {l:List α} {k:Nat} {x:α} (h:l[k]? = some x):l.take (k + 1) = l.take k++[x]:=by
 rw [List.take_add_one,h];rfl
theorem drop_at {α:Type} {l:List α} {k:Nat} {x:α} (h:l[k]? = some x):l.drop k = x :: l.drop (k + 1):=by
 rw [List.getElem?_eq_some_iff] at h
 obtain ⟨h1,h2⟩:=h
 rw [List.drop_eq_getElem_cons h1,h2]
set_option maxRecDepth 100000 in
set_option maxHeartbeats 8000000 in
theorem hole_any (A:Option Addr) (n cap:Nat) (ws:List (Int × Int)) (sz:Int) (w:World) (hn:ws.length = n) (hr:RowB w A ws) (hl:n ≤ 4096) (hcap:cap ≤ 9223372036854775807) (hb:∀ b ∈ ws,0 ≤ b.1∧b.1 ≤ 1099511627776∧0 ≤ b.2∧b.2 ≤ 1099511627776) (hs0:0 < sz) (hs1:sz ≤ 1099511627776) :
  Calls Tryz.prog 18 #[.slice A n cap,.int .i64 sz] w fun e w'=>e = .returned (.int .i64 (holeD (srtB ws) sz))∧w.grownBy w' (A.map (·.block)):=by
 obtain ⟨ds,hds⟩:∃ ds,srtB ws = ds:=⟨_,rfl⟩
 have hperm:=(srtB_law ws).1
 have hcall:=sortV_any A n cap ws w hn hr hl
 rw [hds] at hperm hcall ⊢
 have HCALL:=Lib.hid hcall
 have HLEN:=Lib.hid (show ds.length = n by rw [hperm.length_eq,hn])
 have HBD:Hid (∀ b ∈ ds,0 ≤ b.1∧b.1 ≤ 1099511627776∧0 ≤ b.2∧b.2 ≤ 1099511627776):=Lib.hid fun b h=>hb b (hperm.mem_iff.1 h)
 have HSZ:Hid ((Tryz.prog.info? 59).map (·.size) = some 2):=Lib.hid (by kernel_rfl)
 obtain ⟨r,hr0⟩:∃ r,scanD sz ds (-1) 0 0 = r:=⟨_,rfl⟩
 have HR:=Lib.hid hr0
 clear hds hperm hcall hr hb hn hr0
 go_enter Tryz.func18,Tryz.ntmps18
 go_wp2_with fail
 go_step3
 go_wp2_with fail
 refine HCALL.out.mono ?_
 rintro e w1 ⟨rfl,h1⟩
 have HX:=Lib.hid h1
 clear h1 HCALL
 go_wp2_with fail
 go_step3
 go_wp2_with fail
 go_loopw [5,6,7,17] (fun x y z i wr=>∃ (bb rr e:Int) (k:Nat),x = .int .i64 bb∧y = .int .i64 rr∧z = .int .i64 e∧i = .int .i64 k∧k ≤ n∧-1 ≤ bb∧bb ≤ 1099511627776∧0 ≤ rr∧rr ≤ 1099511627776∧0 ≤ e∧e ≤ 1099511627776∧Hid (scanD sz (ds.drop k) bb rr e = r∧e = endD (ds.take k) 0∧HolV w A ds wr)) (fun _ _ _ i _=>n - (intOf i).toNat)
 case atStart=>exact ⟨-1,0,0,0,rfl,rfl,rfl,rfl,Nat.zero_le _,by omega,by omega,by omega,by omega,by omega,by omega,Lib.hid ⟨HR.out,rfl,HX.out⟩⟩
 case round =>
  clear HX
  obtain ⟨bb,rr,e,k,rfl,rfl,rfl,rfl,hk,p1,p2,p3,p4,p5,p6,HS⟩:=hrel
  obtain ⟨wx,rfl⟩:∃ wx,wx = wr:=⟨_,rfl⟩
  have hk0:(0:Int) ≤ (k:Int):=Int.natCast_nonneg _
  by_cases hlt:k < n
  ·have hlt':(k:Int) < (n:Int):=by omega
   obtain ⟨⟨bx,b2⟩,hbk⟩:∃ b,ds[k]? = some b:=⟨_,List.getElem?_eq_getElem (by rw [HLEN.out];exact hlt)⟩
   obtain ⟨g,rfl,hg,hat⟩:=HS.out.2.2.el k _ hbk
   obtain ⟨q1,q2,q3,q4⟩:=HBD.out _ (List.mem_of_getElem? hbk)
   dsimp only at q1 q2 q3 q4
   have kx:wx.cell? ⟨g,k * 2,none⟩ = some (.int .i64 bx):=hat 0 _ rfl
   have ky:wx.cell? ⟨g,k * 2 + 1,none⟩ = some (.int .i64 b2):=hat 1 _ rfl
   have hstep:=HS.out.1
   rw [drop_at hbk,scanD] at hstep
   have HST:=Lib.hid hstep
   have HEN:=Lib.hid (show endD (ds.take (k + 1)) 0 = max e b2 by rw [take_app hbk,endD_app,← HS.out.2.1])
   clear hstep hbk hat hg
   by_cases h1:bx - e ≥ sz
   ·have h2:bx - e > 0:=by omega
    by_cases h3:bb < 0
    ·skip
     by_cases h6:bx - e = sz
     ·have h6':(bx - e == sz) = true:=by simpa using h6
      have HRES:Hid (holeD ds sz = e):=Lib.hid (by
       have h:=HST.out
       rw [if_pos ⟨h1,h2,.inl h3⟩,if_pos h6] at h
       unfold holeD
       rw [HR.out,← h,if_pos p5])
      go_wp2
      (try rw [Exit.noGoto_ret])
      go_ret
      exact ⟨by rw [HRES.out];rfl,(HS.out.2.2.next ((Below.refl _ _).alloc (Nat.le_refl _) _)).fr⟩
     ·have h6':(bx - e == sz) = false:=by simpa using h6
      have HN:Hid (scanD sz (ds.drop (k + 1)) e (bx - e) (max e b2) = r):=Lib.hid (by have h:=HST.out;rw [if_pos ⟨h1,h2,.inl h3⟩,if_neg h6] at h;exact h)
      go_wp2
      go_roundw
      case rel=>exact ⟨e,(bx - e),max e b2,k + 1,rfl,rfl,rfl,by go_num,by omega,by omega,by omega,by omega,by omega,by omega,by omega,Lib.hid ⟨HN.out,HEN.out.symm,HS.out.2.2.next ((Below.refl _ _).alloc (Nat.le_refl _) _)⟩⟩
      case measure=>simp [intOf];omega
    ·by_cases h4:bx - e < rr
     ·skip
      by_cases h6:bx - e = sz
      ·have h6':(bx - e == sz) = true:=by simpa using h6
       have HRES:Hid (holeD ds sz = e):=Lib.hid (by
        have h:=HST.out
        rw [if_pos ⟨h1,h2,.inr h4⟩,if_pos h6] at h
        unfold holeD
        rw [HR.out,← h,if_pos p5])
       go_wp2
       (try rw [Exit.noGoto_ret])
       go_ret
       exact ⟨by rw [HRES.out];rfl,(HS.out.2.2.next ((Below.refl _ _).alloc (Nat.le_refl _) _)).fr⟩
      ·have h6':(bx - e == sz) = false:=by simpa using h6
       have HN:Hid (scanD sz (ds.drop (k + 1)) e (bx - e) (max e b2) = r):=Lib.hid (by have h:=HST.out;rw [if_pos ⟨h1,h2,.inr h4⟩,if_neg h6] at h;exact h)
       go_wp2
       go_roundw
       case rel=>exact ⟨e,(bx - e),max e b2,k + 1,rfl,rfl,rfl,by go_num,by omega,by omega,by omega,by omega,by omega,by omega,by omega,Lib.hid ⟨HN.out,HEN.out.symm,HS.out.2.2.next ((Below.refl _ _).alloc (Nat.le_refl _) _)⟩⟩
       case measure=>simp [intOf];omega
     ·skip
      have HN:Hid (scanD sz (ds.drop (k + 1)) bb rr (max e b2) = r):=Lib.hid (by have h:=HST.out;rw [if_neg (fun h=>h.2.2.elim h3 h4)] at h;exact h)
      go_wp2
      go_roundw
      case rel=>exact ⟨bb,rr,max e b2,k + 1,rfl,rfl,rfl,by go_num,by omega,by omega,by omega,by omega,by omega,by omega,by omega,Lib.hid ⟨HN.out,HEN.out.symm,HS.out.2.2.next ((Below.refl _ _).alloc (Nat.le_refl _) _)⟩⟩
      case measure=>simp [intOf];omega
   ·skip
    have HN:Hid (scanD sz (ds.drop (k + 1)) bb rr (max e b2) = r):=Lib.hid (by have h:=HST.out;rw [if_neg (fun h=>h1 h.1)] at h;exact h)
    go_wp2
    go_roundw
    case rel=>exact ⟨bb,rr,max e b2,k + 1,rfl,rfl,rfl,by go_num,by omega,by omega,by omega,by omega,by omega,by omega,by omega,Lib.hid ⟨HN.out,HEN.out.symm,HS.out.2.2.next ((Below.refl _ _).alloc (Nat.le_refl _) _)⟩⟩
    case measure=>simp [intOf];omega
  ·have hlt':¬ (k:Int) < (n:Int):=by omega
   have HF:Hid (bb = r∧e = endD ds 0):=Lib.hid (by
    have h1:=HS.out.1
    have h2:=HS.out.2.1
    rw [List.drop_of_length_le (by rw [HLEN.out];omega)] at h1
    rw [List.take_of_length_le (by rw [HLEN.out];omega)] at h2
    exact ⟨h1,h2⟩)
   by_cases h0:bb ≥ 0
   ·have HRES:Hid (holeD ds sz = bb):=Lib.hid (by unfold holeD;rw [HR.out,← HF.out.1,if_pos h0])
    go_wp2
    (try rw [Exit.noGoto_ret])
    go_ret
    exact ⟨by rw [HRES.out];rfl,HS.out.2.2.fr⟩
   ·have HRES:Hid (holeD ds sz = e):=Lib.hid (by unfold holeD;rw [HR.out,← HF.out.1,if_neg h0,HF.out.2])
    have HGE:Hid (∀ b ∈ ds,b.2 ≤ e):=Lib.hid (by rw [HF.out.2];exact (endD_ge ds 0).2)
    have HX:=Lib.hid HS.out.2.2
    clear HS HF hk p1 p2 p3 p4 hk0
    go_wp2_with fail
    go_loopw [7,56] (fun z i wr=>∃ k:Nat,z = .int .i64 e∧i = .int .i64 k∧k ≤ n∧Hid (HolV w A ds wr)) (fun _ i _=>n - (intOf i).toNat)
    case atStart=>exact ⟨0,rfl,rfl,Nat.zero_le _,HX⟩
    case round =>
     clear HX
     obtain ⟨k,rfl,rfl,hk,HS⟩:=hrel
     obtain ⟨wy,rfl⟩:∃ wy,wy = wr:=⟨_,rfl⟩
     have hk0:(0:Int) ≤ (k:Int):=Int.natCast_nonneg _
     by_cases hlt:k < n
     ·have hlt':(k:Int) < (n:Int):=by omega
      obtain ⟨⟨bx,b2⟩,hbk⟩:∃ b,ds[k]? = some b:=⟨_,List.getElem?_eq_getElem (by rw [HLEN.out];exact hlt)⟩
      obtain ⟨g,rfl,hg,hat⟩:=HS.out.el k _ hbk
      obtain ⟨q1,q2,q3,q4⟩:=HBD.out _ (List.mem_of_getElem? hbk)
      have hge:=HGE.out _ (List.mem_of_getElem? hbk)
      dsimp only at q1 q2 q3 q4 hge
      have kx:wy.cell? ⟨g,k * 2,none⟩ = some (.int .i64 bx):=hat 0 _ rfl
      have ky:wy.cell? ⟨g,k * 2 + 1,none⟩ = some (.int .i64 b2):=hat 1 _ rfl
      have hmx:max e b2 = e:=by omega
      clear hbk hat hg
      go_wp2
      go_roundw
      case rel=>exact ⟨k + 1,rfl,by go_num,by omega,Lib.hid (HS.out.next ((Below.refl _ _).alloc (Nat.le_refl _) _))⟩
      case measure=>simp [intOf];omega
     ·have hlt':¬ (k:Int) < (n:Int):=by omega
      go_wp2
      (try rw [Exit.noGoto_ret])
      go_ret
      exact ⟨by rw [HRES.out];rfl,HS.out.fr⟩
end Go.Proofs.YtoeaglpmkjoenaaGreat
