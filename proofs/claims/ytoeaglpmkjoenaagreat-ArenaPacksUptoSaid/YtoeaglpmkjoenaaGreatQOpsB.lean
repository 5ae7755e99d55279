/-
  The table of operators, as data.
-/
/-
  Runs that only reckon and lay new blocks, reckoned by the kernel: a computable reading of operations, codes and calls, and that the run is what it says.
-/
/-
  A part of the proofs of chapter 08: walks of the package ops. No condition.
  A part of the proofs of chapter 08: walks of the package ops. No condition.
  A part of the proofs of chapter 08: walks of the package ops. No condition.
  A part of the proofs of chapter 08: walks of the package ops. No condition.
  A part of the proofs of chapter 08: walks of the package ops. No condition.
-/
import Derived.Test.YtoeaglpmkjoenaaGreatQBase
import Derived.Test.YtoeaglpmkjoenaaGreatRows
namespace Go.Proofs.YtoeaglpmkjoenaaGreat
open Go.RowKit
open Rep (rep)
structure RowD where
 name:ByteArray
 least:Int
 most:Int
 out:Int
 mostOuts:Int
 attrs:ByteArray
def RowD.cells (r:RowD):List Value:=[.string r.name,.int .i64 r.least,.int .i64 r.most,.int .i64 r.out,.int .i64 r.mostOuts,.string r.attrs]
theorem RowD.cells_len (r:RowD):r.cells.length = 6:=rfl
theorem RowD.one (r:RowD):∀ u ∈ r.cells,u.oneCell' = true:=by
 intro u hu;simp [RowD.cells] at hu;rcases hu with rfl | rfl | rfl | rfl | rfl | rfl <;> rfl
instance:Rep RowD where
 size:=6
 bytes:=64
 rep _ _ cs r:=cs = r.cells
 len:=by rintro w Z cs a rfl;rfl
 one:=by rintro w Z cs a rfl;exact a.one
 keep:=fun h _=>h
 more:=fun h _=>h
def eachD:List RowD:=[
 ⟨⟨#[65,98,115]⟩,1,1,1,1,⟨#[]⟩⟩,
 ⟨⟨#[78,101,103]⟩,1,1,1,1,⟨#[]⟩⟩,
 ⟨⟨#[83,105,103,110]⟩,1,1,1,1,⟨#[]⟩⟩,
 ⟨⟨#[70,108,111,111,114]⟩,1,1,1,1,⟨#[]⟩⟩,
 ⟨⟨#[67,101,105,108]⟩,1,1,1,1,⟨#[]⟩⟩,
 ⟨⟨#[82,111,117,110,100]⟩,1,1,1,1,⟨#[]⟩⟩,
 ⟨⟨#[83,113,114,116]⟩,1,1,1,1,⟨#[]⟩⟩,
 ⟨⟨#[82,101,99,105,112,114,111,99,97,108]⟩,1,1,1,1,⟨#[]⟩⟩,
 ⟨⟨#[69,120,112]⟩,1,1,1,1,⟨#[]⟩⟩,
 ⟨⟨#[76,111,103]⟩,1,1,1,1,⟨#[]⟩⟩,
 ⟨⟨#[83,105,110]⟩,1,1,1,1,⟨#[]⟩⟩,
 ⟨⟨#[67,111,115]⟩,1,1,1,1,⟨#[]⟩⟩,
 ⟨⟨#[84,97,110,104]⟩,1,1,1,1,⟨#[]⟩⟩,
 ⟨⟨#[69,114,102]⟩,1,1,1,1,⟨#[]⟩⟩,
 ⟨⟨#[83,105,103,109,111,105,100]⟩,1,1,1,1,⟨#[]⟩⟩,
 ⟨⟨#[82,101,108,117]⟩,1,1,1,1,⟨#[]⟩⟩,
 ⟨⟨#[76,101,97,107,121,82,101,108,117]⟩,1,1,1,1,⟨#[97,108,112,104,97,32,102]⟩⟩,
 ⟨⟨#[69,108,117]⟩,1,1,1,1,⟨#[97,108,112,104,97,32,102]⟩⟩,
 ⟨⟨#[72,97,114,100,83,105,103,109,111,105,100]⟩,1,1,1,1,⟨#[97,108,112,104,97,32,102,32,98,101,116,97,32,102]⟩⟩,
 ⟨⟨#[83,111,102,116,112,108,117,115]⟩,1,1,1,1,⟨#[]⟩⟩,
 ⟨⟨#[73,100,101,110,116,105,116,121]⟩,1,1,1,1,⟨#[]⟩⟩,
 ⟨⟨#[78,111,116]⟩,1,1,1,1,⟨#[]⟩⟩,
 ⟨⟨#[65,110,100]⟩,2,2,1,1,⟨#[]⟩⟩,
 ⟨⟨#[79,114]⟩,2,2,1,1,⟨#[]⟩⟩,
 ⟨⟨#[88,111,114]⟩,2,2,1,1,⟨#[]⟩⟩,
 ⟨⟨#[73,115,78,97,78]⟩,1,1,1,1,⟨#[]⟩⟩,
 ⟨⟨#[73,115,73,110,102]⟩,1,1,1,1,⟨#[100,101,116,101,99,116,95,110,101,103,97,116,105,118,101,32,98,32,100,101,116,101,99,116,95,112,111,115,105,116,105,118,101,32,98]⟩⟩,
 ⟨⟨#[65,100,100]⟩,2,2,1,1,⟨#[]⟩⟩,
 ⟨⟨#[83,117,98]⟩,2,2,1,1,⟨#[]⟩⟩,
 ⟨⟨#[77,117,108]⟩,2,2,1,1,⟨#[]⟩⟩,
 ⟨⟨#[68,105,118]⟩,2,2,1,1,⟨#[]⟩⟩,
 ⟨⟨#[77,111,100]⟩,2,2,1,1,⟨#[102,109,111,100,32,98]⟩⟩,
 ⟨⟨#[80,111,119]⟩,2,2,1,1,⟨#[]⟩⟩,
 ⟨⟨#[77,105,110]⟩,2,2,1,1,⟨#[]⟩⟩,
 ⟨⟨#[77,97,120]⟩,2,2,1,1,⟨#[]⟩⟩,
 ⟨⟨#[80,82,101,108,117]⟩,2,2,1,1,⟨#[]⟩⟩,
 ⟨⟨#[69,113,117,97,108]⟩,2,2,1,1,⟨#[]⟩⟩,
 ⟨⟨#[76,101,115,115]⟩,2,2,1,1,⟨#[]⟩⟩,
 ⟨⟨#[76,101,115,115,79,114,69,113,117,97,108]⟩,2,2,1,1,⟨#[]⟩⟩,
 ⟨⟨#[71,114,101,97,116,101,114]⟩,2,2,1,1,⟨#[]⟩⟩,
 ⟨⟨#[71,114,101,97,116,101,114,79,114,69,113,117,97,108]⟩,2,2,1,1,⟨#[]⟩⟩,
 ⟨⟨#[87,104,101,114,101]⟩,3,3,1,1,⟨#[]⟩⟩,
 ⟨⟨#[67,108,105,112]⟩,1,3,1,1,⟨#[]⟩⟩,
 ⟨⟨#[67,97,115,116]⟩,1,1,1,1,⟨#[116,111,32,121,33]⟩⟩]
def movesD:List RowD:=[
 ⟨⟨#[84,114,97,110,115,112,111,115,101]⟩,1,1,1,1,⟨#[112,101,114,109,32,112]⟩⟩,
 ⟨⟨#[82,101,115,104,97,112,101]⟩,2,2,1,1,⟨#[97,108,108,111,119,122,101,114,111,32,98]⟩⟩,
 ⟨⟨#[67,111,110,99,97,116]⟩,1,64,1,1,⟨#[97,120,105,115,32,97,33]⟩⟩,
 ⟨⟨#[83,112,108,105,116]⟩,1,2,1,64,⟨#[97,120,105,115,32,97]⟩⟩,
 ⟨⟨#[83,108,105,99,101]⟩,3,5,1,1,⟨#[]⟩⟩,
 ⟨⟨#[71,97,116,104,101,114]⟩,2,2,1,1,⟨#[97,120,105,115,32,97]⟩⟩,
 ⟨⟨#[71,97,116,104,101,114,69,108,101,109,101,110,116,115]⟩,2,2,1,1,⟨#[97,120,105,115,32,97]⟩⟩,
 ⟨⟨#[83,99,97,116,116,101,114,69,108,101,109,101,110,116,115]⟩,3,3,1,1,⟨#[97,120,105,115,32,97,32,114,101,100,117,99,116,105,111,110,32,116]⟩⟩,
 ⟨⟨#[80,97,100]⟩,2,3,1,1,⟨#[109,111,100,101,32,116]⟩⟩,
 ⟨⟨#[84,105,108,101]⟩,2,2,1,1,⟨#[]⟩⟩,
 ⟨⟨#[69,120,112,97,110,100]⟩,2,2,1,1,⟨#[]⟩⟩,
 ⟨⟨#[83,113,117,101,101,122,101]⟩,1,2,1,1,⟨#[]⟩⟩,
 ⟨⟨#[85,110,115,113,117,101,101,122,101]⟩,2,2,1,1,⟨#[]⟩⟩,
 ⟨⟨#[70,108,97,116,116,101,110]⟩,1,1,1,1,⟨#[97,120,105,115,32,97]⟩⟩,
 ⟨⟨#[83,104,97,112,101]⟩,1,1,1,1,⟨#[101,110,100,32,105,32,115,116,97,114,116,32,105]⟩⟩,
 ⟨⟨#[83,105,122,101]⟩,1,1,1,1,⟨#[]⟩⟩,
 ⟨⟨#[67,111,110,115,116,97,110,116]⟩,0,0,1,1,⟨#[118,97,108,117,101,32,84,32,118,97,108,117,101,95,102,108,111,97,116,32,102,32,118,97,108,117,101,95,102,108,111,97,116,115,32,70,32,118,97,108,117,101,95,105,110,116,32,105,32,118,97,108,117,101,95,105,110,116,115,32,73]⟩⟩,
 ⟨⟨#[67,111,110,115,116,97,110,116,79,102,83,104,97,112,101]⟩,1,1,1,1,⟨#[118,97,108,117,101,32,83]⟩⟩,
 ⟨⟨#[68,101,112,116,104,84,111,83,112,97,99,101]⟩,1,1,1,1,⟨#[98,108,111,99,107,115,105,122,101,32,115,33,32,109,111,100,101,32,116]⟩⟩,
 ⟨⟨#[83,112,97,99,101,84,111,68,101,112,116,104]⟩,1,1,1,1,⟨#[98,108,111,99,107,115,105,122,101,32,115,33]⟩⟩]
def othersD:List RowD:=[
 ⟨⟨#[82,101,100,117,99,101,83,117,109]⟩,1,2,1,1,⟨#[107,101,101,112,100,105,109,115,32,98,32,110,111,111,112,95,119,105,116,104,95,101,109,112,116,121,95,97,120,101,115,32,98]⟩⟩,
 ⟨⟨#[82,101,100,117,99,101,77,101,97,110]⟩,1,1,1,1,⟨#[97,120,101,115,32,120,32,107,101,101,112,100,105,109,115,32,98]⟩⟩,
 ⟨⟨#[82,101,100,117,99,101,77,97,120]⟩,1,1,1,1,⟨#[97,120,101,115,32,120,32,107,101,101,112,100,105,109,115,32,98]⟩⟩,
 ⟨⟨#[82,101,100,117,99,101,77,105,110]⟩,1,1,1,1,⟨#[97,120,101,115,32,120,32,107,101,101,112,100,105,109,115,32,98]⟩⟩,
 ⟨⟨#[82,101,100,117,99,101,80,114,111,100]⟩,1,1,1,1,⟨#[97,120,101,115,32,120,32,107,101,101,112,100,105,109,115,32,98]⟩⟩,
 ⟨⟨#[65,114,103,77,97,120]⟩,1,1,1,1,⟨#[97,120,105,115,32,97,32,107,101,101,112,100,105,109,115,32,98,32,115,101,108,101,99,116,95,108,97,115,116,95,105,110,100,101,120,32,98]⟩⟩,
 ⟨⟨#[65,114,103,77,105,110]⟩,1,1,1,1,⟨#[97,120,105,115,32,97,32,107,101,101,112,100,105,109,115,32,98,32,115,101,108,101,99,116,95,108,97,115,116,95,105,110,100,101,120,32,98]⟩⟩,
 ⟨⟨#[83,111,102,116,109,97,120]⟩,1,1,1,1,⟨#[97,120,105,115,32,97]⟩⟩,
 ⟨⟨#[77,97,116,77,117,108]⟩,2,2,1,1,⟨#[]⟩⟩,
 ⟨⟨#[71,101,109,109]⟩,2,3,1,1,⟨#[97,108,112,104,97,32,102,32,98,101,116,97,32,102,32,116,114,97,110,115,65,32,98,32,116,114,97,110,115,66,32,98]⟩⟩,
 ⟨⟨#[67,111,110,118]⟩,2,3,1,1,⟨#[97,117,116,111,95,112,97,100,32,116,32,100,105,108,97,116,105,111,110,115,32,122,32,103,114,111,117,112,32,115,32,107,101,114,110,101,108,95,115,104,97,112,101,32,122,32,112,97,100,115,32,100,32,115,116,114,105,100,101,115,32,122]⟩⟩,
 ⟨⟨#[77,97,120,80,111,111,108]⟩,1,1,1,1,⟨#[97,117,116,111,95,112,97,100,32,116,32,99,101,105,108,95,109,111,100,101,32,98,32,100,105,108,97,116,105,111,110,115,32,122,32,107,101,114,110,101,108,95,115,104,97,112,101,32,122,33,32,112,97,100,115,32,100,32,115,116,114,105,100,101,115,32,122]⟩⟩,
 ⟨⟨#[65,118,101,114,97,103,101,80,111,111,108]⟩,1,1,1,1,⟨#[97,117,116,111,95,112,97,100,32,116,32,99,101,105,108,95,109,111,100,101,32,98,32,99,111,117,110,116,95,105,110,99,108,117,100,101,95,112,97,100,32,98,32,107,101,114,110,101,108,95,115,104,97,112,101,32,122,33,32,112,97,100,115,32,100,32,115,116,114,105,100,101,115,32,122]⟩⟩,
 ⟨⟨#[71,108,111,98,97,108,65,118,101,114,97,103,101,80,111,111,108]⟩,1,1,1,1,⟨#[]⟩⟩,
 ⟨⟨#[66,97,116,99,104,78,111,114,109,97,108,105,122,97,116,105,111,110]⟩,5,5,1,1,⟨#[101,112,115,105,108,111,110,32,102,32,109,111,109,101,110,116,117,109,32,102,32,116,114,97,105,110,105,110,103,95,109,111,100,101,32,48]⟩⟩,
 ⟨⟨#[76,97,121,101,114,78,111,114,109,97,108,105,122,97,116,105,111,110]⟩,2,3,1,1,⟨#[97,120,105,115,32,97,32,101,112,115,105,108,111,110,32,102,32,115,116,97,115,104,95,116,121,112,101,32,49]⟩⟩]
def tableD:List RowD:=eachD++movesD++othersD
theorem tableD_len:tableD.length = 80:=by decide +kernel
end Go.Proofs.YtoeaglpmkjoenaaGreat
namespace Go.Proofs.YtoeaglpmkjoenaaGreat
open Go.RowKit
def lays (w:World) (os:List Obj):World:=os.foldl World.alloc w
theorem lays_append (w:World) (xs ys:List Obj):lays w (xs++ys) = lays (lays w xs) ys:=by simp [lays]
theorem lays_size (os:List Obj):∀ w:World,(lays w os).heap.size = w.heap.size + os.length:=by
 induction os with
 | nil=>intro w;rfl
 | cons o os ih=>intro w;show (lays (w.alloc o) os).heap.size = _;rw [ih];simp;omega
theorem lays_below {B:Nat}:∀ (os:List Obj) (w:World),B ≤ w.heap.size→Below B w (lays w os)
 | [],w,_=>Below.refl _ _
 | o :: os,w,h=>(((Below.refl B w).alloc h o)).trans (lays_below os (w.alloc o) (by simp;omega))
def laySem (P:Program) {α:Type}:Sem α→Nat→Option (α × List Obj)
 | .pure a,_=>some (a,[])
 | .program k,n=>laySem P (k P) n
 | .mark _ k,n=>laySem P k n
 | .new o k,n=>match laySem P (k n) (n + 1) with
  | some (a,os)=>some (a,o :: os)
  | none=>none
 | _,_=>none
theorem run_lay {P:Program} {α:Type} (e:Sem α):∀ {w:World} {n:Nat} {a:α} {os:List Obj},w.heap.size = n→laySem P e n = some (a,os)→e.run P w = .ok a (lays w os):=by
 induction e with
 | pure a=>intro w n b os _ h;simp only [laySem,Option.some.injEq,Prod.mk.injEq] at h;obtain ⟨rfl,rfl⟩:=h;rfl
 | program k ih=>intro w n b os hn h;simp only [laySem] at h;simp only [Sem.run];exact ih _ hn h
 | mark m k ih=>intro w n b os hn h;simp only [laySem] at h;simp only [Sem.run];exact ih hn h
 | new o k ih =>
  intro w n b os hn h
  simp only [laySem] at h
  split at h
  ·rename_i a os' heq
   simp only [Option.some.injEq,Prod.mk.injEq] at h
   obtain ⟨rfl,rfl⟩:=h
   simp only [Sem.run]
   rw [hn]
   exact ih n (w:=w.alloc o) (by simp [hn]) heq
  ·cases h
 | load | store | shape | freeze | frozen | getObj | setObj | choose | sys | halt=>intro w n b os _ h;simp only [laySem] at h;cases h
def layOps (P:Program) (ops:Array Oper):List Oper→Act→Nat→Option (Act × List Obj)
 | [],a,_=>some (a,[])
 | o :: rest,a,n =>
  match Region.wanted o (yielded ops a.tmps) with
  | false=>layOps P ops rest (a.put o.dst undef) n
  | true =>
   match laySem P (execOp a.eval o) n with
   | some (.value v,os) =>
    match layOps P ops rest (a.put o.dst v) (n + os.length) with
    | some (a',os')=>some (a',os++os')
    | none=>none
   | some (.skip,os) =>
    match layOps P ops rest (a.put o.dst undef) (n + os.length) with
    | some (a',os')=>some (a',os++os')
    | none=>none
   | _=>none
theorem wpList_lay {P:Program} {ops:Array Oper} {Q:Exit→Act→World→Prop}:∀ {l:List Oper} {a a':Act} {os:List Obj} {w:World} {n:Nat},w.heap.size = n →
  layOps P ops l a n = some (a',os)→∀ {rest:List Oper},wpList P ops Q rest a' (lays w os)→wpList P ops Q (l++rest) a w
 | [],a,a',os,w,n,_,h,rest,k=>by
  simp only [layOps,Option.some.injEq,Prod.mk.injEq] at h
  obtain ⟨rfl,rfl⟩:=h
  exact k
 | o :: l,a,a',os,w,n,hn,h,rest,k=>by
  simp only [layOps] at h
  cases hw:Region.wanted o (yielded ops a.tmps) with
  | false =>
   rw [hw] at h
   simp only at h
   exact wpList_skip hw (wpList_lay hn h k)
  | true =>
   rw [hw] at h
   simp only at h
   refine wpList_step fun K hK=>?_
   rw [if_pos hw]
   unfold Oper.wp
   split at h
   ·rename_i v os' heq
    split at h
    ·rename_i a2 os2 heq2
     simp only [Option.some.injEq,Prod.mk.injEq] at h
     obtain ⟨rfl,rfl⟩:=h
     rw [run_lay _ hn heq]
     refine hK _ _ (wpList_lay (by rw [lays_size,hn]) heq2 ?_)
     rw [← lays_append]
     exact k
    ·cases h
   ·rename_i os' heq
    split at h
    ·rename_i a2 os2 heq2
     simp only [Option.some.injEq,Prod.mk.injEq] at h
     obtain ⟨rfl,rfl⟩:=h
     rw [run_lay _ hn heq]
     refine hK _ _ (wpList_lay (by rw [lays_size,hn]) heq2 ?_)
     rw [← lays_append]
     exact k
    ·cases h
   ·cases h
def layCode (P:Program):Code→Act→Nat→Option (Exit × Act × List Obj)
 | .skip,a,_=>some (.normal,a,[])
 | .exit id,a,_=>some (.exit id,a,[])
 | .ret,a,_=>some (.ret,a,[])
 | .region _ ops false,a,n =>
  match layOps P ops ops.toList a n with
  | some (a',os)=>some (.normal,a',os)
  | none=>none
 | .seq x y,a,n =>
  match layCode P x a n with
  | some (.normal,a',os) =>
   match layCode P y a' (n + os.length) with
   | some (e,a'',os')=>some (e,a'',os++os')
   | none=>none
  | r=>r
 | .cond c x y,a,n =>
  match a.eval c with
  | .bool true=>layCode P x a n
  | .bool false=>layCode P y a n
  | _=>none
 | .block id c,a,n =>
  match layCode P c a n with
  | some (.exit id',a',os)=>if id' = id then some (.normal,a',os) else some (.exit id',a',os)
  | r=>r
 | _,_,_=>none
theorem wp_lay {P:Program}:∀ (c:Code) {Q:Exit→Act→World→Prop} {a a':Act} {os:List Obj} {e:Exit} {w:World} {n:Nat},w.heap.size = n →
  layCode P c a n = some (e,a',os)→Q e a' (lays w os)→c.wp P Q a w
 | .skip,Q,a,a',os,e,w,n,_,h,k=>by
  simp only [layCode,Option.some.injEq,Prod.mk.injEq] at h
  obtain ⟨rfl,rfl,rfl⟩:=h
  exact wp_skip k
 | .exit id,Q,a,a',os,e,w,n,_,h,k=>by
  simp only [layCode,Option.some.injEq,Prod.mk.injEq] at h
  obtain ⟨rfl,rfl,rfl⟩:=h
  exact wp_exit k
 | .ret,Q,a,a',os,e,w,n,_,h,k=>by
  simp only [layCode,Option.some.injEq,Prod.mk.injEq] at h
  obtain ⟨rfl,rfl,rfl⟩:=h
  exact wp_ret k
 | .region id ops false,Q,a,a',os,e,w,n,hn,h,k=>by
  simp only [layCode] at h
  split at h
  ·rename_i a2 os2 heq
   simp only [Option.some.injEq,Prod.mk.injEq] at h
   obtain ⟨rfl,rfl,rfl⟩:=h
   refine wp_region_list ?_
   have:=wpList_lay (Q:=Q) hn heq (rest:=[]) k
   simpa using this
  ·cases h
 | .seq x y,Q,a,a',os,e,w,n,hn,h,k=>by
  simp only [layCode] at h
  split at h
  ·rename_i a2 os2 heq
   split at h
   ·rename_i e3 a3 os3 heq3
    simp only [Option.some.injEq,Prod.mk.injEq] at h
    obtain ⟨rfl,rfl,rfl⟩:=h
    refine wp_seq (wp_lay x hn heq ?_)
    exact wp_lay y (by rw [lays_size,hn]) heq3 (by rw [← lays_append];exact k)
   ·cases h
  ·rename_i r hne
   refine wp_seq (wp_lay x hn h ?_)
   cases e with
   | normal=>exact absurd h (hne _ _)
   | _=>exact k
 | .cond c x y,Q,a,a',os,e,w,n,hn,h,k=>by
  simp only [layCode] at h
  split at h
  ·rename_i hc;exact wp_cond_true hc (wp_lay x hn h k)
  ·rename_i hc;exact wp_cond_false hc (wp_lay y hn h k)
  ·cases h
 | .block id c,Q,a,a',os,e,w,n,hn,h,k=>by
  simp only [layCode] at h
  split at h
  ·rename_i id' a2 os2 heq
   split at h
   ·rename_i hid
    simp only [Option.some.injEq,Prod.mk.injEq] at h
    obtain ⟨rfl,rfl,rfl⟩:=h
    refine wp_block (wp_lay c hn heq ?_)
    simp only [Exit.inBlock,hid,if_true]
    exact k
   ·rename_i hid
    simp only [Option.some.injEq,Prod.mk.injEq] at h
    obtain ⟨rfl,rfl,rfl⟩:=h
    refine wp_block (wp_lay c hn heq ?_)
    simp only [Exit.inBlock,hid,if_false]
    exact k
  ·rename_i r hne
   refine wp_block (wp_lay c hn h ?_)
   cases e with
   | exit id'=>exact absurd h (hne _ _ _)
   | _=>exact k
 | .region _ _ true,_,_,_,_,_,_,_,_,h,_ | .loop _,_,_,_,_,_,_,_,_,h,_ | .rangeFunc _ _ _ _,_,_,_,_,_,_,_,_,h,_ | .scope _,_,_,_,_,_,_,_,_,h,_
 | .label _,_,_,_,_,_,_,_,_,h,_ | .goto _,_,_,_,_,_,_,_,_,h,_ | .refuse _,_,_,_,_,_,_,_,_,h,_=>by simp only [layCode] at h;cases h
def layCall (P:Program) (f:FuncId) (args:Array Value) (n:Nat):Option (Value × List Obj) :=
 match P.funcs[f]? with
 | none=>none
 | some fn =>
  match fn.body with
  | none=>none
  | some c =>
   match layCode P c { tmps:=args++Array.replicate (fn.ntmps - args.size) undef,defers:=[] } n with
   | some (.ret,a,os) =>
    match a.defers,laySem P (results fn a.tmps) 0 with
    | [],some (v,[])=>some (v,os)
    | _,_=>none
   | some (.normal,a,os) =>
    match a.defers,laySem P (results fn a.tmps) 0 with
    | [],some (v,[])=>some (v,os)
    | _,_=>none
   | _=>none
theorem laySem_any {P:Program} {α:Type} (e:Sem α):∀ {n m:Nat} {a:α},laySem P e n = some (a,[])→laySem P e m = some (a,[]):=by
 induction e with
 | pure a=>intro n m b h;exact h
 | program k ih=>intro n m b h;simp only [laySem] at h ⊢;exact ih _ h
 | mark x k ih=>intro n m b h;simp only [laySem] at h ⊢;exact ih h
 | new o k ih=>intro n m b h;simp only [laySem] at h;split at h <;> simp at h
 | load | store | shape | freeze | frozen | getObj | setObj | choose | sys | halt=>intro n m b h;simp only [laySem] at h;cases h
theorem calls_lay {P:Program} {f:FuncId} {args:Array Value} {w:World} {v:Value} {os:List Obj} (h:layCall P f args w.heap.size = some (v,os)) :
  Calls P f args w fun e w'=>e = .returned v∧lays w os = w':=by
 unfold layCall at h
 split at h
 ·cases h
 ·rename_i fn hf
  split at h
  ·cases h
  ·rename_i c hb
   refine calls_of_wp hf hb ?_
   split at h
   ·rename_i a os2 heq
    split at h
    ·rename_i v2 hd hr
     simp only [Option.some.injEq,Prod.mk.injEq] at h
     obtain ⟨rfl,rfl⟩:=h
     exact wp_lay c rfl heq ⟨hd,_,run_lay (os:=[]) _ rfl (laySem_any _ hr),rfl,rfl⟩
    ·cases h
   ·rename_i a os2 heq
    split at h
    ·rename_i v2 hd hr
     simp only [Option.some.injEq,Prod.mk.injEq] at h
     obtain ⟨rfl,rfl⟩:=h
     exact wp_lay c rfl heq ⟨hd,_,run_lay (os:=[]) _ rfl (laySem_any _ hr),rfl,rfl⟩
    ·cases h
   ·cases h
end Go.Proofs.YtoeaglpmkjoenaaGreat
namespace Go.Proofs.YtoeaglpmkjoenaaGreat
open Go.RowKit
open Rep (rep)
theorem each_lay (n:Nat):layCall Tryz.prog 167 #[] n = some (.slice (some ⟨n,0,none⟩) 44 44,[.cells (eachD.flatMap RowD.cells).toArray 144]):=by kernel_rfl
theorem moves_lay (n:Nat):layCall Tryz.prog 168 #[] n = some (.slice (some ⟨n,0,none⟩) 20 20,[.cells (movesD.flatMap RowD.cells).toArray 144]):=by kernel_rfl
theorem others_lay (n:Nat):layCall Tryz.prog 169 #[] n = some (.slice (some ⟨n,0,none⟩) 16 16,[.cells (othersD.flatMap RowD.cells).toArray 144]):=by kernel_rfl
end Go.Proofs.YtoeaglpmkjoenaaGreat
namespace Go.Proofs.YtoeaglpmkjoenaaGreat
open Go.RowKit
open Rep (rep)
def rowZ:List Value:=[.string ⟨#[]⟩,.int .i64 0,.int .i64 0,.int .i64 0,.int .i64 0,.string ⟨#[]⟩]
theorem rowInfo:(Tryz.prog.info? 144).map (fun i=>(i.zero,i.size,i.bytes)) = some (some (.agg rowZ.toArray),6,64):=by kernel_rfl
set_option maxRecDepth 100000 in
set_option maxHeartbeats 400000 in
theorem growRow_any (n:Nat) (w:World) (h0:0 < n) (hn:n ≤ 65536) :
  Calls Tryz.prog 175 #[.slice none 0 0,.int .i64 n] w fun e w'=>∃ v',e = .returned v'∧w'.ownsRow w.heap.size 144 6 v' 0 []∧Below w.heap.size w w':=by
 obtain ⟨i0,hi0,hz0,hz1,hz2⟩:=info_parts rowInfo
 have hrz:∀ ty,(Builtin.append_ #[166,3] ty #[.slice none 0 0,.int .i64 (n:Int)]).run Tryz.prog w =
   .ok (.slice (some ⟨w.heap.size,0,none⟩) n (grownCap w n 0 144)) (w.drew.alloc (.cells (#[]++Builtin.zeroCells rowZ.toArray n++Builtin.zeroCells rowZ.toArray (grownCap w n 0 144 - n)) 144)):=fun ty=>by
  have h:=Lib.run_append_grow_zeros w 166 3 ty 144 i0 _ .i64 .i64 Tryz.underlying166 Tryz.underlying3 hi0 hz0 none 0 0 [] (run_firstCells_none w.drew i0.size 0 0 0) n h0 (by omega) (by omega) (by omega) (by rw [hz2];omega)
   (by refine growslice_fits (by omega) ?_;rw [hz2];omega)
  simp only [Nat.zero_add] at h
  exact h
 have hGn:n ≤ grownCap w n 0 144:=grownCap_ge w _ _ _
 obtain ⟨G,hG⟩:∃ G,G = grownCap w n 0 144:=⟨_,rfl⟩
 rw [← hG] at hrz hGn
 have hG63:G ≤ maxLen:=by rw [hG];exact grownCap_le_maxLen w n 0 _ (by unfold maxLen;omega)
 have HG:=Lib.hid hG63
 clear hG hG63
 go_enter Tryz.func175,Tryz.ntmps175
 have h1:(n:Int) > 0:=by omega
 go_wp2_with (at_builtin;refine Lib.wpList_append_run _ rfl _ _ _ _ rfl _ _ rfl rfl _ _ (hrz _) ?_)
 go_ret
 refine ⟨_,rfl,World.ownsRow_made w.drew _ G (Nat.le_refl _) HG.out ?_,(Below.refl _ _).drew.alloc (Nat.le_refl _) _⟩
 simp [Builtin.zeroCells,rowZ]
 omega
theorem chunks_rows {w:World} {Z:Zone}:∀ {l:List RowD} {xs:List Value},Chunks w Z xs l→xs = l.flatMap RowD.cells
 | [],_,h=>by simpa [Chunks] using h
 | a :: l,xs,⟨c,r,hx,hc,hr⟩=>by rw [hx,show c = a.cells from hc,chunks_rows hr];rfl
theorem chunks_of_rows {w:World} {Z:Zone}:∀ (l:List RowD),Chunks w Z (l.flatMap RowD.cells) l
 | []=>rfl
 | a :: l=>⟨a.cells,l.flatMap RowD.cells,rfl,rfl,chunks_of_rows l⟩
set_option maxRecDepth 100000 in
set_option maxHeartbeats 1000000 in
theorem concatRow_any (l:List (List RowD)) (v:Value) (w:World) (hr:rep w (old w.heap.size) [v] l) (h0:0 < l.flatten.length) (ht:l.flatten.length ≤ 65536) :
  Calls Tryz.prog 166 #[v] w fun e w'=>∃ v',e = .returned v'∧w'.ownsRow w.heap.size 144 6 v' l.flatten.length (l.flatten.flatMap RowD.cells)∧Below w.heap.size w w':=by
 obtain ⟨i0,hi0,hz0,hz1,hz2⟩:=info_parts rowInfo
 obtain ⟨A,c,xs,rfl,hnc,hcm,_,hl,hch⟩:=open_slice hr
 have H0:=Lib.hid h0
 have HT:=Lib.hid ht
 clear hr h0 ht
 go_enter Tryz.func166,Tryz.ntmps166
 go_wp2_with fail
 go_loop [3,11] (fun t i=>∃ pre post:List (List RowD),l = pre++post∧i = .int .i64 pre.length∧t = .int .i64 pre.flatten.length) (fun _ i=>l.length - (intOf i).toNat)
 case atStart=>exact ⟨[],l,rfl,rfl,rfl⟩
 case round =>
  obtain ⟨pre,post,hpp,rfl,rfl⟩:=hrel
  cases post with
  | cons z post =>
   obtain ⟨hz,hlt,hpp',hpl⟩:=split_at hpp
   obtain ⟨b,o,cs,rfl,hbB,hrz,hcell⟩:=elem_at hl hch (by decide) hz
   obtain ⟨A',n',c',xs',rfl,rfl,_⟩:=rep_list hrz
   have hc1:=(hcell 0 _ rfl).1
   rw [show o + (pre.length * Rep.size (List RowD) + 0) = o + pre.length from by simp [Rep.size]] at hc1
   have hf:(pre++[z]).flatten.length = pre.flatten.length + z.length:=by simp [List.flatten_append]
   have hle:pre.flatten.length + z.length ≤ 65536:=by
    have:=HT.out
    rw [hpp',List.flatten_append,List.length_append,hf] at this
    omega
   have H:=Lib.hid (And.intro hpp' (And.intro hpl hf))
   clear hcell hl hch hpp hpp' hpl hz hf hrz
   generalize hk:pre.flatten.length = k at *
   have HK:=Lib.hid hk
   clear hk
   have hns:¬ ((k:Int) + (z.length:Int) < 0):=by omega
   go_wp2
   go_round
   case rel =>
    obtain ⟨hpp',hpl,hf⟩:=H.out
    exact ⟨pre++[z],post,hpp',by rw [hpl];go_num,by rw [hf];go_num⟩
   case measure=>simp [intOf];omega
  | nil =>
   obtain ⟨hge,hpl⟩:=split_end hpp
   subst hpl
   clear hpp
   generalize hk:pre.flatten.length = k at *
   have HK:=Lib.hid hk
   clear hk
   have hk0:=H0.out
   have hk1:=HT.out
   clear H0 HT
   go_wp2_with (go_at_call 175;refine (growRow_any _ _ hk0 hk1).mono ?_;rintro e w1 ⟨v1,rfl,hown1,hbel1⟩)
   have HL:=Lib.hid (And.intro hl (And.intro hch hbel1))
   clear hl hch hbel1
   go_wp2_with fail
   go_loopw [6,27] (fun t i wr=>∃ pr post:List (List RowD),pre = pr++post∧i = .int .i64 pr.length∧wr.ownsRow w.heap.size 144 6 t pr.flatten.length (pr.flatten.flatMap RowD.cells)∧Below w.heap.size w wr) (fun _ i _=>pre.length - (intOf i).toNat)
   case atStart=>exact ⟨[],pre,rfl,rfl,hown1,HL.out.2.2⟩
   case round =>
    obtain ⟨pr,post,hpp,rfl,hown,hbel⟩:=hrel
    obtain ⟨hl,hch,_⟩:=HL.out
    cases post with
    | cons z post =>
     obtain ⟨hz,hlt,hpp',hpl⟩:=split_at hpp
     obtain ⟨b,o,cs,rfl,hbB,hrz,hcell⟩:=elem_at hl hch (by decide) hz
     obtain ⟨A',n',c',xs',rfl,rfl,_,_,_,hlz,hcz⟩:=rep_list hrz
     have hc1:=(hbel.cell (p:=⟨b,o + (pr.length * 1 + 0),none⟩) hbB).trans (hcell 0 _ rfl).1
     rw [show o + (pr.length * 1 + 0) = o + pr.length from by omega] at hc1
     have hf:(pr++[z]).flatten.length = pr.flatten.length + z.length:=by simp [List.flatten_append]
     have hle:pr.flatten.length + z.length ≤ 65536:=by
      have:=HK.out
      rw [hpp',List.flatten_append,List.length_append,hf] at this
      omega
     have hlz':=hlz.keep (Keeps.old_below hbel (Nat.le_refl _))
     have hnl:=hcz.len
     have hn1:=hcz.one
     rw [chunks_rows hcz] at hlz' hnl hn1
     have hsz:=hbel.size
     generalize hk2:pr.flatten.length = k2 at *
     have HK2:=Lib.hid hk2
     clear hk2
     have H:=Lib.hid (And.intro hpp' (And.intro hpl (And.intro hf (And.intro hbel (And.intro hlz' (And.intro hnl hn1))))))
     clear hcell hl hch hpp hpp' hpl hz hf hrz hlz hcz hbel hlz' hnl hn1
     go_wp2_with (at_builtin;refine wpList_append_lies _ rfl _ _ 166 rfl w.heap.size 144 i0 _ 6 64 Tryz.underlying166 hi0 hz0 hz1 hz2 rfl (by decide) _ _ _ rfl hown _ _ _ _ _ rfl H.out.2.2.2.2.2.1 H.out.2.2.2.2.1 H.out.2.2.2.2.2.2 ?c3 ?c4 hsz ?_)
     case c3=>unfold maxLen;omega
     case c4=>omega
     intro v' w1 hown' hgrow _
     go_wp2
     go_roundw
     case rel =>
      obtain ⟨hpp',hpl,hf,hbel,_⟩:=H.out
      refine ⟨pr++[z],post,hpp',by rw [hpl];go_num,by rw [hf,List.flatten_append,List.flatMap_append,show [z].flatten = z by simp];exact hown',?_⟩
      exact hbel.grown hgrow hbel.size (fun g hg=>(hown.lt g hg).1)
     case measure=>simp [intOf];omega
    | nil =>
     obtain ⟨hge,hpl⟩:=split_end hpp
     have H:=Lib.hid (And.intro hpl hbel)
     clear hpl hbel hpp hl hch
     go_wp2
     go_ret
     obtain ⟨rfl,hbel⟩:=H.out
     exact ⟨_,rfl,by rw [← HK.out];exact hown,hbel⟩
end Go.Proofs.YtoeaglpmkjoenaaGreat
namespace Go.Proofs.YtoeaglpmkjoenaaGreat
open Go.RowKit
open Rep (rep)
theorem rep_rows (w:World) (Z:Zone) (t:TypeId) (l:List RowD) (n:Nat) (hn:l.length = n) (hle:n ≤ 65536) (g:Nat) (hg:w.heap[g]? = some (.cells (l.flatMap RowD.cells).toArray t (0,0))) (hZ:Z.blk g) :
  rep w Z [.slice (some ⟨g,0,none⟩) n n] l:=by
 refine ⟨_,n,n,l.flatMap RowD.cells,rfl,hn.symm,Nat.le_refl _,by unfold maxLen;omega,by unfold reach;simp only [Rep.bytes];omega,fun _=>⟨g,0,rfl,hZ,fun j u hu=>⟨?_,fun _=>by simp [World.frozen?,hg]⟩⟩,chunks_of_rows l⟩
 rw [cell_of_row _ _ _ _ _ _ hg]
 simpa using hu
set_option maxRecDepth 100000 in
set_option maxHeartbeats 400000 in
theorem table_any (w:World) :
  Calls Tryz.prog 156 #[] w fun e w'=>∃ v',e = .returned v'∧w'.ownsRow w.heap.size 144 6 v' 80 (tableD.flatMap RowD.cells)∧Below w.heap.size w w':=by
 go_enter Tryz.func156,Tryz.ntmps156
 go_wp2_with fail
 refine (calls_lay (each_lay _)).mono ?_
 rintro e w1 ⟨rfl,rfl⟩
 generalize hs1:lays w _ = w1
 have hz1:w1.heap.size = w.heap.size + 1:=by rw [← hs1,lays_size];rfl
 have hb1:Below w.heap.size w w1:=by rw [← hs1];exact lays_below _ _ (Nat.le_refl _)
 have hg1:w1.heap[w.heap.size]? = some (.cells (eachD.flatMap RowD.cells).toArray 144 (0,0)):=by rw [← hs1];exact heap_alloc_new w _
 have H1:=Lib.hid (And.intro hz1 (And.intro hb1 hg1))
 clear hs1 hz1 hb1 hg1
 go_wp2_with fail
 refine (calls_lay (moves_lay _)).mono ?_
 rintro e w2 ⟨rfl,rfl⟩
 generalize hs1:lays w1 _ = w2
 have hz1:w2.heap.size = w1.heap.size + 1:=by rw [← hs1,lays_size];rfl
 have hb1:Below w1.heap.size w1 w2:=by rw [← hs1];exact lays_below _ _ (Nat.le_refl _)
 have hg1:w2.heap[w1.heap.size]? = some (.cells (movesD.flatMap RowD.cells).toArray 144 (0,0)):=by rw [← hs1];exact heap_alloc_new w1 _
 have H2:=Lib.hid (And.intro hz1 (And.intro hb1 hg1))
 clear hs1 hz1 hb1 hg1
 go_wp2_with fail
 refine (calls_lay (others_lay _)).mono ?_
 rintro e w3 ⟨rfl,rfl⟩
 generalize hs1:lays w2 _ = w3
 have hz1:w3.heap.size = w2.heap.size + 1:=by rw [← hs1,lays_size];rfl
 have hb1:Below w2.heap.size w2 w3:=by rw [← hs1];exact lays_below _ _ (Nat.le_refl _)
 have hg1:w3.heap[w2.heap.size]? = some (.cells (othersD.flatMap RowD.cells).toArray 144 (0,0)):=by rw [← hs1];exact heap_alloc_new w2 _
 have H3:=Lib.hid (And.intro hz1 (And.intro hb1 hg1))
 clear hs1 hz1 hb1 hg1
 go_wp2_with fail
 obtain ⟨z1,b1,g1⟩:=H1.out
 obtain ⟨z2,b2,g2⟩:=H2.out
 obtain ⟨z3,b3,g3⟩:=H3.out
 have hrep:∀ o:Obj,o = .cells #[.slice (some ⟨w.heap.size,0,none⟩) 44 44,.slice (some ⟨w1.heap.size,0,none⟩) 20 20,.slice (some ⟨w2.heap.size,0,none⟩) 16 16] 166 →
   rep (w3.alloc o) (old (w3.alloc o).heap.size) [.slice (some ⟨w3.heap.size,0,none⟩) 3 3] [eachD,movesD,othersD]:=by
  rintro o rfl
  have hold:∀ k,k < w3.heap.size→(w3.alloc (.cells #[.slice (some ⟨w.heap.size,0,none⟩) 44 44,.slice (some ⟨w1.heap.size,0,none⟩) 20 20,.slice (some ⟨w2.heap.size,0,none⟩) 16 16] 166)).heap[k]? = w3.heap[k]?:=fun k hk=>Below.heap_alloc w3 _ k hk
  refine ⟨_,3,3,[.slice (some ⟨w.heap.size,0,none⟩) 44 44,.slice (some ⟨w1.heap.size,0,none⟩) 20 20,.slice (some ⟨w2.heap.size,0,none⟩) 16 16],rfl,rfl,Nat.le_refl _,by unfold maxLen;omega,by unfold reach;simp only [Rep.bytes];omega,
   (lies_new w3 _ _).more (old_le (by simp)),?_⟩
  refine ⟨[_],_,rfl,rep_rows _ _ 144 eachD 44 (by decide +kernel) (by omega) _ ?_ (by simp [old];omega),[_],_,rfl,rep_rows _ _ 144 movesD 20 (by decide +kernel) (by omega) _ ?_ (by simp [old];omega),[_],[],rfl,rep_rows _ _ 144 othersD 16 (by decide +kernel) (by omega) _ ?_ (by simp [old];omega),rfl⟩
  ·rw [hold _ (by omega),b3.block _ (by omega),b2.block _ (by omega),g1]
  ·rw [hold _ (by omega),b3.block _ (by omega),g2]
  ·rw [hold _ (by omega),g3]
 have hl:[eachD,movesD,othersD].flatten = tableD:=by simp [tableD]
 have hb:Below w.heap.size w w3:=(b1.trans (b2.mono (by omega))).trans (b3.mono (by omega))
 have hsz:w.heap.size ≤ w3.heap.size:=by omega
 refine (concatRow_any [eachD,movesD,othersD] _ _ (hrep _ rfl) (by rw [hl,tableD_len];omega) (by rw [hl,tableD_len];omega)).mono ?_
 rw [hl,tableD_len]
 rintro e w4 ⟨v4,rfl,hown4,hb4⟩
 have H4:=Lib.hid (And.intro hown4 (And.intro hb4 (And.intro hb hsz)))
 clear H1 H2 H3 z1 b1 g1 z2 b2 g2 z3 b3 g3 hrep hl hb hown4 hb4 hsz
 go_wp2
 go_ret
 obtain ⟨hown4,hb4,hb,hsz⟩:=H4.out
 refine ⟨_,rfl,⟨hown4.1,?_⟩,(hb.alloc hsz _).trans (hb4.mono (by simp;omega))⟩
 rcases hown4.2 with h | ⟨g,cap,cur,h1,h2,h3⟩
 ·exact .inl h
 ·exact .inr ⟨g,cap,cur,h1,by simp at h2;omega,h3⟩
end Go.Proofs.YtoeaglpmkjoenaaGreat
namespace Go.Proofs.YtoeaglpmkjoenaaGreat
open Go.RowKit
open Rep (rep)
end Go.Proofs.YtoeaglpmkjoenaaGreat
namespace Go.Proofs.YtoeaglpmkjoenaaGreat
open Go.RowKit
open Rep (rep)
def noRow:RowD:=⟨⟨#[]⟩,0,0,0,0,⟨#[]⟩⟩
def findD (op:Int):RowD:=if op < 1 ∨ op > 80 then noRow else (tableD[(op - 1).toNat]?).getD noRow
set_option maxRecDepth 100000 in
set_option maxHeartbeats 400000 in
theorem find_any (op:Int) (w:World) (hI:I64 op) :
  Calls Tryz.prog 124 #[.int .i64 op] w fun e w'=>e = .returned (.agg (findD op).cells.toArray)∧Below w.heap.size w w':=by
 by_cases h1:op < 1
 ·have hfd:findD op = noRow:=by unfold findD;rw [if_pos (.inl h1)]
  rw [hfd]
  clear hI hfd
  go_enter Tryz.func124,Tryz.ntmps124
  go_wp2
  go_returns
  exact ⟨rfl,(Below.refl _ _).alloc (Nat.le_refl _) _⟩
 ·by_cases h2:op > 80
  ·have hfd:findD op = noRow:=by unfold findD;rw [if_pos (.inr h2)]
   rw [hfd]
   clear hI hfd
   go_enter Tryz.func124,Tryz.ntmps124
   go_wp2
   go_returns
   exact ⟨rfl,(Below.refl _ _).alloc (Nat.le_refl _) _⟩
  ·obtain ⟨k,hk⟩:∃ k:Nat,op = (k:Int) + 1:=⟨(op - 1).toNat,by omega⟩
   subst hk
   have hkl:k < 80:=by omega
   obtain ⟨z,hz⟩:∃ z,tableD[k]? = some z:=⟨_,List.getElem?_eq_getElem (by rw [tableD_len];exact hkl)⟩
   have hfd:findD ((k:Int) + 1) = z:=by
    unfold findD
    rw [if_neg (by omega),show ((k:Int) + 1 - 1).toNat = k by omega,hz]
    rfl
   rw [hfd]
   have h3:¬ (80 < (k:Int) + 1):=by omega
   clear hI hfd h2
   go_enter Tryz.func124,Tryz.ntmps124
   go_wp2_with fail
   refine (table_any _).mono ?_
   rintro e w1 ⟨v1,rfl,hown,hbel⟩
   have hrep:rep w1 (old w1.heap.size) [v1] tableD:=by
    refine rep_of_own (e:=144) (xs:=tableD.flatMap RowD.cells) (by rw [tableD_len];exact hown) (chunks_of_rows _) (by rw [tableD_len];unfold reach;simp only [Rep.bytes];omega) (fun g _ _ h=>h)
   obtain ⟨A,c,xs,rfl,hnc,hcm,_,hl,hch⟩:=open_slice hrep
   obtain ⟨b,o,cs,rfl,hbB,hrz,hcell⟩:=elem_at hl hch (by decide) hz
   have hrz':cs = z.cells:=hrz
   subst hrz'
   have hat:At w1 b (o + k * 6) z.cells:=fun j u hu=>by rw [Nat.add_assoc];exact (hcell j u hu).1
   rw [tableD_len]
   have hgw:w1.heap[w.heap.size]? = some (.cells noRow.cells.toArray 144 (0,0)):=(hbel.block _ (by simp)).trans (heap_alloc_new w _)
   have H:=Lib.hid (And.intro hat (And.intro hbel hgw))
   clear hrep hl hch hcell hrz hown hz hat hbel hbB hnc hcm hgw
   go_wp2_with (first | (with_reducible refine wpList_load_agg rfl 144 _ rfl _ _ _ rfl z.cells Tryz.underlying144 rfl (by kernel_rfl) H.out.1 ?_) | (with_reducible refine wpList_store_agg rfl 144 _ _ rfl w.heap.size 0 z.cells rfl rfl 144 noRow.cells H.out.2.2 (by kernel_rfl) (by rw [RowD.cells_len,RowD.cells_len];omega) z.one ?_))
   obtain ⟨_,hbel,hgw⟩:=H.out
   refine bodyPost_ret (v:=.agg z.cells.toArray) ?_ rfl ⟨rfl,?_⟩
   ·have hg2:=heap_setRow w1 w.heap.size (noRow.cells.take 0++z.cells++noRow.cells.drop (0 + z.cells.length)).toArray _ _ hgw
    refine results_cell_row rfl _ _ w.heap.size 144 z.cells.toArray (0,0) _ rfl ?_ Tryz.underlying144 rfl (by kernel_rfl)
    rw [hg2]
    rfl
   ·exact below_setRow' (((Below.refl _ _).alloc (Nat.le_refl _) _).trans (hbel.mono (by simp))) (Nat.le_refl _) _
end Go.Proofs.YtoeaglpmkjoenaaGreat
