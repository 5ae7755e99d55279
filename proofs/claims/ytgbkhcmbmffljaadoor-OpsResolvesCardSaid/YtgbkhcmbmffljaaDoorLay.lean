/-
  Runs that only reckon and lay new blocks, reckoned by the kernel: a computable reading of operations, codes and calls, and that the run is what it says.
-/
import Derived.Test.YtgbkhcmbmffljaaDoorBase
namespace Go.Proofs.YtgbkhcmbmffljaaDoor
open Go.RowKit

/-- A world with some blocks more. -/
def lays (w : World) (os : List Obj) : World := os.foldl World.alloc w
theorem lays_append (w : World) (xs ys : List Obj) : lays w (xs ++ ys) = lays (lays w xs) ys := by simp [lays]
theorem lays_size (os : List Obj) : ∀ w : World, (lays w os).heap.size = w.heap.size + os.length := by
  induction os with
  | nil => intro w; rfl
  | cons o os ih => intro w; show (lays (w.alloc o) os).heap.size = _; rw [ih]; simp; omega
theorem lays_below {B : Nat} : ∀ (os : List Obj) (w : World), B ≤ w.heap.size → Below B w (lays w os)
  | [], w, _ => Below.refl _ _
  | o :: os, w, h => (((Below.refl B w).alloc h o)).trans (lays_below os (w.alloc o) (by simp; omega))

def laySem (P : Program) {α : Type} : Sem α → Nat → Option (α × List Obj)
  | .pure a, _ => some (a, [])
  | .program k, n => laySem P (k P) n
  | .mark _ k, n => laySem P k n
  | .new o k, n => match laySem P (k n) (n + 1) with
    | some (a, os) => some (a, o :: os)
    | none => none
  | _, _ => none

theorem run_lay {P : Program} {α : Type} (e : Sem α) : ∀ {w : World} {n : Nat} {a : α} {os : List Obj}, w.heap.size = n → laySem P e n = some (a, os) → e.run P w = .ok a (lays w os) := by
  induction e with
  | pure a => intro w n b os _ h; simp only [laySem, Option.some.injEq, Prod.mk.injEq] at h; obtain ⟨rfl, rfl⟩ := h; rfl
  | program k ih => intro w n b os hn h; simp only [laySem] at h; simp only [Sem.run]; exact ih _ hn h
  | mark m k ih => intro w n b os hn h; simp only [laySem] at h; simp only [Sem.run]; exact ih hn h
  | new o k ih =>
    intro w n b os hn h
    simp only [laySem] at h
    split at h
    · rename_i a os' heq
      simp only [Option.some.injEq, Prod.mk.injEq] at h
      obtain ⟨rfl, rfl⟩ := h
      simp only [Sem.run]
      rw [hn]
      exact ih n (w := w.alloc o) (by simp [hn]) heq
    · cases h
  | load | store | shape | freeze | frozen | getObj | setObj | choose | sys | halt => intro w n b os _ h; simp only [laySem] at h; cases h

def layOps (P : Program) (ops : Array Oper) : List Oper → Act → Nat → Option (Act × List Obj)
  | [], a, _ => some (a, [])
  | o :: rest, a, n =>
    match Region.wanted o (yielded ops a.tmps) with
    | false => layOps P ops rest (a.put o.dst undef) n
    | true =>
      match laySem P (execOp a.eval o) n with
      | some (.value v, os) =>
        match layOps P ops rest (a.put o.dst v) (n + os.length) with
        | some (a', os') => some (a', os ++ os')
        | none => none
      | some (.skip, os) =>
        match layOps P ops rest (a.put o.dst undef) (n + os.length) with
        | some (a', os') => some (a', os ++ os')
        | none => none
      | _ => none

theorem wpList_lay {P : Program} {ops : Array Oper} {Q : Exit → Act → World → Prop} : ∀ {l : List Oper} {a a' : Act} {os : List Obj} {w : World} {n : Nat}, w.heap.size = n →
    layOps P ops l a n = some (a', os) → ∀ {rest : List Oper}, wpList P ops Q rest a' (lays w os) → wpList P ops Q (l ++ rest) a w
  | [], a, a', os, w, n, _, h, rest, k => by
    simp only [layOps, Option.some.injEq, Prod.mk.injEq] at h
    obtain ⟨rfl, rfl⟩ := h
    exact k
  | o :: l, a, a', os, w, n, hn, h, rest, k => by
    simp only [layOps] at h
    cases hw : Region.wanted o (yielded ops a.tmps) with
    | false =>
      rw [hw] at h
      simp only at h
      exact wpList_skip hw (wpList_lay hn h k)
    | true =>
      rw [hw] at h
      simp only at h
      refine wpList_step fun K hK => ?_
      rw [if_pos hw]
      unfold Oper.wp
      split at h
      · rename_i v os' heq
        split at h
        · rename_i a2 os2 heq2
          simp only [Option.some.injEq, Prod.mk.injEq] at h
          obtain ⟨rfl, rfl⟩ := h
          rw [run_lay _ hn heq]
          refine hK _ _ (wpList_lay (by rw [lays_size, hn]) heq2 ?_)
          rw [← lays_append]
          exact k
        · cases h
      · rename_i os' heq
        split at h
        · rename_i a2 os2 heq2
          simp only [Option.some.injEq, Prod.mk.injEq] at h
          obtain ⟨rfl, rfl⟩ := h
          rw [run_lay _ hn heq]
          refine hK _ _ (wpList_lay (by rw [lays_size, hn]) heq2 ?_)
          rw [← lays_append]
          exact k
        · cases h
      · cases h

def layCode (P : Program) : Code → Act → Nat → Option (Exit × Act × List Obj)
  | .skip, a, _ => some (.normal, a, [])
  | .exit id, a, _ => some (.exit id, a, [])
  | .ret, a, _ => some (.ret, a, [])
  | .region _ ops false, a, n =>
    match layOps P ops ops.toList a n with
    | some (a', os) => some (.normal, a', os)
    | none => none
  | .seq x y, a, n =>
    match layCode P x a n with
    | some (.normal, a', os) =>
      match layCode P y a' (n + os.length) with
      | some (e, a'', os') => some (e, a'', os ++ os')
      | none => none
    | r => r
  | .cond c x y, a, n =>
    match a.eval c with
    | .bool true => layCode P x a n
    | .bool false => layCode P y a n
    | _ => none
  | .block id c, a, n =>
    match layCode P c a n with
    | some (.exit id', a', os) => if id' = id then some (.normal, a', os) else some (.exit id', a', os)
    | r => r
  | _, _, _ => none

theorem wp_lay {P : Program} : ∀ (c : Code) {Q : Exit → Act → World → Prop} {a a' : Act} {os : List Obj} {e : Exit} {w : World} {n : Nat}, w.heap.size = n →
    layCode P c a n = some (e, a', os) → Q e a' (lays w os) → c.wp P Q a w
  | .skip, Q, a, a', os, e, w, n, _, h, k => by
    simp only [layCode, Option.some.injEq, Prod.mk.injEq] at h
    obtain ⟨rfl, rfl, rfl⟩ := h
    exact wp_skip k
  | .exit id, Q, a, a', os, e, w, n, _, h, k => by
    simp only [layCode, Option.some.injEq, Prod.mk.injEq] at h
    obtain ⟨rfl, rfl, rfl⟩ := h
    exact wp_exit k
  | .ret, Q, a, a', os, e, w, n, _, h, k => by
    simp only [layCode, Option.some.injEq, Prod.mk.injEq] at h
    obtain ⟨rfl, rfl, rfl⟩ := h
    exact wp_ret k
  | .region id ops false, Q, a, a', os, e, w, n, hn, h, k => by
    simp only [layCode] at h
    split at h
    · rename_i a2 os2 heq
      simp only [Option.some.injEq, Prod.mk.injEq] at h
      obtain ⟨rfl, rfl, rfl⟩ := h
      refine wp_region_list ?_
      have := wpList_lay (Q := Q) hn heq (rest := []) k
      simpa using this
    · cases h
  | .seq x y, Q, a, a', os, e, w, n, hn, h, k => by
    simp only [layCode] at h
    split at h
    · rename_i a2 os2 heq
      split at h
      · rename_i e3 a3 os3 heq3
        simp only [Option.some.injEq, Prod.mk.injEq] at h
        obtain ⟨rfl, rfl, rfl⟩ := h
        refine wp_seq (wp_lay x hn heq ?_)
        exact wp_lay y (by rw [lays_size, hn]) heq3 (by rw [← lays_append]; exact k)
      · cases h
    · rename_i r hne
      refine wp_seq (wp_lay x hn h ?_)
      cases e with
      | normal => exact absurd h (hne _ _)
      | _ => exact k
  | .cond c x y, Q, a, a', os, e, w, n, hn, h, k => by
    simp only [layCode] at h
    split at h
    · rename_i hc; exact wp_cond_true hc (wp_lay x hn h k)
    · rename_i hc; exact wp_cond_false hc (wp_lay y hn h k)
    · cases h
  | .block id c, Q, a, a', os, e, w, n, hn, h, k => by
    simp only [layCode] at h
    split at h
    · rename_i id' a2 os2 heq
      split at h
      · rename_i hid
        simp only [Option.some.injEq, Prod.mk.injEq] at h
        obtain ⟨rfl, rfl, rfl⟩ := h
        refine wp_block (wp_lay c hn heq ?_)
        simp only [Exit.inBlock, hid, if_true]
        exact k
      · rename_i hid
        simp only [Option.some.injEq, Prod.mk.injEq] at h
        obtain ⟨rfl, rfl, rfl⟩ := h
        refine wp_block (wp_lay c hn heq ?_)
        simp only [Exit.inBlock, hid, if_false]
        exact k
    · rename_i r hne
      refine wp_block (wp_lay c hn h ?_)
      cases e with
      | exit id' => exact absurd h (hne _ _ _)
      | _ => exact k
  | .region _ _ true, _, _, _, _, _, _, _, _, h, _ | .loop _, _, _, _, _, _, _, _, _, h, _ | .rangeFunc _ _ _ _, _, _, _, _, _, _, _, _, h, _ | .scope _, _, _, _, _, _, _, _, _, h, _
  | .label _, _, _, _, _, _, _, _, _, h, _ | .goto _, _, _, _, _, _, _, _, _, h, _ | .refuse _, _, _, _, _, _, _, _, _, h, _ => by simp only [layCode] at h; cases h

/-- What a call comes to: its value, the blocks that it lays. -/
def layCall (P : Program) (f : FuncId) (args : Array Value) (n : Nat) : Option (Value × List Obj) :=
  match P.funcs[f]? with
  | none => none
  | some fn =>
    match fn.body with
    | none => none
    | some c =>
      match layCode P c { tmps := args ++ Array.replicate (fn.ntmps - args.size) undef, defers := [] } n with
      | some (.ret, a, os) =>
        match a.defers, laySem P (results fn a.tmps) 0 with
        | [], some (v, []) => some (v, os)
        | _, _ => none
      | some (.normal, a, os) =>
        match a.defers, laySem P (results fn a.tmps) 0 with
        | [], some (v, []) => some (v, os)
        | _, _ => none
      | _ => none

theorem laySem_any {P : Program} {α : Type} (e : Sem α) : ∀ {n m : Nat} {a : α}, laySem P e n = some (a, []) → laySem P e m = some (a, []) := by
  induction e with
  | pure a => intro n m b h; exact h
  | program k ih => intro n m b h; simp only [laySem] at h ⊢; exact ih _ h
  | mark x k ih => intro n m b h; simp only [laySem] at h ⊢; exact ih h
  | new o k ih => intro n m b h; simp only [laySem] at h; split at h <;> simp at h
  | load | store | shape | freeze | frozen | getObj | setObj | choose | sys | halt => intro n m b h; simp only [laySem] at h; cases h

theorem calls_lay {P : Program} {f : FuncId} {args : Array Value} {w : World} {v : Value} {os : List Obj} (h : layCall P f args w.heap.size = some (v, os)) :
    Calls P f args w fun e w' => e = .returned v ∧ lays w os = w' := by
  unfold layCall at h
  split at h
  · cases h
  · rename_i fn hf
    split at h
    · cases h
    · rename_i c hb
      refine calls_of_wp hf hb ?_
      split at h
      · rename_i a os2 heq
        split at h
        · rename_i v2 hd hr
          simp only [Option.some.injEq, Prod.mk.injEq] at h
          obtain ⟨rfl, rfl⟩ := h
          exact wp_lay c rfl heq ⟨hd, _, run_lay (os := []) _ rfl (laySem_any _ hr), rfl, rfl⟩
        · cases h
      · rename_i a os2 heq
        split at h
        · rename_i v2 hd hr
          simp only [Option.some.injEq, Prod.mk.injEq] at h
          obtain ⟨rfl, rfl⟩ := h
          exact wp_lay c rfl heq ⟨hd, _, run_lay (os := []) _ rfl (laySem_any _ hr), rfl, rfl⟩
        · cases h
      · cases h

end Go.Proofs.YtgbkhcmbmffljaaDoor
