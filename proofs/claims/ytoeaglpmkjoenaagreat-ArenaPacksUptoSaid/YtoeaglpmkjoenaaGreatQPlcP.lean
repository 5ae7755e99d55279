/-
  Chapter 21: the merging of slices.SortStableFunc keeps order; the whole. No program in sight.
-/
/-
  Chapter 21: where the document lays a value, and the order in which it lays them: the same as the program's. No program in sight.
-/
import Derived.Test.YtoeaglpmkjoenaaGreatQSrtQ
set_option linter.unusedSimpArgs false
set_option linter.unusedVariables false
namespace Go.Proofs.YtoeaglpmkjoenaaGreat
section
variable {c:Int→Int→Int} {K:Int→Int} (hc:∀ x y,c x y < 0 ↔ K y < K x)
include hc
omit hc in
theorem symD_loc:∀ (N a m b:Nat) (l:List Int),a < m→m < b→b ≤ l.length→Loc a b l (symD c N a m b l)
 | 0,a,m,b,l,_,_,_=>Loc.refl _ _ _
 | N + 1,a,m,b,l,h1,h2,h3=>by
  unfold symD
  split
  ·have:=bsD_in (fun h=>lssAt c l h a) (b - m) m b (by omega)
   exact upD_loc _ _ _ (by omega) (by omega) h3
  ·split
   ·have:=bsD_in (fun h=>!lssAt c l m h) (m - a) a m (by omega)
    exact downD_loc _ _ _ (by omega) (by omega) h3
   ·have hs:=symS_in c (l:=l) h1 h2
    obtain ⟨s,hse⟩:∃ s,symS c a m b l = s:=⟨_,rfl⟩
    rw [hse] at hs
    simp only [hse]
    have p1:Loc a b l (if s < m∧m < (a + b) / 2 + m - s then rotD m (b - a + 1) (m - s) ((a + b) / 2 + m - s - m) l else l):=by
     split
     ·exact rotD_loc _ _ _ _ _ (by omega) (by omega) h3
     ·exact Loc.refl _ _ _
    generalize (if s < m∧m < (a + b) / 2 + m - s then rotD m (b - a + 1) (m - s) ((a + b) / 2 + m - s - m) l else l) = l1 at p1 ⊢
    have p2:Loc a b l (if a < s∧s < (a + b) / 2 then symD c N a s ((a + b) / 2) l1 else l1):=by
     split
     ·exact p1.trans ((symD_loc N a s _ l1 (by omega) (by omega) (by rw [p1.len];omega)).wide (Nat.le_refl _) (by omega))
     ·exact p1
    generalize (if a < s∧s < (a + b) / 2 then symD c N a s ((a + b) / 2) l1 else l1) = l2 at p2 ⊢
    split
    ·exact p2.trans ((symD_loc N _ _ b l2 (by omega) (by omega) (by rw [p2.len];omega)).wide (by omega) (Nat.le_refl _))
    ·exact p2
theorem symS_spec {a m b:Nat} {l:List Int} (h1:a < m) (h2:m < b) (hA:SegR K l a m) (hB:SegR K l m b) (hX:Crs l a m b) (s:Nat) (hs:symS c a m b l = s) :
  (∀ p q,a ≤ p→p < s→(a + b) / 2 + m - s ≤ q→q < b→Bef K (atD l p) (atD l q))∧∀ p q,m ≤ p→p < (a + b) / 2 + m - s→s ≤ q→q < m→Bef K (atD l p) (atD l q):=by
 have hin:=symS_in c (l:=l) h1 h2
 rw [hs] at hin
 obtain ⟨mid,hmid⟩:∃ x,(a + b) / 2 = x:=⟨_,rfl⟩
 obtain ⟨s0,hs0⟩:∃ x,(if m > mid then mid + m - b else a) = x:=⟨_,rfl⟩
 obtain ⟨r0,hr0⟩:∃ x,(if m > mid then mid else m) = x:=⟨_,rfl⟩
 have hb:(m > mid∧s0 = mid + m - b∧r0 = mid) ∨ (¬ m > mid∧s0 = a∧r0 = m):=by
  by_cases e:m > mid
  ·rw [if_pos e] at hs0 hr0;exact .inl ⟨e,hs0.symm,hr0.symm⟩
  ·rw [if_neg e] at hs0 hr0;exact .inr ⟨e,hs0.symm,hr0.symm⟩
 unfold symS at hs
 rw [hmid,hs0,hr0] at hs
 rw [hmid] at hin ⊢
 have hmb:2 * mid ≤ a + b∧a + b ≤ 2 * mid + 1:=by omega
 clear hs0 hr0 hmid
 have ht:∀ h,s0 ≤ h→h < r0→((!lssAt c l (mid + m - 1 - h) h) = true ↔ Bef K (atD l h) (atD l (mid + m - 1 - h))):=fun h e1 e2=>by
  have hx:atD l h < atD l (mid + m - 1 - h):=hX h (mid + m - 1 - h) (by omega) (by omega) (by omega) (by omega)
  constructor
  ·intro e
   exact lss_no hc (by simpa using e) hx
  ·intro e
   rw [lss_not hc e]
   rfl
 have hmono:∀ h h',s0 ≤ h→h ≤ h'→h' < r0→(fun x=>!lssAt c l (mid + m - 1 - x) x) h' = true→(fun x=>!lssAt c l (mid + m - 1 - x) x) h = true:=fun h h' e1 e2 e3 e4=>by
  have k:=(ht h' (by omega) e3).1 e4
  refine (ht h e1 (by omega)).2 ?_
  by_cases e:h = h'
  ·subst e;exact k
  ·exact ((hA h h' (by omega) (by omega) (by omega)).trans k).trans (hB (mid + m - 1 - h') (mid + m - 1 - h) (by omega) (by omega) (by omega))
 obtain ⟨b1,b2⟩:=bsD_spec (fun x=>!lssAt c l (mid + m - 1 - x) x) (b - a) s0 r0 (by omega) (by omega) hmono
 have hin2:=bsD_in (fun x=>!lssAt c l (mid + m - 1 - x) x) (b - a) s0 r0 (by omega)
 rw [hs] at b1 b2 hin2
 refine ⟨fun p q e1 e2 e3 e4=>?_,fun p q e1 e2 e3 e4=>?_⟩
 ·by_cases g:s = s0
  ·omega
  ·have k:=(ht (s - 1) (by omega) (by omega)).1 (b1 (s - 1) (by omega) (by omega))
   rw [show mid + m - 1 - (s - 1) = mid + m - s by omega] at k
   have k1:Bef K (atD l p) (atD l (mid + m - s)):=by
    by_cases g1:p = s - 1
    ·rw [g1];exact k
    ·exact (hA p (s - 1) e1 (by omega) (by omega)).trans k
   by_cases g2:q = mid + m - s
   ·rw [g2];exact k1
   ·exact k1.trans (hB (mid + m - s) q (by omega) (by omega) e4)
 ·by_cases g:s = r0
  ·omega
  ·have k0:=b2 s (Nat.le_refl _) (by omega)
   have k:Bef K (atD l (mid + m - 1 - s)) (atD l s):=lss_yes hc (by simpa using k0)
   have k1:Bef K (atD l p) (atD l s):=by
    by_cases g1:p = mid + m - 1 - s
    ·rw [g1];exact k
    ·exact (hB p (mid + m - 1 - s) e1 (by omega) (by omega)).trans k
   by_cases g2:q = s
   ·rw [g2];exact k1
   ·exact k1.trans (hA s q (by omega) (by omega) e4)
theorem symD_srt:∀ (N a m b:Nat) (l:List Int),a < m→m < b→b ≤ l.length→b - a ≤ N→SegR K l a m→SegR K l m b→Crs l a m b→SegR K (symD c N a m b l) a b
 | 0,a,m,b,l,h1,h2,h3,h4,_,_,_=>by omega
 | N + 1,a,m,b,l,h1,h2,h3,h4,hA,hB,hX=>by
  unfold symD
  by_cases e1:m - a = 1
  ·rw [if_pos e1]
   have hin:=bsD_in (fun h=>lssAt c l h a) (b - m) m b (by omega)
   obtain ⟨k1,k2⟩:=bsD_spec (fun h=>lssAt c l h a) (b - m) m b (by omega) (Nat.le_refl _) (fun h h' q1 q2 q3 q4=>by
    by_cases e:h = h'
    ·subst e;exact q4
    ·exact lss_bef hc ((hB h h' q1 (by omega) q3).trans (lss_yes hc q4)) (hX a h (Nat.le_refl _) (by omega) q1 (by omega)))
   obtain ⟨i,hi⟩:∃ i,bsD (fun h=>lssAt c l h a) (b - m) m b = i:=⟨_,rfl⟩
   rw [hi] at hin k1 k2 ⊢
   intro p q p1 p2 p3
   rw [atD_up _ _ _ _ (by omega),atD_up _ _ _ _ (by omega)]
   by_cases g1:q < i - 1
   ·rw [if_neg (by omega),if_neg (by omega),if_neg (by omega),if_neg (by omega)]
    exact hB _ _ (by omega) (by omega) (by omega)
   ·by_cases g2:q = i - 1
    ·rw [if_neg (by omega),if_neg (by omega),if_neg (by omega),if_pos (by omega)]
     exact lss_yes hc (k1 (p + 1) (by omega) (by omega))
    ·rw [if_pos (show q < a ∨ a + (i - 1 - a) < q by omega)]
     have hq:Bef K (atD l a) (atD l q):=lss_no hc (k2 q (by omega) p3) (hX a q (Nat.le_refl _) (by omega) (by omega) p3)
     by_cases g3:p < i - 1
     ·rw [if_neg (by omega),if_neg (by omega)]
      exact (lss_yes hc (k1 (p + 1) (by omega) (by omega))).trans hq
     ·by_cases g4:p = i - 1
      ·rw [if_neg (by omega),if_pos (by omega)];exact hq
      ·rw [if_pos (by omega)];exact hB p q (by omega) p2 p3
  ·rw [if_neg e1]
   by_cases e2:b - m = 1
   ·rw [if_pos e2]
    have hin:=bsD_in (fun h=>!lssAt c l m h) (m - a) a m (by omega)
    obtain ⟨k1,k2⟩:=bsD_spec (fun h=>!lssAt c l m h) (m - a) a m (by omega) (Nat.le_refl _) (fun h h' q1 q2 q3 q4=>by
     by_cases e:h = h'
     ·subst e;exact q4
     ·have hn:=lss_no hc (i:=m) (j:=h') (by simpa using q4) (hX h' m (by omega) q3 (Nat.le_refl _) h2)
      show (!lssAt c l m h) = true
      rw [lss_not hc ((hA h h' q1 (by omega) q3).trans hn)]
      rfl)
    obtain ⟨i,hi⟩:∃ i,bsD (fun h=>!lssAt c l m h) (m - a) a m = i:=⟨_,rfl⟩
    rw [hi] at hin k1 k2 ⊢
    have y1:∀ h,a ≤ h→h < i→Bef K (atD l h) (atD l m):=fun h q1 q2=>lss_no hc (by simpa using k1 h q1 q2) (hX h m q1 (by omega) (Nat.le_refl _) h2)
    have y2:∀ h,i ≤ h→h < m→Bef K (atD l m) (atD l h):=fun h q1 q2=>lss_yes hc (by simpa using k2 h q1 q2)
    intro p q p1 p2 p3
    rw [atD_down _ _ _ _ (by omega) (by omega),atD_down _ _ _ _ (by omega) (by omega)]
    by_cases g1:p < i
    ·rw [if_pos (show p < m - (m - i) ∨ m < p by omega)]
     by_cases g2:q < i
     ·rw [if_pos (by omega)];exact hA p q p1 p2 (by omega)
     ·rw [if_neg (by omega)]
      by_cases g3:q = i
      ·rw [if_pos (by omega)];exact y1 p p1 g1
      ·rw [if_neg (by omega)];exact hA p (q - 1) p1 (by omega) (by omega)
    ·rw [if_neg (show ¬ (p < m - (m - i) ∨ m < p) by omega),if_neg (show ¬ (q < m - (m - i) ∨ m < q) by omega),if_neg (show ¬ q = m - (m - i) by omega)]
     by_cases g3:p = i
     ·rw [if_pos (by omega)];exact y2 (q - 1) (by omega) (by omega)
     ·rw [if_neg (by omega)];exact hA (p - 1) (q - 1) (by omega) (by omega) (by omega)
   ·rw [if_neg e2]
    have hs:=symS_in c (l:=l) h1 h2
    obtain ⟨s,hse⟩:∃ s,symS c a m b l = s:=⟨_,rfl⟩
    obtain ⟨sp1,sp2⟩:=symS_spec hc h1 h2 hA hB hX s hse
    rw [hse] at hs
    simp only [hse]
    obtain ⟨mid,hmid⟩:∃ x,(a + b) / 2 = x:=⟨_,rfl⟩
    rw [hmid] at hs sp1 sp2 ⊢
    have hmb:2 * mid ≤ a + b∧a + b ≤ 2 * mid + 1:=by omega
    obtain ⟨e,he⟩:∃ x,mid + m - s = x:=⟨_,rfl⟩
    rw [he] at hs sp1 sp2 ⊢
    have p1:Loc a b l (if s < m∧m < e then rotD m (b - a + 1) (m - s) (e - m) l else l):=by
     split
     ·exact rotD_loc _ _ _ _ _ (by omega) (by omega) h3
     ·exact Loc.refl _ _ _
    have q1:∀ k,atD (if s < m∧m < e then rotD m (b - a + 1) (m - s) (e - m) l else l) k = if k < s ∨ e ≤ k then atD l k else if k < mid then atD l (k + (m - s)) else atD l (k - (e - m)):=fun k=>by
     by_cases g:s < m∧m < e
     ·rw [if_pos g,atD_rot _ _ _ _ _ _ (by omega) (by omega) (by omega) (by omega) (by omega)]
      by_cases g1:k < s ∨ e ≤ k
      ·rw [if_pos g1,if_pos (by omega)]
      ·rw [if_neg g1,if_neg (by omega)]
       by_cases g2:k < mid
       ·rw [if_pos g2,if_pos (by omega)]
       ·rw [if_neg g2,if_neg (by omega)]
     ·rw [if_neg g]
      by_cases g1:k < s ∨ e ≤ k
      ·rw [if_pos g1]
      ·rw [if_neg g1]
       by_cases g2:k < mid
       ·rw [if_pos g2,show k + (m - s) = k by omega]
       ·rw [if_neg g2,show k - (e - m) = k by omega]
    generalize (if s < m∧m < e then rotD m (b - a + 1) (m - s) (e - m) l else l) = l1 at p1 q1 ⊢
    have z1:∀ k,a ≤ k→k < s→atD l1 k = atD l k:=fun k g1 g2=>by rw [q1,if_pos (by omega)]
    have z2:∀ k,s ≤ k→k < mid→atD l1 k = atD l (k + (m - s)):=fun k g1 g2=>by rw [q1,if_neg (by omega),if_pos g2]
    have z3:∀ k,mid ≤ k→k < e→atD l1 k = atD l (k - (e - m)):=fun k g1 g2=>by rw [q1,if_neg (by omega),if_neg (by omega)]
    have z4:∀ k,e ≤ k→k < b→atD l1 k = atD l k:=fun k g1 g2=>by rw [q1,if_pos (by omega)]
    have sep:∀ p q,a ≤ p→p < mid→mid ≤ q→q < b→Bef K (atD l1 p) (atD l1 q):=fun p q g1 g2 g3 g4=>by
     by_cases gp:p < s
     ·rw [z1 p g1 gp]
      by_cases gq:q < e
      ·rw [z3 q g3 gq];exact hA _ _ g1 (by omega) (by omega)
      ·rw [z4 q (by omega) g4];exact sp1 p q g1 gp (by omega) g4
     ·rw [z2 p (by omega) g2]
      by_cases gq:q < e
      ·rw [z3 q g3 gq];exact sp2 _ _ (by omega) (by omega) (by omega) (by omega)
      ·rw [z4 q (by omega) g4];exact hB _ _ (by omega) (by omega) g4
    have sA1:SegR K l1 a s:=fun p q g1 g2 g3=>by rw [z1 p g1 (by omega),z1 q (by omega) g3];exact hA p q g1 g2 (by omega)
    have sB1:SegR K l1 s mid:=fun p q g1 g2 g3=>by rw [z2 p g1 (by omega),z2 q (by omega) g3];exact hB _ _ (by omega) (by omega) (by omega)
    have sX1:Crs l1 a s mid:=fun p q g1 g2 g3 g4=>by rw [z1 p g1 g2,z2 q g3 g4];exact hX _ _ g1 (by omega) (by omega) (by omega)
    have sA2:SegR K l1 mid e:=fun p q g1 g2 g3=>by rw [z3 p g1 (by omega),z3 q (by omega) g3];exact hA _ _ (by omega) (by omega) (by omega)
    have sB2:SegR K l1 e b:=fun p q g1 g2 g3=>by rw [z4 p g1 (by omega),z4 q (by omega) g3];exact hB p q (by omega) g2 g3
    have sX2:Crs l1 mid e b:=fun p q g1 g2 g3 g4=>by rw [z3 p g1 g2,z4 q g3 g4];exact hX _ _ (by omega) (by omega) (by omega) g4
    have p2:Loc a mid l1 (if a < s∧s < mid then symD c N a s mid l1 else l1)∧SegR K (if a < s∧s < mid then symD c N a s mid l1 else l1) a mid:=by
     by_cases g:a < s∧s < mid
     ·rw [if_pos g]
      exact ⟨symD_loc N a s mid l1 g.1 g.2 (by rw [p1.len];omega),symD_srt N a s mid l1 g.1 g.2 (by rw [p1.len];omega) (by omega) sA1 sB1 sX1⟩
     ·rw [if_neg g]
      refine ⟨Loc.refl _ _ _,?_⟩
      by_cases g1:a < s
      ·rw [show mid = s by omega];exact sA1
      ·rw [show a = s by omega];exact sB1
    generalize (if a < s∧s < mid then symD c N a s mid l1 else l1) = l2 at p2 ⊢
    obtain ⟨p2,r2⟩:=p2
    have o2:∀ k,mid ≤ k→atD l2 k = atD l1 k:=fun k g=>p2.out k (.inr g)
    have p3:Loc mid b l2 (if mid < e∧e < b then symD c N mid e b l2 else l2)∧SegR K (if mid < e∧e < b then symD c N mid e b l2 else l2) mid b:=by
     by_cases g:mid < e∧e < b
     ·rw [if_pos g]
      refine ⟨symD_loc N mid e b l2 g.1 g.2 (by rw [p2.len,p1.len];exact h3),symD_srt N mid e b l2 g.1 g.2 (by rw [p2.len,p1.len];exact h3) (by omega) ?_ ?_ ?_⟩
      ·intro p q g1 g2 g3;rw [o2 p g1,o2 q (by omega)];exact sA2 p q g1 g2 g3
      ·intro p q g1 g2 g3;rw [o2 p (by omega),o2 q (by omega)];exact sB2 p q g1 g2 g3
      ·intro p q g1 g2 g3 g4;rw [o2 p g1,o2 q (by omega)];exact sX2 p q g1 g2 g3 g4
     ·rw [if_neg g]
      refine ⟨Loc.refl _ _ _,?_⟩
      intro p q g1 g2 g3
      rw [o2 p g1,o2 q (by omega)]
      by_cases g4:mid < e
      ·exact sA2 p q g1 g2 (by omega)
      ·exact sB2 p q (by omega) g2 g3
    generalize (if mid < e∧e < b then symD c N mid e b l2 else l2) = l3 at p3 ⊢
    obtain ⟨p3,r3⟩:=p3
    intro p q g1 g2 g3
    by_cases gq:q < mid
    ·rw [p3.out p (.inl (by omega)),p3.out q (.inl gq)];exact r2 p q g1 g2 gq
    ·by_cases gp:p < mid
     ·obtain ⟨q',t1,t2,t3⟩:=p3.ins q (by omega) g3
      obtain ⟨p',u1,u2,u3⟩:=p2.ins p g1 gp
      rw [p3.out p (.inl gp),u3,t3,o2 q' t1]
      exact sep p' q' u1 u2 t1 t2
     ·exact r3 p q (by omega) g2 g3
inductive Parts (K:Int→Int) (l0 l:List Int) (s n:Nat):Nat→Prop
 | stop {a:Nat}:n ≤ a→Parts K l0 l s n a
 | part {a:Nat}:a < n→SegR K l a (min (a + s) n)→(∀ i,a ≤ i→i < min (a + s) n→∃ i',a ≤ i'∧i' < min (a + s) n∧atD l i = atD l0 i')→Parts K l0 l s n (a + s)→Parts K l0 l s n a
omit hc in
theorem Parts.eq {l0 l l':List Int} {s n a:Nat} (h:Parts K l0 l s n a) (he:∀ i,a ≤ i→atD l' i = atD l i):Parts K l0 l' s n a:=by
 induction h with
 | stop h=>exact .stop h
 | part h1 h2 h4 _ ih =>
  refine .part h1 (fun i j e1 e2 e3=>?_) (fun i e1 e2=>?_) (ih fun i hi=>he i (by omega))
  ·rw [he i e1,he j (by omega)];exact h2 i j e1 e2 e3
  ·rw [he i e1];exact h4 i e1 e2
theorem insD_one {n a b:Nat} {l0 l:List Int} (hn:l.length = n) (hu:∀ p q,p < q→q < n→atD l0 p < atD l0 q) (hs:∀ i,a ≤ i→atD l i = atD l0 i) (h1:a ≤ b) (h2:b ≤ n) :
  SegR K (insD c a b l) a b∧Loc a b l (insD c a b l):=insD_srt hc (by omega) h1 fun p q e1 e2 e3=>by rw [hs p e1,hs q (by omega)];exact hu p q e2 (by omega)
theorem blkD_parts {n:Nat} {l0:List Int} (hu:∀ p q,p < q→q < n→atD l0 p < atD l0 q):∀ (k a:Nat) (l:List Int),l.length = n→a ≤ n→n - a ≤ k→(∀ i,a ≤ i→atD l i = atD l0 i) →
  Parts K l0 (blkD c n k a l) 20 n a∧(∀ i,i < a→atD (blkD c n k a l) i = atD l i)∧(blkD c n k a l).length = n
 | 0,a,l,hn,h1,h2,hs=>by
  obtain ⟨r1,r2⟩:=insD_one hc hn hu hs h1 (Nat.le_refl _)
  exact ⟨.stop (by omega),fun i hi=>r2.out i (.inl hi),r2.len.trans hn⟩
 | k + 1,a,l,hn,h1,h2,hs=>by
  by_cases e:a + 20 ≤ n
  ·rw [blkD,if_pos e]
   obtain ⟨r1,r2⟩:=insD_one hc hn hu hs (show a ≤ a + 20 by omega) e
   obtain ⟨q1,q2,q3⟩:=blkD_parts hu k (a + 20) (insD c a (a + 20) l) (r2.len.trans hn) e (by omega) (fun i hi=>(r2.out i (.inr hi)).trans (hs i (by omega)))
   refine ⟨.part (by omega) (fun i j e1 e2 e3=>?_) (fun i e1 e2=>?_) q1,fun i hi=>(q2 i (by omega)).trans (r2.out i (.inl hi)),q3⟩
   ·rw [q2 i (by omega),q2 j (by omega)];exact r1 i j e1 e2 (by omega)
   ·obtain ⟨i',t1,t2,t3⟩:=r2.ins i e1 (by omega)
    exact ⟨i',t1,by omega,by rw [q2 i (by omega),t3,hs i' t1]⟩
  ·rw [blkD,if_neg e]
   obtain ⟨r1,r2⟩:=insD_one hc hn hu hs h1 (Nat.le_refl _)
   refine ⟨?_,fun i hi=>r2.out i (.inl hi),r2.len.trans hn⟩
   by_cases e0:a < n
   ·refine .part e0 (by rw [show min (a + 20) n = n by omega];exact r1) (fun i e1 e2=>?_) (.stop (by omega))
    obtain ⟨i',t1,t2,t3⟩:=r2.ins i e1 (by omega)
    exact ⟨i',t1,by omega,by rw [t3,hs i' t1]⟩
   ·exact .stop (by omega)
omit hc in
theorem parts_one {l0 l:List Int} {s n a:Nat} (h:Parts K l0 l s n a) (ha:a < n):SegR K l a (min (a + s) n)∧(∀ i,a ≤ i→i < min (a + s) n→∃ i',a ≤ i'∧i' < min (a + s) n∧atD l i = atD l0 i')∧Parts K l0 l s n (a + s):=by
 cases h with
 | stop h=>omega
 | part h1 h2 h3 h4=>exact ⟨h2,h3,h4⟩
theorem mrg_one {n s a b:Nat} {N:Nat} {l0 l:List Int} (hn:l.length = n) (hu:∀ p q,p < q→q < n→atD l0 p < atD l0 q) (h:Parts K l0 l s n a) (hs:0 < s) (h1:a + s < n) (hb:b = min (a + 2 * s) n) (hN:b - a ≤ N) :
  SegR K (symD c N a (a + s) b l) a b∧Loc a b l (symD c N a (a + s) b l)∧(∀ i,a ≤ i→i < b→∃ i',a ≤ i'∧i' < b∧atD (symD c N a (a + s) b l) i = atD l0 i')∧Parts K l0 l s n (a + 2 * s):=by
 obtain ⟨p1,p2,p3⟩:=parts_one h (by omega)
 obtain ⟨q1,q2,q3⟩:=parts_one p3 h1
 rw [show min (a + s) n = a + s by omega] at p1 p2
 rw [show min (a + s + s) n = b by omega] at q1 q2
 rw [show a + s + s = a + 2 * s by omega] at q3
 have hX:Crs l a (a + s) b:=fun i j e1 e2 e3 e4=>by
  obtain ⟨i',a1,a2,a3⟩:=p2 i e1 e2
  obtain ⟨j',b1,b2,b3⟩:=q2 j e3 e4
  rw [a3,b3]
  exact hu i' j' (by omega) (by omega)
 have hL:=symD_loc (c:=c) N a (a + s) b l (by omega) (by omega) (by omega)
 refine ⟨symD_srt hc N a (a + s) b l (by omega) (by omega) (by omega) hN p1 q1 hX,hL,fun i e1 e2=>?_,q3⟩
 obtain ⟨i',t1,t2,t3⟩:=hL.ins i e1 e2
 by_cases g:i' < a + s
 ·obtain ⟨j,u1,u2,u3⟩:=p2 i' t1 g
  exact ⟨j,u1,by omega,t3.trans u3⟩
 ·obtain ⟨j,u1,u2,u3⟩:=q2 i' (by omega) t2
  exact ⟨j,by omega,u2,t3.trans u3⟩
theorem mrgD_parts {n s:Nat} {l0:List Int} (hs:0 < s) (hu:∀ p q,p < q→q < n→atD l0 p < atD l0 q):∀ (k a:Nat) (l:List Int),l.length = n→n + 1 - a ≤ k→a ≤ n→Parts K l0 l s n a →
  Parts K l0 (mrgD c n s k a l) (2 * s) n a∧(∀ i,i < a→atD (mrgD c n s k a l) i = atD l i)∧(mrgD c n s k a l).length = n
 | 0,a,l,hn,h1,h2,h=>by omega
 | k + 1,a,l,hn,h1,h2,h=>by
  unfold mrgD
  by_cases e:a + 2 * s ≤ n
  ·rw [if_pos e]
   obtain ⟨r1,r2,r3,r4⟩:=mrg_one hc (N:=2 * s) (b:=a + 2 * s) hn hu h hs (by omega) (by omega) (by omega)
   obtain ⟨q1,q2,q3⟩:=mrgD_parts hs hu k (a + 2 * s) _ (r2.len.trans hn) (by omega) e (r4.eq fun i hi=>r2.out i (.inr hi))
   refine ⟨.part (by omega) (fun i j e1 e2 e3=>?_) (fun i e1 e2=>?_) q1,fun i hi=>(q2 i (by omega)).trans (r2.out i (.inl hi)),q3⟩
   ·rw [q2 i (by omega),q2 j (by omega)];exact r1 i j e1 e2 (by omega)
   ·obtain ⟨i',t1,t2,t3⟩:=r3 i e1 (by omega)
    exact ⟨i',t1,by omega,by rw [q2 i (by omega),t3]⟩
  ·rw [if_neg e]
   by_cases e2:a + s < n
   ·rw [if_pos e2]
    obtain ⟨r1,r2,r3,r4⟩:=mrg_one hc (N:=n - a) (b:=n) hn hu h hs e2 (by omega) (Nat.le_refl _)
    exact ⟨.part (by omega) (by rw [show min (a + 2 * s) n = n by omega];exact r1) (by rw [show min (a + 2 * s) n = n by omega];exact r3) (.stop (by omega)),fun i hi=>r2.out i (.inl hi),r2.len.trans hn⟩
   ·rw [if_neg e2]
    refine ⟨?_,fun _ _=>rfl,hn⟩
    by_cases e0:a < n
    ·obtain ⟨p1,p2,-⟩:=parts_one h e0
     rw [show min (a + s) n = n by omega] at p1 p2
     exact .part e0 (by rw [show min (a + 2 * s) n = n by omega];exact p1) (by rw [show min (a + 2 * s) n = n by omega];exact p2) (.stop (by omega))
    ·exact .stop (by omega)
theorem pasD_srt {n:Nat} {l0:List Int} (hu:∀ p q,p < q→q < n→atD l0 p < atD l0 q):∀ (k s:Nat) (l:List Int),l.length = n→0 < s→n - s ≤ k→Parts K l0 l s n 0→SegR K (pasD c n k s l) 0 n
 | k,s,l,hn,h0,h1,h=>by
  by_cases e:s < n
  ·match k,h1 with
   | k + 1,h1 =>
    rw [pasD,if_pos e]
    obtain ⟨q1,-,q3⟩:=mrgD_parts hc h0 hu (n + 1) 0 l hn (by omega) (Nat.zero_le _) h
    exact pasD_srt hu k (2 * s) _ q3 (by omega) (by omega) q1
   | 0,h1=>omega
  ·have hp:pasD c n k s l = l:=by
    cases k with
    | zero=>rfl
    | succ k=>rw [pasD,if_neg e]
   rw [hp]
   by_cases e0:0 < n
   ·have:=(parts_one h e0).1
    rw [show min (0 + s) n = n by omega] at this
    exact this
   ·intro i j _ _ _;omega
theorem stabD_srt {l:List Int} (hu:∀ p q,p < q→q < l.length→atD l p < atD l q):SegR K (stabD c l) 0 l.length:=by
 unfold stabD
 obtain ⟨q1,-,q3⟩:=blkD_parts hc hu l.length 0 l rfl (Nat.zero_le _) (by omega) (fun _ _=>rfl)
 exact pasD_srt hc hu l.length 20 _ q3 (by omega) (by omega) q1
end
end Go.Proofs.YtoeaglpmkjoenaaGreat
set_option linter.unusedSimpArgs false
set_option linter.unusedVariables false
namespace Go.Proofs.YtoeaglpmkjoenaaGreat
def CandD (rs:List (Int × Int)) (size x e:Int):Prop :=
 (x = 0 ∨ ∃ b ∈ rs,x = b.2)∧(∀ b ∈ rs,¬ (b.1 ≤ x∧x < b.2))∧(∃ b ∈ rs,e = b.1∧x ≤ b.1)∧(∀ b ∈ rs,x ≤ b.1→e ≤ b.1)∧size ≤ e - x
def PlaceS (rs:List (Int × Int)) (size r:Int):Prop :=
 (∃ e,CandD rs size r e∧∀ x' e',CandD rs size x' e'→e - r < e' - x' ∨ (e - r = e' - x'∧r ≤ x')) ∨ ((∀ x e,¬ CandD rs size x e)∧0 ≤ r∧(∀ b ∈ rs,b.2 ≤ r)∧(r = 0 ∨ ∃ b ∈ rs,r = b.2))
theorem place_one {rs:List (Int × Int)} {size r r':Int} (h:PlaceS rs size r) (h':PlaceS rs size r'):r = r':=by
 rcases h with ⟨e,c,m⟩ | ⟨n,h0,h1,h2⟩
 ·rcases h' with ⟨e',c',m'⟩ | ⟨n',-⟩
  ·have a1:=m r' e' c'
   have a2:=m' r e c
   omega
  ·exact (n' _ _ c).elim
 ·rcases h' with ⟨e',c',m'⟩ | ⟨n',k0,k1,k2⟩
  ·exact (n _ _ c').elim
  ·rcases h2 with rfl | ⟨b,hb,rfl⟩
   ·rcases k2 with rfl | ⟨b',hb',rfl⟩
    ·rfl
    ·have:=h1 b' hb';omega
   ·rcases k2 with rfl | ⟨b',hb',rfl⟩
    ·have:=k1 b hb;omega
    ·have:=k1 b hb;have:=h1 b' hb';omega
theorem cand_perm {rs rs':List (Int × Int)} (h:rs.Perm rs') {size x e:Int} (c:CandD rs size x e):CandD rs' size x e:=by
 obtain ⟨c1,c2,⟨b,hb,c3⟩,c4,c5⟩:=c
 exact ⟨c1.imp_right fun ⟨b,hb,e⟩=>⟨b,h.mem_iff.1 hb,e⟩,fun b hb=>c2 b (h.mem_iff.2 hb),⟨b,h.mem_iff.1 hb,c3⟩,fun b hb=>c4 b (h.mem_iff.2 hb),c5⟩
theorem place_perm {rs rs':List (Int × Int)} (h:rs.Perm rs') {size r:Int} (c:PlaceS rs size r):PlaceS rs' size r:=by
 rcases c with ⟨e,c,m⟩ | ⟨n,h0,h1,h2⟩
 ·exact .inl ⟨e,cand_perm h c,fun x' e' c'=>m x' e' (cand_perm h.symm c')⟩
 ·exact .inr ⟨fun x e c=>n x e (cand_perm h.symm c),h0,fun b hb=>h1 b (h.mem_iff.2 hb),h2.imp_right fun ⟨b,hb,e⟩=>⟨b,h.mem_iff.1 hb,e⟩⟩
theorem scan_place {size:Int} (hs:0 < size):∀ (l pre:List (Int × Int)) (best room e:Int),InOrder (pre++l)→(∀ b ∈ pre++l,0 ≤ b.1∧b.1 < b.2)→0 ≤ e→(∀ b ∈ pre,b.2 ≤ e)→(e = 0 ∨ ∃ b ∈ pre,e = b.2) →
  ((best < 0∧∀ x e',CandD (pre++l) size x e'→e ≤ x) ∨ (0 ≤ best∧size < room∧CandD (pre++l) size best (best + room)∧best < e∧∀ x e',CandD (pre++l) size x e'→x < e→room < e' - x ∨ (room = e' - x∧best ≤ x))) →
  (scanD size l best room e ≥ 0∧PlaceS (pre++l) size (scanD size l best room e)) ∨ (scanD size l best room e < 0∧∀ x e',¬ CandD (pre++l) size x e')
 | [],pre,best,room,e,ho,hp,h0,h1,h2,hb=>by
  rw [List.append_nil] at hb ho hp ⊢
  have hlt:∀ x e',CandD pre size x e'→x < e:=fun x e' c=>by
   obtain ⟨b,hb,rfl,hx⟩:=c.2.2.1
   have:=h1 b hb
   have:=(hp b hb).2
   omega
  show (best ≥ 0∧PlaceS pre size best) ∨ (best < 0∧_)
  rcases hb with ⟨n1,n2⟩ | ⟨g0,g1,g2,g3,g4⟩
  ·exact .inr ⟨n1,fun x e' c=>by have:=n2 x e' c;have:=hlt x e' c;omega⟩
  ·refine .inl ⟨g0,.inl ⟨best + room,g2,fun x' e' c=>?_⟩⟩
   have:=g4 x' e' c (hlt x' e' c)
   omega
 | b :: l,pre,best,room,e,ho,hp,h0,h1,h2,hb=>by
  have ea:pre++b :: l = (pre++[b])++l:=by rw [List.append_assoc];rfl
  have hbm:b ∈ pre++b :: l:=List.mem_append_right _ List.mem_cons_self
  have hord:∀ q ∈ l,b.1 ≤ q.1:=fun q hq=>by
   have:∀ (m:List (Int × Int)),InOrder (m++b :: l)→∀ q ∈ l,b.1 ≤ q.1:=fun m=>by
    induction m with
    | nil=>exact fun h=>h.1
    | cons a m ih=>exact fun h=>ih h.2
   exact this pre ho q hq
  have hbb:=hp b hbm
  have he':max e b.2 = 0 ∨ ∃ q ∈ pre++[b],max e b.2 = q.2:=by
   by_cases g:b.2 ≤ e
   ·rw [show max e b.2 = e by omega]
    exact h2.imp_right fun ⟨q,hq,e⟩=>⟨q,List.mem_append_left _ hq,e⟩
   ·exact .inr ⟨b,List.mem_append_right _ (List.mem_singleton.2 rfl),by omega⟩
  have hle:∀ q ∈ pre++[b],q.2 ≤ max e b.2:=fun q hq=>by
   rcases List.mem_append.1 hq with hq | hq
   ·have:=h1 q hq;omega
   ·rw [List.mem_singleton.1 hq];omega
  have hone:∀ x y,CandD (pre++b :: l) size x y→e ≤ x→x < max e b.2→x = e∧y = b.1:=fun x y c e1 e2=>by
   have hxb:x < b.1:=by
    have:=c.2.1 b hbm
    by_cases g:b.2 ≤ e
    ·omega
    ·by_cases g1:b.1 ≤ x
     ·exact (this ⟨g1,by omega⟩).elim
     ·omega
   have hxe:x = e:=by
    rcases c.1 with g | ⟨q,hq,g⟩
    ·omega
    ·rcases List.mem_append.1 hq with hq | hq
     ·have:=h1 q hq;omega
     ·have hqq:=(hp q (List.mem_append_right _ hq)).2
      rcases List.mem_cons.1 hq with rfl | hq
      ·omega
      ·have:=hord q hq;omega
   refine ⟨hxe,?_⟩
   obtain ⟨q,hq,rfl,hx⟩:=c.2.2.1
   have h3:=c.2.2.2.1 b hbm (by omega)
   rcases List.mem_append.1 hq with hq | hq
   ·have:=h1 q hq;have:=(hp q (List.mem_append_left _ hq)).2;omega
   ·rcases List.mem_cons.1 hq with rfl | hq
    ·rfl
    ·have:=hord q hq;omega
  have hgap:b.1 - e ≥ size→CandD (pre++b :: l) size e b.1:=fun g=>by
   refine ⟨h2.imp_right fun ⟨q,hq,k⟩=>⟨q,List.mem_append_left _ hq,k⟩,fun q hq hc=>?_,⟨b,hbm,rfl,by omega⟩,fun q hq hx=>?_,by omega⟩
   ·rcases List.mem_append.1 hq with hq | hq
    ·have:=h1 q hq;omega
    ·rcases List.mem_cons.1 hq with rfl | hq
     ·omega
     ·have:=hord q hq;omega
   ·rcases List.mem_append.1 hq with hq | hq
    ·have:=h1 q hq;have:=(hp q (List.mem_append_left _ hq)).2;omega
    ·rcases List.mem_cons.1 hq with rfl | hq
     ·omega
     ·exact hord q hq
  unfold scanD
  by_cases hc:b.1 - e ≥ size∧b.1 - e > 0∧(best < 0 ∨ b.1 - e < room)
  ·rw [if_pos hc]
   have hcand:=hgap hc.1
   by_cases hq:b.1 - e = size
   ·rw [if_pos hq]
    refine .inl ⟨h0,.inl ⟨b.1,hcand,fun x' e' c'=>?_⟩⟩
    have hsz:=c'.2.2.2.2
    by_cases g:e ≤ x'
    ·omega
    ·rcases hb with ⟨n1,n2⟩ | ⟨g0,g1,g2,g3,g4⟩
     ·have:=n2 x' e' c';omega
     ·have:=g4 x' e' c' (by omega);omega
   ·rw [if_neg hq,ea]
    rw [ea] at hb ho hp hcand hone
    refine scan_place hs l (pre++[b]) e (b.1 - e) (max e b.2) ho hp (by omega) hle he' (.inr ⟨h0,by omega,?_,?_,fun x e' c g=>?_⟩)
    ·rw [show e + (b.1 - e) = b.1 by omega];exact hcand
    ·omega
    ·by_cases g2:e ≤ x
     ·obtain ⟨r1,r2⟩:=hone x e' c g2 g
      omega
     ·rcases hb with ⟨n1,n2⟩ | ⟨k0,k1,k2,k3,k4⟩
      ·have:=n2 x e' c;omega
      ·have:=k4 x e' c (by omega);omega
  ·rw [if_neg hc,ea]
   rw [ea] at hb ho hp hone
   refine scan_place hs l (pre++[b]) best room (max e b.2) ho hp (by omega) hle he' ?_
   rcases hb with ⟨n1,n2⟩ | ⟨k0,k1,k2,k3,k4⟩
   ·refine .inl ⟨n1,fun x e' c=>?_⟩
    by_cases g:x < max e b.2
    ·obtain ⟨r1,r2⟩:=hone x e' c (n2 x e' c) g
     have:=c.2.2.2.2
     omega
    ·omega
   ·refine .inr ⟨k0,k1,k2,by omega,fun x e' c g=>?_⟩
    by_cases g2:e ≤ x
    ·obtain ⟨r1,r2⟩:=hone x e' c g2 g
     have:=c.2.2.2.2
     omega
    ·exact k4 x e' c (by omega)
theorem hole_place {rs:List (Int × Int)} {size:Int} (hs:0 < size) (hp:∀ b ∈ rs,0 ≤ b.1∧b.1 < b.2):PlaceS rs size (holeD (srtB rs) size):=by
 obtain ⟨h1,h2⟩:=srtB_law rs
 refine place_perm h1 ?_
 have hp':∀ b ∈ srtB rs,0 ≤ b.1∧b.1 < b.2:=fun b hb=>hp b (h1.mem_iff.1 hb)
 have h:=scan_place hs (srtB rs) [] (-1) 0 0 h2 hp' (Int.le_refl _) (fun b hb=>by cases hb) (.inl rfl) (.inl ⟨by omega,fun x e' c=>by
  rcases c.1 with rfl | ⟨b,hb,rfl⟩
  ·exact Int.le_refl _
  ·have:=hp' b hb;omega⟩)
 rw [List.nil_append] at h
 unfold holeD
 rcases h with ⟨g,h⟩ | ⟨g,h⟩
 ·rw [if_pos g];exact h
 ·rw [if_neg (by omega)]
  obtain ⟨k1,k2⟩:=endD_ge (srtB rs) 0
  exact .inr ⟨h,k1,k2,endD_is _ 0⟩
end Go.Proofs.YtoeaglpmkjoenaaGreat
