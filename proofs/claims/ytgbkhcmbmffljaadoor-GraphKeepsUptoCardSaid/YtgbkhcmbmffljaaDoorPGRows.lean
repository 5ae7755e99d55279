/-
  Rws of the call's own that grow by 'append', side by side; what lies outside of them stays.
-/
import Derived.Test.YtgbkhcmbmffljaaDoorPAwake
set_option linter.unusedSimpArgs false
set_option linter.unusedVariables false
namespace Go.Proofs.YtgbkhcmbmffljaaDoor
open Go.RowKit
open Rep (rep)
structure RowV where
 v:Value
 e:TypeId
 size:Nat
 n:Nat
 xs:List Value
def Off (rs:List RowV) (k:Nat):Prop:=∀ (i:Nat) (r:RowV),rs[i]? = some r→r.v.ownBlock ≠ some k
structure Rws (lo:Nat) (ban:List Nat) (rs:List RowV) (W:World):Prop where
 own:∀ (i:Nat) (r:RowV),rs[i]? = some r→W.ownsRow lo r.e r.size r.v r.n r.xs
 free:∀ b ∈ ban,Off rs b
 apart:∀ (i j:Nat) (r s:RowV),i ≠ j→rs[i]? = some r→rs[j]? = some s→∀ b,r.v.ownBlock = some b→s.v.ownBlock ≠ some b
 base:lo ≤ W.heap.size
 ban:∀ b ∈ ban,lo ≤ b∧b < W.heap.size
def cold (lo:Nat) (ban:List Nat) (rs:List RowV) (W:World):Zone:=⟨fun k=>lo ≤ k∧k < W.heap.size∧k ∉ ban∧Off rs k,true⟩
structure Moves (lo:Nat) (ban:List Nat) (rs rs':List RowV) (W W':World):Prop where
 rows:Rws lo ban rs' W'
 block:∀ k,k < W.heap.size→k ∉ ban→Off rs k→W'.heap[k]? = W.heap[k]?∧Off rs' k
 size:W.heap.size ≤ W'.heap.size
 os:W'.os = W.os
 tape:W'.tape = W.tape
 output:W'.output = W.output
section
variable {lo:Nat} {ban:List Nat} {rs rs' rs2:List RowV} {W W' W2:World}
theorem Rws.off_old (h:Rws lo ban rs W) {k:Nat} (hk:k < lo ∨ W.heap.size ≤ k):Off rs k:=fun i r hi hb=>by
 have:=(h.own i r hi).lt k hb
 omega
theorem Rws.self (h:Rws lo ban rs W):Moves lo ban rs rs W W:=⟨h,fun k _ _ ho=>⟨rfl,ho⟩,Nat.le_refl _,rfl,rfl,rfl⟩
theorem Moves.trans (h:Moves lo ban rs rs' W W') (k:Moves lo ban rs' rs2 W' W2):Moves lo ban rs rs2 W W2 :=
 ⟨k.rows,fun b hb hn ho=>by
  obtain ⟨h1,h2⟩:=h.block b hb hn ho
  obtain ⟨h3,h4⟩:=k.block b (Nat.lt_of_lt_of_le hb h.size) hn h2
  exact ⟨h3.trans h1,h4⟩,Nat.le_trans h.size k.size,k.os.trans h.os,k.tape.trans h.tape,k.output.trans h.output⟩
theorem Moves.cold_le (h:Moves lo ban rs rs' W W'):(cold lo ban rs W).le (cold lo ban rs' W') :=
 ⟨fun b ⟨h0,h1,h2,h3⟩=>⟨h0,Nat.lt_of_lt_of_le h1 h.size,h2,(h.block b h1 h2 h3).2⟩,fun _=>rfl⟩
theorem Moves.keeps (h:Moves lo ban rs rs' W W'):Keeps (cold lo ban rs W) W W':=.of_block fun k ⟨_,h1,h2,h3⟩=>(h.block k h1 h2 h3).1
theorem Moves.rep (h:Moves lo ban rs rs' W W') {α:Type} [Rep α] {c:List Value} {a:α} (hr:rep W (cold lo ban rs W) c a):Rep.rep W' (cold lo ban rs' W') c a:=Rep.more (Rep.keep hr h.keeps) h.cold_le
theorem Moves.chunks (h:Moves lo ban rs rs' W W') {α:Type} [Rep α] {xs:List Value} {l:List α} (hr:Chunks W (cold lo ban rs W) xs l):Chunks W' (cold lo ban rs' W') xs l:=Chunks.more h.cold_le (Chunks.keep h.keeps hr)
theorem Moves.from_lo (h:Moves lo ban rs rs' W W') (hr:Rws lo ban rs W):Below lo W W' :=
 ⟨h.os,h.tape,h.output,h.size,fun k hk=>(h.block k (Nat.lt_of_lt_of_le hk hr.base) (fun hm=>by have:=(hr.ban k hm).1;omega) (hr.off_old (.inl hk))).1⟩
theorem Rws.below (h:Rws lo ban rs W) (hb:Below W.heap.size W W'):Moves lo ban rs rs W W' :=
 ⟨⟨fun i r hi=>own_below (h.own i r hi) hb,h.free,h.apart,Nat.le_trans h.base hb.size,fun b hm=>⟨(h.ban b hm).1,Nat.lt_of_lt_of_le (h.ban b hm).2 hb.size⟩⟩,
  fun k hk _ ho=>⟨hb.block k hk,ho⟩,hb.size,hb.os,hb.tape,hb.output⟩
theorem Rws.wrote (h:Rws lo ban rs W) {b:Nat} (hm:b ∈ ban) (hg:W.grownBy W' (some b)):Moves lo ban rs rs W W' :=
 ⟨⟨fun i r hi=>(h.own i r hi).kept hg (.inr (h.free b hm i r hi)),h.free,h.apart,Nat.le_trans h.base hg.size,fun b hm=>⟨(h.ban b hm).1,Nat.lt_of_lt_of_le (h.ban b hm).2 hg.size⟩⟩,
  fun k hk hn ho=>⟨hg.block k hk (fun e=>hn (by injection e with e;subst e;exact hm)),ho⟩,hg.size,hg.os,hg.tape,hg.output⟩
theorem Rws.grow (h:Rws lo ban rs W) {i:Nat} {r r':RowV} (hi:rs[i]? = some r) (hg:W.grownBy W' r.v.ownBlock) (ho:W'.ownsRow lo r'.e r'.size r'.v r'.n r'.xs)
  (hb:r'.v.ownBlock = r.v.ownBlock ∨ r'.v.ownBlock = some W.heap.size ∨ r'.v.ownBlock = none):Moves lo ban rs (rs.set i r') W W':=by
 have hlt:i < rs.length:=(List.getElem?_eq_some_iff.1 hi).1
 have hget:∀ (j:Nat) (s:RowV),(rs.set i r')[j]? = some s→(j = i∧s = r') ∨ (j ≠ i∧rs[j]? = some s):=fun j s hj=>by
  rw [List.getElem?_set] at hj
  split at hj
  ·rename_i e;subst e;(try rw [if_pos hlt] at hj);injection hj with hj;exact .inl ⟨rfl,hj.symm⟩
  ·rename_i e;exact .inr ⟨fun e'=>e e'.symm,hj⟩
 have hoff:∀ k,k < W.heap.size→Off rs k→Off (rs.set i r') k:=fun k hk hoff j s hj=>by
  rcases hget j s hj with ⟨rfl,rfl⟩ | ⟨_,hj⟩
  ·rcases hb with e | e | e <;> rw [e]
   ·exact hoff _ _ hi
   ·intro e;injection e with e;omega
   ·intro e;cases e
  ·exact hoff j s hj
 refine ⟨⟨?_,?_,?_,Nat.le_trans h.base hg.size,fun b hm=>⟨(h.ban b hm).1,Nat.lt_of_lt_of_le (h.ban b hm).2 hg.size⟩⟩,?_,hg.size,hg.os,hg.tape,hg.output⟩
 ·intro j s hj
  rcases hget j s hj with ⟨rfl,rfl⟩ | ⟨hne,hj⟩
  ·exact ho
  ·refine (h.own j s hj).kept hg ?_
   cases hs:s.v.ownBlock with
   | none=>exact .inl rfl
   | some b=>exact .inr fun e=>h.apart j i s r hne hj hi b hs e.symm
 ·exact fun b hm=>hoff b (h.ban b hm).2 (h.free b hm)
 ·intro j k s t hne hj hk b hsb htb
  rcases hget j s hj with ⟨rfl,rfl⟩ | ⟨hnj,hj2⟩ <;> rcases hget k t hk with ⟨rfl,rfl⟩ | ⟨hnk,hk2⟩
  ·exact hne rfl
  ·rcases hb with e | e | e
   ·exact h.apart _ k r t hne hi hk2 b (by rw [← e];exact hsb) htb
   ·rw [e] at hsb;injection hsb with hsb;subst hsb
    have:=((h.own k t hk2).lt _ htb).2;omega
   ·rw [e] at hsb;cases hsb
  ·rcases hb with e | e | e
   ·exact h.apart _ j r s (Ne.symm hne) hi hj2 b (by rw [← e];exact htb) hsb
   ·rw [e] at htb;injection htb with htb;subst htb
    have:=((h.own j s hj2).lt _ hsb).2;omega
   ·rw [e] at htb;cases htb
  ·exact h.apart j k s t hne hj2 hk2 b hsb htb
 ·intro k hk hn ho
  exact ⟨hg.block k hk (fun e=>ho i r hi e.symm),hoff k hk ho⟩
theorem Rws.add (h:Rws lo ban rs W) (e:TypeId) (size:Nat):Moves lo ban rs (rs++[⟨.slice none 0 0,e,size,0,[]⟩]) W W:=by
 have hget:∀ (j:Nat) (s:RowV),(rs++[⟨.slice none 0 0,e,size,0,[]⟩])[j]? = some s→rs[j]? = some s ∨ s = ⟨.slice none 0 0,e,size,0,[]⟩:=fun j s hj=>by
  rw [List.getElem?_append] at hj
  split at hj
  ·exact .inl hj
  ·refine .inr ?_
   rcases Nat.eq_zero_or_pos (j - rs.length) with e0 | e0
   ·rw [e0] at hj;injection hj with hj;exact hj.symm
   ·rw [List.getElem?_eq_none (by simp;omega)] at hj;cases hj
 have hoff:∀ k,Off rs k→Off (rs++[⟨.slice none 0 0,e,size,0,[]⟩]) k:=fun k ho j s hj=>by
  rcases hget j s hj with hj | rfl
  ·exact ho j s hj
  ·intro e;cases e
 refine ⟨⟨?_,fun b hm=>hoff b (h.free b hm),?_,h.base,h.ban⟩,fun k _ _ ho=>⟨rfl,hoff k ho⟩,Nat.le_refl _,rfl,rfl,rfl⟩
 ·intro j s hj
  rcases hget j s hj with hj | rfl
  ·exact h.own j s hj
  ·exact World.ownsRow_nil _ _ _ _
 ·intro j k s t hne hj hk b hsb htb
  rcases hget j s hj with hj' | rfl
  ·rcases hget k t hk with hk' | rfl
   ·exact h.apart j k s t hne hj' hk' b hsb htb
   ·cases htb
  ·cases hsb
theorem Rws.drop {r:RowV} (h:Rws lo ban (rs++[r]) W):Moves lo ban (rs++[r]) rs W W:=by
 have hget:∀ (j:Nat) (s:RowV),rs[j]? = some s→(rs++[r])[j]? = some s:=fun j s hj=>by
  rw [List.getElem?_append_left (List.getElem?_eq_some_iff.1 hj).1];exact hj
 have hoff:∀ k,Off (rs++[r]) k→Off rs k:=fun k ho j s hj=>ho j s (hget j s hj)
 exact ⟨⟨fun i s hi=>h.own i s (hget i s hi),fun b hm=>hoff b (h.free b hm),fun i j s t hne hi hj=>h.apart i j s t hne (hget i s hi) (hget j t hj),h.base,h.ban⟩,
  fun k _ _ ho=>⟨rfl,hoff k ho⟩,Nat.le_refl _,rfl,rfl,rfl⟩
theorem Rws.last_cold {r:RowV} (h:Rws lo ban (rs++[r]) W) {α:Type} [Rep α] (hs:r.size = Rep.size α) {l:List α} (hl:r.n = l.length) (hc:Chunks W (cold lo ban (rs++[r]) W) r.xs l) (hb:l.length * Rep.bytes α ≤ reach):rep W (cold lo ban rs W) [r.v] l:=by
 have hr:(rs++[r])[rs.length]? = some r:=by simp
 have ho:=h.own _ r hr
 rw [hs,hl] at ho
 refine rep_of_own ho (Chunks.more h.drop.cold_le hc) hb fun g hg h0 h1=>⟨h0,h1,fun hm=>h.free g hm _ r hr hg,fun j s hj hsb=>?_⟩
 have hjl:=(List.getElem?_eq_some_iff.1 hj).1
 exact h.apart rs.length j r s (by omega) hr (by rw [List.getElem?_append_left hjl];exact hj) g hg hsb
theorem Rws.rep (h:Rws lo ban rs W) {i:Nat} {r:RowV} (hi:rs[i]? = some r) {α:Type} [Rep α] (hs:r.size = Rep.size α) {l:List α} (hl:r.n = l.length) (hc:Chunks W (cold lo ban rs W) r.xs l) (hb:l.length * Rep.bytes α ≤ reach):Rep.rep W (fresh lo W.heap.size) [r.v] l:=by
 have ho:=h.own i r hi
 rw [hs,hl] at ho
 exact rep_of_own ho (Chunks.more (Z:=cold lo ban rs W) (Z':=fresh lo W.heap.size) ⟨fun b ⟨h0,h1,_⟩=>⟨h0,h1⟩,fun _=>rfl⟩ hc) hb fun g hg h0 h1=>⟨h0,h1⟩
theorem cold_old:(cold lo ban rs W).le (old W.heap.size):=⟨fun b ⟨_,h1,_⟩=>h1,fun e=>by cases e⟩
theorem cold_fresh:(cold lo ban rs W).le (fresh lo W.heap.size):=⟨fun b ⟨h0,h1,_⟩=>⟨h0,h1⟩,fun _=>rfl⟩
theorem Rws.new_cold (h:Rws lo ban rs W) (hb:Below W.heap.size W W') {n:Nat} (hn:W.heap.size ≤ n):(fresh n W'.heap.size).le (cold lo ban rs W') :=
 ⟨fun b ⟨h0,h1⟩=>⟨Nat.le_trans h.base (Nat.le_trans hn h0),h1,fun hm=>by have:=(h.ban b hm).2;omega,h.off_old (.inr (by omega))⟩,fun _=>rfl⟩
theorem Rws.new_block (h:Rws lo ban rs W) {k:Nat} (hk:W.heap.size ≤ k):k ∉ ban∧Off rs k:=⟨fun hm=>by have:=(h.ban k hm).2;omega,h.off_old (.inr hk)⟩
theorem own_less {w:World} {b b':Nat} {e:TypeId} {size:Nat} {v:Value} {n:Nat} {xs:List Value} (h:w.ownsRow b e size v n xs) (hb:b' ≤ b):w.ownsRow b' e size v n xs :=
 ⟨h.1,h.2.imp id fun ⟨g,cap,cur,h1,h2,r⟩=>⟨g,cap,cur,h1,Nat.le_trans hb h2,r⟩⟩
end
theorem grown_setRow (W:World) (g:Nat) (cs:Array Value):W.grownBy (W.setRow g cs) (some g):=⟨rfl,rfl,rfl,by rw [size_setRow];exact Nat.le_refl _,fun j _ hn=>heap_setRow_other _ _ _ _ (fun e=>hn (by rw [e]))⟩
end Go.Proofs.YtgbkhcmbmffljaaDoor
