/-
  Chapter 21: the document's steps, as plain words: which value is laid next, and where. No program in sight.
-/
/-
  Chapter 20: how many bytes a value takes; the tasks that a node needs. No condition.
-/
import Derived.Test.YtoeaglpmkjoenaaGreatQPlcP
import Derived.Test.YtoeaglpmkjoenaaGreatQArnQ
set_option linter.unusedSimpArgs false
set_option linter.unusedVariables false
namespace Go.Proofs.YtoeaglpmkjoenaaGreat
def freeR (rs:List (Int × Int)) (x:Int):Bool:=rs.all fun b=>!(decide (b.1 ≤ x) && decide (x < b.2))
def holeR (x:Int):List (Int × Int)→Int→Int
 | [],e=>e
 | b :: rs,e=>if x ≤ b.1∧(e < 0 ∨ b.1 < e) then holeR x rs b.1 else holeR x rs e
def pickR (rs:List (Int × Int)) (size:Int):List Int→Int→Int→Int
 | [],best,_=>best
 | x :: xs,best,room =>
  if freeR rs x = true∧¬ (holeR x rs (-1) < 0 ∨ holeR x rs (-1) - x < size)∧(best < 0 ∨ holeR x rs (-1) - x < room ∨ (holeR x rs (-1) - x = room∧x < best)) then pickR rs size xs x (holeR x rs (-1) - x) else pickR rs size xs best room
def placeR (rs:List (Int × Int)) (size:Int):Int:=if pickR rs size (0 :: rs.map (·.2)) (-1) 0 < 0 then endD rs 0 else pickR rs size (0 :: rs.map (·.2)) (-1) 0
theorem freeR_iff {rs:List (Int × Int)} {x:Int}:freeR rs x = true ↔ ∀ b ∈ rs,¬ (b.1 ≤ x∧x < b.2):=by
 unfold freeR
 rw [List.all_eq_true]
 constructor
 ·intro h b hb hc
  have:=h b hb
  simp [hc.1,hc.2] at this
 ·intro h b hb
  have:=h b hb
  simp
  omega
theorem holeR_spec (x:Int):∀ (rs:List (Int × Int)) (e:Int),(∀ b ∈ rs,0 ≤ b.1)→(e = -1 ∨ 0 ≤ e) →
  (holeR x rs e = -1∧e = -1∧∀ b ∈ rs,¬ x ≤ b.1) ∨ (0 ≤ holeR x rs e∧(holeR x rs e = e ∨ ∃ b ∈ rs,holeR x rs e = b.1∧x ≤ b.1)∧(0 ≤ e→holeR x rs e ≤ e)∧∀ b ∈ rs,x ≤ b.1→holeR x rs e ≤ b.1)
 | [],e,_,he=>by
  show (e = -1∧_) ∨ (0 ≤ e∧_)
  rcases he with rfl | he
  ·exact .inl ⟨rfl,rfl,fun b hb=>by cases hb⟩
  ·exact .inr ⟨he,.inl rfl,fun _=>Int.le_refl _,fun b hb=>by cases hb⟩
 | b :: rs,e,hb,he=>by
  have h0:=hb b List.mem_cons_self
  have hr:=fun q hq=>hb q (List.mem_cons_of_mem _ hq)
  unfold holeR
  by_cases g:x ≤ b.1∧(e < 0 ∨ b.1 < e)
  ·rw [if_pos g]
   rcases holeR_spec x rs b.1 hr (.inr h0) with ⟨-,k,-⟩ | ⟨k1,k2,k3,k4⟩
   ·omega
   ·refine .inr ⟨k1,.inr ?_,fun _=>by have:=k3 h0;omega,fun q hq hx=>?_⟩
    ·rcases k2 with k2 | ⟨q,hq,k2⟩
     ·exact ⟨b,List.mem_cons_self,k2,g.1⟩
     ·exact ⟨q,List.mem_cons_of_mem _ hq,k2⟩
    ·rcases List.mem_cons.1 hq with rfl | hq
     ·exact k3 h0
     ·exact k4 q hq hx
  ·rw [if_neg g]
   rcases holeR_spec x rs e hr he with ⟨k1,k2,k3⟩ | ⟨k1,k2,k3,k4⟩
   ·refine .inl ⟨k1,k2,fun q hq=>?_⟩
    rcases List.mem_cons.1 hq with rfl | hq
    ·omega
    ·exact k3 q hq
   ·refine .inr ⟨k1,k2.imp_right fun ⟨q,hq,k⟩=>⟨q,List.mem_cons_of_mem _ hq,k⟩,k3,fun q hq hx=>?_⟩
    rcases List.mem_cons.1 hq with rfl | hq
    ·have:0 ≤ e:=by omega
     have:=k3 this
     omega
    ·exact k4 q hq hx
theorem cand_iff {rs:List (Int × Int)} (hp:∀ b ∈ rs,0 ≤ b.1) {size x:Int} (hx:x = 0 ∨ ∃ b ∈ rs,x = b.2) (e:Int) :
  CandD rs size x e ↔ freeR rs x = true∧¬ (holeR x rs (-1) < 0 ∨ holeR x rs (-1) - x < size)∧e = holeR x rs (-1):=by
 have hs:=holeR_spec x rs (-1) hp (.inl rfl)
 constructor
 ·rintro ⟨-,c2,⟨b,hb,rfl,c3⟩,c4,c5⟩
  rcases hs with ⟨k1,-,k3⟩ | ⟨k1,k2,-,k4⟩
  ·exact (k3 b hb c3).elim
  ·have h1:=k4 b hb c3
   have h2:b.1 ≤ holeR x rs (-1):=by
    rcases k2 with k2 | ⟨q,hq,k2,k5⟩
    ·omega
    ·rw [k2];exact c4 q hq k5
   exact ⟨freeR_iff.2 c2,by omega,by omega⟩
 ·rintro ⟨f,h,rfl⟩
  rcases hs with ⟨k1,-,-⟩ | ⟨k1,k2,-,k4⟩
  ·omega
  ·refine ⟨hx,freeR_iff.1 f,?_,k4,by omega⟩
   rcases k2 with k2 | ⟨q,hq,k2,k5⟩
   ·omega
   ·exact ⟨q,hq,k2,k5⟩
theorem pickR_spec {rs:List (Int × Int)} (hp:∀ b ∈ rs,0 ≤ b.1∧b.1 < b.2) {size:Int}:∀ (xs done:List Int) (best room:Int),(∀ x ∈ xs,x = 0 ∨ ∃ b ∈ rs,x = b.2) →
  ((best < 0∧∀ x ∈ done,∀ e,¬ CandD rs size x e) ∨ (0 ≤ best∧CandD rs size best (best + room)∧∀ x ∈ done,∀ e,CandD rs size x e→room < e - x ∨ (room = e - x∧best ≤ x))) →
  (pickR rs size xs best room < 0∧∀ x ∈ done++xs,∀ e,¬ CandD rs size x e) ∨ (0 ≤ pickR rs size xs best room∧∃ r,CandD rs size (pickR rs size xs best room) (pickR rs size xs best room + r)∧∀ x ∈ done++xs,∀ e,CandD rs size x e→r < e - x ∨ (r = e - x∧pickR rs size xs best room ≤ x))
 | [],done,best,room,_,h=>by
  rw [List.append_nil]
  exact h.imp_right fun ⟨a,b,c⟩=>⟨a,room,b,c⟩
 | x :: xs,done,best,room,hx,h=>by
  have ea:done++x :: xs = (done++[x])++xs:=by rw [List.append_assoc];rfl
  have hx0:=hx x List.mem_cons_self
  have hxs:=fun y hy=>hx y (List.mem_cons_of_mem _ hy)
  have hxn:0 ≤ x:=by
   rcases hx0 with rfl | ⟨b,hb,rfl⟩
   ·exact Int.le_refl _
   ·have:=hp b hb;omega
  have hc:=fun e=>cand_iff (fun b hb=>(hp b hb).1) (size:=size) hx0 e
  unfold pickR
  rw [ea]
  by_cases g:freeR rs x = true∧¬ (holeR x rs (-1) < 0 ∨ holeR x rs (-1) - x < size)∧(best < 0 ∨ holeR x rs (-1) - x < room ∨ (holeR x rs (-1) - x = room∧x < best))
  ·rw [if_pos g]
   refine pickR_spec hp xs (done++[x]) x _ hxs (.inr ⟨hxn,(hc _).2 ⟨g.1,g.2.1,by omega⟩,fun y hy e c=>?_⟩)
   rcases List.mem_append.1 hy with hy | hy
   ·rcases h with ⟨h1,h2⟩ | ⟨h1,h2,h3⟩
    ·exact (h2 y hy e c).elim
    ·have:=h3 y hy e c
     omega
   ·rw [List.mem_singleton.1 hy] at c ⊢
    have:=((hc e).1 c).2.2
    omega
  ·rw [if_neg g]
   refine pickR_spec hp xs (done++[x]) best room hxs ?_
   rcases h with ⟨h1,h2⟩ | ⟨h1,h2,h3⟩
   ·refine .inl ⟨h1,fun y hy e c=>?_⟩
    rcases List.mem_append.1 hy with hy | hy
    ·exact h2 y hy e c
    ·rw [List.mem_singleton.1 hy] at c
     have:=(hc e).1 c
     exact g ⟨this.1,this.2.1,.inl h1⟩
   ·refine .inr ⟨h1,h2,fun y hy e c=>?_⟩
    rcases List.mem_append.1 hy with hy | hy
    ·exact h3 y hy e c
    ·rw [List.mem_singleton.1 hy] at c ⊢
     have:=(hc e).1 c
     by_cases k:holeR x rs (-1) - x < room
     ·exact (g ⟨this.1,this.2.1,.inr (.inl k)⟩).elim
     ·by_cases k2:holeR x rs (-1) - x = room
      ·by_cases k3:x < best
       ·exact (g ⟨this.1,this.2.1,.inr (.inr ⟨k2,k3⟩)⟩).elim
       ·omega
      ·omega
theorem place_spec {rs:List (Int × Int)} (hp:∀ b ∈ rs,0 ≤ b.1∧b.1 < b.2) {size:Int}:PlaceS rs size (placeR rs size):=by
 have hx:∀ x ∈ (0 :: rs.map (·.2):List Int),x = 0 ∨ ∃ b ∈ rs,x = b.2:=fun x hx=>by
  rcases List.mem_cons.1 hx with rfl | hx
  ·exact .inl rfl
  ·obtain ⟨b,hb,rfl⟩:=List.mem_map.1 hx
   exact .inr ⟨b,hb,rfl⟩
 have hall:∀ x e,CandD rs size x e→x ∈ (0 :: rs.map (·.2):List Int):=fun x e c=>by
  rcases c.1 with rfl | ⟨b,hb,rfl⟩
  ·exact List.mem_cons_self
  ·exact List.mem_cons_of_mem _ (List.mem_map.2 ⟨b,hb,rfl⟩)
 have h:=pickR_spec hp (size:=size) (0 :: rs.map (·.2)) [] (-1) 0 hx (.inl ⟨by omega,fun x hx=>by cases hx⟩)
 rw [List.nil_append] at h
 unfold placeR
 rcases h with ⟨g,h⟩ | ⟨g,r,h1,h2⟩
 ·rw [if_pos g]
  obtain ⟨k1,k2⟩:=endD_ge rs 0
  exact .inr ⟨fun x e c=>h x (hall x e c) e c,k1,k2,endD_is _ 0⟩
 ·rw [if_neg (by omega)]
  refine .inl ⟨_,h1,fun x' e' c=>?_⟩
  have:=h2 x' (hall x' e' c) e' c
  omega
theorem place_same {rs rs':List (Int × Int)} (hperm:rs.Perm rs') (hp:∀ b ∈ rs,0 ≤ b.1∧b.1 < b.2) {size:Int} (hs:0 < size):placeR rs size = holeD (srtB rs') size :=
 place_one (place_spec hp) (place_perm hperm.symm (hole_place hs fun b hb=>hp b (hperm.mem_iff.2 hb)))
def nxtP (p:PlanD) (laid:List Bool):Nat→Int
 | 0=>-1
 | k + 1=>if laid.getD k false = false∧0 < szAt p k∧(nxtP p laid k < 0 ∨ szAt p k > szAt p (nxtP p laid k).toNat) then (k:Int) else nxtP p laid k
def AheadD (p:PlanD) (v u:Nat):Prop:=szAt p u < szAt p v ∨ (szAt p u = szAt p v∧v < u)
theorem nxtP_spec (p:PlanD) (laid:List Bool):∀ k,(nxtP p laid k = -1∧∀ u,u < k→laid.getD u false = false→¬ 0 < szAt p u) ∨ ∃ v:Nat,nxtP p laid k = (v:Int)∧v < k∧laid.getD v false = false∧0 < szAt p v∧∀ u,u < k→laid.getD u false = false→0 < szAt p u→¬ u = v→AheadD p v u
 | 0=>.inl ⟨rfl,fun u hu=>by omega⟩
 | k + 1=>by
  have ih:=nxtP_spec p laid k
  unfold nxtP
  by_cases g:laid.getD k false = false∧0 < szAt p k∧(nxtP p laid k < 0 ∨ szAt p k > szAt p (nxtP p laid k).toNat)
  ·rw [if_pos g]
   refine .inr ⟨k,rfl,by omega,g.1,g.2.1,fun u hu hl hp hn=>?_⟩
   have huk:u < k:=by omega
   rcases ih with ⟨i1,i2⟩ | ⟨v,i1,i2,i3,i4,i5⟩
   ·exact (i2 u huk hl hp).elim
   ·have hg:=g.2.2
    rw [i1,Int.toNat_natCast] at hg
    by_cases e:u = v
    ·subst e;exact .inl (by omega)
    ·have:=i5 u huk hl hp e
     unfold AheadD at this
     exact .inl (by omega)
  ·rw [if_neg g]
   rcases ih with ⟨i1,i2⟩ | ⟨v,i1,i2,i3,i4,i5⟩
   ·refine .inl ⟨i1,fun u hu hl hp=>?_⟩
    by_cases e:u = k
    ·subst e;exact g ⟨hl,hp,.inl (by omega)⟩
    ·exact i2 u (by omega) hl hp
   ·refine .inr ⟨v,i1,by omega,i3,i4,fun u hu hl hp hn=>?_⟩
    by_cases e:u = k
    ·subst e
     by_cases k1:szAt p u > szAt p v
     ·exact (g ⟨hl,hp,.inr (by rw [i1,Int.toNat_natCast];exact k1)⟩).elim
     ·unfold AheadD;omega
    ·exact i5 u (by omega) hl hp hn
theorem cmpS_lt (p:PlanD) (x y:Int):cmpS p x y < 0 ↔ szAt p y.toNat < szAt p x.toNat:=by
 unfold cmpS cmpI
 constructor
 ·intro h
  by_cases g:szAt p y.toNat < szAt p x.toNat
  ·exact g
  ·rw [if_neg g] at h
   split at h <;> omega
 ·intro h
  rw [if_pos h];omega
theorem ord_ahead {p:PlanD} {i j u v:Nat} (hu:(ordN p)[i]? = some u) (hv:(ordN p)[j]? = some v) (hij:i < j):AheadD p u v:=by
 have hlen:(natI (liveV p p.size.length)).length = (ordI p).length:=by rw [ordI_len];unfold natI;exact List.length_map ..
 have hup:∀ a b,a < b→b < (natI (liveV p p.size.length)).length→atD (natI (liveV p p.size.length)) a < atD (natI (liveV p p.size.length)) b:=fun a b h1 h2=>by
  have hb:b < (liveV p p.size.length).length:=by unfold natI at h2;rwa [List.length_map] at h2
  have hpw:(liveV p p.size.length).Pairwise (· < ·):=List.Pairwise.filter _ List.pairwise_lt_range
  have h3:=List.pairwise_iff_getElem.1 hpw a b (by omega) hb h1
  have e:∀ q (hq:q < (liveV p p.size.length).length),atD (natI (liveV p p.size.length)) q = ((liveV p p.size.length)[q]:Int):=fun q hq=>by
   unfold atD natI
   rw [List.getD_eq_getElem?_getD,List.getElem?_map,List.getElem?_eq_getElem hq]
   rfl
  rw [e a (by omega),e b hb]
  omega
 have hs:=stabD_srt (c:=cmpS p) (K:=fun x=>szAt p x.toNat) (cmpS_lt p) hup
 have e2:∀ (q w:Nat),(ordN p)[q]? = some w→atD (ordI p) q = (w:Int):=fun q w h=>by
  have hq:q < (ordI p).length:=by have:=(List.getElem?_eq_some_iff.1 h).1;rwa [ordN_len] at this
  obtain ⟨w',e,h',-⟩:=ordN_at (List.getElem?_eq_getElem hq)
  rw [h] at h'
  injection h' with h'
  unfold atD
  rw [List.getD_eq_getElem?_getD,List.getElem?_eq_getElem hq,Option.getD_some,e,h']
 have hj:j < (ordI p).length:=by have:=(List.getElem?_eq_some_iff.1 hv).1;rwa [ordN_len] at this
 have hb:=hs i j (Nat.zero_le _) hij (by rw [hlen];exact hj)
 have hb':Bef (fun x=>szAt p x.toNat) (atD (ordI p) i) (atD (ordI p) j):=hb
 rw [e2 i u hu,e2 j v hv] at hb'
 unfold Bef at hb'
 simp only [Int.toNat_natCast] at hb'
 unfold AheadD
 omega
def LaidIs (p:PlanD) (k:Nat) (laid:List Bool):Prop:=laid.length = p.size.length∧∀ i,laid.getD i false = true ↔ i ∈ (ordN p).take k
theorem next_ord {p:PlanD} {k:Nat} {laid:List Bool} (h:LaidIs p k laid):((ordN p).length ≤ k∧nxtP p laid p.size.length = -1) ∨ ∃ v,(ordN p)[k]? = some v∧nxtP p laid p.size.length = (v:Int):=by
 have hno:∀ u,laid.getD u false = false ↔ u ∉ (ordN p).take k:=fun u=>by
  rw [← h.2 u]
  cases laid.getD u false <;> simp
 rcases nxtP_spec p laid p.size.length with ⟨h1,h2⟩ | ⟨v,h1,h2,h3,h4,h5⟩
 ·refine .inl ⟨?_,h1⟩
  by_cases g:(ordN p).length ≤ k
  ·exact g
  ·have hk:k < (ordN p).length:=by omega
   obtain ⟨v,hv⟩:∃ v,(ordN p)[k]? = some v:=⟨_,List.getElem?_eq_getElem hk⟩
   obtain ⟨a1,a2⟩:=ordN_mem.1 (List.mem_of_getElem? hv)
   exact (h2 v a1 ((hno v).2 fun hm=>by
    obtain ⟨i,hi⟩:=List.mem_iff_getElem?.1 hm
    have hil:=(List.getElem?_eq_some_iff.1 hi).1
    rw [List.length_take] at hil
    rw [List.getElem?_take_of_lt (by omega)] at hi
    have:=(List.getElem?_inj (show i < (ordN p).length by omega) (ordN_nodup p)).1 (hi.trans hv.symm)
    omega) a2).elim
 ·obtain ⟨i,hi⟩:=List.mem_iff_getElem?.1 (ordN_mem.2 ⟨h2,h4⟩)
  have hik:k ≤ i:=by
   by_cases g:i < k
   ·exact ((hno v).1 h3 (List.mem_iff_getElem?.2 ⟨i,by rw [List.getElem?_take_of_lt g];exact hi⟩)).elim
   ·omega
  by_cases g:i = k
  ·subst g;exact .inr ⟨v,hi,h1⟩
  ·have hil:=(List.getElem?_eq_some_iff.1 hi).1
   obtain ⟨u,hu⟩:∃ u,(ordN p)[k]? = some u:=⟨_,List.getElem?_eq_getElem (show k < (ordN p).length by omega)⟩
   obtain ⟨a1,a2⟩:=ordN_mem.1 (List.mem_of_getElem? hu)
   have hul:laid.getD u false = false:=(hno u).2 fun hm=>by
    obtain ⟨q,hq⟩:=List.mem_iff_getElem?.1 hm
    have hql:=(List.getElem?_eq_some_iff.1 hq).1
    rw [List.length_take] at hql
    rw [List.getElem?_take_of_lt (by omega)] at hq
    have:=(List.getElem?_inj (show q < (ordN p).length by omega) (ordN_nodup p)).1 (hq.trans hu.symm)
    omega
   have huv:¬ u = v:=fun e=>by
    subst e
    have:=(List.getElem?_inj hil (ordN_nodup p)).1 (hi.trans hu.symm)
    omega
   have b1:=h5 u a1 hul a2 huv
   have b2:=ord_ahead hu hi (show k < i by omega)
   unfold AheadD at b1 b2
   omega
theorem LaidIs.more {p:PlanD} {k v:Nat} {laid:List Bool} (h:LaidIs p k laid) (hv:(ordN p)[k]? = some v):LaidIs p (k + 1) (laid.set v true):=by
 obtain ⟨h1,h2⟩:=h
 have hvl:=(ordN_mem.1 (List.mem_of_getElem? hv)).1
 refine ⟨by rw [List.length_set];exact h1,fun i=>?_⟩
 rw [take_app hv,List.mem_append,List.mem_singleton,← h2 i,List.getD_eq_getElem?_getD,List.getD_eq_getElem?_getD,List.getElem?_set]
 by_cases e:v = i
 ·subst e
  rw [if_pos rfl,if_pos (by rw [h1];exact hvl)]
  simp
 ·rw [if_neg e]
  constructor
  ·exact .inl
  ·rintro (g | g)
   ·exact g
   ·exact (e g.symm).elim
noncomputable def wayN (p:PlanD) (k:Nat) (v n:Nat):List Nat:=(List.range n).filter fun i=>decide (i ∈ (ordN p).take k) && apB p (v:Int) (i:Int)
def rowsN (p:PlanD) (at_:List Int) (ws:List Nat):List (Int × Int):=ws.map fun w=>(atD at_ w,atD at_ w + szAt p w)
theorem way_perm (p:PlanD) (k v:Nat) (at_:List Int):(rowsN p at_ (wayN p k v p.size.length)).Perm (wayD p ((ordN p).take k) at_ v):=by
 unfold rowsN wayD
 refine List.Perm.map _ ((List.perm_ext_iff_of_nodup (List.nodup_range.filter _) (((ordN_nodup p).sublist (List.take_sublist _ _)).filter _)).2 fun i=>?_)
 rw [List.mem_filter,List.mem_filter,List.mem_range,Bool.and_eq_true,decide_eq_true_iff]
 constructor
 ·rintro ⟨-,h1,h2⟩;exact ⟨h1,h2⟩
 ·rintro ⟨h1,h2⟩;exact ⟨(ordN_mem.1 (List.mem_of_mem_take h1)).1,h1,h2⟩
theorem wayN_next (p:PlanD) (k v n:Nat):wayN p k v (n + 1) = wayN p k v n++if n ∈ (ordN p).take k∧apB p (v:Int) (n:Int) = true then [n] else []:=by
 unfold wayN
 rw [List.range_succ,List.filter_append]
 by_cases h:n ∈ (ordN p).take k∧apB p (v:Int) (n:Int) = true
 ·rw [if_pos h];simp [h.1,h.2]
 ·rw [if_neg h]
  have:(decide (n ∈ (ordN p).take k) && apB p (v:Int) (n:Int)) = false:=by
   rw [Bool.and_eq_false_iff]
   by_cases g:n ∈ (ordN p).take k
   ·exact .inr (by cases e:apB p (v:Int) (n:Int) with
     | false=>rfl
     | true=>exact (h ⟨g,e⟩).elim)
   ·exact .inl (decide_eq_false g)
  simp [this]
theorem place_way {p:PlanD} {k v:Nat} {at_:List Int} {sz:Int} (hI:PackI p ((ordN p).take k) at_ sz) (hs:0 < szAt p v):placeR (rowsN p at_ (wayN p k v p.size.length)) (szAt p v) = holeD (srtB (wayD p ((ordN p).take k) at_ v)) (szAt p v):=by
 refine place_same (way_perm p k v at_) (fun b hb=>?_) hs
 obtain ⟨w,hw,-,rfl⟩:=way_mem.1 ((way_perm p k v at_).mem_iff.1 hb)
 have h1:=hI.ins w hw
 have h2:=hI.pos w hw
 simp only
 omega
end Go.Proofs.YtoeaglpmkjoenaaGreat
set_option linter.unusedSimpArgs false
set_option linter.unusedVariables false
namespace Go.Proofs.YtoeaglpmkjoenaaGreat
open Go.RowKit
open Rep (rep)
def bytesD (v:ValD):Int:=bits .andNot .i64 ((sizeD v.dims).1 * widthD v.type + 7) 7
theorem bytes_i64 (v:ValD):I64 (bytesD v):=by
 unfold bytesD I64
 have:=IntWalk.i64_in
 unfold bits
 simp only []
 have h:=fun n:Int=>(show -9223372036854775808 ≤ IntKind.i64.wrap n∧IntKind.i64.wrap n ≤ 9223372036854775807 by rw [IntKind.wrap_i64];omega)
 exact h _
theorem mul_bd {n t:Int} (h0:0 ≤ n) (h1:n ≤ 4096) (h2:0 ≤ t) (h3:t ≤ 8):0 ≤ n * t∧n * t ≤ 32768:=by
 have a:=Int.mul_nonneg h0 h2
 have b:=Int.mul_le_mul h1 h3 h2 (by omega:(0:Int) ≤ 4096)
 exact ⟨a,by omega⟩
theorem width_bd (k:Int):0 ≤ widthD k∧widthD k ≤ 8:=by
 unfold widthD
 split <;> (try split) <;> (try split) <;> omega
set_option maxRecDepth 100000 in
set_option maxHeartbeats 8000000 in
theorem bytes_any (cs:List Value) (v:ValD) (w:World) (hr:rep w (old w.heap.size) cs v) :
  Calls Tryz.prog 26 #[.agg cs.toArray] w fun e w'=>e = .returned (.int .i64 (bytesD v))∧Below w.heap.size w w':=by
 obtain ⟨A1,k1,A2,k2,A3,k3,A4,k4,A5,k5,hcs,-,h1,-⟩:=open_ValD hr
 have hc0:cs[0]? = some (.int .i64 v.type):=by rw [hcs];rfl
 have hc1:cs[1]? = some (.slice A1 v.dims.length k1):=by rw [hcs];rfl
 have H1:=Lib.hid h1
 clear hcs h1
 have hsb:=size_bd v.dims
 have hwb:=width_bd v.type
 have hmb:=mul_bd hsb.1 hsb.2.1 hwb.1 hwb.2
 have HB:Hid (bytesD v = bits .andNot .i64 ((sizeD v.dims).1 * widthD v.type + 7) 7):=Lib.hid rfl
 go_enter Tryz.func26,Tryz.ntmps26
 go_wp2_with (with_reducible refine wpList_box_row rfl 45 _ rfl cs rfl ?_;have hX:=val_start hr;generalize World.alloc _ _ = W0 at hX ⊢;have HX:=Lib.hid hX;clear hX hr;refine halt ?_)
 unfold Halt
 have c0:=HX.out.cell hc0
 have c1:=HX.out.cell hc1
 go_wp2_with fail
 refine (size_any v.dims A1 k1 _ (HX.out.up H1.out)).mono ?_
 rintro e w1 ⟨rfl,rfl⟩
 generalize sizeD v.dims = sz at HB hmb ⊢
 obtain ⟨n,x⟩:=sz
 simp only at HB hmb ⊢
 clear hsb hwb
 go_wp2_with fail
 refine (width_any v.type _).mono ?_
 rintro e w2 ⟨rfl,rfl⟩
 generalize widthD v.type = t at HB hmb ⊢
 go_wp2
 go_ret
 exact ⟨by rw [HB.out];rfl,HX.out.below⟩
theorem has_any (op:Int) (w:World):Calls Tryz.prog 29 #[.int .i64 op] w fun e w'=>e = .returned (.bool (decide (1 ≤ op) && decide (op ≤ 44)))∧w' = w:=by
 by_cases h:op ≥ 1
 ·go_enter Tryz.func29,Tryz.ntmps29
  go_wp2
  go_ret
  exact ⟨by rw [decide_eq_true h];rfl,rfl⟩
 ·go_enter Tryz.func29,Tryz.ntmps29
  go_wp2
  go_ret
  exact ⟨by rw [decide_eq_false (by omega)];rfl,rfl⟩
set_option maxRecDepth 100000 in
set_option maxHeartbeats 8000000 in
theorem after1_any (x:Int) (q k:Nat) (A:Option Addr) (l:List Int) (w:World) (hq:w.cell? ⟨q,37,none⟩ = some (.slice A l.length k)) (hr:rep w (old w.heap.size) [.slice A l.length k] l) :
  Calls Tryz.prog 51 #[.int .i64 x,.pointer (some ⟨q,0,none⟩)] w fun e w'=>e = .returned (.bool (l.contains x))∧w' = w:=by
 go_enter Tryz.func51,Tryz.ntmps51
 go_wp2_with fail
 refine (containsInt_any l A k x w hr).mono ?_
 rintro e w1 ⟨rfl,rfl⟩
 obtain ⟨c,hc⟩:∃ c,l.contains x = c:=⟨_,rfl⟩
 rw [hc]
 have HC:=Lib.hid hc
 clear hc
 go_wp2
 go_ret
 exact ⟨by rw [HC.out];rfl,rfl⟩
theorem afterD_lt {g:GraphD} {ts:List TaskD} {ins:List Int}:∀ x ∈ afterD g ts ins,0 ≤ x∧x < ts.length:=fun x hx=>by
 obtain ⟨k,s,rfl,hs,_⟩:=afterD_mem.1 hx
 have:=(List.getElem?_eq_some_iff.1 hs).1
 omega
theorem afterD_len (g:GraphD) (ts:List TaskD) (ins:List Int):(afterD g ts ins).length ≤ ts.length:=by
 unfold afterD
 rw [List.length_map]
 exact Nat.le_trans (List.length_filter_le _ _) (by rw [List.length_zipIdx];exact Nat.le_refl _)
def zeroTk:List Value:=[.int .i64 0,.int .i64 0,.int .i64 0,.slice none 0 0]
theorem zeroTk_zero:(Tryz.prog.info? 72).bind (·.zero) = some (.agg zeroTk.toArray):=by kernel_rfl
theorem own_list {W:World} {n:Nat} {v:Value} {l:List Int} (h:W.ownsRow n 3 1 v l.length (l.map (Value.int .i64))) (hb:l.length * 8 ≤ 140737488351232) (hi:∀ x ∈ l,I64 x):∃ A k,v = .slice A l.length k∧rep W (fresh n W.heap.size) [.slice A l.length k] l:=own_row h hb hi
set_option maxRecDepth 100000 in
set_option maxHeartbeats 8000000 in
theorem after_any (gcs ncs:List Value) (g:GraphD) (ts:List TaskD) (T:Option Addr) (kT:Nat) (z:GNodeD) (w:World) (hg:rep w (old w.heap.size) gcs g) (ht:rep w (old w.heap.size) [.slice T ts.length kT] ts) (hz:rep w (old w.heap.size) ncs z)
  (hin:∀ t ∈ ts,0 ≤ t.node∧t.node < g.nodes.length) (hl:ts.length ≤ 1000000000000) :
  Calls Tryz.prog 27 #[.agg gcs.toArray,.slice T ts.length kT,.agg ncs.toArray] w fun e w'=>∃ (A:Option Addr) (k:Nat),e = .returned (.slice A (afterD g ts z.ins).length k)∧rep w' (fresh w.heap.size w'.heap.size) [.slice A (afterD g ts z.ins).length k] (afterD g ts z.ins)∧Below w.heap.size w w':=by
 obtain ⟨i0,hi0,hz0,hz1,hz2⟩:=info_parts info_int1
 obtain ⟨A1,k1,A2,k2,A3,k3,A4,k4,hgc,r1,r2,r3,r4⟩:=open_GraphD hg
 obtain ⟨n2,n2'⟩:=slice_bnd r2
 obtain ⟨nT,nT'⟩:=slice_bnd ht
 have h1:gcs[1]? = some (.slice A2 g.nodes.length k2):=by rw [hgc];rfl
 obtain ⟨ss,I1,i1,O1,o1,-,z37,-,-,-,zi,-,-⟩:=gnode_facts hz
 have HG:=Lib.hid (And.intro h1 (And.intro r2 (And.intro z37 (And.intro zi hin))))
 have hgl:(Tryz.prog.info? 26).map (·.size) = some gcs.length:=by rw [show gcs.length = 4 from Rep.len hg];kernel_rfl
 obtain ⟨T',c',xs,hv,-,-,-,hlz,hch⟩:=open_slice ht
 injection hv with hva hvb hvc
 subst hva
 obtain ⟨A2',c2',ns,hv,-,-,-,hl2,hch2⟩:=open_slice r2
 injection hv with hva2 hvb2 hvc2
 subst hva2
 have HL:=Lib.hid (And.intro hlz (And.intro hch (And.intro hl2 hch2)))
 clear hgc r1 r2 r3 r4 h1 z37 zi hin hlz hch hl2 hch2 hvb hvc hvb2 hvc2 hg hz ht
 go_enter Tryz.func27,Tryz.ntmps27
 go_wp2_with (first
  |(with_reducible refine wpList_box_row rfl 26 _ rfl gcs rfl ?_)
  |(with_reducible refine wpList_box_row rfl 50 _ rfl ncs rfl ?_;have hX:=pair_start w 26 50 gcs ncs;generalize World.alloc _ (.cells ncs.toArray _) = W0 at hX ⊢;have HX:=Lib.hid hX;clear hX;refine halt ?_))
 unfold Halt
 go_wp2_with fail
 go_loopw [7,12] (fun v i wr=>∃ c:Nat,i = .int .i64 c∧c ≤ ts.length∧Below W0.heap.size W0 wr∧wr.ownsRow W0.heap.size 3 1 v (afterD g (ts.take c) z.ins).length ((afterD g (ts.take c) z.ins).map (Value.int .i64))) (fun _ i _=>ts.length - (intOf i).toNat)
 case atStart=>exact ⟨0,rfl,Nat.zero_le _,Below.refl _ _,World.ownsRow_nil _ _ _ _⟩
 case round =>
  obtain ⟨c,rfl,hcl,hB,hO⟩:=hrel
  obtain ⟨wb,rfl⟩:∃ wb,wb = wr:=⟨_,rfl⟩
  have HB:=Lib.hid (And.intro (HX.out.next hB) (And.intro hO hB))
  clear hB hO
  by_cases hlt:c < ts.length
  ·have hlt':(c:Int) < (ts.length:Int):=by omega
   obtain ⟨t,ht⟩:∃ t,ts[c]? = some t:=⟨_,List.getElem?_eq_getElem hlt⟩
   obtain ⟨hn0,hn1⟩:=HG.out.2.2.2.2 t (List.mem_of_getElem? ht)
   obtain ⟨b,o,zc,rfl,hbB,hrz,hcell⟩:=elem_at HL.out.1 HL.out.2.1 (by decide) ht
   have hat:At wb b (o + c * 4) zc:=fun j u hu=>by
    have h1:=(hcell j u hu).1
    rw [← Nat.add_assoc] at h1
    exact (HB.out.1.below.cell (p:=⟨b,o + c * 4 + j,none⟩) hbB).trans h1
   obtain ⟨TA,tk,rfl,-,-,-,-⟩:=open_TaskD hrz
   obtain ⟨j,hj⟩:∃ j:Nat,t.node = (j:Int):=⟨t.node.toNat,by omega⟩
   obtain ⟨y,hy⟩:∃ y,g.nodes[j]? = some y:=⟨_,List.getElem?_eq_getElem (by omega)⟩
   obtain ⟨b2,o2,yc,rfl,hbB2,hry,hcell2⟩:=elem_at HL.out.2.2.1 HL.out.2.2.2 (by decide) hy
   obtain ⟨ss2,J1,j1,Q1,q1,-,-,y38,-,-,-,yo,-⟩:=gnode_facts hry
   obtain ⟨nq1,nq2⟩:=slice_bnd yo
   have hgo:gOuts g t.node.toNat = y.outs:=by unfold gOuts;rw [hj,Int.toNat_natCast,hy];rfl
   have HT:=Lib.hid (And.intro hat (And.intro ht (And.intro hgo yo)))
   have hcell38:=(hcell2 38 _ y38).1
   have HC38:Hid (w.cell? ⟨b2,o2 + j * 40 + 38,none⟩ = some (.slice Q1 y.outs.length q1)∧b2 < w.heap.size):=Lib.hid ⟨by rwa [← Nat.add_assoc] at hcell38,hbB2⟩
   have hk0:(0:Int) ≤ (c:Int):=Int.natCast_nonneg _
   have hj0:(0:Int) ≤ (j:Int):=Int.natCast_nonneg _
   have hj1:(j:Int) < (g.nodes.length:Int):=by omega
   rw [hj] at HT
   have HJ:=Lib.hid hj
   have HZ:=Lib.hid (And.intro HT.out.1 (show (Tryz.prog.info? 72).map (·.size) = some ([.int .i64 (j:Int),.int .i64 t.lo,.int .i64 t.hi,.slice TA t.after.length tk]:List Value).length by kernel_rfl))
   have HLN:=Lib.hid (show ([.int .i64 (j:Int),.int .i64 t.lo,.int .i64 t.hi,.slice TA t.after.length tk]:List Value).length = zeroTk.length from rfl)
   have H1C:=Lib.hid (show ∀ u ∈ ([.int .i64 (j:Int),.int .i64 t.lo,.int .i64 t.hi,.slice TA t.after.length tk]:List Value),u.oneCell' = true from fun u hu=>by simp at hu;rcases hu with rfl | rfl | rfl | rfl <;> rfl)
   clear hat hrz hcell ht hy hry hcell2 y38 yo hgo hcell38 hbB hbB2 hn0 hn1 hj
   have hn:=heap_alloc_new wb (.cells zeroTk.toArray 72)
   have HQ:=Lib.hid hn
   clear hn
   go_wp2_with (first
    |(with_reducible refine wpList_load_agg rfl 72 _ rfl _ _ _ rfl [.int .i64 (j:Int),.int .i64 t.lo,.int .i64 t.hi,.slice TA t.after.length tk] Tryz.underlying72 rfl HZ.out.2 HZ.out.1 ?_)
    |(with_reducible refine wpList_alloc_row rfl 72 rfl zeroTk zeroTk_zero ?_)
    |(with_reducible refine wpList_store_agg rfl 72 _ _ rfl _ 0 [.int .i64 (j:Int),.int .i64 t.lo,.int .i64 t.hi,.slice TA t.after.length tk] rfl rfl 72 zeroTk HQ.out HZ.out.2 (of_decide_eq_true (by kernel_rfl)) H1C.out ?_;have hX:=laid_row wb 72 zeroTk [.int .i64 (j:Int),.int .i64 t.lo,.int .i64 t.hi,.slice TA t.after.length tk] HLN.out;generalize World.setRow _ _ _ = w1 at hX ⊢;have HW:=Lib.hid hX;clear hX;refine halt ?_))
   unfold Halt
   have hc0:=cell_row HW.out.2.1 (j:=0) rfl
   have hg1:=(HW.out.1.cell (p:=⟨w.heap.size,1,none⟩) (by have:=HB.out.1.lt;simp only;omega)).trans (cell_row HB.out.1.src HG.out.1)
   have hq:=(HW.out.1.cell (p:=⟨b2,o2 + j * 40 + 38,none⟩) (Nat.lt_of_lt_of_le HC38.out.2 HB.out.1.below.size)).trans ((HB.out.1.below.cell (p:=⟨b2,o2 + j * 40 + 38,none⟩) HC38.out.2).trans HC38.out.1)
   have HP:=Lib.hid (HB.out.1.next HW.out.1)
   have HO:=Lib.hid (And.intro (HB.out.2.1) (And.intro HB.out.2.2 HW.out.1))
   have HCC:Hid (Calls Tryz.prog 12 #[.slice Q1 y.outs.length q1,.func (.func 51) #[] #[.pointer (some ⟨w.heap.size + 1,0,none⟩)]] w1 fun e w'=>e = .returned (.bool (y.outs.any fun x=>z.ins.contains x))∧w' = w1):=Lib.hid <|
    containsInts_any y.outs _ 51 ⟨w.heap.size + 1,0,none⟩ (fun x=>z.ins.contains x) (fun W=>W = w1) w1 (fun _ _=>rfl) (HP.out.keeps HT.out.2.2.2) rfl (fun W h=>by rw [h];exact Below.refl _ _) fun x _ _ W hW=>(after1_any x (w.heap.size + 1) i1 I1 z.ins W (by rw [hW];exact cell_row HP.out.res HG.out.2.2.1) (by rw [hW];exact HP.out.keeps HG.out.2.2.2.1)).mono (by rintro e w' ⟨rfl,rfl⟩;exact ⟨rfl,hW⟩)
   go_wp2_with fail
   refine HCC.out.mono ?_
   rintro e w2 ⟨rfl,rfl⟩
   obtain ⟨sh,hsh⟩:∃ sh,(y.outs.any fun x=>z.ins.contains x) = sh:=⟨_,rfl⟩
   rw [hsh]
   have HSH:Hid (sharesD (gOuts g t.node.toNat) z.ins = sh):=Lib.hid (by rw [HJ.out,HT.out.2.2.1];exact hsh)
   have HTK:Hid (ts.take (c + 1) = ts.take c++[t]):=Lib.hid (by rw [List.take_add_one,HT.out.2.1];rfl)
   clear hsh HCC hc0 hg1 hq
   have HHL:Hid ((afterD g (ts.take c) z.ins).length ≤ 1000000000000):=Lib.hid (by have:=afterD_len g (ts.take c) z.ins;rw [List.length_take] at this;omega)
   have HCL:Hid (c ≤ ts.length):=Lib.hid hcl
   have hlen:((ts.take c).length:Int) = (c:Int):=by rw [List.length_take];omega
   have HLEN:=Lib.hid hlen
   clear hlen
   cases sh with
   | true =>
    go_wp2_with (at_builtin;refine wpList_append_lies _ rfl _ _ 24 rfl W0.heap.size 3 i0 (.int .i64 0) 1 8 Tryz.underlying24 hi0 hz0 hz1 hz2 rfl (by decide) _ _ _ rfl ((own_below HO.out.1 HO.out.2.2).alloc _) _ _ 1 1 [.int .i64 (c:Int)] rfl rfl (lies_new _ _ _) ?c2 ?c3 ?c4 ?c5 ?_)
    case c2=>intro u hu;simp at hu;subst hu;rfl
    case c3=>unfold maxLen;have:=HHL.out;omega
    case c4=>have:=HHL.out;omega
    case c5=>have:=HO.out.2.1.size;have:=HO.out.2.2.size;simp;omega
    intro v' w3 hown' hgrow _
    go_wp2
    go_roundw
    case rel =>
     refine ⟨c + 1,by go_num,by omega,?_,?_⟩
     ·exact ((HO.out.2.1.trans (HO.out.2.2.mono HO.out.2.1.size)).alloc (HO.out.2.1.trans (HO.out.2.2.mono HO.out.2.1.size)).size _).grown hgrow (by have:=HO.out.2.1.size;have:=HO.out.2.2.size;simp;omega) (fun g hg=>(HO.out.1.lt g hg).1)
     ·rw [HTK.out,afterD_snoc,if_pos HSH.out,HLEN.out,List.length_append,List.map_append]
      exact hown'
    case measure=>simp [intOf];omega
   | false =>
    go_wp2
    go_roundw
    case rel =>
     refine ⟨c + 1,by go_num,by omega,HO.out.2.1.trans (HO.out.2.2.mono HO.out.2.1.size),?_⟩
     rw [HTK.out,afterD_snoc,if_neg (by rw [HSH.out];exact Bool.false_ne_true),List.append_nil]
     exact own_below HO.out.1 HO.out.2.2
    case measure=>simp [intOf];omega
  ·have hlt':¬ (c:Int) < (ts.length:Int):=by omega
   have HCE:=Lib.hid (show ts.take c = ts from List.take_of_length_le (by omega))
   go_wp2
   go_ret
   have ho:=HB.out.2.1
   rw [HCE.out] at ho
   obtain ⟨A,k,rfl,hr⟩:=own_list ho (by have:=afterD_len g ts z.ins;omega) (fun x hx=>by have:=afterD_lt x hx;unfold I64;omega)
   exact ⟨A,k,rfl,Rep.more hr (fresh_le (by have:=HX.out.lt;omega) (Nat.le_refl _)),HB.out.1.below⟩
end Go.Proofs.YtoeaglpmkjoenaaGreat
