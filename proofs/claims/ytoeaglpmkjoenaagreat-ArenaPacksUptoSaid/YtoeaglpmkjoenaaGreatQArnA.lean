/-
  Chapter 21: latticelaw21.awake: the document's example holds. No condition.
-/
import Derived.Test.YtoeaglpmkjoenaaGreatQSrtQ
import Derived.Test.YtoeaglpmkjoenaaGreatQArnE
import Derived.Test.YtoeaglpmkjoenaaGreatQInfYa
set_option linter.unusedSimpArgs false
set_option linter.unusedVariables false
namespace Go.Proofs.YtoeaglpmkjoenaaGreat
open Go.RowKit
open Rep (rep)
theorem three_shapes:ShapesAll threeD:=fun a _ ⟨n,hn,e⟩=>shapes_three a (by
 have hn:n = ⟨16,set0,[0],[1],0⟩ ∨ n = ⟨2,set0,[1],[2],1⟩ ∨ n = ⟨28,set0,[1,2],[3],2⟩:=by simpa [threeD] using hn
 rcases hn with rfl | rfl | rfl <;> rw [e]
 ·exact .inr (.inl rfl)
 ·exact .inr (.inr rfl)
 ·exact .inl rfl)
def valE1 (n:Nat):List Value:=[.int .i64 1,sl n 0 1,.bool false,.int .i64 0,.slice none 0 0,.slice none 0 0,.slice none 0 0,.slice none 0 0]
def threeE (n:Nat):List Value:=[sl n 2 4,sl n 11 3,sl n 3 1,sl n 4 1]
def nodesE3 (n:Nat):List Value:=([.int .i64 16]++(setC0++([sl n 5 1]++([sl n 6 1]++[.int .i64 0]))))++(([.int .i64 2]++(setC0++([sl n 7 1]++([sl n 8 1]++[.int .i64 1]))))++([.int .i64 28]++(setC0++([sl n 9 2]++([sl n 10 1]++[.int .i64 2])))))
def threeEO (n:Nat):List Obj:=[intsC [40],.cells (valE1 n).toArray 45,.cells (valE1 n++(valC0++(valC0++valC0))).toArray 45,intsC [0],intsC [3],intsC [0],intsC [1],intsC [1],intsC [2],intsC [1,2],intsC [3],.cells (nodesE3 n).toArray 50,.cells (threeE n).toArray 26]
theorem threeE_rep (w:World):rep (lays w (threeEO w.heap.size)) (old (lays w (threeEO w.heap.size)).heap.size) (threeE w.heap.size) threeD:=by
 have g:∀ i o,(threeEO w.heap.size)[i]? = some o→(lays w (threeEO w.heap.size)).heap[w.heap.size + i]? = some o:=fun i o h=>lays_get _ _ i o h
 generalize lays w (threeEO w.heap.size) = W at g ⊢
 generalize w.heap.size = n at g ⊢
 have i0:=ints_at (g 0 _ rfl) (by simpa using small_i64 (x:=40) (by omega)) (by decide)
 have i3:=ints_at (g 3 _ rfl) (by simpa using small_i64 (x:=0) (by omega)) (by decide)
 have i4:=ints_at (g 4 _ rfl) (by simpa using small_i64 (x:=3) (by omega)) (by decide)
 have i5:=ints_at (g 5 _ rfl) (by simpa using small_i64 (x:=0) (by omega)) (by decide)
 have i6:=ints_at (g 6 _ rfl) (by simpa using small_i64 (x:=1) (by omega)) (by decide)
 have i7:=ints_at (g 7 _ rfl) (by simpa using small_i64 (x:=1) (by omega)) (by decide)
 have i8:=ints_at (g 8 _ rfl) (by simpa using small_i64 (x:=2) (by omega)) (by decide)
 have i9:=ints_at (g 9 _ rfl) (by simpa using And.intro (small_i64 (x:=1) (by omega)) (small_i64 (x:=2) (by omega))) (by decide)
 have i10:=ints_at (g 10 _ rfl) (by simpa using small_i64 (x:=3) (by omega)) (by decide)
 have v1:rep W (old W.heap.size) (valE1 n) (mkV 1 [40]):=shut_ValD (a:=mkV 1 [40]) (c1:=[sl n 0 1]) (c3:=[.int .i64 0,.slice none 0 0,.slice none 0 0,.slice none 0 0,.slice none 0 0]) (small_i64 (by decide)) i0 (shut_TensorD (a:=⟨0,[],[],[],[]⟩) i64_0 (rep_nil _ _) (rep_nil _ _) (rep_nil _ _) (rep_nil _ _))
 have vs:rep W (old W.heap.size) [sl n 2 4] threeD.vals:=list_row (g 2 _ rfl) (chunk_cons v1 (chunk_cons (val0_rep _ _) (chunk_cons (val0_rep _ _) (Chunks.single (val0_rep _ _))))) (by decide) (of_decide_eq_true (by kernel_rfl))
 have ns:rep W (old W.heap.size) [sl n 11 3] threeD.nodes:=list_row (g 11 _ rfl) (chunk_cons (node_rep (small_i64 (by decide)) (small_i64 (by decide)) i5 i6) (chunk_cons (node_rep (small_i64 (by decide)) (small_i64 (by decide)) i7 i8) (Chunks.single (node_rep (small_i64 (by decide)) (small_i64 (by decide)) i9 i10)))) (by decide) (of_decide_eq_true (by kernel_rfl))
 exact shut_GraphD (a:=threeD) (c0:=[sl n 2 4]) (c1:=[sl n 11 3]) (c2:=[sl n 3 1]) (c3:=[sl n 4 1]) vs ns i3 i4
theorem three_yes:CheckD (planD threeH) [0,160,0,320] 480:=by
 have:=pack_check three_ok (packAll_I three_ok)
 rwa [pack_three] at this
theorem three_no:¬ CheckD (planD threeH) [0,160,0,320] 479:=fun h=>by
 have h1:=(h.2.1 3 (by rw [three_size];decide)).2.2.2
 rw [three_s3] at h1
 exact h1 (by decide)
theorem chkB_eq {p:PlanD} {a:List Int} {s:Int} {b:Bool} (h:ChkB p a s b):(CheckD p a s→b = true)∧(¬ CheckD p a s→b = false):=⟨fun e=>h.2 e,fun e=>by
 cases b with
 | false=>rfl
 | true=>exact (e (h.1 rfl)).elim⟩
theorem own_arr {W:World} {ab n:Nat} {l:List Int} (h:W.heap[ab]? = some (.cells (l.map (Value.int .i64)).toArray 3 (0,0))) (hn:l.length = n) (h64:∀ x ∈ l,I64 x) (hl:n ≤ 4096):rep W (old W.heap.size) [.slice (some ⟨ab,0,none⟩) n n] l:=by
 subst hn
 exact ⟨_,_,_,l.map (Value.int .i64),rfl,rfl,Nat.le_refl _,by unfold maxLen;omega,(by unfold reach;show l.length * 8 ≤ _;omega),fun _=>⟨ab,0,rfl,(Array.getElem?_eq_some_iff.1 h).1,fun j u hu=>⟨by rw [cell_of_row _ _ _ _ _ _ h,List.getElem?_toArray,Nat.zero_add];exact hu,fun e=>by cases e⟩⟩,chunks_of_ints _ h64⟩
set_option maxRecDepth 100000 in
set_option maxHeartbeats 16000000 in
theorem awake21_any (w:World):Calls Tryz.prog 5 #[] w fun e w'=>e = .returned (.bool true)∧Below w.heap.size w w':=by
 go_enter Tryz.func5,Tryz.ntmps5
 go_wp2_with fail
 have hr:=threeE_rep w
 have hb:=lays_below (B:=w.heap.size) (threeEO w.heap.size) w (Nat.le_refl _)
 refine (planof_any (threeE w.heap.size) threeD (lays w (threeEO w.heap.size)) (Lib.hid three_shapes) hr (by decide) (by decide) (by decide) (by decide) (by decide)).mono ?_
 rintro e w2 ⟨pcs,x,y,p,rfl,hx,hy,hb2,hr2,-,h,hof,hp⟩
 obtain ⟨rfl,rfl⟩:=three_h hof
 obtain rfl:=hp rfl
 have hl7:pcs.length = 7:=Rep.len hr2
 have HB2:=Lib.hid (And.intro (hb.trans (hb2.mono hb.size)) hr2)
 have HS:=Lib.hid (And.intro (plan_size hr2) (And.intro (Rep.one hr2) (And.intro (show 0 + pcs.length ≤ z7.length by rw [hl7];decide) (show pcs.length = z7.length from hl7))))
 clear hx hy hb2 hr2 hof hp hl7 hr hb
 go_wp2_with (first
  |(with_reducible refine wpList_alloc_row rfl 30 rfl z7 z7_zero ?_)
  |(with_reducible refine wpList_store_agg rfl 30 _ _ rfl _ 0 pcs rfl rfl 30 z7 (heap_alloc_new _ _) HS.out.1 HS.out.2.2.1 HS.out.2.1 ?_;have hY:=laid_row w2 30 z7 pcs HS.out.2.2.2;generalize World.setRow _ _ _ = w3 at hY ⊢;have HY:=Lib.hid hY;clear hY;refine halt ?_))
 unfold Halt
 have hL:=law_start HB2.out.1 HB2.out.2 HY.out
 obtain ⟨q,hq⟩:∃ q,w2.heap.size = q:=⟨_,rfl⟩
 rw [hq] at hL ⊢
 have HL:=Lib.hid hL
 clear hq HY HS HB2 hL
 go_wp2_with (with_reducible refine wpList_load_agg_w (by with_unfolding_all rfl) 30 _ rfl _ q 0 rfl pcs Tryz.underlying30 rfl HL.out.size HL.out.at ?_)
 refine (arenaPack_any pcs (planD threeH) 480 w3 HL.out.arg ⟨by decide,by decide⟩).mono ?_
 rintro e w4 ⟨hb4,hp4⟩
 have hp4':∃ ab,e = .returned (.tuple #[.slice (some ⟨ab,0,none⟩) 4 4,.int .i64 480,.int .i64 0])∧w4.heap[ab]? = some (.cells (([0,160,0,320]:List Int).map (Value.int .i64)).toArray 3 (0,0)):=by
  rw [pack_three,three_size] at hp4
  rcases hp4 with ⟨h,-⟩ | ⟨-,h,-⟩ | ⟨-,-,ab,h1,-,h2,-⟩
  ·exact (h three_ok).elim
  ·exact absurd h (by decide)
  ·exact ⟨ab,h1,h2⟩
 obtain ⟨ab,rfl,hrow4⟩:=hp4'
 have HL4:=Lib.hid (HL.out.next hb4)
 have HW4:=Lib.hid hrow4
 clear hb4 hp4 hrow4 HL
 go_wp2_with (with_reducible refine wpList_load_agg_w (by with_unfolding_all rfl) 30 _ rfl _ q 0 rfl pcs Tryz.underlying30 rfl HL4.out.size HL4.out.at ?_)
 refine (arenaPack_any pcs (planD threeH) 479 w4 HL4.out.arg ⟨by decide,by decide⟩).mono ?_
 rintro e w5 ⟨hb5,hp5⟩
 have hp5':e = .returned (.tuple #[.slice none 0 0,.int .i64 0,.int .i64 9]):=by
  rw [pack_three,three_size] at hp5
  rcases hp5 with ⟨h,-⟩ | ⟨-,-,h⟩ | ⟨-,h,-⟩
  ·exact (h three_ok).elim
  ·exact h
  ·exact absurd (show (480:Int) > 479 by decide) h
 subst hp5'
 have HL5:=Lib.hid (HL4.out.next hb5)
 have HW5:=Lib.hid ((hb5.block ab (Array.getElem?_eq_some_iff.1 HW4.out).1).trans HW4.out)
 clear hb5 hp5 HL4 HW4
 go_wp2_with fail
 have h64:∀ x ∈ ([0,160,0,320]:List Int),I64 x:=by intro x hx;simp at hx;unfold I64;omega
 have hb6:Below w5.heap.size w5 (w5.alloc (.cells #[.int .i64 0,.int .i64 160,.int .i64 0,.int .i64 320] 3)):=(Below.refl _ _).alloc (Nat.le_refl _) _
 have hrow6:=heap_alloc_new w5 (.cells #[.int .i64 0,.int .i64 160,.int .i64 0,.int .i64 320] 3)
 have hw6:=(hb6.block ab (Array.getElem?_eq_some_iff.1 HW5.out).1).trans HW5.out
 have hL6:=HL5.out.next hb6
 refine (sameInts4_any _ _ [0,160,0,320] (w5.alloc (.cells #[.int .i64 0,.int .i64 160,.int .i64 0,.int .i64 320] 3)) (own_arr (n:=4) hw6 rfl h64 (by decide)) (own_arr (n:=4) hrow6 rfl h64 (by decide))).mono ?_
 rintro e w7 ⟨rfl,m,rfl⟩
 have hb7:=below_drewN (Below.refl (w5.alloc (.cells #[.int .i64 0,.int .i64 160,.int .i64 0,.int .i64 320] 3)).heap.size (w5.alloc (.cells #[.int .i64 0,.int .i64 160,.int .i64 0,.int .i64 320] 3))) m
 have hL7:=hL6.next hb7
 have hw7:=(hb7.block ab (Array.getElem?_eq_some_iff.1 hw6).1).trans hw6
 generalize World.drewN _ m = w7 at hL7 hw7 ⊢
 have HL7:=Lib.hid hL7
 have HW7:=Lib.hid hw7
 clear hb6 hrow6 hw6 hL6 hb7 hL7 hw7 HL5 HW5
 go_wp2_with (with_reducible refine wpList_load_agg_w (by with_unfolding_all rfl) 30 _ rfl _ q 0 rfl pcs Tryz.underlying30 rfl HL7.out.size HL7.out.at ?_)
 refine (arenaCheck_any pcs (planD threeH) (some ⟨ab,0,none⟩) 4 [0,160,0,320] 480 w7 HL7.out.arg ⟨by decide,by decide⟩ three_ok (own_arr (n:=4) HW7.out rfl h64 (by decide)) (by unfold I64;omega)).mono ?_
 rintro e w8 ⟨b,rfl,hb8,hbb⟩
 obtain rfl:=(chkB_eq hbb).1 three_yes
 have HL8:=Lib.hid (HL7.out.next hb8)
 have HW8:=Lib.hid ((hb8.block ab (Array.getElem?_eq_some_iff.1 HW7.out).1).trans HW7.out)
 clear hb8 hbb HL7 HW7
 go_wp2_with (with_reducible refine wpList_load_agg_w (by with_unfolding_all rfl) 30 _ rfl _ q 0 rfl pcs Tryz.underlying30 rfl HL8.out.size HL8.out.at ?_)
 refine (arenaCheck_any pcs (planD threeH) (some ⟨ab,0,none⟩) 4 [0,160,0,320] 479 w8 HL8.out.arg ⟨by decide,by decide⟩ three_ok (own_arr (n:=4) HW8.out rfl h64 (by decide)) (by unfold I64;omega)).mono ?_
 rintro e w9 ⟨b,rfl,hb9,hbb⟩
 obtain rfl:=(chkB_eq hbb).2 three_no
 have HL9:=Lib.hid (HL8.out.next hb9)
 clear hb9 hbb h64
 go_wp2
 go_ret
 exact ⟨rfl,HL9.out.below⟩
end Go.Proofs.YtoeaglpmkjoenaaGreat
