/-
  Chapter 21: where the values of the document's example lie. No program in sight.
-/
import Derived.Test.YtoeaglpmkjoenaaGreatQArnL
import Derived.Test.YtoeaglpmkjoenaaGreatQLwP
set_option linter.unusedSimpArgs false
set_option linter.unusedVariables false
namespace Go.Proofs.YtoeaglpmkjoenaaGreat
theorem three_ord:ordN (planD threeH) = [0,1,2,3]:=by kernel_rfl
theorem three_s0:szAt (planD threeH) 0 = 160:=by kernel_rfl
theorem three_s1:szAt (planD threeH) 1 = 160:=by kernel_rfl
theorem three_s2:szAt (planD threeH) 2 = 160:=by kernel_rfl
theorem three_s3:szAt (planD threeH) 3 = 160:=by kernel_rfl
theorem three_m3:makerD (planD threeH) 3 = 2:=by kernel_rfl
theorem apB_yes {p:PlanD} {v w:Int} (h:ApartD p v w):apB p v w = true:=apB_iff.2 h
theorem apB_not {p:PlanD} {v w:Int} (h:¬ ApartD p v w):apB p v w = false:=by
 cases e:apB p v w with
 | false=>rfl
 | true=>exact (h (apB_iff.1 e)).elim
theorem three_a10:apB (planD threeH) 1 0 = true:=apB_yes (apart_symm three_a01)
theorem three_a20:apB (planD threeH) 2 0 = false:=apB_not fun h=>three_a02 (apart_symm h)
theorem three_a21:apB (planD threeH) 2 1 = true:=apB_yes (apart_symm three_a12)
theorem three_d03:DeadD (planD threeH) 0 3:=by
 refine ⟨by rw [three_m3];decide,by decide,fun _=>by decide,fun h=>?_,fun u hu=>?_⟩
 ·rw [three_m0] at h;exact absurd h (by decide)
 ·obtain ⟨n,hn,hm⟩:=gIns_mem hu.2
  rw [three_m3]
  match u,hn with
  | 0,_=>exact .step (.one three_e01) three_e12
  | 1,hn=>cases hn;exact absurd hm (by decide)
  | 2,hn=>cases hn;exact absurd hm (by decide)
theorem three_a30:apB (planD threeH) 3 0 = false:=apB_not fun h=>h.2.2.2.2 three_d03
theorem three_last {v:Int} (hu:UsesD (planD threeH) v 2):¬ DeadD (planD threeH) v 3:=fun hd=>by
 have h1:=hd.2.2.2.2 2 hu
 rw [three_m3] at h1
 have:=behind_lt three_soundH h1
 simp at this
theorem three_out {v:Int}:¬ DeadD (planD threeH) 3 v:=fun hd=>hd.2.1 (by decide)
theorem three_a31:apB (planD threeH) 3 1 = true:=apB_yes ⟨by decide,three_sized (by decide) (by decide),three_sized (by decide) (by decide),three_out,three_last ⟨three_liveAt (by omega),by decide⟩⟩
theorem three_a32:apB (planD threeH) 3 2 = true:=apB_yes ⟨by decide,three_sized (by decide) (by decide),three_sized (by decide) (by decide),three_out,three_last ⟨three_liveAt (by omega),by decide⟩⟩
theorem packD_step {S:List (Int × Int)→List (Int × Int)} {p:PlanD} {v:Nat} {todo done:List Nat} {at_ at2:List Int} {sz sz2:Int} {ws ds:List (Int × Int)} {h s:Int} (h1:wayD p done at_ v = ws) (h2:S ws = ds) (h3:szAt p v = s) (h4:holeD ds s = h) (h5:at_.set v h = at2) (h6:max sz (h + s) = sz2) :
  packD S p (v :: todo) done at_ sz = packD S p todo (done++[v]) at2 sz2:=by
 rw [packD,h1,h2,h3,h4,h5,h6]
theorem srtB_nil:srtB [] = []:=List.Perm.eq_nil (srtB_law []).1
theorem srtB_one (b:Int × Int):srtB [b] = [b]:=List.perm_singleton.1 (srtB_law [b]).1
theorem srtB_two {a b:Int × Int} (h:b.1 < a.1):srtB [a,b] = [b,a]:=by
 obtain ⟨h1,h2⟩:=srtB_law [a,b]
 have hl:(srtB [a,b]).length = 2:=h1.length_eq
 match hs:srtB [a,b],hl with
 | [x,y],_ =>
  rw [hs] at h1 h2
  have hx:x.1 ≤ y.1:=h2.1 y (List.mem_singleton.2 rfl)
  have m1:x = a ∨ x = b:=by simpa using h1.mem_iff.1 (List.mem_cons_self:x ∈ [x,y])
  rcases m1 with rfl | rfl
  ·have m2:y = b:=by
    have:=(List.perm_cons x).1 h1
    exact List.singleton_inj.1 (List.perm_singleton.1 this)
   rw [m2] at hx
   omega
  ·have:[x,y].Perm [x,a]:=h1.trans (List.Perm.swap x a [])
   have m2:=List.singleton_inj.1 (List.perm_singleton.1 ((List.perm_cons x).1 this))
   rw [m2]
theorem pack_three:packAll (planD threeH) = ([0,160,0,320],480):=by
 unfold packAll
 rw [three_ord,three_size]
 show packD srtB (planD threeH) [0,1,2,3] [] [0,0,0,0] 0 = _
 rw [packD_step (ws:=[]) rfl srtB_nil three_s0 (h:=0) (by decide) (at2:=[0,0,0,0]) rfl (sz2:=160) (by decide)]
 rw [packD_step (ws:=[(0,160)]) (by unfold wayD;simp [three_a10,three_s0,atD]) (srtB_one _) three_s1 (h:=160) (by decide) (at2:=[0,160,0,0]) rfl (sz2:=320) (by decide)]
 rw [packD_step (ws:=[(160,320)]) (by unfold wayD;simp [three_a20,three_a21,three_s0,three_s1,atD]) (srtB_one _) three_s2 (h:=0) (by decide) (at2:=[0,160,0,0]) rfl (sz2:=320) (by decide)]
 rw [packD_step (ws:=[(160,320),(0,160)]) (by unfold wayD;simp [three_a30,three_a31,three_a32,three_s1,three_s2,atD]) (srtB_two (by decide)) three_s3 (h:=320) (by decide) (at2:=[0,160,0,320]) rfl (sz2:=480) (by decide)]
 rfl
theorem three_ok:SizesOk (planD threeH):=⟨by rw [three_size];decide,by rw [three_size];decide⟩
end Go.Proofs.YtoeaglpmkjoenaaGreat
