/-
  Chapter 20: latticelaw20.three: the document's example, as data. No condition.
-/
/-
  Chapter 20: what the plan of the document's example is. No program in sight.
-/
/-
  Chapter 21: where the values of the document's example lie. No program in sight.
-/
import Derived.Test.YtoeaglpmkjoenaaGreatQPofM
import Derived.Test.YtoeaglpmkjoenaaGreatQArnL
set_option linter.unusedSimpArgs false
set_option linter.unusedVariables false
namespace Go.Proofs.YtoeaglpmkjoenaaGreat
open Go.RowKit
open Rep (rep)
def setC0:List Value:=[.int .i64 0,.slice none 0 0,.bool false,.bool false,.bool false,.bool false,.bool false,.slice none 0 0,.bool false,.int .u32 0,.int .u32 0,.int .u32 0,.bool false,.bool false,.bool false,.int .i64 0,.int .i64 0,.bool false,.bool false,.int .i64 0,.slice none 0 0,.slice none 0 0,.slice none 0 0,.slice none 0 0,.int .i64 0,.bool false,.bool false,.int .i64 0,.int .i64 0,.int .i64 0,.bool false,.int .i64 0,.slice none 0 0,.slice none 0 0,.slice none 0 0,.slice none 0 0]
def set0:SettingD:=⟨0,[],false,false,false,false,false,[],false,0,0,0,false,false,false,0,0,false,false,0,[],[],[],[],0,false,false,0,0,0,false,⟨0,[],[],[],[]⟩⟩
theorem i64_0:I64 0:=by unfold I64;omega
theorem set0_rep (w:World) (Z:Zone):rep w Z setC0 set0:=by
 have i:∀ j:Nat,setC0[j]? = some (.int .i64 0)→Fld w Z setC0 j (0:Int):=fun j h=>⟨_,h,rfl,i64_0⟩
 have u:∀ j:Nat,setC0[j]? = some (.int .u32 0)→Fld w Z setC0 j (0:Nat):=fun j h=>⟨_,h,rfl,by decide⟩
 have b:∀ j:Nat,setC0[j]? = some (.bool false)→Fld w Z setC0 j false:=fun j h=>⟨_,h,rfl⟩
 have l:∀ j:Nat,setC0[j]? = some (.slice none 0 0)→Fld w Z setC0 j ([]:List Int):=fun j h=>⟨_,h,rep_nil _ _⟩
 exact (⟨rfl,i 0 rfl,l 1 rfl,b 2 rfl,b 3 rfl,b 4 rfl,b 5 rfl,b 6 rfl,l 7 rfl,b 8 rfl,u 9 rfl,u 10 rfl,u 11 rfl,b 12 rfl,b 13 rfl,b 14 rfl,i 15 rfl,i 16 rfl,b 17 rfl,b 18 rfl,i 19 rfl,l 20 rfl,l 21 rfl,l 22 rfl,l 23 rfl,i 24 rfl,b 25 rfl,b 26 rfl,i 27 rfl,i 28 rfl,i 29 rfl,b 30 rfl,
  shut_TensorD (a:=⟨0,[],[],[],[]⟩) i64_0 (rep_nil _ _) (rep_nil _ _) (rep_nil _ _) (rep_nil _ _)⟩:SettingDAt w Z setC0 set0)
def threeD:GraphD:={ vals:=[mkV 1 [40],zeroVD,zeroVD,zeroVD],nodes:=[⟨16,set0,[0],[1],0⟩,⟨2,set0,[1],[2],1⟩,⟨28,set0,[1,2],[3],2⟩],inputs:=[0],outputs:=[3] }
def sl (n k m:Nat):Value:=.slice (some ⟨n + k,0,none⟩) m m
def valC0:List Value:=[.int .i64 0,.slice none 0 0,.bool false,.int .i64 0,.slice none 0 0,.slice none 0 0,.slice none 0 0,.slice none 0 0]
def intsC (l:List Int):Obj:=.cells (l.map (Value.int .i64)).toArray 3
theorem lays_get:∀ (os:List Obj) (w:World) (i:Nat) (o:Obj),os[i]? = some o→(lays w os).heap[w.heap.size + i]? = some o
 | [],_,i,o,h=>by simp at h
 | x :: os,w,0,o,h=>by
  have h:x = o:=by simpa using h
  subst h
  show (lays (w.alloc x) os).heap[w.heap.size + 0]? = some x
  rw [Nat.add_zero,(lays_below (B:=(w.alloc x).heap.size) os (w.alloc x) (Nat.le_refl _)).block w.heap.size (by rw [World.size_alloc];omega)]
  exact heap_alloc_new _ _
 | x :: os,w,i + 1,o,h=>by
  have:=lays_get os (w.alloc x) i o (by simpa using h)
  rw [World.size_alloc,show w.heap.size + 1 + i = w.heap.size + (i + 1) by omega] at this
  exact this
theorem list_row {W:World} {α:Type} [Rep α] {l:List α} {xs:List Value} {n k:Nat} {t:TypeId} (h:W.heap[n + k]? = some (.cells xs.toArray t (0,0))) (hc:Chunks W (old W.heap.size) xs l) (hl:l.length ≤ 4) (hb:l.length * Rep.bytes α ≤ reach):rep W (old W.heap.size) [sl n k l.length] l :=
 ⟨_,_,_,xs,rfl,rfl,Nat.le_refl _,by unfold maxLen;omega,hb,fun _=>⟨n + k,0,rfl,(Array.getElem?_eq_some_iff.1 h).1,fun j u hu=>⟨by rw [cell_of_row _ _ _ _ _ _ h,List.getElem?_toArray,Nat.zero_add];exact hu,fun e=>by cases e⟩⟩,hc⟩
theorem ints_at {W:World} {n k:Nat} {l:List Int} (h:W.heap[n + k]? = some (intsC l)) (h64:∀ x ∈ l,I64 x) (hl:l.length ≤ 4):rep W (old W.heap.size) [sl n k l.length] l :=
 list_row h (chunks_of_ints _ h64) hl (by unfold reach;show l.length * 8 ≤ _;omega)
theorem node_rep {W:World} {Z:Zone} {op src:Int} {vi vo:Value} {ins outs:List Int} (h1:I64 op) (h2:I64 src) (hi:rep W Z [vi] ins) (ho:rep W Z [vo] outs):rep W Z ([.int .i64 op]++(setC0++([vi]++([vo]++[.int .i64 src])))) (⟨op,set0,ins,outs,src⟩:GNodeD) :=
 shut_GNodeD (a:=⟨op,set0,ins,outs,src⟩) h1 (set0_rep _ _) hi ho h2
theorem val0_rep (W:World) (Z:Zone):rep W Z valC0 zeroVD :=
 shut_ValD (a:=zeroVD) (c1:=[.slice none 0 0]) (c3:=[.int .i64 0,.slice none 0 0,.slice none 0 0,.slice none 0 0,.slice none 0 0]) i64_0 (rep_nil _ _) (shut_TensorD (a:=⟨0,[],[],[],[]⟩) i64_0 (rep_nil _ _) (rep_nil _ _) (rep_nil _ _) (rep_nil _ _))
theorem chunk_cons {W:World} {Z:Zone} {α:Type} [Rep α] {c xs:List Value} {a:α} {l:List α} (h:rep W Z c a) (k:Chunks W Z xs l):Chunks W Z (c++xs) (a :: l):=⟨c,xs,rfl,h,k⟩
theorem small_i64 {x:Int} (h:0 ≤ x∧x ≤ 40):I64 x:=by unfold I64;omega
end Go.Proofs.YtoeaglpmkjoenaaGreat
set_option linter.unusedSimpArgs false
set_option linter.unusedVariables false
namespace Go.Proofs.YtoeaglpmkjoenaaGreat
def threeH:GraphD:={ threeD with vals:=[mkV 1 [40],mkV 1 [40],mkV 1 [40],mkV 1 [40]] }
theorem three_sound:SoundD threeD:=by
 refine ⟨by decide,by decide,by decide,by decide,by decide,?_,by decide⟩
 refine ⟨by decide,by decide,by decide,trivial⟩
theorem three_good:GoodG threeD:=fun i v h=>by
 match i,h with
 | 0,h=>cases h;exact ⟨rfl,fun _=>⟨by kernel_rfl,by decide⟩⟩
 | 1,h=>cases h;exact ⟨rfl,fun h=>absurd h (by decide)⟩
 | 2,h=>cases h;exact ⟨rfl,fun h=>absurd h (by decide)⟩
 | 3,h=>cases h;exact ⟨rfl,fun h=>absurd h (by decide)⟩
 | n + 4,h=>simp [threeD] at h
theorem fine_of {a:AskD} (h1:a.op = 28 ∨ a.op = 16 ∨ a.op = 2) (hl:a.ins.length ≤ 2) (h2:(∀ i,i < 2→i < a.ins.length→(a.val i).type = 1∧a.dims i = [40])) (hp:0 < a.ins.length) (hc:CompP a):a.fine:=by
 have hd:∀ i,i < a.ins.length→a.dims i = [40]:=fun i hi=>(h2 i (by omega) hi).2
 have hs:(sizeD [40]).2 = 0:=by kernel_rfl
 refine ⟨⟨h1,fun i hi=>(h2 i (by omega) hi).1⟩,hc,fun _=>⟨fun i hi=>by rw [hd i hi,hd 0 hp],by rw [hd 0 hp];exact hs⟩,fun i hi=>by rw [hd i hi];exact hs⟩
theorem comp_of {a:AskD} (h1:¬ (findD a.op).out = 0∧¬ a.op = 61∧(findD a.op).least ≤ a.ins.length∧(a.ins.length:Int) ≤ (findD a.op).most∧(findD a.op).out ≤ a.outs∧a.outs ≤ (findD a.op).mostOuts) (hl:(findD a.op).least ≤ 2) (h0:a.has 0 = true) (h2:1 < (findD a.op).least→a.has 1 = true):CompP a:=by
 obtain ⟨a1,a2,a3,a4,a5,a6⟩:=h1
 refine ⟨a1,a2,a3,a4,a5,a6,fun i hi=>?_⟩
 match i,hi with
 | 0,_=>exact h0
 | 1,hi=>exact h2 hi
 | n + 2,hi=>exact absurd hi (by omega)
theorem three_fine:FineG threeD.vals threeD.nodes:=by
 refine ⟨fine_of (by decide) (by decide) (by decide) (by decide) (comp_of (by decide) (by decide) (by decide) (by decide)),fine_of (by decide) (by decide) (by decide) (by decide) (comp_of (by decide) (by decide) (by decide) (by decide)),fine_of (by decide) (by decide) (by decide) (by decide) (comp_of (by decide) (by decide) (by decide) (by decide)),trivial⟩
theorem three_run:runV threeD.vals threeD.nodes = [mkV 1 [40],mkV 1 [40],mkV 1 [40],mkV 1 [40]]:=by kernel_rfl
theorem three_h {x:Int} {h:GraphD} (hp:OfP threeD x h):x = 0∧h = threeH:=by
 obtain ⟨-,h2,h3⟩:=hp
 obtain ⟨hx,hv⟩:=h3 three_sound three_good three_fine
 obtain ⟨-,e1,e2,e3,-,-⟩:=h2 hx
 refine ⟨hx,?_⟩
 rw [three_run] at hv
 cases h
 simp only at hv e1 e2 e3
 subst hv e1 e2 e3
 rfl
theorem three_size:(planD threeH).size = [160,160,160,160]:=by kernel_rfl
theorem three_live:(planD threeH).live = [true,true,true]:=by kernel_rfl
theorem three_soundH:SoundD (planD threeH).graph:=by
 refine ⟨by decide,by decide,by decide,by decide,by decide,?_,by decide⟩
 refine ⟨by decide,by decide,by decide,trivial⟩
theorem three_liveAt {i:Nat} (h:i < 3):liveAt (planD threeH) i:=by
 unfold liveAt
 rw [three_live]
 match i,h with
 | 0,_=>rfl
 | 1,_=>rfl
 | 2,_=>rfl
theorem three_e01:Edge (planD threeH) 0 1:=⟨three_liveAt (by omega),1,by decide,by decide⟩
theorem three_e12:Edge (planD threeH) 1 2:=⟨three_liveAt (by omega),2,by decide,by decide⟩
theorem three_m0:makerD (planD threeH) 0 = -1:=by kernel_rfl
theorem three_m1:makerD (planD threeH) 1 = 0:=by kernel_rfl
theorem three_m2:makerD (planD threeH) 2 = 1:=by kernel_rfl
theorem three_sized {v:Int} (h0:0 ≤ v) (h1:v < 4):SizedD (planD threeH) v:=by
 obtain ⟨n,rfl⟩:∃ n:Nat,v = (n:Int):=⟨v.toNat,by omega⟩
 refine ⟨h0,by rw [three_size];exact h1,160,?_,by decide⟩
 rw [three_size,Int.toNat_natCast]
 match n,h1 with
 | 0,_=>rfl
 | 1,_=>rfl
 | 2,_=>rfl
 | 3,_=>rfl
 | n + 4,h=>omega
theorem three_a12:ApartD (planD threeH) 1 2:=by
 refine ⟨by decide,three_sized (by decide) (by decide),three_sized (by decide) (by decide),fun hd=>?_,fun hd=>?_⟩
 ·have h1:=hd.2.2.2.2 2 ⟨three_liveAt (by omega),by decide⟩
  rw [three_m2] at h1
  have:=behind_lt three_soundH h1
  simp at this
 ·have h1:=hd.2.2.2.1 (by rw [three_m2];decide)
  rw [three_m2,three_m1] at h1
  have:=behind_lt three_soundH h1
  simp at this
theorem three_a02:¬ ApartD (planD threeH) 0 2:=fun ha=>ha.2.2.2.1 (by
 refine ⟨by rw [three_m2];decide,by decide,fun _=>by decide,fun h=>?_,fun u hu=>?_⟩
 ·rw [three_m0] at h;exact absurd h (by decide)
 ·obtain ⟨n,hn,hm⟩:=gIns_mem hu.2
  rw [three_m2]
  match u,hn with
  | 0,_=>exact .one three_e01
  | 1,hn=>cases hn;exact absurd hm (by decide)
  | 2,hn=>cases hn;exact absurd hm (by decide))
theorem three_a01:ApartD (planD threeH) 0 1:=by
 refine ⟨by decide,three_sized (by decide) (by decide),three_sized (by decide) (by decide),fun hd=>?_,fun hd=>?_⟩
 ·have h1:=hd.2.2.2.2 0 ⟨three_liveAt (by omega),by decide⟩
  rw [three_m1] at h1
  have:=behind_lt three_soundH h1
  simp at this
 ·have h1:=hd.1
  rw [three_m0] at h1
  exact absurd h1 (by decide)
end Go.Proofs.YtoeaglpmkjoenaaGreat
set_option linter.unusedSimpArgs false
set_option linter.unusedVariables false
namespace Go.Proofs.YtoeaglpmkjoenaaGreat
theorem three_ord:ordN (planD threeH) = [0,1,2,3]:=by kernel_rfl
theorem three_s0:szAt (planD threeH) 0 = 160:=by kernel_rfl
theorem three_s1:szAt (planD threeH) 1 = 160:=by kernel_rfl
theorem three_s2:szAt (planD threeH) 2 = 160:=by kernel_rfl
theorem three_s3:szAt (planD threeH) 3 = 160:=by kernel_rfl
theorem three_m3:makerD (planD threeH) 3 = 2:=by kernel_rfl
theorem apB_yes {p:PlanD} {v w:Int} (h:ApartD p v w):apB p v w = true:=apB_iff.2 h
theorem apB_not {p:PlanD} {v w:Int} (h:¬ ApartD p v w):apB p v w = false:=by
 cases e:apB p v w with
 | false=>rfl
 | true=>exact (h (apB_iff.1 e)).elim
theorem three_a10:apB (planD threeH) 1 0 = true:=apB_yes (apart_symm three_a01)
theorem three_a20:apB (planD threeH) 2 0 = false:=apB_not fun h=>three_a02 (apart_symm h)
theorem three_a21:apB (planD threeH) 2 1 = true:=apB_yes (apart_symm three_a12)
theorem three_d03:DeadD (planD threeH) 0 3:=by
 refine ⟨by rw [three_m3];decide,by decide,fun _=>by decide,fun h=>?_,fun u hu=>?_⟩
 ·rw [three_m0] at h;exact absurd h (by decide)
 ·obtain ⟨n,hn,hm⟩:=gIns_mem hu.2
  rw [three_m3]
  match u,hn with
  | 0,_=>exact .step (.one three_e01) three_e12
  | 1,hn=>cases hn;exact absurd hm (by decide)
  | 2,hn=>cases hn;exact absurd hm (by decide)
theorem three_a30:apB (planD threeH) 3 0 = false:=apB_not fun h=>h.2.2.2.2 three_d03
theorem three_last {v:Int} (hu:UsesD (planD threeH) v 2):¬ DeadD (planD threeH) v 3:=fun hd=>by
 have h1:=hd.2.2.2.2 2 hu
 rw [three_m3] at h1
 have:=behind_lt three_soundH h1
 simp at this
theorem three_out {v:Int}:¬ DeadD (planD threeH) 3 v:=fun hd=>hd.2.1 (by decide)
theorem three_a31:apB (planD threeH) 3 1 = true:=apB_yes ⟨by decide,three_sized (by decide) (by decide),three_sized (by decide) (by decide),three_out,three_last ⟨three_liveAt (by omega),by decide⟩⟩
theorem three_a32:apB (planD threeH) 3 2 = true:=apB_yes ⟨by decide,three_sized (by decide) (by decide),three_sized (by decide) (by decide),three_out,three_last ⟨three_liveAt (by omega),by decide⟩⟩
theorem packD_step {S:List (Int × Int)→List (Int × Int)} {p:PlanD} {v:Nat} {todo done:List Nat} {at_ at2:List Int} {sz sz2:Int} {ws ds:List (Int × Int)} {h s:Int} (h1:wayD p done at_ v = ws) (h2:S ws = ds) (h3:szAt p v = s) (h4:holeD ds s = h) (h5:at_.set v h = at2) (h6:max sz (h + s) = sz2) :
  packD S p (v :: todo) done at_ sz = packD S p todo (done++[v]) at2 sz2:=by
 rw [packD,h1,h2,h3,h4,h5,h6]
theorem srtB_nil:srtB [] = []:=List.Perm.eq_nil (srtB_law []).1
theorem srtB_one (b:Int × Int):srtB [b] = [b]:=List.perm_singleton.1 (srtB_law [b]).1
theorem srtB_two {a b:Int × Int} (h:b.1 < a.1):srtB [a,b] = [b,a]:=by
 obtain ⟨h1,h2⟩:=srtB_law [a,b]
 have hl:(srtB [a,b]).length = 2:=h1.length_eq
 match hs:srtB [a,b],hl with
 | [x,y],_ =>
  rw [hs] at h1 h2
  have hx:x.1 ≤ y.1:=h2.1 y (List.mem_singleton.2 rfl)
  have m1:x = a ∨ x = b:=by simpa using h1.mem_iff.1 (List.mem_cons_self:x ∈ [x,y])
  rcases m1 with rfl | rfl
  ·have m2:y = b:=by
    have:=(List.perm_cons x).1 h1
    exact List.singleton_inj.1 (List.perm_singleton.1 this)
   rw [m2] at hx
   omega
  ·have:[x,y].Perm [x,a]:=h1.trans (List.Perm.swap x a [])
   have m2:=List.singleton_inj.1 (List.perm_singleton.1 ((List.perm_cons x).1 this))
   rw [m2]
theorem pack_three:packAll (planD threeH) = ([0,160,0,320],480):=by
 unfold packAll
 rw [three_ord,three_size]
 show packD srtB (planD threeH) [0,1,2,3] [] [0,0,0,0] 0 = _
 rw [packD_step (ws:=[]) rfl srtB_nil three_s0 (h:=0) (by decide) (at2:=[0,0,0,0]) rfl (sz2:=160) (by decide)]
 rw [packD_step (ws:=[(0,160)]) (by unfold wayD;simp [three_a10,three_s0,atD]) (srtB_one _) three_s1 (h:=160) (by decide) (at2:=[0,160,0,0]) rfl (sz2:=320) (by decide)]
 rw [packD_step (ws:=[(160,320)]) (by unfold wayD;simp [three_a20,three_a21,three_s0,three_s1,atD]) (srtB_one _) three_s2 (h:=0) (by decide) (at2:=[0,160,0,0]) rfl (sz2:=320) (by decide)]
 rw [packD_step (ws:=[(160,320),(0,160)]) (by unfold wayD;simp [three_a30,three_a31,three_a32,three_s1,three_s2,atD]) (srtB_two (by decide)) three_s3 (h:=320) (by decide) (at2:=[0,160,0,320]) rfl (sz2:=480) (by decide)]
 rfl
theorem three_ok:SizesOk (planD threeH):=⟨by rw [three_size];decide,by rw [three_size];decide⟩
end Go.Proofs.YtoeaglpmkjoenaaGreat
