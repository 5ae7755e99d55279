/-
  A part of the proofs of chapter 08: walks of the package ops. No condition.
-/
/-
  A part of the proofs of chapter 08: walks of the package ops. No condition.
-/
import Derived.Deep.RegionHeld3
import Derived.Test.YtgbkhcmbmffljaaDoorPOpsI
import Derived.Test.YtgbkhcmbmffljaaDoorShelf
namespace Go.Proofs.YtgbkhcmbmffljaaDoor
open Go.RowKit
open Rep (rep)
theorem chunks_strs {w:World} {Z:Zone}:∀ {l:List ByteArray} {xs:List Value},Chunks w Z xs l→xs = l.map Value.string
 | [],_,h=>by simpa [Chunks] using h
 | a :: l,xs,⟨c,r,hx,hc,hr⟩=>by rw [hx,hc.1,chunks_strs hr];rfl
def hasStr (x:ByteArray) (l:List ByteArray):Bool:=l.any fun y=>decide (y = x)
theorem hasStr_iff (x:ByteArray) (l:List ByteArray):hasStr x l = true ↔ x ∈ l:=by
 unfold hasStr
 rw [List.any_eq_true]
 constructor
 ·rintro ⟨y,hy,e⟩;rw [decide_eq_true_eq] at e;exact e ▸ hy
 ·intro h;exact ⟨x,h,by simp⟩
theorem containsStr_any (l:List ByteArray) (k:Nat) (hk:k ≤ l.length) (A:Option Addr) (c c':Nat) (x:ByteArray) (w:World) (Z:Zone) (hr:rep w Z [.slice A l.length c] l) :
  Calls Tryd.prog 69 #[.slice A k c',.string x] w fun e w'=>e = .returned (.bool (hasStr x (l.take k)))∧w = w':=by
 obtain ⟨A',c2,xs,hv,hnc,hcm,_,hl,hch⟩:=open_slice hr
 injection hv with hA _ _
 subst hA
 have hxs:=chunks_strs hch
 subst hxs
 cases k with
 | zero =>
  refine (Tryd.slices_Contains_string_empty A c' x w).mono ?_
  rintro e w' ⟨rfl,rfl⟩
  exact ⟨by simp [hasStr],rfl⟩
 | succ k =>
  obtain ⟨b,o,rfl,_,hc⟩:=hl (by intro e;have:=congrArg List.length e;simp at this;rw [this] at hk;simp at hk)
  refine (Tryd.slices_Contains_string b o (k + 1) c' l x w hk (by omega) (fun j hj=>?_)).mono ?_
  ·have:=(hc j (.string (l.getD j ByteArray.empty)) (by simp [List.getD,List.getElem?_eq_getElem hj])).1
   exact this
  ·rintro e w' ⟨rfl,rfl⟩
   refine ⟨?_,rfl⟩
   have:Lib.containsS (l.take (k + 1)) x = hasStr x (l.take (k + 1)):=by
    rw [Bool.eq_iff_iff,Lib.containsS_iff,hasStr_iff]
   rw [this]
def countsD (r:RowD) (n:NodeD):Bool :=
 (decide (r.least ≤ n.ins.length) && decide ((n.ins.length:Int) ≤ r.most) && decide (r.out ≤ n.outs.length) && decide ((n.outs.length:Int) ≤ r.mostOuts)) &&
 (!hasStr ⟨#[]⟩ (n.ins.take r.least.toNat) && !hasStr ⟨#[]⟩ (n.outs))
set_option maxRecDepth 100000 in
set_option maxHeartbeats 2000000 in
theorem counts_any (r:RowD) (h0:0 ≤ r.least) (cs:List Value) (n:NodeD) (w:World) (hr:rep w (old w.heap.size) cs n) :
  Calls Tryd.prog 37 #[.agg r.cells.toArray,.agg cs.toArray] w fun e w'=>e = .returned (.bool (countsD r n))∧Below w.heap.size w w':=by
 obtain ⟨A1,k1,A2,k2,A3,k3,rfl,g0,g1,hi,ho,_⟩:=open_NodeD hr
 obtain ⟨_,_,_,hvi,hki,hmi,_⟩:=open_slice hi
 obtain ⟨_,_,_,hvo,hko,hmo,_⟩:=open_slice ho
 simp only [Value.slice.injEq,true_and] at hvi hvo
 obtain ⟨rfl,rfl⟩:=hvi
 obtain ⟨rfl,rfl⟩:=hvo
 have hb:∀ o1 o2:Obj,Below w.heap.size w ((w.alloc o1).alloc o2):=fun _ _=>((Below.refl w.heap.size w).alloc (Nat.le_refl _) _).alloc (by simp) _
 have hi2:∀ o1 o2:Obj,rep ((w.alloc o1).alloc o2) (old w.heap.size) [.slice A1 n.ins.length k1] n.ins:=fun o1 o2=>Rep.keep hi (Keeps.old_below (hb o1 o2) (Nat.le_refl _))
 have ho2:∀ o1 o2:Obj,rep ((w.alloc o1).alloc o2) (old w.heap.size) [.slice A2 n.outs.length k2] n.outs:=fun o1 o2=>Rep.keep ho (Keeps.old_below (hb o1 o2) (Nat.le_refl _))
 have H:=Lib.hid (And.intro hb (And.intro hi2 ho2))
 clear hr hi ho hb hi2 ho2 g0 g1
 obtain ⟨name,least,most,out,mostOuts,attrs⟩:=r
 simp only at h0
 obtain ⟨k,rfl⟩:=Int.eq_ofNat_of_zero_le h0
 unfold RowD.cells
 simp only
 have hdef:countsD ⟨name,k,most,out,mostOuts,attrs⟩ n = ((decide ((k:Int) ≤ n.ins.length) && decide ((n.ins.length:Int) ≤ most) && decide (out ≤ n.outs.length) && decide ((n.outs.length:Int) ≤ mostOuts)) && (!hasStr ⟨#[]⟩ (n.ins.take k) && !hasStr ⟨#[]⟩ (n.outs))):=rfl
 rw [hdef]
 clear hdef h0
 by_cases e1:(k:Int) ≤ n.ins.length
 ·by_cases e2:(n.ins.length:Int) ≤ most
  ·by_cases e3:out ≤ n.outs.length
   ·by_cases e4:(n.outs.length:Int) ≤ mostOuts
    ·have hd:∀ b:Bool,((decide ((k:Int) ≤ n.ins.length) && decide ((n.ins.length:Int) ≤ most) && decide (out ≤ n.outs.length) && decide ((n.outs.length:Int) ≤ mostOuts)) && b) = b:=by simp [e1,e2,e3,e4]
     rw [hd]
     clear hd
     have hkl:k ≤ n.ins.length:=by omega
     have f1:¬ ((n.ins.length:Int) < k):=by omega
     have f2:¬ (most < (n.ins.length:Int)):=by omega
     have f3:¬ ((n.outs.length:Int) < out):=by omega
     have f4:¬ (mostOuts < (n.outs.length:Int)):=by omega
     cases hm:hasStr ⟨#[]⟩ (n.ins.take k) with
     | true =>
      have HM:=Lib.hid hm
      clear hm
      go_enter Tryd.func37,Tryd.ntmps37
      go_wp2_with fail
      refine (containsStr_any n.ins k hkl A1 k1 k1 _ _ _ (H.out.2.1 _ _)).mono ?_
      rw [HM.out]
      rintro e w1 ⟨rfl,rfl⟩
      go_wp2
      go_ret
      exact ⟨rfl,H.out.1 _ _⟩
     | false =>
      have HM:=Lib.hid hm
      clear hm
      go_enter Tryd.func37,Tryd.ntmps37
      go_wp2_with fail
      refine (containsStr_any n.ins k hkl A1 k1 k1 _ _ _ (H.out.2.1 _ _)).mono ?_
      rw [HM.out]
      rintro e w1 ⟨rfl,rfl⟩
      go_wp2_with fail
      refine (containsStr_any n.outs n.outs.length (Nat.le_refl _) A2 k2 k2 _ _ _ (H.out.2.2 _ _)).mono ?_
      rintro e w1 ⟨rfl,rfl⟩
      go_wp2
      go_ret
      exact ⟨rfl,H.out.1 _ _⟩
    ·have f1:¬ ((n.ins.length:Int) < k):=by omega
     have f2:¬ (most < (n.ins.length:Int)):=by omega
     have f3:¬ ((n.outs.length:Int) < out):=by omega
     have f4:(mostOuts < (n.outs.length:Int)):=by omega
     rw [decide_eq_false e4,Bool.and_false,Bool.false_and]
     clear e1 e2 e3 e4
     go_enter Tryd.func37,Tryd.ntmps37
     go_wp2
     go_ret
     exact ⟨rfl,H.out.1 _ _⟩
   ·have f1:¬ ((n.ins.length:Int) < k):=by omega
    have f2:¬ (most < (n.ins.length:Int)):=by omega
    have f3:((n.outs.length:Int) < out):=by omega
    rw [decide_eq_false e3,Bool.and_false,Bool.false_and,Bool.false_and]
    clear e1 e2 e3
    go_enter Tryd.func37,Tryd.ntmps37
    go_wp2
    go_ret
    exact ⟨rfl,H.out.1 _ _⟩
  ·have f1:¬ ((n.ins.length:Int) < k):=by omega
   have f2:(most < (n.ins.length:Int)):=by omega
   rw [decide_eq_false e2,Bool.and_false,Bool.false_and,Bool.false_and,Bool.false_and]
   clear e1 e2
   go_enter Tryd.func37,Tryd.ntmps37
   go_wp2
   go_ret
   exact ⟨rfl,H.out.1 _ _⟩
 ·have f1:((n.ins.length:Int) < k):=by omega
  rw [decide_eq_false e1,Bool.false_and,Bool.false_and,Bool.false_and,Bool.false_and]
  clear e1
  go_enter Tryd.func37,Tryd.ntmps37
  go_wp2
  go_ret
  exact ⟨rfl,H.out.1 _ _⟩
def pairsD:List (List UInt8)→List SortD
 | a :: b :: l=>⟨⟨a.toArray⟩,b.headD 0,[33].isSuffixOf b⟩ :: pairsD l
 | _=>[]
def sortsD (r:RowD):List SortD:=pairsD (Lib.fields r.attrs.data.toList)
def rowOk (r:RowD):Bool:=decide (r.attrs.size < 4294967281) && r.attrs.data.toList.all (fun b=>decide (b.toNat < 128)) && (Lib.fields r.attrs.data.toList).all (fun b=>!b.isEmpty && decide (b.length < 1000)) && decide ((Lib.fields r.attrs.data.toList).length < 1000) && decide (0 ≤ r.least)
theorem rows_ok:(tableD.all rowOk && rowOk noRow) = true:=by decide +kernel
theorem findD_ok (op:Int):rowOk (findD op) = true:=by
 have h:=rows_ok
 rw [Bool.and_eq_true] at h
 unfold findD
 split
 ·exact h.2
 ·cases hz:tableD[(op - 1).toNat]? with
  | none=>exact h.2
  | some z=>exact List.all_eq_true.1 h.1 z (List.mem_of_getElem? hz)
theorem sortInfo:(Tryd.prog.info? 84).map (fun i=>(i.zero,i.size,i.bytes)) = some (some (.agg #[.string ⟨#[]⟩,.int .u8 0,.bool false]),3,24):=by kernel_rfl
def SortD.cells (s:SortD):List Value:=[.string s.name,.int .u8 (s.letter.toNat:Int),.bool s.must]
theorem rep_sort {w:World} {Z:Zone} {s:SortD} (h:s.name.size ≤ reach):rep w Z s.cells s:=shut_SortD h
theorem SortD.one (r:SortD):∀ u ∈ r.cells,u.oneCell' = true:=by
 intro u hu;simp [SortD.cells] at hu;rcases hu with rfl | rfl | rfl <;> rfl
end Go.Proofs.YtgbkhcmbmffljaaDoor
namespace Go.Proofs.YtgbkhcmbmffljaaDoor
open Go.RowKit
open Rep (rep)
def Tab (w : World) : Prop := Lib.TabIs Tryd.prog w "strings.asciiSpace" .u8 Lib.asciiSpaceTab
theorem tabName : Tryd.prog.globalNamed "strings.asciiSpace" = some 0 := by kernel_rfl
theorem Tab.below {B:Nat} {w w':World} (h:Tab w) (k:Below B w w') (hB:0 < B):Tab w':=var?_below k tabName hB h
theorem Tab.pos {w:World} (h:Tab w):0 < w.heap.size:=by
 unfold Tab Lib.TabIs World.var? at h
 rw [tabName] at h
 simp only [Option.bind_some] at h
 rcases Nat.eq_zero_or_pos w.heap.size with h0 | h0
 ·rw [Array.getElem?_eq_none (by omega)] at h
  cases h
 ·exact h0
theorem Tab.ext {w w':World} (h:Tab w) (k:Below w.heap.size w w'):Tab w':=h.below k h.pos
theorem own_base {w:World} {base base':Nat} {e:TypeId} {size:Nat} {v:Value} {n:Nat} {xs:List Value} (h:w.ownsRow base e size v n xs) (hb:base' ≤ base):w.ownsRow base' e size v n xs:=by
 refine ⟨h.1,?_⟩
 rcases h.2 with h | ⟨g,cap,cur,h1,h2,h3⟩
 ·exact .inl h
 ·exact .inr ⟨g,cap,cur,h1,by omega,h3⟩
set_option maxRecDepth 100000 in
set_option maxHeartbeats 2000000 in
theorem sorts_any (r:RowD) (hok:rowOk r = true) (w:World) (ht:Tab w) :
  Calls Tryd.prog 32 #[.agg r.cells.toArray] w fun e w'=>∃ v',e = .returned v'∧w'.ownsRow w.heap.size 84 3 v' (sortsD r).length ((sortsD r).flatMap SortD.cells)∧Below w.heap.size w w':=by
 obtain ⟨i0,hi0,hz0,hz1,hz2⟩:=info_parts sortInfo
 unfold rowOk at hok
 simp only [Bool.and_eq_true,decide_eq_true_eq,List.all_eq_true] at hok
 obtain ⟨⟨⟨⟨ho1,ho2⟩,ho3⟩,ho4⟩,_⟩:=hok
 have hsd:sortsD r = pairsD (Lib.fields r.attrs.data.toList):=rfl
 obtain ⟨ws,hws⟩:∃ ws,Lib.fields r.attrs.data.toList = ws:=⟨_,rfl⟩
 have hF:∀ o:Obj,Calls Tryd.prog 63 #[.string r.attrs] (w.alloc o) fun e w'=>e = .returned (.slice (some ⟨w.heap.size + 1,0,none⟩) ws.length ws.length)∧(w.alloc o).alloc (.cells (ws.map fun l=>Value.string ⟨l.toArray⟩).toArray 9) = w':=fun o=>by
  have h1:Tab (w.alloc o):=ht.ext ((Below.refl _ _).alloc (Nat.le_refl _) o)
  refine (Tryd.strings_Fields r.attrs (w.alloc o) ho1 (fun j b hb=>by simpa using ho2 b (List.mem_of_getElem? hb)) h1).mono ?_
  rintro e w' ⟨rfl,rfl⟩
  rw [hws]
  simp
 rw [hws] at hsd ho3 ho4
 rw [hsd]
 have H:=Lib.hid hF
 have HW:=Lib.hid (And.intro ho3 ho4)
 clear hsd hws ho1 ho2 ho3 ho4 hF ht
 unfold RowD.cells
 go_enter Tryd.func32,Tryd.ntmps32
 go_wp2_with fail
 refine (H.out _).mono ?_
 rintro e w2 ⟨rfl,hw2⟩
 have hb2:Below w.heap.size w w2:=by rw [← hw2];exact ((Below.refl w.heap.size w).alloc (Nat.le_refl _) _).alloc (by simp) _
 have hz2':w2.heap.size = w.heap.size + 2:=by rw [← hw2];simp
 have hat:At w2 (w.heap.size + 1) 0 (ws.map fun l=>Value.string ⟨l.toArray⟩):=by
  rw [← hw2]
  have:=heap_alloc_new (w.alloc (.cells #[Value.string r.name,Value.int IntKind.i64 r.least,Value.int IntKind.i64 r.most,Value.int IntKind.i64 r.out,Value.int IntKind.i64 r.mostOuts,Value.string r.attrs] 79)) (.cells (ws.map fun l=>Value.string ⟨l.toArray⟩).toArray 9)
  rw [World.size_alloc] at this
  exact At.of_row this
 have H2:=Lib.hid (And.intro hb2 (And.intro hz2' hat))
 clear hw2 hb2 hz2' hat H
 have hwl:ws.length ≤ 1000:=by have:=HW.out.2;omega
 go_wp2_with fail
 go_loopw [3,5] (fun v i wr=>∃ (pre post:List (List UInt8)) (acc:List SortD),ws = pre++post∧i = .int .i64 pre.length∧pairsD ws = acc++pairsD post∧acc.length ≤ pre.length∧wr.ownsRow (w.heap.size + 2) 84 3 v acc.length (acc.flatMap SortD.cells)∧Below (w.heap.size + 2) w2 wr)
  (fun _ i _=>ws.length - (intOf i).toNat)
 case atStart=>exact ⟨[],ws,[],rfl,rfl,rfl,Nat.le_refl _,World.ownsRow_nil _ _ _ _,Below.refl _ _⟩
 case round =>
  obtain ⟨pre,post,acc,hpp,rfl,hpa,hal,hown,hbel⟩:=hrel
  obtain ⟨hb2,hz2',hat⟩:=H2.out
  rcases post with _ | ⟨a,_ | ⟨b,rest⟩⟩
  ·have hge:¬ ((pre.length:Int) + 1 < ws.length):=by rw [hpp];simp;omega
   have hpl:(pre.length:Int) ≤ 1000:=by rw [hpp] at hwl;simp at hwl;omega
   have HE:=Lib.hid (And.intro hpa (And.intro hb2 hbel))
   clear hpp hpa hb2 hz2' hat hbel
   go_wp2
   go_ret
   obtain ⟨hpa,hb2,hbel⟩:=HE.out
   refine ⟨_,rfl,?_,hb2.trans (hbel.mono (by omega))⟩
   rw [hpa]
   simpa [pairsD] using own_base hown (by omega)
  ·have hge:¬ ((pre.length:Int) + 1 < ws.length):=by rw [hpp];simp
   have hpl:(pre.length:Int) ≤ 1000:=by rw [hpp] at hwl;simp at hwl;omega
   have HE:=Lib.hid (And.intro hpa (And.intro hb2 hbel))
   clear hpp hpa hb2 hz2' hat hbel
   go_wp2
   go_ret
   obtain ⟨hpa,hb2,hbel⟩:=HE.out
   refine ⟨_,rfl,?_,hb2.trans (hbel.mono (by omega))⟩
   rw [hpa]
   simpa [pairsD] using own_base hown (by omega)
  ·have hlt:((pre.length:Int) + 1 < ws.length):=by rw [hpp];simp;omega
   have hne:=HW.out.1 b (by rw [hpp];simp)
   obtain ⟨b0,bt,rfl⟩:∃ b0 bt,b = b0 :: bt:=by
    cases b with
    | nil=>simp at hne
    | cons x y=>exact ⟨x,y,rfl⟩
   have c0:wr.cell? ⟨w.heap.size + 1,pre.length,none⟩ = some (.string ⟨a.toArray⟩):=by
    rw [hbel.cell (p:=⟨w.heap.size + 1,pre.length,none⟩) (by simp)]
    have:=hat pre.length (.string ⟨a.toArray⟩) (by rw [hpp];simp)
    simpa using this
   have c1:wr.cell? ⟨w.heap.size + 1,pre.length + 1,none⟩ = some (.string ⟨(b0 :: bt).toArray⟩):=by
    rw [hbel.cell (p:=⟨w.heap.size + 1,pre.length + 1,none⟩) (by simp)]
    have:=hat (pre.length + 1) (.string ⟨(b0 :: bt).toArray⟩) (by rw [hpp];simp)
    simpa using this
   have hsz:=hbel.size
   rw [hz2'] at hsz
   have HE:=Lib.hid (And.intro hpp (And.intro hpa (And.intro hb2 (And.intro hbel hne))))
   clear hpp hpa hb2 hz2' hat hbel hne
   have hS:∀ W:World,Calls Tryd.prog 64 #[.string ⟨(b0 :: bt).toArray⟩,.string ⟨#[33]⟩] W fun e w'=>e = .returned (.bool ([33].isSuffixOf (b0 :: bt)))∧W = w':=fun W =>
    (Tryd.strings_HasSuffix ⟨(b0 :: bt).toArray⟩ ⟨#[33]⟩ W (by have:=(HW.out.1 (b0 :: bt) (by rw [HE.out.1];simp)).2;show (b0 :: bt).toArray.size ≤ _;simp at this ⊢;omega)).mono fun e w' ⟨he,hw⟩=>⟨by rw [he];rfl,hw.symm⟩
   have HS:=Lib.hid hS
   clear hS
   have hacc:acc.length ≤ 1000:=by omega
   have hsz0:w.heap.size + 2 ≤ wr.heap.size:=hsz
   have hne':some (w.heap.size + 1) ≠ u3.ownBlock:=fun e=>by have:=(hown.lt _ e.symm).1;omega
   have hk0:(0:Int) ≤ (pre.length:Int):=Int.natCast_nonneg _
   have hk1:(pre.length:Int) < (ws.length:Int):=by omega
   have hk2:(0:Int) ≤ (pre.length:Int) + 1:=by omega
   have hk4:((pre.length:Int) + 1).toNat = pre.length + 1:=by omega
   have hk5:IntKind.i64.wrap ((pre.length:Int) + 1) = (pre.length:Int) + 1:=IntWalk.i64_in _ (by omega)
   go_wp2_with fail
   go_region_held3 (fun w'=>w'.cell? ⟨w.heap.size + 1,pre.length,none⟩ = some (.string ⟨a.toArray⟩)∧w'.cell? ⟨w.heap.size + 1,pre.length + 1,none⟩ = some (.string ⟨(b0 :: bt).toArray⟩))
    (first | go_keep | (go_split_ands;refine ⟨?_,?_⟩ <;> (rw [hgrow.cell_far _ (by simp;omega) hne'];assumption)))
    (first
     |(go_at_call 64;refine (HS.out _).mono ?_;rintro e w3 ⟨rfl,rfl⟩)
     |(refine step_append_lies _ (by rfl) _ _ _ (by rfl) (w.heap.size + 2) 84 i0 _ 3 24 Tryd.underlying81 hi0 hz0 hz1 hz2 rfl (by omega) u3 acc.length _ (by rfl) ((hown.alloc _).drew)
        ⟨wr.heap.size,0,none⟩ 1 1 [.string ⟨a.toArray⟩,.int .u8 (b0.toNat:Int),.bool ([33].isSuffixOf (b0 :: bt))] (by rfl) (by rfl) (World.news_of_block (cs:=#[.string ⟨a.toArray⟩,.int .u8 (b0.toNat:Int),.bool ([33].isSuffixOf (b0 :: bt))]) (t:=84) (fr:=(0,0)) (heap_alloc_new wr _)) (by simp [Value.oneCell'])
        (by omega) (by unfold maxLen;omega) (by omega) (by simp;omega) (wr.heap.size + 1) (by simp) ?_;intro gg cap w1 hown1 hgrow hat hlt))
   all_goals
    clear hk0 hk1 hk2 hk4 hk5 c0 c1
    have hlt':=hlt
    obtain ⟨hpp,hpa,hb2,hbel,_⟩:=HE.out
    have hbel1:Below (w.heap.size + 2) w2 w1:=(hbel.alloc hsz0 _).drew.grown hgrow (by simp;omega) (fun g hg=>(hown.lt g hg).1)
    have HX:=Lib.hid (And.intro hpp (And.intro hpa (And.intro hbel1 hown1)))
    clear hpp hpa hb2 hbel hbel1 hgrow hat hown hown1
    go_wp2
    go_roundw
    case rel =>
     obtain ⟨hpp,hpa,hbel1,hown1⟩:=HX.out
     refine ⟨pre++[a,b0 :: bt],rest,acc++[⟨⟨a.toArray⟩,b0,[33].isSuffixOf (b0 :: bt)⟩],by rw [hpp];simp,by simp,by rw [hpa];simp [pairsD],by simp;omega,?_,hbel1⟩
     simpa [SortD.cells] using hown1
    case measure=>simp [intOf];omega
end Go.Proofs.YtgbkhcmbmffljaaDoor
