/-
  A part of the proofs of chapter 08: walks of the package ops. No condition.
-/
/-
  A part of the proofs of chapter 08: walks of the package ops. No condition.
-/
/-
  A part of the proofs of chapter 08: walks of the package ops. No condition.
-/
import Derived.Test.YtgbkhcmbmffljaaDoorPOpsK
import Derived.Test.YtgbkhcmbmffljaaDoorPOpsA
import Derived.Test.YtgbkhcmbmffljaaDoorPAid
namespace Go.Proofs.YtgbkhcmbmffljaaDoor
open Go.RowKit
open Rep (rep)
theorem info_ints:(Tryd.prog.info? 3).map (fun i=>(i.zero,i.size,i.bytes)) = some (some (.int .i64 0),1,8):=by kernel_rfl
set_option maxRecDepth 100000 in
set_option maxHeartbeats 1000000 in
theorem clone_ints (l:List Int) (v:Value) (w:World) (hr:rep w (old w.heap.size) [v] l) :
  Calls Tryd.prog 88 #[v] w fun e w'=>∃ v',e = .returned v'∧rep w' (fresh w.heap.size w'.heap.size) [v'] l∧Below w.heap.size w w':=by
 obtain ⟨i0,hi0,hz0,hz1,hz2⟩:=info_parts info_ints
 have q:∀ (w:World) (a:Option Addr) (n c n' c':Nat),(binOp .eql 37 (.slice a n c) (.slice none n' c')).run Tryd.prog w = .ok (.bool a.isNone) w:=fun w a n c n' c'=>Lib.run_eql_slice_nil w _ _ a n c n' c' Tryd.underlying37
 obtain ⟨A,c,xs,rfl,hnc,hcm,hb,hl,hch⟩:=open_slice hr
 replace hb:l.length * 8 ≤ 140737488351232:=hb
 cases A with
 | none =>
  have hxs:xs = []:=Classical.byContradiction fun hne=>by
   obtain ⟨b,o,hA,_⟩:=hl hne
   cases hA
  have hl0:l = []:=by
   have:=hch.len
   rw [hxs] at this
   have h2:0 = l.length * 1:=this
   exact List.eq_nil_of_length_eq_zero (by omega)
  subst hl0
  clear hr hl hch hb hnc hcm hxs
  go_enter Tryd.func88,Tryd.ntmps88
  go_wp2
  go_ret
  exact ⟨_,rfl,rep_nil _ _,Below.refl _ _⟩
 | some ad =>
  have hn1:=hch.len
  replace hn1:xs.length = l.length * 1:=hn1
  have H:=Lib.hid (And.intro hch (And.intro hn1 hch.one))
  have hl2:∀ o:Obj,Lies (w.alloc o) (old w.heap.size) (some ad) xs:=fun o=>hl.keep (Keeps.old_below ((Below.refl _ _).alloc (Nat.le_refl _) o) (Nat.le_refl _))
  have HL:=Lib.hid hl2
  have hbz:l.length ≤ 140737488351232:=by omega
  clear hr hl hch hl2 hn1 hnc hcm
  go_enter Tryd.func88,Tryd.ntmps88
  go_wp2_with (at_builtin;refine wpList_append_lies _ rfl _ _ 37 rfl w.heap.size 3 i0 _ 1 8 Tryd.underlying37 hi0 hz0 hz1 hz2 rfl (by decide) _ 0 [] rfl (World.ownsRow_made w #[] 0 (Nat.le_refl _) (Nat.zero_le _) rfl) _ _ _ _ _ rfl H.out.2.1 (HL.out _) H.out.2.2 ?c3 ?c4 ?c5 ?_)
  case c3=>unfold maxLen;omega
  case c4=>omega
  case c5=>simp
  intro v' w1 hown' hgrow hat
  have HX:=Lib.hid (And.intro hown' (And.intro hgrow hat))
  clear hown' hgrow hat
  go_wp2
  go_ret
  obtain ⟨hown,hgrow,hat⟩:=HX.out
  refine ⟨v',rfl,rep_of_own hown (Chunks.any H.out.1) hb (fun g _ h1 h2=>⟨h1,h2⟩),?_⟩
  exact ((Below.refl _ w).alloc (Nat.le_refl _) _).grown hgrow (by simp) (by intro k hk;simp [Value.ownBlock] at hk;omega)
theorem info_u32s:(Tryd.prog.info? 38).map (fun i=>(i.zero,i.size,i.bytes)) = some (some (.int .u32 0),1,4):=by kernel_rfl
set_option maxRecDepth 100000 in
set_option maxHeartbeats 1000000 in
theorem clone_u32s (l:List Nat) (v:Value) (w:World) (hr:rep w (old w.heap.size) [v] l) :
  Calls Tryd.prog 108 #[v] w fun e w'=>∃ v',e = .returned v'∧rep w' (fresh w.heap.size w'.heap.size) [v'] l∧Below w.heap.size w w':=by
 obtain ⟨i0,hi0,hz0,hz1,hz2⟩:=info_parts info_u32s
 have q:∀ (w:World) (a:Option Addr) (n c n' c':Nat),(binOp .eql 39 (.slice a n c) (.slice none n' c')).run Tryd.prog w = .ok (.bool a.isNone) w:=fun w a n c n' c'=>Lib.run_eql_slice_nil w _ _ a n c n' c' Tryd.underlying39
 obtain ⟨A,c,xs,rfl,hnc,hcm,hb,hl,hch⟩:=open_slice hr
 replace hb:l.length * 4 ≤ 140737488351232:=hb
 cases A with
 | none =>
  have hxs:xs = []:=Classical.byContradiction fun hne=>by
   obtain ⟨b,o,hA,_⟩:=hl hne
   cases hA
  have hl0:l = []:=by
   have:=hch.len
   rw [hxs] at this
   have h2:0 = l.length * 1:=this
   exact List.eq_nil_of_length_eq_zero (by omega)
  subst hl0
  clear hr hl hch hb hnc hcm hxs
  go_enter Tryd.func108,Tryd.ntmps108
  go_wp2
  go_ret
  exact ⟨_,rfl,rep_nil _ _,Below.refl _ _⟩
 | some ad =>
  have hn1:=hch.len
  replace hn1:xs.length = l.length * 1:=hn1
  have H:=Lib.hid (And.intro hch (And.intro hn1 hch.one))
  have hl2:∀ o:Obj,Lies (w.alloc o) (old w.heap.size) (some ad) xs:=fun o=>hl.keep (Keeps.old_below ((Below.refl _ _).alloc (Nat.le_refl _) o) (Nat.le_refl _))
  have HL:=Lib.hid hl2
  have hbz:l.length ≤ 140737488351232:=by omega
  clear hr hl hch hl2 hn1 hnc hcm
  go_enter Tryd.func108,Tryd.ntmps108
  go_wp2_with (at_builtin;refine wpList_append_lies _ rfl _ _ 39 rfl w.heap.size 38 i0 _ 1 4 Tryd.underlying39 hi0 hz0 hz1 hz2 rfl (by decide) _ 0 [] rfl (World.ownsRow_made w #[] 0 (Nat.le_refl _) (Nat.zero_le _) rfl) _ _ _ _ _ rfl H.out.2.1 (HL.out _) H.out.2.2 ?c3 ?c4 ?c5 ?_)
  case c3=>unfold maxLen;omega
  case c4=>omega
  case c5=>simp
  intro v' w1 hown' hgrow hat
  have HX:=Lib.hid (And.intro hown' (And.intro hgrow hat))
  clear hown' hgrow hat
  go_wp2
  go_ret
  obtain ⟨hown,hgrow,hat⟩:=HX.out
  refine ⟨v',rfl,rep_of_own hown (Chunks.any H.out.1) hb (fun g _ h1 h2=>⟨h1,h2⟩),?_⟩
  exact ((Below.refl _ w).alloc (Nat.le_refl _) _).grown hgrow (by simp) (by intro k hk;simp [Value.ownBlock] at hk;omega)
theorem info_i64s:(Tryd.prog.info? 2).map (fun i=>(i.zero,i.size,i.bytes)) = some (some (.int .i64 0),1,8):=by kernel_rfl
set_option maxRecDepth 100000 in
set_option maxHeartbeats 1000000 in
theorem clone_i64s (l:List Int) (v:Value) (w:World) (hr:rep w (old w.heap.size) [v] l) :
  Calls Tryd.prog 109 #[v] w fun e w'=>∃ v',e = .returned v'∧rep w' (fresh w.heap.size w'.heap.size) [v'] l∧Below w.heap.size w w':=by
 obtain ⟨i0,hi0,hz0,hz1,hz2⟩:=info_parts info_i64s
 have q:∀ (w:World) (a:Option Addr) (n c n' c':Nat),(binOp .eql 40 (.slice a n c) (.slice none n' c')).run Tryd.prog w = .ok (.bool a.isNone) w:=fun w a n c n' c'=>Lib.run_eql_slice_nil w _ _ a n c n' c' Tryd.underlying40
 obtain ⟨A,c,xs,rfl,hnc,hcm,hb,hl,hch⟩:=open_slice hr
 replace hb:l.length * 8 ≤ 140737488351232:=hb
 cases A with
 | none =>
  have hxs:xs = []:=Classical.byContradiction fun hne=>by
   obtain ⟨b,o,hA,_⟩:=hl hne
   cases hA
  have hl0:l = []:=by
   have:=hch.len
   rw [hxs] at this
   have h2:0 = l.length * 1:=this
   exact List.eq_nil_of_length_eq_zero (by omega)
  subst hl0
  clear hr hl hch hb hnc hcm hxs
  go_enter Tryd.func109,Tryd.ntmps109
  go_wp2
  go_ret
  exact ⟨_,rfl,rep_nil _ _,Below.refl _ _⟩
 | some ad =>
  have hn1:=hch.len
  replace hn1:xs.length = l.length * 1:=hn1
  have H:=Lib.hid (And.intro hch (And.intro hn1 hch.one))
  have hl2:∀ o:Obj,Lies (w.alloc o) (old w.heap.size) (some ad) xs:=fun o=>hl.keep (Keeps.old_below ((Below.refl _ _).alloc (Nat.le_refl _) o) (Nat.le_refl _))
  have HL:=Lib.hid hl2
  have hbz:l.length ≤ 140737488351232:=by omega
  clear hr hl hch hl2 hn1 hnc hcm
  go_enter Tryd.func109,Tryd.ntmps109
  go_wp2_with (at_builtin;refine wpList_append_lies _ rfl _ _ 40 rfl w.heap.size 2 i0 _ 1 8 Tryd.underlying40 hi0 hz0 hz1 hz2 rfl (by decide) _ 0 [] rfl (World.ownsRow_made w #[] 0 (Nat.le_refl _) (Nat.zero_le _) rfl) _ _ _ _ _ rfl H.out.2.1 (HL.out _) H.out.2.2 ?c3 ?c4 ?c5 ?_)
  case c3=>unfold maxLen;omega
  case c4=>omega
  case c5=>simp
  intro v' w1 hown' hgrow hat
  have HX:=Lib.hid (And.intro hown' (And.intro hgrow hat))
  clear hown' hgrow hat
  go_wp2
  go_ret
  obtain ⟨hown,hgrow,hat⟩:=HX.out
  refine ⟨v',rfl,rep_of_own hown (Chunks.any H.out.1) hb (fun g _ h1 h2=>⟨h1,h2⟩),?_⟩
  exact ((Below.refl _ w).alloc (Nat.le_refl _) _).grown hgrow (by simp) (by intro k hk;simp [Value.ownBlock] at hk;omega)
theorem info_bools:(Tryd.prog.info? 4).map (fun i=>(i.zero,i.size,i.bytes)) = some (some (.bool false),1,1):=by kernel_rfl
set_option maxRecDepth 100000 in
set_option maxHeartbeats 1000000 in
theorem clone_bools (l:List Bool) (v:Value) (w:World) (hr:rep w (old w.heap.size) [v] l) :
  Calls Tryd.prog 110 #[v] w fun e w'=>∃ v',e = .returned v'∧rep w' (fresh w.heap.size w'.heap.size) [v'] l∧Below w.heap.size w w':=by
 obtain ⟨i0,hi0,hz0,hz1,hz2⟩:=info_parts info_bools
 have q:∀ (w:World) (a:Option Addr) (n c n' c':Nat),(binOp .eql 41 (.slice a n c) (.slice none n' c')).run Tryd.prog w = .ok (.bool a.isNone) w:=fun w a n c n' c'=>Lib.run_eql_slice_nil w _ _ a n c n' c' Tryd.underlying41
 obtain ⟨A,c,xs,rfl,hnc,hcm,hb,hl,hch⟩:=open_slice hr
 replace hb:l.length * 1 ≤ 140737488351232:=hb
 cases A with
 | none =>
  have hxs:xs = []:=Classical.byContradiction fun hne=>by
   obtain ⟨b,o,hA,_⟩:=hl hne
   cases hA
  have hl0:l = []:=by
   have:=hch.len
   rw [hxs] at this
   have h2:0 = l.length * 1:=this
   exact List.eq_nil_of_length_eq_zero (by omega)
  subst hl0
  clear hr hl hch hb hnc hcm hxs
  go_enter Tryd.func110,Tryd.ntmps110
  go_wp2
  go_ret
  exact ⟨_,rfl,rep_nil _ _,Below.refl _ _⟩
 | some ad =>
  have hn1:=hch.len
  replace hn1:xs.length = l.length * 1:=hn1
  have H:=Lib.hid (And.intro hch (And.intro hn1 hch.one))
  have hl2:∀ o:Obj,Lies (w.alloc o) (old w.heap.size) (some ad) xs:=fun o=>hl.keep (Keeps.old_below ((Below.refl _ _).alloc (Nat.le_refl _) o) (Nat.le_refl _))
  have HL:=Lib.hid hl2
  have hbz:l.length ≤ 140737488351232:=by omega
  clear hr hl hch hl2 hn1 hnc hcm
  go_enter Tryd.func110,Tryd.ntmps110
  go_wp2_with (at_builtin;refine wpList_append_lies _ rfl _ _ 41 rfl w.heap.size 4 i0 _ 1 1 Tryd.underlying41 hi0 hz0 hz1 hz2 rfl (by decide) _ 0 [] rfl (World.ownsRow_made w #[] 0 (Nat.le_refl _) (Nat.zero_le _) rfl) _ _ _ _ _ rfl H.out.2.1 (HL.out _) H.out.2.2 ?c3 ?c4 ?c5 ?_)
  case c3=>unfold maxLen;omega
  case c4=>omega
  case c5=>simp
  intro v' w1 hown' hgrow hat
  have HX:=Lib.hid (And.intro hown' (And.intro hgrow hat))
  clear hown' hgrow hat
  go_wp2
  go_ret
  obtain ⟨hown,hgrow,hat⟩:=HX.out
  refine ⟨v',rfl,rep_of_own hown (Chunks.any H.out.1) hb (fun g _ h1 h2=>⟨h1,h2⟩),?_⟩
  exact ((Below.refl _ w).alloc (Nat.le_refl _) _).grown hgrow (by simp) (by intro k hk;simp [Value.ownBlock] at hk;omega)
theorem ints_new (l:List Int) (v:Value) (w:World) (hr:rep w (old w.heap.size) [v] l) :
  Calls Tryd.prog 76 #[v] w fun e w'=>∃ v',e = .returned v'∧rep w' (fresh w.heap.size w'.heap.size) [v'] l∧Below w.heap.size w w':=by
 refine (ints_any l v w hr).mono ?_
 rintro e w' ⟨v',rfl,hown,hb⟩
 obtain ⟨_,_,xs,_,_,_,hbb,_,hch⟩:=open_slice hr
 rw [← chunks_ints hch] at hown
 exact ⟨v',rfl,rep_of_own hown (Chunks.any hch) hbb (fun g _ h1 h2=>⟨h1,h2⟩),hb⟩
end Go.Proofs.YtgbkhcmbmffljaaDoor
namespace Go.Proofs.YtgbkhcmbmffljaaDoor
open Go.RowKit
open Rep (rep)
def valueOfD (a:AttrD):TensorD :=
 if a.kind = 1 then ⟨1,[],[a.f],[],[]⟩ else if a.kind = 2 then ⟨7,[],[],[a.i],[]⟩ else if a.kind = 6 then ⟨1,[(a.floats.length:Int)],a.floats,[],[]⟩
 else if a.kind = 7 then ⟨7,[(a.ints.length:Int)],[],a.ints,[]⟩ else a.t
theorem i64_1:I64 1:=by unfold I64;omega
theorem i64_7:I64 7:=by unfold I64;omega
theorem fresh_blk {n m b:Nat} (h:n ≤ b) (k:b < m):(fresh n m).blk b:=⟨h,k⟩
def Ten (W:World) (g:Nat):Prop:=W.heap[g]? = some (.cells #[.int .i64 0,.slice none 0 0,.slice none 0 0,.slice none 0 0,.slice none 0 0] 43 (0,0))
theorem Ten.lt {W:World} {g:Nat} (h:Ten W g):g < W.heap.size:=(Array.getElem?_eq_some_iff.1 h).1
theorem Ten.alloc {W:World} {g:Nat} (h:Ten W g) (o:Obj):Ten (W.alloc o) g:=(Below.heap_alloc W o g h.lt).trans h
theorem Ten.drew {W:World} {g:Nat} (h:Ten W g):Ten W.drew g:=h
theorem Ten.below {W W':World} {g:Nat} (h:Ten W g) (hb:Below W.heap.size W W'):Ten W' g:=(hb.block g h.lt).trans h
theorem Ten.cells {W:World} {g:Nat} (h:Ten W g):W.cell? ⟨g,0,none⟩ = some (.int .i64 0)∧W.cell? ⟨g,1,none⟩ = some (.slice none 0 0)∧W.cell? ⟨g,2,none⟩ = some (.slice none 0 0)∧W.cell? ⟨g,3,none⟩ = some (.slice none 0 0)∧W.cell? ⟨g,4,none⟩ = some (.slice none 0 0) :=
 ⟨cell_of_row _ _ _ _ _ _ h,cell_of_row _ _ _ _ _ _ h,cell_of_row _ _ _ _ _ _ h,cell_of_row _ _ _ _ _ _ h,cell_of_row _ _ _ _ _ _ h⟩
theorem Ten.free {W:World} {g:Nat} (h:Ten W g) (o:Nat):W.frozen? ⟨g,o,none⟩ = false:=by unfold Ten at h;simp [World.frozen?,h]
theorem set_as_row {W:World} {g j:Nat} {cs:Array Value} {t:TypeId} {fr:Nat × Nat} (h:W.heap[g]? = some (.cells cs t fr)) (v:Value):W.setCell ⟨g,j,none⟩ v = W.setRow g (cs.setIfInBounds j v):=by
 simp only [World.setCell,World.setRow]
 congr 1
 apply Array.ext_getElem?
 intro k
 simp only [Array.getElem?_modify]
 by_cases hk:g = k
 ·subst hk
  rw [h]
  rfl
 ·rw [if_neg hk,if_neg hk]
theorem row_row (W:World) (g:Nat) (cs cs':Array Value):(W.setRow g cs).setRow g cs' = W.setRow g cs':=by
 simp only [World.setRow]
 congr 1
 apply Array.ext_getElem?
 intro k
 simp only [Array.getElem?_modify]
 by_cases hk:g = k
 ·subst hk
  rw [if_pos rfl,if_pos rfl,if_pos rfl]
  cases W.heap[g]? with
  | none=>rfl
  | some o=>cases o <;> rfl
 ·rw [if_neg hk,if_neg hk,if_neg hk]
theorem ten_set {W:World} {g:Nat} (h:Ten W g) (v0 v1 v2 v3 v4:Value):((((W.setCell ⟨g,0,none⟩ v0).setCell ⟨g,1,none⟩ v1).setCell ⟨g,2,none⟩ v2).setCell ⟨g,3,none⟩ v3).setCell ⟨g,4,none⟩ v4 = W.setRow g [v0,v1,v2,v3,v4].toArray:=by
 unfold Ten at h
 have s:∀ (cs:Array Value) (j:Nat) (v:Value),(W.setRow g cs).setCell ⟨g,j,none⟩ v = W.setRow g (cs.setIfInBounds j v):=fun cs j v=>by
  rw [set_as_row (heap_setRow W g cs _ _ h),row_row]
 rw [set_as_row h,s,s,s,s]
 rfl
theorem keep_row {W:World} {g n m:Nat} (hg:g < n) (cs:Array Value):Keeps (fresh n m) W (W.setRow g cs):=.of_block fun k hk=>heap_setRow_other _ _ _ _ (by have:=hk.1;omega)
theorem old_row {W:World} {g n:Nat} (hg:n ≤ g) (cs:Array Value):Keeps (old n) W (W.setRow g cs):=.of_block fun k hk=>heap_setRow_other _ _ _ _ (by have:k < n:=hk;omega)
theorem ten_row {W:World} {g:Nat} (h:Ten W g) (cs:List Value):(W.setRow g cs.toArray).heap[g]? = some (.cells cs.toArray 43 (0,0)):=heap_setRow _ _ _ _ _ h
theorem sliced {α:Type} [Rep α] {l:List α} {e:Ending} {W w':World} (h:∃ v',e = .returned v'∧rep w' (fresh W.heap.size w'.heap.size) [v'] l∧Below W.heap.size W w') :
  ∃ A' c',e = .returned (.slice A' l.length c')∧rep w' (fresh W.heap.size w'.heap.size) [.slice A' l.length c'] l∧Below W.heap.size W w':=by
 obtain ⟨v',he,hv,hb⟩:=h
 obtain ⟨A,c,hf⟩:=slice_form hv
 simp only [List.cons.injEq,and_true] at hf
 exact ⟨A,c,by rw [he,hf],by rw [← hf];exact hv,hb⟩
theorem rep_single {α:Type} [Rep α] {w:World} {Z:Zone} {g:Nat} {t:TypeId} {v:Value} {x:α} (hb:Rep.bytes α ≤ 1000) (hg:w.heap[g]? = some (.cells #[v] t (0,0))) (hx:rep w Z [v] x) (hZ:Z.blk g):rep w Z [.slice (some ⟨g,0,none⟩) 1 1] [x] :=
 ⟨_,1,1,[v],rfl,rfl,Nat.le_refl _,by unfold maxLen;omega,by unfold reach;omega,fun _=>⟨g,0,rfl,hZ,fun j u hu=>⟨by rw [cell_of_row _ _ _ _ _ _ hg];simpa using hu,fun _=>by simp [World.frozen?,hg]⟩⟩,Chunks.single hx⟩
set_option maxRecDepth 100000 in
set_option maxHeartbeats 1000000 in
theorem valueOf_1 (cs:List Value) (a:AttrD) (w:World) (hr:rep w (old w.heap.size) cs a) (hk:a.kind = 1) :
  Calls Tryd.prog 73 #[.agg cs.toArray] w fun e w'=>∃ ts:List Value,e = .returned (.agg ts.toArray)∧rep w' (fresh w.heap.size w'.heap.size) ts (valueOfD a)∧Below w.heap.size w w':=by
 obtain ⟨A1,k1,A2,k2,A3,k3,A4,k4,A5,k5,A6,k6,rfl,h0,h1,h2,h3,h4,ht,hf,hi⟩:=open_AttrD hr
 have hv:valueOfD a = ⟨1,[],[a.f],[],[]⟩:=by unfold valueOfD;rw [if_pos hk]
 rw [hv,hk]
 have H:=Lib.hid h2
 clear hr h0 h1 h2 h3 h4 ht hf hi hv hk
 go_enter Tryd.func73,Tryd.ntmps73
 go_wp2
 refine bodyPost_ret (v:=.agg #[.int .i64 1,.slice none 0 0,.slice (some ⟨w.heap.size + 2,0,none⟩) 1 1,.slice none 0 0,.slice none 0 0]) (by simp [results,Tryd.results73,go_sem]) rfl ?_
 refine ⟨[.int .i64 1,.slice none 0 0,.slice (some ⟨w.heap.size + 2,0,none⟩) 1 1,.slice none 0 0,.slice none 0 0],rfl,?_,?_⟩
 ·have key:∀ W:World,W.heap.size = w.heap.size + 2→rep (W.alloc (.cells #[.int .u32 (a.f:Int)] 38)) (fresh w.heap.size (W.alloc (.cells #[.int .u32 (a.f:Int)] 38)).heap.size) [.int .i64 1,.slice none 0 0,.slice (some ⟨w.heap.size + 2,0,none⟩) 1 1,.slice none 0 0,.slice none 0 0] (⟨1,[],[a.f],[],[]⟩:TensorD):=fun W hW=>by
   have hg:=heap_alloc_new W (.cells #[.int .u32 (a.f:Int)] 38)
   rw [hW] at hg
   exact shut_TensorD (a:=⟨1,[],[a.f],[],[]⟩) i64_1 (rep_nil _ _) (rep_single (by decide) hg ⟨rfl,H.out⟩ (fresh_blk (by omega) (by rw [World.size_alloc,hW];omega))) (rep_nil _ _) (rep_nil _ _)
  exact key _ (by simp)
 ·go_grown
set_option maxRecDepth 100000 in
set_option maxHeartbeats 1000000 in
theorem valueOf_2 (cs:List Value) (a:AttrD) (w:World) (hr:rep w (old w.heap.size) cs a) (hk:a.kind = 2) :
  Calls Tryd.prog 73 #[.agg cs.toArray] w fun e w'=>∃ ts:List Value,e = .returned (.agg ts.toArray)∧rep w' (fresh w.heap.size w'.heap.size) ts (valueOfD a)∧Below w.heap.size w w':=by
 obtain ⟨A1,k1,A2,k2,A3,k3,A4,k4,A5,k5,A6,k6,rfl,h0,h1,h2,h3,h4,ht,hf,hi⟩:=open_AttrD hr
 have hv:valueOfD a = ⟨7,[],[],[a.i],[]⟩:=by unfold valueOfD;rw [if_neg (by omega),if_pos hk]
 rw [hv,hk]
 have H:=Lib.hid h3
 clear hr h0 h1 h2 h3 h4 ht hf hi hv hk
 go_enter Tryd.func73,Tryd.ntmps73
 go_wp2
 refine bodyPost_ret (v:=.agg #[.int .i64 7,.slice none 0 0,.slice none 0 0,.slice (some ⟨w.heap.size + 2,0,none⟩) 1 1,.slice none 0 0]) (by simp [results,Tryd.results73,go_sem]) rfl ?_
 refine ⟨[.int .i64 7,.slice none 0 0,.slice none 0 0,.slice (some ⟨w.heap.size + 2,0,none⟩) 1 1,.slice none 0 0],rfl,?_,?_⟩
 ·have key:∀ W:World,W.heap.size = w.heap.size + 2→rep (W.alloc (.cells #[.int .i64 a.i] 2)) (fresh w.heap.size (W.alloc (.cells #[.int .i64 a.i] 2)).heap.size) [.int .i64 7,.slice none 0 0,.slice none 0 0,.slice (some ⟨w.heap.size + 2,0,none⟩) 1 1,.slice none 0 0] (⟨7,[],[],[a.i],[]⟩:TensorD):=fun W hW=>by
   have hg:=heap_alloc_new W (.cells #[.int .i64 a.i] 2)
   rw [hW] at hg
   exact shut_TensorD (a:=⟨7,[],[],[a.i],[]⟩) i64_7 (rep_nil _ _) (rep_nil _ _) (rep_single (by decide) hg ⟨rfl,H.out⟩ (fresh_blk (by omega) (by rw [World.size_alloc,hW];omega))) (rep_nil _ _)
  exact key _ (by simp)
 ·go_grown
set_option maxRecDepth 100000 in
set_option maxHeartbeats 2000000 in
theorem valueOf_6 (cs:List Value) (a:AttrD) (w:World) (hr:rep w (old w.heap.size) cs a) (hk:a.kind = 6) :
  Calls Tryd.prog 73 #[.agg cs.toArray] w fun e w'=>∃ ts:List Value,e = .returned (.agg ts.toArray)∧rep w' (fresh w.heap.size w'.heap.size) ts (valueOfD a)∧Below w.heap.size w w':=by
 obtain ⟨A1,k1,A2,k2,A3,k3,A4,k4,A5,k5,A6,k6,rfl,h0,h1,h2,h3,h4,ht,hf,hi⟩:=open_AttrD hr
 have hv:valueOfD a = (⟨1,[(a.floats.length:Int)],a.floats,[],[]⟩:TensorD):=by unfold valueOfD;rw [if_neg (by omega),if_neg (by omega),if_pos hk]
 have hlen:I64 (a.floats.length:Int):=by
  obtain ⟨_,_,_,_,hx,hy,_⟩:=open_slice hf
  unfold I64;omega
 rw [hv,hk]
 have H:=Lib.hid (And.intro hf hlen)
 clear hr h0 h1 h2 h3 h4 ht hf hi hv hk hlen
 go_enter Tryd.func73,Tryd.ntmps73
 go_wp2
 have hS:∀ W:World,Below w.heap.size w W→Calls Tryd.prog 108 #[.slice A5 a.floats.length k5] W fun e w'=>∃ A' c',e = .returned (.slice A' a.floats.length c')∧rep w' (fresh W.heap.size w'.heap.size) [.slice A' a.floats.length c'] a.floats∧Below W.heap.size W w' :=
  fun W hW=>(clone_u32s a.floats _ W (Rep.more (Rep.keep H.out.1 (Keeps.old_below hW (Nat.le_refl _))) (old_le hW.size))).mono (fun _ _ h=>sliced h)
 have HS:=Lib.hid hS
 clear hS
 obtain ⟨W0,hW0⟩:∃ W0:World,W0 = ((w.alloc (.cells #[.string a.name,.int .i64 6,.int .u32 (a.f:Int),.int .i64 a.i,.string a.s,.int .i64 a.t.type,.slice A1 a.t.dims.length k1,.slice A2 a.t.f.length k2,.slice A3 a.t.i.length k3,.slice A4 a.t.b.length k4,.slice A5 a.floats.length k5,.slice A6 a.ints.length k6] 52)).alloc (.cells #[.int .i64 0,.slice none 0 0,.slice none 0 0,.slice none 0 0,.slice none 0 0] 43)):=⟨_,rfl⟩
 have hB:Below w.heap.size w W0:=by rw [hW0];go_grown
 have hz0:W0.heap.size = w.heap.size + 2:=by rw [hW0];simp
 have hT:Ten W0 (w.heap.size + 1):=by
  rw [hW0]
  have:=heap_alloc_new (w.alloc (.cells #[.string a.name,.int .i64 6,.int .u32 (a.f:Int),.int .i64 a.i,.string a.s,.int .i64 a.t.type,.slice A1 a.t.dims.length k1,.slice A2 a.t.f.length k2,.slice A3 a.t.i.length k3,.slice A4 a.t.b.length k4,.slice A5 a.floats.length k5,.slice A6 a.ints.length k6] 52)) (.cells #[.int .i64 0,.slice none 0 0,.slice none 0 0,.slice none 0 0,.slice none 0 0] 43)
  rw [World.size_alloc] at this
  exact this
 have hc:W0.cell? ⟨w.heap.size,10,none⟩ = some (.slice A5 a.floats.length k5):=by
  rw [hW0];exact cell_new2 _ _ _ _ _
 rw [← hW0]
 have HB:=Lib.hid (And.intro hB (And.intro hz0 hT))
 clear hB hT hW0
 have hsz:w.heap.size + 1 < W0.heap.size:=by omega
 clear hz0
 go_region_held3 (fun w'=>w'.cell? ⟨w.heap.size,10,none⟩ = some (.slice A5 a.floats.length k5))
  (first | go_keep)
  (first
   |(go_at_call 108;refine (HS.out _ (by first | exact HB.out.1.drew | exact (HB.out.1.alloc HB.out.1.size _).drew)).mono ?_;rintro e w3 ⟨A',c',rfl,hv',hb3⟩;have ht3:Ten w3 (w.heap.size + 1):=(by first | exact Ten.below HB.out.2.2.drew hb3 | exact Ten.below (HB.out.2.2.alloc _).drew hb3);have t3:=ht3.cells;have u3:=ht3.free;have s3:=ht3.lt;have hk3:w3.cell? ⟨w.heap.size,10,none⟩ = some (.slice A5 a.floats.length k5):=(hb3.cell (p:=⟨w.heap.size,10,none⟩) (by simp;omega)).trans (by first | exact hc | exact (World.cell?_alloc_lt W0 _ ⟨w.heap.size,10,none⟩ (by simp;omega)).trans hc);have HT3:=Lib.hid (And.intro ht3 (And.intro hv' hb3));clear ht3 hv' hb3))
 all_goals go_wp2
 ·obtain ⟨hB,hz0,hT⟩:=HB.out
  obtain ⟨ht3,hv',hb3⟩:=HT3.out
  rw [ten_set ht3]
  have hsz3:=hb3.size
  simp only [World.size_drew,World.size_alloc] at hsz3
  have hrow:=ten_row ht3 [.int .i64 1,.slice (some ⟨W0.heap.size,0,none⟩) 1 1,.slice A' a.floats.length c',.slice none 0 0,.slice none 0 0]
  refine bodyPost_ret (results_cell_row rfl _ _ (w.heap.size + 1) 43 _ (0,0) _ rfl hrow Tryd.underlying43 rfl (by kernel_rfl)) rfl ⟨_,rfl,?_,below_setRow' (((hB.alloc hB.size _).drew).trans (hb3.mono (by simp;omega))) (by omega) _⟩
  have hd:(w3.setRow (w.heap.size + 1) [.int .i64 1,.slice (some ⟨W0.heap.size,0,none⟩) 1 1,.slice A' a.floats.length c',.slice none 0 0,.slice none 0 0].toArray).heap[W0.heap.size]? = some (.cells #[.int .i64 (a.floats.length:Int)] 3 (0,0)):=by
   rw [heap_setRow_other _ _ _ _ (by omega),hb3.block _ (by simp)]
   exact heap_alloc_new W0 _
  have hvk:=Rep.keep hv' (keep_row (g:=w.heap.size + 1) (by simp;omega) [.int .i64 1,.slice (some ⟨W0.heap.size,0,none⟩) 1 1,.slice A' a.floats.length c',.slice none 0 0,.slice none 0 0].toArray)
  have hvz:=Rep.more hvk (fresh_le (n':=w.heap.size) (m':=(w3.setRow (w.heap.size + 1) [.int .i64 1,.slice (some ⟨W0.heap.size,0,none⟩) 1 1,.slice A' a.floats.length c',.slice none 0 0,.slice none 0 0].toArray).heap.size) (by simp;omega) (by rw [size_setRow];exact Nat.le_refl _))
  exact shut_TensorD (a:=(⟨1,[(a.floats.length:Int)],a.floats,[],[]⟩:TensorD)) i64_1 (rep_single (by decide) hd ⟨rfl,H.out.2⟩ (fresh_blk (by omega) (by rw [size_setRow];omega))) hvz (rep_nil _ _) (rep_nil _ _)
 ·obtain ⟨hB,hz0,hT⟩:=HB.out
  obtain ⟨ht3,hv',hb3⟩:=HT3.out
  rw [ten_set ht3]
  have hsz3:=hb3.size
  simp only [World.size_drew] at hsz3
  have hrow0:=ten_row ht3 [.int .i64 1,.slice (some ⟨w3.heap.size,0,none⟩) 1 1,.slice A' a.floats.length c',.slice none 0 0,.slice none 0 0]
  have hrow:((w3.setRow (w.heap.size + 1) [.int .i64 1,.slice (some ⟨w3.heap.size,0,none⟩) 1 1,.slice A' a.floats.length c',.slice none 0 0,.slice none 0 0].toArray).alloc (.cells #[.int .i64 (a.floats.length:Int)] 3)).heap[w.heap.size + 1]? = _:=(Below.heap_alloc _ _ _ (by rw [size_setRow];omega)).trans hrow0
  refine bodyPost_ret (results_cell_row rfl _ _ (w.heap.size + 1) 43 _ (0,0) _ rfl hrow Tryd.underlying43 rfl (by kernel_rfl)) rfl ⟨_,rfl,?_,(below_setRow' (hB.drew.trans (hb3.mono (by simp;omega))) (by omega) _).alloc (by rw [size_setRow];omega) _⟩
  have hd:=heap_alloc_new (w3.setRow (w.heap.size + 1) [.int .i64 1,.slice (some ⟨w3.heap.size,0,none⟩) 1 1,.slice A' a.floats.length c',.slice none 0 0,.slice none 0 0].toArray) (.cells #[.int .i64 (a.floats.length:Int)] 3)
  rw [size_setRow] at hd
  have hvk:=Rep.keep (Rep.keep hv' (keep_row (g:=w.heap.size + 1) (by simp;omega) [.int .i64 1,.slice (some ⟨w3.heap.size,0,none⟩) 1 1,.slice A' a.floats.length c',.slice none 0 0,.slice none 0 0].toArray)) (Keeps.alloc (fun k hk=>by rw [size_setRow];exact hk.2) (.cells #[.int .i64 (a.floats.length:Int)] 3))
  have hvz:=Rep.more hvk (fresh_le (n':=w.heap.size) (m':=((w3.setRow (w.heap.size + 1) [.int .i64 1,.slice (some ⟨w3.heap.size,0,none⟩) 1 1,.slice A' a.floats.length c',.slice none 0 0,.slice none 0 0].toArray).alloc (.cells #[.int .i64 (a.floats.length:Int)] 3)).heap.size) (by simp;omega) (by rw [World.size_alloc,size_setRow];omega))
  exact shut_TensorD (a:=(⟨1,[(a.floats.length:Int)],a.floats,[],[]⟩:TensorD)) i64_1 (rep_single (by decide) hd ⟨rfl,H.out.2⟩ (fresh_blk (by omega) (by rw [World.size_alloc,size_setRow];omega))) hvz (rep_nil _ _) (rep_nil _ _)
set_option maxRecDepth 100000 in
set_option maxHeartbeats 2000000 in
theorem valueOf_7 (cs:List Value) (a:AttrD) (w:World) (hr:rep w (old w.heap.size) cs a) (hk:a.kind = 7) :
  Calls Tryd.prog 73 #[.agg cs.toArray] w fun e w'=>∃ ts:List Value,e = .returned (.agg ts.toArray)∧rep w' (fresh w.heap.size w'.heap.size) ts (valueOfD a)∧Below w.heap.size w w':=by
 obtain ⟨A1,k1,A2,k2,A3,k3,A4,k4,A5,k5,A6,k6,rfl,h0,h1,h2,h3,h4,ht,hf,hi⟩:=open_AttrD hr
 have hv:valueOfD a = (⟨7,[(a.ints.length:Int)],[],a.ints,[]⟩:TensorD):=by unfold valueOfD;rw [if_neg (by omega),if_neg (by omega),if_neg (by omega),if_pos hk]
 have hlen:I64 (a.ints.length:Int):=by
  obtain ⟨_,_,_,_,hx,hy,_⟩:=open_slice hi
  unfold I64;omega
 rw [hv,hk]
 have H:=Lib.hid (And.intro hi hlen)
 clear hr h0 h1 h2 h3 h4 ht hf hi hv hk hlen
 go_enter Tryd.func73,Tryd.ntmps73
 go_wp2
 have hS:∀ W:World,Below w.heap.size w W→Calls Tryd.prog 109 #[.slice A6 a.ints.length k6] W fun e w'=>∃ A' c',e = .returned (.slice A' a.ints.length c')∧rep w' (fresh W.heap.size w'.heap.size) [.slice A' a.ints.length c'] a.ints∧Below W.heap.size W w' :=
  fun W hW=>(clone_i64s a.ints _ W (Rep.more (Rep.keep H.out.1 (Keeps.old_below hW (Nat.le_refl _))) (old_le hW.size))).mono (fun _ _ h=>sliced h)
 have HS:=Lib.hid hS
 clear hS
 obtain ⟨W0,hW0⟩:∃ W0:World,W0 = ((w.alloc (.cells #[.string a.name,.int .i64 7,.int .u32 (a.f:Int),.int .i64 a.i,.string a.s,.int .i64 a.t.type,.slice A1 a.t.dims.length k1,.slice A2 a.t.f.length k2,.slice A3 a.t.i.length k3,.slice A4 a.t.b.length k4,.slice A5 a.floats.length k5,.slice A6 a.ints.length k6] 52)).alloc (.cells #[.int .i64 0,.slice none 0 0,.slice none 0 0,.slice none 0 0,.slice none 0 0] 43)):=⟨_,rfl⟩
 have hB:Below w.heap.size w W0:=by rw [hW0];go_grown
 have hz0:W0.heap.size = w.heap.size + 2:=by rw [hW0];simp
 have hT:Ten W0 (w.heap.size + 1):=by
  rw [hW0]
  have:=heap_alloc_new (w.alloc (.cells #[.string a.name,.int .i64 7,.int .u32 (a.f:Int),.int .i64 a.i,.string a.s,.int .i64 a.t.type,.slice A1 a.t.dims.length k1,.slice A2 a.t.f.length k2,.slice A3 a.t.i.length k3,.slice A4 a.t.b.length k4,.slice A5 a.floats.length k5,.slice A6 a.ints.length k6] 52)) (.cells #[.int .i64 0,.slice none 0 0,.slice none 0 0,.slice none 0 0,.slice none 0 0] 43)
  rw [World.size_alloc] at this
  exact this
 have hc:W0.cell? ⟨w.heap.size,11,none⟩ = some (.slice A6 a.ints.length k6):=by
  rw [hW0];exact cell_new2 _ _ _ _ _
 rw [← hW0]
 have HB:=Lib.hid (And.intro hB (And.intro hz0 hT))
 clear hB hT hW0
 have hsz:w.heap.size + 1 < W0.heap.size:=by omega
 clear hz0
 go_region_held3 (fun w'=>w'.cell? ⟨w.heap.size,11,none⟩ = some (.slice A6 a.ints.length k6))
  (first | go_keep)
  (first
   |(go_at_call 109;refine (HS.out _ (by first | exact HB.out.1.drew | exact (HB.out.1.alloc HB.out.1.size _).drew)).mono ?_;rintro e w3 ⟨A',c',rfl,hv',hb3⟩;have ht3:Ten w3 (w.heap.size + 1):=(by first | exact Ten.below HB.out.2.2.drew hb3 | exact Ten.below (HB.out.2.2.alloc _).drew hb3);have t3:=ht3.cells;have u3:=ht3.free;have s3:=ht3.lt;have hk3:w3.cell? ⟨w.heap.size,11,none⟩ = some (.slice A6 a.ints.length k6):=(hb3.cell (p:=⟨w.heap.size,11,none⟩) (by simp;omega)).trans (by first | exact hc | exact (World.cell?_alloc_lt W0 _ ⟨w.heap.size,11,none⟩ (by simp;omega)).trans hc);have HT3:=Lib.hid (And.intro ht3 (And.intro hv' hb3));clear ht3 hv' hb3))
 all_goals go_wp2
 ·obtain ⟨hB,hz0,hT⟩:=HB.out
  obtain ⟨ht3,hv',hb3⟩:=HT3.out
  rw [ten_set ht3]
  have hsz3:=hb3.size
  simp only [World.size_drew,World.size_alloc] at hsz3
  have hrow:=ten_row ht3 [.int .i64 7,.slice (some ⟨W0.heap.size,0,none⟩) 1 1,.slice none 0 0,.slice A' a.ints.length c',.slice none 0 0]
  refine bodyPost_ret (results_cell_row rfl _ _ (w.heap.size + 1) 43 _ (0,0) _ rfl hrow Tryd.underlying43 rfl (by kernel_rfl)) rfl ⟨_,rfl,?_,below_setRow' (((hB.alloc hB.size _).drew).trans (hb3.mono (by simp;omega))) (by omega) _⟩
  have hd:(w3.setRow (w.heap.size + 1) [.int .i64 7,.slice (some ⟨W0.heap.size,0,none⟩) 1 1,.slice none 0 0,.slice A' a.ints.length c',.slice none 0 0].toArray).heap[W0.heap.size]? = some (.cells #[.int .i64 (a.ints.length:Int)] 3 (0,0)):=by
   rw [heap_setRow_other _ _ _ _ (by omega),hb3.block _ (by simp)]
   exact heap_alloc_new W0 _
  have hvk:=Rep.keep hv' (keep_row (g:=w.heap.size + 1) (by simp;omega) [.int .i64 7,.slice (some ⟨W0.heap.size,0,none⟩) 1 1,.slice none 0 0,.slice A' a.ints.length c',.slice none 0 0].toArray)
  have hvz:=Rep.more hvk (fresh_le (n':=w.heap.size) (m':=(w3.setRow (w.heap.size + 1) [.int .i64 7,.slice (some ⟨W0.heap.size,0,none⟩) 1 1,.slice none 0 0,.slice A' a.ints.length c',.slice none 0 0].toArray).heap.size) (by simp;omega) (by rw [size_setRow];exact Nat.le_refl _))
  exact shut_TensorD (a:=(⟨7,[(a.ints.length:Int)],[],a.ints,[]⟩:TensorD)) i64_7 (rep_single (by decide) hd ⟨rfl,H.out.2⟩ (fresh_blk (by omega) (by rw [size_setRow];omega))) (rep_nil _ _) hvz (rep_nil _ _)
 ·obtain ⟨hB,hz0,hT⟩:=HB.out
  obtain ⟨ht3,hv',hb3⟩:=HT3.out
  rw [ten_set ht3]
  have hsz3:=hb3.size
  simp only [World.size_drew] at hsz3
  have hrow0:=ten_row ht3 [.int .i64 7,.slice (some ⟨w3.heap.size,0,none⟩) 1 1,.slice none 0 0,.slice A' a.ints.length c',.slice none 0 0]
  have hrow:((w3.setRow (w.heap.size + 1) [.int .i64 7,.slice (some ⟨w3.heap.size,0,none⟩) 1 1,.slice none 0 0,.slice A' a.ints.length c',.slice none 0 0].toArray).alloc (.cells #[.int .i64 (a.ints.length:Int)] 3)).heap[w.heap.size + 1]? = _:=(Below.heap_alloc _ _ _ (by rw [size_setRow];omega)).trans hrow0
  refine bodyPost_ret (results_cell_row rfl _ _ (w.heap.size + 1) 43 _ (0,0) _ rfl hrow Tryd.underlying43 rfl (by kernel_rfl)) rfl ⟨_,rfl,?_,(below_setRow' (hB.drew.trans (hb3.mono (by simp;omega))) (by omega) _).alloc (by rw [size_setRow];omega) _⟩
  have hd:=heap_alloc_new (w3.setRow (w.heap.size + 1) [.int .i64 7,.slice (some ⟨w3.heap.size,0,none⟩) 1 1,.slice none 0 0,.slice A' a.ints.length c',.slice none 0 0].toArray) (.cells #[.int .i64 (a.ints.length:Int)] 3)
  rw [size_setRow] at hd
  have hvk:=Rep.keep (Rep.keep hv' (keep_row (g:=w.heap.size + 1) (by simp;omega) [.int .i64 7,.slice (some ⟨w3.heap.size,0,none⟩) 1 1,.slice none 0 0,.slice A' a.ints.length c',.slice none 0 0].toArray)) (Keeps.alloc (fun k hk=>by rw [size_setRow];exact hk.2) (.cells #[.int .i64 (a.ints.length:Int)] 3))
  have hvz:=Rep.more hvk (fresh_le (n':=w.heap.size) (m':=((w3.setRow (w.heap.size + 1) [.int .i64 7,.slice (some ⟨w3.heap.size,0,none⟩) 1 1,.slice none 0 0,.slice A' a.ints.length c',.slice none 0 0].toArray).alloc (.cells #[.int .i64 (a.ints.length:Int)] 3)).heap.size) (by simp;omega) (by rw [World.size_alloc,size_setRow];omega))
  exact shut_TensorD (a:=(⟨7,[(a.ints.length:Int)],[],a.ints,[]⟩:TensorD)) i64_7 (rep_single (by decide) hd ⟨rfl,H.out.2⟩ (fresh_blk (by omega) (by rw [World.size_alloc,size_setRow];omega))) (rep_nil _ _) hvz (rep_nil _ _)
end Go.Proofs.YtgbkhcmbmffljaaDoor
namespace Go.Proofs.YtgbkhcmbmffljaaDoor
open Go.RowKit
open Rep (rep)
structure ValInv (w:World) (c0 c1 c2 c3 c4:Value) (W:World):Prop where
 below:Below w.heap.size w W
 ten:Ten W (w.heap.size + 1)
 row:W.heap[w.heap.size + 2]? = some (.cells #[c0,c1,c2,c3,c4] 43 (0,0))
theorem ValInv.drew {w W:World} {c0 c1 c2 c3 c4:Value} (h:ValInv w c0 c1 c2 c3 c4 W):ValInv w c0 c1 c2 c3 c4 W.drew:=⟨h.below.drew,h.ten,h.row⟩
theorem ValInv.lt {w W:World} {c0 c1 c2 c3 c4:Value} (h:ValInv w c0 c1 c2 c3 c4 W):w.heap.size + 2 < W.heap.size:=(Array.getElem?_eq_some_iff.1 h.row).1
theorem ValInv.next {w W W':World} {c0 c1 c2 c3 c4:Value} (h:ValInv w c0 c1 c2 c3 c4 W) (hb:Below W.heap.size W W'):ValInv w c0 c1 c2 c3 c4 W' :=
 ⟨h.below.trans (hb.mono (by have:=h.lt;omega)),h.ten.below hb,(hb.block _ h.lt).trans h.row⟩
theorem ValInv.cells {w W:World} {c0 c1 c2 c3 c4:Value} (h:ValInv w c0 c1 c2 c3 c4 W):W.cell? ⟨w.heap.size + 2,0,none⟩ = some c0∧W.cell? ⟨w.heap.size + 2,1,none⟩ = some c1∧W.cell? ⟨w.heap.size + 2,2,none⟩ = some c2∧W.cell? ⟨w.heap.size + 2,3,none⟩ = some c3∧W.cell? ⟨w.heap.size + 2,4,none⟩ = some c4 :=
 ⟨cell_of_row _ _ _ _ _ _ h.row,cell_of_row _ _ _ _ _ _ h.row,cell_of_row _ _ _ _ _ _ h.row,cell_of_row _ _ _ _ _ _ h.row,cell_of_row _ _ _ _ _ _ h.row⟩
set_option maxRecDepth 100000 in
set_option maxHeartbeats 4000000 in
theorem valueOf_t (cs:List Value) (a:AttrD) (w:World) (hr:rep w (old w.heap.size) cs a) (hk:a.kind ≠ 1∧a.kind ≠ 2∧a.kind ≠ 6∧a.kind ≠ 7) :
  Calls Tryd.prog 73 #[.agg cs.toArray] w fun e w'=>∃ ts:List Value,e = .returned (.agg ts.toArray)∧rep w' (fresh w.heap.size w'.heap.size) ts (valueOfD a)∧Below w.heap.size w w':=by
 obtain ⟨A1,k1,A2,k2,A3,k3,A4,k4,A5,k5,A6,k6,rfl,h0,h1,h2,h3,h4,ht,hf,hi⟩:=open_AttrD hr
 have hv:valueOfD a = a.t:=by unfold valueOfD;rw [if_neg hk.1,if_neg hk.2.1,if_neg hk.2.2.1,if_neg hk.2.2.2]
 rw [hv]
 have e1:(a.kind == 1) = false:=beq_eq_false_iff_ne.2 hk.1
 have e2:(a.kind == 2) = false:=beq_eq_false_iff_ne.2 hk.2.1
 have e3:(a.kind == 6) = false:=beq_eq_false_iff_ne.2 hk.2.2.1
 have e4:(a.kind == 7) = false:=beq_eq_false_iff_ne.2 hk.2.2.2
 obtain ⟨_,_,_,_,_,_,_,_,hcs,htI,t1,t2,t3,t4⟩:=open_TensorD ht
 simp only [List.cons.injEq,Value.slice.injEq,true_and,and_true] at hcs
 obtain ⟨⟨rfl,rfl⟩,⟨rfl,rfl⟩,⟨rfl,rfl⟩,⟨rfl,rfl⟩⟩:=hcs
 have hI:∀ W:World,ValInv w (.int .i64 a.t.type) (.slice A1 a.t.dims.length k1) (.slice A2 a.t.f.length k2) (.slice A3 a.t.i.length k3) (.slice A4 a.t.b.length k4) W→∀ {α:Type} [Rep α] (v:Value) (l:List α),rep w (old w.heap.size) [v] l→rep W (old W.heap.size) [v] l :=
  fun W hW {_} _ _ _ h=>Rep.more (Rep.keep h (Keeps.old_below hW.below (Nat.le_refl _))) (old_le hW.below.size)
 have H:=Lib.hid (And.intro t1 (And.intro t2 (And.intro t3 (And.intro t4 htI))))
 clear hr h0 h1 h2 h3 h4 ht hf hi hv hk t1 t2 t3 t4 htI
 go_enter Tryd.func73,Tryd.ntmps73
 go_wp2
 obtain ⟨W0,hW0⟩:∃ W0:World,W0 = (((w.alloc (.cells #[.string a.name,.int .i64 a.kind,.int .u32 (a.f:Int),.int .i64 a.i,.string a.s,.int .i64 a.t.type,.slice A1 a.t.dims.length k1,.slice A2 a.t.f.length k2,.slice A3 a.t.i.length k3,.slice A4 a.t.b.length k4,.slice A5 a.floats.length k5,.slice A6 a.ints.length k6] 52)).alloc (.cells #[.int .i64 0,.slice none 0 0,.slice none 0 0,.slice none 0 0,.slice none 0 0] 43)).alloc (.cells #[.int .i64 a.t.type,.slice A1 a.t.dims.length k1,.slice A2 a.t.f.length k2,.slice A3 a.t.i.length k3,.slice A4 a.t.b.length k4] 43)):=⟨_,rfl⟩
 have hV:ValInv w (.int .i64 a.t.type) (.slice A1 a.t.dims.length k1) (.slice A2 a.t.f.length k2) (.slice A3 a.t.i.length k3) (.slice A4 a.t.b.length k4) W0:=by
  rw [hW0]
  refine ⟨by go_grown,?_,?_⟩
  ·have hh:∀ W:World,∀ o:Obj,W.heap.size = w.heap.size + 1→Ten ((W.alloc (.cells #[.int .i64 0,.slice none 0 0,.slice none 0 0,.slice none 0 0,.slice none 0 0] 43)).alloc o) (w.heap.size + 1):=fun W o hW=>by
    refine Ten.alloc ?_ o
    have:=heap_alloc_new W (.cells #[.int .i64 0,.slice none 0 0,.slice none 0 0,.slice none 0 0,.slice none 0 0] 43)
    rw [hW] at this
    exact this
   exact hh _ _ (by simp)
  ·have hh:∀ W:World,∀ o:Obj,W.heap.size = w.heap.size + 2→(W.alloc o).heap[w.heap.size + 2]? = some o:=fun W o hW=>by
    have:=heap_alloc_new W o
    rw [hW] at this
    exact this
   exact hh _ _ (by simp)
 rw [← hW0]
 have kc:=hV.cells
 have ks:=hV.lt
 have HV:=Lib.hid hV
 clear hV hW0
 have HI:=Lib.hid @hI
 clear hI
 go_region_held3 (fun w'=>w'.cell? ⟨w.heap.size + 2,0,none⟩ = some (.int .i64 a.t.type)∧w'.cell? ⟨w.heap.size + 2,1,none⟩ = some (.slice A1 a.t.dims.length k1)∧w'.cell? ⟨w.heap.size + 2,2,none⟩ = some (.slice A2 a.t.f.length k2)∧w'.cell? ⟨w.heap.size + 2,3,none⟩ = some (.slice A3 a.t.i.length k3)∧w'.cell? ⟨w.heap.size + 2,4,none⟩ = some (.slice A4 a.t.b.length k4))
  (first | go_keep)
  (first
   |(go_at_call 88;refine ((clone_ints a.t.dims _ _ (HI.out _ HV.out.drew _ _ H.out.1)).mono (fun _ _ h=>sliced h)).mono ?_;rintro e w3 ⟨B1,j1,rfl,hv1,hb3⟩;have V3:=Lib.hid (HV.out.drew.next hb3);have kc3:=V3.out.cells;have ks3:=V3.out.lt;have R3:=Lib.hid (And.intro hv1 hb3);clear hv1 hb3)
   |(go_at_call 108;refine ((clone_u32s a.t.f _ _ (HI.out _ V3.out _ _ H.out.2.1)).mono (fun _ _ h=>sliced h)).mono ?_;rintro e w4 ⟨B2,j2,rfl,hv2,hb4⟩;have V4:=Lib.hid (V3.out.next hb4);have kc4:=V4.out.cells;have ks4:=V4.out.lt;have R4:=Lib.hid (And.intro hv2 hb4);clear hv2 hb4)
   |(go_at_call 109;refine ((clone_i64s a.t.i _ _ (HI.out _ V4.out _ _ H.out.2.2.1)).mono (fun _ _ h=>sliced h)).mono ?_;rintro e w5 ⟨B3,j3,rfl,hv3,hb5⟩;have V5:=Lib.hid (V4.out.next hb5);have kc5:=V5.out.cells;have ks5:=V5.out.lt;have R5:=Lib.hid (And.intro hv3 hb5);clear hv3 hb5)
   |(go_at_call 110;refine ((clone_bools a.t.b _ _ (HI.out _ V5.out _ _ H.out.2.2.2.1)).mono (fun _ _ h=>sliced h)).mono ?_;rintro e w6 ⟨B4,j4,rfl,hv4,hb6⟩;have V6:=Lib.hid (V5.out.next hb6);have kc6:=V6.out.cells;have ks6:=V6.out.lt;have t6:=V6.out.ten.cells;have u6:=V6.out.ten.free;have R6:=Lib.hid (And.intro hv4 hb6);clear hv4 hb6))
 all_goals go_wp2
 have T6:=V6.out.ten
 rw [ten_set T6]
 obtain ⟨hv1,hb3⟩:=R3.out
 obtain ⟨hv2,hb4⟩:=R4.out
 obtain ⟨hv3,hb5⟩:=R5.out
 obtain ⟨hv4,hb6⟩:=R6.out
 have z3:=hb3.size
 have z4:=hb4.size
 have z5:=hb5.size
 have z6:=hb6.size
 simp only [World.size_drew] at z3
 have hrow:=ten_row T6 [.int .i64 a.t.type,.slice B1 a.t.dims.length j1,.slice B2 a.t.f.length j2,.slice B3 a.t.i.length j3,.slice B4 a.t.b.length j4]
 refine bodyPost_ret (results_cell_row rfl _ _ (w.heap.size + 1) 43 _ (0,0) _ rfl hrow Tryd.underlying43 rfl (by kernel_rfl)) rfl ⟨_,rfl,?_,below_setRow' V6.out.below (by omega) _⟩
 have g:∀ {α:Type} [Rep α] {m:Nat} {W:World} {v:Value} {l:List α} (n:Nat),rep W (fresh n m) [v] l→Below m W w6→w.heap.size + 2 ≤ n→m ≤ w6.heap.size→rep (w6.setRow (w.heap.size + 1) [.int .i64 a.t.type,.slice B1 a.t.dims.length j1,.slice B2 a.t.f.length j2,.slice B3 a.t.i.length j3,.slice B4 a.t.b.length j4].toArray) (fresh w.heap.size (w6.setRow (w.heap.size + 1) [.int .i64 a.t.type,.slice B1 a.t.dims.length j1,.slice B2 a.t.f.length j2,.slice B3 a.t.i.length j3,.slice B4 a.t.b.length j4].toArray).heap.size) [v] l:=fun n hr hb hn hm =>
  Rep.more (Rep.keep (Rep.keep hr (.of_block fun k hk=>hb.block k hk.2)) (keep_row (g:=w.heap.size + 1) (by omega) _)) (fresh_le (by omega) (by rw [size_setRow];exact hm))
 exact shut_TensorD H.out.2.2.2.2 (g _ hv1 (hb4.trans ((hb5.trans (hb6.mono z5)).mono z4)) (by simp;omega) (by omega)) (g _ hv2 (hb5.trans (hb6.mono z5)) (by omega) (by omega)) (g _ hv3 hb6 (by omega) (by omega)) (g _ hv4 (.refl _ _) (by omega) (Nat.le_refl _))
theorem valueOf_any (cs:List Value) (a:AttrD) (w:World) (hr:rep w (old w.heap.size) cs a) :
  Calls Tryd.prog 73 #[.agg cs.toArray] w fun e w'=>∃ ts:List Value,e = .returned (.agg ts.toArray)∧rep w' (fresh w.heap.size w'.heap.size) ts (valueOfD a)∧Below w.heap.size w w':=by
 by_cases h1:a.kind = 1
 ·exact valueOf_1 cs a w hr h1
 by_cases h2:a.kind = 2
 ·exact valueOf_2 cs a w hr h2
 by_cases h6:a.kind = 6
 ·exact valueOf_6 cs a w hr h6
 by_cases h7:a.kind = 7
 ·exact valueOf_7 cs a w hr h7
 exact valueOf_t cs a w hr ⟨h1,h2,h6,h7⟩
end Go.Proofs.YtgbkhcmbmffljaaDoor
