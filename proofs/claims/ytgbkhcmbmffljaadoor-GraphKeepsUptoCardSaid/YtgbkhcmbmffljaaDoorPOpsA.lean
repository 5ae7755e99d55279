/-
  A part of the proofs of chapter 08: walks of the package ops. No condition.
-/
import Derived.Test.YtgbkhcmbmffljaaDoorRows
import Derived.Test.YtgbkhcmbmffljaaDoorPBase
namespace Go.Proofs.YtgbkhcmbmffljaaDoor
open Go.RowKit
open Rep (rep)
theorem intInfo:(Tryd.prog.info? 3).map (fun i=>(i.zero,i.size,i.bytes)) = some (some (.int .i64 0),1,8):=by kernel_rfl
set_option maxHeartbeats 400000 in
theorem ints_any (l:List Int) (v:Value) (w:World) (hr:rep w (old w.heap.size) [v] l) :
  Calls Tryd.prog 76 #[v] w fun e w'=>∃ v',e = .returned v'∧w'.ownsRow w.heap.size 3 1 v' l.length (l.map (Value.int .i64))∧Below w.heap.size w w':=by
 obtain ⟨i0,hi0,hz0,hz1,hz2⟩:=info_parts intInfo
 obtain ⟨A,c,xs,rfl,hnc,hcm,hb,hl,hch⟩:=open_slice hr
 clear hr
 replace hb:l.length * 8 ≤ 140737488351232:=hb
 go_enter Tryd.func76,Tryd.ntmps76
 go_wp2_with fail
 go_loopw [3,8] (fun v i wr=>∃ pre post:List Int,l = pre++post∧i = .int .i64 pre.length∧wr.ownsRow w.heap.size 3 1 v pre.length (pre.map (Value.int .i64))∧Below w.heap.size w wr)
  (fun _ i _=>l.length - (intOf i).toNat)
 case atStart=>exact ⟨[],l,rfl,rfl,World.ownsRow_nil _ _ _ _,Below.refl _ _⟩
 case round =>
  obtain ⟨pre,post,hpp,rfl,hown,hbel⟩:=hrel
  cases post with
  | cons z post =>
   obtain ⟨hz,hlt,hpp',hpl⟩:=split_at hpp
   obtain ⟨b,o,cs,rfl,hbB,⟨rfl,hI⟩,hcell⟩:=elem_at hl hch (by decide) hz
   have hc1:=(hbel.cell (p:=⟨b,o + (pre.length * 1 + 0),none⟩) hbB).trans (hcell 0 _ rfl).1
   rw [show o + (pre.length * 1 + 0) = o + pre.length from by omega] at hc1
   have H:=Lib.hid (And.intro hpp' (And.intro hpl hbel))
   clear hcell hl hch hpp hpp' hpl hbel hz
   go_wp2_with (at_builtin;refine wpList_append_lies _ rfl _ _ 37 rfl w.heap.size 3 i0 (.int .i64 0) 1 8 Tryd.underlying37 hi0 hz0 hz1 hz2 rfl (by decide) _ _ _ rfl (hown.alloc _) _ _ 1 1 [.int .i64 z] rfl rfl (lies_new _ _ _) ?c2 ?c3 ?c4 ?c5 ?_)
   case c2=>intro u hu;simp at hu;subst hu;rfl
   case c3=>unfold maxLen;omega
   case c4=>omega
   case c5=>have:=H.out.2.2.size;simp;omega
   intro v' w1 hown' hgrow _
   go_wp2
   go_roundw
   case rel =>
    obtain ⟨hpp',hpl,hbel⟩:=H.out
    refine ⟨pre++[z],post,hpp',by rw [hpl];go_num,by rw [hpl,List.map_append];exact hown',?_⟩
    exact (hbel.alloc hbel.size _).grown hgrow (by have:=hbel.size;simp;omega) (fun g hg=>(hown.lt g hg).1)
   case measure=>simp [intOf];omega
  | nil =>
   obtain ⟨hge,hpl⟩:=split_end hpp
   clear hcm hnc
   have H:=Lib.hid (And.intro hpl hbel)
   clear hpl hbel hpp hl hch
   go_wp2
   go_ret
   obtain ⟨rfl,hbel⟩:=H.out
   exact ⟨_,rfl,hown,hbel⟩
end Go.Proofs.YtgbkhcmbmffljaaDoor
