/-
  The law OpsLess: its walk.
-/
import Derived.Test.YtgbkhcmbmffljaaDoorAwake
import Derived.Test.YtgbkhcmbmffljaaDoorDraw
import Derived.Deep.CutRange
import Derived.Deep.RegionHeld3
set_option linter.unusedSimpArgs false
namespace Go.Proofs.YtgbkhcmbmffljaaDoor
open Go.RowKit
open Rep (rep)

/-- Where the law stands: the node and the attribute in their boxes. -/
structure LessInv (w : World) (cs acs : List Value) (W : World) : Prop where
  below : Below w.heap.size w W
  node : W.heap[w.heap.size]? = some (.cells cs.toArray 36 (0, 0))
  att : W.heap[w.heap.size + 1]? = some (.cells acs.toArray 52 (0, 0))
section
variable {w W W' : World} {cs acs : List Value}
theorem LessInv.lt (h : LessInv w cs acs W) : w.heap.size + 1 < W.heap.size := (Array.getElem?_eq_some_iff.1 h.att).1
theorem LessInv.next (h : LessInv w cs acs W) (hb : Below W.heap.size W W') : LessInv w cs acs W' :=
  ⟨h.below.trans (hb.mono (by have := h.lt; omega)), (hb.block _ (by have := h.lt; omega)).trans h.node, (hb.block _ h.lt).trans h.att⟩
theorem LessInv.keeps' (h : LessInv w cs acs W) {α : Type} [Rep α] {c : List Value} {a : α} (hr : rep w (old w.heap.size) c a) : rep W (old W.heap.size) c a :=
  Rep.more (Rep.keep hr (Keeps.old_below h.below (Nat.le_refl _))) (old_le (by have := h.lt; omega))
theorem less_start (w : World) (cs acs : List Value) : LessInv w cs acs ((w.alloc (.cells cs.toArray 36)).alloc (.cells acs.toArray 52)) := by
  have h1 := heap_alloc_new (w.alloc (.cells cs.toArray 36)) (.cells acs.toArray 52)
  rw [World.size_alloc] at h1
  exact ⟨((Below.refl _ _).alloc (Nat.le_refl _) _).alloc (by simp) _, (Below.heap_alloc _ _ _ (by simp)).trans (heap_alloc_new _ _), h1⟩
end
section
variable {P : Program}
/-- 'append', at a step of a region that draws its order; what is appended may be nothing. -/
theorem step_append_any {ops : Array Oper} {o : Oper} {a : Act} {w : World} {K : Act → World → Prop} {Q : Exit → Act → World → Prop} {E : Prop} (hw : Region.wanted o (yielded ops a.tmps) = true) (s x : Operand) (t : TypeId)
    (ho : o.op = .call { callee := .builtin .append, args := #[s, x], argTypes := #[t, t] })
    (base : Nat) (e : TypeId) (i : TypeInfo) (z : Value) (size bytes : Nat) (ht : P.underlying t = some (.slice e)) (hi : P.info? e = some i) (hz : i.zero = some z)
    (hsize : i.size = size) (hby : i.bytes = bytes) (hzs : z.cells.size = size) (hsz : 0 < size)
    (v : Value) (n : Nat) (xs : List Value) (hs : a.eval s = v) (hown : w.ownsRow base e size v n xs)
    (Z : Zone) (A : Option Addr) (m c : Nat) (news : List Value) (hx : a.eval x = .slice A m c) (hl : news.length = m * size) (hr : Lies w Z A news) (h1 : ∀ u ∈ news, u.oneCell' = true)
    (h63 : n + m ≤ maxLen) (hbytes : (n + m) * bytes ≤ 140737488355328) (hbase : base ≤ w.heap.size)
    (h : ∀ v' w', w'.ownsRow base e size v' (n + m) (xs ++ news) → w.grownBy w' v.ownBlock → (v'.ownBlock = v.ownBlock ∨ v'.ownBlock = some w.heap.size) → K (a.put o.dst v') w') :
    if Region.wanted o (yielded ops a.tmps) = true then Oper.wp P o a w K Q else E := by
  rw [if_pos hw]
  obtain ⟨v', w', hrun, h2, h3, h4⟩ := run_append_lies (P := P) w base t o.type e i z size bytes ht hi hz hsize hby hzs hsz v n xs hown Z A m c news hl hr h1 h63 hbytes hbase
  unfold Oper.wp
  simp [execOp, ho, resolve, invoke, builtin, hs, hx, hrun, Result.andThen]
  exact h v' w' h2 h3 h4
end
def zeroN : List Value := [.string ⟨#[]⟩, .string ⟨#[]⟩, .slice none 0 0, .slice none 0 0, .slice none 0 0]
theorem zeroN_zero : (Tryd.prog.info? 36).bind (·.zero) = some (.agg zeroN.toArray) := by kernel_rfl

theorem names_times (op : Int) (s : ByteArray) : ((namesD op).filter fun x => decide (x = s)).length = timesD (sortsD (findD op)) s := by
  unfold namesD timesD
  rw [List.filter_map, List.length_map]
  rfl
theorem count_apart {pre post : List AttrD} {z : AttrD} (h : countD (pre ++ [z] ++ post) z.name = 1) : ∀ y ∈ pre, y.name ≠ z.name := by
  intro y hy e
  unfold countD at h
  rw [List.filter_append, List.filter_append, List.length_append, List.length_append] at h
  have h1 : 0 < (pre.filter fun a => decide (a.name = z.name)).length := List.length_pos_of_mem (List.mem_filter.2 ⟨hy, by simp [e]⟩)
  have h2 : ([z].filter fun a => decide (a.name = z.name)).length = 1 := by simp
  omega
theorem resolve_I64 (n : NodeD) : I64 (resolveD n).1 := by
  have h := number_I64 n.op
  unfold resolveD
  split
  · exact I64_0
  · split
    · exact I64_0
    · split
      · exact I64_0
      · split
        · exact I64_0
        · exact h
set_option maxRecDepth 100000 in
set_option maxHeartbeats 40000000 in
theorem less_any (HRes : Hid ResolveLaw) (cs acs : List Value) (n : NodeD) (more : AttrD) (w : World) (ht : Tab w) (hr : rep w (old w.heap.size) cs n) (hra : rep w (old w.heap.size) acs more) (hsm : n.attrs.length ≤ 1048576) :
    Calls Tryd.prog 6 #[.agg cs.toArray, .agg acs.toArray] w fun e w' => e = .returned (.bool true) ∧ Below w.heap.size w w' := by
  have hrn := hr
  obtain ⟨A1, k1, A2, k2, A3, k3, rfl, g0, g1, hi, ho, ha⟩ := open_NodeD hr
  obtain ⟨A', c', xs, hv, hnc, hcm, hby, hl, hch⟩ := open_slice ha
  simp only [Value.slice.injEq, true_and] at hv
  obtain ⟨rfl, rfl⟩ := hv
  have hal : acs.length = 12 := Rep.len hra
  have HT := Lib.hid (And.intro ht (And.intro hrn hra))
  have HIO := Lib.hid (And.intro g0 (And.intro g1 (And.intro hi ho)))
  have HL := Lib.hid (And.intro hl (And.intro hch ha))
  have HA := Lib.hid (And.intro hal (Rep.one hra))
  have HNO := Lib.hid (show ∀ u ∈ ([.string n.op, .string n.name, .slice A1 n.ins.length k1, .slice A2 n.outs.length k2, .slice A3 n.attrs.length k3] : List Value), u.oneCell' = true from Rep.one hrn)
  clear hr hrn hra ht g0 g1 hi ho ha hl hch hby hal
  go_enter Tryd.func6, Tryd.ntmps6
  go_wp2_with (first
    | (with_reducible refine wpList_box_row rfl 52 _ rfl acs rfl ?_; have hI := less_start w [.string n.op, .string n.name, .slice A1 n.ins.length k1, .slice A2 n.outs.length k2, .slice A3 n.attrs.length k3] acs; generalize World.alloc _ (.cells acs.toArray _) = W0 at hI ⊢; have HI := Lib.hid hI; clear hI))
  refine (awake_any HRes W0 (HT.out.1.ext HI.out.below)).mono ?_
  rintro e w1 ⟨rfl, hb⟩
  have HI1 := Lib.hid (HI.out.next hb)
  clear hb
  go_wp2_with (first
    | (with_reducible refine wpList_load_agg rfl 36 _ rfl _ _ _ rfl [.string n.op, .string n.name, .slice A1 n.ins.length k1, .slice A2 n.outs.length k2, .slice A3 n.attrs.length k3] Tryd.underlying36 rfl (by kernel_rfl) (At.of_row HI1.out.node) ?_))
  refine (HRes.out _ n w1 (HT.out.1.ext HI1.out.below) (HI1.out.keeps' HT.out.2.1)).mono ?_
  obtain ⟨op, hop⟩ : ∃ op, (resolveD n).1 = op := ⟨_, rfl⟩
  obtain ⟨s, hs⟩ : ∃ s, (resolveD n).2.1 = s := ⟨_, rfl⟩
  obtain ⟨er, her⟩ : ∃ er, (resolveD n).2.2 = er := ⟨_, rfl⟩
  rw [hop, hs, her]
  have HR1 := Lib.hid (And.intro hop (And.intro hs her))
  clear hop hs her
  rintro e w2 ⟨ss, rfl, hS, hb⟩
  have hsl : ss.length = 36 := hS.len
  have hso : ∀ u ∈ ss, u.oneCell' = true := (inferInstance : Rep SettingD).one hS
  have HS1 := Lib.hid (And.intro hsl hso)
  have HI2 := Lib.hid (HI1.out.next hb)
  clear hb hS hsl hso
  go_wp2_with (first
    | (with_reducible refine wpList_alloc_row rfl 45 rfl zeroS zeroS_zero ?_)
    | (with_reducible refine wpList_store_agg rfl 45 _ _ rfl _ 0 ss rfl rfl 45 zeroS (heap_alloc_new _ _) (by rw [HS1.out.1]; kernel_rfl) (by rw [HS1.out.1, zeroS_len]; omega) HS1.out.2 ?_; have hX := HI2.out.next (laid_row w2 45 zeroS ss (by rw [HS1.out.1, zeroS_len])).1; generalize World.setRow _ _ _ = w3 at hX ⊢; have HI3 := Lib.hid hX; clear hX; refine halt ?_))
  unfold Halt
  go_wp2_with (first
    | (with_reducible refine wpList_load_agg rfl 36 _ rfl _ _ _ rfl [.string n.op, .string n.name, .slice A1 n.ins.length k1, .slice A2 n.outs.length k2, .slice A3 n.attrs.length k3] Tryd.underlying36 rfl (by kernel_rfl) (At.of_row HI3.out.node) ?_)
    | (with_reducible refine wpList_alloc_row rfl 36 rfl zeroN zeroN_zero ?_)
    | (with_reducible refine wpList_store_agg rfl 36 _ _ rfl _ 0 [.string n.op, .string n.name, .slice A1 n.ins.length k1, .slice A2 n.outs.length k2, .slice A3 n.attrs.length k3] rfl rfl 36 zeroN (heap_alloc_new _ _) (by kernel_rfl) (by simp [zeroN]) HNO.out ?_; have hX := laid_row w3 36 zeroN [.string n.op, .string n.name, .slice A1 n.ins.length k1, .slice A2 n.outs.length k2, .slice A3 n.attrs.length k3] rfl; generalize World.setRow _ _ _ = w4 at hX ⊢; have HX := Lib.hid hX; have HI4 := Lib.hid (HI3.out.next hX.1); clear hX; refine halt ?_))
  unfold Halt
  obtain ⟨i0, hi0, hz0, hz1, hz2⟩ := info_parts attrInfo
  go_wp2_with fail
  go_cut [] from 26 to 33 (fun wx => LessInv w [.string n.op, .string n.name, .slice A1 n.ins.length k1, .slice A2 n.outs.length k2, .slice A3 n.attrs.length k3] acs wx ∧ ∃ v' : Value, wx.heap[w3.heap.size]? = some (.cells #[.string n.op, .string n.name, .slice A1 n.ins.length k1, .slice A2 n.outs.length k2, v'] 36 (0, 0)) ∧ rep wx (old wx.heap.size) [v'] (n.attrs ++ [more]))
  case first =>
    refine wp_region_held_drew (S := fun w' => At w' w.heap.size 0 [.string n.op, .string n.name, .slice A1 n.ins.length k1, .slice A2 n.outs.length k2, .slice A3 n.attrs.length k3] ∧ At w' (w.heap.size + 1) 0 acs) (by kernel_rfl) ⟨At.of_row HI4.out.node, At.of_row HI4.out.att⟩ (fun hHeld => ?_)
    refine wpAnyH_take (i := 1) (v := .pointer (some ⟨w.heap.size, 4, none⟩)) rfl (by kernel_rfl) (by kernel_rfl) (by kernel_rfl) (fun c a w h => h) (Or.inl ⟨by kernel_rfl, fun w _ => by kernel_rfl⟩) hHeld ?_
    refine wpAnyH_take (i := 2) (v := .slice A3 n.attrs.length k3) rfl (by kernel_rfl) (by kernel_rfl) (by kernel_rfl) (fun c a w h => h) (yields_load_slice (by kernel_rfl) _ _ rfl w.heap.size 4 (by kernel_rfl) _ Tryd.underlying34 (fun _ h => h.1 4 _ rfl)) hHeld ?_
    refine wpAnyH_take (i := 4) (v := .agg acs.toArray) rfl (by kernel_rfl) (by kernel_rfl) (by kernel_rfl) (fun c a w h => h) (yields_load_agg (by kernel_rfl) 52 _ rfl _ (w.heap.size + 1) 0 (by kernel_rfl) acs Tryd.underlying52 rfl (by rw [HA.out.1]; kernel_rfl) (fun _ h => h.2)) hHeld ?_
    have h4lt := HI4.out.lt
    have hm3 : w3.heap.size < w4.heap.size := (Array.getElem?_eq_some_iff.1 HX.out.2.1).1
    have hwm : w.heap.size + 1 < w3.heap.size := HI3.out.lt
    have hSW : ∀ W : World, Below w4.heap.size w4 W → At W w.heap.size 0 [.string n.op, .string n.name, .slice A1 n.ins.length k1, .slice A2 n.outs.length k2, .slice A3 n.attrs.length k3] ∧ At W (w.heap.size + 1) 0 acs := fun W hb => ⟨(At.of_row HI4.out.node).keep hb (by omega), (At.of_row HI4.out.att).keep hb h4lt⟩
    have HSW := Lib.hid hSW
    have hxl : xs.length = n.attrs.length * 12 := HL.out.2.1.len
    have hnews : ∀ W : World, Below w4.heap.size w4 W → Lies W (old w.heap.size) A3 xs := fun W hb => HL.out.1.keep (Keeps.old_below (HI4.out.below.trans (hb.mono HI4.out.below.size)) (Nat.le_refl _))
    have HNW := Lib.hid (And.intro hnews (And.intro hxl HL.out.2.1.one))
    have hfin : ∀ (W : World) (v : Value), W.ownsRow w4.heap.size 52 12 v (n.attrs.length + 1) (xs ++ acs) → Below w4.heap.size w4 W →
        v.oneCell' = true ∧ W.heap[w3.heap.size]? = some (.cells ([.string n.op, .string n.name, .slice A1 n.ins.length k1, .slice A2 n.outs.length k2, .slice A3 n.attrs.length k3] : List Value).toArray 36 (0, 0)) ∧
        (At (W.setRow w3.heap.size (([.string n.op, .string n.name, .slice A1 n.ins.length k1, .slice A2 n.outs.length k2, .slice A3 n.attrs.length k3] : List Value).set 4 v).toArray) w.heap.size 0 [.string n.op, .string n.name, .slice A1 n.ins.length k1, .slice A2 n.outs.length k2, .slice A3 n.attrs.length k3] ∧ At (W.setRow w3.heap.size (([.string n.op, .string n.name, .slice A1 n.ins.length k1, .slice A2 n.outs.length k2, .slice A3 n.attrs.length k3] : List Value).set 4 v).toArray) (w.heap.size + 1) 0 acs) ∧
        (LessInv w [.string n.op, .string n.name, .slice A1 n.ins.length k1, .slice A2 n.outs.length k2, .slice A3 n.attrs.length k3] acs (W.setRow w3.heap.size (([.string n.op, .string n.name, .slice A1 n.ins.length k1, .slice A2 n.outs.length k2, .slice A3 n.attrs.length k3] : List Value).set 4 v).toArray) ∧ ∃ v' : Value, (W.setRow w3.heap.size (([.string n.op, .string n.name, .slice A1 n.ins.length k1, .slice A2 n.outs.length k2, .slice A3 n.attrs.length k3] : List Value).set 4 v).toArray).heap[w3.heap.size]? = some (.cells #[.string n.op, .string n.name, .slice A1 n.ins.length k1, .slice A2 n.outs.length k2, v'] 36 (0, 0)) ∧ rep (W.setRow w3.heap.size (([.string n.op, .string n.name, .slice A1 n.ins.length k1, .slice A2 n.outs.length k2, .slice A3 n.attrs.length k3] : List Value).set 4 v).toArray) (old (W.setRow w3.heap.size (([.string n.op, .string n.name, .slice A1 n.ins.length k1, .slice A2 n.outs.length k2, .slice A3 n.attrs.length k3] : List Value).set 4 v).toArray).heap.size) [v'] (n.attrs ++ [more])) := by
      intro W v hown hb
      have hrow : W.heap[w3.heap.size]? = some (.cells ([.string n.op, .string n.name, .slice A1 n.ins.length k1, .slice A2 n.outs.length k2, .slice A3 n.attrs.length k3] : List Value).toArray 36 (0, 0)) := (hb.block _ hm3).trans HX.out.2.1
      have hI := HI4.out.next hb
      have hsz := hb.size
      have hZ : (old w.heap.size).le ⟨fun b => b < W.heap.size ∧ b ≠ w3.heap.size, false⟩ := ⟨fun b (h : b < w.heap.size) => ⟨by omega, by omega⟩, fun e => by cases e⟩
      have hk : Keeps (old w.heap.size) w W := Keeps.old_below hI.below (Nat.le_refl _)
      have hc : Chunks W ⟨fun b => b < W.heap.size ∧ b ≠ w3.heap.size, false⟩ (xs ++ acs) (n.attrs ++ [more]) := Chunks.snoc (Chunks.more hZ (Chunks.keep hk HL.out.2.1)) (Rep.more (Rep.keep HT.out.2.2 hk) hZ)
      have hrep : rep W ⟨fun b => b < W.heap.size ∧ b ≠ w3.heap.size, false⟩ [v] (n.attrs ++ [more]) := rep_of_own (e := 52) (xs := xs ++ acs) (by rw [List.length_append]; exact hown) hc (by rw [List.length_append]; unfold reach; simp only [Rep.bytes, List.length_cons, List.length_nil]; omega) (fun g _ h1 h2 => ⟨h2, by omega⟩)
      have hone : v.oneCell' = true := Rep.one hrep v (List.mem_singleton.2 rfl)
      have hI2 : LessInv w [.string n.op, .string n.name, .slice A1 n.ins.length k1, .slice A2 n.outs.length k2, .slice A3 n.attrs.length k3] acs (W.setRow w3.heap.size (([.string n.op, .string n.name, .slice A1 n.ins.length k1, .slice A2 n.outs.length k2, .slice A3 n.attrs.length k3] : List Value).set 4 v).toArray) := ⟨below_setRow' hI.below (by omega) _, (heap_setRow_other _ _ _ _ (by omega)).trans hI.node, (heap_setRow_other _ _ _ _ (by omega)).trans hI.att⟩
      refine ⟨hone, hrow, ⟨At.of_row hI2.node, At.of_row hI2.att⟩, hI2, v, heap_setRow _ _ _ _ _ hrow, ?_⟩
      exact Rep.more (Rep.keep hrep (.of_block fun k hk => heap_setRow_other _ _ _ _ hk.2)) ⟨fun b hb => by rw [size_setRow]; exact hb.1, fun e => by cases e⟩
    have HFIN := Lib.hid hfin
    clear hSW hnews hfin
    refine anyH_2 0 5 rfl rfl (by kernel_rfl) ?oa ?ob
    case oa =>
      have hb1 : Below w4.heap.size w4 (w4.drew.alloc (.cells #[] 52)) := (Below.refl _ _).drew.alloc (Nat.le_refl _) _
      refine steps_lay (.slice (some ⟨w4.heap.size, 0, none⟩) 0 0) (.cells #[] 52) (by kernel_rfl) (by kernel_rfl) (HSW.out _ hb1) ?_
      have hown1 : (w4.drew.alloc (.cells #[] 52)).ownsRow w4.heap.size 52 12 (.slice (some ⟨w4.heap.size, 0, none⟩) 0 0) 0 [] := World.ownsRow_made w4.drew #[] 0 (Nat.le_refl _) (Nat.zero_le _) rfl
      generalize w4.drew.alloc (.cells #[] 52) = W1 at hb1 hown1 ⊢
      refine anyH_2 3 5 rfl rfl (by kernel_rfl) ?oaa ?oab
      case oaa =>
        refine steps_append (by kernel_rfl) _ _ _ rfl w4.heap.size 52 i0 (.agg zeroA.toArray) 12 208 Tryd.underlying34 hi0 hz0 hz1 hz2 rfl (by decide) (.slice (some ⟨w4.heap.size, 0, none⟩) 0 0) 0 [] (by kernel_rfl) hown1
          (old w.heap.size) A3 n.attrs.length k3 xs (by kernel_rfl) HNW.out.2.1 (HNW.out.1 _ hb1) HNW.out.2.2 (by unfold maxLen; omega) (by omega) hb1.size ?_
        intro v2 W2 hown2 hg2
        have hb2 : Below w4.heap.size w4 W2 := hb1.grown hg2 hb1.size (fun g hg => (hown1.lt g hg).1)
        refine ⟨HSW.out _ hb2, ?_⟩
        refine anyH_1 5 rfl (by kernel_rfl) ?_
        have hb3 : Below w4.heap.size w4 (W2.alloc (.cells acs.toArray 52)) := hb2.alloc hb2.size _
        refine steps_lay (.slice (some ⟨W2.heap.size, 0, none⟩) 1 1) (.cells acs.toArray 52) (by kernel_rfl) (by obtain ⟨B1, l1, B2, l2, B3, l3, B4, l4, B5, l5, B6, l6, rfl, -⟩ := open_AttrD HT.out.2.2; kernel_rfl) (HSW.out _ hb3) ?_
        have hown3 := hown2.alloc (.cells acs.toArray 52)
        have hlies3 := lies_new W2 acs 52
        rw [Nat.zero_add, List.nil_append] at hown3
        generalize W2.alloc (.cells acs.toArray 52) = W3 at hb3 hown3 hlies3 ⊢
        refine anyH_1 6 rfl (by kernel_rfl) ?_
        refine steps_append (by kernel_rfl) _ _ _ rfl w4.heap.size 52 i0 (.agg zeroA.toArray) 12 208 Tryd.underlying34 hi0 hz0 hz1 hz2 rfl (by decide) v2 n.attrs.length xs (by kernel_rfl) hown3
          (old (W2.heap.size + 1)) (some ⟨W2.heap.size, 0, none⟩) 1 1 acs (by kernel_rfl) HA.out.1 hlies3 HA.out.2 (by unfold maxLen; omega) (by omega) hb3.size ?_
        intro v9 W9 hown9 hg9
        have hb9 : Below w4.heap.size w4 W9 := hb3.grown hg9 hb3.size (fun g hg => (hown3.lt g hg).1)
        refine ⟨HSW.out _ hb9, ?_⟩
        refine wpAnyH_take (i := 7) (v := .pointer (some ⟨w3.heap.size, 4, none⟩)) rfl (by kernel_rfl) (by kernel_rfl) (by kernel_rfl) (fun c a w h => h) (Or.inl ⟨by kernel_rfl, fun w _ => by kernel_rfl⟩) (HSW.out _ hb9) ?_
        obtain ⟨hone, hrow, hS8, hres⟩ := HFIN.out W9 v9 hown9 hb9
        refine anyH_store_field 8 rfl (by kernel_rfl) (by kernel_rfl) _ _ _ rfl w3.heap.size 4 v9 (by kernel_rfl) (by kernel_rfl) hone (by kernel_rfl) 36 [.string n.op, .string n.name, .slice A1 n.ins.length k1, .slice A2 n.outs.length k2, .slice A3 n.attrs.length k3] hrow (by show 4 < 5; decide) hS8 ?_
        refine wpAnyH_done (by kernel_rfl) ?_ _
        rename_i Q0 K0 a2 J0 K1 aJ aM
        change K1 _ _
        refine aM _ _ (Met.intro ?_)
        refine aJ _ _ ⟨.slice (some ⟨w4.heap.size, 0, none⟩) 0 0, .pointer (some ⟨w.heap.size, 4, none⟩), .slice A3 n.attrs.length k3, v2, .agg acs.toArray, .slice (some ⟨W2.heap.size, 0, none⟩) 1 1, v9, .pointer (some ⟨w3.heap.size, 4, none⟩), hres, ?_⟩
        kernel_rfl
      case oab =>
        have hb3 : Below w4.heap.size w4 (W1.alloc (.cells acs.toArray 52)) := hb1.alloc hb1.size _
        refine steps_lay (.slice (some ⟨W1.heap.size, 0, none⟩) 1 1) (.cells acs.toArray 52) (by kernel_rfl) (by obtain ⟨B1, l1, B2, l2, B3, l3, B4, l4, B5, l5, B6, l6, rfl, -⟩ := open_AttrD HT.out.2.2; kernel_rfl) (HSW.out _ hb3) ?_
        have hlt1 : w4.heap.size < W1.heap.size := (hown1.lt _ rfl).2
        have hown3 := hown1.alloc (.cells acs.toArray 52)
        have hlies3 := lies_own_block W1 acs 52
        have hatt : ∀ k, k = W1.heap.size → k < (W1.alloc (.cells acs.toArray 52)).heap.size ∧ some k ≠ (Value.slice (some ⟨w4.heap.size, 0, none⟩) 0 0).ownBlock := fun k hk => ⟨by rw [hk]; simp, fun e => by rw [hk] at e; simp [Value.ownBlock] at e; omega⟩
        generalize W1.alloc (.cells acs.toArray 52) = W3 at hb3 hown3 hlies3 hatt ⊢
        refine anyH_1 3 rfl (by kernel_rfl) ?_
        refine steps_append (by kernel_rfl) _ _ _ rfl w4.heap.size 52 i0 (.agg zeroA.toArray) 12 208 Tryd.underlying34 hi0 hz0 hz1 hz2 rfl (by decide) (.slice (some ⟨w4.heap.size, 0, none⟩) 0 0) 0 [] (by kernel_rfl) hown3
          (old w.heap.size) A3 n.attrs.length k3 xs (by kernel_rfl) HNW.out.2.1 (HNW.out.1 _ hb3) HNW.out.2.2 (by unfold maxLen; omega) (by omega) hb3.size ?_
        intro v2 W4 hown4 hg4
        have hb4 : Below w4.heap.size w4 W4 := hb3.grown hg4 hb3.size (fun g hg => (hown3.lt g hg).1)
        have hlies4 := hlies3.keep (Keeps.of_grown hg4 (fun k hk => hatt k hk))
        rw [Nat.zero_add, List.nil_append] at hown4
        refine ⟨HSW.out _ hb4, ?_⟩
        refine anyH_1 6 rfl (by kernel_rfl) ?_
        refine steps_append (by kernel_rfl) _ _ _ rfl w4.heap.size 52 i0 (.agg zeroA.toArray) 12 208 Tryd.underlying34 hi0 hz0 hz1 hz2 rfl (by decide) v2 n.attrs.length xs (by kernel_rfl) hown4
          _ (some ⟨W1.heap.size, 0, none⟩) 1 1 acs (by kernel_rfl) HA.out.1 hlies4 HA.out.2 (by unfold maxLen; omega) (by omega) hb4.size ?_
        intro v9 W9 hown9 hg9
        have hb9 : Below w4.heap.size w4 W9 := hb4.grown hg9 hb4.size (fun g hg => (hown4.lt g hg).1)
        refine ⟨HSW.out _ hb9, ?_⟩
        refine wpAnyH_take (i := 7) (v := .pointer (some ⟨w3.heap.size, 4, none⟩)) rfl (by kernel_rfl) (by kernel_rfl) (by kernel_rfl) (fun c a w h => h) (Or.inl ⟨by kernel_rfl, fun w _ => by kernel_rfl⟩) (HSW.out _ hb9) ?_
        obtain ⟨hone, hrow, hS8, hres⟩ := HFIN.out W9 v9 hown9 hb9
        refine anyH_store_field 8 rfl (by kernel_rfl) (by kernel_rfl) _ _ _ rfl w3.heap.size 4 v9 (by kernel_rfl) (by kernel_rfl) hone (by kernel_rfl) 36 [.string n.op, .string n.name, .slice A1 n.ins.length k1, .slice A2 n.outs.length k2, .slice A3 n.attrs.length k3] hrow (by show 4 < 5; decide) hS8 ?_
        refine wpAnyH_done (by kernel_rfl) ?_ _
        rename_i Q0 K0 a2 J0 K1 aJ aM
        change K1 _ _
        refine aM _ _ (Met.intro ?_)
        refine aJ _ _ ⟨(.slice (some ⟨w4.heap.size, 0, none⟩) 0 0), .pointer (some ⟨w.heap.size, 4, none⟩), .slice A3 n.attrs.length k3, v2, .agg acs.toArray, .slice (some ⟨W1.heap.size, 0, none⟩) 1 1, v9, .pointer (some ⟨w3.heap.size, 4, none⟩), hres, ?_⟩
        kernel_rfl
    case ob =>
      have hb1 : Below w4.heap.size w4 (w4.drew.alloc (.cells acs.toArray 52)) := (Below.refl _ _).drew.alloc (Nat.le_refl _) _
      refine steps_lay (.slice (some ⟨w4.heap.size, 0, none⟩) 1 1) (.cells acs.toArray 52) (by kernel_rfl) (by obtain ⟨B1, l1, B2, l2, B3, l3, B4, l4, B5, l5, B6, l6, rfl, -⟩ := open_AttrD HT.out.2.2; kernel_rfl) (HSW.out _ hb1) ?_
      have hlies1 : Lies (w4.drew.alloc (.cells acs.toArray 52)) ⟨fun b => b = w4.heap.size, false⟩ (some ⟨w4.heap.size, 0, none⟩) acs := lies_own_block w4.drew acs 52
      have hz1' : (w4.drew.alloc (.cells acs.toArray 52)).heap.size = w4.heap.size + 1 := by rw [World.size_alloc]; rfl
      generalize w4.drew.alloc (.cells acs.toArray 52) = W1 at hb1 hlies1 hz1' ⊢
      refine anyH_1 0 rfl (by kernel_rfl) ?_
      have hb3 : Below w4.heap.size w4 (W1.alloc (.cells #[] 52)) := hb1.alloc hb1.size _
      refine steps_lay (.slice (some ⟨W1.heap.size, 0, none⟩) 0 0) (.cells #[] 52) (by kernel_rfl) (by kernel_rfl) (HSW.out _ hb3) ?_
      have hown3 : (W1.alloc (.cells #[] 52)).ownsRow w4.heap.size 52 12 (.slice (some ⟨W1.heap.size, 0, none⟩) 0 0) 0 [] := World.ownsRow_made W1 #[] 0 hb1.size (Nat.zero_le _) rfl
      have hlies3 := hlies1.keep (w' := W1.alloc (.cells #[] 52)) (Keeps.alloc (fun k (hk : k = w4.heap.size) => by omega) _)
      have hatt : ∀ k, k = w4.heap.size → k < (W1.alloc (.cells #[] 52)).heap.size ∧ some k ≠ (Value.slice (some ⟨W1.heap.size, 0, none⟩) 0 0).ownBlock := fun k hk => ⟨by rw [World.size_alloc]; omega, fun e => by rw [hk] at e; simp [Value.ownBlock] at e; omega⟩
      generalize W1.alloc (.cells #[] 52) = W3 at hb3 hown3 hlies3 hatt ⊢
      refine anyH_1 3 rfl (by kernel_rfl) ?_
      refine steps_append (by kernel_rfl) _ _ _ rfl w4.heap.size 52 i0 (.agg zeroA.toArray) 12 208 Tryd.underlying34 hi0 hz0 hz1 hz2 rfl (by decide) (.slice (some ⟨W1.heap.size, 0, none⟩) 0 0) 0 [] (by kernel_rfl) hown3
        (old w.heap.size) A3 n.attrs.length k3 xs (by kernel_rfl) HNW.out.2.1 (HNW.out.1 _ hb3) HNW.out.2.2 (by unfold maxLen; omega) (by omega) hb3.size ?_
      intro v2 W4 hown4 hg4
      have hb4 : Below w4.heap.size w4 W4 := hb3.grown hg4 hb3.size (fun g hg => (hown3.lt g hg).1)
      have hlies4 := hlies3.keep (Keeps.of_grown hg4 (fun k hk => hatt k hk))
      rw [Nat.zero_add, List.nil_append] at hown4
      refine ⟨HSW.out _ hb4, ?_⟩
      refine anyH_1 6 rfl (by kernel_rfl) ?_
      refine steps_append (by kernel_rfl) _ _ _ rfl w4.heap.size 52 i0 (.agg zeroA.toArray) 12 208 Tryd.underlying34 hi0 hz0 hz1 hz2 rfl (by decide) v2 n.attrs.length xs (by kernel_rfl) hown4
        _ (some ⟨w4.heap.size, 0, none⟩) 1 1 acs (by kernel_rfl) HA.out.1 hlies4 HA.out.2 (by unfold maxLen; omega) (by omega) hb4.size ?_
      intro v9 W9 hown9 hg9
      have hb9 : Below w4.heap.size w4 W9 := hb4.grown hg9 hb4.size (fun g hg => (hown4.lt g hg).1)
      refine ⟨HSW.out _ hb9, ?_⟩
      refine wpAnyH_take (i := 7) (v := .pointer (some ⟨w3.heap.size, 4, none⟩)) rfl (by kernel_rfl) (by kernel_rfl) (by kernel_rfl) (fun c a w h => h) (Or.inl ⟨by kernel_rfl, fun w _ => by kernel_rfl⟩) (HSW.out _ hb9) ?_
      obtain ⟨hone, hrow, hS8, hres⟩ := HFIN.out W9 v9 hown9 hb9
      refine anyH_store_field 8 rfl (by kernel_rfl) (by kernel_rfl) _ _ _ rfl w3.heap.size 4 v9 (by kernel_rfl) (by kernel_rfl) hone (by kernel_rfl) 36 [.string n.op, .string n.name, .slice A1 n.ins.length k1, .slice A2 n.outs.length k2, .slice A3 n.attrs.length k3] hrow (by show 4 < 5; decide) hS8 ?_
      refine wpAnyH_done (by kernel_rfl) ?_ _
      rename_i Q0 K0 a2 J0 K1 aJ aM
      change K1 _ _
      refine aM _ _ (Met.intro ?_)
      refine aJ _ _ ⟨(.slice (some ⟨W1.heap.size, 0, none⟩) 0 0), .pointer (some ⟨w.heap.size, 4, none⟩), .slice A3 n.attrs.length k3, v2, .agg acs.toArray, .slice (some ⟨w4.heap.size, 0, none⟩) 1 1, v9, .pointer (some ⟨w3.heap.size, 4, none⟩), hres, ?_⟩
      kernel_rfl
  case rest =>
    obtain ⟨hI, vm, hrow, hrepm⟩ := hcut
    have hmN : rep wc (old wc.heap.size) [.string n.op, .string n.name, .slice A1 n.ins.length k1, .slice A2 n.outs.length k2, vm] ({ n with attrs := n.attrs ++ [more] } : NodeD) :=
      shut_NodeD (a := { n with attrs := n.attrs ++ [more] }) HIO.out.1 HIO.out.2.1 (c2 := [_]) (hI.keeps' HIO.out.2.2.1) (c3 := [_]) (hI.keeps' HIO.out.2.2.2) (c4 := [_]) hrepm
    have HI5 := Lib.hid hI
    have HM5 := Lib.hid (And.intro hrow hmN)
    clear hI hrow hrepm hmN hi0 hz0 hz1 hz2 i0
    go_wp2_with (first
      | (with_reducible refine wpList_load_agg rfl 36 _ rfl _ _ _ rfl [.string n.op, .string n.name, .slice A1 n.ins.length k1, .slice A2 n.outs.length k2, vm] Tryd.underlying36 rfl (by kernel_rfl) (At.of_row HM5.out.1) ?_))
    refine (HRes.out _ _ wc (HT.out.1.ext HI5.out.below) HM5.out.2).mono ?_
    have hlike := resolve_like n (n.attrs ++ [more])
    have herr := resolve_err n
    rw [HR1.out.2.2] at hlike
    rw [HR1.out.1, HR1.out.2.2] at herr
    obtain ⟨op2, hop2⟩ : ∃ op2, (resolveD { n with attrs := n.attrs ++ [more] }).1 = op2 := ⟨_, rfl⟩
    obtain ⟨s2, hs2⟩ : ∃ s2, (resolveD { n with attrs := n.attrs ++ [more] }).2.1 = s2 := ⟨_, rfl⟩
    obtain ⟨fr, hfr⟩ : ∃ fr, (resolveD { n with attrs := n.attrs ++ [more] }).2.2 = fr := ⟨_, rfl⟩
    rw [hop2, hs2, hfr]
    rw [hfr] at hlike
    have HE := Lib.hid (And.intro hlike herr)
    clear hop2 hs2 hfr hlike herr
    rintro e w5 ⟨ss2, rfl, hS, hb⟩
    have hsl : ss2.length = 36 := hS.len
    have hso : ∀ u ∈ ss2, u.oneCell' = true := (inferInstance : Rep SettingD).one hS
    have HS2 := Lib.hid (And.intro hsl hso)
    have HI6 := Lib.hid (HI5.out.next hb)
    clear hb hS hsl hso
    go_wp2_with (first
      | (with_reducible refine wpList_alloc_row rfl 45 rfl zeroS zeroS_zero ?_)
      | (with_reducible refine wpList_store_agg rfl 45 _ _ rfl _ 0 ss2 rfl rfl 45 zeroS (heap_alloc_new _ _) (by rw [HS2.out.1]; kernel_rfl) (by rw [HS2.out.1, zeroS_len]; omega) HS2.out.2 ?_; have hX := HI6.out.next (laid_row w5 45 zeroS ss2 (by rw [HS2.out.1, zeroS_len])).1; generalize World.setRow _ _ _ = w6 at hX ⊢; have HI7 := Lib.hid hX; clear hX; refine halt ?_))
    unfold Halt
    by_cases e7 : er = 7
    · subst e7
      have hf := HE.out.1.1 (.inl rfl)
      subst hf
      go_wp2
      go_ret
      exact ⟨rfl, HI7.out.below⟩
    · by_cases e1 : er = 1
      · subst e1
        have hf := HE.out.1.1 (.inr rfl)
        subst hf
        go_wp2
        go_ret
        exact ⟨rfl, HI7.out.below⟩
      · by_cases e0 : er = 0
        · subst e0
          have hf := HE.out.1.2 (.inl rfl)
          have hop0 := HE.out.2
          have hIop : I64 op := by have := resolve_I64 n; rw [HR1.out.1] at this; exact this
          obtain ⟨kk, htk⟩ := taken_of (n := n) (op := op) (s := s) (by have := HR1.out; exact Prod.ext this.1 (Prod.ext this.2.1 this.2.2))
          have honce := taken_once htk
          obtain ⟨hso, hsl⟩ := sorts_ok op
          have hN : (namesD op).length = (sortsD (findD op)).length := by simp [namesD]
          have HON := Lib.hid (And.intro honce (And.intro hso (And.intro hN (And.intro hf hsl))))
          have hnl : (namesD op).length ≤ 64 := by rw [hN]; exact hsl
          clear honce htk hso hN hf hsl hop0
          go_wp2_with fail
          refine (attrs_any op w6 (HT.out.1.ext HI7.out.below) hIop).mono ?_
          rintro e w7 ⟨v13, rfl, hown, hb⟩
          have hrep : rep w7 (old w7.heap.size) [v13] (namesD op) := rep_of_own (e := 9) (xs := (namesD op).map Value.string) hown (chunks_str _ (by intro s hs; obtain ⟨x, hx, rfl⟩ := List.mem_map.1 hs; have := (HON.out.2.1 x hx).1; unfold reach; omega)) (by unfold reach; simp only [Rep.bytes]; omega) (fun g _ _ h2 => h2)
          obtain ⟨A4, c4, xs4, rfl, hnc4, hcm4, -, hl4, hch4⟩ := open_slice hrep
          have HI8 := Lib.hid (HI7.out.next hb)
          have HL4 := Lib.hid (And.intro hl4 hch4)
          clear hb hown hrep hl4 hch4
          go_wp2_with fail
          go_loopw [14] (fun i wr => ∃ pre post : List AttrD, n.attrs = pre ++ post ∧ i = .int .i64 pre.length ∧ Below w7.heap.size w7 wr)
            (fun i _ => n.attrs.length - (intOf i).toNat)
          case atStart => exact ⟨[], n.attrs, rfl, rfl, Below.refl _ _⟩
          case round =>
            obtain ⟨pre, post, hpp, rfl, hbel⟩ := hrel
            obtain ⟨wa, rfl⟩ : ∃ wa, wa = wr := ⟨_, rfl⟩
            have HIa := Lib.hid (HI8.out.next hbel)
            have HBa := Lib.hid hbel
            have k4 : wa.cell? ⟨w.heap.size, 4, none⟩ = some (.slice A3 n.attrs.length k3) := cell_of_row _ _ _ _ _ _ HIa.out.node
            clear hbel
            cases post with
            | cons z post =>
              obtain ⟨hz, hlt, hpp', hpl⟩ := split_at hpp
              have hzm : z ∈ n.attrs := List.mem_of_getElem? hz
              have HP := Lib.hid (And.intro hpp' (And.intro hpl (And.intro hz hzm)))
              clear hpp hpp' hpl hz hzm
              go_wp2_with fail
              go_loopw [15, 16] (fun v i wr => ∃ p2 q2 : List ByteArray, namesD op = p2 ++ q2 ∧ i = .int .i64 p2.length ∧ v = .int .i64 ((p2.filter fun x => decide (x = z.name)).length : Nat) ∧ Below wa.heap.size wa wr)
                (fun _ i _ => (namesD op).length - (intOf i).toNat)
              case atStart => exact ⟨[], namesD op, rfl, rfl, rfl, Below.refl _ _⟩
              case round =>
                obtain ⟨p2, q2, hpp2, rfl, rfl, hbel2⟩ := hrel
                have HB2 := Lib.hid (HBa.out.trans (hbel2.mono HBa.out.size))
                have HI2' := Lib.hid (HIa.out.next hbel2)
                have HB2a := Lib.hid hbel2
                clear hbel2 k4
                cases q2 with
                | cons y q2 =>
                  obtain ⟨hz2, hlt2, hpp2', hpl2⟩ := split_at hpp2
                  obtain ⟨b4, o4, xc4, rfl, hbB4, hrz4, hcell4⟩ := elem_at HL4.out.1 HL4.out.2 (by decide) hz2
                  obtain ⟨rfl, -⟩ := hrz4
                  obtain ⟨b', o', acs', rfl, hbB, hrz, hcell⟩ := elem_at HL.out.1 HL.out.2.1 (by decide) HP.out.2.2.1
                  have k4 : wr.cell? ⟨w.heap.size, 4, none⟩ = some (.slice (some ⟨b', o', none⟩) n.attrs.length k3) := cell_of_row _ _ _ _ _ _ HI2'.out.node
                  have k5 : wr.cell? ⟨b4, o4 + p2.length, none⟩ = some (.string y) := by
                    have h1 := (hcell4 0 _ rfl).1
                    rw [show o4 + (p2.length * Rep.size ByteArray + 0) = o4 + p2.length from by simp [Rep.size]] at h1
                    exact (HB2.out.cell (p := ⟨b4, o4 + p2.length, none⟩) hbB4).trans h1
                  have k6 : wr.cell? ⟨b', o' + pre.length * 12, none⟩ = some (.string z.name) := by
                    have h1 := (hcell 0 _ (attr_cell0 hrz).1).1
                    rw [show o' + (pre.length * Rep.size AttrD + 0) = o' + pre.length * 12 from by simp [Rep.size]] at h1
                    exact (HI2'.out.below.cell (p := ⟨b', o' + pre.length * 12, none⟩) hbB).trans h1
                  have hcf : (p2.filter fun x => decide (x = z.name)).length ≤ p2.length := List.length_filter_le _ _
                  have H := Lib.hid (And.intro hpp2' hpl2)
                  have hk0 : (0 : Int) ≤ (p2.length : Int) := Int.natCast_nonneg _
                  have hk1 : (p2.length : Int) < ((namesD op).length : Int) := by omega
                  have hk2 : (0 : Int) ≤ (pre.length : Int) := Int.natCast_nonneg _
                  have hk3 : (pre.length : Int) < (n.attrs.length : Int) := by omega
                  clear hpp2 hpp2' hpl2 hz2 hcell4 hcell hrz hbB hbB4
                  by_cases hy : y = z.name
                  · have hb1 : (y.toList == z.name.toList) = true := by rw [beq_str]; exact decide_eq_true hy
                    have HY := Lib.hid hy
                    clear hy
                    go_wp2_with fail
                    go_quiet (fail)
                    go_wp2
                    go_roundw
                    case rel => exact ⟨p2 ++ [y], q2, H.out.1, by rw [H.out.2]; go_num, by rw [List.filter_append, List.length_append, List.filter_cons_of_pos (by simp [HY.out])]; simp, below_drewN HB2a.out _⟩
                    case measure => simp [intOf]; omega
                  · have hb1 : (y.toList == z.name.toList) = false := by rw [beq_str]; exact decide_eq_false hy
                    have HY := Lib.hid hy
                    clear hy
                    go_wp2_with fail
                    go_quiet (fail)
                    go_wp2
                    go_roundw
                    case rel => exact ⟨p2 ++ [y], q2, H.out.1, by rw [H.out.2]; go_num, by rw [List.filter_append, List.length_append, List.filter_cons_of_neg (by simp [HY.out])]; simp, below_drewN HB2a.out _⟩
                    case measure => simp [intOf]; omega
                | nil =>
                  obtain ⟨hge2, hpl2⟩ := split_end hpp2
                  subst hpl2
                  have h1 : ((namesD op).filter fun x => decide (x = z.name)).length = 1 := by rw [names_times]; exact (HON.out.1 z HP.out.2.2.2).1
                  rw [h1]
                  have hap := count_apart (pre := pre) (post := post) (z := z) (by rw [← HP.out.1]; exact (HON.out.1 z HP.out.2.2.2).2)
                  have HAP := Lib.hid hap
                  clear hpp2 hge2 h1 hap
                  obtain ⟨wb, rfl⟩ : ∃ wb, wb = wr := ⟨_, rfl⟩
                  go_wp2_with fail
                  go_loopw [15, 17] (fun v i wr => ∃ p3 q3 : List AttrD, pre = p3 ++ q3 ∧ i = .int .i64 p3.length ∧ v = .int .i64 1 ∧ Below wb.heap.size wb wr)
                    (fun _ i _ => pre.length - (intOf i).toNat)
                  case atStart => exact ⟨[], pre, rfl, rfl, rfl, Below.refl _ _⟩
                  case round =>
                    obtain ⟨p3, q3, hpp3, rfl, rfl, hbel3⟩ := hrel
                    have HI3' := Lib.hid (HI2'.out.next hbel3)
                    have HB3 := Lib.hid hbel3
                    have HB30 := Lib.hid (HB2.out.trans (hbel3.mono HB2.out.size))
                    clear hbel3
                    cases q3 with
                    | cons y q3 =>
                      obtain ⟨hz3, hlt3, hpp3', hpl3⟩ := split_at hpp3
                      have hym : y ∈ pre := List.mem_of_getElem? hz3
                      have hzn : n.attrs[p3.length]? = some y := by rw [HP.out.1, List.append_assoc, List.getElem?_append_left hlt3]; exact hz3
                      obtain ⟨b', o', acs', rfl, hbB, hrz, hcell⟩ := elem_at HL.out.1 HL.out.2.1 (by decide) HP.out.2.2.1
                      obtain ⟨b2, o2, acs2, hbo2, hbB2, hrz2, hcell2⟩ := elem_at HL.out.1 HL.out.2.1 (by decide) hzn
                      obtain ⟨rfl, rfl⟩ : b' = b2 ∧ o' = o2 := by simpa using hbo2
                      have k4 : wr.cell? ⟨w.heap.size, 4, none⟩ = some (.slice (some ⟨b', o', none⟩) n.attrs.length k3) := cell_of_row _ _ _ _ _ _ HI3'.out.node
                      have k6 : wr.cell? ⟨b', o' + pre.length * 12, none⟩ = some (.string z.name) := by
                        have h1 := (hcell 0 _ (attr_cell0 hrz).1).1
                        rw [show o' + (pre.length * Rep.size AttrD + 0) = o' + pre.length * 12 from by simp [Rep.size]] at h1
                        exact (HI3'.out.below.cell (p := ⟨b', o' + pre.length * 12, none⟩) hbB).trans h1
                      have k7 : wr.cell? ⟨b', o' + p3.length * 12, none⟩ = some (.string y.name) := by
                        have h1 := (hcell2 0 _ (attr_cell0 hrz2).1).1
                        rw [show o' + (p3.length * Rep.size AttrD + 0) = o' + p3.length * 12 from by simp [Rep.size]] at h1
                        exact (HI3'.out.below.cell (p := ⟨b', o' + p3.length * 12, none⟩) hbB).trans h1
                      have H := Lib.hid (And.intro hpp3' hpl3)
                      have hk0 : (0 : Int) ≤ (p3.length : Int) := Int.natCast_nonneg _
                      have hk1 : (p3.length : Int) < (n.attrs.length : Int) := by omega
                      have hk2 : (0 : Int) ≤ (pre.length : Int) := Int.natCast_nonneg _
                      have hk3 : (pre.length : Int) < (n.attrs.length : Int) := by omega
                      have hb1 : (y.name.toList == z.name.toList) = false := by rw [beq_str]; exact decide_eq_false (HAP.out y hym)
                      clear hpp3 hpp3' hpl3 hz3 hzn hcell hcell2 hrz hrz2 hbB hbB2 hbo2 hym
                      go_wp2_with fail
                      go_quiet (fail)
                      go_wp2
                      go_roundw
                      case rel => exact ⟨p3 ++ [y], q3, H.out.1, by rw [H.out.2]; go_num, rfl, below_drewN HB3.out _⟩
                      case measure => simp [intOf]; omega
                    | nil =>
                      obtain ⟨hge3, hpl3⟩ := split_end hpp3
                      subst hpl3
                      clear hpp3 hge3
                      go_wp2
                      go_roundw
                      case rel => exact ⟨p3 ++ [z], post, HP.out.1, by rw [HP.out.2.1]; go_num, HB30.out⟩
                      case measure => simp [intOf]; omega
            | nil =>
              obtain ⟨hge, hpl⟩ := split_end hpp
              clear hpp
              have hfr : fr = 0 ∨ fr = 14 := HON.out.2.2.2.1
              rcases hfr with rfl | rfl
              · go_wp2
                go_ret
                exact ⟨rfl, HIa.out.below⟩
              · go_wp2
                go_ret
                exact ⟨rfl, HIa.out.below⟩
        · have h14 : er = 14 := by have := HE.out.2; omega
          subst h14
          go_wp2
          go_ret
          exact ⟨rfl, HI7.out.below⟩
end Go.Proofs.YtgbkhcmbmffljaaDoor
