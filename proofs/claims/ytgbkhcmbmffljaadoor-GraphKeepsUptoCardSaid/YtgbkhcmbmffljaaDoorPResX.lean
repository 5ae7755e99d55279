/-
  'Resolve' where the operator is known and the counts fit: the two maps, the attributes one by one.
-/
import Derived.Test.YtgbkhcmbmffljaaDoorPResV
import Derived.Test.YtgbkhcmbmffljaaDoorPGMaps
import Derived.Test.YtgbkhcmbmffljaaDoorPOpsK
import Derived.Test.YtgbkhcmbmffljaaDoorPLeftA
set_option linter.unusedSimpArgs false
namespace Go.Proofs.YtgbkhcmbmffljaaDoor
open Go.RowKit
open Rep (rep)
structure MapsInv (w:World) (cs:List Value) (b:Nat) (r:RowD) (m1 m2:Nat) (l:List AttrD) (f:ByteArray→Int) (W:World):Prop where
 row:RowInv w cs b r W
 cnt:MapOf W m1 l.length (fun s=>(countD l s:Int))
 map:MapOf W m2 l.length f
 pos:∀ s,0 < countD l s→∃ (j:Nat) (a:AttrD),f s = j∧l[j]? = some a∧a.name = s
 lt1:b < m1
 lt2:m1 < m2
section
variable {w W W':World} {cs:List Value} {b m1 m2:Nat} {r:RowD} {l:List AttrD} {f:ByteArray→Int}
theorem MapsInv.lt (h:MapsInv w cs b r m1 m2 l f W):m2 < W.heap.size:=h.map.lt
theorem MapsInv.next (h:MapsInv w cs b r m1 m2 l f W) (hb:Below W.heap.size W W'):MapsInv w cs b r m1 m2 l f W':=⟨h.row.next hb,h.cnt.below hb h.cnt.lt,h.map.below hb h.map.lt,h.pos,h.lt1,h.lt2⟩
theorem MapsInv.alloc (h:MapsInv w cs b r m1 m2 l f W) (o:Obj):MapsInv w cs b r m1 m2 l f (W.alloc o):=h.next ((Below.refl _ _).alloc (Nat.le_refl _) o)
theorem MapsInv.drew (h:MapsInv w cs b r m1 m2 l f W):MapsInv w cs b r m1 m2 l f W.drew:=⟨h.row.drew,h.cnt.drew,h.map.drew,h.pos,h.lt1,h.lt2⟩
theorem MapsInv.grown (h:MapsInv w cs b r m1 m2 l f W) {q:Option Nat} (hg:W.grownBy W' q) (hr:∀ g,q = some g→m2 < g):MapsInv w cs b r m1 m2 l f W':=by
 have h1:=h.lt1
 have h2:=h.lt2
 exact ⟨h.row.grown hg (fun g e=>by have:=hr g e;omega),h.cnt.kept hg (fun e=>by have:=hr m1 e.symm;omega),h.map.kept hg (fun e=>by have:=hr m2 e.symm;omega),h.pos,h1,h2⟩
theorem maps_start (h:RowInv w cs b r W):MapsInv w cs b r W.heap.size (W.heap.size + 1) [] (fun _=>0) ((W.alloc (.map #[] 0)).alloc (.map #[] 0)):=by
 have h2:=MapOf.made (W.alloc (.map #[] 0))
 rw [World.size_alloc] at h2
 exact ⟨(h.alloc _).alloc _,(MapOf.made W).alloc _,h2,fun s hs=>by simp [countD] at hs,h.lt,Nat.lt_succ_self _⟩
theorem maps_step {W1 W2:World} {a:AttrD} (h:MapsInv w cs b r m1 m2 l f W) (h1:MapOf W1 m1 (l.length + 1) (fun z=>if z = a.name then (countD l a.name:Int) + 1 else (countD l z:Int))) (g1:W.grownBy W1 (some m1))
  (h2:MapOf W2 m2 (l.length + 1) (fun z=>if z = a.name then (l.length:Int) else f z)) (g2:W1.grownBy W2 (some m2)) :
  MapsInv w cs b r m1 m2 (l++[a]) (fun z=>if z = a.name then (l.length:Int) else f z) W2:=by
 have l1:=h.lt1
 have l2:=h.lt2
 have e:(fun s=>(countD (l++[a]) s:Int)) = (fun z=>if z = a.name then (countD l a.name:Int) + 1 else (countD l z:Int)):=by
  funext s
  rw [count_snoc]
  by_cases e:a.name = s
  ·rw [if_pos e,if_pos e.symm,e];omega
  ·rw [if_neg e,if_neg (fun h=>e h.symm)];omega
 refine ⟨(h.row.grown g1 (fun g e=>by injection e with e;omega)).grown g2 (fun g e=>by injection e with e;omega),?_,by rw [List.length_append];exact h2,fun s hs=>?_,l1,l2⟩
 ·rw [e,List.length_append]
  exact h1.kept g2 (fun e=>by injection e with e;omega)
 ·by_cases e:s = a.name
  ·refine ⟨l.length,a,by simp only [if_pos e],by simp,e.symm⟩
  ·rw [count_snoc,if_neg (fun h=>e h.symm)] at hs
   obtain ⟨j,a',h3,h4,h5⟩:=h.pos s (by omega)
   refine ⟨j,a',by simp only [if_neg e];exact h3,?_,h5⟩
   rw [List.getElem?_append_left (List.getElem?_eq_some_iff.1 h4).1];exact h4
end
theorem zeroA_zero:(Tryd.prog.info? 52).bind (·.zero) = some (.agg zeroA.toArray):=by kernel_rfl
theorem laid_attr (W:World) (acs:List Value) (hl:acs.length = 12) :
  Below W.heap.size W ((W.alloc (.cells zeroA.toArray 52)).setRow W.heap.size (zeroA.take 0++acs++zeroA.drop (0 + acs.length)).toArray) ∧
  ((W.alloc (.cells zeroA.toArray 52)).setRow W.heap.size (zeroA.take 0++acs++zeroA.drop (0 + acs.length)).toArray).heap[W.heap.size]? = some (.cells acs.toArray 52 (0,0)):=by
 have e:zeroA.take 0++acs++zeroA.drop (0 + acs.length) = acs:=by
  rw [List.take_zero,List.nil_append,Nat.zero_add,List.drop_of_length_le (by rw [hl];decide),List.append_nil]
 rw [e]
 exact ⟨below_setRow' ((Below.refl _ _).alloc (Nat.le_refl _) _) (Nat.le_refl _) _,heap_setRow _ _ _ _ _ (heap_alloc_new _ _)⟩
theorem attr_cell0 {w:World} {Z:Zone} {acs:List Value} {z:AttrD} (h:rep w Z acs z):acs[0]? = some (.string z.name)∧z.name.size ≤ reach:=by
 obtain ⟨A1,k1,A2,k2,A3,k3,A4,k4,A5,k5,A6,k6,rfl,h0,_⟩:=open_AttrD h
 exact ⟨rfl,h0⟩
theorem anyH_kind {md:Region.Mode} {ops:Array Oper} {Q:Exit→Act→World→Prop} {S:World→Prop} {fuel:Nat} {listed:Array Bool} {a:Act} {w:World} {o:Oper} (i:Nat) (hio:ops[i]? = some o) (hr:Region.ready md ops listed = [i])
  (hw:Region.wanted o (yielded ops a.tmps) = true) (x:Operand) (t:TypeId) (ho:o.op = .call { callee:=.value (.func 39),args:=#[x],argTypes:=#[t] }) (v:Value) (hv:a.eval x = v)
  (h:Calls Tryd.prog 39 #[v] w fun e w'=>∃ u,e = .returned u∧S w'∧wpAnyH Tryd.prog md ops Q S fuel (listed.setIfInBounds i true) (a.put o.dst u) w'):wpAnyH Tryd.prog md ops Q S (fuel + 1) listed a w:=by
 refine wpAnyH_ready hr (by simp) (AllReadyH.cons hio (fun K hK=>?_) AllReadyH.nil)
 rw [if_pos hw]
 unfold Oper.wp
 simp only [execOp,ho]
 have hf:a.eval (Operand.func 39) = .func (.func 39) #[] #[]:=rfl
 simp [hv,hf,resolve,invoke,Deferred.ofValue]
 go_simp
 refine h.mono fun e w' ⟨u,he,hS,hk⟩=>?_
 subst he
 exact hK.out _ _ hS (fun _=>hk)
theorem yields_load_int {P:Program} {ops:Array Oper} {S:World→Prop} {o:Oper} {a:Act} {k:IntKind} (hw:Region.wanted o (yielded ops a.tmps) = true) (ty:TypeId) (x:Operand) (ho:o.op = .load ty x) (b f:Nat) (hx:a.eval x = .pointer (some ⟨b,f,none⟩))
  (v:Value) (hu:P.underlying ty = some (.int k)) (hS:∀ w,S w→w.cell? ⟨b,f,none⟩ = some v):YieldsIf P ops S o v a :=
 .inl ⟨hw,fun w h=>by
  have hag:(isAgg ty).run P w = .ok false w:=by unfold isAgg;rw [Sem.run_bind,run_underlying hu w];rfl
  unfold execOp
  simp only [ho,hx,Instr.loadAt,Instr.sureAddr,Sem.run_bind,Sem.run_pure,Result.andThen_ok,loadVar,hag]
  simp [hS w h]⟩
theorem yields_neq {P:Program} {ops:Array Oper} {S:World→Prop} {o:Oper} {a:Act} (hw:Region.wanted o (yielded ops a.tmps) = true) (x y:Operand) (t u:TypeId) (ho:o.op = .binOp .neq t x y u) (p q:Int) (hx:a.eval x = .int .i64 p) (hy:a.eval y = .int .i64 q)
  (_:P.underlying t = some (.int .i64)) (hne:p ≠ q):YieldsIf P ops S o (.bool true) a :=
 .inl ⟨hw,fun w h=>by
  unfold execOp
  simp only [ho,hx,hy]
  go_simp⟩
set_option maxRecDepth 100000 in
set_option maxHeartbeats 40000000 in
theorem resolve_2 (cs:List Value) (n:NodeD) (w:World) (ht:Tab w) (hr:rep w (old w.heap.size) cs n) (h0:numberD n.op ≠ 0) (h1:countsD (findD (numberD n.op)) n = true) :
  Calls Tryd.prog 20 #[.agg cs.toArray] w (AnswerD w (resolveD n).1 (resolveD n).2.1 (resolveD n).2.2):=by
 have hrn:=hr
 obtain ⟨A1,k1,A2,k2,A3,k3,rfl,g0,g1,hi,ho,ha⟩:=open_NodeD hr
 obtain ⟨A',c',xs,hv,hnc,hcm,hby,hl,hch⟩:=open_slice ha
 simp only [Value.slice.injEq,true_and] at hv
 obtain ⟨rfl,rfl⟩:=hv
 have hlen:n.attrs.length ≤ 1000000000000:=by replace hby:n.attrs.length * 208 ≤ 140737488351232:=hby;omega
 have hI:=number_I64 n.op
 obtain ⟨op,hop⟩:∃ op,numberD n.op = op:=⟨_,rfl⟩
 rw [hop] at h0 h1 hI
 have hok:=findD_ok op
 have hok2:0 ≤ (findD op).least:=by unfold rowOk at hok;simp only [Bool.and_eq_true,decide_eq_true_eq] at hok;exact hok.2
 have HR:=Lib.hid (And.intro hop (And.intro hI (And.intro h1 (And.intro hrn hok2))))
 have HT:=Lib.hid (And.intro ht (And.intro hok hlen))
 have HL:=Lib.hid (And.intro hl (And.intro hch ha))
 clear hr hi ho ha g0 g1 h1 hop hI hrn hok hok2 ht hl hch hby
 go_enter Tryd.func20,Tryd.ntmps20
 go_wp2_with (first
  |(with_reducible refine wpList_alloc_row rfl 45 rfl zeroS zeroS_zero ?_;have hI:=res_start w [.string n.op,.string n.name,.slice A1 n.ins.length k1,.slice A2 n.outs.length k2,.slice A3 n.attrs.length k3];generalize World.alloc _ (.cells zeroS.toArray _) = W0 at hI ⊢;have HI:=Lib.hid hI;clear hI;have c0:W0.cell? ⟨w.heap.size,0,none⟩ = some (.string n.op):=cell_of_row _ _ _ _ _ _ HI.out.node))
 refine (number_any n.op _).mono ?_
 rw [HR.out.1]
 rintro e w1 ⟨rfl,hb⟩
 have HI1:=Lib.hid (HI.out.next hb)
 clear hb c0
 go_wp2_with fail
 refine (find_any op _ HR.out.2.1).mono ?_
 rintro e w2 ⟨rfl,hb⟩
 have HI2:=Lib.hid (HI1.out.next hb)
 clear hb
 obtain ⟨r,hr⟩:∃ r,findD op = r:=⟨_,rfl⟩
 have HR2:=HR
 have HT2:=HT
 have HE:=Lib.hid hr
 rw [hr] at HR2 HT2 ⊢
 clear hr HR HT
 go_wp2_with (first
  |(with_reducible refine wpList_alloc_row rfl 79 rfl noRow.cells row_zero ?_)
  |(with_reducible refine wpList_store_agg rfl 79 _ _ rfl _ 0 r.cells rfl rfl 79 noRow.cells (heap_alloc_new _ _) (by kernel_rfl) (by rw [RowD.cells_len,RowD.cells_len];omega) r.one ?_;have hI:=res_row HI2.out r;generalize World.setRow _ _ _ = w3 at hI ⊢;have HI3:=Lib.hid hI;clear hI)
  |(with_reducible refine wpList_load_agg rfl 79 _ rfl _ _ _ rfl r.cells Tryd.underlying79 rfl (by kernel_rfl) (At.of_row HI3.out.row) ?_)
  |(with_reducible refine wpList_load_agg rfl 36 _ rfl _ _ _ rfl [.string n.op,.string n.name,.slice A1 n.ins.length k1,.slice A2 n.outs.length k2,.slice A3 n.attrs.length k3] Tryd.underlying36 rfl (by kernel_rfl) HI3.out.inv.at ?_))
 refine (counts_any r HR2.out.2.2.2.2 _ n _ (HI3.out.inv.keeps' HR2.out.2.2.2.1)).mono ?_
 rw [HR2.out.2.2.1]
 rintro e w4 ⟨rfl,hb⟩
 have HM:=Lib.hid (maps_start (HI3.out.next hb))
 clear hb
 have c4:((w4.alloc (.map #[] 0)).alloc (.map #[] 0)).cell? ⟨w.heap.size,4,none⟩ = some (.slice A3 n.attrs.length k3):=cell_of_row _ _ _ _ _ _ HM.out.row.inv.node
 have hmm:=@run_makeMap Tryd.prog
 go_wp2_with fail
 clear c4 hmm
 generalize World.alloc _ _ = w5 at HM ⊢
 go_loopw [34] (fun i wr=>∃ (pre post:List AttrD) (f:ByteArray→Int),n.attrs = pre++post∧i = .int .i64 pre.length ∧
   MapsInv w [.string n.op,.string n.name,.slice A1 n.ins.length k1,.slice A2 n.outs.length k2,.slice A3 n.attrs.length k3] w2.heap.size r w4.heap.size (w4.heap.size + 1) pre f wr)
  (fun i _=>n.attrs.length - (intOf i).toNat)
 case atStart=>exact ⟨[],n.attrs,_,rfl,rfl,HM.out⟩
 case round =>
  obtain ⟨pre,post,f,hpp,rfl,hM⟩:=hrel
  have HMr:=Lib.hid hM
  clear hM HM
  cases post with
  | cons z post =>
   obtain ⟨hz,hlt,hpp',hpl⟩:=split_at hpp
   obtain ⟨b',o,acs,rfl,hbB,hrz,hcell⟩:=elem_at HL.out.1 HL.out.2.1 (by decide) hz
   have hal:acs.length = 12:=Rep.len hrz
   obtain ⟨ha0,hsz⟩:=attr_cell0 hrz
   have hat:At wr b' (o + pre.length * 12) acs:=fun j u hu=>by
    have h1:=(hcell j u hu).1
    rw [← Nat.add_assoc] at h1
    exact (HMr.out.row.inv.below.cell (p:=⟨b',o + pre.length * 12 + j,none⟩) hbB).trans h1
   have hcl:=count_le pre z.name
   have HA:=Lib.hid (And.intro hal (And.intro ha0 (And.intro hat (Rep.one hrz))))
   have HP:=Lib.hid (And.intro hpp' (And.intro hpl hsz))
   clear hpp hpp' hpl hz hcell hrz ha0 hat hal hsz
   go_wp2_with (first
    |(with_reducible refine wpList_load_agg rfl 52 _ rfl _ _ _ rfl acs Tryd.underlying52 rfl (by rw [HA.out.1];kernel_rfl) HA.out.2.2.1 ?_)
    |(with_reducible refine wpList_alloc_row rfl 52 rfl zeroA zeroA_zero ?_)
    |(with_reducible refine wpList_store_agg rfl 52 _ _ rfl _ 0 acs rfl rfl 52 zeroA (heap_alloc_new _ _) (by rw [HA.out.1];kernel_rfl) (by rw [HA.out.1];decide) HA.out.2.2.2 ?_;have hX:=laid_attr wr acs HA.out.1;generalize World.setRow _ _ _ = w6 at hX ⊢;have HX:=Lib.hid hX;clear hX;refine halt ?_))
   unfold Halt
   have HM6:=Lib.hid (HMr.out.next HX.out.1)
   have hsz:z.name.size ≤ maxLen:=by have:=HP.out.2.2;unfold reach at this;unfold maxLen;omega
   have hlk:=(HM6.out.cnt.lookup z.name hsz).1
   have c10:w6.cell? ⟨wr.heap.size,0,none⟩ = some (.string z.name):=by rw [cell_of_row _ _ _ _ _ _ HX.out.2,List.getElem?_toArray];exact HA.out.2.1
   have hne:some wr.heap.size ≠ some w4.heap.size:=fun e=>by injection e with e;have:=HMr.out.lt;omega
   have h6:wr.heap.size < w6.heap.size:=(Array.getElem?_eq_some_iff.1 HX.out.2).1
   go_wp2_with (first
    |(at_mapUpdate;refine halt ?_))
   unfold Halt
   refine wpList_mapUpdate_of rfl _ _ _ rfl w4.heap.size pre.length _ rfl HM6.out.cnt (by unfold maxLen;omega) z.name ((countD pre z.name:Int) + 1) rfl rfl hsz (by unfold I64;omega) ?_
   intro w7 h7 g7
   have HM7:=Lib.hid (And.intro h7 g7)
   clear hlk c10
   have c10:w7.cell? ⟨wr.heap.size,0,none⟩ = some (.string z.name):=by rw [g7.cell_far _ (by exact h6) hne,cell_of_row _ _ _ _ _ _ HX.out.2,List.getElem?_toArray];exact HA.out.2.1
   clear h7 g7
   go_wp2_with (first
    |(at_mapUpdate;refine halt ?_))
   unfold Halt
   refine wpList_mapUpdate_of rfl _ _ _ rfl (w4.heap.size + 1) pre.length f rfl (HM6.out.map.kept HM7.out.2 (fun e=>by injection e with e;omega)) (by unfold maxLen;omega) z.name (pre.length:Int) rfl rfl hsz (by unfold I64;omega) ?_
   intro w8 h8 g8
   have HM8:=Lib.hid (maps_step (a:=z) HM6.out HM7.out.1 HM7.out.2 h8 g8)
   clear h8 g8 c10
   go_wp2
   go_roundw
   case rel=>exact ⟨pre++[z],post,_,HP.out.1,by rw [HP.out.2.1];go_num,HM8.out⟩
   case measure=>simp [intOf];omega
  | nil =>
   obtain ⟨hge,hpl⟩:=split_end hpp
   subst hpl
   clear hpp hge
   go_wp2_with fail
   refine (left_any op wr).mono ?_
   rintro e w6 ⟨ss,rfl,hS,hb⟩
   have hsl:ss.length = 36:=hS.len
   have hs1:∀ u ∈ ss,u.oneCell' = true:=(inferInstance:Rep SettingD).one hS
   have HM6:=Lib.hid (HMr.out.next hb)
   have HS:=Lib.hid (And.intro hsl (And.intro hs1 (And.intro hb.size hS)))
   clear hS hsl hs1 hb
   go_wp2_with (first
    |(with_reducible refine wpList_alloc_row rfl 45 rfl zeroS zeroS_zero ?_)
    |(with_reducible refine wpList_store_agg rfl 45 _ _ rfl _ 0 ss rfl rfl 45 zeroS (heap_alloc_new _ _) (by rw [HS.out.1];kernel_rfl) (by rw [HS.out.1,zeroS_len];omega) HS.out.2.1 ?_;have hX:=LoopInv.start (w6:=w6) HS.out.2.2.1 HS.out.1 HS.out.2.2.2;generalize World.setRow _ _ _ = w7 at hX ⊢;have HX:=Lib.hid hX;have HM7:=Lib.hid (HM6.out.next hX.1);clear hX)
    |(with_reducible refine wpList_load_agg rfl 79 _ rfl _ _ _ rfl r.cells Tryd.underlying79 rfl (by kernel_rfl) (At.of_row HM7.out.row.row) ?_))
   refine (sorts_any r HT2.out.2.1 w7 (HT2.out.1.ext (HM7.out.row.inv.below.mono (Nat.le_refl _)))).mono ?_
   rintro e w8 ⟨v8,rfl,hown,hb8⟩
   obtain ⟨hso,hsl⟩:=sorts_ok op
   have hKN:stepD op n.attrs (sortsD (findD op)) (leftD op) 0 = none→resolveD n = (0,settingD0,14):=resolve_none HR2.out.1 h0 (by rw [HE.out];exact HR2.out.2.2.1)
   rw [HE.out] at hso hsl hKN
   have hrep:rep w8 (fresh w7.heap.size w8.heap.size) [v8] (sortsD r):=rep_of_own (e:=84) (xs:=(sortsD r).flatMap SortD.cells) hown (chunks_sorts _ fun x hx=>(hso x hx).1) (by unfold reach;simp only [Rep.bytes];omega) (fun g _ h1 h2=>⟨h1,h2⟩)
   obtain ⟨A8,c8,ys,rfl,hnc8,hcm8,-,hl8,hch8⟩:=open_slice hrep
   have HM8:=Lib.hid (HM7.out.next hb8)
   have hL0:LoopInv w8 wr.heap.size w6.heap.size ss (leftD op) w8:=⟨World.grownBy.refl _ _,(HX.out.2.next hb8).sets,(HX.out.2.next hb8).dat⟩
   have h47:w4.heap.size + 1 < w6.heap.size∧w6.heap.size < w7.heap.size∧wr.heap.size ≤ w6.heap.size:=⟨Nat.lt_of_lt_of_le HMr.out.lt HS.out.2.2.1,HX.out.2.sets.lt,HS.out.2.2.1⟩
   have HL0:=Lib.hid hL0
   have H47:=Lib.hid h47
   have HK:=Lib.hid hKN
   have HSO:=Lib.hid hso
   have HSL:=Lib.hid (And.intro hl8 hch8)
   obtain ⟨wa,rfl⟩:∃ wa,wa = wr:=⟨_,rfl⟩
   clear hown hb8 hso hrep hL0 h47 hKN hl8 hch8 HX HM7 HS HM6
   go_wp2_with fail
   go_loopw [12,54] (fun kv i wr=>∃ (pre post:List SortD) (ss:List Value) (s:SettingD) (k:Nat),sortsD r = pre++post∧i = .int .i64 pre.length∧kv = .int .i64 k∧k ≤ pre.length ∧
     LoopInv w8 wa.heap.size w6.heap.size ss s wr∧stepD op n.attrs (sortsD r) (leftD op) 0 = stepD op n.attrs post s k)
    (fun _ i _=>(sortsD r).length - (intOf i).toNat)
   case atStart=>exact ⟨[],sortsD r,ss,leftD op,0,rfl,rfl,rfl,Nat.le_refl _,HL0.out,rfl⟩
   case round =>
    obtain ⟨pre,post,ss,s,k,hpp,rfl,rfl,hkp,hL,hst⟩:=hrel
    clear HL0
    have HLq:=Lib.hid hL
    have HMq:=Lib.hid (HM8.out.grown hL.grown (fun g e=>by injection e with e;have:=H47.out.1;omega))
    clear hL
    cases post with
    | cons x post =>
     obtain ⟨hz,hlt,hpp',hpl⟩:=split_at hpp
     obtain ⟨bs,os,xcs,rfl,hbB,hrz,hcell⟩:=elem_at HSL.out.1 HSL.out.2 (by decide) hz
     obtain ⟨rfl,hxs⟩:=open_SortD hrz
     have hxm:x ∈ sortsD r:=List.mem_of_getElem? hz
     have hat:At wr bs (os + pre.length * 3) [.string x.name,.int .u8 (x.letter.toNat:Int),.bool x.must]:=fun j u hu=>by
      have h1:=(hcell j u hu).1
      rw [← Nat.add_assoc] at h1
      exact (HLq.out.grown.cell_far ⟨bs,os + pre.length * 3 + j,none⟩ hbB.2 (fun e=>by injection e with e;have h2:w7.heap.size ≤ bs:=hbB.1;have h3:bs = w6.heap.size:=e;have:=H47.out.2.1;omega)).trans h1
     have hxn:x.name.size ≤ maxLen:=by unfold reach at hxs;unfold maxLen;omega
     have HA:=Lib.hid hat
     have HO:=Lib.hid (show ∀ u ∈ ([.string x.name,.int .u8 (x.letter.toNat:Int),.bool x.must]:List Value),u.oneCell' = true from SortD.one x)
     have HP:=Lib.hid (And.intro hpp' (And.intro hpl (And.intro hst (HSO.out x hxm))))
     clear hpp hpp' hpl hz hcell hrz hat hxs hst hbB hxm
     go_wp2_with (first
      |(with_reducible refine wpList_load_agg rfl 84 _ rfl _ _ _ rfl [.string x.name,.int .u8 (x.letter.toNat:Int),.bool x.must] Tryd.underlying84 rfl (by kernel_rfl) HA.out ?_)
      |(with_reducible refine wpList_alloc_row rfl 84 rfl zeroSort zeroSort_zero ?_)
      |(with_reducible refine wpList_store_agg rfl 84 _ _ rfl _ 0 [.string x.name,.int .u8 (x.letter.toNat:Int),.bool x.must] rfl rfl 84 zeroSort (heap_alloc_new _ _) (by kernel_rfl) (by simp [zeroSort]) HO.out ?_;have hX:=laid_row wr 84 zeroSort [.string x.name,.int .u8 (x.letter.toNat:Int),.bool x.must] rfl;generalize World.setRow _ _ _ = v1 at hX ⊢;have HX:=Lib.hid hX;clear hX;refine halt ?_))
     unfold Halt
     have HLv:=Lib.hid (HLq.out.next HX.out.1)
     have HMv:=Lib.hid (HMq.out.next HX.out.1)
     clear HLq HMq HA
     have c0:v1.cell? ⟨wr.heap.size,0,none⟩ = some (.string x.name):=cell_of_row _ _ _ _ _ _ HX.out.2.1
     have c2:v1.cell? ⟨wr.heap.size,2,none⟩ = some (.bool x.must):=cell_of_row _ _ _ _ _ _ HX.out.2.1
     have hlk:=(HMv.out.cnt.lookup x.name hxn).1
     by_cases e1:1 < countD n.attrs x.name
     ·have e1':(1:Int) < (countD n.attrs x.name:Int):=by omega
      have HE1:=Lib.hid e1
      clear e1
      go_wp2_with (first
       |(with_reducible refine wpList_build0 rfl 45 rfl zeroS (zeroS_build _) ?_)
       |(with_reducible refine wpList_store_agg rfl 45 _ _ rfl (w.heap.size + 1) 0 zeroS rfl rfl 45 zeroS HMv.out.row.inv.res.at' (by kernel_rfl) (by decide) zeroS_one ?_))
      obtain ⟨ho,hbo⟩:=HMv.out.row.inv.out zeroS zeroS_len
      have hres:resolveD n = (0,settingD0,14):=HK.out (HP.out.2.2.1.trans (step_many HE1.out))
      refine bodyPost_ret (results_tct rfl _ _ (w.heap.size + 1) 45 _ (0,0) _ (.int .i64 0) (.int .i64 14) rfl rfl rfl ho Tryd.underlying45 rfl (by kernel_rfl)) rfl ?_
      rw [hres]
      exact ⟨_,rfl,zeroS_rep _ _,hbo⟩
     ·by_cases e2:countD n.attrs x.name = 0
      ·have hlk0:(Instr.lookup 90 (.map (some w4.heap.size)) (.string x.name) false).run Tryd.prog v1 = .ok (.int .i64 0) v1:=by rw [hlk,e2];rfl
       have HE2:=Lib.hid e2
       clear hlk e1 e2
       cases em:x.must with
       | true =>
        rw [em] at c2
        have HEM:=Lib.hid em
        clear em
        go_wp2_with (first
         |(with_reducible refine wpList_build0 rfl 45 rfl zeroS (zeroS_build _) ?_)
         |(with_reducible refine wpList_store_agg rfl 45 _ _ rfl (w.heap.size + 1) 0 zeroS rfl rfl 45 zeroS HMv.out.row.inv.res.at' (by kernel_rfl) (by decide) zeroS_one ?_))
        obtain ⟨ho,hbo⟩:=HMv.out.row.inv.out zeroS zeroS_len
        have hres:resolveD n = (0,settingD0,14):=HK.out (HP.out.2.2.1.trans (step_must HE2.out HEM.out))
        refine bodyPost_ret (results_tct rfl _ _ (w.heap.size + 1) 45 _ (0,0) _ (.int .i64 0) (.int .i64 14) rfl rfl rfl ho Tryd.underlying45 rfl (by kernel_rfl)) rfl ?_
        rw [hres]
        exact ⟨_,rfl,zeroS_rep _ _,hbo⟩
       | false =>
        rw [em] at c2
        have HEM:=Lib.hid em
        clear em
        go_wp2
        go_roundw
        case rel=>exact ⟨pre++[x],post,ss,s,k,HP.out.1,by rw [HP.out.2.1];go_num,rfl,by rw [HP.out.2.1];omega,HLv.out,HP.out.2.2.1.trans (step_skip HE2.out HEM.out)⟩
        case measure=>simp [intOf];omega
      ·have e3:countD n.attrs x.name = 1:=by omega
       have hlk1:(Instr.lookup 90 (.map (some w4.heap.size)) (.string x.name) false).run Tryd.prog v1 = .ok (.int .i64 1) v1:=by rw [hlk,e3];rfl
       obtain ⟨j,a,hfj,hj,han⟩:=HMv.out.pos x.name (by omega)
       have hlk2:(Instr.lookup 90 (.map (some (w4.heap.size + 1))) (.string x.name) false).run Tryd.prog v1 = .ok (.int .i64 j) v1:=by rw [(HMv.out.map.lookup x.name hxn).1,hfj]
       have hfd:=found_once e3 hj han
       have hjl:j < n.attrs.length:=(List.getElem?_eq_some_iff.1 hj).1
       obtain ⟨b',o,acs,rfl,hbB,hrz,hcell⟩:=elem_at HL.out.1 HL.out.2.1 (by decide) hj
       have hal:acs.length = 12:=Rep.len hrz
       obtain ⟨-,ha1,-⟩:=attr_cell1 hrz
       have hat:At v1 b' (o + j * 12) acs:=fun j' u hu=>by
        have h1:=(hcell j' u hu).1
        rw [← Nat.add_assoc] at h1
        exact (HMv.out.row.inv.below.cell (p:=⟨b',o + j * 12 + j',none⟩) hbB).trans h1
       have c4:v1.cell? ⟨w.heap.size,4,none⟩ = some (.slice (some ⟨b',o,none⟩) n.attrs.length k3):=cell_of_row _ _ _ _ _ _ HMv.out.row.inv.node
       have HB:=Lib.hid (And.intro hal (And.intro ha1 (And.intro hat (And.intro (Rep.one hrz) hrz))))
       have HE3:=Lib.hid (And.intro e3 hfd)
       clear hlk e1 e2 e3 hfd hfj hj han hbB hrz hcell hal ha1 hat
       go_wp2_with (first
        |(with_reducible refine wpList_load_agg rfl 52 _ rfl _ _ _ rfl acs Tryd.underlying52 rfl (by rw [HB.out.1];kernel_rfl) HB.out.2.2.1 ?_)
        |(with_reducible refine wpList_alloc_row rfl 52 rfl zeroA zeroA_zero ?_)
        |(with_reducible refine wpList_store_agg rfl 52 _ _ rfl _ 0 acs rfl rfl 52 zeroA (heap_alloc_new _ _) (by rw [HB.out.1];kernel_rfl) (by rw [HB.out.1];decide) HB.out.2.2.2.1 ?_;have hY:=laid_attr v1 acs HB.out.1;generalize World.setRow _ _ _ = v2 at hY ⊢;have HY:=Lib.hid hY;clear hY;refine halt ?_))
       unfold Halt
       have HLw:=Lib.hid (HLv.out.next HY.out.1)
       have HMw:=Lib.hid (HMv.out.next HY.out.1)
       have hxb:v2.heap[wr.heap.size]? = some (.cells [.string x.name,.int .u8 (x.letter.toNat:Int),.bool x.must].toArray 84 (0,0)):=(HY.out.1.block _ (Array.getElem?_eq_some_iff.1 HX.out.2.1).1).trans HX.out.2.1
       have hra:rep v2 (old v2.heap.size) acs a:=HMw.out.row.inv.keeps' HB.out.2.2.2.2
       have HZ:=Lib.hid (And.intro hxb hra)
       clear hlk1 hlk2 c0 c2 c4 hxb hra
       go_wp2_with fail
       obtain ⟨kd,hkd⟩:∃ kd,kindD (x.letter.toNat:Int) = kd:=⟨_,rfl⟩
       obtain ⟨my,hmy⟩:∃ my,mayD (x.letter.toNat:Int) op x.name a = my:=⟨_,rfl⟩
       obtain ⟨B1,l1,B2,l2,B3,l3,B4,l4,B5,l5,B6,l6,hacs,-⟩:=open_AttrD HB.out.2.2.2.2
       subst hacs
       have hA2:=And.intro (At.of_row HZ.out.1) (At.of_row HY.out.2)
       have hq:wr.heap.size < v2.heap.size∧v1.heap.size < v2.heap.size:=⟨(Array.getElem?_eq_some_iff.1 HZ.out.1).1,(Array.getElem?_eq_some_iff.1 HY.out.2).1⟩
       have HKD:=Lib.hid (And.intro hkd hmy)
       have HQ:=Lib.hid (And.intro hq hA2)
       obtain ⟨s0,s1,s2,s3,s4,s5,s6,s7,s8,s9,s10,s11,s12,s13,s14⟩:=reg_flat hA2.1 hA2.2
       clear hkd hmy hA2 hq
       by_cases ek:a.kind = kd
       ·cases my with
        | true =>
         subst ek
         rename_i K4 K3 a4 K2 Q1 a3 Q0 a2 K1 a1 K0 a0
         have Ha0:=Lib.hid a0
         have Ha1:=Lib.hid a1
         have Ha2:=Lib.hid a2
         have Ha3:=Lib.hid a3
         have Ha4:=Lib.hid a4
         clear a0 a1 a2 a3 a4
         have HS2:=Lib.hid (reg_flat HQ.out.2.1 HQ.out.2.2)
         go_region_held3 (fun w'=>w'.cell? ⟨wr.heap.size,0,none⟩ = some (.string x.name)∧w'.cell? ⟨wr.heap.size,1,none⟩ = some (.int .u8 (x.letter.toNat:Int))∧w'.cell? ⟨wr.heap.size,2,none⟩ = some (.bool x.must)∧w'.cell? ⟨v1.heap.size,0,none⟩ = some (.string a.name)∧w'.cell? ⟨v1.heap.size,1,none⟩ = some (.int .i64 a.kind)∧w'.cell? ⟨v1.heap.size,2,none⟩ = some (.int .u32 (a.f:Int))∧w'.cell? ⟨v1.heap.size,3,none⟩ = some (.int .i64 a.i)∧w'.cell? ⟨v1.heap.size,4,none⟩ = some (.string a.s)∧w'.cell? ⟨v1.heap.size,5,none⟩ = some (.int .i64 a.t.type)∧w'.cell? ⟨v1.heap.size,6,none⟩ = some (.slice B1 a.t.dims.length l1)∧w'.cell? ⟨v1.heap.size,7,none⟩ = some (.slice B2 a.t.f.length l2)∧w'.cell? ⟨v1.heap.size,8,none⟩ = some (.slice B3 a.t.i.length l3)∧w'.cell? ⟨v1.heap.size,9,none⟩ = some (.slice B4 a.t.b.length l4)∧w'.cell? ⟨v1.heap.size,10,none⟩ = some (.slice B5 a.floats.length l5)∧w'.cell? ⟨v1.heap.size,11,none⟩ = some (.slice B6 a.ints.length l6))
          (first | exact HS2.out | exact HS3.out | exact HS4.out | go_keep)
          (first
           |(go_at_call 39;refine (kind_any x.name (x.letter.toNat:Int) x.must _).mono ?_;rw [HKD.out.1];rintro e v3 ⟨rfl,hv3⟩;have hb3:Below v2.heap.size v2 v3:=(by rw [← hv3];exact ((Below.refl _ _).drew).alloc (Nat.le_refl _) _);have HB3:=Lib.hid hb3;have HS3:=Lib.hid (reg_flat (HQ.out.2.1.keep hb3 HQ.out.1.1) (HQ.out.2.2.keep hb3 HQ.out.1.2));clear hv3 hb3)
           |(go_at_call 40;refine (may_any (x.letter.toNat:Int) HP.out.2.2.2.2 x.name x.must op _ a v3 (Rep.more (Rep.keep HZ.out.2 (.old_below HB3.out (Nat.le_refl _))) (old_le HB3.out.size))).mono ?_;rw [HKD.out.2];rintro e v4 ⟨rfl,hb4⟩;have hb5:Below v2.heap.size v2 v4:=HB3.out.trans (hb4.mono HB3.out.size);have HB4:=Lib.hid hb5;have HS4:=Lib.hid (reg_flat (HQ.out.2.1.keep hb5 HQ.out.1.1) (HQ.out.2.2.keep hb5 HQ.out.1.2));clear hb4 hb5))
         clear s0 s1 s2 s3 s4 s5 s6 s7 s8 s9 s10 s11 s12 s13 s14
         have a0:=Ha0.out
         have a1:=Ha1.out
         have a2:=Ha2.out
         have HLx:=Lib.hid (HLw.out.next HB4.out)
         have HMx:=Lib.hid (HMw.out.next HB4.out)
         have HAx:=Lib.hid (HQ.out.2.2.keep HB4.out HQ.out.1.2)
         go_wp2_with (first
          |(with_reducible refine wpList_load_agg rfl 52 _ rfl _ _ _ rfl [.string a.name,.int .i64 a.kind,.int .u32 (a.f:Int),.int .i64 a.i,.string a.s,.int .i64 a.t.type,.slice B1 a.t.dims.length l1,.slice B2 a.t.f.length l2,.slice B3 a.t.i.length l3,.slice B4 a.t.b.length l4,.slice B5 a.floats.length l5,.slice B6 a.ints.length l6] Tryd.underlying52 rfl (by kernel_rfl) HAx.out ?_))
         refine (set_any op w6.heap.size a _ ss v4 w.heap.size (by have:=H47.out.1;have:=HMr.out.row.ge;have:=HMr.out.lt1;omega) (HMx.out.row.inv.keeps HB.out.2.2.2.2) HLx.out.sets).mono ?_
         rintro e v5 ⟨rfl,ss5,hS5,hg5,hd5⟩
         have HL5:=Lib.hid (show LoopInv w8 wa.heap.size w6.heap.size ss5 (setD op a s) v5 from ⟨grown_trans HLx.out.grown hg5,hS5,hd5 _ _ H47.out.2.2 HLx.out.dat⟩)
         clear hS5 hg5 hd5
         go_wp2
         go_roundw
         case rel=>exact ⟨pre++[x],post,ss5,setD op a s,k + 1,HP.out.1,by rw [HP.out.2.1];go_num,by go_num,by rw [HP.out.2.1];omega,HL5.out,HP.out.2.2.1.trans (step_set HE3.out.1 HE3.out.2 ⟨HKD.out.1.symm,HKD.out.2⟩)⟩
         case measure=>simp [intOf];omega
        | false =>
         subst ek
         rename_i K4 K3 a4 K2 Q1 a3 Q0 a2 K1 a1 K0 a0
         have Ha0:=Lib.hid a0
         have Ha1:=Lib.hid a1
         have Ha2:=Lib.hid a2
         have Ha3:=Lib.hid a3
         have Ha4:=Lib.hid a4
         clear a0 a1 a2 a3 a4
         have HS2:=Lib.hid (reg_flat HQ.out.2.1 HQ.out.2.2)
         go_region_held3 (fun w'=>w'.cell? ⟨wr.heap.size,0,none⟩ = some (.string x.name)∧w'.cell? ⟨wr.heap.size,1,none⟩ = some (.int .u8 (x.letter.toNat:Int))∧w'.cell? ⟨wr.heap.size,2,none⟩ = some (.bool x.must)∧w'.cell? ⟨v1.heap.size,0,none⟩ = some (.string a.name)∧w'.cell? ⟨v1.heap.size,1,none⟩ = some (.int .i64 a.kind)∧w'.cell? ⟨v1.heap.size,2,none⟩ = some (.int .u32 (a.f:Int))∧w'.cell? ⟨v1.heap.size,3,none⟩ = some (.int .i64 a.i)∧w'.cell? ⟨v1.heap.size,4,none⟩ = some (.string a.s)∧w'.cell? ⟨v1.heap.size,5,none⟩ = some (.int .i64 a.t.type)∧w'.cell? ⟨v1.heap.size,6,none⟩ = some (.slice B1 a.t.dims.length l1)∧w'.cell? ⟨v1.heap.size,7,none⟩ = some (.slice B2 a.t.f.length l2)∧w'.cell? ⟨v1.heap.size,8,none⟩ = some (.slice B3 a.t.i.length l3)∧w'.cell? ⟨v1.heap.size,9,none⟩ = some (.slice B4 a.t.b.length l4)∧w'.cell? ⟨v1.heap.size,10,none⟩ = some (.slice B5 a.floats.length l5)∧w'.cell? ⟨v1.heap.size,11,none⟩ = some (.slice B6 a.ints.length l6))
          (first | exact HS2.out | exact HS3.out | exact HS4.out | go_keep)
          (first
           |(go_at_call 39;refine (kind_any x.name (x.letter.toNat:Int) x.must _).mono ?_;rw [HKD.out.1];rintro e v3 ⟨rfl,hv3⟩;have hb3:Below v2.heap.size v2 v3:=(by rw [← hv3];exact ((Below.refl _ _).drew).alloc (Nat.le_refl _) _);have HB3:=Lib.hid hb3;have HS3:=Lib.hid (reg_flat (HQ.out.2.1.keep hb3 HQ.out.1.1) (HQ.out.2.2.keep hb3 HQ.out.1.2));clear hv3 hb3)
           |(go_at_call 40;refine (may_any (x.letter.toNat:Int) HP.out.2.2.2.2 x.name x.must op _ a v3 (Rep.more (Rep.keep HZ.out.2 (.old_below HB3.out (Nat.le_refl _))) (old_le HB3.out.size))).mono ?_;rw [HKD.out.2];rintro e v4 ⟨rfl,hb4⟩;have hb5:Below v2.heap.size v2 v4:=HB3.out.trans (hb4.mono HB3.out.size);have HB4:=Lib.hid hb5;have HS4:=Lib.hid (reg_flat (HQ.out.2.1.keep hb5 HQ.out.1.1) (HQ.out.2.2.keep hb5 HQ.out.1.2));clear hb4 hb5))
         clear s0 s1 s2 s3 s4 s5 s6 s7 s8 s9 s10 s11 s12 s13 s14
         have a0:=Ha0.out
         have HMx:=Lib.hid (HMw.out.next HB4.out)
         go_wp2_with (first
          |(with_reducible refine wpList_build0 rfl 45 rfl zeroS (zeroS_build _) ?_)
          |(with_reducible refine wpList_store_agg rfl 45 _ _ rfl (w.heap.size + 1) 0 zeroS rfl rfl 45 zeroS HMx.out.row.inv.res.at' (by kernel_rfl) (by decide) zeroS_one ?_))
         obtain ⟨ho,hbo⟩:=HMx.out.row.inv.out zeroS zeroS_len
         have hres:resolveD n = (0,settingD0,14):=HK.out (HP.out.2.2.1.trans (step_bad HE3.out.1 HE3.out.2 (fun h=>by have:=HKD.out.2.symm.trans h.2;simp at this)))
         refine bodyPost_ret (results_tct rfl _ _ (w.heap.size + 1) 45 _ (0,0) _ (.int .i64 0) (.int .i64 14) rfl rfl rfl ho Tryd.underlying45 rfl (by kernel_rfl)) rfl ?_
         rw [hres]
         exact ⟨_,rfl,zeroS_rep _ _,hbo⟩
       ·have hne:a.kind ≠ kindD (x.letter.toNat:Int):=by rw [HKD.out.1];exact ek
        have HNE:=Lib.hid hne
        clear hne
        have ekb:(a.kind == kd) = false:=by simpa using ek
        rename_i K4 K3 a4 K2 Q1 a3 Q0 a2 K1 a1 K0 a0
        have Ha0:=Lib.hid a0
        have Ha1:=Lib.hid a1
        have Ha2:=Lib.hid a2
        have Ha3:=Lib.hid a3
        have Ha4:=Lib.hid a4
        clear a0 a1 a2 a3 a4
        have HS2:=Lib.hid (reg_flat HQ.out.2.1 HQ.out.2.2)
        refine wp_region_held_drew (S:=fun w'=>At w' wr.heap.size 0 [.string x.name,.int .u8 (x.letter.toNat:Int),.bool x.must]∧w'.cell? ⟨v1.heap.size,1,none⟩ = some (.int .i64 a.kind)) (by kernel_rfl) ⟨HQ.out.2.1,s4⟩ (fun hHeld=>?_)
        refine wpAnyH_take (i:=0) (v:=.pointer (some ⟨v1.heap.size,1,none⟩)) rfl (by kernel_rfl) (by kernel_rfl) (by kernel_rfl) (fun c a w h=>h) (Or.inl ⟨by kernel_rfl,fun w _=>by kernel_rfl⟩) hHeld ?_
        refine wpAnyH_take (i:=1) (v:=.int .i64 a.kind) rfl (by kernel_rfl) (by kernel_rfl) (by kernel_rfl) (fun c a w h=>h) (yields_load_int (by kernel_rfl) 3 _ rfl v1.heap.size 1 (by kernel_rfl) _ Tryd.underlying3 (fun _ h=>h.2)) hHeld ?_
        refine wpAnyH_take (i:=2) (v:=.agg #[.string x.name,.int .u8 (x.letter.toNat:Int),.bool x.must]) rfl (by kernel_rfl) (by kernel_rfl) (by kernel_rfl) (fun c a w h=>h) (yields_load_agg (by kernel_rfl) 84 _ rfl _ wr.heap.size 0 (by kernel_rfl) [.string x.name,.int .u8 (x.letter.toNat:Int),.bool x.must] Tryd.underlying84 rfl (by kernel_rfl) (fun _ h=>h.1)) hHeld ?_
        refine anyH_kind 3 rfl (by kernel_rfl) (by kernel_rfl) _ _ rfl (.agg #[.string x.name,.int .u8 (x.letter.toNat:Int),.bool x.must]) (by kernel_rfl) ?_
        refine (kind_any x.name (x.letter.toNat:Int) x.must _).mono ?_
        rw [HKD.out.1]
        rintro e v3 ⟨rfl,hv3⟩
        have hb3:Below v2.heap.size v2 v3:=by rw [← hv3];exact ((Below.refl _ _).drew).alloc (Nat.le_refl _) _
        have HB3:=Lib.hid hb3
        have hHeld3:At v3 wr.heap.size 0 [.string x.name,.int .u8 (x.letter.toNat:Int),.bool x.must]∧v3.cell? ⟨v1.heap.size,1,none⟩ = some (.int .i64 a.kind):=⟨HQ.out.2.1.keep hb3 HQ.out.1.1,(hb3.cell (p:=⟨v1.heap.size,1,none⟩) HQ.out.1.2).trans s4⟩
        clear hv3 hb3
        refine ⟨_,rfl,hHeld3,?_⟩
        refine wpAnyH_take (i:=4) (v:=.bool true) rfl (by kernel_rfl) (by kernel_rfl) (by kernel_rfl) (fun c a w h=>h) (yields_neq (by kernel_rfl) _ _ _ _ rfl a.kind kd (by kernel_rfl) (by kernel_rfl) Tryd.underlying3 ek) hHeld3 ?_
        refine wpAnyH_take (i:=5) (v:=.bool true) rfl (by kernel_rfl) (by kernel_rfl) (by kernel_rfl) (fun c a w h=>h) (Or.inl ⟨by kernel_rfl,fun w _=>by kernel_rfl⟩) hHeld3 ?_
        refine wpAnyH_take (i:=6) (v:=undef) rfl (by kernel_rfl) (by kernel_rfl) (by kernel_rfl) (fun c a w h=>h) (Or.inr ⟨by kernel_rfl,rfl⟩) hHeld3 ?_
        refine wpAnyH_take (i:=7) (v:=undef) rfl (by kernel_rfl) (by kernel_rfl) (by kernel_rfl) (fun c a w h=>h) (Or.inr ⟨by kernel_rfl,rfl⟩) hHeld3 ?_
        refine wpAnyH_take (i:=8) (v:=undef) rfl (by kernel_rfl) (by kernel_rfl) (by kernel_rfl) (fun c a w h=>h) (Or.inr ⟨by kernel_rfl,rfl⟩) hHeld3 ?_
        refine wpAnyH_take (i:=9) (v:=undef) rfl (by kernel_rfl) (by kernel_rfl) (by kernel_rfl) (fun c a w h=>h) (Or.inr ⟨by kernel_rfl,rfl⟩) hHeld3 ?_
        refine wpAnyH_take (i:=10) (v:=undef) rfl (by kernel_rfl) (by kernel_rfl) (by kernel_rfl) (fun c a w h=>h) (Or.inr ⟨by kernel_rfl,rfl⟩) hHeld3 ?_
        refine wpAnyH_take (i:=11) (v:=.bool true) rfl (by kernel_rfl) (by kernel_rfl) (by kernel_rfl) (fun c a w h=>h) (Or.inl ⟨by kernel_rfl,fun w _=>by kernel_rfl⟩) hHeld3 ?_
        refine wpAnyH_done (by kernel_rfl) ?_ _
        clear s0 s1 s2 s3 s4 s5 s6 s7 s8 s9 s10 s11 s12 s13 s14
        have HMx:=Lib.hid (HMw.out.next HB3.out)
        change K0 _ _
        refine Ha0.out _ _ (wp_cond_true (by kernel_rfl) ?_)
        go_wp2_with (first
         |(with_reducible refine wpList_build0 rfl 45 rfl zeroS (zeroS_build _) ?_)
         |(with_reducible refine wpList_store_agg rfl 45 _ _ rfl (w.heap.size + 1) 0 zeroS rfl rfl 45 zeroS HMx.out.row.inv.res.at' (by kernel_rfl) (by decide) zeroS_one ?_))
        obtain ⟨ho,hbo⟩:=HMx.out.row.inv.out zeroS zeroS_len
        have hres:resolveD n = (0,settingD0,14):=HK.out (HP.out.2.2.1.trans (step_bad HE3.out.1 HE3.out.2 (fun h=>HNE.out h.1)))
        refine bodyPost_ret (results_tct rfl _ _ (w.heap.size + 1) 45 _ (0,0) _ (.int .i64 0) (.int .i64 14) rfl rfl rfl ho Tryd.underlying45 rfl (by kernel_rfl)) rfl ?_
        rw [hres]
        exact ⟨_,rfl,zeroS_rep _ _,hbo⟩
    | nil =>
     obtain ⟨hge,hpl⟩:=split_end hpp
     subst hpl
     clear hpp hge
     have hst':stepD op n.attrs (sortsD (findD op)) (leftD op) 0 = some (s,k):=by rw [HE.out];exact hst
     have hcc:countsD (findD op) n = true:=by rw [HE.out];exact HR2.out.2.2.1
     have hauto:=HLq.out.dat.f24.int
     have c4:wr.cell? ⟨w.heap.size,4,none⟩ = some (.slice A3 n.attrs.length k3):=cell_of_row _ _ _ _ _ _ HMq.out.row.inv.node
     have c24:wr.cell? ⟨w6.heap.size,24,none⟩ = some (.int .i64 s.auto):=by rw [cell_of_row _ _ _ _ _ _ HLq.out.sets.at',List.getElem?_toArray];exact hauto.1
     have hlk:=(HMq.out.cnt.lookup sPads (by decide)).1
     unfold sPads at hlk
     have hnp:countD n.attrs ⟨#[112,97,100,115]⟩ ≤ n.attrs.length:=count_le _ _
     have hgood:¬ (k ≠ n.attrs.length ∨ op = 61∧k ≠ 1 ∨ s.auto ≠ 0∧0 < countD n.attrs sPads)→resolveD n = (op,s,0):=resolve_good HR2.out.1 h0 hcc hst'
     have hbad:(k ≠ n.attrs.length ∨ op = 61∧k ≠ 1 ∨ s.auto ≠ 0∧0 < countD n.attrs sPads)→resolveD n = (0,settingD0,14):=resolve_bad HR2.out.1 h0 hcc hst'
     have HG:=Lib.hid hgood
     have HB:=Lib.hid hbad
     have hkl:k ≤ 1000:=by omega
     have HN:=Lib.hid hnp
     clear hst hst' hcc hauto hgood hbad
     rename_i K4 K3 a4
     have HA4:=Lib.hid a4
     clear a4
     by_cases b1:(k:Int) = (n.attrs.length:Int)
     ·obtain rfl:k = n.attrs.length:=by omega
      clear b1
      by_cases b2:op = 61
      ·subst b2
       by_cases b3:(n.attrs.length:Int) = 1
       ·have HB3:=Lib.hid b3
        by_cases b4:s.auto = 0
        ·rw [b4] at c24
         have HB4:=Lib.hid b4
         clear b4
         have hg:resolveD n = (61,s,0):=by
          refine HG.out fun h=>?_
          rcases h with h | ⟨h,h'⟩ | ⟨h,h'⟩
          ·exact h rfl
          ·have:=HB3.out;omega
          ·exact h HB4.out
         have HGG:=Lib.hid hg
         clear hg
         have a4:=HA4.out
         go_wp2_with fail
         have hne6:w6.heap.size ≠ w.heap.size + 1:=by have:=H47.out.1;have:=HMq.out.row.ge;have:=HMq.out.lt1;omega
         refine wp_region_held_drew (S:=fun w'=>At w' w6.heap.size 0 ss) (by kernel_rfl) (At.of_row HLq.out.sets.at') (fun hHeld=>?_)
         refine wpAnyH_take (i:=0) (v:=.int .i64 61) rfl (by kernel_rfl) (by kernel_rfl) (by kernel_rfl) (fun c a w h=>panic_free c _ _ w rfl h) (Or.inl ⟨by kernel_rfl,fun w _=>by kernel_rfl⟩) hHeld ?_
         refine wpAnyH_take (i:=1) (v:=.agg ss.toArray) rfl (by kernel_rfl) (by kernel_rfl) (by kernel_rfl) (fun c a w h=>panic_free c _ _ w rfl h) (yields_load_agg (by kernel_rfl) 45 _ rfl _ w6.heap.size 0 (by kernel_rfl) ss Tryd.underlying45 rfl (by rw [HLq.out.sets.len];kernel_rfl) (fun _ h=>h)) hHeld ?_
         refine wpAnyH_take (i:=2) (v:=.int .i64 61) rfl (by kernel_rfl) (by kernel_rfl) (by kernel_rfl) (fun c a w h=>panic_free c _ _ w rfl h) (Or.inl ⟨by kernel_rfl,fun w _=>by kernel_rfl⟩) hHeld ?_
         refine anyH_store_agg 3 rfl (by kernel_rfl) (by kernel_rfl) 45 _ _ rfl (w.heap.size + 1) 0 ss (by kernel_rfl) (by kernel_rfl) 45 zeroS HMq.out.row.inv.res.at' (by rw [HLq.out.sets.len];kernel_rfl) (by rw [HLq.out.sets.len,zeroS_len];omega) ((inferInstance:Rep SettingD).one HLq.out.dat) (At.setRow_other hHeld hne6 _) ?_
         refine wpAnyH_take (i:=4) (v:=.int .i64 0) rfl (by kernel_rfl) (by kernel_rfl) (by kernel_rfl) (fun c a w h=>panic_free c _ _ w rfl h) (Or.inl ⟨by kernel_rfl,fun w _=>by kernel_rfl⟩) (At.setRow_other hHeld hne6 _) ?_
         refine wpAnyH_done (by kernel_rfl) ?_ _
         rename_i KR aR
         change KR _ _
         refine aR _ _ (wp_ret ?_)
         obtain ⟨hout,hbo⟩:=HMq.out.drew.row.inv.out ss HLq.out.sets.len
         refine bodyPost_ret (results_tct rfl _ _ (w.heap.size + 1) 45 _ (0,0) _ (.int .i64 61) (.int .i64 0) (by kernel_rfl) (by kernel_rfl) (by kernel_rfl) hout Tryd.underlying45 rfl (by rw [List.size_toArray,HLq.out.sets.len];kernel_rfl)) rfl ?_
         rw [HGG.out]
         exact ⟨_,rfl,HLq.out.fin (by have:=HMr.out.lt;have:=HMr.out.row.ge;have:=HMr.out.lt1;omega) _,hbo⟩
        ·by_cases b5:(0:Int) < (countD n.attrs ⟨#[112,97,100,115]⟩:Int)
         ·have HB5:=Lib.hid b5
          have HB4:=Lib.hid b4
          have b4b:(s.auto != 0) = true:=by simpa using b4
          have b5n:0 < countD n.attrs ⟨#[112,97,100,115]⟩:=by have:=HB5.out;omega
          have a4:=HA4.out
          go_wp2_with (first
           |(with_reducible refine wpList_build0 rfl 45 rfl zeroS (zeroS_build _) ?_)
           |(with_reducible refine wpList_store_agg rfl 45 _ _ rfl (w.heap.size + 1) 0 zeroS rfl rfl 45 zeroS HMq.out.row.inv.res.at' (by kernel_rfl) (by decide) zeroS_one ?_))
          obtain ⟨ho,hbo⟩:=HMq.out.row.inv.out zeroS zeroS_len
          have hres:resolveD n = (0,settingD0,14):=HB.out (.inr (.inr ⟨HB4.out,by unfold sPads;have:=HB5.out;omega⟩))
          refine bodyPost_ret (results_tct rfl _ _ (w.heap.size + 1) 45 _ (0,0) _ (.int .i64 0) (.int .i64 14) rfl rfl rfl ho Tryd.underlying45 rfl (by kernel_rfl)) rfl ?_
          rw [hres]
          exact ⟨_,rfl,zeroS_rep _ _,hbo⟩
         ·have HB5:=Lib.hid b5
          have hg:resolveD n = (61,s,0):=by
           refine HG.out fun h=>?_
           rcases h with h | ⟨h,h'⟩ | ⟨h,h'⟩
           ·exact h rfl
           ·have:=HB3.out;omega
           ·(unfold sPads at h';have:=HB5.out;omega)
          have HGG:=Lib.hid hg
          clear hg
          have a4:=HA4.out
          go_wp2_with fail
          have hne6:w6.heap.size ≠ w.heap.size + 1:=by have:=H47.out.1;have:=HMq.out.row.ge;have:=HMq.out.lt1;omega
          refine wp_region_held_drew (S:=fun w'=>At w' w6.heap.size 0 ss) (by kernel_rfl) (At.of_row HLq.out.sets.at') (fun hHeld=>?_)
          refine wpAnyH_take (i:=0) (v:=.int .i64 61) rfl (by kernel_rfl) (by kernel_rfl) (by kernel_rfl) (fun c a w h=>panic_free c _ _ w rfl h) (Or.inl ⟨by kernel_rfl,fun w _=>by kernel_rfl⟩) hHeld ?_
          refine wpAnyH_take (i:=1) (v:=.agg ss.toArray) rfl (by kernel_rfl) (by kernel_rfl) (by kernel_rfl) (fun c a w h=>panic_free c _ _ w rfl h) (yields_load_agg (by kernel_rfl) 45 _ rfl _ w6.heap.size 0 (by kernel_rfl) ss Tryd.underlying45 rfl (by rw [HLq.out.sets.len];kernel_rfl) (fun _ h=>h)) hHeld ?_
          refine wpAnyH_take (i:=2) (v:=.int .i64 61) rfl (by kernel_rfl) (by kernel_rfl) (by kernel_rfl) (fun c a w h=>panic_free c _ _ w rfl h) (Or.inl ⟨by kernel_rfl,fun w _=>by kernel_rfl⟩) hHeld ?_
          refine anyH_store_agg 3 rfl (by kernel_rfl) (by kernel_rfl) 45 _ _ rfl (w.heap.size + 1) 0 ss (by kernel_rfl) (by kernel_rfl) 45 zeroS HMq.out.row.inv.res.at' (by rw [HLq.out.sets.len];kernel_rfl) (by rw [HLq.out.sets.len,zeroS_len];omega) ((inferInstance:Rep SettingD).one HLq.out.dat) (At.setRow_other hHeld hne6 _) ?_
          refine wpAnyH_take (i:=4) (v:=.int .i64 0) rfl (by kernel_rfl) (by kernel_rfl) (by kernel_rfl) (fun c a w h=>panic_free c _ _ w rfl h) (Or.inl ⟨by kernel_rfl,fun w _=>by kernel_rfl⟩) (At.setRow_other hHeld hne6 _) ?_
          refine wpAnyH_done (by kernel_rfl) ?_ _
          rename_i KR aR
          change KR _ _
          refine aR _ _ (wp_ret ?_)
          obtain ⟨hout,hbo⟩:=HMq.out.drew.row.inv.out ss HLq.out.sets.len
          refine bodyPost_ret (results_tct rfl _ _ (w.heap.size + 1) 45 _ (0,0) _ (.int .i64 61) (.int .i64 0) (by kernel_rfl) (by kernel_rfl) (by kernel_rfl) hout Tryd.underlying45 rfl (by rw [List.size_toArray,HLq.out.sets.len];kernel_rfl)) rfl ?_
          rw [HGG.out]
          exact ⟨_,rfl,HLq.out.fin (by have:=HMr.out.lt;have:=HMr.out.row.ge;have:=HMr.out.lt1;omega) _,hbo⟩
       ·have HB3:=Lib.hid b3
        have a4:=HA4.out
        go_wp2_with (first
         |(with_reducible refine wpList_build0 rfl 45 rfl zeroS (zeroS_build _) ?_)
         |(with_reducible refine wpList_store_agg rfl 45 _ _ rfl (w.heap.size + 1) 0 zeroS rfl rfl 45 zeroS HMq.out.row.inv.res.at' (by kernel_rfl) (by decide) zeroS_one ?_))
        obtain ⟨ho,hbo⟩:=HMq.out.row.inv.out zeroS zeroS_len
        have hres:resolveD n = (0,settingD0,14):=HB.out (.inr (.inl ⟨by simp,fun e=>by have:=HB3.out;omega⟩))
        refine bodyPost_ret (results_tct rfl _ _ (w.heap.size + 1) 45 _ (0,0) _ (.int .i64 0) (.int .i64 14) rfl rfl rfl ho Tryd.underlying45 rfl (by kernel_rfl)) rfl ?_
        rw [hres]
        exact ⟨_,rfl,zeroS_rep _ _,hbo⟩
      ·have HB2:=Lib.hid b2
       by_cases b4:s.auto = 0
       ·rw [b4] at c24
        have HB4:=Lib.hid b4
        clear b4
        have hg:resolveD n = (op,s,0):=by
         refine HG.out fun h=>?_
         rcases h with h | ⟨h,h'⟩ | ⟨h,h'⟩
         ·exact h rfl
         ·exact HB2.out h
         ·exact h HB4.out
        have HGG:=Lib.hid hg
        clear hg
        have a4:=HA4.out
        go_wp2_with fail
        have hne6:w6.heap.size ≠ w.heap.size + 1:=by have:=H47.out.1;have:=HMq.out.row.ge;have:=HMq.out.lt1;omega
        refine wp_region_held_drew (S:=fun w'=>At w' w6.heap.size 0 ss) (by kernel_rfl) (At.of_row HLq.out.sets.at') (fun hHeld=>?_)
        refine wpAnyH_take (i:=0) (v:=.int .i64 op) rfl (by kernel_rfl) (by kernel_rfl) (by kernel_rfl) (fun c a w h=>panic_free c _ _ w rfl h) (Or.inl ⟨by kernel_rfl,fun w _=>by kernel_rfl⟩) hHeld ?_
        refine wpAnyH_take (i:=1) (v:=.agg ss.toArray) rfl (by kernel_rfl) (by kernel_rfl) (by kernel_rfl) (fun c a w h=>panic_free c _ _ w rfl h) (yields_load_agg (by kernel_rfl) 45 _ rfl _ w6.heap.size 0 (by kernel_rfl) ss Tryd.underlying45 rfl (by rw [HLq.out.sets.len];kernel_rfl) (fun _ h=>h)) hHeld ?_
        refine wpAnyH_take (i:=2) (v:=.int .i64 op) rfl (by kernel_rfl) (by kernel_rfl) (by kernel_rfl) (fun c a w h=>panic_free c _ _ w rfl h) (Or.inl ⟨by kernel_rfl,fun w _=>by kernel_rfl⟩) hHeld ?_
        refine anyH_store_agg 3 rfl (by kernel_rfl) (by kernel_rfl) 45 _ _ rfl (w.heap.size + 1) 0 ss (by kernel_rfl) (by kernel_rfl) 45 zeroS HMq.out.row.inv.res.at' (by rw [HLq.out.sets.len];kernel_rfl) (by rw [HLq.out.sets.len,zeroS_len];omega) ((inferInstance:Rep SettingD).one HLq.out.dat) (At.setRow_other hHeld hne6 _) ?_
        refine wpAnyH_take (i:=4) (v:=.int .i64 0) rfl (by kernel_rfl) (by kernel_rfl) (by kernel_rfl) (fun c a w h=>panic_free c _ _ w rfl h) (Or.inl ⟨by kernel_rfl,fun w _=>by kernel_rfl⟩) (At.setRow_other hHeld hne6 _) ?_
        refine wpAnyH_done (by kernel_rfl) ?_ _
        rename_i KR aR
        change KR _ _
        refine aR _ _ (wp_ret ?_)
        obtain ⟨hout,hbo⟩:=HMq.out.drew.row.inv.out ss HLq.out.sets.len
        refine bodyPost_ret (results_tct rfl _ _ (w.heap.size + 1) 45 _ (0,0) _ (.int .i64 op) (.int .i64 0) (by kernel_rfl) (by kernel_rfl) (by kernel_rfl) hout Tryd.underlying45 rfl (by rw [List.size_toArray,HLq.out.sets.len];kernel_rfl)) rfl ?_
        rw [HGG.out]
        exact ⟨_,rfl,HLq.out.fin (by have:=HMr.out.lt;have:=HMr.out.row.ge;have:=HMr.out.lt1;omega) _,hbo⟩
       ·by_cases b5:(0:Int) < (countD n.attrs ⟨#[112,97,100,115]⟩:Int)
        ·have HB5:=Lib.hid b5
         have HB4:=Lib.hid b4
         have b4b:(s.auto != 0) = true:=by simpa using b4
         have b5n:0 < countD n.attrs ⟨#[112,97,100,115]⟩:=by have:=HB5.out;omega
         have a4:=HA4.out
         go_wp2_with (first
          |(with_reducible refine wpList_build0 rfl 45 rfl zeroS (zeroS_build _) ?_)
          |(with_reducible refine wpList_store_agg rfl 45 _ _ rfl (w.heap.size + 1) 0 zeroS rfl rfl 45 zeroS HMq.out.row.inv.res.at' (by kernel_rfl) (by decide) zeroS_one ?_))
         obtain ⟨ho,hbo⟩:=HMq.out.row.inv.out zeroS zeroS_len
         have hres:resolveD n = (0,settingD0,14):=HB.out (.inr (.inr ⟨HB4.out,by unfold sPads;have:=HB5.out;omega⟩))
         refine bodyPost_ret (results_tct rfl _ _ (w.heap.size + 1) 45 _ (0,0) _ (.int .i64 0) (.int .i64 14) rfl rfl rfl ho Tryd.underlying45 rfl (by kernel_rfl)) rfl ?_
         rw [hres]
         exact ⟨_,rfl,zeroS_rep _ _,hbo⟩
        ·have HB5:=Lib.hid b5
         have hg:resolveD n = (op,s,0):=by
          refine HG.out fun h=>?_
          rcases h with h | ⟨h,h'⟩ | ⟨h,h'⟩
          ·exact h rfl
          ·exact HB2.out h
          ·(unfold sPads at h';have:=HB5.out;omega)
         have HGG:=Lib.hid hg
         clear hg
         have a4:=HA4.out
         go_wp2_with fail
         have hne6:w6.heap.size ≠ w.heap.size + 1:=by have:=H47.out.1;have:=HMq.out.row.ge;have:=HMq.out.lt1;omega
         refine wp_region_held_drew (S:=fun w'=>At w' w6.heap.size 0 ss) (by kernel_rfl) (At.of_row HLq.out.sets.at') (fun hHeld=>?_)
         refine wpAnyH_take (i:=0) (v:=.int .i64 op) rfl (by kernel_rfl) (by kernel_rfl) (by kernel_rfl) (fun c a w h=>panic_free c _ _ w rfl h) (Or.inl ⟨by kernel_rfl,fun w _=>by kernel_rfl⟩) hHeld ?_
         refine wpAnyH_take (i:=1) (v:=.agg ss.toArray) rfl (by kernel_rfl) (by kernel_rfl) (by kernel_rfl) (fun c a w h=>panic_free c _ _ w rfl h) (yields_load_agg (by kernel_rfl) 45 _ rfl _ w6.heap.size 0 (by kernel_rfl) ss Tryd.underlying45 rfl (by rw [HLq.out.sets.len];kernel_rfl) (fun _ h=>h)) hHeld ?_
         refine wpAnyH_take (i:=2) (v:=.int .i64 op) rfl (by kernel_rfl) (by kernel_rfl) (by kernel_rfl) (fun c a w h=>panic_free c _ _ w rfl h) (Or.inl ⟨by kernel_rfl,fun w _=>by kernel_rfl⟩) hHeld ?_
         refine anyH_store_agg 3 rfl (by kernel_rfl) (by kernel_rfl) 45 _ _ rfl (w.heap.size + 1) 0 ss (by kernel_rfl) (by kernel_rfl) 45 zeroS HMq.out.row.inv.res.at' (by rw [HLq.out.sets.len];kernel_rfl) (by rw [HLq.out.sets.len,zeroS_len];omega) ((inferInstance:Rep SettingD).one HLq.out.dat) (At.setRow_other hHeld hne6 _) ?_
         refine wpAnyH_take (i:=4) (v:=.int .i64 0) rfl (by kernel_rfl) (by kernel_rfl) (by kernel_rfl) (fun c a w h=>panic_free c _ _ w rfl h) (Or.inl ⟨by kernel_rfl,fun w _=>by kernel_rfl⟩) (At.setRow_other hHeld hne6 _) ?_
         refine wpAnyH_done (by kernel_rfl) ?_ _
         rename_i KR aR
         change KR _ _
         refine aR _ _ (wp_ret ?_)
         obtain ⟨hout,hbo⟩:=HMq.out.drew.row.inv.out ss HLq.out.sets.len
         refine bodyPost_ret (results_tct rfl _ _ (w.heap.size + 1) 45 _ (0,0) _ (.int .i64 op) (.int .i64 0) (by kernel_rfl) (by kernel_rfl) (by kernel_rfl) hout Tryd.underlying45 rfl (by rw [List.size_toArray,HLq.out.sets.len];kernel_rfl)) rfl ?_
         rw [HGG.out]
         exact ⟨_,rfl,HLq.out.fin (by have:=HMr.out.lt;have:=HMr.out.row.ge;have:=HMr.out.lt1;omega) _,hbo⟩
     ·have HB1:=Lib.hid b1
      have a4:=HA4.out
      go_wp2_with (first
       |(with_reducible refine wpList_build0 rfl 45 rfl zeroS (zeroS_build _) ?_)
       |(with_reducible refine wpList_store_agg rfl 45 _ _ rfl (w.heap.size + 1) 0 zeroS rfl rfl 45 zeroS HMq.out.row.inv.res.at' (by kernel_rfl) (by decide) zeroS_one ?_))
      obtain ⟨ho,hbo⟩:=HMq.out.row.inv.out zeroS zeroS_len
      have hres:resolveD n = (0,settingD0,14):=HB.out (.inl (fun e=>by have:=HB1.out;omega))
      refine bodyPost_ret (results_tct rfl _ _ (w.heap.size + 1) 45 _ (0,0) _ (.int .i64 0) (.int .i64 14) rfl rfl rfl ho Tryd.underlying45 rfl (by kernel_rfl)) rfl ?_
      rw [hres]
      exact ⟨_,rfl,zeroS_rep _ _,hbo⟩
end Go.Proofs.YtgbkhcmbmffljaaDoor
