/-
  graph.Check of any graph: what it takes is sound.
-/
import Derived.Test.YtoeaglpmkjoenaaGreatQSrtP
set_option linter.unusedSimpArgs false
set_option linter.unusedVariables false
namespace Go.Proofs.YtoeaglpmkjoenaaGreat
open Go.RowKit
open Rep (rep)
set_option maxRecDepth 100000 in
theorem ChkI.placesG {w W:World} {cs:List Value} (h:ChkI w cs W) {N c:Nat} {A:Option Addr} (h0:cs.toArray[0]? = some (.slice A N c)) {v:Value} {l:List Int} (hr:rep w (old w.heap.size) [v] l) :
  Calls Tryz.prog 12 #[v,outF w.heap.size] W fun e W'=>e = .returned (.bool (l.any (isOut N)))∧ChkI w cs W'∧Below W.heap.size W W' :=
 (containsInts_any l v 64 ⟨w.heap.size,0,none⟩ (isOut N) (fun V=>Below W.heap.size W V) W (fun _ _=>rfl) (h.keep hr) (Below.refl _ _) (fun _ h=>h) fun x hx _ V hV =>
  (chk1_any x w.heap.size N c A V ((h.next hV).cell h0)).mono (by rintro e w' ⟨rfl,rfl⟩;exact ⟨rfl,hV⟩)).mono (by rintro e w' ⟨rfl,hb⟩;exact ⟨rfl,h.next hb,hb⟩)
set_option maxRecDepth 100000 in
theorem ChkI.usesG {w W:World} {cs:List Value} (h:ChkI w cs W) {N c:Nat} {A:Option Addr} (h0:cs.toArray[0]? = some (.slice A N c)) {v:Value} {l:List Int} (hr:rep w (old w.heap.size) [v] l) :
  Calls Tryz.prog 12 #[v,.func (.func 65) #[] #[.pointer (some ⟨w.heap.size + 1,0,none⟩)]] W fun e W'=>e = .returned (.bool (l.any (isOut1 N)))∧ChkI w cs W'∧Below W.heap.size W W' :=
 (containsInts_any l v 65 ⟨w.heap.size + 1,0,none⟩ (isOut1 N) (fun V=>Below W.heap.size W V) W (fun _ _=>rfl) (h.keep hr) (Below.refl _ _) (fun _ h=>h) fun x hx _ V hV =>
  (chk2_any x (w.heap.size + 1) w.heap.size N c A V ((h.next hV).cell h0) (h.next hV).out).mono (by rintro e w' ⟨rfl,hb⟩;exact ⟨rfl,hV.trans (hb.mono hV.size)⟩)).mono (by rintro e w' ⟨rfl,hb⟩;exact ⟨rfl,h.next hb,hb⟩)
theorem in_of_out {N:Nat} {l:List Int} (h:l.any (isOut N) = false):∀ k ∈ l,0 ≤ k∧k < N:=fun k hk=>by
 have:=List.any_eq_false.1 h k hk
 simp [isOut] at this
 omega
theorem in_of_out1 {N:Nat} {l:List Int} (h:l.any (isOut1 N) = false):∀ k ∈ l,-1 ≤ k∧k < N:=fun k hk=>by
 have:=List.any_eq_false.1 h k hk
 simp [isOut1,isOut] at this
 omega
def PlacedN (N:Nat) (n:GNodeD):Prop:=(∀ k ∈ n.outs,0 ≤ k∧k < N)∧∀ k ∈ n.ins,-1 ≤ k∧k < N
theorem const_le (a:GraphD) (j:Nat):(a.vals.map constN).getD j 0 ≤ 1:=by
 rw [List.getD_eq_getElem?_getD,List.getElem?_map]
 cases a.vals[j]? with
 | none=>simp
 | some v=>simp only [Option.map_some,Option.getD_some];unfold constN;split <;> omega
theorem count_bd (a:GraphD) {l r:List Int} (hl:defsD a = l++r) (hd:(defsD a).length ≤ 1048576) (j:Nat):(a.vals.map constN).getD j 0 + l.count (j:Int) ≤ 1048577:=by
 have h1:=const_le a j
 have h2:l.count (j:Int) ≤ l.length:=List.count_le_length
 have h3:l.length ≤ (defsD a).length:=by rw [hl,List.length_append];omega
 omega
theorem times_bdG (a:GraphD) (hd:(defsD a).length ≤ 1048576):∀ x ∈ timesG a (defsD a),I64 x:=by
 intro x hx
 obtain ⟨k,hk,rfl⟩:=List.mem_map.1 hx
 have:=count_bd a (List.append_nil (defsD a)).symm hd k
 unfold I64
 omega
theorem once_of (a:GraphD) (h:(timesG a (defsD a)).any (fun x=>decide (x > 1)) = false):∀ k < a.vals.length,(a.vals.map constN).getD k 0 + (defsD a).count (k:Int) ≤ 1:=fun k hk=>by
 have:=List.any_eq_false.1 h _ (List.mem_map.2 ⟨k,List.mem_range.2 hk,rfl⟩)
 rw [decide_eq_true_eq] at this
 omega
theorem no_out {N:Nat} {l:List Int} (h:l.any (isOut N) = true) (hl:∀ k ∈ l,0 ≤ k∧k < N):False:=by
 obtain ⟨k,hk,ho⟩:=List.any_eq_true.1 h
 have:=hl k hk
 simp [isOut] at ho
 omega
theorem no_out1 {N:Nat} {l:List Int} (h:l.any (isOut1 N) = true) (hl:∀ k ∈ l,-1 ≤ k∧k < N):False:=by
 obtain ⟨k,hk,ho⟩:=List.any_eq_true.1 h
 have:=hl k hk
 simp [isOut1,isOut] at ho
 omega
theorem no_twice {a:GraphD} (h:(timesG a (defsD a)).any (fun x=>decide (x > 1)) = true) (hs:SoundD a):False:=by
 obtain ⟨x,hx,ho⟩:=List.any_eq_true.1 h
 obtain ⟨k,hk,rfl⟩:=List.mem_map.1 hx
 have:=hs.once k (List.mem_range.1 hk)
 rw [decide_eq_true_eq] at ho
 omega
def ChkPostX (a:GraphD) (w:World) (e:Ending) (w':World):Prop:=∃ x:Int,e = .returned (.int .i64 x)∧Below w.heap.size w w'∧(x = 0→SoundD a)∧0 ≤ x∧x ≤ 100∧(SoundD a→x = 0)
theorem chk_bad {a:GraphD} {w W:World} (x:Int) (hx:x ≠ 0) (h0:0 ≤ x) (h1:x ≤ 100) (hb:Below w.heap.size w W) (hn:¬ SoundD a):ChkPostX a w (.returned (.int .i64 x)) W:=⟨x,rfl,hb,fun h=>absurd h hx,h0,h1,fun h=>absurd h hn⟩
set_option maxRecDepth 100000 in
set_option maxHeartbeats 8000000 in
theorem check_allX (cs:List Value) (a:GraphD) (w:World) (hr:rep w (old w.heap.size) cs a) (hs:a.vals.length ≤ 1048576) (hd:(defsD a).length ≤ 1048576) :
  Calls Tryz.prog 46 #[.agg cs.toArray] w (ChkPostX a w):=by
 obtain ⟨A1,k1,A2,k2,A3,k3,A4,k4,rfl,r1,r2,r3,r4⟩:=open_GraphD hr
 obtain ⟨n1,n1'⟩:=slice_bnd r1
 obtain ⟨n2,n2'⟩:=slice_bnd r2
 obtain ⟨n3,n3'⟩:=slice_bnd r3
 have HG:=Lib.hid hr
 have HR:=Lib.hid (And.intro r1 (And.intro r2 (And.intro r3 r4)))
 have HDL:=Lib.hid hd
 clear hr r1 r2 r3 r4 hd
 go_enter Tryz.func46,Tryz.ntmps46
 go_wp2_with (with_reducible refine wpList_box_row rfl 26 _ rfl [.slice A1 a.vals.length k1,.slice A2 a.nodes.length k2,.slice A3 a.inputs.length k3,.slice A4 a.outputs.length k4] rfl ?_;have hX:=box_start w 26 [.slice A1 a.vals.length k1,.slice A2 a.nodes.length k2,.slice A3 a.inputs.length k3,.slice A4 a.outputs.length k4];have hZ:=World.size_alloc w (.cells ([.slice A1 a.vals.length k1,.slice A2 a.nodes.length k2,.slice A3 a.inputs.length k3,.slice A4 a.outputs.length k4]:List Value).toArray 26);generalize World.alloc _ _ = W0 at hX hZ ⊢;have HX:=Lib.hid hX;clear hX;refine halt ?_)
 unfold Halt
 have hN:=heap_alloc_new W0 (.cells #[.nilFunc] 54)
 rw [hZ] at hN
 have HN:=Lib.hid hN
 clear hN
 go_wp2_with (with_reducible refine wpList_store_field rfl 54 _ _ rfl (w.heap.size + 1) 0 (outF w.heap.size) rfl rfl rfl (by kernel_rfl) 54 [.nilFunc] HN.out (by decide) ?_;refine halt ?_)
 unfold Halt
 have hI:ChkI w [.slice A1 a.vals.length k1,.slice A2 a.nodes.length k2,.slice A3 a.inputs.length k3,.slice A4 a.outputs.length k4] ((W0.alloc (.cells #[.nilFunc] 54)).setRow (w.heap.size + 1) #[outF w.heap.size]):=by
  exact ⟨below_setRow' (HX.out.below.alloc HX.out.below.size _) (by omega) _,(heap_setRow_other _ _ _ _ (by omega)).trans ((Below.heap_alloc _ _ _ HX.out.lt).trans HX.out.row),heap_setRow _ _ #[outF w.heap.size] _ _ HN.out⟩
 generalize World.setRow _ _ _ = W1 at hI ⊢
 obtain ⟨cs,hcs⟩:∃ cs:List Value,[.slice A1 a.vals.length k1,.slice A2 a.nodes.length k2,.slice A3 a.inputs.length k3,.slice A4 a.outputs.length k4] = cs:=⟨_,rfl⟩
 rw [hcs] at hI HG
 have HC:Hid (cs.toArray[0]? = some (.slice A1 a.vals.length k1)∧cs.toArray[1]? = some (.slice A2 a.nodes.length k2)∧cs.toArray[2]? = some (.slice A3 a.inputs.length k3)∧cs.toArray[3]? = some (.slice A4 a.outputs.length k4)):=Lib.hid (by rw [← hcs];exact ⟨rfl,rfl,rfl,rfl⟩)
 have HI:=Lib.hid hI
 clear hI HX hcs hZ
 have cf:=HI.out.out
 have c2:=HI.out.cell HC.out.2.2.1
 go_wp2_with fail
 have hh:=HI.out.placesG HC.out.1 HR.out.2.2.1
 obtain ⟨y,hy⟩:∃ y,a.inputs.any (isOut a.vals.length) = y:=⟨_,rfl⟩
 rw [hy] at hh
 have HY1:=Lib.hid hy
 clear hy
 refine hh.mono ?_
 clear hh
 rintro e w1 ⟨rfl,hI,-⟩
 have HI1:=Lib.hid hI
 clear hI c2 cf
 cases y
 case true =>
  go_wp2
  go_ret
  exact chk_bad 2 (by decide) (by decide) (by decide) HI1.out.below (fun h=>no_out HY1.out h.inputs)
 have HIN:=Lib.hid (in_of_out HY1.out)
 have cf:=HI1.out.out
 have c3:=HI1.out.cell HC.out.2.2.2
 go_wp2_with fail
 have hh:=HI1.out.placesG HC.out.1 HR.out.2.2.2
 obtain ⟨y,hy⟩:∃ y,a.outputs.any (isOut a.vals.length) = y:=⟨_,rfl⟩
 rw [hy] at hh
 have HY2:=Lib.hid hy
 clear hy
 refine hh.mono ?_
 clear hh
 rintro e w2 ⟨rfl,hI,-⟩
 have HI2:=Lib.hid hI
 clear hI c3 cf HI1 HI
 cases y
 case true =>
  go_wp2
  go_ret
  exact chk_bad 2 (by decide) (by decide) (by decide) HI2.out.below (fun h=>no_out HY2.out h.outputs)
 have HOUT:=Lib.hid (in_of_out HY2.out)
 have c1:=HI2.out.cell HC.out.2.1
 go_wp2_with fail
 clear c1
 obtain ⟨B',d',ns,hv,hnc,hcm,-,hl,hch⟩:=open_slice HR.out.2.1
 simp only [Value.slice.injEq,true_and] at hv
 obtain ⟨rfl,rfl⟩:=hv
 have HN2:=Lib.hid (And.intro hl hch)
 clear hl hch
 go_loopw [34] (fun i wr=>∃ (pre post:List GNodeD),a.nodes = pre++post∧i = .int .i64 pre.length∧ChkI w cs wr∧Aside (∀ n ∈ pre,PlacedN a.vals.length n)) (fun i _=>a.nodes.length - (intOf i).toNat)
 case atStart=>exact ⟨[],a.nodes,rfl,rfl,HI2.out,fun n h=>by cases h⟩
 case round =>
  obtain ⟨pre,post,hpp,rfl,hI,hPl⟩:=hrel
  have HIr:=Lib.hid hI
  have HPl:=Lib.hid hPl
  clear hI hPl
  cases post with
  | cons z post =>
   obtain ⟨hz,hlt,hpp',hpl⟩:=split_at hpp
   have hmem:=List.mem_of_getElem? hz
   obtain ⟨b,o,zc,rfl,hbB,hrz,hcell⟩:=elem_at HN2.out.1 HN2.out.2 (by decide) hz
   have hat:At wr b (o + pre.length * 40) zc:=fun j u hu=>by
    have h1:=(hcell j u hu).1
    rw [← Nat.add_assoc] at h1
    exact (HIr.out.below.cell (p:=⟨b,o + pre.length * 40 + j,none⟩) hbB).trans h1
   have HA:=Lib.hid (And.intro hat (node_lay hrz))
   obtain ⟨ss,I1,i1,O1,o1,-,z37,z38,-,-,zi,zo,-⟩:=gnode_facts hrz
   have HZ:=Lib.hid (And.intro z37 (And.intro z38 (And.intro zi (And.intro zo hmem))))
   have hk0:(0:Int) ≤ (pre.length:Int):=Int.natCast_nonneg _
   have hk1:(pre.length:Int) < (a.nodes.length:Int):=by omega
   have H:=Lib.hid (And.intro hpp' hpl)
   clear hpp hpp' hpl hz hcell hbB hrz hat z37 z38 zi zo hmem
   go_wp2_with (first
    |(with_reducible refine wpList_load_agg rfl 50 _ rfl _ _ _ rfl zc Tryz.underlying50 rfl HA.out.2.1 HA.out.1 ?_)
    |(with_reducible refine wpList_alloc_row rfl 50 rfl zeroGN zeroGN_zero ?_)
    |(with_reducible refine wpList_store_agg rfl 50 _ _ rfl _ 0 zc rfl rfl 50 zeroGN (heap_alloc_new _ _) HA.out.2.1 HA.out.2.2.1 HA.out.2.2.2.2 ?_;have hY:=laid_row wr 50 zeroGN zc HA.out.2.2.2.1;generalize World.setRow _ _ _ = v2 at hY ⊢;have HY:=Lib.hid hY;clear hY;refine halt ?_))
   unfold Halt
   have HI3:=Lib.hid (HIr.out.next HY.out.1)
   have c38:v2.cell? ⟨wr.heap.size,38,none⟩ = some (.slice O1 z.outs.length o1):=(cell_of_row _ _ _ _ _ _ HY.out.2.1).trans (by rw [List.getElem?_toArray];exact HZ.out.2.1)
   have cf:=HI3.out.out
   go_wp2_with fail
   have hh:=HI3.out.placesG HC.out.1 HZ.out.2.2.2.1
   obtain ⟨y,hy⟩:∃ y,z.outs.any (isOut a.vals.length) = y:=⟨_,rfl⟩
   rw [hy] at hh
   have HY3:=Lib.hid hy
   clear hy
   refine hh.mono ?_
   clear hh
   rintro e w4 ⟨rfl,hI,hb⟩
   have HI4:=Lib.hid hI
   have c37:w4.cell? ⟨wr.heap.size,37,none⟩ = some (.slice I1 z.ins.length i1):=(hb.cell (p:=⟨wr.heap.size,37,none⟩) (by have:=HY.out.2.2;simp only;omega)).trans ((cell_of_row _ _ _ _ _ _ HY.out.2.1).trans (by rw [List.getElem?_toArray];exact HZ.out.1))
   clear hI hb c38 cf
   cases y
   case true =>
    clear c37
    go_wp2
    go_ret
    exact chk_bad 2 (by decide) (by decide) (by decide) HI4.out.below (fun h=>no_out HY3.out (h.outs z HZ.out.2.2.2.2))
   have cf:=HI4.out.out
   go_wp2_with fail
   have hh:=HI4.out.usesG HC.out.1 HZ.out.2.2.1
   obtain ⟨y,hy⟩:∃ y,z.ins.any (isOut1 a.vals.length) = y:=⟨_,rfl⟩
   rw [hy] at hh
   have HY4:=Lib.hid hy
   clear hy
   refine hh.mono ?_
   clear hh
   rintro e w5 ⟨rfl,hI,-⟩
   have HI5:=Lib.hid hI
   clear hI cf c37
   cases y
   case true =>
    go_wp2
    go_ret
    exact chk_bad 2 (by decide) (by decide) (by decide) HI5.out.below (fun h=>no_out1 HY4.out (h.ins z HZ.out.2.2.2.2))
   go_wp2
   go_roundw
   case rel=>exact ⟨pre++[z],post,H.out.1,by rw [H.out.2];go_num,HI5.out,fun n hn=>by
    rcases List.mem_append.1 hn with h | h
    ·exact HPl.out n h
    ·rw [List.mem_singleton.1 h];exact ⟨in_of_out HY3.out,in_of_out1 HY4.out⟩⟩
   case measure=>simp [intOf];omega
  | nil =>
   obtain ⟨hge,hpl⟩:=split_end hpp
   have hNP:∀ n ∈ a.nodes,PlacedN a.vals.length n:=by rw [← hpl];exact HPl.out
   have HNP:=Lib.hid hNP
   clear hpp hpl hNP HPl
   have c0:=HIr.out.cell HC.out.1
   have c0':∀ o:Obj,(wr.alloc o).cell? ⟨w.heap.size,0,none⟩ = some (.slice A1 a.vals.length k1):=fun o=>(World.cell?_alloc_lt _ _ _ (by have:=HIr.out.lt;simp only;omega)).trans c0
   have hmk:=make_ints a.vals.length wr (by omega)
   go_wp2_with fail
   clear hmk c0 c0'
   have hT:TimI w cs wr.heap.size (List.replicate a.vals.length 0) (wr.alloc (.cells (Array.replicate a.vals.length (.int .i64 0)) 3)) :=
    ⟨HIr.out.next ((Below.refl _ _).alloc (Nat.le_refl _) _),by rw [← ints_arr];exact heap_alloc_new _ _,HIr.out.lt⟩
   generalize World.alloc _ _ = W2 at hT ⊢
   obtain ⟨q,hq⟩:∃ q,wr.heap.size = q:=⟨_,rfl⟩
   rw [hq] at hT ⊢
   have HT0:=Lib.hid hT
   clear hT hq HIr
   obtain ⟨B2,d2,vs,hv,hnc2,hcm2,-,hl,hch⟩:=open_slice HR.out.1
   simp only [Value.slice.injEq,true_and] at hv
   obtain ⟨rfl,rfl⟩:=hv
   have HV:=Lib.hid (And.intro hl hch)
   clear hl hch
   go_loopw [56] (fun i wr=>∃ (pre post:List ValD),a.vals = pre++post∧i = .int .i64 pre.length∧TimI w cs q (pre.map (fun v=>(constN v:Int))++List.replicate post.length 0) wr) (fun i _=>a.vals.length - (intOf i).toNat)
   case atStart=>exact ⟨[],a.vals,rfl,rfl,HT0.out⟩
   case round =>
    obtain ⟨pre2,post2,hpp,rfl,hI⟩:=hrel
    have HTr:=Lib.hid hI
    clear hI
    cases post2 with
    | cons z post2 =>
     obtain ⟨hz,hlt,hpp',hpl⟩:=split_at hpp
     obtain ⟨b2,o2,zc,rfl,hbB,hrz,hcell⟩:=elem_at HV.out.1 HV.out.2 (by decide) hz
     have hat:At wr b2 (o2 + pre2.length * 8) zc:=fun j u hu=>by
      have h1:=(hcell j u hu).1
      rw [← Nat.add_assoc] at h1
      exact (HTr.out.inv.below.cell (p:=⟨b2,o2 + pre2.length * 8 + j,none⟩) hbB).trans h1
     have hv8:=val_facts hrz
     have hsz:(Tryz.prog.info? 45).map (·.size) = some zc.length:=by rw [hv8.1];kernel_rfl
     have hft:0 + zc.length ≤ zeroV.length:=by rw [hv8.1];exact of_decide_eq_true (by kernel_rfl)
     have HA:=Lib.hid (And.intro hat (And.intro hsz (And.intro hft (And.intro (show zc.length = zeroV.length from hv8.1) hv8.2))))
     have hk0:(0:Int) ≤ (pre2.length:Int):=Int.natCast_nonneg _
     have hk1:(pre2.length:Int) < (a.vals.length:Int):=by omega
     have H:=Lib.hid (And.intro hpp' hpl)
     clear hpp hpp' hpl hz hcell hbB hrz hat hv8 hsz hft
     go_wp2_with (first
      |(with_reducible refine wpList_load_agg rfl 45 _ rfl _ _ _ rfl zc Tryz.underlying45 rfl HA.out.2.1 HA.out.1 ?_)
      |(with_reducible refine wpList_alloc_row rfl 45 rfl zeroV zeroV_zero ?_)
      |(with_reducible refine wpList_store_agg rfl 45 _ _ rfl _ 0 zc rfl rfl 45 zeroV (heap_alloc_new _ _) HA.out.2.1 HA.out.2.2.1 HA.out.2.2.2.2.2 ?_;have hY:=laid_row wr 45 zeroV zc HA.out.2.2.2.1;generalize World.setRow _ _ _ = v2 at hY ⊢;have HY:=Lib.hid hY;clear hY;refine halt ?_))
     unfold Halt
     have H2:=Lib.hid (HTr.out.next HY.out.1)
     have hx0:=H2.out.cell (k:=pre2.length) (x:=0) (by simp)
     have fL:=H2.out.free pre2.length
     have c2:v2.cell? ⟨wr.heap.size,2,none⟩ = some (.bool z.const):=(cell_of_row _ _ _ _ _ _ HY.out.2.1).trans (by rw [List.getElem?_toArray];exact HA.out.2.2.2.2.1)
     obtain ⟨y,hy⟩:∃ y,z.const = y:=⟨_,rfl⟩
     rw [hy] at c2
     have HYC:=Lib.hid hy
     clear hy
     have hrel:Hid (∀ W:World,TimI w cs q ((pre2.map (fun v=>(constN v:Int))++List.replicate (z :: post2).length 0).set pre2.length (constN z:Int)) W→∃ (pre3 post3:List ValD),a.vals = pre3++post3∧Value.int .i64 ((pre2.length:Int) + 1) = .int .i64 pre3.length∧TimI w cs q (pre3.map (fun v=>(constN v:Int))++List.replicate post3.length 0) W):=Lib.hid fun W h=>by
      refine ⟨pre2++[z],post2,H.out.1,by rw [H.out.2];go_num,?_⟩
      have e:(pre2.map (fun v=>(constN v:Int))++List.replicate (z :: post2).length 0).set pre2.length (constN z:Int) = (pre2++[z]).map (fun v=>(constN v:Int))++List.replicate post2.length 0:=by
       rw [List.set_append]
       simp [List.replicate_succ]
      rwa [e] at h
     cases y with
     | true =>
      go_wp2
      go_roundw
      case rel =>
       have h:=H2.out.set pre2.length 1
       exact hrel.out _ (by rw [show (constN z:Int) = 1 by unfold constN;rw [HYC.out];rfl];exact h)
      case measure=>simp [intOf];omega
     | false =>
      go_wp2
      go_roundw
      case rel =>
       have h:=H2.out
       refine hrel.out _ ?_
       rw [show (constN z:Int) = 0 by unfold constN;rw [HYC.out];rfl,List.set_append]
       simpa [List.replicate_succ] using h
      case measure=>simp [intOf];omega
    | nil =>
     obtain ⟨hge2,hpl⟩:=split_end hpp
     replace hpl:=Lib.hid hpl
     clear hpp
     have hst:TimI w cs q (timesG a []) wr:=by
      have h:=HTr.out
      rw [hpl.out] at h
      rw [timesG_nil]
      simpa using h
     have HT1:=Lib.hid hst
     clear hst HTr
     have c2:=HT1.out.inv.cell HC.out.2.2.1
     go_wp2_with fail
     clear c2
     obtain ⟨B3,d3,is,hv,hnc3,hcm3,-,hl,hch⟩:=open_slice HR.out.2.2.1
     simp only [Value.slice.injEq,true_and] at hv
     obtain ⟨rfl,rfl⟩:=hv
     have HM:=Lib.hid (And.intro hl hch)
     clear hl hch
     obtain ⟨wb,rfl⟩:∃ wb,wb = wr:=⟨_,rfl⟩
     go_loopw [73] (fun i wr=>∃ (pre post:List Int),a.inputs = pre++post∧i = .int .i64 pre.length∧TimI w cs q (timesG a pre) wr) (fun i _=>a.inputs.length - (intOf i).toNat)
     case atStart=>exact ⟨[],a.inputs,rfl,rfl,HT1.out⟩
     case round =>
      obtain ⟨pre3,post3,hpp,rfl,hI⟩:=hrel
      have HTs:=Lib.hid hI
      clear hI
      cases post3 with
      | cons v post3 =>
       obtain ⟨hz,hlt,hpp',hpl3⟩:=split_at hpp
       obtain ⟨hv0,hv1⟩:=HIN.out v (List.mem_of_getElem? hz)
       obtain ⟨j,rfl⟩:∃ j:Nat,v = (j:Int):=⟨v.toNat,by omega⟩
       obtain ⟨b2,o2,xc,rfl,hbB2,hrz,hcell⟩:=elem_at HM.out.1 HM.out.2 (by decide) hz
       obtain ⟨rfl,hv64⟩:=hrz
       have k4':wr.cell? ⟨b2,o2 + pre3.length,none⟩ = some (.int .i64 (j:Int)):=(HTs.out.inv.below.cell (p:=⟨b2,o2 + pre3.length,none⟩) hbB2).trans (cell_of_elem (α:=Int) rfl hcell rfl)
       have hk2:(0:Int) ≤ (pre3.length:Int):=Int.natCast_nonneg _
       have hk3:(pre3.length:Int) < (a.inputs.length:Int):=by omega
       have H:=Lib.hid (And.intro hpp' hpl3)
       have hj:j < a.vals.length:=by omega
       have hx0:=HTs.out.cell (timesG_get a pre3 hj)
       have hle:=count_bd a (l:=pre3) (r:=((j:Int) :: post3)++a.nodes.flatMap (·.outs)) (by unfold defsD;rw [hpp,List.append_assoc]) HDL.out j
       have hset:=Lib.hid (timesG_set a pre3 hj)
       have fL:=HTs.out.free j
       clear hpp hpp' hpl3 hz hcell hbB2 hv64
       generalize (a.vals.map constN).getD j 0 + pre3.count (j:Int) = x at hx0 hle hset
       have hx1:(0:Int) ≤ (x:Int):=Int.natCast_nonneg _
       have hx2:(x:Int) ≤ 1048577:=by omega
       clear hle
       go_wp2
       go_roundw
       case rel =>
        refine ⟨pre3++[(j:Int)],post3,H.out.1,by rw [H.out.2];go_num,?_⟩
        rw [← hset.out]
        exact HTs.out.set j ((x:Int) + 1)
       case measure=>simp [intOf];omega
      | nil =>
       obtain ⟨hge3,hpl3⟩:=split_end hpp
       replace hpl3:=Lib.hid hpl3
       clear hpp
       have HT2:=Lib.hid (show TimI w cs q (timesG a (a.inputs++([]:List GNodeD).flatMap (·.outs))) wr by
        have h:=HTs.out
        rw [hpl3.out] at h
        simpa using h)
       clear HTs
       have c1:=HT2.out.inv.cell HC.out.2.1
       go_wp2_with fail
       clear c1
       obtain ⟨wc,rfl⟩:∃ wc,wc = wr:=⟨_,rfl⟩
       go_loopw [87] (fun i wr=>∃ (pre post:List GNodeD),a.nodes = pre++post∧i = .int .i64 pre.length∧TimI w cs q (timesG a (a.inputs++pre.flatMap (·.outs))) wr) (fun i _=>a.nodes.length - (intOf i).toNat)
       case atStart=>exact ⟨[],a.nodes,rfl,rfl,HT2.out⟩
       case round =>
        obtain ⟨pre4,post4,hpp,rfl,hI⟩:=hrel
        have HT4:=Lib.hid hI
        clear hI
        cases post4 with
        | cons z post4 =>
         obtain ⟨hz,hlt,hpp',hpl⟩:=split_at hpp
         have hmem:=List.mem_of_getElem? hz
         obtain ⟨b,o,zc,rfl,hbB,hrz,hcell⟩:=elem_at HN2.out.1 HN2.out.2 (by decide) hz
         have hat:At wr b (o + pre4.length * 40) zc:=fun j u hu=>by
          have h1:=(hcell j u hu).1
          rw [← Nat.add_assoc] at h1
          exact (HT4.out.inv.below.cell (p:=⟨b,o + pre4.length * 40 + j,none⟩) hbB).trans h1
         have HA:=Lib.hid (And.intro hat (node_lay hrz))
         obtain ⟨ss,I1,i1,O1,o1,-,z37,z38,-,-,zi,zo,-⟩:=gnode_facts hrz
         obtain ⟨no1,no2⟩:=slice_bnd zo
         have HZ:=Lib.hid (And.intro z37 (And.intro z38 (And.intro zi (And.intro zo hmem))))
         have hk0:(0:Int) ≤ (pre4.length:Int):=Int.natCast_nonneg _
         have hk1:(pre4.length:Int) < (a.nodes.length:Int):=by omega
         have H:=Lib.hid (And.intro hpp' hpl)
         clear hpp hpp' hpl hz hcell hbB hrz hat z37 z38 zi zo hmem
         go_wp2_with (first
          |(with_reducible refine wpList_load_agg rfl 50 _ rfl _ _ _ rfl zc Tryz.underlying50 rfl HA.out.2.1 HA.out.1 ?_)
          |(with_reducible refine wpList_alloc_row rfl 50 rfl zeroGN zeroGN_zero ?_)
          |(with_reducible refine wpList_store_agg rfl 50 _ _ rfl _ 0 zc rfl rfl 50 zeroGN (heap_alloc_new _ _) HA.out.2.1 HA.out.2.2.1 HA.out.2.2.2.2 ?_;have hY:=laid_row wr 50 zeroGN zc HA.out.2.2.2.1;generalize World.setRow _ _ _ = v2 at hY ⊢;have HY:=Lib.hid hY;clear hY;refine halt ?_))
         unfold Halt
         have HT5:=Lib.hid (HT4.out.next HY.out.1)
         have c38:v2.cell? ⟨wr.heap.size,38,none⟩ = some (.slice O1 z.outs.length o1):=(cell_of_row _ _ _ _ _ _ HY.out.2.1).trans (by rw [List.getElem?_toArray];exact HZ.out.2.1)
         go_wp2_with fail
         clear c38
         obtain ⟨O1',o1',ys,hv,hnc5,hcm5,-,hl2,hch2⟩:=open_slice HZ.out.2.2.2.1
         simp only [Value.slice.injEq,true_and] at hv
         obtain ⟨rfl,rfl⟩:=hv
         have HO:=Lib.hid (And.intro hl2 hch2)
         clear hl2 hch2
         obtain ⟨wd,rfl⟩:∃ wd,wd = wr:=⟨_,rfl⟩
         go_loopw [94] (fun i wr=>∃ (pre5 post5:List Int),z.outs = pre5++post5∧i = .int .i64 pre5.length∧TimI w cs q (timesG a (a.inputs++pre4.flatMap (·.outs)++pre5)) wr) (fun i _=>z.outs.length - (intOf i).toNat)
         case atStart=>exact ⟨[],z.outs,rfl,rfl,by rw [List.append_nil];exact HT5.out⟩
         case round =>
          obtain ⟨pre5,post5,hpp,rfl,hI⟩:=hrel
          have HT6:=Lib.hid hI
          clear hI
          cases post5 with
          | cons v post5 =>
           obtain ⟨hz,hlt,hpp',hpl5⟩:=split_at hpp
           obtain ⟨hv0,hv1⟩:=(HNP.out z HZ.out.2.2.2.2).1 v (List.mem_of_getElem? hz)
           obtain ⟨j,rfl⟩:∃ j:Nat,v = (j:Int):=⟨v.toNat,by omega⟩
           obtain ⟨b2,o2,xc,rfl,hbB2,hrz,hcell⟩:=elem_at HO.out.1 HO.out.2 (by decide) hz
           obtain ⟨rfl,hv64⟩:=hrz
           have k4':wr.cell? ⟨b2,o2 + pre5.length,none⟩ = some (.int .i64 (j:Int)):=(HT6.out.inv.below.cell (p:=⟨b2,o2 + pre5.length,none⟩) hbB2).trans (cell_of_elem (α:=Int) rfl hcell rfl)
           have hk2:(0:Int) ≤ (pre5.length:Int):=Int.natCast_nonneg _
           have hk3:(pre5.length:Int) < (z.outs.length:Int):=by omega
           have H5:=Lib.hid (And.intro hpp' hpl5)
           have hj:j < a.vals.length:=by omega
           have hx0:=HT6.out.cell (timesG_get a _ hj)
           have hle:=count_bd a (l:=a.inputs++pre4.flatMap (·.outs)++pre5) (r:=((j:Int) :: post5)++post4.flatMap (·.outs)) (by unfold defsD;rw [H.out.1];simp [hpp]) HDL.out j
           have hset:=Lib.hid (timesG_set a (a.inputs++pre4.flatMap (·.outs)++pre5) hj)
           have fL:=HT6.out.free j
           clear hpp hpp' hpl5 hz hcell hbB2 hv64
           generalize (a.vals.map constN).getD j 0 + (a.inputs++pre4.flatMap (·.outs)++pre5).count (j:Int) = x at hx0 hle hset
           have hx1:(0:Int) ≤ (x:Int):=Int.natCast_nonneg _
           have hx2:(x:Int) ≤ 1048577:=by omega
           clear hle
           go_wp2
           go_roundw
           case rel =>
            refine ⟨pre5++[(j:Int)],post5,H5.out.1,by rw [H5.out.2];go_num,?_⟩
            rw [← List.append_assoc,← hset.out]
            exact HT6.out.set j ((x:Int) + 1)
           case measure=>simp [intOf];omega
          | nil =>
           obtain ⟨hge5,hpl5⟩:=split_end hpp
           replace hpl5:=Lib.hid hpl5
           clear hpp
           go_wp2
           go_roundw
           case rel =>
            refine ⟨pre4++[z],post4,H.out.1,by rw [H.out.2];go_num,?_⟩
            have h:=HT6.out
            rw [hpl5.out,List.append_assoc] at h
            rw [List.flatMap_append]
            simpa using h
           case measure=>simp [intOf];omega
        | nil =>
         obtain ⟨hge4,hpl⟩:=split_end hpp
         replace hpl:=Lib.hid hpl
         clear hpp
         have HT7:=Lib.hid (show TimI w cs q (timesG a (defsD a)) wr by
          have h:=HT4.out
          rw [hpl.out] at h
          exact h)
         clear HT4
         go_wp2_with fail
         have hr7:=HT7.out.rep (by rw [timesG_len];exact hs) (times_bdG a HDL.out)
         rw [timesG_len] at hr7
         have hc7:=containsInts0_any (timesG a (defsD a)) _ 66 (fun x=>decide (x > 1)) (fun V=>wr = V) wr (fun _ _=>rfl) hr7 rfl (fun V h=>h ▸ Below.refl _ _) (fun x _ _ V hV=>(chk3_any x V).mono (by rintro e w' ⟨rfl,rfl⟩;exact ⟨rfl,hV⟩))
         obtain ⟨y,hy⟩:∃ y,(timesG a (defsD a)).any (fun x=>decide (x > 1)) = y:=⟨_,rfl⟩
         rw [hy] at hc7
         have HY7:=Lib.hid hy
         clear hr7 hy
         refine hc7.mono ?_
         clear hc7
         rintro e w8 ⟨rfl,rfl⟩
         have HI8:=Lib.hid HT7.out.inv
         cases y
         case true =>
          go_wp2
          go_ret
          exact chk_bad 13 (by decide) (by decide) (by decide) HI8.out.below (fun h=>no_twice HY7.out h)
         have HON:=Lib.hid (once_of a HY7.out)
         have HSZ:=Lib.hid (show (Tryz.prog.info? 26).map (·.size) = some cs.length by rw [show cs.length = 4 from Rep.len HG.out];kernel_rfl)
         clear HT7
         go_wp2_with (first
          |(with_reducible refine wpList_load_agg rfl 26 _ rfl _ w.heap.size 0 rfl cs Tryz.underlying26 rfl HSZ.out (At.of_row HI8.out.row) ?_))
         refine (defined_any cs a wr (HI8.out.keep HG.out) hs HIN.out).mono ?_
         rintro e w9 ⟨tq,rfl,htq,harr,hb9⟩
         have hTh:ThI w cs tq (definedD a) w9:=⟨HI8.out.next hb9,harr,by have:=HI8.out.lt;omega⟩
         have HH0:=Lib.hid hTh
         clear hTh harr htq hb9 HI8
         have c1:=HH0.out.inv.cell HC.out.2.1
         go_wp2_with fail
         clear c1
         obtain ⟨we,rfl⟩:∃ we,we = wr:=⟨_,rfl⟩
         go_loopw [113] (fun i wr=>∃ (pre post:List GNodeD),a.nodes = pre++post∧i = .int .i64 pre.length∧Aside (flowsD (definedD a) pre)∧ThI w cs tq (thereD (definedD a) pre) wr) (fun i _=>a.nodes.length - (intOf i).toNat)
         case atStart=>exact ⟨[],a.nodes,rfl,rfl,trivial,HH0.out⟩
         case round =>
          obtain ⟨pre6,post6,hpp,rfl,hfl,hI⟩:=hrel
          have HH:=Lib.hid hI
          have HFL:=Lib.hid hfl
          clear hI hfl
          cases post6 with
          | cons z post6 =>
           obtain ⟨hz,hlt,hpp',hpl⟩:=split_at hpp
           have hmem:=List.mem_of_getElem? hz
           obtain ⟨b,o,zc,rfl,hbB,hrz,hcell⟩:=elem_at HN2.out.1 HN2.out.2 (by decide) hz
           have hat:At wr b (o + pre6.length * 40) zc:=fun j u hu=>by
            have h1:=(hcell j u hu).1
            rw [← Nat.add_assoc] at h1
            exact (HH.out.inv.below.cell (p:=⟨b,o + pre6.length * 40 + j,none⟩) hbB).trans h1
           have HA:=Lib.hid (And.intro hat (And.intro (node_lay hrz) (gnode_len hrz)))
           obtain ⟨ss,I1,i1,O1,o1,-,z37,z38,-,-,zi,zo,-⟩:=gnode_facts hrz
           obtain ⟨no1,no2⟩:=slice_bnd zo
           have HZ:=Lib.hid (And.intro z37 (And.intro z38 (And.intro zi (And.intro zo hmem))))
           have hk0:(0:Int) ≤ (pre6.length:Int):=Int.natCast_nonneg _
           have hk1:(pre6.length:Int) < (a.nodes.length:Int):=by omega
           have H:=Lib.hid (And.intro hpp' hpl)
           clear hpp hpp' hpl hz hcell hbB hrz hat z37 z38 zi zo hmem
           go_wp2_with (first
            |(with_reducible refine wpList_load_agg rfl 50 _ rfl _ _ _ rfl zc Tryz.underlying50 rfl HA.out.2.1.1 HA.out.1 ?_)
            |(with_reducible refine wpList_alloc_row rfl 50 rfl zeroGN zeroGN_zero ?_)
            |(with_reducible refine wpList_store_agg rfl 50 _ _ rfl _ 0 zc rfl rfl 50 zeroGN (heap_alloc_new _ _) HA.out.2.1.1 HA.out.2.1.2.1 HA.out.2.1.2.2.2 ?_;have hY:=laid_row wr 50 zeroGN zc HA.out.2.1.2.2.1;generalize World.setRow _ _ _ = v2 at hY ⊢;have HY:=Lib.hid hY;clear hY;refine halt ?_))
           unfold Halt
           have HH5:=Lib.hid (HH.out.next HY.out.1)
           go_wp2_with (first
            |(with_reducible refine wpList_load_agg rfl 50 _ rfl _ wr.heap.size 0 rfl zc Tryz.underlying50 rfl HA.out.2.1.1 (At.of_row HY.out.2.1) ?_))
           refine (ready_any zc z.ins (.slice I1 z.ins.length i1) tq a.vals.length a.vals.length (thereD (definedD a) pre6) 4 v2 HA.out.2.2 HZ.out.1 (HH5.out.inv.keep HZ.out.2.2.1) HH5.out.arr (by rw [there_len,definedD_len]) (fun x hx=>((HNP.out z HZ.out.2.2.2.2).2 x hx).2)).mono ?_
           obtain ⟨y,hy⟩:∃ y,z.ins.any (lackD (thereD (definedD a) pre6)) = y:=⟨_,rfl⟩
           rw [hy]
           have HY9:=Lib.hid hy
           clear hy
           rintro e w10 ⟨rfl,hb10⟩
           have HH6:=Lib.hid (HH5.out.next hb10)
           cases y
           case true =>
            go_wp2
            go_ret
            exact chk_bad 12 (by decide) (by decide) (by decide) HH6.out.inv.below (fun h=>by
             have h1:=h.flows
             rw [H.out.1,List.append_assoc] at h1
             have h2:=((flows_append _ _ _).1 h1).2
             have h3:z.ins.any (lackD (thereD (definedD a) pre6)) = false:=h2.1
             rw [HY9.out] at h3
             cases h3)
           have c38:w10.cell? ⟨wr.heap.size,38,none⟩ = some (.slice O1 z.outs.length o1):=(hb10.cell (p:=⟨wr.heap.size,38,none⟩) (by have:=HY.out.2.2;simp only;omega)).trans ((cell_of_row _ _ _ _ _ _ HY.out.2.1).trans (by rw [List.getElem?_toArray];exact HZ.out.2.1))
           clear hb10
           go_wp2_with fail
           clear c38
           obtain ⟨O1',o1',ys,hv,hnc5,hcm5,-,hl2,hch2⟩:=open_slice HZ.out.2.2.2.1
           simp only [Value.slice.injEq,true_and] at hv
           obtain ⟨rfl,rfl⟩:=hv
           have HO:=Lib.hid (And.intro hl2 hch2)
           clear hl2 hch2
           obtain ⟨wf,rfl⟩:∃ wf,wf = wr:=⟨_,rfl⟩
           go_loopw [124] (fun i wr=>∃ (pre7 post7:List Int),z.outs = pre7++post7∧i = .int .i64 pre7.length∧ThI w cs tq (setsT (thereD (definedD a) pre6) pre7) wr) (fun i _=>z.outs.length - (intOf i).toNat)
           case atStart=>exact ⟨[],z.outs,rfl,rfl,HH6.out⟩
           case round =>
            obtain ⟨pre7,post7,hpp,rfl,hI⟩:=hrel
            have HJ:=Lib.hid hI
            clear hI
            cases post7 with
            | cons v post7 =>
             obtain ⟨hz,hlt,hpp',hpl7⟩:=split_at hpp
             obtain ⟨hv0,hv1⟩:=(HNP.out z HZ.out.2.2.2.2).1 v (List.mem_of_getElem? hz)
             obtain ⟨j,rfl⟩:∃ j:Nat,v = (j:Int):=⟨v.toNat,by omega⟩
             obtain ⟨b2,o2,xc,rfl,hbB2,hrz,hcell⟩:=elem_at HO.out.1 HO.out.2 (by decide) hz
             obtain ⟨rfl,hv64⟩:=hrz
             have k4':wr.cell? ⟨b2,o2 + pre7.length,none⟩ = some (.int .i64 (j:Int)):=(HJ.out.inv.below.cell (p:=⟨b2,o2 + pre7.length,none⟩) hbB2).trans (cell_of_elem (α:=Int) rfl hcell rfl)
             have hk2:(0:Int) ≤ (pre7.length:Int):=Int.natCast_nonneg _
             have hk3:(pre7.length:Int) < (z.outs.length:Int):=by omega
             have H7:=Lib.hid (And.intro hpp' hpl7)
             obtain ⟨x0,hx0⟩:=HJ.out.cell (k:=j) (by rw [setsT_len,there_len,definedD_len];omega)
             have fL:=HJ.out.free j
             clear hpp hpp' hpl7 hz hcell hbB2 hv64
             go_wp2
             go_roundw
             case rel =>
              refine ⟨pre7++[(j:Int)],post7,H7.out.1,by rw [H7.out.2];go_num,?_⟩
              rw [setsT_snoc]
              exact HJ.out.set j true
             case measure=>simp [intOf];omega
            | nil =>
             obtain ⟨hge7,hpl7⟩:=split_end hpp
             replace hpl7:=Lib.hid hpl7
             clear hpp
             go_wp2
             go_roundw
             case rel =>
              refine ⟨pre6++[z],post6,H.out.1,by rw [H.out.2];go_num,?_,?_⟩
              ·exact (flows_append pre6 [z] (definedD a)).2 ⟨HFL.out,HY9.out,trivial⟩
              ·rw [there_snoc]
               have h:=HJ.out
               rw [hpl7.out] at h
               exact h
             case measure=>simp [intOf];omega
          | nil =>
           obtain ⟨hge6,hpl⟩:=split_end hpp
           replace hpl:=Lib.hid hpl
           have HFA:=Lib.hid (show flowsD (definedD a) a.nodes by rw [← hpl.out];exact HFL.out)
           clear hpp
           have HE:=Lib.hid (show ThI w cs tq (thereD (definedD a) a.nodes) wr by
            have h:=HH.out
            rw [hpl.out] at h
            exact h)
           clear HH
           have c3:=HE.out.inv.cell HC.out.2.2.2
           go_wp2_with fail
           clear c3
           refine (ready_any _ a.outputs (.slice A4 a.outputs.length k4) tq a.vals.length a.vals.length (thereD (definedD a) a.nodes) 4 wr (by kernel_rfl) (by kernel_rfl) (HE.out.inv.keep HR.out.2.2.2) HE.out.arr (by rw [there_len,definedD_len]) (fun x hx=>(HOUT.out x hx).2)).mono ?_
           obtain ⟨y,hy⟩:∃ y,a.outputs.any (lackD (thereD (definedD a) a.nodes)) = y:=⟨_,rfl⟩
           rw [hy]
           have HY11:=Lib.hid hy
           clear hy
           rintro e w11 ⟨rfl,hb⟩
           have HB:=Lib.hid (HE.out.next hb).inv.below
           clear hb
           cases y
           case true =>
            go_wp2
            go_ret
            exact chk_bad 12 (by decide) (by decide) (by decide) HB.out (fun h=>by
             have h1:=h.ends
             rw [HY11.out] at h1
             cases h1)
           go_wp2
           go_ret
           exact ⟨0,rfl,HB.out,fun _=>⟨HIN.out,HOUT.out,fun n hn=>(HNP.out n hn).1,fun n hn=>(HNP.out n hn).2,HON.out,HFA.out,HY11.out⟩,by decide,by decide,fun _=>rfl⟩
end Go.Proofs.YtoeaglpmkjoenaaGreat
