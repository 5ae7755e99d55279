/-
  What a reading of a graph says: its cells hold a Lean datum, and its lists are together no longer than the reading's bulk. No condition.
-/
/-
  What a reading of a plan says: its cells hold a Lean datum, and its graph's lists are not too long. No condition.
-/
import Derived.ChangeArms
import Derived.Deep.Slices
import Derived.Test.YtoeaglpmkjoenaaGreatRows
import Derived.Test.YtoeaglpmkjoenaaGreatQSame
import Derived.Test.YtoeaglpmkjoenaaGreatQFlowM
set_option linter.unusedSimpArgs false
set_option linter.unusedVariables false
namespace Go.Proofs.YtoeaglpmkjoenaaGreat
open Go.RowKit
open Rep (rep)
theorem each_mem {H:Type} {P:Program} {n:Nat}:∀ {ts:List TypeId} {ds:List (DataW H)} {i:Nat} {t:TypeId} {d:DataW H},ts[i]? = some t→ds[i]? = some d→n ∈ d.weights P t→n ∈ DataW.weightsEach P ts ds
 | [],_,_,_,_,h,_,_=>by simp at h
 | _ :: _,[],_,_,_,_,h,_=>by simp at h
 | t :: ts,d :: ds,0,t',d',h1,h2,h=>by
  simp at h1 h2;subst h1 h2
  unfold DataW.weightsEach
  exact List.mem_append_left _ h
 | t :: ts,d :: ds,i + 1,t',d',h1,h2,h=>by
  unfold DataW.weightsEach
  exact List.mem_append_right _ (each_mem (ts:=ts) (ds:=ds) (i:=i) (by simpa using h1) (by simpa using h2) h)
theorem all_mem {H:Type} {P:Program} {e:TypeId} {n:Nat} {d:DataW H}:∀ {l:List (DataW H)},d ∈ l→n ∈ d.weights P e→n ∈ DataW.weightsAll P e l
 | [],h,_=>by simp at h
 | x :: l,h,hn=>by
  unfold DataW.weightsAll
  rcases List.mem_cons.1 h with rfl | h
  ·exact List.mem_append_left _ hn
  ·exact List.mem_append_right _ (all_mem h hn)
structure Reads (t:TypeId) (α:Type) [Rep α]:Prop where
 cells:Tryz.prog.cellsOf t = Rep.size α
 byt:Tryz.prog.bytesOf t = Rep.bytes α
 read:∀ {H:Type} {enc:TypeId × Value→H} {w:World} {held:Bool} {fuel:Nat} {cs:List Value} {x:DataW H × List MemPlace},DataW.trod enc Tryz.prog w 0 (fun _=>true) held fuel t cs = some x →
  (∀ n ∈ x.1.weights Tryz.prog t,n ≤ reachBytes)→∃ a:α,rep w (old w.heap.size) cs a
theorem i64_of_wf {n:Int} (h:(Lit.int .i64 n).wf = true):I64 n:=by
 simp [Lit.wf] at h
 unfold I64
 revert h
 simp [IntKind.min,IntKind.max,IntKind.signed,IntKind.bits]
 try omega
theorem reads_int:Reads 3 Int:=⟨by kernel_rfl,by kernel_rfl,fun h _=>by
 obtain ⟨n,rfl,_,hw⟩:=DataW.trod_int Tryz.underlying3 h
 exact ⟨n,rfl,i64_of_wf hw⟩⟩
theorem reads_int64:Reads 2 Int:=⟨by kernel_rfl,by kernel_rfl,fun h _=>by
 obtain ⟨n,rfl,_,hw⟩:=DataW.trod_int Tryz.underlying2 h
 exact ⟨n,rfl,i64_of_wf hw⟩⟩
theorem reads_u32:Reads 46 Nat:=⟨by kernel_rfl,by kernel_rfl,fun h _=>by
 obtain ⟨n,rfl,_,hw⟩:=DataW.trod_int Tryz.underlying46 h
 have h2:0 ≤ n∧n < 4294967296:=by
  simp [Lit.wf] at hw
  revert hw
  simp [IntKind.min,IntKind.max,IntKind.signed,IntKind.bits]
  try omega
 refine ⟨n.toNat,?_,by omega⟩
 rw [Int.toNat_of_nonneg h2.1]⟩
theorem reads_bool:Reads 4 Bool:=⟨by kernel_rfl,by kernel_rfl,fun h _=>by
 obtain ⟨b,rfl,_⟩:=DataW.trod_bool Tryz.underlying4 h
 exact ⟨b,rfl⟩⟩
theorem reads_slice {t e:TypeId} {α:Type} [Rep α] (ht:Tryz.prog.underlying t = some (.slice e)) (h1:Tryz.prog.cellsOf t = 1) (h2:Tryz.prog.bytesOf t = 24) (R:Reads e α):Reads t (List α):=⟨h1,h2,fun {H enc w held fuel cs x} h hw=>by
 rcases Deep.open_slice ht h with ⟨rfl,_⟩ | ⟨a,len,cap,m,n,D,Pl,rfl,_,hl,hm,hmm,rfl,hx⟩
 ·exact ⟨[],none,0,0,[],rfl,rfl,Nat.le_refl _,Nat.zero_le _,by simp,Lies.nil _ _ _,rfl⟩
 ·simp only [if_true] at hmm
  subst hmm
  have hw':∀ k ∈ DataW.weights Tryz.prog t (DataW.slice (List.map D (List.range len)) (List.map (fun j=>D (len + j)) (List.range (m - len)))),k ≤ reachBytes:=hw
  unfold DataW.weights at hw'
  rw [ht] at hw'
  simp only [List.length_map,List.length_range] at hw'
  have hcap:len * Rep.bytes α ≤ reach:=by
   have:=hw' _ (List.mem_cons_self ..)
   rw [R.byt] at this
   refine Nat.le_trans (Nat.mul_le_mul_right _ (by omega:len ≤ len + (m - len))) this
  have hel:∀ i,i < len→∃ cs',w.cells? 0 (a.add (i * Rep.size α)) (Rep.size α) = some cs'∧∃ z:α,rep w (old w.heap.size) cs' z:=by
   intro i hi
   obtain ⟨cs',h3,h4⟩:=hx i (by omega)
   rw [R.cells] at h3
   refine ⟨cs',h3,R.read h4 fun k hk=>hw' k (List.mem_cons_of_mem _ (List.mem_append_left _ (all_mem (d:=D i) (List.mem_map.2 ⟨i,List.mem_range.2 hi,rfl⟩) hk)))⟩
  have key:∀ k,k ≤ len→∃ (xs:List Value) (l:List α),l.length = k∧Chunks w (old w.heap.size) xs l∧∀ j u,xs[j]? = some u→w.cell? (a.add j) = some u:=by
   intro k
   induction k with
   | zero=>intro _;exact ⟨[],[],rfl,rfl,by simp⟩
   | succ k ih =>
    intro hk
    obtain ⟨xs,l,h3,h4,h5⟩:=ih (by omega)
    obtain ⟨cs',h6,z,h7⟩:=hel k (by omega)
    obtain ⟨_,h8,h9⟩:=World.cells?_some h6
    refine ⟨xs++cs',l++[z],by simp [h3],h4.snoc h7,fun j u hu=>?_⟩
    have hxl:xs.length = k * Rep.size α:=by rw [h4.len,h3]
    by_cases hj:j < xs.length
    ·rw [List.getElem?_append_left hj] at hu
     exact h5 j u hu
    ·rw [List.getElem?_append_right (by omega)] at hu
     have hj2:=(List.getElem?_eq_some_iff.1 hu).1
     have:=h9 (j - xs.length) (by omega)
     rw [hu,Deep.add_add,← hxl,show xs.length + (j - xs.length) = j by omega] at this
     exact this
  obtain ⟨xs,l,h3,h4,h5⟩:=key len (Nat.le_refl _)
  refine ⟨l,some a,len,m,xs,rfl,h3.symm,by omega,by omega,hcap,fun hn=>?_,h4⟩
  obtain ⟨v,r,rfl⟩:∃ v r,xs = v :: r:=by
   cases xs with
   | nil=>exact absurd rfl hn
   | cons v r=>exact ⟨v,r,rfl⟩
  obtain ⟨b,o,sp⟩:=a
  have hc0:=h5 0 v rfl
  have hsp:sp = none:=by
   simp only [Addr.add,if_true,World.cell?] at hc0
   split at hc0
   ·cases sp with
    | none=>rfl
    | some q=>simp at hc0
   ·cases hc0
  subst hsp
  refine ⟨b,o,rfl,?_,fun j u hu=>⟨?_,fun e=>by cases e⟩⟩
  ·exact World.block_lt_of_cell? w ⟨b,o,none⟩ (by simpa [Addr.add] using hc0)
  ·have:=h5 j u hu
   unfold Addr.add at this
   split at this
   ·rename_i h0;subst h0;simpa using this
   ·exact this⟩
theorem struct_parts {t:TypeId} {fs:Array Field} {H:Type} {enc:TypeId × Value→H} {w:World} {held:Bool} {fuel:Nat} {cs:List Value} {x:DataW H × List MemPlace} (ht:Tryz.prog.underlying t = some (.struct fs))
  (h:DataW.trod enc Tryz.prog w 0 (fun _=>true) held fuel t cs = some x) (hw:∀ n ∈ x.1.weights Tryz.prog t,n ≤ reachBytes) :
  cs.length = Tryz.prog.cellsOf t∧∀ (i:Nat) (f:Field) (α:Type) [Rep α],fs[i]? = some f→Reads f.type α→∃ a:α,rep w (old w.heap.size) ((cs.drop f.offset).take (Rep.size α)) a:=by
 obtain ⟨xs,n,_,rfl,hl,hlen,hf⟩:=DataW.trod_struct ht h
 have hw':∀ k ∈ DataW.weights Tryz.prog t (DataW.agg (xs.map (·.1))),k ≤ reachBytes:=hw
 unfold DataW.weights at hw'
 rw [ht] at hw'
 simp only at hw'
 refine ⟨hl,fun i f α _ hi R=>?_⟩
 have h1:=hf i f hi
 rw [R.cells] at h1
 have hix:i < xs.length:=by rw [hlen];exact (Array.getElem?_eq_some_iff.1 hi).1
 rw [List.getElem?_eq_getElem hix] at h1
 refine R.read h1 fun k hk=>hw' k (each_mem (i:=i) (t:=f.type) (d:=(xs[i]).1) ?_ ?_ hk)
 ·rw [List.getElem?_map,Array.getElem?_toList,hi];rfl
 ·rw [List.getElem?_map,List.getElem?_eq_getElem hix];rfl
theorem reads_ints:Reads 24 (List Int):=reads_slice Tryz.underlying24 (by kernel_rfl) (by kernel_rfl) reads_int
theorem reads_int64s:Reads 41 (List Int):=reads_slice Tryz.underlying41 (by kernel_rfl) (by kernel_rfl) reads_int64
theorem reads_u32s:Reads 40 (List Nat):=reads_slice Tryz.underlying40 (by kernel_rfl) (by kernel_rfl) reads_u32
theorem reads_bools:Reads 28 (List Bool):=reads_slice Tryz.underlying28 (by kernel_rfl) (by kernel_rfl) reads_bool
theorem cells_Tensor:Tryz.prog.cellsOf 43 = 5:=by kernel_rfl
theorem reads_Tensor:Reads 43 TensorD:=⟨by kernel_rfl,by kernel_rfl,fun {H enc w held fuel cs x} h hw=>by
 obtain ⟨hl,hp⟩:=struct_parts Tryz.underlying43 h hw
 obtain ⟨a0,h0⟩:=hp 0 _ Int rfl reads_int
 obtain ⟨a1,h1⟩:=hp 1 _ (List Int) rfl reads_ints
 obtain ⟨a2,h2⟩:=hp 2 _ (List Nat) rfl reads_u32s
 obtain ⟨a3,h3⟩:=hp 3 _ (List Int) rfl reads_int64s
 obtain ⟨a4,h4⟩:=hp 4 _ (List Bool) rfl reads_bools
 rw [cells_Tensor] at hl
 match cs,hl with
 | [v0,v1,v2,v3,v4],_=>exact ⟨⟨a0,a1,a2,a3,a4⟩,[v0],[v1],[v2],[v3],[v4],rfl,h0,h1,h2,h3,h4⟩⟩
theorem bulk_pos {H:Type} (d:DataW H):1 ≤ Rows.uptoBulk d:=by
 cases d with
 | lit x=>cases x <;> simp [Rows.uptoBulk]
 | _=>simp [Rows.uptoBulk]
theorem bulk_len {H:Type}:∀ l:List (DataW H),l.length ≤ Rows.uptoBulkAll l
 | []=>Nat.zero_le _
 | d :: l=>by
  have h1:=bulk_pos d
  have ih:=bulk_len l
  simp only [Rows.uptoBulkAll,List.length_cons]
  omega
theorem bulk_part {H:Type} {d:DataW H}:∀ {l:List (DataW H)},d ∈ l→Rows.uptoBulk d ≤ Rows.uptoBulkAll l
 | [],h=>by cases h
 | x :: l,h=>by
  simp only [Rows.uptoBulkAll]
  rcases List.mem_cons.1 h with rfl | h
  ·omega
  ·have:=bulk_part h;omega
theorem bulk_sum {H:Type}:∀ l:List (DataW H),(l.map Rows.uptoBulk).sum = Rows.uptoBulkAll l
 | []=>rfl
 | d :: l=>by simp only [Rows.uptoBulkAll,List.map_cons,List.sum_cons,bulk_sum l]
structure ReadsP (t:TypeId) (α:Type) [Rep α] (B:α→Nat→Prop):Prop where
 cells:Tryz.prog.cellsOf t = Rep.size α
 read:∀ {H:Type} {enc:TypeId × Value→H} {w:World} {held:Bool} {fuel:Nat} {cs:List Value} {x:DataW H × List MemPlace},DataW.trod enc Tryz.prog w 0 (fun _=>true) held fuel t cs = some x →
  (∀ n ∈ x.1.weights Tryz.prog t,n ≤ reachBytes)→∃ a:α,rep w (old w.heap.size) cs a∧∀ n,Rows.uptoBulk x.1 ≤ n→B a n
theorem Reads.p {t:TypeId} {α:Type} [Rep α] (R:Reads t α):ReadsP t α (fun _ _=>True) :=
 ⟨R.cells,fun h hw=>let ⟨a,ha⟩:=R.read h hw;⟨a,ha,fun _ _=>trivial⟩⟩
theorem readsP_slice {t e:TypeId} {α:Type} [Rep α] {B:α→Nat→Prop} (ht:Tryz.prog.underlying t = some (.slice e)) (h1:Tryz.prog.cellsOf t = 1) (h2:Tryz.prog.bytesOf e = Rep.bytes α) (R:ReadsP e α B):ReadsP t (List α) (fun l n=>l.length ≤ n∧(∀ z ∈ l,∃ m,m ≤ n∧B z m)∧∀ μ:α→Nat,(∀ z n,B z n→μ z ≤ n)→(l.map μ).sum ≤ n):=⟨h1,fun {H enc w held fuel cs x} h hw=>by
 rcases Deep.open_slice ht h with ⟨rfl,_⟩ | ⟨a,len,cap,m,n,D,Pl,rfl,_,hl,hm,hmm,rfl,hx⟩
 ·exact ⟨[],⟨none,0,0,[],rfl,rfl,Nat.le_refl _,Nat.zero_le _,by simp,Lies.nil _ _ _,rfl⟩,fun n _=>⟨Nat.zero_le _,fun z hz=>(by cases hz),fun μ _=>Nat.zero_le _⟩⟩
 ·simp only [if_true] at hmm
  subst hmm
  have hw':∀ k ∈ DataW.weights Tryz.prog t (DataW.slice (List.map D (List.range len)) (List.map (fun j=>D (len + j)) (List.range (m - len)))),k ≤ reachBytes:=hw
  unfold DataW.weights at hw'
  rw [ht] at hw'
  simp only [List.length_map,List.length_range] at hw'
  have hcap:len * Rep.bytes α ≤ reach:=by
   have:=hw' _ (List.mem_cons_self ..)
   rw [h2] at this
   refine Nat.le_trans (Nat.mul_le_mul_right _ (by omega:len ≤ len + (m - len))) this
  have hbk:∀ n,Rows.uptoBulk (DataW.slice (List.map D (List.range len)) (List.map (fun j=>D (len + j)) (List.range (m - len)))) ≤ n→len ≤ n∧((List.range len).map fun i=>Rows.uptoBulk (D i)).sum ≤ n∧∀ i,i < len→Rows.uptoBulk (D i) ≤ n:=fun n hn=>by
   simp only [Rows.uptoBulk] at hn
   have h3:=bulk_len (List.map D (List.range len))
   rw [List.length_map,List.length_range] at h3
   have h4:=bulk_sum (List.map D (List.range len))
   rw [List.map_map] at h4
   refine ⟨by omega,?_,fun i hi=>by
    have:=bulk_part (d:=D i) (l:=List.map D (List.range len)) (List.mem_map.2 ⟨i,List.mem_range.2 hi,rfl⟩)
    omega⟩
   have h5:((List.range len).map fun i=>Rows.uptoBulk (D i)).sum = ((List.range len).map (Rows.uptoBulk ∘ D)).sum:=rfl
   omega
  have hel:∀ i,i < len→∃ cs',w.cells? 0 (a.add (i * Rep.size α)) (Rep.size α) = some cs'∧∃ z:α,rep w (old w.heap.size) cs' z∧∀ n,Rows.uptoBulk (D i) ≤ n→B z n:=by
   intro i hi
   obtain ⟨cs',h3,h4⟩:=hx i (by omega)
   rw [R.cells] at h3
   refine ⟨cs',h3,R.read h4 fun k hk=>hw' k (List.mem_cons_of_mem _ (List.mem_append_left _ (all_mem (d:=D i) (List.mem_map.2 ⟨i,List.mem_range.2 hi,rfl⟩) hk)))⟩
  have key:∀ k,k ≤ len→∃ (xs:List Value) (l:List α),l.length = k∧Chunks w (old w.heap.size) xs l∧(∀ j u,xs[j]? = some u→w.cell? (a.add j) = some u)∧(∀ z ∈ l,∃ i,i < len∧B z (Rows.uptoBulk (D i)))∧∀ μ:α→Nat,(∀ z n,B z n→μ z ≤ n)→(l.map μ).sum ≤ ((List.range k).map fun i=>Rows.uptoBulk (D i)).sum:=by
   intro k
   induction k with
   | zero=>intro _;exact ⟨[],[],rfl,rfl,by simp,fun z hz=>(by cases hz),fun μ _=>Nat.zero_le _⟩
   | succ k ih =>
    intro hk
    obtain ⟨xs,l,h3,h4,h5,hB,hM⟩:=ih (by omega)
    obtain ⟨cs',h6,z,h7,hz⟩:=hel k (by omega)
    obtain ⟨_,h8,h9⟩:=World.cells?_some h6
    refine ⟨xs++cs',l++[z],by simp [h3],h4.snoc h7,fun j u hu=>?_,fun y hy=>?_,fun μ hμ=>?_⟩
    ·have hxl:xs.length = k * Rep.size α:=by rw [h4.len,h3]
     by_cases hj:j < xs.length
     ·rw [List.getElem?_append_left hj] at hu
      exact h5 j u hu
     ·rw [List.getElem?_append_right (by omega)] at hu
      have hj2:=(List.getElem?_eq_some_iff.1 hu).1
      have:=h9 (j - xs.length) (by omega)
      rw [hu,Deep.add_add,← hxl,show xs.length + (j - xs.length) = j by omega] at this
      exact this
    ·rcases List.mem_append.1 hy with hy | hy
     ·exact hB y hy
     ·rw [List.mem_singleton.1 hy];exact ⟨k,by omega,hz _ (Nat.le_refl _)⟩
    ·rw [List.map_append,List.sum_append,List.range_succ,List.map_append,List.sum_append]
     have h1:=hM μ hμ
     have h2:=hμ z _ (hz _ (Nat.le_refl _))
     simp only [List.map_cons,List.map_nil,List.sum_cons,List.sum_nil]
     omega
  obtain ⟨xs,l,h3,h4,h5,hB,hM⟩:=key len (Nat.le_refl _)
  refine ⟨l,⟨some a,len,m,xs,rfl,h3.symm,by omega,by omega,hcap,fun hn=>?_,h4⟩,fun n hn=>⟨by rw [h3];exact (hbk n hn).1,fun z hz=>(let ⟨i,hi,hb⟩:=hB z hz;⟨_,(hbk n hn).2.2 i hi,hb⟩),fun μ hμ=>Nat.le_trans (hM μ hμ) (hbk n hn).2.1⟩⟩
  obtain ⟨v,r,rfl⟩:∃ v r,xs = v :: r:=by
   cases xs with
   | nil=>exact absurd rfl hn
   | cons v r=>exact ⟨v,r,rfl⟩
  obtain ⟨b,o,sp⟩:=a
  have hc0:=h5 0 v rfl
  have hsp:sp = none:=by
   simp only [Addr.add,if_true,World.cell?] at hc0
   split at hc0
   ·cases sp with
    | none=>rfl
    | some q=>simp at hc0
   ·cases hc0
  subst hsp
  refine ⟨b,o,rfl,?_,fun j u hu=>⟨?_,fun e=>by cases e⟩⟩
  ·exact World.block_lt_of_cell? w ⟨b,o,none⟩ (by simpa [Addr.add] using hc0)
  ·have:=h5 j u hu
   unfold Addr.add at this
   split at this
   ·rename_i h0;subst h0;simpa using this
   ·exact this⟩
theorem structP_parts {t:TypeId} {fs:Array Field} {H:Type} {enc:TypeId × Value→H} {w:World} {held:Bool} {fuel:Nat} {cs:List Value} {x:DataW H × List MemPlace} (ht:Tryz.prog.underlying t = some (.struct fs))
  (h:DataW.trod enc Tryz.prog w 0 (fun _=>true) held fuel t cs = some x) (hw:∀ n ∈ x.1.weights Tryz.prog t,n ≤ reachBytes) :
  cs.length = Tryz.prog.cellsOf t∧∃ bl:List Nat,bl.sum ≤ Rows.uptoBulk x.1∧bl.length = fs.size∧∀ (i:Nat) (f:Field) (α:Type) [Rep α] (B:α→Nat→Prop),fs[i]? = some f→ReadsP f.type α B→∃ a:α,rep w (old w.heap.size) ((cs.drop f.offset).take (Rep.size α)) a∧B a (bl.getD i 0):=by
 obtain ⟨xs,n,_,rfl,hl,hlen,hf⟩:=DataW.trod_struct ht h
 have hw':∀ k ∈ DataW.weights Tryz.prog t (DataW.agg (xs.map (·.1))),k ≤ reachBytes:=hw
 unfold DataW.weights at hw'
 rw [ht] at hw'
 simp only at hw'
 refine ⟨hl,(xs.map (·.1)).map Rows.uptoBulk,?_,by rw [List.length_map,List.length_map,hlen],fun i f α _ B hi R=>?_⟩
 ·rw [bulk_sum]
  show Rows.uptoBulkAll (xs.map (·.1)) ≤ Rows.uptoBulk (DataW.agg (xs.map (·.1)))
  simp only [Rows.uptoBulk]
  omega
 have h1:=hf i f hi
 rw [R.cells] at h1
 have hix:i < xs.length:=by rw [hlen];exact (Array.getElem?_eq_some_iff.1 hi).1
 rw [List.getElem?_eq_getElem hix] at h1
 obtain ⟨a,ha,hB⟩:=R.read h1 fun k hk=>hw' k (each_mem (i:=i) (t:=f.type) (d:=(xs[i]).1) (by
  rw [List.getElem?_map,Array.getElem?_toList,hi];rfl) (by
  rw [List.getElem?_map,List.getElem?_eq_getElem hix];rfl) hk)
 refine ⟨a,ha,?_⟩
 have hb:=hB _ (Nat.le_refl _)
 rw [List.getD_eq_getElem?_getD,List.getElem?_map,List.getElem?_map,List.getElem?_eq_getElem hix]
 exact hb
theorem fld_of {w:World} {Z:Zone} {cs:List Value} {j:Nat} {α:Type} [Rep α] {a:α} (h:rep w Z ((cs.drop j).take (Rep.size α)) a) (hs:Rep.size α = 1:=by rfl):Fld w Z cs j a:=by
 have hl:=Rep.len h
 rw [hs] at h hl
 cases hc:cs[j]? with
 | none =>
  have hj:cs.length ≤ j:=List.getElem?_eq_none_iff.1 hc
  rw [List.drop_of_length_le hj] at hl
  simp at hl
 | some v =>
  refine ⟨v,hc,?_⟩
  have hj:j < cs.length:=(List.getElem?_eq_some_iff.1 hc).1
  have e:(cs.drop j).take 1 = [v]:=by
   rw [List.drop_eq_getElem_cons hj]
   rw [List.getElem?_eq_getElem hj] at hc
   injection hc with hc
   rw [hc];rfl
  rw [e] at h
  exact h
theorem cells_Setting:Tryz.prog.cellsOf 48 = 36:=by kernel_rfl
set_option maxHeartbeats 4000000 in
theorem readsP_Setting:ReadsP 48 SettingD (fun _ _=>True):=⟨by kernel_rfl,fun {H enc w held fuel cs x} h hw=>by
 obtain ⟨hl,hp⟩:=struct_parts Tryz.underlying48 h hw
 obtain ⟨a0,h0⟩:=hp 0 _ Int rfl reads_int
 obtain ⟨a1,h1⟩:=hp 1 _ (List Int) rfl reads_ints
 obtain ⟨a2,h2⟩:=hp 2 _ Bool rfl reads_bool
 obtain ⟨a3,h3⟩:=hp 3 _ Bool rfl reads_bool
 obtain ⟨a4,h4⟩:=hp 4 _ Bool rfl reads_bool
 obtain ⟨a5,h5⟩:=hp 5 _ Bool rfl reads_bool
 obtain ⟨a6,h6⟩:=hp 6 _ Bool rfl reads_bool
 obtain ⟨a7,h7⟩:=hp 7 _ (List Int) rfl reads_ints
 obtain ⟨a8,h8⟩:=hp 8 _ Bool rfl reads_bool
 obtain ⟨a9,h9⟩:=hp 9 _ Nat rfl reads_u32
 obtain ⟨a10,h10⟩:=hp 10 _ Nat rfl reads_u32
 obtain ⟨a11,h11⟩:=hp 11 _ Nat rfl reads_u32
 obtain ⟨a12,h12⟩:=hp 12 _ Bool rfl reads_bool
 obtain ⟨a13,h13⟩:=hp 13 _ Bool rfl reads_bool
 obtain ⟨a14,h14⟩:=hp 14 _ Bool rfl reads_bool
 obtain ⟨a15,h15⟩:=hp 15 _ Int rfl reads_int
 obtain ⟨a16,h16⟩:=hp 16 _ Int rfl reads_int
 obtain ⟨a17,h17⟩:=hp 17 _ Bool rfl reads_bool
 obtain ⟨a18,h18⟩:=hp 18 _ Bool rfl reads_bool
 obtain ⟨a19,h19⟩:=hp 19 _ Int rfl reads_int
 obtain ⟨a20,h20⟩:=hp 20 _ (List Int) rfl reads_ints
 obtain ⟨a21,h21⟩:=hp 21 _ (List Int) rfl reads_ints
 obtain ⟨a22,h22⟩:=hp 22 _ (List Int) rfl reads_ints
 obtain ⟨a23,h23⟩:=hp 23 _ (List Int) rfl reads_ints
 obtain ⟨a24,h24⟩:=hp 24 _ Int rfl reads_int
 obtain ⟨a25,h25⟩:=hp 25 _ Bool rfl reads_bool
 obtain ⟨a26,h26⟩:=hp 26 _ Bool rfl reads_bool
 obtain ⟨a27,h27⟩:=hp 27 _ Int rfl reads_int
 obtain ⟨a28,h28⟩:=hp 28 _ Int rfl reads_int
 obtain ⟨a29,h29⟩:=hp 29 _ Int rfl reads_int
 obtain ⟨a30,h30⟩:=hp 30 _ Bool rfl reads_bool
 obtain ⟨a31,h31⟩:=hp 31 _ TensorD rfl reads_Tensor
 rw [cells_Setting] at hl
 have h31':rep w (old w.heap.size) (cs.drop 31) a31:=by
  have e:(cs.drop 31).take (Rep.size TensorD) = cs.drop 31:=List.take_of_length_le (by rw [List.length_drop,hl];exact Nat.le_refl _)
  rw [← e];exact h31
 exact ⟨⟨a0,a1,a2,a3,a4,a5,a6,a7,a8,a9,a10,a11,a12,a13,a14,a15,a16,a17,a18,a19,a20,a21,a22,a23,a24,a25,a26,a27,a28,a29,a30,a31⟩,{
  len:=hl
  f0:=fld_of (j:=0) h0
  f1:=fld_of (j:=1) h1
  f2:=fld_of (j:=2) h2
  f3:=fld_of (j:=3) h3
  f4:=fld_of (j:=4) h4
  f5:=fld_of (j:=5) h5
  f6:=fld_of (j:=6) h6
  f7:=fld_of (j:=7) h7
  f8:=fld_of (j:=8) h8
  f9:=fld_of (j:=9) h9
  f10:=fld_of (j:=10) h10
  f11:=fld_of (j:=11) h11
  f12:=fld_of (j:=12) h12
  f13:=fld_of (j:=13) h13
  f14:=fld_of (j:=14) h14
  f15:=fld_of (j:=15) h15
  f16:=fld_of (j:=16) h16
  f17:=fld_of (j:=17) h17
  f18:=fld_of (j:=18) h18
  f19:=fld_of (j:=19) h19
  f20:=fld_of (j:=20) h20
  f21:=fld_of (j:=21) h21
  f22:=fld_of (j:=22) h22
  f23:=fld_of (j:=23) h23
  f24:=fld_of (j:=24) h24
  f25:=fld_of (j:=25) h25
  f26:=fld_of (j:=26) h26
  f27:=fld_of (j:=27) h27
  f28:=fld_of (j:=28) h28
  f29:=fld_of (j:=29) h29
  f30:=fld_of (j:=30) h30
  f31:=h31' },fun _ _=>trivial⟩⟩
theorem readsP_ints:ReadsP 24 (List Int) (fun l n=>l.length ≤ n):=⟨(readsP_slice Tryz.underlying24 (by kernel_rfl) (by kernel_rfl) reads_int.p).cells,fun h hw=>let ⟨a,ha,hb⟩:=(readsP_slice Tryz.underlying24 (by kernel_rfl) (by kernel_rfl) reads_int.p).read h hw;⟨a,ha,fun n hn=>(hb n hn).1⟩⟩
theorem cells_Val:Tryz.prog.cellsOf 45 = 8:=by kernel_rfl
theorem reads_Val:Reads 45 ValD:=⟨by kernel_rfl,by kernel_rfl,fun {H enc w held fuel cs x} h hw=>by
 obtain ⟨hl,hp⟩:=struct_parts Tryz.underlying45 h hw
 obtain ⟨a0,h0⟩:=hp 0 _ Int rfl reads_int
 obtain ⟨a1,h1⟩:=hp 1 _ (List Int) rfl reads_ints
 obtain ⟨a2,h2⟩:=hp 2 _ Bool rfl reads_bool
 obtain ⟨a3,h3⟩:=hp 3 _ TensorD rfl reads_Tensor
 rw [cells_Val] at hl
 match cs,hl with
 | [v0,v1,v2,v3,v4,v5,v6,v7],_=>exact ⟨⟨a0,a1,a2,a3⟩,[v0],[v1],[v2],[v3,v4,v5,v6,v7],rfl,h0,h1,h2,h3⟩⟩
theorem cells_GNode:Tryz.prog.cellsOf 50 = 40:=by kernel_rfl
theorem getD_le {l:List Nat} {i:Nat}:l.getD i 0 ≤ l.sum:=by
 rw [List.getD_eq_getElem?_getD]
 cases h:l[i]? with
 | none=>exact Nat.zero_le _
 | some x =>
  induction l generalizing i with
  | nil=>simp at h
  | cons a l ih =>
   rw [List.sum_cons]
   cases i with
   | zero =>
    have e:a = x:=by simpa using h
    rw [Option.getD_some]
    omega
   | succ i =>
    have:=ih (i:=i) (by simpa using h)
    rw [Option.getD_some] at this ⊢
    omega
theorem readsP_GNode:ReadsP 50 GNodeD (fun z n=>z.ins.length ≤ n∧z.outs.length ≤ n):=⟨by kernel_rfl,fun {H enc w held fuel cs x} h hw=>by
 obtain ⟨hl,bl,hbs,-,hp⟩:=structP_parts Tryz.underlying50 h hw
 obtain ⟨a0,h0,-⟩:=hp 0 _ Int _ rfl reads_int.p
 obtain ⟨a1,h1,-⟩:=hp 1 _ SettingD _ rfl readsP_Setting
 obtain ⟨a2,h2,b2⟩:=hp 2 _ (List Int) _ rfl readsP_ints
 obtain ⟨a3,h3,b3⟩:=hp 3 _ (List Int) _ rfl readsP_ints
 obtain ⟨a4,h4,-⟩:=hp 4 _ Int _ rfl reads_int.p
 rw [cells_GNode] at hl
 have g2:=getD_le (l:=bl) (i:=2)
 have g3:=getD_le (l:=bl) (i:=3)
 refine ⟨⟨a0,a1,a2,a3,a4⟩,⟨(cs.drop 0).take 1,(cs.drop 1).take 36,(cs.drop 37).take 1,(cs.drop 38).take 1,(cs.drop 39).take 1,?_,h0,h1,h2,h3,h4⟩,fun n hn=>⟨by show a2.length ≤ n;omega,by show a3.length ≤ n;omega⟩⟩
 have e1:∀ k,cs.drop (k + 1) = (cs.drop k).drop 1:=fun k=>by rw [List.drop_drop]
 have e2:cs.drop 39 = (cs.drop 39).take 1:=(List.take_of_length_le (by rw [List.length_drop,hl];decide)).symm
 have e3:(cs.drop 38).take 1++cs.drop 39 = cs.drop 38:=by rw [e1 38,List.take_append_drop]
 have e4:(cs.drop 37).take 1++cs.drop 38 = cs.drop 37:=by rw [e1 37,List.take_append_drop]
 have e5:(cs.drop 1).take 36++cs.drop 37 = cs.drop 1:=by rw [show cs.drop 37 = (cs.drop 1).drop 36 by rw [List.drop_drop],List.take_append_drop]
 rw [← e2,e3,e4,e5,List.drop_zero,List.take_append_drop]⟩
theorem cells_Graph:Tryz.prog.cellsOf 26 = 4:=by kernel_rfl
def FitR (g:GraphD) (n:Nat):Prop:=g.vals.length ≤ n∧g.nodes.length ≤ n∧(∀ z ∈ g.nodes,z.ins.length ≤ n)∧g.outputs.length ≤ n∧g.inputs.length + (g.nodes.map (·.outs.length)).sum ≤ n
theorem readsP_Graph.read {H:Type} {enc:TypeId × Value→H} {w:World} {held:Bool} {fuel:Nat} {cs:List Value} {x:DataW H × List MemPlace} (h:DataW.trod enc Tryz.prog w 0 (fun _=>true) held fuel 26 cs = some x)
  (hw:∀ n ∈ x.1.weights Tryz.prog 26,n ≤ reachBytes):∃ a:GraphD,rep w (old w.heap.size) cs a∧∀ n,Rows.uptoBulk x.1 ≤ n→FitR a n:=by
 obtain ⟨hl,bl,hbs,hbl,hp⟩:=structP_parts Tryz.underlying26 h hw
 obtain ⟨a0,h0,b0⟩:=hp 0 _ (List ValD) _ rfl (readsP_slice Tryz.underlying22 (by kernel_rfl) (by kernel_rfl) reads_Val.p)
 obtain ⟨a1,h1,b1⟩:=hp 1 _ (List GNodeD) _ rfl (readsP_slice Tryz.underlying23 (by kernel_rfl) (by kernel_rfl) readsP_GNode)
 obtain ⟨a2,h2,b2⟩:=hp 2 _ (List Int) _ rfl readsP_ints
 obtain ⟨a3,h3,b3⟩:=hp 3 _ (List Int) _ rfl readsP_ints
 rw [cells_Graph] at hl
 match bl,hbl,hbs,b0,b1,b2,b3 with
 | [x0,x1,x2,x3],_,hbs,b0,b1,b2,b3 =>
  simp only [List.sum_cons,List.sum_nil] at hbs
  have b1s:=b1.2.2 (fun z=>z.outs.length) (fun z n h=>h.2)
  have b1i:=b1.2.1
  simp only [List.getD_cons_zero,List.getD_cons_succ] at b0 b1 b2 b3 b1s b1i
  match cs,hl with
  | [v0,v1,v2,v3],_=>exact ⟨⟨a0,a1,a2,a3⟩,⟨[v0],[v1],[v2],[v3],rfl,h0,h1,h2,h3⟩,fun n hn=>⟨by have:=b0.1;show a0.length ≤ n;omega,by have:=b1.1;show a1.length ≤ n;omega,fun z hz=>by
    obtain ⟨m,hm,hz1,-⟩:=b1i z hz
    omega,by show a3.length ≤ n;omega,by show a2.length + (a1.map fun z=>z.outs.length).sum ≤ n;omega⟩⟩
end Go.Proofs.YtoeaglpmkjoenaaGreat
set_option linter.unusedSimpArgs false
set_option linter.unusedVariables false
namespace Go.Proofs.YtoeaglpmkjoenaaGreat
open Go.RowKit
open Rep (rep)
theorem cells_Task:Tryz.prog.cellsOf 72 = 4:=by kernel_rfl
theorem reads_Task:Reads 72 TaskD:=⟨by kernel_rfl,by kernel_rfl,fun {H enc w held fuel cs x} h hw=>by
 obtain ⟨hl,hp⟩:=struct_parts Tryz.underlying72 h hw
 obtain ⟨a0,h0⟩:=hp 0 _ Int rfl reads_int
 obtain ⟨a1,h1⟩:=hp 1 _ Int rfl reads_int
 obtain ⟨a2,h2⟩:=hp 2 _ Int rfl reads_int
 obtain ⟨a3,h3⟩:=hp 3 _ (List Int) rfl reads_ints
 rw [cells_Task] at hl
 match cs,hl with
 | [v0,v1,v2,v3],_=>exact ⟨⟨a0,a1,a2,a3⟩,[v0],[v1],[v2],[v3],rfl,h0,h1,h2,h3⟩⟩
theorem readsP_GraphR:ReadsP 26 GraphD FitR:=⟨by kernel_rfl,fun h hw=>readsP_Graph.read h hw⟩
theorem cells_Plan:Tryz.prog.cellsOf 30 = 7:=by kernel_rfl
theorem readsP_Plan.read {H:Type} {enc:TypeId × Value→H} {w:World} {held:Bool} {fuel:Nat} {cs:List Value} {x:DataW H × List MemPlace} (h:DataW.trod enc Tryz.prog w 0 (fun _=>true) held fuel 30 cs = some x)
  (hw:∀ n ∈ x.1.weights Tryz.prog 30,n ≤ reachBytes):∃ a:PlanD,rep w (old w.heap.size) cs a∧∀ n,Rows.uptoBulk x.1 ≤ n→FitR a.graph n:=by
 obtain ⟨hl,bl,hbs,hbl,hp⟩:=structP_parts Tryz.underlying30 h hw
 obtain ⟨a0,h0,b0⟩:=hp 0 _ GraphD _ rfl readsP_GraphR
 obtain ⟨a1,h1,-⟩:=hp 1 _ (List TaskD) _ rfl (reads_slice Tryz.underlying27 (by kernel_rfl) (by kernel_rfl) reads_Task).p
 obtain ⟨a2,h2,-⟩:=hp 2 _ (List Int) _ rfl reads_ints.p
 obtain ⟨a3,h3,-⟩:=hp 3 _ (List Bool) _ rfl reads_bools.p
 rw [cells_Plan] at hl
 have g0:=getD_le (l:=bl) (i:=0)
 match cs,hl with
 | [v0,v1,v2,v3,v4,v5,v6],_=>exact ⟨⟨a0,a3,a1,a2⟩,⟨[v0,v1,v2,v3],[v4],[v5],[v6],rfl,h0,h1,h2,h3⟩,fun n hn=>by
   obtain ⟨f1,f2,f3,f4,f5⟩:=b0
   exact ⟨by show a0.vals.length ≤ n;omega,by show a0.nodes.length ≤ n;omega,fun z hz=>by have:=f3 z hz;omega,by show a0.outputs.length ≤ n;omega,by show a0.inputs.length + (a0.nodes.map fun z=>z.outs.length).sum ≤ n;omega⟩⟩
end Go.Proofs.YtoeaglpmkjoenaaGreat
