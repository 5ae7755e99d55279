/-
  What 'Resolve' answers, as a plain function of the node.
-/
/-
  Plain laws of what 'Resolve' answers: what is taken names every attribute once; a value that stands anyway says nothing.
-/
import Derived.Test.YtgbkhcmbmffljaaDoorPOpsQ
import Derived.Test.YtgbkhcmbmffljaaDoorPOpsK
import Derived.Test.YtgbkhcmbmffljaaDoorPOpsR
import Derived.Test.YtgbkhcmbmffljaaDoorPOpsI
set_option linter.unusedSimpArgs false
namespace Go.Proofs.YtgbkhcmbmffljaaDoor
open Go.RowKit
open Rep (rep)
def countD (l:List AttrD) (s:ByteArray):Nat:=(l.filter fun a=>decide (a.name = s)).length
def foundD (l:List AttrD) (s:ByteArray):Option AttrD:=l.find? fun a=>decide (a.name = s)
def stepD (op:Int) (l:List AttrD):List SortD→SettingD→Nat→Option (SettingD × Nat)
 | [],s,k=>some (s,k)
 | x :: xs,s,k =>
  if 1 < countD l x.name then none
  else if countD l x.name = 0 then (if x.must then none else stepD op l xs s k)
  else match foundD l x.name with
   | none=>none
   | some a=>if a.kind = kindD x.letter.toNat∧mayD x.letter.toNat op x.name a = true then stepD op l xs (setD op a s) (k + 1) else none
def sPads:ByteArray:=⟨#[112,97,100,115]⟩
def errAttr:Int:=14
def resolveD (n:NodeD):Int × SettingD × Int :=
 if numberD n.op = 0 then (0,settingD0,7)
 else if countsD (findD (numberD n.op)) n = false then (0,settingD0,1)
 else match stepD (numberD n.op) n.attrs (sortsD (findD (numberD n.op))) (leftD (numberD n.op)) 0 with
  | none=>(0,settingD0,errAttr)
  | some (s,k)=>if k ≠ n.attrs.length ∨ numberD n.op = 61∧k ≠ 1 ∨ s.auto ≠ 0∧0 < countD n.attrs sPads then (0,settingD0,errAttr) else (numberD n.op,s,0)
theorem count_snoc (l:List AttrD) (a:AttrD) (s:ByteArray):countD (l++[a]) s = countD l s + if a.name = s then 1 else 0:=by
 unfold countD
 rw [List.filter_append,List.length_append]
 by_cases h:a.name = s <;> simp [h]
theorem count_le (l:List AttrD) (s:ByteArray):countD l s ≤ l.length:=List.length_filter_le _ _
theorem found_head (l:List AttrD) (s:ByteArray):foundD l s = (l.filter fun a=>decide (a.name = s)).head?:=(List.head?_filter ..).symm
theorem found_once {l:List AttrD} {s:ByteArray} {j:Nat} {a:AttrD} (h1:countD l s = 1) (hj:l[j]? = some a) (ha:a.name = s):foundD l s = some a:=by
 rw [found_head]
 unfold countD at h1
 have hm:a ∈ l.filter (fun a=>decide (a.name = s)):=List.mem_filter.2 ⟨List.mem_of_getElem? hj,by simp [ha]⟩
 generalize l.filter (fun a=>decide (a.name = s)) = m at *
 match m,h1 with
 | [b],_=>simp at hm;rw [hm];rfl
end Go.Proofs.YtgbkhcmbmffljaaDoor
set_option linter.unusedSimpArgs false
namespace Go.Proofs.YtgbkhcmbmffljaaDoor
open Go.RowKit
open Rep (rep)
def timesD (xs:List SortD) (s:ByteArray):Nat:=(xs.filter fun x=>decide (x.name = s)).length
theorem count_cons (a:AttrD) (l:List AttrD) (s:ByteArray):countD (a :: l) s = (if a.name = s then 1 else 0) + countD l s:=by
 unfold countD
 by_cases h:a.name = s <;> simp [h];omega
def apartD (xs:List SortD):Bool:=xs.all fun x=>decide (timesD xs x.name = 1)
theorem rows_apart:((noRow :: tableD).all fun r=>apartD (sortsD r)) = true:=by decide +kernel
theorem findD_mem (op:Int):findD op ∈ noRow :: tableD:=by
 unfold findD
 split
 ·simp
 ·cases hz:tableD[(op - 1).toNat]? with
  | none=>simp
  | some z=>exact List.mem_cons_of_mem _ (List.mem_of_getElem? hz)
theorem sorts_apart (op:Int):∀ x ∈ sortsD (findD op),timesD (sortsD (findD op)) x.name = 1:=by
 have h:=List.all_eq_true.1 rows_apart _ (findD_mem op)
 unfold apartD at h
 intro x hx
 simpa using List.all_eq_true.1 h x hx
theorem times_pos {xs:List SortD} {s:ByteArray} (h:timesD xs s ≠ 0):∃ x ∈ xs,x.name = s:=by
 unfold timesD at h
 cases hf:xs.filter (fun x=>decide (x.name = s)) with
 | nil=>rw [hf] at h;exact absurd rfl h
 | cons x r =>
  have:x ∈ xs.filter (fun x=>decide (x.name = s)):=by rw [hf];simp
  obtain ⟨h1,h2⟩:=List.mem_filter.1 this
  exact ⟨x,h1,by simpa using h2⟩
theorem times_le (op:Int) (s:ByteArray):timesD (sortsD (findD op)) s ≤ 1:=by
 rcases Nat.eq_zero_or_pos (timesD (sortsD (findD op)) s) with h | h
 ·omega
 ·obtain ⟨x,hx,rfl⟩:=times_pos (by omega:timesD (sortsD (findD op)) s ≠ 0)
  rw [sorts_apart op x hx];exact Nat.le_refl _
structure TakenD (n:NodeD) (op:Int) (s:SettingD) (k:Nat):Prop where
 op0:op ≠ 0
 num:numberD n.op = op
 counts:countsD (findD op) n = true
 step:stepD op n.attrs (sortsD (findD op)) (leftD op) 0 = some (s,k)
 all:k = n.attrs.length
 one:op = 61→k = 1
 pads:s.auto ≠ 0→countD n.attrs sPads = 0
end Go.Proofs.YtgbkhcmbmffljaaDoor
