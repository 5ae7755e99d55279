/-
  The reference of chapter 08: names, numbers, arities, rows.
-/
import Derived.Test.YtgbkhcmbmffljaaDoorAwakeP
import Derived.Test.YtgbkhcmbmffljaaDoorLay
import Derived.Test.YtgbkhcmbmffljaaDoorOpsG
set_option linter.unusedSimpArgs false
set_option maxRecDepth 100000
namespace Go.Proofs.YtgbkhcmbmffljaaDoor
open Go.RowKit
open Rep (rep)

theorem names_lay (n : Nat) : layCall Tryd.prog 33 #[] n = some (.slice (some ⟨n, 0, none⟩) 80 80, [.cells (tableD.map fun r => Value.string r.name).toArray 9]) := by kernel_rfl
theorem names_any (w : World) : Calls Tryd.prog 33 #[] w fun e w' => e = .returned (.slice (some ⟨w.heap.size, 0, none⟩) 80 80) ∧
    w'.heap[w.heap.size]? = some (.cells (tableD.map fun r => Value.string r.name).toArray 9 (0, 0)) ∧ Below w.heap.size w w' := by
  refine (calls_lay (names_lay _)).mono ?_
  rintro e w' ⟨rfl, rfl⟩
  exact ⟨rfl, heap_alloc_new w _, (Below.refl _ _).alloc (Nat.le_refl _) _⟩
theorem arr_23 (n : Nat) : layCall Tryd.prog 13 #[.int .i64 23] n = some (.tuple #[.int .i64 (findD 23).least, .int .i64 (findD 23).most, .int .i64 (findD 23).out, .int .i64 (findD 23).mostOuts], []) := by kernel_rfl
theorem arr_24 (n : Nat) : layCall Tryd.prog 13 #[.int .i64 24] n = some (.tuple #[.int .i64 (findD 24).least, .int .i64 (findD 24).most, .int .i64 (findD 24).out, .int .i64 (findD 24).mostOuts], []) := by kernel_rfl
theorem arr_25 (n : Nat) : layCall Tryd.prog 13 #[.int .i64 25] n = some (.tuple #[.int .i64 (findD 25).least, .int .i64 (findD 25).most, .int .i64 (findD 25).out, .int .i64 (findD 25).mostOuts], []) := by kernel_rfl
theorem arr_28 (n : Nat) : layCall Tryd.prog 13 #[.int .i64 28] n = some (.tuple #[.int .i64 (findD 28).least, .int .i64 (findD 28).most, .int .i64 (findD 28).out, .int .i64 (findD 28).mostOuts], []) := by kernel_rfl
theorem arr_29 (n : Nat) : layCall Tryd.prog 13 #[.int .i64 29] n = some (.tuple #[.int .i64 (findD 29).least, .int .i64 (findD 29).most, .int .i64 (findD 29).out, .int .i64 (findD 29).mostOuts], []) := by kernel_rfl
theorem arr_30 (n : Nat) : layCall Tryd.prog 13 #[.int .i64 30] n = some (.tuple #[.int .i64 (findD 30).least, .int .i64 (findD 30).most, .int .i64 (findD 30).out, .int .i64 (findD 30).mostOuts], []) := by kernel_rfl
theorem arr_31 (n : Nat) : layCall Tryd.prog 13 #[.int .i64 31] n = some (.tuple #[.int .i64 (findD 31).least, .int .i64 (findD 31).most, .int .i64 (findD 31).out, .int .i64 (findD 31).mostOuts], []) := by kernel_rfl
theorem arr_32 (n : Nat) : layCall Tryd.prog 13 #[.int .i64 32] n = some (.tuple #[.int .i64 (findD 32).least, .int .i64 (findD 32).most, .int .i64 (findD 32).out, .int .i64 (findD 32).mostOuts], []) := by kernel_rfl
theorem arr_33 (n : Nat) : layCall Tryd.prog 13 #[.int .i64 33] n = some (.tuple #[.int .i64 (findD 33).least, .int .i64 (findD 33).most, .int .i64 (findD 33).out, .int .i64 (findD 33).mostOuts], []) := by kernel_rfl
theorem arr_34 (n : Nat) : layCall Tryd.prog 13 #[.int .i64 34] n = some (.tuple #[.int .i64 (findD 34).least, .int .i64 (findD 34).most, .int .i64 (findD 34).out, .int .i64 (findD 34).mostOuts], []) := by kernel_rfl
theorem arr_35 (n : Nat) : layCall Tryd.prog 13 #[.int .i64 35] n = some (.tuple #[.int .i64 (findD 35).least, .int .i64 (findD 35).most, .int .i64 (findD 35).out, .int .i64 (findD 35).mostOuts], []) := by kernel_rfl
theorem arr_36 (n : Nat) : layCall Tryd.prog 13 #[.int .i64 36] n = some (.tuple #[.int .i64 (findD 36).least, .int .i64 (findD 36).most, .int .i64 (findD 36).out, .int .i64 (findD 36).mostOuts], []) := by kernel_rfl
theorem arr_37 (n : Nat) : layCall Tryd.prog 13 #[.int .i64 37] n = some (.tuple #[.int .i64 (findD 37).least, .int .i64 (findD 37).most, .int .i64 (findD 37).out, .int .i64 (findD 37).mostOuts], []) := by kernel_rfl
theorem arr_38 (n : Nat) : layCall Tryd.prog 13 #[.int .i64 38] n = some (.tuple #[.int .i64 (findD 38).least, .int .i64 (findD 38).most, .int .i64 (findD 38).out, .int .i64 (findD 38).mostOuts], []) := by kernel_rfl
theorem arr_39 (n : Nat) : layCall Tryd.prog 13 #[.int .i64 39] n = some (.tuple #[.int .i64 (findD 39).least, .int .i64 (findD 39).most, .int .i64 (findD 39).out, .int .i64 (findD 39).mostOuts], []) := by kernel_rfl
theorem arr_40 (n : Nat) : layCall Tryd.prog 13 #[.int .i64 40] n = some (.tuple #[.int .i64 (findD 40).least, .int .i64 (findD 40).most, .int .i64 (findD 40).out, .int .i64 (findD 40).mostOuts], []) := by kernel_rfl
theorem arr_41 (n : Nat) : layCall Tryd.prog 13 #[.int .i64 41] n = some (.tuple #[.int .i64 (findD 41).least, .int .i64 (findD 41).most, .int .i64 (findD 41).out, .int .i64 (findD 41).mostOuts], []) := by kernel_rfl
theorem arr_46 (n : Nat) : layCall Tryd.prog 13 #[.int .i64 46] n = some (.tuple #[.int .i64 (findD 46).least, .int .i64 (findD 46).most, .int .i64 (findD 46).out, .int .i64 (findD 46).mostOuts], []) := by kernel_rfl
theorem arr_50 (n : Nat) : layCall Tryd.prog 13 #[.int .i64 50] n = some (.tuple #[.int .i64 (findD 50).least, .int .i64 (findD 50).most, .int .i64 (findD 50).out, .int .i64 (findD 50).mostOuts], []) := by kernel_rfl
theorem arr_51 (n : Nat) : layCall Tryd.prog 13 #[.int .i64 51] n = some (.tuple #[.int .i64 (findD 51).least, .int .i64 (findD 51).most, .int .i64 (findD 51).out, .int .i64 (findD 51).mostOuts], []) := by kernel_rfl
theorem arr_54 (n : Nat) : layCall Tryd.prog 13 #[.int .i64 54] n = some (.tuple #[.int .i64 (findD 54).least, .int .i64 (findD 54).most, .int .i64 (findD 54).out, .int .i64 (findD 54).mostOuts], []) := by kernel_rfl
theorem arr_55 (n : Nat) : layCall Tryd.prog 13 #[.int .i64 55] n = some (.tuple #[.int .i64 (findD 55).least, .int .i64 (findD 55).most, .int .i64 (findD 55).out, .int .i64 (findD 55).mostOuts], []) := by kernel_rfl
theorem arr_57 (n : Nat) : layCall Tryd.prog 13 #[.int .i64 57] n = some (.tuple #[.int .i64 (findD 57).least, .int .i64 (findD 57).most, .int .i64 (findD 57).out, .int .i64 (findD 57).mostOuts], []) := by kernel_rfl
theorem arr_73 (n : Nat) : layCall Tryd.prog 13 #[.int .i64 73] n = some (.tuple #[.int .i64 (findD 73).least, .int .i64 (findD 73).most, .int .i64 (findD 73).out, .int .i64 (findD 73).mostOuts], []) := by kernel_rfl
theorem arr_42 (n : Nat) : layCall Tryd.prog 13 #[.int .i64 42] n = some (.tuple #[.int .i64 (findD 42).least, .int .i64 (findD 42).most, .int .i64 (findD 42).out, .int .i64 (findD 42).mostOuts], []) := by kernel_rfl
theorem arr_52 (n : Nat) : layCall Tryd.prog 13 #[.int .i64 52] n = some (.tuple #[.int .i64 (findD 52).least, .int .i64 (findD 52).most, .int .i64 (findD 52).out, .int .i64 (findD 52).mostOuts], []) := by kernel_rfl
theorem arr_43 (n : Nat) : layCall Tryd.prog 13 #[.int .i64 43] n = some (.tuple #[.int .i64 (findD 43).least, .int .i64 (findD 43).most, .int .i64 (findD 43).out, .int .i64 (findD 43).mostOuts], []) := by kernel_rfl
theorem arr_47 (n : Nat) : layCall Tryd.prog 13 #[.int .i64 47] n = some (.tuple #[.int .i64 (findD 47).least, .int .i64 (findD 47).most, .int .i64 (findD 47).out, .int .i64 (findD 47).mostOuts], []) := by kernel_rfl
theorem arr_48 (n : Nat) : layCall Tryd.prog 13 #[.int .i64 48] n = some (.tuple #[.int .i64 (findD 48).least, .int .i64 (findD 48).most, .int .i64 (findD 48).out, .int .i64 (findD 48).mostOuts], []) := by kernel_rfl
theorem arr_49 (n : Nat) : layCall Tryd.prog 13 #[.int .i64 49] n = some (.tuple #[.int .i64 (findD 49).least, .int .i64 (findD 49).most, .int .i64 (findD 49).out, .int .i64 (findD 49).mostOuts], []) := by kernel_rfl
theorem arr_53 (n : Nat) : layCall Tryd.prog 13 #[.int .i64 53] n = some (.tuple #[.int .i64 (findD 53).least, .int .i64 (findD 53).most, .int .i64 (findD 53).out, .int .i64 (findD 53).mostOuts], []) := by kernel_rfl
theorem arr_74 (n : Nat) : layCall Tryd.prog 13 #[.int .i64 74] n = some (.tuple #[.int .i64 (findD 74).least, .int .i64 (findD 74).most, .int .i64 (findD 74).out, .int .i64 (findD 74).mostOuts], []) := by kernel_rfl
theorem arr_75 (n : Nat) : layCall Tryd.prog 13 #[.int .i64 75] n = some (.tuple #[.int .i64 (findD 75).least, .int .i64 (findD 75).most, .int .i64 (findD 75).out, .int .i64 (findD 75).mostOuts], []) := by kernel_rfl
theorem arr_80 (n : Nat) : layCall Tryd.prog 13 #[.int .i64 80] n = some (.tuple #[.int .i64 (findD 80).least, .int .i64 (findD 80).most, .int .i64 (findD 80).out, .int .i64 (findD 80).mostOuts], []) := by kernel_rfl
theorem arr_56 (n : Nat) : layCall Tryd.prog 13 #[.int .i64 56] n = some (.tuple #[.int .i64 (findD 56).least, .int .i64 (findD 56).most, .int .i64 (findD 56).out, .int .i64 (findD 56).mostOuts], []) := by kernel_rfl
theorem arr_65 (n : Nat) : layCall Tryd.prog 13 #[.int .i64 65] n = some (.tuple #[.int .i64 (findD 65).least, .int .i64 (findD 65).most, .int .i64 (findD 65).out, .int .i64 (findD 65).mostOuts], []) := by kernel_rfl
theorem arr_61 (n : Nat) : layCall Tryd.prog 13 #[.int .i64 61] n = some (.tuple #[.int .i64 (findD 61).least, .int .i64 (findD 61).most, .int .i64 (findD 61).out, .int .i64 (findD 61).mostOuts], []) := by kernel_rfl
theorem arr_79 (n : Nat) : layCall Tryd.prog 13 #[.int .i64 79] n = some (.tuple #[.int .i64 (findD 79).least, .int .i64 (findD 79).most, .int .i64 (findD 79).out, .int .i64 (findD 79).mostOuts], []) := by kernel_rfl
/-- A sort's name by its letter. -/
def sortName (c : UInt8) : ByteArray := if c = 102 then ⟨#[102, 108, 111, 97, 116]⟩ else if c = 98 then ⟨#[102, 108, 97, 103]⟩ else if c = 121 then ⟨#[116, 121, 112, 101]⟩ else if c = 112 then ⟨#[112, 108, 97, 99, 101, 115]⟩ else if c = 97 then ⟨#[97, 120, 105, 115]⟩ else if c = 116 then ⟨#[116, 101, 120, 116]⟩ else if c = 105 then ⟨#[105, 110, 116]⟩ else if c = 84 then ⟨#[116, 101, 110, 115, 111, 114]⟩ else if c = 70 then ⟨#[102, 108, 111, 97, 116, 115]⟩ else if c = 73 then ⟨#[105, 110, 116, 115]⟩ else if c = 83 then ⟨#[115, 105, 110, 103, 108, 101]⟩ else if c = 115 then ⟨#[115, 105, 122, 101]⟩ else if c = 120 then ⟨#[97, 120, 101, 115]⟩ else if c = 122 then ⟨#[115, 105, 122, 101, 115]⟩ else if c = 100 then ⟨#[112, 97, 100, 115]⟩ else if c = 48 then ⟨#[122, 101, 114, 111]⟩ else if c = 49 then ⟨#[111, 110, 101]⟩ else ⟨#[]⟩
def rowsD (r : RowD) : List AttrRowD := (sortsD r).map fun x => ⟨x.name, sortName x.letter, x.must⟩
def AttrRowD.cells (x : AttrRowD) : List Value := [.string x.name, .string x.kind, .bool x.must]
def rowsV (n : Nat) (r : RowD) : Value × List Obj := match rowsD r with
  | [] => (.slice none 0 0, [])
  | x :: l => (.slice (some ⟨n, 0, none⟩) (l.length + 1) (l.length + 1), [.cells ((x :: l).flatMap AttrRowD.cells).toArray 32])
theorem row_17 (n : Nat) : layCall Tryd.prog 15 #[.int .i64 17] n = some (rowsV n (findD 17)) := by kernel_rfl
theorem row_18 (n : Nat) : layCall Tryd.prog 15 #[.int .i64 18] n = some (rowsV n (findD 18)) := by kernel_rfl
theorem row_19 (n : Nat) : layCall Tryd.prog 15 #[.int .i64 19] n = some (rowsV n (findD 19)) := by kernel_rfl
theorem row_27 (n : Nat) : layCall Tryd.prog 15 #[.int .i64 27] n = some (rowsV n (findD 27)) := by kernel_rfl
theorem row_32 (n : Nat) : layCall Tryd.prog 15 #[.int .i64 32] n = some (rowsV n (findD 32)) := by kernel_rfl
theorem row_44 (n : Nat) : layCall Tryd.prog 15 #[.int .i64 44] n = some (rowsV n (findD 44)) := by kernel_rfl
theorem row_45 (n : Nat) : layCall Tryd.prog 15 #[.int .i64 45] n = some (rowsV n (findD 45)) := by kernel_rfl
theorem row_46 (n : Nat) : layCall Tryd.prog 15 #[.int .i64 46] n = some (rowsV n (findD 46)) := by kernel_rfl
theorem row_47 (n : Nat) : layCall Tryd.prog 15 #[.int .i64 47] n = some (rowsV n (findD 47)) := by kernel_rfl
theorem row_48 (n : Nat) : layCall Tryd.prog 15 #[.int .i64 48] n = some (rowsV n (findD 48)) := by kernel_rfl
theorem row_50 (n : Nat) : layCall Tryd.prog 15 #[.int .i64 50] n = some (rowsV n (findD 50)) := by kernel_rfl
theorem row_51 (n : Nat) : layCall Tryd.prog 15 #[.int .i64 51] n = some (rowsV n (findD 51)) := by kernel_rfl
theorem row_52 (n : Nat) : layCall Tryd.prog 15 #[.int .i64 52] n = some (rowsV n (findD 52)) := by kernel_rfl
theorem row_53 (n : Nat) : layCall Tryd.prog 15 #[.int .i64 53] n = some (rowsV n (findD 53)) := by kernel_rfl
theorem row_58 (n : Nat) : layCall Tryd.prog 15 #[.int .i64 58] n = some (rowsV n (findD 58)) := by kernel_rfl
theorem row_59 (n : Nat) : layCall Tryd.prog 15 #[.int .i64 59] n = some (rowsV n (findD 59)) := by kernel_rfl
theorem row_61 (n : Nat) : layCall Tryd.prog 15 #[.int .i64 61] n = some (rowsV n (findD 61)) := by kernel_rfl
theorem row_62 (n : Nat) : layCall Tryd.prog 15 #[.int .i64 62] n = some (rowsV n (findD 62)) := by kernel_rfl
theorem row_63 (n : Nat) : layCall Tryd.prog 15 #[.int .i64 63] n = some (rowsV n (findD 63)) := by kernel_rfl
theorem row_64 (n : Nat) : layCall Tryd.prog 15 #[.int .i64 64] n = some (rowsV n (findD 64)) := by kernel_rfl
theorem row_65 (n : Nat) : layCall Tryd.prog 15 #[.int .i64 65] n = some (rowsV n (findD 65)) := by kernel_rfl
theorem row_66 (n : Nat) : layCall Tryd.prog 15 #[.int .i64 66] n = some (rowsV n (findD 66)) := by kernel_rfl
theorem row_67 (n : Nat) : layCall Tryd.prog 15 #[.int .i64 67] n = some (rowsV n (findD 67)) := by kernel_rfl
theorem row_68 (n : Nat) : layCall Tryd.prog 15 #[.int .i64 68] n = some (rowsV n (findD 68)) := by kernel_rfl
theorem row_69 (n : Nat) : layCall Tryd.prog 15 #[.int .i64 69] n = some (rowsV n (findD 69)) := by kernel_rfl
theorem row_70 (n : Nat) : layCall Tryd.prog 15 #[.int .i64 70] n = some (rowsV n (findD 70)) := by kernel_rfl
theorem row_71 (n : Nat) : layCall Tryd.prog 15 #[.int .i64 71] n = some (rowsV n (findD 71)) := by kernel_rfl
theorem row_72 (n : Nat) : layCall Tryd.prog 15 #[.int .i64 72] n = some (rowsV n (findD 72)) := by kernel_rfl
theorem row_74 (n : Nat) : layCall Tryd.prog 15 #[.int .i64 74] n = some (rowsV n (findD 74)) := by kernel_rfl
theorem row_75 (n : Nat) : layCall Tryd.prog 15 #[.int .i64 75] n = some (rowsV n (findD 75)) := by kernel_rfl
theorem row_76 (n : Nat) : layCall Tryd.prog 15 #[.int .i64 76] n = some (rowsV n (findD 76)) := by kernel_rfl
theorem row_77 (n : Nat) : layCall Tryd.prog 15 #[.int .i64 77] n = some (rowsV n (findD 77)) := by kernel_rfl
theorem row_79 (n : Nat) : layCall Tryd.prog 15 #[.int .i64 79] n = some (rowsV n (findD 79)) := by kernel_rfl
theorem row_80 (n : Nat) : layCall Tryd.prog 15 #[.int .i64 80] n = some (rowsV n (findD 80)) := by kernel_rfl
theorem find_row {op : Int} (h1 : 1 ≤ op) (h2 : op ≤ 80) : ∃ k : Nat, op = (k : Int) + 1 ∧ k < 80 := ⟨(op - 1).toNat, by omega, by omega⟩
theorem findD_of {k : Nat} {r : RowD} (h : tableD[k]? = some r) (hk : k < 80) : findD ((k : Int) + 1) = r := by
  unfold findD
  rw [if_neg (by omega), show ((k : Int) + 1 - 1).toNat = k by omega, h]
  rfl
theorem findD_out {op : Int} (h : op < 1 ∨ op > 80) : findD op = noRow := by unfold findD; rw [if_pos h]

/-- The operators that the reference names by number. -/
def arList : List Int := [23, 24, 25, 28, 29, 30, 31, 32, 33, 34, 35, 36, 37, 38, 39, 40, 41, 46, 50, 51, 54, 55, 57, 73, 42, 52, 43, 47, 48, 49, 53, 74, 75, 80, 56, 65, 61, 79]
def rwList : List Int := [17, 18, 19, 27, 32, 44, 45, 46, 47, 48, 50, 51, 52, 53, 58, 59, 61, 62, 63, 64, 65, 66, 67, 68, 69, 70, 71, 72, 74, 75, 76, 77, 79, 80]
theorem ar_rest : ((List.range 80).all fun k => arList.contains ((k : Int) + 1) || (decide ((findD ((k : Int) + 1)).least = 1) && decide ((findD ((k : Int) + 1)).most = 1) && decide ((findD ((k : Int) + 1)).out = 1) && decide ((findD ((k : Int) + 1)).mostOuts = 1))) = true := by decide +kernel
theorem rw_rest : ((List.range 80).all fun k => rwList.contains ((k : Int) + 1) || (rowsD (findD ((k : Int) + 1))).isEmpty) = true := by decide +kernel
theorem ar_of {op : Int} (h1 : 1 ≤ op) (h2 : op ≤ 80) (h : op ∉ arList) : (findD op).least = 1 ∧ (findD op).most = 1 ∧ (findD op).out = 1 ∧ (findD op).mostOuts = 1 := by
  obtain ⟨k, rfl, hk⟩ := find_row h1 h2
  have := List.all_eq_true.1 ar_rest k (List.mem_range.2 hk)
  simp only [Bool.or_eq_true, Bool.and_eq_true, decide_eq_true_eq] at this
  rcases this with h3 | ⟨⟨⟨h3, h4⟩, h5⟩, h6⟩
  · exact absurd (List.contains_iff_mem.1 h3) h
  · exact ⟨h3, h4, h5, h6⟩
theorem rw_of {op : Int} (h : op ∉ rwList) : rowsD (findD op) = [] := by
  by_cases ho : op < 1 ∨ op > 80
  · rw [findD_out ho]; rfl
  · obtain ⟨k, rfl, hk⟩ := find_row (op := op) (by omega) (by omega)
    have := List.all_eq_true.1 rw_rest k (List.mem_range.2 hk)
    simp only [Bool.or_eq_true] at this
    rcases this with h3 | h3
    · exact absurd (List.contains_iff_mem.1 h3) h
    · exact List.isEmpty_iff.1 h3

set_option maxHeartbeats 4000000 in
theorem arityR_rest (op : Int) (h1 : ¬ op < 1) (h2 : ¬ 80 < op) (h : op ∉ arList) (w : World) : Calls Tryd.prog 13 #[.int .i64 op] w fun e w' => e = .returned (.tuple #[.int .i64 1, .int .i64 1, .int .i64 1, .int .i64 1]) ∧ w = w' := by
  simp only [arList, List.mem_cons, List.not_mem_nil, or_false, not_or] at h
  obtain ⟨q23, q24, q25, q28, q29, q30, q31, q32, q33, q34, q35, q36, q37, q38, q39, q40, q41, q46, q50, q51, q54, q55, q57, q73, q42, q52, q43, q47, q48, q49, q53, q74, q75, q80, q56, q65, q61, q79⟩ := h
  go_enter Tryd.func13, Tryd.ntmps13
  go_wp2
  refine bodyPost_ret (v := .tuple #[.int .i64 1, .int .i64 1, .int .i64 1, .int .i64 1]) (by simp [results, Tryd.results13]) rfl ⟨rfl, rfl⟩
set_option maxHeartbeats 4000000 in
theorem arityR_any (op : Int) (w : World) : Calls Tryd.prog 13 #[.int .i64 op] w fun e w' => e = .returned (.tuple #[.int .i64 (findD op).least, .int .i64 (findD op).most, .int .i64 (findD op).out, .int .i64 (findD op).mostOuts]) ∧ Below w.heap.size w w' := by
  by_cases h1 : op < 1
  · rw [findD_out (.inl h1)]
    go_enter Tryd.func13, Tryd.ntmps13
    go_wp2
    refine bodyPost_ret (v := .tuple #[.int .i64 0, .int .i64 0, .int .i64 0, .int .i64 0]) (by simp [results, Tryd.results13]) rfl ⟨rfl, Below.refl _ _⟩
  · by_cases h2 : op > 80
    · rw [findD_out (.inr h2)]
      have h3 : 80 < op := h2
      go_enter Tryd.func13, Tryd.ntmps13
      go_wp2
      refine bodyPost_ret (v := .tuple #[.int .i64 0, .int .i64 0, .int .i64 0, .int .i64 0]) (by simp [results, Tryd.results13]) rfl ⟨rfl, Below.refl _ _⟩
    · by_cases h3 : op ∈ arList
      · simp only [arList, List.mem_cons, List.not_mem_nil, or_false] at h3
        rcases h3 with rfl | rfl | rfl | rfl | rfl | rfl | rfl | rfl | rfl | rfl | rfl | rfl | rfl | rfl | rfl | rfl | rfl | rfl | rfl | rfl | rfl | rfl | rfl | rfl | rfl | rfl | rfl | rfl | rfl | rfl | rfl | rfl | rfl | rfl | rfl | rfl | rfl | rfl
        · exact (calls_lay (arr_23 _)).mono fun e w' ⟨he, hw⟩ => ⟨he, hw ▸ Below.refl _ _⟩
        · exact (calls_lay (arr_24 _)).mono fun e w' ⟨he, hw⟩ => ⟨he, hw ▸ Below.refl _ _⟩
        · exact (calls_lay (arr_25 _)).mono fun e w' ⟨he, hw⟩ => ⟨he, hw ▸ Below.refl _ _⟩
        · exact (calls_lay (arr_28 _)).mono fun e w' ⟨he, hw⟩ => ⟨he, hw ▸ Below.refl _ _⟩
        · exact (calls_lay (arr_29 _)).mono fun e w' ⟨he, hw⟩ => ⟨he, hw ▸ Below.refl _ _⟩
        · exact (calls_lay (arr_30 _)).mono fun e w' ⟨he, hw⟩ => ⟨he, hw ▸ Below.refl _ _⟩
        · exact (calls_lay (arr_31 _)).mono fun e w' ⟨he, hw⟩ => ⟨he, hw ▸ Below.refl _ _⟩
        · exact (calls_lay (arr_32 _)).mono fun e w' ⟨he, hw⟩ => ⟨he, hw ▸ Below.refl _ _⟩
        · exact (calls_lay (arr_33 _)).mono fun e w' ⟨he, hw⟩ => ⟨he, hw ▸ Below.refl _ _⟩
        · exact (calls_lay (arr_34 _)).mono fun e w' ⟨he, hw⟩ => ⟨he, hw ▸ Below.refl _ _⟩
        · exact (calls_lay (arr_35 _)).mono fun e w' ⟨he, hw⟩ => ⟨he, hw ▸ Below.refl _ _⟩
        · exact (calls_lay (arr_36 _)).mono fun e w' ⟨he, hw⟩ => ⟨he, hw ▸ Below.refl _ _⟩
        · exact (calls_lay (arr_37 _)).mono fun e w' ⟨he, hw⟩ => ⟨he, hw ▸ Below.refl _ _⟩
        · exact (calls_lay (arr_38 _)).mono fun e w' ⟨he, hw⟩ => ⟨he, hw ▸ Below.refl _ _⟩
        · exact (calls_lay (arr_39 _)).mono fun e w' ⟨he, hw⟩ => ⟨he, hw ▸ Below.refl _ _⟩
        · exact (calls_lay (arr_40 _)).mono fun e w' ⟨he, hw⟩ => ⟨he, hw ▸ Below.refl _ _⟩
        · exact (calls_lay (arr_41 _)).mono fun e w' ⟨he, hw⟩ => ⟨he, hw ▸ Below.refl _ _⟩
        · exact (calls_lay (arr_46 _)).mono fun e w' ⟨he, hw⟩ => ⟨he, hw ▸ Below.refl _ _⟩
        · exact (calls_lay (arr_50 _)).mono fun e w' ⟨he, hw⟩ => ⟨he, hw ▸ Below.refl _ _⟩
        · exact (calls_lay (arr_51 _)).mono fun e w' ⟨he, hw⟩ => ⟨he, hw ▸ Below.refl _ _⟩
        · exact (calls_lay (arr_54 _)).mono fun e w' ⟨he, hw⟩ => ⟨he, hw ▸ Below.refl _ _⟩
        · exact (calls_lay (arr_55 _)).mono fun e w' ⟨he, hw⟩ => ⟨he, hw ▸ Below.refl _ _⟩
        · exact (calls_lay (arr_57 _)).mono fun e w' ⟨he, hw⟩ => ⟨he, hw ▸ Below.refl _ _⟩
        · exact (calls_lay (arr_73 _)).mono fun e w' ⟨he, hw⟩ => ⟨he, hw ▸ Below.refl _ _⟩
        · exact (calls_lay (arr_42 _)).mono fun e w' ⟨he, hw⟩ => ⟨he, hw ▸ Below.refl _ _⟩
        · exact (calls_lay (arr_52 _)).mono fun e w' ⟨he, hw⟩ => ⟨he, hw ▸ Below.refl _ _⟩
        · exact (calls_lay (arr_43 _)).mono fun e w' ⟨he, hw⟩ => ⟨he, hw ▸ Below.refl _ _⟩
        · exact (calls_lay (arr_47 _)).mono fun e w' ⟨he, hw⟩ => ⟨he, hw ▸ Below.refl _ _⟩
        · exact (calls_lay (arr_48 _)).mono fun e w' ⟨he, hw⟩ => ⟨he, hw ▸ Below.refl _ _⟩
        · exact (calls_lay (arr_49 _)).mono fun e w' ⟨he, hw⟩ => ⟨he, hw ▸ Below.refl _ _⟩
        · exact (calls_lay (arr_53 _)).mono fun e w' ⟨he, hw⟩ => ⟨he, hw ▸ Below.refl _ _⟩
        · exact (calls_lay (arr_74 _)).mono fun e w' ⟨he, hw⟩ => ⟨he, hw ▸ Below.refl _ _⟩
        · exact (calls_lay (arr_75 _)).mono fun e w' ⟨he, hw⟩ => ⟨he, hw ▸ Below.refl _ _⟩
        · exact (calls_lay (arr_80 _)).mono fun e w' ⟨he, hw⟩ => ⟨he, hw ▸ Below.refl _ _⟩
        · exact (calls_lay (arr_56 _)).mono fun e w' ⟨he, hw⟩ => ⟨he, hw ▸ Below.refl _ _⟩
        · exact (calls_lay (arr_65 _)).mono fun e w' ⟨he, hw⟩ => ⟨he, hw ▸ Below.refl _ _⟩
        · exact (calls_lay (arr_61 _)).mono fun e w' ⟨he, hw⟩ => ⟨he, hw ▸ Below.refl _ _⟩
        · exact (calls_lay (arr_79 _)).mono fun e w' ⟨he, hw⟩ => ⟨he, hw ▸ Below.refl _ _⟩
      · obtain ⟨e1, e2, e3, e4⟩ := ar_of (by omega) (by omega) h3
        rw [e1, e2, e3, e4]
        refine (arityR_rest op h1 h2 h3 w).mono ?_
        rintro e w' ⟨rfl, rfl⟩
        exact ⟨rfl, Below.refl _ _⟩

theorem chunks_rowsD {w : World} {Z : Zone} : ∀ (l : List AttrRowD), (∀ x ∈ l, x.name.size ≤ 1000 ∧ x.kind.size ≤ 1000) → Chunks w Z (l.flatMap AttrRowD.cells) l
  | [], _ => rfl
  | a :: l, h => ⟨a.cells, l.flatMap AttrRowD.cells, rfl, shut_AttrRowD (by have := (h a (by simp)).1; unfold reach; omega) (by have := (h a (by simp)).2; unfold reach; omega), chunks_rowsD l fun x hx => h x (by simp [hx])⟩
theorem rows_small : ((noRow :: tableD).all fun r => (rowsD r).all (fun x => decide (x.name.size ≤ 1000) && decide (x.kind.size ≤ 1000)) && decide ((rowsD r).length ≤ 64)) = true := by decide +kernel
theorem rowsR_rest (op : Int) (h : op ∉ rwList) (w : World) : Calls Tryd.prog 15 #[.int .i64 op] w fun e w' => e = .returned (.slice none 0 0) ∧ w = w' := by
  simp only [rwList, List.mem_cons, List.not_mem_nil, or_false, not_or] at h
  obtain ⟨q17, q18, q19, q27, q32, q44, q45, q46, q47, q48, q50, q51, q52, q53, q58, q59, q61, q62, q63, q64, q65, q66, q67, q68, q69, q70, q71, q72, q74, q75, q76, q77, q79, q80⟩ := h
  go_enter Tryd.func15, Tryd.ntmps15
  go_wp2
  go_ret
  exact ⟨rfl, rfl⟩
theorem rows_from {op : Int} {w : World} (_ : op ∈ rwList) (he : layCall Tryd.prog 15 #[.int .i64 op] w.heap.size = some (rowsV w.heap.size (findD op))) :
    Calls Tryd.prog 15 #[.int .i64 op] w fun e w' => ∃ v, e = .returned v ∧ rep w' (old w'.heap.size) [v] (rowsD (findD op)) ∧ Below w.heap.size w w' := by
  have hm : findD op ∈ noRow :: tableD := by
    unfold findD
    split
    · simp
    · cases hz : tableD[(op - 1).toNat]? with
      | none => simp
      | some z => exact List.mem_cons_of_mem _ (List.mem_of_getElem? hz)
  have hsm := List.all_eq_true.1 rows_small _ hm
  simp only [Bool.and_eq_true, decide_eq_true_eq, List.all_eq_true] at hsm
  refine (calls_lay (v := (rowsV w.heap.size (findD op)).1) (os := (rowsV w.heap.size (findD op)).2) he).mono ?_
  rintro e w' ⟨rfl, rfl⟩
  refine ⟨_, rfl, ?_, lays_below _ _ (Nat.le_refl _)⟩
  unfold rowsV
  cases hd : rowsD (findD op) with
  | nil => exact rep_nilA _ _
  | cons x l =>
    rw [hd] at hsm
    exact rep_block (t := 32) (l := x :: l) (heap_alloc_new w _) (chunks_rowsD (x :: l) fun y hy => hsm.1 y hy) rfl (by have := hsm.2; simp only [List.length_cons] at this; simp only [Rep.bytes]; omega) (by have := hsm.2; simp only [List.length_cons] at this; omega) (by simp [old, lays])
theorem rowsR_any (op : Int) (w : World) : Calls Tryd.prog 15 #[.int .i64 op] w fun e w' => ∃ v, e = .returned v ∧ rep w' (old w'.heap.size) [v] (rowsD (findD op)) ∧ Below w.heap.size w w' := by
  by_cases h : op ∈ rwList
  · have h3 := h
    simp only [rwList, List.mem_cons, List.not_mem_nil, or_false] at h3
    rcases h3 with rfl | rfl | rfl | rfl | rfl | rfl | rfl | rfl | rfl | rfl | rfl | rfl | rfl | rfl | rfl | rfl | rfl | rfl | rfl | rfl | rfl | rfl | rfl | rfl | rfl | rfl | rfl | rfl | rfl | rfl | rfl | rfl | rfl | rfl
    · exact rows_from h (row_17 _)
    · exact rows_from h (row_18 _)
    · exact rows_from h (row_19 _)
    · exact rows_from h (row_27 _)
    · exact rows_from h (row_32 _)
    · exact rows_from h (row_44 _)
    · exact rows_from h (row_45 _)
    · exact rows_from h (row_46 _)
    · exact rows_from h (row_47 _)
    · exact rows_from h (row_48 _)
    · exact rows_from h (row_50 _)
    · exact rows_from h (row_51 _)
    · exact rows_from h (row_52 _)
    · exact rows_from h (row_53 _)
    · exact rows_from h (row_58 _)
    · exact rows_from h (row_59 _)
    · exact rows_from h (row_61 _)
    · exact rows_from h (row_62 _)
    · exact rows_from h (row_63 _)
    · exact rows_from h (row_64 _)
    · exact rows_from h (row_65 _)
    · exact rows_from h (row_66 _)
    · exact rows_from h (row_67 _)
    · exact rows_from h (row_68 _)
    · exact rows_from h (row_69 _)
    · exact rows_from h (row_70 _)
    · exact rows_from h (row_71 _)
    · exact rows_from h (row_72 _)
    · exact rows_from h (row_74 _)
    · exact rows_from h (row_75 _)
    · exact rows_from h (row_76 _)
    · exact rows_from h (row_77 _)
    · exact rows_from h (row_79 _)
    · exact rows_from h (row_80 _)
  · rw [rw_of h]
    refine (rowsR_rest op h w).mono ?_
    rintro e w' ⟨rfl, rfl⟩
    exact ⟨_, rfl, rep_nilA _ _, Below.refl _ _⟩
end Go.Proofs.YtgbkhcmbmffljaaDoor
