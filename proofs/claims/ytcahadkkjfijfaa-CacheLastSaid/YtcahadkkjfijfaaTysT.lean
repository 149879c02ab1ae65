/- The facts on this program's types as tables: looked up by a type's number. -/
import Derived.Test.YtcahadkkjfijfaaTysB
set_option linter.unusedVariables false
set_option linter.unusedSimpArgs false
set_option maxRecDepth 100000
namespace Go.Proofs.Ytcahadkkjfijfaa
open Go.RowKit

theorem lookup_mem {β : Type} : ∀ {l : List (Nat × β)} {k : Nat} {v : β}, l.lookup k = some v → (k, v) ∈ l
  | [], _, _, h => by cases h
  | (a, b) :: l, k, v, h => by
    unfold List.lookup at h
    split at h
    · rename_i he
      injection h with h
      rw [← h, eq_of_beq he]
      exact List.Mem.head _
    · exact List.Mem.tail _ (lookup_mem h)

def oneL : List Nat := [2, 3, 4, 5, 9, 12, 21, 22, 33, 34, 37, 62, 65, 66, 84, 99, 103, 107]
theorem tyOne (ty : TypeId) (h : oneL.elem ty = true) : OneT Try.prog ty := by
  replace h := List.mem_of_elem_eq_true h
  simp only [oneL, List.mem_cons, List.not_mem_nil, or_false] at h
  rcases h with rfl | rfl | rfl | rfl | rfl | rfl | rfl | rfl | rfl | rfl | rfl | rfl | rfl | rfl | rfl | rfl | rfl | rfl
  · exact tyOne_2
  · exact tyOne_3
  · exact tyOne_4
  · exact tyOne_5
  · exact tyOne_9
  · exact tyOne_12
  · exact tyOne_21
  · exact tyOne_22
  · exact tyOne_33
  · exact tyOne_34
  · exact tyOne_37
  · exact tyOne_62
  · exact tyOne_65
  · exact tyOne_66
  · exact tyOne_84
  · exact tyOne_99
  · exact tyOne_103
  · exact tyOne_107

def rowL : List (Nat × Nat) := [(13, 2), (23, 32), (24, 9), (25, 9), (26, 2), (27, 2), (35, 2), (36, 2), (48, 3), (49, 3), (68, 2), (69, 2), (78, 4), (79, 4)]
theorem tyRow (ty n : Nat) (h : rowL.lookup ty = some n) : RowTy Try.prog ty n := by
  replace h := lookup_mem h
  simp only [rowL, List.mem_cons, List.not_mem_nil, or_false, Prod.mk.injEq] at h
  rcases h with ⟨rfl, rfl⟩ | ⟨rfl, rfl⟩ | ⟨rfl, rfl⟩ | ⟨rfl, rfl⟩ | ⟨rfl, rfl⟩ | ⟨rfl, rfl⟩ | ⟨rfl, rfl⟩ | ⟨rfl, rfl⟩ | ⟨rfl, rfl⟩ | ⟨rfl, rfl⟩ | ⟨rfl, rfl⟩ | ⟨rfl, rfl⟩ | ⟨rfl, rfl⟩ | ⟨rfl, rfl⟩
  · exact tyRow_13
  · exact tyRow_23
  · exact tyRow_24
  · exact tyRow_25
  · exact tyRow_26
  · exact tyRow_27
  · exact tyRow_35
  · exact tyRow_36
  · exact tyRow_48
  · exact tyRow_49
  · exact tyRow_68
  · exact tyRow_69
  · exact tyRow_78
  · exact tyRow_79

def zeroL : List (Nat × List Value) := [(2, [.int .i64 0]), (3, [.int .i64 0]), (4, [.bool false]), (5, [.int .u8 0]), (9, [.string ⟨#[]⟩]), (12, [.int .u64 0]), (13, [.string ⟨#[]⟩, .int .u64 0]), (21, [.int .i32 0]), (22, [.int .u32 0]), (23, [.int .u32 0, .int .u32 0, .int .u32 0, .int .u32 0, .int .u32 0, .int .u32 0, .int .u32 0, .int .u32 0, .int .u32 0, .int .u32 0, .int .u32 0, .int .u32 0, .int .u32 0, .int .u32 0, .int .u32 0, .int .u32 0, .int .u32 0, .int .u32 0, .int .u32 0, .int .u32 0, .int .u32 0, .int .u32 0, .int .u32 0, .int .u32 0, .int .u32 0, .int .u32 0, .int .u32 0, .int .u32 0, .int .u32 0, .int .u32 0, .int .u32 0, .int .u32 0]), (24, [.int .u32 0, .int .u32 0, .int .i64 0, .int .u32 0, .int .u32 0, .int .i64 0, .bool false, .int .i64 0, .int .i64 0]), (25, [.int .u32 0, .int .u32 0, .int .i64 0, .int .u32 0, .int .u32 0, .int .i64 0, .bool false, .int .i64 0, .int .i64 0]), (26, [.int .u32 0, .string ⟨#[]⟩]), (27, [.int .u32 0, .string ⟨#[]⟩]), (33, [.slice none 0 0]), (34, [.slice none 0 0]), (35, [.int .i64 0, .slice none 0 0]), (36, [.int .i64 0, .slice none 0 0]), (37, [.slice none 0 0]), (48, [.int .u32 0, .bool false, .string ⟨#[]⟩]), (49, [.int .u32 0, .bool false, .string ⟨#[]⟩]), (62, [.slice none 0 0]), (65, [.slice none 0 0]), (66, [.slice none 0 0]), (68, [.int .i64 0, .int .u32 0]), (69, [.int .i64 0, .int .u32 0]), (78, [.int .i64 0, .int .u32 0, .int .i64 0, .string ⟨#[]⟩]), (79, [.int .i64 0, .int .u32 0, .int .i64 0, .string ⟨#[]⟩]), (84, [.int .i64 0]), (99, [.slice none 0 0]), (103, [.int .u64 0]), (107, [.int .u64 0])]
theorem tyZero (ty : Nat) (cs : List Value) (h : zeroL.lookup ty = some cs) : ZeroT Try.prog ty cs := by
  replace h := lookup_mem h
  simp only [zeroL, List.mem_cons, List.not_mem_nil, or_false, Prod.mk.injEq] at h
  rcases h with ⟨rfl, rfl⟩ | ⟨rfl, rfl⟩ | ⟨rfl, rfl⟩ | ⟨rfl, rfl⟩ | ⟨rfl, rfl⟩ | ⟨rfl, rfl⟩ | ⟨rfl, rfl⟩ | ⟨rfl, rfl⟩ | ⟨rfl, rfl⟩ | ⟨rfl, rfl⟩ | ⟨rfl, rfl⟩ | ⟨rfl, rfl⟩ | ⟨rfl, rfl⟩ | ⟨rfl, rfl⟩ | ⟨rfl, rfl⟩ | ⟨rfl, rfl⟩ | ⟨rfl, rfl⟩ | ⟨rfl, rfl⟩ | ⟨rfl, rfl⟩ | ⟨rfl, rfl⟩ | ⟨rfl, rfl⟩ | ⟨rfl, rfl⟩ | ⟨rfl, rfl⟩ | ⟨rfl, rfl⟩ | ⟨rfl, rfl⟩ | ⟨rfl, rfl⟩ | ⟨rfl, rfl⟩ | ⟨rfl, rfl⟩ | ⟨rfl, rfl⟩ | ⟨rfl, rfl⟩ | ⟨rfl, rfl⟩ | ⟨rfl, rfl⟩
  · exact tyZero_2
  · exact tyZero_3
  · exact tyZero_4
  · exact tyZero_5
  · exact tyZero_9
  · exact tyZero_12
  · exact tyZero_13
  · exact tyZero_21
  · exact tyZero_22
  · exact tyZero_23
  · exact tyZero_24
  · exact tyZero_25
  · exact tyZero_26
  · exact tyZero_27
  · exact tyZero_33
  · exact tyZero_34
  · exact tyZero_35
  · exact tyZero_36
  · exact tyZero_37
  · exact tyZero_48
  · exact tyZero_49
  · exact tyZero_62
  · exact tyZero_65
  · exact tyZero_66
  · exact tyZero_68
  · exact tyZero_69
  · exact tyZero_78
  · exact tyZero_79
  · exact tyZero_84
  · exact tyZero_99
  · exact tyZero_103
  · exact tyZero_107

def slL : List (Nat × Nat × Value × Nat × Nat) := [(33, 27, .agg #[.int .u32 0, .string ⟨#[]⟩], 2, 24), (34, 62, .slice none 0 0, 1, 24), (37, 79, .agg #[.int .i64 0, .int .u32 0, .int .i64 0, .string ⟨#[]⟩], 4, 40), (62, 49, .agg #[.int .u32 0, .bool false, .string ⟨#[]⟩], 3, 24), (65, 69, .agg #[.int .i64 0, .int .u32 0], 2, 16), (66, 22, .int .u32 0, 1, 4), (99, 5, .int .u8 0, 1, 1)]
theorem tySl (t e : Nat) (z : Value) (sz bytes : Nat) (h : slL.lookup t = some (e, z, sz, bytes)) : SlT Try.prog t e z sz bytes := by
  replace h := lookup_mem h
  simp only [slL, List.mem_cons, List.not_mem_nil, or_false, Prod.mk.injEq] at h
  rcases h with ⟨rfl, rfl, rfl, rfl, rfl⟩ | ⟨rfl, rfl, rfl, rfl, rfl⟩ | ⟨rfl, rfl, rfl, rfl, rfl⟩ | ⟨rfl, rfl, rfl, rfl, rfl⟩ | ⟨rfl, rfl, rfl, rfl, rfl⟩ | ⟨rfl, rfl, rfl, rfl, rfl⟩ | ⟨rfl, rfl, rfl, rfl, rfl⟩
  · exact tySl_33
  · exact tySl_34
  · exact tySl_37
  · exact tySl_62
  · exact tySl_65
  · exact tySl_66
  · exact tySl_99

def fldL : List (Nat × Nat) := [(2500, 0), (2501, 1), (2502, 2), (2503, 3), (2504, 4), (2505, 5), (2506, 6), (2507, 7), (2508, 8), (2700, 0), (2701, 1), (3600, 0), (3601, 1), (4900, 0), (4901, 1), (4902, 2), (6900, 0), (6901, 1), (7900, 0), (7901, 1), (7902, 2), (7903, 3)]
theorem tyFld0 (q o : Nat) (h : fldL.lookup q = some o) : FldT Try.prog (q / 100) (q % 100) o := by
  replace h := lookup_mem h
  simp only [fldL, List.mem_cons, List.not_mem_nil, or_false, Prod.mk.injEq] at h
  rcases h with ⟨rfl, rfl⟩ | ⟨rfl, rfl⟩ | ⟨rfl, rfl⟩ | ⟨rfl, rfl⟩ | ⟨rfl, rfl⟩ | ⟨rfl, rfl⟩ | ⟨rfl, rfl⟩ | ⟨rfl, rfl⟩ | ⟨rfl, rfl⟩ | ⟨rfl, rfl⟩ | ⟨rfl, rfl⟩ | ⟨rfl, rfl⟩ | ⟨rfl, rfl⟩ | ⟨rfl, rfl⟩ | ⟨rfl, rfl⟩ | ⟨rfl, rfl⟩ | ⟨rfl, rfl⟩ | ⟨rfl, rfl⟩ | ⟨rfl, rfl⟩ | ⟨rfl, rfl⟩ | ⟨rfl, rfl⟩ | ⟨rfl, rfl⟩
  · exact tyFld_25_0
  · exact tyFld_25_1
  · exact tyFld_25_2
  · exact tyFld_25_3
  · exact tyFld_25_4
  · exact tyFld_25_5
  · exact tyFld_25_6
  · exact tyFld_25_7
  · exact tyFld_25_8
  · exact tyFld_27_0
  · exact tyFld_27_1
  · exact tyFld_36_0
  · exact tyFld_36_1
  · exact tyFld_49_0
  · exact tyFld_49_1
  · exact tyFld_49_2
  · exact tyFld_69_0
  · exact tyFld_69_1
  · exact tyFld_79_0
  · exact tyFld_79_1
  · exact tyFld_79_2
  · exact tyFld_79_3
theorem tyFld (s f o : Nat) (h : fldL.lookup (s * 100 + f) = some o) (hf : f < 100 := by decide) : FldT Try.prog s f o := by
  have := tyFld0 _ _ h
  rwa [show (s * 100 + f) / 100 = s by omega, show (s * 100 + f) % 100 = f by omega] at this

def strL : List Nat := [9, 10, 11]
theorem tyStr (ty : TypeId) (h : strL.elem ty = true) : StrT Try.prog ty := by
  replace h := List.mem_of_elem_eq_true h
  simp only [strL, List.mem_cons, List.not_mem_nil, or_false] at h
  rcases h with rfl | rfl | rfl
  · exact tyStr_9
  · exact tyStr_10
  · exact tyStr_11

def byL : List (Nat × Nat) := [(99, 5)]
theorem tyBy (t e : Nat) (h : byL.lookup t = some e) : BySlT Try.prog t e := by
  replace h := lookup_mem h
  simp only [byL, List.mem_cons, List.not_mem_nil, or_false, Prod.mk.injEq] at h
  rcases h with ⟨rfl, rfl⟩
  · exact tyBy_99

end Go.Proofs.Ytcahadkkjfijfaa
