/- The facts on this program's types as tables: looked up by a type's number. -/
import Derived.Test.YtbfllafbklfcjaaTysB
set_option linter.unusedVariables false
set_option linter.unusedSimpArgs false
set_option maxRecDepth 100000
namespace Go.Proofs.Ytbfllafbklfcjaa
open Go.RowKit

theorem lookup_mem {β : Type} : ∀ {l : List (Nat × β)} {k : Nat} {v : β}, l.lookup k = some v → (k, v) ∈ l
  | [], _, _, h => by cases h
  | (a, b) :: l, k, v, h => by
    unfold List.lookup at h
    split at h
    · rename_i he
      injection h with h
      rw [← h, eq_of_beq he]
      exact List.Mem.head _
    · exact List.Mem.tail _ (lookup_mem h)

def oneL : List Nat := [2, 3, 4, 5, 9, 12, 21, 22, 26, 34, 35]
theorem tyOne (ty : TypeId) (h : oneL.elem ty = true) : OneT Try.prog ty := by
  replace h := List.mem_of_elem_eq_true h
  simp only [oneL, List.mem_cons, List.not_mem_nil, or_false] at h
  rcases h with rfl | rfl | rfl | rfl | rfl | rfl | rfl | rfl | rfl | rfl | rfl
  · exact tyOne_2
  · exact tyOne_3
  · exact tyOne_4
  · exact tyOne_5
  · exact tyOne_9
  · exact tyOne_12
  · exact tyOne_21
  · exact tyOne_22
  · exact tyOne_26
  · exact tyOne_34
  · exact tyOne_35

def rowL : List (Nat × Nat) := [(13, 2), (27, 5), (28, 5), (29, 17), (30, 17)]
theorem tyRow (ty n : Nat) (h : rowL.lookup ty = some n) : RowTy Try.prog ty n := by
  replace h := lookup_mem h
  simp only [rowL, List.mem_cons, List.not_mem_nil, or_false, Prod.mk.injEq] at h
  rcases h with ⟨rfl, rfl⟩ | ⟨rfl, rfl⟩ | ⟨rfl, rfl⟩ | ⟨rfl, rfl⟩ | ⟨rfl, rfl⟩
  · exact tyRow_13
  · exact tyRow_27
  · exact tyRow_28
  · exact tyRow_29
  · exact tyRow_30

def zeroL : List (Nat × List Value) := [(2, [.int .i64 0]), (3, [.int .i64 0]), (4, [.bool false]), (5, [.int .u8 0]), (9, [.string ⟨#[]⟩]), (12, [.int .u64 0]), (13, [.string ⟨#[]⟩, .int .u64 0]), (21, [.int .i32 0]), (22, [.slice none 0 0]), (26, [.int .u32 0]), (27, [.int .i64 0, .int .i64 0, .int .i64 0, .int .i64 0, .int .u32 0]), (28, [.int .i64 0, .int .i64 0, .int .i64 0, .int .i64 0, .int .u32 0]), (29, [.int .i64 0, .int .u32 0, .int .i64 0, .int .i64 0, .int .i64 0, .int .i64 0, .int .u32 0, .int .u32 0, .int .i64 0, .int .i64 0, .int .u32 0, .int .u32 0, .int .u32 0, .int .i64 0, .int .i64 0, .bool false, .bool false]), (30, [.int .i64 0, .int .u32 0, .int .i64 0, .int .i64 0, .int .i64 0, .int .i64 0, .int .u32 0, .int .u32 0, .int .i64 0, .int .i64 0, .int .u32 0, .int .u32 0, .int .u32 0, .int .i64 0, .int .i64 0, .bool false, .bool false]), (34, [.slice none 0 0]), (35, [.slice none 0 0])]
theorem tyZero (ty : Nat) (cs : List Value) (h : zeroL.lookup ty = some cs) : ZeroT Try.prog ty cs := by
  replace h := lookup_mem h
  simp only [zeroL, List.mem_cons, List.not_mem_nil, or_false, Prod.mk.injEq] at h
  rcases h with ⟨rfl, rfl⟩ | ⟨rfl, rfl⟩ | ⟨rfl, rfl⟩ | ⟨rfl, rfl⟩ | ⟨rfl, rfl⟩ | ⟨rfl, rfl⟩ | ⟨rfl, rfl⟩ | ⟨rfl, rfl⟩ | ⟨rfl, rfl⟩ | ⟨rfl, rfl⟩ | ⟨rfl, rfl⟩ | ⟨rfl, rfl⟩ | ⟨rfl, rfl⟩ | ⟨rfl, rfl⟩ | ⟨rfl, rfl⟩ | ⟨rfl, rfl⟩
  · exact tyZero_2
  · exact tyZero_3
  · exact tyZero_4
  · exact tyZero_5
  · exact tyZero_9
  · exact tyZero_12
  · exact tyZero_13
  · exact tyZero_21
  · exact tyZero_22
  · exact tyZero_26
  · exact tyZero_27
  · exact tyZero_28
  · exact tyZero_29
  · exact tyZero_30
  · exact tyZero_34
  · exact tyZero_35

def slL : List (Nat × Nat × Value × Nat × Nat) := [(22, 30, .agg #[.int .i64 0, .int .u32 0, .int .i64 0, .int .i64 0, .int .i64 0, .int .i64 0, .int .u32 0, .int .u32 0, .int .i64 0, .int .i64 0, .int .u32 0, .int .u32 0, .int .u32 0, .int .i64 0, .int .i64 0, .bool false, .bool false], 17, 120), (34, 4, .bool false, 1, 1), (35, 3, .int .i64 0, 1, 8)]
theorem tySl (t e : Nat) (z : Value) (sz bytes : Nat) (h : slL.lookup t = some (e, z, sz, bytes)) : SlT Try.prog t e z sz bytes := by
  replace h := lookup_mem h
  simp only [slL, List.mem_cons, List.not_mem_nil, or_false, Prod.mk.injEq] at h
  rcases h with ⟨rfl, rfl, rfl, rfl, rfl⟩ | ⟨rfl, rfl, rfl, rfl, rfl⟩ | ⟨rfl, rfl, rfl, rfl, rfl⟩
  · exact tySl_22
  · exact tySl_34
  · exact tySl_35

def fldL : List (Nat × Nat) := [(2800, 0), (2801, 1), (2802, 2), (2803, 3), (2804, 4), (3000, 0), (3001, 1), (3002, 2), (3003, 7), (3004, 8), (3005, 9), (3006, 10), (3007, 11), (3008, 12), (3009, 13), (3010, 14), (3011, 15), (3012, 16)]
theorem tyFld0 (q o : Nat) (h : fldL.lookup q = some o) : FldT Try.prog (q / 100) (q % 100) o := by
  replace h := lookup_mem h
  simp only [fldL, List.mem_cons, List.not_mem_nil, or_false, Prod.mk.injEq] at h
  rcases h with ⟨rfl, rfl⟩ | ⟨rfl, rfl⟩ | ⟨rfl, rfl⟩ | ⟨rfl, rfl⟩ | ⟨rfl, rfl⟩ | ⟨rfl, rfl⟩ | ⟨rfl, rfl⟩ | ⟨rfl, rfl⟩ | ⟨rfl, rfl⟩ | ⟨rfl, rfl⟩ | ⟨rfl, rfl⟩ | ⟨rfl, rfl⟩ | ⟨rfl, rfl⟩ | ⟨rfl, rfl⟩ | ⟨rfl, rfl⟩ | ⟨rfl, rfl⟩ | ⟨rfl, rfl⟩ | ⟨rfl, rfl⟩
  · exact tyFld_28_0
  · exact tyFld_28_1
  · exact tyFld_28_2
  · exact tyFld_28_3
  · exact tyFld_28_4
  · exact tyFld_30_0
  · exact tyFld_30_1
  · exact tyFld_30_2
  · exact tyFld_30_3
  · exact tyFld_30_4
  · exact tyFld_30_5
  · exact tyFld_30_6
  · exact tyFld_30_7
  · exact tyFld_30_8
  · exact tyFld_30_9
  · exact tyFld_30_10
  · exact tyFld_30_11
  · exact tyFld_30_12
theorem tyFld (s f o : Nat) (h : fldL.lookup (s * 100 + f) = some o) (hf : f < 100 := by decide) : FldT Try.prog s f o := by
  have := tyFld0 _ _ h
  rwa [show (s * 100 + f) / 100 = s by omega, show (s * 100 + f) % 100 = f by omega] at this

def strL : List Nat := [9, 10, 11]
theorem tyStr (ty : TypeId) (h : strL.elem ty = true) : StrT Try.prog ty := by
  replace h := List.mem_of_elem_eq_true h
  simp only [strL, List.mem_cons, List.not_mem_nil, or_false] at h
  rcases h with rfl | rfl | rfl
  · exact tyStr_9
  · exact tyStr_10
  · exact tyStr_11

def byL : List (Nat × Nat) := []
theorem tyBy (t e : Nat) (h : byL.lookup t = some e) : BySlT Try.prog t e := by
  replace h := lookup_mem h
  simp only [byL, List.mem_cons, List.not_mem_nil, or_false, Prod.mk.injEq] at h

end Go.Proofs.Ytbfllafbklfcjaa
