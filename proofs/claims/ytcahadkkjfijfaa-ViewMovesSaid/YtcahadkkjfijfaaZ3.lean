/- Joined: TysT, StM, StM2, StM3, Way, Sets, CPlain, CBase. -/
import Derived.Test.YtcahadkkjfijfaaZ2
import Derived.Laws.Concat
import Derived.Handy
import Derived.Test.YtcahadkkjfijfaaZ1
import Derived.Outline
import Derived.Deep.DeepCutAuto
/- The facts on this program's types as tables: looked up by a type's number. -/
set_option linter.unusedVariables false
set_option maxRecDepth 100000
namespace Go.Proofs.Ytcahadkkjfijfaa
open Go.RowKit

theorem lookup_mem {β : Type} : ∀ {l : List (Nat × β)} {k : Nat} {v : β}, l.lookup k = some v → (k, v) ∈ l
  | [], _, _, h => by cases h
  | (a, b) :: l, k, v, h => by
    unfold List.lookup at h
    split at h
    · rename_i he
      injection h with h
      rw [← h, eq_of_beq he]
      exact List.Mem.head _
    · exact List.Mem.tail _ (lookup_mem h)

def oneL : List Nat := [2, 3, 4, 5, 9, 12, 21, 22, 33, 34, 37, 62, 65, 66, 84, 99, 103, 107]
theorem tyOne (ty : TypeId) (h : oneL.elem ty = true) : OneT Try.prog ty := by
  replace h := List.mem_of_elem_eq_true h
  simp only [oneL, List.mem_cons, List.not_mem_nil, or_false] at h
  rcases h with rfl | rfl | rfl | rfl | rfl | rfl | rfl | rfl | rfl | rfl | rfl | rfl | rfl | rfl | rfl | rfl | rfl | rfl
  · exact tyOne_2
  · exact tyOne_3
  · exact tyOne_4
  · exact tyOne_5
  · exact tyOne_9
  · exact tyOne_12
  · exact tyOne_21
  · exact tyOne_22
  · exact tyOne_33
  · exact tyOne_34
  · exact tyOne_37
  · exact tyOne_62
  · exact tyOne_65
  · exact tyOne_66
  · exact tyOne_84
  · exact tyOne_99
  · exact tyOne_103
  · exact tyOne_107

def rowL : List (Nat × Nat) := [(13, 2), (23, 32), (24, 9), (25, 9), (26, 2), (27, 2), (35, 2), (36, 2), (48, 3), (49, 3), (68, 2), (69, 2), (78, 4), (79, 4)]
theorem tyRow (ty n : Nat) (h : rowL.lookup ty = some n) : RowTy Try.prog ty n := by
  replace h := lookup_mem h
  simp only [rowL, List.mem_cons, List.not_mem_nil, or_false, Prod.mk.injEq] at h
  rcases h with ⟨rfl, rfl⟩ | ⟨rfl, rfl⟩ | ⟨rfl, rfl⟩ | ⟨rfl, rfl⟩ | ⟨rfl, rfl⟩ | ⟨rfl, rfl⟩ | ⟨rfl, rfl⟩ | ⟨rfl, rfl⟩ | ⟨rfl, rfl⟩ | ⟨rfl, rfl⟩ | ⟨rfl, rfl⟩ | ⟨rfl, rfl⟩ | ⟨rfl, rfl⟩ | ⟨rfl, rfl⟩
  · exact tyRow_13
  · exact tyRow_23
  · exact tyRow_24
  · exact tyRow_25
  · exact tyRow_26
  · exact tyRow_27
  · exact tyRow_35
  · exact tyRow_36
  · exact tyRow_48
  · exact tyRow_49
  · exact tyRow_68
  · exact tyRow_69
  · exact tyRow_78
  · exact tyRow_79

def zeroL : List (Nat × List Value) := [(2, [.int .i64 0]), (3, [.int .i64 0]), (4, [.bool false]), (5, [.int .u8 0]), (9, [.string ⟨#[]⟩]), (12, [.int .u64 0]), (13, [.string ⟨#[]⟩, .int .u64 0]), (21, [.int .i32 0]), (22, [.int .u32 0]), (23, [.int .u32 0, .int .u32 0, .int .u32 0, .int .u32 0, .int .u32 0, .int .u32 0, .int .u32 0, .int .u32 0, .int .u32 0, .int .u32 0, .int .u32 0, .int .u32 0, .int .u32 0, .int .u32 0, .int .u32 0, .int .u32 0, .int .u32 0, .int .u32 0, .int .u32 0, .int .u32 0, .int .u32 0, .int .u32 0, .int .u32 0, .int .u32 0, .int .u32 0, .int .u32 0, .int .u32 0, .int .u32 0, .int .u32 0, .int .u32 0, .int .u32 0, .int .u32 0]), (24, [.int .u32 0, .int .u32 0, .int .i64 0, .int .u32 0, .int .u32 0, .int .i64 0, .bool false, .int .i64 0, .int .i64 0]), (25, [.int .u32 0, .int .u32 0, .int .i64 0, .int .u32 0, .int .u32 0, .int .i64 0, .bool false, .int .i64 0, .int .i64 0]), (26, [.int .u32 0, .string ⟨#[]⟩]), (27, [.int .u32 0, .string ⟨#[]⟩]), (33, [.slice none 0 0]), (34, [.slice none 0 0]), (35, [.int .i64 0, .slice none 0 0]), (36, [.int .i64 0, .slice none 0 0]), (37, [.slice none 0 0]), (48, [.int .u32 0, .bool false, .string ⟨#[]⟩]), (49, [.int .u32 0, .bool false, .string ⟨#[]⟩]), (62, [.slice none 0 0]), (65, [.slice none 0 0]), (66, [.slice none 0 0]), (68, [.int .i64 0, .int .u32 0]), (69, [.int .i64 0, .int .u32 0]), (78, [.int .i64 0, .int .u32 0, .int .i64 0, .string ⟨#[]⟩]), (79, [.int .i64 0, .int .u32 0, .int .i64 0, .string ⟨#[]⟩]), (84, [.int .i64 0]), (99, [.slice none 0 0]), (103, [.int .u64 0]), (107, [.int .u64 0])]
theorem tyZero (ty : Nat) (cs : List Value) (h : zeroL.lookup ty = some cs) : ZeroT Try.prog ty cs := by
  replace h := lookup_mem h
  simp only [zeroL, List.mem_cons, List.not_mem_nil, or_false, Prod.mk.injEq] at h
  rcases h with ⟨rfl, rfl⟩ | ⟨rfl, rfl⟩ | ⟨rfl, rfl⟩ | ⟨rfl, rfl⟩ | ⟨rfl, rfl⟩ | ⟨rfl, rfl⟩ | ⟨rfl, rfl⟩ | ⟨rfl, rfl⟩ | ⟨rfl, rfl⟩ | ⟨rfl, rfl⟩ | ⟨rfl, rfl⟩ | ⟨rfl, rfl⟩ | ⟨rfl, rfl⟩ | ⟨rfl, rfl⟩ | ⟨rfl, rfl⟩ | ⟨rfl, rfl⟩ | ⟨rfl, rfl⟩ | ⟨rfl, rfl⟩ | ⟨rfl, rfl⟩ | ⟨rfl, rfl⟩ | ⟨rfl, rfl⟩ | ⟨rfl, rfl⟩ | ⟨rfl, rfl⟩ | ⟨rfl, rfl⟩ | ⟨rfl, rfl⟩ | ⟨rfl, rfl⟩ | ⟨rfl, rfl⟩ | ⟨rfl, rfl⟩ | ⟨rfl, rfl⟩ | ⟨rfl, rfl⟩ | ⟨rfl, rfl⟩ | ⟨rfl, rfl⟩
  · exact tyZero_2
  · exact tyZero_3
  · exact tyZero_4
  · exact tyZero_5
  · exact tyZero_9
  · exact tyZero_12
  · exact tyZero_13
  · exact tyZero_21
  · exact tyZero_22
  · exact tyZero_23
  · exact tyZero_24
  · exact tyZero_25
  · exact tyZero_26
  · exact tyZero_27
  · exact tyZero_33
  · exact tyZero_34
  · exact tyZero_35
  · exact tyZero_36
  · exact tyZero_37
  · exact tyZero_48
  · exact tyZero_49
  · exact tyZero_62
  · exact tyZero_65
  · exact tyZero_66
  · exact tyZero_68
  · exact tyZero_69
  · exact tyZero_78
  · exact tyZero_79
  · exact tyZero_84
  · exact tyZero_99
  · exact tyZero_103
  · exact tyZero_107

def slL : List (Nat × Nat × Value × Nat × Nat) := [(33, 27, .agg #[.int .u32 0, .string ⟨#[]⟩], 2, 24), (34, 62, .slice none 0 0, 1, 24), (37, 79, .agg #[.int .i64 0, .int .u32 0, .int .i64 0, .string ⟨#[]⟩], 4, 40), (62, 49, .agg #[.int .u32 0, .bool false, .string ⟨#[]⟩], 3, 24), (65, 69, .agg #[.int .i64 0, .int .u32 0], 2, 16), (66, 22, .int .u32 0, 1, 4), (99, 5, .int .u8 0, 1, 1)]
theorem tySl (t e : Nat) (z : Value) (sz bytes : Nat) (h : slL.lookup t = some (e, z, sz, bytes)) : SlT Try.prog t e z sz bytes := by
  replace h := lookup_mem h
  simp only [slL, List.mem_cons, List.not_mem_nil, or_false, Prod.mk.injEq] at h
  rcases h with ⟨rfl, rfl, rfl, rfl, rfl⟩ | ⟨rfl, rfl, rfl, rfl, rfl⟩ | ⟨rfl, rfl, rfl, rfl, rfl⟩ | ⟨rfl, rfl, rfl, rfl, rfl⟩ | ⟨rfl, rfl, rfl, rfl, rfl⟩ | ⟨rfl, rfl, rfl, rfl, rfl⟩ | ⟨rfl, rfl, rfl, rfl, rfl⟩
  · exact tySl_33
  · exact tySl_34
  · exact tySl_37
  · exact tySl_62
  · exact tySl_65
  · exact tySl_66
  · exact tySl_99

def fldL : List (Nat × Nat) := [(2500, 0), (2501, 1), (2502, 2), (2503, 3), (2504, 4), (2505, 5), (2506, 6), (2507, 7), (2508, 8), (2700, 0), (2701, 1), (3600, 0), (3601, 1), (4900, 0), (4901, 1), (4902, 2), (6900, 0), (6901, 1), (7900, 0), (7901, 1), (7902, 2), (7903, 3)]
theorem tyFld0 (q o : Nat) (h : fldL.lookup q = some o) : FldT Try.prog (q / 100) (q % 100) o := by
  replace h := lookup_mem h
  simp only [fldL, List.mem_cons, List.not_mem_nil, or_false, Prod.mk.injEq] at h
  rcases h with ⟨rfl, rfl⟩ | ⟨rfl, rfl⟩ | ⟨rfl, rfl⟩ | ⟨rfl, rfl⟩ | ⟨rfl, rfl⟩ | ⟨rfl, rfl⟩ | ⟨rfl, rfl⟩ | ⟨rfl, rfl⟩ | ⟨rfl, rfl⟩ | ⟨rfl, rfl⟩ | ⟨rfl, rfl⟩ | ⟨rfl, rfl⟩ | ⟨rfl, rfl⟩ | ⟨rfl, rfl⟩ | ⟨rfl, rfl⟩ | ⟨rfl, rfl⟩ | ⟨rfl, rfl⟩ | ⟨rfl, rfl⟩ | ⟨rfl, rfl⟩ | ⟨rfl, rfl⟩ | ⟨rfl, rfl⟩ | ⟨rfl, rfl⟩
  · exact tyFld_25_0
  · exact tyFld_25_1
  · exact tyFld_25_2
  · exact tyFld_25_3
  · exact tyFld_25_4
  · exact tyFld_25_5
  · exact tyFld_25_6
  · exact tyFld_25_7
  · exact tyFld_25_8
  · exact tyFld_27_0
  · exact tyFld_27_1
  · exact tyFld_36_0
  · exact tyFld_36_1
  · exact tyFld_49_0
  · exact tyFld_49_1
  · exact tyFld_49_2
  · exact tyFld_69_0
  · exact tyFld_69_1
  · exact tyFld_79_0
  · exact tyFld_79_1
  · exact tyFld_79_2
  · exact tyFld_79_3
theorem tyFld (s f o : Nat) (h : fldL.lookup (s * 100 + f) = some o) (hf : f < 100 := by decide) : FldT Try.prog s f o := by
  have := tyFld0 _ _ h
  rwa [show (s * 100 + f) / 100 = s by omega, show (s * 100 + f) % 100 = f by omega] at this

def strL : List Nat := [9, 10, 11]
theorem tyStr (ty : TypeId) (h : strL.elem ty = true) : StrT Try.prog ty := by
  replace h := List.mem_of_elem_eq_true h
  simp only [strL, List.mem_cons, List.not_mem_nil, or_false] at h
  rcases h with rfl | rfl | rfl
  · exact tyStr_9
  · exact tyStr_10
  · exact tyStr_11

def byL : List (Nat × Nat) := [(99, 5)]
theorem tyBy (t e : Nat) (h : byL.lookup t = some e) : BySlT Try.prog t e := by
  replace h := lookup_mem h
  simp only [byL, List.mem_cons, List.not_mem_nil, or_false, Prod.mk.injEq] at h
  rcases h with ⟨rfl, rfl⟩
  · exact tyBy_99

end Go.Proofs.Ytcahadkkjfijfaa

/- The laws over St once more: what is looked up (a type's facts, a block's place, a row's place among the data) is found by a tactic that stands here once. -/
set_option linter.unusedVariables false
set_option linter.unusedSimpArgs false
namespace Go.Proofs.Ytcahadkkjfijfaa
open Go.RowKit

theorem mem0 {α : Type} {m : α} {M : List α} : m ∈  m :: M := List.Mem.head _
theorem mem1 {α : Type} {a0 m : α} {M : List α} : m ∈ a0 :: m :: M := List.Mem.tail _ (List.Mem.head _)
theorem mem2 {α : Type} {a0 a1 m : α} {M : List α} : m ∈ a0 :: a1 :: m :: M := List.Mem.tail _ (List.Mem.tail _ (List.Mem.head _))
theorem mem3 {α : Type} {a0 a1 a2 m : α} {M : List α} : m ∈ a0 :: a1 :: a2 :: m :: M := List.Mem.tail _ (List.Mem.tail _ (List.Mem.tail _ (List.Mem.head _)))
theorem mem4 {α : Type} {a0 a1 a2 a3 m : α} {M : List α} : m ∈ a0 :: a1 :: a2 :: a3 :: m :: M := List.Mem.tail _ (List.Mem.tail _ (List.Mem.tail _ (List.Mem.tail _ (List.Mem.head _))))
theorem mem5 {α : Type} {a0 a1 a2 a3 a4 m : α} {M : List α} : m ∈ a0 :: a1 :: a2 :: a3 :: a4 :: m :: M := List.Mem.tail _ (List.Mem.tail _ (List.Mem.tail _ (List.Mem.tail _ (List.Mem.tail _ (List.Mem.head _)))))
theorem mem6 {α : Type} {a0 a1 a2 a3 a4 a5 m : α} {M : List α} : m ∈ a0 :: a1 :: a2 :: a3 :: a4 :: a5 :: m :: M := List.Mem.tail _ (List.Mem.tail _ (List.Mem.tail _ (List.Mem.tail _ (List.Mem.tail _ (List.Mem.tail _ (List.Mem.head _))))))
theorem mem7 {α : Type} {a0 a1 a2 a3 a4 a5 a6 m : α} {M : List α} : m ∈ a0 :: a1 :: a2 :: a3 :: a4 :: a5 :: a6 :: m :: M := List.Mem.tail _ (List.Mem.tail _ (List.Mem.tail _ (List.Mem.tail _ (List.Mem.tail _ (List.Mem.tail _ (List.Mem.tail _ (List.Mem.head _)))))))
theorem mem8 {α : Type} {a0 a1 a2 a3 a4 a5 a6 a7 m : α} {M : List α} : m ∈ a0 :: a1 :: a2 :: a3 :: a4 :: a5 :: a6 :: a7 :: m :: M := List.Mem.tail _ (List.Mem.tail _ (List.Mem.tail _ (List.Mem.tail _ (List.Mem.tail _ (List.Mem.tail _ (List.Mem.tail _ (List.Mem.tail _ (List.Mem.head _))))))))
theorem mem9 {α : Type} {a0 a1 a2 a3 a4 a5 a6 a7 a8 m : α} {M : List α} : m ∈ a0 :: a1 :: a2 :: a3 :: a4 :: a5 :: a6 :: a7 :: a8 :: m :: M := List.Mem.tail _ (List.Mem.tail _ (List.Mem.tail _ (List.Mem.tail _ (List.Mem.tail _ (List.Mem.tail _ (List.Mem.tail _ (List.Mem.tail _ (List.Mem.tail _ (List.Mem.head _)))))))))
theorem mem10 {α : Type} {a0 a1 a2 a3 a4 a5 a6 a7 a8 a9 m : α} {M : List α} : m ∈ a0 :: a1 :: a2 :: a3 :: a4 :: a5 :: a6 :: a7 :: a8 :: a9 :: m :: M := List.Mem.tail _ (List.Mem.tail _ (List.Mem.tail _ (List.Mem.tail _ (List.Mem.tail _ (List.Mem.tail _ (List.Mem.tail _ (List.Mem.tail _ (List.Mem.tail _ (List.Mem.tail _ (List.Mem.head _))))))))))
theorem mem11 {α : Type} {a0 a1 a2 a3 a4 a5 a6 a7 a8 a9 a10 m : α} {M : List α} : m ∈ a0 :: a1 :: a2 :: a3 :: a4 :: a5 :: a6 :: a7 :: a8 :: a9 :: a10 :: m :: M := List.Mem.tail _ (List.Mem.tail _ (List.Mem.tail _ (List.Mem.tail _ (List.Mem.tail _ (List.Mem.tail _ (List.Mem.tail _ (List.Mem.tail _ (List.Mem.tail _ (List.Mem.tail _ (List.Mem.tail _ (List.Mem.head _)))))))))))
theorem mem12 {α : Type} {a0 a1 a2 a3 a4 a5 a6 a7 a8 a9 a10 a11 m : α} {M : List α} : m ∈ a0 :: a1 :: a2 :: a3 :: a4 :: a5 :: a6 :: a7 :: a8 :: a9 :: a10 :: a11 :: m :: M := List.Mem.tail _ (List.Mem.tail _ (List.Mem.tail _ (List.Mem.tail _ (List.Mem.tail _ (List.Mem.tail _ (List.Mem.tail _ (List.Mem.tail _ (List.Mem.tail _ (List.Mem.tail _ (List.Mem.tail _ (List.Mem.tail _ (List.Mem.head _))))))))))))
theorem mem13 {α : Type} {a0 a1 a2 a3 a4 a5 a6 a7 a8 a9 a10 a11 a12 m : α} {M : List α} : m ∈ a0 :: a1 :: a2 :: a3 :: a4 :: a5 :: a6 :: a7 :: a8 :: a9 :: a10 :: a11 :: a12 :: m :: M := List.Mem.tail _ (List.Mem.tail _ (List.Mem.tail _ (List.Mem.tail _ (List.Mem.tail _ (List.Mem.tail _ (List.Mem.tail _ (List.Mem.tail _ (List.Mem.tail _ (List.Mem.tail _ (List.Mem.tail _ (List.Mem.tail _ (List.Mem.tail _ (List.Mem.head _)))))))))))))
theorem mem14 {α : Type} {a0 a1 a2 a3 a4 a5 a6 a7 a8 a9 a10 a11 a12 a13 m : α} {M : List α} : m ∈ a0 :: a1 :: a2 :: a3 :: a4 :: a5 :: a6 :: a7 :: a8 :: a9 :: a10 :: a11 :: a12 :: a13 :: m :: M := List.Mem.tail _ (List.Mem.tail _ (List.Mem.tail _ (List.Mem.tail _ (List.Mem.tail _ (List.Mem.tail _ (List.Mem.tail _ (List.Mem.tail _ (List.Mem.tail _ (List.Mem.tail _ (List.Mem.tail _ (List.Mem.tail _ (List.Mem.tail _ (List.Mem.tail _ (List.Mem.head _))))))))))))))
theorem mem15 {α : Type} {a0 a1 a2 a3 a4 a5 a6 a7 a8 a9 a10 a11 a12 a13 a14 m : α} {M : List α} : m ∈ a0 :: a1 :: a2 :: a3 :: a4 :: a5 :: a6 :: a7 :: a8 :: a9 :: a10 :: a11 :: a12 :: a13 :: a14 :: m :: M := List.Mem.tail _ (List.Mem.tail _ (List.Mem.tail _ (List.Mem.tail _ (List.Mem.tail _ (List.Mem.tail _ (List.Mem.tail _ (List.Mem.tail _ (List.Mem.tail _ (List.Mem.tail _ (List.Mem.tail _ (List.Mem.tail _ (List.Mem.tail _ (List.Mem.tail _ (List.Mem.tail _ (List.Mem.head _)))))))))))))))
theorem subn_nil {α : Type} {D : List α} : ∀ x ∈ ([] : List α), x ∈ D := fun _ h => by cases h
theorem subn_cons {α : Type} {d : α} {l D : List α} (h : d ∈ D) (t : ∀ e ∈ l, e ∈ D) : ∀ e ∈ d :: l, e ∈ D := fun e he => by
  rcases List.mem_cons.1 he with rfl | he
  · exact h
  · exact t e he
theorem sub1 {α : Type} {a : α} {D : List α} (h0 : a ∈ D) : ∀ x ∈ [a], x ∈ D := (subn_cons h0 subn_nil)
theorem sub2 {α : Type} {a b : α} {D : List α} (h0 : a ∈ D) (h1 : b ∈ D) : ∀ x ∈ [a, b], x ∈ D := (subn_cons h0 (subn_cons h1 subn_nil))
theorem sub3 {α : Type} {a b c : α} {D : List α} (h0 : a ∈ D) (h1 : b ∈ D) (h2 : c ∈ D) : ∀ x ∈ [a, b, c], x ∈ D := (subn_cons h0 (subn_cons h1 (subn_cons h2 subn_nil)))
theorem sub4 {α : Type} {a b c d : α} {D : List α} (h0 : a ∈ D) (h1 : b ∈ D) (h2 : c ∈ D) (h3 : d ∈ D) : ∀ x ∈ [a, b, c, d], x ∈ D := (subn_cons h0 (subn_cons h1 (subn_cons h2 (subn_cons h3 subn_nil))))
theorem sub5 {α : Type} {a b c d e : α} {D : List α} (h0 : a ∈ D) (h1 : b ∈ D) (h2 : c ∈ D) (h3 : d ∈ D) (h4 : e ∈ D) : ∀ x ∈ [a, b, c, d, e], x ∈ D := (subn_cons h0 (subn_cons h1 (subn_cons h2 (subn_cons h3 (subn_cons h4 subn_nil)))))
theorem sub6 {α : Type} {a b c d e f : α} {D : List α} (h0 : a ∈ D) (h1 : b ∈ D) (h2 : c ∈ D) (h3 : d ∈ D) (h4 : e ∈ D) (h5 : f ∈ D) : ∀ x ∈ [a, b, c, d, e, f], x ∈ D := (subn_cons h0 (subn_cons h1 (subn_cons h2 (subn_cons h3 (subn_cons h4 (subn_cons h5 subn_nil))))))
/-- a value of one cell; a row of such -/
class One1 (v : Value) : Prop where
  one : v.oneCell' = true
class OneC (xs : List Value) : Prop where
  one : ∀ u ∈ xs, u.oneCell' = true
instance oneInt (k : IntKind) (n : Int) : One1 (.int k n) := ⟨rfl⟩
instance oneBool (b : Bool) : One1 (.bool b) := ⟨rfl⟩
instance oneStr (s : ByteArray) : One1 (.string s) := ⟨rfl⟩
instance oneSl (A : Option Addr) (n c : Nat) : One1 (.slice A n c) := ⟨rfl⟩
instance onePtr (A : Option Addr) : One1 (.pointer A) := ⟨rfl⟩
instance oneNil : OneC [] := ⟨one_nil⟩
instance oneCons (v : Value) (l : List Value) [One1 v] [OneC l] : OneC (v :: l) := ⟨one_cons One1.one OneC.one⟩
instance oneApp (k l : List Value) [OneC k] [OneC l] : OneC (k ++ l) := ⟨fun u hu => by
  rcases List.mem_append.1 hu with h | h
  · exact OneC.one u h
  · exact OneC.one u h⟩
instance oneTake (l : List Value) (k : Nat) [OneC l] : OneC (l.take k) := ⟨take_one OneC.one k⟩
instance oneDrop (l : List Value) (k : Nat) [OneC l] : OneC (l.drop k) := ⟨drop_one OneC.one k⟩
instance oneBytes (l : List UInt8) : OneC (byteCells l) := ⟨byteCells_one l⟩
/-- a value of one cell, be it that it is a row that stands among the blocks -/
def OneM (M : List Mu) (v : Value) : Prop := v.oneCell' = true ∨ ∃ (i : Nat) (e : TypeId) (sz n : Nat) (xs : List Value), M[i]? = some (.own v e sz n xs)
theorem St.oneM {w0 w : World} {D0 D : List Da} {M : List Mu} (h : St w0 D0 w M D) {v : Value} (hv : OneM M v) : v.oneCell' = true := by
  rcases hv with h1 | ⟨i, e, sz, n, xs, hi⟩
  · exact h1
  · exact h.ownOne hi
theorem oneM_nil {M : List Mu} : ∀ u ∈ ([] : List Value), OneM M u := fun _ h => by cases h
theorem oneM_cons {M : List Mu} {v : Value} {l : List Value} (h : OneM M v) (t : ∀ u ∈ l, OneM M u) : ∀ u ∈ v :: l, OneM M u := fun u hu => by
  rcases List.mem_cons.1 hu with rfl | hu
  · exact h
  · exact t u hu
theorem oneM_all {M : List Mu} {l : List Value} [OneC l] : ∀ u ∈ l, OneM M u := fun u hu => .inl (OneC.one u hu)

/-- rows of records -/
class Rows {α : Type} (f : List α → List Value) (cells : outParam (α → List Value)) (sz : outParam Nat) : Prop where
  flat : ∀ q, f q = q.flatMap cells
  len : ∀ r, (cells r).length = sz
  one : ∀ r, ∀ u ∈ cells r, u.oneCell' = true
  pos : 0 < sz
section
variable {α : Type} {f : List α → List Value} {cells : α → List Value} {sz : Nat}
theorem Rows.length [H : Rows f cells sz] (q : List α) : (f q).length = q.length * sz := by
  rw [H.flat]
  induction q with
  | nil => simp
  | cons r q ih => rw [List.flatMap_cons, List.length_append, H.len, ih, List.length_cons, Nat.add_mul]; omega
theorem Rows.append [H : Rows f cells sz] (p q : List α) : f (p ++ q) = f p ++ f q := by rw [H.flat, H.flat, H.flat, List.flatMap_append]
theorem Rows.single [H : Rows f cells sz] (r : α) : f [r] = cells r := by rw [H.flat]; simp
theorem Rows.take [H : Rows f cells sz] (q : List α) (k : Nat) : (f q).take (k * sz) = f (q.take k) := by
  rw [H.flat, H.flat]
  induction q generalizing k with
  | nil => simp
  | cons r q ih =>
    cases k with
    | zero => simp
    | succ k => rw [List.flatMap_cons, List.take_append, H.len, List.take_of_length_le (by rw [H.len, Nat.add_mul]; omega), show (k + 1) * sz - sz = k * sz by rw [Nat.add_mul]; omega, ih, List.take_succ_cons, List.flatMap_cons]
theorem Rows.drop [H : Rows f cells sz] (q : List α) (k : Nat) : (f q).drop (k * sz) = f (q.drop k) := by
  rw [H.flat, H.flat]
  induction q generalizing k with
  | nil => simp
  | cons r q ih =>
    cases k with
    | zero => simp
    | succ k => rw [List.flatMap_cons, List.drop_append, H.len, List.drop_of_length_le (by rw [H.len, Nat.add_mul]; omega), show (k + 1) * sz - sz = k * sz by rw [Nat.add_mul]; omega, ih, List.drop_succ_cons, List.nil_append]
theorem Rows.el [H : Rows f cells sz] {q : List α} {k : Nat} {v : α} (h : q[k]? = some v) {i : Nat} {u : Value} (hu : (cells v)[i]? = some u) : (f q)[k * sz + i]? = some u := by
  obtain ⟨hl, e⟩ := List.getElem?_eq_some_iff.1 h
  have hi : i < sz := by have := (List.getElem?_eq_some_iff.1 hu).1; rwa [H.len] at this
  have h1 : (f q).drop (k * sz) = cells v ++ f (q.drop (k + 1)) := by
    rw [H.drop, List.drop_eq_getElem_cons hl, e, ← H.single, ← H.append]
    rfl
  have h2 : (f q)[k * sz + i]? = ((f q).drop (k * sz))[i]? := by rw [List.getElem?_drop]
  rw [h2, h1, List.getElem?_append_left (by rw [H.len]; exact hi), hu]
theorem Rows.el0 [H : Rows f cells sz] {q : List α} {k : Nat} {v : α} (h : q[k]? = some v) {u : Value} (hu : (cells v)[0]? = some u) : (f q)[k * sz]? = some u := H.el h hu
theorem Rows.sub [H : Rows f cells sz] {q : List α} {k : Nat} {v : α} (h : q[k]? = some v) : ∀ i u, (cells v)[i]? = some u → (f q)[k * sz + i]? = some u := fun _ _ hu => H.el h hu
theorem Rows.ones [H : Rows f cells sz] (q : List α) : ∀ u ∈ f q, u.oneCell' = true := by
  intro u hu
  rw [H.flat] at hu
  obtain ⟨r, _, h⟩ := List.mem_flatMap.1 hu
  exact H.one r u h
theorem Rows.spl [H : Rows f cells sz] {q : List α} {k : Nat} {r : α} (hk : k < q.length) : spl (f q) (k * sz) (cells r) = f (q.set k r) := by
  have h1 : (k + 1) * sz ≤ q.length * sz := Nat.mul_le_mul_right _ hk
  rw [Nat.add_mul, Nat.one_mul] at h1
  rw [spl_eq _ _ _ (by rw [H.length, H.len]; exact h1), H.len, show k * sz + sz = (k + 1) * sz by rw [Nat.add_mul, Nat.one_mul], H.take, H.drop, List.set_eq_take_append_cons_drop, if_pos hk, H.append, ← H.single r, List.append_assoc, ← H.append]
  rfl
end

section
variable {P : Program} {ops : Array Oper} {rest : List Oper} {o : Oper} {a : Act} {Q : Exit → Act → World → Prop} {w0 w : World} {D0 D : List Da} {M : List Mu}

theorem w_box {ty : TypeId} {x : Operand} {v : Value} {cs : List Value} (ho : o.op = .box ty x) (hF : St w0 D0 w M D) (hx : look a x = some v)
    (h : ∀ g w', St w0 D0 w' (.blk g ty cs :: M) D → wpList P ops Q rest (a.put o.dst (.pointer (some ⟨g, 0, none⟩))) w') (hgd : o.guard = none := by rfl) (hc : v.cells = cs.toArray := by exact rfl) : wpList P ops Q (o :: rest) a w :=
  st_box ho hgd hF hx cs hc h
theorem w_alloc {ty : TypeId} {cs : List Value} (ho : o.op = .alloc ty) (hF : St w0 D0 w M D)
    (h : ∀ g w', St w0 D0 w' (.blk g ty cs :: M) D → wpList P ops Q rest (a.put o.dst (.pointer (some ⟨g, 0, none⟩))) w') (hgd : o.guard = none := by rfl) (hz : ZeroT P ty cs := by exact tyZero _ _ rfl) : wpList P ops Q (o :: rest) a w :=
  st_alloc ho hgd hF cs hz h
theorem w_ld1 {ty : TypeId} {x : Operand} {g off i : Nat} {t : TypeId} {cs : List Value} {v : Value} (ho : o.op = .load ty x) (hF : St w0 D0 w M D) (hx : look a x = some (.pointer (some ⟨g, off, none⟩)))
    (h : wpList P ops Q rest (a.put o.dst v) w) (ht : OneT P ty := by exact tyOne _ rfl) (hw : Region.wanted o (yielded ops a.tmps) = true := by rfl) (hi : M[i]? = some (.blk g t cs) := by (first | exact at0 | exact at1 | exact at2 | exact at3 | exact at4 | exact at5 | exact at6 | exact at7)) (hv : cs[off]? = some v := by first | exact rfl | assumption) : wpList P ops Q (o :: rest) a w :=
  st_ld1 ho hF hx ht hw hi hv h
theorem w_ld {ty : TypeId} {x : Operand} {g i : Nat} {t : TypeId} {cs : List Value} {v : Value} (ho : o.op = .load ty x) (hF : St w0 D0 w M D) (hx : look a x = some (.pointer (some ⟨g, 0, none⟩)))
    (h : wpList P ops Q rest (a.put o.dst v) w) (hw : Region.wanted o (yielded ops a.tmps) = true := by rfl) (hi : M[i]? = some (.blk g t cs) := by (first | exact at0 | exact at1 | exact at2 | exact at3 | exact at4 | exact at5 | exact at6 | exact at7)) (ht : RowTy P ty cs.length := by exact tyRow _ _ rfl) (hv : .agg cs.toArray = v := by exact rfl) : wpList P ops Q (o :: rest) a w :=
  st_ld ho hF hx hw hi ht hv h
/-- a part of a variable that is a struct itself, loaded, stored -/
theorem w_ldp {ty : TypeId} {x : Operand} {g off i : Nat} {t : TypeId} {cs : List Value} {v : Value} {n : Nat} (ho : o.op = .load ty x) (hF : St w0 D0 w M D) (hx : look a x = some (.pointer (some ⟨g, off, none⟩)))
    (h : wpList P ops Q rest (a.put o.dst v) w) (hw : Region.wanted o (yielded ops a.tmps) = true := by rfl) (hi : M[i]? = some (.blk g t cs) := by (first | exact at0 | exact at1 | exact at2 | exact at3 | exact at4 | exact at5 | exact at6 | exact at7)) (ht : RowTy P ty n := by exact tyRow _ _ rfl) (hn : off + n ≤ cs.length := by decide) (hv : .agg ((cs.drop off).take n).toArray = v := by exact rfl) : wpList P ops Q (o :: rest) a w := by
  have hl : ((cs.drop off).take n).length = n := by simp; omega
  exact st_ldp ho hF hx hw hi ((cs.drop off).take n) (by rwa [hl]) (fun j u hu => by
    rw [List.getElem?_take] at hu
    split at hu
    · rwa [List.getElem?_drop] at hu
    · cases hu) hv h
theorem w_st1 {ty : TypeId} {x y : Operand} {g off i : Nat} {t : TypeId} {cs : List Value} {v : Value} {M' : List Mu} (ho : o.op = .store ty x y) (hF : St w0 D0 w M D) (hx : look a x = some (.pointer (some ⟨g, off, none⟩))) (hy : look a y = some v)
    (h : ∀ w', St w0 D0 w' M' D → wpList P ops Q rest (a.put o.dst undef) w') (ht : OneT P ty := by exact tyOne _ rfl) (hw : Region.wanted o (yielded ops a.tmps) = true := by rfl) (hi : M[i]? = some (.blk g t cs) := by (first | exact at0 | exact at1 | exact at2 | exact at3 | exact at4 | exact at5 | exact at6 | exact at7))
    (hoff : off < cs.length := by first | assumption | (simp; done) | (simp; omega)) (h1 : OneM M v := by first | exact .inl One1.one | exact .inl rfl | exact .inr ⟨0, _, _, _, _, rfl⟩ | exact .inr ⟨1, _, _, _, _, rfl⟩ | exact .inr ⟨2, _, _, _, _, rfl⟩ | exact .inr ⟨3, _, _, _, _, rfl⟩ | exact .inr ⟨4, _, _, _, _, rfl⟩) (hM : M.set i (.blk g t (cs.set off v)) = M' := by exact rfl) : wpList P ops Q (o :: rest) a w :=
  st_st1 ho hF hx hy ht hw hi hoff (hF.oneM h1) hM h
theorem w_st {ty : TypeId} {x y : Operand} {g i : Nat} {t : TypeId} {cs us : List Value} {M' : List Mu} (ho : o.op = .store ty x y) (hF : St w0 D0 w M D) (hx : look a x = some (.pointer (some ⟨g, 0, none⟩))) (hy : look a y = some (.agg us.toArray))
    (h : ∀ w', St w0 D0 w' M' D → wpList P ops Q rest (a.put o.dst undef) w') (hw : Region.wanted o (yielded ops a.tmps) = true := by rfl) (hi : M[i]? = some (.blk g t cs) := by (first | exact at0 | exact at1 | exact at2 | exact at3 | exact at4 | exact at5 | exact at6 | exact at7)) (hfit : us.length = cs.length := by exact rfl) (ht : RowTy P ty us.length := by exact tyRow _ _ rfl)
    (h1 : ∀ u ∈ us, OneM M u := by first | exact oneM_all | ((repeat (first | exact oneM_nil | refine oneM_cons (by first | exact .inl One1.one | exact .inl rfl | exact .inr ⟨0, _, _, _, _, rfl⟩ | exact .inr ⟨1, _, _, _, _, rfl⟩ | exact .inr ⟨2, _, _, _, _, rfl⟩ | exact .inr ⟨3, _, _, _, _, rfl⟩ | exact .inr ⟨4, _, _, _, _, rfl⟩) ?_)) <;> exact oneM_nil)) (hM : M.set i (.blk g t us) = M' := by exact rfl) : wpList P ops Q (o :: rest) a w :=
  st_st ho hF hx us hy hw hi hfit ht (fun u hu => hF.oneM (h1 u hu)) hM h
theorem w_stp {ty : TypeId} {x y : Operand} {g off i : Nat} {t : TypeId} {cs us : List Value} {M' : List Mu} (ho : o.op = .store ty x y) (hF : St w0 D0 w M D) (hx : look a x = some (.pointer (some ⟨g, off, none⟩))) (hy : look a y = some (.agg us.toArray))
    (h : ∀ w', St w0 D0 w' M' D → wpList P ops Q rest (a.put o.dst undef) w') (hw : Region.wanted o (yielded ops a.tmps) = true := by rfl) (hi : M[i]? = some (.blk g t cs) := by (first | exact at0 | exact at1 | exact at2 | exact at3 | exact at4 | exact at5 | exact at6 | exact at7)) (hfit : off + us.length ≤ cs.length := by decide) (ht : RowTy P ty us.length := by exact tyRow _ _ rfl)
    (h1 : ∀ u ∈ us, OneM M u := by exact oneM_all) (hM : M.set i (.blk g t (spl cs off us)) = M' := by exact rfl) : wpList P ops Q (o :: rest) a w :=
  st_stp ho hF hx us hy hw hi hfit ht (fun u hu => hF.oneM (h1 u hu)) hM h
theorem w_ld1o {ty : TypeId} {x : Operand} {g off i n c : Nat} {e : TypeId} {sz : Nat} {xs : List Value} {v : Value} (ho : o.op = .load ty x) (hF : St w0 D0 w M D) (hx : look a x = some (.pointer (some ⟨g, off, none⟩)))
    (h : wpList P ops Q rest (a.put o.dst v) w) (ht : OneT P ty := by exact tyOne _ rfl) (hw : Region.wanted o (yielded ops a.tmps) = true := by rfl) (hi : M[i]? = some (.own (.slice (some ⟨g, 0, none⟩) n c) e sz n xs) := by (first | exact at0 | exact at1 | exact at2 | exact at3 | exact at4 | exact at5 | exact at6 | exact at7))
    (hv : xs[off]? = some v := by first | exact rfl | assumption | exact Rows.el (by assumption) rfl | exact Rows.el0 (by assumption) rfl) : wpList P ops Q (o :: rest) a w :=
  st_ld1o ho hF hx ht hw hi hv h
theorem w_st1o {ty : TypeId} {x y : Operand} {g off i n c : Nat} {e : TypeId} {sz : Nat} {xs : List Value} {v : Value} {M' : List Mu} (ho : o.op = .store ty x y) (hF : St w0 D0 w M D) (hx : look a x = some (.pointer (some ⟨g, off, none⟩))) (hy : look a y = some v)
    (h : ∀ w', St w0 D0 w' M' D → wpList P ops Q rest (a.put o.dst undef) w') (ht : OneT P ty := by exact tyOne _ rfl) (hw : Region.wanted o (yielded ops a.tmps) = true := by rfl) (hi : M[i]? = some (.own (.slice (some ⟨g, 0, none⟩) n c) e sz n xs) := by (first | exact at0 | exact at1 | exact at2 | exact at3 | exact at4 | exact at5 | exact at6 | exact at7))
    (hoff : off < xs.length := by first | assumption | (simp; done) | (simp; omega)) (h1 : OneM M v := by first | exact .inl One1.one | exact .inl rfl | exact .inr ⟨0, _, _, _, _, rfl⟩ | exact .inr ⟨1, _, _, _, _, rfl⟩ | exact .inr ⟨2, _, _, _, _, rfl⟩) (hM : M.set i (.own (.slice (some ⟨g, 0, none⟩) n c) e sz n (xs.set off v)) = M' := by exact rfl) : wpList P ops Q (o :: rest) a w :=
  st_st1o ho hF hx hy ht hw hi hoff (hF.oneM h1) hM h
theorem w_ix {t e : TypeId} {x ix : Operand} {A : Option Addr} {n c k : Nat} {ki : IntKind} {z : Value} {sz bytes : Nat} {xs : List Value} (ho : o.op = .indexAddr t x ix) (hF : St w0 D0 w M D) (hx : look a x = some (.slice A n c)) (hk : look a ix = some (.int ki (k : Int)))
    (h : wpList P ops Q rest (a.put o.dst (ept A (k * sz))) w) (ht : SlT P t e z sz bytes := by exact tySl _ _ _ _ _ rfl) (hw : Region.wanted o (yielded ops a.tmps) = true := by rfl) (hd : rowD sz A n c xs ∈ D := by ((repeat (first | exact List.Mem.head _ | refine List.Mem.tail _ ?_)) <;> exact List.Mem.head _)) (hkn : k < n := by (first | assumption | omega | exact Nat.zero_lt_of_lt (by assumption) | exact Nat.succ_pos _)) : wpList P ops Q (o :: rest) a w :=
  st_ix ho hF hx hk ht hw hd hkn h
theorem w_ixB {t e : TypeId} {x ix : Operand} {g n c k : Nat} {ki : IntKind} {z : Value} {sz bytes : Nat} (ho : o.op = .indexAddr t x ix) (hx : look a x = some (.slice (some ⟨g, 0, none⟩) n c)) (hk : look a ix = some (.int ki (k : Int)))
    (h : wpList P ops Q rest (a.put o.dst (.pointer (some ⟨g, k * sz, none⟩))) w) (ht : SlT P t e z sz bytes := by exact tySl _ _ _ _ _ rfl) (hw : Region.wanted o (yielded ops a.tmps) = true := by rfl) (hkn : k < n := by (first | assumption | omega | exact Nat.zero_lt_of_lt (by assumption) | exact Nat.succ_pos _)) : wpList P ops Q (o :: rest) a w :=
  st_ixB ho hx hk ht hw hkn h
theorem w_fld {s f : Nat} {x : Operand} {A : Option Addr} {j off sz n c : Nat} {xs : List Value} (ho : o.op = .fieldAddr s x f) (hF : St w0 D0 w M D) (hx : look a x = some (ept A j))
    (h : wpList P ops Q rest (a.put o.dst (ept A (j + off))) w) (ht : FldT P s f off := by exact tyFld _ _ _ rfl) (hw : Region.wanted o (yielded ops a.tmps) = true := by rfl) (hd : rowD sz A n c xs ∈ D := by ((repeat (first | exact List.Mem.head _ | refine List.Mem.tail _ ?_)) <;> exact List.Mem.head _)) (hn : 0 < n := by (first | assumption | omega)) : wpList P ops Q (o :: rest) a w :=
  st_fld ho hx ht hw hF hd hn h
theorem w_fldB {s f : Nat} {x : Operand} {g j off : Nat} (ho : o.op = .fieldAddr s x f) (hx : look a x = some (.pointer (some ⟨g, j, none⟩)))
    (h : wpList P ops Q rest (a.put o.dst (.pointer (some ⟨g, j + off, none⟩))) w) (ht : FldT P s f off := by exact tyFld _ _ _ rfl) (hw : Region.wanted o (yielded ops a.tmps) = true := by rfl) : wpList P ops Q (o :: rest) a w :=
  st_fldB ho hx ht hw h
theorem w_lde1 {ty : TypeId} {x : Operand} {A : Option Addr} {j sz n c : Nat} {xs : List Value} {v : Value} (ho : o.op = .load ty x) (hF : St w0 D0 w M D) (hx : look a x = some (ept A j))
    (h : wpList P ops Q rest (a.put o.dst v) w) (ht : OneT P ty := by exact tyOne _ rfl) (hw : Region.wanted o (yielded ops a.tmps) = true := by rfl) (hd : rowD sz A n c xs ∈ D := by ((repeat (first | exact List.Mem.head _ | refine List.Mem.tail _ ?_)) <;> exact List.Mem.head _)) (hv : xs[j]? = some v := by first | assumption | exact Rows.el (by assumption) rfl | exact Rows.el0 (by assumption) rfl) : wpList P ops Q (o :: rest) a w :=
  st_lde1 ho hF hx ht hw hd hv h
theorem w_lde {ty : TypeId} {x : Operand} {A : Option Addr} {j sz n c : Nat} {xs us : List Value} {v : Value} (ho : o.op = .load ty x) (hF : St w0 D0 w M D) (hx : look a x = some (ept A j))
    (h : wpList P ops Q rest (a.put o.dst v) w) (hw : Region.wanted o (yielded ops a.tmps) = true := by rfl) (hd : rowD sz A n c xs ∈ D := by ((repeat (first | exact List.Mem.head _ | refine List.Mem.tail _ ?_)) <;> exact List.Mem.head _)) (hu : ∀ i u, us[i]? = some u → xs[j + i]? = some u := by exact Rows.sub (by assumption)) (ht : RowTy P ty us.length := by exact tyRow _ _ rfl) (h0 : 0 < us.length := by exact Nat.zero_lt_succ _) (hv : .agg us.toArray = v := by exact rfl) : wpList P ops Q (o :: rest) a w :=
  st_lde ho hF hx hw hd us hu ht h0 hv h
theorem w_to {t e : TypeId} {x y : Operand} {A : Option Addr} {n c N : Nat} {ki : IntKind} {z : Value} {sz bytes : Nat} {xs : List Value} (ho : o.op = .slice t x none (some y) none) (hF : St w0 D0 w M D) (hx : look a x = some (.slice A n c)) (hy : look a y = some (.int ki (N : Int)))
    (h : St w0 D0 w M (rowD sz A N c (xs.take (N * sz)) :: D) → wpList P ops Q rest (a.put o.dst (.slice A N c)) w) (ht : SlT P t e z sz bytes := by exact tySl _ _ _ _ _ rfl) (hw : Region.wanted o (yielded ops a.tmps) = true := by rfl) (hd : rowD sz A n c xs ∈ D := by ((repeat (first | exact List.Mem.head _ | refine List.Mem.tail _ ?_)) <;> exact List.Mem.head _)) (hN : N ≤ n := by (first | assumption | omega)) : wpList P ops Q (o :: rest) a w :=
  st_to ho hF hx hy ht hw hd hN h
theorem w_from {t e : TypeId} {x y : Operand} {A : Option Addr} {n c k : Nat} {ki : IntKind} {z : Value} {sz bytes : Nat} {xs : List Value} (ho : o.op = .slice t x (some y) none none) (hF : St w0 D0 w M D) (hx : look a x = some (.slice A n c)) (hy : look a y = some (.int ki (k : Int)))
    (h : St w0 D0 w M (rowD sz (cutA A k c sz) (n - k) (c - k) (xs.drop (k * sz)) :: D) → wpList P ops Q rest (a.put o.dst (.slice (cutA A k c sz) (n - k) (c - k))) w) (ht : SlT P t e z sz bytes := by exact tySl _ _ _ _ _ rfl) (hw : Region.wanted o (yielded ops a.tmps) = true := by rfl) (hd : rowD sz A n c xs ∈ D := by ((repeat (first | exact List.Mem.head _ | refine List.Mem.tail _ ?_)) <;> exact List.Mem.head _)) (hk : k ≤ n := by (first | assumption | omega)) : wpList P ops Q (o :: rest) a w :=
  st_from ho hF hx hy ht hw hd hk h
theorem w_bs1 {t e : TypeId} {x : Operand} {z : Value} {sz bytes : Nat} {v : Value} {us : List Value} (ho : o.op = .buildSlice t 1 #[(0, x)]) (hF : St w0 D0 w M D) (hx : look a x = some v)
    (h : ∀ g w', St w0 D0 w' (.own (.slice (some ⟨g, 0, none⟩) 1 1) e sz 1 us :: M) D → wpList P ops Q rest (a.put o.dst (.slice (some ⟨g, 0, none⟩) 1 1)) w') (hgd : o.guard = none := by rfl) (ht : SlT P t e z sz bytes := by exact tySl _ _ _ _ _ rfl) (hv : v.cells = us.toArray := by exact rfl) (hl : us.length = sz := by exact rfl) (hb : sz ≤ 1000 := by decide) : wpList P ops Q (o :: rest) a w :=
  st_bs1 ho hgd hF ht hx us hv hl hb h
theorem w_bs0 {t e : TypeId} {z : Value} {sz bytes : Nat} (ho : o.op = .buildSlice t 0 #[]) (hF : St w0 D0 w M D)
    (h : ∀ g w', St w0 D0 w' (.own (.slice (some ⟨g, 0, none⟩) 0 0) e sz 0 [] :: M) D → wpList P ops Q rest (a.put o.dst (.slice (some ⟨g, 0, none⟩) 0 0)) w') (hgd : o.guard = none := by rfl) (ht : SlT P t e z sz bytes := by exact tySl _ _ _ _ _ rfl) : wpList P ops Q (o :: rest) a w :=
  st_bs0 ho hgd hF ht h
theorem w_app {t e : TypeId} {s x : Operand} {z : Value} {sz bytes : Nat} {v : Value} {g m j i n : Nat} {us xs : List Value} {M' : Value → List Mu} (ho : o.op = .call { callee := .builtin .append, args := #[s, x], argTypes := #[t, t] }) (hF : St w0 D0 w M D)
    (hs : look a s = some v) (hx : look a x = some (.slice (some ⟨g, 0, none⟩) m m)) (h : ∀ v' w', St w0 D0 w' (M' v') D → wpList P ops Q rest (a.put o.dst v') w') (hgd : o.guard = none := by rfl) (ht : SlT P t e z sz bytes := by exact tySl _ _ _ _ _ rfl)
    (hj : M[j]? = some (.own (.slice (some ⟨g, 0, none⟩) m m) e sz m us) := by (first | exact at0 | exact at1 | exact at2 | exact at3 | exact at4 | exact at5 | exact at6 | exact at7)) (hi : M[i]? = some (.own v e sz n xs) := by (first | exact at0 | exact at1 | exact at2 | exact at3 | exact at4 | exact at5 | exact at6 | exact at7))
    (h1 : ∀ u ∈ us, OneM M u := by first | exact oneM_all | ((repeat (first | exact oneM_nil | refine oneM_cons (by first | exact .inl One1.one | exact .inl rfl | exact .inr ⟨0, _, _, _, _, rfl⟩ | exact .inr ⟨1, _, _, _, _, rfl⟩ | exact .inr ⟨2, _, _, _, _, rfl⟩ | exact .inr ⟨3, _, _, _, _, rfl⟩ | exact .inr ⟨4, _, _, _, _, rfl⟩) ?_)) <;> exact oneM_nil))
    (h63 : (n + m) * bytes ≤ 140737488355328 := by omega) (hm : n + m ≤ 9223372036854775807 := by omega) (hM : ∀ v', (M.set i (.own v' e sz (n + m) (xs ++ us))).eraseIdx j = M' v' := by exact fun _ => rfl) : wpList P ops Q (o :: rest) a w :=
  st_app ho hgd hF ht hs hx hj hi (fun u hu => hF.oneM (h1 u hu)) h63 hm hM h
theorem w_appD {t e : TypeId} {s x : Operand} {z : Value} {sz bytes : Nat} {v : Value} {A : Option Addr} {m c i n : Nat} {us xs : List Value} {M' : Value → List Mu} (ho : o.op = .call { callee := .builtin .append, args := #[s, x], argTypes := #[t, t] }) (hF : St w0 D0 w M D)
    (hs : look a s = some v) (hx : look a x = some (.slice A m c)) (h : ∀ v' w', St w0 D0 w' (M' v') D → wpList P ops Q rest (a.put o.dst v') w') (hgd : o.guard = none := by rfl) (ht : SlT P t e z sz bytes := by exact tySl _ _ _ _ _ rfl)
    (hd : rowD sz A m c us ∈ D := by ((repeat (first | exact List.Mem.head _ | refine List.Mem.tail _ ?_)) <;> exact List.Mem.head _)) (hi : M[i]? = some (.own v e sz n xs) := by (first | exact at0 | exact at1 | exact at2 | exact at3 | exact at4 | exact at5 | exact at6 | exact at7)) (h1 : ∀ u ∈ us, OneM M u := by exact oneM_all)
    (h63 : (n + m) * bytes ≤ 140737488355328 := by omega) (hm : n + m ≤ 9223372036854775807 := by omega) (hM : ∀ v', M.set i (.own v' e sz (n + m) (xs ++ us)) = M' v' := by exact fun _ => rfl) : wpList P ops Q (o :: rest) a w :=
  st_appD ho hgd hF ht hs hx hd hi (fun u hu => hF.oneM (h1 u hu)) h63 hm hM h
theorem w_make0 {t e : TypeId} {l c : Operand} {z : Value} {sz bytes : Nat} {kl kc : IntKind} {N : Int} {n : Nat} (ho : o.op = .makeSlice t l c) (hF : St w0 D0 w M D) (hl : look a l = some (.int kl 0)) (hc : look a c = some (.int kc N))
    (h : ∀ g w', St w0 D0 w' (.own (.slice (some ⟨g, 0, none⟩) 0 n) e sz 0 [] :: M) D → wpList P ops Q rest (a.put o.dst (.slice (some ⟨g, 0, none⟩) 0 n)) w') (hgd : o.guard = none := by rfl) (ht : SlT P t e z sz bytes := by exact tySl _ _ _ _ _ rfl)
    (hN : N = (n : Int) := by first | exact rfl | omega) (hb : bytes * n ≤ 281474976710656 := by omega) (hm : n ≤ maxLen := by unfold maxLen; omega) : wpList P ops Q (o :: rest) a w :=
  st_make0 ho hgd hF ht hl hc n hN hb hm h
theorem w_make {t e : TypeId} {l c : Operand} {z : Value} {sz bytes : Nat} {kl kc : IntKind} {L N : Int} (n : Nat) {zs : List Value} (ho : o.op = .makeSlice t l c) (hF : St w0 D0 w M D) (hl : look a l = some (.int kl L)) (hc : look a c = some (.int kc N))
    (h : ∀ g w', St w0 D0 w' (.blk g e zs :: M) D → wpList P ops Q rest (a.put o.dst (.slice (some ⟨g, 0, none⟩) n n)) w') (hgd : o.guard = none := by rfl) (ht : SlT P t e z sz bytes := by exact tySl _ _ _ _ _ rfl)
    (hL : L = (n : Int) := by first | exact rfl | omega) (hN : N = (n : Int) := by first | exact rfl | omega) (hb : bytes * n ≤ 281474976710656 := by omega) (hm : n ≤ maxLen := by unfold maxLen; omega) (he : (madeCells z.cells (n * sz)).toList = zs := by exact rfl) : wpList P ops Q (o :: rest) a w :=
  st_make ho hgd hF ht hl hc n hL hN hb hm he h
theorem w_copy {t e : TypeId} {d s : Operand} {z : Value} {sz bytes : Nat} {g n cd : Nat} {A : Option Addr} {c i : Nat} {us cs : List Value} {t' : TypeId} {M' : List Mu} (ho : o.op = .call { callee := .builtin .copy, args := #[d, s], argTypes := #[t, t] }) (hF : St w0 D0 w M D)
    (hx : look a d = some (.slice (some ⟨g, 0, none⟩) n cd)) (hy : look a s = some (.slice A n c)) (h : ∀ w', St w0 D0 w' M' D → wpList P ops Q rest (a.put o.dst (goInt (n : Nat))) w') (hgd : o.guard = none := by rfl) (ht : SlT P t e z sz bytes := by exact tySl _ _ _ _ _ rfl)
    (hd : rowD sz A n c us ∈ D := by ((repeat (first | exact List.Mem.head _ | refine List.Mem.tail _ ?_)) <;> exact List.Mem.head _)) (hi : M[i]? = some (.blk g t' cs) := by (first | exact at0 | exact at1 | exact at2 | exact at3 | exact at4 | exact at5 | exact at6 | exact at7)) (hl : cs.length = n * sz := by first | exact rfl | (simp [madeCells]; done) | (simp [madeCells]; omega)) (h1 : ∀ u ∈ us, OneM M u := by exact oneM_all) (hM : M.set i (.blk g t' us) = M' := by exact rfl) : wpList P ops Q (o :: rest) a w :=
  st_copy ho hgd hF ht hx hy hd hi hl (fun u hu => hF.oneM (h1 u hu)) hM h
theorem w_min {x y : Operand} {ts : Array TypeId} {k k' : IntKind} {p q : Int} (N : Int) (ho : o.op = .call { callee := .builtin .min, args := #[x, y], argTypes := ts }) (hx : look a x = some (.int k p)) (hy : look a y = some (.int k' q))
    (h : wpList P ops Q rest (a.put o.dst (.int k N)) w) (hgd : o.guard = none := by rfl) (hN : N = if q < p then q else p := by first | (split <;> omega) | omega) : wpList P ops Q (o :: rest) a w := st_min ho hgd hx hy N hN h
theorem w_max {x y : Operand} {ts : Array TypeId} {k k' : IntKind} {p q : Int} (N : Int) (ho : o.op = .call { callee := .builtin .max, args := #[x, y], argTypes := ts }) (hx : look a x = some (.int k p)) (hy : look a y = some (.int k' q))
    (h : wpList P ops Q rest (a.put o.dst (.int k N)) w) (hgd : o.guard = none := by rfl) (hN : N = if q > p then q else p := by first | (split <;> omega) | omega) : wpList P ops Q (o :: rest) a w := st_max ho hgd hx hy N hN h
theorem w_bytes {src dst e : TypeId} {x : Operand} {s : ByteArray} (ho : o.op = .convert src dst x) (hF : St w0 D0 w M D) (hx : look a x = some (.string s))
    (h : ∀ g cap r w', St w0 D0 w' (.blk g e (byteCells s.data.toList ++ r) :: M) D → s.size + r.length = cap → cap ≤ maxLen → wpList P ops Q rest (a.put o.dst (.slice (some ⟨g, 0, none⟩) s.size cap)) w') (hgd : o.guard = none := by rfl)
    (hs : StrT P src := by exact tyStr _ rfl) (hd : BySlT P dst e := by exact tyBy _ _ rfl) (hsz : s.size ≤ maxLen := by first | assumption | (unfold maxLen; omega)) : wpList P ops Q (o :: rest) a w :=
  st_bytes ho hgd hF hs hd hx hsz h
theorem w_string {src dst e : TypeId} {x : Operand} {g n c i : Nat} {t : TypeId} {l : List UInt8} {r : List Value} (ho : o.op = .convert src dst x) (hF : St w0 D0 w M D) (hx : look a x = some (.slice (some ⟨g, 0, none⟩) n c))
    (h : wpList P ops Q rest (a.put o.dst (.string ⟨l.toArray⟩)) w) (hgd : o.guard = none := by rfl) (hs : BySlT P src e := by exact tyBy _ _ rfl) (hd : StrT P dst := by exact tyStr _ rfl) (hi : M[i]? = some (.blk g t (byteCells l ++ r)) := by (first | exact at0 | exact at1 | exact at2 | exact at3 | exact at4 | exact at5 | exact at6 | exact at7)) (hn : l.length = n := by (first | assumption | omega)) (hc : n ≤ c := by (first | assumption | omega)) (hm : c ≤ maxLen := by first | assumption | (unfold maxLen; omega)) : wpList P ops Q (o :: rest) a w :=
  st_string ho hgd hF hs hd hx hi hn hc hm h
theorem w_idxs {t : TypeId} {x ix : Operand} {s : ByteArray} {k : Nat} {ki : IntKind} {b : UInt8} (ho : o.op = .index t x ix) (hx : look a x = some (.string s)) (hk : look a ix = some (.int ki (k : Int)))
    (h : wpList P ops Q rest (a.put o.dst (.int .u8 (b.toNat : Int))) w) (ht : StrT P t := by exact tyStr _ rfl) (hw : Region.wanted o (yielded ops a.tmps) = true := by rfl) (hb : s.data.toList[k]? = some b := by assumption) : wpList P ops Q (o :: rest) a w :=
  st_idxs ho ht hx hk hw hb h
theorem w_strto {t : TypeId} {x y : Operand} {s : ByteArray} {k : Nat} {ki : IntKind} (ho : o.op = .slice t x none (some y) none) (hx : look a x = some (.string s)) (hy : look a y = some (.int ki (k : Int)))
    (h : wpList P ops Q rest (a.put o.dst (.string (s.extract 0 k))) w) (ht : StrT P t := by exact tyStr _ rfl) (hw : Region.wanted o (yielded ops a.tmps) = true := by rfl) (hk : k ≤ s.size := by (first | assumption | omega)) : wpList P ops Q (o :: rest) a w := st_strto ho ht hx hy hw hk h
theorem w_strfrom {t : TypeId} {x y : Operand} {s : ByteArray} {k : Nat} {ki : IntKind} (ho : o.op = .slice t x (some y) none none) (hx : look a x = some (.string s)) (hy : look a y = some (.int ki (k : Int)))
    (h : wpList P ops Q rest (a.put o.dst (.string (s.extract k s.size))) w) (ht : StrT P t := by exact tyStr _ rfl) (hw : Region.wanted o (yielded ops a.tmps) = true := by rfl) (hk : k ≤ s.size := by (first | assumption | omega)) : wpList P ops Q (o :: rest) a w := st_strfrom ho ht hx hy hw hk h
theorem w_fromB {t e : TypeId} {x y : Operand} {g n c k : Nat} {ki : IntKind} (ho : o.op = .slice t x (some y) none none) (hx : look a x = some (.slice (some ⟨g, 0, none⟩) n c)) (hy : look a y = some (.int ki (k : Int)))
    (h : wpList P ops Q rest (a.put o.dst (.slice (some ⟨g, k, none⟩) (n - k) (c - k))) w) (ht : BySlT P t e := by exact tyBy _ _ rfl) (hw : Region.wanted o (yielded ops a.tmps) = true := by rfl) (hk : k < n := by (first | assumption | omega)) (hn : n ≤ c := by (first | assumption | omega)) : wpList P ops Q (o :: rest) a w := st_fromB ho hx hy ht hw hk hn h
theorem w_copys {dT sT e : TypeId} {d s : Operand} {g off n cd : Nat} {str : ByteArray} {i : Nat} {t' : TypeId} {l : List UInt8} {r : List Value} {M' : List Mu} (ho : o.op = .call { callee := .builtin .copy, args := #[d, s], argTypes := #[dT, sT] }) (hF : St w0 D0 w M D)
    (hx : look a d = some (.slice (some ⟨g, off, none⟩) n cd)) (hy : look a s = some (.string str)) (h : ∀ w', St w0 D0 w' M' D → wpList P ops Q rest (a.put o.dst (goInt (min str.size n : Nat))) w') (hgd : o.guard = none := by rfl) (ht : BySlT P dT e := by exact tyBy _ _ rfl)
    (hi : M[i]? = some (.blk g t' (byteCells l ++ r)) := by (first | exact at0 | exact at1 | exact at2 | exact at3 | exact at4 | exact at5 | exact at6 | exact at7)) (hl : off + n = l.length := by (first | assumption | omega)) (hM : M.set i (.blk g t' (byteCells (layB l off str.data.toList) ++ r)) = M' := by exact rfl) : wpList P ops Q (o :: rest) a w := by
  have e1 := spl_bytes (l := l) (r := r) (k := off) (str := str) (by omega)
  rw [show l.length - off = n by omega] at e1
  rw [← e1] at hM
  exact st_copys ho hgd hF ht hx hy hi (by rw [List.length_append, byteCells_len]; omega) hM h

/-- results -/
theorem w_resc {fn : Func} {p : Tmp} {ty t : TypeId} {g i : Nat} {cs : List Value} {tmps : Array Value} (h : fn.results = #[.cell p ty]) (hF : St w0 D0 w M D) (hp : tmps.getD p undef = .pointer (some ⟨g, 0, none⟩) := by rfl) (hi : M[i]? = some (.blk g t cs) := by (first | exact at0 | exact at1 | exact at2 | exact at3 | exact at4 | exact at5 | exact at6 | exact at7)) (ht : RowTy P ty cs.length := by exact tyRow _ _ rfl) :
    (results fn tmps).run P w = .ok (.agg cs.toArray) w := res_c h hp (hF.bkAt hi) ht
theorem w_rescs {fn : Func} {p q : Tmp} {ty t : TypeId} {g i : Nat} {cs : List Value} {tmps : Array Value} (h : fn.results = #[.cell p ty, .tmp q]) (hF : St w0 D0 w M D) (hp : tmps.getD p undef = .pointer (some ⟨g, 0, none⟩) := by rfl) (hi : M[i]? = some (.blk g t cs) := by (first | exact at0 | exact at1 | exact at2 | exact at3 | exact at4 | exact at5 | exact at6 | exact at7)) (ht : RowTy P ty cs.length := by exact tyRow _ _ rfl) :
    (results fn tmps).run P w = .ok (.tuple #[.agg cs.toArray, tmps.getD q undef]) w := res_cs h hp (hF.bkAt hi) ht
theorem w_resscs {fn : Func} {p q q' : Tmp} {ty t : TypeId} {g i : Nat} {cs : List Value} {tmps : Array Value} (h : fn.results = #[.tmp q, .cell p ty, .tmp q']) (hF : St w0 D0 w M D) (hp : tmps.getD p undef = .pointer (some ⟨g, 0, none⟩) := by rfl) (hi : M[i]? = some (.blk g t cs) := by (first | exact at0 | exact at1 | exact at2 | exact at3 | exact at4 | exact at5 | exact at6 | exact at7)) (ht : RowTy P ty cs.length := by exact tyRow _ _ rfl) :
    (results fn tmps).run P w = .ok (.tuple #[tmps.getD q undef, .agg cs.toArray, tmps.getD q' undef]) w := res_scs h hp (hF.bkAt hi) ht
theorem w_rescss {fn : Func} {p q q' : Tmp} {ty t : TypeId} {g i : Nat} {cs : List Value} {tmps : Array Value} (h : fn.results = #[.cell p ty, .tmp q, .tmp q']) (hF : St w0 D0 w M D) (hp : tmps.getD p undef = .pointer (some ⟨g, 0, none⟩) := by rfl) (hi : M[i]? = some (.blk g t cs) := by (first | exact at0 | exact at1 | exact at2 | exact at3 | exact at4 | exact at5 | exact at6 | exact at7)) (ht : RowTy P ty cs.length := by exact tyRow _ _ rfl) :
    (results fn tmps).run P w = .ok (.tuple #[.agg cs.toArray, tmps.getD q undef, tmps.getD q' undef]) w := res_css h hp (hF.bkAt hi) ht
theorem w_resccs {fn : Func} {p p' q : Tmp} {ty t ty' t' : TypeId} {g g' i i' : Nat} {cs cs' : List Value} {tmps : Array Value} (h : fn.results = #[.cell p ty, .cell p' ty', .tmp q]) (hF : St w0 D0 w M D) (hp : tmps.getD p undef = .pointer (some ⟨g, 0, none⟩) := by rfl) (hi : M[i]? = some (.blk g t cs) := by (first | exact at0 | exact at1 | exact at2 | exact at3 | exact at4 | exact at5 | exact at6 | exact at7)) (ht : RowTy P ty cs.length := by exact tyRow _ _ rfl)
    (hp' : tmps.getD p' undef = .pointer (some ⟨g', 0, none⟩) := by rfl) (hi' : M[i']? = some (.blk g' t' cs') := by (first | exact at0 | exact at1 | exact at2 | exact at3 | exact at4 | exact at5 | exact at6 | exact at7)) (ht' : RowTy P ty' cs'.length := by exact tyRow _ _ rfl) :
    (results fn tmps).run P w = .ok (.tuple #[.agg cs.toArray, .agg cs'.toArray, tmps.getD q undef]) w := res_ccs h hp (hF.bkAt hi) ht hp' (hF.bkAt hi') ht'
end

section
variable {P : Program} {ops : Array Oper} {Q : Exit → Act → World → Prop} {md : Region.Mode} {S : World → Prop} {a : Act} {o : Oper} {B : Nat} {Mr : List Mu} {Dr : List Da}
theorem w_take {i t : Nat} {v : Value} {fuel : Nat} {listed : Array Bool} {w : World} (hi : ops.toList[i]? = some o) (hy : YieldsIf P ops S o v a) (hS : S w)
    (h : wpAnyH P md ops Q S fuel (listed.setIfInBounds i true) { a with tmps := a.tmps.setIfInBounds t v } w) (hd : o.dst = some t := by rfl)
    (hs : Region.noSelect ops = true := by kernel_rfl) (hf : Region.free md ops listed i = true := by kernel_rfl) (hr : (Region.ready md ops listed).contains i = true := by kernel_rfl)
    (hQ : ∀ c a w, Q (.panic c) (a.put o.dst v) w → Q (.panic c) a w := by exact fun _ _ _ h => h) : wpAnyH P md ops Q S (fuel + 1) listed a w :=
  rg_take hi hd hs hf hr hQ hy hS h
theorem y_skip (hw : Region.wanted o (yielded ops a.tmps) = false := by rfl) : YieldsIf P ops S o undef a := yi_skip hw
theorem y_move {x : Operand} {v : Value} (ho : o.op = .move x) (hx : look a x = some v) (hw : Region.wanted o (yielded ops a.tmps) = true := by rfl) : YieldsIf P ops S o v a := yi_move ho hx hw
theorem y_assign {x : Operand} {v : Value} (ho : o.op = .assign x) (hx : look a x = some v) (hw : Region.wanted o (yielded ops a.tmps) = true := by rfl) : YieldsIf P ops S o v a := yi_assign ho hx hw
theorem y_len {x : Operand} {t e : TypeId} {z : Value} {sz bytes : Nat} {A : Option Addr} {n c : Nat} (ho : o.op = .call { callee := .builtin .len, args := #[x], argTypes := #[t] }) (hx : look a x = some (.slice A n c)) (ht : SlT P t e z sz bytes := by exact tySl _ _ _ _ _ rfl) (hw : Region.wanted o (yielded ops a.tmps) = true := by rfl) : YieldsIf P ops S o (.int .i64 (n : Int)) a := yi_len ho hx ht hw
theorem y_lens {x : Operand} {t : TypeId} {s : ByteArray} (ho : o.op = .call { callee := .builtin .len, args := #[x], argTypes := #[t] }) (hx : look a x = some (.string s)) (ht : StrT P t := by exact tyStr _ rfl) (hw : Region.wanted o (yielded ops a.tmps) = true := by rfl) : YieldsIf P ops S o (.int .i64 (s.size : Int)) a := by
  replace hx := look_eval hx
  obtain ⟨hu⟩ := ht
  exact yi_pure hw fun w => by
    unfold execOp
    simp [ho, resolve, invoke, builtin, hx, Builtin.len_, run_underlying hu, goInt]
theorem y_ld1 {ty : TypeId} {x : Operand} {g off : Nat} {t : TypeId} {cs : List Value} {v : Value} (ho : o.op = .load ty x) (hx : look a x = some (.pointer (some ⟨g, off, none⟩))) (ht : OneT P ty := by exact tyOne _ rfl) (hw : Region.wanted o (yielded ops a.tmps) = true := by rfl)
    (hm : Mu.blk g t cs ∈ Mr := by ((repeat (first | exact List.Mem.head _ | refine List.Mem.tail _ ?_)) <;> exact List.Mem.head _)) (hv : cs[off]? = some v := by exact rfl) : YieldsIf P ops (Hold B Mr Dr) o v a := yi_ld1 ho hx ht hw hm hv
theorem y_ld {ty : TypeId} {x : Operand} {g : Nat} {t : TypeId} {cs : List Value} {v : Value} (ho : o.op = .load ty x) (hx : look a x = some (.pointer (some ⟨g, 0, none⟩))) (hw : Region.wanted o (yielded ops a.tmps) = true := by rfl)
    (hm : Mu.blk g t cs ∈ Mr := by ((repeat (first | exact List.Mem.head _ | refine List.Mem.tail _ ?_)) <;> exact List.Mem.head _)) (ht : RowTy P ty cs.length := by exact tyRow _ _ rfl) (hv : .agg cs.toArray = v := by exact rfl) : YieldsIf P ops (Hold B Mr Dr) o v a := by subst hv; exact yi_ld ho hx hw hm ht
theorem y_fldB {s f : Nat} {x : Operand} {g j off : Nat} (ho : o.op = .fieldAddr s x f) (hx : look a x = some (.pointer (some ⟨g, j, none⟩))) (ht : FldT P s f off := by exact tyFld _ _ _ rfl) (hw : Region.wanted o (yielded ops a.tmps) = true := by rfl) :
    YieldsIf P ops S o (.pointer (some ⟨g, j + off, none⟩)) a := yi_fldB ho hx ht hw
theorem y_ix {t e : TypeId} {x ix : Operand} {A : Option Addr} {n c k : Nat} {ki : IntKind} {z : Value} {sz bytes : Nat} {xs : List Value} (ho : o.op = .indexAddr t x ix) (hx : look a x = some (.slice A n c)) (hk : look a ix = some (.int ki (k : Int)))
    (ht : SlT P t e z sz bytes := by exact tySl _ _ _ _ _ rfl) (hw : Region.wanted o (yielded ops a.tmps) = true := by rfl) (hd : rowD sz A n c xs ∈ Dr := by ((repeat (first | exact List.Mem.head _ | refine List.Mem.tail _ ?_)) <;> exact List.Mem.head _)) (hkn : k < n := by (first | assumption | omega | exact Nat.zero_lt_of_lt (by assumption) | exact Nat.succ_pos _)) : YieldsIf P ops (Hold B Mr Dr) o (ept A (k * sz)) a := yi_ix ho hx hk ht hw hd hkn
theorem y_ixB {t e : TypeId} {x ix : Operand} {g n c k : Nat} {ki : IntKind} {z : Value} {sz bytes : Nat} (ho : o.op = .indexAddr t x ix) (hx : look a x = some (.slice (some ⟨g, 0, none⟩) n c)) (hk : look a ix = some (.int ki (k : Int)))
    (ht : SlT P t e z sz bytes := by exact tySl _ _ _ _ _ rfl) (hw : Region.wanted o (yielded ops a.tmps) = true := by rfl) (hkn : k < n := by (first | assumption | omega | exact Nat.zero_lt_of_lt (by assumption) | exact Nat.succ_pos _)) : YieldsIf P ops S o (.pointer (some ⟨g, k * sz, none⟩)) a := yi_ixB ho hx hk ht hw hkn
theorem y_fld {s f : Nat} {x : Operand} {A : Option Addr} {j off sz n c : Nat} {xs : List Value} (ho : o.op = .fieldAddr s x f) (hx : look a x = some (ept A j)) (ht : FldT P s f off := by exact tyFld _ _ _ rfl) (hw : Region.wanted o (yielded ops a.tmps) = true := by rfl)
    (hd : rowD sz A n c xs ∈ Dr := by ((repeat (first | exact List.Mem.head _ | refine List.Mem.tail _ ?_)) <;> exact List.Mem.head _)) (hn : 0 < n := by (first | assumption | omega)) : YieldsIf P ops (Hold B Mr Dr) o (ept A (j + off)) a := yi_fld ho hx ht hw hd hn
theorem y_lde1 {ty : TypeId} {x : Operand} {A : Option Addr} {j sz n c : Nat} {xs : List Value} {v : Value} (ho : o.op = .load ty x) (hx : look a x = some (ept A j)) (ht : OneT P ty := by exact tyOne _ rfl) (hw : Region.wanted o (yielded ops a.tmps) = true := by rfl)
    (hd : rowD sz A n c xs ∈ Dr := by ((repeat (first | exact List.Mem.head _ | refine List.Mem.tail _ ?_)) <;> exact List.Mem.head _)) (hv : xs[j]? = some v := by first | assumption | exact Rows.el (by assumption) rfl | exact Rows.el0 (by assumption) rfl) : YieldsIf P ops (Hold B Mr Dr) o v a := yi_lde1 ho hx ht hw hd hv
theorem y_lde {ty : TypeId} {x : Operand} {A : Option Addr} {j sz n c : Nat} {xs us : List Value} {v : Value} (ho : o.op = .load ty x) (hx : look a x = some (ept A j)) (hw : Region.wanted o (yielded ops a.tmps) = true := by rfl)
    (hd : rowD sz A n c xs ∈ Dr := by ((repeat (first | exact List.Mem.head _ | refine List.Mem.tail _ ?_)) <;> exact List.Mem.head _)) (hu : ∀ i u, us[i]? = some u → xs[j + i]? = some u := by exact Rows.sub (by assumption)) (ht : RowTy P ty us.length := by exact tyRow _ _ rfl) (h0 : 0 < us.length := by exact Nat.zero_lt_succ _) (hv : .agg us.toArray = v := by exact rfl) : YieldsIf P ops (Hold B Mr Dr) o v a := by
  subst hv
  exact yi_lde ho hx hw hd us hu ht h0
theorem y_to {t e : TypeId} {x y : Operand} {A : Option Addr} {n c N : Nat} {ki : IntKind} {z : Value} {sz bytes : Nat} (ho : o.op = .slice t x none (some y) none) (hx : look a x = some (.slice A n c)) (hy : look a y = some (.int ki (N : Int)))
    (ht : SlT P t e z sz bytes := by exact tySl _ _ _ _ _ rfl) (hw : Region.wanted o (yielded ops a.tmps) = true := by rfl) (hN : N ≤ c := by (first | assumption | omega)) : YieldsIf P ops S o (.slice A N c) a := yi_to ho hx hy ht hw hN
theorem y_from {t e : TypeId} {x y : Operand} {A : Option Addr} {n c k : Nat} {ki : IntKind} {z : Value} {sz bytes : Nat} (ho : o.op = .slice t x (some y) none none) (hx : look a x = some (.slice A n c)) (hy : look a y = some (.int ki (k : Int)))
    (ht : SlT P t e z sz bytes := by exact tySl _ _ _ _ _ rfl) (hw : Region.wanted o (yielded ops a.tmps) = true := by rfl) (hk : k ≤ n := by (first | assumption | omega)) : YieldsIf P ops S o (.slice (cutA A k c sz) (n - k) (c - k)) a := yi_from ho hx hy ht hw hk
theorem y_strto {t : TypeId} {x y : Operand} {s : ByteArray} {k : Nat} {ki : IntKind} (ho : o.op = .slice t x none (some y) none) (hx : look a x = some (.string s)) (hy : look a y = some (.int ki (k : Int))) (ht : StrT P t := by exact tyStr _ rfl) (hw : Region.wanted o (yielded ops a.tmps) = true := by rfl) (hk : k ≤ s.size := by (first | assumption | omega)) :
    YieldsIf P ops S o (.string (s.extract 0 k)) a := yi_strto ho ht hx hy hw hk
theorem y_strfrom {t : TypeId} {x y : Operand} {s : ByteArray} {k : Nat} {ki : IntKind} (ho : o.op = .slice t x (some y) none none) (hx : look a x = some (.string s)) (hy : look a y = some (.int ki (k : Int))) (ht : StrT P t := by exact tyStr _ rfl) (hw : Region.wanted o (yielded ops a.tmps) = true := by rfl) (hk : k ≤ s.size := by (first | assumption | omega)) :
    YieldsIf P ops S o (.string (s.extract k s.size)) a := yi_strfrom ho ht hx hy hw hk
end

/-- what a call hands back: what was there stands, and these data are there, in new blocks or in what was handed in -/
structure Out (w : World) (D0 : List Da) (w' : World) (ds : List Da) : Prop where
  bel : Bel w w'
  ok : ∀ d ∈ ds, d.ok w'
  from_ : ∀ d ∈ ds, From w D0 d
section
variable {w0 w w' : World} {D0 D D1 ds : List Da} {M : List Mu}
theorem St.out (h : St w0 D0 w M D) (hd : ∀ d ∈ ds, d ∈ D) : Out w0 D0 w ds := ⟨h.bel, fun d hm => h.dat d (hd d hm), fun d hm => h.src d (hd d hm)⟩
theorem St.call (h : St w0 D0 w M D) (ho : Out w D1 w' ds) (hD : ∀ d ∈ D1, d ∈ D) : St w0 D0 w' M (ds ++ D) := by
  have h' := h.grow ho.bel
  refine ⟨h'.bel, h'.mu, h'.apart, fun d hd => ?_, fun d hd i m hm g hmg hdg => ?_, fun d hd => ?_⟩
  · rcases List.mem_append.1 hd with hd | hd
    · exact ho.ok d hd
    · exact h'.dat d hd
  · rcases List.mem_append.1 hd with hd | hd
    · rcases ho.from_ d hd g hdg with h1 | ⟨e, he, h1⟩
      · have := ((h.mu i m hm).lt hmg).2; omega
      · exact h.sep e (hD e he) i m hm g hmg h1
    · exact h.sep d hd i m hm g hmg hdg
  · rcases List.mem_append.1 hd with hd | hd
    · exact (ho.from_ d hd).trans h.bel.size fun e he => h.src e (hD e he)
    · exact h.src d hd
theorem St.callA {d1 d2 : Da} (h : St w0 D0 w M D) (ho : Out w D1 w' [d1, d2]) (hD : ∀ d ∈ D1, d ∈ D := by ((repeat (first | exact subn_nil | refine subn_cons (by ((repeat (first | exact List.Mem.head _ | refine List.Mem.tail _ ?_)) <;> exact List.Mem.head _)) ?_)) <;> exact subn_nil)) : St w0 D0 w' M (d1 :: d2 :: D) := h.call ho hD
theorem St.call1A {d1 : Da} (h : St w0 D0 w M D) (ho : Out w D1 w' [d1]) (hD : ∀ d ∈ D1, d ∈ D := by ((repeat (first | exact subn_nil | refine subn_cons (by ((repeat (first | exact List.Mem.head _ | refine List.Mem.tail _ ?_)) <;> exact List.Mem.head _)) ?_)) <;> exact subn_nil)) : St w0 D0 w' M (d1 :: D) := h.call ho hD
theorem St.call3A {d1 d2 d3 : Da} (h : St w0 D0 w M D) (ho : Out w D1 w' [d1, d2, d3]) (hD : ∀ d ∈ D1, d ∈ D := by ((repeat (first | exact subn_nil | refine subn_cons (by ((repeat (first | exact List.Mem.head _ | refine List.Mem.tail _ ?_)) <;> exact List.Mem.head _)) ?_)) <;> exact subn_nil)) : St w0 D0 w' M (d1 :: d2 :: d3 :: D) := h.call ho hD
theorem St.call4A {d1 d2 d3 d4 : Da} (h : St w0 D0 w M D) (ho : Out w D1 w' [d1, d2, d3, d4]) (hD : ∀ d ∈ D1, d ∈ D := by ((repeat (first | exact subn_nil | refine subn_cons (by ((repeat (first | exact List.Mem.head _ | refine List.Mem.tail _ ?_)) <;> exact List.Mem.head _)) ?_)) <;> exact subn_nil)) : St w0 D0 w' M (d1 :: d2 :: d3 :: d4 :: D) := h.call ho hD
theorem St.outA (h : St w0 D0 w M D) (hd : ∀ d ∈ ds, d ∈ D := by ((repeat (first | exact subn_nil | refine subn_cons (by ((repeat (first | exact List.Mem.head _ | refine List.Mem.tail _ ?_)) <;> exact List.Mem.head _)) ?_)) <;> exact subn_nil)) : Out w0 D0 w ds := h.out hd
theorem St.lessA (h : St w0 D0 w M D) (D' : List Da) (hD : ∀ d ∈ D', d ∈ D := by ((repeat (first | exact subn_nil | refine subn_cons (by ((repeat (first | exact List.Mem.head _ | refine List.Mem.tail _ ?_)) <;> exact List.Mem.head _)) ?_)) <;> exact subn_nil)) : St w0 D0 w M D' := h.lessD hD
theorem St.rdA (h : St w0 D0 w M D) {sz n c : Nat} {A : Option Addr} {xs : List Value} (hd : rowD sz A n c xs ∈ D := by ((repeat (first | exact List.Mem.head _ | refine List.Mem.tail _ ?_)) <;> exact List.Mem.head _)) : Rd w w.heap.size sz A n c xs := h.rd hd
theorem Hold.nextA {B : Nat} {Mr : List Mu} {Dr : List Da} {w1 : World} (_h : Hold B Mr Dr w1) (hF : St w0 D0 w' M D) (hM : ∀ m ∈ Mr, m ∈ M := by first | exact fun _ h => h | ((repeat (first | exact subn_nil | refine subn_cons (by ((repeat (first | exact List.Mem.head _ | refine List.Mem.tail _ ?_)) <;> exact List.Mem.head _)) ?_)) <;> exact subn_nil)) (hD : ∀ d ∈ Dr, d ∈ D := by first | exact fun _ h => h | ((repeat (first | exact subn_nil | refine subn_cons (by ((repeat (first | exact List.Mem.head _ | refine List.Mem.tail _ ?_)) <;> exact List.Mem.head _)) ?_)) <;> exact subn_nil)) (hB : B = w0.heap.size := by exact rfl) : Hold B Mr Dr w' := _h.next hF hM hD hB
end
end Go.Proofs.Ytcahadkkjfijfaa

/- More laws over St: sums of strings. -/
set_option linter.unusedVariables false
set_option linter.unusedSimpArgs false
namespace Go.Proofs.Ytcahadkkjfijfaa
open Go.RowKit

/-- a cell of a record, set -/
theorem Rows.set1 {α : Type} {f : List α → List Value} {cells : α → List Value} {sz : Nat} [H : Rows f cells sz] {q : List α} {k : Nat} {v r : α} (h : q[k]? = some v) {i : Nat} {u : Value} (hi : i < sz) (hc : cells r = (cells v).set i u) : (f q).set (k * sz + i) u = f (q.set k r) := by
  obtain ⟨hl, e⟩ := List.getElem?_eq_some_iff.1 h
  have hlen : (f (q.take k)).length = k * sz := by rw [H.length, List.length_take, Nat.min_eq_left (by omega)]
  have e1 : f q = f (q.take k) ++ (cells v ++ f (q.drop (k + 1))) := by
    conv => lhs; rw [← List.take_append_drop k q, List.drop_eq_getElem_cons hl, e]
    rw [H.append, show v :: q.drop (k + 1) = [v] ++ q.drop (k + 1) from rfl, H.append, H.single]
  have e2 : f (q.set k r) = f (q.take k) ++ (cells r ++ f (q.drop (k + 1))) := by
    rw [List.set_eq_take_append_cons_drop, if_pos hl, H.append, show r :: q.drop (k + 1) = [r] ++ q.drop (k + 1) from rfl, H.append, H.single]
  rw [e1, e2, List.set_append_right _ _ (by omega), hlen, Nat.add_sub_cancel_left, List.set_append_left _ _ (by rw [H.len]; exact hi), hc]
section
variable {P : Program} {ops : Array Oper} {rest : List Oper} {o : Oper} {a : Act} {Q : Exit → Act → World → Prop} {S : World → Prop}
theorem run_stradd {w : World} {x y : Operand} {t t' : TypeId} {p q : ByteArray} (ho : o.op = .binOp .add t x y t') (hx : look a x = some (.string p)) (hy : look a y = some (.string q)) (hs : p.size + q.size ≤ 9223372036854775807) : (execOp a.eval o).run P w = .ok (.value (.string (p ++ q))) w := by
  replace hx := look_eval hx
  replace hy := look_eval hy
  unfold execOp
  simp [ho, hx, hy, eqGuard, binOp_string_add, run_string_add_sum w p q hs]
theorem y_stradd {x y : Operand} {t t' : TypeId} {p q : ByteArray} (ho : o.op = .binOp .add t x y t') (hx : look a x = some (.string p)) (hy : look a y = some (.string q)) (hs : p.size + q.size ≤ 9223372036854775807 := by first | omega | (simp only [ByteArray.size_append, cut_size]; omega)) (hw : Region.wanted o (yielded ops a.tmps) = true := by rfl) :
    YieldsIf P ops S o (.string (p ++ q)) a := yi_pure hw fun w => run_stradd ho hx hy hs
theorem w_stradd {w : World} {x y : Operand} {t t' : TypeId} {p q : ByteArray} (ho : o.op = .binOp .add t x y t') (hx : look a x = some (.string p)) (hy : look a y = some (.string q)) (h : wpList P ops Q rest (a.put o.dst (.string (p ++ q))) w) (hs : p.size + q.size ≤ 9223372036854775807 := by first | omega | (simp only [ByteArray.size_append, cut_size]; omega)) (hw : Region.wanted o (yielded ops a.tmps) = true := by rfl) :
    wpList P ops Q (o :: rest) a w := by
  refine wpList_wanted hw fun K hK => ?_
  unfold Oper.wp
  rw [run_stradd ho hx hy hs]
  exact hK _ _ h
/-- a sum of two ints that the context tells -/
theorem y_addi {x y : Operand} {t t' : TypeId} {p q r : Int} (ho : o.op = .binOp .add t x y t') (hx : look a x = some (.int .i64 p)) (hy : look a y = some (.int .i64 q)) (hr : p + q = r := by assumption) (h1 : -9223372036854775808 ≤ r := by omega) (h2 : r ≤ 9223372036854775807 := by omega) (hw : Region.wanted o (yielded ops a.tmps) = true := by rfl) :
    YieldsIf P ops S o (.int .i64 r) a := yi_pure hw fun w => by
  replace hx := look_eval hx
  replace hy := look_eval hy
  subst hr
  unfold execOp
  have hwrap : IntKind.i64.wrap (p + q) = p + q := by simp only [IntKind.wrap, IntKind.bits, IntKind.signed]; simp; omega
  simp only [ho, hx, hy]
  go_simp
end
end Go.Proofs.Ytcahadkkjfijfaa

/- More laws over St: comparisons of ints that the context decides. -/
set_option linter.unusedVariables false
set_option linter.unusedSimpArgs false
namespace Go.Proofs.Ytcahadkkjfijfaa
open Go.RowKit

section
variable {P : Program} {ops : Array Oper} {rest : List Oper} {o : Oper} {a : Act} {Q : Exit → Act → World → Prop} {S : World → Prop}
theorem run_neqT {w : World} {x y : Operand} {t t' : TypeId} {k : IntKind} {p q : Int} (ho : o.op = .binOp .neq t x y t') (hx : look a x = some (.int k p)) (hy : look a y = some (.int k q)) (hne : ¬ (p = q)) : (execOp a.eval o).run P w = .ok (.value (.bool true)) w := by
  replace hx := look_eval hx
  replace hy := look_eval hy
  unfold execOp
  simp only [ho, hx, hy]
  go_simp
theorem run_eqF {w : World} {x y : Operand} {t t' : TypeId} {k : IntKind} {p q : Int} (ho : o.op = .binOp .eql t x y t') (hx : look a x = some (.int k p)) (hy : look a y = some (.int k q)) (hne : ¬ (p = q)) : (execOp a.eval o).run P w = .ok (.value (.bool false)) w := by
  replace hx := look_eval hx
  replace hy := look_eval hy
  unfold execOp
  simp only [ho, hx, hy]
  go_simp
theorem y_eqF {x y : Operand} {t t' : TypeId} {k : IntKind} {p q : Int} (ho : o.op = .binOp .eql t x y t') (hx : look a x = some (.int k p)) (hy : look a y = some (.int k q)) (hne : ¬ (p = q) := by assumption) (hw : Region.wanted o (yielded ops a.tmps) = true := by rfl) : YieldsIf P ops S o (.bool false) a := yi_pure hw fun w => run_eqF ho hx hy hne
theorem y_neqT {x y : Operand} {t t' : TypeId} {k : IntKind} {p q : Int} (ho : o.op = .binOp .neq t x y t') (hx : look a x = some (.int k p)) (hy : look a y = some (.int k q)) (hne : ¬ (p = q) := by assumption) (hw : Region.wanted o (yielded ops a.tmps) = true := by rfl) : YieldsIf P ops S o (.bool true) a := yi_pure hw fun w => run_neqT ho hx hy hne
theorem w_neqT {w : World} {x y : Operand} {t t' : TypeId} {k : IntKind} {p q : Int} (ho : o.op = .binOp .neq t x y t') (hx : look a x = some (.int k p)) (hy : look a y = some (.int k q)) (h : wpList P ops Q rest (a.put o.dst (.bool true)) w) (hne : ¬ (p = q) := by assumption) (hw : Region.wanted o (yielded ops a.tmps) = true := by rfl) : wpList P ops Q (o :: rest) a w := by
  refine wpList_wanted hw fun K hK => ?_
  unfold Oper.wp
  rw [run_neqT ho hx hy hne]
  exact hK _ _ h
theorem w_eqF {w : World} {x y : Operand} {t t' : TypeId} {k : IntKind} {p q : Int} (ho : o.op = .binOp .eql t x y t') (hx : look a x = some (.int k p)) (hy : look a y = some (.int k q)) (h : wpList P ops Q rest (a.put o.dst (.bool false)) w) (hne : ¬ (p = q) := by assumption) (hw : Region.wanted o (yielded ops a.tmps) = true := by rfl) : wpList P ops Q (o :: rest) a w := by
  refine wpList_wanted hw fun K hK => ?_
  unfold Oper.wp
  rw [run_eqF ho hx hy hne]
  exact hK _ _ h
/-- a field of one cell, out of a value -/
inductive FldOne (P : Program) (s f off : Nat) : Prop
  | mk (fs : Array Field) (fl : Field) (hu : P.underlying s = some (.struct fs)) (hf : fs[f]? = some fl) (ho : fl.offset = off) (h1 : OneT P fl.type)
theorem y_field {s f off : Nat} {x : Operand} {cs : List Value} {v : Value} (ho : o.op = .field s x f) (hx : look a x = some (.agg cs.toArray)) (hT : FldOne P s f off) (hv : cs[off]? = some v := by exact rfl) (hw : Region.wanted o (yielded ops a.tmps) = true := by rfl) : YieldsIf P ops S o v a := yi_pure hw fun w => by
  replace hx := look_eval hx
  obtain ⟨fs, fl, hu, hf, rfl, ⟨d, hd, hd1, _⟩⟩ := hT
  have hagg : (isAgg fl.type).run P w = .ok false w := by
    unfold isAgg
    rw [Sem.run_bind, run_underlying hd w]
    cases d <;> simp_all
  have hp : (part fl.type cs.toArray fl.offset).run P w = .ok v w := by
    unfold part
    rw [Sem.run_bind, hagg]
    simp [Result.andThen_ok, hv]
  have hrun : (Instr.field s (.agg cs.toArray) f).run P w = .ok v w := by
    unfold Instr.field
    rw [Sem.run_bind, run_underlying hu w]
    simp [Result.andThen_ok, hf, asAgg, hp]
  unfold execOp
  simp only [ho, hx, hrun, Sem.run_bind, Sem.run_pure, Result.andThen_ok]
end
end Go.Proofs.Ytcahadkkjfijfaa

/- Records of type api.Way: as Lean records; rows of them as lists; what reads as such a row. -/
set_option linter.unusedVariables false
set_option linter.unusedSimpArgs false
namespace Go.Proofs.Ytcahadkkjfijfaa
open Go.RowKit

/-- api.Way -/
structure Wy where
  line : Nat
  dirty : Bool
  data : ByteArray
def Wy.cells (r : Wy) : List Value := [.int .u32 (r.line : Int), .bool r.dirty, .string r.data]
def Wy.val (r : Wy) : Value := .agg #[.int .u32 (r.line : Int), .bool r.dirty, .string r.data]
def wys (q : List Wy) : List Value := q.flatMap Wy.cells
theorem wys_len (q : List Wy) : (wys q).length = q.length * 3 := by
  induction q with
  | nil => rfl
  | cons r q ih =>
    have : wys (r :: q) = r.cells ++ wys q := rfl
    rw [this, List.length_append, ih, List.length_cons]
    simp [Wy.cells]; omega
theorem wys_at {q : List Wy} {k : Nat} (h : k < q.length) (j : Nat) (hj : j < 3) : (wys q)[k * 3 + j]? = (q[k]'h).cells[j]? := by
  induction q generalizing k with
  | nil => simp at h
  | cons r q ih =>
    have e : wys (r :: q) = r.cells ++ wys q := rfl
    have hl : r.cells.length = 3 := rfl
    cases k with
    | zero => rw [e, List.getElem?_append_left (by rw [hl]; omega)]; simp
    | succ k =>
      rw [e, List.getElem?_append_right (by rw [hl]; omega), hl, show (k + 1) * 3 + j - 3 = k * 3 + j by omega, ih (by simpa using h)]
      simp
theorem wys_one (q : List Wy) : ∀ u ∈ wys q, u.oneCell' = true := by
  intro u hu
  simp only [wys, List.mem_flatMap, Wy.cells, List.mem_cons, List.not_mem_nil, or_false] at hu
  obtain ⟨r, _, h⟩ := hu
  rcases h with h | h | h <;> subst h <;> rfl
theorem wys_append (p q : List Wy) : wys (p ++ q) = wys p ++ wys q := by simp [wys]
theorem wys_take (q : List Wy) (k : Nat) : (wys q).take (k * 3) = wys (q.take k) := by
  induction q generalizing k with
  | nil => simp [wys]
  | cons r q ih =>
    have e : wys (r :: q) = r.cells ++ wys q := rfl
    have hl : r.cells.length = 3 := rfl
    cases k with
    | zero => simp [wys]
    | succ k =>
      rw [e, List.take_append, hl, show (k + 1) * 3 - 3 = k * 3 by omega, ih, List.take_succ_cons, List.take_of_length_le (by rw [hl]; omega)]
      rfl
theorem wys_drop (q : List Wy) (k : Nat) : (wys q).drop (k * 3) = wys (q.drop k) := by
  induction q generalizing k with
  | nil => simp [wys]
  | cons r q ih =>
    have e : wys (r :: q) = r.cells ++ wys q := rfl
    have hl : r.cells.length = 3 := rfl
    cases k with
    | zero => simp [wys]
    | succ k =>
      rw [e, List.drop_append, hl, show (k + 1) * 3 - 3 = k * 3 by omega, ih, List.drop_succ_cons, List.drop_of_length_le (by rw [hl]; omega)]
      rfl
theorem Rd.wyslen {w : World} {B n c : Nat} {A : Option Addr} {q : List Wy} (h : Rd w B 3 A n c (wys q)) : q.length = n := by
  have hn := h.len
  rw [wys_len] at hn
  omega

/-- what an element's cells hold -/
theorem Rd.wysat {w : World} {B n c : Nat} {A : Option Addr} {q : List Wy} (h : Rd w B 3 A n c (wys q)) {k : Nat} (hk : k < n) :
    ∃ (hl : k < q.length) (g o : Nat), A = some ⟨g, o, none⟩ ∧ g < B ∧ w.cell? ⟨g, o + k * 3, none⟩ = some (.int .u32 (q[k].line : Int)) ∧ w.cell? ⟨g, o + k * 3 + 1, none⟩ = some (.bool q[k].dirty) ∧ w.cell? ⟨g, o + k * 3 + 2, none⟩ = some (.string q[k].data) := by
  have hl : k < q.length := by rw [h.wyslen]; exact hk
  obtain ⟨g, o, e, hb, hc⟩ := h.at_ (by omega)
  refine ⟨hl, g, o, e, hb, ?_, ?_, ?_⟩
  · simpa using hc (k * 3 + 0) _ (wys_at hl 0 (by omega))
  · simpa [Nat.add_assoc] using hc (k * 3 + 1) _ (wys_at hl 1 (by omega))
  · simpa [Nat.add_assoc] using hc (k * 3 + 2) _ (wys_at hl 2 (by omega))
/-- the zero value's cells -/
def wysZ : List Value := [.int .u32 0, .bool false, .string ⟨#[]⟩]
theorem wysTy : RowTy Try.prog 49 3 := ⟨_, Try.underlying49, rfl, by kernel_rfl⟩
theorem Wy.one (r : Wy) : ∀ u ∈ r.cells, u.oneCell' = true := fun u hu => wys_one [r] u (by simpa [wys] using hu)
/-- an element, whole -/
theorem Rd.wyselem {w : World} {B n c : Nat} {A : Option Addr} {q : List Wy} (h : Rd w B 3 A n c (wys q)) {k : Nat} (hk : k < n) :
    ∃ (hl : k < q.length) (g o : Nat), A = some ⟨g, o, none⟩ ∧ g < B ∧ ∀ j u, (q[k]'hl).cells[j]? = some u → w.cell? ⟨g, o + k * 3 + j, none⟩ = some u := by
  have hl : k < q.length := by rw [h.wyslen]; exact hk
  obtain ⟨g, o, e, hb, hc⟩ := h.at_ (by omega)
  refine ⟨hl, g, o, e, hb, fun j u hu => ?_⟩
  have hj : j < 3 := (List.getElem?_eq_some_iff.1 hu).1
  rw [Nat.add_assoc]
  exact hc _ _ ((wys_at hl j hj).trans hu)

theorem wys_spl (q : List Wy) (k : Nat) (r : Wy) (hk : k < q.length) : spl (wys q) (k * 3) r.cells = wys (q.set k r) := by
  have hl : r.cells.length = 3 := rfl
  rw [spl_eq _ _ _ (by rw [wys_len, hl]; omega), hl, show k * 3 + 3 = (k + 1) * 3 by omega, wys_take, wys_drop, List.set_eq_take_append_cons_drop, if_pos hk, wys_append]
  simp [wys]

end Go.Proofs.Ytcahadkkjfijfaa

/- Sets of a cache, as lists of lists; what reads as them. -/
set_option linter.unusedVariables false
set_option linter.unusedSimpArgs false
namespace Go.Proofs.Ytcahadkkjfijfaa
open Go.RowKit

/-- a set: its slice, and the ways that it reads as -/
structure Cs where
  A : Option Addr
  n : Nat
  c : Nat
  ws : List Wy
def Cs.val (s : Cs) : Value := .slice s.A s.n s.c
def csv (S : List Cs) : List Value := S.map Cs.val
theorem csv_len (S : List Cs) : (csv S).length = S.length := by simp [csv]
theorem csv_one (S : List Cs) : ∀ u ∈ csv S, u.oneCell' = true := by
  intro u hu
  simp only [csv, List.mem_map] at hu
  obtain ⟨s, _, rfl⟩ := hu
  rfl
theorem csv_at {S : List Cs} {k : Nat} (h : k < S.length) : (csv S)[k]? = some (S[k]'h).val := by simp [csv, h]
theorem csv_append (S T : List Cs) : csv (S ++ T) = csv S ++ csv T := by simp [csv]
theorem csv_take (S : List Cs) (k : Nat) : (csv S).take k = csv (S.take k) := by simp [csv]
theorem csv_set (S : List Cs) (k : Nat) (s : Cs) : (csv S).set k s.val = csv (S.set k s) := by simp [csv]
/-- the ways alone -/
def cont (S : List Cs) : List (List Wy) := S.map Cs.ws
theorem cont_len (S : List Cs) : (cont S).length = S.length := by simp [cont]
theorem cont_at {S : List Cs} {k : Nat} (h : k < S.length) : (cont S)[k]? = some (S[k]'h).ws := by simp [cont, h]
theorem cont_set (S : List Cs) (k : Nat) (s : Cs) : cont (S.set k s) = (cont S).set k s.ws := by simp [cont]

/-- a slice of sets -/
structure RdS (w : World) (B : Nat) (A : Option Addr) (n c : Nat) (S : List Cs) : Prop where
  rd : Rd w B 1 A n c (csv S)
  sets : ∀ s ∈ S, Rd w B 3 s.A s.n s.c (wys s.ws)

section
variable {w w' : World} {B B' n c : Nat} {A : Option Addr} {S : List Cs}
theorem RdS.slen (h : RdS w B A n c S) : S.length = n := by have := h.rd.len; rw [csv_len] at this; omega
theorem RdS.keep (h : RdS w B A n c S) (hk : ∀ p : Addr, p.block < B → w'.cell? p = w.cell? p) : RdS w' B A n c S := ⟨h.rd.keep hk, fun s hs => (h.sets s hs).keep hk⟩
theorem RdS.more (h : RdS w B A n c S) (hB : B ≤ B') : RdS w B' A n c S := ⟨h.rd.more hB, fun s hs => (h.sets s hs).more hB⟩
theorem RdS.bel (h : RdS w w.heap.size A n c S) (hb : Bel w w') : RdS w' w'.heap.size A n c S := ⟨h.rd.bel hb, fun s hs => (h.sets s hs).bel hb⟩
theorem RdS.below (h : RdS w B A n c S) (hb : Below B w w') : RdS w' B A n c S := ⟨h.rd.below hb, fun s hs => (h.sets s hs).below hb⟩
/-- the set of number k -/
theorem RdS.at_ (h : RdS w B A n c S) {k : Nat} (hk : k < n) : ∃ (hl : k < S.length) (g o : Nat), A = some ⟨g, o, none⟩ ∧ g < B ∧ w.cell? ⟨g, o + k, none⟩ = some (.slice (S[k]'hl).A (S[k]'hl).n (S[k]'hl).c) ∧ Rd w B 3 (S[k]'hl).A (S[k]'hl).n (S[k]'hl).c (wys (S[k]'hl).ws) := by
  have hl : k < S.length := by have := h.slen; omega
  obtain ⟨g, o, u, e, hb, hu, hc⟩ := h.rd.cell1 hk
  rw [csv_at hl] at hu
  obtain rfl : _ = u := by injection hu
  exact ⟨hl, g, o, e, hb, hc, h.sets _ (List.getElem_mem hl)⟩
theorem RdS.nil (hc : c ≤ maxLen) : RdS w B A 0 c [] := ⟨Rd.nil hc, by simp⟩
end

end Go.Proofs.Ytcahadkkjfijfaa

/- Caches in plain Lean: which may be, where a line stands, what touching and putting make of the sets. -/
set_option linter.unusedVariables false
set_option linter.unusedSimpArgs false
namespace Go.Proofs.Ytcahadkkjfijfaa

/-- the way at place i of set k, of n sets, may stand there -/
def WayOk (n k : Nat) (set : List Wy) (i : Nat) (v : Wy) : Prop :=
  v.line % 16 = 0 ∧ v.line / 16 % n = k ∧ (v.data.size = 0 ∨ v.data.size = 16) ∧ ∀ j < i, ∀ u, set[j]? = some u → u.line ≠ v.line
def SetOk (n : Nat) (ways : Int) (k : Nat) (set : List Wy) : Prop := (set.length : Int) ≤ ways ∧ ∀ i v, set[i]? = some v → WayOk n k set i v
/-- a cache that may be -/
structure RightP (ways : Int) (C : List (List Wy)) : Prop where
  hn : C.length = 1 ∨ C.length = 2 ∨ C.length = 4
  hw : ways = 1 ∨ ways = 2
  hs : ∀ k s, C[k]? = some s → SetOk C.length ways k s

/-- a line stands at place i of a set -/
structure At (set : List Wy) (line : Nat) (i : Nat) (v : Wy) : Prop where
  is : set[i]? = some v
  line : v.line = line
def NotIn (set : List Wy) (line : Nat) : Prop := ∀ v ∈ set, v.line ≠ line
/-- no two have the same line -/
def Lone (set : List Wy) : Prop := ∀ (i j : Nat) (u v : Wy), set[i]? = some u → set[j]? = some v → u.line = v.line → i = j

theorem SetOk.lone {n : Nat} {ways : Int} {k : Nat} {set : List Wy} (h : SetOk n ways k set) : Lone set := by
  intro i j u v hi hj e
  rcases Nat.lt_trichotomy i j with hl | hl | hl
  · exact absurd e ((h.2 j v hj).2.2.2 i hl u hi)
  · exact hl
  · exact absurd e.symm ((h.2 i u hi).2.2.2 j hl v hj)
theorem at_or_not (set : List Wy) (line : Nat) : NotIn set line ∨ ∃ i v, At set line i v := by
  by_cases h : ∃ v ∈ set, v.line = line
  · obtain ⟨v, hv, hl⟩ := h
    obtain ⟨i, hi, e⟩ := List.mem_iff_getElem.1 hv
    exact .inr ⟨i, v, ⟨by rw [List.getElem?_eq_getElem hi, e], hl⟩⟩
  · exact .inl fun v hv e => h ⟨v, hv, e⟩

/-- a set with the one at a place ahead of all others -/
def frontL (set : List Wy) (i : Nat) (v : Wy) : List Wy := v :: (set.take i ++ set.drop (i + 1))
/-- a set with a way ahead of all others of other lines -/
def firstL (set : List Wy) (v : Wy) : List Wy := v :: set.filter fun x => decide (x.line ≠ v.line)
theorem filter_lone {set : List Wy} (h : Lone set) {line i : Nat} {u : Wy} (ha : At set line i u) : set.filter (fun x => decide (x.line ≠ line)) = set.take i ++ set.drop (i + 1) := by
  have hi := (List.getElem?_eq_some_iff.1 ha.is).1
  have hu := (List.getElem?_eq_some_iff.1 ha.is).2
  conv => lhs; rw [← List.take_append_drop i set, List.drop_eq_getElem_cons hi, List.filter_append, List.filter_cons]
  rw [if_neg (by rw [hu, ha.line]; simp), List.filter_eq_self.2, List.filter_eq_self.2]
  · intro x hx
    obtain ⟨j, hj, e⟩ := List.mem_iff_getElem.1 hx
    rw [List.getElem_drop] at e
    rw [List.length_drop] at hj
    have := h i (i + 1 + j) u x ha.is (by rw [← e]; exact List.getElem?_eq_getElem (by omega))
    simp only [decide_eq_true_eq]
    intro hl
    have := this (ha.line.trans hl.symm)
    omega
  · intro x hx
    obtain ⟨j, hj, e⟩ := List.mem_iff_getElem.1 hx
    rw [List.getElem_take] at e
    rw [List.length_take] at hj
    have := h i j u x ha.is (by rw [← e]; exact List.getElem?_eq_getElem (by omega))
    simp only [decide_eq_true_eq]
    intro hl
    have := this (ha.line.trans hl.symm)
    omega
theorem firstL_lone {set : List Wy} (h : Lone set) {line i : Nat} {u v : Wy} (ha : At set line i u) (hv : v.line = line) : firstL set v = frontL set i v := by
  rw [firstL, frontL, hv, filter_lone h ha]
theorem firstL_new {set : List Wy} {v : Wy} (h : NotIn set v.line) : firstL set v = v :: set := by
  rw [firstL, List.filter_eq_self.2]
  intro x hx
  simpa using h x hx

theorem first_at (set : List Wy) (line : Nat) : NotIn set line ∨ ∃ i v, At set line i v ∧ ∀ j < i, ∀ u, set[j]? = some u → u.line ≠ line := by
  induction set with
  | nil => exact .inl (by intro v hv; cases hv)
  | cons x r ih =>
    by_cases hx : x.line = line
    · exact .inr ⟨0, x, ⟨rfl, hx⟩, fun j hj => absurd hj (by omega)⟩
    · rcases ih with h | ⟨i, v, ha, hf⟩
      · refine .inl fun v hv => ?_
        rcases List.mem_cons.1 hv with rfl | hv
        · exact hx
        · exact h v hv
      · refine .inr ⟨i + 1, v, ⟨by simpa using ha.is, ha.line⟩, fun j hj u hu => ?_⟩
        cases j with
        | zero => simp at hu; rw [← hu]; exact hx
        | succ j => exact hf j (by omega) u (by simpa using hu)

end Go.Proofs.Ytcahadkkjfijfaa

/- The cache package: lines, sets, places. -/
set_option linter.unusedVariables false
set_option linter.unusedSimpArgs false
set_option maxRecDepth 100000
namespace Go.Proofs.Ytcahadkkjfijfaa
open Go.RowKit Go.Sort

theorem LineOf_any (x : Nat) (w : World) (hx : x < 4294967296) :
    Calls Try.prog 67 #[.int .u32 (x : Int)] w fun e w' => e = .returned (.int .u32 ((x - x % 16 : Nat) : Int)) ∧ ∃ d, w' = w.drewN d := by
  have h1 : (0 : Int) ≤ (x : Int) - (x : Int) % 16 := by omega
  go_enter Try.func67, Try.ntmps67
  go_wp2
  go_ret
  exact ⟨val_u32 (by omega), 0, rfl⟩
theorem refLineOf_any (x : Nat) (w : World) (hx : x < 4294967296) :
    Calls Try.prog 68 #[.int .u32 (x : Int)] w fun e w' => e = .returned (.int .u32 ((x - x % 16 : Nat) : Int)) ∧ ∃ d, w' = w.drewN d := by
  have h1 : (0 : Int) ≤ (x : Int) - (x : Int) % 16 := by omega
  go_enter Try.func68, Try.ntmps68
  go_wp2
  go_ret
  exact ⟨val_u32 (by omega), 0, rfl⟩

def cv (ways : Int) (A : Option Addr) (n c : Nat) : Value := .agg #[.int .i64 ways, .slice A n c]
theorem cTy : RowTy Try.prog 36 2 := ⟨_, Try.underlying36, rfl, by kernel_rfl⟩
theorem setOf_any (ways : Int) (A : Option Addr) (n c x : Nat) (w : World) (hn : n = 1 ∨ n = 2 ∨ n = 4) (hx : x < 4294967296) :
    Calls Try.prog 71 #[.agg #[.int .i64 ways, .slice A n c], .int .u32 (x : Int)] w fun e w' => e = .returned (.int .i64 ((x / 16 % n : Nat) : Int)) ∧ Bel w w' := by
  rcases hn with rfl | rfl | rfl
  all_goals
    go_enter Try.func71, Try.ntmps71
    go_wp2
    go_ret
    exact ⟨val_i64 (by omega), Bel.alloc _ _⟩
theorem refSetOf_any (ways : Int) (A : Option Addr) (n c x : Nat) (w : World) (hn : n = 1 ∨ n = 2 ∨ n = 4) (hx : x < 4294967296) :
    Calls Try.prog 61 #[.agg #[.int .i64 ways, .slice A n c], .int .u32 (x : Int)] w fun e w' => e = .returned (.int .i64 ((x / 16 % n : Nat) : Int)) ∧ Bel w w' := by
  rcases hn with rfl | rfl | rfl
  all_goals
    go_enter Try.func61, Try.ntmps61
    go_wp2
    go_ret
    exact ⟨val_i64 (by omega), Bel.alloc _ _⟩

set_option maxHeartbeats 1000000 in
/-- where a line stands among ways -/
theorem place_any (A : Option Addr) (n c : Nat) (q : List Wy) (x : Nat) (w : World) (hr : Rd w w.heap.size 3 A n c (wys q)) (at' : Nat) (b : Bool) (hb : (b = true ∧ ∃ v, At q x at' v ∧ ∀ j < at', ∀ u, q[j]? = some u → u.line ≠ x) ∨ (b = false ∧ at' = 0 ∧ NotIn q x)) :
    Calls Try.prog 72 #[.slice A n c, .int .u32 (x : Int)] w fun e w' => e = .returned (.tuple #[.int .i64 (at' : Int), .bool b]) ∧ Bel w w' := by
  have hc1 := hr.le
  have hc2 := hr.mx
  unfold maxLen at hc2
  have Hn := Lib.hid hr.wyslen
  have Hb := Lib.hid hb
  clear hb
  go_enter Try.func72, Try.ntmps72
  go_wp2
  go_loopw [10] (fun i wr => ∃ k : Nat, k ≤ n ∧ i = .int .i64 (k : Int) ∧ (∀ j < k, ∀ u, q[j]? = some u → u.line ≠ x) ∧ Bel w wr) (fun i _ => n - (intOf i).toNat)
  case atStart => exact ⟨0, by omega, rfl, fun j h => absurd h (by omega), Bel.refl w⟩
  case round =>
    obtain ⟨k, hk, rfl, hall, hbel⟩ := hrel
    have Hall := Lib.hid hall
    clear hall
    by_cases hkn : k < n
    · obtain ⟨hl, g, o, rfl, hg, hce⟩ := (hr.bel hbel).wyselem hkn
      replace hce := Lib.hid hce
      have hat : q[k]? = some (q[k]'hl) := List.getElem?_eq_getElem hl
      obtain ⟨v, hv⟩ : ∃ v, q[k]'hl = v := ⟨_, rfl⟩
      rw [hv] at hce hat
      clear hv
      replace hat := Lib.hid hat
      by_cases hx : v.line = x
      · have hxb : ((v.line : Int) == (x : Int)) = true := by simp [hx]
        have Hres : Hid (b = true ∧ at' = k) := by
          rcases Hb.out with ⟨hb1, u, ha, hf⟩ | ⟨hb1, _, hni⟩
          · refine ⟨hb1, ?_⟩
            rcases Nat.lt_trichotomy at' k with h | h | h
            · exact absurd ha.line (Hall.out at' h u ha.is)
            · exact h
            · exact absurd hx (hf k h v hat.out)
          · exact absurd hx (hni v (List.mem_iff_getElem?.2 ⟨k, hat.out⟩))
        clear hx
        go_wp2_with (first | (refine wpList_load_elem (by rfl) 49 (.tmp 13) (by rfl) g (o + k * 3) (by rfl) v.cells v.val rfl hce.out wysTy ?_) | (refine wpList_store_bk (by rfl) 49 (.tmp 7) (.tmp 14) (by rfl) wr.heap.size v.cells (by rfl) (by rfl) 49 wysZ ?_ rfl wysTy v.one ?_; exact Bk.new wr _ wysZ; intro w1 hk1 hs1 ho1 hbe1; have c0 : w1.cell? ⟨wr.heap.size, 0, none⟩ = some (.int .u32 (v.line : Int)) := hk1.cell 0; clear hs1 ho1))
        go_ret2
        obtain ⟨rfl, rfl⟩ := Hres.out
        exact ⟨rfl, hbel.trans (hbe1 _ (Bel.alloc _ _) (Nat.le_refl _))⟩
      · have hxb : ((v.line : Int) == (x : Int)) = false := by rw [beq_eq_false_iff_ne]; omega
        replace hx := Lib.hid hx
        go_wp2_with (first | (refine wpList_load_elem (by rfl) 49 (.tmp 13) (by rfl) g (o + k * 3) (by rfl) v.cells v.val rfl hce.out wysTy ?_) | (refine wpList_store_bk (by rfl) 49 (.tmp 7) (.tmp 14) (by rfl) wr.heap.size v.cells (by rfl) (by rfl) 49 wysZ ?_ rfl wysTy v.one ?_; exact Bk.new wr _ wysZ; intro w1 hk1 hs1 ho1 hbe1; have c0 : w1.cell? ⟨wr.heap.size, 0, none⟩ = some (.int .u32 (v.line : Int)) := hk1.cell 0; clear hs1 ho1))
        go_roundw
        case rel =>
          refine ⟨k + 1, by omega, by go_num, fun j hj u hu => ?_, hbel.trans (hbe1 _ (Bel.alloc _ _) (Nat.le_refl _))⟩
          rcases Nat.lt_or_ge j k with h | h
          · exact Hall.out j h u hu
          · obtain rfl : j = k := by omega
            have e := hat.out
            rw [hu] at e
            injection e with e
            rw [e]; exact hx.out
        case measure => first | (simp [intOf]; done) | (simp [intOf]; omega)
    · obtain rfl : k = n := by omega
      have Hres : Hid (b = false ∧ at' = 0) := by
        rcases Hb.out with ⟨hb1, u, ha, hf⟩ | ⟨hb1, h0, hni⟩
        · have hl := (List.getElem?_eq_some_iff.1 ha.is).1
          exact absurd ha.line (Hall.out at' (by have := Hn.out; omega) u ha.is)
        · exact ⟨hb1, h0⟩
      go_wp2
      go_ret2
      obtain ⟨rfl, rfl⟩ := Hres.out
      exact ⟨rfl, hbel⟩

end Go.Proofs.Ytcahadkkjfijfaa
