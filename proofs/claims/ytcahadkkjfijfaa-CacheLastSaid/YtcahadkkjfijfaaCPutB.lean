/- What the walks of the cache's functions have in common. -/
import Derived.Test.YtcahadkkjfijfaaCFront
set_option linter.unusedVariables false
set_option linter.unusedSimpArgs false
set_option maxRecDepth 100000
namespace Go.Proofs.Ytcahadkkjfijfaa
open Go.RowKit Go.Sort

/-- what Find says, at any world where the cache stands -/
def FindC (f : FuncId) (ways : Int) (A : Option Addr) (n c x : Nat) (S : List Cs) (k at' : Nat) (b : Bool) : Prop :=
  ∀ W, RdS W W.heap.size A n c S → Calls Try.prog f #[.agg #[.int .i64 ways, .slice A n c], .int .u32 (x : Int)] W fun e w' => e = .returned (.tuple #[.int .i64 (k : Int), .int .i64 (at' : Int), .bool b]) ∧ Bel W w'
def RightC (f : FuncId) (ways : Int) (A : Option Addr) (n c : Nat) (S : List Cs) (b : Bool) : Prop :=
  ∀ W, RdS W W.heap.size A n c S → Calls Try.prog f #[.agg #[.int .i64 ways, .slice A n c]] W fun e w' => e = .returned (.bool b) ∧ Bel W w'
/-- the set of number k -/
theorem set_of {S : List Cs} {k : Nat} {ws : List Wy} (h : (cont S)[k]? = some ws) : ∃ sA m sc, S[k]? = some ⟨sA, m, sc, ws⟩ := by
  cases hs : S[k]? with
  | none => simp [cont, List.getElem?_map, hs] at h
  | some s =>
    obtain ⟨sA, m, sc, sws⟩ := s
    simp only [cont, List.getElem?_map, hs, Option.map_some, Option.some.injEq] at h
    exact ⟨sA, m, sc, by rw [h]⟩
theorem isEmpty_no {d : ByteArray} (h : d.size ≠ 0) : d.toList.isEmpty = false := by
  rw [ByteArray.toList_eq]
  obtain ⟨⟨l⟩⟩ := d
  cases l with
  | nil => exact absurd rfl h
  | cons a r => rfl
theorem isEmpty_yes {d : ByteArray} (h : d.size = 0) : d.toList.isEmpty = true := by
  rw [ByteArray.toList_eq]
  obtain ⟨⟨l⟩⟩ := d
  cases l with
  | nil => rfl
  | cons a r => exact absurd h (by simp [ByteArray.size])
def wayZ : Value := .agg #[.int .u32 0, .bool false, .string ⟨#[]⟩]
/-- the bytes that a line gets: all of them, or none -/
def trimD (data : ByteArray) : ByteArray := if data.size = 16 then data else ⟨#[]⟩
theorem frontL_last (q : List Wy) (v : Wy) : frontL (q ++ [v]) q.length v = v :: q := by
  simp [frontL]
def FirstC (ways : Int) (A : Option Addr) (n c : Nat) (S : List Cs) (v : Wy) (C : List (List Wy)) : Prop :=
  ∀ W, RdS W W.heap.size A n c S → Calls Try.prog 69 #[.agg #[.int .i64 ways, .slice A n c], v.val] W fun e w' => ∃ x, e = .returned x ∧ CRes W (cacheD A n c S) ways x w' C
def GetC (ways : Int) (A : Option Addr) (n c x : Nat) (S : List Cs) (v : Wy) : Prop :=
  ∀ W, RdS W W.heap.size A n c S → Calls Try.prog 47 #[.agg #[.int .i64 ways, .slice A n c], .int .u32 (x : Int)] W fun e w' => e = .returned v.val ∧ Bel W w'
end Go.Proofs.Ytcahadkkjfijfaa
