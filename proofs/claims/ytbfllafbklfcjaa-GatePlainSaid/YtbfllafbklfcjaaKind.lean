/- Kinds of instructions, by their numbers. -/
import Derived.Test.YtbfllafbklfcjaaInst
set_option linter.unusedVariables false
set_option linter.unusedSimpArgs false
set_option maxRecDepth 100000
namespace Go.Proofs.Ytbfllafbklfcjaa
open Go.RowKit

/-- an instruction's kind, by its number -/
def kindI (op : Int) : Int :=
  if 3 ≤ op ∧ op ≤ 10 then 5 else if 11 ≤ op ∧ op ≤ 15 then 3 else if 16 ≤ op ∧ op ≤ 18 then 4 else if 38 ≤ op ∧ op ≤ 41 then 1 else if 42 ≤ op ∧ op ≤ 45 then 2 else if op = 47 ∨ op = 48 then 6 else 0
theorem kind_parts (op : Int) : (op < 3 ∧ kindI op = 0 ∧ (op == 47) = false ∧ (op == 48) = false) ∨ (3 ≤ op ∧ op ≤ 10 ∧ kindI op = 5) ∨ (11 ≤ op ∧ op ≤ 15 ∧ kindI op = 3) ∨ (16 ≤ op ∧ op ≤ 18 ∧ kindI op = 4) ∨ (19 ≤ op ∧ op ≤ 37 ∧ kindI op = 0 ∧ (op == 47) = false ∧ (op == 48) = false) ∨
    (38 ≤ op ∧ op ≤ 41 ∧ kindI op = 1) ∨ (42 ≤ op ∧ op ≤ 45 ∧ kindI op = 2) ∨ (op = 46 ∧ kindI op = 0) ∨ (op = 47 ∧ kindI op = 6) ∨ (op = 48 ∧ kindI op = 6) ∨ (49 ≤ op ∧ kindI op = 0 ∧ (op == 47) = false ∧ (op == 48) = false) := by
  have key : ∀ a b : Int, a ≠ b → (a == b) = false := fun a b h => by simpa using h
  by_cases h1 : op < 3
  · exact .inl ⟨h1, by unfold kindI; repeat rw [if_neg (by omega)], key _ _ (by omega), key _ _ (by omega)⟩
  refine .inr ?_
  by_cases h2 : op ≤ 10
  · exact .inl ⟨by omega, h2, by unfold kindI; rw [if_pos (by omega)]⟩
  refine .inr ?_
  by_cases h3 : op ≤ 15
  · exact .inl ⟨by omega, h3, by unfold kindI; rw [if_neg (by omega), if_pos (by omega)]⟩
  refine .inr ?_
  by_cases h4 : op ≤ 18
  · exact .inl ⟨by omega, h4, by unfold kindI; rw [if_neg (by omega), if_neg (by omega), if_pos (by omega)]⟩
  refine .inr ?_
  by_cases h5 : op ≤ 37
  · exact .inl ⟨by omega, h5, by unfold kindI; repeat rw [if_neg (by omega)], key _ _ (by omega), key _ _ (by omega)⟩
  refine .inr ?_
  by_cases h6 : op ≤ 41
  · exact .inl ⟨by omega, h6, by unfold kindI; rw [if_neg (by omega), if_neg (by omega), if_neg (by omega), if_pos (by omega)]⟩
  refine .inr ?_
  by_cases h7 : op ≤ 45
  · exact .inl ⟨by omega, h7, by unfold kindI; rw [if_neg (by omega), if_neg (by omega), if_neg (by omega), if_neg (by omega), if_pos (by omega)]⟩
  refine .inr ?_
  by_cases h8 : op = 46
  · exact .inl ⟨h8, by unfold kindI; repeat rw [if_neg (by omega)]⟩
  refine .inr ?_
  by_cases h9 : op = 47
  · exact .inl ⟨h9, by subst h9; rfl⟩
  refine .inr ?_
  by_cases h10 : op = 48
  · exact .inl ⟨h10, by subst h10; rfl⟩
  exact .inr ⟨by omega, by unfold kindI; repeat rw [if_neg (by omega)], key _ _ (by omega), key _ _ (by omega)⟩

set_option maxHeartbeats 1000000 in
theorem Kind_any (i : Ins) (w : World) (hi : -9223372036854775808 ≤ i.op ∧ i.op ≤ 9223372036854775807) :
    Calls Try.prog 16 #[i.val] w fun e w' => e = .returned (.int .i64 (kindI i.op)) ∧ Bel w w' := by
  obtain ⟨op, rd, rs1, rs2, imm⟩ := i
  simp only at hi ⊢
  unfold Ins.val
  rcases kind_parts op with ⟨h1, hk, b1, b2⟩ | ⟨h1, h2, hk⟩ | ⟨h1, h2, hk⟩ | ⟨h1, h2, hk⟩ | ⟨h1, h2, hk, b1, b2⟩ | ⟨h1, h2, hk⟩ | ⟨h1, h2, hk⟩ | ⟨rfl, hk⟩ | ⟨rfl, hk⟩ | ⟨rfl, hk⟩ | ⟨h1, hk, b1, b2⟩
  all_goals
    rw [hk]
    clear hk
    go_enter Try.func16, Try.ntmps16
    go_wp2
    go_ret
    exact ⟨rfl, Bel.alloc _ _⟩

end Go.Proofs.Ytbfllafbklfcjaa
