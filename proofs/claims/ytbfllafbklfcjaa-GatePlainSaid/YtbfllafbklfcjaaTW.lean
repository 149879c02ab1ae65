/- What an instruction writes and reads: the walks. -/
import Derived.Test.YtbfllafbklfcjaaTPlain
set_option linter.unusedVariables false
set_option linter.unusedSimpArgs false
set_option maxRecDepth 100000
namespace Go.Proofs.Ytbfllafbklfcjaa
open Go.RowKit

def formI (op : Int) : Int :=
  if op < 1 ∨ 48 < op then 0 else if op ≤ 2 then 6 else if op = 3 then 7 else if op = 4 then 2 else if op ≤ 10 then 5 else if op ≤ 15 then 2 else if op ≤ 18 then 4 else if op ≤ 24 then 2 else if op ≤ 27 then 3 else if op ≤ 45 then 1 else 8
theorem form_parts (op : Int) : (op < 1 ∧ formI op = 0 ∧ hasRd op = false) ∨ (1 ≤ op ∧ op ≤ 2 ∧ formI op = 6 ∧ hasRd op = true) ∨ (op = 3 ∧ formI op = 7 ∧ hasRd op = true) ∨ (op = 4 ∧ formI op = 2 ∧ hasRd op = true) ∨ (5 ≤ op ∧ op ≤ 10 ∧ formI op = 5 ∧ hasRd op = false) ∨
    (11 ≤ op ∧ op ≤ 15 ∧ formI op = 2 ∧ hasRd op = true) ∨ (16 ≤ op ∧ op ≤ 18 ∧ formI op = 4 ∧ hasRd op = false) ∨ (19 ≤ op ∧ op ≤ 24 ∧ formI op = 2 ∧ hasRd op = true) ∨ (25 ≤ op ∧ op ≤ 27 ∧ formI op = 3 ∧ hasRd op = true) ∨ (28 ≤ op ∧ op ≤ 45 ∧ formI op = 1 ∧ hasRd op = true) ∨
    (46 ≤ op ∧ op ≤ 48 ∧ formI op = 8 ∧ hasRd op = false) ∨ (49 ≤ op ∧ formI op = 0 ∧ hasRd op = false) := by
  have key : ∀ v b, ((formI op = v ∧ hasRd op = b) ↔ (formI op = v ∧ hasRd op = b)) := fun _ _ => Iff.rfl
  have hb : ∀ (h : (1 ≤ op ∧ op ≤ 4) ∨ (11 ≤ op ∧ op ≤ 15) ∨ (19 ≤ op ∧ op ≤ 45)), hasRd op = true := fun h => by
    unfold hasRd; rcases h with h | h | h <;> simp [h]
  have hn : ∀ (h : ¬ ((1 ≤ op ∧ op ≤ 4) ∨ (11 ≤ op ∧ op ≤ 15) ∨ (19 ≤ op ∧ op ≤ 45))), hasRd op = false := fun h => by
    unfold hasRd
    rw [decide_eq_false (fun k => h (.inl k)), decide_eq_false (fun k => h (.inr (.inl k))), decide_eq_false (fun k => h (.inr (.inr k)))]; rfl
  unfold formI
  by_cases h1 : op < 1
  · exact .inl ⟨h1, by rw [if_pos (by omega)], hn (by omega)⟩
  refine .inr ?_
  by_cases h2 : op ≤ 2
  · exact .inl ⟨by omega, h2, by rw [if_neg (by omega), if_pos h2], hb (by omega)⟩
  refine .inr ?_
  by_cases h3 : op = 3
  · subst h3; exact .inl ⟨rfl, rfl, rfl⟩
  refine .inr ?_
  by_cases h4 : op = 4
  · subst h4; exact .inl ⟨rfl, rfl, rfl⟩
  refine .inr ?_
  by_cases h5 : op ≤ 10
  · exact .inl ⟨by omega, h5, by rw [if_neg (by omega), if_neg (by omega), if_neg h3, if_neg h4, if_pos h5], hn (by omega)⟩
  refine .inr ?_
  by_cases h6 : op ≤ 15
  · exact .inl ⟨by omega, h6, by rw [if_neg (by omega), if_neg (by omega), if_neg h3, if_neg h4, if_neg h5, if_pos h6], hb (by omega)⟩
  refine .inr ?_
  by_cases h7 : op ≤ 18
  · exact .inl ⟨by omega, h7, by rw [if_neg (by omega), if_neg (by omega), if_neg h3, if_neg h4, if_neg h5, if_neg h6, if_pos h7], hn (by omega)⟩
  refine .inr ?_
  by_cases h8 : op ≤ 24
  · exact .inl ⟨by omega, h8, by rw [if_neg (by omega), if_neg (by omega), if_neg h3, if_neg h4, if_neg h5, if_neg h6, if_neg h7, if_pos h8], hb (by omega)⟩
  refine .inr ?_
  by_cases h9 : op ≤ 27
  · exact .inl ⟨by omega, h9, by rw [if_neg (by omega), if_neg (by omega), if_neg h3, if_neg h4, if_neg h5, if_neg h6, if_neg h7, if_neg h8, if_pos h9], hb (by omega)⟩
  refine .inr ?_
  by_cases h10 : op ≤ 45
  · exact .inl ⟨by omega, h10, by rw [if_neg (by omega), if_neg (by omega), if_neg h3, if_neg h4, if_neg h5, if_neg h6, if_neg h7, if_neg h8, if_neg h9, if_pos h10], hb (by omega)⟩
  refine .inr ?_
  by_cases h11 : op ≤ 48
  · exact .inl ⟨by omega, h11, by rw [if_neg (by omega), if_neg (by omega), if_neg h3, if_neg h4, if_neg h5, if_neg h6, if_neg h7, if_neg h8, if_neg h9, if_neg h10], hn (by omega)⟩
  exact .inr ⟨by omega, by rw [if_pos (by omega)], hn (by omega)⟩
set_option maxHeartbeats 1000000 in
theorem form_any (op : Int) (w : World) :
    Calls Try.prog 34 #[.int .i64 op] w fun e w' => e = .returned (.int .i64 (formI op)) ∧ w' = w := by
  rcases form_parts op with ⟨h1, hk, _⟩ | ⟨h1, h2, hk, _⟩ | ⟨rfl, hk, _⟩ | ⟨rfl, hk, _⟩ | ⟨h1, h2, hk, _⟩ | ⟨h1, h2, hk, _⟩ | ⟨h1, h2, hk, _⟩ | ⟨h1, h2, hk, _⟩ | ⟨h1, h2, hk, _⟩ | ⟨h1, h2, hk, _⟩ | ⟨h1, h2, hk, _⟩ | ⟨h1, hk, _⟩
  all_goals
    rw [hk]
    clear hk
    go_enter Try.func34, Try.ntmps34
    go_wp2
    go_ret
    exact ⟨rfl, rfl⟩
/-- which registers a form has -/
def hasF (f : Int) : Bool × Bool × Bool := if f = 1 then (true, true, true) else if f = 2 ∨ f = 3 then (true, true, false) else if f = 4 ∨ f = 5 then (false, true, true) else if f = 6 ∨ f = 7 then (true, false, false) else (false, false, false)
theorem has_any (op : Int) (w : World) :
    Calls Try.prog 33 #[.int .i64 (formI op)] w fun e w' => (∃ b c, e = .returned (.tuple #[.bool (hasRd op), b, c])) ∧ w' = w := by
  rcases form_parts op with ⟨_, hk, hb⟩ | ⟨_, _, hk, hb⟩ | ⟨_, hk, hb⟩ | ⟨_, hk, hb⟩ | ⟨_, _, hk, hb⟩ | ⟨_, _, hk, hb⟩ | ⟨_, _, hk, hb⟩ | ⟨_, _, hk, hb⟩ | ⟨_, _, hk, hb⟩ | ⟨_, _, hk, hb⟩ | ⟨_, _, hk, hb⟩ | ⟨_, hk, hb⟩
  all_goals
    rw [hk, hb]
    clear hk hb
    go_enter Try.func33, Try.ntmps33
    go_wp2
    go_returns
    exact ⟨⟨_, _, rfl⟩, rfl⟩
theorem Writes_any (i : Ins) (w : World) :
    Calls Try.prog 30 #[i.val] w fun e w' => e = .returned (.int .i64 (writesI i)) ∧ Bel w w' := by
  obtain ⟨op, rd, rs1, rs2, imm⟩ := i
  unfold Ins.val writesI
  simp only
  have HF := Lib.hid (fun W => form_any op W)
  have HH := Lib.hid (fun W => has_any op W)
  generalize formI op = f at *
  generalize hasRd op = h at *
  cases h
  all_goals
    go_enter Try.func30, Try.ntmps30
    go_wp2_with (first | (go_at_call 34; refine (HF.out _).mono ?_; rintro x w1 ⟨rfl, rfl⟩) | (go_at_call 33; refine (HH.out _).mono ?_; rintro x w1 ⟨⟨b, c, rfl⟩, rfl⟩))
    go_returns
    exact ⟨rfl, Bel.alloc _ _⟩
theorem Reads_any (i : Ins) (w : World) :
    Calls Try.prog 17 #[i.val] w fun e w' => e = .returned (.tuple #[.int .i64 i.rs1, .int .i64 i.rs2]) ∧ Bel w w' := by
  obtain ⟨op, rd, rs1, rs2, imm⟩ := i
  unfold Ins.val
  go_enter Try.func17, Try.ntmps17
  go_wp2
  go_region
  go_wp2
  go_returns
  exact ⟨rfl, (Bel.alloc _ _).trans (Bel.drew _)⟩
end Go.Proofs.Ytbfllafbklfcjaa
