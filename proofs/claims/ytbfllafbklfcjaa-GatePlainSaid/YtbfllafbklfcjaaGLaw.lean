/- gate: the law in plain Lean; the statements' own 'alive'. -/
import Derived.Test.YtbfllafbklfcjaaGate
import Derived.Test.YtbfllafbklfcjaaTMore
set_option linter.unusedVariables false
set_option linter.unusedSimpArgs false
set_option maxRecDepth 100000
namespace Go.Proofs.Ytbfllafbklfcjaa
open Go.RowKit Go.Sort

section
variable {q qm : List En} {i : Nat} {e e' : En}
theorem may_0 : mayB 0 q i e = true := by unfold mayB; split <;> rfl
theorem may_1 : mayB 1 q i e = if tellsB e = false then true else (needsL e).all (fun r => !taintL q i r) := by unfold mayB; split <;> rfl
theorem may_2 : mayB 2 q i e = if tellsB e = false then true else decide (i ≤ frontL q) := by unfold mayB; split <;> rfl
theorem may_3 (h : tellsB e = true) : mayB 3 q i e = false := by unfold mayB; rw [if_neg (by rw [h]; simp)]; rfl
theorem may_visible (h : i ≤ frontL q) (m : Int) (hm : m = 0 ∨ m = 1 ∨ m = 2) : mayB m q i e = true := by
  rcases hm with rfl | rfl | rfl
  · exact may_0
  · rw [may_1]
    split
    · rfl
    · rw [List.all_eq_true]; intro r _; rw [taint_none h]; rfl
  · rw [may_2]
    split
    · rfl
    · simpa using h
theorem may_quiet (h : tellsB e = false) (m : Int) : mayB m q i e = true := by unfold mayB; rw [if_pos h]
theorem may_zero (h : ∀ r ∈ needsL e, r = 0) : mayB 1 q i e = true := by
  rw [may_1]
  split
  · rfl
  · rw [List.all_eq_true]
    intro r hr
    rw [h r hr]
    simp [taintL, makerL]
theorem may_21 (h : mayB 2 q i e = true) : mayB 1 q i e = true := by
  rw [may_2] at h
  split at h
  · rename_i ht; exact may_quiet ht 1
  · exact may_visible (by simpa using h) 1 (.inr (.inl rfl))
theorem may_first : mayB 2 q 0 e = true := by
  rw [may_2]; split
  · rfl
  · simp
theorem may_mono (hl : qm.length = q.length) (hi : ∀ j : Nat, (q[j]?.map (·.inst)) = (qm[j]?.map (·.inst))) (hf : frontL q ≤ frontL qm) (h1 : q[i]? = some e) (h2 : qm[i]? = some e') (m : Int) (hm : m = 0 ∨ m = 1 ∨ m = 2) (h : mayB m q i e = true) : mayB m qm i e' = true := by
  have hin : e.inst = e'.inst := by have := hi i; rw [h1, h2] at this; simpa using this
  have ht : tellsB e' = tellsB e := by unfold tellsB; rw [hin]
  have hn : needsL e' = needsL e := by unfold needsL; rw [hin]
  have hil : i < q.length := (List.getElem?_eq_some_iff.1 h1).1
  rcases hm with rfl | rfl | rfl
  · exact may_0
  · rw [may_1] at h ⊢
    rw [ht, hn]
    split
    · rfl
    · rename_i hh
      rw [if_neg hh] at h
      rw [List.all_eq_true] at h ⊢
      intro r hr
      have := h r hr
      simp only [Bool.not_eq_true'] at this ⊢
      exact taint_mono hl hi hf (by omega) this
  · rw [may_2] at h ⊢
    rw [ht]
    split
    · rfl
    · rename_i hh
      rw [if_neg hh] at h
      simp only [decide_eq_true_eq] at h ⊢
      omega
end
section
variable {P : Program} {ops : Array Oper} {rest : List Oper} {o : Oper} {a : Act} {Q : Exit → Act → World → Prop}
theorem w_eqT {w : World} {x y : Operand} {t t' : TypeId} {k : IntKind} {p q : Int} (ho : o.op = .binOp .eql t x y t') (hx : look a x = some (.int k p)) (hy : look a y = some (.int k q)) (h : wpList P ops Q rest (a.put o.dst (.bool true)) w) (hne : Hid (p = q) := by assumption) (hw : Region.wanted o (yielded ops a.tmps) = true := by rfl) : wpList P ops Q (o :: rest) a w := by
  replace hx := look_eval hx
  replace hy := look_eval hy
  have hpq := hne.out
  subst hpq
  refine wpList_wanted hw fun K hK => ?_
  have hrun : (execOp a.eval o).run P w = .ok (.value (.bool true)) w := by
    unfold execOp
    simp only [ho, hx, hy]
    go_simp
  unfold Oper.wp
  rw [hrun]
  exact hK _ _ h
end
def loadE : En := ⟨0, 0, ⟨13, 0, 0, 0, 0⟩, 0, 0, 0, 0, 0, 0, 0, 0, false, false⟩
theorem alive15_any (w : World) :
    Calls Try.prog 21 #[] w fun e w' => e = .returned (.bool true) ∧ Bel w w' := by
  have h1 : ∀ W, Calls Try.prog 23 #[.agg #[.int .i64 0, .int .u32 0, .int .i64 13, .int .i64 0, .int .i64 0, .int .i64 0, .int .u32 0, .int .u32 0, .int .i64 0, .int .i64 0, .int .u32 0, .int .u32 0, .int .u32 0, .int .i64 0, .int .i64 0, .bool false, .bool false]] W fun x w' => x = .returned (.bool true) ∧ Bel W w' := fun W => Tells_any loadE W (by unfold okI; decide)
  have h2 : ∀ W, Calls Try.prog 23 #[.agg #[.int .i64 0, .int .u32 0, .int .i64 28, .int .i64 0, .int .i64 0, .int .i64 0, .int .u32 0, .int .u32 0, .int .i64 0, .int .i64 0, .int .u32 0, .int .u32 0, .int .u32 0, .int .i64 0, .int .i64 0, .bool false, .bool false]] W fun x w' => x = .returned (.bool false) ∧ Bel W w' := fun W => Tells_any plainE W (by unfold okI; decide)
  have H1 := Lib.hid h1
  have H2 := Lib.hid h2
  clear h1 h2
  go_enter Try.func21, Try.ntmps21
  go_wp2_with (first | (go_at_call 23; with_reducible refine (H1.out _).mono ?_; rintro x w1 ⟨rfl, hb1⟩) | (go_at_call 23; with_reducible refine (H2.out _).mono ?_; rintro x w2 ⟨rfl, hb2⟩))
  go_ret
  exact ⟨rfl, hb1.trans hb2⟩
end Go.Proofs.Ytbfllafbklfcjaa
