/- More laws over St: comparisons of ints that the context decides. -/
import Derived.Test.YtcahadkkjfijfaaStM2
set_option linter.unusedVariables false
set_option linter.unusedSimpArgs false
namespace Go.Proofs.Ytcahadkkjfijfaa
open Go.RowKit

section
variable {P : Program} {ops : Array Oper} {rest : List Oper} {o : Oper} {a : Act} {Q : Exit → Act → World → Prop} {S : World → Prop}
theorem run_neqT {w : World} {x y : Operand} {t t' : TypeId} {k : IntKind} {p q : Int} (ho : o.op = .binOp .neq t x y t') (hx : look a x = some (.int k p)) (hy : look a y = some (.int k q)) (hne : ¬ (p = q)) : (execOp a.eval o).run P w = .ok (.value (.bool true)) w := by
  replace hx := look_eval hx
  replace hy := look_eval hy
  unfold execOp
  simp only [ho, hx, hy]
  go_simp
theorem run_eqF {w : World} {x y : Operand} {t t' : TypeId} {k : IntKind} {p q : Int} (ho : o.op = .binOp .eql t x y t') (hx : look a x = some (.int k p)) (hy : look a y = some (.int k q)) (hne : ¬ (p = q)) : (execOp a.eval o).run P w = .ok (.value (.bool false)) w := by
  replace hx := look_eval hx
  replace hy := look_eval hy
  unfold execOp
  simp only [ho, hx, hy]
  go_simp
theorem y_eqF {x y : Operand} {t t' : TypeId} {k : IntKind} {p q : Int} (ho : o.op = .binOp .eql t x y t') (hx : look a x = some (.int k p)) (hy : look a y = some (.int k q)) (hne : ¬ (p = q) := by assumption) (hw : Region.wanted o (yielded ops a.tmps) = true := by rfl) : YieldsIf P ops S o (.bool false) a := yi_pure hw fun w => run_eqF ho hx hy hne
theorem y_neqT {x y : Operand} {t t' : TypeId} {k : IntKind} {p q : Int} (ho : o.op = .binOp .neq t x y t') (hx : look a x = some (.int k p)) (hy : look a y = some (.int k q)) (hne : ¬ (p = q) := by assumption) (hw : Region.wanted o (yielded ops a.tmps) = true := by rfl) : YieldsIf P ops S o (.bool true) a := yi_pure hw fun w => run_neqT ho hx hy hne
theorem w_neqT {w : World} {x y : Operand} {t t' : TypeId} {k : IntKind} {p q : Int} (ho : o.op = .binOp .neq t x y t') (hx : look a x = some (.int k p)) (hy : look a y = some (.int k q)) (h : wpList P ops Q rest (a.put o.dst (.bool true)) w) (hne : ¬ (p = q) := by assumption) (hw : Region.wanted o (yielded ops a.tmps) = true := by rfl) : wpList P ops Q (o :: rest) a w := by
  refine wpList_wanted hw fun K hK => ?_
  unfold Oper.wp
  rw [run_neqT ho hx hy hne]
  exact hK _ _ h
theorem w_eqF {w : World} {x y : Operand} {t t' : TypeId} {k : IntKind} {p q : Int} (ho : o.op = .binOp .eql t x y t') (hx : look a x = some (.int k p)) (hy : look a y = some (.int k q)) (h : wpList P ops Q rest (a.put o.dst (.bool false)) w) (hne : ¬ (p = q) := by assumption) (hw : Region.wanted o (yielded ops a.tmps) = true := by rfl) : wpList P ops Q (o :: rest) a w := by
  refine wpList_wanted hw fun K hK => ?_
  unfold Oper.wp
  rw [run_eqF ho hx hy hne]
  exact hK _ _ h
/-- a field of one cell, out of a value -/
inductive FldOne (P : Program) (s f off : Nat) : Prop
  | mk (fs : Array Field) (fl : Field) (hu : P.underlying s = some (.struct fs)) (hf : fs[f]? = some fl) (ho : fl.offset = off) (h1 : OneT P fl.type)
theorem y_field {s f off : Nat} {x : Operand} {cs : List Value} {v : Value} (ho : o.op = .field s x f) (hx : look a x = some (.agg cs.toArray)) (hT : FldOne P s f off) (hv : cs[off]? = some v := by exact rfl) (hw : Region.wanted o (yielded ops a.tmps) = true := by rfl) : YieldsIf P ops S o v a := yi_pure hw fun w => by
  replace hx := look_eval hx
  obtain ⟨fs, fl, hu, hf, rfl, ⟨d, hd, hd1, _⟩⟩ := hT
  have hagg : (isAgg fl.type).run P w = .ok false w := by
    unfold isAgg
    rw [Sem.run_bind, run_underlying hd w]
    cases d <;> simp_all
  have hp : (part fl.type cs.toArray fl.offset).run P w = .ok v w := by
    unfold part
    rw [Sem.run_bind, hagg]
    simp [Result.andThen_ok, hv]
  have hrun : (Instr.field s (.agg cs.toArray) f).run P w = .ok v w := by
    unfold Instr.field
    rw [Sem.run_bind, run_underlying hu w]
    simp [Result.andThen_ok, hf, asAgg, hp]
  unfold execOp
  simp only [ho, hx, hrun, Sem.run_bind, Sem.run_pure, Result.andThen_ok]
end
end Go.Proofs.Ytcahadkkjfijfaa
