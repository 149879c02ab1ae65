/- 'min' of three and of four integers, kept behind a name. -/
import Derived.Test.YtghekfdpgeopjaaSl
set_option linter.unusedVariables false
set_option linter.unusedSimpArgs false
namespace Go.Proofs.Ytghekfdpgeopjaa
open Go.RowKit

theorem if_min (a b : Int) : (if b < a then b else a) = min a b := by split <;> omega
theorem run_min3 {P : Program} {w : World} (ts : Array TypeId) (t : TypeId) (k1 k2 k3 : IntKind) (x y z : Int) :
    (Builtin.min_ ts t #[.int k1 x, .int k2 y, .int k3 z]).run P w = .ok (.int k1 (min (min x y) z)) w := by
  simp [Builtin.min_, Builtin.min2, if_min]
theorem run_min4 {P : Program} {w : World} (ts : Array TypeId) (t : TypeId) (k1 k2 k3 k4 : IntKind) (x y z u : Int) :
    (Builtin.min_ ts t #[.int k1 x, .int k2 y, .int k3 z, .int k4 u]).run P w = .ok (.int k1 (min (min (min x y) z) u)) w := by
  simp [Builtin.min_, Builtin.min2, if_min]
section
variable {P : Program} {ops : Array Oper} {rest : List Oper} {o : Oper} {a : Act} {Q : Exit → Act → World → Prop}
theorem wpList_min3 {w : World} (hgd : o.guard = none) (x y z : Operand) (ts : Array TypeId) (ho : o.op = .call { callee := .builtin .min, args := #[x, y, z], argTypes := ts })
    (k1 k2 k3 : IntKind) (p q r N : Int) (hx : a.eval x = .int k1 p) (hy : a.eval y = .int k2 q) (hz : a.eval z = .int k3 r) (hN : N = min (min p q) r)
    (h : wpList P ops Q rest (a.put o.dst (.int k1 N)) w) : wpList P ops Q (o :: rest) a w := by
  refine wpList_plain hgd fun K hK => ?_
  have hrun := fun ts t => run_min3 (P := P) (w := w) ts t k1 k2 k3 p q r
  unfold Oper.wp execOp
  simp only [ho, resolve, invoke, builtin, Sem.run_bind, Sem.run_pure, Result.andThen_ok, List.map_toArray, List.map_cons, List.map_nil, hx, hy, hz, hrun]
  rw [← hN]
  exact hK _ _ h
theorem wpList_min4 {w : World} (hgd : o.guard = none) (x y z u : Operand) (ts : Array TypeId) (ho : o.op = .call { callee := .builtin .min, args := #[x, y, z, u], argTypes := ts })
    (k1 k2 k3 k4 : IntKind) (p q r s N : Int) (hx : a.eval x = .int k1 p) (hy : a.eval y = .int k2 q) (hz : a.eval z = .int k3 r) (hu : a.eval u = .int k4 s) (hN : N = min (min (min p q) r) s)
    (h : wpList P ops Q rest (a.put o.dst (.int k1 N)) w) : wpList P ops Q (o :: rest) a w := by
  refine wpList_plain hgd fun K hK => ?_
  have hrun := fun ts t => run_min4 (P := P) (w := w) ts t k1 k2 k3 k4 p q r s
  unfold Oper.wp execOp
  simp only [ho, resolve, invoke, builtin, Sem.run_bind, Sem.run_pure, Result.andThen_ok, List.map_toArray, List.map_cons, List.map_nil, hx, hy, hz, hu, hrun]
  rw [← hN]
  exact hK _ _ h
end

end Go.Proofs.Ytghekfdpgeopjaa
