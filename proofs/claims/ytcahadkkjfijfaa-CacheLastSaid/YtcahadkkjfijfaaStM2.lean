/- More laws over St: sums of strings. -/
import Derived.Test.YtcahadkkjfijfaaStM
import Derived.Laws.Concat
import Derived.Handy
set_option linter.unusedVariables false
set_option linter.unusedSimpArgs false
namespace Go.Proofs.Ytcahadkkjfijfaa
open Go.RowKit

/-- a cell of a record, set -/
theorem Rows.set1 {α : Type} {f : List α → List Value} {cells : α → List Value} {sz : Nat} [H : Rows f cells sz] {q : List α} {k : Nat} {v r : α} (h : q[k]? = some v) {i : Nat} {u : Value} (hi : i < sz) (hc : cells r = (cells v).set i u) : (f q).set (k * sz + i) u = f (q.set k r) := by
  obtain ⟨hl, e⟩ := List.getElem?_eq_some_iff.1 h
  have hlen : (f (q.take k)).length = k * sz := by rw [H.length, List.length_take, Nat.min_eq_left (by omega)]
  have e1 : f q = f (q.take k) ++ (cells v ++ f (q.drop (k + 1))) := by
    conv => lhs; rw [← List.take_append_drop k q, List.drop_eq_getElem_cons hl, e]
    rw [H.append, show v :: q.drop (k + 1) = [v] ++ q.drop (k + 1) from rfl, H.append, H.single]
  have e2 : f (q.set k r) = f (q.take k) ++ (cells r ++ f (q.drop (k + 1))) := by
    rw [List.set_eq_take_append_cons_drop, if_pos hl, H.append, show r :: q.drop (k + 1) = [r] ++ q.drop (k + 1) from rfl, H.append, H.single]
  rw [e1, e2, List.set_append_right _ _ (by omega), hlen, Nat.add_sub_cancel_left, List.set_append_left _ _ (by rw [H.len]; exact hi), hc]
section
variable {P : Program} {ops : Array Oper} {rest : List Oper} {o : Oper} {a : Act} {Q : Exit → Act → World → Prop} {S : World → Prop}
theorem run_stradd {w : World} {x y : Operand} {t t' : TypeId} {p q : ByteArray} (ho : o.op = .binOp .add t x y t') (hx : look a x = some (.string p)) (hy : look a y = some (.string q)) (hs : p.size + q.size ≤ 9223372036854775807) : (execOp a.eval o).run P w = .ok (.value (.string (p ++ q))) w := by
  replace hx := look_eval hx
  replace hy := look_eval hy
  unfold execOp
  simp [ho, hx, hy, eqGuard, binOp_string_add, run_string_add_sum w p q hs]
theorem y_stradd {x y : Operand} {t t' : TypeId} {p q : ByteArray} (ho : o.op = .binOp .add t x y t') (hx : look a x = some (.string p)) (hy : look a y = some (.string q)) (hs : p.size + q.size ≤ 9223372036854775807 := by first | omega | (simp only [ByteArray.size_append, cut_size]; omega)) (hw : Region.wanted o (yielded ops a.tmps) = true := by rfl) :
    YieldsIf P ops S o (.string (p ++ q)) a := yi_pure hw fun w => run_stradd ho hx hy hs
theorem w_stradd {w : World} {x y : Operand} {t t' : TypeId} {p q : ByteArray} (ho : o.op = .binOp .add t x y t') (hx : look a x = some (.string p)) (hy : look a y = some (.string q)) (h : wpList P ops Q rest (a.put o.dst (.string (p ++ q))) w) (hs : p.size + q.size ≤ 9223372036854775807 := by first | omega | (simp only [ByteArray.size_append, cut_size]; omega)) (hw : Region.wanted o (yielded ops a.tmps) = true := by rfl) :
    wpList P ops Q (o :: rest) a w := by
  refine wpList_wanted hw fun K hK => ?_
  unfold Oper.wp
  rw [run_stradd ho hx hy hs]
  exact hK _ _ h
/-- a sum of two ints that the context tells -/
theorem y_addi {x y : Operand} {t t' : TypeId} {p q r : Int} (ho : o.op = .binOp .add t x y t') (hx : look a x = some (.int .i64 p)) (hy : look a y = some (.int .i64 q)) (hr : p + q = r := by assumption) (h1 : -9223372036854775808 ≤ r := by omega) (h2 : r ≤ 9223372036854775807 := by omega) (hw : Region.wanted o (yielded ops a.tmps) = true := by rfl) :
    YieldsIf P ops S o (.int .i64 r) a := yi_pure hw fun w => by
  replace hx := look_eval hx
  replace hy := look_eval hy
  subst hr
  unfold execOp
  have hwrap : IntKind.i64.wrap (p + q) = p + q := by simp only [IntKind.wrap, IntKind.bits, IntKind.signed]; simp; omega
  simp only [ho, hx, hy]
  go_simp
end
end Go.Proofs.Ytcahadkkjfijfaa
