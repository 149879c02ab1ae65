/- Operations on whole rows within a statement that draws its order: loading an array or a struct, comparing two of them. -/
import Derived.Test.YtcahadkkjfijfaaRes
import Derived.Test.YtcahadkkjfijfaaU32a
import Derived.Laws.StructEq
import Derived.ChangeKeysEq
import Derived.Maps.RangeWalk
set_option linter.unusedVariables false
set_option linter.unusedSimpArgs false
namespace Go.Proofs.Ytcahadkkjfijfaa
open Go.RowKit Go.Sort

section
variable {P : Program} {C : World → Prop} {next : Act → Prop} {o : Oper} {a : Act}
theorem quiet_load_row (ty : TypeId) (x : Operand) (ho : o.op = .load ty x) (g : Nat) (hx : a.eval x = .pointer (some ⟨g, 0, none⟩)) (cs : Array Value)
    (hC : ∀ w, C w → (loadVar ty ⟨g, 0, none⟩).run P w = .ok (.agg cs) w) (h : next (a.put o.dst (.agg cs))) : o.quiet P a C next := by
  refine ⟨_, fun w hw => ?_, h⟩
  have := hC w hw
  simp [Oper.quietAt, execOp, ho, hx, Instr.loadAt, Instr.sureAddr, this, Oper.quietUpon]
theorem quiet_eql_agg (ty t' : TypeId) (x y : Operand) (ho : o.op = .binOp .eql ty x y t') (xs ys : Array Value) (hx : a.eval x = .agg xs) (hy : a.eval y = .agg ys) (b : Bool)
    (hm : P.eqGuardType P.depth ty = false) (hE : ∀ w, (Op.equalIn 10000 ty (.agg xs) (.agg ys)).run P w = .ok b w) (h : next (a.put o.dst (.bool b))) : o.quiet P a C next := by
  refine ⟨_, fun w hw => ?_, h⟩
  have := hE w
  simp [Oper.quietAt, execOp, ho, hx, hy, run_eqGuard_agg _ _ _ _ _ _ _ hm, run_eql_struct, this, Oper.quietUpon]
end

theorem eq_regs (w : World) (l : List Nat) (hl : l.length = 32) : (Op.equalIn 10000 23 (.agg (u32v l).toArray) (.agg (u32v l).toArray)).run Try.prog w = .ok true w := by
  obtain ⟨i, hi⟩ : ∃ i, Try.prog.info? 22 = some i := Option.isSome_iff_exists.1 (by kernel_rfl)
  have hc : Try.prog.cellsOf 22 = 1 := by kernel_rfl
  rw [show (10000 : Nat) = 9999 + 1 from rfl, run_equalIn_array w 9999 _ _ Try.underlying23 hi, hc]
  have key : ∀ is : List Nat, (∀ i ∈ is, i < 32) → (Op.eqItems 9999 22 1 (u32v l).toArray (u32v l).toArray is).run Try.prog w = .ok true w := by
    intro is
    induction is with
    | nil => intro _; simp [Op.eqItems]
    | cons j is ih =>
      intro h
      have hj : j < l.length := by have := h j (by simp); omega
      have hp : (part 22 (u32v l).toArray (j * 1)).run Try.prog w = .ok (.int .u32 ((l[j]'hj : Nat) : Int)) w := by
        have hag : (isAgg 22).run Try.prog w = .ok false w := by
          unfold isAgg
          rw [Sem.run_bind, run_underlying Try.underlying22 w]
          simp
        have ha : (u32v l).toArray[j]? = some (.int .u32 ((l[j]'hj : Nat) : Int)) := by simpa using u32v_at hj
        simp only [part, Sem.run_bind, hag, Result.andThen_ok, Nat.mul_one, ha]
        simp
      have hq := run_equalIn_int (P := Try.prog) w 9998 22 .u32 .u32 ((l[j]'hj : Nat) : Int) ((l[j]'hj : Nat) : Int) Try.underlying22
      simp only [Op.eqItems, Sem.run_bind, hp, hq, Result.andThen_ok]
      simpa using ih fun i hi => h i (by simp [hi])
  exact key _ (by simp)

end Go.Proofs.Ytcahadkkjfijfaa
