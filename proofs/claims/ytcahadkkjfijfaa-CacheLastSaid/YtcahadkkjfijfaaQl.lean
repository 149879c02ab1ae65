/- Loads of whole rows within a statement that draws its order. -/
import Derived.Test.YtcahadkkjfijfaaRes
import Derived.Laws.StructEq
import Derived.Maps.RangeWalk
set_option linter.unusedVariables false
set_option linter.unusedSimpArgs false
namespace Go.Proofs.Ytcahadkkjfijfaa
open Go.RowKit Go.Sort

theorem quiet_load {P : Program} {C : World → Prop} {next : Act → Prop} {o : Oper} {a : Act} (ty : TypeId) (x : Operand) (ho : o.op = .load ty x) (g : Nat) (hx : a.eval x = .pointer (some ⟨g, 0, none⟩)) (cs : Array Value)
    (hC : ∀ w, C w → (Go.loadVar ty ⟨g, 0, none⟩).run P w = .ok (.agg cs) w) (v : Value) (hv : v = .agg cs) (h : next (a.put o.dst v)) : o.quiet P a C next := by
  subst hv
  refine ⟨_, fun w hw => ?_, h⟩
  have := hC w hw
  simp [Oper.quietAt, execOp, ho, hx, Instr.loadAt, Instr.sureAddr, this, Oper.quietUpon]
/-- a row that is known reads so in every world of the class -/
theorem Bk.inClass {P : Program} {W : World} {g : Nat} {t ty : TypeId} {cs : List Value} (h : Bk W g t cs) (ht : RowTy P ty cs.length) : ∀ w, (∃ p : Regrown, w = grow (redrawn W p.d) p.os) → (Go.loadVar ty ⟨g, 0, none⟩).run P w = .ok (.agg cs.toArray) w := by
  rintro w ⟨p, rfl⟩
  exact (h.bel (bel_grow W p.d p.os)).loadVar ht

end Go.Proofs.Ytcahadkkjfijfaa
