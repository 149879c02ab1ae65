/- Arrays of thirty-two words, by value: as lists of numbers. -/
import Derived.Test.YtcahadkkjfijfaaBk
import Derived.Laws.Tables
import Derived.Laws.Rows
import Derived.ProofKit
import Derived.OpenShut
set_option linter.unusedVariables false
set_option linter.unusedSimpArgs false
namespace Go.Proofs.Ytcahadkkjfijfaa
open Go.RowKit Go.ChangeShapes Go.WideShapes

def u32v (l : List Nat) : List Value := l.map fun (x : Nat) => .int .u32 (x : Int)
theorem u32v_len (l : List Nat) : (u32v l).length = l.length := by simp [u32v]
theorem u32v_at {l : List Nat} {k : Nat} (h : k < l.length) : (u32v l)[k]? = some (.int .u32 ((l[k]'h : Nat) : Int)) := by simp [u32v, h]
theorem u32v_set (l : List Nat) (k x : Nat) : (u32v l).set k (.int .u32 (x : Int)) = u32v (l.set k x) := by simp [u32v]
theorem list_u32 (cs : List Value) (h : ∀ u ∈ cs, ∃ x : Nat, x < 4294967296 ∧ u = .int .u32 (x : Int)) : ∃ l : List Nat, cs = u32v l ∧ ∀ x ∈ l, x < 4294967296 := by
  induction cs with
  | nil => exact ⟨[], rfl, by simp⟩
  | cons u cs ih =>
    obtain ⟨l, e, hl⟩ := ih fun v hv => h v (by simp [hv])
    obtain ⟨x, hx, e'⟩ := h u (by simp)
    refine ⟨x :: l, by rw [e, e']; rfl, fun y hy => ?_⟩
    rcases List.mem_cons.1 hy with rfl | hy
    · exact hx
    · exact hl _ hy
theorem okWide_array {P : Program} {w : World} {r : Reach} {base : Nat} {t e : TypeId} {n : Nat} {v : Value} (ht : P.underlying t = some (.array n e)) (h : Value.okWide P w r base t v) : ∃ cs, v = .agg cs ∧ cs.size = P.cellsOf t := by
  simp only [Value.okWide, ht] at h
  obtain ⟨cs, h1, h2, _⟩ := h
  exact ⟨cs, h1, h2⟩
set_option maxRecDepth 100000 in
theorem open_regs {H : Type} {enc : TypeId × Value → H} {W : World} {base : Nat} {v : Value} {d : DataW H} {p : List MemPlace}
    (hv : Value.okWide Try.prog W .any base 23 v) (h : DataW.Trod enc Try.prog W 0 (fun _ => true) true 23 v d p) : ∃ l : List Nat, v = .agg (u32v l).toArray ∧ l.length = 32 ∧ ∀ x ∈ l, x < 4294967296 := by
  obtain ⟨cs, rfl, hs⟩ := okWide_array Try.underlying23 hv
  obtain ⟨fuel, hf⟩ := h
  obtain ⟨xs, m, _, _, hl, hxl, hi⟩ := DataW.trod_array Try.underlying23 hf
  have hC : Try.prog.cellsOf 23 = 32 := by kernel_rfl
  have hE : Try.prog.cellsOf 22 = 1 := by kernel_rfl
  have hcs : cs.toList.length = 32 := by simpa using hs.trans hC
  obtain ⟨l, e, hlt⟩ := list_u32 cs.toList (by
    intro u hu
    obtain ⟨i, hil, e⟩ := List.mem_iff_getElem.1 hu
    have := hi i (by omega)
    have hx : xs[i]? = some (xs[i]'(by omega)) := List.getElem?_eq_getElem (by omega)
    rw [hE, hx] at this
    have h1 : (((Value.agg cs).cells.toList.drop (i * 1)).take 1) = [u] := by
      show ((cs.toList.drop (i * 1)).take 1) = [u]
      rw [Nat.mul_one, List.drop_eq_getElem_cons hil, List.take_succ_cons, List.take_zero, e]
    rw [h1] at this
    obtain ⟨n, e1, _, wf⟩ := DataW.trod_int Try.underlying22 this
    have b := bounds_u32 wf
    obtain ⟨k, rfl⟩ := Int.eq_ofNat_of_zero_le b.1
    exact ⟨k, by omega, by injection e1⟩)
  refine ⟨l, ?_, by rw [e, u32v_len] at hcs; exact hcs, hlt⟩
  rw [← e]

end Go.Proofs.Ytcahadkkjfijfaa
