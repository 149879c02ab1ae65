/- Entries of which nothing can be undone: the row while it is being written. -/
import Derived.Test.YtbfllafbklfcjaaTLaw
import Derived.Test.YtbfllafbklfcjaaStS
set_option linter.unusedVariables false
set_option linter.unusedSimpArgs false
namespace Go.Proofs.Ytbfllafbklfcjaa
open Go.RowKit

def noneE (e : En) : En := { e with known := true, halt := 0 }
def noneL (q : List En) : List En := (q.filter fun e => decide (kindI e.inst.op ≠ 6)).map noneE
def noneK (q : List En) (k : Nat) : List En := noneL (q.take k) ++ q.drop (noneL (q.take k)).length
section
variable {q : List En} {k : Nat} {e : En}
theorem noneL_le : (noneL (q.take k)).length ≤ k := by
  unfold noneL
  rw [List.length_map]
  have h1 := List.length_filter_le (fun e : En => decide (kindI e.inst.op ≠ 6)) (q.take k)
  rw [List.length_take] at h1
  omega
theorem noneK_0 : noneK q 0 = q := by simp [noneK, noneL]
theorem noneK_len (hk : k ≤ q.length) : (noneK q k).length = q.length := by
  have := noneL_le (q := q) (k := k)
  simp [noneK]; omega
theorem noneK_at (h : q[k]? = some e) : (noneK q k)[k]? = some e := by
  have := noneL_le (q := q) (k := k)
  unfold noneK
  rw [List.getElem?_append_right this, List.getElem?_drop]
  rw [show (noneL (q.take k)).length + (k - (noneL (q.take k)).length) = k by omega]
  exact h
theorem noneL_no (h : q[k]? = some e) (h6 : kindI e.inst.op = 6) : noneL (q.take (k + 1)) = noneL (q.take k) := by
  obtain ⟨hk, he⟩ := List.getElem?_eq_some_iff.1 h
  unfold noneL
  rw [List.take_succ_eq_append_getElem hk, he, List.filter_append]
  simp [h6]
theorem noneL_yes (h : q[k]? = some e) (h6 : ¬ (kindI e.inst.op = 6)) : noneL (q.take (k + 1)) = noneL (q.take k) ++ [noneE e] := by
  obtain ⟨hk, he⟩ := List.getElem?_eq_some_iff.1 h
  unfold noneL
  rw [List.take_succ_eq_append_getElem hk, he, List.filter_append]
  simp [h6]
theorem noneK_no (h : q[k]? = some e) (h6 : kindI e.inst.op = 6) : noneK q (k + 1) = noneK q k := by
  unfold noneK; rw [noneL_no h h6]
theorem noneK_yes (h : q[k]? = some e) (h6 : ¬ (kindI e.inst.op = 6)) : noneK q (k + 1) = (noneK q k).set (noneL (q.take k)).length (noneE e) := by
  have hk := (List.getElem?_eq_some_iff.1 h).1
  have hle := noneL_le (q := q) (k := k)
  unfold noneK
  rw [noneL_yes h h6, List.set_append_right _ _ (Nat.le_refl _), Nat.sub_self, List.length_append, List.length_singleton, List.append_assoc]
  rw [List.drop_eq_getElem_cons (i := (noneL (q.take k)).length) (by omega)]
  rfl
theorem noneK_all (h : q.length ≤ k) : (noneK q k).take (noneL q).length = noneL q := by
  unfold noneK
  rw [List.take_of_length_le h, List.take_left']
  rfl
theorem noneL_safe : ∀ r ∈ noneL q, safeB r = true := fun r hr => by
  obtain ⟨e, he, rfl⟩ := List.mem_map.1 hr
  have h6 := (List.mem_filter.1 he).2
  simp only [ne_eq, decide_not, Bool.not_eq_true', decide_eq_false_iff_not] at h6
  unfold safeB noneE
  simp only [if_true, if_neg h6]
  split <;> rfl
theorem noneL_front : frontL (noneL q) = (noneL q).length := frontL_all fun j hj => noneL_safe _ (List.getElem_mem hj)
theorem noneL_ok (h : ensOk q) : ensOk (noneL q) := fun r hr => by
  obtain ⟨e, he, rfl⟩ := List.mem_map.1 hr
  obtain ⟨a1, a2, a3, a4, a5, a6, a7, a8, a9, a10, a11, a12, a13⟩ := h e (List.mem_filter.1 he).1
  exact ⟨a1, a2, a3, a4, a5, a6, a7, a8, a9, ⟨by simp [noneE], by simp [noneE]⟩, a11, a12, a13⟩
theorem noneE_cells : (e.cells.set 15 (.bool true)).set 13 (.int .i64 0) = (noneE e).cells := rfl
end
end Go.Proofs.Ytbfllafbklfcjaa
