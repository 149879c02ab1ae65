/- Slices of words, as lists of numbers; arguments of that type, opened. -/
import Derived.Test.YtghekfdpgeopjaaRes
import Derived.Test.YtghekfdpgeopjaaOpen
set_option linter.unusedVariables false
set_option linter.unusedSimpArgs false
set_option maxRecDepth 100000
namespace Go.Proofs.Ytghekfdpgeopjaa
open Go.RowKit Go.ChangeShapes Go.WideShapes Go.ChangeAt

def u32v (l : List Nat) : List Value := l.map fun (x : Nat) => .int .u32 (x : Int)
theorem u32v_len (l : List Nat) : (u32v l).length = l.length := by simp [u32v]
theorem u32v_at {l : List Nat} {k : Nat} (h : k < l.length) : (u32v l)[k]? = some (.int .u32 ((l[k]'h : Nat) : Int)) := by simp [u32v, h]
theorem u32v_append (p q : List Nat) : u32v (p ++ q) = u32v p ++ u32v q := by simp [u32v]
theorem u32v_take (l : List Nat) (k : Nat) : (u32v l).take k = u32v (l.take k) := by simp [u32v]
theorem u32v_drop (l : List Nat) (k : Nat) : (u32v l).drop k = u32v (l.drop k) := by simp [u32v]
theorem u32v_one (l : List Nat) : ∀ u ∈ u32v l, u.oneCell' = true := by
  intro u hu
  simp only [u32v, List.mem_map] at hu
  obtain ⟨x, _, rfl⟩ := hu
  rfl
theorem Rd.u32len {w : World} {B n c : Nat} {A : Option Addr} {l : List Nat} (h : Rd w B 1 A n c (u32v l)) : l.length = n := by have := h.len; rw [u32v_len] at this; omega
theorem Rd.u32at {w : World} {B n c : Nat} {A : Option Addr} {l : List Nat} (h : Rd w B 1 A n c (u32v l)) {k : Nat} (hk : k < n) :
    ∃ (hl : k < l.length) (g o : Nat), A = some ⟨g, o, none⟩ ∧ g < B ∧ w.cell? ⟨g, o + k, none⟩ = some (.int .u32 ((l[k]'hl : Nat) : Int)) := by
  have hl : k < l.length := by rw [h.u32len]; exact hk
  obtain ⟨g, o, u, e, hb, hu, hc⟩ := h.cell1 hk
  rw [u32v_at hl] at hu
  obtain rfl : _ = u := by injection hu
  exact ⟨hl, g, o, e, hb, hc⟩

end Go.Proofs.Ytghekfdpgeopjaa
