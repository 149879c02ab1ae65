/- Records of type api.Put: as Lean records; rows of them as lists; what reads as such a row. -/
import Derived.Test.YtcahadkkjfijfaaBk
set_option linter.unusedVariables false
set_option linter.unusedSimpArgs false
namespace Go.Proofs.Ytcahadkkjfijfaa
open Go.RowKit

/-- api.Put -/
structure Pu where
  addr : Nat
  data : ByteArray
def Pu.cells (r : Pu) : List Value := [.int .u32 (r.addr : Int), .string r.data]
def Pu.val (r : Pu) : Value := .agg #[.int .u32 (r.addr : Int), .string r.data]
def pus (q : List Pu) : List Value := q.flatMap Pu.cells
theorem pus_len (q : List Pu) : (pus q).length = q.length * 2 := by
  induction q with
  | nil => rfl
  | cons r q ih =>
    have : pus (r :: q) = r.cells ++ pus q := rfl
    rw [this, List.length_append, ih, List.length_cons]
    simp [Pu.cells]; omega
theorem pus_at {q : List Pu} {k : Nat} (h : k < q.length) (j : Nat) (hj : j < 2) : (pus q)[k * 2 + j]? = (q[k]'h).cells[j]? := by
  induction q generalizing k with
  | nil => simp at h
  | cons r q ih =>
    have e : pus (r :: q) = r.cells ++ pus q := rfl
    have hl : r.cells.length = 2 := rfl
    cases k with
    | zero => rw [e, List.getElem?_append_left (by rw [hl]; omega)]; simp
    | succ k =>
      rw [e, List.getElem?_append_right (by rw [hl]; omega), hl, show (k + 1) * 2 + j - 2 = k * 2 + j by omega, ih (by simpa using h)]
      simp
theorem pus_one (q : List Pu) : ∀ u ∈ pus q, u.oneCell' = true := by
  intro u hu
  simp only [pus, List.mem_flatMap, Pu.cells, List.mem_cons, List.not_mem_nil, or_false] at hu
  obtain ⟨r, _, h⟩ := hu
  rcases h with h | h <;> subst h <;> rfl
theorem pus_append (p q : List Pu) : pus (p ++ q) = pus p ++ pus q := by simp [pus]
theorem pus_take (q : List Pu) (k : Nat) : (pus q).take (k * 2) = pus (q.take k) := by
  induction q generalizing k with
  | nil => simp [pus]
  | cons r q ih =>
    have e : pus (r :: q) = r.cells ++ pus q := rfl
    have hl : r.cells.length = 2 := rfl
    cases k with
    | zero => simp [pus]
    | succ k =>
      rw [e, List.take_append, hl, show (k + 1) * 2 - 2 = k * 2 by omega, ih, List.take_succ_cons, List.take_of_length_le (by rw [hl]; omega)]
      rfl
theorem pus_drop (q : List Pu) (k : Nat) : (pus q).drop (k * 2) = pus (q.drop k) := by
  induction q generalizing k with
  | nil => simp [pus]
  | cons r q ih =>
    have e : pus (r :: q) = r.cells ++ pus q := rfl
    have hl : r.cells.length = 2 := rfl
    cases k with
    | zero => simp [pus]
    | succ k =>
      rw [e, List.drop_append, hl, show (k + 1) * 2 - 2 = k * 2 by omega, ih, List.drop_succ_cons, List.drop_of_length_le (by rw [hl]; omega)]
      rfl
theorem Rd.puslen {w : World} {B n c : Nat} {A : Option Addr} {q : List Pu} (h : Rd w B 2 A n c (pus q)) : q.length = n := by
  have hn := h.len
  rw [pus_len] at hn
  omega

/-- what an element's cells hold -/
theorem Rd.pusat {w : World} {B n c : Nat} {A : Option Addr} {q : List Pu} (h : Rd w B 2 A n c (pus q)) {k : Nat} (hk : k < n) :
    ∃ (hl : k < q.length) (g o : Nat), A = some ⟨g, o, none⟩ ∧ g < B ∧ w.cell? ⟨g, o + k * 2, none⟩ = some (.int .u32 (q[k].addr : Int)) ∧ w.cell? ⟨g, o + k * 2 + 1, none⟩ = some (.string q[k].data) := by
  have hl : k < q.length := by rw [h.puslen]; exact hk
  obtain ⟨g, o, e, hb, hc⟩ := h.at_ (by omega)
  refine ⟨hl, g, o, e, hb, ?_, ?_⟩
  · simpa using hc (k * 2 + 0) _ (pus_at hl 0 (by omega))
  · simpa [Nat.add_assoc] using hc (k * 2 + 1) _ (pus_at hl 1 (by omega))

end Go.Proofs.Ytcahadkkjfijfaa
