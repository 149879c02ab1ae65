/- Records of type api.Step: as Lean records; rows of them as lists; what reads as such a row. -/
import Derived.Test.YtcahadkkjfijfaaBk
set_option linter.unusedVariables false
set_option linter.unusedSimpArgs false
namespace Go.Proofs.Ytcahadkkjfijfaa
open Go.RowKit

/-- api.Step -/
structure St where
  pc : Nat
  next : Nat
  rd : Int
  value : Nat
  addr : Nat
  size : Int
  store : Bool
  halt : Int
  took : Int
def St.cells (r : St) : List Value := [.int .u32 (r.pc : Int), .int .u32 (r.next : Int), .int .i64 r.rd, .int .u32 (r.value : Int), .int .u32 (r.addr : Int), .int .i64 r.size, .bool r.store, .int .i64 r.halt, .int .i64 r.took]
def St.val (r : St) : Value := .agg #[.int .u32 (r.pc : Int), .int .u32 (r.next : Int), .int .i64 r.rd, .int .u32 (r.value : Int), .int .u32 (r.addr : Int), .int .i64 r.size, .bool r.store, .int .i64 r.halt, .int .i64 r.took]
def sts (q : List St) : List Value := q.flatMap St.cells
theorem sts_len (q : List St) : (sts q).length = q.length * 9 := by
  induction q with
  | nil => rfl
  | cons r q ih =>
    have : sts (r :: q) = r.cells ++ sts q := rfl
    rw [this, List.length_append, ih, List.length_cons]
    simp [St.cells]; omega
theorem sts_at {q : List St} {k : Nat} (h : k < q.length) (j : Nat) (hj : j < 9) : (sts q)[k * 9 + j]? = (q[k]'h).cells[j]? := by
  induction q generalizing k with
  | nil => simp at h
  | cons r q ih =>
    have e : sts (r :: q) = r.cells ++ sts q := rfl
    have hl : r.cells.length = 9 := rfl
    cases k with
    | zero => rw [e, List.getElem?_append_left (by rw [hl]; omega)]; simp
    | succ k =>
      rw [e, List.getElem?_append_right (by rw [hl]; omega), hl, show (k + 1) * 9 + j - 9 = k * 9 + j by omega, ih (by simpa using h)]
      simp
theorem sts_one (q : List St) : ∀ u ∈ sts q, u.oneCell' = true := by
  intro u hu
  simp only [sts, List.mem_flatMap, St.cells, List.mem_cons, List.not_mem_nil, or_false] at hu
  obtain ⟨r, _, h⟩ := hu
  rcases h with h | h | h | h | h | h | h | h | h <;> subst h <;> rfl
theorem sts_append (p q : List St) : sts (p ++ q) = sts p ++ sts q := by simp [sts]
theorem sts_take (q : List St) (k : Nat) : (sts q).take (k * 9) = sts (q.take k) := by
  induction q generalizing k with
  | nil => simp [sts]
  | cons r q ih =>
    have e : sts (r :: q) = r.cells ++ sts q := rfl
    have hl : r.cells.length = 9 := rfl
    cases k with
    | zero => simp [sts]
    | succ k =>
      rw [e, List.take_append, hl, show (k + 1) * 9 - 9 = k * 9 by omega, ih, List.take_succ_cons, List.take_of_length_le (by rw [hl]; omega)]
      rfl
theorem sts_drop (q : List St) (k : Nat) : (sts q).drop (k * 9) = sts (q.drop k) := by
  induction q generalizing k with
  | nil => simp [sts]
  | cons r q ih =>
    have e : sts (r :: q) = r.cells ++ sts q := rfl
    have hl : r.cells.length = 9 := rfl
    cases k with
    | zero => simp [sts]
    | succ k =>
      rw [e, List.drop_append, hl, show (k + 1) * 9 - 9 = k * 9 by omega, ih, List.drop_succ_cons, List.drop_of_length_le (by rw [hl]; omega)]
      rfl
theorem Rd.stslen {w : World} {B n c : Nat} {A : Option Addr} {q : List St} (h : Rd w B 9 A n c (sts q)) : q.length = n := by
  have hn := h.len
  rw [sts_len] at hn
  omega

/-- what an element's cells hold -/
theorem Rd.stsat {w : World} {B n c : Nat} {A : Option Addr} {q : List St} (h : Rd w B 9 A n c (sts q)) {k : Nat} (hk : k < n) :
    ∃ (hl : k < q.length) (g o : Nat), A = some ⟨g, o, none⟩ ∧ g < B ∧ w.cell? ⟨g, o + k * 9, none⟩ = some (.int .u32 (q[k].pc : Int)) ∧ w.cell? ⟨g, o + k * 9 + 1, none⟩ = some (.int .u32 (q[k].next : Int)) ∧ w.cell? ⟨g, o + k * 9 + 2, none⟩ = some (.int .i64 q[k].rd) ∧ w.cell? ⟨g, o + k * 9 + 3, none⟩ = some (.int .u32 (q[k].value : Int)) ∧ w.cell? ⟨g, o + k * 9 + 4, none⟩ = some (.int .u32 (q[k].addr : Int)) ∧ w.cell? ⟨g, o + k * 9 + 5, none⟩ = some (.int .i64 q[k].size) ∧ w.cell? ⟨g, o + k * 9 + 6, none⟩ = some (.bool q[k].store) ∧ w.cell? ⟨g, o + k * 9 + 7, none⟩ = some (.int .i64 q[k].halt) ∧ w.cell? ⟨g, o + k * 9 + 8, none⟩ = some (.int .i64 q[k].took) := by
  have hl : k < q.length := by rw [h.stslen]; exact hk
  obtain ⟨g, o, e, hb, hc⟩ := h.at_ (by omega)
  refine ⟨hl, g, o, e, hb, ?_, ?_, ?_, ?_, ?_, ?_, ?_, ?_, ?_⟩
  · simpa using hc (k * 9 + 0) _ (sts_at hl 0 (by omega))
  · simpa [Nat.add_assoc] using hc (k * 9 + 1) _ (sts_at hl 1 (by omega))
  · simpa [Nat.add_assoc] using hc (k * 9 + 2) _ (sts_at hl 2 (by omega))
  · simpa [Nat.add_assoc] using hc (k * 9 + 3) _ (sts_at hl 3 (by omega))
  · simpa [Nat.add_assoc] using hc (k * 9 + 4) _ (sts_at hl 4 (by omega))
  · simpa [Nat.add_assoc] using hc (k * 9 + 5) _ (sts_at hl 5 (by omega))
  · simpa [Nat.add_assoc] using hc (k * 9 + 6) _ (sts_at hl 6 (by omega))
  · simpa [Nat.add_assoc] using hc (k * 9 + 7) _ (sts_at hl 7 (by omega))
  · simpa [Nat.add_assoc] using hc (k * 9 + 8) _ (sts_at hl 8 (by omega))

end Go.Proofs.Ytcahadkkjfijfaa
