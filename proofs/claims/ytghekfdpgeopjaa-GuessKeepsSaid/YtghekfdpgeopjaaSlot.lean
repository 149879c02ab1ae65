/- Records of type api.Slot: as Lean records; rows of them as lists; what reads as such a row. -/
import Derived.Test.YtghekfdpgeopjaaRes
set_option linter.unusedVariables false
set_option linter.unusedSimpArgs false
namespace Go.Proofs.Ytghekfdpgeopjaa
open Go.RowKit

/-- api.Slot -/
structure Sl where
  pc : Nat
  next : Nat
def Sl.cells (r : Sl) : List Value := [.int .u32 (r.pc : Int), .int .u32 (r.next : Int)]
def Sl.val (r : Sl) : Value := .agg #[.int .u32 (r.pc : Int), .int .u32 (r.next : Int)]
def sls (q : List Sl) : List Value := q.flatMap Sl.cells
theorem sls_len (q : List Sl) : (sls q).length = q.length * 2 := by
  induction q with
  | nil => rfl
  | cons r q ih =>
    have : sls (r :: q) = r.cells ++ sls q := rfl
    rw [this, List.length_append, ih, List.length_cons]
    simp [Sl.cells]; omega
theorem sls_at {q : List Sl} {k : Nat} (h : k < q.length) (j : Nat) (hj : j < 2) : (sls q)[k * 2 + j]? = (q[k]'h).cells[j]? := by
  induction q generalizing k with
  | nil => simp at h
  | cons r q ih =>
    have e : sls (r :: q) = r.cells ++ sls q := rfl
    have hl : r.cells.length = 2 := rfl
    cases k with
    | zero => rw [e, List.getElem?_append_left (by rw [hl]; omega)]; simp
    | succ k =>
      rw [e, List.getElem?_append_right (by rw [hl]; omega), hl, show (k + 1) * 2 + j - 2 = k * 2 + j by omega, ih (by simpa using h)]
      simp
theorem sls_one (q : List Sl) : ∀ u ∈ sls q, u.oneCell' = true := by
  intro u hu
  simp only [sls, List.mem_flatMap, Sl.cells, List.mem_cons, List.not_mem_nil, or_false] at hu
  obtain ⟨r, _, h⟩ := hu
  rcases h with h | h <;> subst h <;> rfl
theorem sls_append (p q : List Sl) : sls (p ++ q) = sls p ++ sls q := by simp [sls]
theorem sls_take (q : List Sl) (k : Nat) : (sls q).take (k * 2) = sls (q.take k) := by
  induction q generalizing k with
  | nil => simp [sls]
  | cons r q ih =>
    have e : sls (r :: q) = r.cells ++ sls q := rfl
    have hl : r.cells.length = 2 := rfl
    cases k with
    | zero => simp [sls]
    | succ k =>
      rw [e, List.take_append, hl, show (k + 1) * 2 - 2 = k * 2 by omega, ih, List.take_succ_cons, List.take_of_length_le (by rw [hl]; omega)]
      rfl
theorem sls_drop (q : List Sl) (k : Nat) : (sls q).drop (k * 2) = sls (q.drop k) := by
  induction q generalizing k with
  | nil => simp [sls]
  | cons r q ih =>
    have e : sls (r :: q) = r.cells ++ sls q := rfl
    have hl : r.cells.length = 2 := rfl
    cases k with
    | zero => simp [sls]
    | succ k =>
      rw [e, List.drop_append, hl, show (k + 1) * 2 - 2 = k * 2 by omega, ih, List.drop_succ_cons, List.drop_of_length_le (by rw [hl]; omega)]
      rfl
theorem Rd.slslen {w : World} {B n c : Nat} {A : Option Addr} {q : List Sl} (h : Rd w B 2 A n c (sls q)) : q.length = n := by
  have hn := h.len
  rw [sls_len] at hn
  omega

/-- what an element's cells hold -/
theorem Rd.slsat {w : World} {B n c : Nat} {A : Option Addr} {q : List Sl} (h : Rd w B 2 A n c (sls q)) {k : Nat} (hk : k < n) :
    ∃ (hl : k < q.length) (g o : Nat), A = some ⟨g, o, none⟩ ∧ g < B ∧ w.cell? ⟨g, o + k * 2, none⟩ = some (.int .u32 (q[k].pc : Int)) ∧ w.cell? ⟨g, o + k * 2 + 1, none⟩ = some (.int .u32 (q[k].next : Int)) := by
  have hl : k < q.length := by rw [h.slslen]; exact hk
  obtain ⟨g, o, e, hb, hc⟩ := h.at_ (by omega)
  refine ⟨hl, g, o, e, hb, ?_, ?_⟩
  · simpa using hc (k * 2 + 0) _ (sls_at hl 0 (by omega))
  · simpa [Nat.add_assoc] using hc (k * 2 + 1) _ (sls_at hl 1 (by omega))
/-- the zero value's cells -/
def slsZ : List Value := [.int .u32 0, .int .u32 0]
theorem slsTy : RowTy Try.prog 41 2 := ⟨_, Try.underlying41, rfl, by kernel_rfl⟩
theorem Sl.one (r : Sl) : ∀ u ∈ r.cells, u.oneCell' = true := fun u hu => sls_one [r] u (by simpa [sls] using hu)
/-- an element, whole -/
theorem Rd.slselem {w : World} {B n c : Nat} {A : Option Addr} {q : List Sl} (h : Rd w B 2 A n c (sls q)) {k : Nat} (hk : k < n) :
    ∃ (hl : k < q.length) (g o : Nat), A = some ⟨g, o, none⟩ ∧ g < B ∧ ∀ j u, (q[k]'hl).cells[j]? = some u → w.cell? ⟨g, o + k * 2 + j, none⟩ = some u := by
  have hl : k < q.length := by rw [h.slslen]; exact hk
  obtain ⟨g, o, e, hb, hc⟩ := h.at_ (by omega)
  refine ⟨hl, g, o, e, hb, fun j u hu => ?_⟩
  have hj : j < 2 := (List.getElem?_eq_some_iff.1 hu).1
  rw [Nat.add_assoc]
  exact hc _ _ ((sls_at hl j hj).trans hu)

theorem sls_spl (q : List Sl) (k : Nat) (r : Sl) (hk : k < q.length) : spl (sls q) (k * 2) r.cells = sls (q.set k r) := by
  have hl : r.cells.length = 2 := rfl
  rw [spl_eq _ _ _ (by rw [sls_len, hl]; omega), hl, show k * 2 + 2 = (k + 1) * 2 by omega, sls_take, sls_drop, List.set_eq_take_append_cons_drop, if_pos hk, sls_append]
  simp [sls]

end Go.Proofs.Ytghekfdpgeopjaa
