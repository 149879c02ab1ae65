/- Records of type api.Inst: as Lean records; rows of them as lists; what reads as such a row. -/
import Derived.Test.YtbfllafbklfcjaaRes
set_option linter.unusedVariables false
set_option linter.unusedSimpArgs false
namespace Go.Proofs.Ytbfllafbklfcjaa
open Go.RowKit

/-- api.Inst -/
structure Ins where
  op : Int
  rd : Int
  rs1 : Int
  rs2 : Int
  imm : Nat
def Ins.cells (r : Ins) : List Value := [.int .i64 r.op, .int .i64 r.rd, .int .i64 r.rs1, .int .i64 r.rs2, .int .u32 (r.imm : Int)]
def Ins.val (r : Ins) : Value := .agg #[.int .i64 r.op, .int .i64 r.rd, .int .i64 r.rs1, .int .i64 r.rs2, .int .u32 (r.imm : Int)]
def inss (q : List Ins) : List Value := q.flatMap Ins.cells
theorem inss_len (q : List Ins) : (inss q).length = q.length * 5 := by
  induction q with
  | nil => rfl
  | cons r q ih =>
    have : inss (r :: q) = r.cells ++ inss q := rfl
    rw [this, List.length_append, ih, List.length_cons]
    simp [Ins.cells]; omega
theorem inss_at {q : List Ins} {k : Nat} (h : k < q.length) (j : Nat) (hj : j < 5) : (inss q)[k * 5 + j]? = (q[k]'h).cells[j]? := by
  induction q generalizing k with
  | nil => simp at h
  | cons r q ih =>
    have e : inss (r :: q) = r.cells ++ inss q := rfl
    have hl : r.cells.length = 5 := rfl
    cases k with
    | zero => rw [e, List.getElem?_append_left (by rw [hl]; omega)]; simp
    | succ k =>
      rw [e, List.getElem?_append_right (by rw [hl]; omega), hl, show (k + 1) * 5 + j - 5 = k * 5 + j by omega, ih (by simpa using h)]
      simp
theorem inss_one (q : List Ins) : ∀ u ∈ inss q, u.oneCell' = true := by
  intro u hu
  simp only [inss, List.mem_flatMap, Ins.cells, List.mem_cons, List.not_mem_nil, or_false] at hu
  obtain ⟨r, _, h⟩ := hu
  rcases h with h | h | h | h | h <;> subst h <;> rfl
theorem inss_append (p q : List Ins) : inss (p ++ q) = inss p ++ inss q := by simp [inss]
theorem inss_take (q : List Ins) (k : Nat) : (inss q).take (k * 5) = inss (q.take k) := by
  induction q generalizing k with
  | nil => simp [inss]
  | cons r q ih =>
    have e : inss (r :: q) = r.cells ++ inss q := rfl
    have hl : r.cells.length = 5 := rfl
    cases k with
    | zero => simp [inss]
    | succ k =>
      rw [e, List.take_append, hl, show (k + 1) * 5 - 5 = k * 5 by omega, ih, List.take_succ_cons, List.take_of_length_le (by rw [hl]; omega)]
      rfl
theorem inss_drop (q : List Ins) (k : Nat) : (inss q).drop (k * 5) = inss (q.drop k) := by
  induction q generalizing k with
  | nil => simp [inss]
  | cons r q ih =>
    have e : inss (r :: q) = r.cells ++ inss q := rfl
    have hl : r.cells.length = 5 := rfl
    cases k with
    | zero => simp [inss]
    | succ k =>
      rw [e, List.drop_append, hl, show (k + 1) * 5 - 5 = k * 5 by omega, ih, List.drop_succ_cons, List.drop_of_length_le (by rw [hl]; omega)]
      rfl
theorem Rd.insslen {w : World} {B n c : Nat} {A : Option Addr} {q : List Ins} (h : Rd w B 5 A n c (inss q)) : q.length = n := by
  have hn := h.len
  rw [inss_len] at hn
  omega

/-- what an element's cells hold -/
theorem Rd.inssat {w : World} {B n c : Nat} {A : Option Addr} {q : List Ins} (h : Rd w B 5 A n c (inss q)) {k : Nat} (hk : k < n) :
    ∃ (hl : k < q.length) (g o : Nat), A = some ⟨g, o, none⟩ ∧ g < B ∧ w.cell? ⟨g, o + k * 5, none⟩ = some (.int .i64 q[k].op) ∧ w.cell? ⟨g, o + k * 5 + 1, none⟩ = some (.int .i64 q[k].rd) ∧ w.cell? ⟨g, o + k * 5 + 2, none⟩ = some (.int .i64 q[k].rs1) ∧ w.cell? ⟨g, o + k * 5 + 3, none⟩ = some (.int .i64 q[k].rs2) ∧ w.cell? ⟨g, o + k * 5 + 4, none⟩ = some (.int .u32 (q[k].imm : Int)) := by
  have hl : k < q.length := by rw [h.insslen]; exact hk
  obtain ⟨g, o, e, hb, hc⟩ := h.at_ (by omega)
  refine ⟨hl, g, o, e, hb, ?_, ?_, ?_, ?_, ?_⟩
  · simpa using hc (k * 5 + 0) _ (inss_at hl 0 (by omega))
  · simpa [Nat.add_assoc] using hc (k * 5 + 1) _ (inss_at hl 1 (by omega))
  · simpa [Nat.add_assoc] using hc (k * 5 + 2) _ (inss_at hl 2 (by omega))
  · simpa [Nat.add_assoc] using hc (k * 5 + 3) _ (inss_at hl 3 (by omega))
  · simpa [Nat.add_assoc] using hc (k * 5 + 4) _ (inss_at hl 4 (by omega))
/-- the zero value's cells -/
def inssZ : List Value := [.int .i64 0, .int .i64 0, .int .i64 0, .int .i64 0, .int .u32 0]
theorem inssTy : RowTy Try.prog 28 5 := ⟨_, Try.underlying28, rfl, by kernel_rfl⟩
theorem Ins.one (r : Ins) : ∀ u ∈ r.cells, u.oneCell' = true := fun u hu => inss_one [r] u (by simpa [inss] using hu)
/-- an element, whole -/
theorem Rd.insselem {w : World} {B n c : Nat} {A : Option Addr} {q : List Ins} (h : Rd w B 5 A n c (inss q)) {k : Nat} (hk : k < n) :
    ∃ (hl : k < q.length) (g o : Nat), A = some ⟨g, o, none⟩ ∧ g < B ∧ ∀ j u, (q[k]'hl).cells[j]? = some u → w.cell? ⟨g, o + k * 5 + j, none⟩ = some u := by
  have hl : k < q.length := by rw [h.insslen]; exact hk
  obtain ⟨g, o, e, hb, hc⟩ := h.at_ (by omega)
  refine ⟨hl, g, o, e, hb, fun j u hu => ?_⟩
  have hj : j < 5 := (List.getElem?_eq_some_iff.1 hu).1
  rw [Nat.add_assoc]
  exact hc _ _ ((inss_at hl j hj).trans hu)

theorem inss_spl (q : List Ins) (k : Nat) (r : Ins) (hk : k < q.length) : spl (inss q) (k * 5) r.cells = inss (q.set k r) := by
  have hl : r.cells.length = 5 := rfl
  rw [spl_eq _ _ _ (by rw [inss_len, hl]; omega), hl, show k * 5 + 5 = (k + 1) * 5 by omega, inss_take, inss_drop, List.set_eq_take_append_cons_drop, if_pos hk, inss_append]
  simp [inss]

end Go.Proofs.Ytbfllafbklfcjaa
