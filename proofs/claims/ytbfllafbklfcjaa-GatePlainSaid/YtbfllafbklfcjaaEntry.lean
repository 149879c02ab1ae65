/- Records of type api.Entry: as Lean records; rows of them as lists; what reads as such a row. -/
import Derived.Test.YtbfllafbklfcjaaRes
import Derived.Test.YtbfllafbklfcjaaInst
set_option linter.unusedVariables false
set_option linter.unusedSimpArgs false
namespace Go.Proofs.Ytbfllafbklfcjaa
open Go.RowKit

/-- api.Entry -/
structure En where
  no : Int
  pc : Nat
  inst : Ins
  guess : Nat
  is : Int
  left : Int
  value : Nat
  next : Nat
  addr : Nat
  halt : Int
  took : Int
  known : Bool
  filled : Bool
def En.cells (r : En) : List Value := [.int .i64 r.no, .int .u32 (r.pc : Int), .int .i64 r.inst.op, .int .i64 r.inst.rd, .int .i64 r.inst.rs1, .int .i64 r.inst.rs2, .int .u32 (r.inst.imm : Int), .int .u32 (r.guess : Int), .int .i64 r.is, .int .i64 r.left, .int .u32 (r.value : Int), .int .u32 (r.next : Int), .int .u32 (r.addr : Int), .int .i64 r.halt, .int .i64 r.took, .bool r.known, .bool r.filled]
def En.val (r : En) : Value := .agg #[.int .i64 r.no, .int .u32 (r.pc : Int), .int .i64 r.inst.op, .int .i64 r.inst.rd, .int .i64 r.inst.rs1, .int .i64 r.inst.rs2, .int .u32 (r.inst.imm : Int), .int .u32 (r.guess : Int), .int .i64 r.is, .int .i64 r.left, .int .u32 (r.value : Int), .int .u32 (r.next : Int), .int .u32 (r.addr : Int), .int .i64 r.halt, .int .i64 r.took, .bool r.known, .bool r.filled]
def ens (q : List En) : List Value := q.flatMap En.cells
theorem ens_len (q : List En) : (ens q).length = q.length * 17 := by
  induction q with
  | nil => rfl
  | cons r q ih =>
    have : ens (r :: q) = r.cells ++ ens q := rfl
    rw [this, List.length_append, ih, List.length_cons]
    simp [En.cells]; omega
theorem ens_at {q : List En} {k : Nat} (h : k < q.length) (j : Nat) (hj : j < 17) : (ens q)[k * 17 + j]? = (q[k]'h).cells[j]? := by
  induction q generalizing k with
  | nil => simp at h
  | cons r q ih =>
    have e : ens (r :: q) = r.cells ++ ens q := rfl
    have hl : r.cells.length = 17 := rfl
    cases k with
    | zero => rw [e, List.getElem?_append_left (by rw [hl]; omega)]; simp
    | succ k =>
      rw [e, List.getElem?_append_right (by rw [hl]; omega), hl, show (k + 1) * 17 + j - 17 = k * 17 + j by omega, ih (by simpa using h)]
      simp
theorem ens_one (q : List En) : ∀ u ∈ ens q, u.oneCell' = true := by
  intro u hu
  simp only [ens, List.mem_flatMap, En.cells, List.mem_cons, List.not_mem_nil, or_false] at hu
  obtain ⟨r, _, h⟩ := hu
  rcases h with h | h | h | h | h | h | h | h | h | h | h | h | h | h | h | h | h <;> subst h <;> rfl
theorem ens_append (p q : List En) : ens (p ++ q) = ens p ++ ens q := by simp [ens]
theorem ens_take (q : List En) (k : Nat) : (ens q).take (k * 17) = ens (q.take k) := by
  induction q generalizing k with
  | nil => simp [ens]
  | cons r q ih =>
    have e : ens (r :: q) = r.cells ++ ens q := rfl
    have hl : r.cells.length = 17 := rfl
    cases k with
    | zero => simp [ens]
    | succ k =>
      rw [e, List.take_append, hl, show (k + 1) * 17 - 17 = k * 17 by omega, ih, List.take_succ_cons, List.take_of_length_le (by rw [hl]; omega)]
      rfl
theorem ens_drop (q : List En) (k : Nat) : (ens q).drop (k * 17) = ens (q.drop k) := by
  induction q generalizing k with
  | nil => simp [ens]
  | cons r q ih =>
    have e : ens (r :: q) = r.cells ++ ens q := rfl
    have hl : r.cells.length = 17 := rfl
    cases k with
    | zero => simp [ens]
    | succ k =>
      rw [e, List.drop_append, hl, show (k + 1) * 17 - 17 = k * 17 by omega, ih, List.drop_succ_cons, List.drop_of_length_le (by rw [hl]; omega)]
      rfl
theorem Rd.enslen {w : World} {B n c : Nat} {A : Option Addr} {q : List En} (h : Rd w B 17 A n c (ens q)) : q.length = n := by
  have hn := h.len
  rw [ens_len] at hn
  omega

/-- what an element's cells hold -/
theorem Rd.ensat {w : World} {B n c : Nat} {A : Option Addr} {q : List En} (h : Rd w B 17 A n c (ens q)) {k : Nat} (hk : k < n) :
    ∃ (hl : k < q.length) (g o : Nat), A = some ⟨g, o, none⟩ ∧ g < B ∧ w.cell? ⟨g, o + k * 17, none⟩ = some (.int .i64 q[k].no) ∧ w.cell? ⟨g, o + k * 17 + 1, none⟩ = some (.int .u32 (q[k].pc : Int)) ∧ w.cell? ⟨g, o + k * 17 + 2, none⟩ = some (.int .i64 q[k].inst.op) ∧ w.cell? ⟨g, o + k * 17 + 3, none⟩ = some (.int .i64 q[k].inst.rd) ∧ w.cell? ⟨g, o + k * 17 + 4, none⟩ = some (.int .i64 q[k].inst.rs1) ∧ w.cell? ⟨g, o + k * 17 + 5, none⟩ = some (.int .i64 q[k].inst.rs2) ∧ w.cell? ⟨g, o + k * 17 + 6, none⟩ = some (.int .u32 (q[k].inst.imm : Int)) ∧ w.cell? ⟨g, o + k * 17 + 7, none⟩ = some (.int .u32 (q[k].guess : Int)) ∧ w.cell? ⟨g, o + k * 17 + 8, none⟩ = some (.int .i64 q[k].is) ∧ w.cell? ⟨g, o + k * 17 + 9, none⟩ = some (.int .i64 q[k].left) ∧ w.cell? ⟨g, o + k * 17 + 10, none⟩ = some (.int .u32 (q[k].value : Int)) ∧ w.cell? ⟨g, o + k * 17 + 11, none⟩ = some (.int .u32 (q[k].next : Int)) ∧ w.cell? ⟨g, o + k * 17 + 12, none⟩ = some (.int .u32 (q[k].addr : Int)) ∧ w.cell? ⟨g, o + k * 17 + 13, none⟩ = some (.int .i64 q[k].halt) ∧ w.cell? ⟨g, o + k * 17 + 14, none⟩ = some (.int .i64 q[k].took) ∧ w.cell? ⟨g, o + k * 17 + 15, none⟩ = some (.bool q[k].known) ∧ w.cell? ⟨g, o + k * 17 + 16, none⟩ = some (.bool q[k].filled) := by
  have hl : k < q.length := by rw [h.enslen]; exact hk
  obtain ⟨g, o, e, hb, hc⟩ := h.at_ (by omega)
  refine ⟨hl, g, o, e, hb, ?_, ?_, ?_, ?_, ?_, ?_, ?_, ?_, ?_, ?_, ?_, ?_, ?_, ?_, ?_, ?_, ?_⟩
  · simpa using hc (k * 17 + 0) _ (ens_at hl 0 (by omega))
  · simpa [Nat.add_assoc] using hc (k * 17 + 1) _ (ens_at hl 1 (by omega))
  · simpa [Nat.add_assoc] using hc (k * 17 + 2) _ (ens_at hl 2 (by omega))
  · simpa [Nat.add_assoc] using hc (k * 17 + 3) _ (ens_at hl 3 (by omega))
  · simpa [Nat.add_assoc] using hc (k * 17 + 4) _ (ens_at hl 4 (by omega))
  · simpa [Nat.add_assoc] using hc (k * 17 + 5) _ (ens_at hl 5 (by omega))
  · simpa [Nat.add_assoc] using hc (k * 17 + 6) _ (ens_at hl 6 (by omega))
  · simpa [Nat.add_assoc] using hc (k * 17 + 7) _ (ens_at hl 7 (by omega))
  · simpa [Nat.add_assoc] using hc (k * 17 + 8) _ (ens_at hl 8 (by omega))
  · simpa [Nat.add_assoc] using hc (k * 17 + 9) _ (ens_at hl 9 (by omega))
  · simpa [Nat.add_assoc] using hc (k * 17 + 10) _ (ens_at hl 10 (by omega))
  · simpa [Nat.add_assoc] using hc (k * 17 + 11) _ (ens_at hl 11 (by omega))
  · simpa [Nat.add_assoc] using hc (k * 17 + 12) _ (ens_at hl 12 (by omega))
  · simpa [Nat.add_assoc] using hc (k * 17 + 13) _ (ens_at hl 13 (by omega))
  · simpa [Nat.add_assoc] using hc (k * 17 + 14) _ (ens_at hl 14 (by omega))
  · simpa [Nat.add_assoc] using hc (k * 17 + 15) _ (ens_at hl 15 (by omega))
  · simpa [Nat.add_assoc] using hc (k * 17 + 16) _ (ens_at hl 16 (by omega))
/-- the zero value's cells -/
def ensZ : List Value := [.int .i64 0, .int .u32 0, .int .i64 0, .int .i64 0, .int .i64 0, .int .i64 0, .int .u32 0, .int .u32 0, .int .i64 0, .int .i64 0, .int .u32 0, .int .u32 0, .int .u32 0, .int .i64 0, .int .i64 0, .bool false, .bool false]
theorem ensTy : RowTy Try.prog 30 17 := ⟨_, Try.underlying30, rfl, by kernel_rfl⟩
theorem En.one (r : En) : ∀ u ∈ r.cells, u.oneCell' = true := fun u hu => ens_one [r] u (by simpa [ens] using hu)
/-- an element, whole -/
theorem Rd.enselem {w : World} {B n c : Nat} {A : Option Addr} {q : List En} (h : Rd w B 17 A n c (ens q)) {k : Nat} (hk : k < n) :
    ∃ (hl : k < q.length) (g o : Nat), A = some ⟨g, o, none⟩ ∧ g < B ∧ ∀ j u, (q[k]'hl).cells[j]? = some u → w.cell? ⟨g, o + k * 17 + j, none⟩ = some u := by
  have hl : k < q.length := by rw [h.enslen]; exact hk
  obtain ⟨g, o, e, hb, hc⟩ := h.at_ (by omega)
  refine ⟨hl, g, o, e, hb, fun j u hu => ?_⟩
  have hj : j < 17 := (List.getElem?_eq_some_iff.1 hu).1
  rw [Nat.add_assoc]
  exact hc _ _ ((ens_at hl j hj).trans hu)

theorem ens_spl (q : List En) (k : Nat) (r : En) (hk : k < q.length) : spl (ens q) (k * 17) r.cells = ens (q.set k r) := by
  have hl : r.cells.length = 17 := rfl
  rw [spl_eq _ _ _ (by rw [ens_len, hl]; omega), hl, show k * 17 + 17 = (k + 1) * 17 by omega, ens_take, ens_drop, List.set_eq_take_append_cons_drop, if_pos hk, ens_append]
  simp [ens]

end Go.Proofs.Ytbfllafbklfcjaa
