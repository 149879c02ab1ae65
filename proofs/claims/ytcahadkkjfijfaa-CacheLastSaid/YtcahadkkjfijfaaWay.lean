/- Records of type api.Way: as Lean records; rows of them as lists; what reads as such a row. -/
import Derived.Test.YtcahadkkjfijfaaRes
set_option linter.unusedVariables false
set_option linter.unusedSimpArgs false
namespace Go.Proofs.Ytcahadkkjfijfaa
open Go.RowKit

/-- api.Way -/
structure Wy where
  line : Nat
  dirty : Bool
  data : ByteArray
def Wy.cells (r : Wy) : List Value := [.int .u32 (r.line : Int), .bool r.dirty, .string r.data]
def Wy.val (r : Wy) : Value := .agg #[.int .u32 (r.line : Int), .bool r.dirty, .string r.data]
def wys (q : List Wy) : List Value := q.flatMap Wy.cells
theorem wys_len (q : List Wy) : (wys q).length = q.length * 3 := by
  induction q with
  | nil => rfl
  | cons r q ih =>
    have : wys (r :: q) = r.cells ++ wys q := rfl
    rw [this, List.length_append, ih, List.length_cons]
    simp [Wy.cells]; omega
theorem wys_at {q : List Wy} {k : Nat} (h : k < q.length) (j : Nat) (hj : j < 3) : (wys q)[k * 3 + j]? = (q[k]'h).cells[j]? := by
  induction q generalizing k with
  | nil => simp at h
  | cons r q ih =>
    have e : wys (r :: q) = r.cells ++ wys q := rfl
    have hl : r.cells.length = 3 := rfl
    cases k with
    | zero => rw [e, List.getElem?_append_left (by rw [hl]; omega)]; simp
    | succ k =>
      rw [e, List.getElem?_append_right (by rw [hl]; omega), hl, show (k + 1) * 3 + j - 3 = k * 3 + j by omega, ih (by simpa using h)]
      simp
theorem wys_one (q : List Wy) : ∀ u ∈ wys q, u.oneCell' = true := by
  intro u hu
  simp only [wys, List.mem_flatMap, Wy.cells, List.mem_cons, List.not_mem_nil, or_false] at hu
  obtain ⟨r, _, h⟩ := hu
  rcases h with h | h | h <;> subst h <;> rfl
theorem wys_append (p q : List Wy) : wys (p ++ q) = wys p ++ wys q := by simp [wys]
theorem wys_take (q : List Wy) (k : Nat) : (wys q).take (k * 3) = wys (q.take k) := by
  induction q generalizing k with
  | nil => simp [wys]
  | cons r q ih =>
    have e : wys (r :: q) = r.cells ++ wys q := rfl
    have hl : r.cells.length = 3 := rfl
    cases k with
    | zero => simp [wys]
    | succ k =>
      rw [e, List.take_append, hl, show (k + 1) * 3 - 3 = k * 3 by omega, ih, List.take_succ_cons, List.take_of_length_le (by rw [hl]; omega)]
      rfl
theorem wys_drop (q : List Wy) (k : Nat) : (wys q).drop (k * 3) = wys (q.drop k) := by
  induction q generalizing k with
  | nil => simp [wys]
  | cons r q ih =>
    have e : wys (r :: q) = r.cells ++ wys q := rfl
    have hl : r.cells.length = 3 := rfl
    cases k with
    | zero => simp [wys]
    | succ k =>
      rw [e, List.drop_append, hl, show (k + 1) * 3 - 3 = k * 3 by omega, ih, List.drop_succ_cons, List.drop_of_length_le (by rw [hl]; omega)]
      rfl
theorem Rd.wyslen {w : World} {B n c : Nat} {A : Option Addr} {q : List Wy} (h : Rd w B 3 A n c (wys q)) : q.length = n := by
  have hn := h.len
  rw [wys_len] at hn
  omega

/-- what an element's cells hold -/
theorem Rd.wysat {w : World} {B n c : Nat} {A : Option Addr} {q : List Wy} (h : Rd w B 3 A n c (wys q)) {k : Nat} (hk : k < n) :
    ∃ (hl : k < q.length) (g o : Nat), A = some ⟨g, o, none⟩ ∧ g < B ∧ w.cell? ⟨g, o + k * 3, none⟩ = some (.int .u32 (q[k].line : Int)) ∧ w.cell? ⟨g, o + k * 3 + 1, none⟩ = some (.bool q[k].dirty) ∧ w.cell? ⟨g, o + k * 3 + 2, none⟩ = some (.string q[k].data) := by
  have hl : k < q.length := by rw [h.wyslen]; exact hk
  obtain ⟨g, o, e, hb, hc⟩ := h.at_ (by omega)
  refine ⟨hl, g, o, e, hb, ?_, ?_, ?_⟩
  · simpa using hc (k * 3 + 0) _ (wys_at hl 0 (by omega))
  · simpa [Nat.add_assoc] using hc (k * 3 + 1) _ (wys_at hl 1 (by omega))
  · simpa [Nat.add_assoc] using hc (k * 3 + 2) _ (wys_at hl 2 (by omega))
/-- the zero value's cells -/
def wysZ : List Value := [.int .u32 0, .bool false, .string ⟨#[]⟩]
theorem wysTy : RowTy Try.prog 49 3 := ⟨_, Try.underlying49, rfl, by kernel_rfl⟩
theorem Wy.one (r : Wy) : ∀ u ∈ r.cells, u.oneCell' = true := fun u hu => wys_one [r] u (by simpa [wys] using hu)
/-- an element, whole -/
theorem Rd.wyselem {w : World} {B n c : Nat} {A : Option Addr} {q : List Wy} (h : Rd w B 3 A n c (wys q)) {k : Nat} (hk : k < n) :
    ∃ (hl : k < q.length) (g o : Nat), A = some ⟨g, o, none⟩ ∧ g < B ∧ ∀ j u, (q[k]'hl).cells[j]? = some u → w.cell? ⟨g, o + k * 3 + j, none⟩ = some u := by
  have hl : k < q.length := by rw [h.wyslen]; exact hk
  obtain ⟨g, o, e, hb, hc⟩ := h.at_ (by omega)
  refine ⟨hl, g, o, e, hb, fun j u hu => ?_⟩
  have hj : j < 3 := (List.getElem?_eq_some_iff.1 hu).1
  rw [Nat.add_assoc]
  exact hc _ _ ((wys_at hl j hj).trans hu)

theorem wys_spl (q : List Wy) (k : Nat) (r : Wy) (hk : k < q.length) : spl (wys q) (k * 3) r.cells = wys (q.set k r) := by
  have hl : r.cells.length = 3 := rfl
  rw [spl_eq _ _ _ (by rw [wys_len, hl]; omega), hl, show k * 3 + 3 = (k + 1) * 3 by omega, wys_take, wys_drop, List.set_eq_take_append_cons_drop, if_pos hk, wys_append]
  simp [wys]

end Go.Proofs.Ytcahadkkjfijfaa
