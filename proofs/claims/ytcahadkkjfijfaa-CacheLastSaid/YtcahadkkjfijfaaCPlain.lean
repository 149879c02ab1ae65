/- Caches in plain Lean: which may be, where a line stands, what touching and putting make of the sets. -/
import Derived.Test.YtcahadkkjfijfaaSets
set_option linter.unusedVariables false
set_option linter.unusedSimpArgs false
namespace Go.Proofs.Ytcahadkkjfijfaa

/-- the way at place i of set k, of n sets, may stand there -/
def WayOk (n k : Nat) (set : List Wy) (i : Nat) (v : Wy) : Prop :=
  v.line % 16 = 0 ∧ v.line / 16 % n = k ∧ (v.data.size = 0 ∨ v.data.size = 16) ∧ ∀ j < i, ∀ u, set[j]? = some u → u.line ≠ v.line
def SetOk (n : Nat) (ways : Int) (k : Nat) (set : List Wy) : Prop := (set.length : Int) ≤ ways ∧ ∀ i v, set[i]? = some v → WayOk n k set i v
/-- a cache that may be -/
structure RightP (ways : Int) (C : List (List Wy)) : Prop where
  hn : C.length = 1 ∨ C.length = 2 ∨ C.length = 4
  hw : ways = 1 ∨ ways = 2
  hs : ∀ k s, C[k]? = some s → SetOk C.length ways k s

/-- a line stands at place i of a set -/
structure At (set : List Wy) (line : Nat) (i : Nat) (v : Wy) : Prop where
  is : set[i]? = some v
  line : v.line = line
def NotIn (set : List Wy) (line : Nat) : Prop := ∀ v ∈ set, v.line ≠ line
/-- no two have the same line -/
def Lone (set : List Wy) : Prop := ∀ (i j : Nat) (u v : Wy), set[i]? = some u → set[j]? = some v → u.line = v.line → i = j

theorem SetOk.lone {n : Nat} {ways : Int} {k : Nat} {set : List Wy} (h : SetOk n ways k set) : Lone set := by
  intro i j u v hi hj e
  rcases Nat.lt_trichotomy i j with hl | hl | hl
  · exact absurd e ((h.2 j v hj).2.2.2 i hl u hi)
  · exact hl
  · exact absurd e.symm ((h.2 i u hi).2.2.2 j hl v hj)
theorem at_or_not (set : List Wy) (line : Nat) : NotIn set line ∨ ∃ i v, At set line i v := by
  by_cases h : ∃ v ∈ set, v.line = line
  · obtain ⟨v, hv, hl⟩ := h
    obtain ⟨i, hi, e⟩ := List.mem_iff_getElem.1 hv
    exact .inr ⟨i, v, ⟨by rw [List.getElem?_eq_getElem hi, e], hl⟩⟩
  · exact .inl fun v hv e => h ⟨v, hv, e⟩

/-- a set with the one at a place ahead of all others -/
def frontL (set : List Wy) (i : Nat) (v : Wy) : List Wy := v :: (set.take i ++ set.drop (i + 1))
/-- a set with a way ahead of all others of other lines -/
def firstL (set : List Wy) (v : Wy) : List Wy := v :: set.filter fun x => decide (x.line ≠ v.line)
theorem filter_lone {set : List Wy} (h : Lone set) {line i : Nat} {u : Wy} (ha : At set line i u) : set.filter (fun x => decide (x.line ≠ line)) = set.take i ++ set.drop (i + 1) := by
  have hi := (List.getElem?_eq_some_iff.1 ha.is).1
  have hu := (List.getElem?_eq_some_iff.1 ha.is).2
  conv => lhs; rw [← List.take_append_drop i set, List.drop_eq_getElem_cons hi, List.filter_append, List.filter_cons]
  rw [if_neg (by rw [hu, ha.line]; simp), List.filter_eq_self.2, List.filter_eq_self.2]
  · intro x hx
    obtain ⟨j, hj, e⟩ := List.mem_iff_getElem.1 hx
    rw [List.getElem_drop] at e
    rw [List.length_drop] at hj
    have := h i (i + 1 + j) u x ha.is (by rw [← e]; exact List.getElem?_eq_getElem (by omega))
    simp only [decide_eq_true_eq]
    intro hl
    have := this (ha.line.trans hl.symm)
    omega
  · intro x hx
    obtain ⟨j, hj, e⟩ := List.mem_iff_getElem.1 hx
    rw [List.getElem_take] at e
    rw [List.length_take] at hj
    have := h i j u x ha.is (by rw [← e]; exact List.getElem?_eq_getElem (by omega))
    simp only [decide_eq_true_eq]
    intro hl
    have := this (ha.line.trans hl.symm)
    omega
theorem firstL_lone {set : List Wy} (h : Lone set) {line i : Nat} {u v : Wy} (ha : At set line i u) (hv : v.line = line) : firstL set v = frontL set i v := by
  rw [firstL, frontL, hv, filter_lone h ha]
theorem firstL_new {set : List Wy} {v : Wy} (h : NotIn set v.line) : firstL set v = v :: set := by
  rw [firstL, List.filter_eq_self.2]
  intro x hx
  simpa using h x hx

theorem first_at (set : List Wy) (line : Nat) : NotIn set line ∨ ∃ i v, At set line i v ∧ ∀ j < i, ∀ u, set[j]? = some u → u.line ≠ line := by
  induction set with
  | nil => exact .inl (by intro v hv; cases hv)
  | cons x r ih =>
    by_cases hx : x.line = line
    · exact .inr ⟨0, x, ⟨rfl, hx⟩, fun j hj => absurd hj (by omega)⟩
    · rcases ih with h | ⟨i, v, ha, hf⟩
      · refine .inl fun v hv => ?_
        rcases List.mem_cons.1 hv with rfl | hv
        · exact hx
        · exact h v hv
      · refine .inr ⟨i + 1, v, ⟨by simpa using ha.is, ha.line⟩, fun j hj u hu => ?_⟩
        cases j with
        | zero => simp at hu; rw [← hu]; exact hx
        | succ j => exact hf j (by omega) u (by simpa using hu)

end Go.Proofs.Ytcahadkkjfijfaa
