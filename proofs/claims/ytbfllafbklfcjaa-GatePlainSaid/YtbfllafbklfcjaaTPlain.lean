/- The taint package's law in plain Lean: who writes a register last, roots; what more known entries and one more entry make of them. -/
import Derived.Test.YtbfllafbklfcjaaTaint
set_option linter.unusedVariables false
set_option linter.unusedSimpArgs false
namespace Go.Proofs.Ytbfllafbklfcjaa
open Go.RowKit

def hasRd (op : Int) : Bool := decide (1 ≤ op ∧ op ≤ 4) || decide (11 ≤ op ∧ op ≤ 15) || decide (19 ≤ op ∧ op ≤ 45)
/-- the register that an instruction writes -/
def writesI (i : Ins) : Int := if hasRd i.op = true then i.rd else 0
/-- the last of the first n that writes it -/
def lastW (q : List En) (reg : Int) : Nat → Int
  | 0 => -1
  | n + 1 => match q[n]? with
    | some e => if writesI e.inst = reg then (n : Int) else lastW q reg n
    | none => lastW q reg n
def makerL (q : List En) (i reg : Int) : Int := if reg < 1 ∨ 31 < reg then -1 else lastW q reg (min i q.length).toNat
theorem lastW_ge (q : List En) (reg : Int) : ∀ n, -1 ≤ lastW q reg n
  | 0 => by simp [lastW]
  | n + 1 => by
    have ih := lastW_ge q reg n
    unfold lastW
    split
    · split <;> omega
    · exact ih
theorem lastW_lt (q : List En) (reg : Int) : ∀ n, lastW q reg n < (n : Int)
  | 0 => by simp [lastW]
  | n + 1 => by
    have ih := lastW_lt q reg n
    unfold lastW
    split
    · split <;> omega
    · omega
theorem makerL_ge (q : List En) (i reg : Int) : -1 ≤ makerL q i reg := by
  unfold makerL; split
  · omega
  · exact lastW_ge ..
theorem makerL_lt {q : List En} {i reg : Int} (h : 0 ≤ makerL q i reg) : makerL q i reg < i ∧ makerL q i reg < (q.length : Int) := by
  unfold makerL at h ⊢
  split at h
  · omega
  · rename_i hr
    rw [if_neg hr]
    have := lastW_lt q reg (min i q.length).toNat
    omega
theorem lastW_agree {q q' : List En} {reg : Int} : ∀ {n : Nat}, (∀ j, j < n → (q[j]?.map (·.inst)) = (q'[j]?.map (·.inst))) → lastW q reg n = lastW q' reg n
  | 0, _ => rfl
  | n + 1, h => by
    have ih := lastW_agree (reg := reg) (n := n) fun j hj => h j (by omega)
    have h1 := h n (by omega)
    unfold lastW
    cases hq : q[n]? with
    | none =>
      cases hq' : q'[n]? with
      | none => exact ih
      | some e' => rw [hq, hq'] at h1; simp at h1
    | some e =>
      cases hq' : q'[n]? with
      | none => rw [hq, hq'] at h1; simp at h1
      | some e' =>
        rw [hq, hq'] at h1
        simp at h1
        simp only [h1, ih]
theorem makerL_agree {q q' : List En} {reg : Int} {i : Nat} (h : ∀ j, j < i → (q[j]?.map (·.inst)) = (q'[j]?.map (·.inst))) (h1 : i ≤ q.length) (h2 : i ≤ q'.length) : makerL q i reg = makerL q' i reg := by
  unfold makerL
  have e1 : (min (i : Int) q.length).toNat = i := by omega
  have e2 : (min (i : Int) q'.length).toNat = i := by omega
  rw [e1, e2, lastW_agree h]

/-- what a register hangs on, the roots of those ahead being known -/
def ofR (q : List En) (rs : List Int) (i : Nat) (reg : Int) : Int := if 0 ≤ makerL q i reg then rs[(makerL q i reg).toNat]?.getD (-1) else -1
def rootAt (q : List En) (rs : List Int) (i : Nat) (e : En) : Int :=
  if kindI e.inst.op = 3 then (if frontL q < i then (i : Int) else -1) else max (ofR q rs i e.inst.rs1) (ofR q rs i e.inst.rs2)
def rootsN (q : List En) : Nat → List Int
  | 0 => []
  | n + 1 => rootsN q n ++ [match q[n]? with
    | some e => rootAt q (rootsN q n) n e
    | none => -1]
def rootsL (q : List En) : List Int := rootsN q q.length
theorem rootsN_len (q : List En) : ∀ n, (rootsN q n).length = n
  | 0 => rfl
  | n + 1 => by simp [rootsN, rootsN_len q n]
def rt (q : List En) (n : Nat) : Int := (rootsN q (n + 1))[n]?.getD (-1)
theorem rt_at (q : List En) {m n : Nat} (h : n < m) : (rootsN q m)[n]? = some (rt q n) := by
  induction m with
  | zero => omega
  | succ m ih =>
    rcases Nat.lt_or_ge n m with h1 | h1
    · rw [rootsN, List.getElem?_append_left (by rw [rootsN_len]; exact h1)]; exact ih h1
    · obtain rfl : n = m := by omega
      unfold rt
      rw [rootsN, List.getElem?_append_right (by rw [rootsN_len]; omega), rootsN_len]
      simp
def ofT (q : List En) (i : Nat) (reg : Int) : Int := if 0 ≤ makerL q i reg then rt q (makerL q i reg).toNat else -1
theorem ofR_eq (q : List En) (i : Nat) (reg : Int) : ofR q (rootsN q i) i reg = ofT q i reg := by
  unfold ofR ofT
  split
  · rename_i h
    have := makerL_lt h
    rw [rt_at q (by omega)]
    rfl
  · rfl
theorem rt_eq {q : List En} {n : Nat} {e : En} (h : q[n]? = some e) : rt q n = if kindI e.inst.op = 3 then (if frontL q < n then (n : Int) else -1) else max (ofT q n e.inst.rs1) (ofT q n e.inst.rs2) := by
  unfold rt
  rw [rootsN, List.getElem?_append_right (by rw [rootsN_len]; omega), rootsN_len]
  simp only [Nat.sub_self, List.getElem?_cons_zero, Option.getD_some, h, rootAt, ofR_eq]
theorem rt_snoc {q : List En} {n : Nat} {e : En} (h : q[n]? = some e) : rootsN q (n + 1) = rootsN q n ++ [rt q n] := by
  rw [rootsN, rt_eq h]
  simp only [h, rootAt, ofR_eq]

/-- what a root is -/
theorem rt_props (q : List En) : ∀ n, n < q.length → (-1 ≤ rt q n ∧ rt q n ≤ n) ∧ (0 ≤ rt q n → (frontL q : Int) < rt q n ∧ ∃ e, q[(rt q n).toNat]? = some e ∧ kindI e.inst.op = 3) := by
  intro n
  induction n using Nat.strongRecOn with
  | ind n ih =>
    intro hn
    obtain ⟨e, he⟩ : ∃ e, q[n]? = some e := ⟨_, List.getElem?_eq_getElem hn⟩
    have hof : ∀ reg, (-1 ≤ ofT q n reg ∧ ofT q n reg ≤ n) ∧ (0 ≤ ofT q n reg → (frontL q : Int) < ofT q n reg ∧ ∃ e, q[(ofT q n reg).toNat]? = some e ∧ kindI e.inst.op = 3) := by
      intro reg
      unfold ofT
      split
      · rename_i hk
        obtain ⟨h1, h2⟩ := makerL_lt hk
        obtain ⟨⟨a, b⟩, c⟩ := ih (makerL q n reg).toNat (by omega) (by omega)
        exact ⟨⟨a, by omega⟩, c⟩
      · exact ⟨⟨by omega, by omega⟩, fun h => by omega⟩
    rw [rt_eq he]
    split
    · rename_i h3
      split
      · rename_i hf
        exact ⟨⟨by omega, by omega⟩, fun _ => ⟨by omega, e, by simpa using he, h3⟩⟩
      · exact ⟨⟨by omega, by omega⟩, fun h => by omega⟩
    · obtain ⟨⟨a1, a2⟩, a3⟩ := hof e.inst.rs1
      obtain ⟨⟨b1, b2⟩, b3⟩ := hof e.inst.rs2
      rcases Int.le_total (ofT q n e.inst.rs1) (ofT q n e.inst.rs2) with h | h
      · rw [Int.max_eq_right h]; exact ⟨⟨b1, b2⟩, b3⟩
      · rw [Int.max_eq_left h]; exact ⟨⟨a1, a2⟩, a3⟩
theorem rt_none {q : List En} {n : Nat} (hn : n < q.length) (h : n ≤ frontL q) : rt q n = -1 := by
  obtain ⟨⟨a, b⟩, c⟩ := rt_props q n hn
  by_cases h0 : rt q n < 0
  · omega
  · have := (c (by omega)).1; omega
/-- what is tainted -/
def taintL (q : List En) (i reg : Int) : Bool := decide (0 ≤ makerL q i reg) && decide (0 ≤ rt q (makerL q i reg).toNat)
theorem taint_none {q : List En} {i : Nat} {reg : Int} (h : i ≤ frontL q) : taintL q i reg = false := by
  unfold taintL
  by_cases h0 : 0 ≤ makerL q i reg
  · obtain ⟨h1, h2⟩ := makerL_lt h0
    rw [rt_none (by omega) (by omega)]
    simp
  · simp [h0]
/-- more is known: roots do not come to be -/
theorem rt_mono {q q' : List En} (hl : q'.length = q.length) (hi : ∀ j : Nat, (q[j]?.map (·.inst)) = (q'[j]?.map (·.inst))) (hf : frontL q ≤ frontL q') : ∀ n, n < q.length → 0 ≤ rt q' n → 0 ≤ rt q n := by
  intro n
  induction n using Nat.strongRecOn with
  | ind n ih =>
    intro hn h
    obtain ⟨e, he⟩ : ∃ e, q[n]? = some e := ⟨_, List.getElem?_eq_getElem hn⟩
    obtain ⟨e', he'⟩ : ∃ e, q'[n]? = some e := ⟨_, List.getElem?_eq_getElem (by omega)⟩
    have hin : e.inst = e'.inst := by have := hi n; rw [he, he'] at this; simpa using this
    have hof : ∀ reg, 0 ≤ ofT q' n reg → 0 ≤ ofT q n reg := by
      intro reg
      have hm : makerL q n reg = makerL q' n reg := makerL_agree (fun j _ => hi j) (by omega) (by omega)
      unfold ofT
      rw [hm]
      split
      · rename_i hk
        obtain ⟨h1, h2⟩ := makerL_lt hk
        exact ih _ (by omega) (by omega)
      · exact fun h => h
    rw [rt_eq he'] at h
    rw [rt_eq he, hin]
    split
    · rename_i h3
      rw [if_pos h3] at h
      split at h
      · rw [if_pos (by omega)]; omega
      · omega
    · rename_i h3
      rw [if_neg h3] at h
      have := hof e'.inst.rs1
      have := hof e'.inst.rs2
      omega
theorem taint_mono {q q' : List En} (hl : q'.length = q.length) (hi : ∀ j : Nat, (q[j]?.map (·.inst)) = (q'[j]?.map (·.inst))) (hf : frontL q ≤ frontL q') {i : Nat} (hin : i ≤ q.length) {reg : Int} (h : taintL q i reg = false) : taintL q' i reg = false := by
  have hm : makerL q i reg = makerL q' i reg := makerL_agree (fun j _ => hi j) (by omega) (by omega)
  unfold taintL at h ⊢
  rw [← hm]
  by_cases h0 : 0 ≤ makerL q i reg
  · obtain ⟨h1, h2⟩ := makerL_lt h0
    have := rt_mono hl hi hf (makerL q i reg).toNat (by omega)
    simp only [h0, decide_true, Bool.true_and, decide_eq_false_iff_not, Int.not_le] at h ⊢
    omega
  · simp [h0]
/-- an entry put behind all changes no root of theirs -/
theorem rt_same {q q' : List En} (N : Nat) (h1 : N ≤ q.length) (h2 : N ≤ q'.length) (hi : ∀ j, j < N → (q[j]?.map (·.inst)) = (q'[j]?.map (·.inst))) (hf : ∀ j, j < N → (frontL q < j ↔ frontL q' < j)) : ∀ n, n < N → rt q n = rt q' n := by
  intro n
  induction n using Nat.strongRecOn with
  | ind n ih =>
    intro hn
    obtain ⟨e, he⟩ : ∃ e, q[n]? = some e := ⟨_, List.getElem?_eq_getElem (by omega)⟩
    obtain ⟨e', he'⟩ : ∃ e, q'[n]? = some e := ⟨_, List.getElem?_eq_getElem (by omega)⟩
    have hin : e.inst = e'.inst := by have := hi n hn; rw [he, he'] at this; simpa using this
    have hof : ∀ reg, ofT q n reg = ofT q' n reg := by
      intro reg
      have hm : makerL q n reg = makerL q' n reg := makerL_agree (fun j hj => hi j (by omega)) (by omega) (by omega)
      unfold ofT
      rw [hm]
      split
      · rename_i hk
        obtain ⟨h1, h2⟩ := makerL_lt hk
        exact ih _ (by omega) (by omega)
      · rfl
    rw [rt_eq he, rt_eq he', hin, hof, hof]
    have := hf n hn
    by_cases h : frontL q < n
    · rw [if_pos h, if_pos (this.1 h)]
    · rw [if_neg h, if_neg (fun k => h (this.2 k))]
theorem rootsN_same {q q' : List En} (N : Nat) (h : ∀ n, n < N → rt q n = rt q' n) (h1 : N ≤ q.length) (h2 : N ≤ q'.length) : rootsN q N = rootsN q' N := by
  apply List.ext_getElem?
  intro n
  by_cases hn : n < N
  · rw [rt_at q hn, rt_at q' hn, h n hn]
  · rw [List.getElem?_eq_none (by rw [rootsN_len]; omega), List.getElem?_eq_none (by rw [rootsN_len]; omega)]
theorem frontL_snoc (q : List En) (e : En) : frontL (q ++ [e]) = if frontL q = q.length then (if safeB e then q.length + 1 else q.length) else frontL q := by
  induction q with
  | nil => simp [frontL]
  | cons a r ih =>
    rw [List.cons_append]
    have hle := frontL_le r
    by_cases ha : safeB a = true
    · rw [frontL, if_pos ha, ih, frontL, if_pos ha]
      simp only [List.length_cons]
      by_cases h : frontL r = r.length
      · have h' : frontL r + 1 = r.length + 1 := by rw [h]
        simp only [h, if_true]
        split <;> rfl
      · have h' : ¬ (frontL r + 1 = r.length + 1) := fun e => h (by omega)
        simp only [if_neg h, if_neg h']
    · rw [frontL, if_neg ha, frontL, if_neg ha]
      simp
theorem roots_snoc (q : List En) (e : En) : (rootsL (q ++ [e])).take q.length = rootsL q ∧ (rootsL (q ++ [e])).length = q.length + 1 := by
  have hlen : (q ++ [e]).length = q.length + 1 := by simp
  have hsame := rt_same (q := q ++ [e]) (q' := q) q.length (by omega) (Nat.le_refl _) (fun j hj => by rw [List.getElem?_append_left hj]) (fun j hj => by
    rw [frontL_snoc]
    have := frontL_le q
    split
    · split <;> omega
    · exact Iff.rfl)
  refine ⟨?_, by rw [rootsL, rootsN_len, hlen]⟩
  have h1 := rootsN_same q.length hsame (by omega) (Nat.le_refl _)
  rw [rootsL, hlen, rootsN, List.take_append_of_le_length (by rw [rootsN_len]; exact Nat.le_refl _), List.take_of_length_le (by rw [rootsN_len]; exact Nat.le_refl _), h1]
  rfl
/-- entries of which some more are known -/
def knowB (ks : List Bool) (i : Nat) : Bool := ks[i]?.getD false
def setK (e : En) : En := { e with known := true }
def moreL (ks : List Bool) (q : List En) : List En := q.mapIdx fun i e => if knowB ks i = true then setK e else e
theorem moreL_at (ks : List Bool) {q : List En} {j : Nat} {e : En} (h : q[j]? = some e) : (moreL ks q)[j]? = some (if knowB ks j = true then setK e else e) := by
  unfold moreL
  rw [List.getElem?_mapIdx, h]
  rfl
theorem moreL_len (ks : List Bool) (q : List En) : (moreL ks q).length = q.length := by simp [moreL]
theorem moreL_inst (ks : List Bool) (q : List En) (j : Nat) : (q[j]?.map (·.inst)) = ((moreL ks q)[j]?.map (·.inst)) := by
  cases h : q[j]? with
  | none => rw [List.getElem?_eq_none (by rw [moreL_len]; exact List.getElem?_eq_none_iff.1 h)]
  | some e => rw [moreL_at ks h]; simp only [Option.map_some]; split <;> rfl
theorem safe_setK {e : En} (h : safeB e = true) : safeB (setK e) = true := by
  unfold safeB at h ⊢
  unfold setK
  simp only at h ⊢
  split at h
  · rename_i h0
    rw [if_pos h0]
    split at h
    · cases h
    · rename_i h6; rw [if_neg h6]; split <;> rfl
  · cases h
theorem frontL_mono {q q' : List En} (hl : q'.length = q.length) (h : ∀ (j : Nat) e e', q[j]? = some e → q'[j]? = some e' → safeB e = true → safeB e' = true) : frontL q ≤ frontL q' := by
  rcases Nat.lt_or_ge (frontL q') (frontL q) with hlt | hge
  · obtain ⟨h1, h2⟩ := frontL_safe hlt
    have h3 : frontL q' < q'.length := by omega
    have h4 := frontL_unsafe h3
    have := h _ _ _ (List.getElem?_eq_getElem h1) (List.getElem?_eq_getElem h3) h2
    rw [h4] at this
    cases this
  · exact hge
theorem frontL_more (ks : List Bool) (q : List En) : frontL q ≤ frontL (moreL ks q) :=
  frontL_mono (moreL_len ks q) fun j e e' h h' hs => by
    rw [moreL_at ks h] at h'
    injection h' with h'
    subst h'
    split
    · exact safe_setK hs
    · exact hs
end Go.Proofs.Ytbfllafbklfcjaa
