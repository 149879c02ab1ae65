/- Entries of which some more are known: the row while it is being written. -/
import Derived.Test.YtbfllafbklfcjaaBools
set_option linter.unusedVariables false
set_option linter.unusedSimpArgs false
namespace Go.Proofs.Ytbfllafbklfcjaa
open Go.RowKit

def moreK (ks : List Bool) (q : List En) (k : Nat) : List En := (moreL ks q).take k ++ q.drop k
section
variable {ks : List Bool} {q : List En} {k : Nat} {e : En}
theorem moreK_0 : moreK ks q 0 = q := by simp [moreK]
theorem moreK_len : (moreK ks q k).length = q.length := by simp [moreK, moreL_len]; omega
theorem moreK_at (h : q[k]? = some e) : (moreK ks q k)[k]? = some e := by
  have hk := (List.getElem?_eq_some_iff.1 h).1
  unfold moreK
  rw [List.getElem?_append_right (by rw [List.length_take, moreL_len]; omega), List.length_take, moreL_len, Nat.min_eq_left (by omega), Nat.sub_self, List.getElem?_drop]
  simpa using h
theorem moreK_succ (h : q[k]? = some e) : moreK ks q (k + 1) = (moreK ks q k).set k (if knowB ks k = true then setK e else e) := by
  obtain ⟨hk, he⟩ := List.getElem?_eq_some_iff.1 h
  have hm := moreL_at ks h
  obtain ⟨hk2, he2⟩ := List.getElem?_eq_some_iff.1 hm
  unfold moreK
  rw [List.set_append_right _ _ (by rw [List.length_take, moreL_len]; omega), List.length_take, moreL_len, Nat.min_eq_left (by omega), Nat.sub_self, List.take_succ_eq_append_getElem hk2, he2, show q.drop k = e :: q.drop (k + 1) by rw [List.drop_eq_getElem_cons hk, he]]
  simp
theorem moreK_yes (h : q[k]? = some e) (hb : knowB ks k = true) : (moreK ks q k).set k (setK e) = moreK ks q (k + 1) := by
  rw [moreK_succ h, if_pos hb]
theorem moreK_no (h : q[k]? = some e) (hb : knowB ks k = false) : moreK ks q k = moreK ks q (k + 1) := by
  rw [moreK_succ h, hb, if_neg (by simp)]
  obtain ⟨hk, he⟩ := List.getElem?_eq_some_iff.1 (moreK_at (ks := ks) h)
  rw [← he, List.set_getElem_self]
theorem moreK_all (h : q.length ≤ k) : moreK ks q k = moreL ks q := by
  unfold moreK
  rw [List.take_of_length_le (by rw [moreL_len]; exact h), List.drop_of_length_le h, List.append_nil]
theorem moreL_ok (h : ensOk q) : ensOk (moreL ks q) := fun r hr => by
  obtain ⟨j, hj⟩ := List.mem_iff_getElem?.1 hr
  cases hq : q[j]? with
  | none =>
    have := List.getElem?_eq_none_iff.1 hq
    rw [List.getElem?_eq_none (by rw [moreL_len]; exact this)] at hj
    cases hj
  | some e =>
    rw [moreL_at ks hq] at hj
    injection hj with hj
    subst hj
    have he := h e (List.mem_of_getElem? hq)
    split
    · exact he
    · exact he
theorem moreK_store (h : q[k]? = some e) (hb : knowB ks k = true) : (ens (moreK ks q k)).set (k * 17 + 15) (.bool true) = ens (moreK ks q (k + 1)) := by
  rw [← moreK_yes h hb]
  exact Rows.set1 (f := ens) (moreK_at h) (by decide) rfl
end
end Go.Proofs.Ytbfllafbklfcjaa
