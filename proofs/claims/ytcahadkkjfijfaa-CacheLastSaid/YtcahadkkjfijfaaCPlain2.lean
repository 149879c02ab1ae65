/- Caches in plain Lean: what may be still may be behind Touch and Put; what stands where. -/
import Derived.Test.YtcahadkkjfijfaaCAny
set_option linter.unusedVariables false
set_option linter.unusedSimpArgs false
namespace Go.Proofs.Ytcahadkkjfijfaa

def Way1 (n k : Nat) (v : Wy) : Prop := v.line % 16 = 0 ∧ v.line / 16 % n = k ∧ (v.data.size = 0 ∨ v.data.size = 16)
theorem setOk_iff {n : Nat} {ways : Int} {k : Nat} {ws : List Wy} : SetOk n ways k ws ↔ (ws.length : Int) ≤ ways ∧ (∀ v ∈ ws, Way1 n k v) ∧ (ws.map Wy.line).Nodup := by
  constructor
  · rintro ⟨h1, h2⟩
    refine ⟨h1, fun v hv => ?_, ?_⟩
    · obtain ⟨i, hi⟩ := List.mem_iff_getElem?.1 hv
      obtain ⟨a, b, c, _⟩ := h2 i v hi
      exact ⟨a, b, c⟩
    · rw [List.nodup_iff_pairwise_ne, List.pairwise_map, List.pairwise_iff_getElem]
      intro i j hi hj hij
      exact (h2 j _ (List.getElem?_eq_getElem hj)).2.2.2 i hij _ (List.getElem?_eq_getElem hi)
  · rintro ⟨h1, h2, h3⟩
    refine ⟨h1, fun i v hv => ?_⟩
    obtain ⟨a, b, c⟩ := h2 v (List.mem_of_getElem? hv)
    refine ⟨a, b, c, fun j hj u hu => ?_⟩
    rw [List.nodup_iff_pairwise_ne, List.pairwise_map, List.pairwise_iff_getElem] at h3
    obtain ⟨hi, e1⟩ := List.getElem?_eq_some_iff.1 hv
    obtain ⟨hj', e2⟩ := List.getElem?_eq_some_iff.1 hu
    have := h3 j i hj' hi hj
    rwa [e1, e2] at this
theorem split_at {ws : List Wy} {i : Nat} {v : Wy} (h : ws[i]? = some v) : ws = ws.take i ++ v :: ws.drop (i + 1) := by
  obtain ⟨hl, e⟩ := List.getElem?_eq_some_iff.1 h
  conv => lhs; rw [← List.take_append_drop i ws, List.drop_eq_getElem_cons hl, e]
theorem frontL_ok {n : Nat} {ways : Int} {k : Nat} {ws : List Wy} (h : SetOk n ways k ws) {i : Nat} {v u : Wy} (hv : ws[i]? = some v) (hl : u.line = v.line) (hd : u.data.size = 0 ∨ u.data.size = 16) : SetOk n ways k (frontL ws i u) := by
  rw [setOk_iff] at h ⊢
  obtain ⟨h1, h2, h3⟩ := h
  have e := split_at hv
  have hp : (ws.map Wy.line).Perm ((frontL ws i u).map Wy.line) := by
    conv => lhs; rw [e]
    simp only [frontL, List.map_cons, List.map_append, hl]
    exact List.perm_middle
  refine ⟨?_, fun x hx => ?_, hp.nodup_iff.1 h3⟩
  · have := hp.length_eq
    rw [List.length_map, List.length_map] at this
    omega
  · rcases List.mem_cons.1 hx with rfl | hx
    · obtain ⟨a, b, _⟩ := h2 v (List.mem_of_getElem? hv)
      exact ⟨by rw [hl]; exact a, by rw [hl]; exact b, hd⟩
    · refine h2 x ?_
      rcases List.mem_append.1 hx with h | h
      · exact List.mem_of_mem_take h
      · exact List.mem_of_mem_drop h
theorem cons_ok {n : Nat} {ways : Int} {k : Nat} {ws : List Wy} (h : SetOk n ways k ws) (hlen : (ws.length : Int) + 1 ≤ ways) {u : Wy} (hu : Way1 n k u) (hn : NotIn ws u.line) : SetOk n ways k (u :: ws) := by
  rw [setOk_iff] at h ⊢
  obtain ⟨h1, h2, h3⟩ := h
  refine ⟨by rw [List.length_cons]; omega, fun x hx => ?_, ?_⟩
  · rcases List.mem_cons.1 hx with rfl | hx
    · exact hu
    · exact h2 x hx
  · rw [List.map_cons, List.nodup_cons]
    refine ⟨fun hm => ?_, h3⟩
    obtain ⟨v, hv, e⟩ := List.mem_map.1 hm
    exact hn v hv e
theorem take_ok {n : Nat} {ways : Int} {k : Nat} {ws : List Wy} (h : SetOk n ways k ws) (l : Nat) : SetOk n ways k (ws.take l) := by
  refine ⟨by have := h.1; rw [List.length_take]; omega, fun i v hv => ?_⟩
  have hi : i < l := by
    have := (List.getElem?_eq_some_iff.1 hv).1
    rw [List.length_take] at this; omega
  rw [List.getElem?_take_of_lt hi] at hv
  obtain ⟨a, b, c, d⟩ := h.2 i v hv
  exact ⟨a, b, c, fun j hj u hu => d j hj u (by rwa [List.getElem?_take_of_lt (by omega)] at hu)⟩
theorem RightP.set_ {ways : Int} {C : List (List Wy)} (h : RightP ways C) {k : Nat} {ws : List Wy} (hw : SetOk C.length ways k ws) : RightP ways (C.set k ws) := by
  refine ⟨by rw [List.length_set]; exact h.hn, h.hw, fun j s hs => ?_⟩
  rw [List.length_set]
  by_cases hj : k = j
  · subst hj
    have hl : k < C.length := by have := (List.getElem?_eq_some_iff.1 hs).1; rwa [List.length_set] at this
    rw [List.getElem?_set_self hl] at hs
    injection hs with hs
    rw [← hs]; exact hw
  · rw [List.getElem?_set_ne hj] at hs
    exact h.hs j s hs
theorem trimD_size (d : ByteArray) : (trimD d).size = 0 ∨ (trimD d).size = 16 := by
  unfold trimD
  split
  · exact .inr (by assumption)
  · exact .inl rfl
theorem new_way {ways : Int} {C : List (List Wy)} {x k i : Nat} {b : Bool} (h : FindR ways C x k i b) (hR : RightP ways C) (d : Bool) (D : ByteArray) (hD : D.size = 0 ∨ D.size = 16) : Way1 C.length k ⟨x - x % 16, d, D⟩ :=
  ⟨by show (x - x % 16) % 16 = 0; omega, by rw [← (h.set_ hR).1]; show (x - x % 16) / 16 % _ = _; congr 1; omega, hD⟩
theorem FindR.notIn {ways : Int} {C : List (List Wy)} {x k i : Nat} (h : FindR ways C x k i false) (hR : RightP ways C) {ws : List Wy} (hw : C[k]? = some ws) : NotIn ws (x - x % 16) := by
  obtain ⟨_, ws', hw', _, hs⟩ := h.set_ hR
  rw [hw] at hw'; injection hw' with hw'; subst hw'
  rcases hs with ⟨hb, _⟩ | ⟨_, _, h⟩
  · cases hb
  · exact h
theorem FindR.size {ways : Int} {C : List (List Wy)} {x k i : Nat} (h : FindR ways C x k i true) {ws : List Wy} {v : Wy} (hw : C[k]? = some ws) (hv : ws[i]? = some v) : v.data.size = 0 ∨ v.data.size = 16 := ((h.at_.1.hs k ws hw).2 i v hv).2.2.1
theorem TouchR.right {ways : Int} {C C' : List (List Wy)} {x : Nat} (h : TouchR ways C x C') (hR : RightP ways C) : RightP ways C' := by
  cases h with
  | no k i h he => subst he; exact hR
  | yes k i h ws v hw hv he =>
    subst he
    exact hR.set_ (frontL_ok (hR.hs k ws hw) hv rfl (h.size hw hv))
theorem PutR.right {ways : Int} {C C' : List (List Wy)} {x : Nat} {data : ByteArray} {dirty : Bool} {gone : Wy} {went : Bool} (h : PutR ways C x data dirty C' gone went) (hR : RightP ways C) : RightP ways C' := by
  cases h with
  | no h he hg hb => subst he; exact hR
  | hit k i h ws v hw hv he hg hb =>
    subst he
    refine hR.set_ (frontL_ok (hR.hs k ws hw) hv rfl ?_)
    dsimp only
    split
    · exact .inr (by assumption)
    · exact h.size hw hv
  | room k i _ h ws hw hl he hg hb =>
    subst he
    exact hR.set_ (cons_ok (hR.hs k ws hw) (by omega) (new_way h hR dirty _ (trimD_size data)) (h.notIn hR hw))
  | full k i _ h ws hw hl l hl1 hgv he hb =>
    subst he
    exact hR.set_ (cons_ok (take_ok (hR.hs k ws hw) l) (by rw [List.length_take]; omega) (new_way h hR dirty _ (trimD_size data)) (notIn_take (h.notIn hR hw)))
/-- a line that stands first in its set is found there -/
theorem find_first {ways : Int} {C : List (List Wy)} (hR : RightP ways C) {x k : Nat} {v : Wy} {r : List Wy} (hk : x / 16 % C.length = k) (hw : C[k]? = some (v :: r)) (hv : v.line = x - x % 16) : FindR ways C x k 0 true :=
  .yes hR hk _ hw (.inl ⟨rfl, v, ⟨rfl, hv⟩, fun j hj => absurd hj (by omega)⟩)
theorem set_first {ways : Int} {C : List (List Wy)} {x k : Nat} {v : Wy} {r ws : List Wy} (hR : RightP ways (C.set k (v :: r))) (hk : x / 16 % C.length = k) (hw : C[k]? = some ws) (hv : v.line = x - x % 16) : FindR ways (C.set k (v :: r)) x k 0 true :=
  find_first hR (by rw [List.length_set]; exact hk) (List.getElem?_set_self (List.getElem?_eq_some_iff.1 hw).1) hv
theorem Spot.det {ws : List Wy} {l i j : Nat} {b c : Bool} (h : Spot ws l i b) (g : Spot ws l j c) : i = j ∧ b = c := by
  rcases h with ⟨hb, v, hv, hf⟩ | ⟨hb, hi, hn⟩
  · rcases g with ⟨hc, u, hu, hg⟩ | ⟨hc, hj, hm⟩
    · refine ⟨?_, by rw [hb, hc]⟩
      rcases Nat.lt_trichotomy i j with hl | hl | hl
      · exact absurd hv.line (hg i hl v hv.is)
      · exact hl
      · exact absurd hu.line (hf j hl u hu.is)
    · exact absurd hv.line (hm v (List.mem_of_getElem? hv.is))
  · rcases g with ⟨hc, u, hu, hg⟩ | ⟨hc, hj, hm⟩
    · exact absurd hu.line (hn u (List.mem_of_getElem? hu.is))
    · exact ⟨by rw [hi, hj], by rw [hb, hc]⟩
theorem FindR.det {ways : Int} {C : List (List Wy)} {x k k' i i' : Nat} {b b' : Bool} (h : FindR ways C x k i b) (g : FindR ways C x k' i' b') : k = k' ∧ i = i' ∧ b = b' := by
  cases h with
  | no h hk hi hb =>
    cases g with
    | no g hk' hi' hb' => exact ⟨by rw [hk, hk'], by rw [hi, hi'], by rw [hb, hb']⟩
    | yes g => exact absurd g h
  | yes h hk ws hw hs =>
    cases g with
    | no g => exact absurd h g
    | yes g hk' ws' hw' hs' =>
      obtain rfl : k = k' := by rw [← hk, ← hk']
      rw [hw] at hw'; injection hw' with hw'; subst hw'
      obtain ⟨rfl, rfl⟩ := hs.det hs'
      exact ⟨rfl, rfl, rfl⟩
/-- where the line stands first, touching changes nothing -/
theorem TouchR.first {ways : Int} {C C' : List (List Wy)} {x k : Nat} (h : TouchR ways C x C') (hf : FindR ways C x k 0 true) : C' = C := by
  cases h with
  | no k' i' h he => exact he
  | yes k' i' h ws v hw hv he =>
    obtain ⟨rfl, rfl, _⟩ := hf.det h
    cases ws with
    | nil => simp at hv
    | cons u r =>
      simp only [List.getElem?_cons_zero, Option.some.injEq] at hv
      subst hv
      rw [he]
      obtain ⟨hl, e⟩ := List.getElem?_eq_some_iff.1 hw
      simp only [frontL, List.take_zero, List.nil_append, Nat.zero_add, List.drop_succ_cons, List.drop_zero]
      rw [← e, List.set_getElem_self]
/-- behind Put the line stands first -/
theorem PutR.first {ways : Int} {C C' : List (List Wy)} {x : Nat} {data : ByteArray} {dirty : Bool} {gone : Wy} {went : Bool} (h : PutR ways C x data dirty C' gone went) (hR : RightP ways C) : ∃ k, FindR ways C' x k 0 true := by
  have hR' := h.right hR
  cases h with
  | no h he hg hb => exact absurd hR h
  | hit k i h ws v hw hv he hg hb =>
    subst he
    obtain ⟨_, hk, ws', v', hw', hv', hvl, _⟩ := h.at_
    rw [hw] at hw'; injection hw' with hw'; subst hw'
    rw [hv] at hv'; injection hv' with hv'; subst hv'
    exact ⟨k, set_first hR' hk hw hvl⟩
  | room k i _ h ws hw hl he hg hb => subst he; exact ⟨k, set_first hR' (h.set_ hR).1 hw rfl⟩
  | full k i _ h ws hw hl l hl1 hgv he hb => subst he; exact ⟨k, set_first hR' (h.set_ hR).1 hw rfl⟩
/-- behind Touch it stands first, if it was there, else nowhere -/
theorem TouchR.find {ways : Int} {C C' : List (List Wy)} {x k i : Nat} {b : Bool} (h : TouchR ways C x C') (hR : RightP ways C) (hf : FindR ways C x k i b) : (b = true ∧ FindR ways C' x k 0 true) ∨ (b = false ∧ C' = C) := by
  have hR' := h.right hR
  cases h with
  | no k' i' h he => obtain ⟨_, _, rfl⟩ := hf.det h; exact .inr ⟨rfl, he⟩
  | yes k' i' h ws v hw hv he =>
    obtain ⟨rfl, rfl, rfl⟩ := hf.det h
    subst he
    obtain ⟨_, hk, ws', v', hw', hv', hvl, _⟩ := h.at_
    rw [hw] at hw'; injection hw' with hw'; subst hw'
    rw [hv] at hv'; injection hv' with hv'; subst hv'
    exact .inl ⟨rfl, set_first hR' hk hw hvl⟩
theorem TouchR.twice {ways : Int} {C C' C'' : List (List Wy)} {x : Nat} (h : TouchR ways C x C') (hR : RightP ways C) (g : TouchR ways C' x C'') : C'' = C' := by
  obtain ⟨k, i, b, hf⟩ := find_ex ways C x
  rcases h.find hR hf with ⟨_, h1⟩ | ⟨rfl, rfl⟩
  · exact g.first h1
  · cases g with
    | no k' i' g he => exact he
    | yes k' i' g ws v hw hv he => obtain ⟨_, _, e⟩ := hf.det g; cases e
/-- what lies in memory stays so -/
theorem TouchR.cok {ways : Int} {C C' : List (List Wy)} {x : Nat} (h : TouchR ways C x C') (ho : COk C) : COk C' := by
  cases h with
  | no k i h he => subst he; exact ho
  | yes k i h ws v hw hv he =>
    subst he
    have := ho.at_ hw
    refine ho.set k fun u hu => ?_
    rcases List.mem_cons.1 hu with rfl | hu
    · exact this _ (List.mem_of_getElem? hv)
    · rcases List.mem_append.1 hu with h | h
      · exact this u (List.mem_of_mem_take h)
      · exact this u (List.mem_of_mem_drop h)
theorem PutR.cok {ways : Int} {C C' : List (List Wy)} {x : Nat} {data : ByteArray} {dirty : Bool} {gone : Wy} {went : Bool} (h : PutR ways C x data dirty C' gone went) (ho : COk C) (hx : x < 4294967296) (hd : data.size ≤ maxLen) : COk C' := by
  have ht : (trimD data).size ≤ maxLen := by
    rcases trimD_size data with h | h <;> rw [h] <;> decide
  cases h with
  | no h he hg hb => subst he; exact ho
  | hit k i h ws v hw hv he hg hb =>
    subst he
    have := ho.at_ hw
    refine ho.set k fun u hu => ?_
    rcases List.mem_cons.1 hu with rfl | hu
    · have hv' := this _ (List.mem_of_getElem? hv)
      refine ⟨hv'.1, ?_⟩
      dsimp only
      split
      · exact hd
      · exact hv'.2
    · rcases List.mem_append.1 hu with h | h
      · exact this u (List.mem_of_mem_take h)
      · exact this u (List.mem_of_mem_drop h)
  | room k i _ h ws hw hl he hg hb =>
    subst he
    refine ho.set k fun u hu => ?_
    rcases List.mem_cons.1 hu with rfl | hu
    · exact ⟨by show x - x % 16 < _; omega, ht⟩
    · exact ho.at_ hw u hu
  | full k i _ h ws hw hl l hl1 hgv he hb =>
    subst he
    refine ho.set k fun u hu => ?_
    rcases List.mem_cons.1 hu with rfl | hu
    · exact ⟨by show x - x % 16 < _; omega, ht⟩
    · exact ho.at_ hw u (List.mem_of_mem_take hu)
end Go.Proofs.Ytcahadkkjfijfaa
