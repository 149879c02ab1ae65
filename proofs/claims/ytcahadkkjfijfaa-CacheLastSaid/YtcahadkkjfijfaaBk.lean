/- Blocks that are known whole; copying into them; strings as byte blocks. -/
import Derived.Test.YtcahadkkjfijfaaSl
import Derived.Laws.IdiomCopy
import Derived.Lib.AppendStr
import Derived.ArgAppend
import Derived.Laws.AppendOwnNone
import Derived.Room.Entries
set_option linter.unusedVariables false
set_option linter.unusedSimpArgs false
namespace Go.Proofs.Ytcahadkkjfijfaa
open Go.RowKit

/-- Block g is just the cells cs of element type t; none of them is frozen. -/
def Bk (w : World) (g : Nat) (t : TypeId) (cs : List Value) : Prop :=
  ∃ r : Nat × Nat, w.heap[g]? = some (.cells cs.toArray t r) ∧ ∀ i, i < cs.length → ¬ (r.1 ≤ i ∧ i < r.2)

section
variable {w w' : World} {g : Nat} {t : TypeId} {cs : List Value}
theorem Bk.lt (h : Bk w g t cs) : g < w.heap.size := by
  obtain ⟨r, h, _⟩ := h
  exact (Array.getElem?_eq_some_iff.1 h).1
theorem Bk.cell (h : Bk w g t cs) (i : Nat) : w.cell? ⟨g, i, none⟩ = cs[i]? := by
  obtain ⟨r, h, _⟩ := h
  rw [cell_of_row w g i cs.toArray t r h]; simp
theorem Bk.frozen (h : Bk w g t cs) {i : Nat} (hi : i < cs.length) : w.frozen? ⟨g, i, none⟩ = false := by
  obtain ⟨r, h, hf⟩ := h
  have := hf i hi
  simp only [World.frozen?, h]
  simp only [Bool.and_eq_false_iff, decide_eq_false_iff_not]
  by_cases h1 : r.1 ≤ i
  · exact .inr (fun h2 => this ⟨h1, h2⟩)
  · exact .inl h1
theorem Bk.new (w : World) (t : TypeId) (cs : List Value) : Bk (w.alloc (.cells cs.toArray t)) w.heap.size t cs := ⟨(0, 0), heap_alloc_new w _, by intro i _; omega⟩
theorem Bk.keep (h : Bk w g t cs) (hk : w'.heap[g]? = w.heap[g]?) : Bk w' g t cs := by
  obtain ⟨r, h, hf⟩ := h
  exact ⟨r, hk.trans h, hf⟩
theorem Bk.bel (h : Bk w g t cs) (hb : Bel w w') : Bk w' g t cs := h.keep (hb.block g h.lt)
theorem Bk.drewN (h : Bk w g t cs) (n : Nat) : Bk (w.drewN n) g t cs := h
theorem Bk.alloc (h : Bk w g t cs) (o : Obj) : Bk (w.alloc o) g t cs := h.keep (Below.heap_alloc w o g h.lt)
theorem Bk.grown (h : Bk w g t cs) {row : Option Nat} (hg : w.grownBy w' row) (hne : some g ≠ row) : Bk w' g t cs := h.keep (hg.block g h.lt hne)
theorem Bk.set_ (h : Bk w g t cs) (i : Nat) (u : Value) : Bk (w.setCell ⟨g, i, none⟩ u) g t (cs.set i u) := by
  obtain ⟨r, h, hf⟩ := h
  refine ⟨r, ?_, by simpa using hf⟩
  simp [World.setCell, Array.getElem?_modify, h]
theorem Bk.far (h : Bk w g t cs) {p : Addr} (hp : g ≠ p.block) (u : Value) : Bk (w.setCell p u) g t cs := h.keep (Below.heap_setCell w p u g hp)
/-- a slice over a block reads as a part of its cells -/
theorem Bk.rd (h : Bk w g t cs) {sz n c o : Nat} (hn : o + n * sz ≤ cs.length) (hc : n ≤ c) (hm : c ≤ maxLen) : Rd w w.heap.size sz (some ⟨g, o, none⟩) n c ((cs.drop o).take (n * sz)) :=
  ⟨by rw [List.length_take, List.length_drop]; omega, hc, hm, fun _ => ⟨g, o, rfl, h.lt, fun j u hu => by
    rw [h.cell, ← hu, List.getElem?_take, List.getElem?_drop]
    split
    · rfl
    · rename_i hj
      exfalso
      rw [List.getElem?_take, if_neg hj] at hu
      cases hu⟩⟩
/-- the same block as a row that the call owns -/
theorem Bk.of_own {base : Nat} {e : TypeId} {sz n cap : Nat} {xs : List Value} (h : w.ownsRow base e sz (.slice (some ⟨g, 0, none⟩) n cap) n xs) (hc : cap = n) : Bk w g e xs := by
  subst hc
  rcases h.2 with ⟨h', _⟩ | ⟨g', cap', cur, h', _, hg, hnc, _, hcs, htake⟩
  · simp at h'
  · simp only [Value.slice.injEq, Option.some.injEq, Addr.mk.injEq, and_true, true_and] at h'
    obtain ⟨rfl, rfl⟩ := h'
    refine ⟨(0, 0), ?_, by intro i _; omega⟩
    rw [hg, ← htake, List.take_of_length_le (by rw [Array.length_toList, hcs]; exact Nat.le_refl _)]
end

/-- cells written over others from a place on -/
def spl (cs : List Value) (o : Nat) : List Value → List Value
  | [] => cs
  | v :: r => spl (cs.set o v) (o + 1) r
theorem spl_len (cs : List Value) (o : Nat) (vs : List Value) : (spl cs o vs).length = cs.length := by
  induction vs generalizing cs o with
  | nil => rfl
  | cons v r ih => rw [spl, ih]; simp
theorem spl_eq (cs : List Value) (o : Nat) (vs : List Value) (h : o + vs.length ≤ cs.length) : spl cs o vs = cs.take o ++ vs ++ cs.drop (o + vs.length) := by
  induction vs generalizing cs o with
  | nil => simp [spl]
  | cons v r ih =>
    rw [List.length_cons] at h
    rw [spl, ih _ _ (by simp; omega)]
    have h1 : (cs.set o v).take (o + 1) = cs.take o ++ [v] := by
      rw [List.take_set, List.take_succ_eq_append_getElem (by omega), List.set_append_right _ _ (by simp; omega)]
      simp [List.length_take, Nat.min_eq_left (show o ≤ cs.length by omega)]
    have h2 : (cs.set o v).drop (o + 1 + r.length) = cs.drop (o + (v :: r).length) := by
      rw [List.drop_set_of_lt (by omega)]
      congr 1
      simp; omega
    rw [h1, h2]
    simp

theorem Bk.setCells {w : World} {g : Nat} {t : TypeId} {cs : List Value} (h : Bk w g t cs) (vs : List Value) (o : Nat) : Bk (w.setCells g o vs) g t (spl cs o vs) ∧ w.grownBy (w.setCells g o vs) (some g) := by
  induction vs generalizing w cs o with
  | nil => exact ⟨h, World.grownBy.refl w _⟩
  | cons v r ih =>
    obtain ⟨h1, h2⟩ := ih (h.set_ o v) (o + 1)
    refine ⟨h1, ⟨h2.os, h2.tape, h2.output, Nat.le_trans (by simp [World.setCell]) h2.size, fun k hk hne => ?_⟩⟩
    rw [World.setCells, h2.block k (by simpa [World.setCell] using hk) hne]
    exact Below.heap_setCell w _ v k (fun e => hne (by rw [e]))

section
variable {P : Program} {ops : Array Oper} {rest : List Oper} {o : Oper} {a : Act} {Q : Exit → Act → World → Prop}

/-- 'copy(dst, s)', s a string, dst within a block that is known -/
theorem wpList_copy_str {w : World} (hgd : o.guard = none) (d s : Operand) (dT sT : TypeId)
    (ho : o.op = .call { callee := .builtin .copy, args := #[d, s], argTypes := #[dT, sT] }) (e : TypeId) (hu : P.underlying dT = some (.slice e)) (hsz : (P.info? e).map (·.size) = some 1)
    (g off dLen dCap : Nat) (str : ByteArray) (hd : a.eval d = .slice (some ⟨g, off, none⟩) dLen dCap) (hs : a.eval s = .string str)
    (t : TypeId) (cs : List Value) (hg : Bk w g t cs) (hfit : off + min str.size dLen ≤ cs.length)
    (h : ∀ w', Bk w' g t (spl cs off (byteCells (str.data.toList.take (min str.size dLen)))) → w.grownBy w' (some g) → wpList P ops Q rest (a.put o.dst (goInt (min str.size dLen : Nat))) w') : wpList P ops Q (o :: rest) a w := by
  refine wpList_plain hgd fun K hK => ?_
  have hlen : (byteCells (str.data.toList.take (min str.size dLen))).length = min str.size dLen := by
    rw [byteCells_len, List.length_take]; simp
  have hst := run_storeCells_cells (P := P) g off (byteCells (str.data.toList.take (min str.size dLen))) 0 w (fun j hj => by
    rw [hlen] at hj
    rw [hg.cell, Nat.add_zero, List.getElem?_eq_getElem (by omega)]; rfl) (fun j hj => by
    rw [hlen] at hj
    exact hg.frozen (by omega)) (byteCells_one _)
  obtain ⟨k1, k2⟩ := hg.setCells (byteCells (str.data.toList.take (min str.size dLen))) (off + 0)
  obtain ⟨i, hi, hi1⟩ : ∃ i, P.info? e = some i ∧ i.size = 1 := by
    cases hq : P.info? e with
    | none => simp [hq] at hsz
    | some i => exact ⟨i, rfl, by simpa [hq] using hsz⟩
  have hf : (Builtin.firstCells 1 (min str.size dLen) (.string str)).run P w = .ok (byteCells (str.data.toList.take (min str.size dLen))).toArray w := by
    simp [Builtin.firstCells, byteCells]
    apply Array.ext'
    simp
  have hrun : (Builtin.copy_ #[dT, sT] o.type #[.slice (some ⟨g, off, none⟩) dLen dCap, .string str]).run P w = .ok (goInt (min str.size dLen : Nat)) (w.setCells g (off + 0) (byteCells (str.data.toList.take (min str.size dLen)))) := by
    simp [Builtin.copy_, run_underlying hu, Builtin.lenOf, sizeOf, typeInfo, hi, hi1, hf, hst]
  unfold Oper.wp execOp
  simp only [ho, resolve, invoke, builtin, Sem.run_bind, Sem.run_pure, Result.andThen_ok, List.map_toArray, List.map_cons, List.map_nil, hd, hs, hrun]
  exact hK _ _ (h _ k1 k2)
end

section
variable {P : Program} {ops : Array Oper} {rest : List Oper} {o : Oper} {a : Act} {Q : Exit → Act → World → Prop}

/-- '[]byte(s)': a new block of the string's bytes, with spare room behind them -/
theorem wpList_tobytes {w : World} (hgd : o.guard = none) (src dst e : TypeId) (x : Operand) (ho : o.op = .convert src dst x)
    (hs : P.underlying src = some .string) (hd : P.underlying dst = some (.slice e)) (he : P.underlying e = some (.int .u8)) (s : ByteArray) (hx : a.eval x = .string s) (hsz : s.size ≤ maxLen)
    (h : ∀ cap w', s.size ≤ cap → cap ≤ maxLen → Bk w' w.heap.size e (byteCells s.data.toList ++ List.replicate (cap - s.size) (.int .u8 0)) → Bel w w' → w.heap.size < w'.heap.size →
      wpList P ops Q rest (a.put o.dst (.slice (some ⟨w.heap.size, 0, none⟩) s.size cap)) w') : wpList P ops Q (o :: rest) a w := by
  refine wpList_plain hgd fun K hK => ?_
  have hrun := run_bytes_of_string (P := P) w src dst e s hs hd he
  unfold Oper.wp
  simp [execOp, ho, hx, hrun, Result.andThen]
  refine hK _ _ (h _ _ (grownCap_ge w s.size 0 e) (grownCap_le_maxLen w s.size 0 e hsz) ⟨((bytesRow s (grownCap w s.size 0 e)).size, (bytesRow s (grownCap w s.size 0 e)).size + 1), ?_, ?_⟩ ?_ ?_)
  · rw [show ∀ (C : Array Value) (r : Nat × Nat), (w.drew.alloc (.cells C e r)).heap[w.heap.size]? = some (.cells C e r) from fun C r => by
      show (w.heap.push (.cells C e r))[w.heap.size]? = _
      simp]
    congr 2
    apply Array.ext'
    simp [bytesRow, byteCells]
  · intro i hi
    have : (bytesRow s (grownCap w s.size 0 e)).size = (byteCells s.data.toList ++ List.replicate (grownCap w s.size 0 e - s.size) (Value.int .u8 0)).length := by
      simp [bytesRow, byteCells]
    simp only [this]
    omega
  · exact (Bel.drew w).trans (Bel.alloc _ _)
  · show w.heap.size < (w.heap.push _).size
    simp

/-- 'append(b, s...)', s a string, b without room -/
theorem wpList_app_str_full {w : World} (hgd : o.guard = none) (sl x : Operand) (t u : TypeId)
    (ho : o.op = .call { callee := .builtin .append, args := #[sl, x], argTypes := #[t, u] })
    (e : TypeId) (ht : P.underlying t = some (.slice e)) (hu : P.underlying u = some .string) (hinfo : (P.info? e).map (fun i => (i.zero, i.size, i.bytes)) = some (some (.int .u8 0), 1, 1))
    (g f n : Nat) (xs : List Value) (hs : a.eval sl = .slice (some ⟨g, f, none⟩) n n) (B : Nat) (hr : Rd w B 1 (some ⟨g, f, none⟩) n n xs) (s : ByteArray) (hx : a.eval x = .string s) (h0 : 0 < s.size)
    (h63 : n + s.size ≤ 140737488355328)
    (h : ∀ v' w', w'.ownsRow w.heap.size e 1 v' (n + s.size) (xs ++ byteCells s.data.toList) → w.grownBy w' none → wpList P ops Q rest (a.put o.dst v') w') : wpList P ops Q (o :: rest) a w := by
  obtain ⟨i, hi, hz, hz1, hz2⟩ := info_parts hinfo
  refine wpList_plain hgd fun K hK => ?_
  have hlen : xs.length = n * i.size := by rw [hz1]; exact hr.len
  have holds : ∀ j v, xs[j]? = some v → w.cell? ((⟨g, f, none⟩ : Addr).add j) = some v := by
    intro j v hv
    have hj := (List.getElem?_eq_some_iff.1 hv).1
    have hl := hr.len
    obtain ⟨g', f', e', _, hc⟩ := hr.at_ (by omega)
    injection e' with e'
    injection e' with e1 e2
    subst e1 e2
    have e3 : (⟨g, f, none⟩ : Addr).add j = ⟨g, f + j, none⟩ := by unfold Addr.add; split <;> simp_all
    rw [e3]; exact hc j v hv
  have hrun := Lib.run_append_grow_string (P := P) w t u o.type e i (.int .u8 0) ht hu hi hz ⟨g, f, none⟩ n n xs hlen holds s (by omega) (by omega) (by rw [hz2]; exact growslice_fits (by omega) (by omega))
  unfold Oper.wp execOp
  simp only [ho, resolve, invoke, builtin, Sem.run_bind, Sem.run_pure, Result.andThen_ok, List.map_toArray, List.map_cons, List.map_nil, hs, hx, hrun]
  have hge := grownCap_ge w (n + s.size) n e
  have hcm := grownCap_le_maxLen w (n + s.size) n e (by unfold maxLen; omega)
  have hxl : xs.length = n := by have := hr.len; omega
  have hsc : Lib.strCells s = byteCells s.data.toList := rfl
  refine hK _ _ (h _ _ ⟨?_, .inr ⟨w.heap.size, _, _, rfl, Nat.le_refl _, heap_alloc_new w.drew _, hge, hcm, ?_, ?_⟩⟩ ⟨rfl, rfl, rfl, by simp, fun k hk _ => Below.heap_alloc w.drew _ k hk⟩)
  · rw [List.length_append, byteCells_len, str_len, hxl]; omega
  · simp only [Array.size_append, List.size_toArray, size_zeroCells, Lib.strCells_length, hxl, Value.cells]
    simp only [List.size_toArray, List.length_cons, List.length_nil]
    omega
  · simp only [Array.toList_append, List.append_assoc, hsc]
    rw [← List.append_assoc, List.take_append_of_le_length (by rw [List.length_append, byteCells_len, str_len, hxl]; omega), List.take_of_length_le (by rw [List.length_append, byteCells_len, str_len, hxl]; omega)]

/-- 'append(out, xs...)', out the call's own, xs a slice that reads as a list (nil let in) -/
theorem wpList_app_rd {w : World} (hgd : o.guard = none) (s x : Operand) (t : TypeId)
    (ho : o.op = .call { callee := .builtin .append, args := #[s, x], argTypes := #[t, t] })
    (base : Nat) (e : TypeId) (z : Value) (sz bytes : Nat) (ht : P.underlying t = some (.slice e)) (hinfo : (P.info? e).map (fun i => (i.zero, i.size, i.bytes)) = some (some z, sz, bytes))
    (hzs : z.cells.size = sz) (hsz : 0 < sz)
    (v : Value) (n : Nat) (xs : List Value) (hs : a.eval s = v) (hown : w.ownsRow base e sz v n xs)
    (B : Nat) (A : Option Addr) (m c : Nat) (us : List Value) (hx : a.eval x = .slice A m c) (hr : Rd w B sz A m c us) (h1 : ∀ u ∈ us, u.oneCell' = true)
    (h63 : n + m ≤ 9223372036854775807) (hbytes : (n + m) * bytes ≤ 140737488355328) (hbase : base ≤ w.heap.size)
    (h : ∀ v' w', w'.ownsRow base e sz v' (n + m) (xs ++ us) → w.grownBy w' v.ownBlock → wpList P ops Q rest (a.put o.dst v') w') : wpList P ops Q (o :: rest) a w := by
  obtain ⟨i0, hi, hz0, hz1, hz2⟩ := info_parts hinfo
  have main : ∀ ad, A = some ad → wpList P ops Q (o :: rest) a w := by
    rintro ad rfl
    refine wpList_append_own _ hgd s x t ho base e i0 z sz bytes ht hi hz0 hz1 hz2 hzs hsz v n xs hs hown ad m c us hx hr.len ?_ h1 (by simp only [maxLen]; omega) hbytes hbase (fun v' w' k1 k2 _ => h v' w' k1 k2)
    intro j u hu
    have hj := (List.getElem?_eq_some_iff.1 hu).1
    have hl := hr.len
    have hm : 0 < m := by
      rcases Nat.eq_zero_or_pos m with h0 | h0
      · subst h0; omega
      · exact h0
    obtain ⟨g', f', e', _, hc⟩ := hr.at_ hm
    injection e' with e'
    subst e'
    have e3 : (⟨g', f', none⟩ : Addr).add j = ⟨g', f' + j, none⟩ := by unfold Addr.add; split <;> simp_all
    rw [e3]; exact hc j u hu
  cases A with
  | some ad => exact main ad rfl
  | none =>
    have hm : m = 0 := by
      rcases Nat.eq_zero_or_pos m with h0 | h0
      · exact h0
      · obtain ⟨g, f, e, _⟩ := hr.at_ h0
        cases e
    subst hm
    obtain rfl : us = [] := List.eq_nil_of_length_eq_zero (by simpa using hr.len)
    refine wpList_plain hgd fun K hK => ?_
    have hrun : (Builtin.append_ #[t, t] o.type #[v, .slice none 0 c]).run P w = .ok v w := by
      rcases hown.2 with ⟨rfl, rfl⟩ | ⟨g, cap, cur, rfl, _, _, hnc, _⟩
      · simp [Builtin.append_, run_underlying ht, sizeOf, typeInfo, hi, Builtin.lenOf, Builtin.firstCells]
      · simp [Builtin.append_, run_underlying ht, sizeOf, typeInfo, hi, Builtin.lenOf, Builtin.firstCells, hnc, storeCells]
    unfold Oper.wp execOp
    simp only [ho, resolve, invoke, builtin, Sem.run_bind, Sem.run_pure, Result.andThen_ok, List.map_toArray, List.map_cons, List.map_nil, hs, hx, hrun]
    exact hK _ _ (h v w (by simpa using hown) (World.grownBy.refl w _))
end

section
variable {P : Program} {ops : Array Oper} {rest : List Oper} {o : Oper} {a : Act} {Q : Exit → Act → World → Prop}
/-- 'copy(dst, src)', both of n elements, dst within a block that is known -/
theorem wpList_copy_rd {w : World} (hgd : o.guard = none) (d s : Operand) (t' : TypeId)
    (ho : o.op = .call { callee := .builtin .copy, args := #[d, s], argTypes := #[t', t'] }) (e : TypeId) (hu : P.underlying t' = some (.slice e)) (sz : Nat) (hsz : (P.info? e).map (·.size) = some sz)
    (g off n dCap : Nat) (A : Option Addr) (c : Nat) (hd : a.eval d = .slice (some ⟨g, off, none⟩) n dCap) (hs : a.eval s = .slice A n c)
    (B : Nat) (us : List Value) (hr : Rd w B sz A n c us) (h1 : ∀ u ∈ us, u.oneCell' = true)
    (t : TypeId) (cs : List Value) (hg : Bk w g t cs) (hfit : off + n * sz ≤ cs.length)
    (h : ∀ w', Bk w' g t (spl cs off us) → w.grownBy w' (some g) → wpList P ops Q rest (a.put o.dst (goInt (n : Nat))) w') : wpList P ops Q (o :: rest) a w := by
  refine wpList_plain hgd fun K hK => ?_
  have hl := hr.len
  obtain ⟨i, hi, hi1⟩ : ∃ i, P.info? e = some i ∧ i.size = sz := by
    cases hq : P.info? e with
    | none => simp [hq] at hsz
    | some i => exact ⟨i, rfl, by simpa [hq] using hsz⟩
  have hst := run_storeCells_cells (P := P) g off us 0 w (fun j hj => by
    rw [hg.cell, Nat.add_zero, List.getElem?_eq_getElem (by omega)]; rfl) (fun j hj => hg.frozen (by omega)) h1
  obtain ⟨k1, k2⟩ := hg.setCells us (off + 0)
  have hf : (Builtin.firstCells i.size n (.slice A n c)).run P w = .ok us.toArray w := by
    rw [hi1]
    cases A with
    | none =>
      have : n = 0 := by
        rcases Nat.eq_zero_or_pos n with h0 | h0
        · exact h0
        · obtain ⟨g, f, e, _⟩ := hr.at_ h0
          cases e
      subst this
      obtain rfl : us = [] := List.eq_nil_of_length_eq_zero (by simpa using hl)
      exact run_firstCells_none w _ _ _ _
    | some ad =>
      refine run_firstCells_some (P := P) w sz n ad n c us hl fun j u hu => ?_
      have hj := (List.getElem?_eq_some_iff.1 hu).1
      have hm : 0 < n := by
        rcases Nat.eq_zero_or_pos n with h0 | h0
        · subst h0; omega
        · exact h0
      obtain ⟨g', f', e', _, hc⟩ := hr.at_ hm
      injection e' with e'
      subst e'
      have e3 : (⟨g', f', none⟩ : Addr).add j = ⟨g', f' + j, none⟩ := by unfold Addr.add; split <;> simp_all
      rw [e3]; exact hc j u hu
  have hrun : (Builtin.copy_ #[t', t'] o.type #[.slice (some ⟨g, off, none⟩) n dCap, .slice A n c]).run P w = .ok (goInt (n : Nat)) (w.setCells g (off + 0) us) := by
    simp [Builtin.copy_, run_underlying hu, Builtin.lenOf, sizeOf, typeInfo, hi, hf, hst]
  unfold Oper.wp execOp
  simp only [ho, resolve, invoke, builtin, Sem.run_bind, Sem.run_pure, Result.andThen_ok, List.map_toArray, List.map_cons, List.map_nil, hd, hs, hrun]
  exact hK _ _ (h _ k1 k2)
/-- 'max(x, y)', kept behind a name -/
theorem wpList_max {w : World} (hgd : o.guard = none) (x y : Operand) (ts : Array TypeId) (ho : o.op = .call { callee := .builtin .max, args := #[x, y], argTypes := ts })
    (k k' : IntKind) (p q N : Int) (hx : a.eval x = .int k p) (hy : a.eval y = .int k' q) (hN : N = if q > p then q else p)
    (h : wpList P ops Q rest (a.put o.dst (.int k N)) w) : wpList P ops Q (o :: rest) a w := by
  refine wpList_plain hgd fun K hK => ?_
  have hrun := fun ts t => run_max_int2 (P := P) w ts t k k' p q
  unfold Oper.wp execOp
  simp only [ho, resolve, invoke, builtin, Sem.run_bind, Sem.run_pure, Result.andThen_ok, List.map_toArray, List.map_cons, List.map_nil, hx, hy, hrun]
  rw [← hN]
  exact hK _ _ h
end
theorem spl_all (cs us : List Value) (h : us.length = cs.length) : spl cs 0 us = us := by
  rw [spl_eq _ _ _ (by omega)]; simp [h]

end Go.Proofs.Ytcahadkkjfijfaa
