/- Results that lie in cells, alone or beside slots: what a function hands back, off the blocks that are known. -/
import Derived.Test.YtcahadkkjfijfaaBk
import Derived.Laws.Rows
import Derived.Laws.Tables
set_option linter.unusedVariables false
set_option linter.unusedSimpArgs false
namespace Go.Proofs.Ytcahadkkjfijfaa
open Go.RowKit

/-- a type of struct or array kind, of so many cells -/
inductive RowTy (P : Program) (ty : TypeId) (n : Nat) : Prop
  | mk (d : TypeDesc) (hu : P.underlying ty = some d) (hd : (match d with | .struct _ | .array _ _ => true | _ => false) = true) (hi : (P.info? ty).map (·.size) = some n)
theorem Bk.loadVar {P : Program} {w : World} {g : Nat} {t ty : TypeId} {cs : List Value} (h : Bk w g t cs) (ht : RowTy P ty cs.length) : (loadVar ty ⟨g, 0, none⟩).run P w = .ok (.agg cs.toArray) w := by
  obtain ⟨r, hg, _⟩ := h
  obtain ⟨d, hu, hd, hi⟩ := ht
  have hi2 : (P.info? ty).map (·.size) = some cs.toArray.size := by simpa using hi
  cases d <;> first | exact run_loadVar_row w g t ty cs.toArray r _ hg hu rfl hi2 | (simp at hd)
section
variable {P : Program} {fn : Func} {p p' q q' q'' : Tmp} {ty ty' : TypeId} {w : World} {g g' : Nat} {t t' : TypeId} {cs cs' : List Value} {tmps : Array Value}
theorem res_c (h : fn.results = #[.cell p ty]) (hp : tmps.getD p undef = .pointer (some ⟨g, 0, none⟩)) (hb : Bk w g t cs) (ht : RowTy P ty cs.length) : (results fn tmps).run P w = .ok (.agg cs.toArray) w := by
  have hp' : tmps[p]?.getD undef = .pointer (some ⟨g, 0, none⟩) := by simpa using hp
  simp [results, h, hp', asAddr, hb.loadVar ht]
theorem res_cs (h : fn.results = #[.cell p ty, .tmp q]) (hp : tmps.getD p undef = .pointer (some ⟨g, 0, none⟩)) (hb : Bk w g t cs) (ht : RowTy P ty cs.length) : (results fn tmps).run P w = .ok (.tuple #[.agg cs.toArray, tmps.getD q undef]) w := by
  have hp' : tmps[p]?.getD undef = .pointer (some ⟨g, 0, none⟩) := by simpa using hp
  simp [results, h, hp', asAddr, hb.loadVar ht]
theorem res_css (h : fn.results = #[.cell p ty, .tmp q, .tmp q']) (hp : tmps.getD p undef = .pointer (some ⟨g, 0, none⟩)) (hb : Bk w g t cs) (ht : RowTy P ty cs.length) : (results fn tmps).run P w = .ok (.tuple #[.agg cs.toArray, tmps.getD q undef, tmps.getD q' undef]) w := by
  have hp' : tmps[p]?.getD undef = .pointer (some ⟨g, 0, none⟩) := by simpa using hp
  simp [results, h, hp', asAddr, hb.loadVar ht]
theorem res_scs (h : fn.results = #[.tmp q, .cell p ty, .tmp q']) (hp : tmps.getD p undef = .pointer (some ⟨g, 0, none⟩)) (hb : Bk w g t cs) (ht : RowTy P ty cs.length) : (results fn tmps).run P w = .ok (.tuple #[tmps.getD q undef, .agg cs.toArray, tmps.getD q' undef]) w := by
  have hp' : tmps[p]?.getD undef = .pointer (some ⟨g, 0, none⟩) := by simpa using hp
  simp [results, h, hp', asAddr, hb.loadVar ht]
theorem res_scss (h : fn.results = #[.tmp q, .cell p ty, .tmp q', .tmp q'']) (hp : tmps.getD p undef = .pointer (some ⟨g, 0, none⟩)) (hb : Bk w g t cs) (ht : RowTy P ty cs.length) : (results fn tmps).run P w = .ok (.tuple #[tmps.getD q undef, .agg cs.toArray, tmps.getD q' undef, tmps.getD q'' undef]) w := by
  have hp' : tmps[p]?.getD undef = .pointer (some ⟨g, 0, none⟩) := by simpa using hp
  simp [results, h, hp', asAddr, hb.loadVar ht]
theorem res_ccs (h : fn.results = #[.cell p ty, .cell p' ty', .tmp q]) (hp : tmps.getD p undef = .pointer (some ⟨g, 0, none⟩)) (hb : Bk w g t cs) (ht : RowTy P ty cs.length)
    (hp2 : tmps.getD p' undef = .pointer (some ⟨g', 0, none⟩)) (hb2 : Bk w g' t' cs') (ht2 : RowTy P ty' cs'.length) : (results fn tmps).run P w = .ok (.tuple #[.agg cs.toArray, .agg cs'.toArray, tmps.getD q undef]) w := by
  have hp' : tmps[p]?.getD undef = .pointer (some ⟨g, 0, none⟩) := by simpa using hp
  have hp2' : tmps[p']?.getD undef = .pointer (some ⟨g', 0, none⟩) := by simpa using hp2
  simp [results, h, hp', hp2', asAddr, hb.loadVar ht, hb2.loadVar ht2]
end
theorem Bk.new' (w : World) (t : TypeId) (cs : List Value) (g : Nat) (h : w.heap.size = g) : Bk (w.alloc (.cells cs.toArray t)) g t cs := by
  subst h; exact Bk.new w t cs

theorem addr_add (g o j : Nat) : (⟨g, o, none⟩ : Addr).add j = ⟨g, o + j, none⟩ := by unfold Addr.add; split <;> simp_all
/-- a whole element, loaded out of a row -/
theorem run_loadVar_elem {P : Program} (w : World) (g off : Nat) (ty : TypeId) (cs : List Value) (hc : ∀ j u, cs[j]? = some u → w.cell? ⟨g, off + j, none⟩ = some u) (ht : RowTy P ty cs.length) :
    (loadVar ty ⟨g, off, none⟩).run P w = .ok (.agg cs.toArray) w := by
  obtain ⟨d, hu, hd, hi⟩ := ht
  have hl : (loadCells ⟨g, off, none⟩ cs.length).run P w = .ok cs.toArray w :=
    run_loadCells_list (P := P) w ⟨g, off, none⟩ cs (fun j v hv => by rw [addr_add]; exact hc j v hv)
  cases hq : P.info? ty with
  | none => simp [hq] at hi
  | some i =>
    have hs : i.size = cs.length := by simpa [hq] using hi
    have hagg : (isAgg ty).run P w = .ok true w := by
      unfold isAgg
      rw [Sem.run_bind, run_underlying hu w]
      cases d <;> simp_all
    simp [loadVar, Sem.run_bind, hagg, sizeOf, typeInfo, hq, hs, hl]
section
variable {P : Program} {ops : Array Oper} {rest : List Oper} {o : Oper} {a : Act} {w : World} {Q : Exit → Act → World → Prop}
theorem wpList_wanted (hw : Region.wanted o (yielded ops a.tmps) = true) (h : ∀ K : Act → World → Prop, (∀ a w, wpList P ops Q rest a w → K a w) → o.wp P a w K Q) : wpList P ops Q (o :: rest) a w :=
  wpList_step fun K hK => by rw [if_pos hw]; exact h K hK
theorem wpList_load_elem (hw : Region.wanted o (yielded ops a.tmps) = true) (ty : TypeId) (x : Operand) (ho : o.op = .load ty x) (g off : Nat) (hx : a.eval x = .pointer (some ⟨g, off, none⟩)) (cs : List Value) (v : Value) (hv : v = .agg cs.toArray)
    (hc : ∀ j u, cs[j]? = some u → w.cell? ⟨g, off + j, none⟩ = some u) (ht : RowTy P ty cs.length) (h : wpList P ops Q rest (a.put o.dst v) w) : wpList P ops Q (o :: rest) a w := by
  subst hv
  refine wpList_wanted hw fun K hK => ?_
  unfold Oper.wp execOp
  simp only [ho, hx, Instr.loadAt, Instr.sureAddr, Sem.run_bind, Sem.run_pure, Result.andThen_ok, run_loadVar_elem w g off ty cs hc ht]
  exact hK _ _ h
/-- a row that is known, loaded whole -/
theorem wpList_load_bk (hw : Region.wanted o (yielded ops a.tmps) = true) (ty : TypeId) (x : Operand) (ho : o.op = .load ty x) (g : Nat) (hx : a.eval x = .pointer (some ⟨g, 0, none⟩)) (t : TypeId) (cs : List Value) (v : Value) (hv : v = .agg cs.toArray)
    (hb : Bk w g t cs) (ht : RowTy P ty cs.length) (h : wpList P ops Q rest (a.put o.dst v) w) : wpList P ops Q (o :: rest) a w := by
  subst hv
  refine wpList_wanted hw fun K hK => ?_
  unfold Oper.wp execOp
  simp only [ho, hx, Instr.loadAt, Instr.sureAddr, Sem.run_bind, Sem.run_pure, Result.andThen_ok, hb.loadVar ht]
  exact hK _ _ h
/-- a whole element, stored within a block that is known: the new world has a name of its own -/
theorem wpList_store_part (hw : Region.wanted o (yielded ops a.tmps) = true) (ty : TypeId) (x y : Operand) (ho : o.op = .store ty x y) (g off : Nat) (cs : List Value) (hx : a.eval x = .pointer (some ⟨g, off, none⟩)) (hy : a.eval y = .agg cs.toArray)
    (t : TypeId) (old : List Value) (hg : Bk w g t old) (hfit : off + cs.length ≤ old.length) (ht : RowTy P ty cs.length) (h1 : ∀ u ∈ cs, u.oneCell' = true)
    (h : ∀ w', Bk w' g t (spl old off cs) → w'.heap.size = w.heap.size → (∀ k, k ≠ g → w'.heap[k]? = w.heap[k]?) → (∀ b : World, Bel b w → b.heap.size ≤ g → Bel b w') → wpList P ops Q rest (a.put o.dst undef) w') : wpList P ops Q (o :: rest) a w := by
  refine wpList_wanted hw fun K hK => ?_
  obtain ⟨d, hu, hd, hi⟩ := ht
  have hst := run_storeCells_cells (P := P) g off cs 0 w (fun j hj => by
    rw [hg.cell, show off + 0 + j = off + j by omega, List.getElem?_eq_getElem (by omega)]; rfl) (fun j hj => by
    rw [show off + 0 + j = off + j by omega]; exact hg.frozen (by omega)) h1
  obtain ⟨k1, k2⟩ := hg.setCells cs off
  have hrun : (storeVar ty ⟨g, off, none⟩ (.agg cs.toArray)).run P w = .ok () (w.setCells g off cs) := by
    cases hq : P.info? ty with
    | none => simp [hq] at hi
    | some i =>
      have hs : i.size = cs.length := by simpa [hq] using hi
      simp [storeVar, sizeOf, typeInfo, hq, Value.cells, hs, hst]
  unfold Oper.wp execOp
  simp only [ho, hx, hy, Instr.storeAt, Instr.sureAddr, Sem.run_bind, Sem.run_pure, Result.andThen_ok, hrun]
  refine hK _ _ (h _ k1 ?_ (fun k hk => ?_) (fun b hb hbg => hb.grown k2 fun k hk => by injection hk with hk; omega))
  · clear hst k1 k2 hrun
    have : ∀ (l : List Value) (o : Nat) (W : World), (W.setCells g o l).heap.size = W.heap.size := by
      intro l
      induction l with
      | nil => intro o W; rfl
      | cons v r ih => intro o W; rw [World.setCells, ih]; simp [World.setCell]
    exact this cs off w
  · clear hst k1 k2 hrun
    have : ∀ (l : List Value) (o : Nat) (W : World), (W.setCells g o l).heap[k]? = W.heap[k]? := by
      intro l
      induction l with
      | nil => intro o W; rfl
      | cons v r ih => intro o W; rw [World.setCells, ih]; exact Below.heap_setCell W _ v k hk
    exact this cs off w
/-- a whole row, stored -/
theorem wpList_store_bk (hw : Region.wanted o (yielded ops a.tmps) = true) (ty : TypeId) (x y : Operand) (ho : o.op = .store ty x y) (g : Nat) (cs : List Value) (hx : a.eval x = .pointer (some ⟨g, 0, none⟩)) (hy : a.eval y = .agg cs.toArray)
    (t : TypeId) (old : List Value) (hg : Bk w g t old) (hold : old.length = cs.length) (ht : RowTy P ty cs.length) (h1 : ∀ u ∈ cs, u.oneCell' = true)
    (h : ∀ w', Bk w' g t cs → w'.heap.size = w.heap.size → (∀ k, k ≠ g → w'.heap[k]? = w.heap[k]?) → (∀ b : World, Bel b w → b.heap.size ≤ g → Bel b w') → wpList P ops Q rest (a.put o.dst undef) w') : wpList P ops Q (o :: rest) a w :=
  wpList_store_part hw ty x y ho g 0 cs hx hy t old hg (by omega) ht h1 fun w' k1 k2 k3 k4 => h w' (by
    have e : spl old 0 cs = cs := by rw [spl_eq _ _ _ (by omega)]; simp [hold]
    rwa [e] at k1) k2 k3 k4
end

/-- what the call has built reads as a list, in a block not older than its base -/
theorem Rd.of_own' {w : World} {base : Nat} {e : TypeId} {sz n : Nat} {v : Value} {xs : List Value} (h : w.ownsRow base e sz v n xs) : ∃ A c, v = .slice A n c ∧ Rd w w.heap.size sz A n c xs ∧ ∀ g o, A = some ⟨g, o, none⟩ → base ≤ g := by
  obtain ⟨A, c, rfl, hr⟩ := Rd.of_own h
  refine ⟨A, c, rfl, hr, ?_⟩
  rintro g o rfl
  rcases h.2 with ⟨h', _⟩ | ⟨g', cap', cur, h', hb, _⟩
  · simp at h'
  · simp only [Value.slice.injEq, Option.some.injEq, Addr.mk.injEq, and_true, true_and] at h'
    obtain ⟨⟨rfl, _⟩, _⟩ := h'
    exact hb
theorem Bk.rdAll {w : World} {g : Nat} {t : TypeId} {cs ds : List Value} (h : Bk w g t cs) (e : cs = ds) {sz n : Nat} (hn : ds.length = n * sz) (hm : n ≤ maxLen) : Rd w w.heap.size sz (some ⟨g, 0, none⟩) n n ds := by
  subst e
  have := h.rd (sz := sz) (n := n) (c := n) (o := 0) (by omega) (Nat.le_refl _) hm
  rwa [List.drop_zero, List.take_of_length_le (by omega)] at this
/-- a row that reads as a list, its own block being as it was -/
theorem Rd.stay {w w' : World} {B B' sz n c : Nat} {A : Option Addr} {xs : List Value} (h : Rd w B sz A n c xs) (hk : ∀ g o, A = some ⟨g, o, none⟩ → w'.heap[g]? = w.heap[g]?) (hB : B ≤ B') : Rd w' B' sz A n c xs :=
  ⟨h.len, h.le, h.mx, fun hn => by
    obtain ⟨g, o, e, hb, hc⟩ := h.at_ hn
    exact ⟨g, o, e, by omega, fun j u hu => (World.cell?_of_block (hk g o e)).trans (hc j u hu)⟩⟩

theorem Bk.cell_of {w : World} {g : Nat} {t : TypeId} {cs : List Value} (h : Bk w g t cs) (i : Nat) (v : Value) (e : cs[i]? = some v) : w.cell? ⟨g, i, none⟩ = some v := (h.cell i).trans e
theorem Bk.own_grown {w w' : World} {g : Nat} {t : TypeId} {cs : List Value} (h : Bk w g t cs) {base : Nat} {e : TypeId} {sz n : Nat} {v : Value} {xs : List Value} (hown : w.ownsRow base e sz v n xs) (hg : w.grownBy w' v.ownBlock) (hb : g < base) : Bk w' g t cs :=
  h.grown hg fun he => by have := (hown.lt g he.symm).1; omega

end Go.Proofs.Ytcahadkkjfijfaa
