/- Statements that draw their order, over St: what only reads is taken first; what acts comes in each order that is left. -/
import Derived.Test.YtcahadkkjfijfaaStW
import Derived.Deep.RegionHeld3
set_option linter.unusedVariables false
set_option linter.unusedSimpArgs false
namespace Go.Proofs.Ytcahadkkjfijfaa
open Go.RowKit

/-- what stays while a statement is carried out: these blocks, these data -/
def Hold (B : Nat) (Mr : List Mu) (D : List Da) (w : World) : Prop := (∀ m ∈ Mr, m.ok B w) ∧ ∀ d ∈ D, d.ok w
theorem memM_nil {M : List Mu} : ∀ m ∈ ([] : List Mu), m ∈ M := fun _ h => by cases h
theorem memM_cons {m : Mu} {l M : List Mu} (h : m ∈ M) (t : ∀ e ∈ l, e ∈ M) : ∀ e ∈ m :: l, e ∈ M := fun e he => by
  rcases List.mem_cons.1 he with rfl | he
  · exact h
  · exact t e he
theorem St.hold {w0 w : World} {D0 D Dr : List Da} {M Mr : List Mu} (h : St w0 D0 w M D) (hM : ∀ m ∈ Mr, m ∈ M) (hD : ∀ d ∈ Dr, d ∈ D) : Hold w0.heap.size Mr Dr w :=
  ⟨fun m hm => by
    obtain ⟨i, hi, e⟩ := List.mem_iff_getElem.1 (hM m hm)
    exact h.mu i m (by rw [List.getElem?_eq_getElem hi, e]), fun d hd => h.dat d (hD d hd)⟩
section
variable {P : Program} {ops : Array Oper} {Q : Exit → Act → World → Prop} {md : Region.Mode} {S : World → Prop} {a : Act} {o : Oper} {B : Nat} {Mr : List Mu} {Dr : List Da}

theorem wp_region_st {id : Nat} {w w0 : World} {D0 D : List Da} {M : List Mu} (hm : P.follows .mixedOrders = true) (hF : St w0 D0 w M D) (Mr : List Mu) (Dr : List Da) (hM : ∀ m ∈ Mr, m ∈ M) (hD : ∀ d ∈ Dr, d ∈ D)
    (h : St w0 D0 w.drew M D → Hold w0.heap.size Mr Dr w.drew → wpAnyH P .any ops Q (Hold w0.heap.size Mr Dr) ops.size (Array.replicate ops.size false) a w.drew) : (Code.region id ops true).wp P Q a w :=
  wp_region_held hm (h (hF.grow (Bel.drew w)) ((hF.grow (Bel.drew w)).hold hM hD))

theorem Oper.wp_then {w : World} {K : Act → World → Prop} (h : o.wp P a w K (Exit.then K Q)) : o.wp P a w K Q := by
  unfold Oper.wp at *
  generalize (execOp a.eval o).run P w = r at *
  cases r with
  | ok n w' =>
    cases n <;> simp only [Oper.upon] at h ⊢ <;> first | exact h | (exact Calls.mono h (fun e w'' he => by cases e <;> exact he))
  | halt x w' => cases x <;> simp only [Oper.upon] at h ⊢ <;> exact h
theorem ready_cons {fuel : Nat} {listed : Array Bool} {w : World} {i : Nat} {rs : List Nat} (ho : ops.toList[i]? = some o)
    (h : ∀ K' : Act → World → Prop, Shut (∀ a w, S w → wpAnyH P md ops Q S fuel (listed.setIfInBounds i true) a w → K' a w) → wpList P ops (Exit.then K' Q) [o] a w)
    (hs : AllReadyH P md ops Q S fuel listed a w rs) : AllReadyH P md ops Q S fuel listed a w (i :: rs) := fun j hj => by
  rw [Array.getElem?_toList] at ho
  rcases List.mem_cons.1 hj with rfl | hj
  · have h1 := h (fun a' w' => S w' ∧ wpAnyH P md ops Q S fuel (listed.setIfInBounds j true) a' w') (fun a w hS hW => ⟨hS, hW⟩)
    unfold wpOp
    simp only [ho]
    unfold wpList at h1
    split
    · rename_i hw
      rw [if_pos hw] at h1
      rcases h1 with h1 | ⟨h1, b, w2, h2⟩
      · exact .inl (Oper.wp_then h1)
      · exact .inr ⟨h1, b, w2, h2⟩
    · rename_i hw
      rw [if_neg hw] at h1
      exact h1
  · exact hs j hj

theorem st_min {rest : List Oper} {w : World} {x y : Operand} {ts : Array TypeId} (ho : o.op = .call { callee := .builtin .min, args := #[x, y], argTypes := ts }) (hgd : o.guard = none) {k k' : IntKind} {p q : Int} (hx : look a x = some (.int k p)) (hy : look a y = some (.int k' q)) (N : Int) (hN : N = if q < p then q else p)
    (h : wpList P ops Q rest (a.put o.dst (.int k N)) w) : wpList P ops Q (o :: rest) a w := wpList_min hgd x y ts ho k k' p q N (look_eval hx) (look_eval hy) hN h
theorem st_max {rest : List Oper} {w : World} {x y : Operand} {ts : Array TypeId} (ho : o.op = .call { callee := .builtin .max, args := #[x, y], argTypes := ts }) (hgd : o.guard = none) {k k' : IntKind} {p q : Int} (hx : look a x = some (.int k p)) (hy : look a y = some (.int k' q)) (N : Int) (hN : N = if q > p then q else p)
    (h : wpList P ops Q rest (a.put o.dst (.int k N)) w) : wpList P ops Q (o :: rest) a w := wpList_max hgd x y ts ho k k' p q N (look_eval hx) (look_eval hy) hN h
/-- what only reads is taken first -/
theorem rg_take {i t : Nat} {v : Value} {fuel : Nat} {listed : Array Bool} {w : World} (hi : ops.toList[i]? = some o) (hd : o.dst = some t)
    (hs : Region.noSelect ops = true) (hf : Region.free md ops listed i = true) (hr : (Region.ready md ops listed).contains i = true)
    (hQ : ∀ c a w, Q (.panic c) (a.put o.dst v) w → Q (.panic c) a w) (hy : YieldsIf P ops S o v a) (hS : S w)
    (h : wpAnyH P md ops Q S fuel (listed.setIfInBounds i true) { a with tmps := a.tmps.setIfInBounds t v } w) : wpAnyH P md ops Q S (fuel + 1) listed a w := by
  rw [Array.getElem?_toList] at hi
  refine wpAnyH_take hi hs hf hr hQ hy hS ?_
  rw [hd]
  exact h
theorem yi_eq {v v' : Value} (h : YieldsIf P ops S o v' a) (e : v' = v) : YieldsIf P ops S o v a := e ▸ h
theorem yi_skip (hw : Region.wanted o (yielded ops a.tmps) = false) : YieldsIf P ops S o undef a := .inr ⟨hw, rfl⟩
theorem yi_pure {v : Value} (hw : Region.wanted o (yielded ops a.tmps) = true) (h : ∀ w, (execOp a.eval o).run P w = .ok (.value v) w) : YieldsIf P ops S o v a := .inl ⟨hw, fun w _ => h w⟩
theorem yi_move {x : Operand} {v : Value} (ho : o.op = .move x) (hx : look a x = some v) (hw : Region.wanted o (yielded ops a.tmps) = true) : YieldsIf P ops S o v a :=
  yi_pure hw fun w => by rw [← look_eval hx]; unfold execOp; simp only [ho, Sem.run_pure]
theorem yi_assign {x : Operand} {v : Value} (ho : o.op = .assign x) (hx : look a x = some v) (hw : Region.wanted o (yielded ops a.tmps) = true) : YieldsIf P ops S o v a :=
  yi_pure hw fun w => by rw [← look_eval hx]; unfold execOp; simp only [ho, Sem.run_pure]
theorem yi_len {x : Operand} {t e : TypeId} {z : Value} {sz bytes : Nat} {A : Option Addr} {n c : Nat} (ho : o.op = .call { callee := .builtin .len, args := #[x], argTypes := #[t] }) (hx : look a x = some (.slice A n c)) (ht : SlT P t e z sz bytes) (hw : Region.wanted o (yielded ops a.tmps) = true) : YieldsIf P ops S o (.int .i64 (n : Int)) a := by
  replace hx := look_eval hx
  exact yi_pure hw fun w => by
    obtain ⟨hu, _, _, _⟩ := ht
    unfold execOp
    simp [ho, resolve, invoke, builtin, hx, Builtin.len_, run_underlying hu, goInt]
theorem yi_ld1 {ty : TypeId} {x : Operand} (ho : o.op = .load ty x) {g off : Nat} (hx : look a x = some (.pointer (some ⟨g, off, none⟩))) (ht : OneT P ty) (hw : Region.wanted o (yielded ops a.tmps) = true)
    {t : TypeId} {cs : List Value} (hm : Mu.blk g t cs ∈ Mr) {v : Value} (hv : cs[off]? = some v) : YieldsIf P ops (Hold B Mr Dr) o v a := by
  replace hx := look_eval hx
  exact .inl ⟨hw, fun w hS => by
    have hb : (Mu.blk g t cs).ok B w := hS.1 _ hm
    unfold execOp
    simp only [ho, hx, Instr.loadAt, Instr.sureAddr, Sem.run_bind, Sem.run_pure, Result.andThen_ok, run_load_one ht (hb.1.cell_of off v hv)]⟩
theorem yi_ld {ty : TypeId} {x : Operand} (ho : o.op = .load ty x) {g : Nat} (hx : look a x = some (.pointer (some ⟨g, 0, none⟩))) (hw : Region.wanted o (yielded ops a.tmps) = true)
    {t : TypeId} {cs : List Value} (hm : Mu.blk g t cs ∈ Mr) (ht : RowTy P ty cs.length) : YieldsIf P ops (Hold B Mr Dr) o (.agg cs.toArray) a := by
  replace hx := look_eval hx
  exact .inl ⟨hw, fun w hS => by
    have hb : (Mu.blk g t cs).ok B w := hS.1 _ hm
    unfold execOp
    simp only [ho, hx, Instr.loadAt, Instr.sureAddr, Sem.run_bind, Sem.run_pure, Result.andThen_ok, hb.1.loadVar ht]⟩
theorem yi_fldB {s f : Nat} {x : Operand} (ho : o.op = .fieldAddr s x f) {g j : Nat} (hx : look a x = some (.pointer (some ⟨g, j, none⟩))) {off : Nat} (ht : FldT P s f off) (hw : Region.wanted o (yielded ops a.tmps) = true) :
    YieldsIf P ops S o (.pointer (some ⟨g, j + off, none⟩)) a := by
  replace hx := look_eval hx
  exact yi_pure hw fun w => by
    unfold execOp
    simp only [ho, hx, fieldPlace_of ht, addr_add, Sem.run_bind, Sem.run_pure, Result.andThen_ok]
theorem size_of_slT {t e : TypeId} {z : Value} {sz bytes : Nat} (ht : SlT P t e z sz bytes) (w : World) : P.underlying t = some (.slice e) ∧ (sizeOf e).run P w = .ok sz w := by
  obtain ⟨hu, hi, _, _⟩ := ht
  refine ⟨hu, ?_⟩
  cases hq : P.info? e with
  | none => simp [hq] at hi
  | some i =>
    simp only [hq, Option.map_some, Option.some.injEq, Prod.mk.injEq] at hi
    simp [sizeOf, typeInfo, hq, hi.2.1]
theorem yi_ix {t e : TypeId} {x ix : Operand} (ho : o.op = .indexAddr t x ix) {A : Option Addr} {n c : Nat} (hx : look a x = some (.slice A n c)) {k : Nat} {ki : IntKind} (hk : look a ix = some (.int ki (k : Int)))
    {z : Value} {sz bytes : Nat} (ht : SlT P t e z sz bytes) (hw : Region.wanted o (yielded ops a.tmps) = true) {xs : List Value} (hd : rowD sz A n c xs ∈ Dr) (hkn : k < n) : YieldsIf P ops (Hold B Mr Dr) o (ept A (k * sz)) a := by
  replace hx := look_eval hx
  replace hk := look_eval hk
  exact .inl ⟨hw, fun w hS => by
    have hr : Rd w w.heap.size sz A n c xs := hS.2 _ hd
    obtain ⟨g, f, rfl, _, _⟩ := hr.at_ (by omega)
    obtain ⟨hu, hs⟩ := size_of_slT ht w
    have hrun : (Instr.indexAt t (.slice (some ⟨g, f, none⟩) n c) (.int ki (k : Int))).run P w = .ok (ept (some ⟨g, f, none⟩) (k * sz)) w := by
      simp [Instr.indexAt, run_underlying hu, asIntOf, hs, ept, show (k : Int) < (n : Int) by omega]
      intro h; omega
    unfold execOp
    simp only [ho, hx, hk, hrun, Sem.run_bind, Sem.run_pure, Result.andThen_ok]⟩
theorem yi_ixB {t e : TypeId} {x ix : Operand} (ho : o.op = .indexAddr t x ix) {g n c : Nat} (hx : look a x = some (.slice (some ⟨g, 0, none⟩) n c)) {k : Nat} {ki : IntKind} (hk : look a ix = some (.int ki (k : Int)))
    {z : Value} {sz bytes : Nat} (ht : SlT P t e z sz bytes) (hw : Region.wanted o (yielded ops a.tmps) = true) (hkn : k < n) : YieldsIf P ops S o (.pointer (some ⟨g, k * sz, none⟩)) a := by
  replace hx := look_eval hx
  replace hk := look_eval hk
  exact yi_pure hw fun w => by
    obtain ⟨hu, hs⟩ := size_of_slT ht w
    have hrun : (Instr.indexAt t (.slice (some ⟨g, 0, none⟩) n c) (.int ki (k : Int))).run P w = .ok (.pointer (some ⟨g, k * sz, none⟩)) w := by
      simp [Instr.indexAt, run_underlying hu, asIntOf, hs, addr_add, show (k : Int) < (n : Int) by omega]
      intro h; omega
    unfold execOp
    simp only [ho, hx, hk, hrun, Sem.run_bind, Sem.run_pure, Result.andThen_ok]
theorem yi_fld {s f : Nat} {x : Operand} (ho : o.op = .fieldAddr s x f) {A : Option Addr} {j : Nat} (hx : look a x = some (ept A j)) {off : Nat} (ht : FldT P s f off) (hw : Region.wanted o (yielded ops a.tmps) = true)
    {sz n c : Nat} {xs : List Value} (hd : rowD sz A n c xs ∈ Dr) (hn : 0 < n) : YieldsIf P ops (Hold B Mr Dr) o (ept A (j + off)) a := by
  replace hx := look_eval hx
  exact .inl ⟨hw, fun w hS => by
    have hr : Rd w w.heap.size sz A n c xs := hS.2 _ hd
    obtain ⟨g, f0, rfl, _, _⟩ := hr.at_ hn
    rw [ept_add]
    unfold execOp
    simp only [ho, hx, ept, Option.map_some, fieldPlace_of ht, Sem.run_bind, Sem.run_pure, Result.andThen_ok]⟩
theorem yi_lde1 {ty : TypeId} {x : Operand} (ho : o.op = .load ty x) {A : Option Addr} {j : Nat} (hx : look a x = some (ept A j)) (ht : OneT P ty) (hw : Region.wanted o (yielded ops a.tmps) = true)
    {sz n c : Nat} {xs : List Value} (hd : rowD sz A n c xs ∈ Dr) {v : Value} (hv : xs[j]? = some v) : YieldsIf P ops (Hold B Mr Dr) o v a := by
  replace hx := look_eval hx
  exact .inl ⟨hw, fun w hS => by
    have hr : Rd w w.heap.size sz A n c xs := hS.2 _ hd
    have hn : 0 < n := by
      have h1 := (List.getElem?_eq_some_iff.1 hv).1
      have h2 := hr.len
      rcases Nat.eq_zero_or_pos n with h0 | h0
      · subst h0; omega
      · exact h0
    obtain ⟨g, f, rfl, _, hc⟩ := hr.at_ hn
    unfold execOp
    simp only [ho, hx, ept, Option.map_some, addr_add, Instr.loadAt, Instr.sureAddr, Sem.run_bind, Sem.run_pure, Result.andThen_ok, run_load_one ht (hc j v hv)]⟩
theorem yi_lde {ty : TypeId} {x : Operand} (ho : o.op = .load ty x) {A : Option Addr} {j : Nat} (hx : look a x = some (ept A j)) (hw : Region.wanted o (yielded ops a.tmps) = true)
    {sz n c : Nat} {xs : List Value} (hd : rowD sz A n c xs ∈ Dr) (us : List Value) (hu : ∀ i u, us[i]? = some u → xs[j + i]? = some u) (ht : RowTy P ty us.length) (h0 : 0 < us.length) : YieldsIf P ops (Hold B Mr Dr) o (.agg us.toArray) a := by
  replace hx := look_eval hx
  exact .inl ⟨hw, fun w hS => by
    have hr : Rd w w.heap.size sz A n c xs := hS.2 _ hd
    have hn : 0 < n := by
      have h1 := (List.getElem?_eq_some_iff.1 (hu 0 _ (List.getElem?_eq_getElem h0))).1
      have h2 := hr.len
      rcases Nat.eq_zero_or_pos n with h3 | h3
      · subst h3; omega
      · exact h3
    obtain ⟨g, f, rfl, _, hc⟩ := hr.at_ hn
    have hl := run_loadVar_elem (P := P) w g (f + j) ty us (fun i u hi => by rw [Nat.add_assoc]; exact hc (j + i) u (hu i u hi)) ht
    unfold execOp
    simp only [ho, hx, ept, Option.map_some, addr_add, Instr.loadAt, Instr.sureAddr, Sem.run_bind, Sem.run_pure, Result.andThen_ok, hl]⟩
theorem yi_to {t e : TypeId} {x y : Operand} (ho : o.op = .slice t x none (some y) none) {A : Option Addr} {n c N : Nat} (hx : look a x = some (.slice A n c)) {ki : IntKind} (hy : look a y = some (.int ki (N : Int)))
    {z : Value} {sz bytes : Nat} (ht : SlT P t e z sz bytes) (hw : Region.wanted o (yielded ops a.tmps) = true) (hN : N ≤ c) : YieldsIf P ops S o (.slice A N c) a := by
  replace hx := look_eval hx
  replace hy := look_eval hy
  exact yi_pure hw fun w => by
    obtain ⟨hu, hs⟩ := size_of_slT ht w
    have hel : P.elem t = e := by simp [Program.elem, hu]
    have h1 := run_slice_h (P := P) (w := w) t A n c (by rw [hel]; exact hu) ki (N : Int) (by omega) (by omega)
    have h2 : (Instr.sliceAt t (.slice A n c) none (some (.int ki (N : Int))) none).run P w = .ok (.slice A N c) w := by
      rw [run_sliceAt_slice (P := P) (w := w) t _ _ _ _ (by rw [hel]; exact hu), h1, hel, hs]
      simp only [Result.andThen_ok, sliced, Int.toNat_natCast, Nat.zero_mul, Nat.sub_zero]
      congr 2
      split
      · rfl
      · cases A with
        | none => rfl
        | some ad => simp [Addr.add]
    unfold execOp
    simp only [ho, hx, hy, Option.map_some, Option.map_none, h2, Sem.run_bind, Sem.run_pure, Result.andThen_ok]
theorem yi_from {t e : TypeId} {x y : Operand} (ho : o.op = .slice t x (some y) none none) {A : Option Addr} {n c k : Nat} (hx : look a x = some (.slice A n c)) {ki : IntKind} (hy : look a y = some (.int ki (k : Int)))
    {z : Value} {sz bytes : Nat} (ht : SlT P t e z sz bytes) (hw : Region.wanted o (yielded ops a.tmps) = true) (hk : k ≤ n) : YieldsIf P ops S o (.slice (cutA A k c sz) (n - k) (c - k)) a := by
  replace hx := look_eval hx
  replace hy := look_eval hy
  exact yi_pure hw fun w => by
    obtain ⟨hu, hs⟩ := size_of_slT ht w
    have hel : P.elem t = e := by simp [Program.elem, hu]
    have h1 := run_slice_l (P := P) (w := w) t A n c (by rw [hel]; exact hu) ki (k : Int) (by omega) (by omega)
    have h2 : (Instr.sliceAt t (.slice A n c) (some (.int ki (k : Int))) none none).run P w = .ok (.slice (cutA A k c sz) (n - k) (c - k)) w := by
      rw [run_sliceAt_slice (P := P) (w := w) t _ _ _ _ (by rw [hel]; exact hu), h1, hel, hs]
      simp only [Result.andThen_ok, sliced, Int.toNat_natCast, cutA]
    unfold execOp
    simp only [ho, hx, hy, Option.map_some, Option.map_none, h2, Sem.run_bind, Sem.run_pure, Result.andThen_ok]
end
end Go.Proofs.Ytcahadkkjfijfaa
