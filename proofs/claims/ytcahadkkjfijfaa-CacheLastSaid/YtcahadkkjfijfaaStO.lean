/- More laws over St: elements of rows that are appended to; minima within statements that draw their order. -/
import Derived.Test.YtcahadkkjfijfaaStM3
set_option linter.unusedVariables false
set_option linter.unusedSimpArgs false
namespace Go.Proofs.Ytcahadkkjfijfaa
open Go.RowKit

section
variable {P : Program} {ops : Array Oper} {rest : List Oper} {o : Oper} {a : Act} {Q : Exit → Act → World → Prop} {w0 w : World} {D0 D : List Da} {M : List Mu} {S : World → Prop} {B : Nat} {Mr : List Mu} {Dr : List Da}
theorem w_ldo {ty : TypeId} {x : Operand} {g off i n c : Nat} {e : TypeId} {sz : Nat} {xs us : List Value} {v : Value} (ho : o.op = .load ty x) (hF : St w0 D0 w M D) (hx : look a x = some (.pointer (some ⟨g, off, none⟩)))
    (h : wpList P ops Q rest (a.put o.dst v) w) (hw : Region.wanted o (yielded ops a.tmps) = true := by rfl) (hi : M[i]? = some (.own (.slice (some ⟨g, 0, none⟩) n c) e sz n xs) := by (first | exact at0 | exact at1 | exact at2 | exact at3 | exact at4 | exact at5 | exact at6 | exact at7))
    (hu : ∀ j u, us[j]? = some u → xs[off + j]? = some u := by exact Rows.sub (by assumption)) (ht : RowTy P ty us.length := by exact tyRow _ _ rfl) (hv : .agg us.toArray = v := by exact rfl) : wpList P ops Q (o :: rest) a w :=
  st_ldo ho hF hx hw hi us hu ht hv h
theorem own_cell {w : World} {B g n c : Nat} {e : TypeId} {sz : Nat} {xs : List Value} (h : (Mu.own (.slice (some ⟨g, 0, none⟩) n c) e sz n xs).ok B w) (j : Nat) (u : Value) (hu : xs[j]? = some u) : w.cell? ⟨g, j, none⟩ = some u := by
  have := World.ownsRow.cells h (g := g) rfl j u hu
  rwa [addr_add, Nat.zero_add] at this
theorem y_ld1o {ty : TypeId} {x : Operand} {g off n c : Nat} {e : TypeId} {sz : Nat} {xs : List Value} {v : Value} (ho : o.op = .load ty x) (hx : look a x = some (.pointer (some ⟨g, off, none⟩))) (ht : OneT P ty := by exact tyOne _ rfl) (hw : Region.wanted o (yielded ops a.tmps) = true := by rfl)
    (hm : Mu.own (.slice (some ⟨g, 0, none⟩) n c) e sz n xs ∈ Mr := by ((repeat (first | exact List.Mem.head _ | refine List.Mem.tail _ ?_)) <;> exact List.Mem.head _)) (hv : xs[off]? = some v := by first | exact rfl | assumption | exact Rows.el (by assumption) rfl | exact Rows.el0 (by assumption) rfl) : YieldsIf P ops (Hold B Mr Dr) o v a := by
  replace hx := look_eval hx
  exact .inl ⟨hw, fun w hS => by
    have hb : (Mu.own (.slice (some ⟨g, 0, none⟩) n c) e sz n xs).ok B w := hS.1 _ hm
    unfold execOp
    simp only [ho, hx, Instr.loadAt, Instr.sureAddr, Sem.run_bind, Sem.run_pure, Result.andThen_ok, run_load_one ht (own_cell hb off v hv)]⟩
theorem run_min2 {w : World} {x y : Operand} {ts : Array TypeId} {k k' : IntKind} {p q N : Int} (ho : o.op = .call { callee := .builtin .min, args := #[x, y], argTypes := ts }) (hx : look a x = some (.int k p)) (hy : look a y = some (.int k' q)) (hN : N = if q < p then q else p) : (execOp a.eval o).run P w = .ok (.value (.int k N)) w := by
  replace hx := look_eval hx
  replace hy := look_eval hy
  have hrun := fun ts t => run_min_int2 (P := P) w ts t k k' p q
  unfold execOp
  simp only [ho, resolve, invoke, builtin, Sem.run_bind, Sem.run_pure, Result.andThen_ok, List.map_toArray, List.map_cons, List.map_nil, hx, hy, hrun]
  rw [← hN]
/-- 'min(a, b)', as the context tells it -/
theorem y_min {x y : Operand} {ts : Array TypeId} {k k' : IntKind} {p q N : Int} (ho : o.op = .call { callee := .builtin .min, args := #[x, y], argTypes := ts }) (hx : look a x = some (.int k p)) (hy : look a y = some (.int k' q)) (hN : Hid (N = if q < p then q else p) := by assumption) (hw : Region.wanted o (yielded ops a.tmps) = true := by rfl) :
    YieldsIf P ops S o (.int k N) a := yi_pure hw fun w => run_min2 ho hx hy hN.out
theorem w_minH {x y : Operand} {ts : Array TypeId} {k k' : IntKind} {p q N : Int} (ho : o.op = .call { callee := .builtin .min, args := #[x, y], argTypes := ts }) (hx : look a x = some (.int k p)) (hy : look a y = some (.int k' q))
    (h : wpList P ops Q rest (a.put o.dst (.int k N)) w) (hgd : o.guard = none := by rfl) (hN : Hid (N = if q < p then q else p) := by assumption) : wpList P ops Q (o :: rest) a w := w_min N ho hx hy h hgd hN.out
theorem w_resscss {fn : Func} {p q q' q'' : Tmp} {ty t : TypeId} {g i : Nat} {cs : List Value} {tmps : Array Value} (h : fn.results = #[.tmp q, .cell p ty, .tmp q', .tmp q'']) (hF : St w0 D0 w M D) (hp : tmps.getD p undef = .pointer (some ⟨g, 0, none⟩) := by rfl) (hi : M[i]? = some (.blk g t cs) := by (first | exact at0 | exact at1 | exact at2 | exact at3 | exact at4 | exact at5 | exact at6 | exact at7)) (ht : RowTy P ty cs.length := by exact tyRow _ _ rfl) :
    (results fn tmps).run P w = .ok (.tuple #[tmps.getD q undef, .agg cs.toArray, tmps.getD q' undef, tmps.getD q'' undef]) w := res_scss h hp (hF.bkAt hi) ht
theorem St.swap {x y : Mu} (h : St w0 D0 w (x :: y :: M) D) : St w0 D0 w (y :: x :: M) D :=
  h.less ⟨fun i => if i = 0 then 1 else if i = 1 then 0 else i, fun i j e => by
    dsimp only at e
    repeat' split at e
    all_goals omega, fun i m hm => by
    match i with
    | 0 => exact hm
    | 1 => exact hm
    | i + 2 => exact hm⟩ fun d hd => hd
end
/-- a row, some of whose first records have turned -/
def mixL {α : Type} (f : α → α) (T : List α) (j : Nat) : List α := (T.map f).take j ++ T.drop j
section
variable {α : Type} {f : α → α} {T : List α} {j : Nat} {s : α}
theorem mixL_0 : mixL f T 0 = T := by simp [mixL]
theorem mixL_len : (mixL f T j).length = T.length := by simp [mixL]; omega
theorem mixL_at (h : T[j]? = some s) : (mixL f T j)[j]? = some s := by
  have hj := (List.getElem?_eq_some_iff.1 h).1
  unfold mixL
  rw [List.getElem?_append_right (by simp; omega)]
  simp [List.length_take, Nat.min_eq_left (show j ≤ T.length by omega), h]
theorem mixL_set (h : T[j]? = some s) : (mixL f T j).set j (f s) = mixL f T (j + 1) := by
  obtain ⟨hj, e⟩ := List.getElem?_eq_some_iff.1 h
  unfold mixL
  rw [List.set_append_right _ _ (by simp; omega), List.take_succ_eq_append_getElem (by simpa using hj), List.drop_eq_getElem_cons hj]
  simp [List.length_take, Nat.min_eq_left (show j ≤ T.length by omega), e]
theorem mixL_all (h : T.length ≤ j) : mixL f T j = T.map f := by
  unfold mixL
  rw [List.take_of_length_le (by simpa using h), List.drop_of_length_le h, List.append_nil]
end
end Go.Proofs.Ytcahadkkjfijfaa
