/- The laws over St once more: what is looked up (a type's facts, a block's place, a row's place among the data) is found by a tactic that stands here once. -/
import Derived.Test.YtcahadkkjfijfaaTysT
set_option linter.unusedVariables false
set_option linter.unusedSimpArgs false
namespace Go.Proofs.Ytcahadkkjfijfaa
open Go.RowKit

theorem mem0 {α : Type} {m : α} {M : List α} : m ∈  m :: M := List.Mem.head _
theorem mem1 {α : Type} {a0 m : α} {M : List α} : m ∈ a0 :: m :: M := List.Mem.tail _ (List.Mem.head _)
theorem mem2 {α : Type} {a0 a1 m : α} {M : List α} : m ∈ a0 :: a1 :: m :: M := List.Mem.tail _ (List.Mem.tail _ (List.Mem.head _))
theorem mem3 {α : Type} {a0 a1 a2 m : α} {M : List α} : m ∈ a0 :: a1 :: a2 :: m :: M := List.Mem.tail _ (List.Mem.tail _ (List.Mem.tail _ (List.Mem.head _)))
theorem mem4 {α : Type} {a0 a1 a2 a3 m : α} {M : List α} : m ∈ a0 :: a1 :: a2 :: a3 :: m :: M := List.Mem.tail _ (List.Mem.tail _ (List.Mem.tail _ (List.Mem.tail _ (List.Mem.head _))))
theorem mem5 {α : Type} {a0 a1 a2 a3 a4 m : α} {M : List α} : m ∈ a0 :: a1 :: a2 :: a3 :: a4 :: m :: M := List.Mem.tail _ (List.Mem.tail _ (List.Mem.tail _ (List.Mem.tail _ (List.Mem.tail _ (List.Mem.head _)))))
theorem mem6 {α : Type} {a0 a1 a2 a3 a4 a5 m : α} {M : List α} : m ∈ a0 :: a1 :: a2 :: a3 :: a4 :: a5 :: m :: M := List.Mem.tail _ (List.Mem.tail _ (List.Mem.tail _ (List.Mem.tail _ (List.Mem.tail _ (List.Mem.tail _ (List.Mem.head _))))))
theorem mem7 {α : Type} {a0 a1 a2 a3 a4 a5 a6 m : α} {M : List α} : m ∈ a0 :: a1 :: a2 :: a3 :: a4 :: a5 :: a6 :: m :: M := List.Mem.tail _ (List.Mem.tail _ (List.Mem.tail _ (List.Mem.tail _ (List.Mem.tail _ (List.Mem.tail _ (List.Mem.tail _ (List.Mem.head _)))))))
theorem mem8 {α : Type} {a0 a1 a2 a3 a4 a5 a6 a7 m : α} {M : List α} : m ∈ a0 :: a1 :: a2 :: a3 :: a4 :: a5 :: a6 :: a7 :: m :: M := List.Mem.tail _ (List.Mem.tail _ (List.Mem.tail _ (List.Mem.tail _ (List.Mem.tail _ (List.Mem.tail _ (List.Mem.tail _ (List.Mem.tail _ (List.Mem.head _))))))))
theorem mem9 {α : Type} {a0 a1 a2 a3 a4 a5 a6 a7 a8 m : α} {M : List α} : m ∈ a0 :: a1 :: a2 :: a3 :: a4 :: a5 :: a6 :: a7 :: a8 :: m :: M := List.Mem.tail _ (List.Mem.tail _ (List.Mem.tail _ (List.Mem.tail _ (List.Mem.tail _ (List.Mem.tail _ (List.Mem.tail _ (List.Mem.tail _ (List.Mem.tail _ (List.Mem.head _)))))))))
theorem mem10 {α : Type} {a0 a1 a2 a3 a4 a5 a6 a7 a8 a9 m : α} {M : List α} : m ∈ a0 :: a1 :: a2 :: a3 :: a4 :: a5 :: a6 :: a7 :: a8 :: a9 :: m :: M := List.Mem.tail _ (List.Mem.tail _ (List.Mem.tail _ (List.Mem.tail _ (List.Mem.tail _ (List.Mem.tail _ (List.Mem.tail _ (List.Mem.tail _ (List.Mem.tail _ (List.Mem.tail _ (List.Mem.head _))))))))))
theorem mem11 {α : Type} {a0 a1 a2 a3 a4 a5 a6 a7 a8 a9 a10 m : α} {M : List α} : m ∈ a0 :: a1 :: a2 :: a3 :: a4 :: a5 :: a6 :: a7 :: a8 :: a9 :: a10 :: m :: M := List.Mem.tail _ (List.Mem.tail _ (List.Mem.tail _ (List.Mem.tail _ (List.Mem.tail _ (List.Mem.tail _ (List.Mem.tail _ (List.Mem.tail _ (List.Mem.tail _ (List.Mem.tail _ (List.Mem.tail _ (List.Mem.head _)))))))))))
theorem mem12 {α : Type} {a0 a1 a2 a3 a4 a5 a6 a7 a8 a9 a10 a11 m : α} {M : List α} : m ∈ a0 :: a1 :: a2 :: a3 :: a4 :: a5 :: a6 :: a7 :: a8 :: a9 :: a10 :: a11 :: m :: M := List.Mem.tail _ (List.Mem.tail _ (List.Mem.tail _ (List.Mem.tail _ (List.Mem.tail _ (List.Mem.tail _ (List.Mem.tail _ (List.Mem.tail _ (List.Mem.tail _ (List.Mem.tail _ (List.Mem.tail _ (List.Mem.tail _ (List.Mem.head _))))))))))))
theorem mem13 {α : Type} {a0 a1 a2 a3 a4 a5 a6 a7 a8 a9 a10 a11 a12 m : α} {M : List α} : m ∈ a0 :: a1 :: a2 :: a3 :: a4 :: a5 :: a6 :: a7 :: a8 :: a9 :: a10 :: a11 :: a12 :: m :: M := List.Mem.tail _ (List.Mem.tail _ (List.Mem.tail _ (List.Mem.tail _ (List.Mem.tail _ (List.Mem.tail _ (List.Mem.tail _ (List.Mem.tail _ (List.Mem.tail _ (List.Mem.tail _ (List.Mem.tail _ (List.Mem.tail _ (List.Mem.tail _ (List.Mem.head _)))))))))))))
theorem mem14 {α : Type} {a0 a1 a2 a3 a4 a5 a6 a7 a8 a9 a10 a11 a12 a13 m : α} {M : List α} : m ∈ a0 :: a1 :: a2 :: a3 :: a4 :: a5 :: a6 :: a7 :: a8 :: a9 :: a10 :: a11 :: a12 :: a13 :: m :: M := List.Mem.tail _ (List.Mem.tail _ (List.Mem.tail _ (List.Mem.tail _ (List.Mem.tail _ (List.Mem.tail _ (List.Mem.tail _ (List.Mem.tail _ (List.Mem.tail _ (List.Mem.tail _ (List.Mem.tail _ (List.Mem.tail _ (List.Mem.tail _ (List.Mem.tail _ (List.Mem.head _))))))))))))))
theorem mem15 {α : Type} {a0 a1 a2 a3 a4 a5 a6 a7 a8 a9 a10 a11 a12 a13 a14 m : α} {M : List α} : m ∈ a0 :: a1 :: a2 :: a3 :: a4 :: a5 :: a6 :: a7 :: a8 :: a9 :: a10 :: a11 :: a12 :: a13 :: a14 :: m :: M := List.Mem.tail _ (List.Mem.tail _ (List.Mem.tail _ (List.Mem.tail _ (List.Mem.tail _ (List.Mem.tail _ (List.Mem.tail _ (List.Mem.tail _ (List.Mem.tail _ (List.Mem.tail _ (List.Mem.tail _ (List.Mem.tail _ (List.Mem.tail _ (List.Mem.tail _ (List.Mem.tail _ (List.Mem.head _)))))))))))))))
theorem subn_nil {α : Type} {D : List α} : ∀ x ∈ ([] : List α), x ∈ D := fun _ h => by cases h
theorem subn_cons {α : Type} {d : α} {l D : List α} (h : d ∈ D) (t : ∀ e ∈ l, e ∈ D) : ∀ e ∈ d :: l, e ∈ D := fun e he => by
  rcases List.mem_cons.1 he with rfl | he
  · exact h
  · exact t e he
theorem sub1 {α : Type} {a : α} {D : List α} (h0 : a ∈ D) : ∀ x ∈ [a], x ∈ D := (subn_cons h0 subn_nil)
theorem sub2 {α : Type} {a b : α} {D : List α} (h0 : a ∈ D) (h1 : b ∈ D) : ∀ x ∈ [a, b], x ∈ D := (subn_cons h0 (subn_cons h1 subn_nil))
theorem sub3 {α : Type} {a b c : α} {D : List α} (h0 : a ∈ D) (h1 : b ∈ D) (h2 : c ∈ D) : ∀ x ∈ [a, b, c], x ∈ D := (subn_cons h0 (subn_cons h1 (subn_cons h2 subn_nil)))
theorem sub4 {α : Type} {a b c d : α} {D : List α} (h0 : a ∈ D) (h1 : b ∈ D) (h2 : c ∈ D) (h3 : d ∈ D) : ∀ x ∈ [a, b, c, d], x ∈ D := (subn_cons h0 (subn_cons h1 (subn_cons h2 (subn_cons h3 subn_nil))))
theorem sub5 {α : Type} {a b c d e : α} {D : List α} (h0 : a ∈ D) (h1 : b ∈ D) (h2 : c ∈ D) (h3 : d ∈ D) (h4 : e ∈ D) : ∀ x ∈ [a, b, c, d, e], x ∈ D := (subn_cons h0 (subn_cons h1 (subn_cons h2 (subn_cons h3 (subn_cons h4 subn_nil)))))
theorem sub6 {α : Type} {a b c d e f : α} {D : List α} (h0 : a ∈ D) (h1 : b ∈ D) (h2 : c ∈ D) (h3 : d ∈ D) (h4 : e ∈ D) (h5 : f ∈ D) : ∀ x ∈ [a, b, c, d, e, f], x ∈ D := (subn_cons h0 (subn_cons h1 (subn_cons h2 (subn_cons h3 (subn_cons h4 (subn_cons h5 subn_nil))))))
/-- a value of one cell; a row of such -/
class One1 (v : Value) : Prop where
  one : v.oneCell' = true
class OneC (xs : List Value) : Prop where
  one : ∀ u ∈ xs, u.oneCell' = true
instance oneInt (k : IntKind) (n : Int) : One1 (.int k n) := ⟨rfl⟩
instance oneBool (b : Bool) : One1 (.bool b) := ⟨rfl⟩
instance oneStr (s : ByteArray) : One1 (.string s) := ⟨rfl⟩
instance oneSl (A : Option Addr) (n c : Nat) : One1 (.slice A n c) := ⟨rfl⟩
instance onePtr (A : Option Addr) : One1 (.pointer A) := ⟨rfl⟩
instance oneNil : OneC [] := ⟨one_nil⟩
instance oneCons (v : Value) (l : List Value) [One1 v] [OneC l] : OneC (v :: l) := ⟨one_cons One1.one OneC.one⟩
instance oneApp (k l : List Value) [OneC k] [OneC l] : OneC (k ++ l) := ⟨fun u hu => by
  rcases List.mem_append.1 hu with h | h
  · exact OneC.one u h
  · exact OneC.one u h⟩
instance oneTake (l : List Value) (k : Nat) [OneC l] : OneC (l.take k) := ⟨take_one OneC.one k⟩
instance oneDrop (l : List Value) (k : Nat) [OneC l] : OneC (l.drop k) := ⟨drop_one OneC.one k⟩
instance oneBytes (l : List UInt8) : OneC (byteCells l) := ⟨byteCells_one l⟩
/-- a value of one cell, be it that it is a row that stands among the blocks -/
def OneM (M : List Mu) (v : Value) : Prop := v.oneCell' = true ∨ ∃ (i : Nat) (e : TypeId) (sz n : Nat) (xs : List Value), M[i]? = some (.own v e sz n xs)
theorem St.oneM {w0 w : World} {D0 D : List Da} {M : List Mu} (h : St w0 D0 w M D) {v : Value} (hv : OneM M v) : v.oneCell' = true := by
  rcases hv with h1 | ⟨i, e, sz, n, xs, hi⟩
  · exact h1
  · exact h.ownOne hi
theorem oneM_nil {M : List Mu} : ∀ u ∈ ([] : List Value), OneM M u := fun _ h => by cases h
theorem oneM_cons {M : List Mu} {v : Value} {l : List Value} (h : OneM M v) (t : ∀ u ∈ l, OneM M u) : ∀ u ∈ v :: l, OneM M u := fun u hu => by
  rcases List.mem_cons.1 hu with rfl | hu
  · exact h
  · exact t u hu
theorem oneM_all {M : List Mu} {l : List Value} [OneC l] : ∀ u ∈ l, OneM M u := fun u hu => .inl (OneC.one u hu)

/-- rows of records -/
class Rows {α : Type} (f : List α → List Value) (cells : outParam (α → List Value)) (sz : outParam Nat) : Prop where
  flat : ∀ q, f q = q.flatMap cells
  len : ∀ r, (cells r).length = sz
  one : ∀ r, ∀ u ∈ cells r, u.oneCell' = true
  pos : 0 < sz
section
variable {α : Type} {f : List α → List Value} {cells : α → List Value} {sz : Nat}
theorem Rows.length [H : Rows f cells sz] (q : List α) : (f q).length = q.length * sz := by
  rw [H.flat]
  induction q with
  | nil => simp
  | cons r q ih => rw [List.flatMap_cons, List.length_append, H.len, ih, List.length_cons, Nat.add_mul]; omega
theorem Rows.append [H : Rows f cells sz] (p q : List α) : f (p ++ q) = f p ++ f q := by rw [H.flat, H.flat, H.flat, List.flatMap_append]
theorem Rows.single [H : Rows f cells sz] (r : α) : f [r] = cells r := by rw [H.flat]; simp
theorem Rows.take [H : Rows f cells sz] (q : List α) (k : Nat) : (f q).take (k * sz) = f (q.take k) := by
  rw [H.flat, H.flat]
  induction q generalizing k with
  | nil => simp
  | cons r q ih =>
    cases k with
    | zero => simp
    | succ k => rw [List.flatMap_cons, List.take_append, H.len, List.take_of_length_le (by rw [H.len, Nat.add_mul]; omega), show (k + 1) * sz - sz = k * sz by rw [Nat.add_mul]; omega, ih, List.take_succ_cons, List.flatMap_cons]
theorem Rows.drop [H : Rows f cells sz] (q : List α) (k : Nat) : (f q).drop (k * sz) = f (q.drop k) := by
  rw [H.flat, H.flat]
  induction q generalizing k with
  | nil => simp
  | cons r q ih =>
    cases k with
    | zero => simp
    | succ k => rw [List.flatMap_cons, List.drop_append, H.len, List.drop_of_length_le (by rw [H.len, Nat.add_mul]; omega), show (k + 1) * sz - sz = k * sz by rw [Nat.add_mul]; omega, ih, List.drop_succ_cons, List.nil_append]
theorem Rows.el [H : Rows f cells sz] {q : List α} {k : Nat} {v : α} (h : q[k]? = some v) {i : Nat} {u : Value} (hu : (cells v)[i]? = some u) : (f q)[k * sz + i]? = some u := by
  obtain ⟨hl, e⟩ := List.getElem?_eq_some_iff.1 h
  have hi : i < sz := by have := (List.getElem?_eq_some_iff.1 hu).1; rwa [H.len] at this
  have h1 : (f q).drop (k * sz) = cells v ++ f (q.drop (k + 1)) := by
    rw [H.drop, List.drop_eq_getElem_cons hl, e, ← H.single, ← H.append]
    rfl
  have h2 : (f q)[k * sz + i]? = ((f q).drop (k * sz))[i]? := by rw [List.getElem?_drop]
  rw [h2, h1, List.getElem?_append_left (by rw [H.len]; exact hi), hu]
theorem Rows.el0 [H : Rows f cells sz] {q : List α} {k : Nat} {v : α} (h : q[k]? = some v) {u : Value} (hu : (cells v)[0]? = some u) : (f q)[k * sz]? = some u := H.el h hu
theorem Rows.sub [H : Rows f cells sz] {q : List α} {k : Nat} {v : α} (h : q[k]? = some v) : ∀ i u, (cells v)[i]? = some u → (f q)[k * sz + i]? = some u := fun _ _ hu => H.el h hu
theorem Rows.ones [H : Rows f cells sz] (q : List α) : ∀ u ∈ f q, u.oneCell' = true := by
  intro u hu
  rw [H.flat] at hu
  obtain ⟨r, _, h⟩ := List.mem_flatMap.1 hu
  exact H.one r u h
theorem Rows.spl [H : Rows f cells sz] {q : List α} {k : Nat} {r : α} (hk : k < q.length) : spl (f q) (k * sz) (cells r) = f (q.set k r) := by
  have h1 : (k + 1) * sz ≤ q.length * sz := Nat.mul_le_mul_right _ hk
  rw [Nat.add_mul, Nat.one_mul] at h1
  rw [spl_eq _ _ _ (by rw [H.length, H.len]; exact h1), H.len, show k * sz + sz = (k + 1) * sz by rw [Nat.add_mul, Nat.one_mul], H.take, H.drop, List.set_eq_take_append_cons_drop, if_pos hk, H.append, ← H.single r, List.append_assoc, ← H.append]
  rfl
end

section
variable {P : Program} {ops : Array Oper} {rest : List Oper} {o : Oper} {a : Act} {Q : Exit → Act → World → Prop} {w0 w : World} {D0 D : List Da} {M : List Mu}

theorem w_box {ty : TypeId} {x : Operand} {v : Value} {cs : List Value} (ho : o.op = .box ty x) (hF : St w0 D0 w M D) (hx : look a x = some v)
    (h : ∀ g w', St w0 D0 w' (.blk g ty cs :: M) D → wpList P ops Q rest (a.put o.dst (.pointer (some ⟨g, 0, none⟩))) w') (hgd : o.guard = none := by rfl) (hc : v.cells = cs.toArray := by exact rfl) : wpList P ops Q (o :: rest) a w :=
  st_box ho hgd hF hx cs hc h
theorem w_alloc {ty : TypeId} {cs : List Value} (ho : o.op = .alloc ty) (hF : St w0 D0 w M D)
    (h : ∀ g w', St w0 D0 w' (.blk g ty cs :: M) D → wpList P ops Q rest (a.put o.dst (.pointer (some ⟨g, 0, none⟩))) w') (hgd : o.guard = none := by rfl) (hz : ZeroT P ty cs := by exact tyZero _ _ rfl) : wpList P ops Q (o :: rest) a w :=
  st_alloc ho hgd hF cs hz h
theorem w_ld1 {ty : TypeId} {x : Operand} {g off i : Nat} {t : TypeId} {cs : List Value} {v : Value} (ho : o.op = .load ty x) (hF : St w0 D0 w M D) (hx : look a x = some (.pointer (some ⟨g, off, none⟩)))
    (h : wpList P ops Q rest (a.put o.dst v) w) (ht : OneT P ty := by exact tyOne _ rfl) (hw : Region.wanted o (yielded ops a.tmps) = true := by rfl) (hi : M[i]? = some (.blk g t cs) := by (first | exact at0 | exact at1 | exact at2 | exact at3 | exact at4 | exact at5 | exact at6 | exact at7)) (hv : cs[off]? = some v := by first | exact rfl | assumption) : wpList P ops Q (o :: rest) a w :=
  st_ld1 ho hF hx ht hw hi hv h
theorem w_ld {ty : TypeId} {x : Operand} {g i : Nat} {t : TypeId} {cs : List Value} {v : Value} (ho : o.op = .load ty x) (hF : St w0 D0 w M D) (hx : look a x = some (.pointer (some ⟨g, 0, none⟩)))
    (h : wpList P ops Q rest (a.put o.dst v) w) (hw : Region.wanted o (yielded ops a.tmps) = true := by rfl) (hi : M[i]? = some (.blk g t cs) := by (first | exact at0 | exact at1 | exact at2 | exact at3 | exact at4 | exact at5 | exact at6 | exact at7)) (ht : RowTy P ty cs.length := by exact tyRow _ _ rfl) (hv : .agg cs.toArray = v := by exact rfl) : wpList P ops Q (o :: rest) a w :=
  st_ld ho hF hx hw hi ht hv h
/-- a part of a variable that is a struct itself, loaded, stored -/
theorem w_ldp {ty : TypeId} {x : Operand} {g off i : Nat} {t : TypeId} {cs : List Value} {v : Value} {n : Nat} (ho : o.op = .load ty x) (hF : St w0 D0 w M D) (hx : look a x = some (.pointer (some ⟨g, off, none⟩)))
    (h : wpList P ops Q rest (a.put o.dst v) w) (hw : Region.wanted o (yielded ops a.tmps) = true := by rfl) (hi : M[i]? = some (.blk g t cs) := by (first | exact at0 | exact at1 | exact at2 | exact at3 | exact at4 | exact at5 | exact at6 | exact at7)) (ht : RowTy P ty n := by exact tyRow _ _ rfl) (hn : off + n ≤ cs.length := by decide) (hv : .agg ((cs.drop off).take n).toArray = v := by exact rfl) : wpList P ops Q (o :: rest) a w := by
  have hl : ((cs.drop off).take n).length = n := by simp; omega
  exact st_ldp ho hF hx hw hi ((cs.drop off).take n) (by rwa [hl]) (fun j u hu => by
    rw [List.getElem?_take] at hu
    split at hu
    · rwa [List.getElem?_drop] at hu
    · cases hu) hv h
theorem w_st1 {ty : TypeId} {x y : Operand} {g off i : Nat} {t : TypeId} {cs : List Value} {v : Value} {M' : List Mu} (ho : o.op = .store ty x y) (hF : St w0 D0 w M D) (hx : look a x = some (.pointer (some ⟨g, off, none⟩))) (hy : look a y = some v)
    (h : ∀ w', St w0 D0 w' M' D → wpList P ops Q rest (a.put o.dst undef) w') (ht : OneT P ty := by exact tyOne _ rfl) (hw : Region.wanted o (yielded ops a.tmps) = true := by rfl) (hi : M[i]? = some (.blk g t cs) := by (first | exact at0 | exact at1 | exact at2 | exact at3 | exact at4 | exact at5 | exact at6 | exact at7))
    (hoff : off < cs.length := by first | assumption | (simp; done) | (simp; omega)) (h1 : OneM M v := by first | exact .inl One1.one | exact .inl rfl | exact .inr ⟨0, _, _, _, _, rfl⟩ | exact .inr ⟨1, _, _, _, _, rfl⟩ | exact .inr ⟨2, _, _, _, _, rfl⟩ | exact .inr ⟨3, _, _, _, _, rfl⟩ | exact .inr ⟨4, _, _, _, _, rfl⟩) (hM : M.set i (.blk g t (cs.set off v)) = M' := by exact rfl) : wpList P ops Q (o :: rest) a w :=
  st_st1 ho hF hx hy ht hw hi hoff (hF.oneM h1) hM h
theorem w_st {ty : TypeId} {x y : Operand} {g i : Nat} {t : TypeId} {cs us : List Value} {M' : List Mu} (ho : o.op = .store ty x y) (hF : St w0 D0 w M D) (hx : look a x = some (.pointer (some ⟨g, 0, none⟩))) (hy : look a y = some (.agg us.toArray))
    (h : ∀ w', St w0 D0 w' M' D → wpList P ops Q rest (a.put o.dst undef) w') (hw : Region.wanted o (yielded ops a.tmps) = true := by rfl) (hi : M[i]? = some (.blk g t cs) := by (first | exact at0 | exact at1 | exact at2 | exact at3 | exact at4 | exact at5 | exact at6 | exact at7)) (hfit : us.length = cs.length := by exact rfl) (ht : RowTy P ty us.length := by exact tyRow _ _ rfl)
    (h1 : ∀ u ∈ us, OneM M u := by first | exact oneM_all | ((repeat (first | exact oneM_nil | refine oneM_cons (by first | exact .inl One1.one | exact .inl rfl | exact .inr ⟨0, _, _, _, _, rfl⟩ | exact .inr ⟨1, _, _, _, _, rfl⟩ | exact .inr ⟨2, _, _, _, _, rfl⟩ | exact .inr ⟨3, _, _, _, _, rfl⟩ | exact .inr ⟨4, _, _, _, _, rfl⟩) ?_)) <;> exact oneM_nil)) (hM : M.set i (.blk g t us) = M' := by exact rfl) : wpList P ops Q (o :: rest) a w :=
  st_st ho hF hx us hy hw hi hfit ht (fun u hu => hF.oneM (h1 u hu)) hM h
theorem w_stp {ty : TypeId} {x y : Operand} {g off i : Nat} {t : TypeId} {cs us : List Value} {M' : List Mu} (ho : o.op = .store ty x y) (hF : St w0 D0 w M D) (hx : look a x = some (.pointer (some ⟨g, off, none⟩))) (hy : look a y = some (.agg us.toArray))
    (h : ∀ w', St w0 D0 w' M' D → wpList P ops Q rest (a.put o.dst undef) w') (hw : Region.wanted o (yielded ops a.tmps) = true := by rfl) (hi : M[i]? = some (.blk g t cs) := by (first | exact at0 | exact at1 | exact at2 | exact at3 | exact at4 | exact at5 | exact at6 | exact at7)) (hfit : off + us.length ≤ cs.length := by decide) (ht : RowTy P ty us.length := by exact tyRow _ _ rfl)
    (h1 : ∀ u ∈ us, OneM M u := by exact oneM_all) (hM : M.set i (.blk g t (spl cs off us)) = M' := by exact rfl) : wpList P ops Q (o :: rest) a w :=
  st_stp ho hF hx us hy hw hi hfit ht (fun u hu => hF.oneM (h1 u hu)) hM h
theorem w_ld1o {ty : TypeId} {x : Operand} {g off i n c : Nat} {e : TypeId} {sz : Nat} {xs : List Value} {v : Value} (ho : o.op = .load ty x) (hF : St w0 D0 w M D) (hx : look a x = some (.pointer (some ⟨g, off, none⟩)))
    (h : wpList P ops Q rest (a.put o.dst v) w) (ht : OneT P ty := by exact tyOne _ rfl) (hw : Region.wanted o (yielded ops a.tmps) = true := by rfl) (hi : M[i]? = some (.own (.slice (some ⟨g, 0, none⟩) n c) e sz n xs) := by (first | exact at0 | exact at1 | exact at2 | exact at3 | exact at4 | exact at5 | exact at6 | exact at7))
    (hv : xs[off]? = some v := by first | exact rfl | assumption | exact Rows.el (by assumption) rfl | exact Rows.el0 (by assumption) rfl) : wpList P ops Q (o :: rest) a w :=
  st_ld1o ho hF hx ht hw hi hv h
theorem w_st1o {ty : TypeId} {x y : Operand} {g off i n c : Nat} {e : TypeId} {sz : Nat} {xs : List Value} {v : Value} {M' : List Mu} (ho : o.op = .store ty x y) (hF : St w0 D0 w M D) (hx : look a x = some (.pointer (some ⟨g, off, none⟩))) (hy : look a y = some v)
    (h : ∀ w', St w0 D0 w' M' D → wpList P ops Q rest (a.put o.dst undef) w') (ht : OneT P ty := by exact tyOne _ rfl) (hw : Region.wanted o (yielded ops a.tmps) = true := by rfl) (hi : M[i]? = some (.own (.slice (some ⟨g, 0, none⟩) n c) e sz n xs) := by (first | exact at0 | exact at1 | exact at2 | exact at3 | exact at4 | exact at5 | exact at6 | exact at7))
    (hoff : off < xs.length := by first | assumption | (simp; done) | (simp; omega)) (h1 : OneM M v := by first | exact .inl One1.one | exact .inl rfl | exact .inr ⟨0, _, _, _, _, rfl⟩ | exact .inr ⟨1, _, _, _, _, rfl⟩ | exact .inr ⟨2, _, _, _, _, rfl⟩) (hM : M.set i (.own (.slice (some ⟨g, 0, none⟩) n c) e sz n (xs.set off v)) = M' := by exact rfl) : wpList P ops Q (o :: rest) a w :=
  st_st1o ho hF hx hy ht hw hi hoff (hF.oneM h1) hM h
theorem w_ix {t e : TypeId} {x ix : Operand} {A : Option Addr} {n c k : Nat} {ki : IntKind} {z : Value} {sz bytes : Nat} {xs : List Value} (ho : o.op = .indexAddr t x ix) (hF : St w0 D0 w M D) (hx : look a x = some (.slice A n c)) (hk : look a ix = some (.int ki (k : Int)))
    (h : wpList P ops Q rest (a.put o.dst (ept A (k * sz))) w) (ht : SlT P t e z sz bytes := by exact tySl _ _ _ _ _ rfl) (hw : Region.wanted o (yielded ops a.tmps) = true := by rfl) (hd : rowD sz A n c xs ∈ D := by ((repeat (first | exact List.Mem.head _ | refine List.Mem.tail _ ?_)) <;> exact List.Mem.head _)) (hkn : k < n := by (first | assumption | omega | exact Nat.zero_lt_of_lt (by assumption) | exact Nat.succ_pos _)) : wpList P ops Q (o :: rest) a w :=
  st_ix ho hF hx hk ht hw hd hkn h
theorem w_ixB {t e : TypeId} {x ix : Operand} {g n c k : Nat} {ki : IntKind} {z : Value} {sz bytes : Nat} (ho : o.op = .indexAddr t x ix) (hx : look a x = some (.slice (some ⟨g, 0, none⟩) n c)) (hk : look a ix = some (.int ki (k : Int)))
    (h : wpList P ops Q rest (a.put o.dst (.pointer (some ⟨g, k * sz, none⟩))) w) (ht : SlT P t e z sz bytes := by exact tySl _ _ _ _ _ rfl) (hw : Region.wanted o (yielded ops a.tmps) = true := by rfl) (hkn : k < n := by (first | assumption | omega | exact Nat.zero_lt_of_lt (by assumption) | exact Nat.succ_pos _)) : wpList P ops Q (o :: rest) a w :=
  st_ixB ho hx hk ht hw hkn h
theorem w_fld {s f : Nat} {x : Operand} {A : Option Addr} {j off sz n c : Nat} {xs : List Value} (ho : o.op = .fieldAddr s x f) (hF : St w0 D0 w M D) (hx : look a x = some (ept A j))
    (h : wpList P ops Q rest (a.put o.dst (ept A (j + off))) w) (ht : FldT P s f off := by exact tyFld _ _ _ rfl) (hw : Region.wanted o (yielded ops a.tmps) = true := by rfl) (hd : rowD sz A n c xs ∈ D := by ((repeat (first | exact List.Mem.head _ | refine List.Mem.tail _ ?_)) <;> exact List.Mem.head _)) (hn : 0 < n := by (first | assumption | omega)) : wpList P ops Q (o :: rest) a w :=
  st_fld ho hx ht hw hF hd hn h
theorem w_fldB {s f : Nat} {x : Operand} {g j off : Nat} (ho : o.op = .fieldAddr s x f) (hx : look a x = some (.pointer (some ⟨g, j, none⟩)))
    (h : wpList P ops Q rest (a.put o.dst (.pointer (some ⟨g, j + off, none⟩))) w) (ht : FldT P s f off := by exact tyFld _ _ _ rfl) (hw : Region.wanted o (yielded ops a.tmps) = true := by rfl) : wpList P ops Q (o :: rest) a w :=
  st_fldB ho hx ht hw h
theorem w_lde1 {ty : TypeId} {x : Operand} {A : Option Addr} {j sz n c : Nat} {xs : List Value} {v : Value} (ho : o.op = .load ty x) (hF : St w0 D0 w M D) (hx : look a x = some (ept A j))
    (h : wpList P ops Q rest (a.put o.dst v) w) (ht : OneT P ty := by exact tyOne _ rfl) (hw : Region.wanted o (yielded ops a.tmps) = true := by rfl) (hd : rowD sz A n c xs ∈ D := by ((repeat (first | exact List.Mem.head _ | refine List.Mem.tail _ ?_)) <;> exact List.Mem.head _)) (hv : xs[j]? = some v := by first | assumption | exact Rows.el (by assumption) rfl | exact Rows.el0 (by assumption) rfl) : wpList P ops Q (o :: rest) a w :=
  st_lde1 ho hF hx ht hw hd hv h
theorem w_lde {ty : TypeId} {x : Operand} {A : Option Addr} {j sz n c : Nat} {xs us : List Value} {v : Value} (ho : o.op = .load ty x) (hF : St w0 D0 w M D) (hx : look a x = some (ept A j))
    (h : wpList P ops Q rest (a.put o.dst v) w) (hw : Region.wanted o (yielded ops a.tmps) = true := by rfl) (hd : rowD sz A n c xs ∈ D := by ((repeat (first | exact List.Mem.head _ | refine List.Mem.tail _ ?_)) <;> exact List.Mem.head _)) (hu : ∀ i u, us[i]? = some u → xs[j + i]? = some u := by exact Rows.sub (by assumption)) (ht : RowTy P ty us.length := by exact tyRow _ _ rfl) (h0 : 0 < us.length := by exact Nat.zero_lt_succ _) (hv : .agg us.toArray = v := by exact rfl) : wpList P ops Q (o :: rest) a w :=
  st_lde ho hF hx hw hd us hu ht h0 hv h
theorem w_to {t e : TypeId} {x y : Operand} {A : Option Addr} {n c N : Nat} {ki : IntKind} {z : Value} {sz bytes : Nat} {xs : List Value} (ho : o.op = .slice t x none (some y) none) (hF : St w0 D0 w M D) (hx : look a x = some (.slice A n c)) (hy : look a y = some (.int ki (N : Int)))
    (h : St w0 D0 w M (rowD sz A N c (xs.take (N * sz)) :: D) → wpList P ops Q rest (a.put o.dst (.slice A N c)) w) (ht : SlT P t e z sz bytes := by exact tySl _ _ _ _ _ rfl) (hw : Region.wanted o (yielded ops a.tmps) = true := by rfl) (hd : rowD sz A n c xs ∈ D := by ((repeat (first | exact List.Mem.head _ | refine List.Mem.tail _ ?_)) <;> exact List.Mem.head _)) (hN : N ≤ n := by (first | assumption | omega)) : wpList P ops Q (o :: rest) a w :=
  st_to ho hF hx hy ht hw hd hN h
theorem w_from {t e : TypeId} {x y : Operand} {A : Option Addr} {n c k : Nat} {ki : IntKind} {z : Value} {sz bytes : Nat} {xs : List Value} (ho : o.op = .slice t x (some y) none none) (hF : St w0 D0 w M D) (hx : look a x = some (.slice A n c)) (hy : look a y = some (.int ki (k : Int)))
    (h : St w0 D0 w M (rowD sz (cutA A k c sz) (n - k) (c - k) (xs.drop (k * sz)) :: D) → wpList P ops Q rest (a.put o.dst (.slice (cutA A k c sz) (n - k) (c - k))) w) (ht : SlT P t e z sz bytes := by exact tySl _ _ _ _ _ rfl) (hw : Region.wanted o (yielded ops a.tmps) = true := by rfl) (hd : rowD sz A n c xs ∈ D := by ((repeat (first | exact List.Mem.head _ | refine List.Mem.tail _ ?_)) <;> exact List.Mem.head _)) (hk : k ≤ n := by (first | assumption | omega)) : wpList P ops Q (o :: rest) a w :=
  st_from ho hF hx hy ht hw hd hk h
theorem w_bs1 {t e : TypeId} {x : Operand} {z : Value} {sz bytes : Nat} {v : Value} {us : List Value} (ho : o.op = .buildSlice t 1 #[(0, x)]) (hF : St w0 D0 w M D) (hx : look a x = some v)
    (h : ∀ g w', St w0 D0 w' (.own (.slice (some ⟨g, 0, none⟩) 1 1) e sz 1 us :: M) D → wpList P ops Q rest (a.put o.dst (.slice (some ⟨g, 0, none⟩) 1 1)) w') (hgd : o.guard = none := by rfl) (ht : SlT P t e z sz bytes := by exact tySl _ _ _ _ _ rfl) (hv : v.cells = us.toArray := by exact rfl) (hl : us.length = sz := by exact rfl) (hb : sz ≤ 1000 := by decide) : wpList P ops Q (o :: rest) a w :=
  st_bs1 ho hgd hF ht hx us hv hl hb h
theorem w_bs0 {t e : TypeId} {z : Value} {sz bytes : Nat} (ho : o.op = .buildSlice t 0 #[]) (hF : St w0 D0 w M D)
    (h : ∀ g w', St w0 D0 w' (.own (.slice (some ⟨g, 0, none⟩) 0 0) e sz 0 [] :: M) D → wpList P ops Q rest (a.put o.dst (.slice (some ⟨g, 0, none⟩) 0 0)) w') (hgd : o.guard = none := by rfl) (ht : SlT P t e z sz bytes := by exact tySl _ _ _ _ _ rfl) : wpList P ops Q (o :: rest) a w :=
  st_bs0 ho hgd hF ht h
theorem w_app {t e : TypeId} {s x : Operand} {z : Value} {sz bytes : Nat} {v : Value} {g m j i n : Nat} {us xs : List Value} {M' : Value → List Mu} (ho : o.op = .call { callee := .builtin .append, args := #[s, x], argTypes := #[t, t] }) (hF : St w0 D0 w M D)
    (hs : look a s = some v) (hx : look a x = some (.slice (some ⟨g, 0, none⟩) m m)) (h : ∀ v' w', St w0 D0 w' (M' v') D → wpList P ops Q rest (a.put o.dst v') w') (hgd : o.guard = none := by rfl) (ht : SlT P t e z sz bytes := by exact tySl _ _ _ _ _ rfl)
    (hj : M[j]? = some (.own (.slice (some ⟨g, 0, none⟩) m m) e sz m us) := by (first | exact at0 | exact at1 | exact at2 | exact at3 | exact at4 | exact at5 | exact at6 | exact at7)) (hi : M[i]? = some (.own v e sz n xs) := by (first | exact at0 | exact at1 | exact at2 | exact at3 | exact at4 | exact at5 | exact at6 | exact at7))
    (h1 : ∀ u ∈ us, OneM M u := by first | exact oneM_all | ((repeat (first | exact oneM_nil | refine oneM_cons (by first | exact .inl One1.one | exact .inl rfl | exact .inr ⟨0, _, _, _, _, rfl⟩ | exact .inr ⟨1, _, _, _, _, rfl⟩ | exact .inr ⟨2, _, _, _, _, rfl⟩ | exact .inr ⟨3, _, _, _, _, rfl⟩ | exact .inr ⟨4, _, _, _, _, rfl⟩) ?_)) <;> exact oneM_nil))
    (h63 : (n + m) * bytes ≤ 140737488355328 := by omega) (hm : n + m ≤ 9223372036854775807 := by omega) (hM : ∀ v', (M.set i (.own v' e sz (n + m) (xs ++ us))).eraseIdx j = M' v' := by exact fun _ => rfl) : wpList P ops Q (o :: rest) a w :=
  st_app ho hgd hF ht hs hx hj hi (fun u hu => hF.oneM (h1 u hu)) h63 hm hM h
theorem w_appD {t e : TypeId} {s x : Operand} {z : Value} {sz bytes : Nat} {v : Value} {A : Option Addr} {m c i n : Nat} {us xs : List Value} {M' : Value → List Mu} (ho : o.op = .call { callee := .builtin .append, args := #[s, x], argTypes := #[t, t] }) (hF : St w0 D0 w M D)
    (hs : look a s = some v) (hx : look a x = some (.slice A m c)) (h : ∀ v' w', St w0 D0 w' (M' v') D → wpList P ops Q rest (a.put o.dst v') w') (hgd : o.guard = none := by rfl) (ht : SlT P t e z sz bytes := by exact tySl _ _ _ _ _ rfl)
    (hd : rowD sz A m c us ∈ D := by ((repeat (first | exact List.Mem.head _ | refine List.Mem.tail _ ?_)) <;> exact List.Mem.head _)) (hi : M[i]? = some (.own v e sz n xs) := by (first | exact at0 | exact at1 | exact at2 | exact at3 | exact at4 | exact at5 | exact at6 | exact at7)) (h1 : ∀ u ∈ us, OneM M u := by exact oneM_all)
    (h63 : (n + m) * bytes ≤ 140737488355328 := by omega) (hm : n + m ≤ 9223372036854775807 := by omega) (hM : ∀ v', M.set i (.own v' e sz (n + m) (xs ++ us)) = M' v' := by exact fun _ => rfl) : wpList P ops Q (o :: rest) a w :=
  st_appD ho hgd hF ht hs hx hd hi (fun u hu => hF.oneM (h1 u hu)) h63 hm hM h
theorem w_make0 {t e : TypeId} {l c : Operand} {z : Value} {sz bytes : Nat} {kl kc : IntKind} {N : Int} {n : Nat} (ho : o.op = .makeSlice t l c) (hF : St w0 D0 w M D) (hl : look a l = some (.int kl 0)) (hc : look a c = some (.int kc N))
    (h : ∀ g w', St w0 D0 w' (.own (.slice (some ⟨g, 0, none⟩) 0 n) e sz 0 [] :: M) D → wpList P ops Q rest (a.put o.dst (.slice (some ⟨g, 0, none⟩) 0 n)) w') (hgd : o.guard = none := by rfl) (ht : SlT P t e z sz bytes := by exact tySl _ _ _ _ _ rfl)
    (hN : N = (n : Int) := by first | exact rfl | omega) (hb : bytes * n ≤ 281474976710656 := by omega) (hm : n ≤ maxLen := by unfold maxLen; omega) : wpList P ops Q (o :: rest) a w :=
  st_make0 ho hgd hF ht hl hc n hN hb hm h
theorem w_make {t e : TypeId} {l c : Operand} {z : Value} {sz bytes : Nat} {kl kc : IntKind} {L N : Int} (n : Nat) {zs : List Value} (ho : o.op = .makeSlice t l c) (hF : St w0 D0 w M D) (hl : look a l = some (.int kl L)) (hc : look a c = some (.int kc N))
    (h : ∀ g w', St w0 D0 w' (.blk g e zs :: M) D → wpList P ops Q rest (a.put o.dst (.slice (some ⟨g, 0, none⟩) n n)) w') (hgd : o.guard = none := by rfl) (ht : SlT P t e z sz bytes := by exact tySl _ _ _ _ _ rfl)
    (hL : L = (n : Int) := by first | exact rfl | omega) (hN : N = (n : Int) := by first | exact rfl | omega) (hb : bytes * n ≤ 281474976710656 := by omega) (hm : n ≤ maxLen := by unfold maxLen; omega) (he : (madeCells z.cells (n * sz)).toList = zs := by exact rfl) : wpList P ops Q (o :: rest) a w :=
  st_make ho hgd hF ht hl hc n hL hN hb hm he h
theorem w_copy {t e : TypeId} {d s : Operand} {z : Value} {sz bytes : Nat} {g n cd : Nat} {A : Option Addr} {c i : Nat} {us cs : List Value} {t' : TypeId} {M' : List Mu} (ho : o.op = .call { callee := .builtin .copy, args := #[d, s], argTypes := #[t, t] }) (hF : St w0 D0 w M D)
    (hx : look a d = some (.slice (some ⟨g, 0, none⟩) n cd)) (hy : look a s = some (.slice A n c)) (h : ∀ w', St w0 D0 w' M' D → wpList P ops Q rest (a.put o.dst (goInt (n : Nat))) w') (hgd : o.guard = none := by rfl) (ht : SlT P t e z sz bytes := by exact tySl _ _ _ _ _ rfl)
    (hd : rowD sz A n c us ∈ D := by ((repeat (first | exact List.Mem.head _ | refine List.Mem.tail _ ?_)) <;> exact List.Mem.head _)) (hi : M[i]? = some (.blk g t' cs) := by (first | exact at0 | exact at1 | exact at2 | exact at3 | exact at4 | exact at5 | exact at6 | exact at7)) (hl : cs.length = n * sz := by first | exact rfl | (simp [madeCells]; done) | (simp [madeCells]; omega)) (h1 : ∀ u ∈ us, OneM M u := by exact oneM_all) (hM : M.set i (.blk g t' us) = M' := by exact rfl) : wpList P ops Q (o :: rest) a w :=
  st_copy ho hgd hF ht hx hy hd hi hl (fun u hu => hF.oneM (h1 u hu)) hM h
theorem w_min {x y : Operand} {ts : Array TypeId} {k k' : IntKind} {p q : Int} (N : Int) (ho : o.op = .call { callee := .builtin .min, args := #[x, y], argTypes := ts }) (hx : look a x = some (.int k p)) (hy : look a y = some (.int k' q))
    (h : wpList P ops Q rest (a.put o.dst (.int k N)) w) (hgd : o.guard = none := by rfl) (hN : N = if q < p then q else p := by first | (split <;> omega) | omega) : wpList P ops Q (o :: rest) a w := st_min ho hgd hx hy N hN h
theorem w_max {x y : Operand} {ts : Array TypeId} {k k' : IntKind} {p q : Int} (N : Int) (ho : o.op = .call { callee := .builtin .max, args := #[x, y], argTypes := ts }) (hx : look a x = some (.int k p)) (hy : look a y = some (.int k' q))
    (h : wpList P ops Q rest (a.put o.dst (.int k N)) w) (hgd : o.guard = none := by rfl) (hN : N = if q > p then q else p := by first | (split <;> omega) | omega) : wpList P ops Q (o :: rest) a w := st_max ho hgd hx hy N hN h
theorem w_bytes {src dst e : TypeId} {x : Operand} {s : ByteArray} (ho : o.op = .convert src dst x) (hF : St w0 D0 w M D) (hx : look a x = some (.string s))
    (h : ∀ g cap r w', St w0 D0 w' (.blk g e (byteCells s.data.toList ++ r) :: M) D → s.size + r.length = cap → cap ≤ maxLen → wpList P ops Q rest (a.put o.dst (.slice (some ⟨g, 0, none⟩) s.size cap)) w') (hgd : o.guard = none := by rfl)
    (hs : StrT P src := by exact tyStr _ rfl) (hd : BySlT P dst e := by exact tyBy _ _ rfl) (hsz : s.size ≤ maxLen := by first | assumption | (unfold maxLen; omega)) : wpList P ops Q (o :: rest) a w :=
  st_bytes ho hgd hF hs hd hx hsz h
theorem w_string {src dst e : TypeId} {x : Operand} {g n c i : Nat} {t : TypeId} {l : List UInt8} {r : List Value} (ho : o.op = .convert src dst x) (hF : St w0 D0 w M D) (hx : look a x = some (.slice (some ⟨g, 0, none⟩) n c))
    (h : wpList P ops Q rest (a.put o.dst (.string ⟨l.toArray⟩)) w) (hgd : o.guard = none := by rfl) (hs : BySlT P src e := by exact tyBy _ _ rfl) (hd : StrT P dst := by exact tyStr _ rfl) (hi : M[i]? = some (.blk g t (byteCells l ++ r)) := by (first | exact at0 | exact at1 | exact at2 | exact at3 | exact at4 | exact at5 | exact at6 | exact at7)) (hn : l.length = n := by (first | assumption | omega)) (hc : n ≤ c := by (first | assumption | omega)) (hm : c ≤ maxLen := by first | assumption | (unfold maxLen; omega)) : wpList P ops Q (o :: rest) a w :=
  st_string ho hgd hF hs hd hx hi hn hc hm h
theorem w_idxs {t : TypeId} {x ix : Operand} {s : ByteArray} {k : Nat} {ki : IntKind} {b : UInt8} (ho : o.op = .index t x ix) (hx : look a x = some (.string s)) (hk : look a ix = some (.int ki (k : Int)))
    (h : wpList P ops Q rest (a.put o.dst (.int .u8 (b.toNat : Int))) w) (ht : StrT P t := by exact tyStr _ rfl) (hw : Region.wanted o (yielded ops a.tmps) = true := by rfl) (hb : s.data.toList[k]? = some b := by assumption) : wpList P ops Q (o :: rest) a w :=
  st_idxs ho ht hx hk hw hb h
theorem w_strto {t : TypeId} {x y : Operand} {s : ByteArray} {k : Nat} {ki : IntKind} (ho : o.op = .slice t x none (some y) none) (hx : look a x = some (.string s)) (hy : look a y = some (.int ki (k : Int)))
    (h : wpList P ops Q rest (a.put o.dst (.string (s.extract 0 k))) w) (ht : StrT P t := by exact tyStr _ rfl) (hw : Region.wanted o (yielded ops a.tmps) = true := by rfl) (hk : k ≤ s.size := by (first | assumption | omega)) : wpList P ops Q (o :: rest) a w := st_strto ho ht hx hy hw hk h
theorem w_strfrom {t : TypeId} {x y : Operand} {s : ByteArray} {k : Nat} {ki : IntKind} (ho : o.op = .slice t x (some y) none none) (hx : look a x = some (.string s)) (hy : look a y = some (.int ki (k : Int)))
    (h : wpList P ops Q rest (a.put o.dst (.string (s.extract k s.size))) w) (ht : StrT P t := by exact tyStr _ rfl) (hw : Region.wanted o (yielded ops a.tmps) = true := by rfl) (hk : k ≤ s.size := by (first | assumption | omega)) : wpList P ops Q (o :: rest) a w := st_strfrom ho ht hx hy hw hk h
theorem w_fromB {t e : TypeId} {x y : Operand} {g n c k : Nat} {ki : IntKind} (ho : o.op = .slice t x (some y) none none) (hx : look a x = some (.slice (some ⟨g, 0, none⟩) n c)) (hy : look a y = some (.int ki (k : Int)))
    (h : wpList P ops Q rest (a.put o.dst (.slice (some ⟨g, k, none⟩) (n - k) (c - k))) w) (ht : BySlT P t e := by exact tyBy _ _ rfl) (hw : Region.wanted o (yielded ops a.tmps) = true := by rfl) (hk : k < n := by (first | assumption | omega)) (hn : n ≤ c := by (first | assumption | omega)) : wpList P ops Q (o :: rest) a w := st_fromB ho hx hy ht hw hk hn h
theorem w_copys {dT sT e : TypeId} {d s : Operand} {g off n cd : Nat} {str : ByteArray} {i : Nat} {t' : TypeId} {l : List UInt8} {r : List Value} {M' : List Mu} (ho : o.op = .call { callee := .builtin .copy, args := #[d, s], argTypes := #[dT, sT] }) (hF : St w0 D0 w M D)
    (hx : look a d = some (.slice (some ⟨g, off, none⟩) n cd)) (hy : look a s = some (.string str)) (h : ∀ w', St w0 D0 w' M' D → wpList P ops Q rest (a.put o.dst (goInt (min str.size n : Nat))) w') (hgd : o.guard = none := by rfl) (ht : BySlT P dT e := by exact tyBy _ _ rfl)
    (hi : M[i]? = some (.blk g t' (byteCells l ++ r)) := by (first | exact at0 | exact at1 | exact at2 | exact at3 | exact at4 | exact at5 | exact at6 | exact at7)) (hl : off + n = l.length := by (first | assumption | omega)) (hM : M.set i (.blk g t' (byteCells (layB l off str.data.toList) ++ r)) = M' := by exact rfl) : wpList P ops Q (o :: rest) a w := by
  have e1 := spl_bytes (l := l) (r := r) (k := off) (str := str) (by omega)
  rw [show l.length - off = n by omega] at e1
  rw [← e1] at hM
  exact st_copys ho hgd hF ht hx hy hi (by rw [List.length_append, byteCells_len]; omega) hM h

/-- results -/
theorem w_resc {fn : Func} {p : Tmp} {ty t : TypeId} {g i : Nat} {cs : List Value} {tmps : Array Value} (h : fn.results = #[.cell p ty]) (hF : St w0 D0 w M D) (hp : tmps.getD p undef = .pointer (some ⟨g, 0, none⟩) := by rfl) (hi : M[i]? = some (.blk g t cs) := by (first | exact at0 | exact at1 | exact at2 | exact at3 | exact at4 | exact at5 | exact at6 | exact at7)) (ht : RowTy P ty cs.length := by exact tyRow _ _ rfl) :
    (results fn tmps).run P w = .ok (.agg cs.toArray) w := res_c h hp (hF.bkAt hi) ht
theorem w_rescs {fn : Func} {p q : Tmp} {ty t : TypeId} {g i : Nat} {cs : List Value} {tmps : Array Value} (h : fn.results = #[.cell p ty, .tmp q]) (hF : St w0 D0 w M D) (hp : tmps.getD p undef = .pointer (some ⟨g, 0, none⟩) := by rfl) (hi : M[i]? = some (.blk g t cs) := by (first | exact at0 | exact at1 | exact at2 | exact at3 | exact at4 | exact at5 | exact at6 | exact at7)) (ht : RowTy P ty cs.length := by exact tyRow _ _ rfl) :
    (results fn tmps).run P w = .ok (.tuple #[.agg cs.toArray, tmps.getD q undef]) w := res_cs h hp (hF.bkAt hi) ht
theorem w_resscs {fn : Func} {p q q' : Tmp} {ty t : TypeId} {g i : Nat} {cs : List Value} {tmps : Array Value} (h : fn.results = #[.tmp q, .cell p ty, .tmp q']) (hF : St w0 D0 w M D) (hp : tmps.getD p undef = .pointer (some ⟨g, 0, none⟩) := by rfl) (hi : M[i]? = some (.blk g t cs) := by (first | exact at0 | exact at1 | exact at2 | exact at3 | exact at4 | exact at5 | exact at6 | exact at7)) (ht : RowTy P ty cs.length := by exact tyRow _ _ rfl) :
    (results fn tmps).run P w = .ok (.tuple #[tmps.getD q undef, .agg cs.toArray, tmps.getD q' undef]) w := res_scs h hp (hF.bkAt hi) ht
theorem w_rescss {fn : Func} {p q q' : Tmp} {ty t : TypeId} {g i : Nat} {cs : List Value} {tmps : Array Value} (h : fn.results = #[.cell p ty, .tmp q, .tmp q']) (hF : St w0 D0 w M D) (hp : tmps.getD p undef = .pointer (some ⟨g, 0, none⟩) := by rfl) (hi : M[i]? = some (.blk g t cs) := by (first | exact at0 | exact at1 | exact at2 | exact at3 | exact at4 | exact at5 | exact at6 | exact at7)) (ht : RowTy P ty cs.length := by exact tyRow _ _ rfl) :
    (results fn tmps).run P w = .ok (.tuple #[.agg cs.toArray, tmps.getD q undef, tmps.getD q' undef]) w := res_css h hp (hF.bkAt hi) ht
theorem w_resccs {fn : Func} {p p' q : Tmp} {ty t ty' t' : TypeId} {g g' i i' : Nat} {cs cs' : List Value} {tmps : Array Value} (h : fn.results = #[.cell p ty, .cell p' ty', .tmp q]) (hF : St w0 D0 w M D) (hp : tmps.getD p undef = .pointer (some ⟨g, 0, none⟩) := by rfl) (hi : M[i]? = some (.blk g t cs) := by (first | exact at0 | exact at1 | exact at2 | exact at3 | exact at4 | exact at5 | exact at6 | exact at7)) (ht : RowTy P ty cs.length := by exact tyRow _ _ rfl)
    (hp' : tmps.getD p' undef = .pointer (some ⟨g', 0, none⟩) := by rfl) (hi' : M[i']? = some (.blk g' t' cs') := by (first | exact at0 | exact at1 | exact at2 | exact at3 | exact at4 | exact at5 | exact at6 | exact at7)) (ht' : RowTy P ty' cs'.length := by exact tyRow _ _ rfl) :
    (results fn tmps).run P w = .ok (.tuple #[.agg cs.toArray, .agg cs'.toArray, tmps.getD q undef]) w := res_ccs h hp (hF.bkAt hi) ht hp' (hF.bkAt hi') ht'
end

section
variable {P : Program} {ops : Array Oper} {Q : Exit → Act → World → Prop} {md : Region.Mode} {S : World → Prop} {a : Act} {o : Oper} {B : Nat} {Mr : List Mu} {Dr : List Da}
theorem w_take {i t : Nat} {v : Value} {fuel : Nat} {listed : Array Bool} {w : World} (hi : ops.toList[i]? = some o) (hy : YieldsIf P ops S o v a) (hS : S w)
    (h : wpAnyH P md ops Q S fuel (listed.setIfInBounds i true) { a with tmps := a.tmps.setIfInBounds t v } w) (hd : o.dst = some t := by rfl)
    (hs : Region.noSelect ops = true := by kernel_rfl) (hf : Region.free md ops listed i = true := by kernel_rfl) (hr : (Region.ready md ops listed).contains i = true := by kernel_rfl)
    (hQ : ∀ c a w, Q (.panic c) (a.put o.dst v) w → Q (.panic c) a w := by exact fun _ _ _ h => h) : wpAnyH P md ops Q S (fuel + 1) listed a w :=
  rg_take hi hd hs hf hr hQ hy hS h
theorem y_skip (hw : Region.wanted o (yielded ops a.tmps) = false := by rfl) : YieldsIf P ops S o undef a := yi_skip hw
theorem y_move {x : Operand} {v : Value} (ho : o.op = .move x) (hx : look a x = some v) (hw : Region.wanted o (yielded ops a.tmps) = true := by rfl) : YieldsIf P ops S o v a := yi_move ho hx hw
theorem y_assign {x : Operand} {v : Value} (ho : o.op = .assign x) (hx : look a x = some v) (hw : Region.wanted o (yielded ops a.tmps) = true := by rfl) : YieldsIf P ops S o v a := yi_assign ho hx hw
theorem y_len {x : Operand} {t e : TypeId} {z : Value} {sz bytes : Nat} {A : Option Addr} {n c : Nat} (ho : o.op = .call { callee := .builtin .len, args := #[x], argTypes := #[t] }) (hx : look a x = some (.slice A n c)) (ht : SlT P t e z sz bytes := by exact tySl _ _ _ _ _ rfl) (hw : Region.wanted o (yielded ops a.tmps) = true := by rfl) : YieldsIf P ops S o (.int .i64 (n : Int)) a := yi_len ho hx ht hw
theorem y_lens {x : Operand} {t : TypeId} {s : ByteArray} (ho : o.op = .call { callee := .builtin .len, args := #[x], argTypes := #[t] }) (hx : look a x = some (.string s)) (ht : StrT P t := by exact tyStr _ rfl) (hw : Region.wanted o (yielded ops a.tmps) = true := by rfl) : YieldsIf P ops S o (.int .i64 (s.size : Int)) a := by
  replace hx := look_eval hx
  obtain ⟨hu⟩ := ht
  exact yi_pure hw fun w => by
    unfold execOp
    simp [ho, resolve, invoke, builtin, hx, Builtin.len_, run_underlying hu, goInt]
theorem y_ld1 {ty : TypeId} {x : Operand} {g off : Nat} {t : TypeId} {cs : List Value} {v : Value} (ho : o.op = .load ty x) (hx : look a x = some (.pointer (some ⟨g, off, none⟩))) (ht : OneT P ty := by exact tyOne _ rfl) (hw : Region.wanted o (yielded ops a.tmps) = true := by rfl)
    (hm : Mu.blk g t cs ∈ Mr := by ((repeat (first | exact List.Mem.head _ | refine List.Mem.tail _ ?_)) <;> exact List.Mem.head _)) (hv : cs[off]? = some v := by exact rfl) : YieldsIf P ops (Hold B Mr Dr) o v a := yi_ld1 ho hx ht hw hm hv
theorem y_ld {ty : TypeId} {x : Operand} {g : Nat} {t : TypeId} {cs : List Value} {v : Value} (ho : o.op = .load ty x) (hx : look a x = some (.pointer (some ⟨g, 0, none⟩))) (hw : Region.wanted o (yielded ops a.tmps) = true := by rfl)
    (hm : Mu.blk g t cs ∈ Mr := by ((repeat (first | exact List.Mem.head _ | refine List.Mem.tail _ ?_)) <;> exact List.Mem.head _)) (ht : RowTy P ty cs.length := by exact tyRow _ _ rfl) (hv : .agg cs.toArray = v := by exact rfl) : YieldsIf P ops (Hold B Mr Dr) o v a := by subst hv; exact yi_ld ho hx hw hm ht
theorem y_fldB {s f : Nat} {x : Operand} {g j off : Nat} (ho : o.op = .fieldAddr s x f) (hx : look a x = some (.pointer (some ⟨g, j, none⟩))) (ht : FldT P s f off := by exact tyFld _ _ _ rfl) (hw : Region.wanted o (yielded ops a.tmps) = true := by rfl) :
    YieldsIf P ops S o (.pointer (some ⟨g, j + off, none⟩)) a := yi_fldB ho hx ht hw
theorem y_ix {t e : TypeId} {x ix : Operand} {A : Option Addr} {n c k : Nat} {ki : IntKind} {z : Value} {sz bytes : Nat} {xs : List Value} (ho : o.op = .indexAddr t x ix) (hx : look a x = some (.slice A n c)) (hk : look a ix = some (.int ki (k : Int)))
    (ht : SlT P t e z sz bytes := by exact tySl _ _ _ _ _ rfl) (hw : Region.wanted o (yielded ops a.tmps) = true := by rfl) (hd : rowD sz A n c xs ∈ Dr := by ((repeat (first | exact List.Mem.head _ | refine List.Mem.tail _ ?_)) <;> exact List.Mem.head _)) (hkn : k < n := by (first | assumption | omega | exact Nat.zero_lt_of_lt (by assumption) | exact Nat.succ_pos _)) : YieldsIf P ops (Hold B Mr Dr) o (ept A (k * sz)) a := yi_ix ho hx hk ht hw hd hkn
theorem y_ixB {t e : TypeId} {x ix : Operand} {g n c k : Nat} {ki : IntKind} {z : Value} {sz bytes : Nat} (ho : o.op = .indexAddr t x ix) (hx : look a x = some (.slice (some ⟨g, 0, none⟩) n c)) (hk : look a ix = some (.int ki (k : Int)))
    (ht : SlT P t e z sz bytes := by exact tySl _ _ _ _ _ rfl) (hw : Region.wanted o (yielded ops a.tmps) = true := by rfl) (hkn : k < n := by (first | assumption | omega | exact Nat.zero_lt_of_lt (by assumption) | exact Nat.succ_pos _)) : YieldsIf P ops S o (.pointer (some ⟨g, k * sz, none⟩)) a := yi_ixB ho hx hk ht hw hkn
theorem y_fld {s f : Nat} {x : Operand} {A : Option Addr} {j off sz n c : Nat} {xs : List Value} (ho : o.op = .fieldAddr s x f) (hx : look a x = some (ept A j)) (ht : FldT P s f off := by exact tyFld _ _ _ rfl) (hw : Region.wanted o (yielded ops a.tmps) = true := by rfl)
    (hd : rowD sz A n c xs ∈ Dr := by ((repeat (first | exact List.Mem.head _ | refine List.Mem.tail _ ?_)) <;> exact List.Mem.head _)) (hn : 0 < n := by (first | assumption | omega)) : YieldsIf P ops (Hold B Mr Dr) o (ept A (j + off)) a := yi_fld ho hx ht hw hd hn
theorem y_lde1 {ty : TypeId} {x : Operand} {A : Option Addr} {j sz n c : Nat} {xs : List Value} {v : Value} (ho : o.op = .load ty x) (hx : look a x = some (ept A j)) (ht : OneT P ty := by exact tyOne _ rfl) (hw : Region.wanted o (yielded ops a.tmps) = true := by rfl)
    (hd : rowD sz A n c xs ∈ Dr := by ((repeat (first | exact List.Mem.head _ | refine List.Mem.tail _ ?_)) <;> exact List.Mem.head _)) (hv : xs[j]? = some v := by first | assumption | exact Rows.el (by assumption) rfl | exact Rows.el0 (by assumption) rfl) : YieldsIf P ops (Hold B Mr Dr) o v a := yi_lde1 ho hx ht hw hd hv
theorem y_lde {ty : TypeId} {x : Operand} {A : Option Addr} {j sz n c : Nat} {xs us : List Value} {v : Value} (ho : o.op = .load ty x) (hx : look a x = some (ept A j)) (hw : Region.wanted o (yielded ops a.tmps) = true := by rfl)
    (hd : rowD sz A n c xs ∈ Dr := by ((repeat (first | exact List.Mem.head _ | refine List.Mem.tail _ ?_)) <;> exact List.Mem.head _)) (hu : ∀ i u, us[i]? = some u → xs[j + i]? = some u := by exact Rows.sub (by assumption)) (ht : RowTy P ty us.length := by exact tyRow _ _ rfl) (h0 : 0 < us.length := by exact Nat.zero_lt_succ _) (hv : .agg us.toArray = v := by exact rfl) : YieldsIf P ops (Hold B Mr Dr) o v a := by
  subst hv
  exact yi_lde ho hx hw hd us hu ht h0
theorem y_to {t e : TypeId} {x y : Operand} {A : Option Addr} {n c N : Nat} {ki : IntKind} {z : Value} {sz bytes : Nat} (ho : o.op = .slice t x none (some y) none) (hx : look a x = some (.slice A n c)) (hy : look a y = some (.int ki (N : Int)))
    (ht : SlT P t e z sz bytes := by exact tySl _ _ _ _ _ rfl) (hw : Region.wanted o (yielded ops a.tmps) = true := by rfl) (hN : N ≤ c := by (first | assumption | omega)) : YieldsIf P ops S o (.slice A N c) a := yi_to ho hx hy ht hw hN
theorem y_from {t e : TypeId} {x y : Operand} {A : Option Addr} {n c k : Nat} {ki : IntKind} {z : Value} {sz bytes : Nat} (ho : o.op = .slice t x (some y) none none) (hx : look a x = some (.slice A n c)) (hy : look a y = some (.int ki (k : Int)))
    (ht : SlT P t e z sz bytes := by exact tySl _ _ _ _ _ rfl) (hw : Region.wanted o (yielded ops a.tmps) = true := by rfl) (hk : k ≤ n := by (first | assumption | omega)) : YieldsIf P ops S o (.slice (cutA A k c sz) (n - k) (c - k)) a := yi_from ho hx hy ht hw hk
theorem y_strto {t : TypeId} {x y : Operand} {s : ByteArray} {k : Nat} {ki : IntKind} (ho : o.op = .slice t x none (some y) none) (hx : look a x = some (.string s)) (hy : look a y = some (.int ki (k : Int))) (ht : StrT P t := by exact tyStr _ rfl) (hw : Region.wanted o (yielded ops a.tmps) = true := by rfl) (hk : k ≤ s.size := by (first | assumption | omega)) :
    YieldsIf P ops S o (.string (s.extract 0 k)) a := yi_strto ho ht hx hy hw hk
theorem y_strfrom {t : TypeId} {x y : Operand} {s : ByteArray} {k : Nat} {ki : IntKind} (ho : o.op = .slice t x (some y) none none) (hx : look a x = some (.string s)) (hy : look a y = some (.int ki (k : Int))) (ht : StrT P t := by exact tyStr _ rfl) (hw : Region.wanted o (yielded ops a.tmps) = true := by rfl) (hk : k ≤ s.size := by (first | assumption | omega)) :
    YieldsIf P ops S o (.string (s.extract k s.size)) a := yi_strfrom ho ht hx hy hw hk
end

/-- what a call hands back: what was there stands, and these data are there, in new blocks or in what was handed in -/
structure Out (w : World) (D0 : List Da) (w' : World) (ds : List Da) : Prop where
  bel : Bel w w'
  ok : ∀ d ∈ ds, d.ok w'
  from_ : ∀ d ∈ ds, From w D0 d
section
variable {w0 w w' : World} {D0 D D1 ds : List Da} {M : List Mu}
theorem St.out (h : St w0 D0 w M D) (hd : ∀ d ∈ ds, d ∈ D) : Out w0 D0 w ds := ⟨h.bel, fun d hm => h.dat d (hd d hm), fun d hm => h.src d (hd d hm)⟩
theorem St.call (h : St w0 D0 w M D) (ho : Out w D1 w' ds) (hD : ∀ d ∈ D1, d ∈ D) : St w0 D0 w' M (ds ++ D) := by
  have h' := h.grow ho.bel
  refine ⟨h'.bel, h'.mu, h'.apart, fun d hd => ?_, fun d hd i m hm g hmg hdg => ?_, fun d hd => ?_⟩
  · rcases List.mem_append.1 hd with hd | hd
    · exact ho.ok d hd
    · exact h'.dat d hd
  · rcases List.mem_append.1 hd with hd | hd
    · rcases ho.from_ d hd g hdg with h1 | ⟨e, he, h1⟩
      · have := ((h.mu i m hm).lt hmg).2; omega
      · exact h.sep e (hD e he) i m hm g hmg h1
    · exact h.sep d hd i m hm g hmg hdg
  · rcases List.mem_append.1 hd with hd | hd
    · exact (ho.from_ d hd).trans h.bel.size fun e he => h.src e (hD e he)
    · exact h.src d hd
theorem St.callA {d1 d2 : Da} (h : St w0 D0 w M D) (ho : Out w D1 w' [d1, d2]) (hD : ∀ d ∈ D1, d ∈ D := by ((repeat (first | exact subn_nil | refine subn_cons (by ((repeat (first | exact List.Mem.head _ | refine List.Mem.tail _ ?_)) <;> exact List.Mem.head _)) ?_)) <;> exact subn_nil)) : St w0 D0 w' M (d1 :: d2 :: D) := h.call ho hD
theorem St.call1A {d1 : Da} (h : St w0 D0 w M D) (ho : Out w D1 w' [d1]) (hD : ∀ d ∈ D1, d ∈ D := by ((repeat (first | exact subn_nil | refine subn_cons (by ((repeat (first | exact List.Mem.head _ | refine List.Mem.tail _ ?_)) <;> exact List.Mem.head _)) ?_)) <;> exact subn_nil)) : St w0 D0 w' M (d1 :: D) := h.call ho hD
theorem St.call3A {d1 d2 d3 : Da} (h : St w0 D0 w M D) (ho : Out w D1 w' [d1, d2, d3]) (hD : ∀ d ∈ D1, d ∈ D := by ((repeat (first | exact subn_nil | refine subn_cons (by ((repeat (first | exact List.Mem.head _ | refine List.Mem.tail _ ?_)) <;> exact List.Mem.head _)) ?_)) <;> exact subn_nil)) : St w0 D0 w' M (d1 :: d2 :: d3 :: D) := h.call ho hD
theorem St.call4A {d1 d2 d3 d4 : Da} (h : St w0 D0 w M D) (ho : Out w D1 w' [d1, d2, d3, d4]) (hD : ∀ d ∈ D1, d ∈ D := by ((repeat (first | exact subn_nil | refine subn_cons (by ((repeat (first | exact List.Mem.head _ | refine List.Mem.tail _ ?_)) <;> exact List.Mem.head _)) ?_)) <;> exact subn_nil)) : St w0 D0 w' M (d1 :: d2 :: d3 :: d4 :: D) := h.call ho hD
theorem St.outA (h : St w0 D0 w M D) (hd : ∀ d ∈ ds, d ∈ D := by ((repeat (first | exact subn_nil | refine subn_cons (by ((repeat (first | exact List.Mem.head _ | refine List.Mem.tail _ ?_)) <;> exact List.Mem.head _)) ?_)) <;> exact subn_nil)) : Out w0 D0 w ds := h.out hd
theorem St.lessA (h : St w0 D0 w M D) (D' : List Da) (hD : ∀ d ∈ D', d ∈ D := by ((repeat (first | exact subn_nil | refine subn_cons (by ((repeat (first | exact List.Mem.head _ | refine List.Mem.tail _ ?_)) <;> exact List.Mem.head _)) ?_)) <;> exact subn_nil)) : St w0 D0 w M D' := h.lessD hD
theorem St.rdA (h : St w0 D0 w M D) {sz n c : Nat} {A : Option Addr} {xs : List Value} (hd : rowD sz A n c xs ∈ D := by ((repeat (first | exact List.Mem.head _ | refine List.Mem.tail _ ?_)) <;> exact List.Mem.head _)) : Rd w w.heap.size sz A n c xs := h.rd hd
theorem Hold.nextA {B : Nat} {Mr : List Mu} {Dr : List Da} {w1 : World} (_h : Hold B Mr Dr w1) (hF : St w0 D0 w' M D) (hM : ∀ m ∈ Mr, m ∈ M := by first | exact fun _ h => h | ((repeat (first | exact subn_nil | refine subn_cons (by ((repeat (first | exact List.Mem.head _ | refine List.Mem.tail _ ?_)) <;> exact List.Mem.head _)) ?_)) <;> exact subn_nil)) (hD : ∀ d ∈ Dr, d ∈ D := by first | exact fun _ h => h | ((repeat (first | exact subn_nil | refine subn_cons (by ((repeat (first | exact List.Mem.head _ | refine List.Mem.tail _ ?_)) <;> exact List.Mem.head _)) ?_)) <;> exact subn_nil)) (hB : B = w0.heap.size := by exact rfl) : Hold B Mr Dr w' := _h.next hF hM hD hB
end
end Go.Proofs.Ytcahadkkjfijfaa
