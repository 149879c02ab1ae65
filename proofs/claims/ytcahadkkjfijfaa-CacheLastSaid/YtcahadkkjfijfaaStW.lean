/- The walk's laws over St: boxes, new variables, loads, stores, elements, cuts, rows that are appended to. -/
import Derived.Test.YtcahadkkjfijfaaSt
import Derived.Great.BuildSlice
set_option linter.unusedVariables false
set_option linter.unusedSimpArgs false
namespace Go.Proofs.Ytcahadkkjfijfaa
open Go.RowKit

/-- a type of one cell -/
inductive OneT (P : Program) (ty : TypeId) : Prop
  | mk (d : TypeDesc) (hu : P.underlying ty = some d) (hd : (match d with | .struct _ | .array _ _ => false | _ => true) = true) (hi : (P.info? ty).map (·.size) = some 1)
/-- a slice's type, its elements' type, their zero, cells and bytes -/
inductive SlT (P : Program) (t e : TypeId) (z : Value) (sz bytes : Nat) : Prop
  | mk (hu : P.underlying t = some (.slice e)) (hi : (P.info? e).map (fun i => (i.zero, i.size, i.bytes)) = some (some z, sz, bytes)) (hz : z.cells.size = sz) (hp : 0 < sz)
/-- a field's place -/
inductive FldT (P : Program) (s f off : Nat) : Prop
  | mk (fs : Array Field) (fl : Field) (n : Nat) (hu : P.underlying s = some (.struct fs)) (hf : fs[f]? = some fl) (ho : fl.offset = off) (hi : (P.info? fl.type).map (·.size) = some n) (hn : n ≠ 0)
/-- a type's zero, in cells -/
inductive ZeroT (P : Program) (t : TypeId) (cs : List Value) : Prop
  | mk (z : Value) (hi : (P.info? t).map (·.zero) = some (some z)) (hc : z.cells = cs.toArray)

/-- an operand's value, as it stands in its slot -/
def look (a : Act) : Operand → Option Value
  | .tmp t => a.tmps.toList[t]?
  | .const v => some v
  | _ => none
theorem look_eval {a : Act} {x : Operand} {v : Value} (h : look a x = some v) : a.eval x = v := by
  cases x with
  | tmp t =>
    have h' : a.tmps[t]? = some v := by rw [← Array.getElem?_toList]; exact h
    simp [Act.eval, h']
  | const u => exact Option.some.inj h
  | global g => cases h
  | func f => cases h

section
variable {P : Program} {ops : Array Oper} {rest : List Oper} {o : Oper} {a : Act} {Q : Exit → Act → World → Prop} {w0 w : World} {D0 D : List Da} {M : List Mu}

theorem st_box {ty : TypeId} {x : Operand} (ho : o.op = .box ty x) (hgd : o.guard = none) (hF : St w0 D0 w M D) {v : Value} (hx : look a x = some v) (cs : List Value) (hc : v.cells = cs.toArray)
    (h : ∀ g w', St w0 D0 w' (.blk g ty cs :: M) D → wpList P ops Q rest (a.put o.dst (.pointer (some ⟨g, 0, none⟩))) w') : wpList P ops Q (o :: rest) a w := by
  replace hx := look_eval hx
  subst hx
  refine wpList_plain hgd fun K hK => ?_
  have hk := hK _ _ (h _ _ (hF.alloc ty cs))
  unfold Oper.wp execOp
  simp only [ho, Instr.box, newVar, newRow, hc, Sem.run_bind, Sem.run_pure, run_newObj_alloc, Result.andThen_ok]
  exact hk
theorem st_alloc {ty : TypeId} (ho : o.op = .alloc ty) (hgd : o.guard = none) (hF : St w0 D0 w M D) (cs : List Value) (hz : ZeroT P ty cs)
    (h : ∀ g w', St w0 D0 w' (.blk g ty cs :: M) D → wpList P ops Q rest (a.put o.dst (.pointer (some ⟨g, 0, none⟩))) w') : wpList P ops Q (o :: rest) a w := by
  refine wpList_plain hgd fun K hK => ?_
  have hk := hK _ _ (h _ _ (hF.alloc ty cs))
  obtain ⟨z, hi, hz⟩ := hz
  unfold Oper.wp execOp
  cases hq : P.info? ty with
  | none => simp [hq] at hi
  | some i =>
    have hzz : i.zero = some z := by simpa [hq] using hi
    simp only [ho, Instr.alloc, zeroValue, typeInfo, hq, hzz, newVar, newRow, hz, Sem.run_bind, Sem.run_pure, run_program, run_newObj_alloc, Result.andThen_ok]
    exact hk

theorem run_load_one {w : World} {ty : TypeId} {ad : Addr} {v : Value} (ht : OneT P ty) (hc : w.cell? ad = some v) : (loadVar ty ad).run P w = .ok v w := by
  obtain ⟨d, hu, hd, _⟩ := ht
  have hagg : (isAgg ty).run P w = .ok false w := by
    unfold isAgg
    rw [Sem.run_bind, run_underlying hu w]
    cases d <;> simp_all
  simp [loadVar, Sem.run_bind, hagg, hc]
theorem run_store_one {w : World} {ty : TypeId} {ad : Addr} {v u : Value} (ht : OneT P ty) (hc : w.cell? ad = some u) (hf : w.frozen? ad = false) (h1 : v.oneCell' = true) : (storeVar ty ad v).run P w = .ok () (w.setCell ad v) := by
  obtain ⟨d, hu, hd, hi⟩ := ht
  have hs : (sizeOf ty).run P w = .ok 1 w := by
    cases hq : P.info? ty with
    | none => simp [hq] at hi
    | some i =>
      have : i.size = 1 := by simpa [hq] using hi
      simp [sizeOf, typeInfo, hq, this]
  have hv : v.cells = #[v] := by cases v <;> simp_all [Value.cells, Value.oneCell']
  have h0 : ad.add 0 = ad := by unfold Addr.add; simp
  simp [storeVar, hs, hv, storeCells, h0, run_store P w ad v _ h1, hc, hf]

/-- one cell, loaded out of a block of the call's own -/
theorem st_ld1 {ty : TypeId} {x : Operand} (ho : o.op = .load ty x) (hF : St w0 D0 w M D) {g off : Nat} (hx : look a x = some (.pointer (some ⟨g, off, none⟩))) (ht : OneT P ty) (hw : Region.wanted o (yielded ops a.tmps) = true)
    {i : Nat} {t : TypeId} {cs : List Value} (hi : M[i]? = some (.blk g t cs)) {v : Value} (hv : cs[off]? = some v)
    (h : wpList P ops Q rest (a.put o.dst v) w) : wpList P ops Q (o :: rest) a w := by
  replace hx := look_eval hx
  refine wpList_wanted hw fun K hK => ?_
  have hb := hF.bkAt hi
  unfold Oper.wp execOp
  simp only [ho, hx, Instr.loadAt, Instr.sureAddr, Sem.run_bind, Sem.run_pure, Result.andThen_ok, run_load_one ht (hb.cell_of off v hv)]
  exact hK _ _ h
/-- a whole variable, loaded -/
theorem st_ld {ty : TypeId} {x : Operand} (ho : o.op = .load ty x) (hF : St w0 D0 w M D) {g : Nat} (hx : look a x = some (.pointer (some ⟨g, 0, none⟩))) (hw : Region.wanted o (yielded ops a.tmps) = true)
    {i : Nat} {t : TypeId} {cs : List Value} (hi : M[i]? = some (.blk g t cs)) (ht : RowTy P ty cs.length) {v : Value} (hv : .agg cs.toArray = v)
    (h : wpList P ops Q rest (a.put o.dst v) w) : wpList P ops Q (o :: rest) a w := by
  replace hx := look_eval hx
  exact wpList_load_bk hw ty x ho g hx t cs v hv.symm (hF.bkAt hi) ht h
/-- a part of a variable that is a struct itself, loaded -/
theorem st_ldp {ty : TypeId} {x : Operand} (ho : o.op = .load ty x) (hF : St w0 D0 w M D) {g off : Nat} (hx : look a x = some (.pointer (some ⟨g, off, none⟩))) (hw : Region.wanted o (yielded ops a.tmps) = true)
    {i : Nat} {t : TypeId} {cs : List Value} (hi : M[i]? = some (.blk g t cs)) (us : List Value) (ht : RowTy P ty us.length) (hu : ∀ j u, us[j]? = some u → cs[off + j]? = some u) {v : Value} (hv : .agg us.toArray = v)
    (h : wpList P ops Q rest (a.put o.dst v) w) : wpList P ops Q (o :: rest) a w := by
  replace hx := look_eval hx
  exact wpList_load_elem hw ty x ho g off hx us v hv.symm (fun j u hj => ((hF.bkAt hi).cell (off + j)).trans (hu j u hj)) ht h
/-- one cell, stored -/
theorem st_st1 {ty : TypeId} {x y : Operand} (ho : o.op = .store ty x y) (hF : St w0 D0 w M D) {g off : Nat} (hx : look a x = some (.pointer (some ⟨g, off, none⟩))) {v : Value} (hy : look a y = some v) (ht : OneT P ty) (hw : Region.wanted o (yielded ops a.tmps) = true)
    {i : Nat} {t : TypeId} {cs : List Value} (hi : M[i]? = some (.blk g t cs)) (hoff : off < cs.length) (h1 : v.oneCell' = true) {M' : List Mu} (hM : M.set i (.blk g t (cs.set off v)) = M')
    (h : ∀ w', St w0 D0 w' M' D → wpList P ops Q rest (a.put o.dst undef) w') : wpList P ops Q (o :: rest) a w := by
  replace hx := look_eval hx
  subst hM
  replace hy := look_eval hy
  have hb := hF.bkAt hi
  have hge : w0.heap.size ≤ g := (hF.mu i _ hi).2
  have hg : w.grownBy (w.setCell ⟨g, off, none⟩ v) (some g) := ⟨rfl, rfl, rfl, by simp [World.setCell], fun k hk hne => Below.heap_setCell w _ v k (fun e => hne (by rw [e]))⟩
  have hF' := hF.upd i _ (.blk g t (cs.set off v)) hi hg ⟨hb.set_ off v, hge⟩ fun g' hg' => .inl hg'
  refine wpList_wanted hw fun K hK => ?_
  have hk := hK _ _ (h _ hF')
  have hc : w.cell? ⟨g, off, none⟩ = some cs[off] := (hb.cell off).trans (List.getElem?_eq_getElem hoff)
  unfold Oper.wp execOp
  simp only [ho, hx, hy, Instr.storeAt, Instr.sureAddr, Sem.run_bind, Sem.run_pure, Result.andThen_ok, run_store_one ht hc (hb.frozen hoff) h1]
  exact hk
/-- a struct, stored within a variable -/
theorem st_stp {ty : TypeId} {x y : Operand} (ho : o.op = .store ty x y) (hF : St w0 D0 w M D) {g off : Nat} (hx : look a x = some (.pointer (some ⟨g, off, none⟩))) (us : List Value) (hy : look a y = some (.agg us.toArray)) (hw : Region.wanted o (yielded ops a.tmps) = true)
    {i : Nat} {t : TypeId} {cs : List Value} (hi : M[i]? = some (.blk g t cs)) (hfit : off + us.length ≤ cs.length) (ht : RowTy P ty us.length) (h1 : ∀ u ∈ us, u.oneCell' = true) {M' : List Mu} (hM : M.set i (.blk g t (spl cs off us)) = M')
    (h : ∀ w', St w0 D0 w' M' D → wpList P ops Q rest (a.put o.dst undef) w') : wpList P ops Q (o :: rest) a w := by
  replace hx := look_eval hx
  replace hy := look_eval hy
  subst hM
  have hb := hF.bkAt hi
  have hge : w0.heap.size ≤ g := (hF.mu i _ hi).2
  refine wpList_store_part hw ty x y ho g off us hx hy t cs hb hfit ht h1 fun w' hk hs ho' hbe => h w' ?_
  have h0 := hF.bel
  have hb' := hbe _ h0 hge
  exact hF.upd i _ _ hi ⟨hb'.os.trans h0.os.symm, hb'.tape.trans h0.tape.symm, hb'.output.trans h0.output.symm, by omega, fun k _ hne => ho' k (fun e => hne (by rw [e]; rfl))⟩ ⟨hk, hge⟩ fun g' hg' => .inl hg'
/-- a whole variable, stored -/
theorem st_st {ty : TypeId} {x y : Operand} (ho : o.op = .store ty x y) (hF : St w0 D0 w M D) {g : Nat} (hx : look a x = some (.pointer (some ⟨g, 0, none⟩))) (us : List Value) (hy : look a y = some (.agg us.toArray)) (hw : Region.wanted o (yielded ops a.tmps) = true)
    {i : Nat} {t : TypeId} {cs : List Value} (hi : M[i]? = some (.blk g t cs)) (hfit : us.length = cs.length) (ht : RowTy P ty us.length) (h1 : ∀ u ∈ us, u.oneCell' = true) {M' : List Mu} (hM : M.set i (.blk g t us) = M')
    (h : ∀ w', St w0 D0 w' M' D → wpList P ops Q rest (a.put o.dst undef) w') : wpList P ops Q (o :: rest) a w := by
  exact st_stp ho hF hx us hy hw hi (by omega) ht h1 (by rw [spl_all cs us hfit]; exact hM) h

/-- one cell of a row of the call's own, loaded -/
theorem st_ld1o {ty : TypeId} {x : Operand} (ho : o.op = .load ty x) (hF : St w0 D0 w M D) {g off : Nat} (hx : look a x = some (.pointer (some ⟨g, off, none⟩))) (ht : OneT P ty) (hw : Region.wanted o (yielded ops a.tmps) = true)
    {i n c : Nat} {e : TypeId} {sz : Nat} {xs : List Value} (hi : M[i]? = some (.own (.slice (some ⟨g, 0, none⟩) n c) e sz n xs)) {v : Value} (hv : xs[off]? = some v)
    (h : wpList P ops Q rest (a.put o.dst v) w) : wpList P ops Q (o :: rest) a w := by
  replace hx := look_eval hx
  refine wpList_wanted hw fun K hK => ?_
  unfold Oper.wp execOp
  simp only [ho, hx, Instr.loadAt, Instr.sureAddr, Sem.run_bind, Sem.run_pure, Result.andThen_ok, run_load_one ht (hF.ownCell hi off v hv)]
  exact hK _ _ h
/-- an element of it, whole -/
theorem st_ldo {ty : TypeId} {x : Operand} (ho : o.op = .load ty x) (hF : St w0 D0 w M D) {g off : Nat} (hx : look a x = some (.pointer (some ⟨g, off, none⟩))) (hw : Region.wanted o (yielded ops a.tmps) = true)
    {i n c : Nat} {e : TypeId} {sz : Nat} {xs : List Value} (hi : M[i]? = some (.own (.slice (some ⟨g, 0, none⟩) n c) e sz n xs)) (us : List Value) (hu : ∀ j u, us[j]? = some u → xs[off + j]? = some u) (ht : RowTy P ty us.length) {v : Value} (hv : .agg us.toArray = v)
    (h : wpList P ops Q rest (a.put o.dst v) w) : wpList P ops Q (o :: rest) a w := by
  replace hx := look_eval hx
  exact wpList_load_elem hw ty x ho g off hx us v hv.symm (fun j u hj => hF.ownCell hi (off + j) u (hu j u hj)) ht h
/-- one cell of it, stored -/
theorem st_st1o {ty : TypeId} {x y : Operand} (ho : o.op = .store ty x y) (hF : St w0 D0 w M D) {g off : Nat} (hx : look a x = some (.pointer (some ⟨g, off, none⟩))) {v : Value} (hy : look a y = some v) (ht : OneT P ty) (hw : Region.wanted o (yielded ops a.tmps) = true)
    {i n c : Nat} {e : TypeId} {sz : Nat} {xs : List Value} (hi : M[i]? = some (.own (.slice (some ⟨g, 0, none⟩) n c) e sz n xs)) (hoff : off < xs.length) (h1 : v.oneCell' = true) {M' : List Mu} (hM : M.set i (.own (.slice (some ⟨g, 0, none⟩) n c) e sz n (xs.set off v)) = M')
    (h : ∀ w', St w0 D0 w' M' D → wpList P ops Q rest (a.put o.dst undef) w') : wpList P ops Q (o :: rest) a w := by
  replace hx := look_eval hx
  subst hM
  replace hy := look_eval hy
  obtain ⟨hfz, hF'⟩ := hF.ownSet hi off v hoff
  refine wpList_wanted hw fun K hK => ?_
  have hk := hK _ _ (h _ hF')
  have hc : w.cell? ⟨g, off, none⟩ = some xs[off] := hF.ownCell hi off _ (List.getElem?_eq_getElem hoff)
  unfold Oper.wp execOp
  simp only [ho, hx, hy, Instr.storeAt, Instr.sureAddr, Sem.run_bind, Sem.run_pure, Result.andThen_ok, run_store_one ht hc hfz h1]
  exact hk

/-- an element's place -/
theorem st_ix {t e : TypeId} {x ix : Operand} (ho : o.op = .indexAddr t x ix) (hF : St w0 D0 w M D) {A : Option Addr} {n c : Nat} (hx : look a x = some (.slice A n c)) {k : Nat} {ki : IntKind} (hk : look a ix = some (.int ki (k : Int)))
    {z : Value} {sz bytes : Nat} (ht : SlT P t e z sz bytes) (hw : Region.wanted o (yielded ops a.tmps) = true) {xs : List Value} (hd : rowD sz A n c xs ∈ D) (hkn : k < n)
    (h : wpList P ops Q rest (a.put o.dst (ept A (k * sz))) w) : wpList P ops Q (o :: rest) a w := by
  replace hx := look_eval hx
  replace hk := look_eval hk
  obtain ⟨g, f, rfl, _, _⟩ := (hF.rd hd).at_ (by omega)
  refine wpList_wanted hw fun K hK => ?_
  obtain ⟨hu, hi, _, _⟩ := ht
  have hs : (sizeOf e).run P w = .ok sz w := by
    cases hq : P.info? e with
    | none => simp [hq] at hi
    | some i =>
      simp only [hq, Option.map_some, Option.some.injEq, Prod.mk.injEq] at hi
      simp [sizeOf, typeInfo, hq, hi.2.1]
  have hrun : (Instr.indexAt t (.slice (some ⟨g, f, none⟩) n c) (.int ki (k : Int))).run P w = .ok (ept (some ⟨g, f, none⟩) (k * sz)) w := by
    simp [Instr.indexAt, run_underlying hu, asIntOf, hs, ept, show (k : Int) < (n : Int) by omega]
    intro h; omega
  unfold Oper.wp execOp
  simp only [ho, hx, hk, hrun, Sem.run_bind, Sem.run_pure, Result.andThen_ok]
  exact hK _ _ h
/-- so in a block of the call's own -/
theorem st_ixB {t e : TypeId} {x ix : Operand} (ho : o.op = .indexAddr t x ix) {g n c : Nat} (hx : look a x = some (.slice (some ⟨g, 0, none⟩) n c)) {k : Nat} {ki : IntKind} (hk : look a ix = some (.int ki (k : Int)))
    {z : Value} {sz bytes : Nat} (ht : SlT P t e z sz bytes) (hw : Region.wanted o (yielded ops a.tmps) = true) (hkn : k < n)
    (h : wpList P ops Q rest (a.put o.dst (.pointer (some ⟨g, k * sz, none⟩))) w) : wpList P ops Q (o :: rest) a w := by
  replace hx := look_eval hx
  replace hk := look_eval hk
  refine wpList_wanted hw fun K hK => ?_
  obtain ⟨hu, hi, _, _⟩ := ht
  have hs : (sizeOf e).run P w = .ok sz w := by
    cases hq : P.info? e with
    | none => simp [hq] at hi
    | some i =>
      simp only [hq, Option.map_some, Option.some.injEq, Prod.mk.injEq] at hi
      simp [sizeOf, typeInfo, hq, hi.2.1]
  have hrun : (Instr.indexAt t (.slice (some ⟨g, 0, none⟩) n c) (.int ki (k : Int))).run P w = .ok (.pointer (some ⟨g, k * sz, none⟩)) w := by
    simp [Instr.indexAt, run_underlying hu, asIntOf, hs, addr_add, show (k : Int) < (n : Int) by omega]
    intro h; omega
  unfold Oper.wp execOp
  simp only [ho, hx, hk, hrun, Sem.run_bind, Sem.run_pure, Result.andThen_ok]
  exact hK _ _ h
theorem fieldPlace_of {w : World} {s f off : Nat} (ht : FldT P s f off) (ad : Addr) : (Instr.fieldAt s (.pointer (some ad)) f).run P w = .ok (.pointer (some (ad.add off))) w := by
  obtain ⟨fs, fl, n, hu, hf, rfl, hi, hn⟩ := ht
  have hs : (sizeOf fl.type).run P w = .ok n w := by
    cases hq : P.info? fl.type with
    | none => simp [hq] at hi
    | some i =>
      have : i.size = n := by simpa [hq] using hi
      simp [sizeOf, typeInfo, hq, this]
  simp [Instr.fieldAt, run_underlying hu, hf, Instr.sureAddr, fieldPlace, hs, hn]
/-- a field of an element -/
theorem st_fld {s f : Nat} {x : Operand} (ho : o.op = .fieldAddr s x f) {A : Option Addr} {j : Nat} (hx : look a x = some (ept A j)) {off : Nat} (ht : FldT P s f off) (hw : Region.wanted o (yielded ops a.tmps) = true) (hF : St w0 D0 w M D)
    {sz n c : Nat} {xs : List Value} (hd : rowD sz A n c xs ∈ D) (hn : 0 < n)
    (h : wpList P ops Q rest (a.put o.dst (ept A (j + off))) w) : wpList P ops Q (o :: rest) a w := by
  replace hx := look_eval hx
  obtain ⟨g, f0, rfl, _, _⟩ := (hF.rd hd).at_ hn
  refine wpList_wanted hw fun K hK => ?_
  rw [ept_add] at h
  simp only [Option.map_some] at h
  unfold Oper.wp execOp
  simp only [ho, hx, ept, Option.map_some, fieldPlace_of ht, Sem.run_bind, Sem.run_pure, Result.andThen_ok]
  exact hK _ _ h
/-- a field of a variable of the call's own -/
theorem st_fldB {s f : Nat} {x : Operand} (ho : o.op = .fieldAddr s x f) {g j : Nat} (hx : look a x = some (.pointer (some ⟨g, j, none⟩))) {off : Nat} (ht : FldT P s f off) (hw : Region.wanted o (yielded ops a.tmps) = true)
    (h : wpList P ops Q rest (a.put o.dst (.pointer (some ⟨g, j + off, none⟩))) w) : wpList P ops Q (o :: rest) a w := by
  replace hx := look_eval hx
  refine wpList_wanted hw fun K hK => ?_
  unfold Oper.wp execOp
  simp only [ho, hx, fieldPlace_of ht, addr_add, Sem.run_bind, Sem.run_pure, Result.andThen_ok]
  exact hK _ _ h
/-- one cell of a row that is only read -/
theorem st_lde1 {ty : TypeId} {x : Operand} (ho : o.op = .load ty x) (hF : St w0 D0 w M D) {A : Option Addr} {j : Nat} (hx : look a x = some (ept A j)) (ht : OneT P ty) (hw : Region.wanted o (yielded ops a.tmps) = true)
    {sz n c : Nat} {xs : List Value} (hd : rowD sz A n c xs ∈ D) {v : Value} (hv : xs[j]? = some v)
    (h : wpList P ops Q rest (a.put o.dst v) w) : wpList P ops Q (o :: rest) a w := by
  replace hx := look_eval hx
  have hr := hF.rd hd
  have hn : 0 < n := by
    have h1 := (List.getElem?_eq_some_iff.1 hv).1
    have h2 := hr.len
    rcases Nat.eq_zero_or_pos n with h0 | h0
    · subst h0; omega
    · exact h0
  obtain ⟨g, f, rfl, _, hc⟩ := hr.at_ hn
  refine wpList_wanted hw fun K hK => ?_
  unfold Oper.wp execOp
  simp only [ho, hx, ept, Option.map_some, addr_add, Instr.loadAt, Instr.sureAddr, Sem.run_bind, Sem.run_pure, Result.andThen_ok, run_load_one ht (hc j v hv)]
  exact hK _ _ h
/-- a whole element of it -/
theorem st_lde {ty : TypeId} {x : Operand} (ho : o.op = .load ty x) (hF : St w0 D0 w M D) {A : Option Addr} {j : Nat} (hx : look a x = some (ept A j)) (hw : Region.wanted o (yielded ops a.tmps) = true)
    {sz n c : Nat} {xs : List Value} (hd : rowD sz A n c xs ∈ D) (us : List Value) (hu : ∀ i u, us[i]? = some u → xs[j + i]? = some u) (ht : RowTy P ty us.length) (h0 : 0 < us.length) {v : Value} (hv : .agg us.toArray = v)
    (h : wpList P ops Q rest (a.put o.dst v) w) : wpList P ops Q (o :: rest) a w := by
  replace hx := look_eval hx
  have hr := hF.rd hd
  have hn : 0 < n := by
    have h1 := (List.getElem?_eq_some_iff.1 (hu 0 _ (List.getElem?_eq_getElem h0))).1
    have h2 := hr.len
    rcases Nat.eq_zero_or_pos n with h3 | h3
    · subst h3; omega
    · exact h3
  obtain ⟨g, f, rfl, _, hc⟩ := hr.at_ hn
  refine wpList_load_elem hw ty x ho g (f + j) (by rw [hx]; simp [ept, addr_add]) us v hv.symm (fun i u hi => ?_) ht h
  have := hc (j + i) u (hu i u hi)
  rwa [Nat.add_assoc]

/-- 's[:N]' of a row that is only read -/
theorem st_to {t e : TypeId} {x y : Operand} (ho : o.op = .slice t x none (some y) none) (hF : St w0 D0 w M D) {A : Option Addr} {n c N : Nat} (hx : look a x = some (.slice A n c)) {ki : IntKind} (hy : look a y = some (.int ki (N : Int)))
    {z : Value} {sz bytes : Nat} (ht : SlT P t e z sz bytes) (hw : Region.wanted o (yielded ops a.tmps) = true) {xs : List Value} (hd : rowD sz A n c xs ∈ D) (hN : N ≤ n)
    (h : St w0 D0 w M (rowD sz A N c (xs.take (N * sz)) :: D) → wpList P ops Q rest (a.put o.dst (.slice A N c)) w) : wpList P ops Q (o :: rest) a w := by
  replace hx := look_eval hx
  replace hy := look_eval hy
  have hr := hF.rd hd
  have hF' := hF.part (rowD sz A N c (xs.take (N * sz))) (hr.to hN) fun g hg => ⟨_, hd, by obtain ⟨hn, p⟩ := hg; exact ⟨by omega, p⟩⟩
  refine wpList_wanted hw fun K hK => ?_
  have hk := hK _ _ (h hF')
  obtain ⟨hu, hi, _, _⟩ := ht
  have hs : (sizeOf e).run P w = .ok sz w := by
    cases hq : P.info? e with
    | none => simp [hq] at hi
    | some i =>
      simp only [hq, Option.map_some, Option.some.injEq, Prod.mk.injEq] at hi
      simp [sizeOf, typeInfo, hq, hi.2.1]
  have hel : P.elem t = e := by simp [Program.elem, hu]
  have h1 := run_slice_h (P := P) (w := w) t A n c (by rw [hel]; exact hu) ki (N : Int) (by omega) (by have := hr.le; omega)
  have h2 : (Instr.sliceAt t (.slice A n c) none (some (.int ki (N : Int))) none).run P w = .ok (.slice A N c) w := by
    rw [run_sliceAt_slice (P := P) (w := w) t _ _ _ _ (by rw [hel]; exact hu), h1, hel, hs]
    simp only [Result.andThen_ok, sliced, Int.toNat_natCast, Nat.zero_mul, Nat.sub_zero]
    congr 2
    split
    · rfl
    · cases A with
      | none => rfl
      | some ad => simp [Addr.add]
  unfold Oper.wp execOp
  simp only [ho, hx, hy, Option.map_some, Option.map_none, h2, Sem.run_bind, Sem.run_pure, Result.andThen_ok]
  exact hk
theorem St.toPart (hF : St w0 D0 w M D) {sz : Nat} {A : Option Addr} {n c N : Nat} {xs : List Value} (hd : rowD sz A n c xs ∈ D) (hN : N ≤ n) : St w0 D0 w M (rowD sz A N c (xs.take (N * sz)) :: D) :=
  hF.part _ ((hF.rd hd).to hN) fun g hg => ⟨_, hd, by obtain ⟨hn, p⟩ := hg; exact ⟨by omega, p⟩⟩
/-- where 's[k:]' begins -/
def cutA (A : Option Addr) (k c sz : Nat) : Option Addr := if c = k then A else A.map fun a => a.add (k * sz)
theorem Rd.cut {w : World} {B sz n c k : Nat} {A : Option Addr} {xs : List Value} (h : Rd w B sz A n c xs) (hk : k ≤ n) : Rd w B sz (cutA A k c sz) (n - k) (c - k) (xs.drop (k * sz)) := by
  have hl := h.len
  have hc := h.le
  refine ⟨?_, by omega, by have := h.mx; omega, fun hn => ?_⟩
  · rw [List.length_drop, hl, Nat.sub_mul]
  · obtain ⟨g, f, rfl, hb, hx⟩ := h.at_ (by omega)
    refine ⟨g, f + k * sz, by rw [cutA, if_neg (by omega)]; simp [addr_add], hb, fun j u hu => ?_⟩
    rw [List.getElem?_drop] at hu
    have := hx _ u hu
    rwa [Nat.add_assoc]
theorem St.fromPart (hF : St w0 D0 w M D) {sz : Nat} {A : Option Addr} {n c k : Nat} {xs : List Value} (hd : rowD sz A n c xs ∈ D) (hk : k ≤ n) : St w0 D0 w M (rowD sz (cutA A k c sz) (n - k) (c - k) (xs.drop (k * sz)) :: D) :=
  hF.part _ ((hF.rd hd).cut hk) fun g hg => ⟨_, hd, by
    obtain ⟨hn, f, s, p⟩ := hg
    refine ⟨by omega, ?_⟩
    unfold cutA at p
    split at p
    · exact ⟨f, s, p⟩
    · cases A with
      | none => cases p
      | some ad =>
        obtain ⟨g', f', s'⟩ := ad
        refine ⟨f', s', ?_⟩
        simp only [Option.map_some, Option.some.injEq] at p
        unfold Addr.add at p
        split at p
        · injection p with p; subst p; rfl
        · injection p with p; subst p; rfl⟩
theorem st_from {t e : TypeId} {x y : Operand} (ho : o.op = .slice t x (some y) none none) (hF : St w0 D0 w M D) {A : Option Addr} {n c k : Nat} (hx : look a x = some (.slice A n c)) {ki : IntKind} (hy : look a y = some (.int ki (k : Int)))
    {z : Value} {sz bytes : Nat} (ht : SlT P t e z sz bytes) (hw : Region.wanted o (yielded ops a.tmps) = true) {xs : List Value} (hd : rowD sz A n c xs ∈ D) (hk : k ≤ n)
    (h : St w0 D0 w M (rowD sz (cutA A k c sz) (n - k) (c - k) (xs.drop (k * sz)) :: D) → wpList P ops Q rest (a.put o.dst (.slice (cutA A k c sz) (n - k) (c - k))) w) : wpList P ops Q (o :: rest) a w := by
  replace hx := look_eval hx
  replace hy := look_eval hy
  have hr := hF.rd hd
  have hF' := hF.part (rowD sz (cutA A k c sz) (n - k) (c - k) (xs.drop (k * sz))) (hr.cut hk) fun g hg => ⟨_, hd, by
    obtain ⟨hn, f, s, p⟩ := hg
    refine ⟨by omega, ?_⟩
    unfold cutA at p
    split at p
    · exact ⟨f, s, p⟩
    · cases A with
      | none => cases p
      | some ad =>
        obtain ⟨g', f', s'⟩ := ad
        refine ⟨f', s', ?_⟩
        simp only [Option.map_some, Option.some.injEq] at p
        unfold Addr.add at p
        split at p
        · injection p with p; subst p; rfl
        · injection p with p; subst p; rfl⟩
  refine wpList_wanted hw fun K hK => ?_
  have hk' := hK _ _ (h hF')
  obtain ⟨hu, hi, _, _⟩ := ht
  have hs : (sizeOf e).run P w = .ok sz w := by
    cases hq : P.info? e with
    | none => simp [hq] at hi
    | some i =>
      simp only [hq, Option.map_some, Option.some.injEq, Prod.mk.injEq] at hi
      simp [sizeOf, typeInfo, hq, hi.2.1]
  have hel : P.elem t = e := by simp [Program.elem, hu]
  have h1 := run_slice_l (P := P) (w := w) t A n c (by rw [hel]; exact hu) ki (k : Int) (by omega) (by omega)
  have h2 : (Instr.sliceAt t (.slice A n c) (some (.int ki (k : Int))) none none).run P w = .ok (.slice (cutA A k c sz) (n - k) (c - k)) w := by
    rw [run_sliceAt_slice (P := P) (w := w) t _ _ _ _ (by rw [hel]; exact hu), h1, hel, hs]
    simp only [Result.andThen_ok, sliced, Int.toNat_natCast, cutA]
  unfold Oper.wp execOp
  simp only [ho, hx, hy, Option.map_some, Option.map_none, h2, Sem.run_bind, Sem.run_pure, Result.andThen_ok]
  exact hk'

/-- cells put into a row of as many -/
theorem fill_all (cs us : List Value) (hl : us.length = cs.length) : us.toArray.zipIdx.foldl (fun (x : Array Value) (p : Value × Nat) => x.setIfInBounds (0 + p.2) p.1) cs.toArray = us.toArray := by
  have key : ∀ (r : List Value) (k : Nat) (x : List Value), k + r.length = x.length → (r.zipIdx k).foldl (fun (x : Array Value) (p : Value × Nat) => x.setIfInBounds (0 + p.2) p.1) x.toArray = (x.take k ++ r).toArray := by
    intro r
    induction r with
    | nil => intro k x hk; simp at hk; simp [List.take_of_length_le (Nat.le_of_eq hk.symm)]
    | cons v r ih =>
      intro k x hk
      rw [List.length_cons] at hk
      rw [List.zipIdx_cons, List.foldl_cons]
      simp only [Nat.zero_add, List.setIfInBounds_toArray]
      have := ih (k + 1) (x.set k v) (by simp; omega)
      simp only [Nat.zero_add] at this
      rw [this]
      congr 1
      rw [List.take_set, List.take_succ_eq_append_getElem (by omega), List.set_append_right _ _ (by simp; omega)]
      simp [List.length_take, Nat.min_eq_left (show k ≤ x.length by omega)]
  have := key us 0 cs (by omega)
  simpa [← Array.foldl_toList] using this
/-- '[]T{v}' -/
theorem run_bs1 {w : World} {t e : TypeId} {z : Value} {sz bytes : Nat} (ht : SlT P t e z sz bytes) (v : Value) (us : List Value) (hv : v.cells = us.toArray) (hl : us.length = sz) (hb : sz ≤ 1000) :
    (Instr.buildSlice t 1 #[(0, v)]).run P w = .ok (.slice (some ⟨w.heap.size, 0, none⟩) 1 1) (w.alloc (.cells us.toArray e)) := by
  obtain ⟨hu, hi, hz, hp⟩ := ht
  obtain ⟨i, hi1, hz1, hs1, _⟩ := info_parts hi
  have hlen : ((Array.range (1 * i.size)).map (z.cells[· % z.cells.size]!)).size = us.length := by simp [hs1, hl]
  refine run_buildSlice w t e 1 _ us.toArray i z hu hi1 hz1 (by rw [hs1]; omega) (by rw [hs1]; omega) ?_
  generalize (Array.range (1 * i.size)).map (z.cells[· % z.cells.size]!) = ar at hlen
  have hf := fill_all ar.toList us (by simpa using hlen.symm)
  have hsz : v.cells.size = i.size := by rw [hv, hs1]; simpa using hl
  have hc1 : ¬ (v.cells.size ≠ i.size ∨ 0 * i.size + v.cells.size > ar.size) := by
    rw [hlen, hsz, hs1, hl]; omega
  simp only [Instr.fill, if_neg hc1, hv, Nat.zero_mul]
  rw [if_neg (by rw [hlen]; simp [hs1, hl])]
  simpa using hf
theorem st_bs1 {t e : TypeId} {x : Operand} (ho : o.op = .buildSlice t 1 #[(0, x)]) (hgd : o.guard = none) (hF : St w0 D0 w M D) {z : Value} {sz bytes : Nat} (ht : SlT P t e z sz bytes) {v : Value} (hx : look a x = some v) (us : List Value) (hv : v.cells = us.toArray) (hl : us.length = sz) (hb : sz ≤ 1000)
    (h : ∀ g w', St w0 D0 w' (.own (.slice (some ⟨g, 0, none⟩) 1 1) e sz 1 us :: M) D → wpList P ops Q rest (a.put o.dst (.slice (some ⟨g, 0, none⟩) 1 1)) w') : wpList P ops Q (o :: rest) a w := by
  refine wpList_plain hgd fun K hK => ?_
  have hF' : St w0 D0 (w.alloc (.cells us.toArray e)) (.own (.slice (some ⟨w.heap.size, 0, none⟩) 1 1) e sz 1 us :: M) D :=
    hF.push _ (grown_of_bel (Bel.alloc w _) none) ⟨by rw [hl, Nat.one_mul], .inr ⟨w.heap.size, 1, us.toArray, rfl, hF.bel.size, heap_alloc_new w _, Nat.le_refl _, by simp [maxLen], by simp [hl], by rw [List.take_of_length_le (by simp [hl])]⟩⟩ fun g hg => by simp only [Mu.bl, Value.ownBlock, Option.some.injEq] at hg; omega
  have hk := hK _ _ (h _ _ hF')
  rw [← look_eval hx] at hv
  unfold Oper.wp execOp
  simp only [ho, List.map_toArray, List.map_cons, List.map_nil, run_bs1 ht _ us hv hl hb, Sem.run_bind, Sem.run_pure, Result.andThen_ok]
  exact hk
/-- '[]T{}': a row to append to -/
theorem st_bs0 {t e : TypeId} (ho : o.op = .buildSlice t 0 #[]) (hgd : o.guard = none) (hF : St w0 D0 w M D) {z : Value} {sz bytes : Nat} (ht : SlT P t e z sz bytes)
    (h : ∀ g w', St w0 D0 w' (.own (.slice (some ⟨g, 0, none⟩) 0 0) e sz 0 [] :: M) D → wpList P ops Q rest (a.put o.dst (.slice (some ⟨g, 0, none⟩) 0 0)) w') : wpList P ops Q (o :: rest) a w := by
  refine wpList_plain hgd fun K hK => ?_
  have hF' : St w0 D0 (w.alloc (.cells #[] e)) (.own (.slice (some ⟨w.heap.size, 0, none⟩) 0 0) e sz 0 [] :: M) D :=
    hF.push _ (grown_of_bel (Bel.alloc w _) none) (own_empty w w0.heap.size e sz hF.bel.size) fun g hg => by simp only [Mu.bl, Value.ownBlock, Option.some.injEq] at hg; omega
  have hk := hK _ _ (h _ _ hF')
  obtain ⟨hu, hi, hz, hp⟩ := ht
  obtain ⟨i, hi1, hz1, hs1, _⟩ := info_parts hi
  have hrun : (Instr.buildSlice t 0 #[]).run P w = .ok (.slice (some ⟨w.heap.size, 0, none⟩) 0 0) (w.alloc (.cells #[] e)) := by
    simp [Instr.buildSlice, run_underlying hu, sizeOf, typeInfo, hi1, Instr.fill, newRow]
    rw [show Array.range 0 = #[] from by simp]
    simp
  unfold Oper.wp execOp
  simp only [ho, List.map_toArray, List.map_nil, hrun, Sem.run_bind, Sem.run_pure, Result.andThen_ok]
  exact hk

theorem growslice_ok {a b m : Nat} (ho : a < m) (hb : m * b ≤ 140737488355328) : Builtin.nextslicecap m a * b ≤ 281474976710656 := growslice_fits ho hb
/-- 'append(out, x..)': out's own row has grown, in its block or in a new one -/
theorem run_app_st {w : World} {base : Nat} {t ty e : TypeId} {z : Value} {sz bytes : Nat} (ht : SlT P t e z sz bytes) {v : Value} {n : Nat} {xs : List Value} (hown : w.ownsRow base e sz v n xs)
    {A : Option Addr} {m c B : Nat} {us : List Value} (hr : Rd w B sz A m c us) (h1 : ∀ u ∈ us, u.oneCell' = true) (hm : n + m ≤ 9223372036854775807) (hbytes : (n + m) * bytes ≤ 140737488355328) (hbase : base ≤ w.heap.size) :
    ∃ v' w', (Builtin.append_ #[t, t] ty #[v, .slice A m c]).run P w = .ok v' w' ∧ w'.ownsRow base e sz v' (n + m) (xs ++ us) ∧ w.grownBy w' v.ownBlock ∧ (∀ g, v'.ownBlock = some g → v.ownBlock = some g ∨ w.heap.size ≤ g) := by
  obtain ⟨hu, hinfo, hzs, hsz⟩ := ht
  obtain ⟨i, hi, hz, rfl, rfl⟩ := info_parts hinfo
  cases A with
  | none =>
    have hm0 : m = 0 := by
      rcases Nat.eq_zero_or_pos m with h0 | h0
      · exact h0
      · obtain ⟨g, f, e, _⟩ := hr.at_ h0
        cases e
    subst hm0
    obtain rfl : us = [] := List.eq_nil_of_length_eq_zero (by simpa using hr.len)
    have hrun : (Builtin.append_ #[t, t] ty #[v, .slice none 0 c]).run P w = .ok v w := by
      rcases hown.2 with ⟨rfl, rfl⟩ | ⟨g, cap, cur, rfl, _, _, hnc, _⟩
      · simp [Builtin.append_, run_underlying hu, sizeOf, typeInfo, hi, Builtin.lenOf, Builtin.firstCells]
      · simp [Builtin.append_, run_underlying hu, sizeOf, typeInfo, hi, Builtin.lenOf, Builtin.firstCells, hnc, storeCells]
    exact ⟨v, w, hrun, by simpa using hown, World.grownBy.refl w _, fun g hg => .inl hg⟩
  | some ad =>
    have hnews : ∀ j u, us[j]? = some u → w.cell? (ad.add j) = some u := by
      intro j u hj
      have hj' := (List.getElem?_eq_some_iff.1 hj).1
      have hl := hr.len
      have hm0 : 0 < m := by
        rcases Nat.eq_zero_or_pos m with h0 | h0
        · subst h0; omega
        · exact h0
      obtain ⟨g', f', e', _, hc⟩ := hr.at_ hm0
      injection e' with e'
      subst e'
      rw [addr_add]; exact hc j u hj
    obtain ⟨v', w', hrun, h2, h3, h4⟩ := run_append_own (P := P) w base t ty e i z i.size i.bytes hu hi hz rfl rfl hzs hsz v n xs hown ad m c us hr.len hnews h1 (by simp only [maxLen]; omega) hbytes hbase
    refine ⟨v', w', hrun, h2, h3, ?_⟩
    rcases hown.2 with ⟨rfl, rfl⟩ | ⟨g, cap, cur, rfl, hbg, hg, hnc, hcm, hcs, htake⟩
    · rcases Nat.eq_zero_or_pos m with h0 | h0
      · subst h0
        have := h4.2 ⟨rfl, rfl⟩
        subst this
        intro g hg; simp [Value.ownBlock] at hg
      · have hr2 := run_append_nil (P := P) w t ty e i z hu hi hz ad m c us hr.len hnews h0 (by omega) (by simp only [Nat.zero_add] at hbytes; omega)
        rw [hrun] at hr2
        injection hr2 with e1 _
        subst e1
        intro g hg
        simp only [Value.ownBlock, Option.some.injEq] at hg
        exact .inr (by omega)
    · by_cases hroom : n + m ≤ cap
      · have hfit : n * i.size + us.length ≤ cur.size := by rw [hr.len, hcs, ← Nat.add_mul]; exact Nat.mul_le_mul_right _ hroom
        have hr2 := run_append_room (P := P) w t ty e i hu hi g n cap cur hg ad m c us hr.len hnews h1 hroom hfit
        rw [hrun] at hr2
        injection hr2 with e1 _
        subst e1
        intro g' hg'
        exact .inl hg'
      · have holds : ∀ j u, xs[j]? = some u → w.cell? ((⟨g, 0, none⟩ : Addr).add j) = some u := hown.cells (g := g) rfl
        have hr2 := run_append_grow (P := P) w t ty e i z hu hi hz ⟨g, 0, none⟩ n cap xs hown.1 holds ad m c us hr.len hnews (by omega) (by omega) (growslice_ok (by omega) hbytes)
        rw [hrun] at hr2
        injection hr2 with e1 _
        subst e1
        intro g hg
        simp only [Value.ownBlock, Option.some.injEq] at hg
        exact .inr (by omega)
/-- 'append(out, x)', x in a block of the call's own, which is let go -/
theorem st_app {t e : TypeId} {s x : Operand} (ho : o.op = .call { callee := .builtin .append, args := #[s, x], argTypes := #[t, t] }) (hgd : o.guard = none) (hF : St w0 D0 w M D) {z : Value} {sz bytes : Nat} (ht : SlT P t e z sz bytes)
    {v : Value} (hs : look a s = some v) {g m : Nat} (hx : look a x = some (.slice (some ⟨g, 0, none⟩) m m)) {j : Nat} {us : List Value} (hj : M[j]? = some (.own (.slice (some ⟨g, 0, none⟩) m m) e sz m us)) {i : Nat} {n : Nat} {xs : List Value} (hi : M[i]? = some (.own v e sz n xs))
    (h1 : ∀ u ∈ us, u.oneCell' = true) (h63 : (n + m) * bytes ≤ 140737488355328) (hm : n + m ≤ 9223372036854775807) {M' : Value → List Mu} (hM : ∀ v', (M.set i (.own v' e sz (n + m) (xs ++ us))).eraseIdx j = M' v')
    (h : ∀ v' w', St w0 D0 w' (M' v') D → wpList P ops Q rest (a.put o.dst v') w') : wpList P ops Q (o :: rest) a w := by
  replace hx := look_eval hx
  have hr : Rd w w.heap.size sz (some ⟨g, 0, none⟩) m m us := by
    obtain ⟨A, c, e1, hr⟩ := Rd.of_own (hF.ownAt hj)
    injection e1 with e1 _ e2
    subst e1 e2
    exact hr
  obtain ⟨v', w', hrun, hown', hg, hfr⟩ := run_app_st (ty := o.type) ht (hF.ownAt hi) hr h1 hm h63 hF.bel.size
  have hF' := (hF.upd i _ (.own v' e sz (n + m) (xs ++ us)) hi hg hown' hfr).drop j
  rw [hM] at hF'
  refine wpList_plain hgd fun K hK => ?_
  have hk := hK _ _ (h v' w' hF')
  replace hs := look_eval hs
  unfold Oper.wp execOp
  simp only [ho, resolve, invoke, builtin, Sem.run_bind, Sem.run_pure, Result.andThen_ok, List.map_toArray, List.map_cons, List.map_nil, hs, hx, hrun]
  exact hk
/-- 'append(out, xs...)', xs a row that is only read -/
theorem st_appD {t e : TypeId} {s x : Operand} (ho : o.op = .call { callee := .builtin .append, args := #[s, x], argTypes := #[t, t] }) (hgd : o.guard = none) (hF : St w0 D0 w M D) {z : Value} {sz bytes : Nat} (ht : SlT P t e z sz bytes)
    {v : Value} (hs : look a s = some v) {A : Option Addr} {m c : Nat} (hx : look a x = some (.slice A m c)) {us : List Value} (hd : rowD sz A m c us ∈ D) {i : Nat} {n : Nat} {xs : List Value} (hi : M[i]? = some (.own v e sz n xs))
    (h1 : ∀ u ∈ us, u.oneCell' = true) (h63 : (n + m) * bytes ≤ 140737488355328) (hm : n + m ≤ 9223372036854775807) {M' : Value → List Mu} (hM : ∀ v', M.set i (.own v' e sz (n + m) (xs ++ us)) = M' v')
    (h : ∀ v' w', St w0 D0 w' (M' v') D → wpList P ops Q rest (a.put o.dst v') w') : wpList P ops Q (o :: rest) a w := by
  replace hx := look_eval hx
  obtain ⟨v', w', hrun, hown', hg, hfr⟩ := run_app_st (ty := o.type) ht (hF.ownAt hi) (hF.rd hd) h1 hm h63 hF.bel.size
  have hF' := hF.upd i _ (.own v' e sz (n + m) (xs ++ us)) hi hg hown' hfr
  rw [hM] at hF'
  refine wpList_plain hgd fun K hK => ?_
  have hk := hK _ _ (h v' w' hF')
  replace hs := look_eval hs
  unfold Oper.wp execOp
  simp only [ho, resolve, invoke, builtin, Sem.run_bind, Sem.run_pure, Result.andThen_ok, List.map_toArray, List.map_cons, List.map_nil, hs, hx, hrun]
  exact hk
/-- 'make([]T, 0, n)' -/
theorem st_make0 {t e : TypeId} {l c : Operand} (ho : o.op = .makeSlice t l c) (hgd : o.guard = none) (hF : St w0 D0 w M D) {z : Value} {sz bytes : Nat} (ht : SlT P t e z sz bytes) {kl kc : IntKind} (hl : look a l = some (.int kl 0)) {N : Int} (hc : look a c = some (.int kc N))
    (n : Nat) (hN : N = (n : Int)) (hb : bytes * n ≤ 281474976710656) (hm : n ≤ maxLen)
    (h : ∀ g w', St w0 D0 w' (.own (.slice (some ⟨g, 0, none⟩) 0 n) e sz 0 [] :: M) D → wpList P ops Q rest (a.put o.dst (.slice (some ⟨g, 0, none⟩) 0 n)) w') : wpList P ops Q (o :: rest) a w := by
  replace hl := look_eval hl
  replace hc := look_eval hc
  obtain ⟨hu, hinfo, hzs, hsz⟩ := ht
  obtain ⟨i, hi, hz, hs1, rfl⟩ := info_parts hinfo
  refine wpList_make_own w hgd l c t ho w0.heap.size e i z sz hu hi hz hs1 kl kc N n hl hc hN hb hm hF.bel.size ?_
  intro w' hown hg
  exact h _ _ (hF.push _ hg hown fun g hg => by simp only [Mu.bl, Value.ownBlock, Option.some.injEq] at hg; omega)
/-- 'make([]T, n)': a block, known whole -/
theorem st_make {t e : TypeId} {l c : Operand} (ho : o.op = .makeSlice t l c) (hgd : o.guard = none) (hF : St w0 D0 w M D) {z : Value} {sz bytes : Nat} (ht : SlT P t e z sz bytes) {kl kc : IntKind} {L N : Int} (hl : look a l = some (.int kl L)) (hc : look a c = some (.int kc N))
    (n : Nat) (hL : L = (n : Int)) (hN : N = (n : Int)) (hb : bytes * n ≤ 281474976710656) (hm : n ≤ maxLen) {zs : List Value} (he : (madeCells z.cells (n * sz)).toList = zs)
    (h : ∀ g w', St w0 D0 w' (.blk g e zs :: M) D → wpList P ops Q rest (a.put o.dst (.slice (some ⟨g, 0, none⟩) n n)) w') : wpList P ops Q (o :: rest) a w := by
  replace hl := look_eval hl
  replace hc := look_eval hc
  obtain ⟨hu, hinfo, hzz, hsz⟩ := ht
  obtain ⟨i, hi, hz, hs1, rfl⟩ := info_parts hinfo
  refine wpList_make_full w hgd l c t ho w0.heap.size e i z sz hu hi hz hs1 kl kc L N n hl hc hL hN hb hm hF.bel.size ?_
  intro w' hown hg
  have hbk := Bk.of_own hown rfl
  rw [he] at hbk
  exact h _ _ (hF.push _ hg ⟨hbk, hF.bel.size⟩ fun g hg => by simp only [Mu.bl, Option.some.injEq] at hg; omega)
/-- 'copy(dst, src)', both of n elements, dst a block of the call's own -/
theorem st_copy {t e : TypeId} {d s : Operand} (ho : o.op = .call { callee := .builtin .copy, args := #[d, s], argTypes := #[t, t] }) (hgd : o.guard = none) (hF : St w0 D0 w M D) {z : Value} {sz bytes : Nat} (ht : SlT P t e z sz bytes)
    {g n cd : Nat} (hx : look a d = some (.slice (some ⟨g, 0, none⟩) n cd)) {A : Option Addr} {c : Nat} (hy : look a s = some (.slice A n c)) {us : List Value} (hd : rowD sz A n c us ∈ D) {i : Nat} {t' : TypeId} {cs : List Value} (hi : M[i]? = some (.blk g t' cs))
    (hl : cs.length = n * sz) (h1 : ∀ u ∈ us, u.oneCell' = true) {M' : List Mu} (hM : M.set i (.blk g t' us) = M')
    (h : ∀ w', St w0 D0 w' M' D → wpList P ops Q rest (a.put o.dst (goInt (n : Nat))) w') : wpList P ops Q (o :: rest) a w := by
  replace hx := look_eval hx
  replace hy := look_eval hy
  subst hM
  obtain ⟨hu, hinfo, hzz, hsz⟩ := ht
  obtain ⟨i0, hi0, hz, hs1, rfl⟩ := info_parts hinfo
  have hr := hF.rd hd
  refine wpList_copy_rd hgd d s t ho e hu sz (by rw [hi0]; simp [hs1]) g 0 n cd A c hx hy w.heap.size us hr h1 t' cs (hF.bkAt hi) (by omega) fun w' hk hg => h w' ?_
  rw [spl_all cs us (by rw [hr.len, hl])] at hk
  exact hF.upd i _ _ hi hg ⟨hk, (hF.mu i _ hi).2⟩ fun g' hg' => .inl hg'
end
end Go.Proofs.Ytcahadkkjfijfaa
