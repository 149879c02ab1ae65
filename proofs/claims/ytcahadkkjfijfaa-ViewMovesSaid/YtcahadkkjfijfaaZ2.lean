/- Joined: StW, Rg, RgA, StN, StB, Tys, TysB. -/
import Derived.Test.YtcahadkkjfijfaaZ1
import Derived.Great.BuildSlice
import Derived.Deep.RegionHeld3
/- The walk's laws over St: boxes, new variables, loads, stores, elements, cuts, rows that are appended to. -/
set_option linter.unusedVariables false
set_option linter.unusedSimpArgs false
namespace Go.Proofs.Ytcahadkkjfijfaa
open Go.RowKit

/-- a type of one cell -/
inductive OneT (P : Program) (ty : TypeId) : Prop
  | mk (d : TypeDesc) (hu : P.underlying ty = some d) (hd : (match d with | .struct _ | .array _ _ => false | _ => true) = true) (hi : (P.info? ty).map (·.size) = some 1)
/-- a slice's type, its elements' type, their zero, cells and bytes -/
inductive SlT (P : Program) (t e : TypeId) (z : Value) (sz bytes : Nat) : Prop
  | mk (hu : P.underlying t = some (.slice e)) (hi : (P.info? e).map (fun i => (i.zero, i.size, i.bytes)) = some (some z, sz, bytes)) (hz : z.cells.size = sz) (hp : 0 < sz)
/-- a field's place -/
inductive FldT (P : Program) (s f off : Nat) : Prop
  | mk (fs : Array Field) (fl : Field) (n : Nat) (hu : P.underlying s = some (.struct fs)) (hf : fs[f]? = some fl) (ho : fl.offset = off) (hi : (P.info? fl.type).map (·.size) = some n) (hn : n ≠ 0)
/-- a type's zero, in cells -/
inductive ZeroT (P : Program) (t : TypeId) (cs : List Value) : Prop
  | mk (z : Value) (hi : (P.info? t).map (·.zero) = some (some z)) (hc : z.cells = cs.toArray)

/-- an operand's value, as it stands in its slot -/
def look (a : Act) : Operand → Option Value
  | .tmp t => a.tmps.toList[t]?
  | .const v => some v
  | _ => none
theorem look_eval {a : Act} {x : Operand} {v : Value} (h : look a x = some v) : a.eval x = v := by
  cases x with
  | tmp t =>
    have h' : a.tmps[t]? = some v := by rw [← Array.getElem?_toList]; exact h
    simp [Act.eval, h']
  | const u => exact Option.some.inj h
  | global g => cases h
  | func f => cases h

section
variable {P : Program} {ops : Array Oper} {rest : List Oper} {o : Oper} {a : Act} {Q : Exit → Act → World → Prop} {w0 w : World} {D0 D : List Da} {M : List Mu}

theorem st_box {ty : TypeId} {x : Operand} (ho : o.op = .box ty x) (hgd : o.guard = none) (hF : St w0 D0 w M D) {v : Value} (hx : look a x = some v) (cs : List Value) (hc : v.cells = cs.toArray)
    (h : ∀ g w', St w0 D0 w' (.blk g ty cs :: M) D → wpList P ops Q rest (a.put o.dst (.pointer (some ⟨g, 0, none⟩))) w') : wpList P ops Q (o :: rest) a w := by
  replace hx := look_eval hx
  subst hx
  refine wpList_plain hgd fun K hK => ?_
  have hk := hK _ _ (h _ _ (hF.alloc ty cs))
  unfold Oper.wp execOp
  simp only [ho, Instr.box, newVar, newRow, hc, Sem.run_bind, Sem.run_pure, run_newObj_alloc, Result.andThen_ok]
  exact hk
theorem st_alloc {ty : TypeId} (ho : o.op = .alloc ty) (hgd : o.guard = none) (hF : St w0 D0 w M D) (cs : List Value) (hz : ZeroT P ty cs)
    (h : ∀ g w', St w0 D0 w' (.blk g ty cs :: M) D → wpList P ops Q rest (a.put o.dst (.pointer (some ⟨g, 0, none⟩))) w') : wpList P ops Q (o :: rest) a w := by
  refine wpList_plain hgd fun K hK => ?_
  have hk := hK _ _ (h _ _ (hF.alloc ty cs))
  obtain ⟨z, hi, hz⟩ := hz
  unfold Oper.wp execOp
  cases hq : P.info? ty with
  | none => simp [hq] at hi
  | some i =>
    have hzz : i.zero = some z := by simpa [hq] using hi
    simp only [ho, Instr.alloc, zeroValue, typeInfo, hq, hzz, newVar, newRow, hz, Sem.run_bind, Sem.run_pure, run_program, run_newObj_alloc, Result.andThen_ok]
    exact hk

theorem run_load_one {w : World} {ty : TypeId} {ad : Addr} {v : Value} (ht : OneT P ty) (hc : w.cell? ad = some v) : (loadVar ty ad).run P w = .ok v w := by
  obtain ⟨d, hu, hd, _⟩ := ht
  have hagg : (isAgg ty).run P w = .ok false w := by
    unfold isAgg
    rw [Sem.run_bind, run_underlying hu w]
    cases d <;> simp_all
  simp [loadVar, Sem.run_bind, hagg, hc]
theorem run_store_one {w : World} {ty : TypeId} {ad : Addr} {v u : Value} (ht : OneT P ty) (hc : w.cell? ad = some u) (hf : w.frozen? ad = false) (h1 : v.oneCell' = true) : (storeVar ty ad v).run P w = .ok () (w.setCell ad v) := by
  obtain ⟨d, hu, hd, hi⟩ := ht
  have hs : (sizeOf ty).run P w = .ok 1 w := by
    cases hq : P.info? ty with
    | none => simp [hq] at hi
    | some i =>
      have : i.size = 1 := by simpa [hq] using hi
      simp [sizeOf, typeInfo, hq, this]
  have hv : v.cells = #[v] := by cases v <;> simp_all [Value.cells, Value.oneCell']
  have h0 : ad.add 0 = ad := by unfold Addr.add; simp
  simp [storeVar, hs, hv, storeCells, h0, run_store P w ad v _ h1, hc, hf]

/-- one cell, loaded out of a block of the call's own -/
theorem st_ld1 {ty : TypeId} {x : Operand} (ho : o.op = .load ty x) (hF : St w0 D0 w M D) {g off : Nat} (hx : look a x = some (.pointer (some ⟨g, off, none⟩))) (ht : OneT P ty) (hw : Region.wanted o (yielded ops a.tmps) = true)
    {i : Nat} {t : TypeId} {cs : List Value} (hi : M[i]? = some (.blk g t cs)) {v : Value} (hv : cs[off]? = some v)
    (h : wpList P ops Q rest (a.put o.dst v) w) : wpList P ops Q (o :: rest) a w := by
  replace hx := look_eval hx
  refine wpList_wanted hw fun K hK => ?_
  have hb := hF.bkAt hi
  unfold Oper.wp execOp
  simp only [ho, hx, Instr.loadAt, Instr.sureAddr, Sem.run_bind, Sem.run_pure, Result.andThen_ok, run_load_one ht (hb.cell_of off v hv)]
  exact hK _ _ h
/-- a whole variable, loaded -/
theorem st_ld {ty : TypeId} {x : Operand} (ho : o.op = .load ty x) (hF : St w0 D0 w M D) {g : Nat} (hx : look a x = some (.pointer (some ⟨g, 0, none⟩))) (hw : Region.wanted o (yielded ops a.tmps) = true)
    {i : Nat} {t : TypeId} {cs : List Value} (hi : M[i]? = some (.blk g t cs)) (ht : RowTy P ty cs.length) {v : Value} (hv : .agg cs.toArray = v)
    (h : wpList P ops Q rest (a.put o.dst v) w) : wpList P ops Q (o :: rest) a w := by
  replace hx := look_eval hx
  exact wpList_load_bk hw ty x ho g hx t cs v hv.symm (hF.bkAt hi) ht h
/-- a part of a variable that is a struct itself, loaded -/
theorem st_ldp {ty : TypeId} {x : Operand} (ho : o.op = .load ty x) (hF : St w0 D0 w M D) {g off : Nat} (hx : look a x = some (.pointer (some ⟨g, off, none⟩))) (hw : Region.wanted o (yielded ops a.tmps) = true)
    {i : Nat} {t : TypeId} {cs : List Value} (hi : M[i]? = some (.blk g t cs)) (us : List Value) (ht : RowTy P ty us.length) (hu : ∀ j u, us[j]? = some u → cs[off + j]? = some u) {v : Value} (hv : .agg us.toArray = v)
    (h : wpList P ops Q rest (a.put o.dst v) w) : wpList P ops Q (o :: rest) a w := by
  replace hx := look_eval hx
  exact wpList_load_elem hw ty x ho g off hx us v hv.symm (fun j u hj => ((hF.bkAt hi).cell (off + j)).trans (hu j u hj)) ht h
/-- one cell, stored -/
theorem st_st1 {ty : TypeId} {x y : Operand} (ho : o.op = .store ty x y) (hF : St w0 D0 w M D) {g off : Nat} (hx : look a x = some (.pointer (some ⟨g, off, none⟩))) {v : Value} (hy : look a y = some v) (ht : OneT P ty) (hw : Region.wanted o (yielded ops a.tmps) = true)
    {i : Nat} {t : TypeId} {cs : List Value} (hi : M[i]? = some (.blk g t cs)) (hoff : off < cs.length) (h1 : v.oneCell' = true) {M' : List Mu} (hM : M.set i (.blk g t (cs.set off v)) = M')
    (h : ∀ w', St w0 D0 w' M' D → wpList P ops Q rest (a.put o.dst undef) w') : wpList P ops Q (o :: rest) a w := by
  replace hx := look_eval hx
  subst hM
  replace hy := look_eval hy
  have hb := hF.bkAt hi
  have hge : w0.heap.size ≤ g := (hF.mu i _ hi).2
  have hg : w.grownBy (w.setCell ⟨g, off, none⟩ v) (some g) := ⟨rfl, rfl, rfl, by simp [World.setCell], fun k hk hne => Below.heap_setCell w _ v k (fun e => hne (by rw [e]))⟩
  have hF' := hF.upd i _ (.blk g t (cs.set off v)) hi hg ⟨hb.set_ off v, hge⟩ fun g' hg' => .inl hg'
  refine wpList_wanted hw fun K hK => ?_
  have hk := hK _ _ (h _ hF')
  have hc : w.cell? ⟨g, off, none⟩ = some cs[off] := (hb.cell off).trans (List.getElem?_eq_getElem hoff)
  unfold Oper.wp execOp
  simp only [ho, hx, hy, Instr.storeAt, Instr.sureAddr, Sem.run_bind, Sem.run_pure, Result.andThen_ok, run_store_one ht hc (hb.frozen hoff) h1]
  exact hk
/-- a struct, stored within a variable -/
theorem st_stp {ty : TypeId} {x y : Operand} (ho : o.op = .store ty x y) (hF : St w0 D0 w M D) {g off : Nat} (hx : look a x = some (.pointer (some ⟨g, off, none⟩))) (us : List Value) (hy : look a y = some (.agg us.toArray)) (hw : Region.wanted o (yielded ops a.tmps) = true)
    {i : Nat} {t : TypeId} {cs : List Value} (hi : M[i]? = some (.blk g t cs)) (hfit : off + us.length ≤ cs.length) (ht : RowTy P ty us.length) (h1 : ∀ u ∈ us, u.oneCell' = true) {M' : List Mu} (hM : M.set i (.blk g t (spl cs off us)) = M')
    (h : ∀ w', St w0 D0 w' M' D → wpList P ops Q rest (a.put o.dst undef) w') : wpList P ops Q (o :: rest) a w := by
  replace hx := look_eval hx
  replace hy := look_eval hy
  subst hM
  have hb := hF.bkAt hi
  have hge : w0.heap.size ≤ g := (hF.mu i _ hi).2
  refine wpList_store_part hw ty x y ho g off us hx hy t cs hb hfit ht h1 fun w' hk hs ho' hbe => h w' ?_
  have h0 := hF.bel
  have hb' := hbe _ h0 hge
  exact hF.upd i _ _ hi ⟨hb'.os.trans h0.os.symm, hb'.tape.trans h0.tape.symm, hb'.output.trans h0.output.symm, by omega, fun k _ hne => ho' k (fun e => hne (by rw [e]; rfl))⟩ ⟨hk, hge⟩ fun g' hg' => .inl hg'
/-- a whole variable, stored -/
theorem st_st {ty : TypeId} {x y : Operand} (ho : o.op = .store ty x y) (hF : St w0 D0 w M D) {g : Nat} (hx : look a x = some (.pointer (some ⟨g, 0, none⟩))) (us : List Value) (hy : look a y = some (.agg us.toArray)) (hw : Region.wanted o (yielded ops a.tmps) = true)
    {i : Nat} {t : TypeId} {cs : List Value} (hi : M[i]? = some (.blk g t cs)) (hfit : us.length = cs.length) (ht : RowTy P ty us.length) (h1 : ∀ u ∈ us, u.oneCell' = true) {M' : List Mu} (hM : M.set i (.blk g t us) = M')
    (h : ∀ w', St w0 D0 w' M' D → wpList P ops Q rest (a.put o.dst undef) w') : wpList P ops Q (o :: rest) a w := by
  exact st_stp ho hF hx us hy hw hi (by omega) ht h1 (by rw [spl_all cs us hfit]; exact hM) h

/-- one cell of a row of the call's own, loaded -/
theorem st_ld1o {ty : TypeId} {x : Operand} (ho : o.op = .load ty x) (hF : St w0 D0 w M D) {g off : Nat} (hx : look a x = some (.pointer (some ⟨g, off, none⟩))) (ht : OneT P ty) (hw : Region.wanted o (yielded ops a.tmps) = true)
    {i n c : Nat} {e : TypeId} {sz : Nat} {xs : List Value} (hi : M[i]? = some (.own (.slice (some ⟨g, 0, none⟩) n c) e sz n xs)) {v : Value} (hv : xs[off]? = some v)
    (h : wpList P ops Q rest (a.put o.dst v) w) : wpList P ops Q (o :: rest) a w := by
  replace hx := look_eval hx
  refine wpList_wanted hw fun K hK => ?_
  unfold Oper.wp execOp
  simp only [ho, hx, Instr.loadAt, Instr.sureAddr, Sem.run_bind, Sem.run_pure, Result.andThen_ok, run_load_one ht (hF.ownCell hi off v hv)]
  exact hK _ _ h
/-- an element of it, whole -/
theorem st_ldo {ty : TypeId} {x : Operand} (ho : o.op = .load ty x) (hF : St w0 D0 w M D) {g off : Nat} (hx : look a x = some (.pointer (some ⟨g, off, none⟩))) (hw : Region.wanted o (yielded ops a.tmps) = true)
    {i n c : Nat} {e : TypeId} {sz : Nat} {xs : List Value} (hi : M[i]? = some (.own (.slice (some ⟨g, 0, none⟩) n c) e sz n xs)) (us : List Value) (hu : ∀ j u, us[j]? = some u → xs[off + j]? = some u) (ht : RowTy P ty us.length) {v : Value} (hv : .agg us.toArray = v)
    (h : wpList P ops Q rest (a.put o.dst v) w) : wpList P ops Q (o :: rest) a w := by
  replace hx := look_eval hx
  exact wpList_load_elem hw ty x ho g off hx us v hv.symm (fun j u hj => hF.ownCell hi (off + j) u (hu j u hj)) ht h
/-- one cell of it, stored -/
theorem st_st1o {ty : TypeId} {x y : Operand} (ho : o.op = .store ty x y) (hF : St w0 D0 w M D) {g off : Nat} (hx : look a x = some (.pointer (some ⟨g, off, none⟩))) {v : Value} (hy : look a y = some v) (ht : OneT P ty) (hw : Region.wanted o (yielded ops a.tmps) = true)
    {i n c : Nat} {e : TypeId} {sz : Nat} {xs : List Value} (hi : M[i]? = some (.own (.slice (some ⟨g, 0, none⟩) n c) e sz n xs)) (hoff : off < xs.length) (h1 : v.oneCell' = true) {M' : List Mu} (hM : M.set i (.own (.slice (some ⟨g, 0, none⟩) n c) e sz n (xs.set off v)) = M')
    (h : ∀ w', St w0 D0 w' M' D → wpList P ops Q rest (a.put o.dst undef) w') : wpList P ops Q (o :: rest) a w := by
  replace hx := look_eval hx
  subst hM
  replace hy := look_eval hy
  obtain ⟨hfz, hF'⟩ := hF.ownSet hi off v hoff
  refine wpList_wanted hw fun K hK => ?_
  have hk := hK _ _ (h _ hF')
  have hc : w.cell? ⟨g, off, none⟩ = some xs[off] := hF.ownCell hi off _ (List.getElem?_eq_getElem hoff)
  unfold Oper.wp execOp
  simp only [ho, hx, hy, Instr.storeAt, Instr.sureAddr, Sem.run_bind, Sem.run_pure, Result.andThen_ok, run_store_one ht hc hfz h1]
  exact hk

/-- an element's place -/
theorem st_ix {t e : TypeId} {x ix : Operand} (ho : o.op = .indexAddr t x ix) (hF : St w0 D0 w M D) {A : Option Addr} {n c : Nat} (hx : look a x = some (.slice A n c)) {k : Nat} {ki : IntKind} (hk : look a ix = some (.int ki (k : Int)))
    {z : Value} {sz bytes : Nat} (ht : SlT P t e z sz bytes) (hw : Region.wanted o (yielded ops a.tmps) = true) {xs : List Value} (hd : rowD sz A n c xs ∈ D) (hkn : k < n)
    (h : wpList P ops Q rest (a.put o.dst (ept A (k * sz))) w) : wpList P ops Q (o :: rest) a w := by
  replace hx := look_eval hx
  replace hk := look_eval hk
  obtain ⟨g, f, rfl, _, _⟩ := (hF.rd hd).at_ (by omega)
  refine wpList_wanted hw fun K hK => ?_
  obtain ⟨hu, hi, _, _⟩ := ht
  have hs : (sizeOf e).run P w = .ok sz w := by
    cases hq : P.info? e with
    | none => simp [hq] at hi
    | some i =>
      simp only [hq, Option.map_some, Option.some.injEq, Prod.mk.injEq] at hi
      simp [sizeOf, typeInfo, hq, hi.2.1]
  have hrun : (Instr.indexAt t (.slice (some ⟨g, f, none⟩) n c) (.int ki (k : Int))).run P w = .ok (ept (some ⟨g, f, none⟩) (k * sz)) w := by
    simp [Instr.indexAt, run_underlying hu, asIntOf, hs, ept, show (k : Int) < (n : Int) by omega]
    intro h; omega
  unfold Oper.wp execOp
  simp only [ho, hx, hk, hrun, Sem.run_bind, Sem.run_pure, Result.andThen_ok]
  exact hK _ _ h
/-- so in a block of the call's own -/
theorem st_ixB {t e : TypeId} {x ix : Operand} (ho : o.op = .indexAddr t x ix) {g n c : Nat} (hx : look a x = some (.slice (some ⟨g, 0, none⟩) n c)) {k : Nat} {ki : IntKind} (hk : look a ix = some (.int ki (k : Int)))
    {z : Value} {sz bytes : Nat} (ht : SlT P t e z sz bytes) (hw : Region.wanted o (yielded ops a.tmps) = true) (hkn : k < n)
    (h : wpList P ops Q rest (a.put o.dst (.pointer (some ⟨g, k * sz, none⟩))) w) : wpList P ops Q (o :: rest) a w := by
  replace hx := look_eval hx
  replace hk := look_eval hk
  refine wpList_wanted hw fun K hK => ?_
  obtain ⟨hu, hi, _, _⟩ := ht
  have hs : (sizeOf e).run P w = .ok sz w := by
    cases hq : P.info? e with
    | none => simp [hq] at hi
    | some i =>
      simp only [hq, Option.map_some, Option.some.injEq, Prod.mk.injEq] at hi
      simp [sizeOf, typeInfo, hq, hi.2.1]
  have hrun : (Instr.indexAt t (.slice (some ⟨g, 0, none⟩) n c) (.int ki (k : Int))).run P w = .ok (.pointer (some ⟨g, k * sz, none⟩)) w := by
    simp [Instr.indexAt, run_underlying hu, asIntOf, hs, addr_add, show (k : Int) < (n : Int) by omega]
    intro h; omega
  unfold Oper.wp execOp
  simp only [ho, hx, hk, hrun, Sem.run_bind, Sem.run_pure, Result.andThen_ok]
  exact hK _ _ h
theorem fieldPlace_of {w : World} {s f off : Nat} (ht : FldT P s f off) (ad : Addr) : (Instr.fieldAt s (.pointer (some ad)) f).run P w = .ok (.pointer (some (ad.add off))) w := by
  obtain ⟨fs, fl, n, hu, hf, rfl, hi, hn⟩ := ht
  have hs : (sizeOf fl.type).run P w = .ok n w := by
    cases hq : P.info? fl.type with
    | none => simp [hq] at hi
    | some i =>
      have : i.size = n := by simpa [hq] using hi
      simp [sizeOf, typeInfo, hq, this]
  simp [Instr.fieldAt, run_underlying hu, hf, Instr.sureAddr, fieldPlace, hs, hn]
/-- a field of an element -/
theorem st_fld {s f : Nat} {x : Operand} (ho : o.op = .fieldAddr s x f) {A : Option Addr} {j : Nat} (hx : look a x = some (ept A j)) {off : Nat} (ht : FldT P s f off) (hw : Region.wanted o (yielded ops a.tmps) = true) (hF : St w0 D0 w M D)
    {sz n c : Nat} {xs : List Value} (hd : rowD sz A n c xs ∈ D) (hn : 0 < n)
    (h : wpList P ops Q rest (a.put o.dst (ept A (j + off))) w) : wpList P ops Q (o :: rest) a w := by
  replace hx := look_eval hx
  obtain ⟨g, f0, rfl, _, _⟩ := (hF.rd hd).at_ hn
  refine wpList_wanted hw fun K hK => ?_
  rw [ept_add] at h
  simp only [Option.map_some] at h
  unfold Oper.wp execOp
  simp only [ho, hx, ept, Option.map_some, fieldPlace_of ht, Sem.run_bind, Sem.run_pure, Result.andThen_ok]
  exact hK _ _ h
/-- a field of a variable of the call's own -/
theorem st_fldB {s f : Nat} {x : Operand} (ho : o.op = .fieldAddr s x f) {g j : Nat} (hx : look a x = some (.pointer (some ⟨g, j, none⟩))) {off : Nat} (ht : FldT P s f off) (hw : Region.wanted o (yielded ops a.tmps) = true)
    (h : wpList P ops Q rest (a.put o.dst (.pointer (some ⟨g, j + off, none⟩))) w) : wpList P ops Q (o :: rest) a w := by
  replace hx := look_eval hx
  refine wpList_wanted hw fun K hK => ?_
  unfold Oper.wp execOp
  simp only [ho, hx, fieldPlace_of ht, addr_add, Sem.run_bind, Sem.run_pure, Result.andThen_ok]
  exact hK _ _ h
/-- one cell of a row that is only read -/
theorem st_lde1 {ty : TypeId} {x : Operand} (ho : o.op = .load ty x) (hF : St w0 D0 w M D) {A : Option Addr} {j : Nat} (hx : look a x = some (ept A j)) (ht : OneT P ty) (hw : Region.wanted o (yielded ops a.tmps) = true)
    {sz n c : Nat} {xs : List Value} (hd : rowD sz A n c xs ∈ D) {v : Value} (hv : xs[j]? = some v)
    (h : wpList P ops Q rest (a.put o.dst v) w) : wpList P ops Q (o :: rest) a w := by
  replace hx := look_eval hx
  have hr := hF.rd hd
  have hn : 0 < n := by
    have h1 := (List.getElem?_eq_some_iff.1 hv).1
    have h2 := hr.len
    rcases Nat.eq_zero_or_pos n with h0 | h0
    · subst h0; omega
    · exact h0
  obtain ⟨g, f, rfl, _, hc⟩ := hr.at_ hn
  refine wpList_wanted hw fun K hK => ?_
  unfold Oper.wp execOp
  simp only [ho, hx, ept, Option.map_some, addr_add, Instr.loadAt, Instr.sureAddr, Sem.run_bind, Sem.run_pure, Result.andThen_ok, run_load_one ht (hc j v hv)]
  exact hK _ _ h
/-- a whole element of it -/
theorem st_lde {ty : TypeId} {x : Operand} (ho : o.op = .load ty x) (hF : St w0 D0 w M D) {A : Option Addr} {j : Nat} (hx : look a x = some (ept A j)) (hw : Region.wanted o (yielded ops a.tmps) = true)
    {sz n c : Nat} {xs : List Value} (hd : rowD sz A n c xs ∈ D) (us : List Value) (hu : ∀ i u, us[i]? = some u → xs[j + i]? = some u) (ht : RowTy P ty us.length) (h0 : 0 < us.length) {v : Value} (hv : .agg us.toArray = v)
    (h : wpList P ops Q rest (a.put o.dst v) w) : wpList P ops Q (o :: rest) a w := by
  replace hx := look_eval hx
  have hr := hF.rd hd
  have hn : 0 < n := by
    have h1 := (List.getElem?_eq_some_iff.1 (hu 0 _ (List.getElem?_eq_getElem h0))).1
    have h2 := hr.len
    rcases Nat.eq_zero_or_pos n with h3 | h3
    · subst h3; omega
    · exact h3
  obtain ⟨g, f, rfl, _, hc⟩ := hr.at_ hn
  refine wpList_load_elem hw ty x ho g (f + j) (by rw [hx]; simp [ept, addr_add]) us v hv.symm (fun i u hi => ?_) ht h
  have := hc (j + i) u (hu i u hi)
  rwa [Nat.add_assoc]

/-- 's[:N]' of a row that is only read -/
theorem st_to {t e : TypeId} {x y : Operand} (ho : o.op = .slice t x none (some y) none) (hF : St w0 D0 w M D) {A : Option Addr} {n c N : Nat} (hx : look a x = some (.slice A n c)) {ki : IntKind} (hy : look a y = some (.int ki (N : Int)))
    {z : Value} {sz bytes : Nat} (ht : SlT P t e z sz bytes) (hw : Region.wanted o (yielded ops a.tmps) = true) {xs : List Value} (hd : rowD sz A n c xs ∈ D) (hN : N ≤ n)
    (h : St w0 D0 w M (rowD sz A N c (xs.take (N * sz)) :: D) → wpList P ops Q rest (a.put o.dst (.slice A N c)) w) : wpList P ops Q (o :: rest) a w := by
  replace hx := look_eval hx
  replace hy := look_eval hy
  have hr := hF.rd hd
  have hF' := hF.part (rowD sz A N c (xs.take (N * sz))) (hr.to hN) fun g hg => ⟨_, hd, by obtain ⟨hn, p⟩ := hg; exact ⟨by omega, p⟩⟩
  refine wpList_wanted hw fun K hK => ?_
  have hk := hK _ _ (h hF')
  obtain ⟨hu, hi, _, _⟩ := ht
  have hs : (sizeOf e).run P w = .ok sz w := by
    cases hq : P.info? e with
    | none => simp [hq] at hi
    | some i =>
      simp only [hq, Option.map_some, Option.some.injEq, Prod.mk.injEq] at hi
      simp [sizeOf, typeInfo, hq, hi.2.1]
  have hel : P.elem t = e := by simp [Program.elem, hu]
  have h1 := run_slice_h (P := P) (w := w) t A n c (by rw [hel]; exact hu) ki (N : Int) (by omega) (by have := hr.le; omega)
  have h2 : (Instr.sliceAt t (.slice A n c) none (some (.int ki (N : Int))) none).run P w = .ok (.slice A N c) w := by
    rw [run_sliceAt_slice (P := P) (w := w) t _ _ _ _ (by rw [hel]; exact hu), h1, hel, hs]
    simp only [Result.andThen_ok, sliced, Int.toNat_natCast, Nat.zero_mul, Nat.sub_zero]
    congr 2
    split
    · rfl
    · cases A with
      | none => rfl
      | some ad => simp [Addr.add]
  unfold Oper.wp execOp
  simp only [ho, hx, hy, Option.map_some, Option.map_none, h2, Sem.run_bind, Sem.run_pure, Result.andThen_ok]
  exact hk
theorem St.toPart (hF : St w0 D0 w M D) {sz : Nat} {A : Option Addr} {n c N : Nat} {xs : List Value} (hd : rowD sz A n c xs ∈ D) (hN : N ≤ n) : St w0 D0 w M (rowD sz A N c (xs.take (N * sz)) :: D) :=
  hF.part _ ((hF.rd hd).to hN) fun g hg => ⟨_, hd, by obtain ⟨hn, p⟩ := hg; exact ⟨by omega, p⟩⟩
/-- where 's[k:]' begins -/
def cutA (A : Option Addr) (k c sz : Nat) : Option Addr := if c = k then A else A.map fun a => a.add (k * sz)
theorem Rd.cut {w : World} {B sz n c k : Nat} {A : Option Addr} {xs : List Value} (h : Rd w B sz A n c xs) (hk : k ≤ n) : Rd w B sz (cutA A k c sz) (n - k) (c - k) (xs.drop (k * sz)) := by
  have hl := h.len
  have hc := h.le
  refine ⟨?_, by omega, by have := h.mx; omega, fun hn => ?_⟩
  · rw [List.length_drop, hl, Nat.sub_mul]
  · obtain ⟨g, f, rfl, hb, hx⟩ := h.at_ (by omega)
    refine ⟨g, f + k * sz, by rw [cutA, if_neg (by omega)]; simp [addr_add], hb, fun j u hu => ?_⟩
    rw [List.getElem?_drop] at hu
    have := hx _ u hu
    rwa [Nat.add_assoc]
theorem St.fromPart (hF : St w0 D0 w M D) {sz : Nat} {A : Option Addr} {n c k : Nat} {xs : List Value} (hd : rowD sz A n c xs ∈ D) (hk : k ≤ n) : St w0 D0 w M (rowD sz (cutA A k c sz) (n - k) (c - k) (xs.drop (k * sz)) :: D) :=
  hF.part _ ((hF.rd hd).cut hk) fun g hg => ⟨_, hd, by
    obtain ⟨hn, f, s, p⟩ := hg
    refine ⟨by omega, ?_⟩
    unfold cutA at p
    split at p
    · exact ⟨f, s, p⟩
    · cases A with
      | none => cases p
      | some ad =>
        obtain ⟨g', f', s'⟩ := ad
        refine ⟨f', s', ?_⟩
        simp only [Option.map_some, Option.some.injEq] at p
        unfold Addr.add at p
        split at p
        · injection p with p; subst p; rfl
        · injection p with p; subst p; rfl⟩
theorem st_from {t e : TypeId} {x y : Operand} (ho : o.op = .slice t x (some y) none none) (hF : St w0 D0 w M D) {A : Option Addr} {n c k : Nat} (hx : look a x = some (.slice A n c)) {ki : IntKind} (hy : look a y = some (.int ki (k : Int)))
    {z : Value} {sz bytes : Nat} (ht : SlT P t e z sz bytes) (hw : Region.wanted o (yielded ops a.tmps) = true) {xs : List Value} (hd : rowD sz A n c xs ∈ D) (hk : k ≤ n)
    (h : St w0 D0 w M (rowD sz (cutA A k c sz) (n - k) (c - k) (xs.drop (k * sz)) :: D) → wpList P ops Q rest (a.put o.dst (.slice (cutA A k c sz) (n - k) (c - k))) w) : wpList P ops Q (o :: rest) a w := by
  replace hx := look_eval hx
  replace hy := look_eval hy
  have hr := hF.rd hd
  have hF' := hF.part (rowD sz (cutA A k c sz) (n - k) (c - k) (xs.drop (k * sz))) (hr.cut hk) fun g hg => ⟨_, hd, by
    obtain ⟨hn, f, s, p⟩ := hg
    refine ⟨by omega, ?_⟩
    unfold cutA at p
    split at p
    · exact ⟨f, s, p⟩
    · cases A with
      | none => cases p
      | some ad =>
        obtain ⟨g', f', s'⟩ := ad
        refine ⟨f', s', ?_⟩
        simp only [Option.map_some, Option.some.injEq] at p
        unfold Addr.add at p
        split at p
        · injection p with p; subst p; rfl
        · injection p with p; subst p; rfl⟩
  refine wpList_wanted hw fun K hK => ?_
  have hk' := hK _ _ (h hF')
  obtain ⟨hu, hi, _, _⟩ := ht
  have hs : (sizeOf e).run P w = .ok sz w := by
    cases hq : P.info? e with
    | none => simp [hq] at hi
    | some i =>
      simp only [hq, Option.map_some, Option.some.injEq, Prod.mk.injEq] at hi
      simp [sizeOf, typeInfo, hq, hi.2.1]
  have hel : P.elem t = e := by simp [Program.elem, hu]
  have h1 := run_slice_l (P := P) (w := w) t A n c (by rw [hel]; exact hu) ki (k : Int) (by omega) (by omega)
  have h2 : (Instr.sliceAt t (.slice A n c) (some (.int ki (k : Int))) none none).run P w = .ok (.slice (cutA A k c sz) (n - k) (c - k)) w := by
    rw [run_sliceAt_slice (P := P) (w := w) t _ _ _ _ (by rw [hel]; exact hu), h1, hel, hs]
    simp only [Result.andThen_ok, sliced, Int.toNat_natCast, cutA]
  unfold Oper.wp execOp
  simp only [ho, hx, hy, Option.map_some, Option.map_none, h2, Sem.run_bind, Sem.run_pure, Result.andThen_ok]
  exact hk'

/-- cells put into a row of as many -/
theorem fill_all (cs us : List Value) (hl : us.length = cs.length) : us.toArray.zipIdx.foldl (fun (x : Array Value) (p : Value × Nat) => x.setIfInBounds (0 + p.2) p.1) cs.toArray = us.toArray := by
  have key : ∀ (r : List Value) (k : Nat) (x : List Value), k + r.length = x.length → (r.zipIdx k).foldl (fun (x : Array Value) (p : Value × Nat) => x.setIfInBounds (0 + p.2) p.1) x.toArray = (x.take k ++ r).toArray := by
    intro r
    induction r with
    | nil => intro k x hk; simp at hk; simp [List.take_of_length_le (Nat.le_of_eq hk.symm)]
    | cons v r ih =>
      intro k x hk
      rw [List.length_cons] at hk
      rw [List.zipIdx_cons, List.foldl_cons]
      simp only [Nat.zero_add, List.setIfInBounds_toArray]
      have := ih (k + 1) (x.set k v) (by simp; omega)
      simp only [Nat.zero_add] at this
      rw [this]
      congr 1
      rw [List.take_set, List.take_succ_eq_append_getElem (by omega), List.set_append_right _ _ (by simp; omega)]
      simp [List.length_take, Nat.min_eq_left (show k ≤ x.length by omega)]
  have := key us 0 cs (by omega)
  simpa [← Array.foldl_toList] using this
/-- '[]T{v}' -/
theorem run_bs1 {w : World} {t e : TypeId} {z : Value} {sz bytes : Nat} (ht : SlT P t e z sz bytes) (v : Value) (us : List Value) (hv : v.cells = us.toArray) (hl : us.length = sz) (hb : sz ≤ 1000) :
    (Instr.buildSlice t 1 #[(0, v)]).run P w = .ok (.slice (some ⟨w.heap.size, 0, none⟩) 1 1) (w.alloc (.cells us.toArray e)) := by
  obtain ⟨hu, hi, hz, hp⟩ := ht
  obtain ⟨i, hi1, hz1, hs1, _⟩ := info_parts hi
  have hlen : ((Array.range (1 * i.size)).map (z.cells[· % z.cells.size]!)).size = us.length := by simp [hs1, hl]
  refine run_buildSlice w t e 1 _ us.toArray i z hu hi1 hz1 (by rw [hs1]; omega) (by rw [hs1]; omega) ?_
  generalize (Array.range (1 * i.size)).map (z.cells[· % z.cells.size]!) = ar at hlen
  have hf := fill_all ar.toList us (by simpa using hlen.symm)
  have hsz : v.cells.size = i.size := by rw [hv, hs1]; simpa using hl
  have hc1 : ¬ (v.cells.size ≠ i.size ∨ 0 * i.size + v.cells.size > ar.size) := by
    rw [hlen, hsz, hs1, hl]; omega
  simp only [Instr.fill, if_neg hc1, hv, Nat.zero_mul]
  rw [if_neg (by rw [hlen]; simp [hs1, hl])]
  simpa using hf
theorem st_bs1 {t e : TypeId} {x : Operand} (ho : o.op = .buildSlice t 1 #[(0, x)]) (hgd : o.guard = none) (hF : St w0 D0 w M D) {z : Value} {sz bytes : Nat} (ht : SlT P t e z sz bytes) {v : Value} (hx : look a x = some v) (us : List Value) (hv : v.cells = us.toArray) (hl : us.length = sz) (hb : sz ≤ 1000)
    (h : ∀ g w', St w0 D0 w' (.own (.slice (some ⟨g, 0, none⟩) 1 1) e sz 1 us :: M) D → wpList P ops Q rest (a.put o.dst (.slice (some ⟨g, 0, none⟩) 1 1)) w') : wpList P ops Q (o :: rest) a w := by
  refine wpList_plain hgd fun K hK => ?_
  have hF' : St w0 D0 (w.alloc (.cells us.toArray e)) (.own (.slice (some ⟨w.heap.size, 0, none⟩) 1 1) e sz 1 us :: M) D :=
    hF.push _ (grown_of_bel (Bel.alloc w _) none) ⟨by rw [hl, Nat.one_mul], .inr ⟨w.heap.size, 1, us.toArray, rfl, hF.bel.size, heap_alloc_new w _, Nat.le_refl _, by simp [maxLen], by simp [hl], by rw [List.take_of_length_le (by simp [hl])]⟩⟩ fun g hg => by simp only [Mu.bl, Value.ownBlock, Option.some.injEq] at hg; omega
  have hk := hK _ _ (h _ _ hF')
  rw [← look_eval hx] at hv
  unfold Oper.wp execOp
  simp only [ho, List.map_toArray, List.map_cons, List.map_nil, run_bs1 ht _ us hv hl hb, Sem.run_bind, Sem.run_pure, Result.andThen_ok]
  exact hk
/-- '[]T{}': a row to append to -/
theorem st_bs0 {t e : TypeId} (ho : o.op = .buildSlice t 0 #[]) (hgd : o.guard = none) (hF : St w0 D0 w M D) {z : Value} {sz bytes : Nat} (ht : SlT P t e z sz bytes)
    (h : ∀ g w', St w0 D0 w' (.own (.slice (some ⟨g, 0, none⟩) 0 0) e sz 0 [] :: M) D → wpList P ops Q rest (a.put o.dst (.slice (some ⟨g, 0, none⟩) 0 0)) w') : wpList P ops Q (o :: rest) a w := by
  refine wpList_plain hgd fun K hK => ?_
  have hF' : St w0 D0 (w.alloc (.cells #[] e)) (.own (.slice (some ⟨w.heap.size, 0, none⟩) 0 0) e sz 0 [] :: M) D :=
    hF.push _ (grown_of_bel (Bel.alloc w _) none) (own_empty w w0.heap.size e sz hF.bel.size) fun g hg => by simp only [Mu.bl, Value.ownBlock, Option.some.injEq] at hg; omega
  have hk := hK _ _ (h _ _ hF')
  obtain ⟨hu, hi, hz, hp⟩ := ht
  obtain ⟨i, hi1, hz1, hs1, _⟩ := info_parts hi
  have hrun : (Instr.buildSlice t 0 #[]).run P w = .ok (.slice (some ⟨w.heap.size, 0, none⟩) 0 0) (w.alloc (.cells #[] e)) := by
    simp [Instr.buildSlice, run_underlying hu, sizeOf, typeInfo, hi1, Instr.fill, newRow]
    rw [show Array.range 0 = #[] from by simp]
    simp
  unfold Oper.wp execOp
  simp only [ho, List.map_toArray, List.map_nil, hrun, Sem.run_bind, Sem.run_pure, Result.andThen_ok]
  exact hk

theorem growslice_ok {a b m : Nat} (ho : a < m) (hb : m * b ≤ 140737488355328) : Builtin.nextslicecap m a * b ≤ 281474976710656 := growslice_fits ho hb
/-- 'append(out, x..)': out's own row has grown, in its block or in a new one -/
theorem run_app_st {w : World} {base : Nat} {t ty e : TypeId} {z : Value} {sz bytes : Nat} (ht : SlT P t e z sz bytes) {v : Value} {n : Nat} {xs : List Value} (hown : w.ownsRow base e sz v n xs)
    {A : Option Addr} {m c B : Nat} {us : List Value} (hr : Rd w B sz A m c us) (h1 : ∀ u ∈ us, u.oneCell' = true) (hm : n + m ≤ 9223372036854775807) (hbytes : (n + m) * bytes ≤ 140737488355328) (hbase : base ≤ w.heap.size) :
    ∃ v' w', (Builtin.append_ #[t, t] ty #[v, .slice A m c]).run P w = .ok v' w' ∧ w'.ownsRow base e sz v' (n + m) (xs ++ us) ∧ w.grownBy w' v.ownBlock ∧ (∀ g, v'.ownBlock = some g → v.ownBlock = some g ∨ w.heap.size ≤ g) := by
  obtain ⟨hu, hinfo, hzs, hsz⟩ := ht
  obtain ⟨i, hi, hz, rfl, rfl⟩ := info_parts hinfo
  cases A with
  | none =>
    have hm0 : m = 0 := by
      rcases Nat.eq_zero_or_pos m with h0 | h0
      · exact h0
      · obtain ⟨g, f, e, _⟩ := hr.at_ h0
        cases e
    subst hm0
    obtain rfl : us = [] := List.eq_nil_of_length_eq_zero (by simpa using hr.len)
    have hrun : (Builtin.append_ #[t, t] ty #[v, .slice none 0 c]).run P w = .ok v w := by
      rcases hown.2 with ⟨rfl, rfl⟩ | ⟨g, cap, cur, rfl, _, _, hnc, _⟩
      · simp [Builtin.append_, run_underlying hu, sizeOf, typeInfo, hi, Builtin.lenOf, Builtin.firstCells]
      · simp [Builtin.append_, run_underlying hu, sizeOf, typeInfo, hi, Builtin.lenOf, Builtin.firstCells, hnc, storeCells]
    exact ⟨v, w, hrun, by simpa using hown, World.grownBy.refl w _, fun g hg => .inl hg⟩
  | some ad =>
    have hnews : ∀ j u, us[j]? = some u → w.cell? (ad.add j) = some u := by
      intro j u hj
      have hj' := (List.getElem?_eq_some_iff.1 hj).1
      have hl := hr.len
      have hm0 : 0 < m := by
        rcases Nat.eq_zero_or_pos m with h0 | h0
        · subst h0; omega
        · exact h0
      obtain ⟨g', f', e', _, hc⟩ := hr.at_ hm0
      injection e' with e'
      subst e'
      rw [addr_add]; exact hc j u hj
    obtain ⟨v', w', hrun, h2, h3, h4⟩ := run_append_own (P := P) w base t ty e i z i.size i.bytes hu hi hz rfl rfl hzs hsz v n xs hown ad m c us hr.len hnews h1 (by simp only [maxLen]; omega) hbytes hbase
    refine ⟨v', w', hrun, h2, h3, ?_⟩
    rcases hown.2 with ⟨rfl, rfl⟩ | ⟨g, cap, cur, rfl, hbg, hg, hnc, hcm, hcs, htake⟩
    · rcases Nat.eq_zero_or_pos m with h0 | h0
      · subst h0
        have := h4.2 ⟨rfl, rfl⟩
        subst this
        intro g hg; simp [Value.ownBlock] at hg
      · have hr2 := run_append_nil (P := P) w t ty e i z hu hi hz ad m c us hr.len hnews h0 (by omega) (by simp only [Nat.zero_add] at hbytes; omega)
        rw [hrun] at hr2
        injection hr2 with e1 _
        subst e1
        intro g hg
        simp only [Value.ownBlock, Option.some.injEq] at hg
        exact .inr (by omega)
    · by_cases hroom : n + m ≤ cap
      · have hfit : n * i.size + us.length ≤ cur.size := by rw [hr.len, hcs, ← Nat.add_mul]; exact Nat.mul_le_mul_right _ hroom
        have hr2 := run_append_room (P := P) w t ty e i hu hi g n cap cur hg ad m c us hr.len hnews h1 hroom hfit
        rw [hrun] at hr2
        injection hr2 with e1 _
        subst e1
        intro g' hg'
        exact .inl hg'
      · have holds : ∀ j u, xs[j]? = some u → w.cell? ((⟨g, 0, none⟩ : Addr).add j) = some u := hown.cells (g := g) rfl
        have hr2 := run_append_grow (P := P) w t ty e i z hu hi hz ⟨g, 0, none⟩ n cap xs hown.1 holds ad m c us hr.len hnews (by omega) (by omega) (growslice_ok (by omega) hbytes)
        rw [hrun] at hr2
        injection hr2 with e1 _
        subst e1
        intro g hg
        simp only [Value.ownBlock, Option.some.injEq] at hg
        exact .inr (by omega)
/-- 'append(out, x)', x in a block of the call's own, which is let go -/
theorem st_app {t e : TypeId} {s x : Operand} (ho : o.op = .call { callee := .builtin .append, args := #[s, x], argTypes := #[t, t] }) (hgd : o.guard = none) (hF : St w0 D0 w M D) {z : Value} {sz bytes : Nat} (ht : SlT P t e z sz bytes)
    {v : Value} (hs : look a s = some v) {g m : Nat} (hx : look a x = some (.slice (some ⟨g, 0, none⟩) m m)) {j : Nat} {us : List Value} (hj : M[j]? = some (.own (.slice (some ⟨g, 0, none⟩) m m) e sz m us)) {i : Nat} {n : Nat} {xs : List Value} (hi : M[i]? = some (.own v e sz n xs))
    (h1 : ∀ u ∈ us, u.oneCell' = true) (h63 : (n + m) * bytes ≤ 140737488355328) (hm : n + m ≤ 9223372036854775807) {M' : Value → List Mu} (hM : ∀ v', (M.set i (.own v' e sz (n + m) (xs ++ us))).eraseIdx j = M' v')
    (h : ∀ v' w', St w0 D0 w' (M' v') D → wpList P ops Q rest (a.put o.dst v') w') : wpList P ops Q (o :: rest) a w := by
  replace hx := look_eval hx
  have hr : Rd w w.heap.size sz (some ⟨g, 0, none⟩) m m us := by
    obtain ⟨A, c, e1, hr⟩ := Rd.of_own (hF.ownAt hj)
    injection e1 with e1 _ e2
    subst e1 e2
    exact hr
  obtain ⟨v', w', hrun, hown', hg, hfr⟩ := run_app_st (ty := o.type) ht (hF.ownAt hi) hr h1 hm h63 hF.bel.size
  have hF' := (hF.upd i _ (.own v' e sz (n + m) (xs ++ us)) hi hg hown' hfr).drop j
  rw [hM] at hF'
  refine wpList_plain hgd fun K hK => ?_
  have hk := hK _ _ (h v' w' hF')
  replace hs := look_eval hs
  unfold Oper.wp execOp
  simp only [ho, resolve, invoke, builtin, Sem.run_bind, Sem.run_pure, Result.andThen_ok, List.map_toArray, List.map_cons, List.map_nil, hs, hx, hrun]
  exact hk
/-- 'append(out, xs...)', xs a row that is only read -/
theorem st_appD {t e : TypeId} {s x : Operand} (ho : o.op = .call { callee := .builtin .append, args := #[s, x], argTypes := #[t, t] }) (hgd : o.guard = none) (hF : St w0 D0 w M D) {z : Value} {sz bytes : Nat} (ht : SlT P t e z sz bytes)
    {v : Value} (hs : look a s = some v) {A : Option Addr} {m c : Nat} (hx : look a x = some (.slice A m c)) {us : List Value} (hd : rowD sz A m c us ∈ D) {i : Nat} {n : Nat} {xs : List Value} (hi : M[i]? = some (.own v e sz n xs))
    (h1 : ∀ u ∈ us, u.oneCell' = true) (h63 : (n + m) * bytes ≤ 140737488355328) (hm : n + m ≤ 9223372036854775807) {M' : Value → List Mu} (hM : ∀ v', M.set i (.own v' e sz (n + m) (xs ++ us)) = M' v')
    (h : ∀ v' w', St w0 D0 w' (M' v') D → wpList P ops Q rest (a.put o.dst v') w') : wpList P ops Q (o :: rest) a w := by
  replace hx := look_eval hx
  obtain ⟨v', w', hrun, hown', hg, hfr⟩ := run_app_st (ty := o.type) ht (hF.ownAt hi) (hF.rd hd) h1 hm h63 hF.bel.size
  have hF' := hF.upd i _ (.own v' e sz (n + m) (xs ++ us)) hi hg hown' hfr
  rw [hM] at hF'
  refine wpList_plain hgd fun K hK => ?_
  have hk := hK _ _ (h v' w' hF')
  replace hs := look_eval hs
  unfold Oper.wp execOp
  simp only [ho, resolve, invoke, builtin, Sem.run_bind, Sem.run_pure, Result.andThen_ok, List.map_toArray, List.map_cons, List.map_nil, hs, hx, hrun]
  exact hk
/-- 'make([]T, 0, n)' -/
theorem st_make0 {t e : TypeId} {l c : Operand} (ho : o.op = .makeSlice t l c) (hgd : o.guard = none) (hF : St w0 D0 w M D) {z : Value} {sz bytes : Nat} (ht : SlT P t e z sz bytes) {kl kc : IntKind} (hl : look a l = some (.int kl 0)) {N : Int} (hc : look a c = some (.int kc N))
    (n : Nat) (hN : N = (n : Int)) (hb : bytes * n ≤ 281474976710656) (hm : n ≤ maxLen)
    (h : ∀ g w', St w0 D0 w' (.own (.slice (some ⟨g, 0, none⟩) 0 n) e sz 0 [] :: M) D → wpList P ops Q rest (a.put o.dst (.slice (some ⟨g, 0, none⟩) 0 n)) w') : wpList P ops Q (o :: rest) a w := by
  replace hl := look_eval hl
  replace hc := look_eval hc
  obtain ⟨hu, hinfo, hzs, hsz⟩ := ht
  obtain ⟨i, hi, hz, hs1, rfl⟩ := info_parts hinfo
  refine wpList_make_own w hgd l c t ho w0.heap.size e i z sz hu hi hz hs1 kl kc N n hl hc hN hb hm hF.bel.size ?_
  intro w' hown hg
  exact h _ _ (hF.push _ hg hown fun g hg => by simp only [Mu.bl, Value.ownBlock, Option.some.injEq] at hg; omega)
/-- 'make([]T, n)': a block, known whole -/
theorem st_make {t e : TypeId} {l c : Operand} (ho : o.op = .makeSlice t l c) (hgd : o.guard = none) (hF : St w0 D0 w M D) {z : Value} {sz bytes : Nat} (ht : SlT P t e z sz bytes) {kl kc : IntKind} {L N : Int} (hl : look a l = some (.int kl L)) (hc : look a c = some (.int kc N))
    (n : Nat) (hL : L = (n : Int)) (hN : N = (n : Int)) (hb : bytes * n ≤ 281474976710656) (hm : n ≤ maxLen) {zs : List Value} (he : (madeCells z.cells (n * sz)).toList = zs)
    (h : ∀ g w', St w0 D0 w' (.blk g e zs :: M) D → wpList P ops Q rest (a.put o.dst (.slice (some ⟨g, 0, none⟩) n n)) w') : wpList P ops Q (o :: rest) a w := by
  replace hl := look_eval hl
  replace hc := look_eval hc
  obtain ⟨hu, hinfo, hzz, hsz⟩ := ht
  obtain ⟨i, hi, hz, hs1, rfl⟩ := info_parts hinfo
  refine wpList_make_full w hgd l c t ho w0.heap.size e i z sz hu hi hz hs1 kl kc L N n hl hc hL hN hb hm hF.bel.size ?_
  intro w' hown hg
  have hbk := Bk.of_own hown rfl
  rw [he] at hbk
  exact h _ _ (hF.push _ hg ⟨hbk, hF.bel.size⟩ fun g hg => by simp only [Mu.bl, Option.some.injEq] at hg; omega)
/-- 'copy(dst, src)', both of n elements, dst a block of the call's own -/
theorem st_copy {t e : TypeId} {d s : Operand} (ho : o.op = .call { callee := .builtin .copy, args := #[d, s], argTypes := #[t, t] }) (hgd : o.guard = none) (hF : St w0 D0 w M D) {z : Value} {sz bytes : Nat} (ht : SlT P t e z sz bytes)
    {g n cd : Nat} (hx : look a d = some (.slice (some ⟨g, 0, none⟩) n cd)) {A : Option Addr} {c : Nat} (hy : look a s = some (.slice A n c)) {us : List Value} (hd : rowD sz A n c us ∈ D) {i : Nat} {t' : TypeId} {cs : List Value} (hi : M[i]? = some (.blk g t' cs))
    (hl : cs.length = n * sz) (h1 : ∀ u ∈ us, u.oneCell' = true) {M' : List Mu} (hM : M.set i (.blk g t' us) = M')
    (h : ∀ w', St w0 D0 w' M' D → wpList P ops Q rest (a.put o.dst (goInt (n : Nat))) w') : wpList P ops Q (o :: rest) a w := by
  replace hx := look_eval hx
  replace hy := look_eval hy
  subst hM
  obtain ⟨hu, hinfo, hzz, hsz⟩ := ht
  obtain ⟨i0, hi0, hz, hs1, rfl⟩ := info_parts hinfo
  have hr := hF.rd hd
  refine wpList_copy_rd hgd d s t ho e hu sz (by rw [hi0]; simp [hs1]) g 0 n cd A c hx hy w.heap.size us hr h1 t' cs (hF.bkAt hi) (by omega) fun w' hk hg => h w' ?_
  rw [spl_all cs us (by rw [hr.len, hl])] at hk
  exact hF.upd i _ _ hi hg ⟨hk, (hF.mu i _ hi).2⟩ fun g' hg' => .inl hg'
end
end Go.Proofs.Ytcahadkkjfijfaa

/- Statements that draw their order, over St: what only reads is taken first; what acts comes in each order that is left. -/
set_option linter.unusedVariables false
set_option linter.unusedSimpArgs false
namespace Go.Proofs.Ytcahadkkjfijfaa
open Go.RowKit

/-- what stays while a statement is carried out: these blocks, these data -/
def Hold (B : Nat) (Mr : List Mu) (D : List Da) (w : World) : Prop := (∀ m ∈ Mr, m.ok B w) ∧ ∀ d ∈ D, d.ok w
theorem memM_nil {M : List Mu} : ∀ m ∈ ([] : List Mu), m ∈ M := fun _ h => by cases h
theorem memM_cons {m : Mu} {l M : List Mu} (h : m ∈ M) (t : ∀ e ∈ l, e ∈ M) : ∀ e ∈ m :: l, e ∈ M := fun e he => by
  rcases List.mem_cons.1 he with rfl | he
  · exact h
  · exact t e he
theorem St.hold {w0 w : World} {D0 D Dr : List Da} {M Mr : List Mu} (h : St w0 D0 w M D) (hM : ∀ m ∈ Mr, m ∈ M) (hD : ∀ d ∈ Dr, d ∈ D) : Hold w0.heap.size Mr Dr w :=
  ⟨fun m hm => by
    obtain ⟨i, hi, e⟩ := List.mem_iff_getElem.1 (hM m hm)
    exact h.mu i m (by rw [List.getElem?_eq_getElem hi, e]), fun d hd => h.dat d (hD d hd)⟩
section
variable {P : Program} {ops : Array Oper} {Q : Exit → Act → World → Prop} {md : Region.Mode} {S : World → Prop} {a : Act} {o : Oper} {B : Nat} {Mr : List Mu} {Dr : List Da}

theorem wp_region_st {id : Nat} {w w0 : World} {D0 D : List Da} {M : List Mu} (hm : P.follows .mixedOrders = true) (hF : St w0 D0 w M D) (Mr : List Mu) (Dr : List Da) (hM : ∀ m ∈ Mr, m ∈ M) (hD : ∀ d ∈ Dr, d ∈ D)
    (h : St w0 D0 w.drew M D → Hold w0.heap.size Mr Dr w.drew → wpAnyH P .any ops Q (Hold w0.heap.size Mr Dr) ops.size (Array.replicate ops.size false) a w.drew) : (Code.region id ops true).wp P Q a w :=
  wp_region_held hm (h (hF.grow (Bel.drew w)) ((hF.grow (Bel.drew w)).hold hM hD))

theorem Oper.wp_then {w : World} {K : Act → World → Prop} (h : o.wp P a w K (Exit.then K Q)) : o.wp P a w K Q := by
  unfold Oper.wp at *
  generalize (execOp a.eval o).run P w = r at *
  cases r with
  | ok n w' =>
    cases n <;> simp only [Oper.upon] at h ⊢ <;> first | exact h | (exact Calls.mono h (fun e w'' he => by cases e <;> exact he))
  | halt x w' => cases x <;> simp only [Oper.upon] at h ⊢ <;> exact h
theorem ready_cons {fuel : Nat} {listed : Array Bool} {w : World} {i : Nat} {rs : List Nat} (ho : ops.toList[i]? = some o)
    (h : ∀ K' : Act → World → Prop, Shut (∀ a w, S w → wpAnyH P md ops Q S fuel (listed.setIfInBounds i true) a w → K' a w) → wpList P ops (Exit.then K' Q) [o] a w)
    (hs : AllReadyH P md ops Q S fuel listed a w rs) : AllReadyH P md ops Q S fuel listed a w (i :: rs) := fun j hj => by
  rw [Array.getElem?_toList] at ho
  rcases List.mem_cons.1 hj with rfl | hj
  · have h1 := h (fun a' w' => S w' ∧ wpAnyH P md ops Q S fuel (listed.setIfInBounds j true) a' w') (fun a w hS hW => ⟨hS, hW⟩)
    unfold wpOp
    simp only [ho]
    unfold wpList at h1
    split
    · rename_i hw
      rw [if_pos hw] at h1
      rcases h1 with h1 | ⟨h1, b, w2, h2⟩
      · exact .inl (Oper.wp_then h1)
      · exact .inr ⟨h1, b, w2, h2⟩
    · rename_i hw
      rw [if_neg hw] at h1
      exact h1
  · exact hs j hj

theorem st_min {rest : List Oper} {w : World} {x y : Operand} {ts : Array TypeId} (ho : o.op = .call { callee := .builtin .min, args := #[x, y], argTypes := ts }) (hgd : o.guard = none) {k k' : IntKind} {p q : Int} (hx : look a x = some (.int k p)) (hy : look a y = some (.int k' q)) (N : Int) (hN : N = if q < p then q else p)
    (h : wpList P ops Q rest (a.put o.dst (.int k N)) w) : wpList P ops Q (o :: rest) a w := wpList_min hgd x y ts ho k k' p q N (look_eval hx) (look_eval hy) hN h
theorem st_max {rest : List Oper} {w : World} {x y : Operand} {ts : Array TypeId} (ho : o.op = .call { callee := .builtin .max, args := #[x, y], argTypes := ts }) (hgd : o.guard = none) {k k' : IntKind} {p q : Int} (hx : look a x = some (.int k p)) (hy : look a y = some (.int k' q)) (N : Int) (hN : N = if q > p then q else p)
    (h : wpList P ops Q rest (a.put o.dst (.int k N)) w) : wpList P ops Q (o :: rest) a w := wpList_max hgd x y ts ho k k' p q N (look_eval hx) (look_eval hy) hN h
/-- what only reads is taken first -/
theorem rg_take {i t : Nat} {v : Value} {fuel : Nat} {listed : Array Bool} {w : World} (hi : ops.toList[i]? = some o) (hd : o.dst = some t)
    (hs : Region.noSelect ops = true) (hf : Region.free md ops listed i = true) (hr : (Region.ready md ops listed).contains i = true)
    (hQ : ∀ c a w, Q (.panic c) (a.put o.dst v) w → Q (.panic c) a w) (hy : YieldsIf P ops S o v a) (hS : S w)
    (h : wpAnyH P md ops Q S fuel (listed.setIfInBounds i true) { a with tmps := a.tmps.setIfInBounds t v } w) : wpAnyH P md ops Q S (fuel + 1) listed a w := by
  rw [Array.getElem?_toList] at hi
  refine wpAnyH_take hi hs hf hr hQ hy hS ?_
  rw [hd]
  exact h
theorem yi_eq {v v' : Value} (h : YieldsIf P ops S o v' a) (e : v' = v) : YieldsIf P ops S o v a := e ▸ h
theorem yi_skip (hw : Region.wanted o (yielded ops a.tmps) = false) : YieldsIf P ops S o undef a := .inr ⟨hw, rfl⟩
theorem yi_pure {v : Value} (hw : Region.wanted o (yielded ops a.tmps) = true) (h : ∀ w, (execOp a.eval o).run P w = .ok (.value v) w) : YieldsIf P ops S o v a := .inl ⟨hw, fun w _ => h w⟩
theorem yi_move {x : Operand} {v : Value} (ho : o.op = .move x) (hx : look a x = some v) (hw : Region.wanted o (yielded ops a.tmps) = true) : YieldsIf P ops S o v a :=
  yi_pure hw fun w => by rw [← look_eval hx]; unfold execOp; simp only [ho, Sem.run_pure]
theorem yi_assign {x : Operand} {v : Value} (ho : o.op = .assign x) (hx : look a x = some v) (hw : Region.wanted o (yielded ops a.tmps) = true) : YieldsIf P ops S o v a :=
  yi_pure hw fun w => by rw [← look_eval hx]; unfold execOp; simp only [ho, Sem.run_pure]
theorem yi_len {x : Operand} {t e : TypeId} {z : Value} {sz bytes : Nat} {A : Option Addr} {n c : Nat} (ho : o.op = .call { callee := .builtin .len, args := #[x], argTypes := #[t] }) (hx : look a x = some (.slice A n c)) (ht : SlT P t e z sz bytes) (hw : Region.wanted o (yielded ops a.tmps) = true) : YieldsIf P ops S o (.int .i64 (n : Int)) a := by
  replace hx := look_eval hx
  exact yi_pure hw fun w => by
    obtain ⟨hu, _, _, _⟩ := ht
    unfold execOp
    simp [ho, resolve, invoke, builtin, hx, Builtin.len_, run_underlying hu, goInt]
theorem yi_ld1 {ty : TypeId} {x : Operand} (ho : o.op = .load ty x) {g off : Nat} (hx : look a x = some (.pointer (some ⟨g, off, none⟩))) (ht : OneT P ty) (hw : Region.wanted o (yielded ops a.tmps) = true)
    {t : TypeId} {cs : List Value} (hm : Mu.blk g t cs ∈ Mr) {v : Value} (hv : cs[off]? = some v) : YieldsIf P ops (Hold B Mr Dr) o v a := by
  replace hx := look_eval hx
  exact .inl ⟨hw, fun w hS => by
    have hb : (Mu.blk g t cs).ok B w := hS.1 _ hm
    unfold execOp
    simp only [ho, hx, Instr.loadAt, Instr.sureAddr, Sem.run_bind, Sem.run_pure, Result.andThen_ok, run_load_one ht (hb.1.cell_of off v hv)]⟩
theorem yi_ld {ty : TypeId} {x : Operand} (ho : o.op = .load ty x) {g : Nat} (hx : look a x = some (.pointer (some ⟨g, 0, none⟩))) (hw : Region.wanted o (yielded ops a.tmps) = true)
    {t : TypeId} {cs : List Value} (hm : Mu.blk g t cs ∈ Mr) (ht : RowTy P ty cs.length) : YieldsIf P ops (Hold B Mr Dr) o (.agg cs.toArray) a := by
  replace hx := look_eval hx
  exact .inl ⟨hw, fun w hS => by
    have hb : (Mu.blk g t cs).ok B w := hS.1 _ hm
    unfold execOp
    simp only [ho, hx, Instr.loadAt, Instr.sureAddr, Sem.run_bind, Sem.run_pure, Result.andThen_ok, hb.1.loadVar ht]⟩
theorem yi_fldB {s f : Nat} {x : Operand} (ho : o.op = .fieldAddr s x f) {g j : Nat} (hx : look a x = some (.pointer (some ⟨g, j, none⟩))) {off : Nat} (ht : FldT P s f off) (hw : Region.wanted o (yielded ops a.tmps) = true) :
    YieldsIf P ops S o (.pointer (some ⟨g, j + off, none⟩)) a := by
  replace hx := look_eval hx
  exact yi_pure hw fun w => by
    unfold execOp
    simp only [ho, hx, fieldPlace_of ht, addr_add, Sem.run_bind, Sem.run_pure, Result.andThen_ok]
theorem size_of_slT {t e : TypeId} {z : Value} {sz bytes : Nat} (ht : SlT P t e z sz bytes) (w : World) : P.underlying t = some (.slice e) ∧ (sizeOf e).run P w = .ok sz w := by
  obtain ⟨hu, hi, _, _⟩ := ht
  refine ⟨hu, ?_⟩
  cases hq : P.info? e with
  | none => simp [hq] at hi
  | some i =>
    simp only [hq, Option.map_some, Option.some.injEq, Prod.mk.injEq] at hi
    simp [sizeOf, typeInfo, hq, hi.2.1]
theorem yi_ix {t e : TypeId} {x ix : Operand} (ho : o.op = .indexAddr t x ix) {A : Option Addr} {n c : Nat} (hx : look a x = some (.slice A n c)) {k : Nat} {ki : IntKind} (hk : look a ix = some (.int ki (k : Int)))
    {z : Value} {sz bytes : Nat} (ht : SlT P t e z sz bytes) (hw : Region.wanted o (yielded ops a.tmps) = true) {xs : List Value} (hd : rowD sz A n c xs ∈ Dr) (hkn : k < n) : YieldsIf P ops (Hold B Mr Dr) o (ept A (k * sz)) a := by
  replace hx := look_eval hx
  replace hk := look_eval hk
  exact .inl ⟨hw, fun w hS => by
    have hr : Rd w w.heap.size sz A n c xs := hS.2 _ hd
    obtain ⟨g, f, rfl, _, _⟩ := hr.at_ (by omega)
    obtain ⟨hu, hs⟩ := size_of_slT ht w
    have hrun : (Instr.indexAt t (.slice (some ⟨g, f, none⟩) n c) (.int ki (k : Int))).run P w = .ok (ept (some ⟨g, f, none⟩) (k * sz)) w := by
      simp [Instr.indexAt, run_underlying hu, asIntOf, hs, ept, show (k : Int) < (n : Int) by omega]
      intro h; omega
    unfold execOp
    simp only [ho, hx, hk, hrun, Sem.run_bind, Sem.run_pure, Result.andThen_ok]⟩
theorem yi_ixB {t e : TypeId} {x ix : Operand} (ho : o.op = .indexAddr t x ix) {g n c : Nat} (hx : look a x = some (.slice (some ⟨g, 0, none⟩) n c)) {k : Nat} {ki : IntKind} (hk : look a ix = some (.int ki (k : Int)))
    {z : Value} {sz bytes : Nat} (ht : SlT P t e z sz bytes) (hw : Region.wanted o (yielded ops a.tmps) = true) (hkn : k < n) : YieldsIf P ops S o (.pointer (some ⟨g, k * sz, none⟩)) a := by
  replace hx := look_eval hx
  replace hk := look_eval hk
  exact yi_pure hw fun w => by
    obtain ⟨hu, hs⟩ := size_of_slT ht w
    have hrun : (Instr.indexAt t (.slice (some ⟨g, 0, none⟩) n c) (.int ki (k : Int))).run P w = .ok (.pointer (some ⟨g, k * sz, none⟩)) w := by
      simp [Instr.indexAt, run_underlying hu, asIntOf, hs, addr_add, show (k : Int) < (n : Int) by omega]
      intro h; omega
    unfold execOp
    simp only [ho, hx, hk, hrun, Sem.run_bind, Sem.run_pure, Result.andThen_ok]
theorem yi_fld {s f : Nat} {x : Operand} (ho : o.op = .fieldAddr s x f) {A : Option Addr} {j : Nat} (hx : look a x = some (ept A j)) {off : Nat} (ht : FldT P s f off) (hw : Region.wanted o (yielded ops a.tmps) = true)
    {sz n c : Nat} {xs : List Value} (hd : rowD sz A n c xs ∈ Dr) (hn : 0 < n) : YieldsIf P ops (Hold B Mr Dr) o (ept A (j + off)) a := by
  replace hx := look_eval hx
  exact .inl ⟨hw, fun w hS => by
    have hr : Rd w w.heap.size sz A n c xs := hS.2 _ hd
    obtain ⟨g, f0, rfl, _, _⟩ := hr.at_ hn
    rw [ept_add]
    unfold execOp
    simp only [ho, hx, ept, Option.map_some, fieldPlace_of ht, Sem.run_bind, Sem.run_pure, Result.andThen_ok]⟩
theorem yi_lde1 {ty : TypeId} {x : Operand} (ho : o.op = .load ty x) {A : Option Addr} {j : Nat} (hx : look a x = some (ept A j)) (ht : OneT P ty) (hw : Region.wanted o (yielded ops a.tmps) = true)
    {sz n c : Nat} {xs : List Value} (hd : rowD sz A n c xs ∈ Dr) {v : Value} (hv : xs[j]? = some v) : YieldsIf P ops (Hold B Mr Dr) o v a := by
  replace hx := look_eval hx
  exact .inl ⟨hw, fun w hS => by
    have hr : Rd w w.heap.size sz A n c xs := hS.2 _ hd
    have hn : 0 < n := by
      have h1 := (List.getElem?_eq_some_iff.1 hv).1
      have h2 := hr.len
      rcases Nat.eq_zero_or_pos n with h0 | h0
      · subst h0; omega
      · exact h0
    obtain ⟨g, f, rfl, _, hc⟩ := hr.at_ hn
    unfold execOp
    simp only [ho, hx, ept, Option.map_some, addr_add, Instr.loadAt, Instr.sureAddr, Sem.run_bind, Sem.run_pure, Result.andThen_ok, run_load_one ht (hc j v hv)]⟩
theorem yi_lde {ty : TypeId} {x : Operand} (ho : o.op = .load ty x) {A : Option Addr} {j : Nat} (hx : look a x = some (ept A j)) (hw : Region.wanted o (yielded ops a.tmps) = true)
    {sz n c : Nat} {xs : List Value} (hd : rowD sz A n c xs ∈ Dr) (us : List Value) (hu : ∀ i u, us[i]? = some u → xs[j + i]? = some u) (ht : RowTy P ty us.length) (h0 : 0 < us.length) : YieldsIf P ops (Hold B Mr Dr) o (.agg us.toArray) a := by
  replace hx := look_eval hx
  exact .inl ⟨hw, fun w hS => by
    have hr : Rd w w.heap.size sz A n c xs := hS.2 _ hd
    have hn : 0 < n := by
      have h1 := (List.getElem?_eq_some_iff.1 (hu 0 _ (List.getElem?_eq_getElem h0))).1
      have h2 := hr.len
      rcases Nat.eq_zero_or_pos n with h3 | h3
      · subst h3; omega
      · exact h3
    obtain ⟨g, f, rfl, _, hc⟩ := hr.at_ hn
    have hl := run_loadVar_elem (P := P) w g (f + j) ty us (fun i u hi => by rw [Nat.add_assoc]; exact hc (j + i) u (hu i u hi)) ht
    unfold execOp
    simp only [ho, hx, ept, Option.map_some, addr_add, Instr.loadAt, Instr.sureAddr, Sem.run_bind, Sem.run_pure, Result.andThen_ok, hl]⟩
theorem yi_to {t e : TypeId} {x y : Operand} (ho : o.op = .slice t x none (some y) none) {A : Option Addr} {n c N : Nat} (hx : look a x = some (.slice A n c)) {ki : IntKind} (hy : look a y = some (.int ki (N : Int)))
    {z : Value} {sz bytes : Nat} (ht : SlT P t e z sz bytes) (hw : Region.wanted o (yielded ops a.tmps) = true) (hN : N ≤ c) : YieldsIf P ops S o (.slice A N c) a := by
  replace hx := look_eval hx
  replace hy := look_eval hy
  exact yi_pure hw fun w => by
    obtain ⟨hu, hs⟩ := size_of_slT ht w
    have hel : P.elem t = e := by simp [Program.elem, hu]
    have h1 := run_slice_h (P := P) (w := w) t A n c (by rw [hel]; exact hu) ki (N : Int) (by omega) (by omega)
    have h2 : (Instr.sliceAt t (.slice A n c) none (some (.int ki (N : Int))) none).run P w = .ok (.slice A N c) w := by
      rw [run_sliceAt_slice (P := P) (w := w) t _ _ _ _ (by rw [hel]; exact hu), h1, hel, hs]
      simp only [Result.andThen_ok, sliced, Int.toNat_natCast, Nat.zero_mul, Nat.sub_zero]
      congr 2
      split
      · rfl
      · cases A with
        | none => rfl
        | some ad => simp [Addr.add]
    unfold execOp
    simp only [ho, hx, hy, Option.map_some, Option.map_none, h2, Sem.run_bind, Sem.run_pure, Result.andThen_ok]
theorem yi_from {t e : TypeId} {x y : Operand} (ho : o.op = .slice t x (some y) none none) {A : Option Addr} {n c k : Nat} (hx : look a x = some (.slice A n c)) {ki : IntKind} (hy : look a y = some (.int ki (k : Int)))
    {z : Value} {sz bytes : Nat} (ht : SlT P t e z sz bytes) (hw : Region.wanted o (yielded ops a.tmps) = true) (hk : k ≤ n) : YieldsIf P ops S o (.slice (cutA A k c sz) (n - k) (c - k)) a := by
  replace hx := look_eval hx
  replace hy := look_eval hy
  exact yi_pure hw fun w => by
    obtain ⟨hu, hs⟩ := size_of_slT ht w
    have hel : P.elem t = e := by simp [Program.elem, hu]
    have h1 := run_slice_l (P := P) (w := w) t A n c (by rw [hel]; exact hu) ki (k : Int) (by omega) (by omega)
    have h2 : (Instr.sliceAt t (.slice A n c) (some (.int ki (k : Int))) none none).run P w = .ok (.slice (cutA A k c sz) (n - k) (c - k)) w := by
      rw [run_sliceAt_slice (P := P) (w := w) t _ _ _ _ (by rw [hel]; exact hu), h1, hel, hs]
      simp only [Result.andThen_ok, sliced, Int.toNat_natCast, cutA]
    unfold execOp
    simp only [ho, hx, hy, Option.map_some, Option.map_none, h2, Sem.run_bind, Sem.run_pure, Result.andThen_ok]
end
end Go.Proofs.Ytcahadkkjfijfaa

/- What stays while a statement is carried out, met again behind a call. -/
set_option linter.unusedVariables false
set_option linter.unusedSimpArgs false
namespace Go.Proofs.Ytcahadkkjfijfaa
open Go.RowKit

theorem Hold.next {B : Nat} {Mr : List Mu} {Dr : List Da} {w w0 w' : World} {D0 D : List Da} {M : List Mu} (_h : Hold B Mr Dr w) (hF : St w0 D0 w' M D) (hM : ∀ m ∈ Mr, m ∈ M) (hD : ∀ d ∈ Dr, d ∈ D) (hB : B = w0.heap.size) : Hold B Mr Dr w' := by
  subst hB
  exact hF.hold hM hD
end Go.Proofs.Ytcahadkkjfijfaa

/- Names for the blocks that stand there. -/
set_option linter.unusedVariables false
set_option linter.unusedSimpArgs false
namespace Go.Proofs.Ytcahadkkjfijfaa
open Go.RowKit

section
variable {w0 w : World} {D0 D : List Da} {M : List Mu} {g1 g2 g3 g4 g5 g6 g7 g8 : Nat} {t1 t2 t3 t4 t5 t6 t7 t8 : TypeId} {c1 c2 c3 c4 c5 c6 c7 c8 : List Value}
theorem St.names1 (h : St w0 D0 w (.blk g1 t1 c1 :: M) D) : ∃ a, a = g1 := ⟨_, rfl⟩
theorem St.names2 (h : St w0 D0 w (.blk g1 t1 c1 :: .blk g2 t2 c2 :: M) D) : ∃ a b, a = g1 ∧ b = g2 := ⟨_, _, rfl, rfl⟩
theorem St.names3 (h : St w0 D0 w (.blk g1 t1 c1 :: .blk g2 t2 c2 :: .blk g3 t3 c3 :: M) D) : ∃ a b c, a = g1 ∧ b = g2 ∧ c = g3 := ⟨_, _, _, rfl, rfl, rfl⟩
theorem St.names4 (h : St w0 D0 w (.blk g1 t1 c1 :: .blk g2 t2 c2 :: .blk g3 t3 c3 :: .blk g4 t4 c4 :: M) D) : ∃ a b c d, a = g1 ∧ b = g2 ∧ c = g3 ∧ d = g4 := ⟨_, _, _, _, rfl, rfl, rfl, rfl⟩
theorem St.names5 (h : St w0 D0 w (.blk g1 t1 c1 :: .blk g2 t2 c2 :: .blk g3 t3 c3 :: .blk g4 t4 c4 :: .blk g5 t5 c5 :: M) D) : ∃ a b c d e, a = g1 ∧ b = g2 ∧ c = g3 ∧ d = g4 ∧ e = g5 := ⟨_, _, _, _, _, rfl, rfl, rfl, rfl, rfl⟩
theorem St.names6 (h : St w0 D0 w (.blk g1 t1 c1 :: .blk g2 t2 c2 :: .blk g3 t3 c3 :: .blk g4 t4 c4 :: .blk g5 t5 c5 :: .blk g6 t6 c6 :: M) D) : ∃ a b c d e f, a = g1 ∧ b = g2 ∧ c = g3 ∧ d = g4 ∧ e = g5 ∧ f = g6 := ⟨_, _, _, _, _, _, rfl, rfl, rfl, rfl, rfl, rfl⟩
end
end Go.Proofs.Ytcahadkkjfijfaa

/- Bytes over St: '[]byte(s)', 's[i]', 'string(b)', 'copy(b[k:], s)'. -/
set_option linter.unusedVariables false
set_option linter.unusedSimpArgs false
namespace Go.Proofs.Ytcahadkkjfijfaa
open Go.RowKit

/-- a string's type; a byte slice's -/
inductive StrT (P : Program) (t : TypeId) : Prop
  | mk (hu : P.underlying t = some .string)
inductive BySlT (P : Program) (t e : TypeId) : Prop
  | mk (hu : P.underlying t = some (.slice e)) (he : P.underlying e = some (.int .u8)) (hi : (P.info? e).map (·.size) = some 1)

theorem bytes_set {l : List UInt8} {r : List Value} {k : Nat} {b : UInt8} (h : k < l.length) : (byteCells l ++ r).set (k * 1) (.int .u8 (b.toNat : Int)) = byteCells (l.set k b) ++ r := by
  rw [Nat.mul_one, List.set_append_left _ _ (by rw [byteCells_len]; exact h)]
  simp [byteCells, List.map_set]
section
variable {P : Program} {ops : Array Oper} {rest : List Oper} {o : Oper} {a : Act} {Q : Exit → Act → World → Prop} {w0 w : World} {D0 D : List Da} {M : List Mu}
theorem st_bytes {src dst e : TypeId} {x : Operand} (ho : o.op = .convert src dst x) (hgd : o.guard = none) (hF : St w0 D0 w M D) (hs : StrT P src) (hd : BySlT P dst e) {s : ByteArray} (hx : look a x = some (.string s)) (hsz : s.size ≤ maxLen)
    (h : ∀ g cap r w', St w0 D0 w' (.blk g e (byteCells s.data.toList ++ r) :: M) D → s.size + r.length = cap → cap ≤ maxLen → wpList P ops Q rest (a.put o.dst (.slice (some ⟨g, 0, none⟩) s.size cap)) w') : wpList P ops Q (o :: rest) a w := by
  obtain ⟨hs⟩ := hs
  obtain ⟨hu, he, _⟩ := hd
  refine wpList_tobytes hgd src dst e x ho hs hu he s (look_eval hx) hsz fun cap w' h1 h2 hk hb hl => h _ _ _ _ (hF.push _ (grown_of_bel hb none) ⟨hk, hF.bel.size⟩ fun g hg => ?_) (by simp; omega) h2
  simp only [Mu.bl, Option.some.injEq] at hg; omega
theorem st_string {src dst e : TypeId} {x : Operand} (ho : o.op = .convert src dst x) (hgd : o.guard = none) (hF : St w0 D0 w M D) (hs : BySlT P src e) (hd : StrT P dst) {g n c : Nat} (hx : look a x = some (.slice (some ⟨g, 0, none⟩) n c))
    {i : Nat} {t : TypeId} {l : List UInt8} {r : List Value} (hi : M[i]? = some (.blk g t (byteCells l ++ r))) (hn : l.length = n) (hc : n ≤ c) (hm : c ≤ maxLen)
    (h : wpList P ops Q rest (a.put o.dst (.string ⟨l.toArray⟩)) w) : wpList P ops Q (o :: rest) a w := by
  obtain ⟨hu, he, _⟩ := hs
  obtain ⟨hd⟩ := hd
  have hr := (hF.bkAt hi).rd (sz := 1) (n := n) (c := c) (o := 0) (by rw [List.length_append, byteCells_len]; omega) hc hm
  rw [List.drop_zero, Nat.mul_one, List.take_append_of_le_length (by rw [byteCells_len]; omega), List.take_of_length_le (by rw [byteCells_len]; omega)] at hr
  exact wpList_string hgd src dst e x ho hu he hd hr (look_eval hx) h
theorem st_idxs {t : TypeId} {x ix : Operand} (ho : o.op = .index t x ix) (ht : StrT P t) {s : ByteArray} (hx : look a x = some (.string s)) {k : Nat} {ki : IntKind} (hk : look a ix = some (.int ki (k : Int))) (hw : Region.wanted o (yielded ops a.tmps) = true)
    {b : UInt8} (hb : s.data.toList[k]? = some b) (h : wpList P ops Q rest (a.put o.dst (.int .u8 (b.toNat : Int))) w) : wpList P ops Q (o :: rest) a w := by
  replace hx := look_eval hx
  replace hk := look_eval hk
  obtain ⟨ht⟩ := ht
  obtain ⟨hl, e⟩ := List.getElem?_eq_some_iff.1 hb
  have hl' : k < s.size := by simpa using hl
  have hb' : s[k]'hl' = b := by
    have : (s[k]'hl') = s.data.toList[k] := by simp; rfl
    rw [this, e]
  have hrun : (Instr.index t (.string s) (.int ki (k : Int))).run P w = .ok (.int .u8 (b.toNat : Int)) w := by
    rw [run_index_string (P := P) w t s ki (k : Int) ht, dif_pos ⟨by omega, by omega⟩]
    simp only [Int.toNat_natCast, hb']
  refine wpList_wanted hw fun K hK => ?_
  unfold Oper.wp execOp
  simp only [ho, hx, hk, hrun, Sem.run_bind, Sem.run_pure, Result.andThen_ok]
  exact hK _ _ h
theorem run_strto {w : World} {t : TypeId} (ht : StrT P t) (s : ByteArray) (ki : IntKind) (k : Nat) (h : k ≤ s.size) : (Instr.sliceAt t (.string s) none (some (.int ki (k : Int))) none).run P w = .ok (.string (s.extract 0 k)) w := by
  obtain ⟨ht⟩ := ht
  rw [run_sliceAt_string (P := P) w t _ _ _ _ ht, run_slice_string_h (P := P) w t s ht ki (k : Int) (by omega) (by omega), Int.toNat_natCast]
theorem run_strfrom {w : World} {t : TypeId} (ht : StrT P t) (s : ByteArray) (ki : IntKind) (k : Nat) (h : k ≤ s.size) : (Instr.sliceAt t (.string s) (some (.int ki (k : Int))) none none).run P w = .ok (.string (s.extract k s.size)) w := by
  obtain ⟨ht⟩ := ht
  rw [run_sliceAt_string (P := P) w t _ _ _ _ ht, run_slice_string_l (P := P) w t s ht ki (k : Int) (by omega) (by omega), Int.toNat_natCast]
/-- 's[:k]', 's[k:]' of a string -/
theorem st_strto {t : TypeId} {x y : Operand} (ho : o.op = .slice t x none (some y) none) (ht : StrT P t) {s : ByteArray} (hx : look a x = some (.string s)) {k : Nat} {ki : IntKind} (hy : look a y = some (.int ki (k : Int))) (hw : Region.wanted o (yielded ops a.tmps) = true) (hk : k ≤ s.size)
    (h : wpList P ops Q rest (a.put o.dst (.string (s.extract 0 k))) w) : wpList P ops Q (o :: rest) a w := by
  replace hx := look_eval hx
  replace hy := look_eval hy
  refine wpList_wanted hw fun K hK => ?_
  unfold Oper.wp execOp
  simp only [ho, hx, hy, Option.map_some, Option.map_none, run_strto ht s ki k hk, Sem.run_bind, Sem.run_pure, Result.andThen_ok]
  exact hK _ _ h
theorem st_strfrom {t : TypeId} {x y : Operand} (ho : o.op = .slice t x (some y) none none) (ht : StrT P t) {s : ByteArray} (hx : look a x = some (.string s)) {k : Nat} {ki : IntKind} (hy : look a y = some (.int ki (k : Int))) (hw : Region.wanted o (yielded ops a.tmps) = true) (hk : k ≤ s.size)
    (h : wpList P ops Q rest (a.put o.dst (.string (s.extract k s.size))) w) : wpList P ops Q (o :: rest) a w := by
  replace hx := look_eval hx
  replace hy := look_eval hy
  refine wpList_wanted hw fun K hK => ?_
  unfold Oper.wp execOp
  simp only [ho, hx, hy, Option.map_some, Option.map_none, run_strfrom ht s ki k hk, Sem.run_bind, Sem.run_pure, Result.andThen_ok]
  exact hK _ _ h
theorem yi_strto {SS : World → Prop} {t : TypeId} {x y : Operand} (ho : o.op = .slice t x none (some y) none) (ht : StrT P t) {s : ByteArray} (hx : look a x = some (.string s)) {k : Nat} {ki : IntKind} (hy : look a y = some (.int ki (k : Int))) (hw : Region.wanted o (yielded ops a.tmps) = true) (hk : k ≤ s.size) : YieldsIf P ops SS o (.string (s.extract 0 k)) a := by
  replace hx := look_eval hx
  replace hy := look_eval hy
  exact yi_pure hw fun w => by
    unfold execOp
    simp only [ho, hx, hy, Option.map_some, Option.map_none, run_strto ht s ki k hk, Sem.run_bind, Sem.run_pure, Result.andThen_ok]
theorem yi_strfrom {SS : World → Prop} {t : TypeId} {x y : Operand} (ho : o.op = .slice t x (some y) none none) (ht : StrT P t) {s : ByteArray} (hx : look a x = some (.string s)) {k : Nat} {ki : IntKind} (hy : look a y = some (.int ki (k : Int))) (hw : Region.wanted o (yielded ops a.tmps) = true) (hk : k ≤ s.size) : YieldsIf P ops SS o (.string (s.extract k s.size)) a := by
  replace hx := look_eval hx
  replace hy := look_eval hy
  exact yi_pure hw fun w => by
    unfold execOp
    simp only [ho, hx, hy, Option.map_some, Option.map_none, run_strfrom ht s ki k hk, Sem.run_bind, Sem.run_pure, Result.andThen_ok]
/-- 'b[k:]' of a block of bytes -/
theorem st_fromB {t e : TypeId} {x y : Operand} (ho : o.op = .slice t x (some y) none none) {g n c k : Nat} (hx : look a x = some (.slice (some ⟨g, 0, none⟩) n c)) {ki : IntKind} (hy : look a y = some (.int ki (k : Int)))
    (ht : BySlT P t e) (hw : Region.wanted o (yielded ops a.tmps) = true) (hk : k < n) (hn : n ≤ c)
    (h : wpList P ops Q rest (a.put o.dst (.slice (some ⟨g, k, none⟩) (n - k) (c - k))) w) : wpList P ops Q (o :: rest) a w := by
  replace hx := look_eval hx
  replace hy := look_eval hy
  obtain ⟨hu, he, hi⟩ := ht
  have hs : (sizeOf e).run P w = .ok 1 w := by
    cases hq : P.info? e with
    | none => simp [hq] at hi
    | some i =>
      have : i.size = 1 := by simpa [hq] using hi
      simp [sizeOf, typeInfo, hq, this]
  have hel : P.elem t = e := by simp [Program.elem, hu]
  have h1 := run_slice_l (P := P) (w := w) t (some ⟨g, 0, none⟩) n c (by rw [hel]; exact hu) ki (k : Int) (by omega) (by omega)
  have h2 : (Instr.sliceAt t (.slice (some ⟨g, 0, none⟩) n c) (some (.int ki (k : Int))) none none).run P w = .ok (.slice (some ⟨g, k, none⟩) (n - k) (c - k)) w := by
    rw [run_sliceAt_slice (P := P) (w := w) t _ _ _ _ (by rw [hel]; exact hu), h1, hel, hs]
    simp only [Result.andThen_ok, sliced, Int.toNat_natCast]
    rw [if_neg (by omega)]
    simp [addr_add]
  refine wpList_wanted hw fun K hK => ?_
  unfold Oper.wp execOp
  simp only [ho, hx, hy, Option.map_some, Option.map_none, h2, Sem.run_bind, Sem.run_pure, Result.andThen_ok]
  exact hK _ _ h
/-- 'copy(dst, s)', s a string, dst within a block of the call's own -/
theorem st_copys {dT sT e : TypeId} {d s : Operand} (ho : o.op = .call { callee := .builtin .copy, args := #[d, s], argTypes := #[dT, sT] }) (hgd : o.guard = none) (hF : St w0 D0 w M D) (ht : BySlT P dT e)
    {g off n cd : Nat} (hx : look a d = some (.slice (some ⟨g, off, none⟩) n cd)) {str : ByteArray} (hy : look a s = some (.string str)) {i : Nat} {t' : TypeId} {cs : List Value} (hi : M[i]? = some (.blk g t' cs))
    (hl : off + n ≤ cs.length) {M' : List Mu} (hM : M.set i (.blk g t' (spl cs off (byteCells (str.data.toList.take (min str.size n))))) = M')
    (h : ∀ w', St w0 D0 w' M' D → wpList P ops Q rest (a.put o.dst (goInt (min str.size n : Nat))) w') : wpList P ops Q (o :: rest) a w := by
  replace hx := look_eval hx
  replace hy := look_eval hy
  subst hM
  obtain ⟨hu, he, hsz⟩ := ht
  refine wpList_copy_str hgd d s dT sT ho e hu hsz g off n cd str hx hy t' cs (hF.bkAt hi) (by omega) fun w' hk hg => h w' ?_
  exact hF.upd i _ _ hi hg ⟨hk, (hF.mu i _ hi).2⟩ fun g' hg' => .inl hg'
end
/-- bytes laid over others, from a place on, as far as there is room -/
def layB (l : List UInt8) (at' : Nat) (s : List UInt8) : List UInt8 := l.take at' ++ (s.take (l.length - at')) ++ l.drop (at' + s.length)
theorem layB_len {l s : List UInt8} {k : Nat} (h : k ≤ l.length) : (layB l k s).length = l.length := by simp [layB]; omega
theorem spl_bytes {l : List UInt8} {r : List Value} {k : Nat} {str : ByteArray} (h : k ≤ l.length) : spl (byteCells l ++ r) k (byteCells (str.data.toList.take (min str.size (l.length - k)))) = byteCells (layB l k str.data.toList) ++ r := by
  have hs : str.data.toList.length = str.size := by simp
  have ht : (str.data.toList.take (min str.size (l.length - k))) = str.data.toList.take (l.length - k) := by
    rcases Nat.le_total str.size (l.length - k) with h1 | h1
    · rw [Nat.min_eq_left h1, List.take_of_length_le (by omega), List.take_of_length_le (by omega)]
    · rw [Nat.min_eq_right h1]
  rw [ht, spl_eq _ _ _ (by simp [byteCells_len]; omega), byteCells_len, List.take_append_of_le_length (by rw [byteCells_len]; exact h), List.length_take, hs]
  have h1 : (byteCells l).take k = byteCells (l.take k) := by simp [byteCells, List.map_take]
  rw [h1, layB, byteCells_append, byteCells_append, hs]
  rcases Nat.le_total str.size (l.length - k) with h2 | h2
  · rw [Nat.min_eq_right h2, List.drop_append_of_le_length (by rw [byteCells_len]; omega)]
    simp [byteCells, List.map_drop]
  · rw [Nat.min_eq_left h2, show k + (l.length - k) = l.length by omega, List.drop_of_length_le (show l.length ≤ k + str.size by omega)]
    have : (byteCells l ++ r).drop l.length = r := by rw [← byteCells_len l, List.drop_left]
    rw [this]; simp [byteCells]
end Go.Proofs.Ytcahadkkjfijfaa

/- Facts on this program's types. -/
set_option linter.unusedVariables false
set_option maxRecDepth 100000
namespace Go.Proofs.Ytcahadkkjfijfaa
open Go.RowKit

theorem tyOne_2 : OneT Try.prog 2 := ⟨_, Try.underlying2, rfl, by kernel_rfl⟩
theorem tyZero_2 : ZeroT Try.prog 2 [.int .i64 0] := ⟨.int .i64 0, by kernel_rfl, rfl⟩
theorem tyOne_3 : OneT Try.prog 3 := ⟨_, Try.underlying3, rfl, by kernel_rfl⟩
theorem tyZero_3 : ZeroT Try.prog 3 [.int .i64 0] := ⟨.int .i64 0, by kernel_rfl, rfl⟩
theorem tyOne_4 : OneT Try.prog 4 := ⟨_, Try.underlying4, rfl, by kernel_rfl⟩
theorem tyZero_4 : ZeroT Try.prog 4 [.bool false] := ⟨.bool false, by kernel_rfl, rfl⟩
theorem tyOne_5 : OneT Try.prog 5 := ⟨_, Try.underlying5, rfl, by kernel_rfl⟩
theorem tyZero_5 : ZeroT Try.prog 5 [.int .u8 0] := ⟨.int .u8 0, by kernel_rfl, rfl⟩
theorem tyOne_9 : OneT Try.prog 9 := ⟨_, Try.underlying9, rfl, by kernel_rfl⟩
theorem tyZero_9 : ZeroT Try.prog 9 [.string ⟨#[]⟩] := ⟨.string ⟨#[]⟩, by kernel_rfl, rfl⟩
theorem tyOne_12 : OneT Try.prog 12 := ⟨_, Try.underlying12, rfl, by kernel_rfl⟩
theorem tyZero_12 : ZeroT Try.prog 12 [.int .u64 0] := ⟨.int .u64 0, by kernel_rfl, rfl⟩
theorem tyRow_13 : RowTy Try.prog 13 2 := ⟨_, Try.underlying13, rfl, by kernel_rfl⟩
theorem tyZero_13 : ZeroT Try.prog 13 [.string ⟨#[]⟩, .int .u64 0] := ⟨.agg #[.string ⟨#[]⟩, .int .u64 0], by kernel_rfl, rfl⟩
theorem tyOne_21 : OneT Try.prog 21 := ⟨_, Try.underlying21, rfl, by kernel_rfl⟩
theorem tyZero_21 : ZeroT Try.prog 21 [.int .i32 0] := ⟨.int .i32 0, by kernel_rfl, rfl⟩
theorem tyOne_22 : OneT Try.prog 22 := ⟨_, Try.underlying22, rfl, by kernel_rfl⟩
theorem tyZero_22 : ZeroT Try.prog 22 [.int .u32 0] := ⟨.int .u32 0, by kernel_rfl, rfl⟩
theorem tyRow_23 : RowTy Try.prog 23 32 := ⟨_, Try.underlying23, rfl, by kernel_rfl⟩
theorem tyZero_23 : ZeroT Try.prog 23 [.int .u32 0, .int .u32 0, .int .u32 0, .int .u32 0, .int .u32 0, .int .u32 0, .int .u32 0, .int .u32 0, .int .u32 0, .int .u32 0, .int .u32 0, .int .u32 0, .int .u32 0, .int .u32 0, .int .u32 0, .int .u32 0, .int .u32 0, .int .u32 0, .int .u32 0, .int .u32 0, .int .u32 0, .int .u32 0, .int .u32 0, .int .u32 0, .int .u32 0, .int .u32 0, .int .u32 0, .int .u32 0, .int .u32 0, .int .u32 0, .int .u32 0, .int .u32 0] := ⟨.agg #[.int .u32 0, .int .u32 0, .int .u32 0, .int .u32 0, .int .u32 0, .int .u32 0, .int .u32 0, .int .u32 0, .int .u32 0, .int .u32 0, .int .u32 0, .int .u32 0, .int .u32 0, .int .u32 0, .int .u32 0, .int .u32 0, .int .u32 0, .int .u32 0, .int .u32 0, .int .u32 0, .int .u32 0, .int .u32 0, .int .u32 0, .int .u32 0, .int .u32 0, .int .u32 0, .int .u32 0, .int .u32 0, .int .u32 0, .int .u32 0, .int .u32 0, .int .u32 0], by kernel_rfl, rfl⟩
theorem tyRow_24 : RowTy Try.prog 24 9 := ⟨_, Try.underlying24, rfl, by kernel_rfl⟩
theorem tyZero_24 : ZeroT Try.prog 24 [.int .u32 0, .int .u32 0, .int .i64 0, .int .u32 0, .int .u32 0, .int .i64 0, .bool false, .int .i64 0, .int .i64 0] := ⟨.agg #[.int .u32 0, .int .u32 0, .int .i64 0, .int .u32 0, .int .u32 0, .int .i64 0, .bool false, .int .i64 0, .int .i64 0], by kernel_rfl, rfl⟩
theorem tyRow_25 : RowTy Try.prog 25 9 := ⟨_, Try.underlying25, rfl, by kernel_rfl⟩
theorem tyZero_25 : ZeroT Try.prog 25 [.int .u32 0, .int .u32 0, .int .i64 0, .int .u32 0, .int .u32 0, .int .i64 0, .bool false, .int .i64 0, .int .i64 0] := ⟨.agg #[.int .u32 0, .int .u32 0, .int .i64 0, .int .u32 0, .int .u32 0, .int .i64 0, .bool false, .int .i64 0, .int .i64 0], by kernel_rfl, rfl⟩
theorem tyFld_25_0 : FldT Try.prog 25 0 0 := ⟨_, _, 1, Try.underlying25, rfl, rfl, by kernel_rfl, by decide⟩
theorem tyFld_25_1 : FldT Try.prog 25 1 1 := ⟨_, _, 1, Try.underlying25, rfl, rfl, by kernel_rfl, by decide⟩
theorem tyFld_25_2 : FldT Try.prog 25 2 2 := ⟨_, _, 1, Try.underlying25, rfl, rfl, by kernel_rfl, by decide⟩
theorem tyFld_25_3 : FldT Try.prog 25 3 3 := ⟨_, _, 1, Try.underlying25, rfl, rfl, by kernel_rfl, by decide⟩
theorem tyFld_25_4 : FldT Try.prog 25 4 4 := ⟨_, _, 1, Try.underlying25, rfl, rfl, by kernel_rfl, by decide⟩
theorem tyFld_25_5 : FldT Try.prog 25 5 5 := ⟨_, _, 1, Try.underlying25, rfl, rfl, by kernel_rfl, by decide⟩
theorem tyFld_25_6 : FldT Try.prog 25 6 6 := ⟨_, _, 1, Try.underlying25, rfl, rfl, by kernel_rfl, by decide⟩
theorem tyFld_25_7 : FldT Try.prog 25 7 7 := ⟨_, _, 1, Try.underlying25, rfl, rfl, by kernel_rfl, by decide⟩
theorem tyFld_25_8 : FldT Try.prog 25 8 8 := ⟨_, _, 1, Try.underlying25, rfl, rfl, by kernel_rfl, by decide⟩
theorem tyRow_26 : RowTy Try.prog 26 2 := ⟨_, Try.underlying26, rfl, by kernel_rfl⟩
theorem tyZero_26 : ZeroT Try.prog 26 [.int .u32 0, .string ⟨#[]⟩] := ⟨.agg #[.int .u32 0, .string ⟨#[]⟩], by kernel_rfl, rfl⟩
theorem tyRow_27 : RowTy Try.prog 27 2 := ⟨_, Try.underlying27, rfl, by kernel_rfl⟩
theorem tyZero_27 : ZeroT Try.prog 27 [.int .u32 0, .string ⟨#[]⟩] := ⟨.agg #[.int .u32 0, .string ⟨#[]⟩], by kernel_rfl, rfl⟩
theorem tyFld_27_0 : FldT Try.prog 27 0 0 := ⟨_, _, 1, Try.underlying27, rfl, rfl, by kernel_rfl, by decide⟩
theorem tyFld_27_1 : FldT Try.prog 27 1 1 := ⟨_, _, 1, Try.underlying27, rfl, rfl, by kernel_rfl, by decide⟩
theorem tyOne_33 : OneT Try.prog 33 := ⟨_, Try.underlying33, rfl, by kernel_rfl⟩
theorem tyZero_33 : ZeroT Try.prog 33 [.slice none 0 0] := ⟨.slice none 0 0, by kernel_rfl, rfl⟩
theorem tySl_33 : SlT Try.prog 33 27 (.agg #[.int .u32 0, .string ⟨#[]⟩]) 2 24 := ⟨Try.underlying33, by kernel_rfl, rfl, by decide⟩
theorem tyOne_34 : OneT Try.prog 34 := ⟨_, Try.underlying34, rfl, by kernel_rfl⟩
theorem tyZero_34 : ZeroT Try.prog 34 [.slice none 0 0] := ⟨.slice none 0 0, by kernel_rfl, rfl⟩
theorem tySl_34 : SlT Try.prog 34 62 (.slice none 0 0) 1 24 := ⟨Try.underlying34, by kernel_rfl, rfl, by decide⟩
theorem tyRow_35 : RowTy Try.prog 35 2 := ⟨_, Try.underlying35, rfl, by kernel_rfl⟩
theorem tyZero_35 : ZeroT Try.prog 35 [.int .i64 0, .slice none 0 0] := ⟨.agg #[.int .i64 0, .slice none 0 0], by kernel_rfl, rfl⟩
theorem tyRow_36 : RowTy Try.prog 36 2 := ⟨_, Try.underlying36, rfl, by kernel_rfl⟩
theorem tyZero_36 : ZeroT Try.prog 36 [.int .i64 0, .slice none 0 0] := ⟨.agg #[.int .i64 0, .slice none 0 0], by kernel_rfl, rfl⟩
theorem tyFld_36_0 : FldT Try.prog 36 0 0 := ⟨_, _, 1, Try.underlying36, rfl, rfl, by kernel_rfl, by decide⟩
theorem tyFld_36_1 : FldT Try.prog 36 1 1 := ⟨_, _, 1, Try.underlying36, rfl, rfl, by kernel_rfl, by decide⟩
theorem tyOne_37 : OneT Try.prog 37 := ⟨_, Try.underlying37, rfl, by kernel_rfl⟩
theorem tyZero_37 : ZeroT Try.prog 37 [.slice none 0 0] := ⟨.slice none 0 0, by kernel_rfl, rfl⟩
theorem tySl_37 : SlT Try.prog 37 79 (.agg #[.int .i64 0, .int .u32 0, .int .i64 0, .string ⟨#[]⟩]) 4 40 := ⟨Try.underlying37, by kernel_rfl, rfl, by decide⟩
theorem tyRow_48 : RowTy Try.prog 48 3 := ⟨_, Try.underlying48, rfl, by kernel_rfl⟩
theorem tyZero_48 : ZeroT Try.prog 48 [.int .u32 0, .bool false, .string ⟨#[]⟩] := ⟨.agg #[.int .u32 0, .bool false, .string ⟨#[]⟩], by kernel_rfl, rfl⟩
theorem tyRow_49 : RowTy Try.prog 49 3 := ⟨_, Try.underlying49, rfl, by kernel_rfl⟩
theorem tyZero_49 : ZeroT Try.prog 49 [.int .u32 0, .bool false, .string ⟨#[]⟩] := ⟨.agg #[.int .u32 0, .bool false, .string ⟨#[]⟩], by kernel_rfl, rfl⟩
theorem tyFld_49_0 : FldT Try.prog 49 0 0 := ⟨_, _, 1, Try.underlying49, rfl, rfl, by kernel_rfl, by decide⟩
theorem tyFld_49_1 : FldT Try.prog 49 1 1 := ⟨_, _, 1, Try.underlying49, rfl, rfl, by kernel_rfl, by decide⟩
theorem tyFld_49_2 : FldT Try.prog 49 2 2 := ⟨_, _, 1, Try.underlying49, rfl, rfl, by kernel_rfl, by decide⟩
theorem tyOne_62 : OneT Try.prog 62 := ⟨_, Try.underlying62, rfl, by kernel_rfl⟩
theorem tyZero_62 : ZeroT Try.prog 62 [.slice none 0 0] := ⟨.slice none 0 0, by kernel_rfl, rfl⟩
theorem tySl_62 : SlT Try.prog 62 49 (.agg #[.int .u32 0, .bool false, .string ⟨#[]⟩]) 3 24 := ⟨Try.underlying62, by kernel_rfl, rfl, by decide⟩
theorem tyOne_65 : OneT Try.prog 65 := ⟨_, Try.underlying65, rfl, by kernel_rfl⟩
theorem tyZero_65 : ZeroT Try.prog 65 [.slice none 0 0] := ⟨.slice none 0 0, by kernel_rfl, rfl⟩
theorem tySl_65 : SlT Try.prog 65 69 (.agg #[.int .i64 0, .int .u32 0]) 2 16 := ⟨Try.underlying65, by kernel_rfl, rfl, by decide⟩
theorem tyOne_66 : OneT Try.prog 66 := ⟨_, Try.underlying66, rfl, by kernel_rfl⟩
theorem tyZero_66 : ZeroT Try.prog 66 [.slice none 0 0] := ⟨.slice none 0 0, by kernel_rfl, rfl⟩
theorem tySl_66 : SlT Try.prog 66 22 (.int .u32 0) 1 4 := ⟨Try.underlying66, by kernel_rfl, rfl, by decide⟩
theorem tyRow_68 : RowTy Try.prog 68 2 := ⟨_, Try.underlying68, rfl, by kernel_rfl⟩
theorem tyZero_68 : ZeroT Try.prog 68 [.int .i64 0, .int .u32 0] := ⟨.agg #[.int .i64 0, .int .u32 0], by kernel_rfl, rfl⟩
theorem tyRow_69 : RowTy Try.prog 69 2 := ⟨_, Try.underlying69, rfl, by kernel_rfl⟩
theorem tyZero_69 : ZeroT Try.prog 69 [.int .i64 0, .int .u32 0] := ⟨.agg #[.int .i64 0, .int .u32 0], by kernel_rfl, rfl⟩
theorem tyFld_69_0 : FldT Try.prog 69 0 0 := ⟨_, _, 1, Try.underlying69, rfl, rfl, by kernel_rfl, by decide⟩
theorem tyFld_69_1 : FldT Try.prog 69 1 1 := ⟨_, _, 1, Try.underlying69, rfl, rfl, by kernel_rfl, by decide⟩
theorem tyRow_78 : RowTy Try.prog 78 4 := ⟨_, Try.underlying78, rfl, by kernel_rfl⟩
theorem tyZero_78 : ZeroT Try.prog 78 [.int .i64 0, .int .u32 0, .int .i64 0, .string ⟨#[]⟩] := ⟨.agg #[.int .i64 0, .int .u32 0, .int .i64 0, .string ⟨#[]⟩], by kernel_rfl, rfl⟩
theorem tyRow_79 : RowTy Try.prog 79 4 := ⟨_, Try.underlying79, rfl, by kernel_rfl⟩
theorem tyZero_79 : ZeroT Try.prog 79 [.int .i64 0, .int .u32 0, .int .i64 0, .string ⟨#[]⟩] := ⟨.agg #[.int .i64 0, .int .u32 0, .int .i64 0, .string ⟨#[]⟩], by kernel_rfl, rfl⟩
theorem tyFld_79_0 : FldT Try.prog 79 0 0 := ⟨_, _, 1, Try.underlying79, rfl, rfl, by kernel_rfl, by decide⟩
theorem tyFld_79_1 : FldT Try.prog 79 1 1 := ⟨_, _, 1, Try.underlying79, rfl, rfl, by kernel_rfl, by decide⟩
theorem tyFld_79_2 : FldT Try.prog 79 2 2 := ⟨_, _, 1, Try.underlying79, rfl, rfl, by kernel_rfl, by decide⟩
theorem tyFld_79_3 : FldT Try.prog 79 3 3 := ⟨_, _, 1, Try.underlying79, rfl, rfl, by kernel_rfl, by decide⟩
theorem tyOne_84 : OneT Try.prog 84 := ⟨_, Try.underlying84, rfl, by kernel_rfl⟩
theorem tyZero_84 : ZeroT Try.prog 84 [.int .i64 0] := ⟨.int .i64 0, by kernel_rfl, rfl⟩
theorem tyOne_99 : OneT Try.prog 99 := ⟨_, Try.underlying99, rfl, by kernel_rfl⟩
theorem tyZero_99 : ZeroT Try.prog 99 [.slice none 0 0] := ⟨.slice none 0 0, by kernel_rfl, rfl⟩
theorem tySl_99 : SlT Try.prog 99 5 (.int .u8 0) 1 1 := ⟨Try.underlying99, by kernel_rfl, rfl, by decide⟩
theorem tyOne_103 : OneT Try.prog 103 := ⟨_, Try.underlying103, rfl, by kernel_rfl⟩
theorem tyZero_103 : ZeroT Try.prog 103 [.int .u64 0] := ⟨.int .u64 0, by kernel_rfl, rfl⟩
theorem tyOne_107 : OneT Try.prog 107 := ⟨_, Try.underlying107, rfl, by kernel_rfl⟩
theorem tyZero_107 : ZeroT Try.prog 107 [.int .u64 0] := ⟨.int .u64 0, by kernel_rfl, rfl⟩

end Go.Proofs.Ytcahadkkjfijfaa

/- Facts on this program's types of strings and bytes. -/
set_option linter.unusedVariables false
set_option maxRecDepth 100000
namespace Go.Proofs.Ytcahadkkjfijfaa
open Go.RowKit

theorem tyStr_9 : StrT Try.prog 9 := ⟨Try.underlying9⟩
theorem tyStr_10 : StrT Try.prog 10 := ⟨Try.underlying10⟩
theorem tyStr_11 : StrT Try.prog 11 := ⟨Try.underlying11⟩
theorem tyBy_99 : BySlT Try.prog 99 5 := ⟨Try.underlying99, Try.underlying5, by kernel_rfl⟩

end Go.Proofs.Ytcahadkkjfijfaa
