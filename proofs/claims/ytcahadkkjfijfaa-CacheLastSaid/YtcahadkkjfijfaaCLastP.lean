/- Joined: StU, Act, OpenAct, CNewG, CLast, CMove. -/
import Derived.Test.YtcahadkkjfijfaaStO
import Derived.Test.YtcahadkkjfijfaaRes
import Derived.ProofKit
import Derived.OpenShut
import Derived.Deep.Slices
import Derived.Deep.Fields
import Derived.Test.YtcahadkkjfijfaaCNew
import Derived.Test.YtcahadkkjfijfaaStN
import Derived.Test.YtcahadkkjfijfaaCWrite
import Derived.Test.YtcahadkkjfijfaaCPlain2
import Derived.Test.YtcahadkkjfijfaaU32a
/- Laws: quotients, remainders, differences of words without a sign; an int as such a word. -/
set_option linter.unusedVariables false
set_option linter.unusedSimpArgs false
namespace Go.Proofs.Ytcahadkkjfijfaa
open Go.RowKit

theorem wrapU {z : Nat} (h : z < 4294967296) : IntKind.u32.wrap (z : Int) = (z : Int) := by
  simp only [IntKind.wrap, IntKind.bits, IntKind.signed]; simp; omega
section
variable {P : Program} {ops : Array Oper} {rest : List Oper} {o : Oper} {a : Act} {Q : Exit → Act → World → Prop} {S : World → Prop}
theorem run_quoU {w : World} {x y : Operand} {t t' : TypeId} {p q : Nat} (ho : o.op = .binOp .quo t x y t') (hx : look a x = some (.int .u32 (p : Int))) (hy : look a y = some (.int .u32 (q : Int))) (hp : p < 4294967296) (hq : 0 < q) : (execOp a.eval o).run P w = .ok (.value (.int .u32 ((p / q : Nat) : Int))) w := by
  replace hx := look_eval hx
  replace hy := look_eval hy
  have h0 : ¬ ((q : Int) = 0) := by omega
  unfold execOp
  simp only [ho, hx, hy]
  go_simp
  rw [if_neg (by omega), ← Int.natCast_ediv, wrapU (Nat.lt_of_le_of_lt (Nat.div_le_self p q) hp)]
theorem run_remU {w : World} {x y : Operand} {t t' : TypeId} {p q : Nat} (ho : o.op = .binOp .rem t x y t') (hx : look a x = some (.int .u32 (p : Int))) (hy : look a y = some (.int .u32 (q : Int))) (hp : p < 4294967296) (hq : 0 < q) : (execOp a.eval o).run P w = .ok (.value (.int .u32 ((p % q : Nat) : Int))) w := by
  replace hx := look_eval hx
  replace hy := look_eval hy
  have h0 : ¬ ((q : Int) = 0) := by omega
  unfold execOp
  simp only [ho, hx, hy]
  go_simp
  rw [if_neg (by omega), Int.tmod_eq_emod_of_nonneg (by omega)]
theorem run_subU {w : World} {x y : Operand} {t t' : TypeId} {p q : Nat} (ho : o.op = .binOp .sub t x y t') (hx : look a x = some (.int .u32 (p : Int))) (hy : look a y = some (.int .u32 (q : Int))) (hp : p < 4294967296) (hq : q ≤ p) : (execOp a.eval o).run P w = .ok (.value (.int .u32 ((p - q : Nat) : Int))) w := by
  replace hx := look_eval hx
  replace hy := look_eval hy
  unfold execOp
  simp only [ho, hx, hy]
  go_simp
  rw [show (p : Int) - (q : Int) = ((p - q : Nat) : Int) by omega, wrapU (by omega)]
theorem run_cvtU {w : World} {src dst : TypeId} {x : Operand} {p : Nat} (ho : o.op = .convert src dst x) (hx : look a x = some (.int .i64 (p : Int))) (hp : p < 4294967296) (hs : P.underlying src = some (.int .i64)) (hd : P.underlying dst = some (.int .u32)) : (execOp a.eval o).run P w = .ok (.value (.int .u32 (p : Int))) w := by
  replace hx := look_eval hx
  unfold execOp
  simp only [ho, hx]
  simp [convert, run_underlying hs, run_underlying hd, wrapU hp, go_sem]
theorem y_quoH {x y : Operand} {t t' : TypeId} {p q r : Nat} (ho : o.op = .binOp .quo t x y t') (hx : look a x = some (.int .u32 (p : Int))) (hy : look a y = some (.int .u32 (q : Int))) (hr : Hid (p / q = r) := by assumption) (hp : p < 4294967296 := by (first | assumption | omega)) (hq : 0 < q := by (first | assumption | omega)) (hw : Region.wanted o (yielded ops a.tmps) = true := by rfl) :
    YieldsIf P ops S o (.int .u32 (r : Int)) a := yi_pure hw fun w => by rw [← hr.out]; exact run_quoU ho hx hy hp hq
theorem y_remH {x y : Operand} {t t' : TypeId} {p q r : Nat} (ho : o.op = .binOp .rem t x y t') (hx : look a x = some (.int .u32 (p : Int))) (hy : look a y = some (.int .u32 (q : Int))) (hr : Hid (p % q = r) := by assumption) (hp : p < 4294967296 := by (first | assumption | omega)) (hq : 0 < q := by (first | assumption | omega)) (hw : Region.wanted o (yielded ops a.tmps) = true := by rfl) :
    YieldsIf P ops S o (.int .u32 (r : Int)) a := yi_pure hw fun w => by rw [← hr.out]; exact run_remU ho hx hy hp hq
theorem y_cvtU {src dst : TypeId} {x : Operand} {p : Nat} (ho : o.op = .convert src dst x) (hx : look a x = some (.int .i64 (p : Int))) (hs : P.underlying src = some (.int .i64)) (hd : P.underlying dst = some (.int .u32)) (hp : p < 4294967296 := by (first | assumption | omega)) (hw : Region.wanted o (yielded ops a.tmps) = true := by rfl) :
    YieldsIf P ops S o (.int .u32 (p : Int)) a := yi_pure hw fun w => run_cvtU ho hx hp hs hd
theorem w_remH {w : World} {x y : Operand} {t t' : TypeId} {p q r : Nat} (ho : o.op = .binOp .rem t x y t') (hx : look a x = some (.int .u32 (p : Int))) (hy : look a y = some (.int .u32 (q : Int))) (h : wpList P ops Q rest (a.put o.dst (.int .u32 (r : Int))) w) (hr : Hid (p % q = r) := by assumption) (hp : p < 4294967296 := by (first | assumption | omega)) (hq : 0 < q := by (first | assumption | omega)) (hw : Region.wanted o (yielded ops a.tmps) = true := by rfl) : wpList P ops Q (o :: rest) a w := by
  refine wpList_wanted hw fun K hK => ?_
  unfold Oper.wp
  rw [run_remU ho hx hy hp hq, hr.out]
  exact hK _ _ h
theorem w_subH {w : World} {x y : Operand} {t t' : TypeId} {p q r : Nat} (ho : o.op = .binOp .sub t x y t') (hx : look a x = some (.int .u32 (p : Int))) (hy : look a y = some (.int .u32 (q : Int))) (h : wpList P ops Q rest (a.put o.dst (.int .u32 (r : Int))) w) (hr : Hid (p - q = r) := by assumption) (hp : p < 4294967296 := by (first | assumption | omega)) (hq : q ≤ p := by (first | assumption | omega)) (hw : Region.wanted o (yielded ops a.tmps) = true := by rfl) : wpList P ops Q (o :: rest) a w := by
  refine wpList_wanted hw fun K hK => ?_
  unfold Oper.wp
  rw [run_subU ho hx hy hp hq, hr.out]
  exact hK _ _ h
theorem w_eqT {w : World} {x y : Operand} {t t' : TypeId} {k : IntKind} {p q : Int} (ho : o.op = .binOp .eql t x y t') (hx : look a x = some (.int k p)) (hy : look a y = some (.int k q)) (h : wpList P ops Q rest (a.put o.dst (.bool true)) w) (hne : Hid (p = q) := by assumption) (hw : Region.wanted o (yielded ops a.tmps) = true := by rfl) : wpList P ops Q (o :: rest) a w := by
  replace hx := look_eval hx
  replace hy := look_eval hy
  have hpq := hne.out
  subst hpq
  refine wpList_wanted hw fun K hK => ?_
  have hrun : (execOp a.eval o).run P w = .ok (.value (.bool true)) w := by
    unfold execOp
    simp only [ho, hx, hy]
    go_simp
  unfold Oper.wp
  rw [hrun]
  exact hK _ _ h
end
end Go.Proofs.Ytcahadkkjfijfaa

/- Records of type auspexlaw10.Act: as Lean records; rows of them as lists; what reads as such a row. -/
set_option linter.unusedVariables false
set_option linter.unusedSimpArgs false
namespace Go.Proofs.Ytcahadkkjfijfaa
open Go.RowKit

/-- auspexlaw10.Act -/
structure Ac where
  what : Int
  addr : Nat
def Ac.cells (r : Ac) : List Value := [.int .i64 r.what, .int .u32 (r.addr : Int)]
def Ac.val (r : Ac) : Value := .agg #[.int .i64 r.what, .int .u32 (r.addr : Int)]
def acs (q : List Ac) : List Value := q.flatMap Ac.cells
theorem acs_len (q : List Ac) : (acs q).length = q.length * 2 := by
  induction q with
  | nil => rfl
  | cons r q ih =>
    have : acs (r :: q) = r.cells ++ acs q := rfl
    rw [this, List.length_append, ih, List.length_cons]
    simp [Ac.cells]; omega
theorem acs_at {q : List Ac} {k : Nat} (h : k < q.length) (j : Nat) (hj : j < 2) : (acs q)[k * 2 + j]? = (q[k]'h).cells[j]? := by
  induction q generalizing k with
  | nil => simp at h
  | cons r q ih =>
    have e : acs (r :: q) = r.cells ++ acs q := rfl
    have hl : r.cells.length = 2 := rfl
    cases k with
    | zero => rw [e, List.getElem?_append_left (by rw [hl]; omega)]; simp
    | succ k =>
      rw [e, List.getElem?_append_right (by rw [hl]; omega), hl, show (k + 1) * 2 + j - 2 = k * 2 + j by omega, ih (by simpa using h)]
      simp
theorem acs_one (q : List Ac) : ∀ u ∈ acs q, u.oneCell' = true := by
  intro u hu
  simp only [acs, List.mem_flatMap, Ac.cells, List.mem_cons, List.not_mem_nil, or_false] at hu
  obtain ⟨r, _, h⟩ := hu
  rcases h with h | h <;> subst h <;> rfl
theorem acs_append (p q : List Ac) : acs (p ++ q) = acs p ++ acs q := by simp [acs]
theorem acs_take (q : List Ac) (k : Nat) : (acs q).take (k * 2) = acs (q.take k) := by
  induction q generalizing k with
  | nil => simp [acs]
  | cons r q ih =>
    have e : acs (r :: q) = r.cells ++ acs q := rfl
    have hl : r.cells.length = 2 := rfl
    cases k with
    | zero => simp [acs]
    | succ k =>
      rw [e, List.take_append, hl, show (k + 1) * 2 - 2 = k * 2 by omega, ih, List.take_succ_cons, List.take_of_length_le (by rw [hl]; omega)]
      rfl
theorem acs_drop (q : List Ac) (k : Nat) : (acs q).drop (k * 2) = acs (q.drop k) := by
  induction q generalizing k with
  | nil => simp [acs]
  | cons r q ih =>
    have e : acs (r :: q) = r.cells ++ acs q := rfl
    have hl : r.cells.length = 2 := rfl
    cases k with
    | zero => simp [acs]
    | succ k =>
      rw [e, List.drop_append, hl, show (k + 1) * 2 - 2 = k * 2 by omega, ih, List.drop_succ_cons, List.drop_of_length_le (by rw [hl]; omega)]
      rfl
theorem Rd.acslen {w : World} {B n c : Nat} {A : Option Addr} {q : List Ac} (h : Rd w B 2 A n c (acs q)) : q.length = n := by
  have hn := h.len
  rw [acs_len] at hn
  omega

/-- what an element's cells hold -/
theorem Rd.acsat {w : World} {B n c : Nat} {A : Option Addr} {q : List Ac} (h : Rd w B 2 A n c (acs q)) {k : Nat} (hk : k < n) :
    ∃ (hl : k < q.length) (g o : Nat), A = some ⟨g, o, none⟩ ∧ g < B ∧ w.cell? ⟨g, o + k * 2, none⟩ = some (.int .i64 q[k].what) ∧ w.cell? ⟨g, o + k * 2 + 1, none⟩ = some (.int .u32 (q[k].addr : Int)) := by
  have hl : k < q.length := by rw [h.acslen]; exact hk
  obtain ⟨g, o, e, hb, hc⟩ := h.at_ (by omega)
  refine ⟨hl, g, o, e, hb, ?_, ?_⟩
  · simpa using hc (k * 2 + 0) _ (acs_at hl 0 (by omega))
  · simpa [Nat.add_assoc] using hc (k * 2 + 1) _ (acs_at hl 1 (by omega))
/-- the zero value's cells -/
def acsZ : List Value := [.int .i64 0, .int .u32 0]
theorem acsTy : RowTy Try.prog 69 2 := ⟨_, Try.underlying69, rfl, by kernel_rfl⟩
theorem Ac.one (r : Ac) : ∀ u ∈ r.cells, u.oneCell' = true := fun u hu => acs_one [r] u (by simpa [acs] using hu)
/-- an element, whole -/
theorem Rd.acselem {w : World} {B n c : Nat} {A : Option Addr} {q : List Ac} (h : Rd w B 2 A n c (acs q)) {k : Nat} (hk : k < n) :
    ∃ (hl : k < q.length) (g o : Nat), A = some ⟨g, o, none⟩ ∧ g < B ∧ ∀ j u, (q[k]'hl).cells[j]? = some u → w.cell? ⟨g, o + k * 2 + j, none⟩ = some u := by
  have hl : k < q.length := by rw [h.acslen]; exact hk
  obtain ⟨g, o, e, hb, hc⟩ := h.at_ (by omega)
  refine ⟨hl, g, o, e, hb, fun j u hu => ?_⟩
  have hj : j < 2 := (List.getElem?_eq_some_iff.1 hu).1
  rw [Nat.add_assoc]
  exact hc _ _ ((acs_at hl j hj).trans hu)

theorem acs_spl (q : List Ac) (k : Nat) (r : Ac) (hk : k < q.length) : spl (acs q) (k * 2) r.cells = acs (q.set k r) := by
  have hl : r.cells.length = 2 := rfl
  rw [spl_eq _ _ _ (by rw [acs_len, hl]; omega), hl, show k * 2 + 2 = (k + 1) * 2 by omega, acs_take, acs_drop, List.set_eq_take_append_cons_drop, if_pos hk, acs_append]
  simp [acs]

end Go.Proofs.Ytcahadkkjfijfaa

/- Arguments of type auspexlaw10.Act, and slices of it, opened to what the walks ask. -/
set_option linter.unusedVariables false
set_option linter.unusedSimpArgs false
set_option maxRecDepth 100000
namespace Go.Proofs.Ytcahadkkjfijfaa
open Go.RowKit Go.ChangeShapes Go.WideShapes Go.ChangeAt Go.Deep

def AcOk (r : Ac) : Prop := (-9223372036854775808 ≤ r.what ∧ r.what ≤ 9223372036854775807) ∧ r.addr < 4294967296

theorem acs_struct : ∃ f0 f1 : Field, Try.prog.underlying 69 = some (.struct #[f0, f1]) ∧ (f0.offset = 0 ∧ Try.prog.cellsOf f0.type = 1 ∧ Try.prog.underlying f0.type = some (.int .i64)) ∧ (f1.offset = 1 ∧ Try.prog.cellsOf f1.type = 1 ∧ Try.prog.underlying f1.type = some (.int .u32)) := by
  refine ⟨_, _, Try.underlying69, ⟨?_, ?_, ?_⟩, ⟨?_, ?_, ?_⟩⟩ <;> kernel_rfl

theorem open_acs1 {H : Type} {enc : TypeId × Value → H} {W : World} {base fuel : Nat} {spare : Nat → Bool} {held : Bool} {cs : List Value} {x : DataW H × List MemPlace} (h : DataW.trod enc Try.prog W base spare held fuel 69 cs = some x) :
    ∃ r : Ac, cs = r.cells ∧ AcOk r := by
  obtain ⟨f0, f1, hu, ⟨o0, k0, u0⟩, ⟨o1, k1, u1⟩⟩ := acs_struct
  obtain ⟨ys, n, _, _, hl, hyl, hf⟩ := DataW.trod_struct hu h
  have hl2 : cs.length = 2 := hl.trans (by kernel_rfl)
  match cs, hl2 with
  | [a0, a1], _ =>
    match ys, hyl with
    | [y0, y1], _ =>
      have g0 := hf 0 f0 rfl
      have g1 := hf 1 f1 rfl
      rw [o0, k0] at g0
      rw [o1, k1] at g1
      obtain ⟨n0, e0, _, w0⟩ := DataW.trod_int u0 g0
      have b0 := bounds_i64 w0
      obtain ⟨n1, e1, _, w1⟩ := DataW.trod_int u1 g1
      have b1 := bounds_u32 w1
      obtain ⟨m1, rfl⟩ := Int.eq_ofNat_of_zero_le b1.1
      simp at e0 e1
      subst e0
      subst e1
      exact ⟨⟨n0, m1⟩, rfl, b0, (show m1 < 4294967296 by omega)⟩

theorem open_acsv {H : Type} {enc : TypeId × Value → H} {W : World} {base : Nat} {v : Value} {d : DataW H} {p : List MemPlace}
    (hv : Value.okWide Try.prog W .any base 69 v) (h : DataW.Trod enc Try.prog W 0 (fun _ => true) true 69 v d p) : ∃ r : Ac, v = r.val ∧ AcOk r := by
  obtain ⟨f0, f1, hu, _⟩ := acs_struct
  obtain ⟨cs, rfl, _⟩ := okWide_struct hu hv
  obtain ⟨fuel, hf⟩ := h
  obtain ⟨r, e, hr⟩ := open_acs1 hf
  refine ⟨r, ?_, hr⟩
  have e' : cs.toList = r.cells := e
  have : cs = r.cells.toArray := by rw [← e']
  rw [this]; rfl

theorem an_acs (g o j : Nat) : (⟨g, o, none⟩ : Addr).add j = ⟨g, o + j, none⟩ := by unfold Addr.add; split <;> simp_all
theorem open_acs0 {H : Type} {enc : TypeId × Value → H} {W : World} {fuel : Nat} {T : TypeId} {cs : List Value} {x : DataW H × List MemPlace} (hT : Try.prog.underlying T = some (.slice 69))
    (hf : DataW.trod enc Try.prog W 0 (fun _ => true) true fuel T cs = some x) :
    ∃ A n c, ∃ q : List Ac, cs = [.slice A n c] ∧ Rd W W.heap.size 2 A n c (acs q) ∧ ∀ r ∈ q, AcOk r := by
  have hC : Try.prog.cellsOf 69 = 2 := by kernel_rfl
  rcases open_slice hT hf with ⟨rfl, _⟩ | ⟨a, l, cc, m, f, D, Pl, rfl, _, hl, hm, hmm, _, hi⟩
  · exact ⟨none, 0, 0, [], rfl, Rd.nil (Nat.zero_le _), by simp⟩
  · have hmm' : m = cc := by simpa using hmm
    subst hmm'
    rw [hC] at hi
    have hq : ∀ i : Fin l, ∃ r : Ac, AcOk r ∧ ∀ j < 2, W.cell? ((a.add (i.1 * 2)).add j) = r.cells[j]? := by
      intro i
      obtain ⟨cs', hc, ht⟩ := hi i.1 (by omega)
      obtain ⟨r, rfl, hr⟩ := open_acs1 ht
      obtain ⟨_, hcl, hat⟩ := World.cells?_some hc
      exact ⟨r, hr, fun j hj => hat j hj⟩
    let g := fun i : Fin l => Classical.choose (hq i)
    have hg : ∀ i, AcOk (g i) ∧ ∀ j < 2, W.cell? ((a.add (i.1 * 2)).add j) = (g i).cells[j]? := fun i => Classical.choose_spec (hq i)
    refine ⟨some a, l, m, List.ofFn g, rfl, ⟨by rw [acs_len, List.length_ofFn], hl, hm, fun hn => ?_⟩, ?_⟩
    · obtain ⟨b, o, spot⟩ := a
      have h0 := (hg ⟨0, hn⟩).2 0 (by omega)
      have hs : ∃ v0, W.cell? ⟨b, o, spot⟩ = some v0 := by
        have : ((⟨b, o, spot⟩ : Addr).add (0 * 2)).add 0 = ⟨b, o, spot⟩ := by unfold Addr.add; cases spot <;> simp
        rw [this] at h0
        exact ⟨_, h0⟩
      obtain ⟨v0, h0'⟩ := hs
      have hs : spot = none := World.cell?_spot h0'
      subst hs
      refine ⟨b, o, rfl, World.block_lt_of_cell? W _ h0', fun j u hu => ?_⟩
      have hj := (List.getElem?_eq_some_iff.1 hu).1
      rw [acs_len, List.length_ofFn] at hj
      have hk : j / 2 < l := by omega
      have hr := acs_at (q := List.ofFn g) (k := j / 2) (by rw [List.length_ofFn]; exact hk) (j % 2) (by omega)
      rw [show j / 2 * 2 + j % 2 = j by omega, hu, List.getElem_ofFn] at hr
      have h1 := (hg ⟨j / 2, hk⟩).2 (j % 2) (by omega)
      have e1 : ((⟨b, o, none⟩ : Addr).add ((j / 2) * 2)).add (j % 2) = ⟨b, o + j, none⟩ := by
        have e2 : o + j / 2 * 2 + j % 2 = o + j := by omega
        rw [an_acs, an_acs, e2]
      rw [e1] at h1
      rw [h1, hr]
    · intro r hr
      simp only [List.mem_ofFn] at hr
      obtain ⟨i, rfl⟩ := hr
      exact (hg i).1

theorem open_acs {H : Type} {enc : TypeId × Value → H} {W : World} {base : Nat} {v : Value} {d : DataW H} {p : List MemPlace} {T : TypeId} (hT : Try.prog.underlying T = some (.slice 69))
    (hv : Value.okWide Try.prog W .any base T v) (h : DataW.Trod enc Try.prog W 0 (fun _ => true) true T v d p) :
    ∃ A n c, ∃ q : List Ac, v = .slice A n c ∧ Rd W W.heap.size 2 A n c (acs q) ∧ ∀ r ∈ q, AcOk r := by
  obtain ⟨A, n, c, rfl⟩ := okWide_slice hT hv
  obtain ⟨fuel, hf⟩ := h
  have hf' : DataW.trod enc Try.prog W 0 (fun _ => true) true fuel T [.slice A n c] = _ := hf
  obtain ⟨A', n', c', q, e, hr, hq⟩ := open_acs0 hT hf'
  injection e with e _
  injection e with e1 e2 e3
  subst e1 e2 e3
  exact ⟨A, n, c, q, rfl, hr, hq⟩

end Go.Proofs.Ytcahadkkjfijfaa

/- A new cache, of any numbers of sets and ways; of the program and of the document. -/
set_option linter.unusedVariables false
set_option linter.unusedSimpArgs false
set_option maxRecDepth 100000
namespace Go.Proofs.Ytcahadkkjfijfaa
open Go.RowKit Go.Sort

def newN (sets : Int) : Nat := if sets < 2 then 1 else if sets < 4 then 2 else 4
def newW (ways : Int) : Int := if ways < 2 then 1 else 2
theorem cont_rep (n : Nat) : cont (List.replicate n nilS) = List.replicate n [] := by simp [cont, nilS]
theorem made_rep (n : Nat) : (madeCells (Value.slice none 0 0).cells (n * 1)).toList = csv (List.replicate n nilS) := by
  rw [show (Value.slice none 0 0).cells = #[Value.slice none 0 0] from rfl, toList_madeCells_one, Nat.mul_one]
  simp [csv, nilS, Cs.val]
set_option maxHeartbeats 4000000 in
theorem New_core (sets ways p1 p2 q1 q2 : Int) (n : Nat) (w : World) (hs1 : -9223372036854775808 ≤ sets) (hs2 : sets ≤ 9223372036854775807) (hw1 : -9223372036854775808 ≤ ways) (hw2 : ways ≤ 9223372036854775807)
    (hp1 : sets ≤ 1 ∧ p1 = 1 ∨ 1 < sets ∧ p1 = sets) (hp2 : p1 ≤ 4 ∧ p2 = p1 ∨ 4 < p1 ∧ p2 = 4) (hq1 : ways ≤ 1 ∧ q1 = 1 ∨ 1 < ways ∧ q1 = ways) (hq2 : q1 ≤ 2 ∧ q2 = q1 ∨ 2 < q1 ∧ q2 = 2) (h3 : p2 = 3 ∧ n = 2 ∨ p2 ≠ 3 ∧ p2 = (n : Int)) :
    Calls Try.prog 36 #[.int .i64 sets, .int .i64 ways] w fun e w' => ∃ x, e = .returned x ∧ CRes w [] q2 x w' (List.replicate n []) := by
  have hF := St.start w [] (fun d hd => by cases hd)
  rcases h3 with ⟨rfl, rfl⟩ | ⟨h3, hn⟩
  · go_enter Try.func36, Try.ntmps36
    go_wp2_with (first | (refine w_max p1 rfl rfl rfl ?_) | (refine w_max q1 rfl rfl rfl ?_) | (refine w_min p2 rfl rfl rfl ?_) | (refine w_min q2 rfl rfl rfl ?_) | (refine w_make 2 rfl hF rfl rfl ?_; clear hF; intro gN wN hF) | ((first | (refine w_box rfl hF rfl ?_; clear hF; intro gN wN hF) | (refine w_alloc rfl hF ?_; clear hF; intro gN wN hF) | (refine w_ld1 rfl hF rfl ?_) | (refine w_ld rfl hF rfl ?_) | (refine w_st1 rfl hF rfl rfl ?_; clear hF; intro wN hF; (try simp only [List.set_cons_zero, List.set_cons_succ, List.eraseIdx_cons_zero, List.eraseIdx_cons_succ] at hF)) | (refine w_st rfl hF rfl rfl ?_; clear hF; intro wN hF; (try simp only [List.set_cons_zero, List.set_cons_succ, List.eraseIdx_cons_zero, List.eraseIdx_cons_succ] at hF)) | (refine w_fldB rfl rfl ?_) | (refine w_fld rfl hF rfl ?_) | (refine w_ix rfl hF rfl rfl ?_) | (refine w_lde1 rfl hF rfl ?_) | (refine w_lde rfl hF rfl ?_) | (refine w_bs1 rfl hF rfl ?_; clear hF; intro gN wN hF) | (refine w_bs0 rfl hF ?_; clear hF; intro gN wN hF) | (refine w_app rfl hF rfl rfl ?_; clear hF; intro vN wN hF; (try simp only [List.set_cons_zero, List.set_cons_succ, List.eraseIdx_cons_zero, List.eraseIdx_cons_succ] at hF)) | (refine w_appD rfl hF rfl rfl ?_; clear hF; intro vN wN hF; (try simp only [List.set_cons_zero, List.set_cons_succ, List.eraseIdx_cons_zero, List.eraseIdx_cons_succ] at hF)) | (refine w_ld1o rfl hF rfl ?_) | (refine w_st1o rfl hF rfl rfl ?_; clear hF; intro wN hF; (try simp only [List.set_cons_zero, List.set_cons_succ, List.eraseIdx_cons_zero, List.eraseIdx_cons_succ] at hF)) | (refine w_make0 rfl hF rfl rfl ?_; clear hF; intro gN wN hF) | (refine w_to rfl hF rfl rfl ?_; clear hF; intro hF) | (refine w_from rfl hF rfl rfl ?_; clear hF; intro hF)); (try simp only [Act.put, List.setIfInBounds_toArray, List.set_cons_zero, List.set_cons_succ, Nat.zero_add, Nat.zero_mul, Nat.reduceAdd])))
    rw [made_rep 2] at hF
    have hF := (hF.freezeB 0 at0 1 2 2 (by simp [csv_len]) (Nat.le_refl _) (by decide)).elemNil 2
    (try simp only [List.set_cons_zero, List.set_cons_succ, List.eraseIdx_cons_zero, List.eraseIdx_cons_succ] at hF)
    ((try simp only [Exit.inBlock, Exit.then]); refine bodyPost_ret (w_resc rfl hF) rfl ?_)
    exact ⟨_, rfl, _, _, _, List.replicate 2 nilS, rfl, hF.outA, cont_rep 2⟩
  · have hn1 : p2 ≤ (n : Int) := by omega
    have hn2 : (n : Int) ≤ p2 := by omega
    have hn4 : n ≤ 4 := by omega
    clear hn
    go_enter Try.func36, Try.ntmps36
    go_wp2_with (first | (refine w_max p1 rfl rfl rfl ?_) | (refine w_max q1 rfl rfl rfl ?_) | (refine w_min p2 rfl rfl rfl ?_) | (refine w_min q2 rfl rfl rfl ?_) | (refine w_make n rfl hF rfl rfl ?_; clear hF; intro gN wN hF) | ((first | (refine w_box rfl hF rfl ?_; clear hF; intro gN wN hF) | (refine w_alloc rfl hF ?_; clear hF; intro gN wN hF) | (refine w_ld1 rfl hF rfl ?_) | (refine w_ld rfl hF rfl ?_) | (refine w_st1 rfl hF rfl rfl ?_; clear hF; intro wN hF; (try simp only [List.set_cons_zero, List.set_cons_succ, List.eraseIdx_cons_zero, List.eraseIdx_cons_succ] at hF)) | (refine w_st rfl hF rfl rfl ?_; clear hF; intro wN hF; (try simp only [List.set_cons_zero, List.set_cons_succ, List.eraseIdx_cons_zero, List.eraseIdx_cons_succ] at hF)) | (refine w_fldB rfl rfl ?_) | (refine w_fld rfl hF rfl ?_) | (refine w_ix rfl hF rfl rfl ?_) | (refine w_lde1 rfl hF rfl ?_) | (refine w_lde rfl hF rfl ?_) | (refine w_bs1 rfl hF rfl ?_; clear hF; intro gN wN hF) | (refine w_bs0 rfl hF ?_; clear hF; intro gN wN hF) | (refine w_app rfl hF rfl rfl ?_; clear hF; intro vN wN hF; (try simp only [List.set_cons_zero, List.set_cons_succ, List.eraseIdx_cons_zero, List.eraseIdx_cons_succ] at hF)) | (refine w_appD rfl hF rfl rfl ?_; clear hF; intro vN wN hF; (try simp only [List.set_cons_zero, List.set_cons_succ, List.eraseIdx_cons_zero, List.eraseIdx_cons_succ] at hF)) | (refine w_ld1o rfl hF rfl ?_) | (refine w_st1o rfl hF rfl rfl ?_; clear hF; intro wN hF; (try simp only [List.set_cons_zero, List.set_cons_succ, List.eraseIdx_cons_zero, List.eraseIdx_cons_succ] at hF)) | (refine w_make0 rfl hF rfl rfl ?_; clear hF; intro gN wN hF) | (refine w_to rfl hF rfl rfl ?_; clear hF; intro hF) | (refine w_from rfl hF rfl rfl ?_; clear hF; intro hF)); (try simp only [Act.put, List.setIfInBounds_toArray, List.set_cons_zero, List.set_cons_succ, Nat.zero_add, Nat.zero_mul, Nat.reduceAdd])))
    rw [made_rep n] at hF
    have hF := (hF.freezeB 0 at0 1 n n (by simp [csv_len]) (Nat.le_refl _) (by unfold maxLen; omega)).elemNil n
    (try simp only [List.set_cons_zero, List.set_cons_succ, List.eraseIdx_cons_zero, List.eraseIdx_cons_succ] at hF)
    ((try simp only [Exit.inBlock, Exit.then]); refine bodyPost_ret (w_resc rfl hF) rfl ?_)
    exact ⟨_, rfl, _, _, _, List.replicate n nilS, rfl, hF.outA, cont_rep n⟩
theorem New_all (sets ways : Int) (w : World) (hs : -9223372036854775808 ≤ sets ∧ sets ≤ 9223372036854775807) (hw : -9223372036854775808 ≤ ways ∧ ways ≤ 9223372036854775807) :
    Calls Try.prog 36 #[.int .i64 sets, .int .i64 ways] w fun e w' => ∃ x, e = .returned x ∧ CRes w [] (newW ways) x w' (List.replicate (newN sets) []) := by
  refine New_core sets ways (if sets ≤ 1 then 1 else sets) (if sets ≤ 1 then 1 else if 4 < sets then 4 else sets) (if ways ≤ 1 then 1 else ways) (newW ways) (newN sets) w hs.1 hs.2 hw.1 hw.2 ?_ ?_ ?_ ?_ ?_
  · split <;> omega
  · by_cases h1 : sets ≤ 1
    · simp only [if_pos h1]; first | omega | (simp; done) | (simp; omega)
    · simp only [if_neg h1]; split <;> omega
  · split <;> omega
  · unfold newW
    by_cases h1 : ways ≤ 1
    · simp only [if_pos h1, if_pos (show ways < 2 by omega)]; first | omega | (simp; done) | (simp; omega)
    · simp only [if_neg h1, if_neg (show ¬ ways < 2 by omega)]; first | omega | (simp; done) | (simp; omega)
  · unfold newN
    by_cases h1 : sets ≤ 1
    · simp only [if_pos h1, if_pos (show sets < 2 by omega)]; first | omega | (simp; done) | (simp; omega)
    · simp only [if_neg h1, if_neg (show ¬ sets < 2 by omega)]
      by_cases h4 : 4 < sets
      · simp only [if_pos h4, if_neg (show ¬ sets < 4 by omega)]; first | omega | (simp; done) | (simp; omega)
      · simp only [if_neg h4]
        by_cases h5 : sets < 4
        · simp only [if_pos h5]; first | omega | (simp; done) | (simp; omega)
        · simp only [if_neg h5]; first | omega | (simp; done) | (simp; omega)
theorem csv_rep_succ (j : Nat) : csv (List.replicate j nilS) ++ [Value.slice none 0 0] = csv (List.replicate (j + 1) nilS) := by
  rw [List.replicate_succ', csv_append]; rfl
set_option maxHeartbeats 8000000 in
theorem refNew_core (sets ways W : Int) (N : Nat) (w : World) (hN : sets < 2 ∧ N = 1 ∨ 2 ≤ sets ∧ sets < 4 ∧ N = 2 ∨ 4 ≤ sets ∧ N = 4) (hW : ways < 2 ∧ W = 1 ∨ 2 ≤ ways ∧ W = 2) :
    Calls Try.prog 37 #[.int .i64 sets, .int .i64 ways] w fun e w' => ∃ x, e = .returned x ∧ CRes w [] W x w' (List.replicate N []) := by
  have hF := St.start w [] (fun d hd => by cases hd)
  go_enter Try.func37, Try.ntmps37
  rcases hN with ⟨h1, rfl⟩ | ⟨h1, h2, rfl⟩ | ⟨h1, rfl⟩ <;> rcases hW with ⟨hw, rfl⟩ | ⟨hw, rfl⟩
  all_goals
    first | have hq1 : ¬ (2 ≤ sets) := by omega
          | have hq1 : 2 ≤ sets := by omega
    first | have hq2 : ¬ (4 ≤ sets) := by omega
          | have hq2 : 4 ≤ sets := by omega
    first | have hq3 : ¬ (2 ≤ ways) := by omega
          | have hq3 : 2 ≤ ways := by omega
    go_wp2_with (first | ((first | (refine w_box rfl hF rfl ?_; clear hF; intro gN wN hF) | (refine w_alloc rfl hF ?_; clear hF; intro gN wN hF) | (refine w_ld1 rfl hF rfl ?_) | (refine w_ld rfl hF rfl ?_) | (refine w_st1 rfl hF rfl rfl ?_; clear hF; intro wN hF; (try simp only [List.set_cons_zero, List.set_cons_succ, List.eraseIdx_cons_zero, List.eraseIdx_cons_succ] at hF)) | (refine w_st rfl hF rfl rfl ?_; clear hF; intro wN hF; (try simp only [List.set_cons_zero, List.set_cons_succ, List.eraseIdx_cons_zero, List.eraseIdx_cons_succ] at hF)) | (refine w_fldB rfl rfl ?_) | (refine w_fld rfl hF rfl ?_) | (refine w_ix rfl hF rfl rfl ?_) | (refine w_lde1 rfl hF rfl ?_) | (refine w_lde rfl hF rfl ?_) | (refine w_bs1 rfl hF rfl ?_; clear hF; intro gN wN hF) | (refine w_bs0 rfl hF ?_; clear hF; intro gN wN hF) | (refine w_app rfl hF rfl rfl ?_; clear hF; intro vN wN hF; (try simp only [List.set_cons_zero, List.set_cons_succ, List.eraseIdx_cons_zero, List.eraseIdx_cons_succ] at hF)) | (refine w_appD rfl hF rfl rfl ?_; clear hF; intro vN wN hF; (try simp only [List.set_cons_zero, List.set_cons_succ, List.eraseIdx_cons_zero, List.eraseIdx_cons_succ] at hF)) | (refine w_ld1o rfl hF rfl ?_) | (refine w_st1o rfl hF rfl rfl ?_; clear hF; intro wN hF; (try simp only [List.set_cons_zero, List.set_cons_succ, List.eraseIdx_cons_zero, List.eraseIdx_cons_succ] at hF)) | (refine w_make0 rfl hF rfl rfl ?_; clear hF; intro gN wN hF) | (refine w_to rfl hF rfl rfl ?_; clear hF; intro hF) | (refine w_from rfl hF rfl rfl ?_; clear hF; intro hF)); (try simp only [Act.put, List.setIfInBounds_toArray, List.set_cons_zero, List.set_cons_succ, Nat.zero_add, Nat.zero_mul, Nat.reduceAdd])))
    obtain ⟨gC, gR, rfl, rfl⟩ := hF.names2
    have hF := hF.nil 62 1
  · go_loopw [7] (fun i wr => ∃ (j : Nat) (v : Value), j ≤ 1 ∧ i = .int .i64 (j : Int) ∧ St w [] wr [.own v 62 1 j (csv (List.replicate j nilS)), .blk gC 36 [.int .i64 1, v], .blk gR 36 [.int .i64 0, .slice none 0 0]] []) (fun i _ => 1 - (intOf i).toNat)
    case atStart => exact ⟨0, _, by omega, rfl, hF⟩
    case round =>
      obtain ⟨j, v, hj, rfl, hF⟩ := hrel
      by_cases hjn : j < 1
      · go_wp2_with (first | ((first | (refine w_box rfl hF rfl ?_; clear hF; intro gN wN hF) | (refine w_alloc rfl hF ?_; clear hF; intro gN wN hF) | (refine w_ld1 rfl hF rfl ?_) | (refine w_ld rfl hF rfl ?_) | (refine w_st1 rfl hF rfl rfl ?_; clear hF; intro wN hF; (try simp only [List.set_cons_zero, List.set_cons_succ, List.eraseIdx_cons_zero, List.eraseIdx_cons_succ] at hF)) | (refine w_st rfl hF rfl rfl ?_; clear hF; intro wN hF; (try simp only [List.set_cons_zero, List.set_cons_succ, List.eraseIdx_cons_zero, List.eraseIdx_cons_succ] at hF)) | (refine w_fldB rfl rfl ?_) | (refine w_fld rfl hF rfl ?_) | (refine w_ix rfl hF rfl rfl ?_) | (refine w_lde1 rfl hF rfl ?_) | (refine w_lde rfl hF rfl ?_) | (refine w_bs1 rfl hF rfl ?_; clear hF; intro gN wN hF) | (refine w_bs0 rfl hF ?_; clear hF; intro gN wN hF) | (refine w_app rfl hF rfl rfl ?_; clear hF; intro vN wN hF; (try simp only [List.set_cons_zero, List.set_cons_succ, List.eraseIdx_cons_zero, List.eraseIdx_cons_succ] at hF)) | (refine w_appD rfl hF rfl rfl ?_; clear hF; intro vN wN hF; (try simp only [List.set_cons_zero, List.set_cons_succ, List.eraseIdx_cons_zero, List.eraseIdx_cons_succ] at hF)) | (refine w_ld1o rfl hF rfl ?_) | (refine w_st1o rfl hF rfl rfl ?_; clear hF; intro wN hF; (try simp only [List.set_cons_zero, List.set_cons_succ, List.eraseIdx_cons_zero, List.eraseIdx_cons_succ] at hF)) | (refine w_make0 rfl hF rfl rfl ?_; clear hF; intro gN wN hF) | (refine w_to rfl hF rfl rfl ?_; clear hF; intro hF) | (refine w_from rfl hF rfl rfl ?_; clear hF; intro hF)); (try simp only [Act.put, List.setIfInBounds_toArray, List.set_cons_zero, List.set_cons_succ, Nat.zero_add, Nat.zero_mul, Nat.reduceAdd])))
        go_roundw
        case rel => exact ⟨j + 1, _, by omega, by go_num, by rw [← csv_rep_succ]; exact hF⟩
        case measure => first | (simp [intOf]; done) | (simp [intOf]; omega)
      · obtain rfl : j = 1 := by omega
        obtain ⟨A', c', rfl, hF⟩ := hF.freeze 0 at0
        (try simp only [List.set_cons_zero, List.set_cons_succ, List.eraseIdx_cons_zero, List.eraseIdx_cons_succ] at hF)
        have hF := hF.elemNil 1
        go_wp2_with (first | ((first | (refine w_box rfl hF rfl ?_; clear hF; intro gN wN hF) | (refine w_alloc rfl hF ?_; clear hF; intro gN wN hF) | (refine w_ld1 rfl hF rfl ?_) | (refine w_ld rfl hF rfl ?_) | (refine w_st1 rfl hF rfl rfl ?_; clear hF; intro wN hF; (try simp only [List.set_cons_zero, List.set_cons_succ, List.eraseIdx_cons_zero, List.eraseIdx_cons_succ] at hF)) | (refine w_st rfl hF rfl rfl ?_; clear hF; intro wN hF; (try simp only [List.set_cons_zero, List.set_cons_succ, List.eraseIdx_cons_zero, List.eraseIdx_cons_succ] at hF)) | (refine w_fldB rfl rfl ?_) | (refine w_fld rfl hF rfl ?_) | (refine w_ix rfl hF rfl rfl ?_) | (refine w_lde1 rfl hF rfl ?_) | (refine w_lde rfl hF rfl ?_) | (refine w_bs1 rfl hF rfl ?_; clear hF; intro gN wN hF) | (refine w_bs0 rfl hF ?_; clear hF; intro gN wN hF) | (refine w_app rfl hF rfl rfl ?_; clear hF; intro vN wN hF; (try simp only [List.set_cons_zero, List.set_cons_succ, List.eraseIdx_cons_zero, List.eraseIdx_cons_succ] at hF)) | (refine w_appD rfl hF rfl rfl ?_; clear hF; intro vN wN hF; (try simp only [List.set_cons_zero, List.set_cons_succ, List.eraseIdx_cons_zero, List.eraseIdx_cons_succ] at hF)) | (refine w_ld1o rfl hF rfl ?_) | (refine w_st1o rfl hF rfl rfl ?_; clear hF; intro wN hF; (try simp only [List.set_cons_zero, List.set_cons_succ, List.eraseIdx_cons_zero, List.eraseIdx_cons_succ] at hF)) | (refine w_make0 rfl hF rfl rfl ?_; clear hF; intro gN wN hF) | (refine w_to rfl hF rfl rfl ?_; clear hF; intro hF) | (refine w_from rfl hF rfl rfl ?_; clear hF; intro hF)); (try simp only [Act.put, List.setIfInBounds_toArray, List.set_cons_zero, List.set_cons_succ, Nat.zero_add, Nat.zero_mul, Nat.reduceAdd])))
        ((try simp only [Exit.inBlock, Exit.then]); refine bodyPost_ret (w_resc rfl hF) rfl ?_)
        exact ⟨_, rfl, _, _, _, List.replicate 1 nilS, rfl, hF.outA, cont_rep 1⟩
  · go_loopw [7] (fun i wr => ∃ (j : Nat) (v : Value), j ≤ 1 ∧ i = .int .i64 (j : Int) ∧ St w [] wr [.own v 62 1 j (csv (List.replicate j nilS)), .blk gC 36 [.int .i64 2, v], .blk gR 36 [.int .i64 0, .slice none 0 0]] []) (fun i _ => 1 - (intOf i).toNat)
    case atStart => exact ⟨0, _, by omega, rfl, hF⟩
    case round =>
      obtain ⟨j, v, hj, rfl, hF⟩ := hrel
      by_cases hjn : j < 1
      · go_wp2_with (first | ((first | (refine w_box rfl hF rfl ?_; clear hF; intro gN wN hF) | (refine w_alloc rfl hF ?_; clear hF; intro gN wN hF) | (refine w_ld1 rfl hF rfl ?_) | (refine w_ld rfl hF rfl ?_) | (refine w_st1 rfl hF rfl rfl ?_; clear hF; intro wN hF; (try simp only [List.set_cons_zero, List.set_cons_succ, List.eraseIdx_cons_zero, List.eraseIdx_cons_succ] at hF)) | (refine w_st rfl hF rfl rfl ?_; clear hF; intro wN hF; (try simp only [List.set_cons_zero, List.set_cons_succ, List.eraseIdx_cons_zero, List.eraseIdx_cons_succ] at hF)) | (refine w_fldB rfl rfl ?_) | (refine w_fld rfl hF rfl ?_) | (refine w_ix rfl hF rfl rfl ?_) | (refine w_lde1 rfl hF rfl ?_) | (refine w_lde rfl hF rfl ?_) | (refine w_bs1 rfl hF rfl ?_; clear hF; intro gN wN hF) | (refine w_bs0 rfl hF ?_; clear hF; intro gN wN hF) | (refine w_app rfl hF rfl rfl ?_; clear hF; intro vN wN hF; (try simp only [List.set_cons_zero, List.set_cons_succ, List.eraseIdx_cons_zero, List.eraseIdx_cons_succ] at hF)) | (refine w_appD rfl hF rfl rfl ?_; clear hF; intro vN wN hF; (try simp only [List.set_cons_zero, List.set_cons_succ, List.eraseIdx_cons_zero, List.eraseIdx_cons_succ] at hF)) | (refine w_ld1o rfl hF rfl ?_) | (refine w_st1o rfl hF rfl rfl ?_; clear hF; intro wN hF; (try simp only [List.set_cons_zero, List.set_cons_succ, List.eraseIdx_cons_zero, List.eraseIdx_cons_succ] at hF)) | (refine w_make0 rfl hF rfl rfl ?_; clear hF; intro gN wN hF) | (refine w_to rfl hF rfl rfl ?_; clear hF; intro hF) | (refine w_from rfl hF rfl rfl ?_; clear hF; intro hF)); (try simp only [Act.put, List.setIfInBounds_toArray, List.set_cons_zero, List.set_cons_succ, Nat.zero_add, Nat.zero_mul, Nat.reduceAdd])))
        go_roundw
        case rel => exact ⟨j + 1, _, by omega, by go_num, by rw [← csv_rep_succ]; exact hF⟩
        case measure => first | (simp [intOf]; done) | (simp [intOf]; omega)
      · obtain rfl : j = 1 := by omega
        obtain ⟨A', c', rfl, hF⟩ := hF.freeze 0 at0
        (try simp only [List.set_cons_zero, List.set_cons_succ, List.eraseIdx_cons_zero, List.eraseIdx_cons_succ] at hF)
        have hF := hF.elemNil 1
        go_wp2_with (first | ((first | (refine w_box rfl hF rfl ?_; clear hF; intro gN wN hF) | (refine w_alloc rfl hF ?_; clear hF; intro gN wN hF) | (refine w_ld1 rfl hF rfl ?_) | (refine w_ld rfl hF rfl ?_) | (refine w_st1 rfl hF rfl rfl ?_; clear hF; intro wN hF; (try simp only [List.set_cons_zero, List.set_cons_succ, List.eraseIdx_cons_zero, List.eraseIdx_cons_succ] at hF)) | (refine w_st rfl hF rfl rfl ?_; clear hF; intro wN hF; (try simp only [List.set_cons_zero, List.set_cons_succ, List.eraseIdx_cons_zero, List.eraseIdx_cons_succ] at hF)) | (refine w_fldB rfl rfl ?_) | (refine w_fld rfl hF rfl ?_) | (refine w_ix rfl hF rfl rfl ?_) | (refine w_lde1 rfl hF rfl ?_) | (refine w_lde rfl hF rfl ?_) | (refine w_bs1 rfl hF rfl ?_; clear hF; intro gN wN hF) | (refine w_bs0 rfl hF ?_; clear hF; intro gN wN hF) | (refine w_app rfl hF rfl rfl ?_; clear hF; intro vN wN hF; (try simp only [List.set_cons_zero, List.set_cons_succ, List.eraseIdx_cons_zero, List.eraseIdx_cons_succ] at hF)) | (refine w_appD rfl hF rfl rfl ?_; clear hF; intro vN wN hF; (try simp only [List.set_cons_zero, List.set_cons_succ, List.eraseIdx_cons_zero, List.eraseIdx_cons_succ] at hF)) | (refine w_ld1o rfl hF rfl ?_) | (refine w_st1o rfl hF rfl rfl ?_; clear hF; intro wN hF; (try simp only [List.set_cons_zero, List.set_cons_succ, List.eraseIdx_cons_zero, List.eraseIdx_cons_succ] at hF)) | (refine w_make0 rfl hF rfl rfl ?_; clear hF; intro gN wN hF) | (refine w_to rfl hF rfl rfl ?_; clear hF; intro hF) | (refine w_from rfl hF rfl rfl ?_; clear hF; intro hF)); (try simp only [Act.put, List.setIfInBounds_toArray, List.set_cons_zero, List.set_cons_succ, Nat.zero_add, Nat.zero_mul, Nat.reduceAdd])))
        ((try simp only [Exit.inBlock, Exit.then]); refine bodyPost_ret (w_resc rfl hF) rfl ?_)
        exact ⟨_, rfl, _, _, _, List.replicate 1 nilS, rfl, hF.outA, cont_rep 1⟩
  · go_loopw [7] (fun i wr => ∃ (j : Nat) (v : Value), j ≤ 2 ∧ i = .int .i64 (j : Int) ∧ St w [] wr [.own v 62 1 j (csv (List.replicate j nilS)), .blk gC 36 [.int .i64 1, v], .blk gR 36 [.int .i64 0, .slice none 0 0]] []) (fun i _ => 2 - (intOf i).toNat)
    case atStart => exact ⟨0, _, by omega, rfl, hF⟩
    case round =>
      obtain ⟨j, v, hj, rfl, hF⟩ := hrel
      by_cases hjn : j < 2
      · go_wp2_with (first | ((first | (refine w_box rfl hF rfl ?_; clear hF; intro gN wN hF) | (refine w_alloc rfl hF ?_; clear hF; intro gN wN hF) | (refine w_ld1 rfl hF rfl ?_) | (refine w_ld rfl hF rfl ?_) | (refine w_st1 rfl hF rfl rfl ?_; clear hF; intro wN hF; (try simp only [List.set_cons_zero, List.set_cons_succ, List.eraseIdx_cons_zero, List.eraseIdx_cons_succ] at hF)) | (refine w_st rfl hF rfl rfl ?_; clear hF; intro wN hF; (try simp only [List.set_cons_zero, List.set_cons_succ, List.eraseIdx_cons_zero, List.eraseIdx_cons_succ] at hF)) | (refine w_fldB rfl rfl ?_) | (refine w_fld rfl hF rfl ?_) | (refine w_ix rfl hF rfl rfl ?_) | (refine w_lde1 rfl hF rfl ?_) | (refine w_lde rfl hF rfl ?_) | (refine w_bs1 rfl hF rfl ?_; clear hF; intro gN wN hF) | (refine w_bs0 rfl hF ?_; clear hF; intro gN wN hF) | (refine w_app rfl hF rfl rfl ?_; clear hF; intro vN wN hF; (try simp only [List.set_cons_zero, List.set_cons_succ, List.eraseIdx_cons_zero, List.eraseIdx_cons_succ] at hF)) | (refine w_appD rfl hF rfl rfl ?_; clear hF; intro vN wN hF; (try simp only [List.set_cons_zero, List.set_cons_succ, List.eraseIdx_cons_zero, List.eraseIdx_cons_succ] at hF)) | (refine w_ld1o rfl hF rfl ?_) | (refine w_st1o rfl hF rfl rfl ?_; clear hF; intro wN hF; (try simp only [List.set_cons_zero, List.set_cons_succ, List.eraseIdx_cons_zero, List.eraseIdx_cons_succ] at hF)) | (refine w_make0 rfl hF rfl rfl ?_; clear hF; intro gN wN hF) | (refine w_to rfl hF rfl rfl ?_; clear hF; intro hF) | (refine w_from rfl hF rfl rfl ?_; clear hF; intro hF)); (try simp only [Act.put, List.setIfInBounds_toArray, List.set_cons_zero, List.set_cons_succ, Nat.zero_add, Nat.zero_mul, Nat.reduceAdd])))
        go_roundw
        case rel => exact ⟨j + 1, _, by omega, by go_num, by rw [← csv_rep_succ]; exact hF⟩
        case measure => first | (simp [intOf]; done) | (simp [intOf]; omega)
      · obtain rfl : j = 2 := by omega
        obtain ⟨A', c', rfl, hF⟩ := hF.freeze 0 at0
        (try simp only [List.set_cons_zero, List.set_cons_succ, List.eraseIdx_cons_zero, List.eraseIdx_cons_succ] at hF)
        have hF := hF.elemNil 2
        go_wp2_with (first | ((first | (refine w_box rfl hF rfl ?_; clear hF; intro gN wN hF) | (refine w_alloc rfl hF ?_; clear hF; intro gN wN hF) | (refine w_ld1 rfl hF rfl ?_) | (refine w_ld rfl hF rfl ?_) | (refine w_st1 rfl hF rfl rfl ?_; clear hF; intro wN hF; (try simp only [List.set_cons_zero, List.set_cons_succ, List.eraseIdx_cons_zero, List.eraseIdx_cons_succ] at hF)) | (refine w_st rfl hF rfl rfl ?_; clear hF; intro wN hF; (try simp only [List.set_cons_zero, List.set_cons_succ, List.eraseIdx_cons_zero, List.eraseIdx_cons_succ] at hF)) | (refine w_fldB rfl rfl ?_) | (refine w_fld rfl hF rfl ?_) | (refine w_ix rfl hF rfl rfl ?_) | (refine w_lde1 rfl hF rfl ?_) | (refine w_lde rfl hF rfl ?_) | (refine w_bs1 rfl hF rfl ?_; clear hF; intro gN wN hF) | (refine w_bs0 rfl hF ?_; clear hF; intro gN wN hF) | (refine w_app rfl hF rfl rfl ?_; clear hF; intro vN wN hF; (try simp only [List.set_cons_zero, List.set_cons_succ, List.eraseIdx_cons_zero, List.eraseIdx_cons_succ] at hF)) | (refine w_appD rfl hF rfl rfl ?_; clear hF; intro vN wN hF; (try simp only [List.set_cons_zero, List.set_cons_succ, List.eraseIdx_cons_zero, List.eraseIdx_cons_succ] at hF)) | (refine w_ld1o rfl hF rfl ?_) | (refine w_st1o rfl hF rfl rfl ?_; clear hF; intro wN hF; (try simp only [List.set_cons_zero, List.set_cons_succ, List.eraseIdx_cons_zero, List.eraseIdx_cons_succ] at hF)) | (refine w_make0 rfl hF rfl rfl ?_; clear hF; intro gN wN hF) | (refine w_to rfl hF rfl rfl ?_; clear hF; intro hF) | (refine w_from rfl hF rfl rfl ?_; clear hF; intro hF)); (try simp only [Act.put, List.setIfInBounds_toArray, List.set_cons_zero, List.set_cons_succ, Nat.zero_add, Nat.zero_mul, Nat.reduceAdd])))
        ((try simp only [Exit.inBlock, Exit.then]); refine bodyPost_ret (w_resc rfl hF) rfl ?_)
        exact ⟨_, rfl, _, _, _, List.replicate 2 nilS, rfl, hF.outA, cont_rep 2⟩
  · go_loopw [7] (fun i wr => ∃ (j : Nat) (v : Value), j ≤ 2 ∧ i = .int .i64 (j : Int) ∧ St w [] wr [.own v 62 1 j (csv (List.replicate j nilS)), .blk gC 36 [.int .i64 2, v], .blk gR 36 [.int .i64 0, .slice none 0 0]] []) (fun i _ => 2 - (intOf i).toNat)
    case atStart => exact ⟨0, _, by omega, rfl, hF⟩
    case round =>
      obtain ⟨j, v, hj, rfl, hF⟩ := hrel
      by_cases hjn : j < 2
      · go_wp2_with (first | ((first | (refine w_box rfl hF rfl ?_; clear hF; intro gN wN hF) | (refine w_alloc rfl hF ?_; clear hF; intro gN wN hF) | (refine w_ld1 rfl hF rfl ?_) | (refine w_ld rfl hF rfl ?_) | (refine w_st1 rfl hF rfl rfl ?_; clear hF; intro wN hF; (try simp only [List.set_cons_zero, List.set_cons_succ, List.eraseIdx_cons_zero, List.eraseIdx_cons_succ] at hF)) | (refine w_st rfl hF rfl rfl ?_; clear hF; intro wN hF; (try simp only [List.set_cons_zero, List.set_cons_succ, List.eraseIdx_cons_zero, List.eraseIdx_cons_succ] at hF)) | (refine w_fldB rfl rfl ?_) | (refine w_fld rfl hF rfl ?_) | (refine w_ix rfl hF rfl rfl ?_) | (refine w_lde1 rfl hF rfl ?_) | (refine w_lde rfl hF rfl ?_) | (refine w_bs1 rfl hF rfl ?_; clear hF; intro gN wN hF) | (refine w_bs0 rfl hF ?_; clear hF; intro gN wN hF) | (refine w_app rfl hF rfl rfl ?_; clear hF; intro vN wN hF; (try simp only [List.set_cons_zero, List.set_cons_succ, List.eraseIdx_cons_zero, List.eraseIdx_cons_succ] at hF)) | (refine w_appD rfl hF rfl rfl ?_; clear hF; intro vN wN hF; (try simp only [List.set_cons_zero, List.set_cons_succ, List.eraseIdx_cons_zero, List.eraseIdx_cons_succ] at hF)) | (refine w_ld1o rfl hF rfl ?_) | (refine w_st1o rfl hF rfl rfl ?_; clear hF; intro wN hF; (try simp only [List.set_cons_zero, List.set_cons_succ, List.eraseIdx_cons_zero, List.eraseIdx_cons_succ] at hF)) | (refine w_make0 rfl hF rfl rfl ?_; clear hF; intro gN wN hF) | (refine w_to rfl hF rfl rfl ?_; clear hF; intro hF) | (refine w_from rfl hF rfl rfl ?_; clear hF; intro hF)); (try simp only [Act.put, List.setIfInBounds_toArray, List.set_cons_zero, List.set_cons_succ, Nat.zero_add, Nat.zero_mul, Nat.reduceAdd])))
        go_roundw
        case rel => exact ⟨j + 1, _, by omega, by go_num, by rw [← csv_rep_succ]; exact hF⟩
        case measure => first | (simp [intOf]; done) | (simp [intOf]; omega)
      · obtain rfl : j = 2 := by omega
        obtain ⟨A', c', rfl, hF⟩ := hF.freeze 0 at0
        (try simp only [List.set_cons_zero, List.set_cons_succ, List.eraseIdx_cons_zero, List.eraseIdx_cons_succ] at hF)
        have hF := hF.elemNil 2
        go_wp2_with (first | ((first | (refine w_box rfl hF rfl ?_; clear hF; intro gN wN hF) | (refine w_alloc rfl hF ?_; clear hF; intro gN wN hF) | (refine w_ld1 rfl hF rfl ?_) | (refine w_ld rfl hF rfl ?_) | (refine w_st1 rfl hF rfl rfl ?_; clear hF; intro wN hF; (try simp only [List.set_cons_zero, List.set_cons_succ, List.eraseIdx_cons_zero, List.eraseIdx_cons_succ] at hF)) | (refine w_st rfl hF rfl rfl ?_; clear hF; intro wN hF; (try simp only [List.set_cons_zero, List.set_cons_succ, List.eraseIdx_cons_zero, List.eraseIdx_cons_succ] at hF)) | (refine w_fldB rfl rfl ?_) | (refine w_fld rfl hF rfl ?_) | (refine w_ix rfl hF rfl rfl ?_) | (refine w_lde1 rfl hF rfl ?_) | (refine w_lde rfl hF rfl ?_) | (refine w_bs1 rfl hF rfl ?_; clear hF; intro gN wN hF) | (refine w_bs0 rfl hF ?_; clear hF; intro gN wN hF) | (refine w_app rfl hF rfl rfl ?_; clear hF; intro vN wN hF; (try simp only [List.set_cons_zero, List.set_cons_succ, List.eraseIdx_cons_zero, List.eraseIdx_cons_succ] at hF)) | (refine w_appD rfl hF rfl rfl ?_; clear hF; intro vN wN hF; (try simp only [List.set_cons_zero, List.set_cons_succ, List.eraseIdx_cons_zero, List.eraseIdx_cons_succ] at hF)) | (refine w_ld1o rfl hF rfl ?_) | (refine w_st1o rfl hF rfl rfl ?_; clear hF; intro wN hF; (try simp only [List.set_cons_zero, List.set_cons_succ, List.eraseIdx_cons_zero, List.eraseIdx_cons_succ] at hF)) | (refine w_make0 rfl hF rfl rfl ?_; clear hF; intro gN wN hF) | (refine w_to rfl hF rfl rfl ?_; clear hF; intro hF) | (refine w_from rfl hF rfl rfl ?_; clear hF; intro hF)); (try simp only [Act.put, List.setIfInBounds_toArray, List.set_cons_zero, List.set_cons_succ, Nat.zero_add, Nat.zero_mul, Nat.reduceAdd])))
        ((try simp only [Exit.inBlock, Exit.then]); refine bodyPost_ret (w_resc rfl hF) rfl ?_)
        exact ⟨_, rfl, _, _, _, List.replicate 2 nilS, rfl, hF.outA, cont_rep 2⟩
  · go_loopw [7] (fun i wr => ∃ (j : Nat) (v : Value), j ≤ 4 ∧ i = .int .i64 (j : Int) ∧ St w [] wr [.own v 62 1 j (csv (List.replicate j nilS)), .blk gC 36 [.int .i64 1, v], .blk gR 36 [.int .i64 0, .slice none 0 0]] []) (fun i _ => 4 - (intOf i).toNat)
    case atStart => exact ⟨0, _, by omega, rfl, hF⟩
    case round =>
      obtain ⟨j, v, hj, rfl, hF⟩ := hrel
      by_cases hjn : j < 4
      · go_wp2_with (first | ((first | (refine w_box rfl hF rfl ?_; clear hF; intro gN wN hF) | (refine w_alloc rfl hF ?_; clear hF; intro gN wN hF) | (refine w_ld1 rfl hF rfl ?_) | (refine w_ld rfl hF rfl ?_) | (refine w_st1 rfl hF rfl rfl ?_; clear hF; intro wN hF; (try simp only [List.set_cons_zero, List.set_cons_succ, List.eraseIdx_cons_zero, List.eraseIdx_cons_succ] at hF)) | (refine w_st rfl hF rfl rfl ?_; clear hF; intro wN hF; (try simp only [List.set_cons_zero, List.set_cons_succ, List.eraseIdx_cons_zero, List.eraseIdx_cons_succ] at hF)) | (refine w_fldB rfl rfl ?_) | (refine w_fld rfl hF rfl ?_) | (refine w_ix rfl hF rfl rfl ?_) | (refine w_lde1 rfl hF rfl ?_) | (refine w_lde rfl hF rfl ?_) | (refine w_bs1 rfl hF rfl ?_; clear hF; intro gN wN hF) | (refine w_bs0 rfl hF ?_; clear hF; intro gN wN hF) | (refine w_app rfl hF rfl rfl ?_; clear hF; intro vN wN hF; (try simp only [List.set_cons_zero, List.set_cons_succ, List.eraseIdx_cons_zero, List.eraseIdx_cons_succ] at hF)) | (refine w_appD rfl hF rfl rfl ?_; clear hF; intro vN wN hF; (try simp only [List.set_cons_zero, List.set_cons_succ, List.eraseIdx_cons_zero, List.eraseIdx_cons_succ] at hF)) | (refine w_ld1o rfl hF rfl ?_) | (refine w_st1o rfl hF rfl rfl ?_; clear hF; intro wN hF; (try simp only [List.set_cons_zero, List.set_cons_succ, List.eraseIdx_cons_zero, List.eraseIdx_cons_succ] at hF)) | (refine w_make0 rfl hF rfl rfl ?_; clear hF; intro gN wN hF) | (refine w_to rfl hF rfl rfl ?_; clear hF; intro hF) | (refine w_from rfl hF rfl rfl ?_; clear hF; intro hF)); (try simp only [Act.put, List.setIfInBounds_toArray, List.set_cons_zero, List.set_cons_succ, Nat.zero_add, Nat.zero_mul, Nat.reduceAdd])))
        go_roundw
        case rel => exact ⟨j + 1, _, by omega, by go_num, by rw [← csv_rep_succ]; exact hF⟩
        case measure => first | (simp [intOf]; done) | (simp [intOf]; omega)
      · obtain rfl : j = 4 := by omega
        obtain ⟨A', c', rfl, hF⟩ := hF.freeze 0 at0
        (try simp only [List.set_cons_zero, List.set_cons_succ, List.eraseIdx_cons_zero, List.eraseIdx_cons_succ] at hF)
        have hF := hF.elemNil 4
        go_wp2_with (first | ((first | (refine w_box rfl hF rfl ?_; clear hF; intro gN wN hF) | (refine w_alloc rfl hF ?_; clear hF; intro gN wN hF) | (refine w_ld1 rfl hF rfl ?_) | (refine w_ld rfl hF rfl ?_) | (refine w_st1 rfl hF rfl rfl ?_; clear hF; intro wN hF; (try simp only [List.set_cons_zero, List.set_cons_succ, List.eraseIdx_cons_zero, List.eraseIdx_cons_succ] at hF)) | (refine w_st rfl hF rfl rfl ?_; clear hF; intro wN hF; (try simp only [List.set_cons_zero, List.set_cons_succ, List.eraseIdx_cons_zero, List.eraseIdx_cons_succ] at hF)) | (refine w_fldB rfl rfl ?_) | (refine w_fld rfl hF rfl ?_) | (refine w_ix rfl hF rfl rfl ?_) | (refine w_lde1 rfl hF rfl ?_) | (refine w_lde rfl hF rfl ?_) | (refine w_bs1 rfl hF rfl ?_; clear hF; intro gN wN hF) | (refine w_bs0 rfl hF ?_; clear hF; intro gN wN hF) | (refine w_app rfl hF rfl rfl ?_; clear hF; intro vN wN hF; (try simp only [List.set_cons_zero, List.set_cons_succ, List.eraseIdx_cons_zero, List.eraseIdx_cons_succ] at hF)) | (refine w_appD rfl hF rfl rfl ?_; clear hF; intro vN wN hF; (try simp only [List.set_cons_zero, List.set_cons_succ, List.eraseIdx_cons_zero, List.eraseIdx_cons_succ] at hF)) | (refine w_ld1o rfl hF rfl ?_) | (refine w_st1o rfl hF rfl rfl ?_; clear hF; intro wN hF; (try simp only [List.set_cons_zero, List.set_cons_succ, List.eraseIdx_cons_zero, List.eraseIdx_cons_succ] at hF)) | (refine w_make0 rfl hF rfl rfl ?_; clear hF; intro gN wN hF) | (refine w_to rfl hF rfl rfl ?_; clear hF; intro hF) | (refine w_from rfl hF rfl rfl ?_; clear hF; intro hF)); (try simp only [Act.put, List.setIfInBounds_toArray, List.set_cons_zero, List.set_cons_succ, Nat.zero_add, Nat.zero_mul, Nat.reduceAdd])))
        ((try simp only [Exit.inBlock, Exit.then]); refine bodyPost_ret (w_resc rfl hF) rfl ?_)
        exact ⟨_, rfl, _, _, _, List.replicate 4 nilS, rfl, hF.outA, cont_rep 4⟩
  · go_loopw [7] (fun i wr => ∃ (j : Nat) (v : Value), j ≤ 4 ∧ i = .int .i64 (j : Int) ∧ St w [] wr [.own v 62 1 j (csv (List.replicate j nilS)), .blk gC 36 [.int .i64 2, v], .blk gR 36 [.int .i64 0, .slice none 0 0]] []) (fun i _ => 4 - (intOf i).toNat)
    case atStart => exact ⟨0, _, by omega, rfl, hF⟩
    case round =>
      obtain ⟨j, v, hj, rfl, hF⟩ := hrel
      by_cases hjn : j < 4
      · go_wp2_with (first | ((first | (refine w_box rfl hF rfl ?_; clear hF; intro gN wN hF) | (refine w_alloc rfl hF ?_; clear hF; intro gN wN hF) | (refine w_ld1 rfl hF rfl ?_) | (refine w_ld rfl hF rfl ?_) | (refine w_st1 rfl hF rfl rfl ?_; clear hF; intro wN hF; (try simp only [List.set_cons_zero, List.set_cons_succ, List.eraseIdx_cons_zero, List.eraseIdx_cons_succ] at hF)) | (refine w_st rfl hF rfl rfl ?_; clear hF; intro wN hF; (try simp only [List.set_cons_zero, List.set_cons_succ, List.eraseIdx_cons_zero, List.eraseIdx_cons_succ] at hF)) | (refine w_fldB rfl rfl ?_) | (refine w_fld rfl hF rfl ?_) | (refine w_ix rfl hF rfl rfl ?_) | (refine w_lde1 rfl hF rfl ?_) | (refine w_lde rfl hF rfl ?_) | (refine w_bs1 rfl hF rfl ?_; clear hF; intro gN wN hF) | (refine w_bs0 rfl hF ?_; clear hF; intro gN wN hF) | (refine w_app rfl hF rfl rfl ?_; clear hF; intro vN wN hF; (try simp only [List.set_cons_zero, List.set_cons_succ, List.eraseIdx_cons_zero, List.eraseIdx_cons_succ] at hF)) | (refine w_appD rfl hF rfl rfl ?_; clear hF; intro vN wN hF; (try simp only [List.set_cons_zero, List.set_cons_succ, List.eraseIdx_cons_zero, List.eraseIdx_cons_succ] at hF)) | (refine w_ld1o rfl hF rfl ?_) | (refine w_st1o rfl hF rfl rfl ?_; clear hF; intro wN hF; (try simp only [List.set_cons_zero, List.set_cons_succ, List.eraseIdx_cons_zero, List.eraseIdx_cons_succ] at hF)) | (refine w_make0 rfl hF rfl rfl ?_; clear hF; intro gN wN hF) | (refine w_to rfl hF rfl rfl ?_; clear hF; intro hF) | (refine w_from rfl hF rfl rfl ?_; clear hF; intro hF)); (try simp only [Act.put, List.setIfInBounds_toArray, List.set_cons_zero, List.set_cons_succ, Nat.zero_add, Nat.zero_mul, Nat.reduceAdd])))
        go_roundw
        case rel => exact ⟨j + 1, _, by omega, by go_num, by rw [← csv_rep_succ]; exact hF⟩
        case measure => first | (simp [intOf]; done) | (simp [intOf]; omega)
      · obtain rfl : j = 4 := by omega
        obtain ⟨A', c', rfl, hF⟩ := hF.freeze 0 at0
        (try simp only [List.set_cons_zero, List.set_cons_succ, List.eraseIdx_cons_zero, List.eraseIdx_cons_succ] at hF)
        have hF := hF.elemNil 4
        go_wp2_with (first | ((first | (refine w_box rfl hF rfl ?_; clear hF; intro gN wN hF) | (refine w_alloc rfl hF ?_; clear hF; intro gN wN hF) | (refine w_ld1 rfl hF rfl ?_) | (refine w_ld rfl hF rfl ?_) | (refine w_st1 rfl hF rfl rfl ?_; clear hF; intro wN hF; (try simp only [List.set_cons_zero, List.set_cons_succ, List.eraseIdx_cons_zero, List.eraseIdx_cons_succ] at hF)) | (refine w_st rfl hF rfl rfl ?_; clear hF; intro wN hF; (try simp only [List.set_cons_zero, List.set_cons_succ, List.eraseIdx_cons_zero, List.eraseIdx_cons_succ] at hF)) | (refine w_fldB rfl rfl ?_) | (refine w_fld rfl hF rfl ?_) | (refine w_ix rfl hF rfl rfl ?_) | (refine w_lde1 rfl hF rfl ?_) | (refine w_lde rfl hF rfl ?_) | (refine w_bs1 rfl hF rfl ?_; clear hF; intro gN wN hF) | (refine w_bs0 rfl hF ?_; clear hF; intro gN wN hF) | (refine w_app rfl hF rfl rfl ?_; clear hF; intro vN wN hF; (try simp only [List.set_cons_zero, List.set_cons_succ, List.eraseIdx_cons_zero, List.eraseIdx_cons_succ] at hF)) | (refine w_appD rfl hF rfl rfl ?_; clear hF; intro vN wN hF; (try simp only [List.set_cons_zero, List.set_cons_succ, List.eraseIdx_cons_zero, List.eraseIdx_cons_succ] at hF)) | (refine w_ld1o rfl hF rfl ?_) | (refine w_st1o rfl hF rfl rfl ?_; clear hF; intro wN hF; (try simp only [List.set_cons_zero, List.set_cons_succ, List.eraseIdx_cons_zero, List.eraseIdx_cons_succ] at hF)) | (refine w_make0 rfl hF rfl rfl ?_; clear hF; intro gN wN hF) | (refine w_to rfl hF rfl rfl ?_; clear hF; intro hF) | (refine w_from rfl hF rfl rfl ?_; clear hF; intro hF)); (try simp only [Act.put, List.setIfInBounds_toArray, List.set_cons_zero, List.set_cons_succ, Nat.zero_add, Nat.zero_mul, Nat.reduceAdd])))
        ((try simp only [Exit.inBlock, Exit.then]); refine bodyPost_ret (w_resc rfl hF) rfl ?_)
        exact ⟨_, rfl, _, _, _, List.replicate 4 nilS, rfl, hF.outA, cont_rep 4⟩
theorem refNew_all (sets ways : Int) (w : World) :
    Calls Try.prog 37 #[.int .i64 sets, .int .i64 ways] w fun e w' => ∃ x, e = .returned x ∧ CRes w [] (newW ways) x w' (List.replicate (newN sets) []) := by
  refine refNew_core sets ways (newW ways) (newN sets) w ?_ ?_
  · unfold newN
    by_cases h1 : sets < 2
    · simp only [if_pos h1]; first | omega | (simp; done) | (simp; omega)
    · simp only [if_neg h1]
      by_cases h5 : sets < 4
      · simp only [if_pos h5]; first | omega | (simp; done) | (simp; omega)
      · simp only [if_neg h5]; first | omega | (simp; done) | (simp; omega)
  · unfold newW
    split <;> omega
end Go.Proofs.Ytcahadkkjfijfaa

/- CacheLast in plain Lean: the lines that were touched, the last one first, and what stands in each set. -/
set_option linter.unusedVariables false
set_option linter.unusedSimpArgs false
namespace Go.Proofs.Ytcahadkkjfijfaa
open Go.RowKit

/-- the lines of a set -/
def inS (n k : Nat) (x : Nat) : Bool := decide (x / 16 % n = k)
def moveL (l : Nat) (L : List Nat) : List Nat := l :: L.filter (fun x => decide (x ≠ l))
/-- what stands in the sets is what was touched -/
structure LastP (ways : Int) (C : List (List Wy)) (L : List Nat) : Prop where
  right : RightP ways C
  lines : ∀ k ws, C[k]? = some ws → ws.map Wy.line = L.filter (inS C.length k)
  ok : ∀ x ∈ L, x < 4294967296 ∧ x % 16 = 0
section
variable {ways : Int} {C C' : List (List Wy)} {L : List Nat} {l x k i : Nat} {ws : List Wy}
theorem move_ok (h : ∀ x ∈ L, x < 4294967296 ∧ x % 16 = 0) (hl : l < 4294967296) (h16 : l % 16 = 0) : ∀ x ∈ moveL l L, x < 4294967296 ∧ x % 16 = 0 := fun x hx => by
  rcases List.mem_cons.1 hx with rfl | hx
  · exact ⟨hl, h16⟩
  · exact h x (List.mem_filter.1 hx).1
theorem move_len : (moveL l L).length ≤ L.length + 1 := by
  unfold moveL
  have := List.length_filter_le (fun x => decide (x ≠ l)) L
  simp only [List.length_cons]
  omega
theorem filter_comm (P Q : Nat → Bool) (L : List Nat) : (L.filter P).filter Q = (L.filter Q).filter P := by
  rw [List.filter_filter, List.filter_filter]
  congr 1
  funext a
  exact Bool.and_comm ..
theorem move_same {P : Nat → Bool} (h : P l = true) : (moveL l L).filter P = l :: (L.filter P).filter (fun x => decide (x ≠ l)) := by
  unfold moveL
  rw [List.filter_cons, if_pos h, filter_comm]
theorem filter_ne_self {M : List Nat} (h : l ∉ M) : M.filter (fun x => decide (x ≠ l)) = M := by
  rw [List.filter_eq_self]
  intro x hx
  have : x ≠ l := fun e => h (e ▸ hx)
  simpa using this
theorem move_other {P : Nat → Bool} (h : P l = false) : (moveL l L).filter P = L.filter P := by
  unfold moveL
  rw [List.filter_cons, if_neg (by rw [h]; simp), filter_comm]
  exact filter_ne_self fun hm => by rw [(List.mem_filter.1 hm).2] at h; cases h
theorem drop_other {P : Nat → Bool} (h : P l = false) : (L.filter (fun x => decide (x ≠ l))).filter P = L.filter P := by
  rw [filter_comm]
  exact filter_ne_self fun hm => by rw [(List.mem_filter.1 hm).2] at h; cases h
theorem map_filter_line (ws : List Wy) (l : Nat) : (ws.filter fun x => decide (x.line ≠ l)).map Wy.line = (ws.map Wy.line).filter (fun x => decide (x ≠ l)) := by
  rw [List.filter_map]; rfl
theorem frontL_lines (h : Lone ws) {v u : Wy} (hv : ws[i]? = some v) (hl : v.line = l) (hu : u.line = l) : (frontL ws i u).map Wy.line = l :: (ws.map Wy.line).filter (fun x => decide (x ≠ l)) := by
  unfold frontL
  rw [List.map_cons, hu, ← filter_lone h ⟨hv, hl⟩, map_filter_line]
/-- a set that is put in another's place -/
theorem LastP.set (hR : RightP ways (C.set k ws)) {L' : List Nat} (h : LastP ways C L) (hk : ws.map Wy.line = L'.filter (inS C.length k)) (ho : ∀ j, j ≠ k → L'.filter (inS C.length j) = L.filter (inS C.length j)) (hok : ∀ x ∈ L', x < 4294967296 ∧ x % 16 = 0) : LastP ways (C.set k ws) L' := by
  refine ⟨hR, fun j us hj => ?_, hok⟩
  rw [List.length_set]
  by_cases e : j = k
  · subst e
    have hlt : j < C.length := by have := (List.getElem?_eq_some_iff.1 hj).1; rwa [List.length_set] at this
    rw [List.getElem?_set_self hlt] at hj
    injection hj with hj
    rw [← hj, hk]
  · rw [List.getElem?_set_ne (fun h => e h.symm)] at hj
    rw [h.lines j us hj, ho j e]
theorem inS_self (n : Nat) : inS n (l / 16 % n) l = true := by simp [inS]
theorem inS_other {n j : Nat} (h : j ≠ l / 16 % n) : inS n j l = false := by simp [inS]; exact fun e => h e.symm
/-- a line that is touched, being there or new: its set begins with it -/
theorem LastP.touched (h : LastP ways C L) (hl : l < 4294967296) (h16 : l % 16 = 0) (hk : l / 16 % C.length = k) (hR : RightP ways (C.set k ws)) {us : List Wy} (hus : C[k]? = some us) (hw : ws.map Wy.line = l :: (us.map Wy.line).filter (fun x => decide (x ≠ l))) : LastP ways (C.set k ws) (moveL l L) := by
  subst hk
  refine h.set hR ?_ (fun j hj => move_other (inS_other hj)) (move_ok h.ok hl h16)
  rw [hw, move_same (inS_self _), h.lines _ us hus]
/-- the lines of its set say whether a line is there -/
theorem LastP.there (h : LastP ways C L) (h16 : l % 16 = 0) {b : Bool} (hf : FindR ways C l k i b) : b = decide (l ∈ L) := by
  obtain ⟨hk, ws, hw, _, hs⟩ := hf.set_ h.right
  have hll : l - l % 16 = l := by omega
  rw [hll] at hs
  have hm := h.lines k ws hw
  have hiff : l ∈ L ↔ ∃ v ∈ ws, v.line = l := by
    constructor
    · intro hl
      have : l ∈ ws.map Wy.line := by rw [hm]; exact List.mem_filter.2 ⟨hl, by rw [← hk]; exact inS_self _⟩
      obtain ⟨v, hv, e⟩ := List.mem_map.1 this
      exact ⟨v, hv, e⟩
    · rintro ⟨v, hv, e⟩
      have : l ∈ ws.map Wy.line := e ▸ List.mem_map_of_mem hv
      rw [hm] at this
      exact (List.mem_filter.1 this).1
  rcases hs with ⟨rfl, v, ha, _⟩ | ⟨rfl, _, hn⟩
  · exact (decide_eq_true (hiff.2 ⟨v, List.mem_of_getElem? ha.is, ha.line⟩)).symm
  · exact (decide_eq_false (fun hl => by obtain ⟨v, hv, e⟩ := hiff.1 hl; exact hn v hv e)).symm
theorem LastP.touch (h : LastP ways C L) (hl : l < 4294967296) (h16 : l % 16 = 0) (ht : TouchR ways C l C') : LastP ways C' (if l ∈ L then moveL l L else L) := by
  have hR' := ht.right h.right
  cases ht with
  | no k i hf he =>
    subst he
    have := h.there h16 hf
    rw [if_neg (by simpa using this.symm)]
    exact h
  | yes k i hf ws v hw hv he =>
    subst he
    have := h.there h16 hf
    rw [if_pos (by simpa using this.symm)]
    obtain ⟨_, hk, ws', v', hw', hv', hvl, _⟩ := hf.at_
    rw [hw] at hw'; injection hw' with hw'; subst hw'
    rw [hv] at hv'; injection hv' with hv'; subst hv'
    have hvl' : v.line = l := by omega
    exact h.touched hl h16 hk hR' hw (frontL_lines (hf.lone hw) hv hvl' hvl')
theorem WriteR.right' {bytes : ByteArray} {ok : Bool} (h : WriteR ways C x bytes C' ok) (hR : RightP ways C) : RightP ways C' := by
  cases h with
  | no k i h he hb => rw [he]; exact hR
  | bad k i h ws v hw hv hd he hb => rw [he]; exact hR
  | yes k i h ws v hw hv hd hf he hb =>
    subst he
    refine hR.set_ (frontL_ok (hR.hs k ws hw) hv rfl (.inr ?_))
    show (putB v.data (x % 16) bytes).size = 16
    rw [putB_size (by rw [hd]; exact hf), hd]
theorem LastP.write (h : LastP ways C L) (hx : x < 4294967296) {bytes : ByteArray} {ok : Bool} (hw : WriteR ways C x bytes C' ok) :
    (ok = true → (x - x % 16) ∈ L) ∧ LastP ways C' (if ok = true then moveL (x - x % 16) L else L) := by
  have hR' := hw.right' h.right
  have h16 : (x - x % 16) % 16 = 0 := by omega
  cases hw with
  | no k i hf he hb => subst he hb; exact ⟨fun h => (by cases h), h⟩
  | bad k i hf ws v hw hv hd he hb => subst he hb; exact ⟨fun h => (by cases h), h⟩
  | yes k i hf ws v hw hv hd hfit he hb =>
    subst he hb
    have := h.there h16 hf.line
    refine ⟨fun _ => by simpa using this.symm, ?_⟩
    rw [if_pos rfl]
    obtain ⟨_, hk, ws', v', hw', hv', hvl, _⟩ := hf.at_
    rw [hw] at hw'; injection hw' with hw'; subst hw'
    rw [hv] at hv'; injection hv' with hv'; subst hv'
    exact h.touched (by omega) h16 (by rw [← hk]; congr 1; omega) hR' hw (frontL_lines (hf.lone hw) hv hvl hvl)
/-- what had to go, and what the lines are then -/
theorem LastP.put (h : LastP ways C L) (hl : l < 4294967296) (h16 : l % 16 = 0) {data : ByteArray} {dirty : Bool} {gone : Wy} {went : Bool} (hp : PutR ways C l data dirty C' gone went) :
    went = (!(decide (l ∈ L)) && decide (((L.filter (inS C.length (l / 16 % C.length))).length : Int) = ways)) ∧
    (went = true → (L.filter (inS C.length (l / 16 % C.length))).getLast? = some gone.line) ∧
    LastP ways C' (moveL l (if went = true then L.filter (fun x => decide (x ≠ gone.line)) else L)) := by
  have hR' := hp.right h.right
  have hll : l - l % 16 = l := by omega
  cases hp with
  | no hn he hg hb => exact absurd h.right hn
  | hit k i hf ws v hw hv he hg hb =>
    subst he hb
    have := h.there h16 hf
    obtain ⟨_, hk, ws', v', hw', hv', hvl, _⟩ := hf.at_
    rw [hw] at hw'; injection hw' with hw'; subst hw'
    rw [hv] at hv'; injection hv' with hv'; subst hv'
    have hvl' : v.line = l := by omega
    refine ⟨by rw [← this]; rfl, fun h => (by cases h), ?_⟩
    rw [if_neg Bool.false_ne_true]
    exact h.touched hl h16 hk hR' hw (frontL_lines (u := ⟨v.line, v.dirty || dirty, if data.size = 16 then data else v.data⟩) (hf.lone hw) hv hvl' hvl')
  | room k i hR hf ws hw hlen he hg hb =>
    subst he hb
    have ht := h.there h16 hf
    obtain ⟨hk, ws', hw', _, hs⟩ := hf.set_ h.right
    rw [hw] at hw'; injection hw' with hw'; subst hw'
    have hm := h.lines k ws hw
    have hni := hf.notIn h.right hw
    rw [hll] at hni
    refine ⟨?_, fun h => (by cases h), ?_⟩
    · rw [← ht, hk, ← hm, List.length_map, decide_eq_false (by omega)]; rfl
    · rw [if_neg Bool.false_ne_true]
      refine h.touched hl h16 hk hR' hw ?_
      rw [List.map_cons, hll, filter_ne_self]
      intro hmem
      obtain ⟨v, hv, e⟩ := List.mem_map.1 hmem
      exact hni v hv e
  | full k i hR hf ws hw hlen p hl1 hgv he hb =>
    subst he hb
    have ht := h.there h16 hf
    obtain ⟨hk, ws', hw', _, hs⟩ := hf.set_ h.right
    rw [hw] at hw'; injection hw' with hw'; subst hw'
    have hm := h.lines k ws hw
    have hni := hf.notIn h.right hw
    rw [hll] at hni
    have hlone := (h.right.hs k ws hw).lone
    have hsplit : ws = ws.take p ++ [gone] := by
      have := split_at hgv
      rwa [List.drop_of_length_le (by omega)] at this
    have hlast : (ws.map Wy.line).getLast? = some gone.line := by
      rw [List.getLast?_eq_getElem?, List.length_map, List.getElem?_map, hl1, Nat.add_sub_cancel, hgv]; rfl
    refine ⟨?_, fun _ => by rw [hk, ← hm]; exact hlast, ?_⟩
    · rw [← ht, hk, ← hm, List.length_map, decide_eq_true (by omega)]; rfl
    · rw [if_pos rfl]
      have hgk : inS C.length k gone.line = true := by
        have : gone.line ∈ L.filter (inS C.length k) := by rw [← hm]; exact List.mem_map_of_mem (List.mem_of_getElem? hgv)
        exact (List.mem_filter.1 this).2
      have hgo : ∀ j, j ≠ k → inS C.length j gone.line = false := fun j hj => by
        unfold inS at hgk ⊢
        simp only [decide_eq_true_eq, decide_eq_false_iff_not] at hgk ⊢
        exact fun e => hj (e.symm.trans hgk)
      subst hk
      refine h.set hR' ?_ (fun j hj => ?_) (move_ok (fun x hx => h.ok x (List.mem_filter.1 hx).1) hl h16)
      · rw [List.map_cons, hll, move_same (inS_self _), filter_comm (fun x => decide (x ≠ gone.line)), ← hm]
        have e1 : (ws.map Wy.line).filter (fun x => decide (x ≠ gone.line)) = (ws.take p).map Wy.line := by
          rw [← map_filter_line, filter_lone hlone ⟨hgv, rfl⟩, List.drop_of_length_le (by omega), List.append_nil]
        rw [e1, filter_ne_self]
        intro hmem
        obtain ⟨v, hv, e⟩ := List.mem_map.1 hmem
        exact hni v (List.mem_of_mem_take hv) e
      · rw [move_other (inS_other hj), drop_other (hgo j hj)]
theorem moveL_drop (g : Nat) (L : List Nat) : (moveL g L).drop 1 = L.filter (fun x => decide (x ≠ g)) := rfl
theorem last_start (n : Nat) (hR : RightP ways (List.replicate n [])) : LastP ways (List.replicate n []) [] :=
  ⟨hR, fun k ws hk => by
    obtain ⟨_, e⟩ := List.getElem?_eq_some_iff.1 hk
    rw [List.getElem_replicate] at e
    rw [← e]; rfl, fun x hx => by cases hx⟩
theorem right_new (sets ways : Int) : RightP (newW ways) (List.replicate (newN sets) []) := by
  refine ⟨?_, ?_, fun k s hk => ?_⟩
  · rw [List.length_replicate]; unfold newN; split
    · exact .inl rfl
    · split
      · exact .inr (.inl rfl)
      · exact .inr (.inr rfl)
  · unfold newW; split
    · exact .inl rfl
    · exact .inr rfl
  · obtain ⟨_, e⟩ := List.getElem?_eq_some_iff.1 hk
    rw [List.getElem_replicate] at e
    rw [← e]
    exact ⟨by unfold newW; split <;> simp, fun i v hv => by simp at hv⟩
end
end Go.Proofs.Ytcahadkkjfijfaa

/- CacheLast's closure 'move': it stores a new row into the variable that it captured. -/
set_option linter.unusedVariables false
set_option linter.unusedSimpArgs false
set_option maxRecDepth 100000
namespace Go.Proofs.Ytcahadkkjfijfaa
open Go.RowKit Go.Sort

theorem u32v_one (l : List Nat) : ∀ u ∈ u32v l, u.oneCell' = true := fun u hu => by
  obtain ⟨x, _, rfl⟩ := List.mem_map.1 hu
  rfl
instance u32vOne (l : List Nat) : OneC (u32v l) := ⟨u32v_one l⟩
theorem u32v_el {l : List Nat} {k x : Nat} (h : l[k]? = some x) : (u32v l)[k * 1]? = some (.int .u32 (x : Int)) := by rw [Nat.mul_one]; simp [u32v, h]
theorem u32v_append (a b : List Nat) : u32v (a ++ b) = u32v a ++ u32v b := by simp [u32v]
theorem Rd.u32len {w : World} {B n c : Nat} {A : Option Addr} {l : List Nat} (h : Rd w B 1 A n c (u32v l)) : l.length = n := by
  have := h.len; rw [u32v_len] at this; omega
set_option maxHeartbeats 4000000 in
theorem move_any {g9 : Nat} {A : Option Addr} {n c x : Nat} {L : List Nat} {w : World} (hb9 : Bk w g9 66 [.slice A n c]) (hr : Rd w w.heap.size 1 A n c (u32v L)) (hn : n ≤ 1000000) :
    Calls Try.prog 46 #[.int .u32 (x : Int), .pointer (some ⟨g9, 0, none⟩)] w fun e w' => (∃ y, e = .returned y) ∧ ∃ v w1, Bel w w1 ∧ w1.ownsRow w.heap.size 22 1 v (moveL x L).length (u32v (moveL x L)) ∧ w' = w1.setCell ⟨g9, 0, none⟩ v := by
  have hF := St.start w [rowD 1 A n c (u32v L)] (fun d hd => by obtain rfl := List.mem_singleton.1 hd; exact hr)
  have hl := hr.u32len
  have c9 := hb9.cell 0
  have f9 := hb9.frozen (i := 0) (by simp)
  have hlt := hb9.lt
  dsimp only [List.getElem?_cons_zero] at c9
  clear hb9
  go_enter Try.func46, Try.ntmps46
  go_upto_region 1 with (first | ((first | (refine w_box rfl hF rfl ?_; clear hF; intro gN wN hF) | (refine w_alloc rfl hF ?_; clear hF; intro gN wN hF) | (refine w_ld1 rfl hF rfl ?_) | (refine w_ld rfl hF rfl ?_) | (refine w_st1 rfl hF rfl rfl ?_; clear hF; intro wN hF; (try simp only [List.set_cons_zero, List.set_cons_succ, List.eraseIdx_cons_zero, List.eraseIdx_cons_succ] at hF)) | (refine w_st rfl hF rfl rfl ?_; clear hF; intro wN hF; (try simp only [List.set_cons_zero, List.set_cons_succ, List.eraseIdx_cons_zero, List.eraseIdx_cons_succ] at hF)) | (refine w_fldB rfl rfl ?_) | (refine w_fld rfl hF rfl ?_) | (refine w_ix rfl hF rfl rfl ?_) | (refine w_lde1 rfl hF rfl ?_) | (refine w_lde rfl hF rfl ?_) | (refine w_bs1 rfl hF rfl ?_; clear hF; intro gN wN hF) | (refine w_bs0 rfl hF ?_; clear hF; intro gN wN hF) | (refine w_app rfl hF rfl rfl ?_; clear hF; intro vN wN hF; (try simp only [List.set_cons_zero, List.set_cons_succ, List.eraseIdx_cons_zero, List.eraseIdx_cons_succ] at hF)) | (refine w_appD rfl hF rfl rfl ?_; clear hF; intro vN wN hF; (try simp only [List.set_cons_zero, List.set_cons_succ, List.eraseIdx_cons_zero, List.eraseIdx_cons_succ] at hF)) | (refine w_ld1o rfl hF rfl ?_) | (refine w_st1o rfl hF rfl rfl ?_; clear hF; intro wN hF; (try simp only [List.set_cons_zero, List.set_cons_succ, List.eraseIdx_cons_zero, List.eraseIdx_cons_succ] at hF)) | (refine w_make0 rfl hF rfl rfl ?_; clear hF; intro gN wN hF) | (refine w_to rfl hF rfl rfl ?_; clear hF; intro hF) | (refine w_from rfl hF rfl rfl ?_; clear hF; intro hF)); (try simp only [Act.put, List.setIfInBounds_toArray, List.set_cons_zero, List.set_cons_succ, Nat.zero_add, Nat.zero_mul, Nat.reduceAdd])))
  have c9 := hF.bel.cell_of c9
  go_wp2_with (first | ((first | (refine w_box rfl hF rfl ?_; clear hF; intro gN wN hF) | (refine w_alloc rfl hF ?_; clear hF; intro gN wN hF) | (refine w_ld1 rfl hF rfl ?_) | (refine w_ld rfl hF rfl ?_) | (refine w_st1 rfl hF rfl rfl ?_; clear hF; intro wN hF; (try simp only [List.set_cons_zero, List.set_cons_succ, List.eraseIdx_cons_zero, List.eraseIdx_cons_succ] at hF)) | (refine w_st rfl hF rfl rfl ?_; clear hF; intro wN hF; (try simp only [List.set_cons_zero, List.set_cons_succ, List.eraseIdx_cons_zero, List.eraseIdx_cons_succ] at hF)) | (refine w_fldB rfl rfl ?_) | (refine w_fld rfl hF rfl ?_) | (refine w_ix rfl hF rfl rfl ?_) | (refine w_lde1 rfl hF rfl ?_) | (refine w_lde rfl hF rfl ?_) | (refine w_bs1 rfl hF rfl ?_; clear hF; intro gN wN hF) | (refine w_bs0 rfl hF ?_; clear hF; intro gN wN hF) | (refine w_app rfl hF rfl rfl ?_; clear hF; intro vN wN hF; (try simp only [List.set_cons_zero, List.set_cons_succ, List.eraseIdx_cons_zero, List.eraseIdx_cons_succ] at hF)) | (refine w_appD rfl hF rfl rfl ?_; clear hF; intro vN wN hF; (try simp only [List.set_cons_zero, List.set_cons_succ, List.eraseIdx_cons_zero, List.eraseIdx_cons_succ] at hF)) | (refine w_ld1o rfl hF rfl ?_) | (refine w_st1o rfl hF rfl rfl ?_; clear hF; intro wN hF; (try simp only [List.set_cons_zero, List.set_cons_succ, List.eraseIdx_cons_zero, List.eraseIdx_cons_succ] at hF)) | (refine w_make0 rfl hF rfl rfl ?_; clear hF; intro gN wN hF) | (refine w_to rfl hF rfl rfl ?_; clear hF; intro hF) | (refine w_from rfl hF rfl rfl ?_; clear hF; intro hF)); (try simp only [Act.put, List.setIfInBounds_toArray, List.set_cons_zero, List.set_cons_succ, Nat.zero_add, Nat.zero_mul, Nat.reduceAdd])))
  go_loopw [10, 3] (fun ix v wr => ∃ (k N : Nat), k ≤ n ∧ N ≤ k + 1 ∧ ix = .int .i64 (k : Int) ∧ N = (moveL x (L.take k)).length ∧ St w [rowD 1 A n c (u32v L)] wr [.own v 22 1 N (u32v (moveL x (L.take k)))] [rowD 1 A n c (u32v L)]) (fun ix _ _ => n - (intOf ix).toNat)
  case atStart => exact ⟨0, 1, by omega, by omega, rfl, rfl, hF⟩
  case round =>
    obtain ⟨k, N, hk, hN, rfl, hNl, hF⟩ := hrel
    by_cases hkn : k < n
    · obtain ⟨y, hy⟩ : ∃ y, L[k]? = some y := ⟨_, List.getElem?_eq_getElem (by omega)⟩
      have hv := u32v_el hy
      have htk : L.take (k + 1) = L.take k ++ [y] := by rw [List.take_add_one, hy]; rfl
      by_cases hyx : (y : Int) = (x : Int)
      · have hyx' : y = x := by omega
        have hno : moveL x (L.take (k + 1)) = moveL x (L.take k) := by
          unfold moveL; rw [htk, List.filter_append]; simp [hyx']
        replace hno := Lib.hid hno
        replace hNl := Lib.hid hNl
        clear htk hy
        subst hyx'
        go_wp2_with (first | ((first | (refine w_box rfl hF rfl ?_; clear hF; intro gN wN hF) | (refine w_alloc rfl hF ?_; clear hF; intro gN wN hF) | (refine w_ld1 rfl hF rfl ?_) | (refine w_ld rfl hF rfl ?_) | (refine w_st1 rfl hF rfl rfl ?_; clear hF; intro wN hF; (try simp only [List.set_cons_zero, List.set_cons_succ, List.eraseIdx_cons_zero, List.eraseIdx_cons_succ] at hF)) | (refine w_st rfl hF rfl rfl ?_; clear hF; intro wN hF; (try simp only [List.set_cons_zero, List.set_cons_succ, List.eraseIdx_cons_zero, List.eraseIdx_cons_succ] at hF)) | (refine w_fldB rfl rfl ?_) | (refine w_fld rfl hF rfl ?_) | (refine w_ix rfl hF rfl rfl ?_) | (refine w_lde1 rfl hF rfl ?_) | (refine w_lde rfl hF rfl ?_) | (refine w_bs1 rfl hF rfl ?_; clear hF; intro gN wN hF) | (refine w_bs0 rfl hF ?_; clear hF; intro gN wN hF) | (refine w_app rfl hF rfl rfl ?_; clear hF; intro vN wN hF; (try simp only [List.set_cons_zero, List.set_cons_succ, List.eraseIdx_cons_zero, List.eraseIdx_cons_succ] at hF)) | (refine w_appD rfl hF rfl rfl ?_; clear hF; intro vN wN hF; (try simp only [List.set_cons_zero, List.set_cons_succ, List.eraseIdx_cons_zero, List.eraseIdx_cons_succ] at hF)) | (refine w_ld1o rfl hF rfl ?_) | (refine w_st1o rfl hF rfl rfl ?_; clear hF; intro wN hF; (try simp only [List.set_cons_zero, List.set_cons_succ, List.eraseIdx_cons_zero, List.eraseIdx_cons_succ] at hF)) | (refine w_make0 rfl hF rfl rfl ?_; clear hF; intro gN wN hF) | (refine w_to rfl hF rfl rfl ?_; clear hF; intro hF) | (refine w_from rfl hF rfl rfl ?_; clear hF; intro hF)); (try simp only [Act.put, List.setIfInBounds_toArray, List.set_cons_zero, List.set_cons_succ, Nat.zero_add, Nat.zero_mul, Nat.reduceAdd])))
        go_roundw
        case rel => exact ⟨k + 1, N, by omega, by omega, by go_num, by rw [hno.out]; exact hNl.out, by rw [hno.out]; exact hF⟩
        case measure => first | (simp [intOf]; done) | (simp [intOf]; omega)
      · have hyes : moveL x (L.take (k + 1)) = moveL x (L.take k) ++ [y] := by
          unfold moveL; rw [htk, List.filter_append, List.filter_cons, if_pos (by simp; omega)]; rfl
        have happ : Hid (u32v (moveL x (L.take k)) ++ [.int .u32 (y : Int)] = u32v (moveL x (L.take (k + 1)))) := Lib.hid (by rw [hyes, u32v_append]; rfl)
        have hNl2 := Lib.hid (show N + 1 = (moveL x (L.take (k + 1))).length by rw [hyes, List.length_append, ← hNl]; rfl)
        clear htk hy hyes hNl
        go_wp2_with (first | ((refine w_neqT rfl rfl rfl ?_); (try simp only [Act.put, List.setIfInBounds_toArray, List.set_cons_zero, List.set_cons_succ, Nat.zero_add, Nat.zero_mul, Nat.reduceAdd])) | ((first | (refine w_box rfl hF rfl ?_; clear hF; intro gN wN hF) | (refine w_alloc rfl hF ?_; clear hF; intro gN wN hF) | (refine w_ld1 rfl hF rfl ?_) | (refine w_ld rfl hF rfl ?_) | (refine w_st1 rfl hF rfl rfl ?_; clear hF; intro wN hF; (try simp only [List.set_cons_zero, List.set_cons_succ, List.eraseIdx_cons_zero, List.eraseIdx_cons_succ] at hF)) | (refine w_st rfl hF rfl rfl ?_; clear hF; intro wN hF; (try simp only [List.set_cons_zero, List.set_cons_succ, List.eraseIdx_cons_zero, List.eraseIdx_cons_succ] at hF)) | (refine w_fldB rfl rfl ?_) | (refine w_fld rfl hF rfl ?_) | (refine w_ix rfl hF rfl rfl ?_) | (refine w_lde1 rfl hF rfl ?_) | (refine w_lde rfl hF rfl ?_) | (refine w_bs1 rfl hF rfl ?_; clear hF; intro gN wN hF) | (refine w_bs0 rfl hF ?_; clear hF; intro gN wN hF) | (refine w_app rfl hF rfl rfl ?_; clear hF; intro vN wN hF; (try simp only [List.set_cons_zero, List.set_cons_succ, List.eraseIdx_cons_zero, List.eraseIdx_cons_succ] at hF)) | (refine w_appD rfl hF rfl rfl ?_; clear hF; intro vN wN hF; (try simp only [List.set_cons_zero, List.set_cons_succ, List.eraseIdx_cons_zero, List.eraseIdx_cons_succ] at hF)) | (refine w_ld1o rfl hF rfl ?_) | (refine w_st1o rfl hF rfl rfl ?_; clear hF; intro wN hF; (try simp only [List.set_cons_zero, List.set_cons_succ, List.eraseIdx_cons_zero, List.eraseIdx_cons_succ] at hF)) | (refine w_make0 rfl hF rfl rfl ?_; clear hF; intro gN wN hF) | (refine w_to rfl hF rfl rfl ?_; clear hF; intro hF) | (refine w_from rfl hF rfl rfl ?_; clear hF; intro hF)); (try simp only [Act.put, List.setIfInBounds_toArray, List.set_cons_zero, List.set_cons_succ, Nat.zero_add, Nat.zero_mul, Nat.reduceAdd])))
        go_roundw
        case rel => exact ⟨k + 1, N + 1, by omega, by omega, by go_num, hNl2.out, by rw [← happ.out]; exact hF⟩
        case measure => first | (simp [intOf]; done) | (simp [intOf]; omega)
    · obtain rfl : k = n := by omega
      rw [List.take_of_length_le (by omega)] at hF hNl
      have ho := hF.ownAt at0
      obtain ⟨A2, c2, rfl, hr2⟩ := Rd.of_own ho
      have hb := hF.bel
      have c9' := hb.cell_of (by assumption : w.cell? ⟨g9, 0, none⟩ = _)
      have f9' := (hb.frozen (p := ⟨g9, 0, none⟩) hlt).trans f9
      subst hNl
      replace ho := Lib.hid ho
      replace hb := Lib.hid hb
      clear hr2
      go_wp2_with fail
      go_end0
      exact ⟨⟨_, rfl⟩, _, _, hb.out, ho.out, rfl⟩
end Go.Proofs.Ytcahadkkjfijfaa
