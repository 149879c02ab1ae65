/- Arguments of type api.Inst, and slices of it, opened to what the walks ask. -/
import Derived.Test.YtbfllafbklfcjaaInst
import Derived.ProofKit
import Derived.OpenShut
import Derived.Deep.Slices
import Derived.Deep.Fields
set_option linter.unusedVariables false
set_option linter.unusedSimpArgs false
set_option maxRecDepth 100000
namespace Go.Proofs.Ytbfllafbklfcjaa
open Go.RowKit Go.ChangeShapes Go.WideShapes Go.ChangeAt Go.Deep

def InsOk (r : Ins) : Prop := (-9223372036854775808 ≤ r.op ∧ r.op ≤ 9223372036854775807) ∧ (-9223372036854775808 ≤ r.rd ∧ r.rd ≤ 9223372036854775807) ∧ (-9223372036854775808 ≤ r.rs1 ∧ r.rs1 ≤ 9223372036854775807) ∧ (-9223372036854775808 ≤ r.rs2 ∧ r.rs2 ≤ 9223372036854775807) ∧ r.imm < 4294967296

theorem inss_struct : ∃ f0 f1 f2 f3 f4 : Field, Try.prog.underlying 28 = some (.struct #[f0, f1, f2, f3, f4]) ∧ (f0.offset = 0 ∧ Try.prog.cellsOf f0.type = 1 ∧ Try.prog.underlying f0.type = some (.int .i64)) ∧ (f1.offset = 1 ∧ Try.prog.cellsOf f1.type = 1 ∧ Try.prog.underlying f1.type = some (.int .i64)) ∧ (f2.offset = 2 ∧ Try.prog.cellsOf f2.type = 1 ∧ Try.prog.underlying f2.type = some (.int .i64)) ∧ (f3.offset = 3 ∧ Try.prog.cellsOf f3.type = 1 ∧ Try.prog.underlying f3.type = some (.int .i64)) ∧ (f4.offset = 4 ∧ Try.prog.cellsOf f4.type = 1 ∧ Try.prog.underlying f4.type = some (.int .u32)) := by
  refine ⟨_, _, _, _, _, Try.underlying28, ⟨?_, ?_, ?_⟩, ⟨?_, ?_, ?_⟩, ⟨?_, ?_, ?_⟩, ⟨?_, ?_, ?_⟩, ⟨?_, ?_, ?_⟩⟩ <;> kernel_rfl

theorem open_inss1 {H : Type} {enc : TypeId × Value → H} {W : World} {base fuel : Nat} {spare : Nat → Bool} {held : Bool} {cs : List Value} {x : DataW H × List MemPlace} (h : DataW.trod enc Try.prog W base spare held fuel 28 cs = some x) :
    ∃ r : Ins, cs = r.cells ∧ InsOk r := by
  obtain ⟨f0, f1, f2, f3, f4, hu, ⟨o0, k0, u0⟩, ⟨o1, k1, u1⟩, ⟨o2, k2, u2⟩, ⟨o3, k3, u3⟩, ⟨o4, k4, u4⟩⟩ := inss_struct
  obtain ⟨ys, n, _, _, hl, hyl, hf⟩ := DataW.trod_struct hu h
  have hl5 : cs.length = 5 := hl.trans (by kernel_rfl)
  match cs, hl5 with
  | [a0, a1, a2, a3, a4], _ =>
    match ys, hyl with
    | [y0, y1, y2, y3, y4], _ =>
      have g0 := hf 0 f0 rfl
      have g1 := hf 1 f1 rfl
      have g2 := hf 2 f2 rfl
      have g3 := hf 3 f3 rfl
      have g4 := hf 4 f4 rfl
      rw [o0, k0] at g0
      rw [o1, k1] at g1
      rw [o2, k2] at g2
      rw [o3, k3] at g3
      rw [o4, k4] at g4
      obtain ⟨n0, e0, _, w0⟩ := DataW.trod_int u0 g0
      have b0 := bounds_i64 w0
      obtain ⟨n1, e1, _, w1⟩ := DataW.trod_int u1 g1
      have b1 := bounds_i64 w1
      obtain ⟨n2, e2, _, w2⟩ := DataW.trod_int u2 g2
      have b2 := bounds_i64 w2
      obtain ⟨n3, e3, _, w3⟩ := DataW.trod_int u3 g3
      have b3 := bounds_i64 w3
      obtain ⟨n4, e4, _, w4⟩ := DataW.trod_int u4 g4
      have b4 := bounds_u32 w4
      obtain ⟨m4, rfl⟩ := Int.eq_ofNat_of_zero_le b4.1
      simp at e0 e1 e2 e3 e4
      subst e0
      subst e1
      subst e2
      subst e3
      subst e4
      exact ⟨⟨n0, n1, n2, n3, m4⟩, rfl, b0, b1, b2, b3, (show m4 < 4294967296 by omega)⟩

theorem open_inssv {H : Type} {enc : TypeId × Value → H} {W : World} {base : Nat} {v : Value} {d : DataW H} {p : List MemPlace}
    (hv : Value.okWide Try.prog W .any base 28 v) (h : DataW.Trod enc Try.prog W 0 (fun _ => true) true 28 v d p) : ∃ r : Ins, v = r.val ∧ InsOk r := by
  obtain ⟨f0, f1, f2, f3, f4, hu, _⟩ := inss_struct
  obtain ⟨cs, rfl, _⟩ := okWide_struct hu hv
  obtain ⟨fuel, hf⟩ := h
  obtain ⟨r, e, hr⟩ := open_inss1 hf
  refine ⟨r, ?_, hr⟩
  have e' : cs.toList = r.cells := e
  have : cs = r.cells.toArray := by rw [← e']
  rw [this]; rfl

theorem an_inss (g o j : Nat) : (⟨g, o, none⟩ : Addr).add j = ⟨g, o + j, none⟩ := by unfold Addr.add; split <;> simp_all
theorem open_inss0 {H : Type} {enc : TypeId × Value → H} {W : World} {fuel : Nat} {T : TypeId} {cs : List Value} {x : DataW H × List MemPlace} (hT : Try.prog.underlying T = some (.slice 28))
    (hf : DataW.trod enc Try.prog W 0 (fun _ => true) true fuel T cs = some x) :
    ∃ A n c, ∃ q : List Ins, cs = [.slice A n c] ∧ Rd W W.heap.size 5 A n c (inss q) ∧ ∀ r ∈ q, InsOk r := by
  have hC : Try.prog.cellsOf 28 = 5 := by kernel_rfl
  rcases open_slice hT hf with ⟨rfl, _⟩ | ⟨a, l, cc, m, f, D, Pl, rfl, _, hl, hm, hmm, _, hi⟩
  · exact ⟨none, 0, 0, [], rfl, Rd.nil (Nat.zero_le _), by simp⟩
  · have hmm' : m = cc := by simpa using hmm
    subst hmm'
    rw [hC] at hi
    have hq : ∀ i : Fin l, ∃ r : Ins, InsOk r ∧ ∀ j < 5, W.cell? ((a.add (i.1 * 5)).add j) = r.cells[j]? := by
      intro i
      obtain ⟨cs', hc, ht⟩ := hi i.1 (by omega)
      obtain ⟨r, rfl, hr⟩ := open_inss1 ht
      obtain ⟨_, hcl, hat⟩ := World.cells?_some hc
      exact ⟨r, hr, fun j hj => hat j hj⟩
    let g := fun i : Fin l => Classical.choose (hq i)
    have hg : ∀ i, InsOk (g i) ∧ ∀ j < 5, W.cell? ((a.add (i.1 * 5)).add j) = (g i).cells[j]? := fun i => Classical.choose_spec (hq i)
    refine ⟨some a, l, m, List.ofFn g, rfl, ⟨by rw [inss_len, List.length_ofFn], hl, hm, fun hn => ?_⟩, ?_⟩
    · obtain ⟨b, o, spot⟩ := a
      have h0 := (hg ⟨0, hn⟩).2 0 (by omega)
      have hs : ∃ v0, W.cell? ⟨b, o, spot⟩ = some v0 := by
        have : ((⟨b, o, spot⟩ : Addr).add (0 * 5)).add 0 = ⟨b, o, spot⟩ := by unfold Addr.add; cases spot <;> simp
        rw [this] at h0
        exact ⟨_, h0⟩
      obtain ⟨v0, h0'⟩ := hs
      have hs : spot = none := World.cell?_spot h0'
      subst hs
      refine ⟨b, o, rfl, World.block_lt_of_cell? W _ h0', fun j u hu => ?_⟩
      have hj := (List.getElem?_eq_some_iff.1 hu).1
      rw [inss_len, List.length_ofFn] at hj
      have hk : j / 5 < l := by omega
      have hr := inss_at (q := List.ofFn g) (k := j / 5) (by rw [List.length_ofFn]; exact hk) (j % 5) (by omega)
      rw [show j / 5 * 5 + j % 5 = j by omega, hu, List.getElem_ofFn] at hr
      have h1 := (hg ⟨j / 5, hk⟩).2 (j % 5) (by omega)
      have e1 : ((⟨b, o, none⟩ : Addr).add ((j / 5) * 5)).add (j % 5) = ⟨b, o + j, none⟩ := by
        have e2 : o + j / 5 * 5 + j % 5 = o + j := by omega
        rw [an_inss, an_inss, e2]
      rw [e1] at h1
      rw [h1, hr]
    · intro r hr
      simp only [List.mem_ofFn] at hr
      obtain ⟨i, rfl⟩ := hr
      exact (hg i).1

theorem open_inss {H : Type} {enc : TypeId × Value → H} {W : World} {base : Nat} {v : Value} {d : DataW H} {p : List MemPlace} {T : TypeId} (hT : Try.prog.underlying T = some (.slice 28))
    (hv : Value.okWide Try.prog W .any base T v) (h : DataW.Trod enc Try.prog W 0 (fun _ => true) true T v d p) :
    ∃ A n c, ∃ q : List Ins, v = .slice A n c ∧ Rd W W.heap.size 5 A n c (inss q) ∧ ∀ r ∈ q, InsOk r := by
  obtain ⟨A, n, c, rfl⟩ := okWide_slice hT hv
  obtain ⟨fuel, hf⟩ := h
  have hf' : DataW.trod enc Try.prog W 0 (fun _ => true) true fuel T [.slice A n c] = _ := hf
  obtain ⟨A', n', c', q, e, hr, hq⟩ := open_inss0 hT hf'
  injection e with e _
  injection e with e1 e2 e3
  subst e1 e2 e3
  exact ⟨A, n, c, q, rfl, hr, hq⟩

end Go.Proofs.Ytbfllafbklfcjaa
