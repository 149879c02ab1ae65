/- Arguments that are slices of requests, opened to what the walks ask. -/
import Derived.Test.YthjmkmfpabphgaaReq
import Derived.ProofKit
import Derived.OpenShut
import Derived.Deep.Slices
import Derived.Deep.Fields
set_option linter.unusedVariables false
set_option linter.unusedSimpArgs false
namespace Go.Proofs.Ythjmkmfpabphgaa
open Go.RowKit Go.ChangeShapes Go.WideShapes Go.ChangeAt Go.Deep

def RqOk (r : Rq) : Prop := (-9223372036854775808 ≤ r.kind ∧ r.kind ≤ 9223372036854775807) ∧ r.line < 4294967296 ∧ (-9223372036854775808 ≤ r.left ∧ r.left ≤ 9223372036854775807) ∧ r.data.size ≤ maxLen

theorem add_none (g o j : Nat) : (⟨g, o, none⟩ : Addr).add j = ⟨g, o + j, none⟩ := by unfold Addr.add; split <;> simp_all

theorem rq_struct : ∃ f0 f1 f2 f3 : Field, Try.prog.underlying 32 = some (.struct #[f0, f1, f2, f3]) ∧ (f0.offset = 0 ∧ Try.prog.cellsOf f0.type = 1 ∧ Try.prog.underlying f0.type = some (.int .i64)) ∧ (f1.offset = 1 ∧ Try.prog.cellsOf f1.type = 1 ∧ Try.prog.underlying f1.type = some (.int .u32)) ∧
    (f2.offset = 2 ∧ Try.prog.cellsOf f2.type = 1 ∧ Try.prog.underlying f2.type = some (.int .i64)) ∧ (f3.offset = 3 ∧ Try.prog.cellsOf f3.type = 1 ∧ Try.prog.underlying f3.type = some .string) := by
  refine ⟨_, _, _, _, Try.underlying32, ⟨?_, ?_, ?_⟩, ⟨?_, ?_, ?_⟩, ⟨?_, ?_, ?_⟩, ⟨?_, ?_, ?_⟩⟩ <;> kernel_rfl

theorem open_rq {H : Type} {enc : TypeId × Value → H} {W : World} {base fuel : Nat} {spare : Nat → Bool} {held : Bool} {cs : List Value} {x : DataW H × List MemPlace} (h : DataW.trod enc Try.prog W base spare held fuel 32 cs = some x) :
    ∃ r : Rq, cs = r.cells ∧ RqOk r := by
  obtain ⟨f0, f1, f2, f3, hu, ⟨o0, k0, u0⟩, ⟨o1, k1, u1⟩, ⟨o2, k2, u2⟩, ⟨o3, k3, u3⟩⟩ := rq_struct
  obtain ⟨ys, n, _, _, hl, hyl, hf⟩ := DataW.trod_struct hu h
  have hl4 : cs.length = 4 := hl.trans (by kernel_rfl)
  match cs, hl4 with
  | [a0, a1, a2, a3], _ =>
    match ys, hyl with
    | [y0, y1, y2, y3], _ =>
      have g0 := hf 0 f0 rfl
      have g1 := hf 1 f1 rfl
      have g2 := hf 2 f2 rfl
      have g3 := hf 3 f3 rfl
      rw [o0, k0] at g0
      rw [o1, k1] at g1
      rw [o2, k2] at g2
      rw [o3, k3] at g3
      obtain ⟨n0, e0, _, w0⟩ := DataW.trod_int u0 g0
      obtain ⟨n1, e1, _, w1⟩ := DataW.trod_int u1 g1
      obtain ⟨n2, e2, _, w2⟩ := DataW.trod_int u2 g2
      obtain ⟨s3, e3, _, w3⟩ := DataW.trod_string u3 g3
      have b0 := bounds_i64 w0
      have b1 := bounds_u32 w1
      have b2 := bounds_i64 w2
      obtain ⟨m1, rfl⟩ := Int.eq_ofNat_of_zero_le b1.1
      simp at e0 e1 e2 e3
      subst e0 e1 e2 e3
      exact ⟨⟨n0, m1, n2, s3⟩, rfl, b0, by show m1 < 4294967296; omega, b2, w3⟩

theorem open_rqs {H : Type} {enc : TypeId × Value → H} {W : World} {base : Nat} {v : Value} {d : DataW H} {p : List MemPlace}
    (hv : Value.okWide Try.prog W .any base 22 v) (h : DataW.Trod enc Try.prog W 0 (fun _ => true) true 22 v d p) :
    ∃ A n c, ∃ q : List Rq, v = .slice A n c ∧ Rd W W.heap.size 4 A n c (rqs q) ∧ ∀ r ∈ q, RqOk r := by
  obtain ⟨A, n, c, rfl⟩ := okWide_slice Try.underlying22 hv
  obtain ⟨fuel, hf⟩ := h
  have hC : Try.prog.cellsOf 32 = 4 := by kernel_rfl
  rcases open_slice Try.underlying22 hf with ⟨hcs, _⟩ | ⟨a, l, cc, m, f, D, Pl, hcs, _, hl, hm, hmm, _, hi⟩
  · simp [Value.cells] at hcs
    obtain ⟨rfl, rfl, rfl⟩ := hcs
    exact ⟨none, 0, 0, [], rfl, Rd.nil (by simp [maxLen]), by simp⟩
  · simp [Value.cells] at hcs
    obtain ⟨rfl, rfl, rfl⟩ := hcs
    have hmm' : m = c := by simpa using hmm
    subst hmm'
    rw [hC] at hi
    have hq : ∀ i : Fin n, ∃ r : Rq, RqOk r ∧ ∀ j < 4, W.cell? ((a.add (i.1 * 4)).add j) = r.cells[j]? := by
      intro i
      obtain ⟨cs', hc, ht⟩ := hi i.1 (by omega)
      obtain ⟨r, rfl, hr⟩ := open_rq ht
      obtain ⟨_, hcl, hat⟩ := World.cells?_some hc
      exact ⟨r, hr, fun j hj => hat j hj⟩
    let g := fun i : Fin n => Classical.choose (hq i)
    have hg : ∀ i, RqOk (g i) ∧ ∀ j < 4, W.cell? ((a.add (i.1 * 4)).add j) = (g i).cells[j]? := fun i => Classical.choose_spec (hq i)
    refine ⟨some a, n, m, List.ofFn g, rfl, ⟨by rw [rqs_len, List.length_ofFn], hl, hm, fun hn => ?_⟩, ?_⟩
    · obtain ⟨b, o, spot⟩ := a
      have h0 := (hg ⟨0, hn⟩).2 0 (by omega)
      have h0' : W.cell? ⟨b, o, spot⟩ = some (.int .i64 (g ⟨0, hn⟩).kind) := by
        have : ((⟨b, o, spot⟩ : Addr).add (0 * 4)).add 0 = ⟨b, o, spot⟩ := by unfold Addr.add; cases spot <;> simp
        rw [this] at h0
        exact h0
      have hs : spot = none := World.cell?_spot h0'
      subst hs
      refine ⟨b, o, rfl, World.block_lt_of_cell? W _ h0', fun j u hu => ?_⟩
      have hj := (List.getElem?_eq_some_iff.1 hu).1
      rw [rqs_len, List.length_ofFn] at hj
      have hk : j / 4 < n := by omega
      have hr := rqs_at (q := List.ofFn g) (k := j / 4) (by rw [List.length_ofFn]; exact hk) (j % 4) (by omega)
      rw [show j / 4 * 4 + j % 4 = j by omega, hu, List.getElem_ofFn] at hr
      have h1 := (hg ⟨j / 4, hk⟩).2 (j % 4) (by omega)
      have e1 : ((⟨b, o, none⟩ : Addr).add ((j / 4) * 4)).add (j % 4) = ⟨b, o + j, none⟩ := by
        have e2 : o + j / 4 * 4 + j % 4 = o + j := by omega
        rw [add_none, add_none, e2]
      rw [e1] at h1
      rw [h1, hr]
    · intro r hr
      simp only [List.mem_ofFn] at hr
      obtain ⟨i, rfl⟩ := hr
      exact (hg i).1

end Go.Proofs.Ythjmkmfpabphgaa
