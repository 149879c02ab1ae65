/- Arguments of type api.Cache, opened. -/
import Derived.Test.YtcahadkkjfijfaaOpenWay
import Derived.Test.YtcahadkkjfijfaaCRight
set_option linter.unusedVariables false
set_option linter.unusedSimpArgs false
set_option maxRecDepth 100000
namespace Go.Proofs.Ytcahadkkjfijfaa
open Go.RowKit Go.ChangeShapes Go.WideShapes Go.ChangeAt Go.Deep

theorem open_css0 {H : Type} {enc : TypeId × Value → H} {W : World} {fuel : Nat} {T : TypeId} {cs : List Value} {x : DataW H × List MemPlace} (hT : Try.prog.underlying T = some (.slice 62))
    (hf : DataW.trod enc Try.prog W 0 (fun _ => true) true fuel T cs = some x) :
    ∃ A n c, ∃ S : List Cs, cs = [.slice A n c] ∧ RdS W W.heap.size A n c S ∧ SOk S := by
  have hC : Try.prog.cellsOf 62 = 1 := by kernel_rfl
  rcases open_slice hT hf with ⟨rfl, _⟩ | ⟨a, l, cc, m, f, D, Pl, rfl, _, hl, hm, hmm, _, hi⟩
  · exact ⟨none, 0, 0, [], rfl, RdS.nil (Nat.zero_le _), fun s hs => by cases hs⟩
  · have hmm' : m = cc := by simpa using hmm
    subst hmm'
    rw [hC] at hi
    have hq : ∀ i : Fin l, ∃ s : Cs, Rd W W.heap.size 3 s.A s.n s.c (wys s.ws) ∧ (∀ r ∈ s.ws, WyFit r) ∧ W.cell? (a.add i.1) = some s.val := by
      intro i
      obtain ⟨cs', hc, ht⟩ := hi i.1 (by omega)
      obtain ⟨A, n, c, q, rfl, hr, hq⟩ := open_wys0 Try.underlying62 ht
      obtain ⟨_, hcl, hat⟩ := World.cells?_some hc
      refine ⟨⟨A, n, c, q⟩, hr, hq, ?_⟩
      have := hat 0 (by omega)
      rw [Nat.mul_one] at this
      have e : (a.add i.1).add 0 = a.add i.1 := by unfold Addr.add; simp
      rw [e] at this
      exact this
    let g := fun i : Fin l => Classical.choose (hq i)
    have hg : ∀ i, Rd W W.heap.size 3 (g i).A (g i).n (g i).c (wys (g i).ws) ∧ (∀ r ∈ (g i).ws, WyFit r) ∧ W.cell? (a.add i.1) = some (g i).val := fun i => Classical.choose_spec (hq i)
    refine ⟨some a, l, m, List.ofFn g, rfl, ⟨⟨by rw [csv_len, List.length_ofFn, Nat.mul_one], hl, hm, fun hn => ?_⟩, ?_⟩, ?_⟩
    · obtain ⟨b, o, spot⟩ := a
      have h0 := (hg ⟨0, hn⟩).2.2
      have hs : ∃ v0, W.cell? ⟨b, o, spot⟩ = some v0 := by
        have : (⟨b, o, spot⟩ : Addr).add 0 = ⟨b, o, spot⟩ := by unfold Addr.add; simp
        rw [this] at h0
        exact ⟨_, h0⟩
      obtain ⟨v0, h0'⟩ := hs
      have hs : spot = none := World.cell?_spot h0'
      subst hs
      refine ⟨b, o, rfl, World.block_lt_of_cell? W _ h0', fun j u hu => ?_⟩
      have hj := (List.getElem?_eq_some_iff.1 hu).1
      rw [csv_len, List.length_ofFn] at hj
      rw [csv_at (by rw [List.length_ofFn]; exact hj), List.getElem_ofFn] at hu
      have h1 := (hg ⟨j, hj⟩).2.2
      rw [an_wys] at h1
      rw [h1]; exact hu
    · intro s hs
      simp only [List.mem_ofFn] at hs
      obtain ⟨i, rfl⟩ := hs
      exact (hg i).1
    · intro s hs v hv
      simp only [List.mem_ofFn] at hs
      obtain ⟨i, rfl⟩ := hs
      exact ⟨((hg i).2.1 v hv).1, ((hg i).2.1 v hv).2.2⟩

theorem cache_struct : ∃ f0 f1 : Field, Try.prog.underlying 36 = some (.struct #[f0, f1]) ∧ (f0.offset = 0 ∧ Try.prog.cellsOf f0.type = 1 ∧ Try.prog.underlying f0.type = some (.int .i64)) ∧ (f1.offset = 1 ∧ Try.prog.cellsOf f1.type = 1 ∧ Try.prog.underlying f1.type = some (.slice 62)) := by
  refine ⟨_, _, Try.underlying36, ⟨?_, ?_, ?_⟩, ⟨?_, ?_, ?_⟩⟩ <;> kernel_rfl

theorem open_cache {H : Type} {enc : TypeId × Value → H} {W : World} {base : Nat} {v : Value} {d : DataW H} {p : List MemPlace}
    (hv : Value.okWide Try.prog W .any base 36 v) (h : DataW.Trod enc Try.prog W 0 (fun _ => true) true 36 v d p) :
    ∃ (ways : Int) (A : Option Addr) (n c : Nat) (S : List Cs), v = .agg #[.int .i64 ways, .slice A n c] ∧ RdS W W.heap.size A n c S ∧ SOk S ∧ (-9223372036854775808 ≤ ways ∧ ways ≤ 9223372036854775807) := by
  obtain ⟨f0, f1, hu, ⟨o0, k0, u0⟩, ⟨o1, k1, u1⟩⟩ := cache_struct
  obtain ⟨cs, rfl, hsz⟩ := okWide_struct hu hv
  obtain ⟨fuel, hf⟩ := h
  obtain ⟨ys, n, _, _, hl, hyl, hg⟩ := DataW.trod_struct hu hf
  have hl2 : cs.toList.length = 2 := hl.trans (by kernel_rfl)
  obtain ⟨l⟩ := cs
  match l, hl2 with
  | [a0, a1], _ =>
    match ys, hyl with
    | [y0, y1], _ =>
      have g0 := hg 0 f0 rfl
      have g1 := hg 1 f1 rfl
      rw [o0, k0] at g0
      rw [o1, k1] at g1
      obtain ⟨n0, e0, _, w0⟩ := DataW.trod_int u0 g0
      obtain ⟨A, n1, c1, S, e1, r1, s1⟩ := open_css0 u1 g1
      have b0 := bounds_i64 w0
      simp [Value.cells] at e0 e1
      subst e0 e1
      exact ⟨n0, A, n1, c1, S, rfl, r1, s1, b0⟩

end Go.Proofs.Ytcahadkkjfijfaa
