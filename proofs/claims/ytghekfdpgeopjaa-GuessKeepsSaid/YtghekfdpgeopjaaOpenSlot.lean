/- Arguments of type api.Slot, and slices of it, opened to what the walks ask. -/
import Derived.Test.YtghekfdpgeopjaaSlot
import Derived.ProofKit
import Derived.OpenShut
import Derived.Deep.Slices
import Derived.Deep.Fields
set_option linter.unusedVariables false
set_option linter.unusedSimpArgs false
set_option maxRecDepth 100000
namespace Go.Proofs.Ytghekfdpgeopjaa
open Go.RowKit Go.ChangeShapes Go.WideShapes Go.ChangeAt Go.Deep

def SlOk (r : Sl) : Prop := r.pc < 4294967296 ∧ r.next < 4294967296

theorem sls_struct : ∃ f0 f1 : Field, Try.prog.underlying 41 = some (.struct #[f0, f1]) ∧ (f0.offset = 0 ∧ Try.prog.cellsOf f0.type = 1 ∧ Try.prog.underlying f0.type = some (.int .u32)) ∧ (f1.offset = 1 ∧ Try.prog.cellsOf f1.type = 1 ∧ Try.prog.underlying f1.type = some (.int .u32)) := by
  refine ⟨_, _, Try.underlying41, ⟨?_, ?_, ?_⟩, ⟨?_, ?_, ?_⟩⟩ <;> kernel_rfl

theorem open_sls1 {H : Type} {enc : TypeId × Value → H} {W : World} {base fuel : Nat} {spare : Nat → Bool} {held : Bool} {cs : List Value} {x : DataW H × List MemPlace} (h : DataW.trod enc Try.prog W base spare held fuel 41 cs = some x) :
    ∃ r : Sl, cs = r.cells ∧ SlOk r := by
  obtain ⟨f0, f1, hu, ⟨o0, k0, u0⟩, ⟨o1, k1, u1⟩⟩ := sls_struct
  obtain ⟨ys, n, _, _, hl, hyl, hf⟩ := DataW.trod_struct hu h
  have hl2 : cs.length = 2 := hl.trans (by kernel_rfl)
  match cs, hl2 with
  | [a0, a1], _ =>
    match ys, hyl with
    | [y0, y1], _ =>
      have g0 := hf 0 f0 rfl
      have g1 := hf 1 f1 rfl
      rw [o0, k0] at g0
      rw [o1, k1] at g1
      obtain ⟨n0, e0, _, w0⟩ := DataW.trod_int u0 g0
      have b0 := bounds_u32 w0
      obtain ⟨m0, rfl⟩ := Int.eq_ofNat_of_zero_le b0.1
      obtain ⟨n1, e1, _, w1⟩ := DataW.trod_int u1 g1
      have b1 := bounds_u32 w1
      obtain ⟨m1, rfl⟩ := Int.eq_ofNat_of_zero_le b1.1
      simp at e0 e1
      subst e0
      subst e1
      exact ⟨⟨m0, m1⟩, rfl, (show m0 < 4294967296 by omega), (show m1 < 4294967296 by omega)⟩

theorem open_slsv {H : Type} {enc : TypeId × Value → H} {W : World} {base : Nat} {v : Value} {d : DataW H} {p : List MemPlace}
    (hv : Value.okWide Try.prog W .any base 41 v) (h : DataW.Trod enc Try.prog W 0 (fun _ => true) true 41 v d p) : ∃ r : Sl, v = r.val ∧ SlOk r := by
  obtain ⟨f0, f1, hu, _⟩ := sls_struct
  obtain ⟨cs, rfl, _⟩ := okWide_struct hu hv
  obtain ⟨fuel, hf⟩ := h
  obtain ⟨r, e, hr⟩ := open_sls1 hf
  refine ⟨r, ?_, hr⟩
  have e' : cs.toList = r.cells := e
  have : cs = r.cells.toArray := by rw [← e']
  rw [this]; rfl

theorem an_sls (g o j : Nat) : (⟨g, o, none⟩ : Addr).add j = ⟨g, o + j, none⟩ := by unfold Addr.add; split <;> simp_all
theorem open_sls0 {H : Type} {enc : TypeId × Value → H} {W : World} {fuel : Nat} {T : TypeId} {cs : List Value} {x : DataW H × List MemPlace} (hT : Try.prog.underlying T = some (.slice 41))
    (hf : DataW.trod enc Try.prog W 0 (fun _ => true) true fuel T cs = some x) :
    ∃ A n c, ∃ q : List Sl, cs = [.slice A n c] ∧ Rd W W.heap.size 2 A n c (sls q) ∧ ∀ r ∈ q, SlOk r := by
  have hC : Try.prog.cellsOf 41 = 2 := by kernel_rfl
  rcases open_slice hT hf with ⟨rfl, _⟩ | ⟨a, l, cc, m, f, D, Pl, rfl, _, hl, hm, hmm, _, hi⟩
  · exact ⟨none, 0, 0, [], rfl, Rd.nil (Nat.zero_le _), by simp⟩
  · have hmm' : m = cc := by simpa using hmm
    subst hmm'
    rw [hC] at hi
    have hq : ∀ i : Fin l, ∃ r : Sl, SlOk r ∧ ∀ j < 2, W.cell? ((a.add (i.1 * 2)).add j) = r.cells[j]? := by
      intro i
      obtain ⟨cs', hc, ht⟩ := hi i.1 (by omega)
      obtain ⟨r, rfl, hr⟩ := open_sls1 ht
      obtain ⟨_, hcl, hat⟩ := World.cells?_some hc
      exact ⟨r, hr, fun j hj => hat j hj⟩
    let g := fun i : Fin l => Classical.choose (hq i)
    have hg : ∀ i, SlOk (g i) ∧ ∀ j < 2, W.cell? ((a.add (i.1 * 2)).add j) = (g i).cells[j]? := fun i => Classical.choose_spec (hq i)
    refine ⟨some a, l, m, List.ofFn g, rfl, ⟨by rw [sls_len, List.length_ofFn], hl, hm, fun hn => ?_⟩, ?_⟩
    · obtain ⟨b, o, spot⟩ := a
      have h0 := (hg ⟨0, hn⟩).2 0 (by omega)
      have hs : ∃ v0, W.cell? ⟨b, o, spot⟩ = some v0 := by
        have : ((⟨b, o, spot⟩ : Addr).add (0 * 2)).add 0 = ⟨b, o, spot⟩ := by unfold Addr.add; cases spot <;> simp
        rw [this] at h0
        exact ⟨_, h0⟩
      obtain ⟨v0, h0'⟩ := hs
      have hs : spot = none := World.cell?_spot h0'
      subst hs
      refine ⟨b, o, rfl, World.block_lt_of_cell? W _ h0', fun j u hu => ?_⟩
      have hj := (List.getElem?_eq_some_iff.1 hu).1
      rw [sls_len, List.length_ofFn] at hj
      have hk : j / 2 < l := by omega
      have hr := sls_at (q := List.ofFn g) (k := j / 2) (by rw [List.length_ofFn]; exact hk) (j % 2) (by omega)
      rw [show j / 2 * 2 + j % 2 = j by omega, hu, List.getElem_ofFn] at hr
      have h1 := (hg ⟨j / 2, hk⟩).2 (j % 2) (by omega)
      have e1 : ((⟨b, o, none⟩ : Addr).add ((j / 2) * 2)).add (j % 2) = ⟨b, o + j, none⟩ := by
        have e2 : o + j / 2 * 2 + j % 2 = o + j := by omega
        rw [an_sls, an_sls, e2]
      rw [e1] at h1
      rw [h1, hr]
    · intro r hr
      simp only [List.mem_ofFn] at hr
      obtain ⟨i, rfl⟩ := hr
      exact (hg i).1

theorem open_sls {H : Type} {enc : TypeId × Value → H} {W : World} {base : Nat} {v : Value} {d : DataW H} {p : List MemPlace} {T : TypeId} (hT : Try.prog.underlying T = some (.slice 41))
    (hv : Value.okWide Try.prog W .any base T v) (h : DataW.Trod enc Try.prog W 0 (fun _ => true) true T v d p) :
    ∃ A n c, ∃ q : List Sl, v = .slice A n c ∧ Rd W W.heap.size 2 A n c (sls q) ∧ ∀ r ∈ q, SlOk r := by
  obtain ⟨A, n, c, rfl⟩ := okWide_slice hT hv
  obtain ⟨fuel, hf⟩ := h
  have hf' : DataW.trod enc Try.prog W 0 (fun _ => true) true fuel T [.slice A n c] = _ := hf
  obtain ⟨A', n', c', q, e, hr, hq⟩ := open_sls0 hT hf'
  injection e with e _
  injection e with e1 e2 e3
  subst e1 e2 e3
  exact ⟨A, n, c, q, rfl, hr, hq⟩

end Go.Proofs.Ytghekfdpgeopjaa
