/- Arguments of type api.Way, and slices of it, opened to what the walks ask. -/
import Derived.Test.YtcahadkkjfijfaaWay
import Derived.ProofKit
import Derived.OpenShut
import Derived.Deep.Slices
import Derived.Deep.Fields
set_option linter.unusedVariables false
set_option linter.unusedSimpArgs false
set_option maxRecDepth 100000
namespace Go.Proofs.Ytcahadkkjfijfaa
open Go.RowKit Go.ChangeShapes Go.WideShapes Go.ChangeAt Go.Deep

def WyFit (r : Wy) : Prop := r.line < 4294967296 ∧ True ∧ r.data.size ≤ maxLen

theorem wys_struct : ∃ f0 f1 f2 : Field, Try.prog.underlying 49 = some (.struct #[f0, f1, f2]) ∧ (f0.offset = 0 ∧ Try.prog.cellsOf f0.type = 1 ∧ Try.prog.underlying f0.type = some (.int .u32)) ∧ (f1.offset = 1 ∧ Try.prog.cellsOf f1.type = 1 ∧ Try.prog.underlying f1.type = some .bool) ∧ (f2.offset = 2 ∧ Try.prog.cellsOf f2.type = 1 ∧ Try.prog.underlying f2.type = some .string) := by
  refine ⟨_, _, _, Try.underlying49, ⟨?_, ?_, ?_⟩, ⟨?_, ?_, ?_⟩, ⟨?_, ?_, ?_⟩⟩ <;> kernel_rfl

theorem open_wys1 {H : Type} {enc : TypeId × Value → H} {W : World} {base fuel : Nat} {spare : Nat → Bool} {held : Bool} {cs : List Value} {x : DataW H × List MemPlace} (h : DataW.trod enc Try.prog W base spare held fuel 49 cs = some x) :
    ∃ r : Wy, cs = r.cells ∧ WyFit r := by
  obtain ⟨f0, f1, f2, hu, ⟨o0, k0, u0⟩, ⟨o1, k1, u1⟩, ⟨o2, k2, u2⟩⟩ := wys_struct
  obtain ⟨ys, n, _, _, hl, hyl, hf⟩ := DataW.trod_struct hu h
  have hl3 : cs.length = 3 := hl.trans (by kernel_rfl)
  match cs, hl3 with
  | [a0, a1, a2], _ =>
    match ys, hyl with
    | [y0, y1, y2], _ =>
      have g0 := hf 0 f0 rfl
      have g1 := hf 1 f1 rfl
      have g2 := hf 2 f2 rfl
      rw [o0, k0] at g0
      rw [o1, k1] at g1
      rw [o2, k2] at g2
      obtain ⟨n0, e0, _, w0⟩ := DataW.trod_int u0 g0
      have b0 := bounds_u32 w0
      obtain ⟨m0, rfl⟩ := Int.eq_ofNat_of_zero_le b0.1
      obtain ⟨n1, e1, _⟩ := DataW.trod_bool u1 g1
      obtain ⟨n2, e2, _, w2⟩ := DataW.trod_string u2 g2
      simp at e0 e1 e2
      subst e0
      subst e1
      subst e2
      exact ⟨⟨m0, n1, n2⟩, rfl, (show m0 < 4294967296 by omega), trivial, w2⟩

theorem open_wysv {H : Type} {enc : TypeId × Value → H} {W : World} {base : Nat} {v : Value} {d : DataW H} {p : List MemPlace}
    (hv : Value.okWide Try.prog W .any base 49 v) (h : DataW.Trod enc Try.prog W 0 (fun _ => true) true 49 v d p) : ∃ r : Wy, v = r.val ∧ WyFit r := by
  obtain ⟨f0, f1, f2, hu, _⟩ := wys_struct
  obtain ⟨cs, rfl, _⟩ := okWide_struct hu hv
  obtain ⟨fuel, hf⟩ := h
  obtain ⟨r, e, hr⟩ := open_wys1 hf
  refine ⟨r, ?_, hr⟩
  have e' : cs.toList = r.cells := e
  have : cs = r.cells.toArray := by rw [← e']
  rw [this]; rfl

theorem an_wys (g o j : Nat) : (⟨g, o, none⟩ : Addr).add j = ⟨g, o + j, none⟩ := by unfold Addr.add; split <;> simp_all
theorem open_wys0 {H : Type} {enc : TypeId × Value → H} {W : World} {fuel : Nat} {T : TypeId} {cs : List Value} {x : DataW H × List MemPlace} (hT : Try.prog.underlying T = some (.slice 49))
    (hf : DataW.trod enc Try.prog W 0 (fun _ => true) true fuel T cs = some x) :
    ∃ A n c, ∃ q : List Wy, cs = [.slice A n c] ∧ Rd W W.heap.size 3 A n c (wys q) ∧ ∀ r ∈ q, WyFit r := by
  have hC : Try.prog.cellsOf 49 = 3 := by kernel_rfl
  rcases open_slice hT hf with ⟨rfl, _⟩ | ⟨a, l, cc, m, f, D, Pl, rfl, _, hl, hm, hmm, _, hi⟩
  · exact ⟨none, 0, 0, [], rfl, Rd.nil (Nat.zero_le _), by simp⟩
  · have hmm' : m = cc := by simpa using hmm
    subst hmm'
    rw [hC] at hi
    have hq : ∀ i : Fin l, ∃ r : Wy, WyFit r ∧ ∀ j < 3, W.cell? ((a.add (i.1 * 3)).add j) = r.cells[j]? := by
      intro i
      obtain ⟨cs', hc, ht⟩ := hi i.1 (by omega)
      obtain ⟨r, rfl, hr⟩ := open_wys1 ht
      obtain ⟨_, hcl, hat⟩ := World.cells?_some hc
      exact ⟨r, hr, fun j hj => hat j hj⟩
    let g := fun i : Fin l => Classical.choose (hq i)
    have hg : ∀ i, WyFit (g i) ∧ ∀ j < 3, W.cell? ((a.add (i.1 * 3)).add j) = (g i).cells[j]? := fun i => Classical.choose_spec (hq i)
    refine ⟨some a, l, m, List.ofFn g, rfl, ⟨by rw [wys_len, List.length_ofFn], hl, hm, fun hn => ?_⟩, ?_⟩
    · obtain ⟨b, o, spot⟩ := a
      have h0 := (hg ⟨0, hn⟩).2 0 (by omega)
      have hs : ∃ v0, W.cell? ⟨b, o, spot⟩ = some v0 := by
        have : ((⟨b, o, spot⟩ : Addr).add (0 * 3)).add 0 = ⟨b, o, spot⟩ := by unfold Addr.add; cases spot <;> simp
        rw [this] at h0
        exact ⟨_, h0⟩
      obtain ⟨v0, h0'⟩ := hs
      have hs : spot = none := World.cell?_spot h0'
      subst hs
      refine ⟨b, o, rfl, World.block_lt_of_cell? W _ h0', fun j u hu => ?_⟩
      have hj := (List.getElem?_eq_some_iff.1 hu).1
      rw [wys_len, List.length_ofFn] at hj
      have hk : j / 3 < l := by omega
      have hr := wys_at (q := List.ofFn g) (k := j / 3) (by rw [List.length_ofFn]; exact hk) (j % 3) (by omega)
      rw [show j / 3 * 3 + j % 3 = j by omega, hu, List.getElem_ofFn] at hr
      have h1 := (hg ⟨j / 3, hk⟩).2 (j % 3) (by omega)
      have e1 : ((⟨b, o, none⟩ : Addr).add ((j / 3) * 3)).add (j % 3) = ⟨b, o + j, none⟩ := by
        have e2 : o + j / 3 * 3 + j % 3 = o + j := by omega
        rw [an_wys, an_wys, e2]
      rw [e1] at h1
      rw [h1, hr]
    · intro r hr
      simp only [List.mem_ofFn] at hr
      obtain ⟨i, rfl⟩ := hr
      exact (hg i).1

theorem open_wys {H : Type} {enc : TypeId × Value → H} {W : World} {base : Nat} {v : Value} {d : DataW H} {p : List MemPlace} {T : TypeId} (hT : Try.prog.underlying T = some (.slice 49))
    (hv : Value.okWide Try.prog W .any base T v) (h : DataW.Trod enc Try.prog W 0 (fun _ => true) true T v d p) :
    ∃ A n c, ∃ q : List Wy, v = .slice A n c ∧ Rd W W.heap.size 3 A n c (wys q) ∧ ∀ r ∈ q, WyFit r := by
  obtain ⟨A, n, c, rfl⟩ := okWide_slice hT hv
  obtain ⟨fuel, hf⟩ := h
  have hf' : DataW.trod enc Try.prog W 0 (fun _ => true) true fuel T [.slice A n c] = _ := hf
  obtain ⟨A', n', c', q, e, hr, hq⟩ := open_wys0 hT hf'
  injection e with e _
  injection e with e1 e2 e3
  subst e1 e2 e3
  exact ⟨A, n, c, q, rfl, hr, hq⟩

end Go.Proofs.Ytcahadkkjfijfaa
