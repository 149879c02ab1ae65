/- Arguments that are slices of numbers, opened to what the walks ask. -/
import Derived.Test.YtghekfdpgeopjaaSl
import Derived.ProofKit
import Derived.OpenShut
set_option linter.unusedVariables false
set_option linter.unusedSimpArgs false
namespace Go.Proofs.Ytghekfdpgeopjaa
open Go.RowKit Go.ChangeShapes Go.WideShapes Go.ChangeAt

theorem open_nums {H : Type} {enc : TypeId × Value → H} {P : Program} {W : World} {base : Nat} {v : Value} {d : DataW H} {p : List MemPlace} {t e : TypeId} {k : IntKind} (ht : P.underlying t = some (.slice e)) (he : P.underlying e = some (.int k)) (hc : P.cellsOf e = 1)
    (hv : Value.okWide P W .any base t v) (h : DataW.Trod enc P W 0 (fun _ => true) true t v d p) :
    ∃ A n c, ∃ zs : List Int, v = .slice A n c ∧ Rd W W.heap.size 1 A n c (zs.map (Value.int k)) ∧ ∀ z ∈ zs, (Lit.int k z).wf = true := by
  obtain ⟨A, n, c, rfl⟩ := okWide_slice ht hv
  obtain ⟨fuel, hf⟩ := h
  rcases open_ints ht he hc hf with ⟨hcs, _⟩ | ⟨x, l, cc, zs, hcs, _, hl, hm, hz, _, hcell, hwz⟩
  · simp [Value.cells] at hcs
    obtain ⟨rfl, rfl, rfl⟩ := hcs
    exact ⟨none, 0, 0, [], rfl, ⟨by simp, by omega, by simp [maxLen], fun h => absurd h (by omega)⟩, by simp⟩
  · simp [Value.cells] at hcs
    obtain ⟨rfl, rfl, rfl⟩ := hcs
    have hz' : zs.length = c := by simpa using hz
    refine ⟨_, n, c, zs.take n, rfl, ⟨by simp; omega, hl, hm, fun hn => ?_⟩, fun z hz => hwz z (List.mem_of_mem_take hz)⟩
    obtain ⟨g, o, spot⟩ := x
    have h0 := hcell 0 (by omega)
    have hs : spot = none := by simpa [Addr.add] using World.cell?_spot h0
    subst hs
    refine ⟨g, o, rfl, World.block_lt_of_cell? W _ h0 |> fun h => by simpa [Addr.add] using h, fun j u hu => ?_⟩
    have hj : j < zs.length ∧ j < n := by
      have := (List.getElem?_eq_some_iff.1 hu).1
      simp at this
      omega
    have := hcell j hj.1
    have e1 : (⟨g, o, none⟩ : Addr).add j = ⟨g, o + j, none⟩ := by unfold Addr.add; split <;> simp_all
    rw [e1] at this
    rw [this, ← hu]
    simp [List.getElem?_take, hj.2, List.getD, hj.1]

theorem open_u32s {H : Type} {enc : TypeId × Value → H} {P : Program} {W : World} {base : Nat} {v : Value} {d : DataW H} {p : List MemPlace} {t e : TypeId} (ht : P.underlying t = some (.slice e)) (he : P.underlying e = some (.int .u32)) (hc : P.cellsOf e = 1)
    (hv : Value.okWide P W .any base t v) (h : DataW.Trod enc P W 0 (fun _ => true) true t v d p) :
    ∃ A n c, ∃ zs : List Nat, v = .slice A n c ∧ Rd W W.heap.size 1 A n c (zs.map fun (z : Nat) => Value.int .u32 (z : Int)) ∧ ∀ z ∈ zs, z < 4294967296 := by
  obtain ⟨A, n, c, zs, rfl, hr, hw⟩ := open_nums ht he hc hv h
  have e1 : (zs.map Int.toNat).map (fun (z : Nat) => Value.int .u32 (z : Int)) = zs.map (Value.int .u32) := by
    rw [List.map_map]
    apply List.map_congr_left
    intro z hz
    have := bounds_u32 (hw z hz)
    simp only [Function.comp]
    rw [Int.toNat_of_nonneg this.1]
  refine ⟨A, n, c, zs.map Int.toNat, rfl, by rw [e1]; exact hr, fun z hz => ?_⟩
  simp only [List.mem_map] at hz
  obtain ⟨y, hy, rfl⟩ := hz
  have := bounds_u32 (hw y hy)
  omega

end Go.Proofs.Ytghekfdpgeopjaa
