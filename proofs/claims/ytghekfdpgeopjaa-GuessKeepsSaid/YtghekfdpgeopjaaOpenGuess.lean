/- Arguments of type api.Guess, opened. -/
import Derived.Test.YtghekfdpgeopjaaGuess
import Derived.Test.YtghekfdpgeopjaaOpenSlot
import Derived.Test.YtghekfdpgeopjaaOpenInst
set_option linter.unusedVariables false
set_option linter.unusedSimpArgs false
set_option maxRecDepth 100000
namespace Go.Proofs.Ytghekfdpgeopjaa
open Go.RowKit Go.ChangeShapes Go.WideShapes Go.ChangeAt Go.Deep

theorem open_u32f {H : Type} {enc : TypeId × Value → H} {W : World} {fuel : Nat} {T : TypeId} {cs : List Value} {x : DataW H × List MemPlace} (hT : Try.prog.underlying T = some (.slice 24))
    (hf : DataW.trod enc Try.prog W 0 (fun _ => true) true fuel T cs = some x) :
    ∃ A n c, ∃ l : List Nat, cs = [.slice A n c] ∧ Rd W W.heap.size 1 A n c (u32v l) ∧ ∀ z ∈ l, z < 4294967296 := by
  have hC : Try.prog.cellsOf 24 = 1 := by kernel_rfl
  rcases open_ints hT Try.underlying24 hC hf with ⟨hcs, _⟩ | ⟨x, l, cc, zs, hcs, _, hl, hm, hz, _, hcell, hwz⟩
  · exact ⟨none, 0, 0, [], hcs, Rd.nil (Nat.zero_le _), by simp⟩
  · have hz' : zs.length = cc := by simpa using hz
    obtain ⟨ms, hms⟩ : ∃ ms : List Nat, zs = ms.map (fun (m : Nat) => (m : Int)) := by
      refine ⟨zs.map Int.toNat, ?_⟩
      rw [List.map_map]
      conv => lhs; rw [← List.map_id zs]
      apply List.map_congr_left
      intro z hz
      have := bounds_u32 (hwz z hz)
      simp only [id, Function.comp]
      omega
    subst hms
    refine ⟨some x, l, cc, ms.take l, hcs, ⟨by rw [u32v_len, List.length_take]; simp at hz'; omega, hl, hm, fun hn => ?_⟩, fun z hz => ?_⟩
    · obtain ⟨g, o, spot⟩ := x
      simp only [List.length_map] at hz'
      have h0 := hcell 0 (by simp; omega)
      have hs : spot = none := by simpa [Addr.add] using World.cell?_spot h0
      subst hs
      refine ⟨g, o, rfl, World.block_lt_of_cell? W _ h0 |> fun h => by simpa [Addr.add] using h, fun j u hu => ?_⟩
      have hj := (List.getElem?_eq_some_iff.1 hu).1
      rw [u32v_len, List.length_take] at hj
      rw [u32v_at (by rw [List.length_take]; omega)] at hu
      have h1 := hcell j (by simp; omega)
      have e1 : (⟨g, o, none⟩ : Addr).add j = ⟨g, o + j, none⟩ := an_sls g o j
      rw [e1] at h1
      rw [h1, ← hu]
      simp [List.getElem_take, List.getD, show j < ms.length by omega]
    · have hz2 := List.mem_of_mem_take hz
      have := bounds_u32 (hwz (z : Int) (List.mem_map.2 ⟨z, hz2, rfl⟩))
      omega

theorem guess_struct : ∃ f0 f1 f2 : Field, Try.prog.underlying 27 = some (.struct #[f0, f1, f2]) ∧ (f0.offset = 0 ∧ Try.prog.cellsOf f0.type = 1 ∧ Try.prog.underlying f0.type = some (.slice 41)) ∧ (f1.offset = 1 ∧ Try.prog.cellsOf f1.type = 1 ∧ Try.prog.underlying f1.type = some (.int .u32)) ∧ (f2.offset = 2 ∧ Try.prog.cellsOf f2.type = 1 ∧ Try.prog.underlying f2.type = some (.slice 24)) := by
  refine ⟨_, _, _, Try.underlying27, ⟨?_, ?_, ?_⟩, ⟨?_, ?_, ?_⟩, ⟨?_, ?_, ?_⟩⟩ <;> kernel_rfl

theorem open_guess {H : Type} {enc : TypeId × Value → H} {W : World} {base : Nat} {v : Value} {d : DataW H} {p : List MemPlace}
    (hv : Value.okWide Try.prog W .any base 27 v) (h : DataW.Trod enc Try.prog W 0 (fun _ => true) true 27 v d p) :
    ∃ As ns cs, ∃ sl : List Sl, ∃ (hh : Nat) (Ar : Option Addr) (nr cr : Nat), ∃ rets : List Nat, v = gv As ns cs hh Ar nr cr ∧ Rd W W.heap.size 2 As ns cs (sls sl) ∧ Rd W W.heap.size 1 Ar nr cr (u32v rets) ∧ hh < 4294967296 := by
  obtain ⟨f0, f1, f2, hu, ⟨o0, k0, u0⟩, ⟨o1, k1, u1⟩, ⟨o2, k2, u2⟩⟩ := guess_struct
  obtain ⟨cs, rfl, hsz⟩ := okWide_struct hu hv
  obtain ⟨fuel, hf⟩ := h
  obtain ⟨ys, n, _, _, hl, hyl, hg⟩ := DataW.trod_struct hu hf
  have hl3 : cs.toList.length = 3 := hl.trans (by kernel_rfl)
  obtain ⟨l⟩ := cs
  match l, hl3 with
  | [a0, a1, a2], _ =>
    match ys, hyl with
    | [y0, y1, y2], _ =>
      have g0 := hg 0 f0 rfl
      have g1 := hg 1 f1 rfl
      have g2 := hg 2 f2 rfl
      rw [o0, k0] at g0
      rw [o1, k1] at g1
      rw [o2, k2] at g2
      obtain ⟨As, ns, cs, sl, e0, r0, _⟩ := open_sls0 u0 g0
      obtain ⟨n1, e1, _, w1⟩ := DataW.trod_int u1 g1
      obtain ⟨Ar, nr, cr, rets, e2, r2, _⟩ := open_u32f u2 g2
      have b1 := bounds_u32 w1
      obtain ⟨m1, rfl⟩ := Int.eq_ofNat_of_zero_le b1.1
      simp [Value.cells] at e0 e1 e2
      subst e0 e1 e2
      exact ⟨As, ns, cs, sl, m1, Ar, nr, cr, rets, rfl, r0, r2, by omega⟩

end Go.Proofs.Ytghekfdpgeopjaa
