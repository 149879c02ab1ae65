/- Arguments of type api.Step, and slices of it, opened to what the walks ask. -/
import Derived.Test.YtcahadkkjfijfaaStep
import Derived.ProofKit
import Derived.OpenShut
import Derived.Deep.Slices
import Derived.Deep.Fields
set_option linter.unusedVariables false
set_option linter.unusedSimpArgs false
set_option maxRecDepth 100000
namespace Go.Proofs.Ytcahadkkjfijfaa
open Go.RowKit Go.ChangeShapes Go.WideShapes Go.ChangeAt Go.Deep

def StOk (r : St) : Prop := r.pc < 4294967296 ∧ r.next < 4294967296 ∧ (-9223372036854775808 ≤ r.rd ∧ r.rd ≤ 9223372036854775807) ∧ r.value < 4294967296 ∧ r.addr < 4294967296 ∧ (-9223372036854775808 ≤ r.size ∧ r.size ≤ 9223372036854775807) ∧ True ∧ (-9223372036854775808 ≤ r.halt ∧ r.halt ≤ 9223372036854775807) ∧ (-9223372036854775808 ≤ r.took ∧ r.took ≤ 9223372036854775807)

theorem sts_struct : ∃ f0 f1 f2 f3 f4 f5 f6 f7 f8 : Field, Try.prog.underlying 25 = some (.struct #[f0, f1, f2, f3, f4, f5, f6, f7, f8]) ∧ (f0.offset = 0 ∧ Try.prog.cellsOf f0.type = 1 ∧ Try.prog.underlying f0.type = some (.int .u32)) ∧ (f1.offset = 1 ∧ Try.prog.cellsOf f1.type = 1 ∧ Try.prog.underlying f1.type = some (.int .u32)) ∧ (f2.offset = 2 ∧ Try.prog.cellsOf f2.type = 1 ∧ Try.prog.underlying f2.type = some (.int .i64)) ∧ (f3.offset = 3 ∧ Try.prog.cellsOf f3.type = 1 ∧ Try.prog.underlying f3.type = some (.int .u32)) ∧ (f4.offset = 4 ∧ Try.prog.cellsOf f4.type = 1 ∧ Try.prog.underlying f4.type = some (.int .u32)) ∧ (f5.offset = 5 ∧ Try.prog.cellsOf f5.type = 1 ∧ Try.prog.underlying f5.type = some (.int .i64)) ∧ (f6.offset = 6 ∧ Try.prog.cellsOf f6.type = 1 ∧ Try.prog.underlying f6.type = some .bool) ∧ (f7.offset = 7 ∧ Try.prog.cellsOf f7.type = 1 ∧ Try.prog.underlying f7.type = some (.int .i64)) ∧ (f8.offset = 8 ∧ Try.prog.cellsOf f8.type = 1 ∧ Try.prog.underlying f8.type = some (.int .i64)) := by
  refine ⟨_, _, _, _, _, _, _, _, _, Try.underlying25, ⟨?_, ?_, ?_⟩, ⟨?_, ?_, ?_⟩, ⟨?_, ?_, ?_⟩, ⟨?_, ?_, ?_⟩, ⟨?_, ?_, ?_⟩, ⟨?_, ?_, ?_⟩, ⟨?_, ?_, ?_⟩, ⟨?_, ?_, ?_⟩, ⟨?_, ?_, ?_⟩⟩ <;> kernel_rfl

theorem open_sts1 {H : Type} {enc : TypeId × Value → H} {W : World} {base fuel : Nat} {spare : Nat → Bool} {held : Bool} {cs : List Value} {x : DataW H × List MemPlace} (h : DataW.trod enc Try.prog W base spare held fuel 25 cs = some x) :
    ∃ r : St, cs = r.cells ∧ StOk r := by
  obtain ⟨f0, f1, f2, f3, f4, f5, f6, f7, f8, hu, ⟨o0, k0, u0⟩, ⟨o1, k1, u1⟩, ⟨o2, k2, u2⟩, ⟨o3, k3, u3⟩, ⟨o4, k4, u4⟩, ⟨o5, k5, u5⟩, ⟨o6, k6, u6⟩, ⟨o7, k7, u7⟩, ⟨o8, k8, u8⟩⟩ := sts_struct
  obtain ⟨ys, n, _, _, hl, hyl, hf⟩ := DataW.trod_struct hu h
  have hl9 : cs.length = 9 := hl.trans (by kernel_rfl)
  match cs, hl9 with
  | [a0, a1, a2, a3, a4, a5, a6, a7, a8], _ =>
    match ys, hyl with
    | [y0, y1, y2, y3, y4, y5, y6, y7, y8], _ =>
      have g0 := hf 0 f0 rfl
      have g1 := hf 1 f1 rfl
      have g2 := hf 2 f2 rfl
      have g3 := hf 3 f3 rfl
      have g4 := hf 4 f4 rfl
      have g5 := hf 5 f5 rfl
      have g6 := hf 6 f6 rfl
      have g7 := hf 7 f7 rfl
      have g8 := hf 8 f8 rfl
      rw [o0, k0] at g0
      rw [o1, k1] at g1
      rw [o2, k2] at g2
      rw [o3, k3] at g3
      rw [o4, k4] at g4
      rw [o5, k5] at g5
      rw [o6, k6] at g6
      rw [o7, k7] at g7
      rw [o8, k8] at g8
      obtain ⟨n0, e0, _, w0⟩ := DataW.trod_int u0 g0
      have b0 := bounds_u32 w0
      obtain ⟨m0, rfl⟩ := Int.eq_ofNat_of_zero_le b0.1
      obtain ⟨n1, e1, _, w1⟩ := DataW.trod_int u1 g1
      have b1 := bounds_u32 w1
      obtain ⟨m1, rfl⟩ := Int.eq_ofNat_of_zero_le b1.1
      obtain ⟨n2, e2, _, w2⟩ := DataW.trod_int u2 g2
      have b2 := bounds_i64 w2
      obtain ⟨n3, e3, _, w3⟩ := DataW.trod_int u3 g3
      have b3 := bounds_u32 w3
      obtain ⟨m3, rfl⟩ := Int.eq_ofNat_of_zero_le b3.1
      obtain ⟨n4, e4, _, w4⟩ := DataW.trod_int u4 g4
      have b4 := bounds_u32 w4
      obtain ⟨m4, rfl⟩ := Int.eq_ofNat_of_zero_le b4.1
      obtain ⟨n5, e5, _, w5⟩ := DataW.trod_int u5 g5
      have b5 := bounds_i64 w5
      obtain ⟨n6, e6, _⟩ := DataW.trod_bool u6 g6
      obtain ⟨n7, e7, _, w7⟩ := DataW.trod_int u7 g7
      have b7 := bounds_i64 w7
      obtain ⟨n8, e8, _, w8⟩ := DataW.trod_int u8 g8
      have b8 := bounds_i64 w8
      simp at e0 e1 e2 e3 e4 e5 e6 e7 e8
      subst e0
      subst e1
      subst e2
      subst e3
      subst e4
      subst e5
      subst e6
      subst e7
      subst e8
      exact ⟨⟨m0, m1, n2, m3, m4, n5, n6, n7, n8⟩, rfl, (show m0 < 4294967296 by omega), (show m1 < 4294967296 by omega), b2, (show m3 < 4294967296 by omega), (show m4 < 4294967296 by omega), b5, trivial, b7, b8⟩

theorem open_stsv {H : Type} {enc : TypeId × Value → H} {W : World} {base : Nat} {v : Value} {d : DataW H} {p : List MemPlace}
    (hv : Value.okWide Try.prog W .any base 25 v) (h : DataW.Trod enc Try.prog W 0 (fun _ => true) true 25 v d p) : ∃ r : St, v = r.val ∧ StOk r := by
  obtain ⟨f0, f1, f2, f3, f4, f5, f6, f7, f8, hu, _⟩ := sts_struct
  obtain ⟨cs, rfl, _⟩ := okWide_struct hu hv
  obtain ⟨fuel, hf⟩ := h
  obtain ⟨r, e, hr⟩ := open_sts1 hf
  refine ⟨r, ?_, hr⟩
  have e' : cs.toList = r.cells := e
  have : cs = r.cells.toArray := by rw [← e']
  rw [this]; rfl

theorem an_sts (g o j : Nat) : (⟨g, o, none⟩ : Addr).add j = ⟨g, o + j, none⟩ := by unfold Addr.add; split <;> simp_all
theorem open_sts0 {H : Type} {enc : TypeId × Value → H} {W : World} {fuel : Nat} {T : TypeId} {cs : List Value} {x : DataW H × List MemPlace} (hT : Try.prog.underlying T = some (.slice 25))
    (hf : DataW.trod enc Try.prog W 0 (fun _ => true) true fuel T cs = some x) :
    ∃ A n c, ∃ q : List St, cs = [.slice A n c] ∧ Rd W W.heap.size 9 A n c (sts q) ∧ ∀ r ∈ q, StOk r := by
  have hC : Try.prog.cellsOf 25 = 9 := by kernel_rfl
  rcases open_slice hT hf with ⟨rfl, _⟩ | ⟨a, l, cc, m, f, D, Pl, rfl, _, hl, hm, hmm, _, hi⟩
  · exact ⟨none, 0, 0, [], rfl, Rd.nil (Nat.zero_le _), by simp⟩
  · have hmm' : m = cc := by simpa using hmm
    subst hmm'
    rw [hC] at hi
    have hq : ∀ i : Fin l, ∃ r : St, StOk r ∧ ∀ j < 9, W.cell? ((a.add (i.1 * 9)).add j) = r.cells[j]? := by
      intro i
      obtain ⟨cs', hc, ht⟩ := hi i.1 (by omega)
      obtain ⟨r, rfl, hr⟩ := open_sts1 ht
      obtain ⟨_, hcl, hat⟩ := World.cells?_some hc
      exact ⟨r, hr, fun j hj => hat j hj⟩
    let g := fun i : Fin l => Classical.choose (hq i)
    have hg : ∀ i, StOk (g i) ∧ ∀ j < 9, W.cell? ((a.add (i.1 * 9)).add j) = (g i).cells[j]? := fun i => Classical.choose_spec (hq i)
    refine ⟨some a, l, m, List.ofFn g, rfl, ⟨by rw [sts_len, List.length_ofFn], hl, hm, fun hn => ?_⟩, ?_⟩
    · obtain ⟨b, o, spot⟩ := a
      have h0 := (hg ⟨0, hn⟩).2 0 (by omega)
      have hs : ∃ v0, W.cell? ⟨b, o, spot⟩ = some v0 := by
        have : ((⟨b, o, spot⟩ : Addr).add (0 * 9)).add 0 = ⟨b, o, spot⟩ := by unfold Addr.add; cases spot <;> simp
        rw [this] at h0
        exact ⟨_, h0⟩
      obtain ⟨v0, h0'⟩ := hs
      have hs : spot = none := World.cell?_spot h0'
      subst hs
      refine ⟨b, o, rfl, World.block_lt_of_cell? W _ h0', fun j u hu => ?_⟩
      have hj := (List.getElem?_eq_some_iff.1 hu).1
      rw [sts_len, List.length_ofFn] at hj
      have hk : j / 9 < l := by omega
      have hr := sts_at (q := List.ofFn g) (k := j / 9) (by rw [List.length_ofFn]; exact hk) (j % 9) (by omega)
      rw [show j / 9 * 9 + j % 9 = j by omega, hu, List.getElem_ofFn] at hr
      have h1 := (hg ⟨j / 9, hk⟩).2 (j % 9) (by omega)
      have e1 : ((⟨b, o, none⟩ : Addr).add ((j / 9) * 9)).add (j % 9) = ⟨b, o + j, none⟩ := by
        have e2 : o + j / 9 * 9 + j % 9 = o + j := by omega
        rw [an_sts, an_sts, e2]
      rw [e1] at h1
      rw [h1, hr]
    · intro r hr
      simp only [List.mem_ofFn] at hr
      obtain ⟨i, rfl⟩ := hr
      exact (hg i).1

theorem open_sts {H : Type} {enc : TypeId × Value → H} {W : World} {base : Nat} {v : Value} {d : DataW H} {p : List MemPlace} {T : TypeId} (hT : Try.prog.underlying T = some (.slice 25))
    (hv : Value.okWide Try.prog W .any base T v) (h : DataW.Trod enc Try.prog W 0 (fun _ => true) true T v d p) :
    ∃ A n c, ∃ q : List St, v = .slice A n c ∧ Rd W W.heap.size 9 A n c (sts q) ∧ ∀ r ∈ q, StOk r := by
  obtain ⟨A, n, c, rfl⟩ := okWide_slice hT hv
  obtain ⟨fuel, hf⟩ := h
  have hf' : DataW.trod enc Try.prog W 0 (fun _ => true) true fuel T [.slice A n c] = _ := hf
  obtain ⟨A', n', c', q, e, hr, hq⟩ := open_sts0 hT hf'
  injection e with e _
  injection e with e1 e2 e3
  subst e1 e2 e3
  exact ⟨A, n, c, q, rfl, hr, hq⟩

end Go.Proofs.Ytcahadkkjfijfaa
