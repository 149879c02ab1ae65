/- Arguments of type api.Entry, and slices of it, opened to what the walks ask. -/
import Derived.Test.YtbfllafbklfcjaaEntry
import Derived.Test.YtbfllafbklfcjaaOpenInst
import Derived.ProofKit
import Derived.OpenShut
import Derived.Deep.Slices
import Derived.Deep.Fields
set_option linter.unusedVariables false
set_option linter.unusedSimpArgs false
set_option maxRecDepth 100000
namespace Go.Proofs.Ytbfllafbklfcjaa
open Go.RowKit Go.ChangeShapes Go.WideShapes Go.ChangeAt Go.Deep

def EnOk (r : En) : Prop := (-9223372036854775808 ≤ r.no ∧ r.no ≤ 9223372036854775807) ∧ r.pc < 4294967296 ∧ InsOk r.inst ∧ r.guess < 4294967296 ∧ (-9223372036854775808 ≤ r.is ∧ r.is ≤ 9223372036854775807) ∧ (-9223372036854775808 ≤ r.left ∧ r.left ≤ 9223372036854775807) ∧ r.value < 4294967296 ∧ r.next < 4294967296 ∧ r.addr < 4294967296 ∧ (-9223372036854775808 ≤ r.halt ∧ r.halt ≤ 9223372036854775807) ∧ (-9223372036854775808 ≤ r.took ∧ r.took ≤ 9223372036854775807) ∧ True ∧ True

theorem ens_struct : ∃ f0 f1 f2 f3 f4 f5 f6 f7 f8 f9 f10 f11 f12 : Field, Try.prog.underlying 30 = some (.struct #[f0, f1, f2, f3, f4, f5, f6, f7, f8, f9, f10, f11, f12]) ∧ (f0.offset = 0 ∧ Try.prog.cellsOf f0.type = 1 ∧ Try.prog.underlying f0.type = some (.int .i64)) ∧ (f1.offset = 1 ∧ Try.prog.cellsOf f1.type = 1 ∧ Try.prog.underlying f1.type = some (.int .u32)) ∧ (f2.offset = 2 ∧ Try.prog.cellsOf f2.type = 5 ∧ f2.type = 28) ∧ (f3.offset = 7 ∧ Try.prog.cellsOf f3.type = 1 ∧ Try.prog.underlying f3.type = some (.int .u32)) ∧ (f4.offset = 8 ∧ Try.prog.cellsOf f4.type = 1 ∧ Try.prog.underlying f4.type = some (.int .i64)) ∧ (f5.offset = 9 ∧ Try.prog.cellsOf f5.type = 1 ∧ Try.prog.underlying f5.type = some (.int .i64)) ∧ (f6.offset = 10 ∧ Try.prog.cellsOf f6.type = 1 ∧ Try.prog.underlying f6.type = some (.int .u32)) ∧ (f7.offset = 11 ∧ Try.prog.cellsOf f7.type = 1 ∧ Try.prog.underlying f7.type = some (.int .u32)) ∧ (f8.offset = 12 ∧ Try.prog.cellsOf f8.type = 1 ∧ Try.prog.underlying f8.type = some (.int .u32)) ∧ (f9.offset = 13 ∧ Try.prog.cellsOf f9.type = 1 ∧ Try.prog.underlying f9.type = some (.int .i64)) ∧ (f10.offset = 14 ∧ Try.prog.cellsOf f10.type = 1 ∧ Try.prog.underlying f10.type = some (.int .i64)) ∧ (f11.offset = 15 ∧ Try.prog.cellsOf f11.type = 1 ∧ Try.prog.underlying f11.type = some .bool) ∧ (f12.offset = 16 ∧ Try.prog.cellsOf f12.type = 1 ∧ Try.prog.underlying f12.type = some .bool) := by
  refine ⟨_, _, _, _, _, _, _, _, _, _, _, _, _, Try.underlying30, ⟨?_, ?_, ?_⟩, ⟨?_, ?_, ?_⟩, ⟨?_, ?_, ?_⟩, ⟨?_, ?_, ?_⟩, ⟨?_, ?_, ?_⟩, ⟨?_, ?_, ?_⟩, ⟨?_, ?_, ?_⟩, ⟨?_, ?_, ?_⟩, ⟨?_, ?_, ?_⟩, ⟨?_, ?_, ?_⟩, ⟨?_, ?_, ?_⟩, ⟨?_, ?_, ?_⟩, ⟨?_, ?_, ?_⟩⟩ <;> kernel_rfl

theorem open_ens1 {H : Type} {enc : TypeId × Value → H} {W : World} {base fuel : Nat} {spare : Nat → Bool} {held : Bool} {cs : List Value} {x : DataW H × List MemPlace} (h : DataW.trod enc Try.prog W base spare held fuel 30 cs = some x) :
    ∃ r : En, cs = r.cells ∧ EnOk r := by
  obtain ⟨f0, f1, f2, f3, f4, f5, f6, f7, f8, f9, f10, f11, f12, hu, ⟨o0, k0, u0⟩, ⟨o1, k1, u1⟩, ⟨o2, k2, u2⟩, ⟨o3, k3, u3⟩, ⟨o4, k4, u4⟩, ⟨o5, k5, u5⟩, ⟨o6, k6, u6⟩, ⟨o7, k7, u7⟩, ⟨o8, k8, u8⟩, ⟨o9, k9, u9⟩, ⟨o10, k10, u10⟩, ⟨o11, k11, u11⟩, ⟨o12, k12, u12⟩⟩ := ens_struct
  obtain ⟨ys, n, _, _, hl, hyl, hf⟩ := DataW.trod_struct hu h
  have hl17 : cs.length = 17 := hl.trans (by kernel_rfl)
  match cs, hl17 with
  | [a0, a1, a2, a3, a4, a5, a6, a7, a8, a9, a10, a11, a12, a13, a14, a15, a16], _ =>
    match ys, hyl with
    | [y0, y1, y2, y3, y4, y5, y6, y7, y8, y9, y10, y11, y12], _ =>
      have g0 := hf 0 f0 rfl
      have g1 := hf 1 f1 rfl
      have g2 := hf 2 f2 rfl
      have g3 := hf 3 f3 rfl
      have g4 := hf 4 f4 rfl
      have g5 := hf 5 f5 rfl
      have g6 := hf 6 f6 rfl
      have g7 := hf 7 f7 rfl
      have g8 := hf 8 f8 rfl
      have g9 := hf 9 f9 rfl
      have g10 := hf 10 f10 rfl
      have g11 := hf 11 f11 rfl
      have g12 := hf 12 f12 rfl
      rw [o0, k0] at g0
      rw [o1, k1] at g1
      rw [o2, k2] at g2
      rw [o3, k3] at g3
      rw [o4, k4] at g4
      rw [o5, k5] at g5
      rw [o6, k6] at g6
      rw [o7, k7] at g7
      rw [o8, k8] at g8
      rw [o9, k9] at g9
      rw [o10, k10] at g10
      rw [o11, k11] at g11
      rw [o12, k12] at g12
      obtain ⟨n0, e0, _, w0⟩ := DataW.trod_int u0 g0
      have b0 := bounds_i64 w0
      obtain ⟨n1, e1, _, w1⟩ := DataW.trod_int u1 g1
      have b1 := bounds_u32 w1
      obtain ⟨m1, rfl⟩ := Int.eq_ofNat_of_zero_le b1.1
      rw [u2] at g2
      obtain ⟨n2, e2, w2⟩ := open_inss1 g2
      simp only [Ins.cells] at e2
      obtain ⟨n3, e3, _, w3⟩ := DataW.trod_int u3 g3
      have b3 := bounds_u32 w3
      obtain ⟨m3, rfl⟩ := Int.eq_ofNat_of_zero_le b3.1
      obtain ⟨n4, e4, _, w4⟩ := DataW.trod_int u4 g4
      have b4 := bounds_i64 w4
      obtain ⟨n5, e5, _, w5⟩ := DataW.trod_int u5 g5
      have b5 := bounds_i64 w5
      obtain ⟨n6, e6, _, w6⟩ := DataW.trod_int u6 g6
      have b6 := bounds_u32 w6
      obtain ⟨m6, rfl⟩ := Int.eq_ofNat_of_zero_le b6.1
      obtain ⟨n7, e7, _, w7⟩ := DataW.trod_int u7 g7
      have b7 := bounds_u32 w7
      obtain ⟨m7, rfl⟩ := Int.eq_ofNat_of_zero_le b7.1
      obtain ⟨n8, e8, _, w8⟩ := DataW.trod_int u8 g8
      have b8 := bounds_u32 w8
      obtain ⟨m8, rfl⟩ := Int.eq_ofNat_of_zero_le b8.1
      obtain ⟨n9, e9, _, w9⟩ := DataW.trod_int u9 g9
      have b9 := bounds_i64 w9
      obtain ⟨n10, e10, _, w10⟩ := DataW.trod_int u10 g10
      have b10 := bounds_i64 w10
      obtain ⟨n11, e11, _⟩ := DataW.trod_bool u11 g11
      obtain ⟨n12, e12, _⟩ := DataW.trod_bool u12 g12
      simp at e0 e1 e2 e3 e4 e5 e6 e7 e8 e9 e10 e11 e12
      subst e0
      subst e1
      obtain ⟨rfl, rfl, rfl, rfl, rfl⟩ := e2
      subst e3
      subst e4
      subst e5
      subst e6
      subst e7
      subst e8
      subst e9
      subst e10
      subst e11
      subst e12
      exact ⟨⟨n0, m1, n2, m3, n4, n5, m6, m7, m8, n9, n10, n11, n12⟩, rfl, b0, (show m1 < 4294967296 by omega), w2, (show m3 < 4294967296 by omega), b4, b5, (show m6 < 4294967296 by omega), (show m7 < 4294967296 by omega), (show m8 < 4294967296 by omega), b9, b10, trivial, trivial⟩

theorem open_ensv {H : Type} {enc : TypeId × Value → H} {W : World} {base : Nat} {v : Value} {d : DataW H} {p : List MemPlace}
    (hv : Value.okWide Try.prog W .any base 30 v) (h : DataW.Trod enc Try.prog W 0 (fun _ => true) true 30 v d p) : ∃ r : En, v = r.val ∧ EnOk r := by
  obtain ⟨f0, f1, f2, f3, f4, f5, f6, f7, f8, f9, f10, f11, f12, hu, _⟩ := ens_struct
  obtain ⟨cs, rfl, _⟩ := okWide_struct hu hv
  obtain ⟨fuel, hf⟩ := h
  obtain ⟨r, e, hr⟩ := open_ens1 hf
  refine ⟨r, ?_, hr⟩
  have e' : cs.toList = r.cells := e
  have : cs = r.cells.toArray := by rw [← e']
  rw [this]; rfl

theorem an_ens (g o j : Nat) : (⟨g, o, none⟩ : Addr).add j = ⟨g, o + j, none⟩ := by unfold Addr.add; split <;> simp_all
theorem open_ens0 {H : Type} {enc : TypeId × Value → H} {W : World} {fuel : Nat} {T : TypeId} {cs : List Value} {x : DataW H × List MemPlace} (hT : Try.prog.underlying T = some (.slice 30))
    (hf : DataW.trod enc Try.prog W 0 (fun _ => true) true fuel T cs = some x) :
    ∃ A n c, ∃ q : List En, cs = [.slice A n c] ∧ Rd W W.heap.size 17 A n c (ens q) ∧ ∀ r ∈ q, EnOk r := by
  have hC : Try.prog.cellsOf 30 = 17 := by kernel_rfl
  rcases open_slice hT hf with ⟨rfl, _⟩ | ⟨a, l, cc, m, f, D, Pl, rfl, _, hl, hm, hmm, _, hi⟩
  · exact ⟨none, 0, 0, [], rfl, Rd.nil (Nat.zero_le _), by simp⟩
  · have hmm' : m = cc := by simpa using hmm
    subst hmm'
    rw [hC] at hi
    have hq : ∀ i : Fin l, ∃ r : En, EnOk r ∧ ∀ j < 17, W.cell? ((a.add (i.1 * 17)).add j) = r.cells[j]? := by
      intro i
      obtain ⟨cs', hc, ht⟩ := hi i.1 (by omega)
      obtain ⟨r, rfl, hr⟩ := open_ens1 ht
      obtain ⟨_, hcl, hat⟩ := World.cells?_some hc
      exact ⟨r, hr, fun j hj => hat j hj⟩
    let g := fun i : Fin l => Classical.choose (hq i)
    have hg : ∀ i, EnOk (g i) ∧ ∀ j < 17, W.cell? ((a.add (i.1 * 17)).add j) = (g i).cells[j]? := fun i => Classical.choose_spec (hq i)
    refine ⟨some a, l, m, List.ofFn g, rfl, ⟨by rw [ens_len, List.length_ofFn], hl, hm, fun hn => ?_⟩, ?_⟩
    · obtain ⟨b, o, spot⟩ := a
      have h0 := (hg ⟨0, hn⟩).2 0 (by omega)
      have hs : ∃ v0, W.cell? ⟨b, o, spot⟩ = some v0 := by
        have : ((⟨b, o, spot⟩ : Addr).add (0 * 17)).add 0 = ⟨b, o, spot⟩ := by unfold Addr.add; cases spot <;> simp
        rw [this] at h0
        exact ⟨_, h0⟩
      obtain ⟨v0, h0'⟩ := hs
      have hs : spot = none := World.cell?_spot h0'
      subst hs
      refine ⟨b, o, rfl, World.block_lt_of_cell? W _ h0', fun j u hu => ?_⟩
      have hj := (List.getElem?_eq_some_iff.1 hu).1
      rw [ens_len, List.length_ofFn] at hj
      have hk : j / 17 < l := by omega
      have hr := ens_at (q := List.ofFn g) (k := j / 17) (by rw [List.length_ofFn]; exact hk) (j % 17) (by omega)
      rw [show j / 17 * 17 + j % 17 = j by omega, hu, List.getElem_ofFn] at hr
      have h1 := (hg ⟨j / 17, hk⟩).2 (j % 17) (by omega)
      have e1 : ((⟨b, o, none⟩ : Addr).add ((j / 17) * 17)).add (j % 17) = ⟨b, o + j, none⟩ := by
        have e2 : o + j / 17 * 17 + j % 17 = o + j := by omega
        rw [an_ens, an_ens, e2]
      rw [e1] at h1
      rw [h1, hr]
    · intro r hr
      simp only [List.mem_ofFn] at hr
      obtain ⟨i, rfl⟩ := hr
      exact (hg i).1

theorem open_ens {H : Type} {enc : TypeId × Value → H} {W : World} {base : Nat} {v : Value} {d : DataW H} {p : List MemPlace} {T : TypeId} (hT : Try.prog.underlying T = some (.slice 30))
    (hv : Value.okWide Try.prog W .any base T v) (h : DataW.Trod enc Try.prog W 0 (fun _ => true) true T v d p) :
    ∃ A n c, ∃ q : List En, v = .slice A n c ∧ Rd W W.heap.size 17 A n c (ens q) ∧ ∀ r ∈ q, EnOk r := by
  obtain ⟨A, n, c, rfl⟩ := okWide_slice hT hv
  obtain ⟨fuel, hf⟩ := h
  have hf' : DataW.trod enc Try.prog W 0 (fun _ => true) true fuel T [.slice A n c] = _ := hf
  obtain ⟨A', n', c', q, e, hr, hq⟩ := open_ens0 hT hf'
  injection e with e _
  injection e with e1 e2 e3
  subst e1 e2 e3
  exact ⟨A, n, c, q, rfl, hr, hq⟩

end Go.Proofs.Ytbfllafbklfcjaa
