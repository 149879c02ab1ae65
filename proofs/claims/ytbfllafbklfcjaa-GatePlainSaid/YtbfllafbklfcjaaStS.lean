/- Law over St: a whole element, stored into a row of the call's own. -/
import Derived.Test.YtbfllafbklfcjaaStO
set_option linter.unusedVariables false
set_option linter.unusedSimpArgs false
namespace Go.Proofs.Ytbfllafbklfcjaa
open Go.RowKit

section
variable {P : Program} {ops : Array Oper} {rest : List Oper} {o : Oper} {a : Act} {Q : Exit → Act → World → Prop} {w0 w : World} {D0 D : List Da} {M : List Mu}
theorem St.ownSpl {i g n c : Nat} {e : TypeId} {sz : Nat} {xs : List Value} (h : St w0 D0 w M D) (hm : M[i]? = some (.own (.slice (some ⟨g, 0, none⟩) n c) e sz n xs)) (us : List Value) (off : Nat) (hfit : off + us.length ≤ xs.length) :
    St w0 D0 (w.setCells g off us) (M.set i (.own (.slice (some ⟨g, 0, none⟩) n c) e sz n (spl xs off us))) D := by
  induction us generalizing w M xs off with
  | nil =>
    obtain ⟨hi, e⟩ := List.getElem?_eq_some_iff.1 hm
    rw [spl, ← e, List.set_getElem_self]
    exact h
  | cons v r ih =>
    rw [List.length_cons] at hfit
    obtain ⟨_, h1⟩ := h.ownSet hm off v (by omega)
    have hi := (List.getElem?_eq_some_iff.1 hm).1
    have := ih h1 (List.getElem?_set_self hi) (off + 1) (by rw [List.length_set]; omega)
    rw [List.set_set] at this
    exact this
theorem w_sto {ty : TypeId} {x y : Operand} {g off i n c : Nat} {e : TypeId} {sz : Nat} {xs us : List Value} {M' : List Mu} (ho : o.op = .store ty x y) (hF : St w0 D0 w M D) (hx : look a x = some (.pointer (some ⟨g, off, none⟩))) (hy : look a y = some (.agg us.toArray))
    (h : ∀ w', St w0 D0 w' M' D → wpList P ops Q rest (a.put o.dst undef) w') (hw : Region.wanted o (yielded ops a.tmps) = true := by rfl) (hi : M[i]? = some (.own (.slice (some ⟨g, 0, none⟩) n c) e sz n xs) := by (first | exact at0 | exact at1 | exact at2 | exact at3 | exact at4 | exact at5 | exact at6 | exact at7))
    (hfit : off + us.length ≤ xs.length := by assumption) (ht : RowTy P ty us.length := by exact tyRow _ _ rfl) (h1 : ∀ u ∈ us, OneM M u := by exact oneM_all) (hM : M.set i (.own (.slice (some ⟨g, 0, none⟩) n c) e sz n (spl xs off us)) = M' := by exact rfl) : wpList P ops Q (o :: rest) a w := by
  replace hx := look_eval hx
  replace hy := look_eval hy
  subst hM
  have hF' := hF.ownSpl hi us off hfit
  refine wpList_wanted hw fun K hK => ?_
  obtain ⟨d, hu, hd, hi2⟩ := ht
  have hst := run_storeCells_cells (P := P) g off us 0 w (fun j hj => by
    rw [show off + 0 + j = off + j by omega, hF.ownCell hi (off + j) _ (List.getElem?_eq_getElem (by omega))]; rfl) (fun j hj => by
    rw [show off + 0 + j = off + j by omega]; exact (hF.ownSet hi (off + j) undef (by omega)).1) (fun u hu => hF.oneM (h1 u hu))
  have hrun : (storeVar ty ⟨g, off, none⟩ (.agg us.toArray)).run P w = .ok () (w.setCells g off us) := by
    cases hq : P.info? ty with
    | none => simp [hq] at hi2
    | some i =>
      have hs : i.size = us.length := by simpa [hq] using hi2
      simp [storeVar, sizeOf, typeInfo, hq, Value.cells, hs, hst]
  unfold Oper.wp execOp
  simp only [ho, hx, hy, Instr.storeAt, Instr.sureAddr, Sem.run_bind, Sem.run_pure, Result.andThen_ok, hrun]
  exact hK _ _ (h _ hF')
end
end Go.Proofs.Ytbfllafbklfcjaa
