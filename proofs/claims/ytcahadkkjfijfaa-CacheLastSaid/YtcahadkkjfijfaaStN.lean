/- Names for the blocks that stand there. -/
import Derived.Test.YtcahadkkjfijfaaRgA
set_option linter.unusedVariables false
set_option linter.unusedSimpArgs false
namespace Go.Proofs.Ytcahadkkjfijfaa
open Go.RowKit

section
variable {w0 w : World} {D0 D : List Da} {M : List Mu} {g1 g2 g3 g4 g5 g6 g7 g8 : Nat} {t1 t2 t3 t4 t5 t6 t7 t8 : TypeId} {c1 c2 c3 c4 c5 c6 c7 c8 : List Value}
theorem St.names1 (h : St w0 D0 w (.blk g1 t1 c1 :: M) D) : ∃ a, a = g1 := ⟨_, rfl⟩
theorem St.names2 (h : St w0 D0 w (.blk g1 t1 c1 :: .blk g2 t2 c2 :: M) D) : ∃ a b, a = g1 ∧ b = g2 := ⟨_, _, rfl, rfl⟩
theorem St.names3 (h : St w0 D0 w (.blk g1 t1 c1 :: .blk g2 t2 c2 :: .blk g3 t3 c3 :: M) D) : ∃ a b c, a = g1 ∧ b = g2 ∧ c = g3 := ⟨_, _, _, rfl, rfl, rfl⟩
theorem St.names4 (h : St w0 D0 w (.blk g1 t1 c1 :: .blk g2 t2 c2 :: .blk g3 t3 c3 :: .blk g4 t4 c4 :: M) D) : ∃ a b c d, a = g1 ∧ b = g2 ∧ c = g3 ∧ d = g4 := ⟨_, _, _, _, rfl, rfl, rfl, rfl⟩
theorem St.names5 (h : St w0 D0 w (.blk g1 t1 c1 :: .blk g2 t2 c2 :: .blk g3 t3 c3 :: .blk g4 t4 c4 :: .blk g5 t5 c5 :: M) D) : ∃ a b c d e, a = g1 ∧ b = g2 ∧ c = g3 ∧ d = g4 ∧ e = g5 := ⟨_, _, _, _, _, rfl, rfl, rfl, rfl, rfl⟩
theorem St.names6 (h : St w0 D0 w (.blk g1 t1 c1 :: .blk g2 t2 c2 :: .blk g3 t3 c3 :: .blk g4 t4 c4 :: .blk g5 t5 c5 :: .blk g6 t6 c6 :: M) D) : ∃ a b c d e f, a = g1 ∧ b = g2 ∧ c = g3 ∧ d = g4 ∧ e = g5 ∧ f = g6 := ⟨_, _, _, _, _, _, rfl, rfl, rfl, rfl, rfl, rfl⟩
end
end Go.Proofs.Ytcahadkkjfijfaa
