/- Results that lie in cells, alone or beside slots: what a function hands back, off the blocks that are known. -/
import Derived.Test.YtcahadkkjfijfaaBk
import Derived.Laws.Rows
set_option linter.unusedVariables false
set_option linter.unusedSimpArgs false
namespace Go.Proofs.Ytcahadkkjfijfaa
open Go.RowKit

/-- a type of struct or array kind, of so many cells -/
def RowTy (P : Program) (ty : TypeId) (n : Nat) : Prop := ∃ d, P.underlying ty = some d ∧ (match d with | .struct _ | .array _ _ => true | _ => false) = true ∧ (P.info? ty).map (·.size) = some n
theorem Bk.loadVar {P : Program} {w : World} {g : Nat} {t ty : TypeId} {cs : List Value} (h : Bk w g t cs) (ht : RowTy P ty cs.length) : (loadVar ty ⟨g, 0, none⟩).run P w = .ok (.agg cs.toArray) w := by
  obtain ⟨r, hg, _⟩ := h
  obtain ⟨d, hu, hd, hi⟩ := ht
  have hi2 : (P.info? ty).map (·.size) = some cs.toArray.size := by simpa using hi
  cases d <;> first | exact run_loadVar_row w g t ty cs.toArray r _ hg hu rfl hi2 | (simp at hd)
section
variable {P : Program} {fn : Func} {p p' q q' q'' : Tmp} {ty ty' : TypeId} {w : World} {g g' : Nat} {t t' : TypeId} {cs cs' : List Value} {tmps : Array Value}
theorem res_c (h : fn.results = #[.cell p ty]) (hp : tmps.getD p undef = .pointer (some ⟨g, 0, none⟩)) (hb : Bk w g t cs) (ht : RowTy P ty cs.length) : (results fn tmps).run P w = .ok (.agg cs.toArray) w := by
  have hp' : tmps[p]?.getD undef = .pointer (some ⟨g, 0, none⟩) := by simpa using hp
  simp [results, h, hp', asAddr, hb.loadVar ht]
theorem res_cs (h : fn.results = #[.cell p ty, .tmp q]) (hp : tmps.getD p undef = .pointer (some ⟨g, 0, none⟩)) (hb : Bk w g t cs) (ht : RowTy P ty cs.length) : (results fn tmps).run P w = .ok (.tuple #[.agg cs.toArray, tmps.getD q undef]) w := by
  have hp' : tmps[p]?.getD undef = .pointer (some ⟨g, 0, none⟩) := by simpa using hp
  simp [results, h, hp', asAddr, hb.loadVar ht]
theorem res_css (h : fn.results = #[.cell p ty, .tmp q, .tmp q']) (hp : tmps.getD p undef = .pointer (some ⟨g, 0, none⟩)) (hb : Bk w g t cs) (ht : RowTy P ty cs.length) : (results fn tmps).run P w = .ok (.tuple #[.agg cs.toArray, tmps.getD q undef, tmps.getD q' undef]) w := by
  have hp' : tmps[p]?.getD undef = .pointer (some ⟨g, 0, none⟩) := by simpa using hp
  simp [results, h, hp', asAddr, hb.loadVar ht]
theorem res_scs (h : fn.results = #[.tmp q, .cell p ty, .tmp q']) (hp : tmps.getD p undef = .pointer (some ⟨g, 0, none⟩)) (hb : Bk w g t cs) (ht : RowTy P ty cs.length) : (results fn tmps).run P w = .ok (.tuple #[tmps.getD q undef, .agg cs.toArray, tmps.getD q' undef]) w := by
  have hp' : tmps[p]?.getD undef = .pointer (some ⟨g, 0, none⟩) := by simpa using hp
  simp [results, h, hp', asAddr, hb.loadVar ht]
theorem res_scss (h : fn.results = #[.tmp q, .cell p ty, .tmp q', .tmp q'']) (hp : tmps.getD p undef = .pointer (some ⟨g, 0, none⟩)) (hb : Bk w g t cs) (ht : RowTy P ty cs.length) : (results fn tmps).run P w = .ok (.tuple #[tmps.getD q undef, .agg cs.toArray, tmps.getD q' undef, tmps.getD q'' undef]) w := by
  have hp' : tmps[p]?.getD undef = .pointer (some ⟨g, 0, none⟩) := by simpa using hp
  simp [results, h, hp', asAddr, hb.loadVar ht]
theorem res_ccs (h : fn.results = #[.cell p ty, .cell p' ty', .tmp q]) (hp : tmps.getD p undef = .pointer (some ⟨g, 0, none⟩)) (hb : Bk w g t cs) (ht : RowTy P ty cs.length)
    (hp2 : tmps.getD p' undef = .pointer (some ⟨g', 0, none⟩)) (hb2 : Bk w g' t' cs') (ht2 : RowTy P ty' cs'.length) : (results fn tmps).run P w = .ok (.tuple #[.agg cs.toArray, .agg cs'.toArray, tmps.getD q undef]) w := by
  have hp' : tmps[p]?.getD undef = .pointer (some ⟨g, 0, none⟩) := by simpa using hp
  have hp2' : tmps[p']?.getD undef = .pointer (some ⟨g', 0, none⟩) := by simpa using hp2
  simp [results, h, hp', hp2', asAddr, hb.loadVar ht, hb2.loadVar ht2]
end
theorem Bk.new' (w : World) (t : TypeId) (cs : List Value) (g : Nat) (h : w.heap.size = g) : Bk (w.alloc (.cells cs.toArray t)) g t cs := by
  subst h; exact Bk.new w t cs

end Go.Proofs.Ytcahadkkjfijfaa
