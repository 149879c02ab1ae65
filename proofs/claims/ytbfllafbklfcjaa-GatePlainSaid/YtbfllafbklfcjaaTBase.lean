/- Rows of entries and of ints over St. -/
import Derived.Test.YtbfllafbklfcjaaStO
import Derived.Test.YtbfllafbklfcjaaMk
import Derived.Test.YtbfllafbklfcjaaOpenEntry
set_option linter.unusedVariables false
set_option linter.unusedSimpArgs false
namespace Go.Proofs.Ytbfllafbklfcjaa
open Go.RowKit

instance ensRows : Rows ens En.cells 17 := ⟨fun _ => rfl, fun _ => rfl, En.one, by decide⟩
instance ensOne (q : List En) : OneC (ens q) := ⟨ens_one q⟩
instance enOne (r : En) : OneC r.cells := ⟨r.one⟩
/-- ints as cells -/
def i64s (ks : List Int) : List Value := ks.map (Value.int .i64)
theorem i64s_len (l : List Int) : (i64s l).length = l.length := by simp [i64s]
theorem i64s_at {l : List Int} {k : Nat} {x : Int} (h : l[k]? = some x) : (i64s l)[k]? = some (.int .i64 x) := by simp [i64s, h]
theorem i64s_one (l : List Int) : ∀ u ∈ i64s l, u.oneCell' = true := fun u hu => by
  obtain ⟨x, _, rfl⟩ := List.mem_map.1 hu
  rfl
instance i64sOne (l : List Int) : OneC (i64s l) := ⟨i64s_one l⟩
theorem i64s_append (a b : List Int) : i64s (a ++ b) = i64s a ++ i64s b := by simp [i64s]
theorem i64s_take (a : List Int) (k : Nat) : (i64s a).take k = i64s (a.take k) := by simp [i64s, List.map_take]
theorem Rd.i64slen {w : World} {B n c : Nat} {A : Option Addr} {l : List Int} (h : Rd w B 1 A n c (i64s l)) : l.length = n := by
  have := h.len; rw [i64s_len] at this; omega
def okI (x : Int) : Prop := -9223372036854775808 ≤ x ∧ x ≤ 9223372036854775807
theorem EnOk.op {r : En} (h : EnOk r) : okI r.inst.op := h.2.2.1.1
theorem EnOk.rs1 {r : En} (h : EnOk r) : okI r.inst.rs1 := h.2.2.1.2.2.1
theorem EnOk.rs2 {r : En} (h : EnOk r) : okI r.inst.rs2 := h.2.2.1.2.2.2.1
def ensOk (q : List En) : Prop := ∀ r ∈ q, EnOk r
theorem ensOk.op {q : List En} (h : ensOk q) : opOk q := fun r hr => (h r hr).op
theorem ensOk.take {q : List En} (h : ensOk q) (k : Nat) : ensOk (q.take k) := fun r hr => h r (List.mem_of_mem_take hr)
end Go.Proofs.Ytbfllafbklfcjaa
