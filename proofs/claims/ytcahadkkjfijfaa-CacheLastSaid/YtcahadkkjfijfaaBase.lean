/- Small lemmas that all walks of this seat use: worlds that differ by draws, or by new blocks; calls inside a statement that draws its order. -/
import Derived.Test.YtcahadkkjfijfaaProg
import Derived.Handy
import Derived.Lib.Hide
import Derived.Lib.QuietBelow
import Derived.BigQuiet
import Derived.Deep.DeepMust
import Derived.Deep.RegionWith
import Derived.WalkLawsBesides
set_option linter.unusedVariables false
set_option linter.unusedSimpArgs false
namespace Go.Proofs.Ytcahadkkjfijfaa
open Go.RowKit Go.Sort

/-- of what was there nothing has turned -/
def Bel (w w' : World) : Prop := Below w.heap.size w w'
theorem Bel.refl (w : World) : Bel w w := Below.refl _ _
theorem Bel.trans {a b c : World} (h : Bel a b) (k : Bel b c) : Bel a c :=
  Below.trans h ⟨k.os, k.tape, k.output, k.size, fun i hi => k.block i (Nat.lt_of_lt_of_le hi h.size)⟩
theorem Bel.drewN (w : World) (n : Nat) : Bel w (w.drewN n) := ⟨rfl, rfl, rfl, Nat.le_refl _, fun _ _ => rfl⟩
theorem Bel.drew (w : World) : Bel w w.drew := ⟨rfl, rfl, rfl, Nat.le_refl _, fun _ _ => rfl⟩
theorem Bel.alloc (w : World) (o : Obj) : Bel w (w.alloc o) := Below.alloc (Below.refl _ _) (Nat.le_refl _) o
theorem Bel.setCell {a w : World} (h : Bel a w) {p : Addr} (hp : a.heap.size ≤ p.block) (u : Value) : Bel a (w.setCell p u) := Below.setCell h hp u
theorem Bel.grown {a w w' : World} (h : Bel a w) {row : Option Nat} (hg : w.grownBy w' row) (hr : ∀ k, row = some k → a.heap.size ≤ k) : Bel a w' :=
  Below.grown h hg h.size hr
theorem Bel.below {a w : World} (h : Bel a w) : Below a.heap.size a w := h
theorem Bel.size {a w : World} (h : Bel a w) : a.heap.size ≤ w.heap.size := Below.size h
theorem Bel.cell {a w : World} (h : Bel a w) {p : Addr} (hp : p.block < a.heap.size) : w.cell? p = a.cell? p := Below.cell h hp
theorem Bel.cell_of {a w : World} (h : Bel a w) {p : Addr} {v : Value} (hp : a.cell? p = some v) : w.cell? p = some v := by
  rw [h.cell (World.block_lt_of_cell? a p hp)]; exact hp
theorem Bel.frozen {a w : World} (h : Bel a w) {p : Addr} (hp : p.block < a.heap.size) : w.frozen? p = a.frozen? p := Below.frozen h hp

theorem bcell {W w1 : World} (hb : Bel W w1) : (∀ b o, b < W.heap.size → w1.cell? ⟨b, o, none⟩ = W.cell? ⟨b, o, none⟩) ∧ (∀ b o, b < W.heap.size → w1.frozen? ⟨b, o, none⟩ = W.frozen? ⟨b, o, none⟩) :=
  ⟨fun b o h => hb.cell (p := ⟨b, o, none⟩) h, fun b o h => hb.frozen (p := ⟨b, o, none⟩) h⟩

section
variable {P : Program} {f : FuncId} {args : Array Value} {w : World} {v : Value}

/-- a contract that only draws, met in a statement that draws its order -/
theorem quiet1 {n : Nat} (h : Calls P f args (w.drewN n) fun e w' => e = .returned v ∧ ∃ m, w' = (w.drewN n).drewN m) :
    Calls P f args (w.drewN n) fun e w' => e = .returned v ∧ ∃ m, w' = w.drewN m :=
  h.mono fun _ _ ⟨he, m, hm⟩ => ⟨he, n + m, by rw [hm, World.drewN_drewN]⟩
theorem quiet2 {a n : Nat} (h : Calls P f args (w.drewN (a + n)) fun e w' => e = .returned v ∧ ∃ m, w' = (w.drewN (a + n)).drewN m) :
    Calls P f args (w.drewN (a + n)) fun e w' => e = .returned v ∧ ∃ m, w' = w.drewN (a + m) :=
  h.mono fun _ _ ⟨he, m, hm⟩ => ⟨he, n + m, by rw [hm, World.drewN_drewN, Nat.add_assoc]⟩
/-- a contract that only draws is one that turns nothing -/
theorem bel_of_draws (h : Calls P f args w fun e w' => e = .returned v ∧ ∃ m, w' = w.drewN m) : Calls P f args w fun e w' => e = .returned v ∧ Bel w w' :=
  h.mono fun _ _ ⟨he, m, hm⟩ => ⟨he, by rw [hm]; exact Bel.drewN w m⟩
/-- a contract that turns nothing, met in a statement that draws its order and holds calls that make memory -/
theorem grow1 {d : Nat} {os : Array Obj} (h : Calls P f args (grow (redrawn w d) os) fun e w' => e = .returned v ∧ Bel (grow (redrawn w d) os) w') :
    Calls P f args (grow (redrawn w d) os) fun e w'' => e = .returned v ∧ ∃ p : Regrown, w'' = grow (redrawn w p.d) p.os := Calls.regrown_of h
theorem bel_grow (w : World) (d : Nat) (os : Array Obj) : Bel w (grow (redrawn w d) os) := below_regrown w d os
end
theorem val_u32 {a b : Int} (h : a = b) : Ending.returned (.int .u32 a) = .returned (.int .u32 b) := by rw [h]
theorem val_i64 {a b : Int} (h : a = b) : Ending.returned (.int .i64 a) = .returned (.int .i64 b) := by rw [h]
theorem val_bool {a b : Bool} (h : a = b) : Ending.returned (.bool a) = .returned (.bool b) := by rw [h]

/-- cuts of a string, in the walk's spelling -/
theorem slice_str_sum {P : Program} (t : TypeId) (ht : P.underlying t = some .string) (s : ByteArray) (a k : Nat) (h : a + k ≤ s.size) (W : World) :
    (Instr.slice t (.string s) (some (.int .i64 (a : Int))) (some (.int .i64 ((a : Int) + (k : Int)))) none).run P W = .ok (.string (s.extract a (a + k))) W := by
  have := run_slice_string (P := P) W t s .i64 .i64 (a : Int) ((a : Int) + (k : Int)) ht (by omega) (by omega) (by omega)
  rw [this, Int.toNat_natCast, show ((a : Int) + (k : Int)).toNat = a + k by omega]
theorem slice_str {P : Program} (t : TypeId) (ht : P.underlying t = some .string) (s : ByteArray) (a b : Nat) (h1 : a ≤ b) (h : b ≤ s.size) (W : World) :
    (Instr.slice t (.string s) (some (.int .i64 (a : Int))) (some (.int .i64 (b : Int))) none).run P W = .ok (.string (s.extract a b)) W := by
  have := run_slice_string (P := P) W t s .i64 .i64 (a : Int) (b : Int) ht (by omega) (by omega) (by omega)
  rw [this, Int.toNat_natCast, Int.toNat_natCast]

theorem cut_list (m : ByteArray) (a b : Nat) : (m.extract a b).data.toList = (m.data.toList.take b).drop a := by
  rw [ByteArray.data_extract, Array.toList_extract, List.extract_eq_take_drop, List.drop_take]
theorem cut_size (m : ByteArray) (a b : Nat) : (m.extract a b).size = min b m.size - a := by simp [ByteArray.size_extract]
theorem str_len (m : ByteArray) : m.data.toList.length = m.size := by simp

end Go.Proofs.Ytcahadkkjfijfaa
