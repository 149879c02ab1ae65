/- Joined: Base, Sl, Bk, Res, Ql, St. -/
import Derived.Test.YtcahadkkjfijfaaProg
import Derived.Handy
import Derived.Lib.Hide
import Derived.Lib.QuietBelow
import Derived.BigQuiet
import Derived.Deep.DeepMust
import Derived.Deep.RegionWith
import Derived.WalkLawsBesides
import Derived.OwnWalk
import Derived.Laws.OwnMore
import Derived.Maps.AppendAt
import Derived.Laws.BytesArg
import Derived.Laws.IdiomCopy
import Derived.Lib.AppendStr
import Derived.ArgAppend
import Derived.Laws.AppendOwnNone
import Derived.Room.Entries
import Derived.Laws.Rows
import Derived.Laws.Tables
import Derived.Laws.StructEq
import Derived.Maps.RangeWalk
/- Small lemmas that all walks of this seat use: worlds that differ by draws, or by new blocks; calls inside a statement that draws its order. -/
set_option linter.unusedVariables false
set_option linter.unusedSimpArgs false
namespace Go.Proofs.Ytcahadkkjfijfaa
open Go.RowKit Go.Sort

/-- of what was there nothing has turned -/
def Bel (w w' : World) : Prop := Below w.heap.size w w'
theorem Bel.refl (w : World) : Bel w w := Below.refl _ _
theorem Bel.trans {a b c : World} (h : Bel a b) (k : Bel b c) : Bel a c :=
  Below.trans h ⟨k.os, k.tape, k.output, k.size, fun i hi => k.block i (Nat.lt_of_lt_of_le hi h.size)⟩
theorem Bel.drewN (w : World) (n : Nat) : Bel w (w.drewN n) := ⟨rfl, rfl, rfl, Nat.le_refl _, fun _ _ => rfl⟩
theorem Bel.drew (w : World) : Bel w w.drew := ⟨rfl, rfl, rfl, Nat.le_refl _, fun _ _ => rfl⟩
theorem Bel.alloc (w : World) (o : Obj) : Bel w (w.alloc o) := Below.alloc (Below.refl _ _) (Nat.le_refl _) o
theorem Bel.setCell {a w : World} (h : Bel a w) {p : Addr} (hp : a.heap.size ≤ p.block) (u : Value) : Bel a (w.setCell p u) := Below.setCell h hp u
theorem Bel.grown {a w w' : World} (h : Bel a w) {row : Option Nat} (hg : w.grownBy w' row) (hr : ∀ k, row = some k → a.heap.size ≤ k) : Bel a w' :=
  Below.grown h hg h.size hr
theorem Bel.below {a w : World} (h : Bel a w) : Below a.heap.size a w := h
theorem Bel.size {a w : World} (h : Bel a w) : a.heap.size ≤ w.heap.size := Below.size h
theorem Bel.cell {a w : World} (h : Bel a w) {p : Addr} (hp : p.block < a.heap.size) : w.cell? p = a.cell? p := Below.cell h hp
theorem Bel.cell_of {a w : World} (h : Bel a w) {p : Addr} {v : Value} (hp : a.cell? p = some v) : w.cell? p = some v := by
  rw [h.cell (World.block_lt_of_cell? a p hp)]; exact hp
theorem Bel.frozen {a w : World} (h : Bel a w) {p : Addr} (hp : p.block < a.heap.size) : w.frozen? p = a.frozen? p := Below.frozen h hp

theorem bcell {W w1 : World} (hb : Bel W w1) : (∀ b o, b < W.heap.size → w1.cell? ⟨b, o, none⟩ = W.cell? ⟨b, o, none⟩) ∧ (∀ b o, b < W.heap.size → w1.frozen? ⟨b, o, none⟩ = W.frozen? ⟨b, o, none⟩) :=
  ⟨fun b o h => hb.cell (p := ⟨b, o, none⟩) h, fun b o h => hb.frozen (p := ⟨b, o, none⟩) h⟩

section
variable {P : Program} {f : FuncId} {args : Array Value} {w : World} {v : Value}

/-- a contract that only draws, met in a statement that draws its order -/
theorem quiet1 {n : Nat} (h : Calls P f args (w.drewN n) fun e w' => e = .returned v ∧ ∃ m, w' = (w.drewN n).drewN m) :
    Calls P f args (w.drewN n) fun e w' => e = .returned v ∧ ∃ m, w' = w.drewN m :=
  h.mono fun _ _ ⟨he, m, hm⟩ => ⟨he, n + m, by rw [hm, World.drewN_drewN]⟩
theorem quiet2 {a n : Nat} (h : Calls P f args (w.drewN (a + n)) fun e w' => e = .returned v ∧ ∃ m, w' = (w.drewN (a + n)).drewN m) :
    Calls P f args (w.drewN (a + n)) fun e w' => e = .returned v ∧ ∃ m, w' = w.drewN (a + m) :=
  h.mono fun _ _ ⟨he, m, hm⟩ => ⟨he, n + m, by rw [hm, World.drewN_drewN, Nat.add_assoc]⟩
/-- a contract that only draws is one that turns nothing -/
theorem bel_of_draws (h : Calls P f args w fun e w' => e = .returned v ∧ ∃ m, w' = w.drewN m) : Calls P f args w fun e w' => e = .returned v ∧ Bel w w' :=
  h.mono fun _ _ ⟨he, m, hm⟩ => ⟨he, by rw [hm]; exact Bel.drewN w m⟩
/-- a contract that turns nothing, met in a statement that draws its order and holds calls that make memory -/
theorem grow1 {d : Nat} {os : Array Obj} (h : Calls P f args (grow (redrawn w d) os) fun e w' => e = .returned v ∧ Bel (grow (redrawn w d) os) w') :
    Calls P f args (grow (redrawn w d) os) fun e w'' => e = .returned v ∧ ∃ p : Regrown, w'' = grow (redrawn w p.d) p.os := Calls.regrown_of h
theorem bel_grow (w : World) (d : Nat) (os : Array Obj) : Bel w (grow (redrawn w d) os) := below_regrown w d os
end
theorem val_u32 {a b : Int} (h : a = b) : Ending.returned (.int .u32 a) = .returned (.int .u32 b) := by rw [h]
theorem val_i64 {a b : Int} (h : a = b) : Ending.returned (.int .i64 a) = .returned (.int .i64 b) := by rw [h]
theorem val_bool {a b : Bool} (h : a = b) : Ending.returned (.bool a) = .returned (.bool b) := by rw [h]

/-- cuts of a string, in the walk's spelling -/
theorem slice_str_sum {P : Program} (t : TypeId) (ht : P.underlying t = some .string) (s : ByteArray) (a k : Nat) (h : a + k ≤ s.size) (W : World) :
    (Instr.slice t (.string s) (some (.int .i64 (a : Int))) (some (.int .i64 ((a : Int) + (k : Int)))) none).run P W = .ok (.string (s.extract a (a + k))) W := by
  have := run_slice_string (P := P) W t s .i64 .i64 (a : Int) ((a : Int) + (k : Int)) ht (by omega) (by omega) (by omega)
  rw [this, Int.toNat_natCast, show ((a : Int) + (k : Int)).toNat = a + k by omega]
theorem slice_str {P : Program} (t : TypeId) (ht : P.underlying t = some .string) (s : ByteArray) (a b : Nat) (h1 : a ≤ b) (h : b ≤ s.size) (W : World) :
    (Instr.slice t (.string s) (some (.int .i64 (a : Int))) (some (.int .i64 (b : Int))) none).run P W = .ok (.string (s.extract a b)) W := by
  have := run_slice_string (P := P) W t s .i64 .i64 (a : Int) (b : Int) ht (by omega) (by omega) (by omega)
  rw [this, Int.toNat_natCast, Int.toNat_natCast]

theorem cut_list (m : ByteArray) (a b : Nat) : (m.extract a b).data.toList = (m.data.toList.take b).drop a := by
  rw [ByteArray.data_extract, Array.toList_extract, List.extract_eq_take_drop, List.drop_take]
theorem cut_size (m : ByteArray) (a b : Nat) : (m.extract a b).size = min b m.size - a := by simp [ByteArray.size_extract]
theorem str_len (m : ByteArray) : m.data.toList.length = m.size := by simp

end Go.Proofs.Ytcahadkkjfijfaa

/- Slices that read as lists; appending to a slice that the call itself made. -/
set_option linter.unusedVariables false
set_option linter.unusedSimpArgs false
namespace Go.Proofs.Ytcahadkkjfijfaa
open Go.RowKit

/-- The slice value '.slice A n c' reads as the cells xs (sz cells an element) and lies below block B. -/
structure Rd (w : World) (B sz : Nat) (A : Option Addr) (n c : Nat) (xs : List Value) : Prop where
  len : xs.length = n * sz
  le : n ≤ c
  mx : c ≤ maxLen
  at_ : 0 < n → ∃ g o, A = some ⟨g, o, none⟩ ∧ g < B ∧ ∀ j u, xs[j]? = some u → w.cell? ⟨g, o + j, none⟩ = some u

section
variable {w w' : World} {B B' sz n c : Nat} {A : Option Addr} {xs : List Value}
theorem Rd.keep (h : Rd w B sz A n c xs) (hk : ∀ p : Addr, p.block < B → w'.cell? p = w.cell? p) : Rd w' B sz A n c xs :=
  ⟨h.len, h.le, h.mx, fun hn => by
    obtain ⟨g, o, e, hb, hc⟩ := h.at_ hn
    exact ⟨g, o, e, hb, fun j u hu => (hk _ hb).trans (hc j u hu)⟩⟩
theorem Rd.more (h : Rd w B sz A n c xs) (hB : B ≤ B') : Rd w B' sz A n c xs :=
  ⟨h.len, h.le, h.mx, fun hn => by
    obtain ⟨g, o, e, hb, hc⟩ := h.at_ hn
    exact ⟨g, o, e, by omega, hc⟩⟩
theorem Rd.below (h : Rd w B sz A n c xs) (hb : Below B w w') : Rd w' B sz A n c xs := h.keep fun _ hp => hb.cell hp
theorem Rd.bel (h : Rd w w.heap.size sz A n c xs) (hb : Bel w w') : Rd w' w'.heap.size sz A n c xs := (h.below hb).more hb.size
theorem Rd.drewN (h : Rd w B sz A n c xs) (k : Nat) : Rd (w.drewN k) B sz A n c xs := ⟨h.len, h.le, h.mx, h.at_⟩
theorem Rd.nil (hc : c ≤ maxLen) : Rd w B sz A 0 c [] := ⟨by simp, by omega, hc, fun h => absurd h (by omega)⟩
theorem Rd.alloc (h : Rd w B sz A n c xs) (hB : B ≤ w.heap.size) (o : Obj) : Rd (w.alloc o) B sz A n c xs :=
  h.keep fun p hp => World.cell?_alloc_lt w o p (by omega)
theorem Rd.setCell (h : Rd w B sz A n c xs) {p : Addr} (hB : B ≤ p.block) (u : Value) : Rd (w.setCell p u) B sz A n c xs :=
  h.keep fun q hq => World.cell?_setCell_other w p q u (fun e => by subst e; omega)
theorem Rd.grown (h : Rd w B sz A n c xs) {row : Option Nat} (hg : w.grownBy w' row) (hB : B ≤ w.heap.size) (hr : ∀ g, row = some g → B ≤ g) : Rd w' B sz A n c xs :=
  h.keep fun p hp => World.cell?_of_block (hg.block p.block (by omega) (fun e => by have := hr _ e.symm; omega))
/-- one-cell elements: the cell of element k -/
theorem Rd.cell1 (h : Rd w B 1 A n c xs) {k : Nat} (hk : k < n) : ∃ g o u, A = some ⟨g, o, none⟩ ∧ g < B ∧ xs[k]? = some u ∧ w.cell? ⟨g, o + k, none⟩ = some u := by
  obtain ⟨g, o, e, hb, hc⟩ := h.at_ (by omega)
  have hl : k < xs.length := by have := h.len; omega
  exact ⟨g, o, xs[k], e, hb, List.getElem?_eq_getElem hl, hc k _ (List.getElem?_eq_getElem hl)⟩
/-- what the call has built reads as a list -/
theorem Rd.of_own {base : Nat} {e : TypeId} {v : Value} (h : w.ownsRow base e sz v n xs) : ∃ A c, v = .slice A n c ∧ Rd w w.heap.size sz A n c xs := by
  rcases h.2 with ⟨rfl, rfl⟩ | ⟨g, cap, cur, rfl, hb, hh, hnc, hcm, hcs, htake⟩
  · exact ⟨none, 0, rfl, ⟨h.1, by omega, by simp [maxLen], fun h => absurd h (by omega)⟩⟩
  · refine ⟨_, cap, rfl, ⟨h.1, hnc, hcm, fun hn => ⟨g, 0, rfl, (h.lt g rfl).2, fun j u hu => ?_⟩⟩⟩
    have := h.cells (g := g) rfl j u hu
    unfold Addr.add at this
    split at this
    · rename_i hj; subst hj; simpa using this
    · simpa using this
end

theorem own_empty (w : World) (base : Nat) (e : TypeId) (sz : Nat) (hb : base ≤ w.heap.size) : (w.alloc (.cells #[] e)).ownsRow base e sz (.slice (some ⟨w.heap.size, 0, none⟩) 0 0) 0 [] :=
  World.ownsRow_made w #[] 0 hb (by simp [maxLen]) (by simp)

theorem own_drewN {w : World} {base : Nat} {e : TypeId} {sz : Nat} {v : Value} {n : Nat} {xs : List Value} (h : w.ownsRow base e sz v n xs) (k : Nat) : (w.drewN k).ownsRow base e sz v n xs := h
theorem own_bel {w w' : World} {base : Nat} {e : TypeId} {sz : Nat} {v : Value} {n : Nat} {xs : List Value} (h : w.ownsRow base e sz v n xs) (hb : Bel w w') : w'.ownsRow base e sz v n xs :=
  h.kept (row := none) ⟨hb.os, hb.tape, hb.output, hb.size, fun k hk _ => hb.block k hk⟩ (by cases v.ownBlock <;> simp)
theorem Bel.then_grown {a w w' : World} (h : Bel a w) {base : Nat} {e : TypeId} {sz : Nat} {v : Value} {n : Nat} {xs : List Value} (hown : w.ownsRow base e sz v n xs) (hg : w.grownBy w' v.ownBlock) (hb : a.heap.size ≤ base) : Bel a w' :=
  h.grown hg fun k hk => Nat.le_trans hb (hown.lt k hk).1
/-- cells that lie in the newest block -/
theorem cells_new (W : World) (us : List Value) (e : TypeId) : ∀ j u, us[j]? = some u → (W.alloc (.cells us.toArray e)).cell? ((⟨W.heap.size, 0, none⟩ : Addr).add j) = some u := by
  intro j u hu
  have h : (⟨W.heap.size, 0, none⟩ : Addr).add j = ⟨W.heap.size, j, none⟩ := by
    unfold Addr.add; split
    · rename_i hj; subst hj; rfl
    · simp
  rw [h, cell_of_row _ W.heap.size j us.toArray e (0, 0) (heap_alloc_new W _)]
  simpa using hu

section
variable {P : Program} {ops : Array Oper} {rest : List Oper} {o : Oper} {a : Act} {Q : Exit → Act → World → Prop}
/-- 'append(out, x..)' of m elements laid in a new block, out the call's own: behind it nothing but out's own row has turned. -/
theorem wpList_app (W : World) (us : List Value) (m : Nat) (hgd : o.guard = none) (s x : Operand) (t : TypeId)
    (ho : o.op = .call { callee := .builtin .append, args := #[s, x], argTypes := #[t, t] })
    (base : Nat) (e : TypeId) (z : Value) (sz bytes : Nat) (ht : P.underlying t = some (.slice e)) (hinfo : (P.info? e).map (fun i => (i.zero, i.size, i.bytes)) = some (some z, sz, bytes))
    (hzs : z.cells.size = sz) (hsz : 0 < sz)
    (v : Value) (n : Nat) (xs : List Value) (hs : a.eval s = v) (hown : W.ownsRow base e sz v n xs)
    (hx : a.eval x = .slice (some ⟨W.heap.size, 0, none⟩) m m) (hl : us.length = m * sz) (h1 : ∀ u ∈ us, u.oneCell' = true)
    (h63 : n + m ≤ 9223372036854775807) (hbytes : (n + m) * bytes ≤ 140737488355328) (hbase : base ≤ W.heap.size)
    (h : ∀ v' w', w'.ownsRow base e sz v' (n + m) (xs ++ us) → W.grownBy w' v.ownBlock → wpList P ops Q rest (a.put o.dst v') w') : wpList P ops Q (o :: rest) a (W.alloc (.cells us.toArray e)) := by
  obtain ⟨i0, hi, hz0, hz1, hz2⟩ := info_parts hinfo
  refine wpList_append_own _ hgd s x t ho base e i0 z sz bytes ht hi hz0 hz1 hz2 hzs hsz v n xs hs (hown.alloc _) ⟨W.heap.size, 0, none⟩ m m us hx hl (cells_new W us e) h1 (by simp only [maxLen]; omega) hbytes (by simp; omega) ?_
  intro v' w' hown' hg _
  refine h v' w' hown' ⟨hg.os, hg.tape, hg.output, Nat.le_trans (by simp) hg.size, fun k hk hne => ?_⟩
  rw [hg.block k (by simp; omega) hne]
  exact Below.heap_alloc W _ k hk
end

/-- bytes as cells -/
def byteCells (l : List UInt8) : List Value := l.map fun b => .int .u8 (b.toNat : Int)
theorem byteCells_len (l : List UInt8) : (byteCells l).length = l.length := by simp [byteCells]
theorem byteCells_one (l : List UInt8) : ∀ u ∈ byteCells l, u.oneCell' = true := by
  intro u hu
  simp only [byteCells, List.mem_map] at hu
  obtain ⟨b, _, rfl⟩ := hu
  rfl
theorem byteCells_append (a b : List UInt8) : byteCells (a ++ b) = byteCells a ++ byteCells b := by simp [byteCells]
theorem byteCells_at {l : List UInt8} {k : Nat} (h : k < l.length) : (byteCells l)[k]? = some (.int .u8 ((l[k]'h).toNat : Int)) := by simp [byteCells, h]

/-- 'string(b)' -/
theorem run_string_of {P : Program} {w : World} {B n c : Nat} {A : Option Addr} {l : List UInt8} (src dst e : TypeId) (hs : P.underlying src = some (.slice e)) (he : P.underlying e = some (.int .u8)) (hd : P.underlying dst = some .string)
    (h : Rd w B 1 A n c (byteCells l)) : (convert src dst (.slice A n c)).run P w = .ok (.string ⟨l.toArray⟩) w := by
  have hl : l.length = n := by have := h.len; rw [byteCells_len] at this; omega
  rcases Nat.eq_zero_or_pos n with hn | hn
  · subst hn
    obtain rfl : l = [] := List.eq_nil_of_length_eq_zero hl
    rw [run_convert_bytes_string w src dst e A 0 c hs he hd]
    cases A with
    | none => simp [Conv.bytesToString]; rfl
    | some a =>
      have hz : (loadCells a 0).run P w = .ok (([] : List Int).map (Value.int .u8)).toArray w := by
        simpa using run_loadCells_list (P := P) w a [] (fun j v hj => by simp at hj)
      rw [run_bytesToString w a 0 c [] hz]
      rfl
  · obtain ⟨g, o, rfl, _, hc⟩ := h.at_ hn
    have := run_convert_bytes_arg (P := P) w src e hs he g o n c (l.map fun b => (b.toNat : Int)) (by simpa using hl) (fun i hi => by
      rw [hc i _ (byteCells_at (by omega))]
      simp [List.getD, show i < l.length by omega]) dst hd
    rw [this]
    congr 2
    simp only [strOfNums, List.map_map]
    congr 2
    conv => rhs; rw [← List.map_id l]
    apply List.map_congr_left
    intro b _
    simp

section
variable {P : Program} {ops : Array Oper} {rest : List Oper} {o : Oper} {a : Act} {Q : Exit → Act → World → Prop}
theorem wpList_string {w : World} {B n c : Nat} {A : Option Addr} {l : List UInt8} (hgd : o.guard = none) (src dst e : TypeId) (x : Operand) (ho : o.op = .convert src dst x)
    (hs : P.underlying src = some (.slice e)) (he : P.underlying e = some (.int .u8)) (hd : P.underlying dst = some .string) (h : Rd w B 1 A n c (byteCells l)) (hx : a.eval x = .slice A n c)
    (hk : wpList P ops Q rest (a.put o.dst (.string ⟨l.toArray⟩)) w) : wpList P ops Q (o :: rest) a w := by
  refine wpList_plain hgd fun K hK => ?_
  unfold Oper.wp
  simp [execOp, ho, hx, run_string_of src dst e hs he hd h, Result.andThen]
  exact hK _ _ hk
end

section
variable {P : Program} {ops : Array Oper} {rest : List Oper} {o : Oper} {a : Act} {Q : Exit → Act → World → Prop}
/-- 'min(x, y)', kept behind a name -/
theorem wpList_min {w : World} (hgd : o.guard = none) (x y : Operand) (ts : Array TypeId) (ho : o.op = .call { callee := .builtin .min, args := #[x, y], argTypes := ts })
    (k k' : IntKind) (p q N : Int) (hx : a.eval x = .int k p) (hy : a.eval y = .int k' q) (hN : N = if q < p then q else p)
    (h : wpList P ops Q rest (a.put o.dst (.int k N)) w) : wpList P ops Q (o :: rest) a w := by
  refine wpList_plain hgd fun K hK => ?_
  have hrun := fun ts t => run_min_int2 (P := P) w ts t k k' p q
  unfold Oper.wp execOp
  simp only [ho, resolve, invoke, builtin, Sem.run_bind, Sem.run_pure, Result.andThen_ok, List.map_toArray, List.map_cons, List.map_nil, hx, hy, hrun]
  rw [← hN]
  exact hK _ _ h
end
/-- a cut of a slice from its head -/
theorem Rd.to {w : World} {B sz n c N : Nat} {A : Option Addr} {xs : List Value} (h : Rd w B sz A n c xs) (hN : N ≤ n) : Rd w B sz A N c (xs.take (N * sz)) := by
  have h1 := h.len
  have h2 : N * sz ≤ n * sz := Nat.mul_le_mul_right _ hN
  refine ⟨by rw [List.length_take]; omega, Nat.le_trans hN h.le, h.mx, fun hn => ?_⟩
  obtain ⟨g, o, e, hb, hc⟩ := h.at_ (by omega)
  refine ⟨g, o, e, hb, fun j u hu => hc j u ?_⟩
  rw [List.getElem?_take] at hu
  split at hu
  · exact hu
  · cases hu

end Go.Proofs.Ytcahadkkjfijfaa

/- Blocks that are known whole; copying into them; strings as byte blocks. -/
set_option linter.unusedVariables false
set_option linter.unusedSimpArgs false
namespace Go.Proofs.Ytcahadkkjfijfaa
open Go.RowKit

/-- Block g is just the cells cs of element type t; none of them is frozen. -/
def Bk (w : World) (g : Nat) (t : TypeId) (cs : List Value) : Prop :=
  ∃ r : Nat × Nat, w.heap[g]? = some (.cells cs.toArray t r) ∧ ∀ i, i < cs.length → ¬ (r.1 ≤ i ∧ i < r.2)

section
variable {w w' : World} {g : Nat} {t : TypeId} {cs : List Value}
theorem Bk.lt (h : Bk w g t cs) : g < w.heap.size := by
  obtain ⟨r, h, _⟩ := h
  exact (Array.getElem?_eq_some_iff.1 h).1
theorem Bk.cell (h : Bk w g t cs) (i : Nat) : w.cell? ⟨g, i, none⟩ = cs[i]? := by
  obtain ⟨r, h, _⟩ := h
  rw [cell_of_row w g i cs.toArray t r h]; simp
theorem Bk.frozen (h : Bk w g t cs) {i : Nat} (hi : i < cs.length) : w.frozen? ⟨g, i, none⟩ = false := by
  obtain ⟨r, h, hf⟩ := h
  have := hf i hi
  simp only [World.frozen?, h]
  simp only [Bool.and_eq_false_iff, decide_eq_false_iff_not]
  by_cases h1 : r.1 ≤ i
  · exact .inr (fun h2 => this ⟨h1, h2⟩)
  · exact .inl h1
theorem Bk.new (w : World) (t : TypeId) (cs : List Value) : Bk (w.alloc (.cells cs.toArray t)) w.heap.size t cs := ⟨(0, 0), heap_alloc_new w _, by intro i _; omega⟩
theorem Bk.keep (h : Bk w g t cs) (hk : w'.heap[g]? = w.heap[g]?) : Bk w' g t cs := by
  obtain ⟨r, h, hf⟩ := h
  exact ⟨r, hk.trans h, hf⟩
theorem Bk.bel (h : Bk w g t cs) (hb : Bel w w') : Bk w' g t cs := h.keep (hb.block g h.lt)
theorem Bk.drewN (h : Bk w g t cs) (n : Nat) : Bk (w.drewN n) g t cs := h
theorem Bk.alloc (h : Bk w g t cs) (o : Obj) : Bk (w.alloc o) g t cs := h.keep (Below.heap_alloc w o g h.lt)
theorem Bk.grown (h : Bk w g t cs) {row : Option Nat} (hg : w.grownBy w' row) (hne : some g ≠ row) : Bk w' g t cs := h.keep (hg.block g h.lt hne)
theorem Bk.set_ (h : Bk w g t cs) (i : Nat) (u : Value) : Bk (w.setCell ⟨g, i, none⟩ u) g t (cs.set i u) := by
  obtain ⟨r, h, hf⟩ := h
  refine ⟨r, ?_, by simpa using hf⟩
  simp [World.setCell, Array.getElem?_modify, h]
theorem Bk.far (h : Bk w g t cs) {p : Addr} (hp : g ≠ p.block) (u : Value) : Bk (w.setCell p u) g t cs := h.keep (Below.heap_setCell w p u g hp)
/-- a slice over a block reads as a part of its cells -/
theorem Bk.rd (h : Bk w g t cs) {sz n c o : Nat} (hn : o + n * sz ≤ cs.length) (hc : n ≤ c) (hm : c ≤ maxLen) : Rd w w.heap.size sz (some ⟨g, o, none⟩) n c ((cs.drop o).take (n * sz)) :=
  ⟨by rw [List.length_take, List.length_drop]; omega, hc, hm, fun _ => ⟨g, o, rfl, h.lt, fun j u hu => by
    rw [h.cell, ← hu, List.getElem?_take, List.getElem?_drop]
    split
    · rfl
    · rename_i hj
      exfalso
      rw [List.getElem?_take, if_neg hj] at hu
      cases hu⟩⟩
/-- the same block as a row that the call owns -/
theorem Bk.of_own {base : Nat} {e : TypeId} {sz n cap : Nat} {xs : List Value} (h : w.ownsRow base e sz (.slice (some ⟨g, 0, none⟩) n cap) n xs) (hc : cap = n) : Bk w g e xs := by
  subst hc
  rcases h.2 with ⟨h', _⟩ | ⟨g', cap', cur, h', _, hg, hnc, _, hcs, htake⟩
  · simp at h'
  · simp only [Value.slice.injEq, Option.some.injEq, Addr.mk.injEq, and_true, true_and] at h'
    obtain ⟨rfl, rfl⟩ := h'
    refine ⟨(0, 0), ?_, by intro i _; omega⟩
    rw [hg, ← htake, List.take_of_length_le (by rw [Array.length_toList, hcs]; exact Nat.le_refl _)]
end

/-- cells written over others from a place on -/
def spl (cs : List Value) (o : Nat) : List Value → List Value
  | [] => cs
  | v :: r => spl (cs.set o v) (o + 1) r
theorem spl_len (cs : List Value) (o : Nat) (vs : List Value) : (spl cs o vs).length = cs.length := by
  induction vs generalizing cs o with
  | nil => rfl
  | cons v r ih => rw [spl, ih]; simp
theorem spl_eq (cs : List Value) (o : Nat) (vs : List Value) (h : o + vs.length ≤ cs.length) : spl cs o vs = cs.take o ++ vs ++ cs.drop (o + vs.length) := by
  induction vs generalizing cs o with
  | nil => simp [spl]
  | cons v r ih =>
    rw [List.length_cons] at h
    rw [spl, ih _ _ (by simp; omega)]
    have h1 : (cs.set o v).take (o + 1) = cs.take o ++ [v] := by
      rw [List.take_set, List.take_succ_eq_append_getElem (by omega), List.set_append_right _ _ (by simp; omega)]
      simp [List.length_take, Nat.min_eq_left (show o ≤ cs.length by omega)]
    have h2 : (cs.set o v).drop (o + 1 + r.length) = cs.drop (o + (v :: r).length) := by
      rw [List.drop_set_of_lt (by omega)]
      congr 1
      simp; omega
    rw [h1, h2]
    simp

theorem Bk.setCells {w : World} {g : Nat} {t : TypeId} {cs : List Value} (h : Bk w g t cs) (vs : List Value) (o : Nat) : Bk (w.setCells g o vs) g t (spl cs o vs) ∧ w.grownBy (w.setCells g o vs) (some g) := by
  induction vs generalizing w cs o with
  | nil => exact ⟨h, World.grownBy.refl w _⟩
  | cons v r ih =>
    obtain ⟨h1, h2⟩ := ih (h.set_ o v) (o + 1)
    refine ⟨h1, ⟨h2.os, h2.tape, h2.output, Nat.le_trans (by simp [World.setCell]) h2.size, fun k hk hne => ?_⟩⟩
    rw [World.setCells, h2.block k (by simpa [World.setCell] using hk) hne]
    exact Below.heap_setCell w _ v k (fun e => hne (by rw [e]))

section
variable {P : Program} {ops : Array Oper} {rest : List Oper} {o : Oper} {a : Act} {Q : Exit → Act → World → Prop}

/-- 'copy(dst, s)', s a string, dst within a block that is known -/
theorem wpList_copy_str {w : World} (hgd : o.guard = none) (d s : Operand) (dT sT : TypeId)
    (ho : o.op = .call { callee := .builtin .copy, args := #[d, s], argTypes := #[dT, sT] }) (e : TypeId) (hu : P.underlying dT = some (.slice e)) (hsz : (P.info? e).map (·.size) = some 1)
    (g off dLen dCap : Nat) (str : ByteArray) (hd : a.eval d = .slice (some ⟨g, off, none⟩) dLen dCap) (hs : a.eval s = .string str)
    (t : TypeId) (cs : List Value) (hg : Bk w g t cs) (hfit : off + min str.size dLen ≤ cs.length)
    (h : ∀ w', Bk w' g t (spl cs off (byteCells (str.data.toList.take (min str.size dLen)))) → w.grownBy w' (some g) → wpList P ops Q rest (a.put o.dst (goInt (min str.size dLen : Nat))) w') : wpList P ops Q (o :: rest) a w := by
  refine wpList_plain hgd fun K hK => ?_
  have hlen : (byteCells (str.data.toList.take (min str.size dLen))).length = min str.size dLen := by
    rw [byteCells_len, List.length_take]; simp
  have hst := run_storeCells_cells (P := P) g off (byteCells (str.data.toList.take (min str.size dLen))) 0 w (fun j hj => by
    rw [hlen] at hj
    rw [hg.cell, Nat.add_zero, List.getElem?_eq_getElem (by omega)]; rfl) (fun j hj => by
    rw [hlen] at hj
    exact hg.frozen (by omega)) (byteCells_one _)
  obtain ⟨k1, k2⟩ := hg.setCells (byteCells (str.data.toList.take (min str.size dLen))) (off + 0)
  obtain ⟨i, hi, hi1⟩ : ∃ i, P.info? e = some i ∧ i.size = 1 := by
    cases hq : P.info? e with
    | none => simp [hq] at hsz
    | some i => exact ⟨i, rfl, by simpa [hq] using hsz⟩
  have hf : (Builtin.firstCells 1 (min str.size dLen) (.string str)).run P w = .ok (byteCells (str.data.toList.take (min str.size dLen))).toArray w := by
    simp [Builtin.firstCells, byteCells]
    apply Array.ext'
    simp
  have hrun : (Builtin.copy_ #[dT, sT] o.type #[.slice (some ⟨g, off, none⟩) dLen dCap, .string str]).run P w = .ok (goInt (min str.size dLen : Nat)) (w.setCells g (off + 0) (byteCells (str.data.toList.take (min str.size dLen)))) := by
    simp [Builtin.copy_, run_underlying hu, Builtin.lenOf, sizeOf, typeInfo, hi, hi1, hf, hst]
  unfold Oper.wp execOp
  simp only [ho, resolve, invoke, builtin, Sem.run_bind, Sem.run_pure, Result.andThen_ok, List.map_toArray, List.map_cons, List.map_nil, hd, hs, hrun]
  exact hK _ _ (h _ k1 k2)
end

section
variable {P : Program} {ops : Array Oper} {rest : List Oper} {o : Oper} {a : Act} {Q : Exit → Act → World → Prop}

/-- '[]byte(s)': a new block of the string's bytes, with spare room behind them -/
theorem wpList_tobytes {w : World} (hgd : o.guard = none) (src dst e : TypeId) (x : Operand) (ho : o.op = .convert src dst x)
    (hs : P.underlying src = some .string) (hd : P.underlying dst = some (.slice e)) (he : P.underlying e = some (.int .u8)) (s : ByteArray) (hx : a.eval x = .string s) (hsz : s.size ≤ maxLen)
    (h : ∀ cap w', s.size ≤ cap → cap ≤ maxLen → Bk w' w.heap.size e (byteCells s.data.toList ++ List.replicate (cap - s.size) (.int .u8 0)) → Bel w w' → w.heap.size < w'.heap.size →
      wpList P ops Q rest (a.put o.dst (.slice (some ⟨w.heap.size, 0, none⟩) s.size cap)) w') : wpList P ops Q (o :: rest) a w := by
  refine wpList_plain hgd fun K hK => ?_
  have hrun := run_bytes_of_string (P := P) w src dst e s hs hd he
  unfold Oper.wp
  simp [execOp, ho, hx, hrun, Result.andThen]
  refine hK _ _ (h _ _ (grownCap_ge w s.size 0 e) (grownCap_le_maxLen w s.size 0 e hsz) ⟨((bytesRow s (grownCap w s.size 0 e)).size, (bytesRow s (grownCap w s.size 0 e)).size + 1), ?_, ?_⟩ ?_ ?_)
  · rw [show ∀ (C : Array Value) (r : Nat × Nat), (w.drew.alloc (.cells C e r)).heap[w.heap.size]? = some (.cells C e r) from fun C r => by
      show (w.heap.push (.cells C e r))[w.heap.size]? = _
      simp]
    congr 2
    apply Array.ext'
    simp [bytesRow, byteCells]
  · intro i hi
    have : (bytesRow s (grownCap w s.size 0 e)).size = (byteCells s.data.toList ++ List.replicate (grownCap w s.size 0 e - s.size) (Value.int .u8 0)).length := by
      simp [bytesRow, byteCells]
    simp only [this]
    omega
  · exact (Bel.drew w).trans (Bel.alloc _ _)
  · show w.heap.size < (w.heap.push _).size
    simp

/-- 'append(b, s...)', s a string, b without room -/
theorem wpList_app_str_full {w : World} (hgd : o.guard = none) (sl x : Operand) (t u : TypeId)
    (ho : o.op = .call { callee := .builtin .append, args := #[sl, x], argTypes := #[t, u] })
    (e : TypeId) (ht : P.underlying t = some (.slice e)) (hu : P.underlying u = some .string) (hinfo : (P.info? e).map (fun i => (i.zero, i.size, i.bytes)) = some (some (.int .u8 0), 1, 1))
    (g f n : Nat) (xs : List Value) (hs : a.eval sl = .slice (some ⟨g, f, none⟩) n n) (B : Nat) (hr : Rd w B 1 (some ⟨g, f, none⟩) n n xs) (s : ByteArray) (hx : a.eval x = .string s) (h0 : 0 < s.size)
    (h63 : n + s.size ≤ 140737488355328)
    (h : ∀ v' w', w'.ownsRow w.heap.size e 1 v' (n + s.size) (xs ++ byteCells s.data.toList) → w.grownBy w' none → wpList P ops Q rest (a.put o.dst v') w') : wpList P ops Q (o :: rest) a w := by
  obtain ⟨i, hi, hz, hz1, hz2⟩ := info_parts hinfo
  refine wpList_plain hgd fun K hK => ?_
  have hlen : xs.length = n * i.size := by rw [hz1]; exact hr.len
  have holds : ∀ j v, xs[j]? = some v → w.cell? ((⟨g, f, none⟩ : Addr).add j) = some v := by
    intro j v hv
    have hj := (List.getElem?_eq_some_iff.1 hv).1
    have hl := hr.len
    obtain ⟨g', f', e', _, hc⟩ := hr.at_ (by omega)
    injection e' with e'
    injection e' with e1 e2
    subst e1 e2
    have e3 : (⟨g, f, none⟩ : Addr).add j = ⟨g, f + j, none⟩ := by unfold Addr.add; split <;> simp_all
    rw [e3]; exact hc j v hv
  have hrun := Lib.run_append_grow_string (P := P) w t u o.type e i (.int .u8 0) ht hu hi hz ⟨g, f, none⟩ n n xs hlen holds s (by omega) (by omega) (by rw [hz2]; exact growslice_fits (by omega) (by omega))
  unfold Oper.wp execOp
  simp only [ho, resolve, invoke, builtin, Sem.run_bind, Sem.run_pure, Result.andThen_ok, List.map_toArray, List.map_cons, List.map_nil, hs, hx, hrun]
  have hge := grownCap_ge w (n + s.size) n e
  have hcm := grownCap_le_maxLen w (n + s.size) n e (by unfold maxLen; omega)
  have hxl : xs.length = n := by have := hr.len; omega
  have hsc : Lib.strCells s = byteCells s.data.toList := rfl
  refine hK _ _ (h _ _ ⟨?_, .inr ⟨w.heap.size, _, _, rfl, Nat.le_refl _, heap_alloc_new w.drew _, hge, hcm, ?_, ?_⟩⟩ ⟨rfl, rfl, rfl, by simp, fun k hk _ => Below.heap_alloc w.drew _ k hk⟩)
  · rw [List.length_append, byteCells_len, str_len, hxl]; omega
  · simp only [Array.size_append, List.size_toArray, size_zeroCells, Lib.strCells_length, hxl, Value.cells]
    simp only [List.size_toArray, List.length_cons, List.length_nil]
    omega
  · simp only [Array.toList_append, List.append_assoc, hsc]
    rw [← List.append_assoc, List.take_append_of_le_length (by rw [List.length_append, byteCells_len, str_len, hxl]; omega), List.take_of_length_le (by rw [List.length_append, byteCells_len, str_len, hxl]; omega)]

/-- 'append(out, xs...)', out the call's own, xs a slice that reads as a list (nil let in) -/
theorem wpList_app_rd {w : World} (hgd : o.guard = none) (s x : Operand) (t : TypeId)
    (ho : o.op = .call { callee := .builtin .append, args := #[s, x], argTypes := #[t, t] })
    (base : Nat) (e : TypeId) (z : Value) (sz bytes : Nat) (ht : P.underlying t = some (.slice e)) (hinfo : (P.info? e).map (fun i => (i.zero, i.size, i.bytes)) = some (some z, sz, bytes))
    (hzs : z.cells.size = sz) (hsz : 0 < sz)
    (v : Value) (n : Nat) (xs : List Value) (hs : a.eval s = v) (hown : w.ownsRow base e sz v n xs)
    (B : Nat) (A : Option Addr) (m c : Nat) (us : List Value) (hx : a.eval x = .slice A m c) (hr : Rd w B sz A m c us) (h1 : ∀ u ∈ us, u.oneCell' = true)
    (h63 : n + m ≤ 9223372036854775807) (hbytes : (n + m) * bytes ≤ 140737488355328) (hbase : base ≤ w.heap.size)
    (h : ∀ v' w', w'.ownsRow base e sz v' (n + m) (xs ++ us) → w.grownBy w' v.ownBlock → wpList P ops Q rest (a.put o.dst v') w') : wpList P ops Q (o :: rest) a w := by
  obtain ⟨i0, hi, hz0, hz1, hz2⟩ := info_parts hinfo
  have main : ∀ ad, A = some ad → wpList P ops Q (o :: rest) a w := by
    rintro ad rfl
    refine wpList_append_own _ hgd s x t ho base e i0 z sz bytes ht hi hz0 hz1 hz2 hzs hsz v n xs hs hown ad m c us hx hr.len ?_ h1 (by simp only [maxLen]; omega) hbytes hbase (fun v' w' k1 k2 _ => h v' w' k1 k2)
    intro j u hu
    have hj := (List.getElem?_eq_some_iff.1 hu).1
    have hl := hr.len
    have hm : 0 < m := by
      rcases Nat.eq_zero_or_pos m with h0 | h0
      · subst h0; omega
      · exact h0
    obtain ⟨g', f', e', _, hc⟩ := hr.at_ hm
    injection e' with e'
    subst e'
    have e3 : (⟨g', f', none⟩ : Addr).add j = ⟨g', f' + j, none⟩ := by unfold Addr.add; split <;> simp_all
    rw [e3]; exact hc j u hu
  cases A with
  | some ad => exact main ad rfl
  | none =>
    have hm : m = 0 := by
      rcases Nat.eq_zero_or_pos m with h0 | h0
      · exact h0
      · obtain ⟨g, f, e, _⟩ := hr.at_ h0
        cases e
    subst hm
    obtain rfl : us = [] := List.eq_nil_of_length_eq_zero (by simpa using hr.len)
    refine wpList_plain hgd fun K hK => ?_
    have hrun : (Builtin.append_ #[t, t] o.type #[v, .slice none 0 c]).run P w = .ok v w := by
      rcases hown.2 with ⟨rfl, rfl⟩ | ⟨g, cap, cur, rfl, _, _, hnc, _⟩
      · simp [Builtin.append_, run_underlying ht, sizeOf, typeInfo, hi, Builtin.lenOf, Builtin.firstCells]
      · simp [Builtin.append_, run_underlying ht, sizeOf, typeInfo, hi, Builtin.lenOf, Builtin.firstCells, hnc, storeCells]
    unfold Oper.wp execOp
    simp only [ho, resolve, invoke, builtin, Sem.run_bind, Sem.run_pure, Result.andThen_ok, List.map_toArray, List.map_cons, List.map_nil, hs, hx, hrun]
    exact hK _ _ (h v w (by simpa using hown) (World.grownBy.refl w _))
end

section
variable {P : Program} {ops : Array Oper} {rest : List Oper} {o : Oper} {a : Act} {Q : Exit → Act → World → Prop}
/-- 'copy(dst, src)', both of n elements, dst within a block that is known -/
theorem wpList_copy_rd {w : World} (hgd : o.guard = none) (d s : Operand) (t' : TypeId)
    (ho : o.op = .call { callee := .builtin .copy, args := #[d, s], argTypes := #[t', t'] }) (e : TypeId) (hu : P.underlying t' = some (.slice e)) (sz : Nat) (hsz : (P.info? e).map (·.size) = some sz)
    (g off n dCap : Nat) (A : Option Addr) (c : Nat) (hd : a.eval d = .slice (some ⟨g, off, none⟩) n dCap) (hs : a.eval s = .slice A n c)
    (B : Nat) (us : List Value) (hr : Rd w B sz A n c us) (h1 : ∀ u ∈ us, u.oneCell' = true)
    (t : TypeId) (cs : List Value) (hg : Bk w g t cs) (hfit : off + n * sz ≤ cs.length)
    (h : ∀ w', Bk w' g t (spl cs off us) → w.grownBy w' (some g) → wpList P ops Q rest (a.put o.dst (goInt (n : Nat))) w') : wpList P ops Q (o :: rest) a w := by
  refine wpList_plain hgd fun K hK => ?_
  have hl := hr.len
  obtain ⟨i, hi, hi1⟩ : ∃ i, P.info? e = some i ∧ i.size = sz := by
    cases hq : P.info? e with
    | none => simp [hq] at hsz
    | some i => exact ⟨i, rfl, by simpa [hq] using hsz⟩
  have hst := run_storeCells_cells (P := P) g off us 0 w (fun j hj => by
    rw [hg.cell, Nat.add_zero, List.getElem?_eq_getElem (by omega)]; rfl) (fun j hj => hg.frozen (by omega)) h1
  obtain ⟨k1, k2⟩ := hg.setCells us (off + 0)
  have hf : (Builtin.firstCells i.size n (.slice A n c)).run P w = .ok us.toArray w := by
    rw [hi1]
    cases A with
    | none =>
      have : n = 0 := by
        rcases Nat.eq_zero_or_pos n with h0 | h0
        · exact h0
        · obtain ⟨g, f, e, _⟩ := hr.at_ h0
          cases e
      subst this
      obtain rfl : us = [] := List.eq_nil_of_length_eq_zero (by simpa using hl)
      exact run_firstCells_none w _ _ _ _
    | some ad =>
      refine run_firstCells_some (P := P) w sz n ad n c us hl fun j u hu => ?_
      have hj := (List.getElem?_eq_some_iff.1 hu).1
      have hm : 0 < n := by
        rcases Nat.eq_zero_or_pos n with h0 | h0
        · subst h0; omega
        · exact h0
      obtain ⟨g', f', e', _, hc⟩ := hr.at_ hm
      injection e' with e'
      subst e'
      have e3 : (⟨g', f', none⟩ : Addr).add j = ⟨g', f' + j, none⟩ := by unfold Addr.add; split <;> simp_all
      rw [e3]; exact hc j u hu
  have hrun : (Builtin.copy_ #[t', t'] o.type #[.slice (some ⟨g, off, none⟩) n dCap, .slice A n c]).run P w = .ok (goInt (n : Nat)) (w.setCells g (off + 0) us) := by
    simp [Builtin.copy_, run_underlying hu, Builtin.lenOf, sizeOf, typeInfo, hi, hf, hst]
  unfold Oper.wp execOp
  simp only [ho, resolve, invoke, builtin, Sem.run_bind, Sem.run_pure, Result.andThen_ok, List.map_toArray, List.map_cons, List.map_nil, hd, hs, hrun]
  exact hK _ _ (h _ k1 k2)
/-- 'max(x, y)', kept behind a name -/
theorem wpList_max {w : World} (hgd : o.guard = none) (x y : Operand) (ts : Array TypeId) (ho : o.op = .call { callee := .builtin .max, args := #[x, y], argTypes := ts })
    (k k' : IntKind) (p q N : Int) (hx : a.eval x = .int k p) (hy : a.eval y = .int k' q) (hN : N = if q > p then q else p)
    (h : wpList P ops Q rest (a.put o.dst (.int k N)) w) : wpList P ops Q (o :: rest) a w := by
  refine wpList_plain hgd fun K hK => ?_
  have hrun := fun ts t => run_max_int2 (P := P) w ts t k k' p q
  unfold Oper.wp execOp
  simp only [ho, resolve, invoke, builtin, Sem.run_bind, Sem.run_pure, Result.andThen_ok, List.map_toArray, List.map_cons, List.map_nil, hx, hy, hrun]
  rw [← hN]
  exact hK _ _ h
end
theorem spl_all (cs us : List Value) (h : us.length = cs.length) : spl cs 0 us = us := by
  rw [spl_eq _ _ _ (by omega)]; simp [h]

end Go.Proofs.Ytcahadkkjfijfaa

/- Results that lie in cells, alone or beside slots: what a function hands back, off the blocks that are known. -/
set_option linter.unusedVariables false
set_option linter.unusedSimpArgs false
namespace Go.Proofs.Ytcahadkkjfijfaa
open Go.RowKit

/-- a type of struct or array kind, of so many cells -/
inductive RowTy (P : Program) (ty : TypeId) (n : Nat) : Prop
  | mk (d : TypeDesc) (hu : P.underlying ty = some d) (hd : (match d with | .struct _ | .array _ _ => true | _ => false) = true) (hi : (P.info? ty).map (·.size) = some n)
theorem Bk.loadVar {P : Program} {w : World} {g : Nat} {t ty : TypeId} {cs : List Value} (h : Bk w g t cs) (ht : RowTy P ty cs.length) : (loadVar ty ⟨g, 0, none⟩).run P w = .ok (.agg cs.toArray) w := by
  obtain ⟨r, hg, _⟩ := h
  obtain ⟨d, hu, hd, hi⟩ := ht
  have hi2 : (P.info? ty).map (·.size) = some cs.toArray.size := by simpa using hi
  cases d <;> first | exact run_loadVar_row w g t ty cs.toArray r _ hg hu rfl hi2 | (simp at hd)
section
variable {P : Program} {fn : Func} {p p' q q' q'' : Tmp} {ty ty' : TypeId} {w : World} {g g' : Nat} {t t' : TypeId} {cs cs' : List Value} {tmps : Array Value}
theorem res_c (h : fn.results = #[.cell p ty]) (hp : tmps.getD p undef = .pointer (some ⟨g, 0, none⟩)) (hb : Bk w g t cs) (ht : RowTy P ty cs.length) : (results fn tmps).run P w = .ok (.agg cs.toArray) w := by
  have hp' : tmps[p]?.getD undef = .pointer (some ⟨g, 0, none⟩) := by simpa using hp
  simp [results, h, hp', asAddr, hb.loadVar ht]
theorem res_cs (h : fn.results = #[.cell p ty, .tmp q]) (hp : tmps.getD p undef = .pointer (some ⟨g, 0, none⟩)) (hb : Bk w g t cs) (ht : RowTy P ty cs.length) : (results fn tmps).run P w = .ok (.tuple #[.agg cs.toArray, tmps.getD q undef]) w := by
  have hp' : tmps[p]?.getD undef = .pointer (some ⟨g, 0, none⟩) := by simpa using hp
  simp [results, h, hp', asAddr, hb.loadVar ht]
theorem res_css (h : fn.results = #[.cell p ty, .tmp q, .tmp q']) (hp : tmps.getD p undef = .pointer (some ⟨g, 0, none⟩)) (hb : Bk w g t cs) (ht : RowTy P ty cs.length) : (results fn tmps).run P w = .ok (.tuple #[.agg cs.toArray, tmps.getD q undef, tmps.getD q' undef]) w := by
  have hp' : tmps[p]?.getD undef = .pointer (some ⟨g, 0, none⟩) := by simpa using hp
  simp [results, h, hp', asAddr, hb.loadVar ht]
theorem res_scs (h : fn.results = #[.tmp q, .cell p ty, .tmp q']) (hp : tmps.getD p undef = .pointer (some ⟨g, 0, none⟩)) (hb : Bk w g t cs) (ht : RowTy P ty cs.length) : (results fn tmps).run P w = .ok (.tuple #[tmps.getD q undef, .agg cs.toArray, tmps.getD q' undef]) w := by
  have hp' : tmps[p]?.getD undef = .pointer (some ⟨g, 0, none⟩) := by simpa using hp
  simp [results, h, hp', asAddr, hb.loadVar ht]
theorem res_scss (h : fn.results = #[.tmp q, .cell p ty, .tmp q', .tmp q'']) (hp : tmps.getD p undef = .pointer (some ⟨g, 0, none⟩)) (hb : Bk w g t cs) (ht : RowTy P ty cs.length) : (results fn tmps).run P w = .ok (.tuple #[tmps.getD q undef, .agg cs.toArray, tmps.getD q' undef, tmps.getD q'' undef]) w := by
  have hp' : tmps[p]?.getD undef = .pointer (some ⟨g, 0, none⟩) := by simpa using hp
  simp [results, h, hp', asAddr, hb.loadVar ht]
theorem res_ccs (h : fn.results = #[.cell p ty, .cell p' ty', .tmp q]) (hp : tmps.getD p undef = .pointer (some ⟨g, 0, none⟩)) (hb : Bk w g t cs) (ht : RowTy P ty cs.length)
    (hp2 : tmps.getD p' undef = .pointer (some ⟨g', 0, none⟩)) (hb2 : Bk w g' t' cs') (ht2 : RowTy P ty' cs'.length) : (results fn tmps).run P w = .ok (.tuple #[.agg cs.toArray, .agg cs'.toArray, tmps.getD q undef]) w := by
  have hp' : tmps[p]?.getD undef = .pointer (some ⟨g, 0, none⟩) := by simpa using hp
  have hp2' : tmps[p']?.getD undef = .pointer (some ⟨g', 0, none⟩) := by simpa using hp2
  simp [results, h, hp', hp2', asAddr, hb.loadVar ht, hb2.loadVar ht2]
end
theorem Bk.new' (w : World) (t : TypeId) (cs : List Value) (g : Nat) (h : w.heap.size = g) : Bk (w.alloc (.cells cs.toArray t)) g t cs := by
  subst h; exact Bk.new w t cs

theorem addr_add (g o j : Nat) : (⟨g, o, none⟩ : Addr).add j = ⟨g, o + j, none⟩ := by unfold Addr.add; split <;> simp_all
/-- a whole element, loaded out of a row -/
theorem run_loadVar_elem {P : Program} (w : World) (g off : Nat) (ty : TypeId) (cs : List Value) (hc : ∀ j u, cs[j]? = some u → w.cell? ⟨g, off + j, none⟩ = some u) (ht : RowTy P ty cs.length) :
    (loadVar ty ⟨g, off, none⟩).run P w = .ok (.agg cs.toArray) w := by
  obtain ⟨d, hu, hd, hi⟩ := ht
  have hl : (loadCells ⟨g, off, none⟩ cs.length).run P w = .ok cs.toArray w :=
    run_loadCells_list (P := P) w ⟨g, off, none⟩ cs (fun j v hv => by rw [addr_add]; exact hc j v hv)
  cases hq : P.info? ty with
  | none => simp [hq] at hi
  | some i =>
    have hs : i.size = cs.length := by simpa [hq] using hi
    have hagg : (isAgg ty).run P w = .ok true w := by
      unfold isAgg
      rw [Sem.run_bind, run_underlying hu w]
      cases d <;> simp_all
    simp [loadVar, Sem.run_bind, hagg, sizeOf, typeInfo, hq, hs, hl]
section
variable {P : Program} {ops : Array Oper} {rest : List Oper} {o : Oper} {a : Act} {w : World} {Q : Exit → Act → World → Prop}
theorem wpList_wanted (hw : Region.wanted o (yielded ops a.tmps) = true) (h : ∀ K : Act → World → Prop, (∀ a w, wpList P ops Q rest a w → K a w) → o.wp P a w K Q) : wpList P ops Q (o :: rest) a w :=
  wpList_step fun K hK => by rw [if_pos hw]; exact h K hK
theorem wpList_load_elem (hw : Region.wanted o (yielded ops a.tmps) = true) (ty : TypeId) (x : Operand) (ho : o.op = .load ty x) (g off : Nat) (hx : a.eval x = .pointer (some ⟨g, off, none⟩)) (cs : List Value) (v : Value) (hv : v = .agg cs.toArray)
    (hc : ∀ j u, cs[j]? = some u → w.cell? ⟨g, off + j, none⟩ = some u) (ht : RowTy P ty cs.length) (h : wpList P ops Q rest (a.put o.dst v) w) : wpList P ops Q (o :: rest) a w := by
  subst hv
  refine wpList_wanted hw fun K hK => ?_
  unfold Oper.wp execOp
  simp only [ho, hx, Instr.loadAt, Instr.sureAddr, Sem.run_bind, Sem.run_pure, Result.andThen_ok, run_loadVar_elem w g off ty cs hc ht]
  exact hK _ _ h
/-- a row that is known, loaded whole -/
theorem wpList_load_bk (hw : Region.wanted o (yielded ops a.tmps) = true) (ty : TypeId) (x : Operand) (ho : o.op = .load ty x) (g : Nat) (hx : a.eval x = .pointer (some ⟨g, 0, none⟩)) (t : TypeId) (cs : List Value) (v : Value) (hv : v = .agg cs.toArray)
    (hb : Bk w g t cs) (ht : RowTy P ty cs.length) (h : wpList P ops Q rest (a.put o.dst v) w) : wpList P ops Q (o :: rest) a w := by
  subst hv
  refine wpList_wanted hw fun K hK => ?_
  unfold Oper.wp execOp
  simp only [ho, hx, Instr.loadAt, Instr.sureAddr, Sem.run_bind, Sem.run_pure, Result.andThen_ok, hb.loadVar ht]
  exact hK _ _ h
/-- a whole element, stored within a block that is known: the new world has a name of its own -/
theorem wpList_store_part (hw : Region.wanted o (yielded ops a.tmps) = true) (ty : TypeId) (x y : Operand) (ho : o.op = .store ty x y) (g off : Nat) (cs : List Value) (hx : a.eval x = .pointer (some ⟨g, off, none⟩)) (hy : a.eval y = .agg cs.toArray)
    (t : TypeId) (old : List Value) (hg : Bk w g t old) (hfit : off + cs.length ≤ old.length) (ht : RowTy P ty cs.length) (h1 : ∀ u ∈ cs, u.oneCell' = true)
    (h : ∀ w', Bk w' g t (spl old off cs) → w'.heap.size = w.heap.size → (∀ k, k ≠ g → w'.heap[k]? = w.heap[k]?) → (∀ b : World, Bel b w → b.heap.size ≤ g → Bel b w') → wpList P ops Q rest (a.put o.dst undef) w') : wpList P ops Q (o :: rest) a w := by
  refine wpList_wanted hw fun K hK => ?_
  obtain ⟨d, hu, hd, hi⟩ := ht
  have hst := run_storeCells_cells (P := P) g off cs 0 w (fun j hj => by
    rw [hg.cell, show off + 0 + j = off + j by omega, List.getElem?_eq_getElem (by omega)]; rfl) (fun j hj => by
    rw [show off + 0 + j = off + j by omega]; exact hg.frozen (by omega)) h1
  obtain ⟨k1, k2⟩ := hg.setCells cs off
  have hrun : (storeVar ty ⟨g, off, none⟩ (.agg cs.toArray)).run P w = .ok () (w.setCells g off cs) := by
    cases hq : P.info? ty with
    | none => simp [hq] at hi
    | some i =>
      have hs : i.size = cs.length := by simpa [hq] using hi
      simp [storeVar, sizeOf, typeInfo, hq, Value.cells, hs, hst]
  unfold Oper.wp execOp
  simp only [ho, hx, hy, Instr.storeAt, Instr.sureAddr, Sem.run_bind, Sem.run_pure, Result.andThen_ok, hrun]
  refine hK _ _ (h _ k1 ?_ (fun k hk => ?_) (fun b hb hbg => hb.grown k2 fun k hk => by injection hk with hk; omega))
  · clear hst k1 k2 hrun
    have : ∀ (l : List Value) (o : Nat) (W : World), (W.setCells g o l).heap.size = W.heap.size := by
      intro l
      induction l with
      | nil => intro o W; rfl
      | cons v r ih => intro o W; rw [World.setCells, ih]; simp [World.setCell]
    exact this cs off w
  · clear hst k1 k2 hrun
    have : ∀ (l : List Value) (o : Nat) (W : World), (W.setCells g o l).heap[k]? = W.heap[k]? := by
      intro l
      induction l with
      | nil => intro o W; rfl
      | cons v r ih => intro o W; rw [World.setCells, ih]; exact Below.heap_setCell W _ v k hk
    exact this cs off w
/-- a whole row, stored -/
theorem wpList_store_bk (hw : Region.wanted o (yielded ops a.tmps) = true) (ty : TypeId) (x y : Operand) (ho : o.op = .store ty x y) (g : Nat) (cs : List Value) (hx : a.eval x = .pointer (some ⟨g, 0, none⟩)) (hy : a.eval y = .agg cs.toArray)
    (t : TypeId) (old : List Value) (hg : Bk w g t old) (hold : old.length = cs.length) (ht : RowTy P ty cs.length) (h1 : ∀ u ∈ cs, u.oneCell' = true)
    (h : ∀ w', Bk w' g t cs → w'.heap.size = w.heap.size → (∀ k, k ≠ g → w'.heap[k]? = w.heap[k]?) → (∀ b : World, Bel b w → b.heap.size ≤ g → Bel b w') → wpList P ops Q rest (a.put o.dst undef) w') : wpList P ops Q (o :: rest) a w :=
  wpList_store_part hw ty x y ho g 0 cs hx hy t old hg (by omega) ht h1 fun w' k1 k2 k3 k4 => h w' (by
    have e : spl old 0 cs = cs := by rw [spl_eq _ _ _ (by omega)]; simp [hold]
    rwa [e] at k1) k2 k3 k4
end

/-- what the call has built reads as a list, in a block not older than its base -/
theorem Rd.of_own' {w : World} {base : Nat} {e : TypeId} {sz n : Nat} {v : Value} {xs : List Value} (h : w.ownsRow base e sz v n xs) : ∃ A c, v = .slice A n c ∧ Rd w w.heap.size sz A n c xs ∧ ∀ g o, A = some ⟨g, o, none⟩ → base ≤ g := by
  obtain ⟨A, c, rfl, hr⟩ := Rd.of_own h
  refine ⟨A, c, rfl, hr, ?_⟩
  rintro g o rfl
  rcases h.2 with ⟨h', _⟩ | ⟨g', cap', cur, h', hb, _⟩
  · simp at h'
  · simp only [Value.slice.injEq, Option.some.injEq, Addr.mk.injEq, and_true, true_and] at h'
    obtain ⟨⟨rfl, _⟩, _⟩ := h'
    exact hb
theorem Bk.rdAll {w : World} {g : Nat} {t : TypeId} {cs ds : List Value} (h : Bk w g t cs) (e : cs = ds) {sz n : Nat} (hn : ds.length = n * sz) (hm : n ≤ maxLen) : Rd w w.heap.size sz (some ⟨g, 0, none⟩) n n ds := by
  subst e
  have := h.rd (sz := sz) (n := n) (c := n) (o := 0) (by omega) (Nat.le_refl _) hm
  rwa [List.drop_zero, List.take_of_length_le (by omega)] at this
/-- a row that reads as a list, its own block being as it was -/
theorem Rd.stay {w w' : World} {B B' sz n c : Nat} {A : Option Addr} {xs : List Value} (h : Rd w B sz A n c xs) (hk : ∀ g o, A = some ⟨g, o, none⟩ → w'.heap[g]? = w.heap[g]?) (hB : B ≤ B') : Rd w' B' sz A n c xs :=
  ⟨h.len, h.le, h.mx, fun hn => by
    obtain ⟨g, o, e, hb, hc⟩ := h.at_ hn
    exact ⟨g, o, e, by omega, fun j u hu => (World.cell?_of_block (hk g o e)).trans (hc j u hu)⟩⟩

theorem Bk.cell_of {w : World} {g : Nat} {t : TypeId} {cs : List Value} (h : Bk w g t cs) (i : Nat) (v : Value) (e : cs[i]? = some v) : w.cell? ⟨g, i, none⟩ = some v := (h.cell i).trans e
theorem Bk.own_grown {w w' : World} {g : Nat} {t : TypeId} {cs : List Value} (h : Bk w g t cs) {base : Nat} {e : TypeId} {sz n : Nat} {v : Value} {xs : List Value} (hown : w.ownsRow base e sz v n xs) (hg : w.grownBy w' v.ownBlock) (hb : g < base) : Bk w' g t cs :=
  h.grown hg fun he => by have := (hown.lt g he.symm).1; omega

end Go.Proofs.Ytcahadkkjfijfaa

/- Loads of whole rows within a statement that draws its order. -/
set_option linter.unusedVariables false
set_option linter.unusedSimpArgs false
namespace Go.Proofs.Ytcahadkkjfijfaa
open Go.RowKit Go.Sort

theorem quiet_load {P : Program} {C : World → Prop} {next : Act → Prop} {o : Oper} {a : Act} (ty : TypeId) (x : Operand) (ho : o.op = .load ty x) (g : Nat) (hx : a.eval x = .pointer (some ⟨g, 0, none⟩)) (cs : Array Value)
    (hC : ∀ w, C w → (Go.loadVar ty ⟨g, 0, none⟩).run P w = .ok (.agg cs) w) (v : Value) (hv : v = .agg cs) (h : next (a.put o.dst v)) : o.quiet P a C next := by
  subst hv
  refine ⟨_, fun w hw => ?_, h⟩
  have := hC w hw
  simp [Oper.quietAt, execOp, ho, hx, Instr.loadAt, Instr.sureAddr, this, Oper.quietUpon]
/-- a row that is known reads so in every world of the class -/
theorem Bk.inClass {P : Program} {W : World} {g : Nat} {t ty : TypeId} {cs : List Value} (h : Bk W g t cs) (ht : RowTy P ty cs.length) : ∀ w, (∃ p : Regrown, w = grow (redrawn W p.d) p.os) → (Go.loadVar ty ⟨g, 0, none⟩).run P w = .ok (.agg cs.toArray) w := by
  rintro w ⟨p, rfl⟩
  exact (h.bel (bel_grow W p.d p.os)).loadVar ht

end Go.Proofs.Ytcahadkkjfijfaa

/- What memory is within a call: the blocks that the call itself made and knows, and the rows that it only reads. -/
set_option linter.unusedVariables false
set_option linter.unusedSimpArgs false
namespace Go.Proofs.Ytcahadkkjfijfaa
open Go.RowKit

/-- a block of the call's own: known whole; or a row that it appends to -/
inductive Mu where
  | blk (g : Nat) (t : TypeId) (cs : List Value)
  | own (v : Value) (e : TypeId) (sz n : Nat) (xs : List Value)
def Mu.bl : Mu → Option Nat
  | .blk g _ _ => some g
  | .own v _ _ _ _ => v.ownBlock
def Mu.ok (B : Nat) (w : World) : Mu → Prop
  | .blk g t cs => Bk w g t cs ∧ B ≤ g
  | .own v e sz n xs => w.ownsRow B e sz v n xs
theorem Mu.ok.lt {B : Nat} {w : World} {m : Mu} (h : m.ok B w) {g : Nat} (hg : m.bl = some g) : B ≤ g ∧ g < w.heap.size := by
  cases m with
  | blk g' t cs => simp only [Mu.bl, Option.some.injEq] at hg; subst hg; exact ⟨h.2, h.1.lt⟩
  | own v e sz n xs => exact World.ownsRow.lt h g hg
theorem Mu.ok.keep {B : Nat} {w w' : World} {m : Mu} (h : m.ok B w) (hk : ∀ g, m.bl = some g → w'.heap[g]? = w.heap[g]?) : m.ok B w' := by
  cases m with
  | blk g' t cs => exact ⟨h.1.keep (hk _ rfl), h.2⟩
  | own v e sz n xs =>
    refine ⟨h.1, ?_⟩
    rcases h.2 with h' | ⟨g, cap, cur, rfl, hb, hg, rest⟩
    · exact .inl h'
    · exact .inr ⟨g, cap, cur, rfl, hb, (hk g rfl).trans hg, rest⟩

/-- data that is only read: what it says of memory, and the blocks that it lies in -/
structure Da where
  ok : World → Prop
  bl : Nat → Prop
  keep : ∀ {w w' : World}, (∀ g, bl g → w'.heap[g]? = w.heap[g]?) → w.heap.size ≤ w'.heap.size → ok w → ok w'
  lt : ∀ {w : World}, ok w → ∀ g, bl g → g < w.heap.size
/-- the blocks of a slice value -/
def inA (A : Option Addr) (n : Nat) (g : Nat) : Prop := 0 < n ∧ ∃ o s, A = some ⟨g, o, s⟩
/-- a row of cells -/
def rowD (sz : Nat) (A : Option Addr) (n c : Nat) (xs : List Value) : Da where
  ok w := Rd w w.heap.size sz A n c xs
  bl := inA A n
  keep {w w'} hk hs h := ⟨h.len, h.le, h.mx, fun hn => by
    obtain ⟨g, o, e, hb, hc⟩ := h.at_ hn
    exact ⟨g, o, e, Nat.lt_of_lt_of_le hb hs, fun j u hu => (World.cell?_of_block (hk g ⟨hn, o, none, e⟩)).trans (hc j u hu)⟩⟩
  lt {w} h g hg := by
    obtain ⟨hn, o, s, e⟩ := hg
    obtain ⟨g', o', e', hb, _⟩ := h.at_ hn
    rw [e'] at e
    injection e with e
    injection e with e1
    omega
/-- d's blocks are new since w, or lie in one of D -/
def From (w : World) (D : List Da) (d : Da) : Prop := ∀ g, d.bl g → w.heap.size ≤ g ∨ ∃ e ∈ D, e.bl g
theorem From.self {w : World} {D : List Da} {d : Da} (h : d ∈ D) : From w D d := fun g hg => .inr ⟨d, h, hg⟩
theorem From.new {w : World} {D : List Da} {d : Da} (h : ∀ g, d.bl g → w.heap.size ≤ g) : From w D d := fun g hg => .inl (h g hg)
theorem From.none {w : World} {D : List Da} {sz n c : Nat} {xs : List Value} : From w D (rowD sz none n c xs) := fun g hg => by obtain ⟨_, o, s, e⟩ := hg; cases e
theorem From.trans {w w' : World} {D D' : List Da} {d : Da} (h : From w' D' d) (hs : w.heap.size ≤ w'.heap.size) (hD : ∀ e ∈ D', From w D e) : From w D d := fun g hg => by
  rcases h g hg with h | ⟨e, he, hb⟩
  · exact .inl (Nat.le_trans hs h)
  · exact hD e he g hb

/-- memory within a call that began at w0, with D0 handed to it -/
structure St (w0 : World) (D0 : List Da) (w : World) (M : List Mu) (D : List Da) : Prop where
  bel : Bel w0 w
  mu : ∀ (i : Nat) (m : Mu), M[i]? = some m → m.ok w0.heap.size w
  apart : ∀ (i j : Nat) (a b : Mu), i ≠ j → M[i]? = some a → M[j]? = some b → ∀ g, a.bl = some g → b.bl ≠ some g
  dat : ∀ d ∈ D, d.ok w
  sep : ∀ d ∈ D, ∀ (i : Nat) (m : Mu), M[i]? = some m → ∀ g, m.bl = some g → ¬ d.bl g
  src : ∀ d ∈ D, From w0 D0 d

section
variable {w0 w w' : World} {D0 D : List Da} {M : List Mu}
theorem St.start (w : World) (D : List Da) (h : ∀ d ∈ D, d.ok w) : St w D w [] D :=
  ⟨Bel.refl w, fun i m h => by simp at h, fun i j a b _ h => by simp at h, h, fun _ _ i m h => by simp at h, fun d hd => From.self hd⟩
theorem grown_of_bel (hb : Bel w w') (r : Option Nat) : w.grownBy w' r := ⟨hb.os, hb.tape, hb.output, hb.size, fun k hk _ => hb.block k hk⟩
theorem St.grow (h : St w0 D0 w M D) (hb : Bel w w') : St w0 D0 w' M D :=
  ⟨h.bel.trans hb, fun i m hm => (h.mu i m hm).keep fun g hg => hb.block g ((h.mu i m hm).lt hg).2, h.apart, fun d hd => d.keep (fun g hg => hb.block g (d.lt (h.dat d hd) g hg)) hb.size (h.dat d hd), h.sep, h.src⟩
/-- one of the blocks has turned -/
theorem St.upd (h : St w0 D0 w M D) (i : Nat) (m m' : Mu) (hi : M[i]? = some m) (hg : w.grownBy w' m.bl) (hm : m'.ok w0.heap.size w') (hb : ∀ g, m'.bl = some g → m.bl = some g ∨ w.heap.size ≤ g) :
    St w0 D0 w' (M.set i m') D := by
  have hil : i < M.length := (List.getElem?_eq_some_iff.1 hi).1
  have hset : ∀ j x, (M.set i m')[j]? = some x → (j = i ∧ x = m') ∨ (j ≠ i ∧ M[j]? = some x) := by
    intro j x hx
    by_cases hj : i = j
    · subst hj; rw [List.getElem?_set_self hil] at hx; injection hx with hx; exact .inl ⟨rfl, hx.symm⟩
    · rw [List.getElem?_set_ne hj] at hx; exact .inr ⟨fun e => hj e.symm, hx⟩
  refine ⟨h.bel.grown hg fun k hk => ((h.mu i m hi).lt hk).1, fun j x hx => ?_, fun j k a b hjk ha hb' g hag hbg => ?_, fun d hd => ?_, fun d hd j x hx g hxg hdg => ?_, h.src⟩
  · rcases hset j x hx with ⟨_, rfl⟩ | ⟨hj, hx⟩
    · exact hm
    · exact (h.mu j x hx).keep fun g hg' => hg.block g ((h.mu j x hx).lt hg').2 (fun e => h.apart j i x m hj hx hi g hg' e.symm)
  · rcases hset j a ha with ⟨rfl, e1⟩ | ⟨hj, ha1⟩
    · rcases hset k b hb' with ⟨rfl, _⟩ | ⟨hk, hb1⟩
      · exact hjk rfl
      · rcases hb g (e1 ▸ hag) with h1 | h1
        · exact h.apart j k m b hjk hi hb1 g h1 hbg
        · have := ((h.mu k b hb1).lt hbg).2; omega
    · rcases hset k b hb' with ⟨rfl, e1⟩ | ⟨hk, hb1⟩
      · rcases hb g (e1 ▸ hbg) with h1 | h1
        · exact h.apart j k a m hjk ha1 hi g hag h1
        · have := ((h.mu j a ha1).lt hag).2; omega
      · exact h.apart j k a b hjk ha1 hb1 g hag hbg
  · exact d.keep (fun g hdg => hg.block g (d.lt (h.dat d hd) g hdg) (fun e => h.sep d hd i m hi g e.symm hdg)) hg.size (h.dat d hd)
  · rcases hset j x hx with ⟨_, rfl⟩ | ⟨_, hx⟩
    · rcases hb g hxg with h1 | h1
      · exact h.sep d hd i m hi g h1 hdg
      · have := d.lt (h.dat d hd) g hdg; omega
    · exact h.sep d hd j x hx g hxg hdg
/-- a new block -/
theorem St.push (h : St w0 D0 w M D) (m : Mu) (hg : w.grownBy w' none) (hm : m.ok w0.heap.size w') (hb : ∀ g, m.bl = some g → w.heap.size ≤ g) : St w0 D0 w' (m :: M) D := by
  have hbe : Bel w w' := ⟨hg.os, hg.tape, hg.output, hg.size, fun k hk => hg.block k hk (by simp)⟩
  have h' := h.grow hbe
  refine ⟨h'.bel, fun i x hx => ?_, fun i j a b hij ha hb' g hag hbg => ?_, h'.dat, fun d hd i x hx g hxg hdg => ?_, h.src⟩
  · cases i with
    | zero => simp at hx; subst hx; exact hm
    | succ i => exact h'.mu i x (by simpa using hx)
  · cases i with
    | zero =>
      simp at ha; subst ha
      cases j with
      | zero => exact hij rfl
      | succ j =>
        have := ((h.mu j b (by simpa using hb')).lt hbg).2
        have := hb g hag
        omega
    | succ i =>
      cases j with
      | zero =>
        simp at hb'; subst hb'
        have := ((h.mu i a (by simpa using ha)).lt hag).2
        have := hb g hbg
        omega
      | succ j => exact h.apart i j a b (by omega) (by simpa using ha) (by simpa using hb') g hag hbg
  · cases i with
    | zero =>
      simp at hx; subst hx
      have := d.lt (h.dat d hd) g hdg
      have := hb g hxg
      omega
    | succ i => exact h.sep d hd i x (by simpa using hx) g hxg hdg
theorem St.alloc (h : St w0 D0 w M D) (t : TypeId) (cs : List Value) : St w0 D0 (w.alloc (.cells cs.toArray t)) (.blk w.heap.size t cs :: M) D :=
  h.push _ (grown_of_bel (Bel.alloc w _) none) ⟨Bk.new w t cs, h.bel.size⟩ fun g hg => by simp only [Mu.bl, Option.some.injEq] at hg; omega
/-- nil, as a row to append to -/
theorem St.nil (h : St w0 D0 w M D) (e : TypeId) (sz : Nat) : St w0 D0 w (.own (.slice none 0 0) e sz 0 [] :: M) D :=
  h.push _ (grown_of_bel (Bel.refl w) none) ⟨by simp, .inl ⟨rfl, rfl⟩⟩ fun g hg => by simp [Mu.bl, Value.ownBlock] at hg
/-- data that came by a call -/
theorem St.add (h : St w0 D0 w M D) (hb : Bel w w') (d : Da) (hd : d.ok w') (D1 : List Da) (hf : From w D1 d) (hD : ∀ e ∈ D1, e ∈ D) : St w0 D0 w' M (d :: D) := by
  have h' := h.grow hb
  refine ⟨h'.bel, h'.mu, h'.apart, fun e he => ?_, fun e he i m hm g hmg heg => ?_, fun e he => ?_⟩
  · rcases List.mem_cons.1 he with rfl | he
    · exact hd
    · exact h'.dat e he
  · rcases List.mem_cons.1 he with rfl | he
    · rcases hf g heg with h1 | ⟨f, hf1, hf2⟩
      · have := ((h.mu i m hm).lt hmg).2; omega
      · exact h.sep f (hD f hf1) i m hm g hmg hf2
    · exact h.sep e he i m hm g hmg heg
  · rcases List.mem_cons.1 he with rfl | he
    · exact hf.trans h.bel.size fun f hf1 => h.src f (hD f hf1)
    · exact h.src e he
/-- data that is a part of other data -/
theorem St.part (h : St w0 D0 w M D) (d : Da) (hd : d.ok w) (hf : ∀ g, d.bl g → ∃ e ∈ D, e.bl g) : St w0 D0 w M (d :: D) :=
  h.add (Bel.refl w) d hd D (fun g hg => .inr (hf g hg)) fun e he => he
/-- fewer blocks, less data -/
theorem St.less (h : St w0 D0 w M D) {M' : List Mu} {D' : List Da} (hM : ∃ f : Nat → Nat, (∀ i j, f i = f j → i = j) ∧ ∀ i m, M'[i]? = some m → M[f i]? = some m) (hD : ∀ d ∈ D', d ∈ D) : St w0 D0 w M' D' := by
  obtain ⟨f, hf, hM⟩ := hM
  exact ⟨h.bel, fun i m hm => h.mu (f i) m (hM i m hm), fun i j a b hij ha hb => h.apart (f i) (f j) a b (fun e => hij (hf i j e)) (hM i a ha) (hM j b hb), fun d hd => h.dat d (hD d hd),
    fun d hd i m hm => h.sep d (hD d hd) (f i) m (hM i m hm), fun d hd => h.src d (hD d hd)⟩
theorem St.lessD (h : St w0 D0 w M D) {D' : List Da} (hD : ∀ d ∈ D', d ∈ D) : St w0 D0 w M D' := h.less ⟨id, fun _ _ e => e, fun _ _ h => h⟩ hD
/-- the block at place i is let go -/
theorem St.drop (h : St w0 D0 w M D) (i : Nat) : St w0 D0 w (M.eraseIdx i) D :=
  h.less ⟨fun j => if j < i then j else j + 1, fun a b e => by dsimp only at e; split at e <;> split at e <;> omega, fun j m hm => by
    rw [List.getElem?_eraseIdx] at hm
    dsimp only
    split
    · rename_i hj; rwa [if_pos hj] at hm
    · rename_i hj; rwa [if_neg hj] at hm⟩ fun d hd => hd
/-- a row that is appended to no more is data -/
theorem St.freeze (h : St w0 D0 w M D) (i : Nat) {v : Value} {e : TypeId} {sz n : Nat} {xs : List Value} (hi : M[i]? = some (.own v e sz n xs)) :
    ∃ A c, v = .slice A n c ∧ St w0 D0 w (M.eraseIdx i) (rowD sz A n c xs :: D) := by
  have hown : w.ownsRow w0.heap.size e sz v n xs := h.mu i _ hi
  obtain ⟨A, c, rfl, hr, hge⟩ := Rd.of_own' hown
  refine ⟨A, c, rfl, ?_⟩
  have hbl : ∀ g, (rowD sz A n c xs).bl g → (Mu.own (.slice A n c) e sz n xs).bl = some g := by
    rintro g ⟨_, o, s, rfl⟩; rfl
  have h' := h.drop i
  have hbl2 : ∀ d ∈ rowD sz A n c xs :: D, ∀ (j : Nat) (m : Mu), (M.eraseIdx i)[j]? = some m → ∀ g, m.bl = some g → ¬ d.bl g := by
    intro d hd j m hm g hmg hdg
    rcases List.mem_cons.1 hd with rfl | hd
    · rw [List.getElem?_eraseIdx] at hm
      split at hm
      · exact h.apart j i m _ (by omega) hm hi g hmg (hbl g hdg)
      · exact h.apart (j + 1) i m _ (by omega) hm hi g hmg (hbl g hdg)
    · exact h'.sep d hd j m hm g hmg hdg
  refine ⟨h.bel, h'.mu, h'.apart, fun d hd => ?_, hbl2, fun d hd => ?_⟩
  · rcases List.mem_cons.1 hd with rfl | hd
    · exact hr
    · exact h.dat d hd
  · rcases List.mem_cons.1 hd with rfl | hd
    · exact From.new fun g hg => ((h.mu i _ hi).lt (hbl g hg)).1
    · exact h.src d hd
/-- so is a block that is written no more -/
theorem St.freezeB (h : St w0 D0 w M D) (i : Nat) {g : Nat} {t : TypeId} {cs : List Value} (hi : M[i]? = some (.blk g t cs)) (sz n c : Nat) (hl : cs.length = n * sz) (hc : n ≤ c) (hm : c ≤ maxLen) :
    St w0 D0 w (M.eraseIdx i) (rowD sz (some ⟨g, 0, none⟩) n c cs :: D) := by
  have hk := (h.mu i _ hi)
  have hr : Rd w w.heap.size sz (some ⟨g, 0, none⟩) n c cs := by
    have := hk.1.rd (sz := sz) (n := n) (c := c) (o := 0) (by omega) hc hm
    rwa [List.drop_zero, List.take_of_length_le (by omega)] at this
  have hbl : ∀ g', (rowD sz (some ⟨g, 0, none⟩) n c cs).bl g' → g' = g := by
    rintro g' ⟨_, o, s, e⟩; injection e with e; injection e with e; exact e.symm
  have h' := h.drop i
  refine ⟨h.bel, h'.mu, h'.apart, fun d hd => ?_, fun d hd j m hm' g' hmg hdg => ?_, fun d hd => ?_⟩
  · rcases List.mem_cons.1 hd with rfl | hd
    · exact hr
    · exact h.dat d hd
  · rcases List.mem_cons.1 hd with rfl | hd
    · obtain rfl := hbl g' hdg
      rw [List.getElem?_eraseIdx] at hm'
      split at hm'
      · exact h.apart j i m _ (by omega) hm' hi g' hmg rfl
      · exact h.apart (j + 1) i m _ (by omega) hm' hi g' hmg rfl
    · exact h'.sep d hd j m hm' g' hmg hdg
  · rcases List.mem_cons.1 hd with rfl | hd
    · exact From.new fun g' hg => by obtain rfl := hbl g' hg; exact hk.2
    · exact h.src d hd
theorem St.bk (h : St w0 D0 w M D) {g : Nat} {t : TypeId} {cs : List Value} (hm : Mu.blk g t cs ∈ M) : Bk w g t cs := by
  obtain ⟨i, hi, e⟩ := List.mem_iff_getElem.1 hm
  have h1 : (Mu.blk g t cs).ok w0.heap.size w := h.mu i _ (by rw [List.getElem?_eq_getElem hi, e])
  exact h1.1
theorem St.bkAt (h : St w0 D0 w M D) {i g : Nat} {t : TypeId} {cs : List Value} (hm : M[i]? = some (.blk g t cs)) : Bk w g t cs := (h.mu i _ hm).1
theorem St.ownAt (h : St w0 D0 w M D) {i : Nat} {v : Value} {e : TypeId} {sz n : Nat} {xs : List Value} (hm : M[i]? = some (.own v e sz n xs)) : w.ownsRow w0.heap.size e sz v n xs := h.mu i _ hm
theorem St.ownOne (h : St w0 D0 w M D) {i : Nat} {v : Value} {e : TypeId} {sz n : Nat} {xs : List Value} (hm : M[i]? = some (.own v e sz n xs)) : v.oneCell' = true := by
  rcases (h.ownAt hm).2 with ⟨rfl, _⟩ | ⟨g, cap, cur, rfl, _⟩ <;> rfl
theorem own_base {B B' : Nat} {v : Value} {e : TypeId} {sz n : Nat} {xs : List Value} (h : w.ownsRow B e sz v n xs) (hB : B' ≤ B) : w.ownsRow B' e sz v n xs := by
  refine ⟨h.1, ?_⟩
  rcases h.2 with h' | ⟨g, cap, cur, h1, h2, h3⟩
  · exact .inl h'
  · exact .inr ⟨g, cap, cur, h1, Nat.le_trans hB h2, h3⟩
/-- a row that a call hands over, nobody else having it -/
theorem St.pushOwn (h : St w0 D0 w M D) (hb : Bel w w') {v : Value} {e : TypeId} {sz n : Nat} {xs : List Value} (ho : w'.ownsRow w.heap.size e sz v n xs) : St w0 D0 w' (.own v e sz n xs :: M) D :=
  h.push _ (grown_of_bel hb none) (own_base ho h.bel.size) fun g hg => (World.ownsRow.lt ho g hg).1
theorem St.ownSome (h : St w0 D0 w M D) {i : Nat} {v : Value} {e : TypeId} {sz n : Nat} {xs : List Value} (hm : M[i]? = some (.own v e sz n xs)) (hn : 0 < n) : ∃ g cap, v = .slice (some ⟨g, 0, none⟩) n cap ∧ n ≤ cap ∧ cap ≤ maxLen := by
  rcases (h.ownAt hm).2 with ⟨_, rfl⟩ | ⟨g, cap, cur, rfl, _, _, h1, h2, _⟩
  · omega
  · exact ⟨g, cap, rfl, h1, h2⟩
theorem St.ownCell (h : St w0 D0 w M D) {i g n c : Nat} {e : TypeId} {sz : Nat} {xs : List Value} (hm : M[i]? = some (.own (.slice (some ⟨g, 0, none⟩) n c) e sz n xs)) (j : Nat) (u : Value) (hu : xs[j]? = some u) : w.cell? ⟨g, j, none⟩ = some u := by
  have := World.ownsRow.cells (h.ownAt hm) (g := g) rfl j u hu
  rwa [addr_add, Nat.zero_add] at this
theorem St.ownSet (h : St w0 D0 w M D) {i g n c : Nat} {e : TypeId} {sz : Nat} {xs : List Value} (hm : M[i]? = some (.own (.slice (some ⟨g, 0, none⟩) n c) e sz n xs)) (j : Nat) (u : Value) (hj : j < xs.length) :
    w.frozen? ⟨g, j, none⟩ = false ∧ St w0 D0 (w.setCell ⟨g, j, none⟩ u) (M.set i (.own (.slice (some ⟨g, 0, none⟩) n c) e sz n (xs.set j u))) D := by
  have ho := h.ownAt hm
  rcases ho.2 with ⟨h', _⟩ | ⟨g', cap, cur, h', hb, hg, hnc, hcm, hcs, htake⟩
  · simp at h'
  · simp only [Value.slice.injEq, Option.some.injEq, Addr.mk.injEq, and_true, true_and] at h'
    obtain ⟨rfl, rfl⟩ := h'
    refine ⟨by simp [World.frozen?, hg], h.upd i _ _ hm ⟨rfl, rfl, rfl, by simp [World.setCell], fun k hk hne => Below.heap_setCell w _ u k (fun e => hne (by rw [e]; rfl))⟩ ?_ fun g' hg' => .inl hg'⟩
    refine ⟨by rw [List.length_set]; exact ho.1, .inr ⟨g, c, cur.setIfInBounds j u, rfl, hb, by simp [World.setCell, Array.getElem?_modify, hg], hnc, hcm, by simpa using hcs, ?_⟩⟩
    rw [Array.toList_setIfInBounds, List.take_set, htake]
theorem St.rd (h : St w0 D0 w M D) {sz n c : Nat} {A : Option Addr} {xs : List Value} (hd : rowD sz A n c xs ∈ D) : Rd w w.heap.size sz A n c xs := h.dat _ hd
end

theorem at0 {α : Type} {m : α} {M : List α} : (m :: M)[0]? = some m := rfl
theorem at1 {α : Type} {a m : α} {M : List α} : (a :: m :: M)[1]? = some m := rfl
theorem at2 {α : Type} {a b m : α} {M : List α} : (a :: b :: m :: M)[2]? = some m := rfl
theorem at3 {α : Type} {a b c m : α} {M : List α} : (a :: b :: c :: m :: M)[3]? = some m := rfl
theorem at4 {α : Type} {a b c d m : α} {M : List α} : (a :: b :: c :: d :: m :: M)[4]? = some m := rfl
theorem at5 {α : Type} {a b c d e m : α} {M : List α} : (a :: b :: c :: d :: e :: m :: M)[5]? = some m := rfl
theorem at6 {α : Type} {a b c d e f m : α} {M : List α} : (a :: b :: c :: d :: e :: f :: m :: M)[6]? = some m := rfl
theorem at7 {α : Type} {a b c d e f g m : α} {M : List α} : (a :: b :: c :: d :: e :: f :: g :: m :: M)[7]? = some m := rfl

theorem take_one {xs : List Value} (h : ∀ u ∈ xs, u.oneCell' = true) (k : Nat) : ∀ u ∈ xs.take k, u.oneCell' = true := fun u hu => h u (List.mem_of_mem_take hu)
theorem drop_one {xs : List Value} (h : ∀ u ∈ xs, u.oneCell' = true) (k : Nat) : ∀ u ∈ xs.drop k, u.oneCell' = true := fun u hu => h u (List.mem_of_mem_drop hu)
theorem sub_nil {D : List Da} : ∀ d ∈ ([] : List Da), d ∈ D := fun _ h => by cases h
theorem sub_cons {d : Da} {l D : List Da} (h : d ∈ D) (t : ∀ e ∈ l, e ∈ D) : ∀ e ∈ d :: l, e ∈ D := fun e he => by
  rcases List.mem_cons.1 he with rfl | he
  · exact h
  · exact t e he
theorem one_nil : ∀ u ∈ ([] : List Value), u.oneCell' = true := fun _ h => by cases h
theorem one_cons {v : Value} {l : List Value} (h : v.oneCell' = true) (t : ∀ u ∈ l, u.oneCell' = true) : ∀ u ∈ v :: l, u.oneCell' = true := fun u hu => by
  rcases List.mem_cons.1 hu with rfl | hu
  · exact h
  · exact t u hu
/-- an element's place -/
def ept (A : Option Addr) (j : Nat) : Value := .pointer (A.map fun a => a.add j)
theorem ept_add (A : Option Addr) (i j : Nat) : ept A (i + j) = .pointer ((A.map fun a => a.add i).map fun a => a.add j) := by
  cases A with
  | none => rfl
  | some a =>
    obtain ⟨g, o, s⟩ := a
    simp only [ept, Option.map_some, Addr.add]
    by_cases hi : i = 0 <;> by_cases hj : j = 0 <;> simp [hi, hj, Nat.add_assoc]
end Go.Proofs.Ytcahadkkjfijfaa
