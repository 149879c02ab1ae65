/- Slices that read as lists; appending to a slice that the call itself made. -/
import Derived.Test.YtcahadkkjfijfaaBase
import Derived.OwnWalk
import Derived.Laws.OwnMore
import Derived.Maps.AppendAt
import Derived.Laws.BytesArg
set_option linter.unusedVariables false
set_option linter.unusedSimpArgs false
namespace Go.Proofs.Ytcahadkkjfijfaa
open Go.RowKit

/-- The slice value '.slice A n c' reads as the cells xs (sz cells an element) and lies below block B. -/
structure Rd (w : World) (B sz : Nat) (A : Option Addr) (n c : Nat) (xs : List Value) : Prop where
  len : xs.length = n * sz
  le : n ≤ c
  mx : c ≤ maxLen
  at_ : 0 < n → ∃ g o, A = some ⟨g, o, none⟩ ∧ g < B ∧ ∀ j u, xs[j]? = some u → w.cell? ⟨g, o + j, none⟩ = some u

section
variable {w w' : World} {B B' sz n c : Nat} {A : Option Addr} {xs : List Value}
theorem Rd.keep (h : Rd w B sz A n c xs) (hk : ∀ p : Addr, p.block < B → w'.cell? p = w.cell? p) : Rd w' B sz A n c xs :=
  ⟨h.len, h.le, h.mx, fun hn => by
    obtain ⟨g, o, e, hb, hc⟩ := h.at_ hn
    exact ⟨g, o, e, hb, fun j u hu => (hk _ hb).trans (hc j u hu)⟩⟩
theorem Rd.more (h : Rd w B sz A n c xs) (hB : B ≤ B') : Rd w B' sz A n c xs :=
  ⟨h.len, h.le, h.mx, fun hn => by
    obtain ⟨g, o, e, hb, hc⟩ := h.at_ hn
    exact ⟨g, o, e, by omega, hc⟩⟩
theorem Rd.below (h : Rd w B sz A n c xs) (hb : Below B w w') : Rd w' B sz A n c xs := h.keep fun _ hp => hb.cell hp
theorem Rd.bel (h : Rd w w.heap.size sz A n c xs) (hb : Bel w w') : Rd w' w'.heap.size sz A n c xs := (h.below hb).more hb.size
theorem Rd.drewN (h : Rd w B sz A n c xs) (k : Nat) : Rd (w.drewN k) B sz A n c xs := ⟨h.len, h.le, h.mx, h.at_⟩
theorem Rd.nil (hc : c ≤ maxLen) : Rd w B sz A 0 c [] := ⟨by simp, by omega, hc, fun h => absurd h (by omega)⟩
theorem Rd.alloc (h : Rd w B sz A n c xs) (hB : B ≤ w.heap.size) (o : Obj) : Rd (w.alloc o) B sz A n c xs :=
  h.keep fun p hp => World.cell?_alloc_lt w o p (by omega)
theorem Rd.setCell (h : Rd w B sz A n c xs) {p : Addr} (hB : B ≤ p.block) (u : Value) : Rd (w.setCell p u) B sz A n c xs :=
  h.keep fun q hq => World.cell?_setCell_other w p q u (fun e => by subst e; omega)
theorem Rd.grown (h : Rd w B sz A n c xs) {row : Option Nat} (hg : w.grownBy w' row) (hB : B ≤ w.heap.size) (hr : ∀ g, row = some g → B ≤ g) : Rd w' B sz A n c xs :=
  h.keep fun p hp => World.cell?_of_block (hg.block p.block (by omega) (fun e => by have := hr _ e.symm; omega))
/-- one-cell elements: the cell of element k -/
theorem Rd.cell1 (h : Rd w B 1 A n c xs) {k : Nat} (hk : k < n) : ∃ g o u, A = some ⟨g, o, none⟩ ∧ g < B ∧ xs[k]? = some u ∧ w.cell? ⟨g, o + k, none⟩ = some u := by
  obtain ⟨g, o, e, hb, hc⟩ := h.at_ (by omega)
  have hl : k < xs.length := by have := h.len; omega
  exact ⟨g, o, xs[k], e, hb, List.getElem?_eq_getElem hl, hc k _ (List.getElem?_eq_getElem hl)⟩
/-- what the call has built reads as a list -/
theorem Rd.of_own {base : Nat} {e : TypeId} {v : Value} (h : w.ownsRow base e sz v n xs) : ∃ A c, v = .slice A n c ∧ Rd w w.heap.size sz A n c xs := by
  rcases h.2 with ⟨rfl, rfl⟩ | ⟨g, cap, cur, rfl, hb, hh, hnc, hcm, hcs, htake⟩
  · exact ⟨none, 0, rfl, ⟨h.1, by omega, by simp [maxLen], fun h => absurd h (by omega)⟩⟩
  · refine ⟨_, cap, rfl, ⟨h.1, hnc, hcm, fun hn => ⟨g, 0, rfl, (h.lt g rfl).2, fun j u hu => ?_⟩⟩⟩
    have := h.cells (g := g) rfl j u hu
    unfold Addr.add at this
    split at this
    · rename_i hj; subst hj; simpa using this
    · simpa using this
end

theorem own_empty (w : World) (base : Nat) (e : TypeId) (sz : Nat) (hb : base ≤ w.heap.size) : (w.alloc (.cells #[] e)).ownsRow base e sz (.slice (some ⟨w.heap.size, 0, none⟩) 0 0) 0 [] :=
  World.ownsRow_made w #[] 0 hb (by simp [maxLen]) (by simp)

theorem own_drewN {w : World} {base : Nat} {e : TypeId} {sz : Nat} {v : Value} {n : Nat} {xs : List Value} (h : w.ownsRow base e sz v n xs) (k : Nat) : (w.drewN k).ownsRow base e sz v n xs := h
theorem own_bel {w w' : World} {base : Nat} {e : TypeId} {sz : Nat} {v : Value} {n : Nat} {xs : List Value} (h : w.ownsRow base e sz v n xs) (hb : Bel w w') : w'.ownsRow base e sz v n xs :=
  h.kept (row := none) ⟨hb.os, hb.tape, hb.output, hb.size, fun k hk _ => hb.block k hk⟩ (by cases v.ownBlock <;> simp)
theorem Bel.then_grown {a w w' : World} (h : Bel a w) {base : Nat} {e : TypeId} {sz : Nat} {v : Value} {n : Nat} {xs : List Value} (hown : w.ownsRow base e sz v n xs) (hg : w.grownBy w' v.ownBlock) (hb : a.heap.size ≤ base) : Bel a w' :=
  h.grown hg fun k hk => Nat.le_trans hb (hown.lt k hk).1
/-- cells that lie in the newest block -/
theorem cells_new (W : World) (us : List Value) (e : TypeId) : ∀ j u, us[j]? = some u → (W.alloc (.cells us.toArray e)).cell? ((⟨W.heap.size, 0, none⟩ : Addr).add j) = some u := by
  intro j u hu
  have h : (⟨W.heap.size, 0, none⟩ : Addr).add j = ⟨W.heap.size, j, none⟩ := by
    unfold Addr.add; split
    · rename_i hj; subst hj; rfl
    · simp
  rw [h, cell_of_row _ W.heap.size j us.toArray e (0, 0) (heap_alloc_new W _)]
  simpa using hu

section
variable {P : Program} {ops : Array Oper} {rest : List Oper} {o : Oper} {a : Act} {Q : Exit → Act → World → Prop}
/-- 'append(out, x..)' of m elements laid in a new block, out the call's own: behind it nothing but out's own row has turned. -/
theorem wpList_app (W : World) (us : List Value) (m : Nat) (hgd : o.guard = none) (s x : Operand) (t : TypeId)
    (ho : o.op = .call { callee := .builtin .append, args := #[s, x], argTypes := #[t, t] })
    (base : Nat) (e : TypeId) (z : Value) (sz bytes : Nat) (ht : P.underlying t = some (.slice e)) (hinfo : (P.info? e).map (fun i => (i.zero, i.size, i.bytes)) = some (some z, sz, bytes))
    (hzs : z.cells.size = sz) (hsz : 0 < sz)
    (v : Value) (n : Nat) (xs : List Value) (hs : a.eval s = v) (hown : W.ownsRow base e sz v n xs)
    (hx : a.eval x = .slice (some ⟨W.heap.size, 0, none⟩) m m) (hl : us.length = m * sz) (h1 : ∀ u ∈ us, u.oneCell' = true)
    (h63 : n + m ≤ 9223372036854775807) (hbytes : (n + m) * bytes ≤ 140737488355328) (hbase : base ≤ W.heap.size)
    (h : ∀ v' w', w'.ownsRow base e sz v' (n + m) (xs ++ us) → W.grownBy w' v.ownBlock → wpList P ops Q rest (a.put o.dst v') w') : wpList P ops Q (o :: rest) a (W.alloc (.cells us.toArray e)) := by
  obtain ⟨i0, hi, hz0, hz1, hz2⟩ := info_parts hinfo
  refine wpList_append_own _ hgd s x t ho base e i0 z sz bytes ht hi hz0 hz1 hz2 hzs hsz v n xs hs (hown.alloc _) ⟨W.heap.size, 0, none⟩ m m us hx hl (cells_new W us e) h1 (by simp only [maxLen]; omega) hbytes (by simp; omega) ?_
  intro v' w' hown' hg _
  refine h v' w' hown' ⟨hg.os, hg.tape, hg.output, Nat.le_trans (by simp) hg.size, fun k hk hne => ?_⟩
  rw [hg.block k (by simp; omega) hne]
  exact Below.heap_alloc W _ k hk
end

/-- bytes as cells -/
def byteCells (l : List UInt8) : List Value := l.map fun b => .int .u8 (b.toNat : Int)
theorem byteCells_len (l : List UInt8) : (byteCells l).length = l.length := by simp [byteCells]
theorem byteCells_one (l : List UInt8) : ∀ u ∈ byteCells l, u.oneCell' = true := by
  intro u hu
  simp only [byteCells, List.mem_map] at hu
  obtain ⟨b, _, rfl⟩ := hu
  rfl
theorem byteCells_append (a b : List UInt8) : byteCells (a ++ b) = byteCells a ++ byteCells b := by simp [byteCells]
theorem byteCells_at {l : List UInt8} {k : Nat} (h : k < l.length) : (byteCells l)[k]? = some (.int .u8 ((l[k]'h).toNat : Int)) := by simp [byteCells, h]

/-- 'string(b)' -/
theorem run_string_of {P : Program} {w : World} {B n c : Nat} {A : Option Addr} {l : List UInt8} (src dst e : TypeId) (hs : P.underlying src = some (.slice e)) (he : P.underlying e = some (.int .u8)) (hd : P.underlying dst = some .string)
    (h : Rd w B 1 A n c (byteCells l)) : (convert src dst (.slice A n c)).run P w = .ok (.string ⟨l.toArray⟩) w := by
  have hl : l.length = n := by have := h.len; rw [byteCells_len] at this; omega
  rcases Nat.eq_zero_or_pos n with hn | hn
  · subst hn
    obtain rfl : l = [] := List.eq_nil_of_length_eq_zero hl
    rw [run_convert_bytes_string w src dst e A 0 c hs he hd]
    cases A with
    | none => simp [Conv.bytesToString]; rfl
    | some a =>
      have hz : (loadCells a 0).run P w = .ok (([] : List Int).map (Value.int .u8)).toArray w := by
        simpa using run_loadCells_list (P := P) w a [] (fun j v hj => by simp at hj)
      rw [run_bytesToString w a 0 c [] hz]
      rfl
  · obtain ⟨g, o, rfl, _, hc⟩ := h.at_ hn
    have := run_convert_bytes_arg (P := P) w src e hs he g o n c (l.map fun b => (b.toNat : Int)) (by simpa using hl) (fun i hi => by
      rw [hc i _ (byteCells_at (by omega))]
      simp [List.getD, show i < l.length by omega]) dst hd
    rw [this]
    congr 2
    simp only [strOfNums, List.map_map]
    congr 2
    conv => rhs; rw [← List.map_id l]
    apply List.map_congr_left
    intro b _
    simp

section
variable {P : Program} {ops : Array Oper} {rest : List Oper} {o : Oper} {a : Act} {Q : Exit → Act → World → Prop}
theorem wpList_string {w : World} {B n c : Nat} {A : Option Addr} {l : List UInt8} (hgd : o.guard = none) (src dst e : TypeId) (x : Operand) (ho : o.op = .convert src dst x)
    (hs : P.underlying src = some (.slice e)) (he : P.underlying e = some (.int .u8)) (hd : P.underlying dst = some .string) (h : Rd w B 1 A n c (byteCells l)) (hx : a.eval x = .slice A n c)
    (hk : wpList P ops Q rest (a.put o.dst (.string ⟨l.toArray⟩)) w) : wpList P ops Q (o :: rest) a w := by
  refine wpList_plain hgd fun K hK => ?_
  unfold Oper.wp
  simp [execOp, ho, hx, run_string_of src dst e hs he hd h, Result.andThen]
  exact hK _ _ hk
end

section
variable {P : Program} {ops : Array Oper} {rest : List Oper} {o : Oper} {a : Act} {Q : Exit → Act → World → Prop}
/-- 'min(x, y)', kept behind a name -/
theorem wpList_min {w : World} (hgd : o.guard = none) (x y : Operand) (ts : Array TypeId) (ho : o.op = .call { callee := .builtin .min, args := #[x, y], argTypes := ts })
    (k k' : IntKind) (p q N : Int) (hx : a.eval x = .int k p) (hy : a.eval y = .int k' q) (hN : N = if q < p then q else p)
    (h : wpList P ops Q rest (a.put o.dst (.int k N)) w) : wpList P ops Q (o :: rest) a w := by
  refine wpList_plain hgd fun K hK => ?_
  have hrun := fun ts t => run_min_int2 (P := P) w ts t k k' p q
  unfold Oper.wp execOp
  simp only [ho, resolve, invoke, builtin, Sem.run_bind, Sem.run_pure, Result.andThen_ok, List.map_toArray, List.map_cons, List.map_nil, hx, hy, hrun]
  rw [← hN]
  exact hK _ _ h
end
/-- a cut of a slice from its head -/
theorem Rd.to {w : World} {B sz n c N : Nat} {A : Option Addr} {xs : List Value} (h : Rd w B sz A n c xs) (hN : N ≤ n) : Rd w B sz A N c (xs.take (N * sz)) := by
  have h1 := h.len
  have h2 : N * sz ≤ n * sz := Nat.mul_le_mul_right _ hN
  refine ⟨by rw [List.length_take]; omega, Nat.le_trans hN h.le, h.mx, fun hn => ?_⟩
  obtain ⟨g, o, e, hb, hc⟩ := h.at_ (by omega)
  refine ⟨g, o, e, hb, fun j u hu => hc j u ?_⟩
  rw [List.getElem?_take] at hu
  split at hu
  · exact hu
  · cases hu

end Go.Proofs.Ytcahadkkjfijfaa
