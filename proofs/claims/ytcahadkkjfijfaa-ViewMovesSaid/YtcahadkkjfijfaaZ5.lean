/- Joined: VPlain, VBase, VA. -/
import Derived.Test.YtcahadkkjfijfaaZ2
import Derived.Test.YtcahadkkjfijfaaZ4
import Derived.Test.YtcahadkkjfijfaaZ3
/- Memory with stores written into it, byte by byte: in plain Lean. -/
set_option linter.unusedVariables false
set_option linter.unusedSimpArgs false
namespace Go.Proofs.Ytcahadkkjfijfaa
open Go.RowKit

/-- a string's bytes -/
def bl (s : ByteArray) : List UInt8 := s.data.toList
theorem bl_len (s : ByteArray) : (bl s).length = s.size := by simp [bl]
theorem bl_ext {s t : ByteArray} (h : bl s = bl t) : s = t := by
  obtain ⟨⟨s⟩⟩ := s
  obtain ⟨⟨t⟩⟩ := t
  simp only [bl] at h
  subst h
  rfl
theorem bl_mk' (l : List UInt8) : bl ⟨l.toArray⟩ = l := by simp [bl]
/-- the byte that a store has at a place -/
def Pu.byte (p : Pu) (a : Nat) : Option UInt8 := if p.addr ≤ a then (bl p.data)[a - p.addr]? else none
/-- the byte that the last of stores has at a place -/
def lastL : List Pu → Nat → Option UInt8
  | [], _ => none
  | p :: ps, a => (lastL ps a).or (p.byte a)
def stepL (m : List UInt8) (p : Pu) : List UInt8 := if p.addr < m.length then layB m p.addr (bl p.data) else m
/-- memory with stores written into it -/
def overL (m : List UInt8) (ps : List Pu) : List UInt8 := ps.foldl stepL m
theorem lastL_append (a b : List Pu) (k : Nat) : lastL (a ++ b) k = (lastL b k).or (lastL a k) := by
  induction a with
  | nil => simp [lastL]
  | cons p a ih => simp only [List.cons_append, lastL, ih, Option.or_assoc]
theorem lastL_snoc (a : List Pu) (p : Pu) (k : Nat) : lastL (a ++ [p]) k = (p.byte k).or (lastL a k) := by rw [lastL_append]; simp [lastL]
theorem layB_at {l s : List UInt8} {k : Nat} (h : k ≤ l.length) (a : Nat) : (layB l k s)[a]? = l[a]?.map fun b => (if k ≤ a then s[a - k]? else none).getD b := by
  unfold layB
  by_cases h1 : a < k
  · rw [List.append_assoc, List.getElem?_append_left (by simp; omega), List.getElem?_take_of_lt h1, if_neg (by omega)]
    simp
  · rw [if_pos (by omega)]
    by_cases h2 : a < l.length
    · by_cases h3 : a - k < s.length
      · rw [List.getElem?_append_left (by simp; omega), List.getElem?_append_right (by simp; omega), List.length_take, Nat.min_eq_left h, List.getElem?_take_of_lt (by omega), List.getElem?_eq_getElem h3, List.getElem?_eq_getElem h2]
        rfl
      · rw [List.getElem?_append_right (by simp; omega), List.getElem?_drop, List.getElem?_eq_none (show s.length ≤ a - k by omega)]
        have e : k + s.length + (a - (l.take k ++ s.take (l.length - k)).length) = a := by simp; omega
        rw [e]
        simp
    · rw [List.getElem?_eq_none (by simp; omega), List.getElem?_eq_none (show l.length ≤ a by omega)]
      rfl
theorem stepL_len (m : List UInt8) (p : Pu) : (stepL m p).length = m.length := by
  unfold stepL
  split
  · exact layB_len (by omega)
  · rfl
theorem overL_len (m : List UInt8) (ps : List Pu) : (overL m ps).length = m.length := by
  induction ps generalizing m with
  | nil => rfl
  | cons p ps ih => show (overL (stepL m p) ps).length = _; rw [ih, stepL_len]
theorem stepL_at (m : List UInt8) (p : Pu) (a : Nat) : (stepL m p)[a]? = m[a]?.map fun b => (p.byte a).getD b := by
  unfold stepL
  split
  · rw [layB_at (by omega)]; rfl
  · by_cases h : a < m.length
    · have : p.byte a = none := by unfold Pu.byte; rw [if_neg (by omega)]
      rw [this]; simp
    · rw [List.getElem?_eq_none (by omega)]; rfl
theorem overL_at (m : List UInt8) (ps : List Pu) (a : Nat) : (overL m ps)[a]? = m[a]?.map fun b => (lastL ps a).getD b := by
  induction ps generalizing m with
  | nil => show m[a]? = _; simp [lastL]
  | cons p ps ih =>
    show (overL (stepL m p) ps)[a]? = _
    rw [ih, stepL_at, Option.map_map]
    congr 1
    funext b
    simp only [Function.comp, lastL]
    cases lastL ps a <;> rfl
theorem overL_append (m : List UInt8) (a b : List Pu) : overL m (a ++ b) = overL (overL m a) b := List.foldl_append
theorem overL_snoc (m : List UInt8) (a : List Pu) (p : Pu) : overL m (a ++ [p]) = stepL (overL m a) p := by rw [overL_append]; rfl
theorem overL_congr {m : List UInt8} {a b : List Pu} (h : ∀ k, k < m.length → lastL a k = lastL b k) : overL m a = overL m b := by
  apply List.ext_getElem?
  intro k
  rw [overL_at, overL_at]
  by_cases hk : k < m.length
  · rw [h k hk]
  · rw [List.getElem?_eq_none (by omega)]; rfl

/-- requests that write, as stores; a cache's lines, as stores -/
def writesL (q : List Rq) : List Pu := (q.filter fun r => decide (r.kind = 4)).map fun r => ⟨r.line, r.data⟩
def linesL (C : List (List Wy)) : List Pu := C.flatten.map fun v => ⟨v.line, v.data⟩
def Wy.pu (v : Wy) : Pu := ⟨v.line, v.data⟩
def waysL (ws : List Wy) : List Pu := ws.map Wy.pu
theorem writesL_append (p q : List Rq) : writesL (p ++ q) = writesL p ++ writesL q := by simp [writesL]
theorem writesL_yes {q : List Rq} {k : Nat} {r : Rq} (h : q[k]? = some r) (h4 : r.kind = 4) : writesL (q.take (k + 1)) = writesL (q.take k) ++ [⟨r.line, r.data⟩] := by
  obtain ⟨hl, e⟩ := List.getElem?_eq_some_iff.1 h
  rw [List.take_succ_eq_append_getElem hl, writesL_append, e]
  simp [writesL, h4]
theorem writesL_no {q : List Rq} {k : Nat} {r : Rq} (h : q[k]? = some r) (h4 : ¬ r.kind = 4) : writesL (q.take (k + 1)) = writesL (q.take k) := by
  obtain ⟨hl, e⟩ := List.getElem?_eq_some_iff.1 h
  rw [List.take_succ_eq_append_getElem hl, writesL_append, e]
  simp [writesL, h4]
theorem writesL_len (q : List Rq) : (writesL q).length ≤ q.length := by
  unfold writesL
  rw [List.length_map]
  exact List.length_filter_le _ _
theorem linesL_append (C D : List (List Wy)) : linesL (C ++ D) = linesL C ++ linesL D := by simp [linesL]
theorem linesL_succ {C : List (List Wy)} {k : Nat} {ws : List Wy} (h : C[k]? = some ws) : linesL (C.take (k + 1)) = linesL (C.take k) ++ waysL ws := by
  obtain ⟨hl, e⟩ := List.getElem?_eq_some_iff.1 h
  rw [List.take_succ_eq_append_getElem hl, linesL_append, e]
  simp [linesL, waysL, Wy.pu]
theorem waysL_succ {ws : List Wy} {j : Nat} {v : Wy} (h : ws[j]? = some v) : waysL (ws.take (j + 1)) = waysL (ws.take j) ++ [⟨v.line, v.data⟩] := by
  obtain ⟨hl, e⟩ := List.getElem?_eq_some_iff.1 h
  rw [List.take_succ_eq_append_getElem hl, waysL, waysL, List.map_append, e]
  rfl
/-- all at once, one behind the other -/
def allL (ss : List Pu) (C : List (List Wy)) (q : List Rq) (m : List UInt8) : List UInt8 := overL m (writesL q ++ linesL C ++ ss)
def belowL (q : List Rq) (m : List UInt8) : List UInt8 := overL m (writesL q)
theorem allL_len (ss : List Pu) (C : List (List Wy)) (q : List Rq) (m : List UInt8) : (allL ss C q m).length = m.length := overL_len _ _
theorem belowL_len (q : List Rq) (m : List UInt8) : (belowL q m).length = m.length := overL_len _ _
/-- a line of memory -/
def cutL (m : List UInt8) (x : Nat) : List UInt8 := (m.drop (x - x % 16)).take 16

/-! ### what a cache that may be has at a place -/
theorem byte_line {v : Wy} {a : Nat} {b : UInt8} (h16 : v.line % 16 = 0) (hd : v.data.size = 0 ∨ v.data.size = 16) (h : v.pu.byte a = some b) : v.line = a - a % 16 := by
  unfold Pu.byte at h
  split at h
  · have := (List.getElem?_eq_some_iff.1 h).1
    rw [bl_len] at this
    simp only [Wy.pu] at *
    omega
  · cases h
theorem mem_of_last {l : List Pu} {a : Nat} {b : UInt8} (h : lastL l a = some b) : ∃ p ∈ l, p.byte a = some b := by
  induction l with
  | nil => simp [lastL] at h
  | cons p l ih =>
    simp only [lastL] at h
    cases hl : lastL l a with
    | none => rw [hl, Option.none_or] at h; exact ⟨p, List.mem_cons_self .., h⟩
    | some c =>
      rw [hl, Option.some_or] at h
      obtain ⟨q, hq, e⟩ := ih (by rw [hl]; exact h)
      exact ⟨q, List.mem_cons_of_mem _ hq, e⟩
theorem last_none {l : List Pu} {a : Nat} (h : ∀ p ∈ l, p.byte a = none) : lastL l a = none := by
  cases e : lastL l a with
  | none => rfl
  | some b =>
    obtain ⟨p, hp, e'⟩ := mem_of_last e
    rw [h p hp] at e'; cases e'
/-- where one thing alone covers the place, it is had -/
theorem last_one {l : List Pu} {a : Nat} {p : Pu} (hp : p ∈ l) (h : ∀ q ∈ l, q = p ∨ q.byte a = none) : lastL l a = p.byte a := by
  cases e : p.byte a with
  | none =>
    refine last_none fun q hq => ?_
    rcases h q hq with rfl | h'
    · exact e
    · exact h'
  | some b =>
    cases e2 : lastL l a with
    | none =>
      exfalso
      have key : ∀ l' : List Pu, p ∈ l' → lastL l' a ≠ none := by
        intro l'
        induction l' with
        | nil => intro h; cases h
        | cons r l' ih =>
          intro hm
          simp only [lastL]
          rcases List.mem_cons.1 hm with rfl | hm
          · rw [e]; cases lastL l' a <;> simp
          · have := ih hm
            cases hh : lastL l' a with
            | none => exact absurd hh this
            | some c => simp
      exact key l hp e2
    | some c =>
      obtain ⟨q, hq, e3⟩ := mem_of_last e2
      rcases h q hq with rfl | h'
      · rw [e] at e3; rw [e3]
      · rw [h'] at e3; cases e3
/-- v is one of the cache's ways -/
def InC (C : List (List Wy)) (v : Wy) : Prop := ∃ (k : Nat) (ws : List Wy) (i : Nat), C[k]? = some ws ∧ ws[i]? = some v
theorem inC_mem {C : List (List Wy)} {v : Wy} : InC C v ↔ v ∈ C.flatten := by
  constructor
  · rintro ⟨k, ws, i, hw, hv⟩
    exact List.mem_flatten.2 ⟨ws, List.mem_of_getElem? hw, List.mem_of_getElem? hv⟩
  · intro h
    obtain ⟨ws, hw, hv⟩ := List.mem_flatten.1 h
    obtain ⟨k, hk⟩ := List.mem_iff_getElem?.1 hw
    obtain ⟨i, hi⟩ := List.mem_iff_getElem?.1 hv
    exact ⟨k, ws, i, hk, hi⟩
theorem RightP.way {ways : Int} {C : List (List Wy)} (hR : RightP ways C) {v : Wy} (h : InC C v) : v.line % 16 = 0 ∧ (v.data.size = 0 ∨ v.data.size = 16) := by
  obtain ⟨k, ws, i, hw, hv⟩ := h
  obtain ⟨h1, _, h2, _⟩ := (hR.hs k ws hw).2 i v hv
  exact ⟨h1, h2⟩
theorem RightP.uniq {ways : Int} {C : List (List Wy)} (hR : RightP ways C) {u v : Wy} (hu : InC C u) (hv : InC C v) (e : u.line = v.line) : u = v := by
  obtain ⟨k, ws, i, hw, hi⟩ := hu
  obtain ⟨l, us, j, hw', hj⟩ := hv
  have h1 := ((hR.hs k ws hw).2 i u hi).2.1
  have h2 := ((hR.hs l us hw').2 j v hj).2.1
  obtain rfl : k = l := by rw [← h1, ← h2, e]
  rw [hw] at hw'; injection hw' with hw'; subst hw'
  have h3 := (hR.hs k ws hw).lone i j u v hi hj e
  subst h3
  rw [hi] at hj; injection hj
/-- at a place of a line that is there: that way's byte -/
theorem lines_has {ways : Int} {C : List (List Wy)} (hR : RightP ways C) {v : Wy} (h : InC C v) {a : Nat} (hl : v.line = a - a % 16) : lastL (linesL C) a = v.pu.byte a := by
  refine last_one (List.mem_map.2 ⟨v, inC_mem.1 h, rfl⟩) fun q hq => ?_
  obtain ⟨u, hu, rfl⟩ := List.mem_map.1 hq
  have hu' := inC_mem.2 hu
  cases e : u.pu.byte a with
  | none => exact .inr e
  | some b =>
    obtain ⟨h16, hd⟩ := hR.way hu'
    have := byte_line h16 hd e
    have := hR.uniq hu' h (this.trans hl.symm)
    subst this
    exact .inl rfl
/-- at a place of a line that is not: nothing -/
theorem lines_not {ways : Int} {C : List (List Wy)} (hR : RightP ways C) {a : Nat} (h : ∀ v, InC C v → v.line ≠ a - a % 16) : lastL (linesL C) a = none := by
  refine last_none fun q hq => ?_
  obtain ⟨u, hu, rfl⟩ := List.mem_map.1 hq
  have hu' := inC_mem.2 hu
  cases e : u.pu.byte a with
  | none => exact e
  | some b =>
    obtain ⟨h16, hd⟩ := hR.way hu'
    exact absurd (byte_line h16 hd e) (h u hu')
/-- two caches that have a line's way alike -/
theorem lines_same {ways ways' : Int} {C D : List (List Wy)} (hR : RightP ways C) (hD : RightP ways' D) {a : Nat} (h1 : ∀ v, v.line = a - a % 16 → (InC C v ↔ InC D v)) : lastL (linesL C) a = lastL (linesL D) a := by
  by_cases h : ∃ v, InC C v ∧ v.line = a - a % 16
  · obtain ⟨v, hv, hl⟩ := h
    rw [lines_has hR hv hl, lines_has hD ((h1 v hl).1 hv) hl]
  · rw [lines_not hR fun v hv e => h ⟨v, hv, e⟩, lines_not hD fun v hv e => h ⟨v, (h1 v e).2 hv, e⟩]
theorem inC_set {C : List (List Wy)} {k : Nat} {ws us : List Wy} (hw : C[k]? = some ws) (v : Wy) : InC (C.set k us) v ↔ v ∈ us ∨ ∃ (j : Nat) (ts : List Wy) (i : Nat), j ≠ k ∧ C[j]? = some ts ∧ ts[i]? = some v := by
  have hk := (List.getElem?_eq_some_iff.1 hw).1
  constructor
  · rintro ⟨j, ts, i, hj, hi⟩
    by_cases e : k = j
    · subst e
      rw [List.getElem?_set_self hk] at hj
      injection hj with hj
      subst hj
      exact .inl (List.mem_of_getElem? hi)
    · rw [List.getElem?_set_ne e] at hj
      exact .inr ⟨j, ts, i, fun e' => e e'.symm, hj, hi⟩
  · rintro (h | ⟨j, ts, i, hj, h1, h2⟩)
    · obtain ⟨i, hi⟩ := List.mem_iff_getElem?.1 h
      exact ⟨k, us, i, List.getElem?_set_self hk, hi⟩
    · exact ⟨j, ts, i, by rw [List.getElem?_set_ne (fun e => hj e.symm)]; exact h1, h2⟩
theorem inC_same {C : List (List Wy)} {k : Nat} {ws : List Wy} (hw : C[k]? = some ws) (v : Wy) : InC C v ↔ v ∈ ws ∨ ∃ (j : Nat) (ts : List Wy) (i : Nat), j ≠ k ∧ C[j]? = some ts ∧ ts[i]? = some v := by
  have := inC_set (us := ws) hw v
  obtain ⟨hl, e⟩ := List.getElem?_eq_some_iff.1 hw
  rwa [← e, List.set_getElem_self, e] at this
end Go.Proofs.Ytcahadkkjfijfaa

/- Rows of stores and of requests over St; a byte slice's rest within a statement that draws its order. -/
set_option linter.unusedVariables false
set_option linter.unusedSimpArgs false
namespace Go.Proofs.Ytcahadkkjfijfaa
open Go.RowKit

instance pusRows : Rows pus Pu.cells 2 := ⟨fun _ => rfl, fun _ => rfl, Pu.one, by decide⟩
theorem Rq.one (r : Rq) : ∀ u ∈ r.cells, u.oneCell' = true := fun u hu => rqs_one [r] u (by simpa [rqs] using hu)
instance rqsRows : Rows rqs Rq.cells 4 := ⟨fun _ => rfl, fun _ => rfl, Rq.one, by decide⟩
instance pusOne (q : List Pu) : OneC (pus q) := ⟨pus_one q⟩
instance puOne (r : Pu) : OneC r.cells := ⟨r.one⟩
instance rqsOne (q : List Rq) : OneC (rqs q) := ⟨rqs_one q⟩
instance rqOne (r : Rq) : OneC r.cells := ⟨r.one⟩
theorem Rd.rqslen {w : World} {B n c : Nat} {A : Option Addr} {q : List Rq} (h : Rd w B 4 A n c (rqs q)) : q.length = n := by
  have hn := h.len
  rw [rqs_len] at hn
  omega
section
variable {P : Program} {ops : Array Oper} {o : Oper} {a : Act} {S : World → Prop}
theorem run_fromB {w : World} {t e : TypeId} {g n c k : Nat} {ki : IntKind} (ht : BySlT P t e) (hk : k < n) (hn : n ≤ c) : (Instr.sliceAt t (.slice (some ⟨g, 0, none⟩) n c) (some (.int ki (k : Int))) none none).run P w = .ok (.slice (some ⟨g, k, none⟩) (n - k) (c - k)) w := by
  obtain ⟨hu, he, hi⟩ := ht
  have hs : (sizeOf e).run P w = .ok 1 w := by
    cases hq : P.info? e with
    | none => simp [hq] at hi
    | some i =>
      have : i.size = 1 := by simpa [hq] using hi
      simp [sizeOf, typeInfo, hq, this]
  have hel : P.elem t = e := by simp [Program.elem, hu]
  have h1 := run_slice_l (P := P) (w := w) t (some ⟨g, 0, none⟩) n c (by rw [hel]; exact hu) ki (k : Int) (by omega) (by omega)
  rw [run_sliceAt_slice (P := P) (w := w) t _ _ _ _ (by rw [hel]; exact hu), h1, hel, hs]
  simp only [Result.andThen_ok, sliced, Int.toNat_natCast]
  rw [if_neg (by omega)]
  simp [addr_add]
theorem y_fromB {t e : TypeId} {x y : Operand} {g n c k : Nat} {ki : IntKind} (ho : o.op = .slice t x (some y) none none) (hx : look a x = some (.slice (some ⟨g, 0, none⟩) n c)) (hy : look a y = some (.int ki (k : Int)))
    (ht : BySlT P t e := by exact tyBy _ _ rfl) (hw : Region.wanted o (yielded ops a.tmps) = true := by rfl) (hk : k < n := by (first | assumption | omega)) (hn : n ≤ c := by (first | assumption | omega)) : YieldsIf P ops S o (.slice (some ⟨g, k, none⟩) (n - k) (c - k)) a := by
  replace hx := look_eval hx
  replace hy := look_eval hy
  exact yi_pure hw fun w => by
    unfold execOp
    simp only [ho, hx, hy, Option.map_some, Option.map_none, run_fromB ht hk hn, Sem.run_bind, Sem.run_pure, Result.andThen_ok]
end
section
variable {P : Program} {ops : Array Oper} {rest : List Oper} {o : Oper} {a : Act} {Q : Exit → Act → World → Prop} {w0 w : World} {D0 D : List Da} {M : List Mu}
/-- 'string(b)' of bytes that are data -/
theorem w_stringD {src dst e : TypeId} {x : Operand} {A : Option Addr} {n c : Nat} {l : List UInt8} (ho : o.op = .convert src dst x) (hF : St w0 D0 w M D) (hx : look a x = some (.slice A n c))
    (h : wpList P ops Q rest (a.put o.dst (.string ⟨l.toArray⟩)) w) (hgd : o.guard = none := by rfl) (hs : BySlT P src e := by exact tyBy _ _ rfl) (hd : StrT P dst := by exact tyStr _ rfl) (hD : rowD 1 A n c (byteCells l) ∈ D := by ((repeat (first | exact List.Mem.head _ | refine List.Mem.tail _ ?_)) <;> exact List.Mem.head _)) : wpList P ops Q (o :: rest) a w := by
  obtain ⟨hu, he, _⟩ := hs
  obtain ⟨hd⟩ := hd
  exact wpList_string hgd src dst e x ho hu he hd (hF.rd hD) (look_eval hx) h
end
/-- memory with stores written into it, as a string -/
def ovS (m : ByteArray) (ps : List Pu) : ByteArray := ⟨(overL (bl m) ps).toArray⟩
theorem bl_ovS (m : ByteArray) (ps : List Pu) : bl (ovS m ps) = overL (bl m) ps := bl_mk' _
theorem ovS_size (m : ByteArray) (ps : List Pu) : (ovS m ps).size = m.size := by rw [← bl_len, bl_ovS, overL_len, bl_len]
theorem ovS_eq {m : ByteArray} {ps qs : List Pu} (h : overL (bl m) ps = overL (bl m) qs) : ovS m ps = ovS m qs := by unfold ovS; rw [h]
theorem ovS_ovS (m : ByteArray) (ps qs : List Pu) : ovS (ovS m ps) qs = ovS m (ps ++ qs) := by
  unfold ovS
  rw [overL_append, show bl ⟨(overL (bl m) ps).toArray⟩ = overL (bl m) ps from bl_mk' _]
theorem writes_ok {q : List Rq} (h : ∀ r ∈ q, r.line < 4294967296) : ∀ p ∈ writesL q, p.addr < 4294967296 := fun p hp => by
  obtain ⟨r, hr, rfl⟩ := List.mem_map.1 hp
  exact h r (List.mem_filter.1 hr).1
theorem vcont_el {S : List Cs} {k : Nat} {A : Option Addr} {n c : Nat} {q : List Wy} (h : S[k]? = some ⟨A, n, c, q⟩) : (cont S)[k]? = some q := by
  obtain ⟨hl, e⟩ := List.getElem?_eq_some_iff.1 h
  rw [cont_at hl, e]
theorem lines_ok {S : List Cs} (h : SOk S) : ∀ p ∈ linesL (cont S), p.addr < 4294967296 := fun p hp => by
  obtain ⟨v, hv, rfl⟩ := List.mem_map.1 hp
  obtain ⟨ws, hw, hv⟩ := List.mem_flatten.1 hv
  obtain ⟨s, hs, rfl⟩ := List.mem_map.1 hw
  exact (h s hs v hv).1
/-- a line of memory, as a string -/
def cutS (m : ByteArray) (x : Nat) : ByteArray := ⟨(cutL (bl m) x).toArray⟩
theorem bl_cutS (m : ByteArray) (x : Nat) : bl (cutS m x) = cutL (bl m) x := bl_mk' _
theorem cutS_line (m : ByteArray) (x : Nat) : cutS m (x - x % 16) = cutS m x := by
  unfold cutS cutL
  rw [show x - x % 16 - (x - x % 16) % 16 = x - x % 16 by omega]
theorem cutS_out {m : ByteArray} {x : Nat} (h : m.size ≤ x - x % 16) : cutS m x = ⟨#[]⟩ := by
  unfold cutS cutL
  rw [List.drop_of_length_le (by rw [bl_len]; exact h)]
  rfl
theorem cutS_in {m : ByteArray} {x n : Nat} (h : x - x % 16 < m.size) (hn : n = min (m.size - (x - x % 16)) 16) : (m.extract (x - x % 16) m.size).extract 0 n = cutS m x := by
  apply bl_ext
  rw [bl_cutS, cutL]
  unfold bl
  rw [cut_list, cut_list, List.drop_zero]
  have hl : m.data.toList.length = m.size := bl_len m
  rw [show ((m.data.toList.take m.size).drop (x - x % 16)) = m.data.toList.drop (x - x % 16) by rw [List.take_of_length_le (by omega)]]
  subst hn
  rcases Nat.le_total (m.size - (x - x % 16)) 16 with h1 | h1
  · rw [Nat.min_eq_left h1, List.take_of_length_le (by rw [List.length_drop, hl]; exact Nat.le_refl _), List.take_of_length_le (by rw [List.length_drop, hl]; exact h1)]
  · rw [Nat.min_eq_right h1]
end Go.Proofs.Ytcahadkkjfijfaa

/- view: the program's walks. -/
set_option linter.unusedVariables false
set_option linter.unusedSimpArgs false
set_option maxRecDepth 100000
namespace Go.Proofs.Ytcahadkkjfijfaa
open Go.RowKit Go.Sort

set_option maxHeartbeats 8000000 in
theorem vOver_any (m : ByteArray) (A : Option Addr) (n c : Nat) (ps : List Pu) (w : World) (hr : Rd w w.heap.size 2 A n c (pus ps)) (hm : m.size ≤ maxLen) (ha : ∀ p ∈ ps, p.addr < 4294967296) :
    Calls Try.prog 73 #[.string m, .slice A n c] w fun e w' => e = .returned (.string (ovS m ps)) ∧ Bel w w' := by
  have hF := St.start w [rowD 2 A n c (pus ps)] (fun d hd => by obtain rfl := List.mem_singleton.1 hd; exact hr)
  have hc1 := hr.le
  have hc2 := hr.mx
  unfold maxLen at hc2
  have hn := hr.puslen
  have hmm := hm
  unfold maxLen at hmm
  go_enter Try.func73, Try.ntmps73
  go_wp2_with (first | (refine w_bytes rfl hF rfl ?_; clear hF; intro gN capN rN wN hF hcap hcapm) | ((first | (refine w_box rfl hF rfl ?_; clear hF; intro gN wN hF) | (refine w_alloc rfl hF ?_; clear hF; intro gN wN hF) | (refine w_ld1 rfl hF rfl ?_) | (refine w_ld rfl hF rfl ?_) | (refine w_st1 rfl hF rfl rfl ?_; clear hF; intro wN hF; (try simp only [List.set_cons_zero, List.set_cons_succ, List.eraseIdx_cons_zero, List.eraseIdx_cons_succ] at hF)) | (refine w_st rfl hF rfl rfl ?_; clear hF; intro wN hF; (try simp only [List.set_cons_zero, List.set_cons_succ, List.eraseIdx_cons_zero, List.eraseIdx_cons_succ] at hF)) | (refine w_fldB rfl rfl ?_) | (refine w_fld rfl hF rfl ?_) | (refine w_ix rfl hF rfl rfl ?_) | (refine w_lde1 rfl hF rfl ?_) | (refine w_lde rfl hF rfl ?_) | (refine w_bs1 rfl hF rfl ?_; clear hF; intro gN wN hF) | (refine w_bs0 rfl hF ?_; clear hF; intro gN wN hF) | (refine w_app rfl hF rfl rfl ?_; clear hF; intro vN wN hF; (try simp only [List.set_cons_zero, List.set_cons_succ, List.eraseIdx_cons_zero, List.eraseIdx_cons_succ] at hF)) | (refine w_appD rfl hF rfl rfl ?_; clear hF; intro vN wN hF; (try simp only [List.set_cons_zero, List.set_cons_succ, List.eraseIdx_cons_zero, List.eraseIdx_cons_succ] at hF)) | (refine w_ld1o rfl hF rfl ?_) | (refine w_st1o rfl hF rfl rfl ?_; clear hF; intro wN hF; (try simp only [List.set_cons_zero, List.set_cons_succ, List.eraseIdx_cons_zero, List.eraseIdx_cons_succ] at hF)) | (refine w_make0 rfl hF rfl rfl ?_; clear hF; intro gN wN hF) | (refine w_to rfl hF rfl rfl ?_; clear hF; intro hF) | (refine w_from rfl hF rfl rfl ?_; clear hF; intro hF)); (try simp only [Act.put, List.setIfInBounds_toArray, List.set_cons_zero, List.set_cons_succ, Nat.zero_add, Nat.zero_mul, Nat.reduceAdd])))
  obtain ⟨gB, rfl⟩ := hF.names1
  replace hcap := Lib.hid hcap
  go_loopw [12] (fun ix wr => ∃ k : Nat, k ≤ n ∧ ix = .int .i64 (k : Int) ∧ St w [rowD 2 A n c (pus ps)] wr [.blk gB 5 (byteCells (overL (bl m) (ps.take k)) ++ rN)] [rowD 2 A n c (pus ps)]) (fun ix _ => n - (intOf ix).toNat)
  case atStart => exact ⟨0, by omega, rfl, hF⟩
  case round =>
    obtain ⟨k, hk, rfl, hF⟩ := hrel
    by_cases hkn : k < n
    · obtain ⟨p, hu⟩ : ∃ p, ps[k]? = some p := ⟨_, List.getElem?_eq_getElem (by omega)⟩
      have hpa := ha p (List.mem_of_getElem? hu)
      have hstep : overL (bl m) (ps.take (k + 1)) = stepL (overL (bl m) (ps.take k)) p := by
        obtain ⟨hl, e⟩ := List.getElem?_eq_some_iff.1 hu
        rw [List.take_succ_eq_append_getElem hl, e, overL_snoc]
      have hlen : (overL (bl m) (ps.take k)).length = m.size := by rw [overL_len, bl_len]
      obtain ⟨pa, pd⟩ := p
      unfold stepL at hstep
      rw [hlen] at hstep
      dsimp only at hstep hpa
      by_cases hlt : pa < m.size
      · rw [if_pos hlt] at hstep
        have hle : pa + (m.size - pa) = (overL (bl m) (ps.take k)).length := by omega
        have hmc : m.size ≤ capN := by have := hcap.out; omega
        have hst := Lib.hid hstep
        clear hstep hlen
        go_upto_region 6 with (first | (refine w_lde (us := [.int .u32 (pa : Int), .string pd]) (hu := Rows.sub (f := pus) hu) rfl hF rfl ?_) | ((first | (refine w_box rfl hF rfl ?_; clear hF; intro gN wN hF) | (refine w_alloc rfl hF ?_; clear hF; intro gN wN hF) | (refine w_ld1 rfl hF rfl ?_) | (refine w_ld rfl hF rfl ?_) | (refine w_st1 rfl hF rfl rfl ?_; clear hF; intro wN hF; (try simp only [List.set_cons_zero, List.set_cons_succ, List.eraseIdx_cons_zero, List.eraseIdx_cons_succ] at hF)) | (refine w_st rfl hF rfl rfl ?_; clear hF; intro wN hF; (try simp only [List.set_cons_zero, List.set_cons_succ, List.eraseIdx_cons_zero, List.eraseIdx_cons_succ] at hF)) | (refine w_fldB rfl rfl ?_) | (refine w_fld rfl hF rfl ?_) | (refine w_ix rfl hF rfl rfl ?_) | (refine w_lde1 rfl hF rfl ?_) | (refine w_lde rfl hF rfl ?_) | (refine w_bs1 rfl hF rfl ?_; clear hF; intro gN wN hF) | (refine w_bs0 rfl hF ?_; clear hF; intro gN wN hF) | (refine w_app rfl hF rfl rfl ?_; clear hF; intro vN wN hF; (try simp only [List.set_cons_zero, List.set_cons_succ, List.eraseIdx_cons_zero, List.eraseIdx_cons_succ] at hF)) | (refine w_appD rfl hF rfl rfl ?_; clear hF; intro vN wN hF; (try simp only [List.set_cons_zero, List.set_cons_succ, List.eraseIdx_cons_zero, List.eraseIdx_cons_succ] at hF)) | (refine w_ld1o rfl hF rfl ?_) | (refine w_st1o rfl hF rfl rfl ?_; clear hF; intro wN hF; (try simp only [List.set_cons_zero, List.set_cons_succ, List.eraseIdx_cons_zero, List.eraseIdx_cons_succ] at hF)) | (refine w_make0 rfl hF rfl rfl ?_; clear hF; intro gN wN hF) | (refine w_to rfl hF rfl rfl ?_; clear hF; intro hF) | (refine w_from rfl hF rfl rfl ?_; clear hF; intro hF)); (try simp only [Act.put, List.setIfInBounds_toArray, List.set_cons_zero, List.set_cons_succ, Nat.zero_add, Nat.zero_mul, Nat.reduceAdd])))
        obtain ⟨gP, rfl⟩ := hF.names1
        refine wp_region_st (by kernel_rfl) hF [.blk gP 27 [.int .u32 (pa : Int), .string pd]] _ (by ((repeat (first | exact subn_nil | refine subn_cons (by ((repeat (first | exact List.Mem.head _ | refine List.Mem.tail _ ?_)) <;> exact List.Mem.head _)) ?_)) <;> exact subn_nil)) (fun _ h => h) ?_
        clear hF; intro hF hH
        (refine w_take (i := 0) rfl (y_move rfl rfl) hH ?_); (try simp only [Act.put, List.setIfInBounds_toArray, List.set_cons_zero, List.set_cons_succ, Nat.zero_add, Nat.zero_mul, Nat.reduceAdd])
        (first | refine w_take (i := 1) rfl (y_fldB rfl rfl) hH ?_ | refine w_take (i := 1) rfl (y_fld rfl rfl) hH ?_); (try simp only [Act.put, List.setIfInBounds_toArray, List.set_cons_zero, List.set_cons_succ, Nat.zero_add, Nat.zero_mul, Nat.reduceAdd])
        (first | refine w_take (i := 2) rfl (y_ld1 rfl rfl) hH ?_ | refine w_take (i := 2) rfl (y_ld rfl rfl) hH ?_ | refine w_take (i := 2) rfl (y_lde1 rfl rfl) hH ?_ | refine w_take (i := 2) rfl (y_lde rfl rfl) hH ?_); (try simp only [Act.put, List.setIfInBounds_toArray, List.set_cons_zero, List.set_cons_succ, Nat.zero_add, Nat.zero_mul, Nat.reduceAdd])
        (first | refine w_take (i := 3) rfl (y_fromB rfl rfl rfl) hH ?_ | refine w_take (i := 3) rfl (y_to rfl rfl rfl) hH ?_ | refine w_take (i := 3) rfl (y_from rfl rfl rfl) hH ?_ | refine w_take (i := 3) rfl (y_strto rfl rfl rfl) hH ?_ | refine w_take (i := 3) rfl (y_strfrom rfl rfl rfl) hH ?_); (try simp only [Act.put, List.setIfInBounds_toArray, List.set_cons_zero, List.set_cons_succ, Nat.zero_add, Nat.zero_mul, Nat.reduceAdd])
        (first | refine w_take (i := 4) rfl (y_fldB rfl rfl) hH ?_ | refine w_take (i := 4) rfl (y_fld rfl rfl) hH ?_); (try simp only [Act.put, List.setIfInBounds_toArray, List.set_cons_zero, List.set_cons_succ, Nat.zero_add, Nat.zero_mul, Nat.reduceAdd])
        (first | refine w_take (i := 5) rfl (y_ld1 rfl rfl) hH ?_ | refine w_take (i := 5) rfl (y_ld rfl rfl) hH ?_ | refine w_take (i := 5) rfl (y_lde1 rfl rfl) hH ?_ | refine w_take (i := 5) rfl (y_lde rfl rfl) hH ?_); (try simp only [Act.put, List.setIfInBounds_toArray, List.set_cons_zero, List.set_cons_succ, Nat.zero_add, Nat.zero_mul, Nat.reduceAdd])
        refine wpAnyH_ready (rs := [6]) (by kernel_rfl) (by simp) (ready_cons rfl (fun K hK => ?_) AllReadyH.nil)
        go_wp2_with (first | (refine w_copys rfl hF rfl rfl ?_; clear hF; intro wN hF) | ((first | (refine w_box rfl hF rfl ?_; clear hF; intro gN wN hF) | (refine w_alloc rfl hF ?_; clear hF; intro gN wN hF) | (refine w_ld1 rfl hF rfl ?_) | (refine w_ld rfl hF rfl ?_) | (refine w_st1 rfl hF rfl rfl ?_; clear hF; intro wN hF; (try simp only [List.set_cons_zero, List.set_cons_succ, List.eraseIdx_cons_zero, List.eraseIdx_cons_succ] at hF)) | (refine w_st rfl hF rfl rfl ?_; clear hF; intro wN hF; (try simp only [List.set_cons_zero, List.set_cons_succ, List.eraseIdx_cons_zero, List.eraseIdx_cons_succ] at hF)) | (refine w_fldB rfl rfl ?_) | (refine w_fld rfl hF rfl ?_) | (refine w_ix rfl hF rfl rfl ?_) | (refine w_lde1 rfl hF rfl ?_) | (refine w_lde rfl hF rfl ?_) | (refine w_bs1 rfl hF rfl ?_; clear hF; intro gN wN hF) | (refine w_bs0 rfl hF ?_; clear hF; intro gN wN hF) | (refine w_app rfl hF rfl rfl ?_; clear hF; intro vN wN hF; (try simp only [List.set_cons_zero, List.set_cons_succ, List.eraseIdx_cons_zero, List.eraseIdx_cons_succ] at hF)) | (refine w_appD rfl hF rfl rfl ?_; clear hF; intro vN wN hF; (try simp only [List.set_cons_zero, List.set_cons_succ, List.eraseIdx_cons_zero, List.eraseIdx_cons_succ] at hF)) | (refine w_ld1o rfl hF rfl ?_) | (refine w_st1o rfl hF rfl rfl ?_; clear hF; intro wN hF; (try simp only [List.set_cons_zero, List.set_cons_succ, List.eraseIdx_cons_zero, List.eraseIdx_cons_succ] at hF)) | (refine w_make0 rfl hF rfl rfl ?_; clear hF; intro gN wN hF) | (refine w_to rfl hF rfl rfl ?_; clear hF; intro hF) | (refine w_from rfl hF rfl rfl ?_; clear hF; intro hF)); (try simp only [Act.put, List.setIfInBounds_toArray, List.set_cons_zero, List.set_cons_succ, Nat.zero_add, Nat.zero_mul, Nat.reduceAdd])))
        have hH := hH.nextA hF; refine hK.out _ _ hH ?_; clear hK; (try simp only [Act.put, List.setIfInBounds_toArray, List.set_cons_zero, List.set_cons_succ, Nat.zero_add, Nat.zero_mul, Nat.reduceAdd])
        refine wpAnyH_done (by kernel_rfl) ?_ _
        (go_wp2_with (first | ((first | (refine w_box rfl hF rfl ?_; clear hF; intro gN wN hF) | (refine w_alloc rfl hF ?_; clear hF; intro gN wN hF) | (refine w_ld1 rfl hF rfl ?_) | (refine w_ld rfl hF rfl ?_) | (refine w_st1 rfl hF rfl rfl ?_; clear hF; intro wN hF; (try simp only [List.set_cons_zero, List.set_cons_succ, List.eraseIdx_cons_zero, List.eraseIdx_cons_succ] at hF)) | (refine w_st rfl hF rfl rfl ?_; clear hF; intro wN hF; (try simp only [List.set_cons_zero, List.set_cons_succ, List.eraseIdx_cons_zero, List.eraseIdx_cons_succ] at hF)) | (refine w_fldB rfl rfl ?_) | (refine w_fld rfl hF rfl ?_) | (refine w_ix rfl hF rfl rfl ?_) | (refine w_lde1 rfl hF rfl ?_) | (refine w_lde rfl hF rfl ?_) | (refine w_bs1 rfl hF rfl ?_; clear hF; intro gN wN hF) | (refine w_bs0 rfl hF ?_; clear hF; intro gN wN hF) | (refine w_app rfl hF rfl rfl ?_; clear hF; intro vN wN hF; (try simp only [List.set_cons_zero, List.set_cons_succ, List.eraseIdx_cons_zero, List.eraseIdx_cons_succ] at hF)) | (refine w_appD rfl hF rfl rfl ?_; clear hF; intro vN wN hF; (try simp only [List.set_cons_zero, List.set_cons_succ, List.eraseIdx_cons_zero, List.eraseIdx_cons_succ] at hF)) | (refine w_ld1o rfl hF rfl ?_) | (refine w_st1o rfl hF rfl rfl ?_; clear hF; intro wN hF; (try simp only [List.set_cons_zero, List.set_cons_succ, List.eraseIdx_cons_zero, List.eraseIdx_cons_succ] at hF)) | (refine w_make0 rfl hF rfl rfl ?_; clear hF; intro gN wN hF) | (refine w_to rfl hF rfl rfl ?_; clear hF; intro hF) | (refine w_from rfl hF rfl rfl ?_; clear hF; intro hF)); (try simp only [Act.put, List.setIfInBounds_toArray, List.set_cons_zero, List.set_cons_succ, Nat.zero_add, Nat.zero_mul, Nat.reduceAdd]))); go_roundw; (case rel => exact ⟨k + 1, by omega, by go_num, by rw [hst.out]; exact hF.drop 0⟩); (case measure => first | (simp [intOf]; done) | (simp [intOf]; omega)))
      · rw [if_neg hlt] at hstep
        have hst := Lib.hid hstep
        clear hstep hlen
        go_wp2_with (first | (refine w_lde (us := [.int .u32 (pa : Int), .string pd]) (hu := Rows.sub (f := pus) hu) rfl hF rfl ?_) | ((first | (refine w_box rfl hF rfl ?_; clear hF; intro gN wN hF) | (refine w_alloc rfl hF ?_; clear hF; intro gN wN hF) | (refine w_ld1 rfl hF rfl ?_) | (refine w_ld rfl hF rfl ?_) | (refine w_st1 rfl hF rfl rfl ?_; clear hF; intro wN hF; (try simp only [List.set_cons_zero, List.set_cons_succ, List.eraseIdx_cons_zero, List.eraseIdx_cons_succ] at hF)) | (refine w_st rfl hF rfl rfl ?_; clear hF; intro wN hF; (try simp only [List.set_cons_zero, List.set_cons_succ, List.eraseIdx_cons_zero, List.eraseIdx_cons_succ] at hF)) | (refine w_fldB rfl rfl ?_) | (refine w_fld rfl hF rfl ?_) | (refine w_ix rfl hF rfl rfl ?_) | (refine w_lde1 rfl hF rfl ?_) | (refine w_lde rfl hF rfl ?_) | (refine w_bs1 rfl hF rfl ?_; clear hF; intro gN wN hF) | (refine w_bs0 rfl hF ?_; clear hF; intro gN wN hF) | (refine w_app rfl hF rfl rfl ?_; clear hF; intro vN wN hF; (try simp only [List.set_cons_zero, List.set_cons_succ, List.eraseIdx_cons_zero, List.eraseIdx_cons_succ] at hF)) | (refine w_appD rfl hF rfl rfl ?_; clear hF; intro vN wN hF; (try simp only [List.set_cons_zero, List.set_cons_succ, List.eraseIdx_cons_zero, List.eraseIdx_cons_succ] at hF)) | (refine w_ld1o rfl hF rfl ?_) | (refine w_st1o rfl hF rfl rfl ?_; clear hF; intro wN hF; (try simp only [List.set_cons_zero, List.set_cons_succ, List.eraseIdx_cons_zero, List.eraseIdx_cons_succ] at hF)) | (refine w_make0 rfl hF rfl rfl ?_; clear hF; intro gN wN hF) | (refine w_to rfl hF rfl rfl ?_; clear hF; intro hF) | (refine w_from rfl hF rfl rfl ?_; clear hF; intro hF)); (try simp only [Act.put, List.setIfInBounds_toArray, List.set_cons_zero, List.set_cons_succ, Nat.zero_add, Nat.zero_mul, Nat.reduceAdd])))
        go_roundw
        case rel => exact ⟨k + 1, by omega, by go_num, by rw [hst.out]; exact hF.drop 0⟩
        case measure => first | (simp [intOf]; done) | (simp [intOf]; omega)
    · obtain rfl : k = n := by omega
      have hlen : (overL (bl m) (ps.take k)).length = m.size := by rw [overL_len, bl_len]
      have hmc : m.size ≤ capN := by have := hcap.out; omega
      have htk : ps.take k = ps := List.take_of_length_le (by omega)
      go_wp2_with (first | (refine w_string rfl hF rfl ?_) | ((first | (refine w_box rfl hF rfl ?_; clear hF; intro gN wN hF) | (refine w_alloc rfl hF ?_; clear hF; intro gN wN hF) | (refine w_ld1 rfl hF rfl ?_) | (refine w_ld rfl hF rfl ?_) | (refine w_st1 rfl hF rfl rfl ?_; clear hF; intro wN hF; (try simp only [List.set_cons_zero, List.set_cons_succ, List.eraseIdx_cons_zero, List.eraseIdx_cons_succ] at hF)) | (refine w_st rfl hF rfl rfl ?_; clear hF; intro wN hF; (try simp only [List.set_cons_zero, List.set_cons_succ, List.eraseIdx_cons_zero, List.eraseIdx_cons_succ] at hF)) | (refine w_fldB rfl rfl ?_) | (refine w_fld rfl hF rfl ?_) | (refine w_ix rfl hF rfl rfl ?_) | (refine w_lde1 rfl hF rfl ?_) | (refine w_lde rfl hF rfl ?_) | (refine w_bs1 rfl hF rfl ?_; clear hF; intro gN wN hF) | (refine w_bs0 rfl hF ?_; clear hF; intro gN wN hF) | (refine w_app rfl hF rfl rfl ?_; clear hF; intro vN wN hF; (try simp only [List.set_cons_zero, List.set_cons_succ, List.eraseIdx_cons_zero, List.eraseIdx_cons_succ] at hF)) | (refine w_appD rfl hF rfl rfl ?_; clear hF; intro vN wN hF; (try simp only [List.set_cons_zero, List.set_cons_succ, List.eraseIdx_cons_zero, List.eraseIdx_cons_succ] at hF)) | (refine w_ld1o rfl hF rfl ?_) | (refine w_st1o rfl hF rfl rfl ?_; clear hF; intro wN hF; (try simp only [List.set_cons_zero, List.set_cons_succ, List.eraseIdx_cons_zero, List.eraseIdx_cons_succ] at hF)) | (refine w_make0 rfl hF rfl rfl ?_; clear hF; intro gN wN hF) | (refine w_to rfl hF rfl rfl ?_; clear hF; intro hF) | (refine w_from rfl hF rfl rfl ?_; clear hF; intro hF)); (try simp only [Act.put, List.setIfInBounds_toArray, List.set_cons_zero, List.set_cons_succ, Nat.zero_add, Nat.zero_mul, Nat.reduceAdd])))
      go_ret
      exact ⟨rfl, hF.bel⟩
set_option maxHeartbeats 8000000 in
theorem vBelow_any (m : ByteArray) (A : Option Addr) (n c : Nat) (q : List Rq) (w : World) (hr : Rd w w.heap.size 4 A n c (rqs q)) (hm : m.size ≤ maxLen) (hn : n ≤ 1000000) (hq : ∀ r ∈ q, r.line < 4294967296) :
    Calls Try.prog 76 #[.slice A n c, .string m] w fun e w' => e = .returned (.string (ovS m (writesL q))) ∧ Bel w w' := by
  have hF := St.start w [rowD 4 A n c (rqs q)] (fun d hd => by obtain rfl := List.mem_singleton.1 hd; exact hr)
  have hc1 := hr.le
  have hc2 := hr.mx
  unfold maxLen at hc2
  have hql := hr.rqslen
  go_enter Try.func76, Try.ntmps76
  go_wp2_with (first | ((first | (refine w_box rfl hF rfl ?_; clear hF; intro gN wN hF) | (refine w_alloc rfl hF ?_; clear hF; intro gN wN hF) | (refine w_ld1 rfl hF rfl ?_) | (refine w_ld rfl hF rfl ?_) | (refine w_st1 rfl hF rfl rfl ?_; clear hF; intro wN hF; (try simp only [List.set_cons_zero, List.set_cons_succ, List.eraseIdx_cons_zero, List.eraseIdx_cons_succ] at hF)) | (refine w_st rfl hF rfl rfl ?_; clear hF; intro wN hF; (try simp only [List.set_cons_zero, List.set_cons_succ, List.eraseIdx_cons_zero, List.eraseIdx_cons_succ] at hF)) | (refine w_fldB rfl rfl ?_) | (refine w_fld rfl hF rfl ?_) | (refine w_ix rfl hF rfl rfl ?_) | (refine w_lde1 rfl hF rfl ?_) | (refine w_lde rfl hF rfl ?_) | (refine w_bs1 rfl hF rfl ?_; clear hF; intro gN wN hF) | (refine w_bs0 rfl hF ?_; clear hF; intro gN wN hF) | (refine w_app rfl hF rfl rfl ?_; clear hF; intro vN wN hF; (try simp only [List.set_cons_zero, List.set_cons_succ, List.eraseIdx_cons_zero, List.eraseIdx_cons_succ] at hF)) | (refine w_appD rfl hF rfl rfl ?_; clear hF; intro vN wN hF; (try simp only [List.set_cons_zero, List.set_cons_succ, List.eraseIdx_cons_zero, List.eraseIdx_cons_succ] at hF)) | (refine w_ld1o rfl hF rfl ?_) | (refine w_st1o rfl hF rfl rfl ?_; clear hF; intro wN hF; (try simp only [List.set_cons_zero, List.set_cons_succ, List.eraseIdx_cons_zero, List.eraseIdx_cons_succ] at hF)) | (refine w_make0 rfl hF rfl rfl ?_; clear hF; intro gN wN hF) | (refine w_to rfl hF rfl rfl ?_; clear hF; intro hF) | (refine w_from rfl hF rfl rfl ?_; clear hF; intro hF)); (try simp only [Act.put, List.setIfInBounds_toArray, List.set_cons_zero, List.set_cons_succ, Nat.zero_add, Nat.zero_mul, Nat.reduceAdd])))
  have hF := hF.nil 27 2
  go_loopw [10, 5] (fun ix x wr => ∃ k N : Nat, k ≤ n ∧ N ≤ k ∧ ix = .int .i64 (k : Int) ∧ St w [rowD 4 A n c (rqs q)] wr [.own x 27 2 N (pus (writesL (q.take k)))] [rowD 4 A n c (rqs q)]) (fun ix _ _ => n - (intOf ix).toNat)
  case atStart => exact ⟨0, 0, by omega, by omega, rfl, hF⟩
  case round =>
    obtain ⟨k, N, hk, hN, rfl, hF⟩ := hrel
    by_cases hkn : k < n
    · obtain ⟨r, hu⟩ : ∃ r, q[k]? = some r := ⟨_, List.getElem?_eq_getElem (by omega)⟩
      by_cases h4 : r.kind = 4
      · have hst := Lib.hid (writesL_yes hu h4)
        obtain ⟨rk, rl, rt, rd⟩ := r
        dsimp only at h4
        subst h4
        have happ : Hid (pus (writesL (q.take k)) ++ [.int .u32 (rl : Int), .string rd] = pus (writesL (q.take (k + 1)))) := Lib.hid (by rw [hst.out, pus_append]; rfl)
        clear hst
        go_wp2_with (first | (refine w_lde (us := [.int .i64 4, .int .u32 (rl : Int), .int .i64 rt, .string rd]) (hu := Rows.sub (f := rqs) hu) rfl hF rfl ?_) | ((first | (refine w_box rfl hF rfl ?_; clear hF; intro gN wN hF) | (refine w_alloc rfl hF ?_; clear hF; intro gN wN hF) | (refine w_ld1 rfl hF rfl ?_) | (refine w_ld rfl hF rfl ?_) | (refine w_st1 rfl hF rfl rfl ?_; clear hF; intro wN hF; (try simp only [List.set_cons_zero, List.set_cons_succ, List.eraseIdx_cons_zero, List.eraseIdx_cons_succ] at hF)) | (refine w_st rfl hF rfl rfl ?_; clear hF; intro wN hF; (try simp only [List.set_cons_zero, List.set_cons_succ, List.eraseIdx_cons_zero, List.eraseIdx_cons_succ] at hF)) | (refine w_fldB rfl rfl ?_) | (refine w_fld rfl hF rfl ?_) | (refine w_ix rfl hF rfl rfl ?_) | (refine w_lde1 rfl hF rfl ?_) | (refine w_lde rfl hF rfl ?_) | (refine w_bs1 rfl hF rfl ?_; clear hF; intro gN wN hF) | (refine w_bs0 rfl hF ?_; clear hF; intro gN wN hF) | (refine w_app rfl hF rfl rfl ?_; clear hF; intro vN wN hF; (try simp only [List.set_cons_zero, List.set_cons_succ, List.eraseIdx_cons_zero, List.eraseIdx_cons_succ] at hF)) | (refine w_appD rfl hF rfl rfl ?_; clear hF; intro vN wN hF; (try simp only [List.set_cons_zero, List.set_cons_succ, List.eraseIdx_cons_zero, List.eraseIdx_cons_succ] at hF)) | (refine w_ld1o rfl hF rfl ?_) | (refine w_st1o rfl hF rfl rfl ?_; clear hF; intro wN hF; (try simp only [List.set_cons_zero, List.set_cons_succ, List.eraseIdx_cons_zero, List.eraseIdx_cons_succ] at hF)) | (refine w_make0 rfl hF rfl rfl ?_; clear hF; intro gN wN hF) | (refine w_to rfl hF rfl rfl ?_; clear hF; intro hF) | (refine w_from rfl hF rfl rfl ?_; clear hF; intro hF)); (try simp only [Act.put, List.setIfInBounds_toArray, List.set_cons_zero, List.set_cons_succ, Nat.zero_add, Nat.zero_mul, Nat.reduceAdd])))
        go_roundw
        case rel => exact ⟨k + 1, N + 1, by omega, by omega, by go_num, by rw [← happ.out]; exact hF.drop 0⟩
        case measure => first | (simp [intOf]; done) | (simp [intOf]; omega)
      · have hst := Lib.hid (writesL_no hu h4)
        obtain ⟨rk, rl, rt, rd⟩ := r
        dsimp only at h4
        go_wp2_with (first | (refine w_lde (us := [.int .i64 rk, .int .u32 (rl : Int), .int .i64 rt, .string rd]) (hu := Rows.sub (f := rqs) hu) rfl hF rfl ?_) | (refine w_eqF rfl rfl rfl ?_) | ((first | (refine w_box rfl hF rfl ?_; clear hF; intro gN wN hF) | (refine w_alloc rfl hF ?_; clear hF; intro gN wN hF) | (refine w_ld1 rfl hF rfl ?_) | (refine w_ld rfl hF rfl ?_) | (refine w_st1 rfl hF rfl rfl ?_; clear hF; intro wN hF; (try simp only [List.set_cons_zero, List.set_cons_succ, List.eraseIdx_cons_zero, List.eraseIdx_cons_succ] at hF)) | (refine w_st rfl hF rfl rfl ?_; clear hF; intro wN hF; (try simp only [List.set_cons_zero, List.set_cons_succ, List.eraseIdx_cons_zero, List.eraseIdx_cons_succ] at hF)) | (refine w_fldB rfl rfl ?_) | (refine w_fld rfl hF rfl ?_) | (refine w_ix rfl hF rfl rfl ?_) | (refine w_lde1 rfl hF rfl ?_) | (refine w_lde rfl hF rfl ?_) | (refine w_bs1 rfl hF rfl ?_; clear hF; intro gN wN hF) | (refine w_bs0 rfl hF ?_; clear hF; intro gN wN hF) | (refine w_app rfl hF rfl rfl ?_; clear hF; intro vN wN hF; (try simp only [List.set_cons_zero, List.set_cons_succ, List.eraseIdx_cons_zero, List.eraseIdx_cons_succ] at hF)) | (refine w_appD rfl hF rfl rfl ?_; clear hF; intro vN wN hF; (try simp only [List.set_cons_zero, List.set_cons_succ, List.eraseIdx_cons_zero, List.eraseIdx_cons_succ] at hF)) | (refine w_ld1o rfl hF rfl ?_) | (refine w_st1o rfl hF rfl rfl ?_; clear hF; intro wN hF; (try simp only [List.set_cons_zero, List.set_cons_succ, List.eraseIdx_cons_zero, List.eraseIdx_cons_succ] at hF)) | (refine w_make0 rfl hF rfl rfl ?_; clear hF; intro gN wN hF) | (refine w_to rfl hF rfl rfl ?_; clear hF; intro hF) | (refine w_from rfl hF rfl rfl ?_; clear hF; intro hF)); (try simp only [Act.put, List.setIfInBounds_toArray, List.set_cons_zero, List.set_cons_succ, Nat.zero_add, Nat.zero_mul, Nat.reduceAdd])))
        go_roundw
        case rel => exact ⟨k + 1, N, by omega, by omega, by go_num, by rw [hst.out]; exact hF.drop 0⟩
        case measure => first | (simp [intOf]; done) | (simp [intOf]; omega)
    · obtain rfl : k = n := by omega
      rw [List.take_of_length_le (by omega)] at hF
      obtain ⟨A2, c2, rfl, hF⟩ := hF.freeze 0 at0
      (try simp only [List.set_cons_zero, List.set_cons_succ, List.eraseIdx_cons_zero, List.eraseIdx_cons_succ] at hF)
      go_wp2_with (first | (go_at_call 73; refine (vOver_any _ _ _ _ _ _ hF.rdA hm (writes_ok hq)).mono ?_; rintro e wN ⟨rfl, hb⟩; replace hF := hF.grow hb; clear hb) | ((first | (refine w_box rfl hF rfl ?_; clear hF; intro gN wN hF) | (refine w_alloc rfl hF ?_; clear hF; intro gN wN hF) | (refine w_ld1 rfl hF rfl ?_) | (refine w_ld rfl hF rfl ?_) | (refine w_st1 rfl hF rfl rfl ?_; clear hF; intro wN hF; (try simp only [List.set_cons_zero, List.set_cons_succ, List.eraseIdx_cons_zero, List.eraseIdx_cons_succ] at hF)) | (refine w_st rfl hF rfl rfl ?_; clear hF; intro wN hF; (try simp only [List.set_cons_zero, List.set_cons_succ, List.eraseIdx_cons_zero, List.eraseIdx_cons_succ] at hF)) | (refine w_fldB rfl rfl ?_) | (refine w_fld rfl hF rfl ?_) | (refine w_ix rfl hF rfl rfl ?_) | (refine w_lde1 rfl hF rfl ?_) | (refine w_lde rfl hF rfl ?_) | (refine w_bs1 rfl hF rfl ?_; clear hF; intro gN wN hF) | (refine w_bs0 rfl hF ?_; clear hF; intro gN wN hF) | (refine w_app rfl hF rfl rfl ?_; clear hF; intro vN wN hF; (try simp only [List.set_cons_zero, List.set_cons_succ, List.eraseIdx_cons_zero, List.eraseIdx_cons_succ] at hF)) | (refine w_appD rfl hF rfl rfl ?_; clear hF; intro vN wN hF; (try simp only [List.set_cons_zero, List.set_cons_succ, List.eraseIdx_cons_zero, List.eraseIdx_cons_succ] at hF)) | (refine w_ld1o rfl hF rfl ?_) | (refine w_st1o rfl hF rfl rfl ?_; clear hF; intro wN hF; (try simp only [List.set_cons_zero, List.set_cons_succ, List.eraseIdx_cons_zero, List.eraseIdx_cons_succ] at hF)) | (refine w_make0 rfl hF rfl rfl ?_; clear hF; intro gN wN hF) | (refine w_to rfl hF rfl rfl ?_; clear hF; intro hF) | (refine w_from rfl hF rfl rfl ?_; clear hF; intro hF)); (try simp only [Act.put, List.setIfInBounds_toArray, List.set_cons_zero, List.set_cons_succ, Nat.zero_add, Nat.zero_mul, Nat.reduceAdd])))
      go_ret
      exact ⟨rfl, hF.bel⟩
set_option maxHeartbeats 8000000 in
theorem vUnder_any (m : ByteArray) (ways : Int) (A : Option Addr) (n c : Nat) (S : List Cs) (Aq : Option Addr) (nq cq : Nat) (q : List Rq) (w : World) (hr : RdS w w.heap.size A n c S) (hrq : Rd w w.heap.size 4 Aq nq cq (rqs q)) (hm : m.size ≤ maxLen) (ho : SOk S) (hn : n ≤ 1000) (hws : ∀ ws ∈ cont S, ws.length ≤ 1000) (hqn : nq ≤ 1000000) (hq : ∀ r ∈ q, r.line < 4294967296) :
    Calls Try.prog 74 #[.agg #[.int .i64 ways, .slice A n c], .slice Aq nq cq, .string m] w fun e w' => e = .returned (.string (ovS m (writesL q ++ linesL (cont S)))) ∧ Bel w w' := by
  have hF := St.start w [rowD 1 A n c (csv S), elemsD S, rowD 4 Aq nq cq (rqs q)] (fun d hd => by
    rcases List.mem_cons.1 hd with rfl | hd
    · exact hr.rd
    · rcases List.mem_cons.1 hd with rfl | hd
      · exact hr.sets
      · obtain rfl := List.mem_singleton.1 hd; exact hrq)
  have hsl := hr.slen
  have hc1 := hr.rd.le
  have hc2 := hr.rd.mx
  unfold maxLen at hc2
  replace hws := Lib.hid hws
  go_enter Try.func74, Try.ntmps74
  go_wp2_with (first | ((first | (refine w_box rfl hF rfl ?_; clear hF; intro gN wN hF) | (refine w_alloc rfl hF ?_; clear hF; intro gN wN hF) | (refine w_ld1 rfl hF rfl ?_) | (refine w_ld rfl hF rfl ?_) | (refine w_st1 rfl hF rfl rfl ?_; clear hF; intro wN hF; (try simp only [List.set_cons_zero, List.set_cons_succ, List.eraseIdx_cons_zero, List.eraseIdx_cons_succ] at hF)) | (refine w_st rfl hF rfl rfl ?_; clear hF; intro wN hF; (try simp only [List.set_cons_zero, List.set_cons_succ, List.eraseIdx_cons_zero, List.eraseIdx_cons_succ] at hF)) | (refine w_fldB rfl rfl ?_) | (refine w_fld rfl hF rfl ?_) | (refine w_ix rfl hF rfl rfl ?_) | (refine w_lde1 rfl hF rfl ?_) | (refine w_lde rfl hF rfl ?_) | (refine w_bs1 rfl hF rfl ?_; clear hF; intro gN wN hF) | (refine w_bs0 rfl hF ?_; clear hF; intro gN wN hF) | (refine w_app rfl hF rfl rfl ?_; clear hF; intro vN wN hF; (try simp only [List.set_cons_zero, List.set_cons_succ, List.eraseIdx_cons_zero, List.eraseIdx_cons_succ] at hF)) | (refine w_appD rfl hF rfl rfl ?_; clear hF; intro vN wN hF; (try simp only [List.set_cons_zero, List.set_cons_succ, List.eraseIdx_cons_zero, List.eraseIdx_cons_succ] at hF)) | (refine w_ld1o rfl hF rfl ?_) | (refine w_st1o rfl hF rfl rfl ?_; clear hF; intro wN hF; (try simp only [List.set_cons_zero, List.set_cons_succ, List.eraseIdx_cons_zero, List.eraseIdx_cons_succ] at hF)) | (refine w_make0 rfl hF rfl rfl ?_; clear hF; intro gN wN hF) | (refine w_to rfl hF rfl rfl ?_; clear hF; intro hF) | (refine w_from rfl hF rfl rfl ?_; clear hF; intro hF)); (try simp only [Act.put, List.setIfInBounds_toArray, List.set_cons_zero, List.set_cons_succ, Nat.zero_add, Nat.zero_mul, Nat.reduceAdd])))
  obtain ⟨gC, rfl⟩ := hF.names1
  have hF := hF.nil 27 2
  go_loopw [15, 7] (fun ix x wr => ∃ k N : Nat, k ≤ n ∧ N ≤ k * 1000 ∧ ix = .int .i64 (k : Int) ∧ St w [rowD 1 A n c (csv S), elemsD S, rowD 4 Aq nq cq (rqs q)] wr [.own x 27 2 N (pus (linesL ((cont S).take k))), .blk gC 36 [.int .i64 ways, .slice A n c]] [rowD 1 A n c (csv S), elemsD S, rowD 4 Aq nq cq (rqs q)]) (fun ix _ _ => n - (intOf ix).toNat)
  case atStart => exact ⟨0, 0, by omega, by omega, rfl, hF⟩
  case round =>
    obtain ⟨k, N, hk, hN, rfl, hF⟩ := hrel
    by_cases hkn : k < n
    · obtain ⟨s, hs⟩ : ∃ s, S[k]? = some s := ⟨_, List.getElem?_eq_getElem (by omega)⟩
      obtain ⟨sA, m', sc, ws⟩ := s
      have hF := hF.elemA hs
      simp only at hF
      have hse := hF.rdA (sz := 3) (A := sA) (n := m') (c := sc) (xs := wys ws)
      have hm1 := hse.le
      have hm2 := hse.mx
      have hwl := Lib.hid hse.wyslen
      have hset := Lib.hid (vcont_el hs)
      have hm3 : m' ≤ 1000 := by rw [← hwl.out]; exact hws.out ws (List.mem_of_getElem? hset.out)
      unfold maxLen at hm2
      clear hse
      go_wp2_with (first | ((first | (refine w_box rfl hF rfl ?_; clear hF; intro gN wN hF) | (refine w_alloc rfl hF ?_; clear hF; intro gN wN hF) | (refine w_ld1 rfl hF rfl ?_) | (refine w_ld rfl hF rfl ?_) | (refine w_st1 rfl hF rfl rfl ?_; clear hF; intro wN hF; (try simp only [List.set_cons_zero, List.set_cons_succ, List.eraseIdx_cons_zero, List.eraseIdx_cons_succ] at hF)) | (refine w_st rfl hF rfl rfl ?_; clear hF; intro wN hF; (try simp only [List.set_cons_zero, List.set_cons_succ, List.eraseIdx_cons_zero, List.eraseIdx_cons_succ] at hF)) | (refine w_fldB rfl rfl ?_) | (refine w_fld rfl hF rfl ?_) | (refine w_ix rfl hF rfl rfl ?_) | (refine w_lde1 rfl hF rfl ?_) | (refine w_lde rfl hF rfl ?_) | (refine w_bs1 rfl hF rfl ?_; clear hF; intro gN wN hF) | (refine w_bs0 rfl hF ?_; clear hF; intro gN wN hF) | (refine w_app rfl hF rfl rfl ?_; clear hF; intro vN wN hF; (try simp only [List.set_cons_zero, List.set_cons_succ, List.eraseIdx_cons_zero, List.eraseIdx_cons_succ] at hF)) | (refine w_appD rfl hF rfl rfl ?_; clear hF; intro vN wN hF; (try simp only [List.set_cons_zero, List.set_cons_succ, List.eraseIdx_cons_zero, List.eraseIdx_cons_succ] at hF)) | (refine w_ld1o rfl hF rfl ?_) | (refine w_st1o rfl hF rfl rfl ?_; clear hF; intro wN hF; (try simp only [List.set_cons_zero, List.set_cons_succ, List.eraseIdx_cons_zero, List.eraseIdx_cons_succ] at hF)) | (refine w_make0 rfl hF rfl rfl ?_; clear hF; intro gN wN hF) | (refine w_to rfl hF rfl rfl ?_; clear hF; intro hF) | (refine w_from rfl hF rfl rfl ?_; clear hF; intro hF)); (try simp only [Act.put, List.setIfInBounds_toArray, List.set_cons_zero, List.set_cons_succ, Nat.zero_add, Nat.zero_mul, Nat.reduceAdd])))
      try simp only [Nat.mul_one]
      go_loopw [21, 7] (fun ix x wr => ∃ j N' : Nat, j ≤ m' ∧ N' ≤ k * 1000 + j ∧ ix = .int .i64 (j : Int) ∧ St w [rowD 1 A n c (csv S), elemsD S, rowD 4 Aq nq cq (rqs q)] wr [.own x 27 2 N' (pus (linesL ((cont S).take k) ++ waysL (ws.take j))), .blk gC 36 [.int .i64 ways, .slice A n c]] [rowD 3 sA m' sc (wys ws), rowD 1 A n c (csv S), elemsD S, rowD 4 Aq nq cq (rqs q)]) (fun ix _ _ => m' - (intOf ix).toNat)
      case atStart => exact ⟨0, N, by omega, by omega, rfl, by simp only [waysL, List.take_zero, List.map_nil, List.append_nil]; exact hF⟩
      case round =>
        obtain ⟨j, N', hj, hN', rfl, hF⟩ := hrel
        by_cases hjm : j < m'
        · obtain ⟨⟨ul, ud, ub⟩, hu⟩ : ∃ u, ws[j]? = some u := ⟨_, List.getElem?_eq_getElem (by have := hwl.out; omega)⟩
          have happ : Hid (pus (linesL ((cont S).take k) ++ waysL (ws.take j)) ++ [.int .u32 (ul : Int), .string ub] = pus (linesL ((cont S).take k) ++ waysL (ws.take (j + 1)))) := Lib.hid (by rw [waysL_succ hu, ← List.append_assoc, pus_append _ [_]]; rfl)
          go_wp2_with (first | (refine w_lde (us := [.int .u32 (ul : Int), .bool ud, .string ub]) (hu := Rows.sub (f := wys) hu) rfl hF rfl ?_) | ((first | (refine w_box rfl hF rfl ?_; clear hF; intro gN wN hF) | (refine w_alloc rfl hF ?_; clear hF; intro gN wN hF) | (refine w_ld1 rfl hF rfl ?_) | (refine w_ld rfl hF rfl ?_) | (refine w_st1 rfl hF rfl rfl ?_; clear hF; intro wN hF; (try simp only [List.set_cons_zero, List.set_cons_succ, List.eraseIdx_cons_zero, List.eraseIdx_cons_succ] at hF)) | (refine w_st rfl hF rfl rfl ?_; clear hF; intro wN hF; (try simp only [List.set_cons_zero, List.set_cons_succ, List.eraseIdx_cons_zero, List.eraseIdx_cons_succ] at hF)) | (refine w_fldB rfl rfl ?_) | (refine w_fld rfl hF rfl ?_) | (refine w_ix rfl hF rfl rfl ?_) | (refine w_lde1 rfl hF rfl ?_) | (refine w_lde rfl hF rfl ?_) | (refine w_bs1 rfl hF rfl ?_; clear hF; intro gN wN hF) | (refine w_bs0 rfl hF ?_; clear hF; intro gN wN hF) | (refine w_app rfl hF rfl rfl ?_; clear hF; intro vN wN hF; (try simp only [List.set_cons_zero, List.set_cons_succ, List.eraseIdx_cons_zero, List.eraseIdx_cons_succ] at hF)) | (refine w_appD rfl hF rfl rfl ?_; clear hF; intro vN wN hF; (try simp only [List.set_cons_zero, List.set_cons_succ, List.eraseIdx_cons_zero, List.eraseIdx_cons_succ] at hF)) | (refine w_ld1o rfl hF rfl ?_) | (refine w_st1o rfl hF rfl rfl ?_; clear hF; intro wN hF; (try simp only [List.set_cons_zero, List.set_cons_succ, List.eraseIdx_cons_zero, List.eraseIdx_cons_succ] at hF)) | (refine w_make0 rfl hF rfl rfl ?_; clear hF; intro gN wN hF) | (refine w_to rfl hF rfl rfl ?_; clear hF; intro hF) | (refine w_from rfl hF rfl rfl ?_; clear hF; intro hF)); (try simp only [Act.put, List.setIfInBounds_toArray, List.set_cons_zero, List.set_cons_succ, Nat.zero_add, Nat.zero_mul, Nat.reduceAdd])))
          go_roundw
          case rel => exact ⟨j + 1, N' + 1, by omega, by omega, by go_num, by rw [← happ.out]; exact hF.drop 0⟩
          case measure => first | (simp [intOf]; done) | (simp [intOf]; omega)
        · obtain rfl : j = m' := by omega
          rw [List.take_of_length_le (l := ws) (by have := hwl.out; omega), ← linesL_succ hset.out] at hF
          go_wp2_with (first | ((first | (refine w_box rfl hF rfl ?_; clear hF; intro gN wN hF) | (refine w_alloc rfl hF ?_; clear hF; intro gN wN hF) | (refine w_ld1 rfl hF rfl ?_) | (refine w_ld rfl hF rfl ?_) | (refine w_st1 rfl hF rfl rfl ?_; clear hF; intro wN hF; (try simp only [List.set_cons_zero, List.set_cons_succ, List.eraseIdx_cons_zero, List.eraseIdx_cons_succ] at hF)) | (refine w_st rfl hF rfl rfl ?_; clear hF; intro wN hF; (try simp only [List.set_cons_zero, List.set_cons_succ, List.eraseIdx_cons_zero, List.eraseIdx_cons_succ] at hF)) | (refine w_fldB rfl rfl ?_) | (refine w_fld rfl hF rfl ?_) | (refine w_ix rfl hF rfl rfl ?_) | (refine w_lde1 rfl hF rfl ?_) | (refine w_lde rfl hF rfl ?_) | (refine w_bs1 rfl hF rfl ?_; clear hF; intro gN wN hF) | (refine w_bs0 rfl hF ?_; clear hF; intro gN wN hF) | (refine w_app rfl hF rfl rfl ?_; clear hF; intro vN wN hF; (try simp only [List.set_cons_zero, List.set_cons_succ, List.eraseIdx_cons_zero, List.eraseIdx_cons_succ] at hF)) | (refine w_appD rfl hF rfl rfl ?_; clear hF; intro vN wN hF; (try simp only [List.set_cons_zero, List.set_cons_succ, List.eraseIdx_cons_zero, List.eraseIdx_cons_succ] at hF)) | (refine w_ld1o rfl hF rfl ?_) | (refine w_st1o rfl hF rfl rfl ?_; clear hF; intro wN hF; (try simp only [List.set_cons_zero, List.set_cons_succ, List.eraseIdx_cons_zero, List.eraseIdx_cons_succ] at hF)) | (refine w_make0 rfl hF rfl rfl ?_; clear hF; intro gN wN hF) | (refine w_to rfl hF rfl rfl ?_; clear hF; intro hF) | (refine w_from rfl hF rfl rfl ?_; clear hF; intro hF)); (try simp only [Act.put, List.setIfInBounds_toArray, List.set_cons_zero, List.set_cons_succ, Nat.zero_add, Nat.zero_mul, Nat.reduceAdd])))
          go_roundw
          case rel => exact ⟨k + 1, N', by omega, by omega, by go_num, hF.lessA _⟩
          case measure => first | (simp [intOf]; done) | (simp [intOf]; omega)
    · obtain rfl : k = n := by omega
      rw [List.take_of_length_le (by rw [cont_len]; omega)] at hF
      obtain ⟨A2, c2, rfl, hF⟩ := hF.freeze 0 at0
      (try simp only [List.set_cons_zero, List.set_cons_succ, List.eraseIdx_cons_zero, List.eraseIdx_cons_succ] at hF)
      go_wp2_with (first | (go_at_call 76; refine (vBelow_any _ _ _ _ _ _ hF.rdA hm hqn hq).mono ?_; rintro e wN ⟨rfl, hb⟩; replace hF := hF.grow hb; clear hb) | (go_at_call 73; refine (vOver_any _ _ _ _ _ _ hF.rdA (by rw [ovS_size]; exact hm) (lines_ok ho)).mono ?_; rintro e wN ⟨rfl, hb⟩; replace hF := hF.grow hb; clear hb) | ((first | (refine w_box rfl hF rfl ?_; clear hF; intro gN wN hF) | (refine w_alloc rfl hF ?_; clear hF; intro gN wN hF) | (refine w_ld1 rfl hF rfl ?_) | (refine w_ld rfl hF rfl ?_) | (refine w_st1 rfl hF rfl rfl ?_; clear hF; intro wN hF; (try simp only [List.set_cons_zero, List.set_cons_succ, List.eraseIdx_cons_zero, List.eraseIdx_cons_succ] at hF)) | (refine w_st rfl hF rfl rfl ?_; clear hF; intro wN hF; (try simp only [List.set_cons_zero, List.set_cons_succ, List.eraseIdx_cons_zero, List.eraseIdx_cons_succ] at hF)) | (refine w_fldB rfl rfl ?_) | (refine w_fld rfl hF rfl ?_) | (refine w_ix rfl hF rfl rfl ?_) | (refine w_lde1 rfl hF rfl ?_) | (refine w_lde rfl hF rfl ?_) | (refine w_bs1 rfl hF rfl ?_; clear hF; intro gN wN hF) | (refine w_bs0 rfl hF ?_; clear hF; intro gN wN hF) | (refine w_app rfl hF rfl rfl ?_; clear hF; intro vN wN hF; (try simp only [List.set_cons_zero, List.set_cons_succ, List.eraseIdx_cons_zero, List.eraseIdx_cons_succ] at hF)) | (refine w_appD rfl hF rfl rfl ?_; clear hF; intro vN wN hF; (try simp only [List.set_cons_zero, List.set_cons_succ, List.eraseIdx_cons_zero, List.eraseIdx_cons_succ] at hF)) | (refine w_ld1o rfl hF rfl ?_) | (refine w_st1o rfl hF rfl rfl ?_; clear hF; intro wN hF; (try simp only [List.set_cons_zero, List.set_cons_succ, List.eraseIdx_cons_zero, List.eraseIdx_cons_succ] at hF)) | (refine w_make0 rfl hF rfl rfl ?_; clear hF; intro gN wN hF) | (refine w_to rfl hF rfl rfl ?_; clear hF; intro hF) | (refine w_from rfl hF rfl rfl ?_; clear hF; intro hF)); (try simp only [Act.put, List.setIfInBounds_toArray, List.set_cons_zero, List.set_cons_succ, Nat.zero_add, Nat.zero_mul, Nat.reduceAdd])))
      go_ret
      exact ⟨by rw [ovS_ovS]; rfl, hF.bel⟩
set_option maxHeartbeats 8000000 in
theorem vAll_any (m : ByteArray) (ways : Int) (A : Option Addr) (n c : Nat) (S : List Cs) (Aq : Option Addr) (nq cq : Nat) (q : List Rq) (As : Option Addr) (ns cs : Nat) (ss : List Pu) (w : World) (hr : RdS w w.heap.size A n c S) (hrq : Rd w w.heap.size 4 Aq nq cq (rqs q)) (hrs : Rd w w.heap.size 2 As ns cs (pus ss))
    (hm : m.size ≤ maxLen) (ho : SOk S) (hn : n ≤ 1000) (hws : ∀ ws ∈ cont S, ws.length ≤ 1000) (hqn : nq ≤ 1000000) (hq : ∀ r ∈ q, r.line < 4294967296) (hss : ∀ p ∈ ss, p.addr < 4294967296) :
    Calls Try.prog 42 #[.slice As ns cs, .agg #[.int .i64 ways, .slice A n c], .slice Aq nq cq, .string m] w fun e w' => e = .returned (.string (ovS m (writesL q ++ linesL (cont S) ++ ss))) ∧ Bel w w' := by
  have hF := St.start w [rowD 1 A n c (csv S), elemsD S, rowD 4 Aq nq cq (rqs q), rowD 2 As ns cs (pus ss)] (fun d hd => by
    rcases List.mem_cons.1 hd with rfl | hd
    · exact hr.rd
    · rcases List.mem_cons.1 hd with rfl | hd
      · exact hr.sets
      · rcases List.mem_cons.1 hd with rfl | hd
        · exact hrq
        · obtain rfl := List.mem_singleton.1 hd; exact hrs)
  go_enter Try.func42, Try.ntmps42
  go_wp2_with (first | (go_at_call 74; refine (vUnder_any _ _ _ _ _ _ _ _ _ _ _ hF.rds hF.rdA hm ho hn hws hqn hq).mono ?_; rintro e wN ⟨rfl, hb⟩; replace hF := hF.grow hb; clear hb) | (go_at_call 73; refine (vOver_any _ _ _ _ _ _ hF.rdA (by rw [ovS_size]; exact hm) hss).mono ?_; rintro e wN ⟨rfl, hb⟩; replace hF := hF.grow hb; clear hb) | ((first | (refine w_box rfl hF rfl ?_; clear hF; intro gN wN hF) | (refine w_alloc rfl hF ?_; clear hF; intro gN wN hF) | (refine w_ld1 rfl hF rfl ?_) | (refine w_ld rfl hF rfl ?_) | (refine w_st1 rfl hF rfl rfl ?_; clear hF; intro wN hF; (try simp only [List.set_cons_zero, List.set_cons_succ, List.eraseIdx_cons_zero, List.eraseIdx_cons_succ] at hF)) | (refine w_st rfl hF rfl rfl ?_; clear hF; intro wN hF; (try simp only [List.set_cons_zero, List.set_cons_succ, List.eraseIdx_cons_zero, List.eraseIdx_cons_succ] at hF)) | (refine w_fldB rfl rfl ?_) | (refine w_fld rfl hF rfl ?_) | (refine w_ix rfl hF rfl rfl ?_) | (refine w_lde1 rfl hF rfl ?_) | (refine w_lde rfl hF rfl ?_) | (refine w_bs1 rfl hF rfl ?_; clear hF; intro gN wN hF) | (refine w_bs0 rfl hF ?_; clear hF; intro gN wN hF) | (refine w_app rfl hF rfl rfl ?_; clear hF; intro vN wN hF; (try simp only [List.set_cons_zero, List.set_cons_succ, List.eraseIdx_cons_zero, List.eraseIdx_cons_succ] at hF)) | (refine w_appD rfl hF rfl rfl ?_; clear hF; intro vN wN hF; (try simp only [List.set_cons_zero, List.set_cons_succ, List.eraseIdx_cons_zero, List.eraseIdx_cons_succ] at hF)) | (refine w_ld1o rfl hF rfl ?_) | (refine w_st1o rfl hF rfl rfl ?_; clear hF; intro wN hF; (try simp only [List.set_cons_zero, List.set_cons_succ, List.eraseIdx_cons_zero, List.eraseIdx_cons_succ] at hF)) | (refine w_make0 rfl hF rfl rfl ?_; clear hF; intro gN wN hF) | (refine w_to rfl hF rfl rfl ?_; clear hF; intro hF) | (refine w_from rfl hF rfl rfl ?_; clear hF; intro hF)); (try simp only [Act.put, List.setIfInBounds_toArray, List.set_cons_zero, List.set_cons_succ, Nat.zero_add, Nat.zero_mul, Nat.reduceAdd])))
  go_ret
  exact ⟨by rw [ovS_ovS]; rfl, hF.bel⟩
set_option maxHeartbeats 8000000 in
theorem vCut_any (m : ByteArray) (x : Nat) (w : World) (hm : m.size ≤ maxLen) (hx : x < 4294967296) :
    Calls Try.prog 75 #[.string m, .int .u32 (x : Int)] w fun e w' => e = .returned (.string (cutS m x)) ∧ Bel w w' := by
  have hF := St.start w [] (fun d hd => by cases hd)
  unfold maxLen at hm
  have HL := Lib.hid (fun W => LineOf_any x W hx)
  have hout := cutS_out (m := m) (x := x)
  have hin := fun n => cutS_in (m := m) (x := x) (n := n)
  obtain ⟨lo, hlo⟩ : ∃ lo, x - x % 16 = lo := ⟨_, rfl⟩
  rw [hlo] at HL hout hin
  have hlo2 : lo < 4294967296 := by omega
  clear hlo
  go_enter Try.func75, Try.ntmps75
  by_cases hlt : lo < m.size
  · obtain ⟨N, hN⟩ : ∃ N, N = min (m.size - lo) 16 := ⟨_, rfl⟩
    replace hin := Lib.hid (hin N hlt hN)
    clear hout
    have hes : (m.extract lo m.size).size = m.size - lo := by rw [cut_size]; omega
    have hle : lo ≤ m.size := by omega
    have hN2 : N ≤ (m.extract lo m.size).size := by omega
    go_wp2_with (first | (go_at_call 67; refine (HL.out _).mono ?_; rintro e wN ⟨rfl, d, rfl⟩; replace hF := hF.grow (Bel.drewN _ d)) | (refine w_strfrom rfl rfl rfl ?_) | (refine w_strto rfl rfl rfl ?_) | (refine w_min (N : Int) rfl rfl rfl ?_) | ((first | (refine w_box rfl hF rfl ?_; clear hF; intro gN wN hF) | (refine w_alloc rfl hF ?_; clear hF; intro gN wN hF) | (refine w_ld1 rfl hF rfl ?_) | (refine w_ld rfl hF rfl ?_) | (refine w_st1 rfl hF rfl rfl ?_; clear hF; intro wN hF; (try simp only [List.set_cons_zero, List.set_cons_succ, List.eraseIdx_cons_zero, List.eraseIdx_cons_succ] at hF)) | (refine w_st rfl hF rfl rfl ?_; clear hF; intro wN hF; (try simp only [List.set_cons_zero, List.set_cons_succ, List.eraseIdx_cons_zero, List.eraseIdx_cons_succ] at hF)) | (refine w_fldB rfl rfl ?_) | (refine w_fld rfl hF rfl ?_) | (refine w_ix rfl hF rfl rfl ?_) | (refine w_lde1 rfl hF rfl ?_) | (refine w_lde rfl hF rfl ?_) | (refine w_bs1 rfl hF rfl ?_; clear hF; intro gN wN hF) | (refine w_bs0 rfl hF ?_; clear hF; intro gN wN hF) | (refine w_app rfl hF rfl rfl ?_; clear hF; intro vN wN hF; (try simp only [List.set_cons_zero, List.set_cons_succ, List.eraseIdx_cons_zero, List.eraseIdx_cons_succ] at hF)) | (refine w_appD rfl hF rfl rfl ?_; clear hF; intro vN wN hF; (try simp only [List.set_cons_zero, List.set_cons_succ, List.eraseIdx_cons_zero, List.eraseIdx_cons_succ] at hF)) | (refine w_ld1o rfl hF rfl ?_) | (refine w_st1o rfl hF rfl rfl ?_; clear hF; intro wN hF; (try simp only [List.set_cons_zero, List.set_cons_succ, List.eraseIdx_cons_zero, List.eraseIdx_cons_succ] at hF)) | (refine w_make0 rfl hF rfl rfl ?_; clear hF; intro gN wN hF) | (refine w_to rfl hF rfl rfl ?_; clear hF; intro hF) | (refine w_from rfl hF rfl rfl ?_; clear hF; intro hF)); (try simp only [Act.put, List.setIfInBounds_toArray, List.set_cons_zero, List.set_cons_succ, Nat.zero_add, Nat.zero_mul, Nat.reduceAdd])))
    go_ret
    exact ⟨by rw [← hin.out, hN]; rfl, hF.bel⟩
  · replace hout := Lib.hid (hout (by omega))
    clear hin
    go_wp2_with (first | (go_at_call 67; refine (HL.out _).mono ?_; rintro e wN ⟨rfl, d, rfl⟩; replace hF := hF.grow (Bel.drewN _ d)) | ((first | (refine w_box rfl hF rfl ?_; clear hF; intro gN wN hF) | (refine w_alloc rfl hF ?_; clear hF; intro gN wN hF) | (refine w_ld1 rfl hF rfl ?_) | (refine w_ld rfl hF rfl ?_) | (refine w_st1 rfl hF rfl rfl ?_; clear hF; intro wN hF; (try simp only [List.set_cons_zero, List.set_cons_succ, List.eraseIdx_cons_zero, List.eraseIdx_cons_succ] at hF)) | (refine w_st rfl hF rfl rfl ?_; clear hF; intro wN hF; (try simp only [List.set_cons_zero, List.set_cons_succ, List.eraseIdx_cons_zero, List.eraseIdx_cons_succ] at hF)) | (refine w_fldB rfl rfl ?_) | (refine w_fld rfl hF rfl ?_) | (refine w_ix rfl hF rfl rfl ?_) | (refine w_lde1 rfl hF rfl ?_) | (refine w_lde rfl hF rfl ?_) | (refine w_bs1 rfl hF rfl ?_; clear hF; intro gN wN hF) | (refine w_bs0 rfl hF ?_; clear hF; intro gN wN hF) | (refine w_app rfl hF rfl rfl ?_; clear hF; intro vN wN hF; (try simp only [List.set_cons_zero, List.set_cons_succ, List.eraseIdx_cons_zero, List.eraseIdx_cons_succ] at hF)) | (refine w_appD rfl hF rfl rfl ?_; clear hF; intro vN wN hF; (try simp only [List.set_cons_zero, List.set_cons_succ, List.eraseIdx_cons_zero, List.eraseIdx_cons_succ] at hF)) | (refine w_ld1o rfl hF rfl ?_) | (refine w_st1o rfl hF rfl rfl ?_; clear hF; intro wN hF; (try simp only [List.set_cons_zero, List.set_cons_succ, List.eraseIdx_cons_zero, List.eraseIdx_cons_succ] at hF)) | (refine w_make0 rfl hF rfl rfl ?_; clear hF; intro gN wN hF) | (refine w_to rfl hF rfl rfl ?_; clear hF; intro hF) | (refine w_from rfl hF rfl rfl ?_; clear hF; intro hF)); (try simp only [Act.put, List.setIfInBounds_toArray, List.set_cons_zero, List.set_cons_succ, Nat.zero_add, Nat.zero_mul, Nat.reduceAdd])))
    go_ret
    exact ⟨by rw [hout.out]; rfl, hF.bel⟩
end Go.Proofs.Ytcahadkkjfijfaa
