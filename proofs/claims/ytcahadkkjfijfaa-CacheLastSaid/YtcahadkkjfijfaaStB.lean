/- Bytes over St: '[]byte(s)', 's[i]', 'string(b)', 'copy(b[k:], s)'. -/
import Derived.Test.YtcahadkkjfijfaaStN
set_option linter.unusedVariables false
set_option linter.unusedSimpArgs false
namespace Go.Proofs.Ytcahadkkjfijfaa
open Go.RowKit

/-- a string's type; a byte slice's -/
inductive StrT (P : Program) (t : TypeId) : Prop
  | mk (hu : P.underlying t = some .string)
inductive BySlT (P : Program) (t e : TypeId) : Prop
  | mk (hu : P.underlying t = some (.slice e)) (he : P.underlying e = some (.int .u8)) (hi : (P.info? e).map (·.size) = some 1)

theorem bytes_set {l : List UInt8} {r : List Value} {k : Nat} {b : UInt8} (h : k < l.length) : (byteCells l ++ r).set (k * 1) (.int .u8 (b.toNat : Int)) = byteCells (l.set k b) ++ r := by
  rw [Nat.mul_one, List.set_append_left _ _ (by rw [byteCells_len]; exact h)]
  simp [byteCells, List.map_set]
section
variable {P : Program} {ops : Array Oper} {rest : List Oper} {o : Oper} {a : Act} {Q : Exit → Act → World → Prop} {w0 w : World} {D0 D : List Da} {M : List Mu}
theorem st_bytes {src dst e : TypeId} {x : Operand} (ho : o.op = .convert src dst x) (hgd : o.guard = none) (hF : St w0 D0 w M D) (hs : StrT P src) (hd : BySlT P dst e) {s : ByteArray} (hx : look a x = some (.string s)) (hsz : s.size ≤ maxLen)
    (h : ∀ g cap r w', St w0 D0 w' (.blk g e (byteCells s.data.toList ++ r) :: M) D → s.size + r.length = cap → cap ≤ maxLen → wpList P ops Q rest (a.put o.dst (.slice (some ⟨g, 0, none⟩) s.size cap)) w') : wpList P ops Q (o :: rest) a w := by
  obtain ⟨hs⟩ := hs
  obtain ⟨hu, he, _⟩ := hd
  refine wpList_tobytes hgd src dst e x ho hs hu he s (look_eval hx) hsz fun cap w' h1 h2 hk hb hl => h _ _ _ _ (hF.push _ (grown_of_bel hb none) ⟨hk, hF.bel.size⟩ fun g hg => ?_) (by simp; omega) h2
  simp only [Mu.bl, Option.some.injEq] at hg; omega
theorem st_string {src dst e : TypeId} {x : Operand} (ho : o.op = .convert src dst x) (hgd : o.guard = none) (hF : St w0 D0 w M D) (hs : BySlT P src e) (hd : StrT P dst) {g n c : Nat} (hx : look a x = some (.slice (some ⟨g, 0, none⟩) n c))
    {i : Nat} {t : TypeId} {l : List UInt8} {r : List Value} (hi : M[i]? = some (.blk g t (byteCells l ++ r))) (hn : l.length = n) (hc : n ≤ c) (hm : c ≤ maxLen)
    (h : wpList P ops Q rest (a.put o.dst (.string ⟨l.toArray⟩)) w) : wpList P ops Q (o :: rest) a w := by
  obtain ⟨hu, he, _⟩ := hs
  obtain ⟨hd⟩ := hd
  have hr := (hF.bkAt hi).rd (sz := 1) (n := n) (c := c) (o := 0) (by rw [List.length_append, byteCells_len]; omega) hc hm
  rw [List.drop_zero, Nat.mul_one, List.take_append_of_le_length (by rw [byteCells_len]; omega), List.take_of_length_le (by rw [byteCells_len]; omega)] at hr
  exact wpList_string hgd src dst e x ho hu he hd hr (look_eval hx) h
theorem st_idxs {t : TypeId} {x ix : Operand} (ho : o.op = .index t x ix) (ht : StrT P t) {s : ByteArray} (hx : look a x = some (.string s)) {k : Nat} {ki : IntKind} (hk : look a ix = some (.int ki (k : Int))) (hw : Region.wanted o (yielded ops a.tmps) = true)
    {b : UInt8} (hb : s.data.toList[k]? = some b) (h : wpList P ops Q rest (a.put o.dst (.int .u8 (b.toNat : Int))) w) : wpList P ops Q (o :: rest) a w := by
  replace hx := look_eval hx
  replace hk := look_eval hk
  obtain ⟨ht⟩ := ht
  obtain ⟨hl, e⟩ := List.getElem?_eq_some_iff.1 hb
  have hl' : k < s.size := by simpa using hl
  have hb' : s[k]'hl' = b := by
    have : (s[k]'hl') = s.data.toList[k] := by simp; rfl
    rw [this, e]
  have hrun : (Instr.index t (.string s) (.int ki (k : Int))).run P w = .ok (.int .u8 (b.toNat : Int)) w := by
    rw [run_index_string (P := P) w t s ki (k : Int) ht, dif_pos ⟨by omega, by omega⟩]
    simp only [Int.toNat_natCast, hb']
  refine wpList_wanted hw fun K hK => ?_
  unfold Oper.wp execOp
  simp only [ho, hx, hk, hrun, Sem.run_bind, Sem.run_pure, Result.andThen_ok]
  exact hK _ _ h
theorem run_strto {w : World} {t : TypeId} (ht : StrT P t) (s : ByteArray) (ki : IntKind) (k : Nat) (h : k ≤ s.size) : (Instr.sliceAt t (.string s) none (some (.int ki (k : Int))) none).run P w = .ok (.string (s.extract 0 k)) w := by
  obtain ⟨ht⟩ := ht
  rw [run_sliceAt_string (P := P) w t _ _ _ _ ht, run_slice_string_h (P := P) w t s ht ki (k : Int) (by omega) (by omega), Int.toNat_natCast]
theorem run_strfrom {w : World} {t : TypeId} (ht : StrT P t) (s : ByteArray) (ki : IntKind) (k : Nat) (h : k ≤ s.size) : (Instr.sliceAt t (.string s) (some (.int ki (k : Int))) none none).run P w = .ok (.string (s.extract k s.size)) w := by
  obtain ⟨ht⟩ := ht
  rw [run_sliceAt_string (P := P) w t _ _ _ _ ht, run_slice_string_l (P := P) w t s ht ki (k : Int) (by omega) (by omega), Int.toNat_natCast]
/-- 's[:k]', 's[k:]' of a string -/
theorem st_strto {t : TypeId} {x y : Operand} (ho : o.op = .slice t x none (some y) none) (ht : StrT P t) {s : ByteArray} (hx : look a x = some (.string s)) {k : Nat} {ki : IntKind} (hy : look a y = some (.int ki (k : Int))) (hw : Region.wanted o (yielded ops a.tmps) = true) (hk : k ≤ s.size)
    (h : wpList P ops Q rest (a.put o.dst (.string (s.extract 0 k))) w) : wpList P ops Q (o :: rest) a w := by
  replace hx := look_eval hx
  replace hy := look_eval hy
  refine wpList_wanted hw fun K hK => ?_
  unfold Oper.wp execOp
  simp only [ho, hx, hy, Option.map_some, Option.map_none, run_strto ht s ki k hk, Sem.run_bind, Sem.run_pure, Result.andThen_ok]
  exact hK _ _ h
theorem st_strfrom {t : TypeId} {x y : Operand} (ho : o.op = .slice t x (some y) none none) (ht : StrT P t) {s : ByteArray} (hx : look a x = some (.string s)) {k : Nat} {ki : IntKind} (hy : look a y = some (.int ki (k : Int))) (hw : Region.wanted o (yielded ops a.tmps) = true) (hk : k ≤ s.size)
    (h : wpList P ops Q rest (a.put o.dst (.string (s.extract k s.size))) w) : wpList P ops Q (o :: rest) a w := by
  replace hx := look_eval hx
  replace hy := look_eval hy
  refine wpList_wanted hw fun K hK => ?_
  unfold Oper.wp execOp
  simp only [ho, hx, hy, Option.map_some, Option.map_none, run_strfrom ht s ki k hk, Sem.run_bind, Sem.run_pure, Result.andThen_ok]
  exact hK _ _ h
theorem yi_strto {SS : World → Prop} {t : TypeId} {x y : Operand} (ho : o.op = .slice t x none (some y) none) (ht : StrT P t) {s : ByteArray} (hx : look a x = some (.string s)) {k : Nat} {ki : IntKind} (hy : look a y = some (.int ki (k : Int))) (hw : Region.wanted o (yielded ops a.tmps) = true) (hk : k ≤ s.size) : YieldsIf P ops SS o (.string (s.extract 0 k)) a := by
  replace hx := look_eval hx
  replace hy := look_eval hy
  exact yi_pure hw fun w => by
    unfold execOp
    simp only [ho, hx, hy, Option.map_some, Option.map_none, run_strto ht s ki k hk, Sem.run_bind, Sem.run_pure, Result.andThen_ok]
theorem yi_strfrom {SS : World → Prop} {t : TypeId} {x y : Operand} (ho : o.op = .slice t x (some y) none none) (ht : StrT P t) {s : ByteArray} (hx : look a x = some (.string s)) {k : Nat} {ki : IntKind} (hy : look a y = some (.int ki (k : Int))) (hw : Region.wanted o (yielded ops a.tmps) = true) (hk : k ≤ s.size) : YieldsIf P ops SS o (.string (s.extract k s.size)) a := by
  replace hx := look_eval hx
  replace hy := look_eval hy
  exact yi_pure hw fun w => by
    unfold execOp
    simp only [ho, hx, hy, Option.map_some, Option.map_none, run_strfrom ht s ki k hk, Sem.run_bind, Sem.run_pure, Result.andThen_ok]
/-- 'b[k:]' of a block of bytes -/
theorem st_fromB {t e : TypeId} {x y : Operand} (ho : o.op = .slice t x (some y) none none) {g n c k : Nat} (hx : look a x = some (.slice (some ⟨g, 0, none⟩) n c)) {ki : IntKind} (hy : look a y = some (.int ki (k : Int)))
    (ht : BySlT P t e) (hw : Region.wanted o (yielded ops a.tmps) = true) (hk : k < n) (hn : n ≤ c)
    (h : wpList P ops Q rest (a.put o.dst (.slice (some ⟨g, k, none⟩) (n - k) (c - k))) w) : wpList P ops Q (o :: rest) a w := by
  replace hx := look_eval hx
  replace hy := look_eval hy
  obtain ⟨hu, he, hi⟩ := ht
  have hs : (sizeOf e).run P w = .ok 1 w := by
    cases hq : P.info? e with
    | none => simp [hq] at hi
    | some i =>
      have : i.size = 1 := by simpa [hq] using hi
      simp [sizeOf, typeInfo, hq, this]
  have hel : P.elem t = e := by simp [Program.elem, hu]
  have h1 := run_slice_l (P := P) (w := w) t (some ⟨g, 0, none⟩) n c (by rw [hel]; exact hu) ki (k : Int) (by omega) (by omega)
  have h2 : (Instr.sliceAt t (.slice (some ⟨g, 0, none⟩) n c) (some (.int ki (k : Int))) none none).run P w = .ok (.slice (some ⟨g, k, none⟩) (n - k) (c - k)) w := by
    rw [run_sliceAt_slice (P := P) (w := w) t _ _ _ _ (by rw [hel]; exact hu), h1, hel, hs]
    simp only [Result.andThen_ok, sliced, Int.toNat_natCast]
    rw [if_neg (by omega)]
    simp [addr_add]
  refine wpList_wanted hw fun K hK => ?_
  unfold Oper.wp execOp
  simp only [ho, hx, hy, Option.map_some, Option.map_none, h2, Sem.run_bind, Sem.run_pure, Result.andThen_ok]
  exact hK _ _ h
/-- 'copy(dst, s)', s a string, dst within a block of the call's own -/
theorem st_copys {dT sT e : TypeId} {d s : Operand} (ho : o.op = .call { callee := .builtin .copy, args := #[d, s], argTypes := #[dT, sT] }) (hgd : o.guard = none) (hF : St w0 D0 w M D) (ht : BySlT P dT e)
    {g off n cd : Nat} (hx : look a d = some (.slice (some ⟨g, off, none⟩) n cd)) {str : ByteArray} (hy : look a s = some (.string str)) {i : Nat} {t' : TypeId} {cs : List Value} (hi : M[i]? = some (.blk g t' cs))
    (hl : off + n ≤ cs.length) {M' : List Mu} (hM : M.set i (.blk g t' (spl cs off (byteCells (str.data.toList.take (min str.size n))))) = M')
    (h : ∀ w', St w0 D0 w' M' D → wpList P ops Q rest (a.put o.dst (goInt (min str.size n : Nat))) w') : wpList P ops Q (o :: rest) a w := by
  replace hx := look_eval hx
  replace hy := look_eval hy
  subst hM
  obtain ⟨hu, he, hsz⟩ := ht
  refine wpList_copy_str hgd d s dT sT ho e hu hsz g off n cd str hx hy t' cs (hF.bkAt hi) (by omega) fun w' hk hg => h w' ?_
  exact hF.upd i _ _ hi hg ⟨hk, (hF.mu i _ hi).2⟩ fun g' hg' => .inl hg'
end
/-- bytes laid over others, from a place on, as far as there is room -/
def layB (l : List UInt8) (at' : Nat) (s : List UInt8) : List UInt8 := l.take at' ++ (s.take (l.length - at')) ++ l.drop (at' + s.length)
theorem layB_len {l s : List UInt8} {k : Nat} (h : k ≤ l.length) : (layB l k s).length = l.length := by simp [layB]; omega
theorem spl_bytes {l : List UInt8} {r : List Value} {k : Nat} {str : ByteArray} (h : k ≤ l.length) : spl (byteCells l ++ r) k (byteCells (str.data.toList.take (min str.size (l.length - k)))) = byteCells (layB l k str.data.toList) ++ r := by
  have hs : str.data.toList.length = str.size := by simp
  have ht : (str.data.toList.take (min str.size (l.length - k))) = str.data.toList.take (l.length - k) := by
    rcases Nat.le_total str.size (l.length - k) with h1 | h1
    · rw [Nat.min_eq_left h1, List.take_of_length_le (by omega), List.take_of_length_le (by omega)]
    · rw [Nat.min_eq_right h1]
  rw [ht, spl_eq _ _ _ (by simp [byteCells_len]; omega), byteCells_len, List.take_append_of_le_length (by rw [byteCells_len]; exact h), List.length_take, hs]
  have h1 : (byteCells l).take k = byteCells (l.take k) := by simp [byteCells, List.map_take]
  rw [h1, layB, byteCells_append, byteCells_append, hs]
  rcases Nat.le_total str.size (l.length - k) with h2 | h2
  · rw [Nat.min_eq_right h2, List.drop_append_of_le_length (by rw [byteCells_len]; omega)]
    simp [byteCells, List.map_drop]
  · rw [Nat.min_eq_left h2, show k + (l.length - k) = l.length by omega, List.drop_of_length_le (show l.length ≤ k + str.size by omega)]
    have : (byteCells l ++ r).drop l.length = r := by rw [← byteCells_len l, List.drop_left]
    rw [this]; simp [byteCells]
end Go.Proofs.Ytcahadkkjfijfaa
