/- The plain mathematics of words of 32 bits: fields, setting a field, continuing the sign, bytes; no Go in sight. -/
import Derived.KernelRfl
set_option linter.unusedVariables false
set_option linter.unusedSimpArgs false
namespace Go.Proofs.Ytcahadkkjfijfaa
namespace Wd

/-- may a field be? -/
def fits (a s : Int) : Bool := decide (0 ≤ a ∧ a ≤ 31 ∧ 1 ≤ s ∧ s ≤ 32 - a)

/-- s bits of w from place a on -/
def fieldN (w a s : Nat) : Nat := (w / 2 ^ a) &&& (2 ^ s - 1)
/-- the mask -/
def maskN (a s : Nat) : Nat := (2 ^ s - 1) * 2 ^ a % 4294967296
/-- w with the lowest bits of v in a field -/
def setN (w a s v : Nat) : Nat := (w &&& (4294967295 - maskN a s)) ||| ((v * 2 ^ a % 4294967296) &&& maskN a s)
def sextN (w s : Nat) : Nat := if (w / 2 ^ (s - 1)) &&& 1 = 1 then (w &&& (2 ^ s - 1)) ||| (4294967295 - (2 ^ s - 1)) else w &&& (2 ^ s - 1)

def fieldI (w : Nat) (a s : Int) : Nat := if fits a s then fieldN w a.toNat s.toNat else 0
def setI (w : Nat) (a s : Int) (v : Nat) : Nat := if fits a s then setN w a.toNat s.toNat v else w
def sextI (w : Nat) (s : Int) : Nat := if s < 1 ∨ 32 < s then w else sextN w s.toNat

theorem fits_iff {a s : Int} : fits a s = true ↔ 0 ≤ a ∧ a ≤ 31 ∧ 1 ≤ s ∧ s ≤ 32 - a := by simp [fits]

/-- beyond 32 bits a word has none -/
theorem bit_hi {w i : Nat} (hw : w < 4294967296) (hi : 32 ≤ i) : w.testBit i = false :=
  Nat.testBit_lt_two_pow (Nat.lt_of_lt_of_le hw (by have := Nat.pow_le_pow_right (n := 2) (by omega) hi; simpa using this))

theorem fieldN_bit (w a s i : Nat) : (fieldN w a s).testBit i = (decide (i < s) && w.testBit (a + i)) := by
  unfold fieldN
  rw [Nat.testBit_and, Nat.testBit_two_pow_sub_one, Nat.testBit_div_two_pow, Bool.and_comm, Nat.add_comm i a]

theorem maskN_bit (a s i : Nat) (h : a + s ≤ 32) : (maskN a s).testBit i = decide (a ≤ i ∧ i < a + s) := by
  unfold maskN
  rw [show (4294967296 : Nat) = 2 ^ 32 from rfl, Nat.testBit_mod_two_pow, Nat.testBit_mul_two_pow, Nat.testBit_two_pow_sub_one, ← Bool.decide_and, ← Bool.decide_and]
  exact decide_eq_decide.2 (by omega)

theorem not_bit (m i : Nat) (hm : m < 4294967296) : (4294967295 - m).testBit i = (decide (i < 32) && !m.testBit i) := by
  have := Nat.testBit_two_pow_sub_succ (x := m) (n := 32) (by simpa using hm) i
  rw [show (2 ^ 32 - (m + 1) : Nat) = 4294967295 - m from by omega] at this
  exact this

theorem maskN_lt (a s : Nat) : maskN a s < 4294967296 := Nat.mod_lt _ (by omega)

theorem setN_bit {w : Nat} (a s v i : Nat) (hw : w < 4294967296) (h : a + s ≤ 32) :
    (setN w a s v).testBit i = if a ≤ i ∧ i < a + s then v.testBit (i - a) else w.testBit i := by
  unfold setN
  rw [Nat.testBit_or, Nat.testBit_and, Nat.testBit_and, not_bit _ _ (maskN_lt a s), maskN_bit a s i h, show (4294967296 : Nat) = 2 ^ 32 from rfl, Nat.testBit_mod_two_pow, Nat.testBit_mul_two_pow]
  by_cases hi : a ≤ i ∧ i < a + s
  · have h32 : i < 32 := by omega
    simp [hi, h32]
  · by_cases h32 : i < 32
    · simp [hi, h32]
    · simp [hi, h32, bit_hi hw (by omega : 32 ≤ i)]

theorem lt_of_bits {x : Nat} (h : ∀ i, 32 ≤ i → x.testBit i = false) : x < 4294967296 := by
  rw [show (4294967296 : Nat) = 2 ^ 32 from rfl]
  exact Nat.lt_pow_two_of_testBit x (fun i hi => h i hi)

theorem fieldN_lt {w a s : Nat} (h : s ≤ 32) : fieldN w a s < 4294967296 :=
  lt_of_bits fun i hi => by rw [fieldN_bit]; simp; intro; omega
theorem fieldI_lt (w : Nat) (a s : Int) : fieldI w a s < 4294967296 := by
  unfold fieldI
  split
  · rename_i h; rw [fits_iff] at h; exact fieldN_lt (by omega)
  · omega
theorem setN_lt {w a s v : Nat} (hw : w < 4294967296) (h : a + s ≤ 32) : setN w a s v < 4294967296 :=
  lt_of_bits fun i hi => by rw [setN_bit _ _ _ _ hw h, if_neg (by omega)]; exact bit_hi hw hi
theorem setI_lt {w : Nat} (a s : Int) (v : Nat) (hw : w < 4294967296) : setI w a s v < 4294967296 := by
  unfold setI
  split
  · rename_i h; rw [fits_iff] at h; exact setN_lt hw (by omega)
  · exact hw

theorem sextN_bit {w : Nat} (s i : Nat) (hw : w < 4294967296) (h1 : 1 ≤ s) (h : s ≤ 32) :
    (sextN w s).testBit i = (decide (i < 32) && if i < s then w.testBit i else w.testBit (s - 1)) := by
  have hb : ((w / 2 ^ (s - 1)) &&& 1 = 1) ↔ w.testBit (s - 1) = true := by
    rw [Nat.testBit_eq_decide_div_mod_eq, Nat.and_one_is_mod]; simp
  have hs : 2 ^ s - 1 < 4294967296 := by
    have := Nat.pow_le_pow_right (n := 2) (by omega) h
    have e : (2 : Nat) ^ 32 = 4294967296 := rfl
    omega
  unfold sextN
  by_cases hc : w.testBit (s - 1) = true
  · rw [if_pos (hb.2 hc), Nat.testBit_or, Nat.testBit_and, not_bit _ _ hs, Nat.testBit_two_pow_sub_one]
    by_cases hi : i < s
    · have : i < 32 := by omega
      simp [hi, this]
    · simp [hi, hc]
  · rw [if_neg (fun e => hc (hb.1 e)), Nat.testBit_and, Nat.testBit_two_pow_sub_one]
    by_cases hi : i < s
    · have : i < 32 := by omega
      simp [hi, this]
    · simp [hi, hc]
theorem sextN_lt {w s : Nat} (hw : w < 4294967296) (h1 : 1 ≤ s) (h : s ≤ 32) : sextN w s < 4294967296 :=
  lt_of_bits fun i hi => by rw [sextN_bit s i hw h1 h]; simp; intro; omega
theorem sextI_lt {w : Nat} (s : Int) (hw : w < 4294967296) : sextI w s < 4294967296 := by
  unfold sextI
  split
  · exact hw
  · exact sextN_lt hw (by omega) (by omega)

/-! ### the laws -/

/-- what is set is the field -/
theorem field_set {w : Nat} (a s v : Nat) (hw : w < 4294967296) (h : a + s ≤ 32) : fieldN (setN w a s v) a s = fieldN v 0 s :=
  Nat.eq_of_testBit_eq fun i => by
    rw [fieldN_bit, fieldN_bit, setN_bit _ _ _ _ hw h]
    by_cases hi : i < s
    · rw [if_pos (by omega)]; simp [hi]
    · simp [hi]

theorem field_set_beside {w : Nat} (a s v b t : Nat) (hw : w < 4294967296) (h : a + s ≤ 32) (hb : b + t ≤ a ∨ a + s ≤ b) : fieldN (setN w a s v) b t = fieldN w b t :=
  Nat.eq_of_testBit_eq fun i => by
    rw [fieldN_bit, fieldN_bit, setN_bit _ _ _ _ hw h]
    by_cases hi : i < t
    · rw [if_neg (by omega)]
    · simp [hi]

theorem set_field {w : Nat} (a s : Nat) (hw : w < 4294967296) (h : a + s ≤ 32) : setN w a s (fieldN w a s) = w :=
  Nat.eq_of_testBit_eq fun i => by
    rw [setN_bit _ _ _ _ hw h]
    split
    · rename_i hi
      rw [fieldN_bit, show a + (i - a) = i from by omega]; simp; omega
    · rfl

theorem halves {w : Nat} (hw : w < 4294967296) : setN (fieldN w 0 16) 16 16 (fieldN w 16 16) = w :=
  Nat.eq_of_testBit_eq fun i => by
    rw [setN_bit _ _ _ _ (fieldN_lt (by omega)) (by omega)]
    by_cases h1 : i < 16
    · rw [if_neg (by omega), fieldN_bit]; simp [h1]
    · by_cases h2 : i < 32
      · rw [if_pos (by omega), fieldN_bit, show 16 + (i - 16) = i from by omega]; simp; omega
      · rw [if_neg (by omega), fieldN_bit, bit_hi hw (show 32 ≤ i by omega)]; simp only [h1, decide_false, Bool.false_and]

theorem field_field (w a s b t : Nat) (h : b + t ≤ s) : fieldN (fieldN w a s) b t = fieldN w (a + b) t :=
  Nat.eq_of_testBit_eq fun i => by
    rw [fieldN_bit, fieldN_bit, fieldN_bit, Nat.add_assoc]
    by_cases hi : i < t
    · have : b + i < s := by omega
      simp [hi, this]
    · simp [hi]

theorem set_set {w : Nat} (a s v u : Nat) (hw : w < 4294967296) (h : a + s ≤ 32) : setN (setN w a s v) a s u = setN w a s u :=
  Nat.eq_of_testBit_eq fun i => by
    rw [setN_bit _ _ _ _ (setN_lt hw h) h, setN_bit _ _ _ _ hw h, setN_bit _ _ _ _ hw h]
    split <;> rfl

theorem set_comm {w : Nat} (a s v b t u : Nat) (hw : w < 4294967296) (h : a + s ≤ 32) (h' : b + t ≤ 32) (hb : b + t ≤ a ∨ a + s ≤ b) : setN (setN w a s v) b t u = setN (setN w b t u) a s v :=
  Nat.eq_of_testBit_eq fun i => by
    rw [setN_bit _ _ _ _ (setN_lt hw h) h', setN_bit _ _ _ _ hw h, setN_bit _ _ _ _ (setN_lt hw h') h, setN_bit _ _ _ _ hw h']
    by_cases h1 : b ≤ i ∧ i < b + t
    · rw [if_pos h1, if_neg (by omega), if_pos h1]
    · rw [if_neg h1, if_neg h1]

theorem sext_sext {w : Nat} (s : Nat) (hw : w < 4294967296) (h1 : 1 ≤ s) (h : s ≤ 32) : sextN (sextN w s) s = sextN w s :=
  Nat.eq_of_testBit_eq fun i => by
    rw [sextN_bit s i (sextN_lt hw h1 h) h1 h, sextN_bit s i hw h1 h, sextN_bit s (s - 1) hw h1 h]
    have : s - 1 < 32 := by omega
    have h2 : s - 1 < s := by omega
    by_cases hi : i < s
    · simp [hi]
    · simp [hi, this, h2]

theorem field_sext {w : Nat} (s : Nat) (hw : w < 4294967296) (h1 : 1 ≤ s) (h : s ≤ 32) : fieldN (sextN w s) 0 s = fieldN w 0 s :=
  Nat.eq_of_testBit_eq fun i => by
    rw [fieldN_bit, fieldN_bit, sextN_bit s (0 + i) hw h1 h]
    by_cases hi : i < s
    · have : i < 32 := by omega
      simp [hi, this]
    · simp [hi]

/-! ### the laws over Int places -/

theorem fieldI_yes {w : Nat} {a s : Int} (h : fits a s = true) : fieldI w a s = fieldN w a.toNat s.toNat := by unfold fieldI; rw [if_pos h]
theorem setI_yes {w : Nat} {a s : Int} {v : Nat} (h : fits a s = true) : setI w a s v = setN w a.toNat s.toNat v := by unfold setI; rw [if_pos h]
theorem fieldI_no {w : Nat} {a s : Int} (h : fits a s = false) : fieldI w a s = 0 := by unfold fieldI; rw [h]; rfl
theorem setI_no {w : Nat} {a s : Int} {v : Nat} (h : fits a s = false) : setI w a s v = w := by unfold setI; rw [h]; rfl

/-- the lowest s bits -/
theorem fits_zero {a s : Int} (h : fits a s = true) : fits 0 s = true := by rw [fits_iff] at *; omega

theorem I_field_set {w : Nat} {a s : Int} {v : Nat} (hw : w < 4294967296) (h : fits a s = true) : fieldI (setI w a s v) a s = fieldI v 0 s := by
  rw [fieldI_yes h, setI_yes h, fieldI_yes (fits_zero h)]
  rw [fits_iff] at h
  exact field_set _ _ _ hw (by omega)
theorem I_set_field {w : Nat} {a s : Int} (hw : w < 4294967296) (h : fits a s = true) : setI w a s (fieldI w a s) = w := by
  rw [fieldI_yes h, setI_yes h]
  rw [fits_iff] at h
  exact set_field _ _ hw (by omega)
theorem I_field_beside {w : Nat} {a s b t : Int} {v : Nat} (hw : w < 4294967296) (h : fits a s = true) (h' : fits b t = true) (hb : b + t ≤ a ∨ a + s ≤ b) : fieldI (setI w a s v) b t = fieldI w b t := by
  rw [fieldI_yes h', setI_yes h, fieldI_yes h']
  rw [fits_iff] at h h'
  exact field_set_beside _ _ _ _ _ hw (by omega) (by omega)
theorem I_halves {w : Nat} (hw : w < 4294967296) : setI (fieldI w 0 16) 16 16 (fieldI w 16 16) = w := by
  rw [setI_yes (by decide), fieldI_yes (by decide), fieldI_yes (by decide)]
  exact halves hw
theorem I_field_field {w : Nat} {a s b t : Int} (h : fits a s = true) (h0 : 0 ≤ b) (h1 : 1 ≤ t) (h2 : b + t ≤ s) : fieldI (fieldI w a s) b t = fieldI w (a + b) t := by
  rw [fits_iff] at h
  have hb : fits b t = true := by rw [fits_iff]; omega
  have hab : fits (a + b) t = true := by rw [fits_iff]; omega
  rw [fieldI_yes hb, fieldI_yes hab, fieldI_yes (by rw [fits_iff]; exact h), field_field _ _ _ _ _ (by omega), Int.toNat_add (by omega) h0]
theorem I_set_set {w : Nat} {a s : Int} {v u : Nat} (hw : w < 4294967296) : setI (setI w a s v) a s u = setI w a s u := by
  cases h : fits a s
  · rw [setI_no h, setI_no h, setI_no h]
  · rw [setI_yes h, setI_yes h, setI_yes h]
    rw [fits_iff] at h
    exact set_set _ _ _ _ hw (by omega)
theorem I_set_comm {w : Nat} {a s b t : Int} {v u : Nat} (hw : w < 4294967296) (h : fits a s = true) (h' : fits b t = true) (hb : b + t ≤ a ∨ a + s ≤ b) : setI (setI w a s v) b t u = setI (setI w b t u) a s v := by
  rw [setI_yes h, setI_yes h', setI_yes h', setI_yes h]
  rw [fits_iff] at h h'
  exact set_comm _ _ _ _ _ _ hw (by omega) (by omega) (by omega)
theorem I_sext_sext {w : Nat} {s : Int} (hw : w < 4294967296) : sextI (sextI w s) s = sextI w s := by
  unfold sextI
  split
  · rfl
  · exact sext_sext _ hw (by omega) (by omega)
theorem I_field_sext {w : Nat} {s : Int} (hw : w < 4294967296) (h1 : 1 ≤ s) (h2 : s ≤ 32) : fieldI (sextI w s) 0 s = fieldI w 0 s := by
  have hf : fits 0 s = true := by rw [fits_iff]; omega
  rw [fieldI_yes hf, fieldI_yes hf]
  unfold sextI
  rw [if_neg (by omega)]
  exact field_sext _ hw (by omega) (by omega)

/-! ### bits gathered into a word -/

/-- the word that bits make, the lowest first -/
def ofBits : List Nat → Nat
  | [] => 0
  | b :: l => 2 * ofBits l + b
def bitN (w i : Nat) : Nat := w / 2 ^ i % 2
theorem bitN_le (w i : Nat) : bitN w i ≤ 1 := by unfold bitN; omega
theorem bitN_eq (w i : Nat) : bitN w i = (w.testBit i).toNat := by
  unfold bitN
  rw [Nat.testBit_eq_decide_div_mod_eq]
  rcases Nat.mod_two_eq_zero_or_one (w / 2 ^ i) with h | h <;> simp [h]

theorem ofBits_lt (l : List Nat) (h : ∀ b ∈ l, b ≤ 1) : ofBits l < 2 ^ l.length := by
  induction l with
  | nil => simp [ofBits]
  | cons b l ih =>
    have h1 := ih fun b hb => h b (List.mem_cons_of_mem _ hb)
    have h2 := h b (by simp)
    simp only [ofBits, List.length_cons, Nat.pow_succ]
    omega

theorem ofBits_bit (l : List Nat) (h : ∀ b ∈ l, b ≤ 1) (i : Nat) : (ofBits l).testBit i = decide (l[i]? = some 1) := by
  induction l generalizing i with
  | nil => simp [ofBits]
  | cons b l ih =>
    have h2 := h b (by simp)
    have ih := ih fun b hb => h b (List.mem_cons_of_mem _ hb)
    cases i with
    | zero =>
      simp only [ofBits, Nat.testBit_zero, List.getElem?_cons_zero, Option.some.injEq]
      exact decide_eq_decide.2 (by omega)
    | succ i =>
      rw [Nat.testBit_succ, List.getElem?_cons_succ, ← ih]
      congr 1
      simp only [ofBits]
      omega

/-- n bits, by a function of the place -/
theorem ofBits_map_bit (n : Nat) (g : Nat → Nat) (p : Nat → Bool) (hg : ∀ i, i < n → g i = (p i).toNat) (i : Nat) : (ofBits ((List.range n).map g)).testBit i = (decide (i < n) && p i) := by
  rw [ofBits_bit]
  · by_cases hi : i < n
    · simp [hi, hg i hi]
    · simp [hi]
  · intro b hb
    simp only [List.mem_map, List.mem_range] at hb
    obtain ⟨j, hj, rfl⟩ := hb
    rw [hg j hj]
    exact Bool.toNat_le _

theorem field_ofBits (w a s : Nat) : ofBits ((List.range s).map fun i => bitN w (a + i)) = fieldN w a s :=
  Nat.eq_of_testBit_eq fun i => by
    rw [ofBits_map_bit s _ (fun i => w.testBit (a + i)) (fun i _ => bitN_eq w (a + i)), fieldN_bit]

theorem set_ofBits {w : Nat} (a s v : Nat) (hw : w < 4294967296) (h : a + s ≤ 32) :
    ofBits ((List.range 32).map fun i => if a ≤ i ∧ i < a + s then bitN v (i - a) else bitN w i) = setN w a s v :=
  Nat.eq_of_testBit_eq fun i => by
    rw [ofBits_map_bit 32 _ (fun i => if a ≤ i ∧ i < a + s then v.testBit (i - a) else w.testBit i) (fun i _ => by split <;> exact bitN_eq _ _), setN_bit _ _ _ _ hw h]
    by_cases hi : i < 32
    · simp [hi]
    · rw [if_neg (by omega), bit_hi hw (by omega)]; simp

theorem sext_ofBits {w : Nat} (s : Nat) (hw : w < 4294967296) (h1 : 1 ≤ s) (h : s ≤ 32) :
    ofBits ((List.range 32).map fun i => if i < s then bitN w i else bitN w (s - 1)) = sextN w s :=
  Nat.eq_of_testBit_eq fun i => by
    rw [ofBits_map_bit 32 _ (fun i => if i < s then w.testBit i else w.testBit (s - 1)) (fun i _ => by split <;> exact bitN_eq _ _), sextN_bit s i hw h1 h]

theorem int_pow (s : Nat) : (2 : Int) ^ s = ((2 ^ s : Nat) : Int) := by simp
theorem pow_le32 {s : Nat} (h : s ≤ 32) : 2 ^ s ≤ 4294967296 := by have := Nat.pow_le_pow_right (n := 2) (by omega) h; simpa using this
theorem ones_eq {s : Nat} (h : s ≤ 32) : ((2 : Int) ^ s % 4294967296 - 1) % 4294967296 = ((2 ^ s - 1 : Nat) : Int) := by
  rw [int_pow]
  have h1 := pow_le32 h
  have h2 := Nat.pow_pos (n := s) (show 0 < 2 by omega)
  generalize 2 ^ s = p at *
  by_cases e : p = 4294967296
  · subst e; rfl
  · omega
theorem bit_eq (x i : Nat) : ((x : Int) / 2 ^ i).tmod 2 = (bitN x i : Int) := by
  rw [int_pow]
  unfold bitN
  rw [← Int.natCast_ediv]
  generalize x / 2 ^ i = q
  rw [Int.tmod_eq_emod_of_nonneg (by omega)]
  omega

theorem mask_eq (a s : Nat) : (((2 ^ s - 1 : Nat) : Int) * 2 ^ a) % 4294967296 = (maskN a s : Int) := by
  rw [int_pow]; unfold maskN; omega
theorem shl_eq (v a : Nat) : ((v : Int) * 2 ^ a) % 4294967296 = ((v * 2 ^ a % 4294967296 : Nat) : Int) := by
  rw [int_pow]; omega
theorem shr_eq (x n : Nat) : ((x : Int) / 2 ^ n) = ((x / 2 ^ n : Nat) : Int) := by rw [int_pow]; omega
theorem shr_lt {x : Nat} (n : Nat) (hx : x < 4294967296) : x / 2 ^ n < 4294967296 := Nat.lt_of_le_of_lt (Nat.div_le_self _ _) hx
theorem ones_lt {s : Nat} (h : s ≤ 32) : 2 ^ s - 1 < 4294967296 := by
  have h1 := pow_le32 h
  have h2 := Nat.pow_pos (n := s) (show 0 < 2 by omega)
  omega

theorem sextN_yes {w s : Nat} (h : (w / 2 ^ (s - 1)) &&& 1 = 1) : sextN w s = (w &&& (2 ^ s - 1)) ||| (4294967295 - (2 ^ s - 1)) := by unfold sextN; rw [if_pos h]
theorem sextN_no {w s : Nat} (h : ¬ (w / 2 ^ (s - 1)) &&& 1 = 1) : sextN w s = w &&& (2 ^ s - 1) := by unfold sextN; rw [if_neg h]
theorem xor_ones (m : Nat) (hm : m < 4294967296) : 4294967295 ^^^ m = 4294967295 - m :=
  Nat.eq_of_testBit_eq fun i => by
    rw [Nat.testBit_xor, not_bit m i hm, show (4294967295 : Nat) = 2 ^ 32 - 1 from rfl, Nat.testBit_two_pow_sub_one]
    by_cases hi : i < 32
    · simp [hi]
    · simp [hi, bit_hi hm (show 32 ≤ i by omega)]

/-! ### bytes -/

/-- a word's lowest s bytes, the lowest first -/
def bytesL (x s : Nat) : List UInt8 := (List.range s).map fun i => UInt8.ofNat (x / 2 ^ (8 * i))
/-- the word that bytes make -/
def joinL : List UInt8 → Nat
  | [] => 0
  | b :: l => b.toNat + 256 * joinL l
theorem bytesL_len (x s : Nat) : (bytesL x s).length = s := by simp [bytesL]
theorem bytesL_snoc (x k : Nat) : bytesL x (k + 1) = bytesL x k ++ [UInt8.ofNat (x / 2 ^ (8 * k))] := by simp [bytesL, List.range_succ]
theorem ofNat_toNat (n : Nat) : (UInt8.ofNat n).toNat = n % 256 := by simp
theorem bytesL_cons (x k : Nat) : bytesL x (k + 1) = UInt8.ofNat x :: bytesL (x / 256) k := by
  unfold bytesL
  rw [List.range_succ_eq_map, List.map_cons, List.map_map]
  congr 1
  · simp
  apply List.map_congr_left
  intro i _
  simp only [Function.comp]
  congr 1
  rw [Nat.div_div_eq_div_mul, show 8 * (i + 1) = 8 + 8 * i by omega, Nat.pow_add]
theorem joinL_lt (l : List UInt8) : joinL l < 256 ^ l.length := by
  induction l with
  | nil => simp [joinL]
  | cons b l ih =>
    have := b.toNat_lt
    simp only [joinL, List.length_cons, Nat.pow_succ]
    omega
theorem joinL_lt32 {l : List UInt8} (h : l.length ≤ 4) : joinL l < 4294967296 := by
  have h1 := joinL_lt l
  have h2 : 256 ^ l.length ≤ 256 ^ 4 := Nat.pow_le_pow_right (by omega) h
  have e : (256 : Nat) ^ 4 = 4294967296 := rfl
  omega
theorem join_bytes (x k : Nat) (h : x < 256 ^ k) : joinL (bytesL x k) = x := by
  induction k generalizing x with
  | zero => simp at h; subst h; rfl
  | succ k ih =>
    rw [bytesL_cons, joinL, ih (x / 256) (by rw [Nat.pow_succ] at h; omega), ofNat_toNat]
    omega
theorem join_bytes4 {x : Nat} (h : x < 4294967296) : joinL (bytesL x 4) = x := join_bytes x 4 h
theorem bytes_join (l : List UInt8) : bytesL (joinL l) l.length = l := by
  induction l with
  | nil => rfl
  | cons b l ih =>
    have hb := b.toNat_lt
    rw [List.length_cons, bytesL_cons, joinL, show (b.toNat + 256 * joinL l) / 256 = joinL l by omega, ih]
    congr 1
    rw [← UInt8.toNat_inj, ofNat_toNat]
    omega
theorem joinL_snoc (l : List UInt8) (b : UInt8) : joinL (l ++ [b]) = joinL l + b.toNat * 2 ^ (8 * l.length) := by
  induction l with
  | nil => simp [joinL]
  | cons c l ih =>
    rw [List.cons_append, joinL, ih, joinL, List.length_cons, show 8 * (l.length + 1) = 8 + 8 * l.length by omega, Nat.pow_add]
    have : b.toNat * (2 ^ 8 * 2 ^ (8 * l.length)) = 256 * (b.toNat * 2 ^ (8 * l.length)) := by
      rw [show (2 : Nat) ^ 8 = 256 from rfl, Nat.mul_left_comm]
    omega
theorem joinL_take {l : List UInt8} {k : Nat} (h : k < l.length) : joinL (l.take (k + 1)) = joinL (l.take k) ||| (l[k].toNat * 2 ^ (8 * k)) := by
  rw [List.take_succ_eq_append_getElem h, joinL_snoc, List.length_take, Nat.min_eq_left (by omega)]
  have h1 := joinL_lt (l.take k)
  rw [List.length_take, Nat.min_eq_left (by omega), show (256 : Nat) = 2 ^ 8 from rfl, ← Nat.pow_mul] at h1
  rw [Nat.or_comm, ← Nat.shiftLeft_eq, ← Nat.shiftLeft_add_eq_or_of_lt h1]
  omega
theorem shl_lt {b : Nat} (hb : b < 256) {k : Nat} (hk : k < 4) : b * 2 ^ (8 * k) < 4294967296 := by
  have h2 : 2 ^ (8 * k) ≤ 2 ^ 24 := Nat.pow_le_pow_right (by omega) (by omega)
  have e : (2 : Nat) ^ 24 = 16777216 := rfl
  have := Nat.mul_le_mul (show b ≤ 255 by omega) h2
  omega
theorem joinL_drop {l : List UInt8} {k : Nat} (h : k < l.length) : joinL (l.drop k) = 256 * joinL (l.drop (k + 1)) + l[k].toNat := by
  rw [List.drop_eq_getElem_cons h, joinL]; omega
theorem byte_field (x k : Nat) (hk : k < 4) : fieldI x (8 * (k : Int)) 8 = x / 2 ^ (8 * k) % 256 := by
  rw [fieldI_yes (by rw [fits_iff]; omega), show (8 * (k : Int)).toNat = 8 * k by omega]
  unfold fieldN
  exact Nat.and_two_pow_sub_one_eq_mod _ 8

end Wd
end Go.Proofs.Ytcahadkkjfijfaa
