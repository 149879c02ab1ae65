/- What memory is within a call: the blocks that the call itself made and knows, and the rows that it only reads. -/
import Derived.Test.YtcahadkkjfijfaaQl
set_option linter.unusedVariables false
set_option linter.unusedSimpArgs false
namespace Go.Proofs.Ytcahadkkjfijfaa
open Go.RowKit

/-- a block of the call's own: known whole; or a row that it appends to -/
inductive Mu where
  | blk (g : Nat) (t : TypeId) (cs : List Value)
  | own (v : Value) (e : TypeId) (sz n : Nat) (xs : List Value)
def Mu.bl : Mu → Option Nat
  | .blk g _ _ => some g
  | .own v _ _ _ _ => v.ownBlock
def Mu.ok (B : Nat) (w : World) : Mu → Prop
  | .blk g t cs => Bk w g t cs ∧ B ≤ g
  | .own v e sz n xs => w.ownsRow B e sz v n xs
theorem Mu.ok.lt {B : Nat} {w : World} {m : Mu} (h : m.ok B w) {g : Nat} (hg : m.bl = some g) : B ≤ g ∧ g < w.heap.size := by
  cases m with
  | blk g' t cs => simp only [Mu.bl, Option.some.injEq] at hg; subst hg; exact ⟨h.2, h.1.lt⟩
  | own v e sz n xs => exact World.ownsRow.lt h g hg
theorem Mu.ok.keep {B : Nat} {w w' : World} {m : Mu} (h : m.ok B w) (hk : ∀ g, m.bl = some g → w'.heap[g]? = w.heap[g]?) : m.ok B w' := by
  cases m with
  | blk g' t cs => exact ⟨h.1.keep (hk _ rfl), h.2⟩
  | own v e sz n xs =>
    refine ⟨h.1, ?_⟩
    rcases h.2 with h' | ⟨g, cap, cur, rfl, hb, hg, rest⟩
    · exact .inl h'
    · exact .inr ⟨g, cap, cur, rfl, hb, (hk g rfl).trans hg, rest⟩

/-- data that is only read: what it says of memory, and the blocks that it lies in -/
structure Da where
  ok : World → Prop
  bl : Nat → Prop
  keep : ∀ {w w' : World}, (∀ g, bl g → w'.heap[g]? = w.heap[g]?) → w.heap.size ≤ w'.heap.size → ok w → ok w'
  lt : ∀ {w : World}, ok w → ∀ g, bl g → g < w.heap.size
/-- the blocks of a slice value -/
def inA (A : Option Addr) (n : Nat) (g : Nat) : Prop := 0 < n ∧ ∃ o s, A = some ⟨g, o, s⟩
/-- a row of cells -/
def rowD (sz : Nat) (A : Option Addr) (n c : Nat) (xs : List Value) : Da where
  ok w := Rd w w.heap.size sz A n c xs
  bl := inA A n
  keep {w w'} hk hs h := ⟨h.len, h.le, h.mx, fun hn => by
    obtain ⟨g, o, e, hb, hc⟩ := h.at_ hn
    exact ⟨g, o, e, Nat.lt_of_lt_of_le hb hs, fun j u hu => (World.cell?_of_block (hk g ⟨hn, o, none, e⟩)).trans (hc j u hu)⟩⟩
  lt {w} h g hg := by
    obtain ⟨hn, o, s, e⟩ := hg
    obtain ⟨g', o', e', hb, _⟩ := h.at_ hn
    rw [e'] at e
    injection e with e
    injection e with e1
    omega
/-- d's blocks are new since w, or lie in one of D -/
def From (w : World) (D : List Da) (d : Da) : Prop := ∀ g, d.bl g → w.heap.size ≤ g ∨ ∃ e ∈ D, e.bl g
theorem From.self {w : World} {D : List Da} {d : Da} (h : d ∈ D) : From w D d := fun g hg => .inr ⟨d, h, hg⟩
theorem From.new {w : World} {D : List Da} {d : Da} (h : ∀ g, d.bl g → w.heap.size ≤ g) : From w D d := fun g hg => .inl (h g hg)
theorem From.none {w : World} {D : List Da} {sz n c : Nat} {xs : List Value} : From w D (rowD sz none n c xs) := fun g hg => by obtain ⟨_, o, s, e⟩ := hg; cases e
theorem From.trans {w w' : World} {D D' : List Da} {d : Da} (h : From w' D' d) (hs : w.heap.size ≤ w'.heap.size) (hD : ∀ e ∈ D', From w D e) : From w D d := fun g hg => by
  rcases h g hg with h | ⟨e, he, hb⟩
  · exact .inl (Nat.le_trans hs h)
  · exact hD e he g hb

/-- memory within a call that began at w0, with D0 handed to it -/
structure St (w0 : World) (D0 : List Da) (w : World) (M : List Mu) (D : List Da) : Prop where
  bel : Bel w0 w
  mu : ∀ (i : Nat) (m : Mu), M[i]? = some m → m.ok w0.heap.size w
  apart : ∀ (i j : Nat) (a b : Mu), i ≠ j → M[i]? = some a → M[j]? = some b → ∀ g, a.bl = some g → b.bl ≠ some g
  dat : ∀ d ∈ D, d.ok w
  sep : ∀ d ∈ D, ∀ (i : Nat) (m : Mu), M[i]? = some m → ∀ g, m.bl = some g → ¬ d.bl g
  src : ∀ d ∈ D, From w0 D0 d

section
variable {w0 w w' : World} {D0 D : List Da} {M : List Mu}
theorem St.start (w : World) (D : List Da) (h : ∀ d ∈ D, d.ok w) : St w D w [] D :=
  ⟨Bel.refl w, fun i m h => by simp at h, fun i j a b _ h => by simp at h, h, fun _ _ i m h => by simp at h, fun d hd => From.self hd⟩
theorem grown_of_bel (hb : Bel w w') (r : Option Nat) : w.grownBy w' r := ⟨hb.os, hb.tape, hb.output, hb.size, fun k hk _ => hb.block k hk⟩
theorem St.grow (h : St w0 D0 w M D) (hb : Bel w w') : St w0 D0 w' M D :=
  ⟨h.bel.trans hb, fun i m hm => (h.mu i m hm).keep fun g hg => hb.block g ((h.mu i m hm).lt hg).2, h.apart, fun d hd => d.keep (fun g hg => hb.block g (d.lt (h.dat d hd) g hg)) hb.size (h.dat d hd), h.sep, h.src⟩
/-- one of the blocks has turned -/
theorem St.upd (h : St w0 D0 w M D) (i : Nat) (m m' : Mu) (hi : M[i]? = some m) (hg : w.grownBy w' m.bl) (hm : m'.ok w0.heap.size w') (hb : ∀ g, m'.bl = some g → m.bl = some g ∨ w.heap.size ≤ g) :
    St w0 D0 w' (M.set i m') D := by
  have hil : i < M.length := (List.getElem?_eq_some_iff.1 hi).1
  have hset : ∀ j x, (M.set i m')[j]? = some x → (j = i ∧ x = m') ∨ (j ≠ i ∧ M[j]? = some x) := by
    intro j x hx
    by_cases hj : i = j
    · subst hj; rw [List.getElem?_set_self hil] at hx; injection hx with hx; exact .inl ⟨rfl, hx.symm⟩
    · rw [List.getElem?_set_ne hj] at hx; exact .inr ⟨fun e => hj e.symm, hx⟩
  refine ⟨h.bel.grown hg fun k hk => ((h.mu i m hi).lt hk).1, fun j x hx => ?_, fun j k a b hjk ha hb' g hag hbg => ?_, fun d hd => ?_, fun d hd j x hx g hxg hdg => ?_, h.src⟩
  · rcases hset j x hx with ⟨_, rfl⟩ | ⟨hj, hx⟩
    · exact hm
    · exact (h.mu j x hx).keep fun g hg' => hg.block g ((h.mu j x hx).lt hg').2 (fun e => h.apart j i x m hj hx hi g hg' e.symm)
  · rcases hset j a ha with ⟨rfl, e1⟩ | ⟨hj, ha1⟩
    · rcases hset k b hb' with ⟨rfl, _⟩ | ⟨hk, hb1⟩
      · exact hjk rfl
      · rcases hb g (e1 ▸ hag) with h1 | h1
        · exact h.apart j k m b hjk hi hb1 g h1 hbg
        · have := ((h.mu k b hb1).lt hbg).2; omega
    · rcases hset k b hb' with ⟨rfl, e1⟩ | ⟨hk, hb1⟩
      · rcases hb g (e1 ▸ hbg) with h1 | h1
        · exact h.apart j k a m hjk ha1 hi g hag h1
        · have := ((h.mu j a ha1).lt hag).2; omega
      · exact h.apart j k a b hjk ha1 hb1 g hag hbg
  · exact d.keep (fun g hdg => hg.block g (d.lt (h.dat d hd) g hdg) (fun e => h.sep d hd i m hi g e.symm hdg)) hg.size (h.dat d hd)
  · rcases hset j x hx with ⟨_, rfl⟩ | ⟨_, hx⟩
    · rcases hb g hxg with h1 | h1
      · exact h.sep d hd i m hi g h1 hdg
      · have := d.lt (h.dat d hd) g hdg; omega
    · exact h.sep d hd j x hx g hxg hdg
/-- a new block -/
theorem St.push (h : St w0 D0 w M D) (m : Mu) (hg : w.grownBy w' none) (hm : m.ok w0.heap.size w') (hb : ∀ g, m.bl = some g → w.heap.size ≤ g) : St w0 D0 w' (m :: M) D := by
  have hbe : Bel w w' := ⟨hg.os, hg.tape, hg.output, hg.size, fun k hk => hg.block k hk (by simp)⟩
  have h' := h.grow hbe
  refine ⟨h'.bel, fun i x hx => ?_, fun i j a b hij ha hb' g hag hbg => ?_, h'.dat, fun d hd i x hx g hxg hdg => ?_, h.src⟩
  · cases i with
    | zero => simp at hx; subst hx; exact hm
    | succ i => exact h'.mu i x (by simpa using hx)
  · cases i with
    | zero =>
      simp at ha; subst ha
      cases j with
      | zero => exact hij rfl
      | succ j =>
        have := ((h.mu j b (by simpa using hb')).lt hbg).2
        have := hb g hag
        omega
    | succ i =>
      cases j with
      | zero =>
        simp at hb'; subst hb'
        have := ((h.mu i a (by simpa using ha)).lt hag).2
        have := hb g hbg
        omega
      | succ j => exact h.apart i j a b (by omega) (by simpa using ha) (by simpa using hb') g hag hbg
  · cases i with
    | zero =>
      simp at hx; subst hx
      have := d.lt (h.dat d hd) g hdg
      have := hb g hxg
      omega
    | succ i => exact h.sep d hd i x (by simpa using hx) g hxg hdg
theorem St.alloc (h : St w0 D0 w M D) (t : TypeId) (cs : List Value) : St w0 D0 (w.alloc (.cells cs.toArray t)) (.blk w.heap.size t cs :: M) D :=
  h.push _ (grown_of_bel (Bel.alloc w _) none) ⟨Bk.new w t cs, h.bel.size⟩ fun g hg => by simp only [Mu.bl, Option.some.injEq] at hg; omega
/-- nil, as a row to append to -/
theorem St.nil (h : St w0 D0 w M D) (e : TypeId) (sz : Nat) : St w0 D0 w (.own (.slice none 0 0) e sz 0 [] :: M) D :=
  h.push _ (grown_of_bel (Bel.refl w) none) ⟨by simp, .inl ⟨rfl, rfl⟩⟩ fun g hg => by simp [Mu.bl, Value.ownBlock] at hg
/-- data that came by a call -/
theorem St.add (h : St w0 D0 w M D) (hb : Bel w w') (d : Da) (hd : d.ok w') (D1 : List Da) (hf : From w D1 d) (hD : ∀ e ∈ D1, e ∈ D) : St w0 D0 w' M (d :: D) := by
  have h' := h.grow hb
  refine ⟨h'.bel, h'.mu, h'.apart, fun e he => ?_, fun e he i m hm g hmg heg => ?_, fun e he => ?_⟩
  · rcases List.mem_cons.1 he with rfl | he
    · exact hd
    · exact h'.dat e he
  · rcases List.mem_cons.1 he with rfl | he
    · rcases hf g heg with h1 | ⟨f, hf1, hf2⟩
      · have := ((h.mu i m hm).lt hmg).2; omega
      · exact h.sep f (hD f hf1) i m hm g hmg hf2
    · exact h.sep e he i m hm g hmg heg
  · rcases List.mem_cons.1 he with rfl | he
    · exact hf.trans h.bel.size fun f hf1 => h.src f (hD f hf1)
    · exact h.src e he
/-- data that is a part of other data -/
theorem St.part (h : St w0 D0 w M D) (d : Da) (hd : d.ok w) (hf : ∀ g, d.bl g → ∃ e ∈ D, e.bl g) : St w0 D0 w M (d :: D) :=
  h.add (Bel.refl w) d hd D (fun g hg => .inr (hf g hg)) fun e he => he
/-- fewer blocks, less data -/
theorem St.less (h : St w0 D0 w M D) {M' : List Mu} {D' : List Da} (hM : ∃ f : Nat → Nat, (∀ i j, f i = f j → i = j) ∧ ∀ i m, M'[i]? = some m → M[f i]? = some m) (hD : ∀ d ∈ D', d ∈ D) : St w0 D0 w M' D' := by
  obtain ⟨f, hf, hM⟩ := hM
  exact ⟨h.bel, fun i m hm => h.mu (f i) m (hM i m hm), fun i j a b hij ha hb => h.apart (f i) (f j) a b (fun e => hij (hf i j e)) (hM i a ha) (hM j b hb), fun d hd => h.dat d (hD d hd),
    fun d hd i m hm => h.sep d (hD d hd) (f i) m (hM i m hm), fun d hd => h.src d (hD d hd)⟩
theorem St.lessD (h : St w0 D0 w M D) {D' : List Da} (hD : ∀ d ∈ D', d ∈ D) : St w0 D0 w M D' := h.less ⟨id, fun _ _ e => e, fun _ _ h => h⟩ hD
/-- the block at place i is let go -/
theorem St.drop (h : St w0 D0 w M D) (i : Nat) : St w0 D0 w (M.eraseIdx i) D :=
  h.less ⟨fun j => if j < i then j else j + 1, fun a b e => by dsimp only at e; split at e <;> split at e <;> omega, fun j m hm => by
    rw [List.getElem?_eraseIdx] at hm
    dsimp only
    split
    · rename_i hj; rwa [if_pos hj] at hm
    · rename_i hj; rwa [if_neg hj] at hm⟩ fun d hd => hd
/-- a row that is appended to no more is data -/
theorem St.freeze (h : St w0 D0 w M D) (i : Nat) {v : Value} {e : TypeId} {sz n : Nat} {xs : List Value} (hi : M[i]? = some (.own v e sz n xs)) :
    ∃ A c, v = .slice A n c ∧ St w0 D0 w (M.eraseIdx i) (rowD sz A n c xs :: D) := by
  have hown : w.ownsRow w0.heap.size e sz v n xs := h.mu i _ hi
  obtain ⟨A, c, rfl, hr, hge⟩ := Rd.of_own' hown
  refine ⟨A, c, rfl, ?_⟩
  have hbl : ∀ g, (rowD sz A n c xs).bl g → (Mu.own (.slice A n c) e sz n xs).bl = some g := by
    rintro g ⟨_, o, s, rfl⟩; rfl
  have h' := h.drop i
  have hbl2 : ∀ d ∈ rowD sz A n c xs :: D, ∀ (j : Nat) (m : Mu), (M.eraseIdx i)[j]? = some m → ∀ g, m.bl = some g → ¬ d.bl g := by
    intro d hd j m hm g hmg hdg
    rcases List.mem_cons.1 hd with rfl | hd
    · rw [List.getElem?_eraseIdx] at hm
      split at hm
      · exact h.apart j i m _ (by omega) hm hi g hmg (hbl g hdg)
      · exact h.apart (j + 1) i m _ (by omega) hm hi g hmg (hbl g hdg)
    · exact h'.sep d hd j m hm g hmg hdg
  refine ⟨h.bel, h'.mu, h'.apart, fun d hd => ?_, hbl2, fun d hd => ?_⟩
  · rcases List.mem_cons.1 hd with rfl | hd
    · exact hr
    · exact h.dat d hd
  · rcases List.mem_cons.1 hd with rfl | hd
    · exact From.new fun g hg => ((h.mu i _ hi).lt (hbl g hg)).1
    · exact h.src d hd
/-- so is a block that is written no more -/
theorem St.freezeB (h : St w0 D0 w M D) (i : Nat) {g : Nat} {t : TypeId} {cs : List Value} (hi : M[i]? = some (.blk g t cs)) (sz n c : Nat) (hl : cs.length = n * sz) (hc : n ≤ c) (hm : c ≤ maxLen) :
    St w0 D0 w (M.eraseIdx i) (rowD sz (some ⟨g, 0, none⟩) n c cs :: D) := by
  have hk := (h.mu i _ hi)
  have hr : Rd w w.heap.size sz (some ⟨g, 0, none⟩) n c cs := by
    have := hk.1.rd (sz := sz) (n := n) (c := c) (o := 0) (by omega) hc hm
    rwa [List.drop_zero, List.take_of_length_le (by omega)] at this
  have hbl : ∀ g', (rowD sz (some ⟨g, 0, none⟩) n c cs).bl g' → g' = g := by
    rintro g' ⟨_, o, s, e⟩; injection e with e; injection e with e; exact e.symm
  have h' := h.drop i
  refine ⟨h.bel, h'.mu, h'.apart, fun d hd => ?_, fun d hd j m hm' g' hmg hdg => ?_, fun d hd => ?_⟩
  · rcases List.mem_cons.1 hd with rfl | hd
    · exact hr
    · exact h.dat d hd
  · rcases List.mem_cons.1 hd with rfl | hd
    · obtain rfl := hbl g' hdg
      rw [List.getElem?_eraseIdx] at hm'
      split at hm'
      · exact h.apart j i m _ (by omega) hm' hi g' hmg rfl
      · exact h.apart (j + 1) i m _ (by omega) hm' hi g' hmg rfl
    · exact h'.sep d hd j m hm' g' hmg hdg
  · rcases List.mem_cons.1 hd with rfl | hd
    · exact From.new fun g' hg => by obtain rfl := hbl g' hg; exact hk.2
    · exact h.src d hd
theorem St.bk (h : St w0 D0 w M D) {g : Nat} {t : TypeId} {cs : List Value} (hm : Mu.blk g t cs ∈ M) : Bk w g t cs := by
  obtain ⟨i, hi, e⟩ := List.mem_iff_getElem.1 hm
  have h1 : (Mu.blk g t cs).ok w0.heap.size w := h.mu i _ (by rw [List.getElem?_eq_getElem hi, e])
  exact h1.1
theorem St.bkAt (h : St w0 D0 w M D) {i g : Nat} {t : TypeId} {cs : List Value} (hm : M[i]? = some (.blk g t cs)) : Bk w g t cs := (h.mu i _ hm).1
theorem St.ownAt (h : St w0 D0 w M D) {i : Nat} {v : Value} {e : TypeId} {sz n : Nat} {xs : List Value} (hm : M[i]? = some (.own v e sz n xs)) : w.ownsRow w0.heap.size e sz v n xs := h.mu i _ hm
theorem St.ownOne (h : St w0 D0 w M D) {i : Nat} {v : Value} {e : TypeId} {sz n : Nat} {xs : List Value} (hm : M[i]? = some (.own v e sz n xs)) : v.oneCell' = true := by
  rcases (h.ownAt hm).2 with ⟨rfl, _⟩ | ⟨g, cap, cur, rfl, _⟩ <;> rfl
theorem own_base {B B' : Nat} {v : Value} {e : TypeId} {sz n : Nat} {xs : List Value} (h : w.ownsRow B e sz v n xs) (hB : B' ≤ B) : w.ownsRow B' e sz v n xs := by
  refine ⟨h.1, ?_⟩
  rcases h.2 with h' | ⟨g, cap, cur, h1, h2, h3⟩
  · exact .inl h'
  · exact .inr ⟨g, cap, cur, h1, Nat.le_trans hB h2, h3⟩
/-- a row that a call hands over, nobody else having it -/
theorem St.pushOwn (h : St w0 D0 w M D) (hb : Bel w w') {v : Value} {e : TypeId} {sz n : Nat} {xs : List Value} (ho : w'.ownsRow w.heap.size e sz v n xs) : St w0 D0 w' (.own v e sz n xs :: M) D :=
  h.push _ (grown_of_bel hb none) (own_base ho h.bel.size) fun g hg => (World.ownsRow.lt ho g hg).1
theorem St.ownSome (h : St w0 D0 w M D) {i : Nat} {v : Value} {e : TypeId} {sz n : Nat} {xs : List Value} (hm : M[i]? = some (.own v e sz n xs)) (hn : 0 < n) : ∃ g cap, v = .slice (some ⟨g, 0, none⟩) n cap ∧ n ≤ cap ∧ cap ≤ maxLen := by
  rcases (h.ownAt hm).2 with ⟨_, rfl⟩ | ⟨g, cap, cur, rfl, _, _, h1, h2, _⟩
  · omega
  · exact ⟨g, cap, rfl, h1, h2⟩
theorem St.ownCell (h : St w0 D0 w M D) {i g n c : Nat} {e : TypeId} {sz : Nat} {xs : List Value} (hm : M[i]? = some (.own (.slice (some ⟨g, 0, none⟩) n c) e sz n xs)) (j : Nat) (u : Value) (hu : xs[j]? = some u) : w.cell? ⟨g, j, none⟩ = some u := by
  have := World.ownsRow.cells (h.ownAt hm) (g := g) rfl j u hu
  rwa [addr_add, Nat.zero_add] at this
theorem St.ownSet (h : St w0 D0 w M D) {i g n c : Nat} {e : TypeId} {sz : Nat} {xs : List Value} (hm : M[i]? = some (.own (.slice (some ⟨g, 0, none⟩) n c) e sz n xs)) (j : Nat) (u : Value) (hj : j < xs.length) :
    w.frozen? ⟨g, j, none⟩ = false ∧ St w0 D0 (w.setCell ⟨g, j, none⟩ u) (M.set i (.own (.slice (some ⟨g, 0, none⟩) n c) e sz n (xs.set j u))) D := by
  have ho := h.ownAt hm
  rcases ho.2 with ⟨h', _⟩ | ⟨g', cap, cur, h', hb, hg, hnc, hcm, hcs, htake⟩
  · simp at h'
  · simp only [Value.slice.injEq, Option.some.injEq, Addr.mk.injEq, and_true, true_and] at h'
    obtain ⟨rfl, rfl⟩ := h'
    refine ⟨by simp [World.frozen?, hg], h.upd i _ _ hm ⟨rfl, rfl, rfl, by simp [World.setCell], fun k hk hne => Below.heap_setCell w _ u k (fun e => hne (by rw [e]; rfl))⟩ ?_ fun g' hg' => .inl hg'⟩
    refine ⟨by rw [List.length_set]; exact ho.1, .inr ⟨g, c, cur.setIfInBounds j u, rfl, hb, by simp [World.setCell, Array.getElem?_modify, hg], hnc, hcm, by simpa using hcs, ?_⟩⟩
    rw [Array.toList_setIfInBounds, List.take_set, htake]
theorem St.rd (h : St w0 D0 w M D) {sz n c : Nat} {A : Option Addr} {xs : List Value} (hd : rowD sz A n c xs ∈ D) : Rd w w.heap.size sz A n c xs := h.dat _ hd
end

theorem at0 {α : Type} {m : α} {M : List α} : (m :: M)[0]? = some m := rfl
theorem at1 {α : Type} {a m : α} {M : List α} : (a :: m :: M)[1]? = some m := rfl
theorem at2 {α : Type} {a b m : α} {M : List α} : (a :: b :: m :: M)[2]? = some m := rfl
theorem at3 {α : Type} {a b c m : α} {M : List α} : (a :: b :: c :: m :: M)[3]? = some m := rfl
theorem at4 {α : Type} {a b c d m : α} {M : List α} : (a :: b :: c :: d :: m :: M)[4]? = some m := rfl
theorem at5 {α : Type} {a b c d e m : α} {M : List α} : (a :: b :: c :: d :: e :: m :: M)[5]? = some m := rfl
theorem at6 {α : Type} {a b c d e f m : α} {M : List α} : (a :: b :: c :: d :: e :: f :: m :: M)[6]? = some m := rfl
theorem at7 {α : Type} {a b c d e f g m : α} {M : List α} : (a :: b :: c :: d :: e :: f :: g :: m :: M)[7]? = some m := rfl

theorem take_one {xs : List Value} (h : ∀ u ∈ xs, u.oneCell' = true) (k : Nat) : ∀ u ∈ xs.take k, u.oneCell' = true := fun u hu => h u (List.mem_of_mem_take hu)
theorem drop_one {xs : List Value} (h : ∀ u ∈ xs, u.oneCell' = true) (k : Nat) : ∀ u ∈ xs.drop k, u.oneCell' = true := fun u hu => h u (List.mem_of_mem_drop hu)
theorem sub_nil {D : List Da} : ∀ d ∈ ([] : List Da), d ∈ D := fun _ h => by cases h
theorem sub_cons {d : Da} {l D : List Da} (h : d ∈ D) (t : ∀ e ∈ l, e ∈ D) : ∀ e ∈ d :: l, e ∈ D := fun e he => by
  rcases List.mem_cons.1 he with rfl | he
  · exact h
  · exact t e he
theorem one_nil : ∀ u ∈ ([] : List Value), u.oneCell' = true := fun _ h => by cases h
theorem one_cons {v : Value} {l : List Value} (h : v.oneCell' = true) (t : ∀ u ∈ l, u.oneCell' = true) : ∀ u ∈ v :: l, u.oneCell' = true := fun u hu => by
  rcases List.mem_cons.1 hu with rfl | hu
  · exact h
  · exact t u hu
/-- an element's place -/
def ept (A : Option Addr) (j : Nat) : Value := .pointer (A.map fun a => a.add j)
theorem ept_add (A : Option Addr) (i j : Nat) : ept A (i + j) = .pointer ((A.map fun a => a.add i).map fun a => a.add j) := by
  cases A with
  | none => rfl
  | some a =>
    obtain ⟨g, o, s⟩ := a
    simp only [ept, Option.map_some, Addr.add]
    by_cases hi : i = 0 <;> by_cases hj : j = 0 <;> simp [hi, hj, Nat.add_assoc]
end Go.Proofs.Ytcahadkkjfijfaa
