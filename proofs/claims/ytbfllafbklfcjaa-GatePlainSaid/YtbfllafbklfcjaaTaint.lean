/- The taint package: kinds of instructions, which entries are safe, the front, what is visible; the statements' own 'few' and 'alive'. -/
import Derived.Test.YtbfllafbklfcjaaEntry
import Derived.Test.YtbfllafbklfcjaaKind
import Derived.Outline
set_option linter.unusedVariables false
set_option linter.unusedSimpArgs false
set_option maxRecDepth 100000
namespace Go.Proofs.Ytbfllafbklfcjaa
open Go.RowKit

/-- nothing can come of an entry that would undo those behind it -/
def safeB (e : En) : Bool := if e.halt = 0 then (if kindI e.inst.op = 6 then false else if kindI e.inst.op = 3 ∨ kindI e.inst.op = 4 ∨ kindI e.inst.op = 5 then e.known else true) else false
theorem kind_seven (op : Int) : kindI op = 0 ∨ kindI op = 1 ∨ kindI op = 2 ∨ kindI op = 3 ∨ kindI op = 4 ∨ kindI op = 5 ∨ kindI op = 6 := by
  unfold kindI; repeat' split
  all_goals simp
set_option maxHeartbeats 1000000 in
theorem Safe_any (e : En) (w : World) (hi : -9223372036854775808 ≤ e.inst.op ∧ e.inst.op ≤ 9223372036854775807) :
    Calls Try.prog 11 #[e.val] w fun x w' => x = .returned (.bool (safeB e)) ∧ Bel w w' := by
  obtain ⟨b, hb⟩ : ∃ b, safeB e = b := ⟨_, rfl⟩
  rw [hb]
  have HK := Lib.hid (fun W => Kind_any e.inst W hi)
  unfold Ins.val at HK
  unfold safeB at hb
  by_cases h0 : e.halt = 0
  · rw [if_pos h0] at hb
    have b0 : (e.halt != 0) = false := by simp [h0]
    unfold En.val
    rcases kind_seven e.inst.op with hk | hk | hk | hk | hk | hk | hk
    all_goals
      rw [hk] at HK hb
      clear hk h0
      simp at hb
      subst hb
      go_enter Try.func11, Try.ntmps11
      go_wp2_with (go_at_call 16; refine (HK.out _).mono ?_; rintro x w1 ⟨rfl, hb1⟩; obtain ⟨hc1, hf1⟩ := bcell hb1)
      go_ret
      exact ⟨rfl, (Bel.alloc _ _).trans hb1⟩
  · rw [if_neg h0] at hb
    have b0 : (e.halt != 0) = true := by simpa using h0
    clear h0
    subst hb
    unfold En.val
    go_enter Try.func11, Try.ntmps11
    go_wp2
    go_ret
    exact ⟨rfl, Bel.alloc _ _⟩

/-- how many are safe at the head -/
def frontL : List En → Nat
  | [] => 0
  | e :: r => if safeB e then frontL r + 1 else 0
theorem frontL_le (l : List En) : frontL l ≤ l.length := by
  induction l with
  | nil => simp [frontL]
  | cons e r ih => unfold frontL; split <;> simp <;> omega
theorem frontL_stop {l : List En} {k : Nat} (hk : k < l.length) (h : ∀ j (hj : j < l.length), j < k → safeB l[j] = true) (hn : safeB l[k] = false) : frontL l = k := by
  induction l generalizing k with
  | nil => simp at hk
  | cons e r ih =>
    cases k with
    | zero => unfold frontL; simp at hn; simp [hn]
    | succ k =>
      have h0 := h 0 (by simp) (by omega)
      simp at h0
      unfold frontL
      rw [if_pos h0, ih (by simpa using hk) (fun j hj hjk => by have := h (j + 1) (by simpa using hj) (by omega); simpa using this) (by simpa using hn)]
theorem frontL_all {l : List En} (h : ∀ j (hj : j < l.length), safeB l[j] = true) : frontL l = l.length := by
  induction l with
  | nil => rfl
  | cons e r ih =>
    have h0 := h 0 (by simp)
    simp at h0
    unfold frontL
    rw [if_pos h0, ih (fun j hj => by have := h (j + 1) (by simpa using hj); simpa using this)]
    simp
theorem frontL_safe {l : List En} {j : Nat} (hj : j < frontL l) : ∃ h : j < l.length, safeB l[j] = true := by
  induction l generalizing j with
  | nil => simp [frontL] at hj
  | cons e r ih =>
    unfold frontL at hj
    split at hj
    · cases j with
      | zero => exact ⟨by simp, by simpa⟩
      | succ j =>
        obtain ⟨h1, h2⟩ := ih (j := j) (by omega)
        exact ⟨by simpa using h1, by simpa using h2⟩
    · omega
theorem frontL_unsafe {l : List En} (h : frontL l < l.length) : safeB (l[frontL l]'h) = false := by
  induction l with
  | nil => simp at h
  | cons e r ih =>
    by_cases he : safeB e = true
    · have e1 : frontL (e :: r) = frontL r + 1 := by conv => lhs; unfold frontL; rw [if_pos he]
      have h2 : frontL r < r.length := by rw [e1] at h; simpa using h
      have := ih h2
      simp only [e1, List.getElem_cons_succ]
      exact this
    · have e1 : frontL (e :: r) = 0 := by conv => lhs; unfold frontL; rw [if_neg he]
      simp only [e1, List.getElem_cons_zero]
      simpa using he

def opOk (q : List En) : Prop := ∀ e ∈ q, -9223372036854775808 ≤ e.inst.op ∧ e.inst.op ≤ 9223372036854775807
set_option maxHeartbeats 1000000 in
theorem Front_any (A : Option Addr) (n c : Nat) (q : List En) (w : World) (hr : Rd w w.heap.size 17 A n c (ens q)) (hq : opOk q) :
    Calls Try.prog 10 #[.slice A n c] w fun e w' => e = .returned (.int .i64 (frontL q : Int)) ∧ Bel w w' := by
  have hc1 := hr.le
  have hc2 := hr.mx
  unfold maxLen at hc2
  have Hn := Lib.hid hr.enslen
  have Hq := Lib.hid hq
  clear hq
  go_enter Try.func10, Try.ntmps10
  go_wp2
  go_loopw [7] (fun i wr => ∃ k : Nat, k ≤ n ∧ i = .int .i64 (k : Int) ∧ (∀ j (hj : j < q.length), j < k → safeB q[j] = true) ∧ Bel w wr) (fun i _ => n - (intOf i).toNat)
  case atStart => exact ⟨0, by omega, rfl, fun j hj h => absurd h (by omega), Bel.refl w⟩
  case round =>
    obtain ⟨k, hk, rfl, hall, hbel⟩ := hrel
    have Hall := Lib.hid hall
    clear hall
    by_cases hkn : k < n
    · obtain ⟨hl, g, o, rfl, hg, hce⟩ := (hr.bel hbel).enselem hkn
      replace hce := Lib.hid hce
      have HS := Lib.hid (fun W => Safe_any (q[k]'hl) W (Hq.out _ (List.getElem_mem hl)))
      obtain ⟨e, he⟩ : ∃ e, q[k]'hl = e := ⟨_, rfl⟩
      cases hs : safeB (q[k]'hl)
      · have Hf := Lib.hid (frontL_stop hl Hall.out hs)
        rw [hs] at HS
        clear hs
        rw [he] at HS hce
        clear he
        go_wp2_with (first | (refine wpList_load_elem rfl 30 (.tmp 10) (by rfl) g (o + k * 17) (by rfl) e.cells e.val rfl hce.out ensTy ?_) | (refine wpList_store_bk rfl 30 (.tmp 4) (.tmp 11) (by rfl) wr.heap.size e.cells (by rfl) (by rfl) 30 ensZ ?_ rfl ensTy e.one ?_; exact Bk.new wr _ ensZ; intro w1 hk1 hs1 ho1 hbe1; replace ho1 := Lib.hid ho1; replace hbe1 := hbe1) | (refine wpList_load_bk rfl 30 (.tmp 4) (by rfl) wr.heap.size (by rfl) 30 e.cells e.val rfl hk1 ensTy ?_) | (go_at_call 11; refine (HS.out _).mono ?_; rintro x w2 ⟨rfl, hb2⟩))
        go_ret
        exact ⟨val_i64 (by rw [Hf.out]), hbel.trans ((hbe1 _ (Bel.alloc _ _) (Nat.le_refl _)).trans hb2)⟩
      · have Hs := Lib.hid hs
        rw [hs] at HS
        clear hs
        rw [he] at HS hce
        clear he
        go_wp2_with (first | (refine wpList_load_elem rfl 30 (.tmp 10) (by rfl) g (o + k * 17) (by rfl) e.cells e.val rfl hce.out ensTy ?_) | (refine wpList_store_bk rfl 30 (.tmp 4) (.tmp 11) (by rfl) wr.heap.size e.cells (by rfl) (by rfl) 30 ensZ ?_ rfl ensTy e.one ?_; exact Bk.new wr _ ensZ; intro w1 hk1 hs1 ho1 hbe1; replace ho1 := Lib.hid ho1; replace hbe1 := hbe1) | (refine wpList_load_bk rfl 30 (.tmp 4) (by rfl) wr.heap.size (by rfl) 30 e.cells e.val rfl hk1 ensTy ?_) | (go_at_call 11; refine (HS.out _).mono ?_; rintro x w2 ⟨rfl, hb2⟩))
        go_roundw
        case rel =>
          refine ⟨k + 1, by omega, by go_num, fun j hj h => ?_, hbel.trans ((hbe1 _ (Bel.alloc _ _) (Nat.le_refl _)).trans hb2)⟩
          rcases Nat.lt_or_ge j k with h' | h'
          · exact Hall.out j hj h'
          · obtain rfl : j = k := by omega
            exact Hs.out
        case measure => first | (simp [intOf]; done) | (simp [intOf]; omega)
    · obtain rfl : k = n := by omega
      have Hf := Lib.hid (frontL_all fun j hj => Hall.out j hj (by have := Hn.out; omega))
      go_wp2
      go_ret
      exact ⟨val_i64 (by rw [Hf.out, Hn.out]), hbel⟩

end Go.Proofs.Ytbfllafbklfcjaa
