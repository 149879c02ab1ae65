/- The statement BusKeeps: the walk. -/
import Derived.Test.YthjmkmfpabphgaaBusLaws
set_option linter.unusedVariables false
set_option linter.unusedSimpArgs false
namespace Go.Proofs.Ythjmkmfpabphgaa
open Go.RowKit

/-- the slice without its first element -/
theorem Rd.tail1 {w : World} {B m : Nat} {A : Option Addr} {r : Rq} {rest : List Rq} (h : Rd w B 4 A (m + 1) 1 (rqs (r :: rest))) : rest = [] ∧ m = 0 := by
  have hl := h.len
  have hc := h.le
  rw [rqs_len, List.length_cons] at hl
  exact ⟨List.eq_nil_of_length_eq_zero (by omega), by omega⟩
theorem Rd.tail {w : World} {B m c g o : Nat} {r : Rq} {rest : List Rq} (h : Rd w B 4 (some ⟨g, o, none⟩) (m + 1) c (rqs (r :: rest))) : Rd w B 4 (some ⟨g, o + 4, none⟩) m (c - 1) (rqs rest) := by
  have hl := h.len
  have hc := h.le
  have hm := h.mx
  rw [rqs_len, List.length_cons] at hl
  obtain ⟨g', o', e, hb, hat⟩ := h.at_ (by omega)
  injection e with e
  obtain ⟨rfl, rfl⟩ : g = g' ∧ o = o' := by injection e; exact ⟨by assumption, by assumption⟩
  refine ⟨by rw [rqs_len]; omega, by omega, by omega, fun _ => ⟨g, o + 4, rfl, hb, fun j u hu => ?_⟩⟩
  have e2 : (rqs (r :: rest))[4 + j]? = some u := by
    have : rqs (r :: rest) = r.cells ++ rqs rest := rfl
    rw [this, List.getElem?_append_right (by show 4 ≤ 4 + j; omega), show 4 + j - r.cells.length = j by show 4 + j - 4 = j; omega]
    exact hu
  rw [Nat.add_assoc]
  exact hat (4 + j) u e2

attribute [go_sem] Rq.val zrq
set_option maxHeartbeats 12000000 in
theorem BusKeeps_true (A : Option Addr) (n c : Nat) (q : List Rq) (kind : Int) (line : Nat) (left : Int) (w : World) (hq : Rd w w.heap.size 4 A n c (rqs q)) (hk : -9223372036854775808 ≤ kind ∧ kind ≤ 9223372036854775807) (hl : line < 4294967296) (hf : -9223372036854775808 ≤ left ∧ left ≤ 9223372036854775807) :
    Calls Try.prog 5 #[.slice A n c, .int .i64 kind, .int .u32 (line : Int), .int .i64 left] w fun e w' => e = .returned (.bool true) ∧ Bel w w' := by
  have Hq := Lib.hid hq
  clear hq
  go_enter Try.func5, Try.ntmps5
  go_wp2_with (go_at_call 6; refine (few_any A n c q _ Hq.out).mono ?_; rintro e w1 ⟨n1, q1, rfl, hn1, hq1, hb1⟩; have HQ1 := Lib.hid (hq1.bel hb1); have Hb1 := Lib.hid hb1; clear hq1 hb1)
  have hM1 := HQ1.out.mx
  have hN1 := HQ1.out.le
  unfold maxLen at hM1
  have hlen := HQ1.out.len
  rw [rqs_len] at hlen
  obtain ⟨M, hM1', hM2'⟩ : ∃ M : Int, M = max left 1 ∧ 1 ≤ M := ⟨_, rfl, by omega⟩
  have HP := Lib.hid (Push_any A n1 c q1 kind line left ⟨#[]⟩ w1 HQ1.out (by omega) hf)
  rw [← hM1'] at HP
  clear hM1'
  go_wp2_with (first
    | (go_at_call 10; refine HP.out.mono ?_; rintro e w2 ⟨v, rfl, ⟨A2, c2, rfl, hr2⟩, hb2⟩; have hN2 := hr2.le; have hM2 := hr2.mx; have hc2 : n1 ≤ c2 := by omega))
  have ht := hr2.to (N := n1) (by omega)
  rw [rqs_take, List.take_left' (by omega)] at ht
  have HT2 := Lib.hid ht
  clear ht
  obtain ⟨hl2, g2, o2, rfl, hg2, e0, e1, e2, e3⟩ := hr2.rq (k := n1) (by omega)
  have hnew : (q1 ++ [(⟨kind, line, M, ⟨#[]⟩⟩ : Rq)])[n1]'hl2 = ⟨kind, line, M, ⟨#[]⟩⟩ := by simp [← show q1.length = n1 by omega]
  rw [hnew] at e0 e1 e2 e3
  have HR2 := Lib.hid hr2
  clear hr2 hl2 hnew e1 e3
  go_wp2_with (go_at_call 12; refine (Like_quiet _ _ n1 _ _ q1 _ HT2.out (HQ1.out.bel hb2)).mono ?_; rintro e w3 ⟨rfl, d3, rfl⟩)
  have hb3 := Bel.drewN w2 d3
  have HT3 := Lib.hid (HR2.out.bel hb3)
  have HQ3 := Lib.hid (HQ1.out.bel (hb2.trans hb3))
  have Hb3 := Lib.hid (Hb1.out.trans (hb2.trans hb3))
  clear HR2 HT2 HP hb2 hb3 e0 e2 HQ1 Hb1 Hq
  obtain ⟨x, hx, hx40⟩ : ∃ x, readsL q1 = x ∧ x ≤ 40 := ⟨_, rfl, by have := readsL_le q1; omega⟩
  obtain ⟨y, hy, hy1⟩ : ∃ y, readsL (q1 ++ [⟨kind, line, M, ⟨#[]⟩⟩]) = y ∧ y ≤ x + 1 := ⟨_, rfl, by rw [readsL_snoc, hx]; split <;> omega⟩
  have RP := Lib.hid (fun W (hw : Bel (w2.drewN d3) W) => Reads_any _ _ _ _ W (HT3.out.bel hw))
  have RQ := Lib.hid (fun W (hw : Bel (w2.drewN d3) W) => Reads_any _ _ _ _ W (HQ3.out.bel hw))
  rw [hy] at RP
  rw [hx] at RQ
  obtain ⟨N, hN, hNl, hNd, hNm⟩ : ∃ N : Nat, N = line - line % 16 ∧ N ≤ line ∧ line - N < 16 ∧ N - N % 16 = N := ⟨_, rfl, by omega, by omega, by omega⟩
  have HL := Lib.hid (fun W => LineOf_any line W hl)
  rw [← hN] at HL
  have HN := Lib.hid (fun W => LineOf_any N W (by omega))
  rw [hNm] at HN
  clear hx hy hN hNm
  cases q1 with
  | nil =>
    obtain rfl : n1 = 0 := by simp at hlen; omega
    go_wp2_with (go_at_call 11; refine (Tick_nil _ _ _).mono ?_; rintro e w4 ⟨rfl, hb4⟩)
    go_quiet (fail)
    go_wp2_with (first | (go_at_call 13; (with_reducible refine (HL.out _).mono ?_); rintro e w' ⟨rfl, d, rfl⟩) | (go_at_call 13; (with_reducible refine (HN.out _).mono ?_); rintro e w' ⟨rfl, d, rfl⟩; replace hbel := Lib.hid (hbel.out.trans (Bel.drewN _ d))) | (go_at_call 9; refine (alive_any _).mono ?_; rintro e wn ⟨rfl, hnew⟩; have hbel : Hid (Bel (w2.drewN d3) wn) := Lib.hid (Bel.trans (by exact (hb4.trans (Bel.alloc _ _)).trans (Bel.drewN _ _)) hnew); clear hnew) | (go_at_call 8; first | ((with_reducible refine (RP.out _ hbel.out).mono ?_); rintro e wn ⟨rfl, hnew⟩; replace hbel := Lib.hid (hbel.out.trans hnew); clear hnew) | ((with_reducible refine (RQ.out _ hbel.out).mono ?_); rintro e wn ⟨rfl, hnew⟩; replace hbel := Lib.hid (hbel.out.trans hnew); clear hnew)))
    go_ret
    exact ⟨val_t (decide_eq_true (by omega)), Hb3.out.trans hbel.out⟩
  | cons r rest =>
    obtain rfl : n1 = rest.length + 1 := by simp at hlen; omega
    obtain ⟨-, gA, oA, rfl, -, -, -, -, -⟩ := HQ3.out.rq (k := 0) (by omega)
    have hqt : c = 1 → Rd (w2.drewN d3) (w2.drewN d3).heap.size 4 (some ⟨gA, oA, none⟩) rest.length 0 (rqs rest) := by
      rintro rfl
      obtain ⟨rfl, -⟩ := HQ3.out.tail1
      exact Rd.nil (by unfold maxLen; omega)
    have hl0 : c = 1 → rest.length = 0 := by
      rintro rfl
      obtain ⟨rfl, -⟩ := HQ3.out.tail1
      rfl
    have hqu := HQ3.out.tail
    by_cases h0 : wrap64 (r.left - 1) > 0
    · by_cases hc1 : c = 1
      · have HQt := Lib.hid (hqt hc1)
        have Hl0 := Lib.hid (hl0 hc1)
        subst hc1
        clear hqt hqu hl0
        go_wp2_with (go_at_call 11; refine (Tick_some _ _ r rest _ HQ3.out (by omega) h0).mono ?_; rintro e w4 ⟨v4, rfl, ⟨A4, c4, rfl, hr4⟩, hb4⟩; have hN4 := hr4.le; have hM4 := hr4.mx)
        obtain ⟨-, g4, o4, rfl, -, -, -, -, -⟩ := hr4.rq (k := 0) (by omega)
        have htt : c4 = 1 → Rd w4 w4.heap.size 4 (some ⟨g4, o4, none⟩) rest.length 0 (rqs rest) := by
          rintro rfl
          obtain ⟨rfl, -⟩ := hr4.tail1
          exact Rd.nil (by unfold maxLen; omega)
        have hl4 : c4 = 1 → rest.length = 0 := by
          rintro rfl
          obtain ⟨rfl, -⟩ := hr4.tail1
          rfl
        have htu := hr4.tail
        by_cases hc4 : c4 = 1
        · have Hl1 := Lib.hid (hl4 hc4)
          have HK : Hid (∀ (nt nq : Nat), nt = rest.length → nq = rest.length → ∀ W, Bel w4 W → Calls Try.prog 12 #[.slice (some ⟨g4, o4, none⟩) nt 0, .slice (some ⟨gA, oA, none⟩) nq 0] W fun e w' => e = .returned (.bool true) ∧ ∃ d, w' = W.drewN d) := Lib.hid (by
            rintro nt nq rfl rfl W hw
            exact Like_quiet _ _ _ _ _ rest _ ((htt hc4).bel hw) (HQt.out.bel (hb4.trans hw)))
          subst hc4
          clear htt htu hl4
          (go_quiet ((go_at_call 12; first | (with_reducible exact quiet1 (HK.out _ _ (by first | rfl | exact Hl1.out.symm) (by first | rfl | exact Hl1.out.symm) _ ((Bel.alloc _ _).trans (Bel.drewN _ _)))) | (with_reducible exact quiet2 (HK.out _ _ (by first | rfl | exact Hl1.out.symm) (by first | rfl | exact Hl1.out.symm) _ ((Bel.alloc _ _).trans (Bel.drewN _ _)))))); go_wp2_with (first | (go_at_call 13; (with_reducible refine (HL.out _).mono ?_); rintro e w' ⟨rfl, d, rfl⟩) | (go_at_call 13; (with_reducible refine (HN.out _).mono ?_); rintro e w' ⟨rfl, d, rfl⟩; replace hbel := Lib.hid (hbel.out.trans (Bel.drewN _ d))) | (go_at_call 9; refine (alive_any _).mono ?_; rintro e wn ⟨rfl, hnew⟩; have hbel : Hid (Bel (w2.drewN d3) wn) := Lib.hid (Bel.trans (by exact (hb4.trans (Bel.alloc _ _)).trans (Bel.drewN _ _)) hnew); clear hnew) | (go_at_call 8; first | ((with_reducible refine (RP.out _ hbel.out).mono ?_); rintro e wn ⟨rfl, hnew⟩; replace hbel := Lib.hid (hbel.out.trans hnew); clear hnew) | ((with_reducible refine (RQ.out _ hbel.out).mono ?_); rintro e wn ⟨rfl, hnew⟩; replace hbel := Lib.hid (hbel.out.trans hnew); clear hnew))); go_ret; exact ⟨val_t (decide_eq_true (by omega)), Hb3.out.trans hbel.out⟩)
        · have Hl1 := Hl0
          have HK : Hid (∀ (nt nq : Nat), nt = rest.length → nq = rest.length → ∀ W, Bel w4 W → Calls Try.prog 12 #[.slice (some ⟨g4, o4 + 4, none⟩) nt (c4 - 1), .slice (some ⟨gA, oA, none⟩) nq 0] W fun e w' => e = .returned (.bool true) ∧ ∃ d, w' = W.drewN d) := Lib.hid (by
            rintro nt nq rfl rfl W hw
            exact Like_quiet _ _ _ _ _ rest _ (htu.bel hw) (HQt.out.bel (hb4.trans hw)))
          clear htt htu hl4
          (go_quiet ((go_at_call 12; first | (with_reducible exact quiet1 (HK.out _ _ (by first | rfl | exact Hl1.out.symm) (by first | rfl | exact Hl1.out.symm) _ ((Bel.alloc _ _).trans (Bel.drewN _ _)))) | (with_reducible exact quiet2 (HK.out _ _ (by first | rfl | exact Hl1.out.symm) (by first | rfl | exact Hl1.out.symm) _ ((Bel.alloc _ _).trans (Bel.drewN _ _)))))); go_wp2_with (first | (go_at_call 13; (with_reducible refine (HL.out _).mono ?_); rintro e w' ⟨rfl, d, rfl⟩) | (go_at_call 13; (with_reducible refine (HN.out _).mono ?_); rintro e w' ⟨rfl, d, rfl⟩; replace hbel := Lib.hid (hbel.out.trans (Bel.drewN _ d))) | (go_at_call 9; refine (alive_any _).mono ?_; rintro e wn ⟨rfl, hnew⟩; have hbel : Hid (Bel (w2.drewN d3) wn) := Lib.hid (Bel.trans (by exact (hb4.trans (Bel.alloc _ _)).trans (Bel.drewN _ _)) hnew); clear hnew) | (go_at_call 8; first | ((with_reducible refine (RP.out _ hbel.out).mono ?_); rintro e wn ⟨rfl, hnew⟩; replace hbel := Lib.hid (hbel.out.trans hnew); clear hnew) | ((with_reducible refine (RQ.out _ hbel.out).mono ?_); rintro e wn ⟨rfl, hnew⟩; replace hbel := Lib.hid (hbel.out.trans hnew); clear hnew))); go_ret; exact ⟨val_t (decide_eq_true (by omega)), Hb3.out.trans hbel.out⟩)
      · have HQt := Lib.hid hqu
        clear hqt hqu hl0
        go_wp2_with (go_at_call 11; refine (Tick_some _ _ r rest _ HQ3.out (by omega) h0).mono ?_; rintro e w4 ⟨v4, rfl, ⟨A4, c4, rfl, hr4⟩, hb4⟩; have hN4 := hr4.le; have hM4 := hr4.mx)
        obtain ⟨-, g4, o4, rfl, -, -, -, -, -⟩ := hr4.rq (k := 0) (by omega)
        have htt : c4 = 1 → Rd w4 w4.heap.size 4 (some ⟨g4, o4, none⟩) rest.length 0 (rqs rest) := by
          rintro rfl
          obtain ⟨rfl, -⟩ := hr4.tail1
          exact Rd.nil (by unfold maxLen; omega)
        have hl4 : c4 = 1 → rest.length = 0 := by
          rintro rfl
          obtain ⟨rfl, -⟩ := hr4.tail1
          rfl
        have htu := hr4.tail
        by_cases hc4 : c4 = 1
        · have Hl1 := Lib.hid (hl4 hc4)
          have HK : Hid (∀ (nt nq : Nat), nt = rest.length → nq = rest.length → ∀ W, Bel w4 W → Calls Try.prog 12 #[.slice (some ⟨g4, o4, none⟩) nt 0, .slice (some ⟨gA, oA + 4, none⟩) nq (c - 1)] W fun e w' => e = .returned (.bool true) ∧ ∃ d, w' = W.drewN d) := Lib.hid (by
            rintro nt nq rfl rfl W hw
            exact Like_quiet _ _ _ _ _ rest _ ((htt hc4).bel hw) (HQt.out.bel (hb4.trans hw)))
          subst hc4
          clear htt htu hl4
          (go_quiet ((go_at_call 12; first | (with_reducible exact quiet1 (HK.out _ _ (by first | rfl | exact Hl1.out.symm) (by first | rfl | exact Hl1.out.symm) _ ((Bel.alloc _ _).trans (Bel.drewN _ _)))) | (with_reducible exact quiet2 (HK.out _ _ (by first | rfl | exact Hl1.out.symm) (by first | rfl | exact Hl1.out.symm) _ ((Bel.alloc _ _).trans (Bel.drewN _ _)))))); go_wp2_with (first | (go_at_call 13; (with_reducible refine (HL.out _).mono ?_); rintro e w' ⟨rfl, d, rfl⟩) | (go_at_call 13; (with_reducible refine (HN.out _).mono ?_); rintro e w' ⟨rfl, d, rfl⟩; replace hbel := Lib.hid (hbel.out.trans (Bel.drewN _ d))) | (go_at_call 9; refine (alive_any _).mono ?_; rintro e wn ⟨rfl, hnew⟩; have hbel : Hid (Bel (w2.drewN d3) wn) := Lib.hid (Bel.trans (by exact (hb4.trans (Bel.alloc _ _)).trans (Bel.drewN _ _)) hnew); clear hnew) | (go_at_call 8; first | ((with_reducible refine (RP.out _ hbel.out).mono ?_); rintro e wn ⟨rfl, hnew⟩; replace hbel := Lib.hid (hbel.out.trans hnew); clear hnew) | ((with_reducible refine (RQ.out _ hbel.out).mono ?_); rintro e wn ⟨rfl, hnew⟩; replace hbel := Lib.hid (hbel.out.trans hnew); clear hnew))); go_ret; exact ⟨val_t (decide_eq_true (by omega)), Hb3.out.trans hbel.out⟩)
        · have Hl1 : Hid True := Lib.hid trivial
          have HK : Hid (∀ (nt nq : Nat), nt = rest.length → nq = rest.length → ∀ W, Bel w4 W → Calls Try.prog 12 #[.slice (some ⟨g4, o4 + 4, none⟩) nt (c4 - 1), .slice (some ⟨gA, oA + 4, none⟩) nq (c - 1)] W fun e w' => e = .returned (.bool true) ∧ ∃ d, w' = W.drewN d) := Lib.hid (by
            rintro nt nq rfl rfl W hw
            exact Like_quiet _ _ _ _ _ rest _ (htu.bel hw) (HQt.out.bel (hb4.trans hw)))
          clear htt htu hl4
          (go_quiet ((go_at_call 12; first | (with_reducible exact quiet1 (HK.out _ _ (by first | rfl | exact Hl1.out.symm) (by first | rfl | exact Hl1.out.symm) _ ((Bel.alloc _ _).trans (Bel.drewN _ _)))) | (with_reducible exact quiet2 (HK.out _ _ (by first | rfl | exact Hl1.out.symm) (by first | rfl | exact Hl1.out.symm) _ ((Bel.alloc _ _).trans (Bel.drewN _ _)))))); go_wp2_with (first | (go_at_call 13; (with_reducible refine (HL.out _).mono ?_); rintro e w' ⟨rfl, d, rfl⟩) | (go_at_call 13; (with_reducible refine (HN.out _).mono ?_); rintro e w' ⟨rfl, d, rfl⟩; replace hbel := Lib.hid (hbel.out.trans (Bel.drewN _ d))) | (go_at_call 9; refine (alive_any _).mono ?_; rintro e wn ⟨rfl, hnew⟩; have hbel : Hid (Bel (w2.drewN d3) wn) := Lib.hid (Bel.trans (by exact (hb4.trans (Bel.alloc _ _)).trans (Bel.drewN _ _)) hnew); clear hnew) | (go_at_call 8; first | ((with_reducible refine (RP.out _ hbel.out).mono ?_); rintro e wn ⟨rfl, hnew⟩; replace hbel := Lib.hid (hbel.out.trans hnew); clear hnew) | ((with_reducible refine (RQ.out _ hbel.out).mono ?_); rintro e wn ⟨rfl, hnew⟩; replace hbel := Lib.hid (hbel.out.trans hnew); clear hnew))); go_ret; exact ⟨val_t (decide_eq_true (by omega)), Hb3.out.trans hbel.out⟩)
    · by_cases hc1 : c = 1
      · have HQt := Lib.hid (hqt hc1)
        have Hl0 := Lib.hid (hl0 hc1)
        subst hc1
        clear hqt hqu hl0
        go_wp2_with (go_at_call 11; refine (Tick_done _ _ r rest _ HQ3.out (by omega) h0).mono ?_; rintro e w4 ⟨v4, rfl, ⟨A4, c4, rfl, hr4⟩, hb4⟩; have hN4 := hr4.le; have hM4 := hr4.mx)
        have HK : Hid (∀ W, Bel w4 W → Calls Try.prog 12 #[.slice A4 rest.length c4, .slice (some ⟨gA, oA, none⟩) 0 0] W fun e w' => e = .returned (.bool true) ∧ ∃ d, w' = W.drewN d) := Lib.hid (fun W hw => by
          have h := Like_quiet _ _ _ _ _ rest _ (hr4.bel hw) (HQt.out.bel (hb4.trans hw))
          rwa [show Value.slice (some ⟨gA, oA, none⟩) rest.length 0 = .slice (some ⟨gA, oA, none⟩) 0 0 by rw [Hl0.out]] at h)
        go_wp2_with (go_at_call 12; (with_reducible refine (HK.out _ (Bel.alloc _ _)).mono ?_); rintro e w5 ⟨rfl, d5, rfl⟩)
        go_quiet (fail)
        go_wp2_with (first | (go_at_call 13; (with_reducible refine (HL.out _).mono ?_); rintro e w' ⟨rfl, d, rfl⟩) | (go_at_call 13; (with_reducible refine (HN.out _).mono ?_); rintro e w' ⟨rfl, d, rfl⟩; replace hbel := Lib.hid (hbel.out.trans (Bel.drewN _ d))) | (go_at_call 9; refine (alive_any _).mono ?_; rintro e wn ⟨rfl, hnew⟩; have hbel : Hid (Bel (w2.drewN d3) wn) := Lib.hid (Bel.trans (by exact (hb4.trans (Bel.alloc _ _)).trans (Bel.drewN _ _)) hnew); clear hnew) | (go_at_call 8; first | ((with_reducible refine (RP.out _ hbel.out).mono ?_); rintro e wn ⟨rfl, hnew⟩; replace hbel := Lib.hid (hbel.out.trans hnew); clear hnew) | ((with_reducible refine (RQ.out _ hbel.out).mono ?_); rintro e wn ⟨rfl, hnew⟩; replace hbel := Lib.hid (hbel.out.trans hnew); clear hnew)))
        go_ret
        exact ⟨val_t (decide_eq_true (by omega)), Hb3.out.trans hbel.out⟩
      · have HQt := Lib.hid hqu
        clear hqt hqu hl0
        go_wp2_with (go_at_call 11; refine (Tick_done _ _ r rest _ HQ3.out (by omega) h0).mono ?_; rintro e w4 ⟨v4, rfl, ⟨A4, c4, rfl, hr4⟩, hb4⟩; have hN4 := hr4.le; have hM4 := hr4.mx)
        have HK := Lib.hid (fun W (hw : Bel w4 W) => Like_quiet _ _ _ _ _ rest _ (hr4.bel hw) (HQt.out.bel (hb4.trans hw)))
        go_wp2_with (go_at_call 12; (with_reducible refine (HK.out _ (Bel.alloc _ _)).mono ?_); rintro e w5 ⟨rfl, d5, rfl⟩)
        go_quiet (fail)
        go_wp2_with (first | (go_at_call 13; (with_reducible refine (HL.out _).mono ?_); rintro e w' ⟨rfl, d, rfl⟩) | (go_at_call 13; (with_reducible refine (HN.out _).mono ?_); rintro e w' ⟨rfl, d, rfl⟩; replace hbel := Lib.hid (hbel.out.trans (Bel.drewN _ d))) | (go_at_call 9; refine (alive_any _).mono ?_; rintro e wn ⟨rfl, hnew⟩; have hbel : Hid (Bel (w2.drewN d3) wn) := Lib.hid (Bel.trans (by exact (hb4.trans (Bel.alloc _ _)).trans (Bel.drewN _ _)) hnew); clear hnew) | (go_at_call 8; first | ((with_reducible refine (RP.out _ hbel.out).mono ?_); rintro e wn ⟨rfl, hnew⟩; replace hbel := Lib.hid (hbel.out.trans hnew); clear hnew) | ((with_reducible refine (RQ.out _ hbel.out).mono ?_); rintro e wn ⟨rfl, hnew⟩; replace hbel := Lib.hid (hbel.out.trans hnew); clear hnew)))
        go_ret
        exact ⟨val_t (decide_eq_true (by omega)), Hb3.out.trans hbel.out⟩

end Go.Proofs.Ythjmkmfpabphgaa
