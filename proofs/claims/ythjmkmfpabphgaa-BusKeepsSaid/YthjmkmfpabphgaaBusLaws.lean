/- The statements of package auspexlaw09: BusHas, BusOrder, BusKeeps: the walks. -/
import Derived.Test.YthjmkmfpabphgaaBus
set_option linter.unusedVariables false
set_option linter.unusedSimpArgs false
namespace Go.Proofs.Ythjmkmfpabphgaa
open Go.RowKit

theorem few_any (A : Option Addr) (n c : Nat) (q : List Rq) (w : World) (hr : Rd w w.heap.size 4 A n c (rqs q)) :
    Calls Try.prog 6 #[.slice A n c] w fun e w' => ∃ m q', e = .returned (.slice A m c) ∧ m ≤ 40 ∧ Rd w w.heap.size 4 A m c (rqs q') ∧ Bel w w' := by
  have hc1 := hr.le
  have hc2 := hr.mx
  unfold maxLen at hc2
  obtain ⟨N, hN, hN1, hN2⟩ : ∃ N : Nat, ((N : Nat) : Int) = (if (40 : Int) < (n : Int) then 40 else (n : Int)) ∧ N ≤ n ∧ N ≤ 40 := ⟨min n 40, by split <;> omega, by omega, by omega⟩
  have HN := Lib.hid hN
  clear hN
  go_enter Try.func6, Try.ntmps6
  go_wp2_with (refine wpList_min rfl _ _ _ (by rfl) _ _ _ _ (N : Int) (by rfl) (by rfl) HN.out ?_)
  go_ret
  refine ⟨N, q.take N, rfl, hN2, ?_, Bel.refl w⟩
  rw [← rqs_take]
  exact hr.to hN1

theorem rd_lit (w : World) (ks : List Int) (e : TypeId) (hk : ks.length ≤ 8) : Rd (w.alloc (.cells (i64s ks).toArray e)) (w.alloc (.cells (i64s ks).toArray e)).heap.size 1 (some ⟨w.heap.size, 0, none⟩) ks.length ks.length (i64s ks) := by
  have h := (Bk.new w e (i64s ks)).rd (sz := 1) (n := ks.length) (c := ks.length) (o := 0) (by rw [i64s_len]; omega) (Nat.le_refl _) (by unfold maxLen; omega)
  rwa [List.drop_zero, List.take_of_length_le (by rw [i64s_len]; omega)] at h

theorem alive_any (w : World) :
    Calls Try.prog 9 #[] w fun e w' => e = .returned (.bool true) ∧ Bel w w' := by
  have HP := Lib.hid (Push_any none 0 0 [] 1 16 1 ⟨#[]⟩ w (Rd.nil (by unfold maxLen; omega)) (by omega) (by omega))
  go_enter Try.func9, Try.ntmps9
  go_wp2_with (first
    | (go_at_call 10; refine HP.out.mono ?_; rintro e w1 ⟨v, rfl, ⟨A1, c1, rfl, hr1⟩, hb1⟩)
    | (go_at_call 7; refine (Has_any _ _ _ _ _ _ _ _ [1] _ (hr1.bel (Bel.alloc _ _)) (rd_lit _ [1] _ (by simp))).mono ?_; rintro e w2 ⟨rfl, hb2⟩))
  go_ret
  exact ⟨rfl, (hb1.trans (Bel.alloc _ _)).trans hb2⟩

theorem hasL_append (p q : List Rq) (line : Nat) (ks : List Int) : hasL (p ++ q) line ks = (hasL p line ks || hasL q line ks) := by simp [hasL]
theorem hasL_nil (q : List Rq) (line : Nat) : hasL q line [] = false := by simp [hasL]
theorem hasL_two (q : List Rq) (line : Nat) (k : Int) : hasL q line [k, k] = hasL q line [k] := by simp [hasL]
theorem hasL_new (q : List Rq) (line : Nat) (k : Int) (l : Int) (d : ByteArray) : hasL (q ++ [⟨k, line, l, d⟩]) line [k] = true := by simp [hasL]
theorem val_t {b : Bool} (h : b = true) : Ending.returned (.bool b) = .returned (.bool true) := by rw [h]

theorem Has_lit (A : Option Addr) (n c : Nat) (q : List Rq) (line : Nat) (ks : List Int) (b : Bool) (W : World) (hr : Rd W W.heap.size 4 A n c (rqs q)) (hk : ks.length ≤ 8) (hb : hasL q line ks = b) :
    Calls Try.prog 7 #[.slice A n c, .int .u32 (line : Int), .slice (some ⟨W.heap.size, 0, none⟩) ks.length ks.length] (W.alloc (.cells (i64s ks).toArray 3)) fun e w' => e = .returned (.bool b) ∧ Bel W w' := by
  refine (Has_any A n c q line _ _ _ ks _ (hr.bel (Bel.alloc _ _)) (rd_lit W ks _ hk)).mono ?_
  rintro e w' ⟨rfl, h⟩
  exact ⟨by rw [hb], (Bel.alloc _ _).trans h⟩

theorem Has_lit1 (A : Option Addr) (n c : Nat) (q : List Rq) (line : Nat) (k : Int) (b : Bool) (W : World) (hr : Rd W W.heap.size 4 A n c (rqs q)) (hb : hasL q line [k] = b) :
    Calls Try.prog 7 #[.slice A n c, .int .u32 (line : Int), .slice (some ⟨W.heap.size, 0, none⟩) 1 1] (W.alloc (.cells #[.int .i64 k] 3)) fun e w' => e = .returned (.bool b) ∧ Bel W w' := Has_lit A n c q line [k] b W hr (by simp) hb
theorem Has_lit2 (A : Option Addr) (n c : Nat) (q : List Rq) (line : Nat) (k : Int) (b : Bool) (W : World) (hr : Rd W W.heap.size 4 A n c (rqs q)) (hb : hasL q line [k, k] = b) :
    Calls Try.prog 7 #[.slice A n c, .int .u32 (line : Int), .slice (some ⟨W.heap.size, 0, none⟩) 2 2] (W.alloc (.cells #[.int .i64 k, .int .i64 k] 3)) fun e w' => e = .returned (.bool b) ∧ Bel W w' := Has_lit A n c q line [k, k] b W hr (by simp) hb

set_option maxHeartbeats 1000000 in
set_option maxRecDepth 100000 in
theorem BusHas_true (A : Option Addr) (n c : Nat) (p : List Rq) (A' : Option Addr) (n' c' : Nat) (q : List Rq) (kind : Int) (line : Nat) (w : World) (hp : Rd w w.heap.size 4 A n c (rqs p)) (hq : Rd w w.heap.size 4 A' n' c' (rqs q)) (hk : -9223372036854775808 ≤ kind ∧ kind ≤ 9223372036854775807) (hl : line < 4294967296) :
    Calls Try.prog 3 #[.slice A n c, .slice A' n' c', .int .i64 kind, .int .u32 (line : Int)] w fun e w' => e = .returned (.bool true) ∧ Bel w w' := by
  have Hp := Lib.hid hp
  have Hq := Lib.hid hq
  clear hp hq
  go_enter Try.func3, Try.ntmps3
  go_wp2_with (first
    | (go_at_call_of 6 A; refine (few_any A n c p _ Hp.out).mono ?_; rintro e w1 ⟨n1, p1, rfl, hn1, hp1, hb1⟩; have HP := Lib.hid hp1; have Hb1 := Lib.hid hb1; have hN1 := hp1.le; have hM1 := hp1.mx; have Hw1 := Lib.hid (hp1.bel hb1); clear hp1 hb1)
    | (go_at_call_of 6 A'; refine (few_any A' n' c' q _ (Hq.out.bel Hb1.out)).mono ?_; rintro e w2 ⟨n2, q2, rfl, hn2, hq2, hb2⟩; have HQ := Lib.hid (hq2.bel hb2); have Hb2 := Lib.hid hb2; have HP2 := Lib.hid (Hw1.out.bel hb2); clear hq2 hb2)
    | (at_builtin; refine wpList_app_rd rfl (.tmp 14) (.tmp 15) 22 (by rfl) w2.heap.size 32 _ 4 40 Try.underlying22 rqinfo rfl (by decide) _ 0 [] (by rfl) (own_empty w2 w2.heap.size 32 4 (Nat.le_refl _)) _ _ _ _ (rqs p1) (by rfl) (HP2.out.below (Bel.alloc _ _)) (rqs_one p1) (by omega) (by omega) (by simp) ?_; intro v3 w3 hown3 hg3; have hb3 := (Bel.alloc w2 _).then_grown (own_empty w2 w2.heap.size 32 4 (Nat.le_refl _)) hg3 (Nat.le_refl _); have hs3 := hb3.size)
    | (at_builtin; refine wpList_app_rd rfl (.tmp 16) (.tmp 17) 22 (by rfl) w2.heap.size 32 _ 4 40 Try.underlying22 rqinfo rfl (by decide) v3 (0 + n1) _ (by rfl) hown3 _ _ _ _ (rqs q2) (by rfl) (HQ.out.below hb3) (rqs_one q2) (by omega) (by omega) hs3 ?_; intro v4 w4 hown4 hg4; have hb4 := hb3.then_grown hown3 hg4 (Nat.le_refl _); obtain ⟨A4, c4, rfl, hr4⟩ := Rd.of_own hown4; rw [List.nil_append, ← rqs_append] at hr4; have HB := Lib.hid hr4; have Hb4 := Lib.hid hb4; clear hr4 hb4 hb3 hown3 hown4 hg3 hg4))
  rw [Nat.zero_add] at HB
  have hbel := Lib.hid (Bel.refl w4)
  unfold maxLen at hM1
  have HP4 := Lib.hid (HP2.out.bel Hb4.out)
  have HQ4 := Lib.hid (HQ.out.bel Hb4.out)
  have Hb0 := Lib.hid (((Hb1.out.trans Hb2.out).trans Hb4.out))
  have lp : p1.length = n1 := by have := HP4.out.len; rw [rqs_len] at this; omega
  have lq : q2.length = n2 := by have := HQ4.out.len; rw [rqs_len] at this; omega
  have rp := readsL_le p1
  have rq := readsL_le q2
  have RB := Lib.hid (fun W (hw : Bel w4 W) => Reads_any A4 _ c4 _ W (HB.out.bel hw))
  have RP := Lib.hid (fun W (hw : Bel w4 W) => Reads_any A _ c _ W (HP4.out.bel hw))
  have RQ := Lib.hid (fun W (hw : Bel w4 W) => Reads_any A' _ c' _ W (HQ4.out.bel hw))
  rw [readsL_append] at RB
  have HB0 := Lib.hid (fun W (hw : Bel w4 W) => Has_any A4 _ c4 _ line none 0 0 [] W (HB.out.bel hw) (Rd.nil (by unfold maxLen; omega)))
  rw [hasL_nil] at HB0
  have PU := Lib.hid (fun W (hw : Bel w4 W) => Push_any A _ c _ kind line 1 ⟨#[]⟩ W (HP4.out.bel hw) (by omega) (by omega))
  obtain ⟨X, hX⟩ : ∃ X, hasL p1 line [kind] = X := ⟨_, rfl⟩
  obtain ⟨Y, hY⟩ : ∃ Y, hasL q2 line [kind] = Y := ⟨_, rfl⟩
  have hZ : hasL (p1 ++ q2) line [kind] = (X || Y) := by rw [hasL_append, hX, hY]
  have HBk := Lib.hid (fun W (hw : Bel w4 W) => Has_lit1 A4 _ c4 _ line kind _ W (HB.out.bel hw) hZ)
  have HBkk := Lib.hid (fun W (hw : Bel w4 W) => Has_lit2 A4 _ c4 _ line kind _ W (HB.out.bel hw) ((hasL_two _ _ _).trans hZ))
  have HPk := Lib.hid (fun W (hw : Bel w4 W) => Has_lit1 A _ c _ line kind _ W (HP4.out.bel hw) hX)
  have HQk := Lib.hid (fun W (hw : Bel w4 W) => Has_lit1 A' _ c' _ line kind _ W (HQ4.out.bel hw) hY)
  clear hX hY hZ
  have lp' : (readsL p1 : Int) ≤ 40 := by omega
  have lq' : (readsL q2 : Int) ≤ 40 := by omega
  revert RB RP RQ rp rq lp' lq'
  generalize readsL p1 = x
  generalize readsL q2 = y
  intro rp rq RB RP RQ lp' lq'
  clear rp rq lp lq HP2 HQ HB HP4 HQ4 Hp Hq Hw1 HP Hb1 Hb2
  cases X <;> cases Y <;> (
    go_wp2_with (first | (go_at_call_of 7 A4; first | ((with_reducible refine (HBk.out _ hbel.out).mono ?_); rintro e wn ⟨rfl, hnew⟩; replace hbel := Lib.hid (hbel.out.trans hnew); clear hnew) | ((with_reducible refine (HBkk.out _ hbel.out).mono ?_); rintro e wn ⟨rfl, hnew⟩; replace hbel := Lib.hid (hbel.out.trans hnew); clear hnew) | ((with_reducible refine (HB0.out _ hbel.out).mono ?_); rintro e wn ⟨rfl, hnew⟩; replace hbel := Lib.hid (hbel.out.trans hnew); clear hnew)) | (go_at_call_of 7 A; (with_reducible refine (HPk.out _ hbel.out).mono ?_); rintro e wn ⟨rfl, hnew⟩; replace hbel := Lib.hid (hbel.out.trans hnew); clear hnew) | (go_at_call_of 7 A'; (with_reducible refine (HQk.out _ hbel.out).mono ?_); rintro e wn ⟨rfl, hnew⟩; replace hbel := Lib.hid (hbel.out.trans hnew); clear hnew) | (go_at_call 8; first | ((with_reducible refine (RB.out _ hbel.out).mono ?_); rintro e wn ⟨rfl, hnew⟩; replace hbel := Lib.hid (hbel.out.trans hnew); clear hnew) | ((with_reducible refine (RP.out _ hbel.out).mono ?_); rintro e wn ⟨rfl, hnew⟩; replace hbel := Lib.hid (hbel.out.trans hnew); clear hnew) | ((with_reducible refine (RQ.out _ hbel.out).mono ?_); rintro e wn ⟨rfl, hnew⟩; replace hbel := Lib.hid (hbel.out.trans hnew); clear hnew)) | (go_at_call 9; refine (alive_any _).mono ?_; rintro e wn ⟨rfl, hnew⟩; replace hbel := Lib.hid (hbel.out.trans hnew); clear hnew) | (go_at_call 10; (with_reducible refine (PU.out _ hbel.out).mono ?_); rintro e wn ⟨v5, rfl, ⟨A5, c5, rfl, hr5⟩, hnew⟩; have HN5 := Lib.hid (fun W (hw : Bel wn W) => Has_lit1 A5 _ c5 _ line kind true W (hr5.bel hw) (hasL_new p1 line kind _ _)); have hbel5 := Lib.hid (hbel.out.trans hnew); clear hnew hr5) | (go_at_call_of 7 A5; refine (HN5.out _ (Bel.refl _)).mono ?_; rintro e wm ⟨rfl, hnew⟩; replace hbel := Lib.hid (hbel5.out.trans hnew); clear hnew))
    go_ret
    exact ⟨by rfl, Hb0.out.trans hbel.out⟩)

end Go.Proofs.Ythjmkmfpabphgaa
