/- The statement BusOrder: the walk. -/
import Derived.Test.YthjmkmfpabphgaaBusOrd
set_option linter.unusedVariables false
set_option linter.unusedSimpArgs false
namespace Go.Proofs.Ythjmkmfpabphgaa
open Go.RowKit

/-- what waits: the head of ls has waited e cycles -/
def curq (d : Nat) (e : Int) : List Int → List Rq
  | [] => []
  | l :: ls => ⟨1, 16 * d, l - e, ⟨#[]⟩⟩ :: mkq (d + 1) ls
theorem curq_zero (d : Nat) (ls : List Int) : curq d 0 ls = mkq d ls := by cases ls <;> simp [curq, mkq]
theorem Tick_on (A : Option Addr) (n c : Nat) (r : Rq) (rest : List Rq) (x : Int) (w : World) (hr : Rd w w.heap.size 4 A n c (rqs (r :: rest))) (hn : n ≤ 1000000) (hx : wrap64 (r.left - 1) = x) (h0 : x > 0) :
    Calls Try.prog 11 #[.slice A n c] w fun e w' => ∃ A' c', e = .returned (.tuple #[.slice A' n c', .agg #[.int .i64 0, .int .u32 0, .int .i64 0, .string ⟨#[]⟩], .bool false]) ∧ Rd w' w'.heap.size 4 A' n c' (rqs ({ r with left := x } :: rest)) ∧ Bel w w' := by
  have hl := hr.len
  rw [rqs_len, List.length_cons] at hl
  obtain rfl : n = rest.length + 1 := by omega
  subst hx
  refine (Tick_some A c r rest w hr (by omega) h0).mono ?_
  rintro e w' ⟨v, rfl, ⟨A', c', rfl, h⟩, hb⟩
  exact ⟨A', c', rfl, h, hb⟩
theorem Tick_off (A : Option Addr) (n c : Nat) (r : Rq) (rest : List Rq) (x : Int) (w : World) (hr : Rd w w.heap.size 4 A (n + 1) c (rqs (r :: rest))) (hn : n ≤ 1000000) (hx : wrap64 (r.left - 1) = x) (h0 : ¬ x > 0) :
    Calls Try.prog 11 #[.slice A (n + 1) c] w fun e w' => ∃ A' c', e = .returned (.tuple #[.slice A' n c', .agg #[.int .i64 r.kind, .int .u32 (r.line : Int), .int .i64 x, .string r.data], .bool true]) ∧ Rd w' w'.heap.size 4 A' n c' (rqs rest) ∧ Bel w w' := by
  have hl := hr.len
  rw [rqs_len, List.length_cons] at hl
  obtain rfl : n = rest.length := by omega
  subst hx
  refine (Tick_done A c r rest w hr (by omega) h0).mono ?_
  rintro e w' ⟨v, rfl, ⟨A', c', rfl, h⟩, hb⟩
  exact ⟨A', c', rfl, h, hb⟩

attribute [go_sem] Rq.val zrq
set_option maxHeartbeats 2000000 in
theorem order_one (A : Option Addr) (n c : Nat) (zs : List Int) (w : World) (hr : Rd w w.heap.size 1 A n c (i64s zs)) :
    Calls Try.prog 4 #[.slice A n c] w fun e w' => e = .returned (.bool true) ∧ Bel w w' := by
  have hc1 := hr.le
  have hc2 := hr.mx
  unfold maxLen at hc2
  obtain ⟨N, hN, hN1, hN2⟩ : ∃ N : Nat, ((N : Nat) : Int) = (if (12 : Int) < (n : Int) then 12 else (n : Int)) ∧ N ≤ n ∧ N ≤ 12 := ⟨min n 12, by split <;> omega, by omega, by omega⟩
  have HN := Lib.hid hN
  clear hN
  have hlen := hr.len
  rw [i64s_len] at hlen
  obtain ⟨L, hL⟩ : ∃ L, L = (zs.take N).map capL := ⟨_, rfl⟩
  have hLl : L.length = N := by rw [hL, List.length_map, List.length_take]; omega
  have hLc : ∀ x ∈ L, 1 ≤ x ∧ x ≤ 20 := by
    intro x hx
    rw [hL, List.mem_map] at hx
    obtain ⟨z, _, rfl⟩ := hx
    exact capL_le z
  have hLs : ∀ k, k ≤ N → (k : Int) ≤ (L.take k).sum ∧ (L.take k).sum ≤ 20 * k := by
    intro k hk
    have := sum_le (L.take k) (fun l hl => hLc l (List.mem_of_mem_take hl))
    rw [List.length_take, hLl, Nat.min_eq_left hk] at this
    exact this
  have HLs := Lib.hid hLs
  have HLc := Lib.hid hLc
  have HLl := Lib.hid hLl
  have HL := Lib.hid hL
  have Hr := Lib.hid hr
  have Hlen := Lib.hid hlen
  clear hLs hLc hLl hr hL hlen
  go_enter Try.func4, Try.ntmps4
  go_wp2_with (refine wpList_min rfl _ _ _ (by rfl) _ _ _ _ (N : Int) (by rfl) (by rfl) HN.out ?_)
  go_loopw [3, 4, 5, 23] (fun vq ve sm i wr => ∃ k : Nat, k ≤ N ∧ i = .int .i64 (k : Int) ∧ sm = .int .i64 (L.take k).sum ∧ (∃ A1 c1, vq = .slice A1 k c1 ∧ Rd wr wr.heap.size 4 A1 k c1 (rqs (mkq 0 (L.take k)))) ∧ wr.ownsRow w.heap.size 3 1 ve k (i64s (ends 0 (L.take k))) ∧ Bel w wr) (fun _ _ _ i _ => N - (intOf i).toNat)
  case atStart => exact ⟨0, by omega, rfl, rfl, ⟨none, 0, rfl, Rd.nil (by simp [maxLen])⟩, own_nil _ _ _ _, Bel.refl w⟩
  case round =>
    obtain ⟨k, hk, rfl, rfl, ⟨A1, c1, rfl, hq⟩, hown, hbel⟩ := hrel
    by_cases hkN : k < N
    · obtain ⟨g, o, u, rfl, hg, hu, hcu⟩ := (Hr.out.bel hbel).cell1 (k := k) (by omega)
      have hkz : k < zs.length := by have := Hlen.out; omega
      rw [i64s_at hkz] at hu
      obtain rfl : _ = u := by injection hu
      clear hu
      have hkL : k < L.length := by rw [HLl.out]; exact hkN
      obtain ⟨l, hl, hlk⟩ : ∃ l, l = capL (zs[k]'hkz) ∧ L[k]'hkL = l := ⟨_, rfl, by simp [HL.out]⟩
      obtain ⟨M1, hM1, hM2⟩ : ∃ M1 : Int, M1 = (if (1 : Int) > zs[k]'hkz then 1 else zs[k]'hkz) ∧ l = (if (20 : Int) < M1 then 20 else M1) := by
        refine ⟨max (zs[k]'hkz) 1, by split <;> omega, ?_⟩
        rw [hl]
        unfold capL
        split <;> omega
      have hl1 := capL_le (zs[k]'hkz)
      rw [← hl] at hl1
      have HM1 := Lib.hid hM1
      have HM2 := Lib.hid hM2
      have hs1 := HLs.out k hk
      have HQ := Lib.hid hq
      have Hsucc := Lib.hid (sum_take_succ L hkL)
      rw [hlk] at Hsucc
      have htk : L.take (k + 1) = L.take k ++ [l] := by rw [List.take_succ_eq_append_getElem hkL, hlk]
      have Hpush : Hid (mkq 0 (L.take k) ++ [⟨1, 16 * k, max l 1, ⟨#[]⟩⟩] = mkq 0 (L.take (k + 1))) := by
        refine Lib.hid ?_
        rw [htk, mkq_snoc, List.length_take, HLl.out, Nat.min_eq_left hk, Nat.zero_add, show max l 1 = l by omega]
      have Hends : Hid (i64s (ends 0 (L.take k)) ++ i64s [(L.take k).sum + l] = i64s (ends 0 (L.take (k + 1)))) := by
        refine Lib.hid ?_
        rw [htk, ends_snoc, i64s_append, Int.zero_add]
      have Hcast : Hid ((16 * (k : Int)) = ((16 * k : Nat) : Int)) := Lib.hid (by push_cast; rfl)
      clear hM1 hM2 hq hl hlk htk
      go_wp2_with (first | (first | (refine wpList_max rfl _ _ _ (by rfl) _ _ _ _ M1 (by rfl) (by rfl) HM1.out ?_) | (refine wpList_min rfl _ _ _ (by rfl) _ _ _ _ l (by rfl) (by rfl) HM2.out ?_)) | (go_at_call 10; rw [Hcast.out]; refine (Push_own _ _ _ _ 1 (16 * k) l ⟨#[]⟩ _ HQ.out (by omega) (by omega)).mono ?_; rintro e w2 ⟨v2, rfl, hown2, hb2⟩; rw [Hpush.out] at hown2) | (at_builtin; refine wpList_app w2 (i64s [(L.take k).sum + l]) 1 rfl (.tmp 40) (.tmp 42) 30 (by rfl) w.heap.size 3 _ 1 8 Try.underlying30 i64info rfl (by decide) _ k _ (by rfl) (own_bel hown hb2) (by rfl) rfl (i64s_one _) (by omega) (by omega) (Nat.le_trans hbel.size hb2.size) ?_; intro v3 w3 hown3 hg3))
      rw [Hends.out] at hown3
      have hfar := own_far hown2 hg3 (own_lt hown)
      obtain ⟨A2, c2, rfl, hq2⟩ := Rd.of_own hfar
      have hb3 := (hbel.trans hb2).then_grown (own_bel hown hb2) hg3 (Nat.le_refl _)
      clear hfar hown2 hg3
      go_roundw
      case rel => exact ⟨k + 1, by omega, by go_num, by rw [Hsucc.out], ⟨A2, c2, rfl, hq2⟩, hown3, hb3⟩
      case measure => first | (simp [intOf]; done) | (simp [intOf]; omega)
    · obtain rfl : k = N := by omega
      obtain ⟨A2, c2, rfl, he⟩ := Rd.of_own hown
      rw [List.take_of_length_le (by rw [HLl.out]; exact Nat.le_refl _)] at hq he ⊢
      clear hown
      have hs := HLs.out k (Nat.le_refl k)
      rw [List.take_of_length_le (by rw [HLl.out]; exact Nat.le_refl _)] at hs
      obtain ⟨T, hT⟩ : ∃ T, L.sum = T := ⟨_, rfl⟩
      rw [hT] at hs ⊢
      have HT := Lib.hid hT
      have HE := Lib.hid he
      have Hb0 := Lib.hid hbel
      clear hT he hbel
      go_wp2
      go_loopw [3, 8, 9] (fun vq vd vc wx => ∃ (d : Nat) (ls : List Int) (e : Int), L.drop d = ls ∧ d ≤ k ∧ 0 ≤ e ∧ (∀ l ls', ls = l :: ls' → e < l) ∧ (ls = [] → e = 0) ∧ vd = .int .i64 (d : Int) ∧ vc = .int .i64 ((L.take d).sum + e + 1) ∧ (∃ A1 c1, vq = .slice A1 ls.length c1 ∧ Rd wx wx.heap.size 4 A1 ls.length c1 (rqs (curq d e ls))) ∧ Bel wr wx) (fun _ _ vc _ => (T + 1 - intOf vc).toNat)
      case atStart => exact ⟨0, L, 0, by simp, by omega, by omega, fun l ls' h => by have := (HLc.out l (by rw [h]; simp)).1; omega, fun _ => rfl, rfl, by simp, ⟨A1, c1, by rw [HLl.out], by rw [HLl.out, curq_zero]; exact hq⟩, Bel.refl _⟩
      case round =>
        obtain ⟨d, ls, e, hdr, hd, he0, hel, hez, rfl, rfl, ⟨A3, c3, rfl, hq3⟩, hbx⟩ := hrel
        have hsd := HLs.out d hd
        have hdl : ls.length = k - d := by rw [← hdr, List.length_drop, HLl.out]
        obtain ⟨S, hS⟩ : ∃ S, (L.take d).sum = S := ⟨_, rfl⟩
        rw [hS] at hsd ⊢
        cases ls with
        | nil =>
          obtain rfl := hez rfl
          obtain rfl : d = k := by simp at hdl; omega
          obtain rfl : S = T := by rw [← hS, List.take_of_length_le (by rw [HLl.out]; exact Nat.le_refl _), HT.out]
          clear hS hdr hel hez hdl
          go_wp2_with (first | (go_at_call 11; refine (Tick_nil _ _ _).mono ?_; rintro ee w4 ⟨rfl, hb4⟩) | (go_at_call 9; refine (alive_any _).mono ?_; rintro ee w5 ⟨rfl, hb5⟩))
          go_ret
          exact ⟨rfl, Hb0.out.trans (hbx.trans ((hb4.trans (Bel.alloc _ _)).trans hb5))⟩
        | cons l ls =>
          have hl1 := hel l ls rfl
          have hdk : d < k := by simp at hdl; omega
          have hq4 : Rd wr wr.heap.size 4 A3 (ls.length + 1) c3 (rqs (⟨1, 16 * d, l - e, ⟨#[]⟩⟩ :: mkq (d + 1) ls)) := hq3
          have HQ := Lib.hid hq4
          have hlc := HLc.out l (by have := List.mem_of_mem_drop (l := L) (i := d) (a := l) (by rw [hdr]; simp); exact this)
          have hls := sum_le ls (fun x hx => HLc.out x (by have := List.mem_of_mem_drop (l := L) (i := d) (a := x) (by rw [hdr]; simp [hx]); exact this))
          have hST : S + l ≤ T := by
            have h1 : (L.take d ++ L.drop d).sum = T := by rw [List.take_append_drop]; exact HT.out
            rw [List.sum_append, hdr, List.sum_cons, hS] at h1
            omega
          have hdL : d < L.length := by rw [HLl.out]; exact hdk
          have hld : L[d]'hdL = l := by
            have h1 : (L.drop d)[0]? = some l := by rw [hdr]; rfl
            rw [List.getElem?_drop, Nat.add_zero, List.getElem?_eq_getElem hdL] at h1
            injection h1
          have hsu : (L.take (d + 1)).sum = S + l := by rw [sum_take_succ L hdL, hS, hld]
          have hdr1 : L.drop (d + 1) = ls := by rw [← List.drop_drop, hdr]; rfl
          obtain ⟨gE, oE, u, rfl, hgE, hu, hcu⟩ := (HE.out.bel hbx).cell1 (k := d) hdk
          have hu2 : (i64s (ends 0 L))[d]? = some (.int .i64 (S + l)) := by
            rw [i64s, List.getElem?_map, ends_at 0 L hdL, hsu, Int.zero_add]
            rfl
          rw [hu2] at hu
          obtain rfl : _ = u := by injection hu
          have Hsu := Lib.hid hsu
          have Hdr := Lib.hid hdr
          have Hdr1 := Lib.hid hdr1
          have HS := Lib.hid hS
          have hlen12 : ls.length ≤ 12 := by simp at hdl; omega
          obtain ⟨X, hX⟩ : ∃ X, X = l - e - 1 := ⟨_, rfl⟩
          have HX : Hid (wrap64 ((⟨1, 16 * d, l - e, ⟨#[]⟩⟩ : Rq).left - 1) = X) := Lib.hid (by show wrap64 (l - e - 1) = X; unfold wrap64; omega)
          clear hu hu2 hsu hdr hdr1 hS hq3 hq4 hld hls hel hez hdl
          by_cases hX0 : X > 0
          · have hc : ((S + l) == (S + e + 1)) = false := by rw [beq_eq_false_iff_ne]; omega
            have Hq5 : Hid ((⟨1, 16 * d, X, ⟨#[]⟩⟩ : Rq) :: mkq (d + 1) ls = curq d (e + 1) (l :: ls)) := Lib.hid (by rw [curq, hX, Int.sub_sub])
            have HXe := Lib.hid hX
            clear hX
            go_wp2_with (go_at_call 11; refine (Tick_on _ _ _ ⟨1, 16 * d, l - e, ⟨#[]⟩⟩ (mkq (d + 1) ls) X _ HQ.out (by omega) HX.out (by omega)).mono ?_; rintro ee w4 ⟨A4, c4, rfl, hr4, hb4⟩; have hce : ∀ ob, (w4.alloc ob).cell? ⟨gE, oE + d, none⟩ = some (.int .i64 (S + l)) := fun ob => ((hb4.trans (Bel.alloc w4 ob)).cell hgE).trans hcu)
            go_roundw
            case rel =>
              refine ⟨d, l :: ls, e + 1, Hdr.out, hd, by omega, ?_, (by intro h; cases h), rfl, by rw [HS.out, show S + (e + 1) + 1 = S + e + 1 + 1 by omega], ⟨A4, c4, rfl, ?_⟩, (hbx.trans hb4).trans (Bel.alloc _ _)⟩
              · intro l1 ls1 h
                have hx := HXe.out
                injection h with h1 h2
                omega
              · have h4 := hr4.bel (Bel.alloc w4 (Obj.cells #[.int .i64 0, .int .u32 0, .int .i64 0, .string ⟨#[]⟩] 32))
                rw [← Hq5.out]
                exact h4
            case measure => first | (simp [intOf]; done) | (simp [intOf]; omega)
          · have hc : ((S + l) == (S + e + 1)) = true := by rw [beq_iff_eq]; omega
            have hel : e + 1 = l := by omega
            clear hX
            go_wp2_with (go_at_call 11; refine (Tick_off _ ls.length _ ⟨1, 16 * d, l - e, ⟨#[]⟩⟩ (mkq (d + 1) ls) X _ HQ.out (by omega) HX.out (by omega)).mono ?_; rintro ee w4 ⟨A4, c4, rfl, hr4, hb4⟩; have hce : ∀ ob, (w4.alloc ob).cell? ⟨gE, oE + d, none⟩ = some (.int .i64 (S + l)) := fun ob => ((hb4.trans (Bel.alloc w4 ob)).cell hgE).trans hcu)
            go_roundw
            case rel =>
              refine ⟨d + 1, ls, 0, Hdr1.out, by omega, by omega, ?_, fun _ => rfl, by go_num, by rw [Hsu.out, show S + l + 0 + 1 = S + e + 1 + 1 by omega], ⟨A4, c4, rfl, ?_⟩, (hbx.trans hb4).trans (Bel.alloc _ _)⟩
              · intro l1 ls1 h
                have hm : l1 ∈ L.drop (d + 1) := by rw [Hdr1.out, h]; simp
                have := (HLc.out l1 (List.mem_of_mem_drop hm)).1
                omega
              · rw [curq_zero]
                exact hr4.bel (Bel.alloc _ _)
            case measure => first | (simp [intOf]; done) | (simp [intOf]; omega)

end Go.Proofs.Ythjmkmfpabphgaa
