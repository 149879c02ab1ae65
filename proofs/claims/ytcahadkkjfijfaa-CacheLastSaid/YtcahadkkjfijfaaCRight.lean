/- The cache package: which caches may be. -/
import Derived.Test.YtcahadkkjfijfaaCBase
set_option linter.unusedVariables false
set_option linter.unusedSimpArgs false
set_option maxRecDepth 100000
namespace Go.Proofs.Ytcahadkkjfijfaa
open Go.RowKit Go.Sort

/-- ways are words' lines, their data strings -/
def WyOk (v : Wy) : Prop := v.line < 4294967296 ∧ v.data.size ≤ maxLen
def SOk (S : List Cs) : Prop := ∀ s ∈ S, ∀ v ∈ s.ws, v.line < 4294967296 ∧ v.data.size ≤ maxLen

/-- the first test -/
theorem right_tests (n : Nat) (ways : Int) :
    ((n = 1 ∨ n = 2 ∨ n = 4) ∧ (ways = 1 ∨ ways = 2)) ∨
    (((n : Int) != 1) = true ∧ ((n : Int) != 2) = true ∧ ((n : Int) != 4) = true ∧ ¬ (n = 1 ∨ n = 2 ∨ n = 4)) ∨
    ((n = 1 ∨ n = 2 ∨ n = 4) ∧ (ways != 1) = true ∧ (ways != 2) = true ∧ ¬ (ways = 1 ∨ ways = 2)) := by
  by_cases hn : n = 1 ∨ n = 2 ∨ n = 4
  · by_cases hw : ways = 1 ∨ ways = 2
    · exact .inl ⟨hn, hw⟩
    · exact .inr (.inr ⟨hn, by simp; omega, by simp; omega, hw⟩)
  · exact .inr (.inl ⟨by simp; omega, by simp; omega, by simp; omega, hn⟩)

set_option maxHeartbeats 1000000 in
theorem Right_bad (ways : Int) (A : Option Addr) (n c : Nat) (w : World) (hc : n ≤ c) (hm : c ≤ maxLen) (h : ¬ ((n = 1 ∨ n = 2 ∨ n = 4) ∧ (ways = 1 ∨ ways = 2))) :
    Calls Try.prog 35 #[.agg #[.int .i64 ways, .slice A n c]] w fun e w' => e = .returned (.bool false) ∧ Bel w w' := by
  unfold maxLen at hm
  rcases right_tests n ways with h' | ⟨b1, b2, b3, _⟩ | ⟨hn, b1, b2, _⟩
  · exact absurd h' h
  · clear h
    go_enter Try.func35, Try.ntmps35
    go_wp2
    go_ret
    exact ⟨rfl, Bel.alloc _ _⟩
  · clear h
    rcases hn with rfl | rfl | rfl
    all_goals
      go_enter Try.func35, Try.ntmps35
      go_wp2
      go_ret
      exact ⟨rfl, Bel.alloc _ _⟩

theorem way_dup {n k j i : Nat} {ws : List Wy} {v u : Wy} (ha : At (ws.take j) v.line i u) : ¬ WayOk n k ws j v := by
  intro h
  have hi := (List.getElem?_eq_some_iff.1 ha.is).1
  rw [List.length_take] at hi
  have hu := ha.is
  rw [List.getElem?_take, if_pos (by omega)] at hu
  exact h.2.2.2 i (by omega) u hu ha.line
theorem way_step {n k j : Nat} {ws : List Wy} {v : Wy} (hin : ∀ i < j, ∀ v, ws[i]? = some v → WayOk n k ws i v) (hat : ws[j]? = some v) (h16 : v.line % 16 = 0) (hkk : v.line / 16 % n = k) (hsz : v.data.size = 0 ∨ v.data.size = 16) (hni : NotIn (ws.take j) v.line) :
    ∀ i < j + 1, ∀ v, ws[i]? = some v → WayOk n k ws i v := by
  intro i hi v' hv'
  rcases Nat.lt_or_ge i j with h | h
  · exact hin i h v' hv'
  · obtain rfl : i = j := by omega
    rw [hat] at hv'
    injection hv' with hv'
    subst hv'
    refine ⟨h16, hkk, hsz, fun l hl u hu => hni u ?_⟩
    rw [List.mem_iff_getElem?]
    exact ⟨l, by rw [List.getElem?_take, if_pos hl]; exact hu⟩
set_option maxHeartbeats 1000000 in
theorem Right_loop (ways : Int) (A : Option Addr) (n c : Nat) (S : List Cs) (w : World) (hr : RdS w w.heap.size A n c S) (ho : SOk S) (hn : n = 1 ∨ n = 2 ∨ n = 4) (hw : ways = 1 ∨ ways = 2) (b : Bool) (hb : b = true ↔ ∀ k s, (cont S)[k]? = some s → SetOk n ways k s) :
    Calls Try.prog 35 #[.agg #[.int .i64 ways, .slice A n c]] w fun e w' => e = .returned (.bool b) ∧ Bel w w' := by
  have hc1 := hr.rd.le
  have hc2 := hr.rd.mx
  unfold maxLen at hc2
  have Hb := Lib.hid hb
  have Ho := Lib.hid ho
  have Hsl := Lib.hid hr.slen
  clear hb ho
  go_enter Try.func35, Try.ntmps35
  go_upto_region 2 with (fail)
  go_cut [32] (fun s wx => s = .bool false ∧ wx = w.alloc (.cells #[.int .i64 ways, .slice A n c] 36))
  case first =>
    rcases hn with rfl | rfl | rfl <;> rcases hw with rfl | rfl <;> (go_wp2; go_meet; exact ⟨rfl, rfl⟩)
  case rest =>
    obtain ⟨rfl, rfl⟩ := hcut
    have hkC := Bk.new' w 36 [.int .i64 ways, .slice A n c] w.heap.size rfl
    have hbel := Bel.alloc w (.cells [Value.int .i64 ways, .slice A n c].toArray 36)
    revert hkC hbel
    generalize w.alloc _ = W0
    intro hkC hbel
    have cw0 := hkC.cell_of 0 _ rfl
    have cw1 := hkC.cell_of 1 _ rfl
    replace hbel := Lib.hid hbel
    replace hr := hr.bel hbel.out
    go_wp2
    replace hn := Lib.hid hn
    replace hw := Lib.hid hw
    go_loopw [36] (fun i wr => ∃ k : Nat, k ≤ n ∧ i = .int .i64 (k : Int) ∧ (∀ k' < k, ∀ s, (cont S)[k']? = some s → SetOk n ways k' s) ∧ Bel W0 wr) (fun i _ => n - (intOf i).toNat)
    case atStart => exact ⟨0, by omega, rfl, fun k' h => absurd h (by omega), Bel.refl W0⟩
    case round =>
      obtain ⟨k, hk, rfl, hall, hbw⟩ := hrel
      replace hall := Lib.hid hall
      by_cases hkn : k < n
      · obtain ⟨hl, g0, o0, rfl, hg0, hcs, hset⟩ := (hr.bel hbw).at_ hkn
        have hso := Ho.out _ (List.getElem_mem hl)
        have hcont := cont_at hl
        obtain ⟨s, hs⟩ : ∃ s, S[k]'hl = s := ⟨_, rfl⟩
        rw [hs] at hcs hset hso hcont
        clear hs
        obtain ⟨sA, m, sc, ws⟩ := s
        simp only at hcs hset hso hcont
        replace hcont := Lib.hid hcont
        replace hso := Lib.hid hso
        have hm1 := hset.le
        have hm2 := hset.mx
        unfold maxLen at hm2
        have hwl := Lib.hid hset.wyslen
        have cw0' := hbw.cell_of cw0
        have cw1' := hbw.cell_of cw1
        by_cases hlen : (m : Int) ≤ ways
        · have hd : decide (ways < (m : Int)) = false := by simpa using hlen
          obtain ⟨wo, rfl⟩ : ∃ wo : World, wo = wr := ⟨_, rfl⟩
          have hsetW := hset
          replace hset := Lib.hid hset
          replace hlen := Lib.hid hlen
          go_wp2
          go_loopw [48] (fun i wr => ∃ j : Nat, j ≤ m ∧ i = .int .i64 (j : Int) ∧ (∀ i < j, ∀ v, ws[i]? = some v → WayOk n k ws i v) ∧ Bel wo wr) (fun i _ => m - (intOf i).toNat)
          case atStart => exact ⟨0, by omega, rfl, fun i h => absurd h (by omega), Bel.refl wo⟩
          case round =>
            obtain ⟨j, hj, rfl, hin, hbi⟩ := hrel
            replace hin := Lib.hid hin
            by_cases hjm : j < m
            · obtain ⟨hlj, g, o, rfl, hg, hce⟩ := (hset.out.bel hbi).wyselem hjm
              have hat : ws[j]? = some (ws[j]'hlj) := List.getElem?_eq_getElem hlj
              have hvo := hso.out _ (List.getElem_mem hlj)
              obtain ⟨v, hv⟩ : ∃ v, ws[j]'hlj = v := ⟨_, rfl⟩
              rw [hv] at hce hat hvo
              clear hv
              replace hce := Lib.hid hce
              replace hat := Lib.hid hat
              obtain ⟨hv1, hv2⟩ := hvo
              unfold maxLen at hv2
              have hBad : Hid (¬ WayOk n k ws j v → b = false) := by
                show ¬ WayOk n k ws j v → b = false
                intro hno
                cases hbb : b
                · rfl
                · exact absurd ((Hb.out.1 hbb k _ hcont.out).2 j v hat.out) hno
              go_upto_region 12 with (first | (refine wpList_load_elem (by rfl) 49 (.tmp 51) (by rfl) g (o + j * 3) (by rfl) v.cells v.val rfl hce.out wysTy ?_) | (refine wpList_store_bk (by rfl) 49 (.tmp 7) (.tmp 52) (by rfl) wr.heap.size v.cells (by rfl) (by rfl) 49 wysZ ?_ rfl wysTy v.one ?_; exact Bk.new wr _ wysZ; intro w1 hk1 hs1 ho1 hbe1; clear hs1 ho1))
              go_frame
              have hkC1 := ((hkC.bel hbw).bel hbi).bel (hbe1 _ (Bel.alloc _ _) (Nat.le_refl _))
              have hb1 := hbi.trans (hbe1 _ (Bel.alloc _ _) (Nat.le_refl _))
              replace hbe1 := Lib.hid hbe1
              have d0 := hk1.cell_of 0 _ rfl
              have D0 := fun d os => cell_regrown d0 d os
              have LC := Lib.hid (hkC1.inClass (P := Try.prog) (ty := 36) cTy)
              by_cases h16 : v.line % 16 = 0
              · have hLO : ∀ W, Calls Try.prog 67 #[.int .u32 (v.line : Int)] W fun e w' => e = .returned (.int .u32 (v.line : Int)) ∧ Bel W w' := by
                  intro W
                  have := LineOf_any v.line W hv1
                  rw [h16, Nat.sub_zero] at this
                  exact this.mono fun e w' ⟨he, d, hd⟩ => ⟨he, by rw [hd]; exact Bel.drewN _ _⟩
                replace hLO := Lib.hid hLO
                have hSO := Lib.hid (fun W => setOf_any ways (some ⟨g0, o0, none⟩) n c v.line W hn.out hv1)
                by_cases hkk : v.line / 16 % n = k
                · rw [hkk] at hSO
                  refine wp_region_quiet_below (by kernel_rfl) (by kernel_rfl) ?_; (repeat (first | (go_big_quiet_want; refine quiet_load 36 (.tmp 1) (by rfl) w.heap.size (by rfl) _ LC.out _ rfl ?_; go_frame; go_big_quiet_on) | go_big_quiet_step ((first | (go_at_call 67; exact grow1 (hLO.out _)) | (go_at_call 71; exact grow1 (hSO.out _)))))); (refine wpQuiet_nil ?_; intro wq hw'; obtain ⟨⟨dq, osq⟩, hw''⟩ := hw'; subst hw'')
                  have hbq := bel_grow w1 dq osq
                  have hk12 := hk1.bel hbq
                  have hb12 := hb1.trans hbq
                  clear LC D0 d0
                  revert hk12 hb12
                  clear hbq
                  generalize grow (redrawn w1 dq) osq = W2
                  intro hk12 hb12
                  have e0 := hk12.cell_of 0 _ rfl
                  have e2 := hk12.cell_of 2 _ rfl
                  have E0 := fun d os => cell_regrown e0 d os
                  by_cases hsz : v.data.size = 0 ∨ v.data.size = 16
                  · have hsp : (((v.data.size : Int) != 0) = false) ∨ (((v.data.size : Int) != 0) = true ∧ ((v.data.size : Int) != 16) = false) := by
                      rcases hsz with h | h
                      · exact .inl (by rw [h]; rfl)
                      · exact .inr ⟨by rw [h]; rfl, by rw [h]; rfl⟩
                    replace hsz := Lib.hid hsz
                    rcases hsp with z1 | ⟨z1, z2⟩
                    · have hjm1 : (j : Int) ≤ (m : Int) := by omega
                      have hj0 : (0 : Int) ≤ (j : Int) := by omega
                      have hjm2 : (m : Int) ≤ (sc : Int) := by omega
                      go_upto_region 16 with (fail)
                      have htk := ((hset.out.bel hb12).to (Nat.le_of_lt hjm))
                      rw [wys_take] at htk
                      rcases first_at (ws.take j) v.line with hni | ⟨i, u, ha, hf⟩
                      · have hPL := Lib.hid (fun W (hw : Bel W2 W) => place_any _ j sc (ws.take j) v.line W (htk.bel hw) 0 false (.inr ⟨rfl, rfl, hni⟩))
                        replace hni := Lib.hid hni
                        replace htk := Lib.hid htk
                        replace h16 := Lib.hid h16
                        replace hkk := Lib.hid hkk
                        refine wp_region_quiet_below (by kernel_rfl) (by kernel_rfl) ?_; (repeat (go_big_quiet_step ((go_at_call 72; exact grow1 (hPL.out _ (bel_grow _ _ _)))))); (refine wpQuiet_nil ?_; intro wq hw'; obtain ⟨⟨dq, osq⟩, hw''⟩ := hw'; subst hw'')
                        go_wp2
                        go_roundw
                        case rel => exact ⟨j + 1, by omega, by go_num, fun i hi v' hv' => (way_step hin.out hat.out h16.out hkk.out hsz.out hni.out i hi v' hv'), hb12.trans (bel_grow _ _ _)⟩
                        case measure => first | (simp [intOf]; done) | (simp [intOf]; omega)
                      · have hPL := Lib.hid (fun W (hw : Bel W2 W) => place_any _ j sc (ws.take j) v.line W (htk.bel hw) i true (.inl ⟨rfl, u, ha, hf⟩))
                        have Hno := Lib.hid (hBad.out (way_dup ha))
                        replace hf := Lib.hid hf
                        replace htk := Lib.hid htk
                        replace ha := Lib.hid ha
                        replace h16 := Lib.hid h16
                        replace hkk := Lib.hid hkk
                        refine wp_region_quiet_below (by kernel_rfl) (by kernel_rfl) ?_; (repeat (go_big_quiet_step ((go_at_call 72; exact grow1 (hPL.out _ (bel_grow _ _ _)))))); (refine wpQuiet_nil ?_; intro wq hw'; obtain ⟨⟨dq, osq⟩, hw''⟩ := hw'; subst hw'')
                        go_wp2
                        go_ret
                        exact ⟨val_bool (by rw [Hno.out]), hbel.out.trans (hbw.trans (hb12.trans (bel_grow _ _ _)))⟩
                    · have hjm1 : (j : Int) ≤ (m : Int) := by omega
                      have hj0 : (0 : Int) ≤ (j : Int) := by omega
                      have hjm2 : (m : Int) ≤ (sc : Int) := by omega
                      go_upto_region 16 with (fail)
                      have htk := ((hset.out.bel hb12).to (Nat.le_of_lt hjm))
                      rw [wys_take] at htk
                      rcases first_at (ws.take j) v.line with hni | ⟨i, u, ha, hf⟩
                      · have hPL := Lib.hid (fun W (hw : Bel W2 W) => place_any _ j sc (ws.take j) v.line W (htk.bel hw) 0 false (.inr ⟨rfl, rfl, hni⟩))
                        replace hni := Lib.hid hni
                        replace htk := Lib.hid htk
                        replace h16 := Lib.hid h16
                        replace hkk := Lib.hid hkk
                        refine wp_region_quiet_below (by kernel_rfl) (by kernel_rfl) ?_; (repeat (go_big_quiet_step ((go_at_call 72; exact grow1 (hPL.out _ (bel_grow _ _ _)))))); (refine wpQuiet_nil ?_; intro wq hw'; obtain ⟨⟨dq, osq⟩, hw''⟩ := hw'; subst hw'')
                        go_wp2
                        go_roundw
                        case rel => exact ⟨j + 1, by omega, by go_num, fun i hi v' hv' => (way_step hin.out hat.out h16.out hkk.out hsz.out hni.out i hi v' hv'), hb12.trans (bel_grow _ _ _)⟩
                        case measure => first | (simp [intOf]; done) | (simp [intOf]; omega)
                      · have hPL := Lib.hid (fun W (hw : Bel W2 W) => place_any _ j sc (ws.take j) v.line W (htk.bel hw) i true (.inl ⟨rfl, u, ha, hf⟩))
                        have Hno := Lib.hid (hBad.out (way_dup ha))
                        replace hf := Lib.hid hf
                        replace htk := Lib.hid htk
                        replace ha := Lib.hid ha
                        replace h16 := Lib.hid h16
                        replace hkk := Lib.hid hkk
                        refine wp_region_quiet_below (by kernel_rfl) (by kernel_rfl) ?_; (repeat (go_big_quiet_step ((go_at_call 72; exact grow1 (hPL.out _ (bel_grow _ _ _)))))); (refine wpQuiet_nil ?_; intro wq hw'; obtain ⟨⟨dq, osq⟩, hw''⟩ := hw'; subst hw'')
                        go_wp2
                        go_ret
                        exact ⟨val_bool (by rw [Hno.out]), hbel.out.trans (hbw.trans (hb12.trans (bel_grow _ _ _)))⟩
                  · have z1 : ((v.data.size : Int) != 0) = true := by rw [bne_iff_ne]; omega
                    have z2 : ((v.data.size : Int) != 16) = true := by rw [bne_iff_ne]; omega
                    have Hno := Lib.hid (hBad.out fun hw => hsz hw.2.2.1)
                    clear hsz E0
                    go_wp2
                    go_ret
                    exact ⟨val_bool (by rw [Hno.out]), hbel.out.trans (hbw.trans hb12)⟩
                · have Hno := Lib.hid (hBad.out fun hw => hkk hw.2.1)
                  obtain ⟨t, ht⟩ : ∃ t, v.line / 16 % n = t := ⟨_, rfl⟩
                  rw [ht] at hSO hkk
                  have hb12 : ((t : Int) != (k : Int)) = true := by rw [bne_iff_ne]; omega
                  clear hkk ht
                  refine wp_region_quiet_below (by kernel_rfl) (by kernel_rfl) ?_; (repeat (first | (go_big_quiet_want; refine quiet_load 36 (.tmp 1) (by rfl) w.heap.size (by rfl) _ LC.out _ rfl ?_; go_frame; go_big_quiet_on) | go_big_quiet_step ((first | (go_at_call 67; exact grow1 (hLO.out _)) | (go_at_call 71; exact grow1 (hSO.out _)))))); (refine wpQuiet_nil ?_; intro wq hw'; obtain ⟨⟨dq, osq⟩, hw''⟩ := hw'; subst hw'')
                  go_wp2
                  go_ret
                  exact ⟨val_bool (by rw [Hno.out]), hbel.out.trans (hbw.trans (hb1.trans (bel_grow _ _ _)))⟩
              · have hLO : ∀ W, Calls Try.prog 67 #[.int .u32 (v.line : Int)] W fun e w' => e = .returned (.int .u32 ((v.line - v.line % 16 : Nat) : Int)) ∧ Bel W w' := by
                  intro W
                  exact (LineOf_any v.line W hv1).mono fun e w' ⟨he, d, hd⟩ => ⟨he, by rw [hd]; exact Bel.drewN _ _⟩
                have hnl : (((v.line - v.line % 16 : Nat) : Int) != (v.line : Int)) = true := by rw [bne_iff_ne]; omega
                have Hno := Lib.hid (hBad.out fun hw => h16 hw.1)
                have hSO : Hid True := Lib.hid trivial
                revert hLO hnl
                generalize v.line - v.line % 16 = lo
                intro hLO hnl
                replace hLO := Lib.hid hLO
                clear h16
                refine wp_region_quiet_below (by kernel_rfl) (by kernel_rfl) ?_
                repeat (go_big_quiet_step ((go_at_call 67; exact grow1 (hLO.out _))))
                (refine wpQuiet_nil ?_; intro wq hw'; obtain ⟨⟨dq, osq⟩, hw''⟩ := hw'; subst hw'')
                go_wp2
                go_ret
                exact ⟨val_bool (by rw [Hno.out]), hbel.out.trans (hbw.trans (hb1.trans (bel_grow _ _ _)))⟩
            · obtain rfl : j = m := by omega
              go_wp2
              go_roundw
              case rel =>
                refine ⟨k + 1, by omega, by go_num, fun k' hk' s hs' => ?_, hbw.trans hbi⟩
                rcases Nat.lt_or_ge k' k with h | h
                · exact hall.out k' h s hs'
                · obtain rfl : k' = k := by omega
                  have e := hcont.out
                  rw [hs'] at e
                  injection e with e
                  subst e
                  exact ⟨by rw [hwl.out]; exact hlen.out, fun i v hv => hin.out i (by have := (List.getElem?_eq_some_iff.1 hv).1; have := hwl.out; omega) v hv⟩
              case measure => first | (simp [intOf]; done) | (simp [intOf]; omega)
        · have hd : decide (ways < (m : Int)) = true := by simpa using hlen
          have Hno : Hid (b = false) := by
            show b = false
            cases hbb : b
            · rfl
            · exact absurd ((Hb.out.1 hbb k _ hcont.out).1) (by rw [hwl.out]; exact hlen)
          clear hlen
          go_wp2
          go_ret
          exact ⟨val_bool (by rw [Hno.out]), hbel.out.trans hbw⟩
      · obtain rfl : k = n := by omega
        have Hyes : Hid (b = true) := Lib.hid (Hb.out.2 fun k' s hk' => hall.out k' (by have := (List.getElem?_eq_some_iff.1 hk').1; rw [cont_len] at this; have := Hsl.out; omega) s hk')
        go_wp2
        go_ret
        exact ⟨val_bool (by rw [Hyes.out]), hbel.out.trans hbw⟩

theorem Right_any (ways : Int) (A : Option Addr) (n c : Nat) (S : List Cs) (w : World) (hr : RdS w w.heap.size A n c S) (ho : SOk S) (b : Bool) (hb : b = true ↔ RightP ways (cont S)) :
    Calls Try.prog 35 #[.agg #[.int .i64 ways, .slice A n c]] w fun e w' => e = .returned (.bool b) ∧ Bel w w' := by
  have hl : (cont S).length = n := by rw [cont_len, hr.slen]
  by_cases h : (n = 1 ∨ n = 2 ∨ n = 4) ∧ (ways = 1 ∨ ways = 2)
  · refine Right_loop ways A n c S w hr ho h.1 h.2 b ⟨fun e => ?_, fun e => ?_⟩
    · have := (hb.1 e).hs
      rwa [hl] at this
    · exact hb.2 ⟨by rw [hl]; exact h.1, h.2, by rw [hl]; exact e⟩
  · obtain rfl : b = false := by
      cases hbb : b
      · rfl
      · have := hb.1 hbb
        exact absurd ⟨by have := this.hn; rwa [hl] at this, this.hw⟩ h
    exact Right_bad ways A n c w hr.rd.le hr.rd.mx h

end Go.Proofs.Ytcahadkkjfijfaa
