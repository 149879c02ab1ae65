/- The statement GuessKeeps: the walk's first part: the loop. -/
import Derived.Test.YtghekfdpgeopjaaGuessL
import Derived.Test.YtghekfdpgeopjaaQl
import Derived.Deep.RegionHeld3
set_option linter.unusedVariables false
set_option linter.unusedSimpArgs false
set_option maxRecDepth 100000
namespace Go.Proofs.Ytghekfdpgeopjaa
open Go.RowKit Go.Sort

/-- a row that reads as a list, its own block being as it was -/
theorem Rd.stay' {w w' : World} {B B' sz n c : Nat} {A : Option Addr} {xs : List Value} (h : Rd w B sz A n c xs) (hk : 0 < n → ∀ g o, A = some ⟨g, o, none⟩ → g < B → w'.heap[g]? = w.heap[g]?) (hB : B ≤ B') : Rd w' B' sz A n c xs :=
  ⟨h.len, h.le, h.mx, fun hn => by
    obtain ⟨g, o, e, hb, hc⟩ := h.at_ hn
    exact ⟨g, o, e, by omega, fun j u hu => (World.cell?_of_block (hk hn g o e hb)).trans (hc j u hu)⟩⟩
/-- the cells of a guess, its slices being in other blocks than b -/
structure GK (w : World) (b : Nat) (As : Option Addr) (cs : Nat) (sl : List Sl) (h : Nat) (Ar : Option Addr) (nr cr : Nat) (rets : List Nat) : Prop where
  s : Rd w w.heap.size 2 As 8 cs (sls sl)
  r : Rd w w.heap.size 1 Ar nr cr (u32v rets)
  h : h < 8
  n : nr ≤ 4
  a : ∀ g o, As = some ⟨g, o, none⟩ → g ≠ b
  c : 0 < nr → ∀ g o, Ar = some ⟨g, o, none⟩ → g ≠ b
theorem GK.bel {w w' : World} {b : Nat} {As : Option Addr} {cs : Nat} {sl : List Sl} {h : Nat} {Ar : Option Addr} {nr cr : Nat} {rets : List Nat} (g : GK w b As cs sl h Ar nr cr rets) (hb : Bel w w') : GK w' b As cs sl h Ar nr cr rets :=
  ⟨g.s.bel hb, g.r.bel hb, g.h, g.n, g.a, g.c⟩
theorem GK.stay {w w' : World} {b X : Nat} {As : Option Addr} {cs : Nat} {sl : List Sl} {h : Nat} {Ar : Option Addr} {nr cr : Nat} {rets : List Nat} (g : GK w b As cs sl h Ar nr cr rets) (gx : GK w X As cs sl h Ar nr cr rets) (ho : ∀ k, k ≠ X → w'.heap[k]? = w.heap[k]?) (hs : w.heap.size ≤ w'.heap.size) : GK w' b As cs sl h Ar nr cr rets :=
  ⟨g.s.stay' (fun _ a o e _ => ho _ (gx.a a o e)) hs, g.r.stay' (fun hn a o e _ => ho _ (gx.c hn a o e)) hs, g.h, g.n, g.a, g.c⟩
theorem retsL_le (rets : List Nat) (pc : Nat) (i : Ins) (h : rets.length ≤ 4) : (retsL rets pc i).length ≤ 4 := by
  unfold retsL
  split
  · split
    · rw [List.length_drop, List.length_append]; simp; omega
    · rw [List.length_append]; simp; omega
  · split
    · rw [List.length_take]; omega
    · exact h

/-- what training leaves: it may be -/
def TrainP (b X : Nat) (W : World) (e : Ending) (w' : World) : Prop := ∃ (As : Option Addr) (cs : Nat) (sl : List Sl) (h : Nat) (Ar : Option Addr) (nr cr : Nat) (rets : List Nat), e = .returned (.agg #[.slice As 8 cs, .int .u32 (h : Int), .slice Ar nr cr]) ∧ GK w' b As cs sl h Ar nr cr rets ∧ GK w' X As cs sl h Ar nr cr rets ∧ Bel W w'
theorem Train_keep (b X : Nat) (As Ar : Option Addr) (cs h nr cr pc next : Nat) (sl : List Sl) (rets : List Nat) (i : Ins) (w : World) (hp : pc < 4294967296) (hnx : next < 4294967296) (hi : -9223372036854775808 ≤ i.op ∧ i.op ≤ 9223372036854775807)
    (g : GK w b As cs sl h Ar nr cr rets) (g2 : GK w X As cs sl h Ar nr cr rets) (hb : b < w.heap.size) (hX : X < w.heap.size) :
    Calls Try.prog 6 #[gv As 8 cs h Ar nr cr, .int .u32 (pc : Int), .int .u32 (next : Int), i.val] w (TrainP b X w) := by
  by_cases hk : kindI i.op = 5
  · refine (Train_jump As Ar cs h nr cr pc next sl rets i w g.h g.n hp hnx hi hk g.s g.r).mono ?_
    rintro e w' ⟨v, rfl, ⟨As', cs', sl', Ar', nr', cr', rfl, r1, r2, l1, l2⟩, hbl⟩
    have hh : histL h pc next < 8 := Nat.mod_lt _ (by omega)
    have hn : nr' ≤ 4 := by
      have e1 := r2.u32len
      have := retsL_le rets pc i (by rw [g.r.u32len]; exact g.n)
      omega
    exact ⟨As', cs', sl', _, Ar', nr', cr', _, rfl, ⟨r1, r2, hh, hn, fun g o e => by have := l1 g o e; omega, fun _ g o e => by have := l2 g o e; omega⟩, ⟨r1, r2, hh, hn, fun g o e => by have := l1 g o e; omega, fun _ g o e => by have := l2 g o e; omega⟩, hbl⟩
  · refine (Train_same As Ar cs h nr cr pc next i w g.h g.n hi hk).mono ?_
    rintro e w' ⟨rfl, hbl⟩
    exact ⟨As, cs, sl, h, Ar, nr, cr, rets, rfl, g.bel hbl, g2.bel hbl, hbl⟩

/-- behind a call: its place is the last one -/
theorem rets_call (rets : List Nat) (pc : Nat) (h : rets.length ≤ 4) : (retsL rets pc ⟨3, 1, 0, 0, 40⟩).length = min (rets.length + 1) 4 ∧ (retsL rets pc ⟨3, 1, 0, 0, 40⟩)[min (rets.length + 1) 4 - 1]? = some ((pc + 4) % 4294967296) := by
  unfold retsL
  rw [if_pos (by decide)]
  split
  · rename_i e
    refine ⟨by simp [e], ?_⟩
    rw [e, List.getElem?_drop, List.getElem?_append_right (by omega)]
    simp [e]
  · rename_i e
    refine ⟨by simp; omega, ?_⟩
    rw [List.getElem?_append_right (by omega), show min (rets.length + 1) 4 - 1 - rets.length = 0 by omega]
    rfl
theorem rets_back (l : List Nat) (pc : Nat) (h : 0 < l.length) : (retsL l pc ⟨4, 0, 1, 0, 0⟩).length = l.length - 1 := by
  unfold retsL
  rw [if_neg (by decide), if_pos ⟨by decide, h⟩, List.length_take]
  omega
set_option maxHeartbeats 1000000 in
theorem GuessKeeps_any (A1 : Option Addr) (n1 c1 : Nat) (ps : List Nat) (A2 : Option Addr) (n2 c2 : Nat) (js : List Ins) (A3 : Option Addr) (n3 c3 : Nat) (qs : List Nat) (pc : Nat) (w : World)
    (hp : Rd w w.heap.size 1 A1 n1 c1 (u32v ps)) (hpl : ∀ z ∈ ps, z < 4294967296) (hj : Rd w w.heap.size 5 A2 n2 c2 (inss js)) (hjl : ∀ z ∈ js, InsOk z) (hq : Rd w w.heap.size 1 A3 n3 c3 (u32v qs)) (hql : ∀ z ∈ qs, z < 4294967296) (hpc : pc < 4294967296) :
    Calls Try.prog 3 #[.slice A1 n1 c1, .slice A2 n2 c2, .slice A3 n3 c3, .int .u32 (pc : Int)] w fun e w' => e = .returned (.bool true) ∧ Bel w w' := by
  obtain ⟨N, hN, hN1, hN2, hN3⟩ : ∃ N : Nat, (N : Int) = min (min (min (n1 : Int) (n2 : Int)) (n3 : Int)) 40 ∧ N ≤ n1 ∧ N ≤ n2 ∧ N ≤ n3 := ⟨min (min (min n1 n2) n3) 40, by omega, by omega, by omega, by omega⟩
  replace hN := Lib.hid hN
  replace hpl := Lib.hid hpl
  replace hql := Lib.hid hql
  replace hjl := Lib.hid hjl
  have hm1 := hp.le
  have hm2 := hp.mx
  have hm3 := hq.le
  have hm4 := hq.mx
  have hm5 := hj.le
  have hm6 := hj.mx
  unfold maxLen at hm2 hm4 hm6
  go_enter Try.func3, Try.ntmps3
  go_wp2_with (first | (go_at_call 5; refine (New_any _).mono ?_; unfold gv; rintro e w1 ⟨rfl, hs1, hb1⟩) | (refine wpList_min4 rfl _ _ _ _ _ (by rfl) _ _ _ _ _ _ _ _ (N : Int) (by rfl) (by rfl) (by rfl) (by rfl) hN.out ?_))
  have hB := Bk.new' w1 27 [.slice (some ⟨w.heap.size + 1, 0, none⟩) 8 8, .int .u32 0, .slice none 0 0] w1.heap.size rfl
  have hbel := hb1.trans (Bel.alloc w1 (.cells [Value.slice (some ⟨w.heap.size + 1, 0, none⟩) 8 8, .int .u32 0, .slice none 0 0].toArray 27))
  have gk0 : GK (w1.alloc (.cells [Value.slice (some ⟨w.heap.size + 1, 0, none⟩) 8 8, .int .u32 0, .slice none 0 0].toArray 27)) w1.heap.size (some ⟨w.heap.size + 1, 0, none⟩) 8 (List.replicate 8 ⟨0, 0⟩) 0 none 0 0 [] := by
    refine ⟨hs1.bel (Bel.alloc _ _), Rd.nil (Nat.zero_le _), by omega, by omega, fun g o e => ?_, fun h => absurd h (by omega)⟩
    obtain ⟨g', o', e', hg, _⟩ := hs1.at_ (by omega)
    rw [e] at e'
    injection e' with e'
    injection e' with e1 _
    omega
  have hBw : w.heap.size ≤ w1.heap.size := hb1.size
  revert hB hbel gk0
  generalize hBB : w1.heap.size = B at *
  generalize w1.alloc _ = W0
  intro hB hbel gk0
  clear hBB
  replace gk0 := Lib.hid gk0
  replace hbel := Lib.hid hbel
  go_loopw [10, 11, 23] (fun k10 k11 i wr => ∃ k : Nat, k ≤ N ∧ i = .int .i64 (k : Int) ∧ (∃ (As : Option Addr) (cs : Nat) (sl : List Sl) (h : Nat) (Ar : Option Addr) (nr cr : Nat) (rets : List Nat), Bk wr B 27 [.slice As 8 cs, .int .u32 (h : Int), .slice Ar nr cr] ∧ GK wr B As cs sl h Ar nr cr rets) ∧ Bel w wr) (fun _ _ i _ => N - (intOf i).toNat)
  case atStart => exact ⟨0, by omega, rfl, ⟨_, _, _, 0, _, _, _, _, hB, gk0.out⟩, hbel.out⟩
  case round =>
    obtain ⟨k, hk, rfl, ⟨As, cs, sl, h, Ar, nr, cr, rets, hkB, gk⟩, hbw⟩ := hrel
    clear hB gk0
    by_cases hkn : k < N
    · obtain ⟨hl1, g1, o1, rfl, hg1, p0⟩ := hp.u32at (k := k) (by omega)
      obtain ⟨hl3, g3, o3, rfl, hg3, q0⟩ := hq.u32at (k := k) (by omega)
      obtain ⟨hl2, g2, o2, rfl, hg2, j0, j1, j2, j3, j4⟩ := hj.inssat (k := k) (by omega)
      have p1 := hbw.cell_of p0
      have q1 := hbw.cell_of q0
      have i0 := hbw.cell_of j0
      have i1 := hbw.cell_of j1
      have i2 := hbw.cell_of j2
      have i3 := hbw.cell_of j3
      have i4 := hbw.cell_of j4
      have hz1 := hpl.out _ (List.getElem_mem hl1)
      have hz3 := hql.out _ (List.getElem_mem hl3)
      have hz2 := (hjl.out _ (List.getElem_mem hl2)).1
      have c0 := hkB.cell_of 0 _ rfl
      have c1 := hkB.cell_of 1 _ rfl
      have c2 := hkB.cell_of 2 _ rfl
      have hBl := hkB.lt
      have hls := hbw.size
      have HT1 := Lib.hid (fun W (hw : Bel wr W) (hX : wr.heap.size < W.heap.size) => Train_keep B wr.heap.size As Ar cs h nr cr (ps[k]'hl1) (qs[k]'hl3) sl rets (js[k]'hl2) W hz1 hz3 hz2 (gk.bel hw) ⟨(gk.bel hw).s, (gk.bel hw).r, gk.h, gk.n, fun g o e => by obtain ⟨g', o', e', hg, _⟩ := gk.s.at_ (by omega); rw [e] at e'; injection e' with e'; injection e' with e1 _; omega, fun hn g o e => by obtain ⟨g', o', e', hg, _⟩ := gk.r.at_ hn; rw [e] at e'; injection e' with e'; injection e' with e1 _; omega⟩ (by have := hw.size; omega) hX)
      have HT2 := Lib.hid (fun W (hw : Bel wr W) => Train_keep B B As Ar cs h nr cr (ps[k]'hl1) (qs[k]'hl3) sl rets (js[k]'hl2) W hz1 hz3 hz2 (gk.bel hw) (gk.bel hw) (by have := hw.size; omega) (by have := hw.size; omega))
      unfold gv Ins.val at HT1 HT2
      replace p0 := Lib.hid p0
      replace q0 := Lib.hid q0
      clear j0 j1 j2 j3 j4
      have hk0 : (0 : Int) ≤ (k : Int) := by omega
      have hkn1 : (k : Int) < (n1 : Int) := by omega
      have hkn2 : (k : Int) < (n2 : Int) := by omega
      have hkn3 : (k : Int) < (n3 : Int) := by omega
      go_upto_region 5 with (fail)
      go_region_held3 (fun w' => w'.cell? ⟨B, 0, none⟩ = some (.slice As 8 cs) ∧ w'.cell? ⟨B, 1, none⟩ = some (.int .u32 (h : Int)) ∧ w'.cell? ⟨B, 2, none⟩ = some (.slice Ar nr cr) ∧ w'.cell? ⟨g1, o1 + k, none⟩ = some (.int .u32 ((ps[k]'hl1 : Nat) : Int)) ∧ w'.cell? ⟨g3, o3 + k, none⟩ = some (.int .u32 ((qs[k]'hl3 : Nat) : Int)) ∧ w'.cell? ⟨g2, o2 + k * 5, none⟩ = some (.int .i64 (js[k]'hl2).op) ∧ w'.cell? ⟨g2, o2 + k * 5 + 1, none⟩ = some (.int .i64 (js[k]'hl2).rd) ∧ w'.cell? ⟨g2, o2 + k * 5 + 2, none⟩ = some (.int .i64 (js[k]'hl2).rs1) ∧ w'.cell? ⟨g2, o2 + k * 5 + 3, none⟩ = some (.int .i64 (js[k]'hl2).rs2) ∧ w'.cell? ⟨g2, o2 + k * 5 + 4, none⟩ = some (.int .u32 ((js[k]'hl2).imm : Int))) (first | (refine (fun (hq : Bel wr _) => ⟨hq.cell_of c0, hq.cell_of c1, hq.cell_of c2, hq.cell_of p1, hq.cell_of q1, hq.cell_of i0, hq.cell_of i1, hq.cell_of i2, hq.cell_of i3, hq.cell_of i4⟩) ?_; first | exact hw5 | exact hw5.trans (Bel.alloc _ _) | exact ((hw5.setCell (p := ⟨wr.heap.size, 0, none⟩) (Nat.le_refl _) _).setCell (p := ⟨wr.heap.size, 1, none⟩) (Nat.le_refl _) _).setCell (p := ⟨wr.heap.size, 2, none⟩) (Nat.le_refl _) _) | go_keep)
        (first | (go_at_call 6; refine (HT1.out _ ((Bel.drew wr).trans (Bel.alloc _ _)) (by simp)).mono ?_; rintro e w5 ⟨As2, cs2, sl2, h2, Ar2, nr2, cr2, rets2, rfl, gB, gX, hn⟩; have hw5 := (Bel.drew wr).trans ((Bel.alloc _ _).trans hn); obtain ⟨hc5, hf5⟩ := bcell hn; have hx5 : wr.heap.size < w5.heap.size := Nat.lt_of_lt_of_le (by simp) hn.size) | (go_at_call 6; refine (HT2.out _ (Bel.drew wr)).mono ?_; rintro e w5 ⟨As2, cs2, sl2, h2, Ar2, nr2, cr2, rets2, rfl, gB, gX, hn⟩; have hw5 := (Bel.drew wr).trans hn))
      · have hX := Bk.new' w5 27 [.slice As2 8 cs2, .int .u32 (h2 : Int), .slice Ar2 nr2 cr2] w5.heap.size rfl
        have gB6 := gB.bel (Bel.alloc w5 (.cells [Value.slice As2 8 cs2, .int .u32 (h2 : Int), .slice Ar2 nr2 cr2].toArray 27))
        have hb6 := hw5.trans (Bel.alloc w5 (.cells [Value.slice As2 8 cs2, .int .u32 (h2 : Int), .slice Ar2 nr2 cr2].toArray 27))
        clear hn
        revert hX gB6 hb6
        generalize w5.alloc _ = w6
        generalize w5.heap.size = X
        intro hX gB6 hb6
        replace hkB := hkB.bel hb6
        have hRR := fun W => refRight_yes As2 Ar2 cs2 h2 nr2 cr2 W gB6.h gB6.n
        unfold gv at hRR
        replace hRR := Lib.hid hRR
        replace hb6 := Lib.hid (hbw.trans hb6)
        clear HT1 HT2 c0 c1 c2 p1 q1 i0 i1 i2 i3 i4 gB gX
        go_wp2_with (first | (refine wpList_load_bk (by rfl) 27 (.tmp 11) (by rfl) X (by rfl) 27 _ _ rfl hX gTy ?_) | (go_at_call 7; refine (hRR.out _).mono ?_; rintro e w7 ⟨rfl, hn7⟩; replace hX := hX.bel hn7; replace hkB := hkB.bel hn7; have gB7 := gB6.bel hn7; replace hb6 := Lib.hid (hb6.out.trans hn7)) | (refine wpList_store_bk (by rfl) 27 (.tmp 9) (.tmp 43) (by rfl) B [.slice As2 8 cs2, .int .u32 (h2 : Int), .slice Ar2 nr2 cr2] (by rfl) (by rfl) 27 _ hkB rfl gTy (by simp [Value.oneCell']) ?_; intro w8 hk8 hs8 ho8 hbe8; have gB8 := gB7.stay gB7 ho8 (Nat.le_of_eq hs8.symm); replace hbe8 := Lib.hid (hbe8 w hb6.out hBw); clear hs8 ho8))
        go_roundw
        case rel => exact ⟨k + 1, by omega, by go_num, ⟨As2, cs2, sl2, h2, Ar2, nr2, cr2, rets2, hk8, gB8⟩, hbe8.out⟩
        case measure => first | (simp [intOf]; done) | (simp [intOf]; omega)
      · have hX := ((((Bk.new' wr.drew 27 [.slice none 0 0, .int .u32 0, .slice none 0 0] wr.heap.size rfl).bel hn).set_ 0 (.slice As2 8 cs2)).set_ 1 (.int .u32 (h2 : Int))).set_ 2 (.slice Ar2 nr2 cr2)
        have gB6 : GK (((w5.setCell ⟨wr.heap.size, 0, none⟩ (.slice As2 8 cs2)).setCell ⟨wr.heap.size, 1, none⟩ (.int .u32 (h2 : Int))).setCell ⟨wr.heap.size, 2, none⟩ (.slice Ar2 nr2 cr2)) B As2 cs2 sl2 h2 Ar2 nr2 cr2 rets2 :=
          gB.stay gX (fun k hk => by rw [Below.heap_setCell _ _ _ k hk, Below.heap_setCell _ _ _ k hk, Below.heap_setCell _ _ _ k hk]) (by simp [World.setCell])
        have hb6 := ((hw5.setCell (p := ⟨wr.heap.size, 0, none⟩) (Nat.le_refl _) (.slice As2 8 cs2)).setCell (p := ⟨wr.heap.size, 1, none⟩) (Nat.le_refl _) (.int .u32 (h2 : Int))).setCell (p := ⟨wr.heap.size, 2, none⟩) (Nat.le_refl _) (.slice Ar2 nr2 cr2)
        clear hn hc5 hf5 hx5
        revert hX gB6 hb6
        generalize ((w5.setCell _ _).setCell _ _).setCell _ _ = w6
        intro hX gB6 hb6
        revert hX
        generalize wr.heap.size = X at *
        intro hX
        replace hkB := hkB.bel hb6
        have hRR := fun W => refRight_yes As2 Ar2 cs2 h2 nr2 cr2 W gB6.h gB6.n
        unfold gv at hRR
        replace hRR := Lib.hid hRR
        replace hb6 := Lib.hid (hbw.trans hb6)
        clear HT1 HT2 c0 c1 c2 p1 q1 i0 i1 i2 i3 i4 gB gX
        go_wp2_with (first | (refine wpList_load_bk (by rfl) 27 (.tmp 11) (by rfl) X (by rfl) 27 _ _ rfl hX gTy ?_) | (go_at_call 7; refine (hRR.out _).mono ?_; rintro e w7 ⟨rfl, hn7⟩; replace hX := hX.bel hn7; replace hkB := hkB.bel hn7; have gB7 := gB6.bel hn7; replace hb6 := Lib.hid (hb6.out.trans hn7)) | (refine wpList_store_bk (by rfl) 27 (.tmp 9) (.tmp 43) (by rfl) B [.slice As2 8 cs2, .int .u32 (h2 : Int), .slice Ar2 nr2 cr2] (by rfl) (by rfl) 27 _ hkB rfl gTy (by simp [Value.oneCell']) ?_; intro w8 hk8 hs8 ho8 hbe8; have gB8 := gB7.stay gB7 ho8 (Nat.le_of_eq hs8.symm); replace hbe8 := Lib.hid (hbe8 w hb6.out hBw); clear hs8 ho8))
        go_roundw
        case rel => exact ⟨k + 1, by omega, by go_num, ⟨As2, cs2, sl2, h2, Ar2, nr2, cr2, rets2, hk8, gB8⟩, hbe8.out⟩
        case measure => first | (simp [intOf]; done) | (simp [intOf]; omega)
    · obtain rfl : k = N := by omega
      go_upto_region 11 with (fail)
      have hI := Bk.new' wr 31 [.int .i64 4, .int .i64 0, .int .i64 1, .int .i64 0, .int .u32 0] wr.heap.size rfl
      have hn := Bel.alloc wr (.cells [Value.int .i64 4, .int .i64 0, .int .i64 1, .int .i64 0, .int .u32 0].toArray 31)
      have hBl := hkB.lt
      replace hkB := hkB.bel hn
      replace gk := gk.bel hn
      have hbw1 := hbw.trans hn
      clear hn
      revert hI hkB gk hbw1
      generalize wr.alloc _ = W1
      generalize wr.heap.size = I at *
      intro hI hkB gk hbw1
      have e40 : ((pc : Int) + 40) % 4294967296 = (((pc + 40) % 4294967296 : Nat) : Int) := by omega
      have hT := fun W (hw : Bel W1 W) => Train_jump As Ar cs h nr cr pc ((pc + 40) % 4294967296) sl rets ⟨3, 1, 0, 0, 40⟩ W gk.h gk.n hpc (by omega) (by decide) rfl (gk.bel hw).s (gk.bel hw).r
      rw [← e40] at hT
      clear e40
      unfold gv Ins.val at hT
      simp only at hT
      replace hT := Lib.hid hT
      go_upto_region 12 with (first | (refine wpList_load_bk (by rfl) 27 (.tmp 9) (by rfl) B (by rfl) 27 _ _ rfl hkB gTy ?_) | (go_at_call 6; refine (hT.out _ (Bel.refl _)).mono ?_; rintro e w2 ⟨v, rfl, gr, hn⟩; obtain ⟨As1, cs1, sl1, Ar1, nr1, cr1, rfl, r1, r2, l1, l2⟩ := gr; replace l1 := Lib.hid l1; replace l2 := Lib.hid l2; unfold gv))
      have hm0 := gk.r.u32len
      obtain ⟨hlen1, hlast1⟩ := rets_call rets pc (by rw [hm0]; exact gk.n)
      have hn1 := r1
      have hnr1 := r2.u32len
      rw [hlen1] at hnr1
      have hbC := Bk.new' w2 27 [.slice As1 8 cs1, .int .u32 (histL h pc ((pc + 40) % 4294967296) : Int), .slice Ar1 nr1 cr1] w2.heap.size rfl
      have hna := Bel.alloc w2 (.cells [Value.slice As1 8 cs1, .int .u32 (histL h pc ((pc + 40) % 4294967296) : Int), .slice Ar1 nr1 cr1].toArray 27)
      have hIl := hI.lt
      replace hI := (hI.bel hn).bel hna
      replace hkB := (hkB.bel hn).bel hna
      replace gk := (gk.bel hn).bel hna
      replace r1 := r1.bel hna
      replace r2 := r2.bel hna
      have hbw2 := (hbw1.trans hn).trans hna
      have hh1 : histL h pc ((pc + 40) % 4294967296) < 8 := Nat.mod_lt _ (by omega)
      clear hn hna hn1
      generalize histL h pc ((pc + 40) % 4294967296) = H1 at *
      revert hbC hI hkB gk r1 r2 hbw2
      generalize w2.alloc _ = W2
      generalize w2.heap.size = C at *
      intro hbC hI hkB gk r1 r2 hbw2
      rw [hm0] at hlen1 hlast1 hnr1
      have hn14 : nr1 ≤ 4 := by omega
      have hn10 : 0 < nr1 := by omega
      have hN := fun W (hw : Bel W2 W) => Next_back As1 Ar1 cs1 H1 nr1 cr1 ((pc + 40) % 4294967296) _ ((pc + 4) % 4294967296) ⟨4, 0, 1, 0, 0⟩ W hh1 hn14 (by decide) rfl rfl hn10 (r2.bel hw) (by rw [← hnr1]; exact hlast1)
      have hT2 := fun W (hw : Bel W2 W) => Train_same As1 Ar1 cs1 H1 nr1 cr1 pc 0 ⟨19, 0, 0, 0, 0⟩ W hh1 hn14 (by decide) (by decide)
      have hL := fun W (hw : Bel W2 W) => Like_same As1 cs1 sl1 H1 Ar1 nr1 cr1 _ W (r1.bel hw) (r2.bel hw) hh1 hn14
      unfold gv Ins.val at hN hT2
      simp only at hN hT2
      replace hN := Lib.hid hN
      replace hT2 := Lib.hid hT2
      replace hL := Lib.hid hL
      have LC := Lib.hid (hbC.inClass (P := Try.prog) (ty := 27) gTy)
      have LI := Lib.hid (hI.inClass (P := Try.prog) (ty := 31) inssTy)
      refine wp_region_quiet_below (by kernel_rfl) (by kernel_rfl) ?_
      repeat (first
        | (go_big_quiet_want; refine quiet_load 27 (.tmp 13) (by rfl) C (by rfl) _ LC.out _ rfl ?_; go_frame; go_big_quiet_on)
        | (go_big_quiet_want; refine quiet_load 31 (.tmp 12) (by rfl) I (by rfl) _ LI.out _ rfl ?_; go_frame; go_big_quiet_on)
        | go_big_quiet_step ((first | (go_at_call 8; exact grow1 (hN.out _ (bel_grow _ _ _))) | (go_at_call 6; exact grow1 (hT2.out _ (bel_grow _ _ _))) | (go_at_call 9; exact grow1 (hL.out _ (bel_grow _ _ _))))))
      (refine wpQuiet_nil ?_; intro wq hw'; obtain ⟨⟨dq, osq⟩, hw''⟩ := hw'; subst hw'')
      have hbq := bel_grow W2 dq osq
      have f40 : ((pc : Int) + 40) % 4294967296 = (((pc + 40) % 4294967296 : Nat) : Int) := by omega
      have f4 : ((pc : Int) + 4) % 4294967296 = (((pc + 4) % 4294967296 : Nat) : Int) := by omega
      have hT3 := fun W (hw : Bel W2 W) => Train_jump As1 Ar1 cs1 H1 nr1 cr1 ((pc + 40) % 4294967296) ((pc + 4) % 4294967296) sl1 _ ⟨4, 0, 1, 0, 0⟩ W hh1 hn14 (by omega) (by omega) (by decide) rfl (r1.bel hw) (r2.bel hw)
      rw [← f40, ← f4] at hT3
      clear f40 f4
      unfold gv Ins.val at hT3
      simp only at hT3
      replace hT3 := Lib.hid hT3
      have hl3 := rets_back _ ((pc + 40) % 4294967296) (show 0 < (retsL rets pc ⟨3, 1, 0, 0, 40⟩).length by omega)
      have hm4' := gk.n
      replace hbC := hbC.bel hbq
      replace hI := hI.bel hbq
      replace hkB := hkB.bel hbq
      replace hbw2 := hbw2.trans hbq
      replace hbq := Lib.hid hbq
      clear hN hT2 hL LC LI
      revert hbC hI hkB hbw2 hbq
      generalize grow (redrawn W2 dq) osq = W3
      intro hbC hI hkB hbw2 hbq
      go_upto_region 15 with (first | (refine wpList_load_bk (by rfl) 27 (.tmp 13) (by rfl) C (by rfl) 27 _ _ rfl hbC gTy ?_) | (refine wpList_load_bk (by rfl) 31 (.tmp 12) (by rfl) I (by rfl) 31 _ _ rfl hI inssTy ?_) | (go_at_call 6; refine (hT3.out _ hbq.out).mono ?_; rintro e w5 ⟨v, rfl, gr, hn⟩; obtain ⟨As2, cs2, sl2, Ar2, nr2, cr2, rfl, s1, s2, m1, m2⟩ := gr; clear m1 m2; unfold gv))
      have hnr2 := s2.u32len
      rw [hl3] at hnr2
      have hH2 : histL H1 ((pc + 40) % 4294967296) ((pc + 4) % 4294967296) < 8 := Nat.mod_lt _ (by omega)
      have hbD := Bk.new' w5 27 [.slice As2 8 cs2, .int .u32 (histL H1 ((pc + 40) % 4294967296) ((pc + 4) % 4294967296) : Int), .slice Ar2 nr2 cr2] w5.heap.size rfl
      have hna := Bel.alloc w5 (.cells [Value.slice As2 8 cs2, .int .u32 (histL H1 ((pc + 40) % 4294967296) ((pc + 4) % 4294967296) : Int), .slice Ar2 nr2 cr2].toArray 27)
      replace hkB := (hkB.bel hn).bel hna
      have hbw5 := Lib.hid ((hbw2.trans hn).trans hna)
      have hn24 : nr2 ≤ 4 := by omega
      have hrr := fun W => refRight_yes As2 Ar2 cs2 (histL H1 ((pc + 40) % 4294967296) ((pc + 4) % 4294967296)) nr2 cr2 W hH2 hn24
      unfold gv at hrr
      generalize histL H1 ((pc + 40) % 4294967296) ((pc + 4) % 4294967296) = H2 at *
      replace hrr := Lib.hid hrr
      clear hn hna hbq hT3 s1 s2
      revert hbD hkB hbw5
      generalize w5.alloc _ = W5
      generalize w5.heap.size = D at *
      intro hbD hkB hbw5
      have hnr : nr2 = min nr 3 := by omega
      clear hlen1 hlast1 hnr1 hnr2 hl3
      by_cases h3 : nr ≤ 3
      · have bq : ((nr2 : Int) == (nr : Int)) = true := by simp; omega
        clear hnr
        (go_wp2_with (first | (go_at_call 10; refine (alive_any _).mono ?_; rintro e w8 ⟨rfl, hn8⟩; replace hbD := hbD.bel hn8; replace hkB := hkB.bel hn8) | (refine wpList_load_bk (by rfl) 27 (.tmp 14) (by rfl) D (by rfl) 27 _ _ rfl hbD gTy ?_) | (go_at_call 7; refine (hrr.out _).mono ?_; rintro e w9 ⟨rfl, hn9⟩; have d2 := (hbD.bel hn9).cell_of 2 _ rfl; have e2 := (hkB.bel hn9).cell_of 2 _ rfl)); go_ret; exact ⟨rfl, (hbw5.out.trans hn8).trans hn9⟩)
      · have hnr3 : 3 < nr := by omega
        have bq : ((nr2 : Int) == 3) = true := by simp; omega
        clear hnr h3
        (go_wp2_with (first | (go_at_call 10; refine (alive_any _).mono ?_; rintro e w8 ⟨rfl, hn8⟩; replace hbD := hbD.bel hn8; replace hkB := hkB.bel hn8) | (refine wpList_load_bk (by rfl) 27 (.tmp 14) (by rfl) D (by rfl) 27 _ _ rfl hbD gTy ?_) | (go_at_call 7; refine (hrr.out _).mono ?_; rintro e w9 ⟨rfl, hn9⟩; have d2 := (hbD.bel hn9).cell_of 2 _ rfl; have e2 := (hkB.bel hn9).cell_of 2 _ rfl)); go_ret; exact ⟨rfl, (hbw5.out.trans hn8).trans hn9⟩)

end Go.Proofs.Ytghekfdpgeopjaa
