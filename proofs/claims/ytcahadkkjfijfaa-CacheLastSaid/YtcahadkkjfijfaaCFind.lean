/- The cache package: Find, front, with. -/
import Derived.Test.YtcahadkkjfijfaaCRight
set_option linter.unusedVariables false
set_option linter.unusedSimpArgs false
set_option maxRecDepth 100000
namespace Go.Proofs.Ytcahadkkjfijfaa
open Go.RowKit Go.Sort

theorem Find_no (ways : Int) (A : Option Addr) (n c : Nat) (S : List Cs) (x : Nat) (w : World) (hr : RdS w w.heap.size A n c S) (ho : SOk S) (hno : ¬ RightP ways (cont S)) :
    Calls Try.prog 33 #[.agg #[.int .i64 ways, .slice A n c], .int .u32 (x : Int)] w fun e w' => e = .returned (.tuple #[.int .i64 0, .int .i64 0, .bool false]) ∧ Bel w w' := by
  have HR := Lib.hid (fun W (hw : Bel w W) => Right_any ways A n c S W (hr.bel hw) ho false ⟨fun h => (by cases h), fun h => absurd h hno⟩)
  go_enter Try.func33, Try.ntmps33
  go_upto_region 1 with (fail)
  have hkC := Bk.new' w 36 [.int .i64 ways, .slice A n c] w.heap.size rfl; have hbel := Bel.alloc w (.cells [Value.int .i64 ways, .slice A n c].toArray 36); revert hkC hbel; generalize w.alloc _ = W0; intro hkC hbel; replace hbel := Lib.hid hbel
  go_wp2_with (first | (refine wpList_load_bk (by rfl) 36 (.tmp 2) (by rfl) w.heap.size (by rfl) 36 _ _ rfl hkC cTy ?_) | (go_at_call 35; refine (HR.out _ hbel.out).mono ?_; rintro e w1 ⟨rfl, hn1⟩))
  go_ret3
  exact ⟨rfl, hbel.out.trans hn1⟩
set_option maxHeartbeats 1000000 in
theorem Find_any (ways : Int) (A : Option Addr) (n c : Nat) (S : List Cs) (x : Nat) (w : World) (hr : RdS w w.heap.size A n c S) (ho : SOk S) (hx : x < 4294967296) (hR : RightP ways (cont S)) (k : Nat) (hk : x / 16 % n = k) (set : List Wy) (hset : (cont S)[k]? = some set) (at' : Nat) (b : Bool)
    (hb : (b = true ∧ ∃ v, At set (x - x % 16) at' v ∧ ∀ j < at', ∀ u, set[j]? = some u → u.line ≠ x - x % 16) ∨ (b = false ∧ at' = 0 ∧ NotIn set (x - x % 16))) :
    Calls Try.prog 33 #[.agg #[.int .i64 ways, .slice A n c], .int .u32 (x : Int)] w fun e w' => e = .returned (.tuple #[.int .i64 (k : Int), .int .i64 (at' : Int), .bool b]) ∧ Bel w w' := by
  have hn : n = 1 ∨ n = 2 ∨ n = 4 := by have := hR.hn; rwa [cont_len, hr.slen] at this
  have HR := Lib.hid (fun W (hw : Bel w W) => Right_any ways A n c S W (hr.bel hw) ho true ⟨fun _ => hR, fun _ => rfl⟩)
  have hkn : k < n := by rw [← hk]; exact Nat.mod_lt _ (by omega)
  obtain ⟨hl, g0, o0, rfl, hg0, hcs, hs⟩ := hr.at_ hkn
  rw [cont_at hl] at hset
  have hset' : (S[k]'hl).ws = set := by injection hset
  obtain ⟨s, hs'⟩ : ∃ s, S[k]'hl = s := ⟨_, rfl⟩
  rw [hs'] at hcs hs hset'
  obtain ⟨sA, m, sc, ws⟩ := s
  simp only at hcs hs hset'
  subst hset'
  have HL := Lib.hid (fun W => LineOf_any x W hx)
  have hxx : (x - x % 16) / 16 % n = k := by rw [← hk]; congr 1; omega
  have HS := Lib.hid (fun W => setOf_any ways (some ⟨g0, o0, none⟩) n c (x - x % 16) W hn (by omega))
  rw [hxx] at HS
  have HP := Lib.hid (fun W (hw : Bel w W) => place_any sA m sc ws (x - x % 16) W (hs.bel hw) at' b hb)
  have Hcs := Lib.hid hcs
  have hki : (k : Int) < (n : Int) := by omega
  have hc1 := hr.rd.le
  have hc2 := hr.rd.mx
  unfold maxLen at hc2
  clear hk hxx hset hs' hcs hb hn
  revert HL HS HP
  generalize x - x % 16 = lo
  intro HL HS HP
  obtain ⟨A, hA⟩ : ∃ A, A = (some ⟨g0, o0, none⟩ : Option Addr) := ⟨_, rfl⟩
  go_enter Try.func33, Try.ntmps33
  go_upto_region 1 with (fail)
  have hkC := Bk.new' w 36 [.int .i64 ways, .slice (some ⟨g0, o0, none⟩) n c] w.heap.size rfl
  have hbel := Bel.alloc w (.cells [Value.int .i64 ways, .slice (some ⟨g0, o0, none⟩) n c].toArray 36)
  clear hA
  revert hkC hbel
  generalize w.alloc _ = W0
  intro hkC hbel
  replace hbel := Lib.hid hbel
  go_wp2_with (first | (refine wpList_load_bk (by rfl) 36 (.tmp 2) (by rfl) w.heap.size (by rfl) 36 _ _ rfl hkC cTy ?_) | (go_at_call 35; refine (HR.out _ hbel.out).mono ?_; rintro e w1 ⟨rfl, hn1⟩; replace hkC := hkC.bel hn1; replace hbel := Lib.hid (hbel.out.trans hn1); clear hn1) | (go_at_call 67; refine (HL.out _).mono ?_; rintro e w2 ⟨rfl, d2, rfl⟩; replace hkC := hkC.drewN d2; replace hbel := Lib.hid (hbel.out.trans (Bel.drewN _ d2))) | (go_at_call 71; refine (HS.out _).mono ?_; rintro e w3 ⟨rfl, hn3⟩; replace hkC := hkC.bel hn3; replace hbel := Lib.hid (hbel.out.trans hn3); have cc := hkC.cell_of 1 _ rfl; have ccs := hbel.out.cell_of Hcs.out; clear hn3) | (go_at_call 72; refine (HP.out _ hbel.out).mono ?_; rintro e w4 ⟨rfl, hn4⟩))
  go_ret3
  exact ⟨rfl, hbel.out.trans hn4⟩

theorem wyinfo : (Try.prog.info? 49).map (fun i => (i.zero, i.size, i.bytes)) = some (some (.agg #[.int .u32 0, .bool false, .string ⟨#[]⟩]), 3, 24) := by kernel_rfl
theorem Rd.from_ {w : World} {B n c k g o : Nat} {q : List Wy} (h : Rd w B 3 (some ⟨g, o, none⟩) n c (wys q)) (hk : k ≤ n) : Rd w B 3 (some ⟨g, o + k * 3, none⟩) (n - k) (c - k) (wys (q.drop k)) := by
  have hl := h.wyslen
  refine ⟨by rw [wys_len, List.length_drop]; omega, by have := h.le; omega, by have := h.mx; omega, fun hn => ?_⟩
  obtain ⟨g', o', e, hb, hx⟩ := h.at_ (by omega)
  injection e with e
  injection e with e1 e2
  subst e1 e2
  refine ⟨_, _, rfl, hb, fun j u hu => ?_⟩
  rw [← wys_drop, List.getElem?_drop] at hu
  have := hx (k * 3 + j) u hu
  rwa [show o + (k * 3 + j) = o + k * 3 + j by omega] at this
set_option maxHeartbeats 1000000 in
theorem front_any (A : Option Addr) (n c : Nat) (q : List Wy) (i : Nat) (v : Wy) (w : World) (hr : Rd w w.heap.size 3 A n c (wys q)) (hn : n ≤ 1000) (hv : q[i]? = some v) :
    Calls Try.prog 65 #[.slice A n c, .int .i64 (i : Int)] w fun e w' => ∃ A' c', e = .returned (.slice A' n c') ∧ Rd w' w'.heap.size 3 A' n c' (wys (frontL q i v)) ∧ (∀ g o, A' = some ⟨g, o, none⟩ → w.heap.size ≤ g) ∧ Bel w w' := by
  obtain ⟨i0, hi, hz0, hz1, hz2⟩ := info_parts wyinfo
  have hin : i < n := by have := (List.getElem?_eq_some_iff.1 hv).1; rw [hr.wyslen] at this; exact this
  obtain ⟨hl, g, o, rfl, hg, hce⟩ := hr.wyselem hin
  have hvi : q[i]'hl = v := by have := (List.getElem?_eq_some_iff.1 hv).2; exact this
  rw [hvi] at hce
  replace hce := Lib.hid hce
  have htake := hr.to (N := i) (Nat.le_of_lt hin)
  rw [wys_take] at htake
  replace htake := Lib.hid htake
  have hfrom := Lib.hid (hr.from_ (k := i + 1) (by omega))
  have hc1 := hr.le
  have hc2 := hr.mx
  unfold maxLen at hc2
  have hii : (i : Int) < (n : Int) := by omega
  clear hvi hv
  go_enter Try.func65, Try.ntmps65
  by_cases hcap : c = i + 1
  · have hn1 : n ≤ i + 1 := by omega
    have hdr : q.drop (i + 1) = [] := List.drop_of_length_le (by rw [hr.wyslen]; omega)
    replace hdr := Lib.hid hdr
    have hcap1 : c ≤ i + 1 := by omega
    clear hcap
    go_wp2_with (first | (at_make; refine wpList_make_own _ rfl _ _ 62 (by rfl) w.heap.size 49 i0 _ 3 Try.underlying62 hi hz0 hz1 _ _ _ n (by rfl) (by rfl) (by omega) (by rw [hz2]; omega) (by unfold maxLen; omega) (Nat.le_refl _) ?_; intro w1 hown1 hg1; have hb1 := (Bel.refl w).grown hg1 (by simp); replace hce := Lib.hid (fun j u hu => hb1.cell_of (hce.out j u hu)); clear hg1) | (refine wpList_load_elem (by rfl) 49 (.tmp 12) (by rfl) g (o + i * 3) (by rfl) v.cells (.agg #[.int .u32 (v.line : Int), .bool v.dirty, .string v.data]) rfl hce.out wysTy ?_) | (at_builtin; refine wpList_app w1 v.cells 1 rfl (.tmp 9) (.tmp 14) 62 (by rfl) w.heap.size 49 _ 3 24 Try.underlying62 wyinfo rfl (by decide) _ 0 _ (by rfl) hown1 (by rfl) rfl v.one (by omega) (by omega) hb1.size ?_; intro v2 w2 hown2 hg2; have hb2 := hb1.then_grown hown1 hg2 (Nat.le_refl _); rw [List.nil_append, Nat.zero_add] at hown2; clear hg2) | (at_builtin; refine wpList_app_rd rfl (.tmp 16) (.tmp 19) 62 (by rfl) w.heap.size 49 _ 3 24 Try.underlying62 wyinfo rfl (by decide) v2 1 _ (by rfl) hown2 w.heap.size (some ⟨g, o, none⟩) i c (wys (q.take i)) (by rfl) (htake.out.below hb2) (wys_one _) (by omega) (by omega) hb2.size ?_; intro v3 w3 hown3 hg3; have hb3 := hb2.then_grown hown2 hg3 (Nat.le_refl _); clear hg3) | (at_builtin; refine wpList_app_rd rfl (.tmp 21) (.tmp 25) 62 (by rfl) w.heap.size 49 _ 3 24 Try.underlying62 wyinfo rfl (by decide) v3 (1 + i) _ (by rfl) hown3 w.heap.size _ 0 0 [] (by rfl) (Rd.nil (Nat.zero_le _)) (by simp) (by omega) (by omega) hb3.size ?_; intro v4 w4 hown4 hg4; have hb4 := hb3.then_grown hown3 hg4 (Nat.le_refl _)))
    rw [show 1 + i + 0 = n by omega, show v.cells ++ wys (q.take i) ++ [] = wys (frontL q i v) by simp [frontL, wys, hdr.out]] at hown4
    obtain ⟨A', c', rfl, hr4, hge⟩ := Rd.of_own' hown4
    go_ret
    exact ⟨A', c', rfl, hr4, hge, hb4⟩
  · have hcap2 : i + 1 < c := by omega
    go_wp2_with (first | (at_make; refine wpList_make_own _ rfl _ _ 62 (by rfl) w.heap.size 49 i0 _ 3 Try.underlying62 hi hz0 hz1 _ _ _ n (by rfl) (by rfl) (by omega) (by rw [hz2]; omega) (by unfold maxLen; omega) (Nat.le_refl _) ?_; intro w1 hown1 hg1; have hb1 := (Bel.refl w).grown hg1 (by simp); replace hce := Lib.hid (fun j u hu => hb1.cell_of (hce.out j u hu)); clear hg1) | (refine wpList_load_elem (by rfl) 49 (.tmp 12) (by rfl) g (o + i * 3) (by rfl) v.cells (.agg #[.int .u32 (v.line : Int), .bool v.dirty, .string v.data]) rfl hce.out wysTy ?_) | (at_builtin; refine wpList_app w1 v.cells 1 rfl (.tmp 9) (.tmp 14) 62 (by rfl) w.heap.size 49 _ 3 24 Try.underlying62 wyinfo rfl (by decide) _ 0 _ (by rfl) hown1 (by rfl) rfl v.one (by omega) (by omega) hb1.size ?_; intro v2 w2 hown2 hg2; have hb2 := hb1.then_grown hown1 hg2 (Nat.le_refl _); rw [List.nil_append, Nat.zero_add] at hown2; clear hg2) | (at_builtin; refine wpList_app_rd rfl (.tmp 16) (.tmp 19) 62 (by rfl) w.heap.size 49 _ 3 24 Try.underlying62 wyinfo rfl (by decide) v2 1 _ (by rfl) hown2 w.heap.size (some ⟨g, o, none⟩) i c (wys (q.take i)) (by rfl) (htake.out.below hb2) (wys_one _) (by omega) (by omega) hb2.size ?_; intro v3 w3 hown3 hg3; have hb3 := hb2.then_grown hown2 hg3 (Nat.le_refl _); clear hg3) | (at_builtin; refine wpList_app_rd rfl (.tmp 21) (.tmp 25) 62 (by rfl) w.heap.size 49 _ 3 24 Try.underlying62 wyinfo rfl (by decide) v3 (1 + i) _ (by rfl) hown3 w.heap.size (some ⟨g, o + (i + 1) * 3, none⟩) (n - (i + 1)) (c - (i + 1)) (wys (q.drop (i + 1))) (by rfl) (hfrom.out.below hb3) (wys_one _) (by omega) (by omega) hb3.size ?_; intro v4 w4 hown4 hg4; have hb4 := hb3.then_grown hown3 hg4 (Nat.le_refl _)))
    (rw [show 1 + i + (n - (i + 1)) = n by omega, show v.cells ++ wys (q.take i) ++ wys (q.drop (i + 1)) = wys (frontL q i v) by simp [frontL, wys]] at hown4; obtain ⟨A', c', rfl, hr4, hge⟩ := Rd.of_own' hown4; go_ret; exact ⟨A', c', rfl, hr4, hge, hb4⟩)

end Go.Proofs.Ytcahadkkjfijfaa
