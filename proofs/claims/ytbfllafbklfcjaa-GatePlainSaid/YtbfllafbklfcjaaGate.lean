/- The gate package: what tells, what is needed, what may: the walks. -/
import Derived.Test.YtbfllafbklfcjaaTLaw
import Derived.Test.YtbfllafbklfcjaaStS
import Derived.Deep.DeepCutAuto
set_option linter.unusedVariables false
set_option linter.unusedSimpArgs false
set_option maxRecDepth 100000
namespace Go.Proofs.Ytbfllafbklfcjaa
open Go.RowKit Go.Sort

section
variable {P : Program} {ops : Array Oper} {rest : List Oper} {o : Oper} {a : Act} {Q : Exit → Act → World → Prop} {w0 w : World} {D0 D : List Da} {M : List Mu}
theorem run_bs2 {w : World} {t e : TypeId} {k0 k : IntKind} {bytes : Nat} (ht : SlT P t e (.int k0 0) 1 bytes) (p q : Int) :
    (Instr.buildSlice t 2 #[(0, .int k p), (1, .int k q)]).run P w = .ok (.slice (some ⟨w.heap.size, 0, none⟩) 2 2) (w.alloc (.cells #[.int k p, .int k q] e)) := by
  obtain ⟨hu, hi, hz, hp⟩ := ht
  obtain ⟨i, hi1, hz1, hs1, _⟩ := info_parts hi
  refine run_buildSlice w t e 2 _ #[.int k p, .int k q] i (.int k0 0) hu hi1 hz1 (by rw [hs1]; omega) (by rw [hs1]; omega) ?_
  rw [hs1, show Array.range (2 * 1) = #[0, 1] from rfl]
  simp [Instr.fill, Value.cells]
theorem w_bs2 {t e : TypeId} {x y : Operand} {k0 k : IntKind} {bytes : Nat} {p q : Int} (ho : o.op = .buildSlice t 2 #[(0, x), (1, y)]) (hF : St w0 D0 w M D) (hx : look a x = some (.int k p)) (hy : look a y = some (.int k q))
    (h : ∀ g w', St w0 D0 w' (.own (.slice (some ⟨g, 0, none⟩) 2 2) e 1 2 [.int k p, .int k q] :: M) D → wpList P ops Q rest (a.put o.dst (.slice (some ⟨g, 0, none⟩) 2 2)) w') (hgd : o.guard = none := by rfl) (ht : SlT P t e (.int k0 0) 1 bytes := by exact tySl _ _ _ _ _ rfl) : wpList P ops Q (o :: rest) a w := by
  refine wpList_plain hgd fun K hK => ?_
  have hF' : St w0 D0 (w.alloc (.cells #[.int k p, .int k q] e)) (.own (.slice (some ⟨w.heap.size, 0, none⟩) 2 2) e 1 2 [.int k p, .int k q] :: M) D :=
    hF.push _ (grown_of_bel (Bel.alloc w _) none) ⟨rfl, .inr ⟨w.heap.size, 2, #[.int k p, .int k q], rfl, hF.bel.size, heap_alloc_new w _, Nat.le_refl _, by simp [maxLen], rfl, rfl⟩⟩ fun g hg => by simp only [Mu.bl, Value.ownBlock, Option.some.injEq] at hg; omega
  have hk := hK _ _ (h _ _ hF')
  replace hx := look_eval hx
  replace hy := look_eval hy
  unfold Oper.wp execOp
  simp only [ho, List.map_toArray, List.map_cons, List.map_nil, hx, hy, run_bs2 ht, Sem.run_bind, Sem.run_pure, Result.andThen_ok]
  exact hk
end

def tellsB (e : En) : Bool := decide (kindI e.inst.op = 3 ∨ kindI e.inst.op = 4 ∨ kindI e.inst.op = 2 ∨ kindI e.inst.op = 5)
def needsL (e : En) : List Int := if kindI e.inst.op = 3 ∨ kindI e.inst.op = 4 then [e.inst.rs1] else [e.inst.rs1, e.inst.rs2]
/-- what may, by the mode -/
def mayB (mode : Int) (q : List En) (i : Nat) (e : En) : Bool :=
  if tellsB e = false then true else if mode = 0 then true else if mode = 1 then (needsL e).all (fun r => !taintL q i r) else if mode = 2 then decide (i ≤ frontL q) else false

set_option maxHeartbeats 4000000 in
theorem Tells_any (e : En) (w : World) (hi : okI e.inst.op) :
    Calls Try.prog 23 #[e.val] w fun x w' => x = .returned (.bool (tellsB e)) ∧ Bel w w' := by
  have hF := St.start w [] (fun d hd => by cases hd)
  have hcl : e.val.cells = e.cells.toArray := rfl
  obtain ⟨b, hb⟩ : ∃ b, tellsB e = b := ⟨_, rfl⟩
  rw [hb]
  have HK := Lib.hid (fun W => Kind_any e.inst W hi)
  unfold tellsB at hb
  rcases kind_seven e.inst.op with hk | hk | hk | hk | hk | hk | hk
  all_goals
    rw [hk] at HK hb
    clear hk
    simp at hb
    subst hb
    go_enter Try.func23, Try.ntmps23
    go_wp2_with (first | (go_at_call 16; refine (HK.out _).mono ?_; rintro x wN ⟨rfl, hb⟩; replace hF := hF.grow hb; clear hb) | ((refine w_box (cs := e.cells) rfl hF rfl ?_); clear hF; intro gN wN hF; (try simp only [Act.put, List.setIfInBounds_toArray, List.set_cons_zero, List.set_cons_succ, Nat.zero_add, Nat.zero_mul, Nat.reduceAdd])) | ((refine w_ldp (v := e.inst.val) (n := 5) rfl hF rfl ?_ (hn := Nat.le_of_ble_eq_true rfl)); (try simp only [Act.put, List.setIfInBounds_toArray, List.set_cons_zero, List.set_cons_succ, Nat.zero_add, Nat.zero_mul, Nat.reduceAdd])) | ((first | (refine w_box rfl hF rfl ?_; clear hF; intro gN wN hF) | (refine w_alloc rfl hF ?_; clear hF; intro gN wN hF) | (refine w_ld1 rfl hF rfl ?_) | (refine w_ld rfl hF rfl ?_) | (refine w_st1 rfl hF rfl rfl ?_; clear hF; intro wN hF; (try simp only [List.set_cons_zero, List.set_cons_succ, List.eraseIdx_cons_zero, List.eraseIdx_cons_succ] at hF)) | (refine w_st rfl hF rfl rfl ?_; clear hF; intro wN hF; (try simp only [List.set_cons_zero, List.set_cons_succ, List.eraseIdx_cons_zero, List.eraseIdx_cons_succ] at hF)) | (refine w_fldB rfl rfl ?_) | (refine w_fld rfl hF rfl ?_) | (refine w_ix rfl hF rfl rfl ?_) | (refine w_lde1 rfl hF rfl ?_) | (refine w_lde rfl hF rfl ?_) | (refine w_bs1 rfl hF rfl ?_; clear hF; intro gN wN hF) | (refine w_bs0 rfl hF ?_; clear hF; intro gN wN hF) | (refine w_app rfl hF rfl rfl ?_; clear hF; intro vN wN hF; (try simp only [List.set_cons_zero, List.set_cons_succ, List.eraseIdx_cons_zero, List.eraseIdx_cons_succ] at hF)) | (refine w_appD rfl hF rfl rfl ?_; clear hF; intro vN wN hF; (try simp only [List.set_cons_zero, List.set_cons_succ, List.eraseIdx_cons_zero, List.eraseIdx_cons_succ] at hF)) | (refine w_ld1o rfl hF rfl ?_) | (refine w_st1o rfl hF rfl rfl ?_; clear hF; intro wN hF; (try simp only [List.set_cons_zero, List.set_cons_succ, List.eraseIdx_cons_zero, List.eraseIdx_cons_succ] at hF)) | (refine w_make0 rfl hF rfl rfl ?_; clear hF; intro gN wN hF) | (refine w_to rfl hF rfl rfl ?_; clear hF; intro hF) | (refine w_from rfl hF rfl rfl ?_; clear hF; intro hF)); (try simp only [Act.put, List.setIfInBounds_toArray, List.set_cons_zero, List.set_cons_succ, Nat.zero_add, Nat.zero_mul, Nat.reduceAdd])))
    go_ret
    exact ⟨rfl, hF.bel⟩
set_option maxHeartbeats 4000000 in
theorem Needs_any (e : En) (w : World) (hi : okI e.inst.op) :
    Calls Try.prog 22 #[e.val] w fun x w' => ∃ A2 c2, x = .returned (.slice A2 (needsL e).length c2) ∧ Out w [] w' [rowD 1 A2 (needsL e).length c2 (i64s (needsL e))] := by
  have hF := St.start w [] (fun d hd => by cases hd)
  have hcl : e.val.cells = e.cells.toArray := rfl
  have HK := Lib.hid (fun W => Kind_any e.inst W hi)
  have HRd := Lib.hid (fun W => Reads_any e.inst W)
  have HN := Lib.hid (show needsL e = if kindI e.inst.op = 3 ∨ kindI e.inst.op = 4 then [e.inst.rs1] else [e.inst.rs1, e.inst.rs2] from rfl)
  obtain ⟨L, hL⟩ : ∃ L, needsL e = L := ⟨_, rfl⟩
  rw [hL] at HN ⊢
  clear hL
  by_cases h3 : kindI e.inst.op = 3
  · obtain rfl : L = [e.inst.rs1] := by rw [HN.out, if_pos (.inl h3)]
    rw [h3] at HK
    clear HN h3
    go_enter Try.func22, Try.ntmps22
    go_wp2_with (first | (go_at_call 16; refine (HK.out _).mono ?_; rintro x wN ⟨rfl, hb⟩; replace hF := hF.grow hb; clear hb) | (go_at_call 17; refine (HRd.out _).mono ?_; rintro x wN ⟨rfl, hb⟩; replace hF := hF.grow hb; clear hb) | ((refine w_box (cs := e.cells) rfl hF rfl ?_); clear hF; intro gN wN hF; (try simp only [Act.put, List.setIfInBounds_toArray, List.set_cons_zero, List.set_cons_succ, Nat.zero_add, Nat.zero_mul, Nat.reduceAdd])) | ((refine w_ldp (v := e.inst.val) (n := 5) rfl hF rfl ?_ (hn := Nat.le_of_ble_eq_true rfl)); (try simp only [Act.put, List.setIfInBounds_toArray, List.set_cons_zero, List.set_cons_succ, Nat.zero_add, Nat.zero_mul, Nat.reduceAdd])) | ((first | (refine w_box rfl hF rfl ?_; clear hF; intro gN wN hF) | (refine w_alloc rfl hF ?_; clear hF; intro gN wN hF) | (refine w_ld1 rfl hF rfl ?_) | (refine w_ld rfl hF rfl ?_) | (refine w_st1 rfl hF rfl rfl ?_; clear hF; intro wN hF; (try simp only [List.set_cons_zero, List.set_cons_succ, List.eraseIdx_cons_zero, List.eraseIdx_cons_succ] at hF)) | (refine w_st rfl hF rfl rfl ?_; clear hF; intro wN hF; (try simp only [List.set_cons_zero, List.set_cons_succ, List.eraseIdx_cons_zero, List.eraseIdx_cons_succ] at hF)) | (refine w_fldB rfl rfl ?_) | (refine w_fld rfl hF rfl ?_) | (refine w_ix rfl hF rfl rfl ?_) | (refine w_lde1 rfl hF rfl ?_) | (refine w_lde rfl hF rfl ?_) | (refine w_bs1 rfl hF rfl ?_; clear hF; intro gN wN hF) | (refine w_bs0 rfl hF ?_; clear hF; intro gN wN hF) | (refine w_app rfl hF rfl rfl ?_; clear hF; intro vN wN hF; (try simp only [List.set_cons_zero, List.set_cons_succ, List.eraseIdx_cons_zero, List.eraseIdx_cons_succ] at hF)) | (refine w_appD rfl hF rfl rfl ?_; clear hF; intro vN wN hF; (try simp only [List.set_cons_zero, List.set_cons_succ, List.eraseIdx_cons_zero, List.eraseIdx_cons_succ] at hF)) | (refine w_ld1o rfl hF rfl ?_) | (refine w_st1o rfl hF rfl rfl ?_; clear hF; intro wN hF; (try simp only [List.set_cons_zero, List.set_cons_succ, List.eraseIdx_cons_zero, List.eraseIdx_cons_succ] at hF)) | (refine w_make0 rfl hF rfl rfl ?_; clear hF; intro gN wN hF) | (refine w_to rfl hF rfl rfl ?_; clear hF; intro hF) | (refine w_from rfl hF rfl rfl ?_; clear hF; intro hF)); (try simp only [Act.put, List.setIfInBounds_toArray, List.set_cons_zero, List.set_cons_succ, Nat.zero_add, Nat.zero_mul, Nat.reduceAdd])))
    obtain ⟨A2, c2, hA, hF⟩ := hF.freeze 0 at0
    injection hA with e1 _ e2
    go_ret
    exact ⟨A2, c2, by rw [← e1, ← e2]; rfl, hF.outA⟩
  · by_cases h4 : kindI e.inst.op = 4
    · obtain rfl : L = [e.inst.rs1] := by rw [HN.out, if_pos (.inr h4)]
      rw [h4] at HK
      clear HN h4 h3
      go_enter Try.func22, Try.ntmps22
      go_wp2_with (first | (go_at_call 16; refine (HK.out _).mono ?_; rintro x wN ⟨rfl, hb⟩; replace hF := hF.grow hb; clear hb) | (go_at_call 17; refine (HRd.out _).mono ?_; rintro x wN ⟨rfl, hb⟩; replace hF := hF.grow hb; clear hb) | ((refine w_box (cs := e.cells) rfl hF rfl ?_); clear hF; intro gN wN hF; (try simp only [Act.put, List.setIfInBounds_toArray, List.set_cons_zero, List.set_cons_succ, Nat.zero_add, Nat.zero_mul, Nat.reduceAdd])) | ((refine w_ldp (v := e.inst.val) (n := 5) rfl hF rfl ?_ (hn := Nat.le_of_ble_eq_true rfl)); (try simp only [Act.put, List.setIfInBounds_toArray, List.set_cons_zero, List.set_cons_succ, Nat.zero_add, Nat.zero_mul, Nat.reduceAdd])) | ((first | (refine w_box rfl hF rfl ?_; clear hF; intro gN wN hF) | (refine w_alloc rfl hF ?_; clear hF; intro gN wN hF) | (refine w_ld1 rfl hF rfl ?_) | (refine w_ld rfl hF rfl ?_) | (refine w_st1 rfl hF rfl rfl ?_; clear hF; intro wN hF; (try simp only [List.set_cons_zero, List.set_cons_succ, List.eraseIdx_cons_zero, List.eraseIdx_cons_succ] at hF)) | (refine w_st rfl hF rfl rfl ?_; clear hF; intro wN hF; (try simp only [List.set_cons_zero, List.set_cons_succ, List.eraseIdx_cons_zero, List.eraseIdx_cons_succ] at hF)) | (refine w_fldB rfl rfl ?_) | (refine w_fld rfl hF rfl ?_) | (refine w_ix rfl hF rfl rfl ?_) | (refine w_lde1 rfl hF rfl ?_) | (refine w_lde rfl hF rfl ?_) | (refine w_bs1 rfl hF rfl ?_; clear hF; intro gN wN hF) | (refine w_bs0 rfl hF ?_; clear hF; intro gN wN hF) | (refine w_app rfl hF rfl rfl ?_; clear hF; intro vN wN hF; (try simp only [List.set_cons_zero, List.set_cons_succ, List.eraseIdx_cons_zero, List.eraseIdx_cons_succ] at hF)) | (refine w_appD rfl hF rfl rfl ?_; clear hF; intro vN wN hF; (try simp only [List.set_cons_zero, List.set_cons_succ, List.eraseIdx_cons_zero, List.eraseIdx_cons_succ] at hF)) | (refine w_ld1o rfl hF rfl ?_) | (refine w_st1o rfl hF rfl rfl ?_; clear hF; intro wN hF; (try simp only [List.set_cons_zero, List.set_cons_succ, List.eraseIdx_cons_zero, List.eraseIdx_cons_succ] at hF)) | (refine w_make0 rfl hF rfl rfl ?_; clear hF; intro gN wN hF) | (refine w_to rfl hF rfl rfl ?_; clear hF; intro hF) | (refine w_from rfl hF rfl rfl ?_; clear hF; intro hF)); (try simp only [Act.put, List.setIfInBounds_toArray, List.set_cons_zero, List.set_cons_succ, Nat.zero_add, Nat.zero_mul, Nat.reduceAdd])))
      obtain ⟨A2, c2, hA, hF⟩ := hF.freeze 0 at0
      injection hA with e1 _ e2
      go_ret
      exact ⟨A2, c2, by rw [← e1, ← e2]; rfl, hF.outA⟩
    · obtain rfl : L = [e.inst.rs1, e.inst.rs2] := by rw [HN.out, if_neg (by omega)]
      generalize kindI e.inst.op = kd at *
      clear HN
      go_enter Try.func22, Try.ntmps22
      go_wp2_with (first | (go_at_call 16; refine (HK.out _).mono ?_; rintro x wN ⟨rfl, hb⟩; replace hF := hF.grow hb; clear hb) | (go_at_call 17; refine (HRd.out _).mono ?_; rintro x wN ⟨rfl, hb⟩; replace hF := hF.grow hb; clear hb) | (refine w_bs2 rfl hF rfl rfl ?_; clear hF; intro gN wN hF; (try simp only [Act.put, List.setIfInBounds_toArray, List.set_cons_zero, List.set_cons_succ, Nat.zero_add, Nat.zero_mul, Nat.reduceAdd])) | ((refine w_box (cs := e.cells) rfl hF rfl ?_); clear hF; intro gN wN hF; (try simp only [Act.put, List.setIfInBounds_toArray, List.set_cons_zero, List.set_cons_succ, Nat.zero_add, Nat.zero_mul, Nat.reduceAdd])) | ((refine w_ldp (v := e.inst.val) (n := 5) rfl hF rfl ?_ (hn := Nat.le_of_ble_eq_true rfl)); (try simp only [Act.put, List.setIfInBounds_toArray, List.set_cons_zero, List.set_cons_succ, Nat.zero_add, Nat.zero_mul, Nat.reduceAdd])) | ((refine w_eqF rfl rfl rfl ?_); (try simp only [Act.put, List.setIfInBounds_toArray, List.set_cons_zero, List.set_cons_succ, Nat.zero_add, Nat.zero_mul, Nat.reduceAdd])) | ((first | (refine w_box rfl hF rfl ?_; clear hF; intro gN wN hF) | (refine w_alloc rfl hF ?_; clear hF; intro gN wN hF) | (refine w_ld1 rfl hF rfl ?_) | (refine w_ld rfl hF rfl ?_) | (refine w_st1 rfl hF rfl rfl ?_; clear hF; intro wN hF; (try simp only [List.set_cons_zero, List.set_cons_succ, List.eraseIdx_cons_zero, List.eraseIdx_cons_succ] at hF)) | (refine w_st rfl hF rfl rfl ?_; clear hF; intro wN hF; (try simp only [List.set_cons_zero, List.set_cons_succ, List.eraseIdx_cons_zero, List.eraseIdx_cons_succ] at hF)) | (refine w_fldB rfl rfl ?_) | (refine w_fld rfl hF rfl ?_) | (refine w_ix rfl hF rfl rfl ?_) | (refine w_lde1 rfl hF rfl ?_) | (refine w_lde rfl hF rfl ?_) | (refine w_bs1 rfl hF rfl ?_; clear hF; intro gN wN hF) | (refine w_bs0 rfl hF ?_; clear hF; intro gN wN hF) | (refine w_app rfl hF rfl rfl ?_; clear hF; intro vN wN hF; (try simp only [List.set_cons_zero, List.set_cons_succ, List.eraseIdx_cons_zero, List.eraseIdx_cons_succ] at hF)) | (refine w_appD rfl hF rfl rfl ?_; clear hF; intro vN wN hF; (try simp only [List.set_cons_zero, List.set_cons_succ, List.eraseIdx_cons_zero, List.eraseIdx_cons_succ] at hF)) | (refine w_ld1o rfl hF rfl ?_) | (refine w_st1o rfl hF rfl rfl ?_; clear hF; intro wN hF; (try simp only [List.set_cons_zero, List.set_cons_succ, List.eraseIdx_cons_zero, List.eraseIdx_cons_succ] at hF)) | (refine w_make0 rfl hF rfl rfl ?_; clear hF; intro gN wN hF) | (refine w_to rfl hF rfl rfl ?_; clear hF; intro hF) | (refine w_from rfl hF rfl rfl ?_; clear hF; intro hF)); (try simp only [Act.put, List.setIfInBounds_toArray, List.set_cons_zero, List.set_cons_succ, Nat.zero_add, Nat.zero_mul, Nat.reduceAdd])))
      obtain ⟨A2, c2, hA, hF⟩ := hF.freeze 0 at0
      injection hA with e1 _ e2
      go_ret
      exact ⟨A2, c2, by rw [← e1, ← e2]; rfl, hF.outA⟩
theorem clean_any {g4 g5 : Nat} {A : Option Addr} {n c : Nat} {q : List En} {i reg : Int} {w : World} (hb4 : Bk w g4 22 [.slice A n c]) (hb5 : Bk w g5 3 [.int .i64 i]) (hr : Rd w w.heap.size 17 A n c (ens q)) (hq : ensOk q) (hn : n ≤ 1000) (hi : okI i) (hg : okI reg) :
    Calls Try.prog 27 #[.int .i64 reg, .pointer (some ⟨g4, 0, none⟩), .pointer (some ⟨g5, 0, none⟩)] w fun x w' => x = .returned (.bool (!taintL q i reg)) ∧ Bel w w' := by
  have c4 := hb4.cell 0
  have c5 := hb5.cell 0
  dsimp only [List.getElem?_cons_zero] at c4 c5
  have HT := Lib.hid (Tainted_any A n c i reg q w hr hq hn hi hg)
  clear hr hb4 hb5
  go_enter Try.func27, Try.ntmps27
  go_wp2_with (go_at_call 18; refine HT.out.mono ?_; rintro x wN ⟨rfl, hb⟩)
  go_ret
  exact ⟨rfl, hb⟩
theorem May_out (mode : Int) (A : Option Addr) (n c : Nat) (q : List En) (i : Nat) (w : World) (hr : Rd w w.heap.size 17 A n c (ens q)) (h : n ≤ i) :
    Calls Try.prog 20 #[.int .i64 mode, .slice A n c, .int .i64 (i : Int)] w fun x w' => x = .returned (.bool false) ∧ Bel w w' := by
  have hF := St.start w [rowD 17 A n c (ens q)] (fun d hd => by obtain rfl := List.mem_singleton.1 hd; exact hr)
  go_enter Try.func20, Try.ntmps20
  go_wp2_with (first | ((first | (refine w_box rfl hF rfl ?_; clear hF; intro gN wN hF) | (refine w_alloc rfl hF ?_; clear hF; intro gN wN hF) | (refine w_ld1 rfl hF rfl ?_) | (refine w_ld rfl hF rfl ?_) | (refine w_st1 rfl hF rfl rfl ?_; clear hF; intro wN hF; (try simp only [List.set_cons_zero, List.set_cons_succ, List.eraseIdx_cons_zero, List.eraseIdx_cons_succ] at hF)) | (refine w_st rfl hF rfl rfl ?_; clear hF; intro wN hF; (try simp only [List.set_cons_zero, List.set_cons_succ, List.eraseIdx_cons_zero, List.eraseIdx_cons_succ] at hF)) | (refine w_fldB rfl rfl ?_) | (refine w_fld rfl hF rfl ?_) | (refine w_ix rfl hF rfl rfl ?_) | (refine w_lde1 rfl hF rfl ?_) | (refine w_lde rfl hF rfl ?_) | (refine w_bs1 rfl hF rfl ?_; clear hF; intro gN wN hF) | (refine w_bs0 rfl hF ?_; clear hF; intro gN wN hF) | (refine w_app rfl hF rfl rfl ?_; clear hF; intro vN wN hF; (try simp only [List.set_cons_zero, List.set_cons_succ, List.eraseIdx_cons_zero, List.eraseIdx_cons_succ] at hF)) | (refine w_appD rfl hF rfl rfl ?_; clear hF; intro vN wN hF; (try simp only [List.set_cons_zero, List.set_cons_succ, List.eraseIdx_cons_zero, List.eraseIdx_cons_succ] at hF)) | (refine w_ld1o rfl hF rfl ?_) | (refine w_st1o rfl hF rfl rfl ?_; clear hF; intro wN hF; (try simp only [List.set_cons_zero, List.set_cons_succ, List.eraseIdx_cons_zero, List.eraseIdx_cons_succ] at hF)) | (refine w_make0 rfl hF rfl rfl ?_; clear hF; intro gN wN hF) | (refine w_to rfl hF rfl rfl ?_; clear hF; intro hF) | (refine w_from rfl hF rfl rfl ?_; clear hF; intro hF)); (try simp only [Act.put, List.setIfInBounds_toArray, List.set_cons_zero, List.set_cons_succ, Nat.zero_add, Nat.zero_mul, Nat.reduceAdd])))
  go_ret
  exact ⟨rfl, hF.bel⟩
set_option maxHeartbeats 8000000 in
theorem May_any (mode : Int) (A : Option Addr) (n c : Nat) (q : List En) (i : Nat) (e : En) (w : World) (hr : Rd w w.heap.size 17 A n c (ens q)) (hq : ensOk q) (hn : n ≤ 1000) (hu : q[i]? = some e) :
    Calls Try.prog 20 #[.int .i64 mode, .slice A n c, .int .i64 (i : Int)] w fun x w' => x = .returned (.bool (mayB mode q i e)) ∧ Bel w w' := by
  have hF := St.start w [rowD 17 A n c (ens q)] (fun d hd => by obtain rfl := List.mem_singleton.1 hd; exact hr)
  have hql := hr.enslen
  have hin : i < n := by have := (List.getElem?_eq_some_iff.1 hu).1; omega
  have hok := hq e (List.mem_of_getElem? hu)
  have hi : okI (i : Int) := ⟨by omega, by omega⟩
  have HTe := Lib.hid (fun W => Tells_any e W hok.op)
  have HNe := Lib.hid (fun W => Needs_any e W hok.op)
  have HV := Lib.hid (fun W (h : Rd W W.heap.size 17 A n c (ens q)) => Visible_any A n c q i W h hq (by omega))
  have HM := Lib.hid (show mayB mode q i e = if tellsB e = false then true else if mode = 0 then true else if mode = 1 then (needsL e).all (fun r => !taintL q i r) else if mode = 2 then decide (i ≤ frontL q) else false from rfl)
  have hneed : ∀ r ∈ needsL e, okI r := fun r hr => by
    unfold needsL at hr
    split at hr
    · rw [List.mem_singleton.1 hr]; exact hok.rs1
    · rcases List.mem_cons.1 hr with h | h
      · rw [h]; exact hok.rs1
      · rw [List.mem_singleton.1 h]; exact hok.rs2
  have hnl : (needsL e).length ≤ 2 := by unfold needsL; split <;> simp
  obtain ⟨R, hR⟩ : ∃ R, mayB mode q i e = R := ⟨_, rfl⟩
  rw [hR] at HM ⊢
  cases ht : tellsB e
  · obtain rfl : R = true := by rw [HM.out, if_pos ht]
    rw [ht] at HTe
    clear HM hR ht
    go_enter Try.func20, Try.ntmps20
    go_wp2_with (first | (go_at_call 23; refine (HTe.out _).mono ?_; rintro x wN ⟨rfl, hb⟩; replace hF := hF.grow hb; clear hb) | ((refine w_lde (us := e.cells) (v := e.val) (hu := Rows.sub (f := ens) hu) rfl hF rfl ?_); (try simp only [Act.put, List.setIfInBounds_toArray, List.set_cons_zero, List.set_cons_succ, Nat.zero_add, Nat.zero_mul, Nat.reduceAdd])) | ((first | (refine w_box rfl hF rfl ?_; clear hF; intro gN wN hF) | (refine w_alloc rfl hF ?_; clear hF; intro gN wN hF) | (refine w_ld1 rfl hF rfl ?_) | (refine w_ld rfl hF rfl ?_) | (refine w_st1 rfl hF rfl rfl ?_; clear hF; intro wN hF; (try simp only [List.set_cons_zero, List.set_cons_succ, List.eraseIdx_cons_zero, List.eraseIdx_cons_succ] at hF)) | (refine w_st rfl hF rfl rfl ?_; clear hF; intro wN hF; (try simp only [List.set_cons_zero, List.set_cons_succ, List.eraseIdx_cons_zero, List.eraseIdx_cons_succ] at hF)) | (refine w_fldB rfl rfl ?_) | (refine w_fld rfl hF rfl ?_) | (refine w_ix rfl hF rfl rfl ?_) | (refine w_lde1 rfl hF rfl ?_) | (refine w_lde rfl hF rfl ?_) | (refine w_bs1 rfl hF rfl ?_; clear hF; intro gN wN hF) | (refine w_bs0 rfl hF ?_; clear hF; intro gN wN hF) | (refine w_app rfl hF rfl rfl ?_; clear hF; intro vN wN hF; (try simp only [List.set_cons_zero, List.set_cons_succ, List.eraseIdx_cons_zero, List.eraseIdx_cons_succ] at hF)) | (refine w_appD rfl hF rfl rfl ?_; clear hF; intro vN wN hF; (try simp only [List.set_cons_zero, List.set_cons_succ, List.eraseIdx_cons_zero, List.eraseIdx_cons_succ] at hF)) | (refine w_ld1o rfl hF rfl ?_) | (refine w_st1o rfl hF rfl rfl ?_; clear hF; intro wN hF; (try simp only [List.set_cons_zero, List.set_cons_succ, List.eraseIdx_cons_zero, List.eraseIdx_cons_succ] at hF)) | (refine w_make0 rfl hF rfl rfl ?_; clear hF; intro gN wN hF) | (refine w_to rfl hF rfl rfl ?_; clear hF; intro hF) | (refine w_from rfl hF rfl rfl ?_; clear hF; intro hF)); (try simp only [Act.put, List.setIfInBounds_toArray, List.set_cons_zero, List.set_cons_succ, Nat.zero_add, Nat.zero_mul, Nat.reduceAdd])))
    go_ret
    exact ⟨rfl, hF.bel⟩
  · rw [ht] at HTe HM
    clear hR ht
    by_cases h0 : mode = 0
    · subst h0
      obtain rfl : R = true := by rw [HM.out]; rfl
      clear HM
      go_enter Try.func20, Try.ntmps20
      go_wp2_with (first | (go_at_call 23; refine (HTe.out _).mono ?_; rintro x wN ⟨rfl, hb⟩; replace hF := hF.grow hb; clear hb) | ((refine w_lde (us := e.cells) (v := e.val) (hu := Rows.sub (f := ens) hu) rfl hF rfl ?_); (try simp only [Act.put, List.setIfInBounds_toArray, List.set_cons_zero, List.set_cons_succ, Nat.zero_add, Nat.zero_mul, Nat.reduceAdd])) | ((first | (refine w_box rfl hF rfl ?_; clear hF; intro gN wN hF) | (refine w_alloc rfl hF ?_; clear hF; intro gN wN hF) | (refine w_ld1 rfl hF rfl ?_) | (refine w_ld rfl hF rfl ?_) | (refine w_st1 rfl hF rfl rfl ?_; clear hF; intro wN hF; (try simp only [List.set_cons_zero, List.set_cons_succ, List.eraseIdx_cons_zero, List.eraseIdx_cons_succ] at hF)) | (refine w_st rfl hF rfl rfl ?_; clear hF; intro wN hF; (try simp only [List.set_cons_zero, List.set_cons_succ, List.eraseIdx_cons_zero, List.eraseIdx_cons_succ] at hF)) | (refine w_fldB rfl rfl ?_) | (refine w_fld rfl hF rfl ?_) | (refine w_ix rfl hF rfl rfl ?_) | (refine w_lde1 rfl hF rfl ?_) | (refine w_lde rfl hF rfl ?_) | (refine w_bs1 rfl hF rfl ?_; clear hF; intro gN wN hF) | (refine w_bs0 rfl hF ?_; clear hF; intro gN wN hF) | (refine w_app rfl hF rfl rfl ?_; clear hF; intro vN wN hF; (try simp only [List.set_cons_zero, List.set_cons_succ, List.eraseIdx_cons_zero, List.eraseIdx_cons_succ] at hF)) | (refine w_appD rfl hF rfl rfl ?_; clear hF; intro vN wN hF; (try simp only [List.set_cons_zero, List.set_cons_succ, List.eraseIdx_cons_zero, List.eraseIdx_cons_succ] at hF)) | (refine w_ld1o rfl hF rfl ?_) | (refine w_st1o rfl hF rfl rfl ?_; clear hF; intro wN hF; (try simp only [List.set_cons_zero, List.set_cons_succ, List.eraseIdx_cons_zero, List.eraseIdx_cons_succ] at hF)) | (refine w_make0 rfl hF rfl rfl ?_; clear hF; intro gN wN hF) | (refine w_to rfl hF rfl rfl ?_; clear hF; intro hF) | (refine w_from rfl hF rfl rfl ?_; clear hF; intro hF)); (try simp only [Act.put, List.setIfInBounds_toArray, List.set_cons_zero, List.set_cons_succ, Nat.zero_add, Nat.zero_mul, Nat.reduceAdd])))
      go_ret
      exact ⟨rfl, hF.bel⟩
    · by_cases h1 : mode = 1
      · subst h1
        obtain rfl : R = (needsL e).all (fun r => !taintL q i r) := by rw [HM.out]; rfl
        clear HM
        generalize needsL e = L at *
        go_enter Try.func20, Try.ntmps20
        go_wp2_with (first | (go_at_call 23; refine (HTe.out _).mono ?_; rintro x wN ⟨rfl, hb⟩; replace hF := hF.grow hb; clear hb) | (go_at_call 22; refine (HNe.out _).mono ?_; rintro x wN ⟨A2, c2, rfl, hO⟩; replace hF := hF.call1A hO; clear hO) | ((refine w_lde (us := e.cells) (v := e.val) (hu := Rows.sub (f := ens) hu) rfl hF rfl ?_); (try simp only [Act.put, List.setIfInBounds_toArray, List.set_cons_zero, List.set_cons_succ, Nat.zero_add, Nat.zero_mul, Nat.reduceAdd])) | ((first | (refine w_box rfl hF rfl ?_; clear hF; intro gN wN hF) | (refine w_alloc rfl hF ?_; clear hF; intro gN wN hF) | (refine w_ld1 rfl hF rfl ?_) | (refine w_ld rfl hF rfl ?_) | (refine w_st1 rfl hF rfl rfl ?_; clear hF; intro wN hF; (try simp only [List.set_cons_zero, List.set_cons_succ, List.eraseIdx_cons_zero, List.eraseIdx_cons_succ] at hF)) | (refine w_st rfl hF rfl rfl ?_; clear hF; intro wN hF; (try simp only [List.set_cons_zero, List.set_cons_succ, List.eraseIdx_cons_zero, List.eraseIdx_cons_succ] at hF)) | (refine w_fldB rfl rfl ?_) | (refine w_fld rfl hF rfl ?_) | (refine w_ix rfl hF rfl rfl ?_) | (refine w_lde1 rfl hF rfl ?_) | (refine w_lde rfl hF rfl ?_) | (refine w_bs1 rfl hF rfl ?_; clear hF; intro gN wN hF) | (refine w_bs0 rfl hF ?_; clear hF; intro gN wN hF) | (refine w_app rfl hF rfl rfl ?_; clear hF; intro vN wN hF; (try simp only [List.set_cons_zero, List.set_cons_succ, List.eraseIdx_cons_zero, List.eraseIdx_cons_succ] at hF)) | (refine w_appD rfl hF rfl rfl ?_; clear hF; intro vN wN hF; (try simp only [List.set_cons_zero, List.set_cons_succ, List.eraseIdx_cons_zero, List.eraseIdx_cons_succ] at hF)) | (refine w_ld1o rfl hF rfl ?_) | (refine w_st1o rfl hF rfl rfl ?_; clear hF; intro wN hF; (try simp only [List.set_cons_zero, List.set_cons_succ, List.eraseIdx_cons_zero, List.eraseIdx_cons_succ] at hF)) | (refine w_make0 rfl hF rfl rfl ?_; clear hF; intro gN wN hF) | (refine w_to rfl hF rfl rfl ?_; clear hF; intro hF) | (refine w_from rfl hF rfl rfl ?_; clear hF; intro hF)); (try simp only [Act.put, List.setIfInBounds_toArray, List.set_cons_zero, List.set_cons_succ, Nat.zero_add, Nat.zero_mul, Nat.reduceAdd])))
        obtain ⟨g5, g4, rfl, rfl⟩ := hF.names2
        go_loopw [36] (fun ix wr => ∃ j : Nat, j ≤ L.length ∧ ix = .int .i64 (j : Int) ∧ (∀ r ∈ L.take j, taintL q i r = false) ∧ St w [rowD 17 A n c (ens q)] wr [.blk g5 3 [.int .i64 (i : Int)], .blk g4 22 [.slice A n c]] [rowD 1 A2 L.length c2 (i64s L), rowD 17 A n c (ens q)]) (fun ix _ => L.length - (intOf ix).toNat)
        case atStart => exact ⟨0, by omega, rfl, by simp, hF⟩
        case round =>
          obtain ⟨j, hj, rfl, hall, hF⟩ := hrel
          by_cases hjl : j < L.length
          · obtain ⟨r, hjr⟩ : ∃ r, L[j]? = some r := ⟨_, List.getElem?_eq_getElem hjl⟩
            have hv : (i64s L)[j * 1]? = some (.int .i64 r) := by rw [Nat.mul_one]; exact i64s_at hjr
            have hrok := hneed r (List.mem_of_getElem? hjr)
            have HJ := Lib.hid hjr
            replace hall := Lib.hid hall
            cases htr : taintL q i r
            · have htr2 := Lib.hid htr
              go_wp2_with (first | (go_at_call 27; refine (clean_any (hF.bk (by ((repeat (first | exact List.Mem.head _ | refine List.Mem.tail _ ?_)) <;> exact List.Mem.head _))) (hF.bk (by ((repeat (first | exact List.Mem.head _ | refine List.Mem.tail _ ?_)) <;> exact List.Mem.head _))) hF.rdA hq hn (by assumption) (by assumption)).mono ?_; rintro x wN ⟨rfl, hb⟩; replace hF := hF.grow hb; clear hb) | ((first | (refine w_box rfl hF rfl ?_; clear hF; intro gN wN hF) | (refine w_alloc rfl hF ?_; clear hF; intro gN wN hF) | (refine w_ld1 rfl hF rfl ?_) | (refine w_ld rfl hF rfl ?_) | (refine w_st1 rfl hF rfl rfl ?_; clear hF; intro wN hF; (try simp only [List.set_cons_zero, List.set_cons_succ, List.eraseIdx_cons_zero, List.eraseIdx_cons_succ] at hF)) | (refine w_st rfl hF rfl rfl ?_; clear hF; intro wN hF; (try simp only [List.set_cons_zero, List.set_cons_succ, List.eraseIdx_cons_zero, List.eraseIdx_cons_succ] at hF)) | (refine w_fldB rfl rfl ?_) | (refine w_fld rfl hF rfl ?_) | (refine w_ix rfl hF rfl rfl ?_) | (refine w_lde1 rfl hF rfl ?_) | (refine w_lde rfl hF rfl ?_) | (refine w_bs1 rfl hF rfl ?_; clear hF; intro gN wN hF) | (refine w_bs0 rfl hF ?_; clear hF; intro gN wN hF) | (refine w_app rfl hF rfl rfl ?_; clear hF; intro vN wN hF; (try simp only [List.set_cons_zero, List.set_cons_succ, List.eraseIdx_cons_zero, List.eraseIdx_cons_succ] at hF)) | (refine w_appD rfl hF rfl rfl ?_; clear hF; intro vN wN hF; (try simp only [List.set_cons_zero, List.set_cons_succ, List.eraseIdx_cons_zero, List.eraseIdx_cons_succ] at hF)) | (refine w_ld1o rfl hF rfl ?_) | (refine w_st1o rfl hF rfl rfl ?_; clear hF; intro wN hF; (try simp only [List.set_cons_zero, List.set_cons_succ, List.eraseIdx_cons_zero, List.eraseIdx_cons_succ] at hF)) | (refine w_make0 rfl hF rfl rfl ?_; clear hF; intro gN wN hF) | (refine w_to rfl hF rfl rfl ?_; clear hF; intro hF) | (refine w_from rfl hF rfl rfl ?_; clear hF; intro hF)); (try simp only [Act.put, List.setIfInBounds_toArray, List.set_cons_zero, List.set_cons_succ, Nat.zero_add, Nat.zero_mul, Nat.reduceAdd])))
              go_roundw
              case rel =>
                refine ⟨j + 1, by omega, by go_num, fun x hx => ?_, hF⟩
                rw [List.take_add_one, HJ.out] at hx
                rcases List.mem_append.1 hx with h | h
                · exact hall.out x h
                · have h' : x = r := by simpa using h
                  rw [h']; exact htr2.out
              case measure => first | (simp [intOf]; done) | (simp [intOf]; omega)
            · have hR2 := Lib.hid (show L.all (fun r => !taintL q i r) = false by
                rw [List.all_eq_false]
                exact ⟨r, List.mem_of_getElem? hjr, by simp [htr]⟩)
              go_wp2_with (first | (go_at_call 27; refine (clean_any (hF.bk (by ((repeat (first | exact List.Mem.head _ | refine List.Mem.tail _ ?_)) <;> exact List.Mem.head _))) (hF.bk (by ((repeat (first | exact List.Mem.head _ | refine List.Mem.tail _ ?_)) <;> exact List.Mem.head _))) hF.rdA hq hn (by assumption) (by assumption)).mono ?_; rintro x wN ⟨rfl, hb⟩; replace hF := hF.grow hb; clear hb) | ((first | (refine w_box rfl hF rfl ?_; clear hF; intro gN wN hF) | (refine w_alloc rfl hF ?_; clear hF; intro gN wN hF) | (refine w_ld1 rfl hF rfl ?_) | (refine w_ld rfl hF rfl ?_) | (refine w_st1 rfl hF rfl rfl ?_; clear hF; intro wN hF; (try simp only [List.set_cons_zero, List.set_cons_succ, List.eraseIdx_cons_zero, List.eraseIdx_cons_succ] at hF)) | (refine w_st rfl hF rfl rfl ?_; clear hF; intro wN hF; (try simp only [List.set_cons_zero, List.set_cons_succ, List.eraseIdx_cons_zero, List.eraseIdx_cons_succ] at hF)) | (refine w_fldB rfl rfl ?_) | (refine w_fld rfl hF rfl ?_) | (refine w_ix rfl hF rfl rfl ?_) | (refine w_lde1 rfl hF rfl ?_) | (refine w_lde rfl hF rfl ?_) | (refine w_bs1 rfl hF rfl ?_; clear hF; intro gN wN hF) | (refine w_bs0 rfl hF ?_; clear hF; intro gN wN hF) | (refine w_app rfl hF rfl rfl ?_; clear hF; intro vN wN hF; (try simp only [List.set_cons_zero, List.set_cons_succ, List.eraseIdx_cons_zero, List.eraseIdx_cons_succ] at hF)) | (refine w_appD rfl hF rfl rfl ?_; clear hF; intro vN wN hF; (try simp only [List.set_cons_zero, List.set_cons_succ, List.eraseIdx_cons_zero, List.eraseIdx_cons_succ] at hF)) | (refine w_ld1o rfl hF rfl ?_) | (refine w_st1o rfl hF rfl rfl ?_; clear hF; intro wN hF; (try simp only [List.set_cons_zero, List.set_cons_succ, List.eraseIdx_cons_zero, List.eraseIdx_cons_succ] at hF)) | (refine w_make0 rfl hF rfl rfl ?_; clear hF; intro gN wN hF) | (refine w_to rfl hF rfl rfl ?_; clear hF; intro hF) | (refine w_from rfl hF rfl rfl ?_; clear hF; intro hF)); (try simp only [Act.put, List.setIfInBounds_toArray, List.set_cons_zero, List.set_cons_succ, Nat.zero_add, Nat.zero_mul, Nat.reduceAdd])))
              go_ret
              exact ⟨by rw [hR2.out]; rfl, hF.bel⟩
          · obtain rfl : j = L.length := by omega
            rw [List.take_length] at hall
            have hR2 := Lib.hid (show L.all (fun r => !taintL q i r) = true by
              rw [List.all_eq_true]
              exact fun r hr => by simp [hall r hr])
            clear hall
            go_wp2_with (first | ((first | (refine w_box rfl hF rfl ?_; clear hF; intro gN wN hF) | (refine w_alloc rfl hF ?_; clear hF; intro gN wN hF) | (refine w_ld1 rfl hF rfl ?_) | (refine w_ld rfl hF rfl ?_) | (refine w_st1 rfl hF rfl rfl ?_; clear hF; intro wN hF; (try simp only [List.set_cons_zero, List.set_cons_succ, List.eraseIdx_cons_zero, List.eraseIdx_cons_succ] at hF)) | (refine w_st rfl hF rfl rfl ?_; clear hF; intro wN hF; (try simp only [List.set_cons_zero, List.set_cons_succ, List.eraseIdx_cons_zero, List.eraseIdx_cons_succ] at hF)) | (refine w_fldB rfl rfl ?_) | (refine w_fld rfl hF rfl ?_) | (refine w_ix rfl hF rfl rfl ?_) | (refine w_lde1 rfl hF rfl ?_) | (refine w_lde rfl hF rfl ?_) | (refine w_bs1 rfl hF rfl ?_; clear hF; intro gN wN hF) | (refine w_bs0 rfl hF ?_; clear hF; intro gN wN hF) | (refine w_app rfl hF rfl rfl ?_; clear hF; intro vN wN hF; (try simp only [List.set_cons_zero, List.set_cons_succ, List.eraseIdx_cons_zero, List.eraseIdx_cons_succ] at hF)) | (refine w_appD rfl hF rfl rfl ?_; clear hF; intro vN wN hF; (try simp only [List.set_cons_zero, List.set_cons_succ, List.eraseIdx_cons_zero, List.eraseIdx_cons_succ] at hF)) | (refine w_ld1o rfl hF rfl ?_) | (refine w_st1o rfl hF rfl rfl ?_; clear hF; intro wN hF; (try simp only [List.set_cons_zero, List.set_cons_succ, List.eraseIdx_cons_zero, List.eraseIdx_cons_succ] at hF)) | (refine w_make0 rfl hF rfl rfl ?_; clear hF; intro gN wN hF) | (refine w_to rfl hF rfl rfl ?_; clear hF; intro hF) | (refine w_from rfl hF rfl rfl ?_; clear hF; intro hF)); (try simp only [Act.put, List.setIfInBounds_toArray, List.set_cons_zero, List.set_cons_succ, Nat.zero_add, Nat.zero_mul, Nat.reduceAdd])))
            go_ret
            exact ⟨by rw [hR2.out]; rfl, hF.bel⟩
      · by_cases h2 : mode = 2
        · subst h2
          obtain rfl : R = decide (i ≤ frontL q) := by rw [HM.out]; rfl
          clear HM
          generalize frontL q = f at *
          go_enter Try.func20, Try.ntmps20
          go_wp2_with (first | (go_at_call 23; refine (HTe.out _).mono ?_; rintro x wN ⟨rfl, hb⟩; replace hF := hF.grow hb; clear hb) | (go_at_call 13; refine (HV.out _ hF.rdA).mono ?_; rintro x wN ⟨rfl, hb⟩; replace hF := hF.grow hb; clear hb) | ((refine w_lde (us := e.cells) (v := e.val) (hu := Rows.sub (f := ens) hu) rfl hF rfl ?_); (try simp only [Act.put, List.setIfInBounds_toArray, List.set_cons_zero, List.set_cons_succ, Nat.zero_add, Nat.zero_mul, Nat.reduceAdd])) | ((first | (refine w_box rfl hF rfl ?_; clear hF; intro gN wN hF) | (refine w_alloc rfl hF ?_; clear hF; intro gN wN hF) | (refine w_ld1 rfl hF rfl ?_) | (refine w_ld rfl hF rfl ?_) | (refine w_st1 rfl hF rfl rfl ?_; clear hF; intro wN hF; (try simp only [List.set_cons_zero, List.set_cons_succ, List.eraseIdx_cons_zero, List.eraseIdx_cons_succ] at hF)) | (refine w_st rfl hF rfl rfl ?_; clear hF; intro wN hF; (try simp only [List.set_cons_zero, List.set_cons_succ, List.eraseIdx_cons_zero, List.eraseIdx_cons_succ] at hF)) | (refine w_fldB rfl rfl ?_) | (refine w_fld rfl hF rfl ?_) | (refine w_ix rfl hF rfl rfl ?_) | (refine w_lde1 rfl hF rfl ?_) | (refine w_lde rfl hF rfl ?_) | (refine w_bs1 rfl hF rfl ?_; clear hF; intro gN wN hF) | (refine w_bs0 rfl hF ?_; clear hF; intro gN wN hF) | (refine w_app rfl hF rfl rfl ?_; clear hF; intro vN wN hF; (try simp only [List.set_cons_zero, List.set_cons_succ, List.eraseIdx_cons_zero, List.eraseIdx_cons_succ] at hF)) | (refine w_appD rfl hF rfl rfl ?_; clear hF; intro vN wN hF; (try simp only [List.set_cons_zero, List.set_cons_succ, List.eraseIdx_cons_zero, List.eraseIdx_cons_succ] at hF)) | (refine w_ld1o rfl hF rfl ?_) | (refine w_st1o rfl hF rfl rfl ?_; clear hF; intro wN hF; (try simp only [List.set_cons_zero, List.set_cons_succ, List.eraseIdx_cons_zero, List.eraseIdx_cons_succ] at hF)) | (refine w_make0 rfl hF rfl rfl ?_; clear hF; intro gN wN hF) | (refine w_to rfl hF rfl rfl ?_; clear hF; intro hF) | (refine w_from rfl hF rfl rfl ?_; clear hF; intro hF)); (try simp only [Act.put, List.setIfInBounds_toArray, List.set_cons_zero, List.set_cons_succ, Nat.zero_add, Nat.zero_mul, Nat.reduceAdd])))
          go_ret
          exact ⟨by simp, hF.bel⟩
        · obtain rfl : R = false := by rw [HM.out, if_neg (by simp), if_neg h0, if_neg h1, if_neg h2]
          clear HM
          go_enter Try.func20, Try.ntmps20
          go_wp2_with (first | (go_at_call 23; refine (HTe.out _).mono ?_; rintro x wN ⟨rfl, hb⟩; replace hF := hF.grow hb; clear hb) | ((refine w_lde (us := e.cells) (v := e.val) (hu := Rows.sub (f := ens) hu) rfl hF rfl ?_); (try simp only [Act.put, List.setIfInBounds_toArray, List.set_cons_zero, List.set_cons_succ, Nat.zero_add, Nat.zero_mul, Nat.reduceAdd])) | ((refine w_eqF rfl rfl rfl ?_); (try simp only [Act.put, List.setIfInBounds_toArray, List.set_cons_zero, List.set_cons_succ, Nat.zero_add, Nat.zero_mul, Nat.reduceAdd])) | ((first | (refine w_box rfl hF rfl ?_; clear hF; intro gN wN hF) | (refine w_alloc rfl hF ?_; clear hF; intro gN wN hF) | (refine w_ld1 rfl hF rfl ?_) | (refine w_ld rfl hF rfl ?_) | (refine w_st1 rfl hF rfl rfl ?_; clear hF; intro wN hF; (try simp only [List.set_cons_zero, List.set_cons_succ, List.eraseIdx_cons_zero, List.eraseIdx_cons_succ] at hF)) | (refine w_st rfl hF rfl rfl ?_; clear hF; intro wN hF; (try simp only [List.set_cons_zero, List.set_cons_succ, List.eraseIdx_cons_zero, List.eraseIdx_cons_succ] at hF)) | (refine w_fldB rfl rfl ?_) | (refine w_fld rfl hF rfl ?_) | (refine w_ix rfl hF rfl rfl ?_) | (refine w_lde1 rfl hF rfl ?_) | (refine w_lde rfl hF rfl ?_) | (refine w_bs1 rfl hF rfl ?_; clear hF; intro gN wN hF) | (refine w_bs0 rfl hF ?_; clear hF; intro gN wN hF) | (refine w_app rfl hF rfl rfl ?_; clear hF; intro vN wN hF; (try simp only [List.set_cons_zero, List.set_cons_succ, List.eraseIdx_cons_zero, List.eraseIdx_cons_succ] at hF)) | (refine w_appD rfl hF rfl rfl ?_; clear hF; intro vN wN hF; (try simp only [List.set_cons_zero, List.set_cons_succ, List.eraseIdx_cons_zero, List.eraseIdx_cons_succ] at hF)) | (refine w_ld1o rfl hF rfl ?_) | (refine w_st1o rfl hF rfl rfl ?_; clear hF; intro wN hF; (try simp only [List.set_cons_zero, List.set_cons_succ, List.eraseIdx_cons_zero, List.eraseIdx_cons_succ] at hF)) | (refine w_make0 rfl hF rfl rfl ?_; clear hF; intro gN wN hF) | (refine w_to rfl hF rfl rfl ?_; clear hF; intro hF) | (refine w_from rfl hF rfl rfl ?_; clear hF; intro hF)); (try simp only [Act.put, List.setIfInBounds_toArray, List.set_cons_zero, List.set_cons_succ, Nat.zero_add, Nat.zero_mul, Nat.reduceAdd])))
          go_ret
          exact ⟨rfl, hF.bel⟩
end Go.Proofs.Ytbfllafbklfcjaa
