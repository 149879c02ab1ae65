/- source.Maker: a loop over an iterator: who writes a register last. -/
import Derived.RangeFuncNested
import Derived.RangeFuncBound
import Derived.RangeFuncCalls
import Derived.RangeFuncLeaves
import Derived.Shelf.Abstract
import Derived.Shelf.RegionOpen
import Derived.WalkKit
import Derived.OwnWalkIn
import Derived.TacticsInMore
import Derived.LoopNIn
import Derived.LoopIn
import Derived.Test.YtbfllafbklfcjaaTW
set_option linter.unusedVariables false
set_option linter.unusedSimpArgs false
set_option maxRecDepth 100000
namespace Go.Proofs.Ytbfllafbklfcjaa
open Go.RowKit Go.Shelf

attribute [local go_sem] Oper.semAt_some

section
variable {F : Fence} {nf : Nat} {P : Program} {ops : Array Oper} {rest : List Oper} {o : Oper} {a : Act} {w : World} {Q : Exit → Act → World → Prop}
theorem wpListIn_of_run {v : Value} {w' : World} (hw : Region.wanted o (yielded ops a.tmps) = true) (hab : o.about P w a.eval = none) (hnd : ∀ c, o.op ≠ .defer c) (hrun : (execOp a.eval o).run P w = .ok (.value v) w')
    (h : wpListIn F nf P ops Q rest (a.put o.dst v) w') : wpListIn F nf P ops Q (o :: rest) a w := by
  refine wpListIn_step fun K hK => ?_
  rw [if_pos hw]
  unfold Oper.wpIn
  refine ⟨fun f hf => (by rw [hab] at hf; cases hf), ?_⟩
  rw [Oper.semAt_plain F _ _ hnd, hrun]
  exact hK _ _ h
theorem wpListIn_of_skip {w' : World} (hw : Region.wanted o (yielded ops a.tmps) = true) (hab : o.about P w a.eval = none) (hnd : ∀ c, o.op ≠ .defer c) (hrun : (execOp a.eval o).run P w = .ok .skip w')
    (h : wpListIn F nf P ops Q rest (a.put o.dst undef) w') : wpListIn F nf P ops Q (o :: rest) a w := by
  refine wpListIn_step fun K hK => ?_
  rw [if_pos hw]
  unfold Oper.wpIn
  refine ⟨fun f hf => (by rw [hab] at hf; cases hf), ?_⟩
  rw [Oper.semAt_plain F _ _ hnd, hrun]
  exact hK _ _ h
/-- a whole element, loaded -/
theorem wpListIn_load_elem (hw : Region.wanted o (yielded ops a.tmps) = true) (ty : TypeId) (x : Operand) (ho : o.op = .load ty x) (g off : Nat) (hx : a.eval x = .pointer (some ⟨g, off, none⟩)) (cs : List Value) (v : Value) (hv : v = .agg cs.toArray)
    (hc : ∀ j u, cs[j]? = some u → w.cell? ⟨g, off + j, none⟩ = some u) (ht : RowTy P ty cs.length) (h : wpListIn F nf P ops Q rest (a.put o.dst v) w) : wpListIn F nf P ops Q (o :: rest) a w := by
  subst hv
  refine wpListIn_of_run hw (by simp [Oper.about, ho]) (by rw [ho]; intro c hc'; cases hc') ?_ h
  unfold execOp
  simp only [ho, hx, Instr.loadAt, Instr.sureAddr, Sem.run_bind, Sem.run_pure, Result.andThen_ok, run_loadVar_elem w g off ty cs hc ht]
/-- a whole variable, stored -/
theorem wpListIn_store_bk (hw : Region.wanted o (yielded ops a.tmps) = true) (ty : TypeId) (x y : Operand) (ho : o.op = .store ty x y) (g : Nat) (cs : List Value) (hx : a.eval x = .pointer (some ⟨g, 0, none⟩)) (hy : a.eval y = .agg cs.toArray)
    (t : TypeId) (old : List Value) (hg : Bk w g t old) (hold : old.length = cs.length) (ht : RowTy P ty cs.length) (h1 : ∀ u ∈ cs, u.oneCell' = true)
    (h : ∀ w', Bk w' g t cs → w'.heap.size = w.heap.size → (∀ k, k ≠ g → w'.heap[k]? = w.heap[k]?) → (∀ b : World, Bel b w → b.heap.size ≤ g → Bel b w') → wpListIn F nf P ops Q rest (a.put o.dst undef) w') : wpListIn F nf P ops Q (o :: rest) a w := by
  obtain ⟨d, hu, hd, hi⟩ := ht
  have hst := run_storeCells_cells (P := P) g 0 cs 0 w (fun j hj => by
    rw [hg.cell, show 0 + 0 + j = j by omega, List.getElem?_eq_getElem (by omega)]; rfl) (fun j hj => by
    rw [show 0 + 0 + j = j by omega]; exact hg.frozen (by omega)) h1
  obtain ⟨k1, k2⟩ := hg.setCells cs 0
  have hrun : (storeVar ty ⟨g, 0, none⟩ (.agg cs.toArray)).run P w = .ok () (w.setCells g 0 cs) := by
    cases hq : P.info? ty with
    | none => simp [hq] at hi
    | some i =>
      have hs : i.size = cs.length := by simpa [hq] using hi
      simp [storeVar, sizeOf, typeInfo, hq, Value.cells, hs, hst]
  have e : spl old 0 cs = cs := by rw [spl_eq _ _ _ (by omega)]; simp [hold]
  rw [e] at k1
  refine wpListIn_of_skip (w' := w.setCells g 0 cs) hw (by simp [Oper.about, ho]) (by rw [ho]; intro c hc'; cases hc') ?_ (h _ k1 ?_ (fun k hk => ?_) (fun b hb hbg => hb.grown k2 fun k hk => by injection hk with hk; omega))
  · unfold execOp
    simp only [ho, hx, hy, Instr.storeAt, Instr.sureAddr, Sem.run_bind, Sem.run_pure, Result.andThen_ok, hrun]
  · clear hst k1 k2 hrun
    have : ∀ (l : List Value) (o : Nat) (W : World), (W.setCells g o l).heap.size = W.heap.size := by
      intro l
      induction l with
      | nil => intro o W; rfl
      | cons v r ih => intro o W; rw [World.setCells, ih]; simp [World.setCell]
    exact this cs 0 w
  · clear hst k1 k2 hrun
    have : ∀ (l : List Value) (o : Nat) (W : World), (W.setCells g o l).heap[k]? = W.heap[k]? := by
      intro l
      induction l with
      | nil => intro o W; rfl
      | cons v r ih => intro o W; rw [World.setCells, ih]; exact Below.heap_setCell W _ v k hk
    exact this cs 0 w
/-- 'min(x, y)', kept behind a name -/
theorem wpListIn_min (hgd : o.guard = none) (x y : Operand) (ts : Array TypeId) (ho : o.op = .call { callee := .builtin .min, args := #[x, y], argTypes := ts })
    (k k' : IntKind) (p q N : Int) (hx : a.eval x = .int k p) (hy : a.eval y = .int k' q) (hN : N = if q < p then q else p)
    (h : wpListIn F nf P ops Q rest (a.put o.dst (.int k N)) w) : wpListIn F nf P ops Q (o :: rest) a w := by
  refine wpListIn_of_run (by simp [Region.wanted, hgd]) (by simp [Oper.about, ho, resolve, Target.leads, Sem.run_pure]) (by rw [ho]; intro c hc'; cases hc') ?_ h
  have hrun := fun ts t => run_min_int2 (P := P) w ts t k k' p q
  unfold execOp
  simp only [ho, resolve, invoke, builtin, Sem.run_bind, Sem.run_pure, Result.andThen_ok, List.map_toArray, List.map_cons, List.map_nil, hx, hy, hrun]
  rw [← hN]
end

theorem keepsFrom_bel {W W1 : World} (h : Bel W W1) (B : Nat) : KeepsFrom B W W1 := ⟨h.size, fun k o _ hk _ => (h.block k (Array.getElem?_eq_some_iff.1 hk).1).trans hk⟩
/-- the entries ahead of a place, the last one first -/
def bkL (q : List En) : Nat → List (Nat × En)
  | 0 => []
  | k + 1 => match q[k]? with
    | some e => (k, e) :: bkL q k
    | none => []
theorem bkL_succ {q : List En} {k : Nat} {e : En} (h : q[k]? = some e) : bkL q (k + 1) = (k, e) :: bkL q k := by simp [bkL, h]
theorem bkL_none {q : List En} {reg : Int} : ∀ {n : Nat}, n ≤ q.length → (∀ p ∈ bkL q n, writesI p.2.inst ≠ reg) → lastW q reg n = -1
  | 0, _, _ => rfl
  | n + 1, hn, h => by
    obtain ⟨e, he⟩ : ∃ e, q[n]? = some e := ⟨_, List.getElem?_eq_getElem (by omega)⟩
    rw [bkL_succ he] at h
    have h0 := h (n, e) (List.mem_cons_self ..)
    unfold lastW
    simp only [he, if_neg h0]
    exact bkL_none (by omega) fun p hp => h p (List.mem_cons_of_mem _ hp)
theorem bkL_some {q : List En} {reg : Int} {last : Nat × En} {rest : List (Nat × En)} : ∀ {n : Nat} {ini : List (Nat × En)}, n ≤ q.length → bkL q n = ini ++ last :: rest → (∀ p ∈ ini, writesI p.2.inst ≠ reg) → writesI last.2.inst = reg → lastW q reg n = (last.1 : Int)
  | 0, ini, _, h, _, _ => by simp [bkL] at h
  | n + 1, ini, hn, h, hi, hl => by
    obtain ⟨e, he⟩ : ∃ e, q[n]? = some e := ⟨_, List.getElem?_eq_getElem (by omega)⟩
    rw [bkL_succ he] at h
    unfold lastW
    simp only [he]
    cases ini with
    | nil =>
      rw [List.nil_append] at h
      injection h with h1 h2
      subst h1
      rw [if_pos hl]
    | cons x ini =>
      rw [List.cons_append] at h
      injection h with h1 h2
      subst h1
      rw [if_neg (hi _ (List.mem_cons_self ..))]
      exact bkL_some (by omega) h2 (fun p hp => hi p (List.mem_cons_of_mem _ hp)) hl

theorem back_in (nf : Nat) (A : Option Addr) (n c : Nat) (i : Int) (w : World) :
    CallsIn Fence.wide nf Try.prog 29 #[.slice A n c, .int .i64 i] w fun e w' => e = .returned (.func (.func 32) #[] #[.pointer (some ⟨w.heap.size + 1, 0, none⟩), .pointer (some ⟨w.heap.size, 0, none⟩)]) ∧ w' = (w.alloc (.cells #[.slice A n c] 22)).alloc (.cells #[.int .i64 i] 3) := by
  refine callsIn_of_wp Try.func29 rfl trivial ?_ rfl
  simp only [Try.ntmps29, List.size_toArray, List.length_cons, List.length_nil, Nat.reduceAdd, Nat.reduceSub, Array.replicate_succ, Array.replicate_zero, List.push_toArray, List.append_toArray, List.nil_append, List.cons_append]
  gi_wp2
  go_ret
  exact ⟨rfl, rfl⟩
set_option maxHeartbeats 4000000 in
theorem back1_in (nf l Bi Bs n₀ : Nat) (hn : 1 ≤ nf) (A : Option Addr) (n c : Nat) (i M : Int) (q : List En) (hBi : Bi < n₀) (hBs : Bs < n₀) (hi : -9223372036854775808 ≤ i ∧ i ≤ 9223372036854775807) (hM : M = if (n : Int) < i then (n : Int) else i) (J Jx : List (Nat × En) → World → Prop)
    (hY : ∀ pre x W, J pre W → pre.length < n → YieldAt Fence.wide (nf - 1) Try.prog l #[.int .i64 (x.1 : Int), x.2.val] W fun e W' =>
      (e = .returned (.bool true) ∧ J (pre ++ [x]) W' ∧ Below n₀ W W') ∨ (e = .returned (.bool false) ∧ Jx (pre ++ [x]) W'))
    (W : World) (hcs : W.cell? ⟨Bs, 0, none⟩ = some (.slice A n c)) (hci : W.cell? ⟨Bi, 0, none⟩ = some (.int .i64 i)) (hr : Rd W n₀ 17 A n c (ens q)) (h0 : J [] W) :
    CallsIn Fence.wide nf Try.prog 32 #[.func (.yield l) #[] #[], .pointer (some ⟨Bi, 0, none⟩), .pointer (some ⟨Bs, 0, none⟩)] W fun e W' => (∃ v, e = .returned v) ∧
      ((∃ ys, ys = bkL q M.toNat ∧ J ys W') ∨ (∃ pre, pre <+: bkL q M.toNat ∧ Jx pre W')) := by
  have hql := hr.enslen
  have hc1 := hr.le
  have hc2 := hr.mx
  unfold maxLen at hc2
  have hM1 : M ≤ (n : Int) := by rw [hM]; split <;> omega
  have hM2 : -9223372036854775808 ≤ M := by rw [hM]; split <;> omega
  replace hM := Lib.hid hM
  replace hr := Lib.hid hr
  refine callsIn_of_wp Try.func32 rfl trivial ?_ rfl
  simp only [Try.ntmps32, List.size_toArray, List.length_cons, List.length_nil, Nat.reduceAdd, Nat.reduceSub, Array.replicate_succ, Array.replicate_zero, List.push_toArray, List.append_toArray, List.nil_append, List.cons_append]
  gi_wp2_with (refine wpListIn_min rfl _ _ _ (by rfl) _ _ _ _ M (by rfl) (by rfl) hM.out ?_)
  gi_loopw [4] (fun x wr => ∃ (kk : Int) (pre : List (Nat × En)), x = .int .i64 kk ∧ kk ≤ (n : Int) ∧ -9223372036854775808 ≤ kk ∧ bkL q M.toNat = pre ++ bkL q kk.toNat ∧ pre.length + kk.toNat ≤ n ∧ J pre wr ∧ Below n₀ W wr)
    (fun x _ => (intOf x).toNat)
  case atStart => exact ⟨M, [], rfl, hM1, hM2, rfl, by simp; omega, h0, Below.refl _ _⟩
  case round =>
    obtain ⟨kk, pre, rfl, hk1, hk2, hpre, hlen, hJs, hnx⟩ := hrel
    by_cases hpos : 0 < kk
    · obtain ⟨m, rfl⟩ : ∃ m : Nat, kk = (m : Int) + 1 := ⟨(kk - 1).toNat, by omega⟩
      have hmn : m < n := by omega
      have hmt : ((m : Int) + 1).toNat = m + 1 := by omega
      rw [hmt] at hpre hlen
      obtain ⟨e, he⟩ : ∃ e, q[m]? = some e := ⟨_, List.getElem?_eq_getElem (by omega)⟩
      rw [bkL_succ he] at hpre
      obtain ⟨hl, g, off, rfl, hg, hce⟩ := (hr.out.below hnx).enselem hmn
      have hee : q[m]'hl = e := by rw [List.getElem?_eq_getElem hl] at he; exact Option.some.inj he
      rw [hee] at hce
      replace hce := Lib.hid hce
      have hcs' := (hnx.cell (p := ⟨Bs, 0, none⟩) hBs).trans hcs
      have hci' := (hnx.cell (p := ⟨Bi, 0, none⟩) hBi).trans hci
      obtain ⟨fn, tmps, assign, body, hy, hR⟩ := hY pre (m, e) wr hJs (by omega)
      dsimp only at hy
      replace hpre := Lib.hid hpre
      replace he := Lib.hid he
      clear hcs hci hmt hM hee
      gi_wp2_with (refine wpListIn_load_elem rfl 30 (.tmp 19) (by rfl) g (off + m * 17) (by rfl) e.cells e.val rfl hce.out ensTy ?_)
      refine hR.mono ?_
      rintro e W3 (⟨rfl, hJ3, hk3⟩ | ⟨rfl, hJx3⟩)
      · gi_wp2
        go_roundw
        case rel => exact ⟨(m : Int), pre ++ [(m, _)], by go_num, by omega, by omega, by rw [hpre.out]; simp, by simp; omega, hJ3, hnx.trans hk3⟩
        case measure => first | (simp [intOf]; done) | (simp [intOf]; omega)
      · gi_wp2
        refine bodyPost_ret (results_none rfl _ _ _) rfl ?_
        exact ⟨⟨_, rfl⟩, .inr ⟨_, by rw [hpre.out]; exact ⟨bkL q m, by simp⟩, hJx3⟩⟩
    · have hz : kk.toNat = 0 := by omega
      rw [hz] at hpre
      replace hpre := Lib.hid (show pre = bkL q M.toNat by rw [hpre]; simp [bkL])
      gi_wp2
      go_end0
      exact ⟨⟨_, rfl⟩, .inl (by rw [← hpre.out]; exact hJs)⟩
theorem back_stops (nf : Nat) (hn : 1 ≤ nf) (Bi Bs : Nat) (A : Option Addr) (n c : Nat) (i M : Int) (q : List En) (w0 : World) (hBi : Bi < w0.heap.size) (hBs : Bs < w0.heap.size) (hi : -9223372036854775808 ≤ i ∧ i ≤ 9223372036854775807) (hM : M = if (n : Int) < i then (n : Int) else i)
    (hcs : w0.cell? ⟨Bs, 0, none⟩ = some (.slice A n c)) (hci : w0.cell? ⟨Bi, 0, none⟩ = some (.int .i64 i)) (hr : Rd w0 w0.heap.size 17 A n c (ens q)) :
    SeqStopsK Fence.wide nf Try.prog 32 #[.pointer (some ⟨Bi, 0, none⟩), .pointer (some ⟨Bs, 0, none⟩)] (fun x : Nat × En => #[.int .i64 (x.1 : Int), x.2.val]) (Below w0.heap.size) (fun ys => ys = bkL q M.toNat) (fun pre => pre <+: bkL q M.toNat) n w0 := fun l J Jx W hW _ _ hY h0 =>
  back1_in nf l Bi Bs w0.heap.size hn A n c i M q hBi hBs hi hM J Jx hY W ((hW.cell (p := ⟨Bs, 0, none⟩) hBs).trans hcs) ((hW.cell (p := ⟨Bi, 0, none⟩) hBi).trans hci) (hr.below hW) h0

set_option maxHeartbeats 4000000 in
theorem Maker_in (A : Option Addr) (n c : Nat) (i reg : Int) (q : List En) (w : World) (hr : Rd w w.heap.size 17 A n c (ens q)) (hi : -9223372036854775808 ≤ i ∧ i ≤ 9223372036854775807) (h1 : 1 ≤ reg) (h2 : reg ≤ 31) :
    CallsIn Fence.wide 9 Try.prog 26 #[.slice A n c, .int .i64 i, .int .i64 reg] w fun e w' => e = .returned (.int .i64 (makerL q i reg)) ∧ Below w.heap.size w w' := by
  obtain ⟨M, hM⟩ : ∃ M, M = if (n : Int) < i then (n : Int) else i := ⟨_, rfl⟩
  have hMt : M.toNat = (min i q.length).toNat := by rw [hr.enslen, hM]; split <;> omega
  refine callsIn_of_wp_marks Try.func26 rfl trivial ?_ rfl
  simp only [Try.ntmps26, List.size_toArray, List.length_cons, List.length_nil, Nat.reduceAdd, Nat.reduceSub, Array.replicate_succ, Array.replicate_zero, List.push_toArray, List.append_toArray, List.nil_append, List.cons_append]
  gi_wp2_with (refine ⟨trivial, ?_⟩; gi_at_call 29; refine (back_in _ _ _ _ _ _).mono ?_; rintro e w' ⟨rfl, rfl⟩)
  have hB0 : Below w.heap.size w ((((w.alloc (.cells #[.int .i64 reg] 3)).alloc (.cells #[.int .i64 0] 3)).alloc (.cells #[.slice A n c] 22)).alloc (.cells #[.int .i64 i] 3)) :=
    ((((Below.refl _ w).alloc (Nat.le_refl _) _).alloc (by simp) _).alloc (by simp; omega) _).alloc (by simp; omega) _
  have k1 := (((Bk.new w 3 [.int .i64 reg]).bel (Bel.alloc _ (.cells #[.int .i64 0] 3))).bel (Bel.alloc _ (.cells #[.slice A n c] 22))).bel (Bel.alloc _ (.cells #[.int .i64 i] 3))
  have k2 := ((Bk.new (w.alloc (.cells #[.int .i64 reg] 3)) 3 [.int .i64 0]).bel (Bel.alloc _ (.cells #[.slice A n c] 22))).bel (Bel.alloc _ (.cells #[.int .i64 i] 3))
  have k3 := (Bk.new ((w.alloc (.cells #[.int .i64 reg] 3)).alloc (.cells #[.int .i64 0] 3)) 22 [.slice A n c]).bel (Bel.alloc _ (.cells #[.int .i64 i] 3))
  have k4 := Bk.new (((w.alloc (.cells #[.int .i64 reg] 3)).alloc (.cells #[.int .i64 0] 3)).alloc (.cells #[.slice A n c] 22)) 3 [.int .i64 i]
  simp only [World.size_alloc] at k1 k2 k3 k4
  have hsz : ((((w.alloc (.cells #[.int .i64 reg] 3)).alloc (.cells #[.int .i64 0] 3)).alloc (.cells #[.slice A n c] 22)).alloc (.cells #[.int .i64 i] 3)).heap.size = w.heap.size + 4 := by simp
  obtain ⟨W0, hW0⟩ : ∃ W0, (((w.alloc (.cells #[.int .i64 reg] 3)).alloc (.cells #[.int .i64 0] 3)).alloc (.cells #[.slice A n c] 22)).alloc (.cells #[.int .i64 i] 3) = W0 := ⟨_, rfl⟩
  rw [hW0] at hB0 hsz ⊢
  replace k1 : Bk W0 w.heap.size 3 [.int .i64 reg] := by rw [← hW0]; exact k1
  replace k2 : Bk W0 (w.heap.size + 1) 3 [.int .i64 0] := by rw [← hW0]; exact k2
  replace k3 : Bk W0 (w.heap.size + 1 + 1) 22 [.slice A n c] := by rw [← hW0]; exact k3
  replace k4 : Bk W0 (w.heap.size + 1 + 1 + 1) 3 [.int .i64 i] := by rw [← hW0]; exact k4
  clear hW0
  have hr0 := (hr.below hB0).more hB0.size
  have hnl := hr.enslen
  refine wpIn_rangeFunc_ownH (P := Try.prog) (F := Fence.wide) (n := 9) rfl (by omega) (gf := 32) (lb := #[.pointer (some ⟨w.heap.size + 1 + 1 + 1, 0, none⟩), .pointer (some ⟨w.heap.size + 1 + 1, 0, none⟩)]) rfl trivial (enters_of Try.func32 (by kernel_rfl) rfl)
    (back_stops 8 (by omega) _ _ A n c i M q W0 (by omega) (by omega) hi hM (k3.cell 0) (k4.cell 0) hr0) belowK_t (belowK_b (Nat.le_refl _)) (Below.refl _ _) (fun _ => rfl)
    (fun pre W => (∀ p ∈ pre, writesI p.2.inst ≠ reg) ∧ Below W0.heap.size W0 W)
    (fun c pre W => (c = .ret ∧ ∃ ini last, pre = ini ++ [last] ∧ (∀ p ∈ ini, writesI p.2.inst ≠ reg) ∧ writesI last.2.inst = reg ∧ W.cell? ⟨w.heap.size + 1, 0, none⟩ = some (.int .i64 (last.1 : Int))) ∧ Below w.heap.size w W)
    (OwnFrom.and (ownFrom_pure _ _) (ownFrom_below (Nat.le_refl _) (Nat.le_refl _)))
    (fun c => OwnFrom.and (Own.from (fun s A B row hs hg hr => by obtain ⟨hc, ini, last, e1, e2, e3, e4⟩ := hs; exact ⟨hc, ini, last, e1, e2, e3, cell_kept e4 hg hr⟩) _) (ownFrom_below (Nat.le_refl _) (by omega)))
    ⟨by simp, Below.refl _ _⟩
    (fun x a' W => ∃ Bx, W0.heap.size ≤ Bx ∧ Bk W Bx 30 x.2.cells ∧ a' = { tmps := #[.slice A n c, .int .i64 i, .int .i64 reg, undef, undef, .pointer (some ⟨w.heap.size, 0, none⟩), .pointer (some ⟨w.heap.size + 1, 0, none⟩), .int .i64 (x.1 : Int), .pointer (some ⟨Bx, 0, none⟩), .int .i64 reg, .bool (decide (reg < 1)), .bool (decide (reg < 1)), .int .i64 reg, .bool (decide (31 < reg)), .bool (decide (reg < 1) || decide (31 < reg)), .slice A n c, .int .i64 i, .func (.func 32) #[] #[.pointer (some ⟨w.heap.size + 1 + 1 + 1, 0, none⟩), .pointer (some ⟨w.heap.size + 1 + 1, 0, none⟩)], .int .i64 (x.1 : Int), x.2.val, undef, undef, undef, undef, undef, undef], defers := [] })
    (fun x a' _ X Y row hs hg hr => by
      obtain ⟨Bx, h1, h2, h3⟩ := hs
      refine ⟨Bx, h1, h2.grown hg (fun e => ?_), h3⟩
      obtain ⟨_, o, ho, hc⟩ := hr _ e.symm
      obtain ⟨r, hg2, _⟩ := h2
      rw [ho] at hg2
      cases hg2
      cases hc)
    ?assign ?body ?done ?stop
  case assign =>
    rintro l pre x W K ⟨hp, hB⟩ hK
    gi_wp2_with (refine wpListIn_store_bk rfl 30 (.tmp 8) (.tmp 19) (by rfl) W.heap.size x.2.cells (by rfl) (by rfl) 30 ensZ ?_ rfl ensTy x.2.one ?_; exact Bk.new W _ ensZ; intro w1 hk1 hs1 ho1 hbe1)
    have hbel : Bel W w1 := hbe1 _ (Bel.alloc _ _) (Nat.le_refl _)
    exact hK _ _ (keepsFrom_bel hbel _) (hbel.mono hB.size) ⟨hp, hB.trans (hbel.mono hB.size)⟩ ⟨_, hB.size, hk1, rfl⟩
  case body =>
    rintro l pre ⟨k, e⟩ a' W hl ⟨r, hr⟩ ⟨hp, hB⟩ ⟨Bx, hBx, bX, rfl⟩ hlt
    have c0 := bX.cell 2
    have c1 := bX.cell 3
    have c2 := bX.cell 4
    have c3 := bX.cell 5
    have c4 := bX.cell 6
    have cr : W.cell? ⟨w.heap.size, 0, none⟩ = some (.int .i64 reg) := (hB.cell (p := ⟨w.heap.size, 0, none⟩) (by dsimp only; omega)).trans (k1.cell 0)
    have cv : W.cell? ⟨w.heap.size + 1, 0, none⟩ = some (.int .i64 0) := (hB.cell (p := ⟨w.heap.size + 1, 0, none⟩) (by dsimp only; omega)).trans (k2.cell 0)
    have fv : W.frozen? ⟨w.heap.size + 1, 0, none⟩ = false := (hB.frozen (p := ⟨w.heap.size + 1, 0, none⟩) (by dsimp only; omega)).trans (k2.frozen (i := 0) (by simp))
    have hmx : Try.prog.follows .mixedOrders = true := by kernel_rfl
    dsimp only [En.cells, List.getElem?_cons_succ, List.getElem?_cons_zero] at c0 c1 c2 c3 c4
    have HW := Lib.hid (fun W => Writes_any e.inst W)
    unfold Ins.val at HW
    have hww : W0.heap.size ≤ W.heap.size := hB.size
    by_cases hw : writesI e.inst = reg
    · have HP := Lib.hid hp
      clear hp
      gi_wp2
      gi_region_with_o (refine ⟨trivial, ?_⟩; gi_at_call 30; refine (CallsIn.inRound l (callsIn_wide.2 (HW.out _))).mono ?_; rintro e w1 ⟨rfl, hb1⟩; have cr1 := hb1.cell_of cr; have cv1 := hb1.cell_of cv; have fv1 := (hb1.frozen (p := ⟨w.heap.size + 1, 0, none⟩) (World.block_lt_of_cell? _ _ cv)).trans fv)
      all_goals gi_wp2
      all_goals (try go_bits)
      all_goals
        have hbel : Bel W w1 := by first | exact hb1 | exact (Bel.drew _).trans hb1
        exact ⟨(keepsFrom_bel hbel _).trans ((KeepsOthers.setCell _ _ _).from _), ⟨rfl, pre, (k, e), rfl, HP.out, hw, World.cell?_setCell_same' _ _ _ (by rw [cv1]; rfl)⟩, ((hB0.trans (hB.mono hB0.size)).trans (hbel.mono (Nat.le_trans hB0.size hww))).setCell (p := ⟨w.heap.size + 1, 0, none⟩) (by simp) _⟩
    · have HP := Lib.hid hp
      clear hp
      gi_wp2
      gi_region_with_o (refine ⟨trivial, ?_⟩; gi_at_call 30; refine (CallsIn.inRound l (callsIn_wide.2 (HW.out _))).mono ?_; rintro e w1 ⟨rfl, hb1⟩; have cr1 := hb1.cell_of cr)
      all_goals gi_wp2
      all_goals (try go_bits)
      all_goals
        have hbel : Bel W w1 := by first | exact hb1 | exact (Bel.drew _).trans hb1
        have hb2 : Below W0.heap.size W w1 := hbel.mono hww
        exact ⟨keepsFrom_bel hbel _, hb2, fun p hp => (List.mem_append.1 hp).elim (HP.out p) (fun h => by rw [List.mem_singleton.1 h]; exact hw), hB.trans hb2⟩
  case done =>
    rintro D ys W hD rfl ⟨hp, hB⟩ hK
    have cv : W.cell? ⟨w.heap.size + 1, 0, none⟩ = some (.int .i64 0) := (hB.cell (p := ⟨w.heap.size + 1, 0, none⟩) (by dsimp only; omega)).trans (k2.cell 0)
    have fv : W.frozen? ⟨w.heap.size + 1, 0, none⟩ = false := (hB.frozen (p := ⟨w.heap.size + 1, 0, none⟩) (by dsimp only; omega)).trans (k2.frozen (i := 0) (by simp))
    have HM := Lib.hid (show makerL q i reg = -1 by rw [makerL, if_neg (by omega), ← hMt]; exact bkL_none (by omega) hp)
    clear hp
    gi_wp2
    have hK' := (KeepsOthers.setCell W ⟨w.heap.size + 1, 0, none⟩ (.int .i64 (-1))).same D _ hK rfl
    refine ⟨by simp, .inl ⟨_, _, rfl, run_takeDeferred hK', ?_⟩⟩
    have hc5 := cell_kept (World.cell?_setCell_same' W ⟨w.heap.size + 1, 0, none⟩ (.int .i64 (-1)) (by rw [cv]; rfl)) (grownBy_putObj' _ D (.deferred none)) (fun r e => by cases e; exact ⟨_, hK', rfl⟩)
    refine ⟨.int .i64 (-1), ?_, by rw [HM.out], ((hB0.trans (hB.mono hB0.size)).setCell (p := ⟨w.heap.size + 1, 0, none⟩) (by simp) _).trans (belowK_b (w := w) (Nat.le_refl _) _ D _ _ (by omega) hK' rfl rfl)⟩
    simp [results, Try.f26, go_sem, hc5]
  case stop =>
    rintro D c pre W hD ⟨rest, hpre⟩ ⟨⟨rfl, ini, last, rfl, e2, e3, hcr⟩, hB⟩ hK
    have HM := Lib.hid (show makerL q i reg = (last.1 : Int) by
      rw [makerL, if_neg (by omega), ← hMt]
      exact bkL_some (rest := rest) (by omega) (by rw [← hpre]; simp) e2 e3)
    clear e2 e3 hpre
    gi_wp2
    refine ⟨by simp, .inl ⟨_, _, rfl, run_takeDeferred hK, ?_⟩⟩
    have hc5 := cell_kept hcr (grownBy_putObj' _ D (.deferred none)) (fun r e => by cases e; exact ⟨_, hK, rfl⟩)
    refine ⟨.int .i64 (last.1 : Int), ?_, by rw [HM.out], hB.trans (belowK_b (w := w) (Nat.le_refl _) W D _ _ (by omega) hK rfl rfl)⟩
    simp [results, Try.f26, go_sem, hc5]
theorem Maker_any (A : Option Addr) (n c : Nat) (i reg : Int) (q : List En) (w : World) (hr : Rd w w.heap.size 17 A n c (ens q)) (hi : -9223372036854775808 ≤ i ∧ i ≤ 9223372036854775807) (hg : -9223372036854775808 ≤ reg ∧ reg ≤ 9223372036854775807) :
    Calls Try.prog 26 #[.slice A n c, .int .i64 i, .int .i64 reg] w fun e w' => e = .returned (.int .i64 (makerL q i reg)) ∧ Bel w w' := by
  by_cases h : reg < 1 ∨ 31 < reg
  · have HM := Lib.hid (show makerL q i reg = -1 by rw [makerL, if_pos h])
    clear hi hg hr
    rcases Int.lt_or_le reg 1 with h | h
    · go_enter Try.func26, Try.ntmps26
      go_wp2
      refine bodyPost_ret (v := .int .i64 (-1)) ?_ rfl ⟨by rw [HM.out], (Bel.alloc _ _).trans (Bel.alloc _ _)⟩
      simp [results, Try.f26, go_sem]
    · have h : 31 < reg := by omega
      go_enter Try.func26, Try.ntmps26
      go_wp2
      refine bodyPost_ret (v := .int .i64 (-1)) ?_ rfl ⟨by rw [HM.out], (Bel.alloc _ _).trans (Bel.alloc _ _)⟩
      simp [results, Try.f26, go_sem]
  · refine (callsIn_wide (n := 9)).1 ((Maker_in A n c i reg q w hr hi (by omega) (by omega)).mono ?_)
    rintro e w' ⟨rfl, hb⟩
    exact ⟨rfl, hb⟩
end Go.Proofs.Ytbfllafbklfcjaa
