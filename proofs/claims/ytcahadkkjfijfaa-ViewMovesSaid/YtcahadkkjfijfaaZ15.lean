/- Joined: StO, VShort, Short20, U32a. -/
import Derived.Test.YtcahadkkjfijfaaZ3
import Derived.Test.YtcahadkkjfijfaaZ5
import Derived.Test.YtcahadkkjfijfaaZ1
import Derived.Laws.Tables
import Derived.Laws.Rows
import Derived.ProofKit
import Derived.OpenShut
/- More laws over St: elements of rows that are appended to; minima within statements that draw their order. -/
set_option linter.unusedVariables false
set_option linter.unusedSimpArgs false
namespace Go.Proofs.Ytcahadkkjfijfaa
open Go.RowKit

section
variable {P : Program} {ops : Array Oper} {rest : List Oper} {o : Oper} {a : Act} {Q : Exit → Act → World → Prop} {w0 w : World} {D0 D : List Da} {M : List Mu} {S : World → Prop} {B : Nat} {Mr : List Mu} {Dr : List Da}
theorem w_ldo {ty : TypeId} {x : Operand} {g off i n c : Nat} {e : TypeId} {sz : Nat} {xs us : List Value} {v : Value} (ho : o.op = .load ty x) (hF : St w0 D0 w M D) (hx : look a x = some (.pointer (some ⟨g, off, none⟩)))
    (h : wpList P ops Q rest (a.put o.dst v) w) (hw : Region.wanted o (yielded ops a.tmps) = true := by rfl) (hi : M[i]? = some (.own (.slice (some ⟨g, 0, none⟩) n c) e sz n xs) := by (first | exact at0 | exact at1 | exact at2 | exact at3 | exact at4 | exact at5 | exact at6 | exact at7))
    (hu : ∀ j u, us[j]? = some u → xs[off + j]? = some u := by exact Rows.sub (by assumption)) (ht : RowTy P ty us.length := by exact tyRow _ _ rfl) (hv : .agg us.toArray = v := by exact rfl) : wpList P ops Q (o :: rest) a w :=
  st_ldo ho hF hx hw hi us hu ht hv h
theorem own_cell {w : World} {B g n c : Nat} {e : TypeId} {sz : Nat} {xs : List Value} (h : (Mu.own (.slice (some ⟨g, 0, none⟩) n c) e sz n xs).ok B w) (j : Nat) (u : Value) (hu : xs[j]? = some u) : w.cell? ⟨g, j, none⟩ = some u := by
  have := World.ownsRow.cells h (g := g) rfl j u hu
  rwa [addr_add, Nat.zero_add] at this
theorem y_ld1o {ty : TypeId} {x : Operand} {g off n c : Nat} {e : TypeId} {sz : Nat} {xs : List Value} {v : Value} (ho : o.op = .load ty x) (hx : look a x = some (.pointer (some ⟨g, off, none⟩))) (ht : OneT P ty := by exact tyOne _ rfl) (hw : Region.wanted o (yielded ops a.tmps) = true := by rfl)
    (hm : Mu.own (.slice (some ⟨g, 0, none⟩) n c) e sz n xs ∈ Mr := by ((repeat (first | exact List.Mem.head _ | refine List.Mem.tail _ ?_)) <;> exact List.Mem.head _)) (hv : xs[off]? = some v := by first | exact rfl | assumption | exact Rows.el (by assumption) rfl | exact Rows.el0 (by assumption) rfl) : YieldsIf P ops (Hold B Mr Dr) o v a := by
  replace hx := look_eval hx
  exact .inl ⟨hw, fun w hS => by
    have hb : (Mu.own (.slice (some ⟨g, 0, none⟩) n c) e sz n xs).ok B w := hS.1 _ hm
    unfold execOp
    simp only [ho, hx, Instr.loadAt, Instr.sureAddr, Sem.run_bind, Sem.run_pure, Result.andThen_ok, run_load_one ht (own_cell hb off v hv)]⟩
theorem run_min2 {w : World} {x y : Operand} {ts : Array TypeId} {k k' : IntKind} {p q N : Int} (ho : o.op = .call { callee := .builtin .min, args := #[x, y], argTypes := ts }) (hx : look a x = some (.int k p)) (hy : look a y = some (.int k' q)) (hN : N = if q < p then q else p) : (execOp a.eval o).run P w = .ok (.value (.int k N)) w := by
  replace hx := look_eval hx
  replace hy := look_eval hy
  have hrun := fun ts t => run_min_int2 (P := P) w ts t k k' p q
  unfold execOp
  simp only [ho, resolve, invoke, builtin, Sem.run_bind, Sem.run_pure, Result.andThen_ok, List.map_toArray, List.map_cons, List.map_nil, hx, hy, hrun]
  rw [← hN]
/-- 'min(a, b)', as the context tells it -/
theorem y_min {x y : Operand} {ts : Array TypeId} {k k' : IntKind} {p q N : Int} (ho : o.op = .call { callee := .builtin .min, args := #[x, y], argTypes := ts }) (hx : look a x = some (.int k p)) (hy : look a y = some (.int k' q)) (hN : Hid (N = if q < p then q else p) := by assumption) (hw : Region.wanted o (yielded ops a.tmps) = true := by rfl) :
    YieldsIf P ops S o (.int k N) a := yi_pure hw fun w => run_min2 ho hx hy hN.out
theorem w_minH {x y : Operand} {ts : Array TypeId} {k k' : IntKind} {p q N : Int} (ho : o.op = .call { callee := .builtin .min, args := #[x, y], argTypes := ts }) (hx : look a x = some (.int k p)) (hy : look a y = some (.int k' q))
    (h : wpList P ops Q rest (a.put o.dst (.int k N)) w) (hgd : o.guard = none := by rfl) (hN : Hid (N = if q < p then q else p) := by assumption) : wpList P ops Q (o :: rest) a w := w_min N ho hx hy h hgd hN.out
theorem w_resscss {fn : Func} {p q q' q'' : Tmp} {ty t : TypeId} {g i : Nat} {cs : List Value} {tmps : Array Value} (h : fn.results = #[.tmp q, .cell p ty, .tmp q', .tmp q'']) (hF : St w0 D0 w M D) (hp : tmps.getD p undef = .pointer (some ⟨g, 0, none⟩) := by rfl) (hi : M[i]? = some (.blk g t cs) := by (first | exact at0 | exact at1 | exact at2 | exact at3 | exact at4 | exact at5 | exact at6 | exact at7)) (ht : RowTy P ty cs.length := by exact tyRow _ _ rfl) :
    (results fn tmps).run P w = .ok (.tuple #[tmps.getD q undef, .agg cs.toArray, tmps.getD q' undef, tmps.getD q'' undef]) w := res_scss h hp (hF.bkAt hi) ht
theorem St.swap {x y : Mu} (h : St w0 D0 w (x :: y :: M) D) : St w0 D0 w (y :: x :: M) D :=
  h.less ⟨fun i => if i = 0 then 1 else if i = 1 then 0 else i, fun i j e => by
    dsimp only at e
    repeat' split at e
    all_goals omega, fun i m hm => by
    match i with
    | 0 => exact hm
    | 1 => exact hm
    | i + 2 => exact hm⟩ fun d hd => hd
end
/-- a row, some of whose first records have turned -/
def mixL {α : Type} (f : α → α) (T : List α) (j : Nat) : List α := (T.map f).take j ++ T.drop j
section
variable {α : Type} {f : α → α} {T : List α} {j : Nat} {s : α}
theorem mixL_0 : mixL f T 0 = T := by simp [mixL]
theorem mixL_len : (mixL f T j).length = T.length := by simp [mixL]; omega
theorem mixL_at (h : T[j]? = some s) : (mixL f T j)[j]? = some s := by
  have hj := (List.getElem?_eq_some_iff.1 h).1
  unfold mixL
  rw [List.getElem?_append_right (by simp; omega)]
  simp [List.length_take, Nat.min_eq_left (show j ≤ T.length by omega), h]
theorem mixL_set (h : T[j]? = some s) : (mixL f T j).set j (f s) = mixL f T (j + 1) := by
  obtain ⟨hj, e⟩ := List.getElem?_eq_some_iff.1 h
  unfold mixL
  rw [List.set_append_right _ _ (by simp; omega), List.take_succ_eq_append_getElem (by simpa using hj), List.drop_eq_getElem_cons hj]
  simp [List.length_take, Nat.min_eq_left (show j ≤ T.length by omega), e]
theorem mixL_all (h : T.length ≤ j) : mixL f T j = T.map f := by
  unfold mixL
  rw [List.take_of_length_le (by simpa using h), List.drop_of_length_le h, List.append_nil]
end
end Go.Proofs.Ytcahadkkjfijfaa

/- What the statements' short makes of stores, of a cache, of requests, of memory: in plain Lean; what it hands back. -/
set_option linter.unusedVariables false
set_option linter.unusedSimpArgs false
namespace Go.Proofs.Ytcahadkkjfijfaa
open Go.RowKit

def trim40 (b : ByteArray) : ByteArray := b.extract 0 (min b.size 40)
def trimP (p : Pu) : Pu := ⟨p.addr, trim40 p.data⟩
def trimQ (r : Rq) : Rq := ⟨r.kind, r.line, r.left, trim40 r.data⟩
def trimW (v : Wy) : Wy := ⟨v.line, v.dirty, trim40 v.data⟩
def shortP (ss : List Pu) : List Pu := (ss.take 10).map trimP
def shortQ (q : List Rq) : List Rq := (q.take 10).map trimQ
def shortW (ws : List Wy) : List Wy := (ws.take 6).map trimW
def shortC (C : List (List Wy)) : List (List Wy) := (C.take 6).map shortW
def shortM (m : ByteArray) : ByteArray := m.extract 0 (min m.size 300)
theorem trim40_size (b : ByteArray) : (trim40 b).size ≤ 40 := by unfold trim40; rw [cut_size]; omega
theorem shortM_size (m : ByteArray) : (shortM m).size ≤ 300 := by unfold shortM; rw [cut_size]; omega
theorem shortP_len (ss : List Pu) : (shortP ss).length ≤ 10 := by unfold shortP; rw [List.length_map, List.length_take]; omega
theorem shortQ_len (q : List Rq) : (shortQ q).length ≤ 10 := by unfold shortQ; rw [List.length_map, List.length_take]; omega
theorem shortC_len (C : List (List Wy)) : (shortC C).length ≤ 6 := by unfold shortC; rw [List.length_map, List.length_take]; omega
theorem shortW_len (ws : List Wy) : (shortW ws).length ≤ 6 := by unfold shortW; rw [List.length_map, List.length_take]; omega
theorem cut_len {α : Type} {l : List α} {n : Nat} (k : Nat) (h : l.length = n) : ∃ N : Nat, Hid ((N : Int) = if (k : Int) < (n : Int) then (k : Int) else (n : Int)) ∧ l.take N = l.take k ∧ N ≤ n ∧ (l.take k).length = N := by
  refine ⟨min n k, Lib.hid (by split <;> omega), ?_, by omega, by rw [List.length_take]; omega⟩
  rcases Nat.le_total n k with h1 | h1
  · rw [Nat.min_eq_left h1, List.take_of_length_le (by omega), List.take_of_length_le (by omega)]
  · rw [Nat.min_eq_right h1]
/-- all that is on its way to memory, as data -/
def allD (As : Option Addr) (ns cs : Nat) (ss : List Pu) (A : Option Addr) (n c : Nat) (S : List Cs) (Aq : Option Addr) (nq cq : Nat) (q : List Rq) : List Da := [rowD 2 As ns cs (pus ss), rowD 1 A n c (csv S), elemsD S, rowD 4 Aq nq cq (rqs q)]
theorem allD_ok {w : World} {A : Option Addr} {n c : Nat} {S : List Cs} {Aq : Option Addr} {nq cq : Nat} {q : List Rq} {As : Option Addr} {ns cs : Nat} {ss : List Pu} (hr : RdS w w.heap.size A n c S) (hrq : Rd w w.heap.size 4 Aq nq cq (rqs q)) (hrs : Rd w w.heap.size 2 As ns cs (pus ss)) :
    ∀ d ∈ allD As ns cs ss A n c S Aq nq cq q, d.ok w := fun d hd => by
  rcases List.mem_cons.1 hd with rfl | hd
  · exact hrs
  · rcases List.mem_cons.1 hd with rfl | hd
    · exact hr.rd
    · rcases List.mem_cons.1 hd with rfl | hd
      · exact hr.sets
      · obtain rfl := List.mem_singleton.1 hd; exact hrq
/-- stores, a cache, requests that a call hands back -/
def SRes (w : World) (D0 : List Da) (ways : Int) (v1 v2 v3 : Value) (w' : World) (ss : List Pu) (C : List (List Wy)) (q : List Rq) : Prop :=
  ∃ As cs A n c S Aq cq, v1 = .slice As ss.length cs ∧ v2 = .agg #[.int .i64 ways, .slice A n c] ∧ v3 = .slice Aq q.length cq ∧ Out w D0 w' [rowD 2 As ss.length cs (pus ss), rowD 1 A n c (csv S), elemsD S, rowD 4 Aq q.length cq (rqs q)] ∧ cont S = C
theorem St.elemTake {w0 w : World} {D0 D : List Da} {M : List Mu} (h : St w0 D0 w M D) {S : List Cs} (k : Nat) (hS : elemsD S ∈ D := by ((repeat (first | exact List.Mem.head _ | refine List.Mem.tail _ ?_)) <;> exact List.Mem.head _)) : St w0 D0 w M (elemsD (S.take k) :: D) :=
  h.part _ (fun s hs => (h.dat _ hS : (elemsD S).ok w) s (List.mem_of_mem_take hs)) fun g hg => by
    obtain ⟨s, hs, hg⟩ := hg
    exact ⟨_, hS, s, List.mem_of_mem_take hs, hg⟩
theorem short_eq {m : ByteArray} {ss : List Pu} {q : List Rq} {S : List Cs} {T1 : List Pu} {T2 : List Rq} {T6 : List Cs} {N3 : Nat} (e1 : ss.take 10 = T1) (e2 : q.take 10 = T2) (e6 : S.take 6 = T6) (h3 : N3 = min m.size 300) :
    shortP ss = T1.map trimP ∧ shortQ q = T2.map trimQ ∧ shortC (cont S) = (cont T6).map shortW ∧ shortM m = m.extract 0 N3 := by
  refine ⟨by rw [← e1]; rfl, by rw [← e2]; rfl, ?_, by rw [h3]; rfl⟩
  rw [← e6]
  simp only [shortC, cont, List.map_take]
theorem shortP_ok {ss : List Pu} (h : ∀ p ∈ ss, p.addr < 4294967296 ∧ p.data.size ≤ maxLen) : ∀ p ∈ shortP ss, p.addr < 4294967296 ∧ p.data.size ≤ 40 := fun p hp => by
  obtain ⟨p', hp', rfl⟩ := List.mem_map.1 hp
  exact ⟨(h p' (List.mem_of_mem_take hp')).1, trim40_size _⟩
theorem shortQ_ok {q : List Rq} (h : ∀ r ∈ q, r.line < 4294967296) : ∀ r ∈ shortQ q, r.line < 4294967296 ∧ r.data.size ≤ 40 := fun p hp => by
  obtain ⟨p', hp', rfl⟩ := List.mem_map.1 hp
  exact ⟨h p' (List.mem_of_mem_take hp'), trim40_size _⟩
theorem shortC_ok {S : List Cs} (h : SOk S) : ∀ ws ∈ shortC (cont S), ∀ v ∈ ws, v.line < 4294967296 ∧ v.data.size ≤ 40 := fun ws hw v hv => by
  obtain ⟨ws', hw', rfl⟩ := List.mem_map.1 hw
  obtain ⟨s, hs, rfl⟩ := List.mem_map.1 (List.mem_of_mem_take hw')
  obtain ⟨v', hv', rfl⟩ := List.mem_map.1 hv
  exact ⟨(h s hs v' (List.mem_of_mem_take hv')).1, trim40_size _⟩
theorem shortC_ws {C : List (List Wy)} : ∀ ws ∈ shortC C, ws.length ≤ 6 := fun ws hw => by
  obtain ⟨ws', _, rfl⟩ := List.mem_map.1 hw
  exact shortW_len ws'
end Go.Proofs.Ytcahadkkjfijfaa

/- The statements' short: what is on its way to memory, of little bytes. -/
set_option linter.unusedVariables false
set_option linter.unusedSimpArgs false
set_option maxRecDepth 100000
namespace Go.Proofs.Ytcahadkkjfijfaa
open Go.RowKit Go.Sort

set_option maxHeartbeats 16000000 in
theorem short20_any (ways : Int) (A : Option Addr) (n c : Nat) (S : List Cs) (Aq : Option Addr) (nq cq : Nat) (q : List Rq) (As : Option Addr) (ns cs : Nat) (ss : List Pu) (m : ByteArray) (w : World) (hr : RdS w w.heap.size A n c S) (hrq : Rd w w.heap.size 4 Aq nq cq (rqs q)) (hrs : Rd w w.heap.size 2 As ns cs (pus ss)) :
    Calls Try.prog 21 #[.slice As ns cs, .agg #[.int .i64 ways, .slice A n c], .slice Aq nq cq, .string m] w fun e w' => ∃ y z u, e = .returned (.tuple #[y, z, u, .string (shortM m)]) ∧ SRes w (allD As ns cs ss A n c S Aq nq cq q) ways y z u w' (shortP ss) (shortC (cont S)) (shortQ q) := by
  have hF := St.start w _ (allD_ok hr hrq hrs)
  unfold allD at hF
  have hsn := hrs.puslen
  have hqn := hrq.rqslen
  have hcn := hr.slen
  have hs1 := hrs.le
  have hs2 := hrs.mx
  have hq1 := hrq.le
  have hq2 := hrq.mx
  have hc1 := hr.rd.le
  have hc2 := hr.rd.mx
  unfold maxLen at hs2 hq2 hc2
  obtain ⟨N1, hN1, hT1, hi1, hl1⟩ := cut_len (l := ss) 10 hsn
  obtain ⟨N2, hN2, hT2, hi2, hl2⟩ := cut_len (l := q) 10 hqn
  obtain ⟨N6, hN6, hT6, hi6, hl6⟩ := cut_len (l := S) 6 hcn
  obtain ⟨N3, hN3, hl3⟩ : ∃ N3 : Nat, Hid ((N3 : Int) = if (300 : Int) < (m.size : Int) then 300 else (m.size : Int)) ∧ N3 = min m.size 300 := ⟨min m.size 300, Lib.hid (by split <;> omega), rfl⟩
  have hF := hF.toPart (N := N1) (sz := 2) (A := As) (n := ns) (c := cs) (xs := pus ss) (by ((repeat (first | exact List.Mem.head _ | refine List.Mem.tail _ ?_)) <;> exact List.Mem.head _)) hi1
  have hF := hF.toPart (N := N2) (sz := 4) (A := Aq) (n := nq) (c := cq) (xs := rqs q) (by ((repeat (first | exact List.Mem.head _ | refine List.Mem.tail _ ?_)) <;> exact List.Mem.head _)) hi2
  have hF := hF.toPart (N := N6) (sz := 1) (A := A) (n := n) (c := c) (xs := csv S) (by ((repeat (first | exact List.Mem.head _ | refine List.Mem.tail _ ?_)) <;> exact List.Mem.head _)) hi6
  have hF := hF.elemTake (S := S) 6
  rw [pus_take, rqs_take, Nat.mul_one, csv_take, hT1, hT2, hT6] at hF
  obtain ⟨T1, e1⟩ : ∃ T1, ss.take 10 = T1 := ⟨_, rfl⟩
  obtain ⟨T2, e2⟩ : ∃ T2, q.take 10 = T2 := ⟨_, rfl⟩
  obtain ⟨T6, e6⟩ : ∃ T6, S.take 6 = T6 := ⟨_, rfl⟩
  rw [e1, e2, e6] at hF
  rw [e1] at hl1
  rw [e2] at hl2
  rw [e6] at hl6
  have hres := short_eq (m := m) e1 e2 e6 hl3
  have h310 : N1 ≤ 10 := by rw [← hl1, ← e1, List.length_take]; omega
  have h210 : N2 ≤ 10 := by rw [← hl2, ← e2, List.length_take]; omega
  have h66 : N6 ≤ 6 := by rw [← hl6, ← e6, List.length_take]; omega
  have hm3 : N3 ≤ m.size := by omega
  have hi1c : N1 ≤ cs := by omega
  have hi2c : N2 ≤ cq := by omega
  have hi6c : N6 ≤ c := by omega
  have hcs : Hid ((csv S).take (N6 * 1) = csv T6) := Lib.hid (by rw [Nat.mul_one, csv_take, hT6, e6])
  clear hT1 hT2 hT6 hl3
  replace hres := Lib.hid hres
  go_enter Try.func21, Try.ntmps21
  go_upto_region 1 with (first | ((first | (refine w_box rfl hF rfl ?_; clear hF; intro gN wN hF) | (refine w_alloc rfl hF ?_; clear hF; intro gN wN hF) | (refine w_ld1 rfl hF rfl ?_) | (refine w_ld rfl hF rfl ?_) | (refine w_st1 rfl hF rfl rfl ?_; clear hF; intro wN hF; (try simp only [List.set_cons_zero, List.set_cons_succ, List.eraseIdx_cons_zero, List.eraseIdx_cons_succ] at hF)) | (refine w_st rfl hF rfl rfl ?_; clear hF; intro wN hF; (try simp only [List.set_cons_zero, List.set_cons_succ, List.eraseIdx_cons_zero, List.eraseIdx_cons_succ] at hF)) | (refine w_fldB rfl rfl ?_) | (refine w_fld rfl hF rfl ?_) | (refine w_ix rfl hF rfl rfl ?_) | (refine w_lde1 rfl hF rfl ?_) | (refine w_lde rfl hF rfl ?_) | (refine w_bs1 rfl hF rfl ?_; clear hF; intro gN wN hF) | (refine w_bs0 rfl hF ?_; clear hF; intro gN wN hF) | (refine w_app rfl hF rfl rfl ?_; clear hF; intro vN wN hF; (try simp only [List.set_cons_zero, List.set_cons_succ, List.eraseIdx_cons_zero, List.eraseIdx_cons_succ] at hF)) | (refine w_appD rfl hF rfl rfl ?_; clear hF; intro vN wN hF; (try simp only [List.set_cons_zero, List.set_cons_succ, List.eraseIdx_cons_zero, List.eraseIdx_cons_succ] at hF)) | (refine w_ld1o rfl hF rfl ?_) | (refine w_st1o rfl hF rfl rfl ?_; clear hF; intro wN hF; (try simp only [List.set_cons_zero, List.set_cons_succ, List.eraseIdx_cons_zero, List.eraseIdx_cons_succ] at hF)) | (refine w_make0 rfl hF rfl rfl ?_; clear hF; intro gN wN hF) | (refine w_to rfl hF rfl rfl ?_; clear hF; intro hF) | (refine w_from rfl hF rfl rfl ?_; clear hF; intro hF)); (try simp only [Act.put, List.setIfInBounds_toArray, List.set_cons_zero, List.set_cons_succ, Nat.zero_add, Nat.zero_mul, Nat.reduceAdd])))
  rename_i K hK
  obtain ⟨gR, gC, rfl, rfl⟩ := hF.names2
  go_cut [0, 2, 3] (fun s0 s2 s3 wx => ∃ B1 d1 B2 d2, s0 = .slice B1 N1 d1 ∧ s2 = .slice B2 N2 d2 ∧ s3 = .string (m.extract 0 N3) ∧ St w [rowD 2 As ns cs (pus ss), rowD 1 A n c (csv S), elemsD S, rowD 4 Aq nq cq (rqs q)] wx [.own (.slice B1 N1 d1) 27 2 N1 (pus T1), .own (.slice B2 N2 d2) 79 4 N2 (rqs T2), .blk gR 36 [.int .i64 0, .slice none 0 0], .blk gC 36 [.int .i64 ways, .slice A n c]] [elemsD T6, rowD 1 A n c (csv S)])
  case first =>
    refine wp_region_st (by kernel_rfl) hF [] _ (by ((repeat (first | exact subn_nil | refine subn_cons (by ((repeat (first | exact List.Mem.head _ | refine List.Mem.tail _ ?_)) <;> exact List.Mem.head _)) ?_)) <;> exact subn_nil)) (fun _ h => h) ?_
    clear hF; intro hF hH
    (refine w_take (i := 1) rfl (y_move rfl rfl) hH ?_); (try simp only [Act.put, List.setIfInBounds_toArray, List.set_cons_zero, List.set_cons_succ, Nat.zero_add, Nat.zero_mul, Nat.reduceAdd])
    (refine w_take (i := 2) rfl (y_move rfl rfl) hH ?_); (try simp only [Act.put, List.setIfInBounds_toArray, List.set_cons_zero, List.set_cons_succ, Nat.zero_add, Nat.zero_mul, Nat.reduceAdd])
    (first | refine w_take (i := 3) rfl (y_len rfl rfl) hH ?_ | refine w_take (i := 3) rfl (y_lens rfl rfl) hH ?_); (try simp only [Act.put, List.setIfInBounds_toArray, List.set_cons_zero, List.set_cons_succ, Nat.zero_add, Nat.zero_mul, Nat.reduceAdd])
    (refine w_take (i := 4) rfl (y_min rfl rfl rfl) hH ?_); (try simp only [Act.put, List.setIfInBounds_toArray, List.set_cons_zero, List.set_cons_succ, Nat.zero_add, Nat.zero_mul, Nat.reduceAdd])
    (first | refine w_take (i := 5) rfl (y_fromB rfl rfl rfl) hH ?_ | refine w_take (i := 5) rfl (y_to rfl rfl rfl) hH ?_ | refine w_take (i := 5) rfl (y_from rfl rfl rfl) hH ?_ | refine w_take (i := 5) rfl (y_strto rfl rfl rfl) hH ?_ | refine w_take (i := 5) rfl (y_strfrom rfl rfl rfl) hH ?_); (try simp only [Act.put, List.setIfInBounds_toArray, List.set_cons_zero, List.set_cons_succ, Nat.zero_add, Nat.zero_mul, Nat.reduceAdd])
    (refine w_take (i := 8) rfl (y_move rfl rfl) hH ?_); (try simp only [Act.put, List.setIfInBounds_toArray, List.set_cons_zero, List.set_cons_succ, Nat.zero_add, Nat.zero_mul, Nat.reduceAdd])
    (refine w_take (i := 9) rfl (y_move rfl rfl) hH ?_); (try simp only [Act.put, List.setIfInBounds_toArray, List.set_cons_zero, List.set_cons_succ, Nat.zero_add, Nat.zero_mul, Nat.reduceAdd])
    (first | refine w_take (i := 10) rfl (y_len rfl rfl) hH ?_ | refine w_take (i := 10) rfl (y_lens rfl rfl) hH ?_); (try simp only [Act.put, List.setIfInBounds_toArray, List.set_cons_zero, List.set_cons_succ, Nat.zero_add, Nat.zero_mul, Nat.reduceAdd])
    (refine w_take (i := 11) rfl (y_min rfl rfl rfl) hH ?_); (try simp only [Act.put, List.setIfInBounds_toArray, List.set_cons_zero, List.set_cons_succ, Nat.zero_add, Nat.zero_mul, Nat.reduceAdd])
    (first | refine w_take (i := 12) rfl (y_fromB rfl rfl rfl) hH ?_ | refine w_take (i := 12) rfl (y_to rfl rfl rfl) hH ?_ | refine w_take (i := 12) rfl (y_from rfl rfl rfl) hH ?_ | refine w_take (i := 12) rfl (y_strto rfl rfl rfl) hH ?_ | refine w_take (i := 12) rfl (y_strfrom rfl rfl rfl) hH ?_); (try simp only [Act.put, List.setIfInBounds_toArray, List.set_cons_zero, List.set_cons_succ, Nat.zero_add, Nat.zero_mul, Nat.reduceAdd])
    (refine w_take (i := 14) rfl (y_move rfl rfl) hH ?_); (try simp only [Act.put, List.setIfInBounds_toArray, List.set_cons_zero, List.set_cons_succ, Nat.zero_add, Nat.zero_mul, Nat.reduceAdd])
    (refine w_take (i := 15) rfl (y_move rfl rfl) hH ?_); (try simp only [Act.put, List.setIfInBounds_toArray, List.set_cons_zero, List.set_cons_succ, Nat.zero_add, Nat.zero_mul, Nat.reduceAdd])
    (first | refine w_take (i := 16) rfl (y_len rfl rfl) hH ?_ | refine w_take (i := 16) rfl (y_lens rfl rfl) hH ?_); (try simp only [Act.put, List.setIfInBounds_toArray, List.set_cons_zero, List.set_cons_succ, Nat.zero_add, Nat.zero_mul, Nat.reduceAdd])
    (refine w_take (i := 17) rfl (y_min rfl rfl rfl) hH ?_); (try simp only [Act.put, List.setIfInBounds_toArray, List.set_cons_zero, List.set_cons_succ, Nat.zero_add, Nat.zero_mul, Nat.reduceAdd])
    (first | refine w_take (i := 18) rfl (y_fromB rfl rfl rfl) hH ?_ | refine w_take (i := 18) rfl (y_to rfl rfl rfl) hH ?_ | refine w_take (i := 18) rfl (y_from rfl rfl rfl) hH ?_ | refine w_take (i := 18) rfl (y_strto rfl rfl rfl) hH ?_ | refine w_take (i := 18) rfl (y_strfrom rfl rfl rfl) hH ?_); (try simp only [Act.put, List.setIfInBounds_toArray, List.set_cons_zero, List.set_cons_succ, Nat.zero_add, Nat.zero_mul, Nat.reduceAdd])
    refine wpAnyH_ready (rs := [0, 7]) (by kernel_rfl) (by simp) (ready_cons rfl (fun K hK => ?_) (ready_cons rfl (fun K hK => ?_) AllReadyH.nil))
    · go_wp2_with ((first | (refine w_bs1 rfl hF rfl ?_; clear hF; intro gN wN hF) | (refine w_bs0 rfl hF ?_; clear hF; intro gN wN hF)); (try simp only [Act.put, List.setIfInBounds_toArray, List.set_cons_zero, List.set_cons_succ, Nat.zero_add, Nat.zero_mul, Nat.reduceAdd]))
      have hH := hH.nextA hF; refine hK.out _ _ hH ?_; clear hK; (try simp only [Act.put, List.setIfInBounds_toArray, List.set_cons_zero, List.set_cons_succ, Nat.zero_add, Nat.zero_mul, Nat.reduceAdd])
      refine wpAnyH_ready (rs := [6, 7]) (by kernel_rfl) (by simp) (ready_cons rfl (fun K hK => ?_) (ready_cons rfl (fun K hK => ?_) AllReadyH.nil))
      · go_wp2_with ((first | (refine w_app rfl hF rfl rfl ?_; clear hF; intro vN wN hF; (try simp only [List.set_cons_zero, List.set_cons_succ, List.eraseIdx_cons_zero, List.eraseIdx_cons_succ] at hF)) | (refine w_appD rfl hF rfl rfl ?_; clear hF; intro vN wN hF; (try simp only [List.set_cons_zero, List.set_cons_succ, List.eraseIdx_cons_zero, List.eraseIdx_cons_succ] at hF))); (try simp only [Act.put, List.setIfInBounds_toArray, List.set_cons_zero, List.set_cons_succ, Nat.zero_add, Nat.zero_mul, Nat.reduceAdd]))
        have hH := hH.nextA hF; refine hK.out _ _ hH ?_; clear hK; (try simp only [Act.put, List.setIfInBounds_toArray, List.set_cons_zero, List.set_cons_succ, Nat.zero_add, Nat.zero_mul, Nat.reduceAdd])
        refine wpAnyH_ready (rs := [7]) (by kernel_rfl) (by simp) (ready_cons rfl (fun K hK => ?_) AllReadyH.nil)
        go_wp2_with ((first | (refine w_bs1 rfl hF rfl ?_; clear hF; intro gN wN hF) | (refine w_bs0 rfl hF ?_; clear hF; intro gN wN hF)); (try simp only [Act.put, List.setIfInBounds_toArray, List.set_cons_zero, List.set_cons_succ, Nat.zero_add, Nat.zero_mul, Nat.reduceAdd]))
        have hH := hH.nextA hF; refine hK.out _ _ hH ?_; clear hK; (try simp only [Act.put, List.setIfInBounds_toArray, List.set_cons_zero, List.set_cons_succ, Nat.zero_add, Nat.zero_mul, Nat.reduceAdd])
        refine wpAnyH_ready (rs := [13]) (by kernel_rfl) (by simp) (ready_cons rfl (fun K hK => ?_) AllReadyH.nil)
        go_wp2_with ((first | (refine w_app rfl hF rfl rfl ?_; clear hF; intro vN wN hF; (try simp only [List.set_cons_zero, List.set_cons_succ, List.eraseIdx_cons_zero, List.eraseIdx_cons_succ] at hF)) | (refine w_appD rfl hF rfl rfl ?_; clear hF; intro vN wN hF; (try simp only [List.set_cons_zero, List.set_cons_succ, List.eraseIdx_cons_zero, List.eraseIdx_cons_succ] at hF))); (try simp only [Act.put, List.setIfInBounds_toArray, List.set_cons_zero, List.set_cons_succ, Nat.zero_add, Nat.zero_mul, Nat.reduceAdd]))
        have hH := hH.nextA hF; refine hK.out _ _ hH ?_; clear hK; (try simp only [Act.put, List.setIfInBounds_toArray, List.set_cons_zero, List.set_cons_succ, Nat.zero_add, Nat.zero_mul, Nat.reduceAdd])
        (refine w_take (i := 19) rfl (y_assign rfl rfl) hH ?_); (try simp only [Act.put, List.setIfInBounds_toArray, List.set_cons_zero, List.set_cons_succ, Nat.zero_add, Nat.zero_mul, Nat.reduceAdd])
        (refine w_take (i := 20) rfl (y_assign rfl rfl) hH ?_); (try simp only [Act.put, List.setIfInBounds_toArray, List.set_cons_zero, List.set_cons_succ, Nat.zero_add, Nat.zero_mul, Nat.reduceAdd])
        (refine w_take (i := 21) rfl (y_assign rfl rfl) hH ?_); (try simp only [Act.put, List.setIfInBounds_toArray, List.set_cons_zero, List.set_cons_succ, Nat.zero_add, Nat.zero_mul, Nat.reduceAdd])
        refine wpAnyH_done (by kernel_rfl) ?_ _
        (go_wp2; go_meet; obtain ⟨Ba, da, ea, _⟩ := Rd.of_own (hF.ownAt at0); obtain ⟨Bb, db, eb, _⟩ := Rd.of_own (hF.ownAt at1); (try simp only [List.nil_append, Nat.zero_add] at hF ea eb); subst ea eb; first | exact ⟨_, _, _, _, rfl, rfl, rfl, hF.lessA _⟩ | exact ⟨_, _, _, _, rfl, rfl, rfl, hF.swap.lessA _⟩)
      · go_wp2_with ((first | (refine w_bs1 rfl hF rfl ?_; clear hF; intro gN wN hF) | (refine w_bs0 rfl hF ?_; clear hF; intro gN wN hF)); (try simp only [Act.put, List.setIfInBounds_toArray, List.set_cons_zero, List.set_cons_succ, Nat.zero_add, Nat.zero_mul, Nat.reduceAdd]))
        have hH := hH.nextA hF; refine hK.out _ _ hH ?_; clear hK; (try simp only [Act.put, List.setIfInBounds_toArray, List.set_cons_zero, List.set_cons_succ, Nat.zero_add, Nat.zero_mul, Nat.reduceAdd])
        refine wpAnyH_ready (rs := [6]) (by kernel_rfl) (by simp) (ready_cons rfl (fun K hK => ?_) AllReadyH.nil)
        go_wp2_with ((first | (refine w_app rfl hF rfl rfl ?_; clear hF; intro vN wN hF; (try simp only [List.set_cons_zero, List.set_cons_succ, List.eraseIdx_cons_zero, List.eraseIdx_cons_succ] at hF)) | (refine w_appD rfl hF rfl rfl ?_; clear hF; intro vN wN hF; (try simp only [List.set_cons_zero, List.set_cons_succ, List.eraseIdx_cons_zero, List.eraseIdx_cons_succ] at hF))); (try simp only [Act.put, List.setIfInBounds_toArray, List.set_cons_zero, List.set_cons_succ, Nat.zero_add, Nat.zero_mul, Nat.reduceAdd]))
        have hH := hH.nextA hF; refine hK.out _ _ hH ?_; clear hK; (try simp only [Act.put, List.setIfInBounds_toArray, List.set_cons_zero, List.set_cons_succ, Nat.zero_add, Nat.zero_mul, Nat.reduceAdd])
        refine wpAnyH_ready (rs := [13]) (by kernel_rfl) (by simp) (ready_cons rfl (fun K hK => ?_) AllReadyH.nil)
        go_wp2_with ((first | (refine w_app rfl hF rfl rfl ?_; clear hF; intro vN wN hF; (try simp only [List.set_cons_zero, List.set_cons_succ, List.eraseIdx_cons_zero, List.eraseIdx_cons_succ] at hF)) | (refine w_appD rfl hF rfl rfl ?_; clear hF; intro vN wN hF; (try simp only [List.set_cons_zero, List.set_cons_succ, List.eraseIdx_cons_zero, List.eraseIdx_cons_succ] at hF))); (try simp only [Act.put, List.setIfInBounds_toArray, List.set_cons_zero, List.set_cons_succ, Nat.zero_add, Nat.zero_mul, Nat.reduceAdd]))
        have hH := hH.nextA hF; refine hK.out _ _ hH ?_; clear hK; (try simp only [Act.put, List.setIfInBounds_toArray, List.set_cons_zero, List.set_cons_succ, Nat.zero_add, Nat.zero_mul, Nat.reduceAdd])
        (refine w_take (i := 19) rfl (y_assign rfl rfl) hH ?_); (try simp only [Act.put, List.setIfInBounds_toArray, List.set_cons_zero, List.set_cons_succ, Nat.zero_add, Nat.zero_mul, Nat.reduceAdd])
        (refine w_take (i := 20) rfl (y_assign rfl rfl) hH ?_); (try simp only [Act.put, List.setIfInBounds_toArray, List.set_cons_zero, List.set_cons_succ, Nat.zero_add, Nat.zero_mul, Nat.reduceAdd])
        (refine w_take (i := 21) rfl (y_assign rfl rfl) hH ?_); (try simp only [Act.put, List.setIfInBounds_toArray, List.set_cons_zero, List.set_cons_succ, Nat.zero_add, Nat.zero_mul, Nat.reduceAdd])
        refine wpAnyH_done (by kernel_rfl) ?_ _
        (go_wp2; go_meet; obtain ⟨Ba, da, ea, _⟩ := Rd.of_own (hF.ownAt at0); obtain ⟨Bb, db, eb, _⟩ := Rd.of_own (hF.ownAt at1); (try simp only [List.nil_append, Nat.zero_add] at hF ea eb); subst ea eb; first | exact ⟨_, _, _, _, rfl, rfl, rfl, hF.lessA _⟩ | exact ⟨_, _, _, _, rfl, rfl, rfl, hF.swap.lessA _⟩)
    · go_wp2_with ((first | (refine w_bs1 rfl hF rfl ?_; clear hF; intro gN wN hF) | (refine w_bs0 rfl hF ?_; clear hF; intro gN wN hF)); (try simp only [Act.put, List.setIfInBounds_toArray, List.set_cons_zero, List.set_cons_succ, Nat.zero_add, Nat.zero_mul, Nat.reduceAdd]))
      have hH := hH.nextA hF; refine hK.out _ _ hH ?_; clear hK; (try simp only [Act.put, List.setIfInBounds_toArray, List.set_cons_zero, List.set_cons_succ, Nat.zero_add, Nat.zero_mul, Nat.reduceAdd])
      refine wpAnyH_ready (rs := [0]) (by kernel_rfl) (by simp) (ready_cons rfl (fun K hK => ?_) AllReadyH.nil)
      go_wp2_with ((first | (refine w_bs1 rfl hF rfl ?_; clear hF; intro gN wN hF) | (refine w_bs0 rfl hF ?_; clear hF; intro gN wN hF)); (try simp only [Act.put, List.setIfInBounds_toArray, List.set_cons_zero, List.set_cons_succ, Nat.zero_add, Nat.zero_mul, Nat.reduceAdd]))
      have hH := hH.nextA hF; refine hK.out _ _ hH ?_; clear hK; (try simp only [Act.put, List.setIfInBounds_toArray, List.set_cons_zero, List.set_cons_succ, Nat.zero_add, Nat.zero_mul, Nat.reduceAdd])
      refine wpAnyH_ready (rs := [6]) (by kernel_rfl) (by simp) (ready_cons rfl (fun K hK => ?_) AllReadyH.nil)
      go_wp2_with ((first | (refine w_app rfl hF rfl rfl ?_; clear hF; intro vN wN hF; (try simp only [List.set_cons_zero, List.set_cons_succ, List.eraseIdx_cons_zero, List.eraseIdx_cons_succ] at hF)) | (refine w_appD rfl hF rfl rfl ?_; clear hF; intro vN wN hF; (try simp only [List.set_cons_zero, List.set_cons_succ, List.eraseIdx_cons_zero, List.eraseIdx_cons_succ] at hF))); (try simp only [Act.put, List.setIfInBounds_toArray, List.set_cons_zero, List.set_cons_succ, Nat.zero_add, Nat.zero_mul, Nat.reduceAdd]))
      have hH := hH.nextA hF; refine hK.out _ _ hH ?_; clear hK; (try simp only [Act.put, List.setIfInBounds_toArray, List.set_cons_zero, List.set_cons_succ, Nat.zero_add, Nat.zero_mul, Nat.reduceAdd])
      refine wpAnyH_ready (rs := [13]) (by kernel_rfl) (by simp) (ready_cons rfl (fun K hK => ?_) AllReadyH.nil)
      go_wp2_with ((first | (refine w_app rfl hF rfl rfl ?_; clear hF; intro vN wN hF; (try simp only [List.set_cons_zero, List.set_cons_succ, List.eraseIdx_cons_zero, List.eraseIdx_cons_succ] at hF)) | (refine w_appD rfl hF rfl rfl ?_; clear hF; intro vN wN hF; (try simp only [List.set_cons_zero, List.set_cons_succ, List.eraseIdx_cons_zero, List.eraseIdx_cons_succ] at hF))); (try simp only [Act.put, List.setIfInBounds_toArray, List.set_cons_zero, List.set_cons_succ, Nat.zero_add, Nat.zero_mul, Nat.reduceAdd]))
      have hH := hH.nextA hF; refine hK.out _ _ hH ?_; clear hK; (try simp only [Act.put, List.setIfInBounds_toArray, List.set_cons_zero, List.set_cons_succ, Nat.zero_add, Nat.zero_mul, Nat.reduceAdd])
      (refine w_take (i := 19) rfl (y_assign rfl rfl) hH ?_); (try simp only [Act.put, List.setIfInBounds_toArray, List.set_cons_zero, List.set_cons_succ, Nat.zero_add, Nat.zero_mul, Nat.reduceAdd])
      (refine w_take (i := 20) rfl (y_assign rfl rfl) hH ?_); (try simp only [Act.put, List.setIfInBounds_toArray, List.set_cons_zero, List.set_cons_succ, Nat.zero_add, Nat.zero_mul, Nat.reduceAdd])
      (refine w_take (i := 21) rfl (y_assign rfl rfl) hH ?_); (try simp only [Act.put, List.setIfInBounds_toArray, List.set_cons_zero, List.set_cons_succ, Nat.zero_add, Nat.zero_mul, Nat.reduceAdd])
      refine wpAnyH_done (by kernel_rfl) ?_ _
      (go_wp2; go_meet; obtain ⟨Ba, da, ea, _⟩ := Rd.of_own (hF.ownAt at0); obtain ⟨Bb, db, eb, _⟩ := Rd.of_own (hF.ownAt at1); (try simp only [List.nil_append, Nat.zero_add] at hF ea eb); subst ea eb; first | exact ⟨_, _, _, _, rfl, rfl, rfl, hF.lessA _⟩ | exact ⟨_, _, _, _, rfl, rfl, rfl, hF.swap.lessA _⟩)
  case rest =>
    obtain ⟨B1, d1, B2, d2, rfl, rfl, rfl, hF⟩ := hcut
    refine hK _ _ ?_
    go_wp2_with (first | ((first | (refine w_box rfl hF rfl ?_; clear hF; intro gN wN hF) | (refine w_alloc rfl hF ?_; clear hF; intro gN wN hF) | (refine w_ld1 rfl hF rfl ?_) | (refine w_ld rfl hF rfl ?_) | (refine w_st1 rfl hF rfl rfl ?_; clear hF; intro wN hF; (try simp only [List.set_cons_zero, List.set_cons_succ, List.eraseIdx_cons_zero, List.eraseIdx_cons_succ] at hF)) | (refine w_st rfl hF rfl rfl ?_; clear hF; intro wN hF; (try simp only [List.set_cons_zero, List.set_cons_succ, List.eraseIdx_cons_zero, List.eraseIdx_cons_succ] at hF)) | (refine w_fldB rfl rfl ?_) | (refine w_fld rfl hF rfl ?_) | (refine w_ix rfl hF rfl rfl ?_) | (refine w_lde1 rfl hF rfl ?_) | (refine w_lde rfl hF rfl ?_) | (refine w_bs1 rfl hF rfl ?_; clear hF; intro gN wN hF) | (refine w_bs0 rfl hF ?_; clear hF; intro gN wN hF) | (refine w_app rfl hF rfl rfl ?_; clear hF; intro vN wN hF; (try simp only [List.set_cons_zero, List.set_cons_succ, List.eraseIdx_cons_zero, List.eraseIdx_cons_succ] at hF)) | (refine w_appD rfl hF rfl rfl ?_; clear hF; intro vN wN hF; (try simp only [List.set_cons_zero, List.set_cons_succ, List.eraseIdx_cons_zero, List.eraseIdx_cons_succ] at hF)) | (refine w_ld1o rfl hF rfl ?_) | (refine w_st1o rfl hF rfl rfl ?_; clear hF; intro wN hF; (try simp only [List.set_cons_zero, List.set_cons_succ, List.eraseIdx_cons_zero, List.eraseIdx_cons_succ] at hF)) | (refine w_make0 rfl hF rfl rfl ?_; clear hF; intro gN wN hF) | (refine w_to rfl hF rfl rfl ?_; clear hF; intro hF) | (refine w_from rfl hF rfl rfl ?_; clear hF; intro hF)); (try simp only [Act.put, List.setIfInBounds_toArray, List.set_cons_zero, List.set_cons_succ, Nat.zero_add, Nat.zero_mul, Nat.reduceAdd])))
    go_loopw [41] (fun ix wr => ∃ k : Nat, k ≤ N1 ∧ ix = .int .i64 (k : Int) ∧ St w [rowD 2 As ns cs (pus ss), rowD 1 A n c (csv S), elemsD S, rowD 4 Aq nq cq (rqs q)] wr [.own (.slice B1 N1 d1) 27 2 N1 (pus (mixL trimP T1 k)), .own (.slice B2 N2 d2) 79 4 N2 (rqs T2), .blk gR 36 [.int .i64 0, .slice none 0 0], .blk gC 36 [.int .i64 ways, .slice A n c]] [elemsD T6, rowD 1 A n c (csv S)]) (fun ix _ => N1 - (intOf ix).toNat)
    case atStart => exact ⟨0, by omega, rfl, by rw [mixL_0]; exact hF⟩
    case round =>
      obtain ⟨k, hk, rfl, hF⟩ := hrel
      by_cases hkn : k < N1
      · obtain ⟨p, hp⟩ : ∃ p, T1[k]? = some p := ⟨_, List.getElem?_eq_getElem (by omega)⟩
        have hu := mixL_at (f := trimP) hp
        have hst := mixL_set (f := trimP) hp
        have hml : (mixL trimP T1 k).length = N1 := by rw [mixL_len, hl1]
        obtain ⟨gV, dV, hvv, _, _⟩ := hF.ownSome at0 (by omega)
        injection hvv with hv1 _ hv2
        subst hv1 hv2
        obtain ⟨pa, pd⟩ := p
        obtain ⟨M, hM, hMe⟩ : ∃ M : Nat, Hid ((M : Int) = if (40 : Int) < (pd.size : Int) then 40 else (pd.size : Int)) ∧ M = min pd.size 40 := ⟨min pd.size 40, Lib.hid (by split <;> omega), rfl⟩
        have hMs : M ≤ pd.size := by omega
        have hoff : k * 2 + 1 < (pus (mixL trimP T1 k)).length := by rw [pus_len, hml]; omega
        have hset : Hid ((pus (mixL trimP T1 k)).set (k * 2 + 1) (.string (pd.extract 0 M)) = pus (mixL trimP T1 (k + 1))) := Lib.hid (by
          rw [← hst, Rows.set1 (f := pus) hu (r := trimP ⟨pa, pd⟩) (by decide) (by rw [hMe]; rfl)])
        clear hst hml hMe hp
        go_wp2_with (first | (refine w_ldo (us := [.int .u32 (pa : Int), .string pd]) (hu := Rows.sub (f := pus) hu) rfl hF rfl ?_) | (refine w_minH rfl rfl rfl ?_) | (refine w_strto rfl rfl rfl ?_) | (refine w_ixB rfl rfl rfl ?_) | ((first | (refine w_box rfl hF rfl ?_; clear hF; intro gN wN hF) | (refine w_alloc rfl hF ?_; clear hF; intro gN wN hF) | (refine w_ld1 rfl hF rfl ?_) | (refine w_ld rfl hF rfl ?_) | (refine w_st1 rfl hF rfl rfl ?_; clear hF; intro wN hF; (try simp only [List.set_cons_zero, List.set_cons_succ, List.eraseIdx_cons_zero, List.eraseIdx_cons_succ] at hF)) | (refine w_st rfl hF rfl rfl ?_; clear hF; intro wN hF; (try simp only [List.set_cons_zero, List.set_cons_succ, List.eraseIdx_cons_zero, List.eraseIdx_cons_succ] at hF)) | (refine w_fldB rfl rfl ?_) | (refine w_fld rfl hF rfl ?_) | (refine w_ix rfl hF rfl rfl ?_) | (refine w_lde1 rfl hF rfl ?_) | (refine w_lde rfl hF rfl ?_) | (refine w_bs1 rfl hF rfl ?_; clear hF; intro gN wN hF) | (refine w_bs0 rfl hF ?_; clear hF; intro gN wN hF) | (refine w_app rfl hF rfl rfl ?_; clear hF; intro vN wN hF; (try simp only [List.set_cons_zero, List.set_cons_succ, List.eraseIdx_cons_zero, List.eraseIdx_cons_succ] at hF)) | (refine w_appD rfl hF rfl rfl ?_; clear hF; intro vN wN hF; (try simp only [List.set_cons_zero, List.set_cons_succ, List.eraseIdx_cons_zero, List.eraseIdx_cons_succ] at hF)) | (refine w_ld1o rfl hF rfl ?_) | (refine w_st1o rfl hF rfl rfl ?_; clear hF; intro wN hF; (try simp only [List.set_cons_zero, List.set_cons_succ, List.eraseIdx_cons_zero, List.eraseIdx_cons_succ] at hF)) | (refine w_make0 rfl hF rfl rfl ?_; clear hF; intro gN wN hF) | (refine w_to rfl hF rfl rfl ?_; clear hF; intro hF) | (refine w_from rfl hF rfl rfl ?_; clear hF; intro hF)); (try simp only [Act.put, List.setIfInBounds_toArray, List.set_cons_zero, List.set_cons_succ, Nat.zero_add, Nat.zero_mul, Nat.reduceAdd])))
        go_roundw
        case rel => exact ⟨k + 1, by omega, by go_num, by rw [← hset.out]; exact hF.drop 0⟩
        case measure => first | (simp [intOf]; done) | (simp [intOf]; omega)
      · obtain rfl : k = N1 := by omega
        rw [mixL_all (by omega)] at hF
        go_wp2_with (first | ((first | (refine w_box rfl hF rfl ?_; clear hF; intro gN wN hF) | (refine w_alloc rfl hF ?_; clear hF; intro gN wN hF) | (refine w_ld1 rfl hF rfl ?_) | (refine w_ld rfl hF rfl ?_) | (refine w_st1 rfl hF rfl rfl ?_; clear hF; intro wN hF; (try simp only [List.set_cons_zero, List.set_cons_succ, List.eraseIdx_cons_zero, List.eraseIdx_cons_succ] at hF)) | (refine w_st rfl hF rfl rfl ?_; clear hF; intro wN hF; (try simp only [List.set_cons_zero, List.set_cons_succ, List.eraseIdx_cons_zero, List.eraseIdx_cons_succ] at hF)) | (refine w_fldB rfl rfl ?_) | (refine w_fld rfl hF rfl ?_) | (refine w_ix rfl hF rfl rfl ?_) | (refine w_lde1 rfl hF rfl ?_) | (refine w_lde rfl hF rfl ?_) | (refine w_bs1 rfl hF rfl ?_; clear hF; intro gN wN hF) | (refine w_bs0 rfl hF ?_; clear hF; intro gN wN hF) | (refine w_app rfl hF rfl rfl ?_; clear hF; intro vN wN hF; (try simp only [List.set_cons_zero, List.set_cons_succ, List.eraseIdx_cons_zero, List.eraseIdx_cons_succ] at hF)) | (refine w_appD rfl hF rfl rfl ?_; clear hF; intro vN wN hF; (try simp only [List.set_cons_zero, List.set_cons_succ, List.eraseIdx_cons_zero, List.eraseIdx_cons_succ] at hF)) | (refine w_ld1o rfl hF rfl ?_) | (refine w_st1o rfl hF rfl rfl ?_; clear hF; intro wN hF; (try simp only [List.set_cons_zero, List.set_cons_succ, List.eraseIdx_cons_zero, List.eraseIdx_cons_succ] at hF)) | (refine w_make0 rfl hF rfl rfl ?_; clear hF; intro gN wN hF) | (refine w_to rfl hF rfl rfl ?_; clear hF; intro hF) | (refine w_from rfl hF rfl rfl ?_; clear hF; intro hF)); (try simp only [Act.put, List.setIfInBounds_toArray, List.set_cons_zero, List.set_cons_succ, Nat.zero_add, Nat.zero_mul, Nat.reduceAdd])))
        go_loopw [60] (fun ix wr => ∃ k2 : Nat, k2 ≤ N2 ∧ ix = .int .i64 (k2 : Int) ∧ St w [rowD 2 As ns cs (pus ss), rowD 1 A n c (csv S), elemsD S, rowD 4 Aq nq cq (rqs q)] wr [.own (.slice B1 k d1) 27 2 k (pus (T1.map trimP)), .own (.slice B2 N2 d2) 79 4 N2 (rqs (mixL trimQ T2 k2)), .blk gR 36 [.int .i64 0, .slice none 0 0], .blk gC 36 [.int .i64 ways, .slice A n c]] [elemsD T6, rowD 1 A n c (csv S)]) (fun ix _ => N2 - (intOf ix).toNat)
        case atStart => exact ⟨0, by omega, rfl, by rw [mixL_0]; exact hF⟩
        case round =>
          obtain ⟨k2, hk2, rfl, hF⟩ := hrel
          by_cases hkn2 : k2 < N2
          · obtain ⟨p, hp⟩ : ∃ p, T2[k2]? = some p := ⟨_, List.getElem?_eq_getElem (by omega)⟩
            have hu := mixL_at (f := trimQ) hp
            have hst := mixL_set (f := trimQ) hp
            have hml : (mixL trimQ T2 k2).length = N2 := by rw [mixL_len, hl2]
            obtain ⟨gV, dV, hvv, _, _⟩ := hF.ownSome at1 (by omega)
            injection hvv with hv1 _ hv2
            subst hv1 hv2
            obtain ⟨rk, rl, rt, rd⟩ := p
            obtain ⟨M, hM, hMe⟩ : ∃ M : Nat, Hid ((M : Int) = if (40 : Int) < (rd.size : Int) then 40 else (rd.size : Int)) ∧ M = min rd.size 40 := ⟨min rd.size 40, Lib.hid (by split <;> omega), rfl⟩
            have hMs : M ≤ rd.size := by omega
            have hoff : k2 * 4 + 3 < (rqs (mixL trimQ T2 k2)).length := by rw [rqs_len, hml]; omega
            have hset : Hid ((rqs (mixL trimQ T2 k2)).set (k2 * 4 + 3) (.string (rd.extract 0 M)) = rqs (mixL trimQ T2 (k2 + 1))) := Lib.hid (by
              rw [← hst, Rows.set1 (f := rqs) hu (r := trimQ ⟨rk, rl, rt, rd⟩) (by decide) (by rw [hMe]; rfl)])
            clear hst hml hMe hp
            go_wp2_with (first | (refine w_ldo (us := [.int .i64 rk, .int .u32 (rl : Int), .int .i64 rt, .string rd]) (hu := Rows.sub (f := rqs) hu) rfl hF rfl ?_) | (refine w_minH rfl rfl rfl ?_) | (refine w_strto rfl rfl rfl ?_) | (refine w_ixB rfl rfl rfl ?_) | ((first | (refine w_box rfl hF rfl ?_; clear hF; intro gN wN hF) | (refine w_alloc rfl hF ?_; clear hF; intro gN wN hF) | (refine w_ld1 rfl hF rfl ?_) | (refine w_ld rfl hF rfl ?_) | (refine w_st1 rfl hF rfl rfl ?_; clear hF; intro wN hF; (try simp only [List.set_cons_zero, List.set_cons_succ, List.eraseIdx_cons_zero, List.eraseIdx_cons_succ] at hF)) | (refine w_st rfl hF rfl rfl ?_; clear hF; intro wN hF; (try simp only [List.set_cons_zero, List.set_cons_succ, List.eraseIdx_cons_zero, List.eraseIdx_cons_succ] at hF)) | (refine w_fldB rfl rfl ?_) | (refine w_fld rfl hF rfl ?_) | (refine w_ix rfl hF rfl rfl ?_) | (refine w_lde1 rfl hF rfl ?_) | (refine w_lde rfl hF rfl ?_) | (refine w_bs1 rfl hF rfl ?_; clear hF; intro gN wN hF) | (refine w_bs0 rfl hF ?_; clear hF; intro gN wN hF) | (refine w_app rfl hF rfl rfl ?_; clear hF; intro vN wN hF; (try simp only [List.set_cons_zero, List.set_cons_succ, List.eraseIdx_cons_zero, List.eraseIdx_cons_succ] at hF)) | (refine w_appD rfl hF rfl rfl ?_; clear hF; intro vN wN hF; (try simp only [List.set_cons_zero, List.set_cons_succ, List.eraseIdx_cons_zero, List.eraseIdx_cons_succ] at hF)) | (refine w_ld1o rfl hF rfl ?_) | (refine w_st1o rfl hF rfl rfl ?_; clear hF; intro wN hF; (try simp only [List.set_cons_zero, List.set_cons_succ, List.eraseIdx_cons_zero, List.eraseIdx_cons_succ] at hF)) | (refine w_make0 rfl hF rfl rfl ?_; clear hF; intro gN wN hF) | (refine w_to rfl hF rfl rfl ?_; clear hF; intro hF) | (refine w_from rfl hF rfl rfl ?_; clear hF; intro hF)); (try simp only [Act.put, List.setIfInBounds_toArray, List.set_cons_zero, List.set_cons_succ, Nat.zero_add, Nat.zero_mul, Nat.reduceAdd])))
            go_roundw
            case rel => exact ⟨k2 + 1, by omega, by go_num, by rw [← hset.out]; exact hF.drop 0⟩
            case measure => first | (simp [intOf]; done) | (simp [intOf]; omega)
          · obtain rfl : k2 = N2 := by omega
            rw [mixL_all (by omega)] at hF
            go_upto_region 13 with (first | (refine w_min (N6 : Int) rfl rfl rfl ?_ (hN := hN6.out)) | ((first | (refine w_box rfl hF rfl ?_; clear hF; intro gN wN hF) | (refine w_alloc rfl hF ?_; clear hF; intro gN wN hF) | (refine w_ld1 rfl hF rfl ?_) | (refine w_ld rfl hF rfl ?_) | (refine w_st1 rfl hF rfl rfl ?_; clear hF; intro wN hF; (try simp only [List.set_cons_zero, List.set_cons_succ, List.eraseIdx_cons_zero, List.eraseIdx_cons_succ] at hF)) | (refine w_st rfl hF rfl rfl ?_; clear hF; intro wN hF; (try simp only [List.set_cons_zero, List.set_cons_succ, List.eraseIdx_cons_zero, List.eraseIdx_cons_succ] at hF)) | (refine w_fldB rfl rfl ?_) | (refine w_fld rfl hF rfl ?_) | (refine w_ix rfl hF rfl rfl ?_) | (refine w_lde1 rfl hF rfl ?_) | (refine w_lde rfl hF rfl ?_) | (refine w_bs1 rfl hF rfl ?_; clear hF; intro gN wN hF) | (refine w_bs0 rfl hF ?_; clear hF; intro gN wN hF) | (refine w_app rfl hF rfl rfl ?_; clear hF; intro vN wN hF; (try simp only [List.set_cons_zero, List.set_cons_succ, List.eraseIdx_cons_zero, List.eraseIdx_cons_succ] at hF)) | (refine w_appD rfl hF rfl rfl ?_; clear hF; intro vN wN hF; (try simp only [List.set_cons_zero, List.set_cons_succ, List.eraseIdx_cons_zero, List.eraseIdx_cons_succ] at hF)) | (refine w_ld1o rfl hF rfl ?_) | (refine w_st1o rfl hF rfl rfl ?_; clear hF; intro wN hF; (try simp only [List.set_cons_zero, List.set_cons_succ, List.eraseIdx_cons_zero, List.eraseIdx_cons_succ] at hF)) | (refine w_make0 rfl hF rfl rfl ?_; clear hF; intro gN wN hF) | (refine w_to rfl hF rfl rfl ?_; clear hF; intro hF) | (refine w_from rfl hF rfl rfl ?_; clear hF; intro hF)); (try simp only [Act.put, List.setIfInBounds_toArray, List.set_cons_zero, List.set_cons_succ, Nat.zero_add, Nat.zero_mul, Nat.reduceAdd])))
            rename_i K3 hK3
            rw [hcs.out, List.nil_append, Nat.zero_add] at hF
            obtain ⟨B6, d6, eb, _⟩ := Rd.of_own (hF.ownAt at0)
            subst eb
            go_wp2_with (first | ((first | (refine w_box rfl hF rfl ?_; clear hF; intro gN wN hF) | (refine w_alloc rfl hF ?_; clear hF; intro gN wN hF) | (refine w_ld1 rfl hF rfl ?_) | (refine w_ld rfl hF rfl ?_) | (refine w_st1 rfl hF rfl rfl ?_; clear hF; intro wN hF; (try simp only [List.set_cons_zero, List.set_cons_succ, List.eraseIdx_cons_zero, List.eraseIdx_cons_succ] at hF)) | (refine w_st rfl hF rfl rfl ?_; clear hF; intro wN hF; (try simp only [List.set_cons_zero, List.set_cons_succ, List.eraseIdx_cons_zero, List.eraseIdx_cons_succ] at hF)) | (refine w_fldB rfl rfl ?_) | (refine w_fld rfl hF rfl ?_) | (refine w_ix rfl hF rfl rfl ?_) | (refine w_lde1 rfl hF rfl ?_) | (refine w_lde rfl hF rfl ?_) | (refine w_bs1 rfl hF rfl ?_; clear hF; intro gN wN hF) | (refine w_bs0 rfl hF ?_; clear hF; intro gN wN hF) | (refine w_app rfl hF rfl rfl ?_; clear hF; intro vN wN hF; (try simp only [List.set_cons_zero, List.set_cons_succ, List.eraseIdx_cons_zero, List.eraseIdx_cons_succ] at hF)) | (refine w_appD rfl hF rfl rfl ?_; clear hF; intro vN wN hF; (try simp only [List.set_cons_zero, List.set_cons_succ, List.eraseIdx_cons_zero, List.eraseIdx_cons_succ] at hF)) | (refine w_ld1o rfl hF rfl ?_) | (refine w_st1o rfl hF rfl rfl ?_; clear hF; intro wN hF; (try simp only [List.set_cons_zero, List.set_cons_succ, List.eraseIdx_cons_zero, List.eraseIdx_cons_succ] at hF)) | (refine w_make0 rfl hF rfl rfl ?_; clear hF; intro gN wN hF) | (refine w_to rfl hF rfl rfl ?_; clear hF; intro hF) | (refine w_from rfl hF rfl rfl ?_; clear hF; intro hF)); (try simp only [Act.put, List.setIfInBounds_toArray, List.set_cons_zero, List.set_cons_succ, Nat.zero_add, Nat.zero_mul, Nat.reduceAdd])))
            go_loopw [90] (fun ix wr => ∃ (k3 : Nat) (U : List Cs), k3 ≤ N6 ∧ ix = .int .i64 (k3 : Int) ∧ Hid (cont U = mixL shortW (cont T6) k3) ∧ Hid (∀ j, k3 ≤ j → U[j]? = T6[j]?) ∧ St w [rowD 2 As ns cs (pus ss), rowD 1 A n c (csv S), elemsD S, rowD 4 Aq nq cq (rqs q)] wr [.own (.slice B6 N6 d6) 62 1 N6 (csv U), .own (.slice B1 k d1) 27 2 k (pus (T1.map trimP)), .own (.slice B2 k2 d2) 79 4 k2 (rqs (T2.map trimQ)), .blk gR 36 [.int .i64 0, .slice none 0 0], .blk gC 36 [.int .i64 ways, .slice B6 N6 d6]] [elemsD U, elemsD T6]) (fun ix _ => N6 - (intOf ix).toNat)
            case atStart => exact ⟨0, T6, by omega, rfl, Lib.hid mixL_0.symm, Lib.hid (fun _ _ => rfl), hF.lessA _⟩
            case round =>
              obtain ⟨k3, U, hk3, rfl, hcU, hUT, hF⟩ := hrel
              by_cases hkn3 : k3 < N6
              · obtain ⟨s, hs⟩ : ∃ s, T6[k3]? = some s := ⟨_, List.getElem?_eq_getElem (by omega)⟩
                have hUs := (hUT.out k3 (Nat.le_refl _)).trans hs
                obtain ⟨sA, m', sc, ws⟩ := s
                have hF := hF.elemA (S := T6) hs
                simp only at hF
                have hse := hF.rdA (sz := 3) (A := sA) (n := m') (c := sc) (xs := wys ws)
                have hm1 := hse.le
                have hm2 := hse.mx
                have hwl := hse.wyslen
                unfold maxLen at hm2
                clear hse
                have hset := vcont_el hs
                obtain ⟨m6, hm6, hWT, hm6i, hm6l⟩ := cut_len (l := ws) 6 hwl
                obtain ⟨W6, hW6⟩ : ∃ W6, ws.take 6 = W6 := ⟨_, rfl⟩
                rw [hW6] at hWT hm6l
                have hm66 : m6 ≤ 6 := by rw [← hm6l, ← hW6, List.length_take]; omega
                have hm6c : m6 ≤ sc := by omega
                have hF := hF.toPart (N := m6) (sz := 3) (A := sA) (n := m') (c := sc) (xs := wys ws) (by ((repeat (first | exact List.Mem.head _ | refine List.Mem.tail _ ?_)) <;> exact List.Mem.head _)) hm6i
                rw [wys_take, hWT] at hF
                have hck : (csv U)[k3 * 1]? = some (.slice sA m' sc) := csv_el2 hUs
                have hck1 : (csv U)[k3]? = some (.slice sA m' sc) := by rw [← Nat.mul_one k3]; exact hck
                have hUl : U.length = N6 := by
                  have := congrArg List.length hcU.out
                  rw [cont_len, mixL_len, cont_len] at this
                  omega
                have hoff : k3 * 1 < (csv U).length := by rw [csv_len, hUl]; omega
                have hoff1 : k3 < (csv U).length := by rw [csv_len, hUl]; omega
                have hcell : ∀ x, ((csv U).set (k3 * 1) x)[k3 * 1]? = some x := fun x => List.getElem?_set_self hoff
                have hcell1 : ∀ x, ((csv U).set k3 x)[k3]? = some x := fun x => List.getElem?_set_self hoff1
                replace hUl := Lib.hid hUl
                replace hwl := Lib.hid hwl
                replace hset := Lib.hid hset
                replace hW6 := Lib.hid hW6
                replace hcell := Lib.hid hcell
                replace hcell1 := Lib.hid hcell1
                obtain ⟨g6, e6', hvv, _, _⟩ := hF.ownSome at0 (by omega)
                injection hvv with hv1 _ hv2
                subst hv1 hv2
                clear hWT hs hUs
                go_wp2_with (first | (refine w_ixB rfl rfl rfl ?_) | ((first | (refine w_box rfl hF rfl ?_; clear hF; intro gN wN hF) | (refine w_alloc rfl hF ?_; clear hF; intro gN wN hF) | (refine w_ld1 rfl hF rfl ?_) | (refine w_ld rfl hF rfl ?_) | (refine w_st1 rfl hF rfl rfl ?_; clear hF; intro wN hF; (try simp only [List.set_cons_zero, List.set_cons_succ, List.eraseIdx_cons_zero, List.eraseIdx_cons_succ] at hF)) | (refine w_st rfl hF rfl rfl ?_; clear hF; intro wN hF; (try simp only [List.set_cons_zero, List.set_cons_succ, List.eraseIdx_cons_zero, List.eraseIdx_cons_succ] at hF)) | (refine w_fldB rfl rfl ?_) | (refine w_fld rfl hF rfl ?_) | (refine w_ix rfl hF rfl rfl ?_) | (refine w_lde1 rfl hF rfl ?_) | (refine w_lde rfl hF rfl ?_) | (refine w_bs1 rfl hF rfl ?_; clear hF; intro gN wN hF) | (refine w_bs0 rfl hF ?_; clear hF; intro gN wN hF) | (refine w_app rfl hF rfl rfl ?_; clear hF; intro vN wN hF; (try simp only [List.set_cons_zero, List.set_cons_succ, List.eraseIdx_cons_zero, List.eraseIdx_cons_succ] at hF)) | (refine w_appD rfl hF rfl rfl ?_; clear hF; intro vN wN hF; (try simp only [List.set_cons_zero, List.set_cons_succ, List.eraseIdx_cons_zero, List.eraseIdx_cons_succ] at hF)) | (refine w_ld1o rfl hF rfl ?_) | (refine w_st1o rfl hF rfl rfl ?_; clear hF; intro wN hF; (try simp only [List.set_cons_zero, List.set_cons_succ, List.eraseIdx_cons_zero, List.eraseIdx_cons_succ] at hF)) | (refine w_make0 rfl hF rfl rfl ?_; clear hF; intro gN wN hF) | (refine w_to rfl hF rfl rfl ?_; clear hF; intro hF) | (refine w_from rfl hF rfl rfl ?_; clear hF; intro hF)); (try simp only [Act.put, List.setIfInBounds_toArray, List.set_cons_zero, List.set_cons_succ, Nat.zero_add, Nat.zero_mul, Nat.reduceAdd])))
                refine wp_region_st (by kernel_rfl) hF [.blk gC 36 [.int .i64 ways, .slice (some ⟨g6, 0, none⟩) N6 d6]] _ (by ((repeat (first | exact subn_nil | refine subn_cons (by ((repeat (first | exact List.Mem.head _ | refine List.Mem.tail _ ?_)) <;> exact List.Mem.head _)) ?_)) <;> exact subn_nil)) (fun _ h => h) ?_
                clear hF; intro hF hH
                (first | refine w_take (i := 0) rfl (y_fldB rfl rfl) hH ?_ | refine w_take (i := 0) rfl (y_fld rfl rfl) hH ?_); (try simp only [Act.put, List.setIfInBounds_toArray, List.set_cons_zero, List.set_cons_succ, Nat.zero_add, Nat.zero_mul, Nat.reduceAdd])
                (first | refine w_take (i := 1) rfl (y_ld1 rfl rfl) hH ?_ | refine w_take (i := 1) rfl (y_ld1o rfl rfl) hH ?_ | refine w_take (i := 1) rfl (y_ld rfl rfl) hH ?_ | refine w_take (i := 1) rfl (y_lde1 rfl rfl) hH ?_ | refine w_take (i := 1) rfl (y_lde rfl rfl) hH ?_); (try simp only [Act.put, List.setIfInBounds_toArray, List.set_cons_zero, List.set_cons_succ, Nat.zero_add, Nat.zero_mul, Nat.reduceAdd])
                (refine w_take (i := 2) rfl (y_move rfl rfl) hH ?_); (try simp only [Act.put, List.setIfInBounds_toArray, List.set_cons_zero, List.set_cons_succ, Nat.zero_add, Nat.zero_mul, Nat.reduceAdd])
                (refine w_take (i := 4) rfl (y_move rfl rfl) hH ?_); (try simp only [Act.put, List.setIfInBounds_toArray, List.set_cons_zero, List.set_cons_succ, Nat.zero_add, Nat.zero_mul, Nat.reduceAdd])
                (refine w_take (i := 5) rfl (y_move rfl rfl) hH ?_); (try simp only [Act.put, List.setIfInBounds_toArray, List.set_cons_zero, List.set_cons_succ, Nat.zero_add, Nat.zero_mul, Nat.reduceAdd])
                (first | refine w_take (i := 6) rfl (y_len rfl rfl) hH ?_ | refine w_take (i := 6) rfl (y_lens rfl rfl) hH ?_); (try simp only [Act.put, List.setIfInBounds_toArray, List.set_cons_zero, List.set_cons_succ, Nat.zero_add, Nat.zero_mul, Nat.reduceAdd])
                (refine w_take (i := 7) rfl (y_min rfl rfl rfl) hH ?_); (try simp only [Act.put, List.setIfInBounds_toArray, List.set_cons_zero, List.set_cons_succ, Nat.zero_add, Nat.zero_mul, Nat.reduceAdd])
                (first | refine w_take (i := 8) rfl (y_fromB rfl rfl rfl) hH ?_ | refine w_take (i := 8) rfl (y_to rfl rfl rfl) hH ?_ | refine w_take (i := 8) rfl (y_from rfl rfl rfl) hH ?_ | refine w_take (i := 8) rfl (y_strto rfl rfl rfl) hH ?_ | refine w_take (i := 8) rfl (y_strfrom rfl rfl rfl) hH ?_); (try simp only [Act.put, List.setIfInBounds_toArray, List.set_cons_zero, List.set_cons_succ, Nat.zero_add, Nat.zero_mul, Nat.reduceAdd])
                refine wpAnyH_ready (rs := [3]) (by kernel_rfl) (by simp) (ready_cons rfl (fun K hK => ?_) AllReadyH.nil)
                go_wp2_with ((first | (refine w_bs1 rfl hF rfl ?_; clear hF; intro gN wN hF) | (refine w_bs0 rfl hF ?_; clear hF; intro gN wN hF)); (try simp only [Act.put, List.setIfInBounds_toArray, List.set_cons_zero, List.set_cons_succ, Nat.zero_add, Nat.zero_mul, Nat.reduceAdd]))
                have hH := hH.nextA hF; refine hK.out _ _ hH ?_; clear hK; (try simp only [Act.put, List.setIfInBounds_toArray, List.set_cons_zero, List.set_cons_succ, Nat.zero_add, Nat.zero_mul, Nat.reduceAdd])
                refine wpAnyH_ready (rs := [9]) (by kernel_rfl) (by simp) (ready_cons rfl (fun K hK => ?_) AllReadyH.nil)
                go_wp2_with ((first | (refine w_app rfl hF rfl rfl ?_; clear hF; intro vN wN hF; (try simp only [List.set_cons_zero, List.set_cons_succ, List.eraseIdx_cons_zero, List.eraseIdx_cons_succ] at hF)) | (refine w_appD rfl hF rfl rfl ?_; clear hF; intro vN wN hF; (try simp only [List.set_cons_zero, List.set_cons_succ, List.eraseIdx_cons_zero, List.eraseIdx_cons_succ] at hF))); (try simp only [Act.put, List.setIfInBounds_toArray, List.set_cons_zero, List.set_cons_succ, Nat.zero_add, Nat.zero_mul, Nat.reduceAdd]))
                have hH := hH.nextA hF; refine hK.out _ _ hH ?_; clear hK; (try simp only [Act.put, List.setIfInBounds_toArray, List.set_cons_zero, List.set_cons_succ, Nat.zero_add, Nat.zero_mul, Nat.reduceAdd])
                (first | refine w_take (i := 10) rfl (y_ix rfl rfl rfl) hH ?_ | refine w_take (i := 10) rfl (y_ixB rfl rfl rfl) hH ?_); (try simp only [Act.put, List.setIfInBounds_toArray, List.set_cons_zero, List.set_cons_succ, Nat.zero_add, Nat.zero_mul, Nat.reduceAdd])
                refine wpAnyH_ready (rs := [11]) (by kernel_rfl) (by simp) (ready_cons rfl (fun K hK => ?_) AllReadyH.nil)
                go_wp2_with ((first | (refine w_st1 rfl hF rfl rfl ?_; clear hF; intro wN hF; (try simp only [List.set_cons_zero, List.set_cons_succ, List.eraseIdx_cons_zero, List.eraseIdx_cons_succ] at hF)) | (refine w_st rfl hF rfl rfl ?_; clear hF; intro wN hF; (try simp only [List.set_cons_zero, List.set_cons_succ, List.eraseIdx_cons_zero, List.eraseIdx_cons_succ] at hF)) | (refine w_st1o rfl hF rfl rfl ?_; clear hF; intro wN hF; (try simp only [List.set_cons_zero, List.set_cons_succ, List.eraseIdx_cons_zero, List.eraseIdx_cons_succ] at hF))); (try simp only [Act.put, List.setIfInBounds_toArray, List.set_cons_zero, List.set_cons_succ, Nat.zero_add, Nat.zero_mul, Nat.reduceAdd]))
                have hH := hH.nextA hF; refine hK.out _ _ hH ?_; clear hK; (try simp only [Act.put, List.setIfInBounds_toArray, List.set_cons_zero, List.set_cons_succ, Nat.zero_add, Nat.zero_mul, Nat.reduceAdd])
                refine wpAnyH_done (by kernel_rfl) ?_ _
                rw [List.nil_append, Nat.zero_add, Nat.mul_one] at hF
                obtain ⟨AW, cW, eW, _⟩ := Rd.of_own (hF.ownAt at0)
                subst eW
                have hcel := hcell1.out (.slice AW m6 cW)
                have hcelm : ((csv U).set k3 (.slice AW m6 cW))[k3 * 1]? = some (.slice AW m6 cW) := by rw [Nat.mul_one]; exact hcel
                go_wp2_with (first | (refine w_ixB rfl rfl rfl ?_) | ((first | (refine w_box rfl hF rfl ?_; clear hF; intro gN wN hF) | (refine w_alloc rfl hF ?_; clear hF; intro gN wN hF) | (refine w_ld1 rfl hF rfl ?_) | (refine w_ld rfl hF rfl ?_) | (refine w_st1 rfl hF rfl rfl ?_; clear hF; intro wN hF; (try simp only [List.set_cons_zero, List.set_cons_succ, List.eraseIdx_cons_zero, List.eraseIdx_cons_succ] at hF)) | (refine w_st rfl hF rfl rfl ?_; clear hF; intro wN hF; (try simp only [List.set_cons_zero, List.set_cons_succ, List.eraseIdx_cons_zero, List.eraseIdx_cons_succ] at hF)) | (refine w_fldB rfl rfl ?_) | (refine w_fld rfl hF rfl ?_) | (refine w_ix rfl hF rfl rfl ?_) | (refine w_lde1 rfl hF rfl ?_) | (refine w_lde rfl hF rfl ?_) | (refine w_bs1 rfl hF rfl ?_; clear hF; intro gN wN hF) | (refine w_bs0 rfl hF ?_; clear hF; intro gN wN hF) | (refine w_app rfl hF rfl rfl ?_; clear hF; intro vN wN hF; (try simp only [List.set_cons_zero, List.set_cons_succ, List.eraseIdx_cons_zero, List.eraseIdx_cons_succ] at hF)) | (refine w_appD rfl hF rfl rfl ?_; clear hF; intro vN wN hF; (try simp only [List.set_cons_zero, List.set_cons_succ, List.eraseIdx_cons_zero, List.eraseIdx_cons_succ] at hF)) | (refine w_ld1o rfl hF rfl ?_) | (refine w_st1o rfl hF rfl rfl ?_; clear hF; intro wN hF; (try simp only [List.set_cons_zero, List.set_cons_succ, List.eraseIdx_cons_zero, List.eraseIdx_cons_succ] at hF)) | (refine w_make0 rfl hF rfl rfl ?_; clear hF; intro gN wN hF) | (refine w_to rfl hF rfl rfl ?_; clear hF; intro hF) | (refine w_from rfl hF rfl rfl ?_; clear hF; intro hF)); (try simp only [Act.put, List.setIfInBounds_toArray, List.set_cons_zero, List.set_cons_succ, Nat.zero_add, Nat.zero_mul, Nat.reduceAdd])))
                try simp only [Nat.mul_one]
                go_loopw [112] (fun ix wr => ∃ (j : Nat), j ≤ m6 ∧ ix = .int .i64 (j : Int) ∧ St w [rowD 2 As ns cs (pus ss), rowD 1 A n c (csv S), elemsD S, rowD 4 Aq nq cq (rqs q)] wr [.own (.slice AW m6 cW) 49 3 m6 (wys (mixL trimW W6 j)), .own (.slice (some ⟨g6, 0, none⟩) N6 d6) 62 1 N6 ((csv U).set k3 (.slice AW m6 cW)), .own (.slice B1 k d1) 27 2 k (pus (T1.map trimP)), .own (.slice B2 k2 d2) 79 4 k2 (rqs (T2.map trimQ)), .blk gR 36 [.int .i64 0, .slice none 0 0], .blk gC 36 [.int .i64 ways, .slice (some ⟨g6, 0, none⟩) N6 d6]] [elemsD U, elemsD T6]) (fun ix _ => m6 - (intOf ix).toNat)
                case atStart => exact ⟨0, by omega, rfl, by rw [mixL_0]; exact hF.lessA _⟩
                case round =>
                  obtain ⟨j, hj, rfl, hF⟩ := hrel
                  by_cases hjm : j < m6
                  · obtain ⟨v, hv⟩ : ∃ v, W6[j]? = some v := ⟨_, List.getElem?_eq_getElem (by omega)⟩
                    have hu := mixL_at (f := trimW) hv
                    have hst := mixL_set (f := trimW) hv
                    have hml : (mixL trimW W6 j).length = m6 := by rw [mixL_len, hm6l]
                    obtain ⟨gW, e7, hvv, _, _⟩ := hF.ownSome at0 (by omega)
                    injection hvv with hv1 _ hv2
                    subst hv1 hv2
                    obtain ⟨ul, ud, ub⟩ := v
                    obtain ⟨M, hM, hMe⟩ : ∃ M : Nat, Hid ((M : Int) = if (40 : Int) < (ub.size : Int) then 40 else (ub.size : Int)) ∧ M = min ub.size 40 := ⟨min ub.size 40, Lib.hid (by split <;> omega), rfl⟩
                    have hMs : M ≤ ub.size := by omega
                    have hoff2 : j * 3 + 2 < (wys (mixL trimW W6 j)).length := by rw [wys_len, hml]; omega
                    have hset2 : Hid ((wys (mixL trimW W6 j)).set (j * 3 + 2) (.string (ub.extract 0 M)) = wys (mixL trimW W6 (j + 1))) := Lib.hid (by
                      rw [← hst, Rows.set1 (f := wys) hu (r := trimW ⟨ul, ud, ub⟩) (by decide) (by rw [hMe]; rfl)])
                    clear hst hml hMe hv
                    go_wp2_with (first | (refine w_ldo (us := [.int .u32 (ul : Int), .bool ud, .string ub]) (hu := Rows.sub (f := wys) hu) rfl hF rfl ?_) | (refine w_ixB rfl rfl rfl ?_) | ((first | (refine w_box rfl hF rfl ?_; clear hF; intro gN wN hF) | (refine w_alloc rfl hF ?_; clear hF; intro gN wN hF) | (refine w_ld1 rfl hF rfl ?_) | (refine w_ld rfl hF rfl ?_) | (refine w_st1 rfl hF rfl rfl ?_; clear hF; intro wN hF; (try simp only [List.set_cons_zero, List.set_cons_succ, List.eraseIdx_cons_zero, List.eraseIdx_cons_succ] at hF)) | (refine w_st rfl hF rfl rfl ?_; clear hF; intro wN hF; (try simp only [List.set_cons_zero, List.set_cons_succ, List.eraseIdx_cons_zero, List.eraseIdx_cons_succ] at hF)) | (refine w_fldB rfl rfl ?_) | (refine w_fld rfl hF rfl ?_) | (refine w_ix rfl hF rfl rfl ?_) | (refine w_lde1 rfl hF rfl ?_) | (refine w_lde rfl hF rfl ?_) | (refine w_bs1 rfl hF rfl ?_; clear hF; intro gN wN hF) | (refine w_bs0 rfl hF ?_; clear hF; intro gN wN hF) | (refine w_app rfl hF rfl rfl ?_; clear hF; intro vN wN hF; (try simp only [List.set_cons_zero, List.set_cons_succ, List.eraseIdx_cons_zero, List.eraseIdx_cons_succ] at hF)) | (refine w_appD rfl hF rfl rfl ?_; clear hF; intro vN wN hF; (try simp only [List.set_cons_zero, List.set_cons_succ, List.eraseIdx_cons_zero, List.eraseIdx_cons_succ] at hF)) | (refine w_ld1o rfl hF rfl ?_) | (refine w_st1o rfl hF rfl rfl ?_; clear hF; intro wN hF; (try simp only [List.set_cons_zero, List.set_cons_succ, List.eraseIdx_cons_zero, List.eraseIdx_cons_succ] at hF)) | (refine w_make0 rfl hF rfl rfl ?_; clear hF; intro gN wN hF) | (refine w_to rfl hF rfl rfl ?_; clear hF; intro hF) | (refine w_from rfl hF rfl rfl ?_; clear hF; intro hF)); (try simp only [Act.put, List.setIfInBounds_toArray, List.set_cons_zero, List.set_cons_succ, Nat.zero_add, Nat.zero_mul, Nat.reduceAdd])))
                    obtain ⟨gT, rfl⟩ := hF.names1
                    refine wp_region_st (by kernel_rfl) hF [.blk gT 49 [.int .u32 (ul : Int), .bool ud, .string ub], .blk gC 36 [.int .i64 ways, .slice (some ⟨g6, 0, none⟩) N6 d6], .own (.slice (some ⟨g6, 0, none⟩) N6 d6) 62 1 N6 ((csv U).set k3 (.slice (some ⟨gW, 0, none⟩) m6 cW))] _ (by ((repeat (first | exact subn_nil | refine subn_cons (by ((repeat (first | exact List.Mem.head _ | refine List.Mem.tail _ ?_)) <;> exact List.Mem.head _)) ?_)) <;> exact subn_nil)) (fun _ h => h) ?_
                    clear hF; intro hF hH
                    (first | refine w_take (i := 0) rfl (y_fldB rfl rfl) hH ?_ | refine w_take (i := 0) rfl (y_fld rfl rfl) hH ?_); (try simp only [Act.put, List.setIfInBounds_toArray, List.set_cons_zero, List.set_cons_succ, Nat.zero_add, Nat.zero_mul, Nat.reduceAdd])
                    (first | refine w_take (i := 1) rfl (y_ld1 rfl rfl) hH ?_ | refine w_take (i := 1) rfl (y_ld1o rfl rfl) hH ?_ | refine w_take (i := 1) rfl (y_ld rfl rfl) hH ?_ | refine w_take (i := 1) rfl (y_lde1 rfl rfl) hH ?_ | refine w_take (i := 1) rfl (y_lde rfl rfl) hH ?_); (try simp only [Act.put, List.setIfInBounds_toArray, List.set_cons_zero, List.set_cons_succ, Nat.zero_add, Nat.zero_mul, Nat.reduceAdd])
                    (refine w_take (i := 2) rfl (y_move rfl rfl) hH ?_); (try simp only [Act.put, List.setIfInBounds_toArray, List.set_cons_zero, List.set_cons_succ, Nat.zero_add, Nat.zero_mul, Nat.reduceAdd])
                    (first | refine w_take (i := 3) rfl (y_ix rfl rfl rfl) hH ?_ | refine w_take (i := 3) rfl (y_ixB rfl rfl rfl) hH ?_); (try simp only [Act.put, List.setIfInBounds_toArray, List.set_cons_zero, List.set_cons_succ, Nat.zero_add, Nat.zero_mul, Nat.reduceAdd])
                    (first | refine w_take (i := 4) rfl (y_ld1 rfl rfl) hH ?_ | refine w_take (i := 4) rfl (y_ld1o rfl rfl) hH ?_ | refine w_take (i := 4) rfl (y_ld rfl rfl) hH ?_ | refine w_take (i := 4) rfl (y_lde1 rfl rfl) hH ?_ | refine w_take (i := 4) rfl (y_lde rfl rfl) hH ?_); (try simp only [Act.put, List.setIfInBounds_toArray, List.set_cons_zero, List.set_cons_succ, Nat.zero_add, Nat.zero_mul, Nat.reduceAdd])
                    (refine w_take (i := 5) rfl (y_move rfl rfl) hH ?_); (try simp only [Act.put, List.setIfInBounds_toArray, List.set_cons_zero, List.set_cons_succ, Nat.zero_add, Nat.zero_mul, Nat.reduceAdd])
                    (first | refine w_take (i := 6) rfl (y_fldB rfl rfl) hH ?_ | refine w_take (i := 6) rfl (y_fld rfl rfl) hH ?_); (try simp only [Act.put, List.setIfInBounds_toArray, List.set_cons_zero, List.set_cons_succ, Nat.zero_add, Nat.zero_mul, Nat.reduceAdd])
                    (first | refine w_take (i := 7) rfl (y_ld1 rfl rfl) hH ?_ | refine w_take (i := 7) rfl (y_ld1o rfl rfl) hH ?_ | refine w_take (i := 7) rfl (y_ld rfl rfl) hH ?_ | refine w_take (i := 7) rfl (y_lde1 rfl rfl) hH ?_ | refine w_take (i := 7) rfl (y_lde rfl rfl) hH ?_); (try simp only [Act.put, List.setIfInBounds_toArray, List.set_cons_zero, List.set_cons_succ, Nat.zero_add, Nat.zero_mul, Nat.reduceAdd])
                    (first | refine w_take (i := 8) rfl (y_fldB rfl rfl) hH ?_ | refine w_take (i := 8) rfl (y_fld rfl rfl) hH ?_); (try simp only [Act.put, List.setIfInBounds_toArray, List.set_cons_zero, List.set_cons_succ, Nat.zero_add, Nat.zero_mul, Nat.reduceAdd])
                    (first | refine w_take (i := 9) rfl (y_ld1 rfl rfl) hH ?_ | refine w_take (i := 9) rfl (y_ld1o rfl rfl) hH ?_ | refine w_take (i := 9) rfl (y_ld rfl rfl) hH ?_ | refine w_take (i := 9) rfl (y_lde1 rfl rfl) hH ?_ | refine w_take (i := 9) rfl (y_lde rfl rfl) hH ?_); (try simp only [Act.put, List.setIfInBounds_toArray, List.set_cons_zero, List.set_cons_succ, Nat.zero_add, Nat.zero_mul, Nat.reduceAdd])
                    (first | refine w_take (i := 10) rfl (y_len rfl rfl) hH ?_ | refine w_take (i := 10) rfl (y_lens rfl rfl) hH ?_); (try simp only [Act.put, List.setIfInBounds_toArray, List.set_cons_zero, List.set_cons_succ, Nat.zero_add, Nat.zero_mul, Nat.reduceAdd])
                    (refine w_take (i := 11) rfl (y_min rfl rfl rfl) hH ?_); (try simp only [Act.put, List.setIfInBounds_toArray, List.set_cons_zero, List.set_cons_succ, Nat.zero_add, Nat.zero_mul, Nat.reduceAdd])
                    (first | refine w_take (i := 12) rfl (y_fromB rfl rfl rfl) hH ?_ | refine w_take (i := 12) rfl (y_to rfl rfl rfl) hH ?_ | refine w_take (i := 12) rfl (y_from rfl rfl rfl) hH ?_ | refine w_take (i := 12) rfl (y_strto rfl rfl rfl) hH ?_ | refine w_take (i := 12) rfl (y_strfrom rfl rfl rfl) hH ?_); (try simp only [Act.put, List.setIfInBounds_toArray, List.set_cons_zero, List.set_cons_succ, Nat.zero_add, Nat.zero_mul, Nat.reduceAdd])
                    (first | refine w_take (i := 13) rfl (y_ix rfl rfl rfl) hH ?_ | refine w_take (i := 13) rfl (y_ixB rfl rfl rfl) hH ?_); (try simp only [Act.put, List.setIfInBounds_toArray, List.set_cons_zero, List.set_cons_succ, Nat.zero_add, Nat.zero_mul, Nat.reduceAdd])
                    (first | refine w_take (i := 14) rfl (y_fldB rfl rfl) hH ?_ | refine w_take (i := 14) rfl (y_fld rfl rfl) hH ?_); (try simp only [Act.put, List.setIfInBounds_toArray, List.set_cons_zero, List.set_cons_succ, Nat.zero_add, Nat.zero_mul, Nat.reduceAdd])
                    refine wpAnyH_ready (rs := [15]) (by kernel_rfl) (by simp) (ready_cons rfl (fun K hK => ?_) AllReadyH.nil)
                    go_wp2_with ((first | (refine w_st1 rfl hF rfl rfl ?_; clear hF; intro wN hF; (try simp only [List.set_cons_zero, List.set_cons_succ, List.eraseIdx_cons_zero, List.eraseIdx_cons_succ] at hF)) | (refine w_st rfl hF rfl rfl ?_; clear hF; intro wN hF; (try simp only [List.set_cons_zero, List.set_cons_succ, List.eraseIdx_cons_zero, List.eraseIdx_cons_succ] at hF)) | (refine w_st1o rfl hF rfl rfl ?_; clear hF; intro wN hF; (try simp only [List.set_cons_zero, List.set_cons_succ, List.eraseIdx_cons_zero, List.eraseIdx_cons_succ] at hF))); (try simp only [Act.put, List.setIfInBounds_toArray, List.set_cons_zero, List.set_cons_succ, Nat.zero_add, Nat.zero_mul, Nat.reduceAdd]))
                    have hH := hH.nextA hF; refine hK.out _ _ hH ?_; clear hK; (try simp only [Act.put, List.setIfInBounds_toArray, List.set_cons_zero, List.set_cons_succ, Nat.zero_add, Nat.zero_mul, Nat.reduceAdd])
                    refine wpAnyH_done (by kernel_rfl) ?_ _
                    go_wp2_with (first | ((first | (refine w_box rfl hF rfl ?_; clear hF; intro gN wN hF) | (refine w_alloc rfl hF ?_; clear hF; intro gN wN hF) | (refine w_ld1 rfl hF rfl ?_) | (refine w_ld rfl hF rfl ?_) | (refine w_st1 rfl hF rfl rfl ?_; clear hF; intro wN hF; (try simp only [List.set_cons_zero, List.set_cons_succ, List.eraseIdx_cons_zero, List.eraseIdx_cons_succ] at hF)) | (refine w_st rfl hF rfl rfl ?_; clear hF; intro wN hF; (try simp only [List.set_cons_zero, List.set_cons_succ, List.eraseIdx_cons_zero, List.eraseIdx_cons_succ] at hF)) | (refine w_fldB rfl rfl ?_) | (refine w_fld rfl hF rfl ?_) | (refine w_ix rfl hF rfl rfl ?_) | (refine w_lde1 rfl hF rfl ?_) | (refine w_lde rfl hF rfl ?_) | (refine w_bs1 rfl hF rfl ?_; clear hF; intro gN wN hF) | (refine w_bs0 rfl hF ?_; clear hF; intro gN wN hF) | (refine w_app rfl hF rfl rfl ?_; clear hF; intro vN wN hF; (try simp only [List.set_cons_zero, List.set_cons_succ, List.eraseIdx_cons_zero, List.eraseIdx_cons_succ] at hF)) | (refine w_appD rfl hF rfl rfl ?_; clear hF; intro vN wN hF; (try simp only [List.set_cons_zero, List.set_cons_succ, List.eraseIdx_cons_zero, List.eraseIdx_cons_succ] at hF)) | (refine w_ld1o rfl hF rfl ?_) | (refine w_st1o rfl hF rfl rfl ?_; clear hF; intro wN hF; (try simp only [List.set_cons_zero, List.set_cons_succ, List.eraseIdx_cons_zero, List.eraseIdx_cons_succ] at hF)) | (refine w_make0 rfl hF rfl rfl ?_; clear hF; intro gN wN hF) | (refine w_to rfl hF rfl rfl ?_; clear hF; intro hF) | (refine w_from rfl hF rfl rfl ?_; clear hF; intro hF)); (try simp only [Act.put, List.setIfInBounds_toArray, List.set_cons_zero, List.set_cons_succ, Nat.zero_add, Nat.zero_mul, Nat.reduceAdd])))
                    go_roundw
                    case rel => exact ⟨j + 1, by omega, by go_num, by rw [← hset2.out]; exact hF.drop 0⟩
                    case measure => first | (simp [intOf]; done) | (simp [intOf]; omega)
                  · obtain rfl : j = m6 := by omega
                    rw [mixL_all (by omega)] at hF
                    obtain ⟨A7, c7, hvv, hF⟩ := hF.freeze 0 at0
                    injection hvv with hv1 _ hv2
                    subst hv1 hv2
                    (try simp only [List.set_cons_zero, List.set_cons_succ, List.eraseIdx_cons_zero, List.eraseIdx_cons_succ] at hF)
                    have hF := hF.elemSet (S := U) (by ((repeat (first | exact List.Mem.head _ | refine List.Mem.tail _ ?_)) <;> exact List.Mem.head _)) k3 (A2 := AW) (n2 := j) (c2 := cW) (q2 := W6.map trimW) (by ((repeat (first | exact List.Mem.head _ | refine List.Mem.tail _ ?_)) <;> exact List.Mem.head _))
                    go_wp2_with (first | ((first | (refine w_box rfl hF rfl ?_; clear hF; intro gN wN hF) | (refine w_alloc rfl hF ?_; clear hF; intro gN wN hF) | (refine w_ld1 rfl hF rfl ?_) | (refine w_ld rfl hF rfl ?_) | (refine w_st1 rfl hF rfl rfl ?_; clear hF; intro wN hF; (try simp only [List.set_cons_zero, List.set_cons_succ, List.eraseIdx_cons_zero, List.eraseIdx_cons_succ] at hF)) | (refine w_st rfl hF rfl rfl ?_; clear hF; intro wN hF; (try simp only [List.set_cons_zero, List.set_cons_succ, List.eraseIdx_cons_zero, List.eraseIdx_cons_succ] at hF)) | (refine w_fldB rfl rfl ?_) | (refine w_fld rfl hF rfl ?_) | (refine w_ix rfl hF rfl rfl ?_) | (refine w_lde1 rfl hF rfl ?_) | (refine w_lde rfl hF rfl ?_) | (refine w_bs1 rfl hF rfl ?_; clear hF; intro gN wN hF) | (refine w_bs0 rfl hF ?_; clear hF; intro gN wN hF) | (refine w_app rfl hF rfl rfl ?_; clear hF; intro vN wN hF; (try simp only [List.set_cons_zero, List.set_cons_succ, List.eraseIdx_cons_zero, List.eraseIdx_cons_succ] at hF)) | (refine w_appD rfl hF rfl rfl ?_; clear hF; intro vN wN hF; (try simp only [List.set_cons_zero, List.set_cons_succ, List.eraseIdx_cons_zero, List.eraseIdx_cons_succ] at hF)) | (refine w_ld1o rfl hF rfl ?_) | (refine w_st1o rfl hF rfl rfl ?_; clear hF; intro wN hF; (try simp only [List.set_cons_zero, List.set_cons_succ, List.eraseIdx_cons_zero, List.eraseIdx_cons_succ] at hF)) | (refine w_make0 rfl hF rfl rfl ?_; clear hF; intro gN wN hF) | (refine w_to rfl hF rfl rfl ?_; clear hF; intro hF) | (refine w_from rfl hF rfl rfl ?_; clear hF; intro hF)); (try simp only [Act.put, List.setIfInBounds_toArray, List.set_cons_zero, List.set_cons_succ, Nat.zero_add, Nat.zero_mul, Nat.reduceAdd])))
                    go_roundw
                    case rel => exact ⟨k3 + 1, U.set k3 ⟨AW, j, cW, W6.map trimW⟩, by omega, by go_num, Lib.hid (by rw [cont_set, hcU.out, ← hW6.out]; exact mixL_set (f := shortW) hset.out), Lib.hid (fun i hi => by rw [List.getElem?_set_ne (by omega)]; exact hUT.out i (by omega)), by rw [← csv_set]; exact hF.lessA _⟩
                    case measure => first | (simp [intOf]; done) | (simp [intOf]; omega)
              · obtain rfl : k3 = N6 := by omega
                obtain ⟨A7, c7, hvv, hF⟩ := hF.freeze 0 at0
                injection hvv with hv1 _ hv2
                subst hv1 hv2
                (try simp only [List.set_cons_zero, List.set_cons_succ, List.eraseIdx_cons_zero, List.eraseIdx_cons_succ] at hF)
                obtain ⟨A7, c7, hvv, hF⟩ := hF.freeze 0 at0
                injection hvv with hv1 _ hv2
                subst hv1 hv2
                (try simp only [List.set_cons_zero, List.set_cons_succ, List.eraseIdx_cons_zero, List.eraseIdx_cons_succ] at hF)
                obtain ⟨A7, c7, hvv, hF⟩ := hF.freeze 0 at0
                injection hvv with hv1 _ hv2
                subst hv1 hv2
                (try simp only [List.set_cons_zero, List.set_cons_succ, List.eraseIdx_cons_zero, List.eraseIdx_cons_succ] at hF)
                go_wp2_with (first | ((first | (refine w_box rfl hF rfl ?_; clear hF; intro gN wN hF) | (refine w_alloc rfl hF ?_; clear hF; intro gN wN hF) | (refine w_ld1 rfl hF rfl ?_) | (refine w_ld rfl hF rfl ?_) | (refine w_st1 rfl hF rfl rfl ?_; clear hF; intro wN hF; (try simp only [List.set_cons_zero, List.set_cons_succ, List.eraseIdx_cons_zero, List.eraseIdx_cons_succ] at hF)) | (refine w_st rfl hF rfl rfl ?_; clear hF; intro wN hF; (try simp only [List.set_cons_zero, List.set_cons_succ, List.eraseIdx_cons_zero, List.eraseIdx_cons_succ] at hF)) | (refine w_fldB rfl rfl ?_) | (refine w_fld rfl hF rfl ?_) | (refine w_ix rfl hF rfl rfl ?_) | (refine w_lde1 rfl hF rfl ?_) | (refine w_lde rfl hF rfl ?_) | (refine w_bs1 rfl hF rfl ?_; clear hF; intro gN wN hF) | (refine w_bs0 rfl hF ?_; clear hF; intro gN wN hF) | (refine w_app rfl hF rfl rfl ?_; clear hF; intro vN wN hF; (try simp only [List.set_cons_zero, List.set_cons_succ, List.eraseIdx_cons_zero, List.eraseIdx_cons_succ] at hF)) | (refine w_appD rfl hF rfl rfl ?_; clear hF; intro vN wN hF; (try simp only [List.set_cons_zero, List.set_cons_succ, List.eraseIdx_cons_zero, List.eraseIdx_cons_succ] at hF)) | (refine w_ld1o rfl hF rfl ?_) | (refine w_st1o rfl hF rfl rfl ?_; clear hF; intro wN hF; (try simp only [List.set_cons_zero, List.set_cons_succ, List.eraseIdx_cons_zero, List.eraseIdx_cons_succ] at hF)) | (refine w_make0 rfl hF rfl rfl ?_; clear hF; intro gN wN hF) | (refine w_to rfl hF rfl rfl ?_; clear hF; intro hF) | (refine w_from rfl hF rfl rfl ?_; clear hF; intro hF)); (try simp only [Act.put, List.setIfInBounds_toArray, List.set_cons_zero, List.set_cons_succ, Nat.zero_add, Nat.zero_mul, Nat.reduceAdd])))
                refine wp_region_st (by kernel_rfl) hF [.blk gC 36 [.int .i64 ways, .slice B6 k3 d6]] _ (by ((repeat (first | exact subn_nil | refine subn_cons (by ((repeat (first | exact List.Mem.head _ | refine List.Mem.tail _ ?_)) <;> exact List.Mem.head _)) ?_)) <;> exact subn_nil)) (fun _ h => h) ?_
                clear hF; intro hF hH
                (refine w_take (i := 0) rfl (y_move rfl rfl) hH ?_); (try simp only [Act.put, List.setIfInBounds_toArray, List.set_cons_zero, List.set_cons_succ, Nat.zero_add, Nat.zero_mul, Nat.reduceAdd])
                (first | refine w_take (i := 1) rfl (y_ld1 rfl rfl) hH ?_ | refine w_take (i := 1) rfl (y_ld1o rfl rfl) hH ?_ | refine w_take (i := 1) rfl (y_ld rfl rfl) hH ?_ | refine w_take (i := 1) rfl (y_lde1 rfl rfl) hH ?_ | refine w_take (i := 1) rfl (y_lde rfl rfl) hH ?_); (try simp only [Act.put, List.setIfInBounds_toArray, List.set_cons_zero, List.set_cons_succ, Nat.zero_add, Nat.zero_mul, Nat.reduceAdd])
                (refine w_take (i := 2) rfl (y_move rfl rfl) hH ?_); (try simp only [Act.put, List.setIfInBounds_toArray, List.set_cons_zero, List.set_cons_succ, Nat.zero_add, Nat.zero_mul, Nat.reduceAdd])
                (refine w_take (i := 3) rfl (y_move rfl rfl) hH ?_); (try simp only [Act.put, List.setIfInBounds_toArray, List.set_cons_zero, List.set_cons_succ, Nat.zero_add, Nat.zero_mul, Nat.reduceAdd])
                (refine w_take (i := 4) rfl (y_assign rfl rfl) hH ?_); (try simp only [Act.put, List.setIfInBounds_toArray, List.set_cons_zero, List.set_cons_succ, Nat.zero_add, Nat.zero_mul, Nat.reduceAdd])
                refine wpAnyH_ready (rs := [5]) (by kernel_rfl) (by simp) (ready_cons rfl (fun K hK => ?_) AllReadyH.nil)
                go_wp2_with ((first | (refine w_st1 rfl hF rfl rfl ?_; clear hF; intro wN hF; (try simp only [List.set_cons_zero, List.set_cons_succ, List.eraseIdx_cons_zero, List.eraseIdx_cons_succ] at hF)) | (refine w_st rfl hF rfl rfl ?_; clear hF; intro wN hF; (try simp only [List.set_cons_zero, List.set_cons_succ, List.eraseIdx_cons_zero, List.eraseIdx_cons_succ] at hF)) | (refine w_st1o rfl hF rfl rfl ?_; clear hF; intro wN hF; (try simp only [List.set_cons_zero, List.set_cons_succ, List.eraseIdx_cons_zero, List.eraseIdx_cons_succ] at hF))); (try simp only [Act.put, List.setIfInBounds_toArray, List.set_cons_zero, List.set_cons_succ, Nat.zero_add, Nat.zero_mul, Nat.reduceAdd]))
                have hH := hH.nextA hF; refine hK.out _ _ hH ?_; clear hK; (try simp only [Act.put, List.setIfInBounds_toArray, List.set_cons_zero, List.set_cons_succ, Nat.zero_add, Nat.zero_mul, Nat.reduceAdd])
                (refine w_take (i := 6) rfl (y_assign rfl rfl) hH ?_); (try simp only [Act.put, List.setIfInBounds_toArray, List.set_cons_zero, List.set_cons_succ, Nat.zero_add, Nat.zero_mul, Nat.reduceAdd])
                (refine w_take (i := 7) rfl (y_assign rfl rfl) hH ?_); (try simp only [Act.put, List.setIfInBounds_toArray, List.set_cons_zero, List.set_cons_succ, Nat.zero_add, Nat.zero_mul, Nat.reduceAdd])
                refine wpAnyH_done (by kernel_rfl) ?_ _
                go_wp2_with (first | ((first | (refine w_box rfl hF rfl ?_; clear hF; intro gN wN hF) | (refine w_alloc rfl hF ?_; clear hF; intro gN wN hF) | (refine w_ld1 rfl hF rfl ?_) | (refine w_ld rfl hF rfl ?_) | (refine w_st1 rfl hF rfl rfl ?_; clear hF; intro wN hF; (try simp only [List.set_cons_zero, List.set_cons_succ, List.eraseIdx_cons_zero, List.eraseIdx_cons_succ] at hF)) | (refine w_st rfl hF rfl rfl ?_; clear hF; intro wN hF; (try simp only [List.set_cons_zero, List.set_cons_succ, List.eraseIdx_cons_zero, List.eraseIdx_cons_succ] at hF)) | (refine w_fldB rfl rfl ?_) | (refine w_fld rfl hF rfl ?_) | (refine w_ix rfl hF rfl rfl ?_) | (refine w_lde1 rfl hF rfl ?_) | (refine w_lde rfl hF rfl ?_) | (refine w_bs1 rfl hF rfl ?_; clear hF; intro gN wN hF) | (refine w_bs0 rfl hF ?_; clear hF; intro gN wN hF) | (refine w_app rfl hF rfl rfl ?_; clear hF; intro vN wN hF; (try simp only [List.set_cons_zero, List.set_cons_succ, List.eraseIdx_cons_zero, List.eraseIdx_cons_succ] at hF)) | (refine w_appD rfl hF rfl rfl ?_; clear hF; intro vN wN hF; (try simp only [List.set_cons_zero, List.set_cons_succ, List.eraseIdx_cons_zero, List.eraseIdx_cons_succ] at hF)) | (refine w_ld1o rfl hF rfl ?_) | (refine w_st1o rfl hF rfl rfl ?_; clear hF; intro wN hF; (try simp only [List.set_cons_zero, List.set_cons_succ, List.eraseIdx_cons_zero, List.eraseIdx_cons_succ] at hF)) | (refine w_make0 rfl hF rfl rfl ?_; clear hF; intro gN wN hF) | (refine w_to rfl hF rfl rfl ?_; clear hF; intro hF) | (refine w_from rfl hF rfl rfl ?_; clear hF; intro hF)); (try simp only [Act.put, List.setIfInBounds_toArray, List.set_cons_zero, List.set_cons_succ, Nat.zero_add, Nat.zero_mul, Nat.reduceAdd])))
                ((try simp only [Exit.inBlock, Exit.then]); refine bodyPost_ret (w_resscss rfl hF) rfl ?_)
                obtain ⟨r1, r2, r3, r4⟩ := hres.out
                have l1 : (shortP ss).length = k := by rw [r1, List.length_map, hl1]
                have l2 : (shortQ q).length = k2 := by rw [r2, List.length_map, hl2]
                have hU : cont U = shortC (cont S) := by
                  rw [r3]
                  have := hcU.out
                  rwa [mixL_all (by rw [cont_len]; omega)] at this
                have hO := hF.outA (ds := [rowD 2 B1 k d1 (pus (T1.map trimP)), rowD 1 B6 k3 d6 (csv U), elemsD U, rowD 4 B2 k2 d2 (rqs (T2.map trimQ))])
                exact ⟨_, _, _, by rw [r4]; rfl, B1, d1, B6, k3, d6, U, B2, d2, by rw [l1]; rfl, rfl, by rw [l2]; rfl, by rw [l1, l2, r1, r2]; exact hO, hU⟩
end Go.Proofs.Ytcahadkkjfijfaa

/- Arrays of thirty-two words, by value: as lists of numbers. -/
set_option linter.unusedVariables false
set_option linter.unusedSimpArgs false
namespace Go.Proofs.Ytcahadkkjfijfaa
open Go.RowKit Go.ChangeShapes Go.WideShapes

def u32v (l : List Nat) : List Value := l.map fun (x : Nat) => .int .u32 (x : Int)
theorem u32v_len (l : List Nat) : (u32v l).length = l.length := by simp [u32v]
theorem u32v_at {l : List Nat} {k : Nat} (h : k < l.length) : (u32v l)[k]? = some (.int .u32 ((l[k]'h : Nat) : Int)) := by simp [u32v, h]
theorem u32v_set (l : List Nat) (k x : Nat) : (u32v l).set k (.int .u32 (x : Int)) = u32v (l.set k x) := by simp [u32v]
theorem list_u32 (cs : List Value) (h : ∀ u ∈ cs, ∃ x : Nat, x < 4294967296 ∧ u = .int .u32 (x : Int)) : ∃ l : List Nat, cs = u32v l ∧ ∀ x ∈ l, x < 4294967296 := by
  induction cs with
  | nil => exact ⟨[], rfl, by simp⟩
  | cons u cs ih =>
    obtain ⟨l, e, hl⟩ := ih fun v hv => h v (by simp [hv])
    obtain ⟨x, hx, e'⟩ := h u (by simp)
    refine ⟨x :: l, by rw [e, e']; rfl, fun y hy => ?_⟩
    rcases List.mem_cons.1 hy with rfl | hy
    · exact hx
    · exact hl _ hy
theorem okWide_array {P : Program} {w : World} {r : Reach} {base : Nat} {t e : TypeId} {n : Nat} {v : Value} (ht : P.underlying t = some (.array n e)) (h : Value.okWide P w r base t v) : ∃ cs, v = .agg cs ∧ cs.size = P.cellsOf t := by
  simp only [Value.okWide, ht] at h
  obtain ⟨cs, h1, h2, _⟩ := h
  exact ⟨cs, h1, h2⟩
set_option maxRecDepth 100000 in
theorem open_regs {H : Type} {enc : TypeId × Value → H} {W : World} {base : Nat} {v : Value} {d : DataW H} {p : List MemPlace}
    (hv : Value.okWide Try.prog W .any base 23 v) (h : DataW.Trod enc Try.prog W 0 (fun _ => true) true 23 v d p) : ∃ l : List Nat, v = .agg (u32v l).toArray ∧ l.length = 32 ∧ ∀ x ∈ l, x < 4294967296 := by
  obtain ⟨cs, rfl, hs⟩ := okWide_array Try.underlying23 hv
  obtain ⟨fuel, hf⟩ := h
  obtain ⟨xs, m, _, _, hl, hxl, hi⟩ := DataW.trod_array Try.underlying23 hf
  have hC : Try.prog.cellsOf 23 = 32 := by kernel_rfl
  have hE : Try.prog.cellsOf 22 = 1 := by kernel_rfl
  have hcs : cs.toList.length = 32 := by simpa using hs.trans hC
  obtain ⟨l, e, hlt⟩ := list_u32 cs.toList (by
    intro u hu
    obtain ⟨i, hil, e⟩ := List.mem_iff_getElem.1 hu
    have := hi i (by omega)
    have hx : xs[i]? = some (xs[i]'(by omega)) := List.getElem?_eq_getElem (by omega)
    rw [hE, hx] at this
    have h1 : (((Value.agg cs).cells.toList.drop (i * 1)).take 1) = [u] := by
      show ((cs.toList.drop (i * 1)).take 1) = [u]
      rw [Nat.mul_one, List.drop_eq_getElem_cons hil, List.take_succ_cons, List.take_zero, e]
    rw [h1] at this
    obtain ⟨n, e1, _, wf⟩ := DataW.trod_int Try.underlying22 this
    have b := bounds_u32 wf
    obtain ⟨k, rfl⟩ := Int.eq_ofNat_of_zero_le b.1
    exact ⟨k, by omega, by injection e1⟩)
  refine ⟨l, ?_, by rw [e, u32v_len] at hcs; exact hcs, hlt⟩
  rw [← e]

end Go.Proofs.Ytcahadkkjfijfaa
