/- . -/
import Derived.Test.YtgnomadgnciifaaGreatDoorZ1
import Derived.Outline
import Derived.Deep.Cut
import Derived.Laws.Concat
import Derived.Deep.DeepCutAuto
set_option linter.unusedVariables false
set_option linter.unusedSimpArgs false
set_option linter.unusedSectionVars false
set_option maxRecDepth 100000
set_option maxHeartbeats 16000000
namespace Go.Proofs.YtgnomadgnciifaaGreatDoor
section
open Go.RowKit
theorem Bel.setRow {a w:World} (h:Bel a w) {g:Nat} (hg:a.heap.size≤g) (cs:Array Value):Bel a (w.setRow g cs):=by
 refine ⟨h.os,h.tape,h.output,Nat.le_trans h.size (by rw [size_setRow];exact Nat.le_refl _),fun i hi=>?_⟩
 rw [setRow_other w g i cs (by omega)]
 exact h.block i hi
theorem f8m : (Tryz.prog.info? 29).map (·.size)=some 32:=by kernel_rfl
theorem b4h {R:Array Value} (h:R.size=32):(Tryz.prog.info? 29).map (·.size)=some R.size:=by rw [h];exact f8m
theorem c9r (w:World) (A B C:Obj):(((w.alloc A).alloc B).alloc C).heap[w.heap.size]?=some A:=by
 rw [Below.heap_alloc _ C _ (by simp;omega),Below.heap_alloc _ B _ (by simp)]
 exact heap_alloc_new w A
theorem b8x (w:World) (A B C:Obj):(((w.alloc A).alloc B).alloc C).heap[w.heap.size+1+1]?=some C:=by
 have:=heap_alloc_new ((w.alloc A).alloc B) C
 simpa using this
theorem c9s (l:List Nat):(u32v l).toArray.all (·.oneCell')=true:=by
 rw [Array.all_eq_true_iff_forall_mem]
 intro u hu
 simp only [u32v,List.mem_toArray,List.mem_map] at hu
 obtain ⟨x,_,rfl⟩:=hu
 rfl
theorem f8n {l:List Nat} (hl:l.length=32) (k:Nat) (u:Value):((u32v l).set k u).toArray.size=32:=by simp [u32v_len,hl]
theorem f8o {l:List Nat} (hl:l.length=32):(u32v l).toArray.size=32:=by simp [u32v_len,hl]
theorem f8p {l:List Nat} (k x:Nat):((u32v l).set k (.int .u32 (x:Int))).toArray.all (·.oneCell')=true:=by rw [c8y];exact c9s _
theorem f8q (l:List Nat) (s:Stp) (w:World) (hl:l.length=32) (h1:1≤s.rd) (h2:s.rd≤31) (h3:s.halt=0) :
  Calls Tryz.prog 73 #[.agg (u32v l).toArray,s.val] w fun e w'=>e = .returned (.agg (u32v (l.set s.rd.toNat s.value)).toArray)∧Bel w w':=by
 have b3:(s.halt == 0)=true:=by simp [h3]
 have hk:(u32v l)[s.rd.toNat]?=some (.int .u32 ((l[s.rd.toNat]'(by omega):Nat):Int)):=c8x (by omega)
 have SZ:=f8n hl s.rd.toNat (.int .u32 (s.value:Int))
 have ONE:=f8p (l:=l) s.rd.toNat s.value
 clear h3
 unfold Stp.val
 go_enter Tryz.func73,Tryz.ntmps73
 go_upto_region 3 with (fail)
 go_wp2_with (refine wpList_load_row rfl 29 (.tmp 2) (by rfl) w.heap.size (by rfl) 29 _ (0,0) _ (c9r _ _ _ _) Tryz.underlying29 rfl (b4h SZ) ?_;refine wpList_store_row rfl 29 (.tmp 4) (.tmp 23) (by rfl) (w.heap.size+1+1) _ (by rfl) (by rfl) 29 _ (b8x _ _ _ _) (b4h SZ) SZ.symm ONE ?_)
 refine bodyPost_ret (v:=.agg _) (results_cell_row rfl _ _ (w.heap.size+1+1) 29 _ (0,0) _ (by rfl) (setRow_heap _ _ _ _ _ _ (b8x _ _ _ _)) Tryz.underlying29 rfl (b4h SZ)) rfl ⟨?_,?_⟩
 ·rw [c8y]
 ·exact (((Bel.alloc w _).trans (Bel.alloc _ _)).trans (Bel.alloc _ _)).setRow (by omega) _
theorem f8r (l:List Nat) (s:Stp) (w:World) (hl:l.length=32) (h:¬ (1≤s.rd∧s.rd≤31∧s.halt=0)) :
  Calls Tryz.prog 73 #[.agg (u32v l).toArray,s.val] w fun e w'=>e = .returned (.agg (u32v l).toArray)∧Bel w w':=by
 have SZ:=f8o hl
 have ONE:=c9s l
 have key:∀ Q:Prop,(¬ 1≤s.rd→Q)→(1≤s.rd → ¬ s.rd≤31→Q)→(1≤s.rd→s.rd≤31→(s.halt == 0)=false→Q)→Q:=by
  intro Q a b c
  by_cases h1:1≤s.rd
  ·by_cases h2:s.rd≤31
   ·exact c h1 h2 (by simpa using fun h3=>h ⟨h1,h2,h3⟩)
   ·exact b h1 h2
  ·exact a h1
 clear h
 unfold Stp.val
 refine key _ (fun h1=>?_) (fun h1 h2=>?_) (fun h1 h2 h3=>?_)
 all_goals
  clear key
  go_enter Tryz.func73,Tryz.ntmps73
  go_upto_region 3 with (fail)
  go_wp2_with (refine wpList_load_row rfl 29 (.tmp 2) (by rfl) w.heap.size (by rfl) 29 _ (0,0) _ (c9r _ _ _ _) Tryz.underlying29 rfl (b4h SZ) ?_;refine wpList_store_row rfl 29 (.tmp 4) (.tmp 23) (by rfl) (w.heap.size+1+1) _ (by rfl) (by rfl) 29 _ (b8x _ _ _ _) (b4h SZ) SZ.symm ONE ?_)
  refine bodyPost_ret (v:=.agg _) (results_cell_row rfl _ _ (w.heap.size+1+1) 29 _ (0,0) _ (by rfl) (setRow_heap _ _ _ _ _ _ (b8x _ _ _ _)) Tryz.underlying29 rfl (b4h SZ)) rfl ⟨rfl,?_⟩
  exact (((Bel.alloc w _).trans (Bel.alloc _ _)).trans (Bel.alloc _ _)).setRow (by omega) _
end
section
open Go.RowKit
theorem tySl_22 : SlT Tryz.prog 22 3 (.int .i64 0) 1 8:=⟨Tryz.underlying22,by kernel_rfl,rfl,by decide⟩
theorem tySl_23 : SlT Tryz.prog 23 28 (.int .u32 0) 1 4:=⟨Tryz.underlying23,by kernel_rfl,rfl,by decide⟩
theorem tySl_30 : SlT Tryz.prog 30 114 (.agg #[.int .u32 0,.int .u32 0]) 2 8:=⟨Tryz.underlying30,by kernel_rfl,rfl,by decide⟩
theorem tySl_31 : SlT Tryz.prog 31 54 (.agg #[.int .i64 0,.int .u32 0,.int .i64 0,.int .i64 0,.int .i64 0,.int .i64 0,.int .u32 0,.int .u32 0,.int .i64 0,.int .i64 0,.int .u32 0,.int .u32 0,.int .u32 0,.int .i64 0,.int .i64 0,.bool false,.bool false]) 17 120:=⟨Tryz.underlying31,by kernel_rfl,rfl,by decide⟩
theorem tySl_32 : SlT Tryz.prog 32 109 (.agg #[.int .u32 0,.string ⟨#[]⟩]) 2 24:=⟨Tryz.underlying32,by kernel_rfl,rfl,by decide⟩
theorem tySl_33 : SlT Tryz.prog 33 99 (.slice none 0 0) 1 24:=⟨Tryz.underlying33,by kernel_rfl,rfl,by decide⟩
theorem tySl_36 : SlT Tryz.prog 36 118 (.agg #[.int .i64 0,.int .u32 0,.int .i64 0,.string ⟨#[]⟩]) 4 40:=⟨Tryz.underlying36,by kernel_rfl,rfl,by decide⟩
theorem tySl_37 : SlT Tryz.prog 37 191 (.agg #[.int .u32 0,.int .u32 0]) 2 8:=⟨Tryz.underlying37,by kernel_rfl,rfl,by decide⟩
theorem tySl_40 : SlT Tryz.prog 40 57 (.agg #[.int .u32 0,.int .u32 0,.int .i64 0,.int .u32 0,.int .u32 0,.int .i64 0,.bool false,.int .i64 0,.int .i64 0]) 9 56:=⟨Tryz.underlying40,by kernel_rfl,rfl,by decide⟩
theorem tySl_66 : SlT Tryz.prog 66 92 (.agg #[.slice none 0 0,.slice none 0 0,.slice none 0 0,.slice none 0 0]) 4 96:=⟨Tryz.underlying66,by kernel_rfl,rfl,by decide⟩
theorem tySl_72 : SlT Tryz.prog 72 42 (.agg #[.int .i64 0,.int .i64 0,.int .i64 0,.int .i64 0,.int .i64 0,.int .i64 0,.int .i64 0,.int .i64 0,.slice none 0 0,.bool false,.slice none 0 0,.slice none 0 0,.int .i64 0,.int .u32 0,.int .u32 0,.int .u32 0,.int .u32 0,.int .u32 0,.int .u32 0,.int .u32 0,.int .u32 0,.int .u32 0,.int .u32 0,.int .u32 0,.int .u32 0,.int .u32 0,.int .u32 0,.int .u32 0,.int .u32 0,.int .u32 0,.int .u32 0,.int .u32 0,.int .u32 0,.int .u32 0,.int .u32 0,.int .u32 0,.int .u32 0,.int .u32 0,.int .u32 0,.int .u32 0,.int .u32 0,.int .u32 0,.int .u32 0,.int .u32 0,.int .u32 0,.int .u32 0,.bool false,.slice none 0 0,.slice none 0 0,.int .i64 0,.slice none 0 0,.int .i64 0,.slice none 0 0,.int .i64 0,.slice none 0 0,.slice none 0 0,.int .i64 0,.int .i64 0,.string ⟨#[]⟩,.slice none 0 0,.int .u32 0,.slice none 0 0,.int .i64 0,.slice none 0 0]) 64 576:=⟨Tryz.underlying72,by kernel_rfl,rfl,by decide⟩
theorem tySl_99 : SlT Tryz.prog 99 101 (.agg #[.int .u32 0,.bool false,.string ⟨#[]⟩]) 3 24:=⟨Tryz.underlying99,by kernel_rfl,rfl,by decide⟩
theorem tySl_104 : SlT Tryz.prog 104 5 (.int .u8 0) 1 1:=⟨Tryz.underlying104,by kernel_rfl,rfl,by decide⟩
theorem tySl_136 : SlT Tryz.prog 136 4 (.bool false) 1 1:=⟨Tryz.underlying136,by kernel_rfl,rfl,by decide⟩
theorem tySl_207 : SlT Tryz.prog 207 240 (.agg #[.int .i64 0,.int .i64 0]) 2 16:=⟨Tryz.underlying207,by kernel_rfl,rfl,by decide⟩
end
section
open Go.RowKit
inductive StrT (P:Program) (t:TypeId):Prop
 | mk (hu:P.underlying t=some .string)
inductive BySlT (P:Program) (t e:TypeId):Prop
 | mk (hu:P.underlying t=some (.slice e)) (he:P.underlying e=some (.int .u8)) (hi:(P.info? e).map (·.size)=some 1)
section
variable {P:Program} {ops:Array Oper} {rest:List Oper} {o:Oper} {a:Act} {Q:Exit→Act→World→Prop} {w0 w:World} {D0 D:List Da} {M:List Mu}
theorem f8s {src dst e:TypeId} {x:Operand} (ho:o.op = .convert src dst x) (hgd:o.guard=none) (hF:St w0 D0 w M D) (hs:StrT P src) (hd:BySlT P dst e) {s:ByteArray} (hx:a1b a x=some (.string s)) (hsz:s.size≤maxLen)
  (h:∀ g cap r w',St w0 D0 w' (.blk g e (a1z s.data.toList++r)::M) D→s.size+r.length=cap→cap≤maxLen→wpList P ops Q rest (a.put o.dst (.slice (some ⟨g,0,none⟩) s.size cap)) w'):wpList P ops Q (o::rest) a w:=by
 obtain ⟨hs⟩:=hs
 obtain ⟨hu,he,_⟩:=hd
 refine f6c hgd src dst e x ho hs hu he s (look_eval hx) hsz fun cap w' h1 h2 hk hb hl=>h _ _ _ _ (hF.push _ (a6l hb none) ⟨hk,hF.bel.size⟩ fun g hg=>?_) (by simp;omega) h2
 simp only [Mu.bl,Option.some.injEq] at hg;omega
theorem f8t {src dst e:TypeId} {x:Operand} (ho:o.op = .convert src dst x) (hgd:o.guard=none) (hF:St w0 D0 w M D) (hs:BySlT P src e) (hd:StrT P dst) {g n c:Nat} (hx:a1b a x=some (.slice (some ⟨g,0,none⟩) n c))
  {i:Nat} {t:TypeId} {l:List UInt8} {r:List Value} (hi:M[i]?=some (.blk g t (a1z l++r))) (hn:l.length=n) (hc:n≤c) (hm:c≤maxLen)
  (h:wpList P ops Q rest (a.put o.dst (.string ⟨l.toArray⟩)) w):wpList P ops Q (o::rest) a w:=by
 obtain ⟨hu,he,_⟩:=hs
 obtain ⟨hd⟩:=hd
 have hr:=(hF.bkAt hi).rd (sz:=1) (n:=n) (c:=c) (o:=0) (by rw [List.length_append,a5k];omega) hc hm
 rw [List.drop_zero,Nat.mul_one,List.take_append_of_le_length (by rw [a5k];omega),List.take_of_length_le (by rw [a5k];omega)] at hr
 exact wpList_string hgd src dst e x ho hu he hd hr (look_eval hx) h
theorem c9t {w:World} {t:TypeId} (ht:StrT P t) (s:ByteArray) (ki:IntKind) (k:Nat) (h:k≤s.size):(Instr.sliceAt t (.string s) none (some (.int ki (k:Int))) none).run P w = .ok (.string (s.extract 0 k)) w:=by
 obtain ⟨ht⟩:=ht
 rw [run_sliceAt_string (P:=P) w t _ _ _ _ ht,run_slice_string_h (P:=P) w t s ht ki (k:Int) (by omega) (by omega),Int.toNat_natCast]
theorem c9u {w:World} {t:TypeId} (ht:StrT P t) (s:ByteArray) (ki:IntKind) (k:Nat) (h:k≤s.size):(Instr.sliceAt t (.string s) (some (.int ki (k:Int))) none none).run P w = .ok (.string (s.extract k s.size)) w:=by
 obtain ⟨ht⟩:=ht
 rw [run_sliceAt_string (P:=P) w t _ _ _ _ ht,run_slice_string_l (P:=P) w t s ht ki (k:Int) (by omega) (by omega),Int.toNat_natCast]
theorem f8u {t:TypeId} {x y:Operand} (ho:o.op = .slice t x none (some y) none) (ht:StrT P t) {s:ByteArray} (hx:a1b a x=some (.string s)) {k:Nat} {ki:IntKind} (hy:a1b a y=some (.int ki (k:Int))) (hw:Region.wanted o (yielded ops a.tmps)=true) (hk:k≤s.size)
  (h:wpList P ops Q rest (a.put o.dst (.string (s.extract 0 k))) w):wpList P ops Q (o::rest) a w:=by
 replace hx:=look_eval hx
 replace hy:=look_eval hy
 refine a2c hw fun K hK=>?_
 unfold Oper.wp execOp
 simp only [ho,hx,hy,Option.map_some,Option.map_none,c9t ht s ki k hk,Sem.run_bind,Sem.run_pure,Result.andThen_ok]
 exact hK _ _ h
theorem f8v {t:TypeId} {x y:Operand} (ho:o.op = .slice t x (some y) none none) (ht:StrT P t) {s:ByteArray} (hx:a1b a x=some (.string s)) {k:Nat} {ki:IntKind} (hy:a1b a y=some (.int ki (k:Int))) (hw:Region.wanted o (yielded ops a.tmps)=true) (hk:k≤s.size)
  (h:wpList P ops Q rest (a.put o.dst (.string (s.extract k s.size))) w):wpList P ops Q (o::rest) a w:=by
 replace hx:=look_eval hx
 replace hy:=look_eval hy
 refine a2c hw fun K hK=>?_
 unfold Oper.wp execOp
 simp only [ho,hx,hy,Option.map_some,Option.map_none,c9u ht s ki k hk,Sem.run_bind,Sem.run_pure,Result.andThen_ok]
 exact hK _ _ h
theorem f8w {SS:World→Prop} {t:TypeId} {x y:Operand} (ho:o.op = .slice t x none (some y) none) (ht:StrT P t) {s:ByteArray} (hx:a1b a x=some (.string s)) {k:Nat} {ki:IntKind} (hy:a1b a y=some (.int ki (k:Int))) (hw:Region.wanted o (yielded ops a.tmps)=true) (hk:k≤s.size):YieldsIf P ops SS o (.string (s.extract 0 k)) a:=by
 replace hx:=look_eval hx
 replace hy:=look_eval hy
 exact a1u hw fun w=>by
  unfold execOp
  simp only [ho,hx,hy,Option.map_some,Option.map_none,c9t ht s ki k hk,Sem.run_bind,Sem.run_pure,Result.andThen_ok]
theorem f8x {SS:World→Prop} {t:TypeId} {x y:Operand} (ho:o.op = .slice t x (some y) none none) (ht:StrT P t) {s:ByteArray} (hx:a1b a x=some (.string s)) {k:Nat} {ki:IntKind} (hy:a1b a y=some (.int ki (k:Int))) (hw:Region.wanted o (yielded ops a.tmps)=true) (hk:k≤s.size):YieldsIf P ops SS o (.string (s.extract k s.size)) a:=by
 replace hx:=look_eval hx
 replace hy:=look_eval hy
 exact a1u hw fun w=>by
  unfold execOp
  simp only [ho,hx,hy,Option.map_some,Option.map_none,c9u ht s ki k hk,Sem.run_bind,Sem.run_pure,Result.andThen_ok]
theorem f8y {dT sT e:TypeId} {d s:Operand} (ho:o.op = .call { callee:=.builtin .copy,args:=#[d,s],argTypes:=#[dT,sT] }) (hgd:o.guard=none) (hF:St w0 D0 w M D) (ht:BySlT P dT e)
  {g off n cd:Nat} (hx:a1b a d=some (.slice (some ⟨g,off,none⟩) n cd)) {str:ByteArray} (hy:a1b a s=some (.string str)) {i:Nat} {t':TypeId} {cs:List Value} (hi:M[i]?=some (.blk g t' cs))
  (hl:off+n≤cs.length) {M':List Mu} (hM:M.set i (.blk g t' (spl cs off (a1z (str.data.toList.take (min str.size n)))))=M')
  (h:∀ w',St w0 D0 w' M' D→wpList P ops Q rest (a.put o.dst (goInt (min str.size n:Nat))) w'):wpList P ops Q (o::rest) a w:=by
 replace hx:=look_eval hx
 replace hy:=look_eval hy
 subst hM
 obtain ⟨hu,he,hsz⟩:=ht
 refine c3d hgd d s dT sT ho e hu hsz g off n cd str hx hy t' cs (hF.bkAt hi) (by omega) fun w' hk hg=>h w' ?_
 exact hF.upd i _ _ hi hg ⟨hk,(hF.mu i _ hi).2⟩ fun g' hg'=>.inl hg'
end
def b4i (l:List UInt8) (at':Nat) (s:List UInt8):List UInt8:=l.take at'++(s.take (l.length - at'))++l.drop (at'+s.length)
theorem f8z {l s:List UInt8} {k:Nat} (h:k≤l.length):(b4i l k s).length=l.length:=by simp [b4i];omega
theorem f9a {l:List UInt8} {r:List Value} {k:Nat} {str:ByteArray} (h:k≤l.length):spl (a1z l++r) k (a1z (str.data.toList.take (min str.size (l.length - k))))=a1z (b4i l k str.data.toList)++r:=by
 have hs:str.data.toList.length=str.size:=by simp
 have ht:(str.data.toList.take (min str.size (l.length - k)))=str.data.toList.take (l.length - k):=by
  rcases Nat.le_total str.size (l.length - k) with h1|h1
  ·rw [Nat.min_eq_left h1,List.take_of_length_le (by omega),List.take_of_length_le (by omega)]
  ·rw [Nat.min_eq_right h1]
 rw [ht,b1r _ _ _ (by simp [a5k];omega),a5k,List.take_append_of_le_length (by rw [a5k];exact h),List.length_take,hs]
 have h1:(a1z l).take k=a1z (l.take k):=by simp [a1z,List.map_take]
 rw [h1,b4i,b8m,b8m,hs]
 rcases Nat.le_total str.size (l.length - k) with h2|h2
 ·rw [Nat.min_eq_right h2,List.drop_append_of_le_length (by rw [a5k];omega)]
  simp [a1z,List.map_drop]
 ·rw [Nat.min_eq_left h2,show k+(l.length - k)=l.length by omega,List.drop_of_length_le (show l.length≤k+str.size by omega)]
  have:(a1z l++r).drop l.length=r:=by rw [← a5k l,List.drop_left]
  rw [this];simp [a1z]
end
section
open Go.RowKit
theorem i3i : StrT Tryz.prog 9:=⟨Tryz.underlying9⟩
theorem i3j : StrT Tryz.prog 10:=⟨Tryz.underlying10⟩
theorem i3k : StrT Tryz.prog 11:=⟨Tryz.underlying11⟩
theorem i3l : BySlT Tryz.prog 104 5:=⟨Tryz.underlying104,Tryz.underlying5,by kernel_rfl⟩
end
section
open Go.RowKit
def bl (s:ByteArray):List UInt8:=s.data.toList
theorem a9z (s:ByteArray):(bl s).length=s.size:=by simp [bl]
theorem c9v {s t:ByteArray} (h:bl s=bl t):s=t:=by
 obtain ⟨⟨s⟩⟩:=s
 obtain ⟨⟨t⟩⟩:=t
 simp only [bl] at h
 subst h
 rfl
theorem b8y (l:List UInt8):bl ⟨l.toArray⟩=l:=by simp [bl]
def b3a (m:List UInt8) (p:Pu):List UInt8:=if p.addr<m.length then b4i m p.addr (bl p.data) else m
def a5c (m:List UInt8) (ps:List Pu):List UInt8:=ps.foldl b3a m
theorem f9b (m:List UInt8) (p:Pu):(b3a m p).length=m.length:=by
 unfold b3a
 split
 ·exact f8z (by omega)
 ·rfl
theorem b8z (m:List UInt8) (ps:List Pu):(a5c m ps).length=m.length:=by
 induction ps generalizing m with
 | nil=>rfl
 | cons p ps ih=>show (a5c (b3a m p) ps).length=_;rw [ih,f9b]
theorem c9w (m:List UInt8) (a b:List Pu):a5c m (a++b)=a5c (a5c m a) b:=List.foldl_append
theorem f9c (m:List UInt8) (a:List Pu) (p:Pu):a5c m (a++[p])=b3a (a5c m a) p:=by rw [c9w];rfl
def a3w (q:List Rq):List Pu:=(q.filter fun r=>decide (r.kind=4)).map fun r=>⟨r.line,r.data⟩
def a5y (C:List (List Wy)):List Pu:=C.flatten.map fun v=>⟨v.line,v.data⟩
def Wy.pu (v:Wy):Pu:=⟨v.line,v.data⟩
def a9d (ws:List Wy):List Pu:=ws.map Wy.pu
theorem c9x (p q:List Rq):a3w (p++q)=a3w p++a3w q:=by simp [a3w]
theorem f9d {q:List Rq} {k:Nat} {r:Rq} (h:q[k]?=some r) (h4:r.kind=4):a3w (q.take (k+1))=a3w (q.take k)++[⟨r.line,r.data⟩]:=by
 obtain ⟨hl,e⟩:=List.getElem?_eq_some_iff.1 h
 rw [List.take_succ_eq_append_getElem hl,c9x,e]
 simp [a3w,h4]
theorem f9e {q:List Rq} {k:Nat} {r:Rq} (h:q[k]?=some r) (h4:¬ r.kind=4):a3w (q.take (k+1))=a3w (q.take k):=by
 obtain ⟨hl,e⟩:=List.getElem?_eq_some_iff.1 h
 rw [List.take_succ_eq_append_getElem hl,c9x,e]
 simp [a3w,h4]
theorem f9f (C D:List (List Wy)):a5y (C++D)=a5y C++a5y D:=by simp [a5y]
theorem f9g {C:List (List Wy)} {k:Nat} {ws:List Wy} (h:C[k]?=some ws):a5y (C.take (k+1))=a5y (C.take k)++a9d ws:=by
 obtain ⟨hl,e⟩:=List.getElem?_eq_some_iff.1 h
 rw [List.take_succ_eq_append_getElem hl,f9f,e]
 simp [a5y,a9d,Wy.pu]
theorem f9h {ws:List Wy} {j:Nat} {v:Wy} (h:ws[j]?=some v):a9d (ws.take (j+1))=a9d (ws.take j)++[⟨v.line,v.data⟩]:=by
 obtain ⟨hl,e⟩:=List.getElem?_eq_some_iff.1 h
 rw [List.take_succ_eq_append_getElem hl,a9d,a9d,List.map_append,e]
 rfl
def b9a (q:List Rq) (m:List UInt8):List UInt8:=a5c m (a3w q)
theorem f9i (q:List Rq) (m:List UInt8):(b9a q m).length=m.length:=b8z _ _
def a9e (m:List UInt8) (x:Nat):List UInt8:=(m.drop (x - x % 16)).take 16
def InC (C:List (List Wy)) (v:Wy):Prop:=∃ (k:Nat) (ws:List Wy) (i:Nat),C[k]?=some ws∧ws[i]?=some v
end
section
open Go.RowKit
def zwy : Wy:=⟨0,false,⟨#[]⟩⟩
def b6q (ws:List Wy) (l:Nat):Option Nat:=ws.findIdx? fun v=>decide (v.line=l)
def b4j (n k:Nat):List Nat→List Wy→Bool
 | _,[]=>true
 | seen,v::r=>(decide (v.line % 16=0) && decide (v.line / 16 % n=k)) && (decide (v.data.size=0∨v.data.size=16) && !(seen.contains v.line)) && b4j n k (v.line::seen) r
def b6r (n:Nat) (ways:Int):Nat→List (List Wy)→Bool
 | _,[]=>true
 | k,ws::r=>decide ((ws.length:Int)≤ways) && (b4j n k [] ws && b6r n ways (k+1) r)
def b1t (ways:Int) (C:List (List Wy)):Bool :=
 decide (C.length=1∨C.length=2∨C.length=4) && (decide (ways=1∨ways=2) && b6r C.length ways 0 C)
def b1u (C:List (List Wy)) (k:Nat):List Wy:=C[k]?.getD []
def a4m (ways:Int) (C:List (List Wy)) (x:Nat):Nat × Nat × Bool :=
 if b1t ways C=true then
  match b6q (b1u C (x / 16 % C.length)) (x - x % 16) with
  | some i=>(x / 16 % C.length,i,true)
  | none=>(x / 16 % C.length,0,false)
 else (0,0,false)
def b3b (C:List (List Wy)) (k i:Nat):Wy:=(b1u C k)[i]?.getD zwy
def a4v (ways:Int) (C:List (List Wy)) (x:Nat):List (List Wy) :=
 let f:=a4m ways C x
 if f.2.2=true then C.set f.1 (a3t (b1u C f.1) f.2.1 (b3b C f.1 f.2.1)) else C
def c9y (data:ByteArray):ByteArray:=if data.size=16 then data else ⟨#[]⟩
def a9f (ways:Int) (C:List (List Wy)) (x:Nat) (data:ByteArray) (dirty:Bool):List (List Wy) × Wy × Bool :=
 if b1t ways C=false then (C,zwy,false) else
 let f:=a4m ways C x
 let ws:=b1u C f.1
 let v:=b3b C f.1 f.2.1
 if f.2.2=true then (C.set f.1 (a3t ws f.2.1 ⟨v.line,v.dirty || dirty,if data.size=16 then data else v.data⟩),zwy,false)
 else if (ws.length:Int)<ways then (C.set f.1 (⟨x - x % 16,dirty,c9y data⟩::ws),zwy,false)
 else (C.set f.1 (⟨x - x % 16,dirty,c9y data⟩::ws.take (ws.length - 1)),ws[ws.length - 1]?.getD zwy,true)
def f9j (d:ByteArray) (f:Nat) (b:ByteArray):ByteArray:=d.extract 0 f++b++d.extract (f+b.size) d.size
def b4k (ways:Int) (C:List (List Wy)) (x:Nat) (b:ByteArray):List (List Wy) × Bool :=
 let f:=a4m ways C x
 let v:=b3b C f.1 f.2.1
 if f.2.2=true∧v.data.size=16∧x % 16+b.size≤16 then (C.set f.1 (a3t (b1u C f.1) f.2.1 ⟨v.line,true,f9j v.data (x % 16) b⟩),true) else (C,false)
def a9g (ways:Int) (C:List (List Wy)) (x:Nat):List (List Wy) :=
 let f:=a4m ways C x
 if f.2.2=true then C.set f.1 ((b1u C f.1).set f.2.1 ⟨(b3b C f.1 f.2.1).line,false,(b3b C f.1 f.2.1).data⟩) else C
def a2r (ways:Int) (C:List (List Wy)):Wy × Bool :=
 if b1t ways C=true then
  match C.flatten.find? fun v=>v.dirty with
  | some v=>(v,true)
  | none=>(zwy,false)
 else (zwy,false)
def a9h (m:ByteArray) (ps:List Pu):ByteArray:=⟨(a5c (bl m) ps).toArray⟩
def b6s (m:ByteArray) (x:Nat):ByteArray:=⟨(a9e (bl m) x).toArray⟩
def a8m (ways:Int) (C:List (List Wy)) (q:List Rq) (m:ByteArray) (x:Nat) (left:Int):List (List Wy) × List Rq × Bool :=
 if b1t ways C=false then (C,q,false)
 else if (a4m ways C x).2.2=true then (a4v ways C x,q,false)
 else
  let p:=a9f ways C x (b6s (a9h m (a3w q)) x) false
  if (p.2.2 && (p.2.1.dirty && decide (p.2.1.data.size≠0)))=true then (p.1,q++[⟨4,p.2.1.line,max left 1,p.2.1.data⟩],true) else (p.1,q,false)
def a4f (ways:Int) (ss:List Pu) (C:List (List Wy)):List Pu × List (List Wy) × Bool :=
 match ss with
 | []=>([],C,false)
 | s::r=>if (b4k ways C s.addr s.data).2=true then (r,(b4k ways C s.addr s.data).1,true) else (s::r,C,false)
end
section
open Go.RowKit
theorem b4l {β:Type}:∀ {l:List (Nat × β)} {k:Nat} {v:β},l.lookup k=some v→(k,v)∈l
 | [],_,_,h=>by cases h
 | (a,b)::l,k,v,h=>by
  unfold List.lookup at h
  split at h
  ·rename_i he
   injection h with h
   rw [← h,eq_of_beq he]
   exact List.Mem.head _
  ·exact List.Mem.tail _ (b4l h)
theorem b1v {α β:Type} {f g:α→β}:∀ {l:List α} {x:α},l.map f=l.map g→x∈l→f x=g x
 | y::l,x,h,hx=>by
  simp only [List.map_cons,List.cons.injEq] at h
  rcases List.mem_cons.1 hx with rfl|hx
  ·exact h.1
  ·exact b1v h.2 hx
def b9b (k:Nat) (d:Option TypeDesc):Bool:=match d with
 | some (.struct _)=>k == 1
 | some (.array _ _)=>k == 1
 | some _=>k == 0
 | none=>false
theorem f9k {d:Option TypeDesc} (h:b9b 0 d=true):∃ x,d=some x∧(match x with | .struct _ | .array _ _=>false|_=>true)=true:=by
 cases d with
 | none=>cases h
 | some x=>refine ⟨x,rfl,?_⟩;cases x <;> first|rfl|cases h
theorem f9l {d:Option TypeDesc} (h:b9b 1 d=true):∃ x,d=some x∧(match x with | .struct _ | .array _ _=>true|_=>false)=true:=by
 cases d with
 | none=>cases h
 | some x=>refine ⟨x,rfl,?_⟩;cases x <;> first|rfl|cases h
def c3l : List Nat:=[2,3,4,5,9,12,21,22,23,28,30,31,32,33,36,37,40,65,66,72,99,104,136,152,181,207]
theorem f9m : c3l.map (fun x=>(b9b 0 (Tryz.prog.underlying x),(Tryz.prog.info? x).map (·.size)))=c3l.map (fun _=>(true,some 1)):=by kernel_rfl
theorem a8n (ty:TypeId) (h:c3l.elem ty=true):OneT Tryz.prog ty:=by
 have e:=b1v f9m (List.mem_of_elem_eq_true h)
 simp only [Prod.mk.injEq] at e
 obtain ⟨x,h1,h2⟩:=f9k e.1
 refine OneT.mk x h1 ?_ e.2
 cases x <;> first|rfl|cases h2
def c3m : List (Nat × Nat):=[(13,2),(24,11),(25,11),(29,32),(34,2),(35,2),(38,3),(39,3),(41,64),(42,64),(47,35),(48,35),(51,5),(52,5),(53,17),(54,17),(56,9),(57,9),(80,64),(81,64),(91,4),(92,4),(100,3),(101,3),(108,2),(109,2),(113,2),(114,2),(117,4),(118,4),(190,2),(191,2),(210,49),(239,2),(240,2),(258,4),(259,4)]
theorem f9n : c3m.map (fun x=>(b9b 1 (Tryz.prog.underlying x.1),(Tryz.prog.info? x.1).map (·.size)))=c3m.map (fun x=>(true,some x.2)):=by kernel_rfl
theorem tyRow (ty n:Nat) (h:c3m.lookup ty=some n):RowTy Tryz.prog ty n:=by
 have e:=b1v f9n (b4l h)
 simp only [Prod.mk.injEq] at e
 obtain ⟨x,h1,h2⟩:=f9l e.1
 refine RowTy.mk x h1 ?_ e.2
 cases x <;> first|rfl|cases h2
def c3n : List (Nat × List Value):=[(2,[.int .i64 0]),(3,[.int .i64 0]),(4,[.bool false]),(5,[.int .u8 0]),(9,[.string ⟨#[]⟩]),(12,[.int .u64 0]),(13,[.string ⟨#[]⟩,.int .u64 0]),(21,[.int .i32 0]),(22,[.slice none 0 0]),(23,[.slice none 0 0]),(24,[.int .i64 0,.int .i64 0,.int .i64 0,.int .i64 0,.int .i64 0,.int .i64 0,.int .i64 0,.int .i64 0,.slice none 0 0,.bool false,.slice none 0 0]),(25,[.int .i64 0,.int .i64 0,.int .i64 0,.int .i64 0,.int .i64 0,.int .i64 0,.int .i64 0,.int .i64 0,.slice none 0 0,.bool false,.slice none 0 0]),(28,[.int .u32 0]),(29,[.int .u32 0,.int .u32 0,.int .u32 0,.int .u32 0,.int .u32 0,.int .u32 0,.int .u32 0,.int .u32 0,.int .u32 0,.int .u32 0,.int .u32 0,.int .u32 0,.int .u32 0,.int .u32 0,.int .u32 0,.int .u32 0,.int .u32 0,.int .u32 0,.int .u32 0,.int .u32 0,.int .u32 0,.int .u32 0,.int .u32 0,.int .u32 0,.int .u32 0,.int .u32 0,.int .u32 0,.int .u32 0,.int .u32 0,.int .u32 0,.int .u32 0,.int .u32 0]),(30,[.slice none 0 0]),(31,[.slice none 0 0]),(32,[.slice none 0 0]),(33,[.slice none 0 0]),(34,[.int .i64 0,.slice none 0 0]),(35,[.int .i64 0,.slice none 0 0]),(36,[.slice none 0 0]),(37,[.slice none 0 0]),(38,[.slice none 0 0,.int .u32 0,.slice none 0 0]),(39,[.slice none 0 0,.int .u32 0,.slice none 0 0]),(40,[.slice none 0 0]),(41,[.int .i64 0,.int .i64 0,.int .i64 0,.int .i64 0,.int .i64 0,.int .i64 0,.int .i64 0,.int .i64 0,.slice none 0 0,.bool false,.slice none 0 0,.slice none 0 0,.int .i64 0,.int .u32 0,.int .u32 0,.int .u32 0,.int .u32 0,.int .u32 0,.int .u32 0,.int .u32 0,.int .u32 0,.int .u32 0,.int .u32 0,.int .u32 0,.int .u32 0,.int .u32 0,.int .u32 0,.int .u32 0,.int .u32 0,.int .u32 0,.int .u32 0,.int .u32 0,.int .u32 0,.int .u32 0,.int .u32 0,.int .u32 0,.int .u32 0,.int .u32 0,.int .u32 0,.int .u32 0,.int .u32 0,.int .u32 0,.int .u32 0,.int .u32 0,.int .u32 0,.int .u32 0,.bool false,.slice none 0 0,.slice none 0 0,.int .i64 0,.slice none 0 0,.int .i64 0,.slice none 0 0,.int .i64 0,.slice none 0 0,.slice none 0 0,.int .i64 0,.int .i64 0,.string ⟨#[]⟩,.slice none 0 0,.int .u32 0,.slice none 0 0,.int .i64 0,.slice none 0 0]),(42,[.int .i64 0,.int .i64 0,.int .i64 0,.int .i64 0,.int .i64 0,.int .i64 0,.int .i64 0,.int .i64 0,.slice none 0 0,.bool false,.slice none 0 0,.slice none 0 0,.int .i64 0,.int .u32 0,.int .u32 0,.int .u32 0,.int .u32 0,.int .u32 0,.int .u32 0,.int .u32 0,.int .u32 0,.int .u32 0,.int .u32 0,.int .u32 0,.int .u32 0,.int .u32 0,.int .u32 0,.int .u32 0,.int .u32 0,.int .u32 0,.int .u32 0,.int .u32 0,.int .u32 0,.int .u32 0,.int .u32 0,.int .u32 0,.int .u32 0,.int .u32 0,.int .u32 0,.int .u32 0,.int .u32 0,.int .u32 0,.int .u32 0,.int .u32 0,.int .u32 0,.int .u32 0,.bool false,.slice none 0 0,.slice none 0 0,.int .i64 0,.slice none 0 0,.int .i64 0,.slice none 0 0,.int .i64 0,.slice none 0 0,.slice none 0 0,.int .i64 0,.int .i64 0,.string ⟨#[]⟩,.slice none 0 0,.int .u32 0,.slice none 0 0,.int .i64 0,.slice none 0 0]),(47,[.int .u32 0,.int .u32 0,.int .u32 0,.int .u32 0,.int .u32 0,.int .u32 0,.int .u32 0,.int .u32 0,.int .u32 0,.int .u32 0,.int .u32 0,.int .u32 0,.int .u32 0,.int .u32 0,.int .u32 0,.int .u32 0,.int .u32 0,.int .u32 0,.int .u32 0,.int .u32 0,.int .u32 0,.int .u32 0,.int .u32 0,.int .u32 0,.int .u32 0,.int .u32 0,.int .u32 0,.int .u32 0,.int .u32 0,.int .u32 0,.int .u32 0,.int .u32 0,.int .u32 0,.string ⟨#[]⟩,.int .i64 0]),(48,[.int .u32 0,.int .u32 0,.int .u32 0,.int .u32 0,.int .u32 0,.int .u32 0,.int .u32 0,.int .u32 0,.int .u32 0,.int .u32 0,.int .u32 0,.int .u32 0,.int .u32 0,.int .u32 0,.int .u32 0,.int .u32 0,.int .u32 0,.int .u32 0,.int .u32 0,.int .u32 0,.int .u32 0,.int .u32 0,.int .u32 0,.int .u32 0,.int .u32 0,.int .u32 0,.int .u32 0,.int .u32 0,.int .u32 0,.int .u32 0,.int .u32 0,.int .u32 0,.int .u32 0,.string ⟨#[]⟩,.int .i64 0]),(51,[.int .i64 0,.int .i64 0,.int .i64 0,.int .i64 0,.int .u32 0]),(52,[.int .i64 0,.int .i64 0,.int .i64 0,.int .i64 0,.int .u32 0]),(53,[.int .i64 0,.int .u32 0,.int .i64 0,.int .i64 0,.int .i64 0,.int .i64 0,.int .u32 0,.int .u32 0,.int .i64 0,.int .i64 0,.int .u32 0,.int .u32 0,.int .u32 0,.int .i64 0,.int .i64 0,.bool false,.bool false]),(54,[.int .i64 0,.int .u32 0,.int .i64 0,.int .i64 0,.int .i64 0,.int .i64 0,.int .u32 0,.int .u32 0,.int .i64 0,.int .i64 0,.int .u32 0,.int .u32 0,.int .u32 0,.int .i64 0,.int .i64 0,.bool false,.bool false]),(56,[.int .u32 0,.int .u32 0,.int .i64 0,.int .u32 0,.int .u32 0,.int .i64 0,.bool false,.int .i64 0,.int .i64 0]),(57,[.int .u32 0,.int .u32 0,.int .i64 0,.int .u32 0,.int .u32 0,.int .i64 0,.bool false,.int .i64 0,.int .i64 0]),(65,[.int .u64 0]),(66,[.slice none 0 0]),(72,[.slice none 0 0]),(80,[.int .i64 0,.int .i64 0,.int .i64 0,.int .i64 0,.int .i64 0,.int .i64 0,.int .i64 0,.int .i64 0,.slice none 0 0,.bool false,.slice none 0 0,.slice none 0 0,.int .i64 0,.int .u32 0,.int .u32 0,.int .u32 0,.int .u32 0,.int .u32 0,.int .u32 0,.int .u32 0,.int .u32 0,.int .u32 0,.int .u32 0,.int .u32 0,.int .u32 0,.int .u32 0,.int .u32 0,.int .u32 0,.int .u32 0,.int .u32 0,.int .u32 0,.int .u32 0,.int .u32 0,.int .u32 0,.int .u32 0,.int .u32 0,.int .u32 0,.int .u32 0,.int .u32 0,.int .u32 0,.int .u32 0,.int .u32 0,.int .u32 0,.int .u32 0,.int .u32 0,.int .u32 0,.bool false,.slice none 0 0,.slice none 0 0,.int .i64 0,.slice none 0 0,.int .i64 0,.slice none 0 0,.int .i64 0,.slice none 0 0,.slice none 0 0,.int .i64 0,.int .i64 0,.string ⟨#[]⟩,.slice none 0 0,.int .u32 0,.slice none 0 0,.int .i64 0,.slice none 0 0]),(81,[.int .i64 0,.int .i64 0,.int .i64 0,.int .i64 0,.int .i64 0,.int .i64 0,.int .i64 0,.int .i64 0,.slice none 0 0,.bool false,.slice none 0 0,.slice none 0 0,.int .i64 0,.int .u32 0,.int .u32 0,.int .u32 0,.int .u32 0,.int .u32 0,.int .u32 0,.int .u32 0,.int .u32 0,.int .u32 0,.int .u32 0,.int .u32 0,.int .u32 0,.int .u32 0,.int .u32 0,.int .u32 0,.int .u32 0,.int .u32 0,.int .u32 0,.int .u32 0,.int .u32 0,.int .u32 0,.int .u32 0,.int .u32 0,.int .u32 0,.int .u32 0,.int .u32 0,.int .u32 0,.int .u32 0,.int .u32 0,.int .u32 0,.int .u32 0,.int .u32 0,.int .u32 0,.bool false,.slice none 0 0,.slice none 0 0,.int .i64 0,.slice none 0 0,.int .i64 0,.slice none 0 0,.int .i64 0,.slice none 0 0,.slice none 0 0,.int .i64 0,.int .i64 0,.string ⟨#[]⟩,.slice none 0 0,.int .u32 0,.slice none 0 0,.int .i64 0,.slice none 0 0]),(91,[.slice none 0 0,.slice none 0 0,.slice none 0 0,.slice none 0 0]),(92,[.slice none 0 0,.slice none 0 0,.slice none 0 0,.slice none 0 0]),(99,[.slice none 0 0]),(100,[.int .u32 0,.bool false,.string ⟨#[]⟩]),(101,[.int .u32 0,.bool false,.string ⟨#[]⟩]),(104,[.slice none 0 0]),(108,[.int .u32 0,.string ⟨#[]⟩]),(109,[.int .u32 0,.string ⟨#[]⟩]),(113,[.int .u32 0,.int .u32 0]),(114,[.int .u32 0,.int .u32 0]),(117,[.int .i64 0,.int .u32 0,.int .i64 0,.string ⟨#[]⟩]),(118,[.int .i64 0,.int .u32 0,.int .i64 0,.string ⟨#[]⟩]),(136,[.slice none 0 0]),(152,[.int .i64 0]),(181,[.int .u64 0]),(190,[.int .u32 0,.int .u32 0]),(191,[.int .u32 0,.int .u32 0]),(207,[.slice none 0 0]),(210,[.int .u32 0,.int .u32 0,.int .u32 0,.int .u32 0,.int .u32 0,.int .u32 0,.int .u32 0,.int .u32 0,.int .u32 0,.int .u32 0,.int .u32 0,.int .u32 0,.int .u32 0,.int .u32 0,.int .u32 0,.int .u32 0,.int .u32 0,.int .u32 0,.int .u32 0,.int .u32 0,.int .u32 0,.int .u32 0,.int .u32 0,.int .u32 0,.int .u32 0,.int .u32 0,.int .u32 0,.int .u32 0,.int .u32 0,.int .u32 0,.int .u32 0,.int .u32 0,.int .u32 0,.int .u32 0,.int .u32 0,.int .u32 0,.int .u32 0,.int .u32 0,.int .u32 0,.int .u32 0,.int .u32 0,.int .u32 0,.int .u32 0,.int .u32 0,.int .u32 0,.int .u32 0,.int .u32 0,.int .u32 0,.int .u32 0]),(239,[.int .i64 0,.int .i64 0]),(240,[.int .i64 0,.int .i64 0]),(258,[.int .u32 0,.int .i64 0,.string ⟨#[]⟩,.bool false]),(259,[.int .u32 0,.int .i64 0,.string ⟨#[]⟩,.bool false])]
theorem f9o : c3n.map (fun x=>((Tryz.prog.info? x.1).bind (·.zero)).map (·.cells))=c3n.map (fun x=>some x.2.toArray):=by kernel_rfl
theorem f9p (ty:Nat) (cs:List Value) (h:c3n.lookup ty=some cs):ZeroT Tryz.prog ty cs:=by
 have e:=b1v f9o (b4l h)
 cases hq:Tryz.prog.info? ty with
 | none=>simp [hq] at e
 | some i=>
  cases hz:i.zero with
  | none=>simp [hq,hz] at e
  | some z=>exact ⟨z,by simp [hq,hz],by simpa [hq,hz] using e⟩
def slL : List (Nat × Nat × Value × Nat × Nat):=[(22,3,.int .i64 0,1,8),(23,28,.int .u32 0,1,4),(30,114,.agg #[.int .u32 0,.int .u32 0],2,8),(31,54,.agg #[.int .i64 0,.int .u32 0,.int .i64 0,.int .i64 0,.int .i64 0,.int .i64 0,.int .u32 0,.int .u32 0,.int .i64 0,.int .i64 0,.int .u32 0,.int .u32 0,.int .u32 0,.int .i64 0,.int .i64 0,.bool false,.bool false],17,120),(32,109,.agg #[.int .u32 0,.string ⟨#[]⟩],2,24),(33,99,.slice none 0 0,1,24),(36,118,.agg #[.int .i64 0,.int .u32 0,.int .i64 0,.string ⟨#[]⟩],4,40),(37,191,.agg #[.int .u32 0,.int .u32 0],2,8),(40,57,.agg #[.int .u32 0,.int .u32 0,.int .i64 0,.int .u32 0,.int .u32 0,.int .i64 0,.bool false,.int .i64 0,.int .i64 0],9,56),(66,92,.agg #[.slice none 0 0,.slice none 0 0,.slice none 0 0,.slice none 0 0],4,96),(72,42,.agg #[.int .i64 0,.int .i64 0,.int .i64 0,.int .i64 0,.int .i64 0,.int .i64 0,.int .i64 0,.int .i64 0,.slice none 0 0,.bool false,.slice none 0 0,.slice none 0 0,.int .i64 0,.int .u32 0,.int .u32 0,.int .u32 0,.int .u32 0,.int .u32 0,.int .u32 0,.int .u32 0,.int .u32 0,.int .u32 0,.int .u32 0,.int .u32 0,.int .u32 0,.int .u32 0,.int .u32 0,.int .u32 0,.int .u32 0,.int .u32 0,.int .u32 0,.int .u32 0,.int .u32 0,.int .u32 0,.int .u32 0,.int .u32 0,.int .u32 0,.int .u32 0,.int .u32 0,.int .u32 0,.int .u32 0,.int .u32 0,.int .u32 0,.int .u32 0,.int .u32 0,.int .u32 0,.bool false,.slice none 0 0,.slice none 0 0,.int .i64 0,.slice none 0 0,.int .i64 0,.slice none 0 0,.int .i64 0,.slice none 0 0,.slice none 0 0,.int .i64 0,.int .i64 0,.string ⟨#[]⟩,.slice none 0 0,.int .u32 0,.slice none 0 0,.int .i64 0,.slice none 0 0],64,576),(99,101,.agg #[.int .u32 0,.bool false,.string ⟨#[]⟩],3,24),(104,5,.int .u8 0,1,1),(136,4,.bool false,1,1),(207,240,.agg #[.int .i64 0,.int .i64 0],2,16)]
theorem f9q : slL.map (fun x=>(Tryz.prog.underlying x.1,(Tryz.prog.info? x.2.1).map (fun i=>(i.zero,i.size,i.bytes)),x.2.2.1.cells.size,Nat.blt 0 x.2.2.2.1))=slL.map (fun x=>(some (.slice x.2.1),some (some x.2.2.1,x.2.2.2.1,x.2.2.2.2),x.2.2.2.1,true)):=by kernel_rfl
theorem a3o (t e:Nat) (z:Value) (sz bytes:Nat) (h:slL.lookup t=some (e,z,sz,bytes)):SlT Tryz.prog t e z sz bytes:=by
 have e:=b1v f9q (b4l h)
 simp only [Prod.mk.injEq] at e
 exact ⟨e.1,e.2.1,e.2.2.1,Nat.le_of_ble_eq_true e.2.2.2⟩
def b9c : List (Nat × Nat):=[(2500,0),(2501,1),(2502,2),(2503,3),(2504,4),(2505,5),(2506,6),(2507,7),(2508,8),(2509,9),(2510,10),(3500,0),(3501,1),(3900,0),(3901,1),(3902,2),(4200,0),(4201,11),(4202,12),(4203,13),(4204,45),(4205,46),(4206,47),(4207,48),(4208,49),(4209,50),(4210,51),(4211,53),(4212,55),(4213,56),(4214,57),(4215,58),(4216,59),(4217,62),(4218,63),(4800,0),(4801,1),(4802,33),(4803,34),(5200,0),(5201,1),(5202,2),(5203,3),(5204,4),(5400,0),(5401,1),(5402,2),(5403,7),(5404,8),(5405,9),(5406,10),(5407,11),(5408,12),(5409,13),(5410,14),(5411,15),(5412,16),(5700,0),(5701,1),(5702,2),(5703,3),(5704,4),(5705,5),(5706,6),(5707,7),(5708,8),(8100,0),(9200,0),(9201,1),(9202,2),(9203,3),(10100,0),(10101,1),(10102,2),(10900,0),(10901,1),(11400,0),(11401,1),(11800,0),(11801,1),(11802,2),(11803,3),(19100,0),(19101,1),(24000,0),(24001,1),(25900,0),(25901,1),(25902,2),(25903,3)]
def b1w (d:Option TypeDesc) (f:Nat):Option (Nat × Nat):=match d with
 | some (.struct fs)=>fs[f]?.map fun x=>(x.offset,x.type)
 | _=>none
theorem f9r : b9c.map (fun x=>((b1w (Tryz.prog.underlying (x.1 / 100)) (x.1 % 100)).map (·.1),((b1w (Tryz.prog.underlying (x.1 / 100)) (x.1 % 100)).bind fun y=>(Tryz.prog.info? y.2).map fun i=>Nat.blt 0 i.size)))=b9c.map (fun x=>(some x.2,some true)):=by kernel_rfl
theorem f9s (q o : Nat) (h : b9c.lookup q = some o) : FldT Tryz.prog (q / 100) (q % 100) o := by
  have e := b1v f9r (b4l h)
  simp only [Prod.mk.injEq] at e
  obtain ⟨e1, e2⟩ := e
  cases hu : Tryz.prog.underlying (q / 100) with
  | none => simp [hu, b1w] at e1
  | some d =>
    cases d <;> first
      | (simp [hu, b1w] at e1; done)
      | (rename_i fs
         cases hf : fs[q % 100]? with
         | none => simp [hu, b1w, hf] at e1
         | some fl =>
           cases hi : Tryz.prog.info? fl.type with
           | none => simp [hu, b1w, hf, hi] at e2
           | some i => exact ⟨fs, fl, i.size, hu, hf, by simpa [hu, b1w, hf] using e1, by simp [hi], by have : Nat.blt 0 i.size = true := (by simpa [hu, b1w, hf, hi] using e2); have := Nat.le_of_ble_eq_true this; omega⟩)
theorem b3c (s f o:Nat) (h:b9c.lookup (s * 100+f)=some o) (hf:f<100:=by decide):FldT Tryz.prog s f o:=by
 have:=f9s (s * 100+f) o h
 rwa [show (s * 100+f) / 100=s by omega,show (s * 100+f) % 100=f by omega] at this
def c3o : List Nat:=[9,10,11]
theorem f9t : c3o.map (fun x=>Tryz.prog.underlying x)=c3o.map (fun _=>some .string):=by kernel_rfl
theorem b3d (ty:TypeId) (h:c3o.elem ty=true):StrT Tryz.prog ty:=⟨b1v f9t (List.mem_of_elem_eq_true h)⟩
def byL : List (Nat × Nat):=[(104,5)]
theorem f9u : byL.map (fun x=>(Tryz.prog.underlying x.1,Tryz.prog.underlying x.2,(Tryz.prog.info? x.2).map (·.size)))=byL.map (fun x=>(some (.slice x.2),some (.int .u8),some 1)):=by kernel_rfl
theorem b9d (t e:Nat) (h:byL.lookup t=some e):BySlT Tryz.prog t e:=by
 have e:=b1v f9u (b4l h)
 simp only [Prod.mk.injEq] at e
 exact ⟨e.1,e.2.1,e.2.2⟩
end
section
open Go.RowKit
theorem a1f {α:Type} {D:List α}:∀ x∈([]:List α),x∈D:=fun _ h=>by cases h
theorem a1m {α:Type} {d:α} {l D:List α} (h:d∈D) (t:∀ e∈l,e∈D):∀ e∈d::l,e∈D:=fun e he=>by
 rcases List.mem_cons.1 he with rfl|he
 ·exact h
 ·exact t e he
theorem zsn {α:Type} {l D:List α} (h:∀ e∈l,e∈D:=by ((repeat (refine a1m ?_ ?_;focus (exact zdm)));exact fun d h=>by (repeat (first|exact h|refine List.Mem.tail _ ?_)))):∀ e∈l,e∈D:=h
class One1 (v:Value):Prop where
 one:v.oneCell'=true
class OneC (xs:List Value):Prop where
 one:∀ u∈xs,u.oneCell'=true
instance oneInt (k:IntKind) (n:Int):One1 (.int k n):=⟨rfl⟩
instance oneBool (b:Bool):One1 (.bool b):=⟨rfl⟩
instance oneStr (s:ByteArray):One1 (.string s):=⟨rfl⟩
instance oneSl (A:Option Addr) (n c:Nat):One1 (.slice A n c):=⟨rfl⟩
instance oneNil : OneC []:=⟨b2y⟩
instance oneCons (v:Value) (l:List Value) [One1 v] [OneC l]:OneC (v::l):=⟨b4c One1.one OneC.one⟩
instance oneTake (l:List Value) (k:Nat) [OneC l]:OneC (l.take k):=⟨c9i OneC.one k⟩
instance oneDrop (l:List Value) (k:Nat) [OneC l]:OneC (l.drop k):=⟨drop_one OneC.one k⟩
def a7v (M:List Mu) (v:Value):Prop:=v.oneCell'=true ∨ ∃ (i:Nat) (e:TypeId) (sz n:Nat) (xs:List Value),M[i]?=some (.own v e sz n xs)
theorem St.oneM {w0 w:World} {D0 D:List Da} {M:List Mu} (h:St w0 D0 w M D) {v:Value} (hv:a7v M v):v.oneCell'=true:=by
 rcases hv with h1|⟨i,e,sz,n,xs,hi⟩
 ·exact h1
 ·exact h.ownOne hi
theorem b1x {M:List Mu} {l:List Value} [OneC l]:∀ u∈l,a7v M u:=fun u hu=>.inl (OneC.one u hu)
class Rows {α:Type} (f:List α→List Value) (cells:outParam (α→List Value)) (sz:outParam Nat):Prop where
 flat:∀ q,f q=q.flatMap cells
 len:∀ r,(cells r).length=sz
 one:∀ r,∀ u∈cells r,u.oneCell'=true
 pos:0<sz
section
variable {α:Type} {f:List α→List Value} {cells:α→List Value} {sz:Nat}
theorem Rows.length [H:Rows f cells sz] (q:List α):(f q).length=q.length * sz:=by
 rw [H.flat]
 induction q with
 | nil=>simp
 | cons r q ih=>rw [List.flatMap_cons,List.length_append,H.len,ih,List.length_cons,Nat.add_mul];omega
theorem Rows.append [H:Rows f cells sz] (p q:List α):f (p++q)=f p++f q:=by rw [H.flat,H.flat,H.flat,List.flatMap_append]
theorem Rows.single [H:Rows f cells sz] (r:α):f [r]=cells r:=by rw [H.flat];simp
theorem Rows.take [H:Rows f cells sz] (q:List α) (k:Nat):(f q).take (k * sz)=f (q.take k):=by
 rw [H.flat,H.flat]
 induction q generalizing k with
 | nil=>simp
 | cons r q ih=>
  cases k with
  | zero=>simp
  | succ k=>rw [List.flatMap_cons,List.take_append,H.len,List.take_of_length_le (by rw [H.len,Nat.add_mul];omega),show (k+1) * sz - sz=k * sz by rw [Nat.add_mul];omega,ih,List.take_succ_cons,List.flatMap_cons]
theorem Rows.drop [H:Rows f cells sz] (q:List α) (k:Nat):(f q).drop (k * sz)=f (q.drop k):=by
 rw [H.flat,H.flat]
 induction q generalizing k with
 | nil=>simp
 | cons r q ih=>
  cases k with
  | zero=>simp
  | succ k=>rw [List.flatMap_cons,List.drop_append,H.len,List.drop_of_length_le (by rw [H.len,Nat.add_mul];omega),show (k+1) * sz - sz=k * sz by rw [Nat.add_mul];omega,ih,List.drop_succ_cons,List.nil_append]
theorem Rows.el [H:Rows f cells sz] {q:List α} {k:Nat} {v:α} (h:q[k]?=some v) {i:Nat} {u:Value} (hu:(cells v)[i]?=some u):(f q)[k * sz+i]?=some u:=by
 obtain ⟨hl,e⟩:=List.getElem?_eq_some_iff.1 h
 have hi:i<sz:=by have:=(List.getElem?_eq_some_iff.1 hu).1;rwa [H.len] at this
 have h1:(f q).drop (k * sz)=cells v++f (q.drop (k+1)):=by
  rw [H.drop,List.drop_eq_getElem_cons hl,e,← H.single,← H.append]
  rfl
 have h2:(f q)[k * sz+i]?=((f q).drop (k * sz))[i]?:=by rw [List.getElem?_drop]
 rw [h2,h1,List.getElem?_append_left (by rw [H.len];exact hi),hu]
theorem Rows.el0 [H:Rows f cells sz] {q:List α} {k:Nat} {v:α} (h:q[k]?=some v) {u:Value} (hu:(cells v)[0]?=some u):(f q)[k * sz]?=some u:=H.el h hu
theorem Rows.sub [H:Rows f cells sz] {q:List α} {k:Nat} {v:α} (h:q[k]?=some v):∀ i u,(cells v)[i]?=some u→(f q)[k * sz+i]?=some u:=fun _ _ hu=>H.el h hu
theorem Rows.spl [H:Rows f cells sz] {q:List α} {k:Nat} {r:α} (hk:k<q.length):spl (f q) (k * sz) (cells r)=f (q.set k r):=by
 have h1:(k+1) * sz≤q.length * sz:=Nat.mul_le_mul_right _ hk
 rw [Nat.add_mul,Nat.one_mul] at h1
 rw [b1r _ _ _ (by rw [H.length,H.len];exact h1),H.len,show k * sz+sz=(k+1) * sz by rw [Nat.add_mul,Nat.one_mul],H.take,H.drop,List.set_eq_take_append_cons_drop,if_pos hk,H.append,← H.single r,List.append_assoc,← H.append]
 rfl
end
section
variable {P:Program} {ops:Array Oper} {rest:List Oper} {o:Oper} {a:Act} {Q:Exit→Act→World→Prop} {w0 w:World} {D0 D:List Da} {M:List Mu}
theorem w_box {ty:TypeId} {x:Operand} {v:Value} {cs:List Value} (ho:o.op = .box ty x) (hF:St w0 D0 w M D) (hx:a1b a x=some v)
  (h:∀ g w',St w0 D0 w' (.blk g ty cs::M) D→wpList P ops Q rest (a.put o.dst (.pointer (some ⟨g,0,none⟩))) w') (hgd:o.guard=none:=by rfl) (hc:v.cells=cs.toArray:=by exact rfl):wpList P ops Q (o::rest) a w :=
 f6x ho hgd hF hx cs hc h
theorem w_alloc {ty:TypeId} {cs:List Value} (ho:o.op = .alloc ty) (hF:St w0 D0 w M D)
  (h:∀ g w',St w0 D0 w' (.blk g ty cs::M) D→wpList P ops Q rest (a.put o.dst (.pointer (some ⟨g,0,none⟩))) w') (hgd:o.guard=none:=by rfl) (hz:ZeroT P ty cs:=by exact f9p _ _ rfl):wpList P ops Q (o::rest) a w :=
 f6y ho hgd hF cs hz h
theorem w_ld1 {ty:TypeId} {x:Operand} {g off i:Nat} {t:TypeId} {cs:List Value} {v:Value} (ho:o.op = .load ty x) (hF:St w0 D0 w M D) (hx:a1b a x=some (.pointer (some ⟨g,off,none⟩)))
  (h:wpList P ops Q rest (a.put o.dst v) w) (ht:OneT P ty:=by exact a8n _ rfl) (hw:Region.wanted o (yielded ops a.tmps)=true:=by rfl) (hi:M[i]?=some (.blk g t cs):=by exact zat) (hv:cs[off]?=some v:=by first|exact rfl|assumption):wpList P ops Q (o::rest) a w :=
 f6z ho hF hx ht hw hi hv h
theorem w_ld {ty:TypeId} {x:Operand} {g i:Nat} {t:TypeId} {cs:List Value} {v:Value} (ho:o.op = .load ty x) (hF:St w0 D0 w M D) (hx:a1b a x=some (.pointer (some ⟨g,0,none⟩)))
  (h:wpList P ops Q rest (a.put o.dst v) w) (hw:Region.wanted o (yielded ops a.tmps)=true:=by rfl) (hi:M[i]?=some (.blk g t cs):=by exact zat) (ht:RowTy P ty cs.length:=by exact tyRow _ _ rfl) (hv : .agg cs.toArray=v:=by exact rfl):wpList P ops Q (o::rest) a w :=
 f7a ho hF hx hw hi ht hv h
theorem w_ldp {ty:TypeId} {x:Operand} {g off i:Nat} {t:TypeId} {cs:List Value} {v:Value} {n:Nat} (ho:o.op = .load ty x) (hF:St w0 D0 w M D) (hx:a1b a x=some (.pointer (some ⟨g,off,none⟩)))
  (h:wpList P ops Q rest (a.put o.dst v) w) (hw:Region.wanted o (yielded ops a.tmps)=true:=by rfl) (hi:M[i]?=some (.blk g t cs):=by exact zat) (ht:RowTy P ty n:=by exact tyRow _ _ rfl) (hn:off+n≤cs.length:=by decide) (hv : .agg ((cs.drop off).take n).toArray=v:=by exact rfl):wpList P ops Q (o::rest) a w:=by
 have hl:((cs.drop off).take n).length=n:=by simp;omega
 exact f7b ho hF hx hw hi ((cs.drop off).take n) (by rwa [hl]) (fun j u hu=>by
  rw [List.getElem?_take] at hu
  split at hu
  ·rwa [List.getElem?_drop] at hu
  ·cases hu) hv h
theorem w_st1 {ty:TypeId} {x y:Operand} {g off i:Nat} {t:TypeId} {cs:List Value} {v:Value} {M':List Mu} (ho:o.op = .store ty x y) (hF:St w0 D0 w M D) (hx:a1b a x=some (.pointer (some ⟨g,off,none⟩))) (hy:a1b a y=some v)
  (h:∀ w',St w0 D0 w' M' D→wpList P ops Q rest (a.put o.dst undef) w') (ht:OneT P ty:=by exact a8n _ rfl) (hw:Region.wanted o (yielded ops a.tmps)=true:=by rfl) (hi:M[i]?=some (.blk g t cs):=by exact zat)
  (hoff:off<cs.length:=by first|assumption|(simp;done)|(simp;omega)) (h1:a7v M v:=by first|exact .inl One1.one|exact .inl rfl|exact .inr ⟨0,_,_,_,_,rfl⟩|exact .inr ⟨1,_,_,_,_,rfl⟩|exact .inr ⟨2,_,_,_,_,rfl⟩|exact .inr ⟨3,_,_,_,_,rfl⟩|exact .inr ⟨4,_,_,_,_,rfl⟩) (hM:M.set i (.blk g t (cs.set off v))=M':=by first|(simp only [zF];exact rfl)|(simp only [zF];done)|exact rfl):wpList P ops Q (o::rest) a w :=
 f7c ho hF hx hy ht hw hi hoff (hF.oneM h1) hM h
theorem w_st {ty:TypeId} {x y:Operand} {g i:Nat} {t:TypeId} {cs us:List Value} {M':List Mu} (ho:o.op = .store ty x y) (hF:St w0 D0 w M D) (hx:a1b a x=some (.pointer (some ⟨g,0,none⟩))) (hy:a1b a y=some (.agg us.toArray))
  (h:∀ w',St w0 D0 w' M' D→wpList P ops Q rest (a.put o.dst undef) w') (hw:Region.wanted o (yielded ops a.tmps)=true:=by rfl) (hi:M[i]?=some (.blk g t cs):=by exact zat) (hfit:us.length=cs.length:=by exact rfl) (ht:RowTy P ty us.length:=by exact tyRow _ _ rfl)
  (h1:∀ u∈us,a7v M u:=by first|exact b1x|((repeat (first|exact oneM_nil|refine oneM_cons (by first|exact .inl One1.one|exact .inl rfl|exact .inr ⟨0,_,_,_,_,rfl⟩|exact .inr ⟨1,_,_,_,_,rfl⟩|exact .inr ⟨2,_,_,_,_,rfl⟩|exact .inr ⟨3,_,_,_,_,rfl⟩|exact .inr ⟨4,_,_,_,_,rfl⟩) ?_)) <;> exact oneM_nil)) (hM:M.set i (.blk g t us)=M':=by first|(simp only [zF];exact rfl)|(simp only [zF];done)|exact rfl):wpList P ops Q (o::rest) a w :=
 f7d ho hF hx us hy hw hi hfit ht (fun u hu=>hF.oneM (h1 u hu)) hM h
theorem w_stp {ty:TypeId} {x y:Operand} {g off i:Nat} {t:TypeId} {cs us:List Value} {M':List Mu} (ho:o.op = .store ty x y) (hF:St w0 D0 w M D) (hx:a1b a x=some (.pointer (some ⟨g,off,none⟩))) (hy:a1b a y=some (.agg us.toArray))
  (h:∀ w',St w0 D0 w' M' D→wpList P ops Q rest (a.put o.dst undef) w') (hw:Region.wanted o (yielded ops a.tmps)=true:=by rfl) (hi:M[i]?=some (.blk g t cs):=by exact zat) (hfit:off+us.length≤cs.length:=by decide) (ht:RowTy P ty us.length:=by exact tyRow _ _ rfl)
  (h1:∀ u∈us,a7v M u:=by exact b1x) (hM:M.set i (.blk g t (spl cs off us))=M':=by first|(simp only [zF];exact rfl)|(simp only [zF];done)|exact rfl):wpList P ops Q (o::rest) a w :=
 c9n ho hF hx us hy hw hi hfit ht (fun u hu=>hF.oneM (h1 u hu)) hM h
theorem w_ld1o {ty:TypeId} {x:Operand} {g off i n c:Nat} {e:TypeId} {sz:Nat} {xs:List Value} {v:Value} (ho:o.op = .load ty x) (hF:St w0 D0 w M D) (hx:a1b a x=some (.pointer (some ⟨g,off,none⟩)))
  (h:wpList P ops Q rest (a.put o.dst v) w) (ht:OneT P ty:=by exact a8n _ rfl) (hw:Region.wanted o (yielded ops a.tmps)=true:=by rfl) (hi:M[i]?=some (.own (.slice (some ⟨g,0,none⟩) n c) e sz n xs):=by exact zat)
  (hv:xs[off]?=some v:=by first|exact rfl|assumption|exact Rows.el (by assumption) rfl|exact Rows.el0 (by assumption) rfl):wpList P ops Q (o::rest) a w :=
 f7e ho hF hx ht hw hi hv h
theorem w_st1o {ty:TypeId} {x y:Operand} {g off i n c:Nat} {e:TypeId} {sz:Nat} {xs:List Value} {v:Value} {M':List Mu} (ho:o.op = .store ty x y) (hF:St w0 D0 w M D) (hx:a1b a x=some (.pointer (some ⟨g,off,none⟩))) (hy:a1b a y=some v)
  (h:∀ w',St w0 D0 w' M' D→wpList P ops Q rest (a.put o.dst undef) w') (ht:OneT P ty:=by exact a8n _ rfl) (hw:Region.wanted o (yielded ops a.tmps)=true:=by rfl) (hi:M[i]?=some (.own (.slice (some ⟨g,0,none⟩) n c) e sz n xs):=by exact zat)
  (hoff:off<xs.length:=by first|assumption|(simp;done)|(simp;omega)) (h1:a7v M v:=by first|exact .inl One1.one|exact .inl rfl|exact .inr ⟨0,_,_,_,_,rfl⟩|exact .inr ⟨1,_,_,_,_,rfl⟩|exact .inr ⟨2,_,_,_,_,rfl⟩) (hM:M.set i (.own (.slice (some ⟨g,0,none⟩) n c) e sz n (xs.set off v))=M':=by first|(simp only [zF];exact rfl)|(simp only [zF];done)|exact rfl):wpList P ops Q (o::rest) a w :=
 f7f ho hF hx hy ht hw hi hoff (hF.oneM h1) hM h
theorem w_ix {t e:TypeId} {x ix:Operand} {A:Option Addr} {n c k:Nat} {ki:IntKind} {z:Value} {sz bytes:Nat} {xs:List Value} (ho:o.op = .indexAddr t x ix) (hF:St w0 D0 w M D) (hx:a1b a x=some (.slice A n c)) (hk:a1b a ix=some (.int ki (k:Int)))
  (h:wpList P ops Q rest (a.put o.dst (ept A (k * sz))) w) (ht:SlT P t e z sz bytes:=by exact a3o _ _ _ _ _ rfl) (hw:Region.wanted o (yielded ops a.tmps)=true:=by rfl) (hd:a1a sz A n c xs∈D:=by exact zdm) (hkn:k<n:=by (first|assumption|omega|exact Nat.zero_lt_of_lt (by assumption)|exact Nat.succ_pos _)):wpList P ops Q (o::rest) a w :=
 f7g ho hF hx hk ht hw hd hkn h
theorem w_ixB {t e:TypeId} {x ix:Operand} {g n c k:Nat} {ki:IntKind} {z:Value} {sz bytes:Nat} (ho:o.op = .indexAddr t x ix) (hx:a1b a x=some (.slice (some ⟨g,0,none⟩) n c)) (hk:a1b a ix=some (.int ki (k:Int)))
  (h:wpList P ops Q rest (a.put o.dst (.pointer (some ⟨g,k * sz,none⟩))) w) (ht:SlT P t e z sz bytes:=by exact a3o _ _ _ _ _ rfl) (hw:Region.wanted o (yielded ops a.tmps)=true:=by rfl) (hkn:k<n:=by (first|assumption|omega|exact Nat.zero_lt_of_lt (by assumption)|exact Nat.succ_pos _)):wpList P ops Q (o::rest) a w :=
 f7h ho hx hk ht hw hkn h
theorem w_fld {s f:Nat} {x:Operand} {A:Option Addr} {j off sz n c:Nat} {xs:List Value} (ho:o.op = .fieldAddr s x f) (hF:St w0 D0 w M D) (hx:a1b a x=some (ept A j))
  (h:wpList P ops Q rest (a.put o.dst (ept A (j+off))) w) (ht:FldT P s f off:=by exact b3c _ _ _ rfl) (hw:Region.wanted o (yielded ops a.tmps)=true:=by rfl) (hd:a1a sz A n c xs∈D:=by exact zdm) (hn:0<n:=by (first|assumption|omega)):wpList P ops Q (o::rest) a w :=
 f7i ho hx ht hw hF hd hn h
theorem w_fldB {s f:Nat} {x:Operand} {g j off:Nat} (ho:o.op = .fieldAddr s x f) (hx:a1b a x=some (.pointer (some ⟨g,j,none⟩)))
  (h:wpList P ops Q rest (a.put o.dst (.pointer (some ⟨g,j+off,none⟩))) w) (ht:FldT P s f off:=by exact b3c _ _ _ rfl) (hw:Region.wanted o (yielded ops a.tmps)=true:=by rfl):wpList P ops Q (o::rest) a w :=
 f7j ho hx ht hw h
theorem w_lde1 {ty:TypeId} {x:Operand} {A:Option Addr} {j sz n c:Nat} {xs:List Value} {v:Value} (ho:o.op = .load ty x) (hF:St w0 D0 w M D) (hx:a1b a x=some (ept A j))
  (h:wpList P ops Q rest (a.put o.dst v) w) (ht:OneT P ty:=by exact a8n _ rfl) (hw:Region.wanted o (yielded ops a.tmps)=true:=by rfl) (hd:a1a sz A n c xs∈D:=by exact zdm) (hv:xs[j]?=some v:=by first|assumption|exact Rows.el (by assumption) rfl|exact Rows.el0 (by assumption) rfl):wpList P ops Q (o::rest) a w :=
 f7k ho hF hx ht hw hd hv h
theorem w_lde {ty:TypeId} {x:Operand} {A:Option Addr} {j sz n c:Nat} {xs us:List Value} {v:Value} (ho:o.op = .load ty x) (hF:St w0 D0 w M D) (hx:a1b a x=some (ept A j))
  (h:wpList P ops Q rest (a.put o.dst v) w) (hw:Region.wanted o (yielded ops a.tmps)=true:=by rfl) (hd:a1a sz A n c xs∈D:=by exact zdm) (hu:∀ i u,us[i]?=some u→xs[j+i]?=some u:=by exact Rows.sub (by assumption)) (ht:RowTy P ty us.length:=by exact tyRow _ _ rfl) (h0:0<us.length:=by exact Nat.zero_lt_succ _) (hv : .agg us.toArray=v:=by exact rfl):wpList P ops Q (o::rest) a w :=
 f7l ho hF hx hw hd us hu ht h0 hv h
theorem w_to {t e:TypeId} {x y:Operand} {A:Option Addr} {n c N:Nat} {ki:IntKind} {z:Value} {sz bytes:Nat} {xs:List Value} (ho:o.op = .slice t x none (some y) none) (hF:St w0 D0 w M D) (hx:a1b a x=some (.slice A n c)) (hy:a1b a y=some (.int ki (N:Int)))
  (h:St w0 D0 w M (a1a sz A N c (xs.take (N * sz))::D)→wpList P ops Q rest (a.put o.dst (.slice A N c)) w) (ht:SlT P t e z sz bytes:=by exact a3o _ _ _ _ _ rfl) (hw:Region.wanted o (yielded ops a.tmps)=true:=by rfl) (hd:a1a sz A n c xs∈D:=by exact zdm) (hN:N≤n:=by (first|assumption|omega)):wpList P ops Q (o::rest) a w :=
 f7m ho hF hx hy ht hw hd hN h
theorem w_from {t e:TypeId} {x y:Operand} {A:Option Addr} {n c k:Nat} {ki:IntKind} {z:Value} {sz bytes:Nat} {xs:List Value} (ho:o.op = .slice t x (some y) none none) (hF:St w0 D0 w M D) (hx:a1b a x=some (.slice A n c)) (hy:a1b a y=some (.int ki (k:Int)))
  (h:St w0 D0 w M (a1a sz (cutA A k c sz) (n - k) (c - k) (xs.drop (k * sz))::D)→wpList P ops Q rest (a.put o.dst (.slice (cutA A k c sz) (n - k) (c - k))) w) (ht:SlT P t e z sz bytes:=by exact a3o _ _ _ _ _ rfl) (hw:Region.wanted o (yielded ops a.tmps)=true:=by rfl) (hd:a1a sz A n c xs∈D:=by exact zdm) (hk:k≤n:=by (first|assumption|omega)):wpList P ops Q (o::rest) a w :=
 f7n ho hF hx hy ht hw hd hk h
theorem w_bs1 {t e:TypeId} {x:Operand} {z:Value} {sz bytes:Nat} {v:Value} {us:List Value} (ho:o.op = .buildSlice t 1 #[(0,x)]) (hF:St w0 D0 w M D) (hx:a1b a x=some v)
  (h:∀ g w',St w0 D0 w' (.own (.slice (some ⟨g,0,none⟩) 1 1) e sz 1 us::M) D→wpList P ops Q rest (a.put o.dst (.slice (some ⟨g,0,none⟩) 1 1)) w') (hgd:o.guard=none:=by rfl) (ht:SlT P t e z sz bytes:=by exact a3o _ _ _ _ _ rfl) (hv:v.cells=us.toArray:=by exact rfl) (hl:us.length=sz:=by exact rfl) (hb:sz≤1000:=by decide):wpList P ops Q (o::rest) a w :=
 f7q ho hgd hF ht hx us hv hl hb h
theorem w_bs0 {t e:TypeId} {z:Value} {sz bytes:Nat} (ho:o.op = .buildSlice t 0 #[]) (hF:St w0 D0 w M D)
  (h:∀ g w',St w0 D0 w' (.own (.slice (some ⟨g,0,none⟩) 0 0) e sz 0 []::M) D→wpList P ops Q rest (a.put o.dst (.slice (some ⟨g,0,none⟩) 0 0)) w') (hgd:o.guard=none:=by rfl) (ht:SlT P t e z sz bytes:=by exact a3o _ _ _ _ _ rfl):wpList P ops Q (o::rest) a w :=
 f7r ho hgd hF ht h
theorem w_app {t e:TypeId} {s x:Operand} {z:Value} {sz bytes:Nat} {v:Value} {g m j i n:Nat} {us xs:List Value} {M':Value→List Mu} (ho:o.op = .call { callee:=.builtin .append,args:=#[s,x],argTypes:=#[t,t] }) (hF:St w0 D0 w M D)
  (hs:a1b a s=some v) (hx:a1b a x=some (.slice (some ⟨g,0,none⟩) m m)) (h:∀ v' w',St w0 D0 w' (M' v') D→wpList P ops Q rest (a.put o.dst v') w') (hgd:o.guard=none:=by rfl) (ht:SlT P t e z sz bytes:=by exact a3o _ _ _ _ _ rfl)
  (hj:M[j]?=some (.own (.slice (some ⟨g,0,none⟩) m m) e sz m us):=by exact zat) (hi:M[i]?=some (.own v e sz n xs):=by exact zat)
  (h1:∀ u∈us,a7v M u:=by first|exact b1x|((repeat (first|exact oneM_nil|refine oneM_cons (by first|exact .inl One1.one|exact .inl rfl|exact .inr ⟨0,_,_,_,_,rfl⟩|exact .inr ⟨1,_,_,_,_,rfl⟩|exact .inr ⟨2,_,_,_,_,rfl⟩|exact .inr ⟨3,_,_,_,_,rfl⟩|exact .inr ⟨4,_,_,_,_,rfl⟩) ?_)) <;> exact oneM_nil))
  (h63:(n+m) * bytes≤140737488355328:=by omega) (hm:n+m≤9223372036854775807:=by omega) (hM:∀ v',(M.set i (.own v' e sz (n+m) (xs++us))).eraseIdx j=M' v':=by first|(simp only [zF];exact fun _=>rfl)|(simp only [zF];done)|exact fun _=>rfl):wpList P ops Q (o::rest) a w :=
 f7s ho hgd hF ht hs hx hj hi (fun u hu=>hF.oneM (h1 u hu)) h63 hm hM h
theorem w_appD {t e:TypeId} {s x:Operand} {z:Value} {sz bytes:Nat} {v:Value} {A:Option Addr} {m c i n:Nat} {us xs:List Value} {M':Value→List Mu} (ho:o.op = .call { callee:=.builtin .append,args:=#[s,x],argTypes:=#[t,t] }) (hF:St w0 D0 w M D)
  (hs:a1b a s=some v) (hx:a1b a x=some (.slice A m c)) (h:∀ v' w',St w0 D0 w' (M' v') D→wpList P ops Q rest (a.put o.dst v') w') (hgd:o.guard=none:=by rfl) (ht:SlT P t e z sz bytes:=by exact a3o _ _ _ _ _ rfl)
  (hd:a1a sz A m c us∈D:=by exact zdm) (hi:M[i]?=some (.own v e sz n xs):=by exact zat) (h1:∀ u∈us,a7v M u:=by exact b1x)
  (h63:(n+m) * bytes≤140737488355328:=by omega) (hm:n+m≤9223372036854775807:=by omega) (hM:∀ v',M.set i (.own v' e sz (n+m) (xs++us))=M' v':=by first|(simp only [zF];exact fun _=>rfl)|(simp only [zF];done)|exact fun _=>rfl):wpList P ops Q (o::rest) a w :=
 f7t ho hgd hF ht hs hx hd hi (fun u hu=>hF.oneM (h1 u hu)) h63 hm hM h
theorem w_make0 {t e:TypeId} {l c:Operand} {z:Value} {sz bytes:Nat} {kl kc:IntKind} {N:Int} {n:Nat} (ho:o.op = .makeSlice t l c) (hF:St w0 D0 w M D) (hl:a1b a l=some (.int kl 0)) (hc:a1b a c=some (.int kc N))
  (h:∀ g w',St w0 D0 w' (.own (.slice (some ⟨g,0,none⟩) 0 n) e sz 0 []::M) D→wpList P ops Q rest (a.put o.dst (.slice (some ⟨g,0,none⟩) 0 n)) w') (hgd:o.guard=none:=by rfl) (ht:SlT P t e z sz bytes:=by exact a3o _ _ _ _ _ rfl)
  (hN:N=(n:Int):=by first|exact rfl|omega) (hb:bytes * n≤281474976710656:=by omega) (hm:n≤maxLen:=by unfold maxLen;omega):wpList P ops Q (o::rest) a w :=
 st_make0 ho hgd hF ht hl hc n hN hb hm h
theorem w_make {t e:TypeId} {l c:Operand} {z:Value} {sz bytes:Nat} {kl kc:IntKind} {L N:Int} (n:Nat) {zs:List Value} (ho:o.op = .makeSlice t l c) (hF:St w0 D0 w M D) (hl:a1b a l=some (.int kl L)) (hc:a1b a c=some (.int kc N))
  (h:∀ g w',St w0 D0 w' (.blk g e zs::M) D→wpList P ops Q rest (a.put o.dst (.slice (some ⟨g,0,none⟩) n n)) w') (hgd:o.guard=none:=by rfl) (ht:SlT P t e z sz bytes:=by exact a3o _ _ _ _ _ rfl)
  (hL:L=(n:Int):=by first|exact rfl|omega) (hN:N=(n:Int):=by first|exact rfl|omega) (hb:bytes * n≤281474976710656:=by omega) (hm:n≤maxLen:=by unfold maxLen;omega) (he:(madeCells z.cells (n * sz)).toList=zs:=by exact rfl):wpList P ops Q (o::rest) a w :=
 st_make ho hgd hF ht hl hc n hL hN hb hm he h
theorem w_copy {t e:TypeId} {d s:Operand} {z:Value} {sz bytes:Nat} {g n cd:Nat} {A:Option Addr} {c i:Nat} {us cs:List Value} {t':TypeId} {M':List Mu} (ho:o.op = .call { callee:=.builtin .copy,args:=#[d,s],argTypes:=#[t,t] }) (hF:St w0 D0 w M D)
  (hx:a1b a d=some (.slice (some ⟨g,0,none⟩) n cd)) (hy:a1b a s=some (.slice A n c)) (h:∀ w',St w0 D0 w' M' D→wpList P ops Q rest (a.put o.dst (goInt (n:Nat))) w') (hgd:o.guard=none:=by rfl) (ht:SlT P t e z sz bytes:=by exact a3o _ _ _ _ _ rfl)
  (hd:a1a sz A n c us∈D:=by exact zdm) (hi:M[i]?=some (.blk g t' cs):=by exact zat) (hl:cs.length=n * sz:=by first|exact rfl|(simp [madeCells];done)|(simp [madeCells];omega)) (h1:∀ u∈us,a7v M u:=by exact b1x) (hM:M.set i (.blk g t' us)=M':=by first|(simp only [zF];exact rfl)|(simp only [zF];done)|exact rfl):wpList P ops Q (o::rest) a w :=
 c9q ho hgd hF ht hx hy hd hi hl (fun u hu=>hF.oneM (h1 u hu)) hM h
theorem w_min {x y:Operand} {ts:Array TypeId} {k k':IntKind} {p q:Int} (N:Int) (ho:o.op = .call { callee:=.builtin .min,args:=#[x,y],argTypes:=ts }) (hx:a1b a x=some (.int k p)) (hy:a1b a y=some (.int k' q))
  (h:wpList P ops Q rest (a.put o.dst (.int k N)) w) (hgd:o.guard=none:=by rfl) (hN:N=if q<p then q else p:=by first|(split <;> omega)|omega):wpList P ops Q (o::rest) a w:=f7v ho hgd hx hy N hN h
theorem w_max {x y:Operand} {ts:Array TypeId} {k k':IntKind} {p q:Int} (N:Int) (ho:o.op = .call { callee:=.builtin .max,args:=#[x,y],argTypes:=ts }) (hx:a1b a x=some (.int k p)) (hy:a1b a y=some (.int k' q))
  (h:wpList P ops Q rest (a.put o.dst (.int k N)) w) (hgd:o.guard=none:=by rfl) (hN:N=if q > p then q else p:=by first|(split <;> omega)|omega):wpList P ops Q (o::rest) a w:=f7w ho hgd hx hy N hN h
theorem f9v {src dst e:TypeId} {x:Operand} {s:ByteArray} (ho:o.op = .convert src dst x) (hF:St w0 D0 w M D) (hx:a1b a x=some (.string s))
  (h:∀ g cap r w',St w0 D0 w' (.blk g e (a1z s.data.toList++r)::M) D→s.size+r.length=cap→cap≤maxLen→wpList P ops Q rest (a.put o.dst (.slice (some ⟨g,0,none⟩) s.size cap)) w') (hgd:o.guard=none:=by rfl)
  (hs:StrT P src:=by exact b3d _ rfl) (hd:BySlT P dst e:=by exact b9d _ _ rfl) (hsz:s.size≤maxLen:=by first|assumption|(unfold maxLen;omega)):wpList P ops Q (o::rest) a w :=
 f8s ho hgd hF hs hd hx hsz h
theorem w_string {src dst e:TypeId} {x:Operand} {g n c i:Nat} {t:TypeId} {l:List UInt8} {r:List Value} (ho:o.op = .convert src dst x) (hF:St w0 D0 w M D) (hx:a1b a x=some (.slice (some ⟨g,0,none⟩) n c))
  (h:wpList P ops Q rest (a.put o.dst (.string ⟨l.toArray⟩)) w) (hgd:o.guard=none:=by rfl) (hs:BySlT P src e:=by exact b9d _ _ rfl) (hd:StrT P dst:=by exact b3d _ rfl) (hi:M[i]?=some (.blk g t (a1z l++r)):=by exact zat) (hn:l.length=n:=by (first|assumption|omega)) (hc:n≤c:=by (first|assumption|omega)) (hm:c≤maxLen:=by first|assumption|(unfold maxLen;omega)):wpList P ops Q (o::rest) a w :=
 f8t ho hgd hF hs hd hx hi hn hc hm h
theorem w_strto {t:TypeId} {x y:Operand} {s:ByteArray} {k:Nat} {ki:IntKind} (ho:o.op = .slice t x none (some y) none) (hx:a1b a x=some (.string s)) (hy:a1b a y=some (.int ki (k:Int)))
  (h:wpList P ops Q rest (a.put o.dst (.string (s.extract 0 k))) w) (ht:StrT P t:=by exact b3d _ rfl) (hw:Region.wanted o (yielded ops a.tmps)=true:=by rfl) (hk:k≤s.size:=by (first|assumption|omega)):wpList P ops Q (o::rest) a w:=f8u ho ht hx hy hw hk h
theorem w_strfrom {t:TypeId} {x y:Operand} {s:ByteArray} {k:Nat} {ki:IntKind} (ho:o.op = .slice t x (some y) none none) (hx:a1b a x=some (.string s)) (hy:a1b a y=some (.int ki (k:Int)))
  (h:wpList P ops Q rest (a.put o.dst (.string (s.extract k s.size))) w) (ht:StrT P t:=by exact b3d _ rfl) (hw:Region.wanted o (yielded ops a.tmps)=true:=by rfl) (hk:k≤s.size:=by (first|assumption|omega)):wpList P ops Q (o::rest) a w:=f8v ho ht hx hy hw hk h
theorem w_copys {dT sT e:TypeId} {d s:Operand} {g off n cd:Nat} {str:ByteArray} {i:Nat} {t':TypeId} {l:List UInt8} {r:List Value} {M':List Mu} (ho:o.op = .call { callee:=.builtin .copy,args:=#[d,s],argTypes:=#[dT,sT] }) (hF:St w0 D0 w M D)
  (hx:a1b a d=some (.slice (some ⟨g,off,none⟩) n cd)) (hy:a1b a s=some (.string str)) (h:∀ w',St w0 D0 w' M' D→wpList P ops Q rest (a.put o.dst (goInt (min str.size n:Nat))) w') (hgd:o.guard=none:=by rfl) (ht:BySlT P dT e:=by exact b9d _ _ rfl)
  (hi:M[i]?=some (.blk g t' (a1z l++r)):=by exact zat) (hl:off+n=l.length:=by (first|assumption|omega)) (hM:M.set i (.blk g t' (a1z (b4i l off str.data.toList)++r))=M':=by first|(simp only [zF];exact rfl)|(simp only [zF];done)|exact rfl):wpList P ops Q (o::rest) a w:=by
 have e1:=f9a (l:=l) (r:=r) (k:=off) (str:=str) (by omega)
 rw [show l.length - off=n by omega] at e1
 rw [← e1] at hM
 exact f8y ho hgd hF ht hx hy hi (by rw [List.length_append,a5k];omega) hM h
theorem a2x {fn:Func} {p:Tmp} {ty t:TypeId} {g i:Nat} {cs:List Value} {tmps:Array Value} (h:fn.results=#[.cell p ty]) (hF:St w0 D0 w M D) (hp:tmps.getD p undef = .pointer (some ⟨g,0,none⟩):=by rfl) (hi:M[i]?=some (.blk g t cs):=by exact zat) (ht:RowTy P ty cs.length:=by exact tyRow _ _ rfl) :
  (results fn tmps).run P w = .ok (.agg cs.toArray) w:=f6f h hp (hF.bkAt hi) ht
theorem b1y {fn:Func} {p q:Tmp} {ty t:TypeId} {g i:Nat} {cs:List Value} {tmps:Array Value} (h:fn.results=#[.cell p ty,.tmp q]) (hF:St w0 D0 w M D) (hp:tmps.getD p undef = .pointer (some ⟨g,0,none⟩):=by rfl) (hi:M[i]?=some (.blk g t cs):=by exact zat) (ht:RowTy P ty cs.length:=by exact tyRow _ _ rfl) :
  (results fn tmps).run P w = .ok (.tuple #[.agg cs.toArray,tmps.getD q undef]) w:=c8w h hp (hF.bkAt hi) ht
theorem b4m {fn:Func} {p q q':Tmp} {ty t:TypeId} {g i:Nat} {cs:List Value} {tmps:Array Value} (h:fn.results=#[.tmp q,.cell p ty,.tmp q']) (hF:St w0 D0 w M D) (hp:tmps.getD p undef = .pointer (some ⟨g,0,none⟩):=by rfl) (hi:M[i]?=some (.blk g t cs):=by exact zat) (ht:RowTy P ty cs.length:=by exact tyRow _ _ rfl) :
  (results fn tmps).run P w = .ok (.tuple #[tmps.getD q undef,.agg cs.toArray,tmps.getD q' undef]) w:=f6h h hp (hF.bkAt hi) ht
theorem b9e {fn:Func} {p q q':Tmp} {ty t:TypeId} {g i:Nat} {cs:List Value} {tmps:Array Value} (h:fn.results=#[.cell p ty,.tmp q,.tmp q']) (hF:St w0 D0 w M D) (hp:tmps.getD p undef = .pointer (some ⟨g,0,none⟩):=by rfl) (hi:M[i]?=some (.blk g t cs):=by exact zat) (ht:RowTy P ty cs.length:=by exact tyRow _ _ rfl) :
  (results fn tmps).run P w = .ok (.tuple #[.agg cs.toArray,tmps.getD q undef,tmps.getD q' undef]) w:=f6g h hp (hF.bkAt hi) ht
theorem b3e {fn:Func} {p p' q:Tmp} {ty t ty' t':TypeId} {g g' i i':Nat} {cs cs':List Value} {tmps:Array Value} (h:fn.results=#[.cell p ty,.cell p' ty',.tmp q]) (hF:St w0 D0 w M D) (hp:tmps.getD p undef = .pointer (some ⟨g,0,none⟩):=by rfl) (hi:M[i]?=some (.blk g t cs):=by exact zat) (ht:RowTy P ty cs.length:=by exact tyRow _ _ rfl)
  (hp':tmps.getD p' undef = .pointer (some ⟨g',0,none⟩):=by rfl) (hi':M[i']?=some (.blk g' t' cs'):=by exact zat) (ht':RowTy P ty' cs'.length:=by exact tyRow _ _ rfl) :
  (results fn tmps).run P w = .ok (.tuple #[.agg cs.toArray,.agg cs'.toArray,tmps.getD q undef]) w:=f6i h hp (hF.bkAt hi) ht hp' (hF.bkAt hi') ht'
end
section
variable {P:Program} {ops:Array Oper} {Q:Exit→Act→World→Prop} {md:Region.Mode} {S:World→Prop} {a:Act} {o:Oper} {B:Nat} {Mr:List Mu} {Dr:List Da}
theorem a1p {i t:Nat} {v:Value} {fuel:Nat} {listed:Array Bool} {w:World} (hi:ops.toList[i]?=some o) (hy:YieldsIf P ops S o v a) (hS:S w)
  (h:wpAnyH P md ops Q S fuel (listed.setIfInBounds i true) { a with tmps:=a.tmps.setIfInBounds t v } w) (hd:o.dst=some t:=by rfl)
  (hs:Region.noSelect ops=true:=by kernel_rfl) (hf:Region.free md ops listed i=true:=by kernel_rfl) (hr:(Region.ready md ops listed).contains i=true:=by kernel_rfl)
  (hQ:∀ c a w,Q (.panic c) (a.put o.dst v) w→Q (.panic c) a w:=by exact fun _ _ _ h=>h):wpAnyH P md ops Q S (fuel+1) listed a w :=
 a9c hi hd hs hf hr hQ hy hS h
theorem a4g (hw:Region.wanted o (yielded ops a.tmps)=false:=by rfl):YieldsIf P ops S o undef a:=f7x hw
theorem b9f {x:Operand} {v:Value} (ho:o.op = .move x) (hx:a1b a x=some v) (hw:Region.wanted o (yielded ops a.tmps)=true:=by rfl):YieldsIf P ops S o v a:=f7y ho hx hw
theorem c9z {x:Operand} {v:Value} (ho:o.op = .assign x) (hx:a1b a x=some v) (hw:Region.wanted o (yielded ops a.tmps)=true:=by rfl):YieldsIf P ops S o v a:=f7z ho hx hw
theorem d1a {x:Operand} {t e:TypeId} {z:Value} {sz bytes:Nat} {A:Option Addr} {n c:Nat} (ho:o.op = .call { callee:=.builtin .len,args:=#[x],argTypes:=#[t] }) (hx:a1b a x=some (.slice A n c)) (ht:SlT P t e z sz bytes:=by exact a3o _ _ _ _ _ rfl) (hw:Region.wanted o (yielded ops a.tmps)=true:=by rfl):YieldsIf P ops S o (.int .i64 (n:Int)) a:=f8a ho hx ht hw
theorem d1b {x:Operand} {t:TypeId} {s:ByteArray} (ho:o.op = .call { callee:=.builtin .len,args:=#[x],argTypes:=#[t] }) (hx:a1b a x=some (.string s)) (ht:StrT P t:=by exact b3d _ rfl) (hw:Region.wanted o (yielded ops a.tmps)=true:=by rfl):YieldsIf P ops S o (.int .i64 (s.size:Int)) a:=by
 replace hx:=look_eval hx
 obtain ⟨hu⟩:=ht
 exact a1u hw fun w=>by
  unfold execOp
  simp [ho,resolve,invoke,builtin,hx,Builtin.len_,run_underlying hu,goInt]
theorem a5d {ty:TypeId} {x:Operand} {g off:Nat} {t:TypeId} {cs:List Value} {v:Value} (ho:o.op = .load ty x) (hx:a1b a x=some (.pointer (some ⟨g,off,none⟩))) (ht:OneT P ty:=by exact a8n _ rfl) (hw:Region.wanted o (yielded ops a.tmps)=true:=by rfl)
  (hm:Mu.blk g t cs∈Mr:=by exact zdm) (hv:cs[off]?=some v:=by exact rfl):YieldsIf P ops (Hold B Mr Dr) o v a:=f8b ho hx ht hw hm hv
theorem a5z {ty:TypeId} {x:Operand} {g:Nat} {t:TypeId} {cs:List Value} {v:Value} (ho:o.op = .load ty x) (hx:a1b a x=some (.pointer (some ⟨g,0,none⟩))) (hw:Region.wanted o (yielded ops a.tmps)=true:=by rfl)
  (hm:Mu.blk g t cs∈Mr:=by exact zdm) (ht:RowTy P ty cs.length:=by exact tyRow _ _ rfl) (hv : .agg cs.toArray=v:=by exact rfl):YieldsIf P ops (Hold B Mr Dr) o v a:=by subst hv;exact f8c ho hx hw hm ht
theorem b6t {s f:Nat} {x:Operand} {g j off:Nat} (ho:o.op = .fieldAddr s x f) (hx:a1b a x=some (.pointer (some ⟨g,j,none⟩))) (ht:FldT P s f off:=by exact b3c _ _ _ rfl) (hw:Region.wanted o (yielded ops a.tmps)=true:=by rfl) :
  YieldsIf P ops S o (.pointer (some ⟨g,j+off,none⟩)) a:=f8d ho hx ht hw
theorem b9g {t e:TypeId} {x ix:Operand} {A:Option Addr} {n c k:Nat} {ki:IntKind} {z:Value} {sz bytes:Nat} {xs:List Value} (ho:o.op = .indexAddr t x ix) (hx:a1b a x=some (.slice A n c)) (hk:a1b a ix=some (.int ki (k:Int)))
  (ht:SlT P t e z sz bytes:=by exact a3o _ _ _ _ _ rfl) (hw:Region.wanted o (yielded ops a.tmps)=true:=by rfl) (hd:a1a sz A n c xs∈Dr:=by exact zdm) (hkn:k<n:=by (first|assumption|omega|exact Nat.zero_lt_of_lt (by assumption)|exact Nat.succ_pos _)):YieldsIf P ops (Hold B Mr Dr) o (ept A (k * sz)) a:=f8e ho hx hk ht hw hd hkn
theorem b9h {t e:TypeId} {x ix:Operand} {g n c k:Nat} {ki:IntKind} {z:Value} {sz bytes:Nat} (ho:o.op = .indexAddr t x ix) (hx:a1b a x=some (.slice (some ⟨g,0,none⟩) n c)) (hk:a1b a ix=some (.int ki (k:Int)))
  (ht:SlT P t e z sz bytes:=by exact a3o _ _ _ _ _ rfl) (hw:Region.wanted o (yielded ops a.tmps)=true:=by rfl) (hkn:k<n:=by (first|assumption|omega|exact Nat.zero_lt_of_lt (by assumption)|exact Nat.succ_pos _)):YieldsIf P ops S o (.pointer (some ⟨g,k * sz,none⟩)) a:=f8f ho hx hk ht hw hkn
theorem b6u {s f:Nat} {x:Operand} {A:Option Addr} {j off sz n c:Nat} {xs:List Value} (ho:o.op = .fieldAddr s x f) (hx:a1b a x=some (ept A j)) (ht:FldT P s f off:=by exact b3c _ _ _ rfl) (hw:Region.wanted o (yielded ops a.tmps)=true:=by rfl)
  (hd:a1a sz A n c xs∈Dr:=by exact zdm) (hn:0<n:=by (first|assumption|omega)):YieldsIf P ops (Hold B Mr Dr) o (ept A (j+off)) a:=f8g ho hx ht hw hd hn
theorem a6a {ty:TypeId} {x:Operand} {A:Option Addr} {j sz n c:Nat} {xs:List Value} {v:Value} (ho:o.op = .load ty x) (hx:a1b a x=some (ept A j)) (ht:OneT P ty:=by exact a8n _ rfl) (hw:Region.wanted o (yielded ops a.tmps)=true:=by rfl)
  (hd:a1a sz A n c xs∈Dr:=by exact zdm) (hv:xs[j]?=some v:=by first|assumption|exact Rows.el (by assumption) rfl|exact Rows.el0 (by assumption) rfl):YieldsIf P ops (Hold B Mr Dr) o v a:=f8h ho hx ht hw hd hv
theorem a3j {ty:TypeId} {x:Operand} {A:Option Addr} {j sz n c:Nat} {xs us:List Value} {v:Value} (ho:o.op = .load ty x) (hx:a1b a x=some (ept A j)) (hw:Region.wanted o (yielded ops a.tmps)=true:=by rfl)
  (hd:a1a sz A n c xs∈Dr:=by exact zdm) (hu:∀ i u,us[i]?=some u→xs[j+i]?=some u:=by exact Rows.sub (by assumption)) (ht:RowTy P ty us.length:=by exact tyRow _ _ rfl) (h0:0<us.length:=by exact Nat.zero_lt_succ _) (hv : .agg us.toArray=v:=by exact rfl):YieldsIf P ops (Hold B Mr Dr) o v a:=by
 subst hv
 exact f8i ho hx hw hd us hu ht h0
theorem d1c {t e:TypeId} {x y:Operand} {A:Option Addr} {n c N:Nat} {ki:IntKind} {z:Value} {sz bytes:Nat} (ho:o.op = .slice t x none (some y) none) (hx:a1b a x=some (.slice A n c)) (hy:a1b a y=some (.int ki (N:Int)))
  (ht:SlT P t e z sz bytes:=by exact a3o _ _ _ _ _ rfl) (hw:Region.wanted o (yielded ops a.tmps)=true:=by rfl) (hN:N≤c:=by (first|assumption|omega)):YieldsIf P ops S o (.slice A N c) a:=f8j ho hx hy ht hw hN
theorem d1d {t e:TypeId} {x y:Operand} {A:Option Addr} {n c k:Nat} {ki:IntKind} {z:Value} {sz bytes:Nat} (ho:o.op = .slice t x (some y) none none) (hx:a1b a x=some (.slice A n c)) (hy:a1b a y=some (.int ki (k:Int)))
  (ht:SlT P t e z sz bytes:=by exact a3o _ _ _ _ _ rfl) (hw:Region.wanted o (yielded ops a.tmps)=true:=by rfl) (hk:k≤n:=by (first|assumption|omega)):YieldsIf P ops S o (.slice (cutA A k c sz) (n - k) (c - k)) a:=f8k ho hx hy ht hw hk
theorem d1e {t:TypeId} {x y:Operand} {s:ByteArray} {k:Nat} {ki:IntKind} (ho:o.op = .slice t x none (some y) none) (hx:a1b a x=some (.string s)) (hy:a1b a y=some (.int ki (k:Int))) (ht:StrT P t:=by exact b3d _ rfl) (hw:Region.wanted o (yielded ops a.tmps)=true:=by rfl) (hk:k≤s.size:=by (first|assumption|omega)) :
  YieldsIf P ops S o (.string (s.extract 0 k)) a:=f8w ho ht hx hy hw hk
theorem d1f {t:TypeId} {x y:Operand} {s:ByteArray} {k:Nat} {ki:IntKind} (ho:o.op = .slice t x (some y) none none) (hx:a1b a x=some (.string s)) (hy:a1b a y=some (.int ki (k:Int))) (ht:StrT P t:=by exact b3d _ rfl) (hw:Region.wanted o (yielded ops a.tmps)=true:=by rfl) (hk:k≤s.size:=by (first|assumption|omega)) :
  YieldsIf P ops S o (.string (s.extract k s.size)) a:=f8x ho ht hx hy hw hk
end
structure Out (w:World) (D0:List Da) (w':World) (ds:List Da):Prop where
 bel:Bel w w'
 ok:∀ d∈ds,d.ok w'
 from_:∀ d∈ds,From w D0 d
section
variable {w0 w w':World} {D0 D D1 ds:List Da} {M:List Mu}
theorem St.out (h:St w0 D0 w M D) (hd:∀ d∈ds,d∈D):Out w0 D0 w ds:=⟨h.bel,fun d hm=>h.dat d (hd d hm),fun d hm=>h.src d (hd d hm)⟩
theorem St.call (h:St w0 D0 w M D) (ho:Out w D1 w' ds) (hD:∀ d∈D1,d∈D):St w0 D0 w' M (ds++D):=by
 have h':=h.grow ho.bel
 refine ⟨h'.bel,h'.mu,h'.apart,fun d hd=>?_,fun d hd i m hm g hmg hdg=>?_,fun d hd=>?_⟩
 ·rcases List.mem_append.1 hd with hd|hd
  ·exact ho.ok d hd
  ·exact h'.dat d hd
 ·rcases List.mem_append.1 hd with hd|hd
  ·rcases ho.from_ d hd g hdg with h1|⟨e,he,h1⟩
   ·have:=((h.mu i m hm).lt hmg).2;omega
   ·exact h.sep e (hD e he) i m hm g hmg h1
  ·exact h.sep d hd i m hm g hmg hdg
 ·rcases List.mem_append.1 hd with hd|hd
  ·exact (ho.from_ d hd).trans h.bel.size fun e he=>h.src e (hD e he)
  ·exact h.src d hd
theorem St.callA {d1 d2:Da} (h:St w0 D0 w M D) (ho:Out w D1 w' [d1,d2]) (hD:∀ d∈D1,d∈D:=by ((repeat (first|exact a1f|refine a1m zdm ?_)) <;> exact a1f)):St w0 D0 w' M (d1::d2::D):=h.call ho hD
theorem St.call1A {d1:Da} (h:St w0 D0 w M D) (ho:Out w D1 w' [d1]) (hD:∀ d∈D1,d∈D:=by ((repeat (first|exact a1f|refine a1m zdm ?_)) <;> exact a1f)):St w0 D0 w' M (d1::D):=h.call ho hD
theorem St.call3A {d1 d2 d3:Da} (h:St w0 D0 w M D) (ho:Out w D1 w' [d1,d2,d3]) (hD:∀ d∈D1,d∈D:=by ((repeat (first|exact a1f|refine a1m zdm ?_)) <;> exact a1f)):St w0 D0 w' M (d1::d2::d3::D):=h.call ho hD
theorem St.outA (h:St w0 D0 w M D) (hd:∀ d∈ds,d∈D:=by ((repeat (first|exact a1f|refine a1m zdm ?_)) <;> exact a1f)):Out w0 D0 w ds:=h.out hd
theorem St.lessA (h:St w0 D0 w M D) (D':List Da) (hD:∀ d∈D',d∈D:=by ((repeat (first|exact a1f|refine a1m zdm ?_)) <;> exact a1f)):St w0 D0 w M D':=h.lessD hD
theorem St.rdA (h:St w0 D0 w M D) {sz n c:Nat} {A:Option Addr} {xs:List Value} (hd:a1a sz A n c xs∈D:=by exact zdm):Rd w w.heap.size sz A n c xs:=h.rd hd
theorem Hold.nextA {B:Nat} {Mr:List Mu} {Dr:List Da} {w1:World} (_h:Hold B Mr Dr w1) (hF:St w0 D0 w' M D) (hM:∀ m∈Mr,m∈M:=by first|exact fun _ h=>h|((repeat (first|exact a1f|refine a1m zdm ?_)) <;> exact a1f)) (hD:∀ d∈Dr,d∈D:=by first|exact fun _ h=>h|((repeat (first|exact a1f|refine a1m zdm ?_)) <;> exact a1f)) (hB:B=w0.heap.size:=by exact rfl):Hold B Mr Dr w':=_h.next hF hM hD hB
end
section
variable {P:Program} {md:Region.Mode} {ops:Array Oper} {o:Oper} {a a1:Act} {Q:Exit→Act→World→Prop} {S:World→Prop} {T:List Nat} {t i fuel:Nat} {v:Value} {listed:Array Bool} {w:World}
structure ZE (md:Region.Mode) (ops:Array Oper) (o:Oper) (a:Act) (Q:Exit→Act→World→Prop) (t:Nat) (v:Value) (listed:Array Bool) (i:Nat) (a1:Act):Prop where
 hd:o.dst=some t
 hs:Region.noSelect ops=true
 hf:Region.free md ops listed i=true
 hr:(Region.ready md ops listed).contains i=true
 hQ:∀ c a w,Q (.panic c) (a.put o.dst v) w→Q (.panic c) a w
 ha:({ a with tmps:=a.tmps.setIfInBounds t v }:Act)=a1
theorem zE (hd:o.dst=some t:=by rfl) (hs:Region.noSelect ops=true:=by kernel_rfl) (hf:Region.free md ops listed i=true:=by kernel_rfl) (hr:(Region.ready md ops listed).contains i=true:=by kernel_rfl) (hQ:∀ c a w,Q (.panic c) (a.put o.dst v) w→Q (.panic c) a w:=by exact fun _ _ _ h=>h) (ha:({ a with tmps:=a.tmps.setIfInBounds t v }:Act)=a1:=by first|(simp only [zA,Nat.reduceAdd];exact rfl)|(simp only [zA,Nat.reduceAdd];done)|exact rfl):ZE md ops o a Q t v listed i a1:=⟨hd,hs,hf,hr,hQ,ha⟩
theorem zk (hS:S w) (h:wpAnyH P md ops Q S fuel (listed.setIfInBounds i true) a1 w) (hi:ops.toList[i]?=some o) (hy:YieldsIf P ops S o v a) (e:ZE md ops o a Q t v listed i a1):wpAnyH P md ops Q S (fuel+1) listed a w:=a9c hi e.hd e.hs e.hf e.hr e.hQ hy hS (e.ha ▸ h)
theorem zk0 (i:Nat) (hS:S w) (h:wpAnyH P md ops Q S fuel (listed.setIfInBounds i true) a1 w) (hi:ops.toList[i]?=some o:=by exact rfl) (hy:YieldsIf P ops S o v a:=by first|exact a5d rfl rfl|exact a5z rfl rfl|exact a6a rfl rfl|exact a3j rfl rfl) (e:ZE md ops o a Q t v listed i a1:=by exact zE):wpAnyH P md ops Q S (fuel+1) listed a w:=zk hS h hi hy e
theorem zk1 (i:Nat) (hS:S w) (h:wpAnyH P md ops Q S fuel (listed.setIfInBounds i true) a1 w) (hi:ops.toList[i]?=some o:=by exact rfl) (hy:YieldsIf P ops S o v a:=by first|exact b6t rfl rfl|exact b6u rfl rfl) (e:ZE md ops o a Q t v listed i a1:=by exact zE):wpAnyH P md ops Q S (fuel+1) listed a w:=zk hS h hi hy e
theorem zk2 (i:Nat) (hS:S w) (h:wpAnyH P md ops Q S fuel (listed.setIfInBounds i true) a1 w) (hi:ops.toList[i]?=some o:=by exact rfl) (hy:YieldsIf P ops S o v a:=by first|exact b9g rfl rfl rfl|exact b9h rfl rfl rfl) (e:ZE md ops o a Q t v listed i a1:=by exact zE):wpAnyH P md ops Q S (fuel+1) listed a w:=zk hS h hi hy e
theorem zk3 (i:Nat) (hS:S w) (h:wpAnyH P md ops Q S fuel (listed.setIfInBounds i true) a1 w) (hi:ops.toList[i]?=some o:=by exact rfl) (hy:YieldsIf P ops S o v a:=by first|exact d1a rfl rfl|exact d1b rfl rfl) (e:ZE md ops o a Q t v listed i a1:=by exact zE):wpAnyH P md ops Q S (fuel+1) listed a w:=zk hS h hi hy e
theorem zk4 (i:Nat) (hS:S w) (h:wpAnyH P md ops Q S fuel (listed.setIfInBounds i true) a1 w) (hi:ops.toList[i]?=some o:=by exact rfl) (hy:YieldsIf P ops S o v a:=by first|exact d1c rfl rfl rfl|exact d1d rfl rfl rfl|exact d1e rfl rfl rfl|exact d1f rfl rfl rfl) (e:ZE md ops o a Q t v listed i a1:=by exact zE):wpAnyH P md ops Q S (fuel+1) listed a w:=zk hS h hi hy e
theorem zk5 (i:Nat) (hS:S w) (h:wpAnyH P md ops Q S fuel (listed.setIfInBounds i true) a1 w) (hi:ops.toList[i]?=some o:=by exact rfl) (hy:YieldsIf P ops S o v a:=by first|exact y_fromB rfl rfl rfl|exact d1c rfl rfl rfl|exact d1d rfl rfl rfl|exact d1e rfl rfl rfl|exact d1f rfl rfl rfl) (e:ZE md ops o a Q t v listed i a1:=by exact zE):wpAnyH P md ops Q S (fuel+1) listed a w:=zk hS h hi hy e
theorem zk6 (i:Nat) (hS:S w) (h:wpAnyH P md ops Q S fuel (listed.setIfInBounds i true) a1 w) (hi:ops.toList[i]?=some o:=by exact rfl) (hy:YieldsIf P ops S o v a:=by first|exact a5d rfl rfl|exact a5z rfl rfl|exact y_ldp rfl rfl|exact a6a rfl rfl|exact a3j rfl rfl|exact a3j rfl rfl (hu:=by assumption)) (e:ZE md ops o a Q t v listed i a1:=by exact zE):wpAnyH P md ops Q S (fuel+1) listed a w:=zk hS h hi hy e
theorem zk7 (i:Nat) (hS:S w) (h:wpAnyH P md ops Q S fuel (listed.setIfInBounds i true) a1 w) (hi:ops.toList[i]?=some o:=by exact rfl) (hy:YieldsIf P ops S o v a:=by first|exact a5d rfl rfl|exact a5z rfl rfl|exact y_ldp rfl rfl|exact a6a rfl rfl|exact a3j rfl rfl) (e:ZE md ops o a Q t v listed i a1:=by exact zE):wpAnyH P md ops Q S (fuel+1) listed a w:=zk hS h hi hy e
theorem zk8 (i:Nat) (hS:S w) (h:wpAnyH P md ops Q S fuel (listed.setIfInBounds i true) a1 w) (hi:ops.toList[i]?=some o:=by exact rfl) (hy:YieldsIf P ops S o v a:=by first|exact b9f rfl rfl|exact a4g) (e:ZE md ops o a Q t v listed i a1:=by exact zE):wpAnyH P md ops Q S (fuel+1) listed a w:=zk hS h hi hy e
theorem zk9 (i:Nat) (hS:S w) (h:wpAnyH P md ops Q S fuel (listed.setIfInBounds i true) a1 w) (hi:ops.toList[i]?=some o:=by exact rfl) (hy:YieldsIf P ops S o v a:=by first|exact b6t rfl rfl|exact b6u rfl rfl|exact a4g) (e:ZE md ops o a Q t v listed i a1:=by exact zE):wpAnyH P md ops Q S (fuel+1) listed a w:=zk hS h hi hy e
theorem d1g (i:Nat) (hS:S w) (h:wpAnyH P md ops Q S fuel (listed.setIfInBounds i true) a1 w) (hi:ops.toList[i]?=some o:=by exact rfl) (hy:YieldsIf P ops S o v a:=by first|exact a5d rfl rfl|exact a5z rfl rfl|exact y_ldp rfl rfl|exact a6a rfl rfl|exact a3j rfl rfl|exact a3j rfl rfl (hu:=by assumption)|exact a4g) (e:ZE md ops o a Q t v listed i a1:=by exact zE):wpAnyH P md ops Q S (fuel+1) listed a w:=zk hS h hi hy e
theorem a8o (i:Nat) (hS:S w) (h:wpAnyH P md ops Q S fuel (listed.setIfInBounds i true) a1 w) (hi:ops.toList[i]?=some o:=by exact rfl) (hy:YieldsIf P ops S o v a:=by first|exact d1a rfl rfl|exact d1b rfl rfl|exact a4g) (e:ZE md ops o a Q t v listed i a1:=by exact zE):wpAnyH P md ops Q S (fuel+1) listed a w:=zk hS h hi hy e
theorem a2i (i:Nat) (hS:S w) (h:wpAnyH P md ops Q S fuel (listed.setIfInBounds i true) a1 w) (hi:ops.toList[i]?=some o:=by exact rfl) (hy:YieldsIf P ops S o v a:=by first|exact a5d rfl rfl (hv:=by with_reducible assumption)|exact a5d rfl rfl|exact a5z rfl rfl|exact y_ldp rfl rfl|exact a6a rfl rfl|exact a3j rfl rfl|exact a3j rfl rfl (hu:=by assumption)) (e:ZE md ops o a Q t v listed i a1:=by exact zE):wpAnyH P md ops Q S (fuel+1) listed a w:=zk hS h hi hy e
theorem a4n (i:Nat) (hS:S w) (h:wpAnyH P md ops Q S fuel (listed.setIfInBounds i true) a1 w) (hi:ops.toList[i]?=some o:=by exact rfl) (hy:YieldsIf P ops S o v a:=by first|exact a5d rfl rfl (hv:=by with_reducible assumption)|exact a5d rfl rfl|exact a5z rfl rfl|exact y_ldp rfl rfl|exact a6a rfl rfl|exact a3j rfl rfl|exact a3j rfl rfl (hu:=by assumption)|exact a4g) (e:ZE md ops o a Q t v listed i a1:=by exact zE):wpAnyH P md ops Q S (fuel+1) listed a w:=zk hS h hi hy e
theorem b1z (i:Nat) (hS:S w) (h:wpAnyH P md ops Q S fuel (listed.setIfInBounds i true) a1 w) (hi:ops.toList[i]?=some o:=by exact rfl) (hy:YieldsIf P ops S o v a:=by first|exact y_ixP rfl rfl rfl|exact b9g rfl rfl rfl|exact b9h rfl rfl rfl) (e:ZE md ops o a Q t v listed i a1:=by exact zE):wpAnyH P md ops Q S (fuel+1) listed a w:=zk hS h hi hy e
theorem b6v (i:Nat) (hS:S w) (h:wpAnyH P md ops Q S fuel (listed.setIfInBounds i true) a1 w) (hi:ops.toList[i]?=some o:=by exact rfl) (hy:YieldsIf P ops S o v a:=by first|exact b9g rfl rfl rfl|exact b9h rfl rfl rfl|exact a4g) (e:ZE md ops o a Q t v listed i a1:=by exact zE):wpAnyH P md ops Q S (fuel+1) listed a w:=zk hS h hi hy e
theorem b1a (i:Nat) (hS:S w) (h:wpAnyH P md ops Q S fuel (listed.setIfInBounds i true) a1 w) (hi:ops.toList[i]?=some o:=by exact rfl) (hy:YieldsIf P ops S o v a:=by first|exact a5d rfl rfl|exact a5z rfl rfl|exact y_ldp rfl rfl|exact a6a rfl rfl|exact a3j rfl rfl|exact a4g) (e:ZE md ops o a Q t v listed i a1:=by exact zE):wpAnyH P md ops Q S (fuel+1) listed a w:=zk hS h hi hy e
theorem b6w (i:Nat) (hS:S w) (h:wpAnyH P md ops Q S fuel (listed.setIfInBounds i true) a1 w) (hi:ops.toList[i]?=some o:=by exact rfl) (hy:YieldsIf P ops S o v a:=by first|exact a5d rfl rfl|exact y_ld1o rfl rfl|exact a5z rfl rfl|exact a6a rfl rfl|exact a3j rfl rfl|exact a3j rfl rfl (hu:=by assumption)) (e:ZE md ops o a Q t v listed i a1:=by exact zE):wpAnyH P md ops Q S (fuel+1) listed a w:=zk hS h hi hy e
theorem a1c (i:Nat) (hS:S w) (h:wpAnyH P md ops Q S fuel (listed.setIfInBounds i true) a1 w) (hi:ops.toList[i]?=some o:=by exact rfl) (hy:YieldsIf P ops S o v a:=by exact b9f rfl rfl) (e:ZE md ops o a Q t v listed i a1:=by exact zE):wpAnyH P md ops Q S (fuel+1) listed a w:=zk hS h hi hy e
theorem a2a (i:Nat) (hS:S w) (h:wpAnyH P md ops Q S fuel (listed.setIfInBounds i true) a1 w) (hi:ops.toList[i]?=some o:=by exact rfl) (hy:YieldsIf P ops S o v a:=by exact c9z rfl rfl) (e:ZE md ops o a Q t v listed i a1:=by exact zE):wpAnyH P md ops Q S (fuel+1) listed a w:=zk hS h hi hy e
theorem c3p (i:Nat) (hS:S w) (h:wpAnyH P md ops Q S fuel (listed.setIfInBounds i true) a1 w) (hi:ops.toList[i]?=some o:=by exact rfl) (hy:YieldsIf P ops S o v a:=by exact y_gix rfl rfl codesT) (e:ZE md ops o a Q t v listed i a1:=by exact zE):wpAnyH P md ops Q S (fuel+1) listed a w:=zk hS h hi hy e
theorem f9w (i:Nat) (hS:S w) (h:wpAnyH P md ops Q S fuel (listed.setIfInBounds i true) a1 w) (hi:ops.toList[i]?=some o:=by exact rfl) (hy:YieldsIf P ops S o v a:=by exact y_shrH rfl rfl rfl) (e:ZE md ops o a Q t v listed i a1:=by exact zE):wpAnyH P md ops Q S (fuel+1) listed a w:=zk hS h hi hy e
theorem f9x (i:Nat) (hS:S w) (h:wpAnyH P md ops Q S fuel (listed.setIfInBounds i true) a1 w) (hi:ops.toList[i]?=some o:=by exact rfl) (hy:YieldsIf P ops S o v a:=by exact y_orH rfl rfl rfl) (e:ZE md ops o a Q t v listed i a1:=by exact zE):wpAnyH P md ops Q S (fuel+1) listed a w:=zk hS h hi hy e
theorem d1h (i:Nat) (hS:S w) (h:wpAnyH P md ops Q S fuel (listed.setIfInBounds i true) a1 w) (hi:ops.toList[i]?=some o:=by exact rfl) (hy:YieldsIf P ops S o v a:=by exact y_neI (j:=⟨(k:Int),rd,rs1,rs2,imm⟩) rfl rfl rfl) (e:ZE md ops o a Q t v listed i a1:=by exact zE):wpAnyH P md ops Q S (fuel+1) listed a w:=zk hS h hi hy e
theorem b4n (i:Nat) (hS:S w) (h:wpAnyH P md ops Q S fuel (listed.setIfInBounds i true) a1 w) (hi:ops.toList[i]?=some o:=by exact rfl) (hy:YieldsIf P ops S o v a:=by exact y_to3 rfl rfl rfl rfl) (e:ZE md ops o a Q t v listed i a1:=by exact zE):wpAnyH P md ops Q S (fuel+1) listed a w:=zk hS h hi hy e
theorem f9y (i:Nat) (hS:S w) (h:wpAnyH P md ops Q S fuel (listed.setIfInBounds i true) a1 w) (hi:ops.toList[i]?=some o:=by exact rfl) (hy:YieldsIf P ops S o v a:=by exact y_min rfl rfl rfl) (e:ZE md ops o a Q t v listed i a1:=by exact zE):wpAnyH P md ops Q S (fuel+1) listed a w:=zk hS h hi hy e
end
theorem zp {P:Program} {md:Region.Mode} {ops:Array Oper} {o:Oper} {a:Act} {Q:Exit→Act→World→Prop} {S:World→Prop} {t fuel:Nat} {v:Value} {a1:Act} {listed:Array Bool} {w:World} (i:Nat) (hS:S w) (h:wpAnyH P md ops Q S fuel (listed.setIfInBounds i true) a1 w) (hi:ops.toList[i]?=some o:=by exact rfl) (hd:o.dst=some t:=by rfl) (hs:Region.noSelect ops=true:=by kernel_rfl) (hf:Region.free md ops listed i=true:=by kernel_rfl) (hr:(Region.ready md ops listed).contains i=true:=by kernel_rfl) (hQ:∀ c a w,Q (.panic c) (a.put o.dst v) w→Q (.panic c) a w:=by exact fun _ _ _ h=>h) (hy:YieldsIf P ops S o v a:=by first|exact a6t a4g (by rfl)|(apply a1u;(· rfl);(intro w;go_simp;done))|(apply a1u;(· rfl);(intro w;go_simp;with_reducible rfl))|(apply a1u;(· rfl);(intro w;simp only [Wy.cells];go_simp;with_reducible rfl))) (ha:({ a with tmps:=a.tmps.setIfInBounds t v }:Act)=a1:=by first|(simp only [zA,Nat.reduceAdd];exact rfl)|(simp only [zA,Nat.reduceAdd];done)|exact rfl):wpAnyH P md ops Q S (fuel+1) listed a w:=a9c hi hd hs hf hr hQ hy hS (ha ▸ h)
theorem zx0 {B:Nat} {Mr:List Mu} {Dr:List Da} {w0 w1 w':World} {D0 D:List Da} {M:List Mu} (_h:Hold B Mr Dr w1) (hF:St w0 D0 w' M D) (hM:∀ m∈Mr,m∈M:=by first|exact fun _ h=>h|exact fun _ h=>List.Mem.tail _ (h)|exact fun _ h=>List.Mem.tail _ (List.Mem.tail _ (h))|exact fun _ h=>List.Mem.tail _ (List.Mem.tail _ (List.Mem.tail _ (h)))|exact fun _ h=>List.Mem.tail _ (List.Mem.tail _ (List.Mem.tail _ (List.Mem.tail _ (h))))|((repeat (first|exact a1f|refine a1m zdm ?_)) <;> exact a1f)) (hD:∀ d∈Dr,d∈D:=by first|exact fun _ h=>h|exact fun _ h=>List.Mem.tail _ (h)|exact fun _ h=>List.Mem.tail _ (List.Mem.tail _ (h))|exact fun _ h=>List.Mem.tail _ (List.Mem.tail _ (List.Mem.tail _ (h)))|exact fun _ h=>List.Mem.tail _ (List.Mem.tail _ (List.Mem.tail _ (List.Mem.tail _ (h))))|((repeat (first|exact a1f|refine a1m zdm ?_)) <;> exact a1f)) (hB:B=w0.heap.size:=by exact rfl):Hold B Mr Dr w':=_h.next hF hM hD hB
theorem zry {P:Program} {md:Region.Mode} {ops:Array Oper} {Q:Exit→Act→World→Prop} {S:World→Prop} {fuel:Nat} {listed:Array Bool} {a:Act} {o:Oper} {w:World} (i:Nat) (h:∀ K':Act→World→Prop,Shut (∀ a w,S w→wpAnyH P md ops Q S fuel (listed.setIfInBounds i true) a w→K' a w)→wpList P ops (Exit.then K' Q) [o] a w) (hr:Region.ready md ops listed=[i]:=by kernel_rfl) (ho:ops.toList[i]?=some o:=by exact rfl):wpAnyH P md ops Q S (fuel+1) listed a w:=wpAnyH_ready (rs:=[i]) hr (by simp) (a2d ho h AllReadyH.nil)
theorem zrz {P:Program} {md:Region.Mode} {ops:Array Oper} {Q:Exit→Act→World→Prop} {S:World→Prop} {fuel:Nat} {listed:Array Bool} {a:Act} {w:World} (h:Q .normal a w) (hr:Region.ready md ops listed=[]:=by kernel_rfl):wpAnyH P md ops Q S fuel listed a w:=wpAnyH_done hr h _
end
section
open Go.RowKit
theorem Rows.set1 {α:Type} {f:List α→List Value} {cells:α→List Value} {sz:Nat} [H:Rows f cells sz] {q:List α} {k:Nat} {v r:α} (h:q[k]?=some v) {i:Nat} {u:Value} (hi:i<sz) (hc:cells r=(cells v).set i u):(f q).set (k * sz+i) u=f (q.set k r):=by
 obtain ⟨hl,e⟩:=List.getElem?_eq_some_iff.1 h
 have hlen:(f (q.take k)).length=k * sz:=by rw [H.length,List.length_take,Nat.min_eq_left (by omega)]
 have e1:f q=f (q.take k)++(cells v++f (q.drop (k+1))):=by
  conv=>lhs;rw [← List.take_append_drop k q,List.drop_eq_getElem_cons hl,e]
  rw [H.append,show v::q.drop (k+1)=[v]++q.drop (k+1) from rfl,H.append,H.single]
 have e2:f (q.set k r)=f (q.take k)++(cells r++f (q.drop (k+1))):=by
  rw [List.set_eq_take_append_cons_drop,if_pos hl,H.append,show r::q.drop (k+1)=[r]++q.drop (k+1) from rfl,H.append,H.single]
 rw [e1,e2,List.set_append_right _ _ (by omega),hlen,Nat.add_sub_cancel_left,List.set_append_left _ _ (by rw [H.len];exact hi),hc]
section
variable {P:Program} {ops:Array Oper} {rest:List Oper} {o:Oper} {a:Act} {Q:Exit→Act→World→Prop} {S:World→Prop}
theorem f9z {w:World} {x y:Operand} {t t':TypeId} {p q:ByteArray} (ho:o.op = .binOp .add t x y t') (hx:a1b a x=some (.string p)) (hy:a1b a y=some (.string q)) (hs:p.size+q.size≤9223372036854775807):(execOp a.eval o).run P w = .ok (.value (.string (p++q))) w:=by
 replace hx:=look_eval hx
 replace hy:=look_eval hy
 unfold execOp
 simp [ho,hx,hy,eqGuard,binOp_string_add,run_string_add_sum w p q hs]
theorem b4o {x y:Operand} {t t':TypeId} {p q:ByteArray} (ho:o.op = .binOp .add t x y t') (hx:a1b a x=some (.string p)) (hy:a1b a y=some (.string q)) (hs:p.size+q.size≤9223372036854775807:=by first|omega|(simp only [ByteArray.size_append,c2x];omega)) (hw:Region.wanted o (yielded ops a.tmps)=true:=by rfl) :
  YieldsIf P ops S o (.string (p++q)) a:=a1u hw fun w=>f9z ho hx hy hs
theorem b4p {x y:Operand} {t t':TypeId} {p q r:Int} (ho:o.op = .binOp .add t x y t') (hx:a1b a x=some (.int .i64 p)) (hy:a1b a y=some (.int .i64 q)) (hr:p+q=r:=by assumption) (h1 : -9223372036854775808≤r:=by omega) (h2:r≤9223372036854775807:=by omega) (hw:Region.wanted o (yielded ops a.tmps)=true:=by rfl) :
  YieldsIf P ops S o (.int .i64 r) a:=a1u hw fun w=>by
 replace hx:=look_eval hx
 replace hy:=look_eval hy
 subst hr
 unfold execOp
 have hwrap:IntKind.i64.wrap (p+q)=p+q:=by simp only [IntKind.wrap,IntKind.bits,IntKind.signed];simp;omega
 simp only [ho,hx,hy]
 go_simp
end
end
section
open Go.RowKit
theorem g1a (l:List Nat):∀ u∈u32v l,u.oneCell'=true:=fun u hu=>by
 obtain ⟨x,_,rfl⟩:=List.mem_map.1 hu
 rfl
instance u32vOneC (l:List Nat):OneC (u32v l):=⟨g1a l⟩
theorem d1i {l:List Nat} {k x:Nat} (h:l[k]?=some x):(u32v l)[k * 1]?=some (.int .u32 (x:Int)):=by rw [Nat.mul_one];simp [u32v,h]
theorem Rd.u32vlen {w:World} {B n c:Nat} {A:Option Addr} {l:List Nat} (h:Rd w B 1 A n c (u32v l)):l.length=n:=by have:=h.len;rw [u32v_len] at this;omega
theorem g1b (l:List Nat) (k:Nat):(u32v l).take k=u32v (l.take k):=by simp [u32v,List.map_take]
end
section
open Go.RowKit
def TailFree (T:List Nat) (listed:Array Bool):Prop:=∀ t∈T,listed.getD t false=false
theorem a4w {T:List Nat} {listed:Array Bool} {p:Prop} (t:Nat) (ht:T.contains t=true) (hl:listed.getD t false=true):TailFree T listed→p:=fun h=>by
 have:=h t (by simpa using ht)
 rw [hl] at this
 cases this
theorem TailFree.of_set {T:List Nat} {listed:Array Bool} {i:Nat} (h:TailFree T (listed.setIfInBounds i true)):TailFree T listed:=fun t ht=>by
 have h1:=h t ht
 cases h2:listed.getD t false with
 | false=>rfl
 | true=>rw [getD_set_true h2] at h1;cases h1
theorem TailFree.set {T:List Nat} {listed:Array Bool} {i:Nat} (h:TailFree T listed) (hi:i ∉ T):TailFree T (listed.setIfInBounds i true):=fun t ht=>by
 have hne:i≠t:=fun e=>hi (by rw [e];exact ht)
 rw [getD_set_ne false hne]
 exact h t ht
def Closed (md:Region.Mode) (ops:Array Oper) (listed:Array Bool):Prop:=∀ (j:Nat) (o:Oper),ops[j]?=some o→listed.getD j false=true → ∀ e∈o.after,Region.binds md e=true→listed.getD e.on false=true
def a7w (md:Region.Mode) (ops:Array Oper) (listed:Array Bool):Bool:=(List.range ops.size).all fun j=>!listed.getD j false || ((ops[j]?).map (·.after.all fun e=>!Region.binds md e || listed.getD e.on false)).getD true
theorem g1c {md:Region.Mode} {ops:Array Oper} {listed:Array Bool} (h:a7w md ops listed=true):Closed md ops listed:=fun j o ho hl e he hb=>by
 unfold a7w at h
 rw [List.all_eq_true] at h
 have h1:=h j (List.mem_range.2 (Array.getElem?_eq_some_iff.1 ho).1)
 simp only [ho,hl,Option.map_some,Option.getD_some,Bool.not_true,Bool.false_or,Array.all_eq_true_iff_forall_mem] at h1
 have h2:=h1 e he
 simpa [hb] using h2
theorem Closed.set {md:Region.Mode} {ops:Array Oper} {listed:Array Bool} (h:Closed md ops listed) {j:Nat} (hj:j∈Region.ready md ops listed):Closed md ops (listed.setIfInBounds j true):=fun k o ho hl e he hb=>by
 by_cases hkj:k=j
 ·subst hkj
  obtain ⟨_,o',ho',hall⟩:=mem_ready.1 hj
  rw [ho] at ho'
  injection ho' with ho'
  subst ho'
  exact getD_set_true (hall e he hb)
 ·rw [getD_set_ne false (Ne.symm hkj)] at hl
  exact getD_set_true (h k o ho hl e he hb)
def behind (md:Region.Mode) (ops:Array Oper) (i:Nat):Nat→Nat→Bool
 | 0,_=>false
 | f+1,t=>match ops[t]? with
  | none=>false
  | some o=>o.after.any fun e=>Region.binds md e && (e.on == i || behind md ops i f e.on)
theorem d1j {md:Region.Mode} {ops:Array Oper} {i:Nat} {listed:Array Bool} (hc:Closed md ops listed):∀ (f t:Nat),behind md ops i f t=true→listed.getD t false=true→listed.getD i false=true
 | 0,t,h,_=>by cases h
 | f+1,t,h,hl=>by
  unfold behind at h
  split at h
  ·cases h
  ·rename_i o ho
   obtain ⟨e,he,hb⟩:=Array.any_eq_true'.1 h
   simp only [Bool.and_eq_true,Bool.or_eq_true,beq_iff_eq] at hb
   have h1:=hc t o ho hl e he hb.1
   rcases hb.2 with h2|h2
   ·rwa [h2] at h1
   ·exact d1j hc f e.on h2 h1
theorem c3q {listed:Array Bool} {i:Nat} (h:listed.getD i true=false):listed.getD i false=false:=by
 rcases Nat.lt_or_ge i listed.size with h'|h'
 ·simp [h'] at h ⊢;exact h
 ·simp [Array.getElem?_eq_none h'] at h
section
variable {P:Program} {ops:Array Oper} {Q:Exit→Act→World→Prop} {md:Region.Mode} {S:World→Prop} {T:List Nat} {a:Act} {w:World} {fuel:Nat} {listed:Array Bool} {o:Oper}
def a3i (P:Program) (md:Region.Mode) (ops:Array Oper) (Q:Exit→Act→World→Prop) (S:World→Prop) (T:List Nat):Nat→Array Bool→Act→World→Prop
 | 0,listed,a,w=>Region.ready md ops listed=[]∧Q .normal a w
 | fuel+1,listed,a,w=>(Region.ready md ops listed=[]→Q .normal a w) ∧
  ∀ i∈Region.ready md ops listed,wpOp P ops Q i (fun a' w'=>(TailFree T (listed.setIfInBounds i true)→S w')∧a3i P md ops Q S T fuel (listed.setIfInBounds i true) a' w') a w
theorem d1k : ∀ (fuel:Nat) (listed:Array Bool) (a:Act) (w:World),a3i P md ops Q S T fuel listed a w→wpAny P md ops Q fuel listed a w
 | 0,_,_,_,h=>h
 | fuel+1,_,_,_,h=>⟨h.1,fun i hi=>wpOp_mono (fun a' w' h'=>d1k fuel _ a' w' h'.2) (h.2 i hi)⟩
theorem g1d {i:Nat} {oi:Oper} {v:Value} (hi:ops[i]?=some oi) (hsel:∀ (j:Nat) (o:Oper) cs b,ops[j]?=some o→o.op ≠ .select cs b)
  (hQ:∀ c a w,Q (.panic c) (a.put oi.dst v) w→Q (.panic c) a w) (hiT:i ∉ T) (hT:∀ t∈T,behind md ops i ops.size t=true) :
  ∀ (fuel:Nat) (listed:Array Bool) (a:Act) (w:World),Closed md ops listed →
   (∀ j oj,ops[j]?=some oj→j≠i→listed.getD j true=false→(∀ e∈oj.after,Region.binds md e=true→e.on≠i)→oi.apart ops oj=true) →
   i∈Region.ready md ops listed→YieldsIf P ops S oi v a→S w →
   a3i P md ops Q S T fuel (listed.setIfInBounds i true) (a.put oi.dst v) w→a3i P md ops Q S T (fuel+1) listed a w:=by
 intro fuel
 induction fuel with
 | zero=>
  intro listed a w _ _ hr hy hS H
  refine ⟨fun h=>(by rw [h] at hr;cases hr),fun j hj=>?_⟩
  by_cases hji:j=i
  ·subst hji;exact hy.wpOp hi hS ⟨fun _=>hS,H⟩
  ·have:=ready_mono hj hji
   rw [H.1] at this
   cases this
 | succ fuel ih=>
  intro listed a w hcl hfree hr hy hS H
  refine ⟨fun h=>(by rw [h] at hr;cases hr),fun j hj=>?_⟩
  by_cases hji:j=i
  ·subst hji;exact hy.wpOp hi hS ⟨fun _=>hS,H⟩
  ·have h1:=H.2 j (ready_mono hj hji)
   obtain ⟨hjun,oj,hoj,hall⟩:=mem_ready.1 hj
   have hiun:=(mem_ready.1 hr).1
   have hnot:∀ e∈oj.after,Region.binds md e=true→e.on≠i:=fun e he hb heq=>by
    have h1:=hall e he hb
    rw [heq,c3q hiun] at h1
    cases h1
   have h2:=wpOp_putIf hoj (hfree j oj hoj hji hjun hnot) (fun cs b=>hsel i oi cs b hi) (fun cs b=>hsel j oj cs b hoj) hQ hy h1
   have hcl':=hcl.set hj
   have hr':=ready_mono hr (Ne.symm hji)
   have hfree':∀ k ok,ops[k]?=some ok→k≠i→(listed.setIfInBounds j true).getD k true=false →
     (∀ e∈ok.after,Region.binds md e=true→e.on≠i)→oi.apart ops ok=true:=fun k ok hk hki hun hno=>by
    refine hfree k ok hk hki ?_ hno
    by_cases hjk:j=k
    ·subst hjk;exact hjun
    ·rw [getD_set_ne true hjk] at hun;exact hun
   have htf:TailFree T (listed.setIfInBounds j true):=fun t ht=>by
    cases h3:(listed.setIfInBounds j true).getD t false with
    | false=>rfl
    | true=>
     have:=d1j hcl' _ _ (hT t ht) h3
     rw [c3q (mem_ready.1 hr').1] at this
     cases this
   refine wpOp_mono (fun a' w' h3=>?_) h2
   have hS':S w':=h3.2.1 (by rw [Array.setIfInBounds_comm _ _ (Ne.symm hji)];exact htf.set hiT)
   refine ⟨fun _=>hS',ih (listed.setIfInBounds j true) a' w' hcl' hfree' hr' h3.1 hS' ?_⟩
   rw [Array.setIfInBounds_comm _ _ hji]
   exact h3.2.2
theorem g1e {i:Nat} {oi:Oper} {v:Value} (hi:ops[i]?=some oi) (hsel:∀ (j:Nat) (o:Oper) cs b,ops[j]?=some o→o.op ≠ .select cs b)
  (hQ:∀ c a w,Q (.panic c) (a.put oi.dst v) w→Q (.panic c) a w) (hiT:i ∉ T) :
  ∀ (fuel:Nat) (listed:Array Bool) (a:Act) (w:World),
   (∀ j oj,ops[j]?=some oj→j≠i→listed.getD j true=false→(∀ e∈oj.after,Region.binds md e=true→e.on≠i)→oi.apart ops oj=true) →
   i∈Region.ready md ops listed→YieldsIf P ops (fun _=>True) oi v a→(TailFree T listed→S w) →
   a3i P md ops Q S T fuel (listed.setIfInBounds i true) (a.put oi.dst v) w→a3i P md ops Q S T (fuel+1) listed a w:=by
 intro fuel
 induction fuel with
 | zero=>
  intro listed a w _ hr hy hS H
  refine ⟨fun h=>(by rw [h] at hr;cases hr),fun j hj=>?_⟩
  by_cases hji:j=i
  ·subst hji;exact hy.wpOp hi trivial ⟨fun h=>hS h.of_set,H⟩
  ·have:=ready_mono hj hji
   rw [H.1] at this
   cases this
 | succ fuel ih=>
  intro listed a w hfree hr hy hS H
  refine ⟨fun h=>(by rw [h] at hr;cases hr),fun j hj=>?_⟩
  by_cases hji:j=i
  ·subst hji;exact hy.wpOp hi trivial ⟨fun h=>hS h.of_set,H⟩
  ·have h1:=H.2 j (ready_mono hj hji)
   obtain ⟨hjun,oj,hoj,hall⟩:=mem_ready.1 hj
   have hiun:=(mem_ready.1 hr).1
   have hnot:∀ e∈oj.after,Region.binds md e=true→e.on≠i:=fun e he hb heq=>by
    have h1:=hall e he hb
    rw [heq,c3q hiun] at h1
    cases h1
   have h2:=wpOp_putIf hoj (hfree j oj hoj hji hjun hnot) (fun cs b=>hsel i oi cs b hi) (fun cs b=>hsel j oj cs b hoj) hQ hy h1
   have hfree':∀ k ok,ops[k]?=some ok→k≠i→(listed.setIfInBounds j true).getD k true=false →
     (∀ e∈ok.after,Region.binds md e=true→e.on≠i)→oi.apart ops ok=true:=fun k ok hk hki hun hno=>by
    refine hfree k ok hk hki ?_ hno
    by_cases hjk:j=k
    ·subst hjk;exact hjun
    ·rw [getD_set_ne true hjk] at hun;exact hun
   refine wpOp_mono (fun a' w' h3=>?_) h2
   have hS':TailFree T (listed.setIfInBounds j true)→S w':=fun h4=>h3.2.1 (by rw [Array.setIfInBounds_comm _ _ (Ne.symm hji)];exact h4.set hiT)
   refine ⟨hS',ih (listed.setIfInBounds j true) a' w' hfree' (ready_mono hr (Ne.symm hji)) h3.1 hS' ?_⟩
   rw [Array.setIfInBounds_comm _ _ hji]
   exact h3.2.2
theorem a7j (hr:Region.ready md ops listed=[]) (h:Q .normal a w):∀ fuel,a3i P md ops Q S T fuel listed a w
 | 0=>⟨hr,h⟩
 | _+1=>⟨fun _=>h,by rw [hr];simp⟩
def AllReadyT (P:Program) (md:Region.Mode) (ops:Array Oper) (Q:Exit→Act→World→Prop) (S:World→Prop) (T:List Nat) (fuel:Nat) (listed:Array Bool) (a:Act) (w:World) (rs:List Nat):Prop :=
 ∀ i∈rs,wpOp P ops Q i (fun a' w'=>(TailFree T (listed.setIfInBounds i true)→S w')∧a3i P md ops Q S T fuel (listed.setIfInBounds i true) a' w') a w
theorem AllReadyT.nil : AllReadyT P md ops Q S T fuel listed a w []:=fun _ h=>by cases h
theorem a2u {rs:List Nat} (hr:Region.ready md ops listed=rs) (hne:rs≠[]) (h:AllReadyT P md ops Q S T fuel listed a w rs):a3i P md ops Q S T (fuel+1) listed a w :=
 ⟨fun h0=>absurd (hr ▸ h0) hne,hr ▸ h⟩
theorem a2v {i:Nat} {rs:List Nat} (ho:ops.toList[i]?=some o)
  (h:∀ K':Act→World→Prop,Shut (∀ a w,(TailFree T (listed.setIfInBounds i true)→S w)→a3i P md ops Q S T fuel (listed.setIfInBounds i true) a w→K' a w)→wpList P ops (Exit.then K' Q) [o] a w)
  (hs:AllReadyT P md ops Q S T fuel listed a w rs):AllReadyT P md ops Q S T fuel listed a w (i::rs):=fun j hj=>by
 rw [Array.getElem?_toList] at ho
 rcases List.mem_cons.1 hj with rfl|hj
 ·have h1:=h (fun a' w'=>(TailFree T (listed.setIfInBounds j true)→S w')∧a3i P md ops Q S T fuel (listed.setIfInBounds j true) a' w') (fun a w hS hW=>⟨hS,hW⟩)
  unfold wpOp
  simp only [ho]
  unfold wpList at h1
  split
  ·rename_i hw
   rw [if_pos hw] at h1
   rcases h1 with h1|⟨h1,b,w2,h2⟩
   ·exact .inl (Oper.wp_then h1)
   ·exact .inr ⟨h1,b,w2,h2⟩
  ·rename_i hw
   rw [if_neg hw] at h1
   exact h1
 ·exact hs j hj
theorem a7k {id:Nat} {w0:World} {D0 D:List Da} {M:List Mu} (T:List Nat) (hm:P.follows .mixedOrders=true) (hF:St w0 D0 w M D) (Mr:List Mu) (Dr:List Da) (hM:∀ m∈Mr,m∈M) (hD:∀ d∈Dr,d∈D)
  (h:St w0 D0 w.drew M D→Hold w0.heap.size Mr Dr w.drew→a3i P .any ops Q (Hold w0.heap.size Mr Dr) T ops.size (Array.replicate ops.size false) a w.drew):(Code.region id ops true).wp P Q a w :=
 wp_region_any hm (d1k _ _ _ _ (h (hF.grow (Bel.drew w)) ((hF.grow (Bel.drew w)).hold hM hD)))
theorem b9i {i t:Nat} {v:Value} (hi:ops.toList[i]?=some o) (hy:YieldsIf P ops S o v a) (hS:S w)
  (h:a3i P md ops Q S T fuel (listed.setIfInBounds i true) { a with tmps:=a.tmps.setIfInBounds t v } w) (hd:o.dst=some t:=by rfl)
  (hs:Region.noSelect ops=true:=by kernel_rfl) (hf:Region.free md ops listed i=true:=by kernel_rfl) (hr:(Region.ready md ops listed).contains i=true:=by kernel_rfl) (hcl:a7w md ops listed=true:=by kernel_rfl)
  (hT:(!T.contains i && T.all fun t=>behind md ops i ops.size t)=true:=by kernel_rfl) (hQ:∀ c a w,Q (.panic c) (a.put o.dst v) w→Q (.panic c) a w:=by exact fun _ _ _ h=>h):a3i P md ops Q S T (fuel+1) listed a w:=by
 rw [Array.getElem?_toList] at hi
 simp only [Bool.and_eq_true,Bool.not_eq_true',List.all_eq_true] at hT
 refine g1d hi (Region.noSelect_spec hs) hQ (by simpa using hT.1) hT.2 fuel listed a w (g1c hcl) (Region.free_spec hi hf) (by simpa using hr) hy hS ?_
 rw [hd]
 exact h
theorem a8p {i t:Nat} {v:Value} (hi:ops.toList[i]?=some o) (hy:YieldsIf P ops (fun _=>True) o v a) (hS:TailFree T listed→S w)
  (h:a3i P md ops Q S T fuel (listed.setIfInBounds i true) { a with tmps:=a.tmps.setIfInBounds t v } w) (hd:o.dst=some t:=by rfl)
  (hs:Region.noSelect ops=true:=by kernel_rfl) (hf:Region.free md ops listed i=true:=by kernel_rfl) (hr:(Region.ready md ops listed).contains i=true:=by kernel_rfl)
  (hT:(!T.contains i)=true:=by kernel_rfl) (hQ:∀ c a w,Q (.panic c) (a.put o.dst v) w→Q (.panic c) a w:=by exact fun _ _ _ h=>h):a3i P md ops Q S T (fuel+1) listed a w:=by
 rw [Array.getElem?_toList] at hi
 refine g1e hi (Region.noSelect_spec hs) hQ (by simpa using hT) fuel listed a w (Region.free_spec hi hf) (by simpa using hr) hy hS ?_
 rw [hd]
 exact h
end
section
variable {P:Program} {md:Region.Mode} {ops:Array Oper} {o:Oper} {a a1:Act} {Q:Exit→Act→World→Prop} {S:World→Prop} {T:List Nat} {t i fuel:Nat} {v:Value} {listed:Array Bool} {w:World}
theorem zTE (hd:o.dst=some t:=by rfl) (hs:Region.noSelect ops=true:=by kernel_rfl) (hf:Region.free md ops listed i=true:=by kernel_rfl) (hr:(Region.ready md ops listed).contains i=true:=by kernel_rfl) (hcl:a7w md ops listed=true:=by kernel_rfl) (hT:(!T.contains i && T.all fun t=>behind md ops i ops.size t)=true:=by kernel_rfl) (hQ:∀ c a w,Q (.panic c) (a.put o.dst v) w→Q (.panic c) a w:=by exact fun _ _ _ h=>h) (ha:({ a with tmps:=a.tmps.setIfInBounds t v }:Act)=a1:=by first|(simp only [zA,Nat.reduceAdd];exact rfl)|(simp only [zA,Nat.reduceAdd];done)|exact rfl):ZE md ops o a Q t v listed i a1∧a7w md ops listed=true∧(!T.contains i && T.all fun t=>behind md ops i ops.size t)=true:=⟨⟨hd,hs,hf,hr,hQ,ha⟩,hcl,hT⟩
theorem zt (hS:S w) (h:a3i P md ops Q S T fuel (listed.setIfInBounds i true) a1 w) (hi:ops.toList[i]?=some o) (hy:YieldsIf P ops S o v a) (e:ZE md ops o a Q t v listed i a1∧a7w md ops listed=true∧(!T.contains i && T.all fun t=>behind md ops i ops.size t)=true):a3i P md ops Q S T (fuel+1) listed a w:=b9i hi hy hS (e.1.ha ▸ h) e.1.hd e.1.hs e.1.hf e.1.hr e.2.1 e.2.2 e.1.hQ
theorem zt0 (i:Nat) (hS:S w) (h:a3i P md ops Q S T fuel (listed.setIfInBounds i true) a1 w) (hi:ops.toList[i]?=some o:=by exact rfl) (hy:YieldsIf P ops S o v a:=by first|exact b6t rfl rfl|exact b6u rfl rfl) (e:ZE md ops o a Q t v listed i a1∧a7w md ops listed=true∧(!T.contains i && T.all fun t=>behind md ops i ops.size t)=true:=by exact zTE):a3i P md ops Q S T (fuel+1) listed a w:=zt hS h hi hy e
theorem zt1 (i:Nat) (hS:S w) (h:a3i P md ops Q S T fuel (listed.setIfInBounds i true) a1 w) (hi:ops.toList[i]?=some o:=by exact rfl) (hy:YieldsIf P ops S o v a:=by first|exact a5d rfl rfl|exact a5z rfl rfl|exact y_ldp rfl rfl|exact a6a rfl rfl|exact a3j rfl rfl|exact a3j rfl rfl (hu:=by assumption)) (e:ZE md ops o a Q t v listed i a1∧a7w md ops listed=true∧(!T.contains i && T.all fun t=>behind md ops i ops.size t)=true:=by exact zTE):a3i P md ops Q S T (fuel+1) listed a w:=zt hS h hi hy e
theorem zt2 (i:Nat) (hS:S w) (h:a3i P md ops Q S T fuel (listed.setIfInBounds i true) a1 w) (hi:ops.toList[i]?=some o:=by exact rfl) (hy:YieldsIf P ops S o v a:=by first|exact b9g rfl rfl rfl|exact b9h rfl rfl rfl) (e:ZE md ops o a Q t v listed i a1∧a7w md ops listed=true∧(!T.contains i && T.all fun t=>behind md ops i ops.size t)=true:=by exact zTE):a3i P md ops Q S T (fuel+1) listed a w:=zt hS h hi hy e
theorem zt3 (i:Nat) (hS:S w) (h:a3i P md ops Q S T fuel (listed.setIfInBounds i true) a1 w) (hi:ops.toList[i]?=some o:=by exact rfl) (hy:YieldsIf P ops S o v a:=by first|exact a5d rfl rfl (hv:=by with_reducible assumption)|exact a5d rfl rfl|exact a5z rfl rfl|exact y_ldp rfl rfl|exact a6a rfl rfl|exact a3j rfl rfl|exact a3j rfl rfl (hu:=by assumption)) (e:ZE md ops o a Q t v listed i a1∧a7w md ops listed=true∧(!T.contains i && T.all fun t=>behind md ops i ops.size t)=true:=by exact zTE):a3i P md ops Q S T (fuel+1) listed a w:=zt hS h hi hy e
theorem zt4 (i:Nat) (hS:S w) (h:a3i P md ops Q S T fuel (listed.setIfInBounds i true) a1 w) (hi:ops.toList[i]?=some o:=by exact rfl) (hy:YieldsIf P ops S o v a:=by exact b9f rfl rfl) (e:ZE md ops o a Q t v listed i a1∧a7w md ops listed=true∧(!T.contains i && T.all fun t=>behind md ops i ops.size t)=true:=by exact zTE):a3i P md ops Q S T (fuel+1) listed a w:=zt hS h hi hy e
end
theorem zq {P:Program} {md:Region.Mode} {ops:Array Oper} {o:Oper} {a:Act} {Q:Exit→Act→World→Prop} {S:World→Prop} {T:List Nat} {t fuel:Nat} {v:Value} {a1:Act} {listed:Array Bool} {w:World} (i:Nat) (hS:S w) (h:a3i P md ops Q S T fuel (listed.setIfInBounds i true) a1 w) (hi:ops.toList[i]?=some o:=by exact rfl) (hd:o.dst=some t:=by rfl) (hs:Region.noSelect ops=true:=by kernel_rfl) (hf:Region.free md ops listed i=true:=by kernel_rfl) (hr:(Region.ready md ops listed).contains i=true:=by kernel_rfl) (hcl:a7w md ops listed=true:=by kernel_rfl) (hT:(!T.contains i && T.all fun t=>behind md ops i ops.size t)=true:=by kernel_rfl) (hQ:∀ c a w,Q (.panic c) (a.put o.dst v) w→Q (.panic c) a w:=by exact fun _ _ _ h=>h) (hy:YieldsIf P ops S o v a:=by first|exact a6t a4g (by rfl)|(apply a1u;(· rfl);(intro w;go_simp;done))|(apply a1u;(· rfl);(intro w;go_simp;with_reducible rfl))|(apply a1u;(· rfl);(intro w;simp only [Wy.cells];go_simp;with_reducible rfl))) (ha:({ a with tmps:=a.tmps.setIfInBounds t v }:Act)=a1:=by first|(simp only [zA,Nat.reduceAdd];exact rfl)|(simp only [zA,Nat.reduceAdd];done)|exact rfl):a3i P md ops Q S T (fuel+1) listed a w:=b9i hi hy hS (ha ▸ h) hd hs hf hr hcl hT hQ
end
section
open Go.RowKit
def b6x (a:Act):List (Nat × Operand)→Option (List (Nat × Value))
 | []=>some []
 | x::r=>match a1b a x.2,b6x a r with
  | some v,some vs=>some ((x.1,v)::vs)
  | _,_=>none
theorem d1l {a:Act}:∀ {l:List (Nat × Operand)} {vs:List (Nat × Value)},b6x a l=some vs→l.map (fun x=>(x.1,a.eval x.2))=vs
 | [],vs,h=>Option.some.inj h
 | x::r,vs,h=>by
  unfold b6x at h
  split at h
  ·rename_i v ws hv hw
   injection h with h
   rw [← h,List.map_cons,d1l hw,look_eval hv]
  ·cases h
section
variable {P:Program} {ops:Array Oper} {rest:List Oper} {o:Oper} {a:Act} {Q:Exit→Act→World→Prop} {w:World} {S:World→Prop}
theorem g1f {t:TypeId} {parts:Array (Nat × Operand)} {vs:List (Nat × Value)} {cs:List Value} (ho:o.op = .build t parts) (hl:b6x a parts.toList=some vs) (hb:P.built t vs=some cs.toArray) :
  (execOp a.eval o).run P w = .ok (.value (.agg cs.toArray)) w:=by
 have hp:(parts.map fun (x:Nat × Operand)=>(x.1,a.eval x.2)).toList=vs:=by
  rw [Array.toList_map];exact d1l hl
 have hr:=run_build (P:=P) w t (parts.map fun (x:Nat × Operand)=>(x.1,a.eval x.2)) cs.toArray (by rw [hp];exact hb)
 unfold execOp
 simp only [ho]
 simp only [Sem.run_bind,hr,Result.andThen_ok,Sem.run_pure]
theorem w_build {t:TypeId} {parts:Array (Nat × Operand)} {vs:List (Nat × Value)} {cs:List Value} (ho:o.op = .build t parts) (hl:b6x a parts.toList=some vs) (hb:P.built t vs=some cs.toArray)
  (h:wpList P ops Q rest (a.put o.dst (.agg cs.toArray)) w) (hw:Region.wanted o (yielded ops a.tmps)=true:=by rfl):wpList P ops Q (o::rest) a w:=by
 refine a2c hw fun K hK=>?_
 unfold Oper.wp
 rw [g1f ho hl hb]
 exact hK _ _ h
theorem b3f {t e:TypeId} {n k:Nat} {ki:IntKind} {x ix:Operand} {cs:List Value} {v:Value} (ho:o.op = .index t x ix) (hx:a1b a x=some (.agg cs.toArray)) (hk:a1b a ix=some (.int ki (k:Int)))
  (ht:P.underlying t=some (.array n e)) (he:∃ d,P.underlying e=some d∧(∀ fs,d ≠ .struct fs)∧(∀ m f,d ≠ .array m f)) (hs:(P.info? e).map (·.size)=some 1) (h:wpList P ops Q rest (a.put o.dst v) w)
  (hkn:k<n:=by decide) (hv:cs[k]?=some v:=by exact rfl) (hw:Region.wanted o (yielded ops a.tmps)=true:=by rfl):wpList P ops Q (o::rest) a w:=by
 replace hx:=look_eval hx
 replace hk:=look_eval hk
 obtain ⟨d,hd,hd1,hd2⟩:=he
 refine a2c hw fun K hK=>?_
 have hsz:(sizeOf e).run P w = .ok 1 w:=by
  cases hq:P.info? e with
  | none=>simp [hq] at hs
  | some i=>
   simp only [hq,Option.map_some,Option.some.injEq] at hs
   simp [sizeOf,typeInfo,hq,hs]
 have hagg:(isAgg e).run P w = .ok false w:=by
  unfold isAgg
  rw [Sem.run_bind,run_underlying hd w]
  cases d <;> simp_all
 have hp:(part e cs.toArray k).run P w = .ok v w:=by
  unfold part
  rw [Sem.run_bind,hagg]
  simp [Result.andThen_ok,hv]
 have hk1:k * 1=k:=Nat.mul_one k
 have hrun:(Instr.index t (.agg cs.toArray) (.int ki (k:Int))).run P w = .ok v w:=by
  unfold Instr.index
  simp [run_underlying ht,asIntOf,hsz,hp,show (k:Int)<(n:Int) by omega]
  intro h;omega
 unfold Oper.wp execOp
 simp only [ho,hx,hk,hrun,Sem.run_bind,Sem.run_pure,Result.andThen_ok]
 exact hK _ _ h
end
end
section
open Go.RowKit
namespace Me
def a7l (k:Nat):Nat:=if k≤16 then 16 else if k≤32 then 32 else if k≤64 then 64 else if k≤128 then 128 else 256
def cleanL (l:List UInt8):List UInt8:=l.take 256++List.replicate (a7l (l.take 256).length - (l.take 256).length) 0
theorem cleanN_cases (k:Nat):a7l k=16∨a7l k=32∨a7l k=64∨a7l k=128∨a7l k=256:=by
 unfold a7l;repeat' split
 all_goals simp
theorem g1g {k:Nat} (h:k≤256):k≤a7l k:=by
 unfold a7l;repeat' split
 all_goals omega
theorem cleanL_len (l:List UInt8):(cleanL l).length=a7l (min 256 l.length):=by
 have:=g1g (k:=min 256 l.length) (by omega)
 simp only [cleanL,List.length_append,List.length_take,List.length_replicate];omega
theorem g1h : (Tryz.prog.info? 5).map (fun i=>(i.zero,i.size,i.bytes))=some (some (.int .u8 0),1,1):=by kernel_rfl
theorem g1i (k:Nat) (a:List UInt8) (h:a.length≤k):spl (a1z (List.replicate k 0)) 0 (a1z a)=a1z (a++List.replicate (k - a.length) 0):=by
 rw [b1r _ _ _ (by rw [a5k,a5k,List.length_replicate];omega),b8m,a5k]
 simp [a1z]
theorem g1j (k:Nat):(madeCells (Value.cells (.int .u8 0)) (k * 1)).toList=a1z (List.replicate k 0):=by
 rw [Nat.mul_one]
 refine (toList_madeCells_one _ _).trans ?_
 simp [a1z]
theorem d1m {n k:Nat} (hk:k=16∨k=32∨k=64∨k=128∨k=256) (hk2:k=16∨k<2 * n) (h:n≤k):a7l n=k:=by
 unfold a7l;rcases hk with h|h|h|h|h <;> subst h <;> (repeat' split) <;> omega
theorem d1n {M m:List UInt8} {k:Nat} (hM:M=m.take 256) (hk:a7l M.length=k):M++List.replicate (k - M.length) 0=cleanL m:=by
 subst hk hM;rfl
theorem d1o {a b:List UInt8} (h:a=b):Ending.returned (.string ⟨a.toArray⟩) = .returned (.string ⟨b.toArray⟩):=by rw [h]
theorem Clean_any (m:ByteArray) (w:World) (hm:m.size≤9223372036854775807) :
  Calls Tryz.prog 27 #[.string m] w fun e w'=>e = .returned (.string ⟨(cleanL m.data.toList).toArray⟩)∧Bel w w':=by
 obtain ⟨i0,hi,hz0,hz1,hz2⟩:=info_parts g1h
 have hend:∀ (k:Nat) (M:ByteArray) (W:World),M.size≤k→k≤256→Bk W w.heap.size 5 (spl (madeCells (Value.cells (.int .u8 0)) (k * 1)).toList 0 (a1z (M.data.toList.take (min M.size k)))) →
   Rd W W.heap.size 1 (some ⟨w.heap.size,0,none⟩) k k (a1z (M.data.toList++List.replicate (k - M.data.toList.length) 0)):=by
  intro k M W h1 h2 hb
  rw [g1j,List.take_of_length_le (by rw [b1q];omega),g1i _ _ (by rw [b1q];exact h1)] at hb
  have:=hb.rd (sz:=1) (n:=k) (c:=k) (o:=0) (by rw [a5k,List.length_append,List.length_replicate,b1q];omega) (Nat.le_refl _) (by unfold maxLen;omega)
  rwa [List.drop_zero,List.take_of_length_le (by rw [a5k,List.length_append,List.length_replicate,b1q];omega)] at this
 by_cases h:256<m.size
 ·go_enter Tryz.func27,Tryz.ntmps27
  go_wp2
  have hm1:=b8h m 0 256
  have hm2:=c2x m 0 256
  rw [List.drop_zero] at hm1
  generalize m.extract 0 256=M at *
  have hM:M.size≤256:=by omega
  have Hm:=Lib.hid hm1
  clear hm1 hm2
  go_loop [3] (fun z=>∃ k:Nat,(k=16∨k=32∨k=64∨k=128∨k=256)∧(k=16∨k<2 * M.size)∧z = .int .i64 (k:Int)) (fun z=>512 - (intOf z).toNat)
  case atStart=>exact ⟨16,by omega,by omega,rfl⟩
  case round=>
   obtain ⟨k,hk,hk2,rfl⟩:=hrel
   by_cases hlt:k<M.size
   ·go_wp2
    go_round
    case rel=>exact ⟨2 * k,by omega,by omega,by go_num⟩
    case measure=>first|(simp [intOf];done)|(simp [intOf];omega)
   ·have Hk:=Lib.hid (d1m hk hk2 (show M.size≤k by omega))
    have Hend:=Lib.hid (fun W=>hend k M W (by omega) (by omega))
    clear hend
    go_wp2_with ((first|(at_make;refine wpList_make_full _ rfl _ _ 104 (by rfl) w.heap.size 5 i0 (.int .u8 0) 1 Tryz.underlying104 hi hz0 hz1 _ _ _ _ k (by rfl) (by rfl) rfl rfl (by rw [hz2];omega) (by unfold maxLen;omega) (Nat.le_refl _) ?_;intro w1 hown hg;have hbk:=Bk.of_own hown rfl)|(refine c3d rfl _ _ 104 9 (by rfl) 5 Tryz.underlying104 (by rw [hi];simp [hz1]) w.heap.size 0 k k M (by rfl) (by rfl) 5 _ hbk (by have:=hown.1;omega) ?_;intro w2 hbk2 hg2)|refine c7b ?_))
    go_ret
    exact ⟨d1o (d1n Hm.out (by rw [b1q];exact Hk.out)),((Bel.refl w).grown hg (by simp)).grown hg2 (by simp)⟩
 ·go_enter Tryz.func27,Tryz.ntmps27
  go_wp2
  go_loop [3] (fun z=>∃ k:Nat,(k=16∨k=32∨k=64∨k=128∨k=256)∧(k=16∨k<2 * m.size)∧z = .int .i64 (k:Int)) (fun z=>512 - (intOf z).toNat)
  case atStart=>exact ⟨16,by omega,by omega,rfl⟩
  case round=>
   obtain ⟨k,hk,hk2,rfl⟩:=hrel
   by_cases hlt:k<m.size
   ·go_wp2
    go_round
    case rel=>exact ⟨2 * k,by omega,by omega,by go_num⟩
    case measure=>first|(simp [intOf];done)|(simp [intOf];omega)
   ·have Hk:=Lib.hid (d1m hk hk2 (show m.size≤k by omega))
    have Hend:=Lib.hid (fun W=>hend k m W (by omega) (by omega))
    clear hend
    go_wp2_with ((first|(at_make;refine wpList_make_full _ rfl _ _ 104 (by rfl) w.heap.size 5 i0 (.int .u8 0) 1 Tryz.underlying104 hi hz0 hz1 _ _ _ _ k (by rfl) (by rfl) rfl rfl (by rw [hz2];omega) (by unfold maxLen;omega) (Nat.le_refl _) ?_;intro w1 hown hg;have hbk:=Bk.of_own hown rfl)|(refine c3d rfl _ _ 104 9 (by rfl) 5 Tryz.underlying104 (by rw [hi];simp [hz1]) w.heap.size 0 k k m (by rfl) (by rfl) 5 _ hbk (by have:=hown.1;omega) ?_;intro w2 hbk2 hg2)|refine c7b ?_))
    go_ret
    exact ⟨d1o (d1n (by rw [List.take_of_length_le (by rw [b1q];omega)]) (by rw [b1q];exact Hk.out)),((Bel.refl w).grown hg (by simp)).grown hg2 (by simp)⟩
end Me
end
section
open Go.RowKit Go.Sort
theorem a6u (x:Nat) (w:World) (hx:x<4294967296) :
  Calls Tryz.prog 63 #[.int .u32 (x:Int)] w fun e w'=>e = .returned (.int .u32 ((x - x % 16:Nat):Int)) ∧ ∃ d,w'=w.drewN d:=by
 have h1:(0:Int)≤(x:Int) - (x:Int) % 16:=by omega
 go_enter Tryz.func63,Tryz.ntmps63
 go_wp2
 go_ret
 exact ⟨a2m (by omega),0,rfl⟩
theorem cTy : RowTy Tryz.prog 35 2:=⟨_,Tryz.underlying35,rfl,by kernel_rfl⟩
theorem d1p (ways:Int) (A:Option Addr) (n c x:Nat) (w:World) (hn:n=1∨n=2∨n=4) (hx:x<4294967296) :
  Calls Tryz.prog 139 #[.agg #[.int .i64 ways,.slice A n c],.int .u32 (x:Int)] w fun e w'=>e = .returned (.int .i64 ((x / 16 % n:Nat):Int))∧Bel w w':=by
 rcases hn with rfl|rfl|rfl
 all_goals
  go_enter Tryz.func139,Tryz.ntmps139
  go_wp2
  go_ret
  exact ⟨b6g (by omega),Bel.alloc _ _⟩
theorem c3r (A:Option Addr) (n c:Nat) (q:List Wy) (x:Nat) (w:World) (hr:Rd w w.heap.size 3 A n c (wys q)) (at':Nat) (b:Bool) (hb:(b=true ∧ ∃ v,At q x at' v ∧ ∀ j<at',∀ u,q[j]?=some u→u.line≠x)∨(b=false∧at'=0∧a9y q x)) :
  Calls Tryz.prog 140 #[.slice A n c,.int .u32 (x:Int)] w fun e w'=>e = .returned (.tuple #[.int .i64 (at':Int),.bool b])∧Bel w w':=by
 have hc1:=hr.le
 have hc2:=hr.mx
 unfold maxLen at hc2
 have Hn:=Lib.hid hr.wyslen
 have Hb:=Lib.hid hb
 clear hb
 go_enter Tryz.func140,Tryz.ntmps140
 go_wp2
 go_loopw [10] (fun i wr=>∃ k:Nat,k≤n∧i = .int .i64 (k:Int)∧(∀ j<k,∀ u,q[j]?=some u→u.line≠x)∧Bel w wr) (fun i _=>n - (intOf i).toNat)
 case atStart=>exact ⟨0,by omega,rfl,fun j h=>absurd h (by omega),Bel.refl w⟩
 case round=>
  obtain ⟨k,hk,rfl,hall,hbel⟩:=hrel
  have Hall:=Lib.hid hall
  clear hall
  by_cases hkn:k<n
  ·obtain ⟨hl,g,o,rfl,hg,hce⟩:=(hr.bel hbel).wyselem hkn
   replace hce:=Lib.hid hce
   have hat:q[k]?=some (q[k]'hl):=List.getElem?_eq_getElem hl
   obtain ⟨v,hv⟩:∃ v,q[k]'hl=v:=⟨_,rfl⟩
   rw [hv] at hce hat
   clear hv
   replace hat:=Lib.hid hat
   by_cases hx:v.line=x
   ·have hxb:((v.line:Int) == (x:Int))=true:=by simp [hx]
    have Hres:Hid (b=true∧at'=k):=by
     rcases Hb.out with ⟨hb1,u,ha,hf⟩|⟨hb1,_,hni⟩
     ·refine ⟨hb1,?_⟩
      rcases Nat.lt_trichotomy at' k with h|h|h
      ·exact absurd ha.line (Hall.out at' h u ha.is)
      ·exact h
      ·exact absurd hx (hf k h v hat.out)
     ·exact absurd hx (hni v (List.mem_iff_getElem?.2 ⟨k,hat.out⟩))
    clear hx
    go_wp2_with ((first|refine zg0 ?_|(refine b6l (by rfl) 101 (.tmp 7) (.tmp 14) (by rfl) wr.heap.size v.cells (by rfl) (by rfl) 101 b4b ?_ rfl wysTy v.one ?_;exact Bk.new wr _ b4b;intro w1 hk1 hs1 ho1 hbe1;have c0:w1.cell? ⟨wr.heap.size,0,none⟩=some (.int .u32 (v.line:Int)):=hk1.cell 0;clear hs1 ho1)))
    go_ret2
    obtain ⟨rfl,rfl⟩:=Hres.out
    exact ⟨rfl,hbel.trans (hbe1 _ (Bel.alloc _ _) (Nat.le_refl _))⟩
   ·have hxb:((v.line:Int) == (x:Int))=false:=by rw [beq_eq_false_iff_ne];omega
    replace hx:=Lib.hid hx
    go_wp2_with ((first|refine zg0 ?_|(refine b6l (by rfl) 101 (.tmp 7) (.tmp 14) (by rfl) wr.heap.size v.cells (by rfl) (by rfl) 101 b4b ?_ rfl wysTy v.one ?_;exact Bk.new wr _ b4b;intro w1 hk1 hs1 ho1 hbe1;have c0:w1.cell? ⟨wr.heap.size,0,none⟩=some (.int .u32 (v.line:Int)):=hk1.cell 0;clear hs1 ho1)))
    go_roundw
    case rel=>
     refine ⟨k+1,by omega,by go_num,fun j hj u hu=>?_,hbel.trans (hbe1 _ (Bel.alloc _ _) (Nat.le_refl _))⟩
     rcases Nat.lt_or_ge j k with h|h
     ·exact Hall.out j h u hu
     ·obtain rfl:j=k:=by omega
      have e:=hat.out
      rw [hu] at e
      injection e with e
      rw [e];exact hx.out
    case measure=>first|(simp [intOf];done)|(simp [intOf];omega)
  ·obtain rfl:k=n:=by omega
   have Hres:Hid (b=false∧at'=0):=by
    rcases Hb.out with ⟨hb1,u,ha,hf⟩|⟨hb1,h0,hni⟩
    ·have hl:=(List.getElem?_eq_some_iff.1 ha.is).1
     exact absurd ha.line (Hall.out at' (by have:=Hn.out;omega) u ha.is)
    ·exact ⟨hb1,h0⟩
   go_wp2
   go_ret2
   obtain ⟨rfl,rfl⟩:=Hres.out
   exact ⟨rfl,hbel⟩
end
section
open Go.RowKit
section
variable {P:Program} {ops:Array Oper} {rest:List Oper} {o:Oper} {a:Act} {Q:Exit→Act→World→Prop} {S:World→Prop}
theorem g1k {w:World} {x y:Operand} {t t':TypeId} {k:IntKind} {p q:Int} (ho:o.op = .binOp .neq t x y t') (hx:a1b a x=some (.int k p)) (hy:a1b a y=some (.int k q)) (hne:¬ (p=q)):(execOp a.eval o).run P w = .ok (.value (.bool true)) w:=by
 replace hx:=look_eval hx
 replace hy:=look_eval hy
 unfold execOp
 simp only [ho,hx,hy]
 go_simp
theorem g1l {w:World} {x y:Operand} {t t':TypeId} {k:IntKind} {p q:Int} (ho:o.op = .binOp .eql t x y t') (hx:a1b a x=some (.int k p)) (hy:a1b a y=some (.int k q)) (hne:¬ (p=q)):(execOp a.eval o).run P w = .ok (.value (.bool false)) w:=by
 replace hx:=look_eval hx
 replace hy:=look_eval hy
 unfold execOp
 simp only [ho,hx,hy]
 go_simp
theorem w_neqT {w:World} {x y:Operand} {t t':TypeId} {k:IntKind} {p q:Int} (ho:o.op = .binOp .neq t x y t') (hx:a1b a x=some (.int k p)) (hy:a1b a y=some (.int k q)) (h:wpList P ops Q rest (a.put o.dst (.bool true)) w) (hne:¬ (p=q):=by assumption) (hw:Region.wanted o (yielded ops a.tmps)=true:=by rfl):wpList P ops Q (o::rest) a w:=by
 refine a2c hw fun K hK=>?_
 unfold Oper.wp
 rw [g1k ho hx hy hne]
 exact hK _ _ h
theorem w_eqF {w:World} {x y:Operand} {t t':TypeId} {k:IntKind} {p q:Int} (ho:o.op = .binOp .eql t x y t') (hx:a1b a x=some (.int k p)) (hy:a1b a y=some (.int k q)) (h:wpList P ops Q rest (a.put o.dst (.bool false)) w) (hne:¬ (p=q):=by assumption) (hw:Region.wanted o (yielded ops a.tmps)=true:=by rfl):wpList P ops Q (o::rest) a w:=by
 refine a2c hw fun K hK=>?_
 unfold Oper.wp
 rw [g1l ho hx hy hne]
 exact hK _ _ h
inductive FldOne (P:Program) (s f off:Nat):Prop
 | mk (fs:Array Field) (fl:Field) (hu:P.underlying s=some (.struct fs)) (hf:fs[f]?=some fl) (ho:fl.offset=off) (h1:OneT P fl.type)
end
end
section
open Go.RowKit
namespace Wd
theorem g1m : (Tryz.prog.info? 5).map (fun i=>(i.zero,i.size,i.bytes))=some (some (.int .u8 0),1,1):=by kernel_rfl
theorem g1n {a b:Int} {c:Int} (h:a=b):Ending.returned (.tuple #[.int .u32 a,.int .i64 c]) = .returned (.tuple #[.int .u32 b,.int .i64 c]):=by rw [h]
theorem g1o {s:ByteArray} {k:Nat} (h:s.size≤4) (hlt:k<s.size) :
  bits BinOp.or IntKind.u32 ((a3s (s.data.toList.take k):Nat):Int) (((s[k]'hlt).toNat:Int) % 4294967296 * 2 ^ (8 * k) % 4294967296)=((a3s (s.data.toList.take (k+1)):Nat):Int):=by
 have hl:k<s.data.toList.length:=by simpa using hlt
 have hb:=(s[k]'hlt).toNat_lt
 have he:(s[k]'hlt)=s.data.toList[k]'hl:=rfl
 have h2:=f5w (b:=(s[k]'hlt).toNat) (by omega) (show k<4 by omega)
 rw [f5v hl,← he,← u32_or_nat _ _ (b8k (by simp;omega)) h2]
 congr 1
 rw [show (((s[k]'hlt).toNat:Nat):Int) % 4294967296=((s[k]'hlt).toNat:Int) by omega,b2x,← Int.natCast_mul]
 omega
theorem d1q (s:ByteArray) (w:World) (h:s.size≤4) :
  Calls Tryz.prog 169 #[.string s] w fun e w'=>e = .returned (.tuple #[.int .u32 (a3s s.data.toList:Int),.int .i64 0]) ∧ ∃ n,w'=w.drewN n:=by
 go_enter Tryz.func169,Tryz.ntmps169
 go_wp2
 go_loop [4,11] (fun x i=>∃ k:Nat,k≤s.size∧i = .int .i64 (k:Int)∧x = .int .u32 (a3s (s.data.toList.take k):Int)) (fun _ i=>s.size - (intOf i).toNat)
 case atStart=>exact ⟨0,by omega,rfl,rfl⟩
 case round=>
  obtain ⟨k,hk,rfl,rfl⟩:=hrel
  by_cases hlt:k<s.size
  ·have Hs:=Lib.hid (g1o h hlt)
   go_wp2
   go_round
   case rel=>exact ⟨k+1,by omega,by go_num,by rw [Hs.out]⟩
   case measure=>first|(simp [intOf];done)|(simp [intOf];omega)
  ·go_wp2
   go_ret2
   exact ⟨g1n (by rw [List.take_of_length_le (by simp;omega)]),0,rfl⟩
def a9i (x s k:Nat):List Value:=a1z (bytesL x k)++List.replicate (s - k) (.int .u8 0)
theorem g1p {x s k:Nat} (h:k≤s):(a9i x s k).length=s:=by simp [a9i,a5k,b3z];omega
theorem g1q {x s k:Nat} (h:k<s):(a9i x s k).set k (.int .u8 ((x / 2 ^ (8 * k) % 256:Nat):Int))=a9i x s (k+1):=by
 have hl:(a1z (bytesL x k)).length=k:=by rw [a5k,b3z]
 unfold a9i
 rw [List.set_append_right _ _ (by rw [hl];exact Nat.le_refl _),hl,Nat.sub_self,show s - k=(s - (k+1))+1 by omega,List.replicate_succ,List.set_cons_zero,f5t,b8m]
 simp [a1z]
theorem Bytes_any (x:Nat) (s:Nat) (w:World) (hx:x<4294967296) (h:s≤4) :
  Calls Tryz.prog 129 #[.int .u32 (x:Int),.int .i64 (s:Int)] w fun e w'=>e = .returned (.tuple #[.string ⟨(bytesL x s).toArray⟩,.int .i64 0])∧Bel w w':=by
 obtain ⟨i0,hi,hz0,hz1,hz2⟩:=info_parts g1m
 go_enter Tryz.func129,Tryz.ntmps129
 go_wp2_with (at_make;refine wpList_make_full _ rfl _ _ 104 (by rfl) w.heap.size 5 i0 (.int .u8 0) 1 Tryz.underlying104 hi hz0 hz1 _ _ _ _ s (by rfl) (by rfl) rfl rfl (by rw [hz2];omega) (by unfold maxLen;omega) (Nat.le_refl _) ?_;intro w1 hown hg)
 have hbel:Bel w w1:=(Bel.refl w).grown hg (by simp)
 have hlt:w.heap.size<w1.heap.size:=(hown.lt w.heap.size rfl).2
 rw [show (madeCells (Value.cells (.int .u8 0)) (s * 1)).toList=a9i x s 0 by rw [Nat.mul_one];exact toList_madeCells_one _ _] at hown
 go_loopw [17] (fun i wr=>∃ k:Nat,k≤s∧i = .int .i64 (k:Int)∧wr.ownsRow w.heap.size 5 1 (.slice (some ⟨w.heap.size,0,none⟩) s s) s (a9i x s k)∧Bel w wr) (fun i _=>s - (intOf i).toNat)
 case atStart=>exact ⟨0,by omega,rfl,hown,hbel⟩
 case round=>
  obtain ⟨k,hk,rfl,hown,hbel⟩:=hrel
  by_cases hks:k<s
  ·have hl:=g1p (x:=x) hk
   have hc:=hown.cellAt k (by omega)
   rw [List.getElem?_eq_getElem (by omega)] at hc
   obtain ⟨u,hu⟩:∃ u,u=(a9i x s k)[k]'(by omega):=⟨_,rfl⟩
   rw [← hu] at hc
   have hf:=hown.frozenAt k
   have Ho:=Lib.hid (hown.stored k (.int .u8 ((x / 2 ^ (8 * k) % 256:Nat):Int)))
   clear hu hown hl
   go_wp2
   go_roundw
   case rel=>
    have h1:=Ho.out.1
    rw [g1q hks] at h1
    rw [show ((x:Int) / 2 ^ (8 * k) % 256)=((x / 2 ^ (8 * k) % 256:Nat):Int) by rw [b8j];omega]
    exact ⟨k+1,by omega,by go_num,h1,hbel.setCell (Nat.le_refl _) _⟩
   case measure=>first|(simp [intOf];done)|(simp [intOf];omega)
  ·obtain rfl:k=s:=by omega
   rw [show a9i x k k=a1z (bytesL x k) by simp [a9i]] at hown
   obtain ⟨A,c,e,hr⟩:=Rd.of_own hown
   injection e with e1 _ e2
   subst e1 e2
   have Hr:=Lib.hid hr
   clear hr
   go_wp2_with (refine f3d ?_)
   go_ret2
   exact ⟨rfl,hbel⟩
end Wd
end
section
open Go.RowKit
namespace Me
def b4q (zs:List Nat):List Value:=zs.map fun (z:Nat)=>Value.int .u32 (z:Int)
theorem g1r (zs:List Nat):(b4q zs).length=zs.length:=by simp [b4q]
theorem g1s {zs:List Nat} {k:Nat} (h:k<zs.length):(b4q zs)[k]?=some (.int .u32 ((zs[k]'h:Nat):Int)):=by simp [b4q,h]
theorem Fetch_yes (A:Option Addr) (n c B:Nat) (zs:List Nat) (pc:Nat) (w:World) (hr:Rd w B 1 A n c (b4q zs)) (hp:pc<4294967296) (h4:pc % 4=0) (hl:pc / 4<zs.length) :
  Calls Tryz.prog 79 #[.slice A n c,.int .u32 (pc:Int)] w fun e w'=>e = .returned (.tuple #[.int .u32 ((zs[pc / 4]'hl:Nat):Int),.bool true]) ∧ ∃ n,w'=w.drewN n:=by
 have hc1:=hr.le
 have hc2:=hr.mx
 have hn:=hr.len
 rw [g1r,Nat.mul_one] at hn
 unfold maxLen at hc2
 obtain ⟨g,o,u,rfl,_,hu,hc⟩:=hr.cell1 (k:=pc / 4) (by omega)
 rw [g1s hl] at hu
 obtain rfl:_=u:=by injection hu
 have Hn:=Lib.hid hn
 clear hu hn hr
 have hlt:pc / 4<n:=by have:=Hn.out;omega
 have h5:((pc:Int) % 4 != 0)=false:=by rw [bne_eq_false_iff_eq];omega
 go_enter Tryz.func79,Tryz.ntmps79
 go_wp2
 go_ret2
 exact ⟨rfl,0,rfl⟩
theorem Fetch_no (A:Option Addr) (n c B:Nat) (zs:List Nat) (pc:Nat) (w:World) (hr:Rd w B 1 A n c (b4q zs)) (hp:pc<4294967296) (h:pc % 4≠0∨n≤pc / 4) :
  Calls Tryz.prog 79 #[.slice A n c,.int .u32 (pc:Int)] w fun e w'=>e = .returned (.tuple #[.int .u32 0,.bool false]) ∧ ∃ n,w'=w.drewN n:=by
 have hc1:=hr.le
 have hc2:=hr.mx
 unfold maxLen at hc2
 clear hr
 by_cases h4:pc % 4=0
 ·have h6:n≤pc / 4:=by omega
  have h5:((pc:Int) % 4 != 0)=false:=by rw [bne_eq_false_iff_eq];omega
  clear h
  go_enter Tryz.func79,Tryz.ntmps79
  go_wp2
  go_ret2
  exact ⟨rfl,0,rfl⟩
 ·have h5:((pc:Int) % 4 != 0)=true:=by rw [bne_iff_ne];omega
  clear h
  go_enter Tryz.func79,Tryz.ntmps79
  go_wp2
  go_ret2
  exact ⟨rfl,0,rfl⟩
end Me
end
section
open Go.RowKit
def b1b (e:En):Bool:=if e.halt=0 then (if a1e e.inst.op=6 then false else if a1e e.inst.op=3∨a1e e.inst.op=4∨a1e e.inst.op=5 then e.known else true) else false
theorem b6y (op:Int):a1e op=0∨a1e op=1∨a1e op=2∨a1e op=3∨a1e op=4∨a1e op=5∨a1e op=6:=by
 unfold a1e;repeat' split
 all_goals simp
theorem g1t (e:En) (w:World) (hi : -9223372036854775808≤e.inst.op∧e.inst.op≤9223372036854775807) :
  Calls Tryz.prog 105 #[e.val] w fun x w'=>x = .returned (.bool (b1b e))∧Bel w w':=by
 obtain ⟨b,hb⟩:∃ b,b1b e=b:=⟨_,rfl⟩
 rw [hb]
 have HK:=Lib.hid (fun W=>a2o e.inst W hi)
 unfold Ins.val at HK
 unfold b1b at hb
 by_cases h0:e.halt=0
 ·rw [if_pos h0] at hb
  have b0:(e.halt != 0)=false:=by simp [h0]
  unfold En.val
  rcases b6y e.inst.op with hk|hk|hk|hk|hk|hk|hk
  all_goals
   rw [hk] at HK hb
   clear hk h0
   simp at hb
   subst hb
   go_enter Tryz.func105,Tryz.ntmps105
   go_wp2_with (go_at_call 39;refine (HK.out _).mono ?_;rintro x w1 ⟨rfl,hb1⟩;obtain ⟨hc1,hf1⟩:=c8q hb1)
   go_ret
   exact ⟨rfl,(Bel.alloc _ _).trans hb1⟩
 ·rw [if_neg h0] at hb
  have b0:(e.halt != 0)=true:=by simpa using h0
  clear h0
  subst hb
  unfold En.val
  go_enter Tryz.func105,Tryz.ntmps105
  go_wp2
  go_ret
  exact ⟨rfl,Bel.alloc _ _⟩
def a3p : List En→Nat
 | []=>0
 | e::r=>if b1b e then a3p r+1 else 0
theorem d1r (l:List En):a3p l≤l.length:=by
 induction l with
 | nil=>simp [a3p]
 | cons e r ih=>unfold a3p;split <;> simp <;> omega
theorem g1u {l:List En} {k:Nat} (hk:k<l.length) (h:∀ j (hj:j<l.length),j<k→b1b l[j]=true) (hn:b1b l[k]=false):a3p l=k:=by
 induction l generalizing k with
 | nil=>simp at hk
 | cons e r ih=>
  cases k with
  | zero=>unfold a3p;simp at hn;simp [hn]
  | succ k=>
   have h0:=h 0 (by simp) (by omega)
   simp at h0
   unfold a3p
   rw [if_pos h0,ih (by simpa using hk) (fun j hj hjk=>by have:=h (j+1) (by simpa using hj) (by omega);simpa using this) (by simpa using hn)]
theorem g1v {l:List En} (h:∀ j (hj:j<l.length),b1b l[j]=true):a3p l=l.length:=by
 induction l with
 | nil=>rfl
 | cons e r ih=>
  have h0:=h 0 (by simp)
  simp at h0
  unfold a3p
  rw [if_pos h0,ih (fun j hj=>by have:=h (j+1) (by simpa using hj);simpa using this)]
  simp
def d1s (q:List En):Prop:=∀ e∈q,-9223372036854775808≤e.inst.op∧e.inst.op≤9223372036854775807
theorem d1t (A:Option Addr) (n c:Nat) (q:List En) (w:World) (hr:Rd w w.heap.size 17 A n c (ens q)) (hq:d1s q) :
  Calls Tryz.prog 42 #[.slice A n c] w fun e w'=>e = .returned (.int .i64 (a3p q:Int))∧Bel w w':=by
 have hc1:=hr.le
 have hc2:=hr.mx
 unfold maxLen at hc2
 have Hn:=Lib.hid hr.enslen
 have Hq:=Lib.hid hq
 clear hq
 go_enter Tryz.func42,Tryz.ntmps42
 go_wp2
 go_loopw [7] (fun i wr=>∃ k:Nat,k≤n∧i = .int .i64 (k:Int)∧(∀ j (hj:j<q.length),j<k→b1b q[j]=true)∧Bel w wr) (fun i _=>n - (intOf i).toNat)
 case atStart=>exact ⟨0,by omega,rfl,fun j hj h=>absurd h (by omega),Bel.refl w⟩
 case round=>
  obtain ⟨k,hk,rfl,hall,hbel⟩:=hrel
  have Hall:=Lib.hid hall
  clear hall
  by_cases hkn:k<n
  ·obtain ⟨hl,g,o,rfl,hg,hce⟩:=(hr.bel hbel).enselem hkn
   replace hce:=Lib.hid hce
   have HS:=Lib.hid (fun W=>g1t (q[k]'hl) W (Hq.out _ (List.getElem_mem hl)))
   obtain ⟨e,he⟩:∃ e,q[k]'hl=e:=⟨_,rfl⟩
   cases hs:b1b (q[k]'hl)
   ·have Hf:=Lib.hid (g1u hl Hall.out hs)
    rw [hs] at HS
    clear hs
    rw [he] at HS hce
    clear he
    go_wp2_with ((first|refine zg9 ?_|(refine b6l rfl 54 (.tmp 4) (.tmp 11) (by rfl) wr.heap.size e.cells (by rfl) (by rfl) 54 b4d ?_ rfl ensTy e.one ?_;exact Bk.new wr _ b4d;intro w1 hk1 hs1 ho1 hbe1;replace ho1:=Lib.hid ho1;replace hbe1:=hbe1)|(go_at_call 105;refine (HS.out _).mono ?_;rintro x w2 ⟨rfl,hb2⟩)))
    go_ret
    exact ⟨b6g (by rw [Hf.out]),hbel.trans ((hbe1 _ (Bel.alloc _ _) (Nat.le_refl _)).trans hb2)⟩
   ·have Hs:=Lib.hid hs
    rw [hs] at HS
    clear hs
    rw [he] at HS hce
    clear he
    go_wp2_with ((first|refine zg9 ?_|(refine b6l rfl 54 (.tmp 4) (.tmp 11) (by rfl) wr.heap.size e.cells (by rfl) (by rfl) 54 b4d ?_ rfl ensTy e.one ?_;exact Bk.new wr _ b4d;intro w1 hk1 hs1 ho1 hbe1;replace ho1:=Lib.hid ho1;replace hbe1:=hbe1)|(go_at_call 105;refine (HS.out _).mono ?_;rintro x w2 ⟨rfl,hb2⟩)))
    go_roundw
    case rel=>
     refine ⟨k+1,by omega,by go_num,fun j hj h=>?_,hbel.trans ((hbe1 _ (Bel.alloc _ _) (Nat.le_refl _)).trans hb2)⟩
     rcases Nat.lt_or_ge j k with h'|h'
     ·exact Hall.out j hj h'
     ·obtain rfl:j=k:=by omega
      exact Hs.out
    case measure=>first|(simp [intOf];done)|(simp [intOf];omega)
  ·obtain rfl:k=n:=by omega
   have Hf:=Lib.hid (g1v fun j hj=>Hall.out j hj (by have:=Hn.out;omega))
   go_wp2
   go_ret
   exact ⟨b6g (by rw [Hf.out,Hn.out]),hbel⟩
end
section
open Go.RowKit
section
variable {P:Program} {ops:Array Oper} {rest:List Oper} {o:Oper} {a:Act} {Q:Exit→Act→World→Prop} {w0 w:World} {D0 D:List Da} {M:List Mu} {S:World→Prop} {B:Nat} {Mr:List Mu} {Dr:List Da}
theorem g1w {w:World} {x y:Operand} {ts:Array TypeId} {k k':IntKind} {p q N:Int} (ho:o.op = .call { callee:=.builtin .min,args:=#[x,y],argTypes:=ts }) (hx:a1b a x=some (.int k p)) (hy:a1b a y=some (.int k' q)) (hN:N=if q<p then q else p):(execOp a.eval o).run P w = .ok (.value (.int k N)) w:=by
 replace hx:=look_eval hx
 replace hy:=look_eval hy
 have hrun:=fun ts t=>run_min_int2 (P:=P) w ts t k k' p q
 unfold execOp
 simp only [ho,resolve,invoke,builtin,Sem.run_bind,Sem.run_pure,Result.andThen_ok,List.map_toArray,List.map_cons,List.map_nil,hx,hy,hrun]
 rw [← hN]
theorem y_min {x y:Operand} {ts:Array TypeId} {k k':IntKind} {p q N:Int} (ho:o.op = .call { callee:=.builtin .min,args:=#[x,y],argTypes:=ts }) (hx:a1b a x=some (.int k p)) (hy:a1b a y=some (.int k' q)) (hN:Hid (N=if q<p then q else p):=by assumption) (hw:Region.wanted o (yielded ops a.tmps)=true:=by rfl) :
  YieldsIf P ops S o (.int k N) a:=a1u hw fun w=>g1w ho hx hy hN.out
theorem w_minH {x y:Operand} {ts:Array TypeId} {k k':IntKind} {p q N:Int} (ho:o.op = .call { callee:=.builtin .min,args:=#[x,y],argTypes:=ts }) (hx:a1b a x=some (.int k p)) (hy:a1b a y=some (.int k' q))
  (h:wpList P ops Q rest (a.put o.dst (.int k N)) w) (hgd:o.guard=none:=by rfl) (hN:Hid (N=if q<p then q else p):=by assumption):wpList P ops Q (o::rest) a w:=w_min N ho hx hy h hgd hN.out
theorem St.swap {x y:Mu} (h:St w0 D0 w (x::y::M) D):St w0 D0 w (y::x::M) D :=
 h.less ⟨fun i=>if i=0 then 1 else if i=1 then 0 else i,fun i j e=>by
  dsimp only at e
  repeat' split at e
  all_goals omega,fun i m hm=>by
  match i with
  | 0=>exact hm
  | 1=>exact hm
  | i+2=>exact hm⟩ fun d hd=>hd
end
def a3x {α:Type} (f:α→α) (T:List α) (j:Nat):List α:=(T.map f).take j++T.drop j
section
variable {α:Type} {f:α→α} {T:List α} {j:Nat} {s:α}
theorem d1u : a3x f T 0=T:=by simp [a3x]
theorem d1v : (a3x f T j).length=T.length:=by simp [a3x];omega
theorem d1w (h:T[j]?=some s):(a3x f T j)[j]?=some s:=by
 have hj:=(List.getElem?_eq_some_iff.1 h).1
 unfold a3x
 rw [List.getElem?_append_right (by simp;omega)]
 simp [List.length_take,Nat.min_eq_left (show j≤T.length by omega),h]
theorem d1x (h:T[j]?=some s):(a3x f T j).set j (f s)=a3x f T (j+1):=by
 obtain ⟨hj,e⟩:=List.getElem?_eq_some_iff.1 h
 unfold a3x
 rw [List.set_append_right _ _ (by simp;omega),List.take_succ_eq_append_getElem (by simpa using hj),List.drop_eq_getElem_cons hj]
 simp [List.length_take,Nat.min_eq_left (show j≤T.length by omega),e]
theorem d1y (h:T.length≤j):a3x f T j=T.map f:=by
 unfold a3x
 rw [List.take_of_length_le (by simpa using h),List.drop_of_length_le h,List.append_nil]
end
end
section
open Go.RowKit
def a4p (op:Int):Bool:=decide (1≤op∧op≤4) || decide (11≤op∧op≤15) || decide (19≤op∧op≤45)
def a2b (i:Ins):Int:=if a4p i.op=true then i.rd else 0
def a9j (q:List En) (reg:Int):Nat→Int
 | 0=>-1
 | n+1=>match q[n]? with
  | some e=>if a2b e.inst=reg then (n:Int) else a9j q reg n
  | none=>a9j q reg n
def a3b (q:List En) (i reg:Int):Int:=if reg<1∨31<reg then -1 else a9j q reg (min i q.length).toNat
theorem d1z (q:List En) (reg:Int):∀ n,a9j q reg n<(n:Int)
 | 0=>by simp [a9j]
 | n+1=>by
  have ih:=d1z q reg n
  unfold a9j
  split
  ·split <;> omega
  ·omega
theorem b9j {q:List En} {i reg:Int} (h:0≤a3b q i reg):a3b q i reg<i∧a3b q i reg<(q.length:Int):=by
 unfold a3b at h ⊢
 split at h
 ·omega
 ·rename_i hr
  rw [if_neg hr]
  have:=d1z q reg (min i q.length).toNat
  omega
def ofR (q:List En) (rs:List Int) (i:Nat) (reg:Int):Int:=if 0≤a3b q i reg then rs[(a3b q i reg).toNat]?.getD (-1) else -1
def c3s (q:List En) (rs:List Int) (i:Nat) (e:En):Int :=
 if a1e e.inst.op=3 then (if a3p q<i then (i:Int) else -1) else max (ofR q rs i e.inst.rs1) (ofR q rs i e.inst.rs2)
def a3q (q:List En):Nat→List Int
 | 0=>[]
 | n+1=>a3q q n++[match q[n]? with
  | some e=>c3s q (a3q q n) n e
  | none=>-1]
def b9k (q:List En):List Int:=a3q q q.length
theorem b4r (q:List En):∀ n,(a3q q n).length=n
 | 0=>rfl
 | n+1=>by simp [a3q,b4r q n]
def rt (q:List En) (n:Nat):Int:=(a3q q (n+1))[n]?.getD (-1)
theorem d2a (q:List En) {m n:Nat} (h:n<m):(a3q q m)[n]?=some (rt q n):=by
 induction m with
 | zero=>omega
 | succ m ih=>
  rcases Nat.lt_or_ge n m with h1|h1
  ·rw [a3q,List.getElem?_append_left (by rw [b4r];exact h1)];exact ih h1
  ·obtain rfl:n=m:=by omega
   unfold rt
   rw [a3q,List.getElem?_append_right (by rw [b4r];omega),b4r]
   simp
def ofT (q:List En) (i:Nat) (reg:Int):Int:=if 0≤a3b q i reg then rt q (a3b q i reg).toNat else -1
theorem b9l (q:List En) (i:Nat) (reg:Int):ofR q (a3q q i) i reg=ofT q i reg:=by
 unfold ofR ofT
 split
 ·rename_i h
  have:=b9j h
  rw [d2a q (by omega)]
  rfl
 ·rfl
theorem d2b {q:List En} {n:Nat} {e:En} (h:q[n]?=some e):rt q n=if a1e e.inst.op=3 then (if a3p q<n then (n:Int) else -1) else max (ofT q n e.inst.rs1) (ofT q n e.inst.rs2):=by
 unfold rt
 rw [a3q,List.getElem?_append_right (by rw [b4r];omega),b4r]
 simp only [Nat.sub_self,List.getElem?_cons_zero,Option.getD_some,h,c3s,b9l]
theorem g1x {q:List En} {n:Nat} {e:En} (h:q[n]?=some e):a3q q (n+1)=a3q q n++[rt q n]:=by
 rw [a3q,d2b h]
 simp only [h,c3s,b9l]
def a9k (q:List En) (i reg:Int):Bool:=decide (0≤a3b q i reg) && decide (0≤rt q (a3b q i reg).toNat)
end
section
open Go.RowKit
section
variable {P:Program} {ops:Array Oper} {rest:List Oper} {o:Oper} {a:Act} {Q:Exit→Act→World→Prop} {w0 w:World} {D0 D:List Da} {M:List Mu}
end
end
section
open Go.RowKit
theorem g1y {z:Nat} (h:z<4294967296):IntKind.u32.wrap (z:Int)=(z:Int):=by
 simp only [IntKind.wrap,IntKind.bits,IntKind.signed];simp;omega
section
variable {P:Program} {ops:Array Oper} {rest:List Oper} {o:Oper} {a:Act} {Q:Exit→Act→World→Prop} {S:World→Prop}
theorem g1z {w:World} {x y:Operand} {t t':TypeId} {p q:Nat} (ho:o.op = .binOp .quo t x y t') (hx:a1b a x=some (.int .u32 (p:Int))) (hy:a1b a y=some (.int .u32 (q:Int))) (hp:p<4294967296) (hq:0<q):(execOp a.eval o).run P w = .ok (.value (.int .u32 ((p / q:Nat):Int))) w:=by
 replace hx:=look_eval hx
 replace hy:=look_eval hy
 have h0:¬ ((q:Int)=0):=by omega
 unfold execOp
 simp only [ho,hx,hy]
 go_simp
 rw [if_neg (by omega),← Int.natCast_ediv,g1y (Nat.lt_of_le_of_lt (Nat.div_le_self p q) hp)]
theorem g2a {w:World} {x y:Operand} {t t':TypeId} {p q:Nat} (ho:o.op = .binOp .rem t x y t') (hx:a1b a x=some (.int .u32 (p:Int))) (hy:a1b a y=some (.int .u32 (q:Int))) (hp:p<4294967296) (hq:0<q):(execOp a.eval o).run P w = .ok (.value (.int .u32 ((p % q:Nat):Int))) w:=by
 replace hx:=look_eval hx
 replace hy:=look_eval hy
 have h0:¬ ((q:Int)=0):=by omega
 unfold execOp
 simp only [ho,hx,hy]
 go_simp
 rw [if_neg (by omega),Int.tmod_eq_emod_of_nonneg (by omega)]
theorem b9m {w:World} {x y:Operand} {t t':TypeId} {p q r:Nat} (ho:o.op = .binOp .rem t x y t') (hx:a1b a x=some (.int .u32 (p:Int))) (hy:a1b a y=some (.int .u32 (q:Int))) (h:wpList P ops Q rest (a.put o.dst (.int .u32 (r:Int))) w) (hr:Hid (p % q=r):=by assumption) (hp:p<4294967296:=by (first|assumption|omega)) (hq:0<q:=by (first|assumption|omega)) (hw:Region.wanted o (yielded ops a.tmps)=true:=by rfl):wpList P ops Q (o::rest) a w:=by
 refine a2c hw fun K hK=>?_
 unfold Oper.wp
 rw [g2a ho hx hy hp hq,hr.out]
 exact hK _ _ h
theorem w_eqT {w:World} {x y:Operand} {t t':TypeId} {k:IntKind} {p q:Int} (ho:o.op = .binOp .eql t x y t') (hx:a1b a x=some (.int k p)) (hy:a1b a y=some (.int k q)) (h:wpList P ops Q rest (a.put o.dst (.bool true)) w) (hne:Hid (p=q):=by assumption) (hw:Region.wanted o (yielded ops a.tmps)=true:=by rfl):wpList P ops Q (o::rest) a w:=by
 replace hx:=look_eval hx
 replace hy:=look_eval hy
 have hpq:=hne.out
 subst hpq
 refine a2c hw fun K hK=>?_
 have hrun:(execOp a.eval o).run P w = .ok (.value (.bool true)) w:=by
  unfold execOp
  simp only [ho,hx,hy]
  go_simp
 unfold Oper.wp
 rw [hrun]
 exact hK _ _ h
end
end
section
open Go.RowKit
def b3g (e:En):Bool:=decide (a1e e.inst.op=3∨a1e e.inst.op=4∨a1e e.inst.op=2∨a1e e.inst.op=5)
def a7m (e:En):List Int:=if a1e e.inst.op=3∨a1e e.inst.op=4 then [e.inst.rs1] else [e.inst.rs1,e.inst.rs2]
def a9l (mode:Int) (q:List En) (i:Nat) (e:En):Bool :=
 if b3g e=false then true else if mode=0 then true else if mode=1 then (a7m e).all (fun r=>!a9k q i r) else if mode=2 then decide (i≤a3p q) else false
end
section
open Go.RowKit
theorem Bel.ofDrew {w w':World} (h:∃ d,w'=w.drewN d):Bel w w':=by obtain ⟨d,rfl⟩:=h;exact Bel.drewN _ d
section
variable {P:Program} {ops:Array Oper} {Q:Exit→Act→World→Prop} {S:World→Prop} {a:Act} {o:Oper} {B:Nat} {Mr:List Mu} {Dr:List Da}
theorem y_ldp {ty:TypeId} {x:Operand} {g off n:Nat} {t:TypeId} {cs:List Value} {v:Value} (ho:o.op = .load ty x) (hx:a1b a x=some (.pointer (some ⟨g,off,none⟩))) (hw:Region.wanted o (yielded ops a.tmps)=true:=by rfl)
  (hm:Mu.blk g t cs∈Mr:=by exact zdm) (ht:RowTy P ty n:=by exact tyRow _ _ rfl) (hn:off+n≤cs.length:=by exact Nat.le_of_ble_eq_true rfl) (hv : .agg ((cs.drop off).take n).toArray=v:=by exact rfl):YieldsIf P ops (Hold B Mr Dr) o v a:=by
 subst hv
 replace hx:=look_eval hx
 have hl:((cs.drop off).take n).length=n:=by simp;omega
 exact .inl ⟨hw,fun w hS=>by
  have hb:(Mu.blk g t cs).ok B w:=hS.1 _ hm
  have hl:=b8q (P:=P) w g off ty ((cs.drop off).take n) (fun j u hu=>by
   rw [List.getElem?_take] at hu
   split at hu
   ·rw [List.getElem?_drop] at hu
    exact hb.1.cell_of (off+j) u hu
   ·cases hu) (by rwa [hl])
  unfold execOp
  simp only [ho,hx,Instr.loadAt,Instr.sureAddr,Sem.run_bind,Sem.run_pure,Result.andThen_ok,hl]⟩
end
end
section
open Go.RowKit
section
variable {w0 w w':World} {D0 D:List Da} {M:List Mu} {A:Option Addr} {t:TypeId} {xs:List Value} {i:Nat}
theorem g2b {B:Nat} (h:(Mu.row A t xs).ok B w) {sz n c:Nat} (hl:xs.length=n * sz) (hs:0<sz) (hc:n≤c) (hm:c≤maxLen):Rd w w.heap.size sz A n c xs :=
 ⟨hl,hc,hm,fun hn=>by
  obtain ⟨g,pre,post,rfl,hb,hB⟩:=h (by rw [hl];exact Nat.mul_pos hn hs)
  refine ⟨g,pre.length,rfl,hb.lt,fun j u hu=>?_⟩
  rw [hb.cell,List.getElem?_append_right (by omega),Nat.add_sub_cancel_left,List.getElem?_append_left (List.getElem?_eq_some_iff.1 hu).1,hu]⟩
theorem St.rowRd (h:St w0 D0 w M D) (hi:M[i]?=some (.row A t xs)) {sz n c:Nat} (hl:xs.length=n * sz) (hs:0<sz) (hc:n≤c) (hm:c≤maxLen):Rd w w.heap.size sz A n c xs:=g2b (h.mu i _ hi) hl hs hc hm
theorem St.rowAt (h:St w0 D0 w M D) (hi:M[i]?=some (.row A t xs)) (hx:0<xs.length):∃ g pre post,A=some ⟨g,pre.length,none⟩∧Bk w g t (pre++(xs++post))∧w0.heap.size≤g:=h.mu i _ hi hx
theorem c3t {B g o:Nat} (h:(Mu.row (some ⟨g,o,none⟩) t xs).ok B w) (j:Nat) (u:Value) (hu:xs[j]?=some u):w.cell? ⟨g,o+j,none⟩=some u:=by
 obtain ⟨g',pre,post,e,hb,hB⟩:=h (Nat.lt_of_le_of_lt (Nat.zero_le _) (List.getElem?_eq_some_iff.1 hu).1)
 simp only [Option.some.injEq,Addr.mk.injEq,and_true] at e
 obtain ⟨rfl,rfl⟩:=e
 rw [hb.cell,List.getElem?_append_right (by omega),Nat.add_sub_cancel_left,List.getElem?_append_left (List.getElem?_eq_some_iff.1 hu).1,hu]
theorem g2c (pre post xs us:List Value) (off:Nat) (hfit:off+us.length≤xs.length):spl (pre++(xs++post)) (pre.length+off) us=pre++(spl xs off us++post):=by
 induction us generalizing xs off with
 | nil=>rfl
 | cons v r ih=>
  rw [List.length_cons] at hfit
  rw [spl,spl,List.set_append_right _ _ (by omega),Nat.add_sub_cancel_left,List.set_append_left _ _ (by omega),Nat.add_assoc]
  exact ih (xs.set off v) (off+1) (by rw [List.length_set];omega)
theorem St.rowDrop (h:St w0 D0 w M D) (hi:M[i]?=some (.row A t xs)) (sz k n c:Nat) (hl:xs.length=n * sz) (hk:k≤n) (hc:n≤c):St w0 D0 w (M.set i (.row (cutA A k c sz) t (xs.drop (k * sz)))) D:=by
 have h0:(Mu.row A t xs).ok w0.heap.size w:=h.mu i _ hi
 have hbl:∀ g,(Mu.row (cutA A k c sz) t (xs.drop (k * sz))).bl=some g→(Mu.row A t xs).bl=some g:=by
  intro g hg
  simp only [Mu.bl,List.length_drop] at hg ⊢
  split at hg
  ·rename_i hx
   rw [if_pos (by omega)]
   cases A with
   | none=>simp [cutA] at hg
   | some a=>
    simp only [cutA] at hg
    split at hg
    ·exact hg
    ·simp only [Addr.add,Option.map_some,Option.some.injEq] at hg ⊢
     rw [← hg]
     split <;> rfl
  ·cases hg
 refine h.upd i _ _ hi (a6l (Bel.refl w) _) ?_ fun g hg=>.inl (hbl g hg)
 intro hx
 rw [List.length_drop] at hx
 obtain ⟨g,pre,post,rfl,hb,hB⟩:=h0 (by omega)
 have hkc:¬ c=k:=by
  rintro rfl
  have:=Nat.mul_le_mul_right sz hc
  omega
 refine ⟨g,pre++xs.take (k * sz),post,?_,?_,hB⟩
 ·simp only [cutA,if_neg hkc,Option.map_some,Addr.add,List.length_append,List.length_take]
  rw [Nat.min_eq_left (by omega)]
  split <;> simp_all
 ·rw [List.append_assoc,← List.append_assoc (xs.take _),List.take_append_drop]
  exact hb
theorem St.ownRow (h:St w0 D0 w M D) {v:Value} {e:TypeId} {sz n:Nat} (hi:M[i]?=some (.own v e sz n xs)):∃ A c,v = .slice A n c∧n≤c∧c≤maxLen∧St w0 D0 w (M.set i (.row A e xs)) D:=by
 have hown:=h.ownAt hi
 have hbl:∀ A c,v = .slice A n c → ∀ g,(Mu.row A e xs).bl=some g→(Mu.own v e sz n xs).bl=some g:=by
  rintro A c rfl g hg
  simp only [Mu.bl] at hg
  split at hg
  ·rcases hown.2 with ⟨h1,_⟩|⟨g',cap,cur,h1,_⟩
   ·injection h1 with h1;subst h1;cases hg
   ·injection h1 with h1;subst h1;exact hg
  ·cases hg
 rcases hown.2 with ⟨h1,h2⟩|⟨g,cap,cur,h1,hB,hg,hnc,hcm,hcs,htake⟩
 ·subst h1
  subst h2
  refine ⟨none,0,rfl,Nat.le_refl _,by unfold maxLen;omega,h.upd i _ _ hi (a6l (Bel.refl w) _) ?_ fun g hg=>.inl (hbl _ _ rfl g hg)⟩
  intro hx
  have:=hown.1
  omega
 ·subst h1
  refine ⟨some ⟨g,0,none⟩,cap,rfl,hnc,hcm,h.upd i _ _ hi (a6l (Bel.refl w) _) ?_ fun g hg=>.inl (hbl _ _ rfl g hg)⟩
  intro hx
  refine ⟨g,[],cur.toList.drop (n * sz),rfl,⟨(0,0),?_,by intro i _;omega⟩,hB⟩
  rw [List.nil_append,← htake,List.take_append_drop]
  exact hg
theorem St.rowData (h:St w0 D0 w M D) (hi:M[i]?=some (.row A t xs)) {sz n c:Nat} (hl:xs.length=n * sz) (hs:0<sz) (hc:n≤c) (hm:c≤maxLen):St w0 D0 w (M.eraseIdx i) (a1a sz A n c xs::D):=by
 have hr:=h.rowRd hi hl hs hc hm
 have hbl:∀ g,(a1a sz A n c xs).bl g→(Mu.row A t xs).bl=some g:=by
  rintro g ⟨hn,o,s,rfl⟩
  simp only [Mu.bl]
  rw [if_pos (by rw [hl];exact Nat.mul_pos hn hs)]
  rfl
 have h':=h.drop i
 refine ⟨h.bel,h'.mu,h'.apart,fun d hd=>?_,fun d hd j m hm' g hmg hdg=>?_,fun d hd=>?_⟩
 ·rcases List.mem_cons.1 hd with rfl|hd
  ·exact hr
  ·exact h.dat d hd
 ·rcases List.mem_cons.1 hd with rfl|hd
  ·rw [List.getElem?_eraseIdx] at hm'
   split at hm'
   ·exact h.apart j i m _ (by omega) hm' hi g hmg (hbl g hdg)
   ·exact h.apart (j+1) i m _ (by omega) hm' hi g hmg (hbl g hdg)
  ·exact h'.sep d hd j m hm' g hmg hdg
 ·rcases List.mem_cons.1 hd with rfl|hd
  ·exact From.new fun g hg=>((h.mu i _ hi).lt (hbl g hg)).1
  ·exact h.src d hd
theorem St.rowNil (h:St w0 D0 w M D) (A:Option Addr) (t:TypeId):St w0 D0 w (.row A t []::M) D :=
 h.push _ (a6l (Bel.refl w) none) (fun hx=>absurd hx (by simp)) fun g hg=>by simp [Mu.bl] at hg
theorem St.front (h:St w0 D0 w M D) (i:Nat) {m:Mu} (hi:M[i]?=some m):St w0 D0 w (m::M.eraseIdx i) D :=
 h.less ⟨fun j=>match j with|0=>i|j+1=>if j<i then j else j+1,fun a b e=>by
  cases a with
  | zero=>
   cases b with
   | zero=>rfl
   | succ b=>dsimp only at e;split at e <;> omega
  | succ a=>
   cases b with
   | zero=>dsimp only at e;split at e <;> omega
   | succ b=>dsimp only at e;split at e <;> split at e <;> omega,fun j m' hm=>by
  cases j with
  | zero=>simp only [List.getElem?_cons_zero,Option.some.injEq] at hm;subst hm;exact hi
  | succ j=>
   rw [List.getElem?_cons_succ,List.getElem?_eraseIdx] at hm
   dsimp only
   split
   ·rename_i hj;rwa [if_pos hj] at hm
   ·rename_i hj;rwa [if_neg hj] at hm⟩ fun d hd=>hd
end
section
variable {P:Program} {ops:Array Oper} {rest:List Oper} {o:Oper} {a:Act} {Q:Exit→Act→World→Prop} {w0 w:World} {D0 D:List Da} {M:List Mu}
theorem w_ixR {t e:TypeId} {x ix:Operand} {A:Option Addr} {n c k i:Nat} {ki:IntKind} {z:Value} {sz bytes:Nat} {tr:TypeId} {xs:List Value} (ho:o.op = .indexAddr t x ix) (hF:St w0 D0 w M D) (hx:a1b a x=some (.slice A n c)) (hk:a1b a ix=some (.int ki (k:Int)))
  (h:wpList P ops Q rest (a.put o.dst (ept A (k * sz))) w) (ht:SlT P t e z sz bytes:=by exact a3o _ _ _ _ _ rfl) (hw:Region.wanted o (yielded ops a.tmps)=true:=by rfl) (hi:M[i]?=some (.row A tr xs):=by exact zat) (hl:0<xs.length:=by assumption) (hkn:k<n:=by (first|assumption|omega|exact Nat.zero_lt_of_lt (by assumption)|exact Nat.succ_pos _)):wpList P ops Q (o::rest) a w:=by
 replace hx:=look_eval hx
 replace hk:=look_eval hk
 obtain ⟨g,pre,post,rfl,_,_⟩:=hF.rowAt hi hl
 refine a2c hw fun K hK=>?_
 obtain ⟨hu,hi,_,_⟩:=ht
 have hs:(sizeOf e).run P w = .ok sz w:=by
  cases hq:P.info? e with
  | none=>simp [hq] at hi
  | some i=>
   simp only [hq,Option.map_some,Option.some.injEq,Prod.mk.injEq] at hi
   simp [sizeOf,typeInfo,hq,hi.2.1]
 have hrun:(Instr.indexAt t (.slice (some ⟨g,pre.length,none⟩) n c) (.int ki (k:Int))).run P w = .ok (ept (some ⟨g,pre.length,none⟩) (k * sz)) w:=by
  simp [Instr.indexAt,run_underlying hu,asIntOf,hs,ept,show (k:Int)<(n:Int) by omega]
  intro h;omega
 unfold Oper.wp execOp
 simp only [ho,hx,hk,hrun,Sem.run_bind,Sem.run_pure,Result.andThen_ok]
 exact hK _ _ h
theorem w_fldR {s f:Nat} {x:Operand} {A:Option Addr} {j off i:Nat} {tr:TypeId} {xs:List Value} (ho:o.op = .fieldAddr s x f) (hF:St w0 D0 w M D) (hx:a1b a x=some (ept A j))
  (h:wpList P ops Q rest (a.put o.dst (ept A (j+off))) w) (ht:FldT P s f off:=by exact b3c _ _ _ rfl) (hw:Region.wanted o (yielded ops a.tmps)=true:=by rfl) (hi:M[i]?=some (.row A tr xs):=by exact zat) (hl:0<xs.length:=by assumption):wpList P ops Q (o::rest) a w:=by
 replace hx:=look_eval hx
 obtain ⟨g,pre,post,rfl,_,_⟩:=hF.rowAt hi hl
 refine a2c hw fun K hK=>?_
 rw [c3h] at h
 simp only [Option.map_some] at h
 unfold Oper.wp execOp
 simp only [ho,hx,ept,Option.map_some,b6p ht,Sem.run_bind,Sem.run_pure,Result.andThen_ok]
 exact hK _ _ h
theorem w_lde1R {ty:TypeId} {x:Operand} {A:Option Addr} {j i:Nat} {tr:TypeId} {xs:List Value} {v:Value} (ho:o.op = .load ty x) (hF:St w0 D0 w M D) (hx:a1b a x=some (ept A j))
  (h:wpList P ops Q rest (a.put o.dst v) w) (ht:OneT P ty:=by exact a8n _ rfl) (hw:Region.wanted o (yielded ops a.tmps)=true:=by rfl) (hi:M[i]?=some (.row A tr xs):=by exact zat) (hv:xs[j]?=some v:=by first|assumption|exact Rows.el (by assumption) rfl|exact Rows.el0 (by assumption) rfl):wpList P ops Q (o::rest) a w:=by
 replace hx:=look_eval hx
 obtain ⟨g,pre,post,rfl,_,_⟩:=hF.rowAt hi (Nat.lt_of_le_of_lt (Nat.zero_le _) (List.getElem?_eq_some_iff.1 hv).1)
 have hc:=c3t (hF.mu i _ hi) j v hv
 refine a2c hw fun K hK=>?_
 unfold Oper.wp execOp
 simp only [ho,hx,ept,Option.map_some,a4u,Instr.loadAt,Instr.sureAddr,Sem.run_bind,Sem.run_pure,Result.andThen_ok,b4g ht hc]
 exact hK _ _ h
theorem w_ldeR {ty:TypeId} {x:Operand} {A:Option Addr} {j i:Nat} {tr:TypeId} {xs us:List Value} {v:Value} (ho:o.op = .load ty x) (hF:St w0 D0 w M D) (hx:a1b a x=some (ept A j))
  (h:wpList P ops Q rest (a.put o.dst v) w) (hw:Region.wanted o (yielded ops a.tmps)=true:=by rfl) (hi:M[i]?=some (.row A tr xs):=by exact zat) (hu:∀ i u,us[i]?=some u→xs[j+i]?=some u:=by exact Rows.sub (by assumption)) (ht:RowTy P ty us.length:=by exact tyRow _ _ rfl) (h0:0<us.length:=by exact Nat.zero_lt_succ _) (hv : .agg us.toArray=v:=by exact rfl):wpList P ops Q (o::rest) a w:=by
 replace hx:=look_eval hx
 have h1:=hu 0 _ (List.getElem?_eq_getElem h0)
 obtain ⟨g,pre,post,rfl,_,_⟩:=hF.rowAt hi (Nat.lt_of_le_of_lt (Nat.zero_le _) (List.getElem?_eq_some_iff.1 h1).1)
 refine wpList_load_elem hw ty x ho g (pre.length+j) (by rw [hx];simp [ept,a4u]) us v hv.symm (fun i' u hi'=>?_) ht h
 have:=c3t (hF.mu i _ hi) (j+i') u (hu i' u hi')
 rwa [Nat.add_assoc]
theorem g2d {ty:TypeId} {x y:Operand} {A:Option Addr} {j i:Nat} {tr:TypeId} {xs us:List Value} {M':List Mu} (ho:o.op = .store ty x y) (hF:St w0 D0 w M D) (hx:a1b a x=some (ept A j)) (hy:a1b a y=some (.agg us.toArray))
  (h:∀ w',St w0 D0 w' M' D→wpList P ops Q rest (a.put o.dst undef) w') (hw:Region.wanted o (yielded ops a.tmps)=true:=by rfl) (hi:M[i]?=some (.row A tr xs):=by exact zat)
  (hfit:j+us.length≤xs.length:=by assumption) (h0:0<us.length:=by exact Nat.zero_lt_succ _) (ht:RowTy P ty us.length:=by exact tyRow _ _ rfl) (h1:∀ u∈us,a7v M u:=by exact b1x) (hM:M.set i (.row A tr (spl xs j us))=M':=by first|(simp only [zF];exact rfl)|(simp only [zF];done)|exact rfl):wpList P ops Q (o::rest) a w:=by
 replace hx:=look_eval hx
 replace hy:=look_eval hy
 subst hM
 obtain ⟨g,pre,post,rfl,hb,hge⟩:=hF.rowAt hi (by omega)
 refine c3f hw ty x y ho g (pre.length+j) us (by rw [hx];simp [ept,a4u]) hy tr _ hb (by simp only [List.length_append];omega) ht (fun u hu=>hF.oneM (h1 u hu)) fun w' hk hs ho' hbe=>h w' ?_
 have hF0:=hF.bel
 have hb':=hbe _ hF0 hge
 have hbl:(Mu.row (some ⟨g,pre.length,none⟩) tr xs).bl=some g:=by simp only [Mu.bl];rw [if_pos (by omega)];rfl
 refine hF.upd i _ _ hi ⟨hb'.os.trans hF0.os.symm,hb'.tape.trans hF0.tape.symm,hb'.output.trans hF0.output.symm,by omega,fun k _ hne=>ho' k (fun e=>hne (by rw [e,hbl]))⟩ ?_ fun g' hg'=>.inl (by
  rw [hbl]
  simp only [Mu.bl,a4a] at hg'
  rw [if_pos (by omega)] at hg'
  exact hg')
 intro _
 rw [g2c _ _ _ _ _ hfit] at hk
 exact ⟨g,pre,post,rfl,hk,hge⟩
theorem w_st1R {ty:TypeId} {x y:Operand} {A:Option Addr} {j i:Nat} {tr:TypeId} {xs:List Value} {v:Value} {M':List Mu} (ho:o.op = .store ty x y) (hF:St w0 D0 w M D) (hx:a1b a x=some (ept A j)) (hy:a1b a y=some v)
  (h:∀ w',St w0 D0 w' M' D→wpList P ops Q rest (a.put o.dst undef) w') (ht:OneT P ty:=by exact a8n _ rfl) (hw:Region.wanted o (yielded ops a.tmps)=true:=by rfl) (hi:M[i]?=some (.row A tr xs):=by exact zat)
  (hoff:j<xs.length:=by assumption) (h1:v.oneCell'=true:=by exact One1.one) (hM:M.set i (.row A tr (xs.set j v))=M':=by first|(simp only [zF];exact rfl)|(simp only [zF];done)|exact rfl):wpList P ops Q (o::rest) a w:=by
 replace hx:=look_eval hx
 replace hy:=look_eval hy
 subst hM
 obtain ⟨g,pre,post,rfl,hb,hge⟩:=hF.rowAt hi (by omega)
 have hbl:(Mu.row (some ⟨g,pre.length,none⟩) tr xs).bl=some g:=by simp only [Mu.bl];rw [if_pos (by omega)];rfl
 have hg:w.grownBy (w.setCell ⟨g,pre.length+j,none⟩ v) (some g):=⟨rfl,rfl,rfl,by simp [World.setCell],fun k hk hne=>Below.heap_setCell w _ v k (fun e=>hne (by rw [e]))⟩
 have hF':=hF.upd i _ (.row (some ⟨g,pre.length,none⟩) tr (xs.set j v)) hi (by rw [hbl];exact hg) (by
  intro _
  refine ⟨g,pre,post,rfl,?_,hge⟩
  have:=hb.set_ (pre.length+j) v
  rwa [List.set_append_right _ _ (by omega),Nat.add_sub_cancel_left,List.set_append_left _ _ hoff] at this) fun g' hg'=>.inl (by
  rw [hbl]
  simp only [Mu.bl,List.length_set] at hg'
  rw [if_pos (by omega)] at hg'
  exact hg')
 refine a2c hw fun K hK=>?_
 have hk:=hK _ _ (h _ hF')
 have hc:w.cell? ⟨g,pre.length+j,none⟩=some xs[j]:=c3t (hF.mu i _ hi) j _ (List.getElem?_eq_getElem hoff)
 have hfz:=hb.frozen (i:=pre.length+j) (by simp only [List.length_append];omega)
 unfold Oper.wp execOp
 simp only [ho,hx,hy,ept,Option.map_some,a4u,Instr.storeAt,Instr.sureAddr,Sem.run_bind,Sem.run_pure,Result.andThen_ok,c3k ht hc hfz h1]
 exact hk
end
end
section
open Go.RowKit Wd
def a1k (a b:Nat):Nat:=(a+b) % 4294967296
def b6z (a b:Nat):Nat:=(a+4294967296 - b) % 4294967296
def sg (a:Nat):Int:=if a<2147483648 then a else a - 4294967296
def un (x:Int):Nat:=(x % 4294967296).toNat
def a1w (x:Nat):Nat:=x - x % 16
def a7x (b:Bool):Nat:=if b then 1 else 0
def a1t (op:Int) (a b:Nat):Nat :=
 if op=28∨op=19 then a1k a b
 else if op=29 then b6z a b
 else if op=37∨op=24 then a &&& b
 else if op=36∨op=23 then a ||| b
 else if op=33∨op=22 then a ^^^ b
 else if op=30∨op=25 then a * 2 ^ (b % 32) % 4294967296
 else if op=34∨op=26 then a / 2 ^ (b % 32)
 else if op=35∨op=27 then un (sg a / 2 ^ (b % 32))
 else if op=31∨op=20 then a7x (decide (sg a<sg b))
 else if op=32∨op=21 then a7x (decide (a<b))
 else if op=1 then b
 else 0
def a5e (op:Int) (a b:Nat):Nat :=
 if op=38 then a * b % 4294967296
 else if op=39 then un (sg a * sg b / 4294967296)
 else if op=40 then un (sg a * b / 4294967296)
 else if op=41 then a * b / 4294967296
 else 0
def a4b (op:Int) (a b:Nat):Bool :=
 if op=5 then decide (a=b) else if op=6 then decide (a≠b) else if op=7 then decide (sg a<sg b) else if op=8 then decide (sg b≤sg a) else if op=9 then decide (a<b) else if op=10 then decide (b≤a) else false
def a7y (i:Ins) (pc a b:Nat):Nat :=
 if i.op=3∨a4b i.op a b=true then a1k pc i.imm else if i.op=4 then (let n:=a1k a i.imm;n - n % 2) else a1k pc 4
def b1c (op:Int):Bool:=decide (op=42∨op=44)
def a1v (op:Int) (w:Nat):Nat:=if b1c op=true∧2147483648≤w then 4294967296 - w else w
def b1d (op:Int) (s w:Nat):Nat:=if b1c op=true∧2147483648≤w then (4294967296 - s) % 4294967296 else s
def a4h (op:Int) (a b:Nat):Nat :=
 if op=42∨op=43 then (if b=0 then 4294967295 else b1d op (a1v op a / a1v op b) (a ^^^ b))
 else if op=44∨op=45 then (if b=0 then a else b1d op (a1v op a % a1v op b) a)
 else 0
def a6v : Nat→Nat→Nat
 | 0,_=>0
 | n+1,x=>if x=0 then 0 else a6v n (x / 2)+1
def a4i (op:Int) (a b:Nat):Int :=
 if op<42∨45<op then 0 else if b=0∨a1v op a<a1v op b then 2 else 2+(a6v 32 (a1v op a):Int) - (a6v 32 (a1v op b):Int)+1
def a6w (op:Int):Bool:=decide (op=1∨(11≤op∧op≤15)∨(19≤op∧op≤27))
def a7n (i:Ins) (pc a b:Nat):Nat :=
 if a1e i.op=1 then a5e i.op a b else if a1e i.op=2 then a4h i.op a b else if i.op=2 then a1k pc i.imm else if i.op=3∨i.op=4 then a1k pc 4
 else a1t i.op a (if a6w i.op=true then i.imm else b)
def a2p (op:Int):Int:=if op=11∨op=14∨op=16 then 1 else if op=12∨op=15∨op=17 then 2 else if op=13∨op=18 then 4 else 0
def codesL : List Nat:=[0,0x37,0x17,0x6F,0x67,0x63,0x1063,0x4063,0x5063,0x6063,0x7063,0x03,0x1003,0x2003,0x4003,0x5003,0x23,0x1023,0x2023,
 0x13,0x2013,0x3013,0x4013,0x6013,0x7013,0x1013,0x5013,0x40005013,0x33,0x40000033,0x1033,0x2033,0x3033,0x4033,0x5033,0x40005033,0x6033,0x7033,
 0x02000033,0x02001033,0x02002033,0x02003033,0x02004033,0x02005033,0x02006033,0x02007033,0x0F,0x73,0x00100073]
def a5l (f:Int):Nat :=
 if f=8 then 0xFFFFFFFF else if f=1∨f=3 then 0xFE00707F else if f=2∨f=4∨f=5 then 0x707F else if f=6∨f=7 then 0x7F else 0
def a1o (op:Int):Int :=
 if op<1∨48<op then 0 else if op≤2 then 6 else if op=3 then 7 else if op=4 then 2 else if op≤10 then 5 else if op≤15 then 2 else if op≤18 then 4 else if op≤24 then 2 else if op≤27 then 3 else if op≤45 then 1 else 8
def a2e (f:Int):Bool × Bool × Bool:=if f=1 then (true,true,true) else if f=2∨f=3 then (true,true,false) else if f=4∨f=5 then (false,true,true) else if f=6∨f=7 then (true,false,false) else (false,false,false)
def a1g (f:Int):List (Int × Int) × Nat :=
 if f=2 then ([(20,12)],0) else if f=3 then ([(20,5)],0) else if f=4 then ([(7,5),(25,7)],0) else if f=5 then ([(8,4),(25,6),(7,1),(31,1)],1)
 else if f=6 then ([(12,20)],12) else if f=7 then ([(21,10),(20,1),(12,8),(31,1)],1) else ([],0)
def a1x (w:Nat) (parts:List (Int × Int)):Nat × Int:=parts.foldl (fun s p=>(a1r s.1 s.2 p.2 (a5j w p.1 p.2),s.2+p.2)) (0,0)
def a4o (v:Nat) (parts:List (Int × Int)):Nat × Nat:=parts.foldl (fun s p=>(a1r s.1 p.1 p.2 s.2,s.2 / 2 ^ p.2.toNat)) (0,v)
def a2g (op:Int) (w:Nat):Ins :=
 let f:=a1o op
 let h:=a2e f
 let n:=a1g f
 let g:=a1x w n.1
 let imm:=g.1 * 2 ^ n.2 % 4294967296
 ⟨op,if h.1 then a5j w 7 5 else 0,if h.2.1 then a5j w 15 5 else 0,if h.2.2 then a5j w 20 5 else 0,if f=3 then imm else a6k imm (g.2+n.2)⟩
def a6b (w:Nat):Nat→Nat→Option Nat
 | 0,_=>none
 | n+1,op=>if w &&& a5l (a1o op)=codesL[op]?.getD 0 then some op else a6b w n (op+1)
def a4j (w:Nat):Option Ins:=match a6b w 48 1 with
 | some op=>some (a2g op w)
 | none=>none
def a9m : Ins:=⟨0,0,0,0,0⟩
def a3f (i j:Ins):Bool:=decide (i.op=j.op) && decide (i.rd=j.rd) && decide (i.rs1=j.rs1) && decide (i.rs2=j.rs2) && decide (i.imm=j.imm)
def b9n (i:Ins):Nat :=
 let f:=a1o i.op
 let n:=a1g f
 let w0:=(codesL[i.op.toNat]?.getD 0) ||| (a4o (i.imm / 2 ^ n.2) n.1).1
 let h:=a2e f
 let w1:=if h.1 then a1r w0 7 5 (un i.rd) else w0
 let w2:=if h.2.1 then a1r w1 15 5 (un i.rs1) else w1
 if h.2.2 then a1r w2 20 5 (un i.rs2) else w2
def b3h (i:Ins):Bool:=decide (a1o i.op≠0) && a3f (a2g i.op (b9n i)) i
def a5f (prog:List Nat) (pc:Nat):Option Nat:=if pc % 4=0 then prog[pc / 4]? else none
def a7o (op:Int) (b:ByteArray):Nat :=
 if a1e op≠3∨(b.size:Int)≠a2p op then 0 else if op=11 then a6k (a3s (bl b)) 8 else if op=12 then a6k (a3s (bl b)) 16 else a3s (bl b)
def a7z (n a:Nat) (k:Int):Bool:=decide ((k=1∨k=2∨k=4)∧(a:Int) % k=0∧(a:Int)+k≤n)
def b4s (m:ByteArray) (a:Nat) (k:Int):ByteArray:=if a7z m.size a k then m.extract a (a+k.toNat) else ⟨#[]⟩
def a3l (e : En) (a b : Nat) : En :=
  if e.is ≠ 0 ∨ a1e e.inst.op = 3 ∨ a1e e.inst.op = 4 then e else
  let v := if a2b e.inst ≠ 0 then a7n e.inst e.pc a b else 0
  if a1e e.inst.op = 1 then { e with is := 1, value := v, next := a1k e.pc 4, left := 3 }
  else if a1e e.inst.op = 2 then { e with is := 1, value := v, next := a1k e.pc 4, took := a4i e.inst.op a b, left := a4i e.inst.op a b }
  else if a1e e.inst.op = 5 then
    (if a7y e.inst e.pc a b % 4 = 0 then { e with is := 1, value := v, next := a7y e.inst e.pc a b, left := 1 }
     else { e with is := 1, value := 0, next := a1k e.pc 4, left := 1, halt := 3 })
  else { e with is := 1, value := v, next := a1k e.pc 4, left := 1 }
def a6m (e:En) (size:Nat) (a:Nat):En :=
 if (a1e e.inst.op≠3∧a1e e.inst.op≠4)∨e.is≠0∨e.known=true then e else
 if a7z size (a1k a e.inst.imm) (a2p e.inst.op)=true then { e with addr:=a1k a e.inst.imm,known:=true }
 else { e with addr:=a1k a e.inst.imm,halt:=if a1e e.inst.op=4 then 5 else 4,is:=3 }
def goE (e:En):En :=
 if e.is≠1 then e else if e.left - 1≤0 then { e with left:=0,is:=3,known:=if a1e e.inst.op=5∧e.halt=0 then true else e.known } else { e with left:=e.left - 1 }
def a5m (e:En) (b:ByteArray):En :=
 if a1e e.inst.op≠3∨e.known=false∨(e.is≠0∧e.is≠2) then e else { e with is:=1,left:=1,value:=if a2b e.inst≠0 then a7o e.inst.op b else 0 }
def b4t (w:Nat) (s:Int):Nat:=a3s (bytesL w s.toNat)
def a8q (e:En) (b:Nat):En :=
 if a1e e.inst.op≠4∨e.known=false∨e.is≠0 then e else { e with is:=3,value:=b4t b (a2p e.inst.op) }
def a2j (e:En):Stp :=
 if e.halt≠0 then ⟨e.pc,e.pc,0,0,if e.halt=4∨e.halt=5 then e.addr else 0,0,false,e.halt,0⟩
 else if a1e e.inst.op=4 then ⟨e.pc,a1k e.pc 4,a2b e.inst,e.value,e.addr,a2p e.inst.op,true,0,0⟩
 else
  let v:=if a2b e.inst≠0 then e.value else 0
  if a1e e.inst.op=3 then ⟨e.pc,a1k e.pc 4,a2b e.inst,v,e.addr,a2p e.inst.op,false,0,0⟩
  else if a1e e.inst.op=2 then ⟨e.pc,a1k e.pc 4,a2b e.inst,v,0,0,false,0,e.took⟩
  else if a1e e.inst.op=5 then ⟨e.pc,e.next,a2b e.inst,v,0,0,false,0,0⟩
  else ⟨e.pc,a1k e.pc 4,a2b e.inst,v,0,0,false,0,0⟩
def a4c (q:List En) (regs:List Nat) (i reg:Int):Nat × Bool :=
 if reg=0 then (0,true) else if reg<0∨31<reg then (0,false) else
 if a3b q i reg<0 then (regs[reg.toNat]?.getD 0,true) else
 match q[(a3b q i reg).toNat]? with
 | some e=>if e.is=3∧e.halt=0 then (e.value,true) else (0,false)
 | none=>(0,false)
def a5g (q:List En) (regs:List Nat) (i:Nat):Nat × Nat × Bool :=
 match q[i]? with
 | some e=>((a4c q regs i e.inst.rs1).1,(a4c q regs i e.inst.rs2).1,(a4c q regs i e.inst.rs1).2 && (a4c q regs i e.inst.rs2).2)
 | none=>(0,0,false)
def a6x (e:En):Bool:=decide (a1e e.inst.op=5) && (e.known && decide (e.next≠e.guess))
def a6y (q:List En):Option Nat:=q.findIdx? a6x
def a7p (q:List En) (i:Nat) (e:En):List En:=q.take i++[{ e with guess:=e.next }]
def a3a (e:En):Bool :=
 if e.is<0∨3<e.is then false
 else if (e.is=1∧e.left≤0)∨(e.is≠1∧e.left≠0) then false
 else if e.is=2∧(a1e e.inst.op≠3∨e.known=false) then false
 else if e.halt≠0∧e.is≠3 ∧ ¬ (e.is=1∧a1e e.inst.op=5∧e.halt=3) then false
 else if b3h e.inst=false then decide (e.halt=1∨e.halt=2) else true
def b4u : List En→Bool
 | []=>true
 | [e]=>a3a e
 | e::f::r=>a3a e && (decide (e.no<f.no) && b4u (f::r))
def a8r (q:List En):Bool:=decide (q.length≤8) && b4u q
def a5n (no:Int) (f:Fe) (prog:List Nat):En :=
 let z:En:=⟨no,f.pc,a9m,f.guess,0,0,0,0,0,0,0,false,false⟩
 match a5f prog f.pc with
 | none=>{ z with halt:=1,is:=3 }
 | some w=>match a4j w with
  | none=>{ z with halt:=2,is:=3 }
  | some i=>if i.op=47 then { z with inst:=i,halt:=6,is:=3 } else if i.op=48 then { z with inst:=i,halt:=7,is:=3 } else { z with inst:=i }
def a6c (a:Nat) (n:Int):Nat:=a+(max n 0).toNat
def a6z (a:Nat) (n:Int) (b:Nat) (m:Int):Bool:=decide (0<n) && decide (0<m) && (decide (a<a6c b m) && decide (b<a6c a n))
def b2a (a:Nat) (n:Int) (b:Nat) (m:Int):Bool:=decide (0<m) && (decide (a≤b) && decide (a6c b m≤a6c a n))
structure Sd where
 addr:Nat
 size:Int
 data:ByteArray
 there:Bool
def a6d (w:Nat) (s:Int):ByteArray:=⟨(bytesL w s.toNat).toArray⟩
def Sd.ofE (e:En):Sd:=⟨e.addr,a2p e.inst.op,a6d e.value (a2p e.inst.op),decide (e.is=3)⟩
def Sd.ofP (p:Pu):Sd:=⟨p.addr,p.data.size,p.data,true⟩
def a6e (q:List En) (ss:List Pu):List Sd:=(q.reverse.filter fun e=>decide (a1e e.inst.op=4)).map Sd.ofE++ss.reverse.map Sd.ofP
def a6f (at':Nat) (n:Int):List Sd→Int × ByteArray
 | []=>(2,⟨#[]⟩)
 | s::r=>if a6z s.addr s.size at' n=false then a6f at' n r else
  if b2a s.addr s.size at' n=false∨s.there=false then (0,⟨#[]⟩) else (1,s.data.extract (at' - s.addr) (at' - s.addr+n.toNat))
def a7q (q:List En) (ss:List Pu) (i:Nat):Int × ByteArray :=
 match q[i]? with
 | none=>(0,⟨#[]⟩)
 | some e=>if a1e e.inst.op≠3 then (0,⟨#[]⟩) else
  if (q.take i).any (fun f=>decide (a1e f.inst.op=4) && (!f.known || decide (f.halt≠0))) then (0,⟨#[]⟩) else a6f e.addr (a2p e.inst.op) (a6e (q.take i) ss)
def a5s (kind:Int):Int:=if kind=2 then 1 else if kind=3∨kind=4 then 2 else 0
def a3m (width:Int) (kinds:List Int):List Bool→Nat→Int→Bool→Bool→List Int
 | [],_,_,_,_=>[]
 | c::r,i,n,d,m=>
  if width≤n then [] else if c=false then a3m width kinds r (i+1) n d m else
  let u:=a5s (kinds[i]?.getD 0)
  if (u=1∧d=true)∨(u=2∧m=true) then a3m width kinds r (i+1) n d m
  else (i:Int)::a3m width kinds r (i+1) (n+1) (d || decide (u=1)) (m || decide (u=2))
structure Cf where
 mode:Int
 width:Int
 rob:Int
 queue:Int
 stores:Int
 slots:Int
 sets:Int
 ways:Int
 lat:List Int
 tables:Bool
 tape:List Nat
def a1q (a b n:Int):Int:=if max n a<b then max n a else b
def cleanCf (c : Cf) : Cf :=
  { mode := a1q 0 2 c.mode, width := a1q 1 2 c.width, rob := a1q 2 8 c.rob, queue := a1q 1 4 c.queue, stores := a1q 1 4 c.stores, slots := a1q 2 6 c.slots,
    sets := if a1q 1 4 c.sets = 3 then 2 else a1q 1 4 c.sets, ways := a1q 1 2 c.ways, lat := (c.lat.take 64).map (a1q 1 8), tables := c.tables, tape := c.tape.take 64 }
def a5t (a b n:Int):Bool:=decide (a≤n) && decide (n≤b)
def a8a (c:Cf):Bool :=
 c.lat.all (a5t 1 8) && (a5t 0 2 c.mode && (a5t 1 2 c.width && (a5t 2 8 c.rob && (a5t 1 4 c.queue && (a5t 1 4 c.stores && (a5t 2 6 c.slots && (a5t 1 4 c.sets && (decide (c.sets≠3) && (a5t 1 2 c.ways &&
  (decide (c.lat.length≤64) && decide (c.tape.length≤64)))))))))))
def a7a (c:Cf) (k:Int):Int:=if (cleanCf c).lat.length=0 then 1 else ((cleanCf c).lat[(max k 0 % (cleanCf c).lat.length).toNat]?).getD 0
def b2b (c:Cf) (k:Int) (pc:Nat):Nat:=if (cleanCf c).tape.length=0 then a1k pc 4 else ((cleanCf c).tape[(max k 0 % (cleanCf c).tape.length).toNat]?).getD 0
structure Gu where
 slots:List Sl
 hist:Nat
 rets:List Nat
def a5o (g:Gu):Bool:=decide (g.slots.length=8) && (decide (g.hist<8) && decide (g.rets.length≤4))
def a6g (g:Gu) (pc:Nat):Nat:=(pc / 4 ^^^ g.hist) % 8
def b4v (i:Ins):Bool:=decide ((i.op=3∨i.op=4)∧i.rd=1)
def b1e (i:Ins):Bool:=decide (i.op=4∧i.rd=0∧i.rs1=1)
def zsl : Sl:=⟨0,0⟩
def b7a : Gu:=⟨List.replicate 8 zsl,0,[]⟩
def a8s (g:Gu) (pc:Nat) (i:Ins):Nat :=
 if a5o g=false∨a1e i.op≠5 then a1k pc 4
 else if b1e i=true∧0<g.rets.length then g.rets[g.rets.length - 1]?.getD 0
 else let s:=g.slots[a6g g pc]?.getD zsl
  if s.pc=pc ∧ ¬ (s.pc=0∧s.next=0) then s.next else a1k pc 4
def a4d (g:Gu) (pc next:Nat) (i:Ins):Gu :=
 if a5o g=false∨a1e i.op≠5 then g else
 ⟨g.slots.set (a6g g pc) ⟨pc,next⟩,(2 * g.hist+if next=a1k pc 4 then 0 else 1) % 8,
  if b4v i=true then (if 4<g.rets.length+1 then (g.rets++[a1k pc 4]).drop 1 else g.rets++[a1k pc 4])
  else if b1e i=true∧0<g.rets.length then g.rets.take (g.rets.length - 1) else g.rets⟩
def c3u (q:List Rq) (kind:Int) (line:Nat) (left:Int) (data:ByteArray):List Rq:=q++[⟨kind,line,max left 1,data⟩]
def a3g : List Rq→List Rq × Option Rq
 | []=>([],none)
 | r::q=>if 0<r.left - 1 then ({ r with left:=r.left - 1 }::q,none) else (q,some { r with left:=r.left - 1 })
def a3r (q:List Rq) (line:Nat) (kind:Int):Bool:=q.any fun r=>decide (r.line=line) && decide (r.kind=kind)
def b3i (q:List Rq):Nat:=(q.filter fun r=>decide (r.kind≠4)).length
structure Kern where
 conf:Cf
 prog:List Nat
 cycle:Int
 regs:List Nat
 fetch:Nat
 stop:Bool
 fetched:List Fe
 rob:List En
 next:Int
 stores:List Pu
 dways:Int
 data:List (List Wy)
 wways:Int
 words:List (List Wy)
 bus:List Rq
 asked:Int
 guessed:Int
 mem:ByteArray
 guess:Gu
 halt:Int
 retired:List Stp
def a3y (k:Kern) (kind:Int) (line:Nat) (data:ByteArray):Kern:={ k with bus:=c3u k.bus kind line (a7a k.conf k.asked) data,asked:=k.asked+1 }
def a4q (k:Kern) (first:Bool):Bool:=if first=true then decide ((b3i k.bus:Int)<k.conf.slots) else decide ((b3i k.bus:Int)<k.conf.slots - 1)
def a5u (k:Kern) (line:Nat):Kern :=
 let r:=a8m k.dways k.data k.bus k.mem line (a7a k.conf k.asked)
 { k with data:=r.1,bus:=r.2.1,asked:=if r.2.2=true then k.asked+1 else k.asked }
def b3j (k:Kern):ByteArray:=a9h k.mem (a3w k.bus++a5y k.data++k.stores)
def a7b (k:Kern) (e:En):ByteArray:=b4s (b3j k) e.addr (a2p e.inst.op)
def a5p (k:Kern) (line:Nat) (e:En):En:=if e.is=2∧a1w e.addr=line then a5m { e with filled:=true } (a7b k e) else e
def a2k (k:Kern):Kern :=
 let t:=a3g k.bus
 let k1:={ k with bus:=t.1 }
 match t.2 with
 | none=>k1
 | some d=>
  if d.kind=1 then { k1 with rob:=k1.rob.map (a5p k1 d.line) }
  else if d.kind=2 then { k1 with words:=(a9f k1.wways k1.words d.line ⟨#[]⟩ false).1 }
  else if d.kind=3 then a5u k1 d.line
  else if d.kind=4 then { k1 with mem:=a9h k1.mem [⟨d.line,d.data⟩] }
  else k1
def storeAt (regs:List Nat) (q:List En) (i:Nat):List En :=
 match q[i]? with
 | none=>q
 | some e=>if a1e e.inst.op≠4 then q else if (a4c q regs i e.inst.rs2).2=true then q.set i (a8q e (a4c q regs i e.inst.rs2).1) else q
def a6h (regs:List Nat) (q:List En):List En:=(List.range q.length).foldl (storeAt regs) q
def a1y (k:Kern):Kern :=
 if k.halt≠0 then k else
 let q:=a6h k.regs (k.rob.map goE)
 match a6y q with
 | none=>{ k with rob:=q }
 | some i=>match q[i]? with
  | none=>{ k with rob:=q }
  | some e=>{ k with rob:=a7p q i e,fetch:=e.next,fetched:=[],stop:=false }
def a6n (s:Stp):Bool:=s.store && (decide (s.halt=0) && decide (s.size=1∨s.size=2∨s.size=4))
def a6i (regs:List Nat) (s:Stp):List Nat:=if 1≤s.rd∧s.rd≤31∧s.halt=0 then regs.set s.rd.toNat s.value else regs
def a2s (k:Kern):Kern × Bool :=
 if k.halt≠0 then (k,false) else
 match k.rob with
 | []=>(k,false)
 | e::r=>
  if e.is≠3 then (k,false) else
  let s:=a2j e
  if s.halt≠0 then ({ k with retired:=k.retired++[s],halt:=s.halt,rob:=[],fetched:=[],stop:=true },false)
  else if s.store=true∧k.conf.stores≤k.stores.length then (k,false)
  else
   let k1:={ k with retired:=k.retired++[s] }
   let k2:=if a6n s=true then { k1 with stores:=k1.stores++[⟨s.addr,a6d s.value s.size⟩] } else k1
   let k3:=if a1e e.inst.op=3 then a5u k2 s.addr else k2
   ({ k3 with regs:=a6i k3.regs s,guess:=a4d k3.guess s.pc s.next e.inst,rob:=r },true)
def a2n (f:Kern→Kern × Bool):Nat→Kern→Kern
 | 0,k=>k
 | n+1,k=>if (f k).2=true then a2n f n (f k).1 else (f k).1
def a2w (k:Kern):Kern:=a2n a2s k.conf.width.toNat k
def a5v (k:Kern) (i:Nat):Bool :=
 match k.rob[i]? with
 | none=>false
 | some e=>
  if e.is≠0 then false else
  let may:=a9l k.conf.mode k.rob i e
  let there:=(a4c k.rob k.regs i e.inst.rs1).2
  if a1e e.inst.op=3 then e.known || (there && may)
  else if a1e e.inst.op=4 then !e.known && (there && may)
  else (a5g k.rob k.regs i).2.2 && may
def b1f (k:Kern) (line:Nat):Bool:=(a4m k.dways k.data line).2.2 || k.rob.any fun e=>e.filled && decide (a1w e.addr=line)
def a3z (k:Kern) (i:Nat):Kern :=
 match k.rob[i]? with
 | none=>k
 | some e=>
  if e.known=false then k else
  let d:=a7q k.rob k.stores i
  let line:=a1w e.addr
  if d.1=1 then { k with rob:=k.rob.set i (a5m e d.2) }
  else if d.1≠2 then k
  else if b1f k line=true then { k with rob:=k.rob.set i (a5m e (a7b k e)) }
  else if a3r k.bus line 1=true then { k with rob:=k.rob.set i { e with is:=2 } }
  else if a4q k (decide (i≤a3p k.rob))=true∧a3r k.bus line 3=false then
   { a3y k 1 line ⟨#[]⟩ with rob:=k.rob.set i { e with is:=2 } }
  else k
def a3h (k:Kern) (i:Nat):Kern :=
 match k.rob[i]? with
 | none=>k
 | some e=>
  let s:=a5g k.rob k.regs i
  if a1e e.inst.op=4 then { k with rob:=k.rob.set i (a6m e k.mem.size s.1) }
  else if a1e e.inst.op=3 then a3z { k with rob:=k.rob.set i (a6m e k.mem.size s.1) } i
  else { k with rob:=k.rob.set i (a3l e s.1 s.2.1) }
def b9o (k:Kern):List Int:=k.rob.map fun e=>a1e e.inst.op
def b7b (k:Kern):List Bool:=(List.range k.rob.length).map (a5v k)
def b9p (k:Kern):Bool:=k.rob.any fun e=>decide (a1e e.inst.op=2) && decide (e.is=1)
def a2q (k:Kern):Kern :=
 if k.halt≠0 then k else (a3m k.conf.width (b9o k) (b7b k) 0 0 (b9p k) false).foldl (fun k i=>a3h k i.toNat) k
def a3u (k:Kern):Kern × Bool :=
 if k.conf.rob≤k.rob.length then (k,false) else
 match k.fetched with
 | []=>(k,false)
 | f::r=>({ k with rob:=k.rob++[a5n k.next f k.prog],next:=k.next+1,fetched:=r },true)
def a3c (k:Kern):Kern:=if k.halt≠0 then k else a2n a3u k.conf.width.toNat k
def a2f (k:Kern) (w:Nat):Nat × Kern :=
 match a4j w with
 | none=>(a1k k.fetch 4,k)
 | some i=>if a1e i.op≠5 then (a1k k.fetch 4,k) else
  if k.conf.tables=true then (a8s k.guess k.fetch i,k) else (b2b k.conf k.guessed k.fetch,{ k with guessed:=k.guessed+1 })
def a3v (k:Kern):Kern × Bool :=
 if k.stop=true∨k.conf.queue≤k.fetched.length then (k,false) else
 match a5f k.prog k.fetch with
 | none=>({ k with fetched:=k.fetched++[⟨k.fetch,a1k k.fetch 4⟩],stop:=true },false)
 | some w=>
  let line:=a1w k.fetch
  if (a4m k.wways k.words line).2.2=false then
   (if a3r k.bus line 2=false∧a4q k false=true then a3y k 2 line ⟨#[]⟩ else k,false)
  else
   let k1:={ k with words:=a4v k.wways k.words line }
   let b:=a2f k1 w
   ({ b.2 with fetched:=b.2.fetched++[⟨k.fetch,b.1⟩],fetch:=b.1 },true)
def a2y (k:Kern):Kern:=if k.halt≠0 then k else a2n a3v k.conf.width.toNat k
def a4x (k:Kern):Kern :=
 let d:=a4f k.dways k.stores k.data
 let k1:={ k with stores:=d.1,data:=d.2.1 }
 let k2:=match d.2.2,k1.stores with
  | false,p::_=>if a3r k1.bus (a1w p.addr) 3=false∧a4q k1 true=true then a3y k1 3 (a1w p.addr) ⟨#[]⟩ else k1
  | _,_=>k1
 if k2.stores≠[]∨k2.halt=0 then k2 else
 let y:=a2r k2.dways k2.data
 if y.2=true∧y.1.data.size≠0 then { a3y k2 4 y.1.line y.1.data with data:=a9g k2.dways k2.data y.1.line } else k2
def b1g (ways:Int) (C:List (List Wy)) (c:Cf):Bool:=b1t ways C && (decide ((C.length:Int)=c.sets) && decide (ways=c.ways))
def d2c (m:ByteArray):ByteArray:=⟨(Me.cleanL m.data.toList).toArray⟩
def a5h (k:Kern):Bool :=
 a8a k.conf && decide (k.prog.length≤64) && decide (bl k.mem=Me.cleanL (bl k.mem)) && (a8r k.rob && decide ((k.rob.length:Int)≤k.conf.rob)) && k.rob.all (fun e=>decide (e.no<k.next)) &&
 (b1g k.dways k.data k.conf && (b1g k.wways k.words k.conf && a5o k.guess)) && (decide ((k.fetched.length:Int)≤k.conf.queue) && decide ((k.stores.length:Int)≤k.conf.stores)) &&
 k.stores.all (fun p=>a7z k.mem.size p.addr p.data.size)
def a2z (k:Kern):Kern :=
 if a5h k=true then a4x (a2y (a3c (a2q (a2w (a1y (a2k { k with cycle:=k.cycle+1 })))))) else k
def newK (c : Cf) (prog : List Nat) (m : ByteArray) : Kern :=
  { conf := cleanCf c, prog := prog.take 64, cycle := 0, regs := List.replicate 32 0, fetch := 0, stop := false, fetched := [], rob := [], next := 1, stores := [],
    dways := (cleanCf c).ways, data := List.replicate (cleanCf c).sets.toNat [], wways := (cleanCf c).ways, words := List.replicate (cleanCf c).sets.toNat [], bus := [], asked := 0, guessed := 0,
    mem := d2c m, guess := b7a, halt := 0, retired := [] }
def runK : Nat→Kern→Kern
 | 0,k=>k
 | n+1,k=>runK n (a2z k)
end
section
open Go.RowKit
inductive Wtd (o:Oper) (ops:Array Oper) (tmps:Array Value):Prop
 | mk (h:Region.wanted o (yielded ops tmps)=true)
theorem Wtd.of_none {o:Oper} {ops:Array Oper} {tmps:Array Value} (h:o.guard=none):Wtd o ops tmps:=⟨by unfold Region.wanted;rw [h]⟩
theorem Wtd.of_some {o:Oper} {ops:Array Oper} {tmps:Array Value} {j:Nat} {b:Bool} (h:o.guard=some (j,b)) (hy:yielded ops tmps j=some b):Wtd o ops tmps:=⟨by unfold Region.wanted;rw [h];simp [hy]⟩
section
variable {P:Program} {ops:Array Oper} {rest:List Oper} {o:Oper} {a:Act} {Q:Exit→Act→World→Prop} {w:World}
theorem g_fldB {s f:Nat} {x:Operand} {g j off:Nat} (ho:o.op = .fieldAddr s x f) (hx:a1b a x=some (.pointer (some ⟨g,j,none⟩))) (hw:Wtd o ops a.tmps)
  (h:wpList P ops Q rest (a.put o.dst (.pointer (some ⟨g,j+off,none⟩))) w) (ht:FldT P s f off:=by exact b3c _ _ _ rfl):wpList P ops Q (o::rest) a w:=w_fldB ho hx h ht hw.1
theorem g_fld {s f:Nat} {x:Operand} {w0:World} {D0 D:List Da} {M:List Mu} {A:Option Addr} {j off sz n c:Nat} {xs:List Value} (ho:o.op = .fieldAddr s x f) (hF:St w0 D0 w M D) (hx:a1b a x=some (ept A j)) (hw:Wtd o ops a.tmps)
  (h:wpList P ops Q rest (a.put o.dst (ept A (j+off))) w) (ht:FldT P s f off:=by exact b3c _ _ _ rfl) (hd:a1a sz A n c xs∈D:=by exact zdm) (hn:0<n:=by (first|assumption|omega|exact Nat.zero_lt_of_lt (by assumption)|exact Nat.succ_pos _)):wpList P ops Q (o::rest) a w:=w_fld ho hF hx h ht hw.1 hd hn
theorem g_skip {j:Nat} {b c:Bool} (hg:o.guard=some (j,b)) (hy:yielded ops a.tmps j=some c) (hc:(c == b)=false) (h:wpList P ops Q rest (a.put o.dst undef) w):wpList P ops Q (o::rest) a w :=
 wpList_skip (by unfold Region.wanted;rw [hg];simp only [hy];cases b <;> cases c <;> first|rfl|cases hc) h
end
end
end Go.Proofs.YtgnomadgnciifaaGreatDoor
