/- Joined: In1, Alu, Sq2, In2, Alu2, CWithR, VBase, Sq1, CFirstR, VR, In3, VB. -/
import Derived.Test.YtgnomadgnciifaaGreatDoorZH0
import Derived.Test.YtgnomadgnciifaaGreatDoorZ3
import Derived.Test.YtgnomadgnciifaaGreatDoorZ4
import Derived.Test.YtgnomadgnciifaaGreatDoorZ1
import Derived.Laws.BitsAllLaws
import Derived.Lib.BitFns
import Derived.Laws.StructEq
set_option linter.unusedVariables false
set_option linter.unusedSimpArgs false
set_option linter.unusedSectionVars false
set_option maxRecDepth 100000
set_option maxHeartbeats 16000000
namespace Go.Proofs.YtgnomadgnciifaaGreatDoor
theorem z5x0 {p:Prop} (h:p:=by
 have hF:=St.start w [] (fun d hd=>by cases hd)
 go_enter Tryz.func146,Tryz.ntmps146
 go_wp2_with ((first|((refine w_sp2 rfl hF rfl rfl ?_;clear hF;intro gN wN hF);(try simp only [zA,Nat.reduceAdd]))|((refine w_sp4 rfl hF rfl rfl rfl rfl ?_;clear hF;intro gN wN hF);(try simp only [zA,Nat.reduceAdd]))|((first|refine zrg ?_|(refine zst ?_;clear hF;(first|intro gN wN hF|intro wN hF|intro hF))|(refine zap ?_;clear hF;intro vN wN hF));(try simp only [zA,Nat.reduceAdd]))))
 go_returns
 obtain ⟨A,c,e1,hF3⟩:=hF.freeze 0 at0
 injection e1 with e1 _ e2
 exact ⟨_,_,rfl,by subst e1 e2;exact hF3.outA⟩):p:=h
theorem z5x1 {p:Prop} (h:p:=by
 go_enter Tryz.func219,Tryz.ntmps219
 go_wp2
 go_ret
 exact ⟨congrArg Ending.returned (congrArg Value.bool (by first|rfl|(rw [sg_eq ha,sg_eq hb])|(rw [sg_eq ha,sg_eq hb];simp;done)|(simp;done)|(simp [bne];done)|(rw [Bool.eq_iff_iff];simp;omega))),rfl⟩):p:=h
theorem z5x2 {p:Prop} (h:p:=by
 have hF:=St.start w [] (fun d hd=>by cases hd)
 go_enter Tryz.func146,Tryz.ntmps146
 go_wp2_with (((first|refine zrg ?_|(refine zst ?_;clear hF;(first|intro gN wN hF|intro wN hF|intro hF))|(refine zap ?_;clear hF;intro vN wN hF));(try simp only [zA,Nat.reduceAdd])))
 go_returns
 have hF2:=hF.nil 240 2
 obtain ⟨A,c,e1,hF3⟩:=hF2.freeze 0 at0
 injection e1 with e1 _ e2
 exact ⟨none,0,rfl,by subst e1 e2;exact hF3.outA⟩):p:=h
theorem z5x3 {p:Prop} (h:p:=by
 (go_wp2_with ((try simp only [zA,Nat.reduceAdd]);(first|refine zg48 ?_|(refine zg97 ?_;clear hF;(first|intro gN wN hF|intro wN hF|intro hF))|(refine zg15 ?_;clear hF;intro vN wN hF))))
 go_roundw
 case rel=>exact ⟨k+1,by omega,by go_num,hb,hF.drop 0⟩
 case measure=>first|(simp [intOf];done)|(simp [intOf];omega)):p:=h
theorem z5x4 {p:Prop} (h:p:=by
 go_enter Tryz.func206,Tryz.ntmps206
 go_wp2
 go_ret
 exact ⟨val_u32 (by first|exact m38 a b ha hb|exact m41 a b ha hb|(rw [sg64 ha,sg64 hb];exact hi64 _)|(rw [sg64 ha];exact hi64 _)),rfl⟩):p:=h
theorem z5x5 {p:Prop} (h:p:=by
 have hb2:bits .and .u32 (b:Int) 31=((b % 32:Nat):Int):=by rw [← nat_mask5];exact u32_and_nat b 31 hb (by omega)
 have hb3:b % 32<32:=Nat.mod_lt _ (by omega)
 have h1:=u32_and_nat a b ha hb
 have h2:=u32_or_nat a b ha hb
 have h3:=u32_xor_nat a b ha hb
 go_enter Tryz.func209,Tryz.ntmps209
 go_wp2_with (go_at_call 217;refine (truth_any _ _).mono ?_;rintro e w' ⟨rfl,rfl⟩)
 go_ret
 exact ⟨val_u32 (e_sltu a b ha hb),rfl⟩):p:=h
theorem z5x6 {p:Prop} (h:p:=by
 have hb2:bits .and .u32 (b:Int) 31=((b % 32:Nat):Int):=by rw [← nat_mask5];exact u32_and_nat b 31 hb (by omega)
 have hb3:b % 32<32:=Nat.mod_lt _ (by omega)
 have h1:=u32_and_nat a b ha hb
 have h2:=u32_or_nat a b ha hb
 have h3:=u32_xor_nat a b ha hb
 go_enter Tryz.func209,Tryz.ntmps209
 go_wp2_with (go_at_call 217;refine (truth_any _ _).mono ?_;rintro e w' ⟨rfl,rfl⟩)
 go_ret
 exact ⟨val_u32 (e_add a b ha hb),rfl⟩):p:=h
theorem z5x7 {p:Prop} (h:p:=by
 have hb2:bits .and .u32 (b:Int) 31=((b % 32:Nat):Int):=by rw [← nat_mask5];exact u32_and_nat b 31 hb (by omega)
 have hb3:b % 32<32:=Nat.mod_lt _ (by omega)
 have h1:=u32_and_nat a b ha hb
 have h2:=u32_or_nat a b ha hb
 have h3:=u32_xor_nat a b ha hb
 go_enter Tryz.func209,Tryz.ntmps209
 go_wp2_with (go_at_call 217;refine (truth_any _ _).mono ?_;rintro e w' ⟨rfl,rfl⟩)
 go_ret
 exact ⟨val_u32 (e_and a b ha hb),rfl⟩):p:=h
theorem z5x8 {p:Prop} (h:p:=by
 have hb2:bits .and .u32 (b:Int) 31=((b % 32:Nat):Int):=by rw [← nat_mask5];exact u32_and_nat b 31 hb (by omega)
 have hb3:b % 32<32:=Nat.mod_lt _ (by omega)
 have h1:=u32_and_nat a b ha hb
 have h2:=u32_or_nat a b ha hb
 have h3:=u32_xor_nat a b ha hb
 go_enter Tryz.func209,Tryz.ntmps209
 go_wp2_with (go_at_call 217;refine (truth_any _ _).mono ?_;rintro e w' ⟨rfl,rfl⟩)
 go_ret
 exact ⟨val_u32 (e_xor a b ha hb),rfl⟩):p:=h
theorem z5x9 {p:Prop} (h:p:=by
 have hb2:bits .and .u32 (b:Int) 31=((b % 32:Nat):Int):=by rw [← nat_mask5];exact u32_and_nat b 31 hb (by omega)
 have hb3:b % 32<32:=Nat.mod_lt _ (by omega)
 have h1:=u32_and_nat a b ha hb
 have h2:=u32_or_nat a b ha hb
 have h3:=u32_xor_nat a b ha hb
 go_enter Tryz.func209,Tryz.ntmps209
 go_wp2_with (go_at_call 217;refine (truth_any _ _).mono ?_;rintro e w' ⟨rfl,rfl⟩)
 go_ret
 exact ⟨val_u32 (e_shl a b ha hb),rfl⟩):p:=h
theorem z5x10 {p:Prop} (h:p:=by
 have hb2:bits .and .u32 (b:Int) 31=((b % 32:Nat):Int):=by rw [← nat_mask5];exact u32_and_nat b 31 hb (by omega)
 have hb3:b % 32<32:=Nat.mod_lt _ (by omega)
 have h1:=u32_and_nat a b ha hb
 have h2:=u32_or_nat a b ha hb
 have h3:=u32_xor_nat a b ha hb
 go_enter Tryz.func209,Tryz.ntmps209
 go_wp2_with (go_at_call 217;refine (truth_any _ _).mono ?_;rintro e w' ⟨rfl,rfl⟩)
 go_ret
 exact ⟨val_u32 (e_shr a b ha hb),rfl⟩):p:=h
theorem z5x11 {p:Prop} (h:p:=by
 have hb2:bits .and .u32 (b:Int) 31=((b % 32:Nat):Int):=by rw [← nat_mask5];exact u32_and_nat b 31 hb (by omega)
 have hb3:b % 32<32:=Nat.mod_lt _ (by omega)
 have h1:=u32_and_nat a b ha hb
 have h2:=u32_or_nat a b ha hb
 have h3:=u32_xor_nat a b ha hb
 go_enter Tryz.func209,Tryz.ntmps209
 go_wp2_with (go_at_call 217;refine (truth_any _ _).mono ?_;rintro e w' ⟨rfl,rfl⟩)
 go_ret
 exact ⟨val_u32 (e_sra a b ha hb),rfl⟩):p:=h
theorem z5x12 {p:Prop} (h:p:=by
 have hb2:bits .and .u32 (b:Int) 31=((b % 32:Nat):Int):=by rw [← nat_mask5];exact u32_and_nat b 31 hb (by omega)
 have hb3:b % 32<32:=Nat.mod_lt _ (by omega)
 have h1:=u32_and_nat a b ha hb
 have h2:=u32_or_nat a b ha hb
 have h3:=u32_xor_nat a b ha hb
 go_enter Tryz.func209,Tryz.ntmps209
 go_wp2_with (go_at_call 217;refine (truth_any _ _).mono ?_;rintro e w' ⟨rfl,rfl⟩)
 go_ret
 exact ⟨val_u32 (e_slt a b ha hb),rfl⟩):p:=h
theorem z5x13 {p:Prop} (h:p:=by
 have hb2:bits .and .u32 (b:Int) 31=((b % 32:Nat):Int):=by rw [← nat_mask5];exact u32_and_nat b 31 hb (by omega)
 have hb3:b % 32<32:=Nat.mod_lt _ (by omega)
 have h1:=u32_and_nat a b ha hb
 have h2:=u32_or_nat a b ha hb
 have h3:=u32_xor_nat a b ha hb
 go_enter Tryz.func209,Tryz.ntmps209
 go_wp2_with (go_at_call 217;refine (truth_any _ _).mono ?_;rintro e w' ⟨rfl,rfl⟩)
 go_ret
 exact ⟨val_u32 (e_or a b ha hb),rfl⟩):p:=h
theorem z5x14 {p:Prop} (h:p:=by
 (go_wp2_with ((try simp only [zA,Nat.reduceAdd]);(first|refine zg48 ?_|(refine zg97 ?_;clear hF;(first|intro gN wN hF|intro wN hF|intro hF))|(refine zg15 ?_;clear hF;intro vN wN hF))))
 go_ret
 exact ⟨by unfold wrongI;rw [hR.out];rfl,hF.bel⟩):p:=h
theorem z5x15 {p:Prop} (h:p:=by
 cases hq:P.info? e with
 | none=>simp [hq] at hi
 | some i=>
  have:i.size=1:=by simpa [hq] using hi
  simp [sizeOf,typeInfo,hq,this]):p:=h
section
open Go.RowKit Wd
section
variable {P:Program} {ops:Array Oper} {rest:List Oper} {o:Oper} {a:Act} {Q:Exit→Act→World→Prop} {w0 w:World} {D0 D:List Da} {M:List Mu} {B:Nat} {Mr:List Mu} {Dr:List Da} {S:World→Prop}
inductive ArT (P:Program) (t e:TypeId) (n:Nat):Prop
 | mk (hu:P.underlying t=some (.array n e)) (hi:(P.info? e).map (·.size)=some 1)
theorem run_gix {w:World} {t e:TypeId} {gl n k:Nat} {ki:IntKind} (ht:ArT P t e n) (hk:k<n):(Instr.indexAt t (.pointer (some ⟨gl,0,none⟩)) (.int ki (k:Int))).run P w = .ok (ept (some ⟨gl,0,none⟩) (k * 1)) w:=by
 obtain ⟨hu,hi⟩:=ht
 have hs:(sizeOf e).run P w = .ok 1 w:=by
  exact z5x15
 simp [Instr.indexAt,run_underlying hu,asIntOf,hs,ept,Instr.sureAddr,show (k:Int)<(n:Int) by omega]
 intro h;omega
theorem y_gix {t e:TypeId} {gl n k:Nat} {ix:Operand} {ki:IntKind} (ho:o.op = .indexAddr t (.global gl) ix) (hk:look a ix=some (.int ki (k:Int))) (ht:ArT P t e n) (hkn:k<n:=by (first|assumption|omega|exact Nat.zero_lt_of_lt (by assumption)|exact Nat.succ_pos _)) (hw:Region.wanted o (yielded ops a.tmps)=true:=by rfl) :
  YieldsIf P ops S o (ept (some ⟨gl,0,none⟩) (k * 1)) a:=by
 replace hk:=look_eval hk
 have hg:a.eval (.global gl) = .pointer (some ⟨gl,0,none⟩):=rfl
 refine yi_pure hw fun w=>?_
 unfold execOp
 simp only [ho,hk,hg,run_gix ht hkn,Sem.run_bind,Sem.run_pure,Result.andThen_ok]
theorem run_sp2 {w:World} {t e:TypeId} {z:Value} {bytes:Nat} (ht:SlT P t e z 2 bytes) (hz:z.cells=#[.int .i64 0,.int .i64 0]) (p q r s:Int) :
  (Instr.buildSlice t 2 #[(0,.agg #[.int .i64 p,.int .i64 q]),(1,.agg #[.int .i64 r,.int .i64 s])]).run P w = .ok (.slice (some ⟨w.heap.size,0,none⟩) 2 2) (w.alloc (.cells #[.int .i64 p,.int .i64 q,.int .i64 r,.int .i64 s] e)):=by
 obtain ⟨hu,hi,hzz,hp⟩:=ht
 obtain ⟨i,hi1,hz1,hs1,_⟩:=info_parts hi
 refine run_buildSlice w t e 2 _ #[.int .i64 p,.int .i64 q,.int .i64 r,.int .i64 s] i z hu hi1 hz1 (by rw [hs1];omega) (by rw [hs1];omega) ?_
 rw [hs1,show Array.range (2 * 2)=#[0,1,2,3] from rfl,hz]
 simp [Instr.fill,Value.cells]
theorem run_sp4 {w:World} {t e:TypeId} {z:Value} {bytes:Nat} (ht:SlT P t e z 2 bytes) (hz:z.cells=#[.int .i64 0,.int .i64 0]) (p q r s p' q' r' s':Int) :
  (Instr.buildSlice t 4 #[(0,.agg #[.int .i64 p,.int .i64 q]),(1,.agg #[.int .i64 r,.int .i64 s]),(2,.agg #[.int .i64 p',.int .i64 q']),(3,.agg #[.int .i64 r',.int .i64 s'])]).run P w =
   .ok (.slice (some ⟨w.heap.size,0,none⟩) 4 4) (w.alloc (.cells #[.int .i64 p,.int .i64 q,.int .i64 r,.int .i64 s,.int .i64 p',.int .i64 q',.int .i64 r',.int .i64 s'] e)):=by
 obtain ⟨hu,hi,hzz,hp⟩:=ht
 obtain ⟨i,hi1,hz1,hs1,_⟩:=info_parts hi
 refine run_buildSlice w t e 4 _ #[.int .i64 p,.int .i64 q,.int .i64 r,.int .i64 s,.int .i64 p',.int .i64 q',.int .i64 r',.int .i64 s'] i z hu hi1 hz1 (by rw [hs1];omega) (by rw [hs1];omega) ?_
 rw [hs1,show Array.range (4 * 2)=#[0,1,2,3,4,5,6,7] from rfl,hz]
 simp [Instr.fill,Value.cells]
theorem own_lit {w:World} (hb:w0.heap.size≤w.heap.size) {e:TypeId} {sz n:Nat} (cs:List Value) (hl:cs.length=n * sz) (hn:n≤100):(w.alloc (.cells cs.toArray e)).ownsRow w0.heap.size e sz (.slice (some ⟨w.heap.size,0,none⟩) n n) n cs :=
 ⟨hl,.inr ⟨w.heap.size,n,cs.toArray,rfl,hb,heap_alloc_new w _,Nat.le_refl _,by unfold maxLen;omega,by simp [hl],by rw [List.take_of_length_le (by simp [hl])]⟩⟩
theorem w_sp2 {t e:TypeId} {x y:Operand} {z:Value} {bytes:Nat} {p q r s:Int} (ho:o.op = .buildSlice t 2 #[(0,x),(1,y)]) (hF:St w0 D0 w M D) (hx:look a x=some (.agg #[.int .i64 p,.int .i64 q])) (hy:look a y=some (.agg #[.int .i64 r,.int .i64 s]))
  (h:∀ g w',St w0 D0 w' (.own (.slice (some ⟨g,0,none⟩) 2 2) e 2 2 [.int .i64 p,.int .i64 q,.int .i64 r,.int .i64 s]::M) D→wpList P ops Q rest (a.put o.dst (.slice (some ⟨g,0,none⟩) 2 2)) w') (hgd:o.guard=none:=by rfl) (ht:SlT P t e z 2 bytes:=by exact tySl _ _ _ _ _ rfl) (hz:z.cells=#[.int .i64 0,.int .i64 0]:=by rfl):wpList P ops Q (o::rest) a w:=by
 refine wpList_plain hgd fun K hK=>?_
 have hF':St w0 D0 (w.alloc (.cells #[.int .i64 p,.int .i64 q,.int .i64 r,.int .i64 s] e)) (.own (.slice (some ⟨w.heap.size,0,none⟩) 2 2) e 2 2 [.int .i64 p,.int .i64 q,.int .i64 r,.int .i64 s]::M) D :=
  hF.push _ (grown_of_bel (Bel.alloc w _) none) (own_lit hF.bel.size [.int .i64 p,.int .i64 q,.int .i64 r,.int .i64 s] rfl (by omega)) fun g hg=>by simp only [Mu.bl,Value.ownBlock,Option.some.injEq] at hg;omega
 have hk:=hK _ _ (h _ _ hF')
 replace hx:=look_eval hx
 replace hy:=look_eval hy
 unfold Oper.wp execOp
 simp only [ho,List.map_toArray,List.map_cons,List.map_nil,hx,hy,run_sp2 ht hz,Sem.run_bind,Sem.run_pure,Result.andThen_ok]
 exact hk
theorem w_sp4 {t e:TypeId} {x y x' y':Operand} {z:Value} {bytes:Nat} {p q r s p' q' r' s':Int} (ho:o.op = .buildSlice t 4 #[(0,x),(1,y),(2,x'),(3,y')]) (hF:St w0 D0 w M D) (hx:look a x=some (.agg #[.int .i64 p,.int .i64 q])) (hy:look a y=some (.agg #[.int .i64 r,.int .i64 s])) (hx':look a x'=some (.agg #[.int .i64 p',.int .i64 q'])) (hy':look a y'=some (.agg #[.int .i64 r',.int .i64 s']))
  (h:∀ g w',St w0 D0 w' (.own (.slice (some ⟨g,0,none⟩) 4 4) e 2 4 [.int .i64 p,.int .i64 q,.int .i64 r,.int .i64 s,.int .i64 p',.int .i64 q',.int .i64 r',.int .i64 s']::M) D→wpList P ops Q rest (a.put o.dst (.slice (some ⟨g,0,none⟩) 4 4)) w') (hgd:o.guard=none:=by rfl) (ht:SlT P t e z 2 bytes:=by exact tySl _ _ _ _ _ rfl) (hz:z.cells=#[.int .i64 0,.int .i64 0]:=by rfl):wpList P ops Q (o::rest) a w:=by
 refine wpList_plain hgd fun K hK=>?_
 have hF':St w0 D0 (w.alloc (.cells #[.int .i64 p,.int .i64 q,.int .i64 r,.int .i64 s,.int .i64 p',.int .i64 q',.int .i64 r',.int .i64 s'] e)) (.own (.slice (some ⟨w.heap.size,0,none⟩) 4 4) e 2 4 [.int .i64 p,.int .i64 q,.int .i64 r,.int .i64 s,.int .i64 p',.int .i64 q',.int .i64 r',.int .i64 s']::M) D :=
  hF.push _ (grown_of_bel (Bel.alloc w _) none) (own_lit hF.bel.size [.int .i64 p,.int .i64 q,.int .i64 r,.int .i64 s,.int .i64 p',.int .i64 q',.int .i64 r',.int .i64 s'] rfl (by omega)) fun g hg=>by simp only [Mu.bl,Value.ownBlock,Option.some.injEq] at hg;omega
 have hk:=hK _ _ (h _ _ hF')
 replace hx:=look_eval hx
 replace hy:=look_eval hy
 replace hx':=look_eval hx'
 replace hy':=look_eval hy'
 unfold Oper.wp execOp
 simp only [ho,List.map_toArray,List.map_cons,List.map_nil,hx,hy,hx',hy',run_sp4 ht hz,Sem.run_bind,Sem.run_pure,Result.andThen_ok]
 exact hk
end
theorem form_cases (op:Int):formL op=0∨formL op=1∨formL op=2∨formL op=3∨formL op=4∨formL op=5∨formL op=6∨formL op=7∨formL op=8:=by
 unfold formL
 repeat' split
 all_goals simp
theorem form_is (op:Int):formI op=formL op:=rfl
theorem fixed_0 (w:World):Calls Tryz.prog 183 #[.int .i64 0] w fun e w'=>e = .returned (.int .u32 (fixedL 0:Int))∧w'=w:=by
 go_enter Tryz.func183,Tryz.ntmps183
 go_wp2
 go_ret
 exact ⟨rfl,rfl⟩
theorem has3_0 (w:World):Calls Tryz.prog 106 #[.int .i64 0] w fun e w'=>e = .returned (.tuple #[.bool (hasL3 0).1,.bool (hasL3 0).2.1,.bool (hasL3 0).2.2])∧w'=w:=by
 go_enter Tryz.func106,Tryz.ntmps106
 go_wp2
 go_returns
 exact ⟨rfl,rfl⟩
theorem fixed_1 (w:World):Calls Tryz.prog 183 #[.int .i64 1] w fun e w'=>e = .returned (.int .u32 (fixedL 1:Int))∧w'=w:=by
 go_enter Tryz.func183,Tryz.ntmps183
 go_wp2
 go_ret
 exact ⟨rfl,rfl⟩
theorem has3_1 (w:World):Calls Tryz.prog 106 #[.int .i64 1] w fun e w'=>e = .returned (.tuple #[.bool (hasL3 1).1,.bool (hasL3 1).2.1,.bool (hasL3 1).2.2])∧w'=w:=by
 go_enter Tryz.func106,Tryz.ntmps106
 go_wp2
 go_returns
 exact ⟨rfl,rfl⟩
theorem fixed_2 (w:World):Calls Tryz.prog 183 #[.int .i64 2] w fun e w'=>e = .returned (.int .u32 (fixedL 2:Int))∧w'=w:=by
 go_enter Tryz.func183,Tryz.ntmps183
 go_wp2
 go_ret
 exact ⟨rfl,rfl⟩
theorem has3_2 (w:World):Calls Tryz.prog 106 #[.int .i64 2] w fun e w'=>e = .returned (.tuple #[.bool (hasL3 2).1,.bool (hasL3 2).2.1,.bool (hasL3 2).2.2])∧w'=w:=by
 go_enter Tryz.func106,Tryz.ntmps106
 go_wp2
 go_returns
 exact ⟨rfl,rfl⟩
theorem fixed_3 (w:World):Calls Tryz.prog 183 #[.int .i64 3] w fun e w'=>e = .returned (.int .u32 (fixedL 3:Int))∧w'=w:=by
 go_enter Tryz.func183,Tryz.ntmps183
 go_wp2
 go_ret
 exact ⟨rfl,rfl⟩
theorem has3_3 (w:World):Calls Tryz.prog 106 #[.int .i64 3] w fun e w'=>e = .returned (.tuple #[.bool (hasL3 3).1,.bool (hasL3 3).2.1,.bool (hasL3 3).2.2])∧w'=w:=by
 go_enter Tryz.func106,Tryz.ntmps106
 go_wp2
 go_returns
 exact ⟨rfl,rfl⟩
theorem fixed_4 (w:World):Calls Tryz.prog 183 #[.int .i64 4] w fun e w'=>e = .returned (.int .u32 (fixedL 4:Int))∧w'=w:=by
 go_enter Tryz.func183,Tryz.ntmps183
 go_wp2
 go_ret
 exact ⟨rfl,rfl⟩
theorem has3_4 (w:World):Calls Tryz.prog 106 #[.int .i64 4] w fun e w'=>e = .returned (.tuple #[.bool (hasL3 4).1,.bool (hasL3 4).2.1,.bool (hasL3 4).2.2])∧w'=w:=by
 go_enter Tryz.func106,Tryz.ntmps106
 go_wp2
 go_returns
 exact ⟨rfl,rfl⟩
theorem fixed_5 (w:World):Calls Tryz.prog 183 #[.int .i64 5] w fun e w'=>e = .returned (.int .u32 (fixedL 5:Int))∧w'=w:=by
 go_enter Tryz.func183,Tryz.ntmps183
 go_wp2
 go_ret
 exact ⟨rfl,rfl⟩
theorem has3_5 (w:World):Calls Tryz.prog 106 #[.int .i64 5] w fun e w'=>e = .returned (.tuple #[.bool (hasL3 5).1,.bool (hasL3 5).2.1,.bool (hasL3 5).2.2])∧w'=w:=by
 go_enter Tryz.func106,Tryz.ntmps106
 go_wp2
 go_returns
 exact ⟨rfl,rfl⟩
theorem fixed_6 (w:World):Calls Tryz.prog 183 #[.int .i64 6] w fun e w'=>e = .returned (.int .u32 (fixedL 6:Int))∧w'=w:=by
 go_enter Tryz.func183,Tryz.ntmps183
 go_wp2
 go_ret
 exact ⟨rfl,rfl⟩
theorem has3_6 (w:World):Calls Tryz.prog 106 #[.int .i64 6] w fun e w'=>e = .returned (.tuple #[.bool (hasL3 6).1,.bool (hasL3 6).2.1,.bool (hasL3 6).2.2])∧w'=w:=by
 go_enter Tryz.func106,Tryz.ntmps106
 go_wp2
 go_returns
 exact ⟨rfl,rfl⟩
theorem fixed_7 (w:World):Calls Tryz.prog 183 #[.int .i64 7] w fun e w'=>e = .returned (.int .u32 (fixedL 7:Int))∧w'=w:=by
 go_enter Tryz.func183,Tryz.ntmps183
 go_wp2
 go_ret
 exact ⟨rfl,rfl⟩
theorem has3_7 (w:World):Calls Tryz.prog 106 #[.int .i64 7] w fun e w'=>e = .returned (.tuple #[.bool (hasL3 7).1,.bool (hasL3 7).2.1,.bool (hasL3 7).2.2])∧w'=w:=by
 go_enter Tryz.func106,Tryz.ntmps106
 go_wp2
 go_returns
 exact ⟨rfl,rfl⟩
theorem fixed_8 (w:World):Calls Tryz.prog 183 #[.int .i64 8] w fun e w'=>e = .returned (.int .u32 (fixedL 8:Int))∧w'=w:=by
 go_enter Tryz.func183,Tryz.ntmps183
 go_wp2
 go_ret
 exact ⟨rfl,rfl⟩
theorem has3_8 (w:World):Calls Tryz.prog 106 #[.int .i64 8] w fun e w'=>e = .returned (.tuple #[.bool (hasL3 8).1,.bool (hasL3 8).2.1,.bool (hasL3 8).2.2])∧w'=w:=by
 go_enter Tryz.func106,Tryz.ntmps106
 go_wp2
 go_returns
 exact ⟨rfl,rfl⟩
theorem fixed_any (f:Int) (w:World) (h:f=0∨f=1∨f=2∨f=3∨f=4∨f=5∨f=6∨f=7∨f=8):Calls Tryz.prog 183 #[.int .i64 f] w fun e w'=>e = .returned (.int .u32 (fixedL f:Int))∧w'=w:=by
 rcases h with rfl|rfl|rfl|rfl|rfl|rfl|rfl|rfl|rfl
 ·exact fixed_0 w
 ·exact fixed_1 w
 ·exact fixed_2 w
 ·exact fixed_3 w
 ·exact fixed_4 w
 ·exact fixed_5 w
 ·exact fixed_6 w
 ·exact fixed_7 w
 ·exact fixed_8 w
theorem has3_any (f:Int) (w:World) (h:f=0∨f=1∨f=2∨f=3∨f=4∨f=5∨f=6∨f=7∨f=8):Calls Tryz.prog 106 #[.int .i64 f] w fun e w'=>e = .returned (.tuple #[.bool (hasL3 f).1,.bool (hasL3 f).2.1,.bool (hasL3 f).2.2])∧w'=w:=by
 rcases h with rfl|rfl|rfl|rfl|rfl|rfl|rfl|rfl|rfl
 ·exact has3_0 w
 ·exact has3_1 w
 ·exact has3_2 w
 ·exact has3_3 w
 ·exact has3_4 w
 ·exact has3_5 w
 ·exact has3_6 w
 ·exact has3_7 w
 ·exact has3_8 w
def spOf (l:List (Int × Int)):List Spn:=l.map fun p=>⟨p.1,p.2⟩
instance spnsRows : Rows spns Spn.cells 2:=⟨fun _=>rfl,fun _=>rfl,Spn.one,by decide⟩
theorem number_0 (w:World):Calls Tryz.prog 146 #[.int .i64 0] w fun e w'=>∃ A c,e = .returned (.tuple #[.slice A (numberL 0).1.length c,.int .i64 ((numberL 0).2:Int)])∧Out w [] w' [rowD 2 A (numberL 0).1.length c (spns (spOf (numberL 0).1))]:=by
 exact z5x2
theorem number_1 (w:World):Calls Tryz.prog 146 #[.int .i64 1] w fun e w'=>∃ A c,e = .returned (.tuple #[.slice A (numberL 1).1.length c,.int .i64 ((numberL 1).2:Int)])∧Out w [] w' [rowD 2 A (numberL 1).1.length c (spns (spOf (numberL 1).1))]:=by
 exact z5x2
theorem number_8 (w:World):Calls Tryz.prog 146 #[.int .i64 8] w fun e w'=>∃ A c,e = .returned (.tuple #[.slice A (numberL 8).1.length c,.int .i64 ((numberL 8).2:Int)])∧Out w [] w' [rowD 2 A (numberL 8).1.length c (spns (spOf (numberL 8).1))]:=by
 exact z5x2
theorem number_2 (w:World):Calls Tryz.prog 146 #[.int .i64 2] w fun e w'=>∃ A c,e = .returned (.tuple #[.slice A (numberL 2).1.length c,.int .i64 ((numberL 2).2:Int)])∧Out w [] w' [rowD 2 A (numberL 2).1.length c (spns (spOf (numberL 2).1))]:=by
 exact z5x0
theorem number_3 (w:World):Calls Tryz.prog 146 #[.int .i64 3] w fun e w'=>∃ A c,e = .returned (.tuple #[.slice A (numberL 3).1.length c,.int .i64 ((numberL 3).2:Int)])∧Out w [] w' [rowD 2 A (numberL 3).1.length c (spns (spOf (numberL 3).1))]:=by
 exact z5x0
theorem number_4 (w:World):Calls Tryz.prog 146 #[.int .i64 4] w fun e w'=>∃ A c,e = .returned (.tuple #[.slice A (numberL 4).1.length c,.int .i64 ((numberL 4).2:Int)])∧Out w [] w' [rowD 2 A (numberL 4).1.length c (spns (spOf (numberL 4).1))]:=by
 exact z5x0
theorem number_5 (w:World):Calls Tryz.prog 146 #[.int .i64 5] w fun e w'=>∃ A c,e = .returned (.tuple #[.slice A (numberL 5).1.length c,.int .i64 ((numberL 5).2:Int)])∧Out w [] w' [rowD 2 A (numberL 5).1.length c (spns (spOf (numberL 5).1))]:=by
 exact z5x0
theorem number_6 (w:World):Calls Tryz.prog 146 #[.int .i64 6] w fun e w'=>∃ A c,e = .returned (.tuple #[.slice A (numberL 6).1.length c,.int .i64 ((numberL 6).2:Int)])∧Out w [] w' [rowD 2 A (numberL 6).1.length c (spns (spOf (numberL 6).1))]:=by
 exact z5x0
theorem number_7 (w:World):Calls Tryz.prog 146 #[.int .i64 7] w fun e w'=>∃ A c,e = .returned (.tuple #[.slice A (numberL 7).1.length c,.int .i64 ((numberL 7).2:Int)])∧Out w [] w' [rowD 2 A (numberL 7).1.length c (spns (spOf (numberL 7).1))]:=by
 exact z5x0
theorem number_any (f:Int) (w:World) (h:f=0∨f=1∨f=2∨f=3∨f=4∨f=5∨f=6∨f=7∨f=8):Calls Tryz.prog 146 #[.int .i64 f] w fun e w'=>∃ A c,e = .returned (.tuple #[.slice A (numberL f).1.length c,.int .i64 ((numberL f).2:Int)])∧Out w [] w' [rowD 2 A (numberL f).1.length c (spns (spOf (numberL f).1))]:=by
 rcases h with rfl|rfl|rfl|rfl|rfl|rfl|rfl|rfl|rfl
 ·exact number_0 w
 ·exact number_1 w
 ·exact number_2 w
 ·exact number_3 w
 ·exact number_4 w
 ·exact number_5 w
 ·exact number_6 w
 ·exact number_7 w
 ·exact number_8 w
end
section
open Go.RowKit Wd
theorem truth_any (b:Bool) (w:World):Calls Tryz.prog 217 #[.bool b] w fun e w'=>e = .returned (.int .u32 (truthN b:Int))∧w'=w:=by
 cases b
 all_goals
  go_enter Tryz.func217,Tryz.ntmps217
  go_wp2
  go_ret
  exact ⟨rfl,rfl⟩
theorem sg_eq {a:Nat} (h:a<4294967296):wrap32 (a:Int)=sg a:=by
 unfold wrap32 sg;split <;> omega
theorem un_eq (x:Int):((un x:Nat):Int)=x % 4294967296:=by unfold un;omega
theorem un_lt (x:Int):un x<4294967296:=by unfold un;omega
theorem shl_c (a s:Nat):(a:Int) * 2 ^ s % 4294967296=((a * 2 ^ s % 4294967296:Nat):Int):=by
 rw [int_pow];omega
theorem shr_c (a s:Nat):(a:Int) / 2 ^ s=((a / 2 ^ s:Nat):Int):=by
 rw [int_pow];omega
theorem truthN_lt (b:Bool):truthN b<4294967296:=by cases b <;> decide
theorem aluL_lt {op:Int} {a b:Nat} (ha:a<4294967296) (hb:b<4294967296):aluL op a b<4294967296:=by
 unfold aluL add32 sub32
 have h1:a &&& b<4294967296:=Nat.lt_of_le_of_lt Nat.and_le_left ha
 have h2:a ||| b<4294967296:=Nat.or_lt_two_pow (n:=32) ha hb
 have h3:a ^^^ b<4294967296:=Nat.xor_lt_two_pow (n:=32) ha hb
 have h4:a / 2 ^ (b % 32)<4294967296:=Nat.lt_of_le_of_lt (Nat.div_le_self _ _) ha
 have h5:=un_lt (sg a / 2 ^ (b % 32))
 have h6:=truthN_lt
 repeat' split
 all_goals first|assumption|exact h6 _|omega
section
variable (a b:Nat) (ha:a<4294967296) (hb:b<4294967296)
include ha hb
theorem e_add : ((a:Int)+(b:Int)) % 4294967296=((add32 a b:Nat):Int):=by unfold add32;omega
theorem e_sub : ((a:Int) - (b:Int)) % 4294967296=((sub32 a b:Nat):Int):=by unfold sub32;omega
theorem e_and : ((a &&& b:Nat):Int)=((a &&& b:Nat):Int):=rfl
theorem e_or : ((a ||| b:Nat):Int)=((a ||| b:Nat):Int):=rfl
theorem e_xor : ((a ^^^ b:Nat):Int)=((a ^^^ b:Nat):Int):=rfl
theorem e_shl : (a:Int) * 2 ^ (b % 32) % 4294967296=((a * 2 ^ (b % 32) % 4294967296:Nat):Int):=shl_c a _
theorem e_shr : (a:Int) / 2 ^ (b % 32)=((a / 2 ^ (b % 32):Nat):Int):=shr_c a _
theorem e_sra : wrap32 (a:Int) / 2 ^ (b % 32) % 4294967296=((un (sg a / 2 ^ (b % 32)):Nat):Int):=by rw [sg_eq ha,un_eq]
theorem e_slt : ((truthN (decide (wrap32 (a:Int)<wrap32 (b:Int))):Nat):Int)=((truthN (decide (sg a<sg b)):Nat):Int):=by rw [sg_eq ha,sg_eq hb]
theorem e_sltu : ((truthN (decide (a<b)):Nat):Int)=((truthN (decide (a<b)):Nat):Int):=rfl
theorem e_lui : ((b:Nat):Int)=((b:Nat):Int):=rfl
end
theorem alu_28 (a b:Nat) (w:World) (ha:a<4294967296) (hb:b<4294967296) :
  Calls Tryz.prog 209 #[.int .i64 28,.int .u32 (a:Int),.int .u32 (b:Int)] w fun e w'=>e = .returned (.int .u32 (aluL 28 a b:Int))∧w'=w:=by
 rw [show aluL 28 a b=add32 a b from by simp [aluL]]
 exact z5x6
theorem alu_19 (a b:Nat) (w:World) (ha:a<4294967296) (hb:b<4294967296) :
  Calls Tryz.prog 209 #[.int .i64 19,.int .u32 (a:Int),.int .u32 (b:Int)] w fun e w'=>e = .returned (.int .u32 (aluL 19 a b:Int))∧w'=w:=by
 rw [show aluL 19 a b=add32 a b from by simp [aluL]]
 exact z5x6
theorem alu_29 (a b:Nat) (w:World) (ha:a<4294967296) (hb:b<4294967296) :
  Calls Tryz.prog 209 #[.int .i64 29,.int .u32 (a:Int),.int .u32 (b:Int)] w fun e w'=>e = .returned (.int .u32 (aluL 29 a b:Int))∧w'=w:=by
 rw [show aluL 29 a b=sub32 a b from by simp [aluL]]
 have hb2:bits .and .u32 (b:Int) 31=((b % 32:Nat):Int):=by rw [← nat_mask5];exact u32_and_nat b 31 hb (by omega)
 have hb3:b % 32<32:=Nat.mod_lt _ (by omega)
 have h1:=u32_and_nat a b ha hb
 have h2:=u32_or_nat a b ha hb
 have h3:=u32_xor_nat a b ha hb
 go_enter Tryz.func209,Tryz.ntmps209
 go_wp2_with (go_at_call 217;refine (truth_any _ _).mono ?_;rintro e w' ⟨rfl,rfl⟩)
 go_ret
 exact ⟨val_u32 (e_sub a b ha hb),rfl⟩
theorem alu_37 (a b:Nat) (w:World) (ha:a<4294967296) (hb:b<4294967296) :
  Calls Tryz.prog 209 #[.int .i64 37,.int .u32 (a:Int),.int .u32 (b:Int)] w fun e w'=>e = .returned (.int .u32 (aluL 37 a b:Int))∧w'=w:=by
 rw [show aluL 37 a b=a &&& b from by simp [aluL]]
 exact z5x7
theorem alu_24 (a b:Nat) (w:World) (ha:a<4294967296) (hb:b<4294967296) :
  Calls Tryz.prog 209 #[.int .i64 24,.int .u32 (a:Int),.int .u32 (b:Int)] w fun e w'=>e = .returned (.int .u32 (aluL 24 a b:Int))∧w'=w:=by
 rw [show aluL 24 a b=a &&& b from by simp [aluL]]
 exact z5x7
theorem alu_36 (a b:Nat) (w:World) (ha:a<4294967296) (hb:b<4294967296) :
  Calls Tryz.prog 209 #[.int .i64 36,.int .u32 (a:Int),.int .u32 (b:Int)] w fun e w'=>e = .returned (.int .u32 (aluL 36 a b:Int))∧w'=w:=by
 rw [show aluL 36 a b=a ||| b from by simp [aluL]]
 exact z5x13
theorem alu_23 (a b:Nat) (w:World) (ha:a<4294967296) (hb:b<4294967296) :
  Calls Tryz.prog 209 #[.int .i64 23,.int .u32 (a:Int),.int .u32 (b:Int)] w fun e w'=>e = .returned (.int .u32 (aluL 23 a b:Int))∧w'=w:=by
 rw [show aluL 23 a b=a ||| b from by simp [aluL]]
 exact z5x13
theorem alu_33 (a b:Nat) (w:World) (ha:a<4294967296) (hb:b<4294967296) :
  Calls Tryz.prog 209 #[.int .i64 33,.int .u32 (a:Int),.int .u32 (b:Int)] w fun e w'=>e = .returned (.int .u32 (aluL 33 a b:Int))∧w'=w:=by
 rw [show aluL 33 a b=a ^^^ b from by simp [aluL]]
 exact z5x8
theorem alu_22 (a b:Nat) (w:World) (ha:a<4294967296) (hb:b<4294967296) :
  Calls Tryz.prog 209 #[.int .i64 22,.int .u32 (a:Int),.int .u32 (b:Int)] w fun e w'=>e = .returned (.int .u32 (aluL 22 a b:Int))∧w'=w:=by
 rw [show aluL 22 a b=a ^^^ b from by simp [aluL]]
 exact z5x8
theorem alu_30 (a b:Nat) (w:World) (ha:a<4294967296) (hb:b<4294967296) :
  Calls Tryz.prog 209 #[.int .i64 30,.int .u32 (a:Int),.int .u32 (b:Int)] w fun e w'=>e = .returned (.int .u32 (aluL 30 a b:Int))∧w'=w:=by
 rw [show aluL 30 a b=a * 2 ^ (b % 32) % 4294967296 from by simp [aluL]]
 exact z5x9
theorem alu_25 (a b:Nat) (w:World) (ha:a<4294967296) (hb:b<4294967296) :
  Calls Tryz.prog 209 #[.int .i64 25,.int .u32 (a:Int),.int .u32 (b:Int)] w fun e w'=>e = .returned (.int .u32 (aluL 25 a b:Int))∧w'=w:=by
 rw [show aluL 25 a b=a * 2 ^ (b % 32) % 4294967296 from by simp [aluL]]
 exact z5x9
theorem alu_34 (a b:Nat) (w:World) (ha:a<4294967296) (hb:b<4294967296) :
  Calls Tryz.prog 209 #[.int .i64 34,.int .u32 (a:Int),.int .u32 (b:Int)] w fun e w'=>e = .returned (.int .u32 (aluL 34 a b:Int))∧w'=w:=by
 rw [show aluL 34 a b=a / 2 ^ (b % 32) from by simp [aluL]]
 exact z5x10
theorem alu_26 (a b:Nat) (w:World) (ha:a<4294967296) (hb:b<4294967296) :
  Calls Tryz.prog 209 #[.int .i64 26,.int .u32 (a:Int),.int .u32 (b:Int)] w fun e w'=>e = .returned (.int .u32 (aluL 26 a b:Int))∧w'=w:=by
 rw [show aluL 26 a b=a / 2 ^ (b % 32) from by simp [aluL]]
 exact z5x10
theorem alu_35 (a b:Nat) (w:World) (ha:a<4294967296) (hb:b<4294967296) :
  Calls Tryz.prog 209 #[.int .i64 35,.int .u32 (a:Int),.int .u32 (b:Int)] w fun e w'=>e = .returned (.int .u32 (aluL 35 a b:Int))∧w'=w:=by
 rw [show aluL 35 a b=un (sg a / 2 ^ (b % 32)) from by simp [aluL]]
 exact z5x11
theorem alu_27 (a b:Nat) (w:World) (ha:a<4294967296) (hb:b<4294967296) :
  Calls Tryz.prog 209 #[.int .i64 27,.int .u32 (a:Int),.int .u32 (b:Int)] w fun e w'=>e = .returned (.int .u32 (aluL 27 a b:Int))∧w'=w:=by
 rw [show aluL 27 a b=un (sg a / 2 ^ (b % 32)) from by simp [aluL]]
 exact z5x11
theorem alu_31 (a b:Nat) (w:World) (ha:a<4294967296) (hb:b<4294967296) :
  Calls Tryz.prog 209 #[.int .i64 31,.int .u32 (a:Int),.int .u32 (b:Int)] w fun e w'=>e = .returned (.int .u32 (aluL 31 a b:Int))∧w'=w:=by
 rw [show aluL 31 a b=truthN (decide (sg a<sg b)) from by simp [aluL]]
 exact z5x12
theorem alu_20 (a b:Nat) (w:World) (ha:a<4294967296) (hb:b<4294967296) :
  Calls Tryz.prog 209 #[.int .i64 20,.int .u32 (a:Int),.int .u32 (b:Int)] w fun e w'=>e = .returned (.int .u32 (aluL 20 a b:Int))∧w'=w:=by
 rw [show aluL 20 a b=truthN (decide (sg a<sg b)) from by simp [aluL]]
 exact z5x12
theorem alu_32 (a b:Nat) (w:World) (ha:a<4294967296) (hb:b<4294967296) :
  Calls Tryz.prog 209 #[.int .i64 32,.int .u32 (a:Int),.int .u32 (b:Int)] w fun e w'=>e = .returned (.int .u32 (aluL 32 a b:Int))∧w'=w:=by
 rw [show aluL 32 a b=truthN (decide (a<b)) from by simp [aluL]]
 exact z5x5
theorem alu_21 (a b:Nat) (w:World) (ha:a<4294967296) (hb:b<4294967296) :
  Calls Tryz.prog 209 #[.int .i64 21,.int .u32 (a:Int),.int .u32 (b:Int)] w fun e w'=>e = .returned (.int .u32 (aluL 21 a b:Int))∧w'=w:=by
 rw [show aluL 21 a b=truthN (decide (a<b)) from by simp [aluL]]
 exact z5x5
theorem alu_1 (a b:Nat) (w:World) (ha:a<4294967296) (hb:b<4294967296) :
  Calls Tryz.prog 209 #[.int .i64 1,.int .u32 (a:Int),.int .u32 (b:Int)] w fun e w'=>e = .returned (.int .u32 (aluL 1 a b:Int))∧w'=w:=by
 rw [show aluL 1 a b=b from by simp [aluL]]
 have hb2:bits .and .u32 (b:Int) 31=((b % 32:Nat):Int):=by rw [← nat_mask5];exact u32_and_nat b 31 hb (by omega)
 have hb3:b % 32<32:=Nat.mod_lt _ (by omega)
 have h1:=u32_and_nat a b ha hb
 have h2:=u32_or_nat a b ha hb
 have h3:=u32_xor_nat a b ha hb
 go_enter Tryz.func209,Tryz.ntmps209
 go_wp2_with (go_at_call 217;refine (truth_any _ _).mono ?_;rintro e w' ⟨rfl,rfl⟩)
 go_ret
 exact ⟨val_u32 (e_lui a b ha hb),rfl⟩
theorem alu_ops (op:Int):(op=28∨op=19∨op=29∨op=37∨op=24∨op=36∨op=23∨op=33∨op=22∨op=30∨op=25∨op=34∨op=26∨op=35∨op=27∨op=31∨op=20∨op=32∨op=21∨op=1) ∨
  (∀ a b,aluL op a b=0)∧(op == 28)=false∧(op == 19)=false∧(op == 29)=false∧(op == 37)=false∧(op == 24)=false∧(op == 36)=false∧(op == 23)=false∧(op == 33)=false∧(op == 22)=false∧(op == 30)=false∧(op == 25)=false∧(op == 34)=false∧(op == 26)=false∧(op == 35)=false∧(op == 27)=false∧(op == 31)=false∧(op == 20)=false∧(op == 32)=false∧(op == 21)=false∧(op == 1)=false:=by
 by_cases h:(op=28∨op=19∨op=29∨op=37∨op=24∨op=36∨op=23∨op=33∨op=22∨op=30∨op=25∨op=34∨op=26∨op=35∨op=27∨op=31∨op=20∨op=32∨op=21∨op=1)
 ·exact .inl h
 ·have key:∀ k:Int,op≠k→(op == k)=false:=fun k hk=>by simpa using hk
  refine .inr ⟨fun a b=>?_,?_⟩
  ·unfold aluL
   repeat rw [if_neg (by omega)]
  ·refine ⟨key _ ?_,key _ ?_,key _ ?_,key _ ?_,key _ ?_,key _ ?_,key _ ?_,key _ ?_,key _ ?_,key _ ?_,key _ ?_,key _ ?_,key _ ?_,key _ ?_,key _ ?_,key _ ?_,key _ ?_,key _ ?_,key _ ?_,key _ ?_⟩ <;> omega
theorem Alu_any (op:Int) (a b:Nat) (w:World) (ha:a<4294967296) (hb:b<4294967296) :
  Calls Tryz.prog 209 #[.int .i64 op,.int .u32 (a:Int),.int .u32 (b:Int)] w fun e w'=>e = .returned (.int .u32 (aluL op a b:Int))∧w'=w:=by
 rcases alu_ops op with h|⟨h0,h⟩
 ·rcases h with rfl|rfl|rfl|rfl|rfl|rfl|rfl|rfl|rfl|rfl|rfl|rfl|rfl|rfl|rfl|rfl|rfl|rfl|rfl|rfl
  ·exact alu_28 a b w ha hb
  ·exact alu_19 a b w ha hb
  ·exact alu_29 a b w ha hb
  ·exact alu_37 a b w ha hb
  ·exact alu_24 a b w ha hb
  ·exact alu_36 a b w ha hb
  ·exact alu_23 a b w ha hb
  ·exact alu_33 a b w ha hb
  ·exact alu_22 a b w ha hb
  ·exact alu_30 a b w ha hb
  ·exact alu_25 a b w ha hb
  ·exact alu_34 a b w ha hb
  ·exact alu_26 a b w ha hb
  ·exact alu_35 a b w ha hb
  ·exact alu_27 a b w ha hb
  ·exact alu_31 a b w ha hb
  ·exact alu_20 a b w ha hb
  ·exact alu_32 a b w ha hb
  ·exact alu_21 a b w ha hb
  ·exact alu_1 a b w ha hb
 ·obtain ⟨b1,b2,b3,b4,b5,b6,b7,b8,b9,b10,b11,b12,b13,b14,b15,b16,b17,b18,b19,b20⟩:=h
  rw [h0]
  go_enter Tryz.func209,Tryz.ntmps209
  go_wp2
  go_ret
  exact ⟨rfl,rfl⟩
end
section
open Go.RowKit Wd
theorem Cut_any (A:Option Addr) (n c:Nat) (q:List En) (k:Nat) (e:En) (w:World) (hr:Rd w w.heap.size 17 A n c (ens q)) (hn8:n≤1000) (hu:q[k]?=some e) :
  Calls Tryz.prog 71 #[.slice A n c,.int .i64 (k:Int)] w fun x w'=>∃ v,x = .returned v∧Bel w w'∧w'.ownsRow w.heap.size 54 17 v (k+1) (ens (cutQ q k e)):=by
 have hF:=St.start w [rowD 17 A n c (ens q)] (fun d hd=>by obtain rfl:=List.mem_singleton.1 hd;exact hr)
 have hc1:=hr.le
 have hc2:=hr.mx
 unfold maxLen at hc2
 have hn:=hr.enslen
 have hkn:k<n:=by have:=(List.getElem?_eq_some_iff.1 hu).1;omega
 clear hr
 obtain ⟨no,pc,⟨op,rd,rs1,rs2,imm⟩,guess,is,left,value,next,addr,halt,took,known,filled⟩:=e
 have hcells:=Lib.hid (show ens (cutQ q k ⟨no,pc,⟨op,rd,rs1,rs2,imm⟩,guess,is,left,value,next,addr,halt,took,known,filled⟩)=ens (q.take k)++(⟨no,pc,⟨op,rd,rs1,rs2,imm⟩,next,is,left,value,next,addr,halt,took,known,filled⟩:En).cells by
  unfold cutQ ens;rw [List.flatMap_append];simp)
 go_enter Tryz.func71,Tryz.ntmps71
 go_upto_region 5 with ((try simp only [zA,Nat.reduceAdd]);(first|refine zg98 ?_|(refine zg14 ?_;clear hF;(first|intro gN wN hF|intro wN hF|intro hF))|(refine zg15 ?_;clear hF;intro vN wN hF)))
 replace hF:=hF.clip (N:=k) (List.Mem.head _) (by omega)
 rw [ens_take] at hF
 refine wp_region_st (by kernel_rfl) hF _ _ (fun _ h=>h) (fun _ h=>h) ?_
 clear hF;intro hF hH
 refine zk18 0 hH ?_
 refine zk18 1 hH ?_
 refine zk18 2 hH ?_
 refine zk24 3 hH ?_
 refine zk7 4 hH ?_
 refine zry 5 (fun K hK=>?_)
 go_wp2_with ((first|(refine w_bs1 rfl hF rfl ?_;clear hF;intro gN wN hF)|(refine w_bs0 rfl hF ?_;clear hF;intro gN wN hF));(try simp only [zA,Nat.reduceAdd]))
 have hH:=hH.nextA hF;refine hK.out _ _ hH ?_;clear hK;(try simp only [zA,Nat.reduceAdd])
 refine zry 6 (fun K hK=>?_)
 go_wp2_with ((first|((refine w_appC rfl hF rfl rfl ?_);clear hF;intro vN wN hF;(try simp only [zA,Nat.reduceAdd]))|((first|refine zrg ?_|(refine zst ?_;clear hF;(first|intro gN wN hF|intro wN hF|intro hF))|(refine zap ?_;clear hF;intro vN wN hF));(try simp only [zA,Nat.reduceAdd]))))
 have hH:=hH.nextA hF;refine hK.out _ _ hH ?_;clear hK;(try simp only [zA,Nat.reduceAdd])
 refine zk19 7 hH ?_
 refine zrz ?_
 (go_wp2;go_ret;exact ⟨_,rfl,hF.bel,by rw [hcells.out];exact hF.ownAt at0⟩)
end
section
open Go.RowKit Wd
def spOk (l:List (Int × Int)):Prop:=l.length≤4 ∧ ∀ p∈l,(0≤p.1∧p.1≤31)∧(1≤p.2∧p.2≤32)
theorem numberL_ok (f:Int):spOk (numberL f).1:=by
 unfold numberL
 repeat' split
 all_goals exact ⟨by decide,by decide⟩
theorem gather_succ {x:Nat} {l:List (Int × Int)} {k:Nat} {p:Int × Int} (h:l[k]?=some p):gatherL x (l.take (k+1))=(setI (gatherL x (l.take k)).1 (gatherL x (l.take k)).2 p.2 (fieldI x p.1 p.2),(gatherL x (l.take k)).2+p.2):=by
 obtain ⟨hl,e⟩:=List.getElem?_eq_some_iff.1 h
 rw [List.take_succ_eq_append_getElem hl,e]
 unfold gatherL
 rw [List.foldl_append]
 rfl
theorem gather_b {x:Nat} (hx:x<4294967296) {l:List (Int × Int)} (h:spOk l) (k:Nat) (hk:k≤l.length):(gatherL x (l.take k)).1<4294967296∧0≤(gatherL x (l.take k)).2∧(gatherL x (l.take k)).2≤32 * k:=by
 induction k with
 | zero=>exact ⟨by simp [gatherL],by simp [gatherL],by simp [gatherL]⟩
 | succ k ih=>
  obtain ⟨p,hp⟩:∃ p,l[k]?=some p:=⟨_,List.getElem?_eq_getElem (by omega)⟩
  have:=h.2 p (List.mem_of_getElem? hp)
  obtain ⟨i1,i2,i3⟩:=ih (by omega)
  rw [gather_succ hp]
  exact ⟨setI_lt _ _ _ i1,by dsimp only;omega,by dsimp only;omega⟩
theorem spOf_at {l:List (Int × Int)} {k:Nat} {p:Int × Int} (h:l[k]?=some p):(spOf l)[k]?=some ⟨p.1,p.2⟩:=by simp [spOf,h]
theorem gather_any (A:Option Addr) (c x:Nat) (l:List (Int × Int)) (w:World) (hr:Rd w w.heap.size 2 A l.length c (spns (spOf l))) (hl:spOk l) (hx:x<4294967296) :
  Calls Tryz.prog 187 #[.int .u32 (x:Int),.slice A l.length c] w fun e w'=>e = .returned (.tuple #[.int .u32 ((gatherL x l).1:Int),.int .i64 (gatherL x l).2])∧Bel w w':=by
 have hF:=St.start w [rowD 2 A l.length c (spns (spOf l))] (fun d hd=>by obtain rfl:=List.mem_singleton.1 hd;exact hr)
 have h4:=hl.1
 have hc1:=hr.le
 have hc2:=hr.mx
 unfold maxLen at hc2
 replace hl:=Lib.hid hl
 obtain ⟨n,hn⟩:∃ n,l.length=n:=⟨_,rfl⟩
 rw [hn] at hF h4 hc1 ⊢
 have Hn:=Lib.hid hn
 clear hn hr
 go_enter Tryz.func187,Tryz.ntmps187
 go_wp2_with (((first|refine zrd ?_|(refine zst ?_;clear hF;(first|intro gN wN hF|intro wN hF|intro hF))|(refine zap ?_;clear hF;intro vN wN hF));(try simp only [zA,Nat.reduceAdd])))
 go_loopw [6,7,12] (fun v s i wr=>∃ k:Nat,k≤n∧i = .int .i64 (k:Int)∧v = .int .u32 ((gatherL x (l.take k)).1:Int)∧s = .int .i64 (gatherL x (l.take k)).2∧St w [rowD 2 A n c (spns (spOf l))] wr [] [rowD 2 A n c (spns (spOf l))]) (fun _ _ i _=>n - (intOf i).toNat)
 case atStart=>exact ⟨0,by omega,rfl,rfl,rfl,hF⟩
 case round=>
  obtain ⟨k,hk,rfl,rfl,rfl,hF⟩:=hrel
  by_cases hkn:k<n
  ·obtain ⟨p,hp⟩:∃ p,l[k]?=some p:=⟨_,List.getElem?_eq_getElem (by have:=Hn.out;omega)⟩
   have hu:=spOf_at hp
   have hpb:=hl.out.2 p (List.mem_of_getElem? hp)
   obtain ⟨b1,b2,b3⟩:=gather_b hx hl.out k (by have:=Hn.out;omega)
   have hs:=Lib.hid (gather_succ (x:=x) hp)
   obtain ⟨p1,p2⟩:=p
   dsimp only at hs hu hpb
   have HFi:=Lib.hid (fun W=>Field_any x p1 p2 W hx ⟨by omega,by omega⟩ ⟨by omega,by omega⟩)
   have hfl:=fieldI_lt x p1 p2
   generalize hg1:(gatherL x (l.take k)).1=g1 at *
   generalize hg2:(gatherL x (l.take k)).2=g2 at *
   generalize fieldI x p1 p2=fv at *
   have HSe:=Lib.hid (fun W=>Set_any g1 g2 p2 fv W b1 hfl ⟨by omega,by omega⟩ ⟨by omega,by omega⟩)
   replace hg1:=Lib.hid hg1
   replace hg2:=Lib.hid hg2
   replace hp:=Lib.hid hp
   go_upto_region 5 with ((first|refine zg11 ?_|((first|refine zrd ?_|(refine zst ?_;clear hF;(first|intro gN wN hF|intro wN hF|intro hF))|(refine zap ?_;clear hF;intro vN wN hF));(try simp only [zA,Nat.reduceAdd]))))
   refine wp_region_st (by kernel_rfl) hF _ _ (fun _ h=>h) (fun _ h=>h) ?_
   clear hF;intro hF hH
   refine zk18 0 hH ?_
   refine zk18 1 hH ?_
   refine zk1 2 hH ?_
   refine zk0 3 hH ?_
   refine zk18 4 hH ?_
   refine zk1 5 hH ?_
   refine zk0 6 hH ?_
   refine zk1 7 hH ?_
   refine zk0 8 hH ?_
   refine zry 9 (fun K hK=>?_)
   go_wp2_with ((first|(go_at_call 186;refine (HFi.out _).mono ?_;rintro x wN ⟨rfl,hd⟩;replace hF:=hF.grow (Bel.ofDrew hd);clear hd)|(go_at_call 148;refine (HSe.out _).mono ?_;rintro x wN ⟨rfl,hd⟩;replace hF:=hF.grow (Bel.ofDrew hd);clear hd)))
   have hH:=hH.nextA hF;refine hK.out _ _ hH ?_;clear hK;(try simp only [zA,Nat.reduceAdd])
   refine zry 10 (fun K hK=>?_)
   go_wp2_with ((first|(go_at_call 186;refine (HFi.out _).mono ?_;rintro x wN ⟨rfl,hd⟩;replace hF:=hF.grow (Bel.ofDrew hd);clear hd)|(go_at_call 148;refine (HSe.out _).mono ?_;rintro x wN ⟨rfl,hd⟩;replace hF:=hF.grow (Bel.ofDrew hd);clear hd)))
   have hH:=hH.nextA hF;refine hK.out _ _ hH ?_;clear hK;(try simp only [zA,Nat.reduceAdd])
   refine zk19 11 hH ?_
   refine zrz ?_
   (go_wp2_with (((first|refine zrd ?_|(refine zst ?_;clear hF;(first|intro gN wN hF|intro wN hF|intro hF))|(refine zap ?_;clear hF;intro vN wN hF));(try simp only [zA,Nat.reduceAdd])));go_roundw;(case rel=>exact ⟨k+1,by omega,by go_num,by rw [hs.out],by rw [hs.out],hF.drop 0⟩);(case measure=>first|(simp [intOf];done)|(simp [intOf];omega)))
  ·obtain rfl:k=n:=by omega
   go_wp2_with (((first|refine zrd ?_|(refine zst ?_;clear hF;(first|intro gN wN hF|intro wN hF|intro hF))|(refine zap ?_;clear hF;intro vN wN hF));(try simp only [zA,Nat.reduceAdd])))
   go_returns
   rw [show l.take k=l from by rw [List.take_of_length_le (by have:=Hn.out;omega)]]
   exact ⟨rfl,hF.bel⟩
end
section
open Go.RowKit Wd
section
variable (a b:Nat) (ha:a<4294967296) (hb:b<4294967296)
include ha hb
theorem sg_b : -2147483648≤sg a∧sg a≤2147483647:=by unfold sg;split <;> omega
theorem m38 : (a:Int) * (b:Int) % 4294967296=((a * b % 4294967296:Nat):Int):=by rw [Int.natCast_emod,Int.natCast_mul];rfl
end
theorem mulL_lt (op:Int) (a b:Nat) (ha:a<4294967296) (hb:b<4294967296):mulL op a b<4294967296:=by
 unfold mulL
 have h1:=un_lt (sg a * sg b / 4294967296)
 have h2:=un_lt (sg a * b / 4294967296)
 have h3:a * b / 4294967296<4294967296:=by
  rw [Nat.div_lt_iff_lt_mul (by omega)]
  exact Nat.mul_lt_mul'' ha hb
 repeat' split
 all_goals omega
theorem hi64 (p:Int):IntKind.u64.wrap (wrap64 p) / 4294967296 % 4294967296=((un (p / 4294967296):Nat):Int):=by
 rw [un_eq]
 simp only [IntKind.wrap,IntKind.bits,IntKind.signed,wrap64]
 simp
 omega
theorem sg64 {a:Nat} (h:a<4294967296):wrap64 (wrap32 (a:Int))=sg a:=by
 rw [sg_eq h]
 have:=sg_b a 0 h (by omega)
 unfold wrap64
 omega
theorem m41 (a b:Nat) (ha:a<4294967296) (hb:b<4294967296):IntKind.u64.wrap ((a:Int) * (b:Int)) / 4294967296 % 4294967296=((a * b / 4294967296:Nat):Int):=by
 have h:a * b<18446744073709551616:=Nat.mul_lt_mul'' ha hb
 rw [← Int.natCast_mul]
 generalize a * b=p at *
 simp only [IntKind.wrap,IntKind.bits,IntKind.signed]
 simp
 omega
theorem mul_38 (a b:Nat) (w:World) (ha:a<4294967296) (hb:b<4294967296) :
  Calls Tryz.prog 206 #[.int .i64 38,.int .u32 (a:Int),.int .u32 (b:Int)] w fun e w'=>e = .returned (.int .u32 (mulL 38 a b:Int))∧w'=w:=by
 rw [show mulL 38 a b=a * b % 4294967296 from by simp [mulL]]
 exact z5x4
theorem mul_39 (a b:Nat) (w:World) (ha:a<4294967296) (hb:b<4294967296) :
  Calls Tryz.prog 206 #[.int .i64 39,.int .u32 (a:Int),.int .u32 (b:Int)] w fun e w'=>e = .returned (.int .u32 (mulL 39 a b:Int))∧w'=w:=by
 rw [show mulL 39 a b=un (sg a * sg b / 4294967296) from by simp [mulL]]
 exact z5x4
theorem mul_40 (a b:Nat) (w:World) (ha:a<4294967296) (hb:b<4294967296) :
  Calls Tryz.prog 206 #[.int .i64 40,.int .u32 (a:Int),.int .u32 (b:Int)] w fun e w'=>e = .returned (.int .u32 (mulL 40 a b:Int))∧w'=w:=by
 rw [show mulL 40 a b=un (sg a * b / 4294967296) from by simp [mulL]]
 exact z5x4
theorem mul_41 (a b:Nat) (w:World) (ha:a<4294967296) (hb:b<4294967296) :
  Calls Tryz.prog 206 #[.int .i64 41,.int .u32 (a:Int),.int .u32 (b:Int)] w fun e w'=>e = .returned (.int .u32 (mulL 41 a b:Int))∧w'=w:=by
 rw [show mulL 41 a b=a * b / 4294967296 from by simp [mulL]]
 exact z5x4
theorem Mul_any (op:Int) (a b:Nat) (w:World) (ha:a<4294967296) (hb:b<4294967296) :
  Calls Tryz.prog 206 #[.int .i64 op,.int .u32 (a:Int),.int .u32 (b:Int)] w fun e w'=>e = .returned (.int .u32 (mulL op a b:Int))∧w'=w:=by
 by_cases h:op=38∨op=39∨op=40∨op=41
 ·rcases h with rfl|rfl|rfl|rfl
  ·exact mul_38 a b w ha hb
  ·exact mul_39 a b w ha hb
  ·exact mul_40 a b w ha hb
  ·exact mul_41 a b w ha hb
 ·have key:∀ k:Int,op≠k→(op == k)=false:=fun k hk=>by simpa using hk
  have b1:=key 38 (by omega)
  have b2:=key 39 (by omega)
  have b3:=key 40 (by omega)
  have b4:=key 41 (by omega)
  rw [show mulL op a b=0 from by unfold mulL;repeat rw [if_neg (by omega)]]
  clear h key
  go_enter Tryz.func206,Tryz.ntmps206
  go_wp2
  go_ret
  exact ⟨rfl,rfl⟩
theorem taken_5 (a b:Nat) (w:World) (ha:a<4294967296) (hb:b<4294967296) :
  Calls Tryz.prog 219 #[.int .i64 5,.int .u32 (a:Int),.int .u32 (b:Int)] w fun e w'=>e = .returned (.bool (takenL 5 a b))∧w'=w:=by
 rw [show takenL 5 a b=decide (a=b) from by simp [takenL]]
 exact z5x1
theorem taken_6 (a b:Nat) (w:World) (ha:a<4294967296) (hb:b<4294967296) :
  Calls Tryz.prog 219 #[.int .i64 6,.int .u32 (a:Int),.int .u32 (b:Int)] w fun e w'=>e = .returned (.bool (takenL 6 a b))∧w'=w:=by
 rw [show takenL 6 a b=decide (a≠b) from by simp [takenL]]
 exact z5x1
theorem taken_7 (a b:Nat) (w:World) (ha:a<4294967296) (hb:b<4294967296) :
  Calls Tryz.prog 219 #[.int .i64 7,.int .u32 (a:Int),.int .u32 (b:Int)] w fun e w'=>e = .returned (.bool (takenL 7 a b))∧w'=w:=by
 rw [show takenL 7 a b=decide (sg a<sg b) from by simp [takenL]]
 exact z5x1
theorem taken_8 (a b:Nat) (w:World) (ha:a<4294967296) (hb:b<4294967296) :
  Calls Tryz.prog 219 #[.int .i64 8,.int .u32 (a:Int),.int .u32 (b:Int)] w fun e w'=>e = .returned (.bool (takenL 8 a b))∧w'=w:=by
 rw [show takenL 8 a b=decide (sg b≤sg a) from by simp [takenL]]
 exact z5x1
theorem taken_9 (a b:Nat) (w:World) (ha:a<4294967296) (hb:b<4294967296) :
  Calls Tryz.prog 219 #[.int .i64 9,.int .u32 (a:Int),.int .u32 (b:Int)] w fun e w'=>e = .returned (.bool (takenL 9 a b))∧w'=w:=by
 rw [show takenL 9 a b=decide (a<b) from by simp [takenL]]
 exact z5x1
theorem taken_10 (a b:Nat) (w:World) (ha:a<4294967296) (hb:b<4294967296) :
  Calls Tryz.prog 219 #[.int .i64 10,.int .u32 (a:Int),.int .u32 (b:Int)] w fun e w'=>e = .returned (.bool (takenL 10 a b))∧w'=w:=by
 rw [show takenL 10 a b=decide (b≤a) from by simp [takenL]]
 exact z5x1
theorem Taken_any (op:Int) (a b:Nat) (w:World) (ha:a<4294967296) (hb:b<4294967296) :
  Calls Tryz.prog 219 #[.int .i64 op,.int .u32 (a:Int),.int .u32 (b:Int)] w fun e w'=>e = .returned (.bool (takenL op a b))∧w'=w:=by
 by_cases h:op=5∨op=6∨op=7∨op=8∨op=9∨op=10
 ·rcases h with rfl|rfl|rfl|rfl|rfl|rfl
  ·exact taken_5 a b w ha hb
  ·exact taken_6 a b w ha hb
  ·exact taken_7 a b w ha hb
  ·exact taken_8 a b w ha hb
  ·exact taken_9 a b w ha hb
  ·exact taken_10 a b w ha hb
 ·have key:∀ k:Int,op≠k→(op == k)=false:=fun k hk=>by simpa using hk
  have b1:=key 5 (by omega)
  have b2:=key 6 (by omega)
  have b3:=key 7 (by omega)
  have b4:=key 8 (by omega)
  have b5:=key 9 (by omega)
  have b6:=key 10 (by omega)
  rw [show takenL op a b=false from by unfold takenL;repeat rw [if_neg (by omega)]]
  clear h key
  go_enter Tryz.func219,Tryz.ntmps219
  go_wp2
  go_ret
  exact ⟨rfl,rfl⟩
theorem signed_cases (op:Int):(op=42∧signedB op=true)∨(op=44∧signedB op=true)∨((op == 42)=false∧(op == 44)=false∧signedB op=false):=by
 by_cases h1:op=42
 ·exact .inl ⟨h1,by simp [signedB,h1]⟩
 by_cases h2:op=44
 ·exact .inr (.inl ⟨h2,by simp [signedB,h2]⟩)
 exact .inr (.inr ⟨by simpa using h1,by simpa using h2,by simp [signedB,h1,h2]⟩)
theorem neg_s {a:Nat} (h:a<4294967296) (hs:2147483648≤a):wrap32 (a:Int)<0:=by unfold wrap32;omega
theorem pos_s {a:Nat} (hs:¬ 2147483648≤a):¬ wrap32 (a:Int)<0:=by unfold wrap32;omega
theorem sizeL_lt {op:Int} {a:Nat} (h:a<4294967296):sizeL op a<4294967296:=by unfold sizeL;split <;> omega
theorem neg_u {a:Nat} (h:a<4294967296):(-(a:Int)) % 4294967296=(((4294967296 - a) % 4294967296:Nat):Int):=by omega
theorem Size_any (op:Int) (a:Nat) (w:World) (ha:a<4294967296) :
  Calls Tryz.prog 210 #[.int .i64 op,.int .u32 (a:Int)] w fun e w'=>e = .returned (.int .u32 (sizeL op a:Int))∧w'=w:=by
 by_cases hs:2147483648≤a
 ·have hn:=neg_s ha hs
  rcases signed_cases op with ⟨rfl,hb⟩|⟨rfl,hb⟩|⟨b1,b2,hb⟩
  ·rw [show sizeL 42 a=4294967296 - a from by unfold sizeL;rw [if_pos ⟨hb,hs⟩]]
   clear hb
   go_enter Tryz.func210,Tryz.ntmps210
   go_wp2
   go_ret
   exact ⟨val_u32 (by rw [neg_u ha];omega),rfl⟩
  ·rw [show sizeL 44 a=4294967296 - a from by unfold sizeL;rw [if_pos ⟨hb,hs⟩]]
   clear hb
   go_enter Tryz.func210,Tryz.ntmps210
   go_wp2
   go_ret
   exact ⟨val_u32 (by rw [neg_u ha];omega),rfl⟩
  ·rw [show sizeL op a=a from by unfold sizeL;rw [if_neg (by rw [hb];simp)]]
   clear hb
   go_enter Tryz.func210,Tryz.ntmps210
   go_wp2
   go_ret
   exact ⟨rfl,rfl⟩
 ·have hn:=pos_s hs
  rw [show sizeL op a=a from by unfold sizeL;rw [if_neg (by rintro ⟨_,h⟩;exact hs h)]]
  rcases signed_cases op with ⟨rfl,hb⟩|⟨rfl,hb⟩|⟨b1,b2,hb⟩
  all_goals
   clear hb hs
   go_enter Tryz.func210,Tryz.ntmps210
   go_wp2
   go_ret
   exact ⟨rfl,rfl⟩
end
section
open Go.RowKit Go.Sort
theorem cache3_ok {w:World} {A:Option Addr} {n c:Nat} {S:List Cs} {A2:Option Addr} {n2 c2:Nat} {q2:List Wy} (hr:RdS w w.heap.size A n c S) (h2:Rd w w.heap.size 3 A2 n2 c2 (wys q2)) :
  ∀ d∈[rowD 1 A n c (csv S),elemsD S,rowD 3 A2 n2 c2 (wys q2)],d.ok w:=by
 intro d hd
 rcases List.mem_cons.1 hd with rfl|hd
 ·exact hr.rd
 ·rcases List.mem_cons.1 hd with rfl|hd
  ·exact hr.sets
  ·obtain rfl:=List.mem_singleton.1 hd
   exact h2
end
section
open Go.RowKit
instance pusRows : Rows pus Pu.cells 2:=⟨fun _=>rfl,fun _=>rfl,Pu.one,by decide⟩
theorem Rq.one (r:Rq):∀ u∈r.cells,u.oneCell'=true:=fun u hu=>rqs_one [r] u (by simpa [rqs] using hu)
instance rqsRows : Rows rqs Rq.cells 4:=⟨fun _=>rfl,fun _=>rfl,Rq.one,by decide⟩
instance rqsOne (q:List Rq):OneC (rqs q):=⟨rqs_one q⟩
theorem Rd.rqslen {w:World} {B n c:Nat} {A:Option Addr} {q:List Rq} (h:Rd w B 4 A n c (rqs q)):q.length=n:=by
 have hn:=h.len
 rw [rqs_len] at hn
 omega
section
variable {P:Program} {ops:Array Oper} {o:Oper} {a:Act} {S:World→Prop}
theorem run_fromB {w:World} {t e:TypeId} {g n c k:Nat} {ki:IntKind} (ht:BySlT P t e) (hk:k<n) (hn:n≤c):(Instr.sliceAt t (.slice (some ⟨g,0,none⟩) n c) (some (.int ki (k:Int))) none none).run P w = .ok (.slice (some ⟨g,k,none⟩) (n - k) (c - k)) w:=by
 obtain ⟨hu,he,hi⟩:=ht
 have hs:(sizeOf e).run P w = .ok 1 w:=by
  exact z5x15
 have hel:P.elem t=e:=by simp [Program.elem,hu]
 have h1:=run_slice_l (P:=P) (w:=w) t (some ⟨g,0,none⟩) n c (by rw [hel];exact hu) ki (k:Int) (by omega) (by omega)
 rw [run_sliceAt_slice (P:=P) (w:=w) t _ _ _ _ (by rw [hel];exact hu),h1,hel,hs]
 simp only [Result.andThen_ok,sliced,Int.toNat_natCast]
 rw [if_neg (by omega)]
 simp [addr_add]
theorem y_fromB {t e:TypeId} {x y:Operand} {g n c k:Nat} {ki:IntKind} (ho:o.op = .slice t x (some y) none none) (hx:look a x=some (.slice (some ⟨g,0,none⟩) n c)) (hy:look a y=some (.int ki (k:Int)))
  (ht:BySlT P t e:=by exact tyBy _ _ rfl) (hw:Region.wanted o (yielded ops a.tmps)=true:=by rfl) (hk:k<n:=by (first|assumption|omega)) (hn:n≤c:=by (first|assumption|omega)):YieldsIf P ops S o (.slice (some ⟨g,k,none⟩) (n - k) (c - k)) a:=by
 replace hx:=look_eval hx
 replace hy:=look_eval hy
 exact yi_pure hw fun w=>by
  unfold execOp
  simp only [ho,hx,hy,Option.map_some,Option.map_none,run_fromB ht hk hn,Sem.run_bind,Sem.run_pure,Result.andThen_ok]
end
section
variable {P:Program} {ops:Array Oper} {rest:List Oper} {o:Oper} {a:Act} {Q:Exit→Act→World→Prop} {w0 w:World} {D0 D:List Da} {M:List Mu}
end
def ovS (m:ByteArray) (ps:List Pu):ByteArray:=⟨(overL (bl m) ps).toArray⟩
theorem bl_ovS (m:ByteArray) (ps:List Pu):bl (ovS m ps)=overL (bl m) ps:=bl_mk' _
theorem ovS_size (m:ByteArray) (ps:List Pu):(ovS m ps).size=m.size:=by rw [← bl_len,bl_ovS,overL_len,bl_len]
theorem ovS_ovS (m:ByteArray) (ps qs:List Pu):ovS (ovS m ps) qs=ovS m (ps++qs):=by
 unfold ovS
 rw [overL_append,show bl ⟨(overL (bl m) ps).toArray⟩=overL (bl m) ps from bl_mk' _]
theorem writes_ok {q:List Rq} (h:∀ r∈q,r.line<4294967296):∀ p∈writesL q,p.addr<4294967296:=fun p hp=>by
 obtain ⟨r,hr,rfl⟩:=List.mem_map.1 hp
 exact h r (List.mem_filter.1 hr).1
theorem vcont_el {S:List Cs} {k:Nat} {A:Option Addr} {n c:Nat} {q:List Wy} (h:S[k]?=some ⟨A,n,c,q⟩):(cont S)[k]?=some q:=by
 obtain ⟨hl,e⟩:=List.getElem?_eq_some_iff.1 h
 rw [cont_at hl,e]
theorem lines_ok {S:List Cs} (h:SOk S):∀ p∈linesL (cont S),p.addr<4294967296:=fun p hp=>by
 obtain ⟨v,hv,rfl⟩:=List.mem_map.1 hp
 obtain ⟨ws,hw,hv⟩:=List.mem_flatten.1 hv
 obtain ⟨s,hs,rfl⟩:=List.mem_map.1 hw
 exact (h s hs v hv).1
def cutS (m:ByteArray) (x:Nat):ByteArray:=⟨(cutL (bl m) x).toArray⟩
theorem bl_cutS (m:ByteArray) (x:Nat):bl (cutS m x)=cutL (bl m) x:=bl_mk' _
theorem cutS_line (m:ByteArray) (x:Nat):cutS m (x - x % 16)=cutS m x:=by
 unfold cutS cutL
 rw [show x - x % 16 - (x - x % 16) % 16=x - x % 16 by omega]
theorem cutS_out {m:ByteArray} {x:Nat} (h:m.size≤x - x % 16):cutS m x=⟨#[]⟩:=by
 unfold cutS cutL
 rw [List.drop_of_length_le (by rw [bl_len];exact h)]
 rfl
theorem cutS_in {m:ByteArray} {x n:Nat} (h:x - x % 16<m.size) (hn:n=min (m.size - (x - x % 16)) 16):(m.extract (x - x % 16) m.size).extract 0 n=cutS m x:=by
 apply bl_ext
 rw [bl_cutS,cutL]
 unfold bl
 rw [cut_list,cut_list,List.drop_zero]
 have hl:m.data.toList.length=m.size:=bl_len m
 rw [show ((m.data.toList.take m.size).drop (x - x % 16))=m.data.toList.drop (x - x % 16) by rw [List.take_of_length_le (by omega)]]
 subst hn
 rcases Nat.le_total (m.size - (x - x % 16)) 16 with h1|h1
 ·rw [Nat.min_eq_left h1,List.take_of_length_le (by rw [List.length_drop,hl];exact Nat.le_refl _),List.take_of_length_le (by rw [List.length_drop,hl];exact h1)]
 ·rw [Nat.min_eq_right h1]
end
section
open Go.RowKit Wd
theorem wrong_at {q:List En} {k:Nat} {e:En} (h:∀ f∈q.take k,wrongB f=false) (he:q[k]?=some e) (hw:wrongB e=true):wrongL q=some k:=by
 obtain ⟨hl,hk⟩:=List.getElem?_eq_some_iff.1 he
 unfold wrongL
 rw [List.findIdx?_eq_some_iff_getElem]
 refine ⟨hl,by rw [hk];exact hw,fun j hj=>?_⟩
 have:=h q[j] (by rw [List.mem_take_iff_getElem];exact ⟨j,by omega,rfl⟩)
 simp [this]
theorem wrong_no {q:List En} (h:∀ f∈q,wrongB f=false):wrongL q=none:=by
 unfold wrongL
 rw [List.findIdx?_eq_none_iff]
 exact h
theorem take_more {α:Type} {p:α→Prop} {q:List α} {k:Nat} {e:α} (h:∀ f∈q.take k,p f) (he:q[k]?=some e) (hp:p e):∀ f∈q.take (k+1),p f:=by
 obtain ⟨hl,hk⟩:=List.getElem?_eq_some_iff.1 he
 intro f hf
 rw [List.take_succ_eq_append_getElem hl,hk] at hf
 rcases List.mem_append.1 hf with hf|hf
 ·exact h f hf
 ·obtain rfl:=List.mem_singleton.1 hf
  exact hp
def wrongI (q:List En):Int:=match wrongL q with|some i=>(i:Int)|none=>-1
theorem Wrong_any (A:Option Addr) (n c:Nat) (q:List En) (w:World) (hr:Rd w w.heap.size 17 A n c (ens q)) (hq:ensOk q) :
  Calls Tryz.prog 11 #[.slice A n c] w fun e w'=>e = .returned (.int .i64 (wrongI q))∧Bel w w':=by
 have hF:=St.start w [rowD 17 A n c (ens q)] (fun d hd=>by obtain rfl:=List.mem_singleton.1 hd;exact hr)
 have hc1:=hr.le
 have hc2:=hr.mx
 unfold maxLen at hc2
 have hn:=Lib.hid hr.enslen
 replace hq:=Lib.hid hq
 clear hr
 go_enter Tryz.func11,Tryz.ntmps11
 go_wp2_with (((first|refine zrg ?_|(refine zst ?_;clear hF;(first|intro gN wN hF|intro wN hF|intro hF))|(refine zap ?_;clear hF;intro vN wN hF));(try simp only [zA,Nat.reduceAdd])))
 go_loopw [7] (fun i wr=>∃ k:Nat,k≤n∧i = .int .i64 (k:Int)∧Hid (∀ f∈q.take k,wrongB f=false)∧St w [rowD 17 A n c (ens q)] wr [] [rowD 17 A n c (ens q)]) (fun i _=>n - (intOf i).toNat)
 case atStart=>exact ⟨0,by omega,rfl,Lib.hid (fun f hf=>by simp at hf),hF⟩
 case round=>
  obtain ⟨k,hk,rfl,hck,hF⟩:=hrel
  by_cases hkn:k<n
  ·obtain ⟨e,hu⟩:∃ e,q[k]?=some e:=⟨_,List.getElem?_eq_getElem (by have:=hn.out;omega)⟩
   have ho:=(hq.out e (List.mem_of_getElem? hu)).op
   obtain ⟨no,pc,⟨op,rd,rs1,rs2,imm⟩,guess,is,left,value,next,addr,halt,took,known,filled⟩:=e
   have HK:=Lib.hid (fun W=>Kind_any ⟨op,rd,rs1,rs2,imm⟩ W ho)
   dsimp only at HK
   obtain ⟨κ,hκ⟩:∃ κ,kindI op=κ:=⟨_,rfl⟩
   rw [hκ] at HK
   by_cases h5:κ=5
   ·subst h5
    cases known
    ·have hb:wrongB ⟨no,pc,⟨op,rd,rs1,rs2,imm⟩,guess,is,left,value,next,addr,halt,took,false,filled⟩=false:=by simp [wrongB]
     replace hb:=Lib.hid (take_more hck.out hu hb)
     clear hκ
     exact z5x3
    ·by_cases hg:next=guess
     ·have hb:wrongB ⟨no,pc,⟨op,rd,rs1,rs2,imm⟩,guess,is,left,value,next,addr,halt,took,true,filled⟩=false:=by simp [wrongB,hg]
      replace hb:=Lib.hid (take_more hck.out hu hb)
      subst hg
      clear hκ
      exact z5x3
     ·have hb:wrongB ⟨no,pc,⟨op,rd,rs1,rs2,imm⟩,guess,is,left,value,next,addr,halt,took,true,filled⟩=true:=by simp [wrongB,hg,hκ]
      have hR:=Lib.hid (wrong_at hck.out hu hb)
      have hg2:¬ ((next:Int)=(guess:Int)):=by omega
      clear hκ hg hb
      exact z5x14
   ·have hb:wrongB ⟨no,pc,⟨op,rd,rs1,rs2,imm⟩,guess,is,left,value,next,addr,halt,took,known,filled⟩=false:=by simp [wrongB,hκ,h5]
    replace hb:=Lib.hid (take_more hck.out hu hb)
    have b5:(κ == 5)=false:=by simpa using h5
    clear hκ h5
    exact z5x3
  ·obtain rfl:k=n:=by omega
   have hR:=Lib.hid (wrong_no (by have:=hck.out;rwa [List.take_of_length_le (by have:=hn.out;omega)] at this))
   exact z5x14
end
section
open Go.RowKit Wd
theorem scatter_succ {x:Nat} {l:List (Int × Int)} {k:Nat} {p:Int × Int} (h:l[k]?=some p):scatterL x (l.take (k+1))=(setI (scatterL x (l.take k)).1 p.1 p.2 (scatterL x (l.take k)).2,(scatterL x (l.take k)).2 / 2 ^ p.2.toNat):=by
 obtain ⟨hl,e⟩:=List.getElem?_eq_some_iff.1 h
 rw [List.take_succ_eq_append_getElem hl,e]
 unfold scatterL
 rw [List.foldl_append]
 rfl
theorem scatter_b {x:Nat} (hx:x<4294967296) {l:List (Int × Int)} (h:spOk l) (k:Nat) (hk:k≤l.length):(scatterL x (l.take k)).1<4294967296∧(scatterL x (l.take k)).2<4294967296:=by
 induction k with
 | zero=>exact ⟨by simp [scatterL],by simpa [scatterL] using hx⟩
 | succ k ih=>
  obtain ⟨p,hp⟩:∃ p,l[k]?=some p:=⟨_,List.getElem?_eq_getElem (by omega)⟩
  obtain ⟨i1,i2⟩:=ih (by omega)
  rw [scatter_succ hp]
  exact ⟨setI_lt _ _ _ i1,Nat.lt_of_le_of_lt (Nat.div_le_self _ _) i2⟩
theorem scatter_any (A:Option Addr) (c x:Nat) (l:List (Int × Int)) (w:World) (hr:Rd w w.heap.size 2 A l.length c (spns (spOf l))) (hl:spOk l) (hx:x<4294967296) :
  Calls Tryz.prog 147 #[.int .u32 (x:Int),.slice A l.length c] w fun e w'=>e = .returned (.int .u32 ((scatterL x l).1:Int))∧Bel w w':=by
 have hF:=St.start w [rowD 2 A l.length c (spns (spOf l))] (fun d hd=>by obtain rfl:=List.mem_singleton.1 hd;exact hr)
 have h4:=hl.1
 have hc1:=hr.le
 have hc2:=hr.mx
 unfold maxLen at hc2
 replace hl:=Lib.hid hl
 obtain ⟨n,hn⟩:∃ n,l.length=n:=⟨_,rfl⟩
 rw [hn] at hF h4 hc1 ⊢
 have Hn:=Lib.hid hn
 clear hn hr
 go_enter Tryz.func147,Tryz.ntmps147
 go_wp2_with (((first|refine zrd ?_|(refine zst ?_;clear hF;(first|intro gN wN hF|intro wN hF|intro hF))|(refine zap ?_;clear hF;intro vN wN hF));(try simp only [zA,Nat.reduceAdd])))
 go_loopw [0,5,10] (fun v s i wr=>∃ k:Nat,k≤n∧i = .int .i64 (k:Int)∧v = .int .u32 ((scatterL x (l.take k)).2:Int)∧s = .int .u32 ((scatterL x (l.take k)).1:Int)∧St w [rowD 2 A n c (spns (spOf l))] wr [] [rowD 2 A n c (spns (spOf l))]) (fun _ _ i _=>n - (intOf i).toNat)
 case atStart=>exact ⟨0,by omega,rfl,rfl,rfl,hF⟩
 case round=>
  obtain ⟨k,hk,rfl,rfl,rfl,hF⟩:=hrel
  by_cases hkn:k<n
  ·obtain ⟨p,hp⟩:∃ p,l[k]?=some p:=⟨_,List.getElem?_eq_getElem (by have:=Hn.out;omega)⟩
   have hu:=spOf_at hp
   have hpb:=hl.out.2 p (List.mem_of_getElem? hp)
   obtain ⟨b1,b2⟩:=scatter_b hx hl.out k (by have:=Hn.out;omega)
   have hs:=Lib.hid (scatter_succ (x:=x) hp)
   obtain ⟨p1,p2⟩:=p
   dsimp only at hs hu hpb
   obtain ⟨m,rfl⟩:=Int.eq_ofNat_of_zero_le (show 0≤p2 by omega)
   generalize hg1:(scatterL x (l.take k)).1=g1 at *
   generalize hg2:(scatterL x (l.take k)).2=g2 at *
   have HSe:=Lib.hid (fun W=>Set_any g1 p1 (m:Int) g2 W b1 b2 ⟨by omega,by omega⟩ ⟨by omega,by omega⟩)
   replace hg1:=Lib.hid hg1
   replace hg2:=Lib.hid hg2
   replace hp:=Lib.hid hp
   go_wp2_with ((first|refine zg12 ?_|(go_at_call 148;refine (HSe.out _).mono ?_;rintro x wN ⟨rfl,hd⟩;replace hF:=hF.grow (Bel.ofDrew hd);clear hd)|((first|refine zrd ?_|(refine zst ?_;clear hF;(first|intro gN wN hF|intro wN hF|intro hF))|(refine zap ?_;clear hF;intro vN wN hF));(try simp only [zA,Nat.reduceAdd]))))
   go_roundw
   case rel=>exact ⟨k+1,by omega,by go_num,by rw [hs.out];exact congrArg (Value.int .u32) (shr_c g2 m),by rw [hs.out],hF.drop 0⟩
   case measure=>first|(simp [intOf];done)|(simp [intOf];omega)
  ·obtain rfl:k=n:=by omega
   go_wp2_with (((first|refine zrd ?_|(refine zst ?_;clear hF;(first|intro gN wN hF|intro wN hF|intro hF))|(refine zap ?_;clear hF;intro vN wN hF));(try simp only [zA,Nat.reduceAdd])))
   go_ret
   rw [show l.take k=l from by rw [List.take_of_length_le (by have:=Hn.out;omega)]]
   exact ⟨rfl,hF.bel⟩
end
section
open Go.RowKit Go.Sort
theorem vPush_any (A:Option Addr) (n c:Nat) (q:List Rq) (kind:Int) (line:Nat) (left:Int) (data:ByteArray) (w:World) (hr:Rd w w.heap.size 4 A n c (rqs q)) (hn:n≤1000000) (hl : -9223372036854775808≤left∧left≤9223372036854775807) :
  Calls Tryz.prog 142 #[.slice A n c,.int .i64 kind,.int .u32 (line:Int),.int .i64 left,.string data] w fun e w'=>∃ A2 c2,e = .returned (.slice A2 (n+1) c2)∧Out w [rowD 4 A n c (rqs q)] w' [rowD 4 A2 (n+1) c2 (rqs (q++[⟨kind,line,max left 1,data⟩]))]:=by
 have hF:=St.start w [rowD 4 A n c (rqs q)] (fun d hd=>by obtain rfl:=List.mem_singleton.1 hd;exact hr)
 obtain ⟨M,hM,hM2⟩:∃ M:Int,M=(if (1:Int) > left then 1 else left)∧M=max left 1:=⟨max left 1,by split <;> omega,rfl⟩
 have happ:Hid (rqs q++[.int .i64 kind,.int .u32 (line:Int),.int .i64 M,.string data]=rqs (q++[⟨kind,line,max left 1,data⟩])):=Lib.hid (by rw [rqs_append,← hM2];rfl)
 clear hM2
 replace hM:=Lib.hid hM
 go_enter Tryz.func142,Tryz.ntmps142
 go_wp2_with ((first|refine zg37 ?_|(refine zg38 ?_;clear hF;intro gN wN hF)|((first|refine zrd ?_|(refine zst ?_;clear hF;(first|intro gN wN hF|intro wN hF|intro hF))|(refine zap ?_;clear hF;intro vN wN hF));(try simp only [zA,Nat.reduceAdd]))))
 rw [Nat.zero_add,List.nil_append,happ.out] at hF
 obtain ⟨A2,c2,rfl,hF⟩:=hF.freeze 0 at0
 (try simp only [zF] at hF)
 go_ret
 exact ⟨A2,c2,rfl,hF.outA⟩
end
end Go.Proofs.YtgnomadgnciifaaGreatDoor
