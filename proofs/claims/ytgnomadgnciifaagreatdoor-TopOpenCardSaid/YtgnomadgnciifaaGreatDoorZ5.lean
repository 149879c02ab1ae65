/- . -/
import Derived.Test.YtgnomadgnciifaaGreatDoorZ4
import Derived.Lib.BitFns
set_option linter.unusedVariables false
set_option linter.unusedSimpArgs false
set_option linter.unusedSectionVars false
set_option maxRecDepth 100000
set_option maxHeartbeats 16000000
namespace Go.Proofs.YtgnomadgnciifaaGreatDoor
theorem b5a {p:Prop} (h:p:=by
 have hF:=St.start w [] (fun d hd=>by cases hd)
 go_enter Tryz.func146,Tryz.ntmps146
 go_wp2_with ((first|((refine w_sp2 rfl hF rfl rfl ?_;clear hF;intro gN wN hF);refine zs ?_)|((refine w_sp4 rfl hF rfl rfl rfl rfl ?_;clear hF;intro gN wN hF);refine zs ?_)|((first|refine zrg ?_|(refine zst ?_;clear hF;(first|intro gN wN hF|intro wN hF|intro hF))|(refine zap ?_;clear hF;intro vN wN hF));refine zs ?_)))
 go_returns
 obtain ⟨A,c,e1,hF3⟩:=hF.freeze 0 at0
 injection e1 with e1 _ e2
 exact ⟨_,_,rfl,by subst e1 e2;exact hF3.outA⟩):p:=h
theorem b5b {p:Prop} (h:p:=by
 go_enter Tryz.func219,Tryz.ntmps219
 go_wp2
 go_ret
 exact ⟨congrArg Ending.returned (congrArg Value.bool (by first|rfl|(rw [sg_eq ha,sg_eq hb])|(rw [sg_eq ha,sg_eq hb];simp;done)|(simp;done)|(simp [bne];done)|(rw [Bool.eq_iff_iff];simp;omega))),rfl⟩):p:=h
theorem c4b {p:Prop} (h:p:=by
 have hF:=St.start w [] (fun d hd=>by cases hd)
 go_enter Tryz.func146,Tryz.ntmps146
 go_wp2_with (((first|refine zrg ?_|(refine zst ?_;clear hF;(first|intro gN wN hF|intro wN hF|intro hF))|(refine zap ?_;clear hF;intro vN wN hF));refine zs ?_))
 go_returns
 have hF2:=hF.nil 240 2
 obtain ⟨A,c,e1,hF3⟩:=hF2.freeze 0 at0
 injection e1 with e1 _ e2
 exact ⟨none,0,rfl,by subst e1 e2;exact hF3.outA⟩):p:=h
theorem c4c {p:Prop} (h:p:=by
 (go_wp2_with ((try refine zs ?_);(first|refine a8j ?_|(refine a9a ?_;clear hF;(first|intro gN wN hF|intro wN hF|intro hF))|(refine a1d ?_;clear hF;intro vN wN hF))))
 go_roundw
 case rel=>exact ⟨k+1,by omega,by go_num,hb,hF.drop 0⟩
 case measure=>first|(simp [intOf];done)|(simp [intOf];omega)):p:=h
theorem b9w {p:Prop} (h:p:=by
 go_enter Tryz.func206,Tryz.ntmps206
 go_wp2
 go_ret
 exact ⟨a2m (by first|exact m38 a b ha hb|exact m41 a b ha hb|(rw [sg64 ha,sg64 hb];exact hi64 _)|(rw [sg64 ha];exact hi64 _)),rfl⟩):p:=h
theorem d3a {p:Prop} (h:p:=by
 have hb2:bits .and .u32 (b:Int) 31=((b % 32:Nat):Int):=by rw [← nat_mask5];exact u32_and_nat b 31 hb (by omega)
 have hb3:b % 32<32:=Nat.mod_lt _ (by omega)
 have h1:=u32_and_nat a b ha hb
 have h2:=u32_or_nat a b ha hb
 have h3:=u32_xor_nat a b ha hb
 go_enter Tryz.func209,Tryz.ntmps209
 go_wp2_with (go_at_call 217;refine (truth_any _ _).mono ?_;rintro e w' ⟨rfl,rfl⟩)
 go_ret
 exact ⟨a2m (e_sltu a b ha hb),rfl⟩):p:=h
theorem d3b {p:Prop} (h:p:=by
 have hb2:bits .and .u32 (b:Int) 31=((b % 32:Nat):Int):=by rw [← nat_mask5];exact u32_and_nat b 31 hb (by omega)
 have hb3:b % 32<32:=Nat.mod_lt _ (by omega)
 have h1:=u32_and_nat a b ha hb
 have h2:=u32_or_nat a b ha hb
 have h3:=u32_xor_nat a b ha hb
 go_enter Tryz.func209,Tryz.ntmps209
 go_wp2_with (go_at_call 217;refine (truth_any _ _).mono ?_;rintro e w' ⟨rfl,rfl⟩)
 go_ret
 exact ⟨a2m (e_add a b ha hb),rfl⟩):p:=h
theorem d3c {p:Prop} (h:p:=by
 have hb2:bits .and .u32 (b:Int) 31=((b % 32:Nat):Int):=by rw [← nat_mask5];exact u32_and_nat b 31 hb (by omega)
 have hb3:b % 32<32:=Nat.mod_lt _ (by omega)
 have h1:=u32_and_nat a b ha hb
 have h2:=u32_or_nat a b ha hb
 have h3:=u32_xor_nat a b ha hb
 go_enter Tryz.func209,Tryz.ntmps209
 go_wp2_with (go_at_call 217;refine (truth_any _ _).mono ?_;rintro e w' ⟨rfl,rfl⟩)
 go_ret
 exact ⟨a2m (e_and a b ha hb),rfl⟩):p:=h
theorem d3d {p:Prop} (h:p:=by
 have hb2:bits .and .u32 (b:Int) 31=((b % 32:Nat):Int):=by rw [← nat_mask5];exact u32_and_nat b 31 hb (by omega)
 have hb3:b % 32<32:=Nat.mod_lt _ (by omega)
 have h1:=u32_and_nat a b ha hb
 have h2:=u32_or_nat a b ha hb
 have h3:=u32_xor_nat a b ha hb
 go_enter Tryz.func209,Tryz.ntmps209
 go_wp2_with (go_at_call 217;refine (truth_any _ _).mono ?_;rintro e w' ⟨rfl,rfl⟩)
 go_ret
 exact ⟨a2m (e_xor a b ha hb),rfl⟩):p:=h
theorem d3e {p:Prop} (h:p:=by
 have hb2:bits .and .u32 (b:Int) 31=((b % 32:Nat):Int):=by rw [← nat_mask5];exact u32_and_nat b 31 hb (by omega)
 have hb3:b % 32<32:=Nat.mod_lt _ (by omega)
 have h1:=u32_and_nat a b ha hb
 have h2:=u32_or_nat a b ha hb
 have h3:=u32_xor_nat a b ha hb
 go_enter Tryz.func209,Tryz.ntmps209
 go_wp2_with (go_at_call 217;refine (truth_any _ _).mono ?_;rintro e w' ⟨rfl,rfl⟩)
 go_ret
 exact ⟨a2m (e_shl a b ha hb),rfl⟩):p:=h
theorem d3f {p:Prop} (h:p:=by
 have hb2:bits .and .u32 (b:Int) 31=((b % 32:Nat):Int):=by rw [← nat_mask5];exact u32_and_nat b 31 hb (by omega)
 have hb3:b % 32<32:=Nat.mod_lt _ (by omega)
 have h1:=u32_and_nat a b ha hb
 have h2:=u32_or_nat a b ha hb
 have h3:=u32_xor_nat a b ha hb
 go_enter Tryz.func209,Tryz.ntmps209
 go_wp2_with (go_at_call 217;refine (truth_any _ _).mono ?_;rintro e w' ⟨rfl,rfl⟩)
 go_ret
 exact ⟨a2m (e_shr a b ha hb),rfl⟩):p:=h
theorem d3g {p:Prop} (h:p:=by
 have hb2:bits .and .u32 (b:Int) 31=((b % 32:Nat):Int):=by rw [← nat_mask5];exact u32_and_nat b 31 hb (by omega)
 have hb3:b % 32<32:=Nat.mod_lt _ (by omega)
 have h1:=u32_and_nat a b ha hb
 have h2:=u32_or_nat a b ha hb
 have h3:=u32_xor_nat a b ha hb
 go_enter Tryz.func209,Tryz.ntmps209
 go_wp2_with (go_at_call 217;refine (truth_any _ _).mono ?_;rintro e w' ⟨rfl,rfl⟩)
 go_ret
 exact ⟨a2m (e_sra a b ha hb),rfl⟩):p:=h
theorem d3h {p:Prop} (h:p:=by
 have hb2:bits .and .u32 (b:Int) 31=((b % 32:Nat):Int):=by rw [← nat_mask5];exact u32_and_nat b 31 hb (by omega)
 have hb3:b % 32<32:=Nat.mod_lt _ (by omega)
 have h1:=u32_and_nat a b ha hb
 have h2:=u32_or_nat a b ha hb
 have h3:=u32_xor_nat a b ha hb
 go_enter Tryz.func209,Tryz.ntmps209
 go_wp2_with (go_at_call 217;refine (truth_any _ _).mono ?_;rintro e w' ⟨rfl,rfl⟩)
 go_ret
 exact ⟨a2m (e_slt a b ha hb),rfl⟩):p:=h
theorem d3i {p:Prop} (h:p:=by
 have hb2:bits .and .u32 (b:Int) 31=((b % 32:Nat):Int):=by rw [← nat_mask5];exact u32_and_nat b 31 hb (by omega)
 have hb3:b % 32<32:=Nat.mod_lt _ (by omega)
 have h1:=u32_and_nat a b ha hb
 have h2:=u32_or_nat a b ha hb
 have h3:=u32_xor_nat a b ha hb
 go_enter Tryz.func209,Tryz.ntmps209
 go_wp2_with (go_at_call 217;refine (truth_any _ _).mono ?_;rintro e w' ⟨rfl,rfl⟩)
 go_ret
 exact ⟨a2m (e_or a b ha hb),rfl⟩):p:=h
theorem d3j {p:Prop} (h:p:=by
 (go_wp2_with ((try refine zs ?_);(first|refine a8j ?_|(refine a9a ?_;clear hF;(first|intro gN wN hF|intro wN hF|intro hF))|(refine a1d ?_;clear hF;intro vN wN hF))))
 go_ret
 exact ⟨by unfold wrongI;rw [hR.out];rfl,hF.bel⟩):p:=h
theorem d3k {p:Prop} (h:p:=by
 cases hq:P.info? e with
 | none=>simp [hq] at hi
 | some i=>
  have:i.size=1:=by simpa [hq] using hi
  simp [sizeOf,typeInfo,hq,this]):p:=h
section
open Go.RowKit Wd
section
variable {P:Program} {ops:Array Oper} {rest:List Oper} {o:Oper} {a:Act} {Q:Exit→Act→World→Prop} {w0 w:World} {D0 D:List Da} {M:List Mu} {B:Nat} {Mr:List Mu} {Dr:List Da} {S:World→Prop}
inductive ArT (P:Program) (t e:TypeId) (n:Nat):Prop
 | mk (hu:P.underlying t=some (.array n e)) (hi:(P.info? e).map (·.size)=some 1)
theorem g3j {w:World} {t e:TypeId} {gl n k:Nat} {ki:IntKind} (ht:ArT P t e n) (hk:k<n):(Instr.indexAt t (.pointer (some ⟨gl,0,none⟩)) (.int ki (k:Int))).run P w = .ok (ept (some ⟨gl,0,none⟩) (k * 1)) w:=by
 obtain ⟨hu,hi⟩:=ht
 have hs:(sizeOf e).run P w = .ok 1 w:=by
  exact d3k
 simp [Instr.indexAt,run_underlying hu,asIntOf,hs,ept,Instr.sureAddr,show (k:Int)<(n:Int) by omega]
 intro h;omega
theorem y_gix {t e:TypeId} {gl n k:Nat} {ix:Operand} {ki:IntKind} (ho:o.op = .indexAddr t (.global gl) ix) (hk:a1b a ix=some (.int ki (k:Int))) (ht:ArT P t e n) (hkn:k<n:=by (first|assumption|omega|exact Nat.zero_lt_of_lt (by assumption)|exact Nat.succ_pos _)) (hw:Region.wanted o (yielded ops a.tmps)=true:=by rfl) :
  YieldsIf P ops S o (ept (some ⟨gl,0,none⟩) (k * 1)) a:=by
 replace hk:=look_eval hk
 have hg:a.eval (.global gl) = .pointer (some ⟨gl,0,none⟩):=rfl
 refine a1u hw fun w=>?_
 unfold execOp
 simp only [ho,hk,hg,g3j ht hkn,Sem.run_bind,Sem.run_pure,Result.andThen_ok]
theorem g3k {w:World} {t e:TypeId} {z:Value} {bytes:Nat} (ht:SlT P t e z 2 bytes) (hz:z.cells=#[.int .i64 0,.int .i64 0]) (p q r s:Int) :
  (Instr.buildSlice t 2 #[(0,.agg #[.int .i64 p,.int .i64 q]),(1,.agg #[.int .i64 r,.int .i64 s])]).run P w = .ok (.slice (some ⟨w.heap.size,0,none⟩) 2 2) (w.alloc (.cells #[.int .i64 p,.int .i64 q,.int .i64 r,.int .i64 s] e)):=by
 obtain ⟨hu,hi,hzz,hp⟩:=ht
 obtain ⟨i,hi1,hz1,hs1,_⟩:=info_parts hi
 refine run_buildSlice w t e 2 _ #[.int .i64 p,.int .i64 q,.int .i64 r,.int .i64 s] i z hu hi1 hz1 (by rw [hs1];omega) (by rw [hs1];omega) ?_
 rw [hs1,show Array.range (2 * 2)=#[0,1,2,3] from rfl,hz]
 simp [Instr.fill,Value.cells]
theorem g3l {w:World} {t e:TypeId} {z:Value} {bytes:Nat} (ht:SlT P t e z 2 bytes) (hz:z.cells=#[.int .i64 0,.int .i64 0]) (p q r s p' q' r' s':Int) :
  (Instr.buildSlice t 4 #[(0,.agg #[.int .i64 p,.int .i64 q]),(1,.agg #[.int .i64 r,.int .i64 s]),(2,.agg #[.int .i64 p',.int .i64 q']),(3,.agg #[.int .i64 r',.int .i64 s'])]).run P w =
   .ok (.slice (some ⟨w.heap.size,0,none⟩) 4 4) (w.alloc (.cells #[.int .i64 p,.int .i64 q,.int .i64 r,.int .i64 s,.int .i64 p',.int .i64 q',.int .i64 r',.int .i64 s'] e)):=by
 obtain ⟨hu,hi,hzz,hp⟩:=ht
 obtain ⟨i,hi1,hz1,hs1,_⟩:=info_parts hi
 refine run_buildSlice w t e 4 _ #[.int .i64 p,.int .i64 q,.int .i64 r,.int .i64 s,.int .i64 p',.int .i64 q',.int .i64 r',.int .i64 s'] i z hu hi1 hz1 (by rw [hs1];omega) (by rw [hs1];omega) ?_
 rw [hs1,show Array.range (4 * 2)=#[0,1,2,3,4,5,6,7] from rfl,hz]
 simp [Instr.fill,Value.cells]
theorem d3l {w:World} (hb:w0.heap.size≤w.heap.size) {e:TypeId} {sz n:Nat} (cs:List Value) (hl:cs.length=n * sz) (hn:n≤100):(w.alloc (.cells cs.toArray e)).ownsRow w0.heap.size e sz (.slice (some ⟨w.heap.size,0,none⟩) n n) n cs :=
 ⟨hl,.inr ⟨w.heap.size,n,cs.toArray,rfl,hb,heap_alloc_new w _,Nat.le_refl _,by unfold maxLen;omega,by simp [hl],by rw [List.take_of_length_le (by simp [hl])]⟩⟩
theorem w_sp2 {t e:TypeId} {x y:Operand} {z:Value} {bytes:Nat} {p q r s:Int} (ho:o.op = .buildSlice t 2 #[(0,x),(1,y)]) (hF:St w0 D0 w M D) (hx:a1b a x=some (.agg #[.int .i64 p,.int .i64 q])) (hy:a1b a y=some (.agg #[.int .i64 r,.int .i64 s]))
  (h:∀ g w',St w0 D0 w' (.own (.slice (some ⟨g,0,none⟩) 2 2) e 2 2 [.int .i64 p,.int .i64 q,.int .i64 r,.int .i64 s]::M) D→wpList P ops Q rest (a.put o.dst (.slice (some ⟨g,0,none⟩) 2 2)) w') (hgd:o.guard=none:=by rfl) (ht:SlT P t e z 2 bytes:=by exact a3o _ _ _ _ _ rfl) (hz:z.cells=#[.int .i64 0,.int .i64 0]:=by rfl):wpList P ops Q (o::rest) a w:=by
 refine wpList_plain hgd fun K hK=>?_
 have hF':St w0 D0 (w.alloc (.cells #[.int .i64 p,.int .i64 q,.int .i64 r,.int .i64 s] e)) (.own (.slice (some ⟨w.heap.size,0,none⟩) 2 2) e 2 2 [.int .i64 p,.int .i64 q,.int .i64 r,.int .i64 s]::M) D :=
  hF.push _ (a6l (Bel.alloc w _) none) (d3l hF.bel.size [.int .i64 p,.int .i64 q,.int .i64 r,.int .i64 s] rfl (by omega)) fun g hg=>by simp only [Mu.bl,Value.ownBlock,Option.some.injEq] at hg;omega
 have hk:=hK _ _ (h _ _ hF')
 replace hx:=look_eval hx
 replace hy:=look_eval hy
 unfold Oper.wp execOp
 simp only [ho,List.map_toArray,List.map_cons,List.map_nil,hx,hy,g3k ht hz,Sem.run_bind,Sem.run_pure,Result.andThen_ok]
 exact hk
theorem w_sp4 {t e:TypeId} {x y x' y':Operand} {z:Value} {bytes:Nat} {p q r s p' q' r' s':Int} (ho:o.op = .buildSlice t 4 #[(0,x),(1,y),(2,x'),(3,y')]) (hF:St w0 D0 w M D) (hx:a1b a x=some (.agg #[.int .i64 p,.int .i64 q])) (hy:a1b a y=some (.agg #[.int .i64 r,.int .i64 s])) (hx':a1b a x'=some (.agg #[.int .i64 p',.int .i64 q'])) (hy':a1b a y'=some (.agg #[.int .i64 r',.int .i64 s']))
  (h:∀ g w',St w0 D0 w' (.own (.slice (some ⟨g,0,none⟩) 4 4) e 2 4 [.int .i64 p,.int .i64 q,.int .i64 r,.int .i64 s,.int .i64 p',.int .i64 q',.int .i64 r',.int .i64 s']::M) D→wpList P ops Q rest (a.put o.dst (.slice (some ⟨g,0,none⟩) 4 4)) w') (hgd:o.guard=none:=by rfl) (ht:SlT P t e z 2 bytes:=by exact a3o _ _ _ _ _ rfl) (hz:z.cells=#[.int .i64 0,.int .i64 0]:=by rfl):wpList P ops Q (o::rest) a w:=by
 refine wpList_plain hgd fun K hK=>?_
 have hF':St w0 D0 (w.alloc (.cells #[.int .i64 p,.int .i64 q,.int .i64 r,.int .i64 s,.int .i64 p',.int .i64 q',.int .i64 r',.int .i64 s'] e)) (.own (.slice (some ⟨w.heap.size,0,none⟩) 4 4) e 2 4 [.int .i64 p,.int .i64 q,.int .i64 r,.int .i64 s,.int .i64 p',.int .i64 q',.int .i64 r',.int .i64 s']::M) D :=
  hF.push _ (a6l (Bel.alloc w _) none) (d3l hF.bel.size [.int .i64 p,.int .i64 q,.int .i64 r,.int .i64 s,.int .i64 p',.int .i64 q',.int .i64 r',.int .i64 s'] rfl (by omega)) fun g hg=>by simp only [Mu.bl,Value.ownBlock,Option.some.injEq] at hg;omega
 have hk:=hK _ _ (h _ _ hF')
 replace hx:=look_eval hx
 replace hy:=look_eval hy
 replace hx':=look_eval hx'
 replace hy':=look_eval hy'
 unfold Oper.wp execOp
 simp only [ho,List.map_toArray,List.map_cons,List.map_nil,hx,hy,hx',hy',g3l ht hz,Sem.run_bind,Sem.run_pure,Result.andThen_ok]
 exact hk
end
theorem b7d (op:Int):a1o op=0∨a1o op=1∨a1o op=2∨a1o op=3∨a1o op=4∨a1o op=5∨a1o op=6∨a1o op=7∨a1o op=8:=by
 unfold a1o
 repeat' split
 all_goals simp
theorem a8c (op:Int):a5i op=a1o op:=rfl
theorem g3m (w:World):Calls Tryz.prog 183 #[.int .i64 0] w fun e w'=>e = .returned (.int .u32 (a5l 0:Int))∧w'=w:=by
 go_enter Tryz.func183,Tryz.ntmps183
 go_wp2
 go_ret
 exact ⟨rfl,rfl⟩
theorem d3m (w:World):Calls Tryz.prog 106 #[.int .i64 0] w fun e w'=>e = .returned (.tuple #[.bool (a2e 0).1,.bool (a2e 0).2.1,.bool (a2e 0).2.2])∧w'=w:=by
 go_enter Tryz.func106,Tryz.ntmps106
 go_wp2
 go_returns
 exact ⟨rfl,rfl⟩
theorem g3n (w:World):Calls Tryz.prog 183 #[.int .i64 1] w fun e w'=>e = .returned (.int .u32 (a5l 1:Int))∧w'=w:=by
 go_enter Tryz.func183,Tryz.ntmps183
 go_wp2
 go_ret
 exact ⟨rfl,rfl⟩
theorem d3n (w:World):Calls Tryz.prog 106 #[.int .i64 1] w fun e w'=>e = .returned (.tuple #[.bool (a2e 1).1,.bool (a2e 1).2.1,.bool (a2e 1).2.2])∧w'=w:=by
 go_enter Tryz.func106,Tryz.ntmps106
 go_wp2
 go_returns
 exact ⟨rfl,rfl⟩
theorem g3o (w:World):Calls Tryz.prog 183 #[.int .i64 2] w fun e w'=>e = .returned (.int .u32 (a5l 2:Int))∧w'=w:=by
 go_enter Tryz.func183,Tryz.ntmps183
 go_wp2
 go_ret
 exact ⟨rfl,rfl⟩
theorem d3o (w:World):Calls Tryz.prog 106 #[.int .i64 2] w fun e w'=>e = .returned (.tuple #[.bool (a2e 2).1,.bool (a2e 2).2.1,.bool (a2e 2).2.2])∧w'=w:=by
 go_enter Tryz.func106,Tryz.ntmps106
 go_wp2
 go_returns
 exact ⟨rfl,rfl⟩
theorem g3p (w:World):Calls Tryz.prog 183 #[.int .i64 3] w fun e w'=>e = .returned (.int .u32 (a5l 3:Int))∧w'=w:=by
 go_enter Tryz.func183,Tryz.ntmps183
 go_wp2
 go_ret
 exact ⟨rfl,rfl⟩
theorem d3p (w:World):Calls Tryz.prog 106 #[.int .i64 3] w fun e w'=>e = .returned (.tuple #[.bool (a2e 3).1,.bool (a2e 3).2.1,.bool (a2e 3).2.2])∧w'=w:=by
 go_enter Tryz.func106,Tryz.ntmps106
 go_wp2
 go_returns
 exact ⟨rfl,rfl⟩
theorem g3q (w:World):Calls Tryz.prog 183 #[.int .i64 4] w fun e w'=>e = .returned (.int .u32 (a5l 4:Int))∧w'=w:=by
 go_enter Tryz.func183,Tryz.ntmps183
 go_wp2
 go_ret
 exact ⟨rfl,rfl⟩
theorem d3q (w:World):Calls Tryz.prog 106 #[.int .i64 4] w fun e w'=>e = .returned (.tuple #[.bool (a2e 4).1,.bool (a2e 4).2.1,.bool (a2e 4).2.2])∧w'=w:=by
 go_enter Tryz.func106,Tryz.ntmps106
 go_wp2
 go_returns
 exact ⟨rfl,rfl⟩
theorem g3r (w:World):Calls Tryz.prog 183 #[.int .i64 5] w fun e w'=>e = .returned (.int .u32 (a5l 5:Int))∧w'=w:=by
 go_enter Tryz.func183,Tryz.ntmps183
 go_wp2
 go_ret
 exact ⟨rfl,rfl⟩
theorem d3r (w:World):Calls Tryz.prog 106 #[.int .i64 5] w fun e w'=>e = .returned (.tuple #[.bool (a2e 5).1,.bool (a2e 5).2.1,.bool (a2e 5).2.2])∧w'=w:=by
 go_enter Tryz.func106,Tryz.ntmps106
 go_wp2
 go_returns
 exact ⟨rfl,rfl⟩
theorem g3s (w:World):Calls Tryz.prog 183 #[.int .i64 6] w fun e w'=>e = .returned (.int .u32 (a5l 6:Int))∧w'=w:=by
 go_enter Tryz.func183,Tryz.ntmps183
 go_wp2
 go_ret
 exact ⟨rfl,rfl⟩
theorem d3s (w:World):Calls Tryz.prog 106 #[.int .i64 6] w fun e w'=>e = .returned (.tuple #[.bool (a2e 6).1,.bool (a2e 6).2.1,.bool (a2e 6).2.2])∧w'=w:=by
 go_enter Tryz.func106,Tryz.ntmps106
 go_wp2
 go_returns
 exact ⟨rfl,rfl⟩
theorem g3t (w:World):Calls Tryz.prog 183 #[.int .i64 7] w fun e w'=>e = .returned (.int .u32 (a5l 7:Int))∧w'=w:=by
 go_enter Tryz.func183,Tryz.ntmps183
 go_wp2
 go_ret
 exact ⟨rfl,rfl⟩
theorem d3t (w:World):Calls Tryz.prog 106 #[.int .i64 7] w fun e w'=>e = .returned (.tuple #[.bool (a2e 7).1,.bool (a2e 7).2.1,.bool (a2e 7).2.2])∧w'=w:=by
 go_enter Tryz.func106,Tryz.ntmps106
 go_wp2
 go_returns
 exact ⟨rfl,rfl⟩
theorem g3u (w:World):Calls Tryz.prog 183 #[.int .i64 8] w fun e w'=>e = .returned (.int .u32 (a5l 8:Int))∧w'=w:=by
 go_enter Tryz.func183,Tryz.ntmps183
 go_wp2
 go_ret
 exact ⟨rfl,rfl⟩
theorem d3u (w:World):Calls Tryz.prog 106 #[.int .i64 8] w fun e w'=>e = .returned (.tuple #[.bool (a2e 8).1,.bool (a2e 8).2.1,.bool (a2e 8).2.2])∧w'=w:=by
 go_enter Tryz.func106,Tryz.ntmps106
 go_wp2
 go_returns
 exact ⟨rfl,rfl⟩
theorem g3v (f:Int) (w:World) (h:f=0∨f=1∨f=2∨f=3∨f=4∨f=5∨f=6∨f=7∨f=8):Calls Tryz.prog 183 #[.int .i64 f] w fun e w'=>e = .returned (.int .u32 (a5l f:Int))∧w'=w:=by
 rcases h with rfl|rfl|rfl|rfl|rfl|rfl|rfl|rfl|rfl
 ·exact g3m w
 ·exact g3n w
 ·exact g3o w
 ·exact g3p w
 ·exact g3q w
 ·exact g3r w
 ·exact g3s w
 ·exact g3t w
 ·exact g3u w
theorem g3w (f:Int) (w:World) (h:f=0∨f=1∨f=2∨f=3∨f=4∨f=5∨f=6∨f=7∨f=8):Calls Tryz.prog 106 #[.int .i64 f] w fun e w'=>e = .returned (.tuple #[.bool (a2e f).1,.bool (a2e f).2.1,.bool (a2e f).2.2])∧w'=w:=by
 rcases h with rfl|rfl|rfl|rfl|rfl|rfl|rfl|rfl|rfl
 ·exact d3m w
 ·exact d3n w
 ·exact d3o w
 ·exact d3p w
 ·exact d3q w
 ·exact d3r w
 ·exact d3s w
 ·exact d3t w
 ·exact d3u w
def a2l (l:List (Int × Int)):List Spn:=l.map fun p=>⟨p.1,p.2⟩
instance spnsRows : Rows spns Spn.cells 2:=⟨fun _=>rfl,fun _=>rfl,Spn.one,by decide⟩
theorem d3v (w:World):Calls Tryz.prog 146 #[.int .i64 0] w fun e w'=>∃ A c,e = .returned (.tuple #[.slice A (a1g 0).1.length c,.int .i64 ((a1g 0).2:Int)])∧Out w [] w' [a1a 2 A (a1g 0).1.length c (spns (a2l (a1g 0).1))]:=by
 exact c4b
theorem d3w (w:World):Calls Tryz.prog 146 #[.int .i64 1] w fun e w'=>∃ A c,e = .returned (.tuple #[.slice A (a1g 1).1.length c,.int .i64 ((a1g 1).2:Int)])∧Out w [] w' [a1a 2 A (a1g 1).1.length c (spns (a2l (a1g 1).1))]:=by
 exact c4b
theorem d3x (w:World):Calls Tryz.prog 146 #[.int .i64 8] w fun e w'=>∃ A c,e = .returned (.tuple #[.slice A (a1g 8).1.length c,.int .i64 ((a1g 8).2:Int)])∧Out w [] w' [a1a 2 A (a1g 8).1.length c (spns (a2l (a1g 8).1))]:=by
 exact c4b
theorem d3y (w:World):Calls Tryz.prog 146 #[.int .i64 2] w fun e w'=>∃ A c,e = .returned (.tuple #[.slice A (a1g 2).1.length c,.int .i64 ((a1g 2).2:Int)])∧Out w [] w' [a1a 2 A (a1g 2).1.length c (spns (a2l (a1g 2).1))]:=by
 exact b5a
theorem d3z (w:World):Calls Tryz.prog 146 #[.int .i64 3] w fun e w'=>∃ A c,e = .returned (.tuple #[.slice A (a1g 3).1.length c,.int .i64 ((a1g 3).2:Int)])∧Out w [] w' [a1a 2 A (a1g 3).1.length c (spns (a2l (a1g 3).1))]:=by
 exact b5a
theorem d4a (w:World):Calls Tryz.prog 146 #[.int .i64 4] w fun e w'=>∃ A c,e = .returned (.tuple #[.slice A (a1g 4).1.length c,.int .i64 ((a1g 4).2:Int)])∧Out w [] w' [a1a 2 A (a1g 4).1.length c (spns (a2l (a1g 4).1))]:=by
 exact b5a
theorem d4b (w:World):Calls Tryz.prog 146 #[.int .i64 5] w fun e w'=>∃ A c,e = .returned (.tuple #[.slice A (a1g 5).1.length c,.int .i64 ((a1g 5).2:Int)])∧Out w [] w' [a1a 2 A (a1g 5).1.length c (spns (a2l (a1g 5).1))]:=by
 exact b5a
theorem d4c (w:World):Calls Tryz.prog 146 #[.int .i64 6] w fun e w'=>∃ A c,e = .returned (.tuple #[.slice A (a1g 6).1.length c,.int .i64 ((a1g 6).2:Int)])∧Out w [] w' [a1a 2 A (a1g 6).1.length c (spns (a2l (a1g 6).1))]:=by
 exact b5a
theorem d4d (w:World):Calls Tryz.prog 146 #[.int .i64 7] w fun e w'=>∃ A c,e = .returned (.tuple #[.slice A (a1g 7).1.length c,.int .i64 ((a1g 7).2:Int)])∧Out w [] w' [a1a 2 A (a1g 7).1.length c (spns (a2l (a1g 7).1))]:=by
 exact b5a
theorem g3x (f:Int) (w:World) (h:f=0∨f=1∨f=2∨f=3∨f=4∨f=5∨f=6∨f=7∨f=8):Calls Tryz.prog 146 #[.int .i64 f] w fun e w'=>∃ A c,e = .returned (.tuple #[.slice A (a1g f).1.length c,.int .i64 ((a1g f).2:Int)])∧Out w [] w' [a1a 2 A (a1g f).1.length c (spns (a2l (a1g f).1))]:=by
 rcases h with rfl|rfl|rfl|rfl|rfl|rfl|rfl|rfl|rfl
 ·exact d3v w
 ·exact d3w w
 ·exact d3y w
 ·exact d3z w
 ·exact d4a w
 ·exact d4b w
 ·exact d4c w
 ·exact d4d w
 ·exact d3x w
end
section
open Go.RowKit Wd
theorem truth_any (b:Bool) (w:World):Calls Tryz.prog 217 #[.bool b] w fun e w'=>e = .returned (.int .u32 (a7x b:Int))∧w'=w:=by
 cases b
 all_goals
  go_enter Tryz.func217,Tryz.ntmps217
  go_wp2
  go_ret
  exact ⟨rfl,rfl⟩
theorem sg_eq {a:Nat} (h:a<4294967296):wrap32 (a:Int)=sg a:=by
 unfold wrap32 sg;split <;> omega
theorem c4d (x:Int):((un x:Nat):Int)=x % 4294967296:=by unfold un;omega
theorem b9x (x:Int):un x<4294967296:=by unfold un;omega
theorem d4e (a s:Nat):(a:Int) * 2 ^ s % 4294967296=((a * 2 ^ s % 4294967296:Nat):Int):=by
 rw [b2x];omega
theorem c4e (a s:Nat):(a:Int) / 2 ^ s=((a / 2 ^ s:Nat):Int):=by
 rw [b2x];omega
theorem g3y (b:Bool):a7x b<4294967296:=by cases b <;> decide
theorem d4f {op:Int} {a b:Nat} (ha:a<4294967296) (hb:b<4294967296):a1t op a b<4294967296:=by
 unfold a1t a1k b6z
 have h1:a &&& b<4294967296:=Nat.lt_of_le_of_lt Nat.and_le_left ha
 have h2:a ||| b<4294967296:=Nat.or_lt_two_pow (n:=32) ha hb
 have h3:a ^^^ b<4294967296:=Nat.xor_lt_two_pow (n:=32) ha hb
 have h4:a / 2 ^ (b % 32)<4294967296:=Nat.lt_of_le_of_lt (Nat.div_le_self _ _) ha
 have h5:=b9x (sg a / 2 ^ (b % 32))
 have h6:=g3y
 repeat' split
 all_goals first|assumption|exact h6 _|omega
section
variable (a b:Nat) (ha:a<4294967296) (hb:b<4294967296)
include ha hb
theorem e_add : ((a:Int)+(b:Int)) % 4294967296=((a1k a b:Nat):Int):=by unfold a1k;omega
theorem g3z : ((a:Int) - (b:Int)) % 4294967296=((b6z a b:Nat):Int):=by unfold b6z;omega
theorem e_and : ((a &&& b:Nat):Int)=((a &&& b:Nat):Int):=rfl
theorem e_or : ((a ||| b:Nat):Int)=((a ||| b:Nat):Int):=rfl
theorem e_xor : ((a ^^^ b:Nat):Int)=((a ^^^ b:Nat):Int):=rfl
theorem e_shl : (a:Int) * 2 ^ (b % 32) % 4294967296=((a * 2 ^ (b % 32) % 4294967296:Nat):Int):=d4e a _
theorem e_shr : (a:Int) / 2 ^ (b % 32)=((a / 2 ^ (b % 32):Nat):Int):=c4e a _
theorem e_sra : wrap32 (a:Int) / 2 ^ (b % 32) % 4294967296=((un (sg a / 2 ^ (b % 32)):Nat):Int):=by rw [sg_eq ha,c4d]
theorem e_slt : ((a7x (decide (wrap32 (a:Int)<wrap32 (b:Int))):Nat):Int)=((a7x (decide (sg a<sg b)):Nat):Int):=by rw [sg_eq ha,sg_eq hb]
theorem e_sltu : ((a7x (decide (a<b)):Nat):Int)=((a7x (decide (a<b)):Nat):Int):=rfl
theorem g4a : ((b:Nat):Int)=((b:Nat):Int):=rfl
end
theorem g4b (a b:Nat) (w:World) (ha:a<4294967296) (hb:b<4294967296) :
  Calls Tryz.prog 209 #[.int .i64 28,.int .u32 (a:Int),.int .u32 (b:Int)] w fun e w'=>e = .returned (.int .u32 (a1t 28 a b:Int))∧w'=w:=by
 rw [show a1t 28 a b=a1k a b from by simp [a1t]]
 exact d3b
theorem g4c (a b:Nat) (w:World) (ha:a<4294967296) (hb:b<4294967296) :
  Calls Tryz.prog 209 #[.int .i64 19,.int .u32 (a:Int),.int .u32 (b:Int)] w fun e w'=>e = .returned (.int .u32 (a1t 19 a b:Int))∧w'=w:=by
 rw [show a1t 19 a b=a1k a b from by simp [a1t]]
 exact d3b
theorem g4d (a b:Nat) (w:World) (ha:a<4294967296) (hb:b<4294967296) :
  Calls Tryz.prog 209 #[.int .i64 29,.int .u32 (a:Int),.int .u32 (b:Int)] w fun e w'=>e = .returned (.int .u32 (a1t 29 a b:Int))∧w'=w:=by
 rw [show a1t 29 a b=b6z a b from by simp [a1t]]
 have hb2:bits .and .u32 (b:Int) 31=((b % 32:Nat):Int):=by rw [← nat_mask5];exact u32_and_nat b 31 hb (by omega)
 have hb3:b % 32<32:=Nat.mod_lt _ (by omega)
 have h1:=u32_and_nat a b ha hb
 have h2:=u32_or_nat a b ha hb
 have h3:=u32_xor_nat a b ha hb
 go_enter Tryz.func209,Tryz.ntmps209
 go_wp2_with (go_at_call 217;refine (truth_any _ _).mono ?_;rintro e w' ⟨rfl,rfl⟩)
 go_ret
 exact ⟨a2m (g3z a b ha hb),rfl⟩
theorem g4e (a b:Nat) (w:World) (ha:a<4294967296) (hb:b<4294967296) :
  Calls Tryz.prog 209 #[.int .i64 37,.int .u32 (a:Int),.int .u32 (b:Int)] w fun e w'=>e = .returned (.int .u32 (a1t 37 a b:Int))∧w'=w:=by
 rw [show a1t 37 a b=a &&& b from by simp [a1t]]
 exact d3c
theorem g4f (a b:Nat) (w:World) (ha:a<4294967296) (hb:b<4294967296) :
  Calls Tryz.prog 209 #[.int .i64 24,.int .u32 (a:Int),.int .u32 (b:Int)] w fun e w'=>e = .returned (.int .u32 (a1t 24 a b:Int))∧w'=w:=by
 rw [show a1t 24 a b=a &&& b from by simp [a1t]]
 exact d3c
theorem g4g (a b:Nat) (w:World) (ha:a<4294967296) (hb:b<4294967296) :
  Calls Tryz.prog 209 #[.int .i64 36,.int .u32 (a:Int),.int .u32 (b:Int)] w fun e w'=>e = .returned (.int .u32 (a1t 36 a b:Int))∧w'=w:=by
 rw [show a1t 36 a b=a ||| b from by simp [a1t]]
 exact d3i
theorem g4h (a b:Nat) (w:World) (ha:a<4294967296) (hb:b<4294967296) :
  Calls Tryz.prog 209 #[.int .i64 23,.int .u32 (a:Int),.int .u32 (b:Int)] w fun e w'=>e = .returned (.int .u32 (a1t 23 a b:Int))∧w'=w:=by
 rw [show a1t 23 a b=a ||| b from by simp [a1t]]
 exact d3i
theorem g4i (a b:Nat) (w:World) (ha:a<4294967296) (hb:b<4294967296) :
  Calls Tryz.prog 209 #[.int .i64 33,.int .u32 (a:Int),.int .u32 (b:Int)] w fun e w'=>e = .returned (.int .u32 (a1t 33 a b:Int))∧w'=w:=by
 rw [show a1t 33 a b=a ^^^ b from by simp [a1t]]
 exact d3d
theorem g4j (a b:Nat) (w:World) (ha:a<4294967296) (hb:b<4294967296) :
  Calls Tryz.prog 209 #[.int .i64 22,.int .u32 (a:Int),.int .u32 (b:Int)] w fun e w'=>e = .returned (.int .u32 (a1t 22 a b:Int))∧w'=w:=by
 rw [show a1t 22 a b=a ^^^ b from by simp [a1t]]
 exact d3d
theorem g4k (a b:Nat) (w:World) (ha:a<4294967296) (hb:b<4294967296) :
  Calls Tryz.prog 209 #[.int .i64 30,.int .u32 (a:Int),.int .u32 (b:Int)] w fun e w'=>e = .returned (.int .u32 (a1t 30 a b:Int))∧w'=w:=by
 rw [show a1t 30 a b=a * 2 ^ (b % 32) % 4294967296 from by simp [a1t]]
 exact d3e
theorem g4l (a b:Nat) (w:World) (ha:a<4294967296) (hb:b<4294967296) :
  Calls Tryz.prog 209 #[.int .i64 25,.int .u32 (a:Int),.int .u32 (b:Int)] w fun e w'=>e = .returned (.int .u32 (a1t 25 a b:Int))∧w'=w:=by
 rw [show a1t 25 a b=a * 2 ^ (b % 32) % 4294967296 from by simp [a1t]]
 exact d3e
theorem g4m (a b:Nat) (w:World) (ha:a<4294967296) (hb:b<4294967296) :
  Calls Tryz.prog 209 #[.int .i64 34,.int .u32 (a:Int),.int .u32 (b:Int)] w fun e w'=>e = .returned (.int .u32 (a1t 34 a b:Int))∧w'=w:=by
 rw [show a1t 34 a b=a / 2 ^ (b % 32) from by simp [a1t]]
 exact d3f
theorem g4n (a b:Nat) (w:World) (ha:a<4294967296) (hb:b<4294967296) :
  Calls Tryz.prog 209 #[.int .i64 26,.int .u32 (a:Int),.int .u32 (b:Int)] w fun e w'=>e = .returned (.int .u32 (a1t 26 a b:Int))∧w'=w:=by
 rw [show a1t 26 a b=a / 2 ^ (b % 32) from by simp [a1t]]
 exact d3f
theorem g4o (a b:Nat) (w:World) (ha:a<4294967296) (hb:b<4294967296) :
  Calls Tryz.prog 209 #[.int .i64 35,.int .u32 (a:Int),.int .u32 (b:Int)] w fun e w'=>e = .returned (.int .u32 (a1t 35 a b:Int))∧w'=w:=by
 rw [show a1t 35 a b=un (sg a / 2 ^ (b % 32)) from by simp [a1t]]
 exact d3g
theorem g4p (a b:Nat) (w:World) (ha:a<4294967296) (hb:b<4294967296) :
  Calls Tryz.prog 209 #[.int .i64 27,.int .u32 (a:Int),.int .u32 (b:Int)] w fun e w'=>e = .returned (.int .u32 (a1t 27 a b:Int))∧w'=w:=by
 rw [show a1t 27 a b=un (sg a / 2 ^ (b % 32)) from by simp [a1t]]
 exact d3g
theorem g4q (a b:Nat) (w:World) (ha:a<4294967296) (hb:b<4294967296) :
  Calls Tryz.prog 209 #[.int .i64 31,.int .u32 (a:Int),.int .u32 (b:Int)] w fun e w'=>e = .returned (.int .u32 (a1t 31 a b:Int))∧w'=w:=by
 rw [show a1t 31 a b=a7x (decide (sg a<sg b)) from by simp [a1t]]
 exact d3h
theorem g4r (a b:Nat) (w:World) (ha:a<4294967296) (hb:b<4294967296) :
  Calls Tryz.prog 209 #[.int .i64 20,.int .u32 (a:Int),.int .u32 (b:Int)] w fun e w'=>e = .returned (.int .u32 (a1t 20 a b:Int))∧w'=w:=by
 rw [show a1t 20 a b=a7x (decide (sg a<sg b)) from by simp [a1t]]
 exact d3h
theorem g4s (a b:Nat) (w:World) (ha:a<4294967296) (hb:b<4294967296) :
  Calls Tryz.prog 209 #[.int .i64 32,.int .u32 (a:Int),.int .u32 (b:Int)] w fun e w'=>e = .returned (.int .u32 (a1t 32 a b:Int))∧w'=w:=by
 rw [show a1t 32 a b=a7x (decide (a<b)) from by simp [a1t]]
 exact d3a
theorem g4t (a b:Nat) (w:World) (ha:a<4294967296) (hb:b<4294967296) :
  Calls Tryz.prog 209 #[.int .i64 21,.int .u32 (a:Int),.int .u32 (b:Int)] w fun e w'=>e = .returned (.int .u32 (a1t 21 a b:Int))∧w'=w:=by
 rw [show a1t 21 a b=a7x (decide (a<b)) from by simp [a1t]]
 exact d3a
theorem g4u (a b:Nat) (w:World) (ha:a<4294967296) (hb:b<4294967296) :
  Calls Tryz.prog 209 #[.int .i64 1,.int .u32 (a:Int),.int .u32 (b:Int)] w fun e w'=>e = .returned (.int .u32 (a1t 1 a b:Int))∧w'=w:=by
 rw [show a1t 1 a b=b from by simp [a1t]]
 have hb2:bits .and .u32 (b:Int) 31=((b % 32:Nat):Int):=by rw [← nat_mask5];exact u32_and_nat b 31 hb (by omega)
 have hb3:b % 32<32:=Nat.mod_lt _ (by omega)
 have h1:=u32_and_nat a b ha hb
 have h2:=u32_or_nat a b ha hb
 have h3:=u32_xor_nat a b ha hb
 go_enter Tryz.func209,Tryz.ntmps209
 go_wp2_with (go_at_call 217;refine (truth_any _ _).mono ?_;rintro e w' ⟨rfl,rfl⟩)
 go_ret
 exact ⟨a2m (g4a a b ha hb),rfl⟩
theorem g4v (op:Int):(op=28∨op=19∨op=29∨op=37∨op=24∨op=36∨op=23∨op=33∨op=22∨op=30∨op=25∨op=34∨op=26∨op=35∨op=27∨op=31∨op=20∨op=32∨op=21∨op=1) ∨
  (∀ a b,a1t op a b=0)∧(op == 28)=false∧(op == 19)=false∧(op == 29)=false∧(op == 37)=false∧(op == 24)=false∧(op == 36)=false∧(op == 23)=false∧(op == 33)=false∧(op == 22)=false∧(op == 30)=false∧(op == 25)=false∧(op == 34)=false∧(op == 26)=false∧(op == 35)=false∧(op == 27)=false∧(op == 31)=false∧(op == 20)=false∧(op == 32)=false∧(op == 21)=false∧(op == 1)=false:=by
 by_cases h:(op=28∨op=19∨op=29∨op=37∨op=24∨op=36∨op=23∨op=33∨op=22∨op=30∨op=25∨op=34∨op=26∨op=35∨op=27∨op=31∨op=20∨op=32∨op=21∨op=1)
 ·exact .inl h
 ·have key:∀ k:Int,op≠k→(op == k)=false:=fun k hk=>by simpa using hk
  refine .inr ⟨fun a b=>?_,?_⟩
  ·unfold a1t
   repeat rw [if_neg (by omega)]
  ·refine ⟨key _ ?_,key _ ?_,key _ ?_,key _ ?_,key _ ?_,key _ ?_,key _ ?_,key _ ?_,key _ ?_,key _ ?_,key _ ?_,key _ ?_,key _ ?_,key _ ?_,key _ ?_,key _ ?_,key _ ?_,key _ ?_,key _ ?_,key _ ?_⟩ <;> omega
theorem c4f (op:Int) (a b:Nat) (w:World) (ha:a<4294967296) (hb:b<4294967296) :
  Calls Tryz.prog 209 #[.int .i64 op,.int .u32 (a:Int),.int .u32 (b:Int)] w fun e w'=>e = .returned (.int .u32 (a1t op a b:Int))∧w'=w:=by
 rcases g4v op with h|⟨h0,h⟩
 ·rcases h with rfl|rfl|rfl|rfl|rfl|rfl|rfl|rfl|rfl|rfl|rfl|rfl|rfl|rfl|rfl|rfl|rfl|rfl|rfl|rfl
  ·exact g4b a b w ha hb
  ·exact g4c a b w ha hb
  ·exact g4d a b w ha hb
  ·exact g4e a b w ha hb
  ·exact g4f a b w ha hb
  ·exact g4g a b w ha hb
  ·exact g4h a b w ha hb
  ·exact g4i a b w ha hb
  ·exact g4j a b w ha hb
  ·exact g4k a b w ha hb
  ·exact g4l a b w ha hb
  ·exact g4m a b w ha hb
  ·exact g4n a b w ha hb
  ·exact g4o a b w ha hb
  ·exact g4p a b w ha hb
  ·exact g4q a b w ha hb
  ·exact g4r a b w ha hb
  ·exact g4s a b w ha hb
  ·exact g4t a b w ha hb
  ·exact g4u a b w ha hb
 ·obtain ⟨b1,b2,b3,b4,b5,b6,b7,b8,b9,b10,b11,b12,b13,b14,b15,b16,b17,b18,b19,b20⟩:=h
  rw [h0]
  go_enter Tryz.func209,Tryz.ntmps209
  go_wp2
  go_ret
  exact ⟨rfl,rfl⟩
end
section
open Go.RowKit Wd
theorem g4w (A:Option Addr) (n c:Nat) (q:List En) (k:Nat) (e:En) (w:World) (hr:Rd w w.heap.size 17 A n c (ens q)) (hn8:n≤1000) (hu:q[k]?=some e) :
  Calls Tryz.prog 71 #[.slice A n c,.int .i64 (k:Int)] w fun x w'=>∃ v,x = .returned v∧Bel w w'∧w'.ownsRow w.heap.size 54 17 v (k+1) (ens (a7p q k e)):=by
 have hF:=St.start w [a1a 17 A n c (ens q)] (fun d hd=>by obtain rfl:=List.mem_singleton.1 hd;exact hr)
 have hc1:=hr.le
 have hc2:=hr.mx
 unfold maxLen at hc2
 have hn:=hr.enslen
 have hkn:k<n:=by have:=(List.getElem?_eq_some_iff.1 hu).1;omega
 clear hr
 obtain ⟨no,pc,⟨op,rd,rs1,rs2,imm⟩,guess,is,left,value,next,addr,halt,took,known,filled⟩:=e
 have hcells:=Lib.hid (show ens (a7p q k ⟨no,pc,⟨op,rd,rs1,rs2,imm⟩,guess,is,left,value,next,addr,halt,took,known,filled⟩)=ens (q.take k)++(⟨no,pc,⟨op,rd,rs1,rs2,imm⟩,next,is,left,value,next,addr,halt,took,known,filled⟩:En).cells by
  unfold a7p ens;rw [List.flatMap_append];simp)
 go_enter Tryz.func71,Tryz.ntmps71
 go_upto_region 5 with ((try refine zs ?_);(first|refine b7w ?_|(refine a1s ?_;clear hF;(first|intro gN wN hF|intro wN hF|intro hF))|(refine a1d ?_;clear hF;intro vN wN hF)))
 replace hF:=hF.clip (N:=k) (List.Mem.head _) (by omega)
 rw [f6v] at hF
 refine a1n (by kernel_rfl) hF _ _ (fun _ h=>h) (fun _ h=>h) ?_
 clear hF;intro hF hH
 refine a1c 0 hH ?_
 refine a1c 1 hH ?_
 refine a1c 2 hH ?_
 refine b4n 3 hH ?_
 refine zk7 4 hH ?_
 refine zry 5 (fun K hK=>?_)
 go_wp2_with ((first|(refine w_bs1 rfl hF rfl ?_;clear hF;intro gN wN hF)|(refine w_bs0 rfl hF ?_;clear hF;intro gN wN hF));refine zs ?_)
 have hH:=hH.nextA hF;refine hK.out _ _ hH ?_;clear hK;refine zs ?_
 refine zry 6 (fun K hK=>?_)
 go_wp2_with ((first|((refine b4x rfl hF rfl rfl ?_);clear hF;intro vN wN hF;(try refine zs ?_))|((first|refine zrg ?_|(refine zst ?_;clear hF;(first|intro gN wN hF|intro wN hF|intro hF))|(refine zap ?_;clear hF;intro vN wN hF));refine zs ?_)))
 have hH:=hH.nextA hF;refine hK.out _ _ hH ?_;clear hK;refine zs ?_
 refine a2a 7 hH ?_
 refine zrz ?_
 (go_wp2;go_ret;exact ⟨_,rfl,hF.bel,by rw [hcells.out];exact hF.ownAt at0⟩)
end
section
open Go.RowKit Wd
def b5c (l:List (Int × Int)):Prop:=l.length≤4 ∧ ∀ p∈l,(0≤p.1∧p.1≤31)∧(1≤p.2∧p.2≤32)
theorem a4y (f:Int):b5c (a1g f).1:=by
 unfold a1g
 repeat' split
 all_goals exact ⟨by decide,by decide⟩
theorem d4g {x:Nat} {l:List (Int × Int)} {k:Nat} {p:Int × Int} (h:l[k]?=some p):a1x x (l.take (k+1))=(a1r (a1x x (l.take k)).1 (a1x x (l.take k)).2 p.2 (a5j x p.1 p.2),(a1x x (l.take k)).2+p.2):=by
 obtain ⟨hl,e⟩:=List.getElem?_eq_some_iff.1 h
 rw [List.take_succ_eq_append_getElem hl,e]
 unfold a1x
 rw [List.foldl_append]
 rfl
theorem a9p {x:Nat} (hx:x<4294967296) {l:List (Int × Int)} (h:b5c l) (k:Nat) (hk:k≤l.length):(a1x x (l.take k)).1<4294967296∧0≤(a1x x (l.take k)).2∧(a1x x (l.take k)).2≤32 * k:=by
 induction k with
 | zero=>exact ⟨by simp [a1x],by simp [a1x],by simp [a1x]⟩
 | succ k ih=>
  obtain ⟨p,hp⟩:∃ p,l[k]?=some p:=⟨_,List.getElem?_eq_getElem (by omega)⟩
  have:=h.2 p (List.mem_of_getElem? hp)
  obtain ⟨i1,i2,i3⟩:=ih (by omega)
  rw [d4g hp]
  exact ⟨a7g _ _ _ i1,by dsimp only;omega,by dsimp only;omega⟩
theorem d4h {l:List (Int × Int)} {k:Nat} {p:Int × Int} (h:l[k]?=some p):(a2l l)[k]?=some ⟨p.1,p.2⟩:=by simp [a2l,h]
theorem b1j (A:Option Addr) (c x:Nat) (l:List (Int × Int)) (w:World) (hr:Rd w w.heap.size 2 A l.length c (spns (a2l l))) (hl:b5c l) (hx:x<4294967296) :
  Calls Tryz.prog 187 #[.int .u32 (x:Int),.slice A l.length c] w fun e w'=>e = .returned (.tuple #[.int .u32 ((a1x x l).1:Int),.int .i64 (a1x x l).2])∧Bel w w':=by
 have hF:=St.start w [a1a 2 A l.length c (spns (a2l l))] (fun d hd=>by obtain rfl:=List.mem_singleton.1 hd;exact hr)
 have h4:=hl.1
 have hc1:=hr.le
 have hc2:=hr.mx
 unfold maxLen at hc2
 replace hl:=Lib.hid hl
 obtain ⟨n,hn⟩:∃ n,l.length=n:=⟨_,rfl⟩
 rw [hn] at hF h4 hc1 ⊢
 have Hn:=Lib.hid hn
 clear hn hr
 go_enter Tryz.func187,Tryz.ntmps187
 go_wp2_with (((first|refine zrd ?_|(refine zst ?_;clear hF;(first|intro gN wN hF|intro wN hF|intro hF))|(refine zap ?_;clear hF;intro vN wN hF));refine zs ?_))
 go_loopw [6,7,12] (fun v s i wr=>∃ k:Nat,k≤n∧i = .int .i64 (k:Int)∧v = .int .u32 ((a1x x (l.take k)).1:Int)∧s = .int .i64 (a1x x (l.take k)).2∧St w [a1a 2 A n c (spns (a2l l))] wr [] [a1a 2 A n c (spns (a2l l))]) (fun _ _ i _=>n - (intOf i).toNat)
 case atStart=>exact ⟨0,by omega,rfl,rfl,rfl,hF⟩
 case round=>
  obtain ⟨k,hk,rfl,rfl,rfl,hF⟩:=hrel
  by_cases hkn:k<n
  ·obtain ⟨p,hp⟩:∃ p,l[k]?=some p:=⟨_,List.getElem?_eq_getElem (by have:=Hn.out;omega)⟩
   have hu:=d4h hp
   have hpb:=hl.out.2 p (List.mem_of_getElem? hp)
   obtain ⟨b1,b2,b3⟩:=a9p hx hl.out k (by have:=Hn.out;omega)
   have hs:=Lib.hid (d4g (x:=x) hp)
   obtain ⟨p1,p2⟩:=p
   dsimp only at hs hu hpb
   have HFi:=Lib.hid (fun W=>b8p x p1 p2 W hx ⟨by omega,by omega⟩ ⟨by omega,by omega⟩)
   have hfl:=a3e x p1 p2
   generalize hg1:(a1x x (l.take k)).1=g1 at *
   generalize hg2:(a1x x (l.take k)).2=g2 at *
   generalize a5j x p1 p2=fv at *
   have HSe:=Lib.hid (fun W=>c3c g1 g2 p2 fv W b1 hfl ⟨by omega,by omega⟩ ⟨by omega,by omega⟩)
   replace hg1:=Lib.hid hg1
   replace hg2:=Lib.hid hg2
   replace hp:=Lib.hid hp
   go_upto_region 5 with ((first|refine f2l ?_|((first|refine zrd ?_|(refine zst ?_;clear hF;(first|intro gN wN hF|intro wN hF|intro hF))|(refine zap ?_;clear hF;intro vN wN hF));refine zs ?_)))
   refine a1n (by kernel_rfl) hF _ _ (fun _ h=>h) (fun _ h=>h) ?_
   clear hF;intro hF hH
   refine a1c 0 hH ?_
   refine a1c 1 hH ?_
   refine zk1 2 hH ?_
   refine zk0 3 hH ?_
   refine a1c 4 hH ?_
   refine zk1 5 hH ?_
   refine zk0 6 hH ?_
   refine zk1 7 hH ?_
   refine zk0 8 hH ?_
   refine zry 9 (fun K hK=>?_)
   go_wp2_with ((first|(go_at_call 186;refine (HFi.out _).mono ?_;rintro x wN ⟨rfl,hd⟩;replace hF:=hF.grow (Bel.ofDrew hd);clear hd)|(go_at_call 148;refine (HSe.out _).mono ?_;rintro x wN ⟨rfl,hd⟩;replace hF:=hF.grow (Bel.ofDrew hd);clear hd)))
   have hH:=hH.nextA hF;refine hK.out _ _ hH ?_;clear hK;refine zs ?_
   refine zry 10 (fun K hK=>?_)
   go_wp2_with ((first|(go_at_call 186;refine (HFi.out _).mono ?_;rintro x wN ⟨rfl,hd⟩;replace hF:=hF.grow (Bel.ofDrew hd);clear hd)|(go_at_call 148;refine (HSe.out _).mono ?_;rintro x wN ⟨rfl,hd⟩;replace hF:=hF.grow (Bel.ofDrew hd);clear hd)))
   have hH:=hH.nextA hF;refine hK.out _ _ hH ?_;clear hK;refine zs ?_
   refine a2a 11 hH ?_
   refine zrz ?_
   (go_wp2_with (((first|refine zrd ?_|(refine zst ?_;clear hF;(first|intro gN wN hF|intro wN hF|intro hF))|(refine zap ?_;clear hF;intro vN wN hF));refine zs ?_));go_roundw;(case rel=>exact ⟨k+1,by omega,by go_num,by rw [hs.out],by rw [hs.out],hF.drop 0⟩);(case measure=>first|(simp [intOf];done)|(simp [intOf];omega)))
  ·obtain rfl:k=n:=by omega
   go_wp2_with (((first|refine zrd ?_|(refine zst ?_;clear hF;(first|intro gN wN hF|intro wN hF|intro hF))|(refine zap ?_;clear hF;intro vN wN hF));refine zs ?_))
   go_returns
   rw [show l.take k=l from by rw [List.take_of_length_le (by have:=Hn.out;omega)]]
   exact ⟨rfl,hF.bel⟩
end
section
open Go.RowKit Wd
section
variable (a b:Nat) (ha:a<4294967296) (hb:b<4294967296)
include ha hb
theorem g4x : -2147483648≤sg a∧sg a≤2147483647:=by unfold sg;split <;> omega
theorem m38 : (a:Int) * (b:Int) % 4294967296=((a * b % 4294967296:Nat):Int):=by rw [Int.natCast_emod,Int.natCast_mul];rfl
end
theorem g4y (op:Int) (a b:Nat) (ha:a<4294967296) (hb:b<4294967296):a5e op a b<4294967296:=by
 unfold a5e
 have h1:=b9x (sg a * sg b / 4294967296)
 have h2:=b9x (sg a * b / 4294967296)
 have h3:a * b / 4294967296<4294967296:=by
  rw [Nat.div_lt_iff_lt_mul (by omega)]
  exact Nat.mul_lt_mul'' ha hb
 repeat' split
 all_goals omega
theorem hi64 (p:Int):IntKind.u64.wrap (wrap64 p) / 4294967296 % 4294967296=((un (p / 4294967296):Nat):Int):=by
 rw [c4d]
 simp only [IntKind.wrap,IntKind.bits,IntKind.signed,wrap64]
 simp
 omega
theorem sg64 {a:Nat} (h:a<4294967296):wrap64 (wrap32 (a:Int))=sg a:=by
 rw [sg_eq h]
 have:=g4x a 0 h (by omega)
 unfold wrap64
 omega
theorem m41 (a b:Nat) (ha:a<4294967296) (hb:b<4294967296):IntKind.u64.wrap ((a:Int) * (b:Int)) / 4294967296 % 4294967296=((a * b / 4294967296:Nat):Int):=by
 have h:a * b<18446744073709551616:=Nat.mul_lt_mul'' ha hb
 rw [← Int.natCast_mul]
 generalize a * b=p at *
 simp only [IntKind.wrap,IntKind.bits,IntKind.signed]
 simp
 omega
theorem g4z (a b:Nat) (w:World) (ha:a<4294967296) (hb:b<4294967296) :
  Calls Tryz.prog 206 #[.int .i64 38,.int .u32 (a:Int),.int .u32 (b:Int)] w fun e w'=>e = .returned (.int .u32 (a5e 38 a b:Int))∧w'=w:=by
 rw [show a5e 38 a b=a * b % 4294967296 from by simp [a5e]]
 exact b9w
theorem g5a (a b:Nat) (w:World) (ha:a<4294967296) (hb:b<4294967296) :
  Calls Tryz.prog 206 #[.int .i64 39,.int .u32 (a:Int),.int .u32 (b:Int)] w fun e w'=>e = .returned (.int .u32 (a5e 39 a b:Int))∧w'=w:=by
 rw [show a5e 39 a b=un (sg a * sg b / 4294967296) from by simp [a5e]]
 exact b9w
theorem g5b (a b:Nat) (w:World) (ha:a<4294967296) (hb:b<4294967296) :
  Calls Tryz.prog 206 #[.int .i64 40,.int .u32 (a:Int),.int .u32 (b:Int)] w fun e w'=>e = .returned (.int .u32 (a5e 40 a b:Int))∧w'=w:=by
 rw [show a5e 40 a b=un (sg a * b / 4294967296) from by simp [a5e]]
 exact b9w
theorem g5c (a b:Nat) (w:World) (ha:a<4294967296) (hb:b<4294967296) :
  Calls Tryz.prog 206 #[.int .i64 41,.int .u32 (a:Int),.int .u32 (b:Int)] w fun e w'=>e = .returned (.int .u32 (a5e 41 a b:Int))∧w'=w:=by
 rw [show a5e 41 a b=a * b / 4294967296 from by simp [a5e]]
 exact b9w
theorem c4g (op:Int) (a b:Nat) (w:World) (ha:a<4294967296) (hb:b<4294967296) :
  Calls Tryz.prog 206 #[.int .i64 op,.int .u32 (a:Int),.int .u32 (b:Int)] w fun e w'=>e = .returned (.int .u32 (a5e op a b:Int))∧w'=w:=by
 by_cases h:op=38∨op=39∨op=40∨op=41
 ·rcases h with rfl|rfl|rfl|rfl
  ·exact g4z a b w ha hb
  ·exact g5a a b w ha hb
  ·exact g5b a b w ha hb
  ·exact g5c a b w ha hb
 ·have key:∀ k:Int,op≠k→(op == k)=false:=fun k hk=>by simpa using hk
  have b1:=key 38 (by omega)
  have b2:=key 39 (by omega)
  have b3:=key 40 (by omega)
  have b4:=key 41 (by omega)
  rw [show a5e op a b=0 from by unfold a5e;repeat rw [if_neg (by omega)]]
  clear h key
  go_enter Tryz.func206,Tryz.ntmps206
  go_wp2
  go_ret
  exact ⟨rfl,rfl⟩
theorem g5d (a b:Nat) (w:World) (ha:a<4294967296) (hb:b<4294967296) :
  Calls Tryz.prog 219 #[.int .i64 5,.int .u32 (a:Int),.int .u32 (b:Int)] w fun e w'=>e = .returned (.bool (a4b 5 a b))∧w'=w:=by
 rw [show a4b 5 a b=decide (a=b) from by simp [a4b]]
 exact b5b
theorem g5e (a b:Nat) (w:World) (ha:a<4294967296) (hb:b<4294967296) :
  Calls Tryz.prog 219 #[.int .i64 6,.int .u32 (a:Int),.int .u32 (b:Int)] w fun e w'=>e = .returned (.bool (a4b 6 a b))∧w'=w:=by
 rw [show a4b 6 a b=decide (a≠b) from by simp [a4b]]
 exact b5b
theorem g5f (a b:Nat) (w:World) (ha:a<4294967296) (hb:b<4294967296) :
  Calls Tryz.prog 219 #[.int .i64 7,.int .u32 (a:Int),.int .u32 (b:Int)] w fun e w'=>e = .returned (.bool (a4b 7 a b))∧w'=w:=by
 rw [show a4b 7 a b=decide (sg a<sg b) from by simp [a4b]]
 exact b5b
theorem g5g (a b:Nat) (w:World) (ha:a<4294967296) (hb:b<4294967296) :
  Calls Tryz.prog 219 #[.int .i64 8,.int .u32 (a:Int),.int .u32 (b:Int)] w fun e w'=>e = .returned (.bool (a4b 8 a b))∧w'=w:=by
 rw [show a4b 8 a b=decide (sg b≤sg a) from by simp [a4b]]
 exact b5b
theorem g5h (a b:Nat) (w:World) (ha:a<4294967296) (hb:b<4294967296) :
  Calls Tryz.prog 219 #[.int .i64 9,.int .u32 (a:Int),.int .u32 (b:Int)] w fun e w'=>e = .returned (.bool (a4b 9 a b))∧w'=w:=by
 rw [show a4b 9 a b=decide (a<b) from by simp [a4b]]
 exact b5b
theorem g5i (a b:Nat) (w:World) (ha:a<4294967296) (hb:b<4294967296) :
  Calls Tryz.prog 219 #[.int .i64 10,.int .u32 (a:Int),.int .u32 (b:Int)] w fun e w'=>e = .returned (.bool (a4b 10 a b))∧w'=w:=by
 rw [show a4b 10 a b=decide (b≤a) from by simp [a4b]]
 exact b5b
theorem g5j (op:Int) (a b:Nat) (w:World) (ha:a<4294967296) (hb:b<4294967296) :
  Calls Tryz.prog 219 #[.int .i64 op,.int .u32 (a:Int),.int .u32 (b:Int)] w fun e w'=>e = .returned (.bool (a4b op a b))∧w'=w:=by
 by_cases h:op=5∨op=6∨op=7∨op=8∨op=9∨op=10
 ·rcases h with rfl|rfl|rfl|rfl|rfl|rfl
  ·exact g5d a b w ha hb
  ·exact g5e a b w ha hb
  ·exact g5f a b w ha hb
  ·exact g5g a b w ha hb
  ·exact g5h a b w ha hb
  ·exact g5i a b w ha hb
 ·have key:∀ k:Int,op≠k→(op == k)=false:=fun k hk=>by simpa using hk
  have b1:=key 5 (by omega)
  have b2:=key 6 (by omega)
  have b3:=key 7 (by omega)
  have b4:=key 8 (by omega)
  have b5:=key 9 (by omega)
  have b6:=key 10 (by omega)
  rw [show a4b op a b=false from by unfold a4b;repeat rw [if_neg (by omega)]]
  clear h key
  go_enter Tryz.func219,Tryz.ntmps219
  go_wp2
  go_ret
  exact ⟨rfl,rfl⟩
theorem d4i (op:Int):(op=42∧b1c op=true)∨(op=44∧b1c op=true)∨((op == 42)=false∧(op == 44)=false∧b1c op=false):=by
 by_cases h1:op=42
 ·exact .inl ⟨h1,by simp [b1c,h1]⟩
 by_cases h2:op=44
 ·exact .inr (.inl ⟨h2,by simp [b1c,h2]⟩)
 exact .inr (.inr ⟨by simpa using h1,by simpa using h2,by simp [b1c,h1,h2]⟩)
theorem d4j {a:Nat} (h:a<4294967296) (hs:2147483648≤a):wrap32 (a:Int)<0:=by unfold wrap32;omega
theorem d4k {a:Nat} (hs:¬ 2147483648≤a):¬ wrap32 (a:Int)<0:=by unfold wrap32;omega
theorem a8d {op:Int} {a:Nat} (h:a<4294967296):a1v op a<4294967296:=by unfold a1v;split <;> omega
theorem c4h {a:Nat} (h:a<4294967296):(-(a:Int)) % 4294967296=(((4294967296 - a) % 4294967296:Nat):Int):=by omega
theorem b3l (op:Int) (a:Nat) (w:World) (ha:a<4294967296) :
  Calls Tryz.prog 210 #[.int .i64 op,.int .u32 (a:Int)] w fun e w'=>e = .returned (.int .u32 (a1v op a:Int))∧w'=w:=by
 by_cases hs:2147483648≤a
 ·have hn:=d4j ha hs
  rcases d4i op with ⟨rfl,hb⟩|⟨rfl,hb⟩|⟨b1,b2,hb⟩
  ·rw [show a1v 42 a=4294967296 - a from by unfold a1v;rw [if_pos ⟨hb,hs⟩]]
   clear hb
   go_enter Tryz.func210,Tryz.ntmps210
   go_wp2
   go_ret
   exact ⟨a2m (by rw [c4h ha];omega),rfl⟩
  ·rw [show a1v 44 a=4294967296 - a from by unfold a1v;rw [if_pos ⟨hb,hs⟩]]
   clear hb
   go_enter Tryz.func210,Tryz.ntmps210
   go_wp2
   go_ret
   exact ⟨a2m (by rw [c4h ha];omega),rfl⟩
  ·rw [show a1v op a=a from by unfold a1v;rw [if_neg (by rw [hb];simp)]]
   clear hb
   go_enter Tryz.func210,Tryz.ntmps210
   go_wp2
   go_ret
   exact ⟨rfl,rfl⟩
 ·have hn:=d4k hs
  rw [show a1v op a=a from by unfold a1v;rw [if_neg (by rintro ⟨_,h⟩;exact hs h)]]
  rcases d4i op with ⟨rfl,hb⟩|⟨rfl,hb⟩|⟨b1,b2,hb⟩
  all_goals
   clear hb hs
   go_enter Tryz.func210,Tryz.ntmps210
   go_wp2
   go_ret
   exact ⟨rfl,rfl⟩
end
section
open Go.RowKit Go.Sort
theorem g5k {w:World} {A:Option Addr} {n c:Nat} {S:List Cs} {A2:Option Addr} {n2 c2:Nat} {q2:List Wy} (hr:RdS w w.heap.size A n c S) (h2:Rd w w.heap.size 3 A2 n2 c2 (wys q2)) :
  ∀ d∈[a1a 1 A n c (csv S),a1l S,a1a 3 A2 n2 c2 (wys q2)],d.ok w:=by
 intro d hd
 rcases List.mem_cons.1 hd with rfl|hd
 ·exact hr.rd
 ·rcases List.mem_cons.1 hd with rfl|hd
  ·exact hr.sets
  ·obtain rfl:=List.mem_singleton.1 hd
   exact h2
end
section
open Go.RowKit
instance pusRows : Rows pus Pu.cells 2:=⟨fun _=>rfl,fun _=>rfl,Pu.one,by decide⟩
theorem Rq.one (r:Rq):∀ u∈r.cells,u.oneCell'=true:=fun u hu=>b6m [r] u (by simpa [rqs] using hu)
instance rqsRows : Rows rqs Rq.cells 4:=⟨fun _=>rfl,fun _=>rfl,Rq.one,by decide⟩
instance rqsOne (q:List Rq):OneC (rqs q):=⟨b6m q⟩
theorem Rd.rqslen {w:World} {B n c:Nat} {A:Option Addr} {q:List Rq} (h:Rd w B 4 A n c (rqs q)):q.length=n:=by
 have hn:=h.len
 rw [b8s] at hn
 omega
section
variable {P:Program} {ops:Array Oper} {o:Oper} {a:Act} {S:World→Prop}
theorem g5l {w:World} {t e:TypeId} {g n c k:Nat} {ki:IntKind} (ht:BySlT P t e) (hk:k<n) (hn:n≤c):(Instr.sliceAt t (.slice (some ⟨g,0,none⟩) n c) (some (.int ki (k:Int))) none none).run P w = .ok (.slice (some ⟨g,k,none⟩) (n - k) (c - k)) w:=by
 obtain ⟨hu,he,hi⟩:=ht
 have hs:(sizeOf e).run P w = .ok 1 w:=by
  exact d3k
 have hel:P.elem t=e:=by simp [Program.elem,hu]
 have h1:=run_slice_l (P:=P) (w:=w) t (some ⟨g,0,none⟩) n c (by rw [hel];exact hu) ki (k:Int) (by omega) (by omega)
 rw [run_sliceAt_slice (P:=P) (w:=w) t _ _ _ _ (by rw [hel];exact hu),h1,hel,hs]
 simp only [Result.andThen_ok,sliced,Int.toNat_natCast]
 rw [if_neg (by omega)]
 simp [a4u]
theorem y_fromB {t e:TypeId} {x y:Operand} {g n c k:Nat} {ki:IntKind} (ho:o.op = .slice t x (some y) none none) (hx:a1b a x=some (.slice (some ⟨g,0,none⟩) n c)) (hy:a1b a y=some (.int ki (k:Int)))
  (ht:BySlT P t e:=by exact b9d _ _ rfl) (hw:Region.wanted o (yielded ops a.tmps)=true:=by rfl) (hk:k<n:=by (first|assumption|omega)) (hn:n≤c:=by (first|assumption|omega)):YieldsIf P ops S o (.slice (some ⟨g,k,none⟩) (n - k) (c - k)) a:=by
 replace hx:=look_eval hx
 replace hy:=look_eval hy
 exact a1u hw fun w=>by
  unfold execOp
  simp only [ho,hx,hy,Option.map_some,Option.map_none,g5l ht hk hn,Sem.run_bind,Sem.run_pure,Result.andThen_ok]
end
section
variable {P:Program} {ops:Array Oper} {rest:List Oper} {o:Oper} {a:Act} {Q:Exit→Act→World→Prop} {w0 w:World} {D0 D:List Da} {M:List Mu}
end
def ovS (m:ByteArray) (ps:List Pu):ByteArray:=⟨(a5c (bl m) ps).toArray⟩
theorem d4l (m:ByteArray) (ps:List Pu):bl (ovS m ps)=a5c (bl m) ps:=b8y _
theorem a6p (m:ByteArray) (ps:List Pu):(ovS m ps).size=m.size:=by rw [← a9z,d4l,b8z,a9z]
theorem d4m (m:ByteArray) (ps qs:List Pu):ovS (ovS m ps) qs=ovS m (ps++qs):=by
 unfold ovS
 rw [c9w,show bl ⟨(a5c (bl m) ps).toArray⟩=a5c (bl m) ps from b8y _]
theorem g5m {q:List Rq} (h:∀ r∈q,r.line<4294967296):∀ p∈a3w q,p.addr<4294967296:=fun p hp=>by
 obtain ⟨r,hr,rfl⟩:=List.mem_map.1 hp
 exact h r (List.mem_filter.1 hr).1
theorem g5n {S:List Cs} {k:Nat} {A:Option Addr} {n c:Nat} {q:List Wy} (h:S[k]?=some ⟨A,n,c,q⟩):(a1j S)[k]?=some q:=by
 obtain ⟨hl,e⟩:=List.getElem?_eq_some_iff.1 h
 rw [c3j hl,e]
theorem g5o {S:List Cs} (h:SOk S):∀ p∈a5y (a1j S),p.addr<4294967296:=fun p hp=>by
 obtain ⟨v,hv,rfl⟩:=List.mem_map.1 hp
 obtain ⟨ws,hw,hv⟩:=List.mem_flatten.1 hv
 obtain ⟨s,hs,rfl⟩:=List.mem_map.1 hw
 exact (h s hs v hv).1
def b1k (m:ByteArray) (x:Nat):ByteArray:=⟨(a9e (bl m) x).toArray⟩
theorem d4n (m:ByteArray) (x:Nat):bl (b1k m x)=a9e (bl m) x:=b8y _
theorem g5p (m:ByteArray) (x:Nat):b1k m (x - x % 16)=b1k m x:=by
 unfold b1k a9e
 rw [show x - x % 16 - (x - x % 16) % 16=x - x % 16 by omega]
theorem g5q {m:ByteArray} {x:Nat} (h:m.size≤x - x % 16):b1k m x=⟨#[]⟩:=by
 unfold b1k a9e
 rw [List.drop_of_length_le (by rw [a9z];exact h)]
 rfl
theorem g5r {m:ByteArray} {x n:Nat} (h:x - x % 16<m.size) (hn:n=min (m.size - (x - x % 16)) 16):(m.extract (x - x % 16) m.size).extract 0 n=b1k m x:=by
 apply c9v
 rw [d4n,a9e]
 unfold bl
 rw [b8h,b8h,List.drop_zero]
 have hl:m.data.toList.length=m.size:=a9z m
 rw [show ((m.data.toList.take m.size).drop (x - x % 16))=m.data.toList.drop (x - x % 16) by rw [List.take_of_length_le (by omega)]]
 subst hn
 rcases Nat.le_total (m.size - (x - x % 16)) 16 with h1|h1
 ·rw [Nat.min_eq_left h1,List.take_of_length_le (by rw [List.length_drop,hl];exact Nat.le_refl _),List.take_of_length_le (by rw [List.length_drop,hl];exact h1)]
 ·rw [Nat.min_eq_right h1]
end
section
open Go.RowKit Wd
theorem g5s {q:List En} {k:Nat} {e:En} (h:∀ f∈q.take k,a6x f=false) (he:q[k]?=some e) (hw:a6x e=true):a6y q=some k:=by
 obtain ⟨hl,hk⟩:=List.getElem?_eq_some_iff.1 he
 unfold a6y
 rw [List.findIdx?_eq_some_iff_getElem]
 refine ⟨hl,by rw [hk];exact hw,fun j hj=>?_⟩
 have:=h q[j] (by rw [List.mem_take_iff_getElem];exact ⟨j,by omega,rfl⟩)
 simp [this]
theorem g5t {q:List En} (h:∀ f∈q,a6x f=false):a6y q=none:=by
 unfold a6y
 rw [List.findIdx?_eq_none_iff]
 exact h
theorem c4i {α:Type} {p:α→Prop} {q:List α} {k:Nat} {e:α} (h:∀ f∈q.take k,p f) (he:q[k]?=some e) (hp:p e):∀ f∈q.take (k+1),p f:=by
 obtain ⟨hl,hk⟩:=List.getElem?_eq_some_iff.1 he
 intro f hf
 rw [List.take_succ_eq_append_getElem hl,hk] at hf
 rcases List.mem_append.1 hf with hf|hf
 ·exact h f hf
 ·obtain rfl:=List.mem_singleton.1 hf
  exact hp
def wrongI (q:List En):Int:=match a6y q with|some i=>(i:Int)|none=>-1
theorem g5u (A:Option Addr) (n c:Nat) (q:List En) (w:World) (hr:Rd w w.heap.size 17 A n c (ens q)) (hq:ensOk q) :
  Calls Tryz.prog 11 #[.slice A n c] w fun e w'=>e = .returned (.int .i64 (wrongI q))∧Bel w w':=by
 have hF:=St.start w [a1a 17 A n c (ens q)] (fun d hd=>by obtain rfl:=List.mem_singleton.1 hd;exact hr)
 have hc1:=hr.le
 have hc2:=hr.mx
 unfold maxLen at hc2
 have hn:=Lib.hid hr.enslen
 replace hq:=Lib.hid hq
 clear hr
 go_enter Tryz.func11,Tryz.ntmps11
 go_wp2_with (((first|refine zrg ?_|(refine zst ?_;clear hF;(first|intro gN wN hF|intro wN hF|intro hF))|(refine zap ?_;clear hF;intro vN wN hF));refine zs ?_))
 go_loopw [7] (fun i wr=>∃ k:Nat,k≤n∧i = .int .i64 (k:Int)∧Hid (∀ f∈q.take k,a6x f=false)∧St w [a1a 17 A n c (ens q)] wr [] [a1a 17 A n c (ens q)]) (fun i _=>n - (intOf i).toNat)
 case atStart=>exact ⟨0,by omega,rfl,Lib.hid (fun f hf=>by simp at hf),hF⟩
 case round=>
  obtain ⟨k,hk,rfl,hck,hF⟩:=hrel
  by_cases hkn:k<n
  ·obtain ⟨e,hu⟩:∃ e,q[k]?=some e:=⟨_,List.getElem?_eq_getElem (by have:=hn.out;omega)⟩
   have ho:=(hq.out e (List.mem_of_getElem? hu)).op
   obtain ⟨no,pc,⟨op,rd,rs1,rs2,imm⟩,guess,is,left,value,next,addr,halt,took,known,filled⟩:=e
   have HK:=Lib.hid (fun W=>a2o ⟨op,rd,rs1,rs2,imm⟩ W ho)
   dsimp only at HK
   obtain ⟨κ,hκ⟩:∃ κ,a1e op=κ:=⟨_,rfl⟩
   rw [hκ] at HK
   by_cases h5:κ=5
   ·subst h5
    cases known
    ·have hb:a6x ⟨no,pc,⟨op,rd,rs1,rs2,imm⟩,guess,is,left,value,next,addr,halt,took,false,filled⟩=false:=by simp [a6x]
     replace hb:=Lib.hid (c4i hck.out hu hb)
     clear hκ
     exact c4c
    ·by_cases hg:next=guess
     ·have hb:a6x ⟨no,pc,⟨op,rd,rs1,rs2,imm⟩,guess,is,left,value,next,addr,halt,took,true,filled⟩=false:=by simp [a6x,hg]
      replace hb:=Lib.hid (c4i hck.out hu hb)
      subst hg
      clear hκ
      exact c4c
     ·have hb:a6x ⟨no,pc,⟨op,rd,rs1,rs2,imm⟩,guess,is,left,value,next,addr,halt,took,true,filled⟩=true:=by simp [a6x,hg,hκ]
      have hR:=Lib.hid (g5s hck.out hu hb)
      have hg2:¬ ((next:Int)=(guess:Int)):=by omega
      clear hκ hg hb
      exact d3j
   ·have hb:a6x ⟨no,pc,⟨op,rd,rs1,rs2,imm⟩,guess,is,left,value,next,addr,halt,took,known,filled⟩=false:=by simp [a6x,hκ,h5]
    replace hb:=Lib.hid (c4i hck.out hu hb)
    have b5:(κ == 5)=false:=by simpa using h5
    clear hκ h5
    exact c4c
  ·obtain rfl:k=n:=by omega
   have hR:=Lib.hid (g5t (by have:=hck.out;rwa [List.take_of_length_le (by have:=hn.out;omega)] at this))
   exact d3j
end
section
open Go.RowKit Wd
theorem d4o {x:Nat} {l:List (Int × Int)} {k:Nat} {p:Int × Int} (h:l[k]?=some p):a4o x (l.take (k+1))=(a1r (a4o x (l.take k)).1 p.1 p.2 (a4o x (l.take k)).2,(a4o x (l.take k)).2 / 2 ^ p.2.toNat):=by
 obtain ⟨hl,e⟩:=List.getElem?_eq_some_iff.1 h
 rw [List.take_succ_eq_append_getElem hl,e]
 unfold a4o
 rw [List.foldl_append]
 rfl
theorem d4p {x:Nat} (hx:x<4294967296) {l:List (Int × Int)} (h:b5c l) (k:Nat) (hk:k≤l.length):(a4o x (l.take k)).1<4294967296∧(a4o x (l.take k)).2<4294967296:=by
 induction k with
 | zero=>exact ⟨by simp [a4o],by simpa [a4o] using hx⟩
 | succ k ih=>
  obtain ⟨p,hp⟩:∃ p,l[k]?=some p:=⟨_,List.getElem?_eq_getElem (by omega)⟩
  obtain ⟨i1,i2⟩:=ih (by omega)
  rw [d4o hp]
  exact ⟨a7g _ _ _ i1,Nat.lt_of_le_of_lt (Nat.div_le_self _ _) i2⟩
theorem g5v (A:Option Addr) (c x:Nat) (l:List (Int × Int)) (w:World) (hr:Rd w w.heap.size 2 A l.length c (spns (a2l l))) (hl:b5c l) (hx:x<4294967296) :
  Calls Tryz.prog 147 #[.int .u32 (x:Int),.slice A l.length c] w fun e w'=>e = .returned (.int .u32 ((a4o x l).1:Int))∧Bel w w':=by
 have hF:=St.start w [a1a 2 A l.length c (spns (a2l l))] (fun d hd=>by obtain rfl:=List.mem_singleton.1 hd;exact hr)
 have h4:=hl.1
 have hc1:=hr.le
 have hc2:=hr.mx
 unfold maxLen at hc2
 replace hl:=Lib.hid hl
 obtain ⟨n,hn⟩:∃ n,l.length=n:=⟨_,rfl⟩
 rw [hn] at hF h4 hc1 ⊢
 have Hn:=Lib.hid hn
 clear hn hr
 go_enter Tryz.func147,Tryz.ntmps147
 go_wp2_with (((first|refine zrd ?_|(refine zst ?_;clear hF;(first|intro gN wN hF|intro wN hF|intro hF))|(refine zap ?_;clear hF;intro vN wN hF));refine zs ?_))
 go_loopw [0,5,10] (fun v s i wr=>∃ k:Nat,k≤n∧i = .int .i64 (k:Int)∧v = .int .u32 ((a4o x (l.take k)).2:Int)∧s = .int .u32 ((a4o x (l.take k)).1:Int)∧St w [a1a 2 A n c (spns (a2l l))] wr [] [a1a 2 A n c (spns (a2l l))]) (fun _ _ i _=>n - (intOf i).toNat)
 case atStart=>exact ⟨0,by omega,rfl,rfl,rfl,hF⟩
 case round=>
  obtain ⟨k,hk,rfl,rfl,rfl,hF⟩:=hrel
  by_cases hkn:k<n
  ·obtain ⟨p,hp⟩:∃ p,l[k]?=some p:=⟨_,List.getElem?_eq_getElem (by have:=Hn.out;omega)⟩
   have hu:=d4h hp
   have hpb:=hl.out.2 p (List.mem_of_getElem? hp)
   obtain ⟨b1,b2⟩:=d4p hx hl.out k (by have:=Hn.out;omega)
   have hs:=Lib.hid (d4o (x:=x) hp)
   obtain ⟨p1,p2⟩:=p
   dsimp only at hs hu hpb
   obtain ⟨m,rfl⟩:=Int.eq_ofNat_of_zero_le (show 0≤p2 by omega)
   generalize hg1:(a4o x (l.take k)).1=g1 at *
   generalize hg2:(a4o x (l.take k)).2=g2 at *
   have HSe:=Lib.hid (fun W=>c3c g1 p1 (m:Int) g2 W b1 b2 ⟨by omega,by omega⟩ ⟨by omega,by omega⟩)
   replace hg1:=Lib.hid hg1
   replace hg2:=Lib.hid hg2
   replace hp:=Lib.hid hp
   go_wp2_with ((first|refine f2m ?_|(go_at_call 148;refine (HSe.out _).mono ?_;rintro x wN ⟨rfl,hd⟩;replace hF:=hF.grow (Bel.ofDrew hd);clear hd)|((first|refine zrd ?_|(refine zst ?_;clear hF;(first|intro gN wN hF|intro wN hF|intro hF))|(refine zap ?_;clear hF;intro vN wN hF));refine zs ?_)))
   go_roundw
   case rel=>exact ⟨k+1,by omega,by go_num,by rw [hs.out];exact congrArg (Value.int .u32) (c4e g2 m),by rw [hs.out],hF.drop 0⟩
   case measure=>first|(simp [intOf];done)|(simp [intOf];omega)
  ·obtain rfl:k=n:=by omega
   go_wp2_with (((first|refine zrd ?_|(refine zst ?_;clear hF;(first|intro gN wN hF|intro wN hF|intro hF))|(refine zap ?_;clear hF;intro vN wN hF));refine zs ?_))
   go_ret
   rw [show l.take k=l from by rw [List.take_of_length_le (by have:=Hn.out;omega)]]
   exact ⟨rfl,hF.bel⟩
end
section
open Go.RowKit Go.Sort
theorem d4q (A:Option Addr) (n c:Nat) (q:List Rq) (kind:Int) (line:Nat) (left:Int) (data:ByteArray) (w:World) (hr:Rd w w.heap.size 4 A n c (rqs q)) (hn:n≤1000000) (hl : -9223372036854775808≤left∧left≤9223372036854775807) :
  Calls Tryz.prog 142 #[.slice A n c,.int .i64 kind,.int .u32 (line:Int),.int .i64 left,.string data] w fun e w'=>∃ A2 c2,e = .returned (.slice A2 (n+1) c2)∧Out w [a1a 4 A n c (rqs q)] w' [a1a 4 A2 (n+1) c2 (rqs (q++[⟨kind,line,max left 1,data⟩]))]:=by
 have hF:=St.start w [a1a 4 A n c (rqs q)] (fun d hd=>by obtain rfl:=List.mem_singleton.1 hd;exact hr)
 obtain ⟨M,hM,hM2⟩:∃ M:Int,M=(if (1:Int) > left then 1 else left)∧M=max left 1:=⟨max left 1,by split <;> omega,rfl⟩
 have happ:Hid (rqs q++[.int .i64 kind,.int .u32 (line:Int),.int .i64 M,.string data]=rqs (q++[⟨kind,line,max left 1,data⟩])):=Lib.hid (by rw [c9c,← hM2];rfl)
 clear hM2
 replace hM:=Lib.hid hM
 go_enter Tryz.func142,Tryz.ntmps142
 go_wp2_with ((first|refine f2y ?_|(refine f2z ?_;clear hF;intro gN wN hF)|((first|refine zrd ?_|(refine zst ?_;clear hF;(first|intro gN wN hF|intro wN hF|intro hF))|(refine zap ?_;clear hF;intro vN wN hF));refine zs ?_)))
 rw [Nat.zero_add,List.nil_append,happ.out] at hF
 obtain ⟨A2,c2,rfl,hF⟩:=hF.freeze 0 at0
 (try simp only [zF] at hF)
 go_ret
 exact ⟨A2,c2,rfl,hF.outA⟩
end
end Go.Proofs.YtgnomadgnciifaaGreatDoor
