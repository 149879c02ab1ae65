/- . -/
import Derived.Test.YtgnomadgnciifaaGreatDoorZ16
set_option linter.unusedVariables false
set_option linter.unusedSimpArgs false
set_option linter.unusedSectionVars false
set_option maxRecDepth 100000
set_option maxHeartbeats 16000000
namespace Go.Proofs.YtgnomadgnciifaaGreatDoor
theorem b2j {p:Prop} (h:p:=by
 clear h2 Hz
 replace hb:=Lib.hid hb
 go_upto_region 13 with ((try refine zs ?_);(first|(go_at_call 106;refine (HH.out _).mono ?_;rintro x wN ⟨rfl,rfl⟩)|(go_at_call 148;refine (c3c _ _ _ _ _ (by assumption) (b9x _) (by omega) (by omega)).mono ?_;rintro x wN ⟨rfl,hd⟩;replace hF:=hF.grow (Bel.ofDrew hd);clear hd)|refine f2o ?_|(refine a1s ?_;clear hF;(first|intro gN wN hF|intro wN hF|intro hF))|(refine a1d ?_;clear hF;intro vN wN hF)))
 cases b
 ·skip
  refine a1n (by kernel_rfl) hF _ _ (fun _ h=>h) (fun _ h=>h) ?_
  clear hF;intro hF hH
  refine zk1 0 hH ?_
  refine zk0 1 hH ?_
  refine a1c 2 hH ?_
  refine zk0 4 hH ?_
  refine zry 3 (fun K hK=>?_)
  go_wp2_with ((go_at_call 149;refine (c5d _ _ _ hw3).mono ?_;rintro x wN ⟨rfl,hb⟩;replace hF:=hF.grow hb;clear hb))
  have hH:=hH.nextA hF;refine hK.out _ _ hH ?_;clear hK;refine zs ?_
  refine d1h 5 hH ?_
  refine zrz ?_
  (go_wp2_with ((try refine zs ?_);(first|refine a8i ?_|(refine a1s ?_;clear hF;(first|intro gN wN hF|intro wN hF|intro hF))|(refine a1d ?_;clear hF;intro vN wN hF)));go_returns;first|exact ⟨_,rfl,hF.bel⟩|exact ⟨⟨_,rfl⟩,hF.bel⟩|exact ⟨rfl,hF.bel⟩)
 ·skip
  refine a1n (by kernel_rfl) hF _ _ (fun _ h=>h) (fun _ h=>h) ?_
  clear hF;intro hF hH
  refine zk1 0 hH ?_
  refine zk0 1 hH ?_
  refine a1c 2 hH ?_
  refine zk0 4 hH ?_
  refine zry 3 (fun K hK=>?_)
  go_wp2_with ((go_at_call 149;refine (c5d _ _ _ hw3).mono ?_;rintro x wN ⟨rfl,hb⟩;replace hF:=hF.grow hb;clear hb))
  have hH:=hH.nextA hF;refine hK.out _ _ hH ?_;clear hK;refine zs ?_
  refine d1h 5 hH ?_
  refine zrz ?_
  (go_wp2_with ((try refine zs ?_);(first|refine a8i ?_|(refine a1s ?_;clear hF;(first|intro gN wN hF|intro wN hF|intro hF))|(refine a1d ?_;clear hF;intro vN wN hF)));go_returns;first|exact ⟨_,rfl,hF.bel⟩|exact ⟨⟨_,rfl⟩,hF.bel⟩|exact ⟨rfl,hF.bel⟩)):p:=h
section
open Go.RowKit Wd
section
variable {P:Program} {ops:Array Oper} {rest:List Oper} {o:Oper} {a:Act} {Q:Exit→Act→World→Prop}
theorem y_shrH {S:World→Prop} {x y:Operand} {t t':TypeId} {p q r:Nat} (ho:o.op = .binOp .shr t x y t') (hx:a1b a x=some (.int .u32 (p:Int))) (hy:a1b a y=some (.int .i64 (q:Int))) (hr:Hid (p / 2 ^ q=r):=by assumption) (hq:q≤32:=by omega) (hw:Region.wanted o (yielded ops a.tmps)=true:=by rfl) :
  YieldsIf P ops S o (.int .u32 (r:Int)) a:=a1u hw fun w=>by
 replace hx:=look_eval hx
 replace hy:=look_eval hy
 rw [← hr.out,← c4e]
 unfold execOp
 simp only [ho,hx,hy]
 go_simp
theorem y_orH {S:World→Prop} {x y:Operand} {t t':TypeId} {p q r:Nat} (ho:o.op = .binOp .or t x y t') (hx:a1b a x=some (.int .u32 (p:Int))) (hy:a1b a y=some (.int .u32 (q:Int))) (hr:Hid (bits .or .u32 (p:Int) (q:Int)=(r:Int)):=by assumption) (hw:Region.wanted o (yielded ops a.tmps)=true:=by rfl) :
  YieldsIf P ops S o (.int .u32 (r:Int)) a:=a1u hw fun w=>by
 replace hx:=look_eval hx
 replace hy:=look_eval hy
 rw [← hr.out]
 unfold execOp
 simp only [ho,hx,hy]
 go_simp
theorem w_cvtUn {w:World} {src dst:TypeId} {x:Operand} {p:Int} (ho:o.op = .convert src dst x) (hx:a1b a x=some (.int .i64 p)) (hs:P.underlying src=some (.int .i64)) (hd:P.underlying dst=some (.int .u32)) (h:wpList P ops Q rest (a.put o.dst (.int .u32 ((un p:Nat):Int))) w) (hw:Region.wanted o (yielded ops a.tmps)=true:=by rfl):wpList P ops Q (o::rest) a w:=by
 replace hx:=look_eval hx
 refine a2c hw fun K hK=>?_
 have hrun:(execOp a.eval o).run P w = .ok (.value (.int .u32 ((un p:Nat):Int))) w:=by
  unfold execOp
  simp only [ho,hx]
  simp [convert,run_underlying hs,run_underlying hd,c4d,IntKind.wrap_u32',go_sem]
 unfold Oper.wp
 rw [hrun]
 exact hK _ _ h
end
theorem h2z {x:Nat} (hx:x<4294967296) {l:List (Int × Int)} (h:b5c l):(a4o x l).1<4294967296:=by
 have:=(d4p hx h _ (Nat.le_refl _)).1
 rwa [List.take_length] at this
theorem h3a (i:Ins) (w:World) (hf:a1o i.op=0) :
  Calls Tryz.prog 89 #[i.val] w fun e w'=>e = .returned (.tuple #[.int .u32 0,.int .i64 1])∧Bel w w':=by
 have hF:=St.start w [] (fun d hd=>by cases hd)
 obtain ⟨op,rd,rs1,rs2,imm⟩:=i
 have HFo:=Lib.hid (fun W=>by have:=a7r op W;rw [a8c] at this;dsimp only at hf;rwa [hf] at this:∀ W,Calls Tryz.prog 107 #[.int .i64 op] W fun e w'=>e = .returned (.int .i64 0)∧w'=W)
 unfold Ins.val
 go_enter Tryz.func89,Tryz.ntmps89
 go_wp2_with ((first|(go_at_call 107;refine (HFo.out _).mono ?_;rintro x wN ⟨rfl,rfl⟩)|((first|refine zrd ?_|(refine zst ?_;clear hF;(first|intro gN wN hF|intro wN hF|intro hF))|(refine zap ?_;clear hF;intro vN wN hF));refine zs ?_)))
 go_returns
 exact ⟨rfl,hF.bel⟩
theorem h3b (k:Nat) (rd rs1 rs2:Int) (imm:Nat) (w:World) (hk:k<49) (hf:¬ a1o (k:Int)=0) (him:imm<4294967296) (hr:Rd w w.heap.size 1 (some ⟨0,0,none⟩) 49 49 (u32v codesL)) :
  Calls Tryz.prog 89 #[(⟨(k:Int),rd,rs1,rs2,imm⟩:Ins).val] w fun e w'=>∃ x,e = .returned (.tuple #[.int .u32 ((x:Nat):Int),.int .i64 (if a3f (a2g (k:Int) (b9n ⟨(k:Int),rd,rs1,rs2,imm⟩)) ⟨(k:Int),rd,rs1,rs2,imm⟩ then 0 else 1)])∧Bel w w':=by
 have hF:=St.start w [a1a 1 (some ⟨0,0,none⟩) 49 49 (u32v codesL)] (fun d hd=>by obtain rfl:=List.mem_singleton.1 hd;exact hr)
 clear hr
 have HFo:=Lib.hid (fun W=>by have:=a7r (k:Int) W;rwa [a8c] at this:∀ W,Calls Tryz.prog 107 #[.int .i64 (k:Int)] W fun e w'=>e = .returned (.int .i64 (a1o (k:Int)))∧w'=W)
 have HN:=Lib.hid (fun W=>g3x (a1o (k:Int)) W (b7d _))
 have HH:=Lib.hid (fun W=>g3w (a1o (k:Int)) W (b7d _))
 have hlow:(a1g (a1o (k:Int))).2≤12:=by
  rcases b7d (k:Int) with h|h|h|h|h|h|h|h|h <;> rw [h] <;> decide
 have hq:imm / 2 ^ (a1g (a1o (k:Int))).2<4294967296:=Nat.lt_of_le_of_lt (Nat.div_le_self _ _) him
 have HSc:=Lib.hid (fun W A c (h:Rd W W.heap.size 2 A (a1g (a1o (k:Int))).1.length c (spns (a2l (a1g (a1o (k:Int))).1)))=>g5v A c (imm / 2 ^ (a1g (a1o (k:Int))).2) (a1g (a1o (k:Int))).1 W h (a4y _) hq)
 have hsl:=h2z hq (a4y (a1o (k:Int)))
 have hcl:=d6k k
 have hc:=d6j hk
 have hor:=u32_or_nat (codesL[k]?.getD 0) (a4o (imm / 2 ^ (a1g (a1o (k:Int))).2) (a1g (a1o (k:Int))).1).1 hcl hsl
 have hol:codesL[k]?.getD 0 ||| (a4o (imm / 2 ^ (a1g (a1o (k:Int))).2) (a1g (a1o (k:Int))).1).1<4294967296:=Nat.or_lt_two_pow (n:=32) hcl hsl
 have hE:b9n ⟨(k:Int),rd,rs1,rs2,imm⟩=(let w0:=codesL[k]?.getD 0 ||| (a4o (imm / 2 ^ (a1g (a1o (k:Int))).2) (a1g (a1o (k:Int))).1).1
  let w1:=if (a2e (a1o (k:Int))).1 then a1r w0 7 5 (un rd) else w0
  let w2:=if (a2e (a1o (k:Int))).2.1 then a1r w1 15 5 (un rs1) else w1
  if (a2e (a1o (k:Int))).2.2 then a1r w2 20 5 (un rs2) else w2):=rfl
 rw [hE]
 clear hE
 obtain ⟨z,hz⟩:∃ z,(if a3f (a2g (k:Int) (let w0:=codesL[k]?.getD 0 ||| (a4o (imm / 2 ^ (a1g (a1o (k:Int))).2) (a1g (a1o (k:Int))).1).1
  let w1:=if (a2e (a1o (k:Int))).1 then a1r w0 7 5 (un rd) else w0
  let w2:=if (a2e (a1o (k:Int))).2.1 then a1r w1 15 5 (un rs1) else w1
  if (a2e (a1o (k:Int))).2.2 then a1r w2 20 5 (un rs2) else w2)) ⟨(k:Int),rd,rs1,rs2,imm⟩ then (0:Int) else 1)=z:=⟨_,rfl⟩
 rw [hz]
 generalize codesL[k]?.getD 0 ||| (a4o (imm / 2 ^ (a1g (a1o (k:Int))).2) (a1g (a1o (k:Int))).1).1=w0 at *
 generalize (a4o (imm / 2 ^ (a1g (a1o (k:Int))).2) (a1g (a1o (k:Int))).1).1=sc at *
 generalize codesL[k]?.getD 0=c0 at *
 generalize hLn:(a1g (a1o (k:Int))).1=L at *
 generalize hLw:(a1g (a1o (k:Int))).2=low at *
 generalize (a2e (a1o (k:Int))).1=h1 at *
 generalize (a2e (a1o (k:Int))).2.1=h2 at *
 generalize (a2e (a1o (k:Int))).2.2=h3 at *
 generalize a1o (k:Int)=f at *
 obtain ⟨im2,hi2⟩:∃ im2,imm / 2 ^ low=im2:=⟨_,rfl⟩
 rw [hi2] at HSc hq
 have Hi2:=Lib.hid hi2
 clear hi2 hLn hLw
 generalize L.length=ln at *
 have Hz:=Lib.hid hz
 clear hz
 have Hor:=Lib.hid hor
 clear hor
 have s1:∀ v,a1r w0 7 5 v<4294967296:=fun v=>a7g 7 5 v hol
 have s2:∀ x v,x<4294967296→a1r x 15 5 v<4294967296:=fun x v h=>a7g 15 5 v h
 have s3:∀ x v,x<4294967296→a1r x 20 5 v<4294967296:=fun x v h=>a7g 20 5 v h
 have S:=Lib.hid (And.intro s1 (And.intro s2 s3))
 clear s1 s2 s3
 unfold Ins.val
 go_enter Tryz.func89,Tryz.ntmps89
 go_upto_region 5 with ((try refine zs ?_);(first|(go_at_call 107;refine (HFo.out _).mono ?_;rintro x wN ⟨rfl,rfl⟩)|(go_at_call 146;refine (HN.out _).mono ?_;rintro x wN ⟨A,c,rfl,hO⟩;replace hF:=hF.call1A hO f6t;clear hO)|refine a8i ?_|(refine a1s ?_;clear hF;(first|intro gN wN hF|intro wN hF|intro hF))|(refine a1d ?_;clear hF;intro vN wN hF)))
 refine a1n (by kernel_rfl) hF _ _ (fun _ h=>h) (fun _ h=>h) ?_
 clear hF;intro hF hH
 refine zk1 0 hH ?_
 refine zk0 1 hH ?_
 refine c3p 2 hH ?_
 refine zk0 3 hH ?_
 refine zk1 4 hH ?_
 refine zk0 5 hH ?_
 refine a1c 6 hH ?_
 refine f9w 7 hH ?_
 refine a1c 8 hH ?_
 refine zry 9 (fun K hK=>?_)
 go_wp2_with ((go_at_call 147;refine (HSc.out _ _ _ hF.rdA).mono ?_;rintro x wN ⟨rfl,hb⟩;replace hF:=hF.grow hb;clear hb))
 have hH:=hH.nextA hF;refine hK.out _ _ hH ?_;clear hK;refine zs ?_
 refine f9x 10 hH ?_
 refine a2a 11 hH ?_
 refine zrz ?_
 have v1:=S.out.1 (un rd)
 have v2:=S.out.2.1 w0 (un rs1) hol
 have v3:=S.out.2.1 _ (un rs1) v1
 cases h1 <;> cases h2 <;> cases h3
 ·have hw3:w0<4294967296:=by repeat (first|exact hol|refine a7g _ _ _ ?_)
  have h2:(if a3f (a2g (k:Int) (w0)) ⟨(k:Int),rd,rs1,rs2,imm⟩ then (0:Int) else 1)=z:=Hz.out
  obtain ⟨b,hb⟩:∃ b,(!(a3f (a2g (k:Int) (w0)) ⟨(k:Int),rd,rs1,rs2,imm⟩))=b:=⟨_,rfl⟩
  obtain rfl:z=if b then 1 else 0:=by rw [← h2,← hb];cases a3f (a2g (k:Int) (w0)) ⟨(k:Int),rd,rs1,rs2,imm⟩ <;> rfl
  exact b2j
 ·have hw3:a1r w0 20 5 (un rs2)<4294967296:=by repeat (first|exact hol|refine a7g _ _ _ ?_)
  have h2:(if a3f (a2g (k:Int) (a1r w0 20 5 (un rs2))) ⟨(k:Int),rd,rs1,rs2,imm⟩ then (0:Int) else 1)=z:=Hz.out
  obtain ⟨b,hb⟩:∃ b,(!(a3f (a2g (k:Int) (a1r w0 20 5 (un rs2))) ⟨(k:Int),rd,rs1,rs2,imm⟩))=b:=⟨_,rfl⟩
  obtain rfl:z=if b then 1 else 0:=by rw [← h2,← hb];cases a3f (a2g (k:Int) (a1r w0 20 5 (un rs2))) ⟨(k:Int),rd,rs1,rs2,imm⟩ <;> rfl
  exact b2j
 ·have hw3:a1r w0 15 5 (un rs1)<4294967296:=by repeat (first|exact hol|refine a7g _ _ _ ?_)
  have h2:(if a3f (a2g (k:Int) (a1r w0 15 5 (un rs1))) ⟨(k:Int),rd,rs1,rs2,imm⟩ then (0:Int) else 1)=z:=Hz.out
  obtain ⟨b,hb⟩:∃ b,(!(a3f (a2g (k:Int) (a1r w0 15 5 (un rs1))) ⟨(k:Int),rd,rs1,rs2,imm⟩))=b:=⟨_,rfl⟩
  obtain rfl:z=if b then 1 else 0:=by rw [← h2,← hb];cases a3f (a2g (k:Int) (a1r w0 15 5 (un rs1))) ⟨(k:Int),rd,rs1,rs2,imm⟩ <;> rfl
  exact b2j
 ·have hw3:a1r (a1r w0 15 5 (un rs1)) 20 5 (un rs2)<4294967296:=by repeat (first|exact hol|refine a7g _ _ _ ?_)
  have h2:(if a3f (a2g (k:Int) (a1r (a1r w0 15 5 (un rs1)) 20 5 (un rs2))) ⟨(k:Int),rd,rs1,rs2,imm⟩ then (0:Int) else 1)=z:=Hz.out
  obtain ⟨b,hb⟩:∃ b,(!(a3f (a2g (k:Int) (a1r (a1r w0 15 5 (un rs1)) 20 5 (un rs2))) ⟨(k:Int),rd,rs1,rs2,imm⟩))=b:=⟨_,rfl⟩
  obtain rfl:z=if b then 1 else 0:=by rw [← h2,← hb];cases a3f (a2g (k:Int) (a1r (a1r w0 15 5 (un rs1)) 20 5 (un rs2))) ⟨(k:Int),rd,rs1,rs2,imm⟩ <;> rfl
  exact b2j
 ·have hw3:a1r w0 7 5 (un rd)<4294967296:=by repeat (first|exact hol|refine a7g _ _ _ ?_)
  have h2:(if a3f (a2g (k:Int) (a1r w0 7 5 (un rd))) ⟨(k:Int),rd,rs1,rs2,imm⟩ then (0:Int) else 1)=z:=Hz.out
  obtain ⟨b,hb⟩:∃ b,(!(a3f (a2g (k:Int) (a1r w0 7 5 (un rd))) ⟨(k:Int),rd,rs1,rs2,imm⟩))=b:=⟨_,rfl⟩
  obtain rfl:z=if b then 1 else 0:=by rw [← h2,← hb];cases a3f (a2g (k:Int) (a1r w0 7 5 (un rd))) ⟨(k:Int),rd,rs1,rs2,imm⟩ <;> rfl
  exact b2j
 ·have hw3:a1r (a1r w0 7 5 (un rd)) 20 5 (un rs2)<4294967296:=by repeat (first|exact hol|refine a7g _ _ _ ?_)
  have h2:(if a3f (a2g (k:Int) (a1r (a1r w0 7 5 (un rd)) 20 5 (un rs2))) ⟨(k:Int),rd,rs1,rs2,imm⟩ then (0:Int) else 1)=z:=Hz.out
  obtain ⟨b,hb⟩:∃ b,(!(a3f (a2g (k:Int) (a1r (a1r w0 7 5 (un rd)) 20 5 (un rs2))) ⟨(k:Int),rd,rs1,rs2,imm⟩))=b:=⟨_,rfl⟩
  obtain rfl:z=if b then 1 else 0:=by rw [← h2,← hb];cases a3f (a2g (k:Int) (a1r (a1r w0 7 5 (un rd)) 20 5 (un rs2))) ⟨(k:Int),rd,rs1,rs2,imm⟩ <;> rfl
  exact b2j
 ·have hw3:a1r (a1r w0 7 5 (un rd)) 15 5 (un rs1)<4294967296:=by repeat (first|exact hol|refine a7g _ _ _ ?_)
  have h2:(if a3f (a2g (k:Int) (a1r (a1r w0 7 5 (un rd)) 15 5 (un rs1))) ⟨(k:Int),rd,rs1,rs2,imm⟩ then (0:Int) else 1)=z:=Hz.out
  obtain ⟨b,hb⟩:∃ b,(!(a3f (a2g (k:Int) (a1r (a1r w0 7 5 (un rd)) 15 5 (un rs1))) ⟨(k:Int),rd,rs1,rs2,imm⟩))=b:=⟨_,rfl⟩
  obtain rfl:z=if b then 1 else 0:=by rw [← h2,← hb];cases a3f (a2g (k:Int) (a1r (a1r w0 7 5 (un rd)) 15 5 (un rs1))) ⟨(k:Int),rd,rs1,rs2,imm⟩ <;> rfl
  exact b2j
 ·have hw3:a1r (a1r (a1r w0 7 5 (un rd)) 15 5 (un rs1)) 20 5 (un rs2)<4294967296:=by repeat (first|exact hol|refine a7g _ _ _ ?_)
  have h2:(if a3f (a2g (k:Int) (a1r (a1r (a1r w0 7 5 (un rd)) 15 5 (un rs1)) 20 5 (un rs2))) ⟨(k:Int),rd,rs1,rs2,imm⟩ then (0:Int) else 1)=z:=Hz.out
  obtain ⟨b,hb⟩:∃ b,(!(a3f (a2g (k:Int) (a1r (a1r (a1r w0 7 5 (un rd)) 15 5 (un rs1)) 20 5 (un rs2))) ⟨(k:Int),rd,rs1,rs2,imm⟩))=b:=⟨_,rfl⟩
  obtain rfl:z=if b then 1 else 0:=by rw [← h2,← hb];cases a3f (a2g (k:Int) (a1r (a1r (a1r w0 7 5 (un rd)) 15 5 (un rs1)) 20 5 (un rs2))) ⟨(k:Int),rd,rs1,rs2,imm⟩ <;> rfl
  exact b2j
end
end Go.Proofs.YtgnomadgnciifaaGreatDoor
