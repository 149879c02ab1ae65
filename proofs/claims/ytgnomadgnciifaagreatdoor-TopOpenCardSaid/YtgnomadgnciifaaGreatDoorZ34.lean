/- . -/
import Derived.Test.YtgnomadgnciifaaGreatDoorZ30
set_option linter.unusedVariables false
set_option linter.unusedSimpArgs false
set_option linter.unusedSectionVars false
set_option maxRecDepth 100000
set_option maxHeartbeats 16000000
namespace Go.Proofs.YtgnomadgnciifaaGreatDoor
theorem b1n {p:Prop} (h:p:=by
 unfold En.val Ins.val at *
 go_enter Tryz.func38,Tryz.ntmps38
 go_upto_region 1 with (((first|refine zrg ?_|(refine zst ?_;clear hF;(first|intro gN wN hF|intro wN hF|intro hF))|(refine zap ?_;clear hF;intro vN wN hF));(try simp only [zA,Nat.reduceAdd])))
 go_wp2_with ((try simp only [zA,Nat.reduceAdd]);(first|refine a8j ?_|(refine a9a ?_;clear hF;(first|intro gN wN hF|intro wN hF|intro hF))|(go_at_call 89;refine (HE.out _ hF.rdA).mono ?_;rintro x wN ⟨ex,rfl,hb⟩;replace hF:=hF.grow hb;clear hb)|(refine a1d ?_;clear hF;intro vN wN hF)))
 go_ret
 exact ⟨rfl,hF.bel⟩):p:=h
theorem b2m {p:Prop} (h:p:=by
 replace f1:=Lib.hid f1
 unfold En.val Ins.val at *
 go_enter Tryz.func38,Tryz.ntmps38
 go_upto_region 1 with (((first|refine zrg ?_|(refine zst ?_;clear hF;(first|intro gN wN hF|intro wN hF|intro hF))|(refine zap ?_;clear hF;intro vN wN hF));(try simp only [zA,Nat.reduceAdd])))
 go_wp2_with ((try simp only [f1.out]);(try simp only [zA,Nat.reduceAdd]);(first|refine a8j ?_|(refine a9a ?_;clear hF;(first|intro gN wN hF|intro wN hF|intro hF))|(go_at_call 89;refine (HE.out _ hF.rdA).mono ?_;rintro x wN ⟨ex,rfl,hb⟩;replace hF:=hF.grow hb;clear hb)|(refine a1d ?_;clear hF;intro vN wN hF)))
 go_ret
 exact ⟨rfl,hF.bel⟩):p:=h
theorem c6f {p:Prop} (h:p:=by
 have f2:(halt != 0)=true:=by simpa using hh
 replace f2:=Lib.hid f2
 unfold En.val Ins.val at *
 go_enter Tryz.func38,Tryz.ntmps38
 go_upto_region 1 with (((first|refine zrg ?_|(refine zst ?_;clear hF;(first|intro gN wN hF|intro wN hF|intro hF))|(refine zap ?_;clear hF;intro vN wN hF));(try simp only [zA,Nat.reduceAdd])))
 go_wp2_with ((try simp only [f2.out]);(try simp only [zA,Nat.reduceAdd]);(first|refine a8j ?_|(refine a9a ?_;clear hF;(first|intro gN wN hF|intro wN hF|intro hF))|(go_at_call 89;refine (HE.out _ hF.rdA).mono ?_;rintro x wN ⟨ex,rfl,hb⟩;replace hF:=hF.grow hb;clear hb)|(refine a1d ?_;clear hF;intro vN wN hF)))
 go_ret
 exact ⟨rfl,hF.bel⟩):p:=h
theorem d8m {p:Prop} (h:p:=by
 unfold En.val Ins.val at *
 (go_enter Tryz.func38,Tryz.ntmps38;go_wp2_with ((try simp only [zA,Nat.reduceAdd]);(first|refine a8j ?_|(refine a9a ?_;clear hF;(first|intro gN wN hF|intro wN hF|intro hF))|(go_at_call 89;refine (HE.out _ hF.rdA).mono ?_;rintro x wN ⟨ex,rfl,hb⟩;replace hF:=hF.grow hb;clear hb)|(refine a1d ?_;clear hF;intro vN wN hF)));go_ret;exact ⟨rfl,hF.bel⟩)):p:=h
section
open Go.RowKit Wd
section
variable (no:Int) (pc:Nat) (op rd rs1 rs2:Int) (imm:Nat) (guess:Nat) (left:Int) (value next addr:Nat) (halt took:Int) (known filled:Bool) (κ:Int) (en b:Bool) (w:World)
 (HK:Hid (∀ W,Calls Tryz.prog 39 #[(⟨op,rd,rs1,rs2,imm⟩:Ins).val] W fun e w'=>e = .returned (.int .i64 κ)∧Bel W w'))
 (HE:Hid (∀ W,Rd W W.heap.size 1 (some ⟨0,0,none⟩) 49 49 (u32v codesL)→Calls Tryz.prog 89 #[(⟨op,rd,rs1,rs2,imm⟩:Ins).val] W fun e w'=>∃ x,e = .returned (.tuple #[.int .u32 ((x:Nat):Int),.int .i64 (if en then 0 else 1)])∧Bel W w'))
 (hF:St w [a2h] w [] [a2h])
include HK HE hF
theorem h5g (is:Int) (h:is<0) (hb:b=false):Calls Tryz.prog 38 #[(⟨no,pc,⟨op,rd,rs1,rs2,imm⟩,guess,is,left,value,next,addr,halt,took,known,filled⟩:En).val] w fun x w'=>x = .returned (.bool b)∧Bel w w':=by
 subst hb
 exact d8m
theorem h5h (is:Int) (h:3<is) (hb:b=false):Calls Tryz.prog 38 #[(⟨no,pc,⟨op,rd,rs1,rs2,imm⟩,guess,is,left,value,next,addr,halt,took,known,filled⟩:En).val] w fun x w'=>x = .returned (.bool b)∧Bel w w':=by
 subst hb
 have h0:decide (is<0)=false:=by simp;omega
 exact d8m
theorem h5i (hl:¬ left=0) (hb:b=false):Calls Tryz.prog 38 #[(⟨no,pc,⟨op,rd,rs1,rs2,imm⟩,guess,0,left,value,next,addr,halt,took,known,filled⟩:En).val] w fun x w'=>x = .returned (.bool b)∧Bel w w':=by
 subst hb
 have f1:(left != 0)=true:=by simpa using hl
 exact b2m
theorem h5j (hl:¬ left=0) (hb:b=false):Calls Tryz.prog 38 #[(⟨no,pc,⟨op,rd,rs1,rs2,imm⟩,guess,2,left,value,next,addr,halt,took,known,filled⟩:En).val] w fun x w'=>x = .returned (.bool b)∧Bel w w':=by
 subst hb
 have f1:(left != 0)=true:=by simpa using hl
 exact b2m
theorem h5k (hl:¬ left=0) (hb:b=false):Calls Tryz.prog 38 #[(⟨no,pc,⟨op,rd,rs1,rs2,imm⟩,guess,3,left,value,next,addr,halt,took,known,filled⟩:En).val] w fun x w'=>x = .returned (.bool b)∧Bel w w':=by
 subst hb
 have f1:(left != 0)=true:=by simpa using hl
 exact b2m
theorem h5l (hl:left≤0) (hb:b=false):Calls Tryz.prog 38 #[(⟨no,pc,⟨op,rd,rs1,rs2,imm⟩,guess,1,left,value,next,addr,halt,took,known,filled⟩:En).val] w fun x w'=>x = .returned (.bool b)∧Bel w w':=by
 subst hb
 have f1:decide (left≤0)=true:=by simpa using hl
 exact b2m
theorem h5m (hh:¬ halt=0) (hb:b=false):Calls Tryz.prog 38 #[(⟨no,pc,⟨op,rd,rs1,rs2,imm⟩,guess,0,0,value,next,addr,halt,took,known,filled⟩:En).val] w fun x w'=>x = .returned (.bool b)∧Bel w w':=by
 subst hb
 exact c6f
theorem h5n  (hb:b=true) (hen:en=true):Calls Tryz.prog 38 #[(⟨no,pc,⟨op,rd,rs1,rs2,imm⟩,guess,0,0,value,next,addr,0,took,known,filled⟩:En).val] w fun x w'=>x = .returned (.bool b)∧Bel w w':=by
 subst hb
 subst hen
 exact b1n
theorem h5o  (hb:b=false) (hen:en=false):Calls Tryz.prog 38 #[(⟨no,pc,⟨op,rd,rs1,rs2,imm⟩,guess,0,0,value,next,addr,0,took,known,filled⟩:En).val] w fun x w'=>x = .returned (.bool b)∧Bel w w':=by
 subst hb
 subst hen
 exact b1n
theorem h5p (hl:0<left) (hb:b=true) (hen:en=true):Calls Tryz.prog 38 #[(⟨no,pc,⟨op,rd,rs1,rs2,imm⟩,guess,1,left,value,next,addr,0,took,known,filled⟩:En).val] w fun x w'=>x = .returned (.bool b)∧Bel w w':=by
 subst hb
 subst hen
 have f1:decide (left≤0)=false:=by simp;omega
 exact b2m
theorem h5q (hl:0<left) (hb:b=false) (hen:en=false):Calls Tryz.prog 38 #[(⟨no,pc,⟨op,rd,rs1,rs2,imm⟩,guess,1,left,value,next,addr,0,took,known,filled⟩:En).val] w fun x w'=>x = .returned (.bool b)∧Bel w w':=by
 subst hb
 subst hen
 have f1:decide (left≤0)=false:=by simp;omega
 exact b2m
theorem h5r (hl:0<left) (hh:¬ halt=0) (hk:¬ κ=5) (hb:b=false):Calls Tryz.prog 38 #[(⟨no,pc,⟨op,rd,rs1,rs2,imm⟩,guess,1,left,value,next,addr,halt,took,known,filled⟩:En).val] w fun x w'=>x = .returned (.bool b)∧Bel w w':=by
 subst hb
 have f1:decide (left≤0)=false:=by simp;omega
 have f2:(halt != 0)=true:=by simpa using hh
 have f3:(κ == 5)=false:=by simpa using hk
 replace f1:=Lib.hid f1;replace f2:=Lib.hid f2;replace f3:=Lib.hid f3
 unfold En.val Ins.val at *
 go_enter Tryz.func38,Tryz.ntmps38
 go_upto_region 1 with (((first|refine zrg ?_|(refine zst ?_;clear hF;(first|intro gN wN hF|intro wN hF|intro hF))|(refine zap ?_;clear hF;intro vN wN hF));(try simp only [zA,Nat.reduceAdd])))
 go_wp2_with ((try simp only [f1.out,f2.out,f3.out]);(try simp only [zA,Nat.reduceAdd]);(first|((refine g_skip rfl rfl rfl ?_);(try simp only [zA,Nat.reduceAdd]))|(go_at_call 39;refine zcg hF (HK.out _) ?_;clear hF;intro wN hF)|(go_at_call 89;refine (HE.out _ hF.rdA).mono ?_;rintro x wN ⟨ex,rfl,hb⟩;replace hF:=hF.grow hb;clear hb)|((refine w_ldp (v:=.agg #[.int .i64 op,.int .i64 rd,.int .i64 rs1,.int .i64 rs2,.int .u32 (imm:Int)]) (n:=5) rfl hF rfl ?_ (hn:=Nat.le_of_ble_eq_true rfl));(try simp only [zA,Nat.reduceAdd]))|((first|refine zrg ?_|(refine zst ?_;clear hF;(first|intro gN wN hF|intro wN hF|intro hF))|(refine zap ?_;clear hF;intro vN wN hF));(try simp only [zA,Nat.reduceAdd]))))
 go_ret
 exact ⟨rfl,hF.bel⟩
theorem h5s (hl:0<left) (hh:¬ halt=0) (h3:¬ halt=3) (hb:b=false) (hkk:κ=5):Calls Tryz.prog 38 #[(⟨no,pc,⟨op,rd,rs1,rs2,imm⟩,guess,1,left,value,next,addr,halt,took,known,filled⟩:En).val] w fun x w'=>x = .returned (.bool b)∧Bel w w':=by
 subst hb
 subst hkk
 have f1:decide (left≤0)=false:=by simp;omega
 have f2:(halt != 0)=true:=by simpa using hh
 have f3:(halt == 3)=false:=by simpa using h3
 replace f1:=Lib.hid f1;replace f2:=Lib.hid f2
 unfold En.val Ins.val at *
 go_enter Tryz.func38,Tryz.ntmps38
 go_upto_region 1 with (((first|refine zrg ?_|(refine zst ?_;clear hF;(first|intro gN wN hF|intro wN hF|intro hF))|(refine zap ?_;clear hF;intro vN wN hF));(try simp only [zA,Nat.reduceAdd])))
 go_wp2_with ((try simp only [f1.out,f2.out,f3]);(try simp only [zA,Nat.reduceAdd]);(first|((refine g_skip rfl rfl rfl ?_);(try simp only [zA,Nat.reduceAdd]))|(go_at_call 39;refine zcg hF (HK.out _) ?_;clear hF;intro wN hF)|(go_at_call 89;refine (HE.out _ hF.rdA).mono ?_;rintro x wN ⟨ex,rfl,hb⟩;replace hF:=hF.grow hb;clear hb)|((refine w_ldp (v:=.agg #[.int .i64 op,.int .i64 rd,.int .i64 rs1,.int .i64 rs2,.int .u32 (imm:Int)]) (n:=5) rfl hF rfl ?_ (hn:=Nat.le_of_ble_eq_true rfl));(try simp only [zA,Nat.reduceAdd]))|((first|refine zrg ?_|(refine zst ?_;clear hF;(first|intro gN wN hF|intro wN hF|intro hF))|(refine zap ?_;clear hF;intro vN wN hF));(try simp only [zA,Nat.reduceAdd]))))
 go_ret
 exact ⟨rfl,hF.bel⟩
theorem h5t (hl:0<left) (hb:b=true) (hkk:κ=5) (hen:en=true):Calls Tryz.prog 38 #[(⟨no,pc,⟨op,rd,rs1,rs2,imm⟩,guess,1,left,value,next,addr,3,took,known,filled⟩:En).val] w fun x w'=>x = .returned (.bool b)∧Bel w w':=by
 subst hb
 subst hkk
 subst hen
 have f1:decide (left≤0)=false:=by simp;omega
 exact b2m
theorem h5u (hl:0<left) (hb:b=false) (hkk:κ=5) (hen:en=false):Calls Tryz.prog 38 #[(⟨no,pc,⟨op,rd,rs1,rs2,imm⟩,guess,1,left,value,next,addr,3,took,known,filled⟩:En).val] w fun x w'=>x = .returned (.bool b)∧Bel w w':=by
 subst hb
 subst hkk
 subst hen
 have f1:decide (left≤0)=false:=by simp;omega
 exact b2m
theorem h5v (hk:¬ κ=3) (hb:b=false):Calls Tryz.prog 38 #[(⟨no,pc,⟨op,rd,rs1,rs2,imm⟩,guess,2,0,value,next,addr,halt,took,known,filled⟩:En).val] w fun x w'=>x = .returned (.bool b)∧Bel w w':=by
 subst hb
 have f3:(κ != 3)=true:=by simpa using hk
 replace f3:=Lib.hid f3
 unfold En.val Ins.val at *
 go_enter Tryz.func38,Tryz.ntmps38
 go_upto_region 1 with (((first|refine zrg ?_|(refine zst ?_;clear hF;(first|intro gN wN hF|intro wN hF|intro hF))|(refine zap ?_;clear hF;intro vN wN hF));(try simp only [zA,Nat.reduceAdd])))
 go_wp2_with ((try simp only [f3.out]);(try simp only [zA,Nat.reduceAdd]);(first|refine a8j ?_|(refine a9a ?_;clear hF;(first|intro gN wN hF|intro wN hF|intro hF))|(go_at_call 89;refine (HE.out _ hF.rdA).mono ?_;rintro x wN ⟨ex,rfl,hb⟩;replace hF:=hF.grow hb;clear hb)|(refine a1d ?_;clear hF;intro vN wN hF)))
 go_ret
 exact ⟨rfl,hF.bel⟩
theorem h5w  (hb:b=false) (hkk:κ=3):Calls Tryz.prog 38 #[(⟨no,pc,⟨op,rd,rs1,rs2,imm⟩,guess,2,0,value,next,addr,halt,took,false,filled⟩:En).val] w fun x w'=>x = .returned (.bool b)∧Bel w w':=by
 subst hb
 subst hkk
 exact b1n
theorem h5x (hh:¬ halt=0) (hb:b=false) (hkk:κ=3):Calls Tryz.prog 38 #[(⟨no,pc,⟨op,rd,rs1,rs2,imm⟩,guess,2,0,value,next,addr,halt,took,true,filled⟩:En).val] w fun x w'=>x = .returned (.bool b)∧Bel w w':=by
 subst hb
 subst hkk
 exact c6f
theorem h5y  (hb:b=true) (hkk:κ=3) (hen:en=true):Calls Tryz.prog 38 #[(⟨no,pc,⟨op,rd,rs1,rs2,imm⟩,guess,2,0,value,next,addr,0,took,true,filled⟩:En).val] w fun x w'=>x = .returned (.bool b)∧Bel w w':=by
 subst hb
 subst hkk
 subst hen
 exact b1n
theorem h5z  (hb:b=false) (hkk:κ=3) (hen:en=false):Calls Tryz.prog 38 #[(⟨no,pc,⟨op,rd,rs1,rs2,imm⟩,guess,2,0,value,next,addr,0,took,true,filled⟩:En).val] w fun x w'=>x = .returned (.bool b)∧Bel w w':=by
 subst hb
 subst hkk
 subst hen
 exact b1n
theorem h6a  (hb:b=true) (hen:en=true):Calls Tryz.prog 38 #[(⟨no,pc,⟨op,rd,rs1,rs2,imm⟩,guess,3,0,value,next,addr,0,took,known,filled⟩:En).val] w fun x w'=>x = .returned (.bool b)∧Bel w w':=by
 subst hb
 subst hen
 exact b1n
theorem h6b  (hb:b=false) (hen:en=false):Calls Tryz.prog 38 #[(⟨no,pc,⟨op,rd,rs1,rs2,imm⟩,guess,3,0,value,next,addr,0,took,known,filled⟩:En).val] w fun x w'=>x = .returned (.bool b)∧Bel w w':=by
 subst hb
 subst hen
 exact b1n
theorem h6c (hh:¬ halt=0) (hb:b=true) (hen:en=true):Calls Tryz.prog 38 #[(⟨no,pc,⟨op,rd,rs1,rs2,imm⟩,guess,3,0,value,next,addr,halt,took,known,filled⟩:En).val] w fun x w'=>x = .returned (.bool b)∧Bel w w':=by
 subst hb
 subst hen
 exact c6f
theorem h6d  (hb:b=true) (hen:en=false):Calls Tryz.prog 38 #[(⟨no,pc,⟨op,rd,rs1,rs2,imm⟩,guess,3,0,value,next,addr,1,took,known,filled⟩:En).val] w fun x w'=>x = .returned (.bool b)∧Bel w w':=by
 subst hb
 subst hen
 exact b1n
theorem h6e  (hb:b=true) (hen:en=false):Calls Tryz.prog 38 #[(⟨no,pc,⟨op,rd,rs1,rs2,imm⟩,guess,3,0,value,next,addr,2,took,known,filled⟩:En).val] w fun x w'=>x = .returned (.bool b)∧Bel w w':=by
 subst hb
 subst hen
 exact b1n
theorem h6f (hh:¬ halt=0) (h1:¬ halt=1) (h2:¬ halt=2) (hb:b=false) (hen:en=false):Calls Tryz.prog 38 #[(⟨no,pc,⟨op,rd,rs1,rs2,imm⟩,guess,3,0,value,next,addr,halt,took,known,filled⟩:En).val] w fun x w'=>x = .returned (.bool b)∧Bel w w':=by
 subst hb
 subst hen
 have f2:(halt != 0)=true:=by simpa using hh
 have f3:(halt == 1)=false:=by simpa using h1
 have f4:(halt == 2)=false:=by simpa using h2
 replace f2:=Lib.hid f2;replace f3:=Lib.hid f3;replace f4:=Lib.hid f4
 unfold En.val Ins.val at *
 go_enter Tryz.func38,Tryz.ntmps38
 go_upto_region 1 with (((first|refine zrg ?_|(refine zst ?_;clear hF;(first|intro gN wN hF|intro wN hF|intro hF))|(refine zap ?_;clear hF;intro vN wN hF));(try simp only [zA,Nat.reduceAdd])))
 go_wp2_with ((try simp only [f2.out,f3.out,f4.out]);(try simp only [zA,Nat.reduceAdd]);(first|((refine g_skip rfl rfl rfl ?_);(try simp only [zA,Nat.reduceAdd]))|(go_at_call 39;refine zcg hF (HK.out _) ?_;clear hF;intro wN hF)|(go_at_call 89;refine (HE.out _ hF.rdA).mono ?_;rintro x wN ⟨ex,rfl,hb⟩;replace hF:=hF.grow hb;clear hb)|((refine w_ldp (v:=.agg #[.int .i64 op,.int .i64 rd,.int .i64 rs1,.int .i64 rs2,.int .u32 (imm:Int)]) (n:=5) rfl hF rfl ?_ (hn:=Nat.le_of_ble_eq_true rfl));(try simp only [zA,Nat.reduceAdd]))|((first|refine zrg ?_|(refine zst ?_;clear hF;(first|intro gN wN hF|intro wN hF|intro hF))|(refine zap ?_;clear hF;intro vN wN hF));(try simp only [zA,Nat.reduceAdd]))))
 go_ret
 exact ⟨by simp only [f4.out];rfl,hF.bel⟩
end
end
end Go.Proofs.YtgnomadgnciifaaGreatDoor
