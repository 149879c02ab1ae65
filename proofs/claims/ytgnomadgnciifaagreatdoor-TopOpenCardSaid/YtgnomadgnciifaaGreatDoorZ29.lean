/- . -/
import Derived.Test.YtgnomadgnciifaaGreatDoorZ10
set_option linter.unusedVariables false
set_option linter.unusedSimpArgs false
set_option linter.unusedSectionVars false
set_option maxRecDepth 100000
set_option maxHeartbeats 16000000
namespace Go.Proofs.YtgnomadgnciifaaGreatDoor
theorem d6z {p:Prop} (h:p:=by
 clear hwr
 go_enter Tryz.func14,Tryz.ntmps14
 go_upto_region 6 with (((first|refine zrd ?_|(refine zst ?_;clear hF;(first|intro gN wN hF|intro wN hF|intro hF))|(refine zap ?_;clear hF;intro vN wN hF));refine zs ?_))
 refine a1n (by kernel_rfl) hF _ _ (fun _ h=>h) (fun _ h=>h) ?_
 clear hF;intro hF hH
 refine zk1 0 hH ?_
 refine zk7 1 hH ?_
 refine zk1 2 hH ?_
 refine zk7 3 hH ?_
 first|(refine a1p (i:=4) rfl (b4o rfl rfl rfl) hH ?_;refine zs ?_)|(refine a1p (i:=4) rfl (b4p rfl rfl rfl) hH ?_;refine zs ?_)|refine zp 4 hH ?_
 refine zk1 5 hH ?_
 refine zk7 6 hH ?_
 refine wpAnyH_ready (rs:=[7,9]) (by kernel_rfl) (by simp) (a2d rfl (fun K hK=>?_) (a2d rfl (fun K hK=>?_) AllReadyH.nil))
 ·go_wp2_with ((refine c7n ?_;clear hF;intro wN hF))
  have hH:=hH.nextA hF;refine hK.out _ _ hH ?_;clear hK;refine zs ?_
  refine zp 8 hH ?_
  refine zry 9 (fun K hK=>?_)
  go_wp2_with ((refine w_alloc rfl hF ?_;clear hF;intro gN wN hF);refine zs ?_)
  have hH:=hH.nextA hF;refine hK.out _ _ hH ?_;clear hK;refine zs ?_
  refine zry 10 (fun K hK=>?_)
  go_wp2_with (refine zwr ?_;clear hF;intro wN hF;(try refine zs ?_))
  have hH:=hH.nextA hF;refine hK.out _ _ hH ?_;clear hK;refine zs ?_
  refine zrz ?_
  ((go_wp2_with ((first|(refine b7t ?_;clear hF;intro wN hF)|((refine w_ldp (v:=.agg #[.int .i64 op,.int .i64 rd,.int .i64 rs1,.int .i64 rs2,.int .u32 (imm:Int)]) (n:=5) rfl hF rfl ?_ (hn:=Nat.le_of_ble_eq_true rfl));(try refine zs ?_))|((first|refine zrd ?_|(refine zst ?_;clear hF;(first|intro gN wN hF|intro wN hF|intro hF))|(refine zap ?_;clear hF;intro vN wN hF));refine zs ?_))));((try simp only [Exit.inBlock,Exit.then]);refine bodyPost_ret (a2x rfl hF) rfl ?_);exact ⟨by first|rfl|rw [hw4],hF.bel⟩)
 ·go_wp2_with ((refine w_alloc rfl hF ?_;clear hF;intro gN wN hF);refine zs ?_)
  have hH:=hH.nextA hF;refine hK.out _ _ hH ?_;clear hK;refine zs ?_
  refine zry 7 (fun K hK=>?_)
  go_wp2_with ((refine c7n ?_;clear hF;intro wN hF))
  have hH:=hH.nextA hF;refine hK.out _ _ hH ?_;clear hK;refine zs ?_
  refine zp 8 hH ?_
  refine zry 10 (fun K hK=>?_)
  go_wp2_with (refine zwr ?_;clear hF;intro wN hF;(try refine zs ?_))
  have hH:=hH.nextA hF;refine hK.out _ _ hH ?_;clear hK;refine zs ?_
  refine zrz ?_
  ((go_wp2_with ((first|(refine b7t ?_;clear hF;intro wN hF)|((refine w_ldp (v:=.agg #[.int .i64 op,.int .i64 rd,.int .i64 rs1,.int .i64 rs2,.int .u32 (imm:Int)]) (n:=5) rfl hF rfl ?_ (hn:=Nat.le_of_ble_eq_true rfl));(try refine zs ?_))|((first|refine zrd ?_|(refine zst ?_;clear hF;(first|intro gN wN hF|intro wN hF|intro hF))|(refine zap ?_;clear hF;intro vN wN hF));refine zs ?_))));((try simp only [Exit.inBlock,Exit.then]);refine bodyPost_ret (a2x rfl hF) rfl ?_);exact ⟨by first|rfl|rw [hw4],hF.bel⟩)):p:=h
theorem b3r {p:Prop} (h:p:=by
 have hw4:IntKind.u32.wrap ((pc:Int)+4)=((a1k pc 4:Nat):Int):=by rw [IntKind.wrap_u32'];exact add4_c pc
 dsimp only at HK HZ
 rw [hk] at HK
 generalize a1k pc 4=p4 at *
 generalize a2p op=sz at *
 generalize a2b ⟨op,rd,rs1,rs2,imm⟩=ws at *
 unfold En.val Stp.val
 unfold Ins.val at *
 clear hk
 cases wr
 ·obtain rfl:ws=0:=by simpa using hwr
  exact d6z
 ·have hw0:¬ ws=0:=by simpa using hwr
  exact d6z):p:=h
theorem c5q {p:Prop} (h:p:=by
 go_enter Tryz.func14,Tryz.ntmps14
 (go_wp2_with ((first|(refine b7t ?_;clear hF;intro wN hF)|((refine w_ldp (v:=.agg #[.int .i64 op,.int .i64 rd,.int .i64 rs1,.int .i64 rs2,.int .u32 (imm:Int)]) (n:=5) rfl hF rfl ?_ (hn:=Nat.le_of_ble_eq_true rfl));(try refine zs ?_))|((first|refine zrd ?_|(refine zst ?_;clear hF;(first|intro gN wN hF|intro wN hF|intro hF))|(refine zap ?_;clear hF;intro vN wN hF));refine zs ?_))))
 ((try simp only [Exit.inBlock,Exit.then]);refine bodyPost_ret (a2x rfl hF) rfl ?_)
 exact ⟨rfl,hF.bel⟩):p:=h
section
open Go.RowKit Wd
section
variable (no:Int) (pc:Nat) (op rd rs1 rs2:Int) (imm:Nat) (guess:Nat) (is left:Int) (value next addr:Nat) (halt took:Int) (known filled:Bool)
theorem h3c (w:World) (h:¬ halt=0) :
  Calls Tryz.prog 14 #[(⟨no,pc,⟨op,rd,rs1,rs2,imm⟩,guess,is,left,value,next,addr,halt,took,known,filled⟩:En).val] w fun x w'=>x = .returned (a2j ⟨no,pc,⟨op,rd,rs1,rs2,imm⟩,guess,is,left,value,next,addr,halt,took,known,filled⟩).val∧Bel w w':=by
 have hF:=St.start w [] (fun d hd=>by cases hd)
 have hT:a2j ⟨no,pc,⟨op,rd,rs1,rs2,imm⟩,guess,is,left,value,next,addr,halt,took,known,filled⟩=⟨pc,pc,0,0,if halt=4∨halt=5 then addr else 0,0,false,halt,0⟩:=by simp [a2j,h]
 rw [hT]
 clear hT
 unfold En.val Stp.val
 dsimp only
 by_cases h4:halt=4
 ·subst h4
  exact c5q
 by_cases h5:halt=5
 ·subst h5
  exact c5q
 ·rw [if_neg (fun k=>k.elim h4 h5)]
  have b4:(halt == 4)=false:=by simpa using h4
  have b5:(halt == 5)=false:=by simpa using h5
  exact c5q
theorem b3s (wr:Bool) (ws:Int) (hws:a2b ⟨op,rd,rs1,rs2,imm⟩=ws) (hwr:(ws == 0) = !wr) (κ:Int) (hk:a1e op=κ) (n4:Nat) (hn:a1k pc 4=n4) (sz:Int) (hz:a2p op=sz) :
  a2j ⟨no,pc,⟨op,rd,rs1,rs2,imm⟩,guess,is,left,value,next,addr,0,took,known,filled⟩ =
   ⟨pc,if κ=5 then next else n4,ws,if κ=4 then value else if wr then value else 0,if κ=4∨κ=3 then addr else 0,if κ=4∨κ=3 then sz else 0,decide (κ=4),0,if κ=2 then took else 0⟩:=by
 subst hws hk hn hz
 have hw0:(a2b ⟨op,rd,rs1,rs2,imm⟩≠0)=(wr=true):=by
  cases wr
  ·have:a2b ⟨op,rd,rs1,rs2,imm⟩=0:=by simpa using hwr
   simp [this]
  ·have:¬ a2b ⟨op,rd,rs1,rs2,imm⟩=0:=by simpa using hwr
   simp [this]
 unfold a2j
 dsimp only
 rcases b6y op with hk|hk|hk|hk|hk|hk|hk <;> simp [hk,hw0]
theorem h3d (w:World) (hi:okI op) (hk:a1e op=0) (wr:Bool) (hwr:(a2b ⟨op,rd,rs1,rs2,imm⟩ == 0) = !wr) :
  Calls Tryz.prog 14 #[(⟨no,pc,⟨op,rd,rs1,rs2,imm⟩,guess,is,left,value,next,addr,0,took,known,filled⟩:En).val] w fun x w'=>x = .returned (a2j ⟨no,pc,⟨op,rd,rs1,rs2,imm⟩,guess,is,left,value,next,addr,0,took,known,filled⟩).val∧Bel w w':=by
 have hF:=St.start w [] (fun d hd=>by cases hd)
 have HK:=Lib.hid (fun W=>a2o ⟨op,rd,rs1,rs2,imm⟩ W hi)
 have HW:=Lib.hid (fun W=>a7c ⟨op,rd,rs1,rs2,imm⟩ W)
 have HZ:=Lib.hid (fun W=>a7s ⟨op,rd,rs1,rs2,imm⟩ W)
 rw [b3s no pc op rd rs1 rs2 imm guess is left value next addr took known filled wr _ rfl hwr 0 hk _ rfl _ rfl]
 exact b3r
theorem h3e (w:World) (hi:okI op) (hk:a1e op=1) (wr:Bool) (hwr:(a2b ⟨op,rd,rs1,rs2,imm⟩ == 0) = !wr) :
  Calls Tryz.prog 14 #[(⟨no,pc,⟨op,rd,rs1,rs2,imm⟩,guess,is,left,value,next,addr,0,took,known,filled⟩:En).val] w fun x w'=>x = .returned (a2j ⟨no,pc,⟨op,rd,rs1,rs2,imm⟩,guess,is,left,value,next,addr,0,took,known,filled⟩).val∧Bel w w':=by
 have hF:=St.start w [] (fun d hd=>by cases hd)
 have HK:=Lib.hid (fun W=>a2o ⟨op,rd,rs1,rs2,imm⟩ W hi)
 have HW:=Lib.hid (fun W=>a7c ⟨op,rd,rs1,rs2,imm⟩ W)
 have HZ:=Lib.hid (fun W=>a7s ⟨op,rd,rs1,rs2,imm⟩ W)
 rw [b3s no pc op rd rs1 rs2 imm guess is left value next addr took known filled wr _ rfl hwr 1 hk _ rfl _ rfl]
 exact b3r
theorem h3f (w:World) (hi:okI op) (hk:a1e op=2) (wr:Bool) (hwr:(a2b ⟨op,rd,rs1,rs2,imm⟩ == 0) = !wr) :
  Calls Tryz.prog 14 #[(⟨no,pc,⟨op,rd,rs1,rs2,imm⟩,guess,is,left,value,next,addr,0,took,known,filled⟩:En).val] w fun x w'=>x = .returned (a2j ⟨no,pc,⟨op,rd,rs1,rs2,imm⟩,guess,is,left,value,next,addr,0,took,known,filled⟩).val∧Bel w w':=by
 have hF:=St.start w [] (fun d hd=>by cases hd)
 have HK:=Lib.hid (fun W=>a2o ⟨op,rd,rs1,rs2,imm⟩ W hi)
 have HW:=Lib.hid (fun W=>a7c ⟨op,rd,rs1,rs2,imm⟩ W)
 have HZ:=Lib.hid (fun W=>a7s ⟨op,rd,rs1,rs2,imm⟩ W)
 rw [b3s no pc op rd rs1 rs2 imm guess is left value next addr took known filled wr _ rfl hwr 2 hk _ rfl _ rfl]
 exact b3r
theorem h3g (w:World) (hi:okI op) (hk:a1e op=3) (wr:Bool) (hwr:(a2b ⟨op,rd,rs1,rs2,imm⟩ == 0) = !wr) :
  Calls Tryz.prog 14 #[(⟨no,pc,⟨op,rd,rs1,rs2,imm⟩,guess,is,left,value,next,addr,0,took,known,filled⟩:En).val] w fun x w'=>x = .returned (a2j ⟨no,pc,⟨op,rd,rs1,rs2,imm⟩,guess,is,left,value,next,addr,0,took,known,filled⟩).val∧Bel w w':=by
 have hF:=St.start w [] (fun d hd=>by cases hd)
 have HK:=Lib.hid (fun W=>a2o ⟨op,rd,rs1,rs2,imm⟩ W hi)
 have HW:=Lib.hid (fun W=>a7c ⟨op,rd,rs1,rs2,imm⟩ W)
 have HZ:=Lib.hid (fun W=>a7s ⟨op,rd,rs1,rs2,imm⟩ W)
 rw [b3s no pc op rd rs1 rs2 imm guess is left value next addr took known filled wr _ rfl hwr 3 hk _ rfl _ rfl]
 exact b3r
theorem h3h (w:World) (hi:okI op) (hk:a1e op=4) (wr:Bool) (hwr:(a2b ⟨op,rd,rs1,rs2,imm⟩ == 0) = !wr) :
  Calls Tryz.prog 14 #[(⟨no,pc,⟨op,rd,rs1,rs2,imm⟩,guess,is,left,value,next,addr,0,took,known,filled⟩:En).val] w fun x w'=>x = .returned (a2j ⟨no,pc,⟨op,rd,rs1,rs2,imm⟩,guess,is,left,value,next,addr,0,took,known,filled⟩).val∧Bel w w':=by
 have hF:=St.start w [] (fun d hd=>by cases hd)
 have HK:=Lib.hid (fun W=>a2o ⟨op,rd,rs1,rs2,imm⟩ W hi)
 have HW:=Lib.hid (fun W=>a7c ⟨op,rd,rs1,rs2,imm⟩ W)
 have HZ:=Lib.hid (fun W=>a7s ⟨op,rd,rs1,rs2,imm⟩ W)
 rw [b3s no pc op rd rs1 rs2 imm guess is left value next addr took known filled wr _ rfl hwr 4 hk _ rfl _ rfl]
 exact b3r
theorem h3i (w:World) (hi:okI op) (hk:a1e op=5) (wr:Bool) (hwr:(a2b ⟨op,rd,rs1,rs2,imm⟩ == 0) = !wr) :
  Calls Tryz.prog 14 #[(⟨no,pc,⟨op,rd,rs1,rs2,imm⟩,guess,is,left,value,next,addr,0,took,known,filled⟩:En).val] w fun x w'=>x = .returned (a2j ⟨no,pc,⟨op,rd,rs1,rs2,imm⟩,guess,is,left,value,next,addr,0,took,known,filled⟩).val∧Bel w w':=by
 have hF:=St.start w [] (fun d hd=>by cases hd)
 have HK:=Lib.hid (fun W=>a2o ⟨op,rd,rs1,rs2,imm⟩ W hi)
 have HW:=Lib.hid (fun W=>a7c ⟨op,rd,rs1,rs2,imm⟩ W)
 have HZ:=Lib.hid (fun W=>a7s ⟨op,rd,rs1,rs2,imm⟩ W)
 rw [b3s no pc op rd rs1 rs2 imm guess is left value next addr took known filled wr _ rfl hwr 5 hk _ rfl _ rfl]
 exact b3r
theorem h3j (w:World) (hi:okI op) (hk:a1e op=6) (wr:Bool) (hwr:(a2b ⟨op,rd,rs1,rs2,imm⟩ == 0) = !wr) :
  Calls Tryz.prog 14 #[(⟨no,pc,⟨op,rd,rs1,rs2,imm⟩,guess,is,left,value,next,addr,0,took,known,filled⟩:En).val] w fun x w'=>x = .returned (a2j ⟨no,pc,⟨op,rd,rs1,rs2,imm⟩,guess,is,left,value,next,addr,0,took,known,filled⟩).val∧Bel w w':=by
 have hF:=St.start w [] (fun d hd=>by cases hd)
 have HK:=Lib.hid (fun W=>a2o ⟨op,rd,rs1,rs2,imm⟩ W hi)
 have HW:=Lib.hid (fun W=>a7c ⟨op,rd,rs1,rs2,imm⟩ W)
 have HZ:=Lib.hid (fun W=>a7s ⟨op,rd,rs1,rs2,imm⟩ W)
 rw [b3s no pc op rd rs1 rs2 imm guess is left value next addr took known filled wr _ rfl hwr 6 hk _ rfl _ rfl]
 exact b3r
end
end
end Go.Proofs.YtgnomadgnciifaaGreatDoor
