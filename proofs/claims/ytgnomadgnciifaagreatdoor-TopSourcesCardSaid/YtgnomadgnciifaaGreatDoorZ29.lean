/- Joined: Exec3. -/
import Derived.Test.YtgnomadgnciifaaGreatDoorZH0
import Derived.Test.YtgnomadgnciifaaGreatDoorZ10
import Derived.Test.YtgnomadgnciifaaGreatDoorZ1
import Derived.Test.YtgnomadgnciifaaGreatDoorZ3
import Derived.Deep.DeepCutAuto
import Derived.Laws.BitsAllLaws
set_option linter.unusedVariables false
set_option linter.unusedSimpArgs false
set_option linter.unusedSectionVars false
set_option maxRecDepth 100000
set_option maxHeartbeats 16000000
namespace Go.Proofs.YtgnomadgnciifaaGreatDoor
theorem z29x0 {p:Prop} (h:p:=by
 clear hwr
 go_enter Tryz.func14,Tryz.ntmps14
 go_upto_region 6 with (((first|refine zrd ?_|(refine zst ?_;clear hF;(first|intro gN wN hF|intro wN hF|intro hF))|(refine zap ?_;clear hF;intro vN wN hF));(try simp only [zA,Nat.reduceAdd])))
 refine wp_region_st (by kernel_rfl) hF _ _ (fun _ h=>h) (fun _ h=>h) ?_
 clear hF;intro hF hH
 refine zk1 0 hH ?_
 refine zk7 1 hH ?_
 refine zk1 2 hH ?_
 refine zk7 3 hH ?_
 first|(refine w_take (i:=4) rfl (y_stradd rfl rfl rfl) hH ?_;(try simp only [zA,Nat.reduceAdd]))|(refine w_take (i:=4) rfl (y_addi rfl rfl rfl) hH ?_;(try simp only [zA,Nat.reduceAdd]))|refine zp 4 hH ?_
 refine zk1 5 hH ?_
 refine zk7 6 hH ?_
 refine wpAnyH_ready (rs:=[7,9]) (by kernel_rfl) (by simp) (ready_cons rfl (fun K hK=>?_) (ready_cons rfl (fun K hK=>?_) AllReadyH.nil))
 ·go_wp2_with ((refine zg104 ?_;clear hF;intro wN hF))
  have hH:=hH.nextA hF;refine hK.out _ _ hH ?_;clear hK;(try simp only [zA,Nat.reduceAdd])
  refine zp 8 hH ?_
  refine zry 9 (fun K hK=>?_)
  go_wp2_with ((refine w_alloc rfl hF ?_;clear hF;intro gN wN hF);(try simp only [zA,Nat.reduceAdd]))
  have hH:=hH.nextA hF;refine hK.out _ _ hH ?_;clear hK;(try simp only [zA,Nat.reduceAdd])
  refine zry 10 (fun K hK=>?_)
  go_wp2_with (refine zwr ?_;clear hF;intro wN hF;(try simp only [zA,Nat.reduceAdd]))
  have hH:=hH.nextA hF;refine hK.out _ _ hH ?_;clear hK;(try simp only [zA,Nat.reduceAdd])
  refine zrz ?_
  ((go_wp2_with ((first|(refine zg46 ?_;clear hF;intro wN hF)|((refine w_ldp (v:=.agg #[.int .i64 op,.int .i64 rd,.int .i64 rs1,.int .i64 rs2,.int .u32 (imm:Int)]) (n:=5) rfl hF rfl ?_ (hn:=Nat.le_of_ble_eq_true rfl));(try simp only [zA,Nat.reduceAdd]))|((first|refine zrd ?_|(refine zst ?_;clear hF;(first|intro gN wN hF|intro wN hF|intro hF))|(refine zap ?_;clear hF;intro vN wN hF));(try simp only [zA,Nat.reduceAdd])))));((try simp only [Exit.inBlock,Exit.then]);refine bodyPost_ret (w_resc rfl hF) rfl ?_);exact ⟨by first|rfl|rw [hw4],hF.bel⟩)
 ·go_wp2_with ((refine w_alloc rfl hF ?_;clear hF;intro gN wN hF);(try simp only [zA,Nat.reduceAdd]))
  have hH:=hH.nextA hF;refine hK.out _ _ hH ?_;clear hK;(try simp only [zA,Nat.reduceAdd])
  refine zry 7 (fun K hK=>?_)
  go_wp2_with ((refine zg104 ?_;clear hF;intro wN hF))
  have hH:=hH.nextA hF;refine hK.out _ _ hH ?_;clear hK;(try simp only [zA,Nat.reduceAdd])
  refine zp 8 hH ?_
  refine zry 10 (fun K hK=>?_)
  go_wp2_with (refine zwr ?_;clear hF;intro wN hF;(try simp only [zA,Nat.reduceAdd]))
  have hH:=hH.nextA hF;refine hK.out _ _ hH ?_;clear hK;(try simp only [zA,Nat.reduceAdd])
  refine zrz ?_
  ((go_wp2_with ((first|(refine zg46 ?_;clear hF;intro wN hF)|((refine w_ldp (v:=.agg #[.int .i64 op,.int .i64 rd,.int .i64 rs1,.int .i64 rs2,.int .u32 (imm:Int)]) (n:=5) rfl hF rfl ?_ (hn:=Nat.le_of_ble_eq_true rfl));(try simp only [zA,Nat.reduceAdd]))|((first|refine zrd ?_|(refine zst ?_;clear hF;(first|intro gN wN hF|intro wN hF|intro hF))|(refine zap ?_;clear hF;intro vN wN hF));(try simp only [zA,Nat.reduceAdd])))));((try simp only [Exit.inBlock,Exit.then]);refine bodyPost_ret (w_resc rfl hF) rfl ?_);exact ⟨by first|rfl|rw [hw4],hF.bel⟩)):p:=h
theorem z29x1 {p:Prop} (h:p:=by
 have hw4:IntKind.u32.wrap ((pc:Int)+4)=((add32 pc 4:Nat):Int):=by rw [IntKind.wrap_u32'];exact add4_c pc
 dsimp only at HK HZ
 rw [hk] at HK
 generalize add32 pc 4=p4 at *
 generalize sizeI op=sz at *
 generalize writesI ⟨op,rd,rs1,rs2,imm⟩=ws at *
 unfold En.val Stp.val
 unfold Ins.val at *
 clear hk
 cases wr
 ·obtain rfl:ws=0:=by simpa using hwr
  exact z29x0
 ·have hw0:¬ ws=0:=by simpa using hwr
  exact z29x0):p:=h
theorem z29x2 {p:Prop} (h:p:=by
 go_enter Tryz.func14,Tryz.ntmps14
 (go_wp2_with ((first|(refine zg46 ?_;clear hF;intro wN hF)|((refine w_ldp (v:=.agg #[.int .i64 op,.int .i64 rd,.int .i64 rs1,.int .i64 rs2,.int .u32 (imm:Int)]) (n:=5) rfl hF rfl ?_ (hn:=Nat.le_of_ble_eq_true rfl));(try simp only [zA,Nat.reduceAdd]))|((first|refine zrd ?_|(refine zst ?_;clear hF;(first|intro gN wN hF|intro wN hF|intro hF))|(refine zap ?_;clear hF;intro vN wN hF));(try simp only [zA,Nat.reduceAdd])))))
 ((try simp only [Exit.inBlock,Exit.then]);refine bodyPost_ret (w_resc rfl hF) rfl ?_)
 exact ⟨rfl,hF.bel⟩):p:=h
section
open Go.RowKit Wd
section
variable (no:Int) (pc:Nat) (op rd rs1 rs2:Int) (imm:Nat) (guess:Nat) (is left:Int) (value next addr:Nat) (halt took:Int) (known filled:Bool)
theorem told_halt (w:World) (h:¬ halt=0) :
  Calls Tryz.prog 14 #[(⟨no,pc,⟨op,rd,rs1,rs2,imm⟩,guess,is,left,value,next,addr,halt,took,known,filled⟩:En).val] w fun x w'=>x = .returned (toldE ⟨no,pc,⟨op,rd,rs1,rs2,imm⟩,guess,is,left,value,next,addr,halt,took,known,filled⟩).val∧Bel w w':=by
 have hF:=St.start w [] (fun d hd=>by cases hd)
 have hT:toldE ⟨no,pc,⟨op,rd,rs1,rs2,imm⟩,guess,is,left,value,next,addr,halt,took,known,filled⟩=⟨pc,pc,0,0,if halt=4∨halt=5 then addr else 0,0,false,halt,0⟩:=by simp [toldE,h]
 rw [hT]
 clear hT
 unfold En.val Stp.val
 dsimp only
 by_cases h4:halt=4
 ·subst h4
  exact z29x2
 by_cases h5:halt=5
 ·subst h5
  exact z29x2
 ·rw [if_neg (fun k=>k.elim h4 h5)]
  have b4:(halt == 4)=false:=by simpa using h4
  have b5:(halt == 5)=false:=by simpa using h5
  exact z29x2
theorem toldE_eq (wr:Bool) (ws:Int) (hws:writesI ⟨op,rd,rs1,rs2,imm⟩=ws) (hwr:(ws == 0) = !wr) (κ:Int) (hk:kindI op=κ) (n4:Nat) (hn:add32 pc 4=n4) (sz:Int) (hz:sizeI op=sz) :
  toldE ⟨no,pc,⟨op,rd,rs1,rs2,imm⟩,guess,is,left,value,next,addr,0,took,known,filled⟩ =
   ⟨pc,if κ=5 then next else n4,ws,if κ=4 then value else if wr then value else 0,if κ=4∨κ=3 then addr else 0,if κ=4∨κ=3 then sz else 0,decide (κ=4),0,if κ=2 then took else 0⟩:=by
 subst hws hk hn hz
 have hw0:(writesI ⟨op,rd,rs1,rs2,imm⟩≠0)=(wr=true):=by
  cases wr
  ·have:writesI ⟨op,rd,rs1,rs2,imm⟩=0:=by simpa using hwr
   simp [this]
  ·have:¬ writesI ⟨op,rd,rs1,rs2,imm⟩=0:=by simpa using hwr
   simp [this]
 unfold toldE
 dsimp only
 rcases kind_seven op with hk|hk|hk|hk|hk|hk|hk <;> simp [hk,hw0]
theorem told_0 (w:World) (hi:okI op) (hk:kindI op=0) (wr:Bool) (hwr:(writesI ⟨op,rd,rs1,rs2,imm⟩ == 0) = !wr) :
  Calls Tryz.prog 14 #[(⟨no,pc,⟨op,rd,rs1,rs2,imm⟩,guess,is,left,value,next,addr,0,took,known,filled⟩:En).val] w fun x w'=>x = .returned (toldE ⟨no,pc,⟨op,rd,rs1,rs2,imm⟩,guess,is,left,value,next,addr,0,took,known,filled⟩).val∧Bel w w':=by
 have hF:=St.start w [] (fun d hd=>by cases hd)
 have HK:=Lib.hid (fun W=>Kind_any ⟨op,rd,rs1,rs2,imm⟩ W hi)
 have HW:=Lib.hid (fun W=>Writes_any ⟨op,rd,rs1,rs2,imm⟩ W)
 have HZ:=Lib.hid (fun W=>instSize_any ⟨op,rd,rs1,rs2,imm⟩ W)
 rw [toldE_eq no pc op rd rs1 rs2 imm guess is left value next addr took known filled wr _ rfl hwr 0 hk _ rfl _ rfl]
 exact z29x1
theorem told_1 (w:World) (hi:okI op) (hk:kindI op=1) (wr:Bool) (hwr:(writesI ⟨op,rd,rs1,rs2,imm⟩ == 0) = !wr) :
  Calls Tryz.prog 14 #[(⟨no,pc,⟨op,rd,rs1,rs2,imm⟩,guess,is,left,value,next,addr,0,took,known,filled⟩:En).val] w fun x w'=>x = .returned (toldE ⟨no,pc,⟨op,rd,rs1,rs2,imm⟩,guess,is,left,value,next,addr,0,took,known,filled⟩).val∧Bel w w':=by
 have hF:=St.start w [] (fun d hd=>by cases hd)
 have HK:=Lib.hid (fun W=>Kind_any ⟨op,rd,rs1,rs2,imm⟩ W hi)
 have HW:=Lib.hid (fun W=>Writes_any ⟨op,rd,rs1,rs2,imm⟩ W)
 have HZ:=Lib.hid (fun W=>instSize_any ⟨op,rd,rs1,rs2,imm⟩ W)
 rw [toldE_eq no pc op rd rs1 rs2 imm guess is left value next addr took known filled wr _ rfl hwr 1 hk _ rfl _ rfl]
 exact z29x1
theorem told_2 (w:World) (hi:okI op) (hk:kindI op=2) (wr:Bool) (hwr:(writesI ⟨op,rd,rs1,rs2,imm⟩ == 0) = !wr) :
  Calls Tryz.prog 14 #[(⟨no,pc,⟨op,rd,rs1,rs2,imm⟩,guess,is,left,value,next,addr,0,took,known,filled⟩:En).val] w fun x w'=>x = .returned (toldE ⟨no,pc,⟨op,rd,rs1,rs2,imm⟩,guess,is,left,value,next,addr,0,took,known,filled⟩).val∧Bel w w':=by
 have hF:=St.start w [] (fun d hd=>by cases hd)
 have HK:=Lib.hid (fun W=>Kind_any ⟨op,rd,rs1,rs2,imm⟩ W hi)
 have HW:=Lib.hid (fun W=>Writes_any ⟨op,rd,rs1,rs2,imm⟩ W)
 have HZ:=Lib.hid (fun W=>instSize_any ⟨op,rd,rs1,rs2,imm⟩ W)
 rw [toldE_eq no pc op rd rs1 rs2 imm guess is left value next addr took known filled wr _ rfl hwr 2 hk _ rfl _ rfl]
 exact z29x1
theorem told_3 (w:World) (hi:okI op) (hk:kindI op=3) (wr:Bool) (hwr:(writesI ⟨op,rd,rs1,rs2,imm⟩ == 0) = !wr) :
  Calls Tryz.prog 14 #[(⟨no,pc,⟨op,rd,rs1,rs2,imm⟩,guess,is,left,value,next,addr,0,took,known,filled⟩:En).val] w fun x w'=>x = .returned (toldE ⟨no,pc,⟨op,rd,rs1,rs2,imm⟩,guess,is,left,value,next,addr,0,took,known,filled⟩).val∧Bel w w':=by
 have hF:=St.start w [] (fun d hd=>by cases hd)
 have HK:=Lib.hid (fun W=>Kind_any ⟨op,rd,rs1,rs2,imm⟩ W hi)
 have HW:=Lib.hid (fun W=>Writes_any ⟨op,rd,rs1,rs2,imm⟩ W)
 have HZ:=Lib.hid (fun W=>instSize_any ⟨op,rd,rs1,rs2,imm⟩ W)
 rw [toldE_eq no pc op rd rs1 rs2 imm guess is left value next addr took known filled wr _ rfl hwr 3 hk _ rfl _ rfl]
 exact z29x1
theorem told_4 (w:World) (hi:okI op) (hk:kindI op=4) (wr:Bool) (hwr:(writesI ⟨op,rd,rs1,rs2,imm⟩ == 0) = !wr) :
  Calls Tryz.prog 14 #[(⟨no,pc,⟨op,rd,rs1,rs2,imm⟩,guess,is,left,value,next,addr,0,took,known,filled⟩:En).val] w fun x w'=>x = .returned (toldE ⟨no,pc,⟨op,rd,rs1,rs2,imm⟩,guess,is,left,value,next,addr,0,took,known,filled⟩).val∧Bel w w':=by
 have hF:=St.start w [] (fun d hd=>by cases hd)
 have HK:=Lib.hid (fun W=>Kind_any ⟨op,rd,rs1,rs2,imm⟩ W hi)
 have HW:=Lib.hid (fun W=>Writes_any ⟨op,rd,rs1,rs2,imm⟩ W)
 have HZ:=Lib.hid (fun W=>instSize_any ⟨op,rd,rs1,rs2,imm⟩ W)
 rw [toldE_eq no pc op rd rs1 rs2 imm guess is left value next addr took known filled wr _ rfl hwr 4 hk _ rfl _ rfl]
 exact z29x1
theorem told_5 (w:World) (hi:okI op) (hk:kindI op=5) (wr:Bool) (hwr:(writesI ⟨op,rd,rs1,rs2,imm⟩ == 0) = !wr) :
  Calls Tryz.prog 14 #[(⟨no,pc,⟨op,rd,rs1,rs2,imm⟩,guess,is,left,value,next,addr,0,took,known,filled⟩:En).val] w fun x w'=>x = .returned (toldE ⟨no,pc,⟨op,rd,rs1,rs2,imm⟩,guess,is,left,value,next,addr,0,took,known,filled⟩).val∧Bel w w':=by
 have hF:=St.start w [] (fun d hd=>by cases hd)
 have HK:=Lib.hid (fun W=>Kind_any ⟨op,rd,rs1,rs2,imm⟩ W hi)
 have HW:=Lib.hid (fun W=>Writes_any ⟨op,rd,rs1,rs2,imm⟩ W)
 have HZ:=Lib.hid (fun W=>instSize_any ⟨op,rd,rs1,rs2,imm⟩ W)
 rw [toldE_eq no pc op rd rs1 rs2 imm guess is left value next addr took known filled wr _ rfl hwr 5 hk _ rfl _ rfl]
 exact z29x1
theorem told_6 (w:World) (hi:okI op) (hk:kindI op=6) (wr:Bool) (hwr:(writesI ⟨op,rd,rs1,rs2,imm⟩ == 0) = !wr) :
  Calls Tryz.prog 14 #[(⟨no,pc,⟨op,rd,rs1,rs2,imm⟩,guess,is,left,value,next,addr,0,took,known,filled⟩:En).val] w fun x w'=>x = .returned (toldE ⟨no,pc,⟨op,rd,rs1,rs2,imm⟩,guess,is,left,value,next,addr,0,took,known,filled⟩).val∧Bel w w':=by
 have hF:=St.start w [] (fun d hd=>by cases hd)
 have HK:=Lib.hid (fun W=>Kind_any ⟨op,rd,rs1,rs2,imm⟩ W hi)
 have HW:=Lib.hid (fun W=>Writes_any ⟨op,rd,rs1,rs2,imm⟩ W)
 have HZ:=Lib.hid (fun W=>instSize_any ⟨op,rd,rs1,rs2,imm⟩ W)
 rw [toldE_eq no pc op rd rs1 rs2 imm guess is left value next addr took known filled wr _ rfl hwr 6 hk _ rfl _ rfl]
 exact z29x1
end
end
end Go.Proofs.YtgnomadgnciifaaGreatDoor
