/- . -/
import Derived.Test.YtgnomadgnciifaaGreatDoorZ10
set_option linter.unusedVariables false
set_option linter.unusedSimpArgs false
set_option linter.unusedSectionVars false
set_option maxRecDepth 100000
set_option maxHeartbeats 16000000
namespace Go.Proofs.YtgnomadgnciifaaGreatDoor
theorem c1q {p:Prop} (h:p:=by
 (go_wp2_with ((first|(refine c7x ?_;clear hF;intro wN hF)|(go_at_call 181;refine (HT.out _).mono ?_;rintro x wN ⟨rfl,rfl⟩)|((refine w_ldp (v:=.agg #[.int .i64 op,.int .i64 rd,.int .i64 rs1,.int .i64 rs2,.int .u32 (imm:Int)]) (n:=5) rfl hF rfl ?_ (hn:=Nat.le_of_ble_eq_true rfl));(try refine zs ?_))|((first|refine zrd ?_|(refine zst ?_;clear hF;(first|intro gN wN hF|intro wN hF|intro hF))|(refine zap ?_;clear hF;intro vN wN hF));refine zs ?_))))
 ((try simp only [Exit.inBlock,Exit.then]);refine bodyPost_ret (a2x rfl hF) rfl ?_)
 exact ⟨by first|rfl|rw [← h4],hF.bel⟩):p:=h
theorem c1r {p:Prop} (h:p:=by
 rw [hS]
 have h4:=add4_c pc
 dsimp only at HK
 rw [hk] at HK
 generalize a1k pc 4=p4 at *
 generalize a7n ⟨op,rd,rs1,rs2,imm⟩ pc a b=v at *
 generalize a4i op a b=tk at *
 generalize a2b ⟨op,rd,rs1,rs2,imm⟩=ws at *
 unfold En.val
 unfold Ins.val at *
 clear hS hk
 cases wr
 ·obtain rfl:ws=0:=by simpa using hwr
  clear hwr
  go_enter Tryz.func137,Tryz.ntmps137
  exact c1q
 ·have hw0:¬ ws=0:=by simpa using hwr
  clear hwr
  go_enter Tryz.func137,Tryz.ntmps137
  exact c1q):p:=h
theorem d6m {p:Prop} (h:p:=by
 (go_wp2_with ((first|(refine c7x ?_;clear hF;intro wN hF)|(go_at_call 181;refine (HT.out _).mono ?_;rintro x wN ⟨rfl,rfl⟩)|((refine w_ldp (v:=.agg #[.int .i64 op,.int .i64 rd,.int .i64 rs1,.int .i64 rs2,.int .u32 (imm:Int)]) (n:=5) rfl hF rfl ?_ (hn:=Nat.le_of_ble_eq_true rfl));(try refine zs ?_))|((first|refine zrd ?_|(refine zst ?_;clear hF;(first|intro gN wN hF|intro wN hF|intro hF))|(refine zap ?_;clear hF;intro vN wN hF));refine zs ?_))))
 ((try simp only [Exit.inBlock,Exit.then]);refine bodyPost_ret (a2x rfl hF) rfl ?_)
 exact ⟨rfl,hF.bel⟩):p:=h
theorem c1s {p:Prop} (h:p:=by
 cases wr
 ·have hw0:a2b ⟨op,rd,rs1,rs2,imm⟩=0:=by simpa using hwr
  simp [a3l,hk,hw0]
 ·have hw0:¬ a2b ⟨op,rd,rs1,rs2,imm⟩=0:=by simpa using hwr
  simp [a3l,hk,hw0]):p:=h
section
open Go.RowKit Wd
section
variable (no:Int) (pc:Nat) (op rd rs1 rs2:Int) (imm:Nat) (guess:Nat) (is left:Int) (value next addr:Nat) (halt took:Int) (known filled:Bool)
theorem g9x (a b:Nat) (w:World) (hi:okI op) (h:¬ is=0∨a1e op=3∨a1e op=4) :
  Calls Tryz.prog 137 #[(⟨no,pc,⟨op,rd,rs1,rs2,imm⟩,guess,is,left,value,next,addr,halt,took,known,filled⟩:En).val,.int .u32 (a:Int),.int .u32 (b:Int)] w fun x w'=>x = .returned (⟨no,pc,⟨op,rd,rs1,rs2,imm⟩,guess,is,left,value,next,addr,halt,took,known,filled⟩:En).val∧Bel w w':=by
 have hF:=St.start w [] (fun d hd=>by cases hd)
 have HK:=Lib.hid (fun W=>a2o ⟨op,rd,rs1,rs2,imm⟩ W hi)
 dsimp only at HK
 unfold En.val
 generalize a1e op=κ at *
 by_cases h1:is=0
 ·subst h1
  replace h:κ=3∨κ=4:=h.resolve_left (fun h=>h rfl)
  rcases h with rfl|rfl
  all_goals
   go_enter Tryz.func137,Tryz.ntmps137
   exact d6m
 ·clear h
  go_enter Tryz.func137,Tryz.ntmps137
  exact d6m
theorem g9y (a b:Nat) (w:World) (hi:okI op) (him:imm<4294967296) (ha:a<4294967296) (hb:b<4294967296) (hk:a1e op=0) (wr:Bool) (hwr:(a2b ⟨op,rd,rs1,rs2,imm⟩ == 0) = !wr) :
  Calls Tryz.prog 137 #[(⟨no,pc,⟨op,rd,rs1,rs2,imm⟩,guess,0,left,value,next,addr,halt,took,known,filled⟩:En).val,.int .u32 (a:Int),.int .u32 (b:Int)] w fun x w'=>x = .returned (a3l ⟨no,pc,⟨op,rd,rs1,rs2,imm⟩,guess,0,left,value,next,addr,halt,took,known,filled⟩ a b).val∧Bel w w':=by
 have hF:=St.start w [] (fun d hd=>by cases hd)
 have HK:=Lib.hid (fun W=>a2o ⟨op,rd,rs1,rs2,imm⟩ W hi)
 have HW:=Lib.hid (fun W=>a7c ⟨op,rd,rs1,rs2,imm⟩ W)
 have HV:=Lib.hid (fun W=>b7j ⟨op,rd,rs1,rs2,imm⟩ pc a b W hi him ha hb)
 have HT:=Lib.hid (fun W=>c1f op a b W ha hb)
 have hS:a3l ⟨no,pc,⟨op,rd,rs1,rs2,imm⟩,guess,0,left,value,next,addr,halt,took,known,filled⟩ a b=⟨no,pc,⟨op,rd,rs1,rs2,imm⟩,guess,1,if (0:Int)=1 then 3 else if (0:Int)=2 then a4i op a b else 1,if wr then a7n ⟨op,rd,rs1,rs2,imm⟩ pc a b else 0,a1k pc 4,addr,halt,if (0:Int)=2 then a4i op a b else took,known,filled⟩:=by
  exact c1s
 exact c1r
theorem g9z (a b:Nat) (w:World) (hi:okI op) (him:imm<4294967296) (ha:a<4294967296) (hb:b<4294967296) (hk:a1e op=1) (wr:Bool) (hwr:(a2b ⟨op,rd,rs1,rs2,imm⟩ == 0) = !wr) :
  Calls Tryz.prog 137 #[(⟨no,pc,⟨op,rd,rs1,rs2,imm⟩,guess,0,left,value,next,addr,halt,took,known,filled⟩:En).val,.int .u32 (a:Int),.int .u32 (b:Int)] w fun x w'=>x = .returned (a3l ⟨no,pc,⟨op,rd,rs1,rs2,imm⟩,guess,0,left,value,next,addr,halt,took,known,filled⟩ a b).val∧Bel w w':=by
 have hF:=St.start w [] (fun d hd=>by cases hd)
 have HK:=Lib.hid (fun W=>a2o ⟨op,rd,rs1,rs2,imm⟩ W hi)
 have HW:=Lib.hid (fun W=>a7c ⟨op,rd,rs1,rs2,imm⟩ W)
 have HV:=Lib.hid (fun W=>b7j ⟨op,rd,rs1,rs2,imm⟩ pc a b W hi him ha hb)
 have HT:=Lib.hid (fun W=>c1f op a b W ha hb)
 have hS:a3l ⟨no,pc,⟨op,rd,rs1,rs2,imm⟩,guess,0,left,value,next,addr,halt,took,known,filled⟩ a b=⟨no,pc,⟨op,rd,rs1,rs2,imm⟩,guess,1,if (1:Int)=1 then 3 else if (1:Int)=2 then a4i op a b else 1,if wr then a7n ⟨op,rd,rs1,rs2,imm⟩ pc a b else 0,a1k pc 4,addr,halt,if (1:Int)=2 then a4i op a b else took,known,filled⟩:=by
  exact c1s
 exact c1r
theorem h1a (a b:Nat) (w:World) (hi:okI op) (him:imm<4294967296) (ha:a<4294967296) (hb:b<4294967296) (hk:a1e op=2) (wr:Bool) (hwr:(a2b ⟨op,rd,rs1,rs2,imm⟩ == 0) = !wr) :
  Calls Tryz.prog 137 #[(⟨no,pc,⟨op,rd,rs1,rs2,imm⟩,guess,0,left,value,next,addr,halt,took,known,filled⟩:En).val,.int .u32 (a:Int),.int .u32 (b:Int)] w fun x w'=>x = .returned (a3l ⟨no,pc,⟨op,rd,rs1,rs2,imm⟩,guess,0,left,value,next,addr,halt,took,known,filled⟩ a b).val∧Bel w w':=by
 have hF:=St.start w [] (fun d hd=>by cases hd)
 have HK:=Lib.hid (fun W=>a2o ⟨op,rd,rs1,rs2,imm⟩ W hi)
 have HW:=Lib.hid (fun W=>a7c ⟨op,rd,rs1,rs2,imm⟩ W)
 have HV:=Lib.hid (fun W=>b7j ⟨op,rd,rs1,rs2,imm⟩ pc a b W hi him ha hb)
 have HT:=Lib.hid (fun W=>c1f op a b W ha hb)
 have hS:a3l ⟨no,pc,⟨op,rd,rs1,rs2,imm⟩,guess,0,left,value,next,addr,halt,took,known,filled⟩ a b=⟨no,pc,⟨op,rd,rs1,rs2,imm⟩,guess,1,if (2:Int)=1 then 3 else if (2:Int)=2 then a4i op a b else 1,if wr then a7n ⟨op,rd,rs1,rs2,imm⟩ pc a b else 0,a1k pc 4,addr,halt,if (2:Int)=2 then a4i op a b else took,known,filled⟩:=by
  exact c1s
 exact c1r
theorem h1b (a b:Nat) (w:World) (hi:okI op) (him:imm<4294967296) (ha:a<4294967296) (hb:b<4294967296) (hk:a1e op=6) (wr:Bool) (hwr:(a2b ⟨op,rd,rs1,rs2,imm⟩ == 0) = !wr) :
  Calls Tryz.prog 137 #[(⟨no,pc,⟨op,rd,rs1,rs2,imm⟩,guess,0,left,value,next,addr,halt,took,known,filled⟩:En).val,.int .u32 (a:Int),.int .u32 (b:Int)] w fun x w'=>x = .returned (a3l ⟨no,pc,⟨op,rd,rs1,rs2,imm⟩,guess,0,left,value,next,addr,halt,took,known,filled⟩ a b).val∧Bel w w':=by
 have hF:=St.start w [] (fun d hd=>by cases hd)
 have HK:=Lib.hid (fun W=>a2o ⟨op,rd,rs1,rs2,imm⟩ W hi)
 have HW:=Lib.hid (fun W=>a7c ⟨op,rd,rs1,rs2,imm⟩ W)
 have HV:=Lib.hid (fun W=>b7j ⟨op,rd,rs1,rs2,imm⟩ pc a b W hi him ha hb)
 have HT:=Lib.hid (fun W=>c1f op a b W ha hb)
 have hS:a3l ⟨no,pc,⟨op,rd,rs1,rs2,imm⟩,guess,0,left,value,next,addr,halt,took,known,filled⟩ a b=⟨no,pc,⟨op,rd,rs1,rs2,imm⟩,guess,1,if (6:Int)=1 then 3 else if (6:Int)=2 then a4i op a b else 1,if wr then a7n ⟨op,rd,rs1,rs2,imm⟩ pc a b else 0,a1k pc 4,addr,halt,if (6:Int)=2 then a4i op a b else took,known,filled⟩:=by
  exact c1s
 exact c1r
theorem h1c (a b:Nat) (w:World) (hi:okI op) (him:imm<4294967296) (ha:a<4294967296) (hb:b<4294967296) (hk:a1e op=5) (wr:Bool) (hwr:(a2b ⟨op,rd,rs1,rs2,imm⟩ == 0) = !wr) :
  Calls Tryz.prog 137 #[(⟨no,pc,⟨op,rd,rs1,rs2,imm⟩,guess,0,left,value,next,addr,halt,took,known,filled⟩:En).val,.int .u32 (a:Int),.int .u32 (b:Int)] w fun x w'=>x = .returned (a3l ⟨no,pc,⟨op,rd,rs1,rs2,imm⟩,guess,0,left,value,next,addr,halt,took,known,filled⟩ a b).val∧Bel w w':=by
 have hF:=St.start w [] (fun d hd=>by cases hd)
 have HK:=Lib.hid (fun W=>a2o ⟨op,rd,rs1,rs2,imm⟩ W hi)
 have HW:=Lib.hid (fun W=>a7c ⟨op,rd,rs1,rs2,imm⟩ W)
 have HV:=Lib.hid (fun W=>b7j ⟨op,rd,rs1,rs2,imm⟩ pc a b W hi him ha hb)
 have HG:=Lib.hid (fun W=>g7r ⟨op,rd,rs1,rs2,imm⟩ pc a b W ha hb)
 obtain ⟨tb,htb⟩:∃ tb,decide (a7y ⟨op,rd,rs1,rs2,imm⟩ pc a b % 4=0)=tb:=⟨_,rfl⟩
 have hS:a3l ⟨no,pc,⟨op,rd,rs1,rs2,imm⟩,guess,0,left,value,next,addr,halt,took,known,filled⟩ a b=if tb then ⟨no,pc,⟨op,rd,rs1,rs2,imm⟩,guess,1,1,if wr then a7n ⟨op,rd,rs1,rs2,imm⟩ pc a b else 0,a7y ⟨op,rd,rs1,rs2,imm⟩ pc a b,addr,halt,took,known,filled⟩
   else ⟨no,pc,⟨op,rd,rs1,rs2,imm⟩,guess,1,1,0,a1k pc 4,addr,3,took,known,filled⟩:=by
  cases wr
  ·have hw0:a2b ⟨op,rd,rs1,rs2,imm⟩=0:=by simpa using hwr
   cases tb
   ·have:=of_decide_eq_false htb
    simp [a3l,hk,hw0,this]
   ·have:=of_decide_eq_true htb
    simp [a3l,hk,hw0,this]
  ·have hw0:¬ a2b ⟨op,rd,rs1,rs2,imm⟩=0:=by simpa using hwr
   cases tb
   ·have:=of_decide_eq_false htb
    simp [a3l,hk,hw0,this]
   ·have:=of_decide_eq_true htb
    simp [a3l,hk,hw0,this]
 rw [hS]
 rw [htb] at HG
 have h4:=add4_c pc
 dsimp only at HK
 rw [hk] at HK
 generalize a1k pc 4=p4 at *
 generalize a7n ⟨op,rd,rs1,rs2,imm⟩ pc a b=v at *
 generalize a7y ⟨op,rd,rs1,rs2,imm⟩ pc a b=nx at *
 generalize a2b ⟨op,rd,rs1,rs2,imm⟩=ws at *
 unfold En.val
 unfold Ins.val at *
 clear hS hk htb
 cases wr
 ·obtain rfl:ws=0:=by simpa using hwr
  clear hwr
  cases tb
  all_goals
   go_enter Tryz.func137,Tryz.ntmps137
   exact c1q
 ·have hw0:¬ ws=0:=by simpa using hwr
  clear hwr
  cases tb
  all_goals
   go_enter Tryz.func137,Tryz.ntmps137
   exact c1q
end
theorem h1d {e:En} {a b:Nat} (h:¬ e.is=0∨a1e e.inst.op=3∨a1e e.inst.op=4):a3l e a b=e:=by
 unfold a3l;rw [if_pos h]
theorem h1e (e:En) (a b:Nat) (w:World) (hi:okI e.inst.op) (him:e.inst.imm<4294967296) (ha:a<4294967296) (hb:b<4294967296) :
  Calls Tryz.prog 137 #[e.val,.int .u32 (a:Int),.int .u32 (b:Int)] w fun x w'=>x = .returned (a3l e a b).val∧Bel w w':=by
 by_cases h:¬ e.is=0∨a1e e.inst.op=3∨a1e e.inst.op=4
 ·rw [h1d h]
  obtain ⟨no,pc,⟨op,rd,rs1,rs2,imm⟩,guess,is,left,value,next,addr,halt,took,known,filled⟩:=e
  exact g9x _ _ _ _ _ _ _ _ _ _ _ _ _ _ _ _ _ a b w hi h
 ·obtain ⟨no,pc,⟨op,rd,rs1,rs2,imm⟩,guess,is,left,value,next,addr,halt,took,known,filled⟩:=e
  dsimp only at hi him h
  obtain rfl:is=0:=Classical.byContradiction fun k=>h (.inl k)
  have hwr:(a2b ⟨op,rd,rs1,rs2,imm⟩ == 0) = !(!(a2b ⟨op,rd,rs1,rs2,imm⟩ == 0)):=by simp
  rcases b6y op with hk|hk|hk|hk|hk|hk|hk
  ·exact g9y _ _ _ _ _ _ _ _ _ _ _ _ _ _ _ _ a b w hi him ha hb hk _ hwr
  ·exact g9z _ _ _ _ _ _ _ _ _ _ _ _ _ _ _ _ a b w hi him ha hb hk _ hwr
  ·exact h1a _ _ _ _ _ _ _ _ _ _ _ _ _ _ _ _ a b w hi him ha hb hk _ hwr
  ·exact absurd (.inr (.inl hk)) h
  ·exact absurd (.inr (.inr hk)) h
  ·exact h1c _ _ _ _ _ _ _ _ _ _ _ _ _ _ _ _ a b w hi him ha hb hk _ hwr
  ·exact h1b _ _ _ _ _ _ _ _ _ _ _ _ _ _ _ _ a b w hi him ha hb hk _ hwr
end
end Go.Proofs.YtgnomadgnciifaaGreatDoor
