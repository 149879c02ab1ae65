/- . -/
import Derived.Test.YtgnomadgnciifaaGreatDoorZ10
set_option linter.unusedVariables false
set_option linter.unusedSimpArgs false
set_option linter.unusedSectionVars false
set_option maxRecDepth 100000
set_option maxHeartbeats 16000000
namespace Go.Proofs.YtgnomadgnciifaaGreatDoor
theorem d6n {p:Prop} (h:p:=by
 rcases hk with rfl|rfl
 all_goals
  unfold En.val
  go_enter Tryz.func135,Tryz.ntmps135
  go_upto_region 5 with ((try refine zs ?_);(first|refine a8j ?_|(refine a9a ?_;clear hF;(first|intro gN wN hF|intro wN hF|intro hF))|(refine a1d ?_;clear hF;intro vN wN hF)))
  refine a1n (by kernel_rfl) hF _ _ (fun _ h=>h) (fun _ h=>h) ?_
  clear hF;intro hF hH
  refine a1c 0 hH ?_
  refine zk1 1 hH ?_
  refine zk7 2 hH ?_
  refine zk1 3 hH ?_
  refine zk7 4 hH ?_
  refine zry 5 (fun K hK=>?_)
  go_wp2_with ((first|(refine b3y ?_;clear hF;intro wN hF)|(go_at_call 56;refine (HR.out _).mono ?_;rintro x wN ⟨rfl,hd⟩;replace hF:=hF.grow (Bel.ofDrew hd);clear hd)))
  have hH:=hH.nextA hF;refine hK.out _ _ hH ?_;clear hK;refine zs ?_
  refine zry 6 (fun K hK=>?_)
  go_wp2_with ((first|(refine b3y ?_;clear hF;intro wN hF)|(go_at_call 56;refine (HR.out _).mono ?_;rintro x wN ⟨rfl,hd⟩;replace hF:=hF.grow (Bel.ofDrew hd);clear hd)))
  have hH:=hH.nextA hF;refine hK.out _ _ hH ?_;clear hK;refine zs ?_
  refine zrz ?_
  ((go_wp2_with ((try refine zs ?_);(first|refine a8j ?_|(refine a9a ?_;clear hF;(first|intro gN wN hF|intro wN hF|intro hF))|(refine a1d ?_;clear hF;intro vN wN hF))));(((try simp only [Exit.inBlock,Exit.then]);refine bodyPost_ret (a2x rfl hF) rfl ?_);exact ⟨by first|rfl|rw [hw4]|rw [← h4],hF.bel⟩))):p:=h
theorem c5i {p:Prop} (h:p:=by
 go_enter Tryz.func135,Tryz.ntmps135
 (go_wp2_with ((try refine zs ?_);(first|refine a8j ?_|(refine a9a ?_;clear hF;(first|intro gN wN hF|intro wN hF|intro hF))|(refine a1d ?_;clear hF;intro vN wN hF))))
 (((try simp only [Exit.inBlock,Exit.then]);refine bodyPost_ret (a2x rfl hF) rfl ?_);exact ⟨by first|rfl|rw [hw4]|rw [← h4],hF.bel⟩)):p:=h
section
open Go.RowKit Wd
theorem h1s (e:En) (size a:Nat) (w:World) (hi:okI e.inst.op) (him:e.inst.imm<4294967296) (hs:size≤9223372036854775807) (ha:a<4294967296) :
  Calls Tryz.prog 135 #[e.val,.int .i64 (size:Int),.int .u32 (a:Int)] w fun x w'=>x = .returned (a6m e size a).val∧Bel w w':=by
 have hF:=St.start w [] (fun d hd=>by cases hd)
 obtain ⟨no,pc,⟨op,rd,rs1,rs2,imm⟩,guess,is,left,value,next,addr,halt,took,known,filled⟩:=e
 dsimp only at hi him
 have hzb:=c1o op
 have HK:=Lib.hid (fun W=>a2o ⟨op,rd,rs1,rs2,imm⟩ W hi)
 have HZ:=Lib.hid (fun W=>a7s ⟨op,rd,rs1,rs2,imm⟩ W)
 have HR:=Lib.hid (fun W=>Me.memRight_any size (a1k a imm) (a2p op) W hs (a4r _ _) ⟨by omega,by omega⟩)
 have hT:a6m ⟨no,pc,⟨op,rd,rs1,rs2,imm⟩,guess,is,left,value,next,addr,halt,took,known,filled⟩ size a=if (a1e op≠3∧a1e op≠4)∨is≠0∨known=true then ⟨no,pc,⟨op,rd,rs1,rs2,imm⟩,guess,is,left,value,next,addr,halt,took,known,filled⟩
  else if Me.right size (a1k a imm) (a2p op)=true then ⟨no,pc,⟨op,rd,rs1,rs2,imm⟩,guess,is,left,value,next,a1k a imm,halt,took,true,filled⟩
  else ⟨no,pc,⟨op,rd,rs1,rs2,imm⟩,guess,3,left,value,next,a1k a imm,if a1e op=4 then 5 else 4,took,known,filled⟩:=rfl
 rw [hT]
 clear hT
 dsimp only at HK HZ
 have h4:=b7i a imm
 have hw4:IntKind.u32.wrap ((a:Int)+(imm:Int))=((a1k a imm:Nat):Int):=by rw [IntKind.wrap_u32'];exact b7i a imm
 generalize Me.right size (a1k a imm) (a2p op)=rb at *
 generalize a1k a imm=ad at *
 generalize a1e op=κ at *
 generalize a2p op=sz at *
 unfold Ins.val at *
 by_cases hk:κ=3∨κ=4
 ·by_cases h0:is=0
  ·subst h0
   cases known
   ·rw [if_neg (by rcases hk with rfl|rfl <;> simp)]
    cases rb
    ·rw [if_neg (by simp)]
     exact d6n
    ·rw [if_pos rfl]
     exact d6n
   ·rw [if_pos (.inr (.inr rfl))]
    rcases hk with rfl|rfl
    all_goals
     unfold En.val
     exact c5i
  ·rw [if_pos (.inr (.inl h0))]
   rcases hk with rfl|rfl
   all_goals
    unfold En.val
    exact c5i
 ·have h3:¬ κ=3:=fun h=>hk (.inl h)
  have h5:¬ κ=4:=fun h=>hk (.inr h)
  rw [if_pos (.inl ⟨h3,h5⟩)]
  clear hk
  unfold En.val
  exact c5i
end
end Go.Proofs.YtgnomadgnciifaaGreatDoor
