/- Joined: Exec4. -/
import Derived.Test.YtgnomadgnciifaaGreatDoorZH0
import Derived.Test.YtgnomadgnciifaaGreatDoorZ10
import Derived.Test.YtgnomadgnciifaaGreatDoorZ3
import Derived.Test.YtgnomadgnciifaaGreatDoorZ1
set_option linter.unusedVariables false
set_option linter.unusedSimpArgs false
set_option linter.unusedSectionVars false
set_option maxRecDepth 100000
set_option maxHeartbeats 16000000
namespace Go.Proofs.YtgnomadgnciifaaGreatDoor
theorem z25x0 {p:Prop} (h:p:=by
 (go_wp2_with ((try simp only [zA,Nat.reduceAdd]);(first|refine zg48 ?_|(refine zg49 ?_;clear hF;(first|intro gN wN hF|intro wN hF|intro hF))|(go_at_call 56;refine (HR.out _).mono ?_;rintro x wN ⟨rfl,hd⟩;replace hF:=hF.grow (Bel.ofDrew hd);clear hd)|(refine zg15 ?_;clear hF;intro vN wN hF))))
 ((try simp only [Exit.inBlock,Exit.then]);refine bodyPost_ret (w_resc rfl hF) rfl ?_)
 exact ⟨rfl,hF.bel⟩):p:=h
theorem z25x1 {p:Prop} (h:p:=by
 go_enter Tryz.func121,Tryz.ntmps121
 (go_wp2_with ((first|(refine zg46 ?_;clear hF;intro wN hF)|(go_at_call 169;refine (HJ.out _).mono ?_;rintro x wN ⟨rfl,hd⟩;replace hF:=hF.grow (Bel.ofDrew hd);clear hd)|(go_at_call 170;refine (Sext_any _ _ _ (by assumption) (by omega)).mono ?_;rintro x wN ⟨rfl,hd⟩;replace hF:=hF.grow (Bel.ofDrew hd);clear hd)|((refine w_ldp (v:=.agg #[.int .i64 op,.int .i64 rd,.int .i64 rs1,.int .i64 rs2,.int .u32 (imm:Int)]) (n:=5) rfl hF rfl ?_ (hn:=Nat.le_of_ble_eq_true rfl));(try simp only [zA,Nat.reduceAdd]))|((first|refine zrg ?_|(refine zst ?_;clear hF;(first|intro gN wN hF|intro wN hF|intro hF))|(refine zap ?_;clear hF;intro vN wN hF));(try simp only [zA,Nat.reduceAdd])))))
 go_ret
 exact ⟨rfl,hF.bel⟩):p:=h
theorem z25x2 {p:Prop} (h:p:=by
 rw [if_neg (by simp)]
 by_cases hw0:ws=0
 ·subst hw0
  unfold En.val
  go_enter Tryz.func64,Tryz.ntmps64
  exact z25x0
 ·rw [if_pos hw0]
  unfold En.val
  go_enter Tryz.func64,Tryz.ntmps64
  exact z25x0):p:=h
section
open Go.RowKit Wd
theorem loadL_lt {op:Int} {b:ByteArray}:loadL op b<4294967296:=by
 unfold loadL
 split
 ·omega
 ·rename_i h
  have hz:=sizeI_b op
  have hj:joinL (bl b)<4294967296:=joinL_lt32 (by rw [bl_len];omega)
  split
  ·exact sextI_lt _ hj
  split
  ·exact sextI_lt _ hj
  ·exact hj
theorem Load_any (op:Int) (b:ByteArray) (w:World) (hi:okI op) (hs:b.size≤maxLen) :
  Calls Tryz.prog 121 #[.int .i64 op,.string b] w fun x w'=>x = .returned (.int .u32 (loadL op b:Int))∧Bel w w':=by
 have hF:=St.start w [] (fun d hd=>by cases hd)
 have HK:=Lib.hid (fun W=>Kind_any ⟨op,0,0,0,0⟩ W hi)
 have HZ:=Lib.hid (fun W=>instSize_any ⟨op,0,0,0,0⟩ W)
 unfold Ins.val at HK HZ
 dsimp only at HK HZ
 have hzb:=sizeI_b op
 by_cases h3:kindI op=3
 ·rw [h3] at HK
  by_cases hz:(b.size:Int)=sizeI op
  ·have hz4:b.size≤4:=by omega
   have HJ:=Lib.hid (fun W=>Join_any b W hz4)
   have hL:loadL op b=if op=11 then sextI (joinL b.data.toList) 8 else if op=12 then sextI (joinL b.data.toList) 16 else joinL b.data.toList:=by
    unfold loadL;rw [if_neg (by simp [h3,hz])];rfl
   have hj:joinL b.data.toList<4294967296:=joinL_lt32 (by simpa using hz4)
   rw [← hz] at HZ
   generalize joinL b.data.toList=j at *
   clear h3 hz
   by_cases o1:op=11
   ·rw [hL,if_pos o1]
    subst o1
    clear hL
    exact z25x1
   by_cases o2:op=12
   ·rw [hL,if_neg o1,if_pos o2]
    subst o2
    clear hL o1
    exact z25x1
   ·rw [hL,if_neg o1,if_neg o2]
    have b1:(op == 11)=false:=by simpa using o1
    have b2:(op == 12)=false:=by simpa using o2
    clear hL o1 o2
    exact z25x1
  ·rw [show loadL op b=0 from by unfold loadL;rw [if_pos (.inr hz)]]
   generalize sizeI op=sz at *
   clear h3
   exact z25x1
 ·rw [show loadL op b=0 from by unfold loadL;rw [if_pos (.inl h3)]]
  generalize kindI op=κ at *
  exact z25x1
theorem bytesL_size (x s:Nat):(⟨(bytesL x s).toArray⟩:ByteArray).size=s:=by simp [ByteArray.size,bytesL_len]
theorem lowest_any (x:Nat) (s:Int) (w:World) (hx:x<4294967296) (hs:0≤s∧s≤4) :
  Calls Tryz.prog 128 #[.int .u32 (x:Int),.int .i64 s] w fun e w'=>e = .returned (.int .u32 (lowestL x s:Int))∧Bel w w':=by
 have hF:=St.start w [] (fun d hd=>by cases hd)
 obtain ⟨n,rfl⟩:=Int.eq_ofNat_of_zero_le hs.1
 have hn:n≤4:=by omega
 have HB:=Lib.hid (fun W=>Bytes_any x n W hx hn)
 have HJ:=Lib.hid (fun W=>Join_any ⟨(bytesL x n).toArray⟩ W (by rw [bytesL_size];exact hn))
 go_enter Tryz.func128,Tryz.ntmps128
 go_wp2_with ((first|(refine zg47 ?_;clear hF;intro wN hF)|(go_at_call 169;refine (HJ.out _).mono ?_;rintro x wN ⟨rfl,hd⟩;replace hF:=hF.grow (Bel.ofDrew hd);clear hd)|((first|refine zrg ?_|(refine zst ?_;clear hF;(first|intro gN wN hF|intro wN hF|intro hF))|(refine zap ?_;clear hF;intro vN wN hF));(try simp only [zA,Nat.reduceAdd]))))
 go_ret
 exact ⟨val_u32 (by simp [lowestL]),hF.bel⟩
theorem lowestL_lt (x:Nat) {s:Int} (hs:0≤s∧s≤4):lowestL x s<4294967296:=joinL_lt32 (by rw [bytesL_len];omega)
theorem Take_any (e:En) (b:ByteArray) (w:World) (hi:okI e.inst.op) (hs:b.size≤maxLen) :
  Calls Tryz.prog 64 #[e.val,.string b] w fun x w'=>x = .returned (takeE e b).val∧Bel w w':=by
 have hF:=St.start w [] (fun d hd=>by cases hd)
 obtain ⟨no,pc,⟨op,rd,rs1,rs2,imm⟩,guess,is,left,value,next,addr,halt,took,known,filled⟩:=e
 have HK:=Lib.hid (fun W=>Kind_any ⟨op,rd,rs1,rs2,imm⟩ W hi)
 have HW:=Lib.hid (fun W=>Writes_any ⟨op,rd,rs1,rs2,imm⟩ W)
 have HL:=Lib.hid (fun W=>Load_any op b W hi hs)
 have hT:takeE ⟨no,pc,⟨op,rd,rs1,rs2,imm⟩,guess,is,left,value,next,addr,halt,took,known,filled⟩ b=if kindI op≠3∨known=false∨(is≠0∧is≠2) then ⟨no,pc,⟨op,rd,rs1,rs2,imm⟩,guess,is,left,value,next,addr,halt,took,known,filled⟩
  else ⟨no,pc,⟨op,rd,rs1,rs2,imm⟩,guess,1,1,if writesI ⟨op,rd,rs1,rs2,imm⟩≠0 then loadL op b else 0,next,addr,halt,took,known,filled⟩:=rfl
 rw [hT]
 clear hT
 dsimp only at HK
 generalize kindI op=κ at *
 generalize writesI ⟨op,rd,rs1,rs2,imm⟩=ws at *
 generalize loadL op b=lv at *
 unfold Ins.val at *
 by_cases h3:κ=3
 ·subst h3
  cases known
  ·rw [if_pos (by simp)]
   unfold En.val
   go_enter Tryz.func64,Tryz.ntmps64
   exact z25x0
  ·by_cases h0:is=0
   ·subst h0
    exact z25x2
   by_cases h2:is=2
   ·subst h2
    exact z25x2
   ·rw [if_pos (by simp [h0,h2])]
    unfold En.val
    have hn0:(is != 0)=true:=by simpa using h0
    have hn2:(is != 2)=true:=by simpa using h2
    replace hn0:=Lib.hid hn0
    replace hn2:=Lib.hid hn2
    go_enter Tryz.func64,Tryz.ntmps64
    go_upto_region 1 with (((first|refine zrg ?_|(refine zst ?_;clear hF;(first|intro gN wN hF|intro wN hF|intro hF))|(refine zap ?_;clear hF;intro vN wN hF));(try simp only [zA,Nat.reduceAdd])))
    go_wp2_with ((try simp only [hn0.out,hn2.out]);(try simp only [zA,Nat.reduceAdd]);(first|((refine g_skip rfl rfl rfl ?_);(try simp only [zA,Nat.reduceAdd]))|(go_at_call 39;refine zcg hF (HK.out _) ?_;clear hF;intro wN hF)|((refine w_ldp (v:=.agg #[.int .i64 op,.int .i64 rd,.int .i64 rs1,.int .i64 rs2,.int .u32 (imm:Int)]) (n:=5) rfl hF rfl ?_ (hn:=Nat.le_of_ble_eq_true rfl));(try simp only [zA,Nat.reduceAdd]))|((first|refine zrg ?_|(refine zst ?_;clear hF;(first|intro gN wN hF|intro wN hF|intro hF))|(refine zap ?_;clear hF;intro vN wN hF));(try simp only [zA,Nat.reduceAdd]))))
    ((try simp only [Exit.inBlock,Exit.then]);refine bodyPost_ret (w_resc rfl hF) rfl ?_)
    exact ⟨rfl,hF.bel⟩
 ·rw [if_pos (.inl h3)]
  unfold En.val
  go_enter Tryz.func64,Tryz.ntmps64
  exact z25x0
theorem Store_any (e:En) (b:Nat) (w:World) (hi:okI e.inst.op) (hb:b<4294967296) :
  Calls Tryz.prog 70 #[e.val,.int .u32 (b:Int)] w fun x w'=>x = .returned (storeE e b).val∧Bel w w':=by
 have hF:=St.start w [] (fun d hd=>by cases hd)
 obtain ⟨no,pc,⟨op,rd,rs1,rs2,imm⟩,guess,is,left,value,next,addr,halt,took,known,filled⟩:=e
 have HK:=Lib.hid (fun W=>Kind_any ⟨op,rd,rs1,rs2,imm⟩ W hi)
 have HZ:=Lib.hid (fun W=>instSize_any ⟨op,rd,rs1,rs2,imm⟩ W)
 have HO:=Lib.hid (fun W=>lowest_any b (sizeI op) W hb (sizeI_b op))
 have hT:storeE ⟨no,pc,⟨op,rd,rs1,rs2,imm⟩,guess,is,left,value,next,addr,halt,took,known,filled⟩ b=if kindI op≠4∨known=false∨is≠0 then ⟨no,pc,⟨op,rd,rs1,rs2,imm⟩,guess,is,left,value,next,addr,halt,took,known,filled⟩
  else ⟨no,pc,⟨op,rd,rs1,rs2,imm⟩,guess,3,left,lowestL b (sizeI op),next,addr,halt,took,known,filled⟩:=rfl
 rw [hT]
 clear hT
 dsimp only at HK HZ
 generalize kindI op=κ at *
 generalize sizeI op=sz at *
 generalize lowestL b sz=lv at *
 unfold Ins.val at *
 by_cases h3:κ=4
 ·subst h3
  cases known
  ·rw [if_pos (by simp)]
   unfold En.val
   go_enter Tryz.func70,Tryz.ntmps70
   exact z25x0
  ·by_cases h0:is=0
   ·subst h0
    rw [if_neg (by simp)]
    unfold En.val
    go_enter Tryz.func70,Tryz.ntmps70
    exact z25x0
   ·rw [if_pos (.inr (.inr h0))]
    unfold En.val
    go_enter Tryz.func70,Tryz.ntmps70
    exact z25x0
 ·rw [if_pos (.inl h3)]
  unfold En.val
  go_enter Tryz.func70,Tryz.ntmps70
  exact z25x0
end
end Go.Proofs.YtgnomadgnciifaaGreatDoor
