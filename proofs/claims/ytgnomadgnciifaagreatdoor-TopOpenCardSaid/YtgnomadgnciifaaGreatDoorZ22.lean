/- . -/
import Derived.Test.YtgnomadgnciifaaGreatDoorZ16
set_option linter.unusedVariables false
set_option linter.unusedSimpArgs false
set_option linter.unusedSectionVars false
set_option maxRecDepth 100000
set_option maxHeartbeats 16000000
namespace Go.Proofs.YtgnomadgnciifaaGreatDoor
section
open Go.RowKit Wd
section
variable (A:Option Addr) (n c:Nat) (q:List En) (no:Int) (pc gs:Nat) (Ap:Option Addr) (np cp:Nat) (prog:List Nat) (w:World) (hn1:n≤1000) (hcc:n≤c) (hqn:Hid (q.length=n))
 (hF:St w [a1a 17 A n c (ens q),a1a 1 Ap np cp (u32v prog),a2h] w [] [a1a 17 A n c (ens q),a1a 1 Ap np cp (u32v prog),a2h])
include hn1 hcc hqn hF
theorem h1r (E:En) (x:Nat) (op:Int) (rd rs1 rs2:Int) (imm:Nat) (h47:¬ op=47) (h48:¬ op=48) (hE:E=⟨no,pc,⟨op,rd,rs1,rs2,imm⟩,gs,0,0,0,0,0,0,0,false,false⟩)
  (HFe:Hid (∀ W,Rd W W.heap.size 1 Ap np cp (u32v prog)→Calls Tryz.prog 79 #[.slice Ap np cp,.int .u32 (pc:Int)] W fun e w'=>e = .returned (.tuple #[.int .u32 (x:Int),.bool true])∧Bel W w'))
  (HDe:Hid (∀ W,Rd W W.heap.size 1 (some ⟨0,0,none⟩) 49 49 (u32v codesL)→Calls Tryz.prog 138 #[.int .u32 (x:Int)] W fun e w'=>e = .returned (.tuple #[.agg #[.int .i64 op,.int .i64 rd,.int .i64 rs1,.int .i64 rs2,.int .u32 (imm:Int)],.int .i64 0])∧Bel W w')):Calls Tryz.prog 78 #[.slice A n c,.int .i64 no,.agg #[.int .u32 (pc:Int),.int .u32 (gs:Int)],.slice Ap np cp] w fun x w'=>∃ v,x = .returned v∧Bel w w'∧w'.ownsRow w.heap.size 54 17 v (n+1) (ens (q++[E])):=by
 have hcells:=Lib.hid (show ens (q++[E])=ens q++E.cells by unfold ens;rw [List.flatMap_append];simp)
 subst hE
 have b47:(op == 47)=false:=by simpa using h47
 have b48:(op == 48)=false:=by simpa using h48
 clear h47 h48
 (go_enter Tryz.func78,Tryz.ntmps78)
 go_upto_region 16 with ((try refine zs ?_);(first|refine a3d ?_|(refine b5t ?_;clear hF;(first|intro gN wN hF|intro wN hF|intro hF))|(refine a1d ?_;clear hF;intro vN wN hF)|((refine w_stp rfl hF rfl rfl ?_ (hfit:=Nat.le_of_ble_eq_true rfl));clear hF;intro wN hF;(try simp only [spl,List.set_cons_zero,List.set_cons_succ,Nat.reduceAdd] at hF))))
 replace hF:=hF.clip (N:=n) (List.Mem.head _) (Nat.le_refl _)
 rw [List.take_of_length_le (by rw [a4l,hqn.out];exact Nat.le_refl _)] at hF
 refine a1n (by kernel_rfl) hF _ _ (fun _ h=>h) (fun _ h=>h) ?_
 clear hF;intro hF hH
 refine a1c 0 hH ?_
 refine a1c 1 hH ?_
 refine zk3 2 hH ?_
 refine a1c 3 hH ?_
 refine zk3 4 hH ?_
 refine b4n 5 hH ?_
 refine zk7 6 hH ?_
 refine zry 7 (fun K hK=>?_)
 go_wp2_with ((first|(refine w_bs1 rfl hF rfl ?_;clear hF;intro gN wN hF)|(refine w_bs0 rfl hF ?_;clear hF;intro gN wN hF));refine zs ?_)
 have hH:=hH.nextA hF;refine hK.out _ _ hH ?_;clear hK;refine zs ?_
 refine zry 8 (fun K hK=>?_)
 go_wp2_with ((first|((refine b4x rfl hF rfl rfl ?_);clear hF;intro vN wN hF;(try refine zs ?_))|((first|refine zrg ?_|(refine zst ?_;clear hF;(first|intro gN wN hF|intro wN hF|intro hF))|(refine zap ?_;clear hF;intro vN wN hF));refine zs ?_)))
 have hH:=hH.nextA hF;refine hK.out _ _ hH ?_;clear hK;refine zs ?_
 refine a2a 9 hH ?_
 refine zrz ?_
 (go_wp2;go_ret;exact ⟨_,rfl,hF.bel,by rw [hcells.out];exact hF.ownAt at0⟩)
end
end
end Go.Proofs.YtgnomadgnciifaaGreatDoor
