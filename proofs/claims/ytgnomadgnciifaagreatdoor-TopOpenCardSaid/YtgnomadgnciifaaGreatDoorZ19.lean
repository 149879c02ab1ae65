/- . -/
import Derived.Test.YtgnomadgnciifaaGreatDoorZ16
set_option linter.unusedVariables false
set_option linter.unusedSimpArgs false
set_option linter.unusedSectionVars false
set_option maxRecDepth 100000
set_option maxHeartbeats 16000000
namespace Go.Proofs.YtgnomadgnciifaaGreatDoor
section
open Go.RowKit Wd
section
variable (A:Option Addr) (n c:Nat) (q:List En) (no:Int) (pc gs:Nat) (Ap:Option Addr) (np cp:Nat) (prog:List Nat) (w:World) (hn1:n≤1000) (hcc:n≤c) (hqn:Hid (q.length=n))
 (hF:St w [a1a 17 A n c (ens q),a1a 1 Ap np cp (u32v prog),a2h] w [] [a1a 17 A n c (ens q),a1a 1 Ap np cp (u32v prog),a2h])
include hn1 hcc hqn hF
theorem h1f (E:En) (x:Nat) (op:Int) (rd rs1 rs2:Int) (imm:Nat)  (hE:E=⟨no,pc,a9m,gs,3,0,0,0,0,2,0,false,false⟩)
  (HFe:Hid (∀ W,Rd W W.heap.size 1 Ap np cp (u32v prog)→Calls Tryz.prog 79 #[.slice Ap np cp,.int .u32 (pc:Int)] W fun e w'=>e = .returned (.tuple #[.int .u32 (x:Int),.bool true])∧Bel W w'))
  (HDe:Hid (∀ W,Rd W W.heap.size 1 (some ⟨0,0,none⟩) 49 49 (u32v codesL)→Calls Tryz.prog 138 #[.int .u32 (x:Int)] W fun e w'=>e = .returned (.tuple #[.agg #[.int .i64 op,.int .i64 rd,.int .i64 rs1,.int .i64 rs2,.int .u32 (imm:Int)],.int .i64 20])∧Bel W w')):Calls Tryz.prog 78 #[.slice A n c,.int .i64 no,.agg #[.int .u32 (pc:Int),.int .u32 (gs:Int)],.slice Ap np cp] w fun x w'=>∃ v,x = .returned v∧Bel w w'∧w'.ownsRow w.heap.size 54 17 v (n+1) (ens (q++[E])):=by
 have hcells:=Lib.hid (show ens (q++[E])=ens q++E.cells by unfold ens;rw [List.flatMap_append];simp)
 subst hE
 (go_enter Tryz.func78,Tryz.ntmps78)
 go_upto_region 16 with ((try refine zs ?_);(first|refine a3d ?_|(refine b5t ?_;clear hF;(first|intro gN wN hF|intro wN hF|intro hF))|(refine a1d ?_;clear hF;intro vN wN hF)|((refine w_stp rfl hF rfl rfl ?_ (hfit:=Nat.le_of_ble_eq_true rfl));clear hF;intro wN hF;(try simp only [spl,List.set_cons_zero,List.set_cons_succ,Nat.reduceAdd] at hF))))
 replace hF:=hF.clip (N:=n) (List.Mem.head _) (Nat.le_refl _)
 rw [List.take_of_length_le (by rw [a4l,hqn.out];exact Nat.le_refl _)] at hF
 refine a1n (by kernel_rfl) hF _ _ (fun _ h=>h) (fun _ h=>h) ?_
 clear hF;intro hF hH
 refine a1c 0 hH ?_
 refine a1c 1 hH ?_
 refine zk3 2 hH ?_
 refine a1c 3 hH ?_
 refine zk3 4 hH ?_
 refine b4n 5 hH ?_
 refine zk7 6 hH ?_
 refine zry 7 (fun K hK=>?_)
 go_wp2_with ((first|(refine w_bs1 rfl hF rfl ?_;clear hF;intro gN wN hF)|(refine w_bs0 rfl hF ?_;clear hF;intro gN wN hF));refine zs ?_)
 have hH:=hH.nextA hF;refine hK.out _ _ hH ?_;clear hK;refine zs ?_
 refine zry 8 (fun K hK=>?_)
 go_wp2_with ((first|((refine b4x rfl hF rfl rfl ?_);clear hF;intro vN wN hF;(try refine zs ?_))|((first|refine zrg ?_|(refine zst ?_;clear hF;(first|intro gN wN hF|intro wN hF|intro hF))|(refine zap ?_;clear hF;intro vN wN hF));refine zs ?_)))
 have hH:=hH.nextA hF;refine hK.out _ _ hH ?_;clear hK;refine zs ?_
 refine a2a 9 hH ?_
 refine zrz ?_
 (go_wp2;go_ret;exact ⟨_,rfl,hF.bel,by rw [hcells.out];exact hF.ownAt at0⟩)
end
end
section
open Go.RowKit Wd
def c1t : Rq:=⟨0,0,0,⟨#[]⟩⟩
def h1g (o:Option Rq):Rq:=match o with|some r=>r|none=>c1t
theorem h1h (q:List Rq) (line:Nat) (k:Int):b4a q line [k]=a3r q line k:=by
 unfold b4a a3r
 congr 1
 funext r
 simp
theorem h1i (q:List Rq):a7h q=b3i q:=by
 induction q with
 | nil=>rfl
 | cons r q ih=>
  show (if r.kind=4 then 0 else 1)+a7h q=_
  rw [ih]
  unfold b3i
  rw [List.filter_cons]
  by_cases h:r.kind=4
  ·simp [h]
  ·simp [h];omega
theorem a6q (A:Option Addr) (n c:Nat) (q:List Rq) (line:Nat) (k:Int) (A':Option Addr) (c':Nat) (w:World) (hr:Rd w w.heap.size 4 A n c (rqs q)) (hk:Rd w w.heap.size 1 A' 1 c' [.int .i64 k]) :
  Calls Tryz.prog 81 #[.slice A n c,.int .u32 (line:Int),.slice A' 1 c'] w fun e w'=>e = .returned (.bool (a3r q line k))∧Bel w w':=by
 rw [← h1h]
 exact f6n A n c q line A' 1 c' [k] w hr hk
theorem h1j (A:Option Addr) (n c:Nat) (q:List Rq) (w:World) (hr:Rd w w.heap.size 4 A n c (rqs q)) :
  Calls Tryz.prog 141 #[.slice A n c] w fun e w'=>e = .returned (.int .i64 (b3i q:Int))∧Bel w w':=by
 rw [← h1i]
 exact f6l A n c q w hr
theorem h1k (A:Option Addr) (c:Nat) (w:World) :
  Calls Tryz.prog 62 #[.slice A 0 c] w fun e w'=>e = .returned (.tuple #[.slice A 0 c,c1t.val,.bool false])∧Bel w w':=by
 have hF:=St.start w [] (fun d hd=>by cases hd)
 go_enter Tryz.func62,Tryz.ntmps62
 go_wp2_with ((try refine zs ?_);(first|refine a3d ?_|(refine a1s ?_;clear hF;(first|intro gN wN hF|intro wN hF|intro hF))|(refine a1d ?_;clear hF;intro vN wN hF)))
 refine bodyPost_ret (b4m rfl hF) rfl ?_
 exact ⟨rfl,hF.bel⟩
theorem h1l (A:Option Addr) (c:Nat) (kind:Int) (line:Nat) (left:Int) (data:ByteArray) (q:List Rq) (w:World) (hr:Rd w w.heap.size 4 A (q.length+1) c (rqs (⟨kind,line,left,data⟩::q))) (hn:q.length≤1000000) (hl : -9223372036854775808≤left∧left≤9223372036854775807) (h0:0<left - 1) :
  Calls Tryz.prog 62 #[.slice A (q.length+1) c] w fun e w'=>∃ A2 c2,e = .returned (.tuple #[.slice A2 (q.length+1) c2,c1t.val,.bool false])∧Out w [a1a 4 A (q.length+1) c (rqs (⟨kind,line,left,data⟩::q))] w' [a1a 4 A2 (q.length+1) c2 (rqs (⟨kind,line,left - 1,data⟩::q))]:=by
 have hF:=St.start w [a1a 4 A (q.length+1) c (rqs (⟨kind,line,left,data⟩::q))] (fun d hd=>by obtain rfl:=List.mem_singleton.1 hd;exact hr)
 have hc1:=hr.le
 have hc2:=hr.mx
 unfold maxLen at hc2
 have hlen:(rqs (⟨kind,line,left,data⟩::q)).length=(q.length+1) * 4:=hr.len
 have h2:2<(rqs (⟨kind,line,left,data⟩::q)).length:=by omega
 have h02:decide (0<left - 1)=true:=by simpa using h0
 obtain ⟨n,hnn⟩:∃ n,q.length+1=n:=⟨_,rfl⟩
 rw [hnn] at hF hc1 hlen ⊢
 have hpos:0<n:=by omega
 have hn2:n≤1000001:=by omega
 have hb0:((n:Int) == 0)=false:=by rw [beq_eq_false_iff_ne];omega
 clear hr hn hnn
 go_enter Tryz.func62,Tryz.ntmps62
 go_wp2_with ((try refine zs ?_);(first|refine a3d ?_|(refine c7h ?_;clear hF;(first|intro gN wN hF|intro wN hF|intro hF))|(refine a1d ?_;clear hF;intro vN wN hF)))
 replace hF:=hF.freezeB 0 at0 4 n n (by rw [List.length_set];exact hlen) (Nat.le_refl _) (by unfold maxLen;omega)
 (try simp only [zF] at hF)
 refine bodyPost_ret (b4m rfl hF) rfl ?_
 exact ⟨_,_,rfl,hF.outA⟩
theorem h1m (A:Option Addr) (c:Nat) (kind:Int) (line:Nat) (left:Int) (data:ByteArray) (q:List Rq) (w:World) (hr:Rd w w.heap.size 4 A (q.length+1) c (rqs (⟨kind,line,left,data⟩::q))) (hn:q.length≤1000000) (hl : -9223372036854775807≤left∧left≤9223372036854775807) (h0:¬ 0<left - 1) :
  Calls Tryz.prog 62 #[.slice A (q.length+1) c] w fun e w'=>∃ A2 c2,e = .returned (.tuple #[.slice A2 q.length c2,(⟨kind,line,left - 1,data⟩:Rq).val,.bool true])∧Out w [a1a 4 A (q.length+1) c (rqs (⟨kind,line,left,data⟩::q))] w' [a1a 4 A2 q.length c2 (rqs q)]:=by
 have hF:=St.start w [a1a 4 A (q.length+1) c (rqs (⟨kind,line,left,data⟩::q))] (fun d hd=>by obtain rfl:=List.mem_singleton.1 hd;exact hr)
 have hc1:=hr.le
 have hc2:=hr.mx
 unfold maxLen at hc2
 have hlen:(rqs (⟨kind,line,left,data⟩::q)).length=(q.length+1) * 4:=hr.len
 have h2:2<(rqs (⟨kind,line,left,data⟩::q)).length:=by omega
 have h02:decide (0<left - 1)=false:=by simpa using h0
 obtain ⟨n,hnn⟩:∃ n,q.length+1=n:=⟨_,rfl⟩
 have hqn:n - 1=q.length:=by omega
 rw [hnn] at hF hc1 hlen ⊢
 have hpos:0<n:=by omega
 have h1n:1≤n:=by omega
 have hn2:n≤1000001:=by omega
 have hb0:((n:Int) == 0)=false:=by rw [beq_eq_false_iff_ne];omega
 replace hqn:=Lib.hid hqn
 clear hr hn hnn
 go_enter Tryz.func62,Tryz.ntmps62
 go_upto_region 8 with ((try refine zs ?_);(first|refine a3d ?_|(refine c7h ?_;clear hF;(first|intro gN wN hF|intro wN hF|intro hF))|(refine a1d ?_;clear hF;intro vN wN hF)))
 replace hF:=hF.freezeB 0 at0 4 n n (by rw [List.length_set];exact hlen) (Nat.le_refl _) (by unfold maxLen;omega)
 (try simp only [zF] at hF)
 change St _ _ _ _ (a1a 4 _ n n (rqs (⟨kind,line,left - 1,data⟩::q))::_) at hF
 have hsub:∀ (i:Nat) (u:Value),([.int .i64 kind,.int .u32 (line:Int),.int .i64 (left - 1),.string data]:List Value)[i]?=some u→(rqs (⟨kind,line,left - 1,data⟩::q))[0+i]?=some u:=by
  intro i u h
  have:=Rows.sub (f:=rqs) (q:=⟨kind,line,left - 1,data⟩::q) (k:=0) rfl i u h
  rwa [Nat.zero_mul] at this
 refine a1n (by kernel_rfl) hF [] _ (by ((repeat (first|exact a1f|refine a1m zdm ?_)) <;> exact a1f)) (fun _ h=>h) ?_
 clear hF;intro hF hH
 refine a1c 0 hH ?_
 refine zk4 1 hH ?_
 refine a1c 2 hH ?_
 refine zk2 3 hH ?_
 refine a2a 5 hH ?_
 refine zry 4 (fun K hK=>?_)
 go_wp2_with ((first|(refine w_ld1 rfl hF rfl ?_)|(refine w_ld rfl hF rfl ?_)|(refine w_lde1 rfl hF rfl ?_)|(refine w_lde (us:=[.int .i64 kind,.int .u32 (line:Int),.int .i64 (left - 1),.string data]) (hu:=hsub) rfl hF rfl ?_)|(refine w_ld1o rfl hF rfl ?_));(try refine zs ?_))
 have hH:=hH.nextA hF;refine hK.out _ _ hH ?_;clear hK;refine zs ?_
 refine zry 6 (fun K hK=>?_)
 go_wp2_with (refine zwr ?_;clear hF;intro wN hF;(try refine zs ?_))
 have hH:=hH.nextA hF;refine hK.out _ _ hH ?_;clear hK;refine zs ?_
 refine a2a 7 hH ?_
 refine zrz ?_
 (go_wp2;(replace hF:=hF.fromPart (k:=1) (List.Mem.head _) h1n);(refine bodyPost_ret (b4m rfl hF) rfl ?_);exact ⟨_,_,by rw [← hqn.out];rfl,by rw [← hqn.out];exact hF.outA⟩)
theorem h1o (A:Option Addr) (n c:Nat) (q:List Rq) (w:World) (hr:Rd w w.heap.size 4 A n c (rqs q)) (hn:n≤1000000) (hl:∀ r∈q,-9223372036854775807≤r.left∧r.left≤9223372036854775807) :
  Calls Tryz.prog 62 #[.slice A n c] w fun e w'=>∃ A2 c2,e = .returned (.tuple #[.slice A2 (a3g q).1.length c2,(h1g (a3g q).2).val,.bool (a3g q).2.isSome])∧Out w [a1a 4 A n c (rqs q)] w' [a1a 4 A2 (a3g q).1.length c2 (rqs (a3g q).1)]:=by
 obtain rfl:=hr.rqslen
 cases q with
 | nil=>
  refine (h1k A c w).mono ?_
  rintro e w' ⟨rfl,hb⟩
  refine ⟨A,c,rfl,hb,fun d hd=>?_,fun d hd=>?_⟩
  ·obtain rfl:=List.mem_singleton.1 hd
   exact hr.bel hb
  ·obtain rfl:=List.mem_singleton.1 hd
   exact From.self (List.mem_singleton.2 rfl)
 | cons r q=>
  obtain ⟨kind,line,left,data⟩:=r
  rw [List.length_cons] at hr hn
  have hl':=hl _ (List.mem_cons_self ..)
  dsimp only at hl'
  by_cases h:0<left - 1
  ·rw [show a3g (⟨kind,line,left,data⟩::q)=(⟨kind,line,left - 1,data⟩::q,none) from if_pos h]
   refine (h1l A c kind line left data q w hr (by omega) (by omega) h).mono ?_
   rintro e w' ⟨A2,c2,rfl,hO⟩
   exact ⟨A2,c2,rfl,hO⟩
  ·rw [show a3g (⟨kind,line,left,data⟩::q)=(q,some ⟨kind,line,left - 1,data⟩) from if_neg h]
   refine (h1m A c kind line left data q w hr (by omega) hl' h).mono ?_
   rintro e w' ⟨A2,c2,rfl,hO⟩
   exact ⟨A2,c2,rfl,hO⟩
end
end Go.Proofs.YtgnomadgnciifaaGreatDoor
