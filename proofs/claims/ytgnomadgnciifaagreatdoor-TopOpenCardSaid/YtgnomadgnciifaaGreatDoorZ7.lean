/- . -/
import Derived.Test.YtgnomadgnciifaaGreatDoorZ6
set_option linter.unusedVariables false
set_option linter.unusedSimpArgs false
set_option linter.unusedSectionVars false
set_option maxRecDepth 100000
set_option maxHeartbeats 16000000
namespace Go.Proofs.YtgnomadgnciifaaGreatDoor
section
open Go.RowKit Go.Sort
theorem g6o (ways:Int) (A:Option Addr) (n c x:Nat) (data:ByteArray) (dirty:Bool) (S:List Cs) (k at':Nat) (ws:List Wy) (w:World) (hr:RdS w w.heap.size A n c S) (hx:x<4294967296) (hn:n≤1000) (hk:k<n) (hset:(a1j S)[k]?=some ws) (hws:ws.length≤900) (hfull:(ws.length:Int)=ways) (l:Nat) (hl:ws.length=l+1) (gv:Wy) (hgv:ws[l]?=some gv)
  (HR:Hid (b2d 120 ways A n c S true)) (HF:Hid (a8v 80 ways A n c x S k at' false)) :
  Calls Tryz.prog 66 #[.agg #[.int .i64 ways,.slice A n c],.int .u32 (x:Int),.string data,.bool dirty] w fun e w'=>∃ y,e = .returned (.tuple #[y,gv.val,.bool true])∧CRes w (a3k A n c S) ways y w' ((a1j S).set k (⟨x - x % 16,dirty,a8f data⟩::ws.take l)):=by
 have hF:=St.start w _ (a6j hr)
 unfold a3k at hF
 obtain ⟨sA,m,sc,hS⟩:=b3m hset
 have hF:=hF.elem (List.Mem.tail _ (List.Mem.head _)) hS
 simp only at hF
 have hse:=(hF.rd (List.Mem.head _)).wyslen
 have hm1:=(hF.rd (List.Mem.head _)).le
 have hm2:=(hF.rd (List.Mem.head _)).mx
 unfold maxLen at hm2
 clear hset
 obtain ⟨d2,hd2⟩:∃ d2,a8f data=d2:=⟨_,rfl⟩
 rw [hd2]
 obtain ⟨nw,hnw⟩:∃ nw:Wy,nw=⟨x - x % 16,dirty,d2⟩:=⟨_,rfl⟩
 have hml:(m:Int) - 1=(l:Int):=by omega
 have hlm:l<m:=by omega
 have htl:(ws.take l).length=l:=by rw [List.length_take];omega
 have hvn:(ws.take l++[nw])[l]?=some nw:=by rw [List.getElem?_append_right (by omega),htl];simp
 have hfr:a3t (ws.take l++[nw]) l nw=nw::ws.take l:=by have:=d4t (ws.take l) nw;rwa [htl] at this
 rw [← hnw]
 have hfb:((m:Int) == ways)=true:=by rw [beq_iff_eq];omega
 unfold a8f at hd2
 go_enter Tryz.func66,Tryz.ntmps66
 go_upto_if 27 with (first|(go_at_call 120;refine (HR.out _ (a2t (hF.dat _ zdm) (hF.dat _ zdm))).mono ?_;rintro e wN ⟨rfl,hb⟩;replace hF:=hF.grow hb;clear hb)|(go_at_call 80;refine (HF.out _ (a2t (hF.dat _ zdm) (hF.dat _ zdm))).mono ?_;rintro e wN ⟨rfl,hb⟩;replace hF:=hF.grow hb;clear hb)|((first|refine zrd ?_|(refine zst ?_;clear hF;(first|intro gN wN hF|intro wN hF|intro hF))|(refine zap ?_;clear hF;intro vN wN hF));refine zs ?_))
 go_cut [2] (fun s wx=>s = .string d2∧wx=wN)
 case first=>
  by_cases h16:data.size=16
  ·rw [if_pos h16] at hd2
   subst hd2
   have hsz:((data.size:Int) != 16)=false:=by simp [h16]
   clear h16
   go_wp2
   go_meet
   exact ⟨rfl,rfl⟩
  ·rw [if_neg h16] at hd2
   subst hd2
   have hsz:((data.size:Int) != 16)=true:=by rw [bne_iff_ne];omega
   clear h16
   go_wp2
   go_meet
   exact ⟨rfl,rfl⟩
 case rest=>
  obtain ⟨rfl,rfl⟩:=hcut
  go_wp2_with ((first|(go_at_call 120;refine (HR.out _ (a2t (hF.dat _ zdm) (hF.dat _ zdm))).mono ?_;rintro e wN ⟨rfl,hb⟩;replace hF:=hF.grow hb;clear hb)|(go_at_call 80;refine (HF.out _ (a2t (hF.dat _ zdm) (hF.dat _ zdm))).mono ?_;rintro e wN ⟨rfl,hb⟩;replace hF:=hF.grow hb;clear hb)|((first|refine zrd ?_|(refine zst ?_;clear hF;(first|intro gN wN hF|intro wN hF|intro hF))|(refine zap ?_;clear hF;intro vN wN hF));refine zs ?_)))
  refine a1n (by kernel_rfl) hF [.blk _ 35 [.int .i64 ways,.slice A n c]] [a1a 3 sA m sc (wys ws),a1a 1 A n c (csv S),a1l S] (by ((repeat (first|exact a1f|refine a1m zdm ?_)) <;> exact a1f)) (by ((repeat (first|exact a1f|refine a1m zdm ?_)) <;> exact a1f)) ?_
  clear hF;intro hF hH
  refine zp 0 hH ?_
  refine a1c 1 hH ?_
  refine zk3 2 hH ?_
  refine zk1 3 hH ?_
  refine zk0 4 hH ?_
  refine zp 5 hH ?_
  refine zry 6 (fun K hK=>?_)
  go_wp2_with ((refine w_alloc rfl hF ?_;clear hF;intro gN wN hF);refine zs ?_)
  have hH:=hH.nextA hF;refine hK.out _ _ hH ?_;clear hK;refine zs ?_
  refine zry 7 (fun K hK=>?_)
  go_wp2_with (refine zwr ?_;clear hF;intro wN hF;(try refine zs ?_))
  have hH:=hH.nextA hF;refine hK.out _ _ hH ?_;clear hK;refine zs ?_
  refine a2a 8 hH ?_
  refine zrz ?_
  go_wp2_with ((first|(go_at_call 63;refine (a6u x _ hx).mono ?_;rintro e wN ⟨rfl,d,rfl⟩;replace hF:=hF.grow (Bel.drewN _ d))|((first|refine zrd ?_|(refine zst ?_;clear hF;(first|intro gN wN hF|intro wN hF|intro hF))|(refine zap ?_;clear hF;intro vN wN hF));refine zs ?_)))
  refine a1n (by kernel_rfl) hF [] [a1a 3 sA m sc (wys ws)] (by ((repeat (first|exact a1f|refine a1m zdm ?_)) <;> exact a1f)) (by ((repeat (first|exact a1f|refine a1m zdm ?_)) <;> exact a1f)) ?_
  clear hF;intro hF hH
  refine a1c 0 hH ?_
  refine a1c 1 hH ?_
  refine zk2 2 hH ?_
  refine zk0 3 hH ?_
  refine a1c 4 hH ?_
  refine a1c 5 hH ?_
  refine zk4 6 hH ?_
  refine zry 7 (fun K hK=>?_)
  go_wp2_with (refine zwr ?_;clear hF;intro wN hF;(try refine zs ?_))
  have hH:=hH.nextA hF;refine hK.out _ _ hH ?_;clear hK;refine zs ?_
  refine a2a 8 hH ?_
  refine zrz ?_
  have hF:=hF.toPart (N:=l) (sz:=3) (A:=sA) (n:=m) (c:=sc) (xs:=wys ws) zdm (by omega)
  rw [c3g] at hF
  go_wp2_with ((first|(go_at_call 63;refine (a6u x _ hx).mono ?_;rintro e wN ⟨rfl,d,rfl⟩;replace hF:=hF.grow (Bel.drewN _ d))|(refine zg6 ?_;clear hF;intro gN wN hF)|((first|refine zrd ?_|(refine zst ?_;clear hF;(first|intro gN wN hF|intro wN hF|intro hF))|(refine zap ?_;clear hF;intro vN wN hF));refine zs ?_)))
  rw [show []++wys (ws.take l)++[Value.int .u32 ((x - x % 16:Nat):Int),.bool dirty,.string d2]=wys (ws.take l++[nw]) by rw [hnw];simp [wys,Wy.cells],show 0+l+1=l+1 by omega] at hF
  obtain ⟨A3,c3,rfl,hF⟩:=hF.freeze 0 at0
  (try simp only [zF] at hF)
  refine a1n (by kernel_rfl) hF [.blk _ 101 gv.cells,.blk _ 35 [.int .i64 ways,.slice A n c]] [a1a 3 A3 (l+1) c3 (wys (ws.take l++[nw])),a1a 3 sA m sc (wys ws),a1a 1 A n c (csv S),a1l S] (by ((repeat (first|exact a1f|refine a1m zdm ?_)) <;> exact a1f)) (by ((repeat (first|exact a1f|refine a1m zdm ?_)) <;> exact a1f)) ?_
  clear hF;intro hF hH
  refine zk0 0 hH ?_
  refine a1c 1 hH ?_
  refine a1c 2 hH ?_
  refine a1c 3 hH ?_
  refine zk3 4 hH ?_
  refine zk0 7 hH ?_
  refine a1c 8 hH ?_
  refine zry 5 (fun K hK=>?_)
  go_wp2_with ((first|(go_at_call 124;refine (a8u _ _ _ ((ws.take l)++[nw]) _ nw _ (hF.rd zdm) (by omega) hvn).mono ?_;rintro e wN ⟨xF,rfl,hb,ho⟩;replace hF:=hF.pushOwn hb ho;clear hb ho;rw [hfr] at hF)|(go_at_call 125;obtain ⟨A2,c2,rfl,hF⟩:=hF.freeze 0 at0;(try simp only [List.eraseIdx_cons_zero] at hF);refine (a8e ways A n c S k _ _ _ (nw::(ws.take l)) _ (a2t (hF.dat _ zdm) (hF.dat _ zdm)) hn hk (hF.dat _ zdm)).mono ?_;rintro e wN ⟨_,rfl,A',n',c',S',rfl,hO,hC⟩;replace hF:=hF.callA hO;clear hO)))
  have hH:=hH.nextA hF;refine hK.out _ _ hH ?_;clear hK;refine zs ?_
  refine zry 6 (fun K hK=>?_)
  go_wp2_with ((first|(go_at_call 124;refine (a8u _ _ _ ((ws.take l)++[nw]) _ nw _ (hF.rd zdm) (by omega) hvn).mono ?_;rintro e wN ⟨xF,rfl,hb,ho⟩;replace hF:=hF.pushOwn hb ho;clear hb ho;rw [hfr] at hF)|(go_at_call 125;obtain ⟨A2,c2,rfl,hF⟩:=hF.freeze 0 at0;(try simp only [List.eraseIdx_cons_zero] at hF);refine (a8e ways A n c S k _ _ _ (nw::(ws.take l)) _ (a2t (hF.dat _ zdm) (hF.dat _ zdm)) hn hk (hF.dat _ zdm)).mono ?_;rintro e wN ⟨_,rfl,A',n',c',S',rfl,hO,hC⟩;replace hF:=hF.callA hO;clear hO)))
  have hH:=hH.nextA hF;refine hK.out _ _ hH ?_;clear hK;refine zs ?_
  refine zry 9 (fun K hK=>?_)
  go_wp2_with (refine zwr ?_;clear hF;intro wN hF;(try refine zs ?_))
  have hH:=hH.nextA hF;refine hK.out _ _ hH ?_;clear hK;refine zs ?_
  refine zry 10 (fun K hK=>?_)
  go_wp2_with (refine zwr ?_;clear hF;intro wN hF;(try refine zs ?_))
  have hH:=hH.nextA hF;refine hK.out _ _ hH ?_;clear hK;refine zs ?_
  refine a2a 11 hH ?_
  refine zrz ?_
  go_wp2_with (((first|refine zrd ?_|(refine zst ?_;clear hF;(first|intro gN wN hF|intro wN hF|intro hF))|(refine zap ?_;clear hF;intro vN wN hF));refine zs ?_))
  ((try simp only [Exit.inBlock,Exit.then]);refine bodyPost_ret (b3e rfl hF) rfl ?_)
  exact ⟨_,rfl,A',n',c',S',rfl,hF.out (by ((repeat (first|exact a1f|refine a1m zdm ?_)) <;> exact a1f)),hC⟩
end
section
open Go.RowKit Go.Sort
theorem g6p (ways:Int) (A:Option Addr) (n c x:Nat) (data:ByteArray) (dirty:Bool) (S:List Cs) (w:World) (hr:RdS w w.heap.size A n c S) (HR:Hid (b2d 120 ways A n c S false)) :
  Calls Tryz.prog 66 #[.agg #[.int .i64 ways,.slice A n c],.int .u32 (x:Int),.string data,.bool dirty] w fun e w'=>e = .returned (.tuple #[.agg #[.int .i64 ways,.slice A n c],c4k,.bool false])∧Bel w w':=by
 have hF:=St.start w _ (a6j hr)
 unfold a3k at hF
 go_enter Tryz.func66,Tryz.ntmps66
 go_wp2_with ((first|(go_at_call 120;refine (HR.out _ (a2t (hF.dat _ zdm) (hF.dat _ zdm))).mono ?_;rintro e wN ⟨rfl,hb⟩;replace hF:=hF.grow hb;clear hb)|((first|refine zrd ?_|(refine zst ?_;clear hF;(first|intro gN wN hF|intro wN hF|intro hF))|(refine zap ?_;clear hF;intro vN wN hF));refine zs ?_)))
 ((try simp only [Exit.inBlock,Exit.then]);refine bodyPost_ret (b3e rfl hF) rfl ?_)
 exact ⟨rfl,hF.bel⟩
theorem g6q (ways:Int) (A:Option Addr) (n c x:Nat) (data:ByteArray) (dirty:Bool) (S:List Cs) (k at':Nat) (ws:List Wy) (v:Wy) (w:World) (hr:RdS w w.heap.size A n c S) (hn:n≤1000) (hk:k<n) (hset:(a1j S)[k]?=some ws) (hws:ws.length≤1000) (hv:ws[at']?=some v)
  (HR:Hid (b2d 120 ways A n c S true)) (HF:Hid (a8v 80 ways A n c x S k at' true)) :
  Calls Tryz.prog 66 #[.agg #[.int .i64 ways,.slice A n c],.int .u32 (x:Int),.string data,.bool dirty] w fun e w'=>∃ y,e = .returned (.tuple #[y,c4k,.bool false])∧CRes w (a3k A n c S) ways y w' ((a1j S).set k (a3t ws at' ⟨v.line,v.dirty || dirty,if data.size=16 then data else v.data⟩)):=by
 have hF:=St.start w _ (a6j hr)
 unfold a3k at hF
 obtain ⟨sA,m,sc,hS⟩:=b3m hset
 have hF:=hF.elem (List.Mem.tail _ (List.Mem.head _)) hS
 simp only at hF
 have hse:=(hF.rd (List.Mem.head _)).wyslen
 have hat:=(List.getElem?_eq_some_iff.1 hv).1
 clear hset
 obtain ⟨d2,hd2⟩:∃ d2,(if data.size=16 then data else v.data)=d2:=⟨_,rfl⟩
 obtain ⟨dt,hdt⟩:∃ dt,(v.dirty || dirty)=dt:=⟨_,rfl⟩
 rw [hd2,hdt]
 go_enter Tryz.func66,Tryz.ntmps66
 by_cases h16:data.size=16
 ·rw [if_pos h16] at hd2
  subst hd2
  have hsz:((data.size:Int) != 16)=false:=by simp [h16]
  have hne:=b7e (d:=data) (by omega)
  clear h16
  cases hvd:v.dirty
  ·rw [hvd] at hdt
   simp only [Bool.false_or] at hdt
   subst hdt
   go_wp2_with ((first|(go_at_call 120;refine (HR.out _ (a2t (hF.dat _ zdm) (hF.dat _ zdm))).mono ?_;rintro e wN ⟨rfl,hb⟩;replace hF:=hF.grow hb;clear hb)|(go_at_call 80;refine (HF.out _ (a2t (hF.dat _ zdm) (hF.dat _ zdm))).mono ?_;rintro e wN ⟨rfl,hb⟩;replace hF:=hF.grow hb;clear hb)|(go_at_call 124;refine (a8u _ _ _ ws at' v _ (hF.rd zdm) (by omega) hv).mono ?_;rintro e wN ⟨xF,rfl,hb,ho⟩;replace hF:=hF.pushOwn hb ho;clear hb ho;obtain ⟨gS,cS,rfl,hcS,hmS⟩:=hF.ownSome at0 (by omega);rw [show wys (a3t ws at' v)=Value.int .u32 (v.line:Int) :: .bool v.dirty :: .string v.data::wys (ws.take at'++ws.drop (at'+1)) from rfl] at hF)|(go_at_call 125;obtain ⟨A2,c2,hfz,hF⟩:=hF.freeze 0 at0;injection hfz with hfz1 _ hfz2;subst hfz1 hfz2;(try simp only [List.eraseIdx_cons_zero] at hF);refine (a8e ways A n c S k _ m _ (⟨v.line,dirty,data⟩::(ws.take at'++ws.drop (at'+1))) _ (a2t (hF.dat _ zdm) (hF.dat _ zdm)) hn hk (hF.dat _ zdm)).mono ?_;rintro e wN ⟨_,rfl,A',n',c',S',rfl,hO,hC⟩;replace hF:=hF.callA hO;clear hO)|refine zg4 ?_|((first|refine zrd ?_|(refine zst ?_;clear hF;(first|intro gN wN hF|intro wN hF|intro hF))|(refine zap ?_;clear hF;intro vN wN hF));refine zs ?_)))
   ((try simp only [Exit.inBlock,Exit.then]);refine bodyPost_ret (b3e rfl hF) rfl ?_)
   exact ⟨_,rfl,A',n',c',S',rfl,hF.out (by ((repeat (first|exact a1f|refine a1m zdm ?_)) <;> exact a1f)),hC⟩
  ·rw [hvd] at hdt
   simp only [Bool.true_or] at hdt
   subst hdt
   go_wp2_with ((first|(go_at_call 120;refine (HR.out _ (a2t (hF.dat _ zdm) (hF.dat _ zdm))).mono ?_;rintro e wN ⟨rfl,hb⟩;replace hF:=hF.grow hb;clear hb)|(go_at_call 80;refine (HF.out _ (a2t (hF.dat _ zdm) (hF.dat _ zdm))).mono ?_;rintro e wN ⟨rfl,hb⟩;replace hF:=hF.grow hb;clear hb)|(go_at_call 124;refine (a8u _ _ _ ws at' v _ (hF.rd zdm) (by omega) hv).mono ?_;rintro e wN ⟨xF,rfl,hb,ho⟩;replace hF:=hF.pushOwn hb ho;clear hb ho;obtain ⟨gS,cS,rfl,hcS,hmS⟩:=hF.ownSome at0 (by omega);rw [show wys (a3t ws at' v)=Value.int .u32 (v.line:Int) :: .bool v.dirty :: .string v.data::wys (ws.take at'++ws.drop (at'+1)) from rfl] at hF)|(go_at_call 125;obtain ⟨A2,c2,hfz,hF⟩:=hF.freeze 0 at0;injection hfz with hfz1 _ hfz2;subst hfz1 hfz2;(try simp only [List.eraseIdx_cons_zero] at hF);refine (a8e ways A n c S k _ m _ (⟨v.line,true,data⟩::(ws.take at'++ws.drop (at'+1))) _ (a2t (hF.dat _ zdm) (hF.dat _ zdm)) hn hk (hF.dat _ zdm)).mono ?_;rintro e wN ⟨_,rfl,A',n',c',S',rfl,hO,hC⟩;replace hF:=hF.callA hO;clear hO)|refine zg4 ?_|((first|refine zrd ?_|(refine zst ?_;clear hF;(first|intro gN wN hF|intro wN hF|intro hF))|(refine zap ?_;clear hF;intro vN wN hF));refine zs ?_)))
   ((try simp only [Exit.inBlock,Exit.then]);refine bodyPost_ret (b3e rfl hF) rfl ?_)
   exact ⟨_,rfl,A',n',c',S',rfl,hF.out (by ((repeat (first|exact a1f|refine a1m zdm ?_)) <;> exact a1f)),hC⟩
 ·rw [if_neg h16] at hd2
  subst hd2
  have hsz:¬ ((data.size:Int)=16):=by omega
  clear h16
  cases hvd:v.dirty
  ·rw [hvd] at hdt
   simp only [Bool.false_or] at hdt
   subst hdt
   go_wp2_with ((first|(go_at_call 120;refine (HR.out _ (a2t (hF.dat _ zdm) (hF.dat _ zdm))).mono ?_;rintro e wN ⟨rfl,hb⟩;replace hF:=hF.grow hb;clear hb)|(go_at_call 80;refine (HF.out _ (a2t (hF.dat _ zdm) (hF.dat _ zdm))).mono ?_;rintro e wN ⟨rfl,hb⟩;replace hF:=hF.grow hb;clear hb)|(go_at_call 124;refine (a8u _ _ _ ws at' v _ (hF.rd zdm) (by omega) hv).mono ?_;rintro e wN ⟨xF,rfl,hb,ho⟩;replace hF:=hF.pushOwn hb ho;clear hb ho;obtain ⟨gS,cS,rfl,hcS,hmS⟩:=hF.ownSome at0 (by omega);rw [show wys (a3t ws at' v)=Value.int .u32 (v.line:Int) :: .bool v.dirty :: .string v.data::wys (ws.take at'++ws.drop (at'+1)) from rfl] at hF)|(go_at_call 125;obtain ⟨A2,c2,hfz,hF⟩:=hF.freeze 0 at0;injection hfz with hfz1 _ hfz2;subst hfz1 hfz2;(try simp only [List.eraseIdx_cons_zero] at hF);refine (a8e ways A n c S k _ m _ (⟨v.line,dirty,v.data⟩::(ws.take at'++ws.drop (at'+1))) _ (a2t (hF.dat _ zdm) (hF.dat _ zdm)) hn hk (hF.dat _ zdm)).mono ?_;rintro e wN ⟨_,rfl,A',n',c',S',rfl,hO,hC⟩;replace hF:=hF.callA hO;clear hO)|refine zg4 ?_|((first|refine zrd ?_|(refine zst ?_;clear hF;(first|intro gN wN hF|intro wN hF|intro hF))|(refine zap ?_;clear hF;intro vN wN hF));refine zs ?_)))
   ((try simp only [Exit.inBlock,Exit.then]);refine bodyPost_ret (b3e rfl hF) rfl ?_)
   exact ⟨_,rfl,A',n',c',S',rfl,hF.out (by ((repeat (first|exact a1f|refine a1m zdm ?_)) <;> exact a1f)),hC⟩
  ·rw [hvd] at hdt
   simp only [Bool.true_or] at hdt
   subst hdt
   go_wp2_with ((first|(go_at_call 120;refine (HR.out _ (a2t (hF.dat _ zdm) (hF.dat _ zdm))).mono ?_;rintro e wN ⟨rfl,hb⟩;replace hF:=hF.grow hb;clear hb)|(go_at_call 80;refine (HF.out _ (a2t (hF.dat _ zdm) (hF.dat _ zdm))).mono ?_;rintro e wN ⟨rfl,hb⟩;replace hF:=hF.grow hb;clear hb)|(go_at_call 124;refine (a8u _ _ _ ws at' v _ (hF.rd zdm) (by omega) hv).mono ?_;rintro e wN ⟨xF,rfl,hb,ho⟩;replace hF:=hF.pushOwn hb ho;clear hb ho;obtain ⟨gS,cS,rfl,hcS,hmS⟩:=hF.ownSome at0 (by omega);rw [show wys (a3t ws at' v)=Value.int .u32 (v.line:Int) :: .bool v.dirty :: .string v.data::wys (ws.take at'++ws.drop (at'+1)) from rfl] at hF)|(go_at_call 125;obtain ⟨A2,c2,hfz,hF⟩:=hF.freeze 0 at0;injection hfz with hfz1 _ hfz2;subst hfz1 hfz2;(try simp only [List.eraseIdx_cons_zero] at hF);refine (a8e ways A n c S k _ m _ (⟨v.line,true,v.data⟩::(ws.take at'++ws.drop (at'+1))) _ (a2t (hF.dat _ zdm) (hF.dat _ zdm)) hn hk (hF.dat _ zdm)).mono ?_;rintro e wN ⟨_,rfl,A',n',c',S',rfl,hO,hC⟩;replace hF:=hF.callA hO;clear hO)|refine zg4 ?_|((first|refine zrd ?_|(refine zst ?_;clear hF;(first|intro gN wN hF|intro wN hF|intro hF))|(refine zap ?_;clear hF;intro vN wN hF));refine zs ?_)))
   ((try simp only [Exit.inBlock,Exit.then]);refine bodyPost_ret (b3e rfl hF) rfl ?_)
   exact ⟨_,rfl,A',n',c',S',rfl,hF.out (by ((repeat (first|exact a1f|refine a1m zdm ?_)) <;> exact a1f)),hC⟩
end
end Go.Proofs.YtgnomadgnciifaaGreatDoor
