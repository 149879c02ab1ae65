/- . -/
import Derived.Test.YtgnomadgnciifaaGreatDoorZ5
set_option linter.unusedVariables false
set_option linter.unusedSimpArgs false
set_option linter.unusedSectionVars false
set_option maxRecDepth 100000
set_option maxHeartbeats 16000000
namespace Go.Proofs.YtgnomadgnciifaaGreatDoor
theorem d4r {p:Prop} (h:p:=by
 clear hsnoc hok hrt
 go_wp2_with ((first|(refine b5r ?_;clear hF;intro wN hF)|((refine w_ldp (v:=e.inst.val) (n:=5) rfl hF rfl ?_ (hn:=Nat.le_of_ble_eq_true rfl));(try refine zs ?_))|((first|refine zrd ?_|(refine zst ?_;clear hF;(first|intro gN wN hF|intro wN hF|intro hF))|(refine zap ?_;clear hF;intro vN wN hF));refine zs ?_)))
 go_roundw
 case rel=>exact ⟨k+1,_,by omega,by go_num,by rw [← happ.out];exact hF.drop 0⟩
 case measure=>first|(simp [intOf];done)|(simp [intOf];omega)):p:=h
theorem d4s {p:Prop} (h:p:=by
 go_wp2_with ((first|(refine c7l ?_;clear hF;intro wN hF)|(go_at_call 202;refine (Roots_any _ _ _ _ _ hF.rdA hq hn).mono ?_;rintro x wN ⟨A2,c2,rfl,hO⟩;replace hF:=hF.call1A hO;clear hO)|((first|refine zrd ?_|(refine zst ?_;clear hF;(first|intro gN wN hF|intro wN hF|intro hF))|(refine zap ?_;clear hF;intro vN wN hF));refine zs ?_)))
 go_ret
 exact ⟨by simp [h1],hF.bel⟩):p:=h
section
open Go.RowKit Wd
theorem b1l {op:Int} {F:Int} (hf:a1o op=F) (x:Nat):a2g op x=⟨op,if (a2e F).1 then a5j x 7 5 else 0,if (a2e F).2.1 then a5j x 15 5 else 0,if (a2e F).2.2 then a5j x 20 5 else 0,
  if F=3 then (a1x x (a1g F).1).1 * 2 ^ (a1g F).2 % 4294967296 else a6k ((a1x x (a1g F).1).1 * 2 ^ (a1g F).2 % 4294967296) ((a1x x (a1g F).1).2+(a1g F).2)⟩:=by
 subst hf;rfl
end
section
open Go.RowKit
theorem g5w (s:Stp) (h:¬ (s.store=true∧s.halt=0∧(s.size=1∨s.size=2∨s.size=4))) :
  s.store=false∨(s.store=true∧(s.halt == 0)=false∧(s.halt != 0)=true)∨(s.store=true∧s.halt=0∧(s.size == 1)=false∧(s.size != 1)=true∧(s.size == 2)=false∧(s.size != 2)=true∧(s.size == 4)=false∧(s.size != 4)=true):=by
 cases h1:s.store with
 | false=>exact .inl rfl
 | true=>
  by_cases h2:s.halt=0
  ·refine .inr (.inr ⟨rfl,h2,?_⟩)
   have h3:s.size≠1:=fun e=>h ⟨h1,h2,.inl e⟩
   have h4:s.size≠2:=fun e=>h ⟨h1,h2,.inr (.inl e)⟩
   have h5:s.size≠4:=fun e=>h ⟨h1,h2,.inr (.inr e)⟩
   simp [h3,h4,h5]
  ·exact .inr (.inl ⟨rfl,by simpa using h2,by simpa using h2⟩)
def b9y (a:Nat) (d:ByteArray):Value:=.agg #[.int .u32 (a:Int),.string d]
theorem g5x : RowTy Tryz.prog 109 2:=⟨_,Tryz.underlying109,rfl,by kernel_rfl⟩
theorem g5y (s:Stp) (w:World) (n:Int) (m:Nat) (hm:(m:Int)=n) (hn:n=1∨n=2∨n=4) (hv:s.value<4294967296) (h1:s.store=true) (h2:s.halt=0) (h3:s.size=n) :
  Calls Tryz.prog 72 #[s.val] w fun e w'=>e = .returned (.tuple #[b9y s.addr ⟨(Wd.bytesL s.value m).toArray⟩,.bool true])∧Bel w w':=by
 have hb:∀ W,Calls Tryz.prog 129 #[.int .u32 (s.value:Int),.int .i64 n] W fun e w'=>e = .returned (.tuple #[.string ⟨(Wd.bytesL s.value m).toArray⟩,.int .i64 0])∧Bel W w':=by
  intro W;rw [← hm];exact Wd.Bytes_any s.value m W hv (by omega)
 have HB:=Lib.hid hb
 clear hb
 obtain ⟨pc,next,rd,value,addr,size,store,halt,took⟩:=s
 simp only at h1 h2 h3
 subst h1 h2 h3
 unfold Stp.val b9y
 rcases hn with rfl|rfl|rfl
 all_goals
  have Hm:=Lib.hid hm
  clear hm
  go_enter Tryz.func72,Tryz.ntmps72
  go_wp2_with (go_at_call 129;refine (HB.out _).mono ?_;rintro e w1 ⟨rfl,hb1⟩;obtain ⟨hc1,hf1⟩:=c8q hb1;have hz1:w.heap.size+1<w1.heap.size:=by have:=hb1.size;simp at this;omega)
  refine bodyPost_ret (c8w rfl (by rfl) ((((Bk.new' _ 109 [.int .u32 0,.string ⟨#[]⟩] (w.heap.size+1) (by simp)).bel hb1).set_ 0 _).set_ 1 _) g5x) rfl ⟨rfl,?_⟩
  exact ((((Bel.alloc w _).trans (Bel.alloc _ _)).trans hb1).setCell (by simp) _).setCell (by simp) _
theorem g5z (s:Stp) (w:World) (h:¬ (s.store=true∧s.halt=0∧(s.size=1∨s.size=2∨s.size=4))) :
  Calls Tryz.prog 72 #[s.val] w fun e w'=>e = .returned (.tuple #[b9y 0 ⟨#[]⟩,.bool false])∧Bel w w':=by
 have key:=g5w s h
 clear h
 obtain ⟨pc,next,rd,value,addr,size,store,halt,took⟩:=s
 simp only at key
 unfold Stp.val b9y
 rcases key with rfl|⟨rfl,a1,a2⟩|⟨rfl,rfl,a1,a2,a3,a4,a5,a6⟩
 all_goals
  go_enter Tryz.func72,Tryz.ntmps72
  go_wp2
  go_returns
  exact ⟨rfl,(Bel.alloc w _).trans (Bel.alloc _ _)⟩
def zpu : Pu:=⟨0,⟨#[]⟩⟩
def b5d (s:Stp):Pu:=if a6n s=true then ⟨s.addr,a6d s.value s.size⟩ else zpu
theorem g6a (s:Stp) (w:World) (hv:s.value<4294967296) :
  Calls Tryz.prog 72 #[s.val] w fun x w'=>x = .returned (.tuple #[(b5d s).val,.bool (a6n s)])∧Bel w w':=by
 by_cases h:s.store=true∧s.halt=0∧(s.size=1∨s.size=2∨s.size=4)
 ·have hB:a6n s=true:=by simp [a6n,h.1,h.2.1,h.2.2]
  unfold b5d
  rw [hB,if_pos rfl]
  obtain ⟨m,hm⟩:∃ m:Nat,(m:Int)=s.size:=⟨s.size.toNat,by have:=h.2.2;omega⟩
  have hmt:s.size.toNat=m:=by omega
  unfold a6d
  rw [hmt]
  exact g5y s w s.size m hm h.2.2 hv h.1 h.2.1 rfl
 ·have hB:a6n s=false:=by
   simp only [a6n]
   cases hs:s.store
   ·rfl
   ·simp only [Bool.true_and]
    simp only [hs,true_and] at h
    by_cases hh:s.halt=0
    ·simp only [hh,true_and] at h
     simp [hh,h]
    ·simp [hh]
  unfold b5d
  rw [hB,if_neg (by decide)]
  exact g5z s w h
end
section
open Go.RowKit Go.Sort
theorem a8u (A:Option Addr) (n c:Nat) (q:List Wy) (i:Nat) (v:Wy) (w:World) (hr:Rd w w.heap.size 3 A n c (wys q)) (hn:n≤1000) (hv:q[i]?=some v) :
  Calls Tryz.prog 124 #[.slice A n c,.int .i64 (i:Int)] w fun e w'=>∃ x,e = .returned x∧Bel w w'∧w'.ownsRow w.heap.size 101 3 x n (wys (a3t q i v)):=by
 have hin:i<n:=by have:=(List.getElem?_eq_some_iff.1 hv).1;rw [hr.wyslen] at this;exact this
 have hF:=St.start w [a1a 3 A n c (wys q)] (by intro d hd;obtain rfl:=List.mem_singleton.1 hd;exact hr)
 have hc1:=hr.le
 have hc2:=hr.mx
 unfold maxLen at hc2
 have hin':i≤n:=by omega
 have hin2:i+1≤n:=by omega
 go_enter Tryz.func124,Tryz.ntmps124
 go_wp2_with (((first|refine zrd ?_|(refine zst ?_;clear hF;(first|intro gN wN hF|intro wN hF|intro hF))|(refine zap ?_;clear hF;intro vN wN hF));refine zs ?_))
 go_ret
 have ho:=hF.ownAt at0
 rw [c3g,f6p,show 0+1+i+(n - (i+1))=n by omega] at ho
 refine ⟨_,rfl,hF.bel,?_⟩
 have e:[]++v.cells++wys (q.take i)++wys (q.drop (i+1))=wys (a3t q i v):=by simp [a3t,wys]
 rw [e] at ho
 exact ho
theorem a8e (ways:Int) (A:Option Addr) (n c:Nat) (S:List Cs) (k:Nat) (A2:Option Addr) (n2 c2:Nat) (q2:List Wy) (w:World) (hr:RdS w w.heap.size A n c S) (hn:n≤1000) (hk:k<n) (h2:Rd w w.heap.size 3 A2 n2 c2 (wys q2)) :
  Calls Tryz.prog 125 #[.agg #[.int .i64 ways,.slice A n c],.int .i64 (k:Int),.slice A2 n2 c2] w fun e w'=>∃ x,e = .returned x∧CRes w [a1a 1 A n c (csv S),a1l S,a1a 3 A2 n2 c2 (wys q2)] ways x w' ((a1j S).set k q2):=by
 have hF:=St.start w _ (g5k hr h2)
 have hc1:=hr.rd.le
 have hc2:=hr.rd.mx
 unfold maxLen at hc2
 have hsl:=hr.slen
 have hl1:k * 1<(csv S).length:=by rw [b2z];omega
 go_enter Tryz.func125,Tryz.ntmps125
 go_wp2_with ((first|(refine zg3 ?_;clear hF;intro gN wN hF)|(refine c9q rfl rfl hF (by (first|exact tySl_22|exact tySl_23|exact tySl_30|exact tySl_31|exact tySl_32|exact tySl_33|exact tySl_36|exact tySl_37|exact tySl_40|exact tySl_66|exact tySl_72|exact tySl_99|exact tySl_104|exact tySl_136|exact tySl_207)) rfl rfl zdm (by exact zat) (by first|exact rfl|(simp [madeCells];done)|(simp [madeCells,b8u];omega)) (by (first|((repeat (first|exact b2y|refine b4c (by (first|rfl|exact hF.ownOne at0|exact hF.ownOne at1|exact hF.ownOne at2|exact hF.ownOne at3|exact hF.ownOne at4)) ?_)) <;> exact b2y)|exact Wy.one _|(first|exact b6o _|exact c3i _|exact b8r _|exact b6m _|exact b8l _|assumption)|exact c9i (by (first|exact b6o _|exact c3i _|exact b8r _|exact b6m _|exact b8l _|assumption)) _|exact drop_one (by (first|exact b6o _|exact c3i _|exact b8r _|exact b6m _|exact b8l _|assumption)) _)) rfl ?_;clear hF;intro wN hF;(try simp only [zF] at hF))|refine zg4 ?_|((first|refine zrd ?_|(refine zst ?_;clear hF;(first|intro gN wN hF|intro wN hF|intro hF))|(refine zap ?_;clear hF;intro vN wN hF));refine zs ?_)))
 have hF:=hF.freezeB 0 at0 1 n n (by simp [b2z,hsl]) (Nat.le_refl _) (by unfold maxLen;omega)
 (try simp only [zF] at hF)
 rw [Nat.mul_one,show Value.slice A2 n2 c2=(Cs.mk A2 n2 c2 q2).val from rfl,c9k] at hF
 have hF:=hF.elemSet zdm k (A2:=A2) (n2:=n2) (c2:=c2) (q2:=q2) zdm
 go_wp2_with (((first|refine zrd ?_|(refine zst ?_;clear hF;(first|intro gN wN hF|intro wN hF|intro hF))|(refine zap ?_;clear hF;intro vN wN hF));refine zs ?_))
 ((try simp only [Exit.inBlock,Exit.then]);refine bodyPost_ret (a2x rfl hF) rfl ?_)
 exact ⟨_,rfl,_,_,_,_,rfl,hF.out (by ((repeat (first|exact a1f|refine a1m zdm ?_)) <;> exact a1f)),c9l _ _ _⟩
end
section
open Go.RowKit Go.Sort
def a8v (f:FuncId) (ways:Int) (A:Option Addr) (n c x:Nat) (S:List Cs) (k at':Nat) (b:Bool):Prop :=
 ∀ W,RdS W W.heap.size A n c S→Calls Tryz.prog f #[.agg #[.int .i64 ways,.slice A n c],.int .u32 (x:Int)] W fun e w'=>e = .returned (.tuple #[.int .i64 (k:Int),.int .i64 (at':Int),.bool b])∧Bel W w'
def b2d (f:FuncId) (ways:Int) (A:Option Addr) (n c:Nat) (S:List Cs) (b:Bool):Prop :=
 ∀ W,RdS W W.heap.size A n c S→Calls Tryz.prog f #[.agg #[.int .i64 ways,.slice A n c]] W fun e w'=>e = .returned (.bool b)∧Bel W w'
theorem b3m {S:List Cs} {k:Nat} {ws:List Wy} (h:(a1j S)[k]?=some ws):∃ sA m sc,S[k]?=some ⟨sA,m,sc,ws⟩:=by
 cases hs:S[k]? with
 | none=>simp [a1j,List.getElem?_map,hs] at h
 | some s=>
  obtain ⟨sA,m,sc,sws⟩:=s
  simp only [a1j,List.getElem?_map,hs,Option.map_some,Option.some.injEq] at h
  exact ⟨sA,m,sc,by rw [h]⟩
theorem b7e {d:ByteArray} (h:d.size≠0):d.toList.isEmpty=false:=by
 rw [ByteArray.toList_eq]
 obtain ⟨⟨l⟩⟩:=d
 cases l with
 | nil=>exact absurd rfl h
 | cons a r=>rfl
theorem c4j {d:ByteArray} (h:d.size=0):d.toList.isEmpty=true:=by
 rw [ByteArray.toList_eq]
 obtain ⟨⟨l⟩⟩:=d
 cases l with
 | nil=>rfl
 | cons a r=>exact absurd h (by simp [ByteArray.size])
def c4k : Value:=.agg #[.int .u32 0,.bool false,.string ⟨#[]⟩]
def a8f (data:ByteArray):ByteArray:=if data.size=16 then data else ⟨#[]⟩
theorem d4t (q:List Wy) (v:Wy):a3t (q++[v]) q.length v=v::q:=by
 simp [a3t]
end
section
open Go.RowKit Go.Sort
theorem b9z {S:List Cs} {k:Nat} {A:Option Addr} {n c:Nat} {q:List Wy} (h:S[k]?=some ⟨A,n,c,q⟩):(a1j S)[k]?=some q:=by simp [a1j,h]
end
section
open Go.RowKit Go.Sort
def b1m : Cs:=⟨none,0,0,[]⟩
theorem St.elemNil {w0 w:World} {D0 D:List Da} {M:List Mu} (h:St w0 D0 w M D) (k:Nat):St w0 D0 w M (a1l (List.replicate k b1m)::D) :=
 h.part _ (fun s hs=>by
  obtain rfl:=List.eq_of_mem_replicate hs
  exact Rd.nil (Nat.zero_le _)) fun g hg=>by
  obtain ⟨s,hs,hg⟩:=hg
  obtain rfl:=List.eq_of_mem_replicate hs
  exact absurd hg.1 (by decide)
end
section
open Go.RowKit Go.Sort
theorem g6b (ways:Int) (A:Option Addr) (n c x:Nat) (S:List Cs) (k at':Nat) (w:World) (hr:RdS w w.heap.size A n c S) (HF:Hid (a8v 80 ways A n c x S k at' false)) :
  Calls Tryz.prog 84 #[.agg #[.int .i64 ways,.slice A n c],.int .u32 (x:Int)] w fun e w'=>e = .returned (.agg #[.int .i64 ways,.slice A n c])∧Bel w w':=by
 have hF:=St.start w _ (a6j hr)
 unfold a3k at hF
 go_enter Tryz.func84,Tryz.ntmps84
 go_wp2_with ((first|(go_at_call 80;refine (HF.out _ (a2t (hF.dat _ zdm) (hF.dat _ zdm))).mono ?_;rintro e wN ⟨rfl,hb⟩;replace hF:=hF.grow hb;clear hb)|((first|refine zrd ?_|(refine zst ?_;clear hF;(first|intro gN wN hF|intro wN hF|intro hF))|(refine zap ?_;clear hF;intro vN wN hF));refine zs ?_)))
 ((try simp only [Exit.inBlock,Exit.then]);refine bodyPost_ret (a2x rfl hF) rfl ?_)
 exact ⟨rfl,hF.bel⟩
theorem g6c (ways:Int) (A:Option Addr) (n c x:Nat) (S:List Cs) (k at':Nat) (ws:List Wy) (v:Wy) (w:World) (hr:RdS w w.heap.size A n c S) (hn:n≤1000) (hk:k<n) (hset:(a1j S)[k]?=some ws) (hws:ws.length≤1000) (hv:ws[at']?=some v)
  (HF:Hid (a8v 80 ways A n c x S k at' true)) :
  Calls Tryz.prog 84 #[.agg #[.int .i64 ways,.slice A n c],.int .u32 (x:Int)] w fun e w'=>∃ x,e = .returned x∧CRes w (a3k A n c S) ways x w' ((a1j S).set k (a3t ws at' v)):=by
 have hF:=St.start w _ (a6j hr)
 unfold a3k at hF
 obtain ⟨sA,m,sc,hS⟩:=b3m hset
 have hF:=hF.elem (List.Mem.tail _ (List.Mem.head _)) hS
 simp only at hF
 have hse:=(hF.rd (List.Mem.head _)).wyslen
 clear hset
 go_enter Tryz.func84,Tryz.ntmps84
 go_wp2_with ((first|(go_at_call 80;refine (HF.out _ (a2t (hF.dat _ zdm) (hF.dat _ zdm))).mono ?_;rintro e wN ⟨rfl,hb⟩;replace hF:=hF.grow hb;clear hb)|((first|refine zrd ?_|(refine zst ?_;clear hF;(first|intro gN wN hF|intro wN hF|intro hF))|(refine zap ?_;clear hF;intro vN wN hF));refine zs ?_)))
 refine a1n (by kernel_rfl) hF [.blk _ 35 [.int .i64 ways,.slice A n c]] [a1a 3 sA m sc (wys ws),a1a 1 A n c (csv S),a1l S] (by ((repeat (first|exact a1f|refine a1m zdm ?_)) <;> exact a1f)) (by ((repeat (first|exact a1f|refine a1m zdm ?_)) <;> exact a1f)) ?_
 clear hF;intro hF hH
 refine zk0 0 hH ?_
 refine a1c 1 hH ?_
 refine zk1 2 hH ?_
 refine zk0 3 hH ?_
 refine a1c 4 hH ?_
 refine zk2 5 hH ?_
 refine zk0 6 hH ?_
 refine a1c 7 hH ?_
 refine zry 8 (fun K hK=>?_)
 go_wp2_with ((first|(go_at_call 124;refine (a8u _ _ _ ws at' v _ (hF.rd zdm) (by omega) hv).mono ?_;rintro e wN ⟨xF,rfl,hb,ho⟩;replace hF:=hF.pushOwn hb ho;clear hb ho)|(go_at_call 125;obtain ⟨A2,c2,rfl,hF⟩:=hF.freeze 0 at0;(try simp only [List.eraseIdx_cons_zero] at hF);refine (a8e ways A n c S k A2 m c2 (a3t ws at' v) _ (a2t (hF.dat _ zdm) (hF.dat _ zdm)) hn hk (hF.dat _ zdm)).mono ?_;rintro e wN ⟨_,rfl,A',n',c',S',rfl,hO,hC⟩;replace hF:=hF.callA hO;clear hO)))
 have hH:=hH.nextA hF;refine hK.out _ _ hH ?_;clear hK;refine zs ?_
 refine zry 9 (fun K hK=>?_)
 go_wp2_with ((first|(go_at_call 124;refine (a8u _ _ _ ws at' v _ (hF.rd zdm) (by omega) hv).mono ?_;rintro e wN ⟨xF,rfl,hb,ho⟩;replace hF:=hF.pushOwn hb ho;clear hb ho)|(go_at_call 125;obtain ⟨A2,c2,rfl,hF⟩:=hF.freeze 0 at0;(try simp only [List.eraseIdx_cons_zero] at hF);refine (a8e ways A n c S k A2 m c2 (a3t ws at' v) _ (a2t (hF.dat _ zdm) (hF.dat _ zdm)) hn hk (hF.dat _ zdm)).mono ?_;rintro e wN ⟨_,rfl,A',n',c',S',rfl,hO,hC⟩;replace hF:=hF.callA hO;clear hO)))
 have hH:=hH.nextA hF;refine hK.out _ _ hH ?_;clear hK;refine zs ?_
 refine zry 10 (fun K hK=>?_)
 go_wp2_with (refine zwr ?_;clear hF;intro wN hF;(try refine zs ?_))
 have hH:=hH.nextA hF;refine hK.out _ _ hH ?_;clear hK;refine zs ?_
 refine zrz ?_
 go_wp2_with (((first|refine zrd ?_|(refine zst ?_;clear hF;(first|intro gN wN hF|intro wN hF|intro hF))|(refine zap ?_;clear hF;intro vN wN hF));refine zs ?_))
 ((try simp only [Exit.inBlock,Exit.then]);refine bodyPost_ret (a2x rfl hF) rfl ?_)
 exact ⟨_,rfl,A',n',c',S',rfl,hF.out (by ((repeat (first|exact a1f|refine a1m zdm ?_)) <;> exact a1f)),hC⟩
end
section
open Go.RowKit Go.Sort
theorem g6d {g1 g4:Nat} {A:Option Addr} {n c:Nat} {q:List En} {v:Value} {B:Nat} {e:TypeId} {L:List Int} {k:Nat} {reg:Int} {w:World} (hb1:Bk w g1 31 [.slice A n c]) (hb4:Bk w g4 22 [v]) (ho:w.ownsRow B e 1 v k (a1i L)) (hr:Rd w w.heap.size 17 A n c (ens q)) (hk:k≤1000000)
  (hreg:okI reg):Calls Tryz.prog 213 #[.int .i64 (k:Int),.int .i64 reg,.pointer (some ⟨g1,0,none⟩),.pointer (some ⟨g4,0,none⟩)] w fun x w'=>x = .returned (.int .i64 (ofR q L k reg))∧Bel w w':=by
 obtain ⟨A2,c2,rfl,hr2⟩:=Rd.of_own ho
 have hl:=hr2.i64slen
 have hm:=hr2.le
 have hm2:=hr2.mx
 unfold maxLen at hm2
 have c1:=hb1.cell 0
 have c4:=hb4.cell 0
 dsimp only [List.getElem?_cons_zero] at c1 c4
 have HM:=Lib.hid (c3z A n c (k:Int) reg q w hr ⟨by omega,by omega⟩ hreg)
 have HO:=Lib.hid (show ofR q L k reg=if 0≤a3b q k reg then L[(a3b q k reg).toNat]?.getD (-1) else -1 from rfl)
 by_cases h0:0≤a3b q k reg
 ·obtain ⟨m1,m2⟩:=b9j h0
  obtain ⟨m,hm⟩:∃ m:Nat,a3b q k reg=(m:Int):=⟨_,(Int.toNat_of_nonneg h0).symm⟩
  rw [hm] at HM HO m1 m2
  obtain ⟨g,o,u,rfl,_,hu,hc⟩:=hr2.cell1 (k:=m) (by omega)
  obtain ⟨x,hx⟩:∃ x,L[m]?=some x:=⟨_,List.getElem?_eq_getElem (by omega)⟩
  have hu2:=b1i hx
  rw [hu] at hu2
  injection hu2 with hu2
  subst hu2
  replace HO:=Lib.hid (show ofR q L k reg=x by rw [HO.out,if_pos (by omega),Int.toNat_natCast,hx];rfl)
  have hmk:m<k:=by omega
  replace hc:=Lib.hid hc
  clear hm h0 hr2 hu hx hr hb1 hb4 ho m2
  go_enter Tryz.func213,Tryz.ntmps213
  go_wp2_with (go_at_call 108;refine HM.out.mono ?_;rintro y w1 ⟨rfl,hb⟩;have c4':=hb.cell_of c4;have hc':=hb.cell_of hc.out)
  go_ret
  exact ⟨by rw [HO.out];rfl,hb⟩
 ·replace HO:=Lib.hid (show ofR q L k reg = -1 by rw [HO.out,if_neg h0])
  generalize a3b q k reg=m at *
  clear hr2 hr hb1 hb4 ho
  have h0:m<0:=by omega
  go_enter Tryz.func213,Tryz.ntmps213
  go_wp2_with (go_at_call 108;refine HM.out.mono ?_;rintro y w1 ⟨rfl,hb⟩)
  go_ret
  exact ⟨by rw [HO.out];rfl,hb⟩
theorem Roots_any (A:Option Addr) (n c:Nat) (q:List En) (w:World) (hr:Rd w w.heap.size 17 A n c (ens q)) (hq:ensOk q) (hn:n≤1000) :
  Calls Tryz.prog 202 #[.slice A n c] w fun e w'=>∃ A2 c2,e = .returned (.slice A2 n c2)∧Out w [a1a 17 A n c (ens q)] w' [a1a 1 A2 n c2 (a1i (b9k q))]:=by
 have hF:=St.start w [a1a 17 A n c (ens q)] (fun d hd=>by obtain rfl:=List.mem_singleton.1 hd;exact hr)
 have hql:=hr.enslen
 have hc1:=hr.le
 have hc2:=hr.mx
 unfold maxLen at hc2
 have hfl:=d1r q
 have HQ:=Lib.hid hq
 go_enter Tryz.func202,Tryz.ntmps202
 go_wp2_with ((first|(go_at_call 42;refine (d1t _ _ _ _ _ hF.rdA hq.op).mono ?_;rintro x wN ⟨rfl,hb⟩;replace hF:=hF.grow hb;clear hb)|((first|refine zrd ?_|(refine zst ?_;clear hF;(first|intro gN wN hF|intro wN hF|intro hF))|(refine zap ?_;clear hF;intro vN wN hF));refine zs ?_)))
 rename_i g1 wa wb gR wc wd K hK
 go_loopw [19] (fun ix wr=>∃ (k:Nat) (v:Value),k≤n∧ix = .int .i64 (k:Int)∧St w [a1a 17 A n c (ens q)] wr [.blk gN 22 [v],.own v 3 1 k (a1i (a3q q k)),.blk g1 31 [.slice A n c]] [a1a 17 A n c (ens q)]) (fun ix _=>n - (intOf ix).toNat)
 case atStart=>exact ⟨0,_,by omega,rfl,hF⟩
 case round=>
  obtain ⟨k,v,hk,rfl,hF⟩:=hrel
  by_cases hkn:k<n
  ·obtain ⟨e,hu⟩:∃ e,q[k]?=some e:=⟨_,List.getElem?_eq_getElem (by omega)⟩
   have hok:=HQ.out e (List.mem_of_getElem? hu)
   have hrs1:=hok.rs1
   have hrs2:=hok.rs2
   have HK:=Lib.hid (fun W=>a2o e.inst W hok.op)
   have HRd:=Lib.hid (fun W=>b7c e.inst W)
   have hsnoc:=Lib.hid (g1x hu)
   have hrt:=d2b hu
   rw [← b9l,← b9l] at hrt
   by_cases h3:a1e e.inst.op=3
   ·rw [if_pos h3] at hrt
    rw [h3] at HK
    clear h3
    have HF:=Lib.hid (show a3p q=a3p q from rfl)
    generalize a3p q=f at *
    by_cases hf:f<k
    ·rw [if_pos hf] at hrt
     have happ:Hid (a1i (a3q q k)++[.int .i64 (k:Int)]=a1i (a3q q (k+1))):=Lib.hid (by rw [hsnoc.out,hrt,b4z];rfl)
     exact d4r
    ·rw [if_neg hf] at hrt
     have happ:Hid (a1i (a3q q k)++[.int .i64 (-1)]=a1i (a3q q (k+1))):=Lib.hid (by rw [hsnoc.out,hrt,b4z];rfl)
     exact d4r
   ·rw [if_neg h3] at hrt
    obtain ⟨N,hN⟩:∃ N,rt q k=N:=⟨_,rfl⟩
    rw [hN] at hrt hsnoc
    generalize a1e e.inst.op=kd at *
    replace hrt:=Lib.hid (show N=if ofR q (a3q q k) k e.inst.rs2 > ofR q (a3q q k) k e.inst.rs1 then ofR q (a3q q k) k e.inst.rs2 else ofR q (a3q q k) k e.inst.rs1 by rw [hrt];split <;> omega)
    have happ:Hid (a1i (a3q q k)++[.int .i64 N]=a1i (a3q q (k+1))):=Lib.hid (by rw [hsnoc.out,b4z];rfl)
    clear hsnoc hN hok
    go_wp2_with ((first|(refine c2s ?_;clear hF;intro wN hF)|(go_at_call 213;refine (g6d (hF.bk zdm) (hF.bk zdm) (hF.ownAt (by exact zat)) hF.rdA (by omega) (by assumption)).mono ?_;rintro x wN ⟨rfl,hb⟩;replace hF:=hF.grow hb;clear hb)|refine f3s ?_|((refine w_neqT rfl rfl rfl ?_);refine zs ?_)|((refine w_ldp (v:=e.inst.val) (n:=5) rfl hF rfl ?_ (hn:=Nat.le_of_ble_eq_true rfl));(try refine zs ?_))|((first|refine zrd ?_|(refine zst ?_;clear hF;(first|intro gN wN hF|intro wN hF|intro hF))|(refine zap ?_;clear hF;intro vN wN hF));refine zs ?_)))
    go_roundw
    case rel=>exact ⟨k+1,_,by omega,by go_num,by rw [← happ.out];exact hF.drop 0⟩
    case measure=>first|(simp [intOf];done)|(simp [intOf];omega)
  ·obtain rfl:k=n:=by omega
   obtain ⟨A2,c2,rfl,hF⟩:=hF.freeze 1 at1
   (try simp only [zF] at hF)
   go_wp2_with (((first|refine zrd ?_|(refine zst ?_;clear hF;(first|intro gN wN hF|intro wN hF|intro hF))|(refine zap ?_;clear hF;intro vN wN hF));refine zs ?_))
   go_ret
   refine ⟨A2,c2,rfl,?_⟩
   have hF:=hF.lessA [a1a 1 A2 k c2 (a1i (a3q q k)),a1a 17 A k c (ens q)]
   rw [show a3q q k=b9k q by rw [b9k,hql]] at hF
   exact hF.outA
theorem g6e (A:Option Addr) (n c:Nat) (i reg:Int) (q:List En) (w:World) (hr:Rd w w.heap.size 17 A n c (ens q)) (hq:ensOk q) (hn:n≤1000) (hi:okI i) (hg:okI reg) :
  Calls Tryz.prog 176 #[.slice A n c,.int .i64 i,.int .i64 reg] w fun e w'=>e = .returned (.bool (a9k q i reg))∧Bel w w':=by
 have hF:=St.start w [a1a 17 A n c (ens q)] (fun d hd=>by obtain rfl:=List.mem_singleton.1 hd;exact hr)
 have hql:=hr.enslen
 have HM:=Lib.hid (fun W (h:Rd W W.heap.size 17 A n c (ens q))=>c3z A n c i reg q W h hi hg)
 unfold a9k
 by_cases h0:0≤a3b q i reg
 ·obtain ⟨m1,m2⟩:=b9j h0
  obtain ⟨m,hm⟩:∃ m:Nat,a3b q i reg=(m:Int):=⟨_,(Int.toNat_of_nonneg h0).symm⟩
  rw [hm] at HM m1 m2 ⊢
  have hv:(a1i (b9k q))[m * 1]?=some (.int .i64 (rt q m)):=by rw [Nat.mul_one];exact b1i (d2a q (m:=q.length) (n:=m) (by omega))
  rw [Int.toNat_natCast]
  obtain ⟨r,hrr⟩:∃ r,rt q m=r:=⟨_,rfl⟩
  rw [hrr] at hv ⊢
  have hmn:m<n:=by omega
  clear hm h0 m1 m2
  by_cases h1:0≤r
  ·go_enter Tryz.func176,Tryz.ntmps176
   exact d4s
  ·go_enter Tryz.func176,Tryz.ntmps176
   exact d4s
 ·have h2:¬ (0≤a3b q i reg):=h0
  rw [decide_eq_false h0,Bool.false_and]
  generalize a3b q i reg=m at *
  have h1:m<0:=by omega
  go_enter Tryz.func176,Tryz.ntmps176
  go_wp2_with ((first|(refine c7l ?_;clear hF;intro wN hF)|(go_at_call 202;refine (Roots_any _ _ _ _ _ hF.rdA hq hn).mono ?_;rintro x wN ⟨A2,c2,rfl,hO⟩;replace hF:=hF.call1A hO;clear hO)|((first|refine zrd ?_|(refine zst ?_;clear hF;(first|intro gN wN hF|intro wN hF|intro hF))|(refine zap ?_;clear hF;intro vN wN hF));refine zs ?_)))
  go_ret
  exact ⟨rfl,hF.bel⟩
end
section
open Go.RowKit Wd
section
variable {P:Program} {ops:Array Oper} {rest:List Oper} {o:Oper} {a:Act} {Q:Exit→Act→World→Prop}
theorem c1a {w:World} {x y:Operand} {t t':TypeId} {p q r:Nat} (ho:o.op = .binOp .quo t x y t') (hx:a1b a x=some (.int .u32 (p:Int))) (hy:a1b a y=some (.int .u32 (q:Int))) (h:wpList P ops Q rest (a.put o.dst (.int .u32 (r:Int))) w) (hr:Hid (p / q=r):=by assumption) (hp:p<4294967296:=by (first|assumption|omega)) (hq:0<q:=by (first|assumption|omega)) (hw:Region.wanted o (yielded ops a.tmps)=true:=by rfl):wpList P ops Q (o::rest) a w:=by
 refine a2c hw fun K hK=>?_
 unfold Oper.wp
 rw [g1z ho hx hy hp hq,hr.out]
 exact hK _ _ h
end
def c4l (sgn:Bool) (s x:Nat):Nat:=if sgn=true∧2147483648≤x then (4294967296 - s) % 4294967296 else s
theorem c1b (g:Nat) (sgn:Bool) (s x:Nat) (w:World) (hg:w.cell? ⟨g,0,none⟩=some (.bool sgn)) (hs:s<4294967296) (hx:x<4294967296) :
  Calls Tryz.prog 216 #[.int .u32 (s:Int),.int .u32 (x:Int),.pointer (some ⟨g,0,none⟩)] w fun e w'=>e = .returned (.int .u32 ((c4l sgn s x:Nat):Int))∧w'=w:=by
 unfold c4l
 by_cases hn:2147483648≤x
 ·have hn1:=d4j hx hn
  cases sgn
  ·rw [if_neg (by simp)]
   go_enter Tryz.func216,Tryz.ntmps216
   go_wp2
   go_ret
   exact ⟨rfl,rfl⟩
  ·rw [if_pos ⟨rfl,hn⟩]
   go_enter Tryz.func216,Tryz.ntmps216
   go_wp2
   go_ret
   exact ⟨a2m (c4h hs),rfl⟩
 ·have hn1:=d4k hn
  rw [if_neg (by rintro ⟨_,h⟩;exact hn h)]
  clear hn
  cases sgn
  all_goals
   go_enter Tryz.func216,Tryz.ntmps216
   go_wp2
   go_ret
   exact ⟨rfl,rfl⟩
theorem d4u (op:Int) {s:Nat} (x:Nat) (hs:s<4294967296):b1d op s x<4294967296:=by unfold b1d;split <;> omega
theorem g6f (op:Int) {a b:Nat} (ha:a<4294967296) (hb:b<4294967296):a4h op a b<4294967296:=by
 have h1:a1v op a / a1v op b<4294967296:=Nat.lt_of_le_of_lt (Nat.div_le_self _ _) (a8d ha)
 have h2:a1v op a % a1v op b<4294967296:=Nat.lt_of_le_of_lt (Nat.mod_le _ _) (a8d ha)
 unfold a4h
 repeat' split
 all_goals first|omega|exact d4u _ _ h1|exact d4u _ _ h2
theorem c1c {op:Int} {b:Nat} (hb:b<4294967296) (h0:b≠0):0<a1v op b:=by unfold a1v;split <;> omega
theorem c1d {op:Int} {sgn:Bool} (h:b1c op=sgn) (s x:Nat):c4l sgn s x=b1d op s x:=by
 subst h;rfl
theorem g6g (a:Nat) (w:World) (ha:a<4294967296) :
  Calls Tryz.prog 207 #[.int .i64 42,.int .u32 (a:Int),.int .u32 0] w fun e w'=>e = .returned (.int .u32 (a4h 42 a 0:Int))∧Bel w w':=by
 go_enter Tryz.func207,Tryz.ntmps207
 go_wp2
 go_ret
 exact ⟨rfl,Bel.alloc _ _⟩
theorem g6h (a b:Nat) (w:World) (ha:a<4294967296) (hb:b<4294967296) (h0:¬ (b:Int)=0) :
  Calls Tryz.prog 207 #[.int .i64 42,.int .u32 (a:Int),.int .u32 (b:Int)] w fun e w'=>e = .returned (.int .u32 (a4h 42 a b:Int))∧Bel w w':=by
 have hF:=St.start w [] (fun d hd=>by cases hd)
 have hb0:b≠0:=by omega
 have hsa:a1v 42 a<4294967296:=a8d ha
 have hsb:a1v 42 b<4294967296:=a8d hb
 have hsp:0<a1v 42 b:=c1c hb hb0
 have hx:=u32_xor_nat a b ha hb
 have hxl:a ^^^ b<4294967296:=Nat.xor_lt_two_pow (n:=32) ha hb
 obtain ⟨q,hq0⟩:∃ q,a1v 42 a / a1v 42 b=q:=⟨_,rfl⟩
 obtain ⟨r,hr0⟩:∃ r,a1v 42 a % a1v 42 b=r:=⟨_,rfl⟩
 have hql:q<4294967296:=by rw [← hq0];exact Nat.lt_of_le_of_lt (Nat.div_le_self _ _) hsa
 have hrl:r<4294967296:=by rw [← hr0];exact Nat.lt_of_le_of_lt (Nat.mod_le _ _) hsa
 have hD:=Lib.hid (show a4h 42 a b=b1d 42 q (a ^^^ b) from by unfold a4h;simp [hb0,hq0,hr0])
 have hq:=Lib.hid hq0
 have hr:=Lib.hid hr0
 clear hq0 hr0
 go_enter Tryz.func207,Tryz.ntmps207
 go_wp2_with ((first|(go_at_call 210;refine (b3l _ _ _ (by assumption)).mono ?_;rintro e wN ⟨rfl,rfl⟩)|((refine c1a rfl rfl rfl ?_);refine zs ?_)|((refine b9m rfl rfl rfl ?_);refine zs ?_)|(go_at_call 216;refine (c1b _ true _ _ _ ((hF.bkAt at0).cell 0) (by assumption) (by assumption)).mono ?_;rintro e wN ⟨rfl,rfl⟩)|((first|refine zrd ?_|(refine zst ?_;clear hF;(first|intro gN wN hF|intro wN hF|intro hF))|(refine zap ?_;clear hF;intro vN wN hF));refine zs ?_)))
 go_ret
 refine ⟨a2m ?_,hF.bel⟩
 rw [c1d (op:=42) (sgn:=true) rfl,hD.out]
theorem g6i (a:Nat) (w:World) (ha:a<4294967296) :
  Calls Tryz.prog 207 #[.int .i64 43,.int .u32 (a:Int),.int .u32 0] w fun e w'=>e = .returned (.int .u32 (a4h 43 a 0:Int))∧Bel w w':=by
 go_enter Tryz.func207,Tryz.ntmps207
 go_wp2
 go_ret
 exact ⟨rfl,Bel.alloc _ _⟩
theorem g6j (a b:Nat) (w:World) (ha:a<4294967296) (hb:b<4294967296) (h0:¬ (b:Int)=0) :
  Calls Tryz.prog 207 #[.int .i64 43,.int .u32 (a:Int),.int .u32 (b:Int)] w fun e w'=>e = .returned (.int .u32 (a4h 43 a b:Int))∧Bel w w':=by
 have hF:=St.start w [] (fun d hd=>by cases hd)
 have hb0:b≠0:=by omega
 have hsa:a1v 43 a<4294967296:=a8d ha
 have hsb:a1v 43 b<4294967296:=a8d hb
 have hsp:0<a1v 43 b:=c1c hb hb0
 have hx:=u32_xor_nat a b ha hb
 have hxl:a ^^^ b<4294967296:=Nat.xor_lt_two_pow (n:=32) ha hb
 obtain ⟨q,hq0⟩:∃ q,a1v 43 a / a1v 43 b=q:=⟨_,rfl⟩
 obtain ⟨r,hr0⟩:∃ r,a1v 43 a % a1v 43 b=r:=⟨_,rfl⟩
 have hql:q<4294967296:=by rw [← hq0];exact Nat.lt_of_le_of_lt (Nat.div_le_self _ _) hsa
 have hrl:r<4294967296:=by rw [← hr0];exact Nat.lt_of_le_of_lt (Nat.mod_le _ _) hsa
 have hD:=Lib.hid (show a4h 43 a b=b1d 43 q (a ^^^ b) from by unfold a4h;simp [hb0,hq0,hr0])
 have hq:=Lib.hid hq0
 have hr:=Lib.hid hr0
 clear hq0 hr0
 go_enter Tryz.func207,Tryz.ntmps207
 go_wp2_with ((first|(go_at_call 210;refine (b3l _ _ _ (by assumption)).mono ?_;rintro e wN ⟨rfl,rfl⟩)|((refine c1a rfl rfl rfl ?_);refine zs ?_)|((refine b9m rfl rfl rfl ?_);refine zs ?_)|(go_at_call 216;refine (c1b _ false _ _ _ ((hF.bkAt at0).cell 0) (by assumption) (by assumption)).mono ?_;rintro e wN ⟨rfl,rfl⟩)|((first|refine zrd ?_|(refine zst ?_;clear hF;(first|intro gN wN hF|intro wN hF|intro hF))|(refine zap ?_;clear hF;intro vN wN hF));refine zs ?_)))
 go_ret
 refine ⟨a2m ?_,hF.bel⟩
 rw [c1d (op:=43) (sgn:=false) rfl,hD.out]
theorem g6k (a:Nat) (w:World) (ha:a<4294967296) :
  Calls Tryz.prog 207 #[.int .i64 44,.int .u32 (a:Int),.int .u32 0] w fun e w'=>e = .returned (.int .u32 (a4h 44 a 0:Int))∧Bel w w':=by
 go_enter Tryz.func207,Tryz.ntmps207
 go_wp2
 go_ret
 exact ⟨rfl,Bel.alloc _ _⟩
theorem g6l (a b:Nat) (w:World) (ha:a<4294967296) (hb:b<4294967296) (h0:¬ (b:Int)=0) :
  Calls Tryz.prog 207 #[.int .i64 44,.int .u32 (a:Int),.int .u32 (b:Int)] w fun e w'=>e = .returned (.int .u32 (a4h 44 a b:Int))∧Bel w w':=by
 have hF:=St.start w [] (fun d hd=>by cases hd)
 have hb0:b≠0:=by omega
 have hsa:a1v 44 a<4294967296:=a8d ha
 have hsb:a1v 44 b<4294967296:=a8d hb
 have hsp:0<a1v 44 b:=c1c hb hb0
 have hx:=u32_xor_nat a b ha hb
 have hxl:a ^^^ b<4294967296:=Nat.xor_lt_two_pow (n:=32) ha hb
 obtain ⟨q,hq0⟩:∃ q,a1v 44 a / a1v 44 b=q:=⟨_,rfl⟩
 obtain ⟨r,hr0⟩:∃ r,a1v 44 a % a1v 44 b=r:=⟨_,rfl⟩
 have hql:q<4294967296:=by rw [← hq0];exact Nat.lt_of_le_of_lt (Nat.div_le_self _ _) hsa
 have hrl:r<4294967296:=by rw [← hr0];exact Nat.lt_of_le_of_lt (Nat.mod_le _ _) hsa
 have hD:=Lib.hid (show a4h 44 a b=b1d 44 r (a) from by unfold a4h;simp [hb0,hq0,hr0])
 have hq:=Lib.hid hq0
 have hr:=Lib.hid hr0
 clear hq0 hr0
 go_enter Tryz.func207,Tryz.ntmps207
 go_wp2_with ((first|(go_at_call 210;refine (b3l _ _ _ (by assumption)).mono ?_;rintro e wN ⟨rfl,rfl⟩)|((refine c1a rfl rfl rfl ?_);refine zs ?_)|((refine b9m rfl rfl rfl ?_);refine zs ?_)|(go_at_call 216;refine (c1b _ true _ _ _ ((hF.bkAt at0).cell 0) (by assumption) (by assumption)).mono ?_;rintro e wN ⟨rfl,rfl⟩)|((first|refine zrd ?_|(refine zst ?_;clear hF;(first|intro gN wN hF|intro wN hF|intro hF))|(refine zap ?_;clear hF;intro vN wN hF));refine zs ?_)))
 go_ret
 refine ⟨a2m ?_,hF.bel⟩
 rw [c1d (op:=44) (sgn:=true) rfl,hD.out]
theorem g6m (a:Nat) (w:World) (ha:a<4294967296) :
  Calls Tryz.prog 207 #[.int .i64 45,.int .u32 (a:Int),.int .u32 0] w fun e w'=>e = .returned (.int .u32 (a4h 45 a 0:Int))∧Bel w w':=by
 go_enter Tryz.func207,Tryz.ntmps207
 go_wp2
 go_ret
 exact ⟨rfl,Bel.alloc _ _⟩
theorem g6n (a b:Nat) (w:World) (ha:a<4294967296) (hb:b<4294967296) (h0:¬ (b:Int)=0) :
  Calls Tryz.prog 207 #[.int .i64 45,.int .u32 (a:Int),.int .u32 (b:Int)] w fun e w'=>e = .returned (.int .u32 (a4h 45 a b:Int))∧Bel w w':=by
 have hF:=St.start w [] (fun d hd=>by cases hd)
 have hb0:b≠0:=by omega
 have hsa:a1v 45 a<4294967296:=a8d ha
 have hsb:a1v 45 b<4294967296:=a8d hb
 have hsp:0<a1v 45 b:=c1c hb hb0
 have hx:=u32_xor_nat a b ha hb
 have hxl:a ^^^ b<4294967296:=Nat.xor_lt_two_pow (n:=32) ha hb
 obtain ⟨q,hq0⟩:∃ q,a1v 45 a / a1v 45 b=q:=⟨_,rfl⟩
 obtain ⟨r,hr0⟩:∃ r,a1v 45 a % a1v 45 b=r:=⟨_,rfl⟩
 have hql:q<4294967296:=by rw [← hq0];exact Nat.lt_of_le_of_lt (Nat.div_le_self _ _) hsa
 have hrl:r<4294967296:=by rw [← hr0];exact Nat.lt_of_le_of_lt (Nat.mod_le _ _) hsa
 have hD:=Lib.hid (show a4h 45 a b=b1d 45 r (a) from by unfold a4h;simp [hb0,hq0,hr0])
 have hq:=Lib.hid hq0
 have hr:=Lib.hid hr0
 clear hq0 hr0
 go_enter Tryz.func207,Tryz.ntmps207
 go_wp2_with ((first|(go_at_call 210;refine (b3l _ _ _ (by assumption)).mono ?_;rintro e wN ⟨rfl,rfl⟩)|((refine c1a rfl rfl rfl ?_);refine zs ?_)|((refine b9m rfl rfl rfl ?_);refine zs ?_)|(go_at_call 216;refine (c1b _ false _ _ _ ((hF.bkAt at0).cell 0) (by assumption) (by assumption)).mono ?_;rintro e wN ⟨rfl,rfl⟩)|((first|refine zrd ?_|(refine zst ?_;clear hF;(first|intro gN wN hF|intro wN hF|intro hF))|(refine zap ?_;clear hF;intro vN wN hF));refine zs ?_)))
 go_ret
 refine ⟨a2m ?_,hF.bel⟩
 rw [c1d (op:=45) (sgn:=false) rfl,hD.out]
end
end Go.Proofs.YtgnomadgnciifaaGreatDoor
