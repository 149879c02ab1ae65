/- . -/
import Derived.Test.YtgnomadgnciifaaGreatDoorZ28
import Derived.Test.YtgnomadgnciifaaGreatDoorZ29
import Derived.Test.YtgnomadgnciifaaGreatDoorZ26
set_option linter.unusedVariables false
set_option linter.unusedSimpArgs false
set_option linter.unusedSectionVars false
set_option maxRecDepth 100000
set_option maxHeartbeats 16000000
namespace Go.Proofs.YtgnomadgnciifaaGreatDoor
theorem d7a {p:Prop} (h:p:=by
 go_enter Tryz.func67,Tryz.ntmps67
 go_upto_region 1 with ((try simp only [zA,Nat.reduceAdd]);(first|refine a3d ?_|(refine a1s ?_;clear hF;(first|intro gN wN hF|intro wN hF|intro hF))|(refine a1d ?_;clear hF;intro vN wN hF)))
 refine a7k [37,41] (by kernel_rfl) hF _ _ (fun _ h=>h) (fun _ h=>h) ?_
 clear hF;intro hF hH
 refine zt4 0 hH ?_
 (refine a8p (i:=1) rfl (b9f rfl rfl) (fun _=>hH) ?_);(try simp only [zA,Nat.reduceAdd])
 refine zt4 2 hH ?_
 refine zq 3 hH ?_
 refine zt0 4 hH ?_
 refine zt0 5 hH ?_
 refine zt1 6 hH ?_
 refine zt4 7 hH ?_
 refine zq 8 hH ?_
 refine zt0 9 hH ?_
 refine zt0 10 hH ?_
 refine zt1 11 hH ?_
 refine zt4 12 hH ?_
 refine zq 13 hH ?_
 refine zt0 14 hH ?_
 refine zt0 15 hH ?_
 refine zt1 16 hH ?_
 refine zt4 17 hH ?_
 refine zt4 18 hH ?_
 refine zq 19 hH ?_
 refine zt0 20 hH ?_
 refine zt0 21 hH ?_
 refine zt1 22 hH ?_
 refine zt4 23 hH ?_
 refine zq 24 hH ?_
 refine zt0 25 hH ?_
 refine zt0 26 hH ?_
 refine zt1 27 hH ?_
 refine a2u (rs:=[28]) (by kernel_rfl) (by simp) (a2v rfl (fun K hK=>?_) AllReadyT.nil)
 go_wp2_with ((first|(refine b2q ?_;clear hF;intro wN hF)|(go_at_call 126;refine (HB.out _ hF.rds hF.rdA).mono ?_;rintro x wN ⟨_,_,rfl,A1,n1,c1,S1,A2,c2,rfl,rfl,hO,hC⟩;replace hF:=hF.call3A hO;clear hO)|(refine w_stp rfl hF rfl rfl ?_ (hfit:=by (try simp only [List.length_set]);rw [mcells_len];exact Nat.le_of_ble_eq_true rfl);clear hF;intro wN hF;(try simp only [List.set_cons_zero,List.set_cons_succ] at hF);(try simp only [zA,Nat.reduceAdd]))|(refine w_st1 rfl hF rfl rfl ?_ (hoff:=by (try simp only [a4a]);rw [mcells_len];decide);clear hF;intro wN hF;(try simp only [zF] at hF);(try simp only [zA,Nat.reduceAdd]))|((first|refine zrg ?_|(refine zst ?_;clear hF;(first|intro gN wN hF|intro wN hF|intro hF))|(refine zap ?_;clear hF;intro vN wN hF));(try simp only [zA,Nat.reduceAdd]))))
 have hH:=zx0 hH hF;refine hK.out _ _ (fun _=>hH) ?_;clear hK;(try simp only [zA,Nat.reduceAdd])
 refine a2u (rs:=[29]) (by kernel_rfl) (by simp) (a2v rfl (fun K hK=>?_) AllReadyT.nil)
 go_wp2_with ((first|(refine b2q ?_;clear hF;intro wN hF)|(go_at_call 126;refine (HB.out _ hF.rds hF.rdA).mono ?_;rintro x wN ⟨_,_,rfl,A1,n1,c1,S1,A2,c2,rfl,rfl,hO,hC⟩;replace hF:=hF.call3A hO;clear hO)|(refine w_stp rfl hF rfl rfl ?_ (hfit:=by (try simp only [List.length_set]);rw [mcells_len];exact Nat.le_of_ble_eq_true rfl);clear hF;intro wN hF;(try simp only [List.set_cons_zero,List.set_cons_succ] at hF);(try simp only [zA,Nat.reduceAdd]))|(refine w_st1 rfl hF rfl rfl ?_ (hoff:=by (try simp only [a4a]);rw [mcells_len];decide);clear hF;intro wN hF;(try simp only [zF] at hF);(try simp only [zA,Nat.reduceAdd]))|((first|refine zrg ?_|(refine zst ?_;clear hF;(first|intro gN wN hF|intro wN hF|intro hF))|(refine zap ?_;clear hF;intro vN wN hF));(try simp only [zA,Nat.reduceAdd]))))
 have hH:=zx0 hH hF;refine hK.out _ _ (fun _=>hH) ?_;clear hK;(try simp only [zA,Nat.reduceAdd])
 refine zt4 30 hH ?_
 refine zq 31 hH ?_
 (refine a8p (i:=32) (v:=?_) rfl ?_ (fun _=>hH) ?_;rotate_left;(first|exact a6t a4g (by rfl)|(refine a1u (by rfl) ?_;intro w;go_simp;done)|(refine a1u (by rfl) ?_;intro w;go_simp;with_reducible rfl)|(refine a1u (by rfl) ?_;intro w;simp only [Wy.cells];go_simp;with_reducible rfl));(try simp only [zA,Nat.reduceAdd]))
 (refine a8p (i:=33) (v:=?_) rfl ?_ (fun _=>hH) ?_;rotate_left;(first|exact a6t a4g (by rfl)|(refine a1u (by rfl) ?_;intro w;go_simp;done)|(refine a1u (by rfl) ?_;intro w;go_simp;with_reducible rfl)|(refine a1u (by rfl) ?_;intro w;simp only [Wy.cells];go_simp;with_reducible rfl));(try simp only [zA,Nat.reduceAdd]))
 refine zq 34 hH ?_
 refine zt0 35 hH ?_
 refine zt0 36 hH ?_
 refine a2u (rs:=[37]) (by kernel_rfl) (by simp) (a2v rfl (fun K hK=>?_) AllReadyT.nil)
 go_wp2_with ((first|(refine b2q ?_;clear hF;intro wN hF)|(go_at_call 126;refine (HB.out _ hF.rds hF.rdA).mono ?_;rintro x wN ⟨_,_,rfl,A1,n1,c1,S1,A2,c2,rfl,rfl,hO,hC⟩;replace hF:=hF.call3A hO;clear hO)|(refine w_stp rfl hF rfl rfl ?_ (hfit:=by (try simp only [List.length_set]);rw [mcells_len];exact Nat.le_of_ble_eq_true rfl);clear hF;intro wN hF;(try simp only [List.set_cons_zero,List.set_cons_succ] at hF);(try simp only [zA,Nat.reduceAdd]))|(refine w_st1 rfl hF rfl rfl ?_ (hoff:=by (try simp only [a4a]);rw [mcells_len];decide);clear hF;intro wN hF;(try simp only [zF] at hF);(try simp only [zA,Nat.reduceAdd]))|((first|refine zrg ?_|(refine zst ?_;clear hF;(first|intro gN wN hF|intro wN hF|intro hF))|(refine zap ?_;clear hF;intro vN wN hF));(try simp only [zA,Nat.reduceAdd]))))
 (try clear hH);refine hK.out _ _ (a4w 37 rfl (by kernel_rfl)) ?_;clear hK;(try simp only [zA,Nat.reduceAdd])
 (refine a8p (i:=38) (v:=?_) rfl ?_ (a4w 37 rfl (by kernel_rfl)) ?_;rotate_left;(first|exact a6t a4g (by rfl)|(refine a1u (by rfl) ?_;intro w;go_simp;done)|(refine a1u (by rfl) ?_;intro w;go_simp;with_reducible rfl)|(refine a1u (by rfl) ?_;intro w;simp only [Wy.cells];go_simp;with_reducible rfl));(try simp only [zA,Nat.reduceAdd]))
 (first|refine a8p (i:=39) rfl (b6t rfl rfl) (a4w 37 rfl (by kernel_rfl)) ?_|refine a8p (i:=39) rfl (b6u rfl rfl) (a4w 37 rfl (by kernel_rfl)) ?_);(try simp only [zA,Nat.reduceAdd])
 (first|refine a8p (i:=40) rfl (b6t rfl rfl) (a4w 37 rfl (by kernel_rfl)) ?_|refine a8p (i:=40) rfl (b6u rfl rfl) (a4w 37 rfl (by kernel_rfl)) ?_);(try simp only [zA,Nat.reduceAdd])
 refine a2u (rs:=[41]) (by kernel_rfl) (by simp) (a2v rfl (fun K hK=>?_) AllReadyT.nil)
 go_wp2_with ((first|(refine b2q ?_;clear hF;intro wN hF)|(go_at_call 126;refine (HB.out _ hF.rds hF.rdA).mono ?_;rintro x wN ⟨_,_,rfl,A1,n1,c1,S1,A2,c2,rfl,rfl,hO,hC⟩;replace hF:=hF.call3A hO;clear hO)|(refine w_stp rfl hF rfl rfl ?_ (hfit:=by (try simp only [List.length_set]);rw [mcells_len];exact Nat.le_of_ble_eq_true rfl);clear hF;intro wN hF;(try simp only [List.set_cons_zero,List.set_cons_succ] at hF);(try simp only [zA,Nat.reduceAdd]))|(refine w_st1 rfl hF rfl rfl ?_ (hoff:=by (try simp only [a4a]);rw [mcells_len];decide);clear hF;intro wN hF;(try simp only [zF] at hF);(try simp only [zA,Nat.reduceAdd]))|((first|refine zrg ?_|(refine zst ?_;clear hF;(first|intro gN wN hF|intro wN hF|intro hF))|(refine zap ?_;clear hF;intro vN wN hF));(try simp only [zA,Nat.reduceAdd]))))
 (try clear hH);refine hK.out _ _ (a4w 37 rfl (by kernel_rfl)) ?_;clear hK;(try simp only [zA,Nat.reduceAdd])
 (refine a8p (i:=42) rfl (c9z rfl rfl) (a4w 37 rfl (by kernel_rfl)) ?_);(try simp only [zA,Nat.reduceAdd])
 refine a7j (by kernel_rfl) ?_ _
 ((have hn1:C'.length=n1:=by rw [← hC,a3n];exact (hF.rds (A:=A1) (n:=n1) (c:=c1) (S:=S1)).slen);subst hn1;(first|rw [mset_data (k:=k) (s:=s) S1 C' k.dways rfl,mset_bus q' rfl] at hF|rw [mset_bus (k:=k) (s:=s) q' rfl,mset_data S1 C' k.dways rfl] at hF);go_wp2_with ((try simp only [zA,Nat.reduceAdd]);(first|refine a3d ?_|(refine c7i ?_;clear hF;(first|intro gN wN hF|intro wN hF|intro hF))|(refine a1d ?_;clear hF;intro vN wN hF)));go_end0;(try rw [mset_asked] at hF);refine ⟨⟨_,rfl⟩,BringPost.mk A1 c1 S1 A2 c2 (by rw [hbk.out];exact hC) ?_⟩;(rw [hbk.out]);refine hF.lessD ?_;(simp only [kD,zL]);((repeat (refine a1m zdm ?_));exact fun d h=>by (repeat (first|exact h|refine List.Mem.tail _ ?_))))):p:=h
theorem d7b {p:Prop} (h:p:=by
 go_wp2_with ((try simp only [zA,Nat.reduceAdd]);(first|refine a3d ?_|(go_at_call 141;refine (h1j _ _ _ _ _ hF.rdA).mono ?_;rintro x wN ⟨rfl,hb⟩;replace hF:=hF.grow hb;clear hb)|(refine a1s ?_;clear hF;(first|intro gN wN hF|intro wN hF|intro hF))|(refine a1d ?_;clear hF;intro vN wN hF)))
 go_ret
 exact ⟨by rw [hR.out];rfl,⟨hF⟩⟩):p:=h
section
open Go.RowKit Wd
theorem h3k (i:Ins) (w:World) (him:i.imm<4294967296) (hr:Rd w w.heap.size 1 (some ⟨0,0,none⟩) 49 49 (u32v codesL)) :
  Calls Tryz.prog 89 #[i.val] w fun e w'=>∃ x,e = .returned (.tuple #[.int .u32 ((x:Nat):Int),.int .i64 (if b3h i then 0 else 1)])∧Bel w w':=by
 by_cases hf:a1o i.op=0
 ·refine (h3a i w hf).mono ?_
  rintro e w' ⟨rfl,hb⟩
  exact ⟨0,by rw [show b3h i=false from by simp [b3h,hf]];rfl,hb⟩
 ·obtain ⟨op,rd,rs1,rs2,imm⟩:=i
  dsimp only at hf him
  have h1:¬ (op<1∨48<op):=fun h=>hf (by unfold a1o;rw [if_pos h])
  obtain ⟨k,rfl⟩:=Int.eq_ofNat_of_zero_le (show 0≤op by omega)
  refine (h3b k rd rs1 rs2 imm w (by omega) hf him hr).mono ?_
  rintro e w' ⟨x,rfl,hb⟩
  refine ⟨x,?_,hb⟩
  rw [show b3h ⟨(k:Int),rd,rs1,rs2,imm⟩=a3f (a2g (k:Int) (b9n ⟨(k:Int),rd,rs1,rs2,imm⟩)) ⟨(k:Int),rd,rs1,rs2,imm⟩ from by simp [b3h,hf]]
end
section
open Go.RowKit Wd
structure Sls where
 latA:Option Addr
 latC:Nat
 tapeA:Option Addr
 tapeC:Nat
 progA:Option Addr
 progC:Nat
 feA:Option Addr
 feC:Nat
 robA:Option Addr
 robC:Nat
 stA:Option Addr
 stC:Nat
 dA:Option Addr
 dC:Nat
 dS:List Cs
 wA:Option Addr
 wC:Nat
 wS:List Cs
 busA:Option Addr
 busC:Nat
 slA:Option Addr
 slC:Nat
 rtA:Option Addr
 rtC:Nat
 reA:Option Addr
 reC:Nat
 feO:Bool
 stO:Bool
 reO:Bool
def rg (l:List Nat) (i:Nat):Value:=.int .u32 ((l[i]?.getD 0:Nat):Int)
def mcells (k:Kern) (s:Sls):List Value:=[.int .i64 k.conf.mode,.int .i64 k.conf.width,.int .i64 k.conf.rob,.int .i64 k.conf.queue,.int .i64 k.conf.stores,.int .i64 k.conf.slots,.int .i64 k.conf.sets,.int .i64 k.conf.ways,.slice s.latA k.conf.lat.length s.latC,.bool k.conf.tables,.slice s.tapeA k.conf.tape.length s.tapeC,.slice s.progA k.prog.length s.progC,.int .i64 k.cycle,rg k.regs 0,rg k.regs 1,rg k.regs 2,rg k.regs 3,rg k.regs 4,rg k.regs 5,rg k.regs 6,rg k.regs 7,rg k.regs 8,rg k.regs 9,rg k.regs 10,rg k.regs 11,rg k.regs 12,rg k.regs 13,rg k.regs 14,rg k.regs 15,rg k.regs 16,rg k.regs 17,rg k.regs 18,rg k.regs 19,rg k.regs 20,rg k.regs 21,rg k.regs 22,rg k.regs 23,rg k.regs 24,rg k.regs 25,rg k.regs 26,rg k.regs 27,rg k.regs 28,rg k.regs 29,rg k.regs 30,rg k.regs 31,.int .u32 (k.fetch:Int),.bool k.stop,.slice s.feA k.fetched.length s.feC,.slice s.robA k.rob.length s.robC,.int .i64 k.next,.slice s.stA k.stores.length s.stC,.int .i64 k.dways,.slice s.dA k.data.length s.dC,.int .i64 k.wways,.slice s.wA k.words.length s.wC,.slice s.busA k.bus.length s.busC,.int .i64 k.asked,.int .i64 k.guessed,.string k.mem,.slice s.slA k.guess.slots.length s.slC,.int .u32 (k.guess.hist:Int),.slice s.rtA k.guess.rets.length s.rtC,.int .i64 k.halt,.slice s.reA k.retired.length s.reC]
theorem mcells_len (k:Kern) (s:Sls):(mcells k s).length=64:=rfl
theorem mcells_one (k:Kern) (s:Sls):∀ u∈mcells k s,u.oneCell'=true:=by
 unfold mcells
 repeat (first|exact b2y|refine b4c rfl ?_)
def kD (k:Kern) (s:Sls):List Da:=[a1a 1 s.latA k.conf.lat.length s.latC (a1i k.conf.lat),a1a 1 s.tapeA k.conf.tape.length s.tapeC (u32v k.conf.tape),a1a 1 s.progA k.prog.length s.progC (u32v k.prog),apD s.feO 2 s.feA k.fetched.length s.feC (fes k.fetched),apD s.stO 2 s.stA k.stores.length s.stC (pus k.stores),a1a 1 s.dA k.data.length s.dC (csv s.dS),a1l s.dS,a1a 1 s.wA k.words.length s.wC (csv s.wS),a1l s.wS,a1a 4 s.busA k.bus.length s.busC (rqs k.bus),a1a 2 s.slA k.guess.slots.length s.slC (sls k.guess.slots),a1a 1 s.rtA k.guess.rets.length s.rtC (u32v k.guess.rets),apD s.reO 9 s.reA k.retired.length s.reC (sts k.retired),a2h]
section
variable {k:Kern} {s:Sls}
theorem d7c (x:Nat):(mcells k s).set 45 (.int .u32 (x:Int))=mcells { k with fetch:=x } s:=rfl
theorem c5r (x:Bool):(mcells k s).set 46 (.bool x)=mcells { k with stop:=x } s:=rfl
theorem h3l (x:Int):(mcells k s).set 49 (.int .i64 x)=mcells { k with next:=x } s:=rfl
theorem d7d (x:Int):(mcells k s).set 12 (.int .i64 x)=mcells { k with cycle:=x } s:=rfl
theorem mset_asked (x:Int):(mcells k s).set 56 (.int .i64 x)=mcells { k with asked:=x } s:=rfl
theorem h3m (x:Int):(mcells k s).set 57 (.int .i64 x)=mcells { k with guessed:=x } s:=rfl
theorem h3n (x:ByteArray):(mcells k s).set 58 (.string x)=mcells { k with mem:=x } s:=rfl
theorem h3o (x:Int):(mcells k s).set 62 (.int .i64 x)=mcells { k with halt:=x } s:=rfl
theorem b5f {A:Option Addr} {n c:Nat} (q:List Fe) (h:q.length=n):(mcells k s).set 47 (.slice A n c)=mcells { k with fetched:=q } { s with feA:=A,feC:=c }:=by subst h;rfl
theorem b7m {A:Option Addr} {n c:Nat} (q:List En) (h:q.length=n):(mcells k s).set 48 (.slice A n c)=mcells { k with rob:=q } { s with robA:=A,robC:=c }:=by subst h;rfl
theorem c1w {A:Option Addr} {n c:Nat} (q:List Pu) (h:q.length=n):(mcells k s).set 50 (.slice A n c)=mcells { k with stores:=q } { s with stA:=A,stC:=c }:=by subst h;rfl
theorem mset_bus {A:Option Addr} {n c:Nat} (q:List Rq) (h:q.length=n):(mcells k s).set 55 (.slice A n c)=mcells { k with bus:=q } { s with busA:=A,busC:=c }:=by subst h;rfl
theorem c5s {A:Option Addr} {n c:Nat} (q:List Stp) (h:q.length=n):(mcells k s).set 63 (.slice A n c)=mcells { k with retired:=q } { s with reA:=A,reC:=c }:=by subst h;rfl
theorem mset_data {A:Option Addr} {n c:Nat} (S:List Cs) (C:List (List Wy)) (w:Int) (h:C.length=n):spl (mcells k s) 51 [.int .i64 w,.slice A n c]=mcells { k with dways:=w,data:=C } { s with dA:=A,dC:=c,dS:=S }:=by subst h;rfl
theorem d7e {A:Option Addr} {n c:Nat} (S:List Cs) (C:List (List Wy)) (w:Int) (h:C.length=n):spl (mcells k s) 53 [.int .i64 w,.slice A n c]=mcells { k with wways:=w,words:=C } { s with wA:=A,wC:=c,wS:=S }:=by subst h;rfl
theorem h3p {As Ar:Option Addr} {ns cs h nr cr:Nat} (g:Gu) (h1:g.slots.length=ns) (h2:g.hist=h) (h3:g.rets.length=nr):spl (mcells k s) 59 [.slice As ns cs,.int .u32 (h:Int),.slice Ar nr cr]=mcells { k with guess:=g } { s with slA:=As,slC:=cs,rtA:=Ar,rtC:=cr }:=by subst h1 h2 h3;rfl
theorem d7f (l:List Nat) (h:l.length=32):u32v l=[rg l 0,rg l 1,rg l 2,rg l 3,rg l 4,rg l 5,rg l 6,rg l 7,rg l 8,rg l 9,rg l 10,rg l 11,rg l 12,rg l 13,rg l 14,rg l 15,rg l 16,rg l 17,rg l 18,rg l 19,rg l 20,rg l 21,rg l 22,rg l 23,rg l 24,rg l 25,rg l 26,rg l 27,rg l 28,rg l 29,rg l 30,rg l 31]:=by
 match l,h with
 | [a0,a1,a2,a3,a4,a5,a6,a7,a8,a9,a10,a11,a12,a13,a14,a15,a16,a17,a18,a19,a20,a21,a22,a23,a24,a25,a26,a27,a28,a29,a30,a31],_=>rfl
theorem h3q (l:List Nat) (h:l.length=32):spl (mcells k s) 13 (u32v l)=mcells { k with regs:=l } s:=by
 rw [b1r _ _ _ (by rw [u32v_len,h,mcells_len];omega),u32v_len,h,d7f l h]
 rfl
theorem h3r (h:k.regs.length=32):((mcells k s).drop 13).take 32=u32v k.regs:=by rw [d7f _ h];rfl
end
end
section
open Go.RowKit Wd
theorem h3s (e:En) (w:World) (hi:okI e.inst.op):Calls Tryz.prog 14 #[e.val] w fun x w'=>x = .returned (a2j e).val∧Bel w w':=by
 obtain ⟨no,pc,⟨op,rd,rs1,rs2,imm⟩,guess,is,left,value,next,addr,halt,took,known,filled⟩:=e
 by_cases h:halt=0
 ·subst h
  obtain ⟨wr,hwr⟩:∃ wr,(a2b ⟨op,rd,rs1,rs2,imm⟩ == 0) = !wr:=⟨!(a2b ⟨op,rd,rs1,rs2,imm⟩ == 0),by simp⟩
  rcases b6y op with hk|hk|hk|hk|hk|hk|hk
  ·exact h3d no pc op rd rs1 rs2 imm guess is left value next addr took known filled w hi hk wr hwr
  ·exact h3e no pc op rd rs1 rs2 imm guess is left value next addr took known filled w hi hk wr hwr
  ·exact h3f no pc op rd rs1 rs2 imm guess is left value next addr took known filled w hi hk wr hwr
  ·exact h3g no pc op rd rs1 rs2 imm guess is left value next addr took known filled w hi hk wr hwr
  ·exact h3h no pc op rd rs1 rs2 imm guess is left value next addr took known filled w hi hk wr hwr
  ·exact h3i no pc op rd rs1 rs2 imm guess is left value next addr took known filled w hi hk wr hwr
  ·exact h3j no pc op rd rs1 rs2 imm guess is left value next addr took known filled w hi hk wr hwr
 ·exact h3c no pc op rd rs1 rs2 imm guess is left value next addr halt took known filled w h
end
section
open Go.RowKit Wd
theorem KOk.conf_lat {B:Int} {k:Kern} (h:KOk B k):k.asked≤1000000∧0≤k.asked:=⟨Int.le_trans h.asked.2 h.bound,h.asked.1⟩
theorem c1x (c:Cf) (n:Int):0≤a7a c n∧a7a c n≤8:=by
 unfold a7a
 split
 ·omega
 ·cases h:(cleanCf c).lat[(max n 0 % (cleanCf c).lat.length).toNat]? with
  | none=>simp
  | some x=>
   have hm:x∈(cleanCf c).lat:=List.mem_of_getElem? h
   simp only [cleanCf,List.mem_map] at hm
   obtain ⟨y,_,rfl⟩:=hm
   simp only [Option.getD_some]
   unfold a1q
   split <;> omega
theorem a5q {w0 w:World} {D0 D:List Da} {M:List Mu} {g:Nat} {k:Kern} {s:Sls} {B:Int} (hk:KOk B k) (kind:Int) (line:Nat) (data:ByteArray)
  (hF:St w0 D0 w (.blk g 81 (mcells k s)::M) (kD k s++D)) :
  Calls Tryz.prog 83 #[.pointer (some ⟨g,0,none⟩),.int .i64 kind,.int .u32 (line:Int),.string data] w fun x w'=>(∃ y,x = .returned y) ∧ ∃ A2 c2,St w0 D0 w' (.blk g 81 (mcells (a3y k kind line data) { s with busA:=A2,busC:=c2 })::M) (kD (a3y k kind line data) { s with busA:=A2,busC:=c2 }++D):=by
 have ha:=hk.conf_lat
 have hl:=c1x k.conf k.asked
 have HL:=Lib.hid (fun (W:World) (h1:Rd W W.heap.size 1 s.latA k.conf.lat.length s.latC (a1i k.conf.lat)) (h2:Rd W W.heap.size 1 s.tapeA k.conf.tape.length s.tapeC (u32v k.conf.tape))=>d6i k.conf s.latA s.latC s.tapeA s.tapeC k.asked W (by unfold okI;omega) h1 h2)
 have HP:=Lib.hid (fun (W:World) (h:Rd W W.heap.size 4 s.busA k.bus.length s.busC (rqs k.bus))=>d4q s.busA k.bus.length s.busC k.bus kind line (a7a k.conf k.asked) data W h (by have:=hk.buslen;have:=hk.bound;omega) (by omega))
 (simp only [kD,zL] at hF)
 go_enter Tryz.func83,Tryz.ntmps83
 go_upto_region 0 with ((try simp only [zA,Nat.reduceAdd]);(first|refine a3d ?_|(refine a1s ?_;clear hF;(first|intro gN wN hF|intro wN hF|intro hF))|(refine a1d ?_;clear hF;intro vN wN hF)))
 refine a7k [24] (by kernel_rfl) hF _ _ (fun _ h=>h) (fun _ h=>h) ?_
 clear hF;intro hF hH
 refine zt4 0 hH ?_
 refine zt4 1 hH ?_
 refine zq 2 hH ?_
 refine zt0 3 hH ?_
 refine zt0 4 hH ?_
 refine zt1 5 hH ?_
 refine zt4 6 hH ?_
 refine zt4 7 hH ?_
 refine zt4 8 hH ?_
 refine zq 9 hH ?_
 refine zt0 10 hH ?_
 refine zt0 11 hH ?_
 refine zt1 12 hH ?_
 refine zt4 13 hH ?_
 refine zq 14 hH ?_
 refine zt0 15 hH ?_
 refine zt0 16 hH ?_
 refine zt1 17 hH ?_
 refine zt4 19 hH ?_
 refine a2u (rs:=[18]) (by kernel_rfl) (by simp) (a2v rfl (fun K hK=>?_) AllReadyT.nil)
 go_wp2_with ((first|(refine b2q ?_;clear hF;intro wN hF)|(go_at_call 142;refine (HP.out _ hF.rdA).mono ?_;rintro x wN ⟨A2,c2,rfl,hO⟩;replace hF:=hF.call1A hO;clear hO)|(refine w_st1 rfl hF rfl rfl ?_ (hoff:=by rw [mcells_len];decide);clear hF;intro wN hF;(try simp only [zF] at hF);(try simp only [zA,Nat.reduceAdd]))|((first|refine zrg ?_|(refine zst ?_;clear hF;(first|intro gN wN hF|intro wN hF|intro hF))|(refine zap ?_;clear hF;intro vN wN hF));(try simp only [zA,Nat.reduceAdd]))))
 have hH:=zx0 hH hF;refine hK.out _ _ (fun _=>hH) ?_;clear hK;(try simp only [zA,Nat.reduceAdd])
 refine a2u (rs:=[20]) (by kernel_rfl) (by simp) (a2v rfl (fun K hK=>?_) AllReadyT.nil)
 go_wp2_with ((first|(refine b2q ?_;clear hF;intro wN hF)|(go_at_call 142;refine (HP.out _ hF.rdA).mono ?_;rintro x wN ⟨A2,c2,rfl,hO⟩;replace hF:=hF.call1A hO;clear hO)|(refine w_st1 rfl hF rfl rfl ?_ (hoff:=by rw [mcells_len];decide);clear hF;intro wN hF;(try simp only [zF] at hF);(try simp only [zA,Nat.reduceAdd]))|((first|refine zrg ?_|(refine zst ?_;clear hF;(first|intro gN wN hF|intro wN hF|intro hF))|(refine zap ?_;clear hF;intro vN wN hF));(try simp only [zA,Nat.reduceAdd]))))
 have hH:=zx0 hH hF;refine hK.out _ _ (fun _=>hH) ?_;clear hK;(try simp only [zA,Nat.reduceAdd])
 refine zq 21 hH ?_
 refine zt0 22 hH ?_
 refine zt0 23 hH ?_
 refine a2u (rs:=[24]) (by kernel_rfl) (by simp) (a2v rfl (fun K hK=>?_) AllReadyT.nil)
 go_wp2_with ((first|(refine b2q ?_;clear hF;intro wN hF)|(go_at_call 142;refine (HP.out _ hF.rdA).mono ?_;rintro x wN ⟨A2,c2,rfl,hO⟩;replace hF:=hF.call1A hO;clear hO)|(refine w_st1 rfl hF rfl rfl ?_ (hoff:=by rw [mcells_len];decide);clear hF;intro wN hF;(try simp only [zF] at hF);(try simp only [zA,Nat.reduceAdd]))|((first|refine zrg ?_|(refine zst ?_;clear hF;(first|intro gN wN hF|intro wN hF|intro hF))|(refine zap ?_;clear hF;intro vN wN hF));(try simp only [zA,Nat.reduceAdd]))))
 (try clear hH);refine hK.out _ _ (a4w 24 rfl (by kernel_rfl)) ?_;clear hK;(try simp only [zA,Nat.reduceAdd])
 refine a7j (by kernel_rfl) ?_ _
 ((rw [mset_bus (k:=k) (q:=k.bus++[⟨kind,line,max (a7a k.conf k.asked) 1,data⟩]) (by simp)] at hF);go_wp2_with ((try simp only [zA,Nat.reduceAdd]);(first|refine a3d ?_|(refine c7i ?_;clear hF;(first|intro gN wN hF|intro wN hF|intro hF))|(refine a1d ?_;clear hF;intro vN wN hF)));go_end0;(rw [mset_asked] at hF);refine ⟨⟨_,rfl⟩,A2,c2,hF.lessD ?_⟩;(simp only [kD,a3y,c3u,zL,List.length_append,List.length_cons,List.length_nil]);((repeat (refine a1m zdm ?_));exact fun d h=>by (repeat (first|exact h|refine List.Mem.tail _ ?_))))
inductive BringPost (w0:World) (D0 D:List Da) (M:List Mu) (g:Nat) (k:Kern) (s:Sls) (line:Nat) (w':World):Prop
 | mk (A1:Option Addr) (c1:Nat) (S1:List Cs) (A2:Option Addr) (c2:Nat) (hC:a1j S1=(a5u k line).data)
  (hF:St w0 D0 w' (.blk g 81 (mcells (a5u k line) { s with dA:=A1,dC:=c1,dS:=S1,busA:=A2,busC:=c2 })::M) (kD (a5u k line) { s with dA:=A1,dC:=c1,dS:=S1,busA:=A2,busC:=c2 }++D))
theorem d7g {w0 w:World} {D0 D:List Da} {M:List Mu} {g:Nat} {k:Kern} {s:Sls} {B:Int} (hk:KOk B k) (hD:a1j s.dS=k.data) (line:Nat) (hline:line<4294967296)
  (hF:St w0 D0 w (.blk g 81 (mcells k s)::M) (kD k s++D)) :
  Calls Tryz.prog 67 #[.pointer (some ⟨g,0,none⟩),.int .u32 (line:Int)] w fun x w'=>(∃ y,x = .returned y)∧BringPost w0 D0 D M g k s line w':=by
 have ha:=hk.conf_lat
 have hl:=c1x k.conf k.asked
 have HL:=Lib.hid (fun (W:World) (h1:Rd W W.heap.size 1 s.latA k.conf.lat.length s.latC (a1i k.conf.lat)) (h2:Rd W W.heap.size 1 s.tapeA k.conf.tape.length s.tapeC (u32v k.conf.tape))=>d6i k.conf s.latA s.latC s.tapeA s.tapeC k.asked W (by unfold okI;omega) h1 h2)
 have hR:=d5u k.dways k.data k.bus k.mem line (a7a k.conf k.asked)
 obtain ⟨C',q',b,hb⟩:∃ C' q' b,a8m k.dways k.data k.bus k.mem line (a7a k.conf k.asked)=(C',q',b):=⟨_,_,_,rfl⟩
 have hbk:=Lib.hid (show a5u k line={ k with data:=C',bus:=q',asked:=if b=true then k.asked+1 else k.asked } by unfold a5u;dsimp only;rw [hb])
 rw [hb] at hR
 dsimp only at hR
 have HB:=Lib.hid (fun (W:World) (h1:RdS W W.heap.size s.dA k.data.length s.dC s.dS) (h2:Rd W W.heap.size 4 s.busA k.bus.length s.busC (rqs k.bus))=>g9s h1 h2 hD hR hk.dok hline (by have:=hk.mem;unfold maxLen;omega) (by have:=hk.buslen;have:=hk.bound;omega) (fun r hr=>(hk.bus r hr).1) (by omega))
 replace hR:=Lib.hid hR
 clear hb
 (simp only [kD,zL] at hF)
 cases b
 ·simp only [if_neg (show ¬ (false=true) by decide)] at hbk
  exact d7a
 ·simp only [if_pos rfl] at hbk
  exact d7a
end
section
open Go.RowKit Wd
theorem h3t (m:ByteArray) (a:Nat) (k:Int) (w:World) (hn:m.size≤9223372036854775807) (ha:a<4294967296) (hk:0≤k∧k≤9223372036854775807) :
  Calls Tryz.prog 122 #[.string m,.int .u32 (a:Int),.int .i64 k] w fun e w'=>(∃ y:Int,e = .returned (.tuple #[.string (b4s m a k),.int .i64 y]))∧Bel w w':=by
 have hr:a7z m.size a k=Me.right m.size a k:=by
  rw [Bool.eq_iff_iff,Me.right_iff]
  simp [a7z]
 unfold b4s
 cases h:Me.right m.size a k
 ·rw [hr,h]
  refine (Me.Read_no m a k w hn ha (by omega) h).mono ?_
  rintro e w' ⟨rfl,d,rfl⟩
  exact ⟨⟨1,by simp⟩,Bel.drewN _ d⟩
 ·rw [hr,h,if_pos rfl]
  obtain ⟨n,rfl⟩:∃ n:Nat,k=(n:Int):=⟨k.toNat,by omega⟩
  refine (Me.Read_yes m a n w hn ha (by omega) h).mono ?_
  rintro e w' ⟨rfl,d,rfl⟩
  exact ⟨⟨0,rfl⟩,Bel.drewN _ d⟩
structure CfB (c:Cf):Prop where
 mode:0≤c.mode∧c.mode≤2
 width:1≤c.width∧c.width≤2
 rob:2≤c.rob∧c.rob≤8
 queue:1≤c.queue∧c.queue≤4
 stores:1≤c.stores∧c.stores≤4
 slots:2≤c.slots∧c.slots≤6
 sets:1≤c.sets∧c.sets≤4
 ways:1≤c.ways∧c.ways≤2
 lat:c.lat.length≤64
 tape:c.tape.length≤64
theorem b7n {c:Cf} (h:a8a c=true):CfB c:=by
 simp only [a8a,a5t,Bool.and_eq_true,decide_eq_true_eq] at h
 obtain ⟨_,h0,h1,h2,h3,h4,h5,h6,_,h7,h8,h9⟩:=h
 exact ⟨h0,h1,h2,h3,h4,h5,h6,h7,h8,h9⟩
theorem KOk.cf {B:Int} {k:Kern} (h:KOk B k):CfB k.conf:=b7n h.conf
inductive Kept (w0:World) (D0 D:List Da) (M:List Mu) (g:Nat) (k:Kern) (s:Sls) (w':World):Prop
 | mk (hF:St w0 D0 w' (.blk g 81 (mcells k s)::M) (kD k s++D))
theorem a6r {w0 w:World} {D0 D:List Da} {M:List Mu} {g:Nat} {k:Kern} {s:Sls} {B:Int} (hk:KOk B k) (first:Bool)
  (hF:St w0 D0 w (.blk g 81 (mcells k s)::M) (kD k s++D)) :
  Calls Tryz.prog 82 #[.pointer (some ⟨g,0,none⟩),.bool first] w fun x w'=>x = .returned (.bool (a4q k first))∧Kept w0 D0 D M g k s w':=by
 have hsl:=hk.cf.slots
 have hR:Hid (a4q k first=if first=true then decide ((b3i k.bus:Int)<k.conf.slots) else decide ((b3i k.bus:Int)<k.conf.slots - 1)):=Lib.hid rfl
 (simp only [kD,zL] at hF)
 cases first
 ·go_enter Tryz.func82,Tryz.ntmps82
  exact d7b
 ·go_enter Tryz.func82,Tryz.ntmps82
  exact d7b
theorem h3u {m:ByteArray} {ways:Int} {A:Option Addr} {n c:Nat} {S:List Cs} {Aq:Option Addr} {nq cq:Nat} {q:List Rq} {As:Option Addr} {ns cs:Nat} {ss:List Pu} {C:List (List Wy)} {w:World} (hr:RdS w w.heap.size A n c S) (hrq:Rd w w.heap.size 4 Aq nq cq (rqs q)) (hrs:Rd w w.heap.size 2 As ns cs (pus ss)) (hC:a1j S=C) (hR:RightP ways C) (hok:COk C)
  (hm:m.size≤256) (hqn:nq≤1000000) (hq:∀ r∈q,r.line<4294967296) (hss:∀ p∈ss,p.addr<4294967296) :
  Calls Tryz.prog 123 #[.slice As ns cs,.agg #[.int .i64 ways,.slice A n c],.slice Aq nq cq,.string m] w fun e w'=>e = .returned (.string (ovS m (a3w q++a5y C++ss)))∧Bel w w':=by
 subst hC
 obtain ⟨h1,h2⟩:=g9r hR
 exact g6y m ways A n c S Aq nq cq q As ns cs ss w hr hrq hrs (by unfold maxLen;omega) hok.sok (by rw [a3n,hr.slen] at h1;exact h1) h2 hqn hq hss
theorem b5g {w0 w:World} {D0 D:List Da} {M:List Mu} {g:Nat} {k:Kern} {s:Sls} {B:Int} (hk:KOk B k) (hD:a1j s.dS=k.data) (hso:s.stO=false) (e:En) (he:EnOk e)
  (hF:St w0 D0 w (.blk g 81 (mcells k s)::M) (kD k s++D)) :
  Calls Tryz.prog 65 #[.pointer (some ⟨g,0,none⟩),e.val] w fun x w'=>x = .returned (.string (a7b k e))∧Kept w0 D0 D M g k s w':=by
 have hm:=hk.mem
 have hvs:(b3j k).size=k.mem.size:=a6p _ _
 have hR:Hid (a7b k e=b4s (b3j k) e.addr (a2p e.inst.op)):=Lib.hid rfl
 have HA:=Lib.hid (fun (W:World) (h1:RdS W W.heap.size s.dA k.data.length s.dC s.dS) (h2:Rd W W.heap.size 4 s.busA k.bus.length s.busC (rqs k.bus)) (h3:Rd W W.heap.size 2 s.stA k.stores.length s.stC (pus k.stores))=>show Calls Tryz.prog 123 #[.slice s.stA k.stores.length s.stC,.agg #[.int .i64 k.dways,.slice s.dA k.data.length s.dC],.slice s.busA k.bus.length s.busC,.string k.mem] W (fun e w'=>e = .returned (.string (b3j k))∧Bel W w') from
  h3u h1 h2 h3 hD hk.data hk.dok hm (by have:=hk.buslen;have:=hk.bound;omega) (fun r hr=>(hk.bus r hr).1) (fun p hp=>(hk.st p hp).1))
 have HSz:=Lib.hid (fun W=>a7s e.inst W)
 have HRe:=Lib.hid (fun W=>h3t (b3j k) e.addr (a2p e.inst.op) W (by omega) he.a (by have:=b5e e.inst.op;omega))
 generalize b3j k=V at HA HRe hR
 obtain ⟨no,pc,⟨op,rd,rs1,rs2,imm⟩,guess,is,left,value,next,addr,halt,took,known,filled⟩:=e
 unfold En.val
 unfold Ins.val at HSz
 dsimp only at HSz HRe hR ⊢
 clear hvs he
 simp only [kD,hso,a1h,zL] at hF
 go_enter Tryz.func65,Tryz.ntmps65
 go_upto_region 1 with ((try simp only [zA,Nat.reduceAdd]);(first|refine a3d ?_|(refine a1s ?_;clear hF;(first|intro gN wN hF|intro wN hF|intro hF))|(refine a1d ?_;clear hF;intro vN wN hF)))
 refine a1n (by kernel_rfl) hF _ _ (fun _ h=>h) (fun _ h=>h) ?_
 clear hF;intro hF hH
 refine a1c 0 hH ?_
 refine zp 1 hH ?_
 refine zk1 2 hH ?_
 refine zk1 3 hH ?_
 refine zk6 4 hH ?_
 refine a1c 5 hH ?_
 refine zp 6 hH ?_
 refine zk1 7 hH ?_
 refine zk1 8 hH ?_
 refine zk6 9 hH ?_
 refine a1c 10 hH ?_
 refine zp 11 hH ?_
 refine zk1 12 hH ?_
 refine zk1 13 hH ?_
 refine zk6 14 hH ?_
 refine a1c 15 hH ?_
 refine zp 16 hH ?_
 refine zk1 17 hH ?_
 refine zk1 18 hH ?_
 refine zk6 19 hH ?_
 refine zk1 21 hH ?_
 refine zk6 22 hH ?_
 refine zk1 23 hH ?_
 refine zk6 24 hH ?_
 refine zry 20 (fun K hK=>?_)
 go_wp2_with ((first|(refine c2m ?_;clear hF;intro wN hF)|(go_at_call 122;refine (HRe.out _).mono ?_;rintro x wN ⟨⟨ye,rfl⟩,hb⟩;replace hF:=hF.grow hb;clear hb)))
 have hH:=zx0 hH hF;refine hK.out _ _ hH ?_;clear hK;(try simp only [zA,Nat.reduceAdd])
 refine zry 25 (fun K hK=>?_)
 go_wp2_with ((first|(refine c2m ?_;clear hF;intro wN hF)|(go_at_call 122;refine (HRe.out _).mono ?_;rintro x wN ⟨⟨ye,rfl⟩,hb⟩;replace hF:=hF.grow hb;clear hb)))
 have hH:=zx0 hH hF;refine hK.out _ _ hH ?_;clear hK;(try simp only [zA,Nat.reduceAdd])
 refine zry 26 (fun K hK=>?_)
 go_wp2_with ((first|(refine c2m ?_;clear hF;intro wN hF)|(go_at_call 122;refine (HRe.out _).mono ?_;rintro x wN ⟨⟨ye,rfl⟩,hb⟩;replace hF:=hF.grow hb;clear hb)))
 have hH:=zx0 hH hF;refine hK.out _ _ hH ?_;clear hK;(try simp only [zA,Nat.reduceAdd])
 refine a1c 27 hH ?_
 refine zp 28 hH ?_
 refine zp 29 hH ?_
 refine a2a 30 hH ?_
 refine a2a 31 hH ?_
 refine zrz ?_
 (go_wp2;go_ret;replace hF:=hF.drop 0;exact ⟨by rw [hR.out];rfl,⟨by simp only [kD,hso,a1h,zL];exact hF⟩⟩)
end
section
open Go.RowKit Wd
section
variable {B B':Int} {k:Kern}
theorem KOk.up (h:KOk B k) (h1:B≤B') (h2:B'≤1000000):KOk B' k :=
 { h with cyc:=⟨h.cyc.1,Int.le_trans h.cyc.2 h1⟩,next:=⟨h.next.1,Int.le_trans h.next.2 h1⟩,buslen:=Int.le_trans h.buslen h1,asked:=⟨h.asked.1,Int.le_trans h.asked.2 h1⟩,guessed:=⟨h.guessed.1,Int.le_trans h.guessed.2 h1⟩,retlen:=Int.le_trans h.retlen h1,bound:=h2 }
theorem KOk.ask (h : KOk B k) (h2 : B + 1 ≤ 1000000) (kind : Int) {line : Nat} {data : ByteArray} (hl : line < 4294967296) (hd : data.size ≤ maxLen) : KOk (B + 1) (a3y k kind line data) := by
  have hu := h.up (B' := B + 1) (by omega) h2
  have hlat := c1x k.conf k.asked
  have ha := h.asked
  have hbl := h.buslen
  unfold a3y c3u
  exact { hu with
    asked := ⟨by show 0 ≤ k.asked + 1; omega, by show k.asked + 1 ≤ B + 1; omega⟩
    buslen := by show ((k.bus ++ [_]).length : Int) ≤ B + 1; rw [List.length_append, List.length_singleton]; omega
    bus := fun r hr => by
      rcases List.mem_append.1 hr with hr | hr
      · exact h.bus r hr
      · obtain rfl := List.mem_singleton.1 hr; exact ⟨hl, hd⟩
    left := fun r hr => by
      rcases List.mem_append.1 hr with hr | hr
      · exact h.left r hr
      · obtain rfl := List.mem_singleton.1 hr; dsimp only; omega }
theorem h3w (ways:Int) (C:List (List Wy)) (q:List Rq) (m:ByteArray) (x:Nat) (left:Int):(a8m ways C q m x left).2.1=q ∨ ∃ l d,(a8m ways C q m x left).2.1=q++[⟨4,l,max left 1,d⟩]∧(a8m ways C q m x left).2.2=true:=by
 unfold a8m
 split
 ·exact .inl rfl
 ·split
  ·exact .inl rfl
  ·dsimp only
   split
   ·exact .inr ⟨_,_,rfl,rfl⟩
   ·exact .inl rfl
theorem KOk.bring (h : KOk B k) (h2 : B + 1 ≤ 1000000) {line : Nat} (hl : line < 4294967296) : KOk (B + 1) (a5u k line) := by
  have hu := h.up (B' := B + 1) (by omega) h2
  have hlat := c1x k.conf k.asked
  have ha := h.asked
  have hbl := h.buslen
  have hm := h.mem
  have hR := d5u k.dways k.data k.bus k.mem line (a7a k.conf k.asked)
  have hq := h3w k.dways k.data k.bus k.mem line (a7a k.conf k.asked)
  have h3 := hR.right h.data
  have h4 := hR.cok h.dok hl (by rw [a9z]; unfold maxLen; omega)
  have h5 := hR.qok h.dok h.bus
  have h6 := hR.qlen
  unfold a5u
  dsimp only
  generalize a8m k.dways k.data k.bus k.mem line (a7a k.conf k.asked) = r at *
  exact { hu with
    data := h3
    dok := h4
    bus := h5
    buslen := by show ((r.2.1.length : Nat) : Int) ≤ B + 1; omega
    asked := by
      show 0 ≤ (if r.2.2 = true then k.asked + 1 else k.asked) ∧ (if r.2.2 = true then k.asked + 1 else k.asked) ≤ B + 1
      split <;> omega
    left := fun x hx => by
      have hx' : x ∈ r.2.1 := hx
      rcases hq with hq | ⟨l, d, hq, _⟩
      · rw [hq] at hx'; exact h.left x hx'
      · rw [hq] at hx'
        rcases List.mem_append.1 hx' with hx' | hx'
        · exact h.left x hx'
        · obtain rfl := List.mem_singleton.1 hx'; dsimp only; omega }
theorem h3x {q:List Rq} (hb:∀ r∈q,r.line<4294967296∧r.data.size≤maxLen) (hl:∀ r∈q,-9223372036854775807≤r.left∧r.left≤9223372036854775807) :
  (a3g q).1.length≤q.length∧(∀ r∈(a3g q).1,r.line<4294967296∧r.data.size≤maxLen) ∧ ∀ r∈(a3g q).1,-9223372036854775807≤r.left∧r.left≤9223372036854775807:=by
 cases q with
 | nil=>exact ⟨Nat.le_refl _,hb,hl⟩
 | cons r q=>
  have h0:=hl r (List.mem_cons_self ..)
  by_cases h:0<r.left - 1
  ·have e:a3g (r::q)=({ r with left:=r.left - 1 }::q,none):=if_pos h
   rw [e]
   refine ⟨Nat.le_refl _,fun x hx=>?_,fun x hx=>?_⟩
   ·rcases List.mem_cons.1 hx with rfl|hx
    ·exact hb r (List.mem_cons_self ..)
    ·exact hb x (List.mem_cons_of_mem _ hx)
   ·rcases List.mem_cons.1 hx with rfl|hx
    ·dsimp only;omega
    ·exact hl x (List.mem_cons_of_mem _ hx)
  ·have e:a3g (r::q)=(q,some { r with left:=r.left - 1 }):=if_neg h
   rw [e]
   exact ⟨Nat.le_succ _,fun x hx=>hb x (List.mem_cons_of_mem _ hx),fun x hx=>hl x (List.mem_cons_of_mem _ hx)⟩
theorem KOk.tick (h:KOk B k):KOk B { k with bus:=(a3g k.bus).1 }:=by
 have h1:=h3x h.bus h.left
 have h2:=h.buslen
 exact { h with bus:=h1.2.1,left:=h1.2.2,buslen:=by show (((a3g k.bus).1.length:Nat):Int)≤B;have:=h1.1;omega }
theorem d7h {q:List Rq} {d:Rq} (h:(a3g q).2=some d):∃ r∈q,d.line=r.line∧d.data=r.data∧d.kind=r.kind:=by
 cases q with
 | nil=>cases h
 | cons r q=>
  by_cases h0:0<r.left - 1
  ·rw [show a3g (r::q)=({ r with left:=r.left - 1 }::q,none) from if_pos h0] at h
   cases h
  ·rw [show a3g (r::q)=(q,some { r with left:=r.left - 1 }) from if_neg h0] at h
   injection h with h
   subst h
   exact ⟨r,List.mem_cons_self ..,rfl,rfl,rfl⟩
theorem KOk.ticks (h:KOk B k) (h2:B+1≤1000000):KOk (B+1) (a2k k):=by
 have h1:=h.tick
 have hu:=h1.up (B':=B+1) (by omega) h2
 unfold a2k
 dsimp only
 cases ht:(a3g k.bus).2 with
 | none=>exact hu
 | some d=>
  obtain ⟨r,hr,e1,e2,_⟩:=d7h ht
  have hd:=h.bus r hr
  rw [← e1,← e2] at hd
  dsimp only
  split
  ·exact { hu with rob:=h1.rob.map fun e he=>h2g he,roblen:=by show (k.rob.map _).length≤16;rw [List.length_map];exact h.roblen }
  ·split
   ·have hp:=c4t k.wways k.words d.line ⟨#[]⟩ false
    exact { hu with words:=hp.right h.words,wok:=hp.cok h.wok hd.1 (by decide) }
   ·split
    ·exact h1.bring h2 hd.1
    ·split
     ·exact { hu with mem:=by show (a9h k.mem _).size≤256;rw [show (a9h k.mem [⟨d.line,d.data⟩]).size=k.mem.size from a6p _ _];exact h.mem }
     ·exact hu
theorem h3y {regs:List Nat} {q:List En} (i:Nat) (h:ensOk q):ensOk (storeAt regs q i)∧(storeAt regs q i).length=q.length:=by
 unfold storeAt
 split
 ·exact ⟨h,rfl⟩
 ·rename_i e he
  split
  ·exact ⟨h,rfl⟩
  ·split
   ·exact ⟨h.set (h2e (h e (List.mem_of_getElem? he))) i,List.length_set ..⟩
   ·exact ⟨h,rfl⟩
theorem c5t {regs:List Nat}:∀ (l:List Nat) {q:List En},ensOk q→ensOk (l.foldl (storeAt regs) q)∧(l.foldl (storeAt regs) q).length=q.length
 | [],q,h=>⟨h,rfl⟩
 | i::l,q,h=>by
  have h1:=h3y (regs:=regs) i h
  have h2:=c5t (regs:=regs) l h1.1
  exact ⟨h2.1,h2.2.trans h1.2⟩
theorem KOk.works (h:KOk B k):KOk B (a1y k):=by
 have h1:ensOk (k.rob.map goE):=h.rob.map fun e he=>d6r he
 have h2:=c5t (regs:=k.regs) (List.range (k.rob.map goE).length) h1
 have h3:(a6h k.regs (k.rob.map goE)).length=k.rob.length:=h2.2.trans (List.length_map ..)
 have h4:ensOk (a6h k.regs (k.rob.map goE)):=h2.1
 have hn:=h.roblen
 unfold a1y
 split
 ·exact h
 ·dsimp only
  generalize a6h k.regs (k.rob.map goE)=q at *
  have hq:KOk B { k with rob:=q }:={ h with rob:=h4,roblen:=by show q.length≤16;omega }
  split
  ·exact hq
  ·split
   ·exact hq
   ·rename_i i _ _ e he
    have heo:=h4 e (List.mem_of_getElem? he)
    have hi:=(List.getElem?_eq_some_iff.1 he).1
    have c1:ensOk (a7p q i e):=(h4.take i).app (h2f heo)
    have c2:(a7p q i e).length≤16:=by unfold a7p;rw [List.length_append,List.length_take,List.length_singleton];omega
    exact { h with fetch:=heo.n,felen:=by show ([]:List Fe).length≤16;decide,fe:=fun f hf=>(by cases hf),rob:=c1,roblen:=c2 }
theorem d7i {e:En} (h:EnOk e):(a2j e).pc<4294967296∧(a2j e).next<4294967296∧(a2j e).value<4294967296∧(a2j e).addr<4294967296:=by
 have hp:=h.p
 have hn:=h.n
 have hv:=h.v
 have ha:=h.a
 have hadd:=a4r e.pc 4
 unfold a2j
 split
 ·refine ⟨hp,hp,by dsimp only;omega,?_⟩
  dsimp only
  split <;> omega
 ·split
  ·exact ⟨hp,hadd,hv,ha⟩
  ·dsimp only
   have hv2:(if a2b e.inst≠0 then e.value else 0)<4294967296:=by split <;> omega
   split
   ·exact ⟨hp,hadd,hv2,ha⟩
   ·split
    ·exact ⟨hp,hadd,hv2,by dsimp only;omega⟩
    ·split
     ·exact ⟨hp,hn,hv2,by dsimp only;omega⟩
     ·exact ⟨hp,hadd,hv2,by dsimp only;omega⟩
theorem h3z {g:Gu} {pc next:Nat} {i:Ins} (h:a5o g=true) (hs:∀ s∈g.slots,b8v s) (hr:∀ x∈g.rets,x<4294967296) (hp:pc<4294967296) (hn:next<4294967296) :
  a5o (a4d g pc next i)=true∧(∀ s∈(a4d g pc next i).slots,b8v s) ∧ ∀ x∈(a4d g pc next i).rets,x<4294967296:=by
 unfold a4d
 split
 ·exact ⟨h,hs,hr⟩
 ·have hg:=h
  simp only [a5o,Bool.and_eq_true,decide_eq_true_eq] at hg
  obtain ⟨h1,h2,h3⟩:=hg
  have hadd:=a4r pc 4
  refine ⟨?_,fun s hm=>?_,fun x hx=>?_⟩
  ·simp only [a5o,Bool.and_eq_true,decide_eq_true_eq,List.length_set]
   refine ⟨h1,Nat.mod_lt _ (by omega),?_⟩
   repeat' split
   all_goals ((try simp only [List.length_drop,List.length_append,List.length_singleton,List.length_take]);(try simp only [List.length_append,List.length_singleton] at *);omega)
  ·rcases List.mem_or_eq_of_mem_set hm with hm|rfl
   ·exact hs s hm
   ·exact ⟨hp,hn⟩
  ·dsimp only at hx
   have happ:∀ y∈g.rets++[a1k pc 4],y<4294967296:=fun y hy=>by
    rcases List.mem_append.1 hy with hy|hy
    ·exact hr y hy
    ·obtain rfl:=List.mem_singleton.1 hy;exact hadd
   split at hx
   ·split at hx
    ·exact happ x (List.mem_of_mem_drop hx)
    ·exact happ x hx
   ·split at hx
    ·exact hr x (List.mem_of_mem_take hx)
    ·exact hr x hx
theorem c5u (v:Nat) (n:Int):(a6d v n).size=n.toNat:=by
 show (bytesL v n.toNat).toArray.size=n.toNat
 rw [List.size_toArray,b3z]
theorem h4a {regs:List Nat} {s:Stp} (hl:regs.length=32) (h:∀ x∈regs,x<4294967296) (hv:s.value<4294967296):(a6i regs s).length=32 ∧ ∀ x∈a6i regs s,x<4294967296:=by
 unfold a6i
 split
 ·refine ⟨by rw [List.length_set];exact hl,fun x hx=>?_⟩
  rcases List.mem_or_eq_of_mem_set hx with hx|rfl
  ·exact h x hx
  ·exact hv
 ·exact ⟨hl,h⟩
theorem h4b {e:En} (h:EnOk e) : -9223372036854775808≤(a2j e).halt∧(a2j e).halt≤9223372036854775807:=by
 have hh:=h.2.2.2.2.2.2.2.2.2.1
 unfold a2j
 dsimp only
 repeat' split
 all_goals (first|exact hh|(dsimp only;omega))
theorem KOk.retire (h : KOk B k) (h2 : B + 2 ≤ 1000000) : KOk (B + 2) (a2s k).1 := by
  have hu := h.up (B' := B + 2) (by omega) h2
  have hn := h.roblen
  have hrl := h.retlen
  have hsl := h.stlen
  have hcs := h.cf.stores
  unfold a2s
  split
  · exact hu
  · split
    · exact hu
    · rename_i e r hrob
      have he := h.rob e (by rw [hrob]; exact List.mem_cons_self ..)
      have ht := d7i he
      have hth := h4b he
      have hrr : ensOk r := fun x hx => h.rob x (by rw [hrob]; exact List.mem_cons_of_mem _ hx)
      have hrn : r.length ≤ 16 := by rw [hrob, List.length_cons] at hn; omega
      have hret : ∀ s : Stp, ((k.retired ++ [s]).length : Int) ≤ B + 1 := fun s => by rw [List.length_append, List.length_singleton]; omega
      split
      · exact hu
      · dsimp only
        split
        · exact { hu with retlen := Int.le_trans (hret _) (by omega), halt := hth, rob := fun x hx => (by cases hx), roblen := by show ([] : List En).length ≤ 16; decide, felen := by show ([] : List Fe).length ≤ 16; decide, fe := fun f hf => (by cases hf) }
        · split
          · exact hu
          · rename_i hst
            generalize a2j e = s at *
            have ha := h4a (regs := k.regs) (s := s) h.rlen h.regs ht.2.2.1
            have hg := h3z (g := k.guess) (pc := s.pc) (next := s.next) (i := e.inst) h.guess h.slots h.rets ht.1 ht.2.1
            have hu1 := h.up (B' := B + 1) (by omega) (by omega)
            have hk1 : KOk (B + 1) { k with retired := k.retired ++ [s] } := { hu1 with retlen := hret s }
            obtain ⟨k2, hk2, e1, e2, e3⟩ : ∃ k2, KOk (B + 1) k2 ∧ k2 = (if a6n s = true then { ({ k with retired := k.retired ++ [s] } : Kern) with stores := k.stores ++ [⟨s.addr, a6d s.value s.size⟩] } else { k with retired := k.retired ++ [s] }) ∧ k2.regs = k.regs ∧ k2.guess = k.guess := by
              refine ⟨_, ?_, rfl, ?_, ?_⟩
              · split
                · rename_i hsb
                  simp only [a6n, Bool.and_eq_true, decide_eq_true_eq] at hsb
                  have hlt : (k.stores.length : Int) < k.conf.stores := by
                    rcases Int.lt_or_le (k.stores.length : Int) k.conf.stores with h | h
                    · exact h
                    · exact absurd ⟨hsb.1, h⟩ hst
                  exact { hk1 with
                    stlen := by show (k.stores ++ [_]).length ≤ 16; rw [List.length_append, List.length_singleton]; omega
                    st := fun p hp => by
                      rcases List.mem_append.1 hp with hp | hp
                      · exact h.st p hp
                      · obtain rfl := List.mem_singleton.1 hp
                        exact ⟨ht.2.2.2, by show (a6d s.value s.size).size ≤ 4; rw [c5u]; omega⟩ }
                · exact hk1
              · split <;> rfl
              · split <;> rfl
            rw [← e1]
            obtain ⟨k3, hk3, e4, e5, e6⟩ : ∃ k3, KOk (B + 2) k3 ∧ k3 = (if a1e e.inst.op = 3 then a5u k2 s.addr else k2) ∧ k3.regs = k.regs ∧ k3.guess = k.guess := by
              refine ⟨_, ?_, rfl, ?_, ?_⟩
              · split
                · have := hk2.bring (by omega) ht.2.2.2
                  rwa [show B + 1 + 1 = B + 2 by omega] at this
                · exact hk2.up (by omega) h2
              · split
                · exact e2
                · exact e2
              · split
                · exact e3
                · exact e3
            rw [← e4]
            rw [← e5] at ha
            rw [← e6] at hg
            exact { hk3 with regs := ha.2, rlen := ha.1, guess := hg.1, slots := hg.2.1, rets := hg.2.2, rob := hrr, roblen := hrn }
theorem d7j {f:Kern→Kern × Bool} {c:Nat} (hf:∀ (B:Int) (k:Kern),KOk B k→B+c≤1000000→KOk (B+c) (f k).1):∀ (n:Nat) {B:Int} {k:Kern},KOk B k→B+c * n≤1000000→KOk (B+c * n) (a2n f n k)
 | 0,B,k,h,hb=>by simpa [a2n] using h
 | n+1,B,k,h,hb=>by
  have e:(c:Int) * ((n+1:Nat):Int)=c+c * n:=by rw [Int.natCast_add,Int.mul_add];simp;omega
  rw [e] at hb ⊢
  have hc:(0:Int)≤(c:Int) * (n:Int):=Int.mul_nonneg (by omega) (by omega)
  have h1:=hf B k h (by omega)
  unfold a2n
  split
  ·have:=d7j hf n h1 (by omega)
   rwa [show B+c+c * n=B+(c+c * n) by omega] at this
  ·exact h1.up (by omega) (by omega)
theorem c5v {q:List En} {regs:List Nat} {i reg:Int} (hq:ensOk q) (hr:∀ x∈regs,x<4294967296):(a4c q regs i reg).1<4294967296:=by
 unfold a4c
 split
 ·dsimp only;omega
 ·split
  ·dsimp only;omega
  ·split
   ·dsimp only
    cases h:regs[reg.toNat]? with
    | none=>simp
    | some x=>exact hr x (List.mem_of_getElem? h)
   ·split
    ·rename_i e he
     split
     ·exact (hq e (List.mem_of_getElem? he)).v
     ·dsimp only;omega
    ·dsimp only;omega
theorem d7k {q:List En} {regs:List Nat} {i:Nat} (hq:ensOk q) (hr:∀ x∈regs,x<4294967296):(a5g q regs i).1<4294967296∧(a5g q regs i).2.1<4294967296:=by
 unfold a5g
 split
 ·exact ⟨c5v hq hr,c5v hq hr⟩
 ·exact ⟨by dsimp only;omega,by dsimp only;omega⟩
theorem KOk.setRob (h:KOk B k) {e:En} (he:EnOk e) (i:Nat):KOk B { k with rob:=k.rob.set i e } :=
 { h with rob:=h.rob.set he i,roblen:=by show (k.rob.set i e).length≤16;rw [List.length_set];exact h.roblen }
theorem b5h {x:Nat} (h:x<4294967296):a1w x<4294967296:=by unfold a1w;omega
theorem KOk.load (h:KOk B k) (h2:B+1≤1000000) (i:Nat):KOk (B+1) (a3z k i):=by
 have hu:=h.up (B':=B+1) (by omega) h2
 unfold a3z
 split
 ·exact hu
 ·rename_i e he
  have heo:=h.rob e (List.mem_of_getElem? he)
  dsimp only
  split
  ·exact hu
  ·split
   ·exact hu.setRob (c5k heo) i
   ·split
    ·exact hu
    ·split
     ·exact hu.setRob (c5k heo) i
     ·split
      ·exact hu.setRob (d6s heo) i
      ·split
       ·have hk:=h.ask h2 1 (line:=a1w e.addr) (data:=⟨#[]⟩) (b5h heo.a) (by decide)
        exact hk.setRob (d6s heo) i
       ·exact hu
theorem KOk.start (h:KOk B k) (h2:B+1≤1000000) (i:Nat):KOk (B+1) (a3h k i):=by
 have hu:=h.up (B':=B+1) (by omega) h2
 have hb:=d7k (i:=i) h.rob h.regs
 unfold a3h
 split
 ·exact hu
 ·rename_i e he
  have heo:=h.rob e (List.mem_of_getElem? he)
  dsimp only
  split
  ·exact hu.setRob (c5l heo) i
  ·split
   ·exact (h.setRob (c5l heo) i).load h2 i
   ·exact hu.setRob (h2d heo hb.1 hb.2) i
theorem b7o {width:Int} {kinds:List Int}:∀ (cs:List Bool) (i:Nat) (n:Int) (d m:Bool),((a3m width kinds cs i n d m).length:Int)≤max (width - n) 0
 | [],_,_,_,_=>by simp [a3m];omega
 | c::r,i,n,d,m=>by
  unfold a3m
  split
  ·simp;omega
  ·split
   ·exact b7o r (i+1) n d m
   ·dsimp only
    split
    ·exact b7o r (i+1) n d m
    ·have:=b7o (width:=width) (kinds:=kinds) r (i+1) (n+1) (d || decide (a5s (kinds[i]?.getD 0)=1)) (m || decide (a5s (kinds[i]?.getD 0)=2))
     rw [List.length_cons]
     omega
theorem d7l : ∀ (l:List Int) {B:Int} {k:Kern},KOk B k→B+l.length≤1000000→KOk (B+l.length) (l.foldl (fun k i=>a3h k i.toNat) k)
 | [],B,k,h,hb=>by simpa using h
 | i::l,B,k,h,hb=>by
  rw [List.length_cons] at hb ⊢
  have h1:=h.start (by omega) i.toNat
  have:=d7l l h1 (by omega)
  rw [List.foldl_cons]
  rwa [show B+1+(l.length:Int)=B+((l.length+1:Nat):Int) by omega] at this
theorem KOk.starts (h:KOk B k) (h2:B+2≤1000000):KOk (B+2) (a2q k):=by
 have hw:=h.cf.width
 have hp:=b7o (width:=k.conf.width) (kinds:=b9o k) (b7b k) 0 0 (b9p k) false
 unfold a2q
 split
 ·exact h.up (by omega) h2
 ·exact (d7l _ h (by omega)).up (by omega) h2
theorem KOk.enter (h : KOk B k) (h2 : B + 1 ≤ 1000000) : KOk (B + 1) (a3u k).1 := by
  have hu := h.up (B' := B + 1) (by omega) h2
  have hn := h.next
  have hc := h.cf.rob
  unfold a3u
  split
  · exact hu
  · rename_i hlt
    split
    · exact hu
    · rename_i f r hf
      have hfo := h.fe f (by rw [hf]; exact List.mem_cons_self ..)
      have hb := h.bound
      have hfl := h.felen
      exact { hu with
        rob := h.rob.app (h2j (by omega) hfo)
        roblen := by show (k.rob ++ [_]).length ≤ 16; rw [List.length_append, List.length_singleton]; omega
        next := ⟨by show 0 ≤ k.next + 1; omega, by show k.next + 1 ≤ B + 1; omega⟩
        felen := by show r.length ≤ 16; rw [hf, List.length_cons] at hfl; omega
        fe := fun x hx => h.fe x (by rw [hf]; exact List.mem_cons_of_mem _ hx) }
theorem h4c {g:Gu} {pc:Nat} {i:Ins} (hs:∀ s∈g.slots,b8v s) (hr:∀ x∈g.rets,x<4294967296):a8s g pc i<4294967296:=by
 have hadd:=a4r pc 4
 unfold a8s
 split
 ·exact hadd
 ·split
  ·cases h:g.rets[g.rets.length - 1]? with
   | none=>simp
   | some x=>exact hr x (List.mem_of_getElem? h)
  ·dsimp only
   split
   ·cases h:g.slots[a6g g pc]? with
    | none=>simp [zsl]
    | some x=>exact (hs x (List.mem_of_getElem? h)).2
   ·exact hadd
theorem h4d {c:Cf} {n:Int} {pc:Nat} (ht:∀ x∈c.tape,x<4294967296):b2b c n pc<4294967296:=by
 unfold b2b
 split
 ·exact a4r _ _
 ·cases h:(cleanCf c).tape[(max n 0 % (cleanCf c).tape.length).toNat]? with
  | none=>simp
  | some x=>
   have hm:x∈(cleanCf c).tape:=List.mem_of_getElem? h
   exact ht x (List.mem_of_mem_take hm)
theorem KOk.behind (h:KOk B k) (h2:B+1≤1000000) (w:Nat):(a2f k w).1<4294967296∧KOk (B+1) (a2f k w).2∧(a2f k w).2.fetched=k.fetched:=by
 have hu:=h.up (B':=B+1) (by omega) h2
 have hadd:=a4r k.fetch 4
 have hg:=h.guessed
 unfold a2f
 split
 ·exact ⟨hadd,hu,rfl⟩
 ·split
  ·exact ⟨hadd,hu,rfl⟩
  ·split
   ·exact ⟨h4c h.slots h.rets,hu,rfl⟩
   ·exact ⟨h4d h.tape,{ hu with guessed:=⟨by show 0≤k.guessed+1;omega,by show k.guessed+1≤B+1;omega⟩ },rfl⟩
theorem KOk.fetch1 (h:KOk B k) (h2:B+1≤1000000):KOk (B+1) (a3v k).1:=by
 have hu:=h.up (B':=B+1) (by omega) h2
 have hq:=h.cf.queue
 have hf:=h.fetch
 have hadd:=a4r k.fetch 4
 unfold a3v
 split
 ·exact hu
 ·rename_i hst
  have hfl:k.fetched.length≤4:=by
   rcases Nat.lt_or_ge 4 k.fetched.length with h|h
   ·exact absurd (Or.inr (by omega)) hst
   ·exact h
  have hap:∀ x:Fe,b4f x→(∀ f∈k.fetched++[x],b4f f)∧(k.fetched++[x]).length≤16:=fun x hx=>⟨fun f hm=>by
   rcases List.mem_append.1 hm with hm|hm
   ·exact h.fe f hm
   ·obtain rfl:=List.mem_singleton.1 hm;exact hx,by rw [List.length_append,List.length_singleton];omega⟩
  split
  ·have:=hap ⟨k.fetch,a1k k.fetch 4⟩ ⟨hf,hadd⟩
   exact { hu with fe:=this.1,felen:=this.2 }
  ·rename_i w _
   dsimp only
   split
   ·split
    ·exact h.ask h2 2 (b5h hf) (by decide)
    ·exact hu
   ·have ht:=c1k k.wways k.words (a1w k.fetch)
    have hk1:KOk B { k with words:=a4v k.wways k.words (a1w k.fetch) }:={ h with words:=ht.right h.words,wok:=ht.cok h.wok }
    have hb:=hk1.behind h2 w
    have:=hap ⟨k.fetch,(a2f { k with words:=a4v k.wways k.words (a1w k.fetch) } w).1⟩ ⟨hf,hb.1⟩
    generalize a2f { k with words:=a4v k.wways k.words (a1w k.fetch) } w=r at *
    exact { hb.2.1 with fetch:=hb.1,fe:=by show ∀ f∈r.2.fetched++[_],b4f f;rw [hb.2.2];exact this.1,felen:=by show (r.2.fetched++[_]).length≤16;rw [hb.2.2];exact this.2 }
theorem c5w {ws:List Wy} {i j:Nat} {v x:Wy} (hv:ws[i]?=some v) (hx:(ws.set i ⟨v.line,false,v.data⟩)[j]?=some x):∃ y,ws[j]?=some y∧y.line=x.line∧y.data=x.data:=by
 by_cases hij:i=j
 ·subst hij
  rw [List.getElem?_set_self (List.getElem?_eq_some_iff.1 hv).1] at hx
  injection hx with hx
  subst hx
  exact ⟨v,hv,rfl,rfl⟩
 ·rw [List.getElem?_set_ne hij] at hx
  exact ⟨x,hx,rfl,rfl⟩
theorem CleanR.right {ways:Int} {C C':List (List Wy)} {x:Nat} (h:CleanR ways C x C') (hR:RightP ways C):RightP ways C':=by
 cases h with
 | no k i h he=>subst he;exact hR
 | yes k i h ws v hw hv he=>
  subst he
  have hs:=hR.hs k ws hw
  refine hR.set_ ⟨by rw [List.length_set];exact hs.1,fun j y hy=>?_⟩
  obtain ⟨z,hz,e1,e2⟩:=c5w hv hy
  have:=hs.2 j z hz
  unfold b1s at this ⊢
  rw [e1,e2] at this
  refine ⟨this.1,this.2.1,this.2.2.1,fun l hl u hu=>?_⟩
  obtain ⟨u',hu',e3,_⟩:=c5w hv hu
  rw [← e3]
  exact this.2.2.2 l hl u' hu'
theorem CleanR.cok {ways:Int} {C C':List (List Wy)} {x:Nat} (h:CleanR ways C x C') (ho:COk C):COk C':=by
 cases h with
 | no k i h he=>subst he;exact ho
 | yes k i h ws v hw hv he=>
  subst he
  have hw1:=ho.at_ hw
  refine ho.set k fun u hu=>?_
  obtain ⟨j,hj⟩:=List.mem_iff_getElem?.1 hu
  obtain ⟨z,hz,e1,e2⟩:=c5w hv hj
  have:=hw1 z (List.mem_of_getElem? hz)
  rwa [e1,e2] at this
theorem d7m {ways:Int} {C:List (List Wy)} (ho:COk C) (h:(a2r ways C).2=true):(a2r ways C).1.line<4294967296∧(a2r ways C).1.data.size≤maxLen:=by
 unfold a2r at *
 split at h
 ·rename_i hr
  rw [if_pos hr]
  split at h
  ·rename_i v hv
   obtain ⟨ws,hw,hm⟩:=List.mem_flatten.1 (List.mem_of_find?_eq_some hv)
   exact ho ws hw v hm
  ·cases h
 ·cases h
theorem d7n (ways:Int) (ss:List Pu) (C:List (List Wy)):(∀ p∈(a4f ways ss C).1,p∈ss)∧(a4f ways ss C).1.length≤ss.length:=by
 unfold a4f
 split
 ·exact ⟨fun p h=>h,Nat.le_refl _⟩
 ·split
  ·exact ⟨fun p h=>List.mem_cons_of_mem _ h,Nat.le_succ _⟩
  ·exact ⟨fun p h=>h,Nat.le_refl _⟩
theorem h4e {k2:Kern} (hk2:KOk (B+1) k2) (h2:B+2≤1000000):KOk (B+2) (if k2.stores≠[]∨k2.halt=0 then k2 else
  if (a2r k2.dways k2.data).2=true∧(a2r k2.dways k2.data).1.data.size≠0 then { a3y k2 4 (a2r k2.dways k2.data).1.line (a2r k2.dways k2.data).1.data with data:=a9g k2.dways k2.data (a2r k2.dways k2.data).1.line } else k2):=by
 split
 ·exact hk2.up (by omega) h2
 ·split
  ·rename_i hy
   have hy2:=d7m hk2.dok hy.1
   have hc:=d5t k2.dways k2.data (a2r k2.dways k2.data).1.line
   have ha:=hk2.ask (by omega) 4 hy2.1 hy2.2
   rw [show B+1+1=B+2 by omega] at ha
   exact { ha with data:=hc.right hk2.data,dok:=hc.cok hk2.dok }
  ·exact hk2.up (by omega) h2
theorem KOk.drains (h:KOk B k) (h2:B+2≤1000000):KOk (B+2) (a4x k):=by
 have hd:=d5v k.dways k.stores k.data
 have hs:=d7n k.dways k.stores k.data
 have hst:=h.stlen
 have hk1:KOk B { k with stores:=(a4f k.dways k.stores k.data).1,data:=(a4f k.dways k.stores k.data).2.1 } :=
  { h with stlen:=Nat.le_trans hs.2 hst,st:=fun p hp=>h.st p (hs.1 p hp),data:=hd.right h.data,dok:=hd.cok h.dok }
 unfold a4x
 refine h4e ?_ h2
 split
 ·rename_i p r hb hp
  have hpo:=hk1.st p (by rw [hp];exact List.mem_cons_self ..)
  split
  ·exact hk1.ask (by omega) 3 (b5h hpo.1) (by decide)
  ·exact hk1.up (by omega) (by omega)
 ·exact hk1.up (by omega) (by omega)
theorem KOk.iter {f:Kern→Kern × Bool} (c:Nat) (hf:∀ (B:Int) (k:Kern),KOk B k→B+c≤1000000→KOk (B+c) (f k).1) (h:KOk B k) {n:Nat} (hn:n≤2) (h2:B+2 * c≤1000000):KOk (B+2 * c) (a2n f n k):=by
 have hc:(c:Int) * (n:Int)≤2 * c:=by
  have:c * n≤c * 2:=Nat.mul_le_mul_left c hn
  have h3:((c * n:Nat):Int)≤((c * 2:Nat):Int):=by omega
  rw [Int.natCast_mul,Int.natCast_mul] at h3
  omega
 exact (d7j hf n h (by omega)).up (by omega) h2
theorem KOk.step (h:KOk B k) (h2:B+20≤1000000):KOk (B+20) (a2z k):=by
 unfold a2z
 split
 ·have hw:=h.cf.width
  have hc:=h.cyc
  have hu:=h.up (B':=B+1) (by omega) (by omega)
  have h0:KOk (B+1) { k with cycle:=k.cycle+1 }:={ hu with cyc:=⟨by show 0≤k.cycle+1;omega,by show k.cycle+1≤B+1;omega⟩ }
  have h3:=(h0.ticks (by omega)).works
  generalize a1y (a2k { k with cycle:=k.cycle+1 })=k3 at *
  have h4:KOk (B+6) (a2w k3):=by
   have hw3:=h3.cf.width
   have:=h3.iter 2 (f:=a2s) (fun B k h hb=>h.retire hb) (n:=k3.conf.width.toNat) (by omega) (by omega)
   exact this.up (by omega) (by omega)
  have h5:=h4.starts (by omega)
  generalize a2q (a2w k3)=k5 at *
  have h6:KOk (B+10) (a3c k5):=by
   have hw5:=h5.cf.width
   unfold a3c
   split
   ·exact h5.up (by omega) (by omega)
   ·exact (h5.iter 1 (f:=a3u) (fun B k h hb=>h.enter hb) (n:=k5.conf.width.toNat) (by omega) (by omega)).up (by omega) (by omega)
  generalize a3c k5=k6 at *
  have h7:KOk (B+12) (a2y k6):=by
   have hw6:=h6.cf.width
   unfold a2y
   split
   ·exact h6.up (by omega) (by omega)
   ·exact (h6.iter 1 (f:=a3v) (fun B k h hb=>h.fetch1 hb) (n:=k6.conf.width.toNat) (by omega) (by omega)).up (by omega) (by omega)
  exact (h7.drains (by omega)).up (by omega) h2
 ·exact h.up (by omega) h2
end
end
section
open Go.RowKit Wd
theorem a9r {a b n:Int} (h:a≤b):a≤a1q a b n∧a1q a b n≤b:=by
 unfold a1q
 split <;> omega
theorem c5x (c:Cf):a8a (cleanCf c)=true:=by
 have h1:=a9r (a:=0) (b:=2) (n:=c.mode) (by omega)
 have h2:=a9r (a:=1) (b:=2) (n:=c.width) (by omega)
 have h3:=a9r (a:=2) (b:=8) (n:=c.rob) (by omega)
 have h4:=a9r (a:=1) (b:=4) (n:=c.queue) (by omega)
 have h5:=a9r (a:=1) (b:=4) (n:=c.stores) (by omega)
 have h6:=a9r (a:=2) (b:=6) (n:=c.slots) (by omega)
 have h7:=a9r (a:=1) (b:=4) (n:=c.sets) (by omega)
 have h8:=a9r (a:=1) (b:=2) (n:=c.ways) (by omega)
 have h9:=c5c c
 have hl:(cleanCf c).lat.all (a5t 1 8)=true:=by
  rw [List.all_eq_true]
  intro x hx
  simp only [cleanCf,List.mem_map] at hx
  obtain ⟨y,_,rfl⟩:=hx
  have:=a9r (a:=1) (b:=8) (n:=y) (by omega)
  simp only [a5t,Bool.and_eq_true,decide_eq_true_eq]
  exact this
 have hs:1≤(cleanCf c).sets∧(cleanCf c).sets≤4∧(cleanCf c).sets≠3:=by
  show 1≤(if a1q 1 4 c.sets=3 then 2 else a1q 1 4 c.sets)∧_≤(4:Int)∧_
  dsimp only [cleanCf]
  split <;> omega
 unfold a8a
 rw [hl]
 simp only [a5t,Bool.true_and,Bool.and_eq_true,decide_eq_true_eq]
 exact ⟨h1,h2,h3,h4,h5,h6,⟨hs.1,hs.2.1⟩,hs.2.2,h8,h9.1,h9.2⟩
theorem d7o {c:Cf} (h:CfB c) (h3:c.sets≠3):RightP c.ways (List.replicate c.sets.toNat []):=by
 have h1:=h.sets
 have h2:=h.ways
 refine ⟨by rw [List.length_replicate];omega,by omega,fun k s hs=>?_⟩
 obtain rfl:s=[]:=List.eq_of_mem_replicate (List.mem_of_getElem? hs)
 exact ⟨by simp;omega,fun i v hv=>by simp at hv⟩
theorem d7p (n:Nat):COk (List.replicate n []):=fun ws hw v hv=>by
 obtain rfl:=List.eq_of_mem_replicate hw
 cases hv
theorem h4f {c : Cf} {prog : List Nat} {m : ByteArray} (ht : ∀ x ∈ c.tape, x < 4294967296) (hp : ∀ x ∈ prog, x < 4294967296) : KOk 1 (newK c prog m) := by
  have hr := c5x c
  have hb := b7n hr
  have h3 : (cleanCf c).sets ≠ 3 := by
    dsimp only [cleanCf]
    split <;> omega
  have hm : (d2c m).size ≤ 256 := by
    show (Me.cleanL m.data.toList).toArray.size ≤ 256
    rw [List.size_toArray]
    rw [Me.cleanL_len]
    have := Me.cleanN_cases (min 256 m.data.toList.length)
    omega
  exact {
    conf := hr
    tape := fun x hx => ht x (List.mem_of_mem_take hx)
    plen := by show (prog.take 64).length ≤ 64; rw [List.length_take]; omega
    prog := fun x hx => hp x (List.mem_of_mem_take hx)
    cyc := by show (0 : Int) ≤ 0 ∧ (0 : Int) ≤ 1; omega
    rlen := List.length_replicate ..
    regs := fun x hx => by rw [List.eq_of_mem_replicate hx]; omega
    fetch := by show 0 < 4294967296; omega
    felen := by show 0 ≤ 16; omega
    fe := fun f hf => by cases hf
    roblen := by show 0 ≤ 16; omega
    rob := fun f hf => by cases hf
    next := by show (0 : Int) ≤ 1 ∧ (1 : Int) ≤ 1; omega
    stlen := by show 0 ≤ 16; omega
    st := fun p hp => by cases hp
    data := d7o hb h3
    dok := d7p _
    words := d7o hb h3
    wok := d7p _
    buslen := by show (0 : Int) ≤ 1; omega
    bus := fun r hr => by cases hr
    left := fun r hr => by cases hr
    asked := by show (0 : Int) ≤ 0 ∧ (0 : Int) ≤ 1; omega
    guessed := by show (0 : Int) ≤ 0 ∧ (0 : Int) ≤ 1; omega
    mem := hm
    guess := by show a5o b7a = true; decide
    slots := fun s hs => by rw [List.eq_of_mem_replicate hs]; exact ⟨by show 0 < 4294967296; omega, by show 0 < 4294967296; omega⟩
    rets := fun x hx => by cases hx
    halt := by show (-9223372036854775808 : Int) ≤ 0 ∧ (0 : Int) ≤ 9223372036854775807; omega
    retlen := by show (0 : Int) ≤ 1; omega
    bound := by omega }
end
section
open Go.RowKit Wd
def AllE (P:En→Prop) (q:List En):Prop:=∀ e∈q,P e
structure EnC0 (P:En→Prop):Prop where
 go:∀ e,P e→P (goE e)
 take:∀ e b,P e→P (a5m e b)
 fill:∀ e,P e→P { e with filled:=true }
 start:∀ e a b,P e→P (a3l e a b)
 addr:∀ e n a,P e→P (a6m e n a)
 store:∀ e b,P e→P (a8q e b)
 cut:∀ e,P e→P { e with guess:=e.next }
 bus:∀ e,P e→P { e with is:=2 }
structure EnC (P:En→Prop):Prop extends EnC0 P where
 enter:∀ no f prog,P (a5n no f prog)
section
variable {P:En→Prop} {q:List En} {k:Kern}
theorem AllE.map {f:En→En} (h:AllE P q) (hf:∀ e,P e→P (f e)):AllE P (q.map f):=fun r hr=>by
 obtain ⟨e,he,rfl⟩:=List.mem_map.1 hr
 exact hf e (h e he)
theorem AllE.set {e:En} (h:AllE P q) (he:P e) (i:Nat):AllE P (q.set i e):=fun r hr=>by
 rcases List.mem_or_eq_of_mem_set hr with h1|rfl
 ·exact h r h1
 ·exact he
theorem AllE.app {e:En} (h:AllE P q) (he:P e):AllE P (q++[e]):=fun r hr=>by
 rcases List.mem_append.1 hr with h1|h1
 ·exact h r h1
 ·obtain rfl:=List.mem_singleton.1 h1;exact he
theorem EnC0.filled (C:EnC0 P) (k:Kern) (x:Nat) (e:En) (h:P e):P (a5p k x e):=by
 unfold a5p
 split
 ·exact C.take _ _ (C.fill _ h)
 ·exact h
theorem AllE.ticks (C:EnC0 P) (h:AllE P k.rob):AllE P (a2k k).rob:=by
 unfold a2k
 dsimp only
 cases (a3g k.bus).2 with
 | none=>exact h
 | some d=>
  dsimp only
  split
  ·exact h.map fun e he=>C.filled _ _ e he
  ·split
   ·exact h
   ·split
    ·exact h
    ·split
     ·exact h
     ·exact h
theorem h4g (C:EnC0 P) {regs:List Nat} (i:Nat) (h:AllE P q):AllE P (storeAt regs q i):=by
 unfold storeAt
 split
 ·exact h
 ·rename_i e he
  split
  ·exact h
  ·split
   ·exact h.set (C.store _ _ (h e (List.mem_of_getElem? he))) i
   ·exact h
theorem c5y (C:EnC0 P) {regs:List Nat}:∀ (l:List Nat) {q:List En},AllE P q→AllE P (l.foldl (storeAt regs) q)
 | [],q,h=>h
 | i::l,q,h=>c5y C l (h4g C i h)
theorem AllE.works (C:EnC0 P) (h:AllE P k.rob):AllE P (a1y k).rob:=by
 have h4:AllE P (a6h k.regs (k.rob.map goE)):=c5y C _ (h.map C.go)
 unfold a1y
 split
 ·exact h
 ·dsimp only
  generalize a6h k.regs (k.rob.map goE)=q at *
  split
  ·exact h4
  ·split
   ·exact h4
   ·rename_i i _ _ e he
    exact AllE.app (fun r hr=>h4 r (List.mem_of_mem_take hr)) (C.cut _ (h4 e (List.mem_of_getElem? he)))
theorem AllE.retire (h:AllE P k.rob):AllE P (a2s k).1.rob:=by
 unfold a2s
 split
 ·exact h
 ·split
  ·exact h
  ·rename_i e r hrob
   have hr:AllE P r:=fun x hx=>h x (by rw [hrob];exact List.mem_cons_of_mem _ hx)
   split
   ·exact h
   ·dsimp only
    split
    ·exact fun x hx=>(by cases hx)
    ·split
     ·exact h
     ·exact hr
theorem AllE.load (C:EnC0 P) (h:AllE P k.rob) (i:Nat):AllE P (a3z k i).rob:=by
 unfold a3z
 split
 ·exact h
 ·rename_i e he
  have heo:=h e (List.mem_of_getElem? he)
  dsimp only
  split
  ·exact h
  ·split
   ·exact h.set (C.take _ _ heo) i
   ·split
    ·exact h
    ·split
     ·exact h.set (C.take _ _ heo) i
     ·split
      ·exact h.set (C.bus _ heo) i
      ·split
       ·exact h.set (C.bus _ heo) i
       ·exact h
theorem AllE.start (C:EnC0 P) (h:AllE P k.rob) (i:Nat):AllE P (a3h k i).rob:=by
 unfold a3h
 split
 ·exact h
 ·rename_i e he
  have heo:=h e (List.mem_of_getElem? he)
  dsimp only
  split
  ·exact h.set (C.addr _ _ _ heo) i
  ·split
   ·exact AllE.load (k:={ k with rob:=k.rob.set i (a6m e k.mem.size (a5g k.rob k.regs i).1) }) C (h.set (C.addr _ _ _ heo) i) i
   ·exact h.set (C.start _ _ _ heo) i
theorem d7q (C:EnC0 P):∀ (l:List Int) {k:Kern},AllE P k.rob→AllE P (l.foldl (fun k i=>a3h k i.toNat) k).rob
 | [],k,h=>h
 | i::l,k,h=>d7q C l (h.start C i.toNat)
theorem AllE.starts (C:EnC0 P) (h:AllE P k.rob):AllE P (a2q k).rob:=by
 unfold a2q
 split
 ·exact h
 ·exact d7q C _ h
theorem AllE.enter1 (he:∀ no f,P (a5n no f k.prog)) (h:AllE P k.rob):AllE P (a3u k).1.rob:=by
 unfold a3u
 split
 ·exact h
 ·split
  ·exact h
  ·exact h.app (he _ _)
theorem h4h (k:Kern) (w:Nat):(a2f k w).2.rob=k.rob:=by
 unfold a2f
 repeat' split
 all_goals rfl
theorem h4i (k:Kern):(a3v k).1.rob=k.rob:=by
 unfold a3v
 split
 ·rfl
 ·split
  ·rfl
  ·dsimp only
   split
   ·split
    ·rfl
    ·rfl
   ·exact h4h _ _
theorem h4j (k:Kern):(a4x k).rob=k.rob:=by
 unfold a4x
 dsimp only
 repeat' split
 all_goals rfl
theorem c5z {f:Kern→Kern × Bool} (hf:∀ k,AllE P k.rob→AllE P (f k).1.rob):∀ (n:Nat) {k:Kern},AllE P k.rob→AllE P (a2n f n k).rob
 | 0,k,h=>h
 | n+1,k,h=>by
  unfold a2n
  split
  ·exact c5z hf n (hf k h)
  ·exact hf k h
theorem AllE.retires (h:AllE P k.rob):AllE P (a2w k).rob:=c5z (fun k h=>h.retire) _ h
theorem d7r (k:Kern):(a3u k).1.prog=k.prog:=by
 unfold a3u
 repeat' split
 all_goals rfl
theorem d7s {prog:List Nat} (he:∀ no f,P (a5n no f prog)):∀ (n:Nat) {k:Kern},k.prog=prog→AllE P k.rob→AllE P (a2n a3u n k).rob
 | 0,k,_,h=>h
 | n+1,k,hp,h=>by
  unfold a2n
  split
  ·exact d7s he n ((d7r k).trans hp) (h.enter1 (by rw [hp];exact he))
  ·exact h.enter1 (by rw [hp];exact he)
theorem AllE.enters (he:∀ no f,P (a5n no f k.prog)) (h:AllE P k.rob):AllE P (a3c k).rob:=by
 unfold a3c
 split
 ·exact h
 ·exact d7s he _ rfl h
theorem AllE.fetches (h:AllE P k.rob):AllE P (a2y k).rob:=by
 unfold a2y
 split
 ·exact h
 ·exact c5z (fun k h=>by rw [h4i];exact h) _ h
theorem AllE.drains (h:AllE P k.rob):AllE P (a4x k).rob:=by rw [h4j];exact h
theorem AllE.step0 (C:EnC0 P) (h:AllE P k.rob) (he:∀ no f,P (a5n no f (a2q (a2w (a1y (a2k { k with cycle:=k.cycle+1 })))).prog)):AllE P (a2z k).rob:=by
 unfold a2z
 split
 ·have h0:AllE P ({ k with cycle:=k.cycle+1 }:Kern).rob:=h
  exact ((((((h0.ticks C).works C).retires).starts C).enters he).fetches).drains
 ·exact h
theorem AllE.step (C:EnC P) (h:AllE P k.rob):AllE P (a2z k).rob:=h.step0 C.toEnC0 (fun _ _=>C.enter _ _ _)
end
theorem d7t : EnC (fun e=>okL e.left) where
 go e h:=by
  unfold goE okL at *
  repeat' split
  all_goals (first|omega|(dsimp only at *;omega))
 take e b h:=by
  unfold a5m okL at *
  repeat' split
  all_goals (first|omega|(dsimp only at *;omega))
 fill e h:=h
 start e a b h:=by
  have ht:=d6q e.inst.op a b
  unfold a3l okL at *
  dsimp only
  repeat' split
  all_goals (first|omega|(dsimp only at *;omega))
 addr e n a h:=by
  unfold a6m okL at *
  repeat' split
  all_goals (first|omega|(dsimp only at *;omega))
 store e b h:=by
  unfold a8q okL at *
  repeat' split
  all_goals (first|omega|(dsimp only at *;omega))
 cut e h:=h
 bus e h:=h
 enter no f prog:=by
  unfold a5n okL
  dsimp only
  repeat' split
  all_goals (first|omega|(dsimp only;omega))
end
section
open Go.RowKit Wd
def b2k (i:Ins):Prop:=(0≤i.rs1∧i.rs1≤31)∧(0≤i.rs2∧i.rs2≤31)
theorem h4k (e:En):(goE e).inst=e.inst:=by
 unfold goE
 repeat' split
 all_goals rfl
theorem d7u (e:En) (b:ByteArray):(a5m e b).inst=e.inst:=by
 unfold a5m
 repeat' split
 all_goals rfl
theorem d7v (e:En) (a b:Nat):(a3l e a b).inst=e.inst:=by
 unfold a3l
 dsimp only
 repeat' split
 all_goals rfl
theorem c1y (e:En) (n a:Nat):(a6m e n a).inst=e.inst:=by
 unfold a6m
 repeat' split
 all_goals rfl
theorem d7w (e:En) (b:Nat):(a8q e b).inst=e.inst:=by
 unfold a8q
 repeat' split
 all_goals rfl
theorem i3m (k:Kern) (x:Nat) (e:En):(a5p k x e).inst=e.inst:=by
 unfold a5p
 split
 ·exact d7u _ _
 ·rfl
theorem d7x (w:Nat) (a:Int):a5j w a 5<32:=by
 unfold a5j
 split
 ·exact Nat.lt_of_le_of_lt Nat.and_le_right (by decide)
 ·omega
theorem d7y {b:Bool} {x:Nat} (h:x<32):0≤(if b=true then (x:Int) else 0)∧(if b=true then (x:Int) else 0)≤31:=by
 cases b
 ·simp
 ·rw [if_pos rfl];omega
theorem h4l {w:Nat} {i:Ins} (h:a4j w=some i):b2k i:=by
 unfold a4j at h
 split at h
 ·injection h with h
  subst h
  exact ⟨d7y (d7x _ _),d7y (d7x _ _)⟩
 ·cases h
theorem h4m (no:Int) (f:Fe) (prog:List Nat):b2k (a5n no f prog).inst:=by
 have hz:b2k a9m:=by unfold a9m b2k;dsimp only;omega
 unfold a5n
 dsimp only
 split
 ·exact hz
 ·split
  ·exact hz
  ·rename_i i hd
   have:=h4l hd
   repeat' split
   all_goals exact this
def RobR (q:List En):Prop:=∀ e∈q,b2k e.inst
theorem RobR.map {q:List En} {f:En→En} (h:RobR q) (hf:∀ e,(f e).inst=e.inst):RobR (q.map f):=fun r hr=>by
 obtain ⟨e,he,rfl⟩:=List.mem_map.1 hr
 rw [hf]
 exact h e he
theorem RobR.set {q:List En} {e:En} (h:RobR q) (he:b2k e.inst) (i:Nat):RobR (q.set i e):=fun r hr=>by
 rcases List.mem_or_eq_of_mem_set hr with h1|rfl
 ·exact h r h1
 ·exact he
theorem RobR.app {q:List En} {e:En} (h:RobR q) (he:b2k e.inst):RobR (q++[e]):=fun r hr=>by
 rcases List.mem_append.1 hr with h1|h1
 ·exact h r h1
 ·obtain rfl:=List.mem_singleton.1 h1;exact he
structure InR (k:Kern):Prop where
 rob:RobR k.rob
 zero:k.regs[0]?=some 0
theorem h4n {regs:List Nat} {q:List En} (i:Nat) (h:RobR q):RobR (storeAt regs q i):=by
 unfold storeAt
 split
 ·exact h
 ·rename_i e he
  split
  ·exact h
  ·split
   ·exact h.set (by rw [d7w];exact h e (List.mem_of_getElem? he)) i
   ·exact h
theorem h4o {regs:List Nat}:∀ (l:List Nat) {q:List En},RobR q→RobR (l.foldl (storeAt regs) q)
 | [],q,h=>h
 | i::l,q,h=>h4o (regs:=regs) l (h4n i h)
theorem i3n {regs:List Nat} {s:Stp} (h:regs[0]?=some 0):(a6i regs s)[0]?=some 0:=by
 unfold a6i
 split
 ·rename_i hs
  rw [List.getElem?_set_ne (by omega)]
  exact h
 ·exact h
theorem i3o {k:Kern} (w:Nat):(a2f k w).2.rob=k.rob∧(a2f k w).2.regs=k.regs:=by
 unfold a2f
 repeat' split
 all_goals exact ⟨rfl,rfl⟩
end
section
open Go.RowKit Wd
def b5i (k:Kern) (s:Sls) (A:Option Addr) (c:Nat):Sls:={ s with robA:=A,robC:=c,feC:=k.fetched.length,stC:=k.stores.length,busC:=k.bus.length,reC:=k.retired.length }
inductive OwnPost (w0:World) (D0 D:List Da) (M:List Mu) (g:Nat) (k:Kern) (s:Sls) (w':World):Prop
 | mk (A:Option Addr) (c:Nat) (hc:k.rob.length≤c) (hm:c≤maxLen) (hF:St w0 D0 w' (.blk g 81 (mcells k (b5i k s A c)) :: .row A 54 (ens k.rob)::M) (kD k (b5i k s A c)++D))
theorem h4q {w0 w:World} {D0 D:List Da} {M:List Mu} {g:Nat} {k:Kern} {s:Sls} {B:Int} (hk:KOk B k) (ho1:s.feO=false) (ho2:s.stO=false) (ho3:s.reO=false)
  (hF:St w0 D0 w (.blk g 81 (mcells k s)::M) (a1a 17 s.robA k.rob.length s.robC (ens k.rob)::(kD k s++D))) :
  Calls Tryz.prog 30 #[.pointer (some ⟨g,0,none⟩)] w fun x w'=>(∃ y,x = .returned y)∧OwnPost w0 D0 D M g k s w':=by
 have HC:=Lib.hid (fun (W:World) (h:Rd W W.heap.size 17 s.robA k.rob.length s.robC (ens k.rob))=>h2o s.robA k.rob.length s.robC k.rob W h (by have:=hk.roblen;omega))
 simp only [kD,ho1,ho2,ho3,a1h,zL] at hF
 have r1:=hF.rdA (A:=s.feA) (n:=k.fetched.length) (c:=s.feC) (sz:=2) (xs:=fes k.fetched)
 have r2:=hF.rdA (A:=s.stA) (n:=k.stores.length) (c:=s.stC) (sz:=2) (xs:=pus k.stores)
 have r3:=hF.rdA (A:=s.busA) (n:=k.bus.length) (c:=s.busC) (sz:=4) (xs:=rqs k.bus)
 have r4:=hF.rdA (A:=s.reA) (n:=k.retired.length) (c:=s.reC) (sz:=9) (xs:=sts k.retired)
 have H1:=Lib.hid (fun W=>h2k s.feA k.fetched.length s.feC W r1.le r1.mx)
 have H2:=Lib.hid (fun W=>h2l s.stA k.stores.length s.stC W r2.le r2.mx)
 have H3:=Lib.hid (fun W=>h2m s.busA k.bus.length s.busC W r3.le r3.mx)
 have H4:=Lib.hid (fun W=>h2n s.reA k.retired.length s.reC W r4.le r4.mx)
 have l1:=r1.len;have l2:=r2.len;have l3:=r3.len;have l4:=r4.len
 replace l1:=Lib.hid l1;replace l2:=Lib.hid l2;replace l3:=Lib.hid l3;replace l4:=Lib.hid l4
 clear r1 r2 r3 r4
 go_enter Tryz.func30,Tryz.ntmps30
 go_wp2_with ((try simp only [zA,Nat.reduceAdd]);(first|(go_at_call 57;refine (HC.out _ hF.rdA).mono ?_;rintro x wN ⟨v,rfl,hb,ho⟩;replace hF:=hF.pushOwn hb ho;clear hb ho;obtain ⟨A1,c1,rfl,hc1,hc2,hF2⟩:=hF.ownRow at0;clear hF;have hF:=hF2;clear hF2;(try simp only [zF] at hF))|(refine f3h ?_;clear hF;(first|intro gN wN hF|intro wN hF|intro hF))|refine a7u ?_|(refine a1d ?_;clear hF;intro vN wN hF)))
 go_end0
 replace hF:=hF.swap
 rw [b7m (k:=k) (s:=s) k.rob rfl,b5f k.fetched rfl,c1w k.stores rfl,mset_bus k.bus rfl,c5s k.retired rfl] at hF
 replace hF:=hF.clip (sz:=2) (A:=s.feA) (n:=k.fetched.length) (c:=s.feC) (xs:=fes k.fetched) (N:=k.fetched.length) zdm (Nat.le_refl _)
 rw [List.take_of_length_le (Nat.le_of_eq l1.out)] at hF
 replace hF:=hF.clip (sz:=2) (A:=s.stA) (n:=k.stores.length) (c:=s.stC) (xs:=pus k.stores) (N:=k.stores.length) zdm (Nat.le_refl _)
 rw [List.take_of_length_le (Nat.le_of_eq l2.out)] at hF
 replace hF:=hF.clip (sz:=4) (A:=s.busA) (n:=k.bus.length) (c:=s.busC) (xs:=rqs k.bus) (N:=k.bus.length) zdm (Nat.le_refl _)
 rw [List.take_of_length_le (Nat.le_of_eq l3.out)] at hF
 replace hF:=hF.clip (sz:=9) (A:=s.reA) (n:=k.retired.length) (c:=s.reC) (xs:=sts k.retired) (N:=k.retired.length) zdm (Nat.le_refl _)
 rw [List.take_of_length_le (Nat.le_of_eq l4.out)] at hF
 refine ⟨⟨_,rfl⟩,OwnPost.mk _ _ hc1 hc2 (hF.lessD ?_)⟩
 simp only [kD,b5i,ho1,ho2,ho3,a1h,zL]
 exact zsn
end
end Go.Proofs.YtgnomadgnciifaaGreatDoor
