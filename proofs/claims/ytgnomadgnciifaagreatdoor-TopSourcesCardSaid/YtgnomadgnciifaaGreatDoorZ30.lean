/- Joined: In10, Mch, Md, Ma, Mb, Kok2, Kok3, Kpr, Kin, Mf. -/
import Derived.Test.YtgnomadgnciifaaGreatDoorZH0
import Derived.Test.YtgnomadgnciifaaGreatDoorZ28
import Derived.Test.YtgnomadgnciifaaGreatDoorZ3
import Derived.Test.YtgnomadgnciifaaGreatDoorZ4
import Derived.Test.YtgnomadgnciifaaGreatDoorZ10
import Derived.Test.YtgnomadgnciifaaGreatDoorZ29
import Derived.Test.YtgnomadgnciifaaGreatDoorZ16
import Derived.Test.YtgnomadgnciifaaGreatDoorZ19
import Derived.Test.YtgnomadgnciifaaGreatDoorZ26
import Derived.Test.YtgnomadgnciifaaGreatDoorZ1
import Derived.Test.YtgnomadgnciifaaGreatDoorZ8
set_option linter.unusedVariables false
set_option linter.unusedSimpArgs false
set_option linter.unusedSectionVars false
set_option maxRecDepth 100000
set_option maxHeartbeats 16000000
namespace Go.Proofs.YtgnomadgnciifaaGreatDoor
theorem z30x0 {p:Prop} (h:p:=by
 go_enter Tryz.func67,Tryz.ntmps67
 go_upto_region 1 with ((try simp only [zA,Nat.reduceAdd]);(first|refine zg28 ?_|(refine zg14 ?_;clear hF;(first|intro gN wN hF|intro wN hF|intro hF))|(refine zg15 ?_;clear hF;intro vN wN hF)))
 refine wp_region_stT [37,41] (by kernel_rfl) hF _ _ (fun _ h=>h) (fun _ h=>h) ?_
 clear hF;intro hF hH
 refine zt4 0 hH ?_
 (refine t_pure (i:=1) rfl (y_move rfl rfl) (fun _=>hH) ?_);(try simp only [zA,Nat.reduceAdd])
 refine zt4 2 hH ?_
 refine zq 3 hH ?_
 refine zt0 4 hH ?_
 refine zt0 5 hH ?_
 refine zt1 6 hH ?_
 refine zt4 7 hH ?_
 refine zq 8 hH ?_
 refine zt0 9 hH ?_
 refine zt0 10 hH ?_
 refine zt1 11 hH ?_
 refine zt4 12 hH ?_
 refine zq 13 hH ?_
 refine zt0 14 hH ?_
 refine zt0 15 hH ?_
 refine zt1 16 hH ?_
 refine zt4 17 hH ?_
 refine zt4 18 hH ?_
 refine zq 19 hH ?_
 refine zt0 20 hH ?_
 refine zt0 21 hH ?_
 refine zt1 22 hH ?_
 refine zt4 23 hH ?_
 refine zq 24 hH ?_
 refine zt0 25 hH ?_
 refine zt0 26 hH ?_
 refine zt1 27 hH ?_
 refine wpAnyT_ready (rs:=[28]) (by kernel_rfl) (by simp) (readyT_cons rfl (fun K hK=>?_) AllReadyT.nil)
 go_wp2_with ((first|(refine zg50 ?_;clear hF;intro wN hF)|(go_at_call 126;refine (HB.out _ hF.rds hF.rdA).mono ?_;rintro x wN ⟨_,_,rfl,A1,n1,c1,S1,A2,c2,rfl,rfl,hO,hC⟩;replace hF:=hF.call3A hO;clear hO)|(refine w_stp rfl hF rfl rfl ?_ (hfit:=by (try simp only [List.length_set]);rw [mcells_len];exact Nat.le_of_ble_eq_true rfl);clear hF;intro wN hF;(try simp only [List.set_cons_zero,List.set_cons_succ] at hF);(try simp only [zA,Nat.reduceAdd]))|(refine w_st1 rfl hF rfl rfl ?_ (hoff:=by (try simp only [spl_len]);rw [mcells_len];decide);clear hF;intro wN hF;(try simp only [zF] at hF);(try simp only [zA,Nat.reduceAdd]))|((first|refine zrg ?_|(refine zst ?_;clear hF;(first|intro gN wN hF|intro wN hF|intro hF))|(refine zap ?_;clear hF;intro vN wN hF));(try simp only [zA,Nat.reduceAdd]))))
 have hH:=zx0 hH hF;refine hK.out _ _ (fun _=>hH) ?_;clear hK;(try simp only [zA,Nat.reduceAdd])
 refine wpAnyT_ready (rs:=[29]) (by kernel_rfl) (by simp) (readyT_cons rfl (fun K hK=>?_) AllReadyT.nil)
 go_wp2_with ((first|(refine zg50 ?_;clear hF;intro wN hF)|(go_at_call 126;refine (HB.out _ hF.rds hF.rdA).mono ?_;rintro x wN ⟨_,_,rfl,A1,n1,c1,S1,A2,c2,rfl,rfl,hO,hC⟩;replace hF:=hF.call3A hO;clear hO)|(refine w_stp rfl hF rfl rfl ?_ (hfit:=by (try simp only [List.length_set]);rw [mcells_len];exact Nat.le_of_ble_eq_true rfl);clear hF;intro wN hF;(try simp only [List.set_cons_zero,List.set_cons_succ] at hF);(try simp only [zA,Nat.reduceAdd]))|(refine w_st1 rfl hF rfl rfl ?_ (hoff:=by (try simp only [spl_len]);rw [mcells_len];decide);clear hF;intro wN hF;(try simp only [zF] at hF);(try simp only [zA,Nat.reduceAdd]))|((first|refine zrg ?_|(refine zst ?_;clear hF;(first|intro gN wN hF|intro wN hF|intro hF))|(refine zap ?_;clear hF;intro vN wN hF));(try simp only [zA,Nat.reduceAdd]))))
 have hH:=zx0 hH hF;refine hK.out _ _ (fun _=>hH) ?_;clear hK;(try simp only [zA,Nat.reduceAdd])
 refine zt4 30 hH ?_
 refine zq 31 hH ?_
 (refine t_pure (i:=32) (v:=?_) rfl ?_ (fun _=>hH) ?_;rotate_left;(first|exact yi_eq y_skip (by rfl)|(refine yi_pure (by rfl) ?_;intro w;go_simp;done)|(refine yi_pure (by rfl) ?_;intro w;go_simp;with_reducible rfl)|(refine yi_pure (by rfl) ?_;intro w;simp only [Wy.cells];go_simp;with_reducible rfl));(try simp only [zA,Nat.reduceAdd]))
 (refine t_pure (i:=33) (v:=?_) rfl ?_ (fun _=>hH) ?_;rotate_left;(first|exact yi_eq y_skip (by rfl)|(refine yi_pure (by rfl) ?_;intro w;go_simp;done)|(refine yi_pure (by rfl) ?_;intro w;go_simp;with_reducible rfl)|(refine yi_pure (by rfl) ?_;intro w;simp only [Wy.cells];go_simp;with_reducible rfl));(try simp only [zA,Nat.reduceAdd]))
 refine zq 34 hH ?_
 refine zt0 35 hH ?_
 refine zt0 36 hH ?_
 refine wpAnyT_ready (rs:=[37]) (by kernel_rfl) (by simp) (readyT_cons rfl (fun K hK=>?_) AllReadyT.nil)
 go_wp2_with ((first|(refine zg50 ?_;clear hF;intro wN hF)|(go_at_call 126;refine (HB.out _ hF.rds hF.rdA).mono ?_;rintro x wN ⟨_,_,rfl,A1,n1,c1,S1,A2,c2,rfl,rfl,hO,hC⟩;replace hF:=hF.call3A hO;clear hO)|(refine w_stp rfl hF rfl rfl ?_ (hfit:=by (try simp only [List.length_set]);rw [mcells_len];exact Nat.le_of_ble_eq_true rfl);clear hF;intro wN hF;(try simp only [List.set_cons_zero,List.set_cons_succ] at hF);(try simp only [zA,Nat.reduceAdd]))|(refine w_st1 rfl hF rfl rfl ?_ (hoff:=by (try simp only [spl_len]);rw [mcells_len];decide);clear hF;intro wN hF;(try simp only [zF] at hF);(try simp only [zA,Nat.reduceAdd]))|((first|refine zrg ?_|(refine zst ?_;clear hF;(first|intro gN wN hF|intro wN hF|intro hF))|(refine zap ?_;clear hF;intro vN wN hF));(try simp only [zA,Nat.reduceAdd]))))
 (try clear hH);refine hK.out _ _ (notFree 37 rfl (by kernel_rfl)) ?_;clear hK;(try simp only [zA,Nat.reduceAdd])
 (refine t_pure (i:=38) (v:=?_) rfl ?_ (notFree 37 rfl (by kernel_rfl)) ?_;rotate_left;(first|exact yi_eq y_skip (by rfl)|(refine yi_pure (by rfl) ?_;intro w;go_simp;done)|(refine yi_pure (by rfl) ?_;intro w;go_simp;with_reducible rfl)|(refine yi_pure (by rfl) ?_;intro w;simp only [Wy.cells];go_simp;with_reducible rfl));(try simp only [zA,Nat.reduceAdd]))
 (first|refine t_pure (i:=39) rfl (y_fldB rfl rfl) (notFree 37 rfl (by kernel_rfl)) ?_|refine t_pure (i:=39) rfl (y_fld rfl rfl) (notFree 37 rfl (by kernel_rfl)) ?_);(try simp only [zA,Nat.reduceAdd])
 (first|refine t_pure (i:=40) rfl (y_fldB rfl rfl) (notFree 37 rfl (by kernel_rfl)) ?_|refine t_pure (i:=40) rfl (y_fld rfl rfl) (notFree 37 rfl (by kernel_rfl)) ?_);(try simp only [zA,Nat.reduceAdd])
 refine wpAnyT_ready (rs:=[41]) (by kernel_rfl) (by simp) (readyT_cons rfl (fun K hK=>?_) AllReadyT.nil)
 go_wp2_with ((first|(refine zg50 ?_;clear hF;intro wN hF)|(go_at_call 126;refine (HB.out _ hF.rds hF.rdA).mono ?_;rintro x wN ⟨_,_,rfl,A1,n1,c1,S1,A2,c2,rfl,rfl,hO,hC⟩;replace hF:=hF.call3A hO;clear hO)|(refine w_stp rfl hF rfl rfl ?_ (hfit:=by (try simp only [List.length_set]);rw [mcells_len];exact Nat.le_of_ble_eq_true rfl);clear hF;intro wN hF;(try simp only [List.set_cons_zero,List.set_cons_succ] at hF);(try simp only [zA,Nat.reduceAdd]))|(refine w_st1 rfl hF rfl rfl ?_ (hoff:=by (try simp only [spl_len]);rw [mcells_len];decide);clear hF;intro wN hF;(try simp only [zF] at hF);(try simp only [zA,Nat.reduceAdd]))|((first|refine zrg ?_|(refine zst ?_;clear hF;(first|intro gN wN hF|intro wN hF|intro hF))|(refine zap ?_;clear hF;intro vN wN hF));(try simp only [zA,Nat.reduceAdd]))))
 (try clear hH);refine hK.out _ _ (notFree 37 rfl (by kernel_rfl)) ?_;clear hK;(try simp only [zA,Nat.reduceAdd])
 (refine t_pure (i:=42) rfl (y_assign rfl rfl) (notFree 37 rfl (by kernel_rfl)) ?_);(try simp only [zA,Nat.reduceAdd])
 refine wpAnyT_done (by kernel_rfl) ?_ _
 ((have hn1:C'.length=n1:=by rw [← hC,cont_len];exact (hF.rds (A:=A1) (n:=n1) (c:=c1) (S:=S1)).slen);subst hn1;(first|rw [mset_data (k:=k) (s:=s) S1 C' k.dways rfl,mset_bus q' rfl] at hF|rw [mset_bus (k:=k) (s:=s) q' rfl,mset_data S1 C' k.dways rfl] at hF);go_wp2_with ((try simp only [zA,Nat.reduceAdd]);(first|refine zg28 ?_|(refine zg51 ?_;clear hF;(first|intro gN wN hF|intro wN hF|intro hF))|(refine zg15 ?_;clear hF;intro vN wN hF)));go_end0;(try rw [mset_asked] at hF);refine ⟨⟨_,rfl⟩,BringPost.mk A1 c1 S1 A2 c2 (by rw [hbk.out];exact hC) ?_⟩;(rw [hbk.out]);refine hF.lessD ?_;(simp only [kD,List.cons_append,List.nil_append]);((repeat (refine subn_cons zdm ?_));exact fun d h=>by (repeat (first|exact h|refine List.Mem.tail _ ?_))))):p:=h
theorem z30x1 {p:Prop} (h:p:=by
 go_wp2_with ((try simp only [zA,Nat.reduceAdd]);(first|refine zg28 ?_|(go_at_call 141;refine (Reads_bus _ _ _ _ _ hF.rdA).mono ?_;rintro x wN ⟨rfl,hb⟩;replace hF:=hF.grow hb;clear hb)|(refine zg14 ?_;clear hF;(first|intro gN wN hF|intro wN hF|intro hF))|(refine zg15 ?_;clear hF;intro vN wN hF)))
 go_ret
 exact ⟨by rw [hR.out];rfl,⟨hF⟩⟩):p:=h
section
open Go.RowKit Wd
theorem Encode_any (i:Ins) (w:World) (him:i.imm<4294967296) (hr:Rd w w.heap.size 1 (some ⟨0,0,none⟩) 49 49 (u32v codesL)) :
  Calls Tryz.prog 89 #[i.val] w fun e w'=>∃ x,e = .returned (.tuple #[.int .u32 ((x:Nat):Int),.int .i64 (if encB i then 0 else 1)])∧Bel w w':=by
 by_cases hf:formL i.op=0
 ·refine (encode_no i w hf).mono ?_
  rintro e w' ⟨rfl,hb⟩
  exact ⟨0,by rw [show encB i=false from by simp [encB,hf]];rfl,hb⟩
 ·obtain ⟨op,rd,rs1,rs2,imm⟩:=i
  dsimp only at hf him
  have h1:¬ (op<1∨48<op):=fun h=>hf (by unfold formL;rw [if_pos h])
  obtain ⟨k,rfl⟩:=Int.eq_ofNat_of_zero_le (show 0≤op by omega)
  refine (encode_t k rd rs1 rs2 imm w (by omega) hf him hr).mono ?_
  rintro e w' ⟨x,rfl,hb⟩
  refine ⟨x,?_,hb⟩
  rw [show encB ⟨(k:Int),rd,rs1,rs2,imm⟩=sameI (readL (k:Int) (encodeW ⟨(k:Int),rd,rs1,rs2,imm⟩)) ⟨(k:Int),rd,rs1,rs2,imm⟩ from by simp [encB,hf]]
end
section
open Go.RowKit Wd
structure Sls where
 latA:Option Addr
 latC:Nat
 tapeA:Option Addr
 tapeC:Nat
 progA:Option Addr
 progC:Nat
 feA:Option Addr
 feC:Nat
 robA:Option Addr
 robC:Nat
 stA:Option Addr
 stC:Nat
 dA:Option Addr
 dC:Nat
 dS:List Cs
 wA:Option Addr
 wC:Nat
 wS:List Cs
 busA:Option Addr
 busC:Nat
 slA:Option Addr
 slC:Nat
 rtA:Option Addr
 rtC:Nat
 reA:Option Addr
 reC:Nat
 feO:Bool
 stO:Bool
 reO:Bool
def rg (l:List Nat) (i:Nat):Value:=.int .u32 ((l[i]?.getD 0:Nat):Int)
def mcells (k:Kern) (s:Sls):List Value:=[.int .i64 k.conf.mode,.int .i64 k.conf.width,.int .i64 k.conf.rob,.int .i64 k.conf.queue,.int .i64 k.conf.stores,.int .i64 k.conf.slots,.int .i64 k.conf.sets,.int .i64 k.conf.ways,.slice s.latA k.conf.lat.length s.latC,.bool k.conf.tables,.slice s.tapeA k.conf.tape.length s.tapeC,.slice s.progA k.prog.length s.progC,.int .i64 k.cycle,rg k.regs 0,rg k.regs 1,rg k.regs 2,rg k.regs 3,rg k.regs 4,rg k.regs 5,rg k.regs 6,rg k.regs 7,rg k.regs 8,rg k.regs 9,rg k.regs 10,rg k.regs 11,rg k.regs 12,rg k.regs 13,rg k.regs 14,rg k.regs 15,rg k.regs 16,rg k.regs 17,rg k.regs 18,rg k.regs 19,rg k.regs 20,rg k.regs 21,rg k.regs 22,rg k.regs 23,rg k.regs 24,rg k.regs 25,rg k.regs 26,rg k.regs 27,rg k.regs 28,rg k.regs 29,rg k.regs 30,rg k.regs 31,.int .u32 (k.fetch:Int),.bool k.stop,.slice s.feA k.fetched.length s.feC,.slice s.robA k.rob.length s.robC,.int .i64 k.next,.slice s.stA k.stores.length s.stC,.int .i64 k.dways,.slice s.dA k.data.length s.dC,.int .i64 k.wways,.slice s.wA k.words.length s.wC,.slice s.busA k.bus.length s.busC,.int .i64 k.asked,.int .i64 k.guessed,.string k.mem,.slice s.slA k.guess.slots.length s.slC,.int .u32 (k.guess.hist:Int),.slice s.rtA k.guess.rets.length s.rtC,.int .i64 k.halt,.slice s.reA k.retired.length s.reC]
theorem mcells_len (k:Kern) (s:Sls):(mcells k s).length=64:=rfl
theorem mcells_one (k:Kern) (s:Sls):∀ u∈mcells k s,u.oneCell'=true:=by
 unfold mcells
 repeat (first|exact one_nil|refine one_cons rfl ?_)
def kD (k:Kern) (s:Sls):List Da:=[rowD 1 s.latA k.conf.lat.length s.latC (i64s k.conf.lat),rowD 1 s.tapeA k.conf.tape.length s.tapeC (u32v k.conf.tape),rowD 1 s.progA k.prog.length s.progC (u32v k.prog),apD s.feO 2 s.feA k.fetched.length s.feC (fes k.fetched),apD s.stO 2 s.stA k.stores.length s.stC (pus k.stores),rowD 1 s.dA k.data.length s.dC (csv s.dS),elemsD s.dS,rowD 1 s.wA k.words.length s.wC (csv s.wS),elemsD s.wS,rowD 4 s.busA k.bus.length s.busC (rqs k.bus),rowD 2 s.slA k.guess.slots.length s.slC (sls k.guess.slots),rowD 1 s.rtA k.guess.rets.length s.rtC (u32v k.guess.rets),apD s.reO 9 s.reA k.retired.length s.reC (sts k.retired),codesD]
section
variable {k:Kern} {s:Sls}
theorem mset_fetch (x:Nat):(mcells k s).set 45 (.int .u32 (x:Int))=mcells { k with fetch:=x } s:=rfl
theorem mset_stop (x:Bool):(mcells k s).set 46 (.bool x)=mcells { k with stop:=x } s:=rfl
theorem mset_next (x:Int):(mcells k s).set 49 (.int .i64 x)=mcells { k with next:=x } s:=rfl
theorem mset_cycle (x:Int):(mcells k s).set 12 (.int .i64 x)=mcells { k with cycle:=x } s:=rfl
theorem mset_asked (x:Int):(mcells k s).set 56 (.int .i64 x)=mcells { k with asked:=x } s:=rfl
theorem mset_guessed (x:Int):(mcells k s).set 57 (.int .i64 x)=mcells { k with guessed:=x } s:=rfl
theorem mset_mem (x:ByteArray):(mcells k s).set 58 (.string x)=mcells { k with mem:=x } s:=rfl
theorem mset_halt (x:Int):(mcells k s).set 62 (.int .i64 x)=mcells { k with halt:=x } s:=rfl
theorem mset_fetched {A:Option Addr} {n c:Nat} (q:List Fe) (h:q.length=n):(mcells k s).set 47 (.slice A n c)=mcells { k with fetched:=q } { s with feA:=A,feC:=c }:=by subst h;rfl
theorem mset_rob {A:Option Addr} {n c:Nat} (q:List En) (h:q.length=n):(mcells k s).set 48 (.slice A n c)=mcells { k with rob:=q } { s with robA:=A,robC:=c }:=by subst h;rfl
theorem mset_stores {A:Option Addr} {n c:Nat} (q:List Pu) (h:q.length=n):(mcells k s).set 50 (.slice A n c)=mcells { k with stores:=q } { s with stA:=A,stC:=c }:=by subst h;rfl
theorem mset_bus {A:Option Addr} {n c:Nat} (q:List Rq) (h:q.length=n):(mcells k s).set 55 (.slice A n c)=mcells { k with bus:=q } { s with busA:=A,busC:=c }:=by subst h;rfl
theorem mset_retired {A:Option Addr} {n c:Nat} (q:List Stp) (h:q.length=n):(mcells k s).set 63 (.slice A n c)=mcells { k with retired:=q } { s with reA:=A,reC:=c }:=by subst h;rfl
theorem mset_data {A:Option Addr} {n c:Nat} (S:List Cs) (C:List (List Wy)) (w:Int) (h:C.length=n):spl (mcells k s) 51 [.int .i64 w,.slice A n c]=mcells { k with dways:=w,data:=C } { s with dA:=A,dC:=c,dS:=S }:=by subst h;rfl
theorem mset_words {A:Option Addr} {n c:Nat} (S:List Cs) (C:List (List Wy)) (w:Int) (h:C.length=n):spl (mcells k s) 53 [.int .i64 w,.slice A n c]=mcells { k with wways:=w,words:=C } { s with wA:=A,wC:=c,wS:=S }:=by subst h;rfl
theorem mset_guess {As Ar:Option Addr} {ns cs h nr cr:Nat} (g:Gu) (h1:g.slots.length=ns) (h2:g.hist=h) (h3:g.rets.length=nr):spl (mcells k s) 59 [.slice As ns cs,.int .u32 (h:Int),.slice Ar nr cr]=mcells { k with guess:=g } { s with slA:=As,slC:=cs,rtA:=Ar,rtC:=cr }:=by subst h1 h2 h3;rfl
theorem regs_list (l:List Nat) (h:l.length=32):u32v l=[rg l 0,rg l 1,rg l 2,rg l 3,rg l 4,rg l 5,rg l 6,rg l 7,rg l 8,rg l 9,rg l 10,rg l 11,rg l 12,rg l 13,rg l 14,rg l 15,rg l 16,rg l 17,rg l 18,rg l 19,rg l 20,rg l 21,rg l 22,rg l 23,rg l 24,rg l 25,rg l 26,rg l 27,rg l 28,rg l 29,rg l 30,rg l 31]:=by
 match l,h with
 | [a0,a1,a2,a3,a4,a5,a6,a7,a8,a9,a10,a11,a12,a13,a14,a15,a16,a17,a18,a19,a20,a21,a22,a23,a24,a25,a26,a27,a28,a29,a30,a31],_=>rfl
theorem mset_regs (l:List Nat) (h:l.length=32):spl (mcells k s) 13 (u32v l)=mcells { k with regs:=l } s:=by
 rw [spl_eq _ _ _ (by rw [u32v_len,h,mcells_len];omega),u32v_len,h,regs_list l h]
 rfl
theorem mget_regs (h:k.regs.length=32):((mcells k s).drop 13).take 32=u32v k.regs:=by rw [regs_list _ h];rfl
end
end
section
open Go.RowKit Wd
theorem Told_any (e:En) (w:World) (hi:okI e.inst.op):Calls Tryz.prog 14 #[e.val] w fun x w'=>x = .returned (toldE e).val∧Bel w w':=by
 obtain ⟨no,pc,⟨op,rd,rs1,rs2,imm⟩,guess,is,left,value,next,addr,halt,took,known,filled⟩:=e
 by_cases h:halt=0
 ·subst h
  obtain ⟨wr,hwr⟩:∃ wr,(writesI ⟨op,rd,rs1,rs2,imm⟩ == 0) = !wr:=⟨!(writesI ⟨op,rd,rs1,rs2,imm⟩ == 0),by simp⟩
  rcases kind_seven op with hk|hk|hk|hk|hk|hk|hk
  ·exact told_0 no pc op rd rs1 rs2 imm guess is left value next addr took known filled w hi hk wr hwr
  ·exact told_1 no pc op rd rs1 rs2 imm guess is left value next addr took known filled w hi hk wr hwr
  ·exact told_2 no pc op rd rs1 rs2 imm guess is left value next addr took known filled w hi hk wr hwr
  ·exact told_3 no pc op rd rs1 rs2 imm guess is left value next addr took known filled w hi hk wr hwr
  ·exact told_4 no pc op rd rs1 rs2 imm guess is left value next addr took known filled w hi hk wr hwr
  ·exact told_5 no pc op rd rs1 rs2 imm guess is left value next addr took known filled w hi hk wr hwr
  ·exact told_6 no pc op rd rs1 rs2 imm guess is left value next addr took known filled w hi hk wr hwr
 ·exact told_halt no pc op rd rs1 rs2 imm guess is left value next addr halt took known filled w h
end
section
open Go.RowKit Wd
theorem KOk.conf_lat {B:Int} {k:Kern} (h:KOk B k):k.asked≤1000000∧0≤k.asked:=⟨Int.le_trans h.asked.2 h.bound,h.asked.1⟩
theorem latK_ok (c:Cf) (n:Int):0≤latK c n∧latK c n≤8:=by
 unfold latK
 split
 ·omega
 ·cases h:(cleanCf c).lat[(max n 0 % (cleanCf c).lat.length).toNat]? with
  | none=>simp
  | some x=>
   have hm:x∈(cleanCf c).lat:=List.mem_of_getElem? h
   simp only [cleanCf,List.mem_map] at hm
   obtain ⟨y,_,rfl⟩:=hm
   simp only [Option.getD_some]
   unfold clampI
   split <;> omega
theorem mAsk_any {w0 w:World} {D0 D:List Da} {M:List Mu} {g:Nat} {k:Kern} {s:Sls} {B:Int} (hk:KOk B k) (kind:Int) (line:Nat) (data:ByteArray)
  (hF:St w0 D0 w (.blk g 81 (mcells k s)::M) (kD k s++D)) :
  Calls Tryz.prog 83 #[.pointer (some ⟨g,0,none⟩),.int .i64 kind,.int .u32 (line:Int),.string data] w fun x w'=>(∃ y,x = .returned y) ∧ ∃ A2 c2,St w0 D0 w' (.blk g 81 (mcells (askK k kind line data) { s with busA:=A2,busC:=c2 })::M) (kD (askK k kind line data) { s with busA:=A2,busC:=c2 }++D):=by
 have ha:=hk.conf_lat
 have hl:=latK_ok k.conf k.asked
 have HL:=Lib.hid (fun (W:World) (h1:Rd W W.heap.size 1 s.latA k.conf.lat.length s.latC (i64s k.conf.lat)) (h2:Rd W W.heap.size 1 s.tapeA k.conf.tape.length s.tapeC (u32v k.conf.tape))=>Lat_any k.conf s.latA s.latC s.tapeA s.tapeC k.asked W (by unfold okI;omega) h1 h2)
 have HP:=Lib.hid (fun (W:World) (h:Rd W W.heap.size 4 s.busA k.bus.length s.busC (rqs k.bus))=>vPush_any s.busA k.bus.length s.busC k.bus kind line (latK k.conf k.asked) data W h (by have:=hk.buslen;have:=hk.bound;omega) (by omega))
 (simp only [kD,List.cons_append,List.nil_append] at hF)
 go_enter Tryz.func83,Tryz.ntmps83
 go_upto_region 0 with ((try simp only [zA,Nat.reduceAdd]);(first|refine zg28 ?_|(refine zg14 ?_;clear hF;(first|intro gN wN hF|intro wN hF|intro hF))|(refine zg15 ?_;clear hF;intro vN wN hF)))
 refine wp_region_stT [24] (by kernel_rfl) hF _ _ (fun _ h=>h) (fun _ h=>h) ?_
 clear hF;intro hF hH
 refine zt4 0 hH ?_
 refine zt4 1 hH ?_
 refine zq 2 hH ?_
 refine zt0 3 hH ?_
 refine zt0 4 hH ?_
 refine zt1 5 hH ?_
 refine zt4 6 hH ?_
 refine zt4 7 hH ?_
 refine zt4 8 hH ?_
 refine zq 9 hH ?_
 refine zt0 10 hH ?_
 refine zt0 11 hH ?_
 refine zt1 12 hH ?_
 refine zt4 13 hH ?_
 refine zq 14 hH ?_
 refine zt0 15 hH ?_
 refine zt0 16 hH ?_
 refine zt1 17 hH ?_
 refine zt4 19 hH ?_
 refine wpAnyT_ready (rs:=[18]) (by kernel_rfl) (by simp) (readyT_cons rfl (fun K hK=>?_) AllReadyT.nil)
 go_wp2_with ((first|(refine zg50 ?_;clear hF;intro wN hF)|(go_at_call 142;refine (HP.out _ hF.rdA).mono ?_;rintro x wN ⟨A2,c2,rfl,hO⟩;replace hF:=hF.call1A hO;clear hO)|(refine w_st1 rfl hF rfl rfl ?_ (hoff:=by rw [mcells_len];decide);clear hF;intro wN hF;(try simp only [zF] at hF);(try simp only [zA,Nat.reduceAdd]))|((first|refine zrg ?_|(refine zst ?_;clear hF;(first|intro gN wN hF|intro wN hF|intro hF))|(refine zap ?_;clear hF;intro vN wN hF));(try simp only [zA,Nat.reduceAdd]))))
 have hH:=zx0 hH hF;refine hK.out _ _ (fun _=>hH) ?_;clear hK;(try simp only [zA,Nat.reduceAdd])
 refine wpAnyT_ready (rs:=[20]) (by kernel_rfl) (by simp) (readyT_cons rfl (fun K hK=>?_) AllReadyT.nil)
 go_wp2_with ((first|(refine zg50 ?_;clear hF;intro wN hF)|(go_at_call 142;refine (HP.out _ hF.rdA).mono ?_;rintro x wN ⟨A2,c2,rfl,hO⟩;replace hF:=hF.call1A hO;clear hO)|(refine w_st1 rfl hF rfl rfl ?_ (hoff:=by rw [mcells_len];decide);clear hF;intro wN hF;(try simp only [zF] at hF);(try simp only [zA,Nat.reduceAdd]))|((first|refine zrg ?_|(refine zst ?_;clear hF;(first|intro gN wN hF|intro wN hF|intro hF))|(refine zap ?_;clear hF;intro vN wN hF));(try simp only [zA,Nat.reduceAdd]))))
 have hH:=zx0 hH hF;refine hK.out _ _ (fun _=>hH) ?_;clear hK;(try simp only [zA,Nat.reduceAdd])
 refine zq 21 hH ?_
 refine zt0 22 hH ?_
 refine zt0 23 hH ?_
 refine wpAnyT_ready (rs:=[24]) (by kernel_rfl) (by simp) (readyT_cons rfl (fun K hK=>?_) AllReadyT.nil)
 go_wp2_with ((first|(refine zg50 ?_;clear hF;intro wN hF)|(go_at_call 142;refine (HP.out _ hF.rdA).mono ?_;rintro x wN ⟨A2,c2,rfl,hO⟩;replace hF:=hF.call1A hO;clear hO)|(refine w_st1 rfl hF rfl rfl ?_ (hoff:=by rw [mcells_len];decide);clear hF;intro wN hF;(try simp only [zF] at hF);(try simp only [zA,Nat.reduceAdd]))|((first|refine zrg ?_|(refine zst ?_;clear hF;(first|intro gN wN hF|intro wN hF|intro hF))|(refine zap ?_;clear hF;intro vN wN hF));(try simp only [zA,Nat.reduceAdd]))))
 (try clear hH);refine hK.out _ _ (notFree 24 rfl (by kernel_rfl)) ?_;clear hK;(try simp only [zA,Nat.reduceAdd])
 refine wpAnyT_done (by kernel_rfl) ?_ _
 ((rw [mset_bus (k:=k) (q:=k.bus++[⟨kind,line,max (latK k.conf k.asked) 1,data⟩]) (by simp)] at hF);go_wp2_with ((try simp only [zA,Nat.reduceAdd]);(first|refine zg28 ?_|(refine zg51 ?_;clear hF;(first|intro gN wN hF|intro wN hF|intro hF))|(refine zg15 ?_;clear hF;intro vN wN hF)));go_end0;(rw [mset_asked] at hF);refine ⟨⟨_,rfl⟩,A2,c2,hF.lessD ?_⟩;(simp only [kD,askK,pushB,List.cons_append,List.nil_append,List.length_append,List.length_cons,List.length_nil]);((repeat (refine subn_cons zdm ?_));exact fun d h=>by (repeat (first|exact h|refine List.Mem.tail _ ?_))))
inductive BringPost (w0:World) (D0 D:List Da) (M:List Mu) (g:Nat) (k:Kern) (s:Sls) (line:Nat) (w':World):Prop
 | mk (A1:Option Addr) (c1:Nat) (S1:List Cs) (A2:Option Addr) (c2:Nat) (hC:cont S1=(bringK k line).data)
  (hF:St w0 D0 w' (.blk g 81 (mcells (bringK k line) { s with dA:=A1,dC:=c1,dS:=S1,busA:=A2,busC:=c2 })::M) (kD (bringK k line) { s with dA:=A1,dC:=c1,dS:=S1,busA:=A2,busC:=c2 }++D))
theorem mBring_any {w0 w:World} {D0 D:List Da} {M:List Mu} {g:Nat} {k:Kern} {s:Sls} {B:Int} (hk:KOk B k) (hD:cont s.dS=k.data) (line:Nat) (hline:line<4294967296)
  (hF:St w0 D0 w (.blk g 81 (mcells k s)::M) (kD k s++D)) :
  Calls Tryz.prog 67 #[.pointer (some ⟨g,0,none⟩),.int .u32 (line:Int)] w fun x w'=>(∃ y,x = .returned y)∧BringPost w0 D0 D M g k s line w':=by
 have ha:=hk.conf_lat
 have hl:=latK_ok k.conf k.asked
 have HL:=Lib.hid (fun (W:World) (h1:Rd W W.heap.size 1 s.latA k.conf.lat.length s.latC (i64s k.conf.lat)) (h2:Rd W W.heap.size 1 s.tapeA k.conf.tape.length s.tapeC (u32v k.conf.tape))=>Lat_any k.conf s.latA s.latC s.tapeA s.tapeC k.asked W (by unfold okI;omega) h1 h2)
 have hR:=bringR_F k.dways k.data k.bus k.mem line (latK k.conf k.asked)
 obtain ⟨C',q',b,hb⟩:∃ C' q' b,bringF k.dways k.data k.bus k.mem line (latK k.conf k.asked)=(C',q',b):=⟨_,_,_,rfl⟩
 have hbk:=Lib.hid (show bringK k line={ k with data:=C',bus:=q',asked:=if b=true then k.asked+1 else k.asked } by unfold bringK;dsimp only;rw [hb])
 rw [hb] at hR
 dsimp only at hR
 have HB:=Lib.hid (fun (W:World) (h1:RdS W W.heap.size s.dA k.data.length s.dC s.dS) (h2:Rd W W.heap.size 4 s.busA k.bus.length s.busC (rqs k.bus))=>g_bring h1 h2 hD hR hk.dok hline (by have:=hk.mem;unfold maxLen;omega) (by have:=hk.buslen;have:=hk.bound;omega) (fun r hr=>(hk.bus r hr).1) (by omega))
 replace hR:=Lib.hid hR
 clear hb
 (simp only [kD,List.cons_append,List.nil_append] at hF)
 cases b
 ·simp only [if_neg (show ¬ (false=true) by decide)] at hbk
  exact z30x0
 ·simp only [if_pos rfl] at hbk
  exact z30x0
end
section
open Go.RowKit Wd
theorem memRead_any (m:ByteArray) (a:Nat) (k:Int) (w:World) (hn:m.size≤9223372036854775807) (ha:a<4294967296) (hk:0≤k∧k≤9223372036854775807) :
  Calls Tryz.prog 122 #[.string m,.int .u32 (a:Int),.int .i64 k] w fun e w'=>(∃ y:Int,e = .returned (.tuple #[.string (readM m a k),.int .i64 y]))∧Bel w w':=by
 have hr:rightM m.size a k=Me.right m.size a k:=by
  rw [Bool.eq_iff_iff,Me.right_iff]
  simp [rightM]
 unfold readM
 cases h:Me.right m.size a k
 ·rw [hr,h]
  refine (Me.Read_no m a k w hn ha (by omega) h).mono ?_
  rintro e w' ⟨rfl,d,rfl⟩
  exact ⟨⟨1,by simp⟩,Bel.drewN _ d⟩
 ·rw [hr,h,if_pos rfl]
  obtain ⟨n,rfl⟩:∃ n:Nat,k=(n:Int):=⟨k.toNat,by omega⟩
  refine (Me.Read_yes m a n w hn ha (by omega) h).mono ?_
  rintro e w' ⟨rfl,d,rfl⟩
  exact ⟨⟨0,rfl⟩,Bel.drewN _ d⟩
structure CfB (c:Cf):Prop where
 mode:0≤c.mode∧c.mode≤2
 width:1≤c.width∧c.width≤2
 rob:2≤c.rob∧c.rob≤8
 queue:1≤c.queue∧c.queue≤4
 stores:1≤c.stores∧c.stores≤4
 slots:2≤c.slots∧c.slots≤6
 sets:1≤c.sets∧c.sets≤4
 ways:1≤c.ways∧c.ways≤2
 lat:c.lat.length≤64
 tape:c.tape.length≤64
theorem rightCf_b {c:Cf} (h:rightCf c=true):CfB c:=by
 simp only [rightCf,withinB,Bool.and_eq_true,decide_eq_true_eq] at h
 obtain ⟨_,h0,h1,h2,h3,h4,h5,h6,_,h7,h8,h9⟩:=h
 exact ⟨h0,h1,h2,h3,h4,h5,h6,h7,h8,h9⟩
theorem KOk.cf {B:Int} {k:Kern} (h:KOk B k):CfB k.conf:=rightCf_b h.conf
inductive Kept (w0:World) (D0 D:List Da) (M:List Mu) (g:Nat) (k:Kern) (s:Sls) (w':World):Prop
 | mk (hF:St w0 D0 w' (.blk g 81 (mcells k s)::M) (kD k s++D))
theorem mRoom_any {w0 w:World} {D0 D:List Da} {M:List Mu} {g:Nat} {k:Kern} {s:Sls} {B:Int} (hk:KOk B k) (first:Bool)
  (hF:St w0 D0 w (.blk g 81 (mcells k s)::M) (kD k s++D)) :
  Calls Tryz.prog 82 #[.pointer (some ⟨g,0,none⟩),.bool first] w fun x w'=>x = .returned (.bool (roomK k first))∧Kept w0 D0 D M g k s w':=by
 have hsl:=hk.cf.slots
 have hR:Hid (roomK k first=if first=true then decide ((readsB k.bus:Int)<k.conf.slots) else decide ((readsB k.bus:Int)<k.conf.slots - 1)):=Lib.hid rfl
 (simp only [kD,List.cons_append,List.nil_append] at hF)
 cases first
 ·go_enter Tryz.func82,Tryz.ntmps82
  exact z30x1
 ·go_enter Tryz.func82,Tryz.ntmps82
  exact z30x1
theorem g_vall {m:ByteArray} {ways:Int} {A:Option Addr} {n c:Nat} {S:List Cs} {Aq:Option Addr} {nq cq:Nat} {q:List Rq} {As:Option Addr} {ns cs:Nat} {ss:List Pu} {C:List (List Wy)} {w:World} (hr:RdS w w.heap.size A n c S) (hrq:Rd w w.heap.size 4 Aq nq cq (rqs q)) (hrs:Rd w w.heap.size 2 As ns cs (pus ss)) (hC:cont S=C) (hR:RightP ways C) (hok:COk C)
  (hm:m.size≤256) (hqn:nq≤1000000) (hq:∀ r∈q,r.line<4294967296) (hss:∀ p∈ss,p.addr<4294967296) :
  Calls Tryz.prog 123 #[.slice As ns cs,.agg #[.int .i64 ways,.slice A n c],.slice Aq nq cq,.string m] w fun e w'=>e = .returned (.string (ovS m (writesL q++linesL C++ss)))∧Bel w w':=by
 subst hC
 obtain ⟨h1,h2⟩:=right_len hR
 exact vAll_any m ways A n c S Aq nq cq q As ns cs ss w hr hrq hrs (by unfold maxLen;omega) hok.sok (by rw [cont_len,hr.slen] at h1;exact h1) h2 hqn hq hss
theorem mBytes_any {w0 w:World} {D0 D:List Da} {M:List Mu} {g:Nat} {k:Kern} {s:Sls} {B:Int} (hk:KOk B k) (hD:cont s.dS=k.data) (hso:s.stO=false) (e:En) (he:EnOk e)
  (hF:St w0 D0 w (.blk g 81 (mcells k s)::M) (kD k s++D)) :
  Calls Tryz.prog 65 #[.pointer (some ⟨g,0,none⟩),e.val] w fun x w'=>x = .returned (.string (bytesK k e))∧Kept w0 D0 D M g k s w':=by
 have hm:=hk.mem
 have hvs:(viewK k).size=k.mem.size:=ovS_size _ _
 have hR:Hid (bytesK k e=readM (viewK k) e.addr (sizeI e.inst.op)):=Lib.hid rfl
 have HA:=Lib.hid (fun (W:World) (h1:RdS W W.heap.size s.dA k.data.length s.dC s.dS) (h2:Rd W W.heap.size 4 s.busA k.bus.length s.busC (rqs k.bus)) (h3:Rd W W.heap.size 2 s.stA k.stores.length s.stC (pus k.stores))=>show Calls Tryz.prog 123 #[.slice s.stA k.stores.length s.stC,.agg #[.int .i64 k.dways,.slice s.dA k.data.length s.dC],.slice s.busA k.bus.length s.busC,.string k.mem] W (fun e w'=>e = .returned (.string (viewK k))∧Bel W w') from
  g_vall h1 h2 h3 hD hk.data hk.dok hm (by have:=hk.buslen;have:=hk.bound;omega) (fun r hr=>(hk.bus r hr).1) (fun p hp=>(hk.st p hp).1))
 have HSz:=Lib.hid (fun W=>instSize_any e.inst W)
 have HRe:=Lib.hid (fun W=>memRead_any (viewK k) e.addr (sizeI e.inst.op) W (by omega) he.a (by have:=sizeI_le e.inst.op;omega))
 generalize viewK k=V at HA HRe hR
 obtain ⟨no,pc,⟨op,rd,rs1,rs2,imm⟩,guess,is,left,value,next,addr,halt,took,known,filled⟩:=e
 unfold En.val
 unfold Ins.val at HSz
 dsimp only at HSz HRe hR ⊢
 clear hvs he
 simp only [kD,hso,apD_no,List.cons_append,List.nil_append] at hF
 go_enter Tryz.func65,Tryz.ntmps65
 go_upto_region 1 with ((try simp only [zA,Nat.reduceAdd]);(first|refine zg28 ?_|(refine zg14 ?_;clear hF;(first|intro gN wN hF|intro wN hF|intro hF))|(refine zg15 ?_;clear hF;intro vN wN hF)))
 refine wp_region_st (by kernel_rfl) hF _ _ (fun _ h=>h) (fun _ h=>h) ?_
 clear hF;intro hF hH
 refine zk18 0 hH ?_
 refine zp 1 hH ?_
 refine zk1 2 hH ?_
 refine zk1 3 hH ?_
 refine zk6 4 hH ?_
 refine zk18 5 hH ?_
 refine zp 6 hH ?_
 refine zk1 7 hH ?_
 refine zk1 8 hH ?_
 refine zk6 9 hH ?_
 refine zk18 10 hH ?_
 refine zp 11 hH ?_
 refine zk1 12 hH ?_
 refine zk1 13 hH ?_
 refine zk6 14 hH ?_
 refine zk18 15 hH ?_
 refine zp 16 hH ?_
 refine zk1 17 hH ?_
 refine zk1 18 hH ?_
 refine zk6 19 hH ?_
 refine zk1 21 hH ?_
 refine zk6 22 hH ?_
 refine zk1 23 hH ?_
 refine zk6 24 hH ?_
 refine zry 20 (fun K hK=>?_)
 go_wp2_with ((first|(refine zg52 ?_;clear hF;intro wN hF)|(go_at_call 122;refine (HRe.out _).mono ?_;rintro x wN ⟨⟨ye,rfl⟩,hb⟩;replace hF:=hF.grow hb;clear hb)))
 have hH:=zx0 hH hF;refine hK.out _ _ hH ?_;clear hK;(try simp only [zA,Nat.reduceAdd])
 refine zry 25 (fun K hK=>?_)
 go_wp2_with ((first|(refine zg52 ?_;clear hF;intro wN hF)|(go_at_call 122;refine (HRe.out _).mono ?_;rintro x wN ⟨⟨ye,rfl⟩,hb⟩;replace hF:=hF.grow hb;clear hb)))
 have hH:=zx0 hH hF;refine hK.out _ _ hH ?_;clear hK;(try simp only [zA,Nat.reduceAdd])
 refine zry 26 (fun K hK=>?_)
 go_wp2_with ((first|(refine zg52 ?_;clear hF;intro wN hF)|(go_at_call 122;refine (HRe.out _).mono ?_;rintro x wN ⟨⟨ye,rfl⟩,hb⟩;replace hF:=hF.grow hb;clear hb)))
 have hH:=zx0 hH hF;refine hK.out _ _ hH ?_;clear hK;(try simp only [zA,Nat.reduceAdd])
 refine zk18 27 hH ?_
 refine zp 28 hH ?_
 refine zp 29 hH ?_
 refine zk19 30 hH ?_
 refine zk19 31 hH ?_
 refine zrz ?_
 (go_wp2;go_ret;replace hF:=hF.drop 0;exact ⟨by rw [hR.out];rfl,⟨by simp only [kD,hso,apD_no,List.cons_append,List.nil_append];exact hF⟩⟩)
end
section
open Go.RowKit Wd
section
variable {B B':Int} {k:Kern}
theorem KOk.up (h:KOk B k) (h1:B≤B') (h2:B'≤1000000):KOk B' k :=
 { h with cyc:=⟨h.cyc.1,Int.le_trans h.cyc.2 h1⟩,next:=⟨h.next.1,Int.le_trans h.next.2 h1⟩,buslen:=Int.le_trans h.buslen h1,asked:=⟨h.asked.1,Int.le_trans h.asked.2 h1⟩,guessed:=⟨h.guessed.1,Int.le_trans h.guessed.2 h1⟩,retlen:=Int.le_trans h.retlen h1,bound:=h2 }
theorem KOk.ask (h : KOk B k) (h2 : B + 1 ≤ 1000000) (kind : Int) {line : Nat} {data : ByteArray} (hl : line < 4294967296) (hd : data.size ≤ maxLen) : KOk (B + 1) (askK k kind line data) := by
  have hu := h.up (B' := B + 1) (by omega) h2
  have hlat := latK_ok k.conf k.asked
  have ha := h.asked
  have hbl := h.buslen
  unfold askK pushB
  exact { hu with
    asked := ⟨by show 0 ≤ k.asked + 1; omega, by show k.asked + 1 ≤ B + 1; omega⟩
    buslen := by show ((k.bus ++ [_]).length : Int) ≤ B + 1; rw [List.length_append, List.length_singleton]; omega
    bus := fun r hr => by
      rcases List.mem_append.1 hr with hr | hr
      · exact h.bus r hr
      · obtain rfl := List.mem_singleton.1 hr; exact ⟨hl, hd⟩
    left := fun r hr => by
      rcases List.mem_append.1 hr with hr | hr
      · exact h.left r hr
      · obtain rfl := List.mem_singleton.1 hr; dsimp only; omega }
theorem bringF_q (ways:Int) (C:List (List Wy)) (q:List Rq) (m:ByteArray) (x:Nat) (left:Int):(bringF ways C q m x left).2.1=q ∨ ∃ l d,(bringF ways C q m x left).2.1=q++[⟨4,l,max left 1,d⟩]∧(bringF ways C q m x left).2.2=true:=by
 unfold bringF
 split
 ·exact .inl rfl
 ·split
  ·exact .inl rfl
  ·dsimp only
   split
   ·exact .inr ⟨_,_,rfl,rfl⟩
   ·exact .inl rfl
theorem KOk.bring (h : KOk B k) (h2 : B + 1 ≤ 1000000) {line : Nat} (hl : line < 4294967296) : KOk (B + 1) (bringK k line) := by
  have hu := h.up (B' := B + 1) (by omega) h2
  have hlat := latK_ok k.conf k.asked
  have ha := h.asked
  have hbl := h.buslen
  have hm := h.mem
  have hR := bringR_F k.dways k.data k.bus k.mem line (latK k.conf k.asked)
  have hq := bringF_q k.dways k.data k.bus k.mem line (latK k.conf k.asked)
  have h3 := hR.right h.data
  have h4 := hR.cok h.dok hl (by rw [bl_len]; unfold maxLen; omega)
  have h5 := hR.qok h.dok h.bus
  have h6 := hR.qlen
  unfold bringK
  dsimp only
  generalize bringF k.dways k.data k.bus k.mem line (latK k.conf k.asked) = r at *
  exact { hu with
    data := h3
    dok := h4
    bus := h5
    buslen := by show ((r.2.1.length : Nat) : Int) ≤ B + 1; omega
    asked := by
      show 0 ≤ (if r.2.2 = true then k.asked + 1 else k.asked) ∧ (if r.2.2 = true then k.asked + 1 else k.asked) ≤ B + 1
      split <;> omega
    left := fun x hx => by
      have hx' : x ∈ r.2.1 := hx
      rcases hq with hq | ⟨l, d, hq, _⟩
      · rw [hq] at hx'; exact h.left x hx'
      · rw [hq] at hx'
        rcases List.mem_append.1 hx' with hx' | hx'
        · exact h.left x hx'
        · obtain rfl := List.mem_singleton.1 hx'; dsimp only; omega }
theorem tickB_ok {q:List Rq} (hb:∀ r∈q,r.line<4294967296∧r.data.size≤maxLen) (hl:∀ r∈q,-9223372036854775807≤r.left∧r.left≤9223372036854775807) :
  (tickB q).1.length≤q.length∧(∀ r∈(tickB q).1,r.line<4294967296∧r.data.size≤maxLen) ∧ ∀ r∈(tickB q).1,-9223372036854775807≤r.left∧r.left≤9223372036854775807:=by
 cases q with
 | nil=>exact ⟨Nat.le_refl _,hb,hl⟩
 | cons r q=>
  have h0:=hl r (List.mem_cons_self ..)
  by_cases h:0<r.left - 1
  ·have e:tickB (r::q)=({ r with left:=r.left - 1 }::q,none):=if_pos h
   rw [e]
   refine ⟨Nat.le_refl _,fun x hx=>?_,fun x hx=>?_⟩
   ·rcases List.mem_cons.1 hx with rfl|hx
    ·exact hb r (List.mem_cons_self ..)
    ·exact hb x (List.mem_cons_of_mem _ hx)
   ·rcases List.mem_cons.1 hx with rfl|hx
    ·dsimp only;omega
    ·exact hl x (List.mem_cons_of_mem _ hx)
  ·have e:tickB (r::q)=(q,some { r with left:=r.left - 1 }):=if_neg h
   rw [e]
   exact ⟨Nat.le_succ _,fun x hx=>hb x (List.mem_cons_of_mem _ hx),fun x hx=>hl x (List.mem_cons_of_mem _ hx)⟩
theorem KOk.tick (h:KOk B k):KOk B { k with bus:=(tickB k.bus).1 }:=by
 have h1:=tickB_ok h.bus h.left
 have h2:=h.buslen
 exact { h with bus:=h1.2.1,left:=h1.2.2,buslen:=by show (((tickB k.bus).1.length:Nat):Int)≤B;have:=h1.1;omega }
theorem tick_done {q:List Rq} {d:Rq} (h:(tickB q).2=some d):∃ r∈q,d.line=r.line∧d.data=r.data∧d.kind=r.kind:=by
 cases q with
 | nil=>cases h
 | cons r q=>
  by_cases h0:0<r.left - 1
  ·rw [show tickB (r::q)=({ r with left:=r.left - 1 }::q,none) from if_pos h0] at h
   cases h
  ·rw [show tickB (r::q)=(q,some { r with left:=r.left - 1 }) from if_neg h0] at h
   injection h with h
   subst h
   exact ⟨r,List.mem_cons_self ..,rfl,rfl,rfl⟩
theorem KOk.ticks (h:KOk B k) (h2:B+1≤1000000):KOk (B+1) (ticksK k):=by
 have h1:=h.tick
 have hu:=h1.up (B':=B+1) (by omega) h2
 unfold ticksK
 dsimp only
 cases ht:(tickB k.bus).2 with
 | none=>exact hu
 | some d=>
  obtain ⟨r,hr,e1,e2,_⟩:=tick_done ht
  have hd:=h.bus r hr
  rw [← e1,← e2] at hd
  dsimp only
  split
  ·exact { hu with rob:=h1.rob.map fun e he=>filledE_ok he,roblen:=by show (k.rob.map _).length≤16;rw [List.length_map];exact h.roblen }
  ·split
   ·have hp:=putR_F k.wways k.words d.line ⟨#[]⟩ false
    exact { hu with words:=hp.right h.words,wok:=hp.cok h.wok hd.1 (by decide) }
   ·split
    ·exact h1.bring h2 hd.1
    ·split
     ·exact { hu with mem:=by show (overS k.mem _).size≤256;rw [show (overS k.mem [⟨d.line,d.data⟩]).size=k.mem.size from ovS_size _ _];exact h.mem }
     ·exact hu
theorem storeAt_ok {regs:List Nat} {q:List En} (i:Nat) (h:ensOk q):ensOk (storeAt regs q i)∧(storeAt regs q i).length=q.length:=by
 unfold storeAt
 split
 ·exact ⟨h,rfl⟩
 ·rename_i e he
  split
  ·exact ⟨h,rfl⟩
  ·split
   ·exact ⟨h.set (storeE_ok (h e (List.mem_of_getElem? he))) i,List.length_set ..⟩
   ·exact ⟨h,rfl⟩
theorem stores_ok {regs:List Nat}:∀ (l:List Nat) {q:List En},ensOk q→ensOk (l.foldl (storeAt regs) q)∧(l.foldl (storeAt regs) q).length=q.length
 | [],q,h=>⟨h,rfl⟩
 | i::l,q,h=>by
  have h1:=storeAt_ok (regs:=regs) i h
  have h2:=stores_ok (regs:=regs) l h1.1
  exact ⟨h2.1,h2.2.trans h1.2⟩
theorem KOk.works (h:KOk B k):KOk B (worksK k):=by
 have h1:ensOk (k.rob.map goE):=h.rob.map fun e he=>goE_ok he
 have h2:=stores_ok (regs:=k.regs) (List.range (k.rob.map goE).length) h1
 have h3:(storesQ k.regs (k.rob.map goE)).length=k.rob.length:=h2.2.trans (List.length_map ..)
 have h4:ensOk (storesQ k.regs (k.rob.map goE)):=h2.1
 have hn:=h.roblen
 unfold worksK
 split
 ·exact h
 ·dsimp only
  generalize storesQ k.regs (k.rob.map goE)=q at *
  have hq:KOk B { k with rob:=q }:={ h with rob:=h4,roblen:=by show q.length≤16;omega }
  split
  ·exact hq
  ·split
   ·exact hq
   ·rename_i i _ _ e he
    have heo:=h4 e (List.mem_of_getElem? he)
    have hi:=(List.getElem?_eq_some_iff.1 he).1
    have c1:ensOk (cutQ q i e):=(h4.take i).app (cutE_ok heo)
    have c2:(cutQ q i e).length≤16:=by unfold cutQ;rw [List.length_append,List.length_take,List.length_singleton];omega
    exact { h with fetch:=heo.n,felen:=by show ([]:List Fe).length≤16;decide,fe:=fun f hf=>(by cases hf),rob:=c1,roblen:=c2 }
theorem toldE_ok {e:En} (h:EnOk e):(toldE e).pc<4294967296∧(toldE e).next<4294967296∧(toldE e).value<4294967296∧(toldE e).addr<4294967296:=by
 have hp:=h.p
 have hn:=h.n
 have hv:=h.v
 have ha:=h.a
 have hadd:=add32_lt e.pc 4
 unfold toldE
 split
 ·refine ⟨hp,hp,by dsimp only;omega,?_⟩
  dsimp only
  split <;> omega
 ·split
  ·exact ⟨hp,hadd,hv,ha⟩
  ·dsimp only
   have hv2:(if writesI e.inst≠0 then e.value else 0)<4294967296:=by split <;> omega
   split
   ·exact ⟨hp,hadd,hv2,ha⟩
   ·split
    ·exact ⟨hp,hadd,hv2,by dsimp only;omega⟩
    ·split
     ·exact ⟨hp,hn,hv2,by dsimp only;omega⟩
     ·exact ⟨hp,hadd,hv2,by dsimp only;omega⟩
theorem trainG_ok {g:Gu} {pc next:Nat} {i:Ins} (h:rightG g=true) (hs:∀ s∈g.slots,SlOk s) (hr:∀ x∈g.rets,x<4294967296) (hp:pc<4294967296) (hn:next<4294967296) :
  rightG (trainG g pc next i)=true∧(∀ s∈(trainG g pc next i).slots,SlOk s) ∧ ∀ x∈(trainG g pc next i).rets,x<4294967296:=by
 unfold trainG
 split
 ·exact ⟨h,hs,hr⟩
 ·have hg:=h
  simp only [rightG,Bool.and_eq_true,decide_eq_true_eq] at hg
  obtain ⟨h1,h2,h3⟩:=hg
  have hadd:=add32_lt pc 4
  refine ⟨?_,fun s hm=>?_,fun x hx=>?_⟩
  ·simp only [rightG,Bool.and_eq_true,decide_eq_true_eq,List.length_set]
   refine ⟨h1,Nat.mod_lt _ (by omega),?_⟩
   repeat' split
   all_goals ((try simp only [List.length_drop,List.length_append,List.length_singleton,List.length_take]);(try simp only [List.length_append,List.length_singleton] at *);omega)
  ·rcases List.mem_or_eq_of_mem_set hm with hm|rfl
   ·exact hs s hm
   ·exact ⟨hp,hn⟩
  ·dsimp only at hx
   have happ:∀ y∈g.rets++[add32 pc 4],y<4294967296:=fun y hy=>by
    rcases List.mem_append.1 hy with hy|hy
    ·exact hr y hy
    ·obtain rfl:=List.mem_singleton.1 hy;exact hadd
   split at hx
   ·split at hx
    ·exact happ x (List.mem_of_mem_drop hx)
    ·exact happ x hx
   ·split at hx
    ·exact hr x (List.mem_of_mem_take hx)
    ·exact hr x hx
theorem bytesS_size (v:Nat) (n:Int):(bytesS v n).size=n.toNat:=by
 show (bytesL v n.toNat).toArray.size=n.toNat
 rw [List.size_toArray,bytesL_len]
theorem applyR_ok {regs:List Nat} {s:Stp} (hl:regs.length=32) (h:∀ x∈regs,x<4294967296) (hv:s.value<4294967296):(applyR regs s).length=32 ∧ ∀ x∈applyR regs s,x<4294967296:=by
 unfold applyR
 split
 ·refine ⟨by rw [List.length_set];exact hl,fun x hx=>?_⟩
  rcases List.mem_or_eq_of_mem_set hx with hx|rfl
  ·exact h x hx
  ·exact hv
 ·exact ⟨hl,h⟩
theorem toldE_halt {e:En} (h:EnOk e) : -9223372036854775808≤(toldE e).halt∧(toldE e).halt≤9223372036854775807:=by
 have hh:=h.2.2.2.2.2.2.2.2.2.1
 unfold toldE
 dsimp only
 repeat' split
 all_goals (first|exact hh|(dsimp only;omega))
theorem KOk.retire (h : KOk B k) (h2 : B + 2 ≤ 1000000) : KOk (B + 2) (retireK k).1 := by
  have hu := h.up (B' := B + 2) (by omega) h2
  have hn := h.roblen
  have hrl := h.retlen
  have hsl := h.stlen
  have hcs := h.cf.stores
  unfold retireK
  split
  · exact hu
  · split
    · exact hu
    · rename_i e r hrob
      have he := h.rob e (by rw [hrob]; exact List.mem_cons_self ..)
      have ht := toldE_ok he
      have hth := toldE_halt he
      have hrr : ensOk r := fun x hx => h.rob x (by rw [hrob]; exact List.mem_cons_of_mem _ hx)
      have hrn : r.length ≤ 16 := by rw [hrob, List.length_cons] at hn; omega
      have hret : ∀ s : Stp, ((k.retired ++ [s]).length : Int) ≤ B + 1 := fun s => by rw [List.length_append, List.length_singleton]; omega
      split
      · exact hu
      · dsimp only
        split
        · exact { hu with retlen := Int.le_trans (hret _) (by omega), halt := hth, rob := fun x hx => (by cases hx), roblen := by show ([] : List En).length ≤ 16; decide, felen := by show ([] : List Fe).length ≤ 16; decide, fe := fun f hf => (by cases hf) }
        · split
          · exact hu
          · rename_i hst
            generalize toldE e = s at *
            have ha := applyR_ok (regs := k.regs) (s := s) h.rlen h.regs ht.2.2.1
            have hg := trainG_ok (g := k.guess) (pc := s.pc) (next := s.next) (i := e.inst) h.guess h.slots h.rets ht.1 ht.2.1
            have hu1 := h.up (B' := B + 1) (by omega) (by omega)
            have hk1 : KOk (B + 1) { k with retired := k.retired ++ [s] } := { hu1 with retlen := hret s }
            obtain ⟨k2, hk2, e1, e2, e3⟩ : ∃ k2, KOk (B + 1) k2 ∧ k2 = (if storedB s = true then { ({ k with retired := k.retired ++ [s] } : Kern) with stores := k.stores ++ [⟨s.addr, bytesS s.value s.size⟩] } else { k with retired := k.retired ++ [s] }) ∧ k2.regs = k.regs ∧ k2.guess = k.guess := by
              refine ⟨_, ?_, rfl, ?_, ?_⟩
              · split
                · rename_i hsb
                  simp only [storedB, Bool.and_eq_true, decide_eq_true_eq] at hsb
                  have hlt : (k.stores.length : Int) < k.conf.stores := by
                    rcases Int.lt_or_le (k.stores.length : Int) k.conf.stores with h | h
                    · exact h
                    · exact absurd ⟨hsb.1, h⟩ hst
                  exact { hk1 with
                    stlen := by show (k.stores ++ [_]).length ≤ 16; rw [List.length_append, List.length_singleton]; omega
                    st := fun p hp => by
                      rcases List.mem_append.1 hp with hp | hp
                      · exact h.st p hp
                      · obtain rfl := List.mem_singleton.1 hp
                        exact ⟨ht.2.2.2, by show (bytesS s.value s.size).size ≤ 4; rw [bytesS_size]; omega⟩ }
                · exact hk1
              · split <;> rfl
              · split <;> rfl
            rw [← e1]
            obtain ⟨k3, hk3, e4, e5, e6⟩ : ∃ k3, KOk (B + 2) k3 ∧ k3 = (if kindI e.inst.op = 3 then bringK k2 s.addr else k2) ∧ k3.regs = k.regs ∧ k3.guess = k.guess := by
              refine ⟨_, ?_, rfl, ?_, ?_⟩
              · split
                · have := hk2.bring (by omega) ht.2.2.2
                  rwa [show B + 1 + 1 = B + 2 by omega] at this
                · exact hk2.up (by omega) h2
              · split
                · exact e2
                · exact e2
              · split
                · exact e3
                · exact e3
            rw [← e4]
            rw [← e5] at ha
            rw [← e6] at hg
            exact { hk3 with regs := ha.2, rlen := ha.1, guess := hg.1, slots := hg.2.1, rets := hg.2.2, rob := hrr, roblen := hrn }
theorem iterK_ok {f:Kern→Kern × Bool} {c:Nat} (hf:∀ (B:Int) (k:Kern),KOk B k→B+c≤1000000→KOk (B+c) (f k).1):∀ (n:Nat) {B:Int} {k:Kern},KOk B k→B+c * n≤1000000→KOk (B+c * n) (iterK f n k)
 | 0,B,k,h,hb=>by simpa [iterK] using h
 | n+1,B,k,h,hb=>by
  have e:(c:Int) * ((n+1:Nat):Int)=c+c * n:=by rw [Int.natCast_add,Int.mul_add];simp;omega
  rw [e] at hb ⊢
  have hc:(0:Int)≤(c:Int) * (n:Int):=Int.mul_nonneg (by omega) (by omega)
  have h1:=hf B k h (by omega)
  unfold iterK
  split
  ·have:=iterK_ok hf n h1 (by omega)
   rwa [show B+c+c * n=B+(c+c * n) by omega] at this
  ·exact h1.up (by omega) (by omega)
theorem readS_ok {q:List En} {regs:List Nat} {i reg:Int} (hq:ensOk q) (hr:∀ x∈regs,x<4294967296):(readS q regs i reg).1<4294967296:=by
 unfold readS
 split
 ·dsimp only;omega
 ·split
  ·dsimp only;omega
  ·split
   ·dsimp only
    cases h:regs[reg.toNat]? with
    | none=>simp
    | some x=>exact hr x (List.mem_of_getElem? h)
   ·split
    ·rename_i e he
     split
     ·exact (hq e (List.mem_of_getElem? he)).v
     ·dsimp only;omega
    ·dsimp only;omega
theorem bothS_ok {q:List En} {regs:List Nat} {i:Nat} (hq:ensOk q) (hr:∀ x∈regs,x<4294967296):(bothS q regs i).1<4294967296∧(bothS q regs i).2.1<4294967296:=by
 unfold bothS
 split
 ·exact ⟨readS_ok hq hr,readS_ok hq hr⟩
 ·exact ⟨by dsimp only;omega,by dsimp only;omega⟩
theorem KOk.setRob (h:KOk B k) {e:En} (he:EnOk e) (i:Nat):KOk B { k with rob:=k.rob.set i e } :=
 { h with rob:=h.rob.set he i,roblen:=by show (k.rob.set i e).length≤16;rw [List.length_set];exact h.roblen }
theorem lineN_lt {x:Nat} (h:x<4294967296):lineN x<4294967296:=by unfold lineN;omega
theorem KOk.load (h:KOk B k) (h2:B+1≤1000000) (i:Nat):KOk (B+1) (loadK k i):=by
 have hu:=h.up (B':=B+1) (by omega) h2
 unfold loadK
 split
 ·exact hu
 ·rename_i e he
  have heo:=h.rob e (List.mem_of_getElem? he)
  dsimp only
  split
  ·exact hu
  ·split
   ·exact hu.setRob (takeE_ok heo) i
   ·split
    ·exact hu
    ·split
     ·exact hu.setRob (takeE_ok heo) i
     ·split
      ·exact hu.setRob (busE_ok heo) i
      ·split
       ·have hk:=h.ask h2 1 (line:=lineN e.addr) (data:=⟨#[]⟩) (lineN_lt heo.a) (by decide)
        exact hk.setRob (busE_ok heo) i
       ·exact hu
theorem KOk.start (h:KOk B k) (h2:B+1≤1000000) (i:Nat):KOk (B+1) (startK k i):=by
 have hu:=h.up (B':=B+1) (by omega) h2
 have hb:=bothS_ok (i:=i) h.rob h.regs
 unfold startK
 split
 ·exact hu
 ·rename_i e he
  have heo:=h.rob e (List.mem_of_getElem? he)
  dsimp only
  split
  ·exact hu.setRob (addressE_ok heo) i
  ·split
   ·exact (h.setRob (addressE_ok heo) i).load h2 i
   ·exact hu.setRob (startE_ok heo hb.1 hb.2) i
theorem pickL_len {width:Int} {kinds:List Int}:∀ (cs:List Bool) (i:Nat) (n:Int) (d m:Bool),((pickL width kinds cs i n d m).length:Int)≤max (width - n) 0
 | [],_,_,_,_=>by simp [pickL];omega
 | c::r,i,n,d,m=>by
  unfold pickL
  split
  ·simp;omega
  ·split
   ·exact pickL_len r (i+1) n d m
   ·dsimp only
    split
    ·exact pickL_len r (i+1) n d m
    ·have:=pickL_len (width:=width) (kinds:=kinds) r (i+1) (n+1) (d || decide (unitI (kinds[i]?.getD 0)=1)) (m || decide (unitI (kinds[i]?.getD 0)=2))
     rw [List.length_cons]
     omega
theorem starts_ok : ∀ (l:List Int) {B:Int} {k:Kern},KOk B k→B+l.length≤1000000→KOk (B+l.length) (l.foldl (fun k i=>startK k i.toNat) k)
 | [],B,k,h,hb=>by simpa using h
 | i::l,B,k,h,hb=>by
  rw [List.length_cons] at hb ⊢
  have h1:=h.start (by omega) i.toNat
  have:=starts_ok l h1 (by omega)
  rw [List.foldl_cons]
  rwa [show B+1+(l.length:Int)=B+((l.length+1:Nat):Int) by omega] at this
theorem KOk.starts (h:KOk B k) (h2:B+2≤1000000):KOk (B+2) (startsK k):=by
 have hw:=h.cf.width
 have hp:=pickL_len (width:=k.conf.width) (kinds:=kindsK k) (cansK k) 0 0 (busyK k) false
 unfold startsK
 split
 ·exact h.up (by omega) h2
 ·exact (starts_ok _ h (by omega)).up (by omega) h2
theorem KOk.enter (h : KOk B k) (h2 : B + 1 ≤ 1000000) : KOk (B + 1) (enterK k).1 := by
  have hu := h.up (B' := B + 1) (by omega) h2
  have hn := h.next
  have hc := h.cf.rob
  unfold enterK
  split
  · exact hu
  · rename_i hlt
    split
    · exact hu
    · rename_i f r hf
      have hfo := h.fe f (by rw [hf]; exact List.mem_cons_self ..)
      have hb := h.bound
      have hfl := h.felen
      exact { hu with
        rob := h.rob.app (enterE_ok (by omega) hfo)
        roblen := by show (k.rob ++ [_]).length ≤ 16; rw [List.length_append, List.length_singleton]; omega
        next := ⟨by show 0 ≤ k.next + 1; omega, by show k.next + 1 ≤ B + 1; omega⟩
        felen := by show r.length ≤ 16; rw [hf, List.length_cons] at hfl; omega
        fe := fun x hx => h.fe x (by rw [hf]; exact List.mem_cons_of_mem _ hx) }
theorem nextG_ok {g:Gu} {pc:Nat} {i:Ins} (hs:∀ s∈g.slots,SlOk s) (hr:∀ x∈g.rets,x<4294967296):nextG g pc i<4294967296:=by
 have hadd:=add32_lt pc 4
 unfold nextG
 split
 ·exact hadd
 ·split
  ·cases h:g.rets[g.rets.length - 1]? with
   | none=>simp
   | some x=>exact hr x (List.mem_of_getElem? h)
  ·dsimp only
   split
   ·cases h:g.slots[slotN g pc]? with
    | none=>simp [zsl]
    | some x=>exact (hs x (List.mem_of_getElem? h)).2
   ·exact hadd
theorem tapeK_ok {c:Cf} {n:Int} {pc:Nat} (ht:∀ x∈c.tape,x<4294967296):tapeK c n pc<4294967296:=by
 unfold tapeK
 split
 ·exact add32_lt _ _
 ·cases h:(cleanCf c).tape[(max n 0 % (cleanCf c).tape.length).toNat]? with
  | none=>simp
  | some x=>
   have hm:x∈(cleanCf c).tape:=List.mem_of_getElem? h
   exact ht x (List.mem_of_mem_take hm)
theorem KOk.behind (h:KOk B k) (h2:B+1≤1000000) (w:Nat):(behindK k w).1<4294967296∧KOk (B+1) (behindK k w).2∧(behindK k w).2.fetched=k.fetched:=by
 have hu:=h.up (B':=B+1) (by omega) h2
 have hadd:=add32_lt k.fetch 4
 have hg:=h.guessed
 unfold behindK
 split
 ·exact ⟨hadd,hu,rfl⟩
 ·split
  ·exact ⟨hadd,hu,rfl⟩
  ·split
   ·exact ⟨nextG_ok h.slots h.rets,hu,rfl⟩
   ·exact ⟨tapeK_ok h.tape,{ hu with guessed:=⟨by show 0≤k.guessed+1;omega,by show k.guessed+1≤B+1;omega⟩ },rfl⟩
theorem KOk.fetch1 (h:KOk B k) (h2:B+1≤1000000):KOk (B+1) (fetchK k).1:=by
 have hu:=h.up (B':=B+1) (by omega) h2
 have hq:=h.cf.queue
 have hf:=h.fetch
 have hadd:=add32_lt k.fetch 4
 unfold fetchK
 split
 ·exact hu
 ·rename_i hst
  have hfl:k.fetched.length≤4:=by
   rcases Nat.lt_or_ge 4 k.fetched.length with h|h
   ·exact absurd (Or.inr (by omega)) hst
   ·exact h
  have hap:∀ x:Fe,FeOk x→(∀ f∈k.fetched++[x],FeOk f)∧(k.fetched++[x]).length≤16:=fun x hx=>⟨fun f hm=>by
   rcases List.mem_append.1 hm with hm|hm
   ·exact h.fe f hm
   ·obtain rfl:=List.mem_singleton.1 hm;exact hx,by rw [List.length_append,List.length_singleton];omega⟩
  split
  ·have:=hap ⟨k.fetch,add32 k.fetch 4⟩ ⟨hf,hadd⟩
   exact { hu with fe:=this.1,felen:=this.2 }
  ·rename_i w _
   dsimp only
   split
   ·split
    ·exact h.ask h2 2 (lineN_lt hf) (by decide)
    ·exact hu
   ·have ht:=touchR_F k.wways k.words (lineN k.fetch)
    have hk1:KOk B { k with words:=touchF k.wways k.words (lineN k.fetch) }:={ h with words:=ht.right h.words,wok:=ht.cok h.wok }
    have hb:=hk1.behind h2 w
    have:=hap ⟨k.fetch,(behindK { k with words:=touchF k.wways k.words (lineN k.fetch) } w).1⟩ ⟨hf,hb.1⟩
    generalize behindK { k with words:=touchF k.wways k.words (lineN k.fetch) } w=r at *
    exact { hb.2.1 with fetch:=hb.1,fe:=by show ∀ f∈r.2.fetched++[_],FeOk f;rw [hb.2.2];exact this.1,felen:=by show (r.2.fetched++[_]).length≤16;rw [hb.2.2];exact this.2 }
theorem set_clean {ws:List Wy} {i j:Nat} {v x:Wy} (hv:ws[i]?=some v) (hx:(ws.set i ⟨v.line,false,v.data⟩)[j]?=some x):∃ y,ws[j]?=some y∧y.line=x.line∧y.data=x.data:=by
 by_cases hij:i=j
 ·subst hij
  rw [List.getElem?_set_self (List.getElem?_eq_some_iff.1 hv).1] at hx
  injection hx with hx
  subst hx
  exact ⟨v,hv,rfl,rfl⟩
 ·rw [List.getElem?_set_ne hij] at hx
  exact ⟨x,hx,rfl,rfl⟩
theorem CleanR.right {ways:Int} {C C':List (List Wy)} {x:Nat} (h:CleanR ways C x C') (hR:RightP ways C):RightP ways C':=by
 cases h with
 | no k i h he=>subst he;exact hR
 | yes k i h ws v hw hv he=>
  subst he
  have hs:=hR.hs k ws hw
  refine hR.set_ ⟨by rw [List.length_set];exact hs.1,fun j y hy=>?_⟩
  obtain ⟨z,hz,e1,e2⟩:=set_clean hv hy
  have:=hs.2 j z hz
  unfold WayOk at this ⊢
  rw [e1,e2] at this
  refine ⟨this.1,this.2.1,this.2.2.1,fun l hl u hu=>?_⟩
  obtain ⟨u',hu',e3,_⟩:=set_clean hv hu
  rw [← e3]
  exact this.2.2.2 l hl u' hu'
theorem CleanR.cok {ways:Int} {C C':List (List Wy)} {x:Nat} (h:CleanR ways C x C') (ho:COk C):COk C':=by
 cases h with
 | no k i h he=>subst he;exact ho
 | yes k i h ws v hw hv he=>
  subst he
  have hw1:=ho.at_ hw
  refine ho.set k fun u hu=>?_
  obtain ⟨j,hj⟩:=List.mem_iff_getElem?.1 hu
  obtain ⟨z,hz,e1,e2⟩:=set_clean hv hj
  have:=hw1 z (List.mem_of_getElem? hz)
  rwa [e1,e2] at this
theorem dirtyF_ok {ways:Int} {C:List (List Wy)} (ho:COk C) (h:(dirtyF ways C).2=true):(dirtyF ways C).1.line<4294967296∧(dirtyF ways C).1.data.size≤maxLen:=by
 unfold dirtyF at *
 split at h
 ·rename_i hr
  rw [if_pos hr]
  split at h
  ·rename_i v hv
   obtain ⟨ws,hw,hm⟩:=List.mem_flatten.1 (List.mem_of_find?_eq_some hv)
   exact ho ws hw v hm
  ·cases h
 ·cases h
theorem drainF_ok (ways:Int) (ss:List Pu) (C:List (List Wy)):(∀ p∈(drainF ways ss C).1,p∈ss)∧(drainF ways ss C).1.length≤ss.length:=by
 unfold drainF
 split
 ·exact ⟨fun p h=>h,Nat.le_refl _⟩
 ·split
  ·exact ⟨fun p h=>List.mem_cons_of_mem _ h,Nat.le_succ _⟩
  ·exact ⟨fun p h=>h,Nat.le_refl _⟩
theorem drains_tail {k2:Kern} (hk2:KOk (B+1) k2) (h2:B+2≤1000000):KOk (B+2) (if k2.stores≠[]∨k2.halt=0 then k2 else
  if (dirtyF k2.dways k2.data).2=true∧(dirtyF k2.dways k2.data).1.data.size≠0 then { askK k2 4 (dirtyF k2.dways k2.data).1.line (dirtyF k2.dways k2.data).1.data with data:=cleanF k2.dways k2.data (dirtyF k2.dways k2.data).1.line } else k2):=by
 split
 ·exact hk2.up (by omega) h2
 ·split
  ·rename_i hy
   have hy2:=dirtyF_ok hk2.dok hy.1
   have hc:=cleanR_F k2.dways k2.data (dirtyF k2.dways k2.data).1.line
   have ha:=hk2.ask (by omega) 4 hy2.1 hy2.2
   rw [show B+1+1=B+2 by omega] at ha
   exact { ha with data:=hc.right hk2.data,dok:=hc.cok hk2.dok }
  ·exact hk2.up (by omega) h2
theorem KOk.drains (h:KOk B k) (h2:B+2≤1000000):KOk (B+2) (drainsK k):=by
 have hd:=drainR_F k.dways k.stores k.data
 have hs:=drainF_ok k.dways k.stores k.data
 have hst:=h.stlen
 have hk1:KOk B { k with stores:=(drainF k.dways k.stores k.data).1,data:=(drainF k.dways k.stores k.data).2.1 } :=
  { h with stlen:=Nat.le_trans hs.2 hst,st:=fun p hp=>h.st p (hs.1 p hp),data:=hd.right h.data,dok:=hd.cok h.dok }
 unfold drainsK
 refine drains_tail ?_ h2
 split
 ·rename_i p r hb hp
  have hpo:=hk1.st p (by rw [hp];exact List.mem_cons_self ..)
  split
  ·exact hk1.ask (by omega) 3 (lineN_lt hpo.1) (by decide)
  ·exact hk1.up (by omega) (by omega)
 ·exact hk1.up (by omega) (by omega)
theorem KOk.iter {f:Kern→Kern × Bool} (c:Nat) (hf:∀ (B:Int) (k:Kern),KOk B k→B+c≤1000000→KOk (B+c) (f k).1) (h:KOk B k) {n:Nat} (hn:n≤2) (h2:B+2 * c≤1000000):KOk (B+2 * c) (iterK f n k):=by
 have hc:(c:Int) * (n:Int)≤2 * c:=by
  have:c * n≤c * 2:=Nat.mul_le_mul_left c hn
  have h3:((c * n:Nat):Int)≤((c * 2:Nat):Int):=by omega
  rw [Int.natCast_mul,Int.natCast_mul] at h3
  omega
 exact (iterK_ok hf n h (by omega)).up (by omega) h2
theorem KOk.step (h:KOk B k) (h2:B+20≤1000000):KOk (B+20) (stepK k):=by
 unfold stepK
 split
 ·have hw:=h.cf.width
  have hc:=h.cyc
  have hu:=h.up (B':=B+1) (by omega) (by omega)
  have h0:KOk (B+1) { k with cycle:=k.cycle+1 }:={ hu with cyc:=⟨by show 0≤k.cycle+1;omega,by show k.cycle+1≤B+1;omega⟩ }
  have h3:=(h0.ticks (by omega)).works
  generalize worksK (ticksK { k with cycle:=k.cycle+1 })=k3 at *
  have h4:KOk (B+6) (retiresK k3):=by
   have hw3:=h3.cf.width
   have:=h3.iter 2 (f:=retireK) (fun B k h hb=>h.retire hb) (n:=k3.conf.width.toNat) (by omega) (by omega)
   exact this.up (by omega) (by omega)
  have h5:=h4.starts (by omega)
  generalize startsK (retiresK k3)=k5 at *
  have h6:KOk (B+10) (entersK k5):=by
   have hw5:=h5.cf.width
   unfold entersK
   split
   ·exact h5.up (by omega) (by omega)
   ·exact (h5.iter 1 (f:=enterK) (fun B k h hb=>h.enter hb) (n:=k5.conf.width.toNat) (by omega) (by omega)).up (by omega) (by omega)
  generalize entersK k5=k6 at *
  have h7:KOk (B+12) (fetchesK k6):=by
   have hw6:=h6.cf.width
   unfold fetchesK
   split
   ·exact h6.up (by omega) (by omega)
   ·exact (h6.iter 1 (f:=fetchK) (fun B k h hb=>h.fetch1 hb) (n:=k6.conf.width.toNat) (by omega) (by omega)).up (by omega) (by omega)
  exact (h7.drains (by omega)).up (by omega) h2
 ·exact h.up (by omega) h2
end
end
section
open Go.RowKit Wd
theorem clampI_in {a b n:Int} (h:a≤b):a≤clampI a b n∧clampI a b n≤b:=by
 unfold clampI
 split <;> omega
theorem cleanCf_right (c:Cf):rightCf (cleanCf c)=true:=by
 have h1:=clampI_in (a:=0) (b:=2) (n:=c.mode) (by omega)
 have h2:=clampI_in (a:=1) (b:=2) (n:=c.width) (by omega)
 have h3:=clampI_in (a:=2) (b:=8) (n:=c.rob) (by omega)
 have h4:=clampI_in (a:=1) (b:=4) (n:=c.queue) (by omega)
 have h5:=clampI_in (a:=1) (b:=4) (n:=c.stores) (by omega)
 have h6:=clampI_in (a:=2) (b:=6) (n:=c.slots) (by omega)
 have h7:=clampI_in (a:=1) (b:=4) (n:=c.sets) (by omega)
 have h8:=clampI_in (a:=1) (b:=2) (n:=c.ways) (by omega)
 have h9:=clean_lens c
 have hl:(cleanCf c).lat.all (withinB 1 8)=true:=by
  rw [List.all_eq_true]
  intro x hx
  simp only [cleanCf,List.mem_map] at hx
  obtain ⟨y,_,rfl⟩:=hx
  have:=clampI_in (a:=1) (b:=8) (n:=y) (by omega)
  simp only [withinB,Bool.and_eq_true,decide_eq_true_eq]
  exact this
 have hs:1≤(cleanCf c).sets∧(cleanCf c).sets≤4∧(cleanCf c).sets≠3:=by
  show 1≤(if clampI 1 4 c.sets=3 then 2 else clampI 1 4 c.sets)∧_≤(4:Int)∧_
  dsimp only [cleanCf]
  split <;> omega
 unfold rightCf
 rw [hl]
 simp only [withinB,Bool.true_and,Bool.and_eq_true,decide_eq_true_eq]
 exact ⟨h1,h2,h3,h4,h5,h6,⟨hs.1,hs.2.1⟩,hs.2.2,h8,h9.1,h9.2⟩
theorem empty_right {c:Cf} (h:CfB c) (h3:c.sets≠3):RightP c.ways (List.replicate c.sets.toNat []):=by
 have h1:=h.sets
 have h2:=h.ways
 refine ⟨by rw [List.length_replicate];omega,by omega,fun k s hs=>?_⟩
 obtain rfl:s=[]:=List.eq_of_mem_replicate (List.mem_of_getElem? hs)
 exact ⟨by simp;omega,fun i v hv=>by simp at hv⟩
theorem empty_cok (n:Nat):COk (List.replicate n []):=fun ws hw v hv=>by
 obtain rfl:=List.eq_of_mem_replicate hw
 cases hv
theorem newK_ok {c : Cf} {prog : List Nat} {m : ByteArray} (ht : ∀ x ∈ c.tape, x < 4294967296) (hp : ∀ x ∈ prog, x < 4294967296) : KOk 1 (newK c prog m) := by
  have hr := cleanCf_right c
  have hb := rightCf_b hr
  have h3 : (cleanCf c).sets ≠ 3 := by
    dsimp only [cleanCf]
    split <;> omega
  have hm : (cleanM m).size ≤ 256 := by
    show (Me.cleanL m.data.toList).toArray.size ≤ 256
    rw [List.size_toArray]
    rw [Me.cleanL_len]
    have := Me.cleanN_cases (min 256 m.data.toList.length)
    omega
  exact {
    conf := hr
    tape := fun x hx => ht x (List.mem_of_mem_take hx)
    plen := by show (prog.take 64).length ≤ 64; rw [List.length_take]; omega
    prog := fun x hx => hp x (List.mem_of_mem_take hx)
    cyc := by show (0 : Int) ≤ 0 ∧ (0 : Int) ≤ 1; omega
    rlen := List.length_replicate ..
    regs := fun x hx => by rw [List.eq_of_mem_replicate hx]; omega
    fetch := by show 0 < 4294967296; omega
    felen := by show 0 ≤ 16; omega
    fe := fun f hf => by cases hf
    roblen := by show 0 ≤ 16; omega
    rob := fun f hf => by cases hf
    next := by show (0 : Int) ≤ 1 ∧ (1 : Int) ≤ 1; omega
    stlen := by show 0 ≤ 16; omega
    st := fun p hp => by cases hp
    data := empty_right hb h3
    dok := empty_cok _
    words := empty_right hb h3
    wok := empty_cok _
    buslen := by show (0 : Int) ≤ 1; omega
    bus := fun r hr => by cases hr
    left := fun r hr => by cases hr
    asked := by show (0 : Int) ≤ 0 ∧ (0 : Int) ≤ 1; omega
    guessed := by show (0 : Int) ≤ 0 ∧ (0 : Int) ≤ 1; omega
    mem := hm
    guess := by show rightG newG = true; decide
    slots := fun s hs => by rw [List.eq_of_mem_replicate hs]; exact ⟨by show 0 < 4294967296; omega, by show 0 < 4294967296; omega⟩
    rets := fun x hx => by cases hx
    halt := by show (-9223372036854775808 : Int) ≤ 0 ∧ (0 : Int) ≤ 9223372036854775807; omega
    retlen := by show (0 : Int) ≤ 1; omega
    bound := by omega }
end
section
open Go.RowKit Wd
def AllE (P:En→Prop) (q:List En):Prop:=∀ e∈q,P e
structure EnC0 (P:En→Prop):Prop where
 go:∀ e,P e→P (goE e)
 take:∀ e b,P e→P (takeE e b)
 fill:∀ e,P e→P { e with filled:=true }
 start:∀ e a b,P e→P (startE e a b)
 addr:∀ e n a,P e→P (addressE e n a)
 store:∀ e b,P e→P (storeE e b)
 cut:∀ e,P e→P { e with guess:=e.next }
 bus:∀ e,P e→P { e with is:=2 }
structure EnC (P:En→Prop):Prop extends EnC0 P where
 enter:∀ no f prog,P (enterE no f prog)
section
variable {P:En→Prop} {q:List En} {k:Kern}
theorem AllE.map {f:En→En} (h:AllE P q) (hf:∀ e,P e→P (f e)):AllE P (q.map f):=fun r hr=>by
 obtain ⟨e,he,rfl⟩:=List.mem_map.1 hr
 exact hf e (h e he)
theorem AllE.set {e:En} (h:AllE P q) (he:P e) (i:Nat):AllE P (q.set i e):=fun r hr=>by
 rcases List.mem_or_eq_of_mem_set hr with h1|rfl
 ·exact h r h1
 ·exact he
theorem AllE.app {e:En} (h:AllE P q) (he:P e):AllE P (q++[e]):=fun r hr=>by
 rcases List.mem_append.1 hr with h1|h1
 ·exact h r h1
 ·obtain rfl:=List.mem_singleton.1 h1;exact he
theorem EnC0.filled (C:EnC0 P) (k:Kern) (x:Nat) (e:En) (h:P e):P (filledE k x e):=by
 unfold filledE
 split
 ·exact C.take _ _ (C.fill _ h)
 ·exact h
theorem AllE.ticks (C:EnC0 P) (h:AllE P k.rob):AllE P (ticksK k).rob:=by
 unfold ticksK
 dsimp only
 cases (tickB k.bus).2 with
 | none=>exact h
 | some d=>
  dsimp only
  split
  ·exact h.map fun e he=>C.filled _ _ e he
  ·split
   ·exact h
   ·split
    ·exact h
    ·split
     ·exact h
     ·exact h
theorem storeAt_all (C:EnC0 P) {regs:List Nat} (i:Nat) (h:AllE P q):AllE P (storeAt regs q i):=by
 unfold storeAt
 split
 ·exact h
 ·rename_i e he
  split
  ·exact h
  ·split
   ·exact h.set (C.store _ _ (h e (List.mem_of_getElem? he))) i
   ·exact h
theorem stores_all (C:EnC0 P) {regs:List Nat}:∀ (l:List Nat) {q:List En},AllE P q→AllE P (l.foldl (storeAt regs) q)
 | [],q,h=>h
 | i::l,q,h=>stores_all C l (storeAt_all C i h)
theorem AllE.works (C:EnC0 P) (h:AllE P k.rob):AllE P (worksK k).rob:=by
 have h4:AllE P (storesQ k.regs (k.rob.map goE)):=stores_all C _ (h.map C.go)
 unfold worksK
 split
 ·exact h
 ·dsimp only
  generalize storesQ k.regs (k.rob.map goE)=q at *
  split
  ·exact h4
  ·split
   ·exact h4
   ·rename_i i _ _ e he
    exact AllE.app (fun r hr=>h4 r (List.mem_of_mem_take hr)) (C.cut _ (h4 e (List.mem_of_getElem? he)))
theorem AllE.retire (h:AllE P k.rob):AllE P (retireK k).1.rob:=by
 unfold retireK
 split
 ·exact h
 ·split
  ·exact h
  ·rename_i e r hrob
   have hr:AllE P r:=fun x hx=>h x (by rw [hrob];exact List.mem_cons_of_mem _ hx)
   split
   ·exact h
   ·dsimp only
    split
    ·exact fun x hx=>(by cases hx)
    ·split
     ·exact h
     ·exact hr
theorem AllE.load (C:EnC0 P) (h:AllE P k.rob) (i:Nat):AllE P (loadK k i).rob:=by
 unfold loadK
 split
 ·exact h
 ·rename_i e he
  have heo:=h e (List.mem_of_getElem? he)
  dsimp only
  split
  ·exact h
  ·split
   ·exact h.set (C.take _ _ heo) i
   ·split
    ·exact h
    ·split
     ·exact h.set (C.take _ _ heo) i
     ·split
      ·exact h.set (C.bus _ heo) i
      ·split
       ·exact h.set (C.bus _ heo) i
       ·exact h
theorem AllE.start (C:EnC0 P) (h:AllE P k.rob) (i:Nat):AllE P (startK k i).rob:=by
 unfold startK
 split
 ·exact h
 ·rename_i e he
  have heo:=h e (List.mem_of_getElem? he)
  dsimp only
  split
  ·exact h.set (C.addr _ _ _ heo) i
  ·split
   ·exact AllE.load (k:={ k with rob:=k.rob.set i (addressE e k.mem.size (bothS k.rob k.regs i).1) }) C (h.set (C.addr _ _ _ heo) i) i
   ·exact h.set (C.start _ _ _ heo) i
theorem starts_all (C:EnC0 P):∀ (l:List Int) {k:Kern},AllE P k.rob→AllE P (l.foldl (fun k i=>startK k i.toNat) k).rob
 | [],k,h=>h
 | i::l,k,h=>starts_all C l (h.start C i.toNat)
theorem AllE.starts (C:EnC0 P) (h:AllE P k.rob):AllE P (startsK k).rob:=by
 unfold startsK
 split
 ·exact h
 ·exact starts_all C _ h
theorem AllE.enter1 (he:∀ no f,P (enterE no f k.prog)) (h:AllE P k.rob):AllE P (enterK k).1.rob:=by
 unfold enterK
 split
 ·exact h
 ·split
  ·exact h
  ·exact h.app (he _ _)
theorem behind_rob (k:Kern) (w:Nat):(behindK k w).2.rob=k.rob:=by
 unfold behindK
 repeat' split
 all_goals rfl
theorem fetchK_rob (k:Kern):(fetchK k).1.rob=k.rob:=by
 unfold fetchK
 split
 ·rfl
 ·split
  ·rfl
  ·dsimp only
   split
   ·split
    ·rfl
    ·rfl
   ·exact behind_rob _ _
theorem drainsK_rob (k:Kern):(drainsK k).rob=k.rob:=by
 unfold drainsK
 dsimp only
 repeat' split
 all_goals rfl
theorem iter_all {f:Kern→Kern × Bool} (hf:∀ k,AllE P k.rob→AllE P (f k).1.rob):∀ (n:Nat) {k:Kern},AllE P k.rob→AllE P (iterK f n k).rob
 | 0,k,h=>h
 | n+1,k,h=>by
  unfold iterK
  split
  ·exact iter_all hf n (hf k h)
  ·exact hf k h
theorem AllE.retires (h:AllE P k.rob):AllE P (retiresK k).rob:=iter_all (fun k h=>h.retire) _ h
theorem enterK_prog (k:Kern):(enterK k).1.prog=k.prog:=by
 unfold enterK
 repeat' split
 all_goals rfl
theorem iter_enter {prog:List Nat} (he:∀ no f,P (enterE no f prog)):∀ (n:Nat) {k:Kern},k.prog=prog→AllE P k.rob→AllE P (iterK enterK n k).rob
 | 0,k,_,h=>h
 | n+1,k,hp,h=>by
  unfold iterK
  split
  ·exact iter_enter he n ((enterK_prog k).trans hp) (h.enter1 (by rw [hp];exact he))
  ·exact h.enter1 (by rw [hp];exact he)
theorem AllE.enters (he:∀ no f,P (enterE no f k.prog)) (h:AllE P k.rob):AllE P (entersK k).rob:=by
 unfold entersK
 split
 ·exact h
 ·exact iter_enter he _ rfl h
theorem AllE.fetches (h:AllE P k.rob):AllE P (fetchesK k).rob:=by
 unfold fetchesK
 split
 ·exact h
 ·exact iter_all (fun k h=>by rw [fetchK_rob];exact h) _ h
theorem AllE.drains (h:AllE P k.rob):AllE P (drainsK k).rob:=by rw [drainsK_rob];exact h
theorem AllE.step0 (C:EnC0 P) (h:AllE P k.rob) (he:∀ no f,P (enterE no f (startsK (retiresK (worksK (ticksK { k with cycle:=k.cycle+1 })))).prog)):AllE P (stepK k).rob:=by
 unfold stepK
 split
 ·have h0:AllE P ({ k with cycle:=k.cycle+1 }:Kern).rob:=h
  exact ((((((h0.ticks C).works C).retires).starts C).enters he).fetches).drains
 ·exact h
theorem AllE.step (C:EnC P) (h:AllE P k.rob):AllE P (stepK k).rob:=h.step0 C.toEnC0 (fun _ _=>C.enter _ _ _)
end
theorem left_c : EnC (fun e=>okL e.left) where
 go e h:=by
  unfold goE okL at *
  repeat' split
  all_goals (first|omega|(dsimp only at *;omega))
 take e b h:=by
  unfold takeE okL at *
  repeat' split
  all_goals (first|omega|(dsimp only at *;omega))
 fill e h:=h
 start e a b h:=by
  have ht:=tookL_ok e.inst.op a b
  unfold startE okL at *
  dsimp only
  repeat' split
  all_goals (first|omega|(dsimp only at *;omega))
 addr e n a h:=by
  unfold addressE okL at *
  repeat' split
  all_goals (first|omega|(dsimp only at *;omega))
 store e b h:=by
  unfold storeE okL at *
  repeat' split
  all_goals (first|omega|(dsimp only at *;omega))
 cut e h:=h
 bus e h:=h
 enter no f prog:=by
  unfold enterE okL
  dsimp only
  repeat' split
  all_goals (first|omega|(dsimp only;omega))
end
section
open Go.RowKit Wd
def InsR (i:Ins):Prop:=(0≤i.rs1∧i.rs1≤31)∧(0≤i.rs2∧i.rs2≤31)
theorem goE_inst (e:En):(goE e).inst=e.inst:=by
 unfold goE
 repeat' split
 all_goals rfl
theorem takeE_inst (e:En) (b:ByteArray):(takeE e b).inst=e.inst:=by
 unfold takeE
 repeat' split
 all_goals rfl
theorem startE_inst (e:En) (a b:Nat):(startE e a b).inst=e.inst:=by
 unfold startE
 dsimp only
 repeat' split
 all_goals rfl
theorem addressE_inst (e:En) (n a:Nat):(addressE e n a).inst=e.inst:=by
 unfold addressE
 repeat' split
 all_goals rfl
theorem storeE_inst (e:En) (b:Nat):(storeE e b).inst=e.inst:=by
 unfold storeE
 repeat' split
 all_goals rfl
theorem filledE_inst (k:Kern) (x:Nat) (e:En):(filledE k x e).inst=e.inst:=by
 unfold filledE
 split
 ·exact takeE_inst _ _
 ·rfl
theorem field5_lt (w:Nat) (a:Int):fieldI w a 5<32:=by
 unfold fieldI
 split
 ·exact Nat.lt_of_le_of_lt Nat.and_le_right (by decide)
 ·omega
theorem ite_in {b:Bool} {x:Nat} (h:x<32):0≤(if b=true then (x:Int) else 0)∧(if b=true then (x:Int) else 0)≤31:=by
 cases b
 ·simp
 ·rw [if_pos rfl];omega
theorem decodeL_in {w:Nat} {i:Ins} (h:decodeL w=some i):InsR i:=by
 unfold decodeL at h
 split at h
 ·injection h with h
  subst h
  exact ⟨ite_in (field5_lt _ _),ite_in (field5_lt _ _)⟩
 ·cases h
theorem enterE_in (no:Int) (f:Fe) (prog:List Nat):InsR (enterE no f prog).inst:=by
 have hz:InsR zins:=by unfold zins InsR;dsimp only;omega
 unfold enterE
 dsimp only
 split
 ·exact hz
 ·split
  ·exact hz
  ·rename_i i hd
   have:=decodeL_in hd
   repeat' split
   all_goals exact this
def RobR (q:List En):Prop:=∀ e∈q,InsR e.inst
theorem RobR.map {q:List En} {f:En→En} (h:RobR q) (hf:∀ e,(f e).inst=e.inst):RobR (q.map f):=fun r hr=>by
 obtain ⟨e,he,rfl⟩:=List.mem_map.1 hr
 rw [hf]
 exact h e he
theorem RobR.set {q:List En} {e:En} (h:RobR q) (he:InsR e.inst) (i:Nat):RobR (q.set i e):=fun r hr=>by
 rcases List.mem_or_eq_of_mem_set hr with h1|rfl
 ·exact h r h1
 ·exact he
theorem RobR.app {q:List En} {e:En} (h:RobR q) (he:InsR e.inst):RobR (q++[e]):=fun r hr=>by
 rcases List.mem_append.1 hr with h1|h1
 ·exact h r h1
 ·obtain rfl:=List.mem_singleton.1 h1;exact he
structure InR (k:Kern):Prop where
 rob:RobR k.rob
 zero:k.regs[0]?=some 0
theorem InR.ticks {k:Kern} (h:InR k):InR (ticksK k):=by
 unfold ticksK
 dsimp only
 cases (tickB k.bus).2 with
 | none=>exact ⟨h.rob,h.zero⟩
 | some d=>
  dsimp only
  split
  ·exact ⟨h.rob.map fun e=>filledE_inst _ _ e,h.zero⟩
  ·split
   ·exact ⟨h.rob,h.zero⟩
   ·split
    ·exact ⟨h.rob,h.zero⟩
    ·split
     ·exact ⟨h.rob,h.zero⟩
     ·exact ⟨h.rob,h.zero⟩
theorem storeAt_in {regs:List Nat} {q:List En} (i:Nat) (h:RobR q):RobR (storeAt regs q i):=by
 unfold storeAt
 split
 ·exact h
 ·rename_i e he
  split
  ·exact h
  ·split
   ·exact h.set (by rw [storeE_inst];exact h e (List.mem_of_getElem? he)) i
   ·exact h
theorem stores_in {regs:List Nat}:∀ (l:List Nat) {q:List En},RobR q→RobR (l.foldl (storeAt regs) q)
 | [],q,h=>h
 | i::l,q,h=>stores_in (regs:=regs) l (storeAt_in i h)
theorem InR.works {k:Kern} (h:InR k):InR (worksK k):=by
 have h4:RobR (storesQ k.regs (k.rob.map goE)):=stores_in _ (h.rob.map goE_inst)
 unfold worksK
 split
 ·exact h
 ·dsimp only
  generalize storesQ k.regs (k.rob.map goE)=q at *
  split
  ·exact ⟨h4,h.zero⟩
  ·split
   ·exact ⟨h4,h.zero⟩
   ·rename_i i _ _ e he
    have c1:RobR (cutQ q i e):=RobR.app (fun r hr=>h4 r (List.mem_of_mem_take hr)) (h4 e (List.mem_of_getElem? he))
    exact ⟨c1,h.zero⟩
theorem applyR_zero {regs:List Nat} {s:Stp} (h:regs[0]?=some 0):(applyR regs s)[0]?=some 0:=by
 unfold applyR
 split
 ·rename_i hs
  rw [List.getElem?_set_ne (by omega)]
  exact h
 ·exact h
theorem InR.retire {k:Kern} (h:InR k):InR (retireK k).1:=by
 unfold retireK
 split
 ·exact h
 ·split
  ·exact h
  ·rename_i e r hrob
   have hr:RobR r:=fun x hx=>h.rob x (by rw [hrob];exact List.mem_cons_of_mem _ hx)
   split
   ·exact h
   ·dsimp only
    split
    ·exact ⟨fun x hx=>(by cases hx),h.zero⟩
    ·split
     ·exact h
     ·refine ⟨hr,?_⟩
      have hz:∀ k3:Kern,k3.regs=k.regs→(applyR k3.regs (toldE e))[0]?=some 0:=fun k3 e3=>by rw [e3];exact applyR_zero h.zero
      apply hz
      split
      ·split <;> rfl
      ·split <;> rfl
theorem InR.setRob {k:Kern} (h:InR k) {e:En} (he:InsR e.inst) (i:Nat):InR { k with rob:=k.rob.set i e }:=⟨h.rob.set he i,h.zero⟩
theorem InR.load {k:Kern} (h:InR k) (i:Nat):InR (loadK k i):=by
 unfold loadK
 split
 ·exact h
 ·rename_i e he
  have heo:=h.rob e (List.mem_of_getElem? he)
  dsimp only
  split
  ·exact h
  ·split
   ·exact h.setRob (by rw [takeE_inst];exact heo) i
   ·split
    ·exact h
    ·split
     ·exact h.setRob (by rw [takeE_inst];exact heo) i
     ·split
      ·exact h.setRob (e:={ e with is:=2 }) heo i
      ·split
       ·exact ⟨RobR.set (e:={ e with is:=2 }) h.rob heo i,h.zero⟩
       ·exact h
theorem InR.start {k:Kern} (h:InR k) (i:Nat):InR (startK k i):=by
 unfold startK
 split
 ·exact h
 ·rename_i e he
  have heo:=h.rob e (List.mem_of_getElem? he)
  dsimp only
  split
  ·exact h.setRob (by rw [addressE_inst];exact heo) i
  ·split
   ·exact (h.setRob (by rw [addressE_inst];exact heo) i).load i
   ·exact h.setRob (by rw [startE_inst];exact heo) i
theorem starts_in : ∀ (l:List Int) {k:Kern},InR k→InR (l.foldl (fun k i=>startK k i.toNat) k)
 | [],k,h=>h
 | i::l,k,h=>starts_in l (h.start i.toNat)
theorem InR.starts {k:Kern} (h:InR k):InR (startsK k):=by
 unfold startsK
 split
 ·exact h
 ·exact starts_in _ h
theorem InR.enter {k:Kern} (h:InR k):InR (enterK k).1:=by
 unfold enterK
 split
 ·exact h
 ·split
  ·exact h
  ·exact ⟨h.rob.app (enterE_in _ _ _),h.zero⟩
theorem behind_in {k:Kern} (w:Nat):(behindK k w).2.rob=k.rob∧(behindK k w).2.regs=k.regs:=by
 unfold behindK
 repeat' split
 all_goals exact ⟨rfl,rfl⟩
theorem InR.fetch1 {k:Kern} (h:InR k):InR (fetchK k).1:=by
 unfold fetchK
 split
 ·exact h
 ·split
  ·exact ⟨h.rob,h.zero⟩
  ·rename_i w _
   dsimp only
   split
   ·split
    ·exact ⟨h.rob,h.zero⟩
    ·exact h
   ·have hb:=behind_in (k:={ k with words:=touchF k.wways k.words (lineN k.fetch) }) w
    exact ⟨by show RobR (behindK _ w).2.rob;rw [hb.1];exact h.rob,by show (behindK _ w).2.regs[0]?=some 0;rw [hb.2];exact h.zero⟩
theorem InR.drains {k:Kern} (h:InR k):InR (drainsK k):=by
 have hz:∀ k2:Kern,k2.rob=k.rob→k2.regs=k.regs→InR k2:=fun k2 e1 e2=>⟨by rw [e1];exact h.rob,by rw [e2];exact h.zero⟩
 unfold drainsK
 dsimp only
 apply hz
 ·repeat' split
  all_goals rfl
 ·repeat' split
  all_goals rfl
theorem iter_in {f:Kern→Kern × Bool} (hf:∀ k,InR k→InR (f k).1):∀ (n:Nat) {k:Kern},InR k→InR (iterK f n k)
 | 0,k,h=>h
 | n+1,k,h=>by
  unfold iterK
  split
  ·exact iter_in hf n (hf k h)
  ·exact hf k h
theorem InR.step {k:Kern} (h:InR k):InR (stepK k):=by
 unfold stepK
 split
 ·have h0:InR { k with cycle:=k.cycle+1 }:=⟨h.rob,h.zero⟩
  have h3:InR (retiresK (worksK (ticksK { k with cycle:=k.cycle+1 }))):=iter_in (fun k h=>h.retire) _ h0.ticks.works
  have h5:=h3.starts
  generalize startsK (retiresK (worksK (ticksK { k with cycle:=k.cycle+1 })))=k5 at *
  have h6:InR (entersK k5):=by
   unfold entersK
   split
   ·exact h5
   ·exact iter_in (fun k h=>h.enter) _ h5
  have h7:InR (fetchesK (entersK k5)):=by
   unfold fetchesK
   split
   ·exact h6
   ·exact iter_in (fun k h=>h.fetch1) _ h6
  exact h7.drains
 ·exact h
theorem newK_in (c:Cf) (prog:List Nat) (m:ByteArray):InR (newK c prog m):=⟨fun e he=>(by cases he),rfl⟩
theorem both_first {q:List En} {regs:List Nat} {e:En} {r:List En} (hq:q=e::r) (hi:InsR e.inst) (hz:regs[0]?=some 0) :
  bothS q regs 0=(regs[e.inst.rs1.toNat]?.getD 0,regs[e.inst.rs2.toNat]?.getD 0,true):=by
 have hm:∀ reg,makerL q ((0:Nat):Int) reg<0:=fun reg=>by
  rcases Int.lt_or_le (makerL q ((0:Nat):Int) reg) 0 with h|h
  ·exact h
  ·have:=makerL_lt h;omega
 have hr:∀ reg,0≤reg→reg≤31→readS q regs ((0:Nat):Int) reg=(regs[reg.toNat]?.getD 0,true):=fun reg h0 h1=>by
  unfold readS
  split
  ·rename_i h;subst h
   have:(0:Int).toNat=0:=rfl
   rw [this,hz];rfl
  ·rw [if_neg (by omega),if_pos (hm reg)]
 unfold bothS
 subst hq
 simp only [List.getElem?_cons_zero]
 rw [hr _ hi.1.1 hi.1.2,hr _ hi.2.1 hi.2.2]
 rfl
end
section
open Go.RowKit Wd
def ownS (k:Kern) (s:Sls) (A:Option Addr) (c:Nat):Sls:={ s with robA:=A,robC:=c,feC:=k.fetched.length,stC:=k.stores.length,busC:=k.bus.length,reC:=k.retired.length }
inductive OwnPost (w0:World) (D0 D:List Da) (M:List Mu) (g:Nat) (k:Kern) (s:Sls) (w':World):Prop
 | mk (A:Option Addr) (c:Nat) (hc:k.rob.length≤c) (hm:c≤maxLen) (hF:St w0 D0 w' (.blk g 81 (mcells k (ownS k s A c)) :: .row A 54 (ens k.rob)::M) (kD k (ownS k s A c)++D))
theorem mOwn_any {w0 w:World} {D0 D:List Da} {M:List Mu} {g:Nat} {k:Kern} {s:Sls} {B:Int} (hk:KOk B k) (ho1:s.feO=false) (ho2:s.stO=false) (ho3:s.reO=false)
  (hF:St w0 D0 w (.blk g 81 (mcells k s)::M) (rowD 17 s.robA k.rob.length s.robC (ens k.rob)::(kD k s++D))) :
  Calls Tryz.prog 30 #[.pointer (some ⟨g,0,none⟩)] w fun x w'=>(∃ y,x = .returned y)∧OwnPost w0 D0 D M g k s w':=by
 have HC:=Lib.hid (fun (W:World) (h:Rd W W.heap.size 17 s.robA k.rob.length s.robC (ens k.rob))=>clone_any s.robA k.rob.length s.robC k.rob W h (by have:=hk.roblen;omega))
 simp only [kD,ho1,ho2,ho3,apD_no,List.cons_append,List.nil_append] at hF
 have r1:=hF.rdA (A:=s.feA) (n:=k.fetched.length) (c:=s.feC) (sz:=2) (xs:=fes k.fetched)
 have r2:=hF.rdA (A:=s.stA) (n:=k.stores.length) (c:=s.stC) (sz:=2) (xs:=pus k.stores)
 have r3:=hF.rdA (A:=s.busA) (n:=k.bus.length) (c:=s.busC) (sz:=4) (xs:=rqs k.bus)
 have r4:=hF.rdA (A:=s.reA) (n:=k.retired.length) (c:=s.reC) (sz:=9) (xs:=sts k.retired)
 have H1:=Lib.hid (fun W=>clipFe_any s.feA k.fetched.length s.feC W r1.le r1.mx)
 have H2:=Lib.hid (fun W=>clipPu_any s.stA k.stores.length s.stC W r2.le r2.mx)
 have H3:=Lib.hid (fun W=>clipRq_any s.busA k.bus.length s.busC W r3.le r3.mx)
 have H4:=Lib.hid (fun W=>clipSt_any s.reA k.retired.length s.reC W r4.le r4.mx)
 have l1:=r1.len;have l2:=r2.len;have l3:=r3.len;have l4:=r4.len
 replace l1:=Lib.hid l1;replace l2:=Lib.hid l2;replace l3:=Lib.hid l3;replace l4:=Lib.hid l4
 clear r1 r2 r3 r4
 go_enter Tryz.func30,Tryz.ntmps30
 go_wp2_with ((try simp only [zA,Nat.reduceAdd]);(first|(go_at_call 57;refine (HC.out _ hF.rdA).mono ?_;rintro x wN ⟨v,rfl,hb,ho⟩;replace hF:=hF.pushOwn hb ho;clear hb ho;obtain ⟨A1,c1,rfl,hc1,hc2,hF2⟩:=hF.ownRow at0;clear hF;have hF:=hF2;clear hF2;(try simp only [zF] at hF))|(refine zg55 ?_;clear hF;(first|intro gN wN hF|intro wN hF|intro hF))|refine zg54 ?_|(refine zg15 ?_;clear hF;intro vN wN hF)))
 go_end0
 replace hF:=hF.swap
 rw [mset_rob (k:=k) (s:=s) k.rob rfl,mset_fetched k.fetched rfl,mset_stores k.stores rfl,mset_bus k.bus rfl,mset_retired k.retired rfl] at hF
 replace hF:=hF.clip (sz:=2) (A:=s.feA) (n:=k.fetched.length) (c:=s.feC) (xs:=fes k.fetched) (N:=k.fetched.length) zdm (Nat.le_refl _)
 rw [List.take_of_length_le (Nat.le_of_eq l1.out)] at hF
 replace hF:=hF.clip (sz:=2) (A:=s.stA) (n:=k.stores.length) (c:=s.stC) (xs:=pus k.stores) (N:=k.stores.length) zdm (Nat.le_refl _)
 rw [List.take_of_length_le (Nat.le_of_eq l2.out)] at hF
 replace hF:=hF.clip (sz:=4) (A:=s.busA) (n:=k.bus.length) (c:=s.busC) (xs:=rqs k.bus) (N:=k.bus.length) zdm (Nat.le_refl _)
 rw [List.take_of_length_le (Nat.le_of_eq l3.out)] at hF
 replace hF:=hF.clip (sz:=9) (A:=s.reA) (n:=k.retired.length) (c:=s.reC) (xs:=sts k.retired) (N:=k.retired.length) zdm (Nat.le_refl _)
 rw [List.take_of_length_le (Nat.le_of_eq l4.out)] at hF
 refine ⟨⟨_,rfl⟩,OwnPost.mk _ _ hc1 hc2 (hF.lessD ?_)⟩
 simp only [kD,ownS,ho1,ho2,ho3,apD_no,List.cons_append,List.nil_append]
 ((repeat (refine subn_cons ?_ ?_;focus (exact zdm)));exact fun d h=>by (repeat (first|exact h|refine List.Mem.tail _ ?_)))
end
end Go.Proofs.YtgnomadgnciifaaGreatDoor
