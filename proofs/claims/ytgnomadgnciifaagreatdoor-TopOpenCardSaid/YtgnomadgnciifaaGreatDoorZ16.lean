/- . -/
import Derived.Test.YtgnomadgnciifaaGreatDoorZ13
import Derived.Test.YtgnomadgnciifaaGreatDoorZ14
import Derived.Test.YtgnomadgnciifaaGreatDoorZ12
import Derived.Test.YtgnomadgnciifaaGreatDoorZ15
set_option linter.unusedVariables false
set_option linter.unusedSimpArgs false
set_option linter.unusedSectionVars false
set_option maxRecDepth 100000
set_option maxHeartbeats 16000000
namespace Go.Proofs.YtgnomadgnciifaaGreatDoor
theorem d6f {p:Prop} (h:p:=by
 clear hx
 go_wp2_with ((try refine zs ?_);(first|refine f2r ?_|(go_at_call 24;refine (cfClean_any c Al cl At ct _ hF.rdA hF.rdA).mono ?_;rintro x wN ⟨A1,c1,A2,c2,rfl,hO⟩;(try unfold cfC);replace hF:=hF.callA hO;clear hO;(try rw [hL.out,hn.out] at hF))|((refine d2m rfl rfl ⟨_,_,Tryz.underlying25,rfl,rfl,a8n _ rfl⟩ ?_);(try simp only [hL.out,hn.out]))|(refine a1s ?_;clear hF;(first|intro gN wN hF|intro wN hF|intro hF))|(refine a1d ?_;clear hF;intro vN wN hF)))
 go_ret
 exact ⟨by rw [hR.out];rfl,hF.bel⟩):p:=h
theorem d6g {p:Prop} (h:p:=by
 go_wp2_with ((try refine zs ?_);(first|refine a3d ?_|(go_at_call 24;refine (cfClean_any c Al cl At ct _ hF.rdA hF.rdA).mono ?_;rintro x wN ⟨A1,c1,A2,c2,rfl,hO⟩;(try unfold cfC);replace hF:=hF.callA hO;clear hO;(try rw [hL.out,hn.out] at hF))|((refine d2m rfl rfl ⟨_,_,Tryz.underlying25,rfl,rfl,a8n _ rfl⟩ ?_);(try simp only [hL.out,hn.out]))|(refine a1s ?_;clear hF;(first|intro gN wN hF|intro wN hF|intro hF))|(refine a1d ?_;clear hF;intro vN wN hF)))
 go_ret
 exact ⟨by rw [hR.out];rfl,hF.bel⟩):p:=h
section
open Go.RowKit Wd
theorem g9k (c:Cf) (Al:Option Addr) (cl:Nat) (At:Option Addr) (ct:Nat) (w:World) (hl:Rd w w.heap.size 1 Al c.lat.length cl (a1i c.lat)) (ht:Rd w w.heap.size 1 At c.tape.length ct (u32v c.tape)) (h3:¬ a1q 1 4 c.sets=3) :
  Calls Tryz.prog 24 #[.agg (cfC c Al cl At ct).toArray] w fun e w'=>∃ A1 c1 A2 c2,e = .returned (.agg (cfC (cleanCf c) A1 c1 A2 c2).toArray)∧Out w [a1a 1 Al c.lat.length cl (a1i c.lat),a1a 1 At c.tape.length ct (u32v c.tape)] w' [a1a 1 A1 (cleanCf c).lat.length c1 (a1i (cleanCf c).lat),a1a 1 A2 (cleanCf c).tape.length c2 (u32v (cleanCf c).tape)]:=by
 have hF:=St.start w [a1a 1 Al c.lat.length cl (a1i c.lat),a1a 1 At c.tape.length ct (u32v c.tape)] (fun d hd=>by
  rcases List.mem_cons.1 hd with rfl|hd
  ·exact hl
  ·obtain rfl:=List.mem_singleton.1 hd;exact ht)
 clear hl ht
 obtain ⟨mode,width,rob,queue,stores,slots,sets,ways,lat,tables,tape⟩:=c
 unfold cfC
 dsimp only at *
 obtain ⟨nl,hnl⟩:∃ n,lat.length=n:=⟨_,rfl⟩
 obtain ⟨nt,hnt⟩:∃ n,tape.length=n:=⟨_,rfl⟩
 rw [hnl,hnt] at hF ⊢
 obtain ⟨N,hN⟩:∃ N:Nat,N=min nl 64:=⟨_,rfl⟩
 obtain ⟨T,hT⟩:∃ T:Nat,T=min nt 64:=⟨_,rfl⟩
 have hN1:Hid ((N:Int)=if (64:Int)<(nl:Int) then 64 else (nl:Int)):=Lib.hid (by split <;> omega)
 have hT1:Hid ((T:Int)=if (64:Int)<(nt:Int) then 64 else (nt:Int)):=Lib.hid (by split <;> omega)
 have hNl:N≤nl:=by omega
 have hTl:T≤nt:=by omega
 have hN64:N≤64:=by omega
 have hT64:T≤64:=by omega
 have hlt:(lat.take 64).length=N:=by rw [List.length_take];omega
 have htt:(tape.take 64).length=T:=by rw [List.length_take];omega
 have hltk:lat.take N=lat.take 64:=by
  rcases Nat.le_total nl 64 with h|h
  ·rw [List.take_of_length_le (by omega),List.take_of_length_le (by omega)]
  ·rw [show N=64 by omega]
 have httk:tape.take T=tape.take 64:=by
  rcases Nat.le_total nt 64 with h|h
  ·rw [List.take_of_length_le (by omega),List.take_of_length_le (by omega)]
  ·rw [show T=64 by omega]
 replace hN:=Lib.hid hN;replace hT:=Lib.hid hT;replace hlt:=Lib.hid hlt;replace htt:=Lib.hid htt;replace hltk:=Lib.hid hltk;replace httk:=Lib.hid httk;replace hnl:=Lib.hid hnl;replace hnt:=Lib.hid hnt
 obtain ⟨S,hS⟩:∃ S,a1q 1 4 sets=S:=⟨_,rfl⟩
 obtain ⟨SS,hSS⟩:∃ SS,(if S=3 then 2 else S)=SS:=⟨_,rfl⟩
 have hEl:Hid ((cleanCf ⟨mode,width,rob,queue,stores,slots,sets,ways,lat,tables,tape⟩).lat=(lat.take 64).map (a1q 1 8)):=Lib.hid rfl
 have hEt:Hid ((cleanCf ⟨mode,width,rob,queue,stores,slots,sets,ways,lat,tables,tape⟩).tape=tape.take 64):=Lib.hid rfl
 have hE:Hid (∀ A1 c1 A2 c2,cfC (cleanCf ⟨mode,width,rob,queue,stores,slots,sets,ways,lat,tables,tape⟩) A1 c1 A2 c2=[.int .i64 (a1q 0 2 mode),.int .i64 (a1q 1 2 width),.int .i64 (a1q 2 8 rob),.int .i64 (a1q 1 4 queue),.int .i64 (a1q 1 4 stores),.int .i64 (a1q 2 6 slots),.int .i64 SS,.int .i64 (a1q 1 2 ways),.slice A1 N c1,.bool tables,.slice A2 T c2]):=Lib.hid (by
  intro A1 c1 A2 c2
  simp only [cfC,cleanCf,List.length_map,hlt.out,htt.out,hS,hSS])
 replace hS:=Lib.hid hS
 go_enter Tryz.func24,Tryz.ntmps24
 rw [hS.out] at h3
 rw [if_neg h3] at hSS
 subst hSS
 have b3:(S == 3)=false:=by simpa using h3
 (go_wp2_with ((try refine zs ?_);(first|refine b7s ?_|(go_at_call 52;(refine (c1l (by rw [(hF.bkAt at1).cell];rfl) ((hF.bkAt at1).frozen (Nat.le_of_ble_eq_true rfl)) (by first|exact hS|exact Lib.hid rfl)).mono ?_;rintro x wN ⟨⟨y,rfl⟩,w1,hb,hw1⟩;replace hF:=hF.putE hb at1 hw1;clear hb hw1;(try simp only [zF] at hF)))|(refine c7d ?_;clear hF;(first|intro gN wN hF|intro wN hF|intro hF))|(refine b9u rfl hF rfl rfl ?_;clear hF;intro wN hF;(try simp only [List.set_cons_zero,c1n,hltk.out,c1m,httk.out] at hF))|(refine a1d ?_;clear hF;intro vN wN hF))))
 obtain ⟨gL,g2,g1,rfl,rfl,rfl⟩:=hF.names3
 go_loopw [46] (fun ix wr=>∃ k:Nat,k≤N∧ix = .int .i64 (k:Int)∧St w [a1a 1 Al nl cl (a1i lat),a1a 1 At nt ct (u32v tape)] wr [.blk gL 3 (a1i (a3x (a1q 1 8) (lat.take 64) k)),.blk g2 25 [.int .i64 0,.int .i64 0,.int .i64 0,.int .i64 0,.int .i64 0,.int .i64 0,.int .i64 0,.int .i64 0,.slice none 0 0,.bool false,.slice none 0 0],.blk g1 25 [.int .i64 (a1q 0 2 mode),.int .i64 (a1q 1 2 width),.int .i64 (a1q 2 8 rob),.int .i64 (a1q 1 4 queue),.int .i64 (a1q 1 4 stores),.int .i64 (a1q 2 6 slots),.int .i64 S,.int .i64 (a1q 1 2 ways),.slice Al nl cl,.bool tables,.slice At nt ct]] [a1a 1 Al nl cl (a1i lat),a1a 1 At nt ct (u32v tape)]) (fun ix _=>N - (intOf ix).toNat)
 case atStart=>exact ⟨0,by omega,rfl,by rw [d1u];exact hF⟩
 case round=>
  clear hF
  obtain ⟨k,hk,rfl,hF⟩:=hrel
  by_cases hkn:k<N
  ·obtain ⟨x,hx⟩:∃ x,(lat.take 64)[k]?=some x:=⟨_,List.getElem?_eq_getElem (by have:=hlt.out;omega)⟩
   have hv:(a1i (a3x (a1q 1 8) (lat.take 64) k))[k]?=some (.int .i64 x):=b1i (d1w hx)
   have hkl:k<(a1i (a3x (a1q 1 8) (lat.take 64) k)).length:=by rw [a9o,d1v,hlt.out];omega
   obtain ⟨y,hy⟩:∃ y,a1q 1 8 x=y:=⟨_,rfl⟩
   have hst:=Lib.hid (show (a1i (a3x (a1q 1 8) (lat.take 64) k)).set k (.int .i64 y)=a1i (a3x (a1q 1 8) (lat.take 64) (k+1)) by have h1:=c4u (a3x (a1q 1 8) (lat.take 64) k) k y;rw [Nat.mul_one] at h1;rw [h1,← hy,d1x hx])
   replace hy:=Lib.hid hy
   clear hx
   generalize a1i (a3x (a1q 1 8) (lat.take 64) k)=X at hF hv hkl hst
   go_wp2_with ((try refine zs ?_);(first|refine zg4 ?_|(go_at_call 52;refine (c1l (by rw [(hF.bkAt at0).cell];exact hv) ((hF.bkAt at0).frozen hkl) hy).mono ?_;rintro x wN ⟨⟨y,rfl⟩,w1,hb,hw1⟩;replace hF:=hF.putE hb at0 hw1;clear hb hw1;(try simp only [zF] at hF))))
   go_roundw
   case rel=>exact ⟨k+1,by omega,by go_num,by rw [← hst.out];exact hF⟩
   case measure=>first|(simp [intOf];done)|(simp [intOf];omega)
  ·obtain rfl:k=N:=by omega
   rw [d1y (by rw [hlt.out];exact Nat.le_refl _)] at hF
   go_wp2_with ((try refine zs ?_);(first|refine b7s ?_|(refine c7e ?_;clear hF;(first|intro gN wN hF|intro wN hF|intro hF))|(refine b9u rfl hF rfl rfl ?_;clear hF;intro wN hF;(try simp only [List.set_cons_zero,c1n,hltk.out,c1m,httk.out] at hF))|(refine a1d ?_;clear hF;intro vN wN hF)))
   obtain ⟨gT,g3,g4,g5,rfl,rfl,rfl,rfl⟩:=hF.names4
   ((try simp only [Exit.inBlock,Exit.then]);refine bodyPost_ret (a2x rfl hF) rfl ?_)
   replace hF:=hF.freezeB 0 at0 1 T T (by rw [u32v_len,htt.out,Nat.mul_one]) (Nat.le_refl _) (by unfold maxLen;omega)
   (try simp only [zF] at hF)
   replace hF:=hF.freezeB 0 at0 1 k k (by rw [a9o,List.length_map,hlt.out,Nat.mul_one]) (Nat.le_refl _) (by unfold maxLen;omega)
   refine ⟨some ⟨g3,0,none⟩,k,some ⟨gT,0,none⟩,T,?_,?_⟩
   ·have h:=hE.out (some ⟨g3,0,none⟩) k (some ⟨gT,0,none⟩) T
    unfold cfC at h
    exact congrArg (fun l:List Value=>Ending.returned (.agg l.toArray)) h.symm
   ·rw [hEl.out,hEt.out,List.length_map,hlt.out,htt.out]
    exact hF.outA
end
section
open Go.RowKit Wd
theorem cfClean_any (c:Cf) (Al:Option Addr) (cl:Nat) (At:Option Addr) (ct:Nat) (w:World) (hl:Rd w w.heap.size 1 Al c.lat.length cl (a1i c.lat)) (ht:Rd w w.heap.size 1 At c.tape.length ct (u32v c.tape)) :
  Calls Tryz.prog 24 #[.agg (cfC c Al cl At ct).toArray] w fun e w'=>∃ A1 c1 A2 c2,e = .returned (.agg (cfC (cleanCf c) A1 c1 A2 c2).toArray)∧Out w [a1a 1 Al c.lat.length cl (a1i c.lat),a1a 1 At c.tape.length ct (u32v c.tape)] w' [a1a 1 A1 (cleanCf c).lat.length c1 (a1i (cleanCf c).lat),a1a 1 A2 (cleanCf c).tape.length c2 (u32v (cleanCf c).tape)]:=by
 by_cases h:a1q 1 4 c.sets=3
 ·exact g8p c Al cl At ct w hl ht h
 ·exact g9k c Al cl At ct w hl ht h
theorem d6h {l:List Int} {k:Nat} {x:Int} (h:l[k]?=some x):(a1i l)[k * 1]?=some (.int .i64 x):=by rw [Nat.mul_one];exact b1i h
section
variable {P:Program} {ops:Array Oper} {rest:List Oper} {o:Oper} {a:Act} {Q:Exit→Act→World→Prop} {w:World}
theorem g9l {x y:Operand} {t t':TypeId} {p q:Nat} (ho:o.op = .binOp .rem t x y t') (hx:a1b a x=some (.int .i64 (p:Int))) (hy:a1b a y=some (.int .i64 (q:Int))) (hp:p≤9223372036854775807) (hq:0<q) (hq2:q≤1000000):(execOp a.eval o).run P w = .ok (.value (.int .i64 ((p % q:Nat):Int))) w:=by
 replace hx:=look_eval hx
 replace hy:=look_eval hy
 have h0:¬ ((q:Int)=0):=by omega
 have h1:(p:Int) % (q:Int)<(q:Int):=Int.emod_lt_of_pos _ (by omega)
 have h2:0≤(p:Int) % (q:Int):=Int.emod_nonneg _ h0
 unfold execOp
 simp only [ho,hx,hy]
 go_simp
 try rw [if_neg (by omega)]
 rw [Int.tmod_eq_emod_of_nonneg (by omega)]
 all_goals (try (simp [IntKind.wrap];omega))
theorem w_remI {x y:Operand} {t t':TypeId} {p q r:Nat} (ho:o.op = .binOp .rem t x y t') (hx:a1b a x=some (.int .i64 (p:Int))) (hy:a1b a y=some (.int .i64 (q:Int))) (h:wpList P ops Q rest (a.put o.dst (.int .i64 (r:Int))) w) (hr:Hid (p % q=r):=by assumption) (hp:p≤9223372036854775807:=by (first|assumption|omega)) (hq:0<q:=by (first|assumption|omega)) (hq2:q≤1000000:=by (first|assumption|omega)) (hw:Region.wanted o (yielded ops a.tmps)=true:=by rfl):wpList P ops Q (o::rest) a w:=by
 refine a2c hw fun K hK=>?_
 unfold Oper.wp
 rw [g9l ho hx hy hp hq hq2,hr.out]
 exact hK _ _ h
end
theorem c5c (c:Cf):(cleanCf c).lat.length≤64∧(cleanCf c).tape.length≤64:=by
 constructor <;> simp [cleanCf] <;> omega
instance cfCOne (c:Cf) (Al:Option Addr) (cl:Nat) (At:Option Addr) (ct:Nat):OneC (cfC c Al cl At ct):=⟨by
 unfold cfC
 repeat (first|exact b2y|refine b4c rfl ?_)⟩
theorem d6i (c:Cf) (Al:Option Addr) (cl:Nat) (At:Option Addr) (ct:Nat) (k:Int) (w:World) (hk:okI k) (hl:Rd w w.heap.size 1 Al c.lat.length cl (a1i c.lat)) (ht:Rd w w.heap.size 1 At c.tape.length ct (u32v c.tape)) :
  Calls Tryz.prog 127 #[.agg (cfC c Al cl At ct).toArray,.int .i64 k] w fun e w'=>e = .returned (.int .i64 (a7a c k))∧Bel w w':=by
 have hF:=St.start w [a1a 1 Al c.lat.length cl (a1i c.lat),a1a 1 At c.tape.length ct (u32v c.tape)] (fun d hd=>by
  rcases List.mem_cons.1 hd with rfl|hd
  ·exact hl
  ·obtain rfl:=List.mem_singleton.1 hd;exact ht)
 have hlen:=(c5c c).1
 have hR:Hid (a7a c k=if (cleanCf c).lat.length=0 then 1 else ((cleanCf c).lat[(max k 0 % (cleanCf c).lat.length).toNat]?).getD 0):=Lib.hid rfl
 generalize hL:(cleanCf c).lat=L at hlen hR
 replace hL:=Lib.hid hL
 obtain ⟨n,hn⟩:∃ n,L.length=n:=⟨_,rfl⟩
 rw [hn] at hlen hR
 replace hn:=Lib.hid hn
 have hk1:=hk.1
 have hk2:=hk.2
 clear hl ht hk
 go_enter Tryz.func127,Tryz.ntmps127
 obtain ⟨M,hM⟩:∃ M:Nat,M=(max k 0).toNat:=⟨_,rfl⟩
 have hM1:Hid ((M:Int)=if (0:Int) > k then 0 else k):=Lib.hid (by split <;> omega)
 have hM2:M≤9223372036854775807:=by omega
 have hMi:max k 0=(M:Int):=by omega
 rw [hMi] at hR
 clear hMi hM
 by_cases h0:n=0
 ·subst h0
  exact d6g
 ·have b0:((n:Int) == 0)=false:=by rw [beq_eq_false_iff_ne];omega
  rw [if_neg h0] at hR
  have hpos:0<n:=by omega
  obtain ⟨r,hr⟩:∃ r,M % n=r:=⟨_,rfl⟩
  have hrn:r<n:=by rw [← hr];exact Nat.mod_lt _ hpos
  have hri:((M:Int) % (n:Int)).toNat=r:=by omega
  rw [hri] at hR
  clear hri h0
  replace hr:=Lib.hid hr
  obtain ⟨x,hx⟩:∃ x,L[r]?=some x:=⟨_,List.getElem?_eq_getElem (by rw [hn.out];exact hrn)⟩
  rw [hx] at hR
  have hxe:=d6h hx
  exact d6f
theorem g9m (c:Cf) (Al:Option Addr) (cl:Nat) (At:Option Addr) (ct:Nat) (k:Int) (pc:Nat) (w:World) (hk:okI k) (hpc:pc<4294967296) (hl:Rd w w.heap.size 1 Al c.lat.length cl (a1i c.lat)) (ht:Rd w w.heap.size 1 At c.tape.length ct (u32v c.tape)) :
  Calls Tryz.prog 144 #[.agg (cfC c Al cl At ct).toArray,.int .i64 k,.int .u32 (pc:Int)] w fun e w'=>e = .returned (.int .u32 ((b2b c k pc:Nat):Int))∧Bel w w':=by
 have hF:=St.start w [a1a 1 Al c.lat.length cl (a1i c.lat),a1a 1 At c.tape.length ct (u32v c.tape)] (fun d hd=>by
  rcases List.mem_cons.1 hd with rfl|hd
  ·exact hl
  ·obtain rfl:=List.mem_singleton.1 hd;exact ht)
 have hlen:=(c5c c).2
 have hR:Hid (b2b c k pc=if (cleanCf c).tape.length=0 then a1k pc 4 else ((cleanCf c).tape[(max k 0 % (cleanCf c).tape.length).toNat]?).getD 0):=Lib.hid rfl
 generalize hL:(cleanCf c).tape=L at hlen hR
 replace hL:=Lib.hid hL
 obtain ⟨n,hn⟩:∃ n,L.length=n:=⟨_,rfl⟩
 rw [hn] at hlen hR
 replace hn:=Lib.hid hn
 have hk1:=hk.1
 have hk2:=hk.2
 clear hl ht hk
 go_enter Tryz.func144,Tryz.ntmps144
 obtain ⟨M,hM⟩:∃ M:Nat,M=(max k 0).toNat:=⟨_,rfl⟩
 have hM1:Hid ((M:Int)=if (0:Int) > k then 0 else k):=Lib.hid (by split <;> omega)
 have hM2:M≤9223372036854775807:=by omega
 have hMi:max k 0=(M:Int):=by omega
 rw [hMi] at hR
 clear hMi hM
 by_cases h0:n=0
 ·subst h0
  have hadd:a1k pc 4=(pc+4) % 4294967296:=rfl
  exact d6g
 ·have b0:((n:Int) == 0)=false:=by rw [beq_eq_false_iff_ne];omega
  rw [if_neg h0] at hR
  have hpos:0<n:=by omega
  obtain ⟨r,hr⟩:∃ r,M % n=r:=⟨_,rfl⟩
  have hrn:r<n:=by rw [← hr];exact Nat.mod_lt _ hpos
  have hri:((M:Int) % (n:Int)).toNat=r:=by omega
  rw [hri] at hR
  clear hri h0
  replace hr:=Lib.hid hr
  obtain ⟨x,hx⟩:∃ x,L[r]?=some x:=⟨_,List.getElem?_eq_getElem (by rw [hn.out];exact hrn)⟩
  rw [hx] at hR
  have hxe:=g8a hx
  exact d6f
end
section
open Go.RowKit Wd
theorem c5d (op:Int) (x:Nat) (w:World) (hx:x<4294967296) :
  Calls Tryz.prog 149 #[.int .i64 op,.int .u32 (x:Int)] w fun e w'=>e = .returned (a2g op x).val∧Bel w w':=by
 rcases b7d op with h|h|h|h|h|h|h|h|h
 ·exact g9b op x w h hx
 ·exact g9c op x w h hx
 ·exact g9d op x w h hx
 ·exact g9e op x w h hx
 ·exact g9f op x w h hx
 ·exact g9g op x w h hx
 ·exact g8y op x w h hx
 ·exact g8z op x w h hx
 ·exact g9a op x w h hx
end
section
open Go.RowKit Wd
def a2h : Da:=a1a 1 (some ⟨0,0,none⟩) 49 49 (u32v codesL)
theorem codesT : ArT Tryz.prog 210 28 49:=⟨Tryz.underlying210,by kernel_rfl⟩
theorem d6j {k:Nat} (h:k<49):(u32v codesL)[k * 1]?=some (.int .u32 ((codesL[k]?.getD 0:Nat):Int)):=by
 obtain ⟨x,hx⟩:∃ x,codesL[k]?=some x:=⟨_,List.getElem?_eq_getElem (show k<codesL.length from h)⟩
 rw [hx]
 exact d1i hx
theorem d6k (k:Nat):codesL[k]?.getD 0<4294967296:=by
 cases h:codesL[k]? with
 | none=>simp
 | some x=>
  have:∀ y∈codesL,y<4294967296:=by decide
  exact this x (List.mem_of_getElem? h)
theorem g9n (f:Int):a5l f<4294967296:=by
 unfold a5l
 repeat' split
 all_goals omega
def c5e (o:Option Ins):Value:=match o with|some i=>i.val|none=>a9m.val
def c5f (o:Option Ins):Int:=match o with|some _=>0|none=>20
theorem g9o {x:Nat} (h:a6b x 48 1=none):a4j x=none:=by unfold a4j;rw [h]
theorem g9p {x k:Nat} (h:a6b x 48 1=some k):a4j x=some (a2g k x):=by unfold a4j;rw [h]
theorem c5g (x:Nat) (w:World) (hx:x<4294967296) (hr:Rd w w.heap.size 1 (some ⟨0,0,none⟩) 49 49 (u32v codesL)) :
  Calls Tryz.prog 138 #[.int .u32 (x:Int)] w fun e w'=>e = .returned (.tuple #[c5e (a4j x),.int .i64 (c5f (a4j x))])∧Bel w w':=by
 have hF:=St.start w [a1a 1 (some ⟨0,0,none⟩) 49 49 (u32v codesL)] (fun d hd=>by obtain rfl:=List.mem_singleton.1 hd;exact hr)
 clear hr
 go_enter Tryz.func138,Tryz.ntmps138
 go_wp2_with (((first|refine zrd ?_|(refine zst ?_;clear hF;(first|intro gN wN hF|intro wN hF|intro hF))|(refine zap ?_;clear hF;intro vN wN hF));refine zs ?_))
 obtain ⟨gR,rfl⟩:=hF.names1
 go_loopw [4] (fun i wr=>∃ k:Nat,1≤k∧k≤49∧i = .int .i64 (k:Int)∧Hid (a6b x 48 1=a6b x (49 - k) k)∧St w [a1a 1 (some ⟨0,0,none⟩) 49 49 (u32v codesL)] wr [.blk gR 52 [.int .i64 0,.int .i64 0,.int .i64 0,.int .i64 0,.int .u32 0]] [a1a 1 (some ⟨0,0,none⟩) 49 49 (u32v codesL)]) (fun i _=>49 - (intOf i).toNat)
 case atStart=>exact ⟨1,by omega,by omega,rfl,Lib.hid rfl,hF⟩
 case round=>
  obtain ⟨k,hk1,hk,rfl,hdk,hF⟩:=hrel
  by_cases hkn:k<49
  ·have HFo:=Lib.hid (fun W=>by have:=a7r (k:Int) W;rwa [a8c] at this:∀ W,Calls Tryz.prog 107 #[.int .i64 (k:Int)] W fun e w'=>e = .returned (.int .i64 (a1o (k:Int)))∧w'=W)
   have HFx:=Lib.hid (fun W=>g3v (a1o (k:Int)) W (b7d _))
   have HRe:=Lib.hid (fun W=>c5d (k:Int) x W hx)
   have hfl:=g9n (a1o (k:Int))
   have hcl:=d6k k
   have hc:=d6j hkn
   have hstep:a6b x (49 - k) k=if x &&& a5l (a1o (k:Int))=codesL[k]?.getD 0 then some k else a6b x (49 - (k+1)) (k+1):=by
    rw [show 49 - k=(49 - (k+1))+1 by omega];rfl
   generalize a1o (k:Int)=f at *
   generalize a5l f=fx at *
   generalize codesL[k]?.getD 0=c at *
   have hand:=u32_and_nat x fx hx hfl
   by_cases hm:x &&& fx=c
   ·have hd:a6b x 48 1=some k:=by rw [hdk.out,hstep,if_pos hm]
    replace hd:=Lib.hid hd
    have hbm:(bits .and .u32 (x:Int) (fx:Int) == (c:Int))=true:=by rw [hand,hm];simp
    clear hand hm hstep
    go_upto_region 4 with (((first|refine zrd ?_|(refine zst ?_;clear hF;(first|intro gN wN hF|intro wN hF|intro hF))|(refine zap ?_;clear hF;intro vN wN hF));refine zs ?_))
    refine a1n (by kernel_rfl) hF _ _ (fun _ h=>h) (fun _ h=>h) ?_
    clear hF;intro hF hH
    refine a1c 0 hH ?_
    refine a1c 1 hH ?_
    refine a1c 5 hH ?_
    refine c3p 6 hH ?_
    refine zk0 7 hH ?_
    refine zry 2 (fun K hK=>?_)
    go_wp2_with ((first|(go_at_call 107;refine (HFo.out _).mono ?_;rintro x wN ⟨rfl,rfl⟩)|(go_at_call 183;refine (HFx.out _).mono ?_;rintro x wN ⟨rfl,rfl⟩)))
    have hH:=hH.nextA hF;refine hK.out _ _ hH ?_;clear hK;refine zs ?_
    refine zry 3 (fun K hK=>?_)
    go_wp2_with ((first|(go_at_call 107;refine (HFo.out _).mono ?_;rintro x wN ⟨rfl,rfl⟩)|(go_at_call 183;refine (HFx.out _).mono ?_;rintro x wN ⟨rfl,rfl⟩)))
    have hH:=hH.nextA hF;refine hK.out _ _ hH ?_;clear hK;refine zs ?_
    refine zp 4 hH ?_
    refine zp 8 hH ?_
    refine zrz ?_
    (go_wp2_with ((try refine zs ?_);(first|(refine f2n ?_;clear hF;(first|intro gN wN hF|intro wN hF|intro hF))|refine a8i ?_|(refine a1d ?_;clear hF;intro vN wN hF)));((try simp only [Exit.inBlock,Exit.then]);refine bodyPost_ret (b1y rfl hF) rfl ?_);exact ⟨by rw [g9p hd.out];rfl,hF.bel⟩)
   ·have hd2:a6b x 48 1=a6b x (49 - (k+1)) (k+1):=by rw [hdk.out,hstep,if_neg hm]
    replace hd2:=Lib.hid hd2
    have hbm:(bits .and .u32 (x:Int) (fx:Int) == (c:Int))=false:=by rw [hand];simp;omega
    clear hand hm hstep
    go_upto_region 4 with (((first|refine zrd ?_|(refine zst ?_;clear hF;(first|intro gN wN hF|intro wN hF|intro hF))|(refine zap ?_;clear hF;intro vN wN hF));refine zs ?_))
    refine a1n (by kernel_rfl) hF _ _ (fun _ h=>h) (fun _ h=>h) ?_
    clear hF;intro hF hH
    refine a1c 0 hH ?_
    refine a1c 1 hH ?_
    refine a1c 5 hH ?_
    refine c3p 6 hH ?_
    refine zk0 7 hH ?_
    refine zry 2 (fun K hK=>?_)
    go_wp2_with ((first|(go_at_call 107;refine (HFo.out _).mono ?_;rintro x wN ⟨rfl,rfl⟩)|(go_at_call 183;refine (HFx.out _).mono ?_;rintro x wN ⟨rfl,rfl⟩)))
    have hH:=hH.nextA hF;refine hK.out _ _ hH ?_;clear hK;refine zs ?_
    refine zry 3 (fun K hK=>?_)
    go_wp2_with ((first|(go_at_call 107;refine (HFo.out _).mono ?_;rintro x wN ⟨rfl,rfl⟩)|(go_at_call 183;refine (HFx.out _).mono ?_;rintro x wN ⟨rfl,rfl⟩)))
    have hH:=hH.nextA hF;refine hK.out _ _ hH ?_;clear hK;refine zs ?_
    refine zp 4 hH ?_
    refine zp 8 hH ?_
    refine zrz ?_
    (go_wp2_with ((try refine zs ?_);(first|refine a8i ?_|(refine a1s ?_;clear hF;(first|intro gN wN hF|intro wN hF|intro hF))|(refine a1d ?_;clear hF;intro vN wN hF)));go_roundw;(case rel=>exact ⟨k+1,by omega,by omega,by go_num,Lib.hid hd2.out,hF⟩);(case measure=>first|(simp [intOf];done)|(simp [intOf];omega)))
  ·obtain rfl:k=49:=by omega
   have hd:a6b x 48 1=none:=hdk.out
   replace hd:=Lib.hid hd
   go_wp2_with ((try refine zs ?_);(first|refine a8i ?_|(refine a1s ?_;clear hF;(first|intro gN wN hF|intro wN hF|intro hF))|(refine a1d ?_;clear hF;intro vN wN hF)))
   ((try simp only [Exit.inBlock,Exit.then]);refine bodyPost_ret (b1y rfl hF) rfl ?_)
   exact ⟨by rw [g9o hd.out];rfl,hF.bel⟩
end
section
open Go.RowKit Wd
section
variable {ops:Array Oper} {rest:List Oper} {o:Oper} {a:Act} {Q:Exit→Act→World→Prop}
theorem g9q {w:World} {x y:Operand} {i j:Ins} (ho:o.op = .binOp .neq 52 x y 52) (hx:a1b a x=some i.val) (hy:a1b a y=some j.val):(execOp a.eval o).run Tryz.prog w = .ok (.value (.bool (!(a3f i j)))) w:=by
 replace hx:=look_eval hx
 replace hy:=look_eval hy
 unfold execOp
 simp only [ho,hx,hy]
 go_simp
 unfold Ins.val
 go_simp
 unfold a3f
 by_cases h1:i.op=j.op
 ·by_cases h2:i.rd=j.rd
  ·by_cases h3:i.rs1=j.rs1
   ·by_cases h4:i.rs2=j.rs2
    ·by_cases h5:i.imm=j.imm
     ·simp [h1,h2,h3,h4,h5]
     ·rw [if_pos h1,if_pos h2,if_pos h3,if_pos h4,if_neg (by omega)]
      simp [h5]
    ·rw [if_pos h1,if_pos h2,if_pos h3,if_neg h4]
     simp [h4]
   ·rw [if_pos h1,if_pos h2,if_neg h3]
    simp [h3]
  ·rw [if_pos h1,if_neg h2]
   simp [h2]
 ·rw [if_neg h1]
  simp [h1]
theorem y_neI {S:World→Prop} {x y:Operand} {i j:Ins} {b:Bool} (ho:o.op = .binOp .neq 52 x y 52) (hx:a1b a x=some i.val) (hy:a1b a y=some j.val) (hr:Hid ((!(a3f i j))=b):=by assumption) (hw:Region.wanted o (yielded ops a.tmps)=true:=by rfl) :
  YieldsIf Tryz.prog ops S o (.bool b) a:=a1u hw fun w=>by rw [← hr.out];exact g9q ho hx hy
end
end
section
open Go.RowKit
section
variable {ways:Int} {A:Option Addr} {n c:Nat} {S:List Cs} {Aq:Option Addr} {nq cq:Nat} {q:List Rq} {As:Option Addr} {ns cs:Nat} {ss:List Pu} {C:List (List Wy)} {w:World}
theorem g9r (hR:RightP ways C):C.length≤1000 ∧ ∀ ws∈C,ws.length≤1000:=⟨by have:=hR.hn;omega,fun ws hw=>by
 obtain ⟨k,hk⟩:=List.mem_iff_getElem?.1 hw
 have:=b2f hR (hR.hs k ws hk).1
 omega⟩
theorem g9s {m:ByteArray} {x:Nat} {left:Int} {C':List (List Wy)} {q':List Rq} {b:Bool} (hr:RdS w w.heap.size A n c S) (hrq:Rd w w.heap.size 4 Aq nq cq (rqs q)) (hC:a1j S=C) (h:BringR ways C q (bl m) x left C' q' b) (hok:COk C)
  (hx:x<4294967296) (hm:m.size≤maxLen) (hqn:nq≤1000000) (hq:∀ r∈q,r.line<4294967296) (hl : -9223372036854775808≤left∧left≤9223372036854775807) :
  Calls Tryz.prog 126 #[.agg #[.int .i64 ways,.slice A n c],.slice Aq nq cq,.string m,.int .u32 (x:Int),.int .i64 left] w fun e w'=>∃ y z,e = .returned (.tuple #[y,z,.bool b])∧d6e w (cqD A n c S Aq nq cq q) ways y z w' C' q':=by
 subst hC
 exact g9j hx hok.sok hm hqn hq hl h w hr hrq
theorem g9t {C':List (List Wy)} {ss':List Pu} {b:Bool} (hr:RdS w w.heap.size A n c S) (hrs:Rd w w.heap.size 2 As ns cs (pus ss)) (hC:a1j S=C) (h:DrainR ways ss C ss' C' b) (hok:COk C) (hss:∀ p∈ss,p.addr<4294967296∧p.data.size≤maxLen) :
  Calls Tryz.prog 86 #[.slice As ns cs,.agg #[.int .i64 ways,.slice A n c]] w fun e w'=>∃ y z,e = .returned (.tuple #[y,z,.bool b])∧d5x w (scD As ns cs ss A n c S) ways y z w' ss' C':=by
 subst hC
 exact g8o hok.sok hss h w hr hrs
end
end
section
open Go.RowKit Wd
section
variable (A:Option Addr) (n c:Nat) (q:List En) (no:Int) (pc gs:Nat) (Ap:Option Addr) (np cp:Nat) (prog:List Nat) (w:World) (hn1:n≤1000) (hcc:n≤c) (hqn:Hid (q.length=n))
 (hF:St w [a1a 17 A n c (ens q),a1a 1 Ap np cp (u32v prog),a2h] w [] [a1a 17 A n c (ens q),a1a 1 Ap np cp (u32v prog),a2h])
include hn1 hcc hqn hF
theorem g9u (E:En) (x:Nat) (op de:Int) (rd rs1 rs2:Int) (imm:Nat)  (hE:E=⟨no,pc,a9m,gs,3,0,0,0,0,1,0,false,false⟩)
  (HFe:Hid (∀ W,Rd W W.heap.size 1 Ap np cp (u32v prog)→Calls Tryz.prog 79 #[.slice Ap np cp,.int .u32 (pc:Int)] W fun e w'=>e = .returned (.tuple #[.int .u32 (x:Int),.bool false])∧Bel W w'))
  (HDe:Hid (∀ W,Rd W W.heap.size 1 (some ⟨0,0,none⟩) 49 49 (u32v codesL)→Calls Tryz.prog 138 #[.int .u32 (x:Int)] W fun e w'=>e = .returned (.tuple #[.agg #[.int .i64 op,.int .i64 rd,.int .i64 rs1,.int .i64 rs2,.int .u32 (imm:Int)],.int .i64 de])∧Bel W w')):Calls Tryz.prog 78 #[.slice A n c,.int .i64 no,.agg #[.int .u32 (pc:Int),.int .u32 (gs:Int)],.slice Ap np cp] w fun x w'=>∃ v,x = .returned v∧Bel w w'∧w'.ownsRow w.heap.size 54 17 v (n+1) (ens (q++[E])):=by
 have hcells:=Lib.hid (show ens (q++[E])=ens q++E.cells by unfold ens;rw [List.flatMap_append];simp)
 subst hE
 (go_enter Tryz.func78,Tryz.ntmps78)
 go_upto_region 16 with ((try refine zs ?_);(first|refine a3d ?_|(refine b5t ?_;clear hF;(first|intro gN wN hF|intro wN hF|intro hF))|(refine a1d ?_;clear hF;intro vN wN hF)|((refine w_stp rfl hF rfl rfl ?_ (hfit:=Nat.le_of_ble_eq_true rfl));clear hF;intro wN hF;(try simp only [spl,List.set_cons_zero,List.set_cons_succ,Nat.reduceAdd] at hF))))
 replace hF:=hF.clip (N:=n) (List.Mem.head _) (Nat.le_refl _)
 rw [List.take_of_length_le (by rw [a4l,hqn.out];exact Nat.le_refl _)] at hF
 refine a1n (by kernel_rfl) hF _ _ (fun _ h=>h) (fun _ h=>h) ?_
 clear hF;intro hF hH
 refine a1c 0 hH ?_
 refine a1c 1 hH ?_
 refine zk3 2 hH ?_
 refine a1c 3 hH ?_
 refine zk3 4 hH ?_
 refine b4n 5 hH ?_
 refine zk7 6 hH ?_
 refine zry 7 (fun K hK=>?_)
 go_wp2_with ((first|(refine w_bs1 rfl hF rfl ?_;clear hF;intro gN wN hF)|(refine w_bs0 rfl hF ?_;clear hF;intro gN wN hF));refine zs ?_)
 have hH:=hH.nextA hF;refine hK.out _ _ hH ?_;clear hK;refine zs ?_
 refine zry 8 (fun K hK=>?_)
 go_wp2_with ((first|((refine b4x rfl hF rfl rfl ?_);clear hF;intro vN wN hF;(try refine zs ?_))|((first|refine zrg ?_|(refine zst ?_;clear hF;(first|intro gN wN hF|intro wN hF|intro hF))|(refine zap ?_;clear hF;intro vN wN hF));refine zs ?_)))
 have hH:=hH.nextA hF;refine hK.out _ _ hH ?_;clear hK;refine zs ?_
 refine a2a 9 hH ?_
 refine zrz ?_
 (go_wp2;go_ret;exact ⟨_,rfl,hF.bel,by rw [hcells.out];exact hF.ownAt at0⟩)
end
end
end Go.Proofs.YtgnomadgnciifaaGreatDoor
