/- Joined: Mrn, TSr. -/
import Derived.Test.YtgnomadgnciifaaGreatDoorZH0
import Derived.Test.YtgnomadgnciifaaGreatDoorZ48
import Derived.Test.YtgnomadgnciifaaGreatDoorZ47
import Derived.Test.YtgnomadgnciifaaGreatDoorZ3
import Derived.Test.YtgnomadgnciifaaGreatDoorZ8
import Derived.Test.YtgnomadgnciifaaGreatDoorZ30
import Derived.Test.YtgnomadgnciifaaGreatDoorZ4
import Derived.Test.YtgnomadgnciifaaGreatDoorZ10
set_option linter.unusedVariables false
set_option linter.unusedSimpArgs false
set_option linter.unusedSectionVars false
set_option maxRecDepth 100000
set_option maxHeartbeats 16000000
namespace Go.Proofs.YtgnomadgnciifaaGreatDoor
theorem z49x0 {p:Prop} (h:p:=by
 go_roundw
 case rel=>exact ⟨j+1,by omega,by go_num,s2,hfit2,hF⟩
 case measure=>first|(simp [intOf];done)|(simp [intOf];omega)):p:=h
section
open Go.RowKit Wd
theorem runK_succ : ∀ (n:Nat) (k:Kern),runK (n+1) k=stepK (runK n k)
 | 0,k=>rfl
 | n+1,k=>by
  show runK (n+1) (stepK k)=stepK (runK n (stepK k))
  exact runK_succ n (stepK k)
structure RunI (k:Kern) (j:Nat):Prop where
 ok:KOk (1+20 * (j:Int)) (runK j k)
 left:AllE (fun e=>okL e.left) (runK j k).rob
theorem RunI.next {k:Kern} {j:Nat} (h:RunI k j) (hj:j<2000):RunI k (j+1):=by
 refine ⟨?_,?_⟩
 ·rw [runK_succ]
  have:=h.ok.step (by omega)
  have e:(1:Int)+20 * ((j+1:Nat):Int)=1+20 * (j:Int)+20:=by omega
  rw [e]
  exact this
 ·rw [runK_succ]
  exact h.left.step left_c
theorem runI_new {c:Cf} {prog:List Nat} {m:ByteArray} (ht:∀ x∈c.tape,x<4294967296) (hp:∀ x∈prog,x<4294967296):∀ j,j≤2000→RunI (newK c prog m) j
 | 0,_=>⟨newK_ok ht hp,fun e h=>(by cases h)⟩
 | j+1,hj=>(runI_new ht hp j (by omega)).next (by omega)
theorem step_call {w0 w:World} {D0:List Da} {M:List Mu} {k:Kern} {s:Sls} {j:Nat} (hI:RunI k j) (hj:j<2000) (hfit:FitC (runK j k) s) (hF:St w0 D0 w M (coreD (runK j k) s)) :
  Calls Tryz.prog 9 #[.agg (mcells (runK j k) s).toArray] w fun x w'=>∃ s',FitC (runK (j+1) k) s'∧x = .returned (.agg (mcells (runK (j+1) k) s').toArray)∧St w0 D0 w' M (coreD (runK (j+1) k) s'):=by
 refine (coreStep_any hI.ok (by omega) hI.left hfit w (fun d hd=>hF.dat d hd)).mono ?_
 rintro x w' ⟨s',hfit',rfl,hO⟩
 rw [← runK_succ] at hfit' hO ⊢
 exact ⟨s',hfit',rfl,(hF.call hO (fun _ h=>h)).lessD (fun d hd=>List.mem_append_left _ hd)⟩
theorem coreRun_any (c:Cf) (Al:Option Addr) (cl:Nat) (At:Option Addr) (ct:Nat) (prog:List Nat) (Ap:Option Addr) (cp:Nat) (m:ByteArray) (n:Int) (w:World) (hl:Rd w w.heap.size 1 Al c.lat.length cl (i64s c.lat)) (ht:Rd w w.heap.size 1 At c.tape.length ct (u32v c.tape))
  (hp:Rd w w.heap.size 1 Ap prog.length cp (u32v prog)) (hcd:Rd w w.heap.size 1 (some ⟨0,0,none⟩) 49 49 (u32v codesL)) (hm:m.size≤9223372036854775807) (htt:∀ x∈c.tape,x<4294967296) (hpp:∀ x∈prog,x<4294967296) :
  Calls Tryz.prog 21 #[.agg (cfC c Al cl At ct).toArray,.slice Ap prog.length cp,.string m,.int .i64 n] w (StepPost w [rowD 1 Al c.lat.length cl (i64s c.lat),rowD 1 At c.tape.length ct (u32v c.tape),rowD 1 Ap prog.length cp (u32v prog),codesD] (runK (min n 2000).toNat (newK c prog m))):=by
 have hF:=St.start w [rowD 1 Al c.lat.length cl (i64s c.lat),rowD 1 At c.tape.length ct (u32v c.tape),rowD 1 Ap prog.length cp (u32v prog),codesD] (fun d hd=>by
  rcases List.mem_cons.1 hd with rfl|hd
  ·exact hl
  ·rcases List.mem_cons.1 hd with rfl|hd
   ·exact ht
   ·rcases List.mem_cons.1 hd with rfl|hd
    ·exact hp
    ·obtain rfl:=List.mem_singleton.1 hd;exact hcd)
 have HN:=Lib.hid (fun (W:World) h1 h2 h3 h4=>coreNew_any c Al cl At ct prog Ap cp m W h1 h2 h3 h4 hm)
 have HI:=Lib.hid (fun j hj=>runI_new (c:=c) (prog:=prog) (m:=m) htt hpp j hj)
 obtain ⟨N,hN,hNl⟩:∃ N:Int,Hid (N=if (2000:Int)<n then 2000 else n)∧Hid (min n 2000=N):=⟨min n 2000,Lib.hid (by split <;> omega),Lib.hid rfl⟩
 have hN2:N≤2000:=by have:=hN.out;split at this <;> omega
 rw [hNl.out]
 clear hl ht hp hcd htt hpp hNl
 go_enter Tryz.func21,Tryz.ntmps21
 go_wp2_with ((try simp only [zA,Nat.reduceAdd]);(first|go_big_skip|(go_at_call 8;refine (HN.out _ hF.rdA hF.rdA hF.rdA hF.rdA).mono ?_;rintro x wN ⟨s1,hfit1,rfl,hO⟩;replace hF:=(hF.call hO (fun _ h=>h)).lessD (D':=coreD (runK 0 (newK c prog m)) s1) (fun d hd=>List.mem_append_left _ hd);clear hO)|(refine zg173 ?_;clear hF;(first|intro gN wN hF|intro wN hF|intro hF))|(have hz:=hfit1;clear hz;refine w_alloc (ty:=42) (cs:=zeroCore) rfl hF ?_;clear hF;intro gX wN hF)|(refine zg160 ?_;clear hF;intro gR wN hF)|refine zg174 ?_))
 obtain ⟨k0,hk0⟩:∃ k0,newK c prog m=k0:=⟨_,rfl⟩
 rw [hk0] at hF hfit1 HI
 replace hk0:=Lib.hid hk0
 clear HN
 go_loopw [16] (fun i wr=>∃ j:Nat,j≤N.toNat∧i = .int .i64 (j:Int) ∧ ∃ s,FitC (runK j k0) s∧St w [rowD 1 Al c.lat.length cl (i64s c.lat),rowD 1 At c.tape.length ct (u32v c.tape),rowD 1 Ap prog.length cp (u32v prog),codesD] wr [.blk gX 42 (mcells (runK j k0) s),.blk gR 42 zeroCore,.blk gN 25 (cfC c Al cl At ct)] (coreD (runK j k0) s)) (fun i _=>N.toNat - (intOf i).toNat)
 case atStart=>exact ⟨0,by omega,rfl,s1,hfit1,hF⟩
 case round=>
  clear hF hfit1
  obtain ⟨j,hj,rfl,s,hfit,hF⟩:=hrel
  by_cases hjn:(j:Int)<N
  ·have hI:=HI.out j (by omega)
   go_wp2_with ((try simp only [zA,Nat.reduceAdd]);(first|go_big_skip|(go_at_call 9;refine (step_call hI (by omega) hfit hF).mono ?_;rintro x wN ⟨s2,hfit2,rfl,hF2⟩;clear hF;have hF:=hF2;clear hF2)|refine zg175 ?_|(refine zg176 ?_;clear hF;intro wN hF)))
   exact z49x0
  ·have hjN:j=N.toNat:=by omega
   replace hjN:=Lib.hid hjN
   go_wp2_with ((try simp only [zA,Nat.reduceAdd]);(first|go_big_skip|refine zg175 ?_|(refine zg177 ?_;clear hF;intro wN hF)))
   ((try simp only [Exit.inBlock,Exit.then]);refine bodyPost_ret (w_resc rfl hF) rfl ?_)
   rw [← hjN.out,hk0.out]
   exact StepPost.mk s hfit rfl (hF.out (fun d h=>h))
def zcf : Cf:=⟨0,0,0,0,0,0,0,0,[],false,[]⟩
def aliveK : Kern:=runK 20 (newK zcf [1048691] ⟨#[]⟩)
theorem alive_halt : aliveK.halt=7:=by decide +kernel
theorem alive_len : aliveK.retired.length=1:=by decide +kernel
theorem topAlive_any (w:World) (hcd:Rd w w.heap.size 1 (some ⟨0,0,none⟩) 49 49 (u32v codesL)):Calls Tryz.prog 15 #[] w fun x w'=>x = .returned (.bool true)∧Bel w w':=by
 have hF:=St.start w [codesD] (fun d hd=>by obtain rfl:=List.mem_singleton.1 hd;exact hcd)
 have ah:∀ {s1:Sls},(mcells aliveK s1)[62]?=some (.int .i64 7):=fun {s1}=>by
  show some (Value.int .i64 aliveK.halt)=_
  rw [alive_halt]
 have ar:∀ s1:Sls,(mcells aliveK s1)[63]?=some (.slice s1.reA 1 s1.reC):=fun s1=>by
  show some (Value.slice s1.reA aliveK.retired.length s1.reC)=_
  rw [alive_len]
 go_enter Tryz.func15,Tryz.ntmps15
 go_wp2_with ((try simp only [zA,Nat.reduceAdd]);(first|go_big_skip|refine zg178 ?_|(refine w_bs1 rfl hF rfl ?_;clear hF;intro gP wN hF;obtain ⟨Af,cf,hfz,hF2⟩:=hF.freeze 0 at0;injection hfz with hfz1 _ hfz2;subst hfz1 hfz2;clear hF;have hF:St w [codesD] wN [] (rowD 1 none 0 0 (i64s [])::rowD 1 (some ⟨gP,0,none⟩) 1 1 (u32v [1048691])::[codesD]):=St.nilZ hF2 1;clear hF2)|(go_at_call 21;refine (coreRun_any zcf none 0 none 0 [1048691] (some ⟨gP,0,none⟩) 1 ⟨#[]⟩ 20 _ hF.rdA hF.rdA hF.rdA hF.rdA (by decide) (by intro x hx;cases hx) (by decide)).mono ?_;rintro x wN ⟨s1,hfit1,rfl,hO⟩;replace hF:=(hF.call hO (by (repeat (refine subn_cons ?_ ?_;focus (exact zdm)));exact subn_nil)).lessD (D':=coreD aliveK s1) (fun d hd=>List.mem_append_left _ hd);clear hO)|(refine zg160 ?_;clear hF;intro gX wN hF)|(refine zg179 ?_;clear hF;intro wN hF)))
 go_ret
 exact ⟨rfl,hF.bel⟩
end
section
open Go.RowKit Wd
theorem inR_run {k:Kern} (h:InR k):∀ j,InR (runK j k)
 | 0=>h
 | j+1=>by rw [runK_succ];exact (inR_run h j).step
theorem mreg_at {k:Kern} {s:Sls} {r:Nat} (hr:r<32):(mcells k s)[13+r]?=some (.int .u32 ((k.regs[r]?.getD 0:Nat):Int)):=by
 match r,hr with
 | 0,_=>rfl
 | 1,_=>rfl
 | 2,_=>rfl
 | 3,_=>rfl
 | 4,_=>rfl
 | 5,_=>rfl
 | 6,_=>rfl
 | 7,_=>rfl
 | 8,_=>rfl
 | 9,_=>rfl
 | 10,_=>rfl
 | 11,_=>rfl
 | 12,_=>rfl
 | 13,_=>rfl
 | 14,_=>rfl
 | 15,_=>rfl
 | 16,_=>rfl
 | 17,_=>rfl
 | 18,_=>rfl
 | 19,_=>rfl
 | 20,_=>rfl
 | 21,_=>rfl
 | 22,_=>rfl
 | 23,_=>rfl
 | 24,_=>rfl
 | 25,_=>rfl
 | 26,_=>rfl
 | 27,_=>rfl
 | 28,_=>rfl
 | 29,_=>rfl
 | 30,_=>rfl
 | 31,_=>rfl
 | n+32,h=>exact absurd h (by omega)
section
variable {P:Program} {ops:Array Oper} {rest:List Oper} {o:Oper} {a:Act} {Q:Exit→Act→World→Prop} {w:World}
theorem w_ixAr {t e:TypeId} {x ix:Operand} {g off n k:Nat} {ki:IntKind} (ho:o.op = .indexAddr t x ix) (hx:look a x=some (.pointer (some ⟨g,off,none⟩))) (hk:look a ix=some (.int ki (k:Int)))
  (ht:P.underlying t=some (.array n e)) (hs:(P.info? e).map (·.size)=some 1) (h:wpList P ops Q rest (a.put o.dst (.pointer (some ⟨g,off+k,none⟩))) w) (hkn:k<n:=by omega) (hw:Region.wanted o (yielded ops a.tmps)=true:=by rfl):wpList P ops Q (o::rest) a w:=by
 replace hx:=look_eval hx
 replace hk:=look_eval hk
 refine wpList_wanted hw fun K hK=>?_
 have hsz:(sizeOf e).run P w = .ok 1 w:=by
  cases hq:P.info? e with
  | none=>simp [hq] at hs
  | some i=>
   simp only [hq,Option.map_some,Option.some.injEq] at hs
   simp [sizeOf,typeInfo,hq,hs]
 have hrun:(Instr.indexAt t (.pointer (some ⟨g,off,none⟩)) (.int ki (k:Int))).run P w = .ok (.pointer (some ⟨g,off+k,none⟩)) w:=by
  simp [Instr.indexAt,run_underlying ht,Instr.sureAddr,asIntOf,hsz,Addr.add,show (k:Int)<(n:Int) by omega]
  rw [if_pos hkn]
  by_cases h0:k=0
  ·simp [h0]
  ·simp [h0]
 unfold Oper.wp execOp
 simp only [ho,hx,hk,hrun,Sem.run_bind,Sem.run_pure,Result.andThen_ok]
 exact hK _ _ h
end
theorem TopSources_any (c:Cf) (Al:Option Addr) (cl:Nat) (At:Option Addr) (ct:Nat) (A:Option Addr) (n cp:Nat) (l:List Nat) (m:ByteArray) (a:Int) (w:World) (hl:Rd w w.heap.size 1 Al c.lat.length cl (i64s c.lat)) (ht:Rd w w.heap.size 1 At c.tape.length ct (u32v c.tape)) (hci:CfIn c)
  (hp:Rd w w.heap.size 1 A n cp (u32v l)) (hpp:∀ z∈l,z<4294967296) (hm:m.size≤maxLen) (ha : -9223372036854775808≤a∧a≤9223372036854775807) (hcd:Rd w w.heap.size 1 (some ⟨0,0,none⟩) 49 49 (u32v codesL)) :
  Calls Tryz.prog 4 #[.agg (cfC c Al cl At ct).toArray,.slice A n cp,.string m,.int .i64 a] w fun e w'=>e = .returned (.bool true)∧Bel w w':=by
 have hF:=St.start w [rowD 1 Al c.lat.length cl (i64s c.lat),rowD 1 At c.tape.length ct (u32v c.tape),rowD 1 A n cp (u32v l),codesD] (fun d hd=>by
  rcases List.mem_cons.1 hd with rfl|hd
  ·exact hl
  ·rcases List.mem_cons.1 hd with rfl|hd
   ·exact ht
   ·rcases List.mem_cons.1 hd with rfl|hd
    ·exact hp
    ·obtain rfl:=List.mem_singleton.1 hd;exact hcd)
 have hln:l.length=n:=by have:=hp.len;rwa [u32v_len,Nat.mul_one] at this
 unfold maxLen at hm
 have HSh:=fun (W:World) (h:Rd W W.heap.size 1 A n cp (u32v l))=>topShort_any A n cp l m W h hm
 obtain ⟨m2,hm2,hm3⟩:∃ m2:ByteArray,m.extract 0 (min m.size 300)=m2∧m2.size≤300:=⟨_,rfl,by rw [ByteArray.size_extract];omega⟩
 obtain ⟨N1,hN1⟩:∃ N1,min n 64=N1:=⟨_,rfl⟩
 have hN1l:N1=(l.take 64).length:=by rw [List.length_take,hln];omega
 rw [hm2,hN1] at HSh
 replace HSh:=Lib.hid HSh
 obtain ⟨k0,hk0⟩:∃ k0,newK c (l.take 64) m2=k0:=⟨_,rfl⟩
 have HN:Hid (∀ (W:World),Rd W W.heap.size 1 Al c.lat.length cl (i64s c.lat)→Rd W W.heap.size 1 At c.tape.length ct (u32v c.tape)→Rd W W.heap.size 1 A N1 cp (u32v (l.take 64))→Rd W W.heap.size 1 (some ⟨0,0,none⟩) 49 49 (u32v codesL) →
   Calls Tryz.prog 8 #[.agg (cfC c Al cl At ct).toArray,.slice A N1 cp,.string m2] W (StepPost W [rowD 1 Al c.lat.length cl (i64s c.lat),rowD 1 At c.tape.length ct (u32v c.tape),rowD 1 A N1 cp (u32v (l.take 64)),codesD] k0)):=Lib.hid (fun W h1 h2 h3 h4=>by
  rw [hN1l] at h3 ⊢
  rw [← hk0]
  exact coreNew_any c Al cl At ct (l.take 64) A cp m2 W h1 h2 h3 h4 (by omega))
 have HI:=Lib.hid (fun j hj=>hk0 ▸ runI_new (c:=c) (prog:=l.take 64) (m:=m2) hci.tape (fun x hx=>hpp x (List.mem_of_mem_take hx)) j hj)
 have HR:=Lib.hid (fun j=>inR_run (hk0 ▸ newK_in c (l.take 64) m2) j)
 have hF:=hF.toPart (N:=N1) (sz:=1) (A:=A) (n:=n) (c:=cp) (xs:=u32v l) zdm (by omega)
 have hT:(u32v l).take (N1 * 1)=u32v (l.take 64):=by
  rw [Nat.mul_one,u32v_take]
  congr 1
  rw [hN1l,List.length_take,← List.take_eq_take_min]
 rw [hT] at hF
 obtain ⟨X,hX⟩:∃ X:Int,Hid (X=if (0:Int) > a then 0 else a):=⟨_,Lib.hid rfl⟩
 obtain ⟨N,hN⟩:∃ N:Int,Hid (N=if (200:Int)<X then 200 else X):=⟨_,Lib.hid rfl⟩
 have hN2:0≤N∧N≤200:=by
  have h1:=hX.out
  have h2:=hN.out
  split at h1 <;> split at h2 <;> omega
 clear hl ht hci hp hpp hcd hm2 hm3 hN1 hN1l hk0 hT hln hm
 go_enter Tryz.func4,Tryz.ntmps4
 go_wp2_with ((try simp only [zA,Nat.reduceAdd]);(first|go_big_skip|(refine zg180 ?_;clear hF;(first|intro gN wN hF|intro wN hF|intro hF))|(go_at_call 8;refine (HN.out _ hF.rdA hF.rdA hF.rdA hF.rdA).mono ?_;rintro x wN ⟨s1,hfit1,rfl,hO⟩;replace hF:=(hF.call hO (by (repeat (refine subn_cons ?_ ?_;focus (exact zdm)));exact subn_nil)).lessD (D':=coreD (runK 0 k0) s1) (fun d hd=>List.mem_append_left _ hd);clear hO)|(refine zg160 ?_;clear hF;intro gX wN hF)|refine zg181 ?_))
 clear HN HSh hX hN
 go_loopw [28] (fun i wr=>∃ j:Nat,j≤N.toNat∧i = .int .i64 (j:Int) ∧ ∃ s,FitC (runK j k0) s∧St w [rowD 1 Al c.lat.length cl (i64s c.lat),rowD 1 At c.tape.length ct (u32v c.tape),rowD 1 A n cp (u32v l),codesD] wr [.blk gX 42 (mcells (runK j k0) s),.blk gN 25 (cfC c Al cl At ct)] (coreD (runK j k0) s)) (fun i _=>N.toNat - (intOf i).toNat)
 case atStart=>exact ⟨0,by omega,rfl,s1,hfit1,hF⟩
 case round=>
  clear hF hfit1
  obtain ⟨j,hj,rfl,s,hfit,hF⟩:=hrel
  by_cases hjn:(j:Int)<N
  ·have hI:=HI.out j (by omega)
   have hI2:=HI.out (j+1) (by omega)
   have hR:=HR.out (j+1)
   rcases hrob:(runK (j+1) k0).rob with _|⟨e,r⟩
   ·have hb0:=Lib.hid (show decide (((runK (j+1) k0).rob.length:Int)=0)=true by rw [hrob];rfl)
    clear hrob
    go_wp2_with ((try simp only [zA,Nat.reduceAdd]);(first|go_big_skip|(go_at_call 9;refine (step_call hI (by omega) hfit hF).mono ?_;rintro x wN ⟨s2,hfit2,rfl,hF2⟩;clear hF;have hF:=hF2;clear hF2)|refine zg182 ?_|(refine zg176 ?_;clear hF;intro wN hF)))
    exact z49x0
   ·have hb0:=Lib.hid (show decide (((runK (j+1) k0).rob.length:Int)=0)=false by rw [hrob];exact decide_eq_false (by simp;omega))
    have hpos:0<(runK (j+1) k0).rob.length:=by rw [hrob];exact Nat.succ_pos _
    have hu:(runK (j+1) k0).rob[0]?=some e:=by rw [hrob];rfl
    have hins:=hR.rob e (by rw [hrob];exact List.mem_cons_self ..)
    have hbf:=both_first hrob hins hR.zero
    have hrl:=hI2.ok.rlen
    have HBo:=fun (s':Sls) (W:World) (h:Rd W W.heap.size 17 s'.robA (runK (j+1) k0).rob.length s'.robC (ens (runK (j+1) k0).rob))=>show Calls Tryz.prog 16 #[.slice s'.robA (runK (j+1) k0).rob.length s'.robC,regsV (runK (j+1) k0) s',.int .i64 (0:Int)] W _ from by rw [regsV_eq hI2.ok.rlen];exact Both_any s'.robA (runK (j+1) k0).rob.length s'.robC (runK (j+1) k0).rob (runK (j+1) k0).regs 0 W h hI2.ok.rob hI2.ok.rlen hpos
    have HRe:=fun W=>Reads_any e.inst W
    have hens:=ens_inst hu
    rw [hbf] at HBo
    obtain ⟨no,pc,⟨op,rd,rs1,rs2,imm⟩,guess,is,left,value,next,addr,halt,took,known,filled⟩:=e
    obtain ⟨⟨i1,i2⟩,⟨i3,i4⟩⟩:=hins
    dsimp only at i1 i2 i3 i4 HBo HRe hens
    obtain ⟨r1,rfl⟩:=Int.eq_ofNat_of_zero_le i1
    obtain ⟨r2,rfl⟩:=Int.eq_ofNat_of_zero_le i3
    have q1:∀ s':Sls,(mcells (runK (j+1) k0) s')[13+r1]?=some (.int .u32 (((runK (j+1) k0).regs[r1]?.getD 0:Nat):Int)):=fun s'=>mreg_at (by omega)
    have q2:∀ s':Sls,(mcells (runK (j+1) k0) s')[13+r2]?=some (.int .u32 (((runK (j+1) k0).regs[r2]?.getD 0:Nat):Int)):=fun s'=>mreg_at (by omega)
    rw [Int.toNat_natCast,Int.toNat_natCast] at HBo
    generalize (runK (j+1) k0).regs[r1]?.getD 0=v1 at HBo q1
    generalize (runK (j+1) k0).regs[r2]?.getD 0=v2 at HBo q2
    have c1:=Lib.hid (show decide ((r1:Int)<0)=false from decide_eq_false (by omega))
    have c2:=Lib.hid (show decide ((31:Int)<(r1:Int))=false from decide_eq_false (by omega))
    have c3:=Lib.hid (show decide ((r2:Int)<0)=false from decide_eq_false (by omega))
    have c4:=Lib.hid (show decide ((31:Int)<(r2:Int))=false from decide_eq_false (by omega))
    have c5:=Lib.hid (show decide (¬ (v1:Int)=(v1:Int))=false from decide_eq_false (by simp))
    have c6:=Lib.hid (show decide (¬ (v2:Int)=(v2:Int))=false from decide_eq_false (by simp))
    have d1:r1<32:=by omega
    have d2:r2<32:=by omega
    replace HBo:=Lib.hid HBo
    replace HRe:=Lib.hid HRe
    unfold Ins.val at HRe
    clear hrob hbf hrl hR i1 i2 i3 i4
    go_wp2_with ((try simp only [zA,Nat.reduceAdd]);(first|go_big_skip|(go_at_call 9;refine (step_call hI (by omega) hfit hF).mono ?_;rintro x wN ⟨s2,hfit2,rfl,hF2⟩;clear hF;have hF:=hF2;clear hF2)|refine zg183 ?_|(refine zg184 ?_;clear hF;intro wN hF)|(go_at_call 16;refine (HBo.out s2 _ hF.rdA).mono ?_;rintro x wN ⟨rfl,hb⟩;replace hF:=hF.grow hb;clear hb)))
    exact z49x0
  ·have hjN:j=N.toNat:=by omega
   go_wp2_with ((try simp only [zA,Nat.reduceAdd]);(first|go_big_skip|(go_at_call 15;refine (topAlive_any _ hF.rdA).mono ?_;rintro x wN ⟨rfl,hb⟩;replace hF:=hF.grow hb;clear hb)))
   go_ret
   exact ⟨rfl,hF.bel⟩
end
end Go.Proofs.YtgnomadgnciifaaGreatDoor
