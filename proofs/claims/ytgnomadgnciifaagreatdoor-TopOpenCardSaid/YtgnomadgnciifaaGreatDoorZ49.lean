/- . -/
import Derived.Test.YtgnomadgnciifaaGreatDoorZ48
set_option linter.unusedVariables false
set_option linter.unusedSimpArgs false
set_option linter.unusedSectionVars false
set_option maxRecDepth 100000
set_option maxHeartbeats 16000000
namespace Go.Proofs.YtgnomadgnciifaaGreatDoor
theorem h7x {p:Prop} (h:p:=by
 go_roundw
 case rel=>exact ⟨j+1,by omega,by go_num,s2,hfit2,hF⟩
 case measure=>first|(simp [intOf];done)|(simp [intOf];omega)):p:=h
section
open Go.RowKit Wd
theorem b5n : ∀ (n:Nat) (k:Kern),runK (n+1) k=a2z (runK n k)
 | 0,k=>rfl
 | n+1,k=>by
  show runK (n+1) (a2z k)=a2z (runK n (a2z k))
  exact b5n n (a2z k)
structure RunI (k:Kern) (j:Nat):Prop where
 ok:KOk (1+20 * (j:Int)) (runK j k)
 left:AllE (fun e=>okL e.left) (runK j k).rob
theorem RunI.next {k:Kern} {j:Nat} (h:RunI k j) (hj:j<2000):RunI k (j+1):=by
 refine ⟨?_,?_⟩
 ·rw [b5n]
  have:=h.ok.step (by omega)
  have e:(1:Int)+20 * ((j+1:Nat):Int)=1+20 * (j:Int)+20:=by omega
  rw [e]
  exact this
 ·rw [b5n]
  exact h.left.step d7t
theorem c6q {c:Cf} {prog:List Nat} {m:ByteArray} (ht:∀ x∈c.tape,x<4294967296) (hp:∀ x∈prog,x<4294967296):∀ j,j≤2000→RunI (newK c prog m) j
 | 0,_=>⟨h4f ht hp,fun e h=>(by cases h)⟩
 | j+1,hj=>(c6q ht hp j (by omega)).next (by omega)
theorem h7y {w0 w:World} {D0:List Da} {M:List Mu} {k:Kern} {s:Sls} {j:Nat} (hI:RunI k j) (hj:j<2000) (hfit:FitC (runK j k) s) (hF:St w0 D0 w M (a4s (runK j k) s)) :
  Calls Tryz.prog 9 #[.agg (mcells (runK j k) s).toArray] w fun x w'=>∃ s',FitC (runK (j+1) k) s'∧x = .returned (.agg (mcells (runK (j+1) k) s').toArray)∧St w0 D0 w' M (a4s (runK (j+1) k) s'):=by
 refine (f1a hI.ok (by omega) hI.left hfit w (fun d hd=>hF.dat d hd)).mono ?_
 rintro x w' ⟨s',hfit',rfl,hO⟩
 rw [← b5n] at hfit' hO ⊢
 exact ⟨s',hfit',rfl,(hF.call hO (fun _ h=>h)).lessD (fun d hd=>List.mem_append_left _ hd)⟩
theorem h7z (c:Cf) (Al:Option Addr) (cl:Nat) (At:Option Addr) (ct:Nat) (prog:List Nat) (Ap:Option Addr) (cp:Nat) (m:ByteArray) (n:Int) (w:World) (hl:Rd w w.heap.size 1 Al c.lat.length cl (a1i c.lat)) (ht:Rd w w.heap.size 1 At c.tape.length ct (u32v c.tape))
  (hp:Rd w w.heap.size 1 Ap prog.length cp (u32v prog)) (hcd:Rd w w.heap.size 1 (some ⟨0,0,none⟩) 49 49 (u32v codesL)) (hm:m.size≤9223372036854775807) (htt:∀ x∈c.tape,x<4294967296) (hpp:∀ x∈prog,x<4294967296) :
  Calls Tryz.prog 21 #[.agg (cfC c Al cl At ct).toArray,.slice Ap prog.length cp,.string m,.int .i64 n] w (StepPost w [a1a 1 Al c.lat.length cl (a1i c.lat),a1a 1 At c.tape.length ct (u32v c.tape),a1a 1 Ap prog.length cp (u32v prog),a2h] (runK (min n 2000).toNat (newK c prog m))):=by
 have hF:=St.start w [a1a 1 Al c.lat.length cl (a1i c.lat),a1a 1 At c.tape.length ct (u32v c.tape),a1a 1 Ap prog.length cp (u32v prog),a2h] (fun d hd=>by
  rcases List.mem_cons.1 hd with rfl|hd
  ·exact hl
  ·rcases List.mem_cons.1 hd with rfl|hd
   ·exact ht
   ·rcases List.mem_cons.1 hd with rfl|hd
    ·exact hp
    ·obtain rfl:=List.mem_singleton.1 hd;exact hcd)
 have HN:=Lib.hid (fun (W:World) h1 h2 h3 h4=>d9z c Al cl At ct prog Ap cp m W h1 h2 h3 h4 hm)
 have HI:=Lib.hid (fun j hj=>c6q (c:=c) (prog:=prog) (m:=m) htt hpp j hj)
 obtain ⟨N,hN,hNl⟩:∃ N:Int,Hid (N=if (2000:Int)<n then 2000 else n)∧Hid (min n 2000=N):=⟨min n 2000,Lib.hid (by split <;> omega),Lib.hid rfl⟩
 have hN2:N≤2000:=by have:=hN.out;split at this <;> omega
 rw [hNl.out]
 clear hl ht hp hcd htt hpp hNl
 go_enter Tryz.func21,Tryz.ntmps21
 go_wp2_with ((try simp only [zA,Nat.reduceAdd]);(first|go_big_skip|(go_at_call 8;refine (HN.out _ hF.rdA hF.rdA hF.rdA hF.rdA).mono ?_;rintro x wN ⟨s1,hfit1,rfl,hO⟩;replace hF:=(hF.call hO (fun _ h=>h)).lessD (D':=a4s (runK 0 (newK c prog m)) s1) (fun d hd=>List.mem_append_left _ hd);clear hO)|(refine f4w ?_;clear hF;(first|intro gN wN hF|intro wN hF|intro hF))|(have hz:=hfit1;clear hz;refine w_alloc (ty:=42) (cs:=zeroCore) rfl hF ?_;clear hF;intro gX wN hF)|(refine b8f ?_;clear hF;intro gR wN hF)|refine f4x ?_))
 obtain ⟨k0,hk0⟩:∃ k0,newK c prog m=k0:=⟨_,rfl⟩
 rw [hk0] at hF hfit1 HI
 replace hk0:=Lib.hid hk0
 clear HN
 go_loopw [16] (fun i wr=>∃ j:Nat,j≤N.toNat∧i = .int .i64 (j:Int) ∧ ∃ s,FitC (runK j k0) s∧St w [a1a 1 Al c.lat.length cl (a1i c.lat),a1a 1 At c.tape.length ct (u32v c.tape),a1a 1 Ap prog.length cp (u32v prog),a2h] wr [.blk gX 42 (mcells (runK j k0) s),.blk gR 42 zeroCore,.blk gN 25 (cfC c Al cl At ct)] (a4s (runK j k0) s)) (fun i _=>N.toNat - (intOf i).toNat)
 case atStart=>exact ⟨0,by omega,rfl,s1,hfit1,hF⟩
 case round=>
  clear hF hfit1
  obtain ⟨j,hj,rfl,s,hfit,hF⟩:=hrel
  by_cases hjn:(j:Int)<N
  ·have hI:=HI.out j (by omega)
   go_wp2_with ((try simp only [zA,Nat.reduceAdd]);(first|go_big_skip|(go_at_call 9;refine (h7y hI (by omega) hfit hF).mono ?_;rintro x wN ⟨s2,hfit2,rfl,hF2⟩;clear hF;have hF:=hF2;clear hF2)|refine c8h ?_|(refine f4y ?_;clear hF;intro wN hF)))
   exact h7x
  ·have hjN:j=N.toNat:=by omega
   replace hjN:=Lib.hid hjN
   go_wp2_with ((try simp only [zA,Nat.reduceAdd]);(first|go_big_skip|refine c8h ?_|(refine f4z ?_;clear hF;intro wN hF)))
   ((try simp only [Exit.inBlock,Exit.then]);refine bodyPost_ret (a2x rfl hF) rfl ?_)
   rw [← hjN.out,hk0.out]
   exact StepPost.mk s hfit rfl (hF.out (fun d h=>h))
def zcf : Cf:=⟨0,0,0,0,0,0,0,0,[],false,[]⟩
def aliveK : Kern:=runK 20 (newK zcf [1048691] ⟨#[]⟩)
theorem h8a : aliveK.halt=7:=by decide +kernel
theorem h8b : aliveK.retired.length=1:=by decide +kernel
theorem h8c (w:World) (hcd:Rd w w.heap.size 1 (some ⟨0,0,none⟩) 49 49 (u32v codesL)):Calls Tryz.prog 15 #[] w fun x w'=>x = .returned (.bool true)∧Bel w w':=by
 have hF:=St.start w [a2h] (fun d hd=>by obtain rfl:=List.mem_singleton.1 hd;exact hcd)
 have ah:∀ {s1:Sls},(mcells aliveK s1)[62]?=some (.int .i64 7):=fun {s1}=>by
  show some (Value.int .i64 aliveK.halt)=_
  rw [h8a]
 have ar:∀ s1:Sls,(mcells aliveK s1)[63]?=some (.slice s1.reA 1 s1.reC):=fun s1=>by
  show some (Value.slice s1.reA aliveK.retired.length s1.reC)=_
  rw [h8b]
 go_enter Tryz.func15,Tryz.ntmps15
 go_wp2_with ((try simp only [zA,Nat.reduceAdd]);(first|go_big_skip|refine f5a ?_|(refine w_bs1 rfl hF rfl ?_;clear hF;intro gP wN hF;obtain ⟨Af,cf,hfz,hF2⟩:=hF.freeze 0 at0;injection hfz with hfz1 _ hfz2;subst hfz1 hfz2;clear hF;have hF:St w [a2h] wN [] (a1a 1 none 0 0 (a1i [])::a1a 1 (some ⟨gP,0,none⟩) 1 1 (u32v [1048691])::[a2h]):=St.nilZ hF2 1;clear hF2)|(go_at_call 21;refine (h7z zcf none 0 none 0 [1048691] (some ⟨gP,0,none⟩) 1 ⟨#[]⟩ 20 _ hF.rdA hF.rdA hF.rdA hF.rdA (by decide) (by intro x hx;cases hx) (by decide)).mono ?_;rintro x wN ⟨s1,hfit1,rfl,hO⟩;replace hF:=(hF.call hO (by (repeat (refine a1m ?_ ?_;focus (exact zdm)));exact a1f)).lessD (D':=a4s aliveK s1) (fun d hd=>List.mem_append_left _ hd);clear hO)|(refine b8f ?_;clear hF;intro gX wN hF)|(refine f5b ?_;clear hF;intro wN hF)))
 go_ret
 exact ⟨rfl,hF.bel⟩
end
section
open Go.RowKit Wd
section
variable {P:Program} {ops:Array Oper} {rest:List Oper} {o:Oper} {a:Act} {Q:Exit→Act→World→Prop} {w:World}
end
end
end Go.Proofs.YtgnomadgnciifaaGreatDoor
