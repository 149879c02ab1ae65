/- . -/
import Derived.Test.YtgnomadgnciifaaGreatDoorZ45
import Derived.Test.YtgnomadgnciifaaGreatDoorZ43
import Derived.Test.YtgnomadgnciifaaGreatDoorZ46
import Derived.Test.YtgnomadgnciifaaGreatDoorZ40
import Derived.Test.YtgnomadgnciifaaGreatDoorZ31
set_option linter.unusedVariables false
set_option linter.unusedSimpArgs false
set_option linter.unusedSectionVars false
set_option maxRecDepth 100000
set_option maxHeartbeats 16000000
namespace Go.Proofs.YtgnomadgnciifaaGreatDoor
section
open Go.RowKit Wd
theorem h7s : c2a:=fun A n c As ns cs q ss i e w h1 h2 h3 h4 h5 h6 h7 h8=>h5b A n c As ns cs q ss i e w h1 h2 h3 h4 h5 h6 h7 h8
structure FitC (k:Kern) (s:Sls):Prop where
 data:a1j s.dS=k.data
 words:a1j s.wS=k.words
 feO:s.feO=false
 stO:s.stO=false
 reO:s.reO=false
def a4s (k:Kern) (s:Sls):List Da:=a1a 17 s.robA k.rob.length s.robC (ens k.rob)::kD k s
inductive StepPost (w:World) (D1:List Da) (k':Kern) (x:Ending) (w':World):Prop
 | mk (s':Sls) (hfit:FitC k' s') (hx:x = .returned (.agg (mcells k' s').toArray)) (hO:Out w D1 w' (a4s k' s'))
def stageK (k:Kern):Nat→Kern
 | 0=>k
 | 1=>a2k k
 | 2=>a1y (a2k k)
 | 3=>a2w (a1y (a2k k))
 | 4=>a2q (a2w (a1y (a2k k)))
 | 5=>a3c (a2q (a2w (a1y (a2k k))))
 | 6=>a2y (a3c (a2q (a2w (a1y (a2k k)))))
 | _=>a4x (a2y (a3c (a2q (a2w (a1y (a2k k))))))
def c2b (j:Nat):Bool:=decide (j≤5)
def c2c (j:Nat):Bool:=decide (j≤2)
theorem h7t {B:Int} {k:Kern} (h:KOk B k) (h2:B+20≤1000000):∀ j,j≤6→KOk (B+12) (stageK k j):=by
 have h1:=h.ticks (by omega)
 have h3:=h1.works
 have h4:KOk (B+5) (a2w (a1y (a2k k))):=by
  have hw3:=h3.cf.width
  have:=h3.iter 2 (f:=a2s) (fun B k h hb=>h.retire hb) (n:=(a1y (a2k k)).conf.width.toNat) (by omega) (by omega)
  exact this.up (by omega) (by omega)
 have h5:=h4.starts (by omega)
 have h6:KOk (B+9) (a3c (a2q (a2w (a1y (a2k k))))):=by
  have hw5:=h5.cf.width
  unfold a3c
  split
  ·exact h5.up (by omega) (by omega)
  ·exact (h5.iter 1 (f:=a3u) (fun B k h hb=>h.enter hb) (n:=(a2q (a2w (a1y (a2k k)))).conf.width.toNat) (by omega) (by omega)).up (by omega) (by omega)
 have h7:KOk (B+11) (a2y (a3c (a2q (a2w (a1y (a2k k)))))):=by
  have hw6:=h6.cf.width
  unfold a2y
  split
  ·exact h6.up (by omega) (by omega)
  ·exact (h6.iter 1 (f:=a3v) (fun B k h hb=>h.fetch1 hb) (n:=(a3c (a2q (a2w (a1y (a2k k))))).conf.width.toNat) (by omega) (by omega)).up (by omega) (by omega)
 intro j hj
 rcases (show j=0∨j=1∨j=2∨j=3∨j=4∨j=5∨j=6 by omega) with rfl|rfl|rfl|rfl|rfl|rfl|rfl
 ·exact h.up (by omega) (by omega)
 ·exact h1.up (by omega) (by omega)
 ·exact h3.up (by omega) (by omega)
 ·exact h4.up (by omega) (by omega)
 ·exact h5.up (by omega) (by omega)
 ·exact h6.up (by omega) (by omega)
 ·exact h7.up (by omega) (by omega)
def h7u : Nat→Nat
 | 0=>31
 | 1=>32
 | 2=>33
 | 3=>34
 | 4=>35
 | 5=>36
 | _=>37
theorem h7v {w0 w:World} {D0 D:List Da} {M:List Mu} {g:Nat} {k:Kern} {B:Int} (hk:KOk B k) (hB:B+20≤1000000) (hL:AllE (fun e=>okL e.left) k.rob) (j:Nat) (hj:j≤6) (hX:MX w0 D0 D M g (stageK k j) (c2b j) (c2c j) w) :
  Calls Tryz.prog (h7u j) #[.pointer (some ⟨g,0,none⟩)] w fun x w'=>(∃ y,x = .returned y)∧MX w0 D0 D M g (stageK k (j+1)) (c2b (j+1)) (c2c (j+1)) w':=by
 have hok:=h7t hk hB j hj
 rcases (show j=0∨j=1∨j=2∨j=3∨j=4∨j=5∨j=6 by omega) with rfl|rfl|rfl|rfl|rfl|rfl|rfl
 ·exact h6w hok (by omega) hX
 ·exact h6r hok (hL.ticks d7t.toEnC0) hX
 ·exact h7h hok (by omega) hX
 ·exact h7r h7s hok (by omega) hX
 ·exact h6l hok (by omega) hX
 ·exact h7l hok (by omega) hX
 ·exact h6i hok (by omega) hX
end
section
open Go.RowKit Wd
theorem h7w : (madeCells (Value.agg #[.int .u32 0,.int .u32 0]).cells (8 * 2)).toList=sls b7a.slots:=by kernel_rfl
theorem b3v (w:World):Calls Tryz.prog 28 #[] w fun x w'=>∃ A c,x = .returned (.agg #[.slice A 8 c,.int .u32 0,.slice none 0 0])∧Out w [] w' [a1a 2 A 8 c (sls b7a.slots)]:=by
 have hF:=St.start w [] (fun d hd=>by cases hd)
 go_enter Tryz.func28,Tryz.ntmps28
 go_wp2_with ((try simp only [zA,Nat.reduceAdd]);(first|go_big_skip|(refine f4u ?_;clear hF;(first|intro gN wN hF|intro wN hF|intro hF))|refine f4v ?_|(refine a1d ?_;clear hF;intro vN wN hF)))
 ((try simp only [Exit.inBlock,Exit.then]);refine bodyPost_ret (a2x rfl hF) rfl ?_)
 rw [h7w] at hF
 have hF:=hF.freezeB 0 at0 2 8 8 rfl (by decide) (by decide)
 exact ⟨_,_,rfl,hF.outA⟩
theorem d9y (c:Cf):b7g (cleanCf c).sets=(cleanCf c).sets.toNat∧b7h (cleanCf c).ways=(cleanCf c).ways:=by
 have h:=b7n (c5x c)
 have h3:(cleanCf c).sets≠3:=by
  dsimp only [cleanCf]
  split <;> omega
 have h1:=h.sets
 have h2:=h.ways
 unfold b7g b7h
 constructor
 ·repeat' split
  all_goals omega
 ·split <;> omega
structure CNewH (c:Cf) (A:Option Addr) (n c':Nat) (S:List Cs):Prop where
 n:n=(List.replicate (cleanCf c).sets.toNat ([]:List Wy)).length
 S:a1j S=List.replicate (cleanCf c).sets.toNat []
theorem b3w (c:Cf) (prog:List Nat) (m:ByteArray) (Al:Option Addr) (cl:Nat) (At:Option Addr) (ct:Nat) (Ap:Option Addr) (np cp:Nat) (dA:Option Addr) (dn dC:Nat) (dS:List Cs) (wA:Option Addr) (wn wC:Nat) (wS:List Cs) (slA:Option Addr) (slC:Nat)
  (h1:Hid (np=(prog.take 64).length)) (h2:CNewH c dA dn dC dS) (h3:CNewH c wA wn wC wS) :
  Tryz.prog.built 42 [(0,.agg (cfC (cleanCf c) Al cl At ct).toArray),(1,.slice Ap np cp),(8,.int .i64 1),(10,.agg #[.int .i64 (cleanCf c).ways,.slice dA dn dC]),(11,.agg #[.int .i64 (cleanCf c).ways,.slice wA wn wC]),(15,.string ⟨(Me.cleanL m.data.toList).toArray⟩),(16,.agg #[.slice slA 8 slC,.int .u32 0,.slice none 0 0])] =
   some (mcells (newK c prog m) ⟨Al,cl,At,ct,Ap,cp,none,0,none,0,none,0,dA,dC,dS,wA,wC,wS,none,0,slA,slC,none,0,none,0,false,false,false⟩).toArray:=by
 rw [h1.out,h2.n,h3.n]
 kernel_rfl
theorem d9z (c:Cf) (Al:Option Addr) (cl:Nat) (At:Option Addr) (ct:Nat) (prog:List Nat) (Ap:Option Addr) (cp:Nat) (m:ByteArray) (w:World) (hl:Rd w w.heap.size 1 Al c.lat.length cl (a1i c.lat)) (ht:Rd w w.heap.size 1 At c.tape.length ct (u32v c.tape))
  (hp:Rd w w.heap.size 1 Ap prog.length cp (u32v prog)) (hcd:Rd w w.heap.size 1 (some ⟨0,0,none⟩) 49 49 (u32v codesL)) (hm:m.size≤9223372036854775807) :
  Calls Tryz.prog 8 #[.agg (cfC c Al cl At ct).toArray,.slice Ap prog.length cp,.string m] w (StepPost w [a1a 1 Al c.lat.length cl (a1i c.lat),a1a 1 At c.tape.length ct (u32v c.tape),a1a 1 Ap prog.length cp (u32v prog),a2h] (newK c prog m)):=by
 have hF:=St.start w [a1a 1 Al c.lat.length cl (a1i c.lat),a1a 1 At c.tape.length ct (u32v c.tape),a1a 1 Ap prog.length cp (u32v prog),a2h] (fun d hd=>by
  rcases List.mem_cons.1 hd with rfl|hd
  ·exact hl
  ·rcases List.mem_cons.1 hd with rfl|hd
   ·exact ht
   ·rcases List.mem_cons.1 hd with rfl|hd
    ·exact hp
    ·obtain rfl:=List.mem_singleton.1 hd;exact hcd)
 have HC:=Lib.hid (fun (W:World) (h1:Rd W W.heap.size 1 Al c.lat.length cl (a1i c.lat)) (h2:Rd W W.heap.size 1 At c.tape.length ct (u32v c.tape))=>cfClean_any c Al cl At ct W h1 h2)
 obtain ⟨N1,hN1,hl1⟩:∃ N1:Nat,Hid ((N1:Int)=if (64:Int)<(prog.length:Int) then 64 else (prog.length:Int))∧N1=min prog.length 64:=⟨min prog.length 64,Lib.hid (by split <;> omega),rfl⟩
 have hT:prog.take N1=prog.take 64:=by rw [hl1,Nat.min_comm,← List.take_eq_take_min]
 have hN1L:Hid (N1=(prog.take 64).length):=Lib.hid (by rw [List.length_take];omega)
 have HL:=Lib.hid (fun (W:World) (h:Rd W W.heap.size 1 Ap prog.length cp (u32v prog))=>h2q Ap N1 cp (prog.take 64) W (by have:=h.to (N:=N1) (by omega);rw [Nat.mul_one,g1b,hT] at this;exact this) (by omega))
 have hb:=b7n (c5x c)
 have HN:=Lib.hid (fun W=>g6s (cleanCf c).sets (cleanCf c).ways W (by have:=hb.sets;omega) (by have:=hb.ways;omega))
 rw [(d9y c).1,(d9y c).2] at HN
 have HM:=Lib.hid (fun W=>Me.Clean_any m W hm)
 have h64:N1≤cp:=by have:=hp.le;omega
 have hcp:=hp.mx
 unfold maxLen at hcp
 clear hl ht hp hcd hl1 hT
 go_enter Tryz.func8,Tryz.ntmps8
 go_upto_region 2 with ((try simp only [zA,Nat.reduceAdd]);(first|go_big_skip|(go_at_call 24;refine (HC.out _ hF.rdA hF.rdA).mono ?_;rintro x wN ⟨Al1,cl1,At1,ct1,rfl,hO⟩;replace hF:=hF.callA hO;clear hO)|(refine w_box rfl hF rfl ?_;clear hF;(first|intro gN wN hF|intro wN hF|intro hF))|(refine w_alloc rfl hF ?_;clear hF;(first|intro gN wN hF|intro wN hF|intro hF))|(refine w_st (us:=cfC (cleanCf c) Al1 cl1 At1 ct1) rfl hF rfl rfl ?_;clear hF;(first|intro gN wN hF|intro wN hF|intro hF))|refine w_ld rfl hF rfl ?_))
 rename_i K0 hK0
 refine a1n (by kernel_rfl) hF [.blk _ 25 (cfC (cleanCf c) Al1 cl1 At1 ct1)] _ (by ((repeat (first|exact a1f|refine a1m zdm ?_)) <;> exact a1f)) (fun _ h=>h) ?_
 clear hF;intro hF hH
 refine b6w 0 hH ?_
 refine a1c 1 hH ?_
 refine a1c 2 hH ?_
 refine zk3 3 hH ?_
 refine f9y 4 hH ?_
 refine zk4 5 hH ?_
 refine zk1 7 hH ?_
 refine b6w 8 hH ?_
 refine zk1 9 hH ?_
 refine b6w 10 hH ?_
 refine zk1 12 hH ?_
 refine b6w 13 hH ?_
 refine zk1 14 hH ?_
 refine b6w 15 hH ?_
 refine a1c 17 hH ?_
 refine zry 6 (fun K hK=>?_)
 go_wp2_with ((first|(go_at_call 25;refine (HL.out _ hF.rdA).mono ?_;rintro x wN ⟨v1,rfl,hb,ho⟩;replace hF:=hF.pushOwn hb ho;clear hb ho;obtain ⟨Ap1,cp1,hfz,hF2⟩:=hF.freeze 0 at0;subst hfz;clear hF;have hF:=hF2;clear hF2;(try simp only [zF] at hF);(try simp only [zA,Nat.reduceAdd]))|(go_at_call 26;refine (HN.out _).mono ?_;rintro x wN ⟨_,rfl,A3,n3,c3,S3,rfl,hO,hC3⟩;replace hF:=hF.callA hO;clear hO;have hn3:n3=(List.replicate (cleanCf c).sets.toNat ([]:List Wy)).length:=(by rw [← hC3,a3n];exact ((hF.rds (A:=A3) (n:=n3) (c:=c3) (S:=S3)).slen).symm);have hcn:CNewH c A3 n3 c3 S3:=⟨hn3,hC3⟩;clear hn3 hC3;(try simp only [zA,Nat.reduceAdd]))|(go_at_call 27;refine zcg hF (HM.out _) ?_;clear hF;intro wN hF;(try simp only [zA,Nat.reduceAdd]))|(go_at_call 28;refine (b3v _).mono ?_;rintro x wN ⟨A5,c5,rfl,hO⟩;replace hF:=hF.call1A hO;clear hO;(try simp only [zA,Nat.reduceAdd]))|((refine w_build rfl rfl (b3w c prog m _ _ _ _ _ _ _ _ _ _ _ _ _ _ _ _ _ hN1L (by assumption) (by assumption)) ?_);(try simp only [zA,Nat.reduceAdd]))|(refine w_st (us:=mcells (newK c prog m) _) rfl hF rfl rfl ?_ (h1:=fun u hu=>.inl (mcells_one _ _ u hu));clear hF;intro wN hF;(try simp only [zA,Nat.reduceAdd]))))
 have hH:=zx0 hH hF;refine hK.out _ _ hH ?_;clear hK;(try simp only [zA,Nat.reduceAdd])
 refine zry 11 (fun K hK=>?_)
 go_wp2_with ((first|(go_at_call 25;refine (HL.out _ hF.rdA).mono ?_;rintro x wN ⟨v1,rfl,hb,ho⟩;replace hF:=hF.pushOwn hb ho;clear hb ho;obtain ⟨Ap1,cp1,hfz,hF2⟩:=hF.freeze 0 at0;subst hfz;clear hF;have hF:=hF2;clear hF2;(try simp only [zF] at hF);(try simp only [zA,Nat.reduceAdd]))|(go_at_call 26;refine (HN.out _).mono ?_;rintro x wN ⟨_,rfl,A3,n3,c3,S3,rfl,hO,hC3⟩;replace hF:=hF.callA hO;clear hO;have hn3:n3=(List.replicate (cleanCf c).sets.toNat ([]:List Wy)).length:=(by rw [← hC3,a3n];exact ((hF.rds (A:=A3) (n:=n3) (c:=c3) (S:=S3)).slen).symm);have hcn:CNewH c A3 n3 c3 S3:=⟨hn3,hC3⟩;clear hn3 hC3;(try simp only [zA,Nat.reduceAdd]))|(go_at_call 27;refine zcg hF (HM.out _) ?_;clear hF;intro wN hF;(try simp only [zA,Nat.reduceAdd]))|(go_at_call 28;refine (b3v _).mono ?_;rintro x wN ⟨A5,c5,rfl,hO⟩;replace hF:=hF.call1A hO;clear hO;(try simp only [zA,Nat.reduceAdd]))|((refine w_build rfl rfl (b3w c prog m _ _ _ _ _ _ _ _ _ _ _ _ _ _ _ _ _ hN1L (by assumption) (by assumption)) ?_);(try simp only [zA,Nat.reduceAdd]))|(refine w_st (us:=mcells (newK c prog m) _) rfl hF rfl rfl ?_ (h1:=fun u hu=>.inl (mcells_one _ _ u hu));clear hF;intro wN hF;(try simp only [zA,Nat.reduceAdd]))))
 have hH:=zx0 hH hF;refine hK.out _ _ hH ?_;clear hK;(try simp only [zA,Nat.reduceAdd])
 refine zry 16 (fun K hK=>?_)
 go_wp2_with ((first|(go_at_call 25;refine (HL.out _ hF.rdA).mono ?_;rintro x wN ⟨v1,rfl,hb,ho⟩;replace hF:=hF.pushOwn hb ho;clear hb ho;obtain ⟨Ap1,cp1,hfz,hF2⟩:=hF.freeze 0 at0;subst hfz;clear hF;have hF:=hF2;clear hF2;(try simp only [zF] at hF);(try simp only [zA,Nat.reduceAdd]))|(go_at_call 26;refine (HN.out _).mono ?_;rintro x wN ⟨_,rfl,A3,n3,c3,S3,rfl,hO,hC3⟩;replace hF:=hF.callA hO;clear hO;have hn3:n3=(List.replicate (cleanCf c).sets.toNat ([]:List Wy)).length:=(by rw [← hC3,a3n];exact ((hF.rds (A:=A3) (n:=n3) (c:=c3) (S:=S3)).slen).symm);have hcn:CNewH c A3 n3 c3 S3:=⟨hn3,hC3⟩;clear hn3 hC3;(try simp only [zA,Nat.reduceAdd]))|(go_at_call 27;refine zcg hF (HM.out _) ?_;clear hF;intro wN hF;(try simp only [zA,Nat.reduceAdd]))|(go_at_call 28;refine (b3v _).mono ?_;rintro x wN ⟨A5,c5,rfl,hO⟩;replace hF:=hF.call1A hO;clear hO;(try simp only [zA,Nat.reduceAdd]))|((refine w_build rfl rfl (b3w c prog m _ _ _ _ _ _ _ _ _ _ _ _ _ _ _ _ _ hN1L (by assumption) (by assumption)) ?_);(try simp only [zA,Nat.reduceAdd]))|(refine w_st (us:=mcells (newK c prog m) _) rfl hF rfl rfl ?_ (h1:=fun u hu=>.inl (mcells_one _ _ u hu));clear hF;intro wN hF;(try simp only [zA,Nat.reduceAdd]))))
 have hH:=zx0 hH hF;refine hK.out _ _ hH ?_;clear hK;(try simp only [zA,Nat.reduceAdd])
 refine zry 18 (fun K hK=>?_)
 go_wp2_with ((first|(go_at_call 25;refine (HL.out _ hF.rdA).mono ?_;rintro x wN ⟨v1,rfl,hb,ho⟩;replace hF:=hF.pushOwn hb ho;clear hb ho;obtain ⟨Ap1,cp1,hfz,hF2⟩:=hF.freeze 0 at0;subst hfz;clear hF;have hF:=hF2;clear hF2;(try simp only [zF] at hF);(try simp only [zA,Nat.reduceAdd]))|(go_at_call 26;refine (HN.out _).mono ?_;rintro x wN ⟨_,rfl,A3,n3,c3,S3,rfl,hO,hC3⟩;replace hF:=hF.callA hO;clear hO;have hn3:n3=(List.replicate (cleanCf c).sets.toNat ([]:List Wy)).length:=(by rw [← hC3,a3n];exact ((hF.rds (A:=A3) (n:=n3) (c:=c3) (S:=S3)).slen).symm);have hcn:CNewH c A3 n3 c3 S3:=⟨hn3,hC3⟩;clear hn3 hC3;(try simp only [zA,Nat.reduceAdd]))|(go_at_call 27;refine zcg hF (HM.out _) ?_;clear hF;intro wN hF;(try simp only [zA,Nat.reduceAdd]))|(go_at_call 28;refine (b3v _).mono ?_;rintro x wN ⟨A5,c5,rfl,hO⟩;replace hF:=hF.call1A hO;clear hO;(try simp only [zA,Nat.reduceAdd]))|((refine w_build rfl rfl (b3w c prog m _ _ _ _ _ _ _ _ _ _ _ _ _ _ _ _ _ hN1L (by assumption) (by assumption)) ?_);(try simp only [zA,Nat.reduceAdd]))|(refine w_st (us:=mcells (newK c prog m) _) rfl hF rfl rfl ?_ (h1:=fun u hu=>.inl (mcells_one _ _ u hu));clear hF;intro wN hF;(try simp only [zA,Nat.reduceAdd]))))
 have hH:=zx0 hH hF;refine hK.out _ _ hH ?_;clear hK;(try simp only [zA,Nat.reduceAdd])
 refine zry 19 (fun K hK=>?_)
 go_wp2_with ((first|(go_at_call 25;refine (HL.out _ hF.rdA).mono ?_;rintro x wN ⟨v1,rfl,hb,ho⟩;replace hF:=hF.pushOwn hb ho;clear hb ho;obtain ⟨Ap1,cp1,hfz,hF2⟩:=hF.freeze 0 at0;subst hfz;clear hF;have hF:=hF2;clear hF2;(try simp only [zF] at hF);(try simp only [zA,Nat.reduceAdd]))|(go_at_call 26;refine (HN.out _).mono ?_;rintro x wN ⟨_,rfl,A3,n3,c3,S3,rfl,hO,hC3⟩;replace hF:=hF.callA hO;clear hO;have hn3:n3=(List.replicate (cleanCf c).sets.toNat ([]:List Wy)).length:=(by rw [← hC3,a3n];exact ((hF.rds (A:=A3) (n:=n3) (c:=c3) (S:=S3)).slen).symm);have hcn:CNewH c A3 n3 c3 S3:=⟨hn3,hC3⟩;clear hn3 hC3;(try simp only [zA,Nat.reduceAdd]))|(go_at_call 27;refine zcg hF (HM.out _) ?_;clear hF;intro wN hF;(try simp only [zA,Nat.reduceAdd]))|(go_at_call 28;refine (b3v _).mono ?_;rintro x wN ⟨A5,c5,rfl,hO⟩;replace hF:=hF.call1A hO;clear hO;(try simp only [zA,Nat.reduceAdd]))|((refine w_build rfl rfl (b3w c prog m _ _ _ _ _ _ _ _ _ _ _ _ _ _ _ _ _ hN1L (by assumption) (by assumption)) ?_);(try simp only [zA,Nat.reduceAdd]))|(refine w_st (us:=mcells (newK c prog m) _) rfl hF rfl rfl ?_ (h1:=fun u hu=>.inl (mcells_one _ _ u hu));clear hF;intro wN hF;(try simp only [zA,Nat.reduceAdd]))))
 have hH:=zx0 hH hF;refine hK.out _ _ hH ?_;clear hK;(try simp only [zA,Nat.reduceAdd])
 refine zry 20 (fun K hK=>?_)
 go_wp2_with ((first|(go_at_call 25;refine (HL.out _ hF.rdA).mono ?_;rintro x wN ⟨v1,rfl,hb,ho⟩;replace hF:=hF.pushOwn hb ho;clear hb ho;obtain ⟨Ap1,cp1,hfz,hF2⟩:=hF.freeze 0 at0;subst hfz;clear hF;have hF:=hF2;clear hF2;(try simp only [zF] at hF);(try simp only [zA,Nat.reduceAdd]))|(go_at_call 26;refine (HN.out _).mono ?_;rintro x wN ⟨_,rfl,A3,n3,c3,S3,rfl,hO,hC3⟩;replace hF:=hF.callA hO;clear hO;have hn3:n3=(List.replicate (cleanCf c).sets.toNat ([]:List Wy)).length:=(by rw [← hC3,a3n];exact ((hF.rds (A:=A3) (n:=n3) (c:=c3) (S:=S3)).slen).symm);have hcn:CNewH c A3 n3 c3 S3:=⟨hn3,hC3⟩;clear hn3 hC3;(try simp only [zA,Nat.reduceAdd]))|(go_at_call 27;refine zcg hF (HM.out _) ?_;clear hF;intro wN hF;(try simp only [zA,Nat.reduceAdd]))|(go_at_call 28;refine (b3v _).mono ?_;rintro x wN ⟨A5,c5,rfl,hO⟩;replace hF:=hF.call1A hO;clear hO;(try simp only [zA,Nat.reduceAdd]))|((refine w_build rfl rfl (b3w c prog m _ _ _ _ _ _ _ _ _ _ _ _ _ _ _ _ _ hN1L (by assumption) (by assumption)) ?_);(try simp only [zA,Nat.reduceAdd]))|(refine w_st (us:=mcells (newK c prog m) _) rfl hF rfl rfl ?_ (h1:=fun u hu=>.inl (mcells_one _ _ u hu));clear hF;intro wN hF;(try simp only [zA,Nat.reduceAdd]))|((first|refine zrd ?_|(refine zst ?_;clear hF;(first|intro gN wN hF|intro wN hF|intro hF))|(refine zap ?_;clear hF;intro vN wN hF));(try simp only [zA,Nat.reduceAdd]))))
 have hH:=zx0 hH hF;refine hK.out _ _ hH ?_;clear hK;(try simp only [zA,Nat.reduceAdd])
 refine zry 21 (fun K hK=>?_)
 go_wp2_with ((first|(go_at_call 25;refine (HL.out _ hF.rdA).mono ?_;rintro x wN ⟨v1,rfl,hb,ho⟩;replace hF:=hF.pushOwn hb ho;clear hb ho;obtain ⟨Ap1,cp1,hfz,hF2⟩:=hF.freeze 0 at0;subst hfz;clear hF;have hF:=hF2;clear hF2;(try simp only [zF] at hF);(try simp only [zA,Nat.reduceAdd]))|(go_at_call 26;refine (HN.out _).mono ?_;rintro x wN ⟨_,rfl,A3,n3,c3,S3,rfl,hO,hC3⟩;replace hF:=hF.callA hO;clear hO;have hn3:n3=(List.replicate (cleanCf c).sets.toNat ([]:List Wy)).length:=(by rw [← hC3,a3n];exact ((hF.rds (A:=A3) (n:=n3) (c:=c3) (S:=S3)).slen).symm);have hcn:CNewH c A3 n3 c3 S3:=⟨hn3,hC3⟩;clear hn3 hC3;(try simp only [zA,Nat.reduceAdd]))|(go_at_call 27;refine zcg hF (HM.out _) ?_;clear hF;intro wN hF;(try simp only [zA,Nat.reduceAdd]))|(go_at_call 28;refine (b3v _).mono ?_;rintro x wN ⟨A5,c5,rfl,hO⟩;replace hF:=hF.call1A hO;clear hO;(try simp only [zA,Nat.reduceAdd]))|((refine w_build rfl rfl (b3w c prog m _ _ _ _ _ _ _ _ _ _ _ _ _ _ _ _ _ hN1L (by assumption) (by assumption)) ?_);(try simp only [zA,Nat.reduceAdd]))|(refine w_st (us:=mcells (newK c prog m) _) rfl hF rfl rfl ?_ (h1:=fun u hu=>.inl (mcells_one _ _ u hu));clear hF;intro wN hF;(try simp only [zA,Nat.reduceAdd]))|(refine w_st1 rfl hF rfl rfl ?_;clear hF;intro wN hF)|(refine w_st rfl hF rfl rfl ?_;clear hF;intro wN hF)|(refine w_st1o rfl hF rfl rfl ?_;clear hF;intro wN hF));(try simp only [zA,Nat.reduceAdd]))
 have hH:=zx0 hH hF;refine hK.out _ _ hH ?_;clear hK;(try simp only [zA,Nat.reduceAdd])
 refine zrz ?_
 (refine hK0 _ _ ?_;go_wp2;((try simp only [Exit.inBlock,Exit.then]);refine bodyPost_ret (a2x rfl hF) rfl ?_);(have hz:=hN1L.out;clear hN1L;subst hz);(repeat (rename (CNewH c _ _ _ _)=>hz;have hz1:=hz.n;have hz2:=hz.S;clear hz;subst hz1));replace hF:=(((((hF.nilZ 17).nilZ 2).nilZ 4).nilZ 1).nilZ 9);refine StepPost.mk _ ⟨by assumption,by assumption,rfl,rfl,rfl⟩ rfl (hF.out ?_);dsimp only [a4s,kD,newK,a1h,List.length_nil,ens,fes,pus,rqs,sts,List.flatMap_nil,b7a,List.length_replicate];((repeat (refine a1m ?_ ?_;focus (exact zdm)));exact a1f))
end
end Go.Proofs.YtgnomadgnciifaaGreatDoor
