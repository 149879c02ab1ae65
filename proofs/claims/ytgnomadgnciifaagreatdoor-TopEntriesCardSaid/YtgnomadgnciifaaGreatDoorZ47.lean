/- . -/
import Derived.Test.YtgnomadgnciifaaGreatDoorZ45
import Derived.Test.YtgnomadgnciifaaGreatDoorZ43
import Derived.Test.YtgnomadgnciifaaGreatDoorZ46
import Derived.Test.YtgnomadgnciifaaGreatDoorZ40
import Derived.Test.YtgnomadgnciifaaGreatDoorZ31
set_option linter.all false
set_option maxRecDepth 100000
set_option maxHeartbeats 16000000
namespace Go.Proofs.YtgnomadgnciifaaGreatDoor
open Go.Proofs.Tryz
section
open Go.RowKit Wd
def Vq : zY:=λA n c As ns cs q ss i e w h1 h2 h3 h4 h5 Q h7 h8=>RS A n c As ns cs q ss i e w h1 h2 h3 h4 h5 Q h7 h8
structure qZ (k:ak) (s:em):Prop where
 data:aZ s.dS=k.data
 words:aZ s.wS=k.words
 feO:s.feO=false
 stO:s.stO=false
 reO:s.reO=false
def kt (k:ak) (s:em):List Da:=ab 17 s.robA k.rob.length s.robC (ens k.rob)::kD k s
inductive sP (w:World) (D1:List Da) (k':ak) (x:Ending) (w':World):Prop
 | mk (s':em) (i8:qZ k' s') (hx:x = .returned (.agg (ao k' s').toArray)) (C:Out w D1 w' (kt k' s'))
def ow (k:ak):Nat->ak
 | 0=>k
 | 1=>dr k
 | 2=>bQ (dr k)
 | 3=>eA (bQ (dr k))
 | 4=>dJ (eA (bQ (dr k)))
 | 5=>fP (dJ (eA (bQ (dr k))))
 | 6=>fo (fP (dJ (eA (bQ (dr k)))))
 | _=>lu (fo (fP (dJ (eA (bQ (dr k))))))
def A8 (j:Nat):Bool:=decide (j<=5)
def zI (j:Nat):Bool:=decide (j<=2)
def O9 {B k}(h:KOk B k)(h2:B+20<=1000000):∀ j,j<=6->KOk (B+12) (ow k j):=by
 have h1:=h.ticks O;have h3:=h1.works;have h4:KOk (B+5) (eA (bQ (dr k))):=by
  have aD:=h3.cf.width;have:=h3.iter 2 (f:=dw) (λB k h hb=>h.retire hb) (n:=(bQ (dr k)).conf.width.toNat) O O;exact this.up O O
 have h5:=h4.starts O;have Q:KOk (B+9) (fP (dJ (eA (bQ (dr k))))):=by
  have aF:=h5.cf.width;unfold fP;split
  .exact h5.up O O
  .exact (h5.iter 1 (f:=iC) (λB k h hb=>h.enter hb) (n:=(dJ (eA (bQ (dr k)))).conf.width.toNat) O O).up O O
 have h7:KOk (B+11) (fo (fP (dJ (eA (bQ (dr k)))))):=by
  have aH:=Q.cf.width;unfold fo;split
  .exact Q.up O O
  .exact (Q.iter 1 (f:=iX) (λB k h hb=>h.fetch1 hb) (n:=(fP (dJ (eA (bQ (dr k))))).conf.width.toNat) O O).up O O
 intro j hj;rcases (show j=0\/j=1\/j=2\/j=3\/j=4\/j=5\/j=6 by omega) with rfl|rfl|rfl|rfl|rfl|rfl|rfl
 .exact h.up O O
 .exact h1.up O O
 .exact h3.up O O
 .exact h4.up O O
 .exact h5.up O O
 .exact Q.up O O
 .exact h7.up O O
def i6i : Nat->Nat
 | 0=>31
 | 1=>32
 | 2=>33
 | 3=>34
 | 4=>35
 | 5=>36
 | _=>37
def i6j {w0 w:World} {D0 D:List Da} {M:List Mu} {g:Nat} {k:ak} {B:Int} (hk:KOk B k) (hB:B+20<=1000000) (hL:aP (λe=>l9 e.left) k.rob) (j:Nat) (hj:j<=6) (L:MX w0 D0 D M g (ow k j) (A8 j) (zI j) w) :Calls Tryz.prog (i6i j) #[.pointer (some ⟨g,0,none⟩)] w λx w'=>(∃ y,x = .returned y)/\MX w0 D0 D M g (ow k (j+1)) (A8 (j+1)) (zI (j+1)) w':=by
 have j1:=O9 hk hB j hj;rcases (show j=0\/j=1\/j=2\/j=3\/j=4\/j=5\/j=6 by omega) with rfl|rfl|rfl|rfl|rfl|rfl|rfl
 .exact Wc j1 O L
 .exact i5f j1 (hL.ticks Hw.tomV) L
 .exact Tl j1 O L
 .exact i6f Vq j1 O L
 .exact SA j1 O L
 .exact U7 j1 O L
 .exact WJ j1 O L
def Zh : (madeCells (Value.agg #[U 0,U 0]).cells (8 * 2)).toList=eQ wP.slots:=by kernel_rfl
def sv (w):Ca 28 #[] w λx w'=>∃ A c,x = .returned (.agg #[.slice A 8 c,U 0,.slice none 0 0])/\Out w [] w' [ab 2 A 8 c (eQ wP.slots)]:=by
 have E:=St.start w [] zN;go_enter func28,ntmps28;go_wp2_with ((try refine zs ?_);(first|go_big_skip|(refine g4g ?_;clear E;intro Z J E)|refine Pz ?_|(refine aq ?_;clear E;intro vN J E)));((try simp only [Exit.inBlock,Exit.then]);refine bc (eL F E) F ?_);rw [Zh] at E;have E:=E.freezeB 0 aC 2 8 8 F ag ag;exact ⟨_,_,rfl,E.outA⟩
def Qq (A n c l m w)(hr:Rd w w.heap.size 1 A n c (ai l))(hm:m.size<=9223372036854775807):Ca 7 #[.slice A n c,.string m] w (RB w (.tuple #[.slice A (min n 64) c,.string (m.extract 0 (min m.size 300))])):=by
 have E:=St.start w [ab 1 A n c (ai l)] (zC hr zN);have hc1:=hr.le;have aN:=hr.mx;unfold maxLen at aN;obtain ⟨N1,ap,hl1⟩:∃ N1:Nat,Hid ((N1:Int)=if (64:Int)<(n:Int) then 64 else (n:Int))/\N1=min n 64:=⟨min n 64,V ox,rfl⟩;obtain ⟨N3,aI,ad⟩:∃ N3:Nat,Hid ((N3:Int)=if (300:Int)<(m.size:Int) then 300 else (m.size:Int))/\N3=min m.size 300:=⟨min m.size 300,V ox,rfl⟩;have h1:N1<=c:=by omega
 have h3:N3<=m.size:=by omega
 rw [<- hl1,<- ad];clear hl1 ad hr;go_enter func7,ntmps7;go_upto_region 1 with fail;rename_i K0 ac;refine bA aj E [] [] cM cM ?_;clear E;intro E z;refine an 0 z ?_;refine an 1 z ?_;refine jf 2 z ?_;refine EK 3 z ?_;refine rG 4 z ?_;refine an 5 z ?_;refine an 6 z ?_;refine jf 7 z ?_;refine EK 8 z ?_;refine rG 9 z ?_;refine cA 10 z ?_;refine cA 11 z ?_;refine bt ?_
 (skip)
 refine ac _ _ ?_;go_wp2;go_returns;exact ⟨rfl,E.bel⟩
def FW (c):xA (bf c).sets=(bf c).sets.toNat/\xH (bf c).ways=(bf c).ways:=by
 have h:=ru (zw c);have h3:(bf c).sets≠3:=by
  dsimp only [bf];split <;> omega
 have h1:=h.sets;have h2:=h.ways;unfold xA xH;constructor
 .repeat' split
  all_goals omega
 .split <;> omega
structure oL (c:Cf) (A:Option Addr) (n c':Nat) (S:List Cs):Prop where
 n:n=(List.replicate (bf c).sets.toNat ([]:List Wy)).length
 S:aZ S=List.replicate (bf c).sets.toNat []
def sC (c:Cf) (prog:List Nat) (m:ByteArray) (Al:Option Addr) (cl:Nat) (At:Option Addr) (ct:Nat) (Ap:Option Addr) (np cp:Nat) (dA:Option Addr) (dn dC:Nat) (dS:List Cs) (wA:Option Addr) (wn wC:Nat) (wS:List Cs) (slA:Option Addr) (slC:Nat)(h1:Hid (np=(prog.take 64).length)) (h2:oL c dA dn dC dS) (h3:oL c wA wn wC wS) :Tryz.prog.built 42 [(0,.agg (dV (bf c) Al cl At ct).toArray),(1,.slice Ap np cp),(8,I 1),(10,.agg #[I (bf c).ways,.slice dA dn dC]),(11,.agg #[I (bf c).ways,.slice wA wn wC]),(15,.string ⟨(Me.cleanL m.data.toList).toArray⟩),(16,.agg #[.slice slA 8 slC,U 0,.slice none 0 0])] = some (ao (gm c prog m) ⟨Al,cl,At,ct,Ap,cp,none,0,none,0,none,0,dA,dC,dS,wA,wC,wS,none,0,slA,slC,none,0,none,0,false,false,false⟩).toArray:=by
 rw [h1.out,h2.n,h3.n]
 kernel_rfl
def Ik (c:Cf) (Al:Option Addr) (cl:Nat) (At:Option Addr) (ct:Nat) (prog:List Nat) (Ap:Option Addr) (cp:Nat) (m:ByteArray) (w:World) (hl:Rd w w.heap.size 1 Al c.lat.length cl (aE c.lat)) (ht:Rd w w.heap.size 1 At c.tape.length ct (ai c.tape))(hp:Rd w w.heap.size 1 Ap prog.length cp (ai prog)) (al:Rd w w.heap.size 1 (some ⟨0,0,none⟩) 49 49 (ai ci)) (hm:m.size<=9223372036854775807) :Ca 8 #[.agg (dV c Al cl At ct).toArray,.slice Ap prog.length cp,.string m] w (sP w [ab 1 Al c.lat.length cl (aE c.lat),ab 1 At c.tape.length ct (ai c.tape),ab 1 Ap prog.length cp (ai prog),eG] (gm c prog m)):=by
 have E:=St.start w [ab 1 Al c.lat.length cl (aE c.lat),ab 1 At c.tape.length ct (ai c.tape),ab 1 Ap prog.length cp (ai prog),eG] (zC hl (zC ht (zC hp (zC al zN))));have HC:=V (λ(W:World) (h1:Rd W W.heap.size 1 Al c.lat.length cl (aE c.lat)) (h2:Rd W W.heap.size 1 At c.tape.length ct (ai c.tape))=>Bf c Al cl At ct W h1 h2);obtain ⟨N1,ap,hl1⟩:∃ N1:Nat,Hid ((N1:Int)=if (64:Int)<(prog.length:Int) then 64 else (prog.length:Int))/\N1=min prog.length 64:=⟨min prog.length 64,V ox,rfl⟩;have hT:prog.take N1=prog.take 64:=by rw [hl1,Nat.min_comm,<- List.take_eq_take_min]
 have hN1L:Hid (N1=(prog.take 64).length):=V sS;have HL:=V (λ(W:World) (h:Rd W W.heap.size 1 Ap prog.length cp (ai prog))=>V2 Ap N1 cp (prog.take 64) W (by have:=h.to (N:=N1) O;rw [dP,Gw,hT] at this;exact this) O);have hb:=ru (zw c);have HN:=V (λW=>h5v (bf c).sets (bf c).ways W (by have:=hb.sets;omega) (by have:=hb.ways;omega));rw [(FW c).1,(FW c).2] at HN;have HM:=V (λW=>Me.Clean_any m W hm);have aR:N1<=cp:=by have:=hp.le;omega
 have av:=hp.mx;unfold maxLen at av;clear hl ht hp al hl1 hT;go_enter func8,ntmps8;go_upto_region 2 with ((try refine zs ?_);(first|go_big_skip|(go_at_call 24;refine (HC.out _ E.rdA E.rdA).mono ?_;rintro x J ⟨Al1,cl1,At1,ct1,rfl,C⟩;replace E:=E.callA C;clear C)|(refine gj F E F ?_;clear E;intro Z J E)|(refine bK F E ?_;clear E;intro Z J E)|(refine aW (us:=dV (bf c) Al1 cl1 At1 ct1) F E F F ?_;clear E;intro J E)|refine cV F E F ?_));rename_i K0 ac;refine bA aj E [.blk _ 25 (dV (bf c) Al1 cl1 At1 ct1)] _ cM (λ_ h=>h) ?_;clear E;intro E z;refine xb 0 z ?_;refine an 1 z ?_;refine an 2 z ?_;refine jf 3 z ?_;refine EK 4 z ?_;refine rG 5 z ?_;refine az 7 z ?_;refine xb 8 z ?_;refine az 9 z ?_;refine xb 10 z ?_;refine az 12 z ?_;refine xb 13 z ?_;refine az 14 z ?_;refine xb 15 z ?_;refine an 17 z ?_;refine aB 6 (λK X=>?_);go_wp2_with ((first|(go_at_call 25;refine (HL.out _ E.rdA).mono ?_;rintro x J ⟨v1,rfl,hb,ho⟩;replace E:=E.pushOwn hb ho;clear hb ho;obtain ⟨Ap1,cp1,io,ic⟩:=E.freeze 0 aC;subst io;clear E;have E:=ic;clear ic;(try simp only [zF] at E);refine zs ?_)|(go_at_call 26;refine (HN.out _).mono ?_;rintro x J ⟨_,rfl,A3,n3,c3,S3,rfl,C,G⟩;replace E:=E.callA C;clear C;have H:n3=(List.replicate (bf c).sets.toNat ([]:List Wy)).length:=(by rw [<- G,jN];exact ((E.rds (A:=A3) (n:=n3) (c:=c3) (S:=S3)).slen).symm);have R:oL c A3 n3 c3 S3:=⟨H,G⟩;clear H G;(try refine zs ?_))|(go_at_call 27;refine aG E (HM.out _) ?_;clear E;intro J E;(try refine zs ?_))|(go_at_call 28;refine (sv _).mono ?_;rintro x J ⟨A5,c5,rfl,C⟩;replace E:=E.call1A C;clear C;(try refine zs ?_))|((refine nN F F (sC c prog m _ _ _ _ _ _ _ _ _ _ _ _ _ _ _ _ _ hN1L bI bI) ?_);refine zs ?_)|(refine aW (us:=ao (gm c prog m) _) F E F F ?_ (h1:=λu hu=>.inl (ku _ _ u hu));clear E;intro J E;(try refine zs ?_))));have z:=aO z E;refine X.out _ _ z ?_;clear X;refine zs ?_;refine aB 11 (λK X=>?_);go_wp2_with ((first|(go_at_call 25;refine (HL.out _ E.rdA).mono ?_;rintro x J ⟨v1,rfl,hb,ho⟩;replace E:=E.pushOwn hb ho;clear hb ho;obtain ⟨Ap1,cp1,io,ic⟩:=E.freeze 0 aC;subst io;clear E;have E:=ic;clear ic;(try simp only [zF] at E);refine zs ?_)|(go_at_call 26;refine (HN.out _).mono ?_;rintro x J ⟨_,rfl,A3,n3,c3,S3,rfl,C,G⟩;replace E:=E.callA C;clear C;have H:n3=(List.replicate (bf c).sets.toNat ([]:List Wy)).length:=(by rw [<- G,jN];exact ((E.rds (A:=A3) (n:=n3) (c:=c3) (S:=S3)).slen).symm);have R:oL c A3 n3 c3 S3:=⟨H,G⟩;clear H G;(try refine zs ?_))|(go_at_call 27;refine aG E (HM.out _) ?_;clear E;intro J E;(try refine zs ?_))|(go_at_call 28;refine (sv _).mono ?_;rintro x J ⟨A5,c5,rfl,C⟩;replace E:=E.call1A C;clear C;(try refine zs ?_))|((refine nN F F (sC c prog m _ _ _ _ _ _ _ _ _ _ _ _ _ _ _ _ _ hN1L bI bI) ?_);refine zs ?_)|(refine aW (us:=ao (gm c prog m) _) F E F F ?_ (h1:=λu hu=>.inl (ku _ _ u hu));clear E;intro J E;(try refine zs ?_))));have z:=aO z E;refine X.out _ _ z ?_;clear X;refine zs ?_;refine aB 16 (λK X=>?_);go_wp2_with ((first|(go_at_call 25;refine (HL.out _ E.rdA).mono ?_;rintro x J ⟨v1,rfl,hb,ho⟩;replace E:=E.pushOwn hb ho;clear hb ho;obtain ⟨Ap1,cp1,io,ic⟩:=E.freeze 0 aC;subst io;clear E;have E:=ic;clear ic;(try simp only [zF] at E);refine zs ?_)|(go_at_call 26;refine (HN.out _).mono ?_;rintro x J ⟨_,rfl,A3,n3,c3,S3,rfl,C,G⟩;replace E:=E.callA C;clear C;have H:n3=(List.replicate (bf c).sets.toNat ([]:List Wy)).length:=(by rw [<- G,jN];exact ((E.rds (A:=A3) (n:=n3) (c:=c3) (S:=S3)).slen).symm);have R:oL c A3 n3 c3 S3:=⟨H,G⟩;clear H G;(try refine zs ?_))|(go_at_call 27;refine aG E (HM.out _) ?_;clear E;intro J E;(try refine zs ?_))|(go_at_call 28;refine (sv _).mono ?_;rintro x J ⟨A5,c5,rfl,C⟩;replace E:=E.call1A C;clear C;(try refine zs ?_))|((refine nN F F (sC c prog m _ _ _ _ _ _ _ _ _ _ _ _ _ _ _ _ _ hN1L bI bI) ?_);refine zs ?_)|(refine aW (us:=ao (gm c prog m) _) F E F F ?_ (h1:=λu hu=>.inl (ku _ _ u hu));clear E;intro J E;(try refine zs ?_))));have z:=aO z E;refine X.out _ _ z ?_;clear X;refine zs ?_;refine aB 18 (λK X=>?_);go_wp2_with ((first|(go_at_call 25;refine (HL.out _ E.rdA).mono ?_;rintro x J ⟨v1,rfl,hb,ho⟩;replace E:=E.pushOwn hb ho;clear hb ho;obtain ⟨Ap1,cp1,io,ic⟩:=E.freeze 0 aC;subst io;clear E;have E:=ic;clear ic;(try simp only [zF] at E);refine zs ?_)|(go_at_call 26;refine (HN.out _).mono ?_;rintro x J ⟨_,rfl,A3,n3,c3,S3,rfl,C,G⟩;replace E:=E.callA C;clear C;have H:n3=(List.replicate (bf c).sets.toNat ([]:List Wy)).length:=(by rw [<- G,jN];exact ((E.rds (A:=A3) (n:=n3) (c:=c3) (S:=S3)).slen).symm);have R:oL c A3 n3 c3 S3:=⟨H,G⟩;clear H G;(try refine zs ?_))|(go_at_call 27;refine aG E (HM.out _) ?_;clear E;intro J E;(try refine zs ?_))|(go_at_call 28;refine (sv _).mono ?_;rintro x J ⟨A5,c5,rfl,C⟩;replace E:=E.call1A C;clear C;(try refine zs ?_))|((refine nN F F (sC c prog m _ _ _ _ _ _ _ _ _ _ _ _ _ _ _ _ _ hN1L bI bI) ?_);refine zs ?_)|(refine aW (us:=ao (gm c prog m) _) F E F F ?_ (h1:=λu hu=>.inl (ku _ _ u hu));clear E;intro J E;(try refine zs ?_))));have z:=aO z E;refine X.out _ _ z ?_;clear X;refine zs ?_;refine aB 19 (λK X=>?_);go_wp2_with ((first|(go_at_call 25;refine (HL.out _ E.rdA).mono ?_;rintro x J ⟨v1,rfl,hb,ho⟩;replace E:=E.pushOwn hb ho;clear hb ho;obtain ⟨Ap1,cp1,io,ic⟩:=E.freeze 0 aC;subst io;clear E;have E:=ic;clear ic;(try simp only [zF] at E);refine zs ?_)|(go_at_call 26;refine (HN.out _).mono ?_;rintro x J ⟨_,rfl,A3,n3,c3,S3,rfl,C,G⟩;replace E:=E.callA C;clear C;have H:n3=(List.replicate (bf c).sets.toNat ([]:List Wy)).length:=(by rw [<- G,jN];exact ((E.rds (A:=A3) (n:=n3) (c:=c3) (S:=S3)).slen).symm);have R:oL c A3 n3 c3 S3:=⟨H,G⟩;clear H G;(try refine zs ?_))|(go_at_call 27;refine aG E (HM.out _) ?_;clear E;intro J E;(try refine zs ?_))|(go_at_call 28;refine (sv _).mono ?_;rintro x J ⟨A5,c5,rfl,C⟩;replace E:=E.call1A C;clear C;(try refine zs ?_))|((refine nN F F (sC c prog m _ _ _ _ _ _ _ _ _ _ _ _ _ _ _ _ _ hN1L bI bI) ?_);refine zs ?_)|(refine aW (us:=ao (gm c prog m) _) F E F F ?_ (h1:=λu hu=>.inl (ku _ _ u hu));clear E;intro J E;(try refine zs ?_))));have z:=aO z E;refine X.out _ _ z ?_;clear X;refine zs ?_;refine aB 20 (λK X=>?_);go_wp2_with ((first|(go_at_call 25;refine (HL.out _ E.rdA).mono ?_;rintro x J ⟨v1,rfl,hb,ho⟩;replace E:=E.pushOwn hb ho;clear hb ho;obtain ⟨Ap1,cp1,io,ic⟩:=E.freeze 0 aC;subst io;clear E;have E:=ic;clear ic;(try simp only [zF] at E);refine zs ?_)|(go_at_call 26;refine (HN.out _).mono ?_;rintro x J ⟨_,rfl,A3,n3,c3,S3,rfl,C,G⟩;replace E:=E.callA C;clear C;have H:n3=(List.replicate (bf c).sets.toNat ([]:List Wy)).length:=(by rw [<- G,jN];exact ((E.rds (A:=A3) (n:=n3) (c:=c3) (S:=S3)).slen).symm);have R:oL c A3 n3 c3 S3:=⟨H,G⟩;clear H G;(try refine zs ?_))|(go_at_call 27;refine aG E (HM.out _) ?_;clear E;intro J E;(try refine zs ?_))|(go_at_call 28;refine (sv _).mono ?_;rintro x J ⟨A5,c5,rfl,C⟩;replace E:=E.call1A C;clear C;(try refine zs ?_))|((refine nN F F (sC c prog m _ _ _ _ _ _ _ _ _ _ _ _ _ _ _ _ _ hN1L bI bI) ?_);refine zs ?_)|(refine aW (us:=ao (gm c prog m) _) F E F F ?_ (h1:=λu hu=>.inl (ku _ _ u hu));clear E;intro J E;(try refine zs ?_))|((first|refine aA ?_|(refine am ?_;clear E;intro Z J E));refine zs ?_)));have z:=aO z E;refine X.out _ _ z ?_;clear X;refine zs ?_;refine aB 21 (λK X=>?_);go_wp2_with ((first|(go_at_call 25;refine (HL.out _ E.rdA).mono ?_;rintro x J ⟨v1,rfl,hb,ho⟩;replace E:=E.pushOwn hb ho;clear hb ho;obtain ⟨Ap1,cp1,io,ic⟩:=E.freeze 0 aC;subst io;clear E;have E:=ic;clear ic;(try simp only [zF] at E);refine zs ?_)|(go_at_call 26;refine (HN.out _).mono ?_;rintro x J ⟨_,rfl,A3,n3,c3,S3,rfl,C,G⟩;replace E:=E.callA C;clear C;have H:n3=(List.replicate (bf c).sets.toNat ([]:List Wy)).length:=(by rw [<- G,jN];exact ((E.rds (A:=A3) (n:=n3) (c:=c3) (S:=S3)).slen).symm);have R:oL c A3 n3 c3 S3:=⟨H,G⟩;clear H G;(try refine zs ?_))|(go_at_call 27;refine aG E (HM.out _) ?_;clear E;intro J E;(try refine zs ?_))|(go_at_call 28;refine (sv _).mono ?_;rintro x J ⟨A5,c5,rfl,C⟩;replace E:=E.call1A C;clear C;(try refine zs ?_))|((refine nN F F (sC c prog m _ _ _ _ _ _ _ _ _ _ _ _ _ _ _ _ _ hN1L bI bI) ?_);refine zs ?_)|(refine aW (us:=ao (gm c prog m) _) F E F F ?_ (h1:=λu hu=>.inl (ku _ _ u hu));clear E;intro J E;(try refine zs ?_))|(refine bz F E F F ?_;clear E;intro J E)|(refine aW F E F F ?_;clear E;intro J E)|(refine ju F E F F ?_;clear E;intro J E));refine zs ?_);have z:=aO z E;refine X.out _ _ z ?_;clear X;refine zs ?_;refine bt ?_;(refine ac _ _ ?_;go_wp2;((try simp only [Exit.inBlock,Exit.then]);refine bc (eL F E) F ?_);(have hz:=hN1L.out;clear hN1L;subst hz);(repeat (rename (oL c _ _ _ _)=>hz;have aw:=hz.n;have pe:=hz.S;clear hz;subst aw));replace E:=(((((E.nilZ 17).nilZ 2).nilZ 4).nilZ 1).nilZ 9);refine sP.mk _ ⟨by assumption,by assumption,rfl,rfl,rfl⟩ F (E.out ?_);dsimp only [kt,kD,gm,bO,List.length_nil,ens,jF,bD,bg,gU,List.flatMap_nil,wP,List.length_replicate];((repeat (refine eZ ?_ ?_;focus (exact au)));exact cE))
end
end Go.Proofs.YtgnomadgnciifaaGreatDoor
