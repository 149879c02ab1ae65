/- . -/
import Derived.Test.YtgnomadgnciifaaGreatDoorZ10
set_option linter.all false
set_option maxRecDepth 100000
set_option maxHeartbeats 16000000
namespace Go.Proofs.YtgnomadgnciifaaGreatDoor
variable {p:Prop}
open Go.Proofs.Tryz
def Am (h:p:=by
 have G:=G.nextA E;refine X.out _ _ G ?_;clear X;refine zs ?_;refine aB 7 (λK X=>?_);go_wp2_with ((first|(go_at_call 173;refine E.cB (nW _ _ _ _ _ _ E.rdA hm j0 hq) ?_;clear E;intro J E)|(go_at_call 172;refine (pi _ _ _ nh hx2).mono ?_;rw [hcut.out];rintro e J ⟨rfl,hb⟩;replace E:=E.grow hb;clear hb)|(go_at_call 66;refine (nV hx2 j4 hP.out _ E.rds).mono ?_;rintro e J ⟨_,rfl,A2,n2,c2,S2,rfl,H,L⟩;replace E:=E.callA H;clear H)));have G:=G.nextA E;refine X.out _ _ G ?_;clear X;refine zs ?_;refine an 8 G ?_;refine zp 9 G ?_;refine zp 10 G ?_;refine zp 11 G ?_;refine aB 13 (λK X=>?_);go_wp2_with (refine iP ?_;clear E;intro J E;(try refine zs ?_));have G:=G.nextA E;refine X.out _ _ G ?_;clear X;refine zs ?_;refine aB 14 (λK X=>?_);go_wp2_with (refine iP ?_;clear E;intro J E;(try refine zs ?_));have G:=G.nextA E;refine X.out _ _ G ?_;clear X;refine zs ?_;refine cA 15 G ?_;refine bt ?_
 (go_wp2;go_meet;exact ⟨_,A2,n2,c2,S2,rfl,rfl,V L,E.lessA _⟩)):=h
def KN (h:p:=by
 have G:=G.nextA E;refine X.out _ _ G ?_;clear X;refine zs ?_;refine wpAnyH_ready (rs:=[7,12]) aj aF (dK F (λK X=>?_) (dK F (λK X=>?_) AllReadyH.nil))
 .go_wp2_with ((first|(go_at_call 173;refine E.cB (nW _ _ _ _ _ _ E.rdA hm j0 hq) ?_;clear E;intro J E)|(go_at_call 172;refine (pi _ _ _ nh hx2).mono ?_;rw [hcut.out];rintro e J ⟨rfl,hb⟩;replace E:=E.grow hb;clear hb)|(go_at_call 66;refine (nV hx2 j4 hP.out _ E.rds).mono ?_;rintro e J ⟨_,rfl,A2,n2,c2,S2,rfl,H,L⟩;replace E:=E.callA H;clear H)))
  have G:=G.nextA E;refine X.out _ _ G ?_;clear X;refine zs ?_;refine an 8 G ?_;refine zp 9 G ?_;refine zp 10 G ?_;refine zp 11 G ?_;refine aB 12 (λK X=>?_);go_wp2_with ((refine bK F E ?_;clear E;intro Z J E);refine zs ?_);have G:=G.nextA E;refine X.out _ _ G ?_;clear X;refine zs ?_;refine aB 13 (λK X=>?_);go_wp2_with (refine iP ?_;clear E;intro J E;(try refine zs ?_));have G:=G.nextA E;refine X.out _ _ G ?_;clear X;refine zs ?_;refine aB 14 (λK X=>?_);go_wp2_with (refine iP ?_;clear E;intro J E;(try refine zs ?_));have G:=G.nextA E;refine X.out _ _ G ?_;clear X;refine zs ?_;refine cA 15 G ?_;refine bt ?_;(go_wp2;go_meet;exact ⟨_,A2,n2,c2,S2,rfl,rfl,V L,E.lessA _⟩)
 .go_wp2_with ((refine bK F E ?_;clear E;intro Z J E);refine zs ?_)
  exact Am):=h
def EE (h:p:=by
 have G:=G.nextA E;refine X.out _ _ G ?_;clear X;refine zs ?_;refine aB 6 (λK X=>?_);go_wp2_with ((first|(go_at_call 173;refine E.cB (nW _ _ _ _ _ _ E.rdA hm j0 hq) ?_;clear E;intro J E)|(go_at_call 172;refine (pi _ _ _ nh hx2).mono ?_;rw [hcut.out];rintro e J ⟨rfl,hb⟩;replace E:=E.grow hb;clear hb)|(go_at_call 66;refine (nV hx2 j4 hP.out _ E.rds).mono ?_;rintro e J ⟨_,rfl,A2,n2,c2,S2,rfl,H,L⟩;replace E:=E.callA H;clear H)))
 exact Am):=h
def M4 (h:p:=by
 have G:=G.nextA E;refine X.out _ _ G ?_;clear X;refine zs ?_;refine wpAnyH_ready (rs:=[0,6]) aj aF (dK F (λK X=>?_) (dK F (λK X=>?_) AllReadyH.nil))
 .go_wp2_with (refine tp ?_;refine zs ?_)
  exact EE
 .go_wp2_with ((first|(go_at_call 173;refine E.cB (nW _ _ _ _ _ _ E.rdA hm j0 hq) ?_;clear E;intro J E)|(go_at_call 172;refine (pi _ _ _ nh hx2).mono ?_;rw [hcut.out];rintro e J ⟨rfl,hb⟩;replace E:=E.grow hb;clear hb)|(go_at_call 66;refine (nV hx2 j4 hP.out _ E.rds).mono ?_;rintro e J ⟨_,rfl,A2,n2,c2,S2,rfl,H,L⟩;replace E:=E.callA H;clear H)))
  have G:=G.nextA E;refine X.out _ _ G ?_;clear X;refine zs ?_;refine aB 0 (λK X=>?_);go_wp2_with (refine tp ?_;refine zs ?_)
  exact Am):=h
def NX (h:p:=by
 have G:=G.nextA E;refine X.out _ _ G ?_;clear X;refine zs ?_;refine wpAnyH_ready (rs:=[6,12]) aj aF (dK F (λK X=>?_) (dK F (λK X=>?_) AllReadyH.nil))
 .go_wp2_with ((first|(go_at_call 173;refine E.cB (nW _ _ _ _ _ _ E.rdA hm j0 hq) ?_;clear E;intro J E)|(go_at_call 172;refine (pi _ _ _ nh hx2).mono ?_;rw [hcut.out];rintro e J ⟨rfl,hb⟩;replace E:=E.grow hb;clear hb)|(go_at_call 66;refine (nV hx2 j4 hP.out _ E.rds).mono ?_;rintro e J ⟨_,rfl,A2,n2,c2,S2,rfl,H,L⟩;replace E:=E.callA H;clear H)))
  exact KN
 .go_wp2_with ((refine bK F E ?_;clear E;intro Z J E);refine zs ?_)
  exact EE):=h
def EU (h:p:=by
 (go_wp2_with (((first|refine aA ?_|(refine am ?_;clear E;intro Z J E));refine zs ?_));((try simp only [Exit.inBlock,Exit.then]);refine bc (za F E) F ?_);exact ⟨_,_,rfl,A2,n2,c2,S2,Aq,cq,rfl,by rw [ad];rfl,by rw [ad];exact E.outA,L.out⟩)):=h
def GV (h:p:=by
 have G:=G.nextA E;refine X.out _ _ G ?_;clear X;refine zs ?_;refine aB 4 (λK X=>?_);go_wp2_with ((first|(go_at_call 173;refine E.cB (nW _ _ _ _ _ _ E.rdA hm j0 hq) ?_;clear E;intro J E)|(go_at_call 172;refine (pi _ _ _ nh hx2).mono ?_;rw [hcut.out];rintro e J ⟨rfl,hb⟩;replace E:=E.grow hb;clear hb)|(go_at_call 66;refine (nV hx2 j4 hP.out _ E.rds).mono ?_;rintro e J ⟨_,rfl,A2,n2,c2,S2,rfl,H,L⟩;replace E:=E.callA H;clear H)))
 exact EE):=h
section
open Go.RowKit Go.Sort
def Kn (w:World) (D0:List Da) (ways:Int) (v1 v2:Value) (w':World) (C:List (List Wy)) (q:List Rq):Prop :=
 ∃ A n c S A2 c2,v1 = .agg #[I ways,.slice A n c]/\v2 = .slice A2 q.length c2/\Out w D0 w' [ab 1 A n c (cj S),cR S,ab 4 A2 q.length c2 (bg q)]/\aZ S=C
def AZ (A:Option Addr) (n c:Nat) (S:List Cs) (Aq:Option Addr) (nq cq:Nat) (q:List Rq):List Da:=[ab 1 A n c (cj S),cR S,ab 4 Aq nq cq (bg q)]
def Ph {w A n c S Aq nq cq q}(hr:bT w w.heap.size A n c S)(ak:Rd w w.heap.size 4 Aq nq cq (bg q)):∀ d∈AZ A n c S Aq nq cq q,d.ok w:=λd hd=>by
 rcases bB.1 hd with rfl|hd
 .exact hr.rd
 .rcases bB.1 hd with rfl|hd
  .exact hr.sets
  .obtain rfl:=dm.1 hd;exact ak
def Ta {m q x D}(h:bl D=dR (gp q (bl m)) x):qb (mX m (bZ q)) (x - x % 16)=D:=by
 rw [Xl];apply rI;rw [LF,N6,h];rfl
def h8h {ways:Int} {A:Option Addr} {n c:Nat} {S:List Cs} {Aq:Option Addr} {nq cq:Nat} {q:List Rq} {m:ByteArray} {x:Nat} {left:Int} {C':List (List Wy)} {q':List Rq} {b:Bool}(hx:x<4294967296) (j4:kP S) (hm:m.size<=maxLen) (j0:nq<=1000000) (hq:∀ r∈q,r.line<4294967296) (hl : I6 left) (h:kM ways (aZ S) q (bl m) x left C' q' b)(w:World) (hr:bT w w.heap.size A n c S) (ak:Rd w w.heap.size 4 Aq nq cq (bg q)) :Ca 126 #[.agg #[I ways,.slice A n c],.slice Aq nq cq,.string m,U (x:Int),I left] w λe w'=>∃ y z,e = .returned (.tuple #[y,z,.bool b])/\Kn w (AZ A n c S Aq nq cq q) ways y z w' C' q':=by
 have E:=St.start w _ (Ph hr ak);unfold AZ at E;have ad:=ak.rqslen;have HL:=V (λW=>mh x W hx);have hc1:=hr.rd.le;have aN:=hr.rd.mx;unfold maxLen at aN;cases h with
 | no h he hq hb=>
  subst he hq hb;have HR:=V (pm (ways:=ways) (A:=A) (n:=n) (c:=c) j4 (BS h));go_enter func126,ntmps126;go_wp2_with ((first|(refine Ux ?_;clear E;intro J E)|((first|refine aA ?_|(refine am ?_;clear E;intro Z J E));refine zs ?_)));((try simp only [Exit.inBlock,Exit.then]);refine bc (za F E) F ?_);exact ⟨_,_,rfl,A,n,c,S,Aq,cq,rfl,by rw [ad];rfl,by rw [ad];exact E.outA,rfl⟩
 | hit k i h hT hq hb=>
  subst hq hb;have HR:=V (pm (ways:=ways) (A:=A) (n:=n) (c:=c) j4 (tm h.at_.1));have pl:=V (mc (ways:=ways) (A:=A) (n:=n) (c:=c) (show x - x % 16<4294967296 by omega) j4 h.line);replace hT:=V hT.line;obtain ⟨lo,jP⟩:∃ lo,x - x % 16=lo:=⟨_,rfl⟩;have hx2:lo<4294967296:=by omega
  rw [jP] at HL pl hT;clear jP h;go_enter func126,ntmps126;go_wp2_with ((first|(refine GD ?_;clear E;intro J E)|(go_at_call 63;refine (HL.out _).mono ?_;rintro e J ⟨rfl,d,rfl⟩;replace E:=E.grow (af.drewN _ d))|(go_at_call 84;refine (I8 hx2 j4 hT.out _ E.rds).mono ?_;rintro e J ⟨_,rfl,A2,n2,c2,S2,rfl,H,L⟩;replace E:=E.callA H;clear H)|((first|refine aA ?_|(refine am ?_;clear E;intro Z J E));refine zs ?_)));((try simp only [Exit.inBlock,Exit.then]);refine bc (za F E) F ?_);exact ⟨_,_,rfl,A2,n2,c2,S2,Aq,cq,rfl,by rw [ad];rfl,by rw [ad];exact E.outA,L⟩
 | put k i hR h D hD iw went hp hb al=>
  have HR:=V (pm (ways:=ways) (A:=A) (n:=n) (c:=c) j4 (tm hR));have pl:=V (mc (ways:=ways) (A:=A) (n:=n) (c:=c) (show x - x % 16<4294967296 by omega) j4 h.line);have hP:=V hp.lineB;have hcut:=V (Ta hD);obtain ⟨lo,jP⟩:∃ lo,x - x % 16=lo:=⟨_,rfl⟩;have hx2:lo<4294967296:=by omega
  rw [jP] at HL pl hP hcut;clear jP h hR hD hp;obtain ⟨gl,gd,gb⟩:=iw;replace al:=V al;replace hb:=V hb;go_enter func126,ntmps126;go_upto_region 7 with ((first|(refine GD ?_;clear E;intro J E)|(go_at_call 63;refine (HL.out _).mono ?_;rintro e J ⟨rfl,d,rfl⟩;replace E:=E.grow (af.drewN _ d))|((first|refine aA ?_|(refine am ?_;clear E;intro Z J E));refine zs ?_)));rename_i K X;obtain ⟨gR,gC,rfl,rfl⟩:=E.names2;go_cut [16,17] (λp s wx=>∃ gG A2 n2 c2 S2,p = .pointer (some ⟨gG,0,none⟩)/\s = .bool went/\Hid (aZ S2=C')/\St w [ab 1 A n c (cj S),cR S,ab 4 Aq nq cq (bg q)] wx [.blk gG 101 [U (gl:Int),.bool gd,.string gb],.blk gR 35 [I 0,.slice none 0 0],.blk gC 35 [I ways,.slice A2 n2 c2]] [ab 1 A2 n2 c2 (cj S2),cR S2,ab 4 Aq nq cq (bg q)]);case first=>
   refine bA aj E [] _ cM (λ_ h=>h) ?_;clear E;intro E G;refine an 1 G ?_;refine an 2 G ?_;refine an 3 G ?_;refine an 5 G ?_;refine wpAnyH_ready (rs:=[0,4,12]) aj aF (dK F (λK X=>?_) (dK F (λK X=>?_) (dK F (λK X=>?_) AllReadyH.nil)))
   .go_wp2_with (refine tp ?_;refine zs ?_)
    have G:=G.nextA E;refine X.out _ _ G ?_;clear X;refine zs ?_;refine wpAnyH_ready (rs:=[4,12]) aj aF (dK F (λK X=>?_) (dK F (λK X=>?_) AllReadyH.nil))
    .go_wp2_with ((first|(go_at_call 173;refine E.cB (nW _ _ _ _ _ _ E.rdA hm j0 hq) ?_;clear E;intro J E)|(go_at_call 172;refine (pi _ _ _ nh hx2).mono ?_;rw [hcut.out];rintro e J ⟨rfl,hb⟩;replace E:=E.grow hb;clear hb)|(go_at_call 66;refine (nV hx2 j4 hP.out _ E.rds).mono ?_;rintro e J ⟨_,rfl,A2,n2,c2,S2,rfl,H,L⟩;replace E:=E.callA H;clear H)))
     exact NX
    .go_wp2_with ((refine bK F E ?_;clear E;intro Z J E);refine zs ?_)
     exact GV
   .go_wp2_with ((first|(go_at_call 173;refine E.cB (nW _ _ _ _ _ _ E.rdA hm j0 hq) ?_;clear E;intro J E)|(go_at_call 172;refine (pi _ _ _ nh hx2).mono ?_;rw [hcut.out];rintro e J ⟨rfl,hb⟩;replace E:=E.grow hb;clear hb)|(go_at_call 66;refine (nV hx2 j4 hP.out _ E.rds).mono ?_;rintro e J ⟨_,rfl,A2,n2,c2,S2,rfl,H,L⟩;replace E:=E.callA H;clear H)))
    have G:=G.nextA E;refine X.out _ _ G ?_;clear X;refine zs ?_;refine wpAnyH_ready (rs:=[0,6,12]) aj aF (dK F (λK X=>?_) (dK F (λK X=>?_) (dK F (λK X=>?_) AllReadyH.nil)))
    .go_wp2_with (refine tp ?_;refine zs ?_)
     exact NX
    .go_wp2_with ((first|(go_at_call 173;refine E.cB (nW _ _ _ _ _ _ E.rdA hm j0 hq) ?_;clear E;intro J E)|(go_at_call 172;refine (pi _ _ _ nh hx2).mono ?_;rw [hcut.out];rintro e J ⟨rfl,hb⟩;replace E:=E.grow hb;clear hb)|(go_at_call 66;refine (nV hx2 j4 hP.out _ E.rds).mono ?_;rintro e J ⟨_,rfl,A2,n2,c2,S2,rfl,H,L⟩;replace E:=E.callA H;clear H)))
     have G:=G.nextA E;refine X.out _ _ G ?_;clear X;refine zs ?_;refine wpAnyH_ready (rs:=[0,12]) aj aF (dK F (λK X=>?_) (dK F (λK X=>?_) AllReadyH.nil))
     .go_wp2_with (refine tp ?_;refine zs ?_)
      exact KN
     .go_wp2_with ((refine bK F E ?_;clear E;intro Z J E);refine zs ?_)
      have G:=G.nextA E;refine X.out _ _ G ?_;clear X;refine zs ?_;refine aB 0 (λK X=>?_);go_wp2_with (refine tp ?_;refine zs ?_);exact Am
    .go_wp2_with ((refine bK F E ?_;clear E;intro Z J E);refine zs ?_)
     exact M4
   .go_wp2_with ((refine bK F E ?_;clear E;intro Z J E);refine zs ?_)
    have G:=G.nextA E;refine X.out _ _ G ?_;clear X;refine zs ?_;refine wpAnyH_ready (rs:=[0,4]) aj aF (dK F (λK X=>?_) (dK F (λK X=>?_) AllReadyH.nil))
    .go_wp2_with (refine tp ?_;refine zs ?_)
     exact GV
    .go_wp2_with ((first|(go_at_call 173;refine E.cB (nW _ _ _ _ _ _ E.rdA hm j0 hq) ?_;clear E;intro J E)|(go_at_call 172;refine (pi _ _ _ nh hx2).mono ?_;rw [hcut.out];rintro e J ⟨rfl,hb⟩;replace E:=E.grow hb;clear hb)|(go_at_call 66;refine (nV hx2 j4 hP.out _ E.rds).mono ?_;rintro e J ⟨_,rfl,A2,n2,c2,S2,rfl,H,L⟩;replace E:=E.callA H;clear H)))
     exact M4
  case rest=>
   obtain ⟨gG,A2,n2,c2,S2,rfl,rfl,L,E⟩:=hcut;refine X _ _ ?_;have ac:=hb.out;have R:=al.out;clear hb al;cases went
   .rw [si] at ac
    subst ac;rw [Y ag] at R;subst R;exact EU
   .cases gd
    .rw [si,qr] at ac
     subst ac;rw [Y ag] at R;subst R;exact EU
    .by_cases hz:gb.size=0
     .have av:=Dn hz
      rw [kb,kb,dg (λh=>h hz)] at ac;subst ac;rw [Y ag] at R;subst R;clear hz;exact EU
     .have av:=wh hz
      rw [kb,kb,cU hz] at ac;subst ac;rw [aa F] at R;have ap:q'.length=nq+1:=by rw [R,ea,ad];rfl
      subst R;clear hz;go_wp2_with (((first|refine aA ?_|(refine am ?_;clear E;intro Z J E));refine zs ?_));refine bA aj E [.blk gG 101 [U (gl:Int),.bool true,.string gb],.blk gC 35 [I ways,.slice A2 n2 c2]] _ cM (λ_ h=>h) ?_;clear E;intro E G;refine cX 0 G ?_;refine an 1 G ?_;refine az 2 G ?_;refine cX 3 G ?_;refine an 4 G ?_;refine az 5 G ?_;refine cX 6 G ?_;refine aB 7 (λK X=>?_);go_wp2_with ((go_at_call 142;refine (LI _ _ _ _ _ _ _ _ _ E.rdA j0 hl).mono ?_;rintro e J ⟨A3,c3,rfl,H⟩;replace E:=E.call1A H;clear H));have G:=G.nextA E;refine X.out _ _ G ?_;clear X;refine zs ?_;refine aB 8 (λK X=>?_);go_wp2_with (refine iP ?_;clear E;intro J E;(try refine zs ?_));have G:=G.nextA E;refine X.out _ _ G ?_;clear X;refine zs ?_;refine cA 9 G ?_;refine cA 10 G ?_;refine bt ?_;(go_wp2;((try simp only [Exit.inBlock,Exit.then]);refine bc (za F E) F ?_);exact ⟨_,_,rfl,A2,n2,c2,S2,A3,c3,rfl,by rw [ap];rfl,by rw [ap];exact E.outA,L.out⟩)
end
end Go.Proofs.YtgnomadgnciifaaGreatDoor
