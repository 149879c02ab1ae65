/- . -/
import Derived.Test.YtgnomadgnciifaaGreatDoorE1
import Derived.Test.YtgnomadgnciifaaGreatDoorZ16
set_option linter.all false
set_option maxRecDepth 100000
set_option maxHeartbeats 16000000
namespace Go.Proofs.YtgnomadgnciifaaGreatDoor
variable {p:Prop}
open Go.Proofs.Tryz
def x6 (h:p:=by
 go_enter func150,ntmps150;go_wp2_with ((try refine zs ?_);(first|go_big_skip|(go_at_call 153;(first|((have G:=HA.out);(with_reducible refine (G _).mono ?_))|((have G:=HB.out);(with_reducible refine (G _).mono ?_))|((have G:=HC.out);(with_reducible refine (G _).mono ?_)));clear G;rintro x J ⟨rfl,hb⟩;replace E:=E.grow hb;clear hb)|((refine co F F F ?_);(try refine zs ?_))|((first|refine iZ [4] F E F ?_|refine iZ [5,6,0,0,7,8,9,10] F E F ?_|refine iZ [11,12,13,0,14,15] F E F ?_|refine iZ [16,17,18] F E F ?_);clear E;intro Z J E;(try refine zs ?_))|(go_at_call 188;refine E.cB (qn _ _ _ [28,30,31,32,33,34,36,37] f3 _ E.rdA O ag) ?_;clear E;intro J E)|(go_at_call 189;refine E.cB (HI.out _) ?_;clear E;intro J E)|(go_at_call 190;refine E.cB (HG.out _) ?_;clear E;intro J E)));go_ret;exact ⟨rfl,E.bel⟩):=h
def E4 (h:p:=by
 go_enter func150,ntmps150;go_wp2_with ((try refine zs ?_);(first|go_big_skip|(go_at_call 153;(first|((have G:=HA.out);(with_reducible refine (G _).mono ?_))|((have G:=HB.out);(with_reducible refine (G _).mono ?_))|((have G:=HC.out);(with_reducible refine (G _).mono ?_)));clear G;rintro x J ⟨rfl,hb⟩;replace E:=E.grow hb;clear hb)|((refine co F F F ?_);(try refine zs ?_))|((first|refine iZ [4] F E F ?_|refine iZ [5,6,0,0,7,8,9,10] F E F ?_|refine iZ [11,12,13,0,14,15] F E F ?_|refine iZ [16,17,18] F E F ?_);clear E;intro Z J E;(try refine zs ?_))|(go_at_call 188;refine E.cB (qn _ _ _ [16,17,18] f3 _ E.rdA O ag) ?_;clear E;intro J E)|(go_at_call 189;refine E.cB (HI.out _) ?_;clear E;intro J E)|(go_at_call 190;refine E.cB (HG.out _) ?_;clear E;intro J E)));go_ret;exact ⟨rfl,E.bel⟩):=h
def Jy (h:p:=by
 go_enter func160,ntmps160;go_wp2_with ((try refine zs ?_);(first|go_big_skip|(go_at_call 192;(first|((have G:=bX.out);(with_reducible refine (G _).mono ?_))|((have G:=ca.out);(with_reducible refine (G _).mono ?_)));clear G;rintro x J ⟨rfl,rfl⟩)|((first|(refine fw rfl rfl rfl ?_)|(refine cT rfl rfl rfl ?_)|(refine co rfl rfl rfl ?_)|(refine fM rfl rfl rfl ?_));(try refine zs ?_))));go_ret;exact ⟨rfl,rfl⟩):=h
def p9 (h:p:=by
 (go_enter func155,ntmps155;go_wp2_with ((try refine zs ?_);(first|go_big_skip|(go_at_call 191;refine (HH.out _).mono ?_;rintro x J ⟨rfl,rfl⟩)|((first|(refine fw rfl rfl rfl ?_)|(refine cT rfl rfl rfl ?_)|(refine co rfl rfl rfl ?_)|(refine fM rfl rfl rfl ?_));(try refine zs ?_))|((refine Tg F F F ?_);refine zs ?_)|((refine rS F F underlying28 underlying181 ?_);refine zs ?_)|((refine yL F F underlying181 underlying28 ?_);refine zs ?_)|((first|refine uG F F F ?_|refine zJ F F F ?_|refine Jo (q:=65536) F F F ?_|refine tT (q:=65536) F F F ?_|refine tT (q:=4294967296) F F F ?_);refine zs ?_)));go_ret;exact ⟨by first|rfl|(rw [hR.out]),rfl⟩)):=h
def rO (h:p:=by
 (go_enter func156,ntmps156;go_wp2_with ((try refine zs ?_);(first|go_big_skip|(go_at_call 192;(first|((have G:=bX.out);(with_reducible refine (G _).mono ?_))|((have G:=ca.out);(with_reducible refine (G _).mono ?_)));clear G;rintro x J ⟨rfl,rfl⟩)|(go_at_call 193;refine (kV.out _).mono ?_;rintro x J ⟨rfl,rfl⟩)|((first|(refine fw rfl rfl rfl ?_)|(refine cT rfl rfl rfl ?_)|(refine co rfl rfl rfl ?_)|(refine fM rfl rfl rfl ?_));(try refine zs ?_))|((first|refine w_i64Quo F F F ?_|refine FD F F F ?_);refine zs ?_)));go_ret;exact ⟨by first|(rw [hR.out];done)|(rw [hR.out];rfl)|(rw [<- hR.out];rfl)|rfl,rfl⟩)):=h
def qv (h:p:=by
 (go_enter func92,ntmps92;go_wp2_with ((try refine zs ?_);(first|go_big_skip|(go_at_call 150;refine E.cB (HO.out _) ?_;clear E;intro J E)|(go_at_call 151;refine (aZ.out _).mono ?_;rintro x J ⟨rfl,rfl⟩)|(go_at_call 152;refine E.cB (HN.out _) ?_;clear E;intro J E)|(go_at_call 153;(first|((have G:=HT.out);(with_reducible refine (G _).mono ?_))|((have G:=HA.out);(with_reducible refine (G _).mono ?_))|((have G:=HB.out);(with_reducible refine (G _).mono ?_))|((have G:=HC.out);(with_reducible refine (G _).mono ?_)));clear G;rintro x J ⟨rfl,hb⟩;replace E:=E.grow hb;clear hb)|((first|refine aA ?_|(refine am ?_;clear E;intro Z J E));refine zs ?_)));((try simp only [Exit.inBlock,Exit.then]);refine bc (oS F E) F ?_);exact ⟨rfl,E.bel⟩)):=h
def xm (h:p:=by
 (go_enter func104,ntmps104;go_wp2_with ((try refine zs ?_);(first|go_big_skip|(go_at_call 161;(first|((have G:=bX.out);(with_reducible refine (G _).mono ?_))|((have G:=ca.out);(with_reducible refine (G _).mono ?_)));clear G;rintro x J ⟨rfl,rfl⟩)|(go_at_call 162;(first|((have G:=gM.out);(with_reducible refine (G _).mono ?_))|((have G:=gN.out);(with_reducible refine (G _).mono ?_)));clear G;rintro x J ⟨rfl,rfl⟩)|((first|(refine fw rfl rfl rfl ?_)|(refine cT rfl rfl rfl ?_)|(refine co rfl rfl rfl ?_)|(refine fM rfl rfl rfl ?_));(try refine zs ?_))|((refine Ls F F underlying2 underlying28 ?_);refine zs ?_)));go_ret;exact ⟨by first|(rw [hR.out];done)|(rw [hR.out];rfl)|(rw [<- hR.out];rfl)|rfl,rfl⟩)):=h
def Dm (h:p:=by
 clear hres hf1 hf;go_enter func194,ntmps194;go_wp2_with ((try refine zs ?_);(first|go_big_skip|(refine nU F E ?_;clear E;intro Z J E)));go_loopw [7,8,9,10] (λv i _ _ wr=>∃ k:Nat,k<=32/\i = I (k:Int)/\St w [] wr [.own v 28 1 k (qJ f k)] []) (λ_ i _ _ _=>32 - (intOf i).toNat);case atStart=>exact ⟨0,by omega,rfl,E⟩
 case round=>
  clear E;obtain ⟨k,hk,rfl,E⟩:=hrel;by_cases bx:k<32
  .have HA:=λW=>AB a k W ha bx
   have HB:=λW=>AB b k W hb bx
   have hs:=FO f k;rw [cf.out] at hs;have h1:=uo a k;have h2:=uo b k;generalize dj a k=x at HA hs h1;generalize dj b k=y at HB hs h2;rcases (show x=0\/x=1 by omega) with rfl|rfl
   all_goals
    rcases (show y=0\/y=1 by omega) with rfl|rfl
    all_goals
     replace HA:=V HA;replace HB:=V HB;simp at hs;replace hs:=V hs;clear h1 h2;go_wp2_with ((try refine zs ?_);(first|go_big_skip|(go_at_call 196;(have G:=HA.out);(with_reducible refine (G _).mono ?_);clear G;rintro x J ⟨rfl,hb⟩;replace E:=E.grow hb;clear hb)|(go_at_call 196;(have G:=HB.out);(with_reducible refine (G _).mono ?_);clear G;rintro x J ⟨rfl,hb⟩;replace E:=E.grow hb;clear hb)|(refine iD F E F ?_;clear E;intro Z J E)|(refine oq F E F F ?_;clear E;intro vN J E;(try simp only [zF] at E))));go_roundw;case rel=>exact ⟨k+1,by omega,by go_num,by rw [<- hs.out];exact E⟩
     case measure=>exact zM
  .obtain rfl:k=32:=by omega
   obtain ⟨A,c,rfl,E⟩:=E.freeze 0 aC
   (try simp only [zF] at E);go_wp2_with ((try refine zs ?_);(first|go_big_skip|(go_at_call 199;refine (HO.out _ _ _ E.rdA).mono ?_;rintro x J ⟨rfl,d1,rfl⟩;replace E:=E.grow (af.drewN _ d1))));go_ret
   exact ⟨rfl,E.bel⟩):=h
def tK (h:p:=by
 replace ht:=V ht
 cases t <;> exact Jy):=h
def uv (h:p:=by
 (go_enter func190,ntmps190;go_wp2_with ((try refine zs ?_);(first|go_big_skip|((refine co F F F ?_);(try refine zs ?_))|(refine iZ [28,30,31,32,33,34,36,37] F E F ?_;clear E;intro Z J E;(try refine zs ?_))|(refine iZ [38,39,40,41,42,43,44,45] F E F ?_;clear E;intro Z J E;(try refine zs ?_))|(go_at_call 188;(first|refine (k6.out _ _ E.rdA).mono ?_|refine (k7.out _ _ E.rdA).mono ?_);rintro x J ⟨rfl,hb⟩;replace E:=E.grow hb;clear hb)));go_ret;exact ⟨rfl,E.bel⟩)):=h
def tZ (h:p:=by
 (go_enter func189,ntmps189;go_wp2_with ((try refine zs ?_);(first|go_big_skip|((refine co F F F ?_);(try refine zs ?_))|(refine iZ [19,0,20,21,22,0,23,24] F E F ?_;clear E;intro Z J E;(try refine zs ?_))|(go_at_call 188;refine E.cB (HP.out _ _ E.rdA) ?_;clear E;intro J E)));go_ret;exact ⟨rfl,E.bel⟩)):=h
def BG (h:p:=by
 exact x6):=h
def Ei (h:p:=by
 (go_enter func161,ntmps161;go_wp2_with ((try refine zs ?_);(first|go_big_skip|(go_at_call 192;refine (HS.out _).mono ?_;rintro x J ⟨rfl,rfl⟩)|((first|(refine fw rfl rfl rfl ?_)|(refine cT rfl rfl rfl ?_)|(refine co rfl rfl rfl ?_)|(refine fM rfl rfl rfl ?_));(try refine zs ?_))));go_ret;exact ⟨by first|(rw [hz.out];done)|(rw [hz.out];rfl),rfl⟩)):=h
def L7 (h:p:=by
 go_enter func152,ntmps152;go_wp2_with ((try refine zs ?_);(first|go_big_skip|(go_at_call 153;(first|((have G:=HT.out);(with_reducible refine (G _).mono ?_))|((have G:=HA.out);(with_reducible refine (G _).mono ?_))|((have G:=HB.out);(with_reducible refine (G _).mono ?_))|((have G:=HC.out);(with_reducible refine (G _).mono ?_)));clear G;rintro x J ⟨rfl,hb⟩;replace E:=E.grow hb;clear hb)|(go_at_call 159;refine E.cB (HS.out _) ?_;clear E;intro J E)|((first|refine px (p:=2) F F F ?_|refine px (p:=32) F F F ?_|refine px (p:=2048) F F F ?_|refine px (p:=4096) F F F ?_|refine px (p:=1048576) F F F ?_);refine zs ?_)|((refine NB F F F ?_);refine zs ?_)));go_ret
 exact ⟨rfl,E.bel⟩):=h
def CH (h:p:=by
 go_wp2_with ((try refine zs ?_);(first|go_big_skip|((first|(refine cT F F F ?_)|(refine fM F F F ?_));(try refine zs ?_))|(go_at_call 196;(have G:=HA.out);(with_reducible refine (G _).mono ?_);clear G;rintro x J ⟨rfl,hb⟩;replace E:=E.grow hb;clear hb)|(refine iD F E F ?_;clear E;intro Z J E)|(refine oq F E F F ?_;clear E;intro vN J E;(try simp only [zF] at E))|(refine nU F E ?_;clear E;intro Z J E)));go_roundw;case rel=>exact ⟨k+1,by omega,by go_num,by rw [<- hs.out];exact E⟩
 case measure=>exact zM):=h
def Kq (h:p:=by
 exact E4):=h
def EJ (h:p:=by
 go_enter func152,ntmps152;go_wp2_with ((try refine zs ?_);(first|go_big_skip|(go_at_call 153;(first|((have G:=HT.out);(with_reducible refine (G _).mono ?_))|((have G:=HA.out);(with_reducible refine (G _).mono ?_))|((have G:=HB.out);(with_reducible refine (G _).mono ?_))|((have G:=HC.out);(with_reducible refine (G _).mono ?_)));clear G;rintro x J ⟨rfl,hb⟩;replace E:=E.grow hb;clear hb)));go_ret
 exact ⟨rfl,E.bel⟩):=h
def Dc (h:p:=by
 go_wp2_with ((try refine zs ?_);(first|go_big_skip|((first|(refine fw F F F ?_)|(refine cT F F F ?_)|(refine co F F F ?_)|(refine fM F F F ?_));(try refine zs ?_))));go_ret
 exact ⟨rfl,rfl⟩):=h
def M3 (h:p:=by
 rw [hq] at eQ Kk;have kV:=V (λW=>Zp q O W);have hR:Hid (((un q:Nat):Int)=(R:Int)):=V (by rw [eQ]);replace hq:=V hq;clear hz hL eQ;(try (rw [<- hx] at bX));(try (rw [<- hy] at ca));(try subst hx);(try subst hy)
 exact rO):=h
def Bh (h:p:=by
 (try (obtain ⟨h0,h1,h2⟩:=h;rcases hc with hc|hc|hc;exact uE h0 O O;exact uE h1 O O;exact uE h2 O O;done));(try (obtain ⟨h0,h1⟩:=h;rcases hc with hc|hc;exact uE h0 O O;exact uE h1 O O;done))
 (try exact uE h O O)):=h
def Mv (h:p:=by
 clear h hr hw;go_enter func193,ntmps193;go_wp2_with ((try refine zs ?_);(first|go_big_skip|((first|(refine fw F F F ?_)|(refine cT F F F ?_)|(refine co F F F ?_)|(refine fM F F F ?_));(try refine zs ?_))|((refine FD (q:=4294967296) F F F ?_ (h0:=by decide));(try refine zs ?_))|((refine Ls F F underlying2 underlying28 ?_);refine zs ?_)));go_ret
 exact ⟨rfl,rfl⟩):=h
def C7 (h:p:=by
 refine cI hw λK X=>?_
 have ip:(execOp a.eval o).run P w = .ok (.value (U (r:Int))) w:=by
  unfold execOp;simp only [ho,hx,hy];go_simp;all_goals first|rw [IntKind.wrap_u32',it]|rw [it]
 unfold Oper.wp;rw [ip]
 exact X _ _ h):=h
def Cm (h:p:=by
 refine cI hw λK X=>?_
 have ip:(execOp a.eval o).run P w = .ok (.value (.int .u64 (r:Int))) w:=by
  unfold execOp;simp only [ho,hx,hy];go_simp;all_goals rw [it]
 unfold Oper.wp;rw [ip]
 exact X _ _ h):=h
def Fd (h:p:=by
 have lm1:m1<4294967296:=by omega
 have lm2:m2<4294967296:=by omega
 have ls1:s1<4294967296:=by omega
 have lm3:m3<4294967296:=by omega
 have ls2:s2<4294967296:=by omega
 have lm4:m4<4294967296:=by omega
 have ls3:s3<4294967296:=by omega
 replace em1:=V em1;replace em2:=V em2;replace es1:=V es1;replace em3:=V em3;replace es2:=V es2;replace em4:=V em4;replace es3:=V es3
 exact L7):=h
def LT (h:p:=by
 go_enter func188,ntmps188;go_wp2_with ((try refine zs ?_);(first|go_big_skip|((refine cT F F F ?_);(try refine zs ?_))|((first|refine aA ?_|(refine am ?_;clear E;intro Z J E));refine zs ?_)));go_ret
 exact ⟨rfl,E.bel⟩):=h
def LH (h:p:=by
 have h0:¬ ((q:Int)=0):=by omega
 refine cI hw λK X=>?_
 have ip:(execOp a.eval o).run P w = .ok (.value (.int .u64 (r:Int))) w:=by
  unfold execOp;simp only [ho,hx,hy];go_simp
  first|(rw [Y O,<- wk,hr.out,v5 O O])|(rw [Y O,<- Int.ofNat_tmod,hr.out])
 unfold Oper.wp;rw [ip]
 exact X _ _ h):=h
def FJ (h:p:=by
 have hsb : -2147483648<=sg a/\sg a<2147483648:=by unfold sg;split <;> omega
 by_cases h0:sg a<0
 .rw [aa h0] at hz
  have hb:=V (cU h0);replace hz:=V hz;generalize sg a=s at *;clear h h0;exact Ei
 .rw [Y h0] at hz
  have hb:=V (dg h0);replace hz:=V hz;generalize sg a=s at *;clear h h0
  exact Ei):=h
def Ob (h:p:=by
 rw [<- hx,<- hy] at hL;have eQ:R=un (x.tdiv y):=by
  rw [hL,<- hR];unfold eB;simp [hz,lJ,jC]
 have hxb : -4294967296<x/\x<4294967296:=by rw [hx];(try unfold sg);(try split) <;> omega
 have hy0:¬ y=0:=by rw [hy];(try unfold sg);(try split) <;> omega
 obtain ⟨q,hq⟩:∃ q,x.tdiv y=q:=⟨_,rfl⟩;have Kk:=RE (x:=x) (y:=y) hxb
 exact M3):=h
def Js (h:p:=by
 rw [<- hx,<- hy] at hL;have eQ:R=un (x.tmod y):=by
  rw [hL,<- hR];unfold eB;simp [hz,lJ,jC]
 have hxb : -4294967296<x/\x<4294967296:=by rw [hx];(try unfold sg);(try split) <;> omega
 have hy0:¬ y=0:=by rw [hy];(try unfold sg);(try split) <;> omega
 obtain ⟨q,hq⟩:∃ q,x.tmod y=q:=⟨_,rfl⟩;have Kk:=tmod_b (x:=x) (y:=y) hxb
 exact M3):=h
def IY (h:p:=by
 have g4:=b1 31 1;rw [pk _ _ _ F,pk _ _ _ F,pk _ _ _ F,pk _ _ _ F,pF _ _ _ _ F,pF _ _ _ _ F,pF _ _ _ _ F,pF _ _ _ _ F,pJ ag ag g1,pJ O ag g2,pJ O ag g3,pJ O ag g4,sE _ _ ag ag];congr 1
 omega):=h
def NU (h:p:=by
 refine cI hw λK X=>?_
 have ip:(execOp a.eval o).run P w = .ok (.value (I r)) w:=by
  unfold execOp;simp only [ho,hx,hy];go_simp;all_goals first|rw [it]|exact hr.out
 unfold Oper.wp;rw [ip]
 exact X _ _ h):=h
section
open Go.RowKit Wd
def pD (l:List Int) (n:Nat):Int:=l[n]?.getD 0
def Bv (f3 f7:Nat):Int:=if f7=0 then pD [28,30,31,32,33,34,36,37] f3 else if f7=1 then pD [38,39,40,41,42,43,44,45] f3 else if f7=32/\f3=0 then 29 else if f7=32/\f3=5 then 35 else 0
def DX (f3 f7:Nat):Int:=if f3=1 then (if f7=0 then 25 else 0) else if f3=5 then (if f7=0 then 26 else if f7=32 then 27 else 0) else pD [19,0,20,21,22,0,23,24] f3
def lp (lo f3 f7:Nat):Int :=
 if lo=55 then 1 else if lo=23 then 2 else if lo=111 then 3 else if lo=103 then pD [4] f3 else if lo=99 then pD [5,6,0,0,7,8,9,10] f3 else if lo=3 then pD [11,12,13,0,14,15] f3
 else if lo=35 then pD [16,17,18] f3 else if lo=19 then DX f3 f7 else if lo=51 then Bv f3 f7 else 0
def nZ (w:Nat):Int:=if w=15 then 46 else if w=115 then 47 else if w=1048691 then 48 else lp (aD w 0 7) (aD w 12 3) (aD w 25 7)
def mp (k:Nat):Nat:=ci[k]?.getD 0
def wK (k lo f3 f7:Nat):Bool :=
 let f:=aI (k:Int)
 decide (lo=aD (mp k) 0 7) && ((decide (f=6\/f=7) || decide (f3=aD (mp k) 12 3)) && (decide (f=2\/f=4\/f=5\/f=6\/f=7) || decide (f7=aD (mp k) 25 7)))
def Dz {w Y' a s}(h:∀ i,i<s->Y'.testBit (a+i)=true):aD (w &&& Y') a s=aD w a s :=
 oo λi=>by
  rw [qH,qH,jW];by_cases hi:i<s
  .rw [h i hi,pG]
  .simp [hi]
def uE {w C a s}(h:aD w a s=aD C a s){i}(h1:a<=i)(h2:i<a+s):w.testBit i=C.testBit i:=by
 have:=jB (λx=>Nat.testBit x (i - a)) h;simp only [qH,show i - a<s by omega,rc,kb,show a+(i - a)=i by omega] at this;exact this
def Nw (i:Nat):Nat.testBit 4261441663 i=decide (i<7\/(12<=i/\i<15)\/(25<=i/\i<32)):=by
 by_cases hi:i<32
 .exact (by decide:∀ i:Fin 32,Nat.testBit 4261441663 i.val=decide ((λi:Nat=>i<7\/(12<=i/\i<15)\/(25<=i/\i<32)) i.val)) ⟨i,hi⟩
 .rw [pw ag O]
  symm
  exact dg O
def FN {w C}(hC:C &&& 4261441663=C):w &&& 4261441663=C↔(aD w 0 7=aD C 0 7/\aD w 12 3=aD C 12 3/\aD w 25 7=aD C 25 7):=by
 constructor
 .intro h
  subst h;(try refine ⟨?_,?_,?_⟩);(try refine ⟨?_,?_⟩)
  all_goals
   rw [Dz];intro i hi;rw [Nw];exact cU O
 .intro h
  refine oo λi=>?_
  rw [<- hC,jW,jW,Nw];by_cases hc:i<7\/(12<=i/\i<15)\/(25<=i/\i<32)
  .rw [cU hc,pG,pG]
   exact Bh
  .rw [dg hc,qr,qr]
def KW (i:Nat):Nat.testBit 28799 i=decide (i<7\/(12<=i/\i<15)):=by
 by_cases hi:i<32
 .exact (by decide:∀ i:Fin 32,Nat.testBit 28799 i.val=decide ((λi:Nat=>i<7\/(12<=i/\i<15)) i.val)) ⟨i,hi⟩
 .rw [pw ag O]
  symm
  exact dg O
def CZ {w C}(hC:C &&& 28799=C):w &&& 28799=C↔(aD w 0 7=aD C 0 7/\aD w 12 3=aD C 12 3):=by
 constructor
 .intro h
  subst h;(try refine ⟨?_,?_,?_⟩);(try refine ⟨?_,?_⟩)
  all_goals
   rw [Dz];intro i hi;rw [KW];exact cU O
 .intro h
  refine oo λi=>?_
  rw [<- hC,jW,jW,KW];by_cases hc:i<7\/(12<=i/\i<15)
  .rw [cU hc,pG,pG]
   exact Bh
  .rw [dg hc,qr,qr]
def JX (i:Nat):Nat.testBit 127 i=decide (i<7):=by
 by_cases hi:i<32
 .exact (by decide:∀ i:Fin 32,Nat.testBit 127 i.val=decide ((λi:Nat=>i<7) i.val)) ⟨i,hi⟩
 .rw [pw ag O]
  symm
  exact dg O
def Mx {w C}(hC:C &&& 127=C):w &&& 127=C↔(aD w 0 7=aD C 0 7):=by
 constructor
 .intro h
  subst h;(try refine ⟨?_,?_,?_⟩);(try refine ⟨?_,?_⟩)
  all_goals
   rw [Dz];intro i hi;rw [JX];exact cU O
 .intro h
  refine oo λi=>?_
  rw [<- hC,jW,jW,JX];by_cases hc:i<7
  .rw [cU hc,pG,pG]
   exact Bh
  .rw [dg hc,qr,qr]
def j2v : ∀ k:Fin 49,mp k.val &&& fr (aI (k.val:Int))=mp k.val:=by decide +kernel
def XW : ∀ k:Fin 46,1<=k.val->(aI (k.val:Int)=1\/aI (k.val:Int)=2\/aI (k.val:Int)=3\/aI (k.val:Int)=4\/aI (k.val:Int)=5\/aI (k.val:Int)=6\/aI (k.val:Int)=7):=by decide +kernel
def M5 {w k:Nat} (h1:1<=k) (h2:k<=45):(w &&& fr (aI (k:Int))=mp k)↔wK k (aD w 0 7) (aD w 12 3) (aD w 25 7)=true:=by
 have hm:=j2v ⟨k,by omega⟩;have hf:=XW ⟨k,by omega⟩ h1;dsimp only at hm hf;unfold wK;dsimp only;rcases hf with hf|hf|hf|hf|hf|hf|hf
 .rw [hf,show fr 1=4261441663 from rfl] at hm ⊢;rw [FN hm];simp
 .rw [hf,show fr 2=28799 from rfl] at hm ⊢;rw [CZ hm];simp
 .rw [hf,show fr 3=4261441663 from rfl] at hm ⊢;rw [FN hm];simp
 .rw [hf,show fr 4=28799 from rfl] at hm ⊢;rw [CZ hm];simp
 .rw [hf,show fr 5=28799 from rfl] at hm ⊢;rw [CZ hm];simp
 .rw [hf,show fr 6=127 from rfl] at hm ⊢;rw [Mx hm];simp
 .rw [hf,show fr 7=127 from rfl] at hm ⊢;rw [Mx hm];simp
def Y8 : ∀ k:Fin 46,1<=k.val -> ∀ f3:Fin 8,∀ f7:Fin 128,wK k.val (aD (mp k.val) 0 7) f3.val f7.val=true->lp (aD (mp k.val) 0 7) f3.val f7.val=(k.val:Int):=by decide +kernel
def rV (i:Nat):Nat:=[55,23,111,103,99,3,35,19,51][i]?.getD 0
def j2y : ∀ i:Fin 9,∀ f3:Fin 8,∀ f7:Fin 128,lp (rV i.val) f3.val f7.val≠0->1<=(lp (rV i.val) f3.val f7.val).toNat/\(lp (rV i.val) f3.val f7.val).toNat<=45/\0<=lp (rV i.val) f3.val f7.val/\wK (lp (rV i.val) f3.val f7.val).toNat (rV i.val) f3.val f7.val=true:=by decide +kernel
def ZF {lo f3 f7}(h:lp lo f3 f7≠0):∃ i:Fin 9,lo=rV i.val:=by
 unfold lp at h;by_cases h1:lo=55
 .exact ⟨0,h1⟩
 .by_cases h2:lo=23
  .exact ⟨1,h2⟩
  .by_cases h3:lo=111
   .exact ⟨2,h3⟩
   .by_cases h4:lo=103
    .exact ⟨3,h4⟩
    .by_cases h5:lo=99
     .exact ⟨4,h5⟩
     .by_cases h6:lo=3
      .exact ⟨5,h6⟩
      .by_cases h7:lo=35
       .exact ⟨6,h7⟩
       .by_cases h8:lo=19
        .exact ⟨7,h8⟩
        .by_cases h9:lo=51
         .exact ⟨8,h9⟩
         .rw [Y h1,Y h2,Y h3,Y h4,Y h5,Y h6,Y h7,Y h8,Y h9] at h
          exact absurd F h
def Xc : ∀ k:Fin 46,1<=k.val->aD (mp k.val) 0 7≠15/\aD (mp k.val) 0 7≠115:=by decide +kernel
def CD {w}:∀ (n op:Nat) {r:Nat},js w n op=some r->(w &&& fr (aI r)=mp r)/\op<=r/\r<op+n
 | 0,op,r,h=>fK
 | n+1,op,r,h=>by
  unfold js at h;split at h
  .rename_i hc
   injection h with h;subst h;exact ⟨hc,by omega,by omega⟩
  .have:=CD n (op+1) h
   exact ⟨this.1,by omega,by omega⟩
def Ma {w:Nat}:∀ (n op:Nat),js w n op=none -> ∀ k,op<=k->k<op+n -> ¬ (w &&& fr (aI (k:Int))=mp k)
 | 0,op,h,k,h1,h2=>by omega
 | n+1,op,h,k,h1,h2=>by
  unfold js at h;split at h
  .cases h
  .rename_i hc
   by_cases hk:k=op
   .subst hk;exact hc
   .exact Ma n (op+1) h k O O
def Lv {w}(hw:w<4294967296):w &&& 4294967295=w:=by
 rw [show (4294967295:Nat)=2 ^ 32 - 1 from rfl,wy];exact Nat.mod_eq_of_lt hw
def BI (w:Nat):aD w 12 3<8:=by unfold aD;rw [show (2:Nat) ^ 3 - 1=2 ^ 3 - 1 from rfl,wy];exact dy _ ag
def Bg (w:Nat):aD w 25 7<128:=by unfold aD;rw [wy];exact dy _ ag
def Od {w}(hw:w<4294967296):df w=(if nZ w=0 then none else some (bn (nZ w) w)):=by
 unfold df;cases hd:js w 48 1 with
 | some r=>
  obtain ⟨h1,h2,h3⟩:=CD 48 1 hd;have ho:nZ w=(r:Int):=by
   by_cases hr:r<=45
   .rw [M5 h2 hr] at h1
    have jP:aD w 0 7=aD (mp r) 0 7:=by
     unfold wK at h1;simp only [fi,iA] at h1;exact h1.1
    obtain ⟨n1,n2⟩:=Xc ⟨r,by omega⟩ h2;rw [jP] at h1;have:=Y8 ⟨r,by omega⟩ h2 ⟨_,BI w⟩ ⟨_,Bg w⟩ h1;dsimp only at n1 n2 this;unfold nZ;rw [Y (λe=>n1 Dp),Y (λe=>n2 Dp),Y (λe=>n2 Dp),jP];exact this
   .have h8:∀ k:Fin 49,45<k.val->fr (aI (k.val:Int))=4294967295:=by decide +kernel
    rw [h8 ⟨r,by omega⟩ jc,Lv hw] at h1;rcases (show r=46\/r=47\/r=48 by omega) with rfl|rfl|rfl
    .subst h1;rfl
    .subst h1;rfl
    .subst h1;rfl
  dsimp only;rw [ho,Y O]
 | none=>
  dsimp only;have hn:=Ma 48 1 hd;have h0:nZ w=0:=by
   unfold nZ;have g:∀ k:Nat,(k=46\/k=47\/k=48)->w≠mp k:=λk hk e=>by
    refine hn k O O ?_;have:fr (aI (k:Int))=4294967295:=by rcases hk with rfl|rfl|rfl <;> rfl
    rw [this,Lv hw,e]
   rw [Y (show ¬ w=15 from g 46 (.inl F)),Y (show ¬ w=115 from g 47 (.inr (.inl F))),Y (show ¬ w=1048691 from g 48 (.inr (.inr F)))];by_cases h:lp (aD w 0 7) (aD w 12 3) (aD w 25 7)=0
   .exact h
   .exfalso
    obtain ⟨i,hi⟩:=ZF h;have hm:=j2y i ⟨_,BI w⟩ ⟨_,Bg w⟩;dsimp only at hm;rw [<- hi] at hm;obtain ⟨m1,m2,m3,m4⟩:=hm h;have:=(M5 m1 m2).2 m4;exact hn _ m1 O this
  rw [aa h0]
def pJ {x a s v}(hx:x<2 ^ a)(h:a+s<=32)(hv:v<2 ^ s):bu x a s v=x+v * 2 ^ a:=by
 have hx32:x<2 ^ 32:=so hx (nT ag O);refine oo λi=>?_
 rw [Nk _ _ _ _ hx32 h,Nat.add_comm x,Nat.mul_comm v,Nat.testBit_two_pow_mul_add _ hx];by_cases h1:i<a
 .rw [Y O,aa h1]
 .rw [Y h1]
  by_cases h2:i<a+s
  .rw [aa ⟨by omega,h2⟩]
  .rw [Y O,EI (so hx (nT ag O)),EI (so hv (nT ag O))]
def iW (w a s):aD w a s<2 ^ s:=by unfold aD;rw [wy];exact dy _ (Nat.pos_of_ne_zero aF)
def fF (w a b:Nat):Nat:=aD w a (b - a+1)
def gz (w:Nat) (form:Int):Nat :=
 if form=73 then cz (fF w 20 31) 12 else if form=83 then cz (fF w 7 11+32 * fF w 25 31) 12
 else if form=66 then cz (2 * fF w 8 11+32 * fF w 25 30+2048 * fF w 7 7+4096 * fF w 31 31) 13 else if form=85 then 4096 * fF w 12 31
 else if form=74 then cz (2 * fF w 21 30+2048 * fF w 20 20+4096 * fF w 12 19+1048576 * fF w 31 31) 21 else if form=84 then fF w 20 24 else 0
def Bq : ∀ k:Fin 49,1<=k.val->(aI (k.val:Int)=1/\cG (k.val:Int)=82)\/(aI (k.val:Int)=2/\cG (k.val:Int)=73)\/(aI (k.val:Int)=3/\cG (k.val:Int)=84)\/(aI (k.val:Int)=4/\cG (k.val:Int)=83)\/(aI (k.val:Int)=5/\cG (k.val:Int)=66)\/(aI (k.val:Int)=6/\cG (k.val:Int)=85)\/(aI (k.val:Int)=7/\cG (k.val:Int)=74)\/(aI (k.val:Int)=8/\cG (k.val:Int)=87):=by decide +kernel
def pk (w a s:Nat) (h:ey (a:Int) (s:Int)=true):aV w (a:Int) (s:Int)=aD w a s:=by unfold aV;rw [aa h];rfl
def pF (w a s v:Nat) (h:ey (a:Int) (s:Int)=true):aw w (a:Int) (s:Int) v=bu w a s v:=by unfold aw;rw [aa h];rfl
def j3b {k:Nat} (h1:1<=k) (h2:k<=48) (w:Nat):gz w (cG (k:Int))=(bn (k:Int) w).imm:=by
 have sE:∀ x n:Nat,1<=n->n<=32->cJ x (n:Int)=cz x n:=λx n a b=>by unfold cJ;rw [Y O];rfl
 have b1:∀ a s,aD w a s<2 ^ s:=iW w;rcases Bq ⟨k,by omega⟩ h1 with ⟨hf,hr⟩|⟨hf,hr⟩|⟨hf,hr⟩|⟨hf,hr⟩|⟨hf,hr⟩|⟨hf,hr⟩|⟨hf,hr⟩|⟨hf,hr⟩
 all_goals
  dsimp only at hf hr;rw [hr];unfold bn;dsimp only;rw [hf]
 .rfl
 .show cz (aD w 20 12) 12=cJ (aw 0 (0:Nat) (12:Nat) (aV w (20:Nat) (12:Nat)) * 2 ^ 0 % 4294967296) ((12:Nat):Int)
  have:=b1 20 12;rw [pk _ _ _ F,pF _ _ _ _ F,pJ ag ag this,sE _ _ ag ag];congr 1;omega
 .show aD w 20 5=aw 0 (0:Nat) (5:Nat) (aV w (20:Nat) (5:Nat)) * 2 ^ 0 % 4294967296
  have:=b1 20 5;rw [pk _ _ _ F,pF _ _ _ _ F,pJ ag ag this];omega
 .show cz (aD w 7 5+32 * aD w 25 7) 12=cJ (aw (aw 0 (0:Nat) (5:Nat) (aV w (7:Nat) (5:Nat))) (5:Nat) (7:Nat) (aV w (25:Nat) (7:Nat)) * 2 ^ 0 % 4294967296) ((12:Nat):Int)
  have g1:=b1 7 5;have g2:=b1 25 7;rw [pk _ _ _ F,pk _ _ _ F,pF _ _ _ _ F,pF _ _ _ _ F,pJ ag ag g1,pJ O ag g2,sE _ _ ag ag];congr 1;omega
 .show cz (2 * aD w 8 4+32 * aD w 25 6+2048 * aD w 7 1+4096 * aD w 31 1) 13=cJ (aw (aw (aw (aw 0 (0:Nat) (4:Nat) (aV w (8:Nat) (4:Nat))) (4:Nat) (6:Nat) (aV w (25:Nat) (6:Nat))) (10:Nat) (1:Nat) (aV w (7:Nat) (1:Nat))) (11:Nat) (1:Nat) (aV w (31:Nat) (1:Nat)) * 2 ^ 1 % 4294967296) ((13:Nat):Int)
  have g1:=b1 8 4;have g2:=b1 25 6;have g3:=b1 7 1;exact IY
 .show 4096 * aD w 12 20=cJ (aw 0 (0:Nat) (20:Nat) (aV w (12:Nat) (20:Nat)) * 2 ^ 12 % 4294967296) ((32:Nat):Int)
  have g1:=b1 12 20;rw [pk _ _ _ F,pF _ _ _ _ F,pJ ag ag g1,sE _ _ ag ag];have e:cz ((0+aD w 12 20 * 2 ^ 0) * 2 ^ 12 % 4294967296) 32=(0+aD w 12 20 * 2 ^ 0) * 2 ^ 12 % 4294967296:=by
   refine oo λi=>?_
   rw [Em 32 i (dy _ ag) ag ag];by_cases hi:i<32
   .simp [hi]
   .rw [pw (dy _ ag) O];simp [hi]
  rw [e];omega
 .show cz (2 * aD w 21 10+2048 * aD w 20 1+4096 * aD w 12 8+1048576 * aD w 31 1) 21=cJ (aw (aw (aw (aw 0 (0:Nat) (10:Nat) (aV w (21:Nat) (10:Nat))) (10:Nat) (1:Nat) (aV w (20:Nat) (1:Nat))) (11:Nat) (8:Nat) (aV w (12:Nat) (8:Nat))) (19:Nat) (1:Nat) (aV w (31:Nat) (1:Nat)) * 2 ^ 1 % 4294967296) ((21:Nat):Int)
  have g1:=b1 21 10;have g2:=b1 20 1;have g3:=b1 12 8;exact IY
 .rfl
end
section
open Go.RowKit Wd
section
variable {P:Program} {ops:Array Oper} {rest:List Oper} {o:Oper} {a:Act} {Q:Exit->Act->World->Prop} {w0 w:World} {D0 D:List Da} {M:List Mu}
def iZ {t e:TypeId} {z:Value} {bytes n:Nat} {parts:Array (Nat × Operand)} (zs:List Int) (ho:o.op = .buildSlice t n parts) (E:St w0 D0 w M D) (md:parts.toList=(zs.zipIdx 0).map λx=>(x.2,Operand.const (Value.int .i64 x.1)))(h:∀ g w',St w0 D0 w' M (ab 1 (some ⟨g,0,none⟩) n n (aE zs)::D)->wpList P ops Q rest (a.put o.dst (.slice (some ⟨g,0,none⟩) n n)) w') (ig:o.guard=none:=by rfl) (ht:bF P t e z 1 bytes:=by exact fS _ _ _ _ _ rfl) (hn:n=zs.length:=by rfl) (h0:0<n:=by decide) (hm:n<=100:=by decide):wpList P ops Q (o::rest) a w:=by
 obtain ⟨hu,hi,i7,eW⟩:=ht;refine wpList_buildFlat ig t e n parts ho .i64 zs hu ?_ ?_ hn h0 O md ?_
 .cases hq:P.info? e with
  | none=>simp [hq] at hi
  | some i=>simp [hq] at hi;simp [hi.2.1]
 .cases hq:P.info? e with
  | none=>simp [hq] at hi
  | some i=>simp [hq] at hi;simp [hi.1]
 .have ic:=E.alloc e (aE zs)
  have mh:=ic.freezeB 0 aC 1 n n (by rw [nd,hn,dP]) (aM _) eT;exact h _ _ mh
end
def iB (x:Nat) (p q:Nat) (hx:x<4294967296) (hp:p<=q) (hq:q<32) (w:World) :Ca 153 #[U (x:Int),I (p:Int),I (q:Int)] w (RB w (U ((fF x p q:Nat):Int))):=by
 have HF:=V (λW=>show Ca 158 #[U (x:Int),I (p:Int),I ((q:Int) - (p:Int)+1)] W (RB W (U ((fF x p q:Nat):Int))) from by
  have h:=GN x p ((q:Int) - (p:Int)+1) W hx O O;have e:aV x (p:Int) ((q:Int) - (p:Int)+1)=fF x p q:=by
   rw [show (q:Int) - (p:Int)+1=((q - p+1:Nat):Int) by omega];exact pk _ _ _ (by rw [oD];omega)
  rwa [e] at h)
 go_enter func153,ntmps153;go_wp2_with (go_at_call 158;refine (HF.out _).mono ?_;rintro x J ⟨rfl,hb⟩);go_ret;exact ⟨rfl,hb⟩
def qn (A:Option Addr) (c n:Nat) (l:List Int) (k:Nat) (w:World) (hr:Rd w w.heap.size 1 A n c (aE l)) (hk:k<4294967296) (hn:n<=100) :Ca 188 #[.slice A n c,U (k:Int)] w (RB w (I (pD l k))):=by
 have E:=St.start w [ab 1 A n c (aE l)] (zC hr zN);have hl:l.length=n:=by have:=hr.len;rw [nd] at this;omega
 unfold pD;by_cases h:k<n
 .have hb:=V (show decide ((k:Int)<(n:Int))=true from cU O)
  obtain ⟨v,hv⟩:∃ v,l[k]?=some v:=⟨_,ba O⟩;rw [hv];have hc:(aE l)[k * 1]?=some (I v):=by rw [dP];exact pA hv
  clear hv hl hr;exact LT
 .have hb:=V (show decide ((k:Int)<(n:Int))=false from dg O)
  rw [nc O];clear hl hr h;exact LT
def jg {a b:Nat} {k:Int} (h:a=b) (hk:(b:Int)=k:=by rfl):Hid (decide ((a:Int)=k)=true):=V (cU O)
def gZ {a b:Nat} {k:Int} (h:¬ a=b) (hk:(b:Int)=k:=by rfl):Hid (decide ((a:Int)=k)=false):=V (dg O)
def Se (f3 f7:Nat) (h3:f3<4294967296) (w:World) :Ca 189 #[U (f3:Int),U (f7:Int)] w (RB w (I (DX f3 f7))):=by
 have E:=St.start w [] zN;have HP:=V (λ(g:Nat) (W:World) (h:Rd W W.heap.size 1 (some ⟨g,0,none⟩) 8 8 (aE [19,0,20,21,22,0,23,24]))=>qn (some ⟨g,0,none⟩) 8 8 _ f3 W h h3 ag);unfold DX;by_cases a1:f3=1
 .rw [aa a1]
  by_cases a2:f7=0
  .rw [aa a2]
   have e1:=jg (k:=1) a1;have e2:=jg (k:=0) a2;clear a1 a2;exact tZ
  .rw [Y a2]
   have e1:=jg (k:=1) a1;have e2:=gZ (k:=0) a2;clear a1 a2;exact tZ
 .rw [Y a1]
  have e1:=gZ (k:=1) a1;by_cases a3:f3=5
  .rw [aa a3]
   have e3:=jg (k:=5) a3;by_cases a2:f7=0
   .rw [aa a2]
    have e2:=jg (k:=0) a2;clear a1 a2 a3;exact tZ
   .rw [Y a2]
    have e2:=gZ (k:=0) a2;by_cases a4:f7=32
    .rw [aa a4]
     have e4:=jg (k:=32) a4;clear a1 a2 a3 a4;exact tZ
    .rw [Y a4]
     have e4:=gZ (k:=32) a4;clear a1 a2 a3 a4;exact tZ
  .rw [Y a3]
   have e3:=gZ (k:=5) a3;clear a1 a3;exact tZ
def j3d (f3 f7:Nat) (h3:f3<4294967296) (w:World) :Ca 190 #[U (f3:Int),U (f7:Int)] w (RB w (I (Bv f3 f7))):=by
 have E:=St.start w [] zN;have k6:=V (λ(g:Nat) (W:World) (h:Rd W W.heap.size 1 (some ⟨g,0,none⟩) 8 8 (aE [28,30,31,32,33,34,36,37]))=>qn (some ⟨g,0,none⟩) 8 8 _ f3 W h h3 ag);have k7:=V (λ(g:Nat) (W:World) (h:Rd W W.heap.size 1 (some ⟨g,0,none⟩) 8 8 (aE [38,39,40,41,42,43,44,45]))=>qn (some ⟨g,0,none⟩) 8 8 _ f3 W h h3 ag);unfold Bv;by_cases a1:f7=0
 .rw [aa a1]
  have e1:=jg (k:=0) a1;clear a1;exact uv
 .rw [Y a1]
  have e1:=gZ (k:=0) a1;by_cases a2:f7=1
  .rw [aa a2]
   have e2:=jg (k:=1) a2;clear a1 a2;exact uv
  .rw [Y a2]
   have e2:=gZ (k:=1) a2;by_cases a3:f7=32
   .have e3:=jg (k:=32) a3
    by_cases a4:f3=0
    .rw [aa ⟨a3,a4⟩]
     have e4:=jg (k:=0) a4;clear a1 a2 a3 a4;exact uv
    .rw [Y (λh=>a4 h.2)]
     have e4:=gZ (k:=0) a4;by_cases a5:f3=5
     .rw [aa ⟨a3,a5⟩]
      have e5:=jg (k:=5) a5;clear a1 a2 a3 a4 a5;exact uv
     .rw [Y (λh=>a5 h.2)]
      have e5:=gZ (k:=5) a5;clear a1 a2 a3 a4 a5;exact uv
   .rw [Y (λh=>a3 h.1),Y (λh=>a3 h.1)]
    have e3:=gZ (k:=32) a3;clear a1 a2 a3;exact uv
def Zm (x:Nat) (hx:x<4294967296) (w:World) :Ca 150 #[U (x:Int)] w (RB w (I (nZ x))):=by
 have E:=St.start w [] zN;have HA:=V (λW=>show Ca 153 #[U (x:Int),I 12,I 14] W (RB W (U ((aD x 12 3:Nat):Int))) from iB x 12 14 hx ag ag W);have HB:=V (λW=>show Ca 153 #[U (x:Int),I 25,I 31] W (RB W (U ((aD x 25 7:Nat):Int))) from iB x 25 31 hx ag ag W);have HC:=V (λW=>show Ca 153 #[U (x:Int),I 0,I 6] W (RB W (U ((aD x 0 7:Nat):Int))) from iB x 0 6 hx ag ag W);have h3:=BI x;have h7:=Bg x;unfold nZ;generalize aD x 12 3=f3 at *;generalize aD x 25 7=f7 at *;generalize aD x 0 7=lo at *;have HI:=V (λW=>Se f3 f7 O W);have HG:=V (λW=>j3d f3 f7 O W);have c1:(x=15/\(if x=15 then 46 else if x=115 then 47 else if x=1048691 then 48 else lp lo f3 f7)=46)\/(¬ x=15/\x=115/\(if x=15 then 46 else if x=115 then 47 else if x=1048691 then 48 else lp lo f3 f7)=47)\/(¬ x=15 /\ ¬ x=115/\x=1048691/\(if x=15 then 46 else if x=115 then 47 else if x=1048691 then 48 else lp lo f3 f7)=48)\/(¬ x=15 /\ ¬ x=115 /\ ¬ x=1048691/\(if x=15 then 46 else if x=115 then 47 else if x=1048691 then 48 else lp lo f3 f7)=lp lo f3 f7):=by
  by_cases a:x=15
  .exact .inl ⟨a,aa a⟩
  .by_cases b:x=115
   .exact .inr (.inl ⟨a,b,by rw [Y a,aa b]⟩)
   .by_cases c:x=1048691
    .exact .inr (.inr (.inl ⟨a,b,c,by rw [Y a,Y b,aa c]⟩))
    .exact .inr (.inr (.inr ⟨a,b,c,by rw [Y a,Y b,Y c]⟩))
 rcases c1 with ⟨a,r⟩|⟨a,b,r⟩|⟨a,b,c,r⟩|⟨a,b,c,r⟩
 .rw [r]
  have e1:=jg (k:=15) a;clear a r;exact BG
 .rw [r]
  have e1:=gZ (k:=15) a;have e2:=jg (k:=115) b;clear a b r;exact BG
 .rw [r]
  have e1:=gZ (k:=15) a;have e2:=gZ (k:=115) b;have e3:=jg (k:=1048691) c;clear a b c r;exact BG
 .rw [r]
  have e1:=gZ (k:=15) a;have e2:=gZ (k:=115) b;have e3:=gZ (k:=1048691) c;clear a b c r;unfold lp;by_cases q1:lo=55
  .rw [aa q1];have d1:=jg (k:=55) q1;clear q1;exact x6
  rw [Y q1];have d1:=gZ (k:=55) q1;by_cases q2:lo=23
  .rw [aa q2];have d2:=jg (k:=23) q2;clear q1 q2;exact x6
  rw [Y q2];have d2:=gZ (k:=23) q2;by_cases q3:lo=111
  .rw [aa q3];have d3:=jg (k:=111) q3;clear q1 q2 q3;exact x6
  rw [Y q3];have d3:=gZ (k:=111) q3;clear q1 q2 q3;by_cases q4:lo=103
  .rw [aa q4];have d4:=jg (k:=103) q4;clear q4
   (go_enter func150,ntmps150;go_wp2_with ((try refine zs ?_);(first|go_big_skip|(go_at_call 153;(first|((have G:=HA.out);(with_reducible refine (G _).mono ?_))|((have G:=HB.out);(with_reducible refine (G _).mono ?_))|((have G:=HC.out);(with_reducible refine (G _).mono ?_)));clear G;rintro x J ⟨rfl,hb⟩;replace E:=E.grow hb;clear hb)|((refine co F F F ?_);(try refine zs ?_))|((first|refine iZ [4] F E F ?_|refine iZ [5,6,0,0,7,8,9,10] F E F ?_|refine iZ [11,12,13,0,14,15] F E F ?_|refine iZ [16,17,18] F E F ?_);clear E;intro Z J E;(try refine zs ?_))|(go_at_call 188;refine E.cB (qn _ _ _ [4] f3 _ E.rdA O ag) ?_;clear E;intro J E)|(go_at_call 189;refine E.cB (HI.out _) ?_;clear E;intro J E)|(go_at_call 190;refine E.cB (HG.out _) ?_;clear E;intro J E)));go_ret;exact ⟨rfl,E.bel⟩)
  rw [Y q4];have d4:=gZ (k:=103) q4;by_cases q5:lo=99
  .rw [aa q5];have d5:=jg (k:=99) q5;clear q4 q5
   (go_enter func150,ntmps150;go_wp2_with ((try refine zs ?_);(first|go_big_skip|(go_at_call 153;(first|((have G:=HA.out);(with_reducible refine (G _).mono ?_))|((have G:=HB.out);(with_reducible refine (G _).mono ?_))|((have G:=HC.out);(with_reducible refine (G _).mono ?_)));clear G;rintro x J ⟨rfl,hb⟩;replace E:=E.grow hb;clear hb)|((refine co F F F ?_);(try refine zs ?_))|((first|refine iZ [4] F E F ?_|refine iZ [5,6,0,0,7,8,9,10] F E F ?_|refine iZ [11,12,13,0,14,15] F E F ?_|refine iZ [16,17,18] F E F ?_);clear E;intro Z J E;(try refine zs ?_))|(go_at_call 188;refine E.cB (qn _ _ _ [5,6,0,0,7,8,9,10] f3 _ E.rdA O ag) ?_;clear E;intro J E)|(go_at_call 189;refine E.cB (HI.out _) ?_;clear E;intro J E)|(go_at_call 190;refine E.cB (HG.out _) ?_;clear E;intro J E)));go_ret;exact ⟨rfl,E.bel⟩)
  rw [Y q5];have d5:=gZ (k:=99) q5;by_cases q6:lo=3
  .rw [aa q6];have d6:=jg (k:=3) q6;clear q4 q5 q6
   (go_enter func150,ntmps150;go_wp2_with ((try refine zs ?_);(first|go_big_skip|(go_at_call 153;(first|((have G:=HA.out);(with_reducible refine (G _).mono ?_))|((have G:=HB.out);(with_reducible refine (G _).mono ?_))|((have G:=HC.out);(with_reducible refine (G _).mono ?_)));clear G;rintro x J ⟨rfl,hb⟩;replace E:=E.grow hb;clear hb)|((refine co F F F ?_);(try refine zs ?_))|((first|refine iZ [4] F E F ?_|refine iZ [5,6,0,0,7,8,9,10] F E F ?_|refine iZ [11,12,13,0,14,15] F E F ?_|refine iZ [16,17,18] F E F ?_);clear E;intro Z J E;(try refine zs ?_))|(go_at_call 188;refine E.cB (qn _ _ _ [11,12,13,0,14,15] f3 _ E.rdA O ag) ?_;clear E;intro J E)|(go_at_call 189;refine E.cB (HI.out _) ?_;clear E;intro J E)|(go_at_call 190;refine E.cB (HG.out _) ?_;clear E;intro J E)));go_ret;exact ⟨rfl,E.bel⟩)
  rw [Y q6];have d6:=gZ (k:=3) q6;clear q4 q5 q6;by_cases q7:lo=35
  .rw [aa q7];have d7:=jg (k:=35) q7;clear q7
   exact Kq
  rw [Y q7];have d7:=gZ (k:=35) q7;by_cases q8:lo=19
  .rw [aa q8];have d8:=jg (k:=19) q8;clear q7 q8;exact E4
  rw [Y q8];have d8:=gZ (k:=19) q8;by_cases q9:lo=51
  .rw [aa q9];have d9:=jg (k:=51) q9;clear q7 q8 q9;exact E4
  rw [Y q9];have d9:=gZ (k:=51) q9;clear q7 q8 q9;exact Kq
end
section
open Go.RowKit Wd
def uW {x}(hx:x<4294967296){f:Nat->Nat}(hf:∀ i,i<32->f i=(x.testBit i).toNat):fz ((List.range 32).map f)=x :=
 oo λi=>by
  rw [EY 32 f (λi=>x.testBit i) hf];by_cases h:i<32
  .simp [h]
  .rw [pw hx O];simp [h]
def EF (p q):(p.toNat+q.toNat=2↔(p && q)=true)/\(0<p.toNat+q.toNat↔(p || q)=true)/\(p.toNat+q.toNat=1↔(p ^^ q)=true):=by
 cases p <;> cases q <;> simp
def Cc {P:Prop}[Decidable P]{b}(h:P↔b=true):(if P then 1 else 0:Nat)=b.toNat:=by
 cases b
 .rw [Y (λhp=>by have:=h.1 hp;cases this)];rfl
 .rw [aa (h.2 F)];rfl
def AB (x:Nat) (i:Nat) (w:World) (hx:x<4294967296) (hi:i<32) :Ca 196 #[U (x:Int),I (i:Int)] w (RB w (U (dj x i:Int))):=by
 refine (yl x i w hx hi).mono ?_;rintro e w' ⟨rfl,d,rfl⟩;exact ⟨rfl,af.drewN _ d⟩
def qJ (f:Nat->Nat) (k:Nat):List Value:=pj ((List.range k).map f)
def FO (f:Nat->Nat) (k:Nat):qJ f k++[U (f k:Int)]=qJ f (k+1):=EX k f
def PI (a b:Nat) (ha:a<4294967296) (hb:b<4294967296) (w:World) :Ca 194 #[I 1,U (a:Int),U (b:Int)] w (RB w (U ((a &&& b:Nat):Int))):=by
 have E:=St.start w [] zN;obtain ⟨f,hf⟩:∃ f:Nat->Nat,(λi=>if dj a i+dj b i=2 then 1 else 0)=f:=⟨_,rfl⟩;have cf:Hid (∀ i,f i=if dj a i+dj b i=2 then 1 else 0):=V (λi=>by rw [<- hf]);have hf1:∀ i,f i<=1:=λi=>by rw [cf.out];split <;> omega
 have hres:fz ((List.range 32).map f)=a &&& b:=uW (fJ Nat.and_le_left ha) (λi _=>by rw [cf.out,Cc (by rw [nz,nz];exact (EF _ _).1),jW]);have HO:=V (λ(A:Option Addr) (c:Nat) (W:World) (h:Rd W W.heap.size 1 A 32 c (qJ f 32))=>show Ca 199 #[.slice A 32 c] W λe w'=>e = .returned (U ((a &&& b:Nat):Int)) /\ ∃ m,w'=W.drewN m from by rw [<- hres];exact uI 32 f A c _ W h O hf1);exact Dm
def Qw (a b:Nat) (ha:a<4294967296) (hb:b<4294967296) (w:World) :Ca 194 #[I 2,U (a:Int),U (b:Int)] w (RB w (U ((a ||| b:Nat):Int))):=by
 have E:=St.start w [] zN;obtain ⟨f,hf⟩:∃ f:Nat->Nat,(λi=>if 0<dj a i+dj b i then 1 else 0)=f:=⟨_,rfl⟩;have cf:Hid (∀ i,f i=if 0<dj a i+dj b i then 1 else 0):=V (λi=>by rw [<- hf]);have hf1:∀ i,f i<=1:=λi=>by rw [cf.out];split <;> omega
 have hres:fz ((List.range 32).map f)=a ||| b:=uW (Nat.or_lt_two_pow (n:=32) ha hb) (λi _=>by rw [cf.out,Cc (by rw [nz,nz];exact (EF _ _).2.1),sm])
 have HO:=V (λ(A:Option Addr) (c:Nat) (W:World) (h:Rd W W.heap.size 1 A 32 c (qJ f 32))=>show Ca 199 #[.slice A 32 c] W λe w'=>e = .returned (U ((a ||| b:Nat):Int)) /\ ∃ m,w'=W.drewN m from by rw [<- hres];exact uI 32 f A c _ W h O hf1);exact Dm
def Yu (a b:Nat) (ha:a<4294967296) (hb:b<4294967296) (w:World) :Ca 194 #[I 3,U (a:Int),U (b:Int)] w (RB w (U ((a ^^^ b:Nat):Int))):=by
 have E:=St.start w [] zN;obtain ⟨f,hf⟩:∃ f:Nat->Nat,(λi=>if dj a i+dj b i=1 then 1 else 0)=f:=⟨_,rfl⟩;have cf:Hid (∀ i,f i=if dj a i+dj b i=1 then 1 else 0):=V (λi=>by rw [<- hf]);have hf1:∀ i,f i<=1:=λi=>by rw [cf.out];split <;> omega
 have hres:fz ((List.range 32).map f)=a ^^^ b:=uW (sH (n:=32) ha hb) (λi _=>by rw [cf.out,Cc (by rw [nz,nz];exact (EF _ _).2.2),Nat.testBit_xor]);have HO:=V (λ(A:Option Addr) (c:Nat) (W:World) (h:Rd W W.heap.size 1 A 32 c (qJ f 32))=>show Ca 199 #[.slice A 32 c] W λe w'=>e = .returned (U ((a ^^^ b:Nat):Int)) /\ ∃ m,w'=W.drewN m from by rw [<- hres];exact uI 32 f A c _ W h O hf1);exact Dm
def lT (a:Nat) (y:Int) (fill i:Nat):Nat:=if (i:Int) - y<0\/31<(i:Int) - y then fill else dj a ((i:Int) - y).toNat
def Er (a:Nat) (y:Int) (fill:Nat) (ha:a<4294967296) (hy : -31<=y/\y<=31) (jx:fill<=1) (w:World) :Ca 195 #[U (a:Int),I y,U (fill:Int)] w (RB w (U ((fz ((List.range 32).map (lT a y fill)):Nat):Int))):=by
 have E:=St.start w [] zN;have hf1:∀ i,lT a y fill i<=1:=λi=>by
  unfold lT;split
  .exact jx
  .exact uo _ _
 have HO:=V (λ(A:Option Addr) (c:Nat) (W:World) (h:Rd W W.heap.size 1 A 32 c (qJ (lT a y fill) 32))=>show Ca 199 #[.slice A 32 c] W λe w'=>e = .returned (U ((fz ((List.range 32).map (lT a y fill)):Nat):Int)) /\ ∃ m,w'=W.drewN m from uI 32 (lT a y fill) A c _ W h O hf1);have mk:Hid (∀ i,lT a y fill i=if (i:Int) - y<0\/31<(i:Int) - y then fill else dj a ((i:Int) - y).toNat):=V (λi=>rfl);generalize fz ((List.range 32).map (lT a y fill))=R at HO;generalize lT a y fill=f at *;clear hf1;go_enter func195,ntmps195;go_wp2_with ((try refine zs ?_);(first|go_big_skip|((first|(refine cT F F F ?_)|(refine fM F F F ?_));(try refine zs ?_))|(go_at_call 196;(have G:=HA.out);(with_reducible refine (G _).mono ?_);clear G;rintro x J ⟨rfl,hb⟩;replace E:=E.grow hb;clear hb)|(refine iD F E F ?_;clear E;intro Z J E)|(refine oq F E F F ?_;clear E;intro vN J E;(try simp only [zF] at E))|(refine nU F E ?_;clear E;intro Z J E)));go_loopw [7,8] (λv i wr=>∃ k:Nat,k<=32/\i = I (k:Int)/\St w [] wr [.own v 28 1 k (qJ f k)] []) (λ_ i _=>32 - (intOf i).toNat);case atStart=>exact ⟨0,by omega,rfl,E⟩
 case round=>
  clear E;obtain ⟨k,hk,rfl,E⟩:=hrel;by_cases bx:k<32
  .have hs:=FO f k
   rw [mk.out] at hs;by_cases h1:(k:Int) - y<0
   .rw [aa (.inl h1)] at hs
    have aJ:=V (cU h1);replace hs:=V hs;clear h1;exact CH
   .have aJ:=V (dg h1)
    by_cases h2:31<(k:Int) - y
    .rw [aa (.inr h2)] at hs
     have hb2:=V (cU h2);replace hs:=V hs;clear h1 h2;exact CH
    .rw [Y O] at hs
     have hb2:=V (dg h2);obtain ⟨j,hj⟩:=jS (show 0<=(k:Int) - y by omega);have HA:=λW=>AB a j W ha O
     rw [show ((k:Int) - y).toNat=j by omega] at hs;rw [<- hj] at HA;replace hs:=V hs;replace HA:=V HA;replace hj:=V hj;clear h1 h2;exact CH
  .obtain rfl:k=32:=by omega
   obtain ⟨A,c,rfl,E⟩:=E.freeze 0 aC
   (try simp only [zF] at E);go_wp2_with ((try refine zs ?_);(first|go_big_skip|(go_at_call 199;refine (HO.out _ _ _ E.rdA).mono ?_;rintro x J ⟨rfl,d1,rfl⟩;replace E:=E.grow (af.drewN _ d1))));go_ret;exact ⟨rfl,E.bel⟩
def TA {a s:Nat} (ha:a<4294967296) (hs:s<32):fz ((List.range 32).map (lT a (s:Int) 0))=a * 2 ^ s % 4294967296 :=
 uW (dy _ ag) λi hi=>by
  rw [show (4294967296:Nat)=2 ^ 32 from rfl,uK,w8];unfold lT;by_cases h:s<=i
  .rw [Y O,nz,show ((i:Int) - (s:Int)).toNat=i - s by omega]
   simp [hi,h]
  .rw [aa (.inl O)]
   simp [h]
def Ur {a s:Nat} (ha:a<4294967296) (hs:s<32):fz ((List.range 32).map (lT a (-(s:Int)) 0))=a / 2 ^ s :=
 uW (fJ (kK _ _) ha) λi hi=>by
  rw [fu];unfold lT;by_cases h:i+s<32
  .rw [Y O,nz,show ((i:Int) - -(s:Int)).toNat=i+s by omega]
  .rw [aa (.inr O),pw ha O]
   rfl
def j3f {a s i}(ha:a<4294967296)(hi:i<32):(un (sg a / 2 ^ s)).testBit i=if i+s<32 then a.testBit (i+s) else a.testBit 31:=by
 have h31:a.testBit 31=decide (2147483648<=a):=by
  rw [xG];apply vc.2;omega
 have key:un (sg a / 2 ^ s)=((if 2147483648<=a then a+(2 ^ (32+s) - 4294967296) else a) / 2 ^ s) % 4294967296:=by
  have hp:0<2 ^ s:=Nat.pos_of_ne_zero aF;unfold sg un;by_cases h:2147483648<=a
  .rw [Y O,aa h]
   have io:(2:Nat) ^ (32+s)=4294967296 * 2 ^ s:=by rw [Nat.pow_add]
   have ms:4294967296<=4294967296 * 2 ^ s:=Nat.le_mul_of_pos_right _ hp;have e1:((a+(2 ^ (32+s) - 4294967296):Nat):Int)=((a:Int) - 4294967296)+4294967296 * ((2 ^ s:Nat):Int):=by rw [io];omega
   have e2:(((a+(2 ^ (32+s) - 4294967296)) / 2 ^ s:Nat):Int)=((a:Int) - 4294967296) / ((2 ^ s:Nat):Int)+4294967296:=by
    rw [wk,e1,Int.add_mul_ediv_right _ _ O]
   have e3:((2:Int) ^ s)=((2 ^ s:Nat):Int):=by simp
   rw [e3];omega
  .rw [aa O,Y h]
   have e3:((2:Int) ^ s)=((2 ^ s:Nat):Int):=by simp
   rw [e3,<- wk];omega
 rw [key,show (4294967296:Nat)=2 ^ 32 from rfl,uK,fu];simp only [hi,rc,kb];by_cases h:2147483648<=a
 .have ms:(2:Nat) ^ 32<=2 ^ (32+s):=nT ag O
  have e:a+(2 ^ (32+s) - 2 ^ 32)=2 ^ 32 * (2 ^ s - 1)+a:=by
   have io:(2:Nat) ^ (32+s)=2 ^ 32 * 2 ^ s:=by rw [Nat.pow_add]
   have hp:0<2 ^ s:=Nat.pos_of_ne_zero aF;rw [io,Nat.mul_sub];omega
  rw [aa pZ,e,Nat.testBit_two_pow_mul_add _ (by simpa using ha)];by_cases gY:i+s<32
  .rw [aa gY,aa gY]
  .rw [Y gY,Y gY,h31,qA]
   simp [h];omega
 .rw [Y pZ]
  by_cases gY:i+s<32
  .rw [aa gY]
  .rw [Y gY,h31,pw ha O]
   simp [h]
def TV {a s:Nat} (ha:a<4294967296) (hs:s<32):fz ((List.range 32).map (lT a (-(s:Int)) (dj a 31)))=un (sg a / 2 ^ s) :=
 uW (vy _) λi hi=>by
  rw [j3f ha hi];unfold lT;by_cases h:i+s<32
  .rw [Y O,aa h,nz,show ((i:Int) - -(s:Int)).toNat=i+s by omega]
  .rw [aa (.inr O),Y h,nz]
end
section
open Go.RowKit Wd
def Uz (a b):(a / 65536) * (b / 65536)+((a % 65536) * (b / 65536)+(a % 65536) * (b % 65536) / 65536) / 65536+((a / 65536) * (b % 65536)+((a % 65536) * (b / 65536)+(a % 65536) * (b % 65536) / 65536) % 65536) / 65536=a * b / 4294967296:=by
 have h:a * b=4294967296 * ((a / 65536) * (b / 65536))+65536 * ((a / 65536) * (b % 65536)+(a % 65536) * (b / 65536))+(a % 65536) * (b % 65536):=by
  conv=>lhs;rw [<- Nat.div_add_mod a 65536,<- Nat.div_add_mod b 65536]
  generalize a / 65536=x;generalize b / 65536=y;generalize a % 65536=u;generalize b % 65536=v;rw [oa,Nat.mul_add,Nat.mul_add,Nat.mul_mul_mul_comm,Nat.mul_assoc 65536 x v,Nat.mul_left_comm u 65536 y];omega
 rw [h];generalize (a / 65536) * (b / 65536)=U';generalize (a / 65536) * (b % 65536)=T';generalize (a % 65536) * (b / 65536)=R';generalize (a % 65536) * (b % 65536)=L;omega
def zQ {a b}(ha:a<4294967296)(hb:b<4294967296):a * b<=4294967295 * 4294967295:=Nat.mul_le_mul O O
def P4 {a b:Nat} (ha:a<4294967296) (hb:b<4294967296):un (sg a * b / 4294967296)=if 2147483648<=a then (a * b / 4294967296+4294967296 - b) % 4294967296 else a * b / 4294967296:=by
 have hm:=zQ ha hb;unfold sg un;by_cases h:2147483648<=a
 .rw [Y O,aa h,Int.sub_mul]
  rw [<- m0];generalize a * b=m at *;omega
 .rw [aa O,Y h,<- m0]
  generalize a * b=m at *;omega
def j3i {a b}(ha:a<4294967296)(hb:b<4294967296):un (sg a * sg b / 4294967296)=(let h:=if 2147483648<=a then (a * b / 4294967296+4294967296 - b) % 4294967296 else a * b / 4294967296;if 2147483648<=b then (h+4294967296 - a) % 4294967296 else h):=by
 have hm:=zQ ha hb;unfold sg un;dsimp only;by_cases h:2147483648<=a
 .by_cases h2:2147483648<=b
  .rw [Y (show ¬ a<2147483648 by omega),Y (show ¬ b<2147483648 by omega),aa h,aa h2]
   have e:((a:Int) - 4294967296) * ((b:Int) - 4294967296)=((a * b:Nat):Int) - 4294967296 * (a+b)+18446744073709551616:=by
    rw [Int.sub_mul,Int.mul_sub,Int.mul_sub,m0];omega
   rw [e];generalize a * b=m at *;omega
  .rw [Y (show ¬ a<2147483648 by omega),aa (show b<2147483648 by omega),aa h,Y h2]
   rw [Int.sub_mul,<- m0];generalize a * b=m at *;omega
 .by_cases h2:2147483648<=b
  .rw [aa (show a<2147483648 by omega),Y (show ¬ b<2147483648 by omega),Y h,aa h2]
   rw [Int.mul_sub,<- m0];generalize a * b=m at *;omega
  .rw [aa (show a<2147483648 by omega),aa (show b<2147483648 by omega),Y h,Y h2,<- m0]
   generalize a * b=m at *;omega
def j3j (n:Int):un n=(if n.tmod 4294967296<0 then n.tmod 4294967296+4294967296 else n.tmod 4294967296).toNat:=by
 unfold un;have h:=Int.tmod_eq_emod (a:=n) (b:=4294967296);split at h <;> split <;> omega
def Ib {op:Int} (h:jC op=true) (a:Nat) (ha:a<4294967296):(aR op a:Int)=if sg a<0 then - sg a else sg a:=by
 unfold aR sg;by_cases h2:2147483648<=a
 .rw [aa ⟨h,h2⟩];split <;> split <;> omega
 .rw [Y (λx=>h2 x.2)];split <;> split <;> omega
def VM {a b}(ha:a<4294967296)(hb:b<4294967296):2147483648<=a ^^^ b ↔ ¬ (2147483648<=a↔2147483648<=b):=by
 have key:∀ x:Nat,x<4294967296->(2147483648<=x↔x.testBit 31=true):=λx hx=>by
  rw [xG,decide_eq_true_iff];omega
 rw [key _ (sH (n:=32) ha hb),key a ha,key b hb,Nat.testBit_xor];cases a.testBit 31 <;> cases b.testBit 31 <;> simp
def R3 {op}(h:jC op=true){a b}(ha:a<4294967296)(hb:b<4294967296):un ((sg a).tdiv (sg b))=lJ op (aR op a / aR op b) (a ^^^ b):=by
 have hx:=VM ha hb;unfold lJ;by_cases h1:2147483648<=a
 .by_cases h2:2147483648<=b
  .rw [Y (λx=>(hx.1 x.2) ⟨λ_=>h2,λ_=>h1⟩)]
   unfold aR;rw [aa ⟨h,h1⟩,aa ⟨h,h2⟩];have e1:sg a = -((4294967296 - a:Nat):Int):=by unfold sg;rw [Y O];omega
   have e2:sg b = -((4294967296 - b:Nat):Int):=by unfold sg;rw [Y O];omega
   rw [e1,e2,Int.neg_tdiv,Int.tdiv_neg,Int.neg_neg,<- xK];have:(4294967296 - a) / (4294967296 - b)<=2147483648:=iG (kK _ _) O;generalize (4294967296 - a) / (4294967296 - b)=q at *;unfold un;omega
  .rw [aa ⟨h,hx.2 (λx=>h2 (x.1 h1))⟩]
   unfold aR;rw [aa ⟨h,h1⟩,Y (λx=>h2 x.2)];have e1:sg a = -((4294967296 - a:Nat):Int):=by unfold sg;rw [Y O];omega
   have e2:sg b=(b:Int):=by unfold sg;rw [aa O]
   rw [e1,e2,Int.neg_tdiv,<- xK];have:(4294967296 - a) / b<=2147483648:=iG (kK _ _) O;generalize (4294967296 - a) / b=q at *;unfold un;omega
 .by_cases h2:2147483648<=b
  .rw [aa ⟨h,hx.2 (λx=>h1 (x.2 h2))⟩]
   unfold aR;rw [Y (λx=>h1 x.2),aa ⟨h,h2⟩];have e1:sg a=(a:Int):=by unfold sg;rw [aa O]
   have e2:sg b = -((4294967296 - b:Nat):Int):=by unfold sg;rw [Y O];omega
   rw [e1,e2,Int.tdiv_neg,<- xK];have:a / (4294967296 - b)<=2147483648:=iG (kK _ _) O;generalize a / (4294967296 - b)=q at *;unfold un;omega
  .rw [Y (λx=>(hx.1 x.2) ⟨λy=>absurd y h1,λy=>absurd y h2⟩)]
   unfold aR;rw [Y (λx=>h1 x.2),Y (λx=>h2 x.2)];have e1:sg a=(a:Int):=by unfold sg;rw [aa O]
   have e2:sg b=(b:Int):=by unfold sg;rw [aa O]
   rw [e1,e2,<- xK];have:a / b<=2147483648:=iG (kK _ _) O;generalize a / b=q at *;unfold un;omega
def R5 {op}(h:jC op=true){a b}(ha:a<4294967296)(hb:b<4294967296)(h0:b≠0):un ((sg a).tmod (sg b))=lJ op (aR op a % aR op b) a:=by
 have eb:∀ x:Int,x.tmod (sg b)=x.tmod ((aR op b:Nat):Int):=λx=>by
  unfold aR;by_cases h2:2147483648<=b
  .rw [aa ⟨h,h2⟩,show sg b = -((4294967296 - b:Nat):Int) by unfold sg;rw [Y O];omega,Int.tmod_neg]
  .rw [Y (λx=>h2 x.2),show sg b=(b:Int) by unfold sg;rw [aa O]]
 have hz:aR op b<=2147483648/\0<aR op b:=by
  unfold aR;split <;> rename_i hc
  .omega
  .have:¬ 2147483648<=b:=λx=>hc ⟨h,x⟩
   omega
 rw [eb];generalize aR op b=z at *;unfold lJ;by_cases h1:2147483648<=a
 .rw [aa ⟨h,h1⟩]
  unfold aR;rw [aa ⟨h,h1⟩,show sg a = -((4294967296 - a:Nat):Int) by unfold sg;rw [Y O];omega,Int.neg_tmod,<- Int.ofNat_tmod];have:(4294967296 - a) % z<z:=dy _ hz.2;unfold un;omega
 .rw [Y (λx=>h1 x.2)]
  unfold aR;rw [Y (λx=>h1 x.2),show sg a=(a:Int) by unfold sg;rw [aa O],<- Int.ofNat_tmod];have:a % z<z:=dy _ hz.2;unfold un;omega
section
variable {P:Program} {ops:Array Oper} {rest:List Oper} {o:Oper} {a:Act} {Q:Exit->Act->World->Prop} {w:World}
def uG {x y:Operand} {t t':TypeId} {p q r:Nat} (ho:o.op = .binOp .add t x y t') (hx:ac a x=some (.int .u64 (p:Int))) (hy:ac a y=some (.int .u64 (q:Int))) (h:wpList P ops Q rest (a.put o.dst (.int .u64 (r:Int))) w) (hr:Hid (p+q=r):=by with_reducible assumption) (hlt:r<18446744073709551616:=by (first|assumption|omega)) (hw:Region.wanted o (yielded ops a.tmps)=true:=by rfl):wpList P ops Q (o::rest) a w:=by
 replace hx:=ap hx;replace hy:=ap hy;have it:IntKind.u64.wrap ((p:Int)+(q:Int))=(r:Int):=by rw [show (p:Int)+(q:Int)=(r:Int) by rw [<- hr.out];simp];exact v5 O O
 exact Cm
def zJ {x y:Operand} {t t':TypeId} {p q r:Nat} (ho:o.op = .binOp .mul t x y t') (hx:ac a x=some (.int .u64 (p:Int))) (hy:ac a y=some (.int .u64 (q:Int))) (h:wpList P ops Q rest (a.put o.dst (.int .u64 (r:Int))) w) (hr:Hid (p * q=r):=by with_reducible assumption) (hlt:r<18446744073709551616:=by (first|assumption|omega)) (hw:Region.wanted o (yielded ops a.tmps)=true:=by rfl):wpList P ops Q (o::rest) a w:=by
 replace hx:=ap hx;replace hy:=ap hy;have it:IntKind.u64.wrap ((p:Int) * (q:Int))=(r:Int):=by rw [show (p:Int) * (q:Int)=(r:Int) by rw [<- hr.out];simp];exact v5 O O
 exact Cm
def L5 {x y:Operand} {t t':TypeId} {p q r:Nat} (ho:o.op = .binOp .sub t x y t') (hx:ac a x=some (.int .u64 (p:Int))) (hy:ac a y=some (.int .u64 (q:Int))) (h:wpList P ops Q rest (a.put o.dst (.int .u64 (r:Int))) w) (hr:Hid (p - q=r):=by with_reducible assumption) (hq:q<=p:=by (first|assumption|omega)) (hlt:p<18446744073709551616:=by (first|assumption|omega)) (hw:Region.wanted o (yielded ops a.tmps)=true:=by rfl):wpList P ops Q (o::rest) a w:=by
 replace hx:=ap hx;replace hy:=ap hy;have it:IntKind.u64.wrap ((p:Int) - (q:Int))=(r:Int):=by rw [show (p:Int) - (q:Int)=(r:Int) by have:=hr.out;omega];exact v5 O (by have:=hr.out;omega)
 exact Cm
def Jo {x y:Operand} {t t':TypeId} {p q r:Nat} (ho:o.op = .binOp .quo t x y t') (hx:ac a x=some (.int .u64 (p:Int))) (hy:ac a y=some (.int .u64 (q:Int))) (h:wpList P ops Q rest (a.put o.dst (.int .u64 (r:Int))) w) (hr:Hid (p / q=r):=by with_reducible assumption) (hp:p<18446744073709551616:=by (first|assumption|omega)) (hq:0<q:=by (first|assumption|omega)) (hw:Region.wanted o (yielded ops a.tmps)=true:=by rfl):wpList P ops Q (o::rest) a w:=by
 replace hx:=ap hx;replace hy:=ap hy;have hrl:r<18446744073709551616:=by rw [<- hr.out];exact fJ (kK _ _) hp
 exact LH
def tT {x y:Operand} {t t':TypeId} {p q r:Nat} (ho:o.op = .binOp .rem t x y t') (hx:ac a x=some (.int .u64 (p:Int))) (hy:ac a y=some (.int .u64 (q:Int))) (h:wpList P ops Q rest (a.put o.dst (.int .u64 (r:Int))) w) (hr:Hid (p % q=r):=by with_reducible assumption) (hp:p<18446744073709551616:=by (first|assumption|omega)) (hq:0<q:=by (first|assumption|omega)) (hw:Region.wanted o (yielded ops a.tmps)=true:=by rfl):wpList P ops Q (o::rest) a w:=by
 replace hx:=ap hx;replace hy:=ap hy;have hrl:r<18446744073709551616:=by rw [<- hr.out];exact fJ (qV _ _) hp
 exact LH
def yL {src dst:TypeId} {x:Operand} {p:Nat} (ho:o.op = .convert src dst x) (hx:ac a x=some (.int .u64 (p:Int))) (hs:P.underlying src=some (.int .u64)) (hd:P.underlying dst=some (.int .u32)) (h:wpList P ops Q rest (a.put o.dst (U (p:Int))) w) (hp:p<4294967296:=by (first|assumption|omega)) (hw:Region.wanted o (yielded ops a.tmps)=true:=by rfl):wpList P ops Q (o::rest) a w:=by
 replace hx:=ap hx;refine cI hw λK X=>?_
 have ip:(execOp a.eval o).run P w = .ok (.value (U (p:Int))) w:=by
  unfold execOp;simp only [ho,hx];simp [convert,eH hs,eH hd,Cv hp,go_sem]
 unfold Oper.wp;rw [ip];exact X _ _ h
def Tg {x y:Operand} {t t':TypeId} {p q r:Nat} (ho:o.op = .binOp .sub t x y t') (hx:ac a x=some (U (p:Int))) (hy:ac a y=some (U (q:Int))) (h:wpList P ops Q rest (a.put o.dst (U (r:Int))) w) (hr:Hid ((p+4294967296 - q) % 4294967296=r):=by with_reducible assumption) (hq:q<4294967296:=by (first|assumption|omega)) (hw:Region.wanted o (yielded ops a.tmps)=true:=by rfl):wpList P ops Q (o::rest) a w:=by
 replace hx:=ap hx;replace hy:=ap hy;refine cI hw λK X=>?_
 have ip:(execOp a.eval o).run P w = .ok (.value (U (r:Int))) w:=by
  unfold execOp;simp only [ho,hx,hy];go_simp;rw [IntKind.wrap_u32'];have:=hr.out;rw [show ((p:Int) - (q:Int)) % 4294967296=(r:Int) by omega]
 unfold Oper.wp;rw [ip];exact X _ _ h
end
def ob (a:Nat) (ha:a<4294967296) (w:World):Ca 192 #[U (a:Int)] w λe w'=>e = .returned (I (sg a))/\w'=w:=by
 unfold sg;by_cases h:a<2147483648
 .rw [aa h]
  have hb:=V (show decide ((2147483648:Int)<=(a:Int))=false from dg O);go_enter func192,ntmps192;exact Dc
 .rw [Y h]
  have hb:=V (show decide ((2147483648:Int)<=(a:Int))=true from cU O);go_enter func192,ntmps192;exact Dc
def N9 (b w):Ca 197 #[.bool b] w λe w'=>e = .returned (U ((kX b:Nat):Int))/\w'=w:=by
 cases b
 .go_enter func197,ntmps197
  go_wp2;go_ret;exact ⟨rfl,rfl⟩
 .go_enter func197,ntmps197
  go_wp2;go_ret;exact ⟨rfl,rfl⟩
def ST (a b:Nat) (ha:a<4294967296) (hb:b<4294967296) (w:World):Ca 191 #[U (a:Int),U (b:Int)] w λe w'=>e = .returned (U ((a * b / 4294967296:Nat):Int))/\w'=w:=by
 have hlt:a * b / 4294967296<4294967296:=by have:=zQ ha hb;omega
 rw [<- Uz] at hlt ⊢;have cj:a / 65536<65536:=by omega
 have hx2:b / 65536<65536:=by omega
 have hx3:a % 65536<65536:=by omega
 have hx4:b % 65536<65536:=by omega
 obtain ⟨ah,e1⟩:∃ x,a / 65536=x:=⟨_,rfl⟩;obtain ⟨bh,e2⟩:∃ x,b / 65536=x:=⟨_,rfl⟩;obtain ⟨al,e3⟩:∃ x,a % 65536=x:=⟨_,rfl⟩;obtain ⟨bl',e4⟩:∃ x,b % 65536=x:=⟨_,rfl⟩;rw [e1,e2,e3,e4] at hlt ⊢;rw [e1] at cj;rw [e2] at hx2;rw [e3] at hx3;rw [e4] at hx4;have key:∀ {x y:Nat},x<65536->y<65536->x * y<=65535 * 65535:=λhx hy=>Nat.mul_le_mul O O
 have k1:=key hx3 hx4;have k2:=key hx3 hx2;have k3:=key cj hx4;have k4:=key cj hx2;clear key;obtain ⟨low,e5⟩:∃ x,al * bl'=x:=⟨_,rfl⟩;obtain ⟨m1,e6⟩:∃ x,al * bh=x:=⟨_,rfl⟩;obtain ⟨m2,e7⟩:∃ x,ah * bl'=x:=⟨_,rfl⟩;obtain ⟨h1,e8⟩:∃ x,ah * bh=x:=⟨_,rfl⟩;rw [e5,e6,e7,e8] at hlt ⊢;rw [e5] at k1;rw [e6] at k2;rw [e7] at k3;rw [e8] at k4;obtain ⟨lq,e9⟩:∃ x,low / 65536=x:=⟨_,rfl⟩;rw [e9] at hlt ⊢;obtain ⟨mid,e10⟩:∃ x,m1+lq=x:=⟨_,rfl⟩;rw [e10] at hlt ⊢;obtain ⟨mr,e11⟩:∃ x,mid % 65536=x:=⟨_,rfl⟩;obtain ⟨mq,e12⟩:∃ x,mid / 65536=x:=⟨_,rfl⟩;rw [e11,e12] at hlt ⊢;obtain ⟨more,e13⟩:∃ x,m2+mr=x:=⟨_,rfl⟩;rw [e13] at hlt ⊢;obtain ⟨mo,e14⟩:∃ x,more / 65536=x:=⟨_,rfl⟩;obtain ⟨h2,e15⟩:∃ x,h1+mq=x:=⟨_,rfl⟩;rw [e14,e15] at hlt ⊢;obtain ⟨h3,e16⟩:∃ x,h2+mo=x:=⟨_,rfl⟩;rw [e16] at hlt ⊢;have e17:h3 % 4294967296=h3:=Nat.mod_eq_of_lt hlt;have b1:lq<65536:=by omega
 have b2:mid<4294967296:=by omega
 have b3:more<4294967296:=by omega
 have b4:h2<8589934592:=by omega
 have b5:low<4294967296:=by omega
 replace e1:=V e1;replace e2:=V e2;replace e3:=V e3;replace e4:=V e4;replace e5:=V e5;replace e6:=V e6;replace e7:=V e7;replace e8:=V e8;replace e9:=V e9;replace e10:=V e10;replace e11:=V e11;replace e12:=V e12;replace e13:=V e13;replace e14:=V e14;replace e15:=V e15;replace e16:=V e16;replace e17:=V e17;go_enter func191,ntmps191;go_wp2_with ((try refine zs ?_);(first|go_big_skip|((refine rS F F underlying28 underlying181 ?_);refine zs ?_)|((refine yL F F underlying181 underlying28 ?_);refine zs ?_)|((first|refine uG F F F ?_|refine zJ F F F ?_|refine Jo (q:=65536) F F F ?_|refine tT (q:=65536) F F F ?_|refine tT (q:=4294967296) F F F ?_);refine zs ?_)|((refine jn (q:=65536) F F F ?_ (hr:=by with_reducible assumption));(try refine zs ?_))|((refine vj (q:=65536) F F F ?_ (hr:=by with_reducible assumption));(try refine zs ?_))));go_ret;exact ⟨rfl,rfl⟩
def QI (op:Int):op=38\/op=39\/op=40\/op=41\/(fc op 0 0=0/\(∀ a b,fc op a b=0)/\(op == 38)=false/\(op == 39)=false/\(op == 40)=false/\(op == 41)=false):=by
 by_cases h:op=38\/op=39\/op=40\/op=41
 .omega
 .have key:∀ c:Int,op≠c->(op == c)=false:=λc h=>by simpa using h
  refine .inr (.inr (.inr (.inr ⟨?_,?_,key _ O,key _ O,key _ O,key _ O⟩)))
  .unfold fc;rw [Y O,Y O,Y O,Y O]
  .intro a b
   unfold fc;rw [Y O,Y O,Y O,Y O]
def G' (op:Int) (a b:Nat) (ha:a<4294967296) (hb:b<4294967296) (w:World):Ca 155 #[I op,U (a:Int),U (b:Int)] w λe w'=>e = .returned (U ((fc op a b:Nat):Int))/\w'=w:=by
 have HH:=λW=>ST a b ha hb W
 have hm:=zQ ha hb;obtain ⟨m,cv⟩:∃ m,a * b=m:=⟨_,rfl⟩;obtain ⟨hi,cn⟩:∃ x,a * b / 4294967296=x:=⟨_,rfl⟩;have hil:hi<4294967296:=by omega
 obtain ⟨r,hr⟩:∃ r,fc op a b=r:=⟨_,rfl⟩;rw [hr];rw [cn] at HH;rcases QI op with rfl|rfl|rfl|rfl|⟨_,h0,c1,c2,c3,c4⟩
 .have hR:Hid (r=m % 4294967296):=V (by rw [<- hr,<- cv];rfl)
  obtain ⟨lo,jP⟩:∃ x,m % 4294967296=x:=⟨_,rfl⟩;rw [jP] at hR;obtain rfl:=hR.out;have nh:r<4294967296:=by omega
  rw [cv] at hm;replace HH:=V HH;replace cv:=V cv;replace jP:=V jP;clear hr cn hR;exact p9
 .have hE:=j3i ha hb
  rw [cn] at hE;dsimp only at hE;rw [show fc 39 a b=un (sg a * sg b / 4294967296) from rfl,hE] at hr;clear hE cv cn;by_cases h1:2147483648<=a
  .rw [aa h1] at hr
   have f1:=V (show decide ((2147483648:Int)<=(a:Int))=true from cU O);obtain ⟨x1,cj⟩:∃ x,(hi+4294967296 - b) % 4294967296=x:=⟨_,rfl⟩;rw [cj] at hr;have nj:x1<4294967296:=by omega
   by_cases h2:2147483648<=b
   .rw [aa h2] at hr
    have f2:=V (show decide ((2147483648:Int)<=(b:Int))=true from cU O);replace HH:=V HH;replace hr:=V hr;replace cj:=V cj;exact p9
   .rw [Y h2] at hr
    subst hr;have f2:=V (show decide ((2147483648:Int)<=(b:Int))=false from dg O);replace HH:=V HH;replace cj:=V cj;exact p9
  .rw [Y h1] at hr
   have f1:=V (show decide ((2147483648:Int)<=(a:Int))=false from dg O);by_cases h2:2147483648<=b
   .rw [aa h2] at hr
    have f2:=V (show decide ((2147483648:Int)<=(b:Int))=true from cU O);replace HH:=V HH;replace hr:=V hr;exact p9
   .rw [Y h2] at hr
    subst hr;have f2:=V (show decide ((2147483648:Int)<=(b:Int))=false from dg O);replace HH:=V HH;exact p9
 .have hE:=P4 ha hb
  rw [cn] at hE;rw [show fc 40 a b=un (sg a * b / 4294967296) from rfl,hE] at hr;clear hE cv cn;by_cases h1:2147483648<=a
  .rw [aa h1] at hr
   have f1:=V (show decide ((2147483648:Int)<=(a:Int))=true from cU O);replace HH:=V HH;replace hr:=V hr;exact p9
  .rw [Y h1] at hr
   subst hr;have f1:=V (show decide ((2147483648:Int)<=(a:Int))=false from dg O);replace HH:=V HH;exact p9
 .rw [show fc 41 a b=a * b / 4294967296 from rfl,cn] at hr
  subst hr;replace HH:=V HH;clear cv cn;exact p9
 .rw [h0] at hr
  subst hr;replace HH:=V HH;clear cv cn h0;exact p9
def Ot (op:Int):op=5\/op=6\/op=7\/op=8\/op=9\/op=10\/((∀ a b,eh op a b=false)/\(op == 5)=false/\(op == 6)=false/\(op == 7)=false/\(op == 8)=false/\(op == 9)=false/\(op == 10)=false):=by
 by_cases h:op=5\/op=6\/op=7\/op=8\/op=9\/op=10
 .omega
 .have key:∀ c:Int,op≠c->(op == c)=false:=λc h=>by simpa using h
  refine .inr (.inr (.inr (.inr (.inr (.inr ⟨?_,key _ O,key _ O,key _ O,key _ O,key _ O,key _ O⟩)))));intro a b;unfold eh;rw [Y O,Y O,Y O,Y O,Y O,Y O]
def j3r (op:Int) (a b:Nat) (ha:a<4294967296) (hb:b<4294967296) (w:World):Ca 160 #[I op,U (a:Int),U (b:Int)] w λe w'=>e = .returned (.bool (eh op a b))/\w'=w:=by
 have bX:=V (λW=>ob a ha W);have ca:=V (λW=>ob b hb W);rcases Ot op with rfl|rfl|rfl|rfl|rfl|rfl|⟨h0,c1,c2,c3,c4,c5,c6⟩
 .obtain ⟨t,ht⟩:∃ t,decide ((a:Int)=(b:Int))=t:=⟨_,rfl⟩
  rw [show eh 5 a b=t from by rw [<- ht];show decide (a=b)=_;exact vc.2 O];exact tK
 .obtain ⟨t,ht⟩:∃ t,decide ((a:Int)=(b:Int))=t:=⟨_,rfl⟩
  rw [show eh 6 a b = !t from by rw [<- ht];show decide (a≠b)=_;by_cases h:a=b <;> simp [h];omega];exact tK
 .obtain ⟨t,ht⟩:∃ t,decide (sg a<sg b)=t:=⟨_,rfl⟩
  rw [show eh 7 a b=t from ht];exact tK
 .obtain ⟨t,ht⟩:∃ t,decide (sg a<sg b)=t:=⟨_,rfl⟩
  rw [show eh 8 a b = !t from by rw [<- ht];show decide (sg b<=sg a)=_;by_cases h:sg a<sg b <;> simp [h] <;> omega];exact tK
 .obtain ⟨t,ht⟩:∃ t,decide ((a:Int)<(b:Int))=t:=⟨_,rfl⟩
  rw [show eh 9 a b=t from by rw [<- ht];show decide (a<b)=_;exact vc.2 O];exact tK
 .obtain ⟨t,ht⟩:∃ t,decide ((a:Int)<(b:Int))=t:=⟨_,rfl⟩
  rw [show eh 10 a b = !t from by rw [<- ht];show decide (b<=a)=_;by_cases h:a<b <;> simp [h] <;> omega];exact tK
 .rw [h0]
  clear h0;exact Jy
end
section
open Go.RowKit Wd
section
variable {P:Program} {ops:Array Oper} {rest:List Oper} {o:Oper} {a:Act} {Q:Exit->Act->World->Prop} {w:World}
def w_i64Quo {x y:Operand} {t t':TypeId} {p q r:Int} (ho:o.op = .binOp .quo t x y t') (hx:ac a x=some (I p)) (hy:ac a y=some (I q)) (h:wpList P ops Q rest (a.put o.dst (I r)) w) (hr:Hid (Int.tdiv p q=r):=by with_reducible assumption) (h0:¬ q=0:=by assumption) (h1 : I6 r:=by omega) (hw:Region.wanted o (yielded ops a.tmps)=true:=by rfl):wpList P ops Q (o::rest) a w:=by
 replace hx:=ap hx;replace hy:=ap hy;have it:IntKind.i64.wrap (Int.tdiv p q)=r:=by rw [hr.out];simp only [IntKind.wrap,IntKind.bits,IntKind.signed];simp;omega
 exact NU
def FD {x y:Operand} {t t':TypeId} {p q r:Int} (ho:o.op = .binOp .rem t x y t') (hx:ac a x=some (I p)) (hy:ac a y=some (I q)) (h:wpList P ops Q rest (a.put o.dst (I r)) w) (hr:Hid (Int.tmod p q=r):=by with_reducible assumption) (h0:¬ q=0:=by assumption) (h1 : I6 r:=by omega) (hw:Region.wanted o (yielded ops a.tmps)=true:=by rfl):wpList P ops Q (o::rest) a w:=by
 replace hx:=ap hx;replace hy:=ap hy;have it:IntKind.i64.wrap (Int.tmod p q)=r:=by rw [hr.out];simp only [IntKind.wrap,IntKind.bits,IntKind.signed];simp;omega
 exact NU
def Ls {src dst:TypeId} {x:Operand} {p:Int} {r:Nat} (ho:o.op = .convert src dst x) (hx:ac a x=some (I p)) (hs:P.underlying src=some (.int .i64)) (hd:P.underlying dst=some (.int .u32)) (h:wpList P ops Q rest (a.put o.dst (U (r:Int))) w) (hr:Hid (un p=r):=by with_reducible assumption) (hw:Region.wanted o (yielded ops a.tmps)=true:=by rfl):wpList P ops Q (o::rest) a w:=by
 replace hx:=ap hx;have e:p % 4294967296=(r:Int):=by rw [<- hr.out];unfold un;omega
 refine cI hw λK X=>?_
 have ip:(execOp a.eval o).run P w = .ok (.value (U (r:Int))) w:=by
  unfold execOp;simp only [ho,hx];simp [convert,eH hs,eH hd,IntKind.wrap_u32',go_sem,e]
 unfold Oper.wp;rw [ip];exact X _ _ h
end
def Zp (n:Int) (hn : I6 n) (w:World):Ca 193 #[I n] w λe w'=>e = .returned (U ((un n:Nat):Int))/\w'=w:=by
 obtain ⟨m,hm⟩:∃ m,n.tmod 4294967296=m:=⟨_,rfl⟩;have nl : -4294967296<m/\m<4294967296:=by
  rw [<- hm];have:=Int.tmod_lt_of_pos n (show (0:Int)<4294967296 by decide);have h2:=Int.tmod_eq_emod (a:=n) (b:=4294967296);split at h2 <;> omega
 have hw:=j3j n;rw [hm] at hw;obtain ⟨r,hr⟩:∃ r,un n=r:=⟨_,rfl⟩;rw [hr] at hw ⊢;replace hm:=V hm;by_cases h:m<0
 .rw [aa h] at hw
  have hb:=V (cU h);have hu:=V (show un (m+4294967296)=r by unfold un;omega);exact Mv
 .rw [Y h] at hw
  have hb:=V (dg h);have hu:=V (show un m=r by unfold un;omega);exact Mv
def Kf (a:Nat) (ha:a<4294967296) (w:World):Ca 162 #[U (a:Int)] w λe w'=>e = .returned (I ((iR 32 a:Nat):Int))/\w'=w:=by
 obtain ⟨R,hR⟩:∃ R,iR 32 a=R:=⟨_,rfl⟩;have np:R<=32:=by rw [<- hR];exact tw 32 a
 rw [hR];go_enter func162,ntmps162;go_wp2;go_loopw [0,3] (λx i wr=>∃ (y k f:Nat),x = U (y:Int)/\i = I (k:Int)/\y<4294967296/\k+iR f y=R/\y<2 ^ f/\k+f<=32/\wr=w) (λx _ _=>(intOf x).toNat);case atStart=>exact ⟨a,0,32,rfl,rfl,ha,by omega,by simpa using ha,by omega,by first|rfl|trivial⟩
 case round=>
  obtain ⟨y,k,f,rfl,rfl,hy,hk,gl,fh,rfl⟩:=hrel;by_cases h0:y=0
  .subst h0
   have hb:=V (show decide ((0:Int)<((0:Nat):Int))=false from rfl);obtain rfl:k=R:=by cases f <;> simp [iR] at hk <;> omega
   clear hk gl hR;exact Dc
  .have hb:=V (show decide ((0:Int)<(y:Int))=true from cU O)
   cases f with
   | zero=>simp at gl;omega
   | succ f=>
    unfold iR at hk;rw [Y h0] at hk;obtain ⟨z,hz⟩:∃ z,y / 2=z:=⟨_,rfl⟩;have pe:z<2 ^ f:=by rw [Nat.pow_succ] at gl;omega
    rw [hz] at hk;have nq:z<y:=by omega
    replace hz:=V hz;replace hk:=V hk;clear gl;go_wp2_with ((try refine zs ?_);(first|go_big_skip|((first|(refine fw F F F ?_)|(refine cT F F F ?_)|(refine co F F F ?_)|(refine fM F F F ?_));(try refine zs ?_))|((refine vj (q:=2) F F F ?_ (hr:=by with_reducible assumption));(try refine zs ?_))));go_roundw;case rel=>exact ⟨z,k+1,f,rfl,by go_num,by omega,by have:=hk.out;omega,pe,by omega,by first|rfl|trivial⟩
    case measure=>exact zM
def Xr (op:Int):(op=42/\jC op=true)\/(op=44/\jC op=true)\/(jC op=false/\(op == 42)=false/\(op == 44)=false):=by
 by_cases h:op=42
 .exact .inl ⟨h,by simp [jC,h]⟩
 .by_cases h2:op=44
  .exact .inr (.inl ⟨h2,by simp [jC,h2]⟩)
  .exact .inr (.inr ⟨by simp [jC,h,h2],by simpa using h,by simpa using h2⟩)
def MP (op:Int) (a:Nat) (ha:a<4294967296) (w:World):Ca 161 #[I op,U (a:Int)] w λe w'=>e = .returned (I ((aR op a:Nat):Int))/\w'=w:=by
 have HS:=V (λW=>ob a ha W);rcases Xr op with ⟨rfl,h⟩|⟨rfl,h⟩|⟨h,c1,c2⟩
 .have hz:=Ib h a ha
  exact FJ
 .have hz:=Ib h a ha
  exact FJ
 .have hz:Hid (((aR op a:Nat):Int)=(a:Int)):=V (by unfold aR;rw [h];simp)
  have hb:=V (show decide ((a:Int)<0)=false from dg O);clear h;exact Ei
def KK (op:Int) {a:Nat} (ha:a<4294967296):aR op a<4294967296:=by unfold aR;split <;> omega
def YR (op:Int) (a b:Nat) (ha:a<4294967296) (hb:b<4294967296) (w:World):Ca 104 #[I op,U (a:Int),U (b:Int)] w λe w'=>e = .returned (I (eJ op a b))/\w'=w:=by
 have bX:=V (λW=>MP op a ha W);have ca:=V (λW=>MP op b hb W);have mt:=KK op ha;have j7:=KK op hb;obtain ⟨R,hR⟩:∃ R,eJ op a b=R:=⟨_,rfl⟩;unfold eJ at hR ⊢;rw [hR];generalize aR op a=x at *;generalize aR op b=y at *;have gM:=λW=>Kf x mt W
 have gN:=λW=>Kf y j7 W
 have nr:=tw 32 x;have ns:=tw 32 y;generalize iR 32 x=u at *;generalize iR 32 y=v at *;have ux:=V (show un (x:Int)=x by unfold un;omega);have uy:=V (show un (y:Int)=y by unfold un;omega);replace gM:=V gM;replace gN:=V gN;by_cases h1:op<42
 .rw [aa (.inl h1)] at hR
  subst hR;have hR:Hid ((0:Int)=0):=V F;have f1:=V (cU h1);clear h1;exact xm
 .have f1:=V (dg h1)
  by_cases h2:45<op
  .rw [aa (.inr h2)] at hR
   subst hR;have hR:Hid ((0:Int)=0):=V F;have f2:=V (cU h2);clear h1 h2;exact xm
  .have f2:=V (dg h2)
   rw [Y O] at hR;clear h1 h2;by_cases h3:b=0
   .rw [aa (.inl h3)] at hR
    subst hR;have hR:Hid ((2:Int)=2):=V F;have f3:=V (show decide ((b:Int)=0)=true from cU O);clear h3;exact xm
   .have f3:=V (show decide ((b:Int)=0)=false from dg O)
    by_cases h4:x<y
    .rw [aa (.inr h4)] at hR
     subst hR;have hR:Hid ((2:Int)=2):=V F;have f4:=V (show decide ((x:Int)<(y:Int))=true from cU O);clear h3 h4;exact xm
    .rw [Y O] at hR
     have f4:=V (show decide ((x:Int)<(y:Int))=false from dg O);have hR:Hid ((3:Int)+(u:Int) - (v:Int)=R):=V O;clear h3 h4;exact xm
def j3u (op:Int):op=42\/op=43\/op=44\/op=45\/(op<42 /\ ∀ a b,eB op a b=0)\/(45<op /\ ∀ a b,eB op a b=0):=by
 by_cases h:op<42
 .exact .inr (.inr (.inr (.inr (.inl ⟨h,λa b=>by unfold eB;rw [Y O,Y O]⟩))))
 .by_cases h2:45<op
  .exact .inr (.inr (.inr (.inr (.inr ⟨h2,λa b=>by unfold eB;rw [Y O,Y O]⟩))))
  .omega
def J4 {op:Int} (h:jC op=false) {a b:Nat} (ha:a<4294967296):un (((a:Int)).tdiv (b:Int))=aR op a / aR op b/\un (((a:Int)).tmod (b:Int))=aR op a % aR op b:=by
 unfold aR;rw [h];simp only [Bool.false_eq_true,false_and,oM];rw [<- xK,<- Int.ofNat_tmod];have h1:a / b<4294967296:=fJ (kK _ _) ha;have h2:a % b<4294967296:=fJ (qV _ _) ha;generalize a / b=q at *;generalize a % b=r at *;unfold un;omega
def RE {x y:Int} (hx : -4294967296<x/\x<4294967296) : -4294967296<=x.tdiv y/\x.tdiv y<=4294967296:=by
 have h:(x.tdiv y).natAbs<=x.natAbs:=by rw [Int.natAbs_tdiv];exact kK _ _
 omega
def tmod_b {x y:Int} (hx : -4294967296<x/\x<4294967296) : -4294967296<=x.tmod y/\x.tmod y<=4294967296:=by
 have h:(x.tmod y).natAbs<=x.natAbs:=by rw [Int.natAbs_tmod];exact qV _ _
 omega
def T4 (op:Int) (a b:Nat) (ha:a<4294967296) (hb:b<4294967296) (w:World):Ca 156 #[I op,U (a:Int),U (b:Int)] w λe w'=>e = .returned (U ((eB op a b:Nat):Int))/\w'=w:=by
 have bX:=V (λW=>ob a ha W);have ca:=V (λW=>ob b hb W);obtain ⟨R,hR⟩:∃ R,eB op a b=R:=⟨_,rfl⟩;rcases j3u op with rfl|rfl|rfl|rfl|⟨h1,h0⟩|⟨h1,h0⟩
 .rw [hR]
  by_cases hz:b=0
  .have f1:=V (show decide ((b:Int)=0)=true from cU O)
   have hR:Hid (((4294967295:Nat):Int)=(R:Int)):=V yY;clear hz;exact rO
  .have f1:=V (show decide ((b:Int)=0)=false from dg O)
   obtain ⟨x,hx⟩:∃ x:Int,x=if 1=1 then sg a else (a:Int):=⟨_,rfl⟩
   obtain ⟨y,hy⟩:∃ y:Int,y=if 1=1 then sg b else (b:Int):=⟨_,rfl⟩
   simp at hx hy;have hL:=(R3 (op:=42) F ha hb);exact Ob
 .rw [hR]
  by_cases hz:b=0
  .have f1:=V (show decide ((b:Int)=0)=true from cU O)
   have hR:Hid (((4294967295:Nat):Int)=(R:Int)):=V yY;clear hz;exact rO
  .have f1:=V (show decide ((b:Int)=0)=false from dg O)
   obtain ⟨x,hx⟩:∃ x:Int,x=if 0=1 then sg a else (a:Int):=⟨_,rfl⟩
   obtain ⟨y,hy⟩:∃ y:Int,y=if 0=1 then sg b else (b:Int):=⟨_,rfl⟩
   simp at hx hy;have hL:=(J4 (op:=43) F (b:=b) ha).1;exact Ob
 .rw [hR]
  by_cases hz:b=0
  .have f1:=V (show decide ((b:Int)=0)=true from cU O)
   have hR:Hid (((a:Nat):Int)=(R:Int)):=V yY;clear hz;exact rO
  .have f1:=V (show decide ((b:Int)=0)=false from dg O)
   obtain ⟨x,hx⟩:∃ x:Int,x=if 1=1 then sg a else (a:Int):=⟨_,rfl⟩
   obtain ⟨y,hy⟩:∃ y:Int,y=if 1=1 then sg b else (b:Int):=⟨_,rfl⟩
   simp at hx hy;have hL:=(R5 (op:=44) F ha hb O);exact Js
 .rw [hR]
  by_cases hz:b=0
  .have f1:=V (show decide ((b:Int)=0)=true from cU O)
   have hR:Hid (((a:Nat):Int)=(R:Int)):=V yY;clear hz;exact rO
  .have f1:=V (show decide ((b:Int)=0)=false from dg O)
   obtain ⟨x,hx⟩:∃ x:Int,x=if 0=1 then sg a else (a:Int):=⟨_,rfl⟩
   obtain ⟨y,hy⟩:∃ y:Int,y=if 0=1 then sg b else (b:Int):=⟨_,rfl⟩
   simp at hx hy;have hL:=(J4 (op:=45) F (b:=b) ha).2;exact Js
 .rw [h0]
  have hR:Hid ((0:Int)=((0:Nat):Int)):=V F;have f1:=V (cU h1);clear h1 h0;exact rO
 .rw [h0]
  have hR:Hid ((0:Int)=((0:Nat):Int)):=V F;have f1:=V (show decide (op<42)=false from dg O);have f2:=V (cU h1);clear h1 h0;exact rO
end
section
open Go.RowKit Wd
section
variable {P:Program} {ops:Array Oper} {rest:List Oper} {o:Oper} {a:Act} {Q:Exit->Act->World->Prop} {w:World}
def NB {x y:Operand} {t t':TypeId} {p q r:Nat} (ho:o.op = .binOp .add t x y t') (hx:ac a x=some (U (p:Int))) (hy:ac a y=some (U (q:Int))) (h:wpList P ops Q rest (a.put o.dst (U (r:Int))) w) (hr:Hid (p+q=r):=by with_reducible assumption) (hlt:r<4294967296:=by (first|assumption|omega)) (hw:Region.wanted o (yielded ops a.tmps)=true:=by rfl):wpList P ops Q (o::rest) a w:=by
 replace hx:=ap hx;replace hy:=ap hy;have it:((p:Int)+(q:Int)) % 4294967296=(r:Int):=by rw [show (p:Int)+(q:Int)=(r:Int) by rw [<- hr.out];simp];omega
 exact C7
def px {x y:Operand} {t t':TypeId} {p q r:Nat} (ho:o.op = .binOp .mul t x y t') (hx:ac a x=some (U (p:Int))) (hy:ac a y=some (U (q:Int))) (h:wpList P ops Q rest (a.put o.dst (U (r:Int))) w) (hr:Hid (p * q=r):=by with_reducible assumption) (hlt:r<4294967296:=by (first|assumption|omega)) (hw:Region.wanted o (yielded ops a.tmps)=true:=by rfl):wpList P ops Q (o::rest) a w:=by
 replace hx:=ap hx;replace hy:=ap hy;have it:((p:Int) * (q:Int)) % 4294967296=(r:Int):=by rw [show (p:Int) * (q:Int)=(r:Int) by rw [<- hr.out];simp];omega
 exact C7
def ko {x y:Operand} {t t':TypeId} {p q r:Nat} (ho:o.op = .binOp .add t x y t') (hx:ac a x=some (U (p:Int))) (hy:ac a y=some (U (q:Int))) (h:wpList P ops Q rest (a.put o.dst (U (r:Int))) w) (hr:Hid (ay p q=r):=by with_reducible assumption) (hw:Region.wanted o (yielded ops a.tmps)=true:=by rfl):wpList P ops Q (o::rest) a w:=by
 replace hx:=ap hx;replace hy:=ap hy;have it:((p:Int)+(q:Int)) % 4294967296=(r:Int):=by have:=hr.out;unfold ay at this;omega
 exact C7
end
def yz {x n:Nat} (h1:1<=n) (h2:n<=32):cJ x (n:Int)=cz x n:=by unfold cJ;rw [Y O];rfl
def j3w (x:Nat) (hx:x<4294967296) (w:World):Ca 152 #[U (x:Int),.int .u8 73] w (RB w (U ((gz x 73:Nat):Int))):=by
 have E:=St.start w [] zN;have HT:=V (λW=>show Ca 153 #[U (x:Int),I 31,I 31] W (RB W (U ((fF x 31 31:Nat):Int))) from iB x 31 31 hx ag ag W);have bHT:fF x 31 31<2:=iW x 31 1;have HA:=V (λW=>show Ca 153 #[U (x:Int),I 20,I 31] W (RB W (U ((fF x 20 31:Nat):Int))) from iB x 20 31 hx ag ag W);have bHA:fF x 20 31<4096:=iW x 20 12;rw [show gz x 73=cz (fF x 20 31) 12 from rfl];generalize fF x 31 31=t at *;generalize fF x 20 31=a at *;have HS:=V (λW=>show Ca 159 #[U (a:Int),I 12] W (RB W (U ((cz a 12:Nat):Int))) from by have h:=vF a 12 W O O;rwa [show cJ a 12=cz a 12 from yz (n:=12) ag ag] at h);generalize cz a 12=r at *;go_enter func152,ntmps152;go_wp2_with ((try refine zs ?_);(first|go_big_skip|(go_at_call 153;(first|((have G:=HT.out);(with_reducible refine (G _).mono ?_))|((have G:=HA.out);(with_reducible refine (G _).mono ?_))|((have G:=HB.out);(with_reducible refine (G _).mono ?_))|((have G:=HC.out);(with_reducible refine (G _).mono ?_)));clear G;rintro x J ⟨rfl,hb⟩;replace E:=E.grow hb;clear hb)|(go_at_call 159;refine E.cB (HS.out _) ?_;clear E;intro J E)));go_ret;exact ⟨rfl,E.bel⟩
def j3x (x:Nat) (hx:x<4294967296) (w:World):Ca 152 #[U (x:Int),.int .u8 83] w (RB w (U ((gz x 83:Nat):Int))):=by
 have E:=St.start w [] zN;have HT:=V (λW=>show Ca 153 #[U (x:Int),I 31,I 31] W (RB W (U ((fF x 31 31:Nat):Int))) from iB x 31 31 hx ag ag W);have bHT:fF x 31 31<2:=iW x 31 1;have HA:=V (λW=>show Ca 153 #[U (x:Int),I 7,I 11] W (RB W (U ((fF x 7 11:Nat):Int))) from iB x 7 11 hx ag ag W);have bHA:fF x 7 11<32:=iW x 7 5;have HB:=V (λW=>show Ca 153 #[U (x:Int),I 25,I 31] W (RB W (U ((fF x 25 31:Nat):Int))) from iB x 25 31 hx ag ag W);have bHB:fF x 25 31<128:=iW x 25 7;rw [show gz x 83=cz (fF x 7 11+32 * fF x 25 31) 12 from rfl];generalize fF x 31 31=t at *;generalize fF x 7 11=a at *;generalize fF x 25 31=b at *;obtain ⟨m1,em1⟩:∃ m,32 * b=m:=⟨_,rfl⟩;rw [em1];obtain ⟨s1,es1⟩:∃ m,a+m1=m:=⟨_,rfl⟩;rw [es1];have HS:=V (λW=>show Ca 159 #[U (s1:Int),I 12] W (RB W (U ((cz s1 12:Nat):Int))) from by have h:=vF s1 12 W O O;rwa [show cJ s1 12=cz s1 12 from yz (n:=12) ag ag] at h);generalize cz s1 12=r at *;have lm1:m1<4294967296:=by omega
 have ls1:s1<4294967296:=by omega
 replace em1:=V em1;replace es1:=V es1;exact L7
def Tq (x:Nat) (hx:x<4294967296) (w:World):Ca 152 #[U (x:Int),.int .u8 66] w (RB w (U ((gz x 66:Nat):Int))):=by
 have E:=St.start w [] zN;have HT:=V (λW=>show Ca 153 #[U (x:Int),I 31,I 31] W (RB W (U ((fF x 31 31:Nat):Int))) from iB x 31 31 hx ag ag W);have bHT:fF x 31 31<2:=iW x 31 1;have HA:=V (λW=>show Ca 153 #[U (x:Int),I 8,I 11] W (RB W (U ((fF x 8 11:Nat):Int))) from iB x 8 11 hx ag ag W);have bHA:fF x 8 11<16:=iW x 8 4;have HB:=V (λW=>show Ca 153 #[U (x:Int),I 25,I 30] W (RB W (U ((fF x 25 30:Nat):Int))) from iB x 25 30 hx ag ag W);have bHB:fF x 25 30<64:=iW x 25 6;have HC:=V (λW=>show Ca 153 #[U (x:Int),I 7,I 7] W (RB W (U ((fF x 7 7:Nat):Int))) from iB x 7 7 hx ag ag W);have bHC:fF x 7 7<2:=iW x 7 1;rw [show gz x 66=cz (2 * fF x 8 11+32 * fF x 25 30+2048 * fF x 7 7+4096 * fF x 31 31) 13 from rfl];generalize fF x 31 31=t at *;generalize fF x 8 11=a at *;generalize fF x 25 30=b at *;generalize fF x 7 7=c at *;obtain ⟨m1,em1⟩:∃ m,2 * a=m:=⟨_,rfl⟩;rw [em1];obtain ⟨m2,em2⟩:∃ m,32 * b=m:=⟨_,rfl⟩;rw [em2];obtain ⟨s1,es1⟩:∃ m,m1+m2=m:=⟨_,rfl⟩;rw [es1];obtain ⟨m3,em3⟩:∃ m,2048 * c=m:=⟨_,rfl⟩;rw [em3];obtain ⟨s2,es2⟩:∃ m,s1+m3=m:=⟨_,rfl⟩;rw [es2];obtain ⟨m4,em4⟩:∃ m,4096 * t=m:=⟨_,rfl⟩;rw [em4];obtain ⟨s3,es3⟩:∃ m,s2+m4=m:=⟨_,rfl⟩;rw [es3];have HS:=V (λW=>show Ca 159 #[U (s3:Int),I 13] W (RB W (U ((cz s3 13:Nat):Int))) from by have h:=vF s3 13 W O O;rwa [show cJ s3 13=cz s3 13 from yz (n:=13) ag ag] at h);generalize cz s3 13=r at *;exact Fd
def OK (x:Nat) (hx:x<4294967296) (w:World):Ca 152 #[U (x:Int),.int .u8 85] w (RB w (U ((gz x 85:Nat):Int))):=by
 have E:=St.start w [] zN;have HT:=V (λW=>show Ca 153 #[U (x:Int),I 31,I 31] W (RB W (U ((fF x 31 31:Nat):Int))) from iB x 31 31 hx ag ag W);have bHT:fF x 31 31<2:=iW x 31 1;have HA:=V (λW=>show Ca 153 #[U (x:Int),I 12,I 31] W (RB W (U ((fF x 12 31:Nat):Int))) from iB x 12 31 hx ag ag W);have bHA:fF x 12 31<1048576:=iW x 12 20;rw [show gz x 85=4096 * fF x 12 31 from rfl];generalize fF x 31 31=t at *;generalize fF x 12 31=a at *;obtain ⟨m1,em1⟩:∃ m,4096 * a=m:=⟨_,rfl⟩;rw [em1];have lm1:m1<4294967296:=by omega
 replace em1:=V em1;go_enter func152,ntmps152;go_wp2_with ((try refine zs ?_);(first|go_big_skip|(go_at_call 153;(first|((have G:=HT.out);(with_reducible refine (G _).mono ?_))|((have G:=HA.out);(with_reducible refine (G _).mono ?_))|((have G:=HB.out);(with_reducible refine (G _).mono ?_))|((have G:=HC.out);(with_reducible refine (G _).mono ?_)));clear G;rintro x J ⟨rfl,hb⟩;replace E:=E.grow hb;clear hb)|((first|refine px (p:=2) F F F ?_|refine px (p:=32) F F F ?_|refine px (p:=2048) F F F ?_|refine px (p:=4096) F F F ?_|refine px (p:=1048576) F F F ?_);refine zs ?_)|((refine NB F F F ?_);refine zs ?_)));go_ret;exact ⟨rfl,E.bel⟩
def Ye (x:Nat) (hx:x<4294967296) (w:World):Ca 152 #[U (x:Int),.int .u8 74] w (RB w (U ((gz x 74:Nat):Int))):=by
 have E:=St.start w [] zN;have HT:=V (λW=>show Ca 153 #[U (x:Int),I 31,I 31] W (RB W (U ((fF x 31 31:Nat):Int))) from iB x 31 31 hx ag ag W);have bHT:fF x 31 31<2:=iW x 31 1;have HA:=V (λW=>show Ca 153 #[U (x:Int),I 21,I 30] W (RB W (U ((fF x 21 30:Nat):Int))) from iB x 21 30 hx ag ag W);have bHA:fF x 21 30<1024:=iW x 21 10;have HB:=V (λW=>show Ca 153 #[U (x:Int),I 20,I 20] W (RB W (U ((fF x 20 20:Nat):Int))) from iB x 20 20 hx ag ag W);have bHB:fF x 20 20<2:=iW x 20 1;have HC:=V (λW=>show Ca 153 #[U (x:Int),I 12,I 19] W (RB W (U ((fF x 12 19:Nat):Int))) from iB x 12 19 hx ag ag W);have bHC:fF x 12 19<256:=iW x 12 8;rw [show gz x 74=cz (2 * fF x 21 30+2048 * fF x 20 20+4096 * fF x 12 19+1048576 * fF x 31 31) 21 from rfl];generalize fF x 31 31=t at *;generalize fF x 21 30=a at *;generalize fF x 20 20=b at *;generalize fF x 12 19=c at *;obtain ⟨m1,em1⟩:∃ m,2 * a=m:=⟨_,rfl⟩;rw [em1];obtain ⟨m2,em2⟩:∃ m,2048 * b=m:=⟨_,rfl⟩;rw [em2];obtain ⟨s1,es1⟩:∃ m,m1+m2=m:=⟨_,rfl⟩;rw [es1];obtain ⟨m3,em3⟩:∃ m,4096 * c=m:=⟨_,rfl⟩;rw [em3];obtain ⟨s2,es2⟩:∃ m,s1+m3=m:=⟨_,rfl⟩;rw [es2];obtain ⟨m4,em4⟩:∃ m,1048576 * t=m:=⟨_,rfl⟩;rw [em4];obtain ⟨s3,es3⟩:∃ m,s2+m4=m:=⟨_,rfl⟩;rw [es3];have HS:=V (λW=>show Ca 159 #[U (s3:Int),I 21] W (RB W (U ((cz s3 21:Nat):Int))) from by have h:=vF s3 21 W O O;rwa [show cJ s3 21=cz s3 21 from yz (n:=21) ag ag] at h);generalize cz s3 21=r at *;exact Fd
def OW (x:Nat) (hx:x<4294967296) (w:World):Ca 152 #[U (x:Int),.int .u8 84] w (RB w (U ((gz x 84:Nat):Int))):=by
 have E:=St.start w [] zN;have HT:=V (λW=>show Ca 153 #[U (x:Int),I 31,I 31] W (RB W (U ((fF x 31 31:Nat):Int))) from iB x 31 31 hx ag ag W);have bHT:fF x 31 31<2:=iW x 31 1;have HA:=V (λW=>show Ca 153 #[U (x:Int),I 20,I 24] W (RB W (U ((fF x 20 24:Nat):Int))) from iB x 20 24 hx ag ag W);have bHA:fF x 20 24<32:=iW x 20 5;rw [show gz x 84=fF x 20 24 from rfl];generalize fF x 31 31=t at *;generalize fF x 20 24=a at *;exact EJ
def Ri (x:Nat) (hx:x<4294967296) (w:World):Ca 152 #[U (x:Int),.int .u8 82] w (RB w (U ((gz x 82:Nat):Int))):=by
 have E:=St.start w [] zN;have HT:=V (λW=>show Ca 153 #[U (x:Int),I 31,I 31] W (RB W (U ((fF x 31 31:Nat):Int))) from iB x 31 31 hx ag ag W);have bHT:fF x 31 31<2:=iW x 31 1;rw [show gz x 82=0 from rfl];generalize fF x 31 31=t at *;exact EJ
def TW (x:Nat) (hx:x<4294967296) (w:World):Ca 152 #[U (x:Int),.int .u8 87] w (RB w (U ((gz x 87:Nat):Int))):=by
 have E:=St.start w [] zN;have HT:=V (λW=>show Ca 153 #[U (x:Int),I 31,I 31] W (RB W (U ((fF x 31 31:Nat):Int))) from iB x 31 31 hx ag ag W);have bHT:fF x 31 31<2:=iW x 31 1;rw [show gz x 87=0 from rfl];generalize fF x 31 31=t at *;exact EJ
def T8 {x:Nat} (hx:x<4294967296) (h:nZ x≠0):∃ k:Nat,1<=k/\k<=48/\nZ x=(k:Int):=by
 have hd:=Od hx;rw [Y h] at hd;unfold df at hd;cases hf:js x 48 1 with
 | none=>rw [hf] at hd;cases hd
 | some r=>
  rw [hf] at hd;injection hd with hd;have:=jB Ins.op hd;obtain ⟨_,h2,h3⟩:=CD 48 1 hf;exact ⟨r,h2,by omega,this.symm⟩
def QL {k:Nat} (h1:1<=k) (h2:k<=48) (x:Nat):bn (k:Int) x=⟨(k:Int),if cG (k:Int)=83\/cG (k:Int)=66\/cG (k:Int)=87 then 0 else ((fF x 7 11:Nat):Int),if cG (k:Int)=85\/cG (k:Int)=74\/cG (k:Int)=87 then 0 else ((fF x 15 19:Nat):Int),if cG (k:Int)=82\/cG (k:Int)=83\/cG (k:Int)=66 then ((fF x 20 24:Nat):Int) else 0,gz x (cG (k:Int))⟩:=by
 rw [j3b h1 h2 x];rcases Bq ⟨k,by omega⟩ h1 with ⟨hf,hr⟩|⟨hf,hr⟩|⟨hf,hr⟩|⟨hf,hr⟩|⟨hf,hr⟩|⟨hf,hr⟩|⟨hf,hr⟩|⟨hf,hr⟩
 all_goals
  dsimp only at hf hr;rw [hr];unfold bn;dsimp only;rw [hf];rfl
def yF (x:Nat) (hx:x<4294967296) (w:World) :Ca 92 #[U (x:Int)] w (RB w (.tuple #[x4 (df x),I (x7 (df x))])):=by
 have E:=St.start w [] zN;have HO:=λW=>Zm x hx W
 rw [Od hx];by_cases h0:nZ x=0
 .rw [aa h0]
  rw [h0] at HO;replace HO:=V HO;clear h0;go_enter func92,ntmps92;go_wp2_with ((try refine zs ?_);(first|go_big_skip|(go_at_call 150;refine E.cB (HO.out _) ?_;clear E;intro J E)|((first|refine aA ?_|(refine am ?_;clear E;intro Z J E));refine zs ?_)));((try simp only [Exit.inBlock,Exit.then]);refine bc (oS F E) F ?_);exact ⟨rfl,E.bel⟩
 .rw [Y h0]
  obtain ⟨k,h1,h2,hk⟩:=T8 hx h0;rw [hk] at HO ⊢;replace HO:=V HO;rw [QL h1 h2];have be:((k:Int) == 0)=false:=by simpa using (show ¬ k=0 by omega)
  have aZ:=λW=>AN (k:Int) W
  have mu:k<=48:=h2;have HA:=V (λW=>show Ca 153 #[U (x:Int),I 7,I 11] W (RB W (U ((fF x 7 11:Nat):Int))) from iB x 7 11 hx ag ag W);have bHA:fF x 7 11<32:=iW x 7 5;have HB:=V (λW=>show Ca 153 #[U (x:Int),I 15,I 19] W (RB W (U ((fF x 15 19:Nat):Int))) from iB x 15 19 hx ag ag W);have bHB:fF x 15 19<32:=iW x 15 5;have HC:=V (λW=>show Ca 153 #[U (x:Int),I 20,I 24] W (RB W (U ((fF x 20 24:Nat):Int))) from iB x 20 24 hx ag ag W);have bHC:fF x 20 24<32:=iW x 20 5;have HT:=HA;have hfr:=Bq ⟨k,by omega⟩ h1;dsimp only at hfr;clear h0 hk h1 h2;rcases hfr with ⟨-,hr⟩|⟨-,hr⟩|⟨-,hr⟩|⟨-,hr⟩|⟨-,hr⟩|⟨-,hr⟩|⟨-,hr⟩|⟨-,hr⟩
  .rw [hr] at aZ ⊢
   have HN:=V (λW=>Ri x hx W);generalize gz x 82=n at *;generalize fF x 7 11=a at *;generalize fF x 15 19=b at *;generalize fF x 20 24=c at *;replace aZ:=V aZ;clear hr;simp only [show ((82:Int)=82)=True by simp,show ((82:Int)=83)=False by simp,show ((82:Int)=66)=False by simp,show ((82:Int)=87)=False by simp,show ((82:Int)=85)=False by simp,show ((82:Int)=74)=False by simp,or_true,true_or,lr,if_true,oM];exact qv
  .rw [hr] at aZ ⊢
   have HN:=V (λW=>j3w x hx W);generalize gz x 73=n at *;generalize fF x 7 11=a at *;generalize fF x 15 19=b at *;generalize fF x 20 24=c at *;replace aZ:=V aZ;clear hr;simp only [show ((73:Int)=82)=False by simp,show ((73:Int)=83)=False by simp,show ((73:Int)=66)=False by simp,show ((73:Int)=87)=False by simp,show ((73:Int)=85)=False by simp,show ((73:Int)=74)=False by simp,or_true,true_or,lr,if_true,oM];exact qv
  .rw [hr] at aZ ⊢
   have HN:=V (λW=>OW x hx W);generalize gz x 84=n at *;generalize fF x 7 11=a at *;generalize fF x 15 19=b at *;generalize fF x 20 24=c at *;replace aZ:=V aZ;clear hr;simp only [show ((84:Int)=82)=False by simp,show ((84:Int)=83)=False by simp,show ((84:Int)=66)=False by simp,show ((84:Int)=87)=False by simp,show ((84:Int)=85)=False by simp,show ((84:Int)=74)=False by simp,or_true,true_or,lr,if_true,oM];exact qv
  .rw [hr] at aZ ⊢
   have HN:=V (λW=>j3x x hx W);generalize gz x 83=n at *;generalize fF x 7 11=a at *;generalize fF x 15 19=b at *;generalize fF x 20 24=c at *;replace aZ:=V aZ;clear hr;simp only [show ((83:Int)=82)=False by simp,show ((83:Int)=83)=True by simp,show ((83:Int)=66)=False by simp,show ((83:Int)=87)=False by simp,show ((83:Int)=85)=False by simp,show ((83:Int)=74)=False by simp,or_true,true_or,lr,if_true,oM];exact qv
  .rw [hr] at aZ ⊢
   have HN:=V (λW=>Tq x hx W);generalize gz x 66=n at *;generalize fF x 7 11=a at *;generalize fF x 15 19=b at *;generalize fF x 20 24=c at *;replace aZ:=V aZ;clear hr;simp only [show ((66:Int)=82)=False by simp,show ((66:Int)=83)=False by simp,show ((66:Int)=66)=True by simp,show ((66:Int)=87)=False by simp,show ((66:Int)=85)=False by simp,show ((66:Int)=74)=False by simp,or_true,true_or,lr,if_true,oM];exact qv
  .rw [hr] at aZ ⊢
   have HN:=V (λW=>OK x hx W);generalize gz x 85=n at *;generalize fF x 7 11=a at *;generalize fF x 15 19=b at *;generalize fF x 20 24=c at *;replace aZ:=V aZ;clear hr;simp only [show ((85:Int)=82)=False by simp,show ((85:Int)=83)=False by simp,show ((85:Int)=66)=False by simp,show ((85:Int)=87)=False by simp,show ((85:Int)=85)=True by simp,show ((85:Int)=74)=False by simp,or_true,true_or,lr,if_true,oM];exact qv
  .rw [hr] at aZ ⊢
   have HN:=V (λW=>Ye x hx W);generalize gz x 74=n at *;generalize fF x 7 11=a at *;generalize fF x 15 19=b at *;generalize fF x 20 24=c at *;replace aZ:=V aZ;clear hr;simp only [show ((74:Int)=82)=False by simp,show ((74:Int)=83)=False by simp,show ((74:Int)=66)=False by simp,show ((74:Int)=87)=False by simp,show ((74:Int)=85)=False by simp,show ((74:Int)=74)=True by simp,or_true,true_or,lr,if_true,oM];exact qv
  .rw [hr] at aZ ⊢
   have HN:=V (λW=>TW x hx W);generalize gz x 87=n at *;generalize fF x 7 11=a at *;generalize fF x 15 19=b at *;generalize fF x 20 24=c at *;replace aZ:=V aZ;clear hr;simp only [show ((87:Int)=82)=False by simp,show ((87:Int)=83)=False by simp,show ((87:Int)=66)=False by simp,show ((87:Int)=87)=True by simp,show ((87:Int)=85)=False by simp,show ((87:Int)=74)=False by simp,or_true,true_or,lr,if_true,oM];exact qv
end
end Go.Proofs.YtgnomadgnciifaaGreatDoor
