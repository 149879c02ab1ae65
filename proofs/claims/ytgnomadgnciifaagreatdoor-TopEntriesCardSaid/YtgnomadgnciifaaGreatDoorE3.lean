/- . -/
import Derived.Test.YtgnomadgnciifaaGreatDoorE2
import Derived.Test.YtgnomadgnciifaaGreatDoorZ30
set_option linter.all false
set_option maxRecDepth 100000
set_option maxHeartbeats 16000000
namespace Go.Proofs.YtgnomadgnciifaaGreatDoor
variable {p:Prop}
open Go.Proofs.Tryz
def Iv (h:p:=by
 go_wp2_with (at_builtin;refine t9 wr [.int .u8 (((m[k]'eS).toNat:Nat):Int)] 1 F _ _ _ ax w.heap.size 5 (.int .u8 0) 1 1 underlying104 u8infoM F ag _ k _ ax ir ax F vq O O ii.size ?_;intro v' w1 bC bL);go_roundw;case rel=>
  have h3:=HT.out k (by rw [ly];exact eS);rw [HW.out] at h3;exact ⟨k+1,by omega,by go_num,by rw [h3,sJ];exact bC,ii.then_grown ir bL (aM _)⟩
 case measure=>exact zM):=h
def wt (h:p:=by
 go_enter func101,ntmps101;(go_wp2_with (first|(go_at_call 93;refine (HK.out _).mono ?_;rintro x J ⟨rfl,rfl⟩)|(go_at_call 96;refine (HZ.out _).mono ?_;rintro x J ⟨rfl,rfl⟩)|(go_at_call 100;refine (HJ.out _).mono ?_;rintro x J ⟨rfl,d1,rfl⟩;replace E:=E.grow (af.drewN _ d1))|(go_at_call 159;refine E.cB (vF _ _ _ bI O) ?_;clear E;intro J E)|((first|refine aA ?_|(refine am ?_;clear E;intro Z J E));refine zs ?_)));go_ret
 exact ⟨rfl,E.bel⟩):=h
def I9 (h:p:=by
 replace hs:=V hs
 (as_aux_lemma=>(go_enter func157,ntmps157;go_wp2_with ((try refine zs ?_);(first|go_big_skip|((refine jn (q:=32) F F F ?_ (hr:=by with_reducible assumption));(try refine zs ?_))|(go_at_call 195;refine E.cB (HM.out _) ?_;clear E;intro J E)));go_ret;exact ⟨rfl,E.bel⟩))):=h
def Oj (h:p:=by
 obtain ⟨t,ht⟩:∃ t,decide ((a:Int)<(b:Int))=t:=⟨_,rfl⟩;rw [show decide (a<b)=t from by rw [<- ht];exact vc.2 O];replace ht:=V ht;have gP:=V (λW=>N9 t W);have bX:=V (λW=>ob a ha W);have ca:=V (λW=>ob b hb W)
 (as_aux_lemma=>(go_enter func157,ntmps157;go_wp2_with ((try refine zs ?_);(first|go_big_skip|((refine jn (q:=32) F F F ?_ (hr:=by with_reducible assumption));(try refine zs ?_))|(go_at_call 192;(first|((have G:=bX.out);(with_reducible refine (G _).mono ?_))|((have G:=ca.out);(with_reducible refine (G _).mono ?_)));clear G;rintro x J ⟨rfl,rfl⟩)|((first|(refine fw rfl rfl rfl ?_)|(refine cT rfl rfl rfl ?_)|(refine co rfl rfl rfl ?_)|(refine fM rfl rfl rfl ?_));(try refine zs ?_))|(go_at_call 197;refine (gP.out _).mono ?_;rintro x J ⟨rfl,rfl⟩)));go_ret;exact ⟨rfl,E.bel⟩))):=h
def NH (h:p:=by
 obtain ⟨t,ht⟩:∃ t,decide (sg a<sg b)=t:=⟨_,rfl⟩;rw [ht];replace ht:=V ht;have gP:=V (λW=>N9 t W)
 (as_aux_lemma=>(go_enter func157,ntmps157;go_wp2_with ((try refine zs ?_);(first|go_big_skip|((refine jn (q:=32) F F F ?_ (hr:=by with_reducible assumption));(try refine zs ?_))|(go_at_call 192;(first|((have G:=bX.out);(with_reducible refine (G _).mono ?_))|((have G:=ca.out);(with_reducible refine (G _).mono ?_)));clear G;rintro x J ⟨rfl,rfl⟩)|((first|(refine fw rfl rfl rfl ?_)|(refine cT rfl rfl rfl ?_)|(refine co rfl rfl rfl ?_)|(refine fM rfl rfl rfl ?_));(try refine zs ?_))|(go_at_call 197;refine (gP.out _).mono ?_;rintro x J ⟨rfl,rfl⟩)));go_ret;exact ⟨rfl,E.bel⟩))):=h
def FK (h:p:=by
 replace hs:=V hs;obtain ⟨s1,e1⟩:∃ m,a+b=m:=⟨_,rfl⟩;have l1:s1<8589934592:=by omega
 rw [e1];obtain ⟨r,e2⟩:∃ m,s1 % 4294967296=m:=⟨_,rfl⟩;have l2:r<4294967296:=by omega
 rw [e2];replace e1:=V e1;replace e2:=V e2
 (as_aux_lemma=>(go_enter func157,ntmps157;go_wp2_with ((try refine zs ?_);(first|go_big_skip|((refine jn (q:=32) F F F ?_ (hr:=by with_reducible assumption));(try refine zs ?_))|((refine rS F F underlying28 underlying181 ?_);refine zs ?_)|((refine yL F F underlying181 underlying28 ?_);refine zs ?_)|((first|refine uG F F F ?_|refine uG (q:=4294967296) F F F ?_|refine L5 F F F ?_|refine tT (q:=4294967296) F F F ?_);refine zs ?_)));go_ret;exact ⟨rfl,E.bel⟩))):=h
def Ji (h:p:=by
 clear ne bE k1 k2
 (as_aux_lemma=>(go_enter func95,ntmps95;go_wp2_with ((try refine zs ?_);(first|go_big_skip|(go_at_call 154;refine E.cB (HB.out _) ?_;clear E;intro J E)|(go_at_call 93;refine (a0.out _).mono ?_;rintro x J ⟨rfl,rfl⟩)|(go_at_call 155;refine (bG.out _).mono ?_;rintro x J ⟨rfl,rfl⟩)|(go_at_call 156;refine (lH.out _).mono ?_;rintro x J ⟨rfl,rfl⟩)|(go_at_call 157;refine E.cB (bJ.out _) ?_;clear E;intro J E)|((refine ko F F F ?_);refine zs ?_)|((refine ko (q:=4) F F F ?_);refine zs ?_)|((first|refine aA ?_|(refine am ?_;clear E;intro Z J E));refine zs ?_)));go_ret;exact ⟨rfl,E.bel⟩))):=h
def K4 (h:p:=by
 have HM:=λW=>Er a (-(s:Int)) (dj a 31) ha O (uo _ _) W
 have gQ:=λW=>show Ca 196 #[U (a:Int),I 31] W (RB W (U (dj a 31:Int))) from AB a 31 W ha ag
 rw [TV ha fR] at HM;generalize un (sg a / 2 ^ s)=r at *;generalize dj a 31=fl at *;replace hs:=V hs;replace HM:=V HM;replace gQ:=V gQ
 (as_aux_lemma=>(go_enter func157,ntmps157;go_wp2_with ((try refine zs ?_);(first|go_big_skip|((refine jn (q:=32) F F F ?_ (hr:=by with_reducible assumption));(try refine zs ?_))|(go_at_call 196;refine E.cB (gQ.out _) ?_;clear E;intro J E)|(go_at_call 195;refine E.cB (HM.out _) ?_;clear E;intro J E)));go_ret;exact ⟨rfl,E.bel⟩))):=h
def Gl (h:p:=by
 rw [e1];replace e1:=V e1;replace iQ:=V iQ;clear h4 h3
 (as_aux_lemma=>(go_enter func103,ntmps103;go_wp2_with ((try refine zs ?_);(first|go_big_skip|(go_at_call 160;refine (iQ.out _).mono ?_;rintro x J ⟨rfl,rfl⟩)|((refine ko rfl rfl rfl ?_);refine zs ?_)|((refine ko (q:=4) F F F ?_);refine zs ?_)|((refine jn (q:=2) F F F ?_ (hr:=by with_reducible assumption));(try refine zs ?_))|((refine CG F F F ?_ (hr:=by with_reducible assumption));(try refine zs ?_))|((first|refine aA ?_|(refine am ?_;clear E;intro Z J E));refine zs ?_)));go_ret;exact ⟨rfl,E.bel⟩))):=h
def NY (h:p:=by
 replace aZ:=V aZ;replace a0:=V a0;clear ne h1 h2
 (as_aux_lemma=>(go_enter func154,ntmps154;go_wp2_with ((try refine zs ?_);(first|go_big_skip|(go_at_call 151;refine (aZ.out _).mono ?_;rintro x J ⟨rfl,rfl⟩)|(go_at_call 93;refine (a0.out _).mono ?_;rintro x J ⟨rfl,rfl⟩)|((first|refine aA ?_|(refine am ?_;clear E;intro Z J E));refine zs ?_)));go_ret;exact ⟨rfl,E.bel⟩))):=h
def Fh (h:p:=by
 all_goals
  rw [hf] at aZ;replace aZ:=V aZ;clear hf
  (as_aux_lemma=>(go_enter func94,ntmps94;go_wp2_with ((try refine zs ?_);(first|go_big_skip|(go_at_call 151;refine (aZ.out _).mono ?_;rintro x J ⟨rfl,rfl⟩)|((first|refine aA ?_|(refine am ?_;clear E;intro Z J E));refine zs ?_)));go_ret;exact ⟨rfl,E.bel⟩))):=h
def Fb (h:p:=by
 have fa:=V (λW=>PI a b ha hb W)
 (as_aux_lemma=>(go_enter func157,ntmps157;go_wp2_with ((try refine zs ?_);(first|go_big_skip|((refine jn (q:=32) F F F ?_ (hr:=by with_reducible assumption));(try refine zs ?_))|(go_at_call 194;refine E.cB (fa.out _) ?_;clear E;intro J E)));go_ret;exact ⟨rfl,E.bel⟩))):=h
def JM (h:p:=by
 have fa:=V (λW=>Yu a b ha hb W)
 (as_aux_lemma=>(go_enter func157,ntmps157;go_wp2_with ((try refine zs ?_);(first|go_big_skip|((refine jn (q:=32) F F F ?_ (hr:=by with_reducible assumption));(try refine zs ?_))|(go_at_call 194;refine E.cB (fa.out _) ?_;clear E;intro J E)));go_ret;exact ⟨rfl,E.bel⟩))):=h
def J0 (h:p:=by
 have fa:=V (λW=>Qw a b ha hb W)
 (as_aux_lemma=>(go_enter func157,ntmps157;go_wp2_with ((try refine zs ?_);(first|go_big_skip|((refine jn (q:=32) F F F ?_ (hr:=by with_reducible assumption));(try refine zs ?_))|(go_at_call 194;refine E.cB (fa.out _) ?_;clear E;intro J E)));go_ret;exact ⟨rfl,E.bel⟩))):=h
def LK (h:p:=by
 have HM:=V (λW=>show Ca 195 #[U (a:Int),I (s:Int),U 0] W (RB W (U ((a * 2 ^ s % 4294967296:Nat):Int))) from by have h:=Er a (s:Int) 0 ha O ag W;rw [TA ha fR] at h;exact h);generalize a * 2 ^ s % 4294967296=r at *
 exact I9):=h
def Np (h:p:=by
 have HM:=V (λW=>show Ca 195 #[U (a:Int),I (-(s:Int)),U 0] W (RB W (U ((a / 2 ^ s:Nat):Int))) from by have h:=Er a (-(s:Int)) 0 ha O ag W;rw [Ur ha fR] at h;exact h);generalize a / 2 ^ s=r at *
 exact I9):=h
def Mo (h:p:=by
 unfold aH
 rw [Y O,Y O,Y O,Y O,Y O,Y O,Y O,Y O,Y O,Y O,Y O]):=h
section
open Go.RowKit
namespace Me
def writeL (l:List UInt8) (a:Nat) (b:List UInt8):List UInt8:=l.take a++b++l.drop (a+b.length)
def writeS (m:ByteArray) (a:Nat) (b:ByteArray):ByteArray:=⟨(writeL m.data.toList a b.data.toList).toArray⟩
def Gn {α:Type}{l:List α}{k}{d:α}(h:k<l.length):l.getD k d=l[k]:=by simp [List.getD,h]
def wl (l:List UInt8) (a:Nat) (b:List UInt8) (i:Nat):UInt8:=if a<=i/\i<a+b.length then b.getD (i - a) 0 else l.getD i 0
def Qk {l:List UInt8} {a:Nat} {b:List UInt8} (h:a+b.length<=l.length) (k:Nat) (hk:k<l.length):(writeL l a b).take (k+1)=(writeL l a b).take k++[wl l a b k]:=by
 have hl:(writeL l a b).length=l.length:=by simp [writeL];omega
 rw [iE O];congr 2;unfold writeL wl;by_cases h1:a<=k/\k<a+b.length
 .rw [aa h1,EM eX,List.getElem_append_right eX]
  simp [List.getD,show min a l.length=a by omega,show k - a<b.length by omega]
 .rw [Y h1]
  by_cases h2:k<a
  .rw [EM eX,EM eX]
   simp [List.getD,hk]
  .rw [List.getElem_append_right eX]
   simp [List.getD,hk,show min a l.length=a by omega,show a+b.length+(k - (a+b.length))=k by omega]
def refWrite_yes (m:ByteArray) (a:Nat) (b:ByteArray) (w:World) (hn:m.size<=600) (ha:a<4294967296) (h:right m.size a (b.size:Int)=true) :Ca 99 #[.string m,U (a:Int),.string b] w (RB w (.string (writeS m a b))):=by
 have hr:=right_iff.1 h;have h1:(a:Int)+b.size<=m.size:=hr.2.2;have h2:0<b.size:=by omega
 clear hr;have HT:=V (λk hk=>Qk (l:=m.data.toList) (a:=a) (b:=b.data.toList) (by rw [ly,ly];omega) k hk);have HL:Hid ((writeL m.data.toList a b.data.toList).length=m.size):=by
  show _=_;have:=ly m;have:=ly b;simp [writeL];omega
 go_enter func99,ntmps99;go_wp2;go_loopw [7,8] (λv i wr=>∃ k:Nat,k<=m.size/\i = I (k:Int)/\wr.ownsRow w.heap.size 5 1 v k (ck ((writeL m.data.toList a b.data.toList).take k))/\af w wr) (λ_ i _=>m.size - (intOf i).toNat);case atStart=>exact ⟨0,by omega,rfl,xi _ _ _ _ aF,af.alloc _ _⟩
 case round=>
  obtain ⟨k,hk,rfl,ir,ii⟩:=hrel;by_cases eS:k<m.size
  .by_cases hin:a<=k/\k<a+b.size
   .obtain ⟨ka,hin2⟩:=hin
    have hx:k - a<b.size:=by omega
    have e1:((k:Int) - (a:Int)).toNat=k - a:=by omega
    have hw:wl m.data.toList a b.data.toList k=b[k - a]'hx:=by
     unfold wl;rw [aa xR];rw [Gn (show k - a<b.data.toList.length by rw [ly];omega)];rfl
    have HW:=V hw;clear hw;go_wp2_with (at_builtin;go_must (refine t9 wr [.int .u8 (((b[k - a]'hx).toNat:Nat):Int)] 1 F _ _ _ ax w.heap.size 5 (.int .u8 0) 1 1 underlying104 u8infoM F ag _ k _ ax ir ax F vq O O ii.size ?_);intro v' w1 bC bL);go_roundw;case rel=>
     have h3:=HT.out k (by rw [ly];exact eS);rw [HW.out] at h3;exact ⟨k+1,by omega,by go_num,by rw [h3,sJ];exact bC,ii.then_grown ir bL (aM _)⟩
    case measure=>exact zM
   .have hw:wl m.data.toList a b.data.toList k=m[k]'eS:=by
     unfold wl;rw [Y xR,Gn (show k<m.data.toList.length by rw [ly];omega)];rfl
    have HW:=V hw;clear hw;by_cases ka:a<=k
    .have hin2:¬ k<a+b.size:=λh=>hin ⟨ka,h⟩
     clear hin;exact Iv
    .clear hin
     exact Iv
  .obtain rfl:k=m.size:=by omega
   obtain ⟨A3,c3,rfl,iK⟩:=Rd.of_own ir;rw [cD (by have:=HL.out;omega)] at iK;have mL:=V iK;clear iK ir;go_wp2_with (refine rM F 104 9 5 _ ax underlying104 underlying5 underlying9 mL.out ax ?_);go_ret;exact ⟨rfl,ii⟩
end Me
end
section
open Go.RowKit Wd
instance rgOne (l:List Nat) (i:Nat):mR (rg l i):=⟨rfl⟩
end
section
open Go.RowKit Wd
def YT (op:Int):op=28\/op=19\/op=29\/op=37\/op=24\/op=36\/op=23\/op=33\/op=22\/op=30\/op=25\/op=34\/op=26\/op=35\/op=27\/op=31\/op=20\/op=32\/op=21\/op=1\/((∀ a b,aH op a b=0)/\(∀ c:Int,(19<=c/\c<=37/\c≠38)\/c=1->(op == c)=false)):=by
 by_cases h:(19<=op/\op<=37)\/op=1
 .rcases zh op with g|g|rfl|rfl|rfl|rfl|rfl|rfl|rfl|rfl|rfl|rfl|rfl|rfl|rfl|rfl|rfl|rfl|rfl|rfl|rfl|rfl|rfl|rfl|rfl|rfl|rfl|rfl|rfl|rfl|rfl|rfl|rfl|rfl|rfl|rfl|rfl|rfl|rfl|rfl|rfl|rfl|rfl|rfl|rfl|rfl|rfl|rfl|rfl|rfl
  .omega
  .omega
  all_goals first|(simp;done)|(exfalso;omega)
 .have key:∀ c:Int,op≠c->(op == c)=false:=λc h=>by simpa using h
  right;right;right;right;right;right;right;right;right;right;right;right;right;right;right;right;right;right;right;right;refine ⟨?_,λc hc=>key _ O⟩;intro a b;exact Mo
def UM (a b):aH 28 a b=(a+b) % 4294967296:=by simp [aH,ay,hU]
def YV (a b):aH 19 a b=(a+b) % 4294967296:=by simp [aH,ay,hU]
def RC (a b):aH 29 a b=(a+4294967296 - b) % 4294967296:=by simp [aH,ay,hU]
def ZX (a b):aH 37 a b=a &&& b:=by simp [aH,ay,hU]
def WW (a b):aH 24 a b=a &&& b:=by simp [aH,ay,hU]
def j4m (a b):aH 36 a b=a ||| b:=by simp [aH,ay,hU]
def j4n (a b):aH 23 a b=a ||| b:=by simp [aH,ay,hU]
def YW (a b):aH 33 a b=a ^^^ b:=by simp [aH,ay,hU]
def Xi (a b):aH 22 a b=a ^^^ b:=by simp [aH,ay,hU]
def Ra (a b):aH 30 a b=a * 2 ^ (b % 32) % 4294967296:=by simp [aH,ay,hU]
def Q5 (a b):aH 25 a b=a * 2 ^ (b % 32) % 4294967296:=by simp [aH,ay,hU]
def OC (a b):aH 34 a b=a / 2 ^ (b % 32):=by simp [aH,ay,hU]
def F' (a b):aH 26 a b=a / 2 ^ (b % 32):=by simp [aH,ay,hU]
def j4u (a b):aH 35 a b=un (sg a / 2 ^ (b % 32)):=by simp [aH,ay,hU]
def Ym (a b):aH 27 a b=un (sg a / 2 ^ (b % 32)):=by simp [aH,ay,hU]
def WV (a b):aH 31 a b=kX (decide (sg a<sg b)):=by simp [aH,ay,hU]
def XD (a b):aH 20 a b=kX (decide (sg a<sg b)):=by simp [aH,ay,hU]
def j4y (a b):aH 32 a b=kX (decide (a<b)):=by simp [aH,ay,hU]
def Rt (a b):aH 21 a b=kX (decide (a<b)):=by simp [aH,ay,hU]
def QM (a b):aH 1 a b=b:=by simp [aH,ay,hU]
def U8 (op:Int) (a b:Nat) (ha:a<4294967296) (hb:b<4294967296) (w:World) :Ca 157 #[I op,U (a:Int),U (b:Int)] w (RB w (U ((aH op a b:Nat):Int))):=by
 have E:=St.start w [] zN;obtain ⟨s,hs⟩:∃ s,b % 32=s:=⟨_,rfl⟩;have fR:s<32:=by omega
 rcases YT op with rfl|rfl|rfl|rfl|rfl|rfl|rfl|rfl|rfl|rfl|rfl|rfl|rfl|rfl|rfl|rfl|rfl|rfl|rfl|rfl|⟨h0,hc⟩
 .rw [UM]
  exact FK
 .rw [YV]
  exact FK
 .rw [RC]
  replace hs:=V hs;obtain ⟨s1,e1⟩:∃ m,a+4294967296=m:=⟨_,rfl⟩;have l1:s1<8589934592:=by omega
  have g1:b<=s1:=by omega
  rw [e1];obtain ⟨s2,e2⟩:∃ m,s1 - b=m:=⟨_,rfl⟩;have l2:s2<8589934592:=by omega
  rw [e2];obtain ⟨r,e3⟩:∃ m,s2 % 4294967296=m:=⟨_,rfl⟩;have l3:r<4294967296:=by omega
  rw [e3];replace e1:=V e1;replace e2:=V e2;replace e3:=V e3
  (as_aux_lemma=>(go_enter func157,ntmps157;go_wp2_with ((try refine zs ?_);(first|go_big_skip|((refine jn (q:=32) F F F ?_ (hr:=by with_reducible assumption));(try refine zs ?_))|((refine rS F F underlying28 underlying181 ?_);refine zs ?_)|((refine yL F F underlying181 underlying28 ?_);refine zs ?_)|((first|refine uG F F F ?_|refine uG (q:=4294967296) F F F ?_|refine L5 F F F ?_|refine tT (q:=4294967296) F F F ?_);refine zs ?_)));go_ret;exact ⟨rfl,E.bel⟩))
 .replace hs:=V hs
  rw [ZX];exact Fb
 .replace hs:=V hs
  rw [WW];exact Fb
 .replace hs:=V hs
  rw [j4m];exact J0
 .replace hs:=V hs
  rw [j4n];exact J0
 .replace hs:=V hs
  rw [YW];exact JM
 .replace hs:=V hs
  rw [Xi];exact JM
 .rw [Ra,hs]
  exact LK
 .rw [Q5,hs]
  exact LK
 .rw [OC,hs]
  exact Np
 .rw [F',hs]
  exact Np
 .rw [j4u,hs]
  exact K4
 .rw [Ym,hs]
  exact K4
 .replace hs:=V hs
  have bX:=V (λW=>ob a ha W);have ca:=V (λW=>ob b hb W);rw [WV];exact NH
 .replace hs:=V hs
  have bX:=V (λW=>ob a ha W);have ca:=V (λW=>ob b hb W);rw [XD];exact NH
 .replace hs:=V hs
  rw [j4y];exact Oj
 .replace hs:=V hs
  rw [Rt];exact Oj
 .replace hs:=V hs
  rw [QM]
  (as_aux_lemma=>(go_enter func157,ntmps157;go_wp2_with ((try refine zs ?_);(first|go_big_skip|((refine jn (q:=32) F F F ?_ (hr:=by with_reducible assumption));(try refine zs ?_))|fail));go_ret;exact ⟨rfl,E.bel⟩))
 .replace hs:=V hs
  rw [h0];clear h0;have c28:=hc 28 O;have c19:=hc 19 O;have c29:=hc 29 O;have c37:=hc 37 O;have c24:=hc 24 O;have c36:=hc 36 O;have c23:=hc 23 O;have c33:=hc 33 O;have c22:=hc 22 O;have c30:=hc 30 O;have c25:=hc 25 O;have c34:=hc 34 O;have c26:=hc 26 O;have c35:=hc 35 O;have c27:=hc 27 O;have c31:=hc 31 O;have c20:=hc 20 O;have c32:=hc 32 O;have c21:=hc 21 O;have c1:=hc 1 O;clear hc
  (as_aux_lemma=>(go_enter func157,ntmps157;go_wp2_with ((try refine zs ?_);(first|go_big_skip|((refine jn (q:=32) F F F ?_ (hr:=by with_reducible assumption));(try refine zs ?_))|fail));go_ret;exact ⟨rfl,E.bel⟩))
def TT (i:Ins) (pc a b:Nat) (hp:pc<4294967296) (ha:a<4294967296) (hb:b<4294967296) (hi:i.imm<4294967296) (w:World) :Ca 103 #[i.val,U (pc:Int),U (a:Int),U (b:Int)] w (RB w (U ((gH i pc a b:Nat):Int))):=by
 have E:=St.start w [] zN;obtain ⟨op,rd,r1,r2,imm⟩:=i;dsimp only at hi;have iQ:=λW=>j3r op a b ha hb W
 unfold Ins.val gH;dsimp only;by_cases h4:op=4
 .subst h4
  rw [Y (λh=>by rcases h with h|h;exact absurd h ag;exact absurd (show eh 4 a b=true from h) (by simp [eh])),aa F];obtain ⟨n,e1⟩:∃ n,ay a imm=n:=⟨_,rfl⟩;have l1:n<4294967296:=by rw [<- e1];unfold ay;omega
  rw [e1];obtain ⟨m,e2⟩:∃ m,n % 2=m:=⟨_,rfl⟩;have g:m<=n:=by omega
  rw [e2];obtain ⟨r,e3⟩:∃ r,n - m=r:=⟨_,rfl⟩;rw [e3];replace e1:=V e1;replace e2:=V e2;replace e3:=V e3;replace iQ:=V iQ
  (as_aux_lemma=>(go_enter func103,ntmps103;go_wp2_with ((try refine zs ?_);(first|go_big_skip|(go_at_call 160;refine (iQ.out _).mono ?_;rintro x J ⟨rfl,rfl⟩)|((refine ko rfl rfl rfl ?_);refine zs ?_)|((refine ko (q:=4) F F F ?_);refine zs ?_)|((refine jn (q:=2) F F F ?_ (hr:=by with_reducible assumption));(try refine zs ?_))|((refine CG F F F ?_ (hr:=by with_reducible assumption));(try refine zs ?_))|((first|refine aA ?_|(refine am ?_;clear E;intro Z J E));refine zs ?_)));go_ret;exact ⟨rfl,E.bel⟩))
 .by_cases h3:op=3
  .subst h3
   rw [aa (.inl F)];obtain ⟨r,e1⟩:∃ n,ay pc imm=n:=⟨_,rfl⟩;rw [e1];replace e1:=V e1;replace iQ:=V iQ;clear h4
   (as_aux_lemma=>(go_enter func103,ntmps103;go_wp2_with ((try refine zs ?_);(first|go_big_skip|(go_at_call 160;refine (iQ.out _).mono ?_;rintro x J ⟨rfl,rfl⟩)|((refine ko rfl rfl rfl ?_);refine zs ?_)|((refine ko (q:=4) F F F ?_);refine zs ?_)|((refine jn (q:=2) F F F ?_ (hr:=by with_reducible assumption));(try refine zs ?_))|((refine CG F F F ?_ (hr:=by with_reducible assumption));(try refine zs ?_))|((first|refine aA ?_|(refine am ?_;clear E;intro Z J E));refine zs ?_)));go_ret;exact ⟨rfl,E.bel⟩))
  .have c4:(op == 4)=false:=by simpa using h4
   have c3:(op == 3)=false:=by simpa using h3
   obtain ⟨t,ht⟩:∃ t,eh op a b=t:=⟨_,rfl⟩;rw [ht] at iQ ⊢;clear ht;cases t
   .rw [Y (λh=>by rcases h with h|h;exact h3 h;cases h),Y h4]
    obtain ⟨r,e1⟩:∃ n,ay pc 4=n:=⟨_,rfl⟩;exact Gl
   .rw [aa (.inr F)]
    obtain ⟨r,e1⟩:∃ n,ay pc imm=n:=⟨_,rfl⟩;exact Gl
def bR (i:Ins) (b:Nat):Nat:=if i.op=1\/(19<=i.op/\i.op<=27) then i.imm else b
def Z7 (i:Ins) (b:Nat) (w:World) :Ca 154 #[i.val,U (b:Int)] w (RB w (U ((bR i b:Nat):Int))):=by
 have E:=St.start w [] zN;obtain ⟨op,rd,r1,r2,imm⟩:=i;have aZ:=λW=>AN op W
 have a0:=λW=>yk op W
 have ne:∀ c:Int,op≠c->(op == c)=false:=λc h=>by simpa using h
 unfold Ins.val bR;dsimp only;by_cases h1:op=1
 .subst h1
  rw [aa (.inl F)];rw [show cG 1=85 from rfl] at aZ;rw [show ae 1=0 from rfl] at a0;replace aZ:=V aZ;replace a0:=V a0;clear ne
  (as_aux_lemma=>(go_enter func154,ntmps154;go_wp2_with ((try refine zs ?_);(first|go_big_skip|(go_at_call 151;refine (aZ.out _).mono ?_;rintro x J ⟨rfl,rfl⟩)|(go_at_call 93;refine (a0.out _).mono ?_;rintro x J ⟨rfl,rfl⟩)|((first|refine aA ?_|(refine am ?_;clear E;intro Z J E));refine zs ?_)));go_ret;exact ⟨rfl,E.bel⟩))
 have c1:=ne 1 h1;by_cases h2:25<=op/\op<=27
 .rw [aa (.inr O)]
  rw [show cG op=84 by unfold cG;(repeat' split) <;> omega] at aZ;rw [show ae op=0 by unfold ae;(repeat' split) <;> omega] at a0;exact NY
 by_cases h4:op=4
 .subst h4
  rw [Y O];rw [show cG 4=73 from rfl] at aZ;rw [show ae 4=5 from rfl] at a0;exact NY
 have d4:(op != 4)=true:=by simpa using h4
 by_cases h3:19<=op/\op<=24
 .rw [aa (.inr O)]
  rw [show cG op=73 by unfold cG;(repeat' split) <;> omega] at aZ;rw [show ae op=0 by unfold ae;(repeat' split) <;> omega] at a0;replace aZ:=V aZ;replace a0:=V a0;clear ne h1 h2 h3 h4
  (as_aux_lemma=>(go_enter func154,ntmps154;go_wp2_with ((try refine zs ?_);(first|go_big_skip|(go_at_call 151;refine (aZ.out _).mono ?_;rintro x J ⟨rfl,rfl⟩)|(go_at_call 93;refine (a0.out _).mono ?_;rintro x J ⟨rfl,rfl⟩)|((first|refine aA ?_|(refine am ?_;clear E;intro Z J E));refine zs ?_)));go_ret;exact ⟨rfl,E.bel⟩))
 rw [Y O];by_cases h5:11<=op/\op<=15
 .rw [show cG op=73 by unfold cG;(repeat' split) <;> omega] at aZ
  rw [show ae op=3 by unfold ae;(repeat' split) <;> omega] at a0;replace aZ:=V aZ;replace a0:=V a0;clear ne h1 h2 h3 h4 h5
  (as_aux_lemma=>(go_enter func154,ntmps154;go_wp2_with ((try refine zs ?_);(first|go_big_skip|(go_at_call 151;refine (aZ.out _).mono ?_;rintro x J ⟨rfl,rfl⟩)|(go_at_call 93;refine (a0.out _).mono ?_;rintro x J ⟨rfl,rfl⟩)|((first|refine aA ?_|(refine am ?_;clear E;intro Z J E));refine zs ?_)));go_ret;exact ⟨rfl,E.bel⟩))
 have e1:cG op≠84:=by unfold cG;(repeat' split) <;> omega
 have e2:cG op≠73:=by unfold cG;(repeat' split) <;> omega
 generalize cG op=f at *;have e3:(f == 84)=false:=by simpa using e1
 have e4:(f == 73)=false:=by simpa using e2
 generalize ae op=kd at *;replace aZ:=V aZ;replace a0:=V a0;clear ne h1 h2 h3 h4 h5 e1 e2
 (as_aux_lemma=>(go_enter func154,ntmps154;go_wp2_with ((try refine zs ?_);(first|go_big_skip|(go_at_call 151;refine (aZ.out _).mono ?_;rintro x J ⟨rfl,rfl⟩)|(go_at_call 93;refine (a0.out _).mono ?_;rintro x J ⟨rfl,rfl⟩)|((first|refine aA ?_|(refine am ?_;clear E;intro Z J E));refine zs ?_)));go_ret;exact ⟨rfl,E.bel⟩))
def Yr (i a b):aH i.op a (if kI i.op=true then i.imm else b)=aH i.op a (bR i b):=by
 unfold bR;by_cases h:11<=i.op/\i.op<=15
 .have z:∀ y,aH i.op a y=0:=λy=>by
   exact Mo
  rw [z,z]
 .have e:(kI i.op=true)↔(i.op=1\/(19<=i.op/\i.op<=27)):=by
   unfold kI;rw [decide_eq_true_iff];omega
  by_cases h2:kI i.op=true
  .rw [aa h2,aa (e.1 h2)]
  .rw [Y h2,Y (λx=>h2 (e.2 x))]
def j5f (i:Ins) (pc a b:Nat) (hp:pc<4294967296) (ha:a<4294967296) (hb:b<4294967296) (hi:i.imm<4294967296) (w:World) :Ca 95 #[i.val,U (pc:Int),U (a:Int),U (b:Int)] w (RB w (U ((jw i pc a b:Nat):Int))):=by
 have E:=St.start w [] zN;have HB:=λW=>Z7 i b W
 have hn:bR i b<4294967296:=by unfold bR;split <;> omega
 have hal:=Yr i a b;have bE:ae i.op=1\/ae i.op=2->bR i b=b:=λh=>by
  unfold bR;rw [Y];intro h2;unfold ae at h;rcases h2 with h2|h2
  .rw [h2] at h;simp at h
  .rw [Y O,Y O,Y O,Y O,Y O,Y O] at h;omega
 have a0:=λW=>yk i.op W
 have bG:=λW=>G' i.op a (bR i b) ha hn W
 have lH:=λW=>T4 i.op a (bR i b) ha hn W
 have bJ:=λW=>U8 i.op a (bR i b) ha hn W
 unfold jw;rw [hal];clear hal;obtain ⟨op,rd,r1,r2,imm⟩:=i;unfold Ins.val at HB ⊢;dsimp only at HB a0 bG lH bJ bE hn hi ⊢;generalize bR ⟨op,rd,r1,r2,imm⟩ b=n at *;have ne:∀ c:Int,op≠c->(op == c)=false:=λc h=>by simpa using h
 replace HB:=V HB;by_cases k1:ae op=1
 .rw [aa k1]
  have:=bE (.inl k1);subst this;rw [k1] at a0;generalize fc op a n=r at *;generalize eB op a n=r2 at *;generalize aH op a n=r3 at *;replace a0:=V a0;replace bG:=V bG;replace lH:=V lH;replace bJ:=V bJ;clear ne bE k1
  (as_aux_lemma=>(go_enter func95,ntmps95;go_wp2_with ((try refine zs ?_);(first|go_big_skip|(go_at_call 154;refine E.cB (HB.out _) ?_;clear E;intro J E)|(go_at_call 93;refine (a0.out _).mono ?_;rintro x J ⟨rfl,rfl⟩)|(go_at_call 155;refine (bG.out _).mono ?_;rintro x J ⟨rfl,rfl⟩)|(go_at_call 156;refine (lH.out _).mono ?_;rintro x J ⟨rfl,rfl⟩)|(go_at_call 157;refine E.cB (bJ.out _) ?_;clear E;intro J E)|((refine ko F F F ?_);refine zs ?_)|((refine ko (q:=4) F F F ?_);refine zs ?_)|((first|refine aA ?_|(refine am ?_;clear E;intro Z J E));refine zs ?_)));go_ret;exact ⟨rfl,E.bel⟩))
 rw [Y k1];by_cases k2:ae op=2
 .rw [aa k2]
  have:=bE (.inr k2);subst this;rw [k2] at a0;generalize fc op a n=r at *;generalize eB op a n=r2 at *;generalize aH op a n=r3 at *;replace a0:=V a0;replace bG:=V bG;replace lH:=V lH;replace bJ:=V bJ;exact Ji
 rw [Y k2];have d1:(ae op == 1)=false:=by simpa using k1
 have d2:(ae op == 2)=false:=by simpa using k2
 generalize ae op=kd at *;generalize fc op a n=r at *;generalize eB op a n=r2 at *;generalize aH op a n=r3 at *;replace a0:=V a0;replace bG:=V bG;replace lH:=V lH;replace bJ:=V bJ;by_cases q2:op=2
 .subst q2
  rw [aa F];obtain ⟨v,e1⟩:∃ n,ay pc imm=n:=⟨_,rfl⟩;rw [e1];replace e1:=V e1;exact Ji
 rw [Y q2];have c2:=ne 2 q2;by_cases q3:op=3
 .subst q3
  rw [aa (.inl F)];obtain ⟨v,e1⟩:∃ n,ay pc 4=n:=⟨_,rfl⟩;rw [e1];replace e1:=V e1;clear ne bE k1 k2 q2
  (as_aux_lemma=>(go_enter func95,ntmps95;go_wp2_with ((try refine zs ?_);(first|go_big_skip|(go_at_call 154;refine E.cB (HB.out _) ?_;clear E;intro J E)|(go_at_call 93;refine (a0.out _).mono ?_;rintro x J ⟨rfl,rfl⟩)|(go_at_call 155;refine (bG.out _).mono ?_;rintro x J ⟨rfl,rfl⟩)|(go_at_call 156;refine (lH.out _).mono ?_;rintro x J ⟨rfl,rfl⟩)|(go_at_call 157;refine E.cB (bJ.out _) ?_;clear E;intro J E)|((refine ko F F F ?_);refine zs ?_)|((refine ko (q:=4) F F F ?_);refine zs ?_)|((first|refine aA ?_|(refine am ?_;clear E;intro Z J E));refine zs ?_)));go_ret;exact ⟨rfl,E.bel⟩))
 have c3:=ne 3 q3;by_cases q4:op=4
 .subst q4
  rw [aa (.inr F)];obtain ⟨v,e1⟩:∃ n,ay pc 4=n:=⟨_,rfl⟩;rw [e1];replace e1:=V e1;clear ne bE k1 k2 q2 q3
  (as_aux_lemma=>(go_enter func95,ntmps95;go_wp2_with ((try refine zs ?_);(first|go_big_skip|(go_at_call 154;refine E.cB (HB.out _) ?_;clear E;intro J E)|(go_at_call 93;refine (a0.out _).mono ?_;rintro x J ⟨rfl,rfl⟩)|(go_at_call 155;refine (bG.out _).mono ?_;rintro x J ⟨rfl,rfl⟩)|(go_at_call 156;refine (lH.out _).mono ?_;rintro x J ⟨rfl,rfl⟩)|(go_at_call 157;refine E.cB (bJ.out _) ?_;clear E;intro J E)|((refine ko F F F ?_);refine zs ?_)|((refine ko (q:=4) F F F ?_);refine zs ?_)|((first|refine aA ?_|(refine am ?_;clear E;intro Z J E));refine zs ?_)));go_ret;exact ⟨rfl,E.bel⟩))
 have c4:=ne 4 q4;rw [Y O];clear ne bE k1 k2 q2 q3 q4
 (as_aux_lemma=>(go_enter func95,ntmps95;go_wp2_with ((try refine zs ?_);(first|go_big_skip|(go_at_call 154;refine E.cB (HB.out _) ?_;clear E;intro J E)|(go_at_call 93;refine (a0.out _).mono ?_;rintro x J ⟨rfl,rfl⟩)|(go_at_call 155;refine (bG.out _).mono ?_;rintro x J ⟨rfl,rfl⟩)|(go_at_call 156;refine (lH.out _).mono ?_;rintro x J ⟨rfl,rfl⟩)|(go_at_call 157;refine E.cB (bJ.out _) ?_;clear E;intro J E)|((refine ko F F F ?_);refine zs ?_)|((refine ko (q:=4) F F F ?_);refine zs ?_)|((first|refine aA ?_|(refine am ?_;clear E;intro Z J E));refine zs ?_)));go_ret;exact ⟨rfl,E.bel⟩))
def ZZ (op:Int):(hZ op=true/\(cG op=82\/cG op=73\/cG op=84\/cG op=85\/cG op=74))\/(hZ op=false/\(cG op=0\/cG op=83\/cG op=66\/cG op=87)):=by
 unfold hZ cG;rcases zh op with h|h|rfl|rfl|rfl|rfl|rfl|rfl|rfl|rfl|rfl|rfl|rfl|rfl|rfl|rfl|rfl|rfl|rfl|rfl|rfl|rfl|rfl|rfl|rfl|rfl|rfl|rfl|rfl|rfl|rfl|rfl|rfl|rfl|rfl|rfl|rfl|rfl|rfl|rfl|rfl|rfl|rfl|rfl|rfl|rfl|rfl|rfl|rfl|rfl
 .rw [aa (.inl h)];exact .inr ⟨by simp;omega,.inl F⟩
 .rw [aa (.inr h)];exact .inr ⟨by simp;omega,.inl F⟩
 all_goals decide
def Sv (i w):Ca 94 #[i.val] w (RB w (I (bp i))):=by
 have E:=St.start w [] zN;obtain ⟨op,rd,r1,r2,imm⟩:=i;have aZ:=λW=>AN op W
 have hf:=ZZ op;unfold Ins.val bp;dsimp only;rcases hf with ⟨hw,hf⟩|⟨hw,hf⟩
 .rw [aa hw]
  clear hw;rcases hf with hf|hf|hf|hf|hf
  all_goals exact Fh
 .rw [Y (by rw [hw];simp)]
  clear hw;rcases hf with hf|hf|hf|hf
  all_goals exact Fh
def Sr (op:Int):op=11\/op=14\/op=16\/op=12\/op=15\/op=17\/op=13\/op=18\/(aU op=0/\(op == 11)=false/\(op == 14)=false/\(op == 16)=false/\(op == 12)=false/\(op == 15)=false/\(op == 17)=false/\(op == 13)=false/\(op == 18)=false):=by
 by_cases h:(11<=op/\op<=18)
 .omega
 .have key:∀ c:Int,op≠c->(op == c)=false:=λc h=>by simpa using h
  refine .inr (.inr (.inr (.inr (.inr (.inr (.inr (.inr ⟨?_,key _ O,key _ O,key _ O,key _ O,key _ O,key _ O,key _ O,key _ O⟩)))))));unfold aU;rw [Y O,Y O,Y O]
def K7 (op:Int) (w:World) :Ca 96 #[I op] w λe w'=>e = .returned (I (aU op))/\w'=w:=by
 rcases Sr op with rfl|rfl|rfl|rfl|rfl|rfl|rfl|rfl|⟨hz,c1,c2,c3,c4,c5,c6,c7,c8⟩
 all_goals
  (try (rw [hz];clear hz));go_enter func96,ntmps96;go_wp2;go_ret;exact ⟨rfl,rfl⟩
def OZ (op:Int) (b:ByteArray) (w:World) (hs:b.size<=maxLen) :Ca 101 #[I op,.string b] w (RB w (U (iI op b:Int))):=by
 have E:=St.start w [] zN;have HK:=V (λW=>yk op W);have HZ:=V (λW=>K7 op W);have j7:=t0 op;by_cases h3:ae op=3
 .rw [h3] at HK
  by_cases hz:(b.size:Int)=aU op
  .have j8:b.size<=4:=by omega
   have HJ:=V (λW=>GS b W j8);have hL:iI op b=if op=11 then cJ (dl b.data.toList) 8 else if op=12 then cJ (dl b.data.toList) 16 else dl b.data.toList:=by
    unfold iI;rw [Y (by simp [h3,hz])];rfl
   have hj:dl b.data.toList<4294967296:=tS (by simpa using j8);rw [<- hz] at HZ;generalize dl b.data.toList=j at *;clear h3 hz;by_cases o1:op=11
   .rw [hL,aa o1]
    subst o1;clear hL;exact wt
   by_cases o2:op=12
   .rw [hL,Y o1,aa o2]
    subst o2;clear hL o1;exact wt
   .rw [hL,Y o1,Y o2]
    have b1:(op == 11)=false:=by simpa using o1
    have b2:(op == 12)=false:=by simpa using o2
    clear hL o1 o2;exact wt
  .rw [show iI op b=0 from by unfold iI;rw [aa (.inr hz)]]
   generalize aU op=sz at *;clear h3;exact wt
 .rw [show iI op b=0 from by unfold iI;rw [aa (.inl h3)]]
  generalize ae op=κ at *;exact wt
def NP {M m k r}(hM:M=m.take 256)(hk:Me.cleanN M.length=k)(hr:k - M.length=r):M++List.replicate r 0=Me.cleanL m:=by
 subst hM hk hr;rfl
def Fc {M r m}(h:M.data.toList++List.replicate r 0=Me.cleanL m.data.toList):Ending.returned (.string (M++⟨(List.replicate r 0).toArray⟩)) = .returned (.string (ou m)):=by
 unfold ou;rw [<- h];congr 2
def Rg (m w)(hm:m.size<=9223372036854775807):Ca 40 #[.string m] w (RB w (.string (ou m))):=by
 obtain ⟨i0,hi,fX,f0,pe⟩:=info_parts Me.u8infoM;have gt:∀ (r:Nat) (W:World),r<=256->Bk W w.heap.size 5 (madeCells (Value.cells (.int .u8 0)) (r * 1)).toList->Rd W W.heap.size 1 (some ⟨w.heap.size,0,none⟩) r r (ck (List.replicate r 0)):=by
  intro r W h2 hb;rw [Me.zeros_made] at hb;have:=hb.rd (sz:=1) (n:=r) (c:=r) (o:=0) (by rw [jK,qj];omega) (aM _) eT
  rwa [rh,cD (by rw [jK,qj];omega)] at this
 by_cases h:256<m.size
 .go_enter func40,ntmps40
  go_wp2;have iy:=xz m 0 256;have cC:=Bb m 0 256;rw [rh] at iy;generalize m.extract 0 256=M at *;have hM:M.size<=256:=by omega
  have Hm:=V iy;clear iy cC;go_loop [3] (λz=>∃ k:Nat,(k=16\/k=32\/k=64\/k=128\/k=256)/\(k=16\/k<2 * M.size)/\z = I (k:Int)) (λz=>512 - (intOf z).toNat);case atStart=>exact ⟨16,by omega,by omega,rfl⟩
  case round=>
   obtain ⟨k,hk,bo,rfl⟩:=hrel;by_cases hlt:k<M.size
   .go_wp2
    go_round;case rel=>exact ⟨2 * k,by omega,by omega,by go_num⟩
    case measure=>exact zM
   .have Hk:=V (Me.cleanN_of hk bo (show M.size<=k by omega))
    obtain ⟨r,hr⟩:∃ r,k - M.size=r:=⟨_,rfl⟩;have Hr:=V hr;have mv:(k:Int) - (M.size:Int)=(r:Int):=by omega
    have uR:=V (λW=>gt r W O);clear gt hr;go_wp2_with (first|(at_make;refine wpList_make_full _ F _ _ 104 ax w.heap.size 5 i0 (.int .u8 0) 1 underlying104 hi fX f0 _ _ _ _ r ax ax F F xr eT (aM _) ?_;intro w1 ir hg;have bE:=Bk.of_own ir F)|(refine rM F 104 9 5 _ ax underlying104 underlying5 underlying9 (uR.out _ bE) ax ?_));go_ret;exact ⟨Fc (NP (k:=k) (r:=r) Hm.out xX (by rw [ly];exact Hr.out)),(af.refl w).grown hg aF⟩
 .go_enter func40,ntmps40
  go_wp2;go_loop [3] (λz=>∃ k:Nat,(k=16\/k=32\/k=64\/k=128\/k=256)/\(k=16\/k<2 * m.size)/\z = I (k:Int)) (λz=>512 - (intOf z).toNat);case atStart=>exact ⟨16,by omega,by omega,rfl⟩
  case round=>
   obtain ⟨k,hk,bo,rfl⟩:=hrel;by_cases hlt:k<m.size
   .go_wp2
    go_round;case rel=>exact ⟨2 * k,by omega,by omega,by go_num⟩
    case measure=>exact zM
   .have Hk:=V (Me.cleanN_of hk bo (show m.size<=k by omega))
    obtain ⟨r,hr⟩:∃ r,k - m.size=r:=⟨_,rfl⟩;have Hr:=V hr;have mv:(k:Int) - (m.size:Int)=(r:Int):=by omega
    have uR:=V (λW=>gt r W O);clear gt hr;go_wp2_with (first|(at_make;refine wpList_make_full _ F _ _ 104 ax w.heap.size 5 i0 (.int .u8 0) 1 underlying104 hi fX f0 _ _ _ _ r ax ax F F xr eT (aM _) ?_;intro w1 ir hg;have bE:=Bk.of_own ir F)|(refine rM F 104 9 5 _ ax underlying104 underlying5 underlying9 (uR.out _ bE) ax ?_));go_ret;exact ⟨Fc (NP (k:=k) (r:=r) (by rw [cD xR]) xX (by rw [ly];exact Hr.out)),(af.refl w).grown hg aF⟩
def Ow {zs pc k z}(hz:zs[k]?=some z)(h:pc=4 * k):eE zs pc=some z:=by
 unfold eE;rw [aa O,show pc / 4=k by omega];exact hz
def Us {zs pc n}(hl:zs.length=n)(h:∀ j,j<n -> ¬ 4 * j=pc):eE zs pc=none:=by
 unfold eE;by_cases h4:pc % 4=0
 .rw [aa h4]
  refine nc ?_;refine Nat.le_of_not_lt λhlt=>h (pc / 4) O O
 .rw [Y h4]
def wI (A:Option Addr) (n c:Nat) (zl':List Nat) (pc:Nat) (w:World) (hr:Rd w w.heap.size 1 A n c (ai zl')) (hp:pc<4294967296) (hn:n<=1000000) :Ca 90 #[.slice A n c,U (pc:Int)] w (RB w (.tuple #[U (Gc (eE zl' pc)),.bool (eE zl' pc).isSome])):=by
 have E:=St.start w [ab 1 A n c (ai zl')] (zC hr zN);have hl:zl'.length=n:=hr.u32vlen;have hc1:=hr.le;have aN:=hr.mx;unfold maxLen at aN;go_enter func90,ntmps90;go_wp2_with (first|((first|refine aA ?_|(refine am ?_;clear E;intro Z J E));refine zs ?_));go_loopw [10,6,7] (λix _ _ wr=>∃ k:Nat,k<=n/\ix = I (k:Int)/\Hid (∀ j,j<k -> ¬ 4 * j=pc)/\St w [ab 1 A n c (ai zl')] wr [] [ab 1 A n c (ai zl')]) (λix _ _ _=>n - (intOf ix).toNat);case atStart=>exact ⟨0,by omega,rfl,V (λj h=>by omega),E⟩
 case round=>
  clear E;obtain ⟨k,hk,rfl,iz,E⟩:=hrel;by_cases ik:k<n
  .obtain ⟨z,hz⟩:∃ z,zl'[k]?=some z:=⟨_,ba O⟩
   have hc:(ai zl')[k * 1]?=some (U (z:Int)):=by rw [dP];simp [ai,hz]
   obtain ⟨m,hm⟩:∃ m,4 * k=m:=⟨_,rfl⟩;have nt:m<18446744073709551616:=by omega
   by_cases he:pc=m
   .have hb:=V (show decide ((pc:Int)=(m:Int))=true from cU O)
    have hf:=V (Ow hz (he.trans hm.symm));replace hm:=V hm;clear he hz hl;go_wp2_with ((try refine zs ?_);(first|go_big_skip|((refine rS F F underlying28 underlying181 ?_);refine zs ?_)|((refine zJ (p:=4) F F F ?_);refine zs ?_)|((refine co F F F ?_);(try refine zs ?_))|((first|refine aA ?_|(refine am ?_;clear E;intro Z J E));refine zs ?_)));go_ret2;exact ⟨by rw [hf.out];rfl,E.bel⟩
   .have hb:=V (show decide ((pc:Int)=(m:Int))=false from dg O)
    have mA:Hid (∀ j,j<k+1 -> ¬ 4 * j=pc):=V (λj hj=>by
     by_cases hjk:j<k
     .exact iz.out j hjk
     .obtain rfl:j=k:=by omega
      omega)
    replace hm:=V hm;clear he hz hl;go_wp2_with ((try refine zs ?_);(first|go_big_skip|((refine rS F F underlying28 underlying181 ?_);refine zs ?_)|((refine zJ (p:=4) F F F ?_);refine zs ?_)|((refine co F F F ?_);(try refine zs ?_))|((first|refine aA ?_|(refine am ?_;clear E;intro Z J E));refine zs ?_)));go_roundw;case rel=>exact ⟨k+1,by omega,by go_num,mA,E⟩
    case measure=>exact zM
  .obtain rfl:k=n:=by omega
   have hf:=V (Us hl iz.out);clear hl;go_wp2_with (first|((first|refine aA ?_|(refine am ?_;clear E;intro Z J E));refine zs ?_));go_ret2;exact ⟨by rw [hf.out];rfl,E.bel⟩
def aX (s:Sq):List Value:=[U (s.pc:Int),rg s.regs 0,rg s.regs 1,rg s.regs 2,rg s.regs 3,rg s.regs 4,rg s.regs 5,rg s.regs 6,rg s.regs 7,rg s.regs 8,rg s.regs 9,rg s.regs 10,rg s.regs 11,rg s.regs 12,rg s.regs 13,rg s.regs 14,rg s.regs 15,rg s.regs 16,rg s.regs 17,rg s.regs 18,rg s.regs 19,rg s.regs 20,rg s.regs 21,rg s.regs 22,rg s.regs 23,rg s.regs 24,rg s.regs 25,rg s.regs 26,rg s.regs 27,rg s.regs 28,rg s.regs 29,rg s.regs 30,rg s.regs 31,.string s.mem,I s.halt]
def z8 (s):(aX s).length=35:=rfl
def lw (s):∀ u∈aX s,u.oneCell'=true:=by
 unfold aX;intro u hu;simp only [bB,rr,lr] at hu;rcases hu with rfl|rfl|rfl|rfl|rfl|rfl|rfl|rfl|rfl|rfl|rfl|rfl|rfl|rfl|rfl|rfl|rfl|rfl|rfl|rfl|rfl|rfl|rfl|rfl|rfl|rfl|rfl|rfl|rfl|rfl|rfl|rfl|rfl|rfl|rfl
 all_goals rfl
def Nj {s r}(hr:r<32):(aX s)[1+r]?=some (U ((s.regs[r]?.getD 0:Nat):Int)):=by
 match r,hr with
 | 0,_=>rfl
 | 1,_=>rfl
 | 2,_=>rfl
 | 3,_=>rfl
 | 4,_=>rfl
 | 5,_=>rfl
 | 6,_=>rfl
 | 7,_=>rfl
 | 8,_=>rfl
 | 9,_=>rfl
 | 10,_=>rfl
 | 11,_=>rfl
 | 12,_=>rfl
 | 13,_=>rfl
 | 14,_=>rfl
 | 15,_=>rfl
 | 16,_=>rfl
 | 17,_=>rfl
 | 18,_=>rfl
 | 19,_=>rfl
 | 20,_=>rfl
 | 21,_=>rfl
 | 22,_=>rfl
 | 23,_=>rfl
 | 24,_=>rfl
 | 25,_=>rfl
 | 26,_=>rfl
 | 27,_=>rfl
 | 28,_=>rfl
 | 29,_=>rfl
 | 30,_=>rfl
 | 31,_=>rfl
 | n+32,h=>exact absurd h O
def CF {s:Sq} (x:Nat):(aX s).set 0 (U (x:Int))=aX { s with pc:=x }:=rfl
def CJ {s}(x):(aX s).set 33 (.string x)=aX { s with mem:=x }:=rfl
def Uk {s:Sq} (x:Int):(aX s).set 34 (I x)=aX { s with halt:=x }:=rfl
def YE {l:List Nat} {r x:Nat} (h:r<l.length) (i:Nat):rg (l.set r x) i=if i=r then U (x:Int) else rg l i:=by
 unfold rg;rw [sn];by_cases hi:i=r
 .subst hi;simp [h]
 .rw [Y (λe=>hi e.symm),Y hi]
def Ev {s:Sq} {r:Nat} (hr:r<32) (hl:s.regs.length=32) (x:Nat):(aX s).set (1+r) (U (x:Int))=aX { s with regs:=s.regs.set r x }:=by
 unfold aX;dsimp only;simp only [YE (x:=x) (show r<s.regs.length by omega)]
 match r,hr with
 | 0,_=>rfl
 | 1,_=>rfl
 | 2,_=>rfl
 | 3,_=>rfl
 | 4,_=>rfl
 | 5,_=>rfl
 | 6,_=>rfl
 | 7,_=>rfl
 | 8,_=>rfl
 | 9,_=>rfl
 | 10,_=>rfl
 | 11,_=>rfl
 | 12,_=>rfl
 | 13,_=>rfl
 | 14,_=>rfl
 | 15,_=>rfl
 | 16,_=>rfl
 | 17,_=>rfl
 | 18,_=>rfl
 | 19,_=>rfl
 | 20,_=>rfl
 | 21,_=>rfl
 | 22,_=>rfl
 | 23,_=>rfl
 | 24,_=>rfl
 | 25,_=>rfl
 | 26,_=>rfl
 | 27,_=>rfl
 | 28,_=>rfl
 | 29,_=>rfl
 | 30,_=>rfl
 | 31,_=>rfl
 | n+32,h=>exact absurd h O
def lj : List Value:=[U 0,U 0,U 0,U 0,U 0,U 0,U 0,U 0,U 0,U 0,U 0,U 0,U 0,U 0,U 0,U 0,U 0,U 0,U 0,U 0,U 0,U 0,U 0,U 0,U 0,U 0,U 0,U 0,U 0,U 0,U 0,U 0,U 0,.string ⟨#[]⟩,I 0]
def W9 {P w fn p p' ty t ty' t' g g' cs cs' tmps}(h:fn.results=#[.cell p ty,.cell p' ty'])(hp:tmps.getD p undef = .pointer (some ⟨g,0,none⟩))(hb:Bk w g t cs)(ht:cO P ty cs.length)(mD:tmps.getD p' undef = .pointer (some ⟨g',0,none⟩))(hb2:Bk w g' t' cs')(mE:cO P ty' cs'.length):(results fn tmps).run P w = .ok (.tuple #[.agg cs.toArray,.agg cs'.toArray]) w:=by
 have mZ:tmps[p]?.getD undef = .pointer (some ⟨g,0,none⟩):=by simpa using hp
 have mF:tmps[p']?.getD undef = .pointer (some ⟨g',0,none⟩):=by simpa using mD
 simp [results,h,mZ,mF,asAddr,hb.loadVar ht,hb2.loadVar mE]
def sX {P:Program} {w0 w:World} {D0 D:List Da} {M:List Mu} {fn:Func} {p p':Tmp} {ty t ty' t':TypeId} {g g' i i':Nat} {cs cs':List Value} {tmps:Array Value} (h:fn.results=#[.cell p ty,.cell p' ty']) (E:St w0 D0 w M D) (hp:tmps.getD p undef = .pointer (some ⟨g,0,none⟩):=by rfl) (hi:M[i]?=some (.blk g t cs):=by (first|exact aC|exact dD|exact jh|exact kY|exact oc|exact tl|exact uA|exact at7)) (ht:cO P ty cs.length:=by exact jo _ _ rfl)(mZ:tmps.getD p' undef = .pointer (some ⟨g',0,none⟩):=by rfl) (g0:M[i']?=some (.blk g' t' cs'):=by (first|exact aC|exact dD|exact jh|exact kY|exact oc|exact tl|exact uA|exact at7)) (mJ:cO P ty' cs'.length:=by exact jo _ _ rfl) :(results fn tmps).run P w = .ok (.tuple #[.agg cs.toArray,.agg cs'.toArray]) w:=W9 h hp (E.bkAt hi) ht mZ (E.bkAt g0) mJ
def sq (s:Sq) (why:Int) (addr:Nat) (w:World) :Ca 91 #[.agg (aX s).toArray,I why,U (addr:Int)] w (RB w (.tuple #[.agg (aX { s with halt:=why }).toArray,(⟨s.pc,s.pc,0,0,addr,0,false,why,0⟩:Stp).val])):=by
 have E:=St.start w [] zN;go_enter func91,ntmps91;go_upto_region 3 with ((try refine zs ?_);(first|go_big_skip|((refine gj (cs:=aX s) F E F ?_);clear E;intro gK J E;(try refine zs ?_))|(refine bK (ty:=48) (cs:=lj) F E ?_;clear E;intro gR J E;(try refine zs ?_))|((refine cV (cs:=aX s) (v:=.agg (aX s).toArray) F E F ?_);refine zs ?_)|(refine aW (us:=aX s) F E F F ?_ (h1:=λu hu=>.inl (lw _ u hu));clear E;intro J E;(try simp only [zF] at E);refine zs ?_)|(refine bz F E F F ?_ (iv:=by rw [z8];decide);clear E;intro J E;(try simp only [zF] at E);refine zs ?_)|((first|(refine gj F E F ?_;clear E;intro Z J E)|(refine bK F E ?_;clear E;intro Z J E)|(refine bP F E F ?_)|(refine cV F E F ?_)|(refine bz F E F F ?_;clear E;intro J E;(try simp only [zF] at E))|(refine aW F E F F ?_;clear E;intro J E;(try simp only [zF] at E))|(refine pv F F ?_)|(refine EW F E F ?_)|(refine rB F E F F ?_)|(refine sk F E F ?_)|(refine fA F E F ?_)|(refine iD F E F ?_;clear E;intro Z J E)|(refine nU F E ?_;clear E;intro Z J E)|(refine oq F E F F ?_;clear E;intro vN J E;(try simp only [zF] at E))|(refine tq F E F F ?_;clear E;intro vN J E;(try simp only [zF] at E))|(refine vP F E F ?_)|(refine ju F E F F ?_;clear E;intro J E;(try simp only [zF] at E))|(refine yu F E F F ?_;clear E;intro Z J E)|(refine F9 F E F F ?_;clear E;intro E)|(refine ro F E F F ?_;clear E;intro E));refine zs ?_)));rw [Uk] at E;refine bA aj E [.blk _ 48 (aX { s with halt:=why }),.blk _ 48 (aX s)] [] cM cM ?_;clear E;intro E H;refine cX 0 H ?_;refine az 1 H ?_;refine cX 2 H ?_;refine az 3 H ?_;refine cX 4 H ?_;refine an 5 H ?_;refine an 6 H ?_;(refine th (i:=7) (v:=?_) F F aj aj aj (λ_ _ _ h=>h) ?_ H ?_;rotate_left;(first|exact nJ kH ax|(refine cg ax ?_;intro w;go_simp;done)|(refine cg ax ?_;intro w;go_simp;with_reducible rfl)|(refine cg ax ?_;intro w;simp only [Wy.cells];go_simp;with_reducible rfl));(try refine zs ?_));refine aB 8 (λK X=>?_);go_wp2_with ((first|(refine bz F E F F ?_;clear E;intro J E;(try simp only [zF] at E))|(refine aW F E F F ?_;clear E;intro J E;(try simp only [zF] at E))|(refine ju F E F F ?_;clear E;intro J E;(try simp only [zF] at E)));(try refine zs ?_));have H:=aO H E;refine X.out _ _ H ?_;clear X;refine zs ?_;refine aB 9 (λK X=>?_);go_wp2_with ((first|(refine bz F E F F ?_;clear E;intro J E;(try simp only [zF] at E))|(refine aW F E F F ?_;clear E;intro J E;(try simp only [zF] at E))|(refine ju F E F F ?_;clear E;intro J E;(try simp only [zF] at E)));(try refine zs ?_));have H:=aO H E;refine X.out _ _ H ?_;clear X;refine zs ?_;refine bt ?_;(go_wp2;((try simp only [Exit.inBlock,Exit.then]);refine bc (sX F E) F ?_);exact ⟨rfl,E.bel⟩)
end
section
open Go.RowKit Wd
structure kq (s:Sq):Prop where
 pc:s.pc<4294967296
 len:s.regs.length=32
 reg:∀ r∈s.regs,r<4294967296
 mem:s.mem.size<=256
def nn (w:World) (s:Sq) (t:Stp) (e:Ending) (w':World):Prop:=e = .returned (.tuple #[.agg (aX (dE s t)).toArray,.agg (Stp.cells t).toArray])/\af w w'
def rP {s t}(h1:t.rd=0)(h2:t.store=false)(h3:t.next=s.pc):dE s t={ s with halt:=t.halt }:=by
 unfold dE eU gx;rw [Y O,h2,h3];rfl
section
variable {A:Option Addr} {n c:Nat} {prog:List Nat} {pc:Nat} {regs:List Nat} {mem:ByteArray}
def Zg (hk:kq (⟨pc,regs,mem,0⟩:Sq))(hn:n<=1000000)(bb:∀ z∈prog,z<4294967296)(w)(hr:Rd w w.heap.size 1 A n c (ai prog))(hf:eE prog pc=none):Ca 41 #[.slice A n c,.agg (aX (⟨pc,regs,mem,0⟩:Sq)).toArray] w (nn w (⟨pc,regs,mem,0⟩:Sq) (cx prog (⟨pc,regs,mem,0⟩:Sq))):=by
 have E:=St.start w [ab 1 A n c (ai prog)] (zC hr zN);have iO:=V (λ(W:World) (h:Rd W W.heap.size 1 A n c (ai prog))=>show Ca 90 #[.slice A n c,U (pc:Int)] W (RB W (.tuple #[U 0,.bool false])) from by have:=wI A n c prog pc W h hk.pc hn;rw [hf] at this;exact this);rw [show cx prog (⟨pc,regs,mem,0⟩:Sq)=(⟨pc,pc,0,0,0,0,false,1,0⟩:Stp) from by unfold cx;dsimp only;rw [hf];rfl];have hD:=V (show dE (⟨pc,regs,mem,0⟩:Sq) (⟨pc,pc,0,0,0,0,false,1,0⟩:Stp)=(⟨pc,regs,mem,1⟩:Sq) from rP rfl rfl rfl);have bi:=V (λW=>show Ca 91 #[.agg (aX (⟨pc,regs,mem,0⟩:Sq)).toArray,I 1,U 0] W (RB W (.tuple #[.agg (aX (⟨pc,regs,mem,1⟩:Sq)).toArray,.agg (Stp.cells (⟨pc,pc,0,0,0,0,false,1,0⟩:Stp)).toArray])) from sq (⟨pc,regs,mem,0⟩:Sq) 1 0 W);unfold nn;clear hr bb hk hf hn
 (as_aux_lemma=>(go_enter func41,ntmps41;go_wp2_with ((try refine zs ?_);(first|go_big_skip|((refine gj (cs:=aX (⟨pc,regs,mem,0⟩:Sq)) F E F ?_);clear E;intro gK J E;(try refine zs ?_))|(refine bK (ty:=48) (cs:=lj) F E ?_;clear E;intro gR J E;(try refine zs ?_))|(go_at_call 90;refine E.cB (iO.out _ E.rdA) ?_;clear E;intro J E)|(go_at_call 92;refine E.cB (dz.out _) ?_;clear E;intro J E)|(go_at_call 91;refine E.cB (bi.out _) ?_;clear E;intro J E)|((refine cV (cs:=aX (⟨pc,regs,mem,0⟩:Sq)) (v:=.agg (aX (⟨pc,regs,mem,0⟩:Sq)).toArray) F E F ?_);refine zs ?_)|(refine aW (us:=aX (⟨pc,regs,mem,1⟩:Sq)) F E F F ?_ (h1:=λu hu=>.inl (lw _ u hu));clear E;intro J E;(try simp only [zF] at E);refine zs ?_)|(refine aW (us:=Stp.cells (⟨pc,pc,0,0,0,0,false,1,0⟩:Stp)) F E F F ?_;clear E;intro J E;(try simp only [zF] at E);refine zs ?_)|((first|refine aA ?_|(refine am ?_;clear E;intro Z J E));refine zs ?_)));((try simp only [Exit.inBlock,Exit.then]);refine bc (sX F E) F ?_);exact ⟨by rw [hD.out],E.bel⟩))
def YY (hk:kq (⟨pc,regs,mem,0⟩:Sq))(hn:n<=1000000)(bb:∀ z∈prog,z<4294967296)(w)(hr:Rd w w.heap.size 1 A n c (ai prog)){x}(hf:eE prog pc=some x)(hd:df x=none):Ca 41 #[.slice A n c,.agg (aX (⟨pc,regs,mem,0⟩:Sq)).toArray] w (nn w (⟨pc,regs,mem,0⟩:Sq) (cx prog (⟨pc,regs,mem,0⟩:Sq))):=by
 have E:=St.start w [ab 1 A n c (ai prog)] (zC hr zN);have hx:=bb x (yg hf);have iO:=V (λ(W:World) (h:Rd W W.heap.size 1 A n c (ai prog))=>show Ca 90 #[.slice A n c,U (pc:Int)] W (RB W (.tuple #[U (x:Int),.bool true])) from by have:=wI A n c prog pc W h hk.pc hn;rw [hf] at this;exact this);have dz:=V (λ(W:World)=>show Ca 92 #[U (x:Int)] W (RB W (.tuple #[lF.val,I 20])) from by have:=yF x hx W;rw [hd] at this;exact this);rw [show cx prog (⟨pc,regs,mem,0⟩:Sq)=(⟨pc,pc,0,0,0,0,false,2,0⟩:Stp) from by unfold cx;dsimp only;rw [hf];dsimp only;rw [hd];rfl];unfold lF Ins.val at dz;dsimp only at dz;have hD:=V (show dE (⟨pc,regs,mem,0⟩:Sq) (⟨pc,pc,0,0,0,0,false,2,0⟩:Stp)=(⟨pc,regs,mem,2⟩:Sq) from rP rfl rfl rfl);have bi:=V (λW=>show Ca 91 #[.agg (aX (⟨pc,regs,mem,0⟩:Sq)).toArray,I 2,U 0] W (RB W (.tuple #[.agg (aX (⟨pc,regs,mem,2⟩:Sq)).toArray,.agg (Stp.cells (⟨pc,pc,0,0,0,0,false,2,0⟩:Stp)).toArray])) from sq (⟨pc,regs,mem,0⟩:Sq) 2 0 W);unfold nn;clear hr bb hk hf hn hd
 (as_aux_lemma=>(go_enter func41,ntmps41;go_wp2_with ((try refine zs ?_);(first|go_big_skip|((refine gj (cs:=aX (⟨pc,regs,mem,0⟩:Sq)) F E F ?_);clear E;intro gK J E;(try refine zs ?_))|(refine bK (ty:=48) (cs:=lj) F E ?_;clear E;intro gR J E;(try refine zs ?_))|(go_at_call 90;refine E.cB (iO.out _ E.rdA) ?_;clear E;intro J E)|(go_at_call 92;refine E.cB (dz.out _) ?_;clear E;intro J E)|(go_at_call 91;refine E.cB (bi.out _) ?_;clear E;intro J E)|((refine cV (cs:=aX (⟨pc,regs,mem,0⟩:Sq)) (v:=.agg (aX (⟨pc,regs,mem,0⟩:Sq)).toArray) F E F ?_);refine zs ?_)|(refine aW (us:=aX (⟨pc,regs,mem,2⟩:Sq)) F E F F ?_ (h1:=λu hu=>.inl (lw _ u hu));clear E;intro J E;(try simp only [zF] at E);refine zs ?_)|(refine aW (us:=Stp.cells (⟨pc,pc,0,0,0,0,false,2,0⟩:Stp)) F E F F ?_;clear E;intro J E;(try simp only [zF] at E);refine zs ?_)|((first|refine aA ?_|(refine am ?_;clear E;intro Z J E));refine zs ?_)));((try simp only [Exit.inBlock,Exit.then]);refine bc (sX F E) F ?_);exact ⟨by rw [hD.out],E.bel⟩))
def j5s (hk:kq (⟨pc,regs,mem,0⟩:Sq))(hn:n<=1000000)(bb:∀ z∈prog,z<4294967296)(w)(hr:Rd w w.heap.size 1 A n c (ai prog)){x rd rs1 rs2 imm}(hf:eE prog pc=some x)(hd:df x=some ⟨47,rd,rs1,rs2,imm⟩):Ca 41 #[.slice A n c,.agg (aX (⟨pc,regs,mem,0⟩:Sq)).toArray] w (nn w (⟨pc,regs,mem,0⟩:Sq) (cx prog (⟨pc,regs,mem,0⟩:Sq))):=by
 have E:=St.start w [ab 1 A n c (ai prog)] (zC hr zN);have hx:=bb x (yg hf);have iO:=V (λ(W:World) (h:Rd W W.heap.size 1 A n c (ai prog))=>show Ca 90 #[.slice A n c,U (pc:Int)] W (RB W (.tuple #[U (x:Int),.bool true])) from by have:=wI A n c prog pc W h hk.pc hn;rw [hf] at this;exact this);have dz:=V (λ(W:World)=>show Ca 92 #[U (x:Int)] W (RB W (.tuple #[.agg #[I 47,I rd,I rs1,I rs2,U (imm:Int)],I 0])) from by have:=yF x hx W;rw [hd] at this;exact this);rw [show cx prog (⟨pc,regs,mem,0⟩:Sq)=(⟨pc,pc,0,0,0,0,false,6,0⟩:Stp) from by unfold cx;dsimp only;rw [hf];dsimp only;rw [hd];rfl];have hD:=V (show dE (⟨pc,regs,mem,0⟩:Sq) (⟨pc,pc,0,0,0,0,false,6,0⟩:Stp)=(⟨pc,regs,mem,6⟩:Sq) from rP rfl rfl rfl);have bi:=V (λW=>show Ca 91 #[.agg (aX (⟨pc,regs,mem,0⟩:Sq)).toArray,I 6,U 0] W (RB W (.tuple #[.agg (aX ⟨pc,regs,mem,6⟩).toArray,.agg (Stp.cells ⟨pc,pc,0,0,0,0,false,6,0⟩).toArray])) from sq (⟨pc,regs,mem,0⟩:Sq) 6 0 W);unfold nn;clear hr bb hk hf hn hd
 (as_aux_lemma=>(go_enter func41,ntmps41;go_wp2_with ((try refine zs ?_);(first|go_big_skip|((refine gj (cs:=aX (⟨pc,regs,mem,0⟩:Sq)) F E F ?_);clear E;intro gK J E;(try refine zs ?_))|(refine bK (ty:=48) (cs:=lj) F E ?_;clear E;intro gR J E;(try refine zs ?_))|(go_at_call 90;refine E.cB (iO.out _ E.rdA) ?_;clear E;intro J E)|(go_at_call 92;refine E.cB (dz.out _) ?_;clear E;intro J E)|(go_at_call 91;refine E.cB (bi.out _) ?_;clear E;intro J E)|((refine cV (cs:=aX (⟨pc,regs,mem,0⟩:Sq)) (v:=.agg (aX (⟨pc,regs,mem,0⟩:Sq)).toArray) F E F ?_);refine zs ?_)|(refine aW (us:=aX (⟨pc,regs,mem,6⟩:Sq)) F E F F ?_ (h1:=λu hu=>.inl (lw _ u hu));clear E;intro J E;(try simp only [zF] at E);refine zs ?_)|(refine aW (us:=Stp.cells (⟨pc,pc,0,0,0,0,false,6,0⟩:Stp)) F E F F ?_;clear E;intro J E;(try simp only [zF] at E);refine zs ?_)|((first|refine aA ?_|(refine am ?_;clear E;intro Z J E));refine zs ?_)));((try simp only [Exit.inBlock,Exit.then]);refine bc (sX F E) F ?_);exact ⟨by rw [hD.out],E.bel⟩))
def j5t (hk:kq (⟨pc,regs,mem,0⟩:Sq))(hn:n<=1000000)(bb:∀ z∈prog,z<4294967296)(w)(hr:Rd w w.heap.size 1 A n c (ai prog)){x rd rs1 rs2 imm}(hf:eE prog pc=some x)(hd:df x=some ⟨48,rd,rs1,rs2,imm⟩):Ca 41 #[.slice A n c,.agg (aX (⟨pc,regs,mem,0⟩:Sq)).toArray] w (nn w (⟨pc,regs,mem,0⟩:Sq) (cx prog (⟨pc,regs,mem,0⟩:Sq))):=by
 have E:=St.start w [ab 1 A n c (ai prog)] (zC hr zN);have hx:=bb x (yg hf);have iO:=V (λ(W:World) (h:Rd W W.heap.size 1 A n c (ai prog))=>show Ca 90 #[.slice A n c,U (pc:Int)] W (RB W (.tuple #[U (x:Int),.bool true])) from by have:=wI A n c prog pc W h hk.pc hn;rw [hf] at this;exact this);have dz:=V (λ(W:World)=>show Ca 92 #[U (x:Int)] W (RB W (.tuple #[.agg #[I 48,I rd,I rs1,I rs2,U (imm:Int)],I 0])) from by have:=yF x hx W;rw [hd] at this;exact this);rw [show cx prog (⟨pc,regs,mem,0⟩:Sq)=(⟨pc,pc,0,0,0,0,false,7,0⟩:Stp) from by unfold cx;dsimp only;rw [hf];dsimp only;rw [hd];rfl];have hD:=V (show dE (⟨pc,regs,mem,0⟩:Sq) (⟨pc,pc,0,0,0,0,false,7,0⟩:Stp)=(⟨pc,regs,mem,7⟩:Sq) from rP rfl rfl rfl);have bi:=V (λW=>show Ca 91 #[.agg (aX (⟨pc,regs,mem,0⟩:Sq)).toArray,I 7,U 0] W (RB W (.tuple #[.agg (aX ⟨pc,regs,mem,7⟩).toArray,.agg (Stp.cells ⟨pc,pc,0,0,0,0,false,7,0⟩).toArray])) from sq (⟨pc,regs,mem,0⟩:Sq) 7 0 W);unfold nn;clear hr bb hk hf hn hd
 (as_aux_lemma=>(go_enter func41,ntmps41;go_wp2_with ((try refine zs ?_);(first|go_big_skip|((refine gj (cs:=aX (⟨pc,regs,mem,0⟩:Sq)) F E F ?_);clear E;intro gK J E;(try refine zs ?_))|(refine bK (ty:=48) (cs:=lj) F E ?_;clear E;intro gR J E;(try refine zs ?_))|(go_at_call 90;refine E.cB (iO.out _ E.rdA) ?_;clear E;intro J E)|(go_at_call 92;refine E.cB (dz.out _) ?_;clear E;intro J E)|(go_at_call 91;refine E.cB (bi.out _) ?_;clear E;intro J E)|((refine cV (cs:=aX (⟨pc,regs,mem,0⟩:Sq)) (v:=.agg (aX (⟨pc,regs,mem,0⟩:Sq)).toArray) F E F ?_);refine zs ?_)|(refine aW (us:=aX (⟨pc,regs,mem,7⟩:Sq)) F E F F ?_ (h1:=λu hu=>.inl (lw _ u hu));clear E;intro J E;(try simp only [zF] at E);refine zs ?_)|(refine aW (us:=Stp.cells (⟨pc,pc,0,0,0,0,false,7,0⟩:Stp)) F E F F ?_;clear E;intro J E;(try simp only [zF] at E);refine zs ?_)|((first|refine aA ?_|(refine am ?_;clear E;intro Z J E));refine zs ?_)));((try simp only [Exit.inBlock,Exit.then]);refine bc (sX F E) F ?_);exact ⟨by rw [hD.out],E.bel⟩))
end
end
section
open Go.RowKit Wd
def AA {regs:List Nat} (h:∀ r∈regs,r<4294967296) (k:Int):bV regs k<4294967296:=by
 unfold bV;cases hq:regs[k.toNat]? with
 | none=>simp
 | some x=>exact h x (aQ hq)
def Pm {s i}(hk:kq s)(hi:tj i):(gk s i).next<4294967296/\(gk s i).value<4294967296:=by
 have ha:=AA hk.reg i.rs1;have hb:=AA hk.reg i.rs2;have hp:=hk.pc;have h4:=iU s.pc 4;have hn:=uV i s.pc (bV s.regs i.rs1) (bV s.regs i.rs2);have hv:(if bp i≠0 then jw i s.pc (bV s.regs i.rs1) (bV s.regs i.rs2) else 0)<4294967296:=by
  split
  .exact G5 i s.pc ha hb hi.2.2.2.2
  .omega
 unfold gk;dsimp only;split
 .split
  .refine ⟨h4,?_⟩
   dsimp only;split
   .exact IW
   .omega
  .exact ⟨hp,by dsimp only;omega⟩
 split
 .split
  .exact ⟨h4,Oi _ (by have:=t0 i.op;omega)⟩
  .exact ⟨hp,by dsimp only;omega⟩
 split
 .split
  .exact ⟨hn,hv⟩
  .exact ⟨hp,by dsimp only;omega⟩
 .exact ⟨h4,hv⟩
def Yh {prog s}(hk:kq s):(cx prog s).next<4294967296/\(cx prog s).value<4294967296:=by
 have hp:=hk.pc;have hh:∀ why,(pY s why).next<4294967296/\(pY s why).value<4294967296:=λwhy=>⟨hp,by unfold pY;dsimp only;omega⟩
 unfold cx;split
 .exact hh _
 .split
  .exact hh _
  .rename_i i hd
   split
   .exact hh _
   .split
    .exact hh _
    .exact Pm hk (uP hd).1
def kq.next {prog s}(hk:kq s):kq (lS prog s):=by
 by_cases h:s.halt=0
 .have hn:=Yh (prog:=prog) hk
  have hsz:=Lh prog s;have hln:=E6 prog s;rw [tF h] at hsz hln ⊢;refine ⟨hn.1,by rw [hln];exact hk.len,?_,by rw [hsz];exact hk.mem⟩;intro r hr;have bT:r∈eU s.regs (cx prog s):=hr;unfold eU at bT;split at bT
  .rcases po bT with h2|rfl
   .exact hk.reg r h2
   .exact hn.2
  .exact hk.reg r bT
 .unfold lS
  rw [aa h];exact hk
def kq.run {prog}{S:Nat->Sq}(hR:jq prog S)(h:kq (S 0)):∀ n,kq (S n)
 | 0=>h
 | n+1=>by rw [hR n];exact (kq.run hR h n).next
def kq.new (m):kq (BN m):=by
 refine ⟨by show 0<4294967296;decide,rfl,?_,?_⟩
 .intro r hr
  have:r=0:=qN hr;omega
 .show (ou m).size<=256
  unfold ou;have h1:=Me.cleanL_len m.data.toList;have h2:=Me.cleanN_cases (min 256 m.data.toList.length);simp only [ByteArray.size,m5];omega
def XY {m a b}(h:a+b.size<=m.size)(h0:0<b.size):dZ m [⟨a,b⟩]=Me.writeS m a b:=by
 have hm:(bl m).length=m.size:=gy m;have hb:(bl b).length=b.size:=gy b;unfold dZ Me.writeS fq;simp only [qX,List.foldl_nil];unfold oe;dsimp only;rw [aa O];unfold pN Me.writeL;rw [cD (show (bl b).length<=(bl m).length - a by omega)];rfl
def j5y (x:Nat) (n:Int):fU (nE x n) n=⟨(bytesL x n.toNat).toArray⟩:=by
 unfold fU nE;have h:=PD (bytesL x n.toNat);rw [qE] at h;rw [h]
section
variable {prog:List Nat} {s:Sq} {i:Ins} {x:Nat}
def VV (hf:eE prog s.pc=some x) (hd:df x=some i) (h7:i.op≠47) (h8:i.op≠48):cx prog s=gk s i:=by
 unfold cx;rw [hf];dsimp only;rw [hd];dsimp only;rw [Y h7,Y h8]
def UZ (h3:ae i.op=3) (hb:dc s.mem.size (ay (bV s.regs i.rs1) i.imm) (aU i.op)=false):gk s i=⟨s.pc,s.pc,0,0,ay (bV s.regs i.rs1) i.imm,0,false,4,0⟩:=by
 unfold gk;dsimp only;rw [aa h3,Y (by rw [hb];simp)]
def W5 (h3:ae i.op=3) (hb:dc s.mem.size (ay (bV s.regs i.rs1) i.imm) (aU i.op)=true):gk s i=⟨s.pc,ay s.pc 4,bp i,if bp i≠0 then iI i.op (fT s.mem (ay (bV s.regs i.rs1) i.imm) (aU i.op)) else 0,ay (bV s.regs i.rs1) i.imm,aU i.op,false,0,0⟩:=by
 unfold gk;dsimp only;rw [aa h3,aa hb]
def Ut (h4:ae i.op=4) (hb:dc s.mem.size (ay (bV s.regs i.rs1) i.imm) (aU i.op)=false):gk s i=⟨s.pc,s.pc,0,0,ay (bV s.regs i.rs1) i.imm,0,false,5,0⟩:=by
 unfold gk;dsimp only;rw [Y O,aa h4,Y (by rw [hb];simp)]
def Ub (h4:ae i.op=4) (hb:dc s.mem.size (ay (bV s.regs i.rs1) i.imm) (aU i.op)=true):gk s i=⟨s.pc,ay s.pc 4,bp i,nE (bV s.regs i.rs2) (aU i.op),ay (bV s.regs i.rs1) i.imm,aU i.op,true,0,0⟩:=by
 unfold gk;dsimp only;rw [Y O,aa h4,aa hb]
def YQ (h5:ae i.op=5) (hb:¬ gH i s.pc (bV s.regs i.rs1) (bV s.regs i.rs2) % 4=0):gk s i=⟨s.pc,s.pc,0,0,0,0,false,3,0⟩:=by
 unfold gk;dsimp only;rw [Y O,Y O,aa h5,Y hb]
def j6f (h5:ae i.op=5) (hb:gH i s.pc (bV s.regs i.rs1) (bV s.regs i.rs2) % 4=0):gk s i=⟨s.pc,gH i s.pc (bV s.regs i.rs1) (bV s.regs i.rs2),bp i,if bp i≠0 then jw i s.pc (bV s.regs i.rs1) (bV s.regs i.rs2) else 0,0,0,false,0,0⟩:=by
 unfold gk;dsimp only;rw [Y O,Y O,aa h5,aa hb]
def O1 (h3:ae i.op≠3) (h4:ae i.op≠4) (h5:ae i.op≠5):gk s i=⟨s.pc,ay s.pc 4,bp i,if bp i≠0 then jw i s.pc (bV s.regs i.rs1) (bV s.regs i.rs2) else 0,0,0,false,0,if ae i.op=2 then eJ i.op (bV s.regs i.rs1) (bV s.regs i.rs2) else 0⟩:=by
 unfold gk;dsimp only;rw [Y h3,Y h4,Y h5]
def KY {t}(h1:t.store=false)(h2:t.halt=0)(h3:0<=t.rd/\t.rd<=31):dE s t={ pc:=t.next,regs:=if 0<t.rd then s.regs.set t.rd.toNat t.value else s.regs,mem:=s.mem,halt:=0 }:=by
 unfold dE eU gx;rw [h1,h2];by_cases h:0<t.rd
 .rw [aa ⟨by omega,h3.2,rfl⟩,aa h];rfl
 .rw [Y O,Y h];rfl
def YI {t}(h1:t.store=true)(h2:t.halt=0)(h3:t.rd=0)(h4:t.size=1\/t.size=2\/t.size=4):dE s t={ pc:=t.next,regs:=s.regs,mem:=dZ s.mem [⟨t.addr,fU t.value t.size⟩],halt:=0 }:=by
 unfold dE eU gx;rw [h1,h2,h3];rw [Y O];simp [h4]
end
end
end Go.Proofs.YtgnomadgnciifaaGreatDoor
