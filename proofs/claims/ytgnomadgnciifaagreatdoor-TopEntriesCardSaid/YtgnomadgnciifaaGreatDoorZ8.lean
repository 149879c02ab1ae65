/- . -/
import Derived.Test.YtgnomadgnciifaaGreatDoorZ2
import Derived.Test.YtgnomadgnciifaaGreatDoorZ7
set_option linter.all false
set_option maxRecDepth 100000
set_option maxHeartbeats 16000000
namespace Go.Proofs.YtgnomadgnciifaaGreatDoor
variable {p:Prop}
open Go.Proofs.Tryz
def Dq (h:p:=by
 (go_wp2_with ((first|((refine gj (cs:=i.cells) F E F ?_);clear E;intro Z J E;(try refine zs ?_))|(refine xC ?_;clear E;intro J E)|(go_at_call 206;refine (D5 _ _ _ _ ha hb).mono ?_;rintro x J ⟨rfl,rfl⟩)|(go_at_call 207;refine E.cB (Bl _ _ _ _ ha hb) ?_;clear E;intro J E)|(go_at_call 208;refine (HI.out _).mono ?_;rintro x J ⟨rfl,rfl⟩)|(go_at_call 209;refine (Dx _ _ _ _ ha bI).mono ?_;rintro x J ⟨rfl,rfl⟩)|((first|refine aA ?_|(refine am ?_;clear E;intro Z J E));refine zs ?_))));go_ret
 exact ⟨dI (by rw [hV.out];rfl),E.bel⟩):=h
def tB (h:p:=by
 go_enter func45,ntmps45;(go_wp2_with ((try refine zs ?_);(first|refine SX ?_|(refine Ov ?_;clear E;intro Z J E)|(refine aq ?_;clear E;intro vN J E))));go_returns
 exact ⟨rfl,E.bel⟩):=h
def NS (h:p:=by
 go_enter func180,ntmps180;(go_wp2_with ((first|((refine gj (cs:=i.cells) F E F ?_);clear E;intro Z J E;(try refine zs ?_))|(refine xC ?_;clear E;intro J E)|(go_at_call 206;refine (D5 _ _ _ _ ha hb).mono ?_;rintro x J ⟨rfl,rfl⟩)|(go_at_call 207;refine E.cB (Bl _ _ _ _ ha hb) ?_;clear E;intro J E)|(go_at_call 208;refine (HI.out _).mono ?_;rintro x J ⟨rfl,rfl⟩)|(go_at_call 209;refine (Dx _ _ _ _ ha bI).mono ?_;rintro x J ⟨rfl,rfl⟩)|((first|refine aA ?_|(refine am ?_;clear E;intro Z J E));refine zs ?_))));go_ret
 exact ⟨dI (by rw [hV.out];exact wY _),E.bel⟩):=h
def wH (h:p:=by
 clear h1;go_enter func208,ntmps208;go_wp2;go_ret
 exact ⟨rfl,rfl⟩):=h
section
open Go.RowKit Go.Sort
def Y7 {q k e}(h:q[k]?=some e):∀ i u,e.inst.cells[i]?=some u->(ens q)[k * 17+2+i]?=some u:=λi u hu=>by
 have hi:i<5:=(aK.1 hu).1;have:e.cells[2+i]?=some u:=by
  match i,hi with
  | 0,_=>exact hu
  | 1,_=>exact hu
  | 2,_=>exact hu
  | 3,_=>exact hu
  | 4,_=>exact hu
 rw [lZ];exact Rows.el (f:=ens) h this
def D9 (A:Option Addr) (n c:Nat) (q:List En) (i:Int) (w:World) (hr:Rd w w.heap.size 17 A n c (ens q)) (hq:dp q) (h0:0<=i) :Ca 13 #[.slice A n c,I i] w (RB w (.bool (decide (i<=(eV q:Int))))):=by
 have HF:=V (GL A n c q w hr hq.op);have hn:=hr.enslen;have jx:=Oc q;generalize eV q=f at *;by_cases h2:i<=(n:Int)
 .clear hn jx
  go_enter func13,ntmps13;go_wp2_with (go_at_call 42;refine HF.out.mono ?_;rintro e w1 ⟨rfl,aJ⟩);go_ret;exact ⟨rfl,aJ⟩
 .have h3:decide (i<=(f:Int))=false:=by simp;omega
  rw [h3];clear hn jx h3;go_enter func13,ntmps13;go_wp2_with fail;go_ret;exact ⟨rfl,af.refl w⟩
def xA (sets:Int):Nat:=if sets<2 then 1 else if sets<4 then 2 else 4
def xH (ways:Int):Int:=if ways<2 then 1 else 2
def NA (n:Nat):aZ (List.replicate n tc)=List.replicate n []:=by simp [aZ,tc]
def H6 (n:Nat):(madeCells (Value.slice none 0 0).cells (n * 1)).toList=cj (List.replicate n tc):=by
 rw [show (Value.slice none 0 0).cells=#[Value.slice none 0 0] from rfl,vx,dP];simp [cj,tc,Cs.val]
def Yo (sets ways p1 p2 q1 q2:Int) (n:Nat) (w:World) (cW : -9223372036854775808<=sets) (a5:sets<=9223372036854775807) (a6 : -9223372036854775808<=ways) (a7:ways<=9223372036854775807)(a8:sets<=1/\p1=1\/1<sets/\p1=sets) (a9:p1<=4/\p2=p1\/4<p1/\p2=4) (a':ways<=1/\q1=1\/1<ways/\q1=ways) (bb:q1<=2/\q2=q1\/2<q1/\q2=2) (h3:p2=3/\n=2\/p2≠3/\p2=(n:Int)) :Ca 26 #[I sets,I ways] w λe w'=>∃ x,e = .returned x/\iV w [] q2 x w' (List.replicate n []):=by
 have E:=St.start w [] zN;rcases h3 with ⟨rfl,rfl⟩|⟨h3,hn⟩
 .go_enter func26,ntmps26
  go_wp2_with ((first|refine E7 ?_|(refine g2b ?_;clear E;intro Z J E)|((first|refine aA ?_|(refine am ?_;clear E;intro Z J E));refine zs ?_)));rw [H6 2] at E;have E:=(E.freezeB 0 aC 1 2 2 (by simp [wg]) (aM _) ag).elemNil 2;(try simp only [zF] at E);((try simp only [Exit.inBlock,Exit.then]);refine bc (eL F E) F ?_);exact ⟨_,rfl,_,_,_,List.replicate 2 tc,rfl,E.outA,NA 2⟩
 .have bd:p2<=(n:Int):=by omega
  have hn2:(n:Int)<=p2:=by omega
  have be:n<=4:=by omega
  clear hn;go_enter func26,ntmps26;go_wp2_with ((first|refine E7 ?_|(refine g2c ?_;clear E;intro Z J E)|((first|refine aA ?_|(refine am ?_;clear E;intro Z J E));refine zs ?_)));rw [H6 n] at E;have E:=(E.freezeB 0 aC 1 n n (by simp [wg]) (aM _) eT).elemNil n;(try simp only [zF] at E);((try simp only [Exit.inBlock,Exit.then]);refine bc (eL F E) F ?_);exact ⟨_,rfl,_,_,_,List.replicate n tc,rfl,E.outA,NA n⟩
def h5v (sets ways w)(hs : I6 sets)(hw : I6 ways):Ca 26 #[I sets,I ways] w λe w'=>∃ x,e = .returned x/\iV w [] (xH ways) x w' (List.replicate (xA sets) []):=by
 refine Yo sets ways (if sets<=1 then 1 else sets) (if sets<=1 then 1 else if 4<sets then 4 else sets) (if ways<=1 then 1 else ways) (xH ways) (xA sets) w hs.1 hs.2 hw.1 hw.2 ?_ ?_ ?_ ?_ ?_
 .split <;> omega
 .by_cases h1:sets<=1
  .simp only [aa h1];first|omega|(simp;done)|(simp;omega)
  .simp only [Y h1];split <;> omega
 .split <;> omega
 .unfold xH
  by_cases h1:ways<=1
  .simp only [aa h1,aa (show ways<2 by omega)];first|omega|(simp;done)|(simp;omega)
  .simp only [Y h1,Y (show ¬ ways<2 by omega)];first|omega|(simp;done)|(simp;omega)
 .unfold xA
  by_cases h1:sets<=1
  .simp only [aa h1,aa (show sets<2 by omega)];first|omega|(simp;done)|(simp;omega)
  .simp only [Y h1,Y (show ¬ sets<2 by omega)]
   by_cases h4:4<sets
   .simp only [aa h4,Y (show ¬ sets<4 by omega)];first|omega|(simp;done)|(simp;omega)
   .simp only [Y h4]
    by_cases h5:sets<4
    .simp only [aa h5];first|omega|(simp;done)|(simp;omega)
    .simp only [Y h5];first|omega|(simp;done)|(simp;omega)
end
section
open Go.RowKit Wd
def Bl (op:Int) (a b:Nat) (w:World) (ha:a<4294967296) (hb:b<4294967296) :Ca 207 #[I op,U (a:Int),U (b:Int)] w (RB w (U (eB op a b:Int))):=by
 by_cases h:op=42\/op=43\/op=44\/op=45
 .by_cases h0:(b:Int)=0
  .obtain rfl:b=0:=by omega
   rcases h with rfl|rfl|rfl|rfl
   .exact Qb a w ha
   .exact h5l a w ha
   .exact WM a w ha
   .exact h5p a w ha
  .rcases h with rfl|rfl|rfl|rfl
   .exact Px a b w ha hb h0
   .exact Rp a b w ha hb h0
   .exact Yq a b w ha hb h0
   .exact h5q a b w ha hb h0
 .have key:∀ k:Int,op≠k->(op == k)=false:=λk hk=>by simpa using hk
  have b1:=key 42 O;have b2:=key 43 O;have b3:=key 44 O;have b4:=key 45 O;rw [show eB op a b=0 from by unfold eB;rw [Y O,Y O]];clear h key;go_enter func207,ntmps207;go_wp2;go_ret;exact ⟨rfl,af.alloc _ _⟩
def h5w (f x):iR f x=Lib.bitLenAux f x:=by
 induction f generalizing x with
 | zero=>rfl
 | succ f ih=>unfold iR Lib.bitLenAux;rw [ih];split <;> omega
def Vh {x}(h:x<4294967296):iR 32 x=Lib.bitLen x:=by
 rw [h5w];exact (Lib.bitLenAux_fuel 32 x h 64 O).symm
def tw (f x):iR f x<=f:=by
 induction f generalizing x with
 | zero=>exact aM _
 | succ f ih=>unfold iR;have:=ih (x / 2);split <;> omega
def Wu (x:Nat) (w:World) (hx:x<4294967296) :Ca 218 #[U (x:Int)] w λe w'=>e = .returned (I (iR 32 x:Int))/\w'=w:=by
 rw [Vh hx];exact Qn (x:Int) w O O
def NM (x:Nat) (w:World) (hx:x<4294967296) :Ca 211 #[U (x:Int)] w λe w'=>e = .returned (I (iR 32 x:Int))/\w'=w:=by
 go_enter func211,ntmps211;go_wp2_with (go_at_call 218;refine (Wu _ _ hx).mono ?_;rintro e J ⟨rfl,rfl⟩);go_ret;exact ⟨rfl,rfl⟩
def Au (op:Int) (a b:Nat) (w:World) (ha:a<4294967296) (hb:b<4294967296) :Ca 181 #[I op,U (a:Int),U (b:Int)] w λe w'=>e = .returned (I (eJ op a b))/\w'=w:=by
 by_cases h1:op<42
 .rw [show eJ op a b=0 from by unfold eJ;rw [aa (.inl h1)]]
  go_enter func181,ntmps181;go_wp2;go_ret;exact ⟨rfl,rfl⟩
 by_cases h2:45<op
 .rw [show eJ op a b=0 from by unfold eJ;rw [aa (.inr h2)]]
  go_enter func181,ntmps181;go_wp2;go_ret;exact ⟨rfl,rfl⟩
 by_cases h0:(b:Int)=0
 .obtain rfl:b=0:=by omega
  rw [show eJ op a 0=2 from by unfold eJ;rw [Y O,aa (.inl F)]];clear h0;go_enter func181,ntmps181;go_wp2_with (go_at_call 210;refine (sp _ _ _ bI).mono ?_;rintro e J ⟨rfl,rfl⟩);go_ret;exact ⟨rfl,rfl⟩
 have hsa:aR op a<4294967296:=ny ha;have hsb:aR op b<4294967296:=ny hb;have hT:eJ op a b=if aR op a<aR op b then 2 else 2+(iR 32 (aR op a):Int) - (iR 32 (aR op b):Int)+1:=by
  unfold eJ;rw [Y O];by_cases h3:aR op a<aR op b
  .rw [aa (.inr h3),aa h3]
  .rw [Y O,Y h3]
 have av:=V (sp op a w ha);have aw:=V (sp op b w hb);generalize aR op a=x at *;generalize aR op b=y at *;have l1:=tw 32 x;have l2:=tw 32 y;have aI:=V (NM x w hsa);have aO:=V (NM y w hsb);generalize iR 32 x=u at *;generalize iR 32 y=v at *;have h4:((b:Int) == 0)=false:=by simpa using h0
 by_cases h3:x<y
 .rw [hT,aa O]
  have h5:decide (x<y)=true:=by simpa using h3
  clear hT;go_enter func181,ntmps181;go_wp2_with ((first|(go_at_call 210;with_reducible refine av.out.mono ?_;rintro e J ⟨rfl,rfl⟩)|(go_at_call 210;with_reducible refine aw.out.mono ?_;rintro e J ⟨rfl,rfl⟩)));go_ret;exact ⟨rfl,rfl⟩
 .rw [hT,Y O]
  have h5:decide (x<y)=false:=by simpa using h3
  clear hT;go_enter func181,ntmps181;go_wp2_with ((first|(go_at_call 210;with_reducible refine av.out.mono ?_;rintro e J ⟨rfl,rfl⟩)|(go_at_call 210;with_reducible refine aw.out.mono ?_;rintro e J ⟨rfl,rfl⟩)|(go_at_call 211;with_reducible refine aI.out.mono ?_;rintro e J ⟨rfl,rfl⟩)|(go_at_call 211;with_reducible refine aO.out.mono ?_;rintro e J ⟨rfl,rfl⟩)));go_ret;exact ⟨rfl,rfl⟩
end
section
open Go.RowKit
def bls (ks:List Bool):List Value:=ks.map Value.bool
def CM (l):(bls l).length=l.length:=by simp [bls]
def UP {l}{k:Nat}{x}(h:l[k]?=some x):(bls l)[k]?=some (.bool x):=by simp [bls,h]
def Rd.blslen {w B n c A l}(h:Rd w B 1 A n c (bls l)):l.length=n:=by
 have:=h.len;rw [CM] at this;omega
end
section
open Go.RowKit Go.Sort
def zb (m A n c ps w)(hr:Rd w w.heap.size 2 A n c (bD ps))(hm:m.size<=maxLen)(ha:∀ p∈ps,p.addr<4294967296):Ca 68 #[.string m,.slice A n c] w (RB w (.string (mX m ps))):=by
 have E:=St.start w [ab 2 A n c (bD ps)] (zC hr zN);have hc1:=hr.le;have aN:=hr.mx;unfold maxLen at aN;have hn:=hr.puslen;have aP:=hm;unfold maxLen at aP;go_enter func68,ntmps68;go_wp2_with ((first|(refine S8 F E F ?_;clear E;intro Z capN rN J E j6 bh)|((first|refine aA ?_|(refine am ?_;clear E;intro Z J E));refine zs ?_)));obtain ⟨gB,rfl⟩:=E.names1;replace j6:=V j6;go_loopw [12] (λix wr=>∃ k:Nat,k<=n/\ix = I (k:Int)/\St w [ab 2 A n c (bD ps)] wr [.blk gB 5 (ck (fq (bl m) (ps.take k))++rN)] [ab 2 A n c (bD ps)]) (λix _=>n - (intOf ix).toNat);case atStart=>exact ⟨0,by omega,rfl,E⟩
 case round=>
  obtain ⟨k,hk,rfl,E⟩:=hrel;by_cases ik:k<n
  .obtain ⟨p,hu⟩:∃ p,ps[k]?=some p:=⟨_,ba O⟩
   have aV:=ha p (aQ hu);have j8:fq (bl m) (ps.take (k+1))=oe (fq (bl m) (ps.take k)) p:=by
    obtain ⟨hl,e⟩:=aK.1 hu;rw [iE hl,e,g8j]
   have il:(fq (bl m) (ps.take k)).length=m.size:=by rw [xT,gy]
   obtain ⟨pa,pd⟩:=p;unfold oe at j8;rw [il] at j8;dsimp only at j8 aV;by_cases hlt:pa<m.size
   .rw [aa hlt] at j8
    have aX:pa+(m.size - pa)=(fq (bl m) (ps.take k)).length:=by omega
    have aY:m.size<=capN:=by have:=j6.out;omega
    have ij:=V j8;clear j8 il;go_upto_region 6 with ((first|refine E9 ?_|((first|refine aA ?_|(refine am ?_;clear E;intro Z J E));refine zs ?_)));obtain ⟨gP,rfl⟩:=E.names1;refine bA aj E [.blk gP 109 [U (pa:Int),.string pd]] _ cM (λ_ h=>h) ?_;clear E;intro E z;refine an 0 z ?_;refine az 1 z ?_;refine cX 2 z ?_;refine Jv 3 z ?_;refine az 4 z ?_;refine cX 5 z ?_;refine aB 6 (λK X=>?_);go_wp2_with ((first|(refine WL ?_;clear E;intro J E)|((first|refine aA ?_|(refine am ?_;clear E;intro Z J E));refine zs ?_)));have z:=z.nextA E;refine X.out _ _ z ?_;clear X;refine zs ?_;refine bt ?_;(go_wp2_with (((first|refine aA ?_|(refine am ?_;clear E;intro Z J E));refine zs ?_));go_roundw;(case rel=>exact ⟨k+1,by omega,by go_num,by rw [ij.out];exact E.drop 0⟩);(case measure=>exact zM))
   .rw [Y hlt] at j8
    have ij:=V j8;clear j8 il;go_wp2_with ((first|refine E9 ?_|((first|refine aA ?_|(refine am ?_;clear E;intro Z J E));refine zs ?_)));go_roundw;case rel=>exact ⟨k+1,by omega,by go_num,by rw [ij.out];exact E.drop 0⟩
    case measure=>exact zM
  .obtain rfl:k=n:=by omega
   have il:(fq (bl m) (ps.take k)).length=m.size:=by rw [xT,gy]
   have aY:m.size<=capN:=by have:=j6.out;omega
   have mi:ps.take k=ps:=cD O;go_wp2_with ((first|refine Su ?_|((first|refine aA ?_|(refine am ?_;clear E;intro Z J E));refine zs ?_)));go_ret;exact ⟨rfl,E.bel⟩
def nW (m A n c q w)(hr:Rd w w.heap.size 4 A n c (bg q))(hm:m.size<=maxLen)(hn:n<=1000000)(hq:∀ r∈q,r.line<4294967296):Ca 173 #[.slice A n c,.string m] w (RB w (.string (mX m (bZ q)))):=by
 have E:=St.start w [ab 4 A n c (bg q)] (zC hr zN);have hc1:=hr.le;have aN:=hr.mx;unfold maxLen at aN;have bi:=hr.rqslen;go_enter func173,ntmps173;go_wp2_with (((first|refine aA ?_|(refine am ?_;clear E;intro Z J E));refine zs ?_));have E:=E.nil 109 2;go_loopw [10,5] (λix x wr=>∃ k N:Nat,k<=n/\N<=k/\ix = I (k:Int)/\St w [ab 4 A n c (bg q)] wr [.own x 109 2 N (bD (bZ (q.take k)))] [ab 4 A n c (bg q)]) (λix _ _=>n - (intOf ix).toNat);case atStart=>exact ⟨0,0,by omega,by omega,rfl,E⟩
 case round=>
  obtain ⟨k,N,hk,hN,rfl,E⟩:=hrel;by_cases ik:k<n
  .obtain ⟨r,hu⟩:∃ r,q[k]?=some r:=⟨_,ba O⟩
   by_cases h4:r.kind=4
   .have ij:=V (XH hu h4)
    obtain ⟨rk,rl,rt,rd⟩:=r;dsimp only at h4;subst h4;have ad:Hid (bD (bZ (q.take k))++[U (rl:Int),.string rd]=bD (bZ (q.take (k+1)))):=V (by rw [ij.out,Oe];rfl);clear ij;go_wp2_with ((first|refine Zw ?_|((first|refine aA ?_|(refine am ?_;clear E;intro Z J E));refine zs ?_)));go_roundw;case rel=>exact ⟨k+1,N+1,by omega,by omega,by go_num,by rw [<- ad.out];exact E.drop 0⟩
    case measure=>exact zM
   .have ij:=V (Rx hu h4)
    obtain ⟨rk,rl,rt,rd⟩:=r;dsimp only at h4;go_wp2_with ((first|refine Q3 ?_|((first|refine aA ?_|(refine am ?_;clear E;intro Z J E));refine zs ?_)));go_roundw;case rel=>exact ⟨k+1,N,by omega,by omega,by go_num,by rw [ij.out];exact E.drop 0⟩
    case measure=>exact zM
  .obtain rfl:k=n:=by omega
   rw [cD O] at E;obtain ⟨A2,c2,rfl,E⟩:=E.freeze 0 aC
   (try simp only [zF] at E);go_wp2_with ((first|(go_at_call 68;refine E.cB (zb _ _ _ _ _ _ E.rdA hm (OV hq)) ?_;clear E;intro J E)|((first|refine aA ?_|(refine am ?_;clear E;intro Z J E));refine zs ?_)));go_ret;exact ⟨rfl,E.bel⟩
def h6a (m:ByteArray) (ways:Int) (A:Option Addr) (n c:Nat) (S:List Cs) (Aq:Option Addr) (nq cq:Nat) (q:List Rq) (w:World) (hr:bT w w.heap.size A n c S) (ak:Rd w w.heap.size 4 Aq nq cq (bg q)) (hm:m.size<=maxLen) (ho:kP S) (hn:n<=1000) (H:∀ ws∈aZ S,ws.length<=1000) (j0:nq<=1000000) (hq:∀ r∈q,r.line<4294967296) :Ca 171 #[.agg #[I ways,.slice A n c],.slice Aq nq cq,.string m] w (RB w (.string (mX m (bZ q++dY (aZ S))))):=by
 have E:=St.start w [ab 1 A n c (cj S),cR S,ab 4 Aq nq cq (bg q)] (zC hr.rd (zC hr.sets (zC ak zN)));have bk:=hr.slen;have hc1:=hr.rd.le;have aN:=hr.rd.mx;unfold maxLen at aN;replace H:=V H;go_enter func171,ntmps171;go_wp2_with (((first|refine aA ?_|(refine am ?_;clear E;intro Z J E));refine zs ?_));obtain ⟨gC,rfl⟩:=E.names1;have E:=E.nil 109 2;go_loopw [15,7] (λix x wr=>∃ k N:Nat,k<=n/\N<=k * 1000/\ix = I (k:Int)/\St w [ab 1 A n c (cj S),cR S,ab 4 Aq nq cq (bg q)] wr [.own x 109 2 N (bD (dY ((aZ S).take k))),.blk gC 35 [I ways,.slice A n c]] [ab 1 A n c (cj S),cR S,ab 4 Aq nq cq (bg q)]) (λix _ _=>n - (intOf ix).toNat);case atStart=>exact ⟨0,0,by omega,by omega,rfl,E⟩
 case round=>
  obtain ⟨k,N,hk,hN,rfl,E⟩:=hrel;by_cases ik:k<n
  .obtain ⟨s,hs⟩:∃ s,S[k]?=some s:=⟨_,ba O⟩
   obtain ⟨sA,m',sc,ws⟩:=s;have E:=E.elemA hs;simp only at E;have G:=E.rdA (sz:=3) (A:=sA) (n:=m') (c:=sc) (xs:=bv ws);have a0:=G.le;have al:=G.mx;have kh:=V G.wyslen;have iu:=V (Oz hs);have bm:m'<=1000:=by rw [<- kh.out];exact H.out ws (aQ iu.out)
   unfold maxLen at al;clear G;go_wp2_with (((first|refine aA ?_|(refine am ?_;clear E;intro Z J E));refine zs ?_))
   try simp only [dP]
   go_loopw [21,7] (λix x wr=>∃ j N':Nat,j<=m'/\N'<=k * 1000+j/\ix = I (j:Int)/\St w [ab 1 A n c (cj S),cR S,ab 4 Aq nq cq (bg q)] wr [.own x 109 2 N' (bD (dY ((aZ S).take k)++lL (ws.take j))),.blk gC 35 [I ways,.slice A n c]] [ab 3 sA m' sc (bv ws),ab 1 A n c (cj S),cR S,ab 4 Aq nq cq (bg q)]) (λix _ _=>m' - (intOf ix).toNat);case atStart=>exact ⟨0,N,by omega,by omega,rfl,by simp only [lL,List.take_zero,mf,rK];exact E⟩
   case round=>
    obtain ⟨j,N',hj,bn,rfl,E⟩:=hrel;by_cases re:j<m'
    .obtain ⟨⟨ul,ud,ub⟩,hu⟩:∃ u,ws[j]?=some u:=⟨_,ba yR⟩
     have ad:Hid (bD (dY ((aZ S).take k)++lL (ws.take j))++[U (ul:Int),.string ub]=bD (dY ((aZ S).take k)++lL (ws.take (j+1)))):=V (by rw [PX hu,<- lc,Oe _ [_]];rfl);go_wp2_with ((first|refine g2i ?_|((first|refine aA ?_|(refine am ?_;clear E;intro Z J E));refine zs ?_)));go_roundw;case rel=>exact ⟨j+1,N'+1,by omega,by omega,by go_num,by rw [<- ad.out];exact E.drop 0⟩
     case measure=>exact zM
    .obtain rfl:j=m':=by omega
     rw [cD (l:=ws) yR,<- g8n iu.out] at E;go_wp2_with (((first|refine aA ?_|(refine am ?_;clear E;intro Z J E));refine zs ?_));go_roundw;case rel=>exact ⟨k+1,N',by omega,by omega,by go_num,E.lessA _⟩
     case measure=>exact zM
  .obtain rfl:k=n:=by omega
   rw [cD (by rw [jN];omega)] at E;obtain ⟨A2,c2,rfl,E⟩:=E.freeze 0 aC
   (try simp only [zF] at E);go_wp2_with ((first|(go_at_call 173;refine E.cB (nW _ _ _ _ _ _ E.rdA hm j0 hq) ?_;clear E;intro J E)|(go_at_call 68;refine E.cB (zb _ _ _ _ _ _ E.rdA nh (TF ho)) ?_;clear E;intro J E)|((first|refine aA ?_|(refine am ?_;clear E;intro Z J E));refine zs ?_)));go_ret;exact ⟨by rw [MU];rfl,E.bel⟩
def Zt (m:ByteArray) (ways:Int) (A:Option Addr) (n c:Nat) (S:List Cs) (Aq:Option Addr) (nq cq:Nat) (q:List Rq) (As:Option Addr) (ns cs:Nat) (ss:List Pu) (w:World) (hr:bT w w.heap.size A n c S) (ak:Rd w w.heap.size 4 Aq nq cq (bg q)) (a3:Rd w w.heap.size 2 As ns cs (bD ss))(hm:m.size<=maxLen) (ho:kP S) (hn:n<=1000) (H:∀ ws∈aZ S,ws.length<=1000) (j0:nq<=1000000) (hq:∀ r∈q,r.line<4294967296) (a4:∀ p∈ss,p.addr<4294967296) :Ca 123 #[.slice As ns cs,.agg #[I ways,.slice A n c],.slice Aq nq cq,.string m] w (RB w (.string (mX m (bZ q++dY (aZ S)++ss)))):=by
 have E:=St.start w [ab 1 A n c (cj S),cR S,ab 4 Aq nq cq (bg q),ab 2 As ns cs (bD ss)] (zC hr.rd (zC hr.sets (zC ak (zC a3 zN))));go_enter func123,ntmps123;go_wp2_with ((first|(go_at_call 171;refine E.cB (h6a _ _ _ _ _ _ _ _ _ _ _ E.rds E.rdA hm ho hn H j0 hq) ?_;clear E;intro J E)|(go_at_call 68;refine E.cB (zb _ _ _ _ _ _ E.rdA nh a4) ?_;clear E;intro J E)|((first|refine aA ?_|(refine am ?_;clear E;intro Z J E));refine zs ?_)));go_ret;exact ⟨by rw [MU];rfl,E.bel⟩
def pi (m:ByteArray) (x:Nat) (w:World) (hm:m.size<=maxLen) (hx:x<4294967296) :Ca 172 #[.string m,U (x:Int)] w (RB w (.string (qb m x))):=by
 have E:=St.start w [] zN;unfold maxLen at hm;have HL:=V (λW=>mh x W hx);have L:=Zc (m:=m) (x:=x);have hin:=λn=>ZN (m:=m) (x:=x) (n:=n)
 obtain ⟨lo,jP⟩:∃ lo,x - x % 16=lo:=⟨_,rfl⟩;rw [jP] at HL L hin;have bo:lo<4294967296:=by omega
 clear jP;go_enter func172,ntmps172;by_cases hlt:lo<m.size
 .obtain ⟨N,hN⟩:∃ N,N=min (m.size - lo) 16:=⟨_,rfl⟩
  replace hin:=V (hin N hlt hN);clear L;have bq:(m.extract lo m.size).size=m.size - lo:=by rw [Bb];omega
  have aX:lo<=m.size:=by omega
  have mg:N<=(m.extract lo m.size).size:=by omega
  go_wp2_with ((first|(go_at_call 63;refine (HL.out _).mono ?_;rintro e J ⟨rfl,d,rfl⟩;replace E:=E.grow (af.drewN _ d))|refine Wx ?_|((first|refine aA ?_|(refine am ?_;clear E;intro Z J E));refine zs ?_)));go_ret;exact ⟨by rw [<- hin.out,hN];rfl,E.bel⟩
 .replace L:=V (L O)
  clear hin;go_wp2_with ((first|(go_at_call 63;refine (HL.out _).mono ?_;rintro e J ⟨rfl,d,rfl⟩;replace E:=E.grow (af.drewN _ d))|((first|refine aA ?_|(refine am ?_;clear E;intro Z J E));refine zs ?_)));go_ret;exact ⟨by rw [L.out];rfl,E.bel⟩
def I' (ways:Int) (A:Option Addr) (n c x:Nat) (data:ByteArray) (dirty:Bool) (S:List Cs) (k at':Nat) (ws:List Wy) (w:World) (hr:bT w w.heap.size A n c S) (hx:x<4294967296) (hn:n<=1000) (hk:k<n) (iu:(aZ S)[k]?=some ws) (H:ws.length<=900) (br:(ws.length:Int)≠ways)(HR:Hid (vf 120 ways A n c S true)) (HF:Hid (nQ 80 ways A n c x S k at' false)) :Ca 66 #[.agg #[I ways,.slice A n c],U (x:Int),.string data,.bool dirty] w λe w'=>∃ y,e = .returned (.tuple #[y,ET,.bool false])/\iV w (iK A n c S) ways y w' ((aZ S).set k (⟨x - x % 16,dirty,fD data⟩::ws)):=by
 have E:=St.start w _ (mF hr);unfold iK at E;obtain ⟨sA,m,sc,hS⟩:=sj iu;have E:=E.elem (eI _ (ej _)) hS;simp only at E;have G:=(E.rd (ej _)).wyslen;have a0:=(E.rd (ej _)).le;have al:=(E.rd (ej _)).mx;unfold maxLen at al;clear iu;obtain ⟨d2,hd2⟩:∃ d2,fD data=d2:=⟨_,rfl⟩;rw [hd2];obtain ⟨nw,aD⟩:∃ nw:Wy,nw=⟨x - x % 16,dirty,d2⟩:=⟨_,rfl⟩;have hvn:(ws++[nw])[m]?=some nw:=by rw [kU O];simp [G]
 have hfr:fG (ws++[nw]) m nw=nw::ws:=by rw [<- G];exact J9 ws nw
 rw [<- aD];have bs:((m:Int) == ways)=false:=by rw [pI];omega
 unfold fD at hd2;go_enter func66,ntmps66;go_upto_if 27 with (first|(go_at_call 120;refine E.cB (HR.out _ (ei (E.dat _ au) (E.dat _ au))) ?_;clear E;intro J E)|(go_at_call 80;refine E.cB (HF.out _ (ei (E.dat _ au) (E.dat _ au))) ?_;clear E;intro J E)|((first|refine aA ?_|(refine am ?_;clear E;intro Z J E));refine zs ?_));go_cut [2] (λs wx=>s = .string d2/\wx=J);case first=>
  by_cases cY:data.size=16
  .rw [aa cY] at hd2
   subst hd2;have hsz:((data.size:Int) != 16)=false:=by simp [cY]
   clear cY;go_wp2;go_meet;exact ⟨rfl,rfl⟩
  .rw [Y cY] at hd2
   subst hd2;have hsz:((data.size:Int) != 16)=true:=by rw [bne_iff_ne];omega
   clear cY;go_wp2;go_meet;exact ⟨rfl,rfl⟩
 case rest=>
  obtain ⟨rfl,rfl⟩:=hcut;go_wp2_with ((first|(go_at_call 120;refine E.cB (HR.out _ (ei (E.dat _ au) (E.dat _ au))) ?_;clear E;intro J E)|(go_at_call 80;refine E.cB (HF.out _ (ei (E.dat _ au) (E.dat _ au))) ?_;clear E;intro J E)|((first|refine aA ?_|(refine am ?_;clear E;intro Z J E));refine zs ?_)));refine bA aj E [.blk _ 35 [I ways,.slice A n c]] [ab 3 sA m sc (bv ws),ab 1 A n c (cj S),cR S] cM cM ?_;clear E;intro E z;refine zp 0 z ?_;refine an 1 z ?_;refine jf 2 z ?_;refine az 3 z ?_;refine cX 4 z ?_;refine zp 5 z ?_;refine aB 6 (λK X=>?_);go_wp2_with ((refine bK F E ?_;clear E;intro Z J E);refine zs ?_);have z:=z.nextA E;refine X.out _ _ z ?_;clear X;refine zs ?_;refine aB 7 (λK X=>?_);go_wp2_with (refine iP ?_;clear E;intro J E;(try refine zs ?_));have z:=z.nextA E;refine X.out _ _ z ?_;clear X;refine zs ?_;refine cA 8 z ?_;refine bt ?_;go_wp2_with ((first|(go_at_call 63;refine (mh x _ hx).mono ?_;rintro e J ⟨rfl,d,rfl⟩;replace E:=E.grow (af.drewN _ d))|(refine T2 ?_;clear E;intro Z J E)|((first|refine aA ?_|(refine am ?_;clear E;intro Z J E));refine zs ?_)));rw [show []++bv ws++[Value.int .u32 ((x - x % 16:Nat):Int),.bool dirty,.string d2]=bv (ws++[nw]) by rw [aD];simp [bv,Wy.cells],show 0+m+1=m+1 by omega] at E;obtain ⟨A3,c3,rfl,E⟩:=E.freeze 0 aC
  (try simp only [zF] at E);refine bA aj E [.blk _ 101 [U 0,.bool false,.string ⟨#[]⟩],.blk _ 35 [I ways,.slice A n c]] [ab 3 A3 (m+1) c3 (bv (ws++[nw])),ab 3 sA m sc (bv ws),ab 1 A n c (cj S),cR S] cM cM ?_;clear E;intro E z;refine cX 0 z ?_;refine an 1 z ?_;refine an 2 z ?_;refine an 3 z ?_;refine jf 4 z ?_;refine cX 7 z ?_;refine an 8 z ?_;refine aB 5 (λK X=>?_);go_wp2_with ((first|(go_at_call 124;refine (og _ _ _ (ws++[nw]) _ nw _ (E.rd au) O hvn).mono ?_;rintro e J ⟨xF,rfl,hb,ho⟩;replace E:=E.pushOwn hb ho;clear hb ho;rw [hfr] at E)|(go_at_call 125;obtain ⟨A2,c2,rfl,E⟩:=E.freeze 0 aC;(try simp only [nH] at E);refine (mY ways A n c S k _ _ _ (nw::ws) _ (ei (E.dat _ au) (E.dat _ au)) hn hk (E.dat _ au)).mono ?_;rintro e J ⟨_,rfl,A',n',c',S',rfl,R,hC⟩;replace E:=E.callA R;clear R)));have z:=z.nextA E;refine X.out _ _ z ?_;clear X;refine zs ?_;refine aB 6 (λK X=>?_);go_wp2_with ((first|(go_at_call 124;refine (og _ _ _ (ws++[nw]) _ nw _ (E.rd au) O hvn).mono ?_;rintro e J ⟨xF,rfl,hb,ho⟩;replace E:=E.pushOwn hb ho;clear hb ho;rw [hfr] at E)|(go_at_call 125;obtain ⟨A2,c2,rfl,E⟩:=E.freeze 0 aC;(try simp only [nH] at E);refine (mY ways A n c S k _ _ _ (nw::ws) _ (ei (E.dat _ au) (E.dat _ au)) hn hk (E.dat _ au)).mono ?_;rintro e J ⟨_,rfl,A',n',c',S',rfl,R,hC⟩;replace E:=E.callA R;clear R)));have z:=z.nextA E;refine X.out _ _ z ?_;clear X;refine zs ?_;refine aB 9 (λK X=>?_);go_wp2_with (refine iP ?_;clear E;intro J E;(try refine zs ?_));have z:=z.nextA E;refine X.out _ _ z ?_;clear X;refine zs ?_;refine aB 10 (λK X=>?_);go_wp2_with (refine iP ?_;clear E;intro J E;(try refine zs ?_));have z:=z.nextA E;refine X.out _ _ z ?_;clear X;refine zs ?_;refine cA 11 z ?_;refine bt ?_;go_wp2_with (((first|refine aA ?_|(refine am ?_;clear E;intro Z J E));refine zs ?_));((try simp only [Exit.inBlock,Exit.then]);refine bc (rR F E) F ?_);exact ⟨_,rfl,A',n',c',S',rfl,E.out cM,hC⟩
end
section
open Go.RowKit Wd
def Yl (op:Int) (w:World):Ca 208 #[I op] w λe w'=>e = .returned (.bool (kI op))/\w'=w:=by
 by_cases h1:op=1
 .subst h1
  go_enter func208,ntmps208;go_wp2;go_ret;exact ⟨rfl,rfl⟩
 have b1:(op == 1)=false:=by simpa using h1
 by_cases h2:op<11
 .rw [show kI op=false from by unfold kI;simp;omega]
  exact wH
 by_cases h3:op<=15
 .rw [show kI op=true from by unfold kI;simp;omega]
  exact wH
 by_cases h4:op<19
 .rw [show kI op=false from by unfold kI;simp;omega]
  exact wH
 by_cases h5:op<=27
 .rw [show kI op=true from by unfold kI;simp;omega]
  exact wH
 .rw [show kI op=false from by unfold kI;simp;omega]
  exact wH
def wB (a b:Nat):((a:Int)+(b:Int)) % 4294967296=((ay a b:Nat):Int):=by unfold ay;omega
def wY (a:Nat):((a:Int)+4) % 4294967296=((ay a 4:Nat):Int):=by unfold ay;omega
def iU (a b):ay a b<4294967296:=dy _ O
def G5 (i:Ins) (pc:Nat) {a b:Nat} (ha:a<4294967296) (hb:b<4294967296) (hi:i.imm<4294967296):jw i pc a b<4294967296:=by
 unfold jw;have h1:=iU pc i.imm;have h2:=iU pc 4;split
 .exact Wj _ _ _ ha hb
 split
 .exact Vg _ ha hb
 split
 .exact h1
 split
 .exact h2
 split
 .exact Gv ha hi
 .exact Gv ha hb
def xL (i:Ins) (pc a b:Nat) (w:World) (hi:cQ i.op) (iq:i.imm<4294967296) (ha:a<4294967296) (hb:b<4294967296) :Ca 180 #[i.val,U (pc:Int),U (a:Int),U (b:Int)] w (RB w (U (jw i pc a b:Int))):=by
 have E:=St.start w [] zN;have HK:=V (λW=>ec i W hi);have HI:=V (λW=>Yl i.op W);have bu:i.val.cells=i.cells.toArray:=rfl
 have hV:=V (show jw i pc a b=if ae i.op=1 then fc i.op a b else if ae i.op=2 then eB i.op a b else if i.op=2 then ay pc i.imm else if i.op=3\/i.op=4 then ay pc 4
  else aH i.op a (if kI i.op=true then i.imm else b) from rfl)
 generalize ae i.op=κ at *;by_cases k1:κ=1
 .subst k1
  go_enter func180,ntmps180;exact Dq
 by_cases k2:κ=2
 .subst k2
  go_enter func180,ntmps180;exact Dq
 replace hV:=hV.out;rw [Y k1,Y k2] at hV;have b1:(κ == 1)=false:=by simpa using k1
 have b2:(κ == 2)=false:=by simpa using k2
 clear k1 k2;by_cases o2:i.op=2
 .have c2:(i.op == 2)=true:=by simpa using o2
  replace hV:=V (hV.trans (aa o2));clear o2;go_enter func180,ntmps180;(go_wp2_with ((first|((refine gj (cs:=i.cells) F E F ?_);clear E;intro Z J E;(try refine zs ?_))|(refine xC ?_;clear E;intro J E)|(go_at_call 206;refine (D5 _ _ _ _ ha hb).mono ?_;rintro x J ⟨rfl,rfl⟩)|(go_at_call 207;refine E.cB (Bl _ _ _ _ ha hb) ?_;clear E;intro J E)|(go_at_call 208;refine (HI.out _).mono ?_;rintro x J ⟨rfl,rfl⟩)|(go_at_call 209;refine (Dx _ _ _ _ ha bI).mono ?_;rintro x J ⟨rfl,rfl⟩)|((first|refine aA ?_|(refine am ?_;clear E;intro Z J E));refine zs ?_))));go_ret;exact ⟨dI (by rw [hV.out];exact wB _ _),E.bel⟩
 rw [Y o2] at hV;have c2:(i.op == 2)=false:=by simpa using o2
 clear o2;by_cases o3:i.op=3
 .have c3:(i.op == 3)=true:=by simpa using o3
  replace hV:=V (hV.trans (aa (.inl o3)));clear o3;exact NS
 have c3:(i.op == 3)=false:=by simpa using o3
 by_cases o4:i.op=4
 .have c4:(i.op == 4)=true:=by simpa using o4
  replace hV:=V (hV.trans (aa (.inr o4)));clear o3 o4;exact NS
 have c4:(i.op == 4)=false:=by simpa using o4
 rw [Y (λh=>h.elim o3 o4)] at hV;clear o3 o4;generalize kI i.op=ib at *;replace hV:=V hV;cases ib
 all_goals
  go_enter func180,ntmps180;exact Dq
end
section
open Go.RowKit Wd
section
variable {P:Program} {ops:Array Oper} {rest:List Oper} {o:Oper} {a:Act} {Q:Exit->Act->World->Prop} {w0 w:World} {D0 D:List Da} {M:List Mu}
def OH {t e:TypeId} {g n k:Nat} {x ix:Operand} {ki:IntKind} (ho:o.op = .indexAddr t x ix) (hx:ac a x=some (.pointer (some ⟨g,0,none⟩))) (hk:ac a ix=some (.int ki (k:Int))) (hu:P.underlying t=some (.array n e)) (hi:(P.info? e).map (·.size)=some 1) (h:wpList P ops Q rest (a.put o.dst (.pointer (some ⟨g,k,none⟩))) w) (ik:k<n:=by (first|assumption|omega|exact mT bI|exact ng _)) (hw:Region.wanted o (yielded ops a.tmps)=true:=by rfl) :wpList P ops Q (o::rest) a w:=by
 replace hk:=ap hk;replace hx:=ap hx;have hs:(sizeOf e).run P w = .ok 1 w:=by
  cases hq:P.info? e with
  | none=>simp [hq] at hi
  | some i=>
   have:i.size=1:=by simpa [hq] using hi
   simp [sizeOf,typeInfo,hq,this]
 have ip:(Instr.indexAt t (.pointer (some ⟨g,0,none⟩)) (.int ki (k:Int))).run P w = .ok (.pointer (some ⟨g,k,none⟩)) w:=by
  simp [Instr.indexAt,eH hu,asIntOf,hs,kv,Instr.sureAddr,show (k:Int)<(n:Int) by omega];intro h;omega
 refine cI hw λK X=>?_
 unfold Oper.wp execOp;simp only [ho,hk,hx,ip,bC,bL,bG];exact X _ _ h
end
def zz (A n c q regs i reg w)(hr:Rd w w.heap.size 17 A n c (ens q))(hq:dp q)(hl:regs.length=32)(hi:cQ i)(hg:cQ reg):Ca 45 #[.slice A n c,.agg (ai regs).toArray,I i,I reg] w (RB w (.tuple #[U ((eg q regs i reg).1:Int),.bool (eg q regs i reg).2])):=by
 have E:=St.start w [ab 17 A n c (ens q)] (zC hr zN);have hc1:=hr.le;have aN:=hr.mx;unfold maxLen at aN;have hn:=hr.enslen;have HM:=V (λW (h:Rd W W.heap.size 17 A n c (ens q))=>Ey A n c i reg q W h hi hg)
 have HS:=(show eg q regs i reg=if reg=0 then (0,true) else if reg<0\/31<reg then (0,false) else if dM q i reg<0 then (regs[reg.toNat]?.getD 0,true) else
  match q[(dM q i reg).toNat]? with|some e=>if e.is=3/\e.halt=0 then (e.value,true) else (0,false)|none=>(0,false) from rfl)
 clear hr;by_cases h0:reg=0
 .subst h0
  rw [aa F] at HS;rw [HS];clear HS;exact tB
 rw [Y h0] at HS;have b0:(reg == 0)=false:=by simpa using h0
 by_cases h1:reg<0
 .rw [aa (.inl h1)] at HS
  rw [HS];clear HS h0;exact tB
 by_cases h2:31<reg
 .rw [aa (.inr h2)] at HS
  rw [HS];clear HS h0;exact tB
 rw [Y O] at HS;obtain ⟨r,rfl⟩:=jS (show 0<=reg by omega);have hlt:=@z9 q i (r:Int);obtain ⟨mk,aE⟩:∃ mk,dM q i (r:Int)=mk:=⟨_,rfl⟩;rw [aE] at HM HS hlt;clear aE h0;by_cases hm:mk<0
 .rw [aa hm,jt] at HS
  obtain ⟨x,hx⟩:∃ x,regs[r]?=some x:=⟨_,ba O⟩;have bw:(ai regs)[r]?=some (U (x:Int)):=by simp [ai,hx]
  rw [hx] at HS;rw [HS];clear HS hx hlt;exact tB
 rw [Y hm] at HS;obtain ⟨m,rfl⟩:=jS (show 0<=mk by omega);obtain ⟨m1,m2⟩:=hlt O;have bx:m<n:=by omega
 obtain ⟨e,hu⟩:∃ e,q[m]?=some e:=⟨_,ba O⟩;rw [jt,hu] at HS;dsimp only at HS;obtain ⟨no,pc,⟨op,rd,rs1,rs2,imm⟩,guess,is,left,value,next,addr,halt,took,known,filled⟩:=e;dsimp only at HS;clear m1 m2 hm hlt;by_cases h3:is=3
 .subst h3
  by_cases h4:halt=0
  .subst h4
   rw [aa ⟨rfl,rfl⟩] at HS;rw [HS];clear HS;exact tB
  .rw [Y (λh=>h4 h.2)] at HS
   have b4:(halt == 0)=false:=by simpa using h4
   rw [HS];clear HS h4;exact tB
 .rw [Y (λh=>h3 h.1)] at HS
  have b3:(is == 3)=false:=by simpa using h3
  rw [HS];clear HS h3;exact tB
def JQ (A:Option Addr) (n c:Nat) (q:List En) (regs:List Nat) (k:Nat) (w:World) (hr:Rd w w.heap.size 17 A n c (ens q)) (hq:dp q) (hl:regs.length=32) (hk:k<n) :Ca 16 #[.slice A n c,.agg (ai regs).toArray,I (k:Int)] w (RB w (.tuple #[U ((eC q regs k).1:Int),U ((eC q regs k).2.1:Int),.bool (eC q regs k).2.2])):=by
 have E:=St.start w [ab 17 A n c (ens q)] (zC hr zN);have hc1:=hr.le;have aN:=hr.mx;unfold maxLen at aN;have hn:=hr.enslen;clear hr;obtain ⟨e,hu⟩:∃ e,q[k]?=some e:=⟨_,ba O⟩;have ho:=hq e (aQ hu);have hB:eC q regs k=((eg q regs k e.inst.rs1).1,(eg q regs k e.inst.rs2).1,(eg q regs k e.inst.rs1).2 && (eg q regs k e.inst.rs2).2):=by unfold eC;rw [hu]
 have H1:=V (λW (h:Rd W W.heap.size 17 A n c (ens q))=>zz A n c q regs (k:Int) e.inst.rs1 W h hq hl ⟨by omega,by omega⟩ ho.rs1);have H2:=V (λW (h:Rd W W.heap.size 17 A n c (ens q))=>zz A n c q regs (k:Int) e.inst.rs2 W h hq hl ⟨by omega,by omega⟩ ho.rs2);rw [hB];clear hB;obtain ⟨no,pc,⟨op,rd,rs1,rs2,imm⟩,guess,is,left,value,next,addr,halt,took,known,filled⟩:=e;have jT:=V (λW=>xB ⟨op,rd,rs1,rs2,imm⟩ W);dsimp only at H1 H2 jT;generalize eg q regs k rs1=p1 at *;generalize eg q regs k rs2=p2 at *;obtain ⟨a1,b1⟩:=p1;obtain ⟨a2,b2⟩:=p2;dsimp only at H1 H2 ⊢;cases b1
 all_goals
  go_enter func16,ntmps16;go_wp2_with ((try refine zs ?_);(first|refine g3i ?_|(refine Xu ?_;clear E;intro Z J E)|(go_at_call 45;have h1:=H1.out _ E.rdA;(with_reducible refine h1.mono ?_);rintro x J ⟨rfl,hb⟩;replace E:=E.grow hb;clear hb h1)|(go_at_call 45;have h2:=H2.out _ E.rdA;(with_reducible refine h2.mono ?_);rintro x J ⟨rfl,hb⟩;replace E:=E.grow hb;clear hb h2)|(refine aq ?_;clear E;intro vN J E)));go_returns;exact ⟨rfl,E.bel⟩
end
section
open Go.RowKit Go.Sort
def fX (C:List (List Wy)):Prop:=∀ ws∈C,∀ v∈ws,v.line<4294967296/\v.data.size<=maxLen
def fX.sok {S}(h:fX (aZ S)):kP S:=λs hs v hv=>h s.ws (fQ.2 ⟨s,hs,rfl⟩) v hv
def fX.set {C:List (List Wy)} (h:fX C) (k:Nat) {ws:List Wy} (hw:∀ v∈ws,v.line<4294967296/\v.data.size<=maxLen):fX (C.set k ws):=λus hu v hv=>by
 rcases po hu with hu|rfl
 .exact h us hu v hv
 .exact hw v hv
def fX.at_ {C}(h:fX C){k:Nat}{ws}(hw:C[k]?=some ws):∀ v∈ws,v.line<4294967296/\v.data.size<=maxLen:=h ws (aQ hw)
def r9 (ws:List Wy) (l i:Nat) (b:Bool):Prop :=
 (b=true /\ ∃ v,At ws l i v /\ ∀ j<i,∀ u,ws[j]?=some u->u.line≠l)\/(b=false/\i=0/\pP ws l)
inductive fE (ways:Int) (C:List (List Wy)) (x k i:Nat) (b:Bool):Prop
 | no (h:¬ bj ways C) (hk:k=0) (hi:i=0) (hb:b=false)
 | yes (h:bj ways C) (hk:x / 16 % C.length=k) (ws:List Wy) (hw:C[k]?=some ws) (hs:r9 ws (x - x % 16) i b)
def bj.set_at {ways:Int} {C:List (List Wy)} (h:bj ways C) (x:Nat):∃ ws,C[x / 16 % C.length]?=some ws :=
 ⟨_,ba (dy _ (by rcases h.hn with h|h|h <;> omega))⟩
def fE.line {ways C x k i b}(h:fE ways C x k i b):fE ways C (x - x % 16) k i b:=by
 cases h with
 | no h hk hi hb=>exact .no h hk hi hb
 | yes h hk ws hw hs=>exact .yes h (by rw [<- hk];congr 1;omega) ws hw (by rwa [show x - x % 16 - (x - x % 16) % 16=x - x % 16 by omega])
def fE.at_ {ways C x k i}(h:fE ways C x k i true):bj ways C/\x / 16 % C.length=k /\ ∃ ws v,C[k]?=some ws/\ws[i]?=some v/\v.line=x - x % 16/\(ws.length:Int)<=ways:=by
 cases h with
 | no h hk hi hb=>cases hb
 | yes h hk ws hw hs=>
  rcases hs with ⟨_,v,ha,_⟩|⟨hb,_⟩
  .exact ⟨h,hk,ws,v,hw,ha.is,ha.line,(h.hs k ws hw).1⟩
  .cases hb
inductive mC (ways:Int) (C:List (List Wy)) (x:Nat) (C':List (List Wy)):Prop
 | no (k i:Nat) (h:fE ways C x k i false) (he:C'=C)
 | yes (k i:Nat) (h:fE ways C x k i true) (ws:List Wy) (v:Wy) (hw:C[k]?=some ws) (hv:ws[i]?=some v) (he:C'=C.set k (fG ws i v))
inductive oJ (ways:Int) (C:List (List Wy)) (x:Nat) (data:ByteArray) (dirty:Bool) (C':List (List Wy)) (iw:Wy) (went:Bool):Prop
 | no (h:¬ bj ways C) (he:C'=C) (hg:iw=⟨0,false,⟨#[]⟩⟩) (hb:went=false)
 | hit (k i:Nat) (h:fE ways C x k i true) (ws:List Wy) (v:Wy) (hw:C[k]?=some ws) (hv:ws[i]?=some v)
   (he:C'=C.set k (fG ws i ⟨v.line,v.dirty || dirty,if data.size=16 then data else v.data⟩)) (hg:iw=⟨0,false,⟨#[]⟩⟩) (hb:went=false)
 | room (k i:Nat) (hR:bj ways C) (h:fE ways C x k i false) (ws:List Wy) (hw:C[k]?=some ws) (hl:(ws.length:Int)<ways)
   (he:C'=C.set k (⟨x - x % 16,dirty,fD data⟩::ws)) (hg:iw=⟨0,false,⟨#[]⟩⟩) (hb:went=false)
 | full (k i:Nat) (hR:bj ways C) (h:fE ways C x k i false) (ws:List Wy) (hw:C[k]?=some ws) (hl:(ws.length:Int)=ways) (l:Nat) (hl1:ws.length=l+1) (aF:ws[l]?=some iw)
   (he:C'=C.set k (⟨x - x % 16,dirty,fD data⟩::ws.take l)) (hb:went=true)
def fE.set_ {ways C x k i b}(h:fE ways C x k i b)(hR:bj ways C):x / 16 % C.length=k /\ ∃ ws,C[k]?=some ws/\(ws.length:Int)<=ways/\r9 ws (x - x % 16) i b:=by
 cases h with
 | no h hk hi hb=>exact absurd hR h
 | yes h hk ws hw hs=>exact ⟨hk,ws,hw,(h.hs k ws hw).1,hs⟩
section
variable {ways:Int} {A:Option Addr} {n c x:Nat} {S:List Cs}
def iV.same {w w' D0 A n c S}(hr:bT w w.heap.size A n c S)(hb:af w w')(h1:ab 1 A n c (cj S)∈D0)(h2:cR S∈D0):iV w D0 ways (.agg #[I ways,.slice A n c]) w' (aZ S) :=
 ⟨A,n,c,S,rfl,⟨hb,mF (hr.bel hb),λd hd=>by
  rcases bB.1 hd with rfl|hd
  .exact From.self h1
  .obtain rfl:=dm.1 hd
   exact From.self h2⟩,rfl⟩
def iV.sameC {w w' A n c S}(hr:bT w w.heap.size A n c S)(hb:af w w'):iV w (iK A n c S) ways (.agg #[I ways,.slice A n c]) w' (aZ S) :=
 iV.same hr hb (ej _) (eI _ (ej _))
def BW {W}(h:bT W W.heap.size A n c S):(aZ S).length=n:=by rw [jN];exact h.slen
def mc (hx:x<4294967296)(ho:kP S){k i b}(h:fE ways (aZ S) x k i b):nQ 80 ways A n c x S k i b:=λW hr=>by
 cases h with
 | no h hk hi hb=>subst hk hi hb;exact Y1 ways A n c S x W hr ho h
 | yes h hk ws hw hs=>rw [BW hr] at hk;exact YA ways A n c S x W hr ho hx h k hk ws hw i b hs
def pm (ho:kP S){b}(hb:b=true↔bj ways (aZ S)):vf 120 ways A n c S b:=λW hr=>EN ways A n c S W hr ho b hb
def tm {p:Prop} (h:p):true=true↔p:=⟨λ_=>h,λ_=>rfl⟩
def BS {p:Prop} (h:¬ p):false=true↔p:=⟨λe=>(by cases e),λe=>absurd e h⟩
def Ba {ways C}(h:bj ways C){ws:List Wy}(hl:(ws.length:Int)<=ways):ws.length<=2:=by have:=h.hw;omega
def uz {W}(hr:bT W W.heap.size A n c S)(h:bj ways (aZ S)):n<=1000:=by have:=h.hn;rw [BW hr] at this;omega
def sr {W}(hr:bT W W.heap.size A n c S){k ws}(hw:(aZ S)[k]?=some ws):k<n:=by have:=(aK.1 hw).1;rwa [BW hr] at this
def I8 {C':List (List Wy)} (hx:x<4294967296) (ho:kP S) (h:mC ways (aZ S) x C') (w:World) (hr:bT w w.heap.size A n c S) :Ca 84 #[.agg #[I ways,.slice A n c],U (x:Int)] w λe w'=>∃ y,e = .returned y/\iV w (iK A n c S) ways y w' C':=by
 cases h with
 | no k i h he=>
  subst he;refine (Pj ways A n c x S k i w hr (V (mc hx ho h))).mono ?_;rintro e w' ⟨rfl,hb⟩;exact ⟨_,rfl,iV.sameC hr hb⟩
 | yes k i h ws v hw hv he=>
  subst he;obtain ⟨hR,_,ws',v',bN,_,_,hl⟩:=h.at_;rw [hw] at bN;injection bN with bN;subst bN;exact h5f ways A n c x S k i ws v w hr (uz hr hR) (sr hr hw) hw zH hv (V (mc hx ho h))
def nV {data:ByteArray} {dirty:Bool} {C':List (List Wy)} {iw:Wy} {went:Bool} (hx:x<4294967296) (ho:kP S) (h:oJ ways (aZ S) x data dirty C' iw went) (w:World) (hr:bT w w.heap.size A n c S) :Ca 66 #[.agg #[I ways,.slice A n c],U (x:Int),.string data,.bool dirty] w λe w'=>∃ y,e = .returned (.tuple #[y,iw.val,.bool went])/\iV w (iK A n c S) ways y w' C':=by
 cases h with
 | no h he hg hb=>
  subst he hg hb;refine (SD ways A n c x data dirty S w hr (V (pm ho (BS h)))).mono ?_;rintro e w' ⟨rfl,hb⟩;exact ⟨_,rfl,iV.sameC hr hb⟩
 | hit k i h ws v hw hv he hg hb=>
  subst he hg hb;obtain ⟨hR,hk,ws',v',bN,eM,bE,hl⟩:=h.at_;rw [hw] at bN;injection bN with bN;subst bN;exact OE ways A n c x data dirty S k i ws v w hr (uz hr hR) (sr hr hw) hw zH hv (V (pm ho (tm hR))) (V (mc hx ho h))
 | room k i hR h ws hw hl he hg hb=>
  subst he hg hb;exact I' ways A n c x data dirty S k i ws w hr hx (uz hr hR) (sr hr hw) hw (by have:=Ba hR (by omega:(ws.length:Int)<=ways);omega) O (V (pm ho (tm hR))) (V (mc hx ho h))
 | full k i hR h ws hw hl l hl1 aF he hb=>
  subst he hb;exact L' ways A n c x data dirty S k i ws w hr hx (uz hr hR) (sr hr hw) hw (by have:=Ba hR (by omega:(ws.length:Int)<=ways);omega) hl l hl1 iw aF (V (pm ho (tm hR))) (V (mc hx ho h))
def QR {ws l k}(h:pP ws l):pP (ws.take k) l:=λv hv=>h v (jE hv)
end
end
end Go.Proofs.YtgnomadgnciifaaGreatDoor
