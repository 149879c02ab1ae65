/- . -/
import Derived.Test.YtgnomadgnciifaaGreatDoorZ5
set_option linter.all false
set_option maxRecDepth 100000
set_option maxHeartbeats 16000000
namespace Go.Proofs.YtgnomadgnciifaaGreatDoor
open Go.Proofs.Tryz
def Lc {p:Prop} (h:p:=by
 clear R j1 ml;go_wp2_with ((first|(refine xC ?_;clear E;intro J E)|((refine du (v:=e.inst.val) (n:=5) F E F ?_ (hn:=ce F));(try refine zs ?_))|((first|refine aA ?_|(refine am ?_;clear E;intro Z J E));refine zs ?_)));go_roundw;case rel=>exact ⟨k+1,_,by omega,by go_num,by rw [<- al.out];exact E.drop 0⟩
 case measure=>exact zM):p:=h
def GH {p:Prop} (h:p:=by
 go_wp2_with ((first|(refine G9 ?_;clear E;intro J E)|(go_at_call 202;refine (J7 _ _ _ _ _ E.rdA hq hn).mono ?_;rintro x J ⟨A2,c2,rfl,H⟩;replace E:=E.call1A H;clear H)|((first|refine aA ?_|(refine am ?_;clear E;intro Z J E));refine zs ?_)));go_ret
 exact ⟨by simp [h1],E.bel⟩):p:=h
section
open Go.RowKit Wd
def qh {op:Int} {Y':Int} (hf:aI op=Y') (x:Nat):bn op x=⟨op,if (cH Y').1 then aV x 7 5 else 0,if (cH Y').2.1 then aV x 15 5 else 0,if (cH Y').2.2 then aV x 20 5 else 0,
  if Y'=3 then (bW x (av Y').1).1 * 2 ^ (av Y').2 % 4294967296 else cJ ((bW x (av Y').1).1 * 2 ^ (av Y').2 % 4294967296) ((bW x (av Y').1).2+(av Y').2)⟩:=by
 subst hf;rfl
end
section
open Go.RowKit
def QD (s:Stp) (h:¬ (s.store=true/\s.halt=0/\(s.size=1\/s.size=2\/s.size=4))) :s.store=false\/(s.store=true/\(s.halt == 0)=false/\(s.halt != 0)=true)\/(s.store=true/\s.halt=0/\(s.size == 1)=false/\(s.size != 1)=true/\(s.size == 2)=false/\(s.size != 2)=true/\(s.size == 4)=false/\(s.size != 4)=true):=by
 cases h1:s.store with
 | false=>exact .inl F
 | true=>
  by_cases h2:s.halt=0
  .refine .inr (.inr ⟨rfl,h2,?_⟩)
   have h3:s.size≠1:=λe=>h ⟨h1,h2,.inl e⟩
   have h4:s.size≠2:=λe=>h ⟨h1,h2,.inr (.inl e)⟩
   have h5:s.size≠4:=λe=>h ⟨h1,h2,.inr (.inr e)⟩
   simp [h3,h4,h5]
  .exact .inr (.inl ⟨rfl,by simpa using h2,by simpa using h2⟩)
def yE (a:Nat) (d:ByteArray):Value:=.agg #[U (a:Int),.string d]
def h4z : cO Tryz.prog 109 2:=⟨_,underlying109,rfl,by kernel_rfl⟩
def O4 (s:Stp) (w:World) (n:Int) (m:Nat) (hm:(m:Int)=n) (hn:n=1\/n=2\/n=4) (hv:s.value<4294967296) (h1:s.store=true) (h2:s.halt=0) (h3:s.size=n) :Ca 72 #[s.val] w (RB w (.tuple #[yE s.addr ⟨(Wd.bytesL s.value m).toArray⟩,.bool true])):=by
 have hb:∀ W,Ca 129 #[U (s.value:Int),I n] W (RB W (.tuple #[.string ⟨(Wd.bytesL s.value m).toArray⟩,I 0])):=by
  intro W;rw [<- hm];exact Wd.Bytes_any s.value m W hv O
 have HB:=V hb;clear hb;obtain ⟨pc,next,rd,value,addr,size,store,halt,took⟩:=s;simp only at h1 h2 h3;subst h1 h2 h3;unfold Stp.val yE;rcases hn with rfl|rfl|rfl
 all_goals
  have Hm:=V hm;clear hm;go_enter func72,ntmps72;go_wp2_with (go_at_call 129;refine (HB.out _).mono ?_;rintro e w1 ⟨rfl,aJ⟩;obtain ⟨hc1,hf1⟩:=MN aJ;have a8:w.heap.size+1<w1.heap.size:=by have:=aJ.size;simp at this;omega);refine bc (G3 F ax ((((Bk.new' _ 109 [U 0,.string ⟨#[]⟩] (w.heap.size+1) aF).bel aJ).set_ 0 _).set_ 1 _) h4z) F ⟨rfl,?_⟩;exact ((((af.alloc w _).trans (af.alloc _ _)).trans aJ).setCell aF _).setCell aF _
def PO (s:Stp)(w)(h:¬ (s.store=true/\s.halt=0/\(s.size=1\/s.size=2\/s.size=4))):Ca 72 #[s.val] w (RB w (.tuple #[yE 0 ⟨#[]⟩,.bool false])):=by
 have key:=QD s h;clear h;obtain ⟨pc,next,rd,value,addr,size,store,halt,took⟩:=s;simp only at key;unfold Stp.val yE;rcases key with rfl|⟨rfl,a1,a2⟩|⟨rfl,rfl,a1,a2,a3,a4,a5,a6⟩
 all_goals
  go_enter func72,ntmps72;go_wp2;go_returns;exact ⟨rfl,(af.alloc w _).trans (af.alloc _ _)⟩
def zpu : Pu:=⟨0,⟨#[]⟩⟩
def vg (s:Stp):Pu:=if gx s=true then ⟨s.addr,fU s.value s.size⟩ else zpu
def Za (s w)(hv:s.value<4294967296):Ca 72 #[s.val] w (RB w (.tuple #[(vg s).val,.bool (gx s)])):=by
 by_cases h:s.store=true/\s.halt=0/\(s.size=1\/s.size=2\/s.size=4)
 .have hB:gx s=true:=by simp [gx,h.1,h.2.1,h.2.2]
  unfold vg;rw [hB,aa F];obtain ⟨m,hm⟩:∃ m:Nat,(m:Int)=s.size:=⟨s.size.toNat,by have:=h.2.2;omega⟩;have aO:s.size.toNat=m:=by omega
  unfold fU;rw [aO];exact O4 s w s.size m hm h.2.2 hv h.1 h.2.1 F
 .have hB:gx s=false:=by
   simp only [gx];cases hs:s.store
   .rfl
   .simp only [kb]
    simp only [hs,true_and] at h;by_cases hh:s.halt=0
    .simp only [hh,true_and] at h
     simp [hh,h]
    .simp [hh]
  unfold vg;rw [hB,Y ag];exact PO s w h
end
section
open Go.RowKit Go.Sort
def og (A:Option Addr) (n c:Nat) (q:List Wy) (i:Nat) (v:Wy) (w:World) (hr:Rd w w.heap.size 3 A n c (bv q)) (hn:n<=1000) (hv:q[i]?=some v) :Ca 124 #[.slice A n c,I (i:Int)] w λe w'=>∃ x,e = .returned x/\af w w'/\w'.ownsRow w.heap.size 101 3 x n (bv (fG q i v)):=by
 have hin:i<n:=by have:=(aK.1 hv).1;rw [hr.wyslen] at this;exact this
 have E:=St.start w [ab 3 A n c (bv q)] (by intro d hd;obtain rfl:=dm.1 hd;exact hr);have hc1:=hr.le;have aN:=hr.mx;unfold maxLen at aN;have a9:i<=n:=by omega
 have hin2:i+1<=n:=by omega
 go_enter func124,ntmps124;go_wp2_with (((first|refine aA ?_|(refine am ?_;clear E;intro Z J E));refine zs ?_));go_ret;have ho:=E.ownAt aC
 rw [Ef,Rv,show 0+1+i+(n - (i+1))=n by omega] at ho;refine ⟨_,rfl,E.bel,?_⟩;have e:[]++v.cells++bv (q.take i)++bv (q.drop (i+1))=bv (fG q i v):=by simp [fG,bv]
 rw [e] at ho;exact ho
def mY (ways:Int) (A:Option Addr) (n c:Nat) (S:List Cs) (k:Nat) (A2:Option Addr) (n2 c2:Nat) (q2:List Wy) (w:World) (hr:bT w w.heap.size A n c S) (hn:n<=1000) (hk:k<n) (h2:Rd w w.heap.size 3 A2 n2 c2 (bv q2)) :Ca 125 #[.agg #[I ways,.slice A n c],I (k:Int),.slice A2 n2 c2] w λe w'=>∃ x,e = .returned x/\iV w [ab 1 A n c (cj S),cR S,ab 3 A2 n2 c2 (bv q2)] ways x w' ((aZ S).set k q2):=by
 have E:=St.start w _ (h4n hr h2);have hc1:=hr.rd.le;have aN:=hr.rd.mx;unfold maxLen at aN;have aP:=hr.slen;have hl1:k * 1<(cj S).length:=by rw [wg];omega
 go_enter func125,ntmps125;go_wp2_with ((first|(refine YX ?_;clear E;intro Z J E)|(refine KR F F E yw F F au bx (by first|exact rfl|(simp [madeCells];done)|(simp [madeCells,ya];omega)) (by (first|((repeat (first|exact uu|refine wm (by (first|rfl|exact E.ownOne aC|exact E.ownOne dD|exact E.ownOne jh|exact E.ownOne kY|exact E.ownOne oc)) ?_)) <;> exact uu)|exact Wy.one _|(first|exact AP _|exact JY _|exact Cw _|exact AR _|exact B6 _|assumption)|exact NE F0 _|exact drop_one F0 _)) F ?_;clear E;intro J E;(try simp only [zF] at E))|refine p6 ?_|((first|refine aA ?_|(refine am ?_;clear E;intro Z J E));refine zs ?_)));have E:=E.freezeB 0 aC 1 n n (by simp [wg,aP]) (aM _) eT;(try simp only [zF] at E);rw [dP,show Value.slice A2 n2 c2=(Cs.mk A2 n2 c2 q2).val from rfl,Q1] at E;have E:=E.elemSet au k (A2:=A2) (n2:=n2) (c2:=c2) (q2:=q2) au;go_wp2_with (((first|refine aA ?_|(refine am ?_;clear E;intro Z J E));refine zs ?_));((try simp only [Exit.inBlock,Exit.then]);refine bc (eL F E) F ?_);exact ⟨_,rfl,_,_,_,_,rfl,E.out cM,UK _ _ _⟩
def nQ (f:FuncId) (ways:Int) (A:Option Addr) (n c x:Nat) (S:List Cs) (k at':Nat) (b:Bool):Prop :=
 ∀ W,bT W W.heap.size A n c S->Calls Tryz.prog f #[.agg #[I ways,.slice A n c],U (x:Int)] W (RB W (.tuple #[I (k:Int),I (at':Int),.bool b]))
def vf (f:FuncId) (ways:Int) (A:Option Addr) (n c:Nat) (S:List Cs) (b:Bool):Prop :=
 ∀ W,bT W W.heap.size A n c S->Calls Tryz.prog f #[.agg #[I ways,.slice A n c]] W (RB W (.bool b))
def sj {S}{k:Nat}{ws}(h:(aZ S)[k]?=some ws):∃ sA m sc,S[k]?=some ⟨sA,m,sc,ws⟩:=by
 cases hs:S[k]? with
 | none=>simp [aZ,lQ,hs] at h
 | some s=>
  obtain ⟨sA,m,sc,sws⟩:=s;simp only [aZ,lQ,hs,dB,dF] at h;exact ⟨sA,m,sc,by rw [h]⟩
def wh {d:ByteArray} (h:d.size≠0):d.toList.isEmpty=false:=by
 rw [ByteArray.toList_eq];obtain ⟨⟨l⟩⟩:=d;cases l with
 | nil=>exact absurd F h
 | cons a r=>rfl
def Dn {d:ByteArray} (h:d.size=0):d.toList.isEmpty=true:=by
 rw [ByteArray.toList_eq];obtain ⟨⟨l⟩⟩:=d;cases l with
 | nil=>rfl
 | cons a r=>exact absurd h (by simp [ByteArray.size])
def ET : Value:=.agg #[U 0,.bool false,.string ⟨#[]⟩]
def fD (data:ByteArray):ByteArray:=if data.size=16 then data else ⟨#[]⟩
def J9 (q v):fG (q++[v]) q.length v=v::q:=by
 simp [fG]
def h5d {S}{k:Nat}{A n c q}(h:S[k]?=some ⟨A,n,c,q⟩):(aZ S)[k]?=some q:=by simp [aZ,h]
def tc : Cs:=⟨none,0,0,[]⟩
def St.elemNil {w0 w:World} {D0 D:List Da} {M:List Mu} (h:St w0 D0 w M D) (k:Nat):St w0 D0 w M (cR (List.replicate k tc)::D) :=
 h.part _ (λs hs=>by
  obtain rfl:=qN hs
  exact Rd.nil (mB _)) λg hg=>by
  obtain ⟨s,hs,hg⟩:=hg;obtain rfl:=qN hs;exact absurd hg.1 ag
def Pj (ways:Int) (A:Option Addr) (n c x:Nat) (S:List Cs) (k at':Nat) (w:World) (hr:bT w w.heap.size A n c S) (HF:Hid (nQ 80 ways A n c x S k at' false)) :Ca 84 #[.agg #[I ways,.slice A n c],U (x:Int)] w (RB w (.agg #[I ways,.slice A n c])):=by
 have E:=St.start w _ (mF hr);unfold iK at E;go_enter func84,ntmps84;go_wp2_with ((first|(go_at_call 80;refine E.cB (HF.out _ (ei (E.dat _ au) (E.dat _ au))) ?_;clear E;intro J E)|((first|refine aA ?_|(refine am ?_;clear E;intro Z J E));refine zs ?_)));((try simp only [Exit.inBlock,Exit.then]);refine bc (eL F E) F ?_);exact ⟨rfl,E.bel⟩
def h5f (ways:Int) (A:Option Addr) (n c x:Nat) (S:List Cs) (k at':Nat) (ws:List Wy) (v:Wy) (w:World) (hr:bT w w.heap.size A n c S) (hn:n<=1000) (hk:k<n) (iu:(aZ S)[k]?=some ws) (a':ws.length<=1000) (hv:ws[at']?=some v)(HF:Hid (nQ 80 ways A n c x S k at' true)) :Ca 84 #[.agg #[I ways,.slice A n c],U (x:Int)] w λe w'=>∃ x,e = .returned x/\iV w (iK A n c S) ways x w' ((aZ S).set k (fG ws at' v)):=by
 have E:=St.start w _ (mF hr);unfold iK at E;obtain ⟨sA,m,sc,hS⟩:=sj iu;have E:=E.elem (eI _ (ej _)) hS;simp only at E;have bb:=(E.rd (ej _)).wyslen;clear iu;go_enter func84,ntmps84;go_wp2_with ((first|(go_at_call 80;refine E.cB (HF.out _ (ei (E.dat _ au) (E.dat _ au))) ?_;clear E;intro J E)|((first|refine aA ?_|(refine am ?_;clear E;intro Z J E));refine zs ?_)));refine bA aj E [.blk _ 35 [I ways,.slice A n c]] [ab 3 sA m sc (bv ws),ab 1 A n c (cj S),cR S] cM cM ?_;clear E;intro E G;refine cX 0 G ?_;refine an 1 G ?_;refine az 2 G ?_;refine cX 3 G ?_;refine an 4 G ?_;refine pz 5 G ?_;refine cX 6 G ?_;refine an 7 G ?_;refine aB 8 (λK X=>?_);go_wp2_with ((first|(go_at_call 124;refine (og _ _ _ ws at' v _ (E.rd au) O hv).mono ?_;rintro e J ⟨xF,rfl,hb,ho⟩;replace E:=E.pushOwn hb ho;clear hb ho)|(go_at_call 125;obtain ⟨A2,c2,rfl,E⟩:=E.freeze 0 aC;(try simp only [nH] at E);refine (mY ways A n c S k A2 m c2 (fG ws at' v) _ (ei (E.dat _ au) (E.dat _ au)) hn hk (E.dat _ au)).mono ?_;rintro e J ⟨_,rfl,A',n',c',S',rfl,H,hC⟩;replace E:=E.callA H;clear H)));have G:=G.nextA E;refine X.out _ _ G ?_;clear X;refine zs ?_;refine aB 9 (λK X=>?_);go_wp2_with ((first|(go_at_call 124;refine (og _ _ _ ws at' v _ (E.rd au) O hv).mono ?_;rintro e J ⟨xF,rfl,hb,ho⟩;replace E:=E.pushOwn hb ho;clear hb ho)|(go_at_call 125;obtain ⟨A2,c2,rfl,E⟩:=E.freeze 0 aC;(try simp only [nH] at E);refine (mY ways A n c S k A2 m c2 (fG ws at' v) _ (ei (E.dat _ au) (E.dat _ au)) hn hk (E.dat _ au)).mono ?_;rintro e J ⟨_,rfl,A',n',c',S',rfl,H,hC⟩;replace E:=E.callA H;clear H)));have G:=G.nextA E;refine X.out _ _ G ?_;clear X;refine zs ?_;refine aB 10 (λK X=>?_);go_wp2_with (refine iP ?_;clear E;intro J E;(try refine zs ?_));have G:=G.nextA E;refine X.out _ _ G ?_;clear X;refine zs ?_;refine bt ?_;go_wp2_with (((first|refine aA ?_|(refine am ?_;clear E;intro Z J E));refine zs ?_));((try simp only [Exit.inBlock,Exit.then]);refine bc (eL F E) F ?_);exact ⟨_,rfl,A',n',c',S',rfl,E.out cM,hC⟩
def Uw {g1 g4:Nat} {A:Option Addr} {n c:Nat} {q:List En} {v:Value} {B:Nat} {e:TypeId} {L:List Int} {k:Nat} {reg:Int} {w:World} (aJ:Bk w g1 31 [.slice A n c]) (aw:Bk w g4 22 [v]) (ho:w.ownsRow B e 1 v k (aE L)) (hr:Rd w w.heap.size 17 A n c (ens q)) (hk:k<=1000000)(aX:cQ reg):Ca 213 #[I (k:Int),I reg,.pointer (some ⟨g1,0,none⟩),.pointer (some ⟨g4,0,none⟩)] w (RB w (I (na q L k reg))):=by
 obtain ⟨A2,c2,rfl,ad⟩:=Rd.of_own ho;have hl:=ad.i64slen;have hm:=ad.le;have aY:=ad.mx;unfold maxLen at aY;have c1:=aJ.cell 0;have c4:=aw.cell 0;dsimp only [List.getElem?_cons_zero] at c1 c4;have HM:=V (Ey A n c (k:Int) reg q w hr ⟨by omega,by omega⟩ aX);have HO:=V (show na q L k reg=if 0<=dM q k reg then L[(dM q k reg).toNat]?.getD (-1) else -1 from rfl);by_cases h0:0<=dM q k reg
 .obtain ⟨m1,m2⟩:=z9 h0
  obtain ⟨m,hm⟩:∃ m:Nat,dM q k reg=(m:Int):=⟨_,(Int.toNat_of_nonneg h0).symm⟩;rw [hm] at HM HO m1 m2;obtain ⟨g,o,u,rfl,_,hu,hc⟩:=ad.cell1 (k:=m) O;obtain ⟨x,hx⟩:∃ x,L[m]?=some x:=⟨_,ba O⟩;have ap:=pA hx;rw [hu] at ap;injection ap with ap;subst ap;replace HO:=V (show na q L k reg=x by rw [HO.out,aa O,jt,hx];rfl);have bd:m<k:=by omega
  replace hc:=V hc;clear hm h0 ad hu hx hr aJ aw ho m2;go_enter func213,ntmps213;go_wp2_with (go_at_call 108;refine HM.out.mono ?_;rintro y w1 ⟨rfl,hb⟩;have c4':=hb.cell_of c4;have wT:=hb.cell_of hc.out);go_ret;exact ⟨by rw [HO.out];rfl,hb⟩
 .replace HO:=V (show na q L k reg = -1 by rw [HO.out,Y h0])
  generalize dM q k reg=m at *;clear ad hr aJ aw ho;have h0:m<0:=by omega
  go_enter func213,ntmps213;go_wp2_with (go_at_call 108;refine HM.out.mono ?_;rintro y w1 ⟨rfl,hb⟩);go_ret;exact ⟨by rw [HO.out];rfl,hb⟩
def J7 (A n c q w)(hr:Rd w w.heap.size 17 A n c (ens q))(hq:dp q)(hn:n<=1000):Ca 202 #[.slice A n c] w λe w'=>∃ A2 c2,e = .returned (.slice A2 n c2)/\Out w [ab 17 A n c (ens q)] w' [ab 1 A2 n c2 (aE (zO q))]:=by
 have E:=St.start w [ab 17 A n c (ens q)] (zC hr zN);have ak:=hr.enslen;have hc1:=hr.le;have aN:=hr.mx;unfold maxLen at aN;have jx:=Oc q;have HQ:=V hq;go_enter func202,ntmps202;go_wp2_with ((first|(go_at_call 42;refine E.cB (GL _ _ _ _ _ E.rdA hq.op) ?_;clear E;intro J E)|((first|refine aA ?_|(refine am ?_;clear E;intro Z J E));refine zs ?_)));rename_i g1 wa wb gR wc gV wd K X;go_loopw [19] (λix wr=>∃ (k:Nat) (v:Value),k<=n/\ix = I (k:Int)/\St w [ab 17 A n c (ens q)] wr [.blk gV 22 [v],.own v 3 1 k (aE (gh q k)),.blk g1 31 [.slice A n c]] [ab 17 A n c (ens q)]) (λix _=>n - (intOf ix).toNat);case atStart=>exact ⟨0,_,by omega,rfl,E⟩
 case round=>
  obtain ⟨k,v,hk,rfl,E⟩:=hrel;by_cases ik:k<n
  .obtain ⟨e,hu⟩:∃ e,q[k]?=some e:=⟨_,ba O⟩
   have j1:=HQ.out e (aQ hu);have be:=j1.rs1;have bh:=j1.rs2;have HK:=V (λW=>ec e.inst W j1.op);have mW:=V (λW=>xB e.inst W);have R:=V (ZR hu);have ml:=M8 hu;rw [<- AX,<- AX] at ml;by_cases h3:ae e.inst.op=3
   .rw [aa h3] at ml
    rw [h3] at HK;clear h3;have HF:=V (show eV q=eV q from rfl);generalize eV q=f at *;by_cases hf:f<k
    .rw [aa hf] at ml
     have al:Hid (aE (gh q k)++[I (k:Int)]=aE (gh q (k+1))):=V (by rw [R.out,ml,tH];rfl);exact Lc
    .rw [Y hf] at ml
     have al:Hid (aE (gh q k)++[I (-1)]=aE (gh q (k+1))):=V (by rw [R.out,ml,tH];rfl);exact Lc
   .rw [Y h3] at ml
    obtain ⟨N,hN⟩:∃ N,rt q k=N:=⟨_,rfl⟩;rw [hN] at ml R;generalize ae e.inst.op=kd at *;replace ml:=V (show N=if na q (gh q k) k e.inst.rs2 > na q (gh q k) k e.inst.rs1 then na q (gh q k) k e.inst.rs2 else na q (gh q k) k e.inst.rs1 by rw [ml];split <;> omega);have al:Hid (aE (gh q k)++[I N]=aE (gh q (k+1))):=V (by rw [R.out,tH];rfl);clear R hN j1;go_wp2_with ((first|(refine Dh ?_;clear E;intro J E)|(go_at_call 213;refine E.cB (Uw (E.bk au) (E.bk au) (E.ownAt bx) E.rdA O bI) ?_;clear E;intro J E)|refine Pg ?_|((refine zS F F F ?_);refine zs ?_)|((refine du (v:=e.inst.val) (n:=5) F E F ?_ (hn:=ce F));(try refine zs ?_))|((first|refine aA ?_|(refine am ?_;clear E;intro Z J E));refine zs ?_)));go_roundw;case rel=>exact ⟨k+1,_,by omega,by go_num,by rw [<- al.out];exact E.drop 0⟩
    case measure=>exact zM
  .obtain rfl:k=n:=by omega
   obtain ⟨A2,c2,rfl,E⟩:=E.freeze 1 dD;(try simp only [zF] at E);go_wp2_with (((first|refine aA ?_|(refine am ?_;clear E;intro Z J E));refine zs ?_));go_ret;refine ⟨A2,c2,rfl,?_⟩;have E:=E.lessA [ab 1 A2 k c2 (aE (gh q k)),ab 17 A k c (ens q)];rw [show gh q k=zO q by rw [zO,ak]] at E;exact E.outA
def Pf (A n c i reg q w)(hr:Rd w w.heap.size 17 A n c (ens q))(hq:dp q)(hn:n<=1000)(hi:cQ i)(hg:cQ reg):Ca 176 #[.slice A n c,I i,I reg] w (RB w (.bool (oQ q i reg))):=by
 have E:=St.start w [ab 17 A n c (ens q)] (zC hr zN);have ak:=hr.enslen;have HM:=V (λW (h:Rd W W.heap.size 17 A n c (ens q))=>Ey A n c i reg q W h hi hg);unfold oQ;by_cases h0:0<=dM q i reg
 .obtain ⟨m1,m2⟩:=z9 h0
  obtain ⟨m,hm⟩:∃ m:Nat,dM q i reg=(m:Int):=⟨_,(Int.toNat_of_nonneg h0).symm⟩;rw [hm] at HM m1 m2 ⊢;have hv:(aE (zO q))[m * 1]?=some (I (rt q m)):=by rw [dP];exact pA (NF q (m:=q.length) (n:=m) O)
  rw [jt];obtain ⟨r,a0⟩:∃ r,rt q m=r:=⟨_,rfl⟩;rw [a0] at hv ⊢;have bi:m<n:=by omega
  clear hm h0 m1 m2;by_cases h1:0<=r
  .go_enter func176,ntmps176
   exact GH
  .go_enter func176,ntmps176
   exact GH
 .have h2:¬ (0<=dM q i reg):=h0
  rw [dg h0,si];generalize dM q i reg=m at *;have h1:m<0:=by omega
  go_enter func176,ntmps176;go_wp2_with ((first|(refine G9 ?_;clear E;intro J E)|(go_at_call 202;refine (J7 _ _ _ _ _ E.rdA hq hn).mono ?_;rintro x J ⟨A2,c2,rfl,H⟩;replace E:=E.call1A H;clear H)|((first|refine aA ?_|(refine am ?_;clear E;intro Z J E));refine zs ?_)));go_ret;exact ⟨rfl,E.bel⟩
end
section
open Go.RowKit Wd
section
variable {P:Program} {ops:Array Oper} {rest:List Oper} {o:Oper} {a:Act} {Q:Exit->Act->World->Prop}
def vj {w:World} {x y:Operand} {t t':TypeId} {p q r:Nat} (ho:o.op = .binOp .quo t x y t') (hx:ac a x=some (U (p:Int))) (hy:ac a y=some (U (q:Int))) (h:wpList P ops Q rest (a.put o.dst (U (r:Int))) w) (hr:Hid (p / q=r):=by assumption) (hp:p<4294967296:=by (first|assumption|omega)) (hq:0<q:=by (first|assumption|omega)) (hw:Region.wanted o (yielded ops a.tmps)=true:=by rfl):wpList P ops Q (o::rest) a w:=by
 refine cI hw λK X=>?_
 unfold Oper.wp;rw [ZK ho hx hy hp hq,hr.out];exact X _ _ h
end
def DE (sgn:Bool) (s x:Nat):Nat:=if sgn=true/\2147483648<=x then (4294967296 - s) % 4294967296 else s
def zx (g:Nat) (sgn:Bool) (s x:Nat) (w:World) (hg:w.cell? ⟨g,0,none⟩=some (.bool sgn)) (hs:s<4294967296) (hx:x<4294967296) :Ca 216 #[U (s:Int),U (x:Int),.pointer (some ⟨g,0,none⟩)] w λe w'=>e = .returned (U ((DE sgn s x:Nat):Int))/\w'=w:=by
 unfold DE;by_cases hn:2147483648<=x
 .have a7:=I4 hx hn
  cases sgn
  .rw [Y aF]
   go_enter func216,ntmps216;go_wp2;go_ret;exact ⟨rfl,rfl⟩
  .rw [aa ⟨rfl,hn⟩]
   go_enter func216,ntmps216;go_wp2;go_ret;exact ⟨dI (Cu hs),rfl⟩
 .have a7:=Ky hn
  rw [Y (by rintro ⟨_,h⟩;exact hn h)];clear hn;cases sgn
  all_goals
   go_enter func216,ntmps216;go_wp2;go_ret;exact ⟨rfl,rfl⟩
def N7 (op:Int) {s:Nat} (x:Nat) (hs:s<4294967296):lJ op s x<4294967296:=by unfold lJ;split <;> omega
def Vg (op:Int) {a b:Nat} (ha:a<4294967296) (hb:b<4294967296):eB op a b<4294967296:=by
 have h1:aR op a / aR op b<4294967296:=fJ (kK _ _) (ny ha);have h2:aR op a % aR op b<4294967296:=fJ (qV _ _) (ny ha);unfold eB
 repeat' split
 all_goals first|omega|exact N7 _ _ h1|exact N7 _ _ h2
def yc {op b}(hb:b<4294967296)(h0:b≠0):0<aR op b:=by unfold aR;split <;> omega
def AF {op sgn}(h:jC op=sgn)(s x):DE sgn s x=lJ op s x:=by
 subst h;rfl
def Qb (a:Nat) (w:World) (ha:a<4294967296) :Ca 207 #[I 42,U (a:Int),U 0] w (RB w (U (eB 42 a 0:Int))):=by
 go_enter func207,ntmps207;go_wp2;go_ret;exact ⟨rfl,af.alloc _ _⟩
def Px (a b:Nat) (w:World) (ha:a<4294967296) (hb:b<4294967296) (h0:¬ (b:Int)=0) :Ca 207 #[I 42,U (a:Int),U (b:Int)] w (RB w (U (eB 42 a b:Int))):=by
 have E:=St.start w [] zN;have hb0:b≠0:=by omega
 have hsa:aR 42 a<4294967296:=ny ha;have hsb:aR 42 b<4294967296:=ny hb;have aD:0<aR 42 b:=yc hb hb0;have hx:=u32_xor_nat a b ha hb;have aH:a ^^^ b<4294967296:=sH (n:=32) ha hb;obtain ⟨q,z⟩:∃ q,aR 42 a / aR 42 b=q:=⟨_,rfl⟩;obtain ⟨r,C⟩:∃ r,aR 42 a % aR 42 b=r:=⟨_,rfl⟩;have ak:q<4294967296:=by rw [<- z];exact fJ (kK _ _) hsa
 have hrl:r<4294967296:=by rw [<- C];exact fJ (qV _ _) hsa
 have hD:=V (show eB 42 a b=lJ 42 q (a ^^^ b) from by unfold eB;simp [hb0,z,C]);have hq:=V z;have hr:=V C;clear z C;go_enter func207,ntmps207;go_wp2_with ((first|(go_at_call 210;refine (sp _ _ _ bI).mono ?_;rintro e J ⟨rfl,rfl⟩)|((refine vj rfl rfl rfl ?_);refine zs ?_)|((refine jn F F F ?_);refine zs ?_)|(go_at_call 216;refine (zx _ true _ _ _ ((E.bkAt aC).cell 0) bI bI).mono ?_;rintro e J ⟨rfl,rfl⟩)|((first|refine aA ?_|(refine am ?_;clear E;intro Z J E));refine zs ?_)));go_ret;refine ⟨dI ?_,E.bel⟩;rw [AF (op:=42) (sgn:=true) F,hD.out]
def h5l (a:Nat) (w:World) (ha:a<4294967296) :Ca 207 #[I 43,U (a:Int),U 0] w (RB w (U (eB 43 a 0:Int))):=by
 go_enter func207,ntmps207;go_wp2;go_ret;exact ⟨rfl,af.alloc _ _⟩
def Rp (a b:Nat) (w:World) (ha:a<4294967296) (hb:b<4294967296) (h0:¬ (b:Int)=0) :Ca 207 #[I 43,U (a:Int),U (b:Int)] w (RB w (U (eB 43 a b:Int))):=by
 have E:=St.start w [] zN;have hb0:b≠0:=by omega
 have hsa:aR 43 a<4294967296:=ny ha;have hsb:aR 43 b<4294967296:=ny hb;have aD:0<aR 43 b:=yc hb hb0;have hx:=u32_xor_nat a b ha hb;have aH:a ^^^ b<4294967296:=sH (n:=32) ha hb;obtain ⟨q,z⟩:∃ q,aR 43 a / aR 43 b=q:=⟨_,rfl⟩;obtain ⟨r,C⟩:∃ r,aR 43 a % aR 43 b=r:=⟨_,rfl⟩;have ak:q<4294967296:=by rw [<- z];exact fJ (kK _ _) hsa
 have hrl:r<4294967296:=by rw [<- C];exact fJ (qV _ _) hsa
 have hD:=V (show eB 43 a b=lJ 43 q (a ^^^ b) from by unfold eB;simp [hb0,z,C]);have hq:=V z;have hr:=V C;clear z C;go_enter func207,ntmps207;go_wp2_with ((first|(go_at_call 210;refine (sp _ _ _ bI).mono ?_;rintro e J ⟨rfl,rfl⟩)|((refine vj rfl rfl rfl ?_);refine zs ?_)|((refine jn F F F ?_);refine zs ?_)|(go_at_call 216;refine (zx _ false _ _ _ ((E.bkAt aC).cell 0) bI bI).mono ?_;rintro e J ⟨rfl,rfl⟩)|((first|refine aA ?_|(refine am ?_;clear E;intro Z J E));refine zs ?_)));go_ret;refine ⟨dI ?_,E.bel⟩;rw [AF (op:=43) (sgn:=false) F,hD.out]
def WM (a:Nat) (w:World) (ha:a<4294967296) :Ca 207 #[I 44,U (a:Int),U 0] w (RB w (U (eB 44 a 0:Int))):=by
 go_enter func207,ntmps207;go_wp2;go_ret;exact ⟨rfl,af.alloc _ _⟩
def Yq (a b:Nat) (w:World) (ha:a<4294967296) (hb:b<4294967296) (h0:¬ (b:Int)=0) :Ca 207 #[I 44,U (a:Int),U (b:Int)] w (RB w (U (eB 44 a b:Int))):=by
 have E:=St.start w [] zN;have hb0:b≠0:=by omega
 have hsa:aR 44 a<4294967296:=ny ha;have hsb:aR 44 b<4294967296:=ny hb;have aD:0<aR 44 b:=yc hb hb0;have hx:=u32_xor_nat a b ha hb;have aH:a ^^^ b<4294967296:=sH (n:=32) ha hb;obtain ⟨q,z⟩:∃ q,aR 44 a / aR 44 b=q:=⟨_,rfl⟩;obtain ⟨r,C⟩:∃ r,aR 44 a % aR 44 b=r:=⟨_,rfl⟩;have ak:q<4294967296:=by rw [<- z];exact fJ (kK _ _) hsa
 have hrl:r<4294967296:=by rw [<- C];exact fJ (qV _ _) hsa
 have hD:=V (show eB 44 a b=lJ 44 r (a) from by unfold eB;simp [hb0,z,C]);have hq:=V z;have hr:=V C;clear z C;go_enter func207,ntmps207;go_wp2_with ((first|(go_at_call 210;refine (sp _ _ _ bI).mono ?_;rintro e J ⟨rfl,rfl⟩)|((refine vj rfl rfl rfl ?_);refine zs ?_)|((refine jn F F F ?_);refine zs ?_)|(go_at_call 216;refine (zx _ true _ _ _ ((E.bkAt aC).cell 0) bI bI).mono ?_;rintro e J ⟨rfl,rfl⟩)|((first|refine aA ?_|(refine am ?_;clear E;intro Z J E));refine zs ?_)));go_ret;refine ⟨dI ?_,E.bel⟩;rw [AF (op:=44) (sgn:=true) F,hD.out]
def h5p (a:Nat) (w:World) (ha:a<4294967296) :Ca 207 #[I 45,U (a:Int),U 0] w (RB w (U (eB 45 a 0:Int))):=by
 go_enter func207,ntmps207;go_wp2;go_ret;exact ⟨rfl,af.alloc _ _⟩
def h5q (a b:Nat) (w:World) (ha:a<4294967296) (hb:b<4294967296) (h0:¬ (b:Int)=0) :Ca 207 #[I 45,U (a:Int),U (b:Int)] w (RB w (U (eB 45 a b:Int))):=by
 have E:=St.start w [] zN;have hb0:b≠0:=by omega
 have hsa:aR 45 a<4294967296:=ny ha;have hsb:aR 45 b<4294967296:=ny hb;have aD:0<aR 45 b:=yc hb hb0;have hx:=u32_xor_nat a b ha hb;have aH:a ^^^ b<4294967296:=sH (n:=32) ha hb;obtain ⟨q,z⟩:∃ q,aR 45 a / aR 45 b=q:=⟨_,rfl⟩;obtain ⟨r,C⟩:∃ r,aR 45 a % aR 45 b=r:=⟨_,rfl⟩;have ak:q<4294967296:=by rw [<- z];exact fJ (kK _ _) hsa
 have hrl:r<4294967296:=by rw [<- C];exact fJ (qV _ _) hsa
 have hD:=V (show eB 45 a b=lJ 45 r (a) from by unfold eB;simp [hb0,z,C]);have hq:=V z;have hr:=V C;clear z C;go_enter func207,ntmps207;go_wp2_with ((first|(go_at_call 210;refine (sp _ _ _ bI).mono ?_;rintro e J ⟨rfl,rfl⟩)|((refine vj rfl rfl rfl ?_);refine zs ?_)|((refine jn F F F ?_);refine zs ?_)|(go_at_call 216;refine (zx _ false _ _ _ ((E.bkAt aC).cell 0) bI bI).mono ?_;rintro e J ⟨rfl,rfl⟩)|((first|refine aA ?_|(refine am ?_;clear E;intro Z J E));refine zs ?_)));go_ret;refine ⟨dI ?_,E.bel⟩;rw [AF (op:=45) (sgn:=false) F,hD.out]
end
end Go.Proofs.YtgnomadgnciifaaGreatDoor
