/- . -/
import Derived.Test.YtgnomadgnciifaaGreatDoorE3
set_option linter.all false
set_option maxRecDepth 100000
set_option maxHeartbeats 16000000
namespace Go.Proofs.YtgnomadgnciifaaGreatDoor
variable {p:Prop}
open Go.Proofs.Tryz
def st_re {w0 w D0 D M M'}(h:St w0 D0 w M D)(e:M=M'):St w0 D0 w M' D:=e ▸ h
def BL (h:p:=by
 clear F1 F2 F3 F4 F5 F6 F7 F8;go_wp2_with ((try refine zs ?_);(first|go_big_skip|(first|(go_at_call 95;refine E.cB (ds.out _) ?_;clear E;intro J E)|(go_at_call 96;refine (dt.out _).mono ?_;rintro x J ⟨rfl,rfl⟩)|(go_at_call 97;refine E.cB (bq.out _) ?_;clear E;intro J E)|(go_at_call 91;refine E.cB (bi.out _) ?_;clear E;intro J E)|(go_at_call 102;refine E.cB (jT.out _) ?_;clear E;intro J E)|(go_at_call 101;refine E.cB (dx.out _) ?_;clear E;intro J E)|(go_at_call 98;refine E.cB (rU.out _) ?_;clear E;intro J E)|(go_at_call 99;refine E.cB (gG.out _) ?_;clear E;intro J E)|(go_at_call 100;refine E.cB (gL.out _) ?_;clear E;intro J E)|(go_at_call 103;refine E.cB (dH.out _) ?_;clear E;intro J E)|(go_at_call 104;refine (fZ.out _).mono ?_;rintro x J ⟨rfl,rfl⟩))|((refine pv rfl rfl ?_);refine zs ?_)|((refine ko F F F ?_);refine zs ?_)|((refine jn (q:=4) F F F ?_ (hr:=by with_reducible assumption));(try refine zs ?_))|((first|refine fM F F F ?_|refine dU F F F ?_);(try refine zs ?_))|((refine sO (k:=k) F F F underlying29 aj ?_ (ik:=bx));(try refine zs ?_))|((refine cV (cs:=aX (⟨pc,regs,mem,0⟩:Sq)) (v:=.agg (aX (⟨pc,regs,mem,0⟩:Sq)).toArray) F E F ?_);refine zs ?_)|((refine bP F E F ?_);refine zs ?_)|((refine cV F E F ?_);refine zs ?_)|(refine bK (ty:=48) (cs:=lj) F E ?_;clear E;intro gO J E;(try refine zs ?_))|(refine aW (us:=aX (⟨pc,regs,mem,0⟩:Sq)) F E F F ?_ (h1:=λu hu=>.inl (lw _ u hu));clear E;intro J E;(try simp only [zF] at E);refine zs ?_)|(refine aW (us:=aX (dE (⟨pc,regs,mem,0⟩:Sq) U')) F E F F ?_ (h1:=λu hu=>.inl (lw _ u hu));clear E;intro J E;(try simp only [zF] at E);refine zs ?_)|(refine aW (us:=Stp.cells U') F E F F ?_ (h1:=λu hu=>.inl (Stp.one _ u hu));clear E;intro J E;(try simp only [zF] at E);refine zs ?_)|(refine bz F E F F ?_ (iv:=by rw [z8];omega);clear E;intro J E;(try simp only [zF] at E);(first|rw [CJ] at E|rw [CF] at E|rw [Ev bx hln] at E);dsimp only at E;(try refine zs ?_))|((refine bz F E F F ?_;clear E;intro J E;(try simp only [zF] at E));refine zs ?_)));have ic:=st_re E (M':=[.blk gO 48 (aX (dE (⟨pc,regs,mem,0⟩:Sq) U')),.blk gX 57 (Stp.cells U'),.blk Z 52 [I op,I rd,I (r1:Int),I (r2:Int),U (imm:Int)],.blk gT 57 [U 0,U 0,I 0,U 0,U 0,I 0,.bool false,I 0,I 0],.blk gR 48 lj,.blk gK 48 (aX (⟨pc,regs,mem,0⟩:Sq))]) (by first|(rw [HX.out,hD.out];done)|(rw [HX.out,hD.out];rfl));clear E;have E:=ic;clear ic;refine bA aj E [.blk _ 48 (aX (dE (⟨pc,regs,mem,0⟩:Sq) U')),.blk _ 57 (Stp.cells U')] [] cM cM ?_;clear E;intro E H;refine cX 0 H ?_;refine cX 1 H ?_;refine aB 2 (λK X=>?_);go_wp2_with ((refine aW (us:=aX (dE (⟨pc,regs,mem,0⟩:Sq) U')) F E F F ?_ (h1:=λu hu=>.inl (lw _ u hu));clear E;intro J E;(try simp only [zF] at E);refine zs ?_));have H:=aO H E;refine X.out _ _ H ?_;clear X;refine zs ?_;refine aB 3 (λK X=>?_);go_wp2_with ((refine aW (us:=Stp.cells U') F E F F ?_ (h1:=λu hu=>.inl (Stp.one _ u hu));clear E;intro J E;(try simp only [zF] at E);refine zs ?_));have H:=aO H E;refine X.out _ _ H ?_;clear X;refine zs ?_;refine bt ?_
 (go_wp2;((try simp only [Exit.inBlock,Exit.then]);refine bc (sX F E) F ?_);exact ⟨rfl,E.bel⟩)):=h
def B9 (h:p:=by
 replace bi:=V bi;clear HX hD;clear F1 F2 F3 F4 F5 F6 F7 F8;go_wp2_with ((try refine zs ?_);(first|go_big_skip|(first|(go_at_call 95;refine E.cB (ds.out _) ?_;clear E;intro J E)|(go_at_call 96;refine (dt.out _).mono ?_;rintro x J ⟨rfl,rfl⟩)|(go_at_call 97;refine E.cB (bq.out _) ?_;clear E;intro J E)|(go_at_call 91;refine E.cB (bi.out _) ?_;clear E;intro J E)|(go_at_call 102;refine E.cB (jT.out _) ?_;clear E;intro J E)|(go_at_call 101;refine E.cB (dx.out _) ?_;clear E;intro J E)|(go_at_call 98;refine E.cB (rU.out _) ?_;clear E;intro J E)|(go_at_call 99;refine E.cB (gG.out _) ?_;clear E;intro J E)|(go_at_call 100;refine E.cB (gL.out _) ?_;clear E;intro J E)|(go_at_call 103;refine E.cB (dH.out _) ?_;clear E;intro J E)|(go_at_call 104;refine (fZ.out _).mono ?_;rintro x J ⟨rfl,rfl⟩))|((refine pv rfl rfl ?_);refine zs ?_)|((refine ko F F F ?_);refine zs ?_)|((refine jn (q:=4) F F F ?_ (hr:=by with_reducible assumption));(try refine zs ?_))|((first|refine fM F F F ?_|refine dU F F F ?_);(try refine zs ?_))|((refine sO (k:=k) F F F underlying29 aj ?_ (ik:=bx));(try refine zs ?_))|((refine cV (cs:=aX (⟨pc,regs,mem,0⟩:Sq)) (v:=.agg (aX (⟨pc,regs,mem,0⟩:Sq)).toArray) F E F ?_);refine zs ?_)|((refine bP F E F ?_);refine zs ?_)|((refine cV F E F ?_);refine zs ?_)|(refine bK (ty:=48) (cs:=lj) F E ?_;clear E;intro gO J E;(try refine zs ?_))|(refine aW (us:=aX (⟨pc,regs,mem,0⟩:Sq)) F E F F ?_ (h1:=λu hu=>.inl (lw _ u hu));clear E;intro J E;(try simp only [zF] at E);refine zs ?_)|(refine aW (us:=aX (dE (⟨pc,regs,mem,0⟩:Sq) U')) F E F F ?_ (h1:=λu hu=>.inl (lw _ u hu));clear E;intro J E;(try simp only [zF] at E);refine zs ?_)|(refine aW (us:=Stp.cells U') F E F F ?_ (h1:=λu hu=>.inl (Stp.one _ u hu));clear E;intro J E;(try simp only [zF] at E);refine zs ?_)|(refine bz F E F F ?_ (iv:=by rw [z8];omega);clear E;intro J E;(try simp only [zF] at E);(first|rw [CJ] at E|rw [CF] at E|rw [Ev bx hln] at E);dsimp only at E;(try refine zs ?_))|((refine bz F E F F ?_;clear E;intro J E;(try simp only [zF] at E));refine zs ?_)));((try simp only [Exit.inBlock,Exit.then]);refine bc (sX F E) F ?_)
 exact ⟨rfl,E.bel⟩):=h
def JE (h:p:=by
 refine aB 9 (λK X=>?_);go_wp2_with ((first|(refine bz F E F F ?_;clear E;intro J E;(try simp only [zF] at E))|(refine aW F E F F ?_;clear E;intro J E;(try simp only [zF] at E))|(refine ju F E F F ?_;clear E;intro J E;(try simp only [zF] at E)));(try refine zs ?_));have H:=aO H E;refine X.out _ _ H ?_;clear X;refine zs ?_;refine bt ?_
 (go_wp2;go_meet;exact ⟨_,rfl,by rw [show (n4:Int)=IntKind.u32.wrap ((pc:Int)+4) from by rw [IntKind.wrap_u32',<- fW.out];unfold ay;omega];exact E⟩)):=h
def yB (h:p:=by
 have c0:=V (show decide ((0:Int)<(k:Int))=false from dg O);clear be
 exact BL):=h
def z6 (h:p:=by
 have c0:=V (show decide ((0:Int)<(k:Int))=true from cU O);clear be
 exact BL):=h
section
open Go.RowKit Wd
def YJ {w:Nat} {i:Ins} (h:df w=some i):0<=i.rd/\i.rd<=31:=by
 unfold df at h;split at h
 .injection h with h
  subst h;exact Ej (Bj _ _)
 .cases h
def TE {i:Ins} (h:0<=i.rd/\i.rd<=31):∃ k:Nat,bp i=(k:Int)/\k<32:=by
 unfold bp;split
 .exact ⟨i.rd.toNat,by omega,by omega⟩
 .exact ⟨0,rfl,by omega⟩
def SU {i:Ins} (h:ae i.op=4):bp i=0:=by
 have h2:16<=i.op/\i.op<=18:=by
  unfold ae at h;(repeat' split at h) <;> omega
 unfold bp hZ;rw [Y eX]
def j6u {i:Ins} (h:ae i.op=3\/ae i.op=4):aU i.op=1\/aU i.op=2\/aU i.op=4:=by
 have h2:11<=i.op/\i.op<=18:=by
  unfold ae at h;(repeat' split at h) <;> omega
 unfold aU;(repeat' split) <;> omega
def zX {s:Sq} {k nx ad:Nat} {sz tk:Int} (h:k=0):dE s ⟨s.pc,nx,(k:Int),0,ad,sz,false,0,tk⟩=⟨nx,s.regs,s.mem,0⟩:=by
 subst h;rw [KY F F ⟨by dsimp only;omega,by dsimp only;omega⟩];rfl
def Ad {s:Sq} {k nx v ad:Nat} {sz tk:Int} (h:¬ k=0) (hk:k<32):dE s ⟨s.pc,nx,(k:Int),v,ad,sz,false,0,tk⟩=⟨nx,s.regs.set k v,s.mem,0⟩:=by
 rw [KY F F ⟨by dsimp only;omega,by dsimp only;omega⟩];dsimp only;rw [aa O,jt]
def j6v {s:Sq} {b:ByteArray} {nx v ad:Nat} {sz:Int} (h4:sz=1\/sz=2\/sz=4) (hb:fU v sz=b) (ho:ad+b.size<=s.mem.size) (h0:0<b.size):dE s ⟨s.pc,nx,0,v,ad,sz,true,0,0⟩=⟨nx,s.regs,Me.writeS s.mem ad b,0⟩:=by
 rw [YI F F F h4];dsimp only;rw [hb,XY ho h0]
def Kh {n a:Nat} {k:Int} (w:World) (hn:n<=9223372036854775807) (ha:a<4294967296) (hk : I6 k):Ca 97 #[I (n:Int),U (a:Int),I k] w (RB w (.bool (dc n a k))):=(Me.refMemRight_any n a k w hn ha hk).mono λe w' h=>by obtain ⟨h1,d,rfl⟩:=h;exact ⟨h1,af.drewN _ d⟩
def j6w {m:ByteArray} {a:Nat} {k:Int} (w:World) (hn:m.size<=9223372036854775807) (ha:a<4294967296) (hk:k=1\/k=2\/k=4) (h:dc m.size a k=true):Ca 102 #[.string m,U (a:Int),I k] w (RB w (.string (fT m a k))):=by
 obtain ⟨j,rfl⟩:=jS (show 0<=k by omega);have:=Me.refRead_yes m a j w hn ha O h;rw [show fT m a (j:Int)=m.extract a (a+j) by unfold fT;rw [aa h,jt]];exact this.mono λe w' h=>by obtain ⟨h1,d,rfl⟩:=h;exact ⟨h1,af.drewN _ d⟩
def j6x {m:ByteArray} {a:Nat} {k:Int} (h:m.size<=256):(fT m a k).size<=maxLen:=by
 unfold fT maxLen;split
 .rw [wX];omega
 .exact mB _
section
variable {A:Option Addr} {n c:Nat} {prog:List Nat} {pc:Nat} {regs:List Nat} {mem:ByteArray}
def j6y (hk:kq (⟨pc,regs,mem,0⟩:Sq)) (hn:n<=1000000) (bb:∀ z∈prog,z<4294967296) (w:World) (hr:Rd w w.heap.size 1 A n c (ai prog)) {x r1 r2:Nat} {op rd:Int} {imm:Nat} (hf:eE prog pc=some x) (hd:df x=some (⟨op,rd,(r1:Int),(r2:Int),imm⟩:Ins)) (d1:r1<32) (d2:r2<32) (bk:op≠47) (bm:op≠48):Ca 41 #[.slice A n c,.agg (aX (⟨pc,regs,mem,0⟩:Sq)).toArray] w (nn w (⟨pc,regs,mem,0⟩:Sq) (cx prog (⟨pc,regs,mem,0⟩:Sq))):=by
 have E:=St.start w [ab 1 A n c (ai prog)] (zC hr zN);have hx:=bb x (yg hf);have iO:=V (λ(W:World) (h:Rd W W.heap.size 1 A n c (ai prog))=>show Ca 90 #[.slice A n c,U (pc:Int)] W (RB W (.tuple #[U (x:Int),.bool true])) from by have:=wI A n c prog pc W h hk.pc hn;rw [hf] at this;exact this);have dz:=V (λ(W:World)=>show Ca 92 #[U (x:Int)] W (RB W (.tuple #[.agg #[I op,I rd,I r1,I r2,U (imm:Int)],I 0])) from by have:=yF x hx W;rw [hd] at this;exact this);have c47:(op == 47)=false:=by simpa using bk
 have c48:(op == 48)=false:=by simpa using bm
 obtain ⟨a,ha⟩:∃ a,regs[r1]?.getD 0=a:=⟨_,rfl⟩;obtain ⟨b,hb⟩:∃ a,regs[r2]?.getD 0=a:=⟨_,rfl⟩;have q1:(aX (⟨pc,regs,mem,0⟩:Sq))[1+r1]?=some (U (a:Int)):=by rw [Nj d1,<- ha]
 have q2:(aX (⟨pc,regs,mem,0⟩:Sq))[1+r2]?=some (U (b:Int)):=by rw [Nj d2,<- hb]
 have hva:bV regs (r1:Int)=a:=by unfold bV;rw [jt];exact ha
 have hvb:bV regs (r2:Int)=b:=by unfold bV;rw [jt];exact hb
 have hal:a<4294967296:=by rw [<- hva];exact AA hk.reg _
 have hbl:b<4294967296:=by rw [<- hvb];exact AA hk.reg _
 have hpc:pc<4294967296:=hk.pc;have hln:regs.length=32:=hk.len;have iq:imm<4294967296:=(uP hd).1.2.2.2.2;have nS:mem.size<=256:=hk.mem;have nV : I6 op:=(uP hd).1.1;obtain ⟨k,it,bx⟩:=TE (YJ hd);have a0:=λW=>yk op W
 have es:=V (λW=>show Ca 94 #[.agg #[I op,I rd,I r1,I r2,U (imm:Int)]] W (RB W (I (k:Int))) from by have:=Sv (⟨op,rd,(r1:Int),(r2:Int),imm⟩:Ins) W;rw [it] at this;exact this);have ds:=λW=>show Ca 95 #[.agg #[I op,I rd,I r1,I r2,U (imm:Int)],U (pc:Int),U (a:Int),U (b:Int)] W (RB W (U ((jw (⟨op,rd,(r1:Int),(r2:Int),imm⟩:Ins) pc a b:Nat):Int))) from j5f (⟨op,rd,(r1:Int),(r2:Int),imm⟩:Ins) pc a b hpc hal hbl iq W
 have dH:=λW=>show Ca 103 #[.agg #[I op,I rd,I r1,I r2,U (imm:Int)],U (pc:Int),U (a:Int),U (b:Int)] W (RB W (U ((gH (⟨op,rd,(r1:Int),(r2:Int),imm⟩:Ins) pc a b:Nat):Int))) from TT (⟨op,rd,(r1:Int),(r2:Int),imm⟩:Ins) pc a b hpc hal hbl iq W
 have fZ:=λW=>YR op a b hal hbl W
 have dt:=λW=>K7 op W
 have hnl:gH (⟨op,rd,(r1:Int),(r2:Int),imm⟩:Ins) pc a b<4294967296:=uV _ _ _ _;have fL:ay a imm<4294967296:=iU a imm;have hsz:=j6u (i:=(⟨op,rd,(r1:Int),(r2:Int),imm⟩:Ins));have F1:=UZ (s:=(⟨pc,regs,mem,0⟩:Sq)) (i:=(⟨op,rd,(r1:Int),(r2:Int),imm⟩:Ins));have F2:=W5 (s:=(⟨pc,regs,mem,0⟩:Sq)) (i:=(⟨op,rd,(r1:Int),(r2:Int),imm⟩:Ins));have F3:=Ut (s:=(⟨pc,regs,mem,0⟩:Sq)) (i:=(⟨op,rd,(r1:Int),(r2:Int),imm⟩:Ins));have F4:=Ub (s:=(⟨pc,regs,mem,0⟩:Sq)) (i:=(⟨op,rd,(r1:Int),(r2:Int),imm⟩:Ins));have F5:=YQ (s:=(⟨pc,regs,mem,0⟩:Sq)) (i:=(⟨op,rd,(r1:Int),(r2:Int),imm⟩:Ins));have F6:=j6f (s:=(⟨pc,regs,mem,0⟩:Sq)) (i:=(⟨op,rd,(r1:Int),(r2:Int),imm⟩:Ins));have F7:=O1 (s:=(⟨pc,regs,mem,0⟩:Sq)) (i:=(⟨op,rd,(r1:Int),(r2:Int),imm⟩:Ins));have F8:=SU (i:=(⟨op,rd,(r1:Int),(r2:Int),imm⟩:Ins));rw [it] at F2 F4 F6 F7 F8;dsimp only at F1 F2 F3 F4 F5 F6 F7 F8 hsz;rw [hva] at F1 F2 F3 F4 F5 F6 F7;rw [hvb] at F4 F5 F6 F7;rw [show cx prog (⟨pc,regs,mem,0⟩:Sq)=gk (⟨pc,regs,mem,0⟩:Sq) (⟨op,rd,(r1:Int),(r2:Int),imm⟩:Ins) from VV hf hd bk bm];obtain ⟨U',G⟩:∃ U',gk (⟨pc,regs,mem,0⟩:Sq) (⟨op,rd,(r1:Int),(r2:Int),imm⟩:Ins)=U':=⟨_,rfl⟩;rw [G] at F1 F2 F3 F4 F5 F6 F7 ⊢;obtain ⟨v,hv⟩:∃ v,jw (⟨op,rd,(r1:Int),(r2:Int),imm⟩:Ins) pc a b=v:=⟨_,rfl⟩;obtain ⟨nx,kw⟩:∃ v,gH (⟨op,rd,(r1:Int),(r2:Int),imm⟩:Ins) pc a b=v:=⟨_,rfl⟩;obtain ⟨tk,mi⟩:∃ v,eJ op a b=v:=⟨_,rfl⟩;obtain ⟨ad,i6⟩:∃ v,ay a imm=v:=⟨_,rfl⟩;obtain ⟨sz,kx⟩:∃ v,aU op=v:=⟨_,rfl⟩;obtain ⟨kd,kJ⟩:∃ v,ae op=v:=⟨_,rfl⟩;obtain ⟨n4,fW⟩:∃ v,ay pc 4=v:=⟨_,rfl⟩;rw [hv] at F6 F7 ds;rw [kw] at F5 F6 dH hnl;rw [mi] at F7 fZ;rw [i6] at F1 F2 F3 F4 fL;rw [kx] at F1 F2 F3 F4 hsz dt;rw [kJ] at F1 F2 F3 F4 F5 F6 F7 F8 hsz a0;rw [fW] at F2 F4 F7;replace a0:=V a0;replace ds:=V ds;replace dH:=V dH;replace fZ:=V fZ;replace dt:=V dt;replace F1:=V F1;replace F2:=V F2;replace F3:=V F3;replace F4:=V F4;replace F5:=V F5;replace F6:=V F6;replace F7:=V F7;replace F8:=V F8;replace hsz:=V hsz;replace i6:=V i6;replace fW:=V fW;unfold nn;clear hr bb hn hd hf bk bm ha hb hva hvb it G hv kw mi kx kJ hx hk;go_enter func41,ntmps41;go_upto_region 16 with ((try refine zs ?_);(first|go_big_skip|(go_at_call 90;refine E.cB (iO.out _ E.rdA) ?_;clear E;intro J E)|(go_at_call 92;refine E.cB (dz.out _) ?_;clear E;intro J E)|(go_at_call 93;refine (a0.out _).mono ?_;rintro x J ⟨rfl,rfl⟩)|((refine pv rfl rfl ?_);refine zs ?_)|((refine sO (k:=r1) F F F underlying29 aj ?_ (ik:=d1));(try refine zs ?_))|((refine sO (k:=r2) F F F underlying29 aj ?_ (ik:=d2));(try refine zs ?_))|((refine bP (v:=U (a:Int)) (hv:=q1) F E F ?_);refine zs ?_)|((refine bP (v:=U (b:Int)) (hv:=q2) F E F ?_);refine zs ?_)|((refine gj (cs:=aX (⟨pc,regs,mem,0⟩:Sq)) F E F ?_);clear E;intro gK J E;(try refine zs ?_))|(refine bK (ty:=48) (cs:=lj) F E ?_;clear E;intro gR J E;(try refine zs ?_))|((refine bK F E ?_;clear E;intro Z J E);refine zs ?_)|((refine bP F E F ?_);refine zs ?_)|((refine cV F E F ?_);refine zs ?_)|((refine aW F E F F ?_;clear E;intro J E;(try simp only [zF] at E));refine zs ?_)));rename_i gT w1 w2 w3 w4 K1 iV;go_cut [13] (λp wx=>∃ gX,p = .pointer (some ⟨gX,0,none⟩)/\St w [ab 1 A n c (ai prog)] wx [.blk gX 57 [U (pc:Int),U (n4:Int),I (k:Int),U 0,U 0,I 0,.bool false,I 0,I 0],.blk Z 52 [I op,I rd,I (r1:Int),I (r2:Int),U (imm:Int)],.blk gT 57 [U 0,U 0,I 0,U 0,U 0,I 0,.bool false,I 0,I 0],.blk gR 48 lj,.blk gK 48 (aX (⟨pc,regs,mem,0⟩:Sq))] [ab 1 A n c (ai prog)]);case first=>
  refine bA aj E [.blk _ 52 [I op,I rd,I (r1:Int),I (r2:Int),U (imm:Int)],.blk _ 48 (aX (⟨pc,regs,mem,0⟩:Sq))] [] cM cM ?_;clear E;intro E H;refine az 0 H ?_;refine cX 1 H ?_;refine az 2 H ?_;refine cX 3 H ?_
  first|(refine eu (i:=4) F (rL F F F) H ?_;refine zs ?_)|(refine eu (i:=4) F (sb F F F) H ?_;refine zs ?_)|refine zp 4 H ?_
  refine cX 5 H ?_;refine wpAnyH_ready (rs:=[6,8]) aj aF (dK F (λK X=>?_) (dK F (λK X=>?_) AllReadyH.nil))
  .go_wp2_with (first|(go_at_call 94;refine E.cB (es.out _) ?_;clear E;intro J E))
   have H:=aO H E;refine X.out _ _ H ?_;clear X;refine zs ?_;(refine th (i:=7) (v:=?_) F F aj aj aj (λ_ _ _ h=>h) ?_ H ?_;rotate_left;(first|exact nJ kH ax|(refine cg ax ?_;intro w;go_simp;done)|(refine cg ax ?_;intro w;go_simp;with_reducible rfl)|(refine cg ax ?_;intro w;simp only [Wy.cells];go_simp;with_reducible rfl));(try refine zs ?_));refine aB 8 (λK X=>?_);go_wp2_with ((refine bK F E ?_;clear E;intro Z J E);refine zs ?_);have H:=aO H E;refine X.out _ _ H ?_;clear X;refine zs ?_;exact JE
  .go_wp2_with ((refine bK F E ?_;clear E;intro Z J E);refine zs ?_)
   have H:=aO H E;refine X.out _ _ H ?_;clear X;refine zs ?_;refine aB 6 (λK X=>?_);go_wp2_with (first|(go_at_call 94;refine E.cB (es.out _) ?_;clear E;intro J E));have H:=aO H E;refine X.out _ _ H ?_;clear X;refine zs ?_;(refine th (i:=7) (v:=?_) F F aj aj aj (λ_ _ _ h=>h) ?_ H ?_;rotate_left;(first|exact nJ kH ax|(refine cg ax ?_;intro w;go_simp;done)|(refine cg ax ?_;intro w;go_simp;with_reducible rfl)|(refine cg ax ?_;intro w;simp only [Wy.cells];go_simp;with_reducible rfl));(try refine zs ?_));exact JE
 case rest=>
  obtain ⟨gX,rfl,E⟩:=hcut;refine iV _ _ ?_;clear iV iO dz a0 es;by_cases k3:kd=3
  .subst k3
   have de:=hsz.out (.inl F);have dn : I6 sz:=by omega
   have bq:=λW=>Kh (n:=mem.size) (a:=ad) (k:=sz) W O fL dn
   by_cases hg:dc mem.size ad sz=true
   .as_aux_lemma=>
    have jT:=V (λW=>j6w (m:=mem) (a:=ad) (k:=sz) W O fL de hg);obtain ⟨by1,gF⟩:∃ x,fT mem ad sz=x:=⟨_,rfl⟩;obtain ⟨lv,cP⟩:∃ x,iI op by1=x:=⟨_,rfl⟩;have cd:by1.size<=maxLen:=by rw [<- gF];exact j6x O
    have dx:=V (λW=>show Ca 101 #[I op,.string by1] W (RB W (U (lv:Int))) from cP ▸ OZ op by1 W cd);have bd:=F2.out F hg;rw [gF,cP] at bd;rw [gF] at jT;rw [hg] at bq;replace bq:=V bq;replace bd:=V bd;clear gF cP hg de dn cd;go_upto_region 34 with ((try refine zs ?_);(first|go_big_skip|(first|(go_at_call 95;refine E.cB (ds.out _) ?_;clear E;intro J E)|(go_at_call 96;refine (dt.out _).mono ?_;rintro x J ⟨rfl,rfl⟩)|(go_at_call 97;refine E.cB (bq.out _) ?_;clear E;intro J E)|(go_at_call 91;refine E.cB (bi.out _) ?_;clear E;intro J E)|(go_at_call 102;refine E.cB (jT.out _) ?_;clear E;intro J E)|(go_at_call 101;refine E.cB (dx.out _) ?_;clear E;intro J E)|(go_at_call 98;refine E.cB (rU.out _) ?_;clear E;intro J E)|(go_at_call 99;refine E.cB (gG.out _) ?_;clear E;intro J E)|(go_at_call 100;refine E.cB (gL.out _) ?_;clear E;intro J E)|(go_at_call 103;refine E.cB (dH.out _) ?_;clear E;intro J E)|(go_at_call 104;refine (fZ.out _).mono ?_;rintro x J ⟨rfl,rfl⟩))|((refine pv rfl rfl ?_);refine zs ?_)|((refine ko F F F ?_);refine zs ?_)|((refine jn (q:=4) F F F ?_ (hr:=by with_reducible assumption));(try refine zs ?_))|((first|refine fM F F F ?_|refine dU F F F ?_);(try refine zs ?_))|((refine sO (k:=k) F F F underlying29 aj ?_ (ik:=bx));(try refine zs ?_))|((refine cV (cs:=aX (⟨pc,regs,mem,0⟩:Sq)) (v:=.agg (aX (⟨pc,regs,mem,0⟩:Sq)).toArray) F E F ?_);refine zs ?_)|((refine bP F E F ?_);refine zs ?_)|((refine cV F E F ?_);refine zs ?_)|(refine bK (ty:=48) (cs:=lj) F E ?_;clear E;intro gO J E;(try refine zs ?_))|(refine aW (us:=aX (⟨pc,regs,mem,0⟩:Sq)) F E F F ?_ (h1:=λu hu=>.inl (lw _ u hu));clear E;intro J E;(try simp only [zF] at E);refine zs ?_)|(refine aW (us:=aX (dE (⟨pc,regs,mem,0⟩:Sq) U')) F E F F ?_ (h1:=λu hu=>.inl (lw _ u hu));clear E;intro J E;(try simp only [zF] at E);refine zs ?_)|(refine aW (us:=Stp.cells U') F E F F ?_ (h1:=λu hu=>.inl (Stp.one _ u hu));clear E;intro J E;(try simp only [zF] at E);refine zs ?_)|(refine bz F E F F ?_ (iv:=by rw [z8];omega);clear E;intro J E;(try simp only [zF] at E);(first|rw [CJ] at E|rw [CF] at E|rw [Ev bx hln] at E);dsimp only at E;(try refine zs ?_))|((refine bz F E F F ?_;clear E;intro J E;(try simp only [zF] at E));refine zs ?_)));rename (∀ (a:Act) (w:World),Code.wp _ _ _ a w->_)=>hK2
    go_cut [14] (λy wx=>y = U (lv:Int)/\St w [ab 1 A n c (ai prog)] wx [.blk gO 48 (aX (⟨pc,regs,mem,0⟩:Sq)),.blk gX 57 [U (pc:Int),U (n4:Int),I (k:Int),U 0,U (ad:Int),I sz,.bool false,I 0,I 0],.blk Z 52 [I op,I rd,I (r1:Int),I (r2:Int),U (imm:Int)],.blk gT 57 [U 0,U 0,I 0,U 0,U 0,I 0,.bool false,I 0,I 0],.blk gR 48 lj,.blk gK 48 (aX (⟨pc,regs,mem,0⟩:Sq))] [ab 1 A n c (ai prog)]);case first=>
     refine bA aj E _ _ (λ_ h=>h) (λ_ h=>h) ?_;clear E;intro E H;refine az 0 H ?_;refine cX 1 H ?_;refine az 2 H ?_;refine cX 3 H ?_;refine az 4 H ?_;refine cX 5 H ?_;refine az 6 H ?_;refine cX 7 H ?_;refine aB 8 (λK X=>?_);go_wp2_with (first|(go_at_call 102;refine E.cB (jT.out _) ?_;clear E;intro J E)|(go_at_call 101;refine E.cB (dx.out _) ?_;clear E;intro J E));have H:=aO H E;refine X.out _ _ H ?_;clear X;refine zs ?_;refine aB 9 (λK X=>?_);go_wp2_with (first|(go_at_call 102;refine E.cB (jT.out _) ?_;clear E;intro J E)|(go_at_call 101;refine E.cB (dx.out _) ?_;clear E;intro J E));have H:=aO H E;refine X.out _ _ H ?_;clear X;refine zs ?_;refine cA 10 H ?_;refine bt ?_;(go_wp2;go_meet;exact ⟨rfl,E⟩)
    case rest=>
     obtain ⟨rfl,E⟩:=hcut;refine hK2 _ _ ?_;clear hK2 jT dx bq;by_cases be:k=0
     .as_aux_lemma=>
      have HX:=V (show U'=⟨pc,n4,(k:Int),0,ad,sz,false,0,0⟩ from by rw [bd.out,Y O]);have hD:=V (show dE (⟨pc,regs,mem,0⟩:Sq) ⟨pc,n4,(k:Int),0,ad,sz,false,0,0⟩=⟨n4,regs,mem,0⟩ from zX be);exact yB
     .as_aux_lemma=>
      have HX:=V (show U'=⟨pc,n4,(k:Int),lv,ad,sz,false,0,0⟩ from by rw [bd.out,aa O]);have hD:=V (show dE (⟨pc,regs,mem,0⟩:Sq) ⟨pc,n4,(k:Int),lv,ad,sz,false,0,0⟩=⟨n4,regs.set k lv,mem,0⟩ from Ad be bx);exact z6
   .have dp:dc mem.size ad sz=false:=by simpa using hg
    rw [dp] at bq;replace bq:=V bq;have bd:=V (F1.out F dp);clear hg dp de dn;as_aux_lemma=>
    have HX:=bd.out;have bi:=λW=>sq (⟨pc,regs,mem,0⟩:Sq) 4 ad W
    have hD:(⟨pc,regs,mem,4⟩:Sq)=(dE (⟨pc,regs,mem,0⟩:Sq) U'):=by rw [HX];exact (rP (s:=(⟨pc,regs,mem,0⟩:Sq)) (t:=⟨pc,pc,0,0,ad,0,false,4,0⟩) F F F).symm
    dsimp only at bi;rw [hD,show (⟨pc,pc,0,0,ad,0,false,4,0⟩:Stp).val = .agg (Stp.cells U').toArray from by rw [HX];rfl] at bi;exact B9
  have e3:(kd == 3)=false:=by simpa using k3
  by_cases k4:kd=4
  .subst k4
   have de:=hsz.out (.inr F);have dn : I6 sz:=by omega
   have bq:=λW=>Kh (n:=mem.size) (a:=ad) (k:=sz) W O fL dn
   by_cases hg:dc mem.size ad sz=true
   .as_aux_lemma=>
    have bd:=F4.out F hg;have be:=F8.out F;rw [be] at bd E;obtain ⟨bs,cd⟩:∃ x:ByteArray,(⟨(bytesL b sz.toNat).toArray⟩:ByteArray)=x:=⟨_,rfl⟩;obtain ⟨lv,cP⟩:∃ x,nE b sz=x:=⟨_,rfl⟩;have kP:fU lv sz=bs:=by rw [<- cP,<- cd];exact j5y b sz
    have kR:(bs.size:Int)=sz:=by rw [<- cd];simp only [ByteArray.size,m5,qE];omega
    have ml:=(Me.right_iff (n:=mem.size) (a:=ad) (k:=sz)).1 hg;have hin:ad+bs.size<=mem.size:=by omega
    have rU:=V (λW=>show Ca 98 #[U (b:Int),I sz] W (RB W (.tuple #[.string bs,I 0])) from by have:=Sx b sz.toNat W hbl O;rw [show ((sz.toNat:Nat):Int)=sz by omega,cd] at this;exact this);have gL:=V (λW=>show Ca 100 #[.string bs] W (RB W (.tuple #[U (lv:Int),I 0])) from by have:=GS bs W O;rw [show dl bs.data.toList=lv from by rw [<- cP,<- cd];rfl] at this;exact this.mono λe w' h=>by obtain ⟨h1,d,rfl⟩:=h;exact ⟨h1,af.drewN _ d⟩);obtain ⟨m2,cC⟩:∃ x,Me.writeS mem ad bs=x:=⟨_,rfl⟩;have gG:=V (λW=>show Ca 99 #[.string mem,U (ad:Int),.string bs] W (RB W (.string m2)) from by have:=Me.refWrite_yes mem ad bs W O fL (by rw [kR];exact hg);rw [cC] at this;exact this);rw [cP] at bd;have HX:=V bd;have hD:=V (show dE (⟨pc,regs,mem,0⟩:Sq) ⟨pc,n4,0,lv,ad,sz,true,0,0⟩=⟨n4,regs,m2,0⟩ from by rw [<- cC];exact j6v de kP hin O);rw [hg] at bq;replace bq:=V bq;clear bd be cd cP kP kR ml hin cC hg de dn;exact BL
   .have dp:dc mem.size ad sz=false:=by simpa using hg
    rw [dp] at bq;replace bq:=V bq;have bd:=V (F3.out F dp);clear hg dp de dn;as_aux_lemma=>
    have HX:=bd.out;have bi:=λW=>sq (⟨pc,regs,mem,0⟩:Sq) 5 ad W
    have hD:(⟨pc,regs,mem,5⟩:Sq)=(dE (⟨pc,regs,mem,0⟩:Sq) U'):=by rw [HX];exact (rP (s:=(⟨pc,regs,mem,0⟩:Sq)) (t:=⟨pc,pc,0,0,ad,0,false,5,0⟩) F F F).symm
    dsimp only at bi;rw [hD,show (⟨pc,pc,0,0,ad,0,false,5,0⟩:Stp).val = .agg (Stp.cells U').toArray from by rw [HX];rfl] at bi;exact B9
  have e4:(kd == 4)=false:=by simpa using k4
  by_cases k5:kd=5
  .subst k5
   obtain ⟨r,hr⟩:∃ r,nx % 4=r:=⟨_,rfl⟩;have bT:=hr;replace hr:=V hr;by_cases kS:r=0
   .as_aux_lemma=>
    have bd:=V (F6.out F O);have cr:=V (show decide (¬ (r:Int)=0)=false from dg O);clear kS bT;by_cases be:k=0
    .as_aux_lemma=>
     have HX:=V (show U'=⟨pc,nx,(k:Int),0,0,0,false,0,0⟩ from by rw [bd.out,Y O]);have hD:=V (show dE (⟨pc,regs,mem,0⟩:Sq) ⟨pc,nx,(k:Int),0,0,0,false,0,0⟩=⟨nx,regs,mem,0⟩ from zX be);exact yB
    .as_aux_lemma=>
     have HX:=V (show U'=⟨pc,nx,(k:Int),v,0,0,false,0,0⟩ from by rw [bd.out,aa O]);have hD:=V (show dE (⟨pc,regs,mem,0⟩:Sq) ⟨pc,nx,(k:Int),v,0,0,false,0,0⟩=⟨nx,regs.set k v,mem,0⟩ from Ad be bx);exact z6
   .have bd:=V (F5.out F O)
    have cr:=V (show decide (¬ (r:Int)=0)=true from cU O);clear kS bT;as_aux_lemma=>
    have HX:=bd.out;have bi:=λW=>sq (⟨pc,regs,mem,0⟩:Sq) 3 0 W
    have hD:(⟨pc,regs,mem,3⟩:Sq)=(dE (⟨pc,regs,mem,0⟩:Sq) U'):=by rw [HX];exact (rP (s:=(⟨pc,regs,mem,0⟩:Sq)) (t:=⟨pc,pc,0,0,0,0,false,3,0⟩) F F F).symm
    dsimp only at bi;rw [hD,show (⟨pc,pc,0,0,0,0,false,3,0⟩:Stp).val = .agg (Stp.cells U').toArray from by rw [HX];rfl] at bi;exact B9
  have e5:(kd == 5)=false:=by simpa using k5
  have ev:=F7.out k3 k4 k5;by_cases k2:kd=2
  .as_aux_lemma=>
   rw [aa k2] at ev;subst k2;have bd:=V ev;clear ev k3 k4 k5;by_cases be:k=0
   .as_aux_lemma=>
    have HX:=V (show U'=⟨pc,n4,(k:Int),0,0,0,false,0,tk⟩ from by rw [bd.out,Y O]);have hD:=V (show dE (⟨pc,regs,mem,0⟩:Sq) ⟨pc,n4,(k:Int),0,0,0,false,0,tk⟩=⟨n4,regs,mem,0⟩ from zX be);exact yB
   .as_aux_lemma=>
    have HX:=V (show U'=⟨pc,n4,(k:Int),v,0,0,false,0,tk⟩ from by rw [bd.out,aa O]);have hD:=V (show dE (⟨pc,regs,mem,0⟩:Sq) ⟨pc,n4,(k:Int),v,0,0,false,0,tk⟩=⟨n4,regs.set k v,mem,0⟩ from Ad be bx);exact z6
  .as_aux_lemma=>
   rw [Y k2] at ev;have e2:(kd == 2)=false:=by simpa using k2
   have bd:=V ev;clear ev k3 k4 k5 k2;by_cases be:k=0
   .as_aux_lemma=>
    have HX:=V (show U'=⟨pc,n4,(k:Int),0,0,0,false,0,0⟩ from by rw [bd.out,Y O]);have hD:=V (show dE (⟨pc,regs,mem,0⟩:Sq) ⟨pc,n4,(k:Int),0,0,0,false,0,0⟩=⟨n4,regs,mem,0⟩ from zX be);exact yB
   .as_aux_lemma=>
    have HX:=V (show U'=⟨pc,n4,(k:Int),v,0,0,false,0,0⟩ from by rw [bd.out,aa O]);have hD:=V (show dE (⟨pc,regs,mem,0⟩:Sq) ⟨pc,n4,(k:Int),v,0,0,false,0,0⟩=⟨n4,regs.set k v,mem,0⟩ from Ad be bx);exact z6
end
end
end Go.Proofs.YtgnomadgnciifaaGreatDoor
