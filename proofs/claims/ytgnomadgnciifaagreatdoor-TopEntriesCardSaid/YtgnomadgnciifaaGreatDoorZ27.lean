/- . -/
import Derived.Test.YtgnomadgnciifaaGreatDoorZ26
set_option linter.all false
set_option maxRecDepth 100000
set_option maxHeartbeats 16000000
namespace Go.Proofs.YtgnomadgnciifaaGreatDoor
open Go.Proofs.Tryz
def JD {p:Prop} (h:p:=by
 go_wp2;go_roundw;case rel=>exact ⟨(m:Int) - 1,_,by go_num,by omega,by omega,by rw [show ((m:Int) - 1+1).toNat=m by omega,lc];exact j2.out,by simp;omega,aF,(C.trans aH.out).trans aI⟩
 case measure=>exact zM):p:=h
section
open Go.RowKit Go.Shelf Wd
attribute [local go_sem] Oper.semAt_some
def Sd.cells (s:Sd):List Value:=[U (s.addr:Int),I s.size,.string s.data,.bool s.there]
def Sd.val (s:Sd):Value:=.agg #[U (s.addr:Int),I s.size,.string s.data,.bool s.there]
def Sd.one (s:Sd):∀ u∈s.cells,u.oneCell'=true:=by
 unfold Sd.cells
 repeat (first|exact uu|refine wm F ?_)
def oB (s:Sd):Prop:=s.addr<4294967296/\0<=s.size/\s.size<=4/\(s.data.size:Int)=s.size
instance (s : Sd):Decidable (oB s):=by unfold oB;infer_instance
def DR : Sd:=⟨0,0,⟨#[]⟩,false⟩
def jM (s:Sd):Sd:=if oB s then s else DR
def yj {s}(h:oB s):jM s=s:=aa h
def QQ (s):oB (jM s):=by
 unfold jM;split
 .assumption
 .exact ⟨by decide,by decide,by decide,rfl⟩
def PK (v:Nat) (n:Int):(fU v n).size=n.toNat:=by
 show (bytesL v n.toNat).toArray.size=_;rw [m5,qE]
def LJ {e}(h:cC e):oB (Sd.ofE e):=by
 have hz:=uj e.inst.op;exact ⟨h.a,hz.1,hz.2,by show ((fU _ _).size:Int)=_;rw [PK];show ((aU e.inst.op).toNat:Int)=aU e.inst.op;omega⟩
def Iz {p}(h:p.addr<4294967296/\p.data.size<=4):oB (Sd.ofP p):=⟨h.1,by show (0:Int)<=(p.data.size:Int);omega,by show (p.data.size:Int)<=4;omega,rfl⟩
def l8 (q:List En):Nat->List Sd
 | 0=>[]
 | m+1=>match q[m]? with
  | some e=>if ae e.inst.op=4 then Sd.ofE e::l8 q m else l8 q m
  | none=>l8 q m
def mv (ss:List Pu):Nat->List Sd
 | 0=>[]
 | m+1=>match ss[m]? with
  | some p=>Sd.ofP p::mv ss m
  | none=>mv ss m
def Db (q):∀ m,m<=q.length->l8 q m=(((q.take m).reverse.filter λe=>decide (ae e.inst.op=4)).map Sd.ofE)
 | 0,_=>rfl
 | m+1,h=>by
  have hm:q[m]?=some (q[m]' O):=ba O;rw [l8,hm,iE O,yA,C3,List.singleton_append,pQ];dsimp only;by_cases hk:ae (q[m]' O).inst.op=4
  .rw [aa hk,aa yp,kg,Db q m O]
  .rw [Y hk,Y yp,Db q m O]
def GW (ss):∀ m,m<=ss.length->mv ss m=(ss.take m).reverse.map Sd.ofP
 | 0,_=>rfl
 | m+1,h=>by
  have hm:ss[m]?=some (ss[m]' O):=ba O;rw [mv,hm,iE O,yA,C3,List.singleton_append,kg,GW ss m O]
def Y4 (q ss):lg q ss=l8 q q.length++mv ss ss.length:=by
 rw [Db q _ (aM _),GW ss _ (aM _),lK,lK];rfl
def i1o {q m e}(h:q[m]?=some e)(hk:ae e.inst.op=4):l8 q (m+1)=Sd.ofE e::l8 q m:=by
 rw [l8,h];exact aa hk
def V1 {q m e}(h:q[m]?=some e)(hk:¬ ae e.inst.op=4):l8 q (m+1)=l8 q m:=by
 rw [l8,h];exact Y hk
def i1q {ss m p}(h:ss[m]?=some p):mv ss (m+1)=Sd.ofP p::mv ss m:=by rw [mv,h]
def Tc (nf l Br Bs n₀)(hn:1<=nf)(A n c As ns cs q ss)(an:Br<n₀)(ac:Bs<n₀)(hq:dp q)(aO:n<=1000)(aP:ns<=1000)(ad:∀ p∈ss,p.addr<4294967296/\p.data.size<=4)(X' Jx:List Sd->World->Prop)(hY:∀ pre x W,oB x->X' pre W->pre.length<n+ns->YieldAt Fence.wide (nf - 1) Tryz.prog l #[x.val] W λe W'=>
   (e = .returned (.bool true)/\X' (pre++[x]) W'/\Below n₀ W W')\/(e = .returned (.bool false)/\Jx (pre++[x]) W'))(W)(hJ:∀ pre w1 w2,X' pre w1->af w1 w2->X' pre w2)(ap:W.cell? ⟨Br,0,none⟩=some (.slice A n c))(iy:W.cell? ⟨Bs,0,none⟩=some (.slice As ns cs))(hr:Rd W n₀ 17 A n c (ens q))(H:Rd W n₀ 2 As ns cs (bD ss))(hW:n₀<=W.heap.size)(h0:X' [] W):
  CallsIn Fence.wide nf Tryz.prog 214 #[.func (.yield l) #[] #[],.pointer (some ⟨Br,0,none⟩),.pointer (some ⟨Bs,0,none⟩)] W λe W'=>(∃ v,e = .returned v) /\
   ((∃ ys,ys=lg q ss/\X' ys W')\/(∃ pre,pre <+: lg q ss/\Jx pre W')):=by
 have aX:=hr.enslen;have aY:ss.length=ns:=by have:=H.len;rw [MV] at this;omega
 have hL:=V (Y4 q ss);rw [aX,aY] at hL;replace hr:=V hr;replace H:=V H;replace ad:=V ad;refine callsIn_of_wp func214 F di ?_ F;simp only [ntmps214,m5,ft,uf,Nat.reduceAdd,Nat.reduceSub,xg,wv,vV,xx,kR,oZ];refine wpIn_wide.2 ?_;go_wp2_with fail;go_loopw [4] (λx wr=>∃ (kk:Int) (pre:List Sd),x = I kk/\kk<(n:Int) /\ -1<=kk/\lg q ss=pre++(l8 q (kk+1).toNat++mv ss ns)/\pre.length+(kk+1).toNat<=n/\X' pre wr/\Below n₀ W wr) (λx _=>(intOf x+1).toNat);case atStart=>exact ⟨(n:Int) - 1,[],rfl,by omega,by omega,by rw [hL.out,show ((n:Int) - 1+1).toNat=n by omega];rfl,by simp,h0,qa _ _⟩
 case round=>
  obtain ⟨kk,pre,rfl,hk1,aB,j2,il,G,C⟩:=hrel;have av:=(hr.out.below C).more (iG hW C.size);have L:=(H.out.below C).more (iG hW C.size);have aR:=(C.cell (p:=⟨Br,0,none⟩) an).trans ap;have ak:=(C.cell (p:=⟨Bs,0,none⟩) ac).trans iy;have aw:n₀<=wr.heap.size:=iG hW C.size;by_cases eW:0<=kk
  .obtain ⟨m,rfl⟩:∃ m:Nat,kk=(m:Int):=⟨kk.toNat,by omega⟩
   have R:((m:Int)+1).toNat=m+1:=by omega
   rw [R] at j2 il;have aZ:m<n:=by omega
   obtain ⟨e,hu⟩:∃ e,q[m]?=some e:=⟨_,ba O⟩;have he:=hq e (aQ hu);have E:=St.start wr [ab 17 A n c (ens q)] (zC av zN);have HK:=V (λW=>ec e.inst W he.op);have HZ:=V (λW=>mE e.inst W);have hz:=uj e.inst.op;by_cases hs:ae e.inst.op=4
   .rw [i1o hu hs] at j2
    obtain ⟨z,aD⟩:∃ z:Nat,aU e.inst.op=(z:Int):=⟨(aU e.inst.op).toNat,by omega⟩;have rU:=V (λW=>Bytes_any e.value z W he.v O);have aV:Sd.ofE e=⟨e.addr,(z:Int),⟨(bytesL e.value z).toArray⟩,e.is == 3⟩:=by unfold Sd.ofE fU;rw [aD];rfl
    have D:=λW hW=>hY pre (Sd.ofE e) W (LJ he) hW O
    rw [aV] at D j2;rw [hs] at HK;rw [aD] at HZ;obtain ⟨no,pc,⟨op,rd,rs1,rs2,imm⟩,guess,is,left,value,next,addr,halt,took,known,filled⟩:=e;unfold Ins.val at HK HZ;dsimp only at HK HZ rU D j2;replace j2:=V j2;replace D:=V D;clear aV aD hs hz he ak L av R;go_upto_region 7 with ((try refine zs ?_);(first|refine Fu ?_|(refine H7 ?_;clear E;intro Z J E)|(refine aq ?_;clear E;intro vN J E)));have al:=hJ _ _ _ G E.bel;have Q:=E.bkAt aC
    have c4:=Q.cell 12;have c8:=Q.cell 8;simp only [pT,mI] at c4 c8;obtain ⟨fn,tmps,assign,body,hy,hR⟩:=D.out _ al;unfold Sd.val at hy;dsimp only at hy;have aH:=V (E.bel.mono aw);clear E Q D HK HZ rU hu G al aR;refine (wpIn_wide (n:=nf)).1 ?_;gi_wp2;refine hR.mono ?_;rintro e W3 (⟨rfl,aF,aI⟩|⟨rfl,aE⟩)
    .gi_wp2
     exact JD
    .gi_wp2
     go_wp2;refine bc (kw F _ _ _) F ?_;exact ⟨⟨_,rfl⟩,.inr ⟨_,by rw [j2.out];exact ⟨l8 q m++mv ss ns,by simp⟩,aE⟩⟩
   .rw [V1 hu hs] at j2
    obtain ⟨κ,hκ⟩:∃ κ,ae e.inst.op=κ:=⟨_,rfl⟩;rw [hκ] at HK hs;obtain ⟨no,pc,⟨op,rd,rs1,rs2,imm⟩,guess,is,left,value,next,addr,halt,took,known,filled⟩:=e;unfold Ins.val at HK;dsimp only at HK;replace j2:=V j2;have b4:(κ == 4)=false:=by simpa using hs
    have b4':(κ != 4)=true:=by simpa using hs
    clear he ak L av R hz HZ hκ;go_wp2_with ((try refine zs ?_);(first|refine Fu ?_|(refine H7 ?_;clear E;intro Z J E)|(refine aq ?_;clear E;intro vN J E)));go_roundw;case rel=>exact ⟨(m:Int) - 1,pre,by go_num,by omega,by omega,by rw [show ((m:Int) - 1+1).toNat=m by omega];exact j2.out,by omega,hJ _ _ _ G E.bel,C.trans (E.bel.mono aw)⟩
    case measure=>exact zM
  .obtain rfl:kk = -1:=by omega
   have az:lg q ss=pre++mv ss ns:=j2;have a0:pre.length<=n:=by simpa using il
   clear j2 il ap aR hk1 aB eW av L h0;go_wp2_with fail;go_loopw [9] (λx wq=>∃ (kk:Int) (pre:List Sd),x = I kk/\kk<(ns:Int) /\ -1<=kk/\lg q ss=pre++mv ss (kk+1).toNat/\pre.length+(kk+1).toNat<=n+ns/\X' pre wq/\Below n₀ W wq) (λx _=>(intOf x+1).toNat);case atStart=>exact ⟨(ns:Int) - 1,pre,rfl,by omega,by omega,by rw [show ((ns:Int) - 1+1).toNat=ns by omega];exact az,by omega,G,C⟩
   case round=>
    clear az a0 G C ak;obtain ⟨kk,pre,rfl,hk1,aB,j2,il,G,C⟩:=hrel;have L:=(H.out.below C).more (iG hW C.size);have ak:=(C.cell (p:=⟨Bs,0,none⟩) ac).trans iy;have aw:n₀<=wr.heap.size:=iG hW C.size;by_cases eW:0<=kk
    .obtain ⟨m,rfl⟩:∃ m:Nat,kk=(m:Int):=⟨kk.toNat,by omega⟩
     have R:((m:Int)+1).toNat=m+1:=by omega
     rw [R] at j2 il;have aZ:m<ns:=by omega
     obtain ⟨p,hu⟩:∃ p,ss[m]?=some p:=⟨_,ba O⟩;rw [i1q hu] at j2;have E:=St.start wr [ab 2 As ns cs (bD ss)] (zC L zN);have D:=λW hW=>hY pre (Sd.ofP p) W (Iz (ad.out p (aQ hu))) hW O
     obtain ⟨pa,pd⟩:=p;unfold Sd.ofP at D j2;dsimp only at D j2;replace j2:=V j2;replace D:=V D;clear R L;go_upto_region 12 with ((try refine zs ?_);(first|refine Qe ?_|(refine bJ ?_;clear E;intro Z J E)|(refine aq ?_;clear E;intro vN J E)));have al:=hJ _ _ _ G E.bel;have Q:=E.bkAt aC
     have c4:=Q.cell 0;have c8:=Q.cell 1;simp only [pT,mI] at c4 c8;obtain ⟨fn,tmps,assign,body,hy,hR⟩:=D.out _ al;unfold Sd.val at hy;dsimp only at hy;have aH:=V (E.bel.mono aw);clear E Q D hu G al ak;refine (wpIn_wide (n:=nf)).1 ?_;gi_wp2;refine hR.mono ?_;rintro e W3 (⟨rfl,aF,aI⟩|⟨rfl,aE⟩)
     .gi_wp2
      exact JD
     .gi_wp2
      go_wp2;refine bc (kw F _ _ _) F ?_;exact ⟨⟨_,rfl⟩,.inr ⟨_,by rw [j2.out];exact ⟨mv ss m,by simp⟩,aE⟩⟩
    .obtain rfl:kk = -1:=by omega
     have az:=V (show lg q ss=pre by rw [j2];simp [mv]);clear j2 il hk1 aB eW L;go_wp2_with fail;go_end0;exact ⟨⟨_,rfl⟩,.inl (by rw [az.out];exact ⟨_,rfl,G⟩)⟩
def QG (nf:Nat) (hn:1<=nf) (Br Bs:Nat) (A:Option Addr) (n c:Nat) (As:Option Addr) (ns cs:Nat) (q:List En) (ss:List Pu) (w0:World) (an:Br<w0.heap.size) (ac:Bs<w0.heap.size) (hq:dp q) (aO:n<=1000) (aP:ns<=1000) (ad:∀ p∈ss,p.addr<4294967296/\p.data.size<=4)(ap:w0.cell? ⟨Br,0,none⟩=some (.slice A n c)) (iy:w0.cell? ⟨Bs,0,none⟩=some (.slice As ns cs)) (hr:Rd w0 w0.heap.size 17 A n c (ens q)) (H:Rd w0 w0.heap.size 2 As ns cs (bD ss)) :SeqStopsK Fence.wide nf Tryz.prog 214 #[.pointer (some ⟨Br,0,none⟩),.pointer (some ⟨Bs,0,none⟩)] (λx:Sd=>#[(jM x).val]) (Below w0.heap.size) (λys=>ys=lg q ss) (λpre=>pre <+: lg q ss) (n+ns) w0:=λl X' Jx W hW hJ _ hY h0=>
 Tc nf l Br Bs w0.heap.size hn A n c As ns cs q ss an ac hq aO aP ad X' Jx (λpre x W hx=>by have h:=hY pre x W;simp only [yj hx] at h;exact h) W (λpre w1 w2 h hb=>hJ pre w1 w2 none h (lV hb none) (λr e=>by cases e)) ((hW.cell (p:=⟨Br,0,none⟩) an).trans ap) ((hW.cell (p:=⟨Bs,0,none⟩) ac).trans iy) (hr.below hW) (H.below hW) hW.size h0
end
end Go.Proofs.YtgnomadgnciifaaGreatDoor
