/- . -/
import Derived.Test.YtgnomadgnciifaaGreatDoorZ27
import Derived.ScopeJumps
import Derived.WalkMore
set_option linter.all false
set_option maxRecDepth 100000
set_option maxHeartbeats 16000000
namespace Go.Proofs.YtgnomadgnciifaaGreatDoor
variable {p:Prop}
open Go.Proofs.Tryz
def Mp (h:p:=by
 have C:=aO C E;refine X.out _ _ C ?_;clear X;refine zs ?_;refine aB 13 (λK X=>?_);go_wp2_with ((first|(go_at_call 44;refine aG E (HZ.out _) ?_;clear E;intro J E)|(refine bz F E F F ?_;clear E;intro J E)|(refine aW F E F F ?_;clear E;intro J E)|(refine ju F E F F ?_;clear E;intro J E));refine zs ?_);have C:=aO C E;refine X.out _ _ C ?_;clear X;refine zs ?_;refine aB 14 (λK X=>?_);go_wp2_with ((first|(go_at_call 44;refine aG E (HZ.out _) ?_;clear E;intro J E)|(refine bz F E F F ?_;clear E;intro J E)|(refine aW F E F F ?_;clear E;intro J E)|(refine ju F E F F ?_;clear E;intro J E));refine zs ?_);have C:=aO C E;refine X.out _ _ C ?_;clear X;refine zs ?_;refine bt ?_
 (go_wp2;go_meet;(first|exact ⟨_,_,rfl,rfl,E⟩|exact ⟨_,_,rfl,rfl,E.front 1 dD⟩))):=h
def Ke (h:p:=by
 replace G:=V G;clear aH;gi_wp2_with (first|(refine ⟨di,?_⟩;gi_at_call 204;refine (CallsIn.inRound l (callsIn_wide.2 (al.out _))).mono ?_;rintro e w1 ⟨rfl,aJ⟩;have d0:=aJ.cell_of c0;have d1:=aJ.cell_of c1;have d2:=aJ.cell_of c2;have d3:=aJ.cell_of c3;have da:=aJ.cell_of ca;have dn:=aJ.cell_of cn;have d6:=aJ.cell_of c6;have d7:=aJ.cell_of c7;have e6:=(aJ.frozen (p:=⟨g6,0,none⟩) (lU _ _ c6)).trans f6;have e7:=(aJ.frozen (p:=⟨g7,0,none⟩) (lU _ _ c7)).trans f7)|(refine ⟨di,?_⟩;gi_at_call 205;refine (CallsIn.inRound l (callsIn_wide.2 (aD.out _))).mono ?_;rintro e w2 ⟨rfl,hb2⟩;have k0:=hb2.cell_of d0;have k1:=hb2.cell_of d1;have k2:=hb2.cell_of d2;have k3:=hb2.cell_of d3;have ka:=hb2.cell_of da;have kn:=hb2.cell_of dn;have k6:=hb2.cell_of d6;have k7:=hb2.cell_of d7;have m6:=(hb2.frozen (p:=⟨g6,0,none⟩) (lU _ _ d6)).trans e6;have m7:=(hb2.frozen (p:=⟨g7,0,none⟩) (lU _ _ d7)).trans e7))
 exact ⟨((sL (aJ.trans hb2) _).trans ((KeepsOthers.setCell _ _ _).from _)).trans ((KeepsOthers.setCell _ _ _).from _),⟨rfl,pre,x,rfl,hp.out,hI.out,by rw [G.out];exact Fy hne k6 k7 _ _,by rw [G.out];exact Mc hne k6 k7 _ _⟩,(((aY.trans ((aJ.trans hb2).mono (iG aZ a7))).setCell (p:=⟨g6,0,none⟩) a8 _).setCell (p:=⟨g7,0,none⟩) a9 _)⟩):=h
def JS (h:p:=by
 have C:=aO C E;refine X.out _ _ C ?_;clear X;refine zs ?_;refine aB 8 (λK X=>?_);go_wp2_with ((first|((refine vD F F F F L ?_);refine zs ?_)|(refine bz F E F F ?_;clear E;intro J E)|(refine aW F E F F ?_;clear E;intro J E)|(refine ju F E F F ?_;clear E;intro J E));refine zs ?_);have C:=aO C E;refine X.out _ _ C ?_;clear X;refine zs ?_;refine bt ?_
 (gi_wp2;exact ⟨br.trans (E.kept (ej _)),⟨rfl,pre,x,rfl,hp.out,hI.out,by rw [G.out];exact (E.bkAt oc).cell 0,by rw [G.out];exact (E.bkAt kY).cell 0⟩,E.bel⟩)):=h
def zT (h:p:=by
 go_wp2_with ((refine bK F E ?_;clear E;intro Z J E);refine zs ?_)
 exact Mp):=h
def Ir (h:p:=by
 have C:=aO C E;refine X.out _ _ C ?_;clear X;refine zs ?_;refine aB 10 (λK X=>?_);go_wp2_with ((refine uB ?_;clear E;intro J E))
 exact Mp):=h
def Fi (h:p:=by
 (refine ⟨.tuple #[I 0,.string ⟨#[]⟩],DZ F F ((E.bkAt jh).cell 0) ((E.bkAt dD).cell 0),?_⟩;exact ⟨by rw [av.out],E.bel⟩)):=h
def MH (h:p:=by
 go_roundw;case rel=>exact ⟨j+1,by go_num,by omega,ad,E.drop 0⟩
 case measure=>exact zM):=h
section
open Go.RowKit Go.Shelf Wd
attribute [local go_sem] Oper.semAt_some
def PY (A:Option Addr) (n c:Nat) (As:Option Addr) (ns cs:Nat) (w:World) (x:Ending) (w':World):Prop :=
 ∃ g1 g2,x = .returned (.func (.func 214) #[] #[.pointer (some ⟨g1,0,none⟩),.pointer (some ⟨g2,0,none⟩)])/\af w w'/\Bk w' g1 31 [.slice A n c]/\Bk w' g2 32 [.slice As ns cs]
def V5 (A n c As ns cs w):Ca 203 #[.slice A n c,.slice As ns cs] w (PY A n c As ns cs w):=by
 have E:=St.start w [] zN;go_enter func203,ntmps203;go_wp2_with ((try refine zs ?_);(first|refine nB ?_|(refine bJ ?_;clear E;intro Z J E)|(refine aq ?_;clear E;intro vN J E)));go_ret;exact ⟨_,_,rfl,E.bel,E.bkAt dD,E.bkAt aC⟩
def qM (e:En):Bool:=decide (ae e.inst.op=4) && (!e.known || decide (e.halt≠0))
def i3i {q ss i e}(hu:q[i]?=some e)(hk:ae e.inst.op=3):jI q ss i=if (q.take i).any qM then (0,⟨#[]⟩) else jp e.addr (aU e.inst.op) (lg (q.take i) ss):=by
 unfold jI;rw [hu];dsimp only;rw [Y (λh=>h hk)];rfl
def Ps {q:List En} {i:Nat} {no:Int} {pc:Nat} {op rd rs1 rs2:Int} {imm guess:Nat} {is left:Int} {value next addr:Nat} {halt took:Int} {known filled:Bool} (hu:q[i]?=some ⟨no,pc,⟨op,rd,rs1,rs2,imm⟩,guess,is,left,value,next,addr,halt,took,known,filled⟩) :∀ (j:Nat) (u:Value),([I op,I rd,I rs1,I rs2,U (imm:Int)]:List Value)[j]?=some u->(ens q)[i * 17+2+j]?=some u:=λj u h=>by
 rw [lZ];refine Rows.el (f:=ens) hu ?_
 match j,h with
 | 0,h=>exact h
 | 1,h=>exact h
 | 2,h=>exact h
 | 3,h=>exact h
 | 4,h=>exact h
def O8 {p:En->Bool}{q:List En}{k e}(h:∀ f∈q.take k,p f=false)(he:q[k]?=some e)(hp:p e=false):∀ f∈q.take (k+1),p f=false:=by
 obtain ⟨hl,hk⟩:=aK.1 he;intro f hf;rw [iE hl,hk] at hf;rcases dv.1 hf with hf|hf
 .exact h f hf
 .obtain rfl:=dm.1 hf
  exact hp
def Pa {p:En->Bool}{q:List En}{j:Nat}{e}(he:q[j]?=some e)(hp:p e=true):q.any p=true:=List.any_eq_true.2 ⟨e,aQ he,hp⟩
def QB {q ss}(hq:dp q)(hs:∀ p∈ss,p.addr<4294967296/\p.data.size<=4):∀ x∈lg q ss,oB x:=λx hx=>by
 unfold lg at hx;rcases dv.1 hx with hx|hx
 .obtain ⟨e,he,rfl⟩:=fQ.1 hx
  exact LJ (hq e (by simpa using (vG.1 he).1))
 .obtain ⟨p,hp,rfl⟩:=fQ.1 hx
  exact Iz (hs p (by simpa using hp))
def It {a n}:∀ l:List Sd,(∀ x∈l,fO x.addr x.size a n=false)->jp a n l=(2,⟨#[]⟩)
 | [],_=>rfl
 | x::l,h=>by rw [jp,aa (h x (ee ..))];exact It l λy hy=>h y (ez _ hy)
def L0 {a n last rest}(hl:fO last.addr last.size a n=true):∀ ini:List Sd,(∀ x∈ini,fO x.addr x.size a n=false)->jp a n (ini++last::rest)=jp a n [last]
 | [],_=>by
  simp [jp,hl]
 | x::l,h=>by rw [oZ,jp,aa (h x (ee ..))];exact L0 hl l λy hy=>h y (ez _ hy)
def Xh : cO Tryz.prog 259 4:=⟨_,underlying259,rfl,by kernel_rfl⟩
def DZ {w tmps g6 g7 x b}(H:tmps.getD 6 undef = .pointer (some ⟨g6,0,none⟩))(h7:tmps.getD 7 undef = .pointer (some ⟨g7,0,none⟩))(bs:w.cell? ⟨g6,0,none⟩=some (I x))(bu:w.cell? ⟨g7,0,none⟩=some (.string b)):(results Tryz.f178 tmps).run Tryz.prog w = .ok (.tuple #[I x,.string b]) w:=by
 simp only [Array.getD_eq_getD_getElem?] at H h7;simp [results,Tryz.f178,go_sem,H,h7,bs,bu]
def Fy {W:World}{g6 g7 u6 u7}(hne:g6≠g7)(H:W.cell? ⟨g6,0,none⟩=some u6)(h7:W.cell? ⟨g7,0,none⟩=some u7)(v6 v7):((W.setCell ⟨g6,0,none⟩ v6).setCell ⟨g7,0,none⟩ v7).cell? ⟨g6,0,none⟩=some v6 :=
 (Bm (pU _ ⟨g7,0,none⟩ v7 g6 hne)).trans (zB _ _ _ (by rw [H];rfl))
def Mc {W:World}{g6 g7 u6 u7}(hne:g6≠g7)(H:W.cell? ⟨g6,0,none⟩=some u6)(h7:W.cell? ⟨g7,0,none⟩=some u7)(v6 v7):((W.setCell ⟨g6,0,none⟩ v6).setCell ⟨g7,0,none⟩ v7).cell? ⟨g7,0,none⟩=some v7 :=
 zB _ _ _ (by rw [(Bm (pU W ⟨g6,0,none⟩ v6 g7 (Ne.symm hne))).trans h7];rfl)
section
variable {P:Program} {ops:Array Oper} {rest:List Oper} {o:Oper} {a:Act} {Q:Exit->Act->World->Prop} {w:World}
def vD {t:TypeId} {x y z:Operand} {s r:ByteArray} {p q:Value} (ho:o.op = .slice t x (some y) (some z) none) (hx:ac a x=some (.string s)) (hy:ac a y=some p) (hz:ac a z=some q) (L:Hid (∀ W,(Instr.sliceAt t (.string s) (some p) (some q) none).run P W = .ok (.string r) W))(h:wpList P ops Q rest (a.put o.dst (.string r)) w) (hw:Region.wanted o (yielded ops a.tmps)=true:=by rfl):wpList P ops Q (o::rest) a w:=by
 replace hx:=ap hx;replace hy:=ap hy;replace hz:=ap hz;refine cI hw λK X=>?_
 have hk:=X _ _ h;have hs:=L.out w;unfold Oper.wp execOp;simp only [ho,hx,hy,hz,dB,ma,hs,bC,bL,bG];exact hk
end
def Ry (R:Ending->World->Prop):Exit->Act->World->Prop
 | .normal,a,w | .ret,a,w=>LeavesInM Fence.wide 9 Tryz.prog Tryz.f178 a.tmps R a.defers .returning w
 | .outgrown,_,w=>R .outgrown w
 | _,_,_=>False
def Uj {R:Ending->World->Prop}(e:Exit)(a w)(h:Ry R e a w):bodyPostM Fence.wide 9 Tryz.prog Tryz.f178 R e a w:=by
 cases e <;> first|exact h|exact h.elim
def RS (A:Option Addr) (n c:Nat) (As:Option Addr) (ns cs:Nat) (q:List En) (ss:List Pu) (i:Nat) (e:En) (w:World) (hr:Rd w w.heap.size 17 A n c (ens q)) (bb:Rd w w.heap.size 2 As ns cs (bD ss)) (hq:dp q) (b2:n<=1000) (bw:ns<=1000) (aI:∀ p∈ss,p.addr<4294967296/\p.data.size<=4)(hu:q[i]?=some e) (hk:ae e.inst.op=3) :Ca 178 #[.slice A n c,.slice As ns cs,I (i:Int)] w (RB w (.tuple #[I (jI q ss i).1,.string (jI q ss i).2])):=by
 have E:=St.start w [ab 17 A n c (ens q),ab 2 As ns cs (bD ss)] (zC hr (zC bb zN));have b3:=hr.enslen;have hin:i<n:=by have:=(aK.1 hu).1;omega
 have he:=hq e (aQ hu);have HK:=V (λW=>ec e.inst W he.op);rw [hk] at HK;have hR:=V (i3i (ss:=ss) hu hk);obtain ⟨no,pc,⟨op,rd,rs1,rs2,imm⟩,guess,is,left,value,next,addr,halt,took,known,filled⟩:=e;have sF:=Ps hu;have a0:(ens q)[i * 17+12]?=some (U (addr:Int)):=Rows.el (f:=ens) hu F;unfold Ins.val at HK;dsimp only at HK hR;have h0:=V (show decide ((i:Int)<0)=false by simp);have h1:=V (show decide ((n:Int)<=(i:Int))=false by simp;omega);have hc1:=hr.le;replace aI:=V aI;replace hq:=V hq;replace he:=V he;clear hr bb hk;refine (callsIn_wide (n:=9)).1 ?_;refine callsIn_of_wp_marks func178 F di ?_ F;simp only [ntmps178,m5,ft,uf,Nat.reduceAdd,Nat.reduceSub,xg,wv,vV,xx,kR,oZ];refine wpIn_wide.2 ?_;refine Code.wp_mono Uj ?_;go_wp2_with ((try refine zs ?_);(first|go_big_skip|refine El ?_|(go_at_call 39;(have D:=HK.out);(with_reducible refine (D _).mono ?_);clear D;rintro x J ⟨rfl,hb⟩;replace E:=E.grow hb;clear hb)|(refine bJ ?_;clear E;intro Z J E)|(refine aq ?_;clear E;intro vN J E)));go_step3;go_wp2_with ((try refine zs ?_);(first|go_big_skip|refine El ?_|(go_at_call 39;(have D:=HK.out);(with_reducible refine (D _).mono ?_);clear D;rintro x J ⟨rfl,hb⟩;replace E:=E.grow hb;clear hb)|(refine bJ ?_;clear E;intro Z J E)|(refine aq ?_;clear E;intro vN J E)));obtain ⟨g7,g6,rfl,rfl⟩:=E.names2;rw [Rows.take] at E;obtain ⟨q2,aP⟩:∃ q2,q.take i=q2:=⟨_,rfl⟩;have aE:dp q2:=λf hf=>by rw [<- aP] at hf;exact hq.out f (jE hf)
 replace aE:=V aE;have b5:q2.length=i:=by rw [<- aP,cK];omega
 rw [aP] at E hR;replace a0:=V a0;replace sF:=V sF;clear aP;go_loopw [35] (λx wr=>∃ j:Nat,x = I (j:Int)/\j<=i/\Hid (∀ f∈q2.take j,qM f=false)/\St w [ab 17 A n c (ens q),ab 2 As ns cs (bD ss)] wr [.blk g7 9 [.string ⟨#[]⟩],.blk g6 3 [I 0]] (ab 17 A i c (ens q2)::ab 17 A n c (ens q)::ab 2 As ns cs (bD ss)::[])) (λx _=>i - (intOf x).toNat);case atStart=>exact ⟨0,rfl,by omega,V (λf hf=>by simp at hf),E⟩
 case round=>
  clear E;obtain ⟨j,rfl,hj,gV,E⟩:=hrel;by_cases b8:j<i
  .have hlt:=V (show decide ((j:Int)<(i:Int))=true by simp;omega)
   obtain ⟨f,hv⟩:∃ f,q2[j]?=some f:=⟨_,ba O⟩;have bd:=aE.out f (aQ hv);have ak:=V (λW=>ec f.inst W bd.op);obtain ⟨fno,fpc,⟨fop,frd,frs1,frs2,fimm⟩,fguess,fis,fleft,fvalue,fnext,faddr,fhalt,ftook,fknown,ffilled⟩:=f;unfold Ins.val at ak;dsimp only at ak;have hB:qM ⟨fno,fpc,⟨fop,frd,frs1,frs2,fimm⟩,fguess,fis,fleft,fvalue,fnext,faddr,fhalt,ftook,fknown,ffilled⟩=(decide (ae fop=4) && (!fknown || decide (¬ fhalt=0))):=by unfold qM;simp only [ne_eq]
   obtain ⟨κ,hκ⟩:∃ κ,ae fop=κ:=⟨_,rfl⟩;obtain ⟨b4,aR⟩:∃ b4,decide (κ=4)=b4:=⟨_,rfl⟩;obtain ⟨bh,a1⟩:∃ bh,decide (¬ fhalt=0)=bh:=⟨_,rfl⟩;rw [hκ] at ak hB;rw [aR,a1] at hB;have ad:∀ (hx:qM ⟨fno,fpc,⟨fop,frd,frs1,frs2,fimm⟩,fguess,fis,fleft,fvalue,fnext,faddr,fhalt,ftook,fknown,ffilled⟩=false),∀ x∈q2.take (j+1),qM x=false:=λhx=>O8 gV.out hv hx
   have aw:=λhx=>Pa (p:=qM) hv hx
   replace aR:=V aR;replace a1:=V a1;clear hκ bd;cases b4
   .have ad:=V (ad yx)
    clear hB aw gV;go_wp2_with ((try refine zs ?_);(first|go_big_skip|refine RQ ?_|(go_at_call 39;(have D:=ak.out);(with_reducible refine (D _).mono ?_);clear D;rintro x J ⟨rfl,hb⟩;replace E:=E.grow hb;clear hb)|(refine Bc ?_;clear E;intro Z J E)|(refine aq ?_;clear E;intro vN J E)));exact MH
   .cases fknown
    .have av:=V (hR.out.trans (aa (aw yx)))
     clear hB aw ad gV;go_wp2_with ((try refine zs ?_);(first|go_big_skip|refine RX ?_|(go_at_call 39;(have D:=ak.out);(with_reducible refine (D _).mono ?_);clear D;rintro x J ⟨rfl,hb⟩;replace E:=E.grow hb;clear hb)|(refine Bc ?_;clear E;intro Z J E)|(refine aq ?_;clear E;intro vN J E)));exact Fi
    .cases bh
     .have ad:=V (ad yx)
      clear hB aw gV;go_wp2_with ((try refine zs ?_);(first|go_big_skip|refine Jq ?_|(go_at_call 39;(have D:=ak.out);(with_reducible refine (D _).mono ?_);clear D;rintro x J ⟨rfl,hb⟩;replace E:=E.grow hb;clear hb)|(refine Bc ?_;clear E;intro Z J E)|(refine aq ?_;clear E;intro vN J E)));exact MH
     .have av:=V (hR.out.trans (aa (aw yx)))
      clear hB aw ad gV;go_wp2_with ((try refine zs ?_);(first|go_big_skip|refine Jq ?_|(go_at_call 39;(have D:=ak.out);(with_reducible refine (D _).mono ?_);clear D;rintro x J ⟨rfl,hb⟩;replace E:=E.grow hb;clear hb)|(refine Bc ?_;clear E;intro Z J E)|(refine aq ?_;clear E;intro vN J E)));exact Fi
  .obtain rfl:j=i:=by omega
   have be:Hid (q2.any qM=false):=V (by
    have:=gV.out;rw [cD O] at this
    exact yM.2 λf hf=>by rw [this f hf];decide)
   have hlt:=V (show decide ((j:Int)<(j:Int))=false by simp);have av:=V (hR.out.trans (Y (by rw [be.out];decide)));clear hR gV be;have HZ:=λW=>mE (⟨op,rd,rs1,rs2,imm⟩:Ins) W
   have hsz:=uj op;have eW:0<n:=by omega
   have bx:=a0.out;have bB:=sF.out;unfold Ins.val at HZ;dsimp only at HZ;obtain ⟨sz,bi⟩:∃ sz,aU op=sz:=⟨_,rfl⟩;rw [bi] at HZ av hsz;replace HZ:=V HZ;clear bi;go_upto_region 9 with ((try refine zs ?_);(first|go_big_skip|refine El ?_|(go_at_call 39;(have D:=HK.out);(with_reducible refine (D _).mono ?_);clear D;rintro x J ⟨rfl,hb⟩;replace E:=E.grow hb;clear hb)|(refine bJ ?_;clear E;intro Z J E)|(refine aq ?_;clear E;intro vN J E)));replace E:=E.lessD (D':=[ab 17 A n c (ens q),ab 17 A j c (ens q2),ab 2 As ns cs (bD ss)]) cM;rename_i K9 bj;(try refine zs ?_);go_cut [10,11] from 54 (λs10 s11 wx=>∃ g10 g11,s10 = .pointer (some ⟨g10,0,none⟩)/\s11 = .pointer (some ⟨g11,0,none⟩)/\St w [ab 17 A n c (ens q),ab 2 As ns cs (bD ss)] wx [.blk g11 3 [I sz],.blk g10 28 [U (addr:Int)],.blk g7 9 [.string ⟨#[]⟩],.blk g6 3 [I 0]] [ab 17 A n c (ens q),ab 17 A j c (ens q2),ab 2 As ns cs (bD ss)])
   case first=>
    refine bA aj E _ _ (λ_ h=>h) (λ_ h=>h) ?_;clear E;intro E C;refine an 0 C ?_;refine an 1 C ?_;refine pz 2 C ?_;refine az 3 C ?_;refine fC 4 C ?_;refine an 5 C ?_;refine an 6 C ?_;refine pz 7 C ?_;refine az 8 C ?_;refine fC 9 C ?_;refine wpAnyH_ready (rs:=[10,11,12]) aj aF (dK F (λK X=>?_) (dK F (λK X=>?_) (dK F (λK X=>?_) AllReadyH.nil)))
    .go_wp2_with ((refine uB ?_;clear E;intro J E))
     have C:=aO C E;refine X.out _ _ C ?_;clear X;refine zs ?_;refine wpAnyH_ready (rs:=[11,12]) aj aF (dK F (λK X=>?_) (dK F (λK X=>?_) AllReadyH.nil))
     .go_wp2_with ((refine bK F E ?_;clear E;intro Z J E);refine zs ?_)
      have C:=aO C E;refine X.out _ _ C ?_;clear X;refine zs ?_;refine aB 12 (λK X=>?_);exact zT
     .go_wp2_with ((refine bK F E ?_;clear E;intro Z J E);refine zs ?_)
      have C:=aO C E;refine X.out _ _ C ?_;clear X;refine zs ?_;refine aB 11 (λK X=>?_);exact zT
    .go_wp2_with ((refine bK F E ?_;clear E;intro Z J E);refine zs ?_)
     have C:=aO C E;refine X.out _ _ C ?_;clear X;refine zs ?_;refine wpAnyH_ready (rs:=[10,12]) aj aF (dK F (λK X=>?_) (dK F (λK X=>?_) AllReadyH.nil))
     .go_wp2_with ((refine uB ?_;clear E;intro J E))
      have C:=aO C E;refine X.out _ _ C ?_;clear X;refine zs ?_;refine aB 12 (λK X=>?_);exact zT
     .go_wp2_with ((refine bK F E ?_;clear E;intro Z J E);refine zs ?_)
      exact Ir
    .go_wp2_with ((refine bK F E ?_;clear E;intro Z J E);refine zs ?_)
     have C:=aO C E;refine X.out _ _ C ?_;clear X;refine zs ?_;refine wpAnyH_ready (rs:=[10,11]) aj aF (dK F (λK X=>?_) (dK F (λK X=>?_) AllReadyH.nil))
     .go_wp2_with ((refine uB ?_;clear E;intro J E))
      have C:=aO C E;refine X.out _ _ C ?_;clear X;refine zs ?_;refine aB 11 (λK X=>?_);exact zT
     .go_wp2_with ((refine bK F E ?_;clear E;intro Z J E);refine zs ?_)
      exact Ir
   case rest=>
    obtain ⟨g10,g11,rfl,rfl,E⟩:=hcut;refine bj _ _ ?_;clear bj;(try go_wp2_with fail);go_step3;go_wp2_with ((try refine zs ?_);(first|go_big_skip|(go_at_call 203;refine (V5 _ _ _ _ _ _ _).mono ?_;rintro x WB ⟨g1,g2,rfl,hb,hk1,bk⟩;replace E:=E.grow hb)|refine nB ?_|(refine bJ ?_;clear E;intro Z J E)|(refine aq ?_;clear E;intro vN J E)));rename_i K17 a2;have b11:=E.bkAt aC
    have b10:=E.bkAt dD;have b7:=E.bkAt jh;have b6:=E.bkAt kY;have a9:w.heap.size<=g7:=(E.mu 2 _ jh).2;have a8:w.heap.size<=g6:=(E.mu 3 _ kY).2;have a3:=E.bel;have aZ:w.heap.size<=WB.heap.size:=a3.size;have bE:Rd WB WB.heap.size 17 A j c (ens q2):=E.rdA;have bF:Rd WB WB.heap.size 2 As ns cs (bD ss):=E.rdA;have hne:g6≠g7:=λe=>by
     have h1:=b6.cell 0;have h2:=b7.cell 0;rw [e] at h1;rw [h1] at h2;simp at h2
    have bl:addr<4294967296:=he.out.a;have j4:=V (QB aE.out aI.out);have bQ:=aI.out;have bR:=aE.out;have bS:=E;clear E HZ bx bB hb;refine (wpIn_wide (n:=9)).1 ?_;refine wpIn_rangeFunc_ownH (P:=Tryz.prog) (F:=Fence.wide) (n:=9) F O (gf:=214) (lb:=#[.pointer (some ⟨g1,0,none⟩),.pointer (some ⟨g2,0,none⟩)]) F di (enters_of func214 aj F)
     (QG 8 O g1 g2 A j c As ns cs q2 ss WB hk1.lt bk.lt bR O bw bQ (hk1.cell 0) (bk.cell 0) bE bF) belowK_t (belowK_b (aM _)) (qa _ _) (λ_=>rfl)
     (λpre W=>(∀ x∈pre,fO (jM x).addr (jM x).size addr sz=false)/\Below WB.heap.size WB W)
     (λcd pre W=>(cd = .ret /\ ∃ ini last,pre=ini++[last]/\(∀ x∈ini,fO (jM x).addr (jM x).size addr sz=false)/\fO (jM last).addr (jM last).size addr sz=true /\
      W.cell? ⟨g6,0,none⟩=some (I (jp addr sz [jM last]).1)/\W.cell? ⟨g7,0,none⟩=some (.string (jp addr sz [jM last]).2))/\Below w.heap.size w W)
     (OwnFrom.and (ownFrom_pure _ _) (ownFrom_below (aM _) (aM _)))
     (λcd=>OwnFrom.and (Own.from (λs A B row hs hg hr=>by obtain ⟨hc,ini,last,e1,e2,e3,e4,e5⟩:=hs;exact ⟨hc,ini,last,e1,e2,e3,cell_kept e4 hg hr,cell_kept e5 hg hr⟩) _) (ownFrom_below (aM _) aZ))
     ⟨by simp,qa _ _⟩
     (λx a' W=>∃ Bx,WB.heap.size<=Bx/\Bk W Bx 259 (jM x).cells/\a'={ tmps:=#[.slice A n c,.slice As ns cs,I (j:Int),undef,undef,undef,.pointer (some ⟨g6,0,none⟩),.pointer (some ⟨g7,0,none⟩),undef,u9,.pointer (some ⟨g10,0,none⟩),.pointer (some ⟨g11,0,none⟩),.pointer (some ⟨Bx,0,none⟩),undef,I (j:Int),.bool false,.bool false,I (j:Int),.slice A n c,I (n:Int),.bool false,.bool false,.bool false,.slice A n c,I (j:Int),cu A (j * 17),cu A (j * 17+2),.agg #[I op,I rd,I rs1,I rs2,U (imm:Int)],I 3,.bool false,.bool false,.slice A n c,I (j:Int),.slice A j c,I (j:Int),I (j:Int),.bool false,u37,u38,u39,u40,u41,u42,u43,u44,u45,u46,u47,u48,u49,u50,u51,u52,u53,u54,u55,u56,u57,u58,u59,u60,u61,u62,u63,u64,.slice A n c,I (j:Int),.slice A j c,.slice As ns cs,.func (.func 214) #[] #[.pointer (some ⟨g1,0,none⟩),.pointer (some ⟨g2,0,none⟩)],(jM x).val,u71,u72,u73,u74,u75,u76,u77,u78,u79,u80,u81,u82,u83,u84,u85,u86,u87,u88,u89,u90,u91,u92,u93,u94,u95,u96,u97,u98,u99,u100,u101,u102,u103],defers:=[] })
     (λx a' _ U' T' row hs hg hr=>by
      obtain ⟨Bx,h1,h2,h3⟩:=hs;refine ⟨Bx,h1,h2.grown hg (λe=>?_),h3⟩;obtain ⟨_,o,ho,hc⟩:=hr _ e.symm;obtain ⟨r,bm,_⟩:=h2;rw [ho] at bm;cases bm
      cases hc)
     ?assign ?body ?done ?stop
    case assign=>
     rintro l pre x W K ⟨hp,hB⟩ X;gi_wp2_with (refine M0 F 259 (.tmp 12) (.tmp 70) ax W.heap.size (jM x).cells ax ax 259 DR.cells ?_ F Xh ?_ ?_;exact Bk.new W _ DR.cells;exact (jM x).one;intro w1 hk1 cW aV bT);have ii:af W w1:=bT _ (af.alloc _ _) (aM _);exact X _ _ (sL ii _) (ii.mono hB.size) ⟨hp,hB.trans (ii.mono hB.size)⟩ ⟨_,hB.size,hk1,rfl⟩
    case body=>
     rintro l pre x a' W hl ⟨r,hr⟩ ⟨hp,hB⟩ ⟨Bx,bV,bX,rfl⟩ hlt;have j1:=QQ x;generalize hy:jM x=y at j1 bX ⊢;obtain ⟨xa,xs,xd,xt⟩:=y;obtain ⟨aV,bn,bW,bZ⟩:=j1;dsimp only at aV bn bW bZ;have c0:=bX.cell 0;have c1:=bX.cell 1;have c2:=bX.cell 2;have c3:=bX.cell 3;dsimp only [Sd.cells,List.getElem?_cons_succ,List.getElem?_cons_zero] at c0 c1 c2 c3;have ca:W.cell? ⟨g10,0,none⟩=some (U (addr:Int)):=(hB.cell (p:=⟨g10,0,none⟩) b10.lt).trans (b10.cell 0);have cn:W.cell? ⟨g11,0,none⟩=some (I sz):=(hB.cell (p:=⟨g11,0,none⟩) b11.lt).trans (b11.cell 0);have c6:W.cell? ⟨g6,0,none⟩=some (I 0):=(hB.cell (p:=⟨g6,0,none⟩) b6.lt).trans (b6.cell 0);have c7:W.cell? ⟨g7,0,none⟩=some (.string ⟨#[]⟩):=(hB.cell (p:=⟨g7,0,none⟩) b7.lt).trans (b7.cell 0);have f6:W.frozen? ⟨g6,0,none⟩=false:=(hB.frozen (p:=⟨g6,0,none⟩) b6.lt).trans (b6.frozen (i:=0) aF);have f7:W.frozen? ⟨g7,0,none⟩=false:=(hB.frozen (p:=⟨g7,0,none⟩) b7.lt).trans (b7.frozen (i:=0) aF);have a7:WB.heap.size<=W.heap.size:=hB.size;have b9:Tryz.prog.follows .mixedOrders=true:=by kernel_rfl
     have al:=λW=>RU xa xs addr sz W aV pB bl pB
     have aD:=λW=>RP xa xs addr sz W aV pB bl pB
     have hI:fO (jM x).addr (jM x).size addr sz=fO xa xs addr sz:=by rw [hy]
     have G:jp addr sz [jM x]=if fO xa xs addr sz=false then (2,⟨#[]⟩) else if nR xa xs addr sz=false\/xt=false then (0,⟨#[]⟩) else (1,xd.extract (addr - xa) (addr - xa+sz.toNat)):=by rw [hy];rfl
     have aH:nR xa xs addr sz=true->xa<=addr/\(addr:Int)+sz<=xa+xs:=λh=>by
      simp only [nR,fi,iA] at h;have h3:=h.2.2;unfold kE at h3;rw [Int.max_eq_left hsz.1,Int.max_eq_left bn] at h3;omega
     obtain ⟨lb,bo⟩:∃ b,fO xa xs addr sz=b:=⟨_,rfl⟩;obtain ⟨hb,bq⟩:∃ b,nR xa xs addr sz=b:=⟨_,rfl⟩;rw [bo] at al hI G;rw [bq] at aD G aH;replace al:=V al;replace aD:=V aD;replace hI:=V hI;replace hp:=V hp;have aY:Below w.heap.size w W:=a3.trans hB;clear bo bq hy;cases lb
     .clear G aH
      gi_wp2_with (refine ⟨di,?_⟩;gi_at_call 204;refine (CallsIn.inRound l (callsIn_wide.2 (al.out _))).mono ?_;rintro e w1 ⟨rfl,aJ⟩;have d0:=aJ.cell_of c0;have d1:=aJ.cell_of c1;have d2:=aJ.cell_of c2;have d3:=aJ.cell_of c3;have da:=aJ.cell_of ca;have dn:=aJ.cell_of cn;have d6:=aJ.cell_of c6;have d7:=aJ.cell_of c7;have e6:=(aJ.frozen (p:=⟨g6,0,none⟩) (lU _ _ c6)).trans f6;have e7:=(aJ.frozen (p:=⟨g7,0,none⟩) (lU _ _ c7)).trans f7);have hb2:Below WB.heap.size W w1:=aJ.mono a7;exact ⟨sL aJ _,hb2,λz hz=>(dv.1 hz).elim (hp.out z) (λh=>by rw [dm.1 h];exact hI.out),hB.trans hb2⟩
     .rw [Y ag] at G
      cases hb
      .rw [aa (.inl F)] at G
       exact Ke
      .cases xt
       .rw [aa (.inr F)] at G
        exact Ke
       .rw [Y (λh=>h.elim (λh=>by cases h) (λh=>by cases h))] at G
        obtain ⟨hb3,aR⟩:=aH F;replace G:=V G;obtain ⟨SM,b0⟩:∃ SM,(addr:Int) - (xa:Int)+sz=SM:=⟨_,rfl⟩;have L:Hid (∀ W:World,(Instr.sliceAt 9 (.string xd) (some (I ((addr:Int) - (xa:Int)))) (some (I SM)) none).run Tryz.prog W = .ok (.string (xd.extract (addr - xa) (addr - xa+sz.toNat))) W):=V λW=>by
         have e1:(addr:Int) - (xa:Int)=((addr - xa:Nat):Int):=by omega
         have e2:sz=((sz.toNat:Nat):Int):=by omega
         rw [run_sliceAt_string (P:=Tryz.prog) W 9 _ _ _ _ underlying9,<- b0,e1,e2];exact De (P:=Tryz.prog) 9 underlying9 xd (addr - xa) sz.toNat O W
        gi_wp2_with (first|(refine ⟨di,?_⟩;gi_at_call 204;refine (CallsIn.inRound l (callsIn_wide.2 (al.out _))).mono ?_;rintro e w1 ⟨rfl,aJ⟩;have d0:=aJ.cell_of c0;have d1:=aJ.cell_of c1;have d2:=aJ.cell_of c2;have d3:=aJ.cell_of c3;have da:=aJ.cell_of ca;have dn:=aJ.cell_of cn;have d6:=aJ.cell_of c6;have d7:=aJ.cell_of c7;have e6:=(aJ.frozen (p:=⟨g6,0,none⟩) (lU _ _ c6)).trans f6;have e7:=(aJ.frozen (p:=⟨g7,0,none⟩) (lU _ _ c7)).trans f7)|(refine ⟨di,?_⟩;gi_at_call 205;refine (CallsIn.inRound l (callsIn_wide.2 (aD.out _))).mono ?_;rintro e w2 ⟨rfl,hb2⟩;have k0:=hb2.cell_of d0;have k1:=hb2.cell_of d1;have k2:=hb2.cell_of d2;have k3:=hb2.cell_of d3;have ka:=hb2.cell_of da;have kn:=hb2.cell_of dn;have k6:=hb2.cell_of d6;have k7:=hb2.cell_of d7;have m6:=(hb2.frozen (p:=⟨g6,0,none⟩) (lU _ _ d6)).trans e6;have m7:=(hb2.frozen (p:=⟨g7,0,none⟩) (lU _ _ d7)).trans e7));have E:=bS.adopt ((show af WB W from hB).trans (aJ.trans hb2)) (bX.bel (aJ.trans hb2)) bV;have br:=sL (aJ.trans hb2) WB.heap.size;replace E:=E.keeps WB.heap.size aZ;refine h1i (by rintro ⟨_,_,h⟩;exact h) aj aj E [.blk Bx 259 [U (xa:Int),I xs,.string xd,.bool true],.blk g11 3 [I sz]] _ cM (by first|exact λ_ h=>h|((repeat (first|exact cE|refine eZ au ?_)) <;> exact cE)) ?_;clear E;intro E C;refine az 0 C ?_;refine fC 1 C ?_;refine an 2 C ?_;refine an 3 C ?_;refine fC 4 C ?_
        first|(refine eu (i:=5) F (rL F F F) C ?_;refine zs ?_)|(refine eu (i:=5) F (sb F F F) C ?_;refine zs ?_)|refine zp 5 C ?_
        refine wpAnyH_ready (rs:=[6,7]) aj aF (dK F (λK X=>?_) (dK F (λK X=>?_) AllReadyH.nil))
        .go_wp2_with ((first|((refine vD F F F F L ?_);refine zs ?_)|((first|refine aL ?_|(refine am ?_;clear E;intro Z J E));refine zs ?_)))
         have C:=aO C E;refine X.out _ _ C ?_;clear X;refine zs ?_;refine aB 7 (λK X=>?_);go_wp2_with ((first|((refine vD F F F F L ?_);refine zs ?_)|(refine bz F E F F ?_;clear E;intro J E)|(refine aW F E F F ?_;clear E;intro J E)|(refine ju F E F F ?_;clear E;intro J E));refine zs ?_);exact JS
        .go_wp2_with ((first|((refine vD F F F F L ?_);refine zs ?_)|(refine bz F E F F ?_;clear E;intro J E)|(refine aW F E F F ?_;clear E;intro J E)|(refine ju F E F F ?_;clear E;intro J E));refine zs ?_)
         have C:=aO C E;refine X.out _ _ C ?_;clear X;refine zs ?_;refine aB 6 (λK X=>?_);go_wp2_with ((first|((refine vD F F F F L ?_);refine zs ?_)|((first|refine aL ?_|(refine am ?_;clear E;intro Z J E));refine zs ?_)));exact JS
    case done=>
     rintro DD ys W hD rfl ⟨hp,hB⟩ X;refine a2 _ _ ?_;have a4:=V (av.out.trans (It _ λx hx=>by have h:=hp x hx;rwa [yj (j4.out x hx)] at h));have c6:W.cell? ⟨g6,0,none⟩=some (I 0):=(hB.cell (p:=⟨g6,0,none⟩) b6.lt).trans (b6.cell 0);have c7:W.cell? ⟨g7,0,none⟩=some (.string ⟨#[]⟩):=(hB.cell (p:=⟨g7,0,none⟩) b7.lt).trans (b7.cell 0);have f6:W.frozen? ⟨g6,0,none⟩=false:=(hB.frozen (p:=⟨g6,0,none⟩) b6.lt).trans (b6.frozen (i:=0) aF);have f7:W.frozen? ⟨g7,0,none⟩=false:=(hB.frozen (p:=⟨g7,0,none⟩) b7.lt).trans (b7.frozen (i:=0) aF);have aY:Below w.heap.size w W:=a3.trans hB;clear hp a2;go_wp2;have b1:=(KeepsOthers.setCell W ⟨g6,0,none⟩ (I 2)).same DD _ X F;have aX:=(KeepsOthers.setCell _ ⟨g7,0,none⟩ (.string ⟨#[]⟩)).same DD _ b1 F;have d6:=Fy hne c6 c7 (I 2) (.string ⟨#[]⟩);have d7:=Mc hne c6 c7 (I 2) (.string ⟨#[]⟩);refine ⟨by simp,.inl ⟨_,_,rfl,run_takeDeferred aX,?_⟩⟩;have e6:=cell_kept d6 (grownBy_putObj' _ DD (.deferred none)) (λr e=>by cases e;exact ⟨_,aX,rfl⟩);have e7:=cell_kept d7 (grownBy_putObj' _ DD (.deferred none)) (λr e=>by cases e;exact ⟨_,aX,rfl⟩);refine ⟨.tuple #[I 2,.string ⟨#[]⟩],DZ F F e6 e7,⟨by rw [a4.out],?_⟩⟩;exact ((aY.setCell (p:=⟨g6,0,none⟩) a8 _).setCell (p:=⟨g7,0,none⟩) a9 _).trans (belowK_b (w:=w) (aM _) _ DD _ _ O aX F F)
    case stop=>
     rintro DD cd pre W hD ⟨rest,j2⟩ ⟨⟨rfl,ini,last,rfl,e2,e3,H,h7⟩,hB⟩ X;have a5:∀ x,x∈ini++[last]->x∈lg q2 ss:=λx hx=>by rw [<- j2];exact rz _ hx
     rw [yj (j4.out last (a5 last aF))] at e3 H h7;have a6:=L0 (rest:=rest) e3 ini (λx hx=>by have h:=e2 x hx;rwa [yj (j4.out x (a5 x (by simp [hx])))] at h);rw [show ini++last::rest=lg q2 ss by rw [<- j2];simp] at a6;have a4:=V (av.out.trans a6);clear e2 e3 j2 a6 a5 a2;gi_wp2;refine ⟨by simp,.inl ⟨_,_,rfl,run_takeDeferred X,?_⟩⟩;have e6:=cell_kept H (grownBy_putObj' _ DD (.deferred none)) (λr e=>by cases e;exact ⟨_,X,rfl⟩);have e7:=cell_kept h7 (grownBy_putObj' _ DD (.deferred none)) (λr e=>by cases e;exact ⟨_,X,rfl⟩);refine ⟨.tuple #[I (jp addr sz [last]).1,.string (jp addr sz [last]).2],DZ F F e6 e7,⟨by rw [a4.out],?_⟩⟩;exact hB.trans (belowK_b (w:=w) (aM _) W DD _ _ O X F F)
end
end Go.Proofs.YtgnomadgnciifaaGreatDoor
