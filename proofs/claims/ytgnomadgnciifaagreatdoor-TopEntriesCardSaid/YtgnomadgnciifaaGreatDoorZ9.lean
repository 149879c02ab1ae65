/- . -/
import Derived.Test.YtgnomadgnciifaaGreatDoorZ8
set_option linter.all false
set_option maxRecDepth 100000
set_option maxHeartbeats 16000000
namespace Go.Proofs.YtgnomadgnciifaaGreatDoor
variable {p:Prop}
open Go.Proofs.Tryz
def Lw (h:p:=by
 go_enter func177,ntmps177;go_wp2_with ((first|(refine Dh ?_;clear E;intro J E)|((refine gj (cs:=e.cells) F E F ?_);clear E;intro Z J E;(try refine zs ?_))|((refine du (v:=e.inst.val) (n:=5) F E F ?_ (hn:=ce F));(try refine zs ?_))|((first|refine aA ?_|(refine am ?_;clear E;intro Z J E));refine zs ?_)));obtain ⟨A2,c2,hA,E⟩:=E.freeze 0 aC
 injection hA with e1 _ e2;go_ret
 exact ⟨A2,c2,by rw [<- e1,<- e2];rfl,E.outA⟩):=h
def G6 (h:p:=by
 go_wp2_with ((first|(go_at_call 80;refine E.cB (HF.out _ (ei (E.dat _ au) (E.dat _ au))) ?_;clear E;intro J E)|(go_at_call 63;refine (HL.out _).mono ?_;rintro e J ⟨rfl,d,rfl⟩;replace E:=E.grow (af.drewN _ d))|((first|refine aA ?_|(refine am ?_;clear E;intro Z J E));refine zs ?_)));((try simp only [Exit.inBlock,Exit.then]);refine bc (oS F E) F ?_)
 exact ⟨rfl,E.bel⟩):=h
def Fa (h:p:=by
 clear o3;go_enter func212,ntmps212;(go_wp2_with ((first|((refine gj (cs:=i.cells) F E F ?_);clear E;intro Z J E;(try refine zs ?_))|(go_at_call 219;refine (HT.out _).mono ?_;rintro x J ⟨rfl,rfl⟩)|((first|refine aA ?_|(refine am ?_;clear E;intro Z J E));refine zs ?_))));go_ret
 exact ⟨dI (by rw [hV.out];exact wB _ _),E.bel⟩):=h
def Lq (h:p:=by
 go_enter func133,ntmps133;go_wp2_with ((first|(refine DI ?_;clear E;intro J E)|((refine fA (us:=e.cells) (v:=e.val) (hu:=Rows.sub (f:=ens) hu) F E F ?_);refine zs ?_)|((first|refine aA ?_|(refine am ?_;clear E;intro Z J E));refine zs ?_)));go_ret
 exact ⟨rfl,E.bel⟩):=h
def Ju (h:p:=by
 go_wp2_with (((first|refine aA ?_|(refine am ?_;clear E;intro Z J E));refine zs ?_));((try simp only [Exit.inBlock,Exit.then]);refine bc (oS F E) F ?_)
 exact ⟨rfl,E.bel⟩):=h
def IB (h:p:=by
 obtain ⟨hl,e⟩:=aK.1 hv;rw [iE hl];intro u hu;rcases dv.1 hu with hu|hu
 .exact h u hu
 .obtain rfl:=dm.1 hu
  rw [e];exact hd):=h
section

def DG (n k:Nat) (v:Wy):Prop:=v.line % 16=0/\v.line / 16 % n=k/\(v.data.size=0\/v.data.size=16)
def Ni {n ways k ws}:lP n ways k ws↔(ws.length:Int)<=ways/\(∀ v∈ws,DG n k v)/\(ws.map Wy.line).Nodup:=by
 constructor
 .rintro ⟨h1,h2⟩
  refine ⟨h1,λv hv=>?_,?_⟩
  .obtain ⟨i,hi⟩:=oh.1 hv
   obtain ⟨a,b,c,_⟩:=h2 i v hi;exact ⟨a,b,c⟩
  .rw [List.nodup_iff_pairwise_ne,List.pairwise_map,List.pairwise_iff_getElem]
   intro i j hi hj hij;exact (h2 j _ (ba hj)).2.2.2 i hij _ (ba hi)
 .rintro ⟨h1,h2,h3⟩
  refine ⟨h1,λi v hv=>?_⟩;obtain ⟨a,b,c⟩:=h2 v (aQ hv);refine ⟨a,b,c,λj hj u hu=>?_⟩;rw [List.nodup_iff_pairwise_ne,List.pairwise_map,List.pairwise_iff_getElem] at h3;obtain ⟨hi,e1⟩:=aK.1 hv;obtain ⟨ad,e2⟩:=aK.1 hu;have:=h3 j i ad hi hj
  rwa [e1,e2] at this
def Io {ws:List Wy}{i v}(h:ws[i]?=some v):ws=ws.take i++v::ws.drop (i+1):=by
 obtain ⟨hl,e⟩:=aK.1 h
 conv=>lhs;rw [<- sR i ws,mn hl,e]
def Ek {n ways k ws}(h:lP n ways k ws){i v u}(hv:ws[i]?=some v)(hl:u.line=v.line)(hd:u.data.size=0\/u.data.size=16):lP n ways k (fG ws i u):=by
 rw [Ni] at h ⊢;obtain ⟨h1,h2,h3⟩:=h;have e:=Io hv;have hp:(ws.map Wy.line).Perm ((fG ws i u).map Wy.line):=by
  conv=>lhs;rw [e]
  simp only [fG,kg,nM,hl];exact List.perm_middle
 refine ⟨?_,λx hx=>?_,hp.nodup_iff.1 h3⟩
 .have:=hp.length_eq
  rw [gq,gq] at this;omega
 .rcases bB.1 hx with rfl|hx
  .obtain ⟨a,b,_⟩:=h2 v (aQ hv)
   exact ⟨by rw [hl];exact a,by rw [hl];exact b,hd⟩
  .refine h2 x ?_
   rcases dv.1 hx with h|h
   .exact jE h
   .exact sU h
def Gh {n ways k ws}(h:lP n ways k ws)(il:(ws.length:Int)+1<=ways){u}(hu:DG n k u)(hn:pP ws u.line):lP n ways k (u::ws):=by
 rw [Ni] at h ⊢;obtain ⟨h1,h2,h3⟩:=h;refine ⟨by rw [ft];omega,λx hx=>?_,?_⟩
 .rcases bB.1 hx with rfl|hx
  .exact hu
  .exact h2 x hx
 .rw [kg,List.nodup_cons]
  refine ⟨λhm=>?_,h3⟩;obtain ⟨v,hv,e⟩:=fQ.1 hm;exact hn v hv e
def zl {n:Nat} {ways:Int} {k:Nat} {ws:List Wy} (h:lP n ways k ws) (l:Nat):lP n ways k (ws.take l):=by
 refine ⟨by have:=h.1;rw [cK];omega,λi v hv=>?_⟩;have hi:i<l:=by
  have:=(aK.1 hv).1;rw [cK] at this;omega
 rw [pS hi] at hv;obtain ⟨a,b,c,d⟩:=h.2 i v hv;exact ⟨a,b,c,λj hj u hu=>d j hj u (by rwa [pS O] at hu)⟩
def bj.set_ {ways C}(h:bj ways C){k ws}(hw:lP C.length ways k ws):bj ways (C.set k ws):=by
 refine ⟨by rw [cw];exact h.hn,h.hw,λj s hs=>?_⟩;rw [cw];by_cases hj:k=j
 .subst hj
  have hl:k<C.length:=by have:=(aK.1 hs).1;rwa [cw] at this
  rw [jQ hl] at hs;injection hs with hs;rw [<- hs];exact hw
 .rw [mS hj] at hs
  exact h.hs j s hs
def DT (d):(fD d).size=0\/(fD d).size=16:=by
 unfold fD;split
 .exact .inr bI
 .exact .inl F
def La {ways C x k i b}(h:fE ways C x k i b)(hR:bj ways C)(d D)(hD:D.size=0\/D.size=16):DG C.length k ⟨x - x % 16,d,D⟩ :=
 ⟨by show (x - x % 16) % 16=0;omega,by rw [<- (h.set_ hR).1];show (x - x % 16) / 16 % _=_;congr 1;omega,hD⟩
def fE.notIn {ways C x k i}(h:fE ways C x k i false)(hR:bj ways C){ws}(hw:C[k]?=some ws):pP ws (x - x % 16):=by
 obtain ⟨_,ws',bN,_,hs⟩:=h.set_ hR;rw [hw] at bN;injection bN with bN;subst bN;rcases hs with ⟨hb,_⟩|⟨_,_,h⟩
 .cases hb
 .exact h
def fE.size {ways C x k i}(h:fE ways C x k i true){ws v}(hw:C[k]?=some ws)(hv:ws[i]?=some v):v.data.size=0\/v.data.size=16:=((h.at_.1.hs k ws hw).2 i v hv).2.2.1
def mC.right {ways C C' x}(h:mC ways C x C')(hR:bj ways C):bj ways C':=by
 cases h with
 | no k i h he=>subst he;exact hR
 | yes k i h ws v hw hv he=>
  subst he;exact hR.set_ (Ek (hR.hs k ws hw) hv F (h.size hw hv))
def oJ.right {ways C C' x data dirty iw went}(h:oJ ways C x data dirty C' iw went)(hR:bj ways C):bj ways C':=by
 cases h with
 | no h he hg hb=>subst he;exact hR
 | hit k i h ws v hw hv he hg hb=>
  subst he;refine hR.set_ (Ek (hR.hs k ws hw) hv F ?_);dsimp only;split
  .exact .inr bI
  .exact h.size hw hv
 | room k i _ h ws hw hl he hg hb=>
  subst he;exact hR.set_ (Gh (hR.hs k ws hw) O (La h hR dirty _ (DT data)) (h.notIn hR hw))
 | full k i _ h ws hw hl l hl1 a2 he hb=>
  subst he;exact hR.set_ (Gh (zl (hR.hs k ws hw) l) sS (La h hR dirty _ (DT data)) (QR (h.notIn hR hw)))
def mC.cok {ways C C' x}(h:mC ways C x C')(ho:fX C):fX C':=by
 cases h with
 | no k i h he=>subst he;exact ho
 | yes k i h ws v hw hv he=>
  subst he;have:=ho.at_ hw;refine ho.set k λu hu=>?_
  rcases bB.1 hu with rfl|hu
  .exact this _ (aQ hv)
  .rcases dv.1 hu with h|h
   .exact this u (jE h)
   .exact this u (sU h)
def oJ.cok {ways C C' x data dirty iw went}(h:oJ ways C x data dirty C' iw went)(ho:fX C)(hx:x<4294967296)(hd:data.size<=maxLen):fX C':=by
 have ht:(fD data).size<=maxLen:=by
  rcases DT data with h|h <;> rw [h] <;> decide
 cases h with
 | no h he hg hb=>subst he;exact ho
 | hit k i h ws v hw hv he hg hb=>
  subst he;have:=ho.at_ hw;refine ho.set k λu hu=>?_
  rcases bB.1 hu with rfl|hu
  .have eM:=this _ (aQ hv)
   refine ⟨eM.1,?_⟩;dsimp only;split
   .exact hd
   .exact eM.2
  .rcases dv.1 hu with h|h
   .exact this u (jE h)
   .exact this u (sU h)
 | room k i _ h ws hw hl he hg hb=>
  subst he;refine ho.set k λu hu=>?_
  rcases bB.1 hu with rfl|hu
  .exact ⟨by show x - x % 16<_;omega,ht⟩
  .exact ho.at_ hw u hu
 | full k i _ h ws hw hl l hl1 a2 he hb=>
  subst he;refine ho.set k λu hu=>?_
  rcases bB.1 hu with rfl|hu
  .exact ⟨by show x - x % 16<_;omega,ht⟩
  .exact ho.at_ hw u (jE hu)
end
section
open Go.RowKit Go.Sort
section
variable {P:Program} {ops:Array Oper} {rest:List Oper} {o:Oper} {a:Act} {Q:Exit->Act->World->Prop} {w0 w:World} {D0 D:List Da} {M:List Mu}
def XE {w t e k0 k bytes}(ht:bF P t e (.int k0 0) 1 bytes)(p q):(Instr.buildSlice t 2 #[(0,.int k p),(1,.int k q)]).run P w = .ok (.slice (some ⟨w.heap.size,0,none⟩) 2 2) (w.alloc (.cells #[.int k p,.int k q] e)):=by
 obtain ⟨hu,hi,hz,hp⟩:=ht;obtain ⟨i,a3,a4,cW,_⟩:=info_parts hi;refine run_buildSlice w t e 2 _ #[.int k p,.int k q] i (.int k0 0) hu a3 a4 qz qz ?_;rw [cW,show Array.range (2 * 1)=#[0,1] from rfl];simp [Instr.fill,Value.cells]
def TQ {t e:TypeId} {x y:Operand} {k0 k:IntKind} {bytes:Nat} {p q:Int} (ho:o.op = .buildSlice t 2 #[(0,x),(1,y)]) (E:St w0 D0 w M D) (hx:ac a x=some (.int k p)) (hy:ac a y=some (.int k q))(h:∀ g w',St w0 D0 w' (.own (.slice (some ⟨g,0,none⟩) 2 2) e 1 2 [.int k p,.int k q]::M) D->wpList P ops Q rest (a.put o.dst (.slice (some ⟨g,0,none⟩) 2 2)) w') (ig:o.guard=none:=by rfl) (ht:bF P t e (.int k0 0) 1 bytes:=by exact fS _ _ _ _ _ rfl):wpList P ops Q (o::rest) a w:=by
 refine kr ig λK X=>?_
 have a5:St w0 D0 (w.alloc (.cells #[.int k p,.int k q] e)) (.own (.slice (some ⟨w.heap.size,0,none⟩) 2 2) e 1 2 [.int k p,.int k q]::M) D :=
  E.push _ (lV (af.alloc w _) none) ⟨rfl,.inr ⟨w.heap.size,2,#[.int k p,.int k q],rfl,E.bel.size,qW w _,aM _,by simp [maxLen],rfl,rfl⟩⟩ λg hg=>by simp only [Mu.bl,Value.ownBlock,dF] at hg;omega
 have hk:=X _ _ (h _ _ a5);replace hx:=ap hx;replace hy:=ap hy;unfold Oper.wp execOp;simp only [ho,nj,kg,mf,hx,hy,XE ht,bC,bL,bG];exact hk
end
def Xy (e w)(hi:cQ e.inst.op):Ca 174 #[e.val] w (RB w (.bool (uF e))):=by
 have E:=St.start w [] zN;have aD:e.val.cells=e.cells.toArray:=rfl;obtain ⟨b,hb⟩:∃ b,uF e=b:=⟨_,rfl⟩;rw [hb];have HK:=V (λW=>ec e.inst W hi);unfold uF at hb;rcases wJ e.inst.op with hk|hk|hk|hk|hk|hk|hk
 all_goals
  rw [hk] at HK hb;clear hk;simp at hb;subst hb;go_enter func174,ntmps174;go_wp2_with ((first|(refine xC ?_;clear E;intro J E)|((refine gj (cs:=e.cells) F E F ?_);clear E;intro Z J E;(try refine zs ?_))|((refine du (v:=e.inst.val) (n:=5) F E F ?_ (hn:=ce F));(try refine zs ?_))|((first|refine aA ?_|(refine am ?_;clear E;intro Z J E));refine zs ?_)));go_ret;exact ⟨rfl,E.bel⟩
def Sf (e w)(hi:cQ e.inst.op):Ca 177 #[e.val] w λx w'=>∃ A2 c2,x = .returned (.slice A2 (mD e).length c2)/\Out w [] w' [ab 1 A2 (mD e).length c2 (aE (mD e))]:=by
 have E:=St.start w [] zN;have aD:e.val.cells=e.cells.toArray:=rfl;have HK:=V (λW=>ec e.inst W hi);have mW:=V (λW=>xB e.inst W);have HN:=V (show mD e=if ae e.inst.op=3\/ae e.inst.op=4 then [e.inst.rs1] else [e.inst.rs1,e.inst.rs2] from rfl);obtain ⟨L,hL⟩:∃ L,mD e=L:=⟨_,rfl⟩;rw [hL] at HN ⊢;clear hL;by_cases h3:ae e.inst.op=3
 .obtain rfl:L=[e.inst.rs1]:=by rw [HN.out,aa (.inl h3)]
  rw [h3] at HK;clear HN h3;exact Lw
 .by_cases h4:ae e.inst.op=4
  .obtain rfl:L=[e.inst.rs1]:=by rw [HN.out,aa (.inr h4)]
   rw [h4] at HK;clear HN h4 h3;exact Lw
  .obtain rfl:L=[e.inst.rs1,e.inst.rs2]:=by rw [HN.out,Y O]
   generalize ae e.inst.op=kd at *;clear HN;go_enter func177,ntmps177;go_wp2_with ((first|(refine Dh ?_;clear E;intro J E)|(refine TQ F E F F ?_;clear E;intro Z J E;(try refine zs ?_))|((refine gj (cs:=e.cells) F E F ?_);clear E;intro Z J E;(try refine zs ?_))|((refine du (v:=e.inst.val) (n:=5) F E F ?_ (hn:=ce F));(try refine zs ?_))|((refine qi F F F ?_);refine zs ?_)|((first|refine aA ?_|(refine am ?_;clear E;intro Z J E));refine zs ?_)));obtain ⟨A2,c2,hA,E⟩:=E.freeze 0 aC
   injection hA with e1 _ e2;go_ret;exact ⟨A2,c2,by rw [<- e1,<- e2];rfl,E.outA⟩
def Nl {g4 g5 A n c q i reg w}(aH:Bk w g4 31 [.slice A n c])(aX:Bk w g5 3 [I i])(hr:Rd w w.heap.size 17 A n c (ens q))(hq:dp q)(hn:n<=1000)(hi:cQ i)(hg:cQ reg):Ca 175 #[I reg,.pointer (some ⟨g4,0,none⟩),.pointer (some ⟨g5,0,none⟩)] w (RB w (.bool (!oQ q i reg))):=by
 have c4:=aH.cell 0;have c5:=aX.cell 0;dsimp only [List.getElem?_cons_zero] at c4 c5;have HT:=V (Pf A n c i reg q w hr hq hn hi hg);clear hr aH aX;go_enter func175,ntmps175;go_wp2_with (go_at_call 176;refine HT.out.mono ?_;rintro x J ⟨rfl,hb⟩);go_ret;exact ⟨rfl,hb⟩
def T6 (mode:Int) (A:Option Addr) (n c:Nat) (q:List En) (i:Nat) (e:En) (w:World) (hr:Rd w w.heap.size 17 A n c (ens q)) (hq:dp q) (hn:n<=1000) (hu:q[i]?=some e) :Ca 133 #[I mode,.slice A n c,I (i:Int)] w (RB w (.bool (qG mode q i e))):=by
 have E:=St.start w [ab 17 A n c (ens q)] (zC hr zN);have bh:=hr.enslen;have hin:i<n:=by have:=(aK.1 hu).1;omega
 have j1:=hq e (aQ hu);have hi:cQ (i:Int):=⟨by omega,by omega⟩;have Ag:=V (λW=>Xy e W j1.op);have a6:=V (λW=>Sf e W j1.op);have HV:=V (λW (h:Rd W W.heap.size 17 A n c (ens q))=>D9 A n c q i W h hq O);have HM:=V (show qG mode q i e=if uF e=false then true else if mode=0 then true else if mode=1 then (mD e).all (λr=>!oQ q i r) else if mode=2 then decide (i<=eV q) else false from rfl);have a7:∀ r∈mD e,cQ r:=λr hr=>by
  unfold mD at hr;split at hr
  .rw [dm.1 hr];exact j1.rs1
  .rcases bB.1 hr with h|h
   .rw [h];exact j1.rs1
   .rw [dm.1 h];exact j1.rs2
 have hnl:(mD e).length<=2:=by unfold mD;split <;> simp
 obtain ⟨R,hR⟩:∃ R,qG mode q i e=R:=⟨_,rfl⟩;rw [hR] at HM ⊢;cases ht:uF e
 .obtain rfl:R=true:=by rw [HM.out,aa ht]
  rw [ht] at Ag;clear HM hR ht;exact Lq
 .rw [ht] at Ag HM
  clear hR ht;by_cases h0:mode=0
  .subst h0
   obtain rfl:R=true:=by rw [HM.out];rfl
   clear HM;exact Lq
  .by_cases h1:mode=1
   .subst h1
    obtain rfl:R=(mD e).all (λr=>!oQ q i r):=by rw [HM.out];rfl
    clear HM;generalize mD e=L at *;go_enter func133,ntmps133;go_wp2_with ((first|(refine DI ?_;clear E;intro J E)|(go_at_call 177;refine (a6.out _).mono ?_;rintro x J ⟨A2,c2,rfl,G⟩;replace E:=E.call1A G;clear G)|((refine fA (us:=e.cells) (v:=e.val) (hu:=Rows.sub (f:=ens) hu) F E F ?_);refine zs ?_)|((first|refine aA ?_|(refine am ?_;clear E;intro Z J E));refine zs ?_)));obtain ⟨g5,g4,rfl,rfl⟩:=E.names2;go_loopw [36] (λix wr=>∃ j:Nat,j<=L.length/\ix = I (j:Int)/\(∀ r∈L.take j,oQ q i r=false)/\St w [ab 17 A n c (ens q)] wr [.blk g5 3 [I (i:Int)],.blk g4 31 [.slice A n c]] [ab 1 A2 L.length c2 (aE L),ab 17 A n c (ens q)]) (λix _=>L.length - (intOf ix).toNat);case atStart=>exact ⟨0,by omega,rfl,by simp,E⟩
    case round=>
     obtain ⟨j,hj,rfl,hall,E⟩:=hrel;by_cases a8:j<L.length
     .obtain ⟨r,av⟩:∃ r,L[j]?=some r:=⟨_,ba a8⟩
      have hv:(aE L)[j * 1]?=some (I r):=by rw [dP];exact pA av
      have bi:=a7 r (aQ av);have HJ:=V av;replace hall:=V hall;cases aY:oQ q i r
      .have a9:=V aY
       go_wp2_with ((first|(go_at_call 175;refine E.cB (Nl (E.bk au) (E.bk au) E.rdA hq hn bI bI) ?_;clear E;intro J E)|((first|refine aA ?_|(refine am ?_;clear E;intro Z J E));refine zs ?_)));go_roundw;case rel=>
        refine ⟨j+1,by omega,by go_num,λx hx=>?_,E⟩;rw [List.take_add_one,HJ.out] at hx;rcases dv.1 hx with h|h
        .exact hall.out x h
        .have h':x=r:=by simpa using h
         rw [h'];exact a9.out
       case measure=>exact zM
      .have aI:=V (show L.all (λr=>!oQ q i r)=false by
        rw [List.all_eq_false]
        exact ⟨r,aQ av,by simp [aY]⟩)
       go_wp2_with ((first|(go_at_call 175;refine E.cB (Nl (E.bk au) (E.bk au) E.rdA hq hn bI bI) ?_;clear E;intro J E)|((first|refine aA ?_|(refine am ?_;clear E;intro Z J E));refine zs ?_)));go_ret;exact ⟨by rw [aI.out];rfl,E.bel⟩
     .obtain rfl:j=L.length:=by omega
      rw [lK] at hall
      have aI:=V (show L.all (λr=>!oQ q i r)=true by
       rw [uS]
       exact λr hr=>by simp [hall r hr])
      clear hall;go_wp2_with (((first|refine aA ?_|(refine am ?_;clear E;intro Z J E));refine zs ?_));go_ret;exact ⟨by rw [aI.out];rfl,E.bel⟩
   .by_cases h2:mode=2
    .subst h2
     obtain rfl:R=decide (i<=eV q):=by rw [HM.out];rfl
     clear HM;generalize eV q=f at *;go_enter func133,ntmps133;go_wp2_with ((first|(refine g3f ?_;clear E;intro J E)|((refine fA (us:=e.cells) (v:=e.val) (hu:=Rows.sub (f:=ens) hu) F E F ?_);refine zs ?_)|((first|refine aA ?_|(refine am ?_;clear E;intro Z J E));refine zs ?_)));go_ret;exact ⟨by simp,E.bel⟩
    .obtain rfl:R=false:=by rw [HM.out,Y aF,Y h0,Y h1,Y h2]
     clear HM;go_enter func133,ntmps133;go_wp2_with ((first|(refine DI ?_;clear E;intro J E)|((refine fA (us:=e.cells) (v:=e.val) (hu:=Rows.sub (f:=ens) hu) F E F ?_);refine zs ?_)|((refine qi F F F ?_);refine zs ?_)|((first|refine aA ?_|(refine am ?_;clear E;intro Z J E));refine zs ?_)));go_ret;exact ⟨rfl,E.bel⟩
end
section
open Go.RowKit Go.Sort
def jG (ws:List Wy):Prop:=∀ v∈ws,v.dirty=false
inductive uX (ways:Int) (C:List (List Wy)) (v:Wy) (b:Bool):Prop
 | no (h:¬ bj ways C) (hv:v=⟨0,false,⟨#[]⟩⟩) (hb:b=false)
 | none (h:bj ways C) (hc:∀ ws∈C,jG ws) (hv:v=⟨0,false,⟨#[]⟩⟩) (hb:b=false)
 | one (h:bj ways C) (k j:Nat) (ws:List Wy) (hk:∀ us∈C.take k,jG us) (hw:C[k]?=some ws) (hj:jG (ws.take j)) (hv:ws[j]?=some v) (hd:v.dirty=true) (hb:b=true)
def Xs (ws):jG ws \/ ∃ j v,jG (ws.take j)/\ws[j]?=some v/\v.dirty=true:=by
 induction ws with
 | nil=>exact .inl λv hv=>by cases hv
 | cons x r ih=>
  cases hx:x.dirty
  .rcases ih with h|⟨j,v,h1,h2,h3⟩
   .refine .inl λv hv=>?_
    rcases bB.1 hv with rfl|hv
    .exact hx
    .exact h v hv
   .refine .inr ⟨j+1,v,λu hu=>?_,by simpa using h2,h3⟩
    rw [uT] at hu;rcases bB.1 hu with rfl|hu
    .exact hx
    .exact h1 u hu
  .exact .inr ⟨0,x,λv hv=>by simp at hv,rfl,hx⟩
def h6l (C:List (List Wy)):(∀ ws∈C,jG ws) \/ ∃ k j ws v,(∀ us∈C.take k,jG us)/\C[k]?=some ws/\jG (ws.take j)/\ws[j]?=some v/\v.dirty=true:=by
 induction C with
 | nil=>exact .inl λv hv=>by cases hv
 | cons x r ih=>
  rcases Xs x with hx|⟨j,v,h1,h2,h3⟩
  .rcases ih with h|⟨k,j,ws,v,h1,h2,h3⟩
   .refine .inl λv hv=>?_
    rcases bB.1 hv with rfl|hv
    .exact hx
    .exact h v hv
   .refine .inr ⟨k+1,j,ws,v,λu hu=>?_,by simpa using h2,h3⟩
    rw [uT] at hu;rcases bB.1 hu with rfl|hu
    .exact hx
    .exact h1 u hu
  .exact .inr ⟨0,j,x,v,λv hv=>by simp at hv,rfl,h1,h2,h3⟩
def h6m {ws:List Wy}{j v}(h:jG (ws.take j))(hv:ws[j]?=some v)(hd:v.dirty=false):jG (ws.take (j+1)):=by
 exact IB
def QT {C:List (List Wy)}{j v}(h:∀ us∈C.take j,jG us)(hv:C[j]?=some v)(hd:jG v):∀ us∈C.take (j+1),jG us:=by
 exact IB
def uX.at_ {ways C v u b}(h:uX ways C v b)(hR:bj ways C){k j ws}(hk:∀ us∈C.take k,jG us)(hw:C[k]?=some ws)(hj:jG (ws.take j))(hu:ws[j]?=some u)(hd:u.dirty=true):v=u/\b=true:=by
 have aw {i k:Nat} {α:Type} {l:List α} {x:α} (hx:l[i]?=some x) (hik:i<k):x∈l.take k:=by
  obtain ⟨hl,e⟩:=aK.1 hx;rw [<- e];exact List.mem_take_iff_getElem.2 ⟨i,by omega,rfl⟩
 cases h with
 | no h hv hb=>exact absurd hR h
 | none h hc hv hb=>have:=hc ws (aQ hw) u (aQ hu);rw [hd] at this;cases this
 | one h k' j' ws' aO bN ad eM ak hb=>
  refine ⟨?_,hb⟩;rcases wM k k' with hl|rfl|hl
  .have:=aO ws (aw hw hl) u (aQ hu);rw [hd] at this;cases this
  .rw [hw] at bN;injection bN with bN;subst bN
   rcases wM j j' with hl|rfl|hl
   .have:=ad u (aw hu hl);rw [hd] at this;cases this
   .rw [hu] at eM;injection eM with eM;exact eM.symm
   .have:=hj v (aw eM hl);rw [ak] at this;cases this
  .have:=hk ws' (aw bN hl) v (aQ eM);rw [ak] at this;cases this
def uX.end_ {ways C v b}(h:uX ways C v b)(hk:∀ us∈C,jG us):v=⟨0,false,⟨#[]⟩⟩/\b=false:=by
 cases h with
 | no h hv hb=>exact ⟨hv,hb⟩
 | none h hc hv hb=>exact ⟨hv,hb⟩
 | one h k' j' ws' aO bN ad eM ak hb=>have:=hk ws' (aQ bN) v (aQ eM);rw [ak] at this;cases this
def UB {ways A n c S}(ho:kP S){v b}(h:uX ways (aZ S) v b)(w)(hr:bT w w.heap.size A n c S):Ca 87 #[.agg #[I ways,.slice A n c]] w (RB w (.tuple #[v.val,.bool b])):=by
 have E:=St.start w _ (mF hr);unfold iK at E;by_cases hR:bj ways (aZ S)
 .have HR:=V (pm (A:=A) (n:=n) (c:=c) ho (tm hR))
  have bm:=hr.slen;have hc1:=hr.rd.le;have aN:=hr.rd.mx;unfold maxLen at aN;replace h:=V h;replace hR:=V hR;go_enter func87,ntmps87;go_wp2_with ((first|(go_at_call 120;refine E.cB (HR.out _ (ei (E.dat _ au) (E.dat _ au))) ?_;clear E;intro J E)|((first|refine aA ?_|(refine am ?_;clear E;intro Z J E));refine zs ?_)));obtain ⟨gR,gC,rfl,rfl⟩:=E.names2;go_loopw [15] (λi wr=>∃ k:Nat,k<=n/\i = I (k:Int)/\Hid (∀ us∈(aZ S).take k,jG us)/\St w [ab 1 A n c (cj S),cR S] wr [.blk gR 101 [U 0,.bool false,.string ⟨#[]⟩],.blk gC 35 [I ways,.slice A n c]] [ab 1 A n c (cj S),cR S]) (λi _=>n - (intOf i).toNat);case atStart=>exact ⟨0,by omega,rfl,V (λus hu=>by simp at hu),E⟩
  case round=>
   obtain ⟨k,hk,rfl,aP,E⟩:=hrel;by_cases ik:k<n
   .obtain ⟨s,hs⟩:∃ s,S[k]?=some s:=⟨_,ba O⟩
    obtain ⟨sA,m,sc,ws⟩:=s;have E:=E.elem au hs;simp only at E;have H:=E.rd (sz:=3) (A:=sA) (n:=m) (c:=sc) (xs:=bv ws) au;have a0:=H.le;have al:=H.mx;have kh:=V H.wyslen;have iu:=V (h5d hs);unfold maxLen at al;clear H;go_wp2_with (((first|refine aA ?_|(refine am ?_;clear E;intro Z J E));refine zs ?_));go_loopw [21] (λi wr=>∃ j:Nat,j<=m/\i = I (j:Int)/\Hid (jG (ws.take j))/\St w [ab 1 A n c (cj S),cR S] wr [.blk gR 101 [U 0,.bool false,.string ⟨#[]⟩],.blk gC 35 [I ways,.slice A n c]] [ab 3 sA m sc (bv ws),ab 1 A n c (cj S),cR S]) (λi _=>m - (intOf i).toNat);case atStart=>exact ⟨0,by omega,rfl,V (λus hu=>by simp at hu),E⟩
    case round=>
     obtain ⟨j,hj,rfl,aR,E⟩:=hrel;by_cases re:j<m
     .obtain ⟨u,hu⟩:∃ u,ws[j]?=some u:=⟨_,ba yR⟩
      obtain ⟨ul,ud,ub⟩:=u;cases ud
      .go_wp2_with (((first|refine aA ?_|(refine am ?_;clear E;intro Z J E));refine zs ?_))
       go_roundw;case rel=>exact ⟨j+1,by omega,by go_num,V (h6m aR.out hu F),E.drop 0⟩
       case measure=>exact zM
      .obtain ⟨rfl,rfl⟩:=h.out.at_ hR.out aP.out iu.out aR.out hu F
       exact Ju
     .obtain rfl:j=m:=by omega
      go_wp2_with (((first|refine aA ?_|(refine am ?_;clear E;intro Z J E));refine zs ?_));go_roundw;case rel=>exact ⟨k+1,by omega,by go_num,V (QT aP.out iu.out (by have:=aR.out;rwa [cD yR] at this)),E.lessD cM⟩
      case measure=>exact zM
   .obtain rfl:k=n:=by omega
    obtain ⟨rfl,rfl⟩:=h.out.end_ (by have:=aP.out;rwa [cD (by rw [jN];omega)] at this);exact Ju
 .have HR:=V (pm (A:=A) (n:=n) (c:=c) ho (BS hR))
  obtain ⟨rfl,rfl⟩:v=⟨0,false,⟨#[]⟩⟩/\b=false:=by
   cases h with
   | no h hv hb=>exact ⟨hv,hb⟩
   | none h hc hv hb=>exact absurd h hR
   | one h k' j' ws' aO bN ad eM ak hb=>exact absurd h hR
  go_enter func87,ntmps87;go_wp2_with ((first|(go_at_call 120;refine E.cB (HR.out _ (ei (E.dat _ au) (E.dat _ au))) ?_;clear E;intro J E)|((first|refine aA ?_|(refine am ?_;clear E;intro Z J E));refine zs ?_)));((try simp only [Exit.inBlock,Exit.then]);refine bc (oS F E) F ?_);exact ⟨rfl,E.bel⟩
end
section
open Go.RowKit Wd
def YU (n:Nat) (h:n<4294967296):bits .andNot .u32 (n:Int) 1=((n - n % 2:Nat):Int):=by
 have:=u32_andNot_nat n 1 h O;rw [show ((1:Nat):Int)=1 from rfl] at this;rw [this,nat_midmask 32 1 n ag];omega
def uV (i pc a b):gH i pc a b<4294967296:=by
 unfold gH;have h1:=iU pc i.imm;have h2:=iU pc 4;have h3:=iU a i.imm;split
 .exact h1
 split
 .dsimp only;omega
 .exact h2
def h6q (i:Ins) (pc a b:Nat) (w:World) (ha:a<4294967296) (hb:b<4294967296) :Ca 212 #[i.val,U (pc:Int),U (a:Int),U (b:Int)] w (RB w (U (gH i pc a b:Int))):=by
 have E:=St.start w [] zN;have HT:=V (λW=>XZ i.op a b W ha hb);have aD:i.val.cells=i.cells.toArray:=rfl;have hV:=(show gH i pc a b=if i.op=3\/eh i.op a b=true then ay pc i.imm else if i.op=4 then (let n:=ay a i.imm;n - n % 2) else ay pc 4 from rfl);generalize eh i.op a b=tk at *;by_cases o3:i.op=3
 .have c3:(i.op == 3)=true:=by simpa using o3
  replace hV:=V (hV.trans (aa (.inl o3)));exact Fa
 have c3:(i.op == 3)=false:=by simpa using o3
 cases tk
 .rw [Y (λh=>h.elim o3 (λh=>by cases h))] at hV
  clear o3;by_cases o4:i.op=4
  .have c4:(i.op == 4)=true:=by simpa using o4
   replace hV:=V (hV.trans (aa o4));clear o4;go_enter func212,ntmps212;(go_wp2_with ((first|((refine gj (cs:=i.cells) F E F ?_);clear E;intro Z J E;(try refine zs ?_))|(go_at_call 219;refine (HT.out _).mono ?_;rintro x J ⟨rfl,rfl⟩)|((first|refine aA ?_|(refine am ?_;clear E;intro Z J E));refine zs ?_))));go_ret;exact ⟨dI (by rw [hV.out,wB];exact YU _ (iU _ _)),E.bel⟩
  .have c4:(i.op == 4)=false:=by simpa using o4
   replace hV:=V (hV.trans (Y o4));clear o4;go_enter func212,ntmps212;(go_wp2_with ((first|((refine gj (cs:=i.cells) F E F ?_);clear E;intro Z J E;(try refine zs ?_))|(go_at_call 219;refine (HT.out _).mono ?_;rintro x J ⟨rfl,rfl⟩)|((first|refine aA ?_|(refine am ?_;clear E;intro Z J E));refine zs ?_))));go_ret;exact ⟨dI (by rw [hV.out];exact wY _),E.bel⟩
 .replace hV:=V (hV.trans (aa (.inr F)))
  exact Fa
def E' (i:Ins) (pc a b:Nat) (w:World) (ha:a<4294967296) (hb:b<4294967296) :Ca 182 #[i.val,U (pc:Int),U (a:Int),U (b:Int)] w (RB w (.tuple #[U (gH i pc a b:Int),.bool (decide (gH i pc a b % 4=0))])):=by
 have E:=St.start w [] zN;have HN:=V (λW=>h6q i pc a b W ha hb);have aD:i.val.cells=i.cells.toArray:=rfl;have hl:=uV i pc a b;generalize gH i pc a b=n at *;have aH:((n:Int) % 4 == 0)=decide (n % 4=0):=by rw [oT];simp;omega
 go_enter func182,ntmps182;go_wp2_with ((first|((refine gj (cs:=i.cells) F E F ?_);clear E;intro Z J E;(try refine zs ?_))|(refine PA ?_;clear E;intro J E)|((first|refine aA ?_|(refine am ?_;clear E;intro Z J E));refine zs ?_)));go_returns;exact ⟨rfl,E.bel⟩
end
section
open Go.RowKit Go.Sort
def nL (d:ByteArray) (f:Nat) (b:ByteArray):ByteArray:=d.extract 0 f++b++d.extract (f+b.size) d.size
def KO (d:ByteArray) (f:Nat) (b:ByteArray):(nL d f b).data.toList=d.data.toList.take f++b.data.toList++d.data.toList.drop (f+b.size):=by
 simp only [nL,ByteArray.data_append,Array.toList_append,xz,rh];congr 1;rw [cD aF]
def Eb {d f b}(h:f+b.size<=d.size):(nL d f b).size=d.size:=by
 have:=jB List.length (KO d f b);simp only [ea,cK,nX,ly] at this;omega
inductive l0 (ways:Int) (C:List (List Wy)) (x:Nat) (bytes:ByteArray) (C':List (List Wy)) (ok:Bool):Prop
 | no (k i:Nat) (h:fE ways C x k i false) (he:C'=C) (hb:ok=false)
 | bad (k i:Nat) (h:fE ways C x k i true) (ws:List Wy) (v:Wy) (hw:C[k]?=some ws) (hv:ws[i]?=some v) (hd:v.data.size=0\/v.data.size=16/\16<x % 16+bytes.size) (he:C'=C) (hb:ok=false)
 | yes (k i:Nat) (h:fE ways C x k i true) (ws:List Wy) (v:Wy) (hw:C[k]?=some ws) (hv:ws[i]?=some v) (hd:v.data.size=16) (hf:x % 16+bytes.size<=16)
   (he:C'=C.set k (fG ws i ⟨v.line,true,nL v.data (x % 16) bytes⟩)) (hb:ok=true)
def UU (ways:Int) (A:Option Addr) (n c x:Nat) (bytes:ByteArray) (S:List Cs) (k i:Nat) (w:World) (hr:bT w w.heap.size A n c S) (HF:Hid (nQ 80 ways A n c x S k i false)) :Ca 145 #[.agg #[I ways,.slice A n c],U (x:Int),.string bytes] w (RB w (.tuple #[.agg #[I ways,.slice A n c],.bool false])):=by
 have E:=St.start w _ (mF hr);unfold iK at E;go_enter func145,ntmps145;go_wp2_with ((first|(go_at_call 80;refine E.cB (HF.out _ (ei (E.dat _ au) (E.dat _ au))) ?_;clear E;intro J E)|((first|refine aA ?_|(refine am ?_;clear E;intro Z J E));refine zs ?_)));((try simp only [Exit.inBlock,Exit.then]);refine bc (oS F E) F ?_);exact ⟨rfl,E.bel⟩
def LS {x:Nat} (w:World) (hx:x<4294967296):∃ lo f,x - x % 16=lo/\x % 16=f/\f<16/\(x:Int) - (lo:Int)=(f:Int)/\Hid (∀ W,Ca 63 #[U (x:Int)] W λe w'=>e = .returned (U (lo:Int)) /\ ∃ d,w'=W.drewN d) :=
 ⟨_,_,rfl,rfl,by omega,by omega,V λW=>mh x W hx⟩
def Rf (ways:Int) (A:Option Addr) (n c x:Nat) (bytes:ByteArray) (S:List Cs) (k i:Nat) (ws:List Wy) (v:Wy) (w:World) (hr:bT w w.heap.size A n c S) (hx:x<4294967296) (aV:bytes.size<=maxLen) (hk:k<n) (iu:(aZ S)[k]?=some ws) (hv:ws[i]?=some v)(hd:v.data.size=0\/v.data.size=16/\16<x % 16+bytes.size) (HF:Hid (nQ 80 ways A n c x S k i true)) :Ca 145 #[.agg #[I ways,.slice A n c],U (x:Int),.string bytes] w (RB w (.tuple #[.agg #[I ways,.slice A n c],.bool false])):=by
 have E:=St.start w _ (mF hr);unfold iK at E;obtain ⟨sA,m,sc,hS⟩:=sj iu;have E:=E.elem (eI _ (ej _)) hS;simp only at E;have H:=(E.rd (ej _)).wyslen;have eY:=(aK.1 hv).1;have hc1:=hr.rd.le;have aN:=hr.rd.mx;have a0:=(E.rd (ej _)).le;have al:=(E.rd (ej _)).mx;unfold maxLen at aV aN al;clear iu;obtain ⟨lo,f,jP,hf,a',bb,HL⟩:=LS w hx;rw [hf] at hd;have iq:i<m:=by omega
 clear jP hf;go_enter func145,ntmps145;rcases hd with h0|⟨cY,bn⟩
 .have a1:=Dn h0
  clear h0;exact G6
 .have a1:=wh (d:=v.data) O
  have bd:(16:Int) - (f:Int)<(bytes.size:Int):=by omega
  clear cY;exact G6
def U6 (ways:Int) (A:Option Addr) (n c x:Nat) (bytes:ByteArray) (S:List Cs) (k i:Nat) (ws:List Wy) (v:Wy) (w:World) (hr:bT w w.heap.size A n c S) (hx:x<4294967296) (aV:bytes.size<=maxLen) (hn:n<=1000) (hk:k<n) (iu:(aZ S)[k]?=some ws) (be:ws.length<=1000) (hv:ws[i]?=some v)(hd:v.data.size=16) (i8:x % 16+bytes.size<=16) (HF:Hid (nQ 80 ways A n c x S k i true)) :Ca 145 #[.agg #[I ways,.slice A n c],U (x:Int),.string bytes] w λe w'=>∃ y,e = .returned (.tuple #[y,.bool true])/\iV w (iK A n c S) ways y w' ((aZ S).set k (fG ws i ⟨v.line,true,nL v.data (x % 16) bytes⟩)):=by
 have E:=St.start w _ (mF hr);unfold iK at E;obtain ⟨sA,m,sc,hS⟩:=sj iu;have E:=E.elem (eI _ (ej _)) hS;simp only at E;have H:=(E.rd (ej _)).wyslen;have eY:=(aK.1 hv).1;have hc1:=hr.rd.le;have aN:=hr.rd.mx;have a0:=(E.rd (ej _)).le;have al:=(E.rd (ej _)).mx;unfold maxLen at aV aN al;clear iu;obtain ⟨lo,f,jP,hf,a',bb,HL⟩:=LS w hx;rw [hf] at i8 ⊢;have iq:i<m:=by omega
 clear jP hf;obtain ⟨d2,hd2⟩:∃ d2,nL v.data f bytes=d2:=⟨_,rfl⟩;rw [hd2];have a1:=wh (d:=v.data) O;have bd:¬ ((16:Int) - (f:Int)<(bytes.size:Int)):=by omega
 have hf1:f<=v.data.size:=by omega
 obtain ⟨e,he⟩:∃ e,e=f+bytes.size:=⟨_,rfl⟩;have bo:e<=v.data.size:=by omega
 have hcast:(f:Int)+(bytes.size:Int)=(e:Int):=by omega
 have hd2:v.data.extract 0 f++bytes++v.data.extract e v.data.size=d2:=by rw [<- hd2,he];rfl
 replace he:=V he;have bq:v.data.size<=16:=by omega
 have hb16:bytes.size<=16:=by omega
 replace hd:=V hd;replace hd2:=V hd2;go_enter func145,ntmps145;go_wp2_with ((first|(go_at_call 80;refine E.cB (HF.out _ (ei (E.dat _ au) (E.dat _ au))) ?_;clear E;intro J E)|(go_at_call 63;refine (HL.out _).mono ?_;rintro e J ⟨rfl,d,rfl⟩;replace E:=E.grow (af.drewN _ d))|(go_at_call 124;refine (og _ _ _ ws i v _ (E.rd au) O hv).mono ?_;rintro e J ⟨xF,rfl,hb,ho⟩;replace E:=E.pushOwn hb ho;clear hb ho;obtain ⟨gS,cS,rfl,br,bs⟩:=E.ownSome aC O;rw [show bv (fG ws i v)=Value.int .u32 (v.line:Int) :: .bool v.dirty :: .string v.data::bv (ws.take i++ws.drop (i+1)) from rfl] at E)|((first|refine aA ?_|(refine am ?_;clear E;intro Z J E));refine zs ?_)));refine bA aj E [] [] cM cM ?_;clear E;intro E z;refine an 0 z ?_;refine an 1 z ?_;refine an 2 z ?_;refine rG 3 z ?_;refine an 4 z ?_
 first|(refine eu (i:=5) F (rL F F F) z ?_;refine zs ?_)|(refine eu (i:=5) F (sb F F F) z ?_;refine zs ?_)|refine zp 5 z ?_
 refine an 6 z ?_;refine an 7 z ?_;refine an 8 z ?_;refine jf 9 z ?_
 first|(refine eu (i:=10) F (rL F F F) z ?_;refine zs ?_)|(refine eu (i:=10) F (sb F F F) z ?_;refine zs ?_)|refine zp 10 z ?_
 refine rG 11 z ?_
 first|(refine eu (i:=12) F (rL F F F) z ?_;refine zs ?_)|(refine eu (i:=12) F (sb F F F) z ?_;refine zs ?_)|refine zp 12 z ?_
 refine pz 13 z ?_;refine az 14 z ?_;refine aB 15 (λK X=>?_);go_wp2_with (refine iP ?_;clear E;intro J E;(try refine zs ?_));have z:=z.nextA E;refine X.out _ _ z ?_;clear X;refine zs ?_;refine bt ?_;go_wp2_with ((first|(go_at_call 125;obtain ⟨A2,c2,io,E⟩:=E.freeze 0 aC;injection io with hfz1 _ hfz2;subst hfz1 hfz2;(try simp only [nH] at E);refine (mY ways A n c S k _ m _ (⟨v.line,true,v.data.extract 0 f++bytes++v.data.extract e v.data.size⟩::(ws.take i++ws.drop (i+1))) _ (ei (E.dat _ au) (E.dat _ au)) hn hk (E.dat _ au)).mono ?_;rintro e J ⟨_,rfl,A',n',c',S',rfl,G,hC⟩;replace E:=E.callA G;clear G)|refine p6 ?_|((first|refine aA ?_|(refine am ?_;clear E;intro Z J E));refine zs ?_)));((try simp only [Exit.inBlock,Exit.then]);refine bc (oS F E) F ?_);exact ⟨_,rfl,A',n',c',S',rfl,E.outA,by rw [hC,<- hd2.out];rfl⟩
end
section
open Go.RowKit Go.Sort
inductive sa (ways:Int) (C:List (List Wy)) (x:Nat) (C':List (List Wy)):Prop
 | no (k i:Nat) (h:fE ways C x k i false) (he:C'=C)
 | yes (k i:Nat) (h:fE ways C x k i true) (ws:List Wy) (v:Wy) (hw:C[k]?=some ws) (hv:ws[i]?=some v) (he:C'=C.set k (ws.set i ⟨v.line,false,v.data⟩))
def R8 (ways:Int) (A:Option Addr) (n c x:Nat) (S:List Cs) (k i:Nat) (w:World) (hr:bT w w.heap.size A n c S) (HF:Hid (nQ 80 ways A n c x S k i false)) :Ca 88 #[.agg #[I ways,.slice A n c],U (x:Int)] w (RB w (.agg #[I ways,.slice A n c])):=by
 have E:=St.start w _ (mF hr);unfold iK at E;go_enter func88,ntmps88;go_wp2_with ((first|(refine QS ?_;clear E;intro J E)|((first|refine aA ?_|(refine am ?_;clear E;intro Z J E));refine zs ?_)));((try simp only [Exit.inBlock,Exit.then]);refine bc (eL F E) F ?_);exact ⟨rfl,E.bel⟩
def XC (ways:Int) (A:Option Addr) (n c x:Nat) (S:List Cs) (k i:Nat) (ws:List Wy) (v:Wy) (w:World) (hr:bT w w.heap.size A n c S) (hn:n<=1000) (hk:k<n) (iu:(aZ S)[k]?=some ws) (be:ws.length<=1000) (hv:ws[i]?=some v) (HF:Hid (nQ 80 ways A n c x S k i true)) :Ca 88 #[.agg #[I ways,.slice A n c],U (x:Int)] w λe w'=>∃ y,e = .returned y/\iV w (iK A n c S) ways y w' ((aZ S).set k (ws.set i ⟨v.line,false,v.data⟩)):=by
 have E:=St.start w _ (mF hr);unfold iK at E;obtain ⟨sA,m,sc,hS⟩:=sj iu;have E:=E.elem (eI _ (ej _)) hS;simp only at E;have H:=(E.rd (ej _)).wyslen;have eY:=(aK.1 hv).1;have iq:i<m:=by omega
 have iv:i * 3+1<(bv ws).length:=by rw [ya];omega
 have ij:=V (Rows.set1 (f:=bv) (r:=⟨v.line,false,v.data⟩) hv (i:=1) (u:=.bool false) ag F);clear iu;go_enter func88,ntmps88;go_upto_region 7 with ((first|(refine XJ ?_;clear E;intro Z J E)|refine p6 ?_|((first|refine aA ?_|(refine am ?_;clear E;intro Z J E));refine zs ?_)));rw [ij.out] at E;have E:=E.freezeB 0 aC 3 m m (by rw [ya,cw];omega) (aM _) eT;(try simp only [zF] at E);go_wp2_with ((first|(go_at_call 125;refine (mY ways A n c S k _ m _ (ws.set i ⟨v.line,false,v.data⟩) _ E.rds hn hk E.rdA).mono ?_;rintro e J ⟨_,rfl,A',n',c',S',rfl,G,hC⟩;replace E:=E.callA G;clear G)|((first|refine aA ?_|(refine am ?_;clear E;intro Z J E));refine zs ?_)));((try simp only [Exit.inBlock,Exit.then]);refine bc (eL F E) F ?_);exact ⟨_,rfl,A',n',c',S',rfl,E.outA,hC⟩
section
variable {ways:Int} {A:Option Addr} {n c x:Nat} {S:List Cs}
def h6x {C':List (List Wy)} (hx:x<4294967296) (ho:kP S) (h:sa ways (aZ S) x C') (w:World) (hr:bT w w.heap.size A n c S) :Ca 88 #[.agg #[I ways,.slice A n c],U (x:Int)] w λe w'=>∃ y,e = .returned y/\iV w (iK A n c S) ways y w' C':=by
 cases h with
 | no k i h he=>
  subst he;refine (R8 ways A n c x S k i w hr (V (mc hx ho h))).mono ?_;rintro e w' ⟨rfl,hb⟩;exact ⟨_,rfl,iV.sameC hr hb⟩
 | yes k i h ws v hw hv he=>
  subst he;obtain ⟨hR,_,ws',v',bN,_,_,hl⟩:=h.at_;rw [hw] at bN;injection bN with bN;subst bN;exact XC ways A n c x S k i ws v w hr (uz hr hR) (sr hr hw) hw zH hv (V (mc hx ho h))
end
end
section
open Go.RowKit
section
variable {ways:Int} {C C':List (List Wy)} {L:List Nat} {l x k i:Nat} {ws:List Wy}
end
end
end Go.Proofs.YtgnomadgnciifaaGreatDoor
