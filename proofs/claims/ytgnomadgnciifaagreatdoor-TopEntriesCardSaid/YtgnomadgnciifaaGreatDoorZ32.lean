/- . -/
import Derived.Test.YtgnomadgnciifaaGreatDoorZ30
set_option linter.all false
set_option maxRecDepth 100000
set_option maxHeartbeats 16000000
namespace Go.Proofs.YtgnomadgnciifaaGreatDoor
open Go.Proofs.Tryz
def Fp {p:Prop} (h:p:=by
 go_roundw;case rel=>exact ⟨j+1,by omega,by go_num,ad,⟨E.drop 0⟩⟩
 case measure=>exact zM):p:=h
section
open Go.RowKit Wd
inductive MS (w0:World) (D0 D:List Da) (M:List Mu) (g:Nat) (k:ak) (s:em) (w:World):Prop
 | mk (E:St w0 D0 w (.blk g 81 (ao k s) :: .row s.robA 54 (ens k.rob)::M) (kD k s++D))
structure Fit (k:ak) (s:em):Prop where
 data:aZ s.dS=k.data
 words:aZ s.wS=k.words
 robC:k.rob.length<=s.robC
 robM:s.robC<=maxLen
 feO:s.feO=false
 stO:s.stO=false
 reO:s.reO=false
def Cy (line:Nat) (e:En):Bool:=e.filled && decide (dL e.addr=line)
def MK {p:En->Bool}{q:List En}{j e}(h:∀ f∈q.take j,p f=false)(he:q[j]?=some e)(hp:p e=false):∀ f∈q.take (j+1),p f=false:=by
 obtain ⟨hl,hk⟩:=aK.1 he;intro f hf;rw [iE hl,hk] at hf;rcases dv.1 hf with hf|hf
 .exact h f hf
 .obtain rfl:=dm.1 hf
  exact hp
def Qi {p:En->Bool}{q:List En}{j:Nat}{e}(he:q[j]?=some e)(hp:p e=true):q.any p=true:=List.any_eq_true.2 ⟨e,aQ he,hp⟩
def OQ {p:En->Bool} {q:List En} (h:∀ f∈q,p f=false):q.any p=false:=yM.2 (λf hf=>by rw [h f hf];decide)
def rF {w0 w:World} {D0 D:List Da} {M:List Mu} {g:Nat} {k:ak} {s:em} {B:Int} (hk:KOk B k) (i8:Fit k s) (line:Nat) (av:line<4294967296) (hS:MS w0 D0 D M g k s w) :Ca 179 #[.pointer (some ⟨g,0,none⟩),U (line:Int)] w λx w'=>x = .returned (.bool (tx k line))/\MS w0 D0 D M g k s w':=by
 obtain ⟨E⟩:=hS;have hR:Hid (tx k line=((jY k.dways k.data line).2.2 || k.rob.any (Cy line))):=V F;have hfr:=sG k.dways k.data line;obtain ⟨k1,k2,b,al⟩:∃ k1 k2 b,jY k.dways k.data line=(k1,k2,b):=⟨_,_,_,rfl⟩;rw [al] at hR hfr;dsimp only at hR hfr;rw [<- i8.data] at hfr;have pl:=V (λ(W:World) (h1:bT W W.heap.size s.dA k.data.length s.dC s.dS)=>mc av (by rw [<- i8.data] at *;have:=hk.dok;rw [<- i8.data] at this;exact this.sok) hfr W h1);clear al;replace hfr:=V hfr;have aB:=hk.roblen;(simp only [kD,zL] at E);cases b
 .go_enter func179,ntmps179
  go_wp2_with ((try refine zs ?_);(first|refine LE ?_|(refine pV ?_;clear E;intro Z J E)|(go_at_call 63;refine (ed.out _).mono ?_;rintro x J ⟨rfl,d,rfl⟩;replace E:=E.grow (af.drewN _ d))|(refine aq ?_;clear E;intro vN J E)));go_loopw [28] (λi wr=>∃ j:Nat,j<=k.rob.length/\i = I (j:Int)/\Hid (∀ f∈k.rob.take j,Cy line f=false)/\MS w0 D0 D M g k s wr) (λi _=>k.rob.length - (intOf i).toNat);case atStart=>exact ⟨0,by omega,rfl,V (λf hf=>by simp at hf),⟨E⟩⟩
  case round=>
   clear E;obtain ⟨j,hj,rfl,gV,⟨E⟩⟩:=hrel;(simp only [kD,zL] at E);by_cases an:j<k.rob.length
   .obtain ⟨e,hu⟩:∃ e,k.rob[j]?=some e:=⟨_,ba an⟩
    have he:=hk.rob e (aQ hu);have il:0<(ens k.rob).length:=by rw [kA];omega
    obtain ⟨no,pc,⟨op,rd,rs1,rs2,imm⟩,guess,is,left,value,next,addr,halt,took,known,filled⟩:=e;have ed:=V (λW=>mh addr W he.a);have hB:Hid (Cy line ⟨no,pc,⟨op,rd,rs1,rs2,imm⟩,guess,is,left,value,next,addr,halt,took,known,filled⟩=(filled && decide (addr - addr % 16=line))):=V F;obtain ⟨L,hL⟩:∃ L,addr - addr % 16=L:=⟨_,rfl⟩;rw [hL] at ed hB;clear hL he;cases filled
    .have ad:=V (MK gV.out hu (by rw [hB.out];rfl))
     clear hB;go_wp2_with ((try refine zs ?_);(first|refine LE ?_|(refine pV ?_;clear E;intro Z J E)|(go_at_call 63;refine (ed.out _).mono ?_;rintro x J ⟨rfl,d,rfl⟩;replace E:=E.grow (af.drewN _ d))|(refine aq ?_;clear E;intro vN J E)));exact Fp
    .by_cases C:L=line
     .have H:Hid (tx k line=true):=V (by rw [hR.out,Qi hu (by rw [hB.out];simp [C])];rfl)
      have heq:Hid ((L:Int)=(line:Int)):=V O;clear hB C hR gV;go_wp2_with ((try refine zs ?_);(first|refine yt ?_|(refine pV ?_;clear E;intro Z J E)|(go_at_call 63;refine (ed.out _).mono ?_;rintro x J ⟨rfl,d,rfl⟩;replace E:=E.grow (af.drewN _ d))|(refine aq ?_;clear E;intro vN J E)));go_ret;exact ⟨by rw [H.out];rfl,⟨E.drop 0⟩⟩
     .have ad:=V (MK gV.out hu (by rw [hB.out];simp [C]))
      have hne:¬ ((L:Int)=(line:Int)):=by omega
      clear hB C;go_wp2_with ((try refine zs ?_);(first|refine yt ?_|(refine pV ?_;clear E;intro Z J E)|(go_at_call 63;refine (ed.out _).mono ?_;rintro x J ⟨rfl,d,rfl⟩;replace E:=E.grow (af.drewN _ d))|(refine aq ?_;clear E;intro vN J E)));exact Fp
   .obtain rfl:j=k.rob.length:=by omega
    have H:Hid (tx k line=false):=V (by rw [hR.out,OQ Ed];rfl);clear hR;go_wp2_with ((try refine zs ?_);(first|refine yt ?_|(refine pV ?_;clear E;intro Z J E)|(go_at_call 63;refine (ed.out _).mono ?_;rintro x J ⟨rfl,d,rfl⟩;replace E:=E.grow (af.drewN _ d))|(refine aq ?_;clear E;intro vN J E)));go_ret;exact ⟨by rw [H.out];rfl,⟨E⟩⟩
 .rw [hR.out]
  go_enter func179,ntmps179;go_wp2_with ((try refine zs ?_);(first|refine yt ?_|(refine pV ?_;clear E;intro Z J E)|(go_at_call 63;refine (ed.out _).mono ?_;rintro x J ⟨rfl,d,rfl⟩;replace E:=E.grow (af.drewN _ d))|(refine aq ?_;clear E;intro vN J E)));go_ret;exact ⟨rfl,⟨E⟩⟩
end
section
open Go.RowKit
section
variable {P:Program} {ops:Array Oper} {rest:List Oper} {o:Oper} {a:Act} {Q:Exit->Act->World->Prop} {w0 w:World} {D0 D:List Da} {M:List Mu} {S:World->Prop}
def Dl (A:Option Addr):Prop:=∃ g o,A=some ⟨g,o,none⟩
def St.rowP (h:St w0 D0 w M D){i:Nat}{A t xs}(hi:M[i]?=some (.row A t xs))(hl:0<xs.length):Hid (Dl A):=by
 obtain ⟨g,pre,post,rfl,_,_⟩:=h.rowAt hi hl;exact V ⟨_,_,rfl⟩
def i3t {t e:TypeId} {x ix:Operand} {A:Option Addr} {n c k:Nat} {ki:IntKind} {z:Value} {sz bytes:Nat} (ho:o.op = .indexAddr t x ix) (hx:ac a x=some (.slice A n c)) (hk:ac a ix=some (.int ki (k:Int))) (hA:Dl A)(ht:bF P t e z sz bytes) (ik:k<n):(execOp a.eval o).run P w = .ok (.value (cu A (k * sz))) w:=by
 replace hx:=ap hx;replace hk:=ap hk;obtain ⟨g,off,rfl⟩:=hA;obtain ⟨hu,hi,_,_⟩:=ht;have hs:(sizeOf e).run P w = .ok sz w:=by
  cases hq:P.info? e with
  | none=>simp [hq] at hi
  | some i=>
   simp only [hq,dB,dF,pf] at hi;simp [sizeOf,typeInfo,hq,hi.2.1]
 have ip:(Instr.indexAt t (.slice (some ⟨g,off,none⟩) n c) (.int ki (k:Int))).run P w = .ok (cu (some ⟨g,off,none⟩) (k * sz)) w:=by
  simp [Instr.indexAt,eH hu,asIntOf,hs,cu,show (k:Int)<(n:Int) by omega];intro h;omega
 unfold execOp;simp only [ho,hx,hk,ip,bC,bL,bG]
def y_ixP {t e:TypeId} {x ix:Operand} {A:Option Addr} {n c k:Nat} {ki:IntKind} {z:Value} {sz bytes:Nat} (ho:o.op = .indexAddr t x ix) (hx:ac a x=some (.slice A n c)) (hk:ac a ix=some (.int ki (k:Int)))(hA:Hid (Dl A):=by with_reducible assumption) (ht:bF P t e z sz bytes:=by exact fS _ _ _ _ _ rfl) (hw:Region.wanted o (yielded ops a.tmps)=true:=by rfl) (ik:k<n:=by (first|assumption|omega|exact mT bI|exact ng _)):YieldsIf P ops S o (cu A (k * sz)) a :=
 cg hw λw=>i3t ho hx hk hA.out ht ik
def kx {ty:TypeId} {x y:Operand} {A:Option Addr} {k i:Nat} {tr:TypeId} {q:List En} {f:En} {M':List Mu} (ho:o.op = .store ty x y) (E:St w0 D0 w M D) (hx:ac a x=some (cu A (k * 17))) (hy:ac a y=some f.val)(h:∀ w',St w0 D0 w' M' D->wpList P ops Q rest (a.put o.dst undef) w') (hw:Region.wanted o (yielded ops a.tmps)=true:=by rfl) (hi:M[i]?=some (.row A tr (ens q)):=by exact fd)(hk:k<q.length:=by (first|assumption|omega|exact mT bI|exact ng _)) (ht:cO P ty 17:=by exact jo _ _ rfl) (hM:M.set i (.row A tr (ens (q.set k f)))=M':=by first|(simp only [zF];exact rfl)|(simp only [zF];done)|exact rfl):wpList P ops Q (o::rest) a w:=by
 refine h1e (us:=f.cells) ho E hx hy h hw hi ?_ (by show 0<17;omega) ht (λu hu=>.inl (f.one u hu)) ?_
 .have hl:f.cells.length=17:=rfl
  rw [kA,hl];omega
 .rw [Rows.spl (f:=ens) hk];exact hM
def U4 {t e:TypeId} {x y:Operand} {A:Option Addr} {n c k i:Nat} {ki:IntKind} {z:Value} {sz bytes:Nat} {tr:TypeId} {xs:List Value} {M':List Mu} (ho:o.op = .slice t x (some y) none none) (E:St w0 D0 w M D) (hx:ac a x=some (.slice A n c)) (hy:ac a y=some (.int ki (k:Int)))(h:St w0 D0 w M' D->wpList P ops Q rest (a.put o.dst (.slice (fW A k c sz) (n - k) (c - k))) w) (ht:bF P t e z sz bytes:=by exact fS _ _ _ _ _ rfl) (hw:Region.wanted o (yielded ops a.tmps)=true:=by rfl) (hi:M[i]?=some (.row A tr xs):=by exact fd) (hl:xs.length=n * sz:=by assumption) (hk:k<=n:=by (first|assumption|omega)) (hc:n<=c:=by (first|assumption|omega))(hM:M.set i (.row (fW A k c sz) tr (xs.drop (k * sz)))=M':=by first|(simp only [zF];exact rfl)|(simp only [zF];done)|exact rfl):wpList P ops Q (o::rest) a w:=by
 subst hM;replace hx:=ap hx;replace hy:=ap hy;have aw:=E.rowDrop hi sz k n c hl hk hc;refine cI hw λK X=>?_
 have az:=X _ _ (h aw);obtain ⟨hu,R,_,_⟩:=ht;have hs:(sizeOf e).run P w = .ok sz w:=by
  cases hq:P.info? e with
  | none=>simp [hq] at R
  | some i=>
   simp only [hq,dB,dF,pf] at R;simp [sizeOf,typeInfo,hq,R.2.1]
 have hel:P.elem t=e:=by simp [Program.elem,hu]
 have h1:=run_slice_l (P:=P) (w:=w) t A n c nK ki (k:Int) O O;have h2:(Instr.sliceAt t (.slice A n c) (some (.int ki (k:Int))) none none).run P w = .ok (.slice (fW A k c sz) (n - k) (c - k)) w:=by
  rw [run_sliceAt_slice (P:=P) (w:=w) t _ _ _ _ nK,h1,hel,hs];simp only [bG,sliced,jt,fW]
 unfold Oper.wp execOp;simp only [ho,hx,hy,dB,ma,h2,bC,bL,bG];exact az
def St.nilZ (h:St w0 D0 w M D) (sz:Nat):St w0 D0 w M (ab sz none 0 0 []::D) :=
 h.part _ ⟨by simp,aM _,by unfold maxLen;omega,λhn=>absurd hn O⟩ λg hg=>by obtain ⟨hn,_⟩:=hg;omega
end
def lM (f:En->En) (j:Nat) (q:List En):List En:=(q.take j).map f++q.drop j
def Fo (f:En->En) (j:Nat) (q:List En):(lM f j q).length=q.length:=by simp [lM];omega
def Fz (f:En->En)(q):lM f q.length q=q.map f:=by simp [lM]
def B4 {f:En->En}{j q e}(h:q[j]?=some e):(lM f j q)[j]?=some e:=by
 have hl:=(aK.1 h).1;unfold lM;rw [kU eX];simp only [gq,cK,kZ (Nat.le_of_lt hl),uL,l7,tg];exact h
def BH {f:En->En}{j q e}(h:q[j]?=some e):(lM f j q).set j (f e)=lM f (j+1) q:=by
 obtain ⟨hl,he⟩:=aK.1 h;unfold lM;rw [oV _ _ eX];simp only [gq,cK,kZ (Nat.le_of_lt hl),uL];rw [mn hl,he,fL,iE hl,he,nM,lc];rfl
def su {k s}(q)(h:q.length=k.rob.length):ao { k with rob:=q } s=ao k s:=by
 unfold ao;dsimp only;rw [h]
end
section
open Go.RowKit Wd
def DV (n lo hi w)(h1:lo<=n)(h2:n<=hi):Ca 119 #[I n,I lo,I hi] w (RB w (.bool true)):=by
 have d1:decide (lo<=n)=true:=cU h1;have d2:decide (n<=hi)=true:=cU h2;clear h1 h2;go_enter func119,ntmps119;go_wp2;go_ret;exact ⟨rfl,af.refl _⟩
def Wk (c:Cf) (Al:Option Addr) (cl:Nat) (At:Option Addr) (ct:Nat) (w:World) (h:qc c=true) (hr:Rd w w.heap.size 1 Al c.lat.length cl (aE c.lat)) :Ca 53 #[.agg (dV c Al cl At ct).toArray] w (RB w (.bool true)):=by
 have E:=St.start w [ab 1 Al c.lat.length cl (aE c.lat)] (zC hr zN);clear hr;have hb:=ru h;have h3:¬ (c.sets=3):=by
  simp only [qc,fi,iA] at h;exact h.2.2.2.2.2.2.2.2.1
 have hall:Hid (∀ (j:Nat) (x:Int),c.lat[j]?=some x->1<=x/\x<=8):=V (by
  intro j x hx;simp only [qc,fi,uS] at h;have:=h.1 x (aQ hx)
  simpa [mt] using this)
 obtain ⟨⟨a1,a2⟩,⟨b1,b2⟩,⟨c1,c2⟩,⟨d1,d2⟩,⟨e1,e2⟩,⟨f1,f2⟩,⟨g1,g2⟩,⟨i1,i2⟩,hl,ht⟩:=hb;clear h;obtain ⟨mode,width,rob,queue,stores,slots,sets,ways,lat,tables,tape⟩:=c;dsimp only at *;unfold dV;dsimp only;obtain ⟨nl,hnl⟩:∃ n,lat.length=n:=⟨_,rfl⟩;obtain ⟨nt,G⟩:∃ n,tape.length=n:=⟨_,rfl⟩;rw [hnl] at E hl;rw [G] at ht;rw [hnl,G];replace hnl:=V hnl;replace G:=V G;have k1:decide ((nl:Int)<=64)=true:=cU O;have k2:decide ((nt:Int)<=64)=true:=cU O;have k3:(sets != 3)=true:=by simpa using h3
 go_enter func53,ntmps53;go_wp2_with ((try refine zs ?_);(first|refine fa ?_|(go_at_call 119;refine E.cB (DV _ _ _ _ l5 l5) ?_;clear E;intro J E)|(refine bJ ?_;clear E;intro Z J E)|(refine aq ?_;clear E;intro vN J E)));obtain ⟨g9,rfl⟩:=E.names1;go_loopw [9] (λix wr=>∃ j:Nat,j<=nl/\ix = I (j:Int)/\St w [ab 1 Al nl cl (aE lat)] wr [.blk g9 25 [I mode,I width,I rob,I queue,I stores,I slots,I sets,I ways,.slice Al nl cl,.bool tables,.slice At nt ct]] [ab 1 Al nl cl (aE lat)]) (λix _=>nl - (intOf ix).toNat);case atStart=>exact ⟨0,by omega,rfl,E⟩
 case round=>
  clear E;obtain ⟨j,hj,rfl,E⟩:=hrel;by_cases an:j<nl
  .obtain ⟨x,hx⟩:∃ x,lat[j]?=some x:=⟨_,ba (by have:=hnl.out;omega)⟩
   have aD:=G7 hx;obtain ⟨x1,x2⟩:=hall.out j x hx;clear hx;go_wp2_with ((try refine zs ?_);(first|refine fa ?_|(go_at_call 119;refine E.cB (DV _ _ _ _ l5 l5) ?_;clear E;intro J E)|(refine bJ ?_;clear E;intro Z J E)|(refine aq ?_;clear E;intro vN J E)));go_roundw;case rel=>exact ⟨j+1,by omega,by go_num,E⟩
   case measure=>exact zM
  .obtain rfl:j=nl:=by omega
   go_wp2_with ((try refine zs ?_);(first|refine fa ?_|(go_at_call 119;refine E.cB (DV _ _ _ _ l5 l5) ?_;clear E;intro J E)|(refine bJ ?_;clear E;intro Z J E)|(refine aq ?_;clear E;intro vN J E)));go_ret;exact ⟨rfl,E.bel⟩
end
end Go.Proofs.YtgnomadgnciifaaGreatDoor
namespace Go.Proofs.YtgnomadgnciifaaGreatDoor
open Go.Proofs.Tryz
def CK {p:Prop} (h:p:=by
 all_goals
  go_wp2_with ((try refine zs ?_);(first|refine yK ?_|(refine xq ?_;clear E;intro Z J E)|(refine aq ?_;clear E;intro vN J E)));go_ret
  exact ⟨by rw [hR.out];rfl,⟨E.drop 0⟩⟩):p:=h
section
open Go.RowKit Wd
def mP (k:ak) (s:em):Value:=.agg (((ao k s).drop 13).take 32).toArray
def vB {k s}(h:k.regs.length=32):mP k s = .agg (ai k.regs).toArray:=by unfold mP;rw [Xk h]
def vt {w0 w:World} {D0 D:List Da} {M:List Mu} {g:Nat} {k:ak} {s:em} {B:Int} (hk:KOk B k) (i8:Fit k s) (i:Nat) (e:En) (hu:k.rob[i]?=some e) (H:MS w0 D0 D M g k s w) :Ca 75 #[.pointer (some ⟨g,0,none⟩),I (i:Int)] w λx w'=>x = .returned (.bool (li k i))/\MS w0 D0 D M g k s w':=by
 obtain ⟨E⟩:=H;have hin:i<k.rob.length:=(aK.1 hu).1;have he:=hk.rob e (aQ hu);have G:(ens k.rob).length=k.rob.length * 17:=kA _;have il:0<(ens k.rob).length:=by omega
 have L:=hk.roblen;have HM:=V (λ(W:World) (h:Rd W W.heap.size 17 s.robA k.rob.length s.robC (ens k.rob))=>T6 k.conf.mode s.robA k.rob.length s.robC k.rob i e W h hk.rob O hu);have mW:=V (λ(W:World) (h:Rd W W.heap.size 17 s.robA k.rob.length s.robC (ens k.rob))=>show Ca 45 #[.slice s.robA k.rob.length s.robC,mP k s,I (i:Int),I e.inst.rs1] W _ from by rw [vB hk.rlen];exact zz s.robA k.rob.length s.robC k.rob k.regs i e.inst.rs1 W h hk.rob hk.rlen pB he.rs1);have C:=V (λ(W:World) (h:Rd W W.heap.size 17 s.robA k.rob.length s.robC (ens k.rob))=>show Ca 16 #[.slice s.robA k.rob.length s.robC,mP k s,I (i:Int)] W _ from by rw [vB hk.rlen];exact JQ s.robA k.rob.length s.robC k.rob k.regs i W h hk.rob hk.rlen hin);have vz:=V (λW=>xB e.inst W);have HK:=V (λW=>ec e.inst W he.op);have hR:Hid (li k i=if e.is≠0 then false else if ae e.inst.op=3 then e.known || ((eg k.rob k.regs i e.inst.rs1).2 && qG k.conf.mode k.rob i e) else if ae e.inst.op=4 then !e.known && ((eg k.rob k.regs i e.inst.rs1).2 && qG k.conf.mode k.rob i e) else (eC k.rob k.regs i).2.2 && qG k.conf.mode k.rob i e):=V (by unfold li;rw [hu]);generalize qG k.conf.mode k.rob i e=may at HM hR;generalize eg k.rob k.regs i e.inst.rs1=rd1 at mW hR;generalize eC k.rob k.regs i=bo at C hR;obtain ⟨r1,there⟩:=rd1;obtain ⟨b1,b2,both⟩:=bo;obtain ⟨no,pc,⟨op,rd,rs1,rs2,imm⟩,guess,is,left,value,next,addr,halt,took,known,filled⟩:=e;unfold Ins.val at vz HK;dsimp only at vz HK mW C hR;obtain ⟨κ,hκ⟩:∃ κ,ae op=κ:=⟨_,rfl⟩;rw [hκ] at HK hR;clear hκ he;unfold mP at mW C;(simp only [kD,zL] at E);by_cases h0:is=0
 .subst h0
  simp only [ne_eq,not_true_eq_false,oM] at hR;go_enter func75,ntmps75;go_upto_region 4 with ((try refine zs ?_);(first|refine yK ?_|(refine xq ?_;clear E;intro Z J E)|(refine aq ?_;clear E;intro vN J E)));refine bA aj E _ _ (λ_ h=>h) (λ_ h=>h) ?_;clear E;intro E z;refine an 0 z ?_;refine zp 1 z ?_;refine az 2 z ?_;refine az 3 z ?_;refine az 4 z ?_;refine fC 5 z ?_;refine an 6 z ?_;refine zp 7 z ?_;refine az 8 z ?_;refine az 9 z ?_;refine fC 10 z ?_;refine an 11 z ?_;refine aB 12 (λK X=>?_);go_wp2_with ((go_at_call 133;refine E.cB (HM.out _ (E.rowRd bx G ag i8.robC i8.robM)) ?_;clear E;intro J E));have z:=aO z E;refine X.out _ _ z ?_;clear X;refine zs ?_;refine cA 13 z ?_;refine bt ?_;go_upto_region 6 with ((try refine zs ?_);(first|refine yK ?_|(refine xq ?_;clear E;intro Z J E)|(refine aq ?_;clear E;intro vN J E)));refine bA aj E _ _ (λ_ h=>h) (λ_ h=>h) ?_;clear E;intro E z;refine an 0 z ?_;refine zp 1 z ?_;refine az 2 z ?_;refine az 3 z ?_;refine fC 4 z ?_;refine an 5 z ?_;refine zp 6 z ?_;refine az 7 z ?_;refine az 8 z ?_;refine fC 9 z ?_;refine an 10 z ?_;refine an 11 z ?_;refine aB 12 (λK X=>?_);go_wp2_with ((go_at_call 45;refine E.cB (mW.out _ (E.rowRd bx G ag i8.robC i8.robM)) ?_;clear E;intro J E));have z:=aO z E;refine X.out _ _ z ?_;clear X;refine zs ?_;refine an 13 z ?_;refine zp 14 z ?_;refine zp 15 z ?_;refine cA 16 z ?_;refine cA 17 z ?_;refine bt ?_;by_cases h3:κ=3
  .subst h3
   simp only [if_true] at hR;cases known <;> cases there <;> cases may
   all_goals exact CK
  .rw [Y h3] at hR
   have b3:(κ == 3)=false:=by simpa using h3
   by_cases h4:κ=4
   .subst h4
    simp only [if_true] at hR;cases known <;> cases there <;> cases may
    all_goals exact CK
   .rw [Y h4] at hR
    have b4:(κ == 4)=false:=by simpa using h4
    go_upto_region 12 with ((try refine zs ?_);(first|refine yK ?_|(refine xq ?_;clear E;intro Z J E)|(refine aq ?_;clear E;intro vN J E)));refine bA aj E _ _ (λ_ h=>h) (λ_ h=>h) ?_;clear E;intro E z;refine an 0 z ?_;refine zp 1 z ?_;refine az 2 z ?_;refine az 3 z ?_;refine fC 4 z ?_;refine an 5 z ?_;refine zp 6 z ?_;refine az 7 z ?_;refine az 8 z ?_;refine fC 9 z ?_;refine an 10 z ?_;refine aB 11 (λK X=>?_);go_wp2_with ((go_at_call 16;refine E.cB (C.out _ (E.rowRd bx G ag i8.robC i8.robM)) ?_;clear E;intro J E));have z:=aO z E;refine X.out _ _ z ?_;clear X;refine zs ?_;refine an 12 z ?_;refine zp 13 z ?_;refine zp 14 z ?_;refine zp 15 z ?_;refine cA 16 z ?_;refine cA 17 z ?_;refine cA 18 z ?_;refine bt ?_;cases both <;> cases may
    all_goals exact CK
 .have b0:(is != 0)=true:=by simpa using h0
  rw [aa h0] at hR;go_enter func75,ntmps75;go_wp2_with ((try refine zs ?_);(first|refine Vp ?_|(refine xq ?_;clear E;intro Z J E)|(refine aq ?_;clear E;intro vN J E)));go_ret;exact ⟨by rw [hR.out];rfl,⟨E.drop 0⟩⟩
end
end Go.Proofs.YtgnomadgnciifaaGreatDoor
