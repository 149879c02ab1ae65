/- . -/
import Derived.Test.YtgnomadgnciifaaGreatDoorZ8
set_option linter.all false
set_option maxRecDepth 100000
set_option maxHeartbeats 16000000
namespace Go.Proofs.YtgnomadgnciifaaGreatDoor
variable {p:Prop}
open Go.Proofs.Tryz
def Ff (h:p:=by
 rw [hf];clear hf;have e1:=hne 1 O;have e2:=hne 2 O;have e3:=hne 3 O;have e4:=hne 4 O;have e5:=hne 5 O;have e6:=hne 6 O;have e7:=hne 7 O;have e8:=hne 8 O;have e9:=hne 9 O;have e10:=hne 10 O;have e16:=hne 16 O;have e17:=hne 17 O;have e18:=hne 18 O;have e25:=hne 25 O;have e26:=hne 26 O;have e27:=hne 27 O;have e46:=hne 46 O;have e47:=hne 47 O;have e48:=hne 48 O;clear hne;go_enter func151,ntmps151;go_wp2;go_ret
 exact ⟨rfl,rfl⟩):=h
def N0 (h:p:=by
 have hk:ae op=0:=by unfold ae;repeat rw [Y O]
 rw [hf] at HF;rw [hk];clear hf hk;have e4:=hne 4 O;have e47:=hne 47 O;have e48:=hne 48 O;clear hne;go_enter func93,ntmps93;go_wp2_with (go_at_call 151;refine (HF.out _).mono ?_;rintro x w1 ⟨rfl,rfl⟩);go_ret
 exact ⟨rfl,rfl⟩):=h
def wi (h:p:=by
 rw [hf];clear hf;go_enter func198,ntmps198;go_wp2;go_ret
 exact ⟨rfl,0,rfl⟩):=h
def vK (h:p:=by
 go_enter func97,ntmps97;go_wp2;go_ret
 exact ⟨rfl,0,rfl⟩):=h
def Hy (h:p:=by
 go_roundw;case rel=>exact ⟨k+1,by omega,by go_num,by rw [<- Hs.out];exact bC,(ii.trans (af.drewN wr d1)).then_grown (own_drewN ir d1) bL (aM _)⟩
 case measure=>exact zM):=h
def I0 (h:p:=by
 obtain ⟨a,b,c⟩:=h2;have:=h3 b O O O (.inl (by rw [a];exact CS))
 exact ⟨hi.trans a,this.1,this.2.trans c⟩):=h
section
open Go.RowKit
def own_drewN {w:World} {base:Nat} {e:TypeId} {sz:Nat} {v:Value} {n:Nat} {xs:List Value} (h:w.ownsRow base e sz v n xs) (k:Nat):(w.drewN k).ownsRow base e sz v n xs:=h
def Uv {w w' base e sz v n xs}(h:w.ownsRow base e sz v n xs)(hb:af w w'):w'.ownsRow base e sz v n xs :=
 h.kept (row:=none) ⟨hb.os,hb.tape,hb.output,hb.size,λk hk _=>hb.block k hk⟩ (by cases v.ownBlock <;> simp)
def af.then_grown {a w w'}(h:af a w){base e sz v n xs}(ir:w.ownsRow base e sz v n xs)(hg:w.grownBy w' v.ownBlock)(hb:a.heap.size<=base):af a w' :=
 h.grown hg λk hk=>iG hb (ir.lt k hk).1
def V3 (W:World)(us:List Value)(e):∀ j u,us[j]?=some u->(W.alloc (.cells us.toArray e)).cell? ((⟨W.heap.size,0,none⟩:Addr).add j)=some u:=by
 intro j u hu;have h:(⟨W.heap.size,0,none⟩:Addr).add j=⟨W.heap.size,j,none⟩:=by
  unfold Addr.add;split
  .rename_i hj;subst hj;rfl
  .simp
 rw [h,cell_of_row _ W.heap.size j us.toArray e (0,0) (qW W _)];simpa using hu
section
variable {P:Program} {ops:Array Oper} {rest:List Oper} {o:Oper} {a:Act} {Q:Exit->Act->World->Prop}
def t9 (W:World) (us:List Value) (m:Nat) (ig:o.guard=none) (s x:Operand) (t:TypeId)(ho:o.op = .call { callee:=.builtin .append,args:=#[s,x],argTypes:=#[t,t] })(base:Nat) (e:TypeId) (z:Value) (sz bytes:Nat) (ht:P.underlying t=some (.slice e)) (k8:(P.info? e).map (λi=>(i.zero,i.size,i.bytes))=some (some z,sz,bytes))(i7:z.cells.size=sz) (hsz:0<sz)(v:Value) (n:Nat) (xs:List Value) (hs:a.eval s=v) (ir:W.ownsRow base e sz v n xs)(hx:a.eval x = .slice (some ⟨W.heap.size,0,none⟩) m m) (hl:us.length=m * sz) (h1:∀ u∈us,u.oneCell'=true)(h63:n+m<=9223372036854775807) (k9:(n+m) * bytes<=140737488355328) (mY:base<=W.heap.size)(h:∀ v' w',w'.ownsRow base e sz v' (n+m) (xs++us)->W.grownBy w' v.ownBlock->wpList P ops Q rest (a.put o.dst v') w'):wpList P ops Q (o::rest) a (W.alloc (.cells us.toArray e)):=by
 obtain ⟨i0,hi,fX,f0,pe⟩:=info_parts k8;refine wpList_append_own _ ig s x t ho base e i0 z sz bytes ht hi fX f0 pe i7 hsz v n xs hs (ir.alloc _) ⟨W.heap.size,0,none⟩ m m us hx hl (V3 W us e) h1 (by simp only [maxLen];omega) k9 eX ?_;intro v' w' bC hg _;refine h v' w' bC ⟨hg.os,hg.tape,hg.output,iG aF hg.size,λk hk hne=>?_⟩;rw [hg.block k eX hne];exact Below.heap_alloc W _ k hk
end
end
section
open Go.RowKit
def Ao {M}:∀ u∈([]:List Value),ls M u:=λ_ h=>by cases h
def FY {M v l}(h:ls M v)(t:∀ u∈l,ls M u):∀ u∈v::l,ls M u:=λu hu=>by
 rcases bB.1 hu with rfl|hu
 .exact h
 .exact t u hu
end
section
open Go.RowKit
section
variable {P:Program} {ops:Array Oper} {rest:List Oper} {o:Oper} {a:Act} {Q:Exit->Act->World->Prop} {S:World->Prop}
def ZY {w:World} {x y:Operand} {t t':TypeId} {p q:Nat} (ho:o.op = .binOp .sub t x y t') (hx:ac a x=some (U (p:Int))) (hy:ac a y=some (U (q:Int))) (hp:p<4294967296) (hq:q<=p):(execOp a.eval o).run P w = .ok (.value (U ((p - q:Nat):Int))) w:=by
 replace hx:=ap hx;replace hy:=ap hy;unfold execOp;simp only [ho,hx,hy];go_simp;rw [show (p:Int) - (q:Int)=((p - q:Nat):Int) by omega,Cv O]
def CG {w:World} {x y:Operand} {t t':TypeId} {p q r:Nat} (ho:o.op = .binOp .sub t x y t') (hx:ac a x=some (U (p:Int))) (hy:ac a y=some (U (q:Int))) (h:wpList P ops Q rest (a.put o.dst (U (r:Int))) w) (hr:Hid (p - q=r):=by assumption) (hp:p<4294967296:=by (first|assumption|omega)) (hq:q<=p:=by (first|assumption|omega)) (hw:Region.wanted o (yielded ops a.tmps)=true:=by rfl):wpList P ops Q (o::rest) a w:=by
 refine cI hw λK X=>?_
 unfold Oper.wp;rw [ZY ho hx hy hp hq,hr.out];exact X _ _ h
end
end
section

def YG (set:List Wy):Prop:=∀ (i j:Nat) (u v:Wy),set[i]?=some u->set[j]?=some v->u.line=v.line->i=j
def lP.lone {n ways k set}(h:lP n ways k set):YG set:=by
 intro i j u v hi hj e;rcases wM i j with hl|hl|hl
 .exact absurd e ((h.2 j v hj).2.2.2 i hl u hi)
 .exact hl
 .exact absurd e.symm ((h.2 i u hi).2.2.2 j hl v hj)
end
section
open Go.RowKit
def Pu.byte (p:Pu) (a:Nat):Option UInt8:=if p.addr<=a then (bl p.data)[a - p.addr]? else none
def cy : List Pu->Nat->Option UInt8
 | [],_=>none
 | p::ps,a=>(cy ps a).or (p.byte a)
def ji (a b:List Pu) (k:Nat):cy (a++b) k=(cy b k).or (cy a k):=by
 induction a with
 | nil=>simp [cy]
 | cons p a ih=>simp only [oZ,cy,ih,Option.or_assoc]
def vU (a:List Pu) (p:Pu) (k:Nat):cy (a++[p]) k=(p.byte k).or (cy a k):=by rw [ji];simp [cy]
def i6w {l s:List UInt8} {k:Nat} (h:k<=l.length) (a:Nat):(pN l k s)[a]?=l[a]?.map λb=>(if k<=a then s[a - k]? else none).getD b:=by
 unfold pN;by_cases h1:a<k
 .rw [lc,lm eX,pS h1,Y O]
  simp
 .rw [aa O]
  by_cases h2:a<l.length
  .by_cases h3:a - k<s.length
   .rw [lm eX,kU eX,cK,kZ h,pS O,ba h3,ba h2]
    rfl
   .rw [kU eX,l7,nc (show s.length<=a - k by omega)]
    have e:k+s.length+(a - (l.take k++s.take (l.length - k)).length)=a:=by simp;omega
    rw [e]
    simp
  .rw [nc eX,nc (show l.length<=a by omega)]
   rfl
def X8 (m:List UInt8) (p:Pu) (a:Nat):(oe m p)[a]?=m[a]?.map λb=>(p.byte a).getD b:=by
 unfold oe;split
 .rw [i6w O];rfl
 .by_cases h:a<m.length
  .have:p.byte a=none:=by unfold Pu.byte;rw [Y O]
   rw [this];simp
  .rw [nc O];rfl
def td (m:List UInt8) (ps:List Pu) (a:Nat):(fq m ps)[a]?=m[a]?.map λb=>(cy ps a).getD b:=by
 induction ps generalizing m with
 | nil=>show m[a]?=_;simp [cy]
 | cons p ps ih=>
  show (fq (oe m p) ps)[a]?=_;rw [ih,X8,Option.map_map];congr 1;funext b;simp only [Function.comp,cy];cases cy ps a <;> rfl
def zv {m a b}(h:∀ k,k<m.length->cy a k=cy b k):fq m a=fq m b:=by
 apply mQ;intro k;rw [td,td];by_cases hk:k<m.length
 .rw [h k hk]
 .rw [nc O];rfl
def iL (ss:List Pu) (C:List (List Wy)) (q:List Rq) (m:List UInt8):List UInt8:=fq m (bZ q++dY C++ss)
def Bo {v:Wy}{a b}(cY:v.line % 16=0)(hd:v.data.size=0\/v.data.size=16)(h:v.pu.byte a=some b):v.line=a - a % 16:=by
 unfold Pu.byte at h;split at h
 .have:=(aK.1 h).1
  rw [gy] at this;simp only [Wy.pu] at *;omega
 .cases h
def Nd {l a b}(h:cy l a=some b):∃ p∈l,p.byte a=some b:=by
 induction l with
 | nil=>simp [cy] at h
 | cons p l ih=>
  simp only [cy] at h;cases hl:cy l a with
  | none=>rw [hl,iT] at h;exact ⟨p,ee ..,h⟩
  | some c=>
   rw [hl,Option.some_or] at h;obtain ⟨q,hq,e⟩:=ih (by rw [hl];exact h);exact ⟨q,ez _ hq,e⟩
def EV {l a}(h:∀ p∈l,p.byte a=none):cy l a=none:=by
 cases e:cy l a with
 | none=>rfl
 | some b=>
  obtain ⟨p,hp,e'⟩:=Nd e;rw [h p hp] at e';cases e'
def WY {l a p}(hp:p∈l)(h:∀ q∈l,q=p\/q.byte a=none):cy l a=p.byte a:=by
 cases e:p.byte a with
 | none=>
  refine EV λq hq=>?_
  rcases h q hq with rfl|h'
  .exact e
  .exact h'
 | some b=>
  cases e2:cy l a with
  | none=>
   exfalso;have key:∀ l':List Pu,p∈l'->cy l' a≠none:=by
    intro l'
    induction l' with
    | nil=>intro h;cases h
    | cons r l' ih=>
     intro hm;simp only [cy];rcases bB.1 hm with rfl|hm
     .rw [e];cases cy l' a <;> simp
     .have:=ih hm
      cases hh:cy l' a with
      | none=>exact absurd hh this
      | some c=>simp
   exact key l hp e2
  | some c=>
   obtain ⟨q,hq,e3⟩:=Nd e2;rcases h q hq with rfl|h'
   .rw [e] at e3;rw [e3]
   .rw [h'] at e3;cases e3
def CN {C v}:ef C v↔v∈C.flatten:=by
 constructor
 .rintro ⟨k,ws,i,hw,hv⟩
  exact vH.2 ⟨ws,aQ hw,aQ hv⟩
 .intro h
  obtain ⟨ws,hw,hv⟩:=vH.1 h;obtain ⟨k,hk⟩:=oh.1 hw;obtain ⟨i,hi⟩:=oh.1 hv;exact ⟨k,ws,i,hk,hi⟩
def bj.way {ways C}(hR:bj ways C){v}(h:ef C v):v.line % 16=0/\(v.data.size=0\/v.data.size=16):=by
 obtain ⟨k,ws,i,hw,hv⟩:=h;obtain ⟨h1,_,h2,_⟩:=(hR.hs k ws hw).2 i v hv;exact ⟨h1,h2⟩
def bj.uniq {ways C}(hR:bj ways C){u v}(hu:ef C u)(hv:ef C v)(e:u.line=v.line):u=v:=by
 obtain ⟨k,ws,i,hw,hi⟩:=hu;obtain ⟨l,us,j,bN,hj⟩:=hv;have h1:=((hR.hs k ws hw).2 i u hi).2.1;have h2:=((hR.hs l us bN).2 j v hj).2.1;obtain rfl:k=l:=by rw [<- h1,<- h2,e]
 rw [hw] at bN;injection bN with bN;subst bN;have h3:=(hR.hs k ws hw).lone i j u v hi hj e;subst h3;rw [hi] at hj;injection hj
def sh {ways C}(hR:bj ways C){v}(h:ef C v){a}(hl:v.line=a - a % 16):cy (dY C) a=v.pu.byte a:=by
 refine WY (fQ.2 ⟨v,CN.1 h,rfl⟩) λq hq=>?_
 obtain ⟨u,hu,rfl⟩:=fQ.1 hq;have cb:=CN.2 hu;cases e:u.pu.byte a with
 | none=>exact .inr e
 | some b=>
  obtain ⟨cY,hd⟩:=hR.way cb;have:=Bo cY hd e;have:=hR.uniq cb h (this.trans hl.symm);subst this;exact .inl F
def wD {ways C}(hR:bj ways C){a}(h:∀ v,ef C v->v.line≠a - a % 16):cy (dY C) a=none:=by
 refine EV λq hq=>?_
 obtain ⟨u,hu,rfl⟩:=fQ.1 hq;have cb:=CN.2 hu;cases e:u.pu.byte a with
 | none=>exact e
 | some b=>
  obtain ⟨cY,hd⟩:=hR.way cb;exact absurd (Bo cY hd e) (h u cb)
def zo {ways ways' C D}(hR:bj ways C)(hD:bj ways' D){a}(h1:∀ v,v.line=a - a % 16->(ef C v↔ef D v)):cy (dY C) a=cy (dY D) a:=by
 by_cases h:∃ v,ef C v/\v.line=a - a % 16
 .obtain ⟨v,hv,hl⟩:=h
  rw [sh hR hv hl,sh hD ((h1 v hl).1 hv) hl]
 .rw [wD hR λv hv e=>h ⟨v,hv,e⟩,wD hD λv hv e=>h ⟨v,(h1 v e).2 hv,e⟩]
def vI {C:List (List Wy)} {k:Nat} {ws us:List Wy} (hw:C[k]?=some ws) (v:Wy):ef (C.set k us) v↔v∈us \/ ∃ (j:Nat) (ts:List Wy) (i:Nat),j≠k/\C[j]?=some ts/\ts[i]?=some v:=by
 have hk:=(aK.1 hw).1;constructor
 .rintro ⟨j,ts,i,hj,hi⟩
  by_cases e:k=j
  .subst e
   rw [jQ hk] at hj;injection hj with hj;subst hj;exact .inl (aQ hi)
  .rw [mS e] at hj
   exact .inr ⟨j,ts,i,λe'=>e e'.symm,hj,hi⟩
 .rintro (h|⟨j,ts,i,hj,h1,h2⟩)
  .obtain ⟨i,hi⟩:=oh.1 h
   exact ⟨k,us,i,jQ hk,hi⟩
  .exact ⟨j,ts,i,by rw [mS (λe=>hj e.symm)];exact h1,h2⟩
def BV {C:List (List Wy)} {k:Nat} {ws:List Wy} (hw:C[k]?=some ws) (v:Wy):ef C v↔v∈ws \/ ∃ (j:Nat) (ts:List Wy) (i:Nat),j≠k/\C[j]?=some ts/\ts[i]?=some v:=by
 have:=vI (us:=ws) hw v;obtain ⟨hl,e⟩:=aK.1 hw
 rwa [<- e,List.set_getElem_self,e] at this
end
section

def r9.det {ws l i j b c}(h:r9 ws l i b)(g:r9 ws l j c):i=j/\b=c:=by
 rcases h with ⟨hb,v,hv,hf⟩|⟨hb,hi,hn⟩
 .rcases g with ⟨hc,u,hu,hg⟩|⟨hc,hj,hm⟩
  .refine ⟨?_,by rw [hb,hc]⟩
   rcases wM i j with hl|hl|hl
   .exact absurd hv.line (hg i hl v hv.is)
   .exact hl
   .exact absurd hu.line (hf j hl u hu.is)
  .exact absurd hv.line (hm v (aQ hv.is))
 .rcases g with ⟨hc,u,hu,hg⟩|⟨hc,hj,hm⟩
  .exact absurd hu.line (hn u (aQ hu.is))
  .exact ⟨by rw [hi,hj],by rw [hb,hc]⟩
def fE.det {ways C x k k' i i' b b'}(h:fE ways C x k i b)(g:fE ways C x k' i' b'):k=k'/\i=i'/\b=b':=by
 cases h with
 | no h hk hi hb=>
  cases g with
  | no g gW g0 bS=>exact ⟨by rw [hk,gW],by rw [hi,g0],by rw [hb,bS]⟩
  | yes g=>exact absurd g h
 | yes h hk ws hw hs=>
  cases g with
  | no g=>exact absurd h g
  | yes g gW ws' bN lb=>
   obtain rfl:k=k':=by rw [<- hk,<- gW]
   rw [hw] at bN;injection bN with bN;subst bN;obtain ⟨rfl,rfl⟩:=hs.det lb;exact ⟨rfl,rfl,rfl⟩
end
section
open Go.RowKit
def Kv {q q' reg}:∀ {n:Nat},(∀ j,j<n->(q[j]?.map (·.inst))=(q'[j]?.map (·.inst)))->iY q reg n=iY q' reg n
 | 0,_=>rfl
 | n+1,h=>by
  have ih:=Kv (reg:=reg) (n:=n) λj hj=>h j O
  have h1:=h n O;unfold iY;cases hq:q[n]? with
  | none=>
   cases f9:q'[n]? with
   | none=>exact ih
   | some e'=>rw [hq,f9] at h1;simp at h1
  | some e=>
   cases f9:q'[n]? with
   | none=>rw [hq,f9] at h1;simp at h1
   | some e'=>
    rw [hq,f9] at h1;simp at h1;simp only [h1,ih]
def i7i {q q':List En}{reg i}(h:∀ j,j<i->(q[j]?.map (·.inst))=(q'[j]?.map (·.inst)))(h1:i<=q.length)(h2:i<=q'.length):dM q i reg=dM q' i reg:=by
 unfold dM;have e1:(min (i:Int) q.length).toNat=i:=by omega
 have e2:(min (i:Int) q'.length).toNat=i:=by omega
 rw [e1,e2,Kv h]
end
section

namespace Wd
def fz : List Nat->Nat
 | []=>0
 | b::l=>2 * fz l+b
def dj (w i:Nat):Nat:=w / 2 ^ i % 2
def uo (w i):dj w i<=1:=by unfold dj;omega
def nz (w i):dj w i=(w.testBit i).toNat:=by
 unfold dj;rw [xG];rcases Nat.mod_two_eq_zero_or_one (w / 2 ^ i) with h|h <;> simp [h]
def Rn (l)(h:∀ b∈l,b<=1):fz l<2 ^ l.length:=by
 induction l with
 | nil=>simp [fz]
 | cons b l ih=>
  have h1:=ih λb hb=>h b (ez _ hb)
  have h2:=h b aF;simp only [fz,ft,Nat.pow_succ];omega
def i7k (l:List Nat) (h:∀ b∈l,b<=1) (i:Nat):(fz l).testBit i=decide (l[i]?=some 1):=by
 induction l generalizing i with
 | nil=>simp [fz]
 | cons b l ih=>
  have h2:=h b aF;have ih:=ih λb hb=>h b (ez _ hb)
  cases i with
  | zero=>
   simp only [fz,Nat.testBit_zero,mI,dF];exact vc.2 O
  | succ i=>
   rw [Nat.testBit_succ,pT,<- ih];congr 1;simp only [fz];omega
def EY (n:Nat) (g:Nat->Nat) (p:Nat->Bool) (hg:∀ i,i<n->g i=(p i).toNat) (i:Nat):(fz ((List.range n).map g)).testBit i=(decide (i<n) && p i):=by
 rw [i7k]
 .by_cases hi:i<n
  .simp [hi,hg i hi]
  .simp [hi]
 .intro b hb
  simp only [fQ,List.mem_range] at hb;obtain ⟨j,hj,rfl⟩:=hb;rw [hg j hj];exact Bool.toNat_le _
def Wb (w a s):fz ((List.range s).map λi=>dj w (a+i))=aD w a s :=
 oo λi=>by
  rw [EY s _ (λi=>w.testBit (a+i)) (λi _=>nz w (a+i)),qH]
def Xt {w:Nat} (s:Nat) (hw:w<4294967296) (h1:1<=s) (h:s<=32) :fz ((List.range 32).map λi=>if i<s then dj w i else dj w (s - 1))=cz w s :=
 oo λi=>by
  rw [EY 32 _ (λi=>if i<s then w.testBit i else w.testBit (s - 1)) (λi _=>by split <;> exact nz _ _),Em s i hw h1 h]
def Y3 (x i:Nat):((x:Int) / 2 ^ i).tmod 2=(dj x i:Int):=by
 rw [qy];unfold dj;rw [<- wk];generalize x / 2 ^ i=q;rw [CI O];omega
def R7 (n:Nat):(UInt8.ofNat n).toNat=n % 256:=by simp
def i7p (x k):bytesL x (k+1)=UInt8.ofNat x::bytesL (x / 256) k:=by
 unfold bytesL;rw [List.range_succ_eq_map,kg,List.map_map];congr 1
 .simp
 apply vJ;intro i _;simp only [Function.comp];congr 1;rw [Nat.div_div_eq_div_mul,show 8 * (i+1)=8+8 * i by omega,Nat.pow_add]
def PD (l):bytesL (dl l) l.length=l:=by
 induction l with
 | nil=>rfl
 | cons b l ih=>
  have hb:=b.toNat_lt;rw [ft,i7p,dl,show (b.toNat+256 * dl l) / 256=dl l by omega,ih];congr 1;rw [<- UInt8.toNat_inj,R7];omega
def i7r {l:List UInt8}{k}(h:k<l.length):dl (l.drop k)=256 * dl (l.drop (k+1))+l[k].toNat:=by
 rw [mn h,dl];omega
def i7s (x k:Nat) (hk:k<4):aV x (8 * (k:Int)) 8=x / 2 ^ (8 * k) % 256:=by
 rw [ED (by rw [oD];omega),show (8 * (k:Int)).toNat=8 * k by omega];unfold aD;exact wy _ 8
end Wd
end
section
open Go.RowKit
namespace Me
def refMemRight_any (n a:Nat) (k:Int) (w:World) (hn:n<=9223372036854775807) (ha:a<4294967296) (hk : I6 k) :Ca 97 #[I (n:Int),U (a:Int),I k] w λe w'=>e = .returned (.bool (right n a k)) /\ ∃ d,w'=w.drewN d:=by
 by_cases h1:k=1
 .subst h1
  rw [show right n a 1=decide ((a:Int)+1<=n) by simp [right]];go_enter func97,ntmps97;go_wp2;go_ret;exact ⟨rfl,0,rfl⟩
 .by_cases h2:k=2
  .subst h2
   by_cases h:(a:Int) % 2=0
   .rw [show right n a 2=decide ((a:Int)+2<=n) by simp [right,h]]
    exact vK
   .rw [show right n a 2=false by simp [right,h]]
    exact vK
  .by_cases h4:k=4
   .subst h4
    by_cases h:(a:Int) % 4=0
    .rw [show right n a 4=decide ((a:Int)+4<=n) by simp [right,h]]
     exact vK
    .rw [show right n a 4=false by simp [right,h]]
     exact vK
   .have g1:(k != 1)=true:=by simpa using h1
    have g2:(k != 2)=true:=by simpa using h2
    have g4:(k != 4)=true:=by simpa using h4
    rw [show right n a k=false by simp [right,h1,h2,h4]];exact vK
def refRead_yes (m:ByteArray) (a k:Nat) (w:World) (hn:m.size<=9223372036854775807) (ha:a<4294967296) (hk:k<=9223372036854775807) (h:right m.size a (k:Int)=true) :Ca 102 #[.string m,U (a:Int),I (k:Int)] w λe w'=>e = .returned (.string (m.extract a (a+k))) /\ ∃ d,w'=w.drewN d:=by
 have hr:=right_iff.1 h;have h1:(a:Int)+k<=m.size:=hr.2.2;clear hr;have fR:=λW=>De (P:=Tryz.prog) 9 underlying9 m a k O W
 go_enter func102,ntmps102;go_wp2_with (go_at_call 56;refine (memRight_any _ _ _ _ l5 l5 l5).mono ?_;rintro e w' ⟨rfl,d,rfl⟩);go_ret;exact ⟨rfl,0,rfl⟩
end Me
end
section
open Go.RowKit
namespace Wd
def yl (x:Nat) (i:Nat) (w:World) (hx:x<4294967296) (hi:i<32) :Ca 196 #[U (x:Int),I (i:Int)] w λe w'=>e = .returned (U (dj x i:Int)) /\ ∃ n,w'=w.drewN n:=by
 go_enter func196,ntmps196;go_wp2;go_ret;exact ⟨by rw [<- Y3];rfl,0,rfl⟩
def LX (a s w)(ha : I6 a)(hs : I6 s):Ca 198 #[I a,I s] w λe w'=>e = .returned (.bool (ey a s)) /\ ∃ n,w'=w.drewN n:=by
 by_cases h0:0<=a
 .by_cases h1:a<=31
  .by_cases h2:1<=s
   .by_cases h3:s<=32 - a
    .have hf:ey a s=true:=by rw [oD];omega
     exact wi
    .have hf:ey a s=false:=by simp [ey];omega
     exact wi
   .have hf:ey a s=false:=by simp [ey];omega
    exact wi
  .have hf:ey a s=false:=by simp [ey];omega
   exact wi
 .have hf:ey a s=false:=by simp [ey];omega
  exact wi
end Wd
end
section
open Go.RowKit
namespace Wd
def pj (l:List Nat):List Value:=l.map λ(b:Nat)=>Value.int .u32 (b:Int)
def i7t {l k}(h:k<l.length):(pj l)[k]?=some (U ((l[k]'h:Nat):Int)):=by
 unfold pj;simp [h]
def UA {l:List Nat}{k}(h:k<l.length):fz (l.drop k)=2 * fz (l.drop (k+1))+l[k]:=by
 rw [mn h,fz]
def Kp {l:List Nat} (h:∀ b∈l,b<=1) (hl:l.length<=32) (k:Nat):fz (l.drop k)<4294967296:=by
 have h1:=Rn (l.drop k) (λb hb=>h b (sU hb));have h2:2 ^ (l.drop k).length<=2 ^ 32:=nT O (by rw [nX];omega);have e:(2:Nat) ^ 32=4294967296:=rfl;omega
def WH (l A c B w)(hr:Rd w B 1 A l.length c (pj l))(hl:l.length<=32)(hb:∀ b∈l,b<=1):Ca 199 #[.slice A l.length c] w λe w'=>e = .returned (U (fz l:Int)) /\ ∃ n,w'=w.drewN n:=by
 have Hb:=V hb;clear hb;go_enter func199,ntmps199;go_wp2;go_loop [3,4] (λx i=>∃ q:Int,-1<=q/\q<l.length/\i = I q/\x = U (fz (l.drop (q+1).toNat):Int)) (λ_ i=>(intOf i+1).toNat);case atStart=>exact ⟨_,by omega,by omega,rfl,by rw [show ((l.length:Int) - 1+1).toNat=l.length from by omega,List.drop_length];rfl⟩
 case round=>
  obtain ⟨q,h1,h2,rfl,rfl⟩:=hrel;by_cases hq:0<=q
  .obtain ⟨j,rfl⟩:=jS hq
   have hj:j<l.length:=by omega
   obtain ⟨g,o,u,rfl,_,hu,hc⟩:=hr.cell1 hj;rw [i7t hj] at hu;obtain rfl:_=u:=by injection hu
   have e1:((j:Int)+1).toNat=j+1:=by omega
   rw [e1];have lt1:=Kp Hb.out hl j;have lt2:=Kp Hb.out hl (j+1);have Hd:=V (UA hj);have m6:2 * ((fz (l.drop (j+1)):Nat):Int)+((l[j]'hj:Nat):Int)<4294967296:=by
    have:=Hd.out;omega
   clear hu e1;go_wp2;go_round;case rel=>exact ⟨(j:Int) - 1,by omega,by omega,rfl,by rw [show ((j:Int) - 1+1).toNat=j from by omega,Hd.out,Int.natCast_add,m0];rfl⟩
   case measure=>exact zM
  .obtain rfl:q = -1:=by omega
   go_wp2;go_ret;exact ⟨rfl,0,rfl⟩
def uI (n:Nat) (f:Nat->Nat) (A:Option Addr) (c B:Nat) (w:World) (hr:Rd w B 1 A n c (pj ((List.range n).map f))) (hn:n<=32) (hb:∀ i,f i<=1) :Ca 199 #[.slice A n c] w λe w'=>e = .returned (U (fz ((List.range n).map f):Int)) /\ ∃ m,w'=w.drewN m:=by
 have h:=WH ((List.range n).map f) A c B w (by rw [gq,sd];exact hr) (by simpa using hn) (by
  intro b bS;simp only [fQ] at bS;obtain ⟨j,_,rfl⟩:=bS
  exact hb j)
 rw [gq,sd] at h;exact h
def DY : (Tryz.prog.info? 28).map (λi=>(i.zero,i.size,i.bytes))=some (some (U 0),1,4):=by kernel_rfl
def EX (n:Nat) (f:Nat->Nat):pj ((List.range n).map f)++[U (f n:Int)]=pj ((List.range (n+1)).map f):=by
 simp [pj,List.range_succ]
def GN (x:Nat) (a s:Int) (w:World) (hx:x<4294967296) (ha : I6 a) (hs : I6 s) :Ca 158 #[U (x:Int),I a,I s] w (RB w (U (aV x a s:Int))):=by
 cases hf:ey a s
 .rw [NK hf]
  go_enter func158,ntmps158;go_wp2_with (go_at_call 198;refine (LX _ _ _ bI bI).mono ?_;rintro e w' ⟨rfl,d,rfl⟩);go_ret;exact ⟨rfl,af.drewN _ _⟩
 .rw [ED hf]
  have cS:=hf;rw [oD] at cS;obtain ⟨n,rfl⟩:=jS (show 0<=a by omega);obtain ⟨m,rfl⟩:=jS (show 0<=s by omega);rw [jt,jt];go_enter func158,ntmps158;go_wp2_with (go_at_call 198;refine (LX _ _ _ bI bI).mono ?_;rintro e w' ⟨rfl,d,rfl⟩);go_loopw [7,8] (λv i wr=>∃ k:Nat,k<=m/\i = I (k:Int)/\wr.ownsRow w.heap.size 28 1 v k (pj ((List.range k).map λj=>dj x (n+j)))/\af w wr) (λ_ i _=>m - (intOf i).toNat);case atStart=>exact ⟨0,by omega,rfl,xi _ _ _ _ aF,(af.drewN w d).trans (af.alloc _ _)⟩
  case round=>
   obtain ⟨k,hk,rfl,ir,ii⟩:=hrel;by_cases ll:k<m
   .go_wp2_with (first
     | (go_at_call 196;refine (yl x (n+k) _ hx O).mono ?_;rintro e w' ⟨rfl,d1,rfl⟩)
     | (at_builtin;refine t9 (wr.drewN _) [U (dj x (n+k):Int)] 1 F _ _ _ ax w.heap.size 28 (U 0) 1 4 underlying23 DY F ag _ k _ ax (own_drewN ir _) ax F vq O O ii.size ?_;intro v' w1 bC bL))
    go_roundw;case rel=>exact ⟨k+1,by omega,by go_num,by rw [<- EX];exact bC,(ii.trans (af.drewN wr d1)).then_grown (own_drewN ir d1) bL (aM _)⟩
    case measure=>exact zM
   .obtain rfl:k=m:=by omega
    obtain ⟨A,c,rfl,hr⟩:=Rd.of_own ir;have Hr:=V hr;clear hr;have He:=V (Wb x n k);go_wp2_with (go_at_call 199;refine (uI k (λj=>dj x (n+j)) A c _ _ Hr.out O (λi=>uo _ _)).mono ?_;rintro e w' ⟨rfl,d1,rfl⟩);go_ret;exact ⟨dI (by rw [He.out]),ii.trans (af.drewN _ _)⟩
def vF (x:Nat) (s:Int) (w:World) (hx:x<4294967296) (hs : I6 s) :Ca 159 #[U (x:Int),I s] w (RB w (U (cJ x s:Int))):=by
 by_cases h1:s<1
 .have hz:cJ x s=x:=by unfold cJ;rw [aa (.inl h1)]
  rw [hz];go_enter func159,ntmps159;go_wp2;go_ret;exact ⟨rfl,af.refl _⟩
 .by_cases h2:32<s
  .have hz:cJ x s=x:=by unfold cJ;rw [aa (.inr h2)]
   rw [hz];go_enter func159,ntmps159;go_wp2;go_ret;exact ⟨rfl,af.refl _⟩
  .have hz:cJ x s=cz x s.toNat:=by unfold cJ;rw [Y O]
   rw [hz];clear hz;obtain ⟨m,rfl⟩:=jS (show 0<=s by omega);rw [jt];go_enter func159,ntmps159;go_wp2;go_loopw [5,6] (λu i wr=>∃ k:Nat,k<=32/\i = I (k:Int)/\wr.ownsRow w.heap.size 28 1 u k (pj ((List.range k).map λi=>if i<m then dj x i else dj x (m - 1)))/\af w wr) (λ_ i _=>32 - (intOf i).toNat);case atStart=>exact ⟨0,by omega,rfl,xi _ _ _ _ aF,af.alloc _ _⟩
   case round=>
    obtain ⟨k,hk,rfl,ir,ii⟩:=hrel;by_cases ll:k<32
    .have dS:=EX k (λi=>if i<m then dj x i else dj x (m - 1))
     by_cases hin:k<m
     .rw [aa hin] at dS
      have Hs:=V dS;clear dS
      go_wp2_with (first
       | (go_at_call 196;refine (yl x k _ hx O).mono ?_;rintro e w' ⟨rfl,d1,rfl⟩)
       | (at_builtin;refine t9 (wr.drewN _) [U (dj x k:Int)] 1 F _ _ _ ax w.heap.size 28 (U 0) 1 4 underlying23 DY F ag _ k _ ax (own_drewN ir _) ax F vq O O ii.size ?_;intro v' w1 bC bL))
      exact Hy
     .rw [Y hin] at dS
      have Hs:=V dS;clear dS;have jb:∀ W,Ca 196 #[U (x:Int),I ((m:Int) - 1)] W λe w'=>e = .returned (U (dj x (m - 1):Int)) /\ ∃ d,w'=W.drewN d:=by
       intro W;have:=yl x (m - 1) W hx O
       rwa [show ((m - 1:Nat):Int)=(m:Int) - 1 by omega] at this
      have ln:=V jb;clear jb
      go_wp2_with (first
       | (go_at_call 196;refine (ln.out _).mono ?_;rintro e w' ⟨rfl,d1,rfl⟩)
       | (at_builtin;refine t9 (wr.drewN _) [U (dj x (m - 1):Int)] 1 F _ _ _ ax w.heap.size 28 (U 0) 1 4 underlying23 DY F ag _ k _ ax (own_drewN ir _) ax F vq O O ii.size ?_;intro v' w1 bC bL))
      exact Hy
    .obtain ⟨A,c,rfl,hr⟩:=Rd.of_own ir
     have Hr:=V hr;clear hr ir;have he:=Xt m hx O O;rw [show 32=k by omega] at he;have He:=V he;clear he;go_wp2_with (go_at_call 199;refine (uI k (λi=>if i<m then dj x i else dj x (m - 1)) A c _ _ Hr.out O (λi=>by split <;> exact uo _ _)).mono ?_;rintro e w' ⟨rfl,d1,rfl⟩);go_ret;exact ⟨dI (by rw [He.out]),ii.trans (af.drewN _ _)⟩
end Wd
end
section
open Go.RowKit
namespace Wd
def GS (s w)(h:s.size<=4):Ca 100 #[.string s] w λe w'=>e = .returned (.tuple #[U (dl s.data.toList:Int),I 0]) /\ ∃ n,w'=w.drewN n:=by
 go_enter func100,ntmps100;go_wp2;go_loop [4,5] (λx i=>∃ q:Int,-1<=q/\q<s.size/\i = I q/\x = U (dl (s.data.toList.drop (q+1).toNat):Int)) (λ_ i=>(intOf i+1).toNat);case atStart=>exact ⟨_,by omega,by omega,rfl,by rw [sW aF];rfl⟩
 case round=>
  obtain ⟨q,h1,h2,rfl,rfl⟩:=hrel;by_cases hq:0<=q
  .obtain ⟨k,rfl⟩:=jS hq
   have hlt:k<s.size:=by omega
   have hl:k<s.data.toList.length:=by simpa using hlt
   have e1:((k:Int)+1).toNat=k+1:=by omega
   rw [e1];have hd:=i7r hl;have lt1:=tS (l:=s.data.toList.drop k) eX;have hs:(256 * ((dl (s.data.toList.drop (k+1)):Nat):Int) % 4294967296+(((s[k]'hlt).toNat:Nat):Int) % 4294967296) % 4294967296=((dl (s.data.toList.drop k):Nat):Int):=by
    rw [hd] at lt1 ⊢;have he:(s[k]'hlt)=s.data.toList[k]'hl:=rfl;rw [he];omega
   have Hs:=V hs;clear e1 lt1 hd hs;go_wp2;go_round;case rel=>exact ⟨(k:Int) - 1,by omega,by omega,rfl,by rw [Hs.out,show ((k:Int) - 1+1).toNat=k by omega]⟩
   case measure=>exact zM
  .obtain rfl:q = -1:=by omega
   go_wp2;go_ret2;exact ⟨rfl,0,rfl⟩
def PG (n:Nat):ck [UInt8.ofNat n]=[.int .u8 ((n % 256:Nat):Int)]:=by simp [ck]
def Sx (x:Nat) (s:Nat) (w:World) (hx:x<4294967296) (h:s<=4) :Ca 98 #[U (x:Int),I (s:Int)] w (RB w (.tuple #[.string ⟨(bytesL x s).toArray⟩,I 0])):=by
 go_enter func98,ntmps98;go_wp2;go_loopw [6,7] (λv i wr=>∃ k:Nat,k<=s/\i = I (k:Int)/\wr.ownsRow w.heap.size 5 1 v k (ck (bytesL x k))/\af w wr) (λ_ i _=>s - (intOf i).toNat);case atStart=>exact ⟨0,by omega,rfl,xi _ _ _ _ aF,af.alloc _ _⟩
 case round=>
  obtain ⟨k,hk,rfl,ir,ii⟩:=hrel;by_cases eS:k<s
  .have jl:=i7s x k O
   have E:∀ W,Ca 158 #[U (x:Int),I (8 * (k:Int)),I 8] W (RB W (U ((x / 2 ^ (8 * k) % 256:Nat):Int))):=by
    intro W;have:=GN x (8 * (k:Int)) 8 W hx O O
    rwa [jl] at this
   have HF:=V E;have hlt:x / 2 ^ (8 * k) % 256<256:=dy _ O;clear E jl;go_wp2_with (first|(go_at_call 158;refine (HF.out _).mono ?_;rintro e w1 ⟨rfl,aJ⟩;have jr:=Uv ir aJ)|(at_builtin;go_must (refine t9 w1 [.int .u8 ((x / 2 ^ (8 * k) % 256:Nat):Int)] 1 F _ _ _ ax w.heap.size 5 (.int .u8 0) 1 1 underlying104 Fs F ag _ k _ ax jr ax F vq O O (ii.trans aJ).size ?_);intro v' w2 bC bL));go_roundw;case rel=>
    rw [<- PG,<- sJ,<- Fx] at bC;exact ⟨k+1,by omega,by go_num,bC,(ii.trans aJ).then_grown jr bL (aM _)⟩
   case measure=>exact zM
  .obtain rfl:k=s:=by omega
   obtain ⟨A,c,rfl,hr⟩:=Rd.of_own ir;have Hr:=V hr;clear hr;go_wp2_with (refine rM F 104 9 5 _ ax underlying104 underlying5 underlying9 Hr.out ax ?_);go_ret2;exact ⟨rfl,ii⟩
end Wd
end
section
open Go.RowKit Wd
def pX (m ps):bl (dZ m ps)=fq (bl m) ps:=by unfold dZ;exact xy _
def qk (m ps):(dZ m ps).size=m.size:=by rw [<- gy,pX,xT,gy]
structure Sq where
 pc:Nat
 regs:List Nat
 mem:ByteArray
 halt:Int
def bV (regs:List Nat) (r:Int):Nat:=regs[r.toNat]?.getD 0
def gk (s:Sq) (i:Ins):Stp :=
 let a:=bV s.regs i.rs1
 let b:=bV s.regs i.rs2
 let ad:=ay a i.imm
 let v:=if bp i≠0 then jw i s.pc a b else 0
 if ae i.op=3 then
  (if dc s.mem.size ad (aU i.op)=true then ⟨s.pc,ay s.pc 4,bp i,if bp i≠0 then iI i.op (fT s.mem ad (aU i.op)) else 0,ad,aU i.op,false,0,0⟩
  else ⟨s.pc,s.pc,0,0,ad,0,false,4,0⟩)
 else if ae i.op=4 then
  (if dc s.mem.size ad (aU i.op)=true then ⟨s.pc,ay s.pc 4,bp i,nE b (aU i.op),ad,aU i.op,true,0,0⟩
  else ⟨s.pc,s.pc,0,0,ad,0,false,5,0⟩)
 else if ae i.op=5 then
  (if gH i s.pc a b % 4=0 then ⟨s.pc,gH i s.pc a b,bp i,v,0,0,false,0,0⟩ else ⟨s.pc,s.pc,0,0,0,0,false,3,0⟩)
 else ⟨s.pc,ay s.pc 4,bp i,v,0,0,false,0,if ae i.op=2 then eJ i.op a b else 0⟩
def pY (s:Sq) (why:Int):Stp:=⟨s.pc,s.pc,0,0,0,0,false,why,0⟩
def cx (prog:List Nat) (s:Sq):Stp :=
 match eE prog s.pc with
 | none=>pY s 1
 | some w=>match df w with
  | none=>pY s 2
  | some i=>if i.op=47 then pY s 6 else if i.op=48 then pY s 7 else gk s i
def dE (s:Sq) (t:Stp):Sq :=
 { pc:=t.next,regs:=eU s.regs t,mem:=if gx t=true then dZ s.mem [⟨t.addr,fU t.value t.size⟩] else s.mem,halt:=t.halt }
def lS (prog:List Nat) (s:Sq):Sq:=if s.halt≠0 then s else dE s (cx prog s)
def BN (m:ByteArray):Sq:=⟨0,List.replicate 32 0,ou m,0⟩
def ga (prog:List Nat) (m:ByteArray):Nat->Sq
 | 0=>BN m
 | n+1=>lS prog (ga prog m n)
def nP (s:Sq) (i:Ins) (e:En):Prop :=
 let a:=bV s.regs i.rs1
 let b:=bV s.regs i.rs2
 let v:=if bp i≠0 then jw i s.pc a b else 0
 if ae i.op=5 then
  (if gH i s.pc a b % 4=0 then e.value=v/\e.next=gH i s.pc a b/\e.halt=0 else e.halt=3)
 else e.value=v/\e.halt=0/\(ae i.op=2->e.took=eJ i.op a b)
def jV (s:Sq) (i:Ins) (e:En):Prop :=
 let a:=bV s.regs i.rs1
 let b:=bV s.regs i.rs2
 let ad:=ay a i.imm
 if ae i.op=3 then
  (e.known=false/\((e.is=0/\e.halt=0)\/(e.is=3/\e.halt=4/\e.addr=ad/\dc s.mem.size ad (aU i.op)=false))) \/
  (e.known=true/\e.halt=0/\e.addr=ad/\dc s.mem.size ad (aU i.op)=true/\(e.is=0\/e.is=2\/((e.is=1\/e.is=3)/\e.value=if bp i≠0 then iI i.op (fT s.mem ad (aU i.op)) else 0)))
 else if ae i.op=4 then
  (e.known=false/\((e.is=0/\e.halt=0)\/(e.is=3/\e.halt=5/\e.addr=ad/\dc s.mem.size ad (aU i.op)=false))) \/
  (e.known=true/\e.halt=0/\e.addr=ad/\dc s.mem.size ad (aU i.op)=true/\(e.is=0\/(e.is=3/\e.value=nE b (aU i.op))))
 else
  (e.is=0/\e.halt=0/\e.known=false)\/((e.is=1\/e.is=3)/\nP s i e/\(ae i.op=5->e.known=decide (e.is=3/\e.halt=0)))
def eD (prog:List Nat) (s:Sq) (e:En):Prop:=e.pc=s.pc /\
 match eE prog s.pc with
 | none=>e.inst=lF/\e.is=3/\e.halt=1
 | some w=>match df w with
  | none=>e.inst=lF/\e.is=3/\e.halt=2
  | some i=>e.inst=i/\(if i.op=47 then e.is=3/\e.halt=6 else if i.op=48 then e.is=3/\e.halt=7 else jV s i e)
section
variable {prog:List Nat} {s:Sq} {e:En}
def CS : ae lF.op=0:=by decide
def uM (h:eD prog s e):(e.is=3/\e.halt≠0/\e.halt≠4/\e.halt≠5/\cx prog s=pY s e.halt/\(ae e.inst.op=0\/ae e.inst.op=6))\/(jV s e.inst e/\cx prog s=gk s e.inst):=by
 obtain ⟨hpc,h⟩:=h;unfold cx;cases hf:eE prog s.pc with
 | none=>
  rw [hf] at h;obtain ⟨hi,h1,h2⟩:=h;exact .inl ⟨h1,by omega,by omega,by omega,by rw [h2],.inl (by rw [hi];exact CS)⟩
 | some w=>
  rw [hf] at h;dsimp only at h ⊢;cases hd:df w with
  | none=>
   rw [hd] at h;obtain ⟨hi,h1,h2⟩:=h;exact .inl ⟨h1,by omega,by omega,by omega,by rw [h2],.inl (by rw [hi];exact CS)⟩
  | some i=>
   rw [hd] at h;obtain ⟨hi,h⟩:=h;dsimp only;subst hi;split at h
   .rename_i bk
    exact .inl ⟨h.1,by omega,by omega,by omega,by rw [aa bk,h.2],.inr (by rw [bk];rfl)⟩
   .rename_i bk
    split at h
    .rename_i bm
     exact .inl ⟨h.1,by omega,by omega,by omega,by rw [Y bk,aa bm,h.2],.inr (by rw [bm];rfl)⟩
    .rename_i bm
     exact .inr ⟨h,by rw [Y bk,Y bm]⟩
def py {f}(h:eD prog s e)(hpc:f.pc=e.pc)(hi:f.inst=e.inst)(h3:e.is=3->e.halt≠0->e.halt≠4->e.halt≠5->(ae e.inst.op=0\/ae e.inst.op=6)->f.is=3/\f.halt=e.halt)(hg:jV s e.inst e->jV s e.inst f):eD prog s f:=by
 have hw:=h;obtain ⟨h1,h2⟩:=h;refine ⟨hpc.trans h1,?_⟩;cases hf:eE prog s.pc with
 | none=>
  rw [hf] at h2;exact I0
 | some w=>
  rw [hf] at h2;dsimp only at h2 ⊢;cases hd:df w with
  | none=>
   rw [hd] at h2;exact I0
  | some i=>
   rw [hd] at h2;obtain ⟨a,h2⟩:=h2;refine ⟨hi.trans a,?_⟩;split at h2
   .rename_i bk
    rw [aa bk];have:=h3 h2.1 O O O (.inr (by rw [a,bk];rfl));exact ⟨this.1,this.2.trans h2.2⟩
   .rename_i bk
    rw [Y bk];split at h2
    .rename_i bm
     rw [aa bm];have:=h3 h2.1 O O O (.inr (by rw [a,bm];rfl));exact ⟨this.1,this.2.trans h2.2⟩
    .rename_i bm
     rw [Y bm];rw [a] at hg;exact hg h2
def Vy {no f}(h:f.pc=s.pc):eD prog s (dh no f prog):=by
 unfold eD dh;rw [h];cases hf:eE prog s.pc with
 | none=>exact ⟨rfl,rfl,rfl,rfl⟩
 | some w=>
  cases hd:df w with
  | none=>exact ⟨by simp only [hd],by simp only [hd];exact ⟨di,di,di⟩⟩
  | some i=>
   by_cases bk:i.op=47
   .simp only [hd,aa bk];exact ⟨di,di,di,di⟩
   .by_cases bm:i.op=48
    .simp only [hd,Y bk,aa bm];exact ⟨di,di,di,di⟩
    .simp only [hd,Y bk,Y bm]
     refine ⟨di,di,?_⟩;unfold jV;dsimp only;split
     .exact .inl ⟨rfl,.inl ⟨rfl,rfl⟩⟩
     .split
      .exact .inl ⟨rfl,.inl ⟨rfl,rfl⟩⟩
      .exact .inl ⟨rfl,rfl,rfl⟩
def Uf {i f}(h:nP s i e)(h1:f.value=e.value)(h2:f.next=e.next)(h3:f.halt=e.halt)(h4:f.took=e.took):nP s i f:=by
 unfold nP at *;dsimp only at *;rw [h1,h2,h3,h4];exact h
def Zs (h:eD prog s e):eD prog s (goE e):=by
 unfold goE;split
 .exact h
 .rename_i h1
  split
  .refine py h rfl rfl (λh3=>absurd h3 O) (λhg=>?_)
   unfold jV at hg ⊢;dsimp only at hg ⊢;split at hg
   .rename_i hk
    rw [aa hk];rw [Y (by rw [hk];simp)];rcases hg with ⟨a,b|b⟩|⟨a,b,c,d,b'|b'|b'⟩
    .omega
    .omega
    .omega
    .omega
    .exact .inr ⟨a,b,c,d,.inr (.inr ⟨.inr F,b'.2⟩)⟩
   .rename_i hk
    rw [Y hk];split at hg
    .rename_i cc
     rcases hg with ⟨a,b|b⟩|⟨a,b,c,d,b'|b'⟩
     .omega
     .omega
     .omega
     .omega
    .rename_i cc
     rw [Y cc];rcases hg with hg|⟨a,b,c⟩
     .omega
     .refine .inr ⟨.inr F,Uf b F F F F,λh5=>?_⟩
      have ik:=c h5;by_cases hh:e.halt=0
      .rw [aa ⟨h5,hh⟩];simp [hh]
      .rw [Y (λh=>hh h.2),ik];simp [hh]
  .refine py h rfl rfl (λh3=>absurd h3 O) (λhg=>?_)
   exact hg
def C0 {b}(h:eD prog s e)(hb:ae e.inst.op=3->e.known=true->e.halt=0->dc s.mem.size e.addr (aU e.inst.op)=true->b=fT s.mem e.addr (aU e.inst.op)):eD prog s (gc e b):=by
 unfold gc;split
 .exact h
 .rename_i hc
  have hk:ae e.inst.op=3:=by by_cases h:ae e.inst.op=3;exact h;exact absurd (.inl h) hc
  have hn:e.known=true:=by cases h:e.known with|true=>rfl|false=>exact absurd (.inr (.inl h)) hc
  refine py h F F (λ_ _ _ _ h6=>by omega) (λhg=>?_);unfold jV at hg ⊢;dsimp only at hg ⊢;rw [aa hk] at hg ⊢;rcases hg with ⟨a,_⟩|⟨a,a2,c,d,_⟩
  .rw [hn] at a;cases a
  .refine .inr ⟨a,a2,c,d,.inr (.inr ⟨.inl F,?_⟩)⟩
   rw [hb hk hn a2 (by rw [c];exact d),c]
def RH (h:eD prog s e):eD prog s { e with filled:=true }:=py h F F (λa _ _ _ _=>⟨a,rfl⟩) (λhg=>hg)
def Xw (h:eD prog s e):eD prog s { e with guess:=e.next }:=py h F F (λa _ _ _ _=>⟨a,rfl⟩) (λhg=>hg)
def WA (h:eD prog s e) (hk:ae e.inst.op=3) (hn:e.known=true):eD prog s { e with is:=2 }:=by
 refine py h F F (λ_ _ _ _ h6=>by omega) (λhg=>?_);unfold jV at hg ⊢;dsimp only at hg ⊢;rw [aa hk] at hg ⊢;rcases hg with ⟨a,_⟩|⟨a,a2,c,d,_⟩
 .rw [hn] at a;cases a
 .exact .inr ⟨a,a2,c,d,.inr (.inl F)⟩
def i8e {a b}(h:eD prog s e)(ha:a=bV s.regs e.inst.rs1)(hb:b=bV s.regs e.inst.rs2):eD prog s (dX e a b):=by
 unfold dX;split
 .exact h
 .rename_i hc
  have h0:e.is=0:=by by_cases h:e.is=0;exact h;exact absurd (.inl h) hc
  have h3:ae e.inst.op≠3:=λh=>hc (.inr (.inl h))
  have h4:ae e.inst.op≠4:=λh=>hc (.inr (.inr h))
  have hpc:=h.1;subst ha hb;have key:∀ f:En,f.pc=e.pc->f.inst=e.inst->f.is=1->nP s e.inst f->f.known=e.known->eD prog s f:=by
   intro f e1 e2 e3 e4 e5;refine py h e1 e2 (λh=>by omega) (λhg=>?_);unfold jV at hg ⊢;dsimp only at hg ⊢;rw [Y h3,Y h4] at hg ⊢;refine .inr ⟨.inl e3,e4,λh5=>?_⟩;rcases hg with ⟨_,_,a3⟩|⟨a1,_,_⟩
   .rw [e5,a3];simp [e3]
   .omega
  have hh:e.halt=0:=by
   rcases uM h with ⟨a1,_⟩|⟨hg,_⟩
   .omega
   .unfold jV at hg
    dsimp only at hg;rw [Y h3,Y h4] at hg;rcases hg with ⟨_,a2,_⟩|⟨a1,_,_⟩
    .exact a2
    .omega
  dsimp only;split
  .rename_i h1
   refine key _ F F F ?_ F;unfold nP;dsimp only;rw [Y O,hpc];exact ⟨rfl,hh,λh=>by omega⟩
  .split
   .rename_i h1 h2
    refine key _ F F F ?_ F;unfold nP;dsimp only;rw [Y O,hpc];exact ⟨rfl,hh,λh=>rfl⟩
   .split
    .rename_i h1 h2 h5
     split
     .rename_i hn
      refine key _ F F F ?_ F;unfold nP;dsimp only;rw [hpc] at hn;rw [aa h5,aa hn,hpc];exact ⟨rfl,rfl,hh⟩
     .rename_i hn
      refine key _ F F F ?_ F;unfold nP;dsimp only;rw [hpc] at hn;rw [aa h5,Y hn]
    .rename_i h1 h2 h5
     refine key _ F F F ?_ F;unfold nP;dsimp only;rw [Y h5,hpc];exact ⟨rfl,hh,λh=>absurd h h2⟩
def Lr {n a}(h:eD prog s e)(ha:a=bV s.regs e.inst.rs1)(hn:n=s.mem.size):eD prog s (eo e n a):=by
 unfold eo;split
 .exact h
 .rename_i hc
  have h0:e.is=0:=by by_cases h:e.is=0;exact h;exact absurd (.inr (.inl h)) hc
  have fh:e.known=false:=by cases h:e.known with|false=>rfl|true=>exact absurd (.inr (.inr h)) hc
  have jy:ae e.inst.op=3\/ae e.inst.op=4:=by
   by_cases h3:ae e.inst.op=3
   .exact .inl h3
   .by_cases h4:ae e.inst.op=4
    .exact .inr h4
    .exact absurd (.inl ⟨h3,h4⟩) hc
  subst ha hn;split
  .rename_i hr
   refine py h F F (λh=>by omega) (λhg=>?_);unfold jV at hg ⊢;dsimp only at hg ⊢;rcases jy with h3|h4
   .rw [aa h3] at hg ⊢
    rcases hg with ⟨_,a2|a2⟩|⟨a1,_⟩
    .exact .inr ⟨rfl,a2.2,rfl,hr,.inl h0⟩
    .omega
    .rw [fh] at a1;cases a1
   .rw [Y O,aa h4] at hg ⊢
    rcases hg with ⟨_,a2|a2⟩|⟨a1,_⟩
    .exact .inr ⟨rfl,a2.2,rfl,hr,.inl h0⟩
    .omega
    .rw [fh] at a1;cases a1
  .rename_i hr
   have gb:dc s.mem.size (ay (bV s.regs e.inst.rs1) e.inst.imm) (aU e.inst.op)=false:=by simpa using hr
   refine py h F F (λh=>by omega) (λhg=>?_);unfold jV at hg ⊢;dsimp only at hg ⊢;rcases jy with h3|h4
   .rw [aa h3] at hg ⊢
    exact .inl ⟨fh,.inr ⟨rfl,by rw [Y O],rfl,gb⟩⟩
   .rw [Y O,aa h4] at hg ⊢
    exact .inl ⟨fh,.inr ⟨rfl,by rw [aa h4],rfl,gb⟩⟩
def W8 {b}(h:eD prog s e)(hb:b=bV s.regs e.inst.rs2):eD prog s (jm e b):=by
 unfold jm;split
 .exact h
 .rename_i hc
  have h4:ae e.inst.op=4:=by by_cases h:ae e.inst.op=4;exact h;exact absurd (.inl h) hc
  have hn:e.known=true:=by cases h:e.known with|true=>rfl|false=>exact absurd (.inr (.inl h)) hc
  have h0:e.is=0:=by by_cases h:e.is=0;exact h;exact absurd (.inr (.inr h)) hc
  subst hb;refine py h F F (λh=>by omega) (λhg=>?_);unfold jV at hg ⊢;dsimp only at hg ⊢;rw [Y O,aa h4] at hg ⊢;rcases hg with ⟨a,_⟩|⟨a,a2,c,d,_⟩
  .rw [hn] at a;cases a
  .exact .inr ⟨a,a2,c,d,.inr ⟨rfl,rfl⟩⟩
def AQ {w:Int}{x}:(if w≠0 then (if w≠0 then x else 0) else 0)=if w≠0 then x else 0:=by split <;> rfl
def xQ (h:eD prog s e) (hi:e.is=3):aY e=cx prog s:=by
 have hpc:=h.1;rcases uM h with ⟨_,h1,h2,h3,h4,_⟩|⟨hg,ht⟩
 .rw [h4]
  unfold aY pY;rw [aa h1,Y O,hpc]
 .rw [ht]
  unfold jV at hg;unfold aY gk;dsimp only at hg ⊢;by_cases h3:ae e.inst.op=3
  .rw [aa h3] at hg
   rw [Y (show ¬ ae e.inst.op=4 by omega),aa h3,aa h3];rcases hg with ⟨_,a|⟨_,a2,a3,a4⟩⟩|⟨_,b1,b2,b3,b|b|b⟩
   .omega
   .rw [aa (show e.halt≠0 by omega),aa (show e.halt=4\/e.halt=5 from .inl a2),Y (show ¬ dc s.mem.size (ay (bV s.regs e.inst.rs1) e.inst.imm) (aU e.inst.op)=true by rw [a4];simp),a2,a3,hpc]
   .omega
   .omega
   .rw [Y (show ¬ e.halt≠0 by omega),aa b3,b.2,b2,hpc,AQ]
  .rw [Y h3] at hg
   by_cases h4:ae e.inst.op=4
   .rw [aa h4] at hg
    rw [aa h4,Y h3,aa h4];rcases hg with ⟨_,a|⟨_,a2,a3,a4⟩⟩|⟨_,b1,b2,b3,b|b⟩
    .omega
    .rw [aa (show e.halt≠0 by omega),aa (show e.halt=4\/e.halt=5 from .inr a2),Y (show ¬ dc s.mem.size (ay (bV s.regs e.inst.rs1) e.inst.imm) (aU e.inst.op)=true by rw [a4];simp),a2,a3,hpc]
    .omega
    .rw [Y O,aa b3,b.2,b2,hpc]
   .rw [Y h4] at hg
    rcases hg with hg|⟨_,hs,hk⟩
    .omega
    .unfold nP at hs
     dsimp only at hs;by_cases h5:ae e.inst.op=5
     .rw [aa h5] at hs
      rw [Y h4,Y h3,Y (show ¬ ae e.inst.op=2 by omega),aa h5,Y h3,Y h4,aa h5];by_cases hn:gH e.inst s.pc (bV s.regs e.inst.rs1) (bV s.regs e.inst.rs2) % 4=0
      .rw [aa hn] at hs
       rw [Y (show ¬ e.halt≠0 by omega),aa hn,hs.1,hs.2.1,hpc,AQ]
      .rw [Y hn] at hs
       rw [aa O,Y hn,Y O,hs,hpc]
     .rw [Y h5] at hs
      obtain ⟨s1,s2,s3⟩:=hs;rw [Y O,Y h4,Y h3,Y h3,Y h4,Y h5];by_cases h2:ae e.inst.op=2
      .rw [aa h2,s3 h2,s1,hpc,Y h5,aa h2,AQ]
      .rw [Y h2,Y h5,s1,hpc,Y h2,AQ]
end
end
section
open Go.RowKit Wd
def jq (prog:List Nat) (st:Nat->Sq):Prop:=∀ n,st (n+1)=lS prog (st n)
structure gg (st:Nat->Sq) (q:List En) (i:Nat):Prop where
 go:∀ j,j<=i->(st j).halt=0
 gs:∀ j,j<i -> ∀ f,q[j]?=some f->f.guess=(st (j+1)).pc
def gg.le {st:Nat->Sq}{q i j}(h:gg st q i)(hj:j<=i):gg st q j:=⟨λn hn=>h.go n O,λn hn f hf=>h.gs n O f hf⟩
def tf (prog:List Nat) (st:Nat->Sq) (q:List En):Prop:=∀ i e,q[i]?=some e->gg st q i->eD prog (st i) e
def WF {l:List Nat}{r x}(h:r<l.length):(l.set r x)[r]?.getD 0=x:=by rw [jQ h];rfl
def i8h {l t}(hl:l.length=32)(hh:t.halt=0){reg}(hr:1<=reg/\reg<=31):bV (eU l t) reg=if t.rd=reg then t.value else bV l reg:=by
 unfold eU bV;by_cases h:t.rd=reg
 .rw [aa ⟨by omega,by omega,hh⟩,aa h,h,WF O]
 .rw [Y h]
  split
  .rename_i hc
   rw [mS O]
  .rfl
def i8i (l t):(eU l t).length=l.length:=by
 unfold eU;split
 .exact cw
 .rfl
def tF {prog s}(h:s.halt=0):lS prog s=dE s (cx prog s):=by unfold lS;rw [Y O]
def E6 (prog s):(lS prog s).regs.length=s.regs.length:=by
 unfold lS;split
 .rfl
 .exact i8i _ _
def Lh (prog s):(lS prog s).mem.size=s.mem.size:=by
 unfold lS dE;split
 .rfl
 .dsimp only
  split
  .exact qk _ _
  .rfl
section
variable {prog:List Nat} {st:Nat->Sq} {q:List En}
def jq.len (h:jq prog st) (h0:(st 0).regs.length=32):∀ n,(st n).regs.length=32
 | 0=>h0
 | n+1=>by rw [h n,E6];exact h.len h0 n
def jq.size (h:jq prog st):∀ n,(st n).mem.size=(st 0).mem.size
 | 0=>rfl
 | n+1=>by rw [h n,Lh];exact h.size n
def jq.shift (h:jq prog st) (k:Nat):jq prog (λn=>st (k+n)):=λn=>h (k+n)
def Nc {s e}(hg:eD prog s e)(ht:(cx prog s).halt=0):jV s e.inst e/\cx prog s=gk s e.inst/\(cx prog s).rd=bp e.inst:=by
 rcases uM hg with ⟨_,a2,_,_,a5,_⟩|⟨h1,h2⟩
 .rw [a5] at ht;exact absurd ht a2
 .refine ⟨h1,h2,?_⟩
  rw [h2] at ht ⊢;unfold gk at ht ⊢;dsimp only at ht ⊢;split at ht
  .rename_i h3
   rw [aa h3];split at ht
   .rename_i hr;rw [aa hr]
   .cases ht
  .rename_i h3
   rw [Y h3];split at ht
   .rename_i h4
    rw [aa h4];split at ht
    .rename_i hr;rw [aa hr]
    .cases ht
   .rename_i h4
    rw [Y h4];split at ht
    .rename_i h5
     rw [aa h5];split at ht
     .rename_i hr;rw [aa hr]
     .cases ht
    .rename_i h5
     rw [Y h5]
def SE {e}(hh:e.halt=0)(hw:bp e.inst≠0):(aY e).value=e.value:=by
 unfold aY;dsimp only;rw [Y O]
 repeat' split
 all_goals rfl
def L6 {e}(hh:e.halt=0):(aY e).halt=0:=by
 unfold aY;dsimp only;rw [Y O]
 repeat' split
 all_goals rfl
def i8k {e}(hh:e.halt≠0):(aY e).halt=e.halt:=by
 unfold aY;dsimp only;rw [aa hh]
def MI (hR:jq prog st) (jX:(st 0).regs.length=32) (hG:tf prog st q) {reg:Int} (hr:1<=reg/\reg<=31):∀ n,gg st q n->n<=q.length -> (iY q reg n<0->bV (st n).regs reg=bV (st 0).regs reg)/\(∀ m:Nat,iY q reg n=(m:Int)->bV (st n).regs reg=(cx prog (st m)).value/\m<n)
 | 0,_,_=>⟨λ_=>rfl,λm hm=>by unfold iY at hm;omega⟩
 | n+1,hP,hn=>by
  have ih:=MI hR jX hG hr n (hP.le O) O;have hq:q[n]?=some q[n]:=ba O;have hg:=hG n _ hq (hP.le O);have h0:=hP.go n O;have h1:=hP.go (n+1) O;have hs:st (n+1)=dE (st n) (cx prog (st n)):=by rw [hR n,tF h0]
  have ht:(cx prog (st n)).halt=0:=by rw [hs] at h1;exact h1
  obtain ⟨_,_,lx⟩:=Nc hg ht;have hv:bV (st (n+1)).regs reg=if bp q[n].inst=reg then (cx prog (st n)).value else bV (st n).regs reg:=by
   rw [hs];show bV (eU (st n).regs _) reg=_;rw [i8h (hR.len jX n) ht hr,lx]
  unfold iY;rw [hq];dsimp only;by_cases hw:bp q[n].inst=reg
  .rw [aa hw] at hv ⊢
   refine ⟨λh=>by omega,λm hm=>?_⟩;have:m=n:=by omega
   subst this;exact ⟨hv,by omega⟩
  .rw [Y hw] at hv ⊢
   refine ⟨λh=>hv.trans (ih.1 h),λm hm=>?_⟩;obtain ⟨a,b⟩:=ih.2 m hm;exact ⟨hv.trans a,by omega⟩
def jq.zero (h:jq prog st) (h0:(st 0).regs[0]?=some 0):∀ n,(st n).regs[0]?=some 0
 | 0=>h0
 | n+1=>by
  have ih:=h.zero h0 n;rw [h n];unfold lS;split
  .exact ih
  .show (eU (st n).regs _)[0]?=some 0
   unfold eU;split
   .rename_i hc
    rw [mS O];exact ih
   .exact ih
def DK (hR:jq prog st)(jX:(st 0).regs.length=32)(hz:(st 0).regs[0]?=some 0)(hG:tf prog st q){i}(hP:gg st q i)(hi:i<=q.length){reg}(hr:0<=reg/\reg<=31){v}(h:eg q (st 0).regs i reg=(v,true)):v=bV (st i).regs reg:=by
 unfold eg at h;by_cases h0:reg=0
 .rw [aa h0] at h
  injection h with h _;subst h0;unfold bV;rw [show (0:Int).toNat=0 from rfl,hR.zero hz i,<- h];rfl
 .rw [Y h0,Y O] at h
  have fm:1<=reg/\reg<=31:=by omega
  obtain ⟨L1,L2⟩:=MI hR jX hG fm i hP hi;have hm:dM q (i:Int) reg=iY q reg i:=by
   unfold dM;rw [Y O,show (min (i:Int) q.length).toNat=i by omega]
  rw [hm] at h;split at h
  .rename_i lB
   injection h with h _;rw [<- h,L1 lB];rfl
  .rename_i eW
   obtain ⟨m,g6⟩:∃ m:Nat,iY q reg i=(m:Int):=⟨(iY q reg i).toNat,by omega⟩;obtain ⟨hv,m7⟩:=L2 m g6;rw [g6] at h;have hq:q[m]?=some q[m]:=ba O;rw [show ((m:Int)).toNat=m by omega,hq] at h;dsimp only at h;split at h
   .rename_i hd
    injection h with h _;have hg:=hG m _ hq (hP.le O);have ht:=xQ hg hd.1;have m8:(cx prog (st m)).halt=0:=by rw [<- ht];exact L6 hd.2
    have it:bp q[m].inst=reg:=by
     have key:∀ n,iY q reg n=(m:Int)->bp q[m].inst=reg:=by
      intro n
      induction n with
      | zero=>intro h;unfold iY at h;omega
      | succ n ih=>
       intro h;unfold iY at h;split at h
       .rename_i e he
        split at h
        .rename_i hw
         have:n=m:=by omega
         subst this;rw [hq] at he;injection he with he;rw [he];exact hw
        .exact ih h
       .exact ih h
     exact key i g6
    rw [<- h,hv,<- ht,SE hd.2 O]
   .injection h with _ h;cases h
def i8l (hR:jq prog st)(jX:(st 0).regs.length=32)(hz:(st 0).regs[0]?=some 0)(hG:tf prog st q){i e}(hP:gg st q i)(he:q[i]?=some e)(hi:(0<=e.inst.rs1/\e.inst.rs1<=31)/\(0<=e.inst.rs2/\e.inst.rs2<=31)):((eg q (st 0).regs i e.inst.rs1).2=true->(eC q (st 0).regs i).1=bV (st i).regs e.inst.rs1)/\((eg q (st 0).regs i e.inst.rs2).2=true->(eC q (st 0).regs i).2.1=bV (st i).regs e.inst.rs2):=by
 have hl:=(aK.1 he).1;unfold eC;rw [he];exact ⟨λh=>DK hR jX hz hG hP O hi.1 (Prod.ext F h),λh=>DK hR jX hz hG hP O hi.2 (Prod.ext F h)⟩
end
end
section
open Go.RowKit Wd
section
variable (m:Int) (k:ak)
def rtB (k:ak) (s:Stp):ak:=if gx s=true then { k with retired:=k.retired++[s],stores:=k.stores++[⟨s.addr,fU s.value s.size⟩] } else { k with retired:=k.retired++[s] }
def rtC (k:ak) (e:En) (s:Stp):ak:=if ae e.inst.op=3 then jA k s.addr else k
def NW (k:ak) (e:En) (s:Stp) (r:List En):ak:={ k with regs:=eU k.regs s,guess:=gw k.guess s.pc s.next e.inst,rob:=r }
def rtH (k:ak) (s:Stp):ak:={ k with retired:=k.retired++[s],halt:=s.halt,rob:=[],fetched:=[],stop:=true }
def FL {k e r}(hh:k.halt=0)(hr:k.rob=e::r)(hi:e.is=3):dw k=if (aY e).halt≠0 then (rtH k (aY e),false) else if (aY e).store=true/\k.conf.stores<=(k.stores.length:Int) then (k,false) else (NW (rtC (rtB k (aY e)) e (aY e)) e (aY e) r,true):=by
 unfold dw;rw [Y (by simp [hh]),hr];dsimp only;rw [Y (by simp [hi])];split
 .rfl
 .split
  .rfl
  .unfold rtB rtC NW
   split <;> split <;> rfl
end
def yg {prog pc w}(h:eE prog pc=some w):w∈prog:=by
 unfold eE at h;split at h
 .exact aQ h
 .cases h
section
variable (k:ak)
def J2 : (dr k).conf=k.conf:=by
 unfold dr;dsimp only
 repeat' split
 all_goals rfl
def JO : (bQ k).conf=k.conf:=by
 unfold bQ;dsimp only
 repeat' split
 all_goals rfl
def Tf : (dw k).1.conf=k.conf:=by
 unfold dw;dsimp only
 repeat' split
 all_goals rfl
def zW {f:ak->ak × Bool} (hf:∀ k,(f k).1.conf=k.conf):∀ (n:Nat) (k:ak),(gr f n k).conf=k.conf
 | 0,k=>rfl
 | n+1,k=>by
  unfold gr;split
  .exact (zW hf n _).trans (hf k)
  .exact hf k
def YC : (eA k).conf=k.conf:=zW Tf _ _
def i9o (i:Nat):(fN k i).conf=k.conf:=by
 unfold fN;dsimp only
 repeat' split
 all_goals rfl
def Vn (i:Nat):(startK k i).conf=k.conf:=by
 unfold startK;dsimp only
 repeat' split
 all_goals first|rfl|exact i9o _ _
def MY : ∀ (l:List Int) (k:ak),(l.foldl (λk i=>startK k i.toNat) k).conf=k.conf
 | [],k=>rfl
 | i::l,k=>by rw [qX];exact (MY l _).trans (Vn k _)
def Lz : (dJ k).conf=k.conf:=by
 unfold dJ;split
 .rfl
 .exact MY _ _
def Qd : (iC k).1.conf=k.conf:=by
 unfold iC
 repeat' split
 all_goals rfl
def i9r : (fP k).conf=k.conf:=by
 unfold fP;split
 .rfl
 .exact zW Qd _ _
def i9s (w:Nat):(dG k w).2.conf=k.conf:=by
 unfold dG
 repeat' split
 all_goals rfl
def Ng : (iX k).1.conf=k.conf:=by
 unfold iX;dsimp only
 repeat' split
 all_goals first|rfl|exact i9s _ _
def YL : (fo k).conf=k.conf:=by
 unfold fo;split
 .rfl
 .exact zW Ng _ _
def Gr : (lu k).conf=k.conf:=by
 unfold lu;dsimp only
 repeat' split
 all_goals rfl
def i9u : (fB k).conf=k.conf:=by
 unfold fB;split
 .rw [Gr,YL,i9r,Lz,YC,JO,J2]
 .rfl
end
end
section
open Go.RowKit Go.Sort
def zh (op:Int):(op<1)\/(48<op)\/op=1\/op=2\/op=3\/op=4\/op=5\/op=6\/op=7\/op=8\/op=9\/op=10\/op=11\/op=12\/op=13\/op=14\/op=15\/op=16\/op=17\/op=18\/op=19\/op=20\/op=21\/op=22\/op=23\/op=24\/op=25\/op=26\/op=27\/op=28\/op=29\/op=30\/op=31\/op=32\/op=33\/op=34\/op=35\/op=36\/op=37\/op=38\/op=39\/op=40\/op=41\/op=42\/op=43\/op=44\/op=45\/op=46\/op=47\/op=48:=by omega
def cG (op:Int):Int:=if op<1\/48<op then 0 else if op<=2 then 85 else if op=3 then 74 else if op=4 then 73 else if op<=10 then 66 else if op<=15 then 73 else if op<=18 then 83 else if op<=24 then 73 else if op<=27 then 84 else if op<=45 then 82 else 87
def AN (op:Int) (w:World) :Ca 151 #[I op] w λe w'=>e = .returned (.int .u8 (cG op))/\w'=w:=by
 have hne:∀ c:Int,op≠c->(op == c)=false:=λc h=>by simpa using h
 rcases zh op with h|h|rfl|rfl|rfl|rfl|rfl|rfl|rfl|rfl|rfl|rfl|rfl|rfl|rfl|rfl|rfl|rfl|rfl|rfl|rfl|rfl|rfl|rfl|rfl|rfl|rfl|rfl|rfl|rfl|rfl|rfl|rfl|rfl|rfl|rfl|rfl|rfl|rfl|rfl|rfl|rfl|rfl|rfl|rfl|rfl|rfl|rfl|rfl|rfl
 .have hf:cG op=0:=by unfold cG;rw [aa (.inl h)]
  exact Ff
 .have hf:cG op=0:=by unfold cG;rw [aa (.inr h)]
  exact Ff
 all_goals
  clear hne;go_enter func151,ntmps151;go_wp2;go_ret;exact ⟨rfl,rfl⟩
def yk (op:Int) (w:World) :Ca 93 #[I op] w λe w'=>e = .returned (I (ae op))/\w'=w:=by
 have hne:∀ c:Int,op≠c->(op == c)=false:=λc h=>by simpa using h
 have HF:=V (λW=>AN op W);rcases zh op with h|h|rfl|rfl|rfl|rfl|rfl|rfl|rfl|rfl|rfl|rfl|rfl|rfl|rfl|rfl|rfl|rfl|rfl|rfl|rfl|rfl|rfl|rfl|rfl|rfl|rfl|rfl|rfl|rfl|rfl|rfl|rfl|rfl|rfl|rfl|rfl|rfl|rfl|rfl|rfl|rfl|rfl|rfl|rfl|rfl|rfl|rfl|rfl|rfl
 .have hf:cG op=0:=by unfold cG;rw [aa (.inl h)]
  exact N0
 .have hf:cG op=0:=by unfold cG;rw [aa (.inr h)]
  exact N0
 all_goals
  clear hne;simp only [cG] at HF;go_enter func93,ntmps93;go_wp2_with (go_at_call 151;refine (HF.out _).mono ?_;rintro x w1 ⟨rfl,rfl⟩);go_ret;exact ⟨rfl,rfl⟩
end
section
open Go.RowKit Wd
def sE (x n:Nat) (h1:1<=n) (h2:n<=32):cJ x n=cz x n:=by unfold cJ;rw [Y O];rfl
end
section
open Go.RowKit Wd
section
variable {P:Program} {ops:Array Oper} {rest:List Oper} {o:Oper} {a:Act} {Q:Exit->Act->World->Prop} {w:World}
def sO {t e:TypeId} {x ix:Operand} {g off n k:Nat} {ki:IntKind} (ho:o.op = .indexAddr t x ix) (hx:ac a x=some (.pointer (some ⟨g,off,none⟩))) (hk:ac a ix=some (.int ki (k:Int)))(ht:P.underlying t=some (.array n e)) (hs:(P.info? e).map (·.size)=some 1) (h:wpList P ops Q rest (a.put o.dst (.pointer (some ⟨g,off+k,none⟩))) w) (ik:k<n:=by omega) (hw:Region.wanted o (yielded ops a.tmps)=true:=by rfl):wpList P ops Q (o::rest) a w:=by
 replace hx:=ap hx;replace hk:=ap hk;refine cI hw λK X=>?_
 have hsz:(sizeOf e).run P w = .ok 1 w:=by
  cases hq:P.info? e with
  | none=>simp [hq] at hs
  | some i=>
   simp only [hq,dB,dF] at hs;simp [sizeOf,typeInfo,hq,hs]
 have ip:(Instr.indexAt t (.pointer (some ⟨g,off,none⟩)) (.int ki (k:Int))).run P w = .ok (.pointer (some ⟨g,off+k,none⟩)) w:=by
  simp [Instr.indexAt,eH ht,Instr.sureAddr,asIntOf,hsz,Addr.add,show (k:Int)<(n:Int) by omega];rw [aa ik];by_cases h0:k=0
  .simp [h0]
  .simp [h0]
 unfold Oper.wp execOp;simp only [ho,hx,hk,ip,bC,bL,bG];exact X _ _ h
end
end
end Go.Proofs.YtgnomadgnciifaaGreatDoor
