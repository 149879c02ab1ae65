/- . -/
import Derived.Test.YtgnomadgnciifaaGreatDoorE1
import Derived.Test.YtgnomadgnciifaaGreatDoorZ48
set_option linter.all false
set_option maxRecDepth 100000
set_option maxHeartbeats 16000000
namespace Go.Proofs.YtgnomadgnciifaaGreatDoor
variable {p:Prop}
open Go.Proofs.Tryz
def Ce (h:p:=by
 have hk:=(h'.set_ hR).1;have h2:=((hR.hs j us rT).2 j' u hu).2.1;obtain rfl:j=k':=by rw [<- h2,<- hk,e];show (x - x % 16) / 16 % _=_;congr 1;omega
 rw [hw] at rT;injection rT with rT;subst rT
 exact h'.notIn hR hw u (aQ hu) e):=h
def IZ (h:p:=by
 refine ⟨⟨h.right,λv hv=>?_⟩,tz ?_⟩
 .obtain ⟨a,b,c⟩:=h.lines v hv
  exact ⟨a,b,λhd=>by rw [c hd];unfold gp;rw [<- hw]⟩
 .unfold iL
  show fq (bl k.mem) (bZ (bU k.bus).1++_++_)=_
  rw [hw]):=h
def FB (h:p:=by
 have rH:i<q'.length:=by rw [h.len];exact hl
 have h':q'[i]?=some q'[i]:=ba rH;obtain ⟨e0,h0,k⟩:=h.at_ i _ h';rw [he] at h0;injection h0 with h0;subst h0
 exact ⟨_,h',k⟩):=h
section
open Go.RowKit Go.Shelf Wd
attribute [local go_sem] Oper.semAt_some
instance (s : Sd):Decidable (oB s):=by unfold oB;infer_instance
end
section
open Go.RowKit
section
variable {ways:Int} {C C':List (List Wy)}
def BU {k j i i':Nat}{ws ts u v}(hR:bj ways C)(hw:C[k]?=some ws)(hv:ws[i]?=some v)(ht:C[j]?=some ts)(hu:ts[i']?=some u)(e:u.line=v.line):j=k:=by
 have h1:=((hR.hs k ws hw).2 i v hv).2.1;have h2:=((hR.hs j ts ht).2 i' u hu).2.1;rw [<- h1,<- h2,e]
def ww {k i ws v nv}(hR:bj ways C)(hw:C[k]?=some ws)(hv:ws[i]?=some v)(u):ef (C.set k (fG ws i nv)) u↔u=nv\/(ef C u/\u.line≠v.line):=by
 have hil:=(aK.1 hv).1;rw [vI hw,BV hw];have ld:u∈ws.take i++ws.drop (i+1)↔u∈ws/\u.line≠v.line:=by
  constructor
  .intro h
   obtain ⟨j,hj⟩:=oh.1 h;obtain ⟨j',hne,f6⟩:∃ j',j'≠i/\ws[j']?=some u:=by
    rcases qg j i with br|br
    .rw [lm sS,pS br] at hj
     exact ⟨j,by omega,hj⟩
    .rw [kU sS,cK,kZ O,l7] at hj
     exact ⟨i+1+(j - i),by omega,hj⟩
   exact ⟨aQ f6,λe=>hne ((hR.hs k ws hw).lone j' i u v f6 hv e)⟩
  .rintro ⟨h,hne⟩
   rw [Io hv] at h;rcases dv.1 h with h|h
   .exact dv.2 (.inl h)
   .rcases bB.1 h with rfl|h
    .exact absurd rfl hne
    .exact dv.2 (.inr h)
 have hfr:u∈fG ws i nv↔u=nv\/(u∈ws/\u.line≠v.line):=by rw [fG,bB,ld]
 rw [hfr];constructor
 .rintro ((h|⟨h,h'⟩)|⟨j,ts,i',hj,h1,h2⟩)
  .exact .inl h
  .exact .inr ⟨.inl h,h'⟩
  .exact .inr ⟨.inr ⟨j,ts,i',hj,h1,h2⟩,λe=>hj (BU hR hw hv h1 h2 e)⟩
 .rintro (h|⟨h|h,h'⟩)
  .exact .inl (.inl h)
  .exact .inl (.inr ⟨h,h'⟩)
  .exact .inr h
def xu {k ws v}(hw:C[k]?=some ws)(u):ef (C.set k (v::ws)) u↔u=v\/ef C u:=by
 rw [vI hw,BV hw,bB,or_assoc]
def AJ {k l ws v}(hR:bj ways C)(hw:C[k]?=some ws)(hl:ws.length=l+1)(hv:ws[l]?=some v)(u):ef (C.set k (ws.take l)) u↔ef C u/\u.line≠v.line:=by
 rw [vI hw,BV hw];have e:u∈ws.take l↔u∈ws/\u.line≠v.line:=by
  constructor
  .intro h
   obtain ⟨j,hj⟩:=oh.1 h;have i9:j<l:=by have:=(aK.1 hj).1;rw [cK] at this;omega
   rw [pS i9] at hj;refine ⟨aQ hj,λe=>?_⟩;have:=(hR.hs k ws hw).lone j l u v hj hv e;omega
  .rintro ⟨h,hne⟩
   obtain ⟨j,hj⟩:=oh.1 h;have i9:=(aK.1 hj).1;have:j≠l:=by
    rintro rfl;rw [hv] at hj;injection hj with hj;exact hne (by rw [hj])
   exact aQ (by rw [pS (show j<l by omega)];exact hj)
 rw [e];constructor
 .rintro (⟨h,h'⟩|⟨j,ts,i',hj,h1,h2⟩)
  .exact ⟨.inl h,h'⟩
  .exact ⟨.inr ⟨j,ts,i',hj,h1,h2⟩,λe=>hj (BU hR hw hv h1 h2 e)⟩
 .rintro ⟨h|h,h'⟩
  .exact .inl ⟨h,h'⟩
  .exact .inr h
def vr {v:Wy}{a}(cY:v.line % 16=0)(hd:v.data.size=0\/v.data.size=16)(h:v.line≠a - a % 16):v.pu.byte a=none:=by
 cases e:v.pu.byte a with
 | none=>rfl
 | some b=>exact absurd (Bo cY hd e) h
def Qa {v:Wy}{x a bytes}(hl:v.line=x - x % 16)(ha:v.line=a - a % 16)(hd:v.data.size=16)(hf:x % 16+bytes.size<=16):(Wy.pu ⟨v.line,true,nL v.data (x % 16) bytes⟩).byte a=((⟨x,bytes⟩:Pu).byte a).or (v.pu.byte a):=by
 have hb:(bl bytes).length=bytes.size:=gy _;have fb:(bl v.data).length=16:=by rw [gy,hd]
 unfold Pu.byte Wy.pu;dsimp only;rw [aa (show v.line<=a by omega),aa (show v.line<=a by omega)];have e:bl (nL v.data (x % 16) bytes)=(bl v.data).take (x % 16)++bl bytes++(bl v.data).drop (x % 16+bytes.size):=KO _ _ _;rw [e];by_cases h1:a - v.line<x % 16
 .rw [lc,lm (by rw [cK,fb];omega),pS h1,Y O,iT]
 .rw [aa (show x<=a by omega)]
  by_cases h2:a - x<bytes.size
  .rw [lm (by rw [ea,cK,fb,hb];omega),kU sS,cK,fb,
    show a - v.line - min (x % 16) 16=a - x by omega,ba (by rw [hb];exact h2),Option.some_or]
  .rw [kU (by rw [ea,cK,fb,hb];omega),ea,cK,fb,hb,l7,
    show x % 16+bytes.size+(a - v.line - (min (x % 16) 16+bytes.size))=a - v.line by omega,nc (show (bl bytes).length<=a - x by omega),iT]
def U9 {x:Nat} {bytes:ByteArray} (h:l0 ways C x bytes C' true) (hR:bj ways C) (a:Nat):cy (dY C') a=((⟨x,bytes⟩:Pu).byte a).or (cy (dY C) a):=by
 have a':=h.right hR;cases h with
 | no k i h he hb=>cases hb
 | bad k i h ws v hw hv hd he hb=>cases hb
 | yes k i h ws v hw hv hd hf he hb=>
  subst he;obtain ⟨_,_,ws',v',bN,eM,lg,_⟩:=h.at_;rw [hw] at bN;injection bN with bN;subst bN;rw [hv] at eM;injection eM with eM;subst eM;by_cases ha:v.line=a - a % 16
  .rw [sh a' ((ww hR hw hv _).2 (.inl F)) (show v.line=_ from ha),sh hR ⟨k,ws,i,hw,hv⟩ ha]
   exact Qa lg ha hd hf
  .have e:(⟨x,bytes⟩:Pu).byte a=none:=by
    unfold Pu.byte;split
    .rename_i h1
     dsimp only at h1 ⊢;refine nc ?_;rw [gy];omega
    .rfl
   rw [e,iT];refine zo a' hR λu hu=>?_
   rw [ww hR hw hv];constructor
   .rintro (h|h)
    .exact absurd (by rw [h] at hu;exact hu) ha
    .exact h.1
   .intro h;exact .inr ⟨h,λe=>ha (by rw [<- e];exact hu)⟩
def Q8 {x:Nat} (h:mC ways C x C') (hR:bj ways C) (a:Nat):cy (dY C') a=cy (dY C) a:=by
 have a':=h.right hR;cases h with
 | no k i h he=>subst he;rfl
 | yes k i h ws v hw hv he=>
  subst he;refine zo a' hR λu hu=>?_
  rw [ww hR hw hv];have eM:ef C v:=⟨k,ws,i,hw,hv⟩;constructor
  .rintro (h|h)
   .rw [h];exact eM
   .exact h.1
  .intro h
   by_cases e:u.line=v.line
   .exact .inl (hR.uniq h eM e)
   .exact .inr ⟨h,e⟩
def N8 {k l:Nat} {ws:List Wy} {v:Wy} (hR:bj ways C) (hw:C[k]?=some ws) (hl:ws.length=l+1) (hv:ws[l]?=some v) (a:Nat):cy (dY C) a=(cy (dY (C.set k (ws.take l))) a).or (v.pu.byte a):=by
 have a':bj ways (C.set k (ws.take l)):=hR.set_ (zl (hR.hs k ws hw) l);have hin:ef C v:=⟨k,ws,l,hw,hv⟩;by_cases ha:v.line=a - a % 16
 .rw [sh hR hin ha,wD a' λu hu e=>((AJ hR hw hl hv u).1 hu).2 (e.trans ha.symm),iT]
 .rw [vr (hR.way hin).1 (hR.way hin).2 ha,Option.or_none]
  refine zo hR a' λu hu=>?_
  rw [AJ hR hw hl hv];exact ⟨λh=>⟨h,λe=>ha (by rw [<- e];exact hu)⟩,λh=>h.1⟩
def TN {k:Nat} {ws:List Wy} {v:Wy} (hR:bj ways C) (hw:C[k]?=some ws) (a':bj ways (C.set k (v::ws))) (hn:∀ u,ef C u->u.line≠v.line) (a:Nat):cy (dY (C.set k (v::ws))) a=(v.pu.byte a).or (cy (dY C) a):=by
 have hin:ef (C.set k (v::ws)) v:=(xu hw v).2 (.inl F);by_cases ha:v.line=a - a % 16
 .rw [sh a' hin ha,wD hR λu hu e=>hn u hu (e.trans ha.symm),Option.or_none]
 .rw [vr (a'.way hin).1 (a'.way hin).2 ha,iT]
  refine zo a' hR λu hu=>?_
  rw [xu hw];constructor
  .rintro (h|h)
   .exact absurd (by rw [h] at hu;exact hu) ha
   .exact h
  .exact .inr
end
section
variable {ways:Int} {C C':List (List Wy)} {q:List Rq} {m:List UInt8} {ss:List Pu}
def i7d {s}(h:l0 ways C s.addr s.data C' true)(hR:bj ways C):iL ss C' q m=iL (s::ss) C q m:=by
 refine zv λa _=>?_
 rw [ji,ji,ji,ji,U9 h hR];simp only [cy,Option.or_assoc]
def Z1 {k l:Nat} {ws:List Wy} {v:Wy} (hR:bj ways C) (hw:C[k]?=some ws) (hl:ws.length=l+1) (hv:ws[l]?=some v) (left:Int):iL ss (C.set k (ws.take l)) (q++[⟨4,v.line,left,v.data⟩]) m=iL ss C q m:=by
 refine zv λa _=>?_
 have e:bZ (q++[⟨4,v.line,left,v.data⟩])=bZ q++[v.pu]:=by rw [uw];simp [bZ,Wy.pu]
 rw [e,ji,ji,ji,ji,ji,N8 hR hw hl hv a,Option.or_assoc];simp [cy]
def XR {x}(h:mC ways C x C')(hR:bj ways C):iL ss C' q m=iL ss C q m:=by
 refine zv λa _=>?_
 rw [ji,ji,ji,ji,Q8 h hR]
def Ol {m a b}(h:∀ k c,m[k]?=some c->(cy a k).getD c=(cy b k).getD c):fq m a=fq m b:=by
 apply mQ;intro k;rw [td,td];cases hk:m[k]? with
 | none=>rfl
 | some c=>rw [dB,dB,h k c hk]
def Gk {v:Wy}{a c}(hc:m[a]?=some c)(h:bl v.data=dR (gp q m) v.line)(cY:v.line % 16=0):v.pu.byte a=none\/v.pu.byte a=some ((cy (bZ q) a).getD c):=by
 unfold Pu.byte;split
 .rename_i h1
  by_cases h2:a - v.line<16
  .right
   show (bl v.data)[a - v.line]?=_;rw [h,dR,pS h2,l7,gp,td];simp only [Wy.pu] at h1;rw [show v.line - v.line % 16+(a - v.line)=a by omega,hc];rfl
  .left
   refine nc ?_;show (bl v.data).length<=_;rw [h,dR,cK];simp only [Wy.pu] at *;omega
 .exact .inl rfl
def Dk {k ws v q0}(hR:bj ways C)(hw:C[k]?=some ws)(a':bj ways (C.set k (v::ws)))(hn:∀ u,ef C u->u.line≠v.line)(h:bl v.data=[]\/bl v.data=dR (gp q0 m) v.line)(hq:∀ a,a - a % 16=v.line->cy (bZ q) a=cy (bZ q0) a):iL ss (C.set k (v::ws)) q m=iL ss C q m:=by
 refine Ol λa c hc=>?_
 have hin:ef (C.set k (v::ws)) v:=(xu hw v).2 (.inl F);rw [ji,ji,ji,ji,TN hR hw a' hn];cases cy ss a with
 | some b=>rfl
 | none=>
  rw [iT,iT];by_cases ha:v.line=a - a % 16
  .rw [wD hR λu hu e=>hn u hu (e.trans ha.symm),Option.or_none,iT]
   rcases h with h|h
   .have:v.pu.byte a=none:=by
     unfold Pu.byte;split
     .show (bl v.data)[_]?=none
      rw [h];rfl
     .rfl
    rw [this,iT]
   .rcases Gk hc h (a'.way hin).1 with e|e
    .rw [e,iT]
    .rw [e,hq a ha.symm];rfl
  .rw [vr (a'.way hin).1 (a'.way hin).2 ha,iT]
def i7g {k l ws v}(hR:bj ways C)(hw:C[k]?=some ws)(hl:ws.length=l+1)(hv:ws[l]?=some v)(h:bl v.data=dR (gp q m) v.line):iL ss (C.set k (ws.take l)) q m=iL ss C q m:=by
 refine Ol λa c hc=>?_
 have hin:ef C v:=⟨k,ws,l,hw,hv⟩;rw [ji,ji,ji,ji,N8 hR hw hl hv];cases cy ss a with
 | some b=>rfl
 | none=>
  rw [iT,iT];cases cy (dY (C.set k (ws.take l))) a with
  | some b=>rfl
  | none=>
   rw [iT,iT];rcases Gk hc h (hR.way hin).1 with e|e
   .rw [e,iT]
   .rw [e];rfl
end
section
variable {ways:Int} {C C':List (List Wy)} {q q':List Rq} {m:List UInt8} {ss:List Pu} {x:Nat} {left:Int} {b:Bool}
def i7h {D}:bl (fD D)=[]\/bl (fD D)=bl D:=by
 unfold fD;split
 .exact .inr rfl
 .exact .inl rfl
def kM.all (h:kM ways C q m x left C' q' b) (hR:bj ways C) (hc:∀ v,ef C v->v.data.size≠0/\(v.dirty=false->bl v.data=dR (gp q m) v.line)):iL ss C' q' m=iL ss C q m:=by
 cases h with
 | no h he hq hb=>exact absurd hR h
 | hit k i h ht hq hb=>subst hq;exact XR ht hR
 | put k i hR h D hD iw went hp hb hq=>
  have dQ:bl (fD D)=[]\/bl (fD D)=dR (gp q m) (x - x % 16):=by
   rcases i7h (D:=D) with e|e
   .exact .inl e
   .right
    rw [e,hD,dR,dR,show x - x % 16 - (x - x % 16) % 16=x - x % 16 by omega]
  have a':=hp.right hR;cases hp with
  | no h he hg hb=>exact absurd hR h
  | hit k' i' h' ws v hw hv he hg hb=>obtain ⟨_,_,e⟩:=h.det h';cases e
  | room k' i' _ h' ws hw hl he hg bS=>
   subst he bS;rw [si] at hb;subst hb;rw [Y ag] at hq;subst hq;refine Dk hR hw a' (λu hu e=>?_) dQ λa _=>rfl
   obtain ⟨j,us,j',rT,hu⟩:=hu;exact Ce
  | full k' i' _ h' ws hw hl l hl1 cR he bS=>
   subst he bS;have fg:=(aK.1 hw).1;have hin:ef C iw:=⟨k',ws,l,hw,cR⟩;obtain ⟨hsz,lh⟩:=hc iw hin;have hne:∀ u,ef C u->u.line≠x - x % 16:=by
    rintro u ⟨j,us,j',rT,hu⟩ e;exact Ce
   have g5:bj ways (C.set k' (ws.take l)):=hR.set_ (zl (hR.hs k' ws hw) l);have f8:(C.set k' (ws.take l))[k']?=some (ws.take l):=jQ fg;have e2:C.set k' (⟨x - x % 16,false,fD D⟩::ws.take l)=(C.set k' (ws.take l)).set k' (⟨x - x % 16,false,fD D⟩::ws.take l):=by rw [List.set_set]
   rw [e2] at a' ⊢;have ja:∀ u,ef (C.set k' (ws.take l)) u->u.line≠x - x % 16:=λu hu=>hne u ((AJ hR hw hl1 cR u).1 hu).1
   rw [kb] at hb;cases hd:iw.dirty
   .rw [hd,si] at hb
    subst hb;rw [Y ag] at hq;subst hq;rw [Dk g5 f8 a' ja dQ λa _=>rfl];exact i7g hR hw hl1 cR (lh hd)
   .rw [hd,kb,cU hsz] at hb
    subst hb;rw [aa F] at hq;subst hq;rw [Dk (q0:=q) g5 f8 a' ja dQ λa ha=>?_]
    .exact Z1 hR hw hl1 cR _
    .have e:bZ (q++[⟨4,iw.line,max left 1,iw.data⟩])=bZ q++[iw.pu]:=by rw [uw];simp [bZ,Wy.pu]
     rw [e,vU,vr (hR.way hin).1 (hR.way hin).2 (by rw [ha];exact hne iw hin),iT]
end
section
variable {ways:Int} {C C':List (List Wy)} {q:List Rq} {m:List UInt8} {ss ss':List Pu} {b:Bool}
def pM.all (h:pM ways ss C ss' C' b) (hR:bj ways C):iL ss' C' q m=iL ss C q m:=by
 cases h with
 | none h hs he hb=>subst he hs;rfl
 | no s r h hw hs he hb=>subst he hs;rfl
 | yes s r h hw hs hb=>subst hs h;exact i7d hw hR
end
end
section
open Go.RowKit Wd
def xS (m):dZ m []=m:=by
 apply rI;rw [pX];rfl
def x0 (m a b):dZ (dZ m a) b=dZ m (a++b):=by
 apply rI;rw [pX,pX,pX,wF]
def AI (m:ByteArray) (ps:List Pu) (x:Nat):(bl (dZ m ps))[x]?=(bl m)[x]?.map λb=>(cy ps x).getD b:=by rw [pX,td]
def Vi (m a b):bl (m.extract a b)=((bl m).take b).drop a:=by
 unfold bl;simp [ByteArray.extract,ByteArray.copySlice,Array.toList_extract,List.extract,List.drop_take]
def yP (m a n x):(bl (m.extract a (a+n)))[x]?=if x<n then (bl m)[a+x]? else none:=by
 rw [Vi,l7,kF];by_cases h:x<n
 .rw [aa h,aa O]
 .rw [Y h,Y O]
def zm {n a:Nat} {k:Int}:dc n a k=true↔(k=1\/k=2\/k=4)/\(a:Int) % k=0/\(a:Int)+k<=n:=by simp [dc]
def LP {m m':ByteArray} {a:Nat} {k:Int} (hs:m.size=m'.size) (h:∀ x,a<=x->(x:Int)<a+k->(bl m)[x]?=(bl m')[x]?):fT m a k=fT m' a k:=by
 unfold fT;rw [hs];split
 .rename_i hr
  obtain ⟨h1,_,_⟩:=zm.1 hr;apply rI;apply mQ;intro x;rw [yP,yP];split
  .exact h _ O O
  .rfl
 .rfl
def FF {p:Pu} {a:Nat} {k:Int} (h:fO p.addr p.data.size a k=false) {x:Nat} (h1:a<=x) (h2:(x:Int)<a+k):p.byte x=none:=by
 unfold Pu.byte;split
 .rename_i hp
  rw [List.getElem?_eq_none_iff,gy];unfold fO kE at h;simp only [Bool.and_eq_false_iff,Aw] at h;omega
 .rfl
def WO {ps:List Pu} {a:Nat} {k:Int} (h:∀ p∈ps,fO p.addr p.data.size a k=false) {x:Nat} (h1:a<=x) (h2:(x:Int)<a+k):cy ps x=none:=EV λp hp=>FF (h p hp) h1 h2
def V7 {m ps a k}(h:∀ p∈ps,fO p.addr p.data.size a k=false):fT (dZ m ps) a k=fT m a k:=by
 refine LP (qk _ _) (λx h1 h2=>?_);rw [AI,WO h h1 h2]
 simp
structure SdP (s:Sd) (p:Pu):Prop where
 addr:s.addr=p.addr
 size:s.size=p.data.size
 data:s.there=true->s.data=p.data
inductive kB : List Sd->List Pu->Prop
 | nil:kB [] []
 | cons {s:Sd} {p:Pu} {ss:List Sd} {ps:List Pu} (h:SdP s p) (r:kB ss ps):kB (s::ss) (p::ps)
def kB.append {a c b d}(h:kB a b)(h2:kB c d):kB (a++c) (b++d):=by
 induction h with
 | nil=>exact h2
 | cons h _ ih=>exact .cons h ih
def kB.puts : ∀ (ss:List Pu),kB (ss.map Sd.ofP) ss
 | []=>.nil
 | p::r=>.cons ⟨rfl,rfl,λ_=>rfl⟩ (kB.puts r)
def Vk {m a n}(hr:dc m.size a n=true){sds ps}(h:kB sds ps):(∀ b,jp a n sds=(1,b)->b=fT (dZ m ps.reverse) a n)/\((jp a n sds).1=2 -> ∀ s∈sds,fO s.addr s.size a n=false):=by
 induction h with
 | nil=>exact ⟨λb h=>by simp [jp] at h,λ_ s hs=>by cases hs⟩
 | @cons s p ss ps h r ih=>
  unfold jp;by_cases h1:fO s.addr s.size a n=false
  .rw [aa h1]
   refine ⟨λb hb=>?_,λh2 t ht=>?_⟩
   .rw [ih.1 b hb]
    refine LP (by rw [qk,qk]) (λx x1 x2=>?_);rw [AI,AI,List.reverse_cons,vU,FF (by rw [<- h.addr,<- h.size];exact h1) x1 x2];rfl
   .rcases bB.1 ht with rfl|ht
    .exact h1
    .exact ih.2 h2 t ht
  .rw [Y h1]
   split
   .exact ⟨λb hb=>absurd (show (0:Int)=1 from jB Prod.fst hb) ag,λh2=>absurd (show (0:Int)=2 from h2) ag⟩
   .rename_i hc
    refine ⟨λb hb=>?_,λh2=>absurd (show (1:Int)=2 from h2) ag⟩;injection hb with _ hb;have hh:nR s.addr s.size a n=true:=by
     cases hx:nR s.addr s.size a n with
     | true=>rfl
     | false=>exact absurd (.inl hx) hc
    have ht:s.there=true:=by
     cases hx:s.there with
     | true=>rfl
     | false=>exact absurd (.inr hx) hc
    have hd:=h.data ht;rw [h.addr,h.size] at hh;unfold nR kE at hh;simp only [fi,iA] at hh;have fm:=zm.1 hr;unfold fT;rw [qk,aa hr,<- hb,hd,h.addr];apply rI;apply mQ;intro x;rw [yP,yP];split
    .rename_i hx
     rw [AI,List.reverse_cons,vU];have aJ:p.byte (a+x)=(bl p.data)[a - p.addr+x]?:=by
      unfold Pu.byte;rw [aa O,show a+x - p.addr=a - p.addr+x by omega]
     have hlt:a - p.addr+x<(bl p.data).length:=by rw [gy];omega
     have lC:a+x<(bl m).length:=by rw [gy];omega
     rw [aJ,ba hlt,ba lC];rfl
    .rfl
def oU (t:Stp):List Pu:=if gx t=true then [⟨t.addr,fU t.value t.size⟩] else []
def yy (prog:List Nat) (st:Nat->Sq):Nat->List Pu
 | 0=>[]
 | n+1=>yy prog st n++oU (cx prog (st n))
def DS (s t):(dE s t).mem=dZ s.mem (oU t):=by
 unfold dE oU;dsimp only;split
 .rfl
 .exact (xS _).symm
section
variable {prog:List Nat} {st:Nat->Sq} {q:List En}
def D2 (hR:jq prog st):∀ n,(∀ j,j<n->(st j).halt=0)->(st n).mem=dZ (st 0).mem (yy prog st n)
 | 0,_=>(xS _).symm
 | n+1,h=>by
  rw [hR n,tF (h n O),DS,D2 hR n (λj hj=>h j O),x0];rfl
def IR {s e}(hg:eD prog s e)(ht:(cx prog s).halt=0):(ae e.inst.op≠4->gx (cx prog s)=false) /\ (ae e.inst.op=4->e.known=true->gx (cx prog s)=true/\(cx prog s).addr=e.addr/\(cx prog s).size=aU e.inst.op/\(e.is=3->(cx prog s).value=e.value)):=by
 obtain ⟨h1,h2,_⟩:=Nc hg ht;rw [h2] at ht ⊢;refine ⟨λh4=>?_,λh4 hk=>?_⟩
 .unfold gk gx
  dsimp only
  repeat' split
  all_goals first|rfl|omega
 .unfold gk at ht ⊢
  dsimp only at ht ⊢;unfold jV at h1;dsimp only at h1;rw [Y O,aa h4] at h1 ht ⊢;rcases h1 with ⟨a,_⟩|⟨_,_,a2,a3,a4⟩
  .rw [hk] at a;cases a
  .rw [aa a3]
   have hsz:=(zm.1 a3).1;refine ⟨?_,a2.symm,rfl,λh3=>?_⟩
   .unfold gx
    simp only [kb,iA,fi];exact ⟨di,hsz⟩
   .rcases a4 with a4|a4
    .omega
    .exact a4.2.symm
def BA (q:List En) (i:Nat):Prop:=∀ j,j<i -> ∀ f,q[j]?=some f->ae f.inst.op=4->f.known=true/\f.halt=0
def Kw (v:Nat) (n:Int):(fU v n).size=n.toNat:=by
 show (bytesL v n.toNat).toArray.size=n.toNat;simp [bytesL]
def Nz {op}(h:ae op=4):0<=aU op:=by
 unfold aU
 repeat' split
 all_goals omega
def Ct (hR:jq prog st)(hG:tf prog st q){i}(hA:BA q i):∀ n,n<=i->gg st q n->n<=q.length -> kB (((q.take n).reverse.filter λe=>decide (ae e.inst.op=4)).map Sd.ofE) (yy prog st n).reverse
 | 0,_,_,_=>.nil
 | n+1,hn,hP,hl=>by
  have ih:=Ct hR hG hA n O (hP.le O) O;have hq:q[n]?=some q[n]:=ba O;have hg:=hG n _ hq (hP.le O);have h0:=hP.go n O;have h1:=hP.go (n+1) O;have ht:(cx prog (st n)).halt=0:=by rw [hR n,tF h0] at h1;exact h1
  obtain ⟨s1,s2⟩:=IR hg ht;rw [iE O,yA];show kB _ (yy prog st n++oU (cx prog (st n))).reverse;rw [yA,List.filter_append,nM];refine kB.append ?_ ih;simp only [C3];by_cases h4:ae q[n].inst.op=4
  .obtain ⟨k1,k2⟩:=hA n O _ hq h4
   obtain ⟨t1,t2,t3,t4⟩:=s2 h4 k1;unfold oU;rw [aa t1,pQ,aa (by simpa using h4)];refine kB.cons ⟨t2.symm,?_,λdT=>?_⟩ .nil
   .show aU q[n].inst.op=((fU _ _).size:Int)
    rw [Kw,t3];have:=Nz h4;omega
   .have h3:q[n].is=3:=by simpa [Sd.ofE] using dT
    show fU q[n].value (aU q[n].inst.op)=fU _ _;rw [t4 h3,t3]
  .unfold oU
   rw [Y (by rw [s1 h4];simp),pQ,Y (by simpa using h4)];exact .nil
def Iy (hR:jq prog st)(hG:tf prog st q){i}(hP:gg st q i)(hi:i<=q.length){a k}(h:∀ j,j<i -> ∀ f,q[j]?=some f->ae f.inst.op=4->(f.known=true/\f.halt=0)/\fO f.addr (aU f.inst.op) a k=false):fT (st i).mem a k=fT (st 0).mem a k:=by
 have hA:BA q i:=λj hj f hf h4=>(h j hj f hf h4).1
 have g7:=Ct hR hG hA i (aM _) hP hi;rw [D2 hR i (λj hj=>hP.go j O)];refine V7 λp hp=>?_
 have key:∀ (sds:List Sd) (ps:List Pu),kB sds ps->(∀ s∈sds,fO s.addr s.size a k=false) -> ∀ p∈ps,fO p.addr p.data.size a k=false:=by
  intro sds ps hs
  induction hs with
  | nil=>intro _ p hp;cases hp
  | cons jz _ ih=>
   intro hall p hp;rcases bB.1 hp with rfl|hp
   .have:=hall _ (ee ..)
    rw [jz.addr,jz.size] at this;exact this
   .exact ih (λs hs=>hall s (ez _ hs)) p hp
 refine key _ _ g7 (λs hs=>?_) p (z5.2 hp);obtain ⟨f,hf,rfl⟩:=fQ.1 hs;obtain ⟨hf1,lD⟩:=vG.1 hf;have hf1:=z5.1 hf1;obtain ⟨j,hj⟩:=te hf1;rw [kF] at hj;split at hj
 .rename_i br
  exact (h j br f hj (by simpa using lD)).2
 .cases hj
def J' (hR:jq prog st)(hG:tf prog st q){base ss}(hm:(st 0).mem=dZ base ss){i e}(hP:gg st q i)(he:q[i]?=some e)(hr:dc (st 0).mem.size e.addr (aU e.inst.op)=true):(∀ b,jI q ss i=(1,b)->b=fT (st i).mem e.addr (aU e.inst.op)) /\ ((jI q ss i).1=2 -> ∀ j,j<i -> ∀ f,q[j]?=some f->ae f.inst.op=4->(f.known=true/\f.halt=0)/\fO f.addr (aU f.inst.op) e.addr (aU e.inst.op)=false):=by
 have hl:=(aK.1 he).1;unfold jI;rw [he];dsimp only;split
 .exact ⟨λb h=>absurd (show (0:Int)=1 from jB Prod.fst h) ag,λh=>absurd (show (0:Int)=2 from h) ag⟩
 .split
  .exact ⟨λb h=>absurd (show (0:Int)=1 from jB Prod.fst h) ag,λh=>absurd (show (0:Int)=2 from h) ag⟩
  .rename_i g8
   have hA:BA q i:=λj hj f hf h4=>by
    have gd:f∈q.take i:=aQ (i:=j) CL;have g9:(q.take i).any (λf=>decide (ae f.inst.op=4) && (!f.known || decide (f.halt≠0)))=false:=by simpa using g8
    have:=(yM.1 g9) f gd;simp [h4] at this;exact this
   have g7:=kB.append (Ct hR hG hA i (aM _) hP O) (kB.puts ss.reverse);have cd:dc base.size e.addr (aU e.inst.op)=true:=by rw [hm,qk] at hr;exact hr
   obtain ⟨r1,r2⟩:=Vk cd g7;refine ⟨λb hb=>?_,λh2 j hj f hf h4=>⟨hA j hj f hf h4,?_⟩⟩
   .have:=r1 b hb
    rw [this,D2 hR i (λj hj=>hP.go j O),hm,x0];congr 2
    simp
   .refine r2 h2 (Sd.ofE f) ?_
    refine rz _ (List.mem_map_of_mem (vG.2 ⟨z5.2 ?_,by simpa using h4⟩));exact aQ (i:=j) CL
end
end
section
open Go.RowKit Wd
def nG (C:List (List Wy)) (q:List Rq) (m:List UInt8):Prop:=∀ v,ef C v->v.data.size=16/\v.line+16<=m.length/\(v.dirty=false->bl v.data=dR (gp q m) v.line)
section
variable {ways:Int} {C C':List (List Wy)} {q q':List Rq} {m:List UInt8} {x:Nat} {left:Int} {b:Bool}
def i8r (m:List UInt8) (x:Nat):dR m x=dR m (x - x % 16):=by unfold dR;rw [show x - x % 16 - (x - x % 16) % 16=x - x % 16 by omega]
def TI {m m' x}(h:∀ a,x<=a->a<x+16->m[a]?=m'[a]?)(cY:x % 16=0):dR m x=dR m' x:=by
 unfold dR;apply mQ;intro i;rw [kF,kF];split
 .rw [l7,l7]
  exact h _ O O
 .rfl
def Eh (q:List Rq) (m:List UInt8) (a:Nat):(gp q m)[a]?=m[a]?.map λc=>(cy (bZ q) a).getD c:=td _ _ _
def P6 (h:mC ways C x C') (hR:bj ways C) (hl:nG C q m):nG C' q m:=by
 cases h with
 | no k i h he=>subst he;exact hl
 | yes k i h ws v hw hv he=>
  subst he;intro u hu;rcases (ww hR hw hv u).1 hu with rfl|⟨hu,_⟩
  .exact hl _ ⟨k,ws,i,hw,hv⟩
  .exact hl u hu
def i8u {bytes ok}(h:l0 ways C x bytes C' ok)(hR:bj ways C)(hl:nG C q m):nG C' q m:=by
 have a':=h.right hR;cases h with
 | no k i h he hb=>subst he;exact hl
 | bad k i h ws v hw hv hd he hb=>subst he;exact hl
 | yes k i h ws v hw hv hd hf he hb=>
  subst he;intro u hu;rcases (ww hR hw hv u).1 hu with e|⟨cb,_⟩
  .subst e
   have hold:=hl v ⟨k,ws,i,hw,hv⟩;refine ⟨?_,hold.2.1,λh=>by cases h⟩;rcases (a'.way hu).2 with h0|h0
   .exfalso
    have:(nL v.data (x % 16) bytes).size=v.data.size:=Eb O;rw [hd] at this;simp only at h0;omega
   .exact h0
  .exact hl u cb
def CO (q:List Rq) (line:Nat) (left:Int) (data:ByteArray):bZ (q++[⟨4,line,left,data⟩])=bZ q++[⟨line,data⟩]:=by rw [uw];simp [bZ]
def Lu {v:Wy}{left}(hv:v.line % 16=0/\(v.data.size=0\/v.data.size=16)){l}(hl:l % 16=0)(hne:v.line≠l):dR (gp (q++[⟨4,v.line,left,v.data⟩]) m) l=dR (gp q m) l:=by
 refine TI (λa h1 h2=>?_) hl;rw [Eh,Eh,CO,vU];have:(⟨v.line,v.data⟩:Pu).byte a=none:=vr (v:=v) hv.1 hv.2 O;rw [this];rfl
def i8v (h:kM ways C q m x left C' q' b) (hR:bj ways C) (hx:x - x % 16+16<=m.length) (hl:nG C q m):nG C' q' m:=by
 cases h with
 | no h he hq hb=>exact absurd hR h
 | hit k i h ht hq hb=>subst hq;exact P6 ht hR hl
 | put k i hR h D hD iw went hp hb hq=>
  have jD:D.size=16:=by
   rw [<- gy,hD,dR,cK,nX,Mg];omega
  have dQ:fD D=D:=by unfold fD;rw [aa jD]
  have a':=hp.right hR;have jF:∀ qq:List Rq,dR (gp qq m) (x - x % 16)=dR (gp q m) (x - x % 16)->(⟨x - x % 16,false,fD D⟩:Wy).data.size=16/\(⟨x - x % 16,false,fD D⟩:Wy).line+16<=m.length/\((⟨x - x % 16,false,fD D⟩:Wy).dirty=false->bl (⟨x - x % 16,false,fD D⟩:Wy).data=dR (gp qq m) (⟨x - x % 16,false,fD D⟩:Wy).line):=by
   intro qq lE;refine ⟨by rw [dQ];exact jD,hx,λ_=>?_⟩;show bl (fD D)=dR (gp qq m) (x - x % 16);rw [dQ,hD,lE,i8r]
  cases hp with
  | no h he hg hb=>exact absurd hR h
  | hit k' i' h' ws v hw hv he hg hb=>obtain ⟨_,_,e⟩:=h.det h';cases e
  | room k' i' _ h' ws hw rH he hg bS=>
   subst he bS;rw [si] at hb;subst hb;rw [Y ag] at hq;subst hq;intro u hu;rcases (xu hw u).1 hu with rfl|hu
   .exact jF q' rfl
   .exact hl u hu
  | full k' i' _ h' ws hw rH l hl1 cR he bS=>
   subst he bS;have fg:=(aK.1 hw).1;have hin:ef C iw:=⟨k',ws,l,hw,cR⟩;have hne:∀ u,ef C u->u.line≠x - x % 16:=by
    rintro u ⟨j,us,j',rT,hu⟩ e;exact Ce
   have g5:bj ways (C.set k' (ws.take l)):=hR.set_ (zl (hR.hs k' ws hw) l);have f8:(C.set k' (ws.take l))[k']?=some (ws.take l):=jQ fg;have e2:C.set k' (⟨x - x % 16,false,fD D⟩::ws.take l)=(C.set k' (ws.take l)).set k' (⟨x - x % 16,false,fD D⟩::ws.take l):=by rw [List.set_set]
   rw [e2] at a' ⊢;have ge:∀ l:Nat,l % 16=0->iw.line≠l->dR (gp q' m) l=dR (gp q m) l:=by
    intro l cY lI;cases b with
    | false=>rw [Y ag] at hq;subst hq;rfl
    | true=>rw [aa F] at hq;subst hq;exact Lu (hR.way hin) cY lI
   intro u hu;rcases (xu f8 u).1 hu with rfl|hu
   .exact jF q' (ge _ O (hne iw hin))
   .obtain ⟨fp,hF⟩:=(AJ hR hw hl1 cR u).1 hu
    obtain ⟨a,b',c⟩:=hl u fp;exact ⟨a,b',λhd=>by rw [c hd,ge _ (hR.way fp).1 (λe=>hF e.symm)]⟩
def Yy {k i ws v nv}(hw:C[k]?=some ws)(hv:ws[i]?=some v)(h1:nv.line=v.line)(h2:nv.data=v.data):dY (C.set k (ws.set i nv))=dY C:=by
 have kh:=(aK.1 hw).1;have lM:lL (ws.set i nv)=lL ws:=by
  unfold lL;apply mQ;intro j;rw [lQ,lQ,sn];split
  .rename_i hij
   subst hij;split
   .rw [hv];simp [Wy.pu,h1,h2]
   .rename_i hj;exact absurd (aK.1 hv).1 hj
  .rfl
 have hL:∀ D:List (List Wy),dY D=(D.map lL).flatten:=by
  intro D;unfold dY lL;rw [List.map_flatten];rfl
 rw [hL,hL];congr 1;apply mQ;intro j;rw [lQ,lQ,sn];split
 .rename_i hij
  subst hij;rw [hw];simp [lM]
 .rfl
def Tt {v}(hR:bj ways C)(hin:ef C v)(h:sa ways C v.line C')(hl:nG C q m):nG C' (q++[⟨4,v.line,left,v.data⟩]) m /\ ∀ ss,iL ss C' (q++[⟨4,v.line,left,v.data⟩]) m=iL ss C q m:=by
 have na:=(hR.way hin).1;have lR:=(hl v hin).1;have lU:=(hl v hin).2.1;cases h with
 | no k i hf he=>
  exfalso;obtain ⟨k',ws',i',bN,eM⟩:=hin;have hk:=(hf.set_ hR).1;have h2:=((hR.hs k' ws' bN).2 i' v eM).2.1;obtain rfl:k'=k:=by rw [<- h2,<- hk]
  exact hf.notIn hR bN v (aQ eM) O
 | yes k i hf ws w hw hv he=>
  have kh:w.line=v.line:=by
   have:=(hf.set_ hR).2;obtain ⟨_,_,ws2,v2,ch,gf,hK⟩:=hf.at_;rw [hw] at ch;injection ch with ch;subst ch;rw [hv] at gf;injection gf with gf;subst gf;rw [hK.1];omega
  have lV:ef C w:=⟨k,ws,i,hw,hv⟩;obtain rfl:w=v:=hR.uniq lV hin kh;subst he;have iu:=Yy (nv:=⟨w.line,false,w.data⟩) hw hv F F;have fg:=(aK.1 hw).1;have hil:=(aK.1 hv).1;constructor
  .intro u hu
   have hF:u=⟨w.line,false,w.data⟩\/(ef C u/\u.line≠w.line):=by
    rcases (vI hw u).1 hu with h|⟨j,ts,i',hj,ht,cb⟩
    .obtain ⟨j,hj⟩:=te h
     rw [sn] at hj;split at hj
     .rename_i hij
      injection hj with hj;exact .inl hj.symm
     .rename_i hij
      refine .inr ⟨⟨k,ws,j,hw,hj⟩,λe=>hij ?_⟩;exact ((hR.hs k ws hw).lone i j w u hv hj e.symm)
    .refine .inr ⟨⟨j,ts,i',ht,cb⟩,λe=>hj ?_⟩
     exact BU hR hw hv ht cb e
   rcases hF with rfl|⟨fp,hne⟩
   .refine ⟨lR,lU,λ_=>?_⟩
    show bl w.data=dR (gp (q++[⟨4,w.line,left,w.data⟩]) m) w.line;apply mQ;intro a;unfold dR;rw [kF];split
    .rename_i ha
     rw [l7,Eh,CO,vU,show w.line - w.line % 16+a=w.line+a by omega];have hb:(⟨w.line,w.data⟩:Pu).byte (w.line+a)=(bl w.data)[a]?:=by
      unfold Pu.byte;rw [aa (by show w.line<=_;omega)];show (bl w.data)[w.line+a - w.line]?=_;rw [show w.line+a - w.line=a by omega]
     rw [hb];have h1:a<(bl w.data).length:=by rw [gy];omega
     have h2:w.line+a<m.length:=by omega
     rw [ba h1,ba h2];rfl
    .rename_i ha
     rw [nc (by rw [gy];omega)]
   .obtain ⟨a,b,c⟩:=hl u fp
    exact ⟨a,b,λhd=>by rw [c hd,Lu (hR.way hin) (hR.way fp).1 (λe=>hne e.symm)]⟩
  .intro ss
   unfold iL;rw [iu,CO];refine zv λa _=>?_
   simp only [ji];cases h1:cy ss a with
   | some c=>rfl
   | none=>
    simp only [iT];by_cases jG:w.line=a - a % 16
    .rw [sh hR hin jG]
     cases h2:w.pu.byte a with
     | some c=>rfl
     | none=>
      simp only [iT];have:cy [(⟨w.line,w.data⟩:Pu)] a=none:=by
       show (none:Option UInt8).or _=none;exact h2
      rw [this,iT]
    .have:cy [(⟨w.line,w.data⟩:Pu)] a=none:=by
      have:=vr (hR.way hin).1 (hR.way hin).2 jG;show (none:Option UInt8).or _=none;exact this
     rw [this,iT]
end
structure dW (k:ak):Prop where
 right:bj k.dways k.data
 lines:nG k.data k.bus (bl k.mem)
def FH (k):bl (cF k)=iL k.stores k.data k.bus (bl k.mem):=by unfold cF iL;rw [pX,lc]
def tz {k k'}(h:iL k'.stores k'.data k'.bus (bl k'.mem)=iL k.stores k.data k.bus (bl k.mem)):cF k'=cF k:=by
 apply rI;rw [FH,FH,h]
section
variable {k:ak}
def dW.bring (h:dW k){x}(hx:x - x % 16+16<=k.mem.size):dW (jA k x)/\cF (jA k x)=cF k:=by
 have hb:=Dd k.dways k.data k.bus k.mem x (kC k.conf k.asked);refine ⟨⟨hb.right h.right,i8v hb h.right (by rw [gy];exact hx) h.lines⟩,tz ?_⟩;exact hb.all h.right λv hv=>⟨by have:=(h.lines v hv).1;omega,(h.lines v hv).2.2⟩
def QY {q:List Rq} {kind:Int} (hk:kind≠4) (line:Nat) (left:Int) (data:ByteArray):bZ (q++[⟨kind,line,left,data⟩])=bZ q:=by
 rw [uw];unfold bZ;rw [pQ,Y yp]
 simp
def dW.ask (h:dW k) {kind:Int} (hk:kind≠4) (line:Nat) (data:ByteArray):dW (fy k kind line data)/\cF (fy k kind line data)=cF k:=by
 have hw:bZ (fy k kind line data).bus=bZ k.bus:=QY hk _ _ _;refine ⟨⟨h.right,λv hv=>?_⟩,tz ?_⟩
 .obtain ⟨a,b,c⟩:=h.lines v hv
  exact ⟨a,b,λhd=>by rw [c hd];unfold gp;rw [hw];rfl⟩
 .unfold iL;rw [hw];rfl
def dW.of {k'}(h:dW k)(h1:k'.dways=k.dways)(h2:k'.data=k.data)(h3:k'.bus=k.bus)(h4:k'.mem=k.mem):dW k':=⟨by rw [h1,h2];exact h.right,by rw [h2,h3,h4];exact h.lines⟩
def lG {k'}(h2:k'.data=k.data)(h3:k'.bus=k.bus)(h4:k'.mem=k.mem)(h5:k'.stores=k.stores):cF k'=cF k:=tz (by rw [h2,h3,h4,h5])
def AU (q):(bU q).2=none/\bZ (bU q).1=bZ q \/ ∃ d r,q=r::(bU q).1/\(bU q).2=some d/\d.kind=r.kind/\d.line=r.line/\d.data=r.data:=by
 cases q with
 | nil=>exact .inl ⟨rfl,rfl⟩
 | cons r q=>
  by_cases hl:0<r.left - 1
  .have e:bU (r::q)=({ r with left:=r.left - 1 }::q,none):=by show (if 0<r.left - 1 then _ else _)=_;rw [aa hl]
   rw [e];refine .inl ⟨rfl,?_⟩;unfold bZ;rw [pQ,pQ];dsimp only;split <;> rfl
  .have e:bU (r::q)=(q,some { r with left:=r.left - 1 }):=by show (if 0<r.left - 1 then _ else _)=_;rw [Y hl]
   rw [e];exact .inr ⟨_,r,rfl,rfl,rfl,rfl,rfl⟩
def dW.tickNone (h:dW k) (ht:(bU k.bus).2=none):dW { k with bus:=(bU k.bus).1 }/\cF { k with bus:=(bU k.bus).1 }=cF k:=by
 have hw:bZ (bU k.bus).1=bZ k.bus:=by
  rcases AU k.bus with ⟨_,h⟩|⟨d,r,_,h,_⟩
  .exact h
  .rw [h] at ht;cases ht
 exact IZ
def dW.tickOther (h:dW k){d}(ht:(bU k.bus).2=some d)(hd:d.kind≠4):dW { k with bus:=(bU k.bus).1 }/\cF { k with bus:=(bU k.bus).1 }=cF k:=by
 have hw:bZ (bU k.bus).1=bZ k.bus:=by
  rcases AU k.bus with ⟨h,_⟩|⟨d',r,h1,h2,h3,_⟩
  .rw [h] at ht;cases ht
  .rw [h2] at ht
   injection ht with ht;subst ht
   conv=>rhs;rw [h1]
   unfold bZ;rw [pQ,Y (by rw [<- h3];simpa using hd)]
 exact IZ
def dW.tickWrite (h:dW k){d}(ht:(bU k.bus).2=some d)(hd:d.kind=4):dW { k with bus:=(bU k.bus).1,mem:=dZ k.mem [⟨d.line,d.data⟩] }/\cF { k with bus:=(bU k.bus).1,mem:=dZ k.mem [⟨d.line,d.data⟩] }=cF k:=by
 have hw:bZ k.bus=⟨d.line,d.data⟩::bZ (bU k.bus).1:=by
  rcases AU k.bus with ⟨h,_⟩|⟨d',r,h1,h2,h3,h4,h5⟩
  .rw [h] at ht;cases ht
  .rw [h2] at ht
   injection ht with ht;subst ht
   conv=>lhs;rw [h1]
   unfold bZ;rw [pQ,aa (by rw [<- h3];simpa using hd),h4,h5];rfl
 have hb:gp (bU k.bus).1 (bl (dZ k.mem [⟨d.line,d.data⟩]))=gp k.bus (bl k.mem):=by
  unfold gp;rw [pX,<- wF,hw];rfl
 refine ⟨⟨h.right,λv hv=>?_⟩,tz ?_⟩
 .obtain ⟨a,b,c⟩:=h.lines v hv
  refine ⟨a,?_,λhd=>by rw [c hd];show _=dR (gp (bU k.bus).1 (bl (dZ k.mem [⟨d.line,d.data⟩]))) _;rw [hb]⟩;show v.line+16<=(bl (dZ k.mem _)).length;rw [gy,qk,<- gy];exact b
 .unfold iL
  show fq (bl (dZ k.mem _)) (bZ (bU k.bus).1++_++_)=_;rw [pX,<- wF,hw];rfl
def dW.drain (h:dW k):dW { k with stores:=(ff k.dways k.stores k.data).1,data:=(ff k.dways k.stores k.data).2.1 }/\cF { k with stores:=(ff k.dways k.stores k.data).1,data:=(ff k.dways k.stores k.data).2.1 }=cF k:=by
 have hd:=Df k.dways k.stores k.data;refine ⟨⟨hd.right h.right,?_⟩,tz (hd.all h.right)⟩;cases hd with
 | none h1 hs he hb=>show nG (ff _ _ _).2.1 _ _;rw [he];exact h.lines
 | no s r h1 hw hs he hb=>show nG (ff _ _ _).2.1 _ _;rw [he];exact h.lines
 | yes s r h1 hw hs hb=>exact i8u hw h.right h.lines
def drA (k:ak) (ok:Bool):ak:=match ok,k.stores with
 | false,p::_=>if kN k.bus (dL p.addr) 3=false/\mw k true=true then fy k 3 (dL p.addr) ⟨#[]⟩ else k
 | _,_=>k
def drB (k:ak):ak:=if k.stores≠[]\/k.halt=0 then k else
 if (eR k.dways k.data).2=true/\(eR k.dways k.data).1.data.size≠0 then { fy k 4 (eR k.dways k.data).1.line (eR k.dways k.data).1.data with data:=pg k.dways k.data (eR k.dways k.data).1.line } else k
def EZ (k):lu k=drB (drA { k with stores:=(ff k.dways k.stores k.data).1,data:=(ff k.dways k.stores k.data).2.1 } (ff k.dways k.stores k.data).2.2):=rfl
def dW.drA (h:dW k)(ok):dW (drA k ok)/\cF (Proofs.YtgnomadgnciifaaGreatDoor.drA k ok)=cF k:=by
 unfold Proofs.YtgnomadgnciifaaGreatDoor.drA;split
 .split
  .exact h.ask (kind:=3) ag _ _
  .exact ⟨h,rfl⟩
 .exact ⟨h,rfl⟩
def dW.drB (h:dW k):dW (drB k)/\cF (Proofs.YtgnomadgnciifaaGreatDoor.drB k)=cF k:=by
 unfold Proofs.YtgnomadgnciifaaGreatDoor.drB;split
 .exact ⟨h,rfl⟩
 .split
  .rename_i hd
   have jJ:=Gq k.dways k.data;rw [hd.1] at jJ;cases jJ with
   | no _ _ hb=>cases hb
   | none _ _ _ hb=>cases hb
   | one hR kk j ws hk hw hj hv nf hb=>
    have hin:ef k.data (eR k.dways k.data).1:=⟨kk,ws,j,hw,hv⟩;obtain ⟨a,b⟩:=Tt (left:=max (kC k.conf k.asked) 1) hR hin (yN _ _ _) h.lines;exact ⟨⟨(yN k.dways k.data (eR k.dways k.data).1.line).right hR,a⟩,tz (b _)⟩
  .exact ⟨h,rfl⟩
def dW.drains (h:dW k):dW (lu k)/\cF (lu k)=cF k:=by
 obtain ⟨h1,e1⟩:=h.drain;obtain ⟨h2,e2⟩:=h1.drA (ff k.dways k.stores k.data).2.2;obtain ⟨h3,e3⟩:=h2.drB;rw [EZ];exact ⟨h3,e3.trans (e2.trans e1)⟩
end
end
section
open Go.RowKit Wd
def l6 : Nat->List (Nat × Nat)->Nat->Prop
 | p,[],Y'=>p=Y'
 | p,x::r,Y'=>x.1=p/\l6 x.2 r Y'
def ta : ∀ {p:Nat} {l r:List (Nat × Nat)} {Y':Nat},l6 p (l++r) Y' ↔ ∃ m,l6 p l m/\l6 m r Y'
 | p,[],r,Y'=>⟨λh=>⟨p,rfl,h⟩,λ⟨m,h1,h2⟩=>by cases h1;exact h2⟩
 | p,x::l,r,Y'=>by
  show (x.1=p/\l6 x.2 (l++r) Y')↔_;constructor
  .rintro ⟨h1,h2⟩
   obtain ⟨m,a,b⟩:=ta.1 h2;exact ⟨m,⟨h1,a⟩,b⟩
  .rintro ⟨m,⟨h1,a⟩,b⟩
   exact ⟨h1,ta.2 ⟨m,a,b⟩⟩
def kQ (e:En):Nat × Nat:=(e.pc,e.guess)
def tA (f:Fe):Nat × Nat:=(f.pc,f.guess)
def T0 {st:Nat->Sq}{q m}(h:l6 (st 0).pc (q.map kQ) m):∀ i,gg st q i->i<=q.length->(∀ e,q[i]?=some e->e.pc=(st i).pc)/\(i=q.length->m=(st i).pc):=by
 have key:∀ (q:List En) (st:Nat->Sq),l6 (st 0).pc (q.map kQ) m -> ∀ i,(∀ j,j<i -> ∀ f,q[j]?=some f->f.guess=(st (j+1)).pc)->i<=q.length->(∀ e,q[i]?=some e->e.pc=(st i).pc)/\(i=q.length->m=(st i).pc):=by
  intro q
  induction q with
  | nil=>
   intro st h i hP hi;obtain rfl:i=0:=by simpa using hi
   exact ⟨λe he=>oK,λ_=>Eq.symm h⟩
  | cons x r ih=>
   intro st h i hP hi;obtain ⟨h1,h2⟩:=h;cases i with
   | zero=>exact ⟨λe he=>(by injection he with he;subst he;exact h1),λh=>fK⟩
   | succ i=>
    have hx:x.guess=(st 1).pc:=hP 0 O x F;have lW:l6 ((λn=>st (n+1)) 0).pc (r.map kQ) m:=by show l6 (st 1).pc _ _;rw [<- hx];exact h2
    have:=ih (λn=>st (n+1)) lW i (λj hj f hf=>hP (j+1) O f hf) (by simpa using hi);exact ⟨this.1,λh=>this.2 pZ⟩
 exact λi hP hi=>key q st h i hP.gs hi
def B0 (q:List En):Prop:=∀ (i:Nat) (e:En),q[i]?=some e->e.is=2 -> ∀ j,j<i -> ∀ f:En,q[j]?=some f->ae f.inst.op=4->(f.known=true/\f.halt=0)/\fO f.addr (aU f.inst.op) e.addr (aU e.inst.op)=false
structure gJ (e e':En):Prop where
 pc:e'.pc=e.pc
 guess:e'.guess=e.guess
 inst:e'.inst=e.inst
 bus:e'.is=2->e.is=2/\e'.addr=e.addr
 store:ae e.inst.op=4->e.known=true->e.halt=0->e'.known=true/\e'.halt=0/\e'.addr=e.addr
def gJ.refl (e):gJ e e:=⟨rfl,rfl,rfl,λh=>⟨h,rfl⟩,λ_ h1 h2=>⟨h1,h2,rfl⟩⟩
def gJ.trans {a b c}(h:gJ a b)(h2:gJ b c):gJ a c:=by
 refine ⟨h2.pc.trans h.pc,h2.guess.trans h.guess,h2.inst.trans h.inst,λhc=>?_,λh4 hk hh=>?_⟩
 .obtain ⟨a1,a2⟩:=h2.bus hc
  obtain ⟨b1,b2⟩:=h.bus a1;exact ⟨b1,a2.trans b2⟩
 .obtain ⟨a1,a2,a3⟩:=h.store h4 hk hh
  obtain ⟨b1,b2,b3⟩:=h2.store (by rw [h.inst];exact h4) a1 a2;exact ⟨b1,b2,b3.trans a3⟩
structure kL (q q':List En):Prop where
 len:q'.length=q.length
 at_:∀ (i:Nat) (e':En),q'[i]?=some e' -> ∃ e:En,q[i]?=some e/\gJ e e'
def kL.map {q}{f:En->En}(h:∀ e,e∈q->gJ e (f e)):kL q (q.map f):=⟨gq _,λi e' he=>by
 rw [lQ] at he;cases hq:q[i]? with
 | none=>rw [hq] at he;cases he
 | some e=>rw [hq] at he;injection he with he;subst he;exact ⟨e,rfl,h e (aQ hq)⟩⟩
def kL.set {q i e e'}(hi:q[i]?=some e)(h:gJ e e'):kL q (q.set i e'):=⟨cw,λj f hf=>by
 rw [sn] at hf;split at hf
 .rename_i hij
  subst hij;split at hf
  .injection hf with hf;subst hf;exact ⟨e,hi,h⟩
  .cases hf
 .exact ⟨f,hf,gJ.refl f⟩⟩
def kL.back {q q'}(h:kL q q'){i:Nat}{e}(he:q[i]?=some e):∃ e',q'[i]?=some e'/\gJ e e':=by
 have hl:=(aK.1 he).1;exact FB
def kL.pgs {q q'}(h:kL q q'):q'.map kQ=q.map kQ:=by
 apply mQ;intro i;rw [lQ,lQ];cases hq:q[i]? with
 | none=>
  have:q'[i]?=none:=by
   rw [List.getElem?_eq_none_iff] at hq ⊢;rw [h.len];exact hq
  rw [this]
 | some e=>
  obtain ⟨e',h',k⟩:=h.back hq;rw [h'];show some (kQ e')=some (kQ e);unfold kQ;rw [k.pc,k.guess]
def kL.onP {q q'}(h:kL q q'){st:Nat->Sq}{i}:gg st q' i↔gg st q i:=by
 constructor
 .intro hP
  refine ⟨hP.go,λj hj f hf=>?_⟩;obtain ⟨f',cS,k⟩:=h.back hf;rw [<- k.guess];exact hP.gs j hj f' cS
 .intro hP
  refine ⟨hP.go,λj hj f hf=>?_⟩;obtain ⟨f',cS,k⟩:=h.at_ j f hf;rw [k.guess];exact hP.gs j hj f' cS
def kL.bus {q q'}(h:kL q q')(hb:B0 q):B0 q':=by
 intro i e' he gY j hj f' hf cc;obtain ⟨e,ec,ke⟩:=h.at_ i e' he;obtain ⟨f,cZ,kf⟩:=h.at_ j f' hf;obtain ⟨b1,b2⟩:=ke.bus gY;rw [kf.inst] at cc ⊢;obtain ⟨⟨c1,c2⟩,c3⟩:=hb i e ec b1 j hj f cZ cc;obtain ⟨d1,d2,d3⟩:=kf.store cc c1 c2;rw [d3,b2,ke.inst];exact ⟨⟨d1,d2⟩,c3⟩
def Du (prog:List Nat) (f:Fe):Prop:=ae (dh 0 f prog).inst.op≠5->f.guess=ay f.pc 4
structure Live (prog:List Nat) (st:Nat->Sq) (k:ak):Prop where
 chain:∃ Y',l6 (st 0).pc (k.rob.map kQ++k.fetched.map tA) Y'/\(k.stop=false->Y'=k.fetch)
 good:tf prog st k.rob
 bus:B0 k.rob
 plainR:∀ e∈k.rob,ae e.inst.op≠5->e.guess=ay e.pc 4
 plainF:∀ f∈k.fetched,Du prog f
def Live.upd {prog:List Nat} {st:Nat->Sq} {k k':ak} (h:Live prog st k) (hq:kL k.rob k'.rob) (h1:k'.fetched=k.fetched) (h2:k'.stop=k.stop) (h3:k'.fetch=k.fetch)(hg:∀ (i:Nat) (e e':En),k.rob[i]?=some e->k'.rob[i]?=some e'->gg st k.rob i->eD prog (st i) e->eD prog (st i) e'):Live prog st k':=by
 refine ⟨?_,λi e' he hP=>?_,hq.bus h.bus,λe he hk=>?_,by rw [h1];exact h.plainF⟩
 .rw [hq.pgs,h1,h2,h3];exact h.chain
 .obtain ⟨e,ec,_⟩:=hq.at_ i e' he
  have jL:=hq.onP.1 hP;exact hg i e e' ec he jL (h.good i e ec jL)
 .obtain ⟨i,hi⟩:=te he
  obtain ⟨e0,ec,kk⟩:=hq.at_ i e hi;rw [kk.guess,kk.pc];exact h.plainR e0 (aQ ec) (by rw [<- kk.inst];exact hk)
def Live.same {prog}{st:Nat->Sq}{k k'}(h:Live prog st k)(h0:k'.rob=k.rob)(h1:k'.fetched=k.fetched)(h2:k'.stop=k.stop)(h3:k'.fetch=k.fetch):Live prog st k' :=
 ⟨by rw [h0,h1,h2,h3];exact h.chain,by rw [h0];exact h.good,by rw [h0];exact h.bus,by rw [h0];exact h.plainR,by rw [h1];exact h.plainF⟩
structure Inv (prog:List Nat) (S:Nat->Sq) (k:ak):Prop where
 prog_:k.prog=prog
 ret:k.retired=(List.range k.retired.length).map λn=>cx prog (S n)
 rgo:∀ n,n<k.retired.length->(S n).halt=0
 halt:k.halt=(S k.retired.length).halt
 regs:k.regs=(S k.retired.length).regs
 mem:cF k=(S k.retired.length).mem
 vok:dW k
 m16:k.mem.size % 16=0
 busD:∀ r∈k.bus,r.kind=3->r.line - r.line % 16+16<=k.mem.size
 puts:∀ p∈k.stores,dc k.mem.size p.addr p.data.size=true
 robR:fY k.rob
 dead:k.halt≠0->k.rob=[]
 live:k.halt=0->Live prog (λn=>S (k.retired.length+n)) k
structure jv (prog:List Nat) (S:Nat->Sq):Prop where
 run:jq prog S
 len:(S 0).regs.length=32
 zero:(S 0).regs[0]?=some 0
def jv.at_ {prog:List Nat} {S:Nat->Sq} (h:jv prog S) (R:Nat):jv prog (λn=>S (R+n)):=⟨h.run.shift R,h.run.len h.len R,h.run.zero h.zero R⟩
def Ll (k):(cF k).size=k.mem.size:=qk _ _
def Yf (e):gJ e (goE e):=by
 unfold goE;split
 .exact gJ.refl e
 .split
  .refine ⟨rfl,rfl,rfl,λh=>?_,λh4 hk hh=>⟨?_,hh,rfl⟩⟩
   .exact absurd (show (3:Int)=2 from h) ag
   .show (if _ then true else e.known)=true
    split
    .rfl
    .exact hk
  .exact ⟨rfl,rfl,rfl,λh=>⟨h,rfl⟩,λ_ hk hh=>⟨hk,hh,rfl⟩⟩
def CB (e b):gJ e (gc e b):=by
 unfold gc;split
 .exact gJ.refl e
 .exact ⟨rfl,rfl,rfl,λh=>absurd (show (1:Int)=2 from h) ag,λ_ hk hh=>⟨hk,hh,rfl⟩⟩
def P' (e):gJ e { e with filled:=true }:=⟨rfl,rfl,rfl,λh=>⟨h,rfl⟩,λ_ hk hh=>⟨hk,hh,rfl⟩⟩
def UL (k:ak) (x:Nat) (e:En):gJ e (fH k x e):=by
 unfold fH;split
 .exact (P' e).trans (CB _ _)
 .exact gJ.refl e
def UF (e:En) (b:Nat):gJ e (jm e b):=by
 unfold jm;split
 .exact gJ.refl e
 .exact ⟨rfl,rfl,rfl,λh=>absurd (show (3:Int)=2 from h) ag,λ_ hk hh=>⟨hk,hh,rfl⟩⟩
def VP (e a b):gJ e (dX e a b):=by
 unfold dX;split
 .exact gJ.refl e
 .rename_i hc
  have h4:¬ ae e.inst.op=4:=λh=>hc (.inr (.inr h))
  dsimp only
  repeat' split
  all_goals exact ⟨rfl,rfl,rfl,λh=>absurd (show (1:Int)=2 from h) ag,λh _ _=>absurd h h4⟩
def NC (e n a):gJ e (eo e n a):=by
 unfold eo;split
 .exact gJ.refl e
 .rename_i hc
  have h0:e.is=0:=by by_cases h:e.is=0;exact h;exact absurd (.inr (.inl h)) hc
  have hk:¬ e.known=true:=λh=>hc (.inr (.inr h))
  split
  .exact ⟨rfl,rfl,rfl,λh=>by rw [show e.is=2 from h] at h0;exact absurd h0 ag,λ_ h _=>absurd h hk⟩
  .exact ⟨rfl,rfl,rfl,λh=>absurd (show (3:Int)=2 from h) ag,λ_ h _=>absurd h hk⟩
def Live.bytes {prog}{st:Nat->Sq}{k}(hR:jv prog st)(hl:Live prog st k)(hm:cF k=(st 0).mem){i e}(he:k.rob[i]?=some e)(hP:gg st k.rob i)(h2:e.is=2):kO k e=fT (st i).mem e.addr (aU e.inst.op):=by
 have rH:=(aK.1 he).1;unfold kO;rw [hm];exact (Iy hR.run hl.good hP O (hl.bus i e he h2)).symm
def Live.tickLoad {prog:List Nat} {st:Nat->Sq} {k k1:ak} (hR:jv prog st) (hl:Live prog st k) (hm:cF k=(st 0).mem) (hv:cF k1=cF k) (x:Nat) (h1:k1.rob=k.rob) (h2:k1.fetched=k.fetched) (h3:k1.stop=k.stop) (h4:k1.fetch=k.fetch) :Live prog st { k1 with rob:=k1.rob.map (fH k1 x) }:=by
 refine hl.upd (k':={ k1 with rob:=k1.rob.map (fH k1 x) }) ?_ h2 h3 h4 (λi e e' he da hP hg=>?_)
 .show kL k.rob (k1.rob.map _)
  rw [h1];exact kL.map λe _=>UL k1 x e
 .have:e'=fH k1 x e:=by
   have h:(k1.rob.map (fH k1 x))[i]?=some e':=da;rw [h1,lQ,he] at h;injection h with h;exact h.symm
  subst this;unfold fH;split
  .rename_i hc
   refine C0 (RH hg) (λ_ _ _ _=>?_);have hb:=hl.bytes hR hm he hP hc.1;show kO k1 e=fT (st i).mem e.addr (aU e.inst.op);rw [<- hb];unfold kO;rw [hv]
  .exact hg
section
variable {prog:List Nat} {S:Nat->Sq} {k:ak}
def Inv.side {k'}(h:Inv prog S k)(e1:k'.prog=k.prog)(e2:k'.retired=k.retired)(e3:k'.halt=k.halt)(e4:k'.regs=k.regs)(hv:dW k')(hm:cF k'=cF k)(cY:k'.mem.size=k.mem.size)(hb:∀ r∈k'.bus,r.kind=3->r.line - r.line % 16+16<=k.mem.size)(hp:∀ p∈k'.stores,dc k.mem.size p.addr p.data.size=true)(hr:fY k'.rob)(hd:k.halt≠0->k'.rob=[])(hl:k.halt=0->Live prog (λn=>S (k.retired.length+n)) k'):Inv prog S k' :=
 ⟨e1.trans h.prog_,by rw [e2];exact h.ret,by rw [e2];exact h.rgo,by rw [e3,e2];exact h.halt,by rw [e4,e2];exact h.regs,by rw [hm,e2];exact h.mem,hv,by rw [cY];exact h.m16,by rw [cY];exact hb,by rw [cY];exact hp,hr,by rw [e3];exact hd,by rw [e3,e2];exact hl⟩
def R1 {q r}(h:r∈(bU q).1):∃ r0∈q,r.kind=r0.kind/\r.line=r0.line:=by
 cases q with
 | nil=>cases h
 | cons a q=>
  by_cases hl:0<a.left - 1
  .have e:bU (a::q)=({ a with left:=a.left - 1 }::q,none):=by show (if 0<a.left - 1 then _ else _)=_;rw [aa hl]
   rw [e] at h;rcases bB.1 h with rfl|h
   .exact ⟨a,ee ..,rfl,rfl⟩
   .exact ⟨r,ez _ h,rfl,rfl⟩
  .have e:bU (a::q)=(q,some { a with left:=a.left - 1 }):=by show (if 0<a.left - 1 then _ else _)=_;rw [Y hl]
   rw [e] at h;exact ⟨r,ez _ h,rfl,rfl⟩
def GU (k:ak) (x:Nat):∀ r∈(jA k x).bus,r∈k.bus\/r.kind=4:=λr hr=>by
 rcases Mb k.dways k.data k.bus k.mem x (kC k.conf k.asked) with h|⟨l,d,h,_⟩
 .have:(jA k x).bus=k.bus:=h
  rw [this] at hr;exact .inl hr
 .have:(jA k x).bus=k.bus++[⟨4,l,max (kC k.conf k.asked) 1,d⟩]:=h
  rw [this] at hr;rcases dv.1 hr with hr|hr
  .exact .inl hr
  .obtain rfl:=dm.1 hr
   exact .inr F
def Inv.bring (h:Inv prog S k){x}(hx:x - x % 16+16<=k.mem.size):Inv prog S (jA k x):=by
 obtain ⟨v1,v2⟩:=h.vok.bring hx;refine h.side F F F F v1 v2 F (λr hr hk=>?_) h.puts h.robR h.dead (λh0=>(h.live h0).same F F F F);rcases GU k x r hr with hr|hr
 .exact h.busD r hr hk
 .omega
def Inv.ticks (hR:jv prog S) (h:Inv prog S k):Inv prog S (dr k):=by
 have hbus:∀ r∈(bU k.bus).1,r.kind=3->r.line - r.line % 16+16<=k.mem.size:=λr hr hk=>by
  obtain ⟨r0,h0,e1,e2⟩:=R1 hr;rw [e2];exact h.busD r0 h0 (by rw [<- e1];exact hk)
 unfold dr;dsimp only;cases ht:(bU k.bus).2 with
 | none=>
  dsimp only;obtain ⟨v1,v2⟩:=h.vok.tickNone ht;exact h.side F F F F v1 v2 F hbus h.puts h.robR h.dead (λh0=>(h.live h0).same F F F F)
 | some d=>
  dsimp only;by_cases h4:d.kind=4
  .rw [Y O,Y O,Y O,aa h4]
   obtain ⟨v1,v2⟩:=h.vok.tickWrite ht h4;exact h.side F F F F v1 v2 (qk _ _) hbus h.puts h.robR h.dead (λh0=>(h.live h0).same F F F F)
  .obtain ⟨v1,v2⟩:=h.vok.tickOther ht h4
   have hk1:Inv prog S { k with bus:=(bU k.bus).1 }:=h.side F F F F v1 v2 F hbus h.puts h.robR h.dead (λh0=>(h.live h0).same F F F F);split
   .refine h.side rfl rfl rfl rfl (v1.of F F F F) ((lG F F F F).trans v2) rfl hbus h.puts (h.robR.map λe=>Sh _ _ e) (λhh=>by show List.map _ k.rob=[];rw [h.dead hh];rfl) (λh0=>?_)
    exact (h.live h0).tickLoad (hR.at_ _) h.mem v2 d.line F F F F
   .split
    .exact h.side rfl rfl rfl rfl (v1.of F F F F) ((lG F F F F).trans v2) rfl hbus h.puts h.robR h.dead (λh0=>(h.live h0).same F F F F)
    .split
     .rename_i h3
      refine hk1.bring ?_;rcases AU k.bus with ⟨hn,_⟩|⟨d',r,e1,e2,e3,e4,_⟩
      .rw [hn] at ht;cases ht
      .rw [e2] at ht
       injection ht with ht;subst ht;rw [e4];exact h.busD r (by rw [e1];exact ee ..) (by rw [<- e3];exact h3)
     .exact hk1
end
end
section
open Go.RowKit Wd
def eP (q:List En):Prop:=∀ e∈q,gu e=false
section
variable {prog:List Nat} {st:Nat->Sq} {k:ak}
def Live.goes (hl:Live prog st k):Live prog st { k with rob:=k.rob.map goE }:=by
 refine hl.upd (k':={ k with rob:=k.rob.map goE }) (kL.map λe _=>Yf e) rfl rfl rfl (λi e e' he da hP hg=>?_);have:e'=goE e:=by
  have h:(k.rob.map goE)[i]?=some e':=da;rw [lQ,he] at h;injection h with h;exact h.symm
 subst this;exact Zs hg
def Live.storeAt (hR:jv prog st) (hl:Live prog st k) (hr:fY k.rob) (db:k.regs=(st 0).regs) (i:Nat):Live prog st { k with rob:=storeAt k.regs k.rob i }:=by
 unfold Proofs.YtgnomadgnciifaaGreatDoor.storeAt;cases hi:k.rob[i]? with
 | none=>exact hl.same F F F F
 | some e=>
  dsimp only;split
  .exact hl.same rfl rfl rfl rfl
  .split
   .rename_i dT
    refine hl.upd (k':={ k with rob:=k.rob.set i (jm e (eg k.rob k.regs i e.inst.rs2).1) }) (kL.set hi (UF _ _)) rfl rfl rfl (λj f f' hf cS hP hg=>?_);have h:(k.rob.set i (jm e (eg k.rob k.regs i e.inst.rs2).1))[j]?=some f':=cS;rw [sn] at h;split at h
    .rename_i hij
     subst hij;rw [hi] at hf;injection hf with hf;subst hf;split at h
     .injection h with h
      subst h;have hin:=hr e (aQ hi);refine W8 hg ?_;rw [db];rw [db] at dT;exact DK hR.run hR.len hR.zero hl.good hP (by have:=(aK.1 hi).1;omega) hin.2 (Prod.ext F dT)
     .cases h
    .rw [hf] at h
     injection h with h;subst h;exact hg
   .exact hl.same rfl rfl rfl rfl
def Live.stores (hR:jv prog st):∀ (l:List Nat) {k:ak},Live prog st k->fY k.rob->k.regs=(st 0).regs->Live prog st { k with rob:=l.foldl (Proofs.YtgnomadgnciifaaGreatDoor.storeAt k.regs) k.rob }
 | [],k,hl,_,_=>hl.same F F F F
 | i::l,k,hl,hr,db=>by
  have h1:=hl.storeAt hR hr db i;exact Live.stores hR l (k:={ k with rob:=Proofs.YtgnomadgnciifaaGreatDoor.storeAt k.regs k.rob i }) h1 (NN i hr) db
def Live.cut (hl:Live prog st k){i e}(hi:k.rob[i]?=some e)(h5:ae e.inst.op=5):Live prog st { k with rob:=jk k.rob i e,fetch:=e.next,fetched:=[],stop:=false }:=by
 have hil:=(aK.1 hi).1;have hq:∀ j f,(jk k.rob i e)[j]?=some f->(j<i/\k.rob[j]?=some f)\/(j=i/\f={ e with guess:=e.next }):=by
  intro j f hf;unfold jk at hf;rw [List.getElem?_append] at hf;rw [cK,kZ O] at hf;split at hf
  .rename_i hj
   rw [kF,aa hj] at hf;exact .inl ⟨hj,hf⟩
  .rename_i hj
   cases br:j - i with
   | zero=>
    rw [br] at hf;injection hf with hf;exact .inr ⟨by omega,hf.symm⟩
   | succ n=>rw [br] at hf;cases hf
 have hP:∀ j,j<=i->gg st (jk k.rob i e) j->gg st k.rob j:=λj hj h=>⟨h.go,λn hn f hf=>by
  refine h.gs n hn f ?_;unfold jk;rw [lm sS,kF,aa O]
  exact hf⟩
 refine ⟨⟨e.next,?_,λ_=>rfl⟩,λj f hf cq=>?_,λj f hf h2 n hn g hg h4=>?_,λf hf hk=>?_,λf hf=>by cases hf⟩
 .obtain ⟨Y',hc,_⟩:=hl.chain
  show l6 (st 0).pc ((jk k.rob i e).map kQ++[].map tA) e.next
  obtain ⟨m,h1,_⟩:=ta.1 hc;have lX:k.rob=k.rob.take i++e::k.rob.drop (i+1):=by
   conv=>lhs;rw [<- sR i k.rob,mn hil]
   rw [(aK.1 hi).2]
  rw [lX,nM] at h1;obtain ⟨m1,a1,a2⟩:=ta.1 h1;unfold jk;rw [nM,mf,rK];exact ta.2 ⟨m1,a1,a2.1,rfl⟩
 .rcases hq j f hf with ⟨hj,cZ⟩|⟨rfl,rfl⟩
  .exact hl.good j f cZ (hP j O cq)
  .exact Xw (hl.good _ e hi (hP _ (aM _) cq))
 .have fs:k.rob[n]?=some g:=by
   rcases hq n g hg with ⟨_,h⟩|⟨h,_⟩
   .exact h
   .rcases hq j f hf with ⟨hj,_⟩|⟨hj,_⟩ <;> omega
  rcases hq j f hf with ⟨hj,cZ⟩|⟨rfl,rfl⟩
  .exact hl.bus j f cZ h2 n hn g fs h4
  .exact hl.bus _ e hi h2 n hn g fs h4
 .obtain ⟨j,hj⟩:=te hf
  rcases hq j f hj with ⟨_,cZ⟩|⟨_,rfl⟩
  .exact hl.plainR f (aQ cZ) hk
  .exact absurd h5 hk
def Rb {q i}(h:kz q=some i):∃ e,q[i]?=some e/\gu e=true /\ ∀ j,j<i -> ∀ f,q[j]?=some f->gu f=false:=by
 unfold kz at h;obtain ⟨hi,h1,h2⟩:=z4.1 h;refine ⟨q[i],ba hi,h1,λj hj f hf=>?_⟩;obtain ⟨hl,rfl⟩:=aK.1 hf;simpa using h2 j hj
def Zl {q}(h:kz q=none):eP q:=by
 unfold kz at h;rw [x9] at h;intro e he;exact h e he
def i9i {e}(h:gu e=true):ae e.inst.op=5:=by
 unfold gu at h;simp only [fi,iA] at h;exact h.1
def Wm {k:ak} (hh:k.halt=0):bQ k=match kz (kp k.regs (k.rob.map goE)) with
  | none=>{ k with rob:=kp k.regs (k.rob.map goE) }
  | some i=>match (kp k.regs (k.rob.map goE))[i]? with
   | none=>{ k with rob:=kp k.regs (k.rob.map goE) }
   | some e=>{ k with rob:=jk (kp k.regs (k.rob.map goE)) i e,fetch:=e.next,fetched:=[],stop:=false }:=by
 unfold bQ;rw [Y O];rfl
def XA (k):(bQ k).retired=k.retired/\(bQ k).halt=k.halt/\(bQ k).regs=k.regs/\(bQ k).bus=k.bus/\(bQ k).mem=k.mem/\(bQ k).stores=k.stores/\(bQ k).data=k.data/\(bQ k).dways=k.dways:=by
 unfold bQ;dsimp only
 repeat' split
 all_goals exact ⟨rfl,rfl,rfl,rfl,rfl,rfl,rfl,rfl⟩
def ZI (k):(bQ k).prog=k.prog:=by
 unfold bQ;dsimp only
 repeat' split
 all_goals rfl
end
section
variable {prog:List Nat} {S:Nat->Sq} {k:ak}
def Inv.works (hR:jv prog S) (h:Inv prog S k):Inv prog S (bQ k)/\eP (bQ k).rob:=by
 by_cases hh:k.halt=0
 .obtain ⟨s1,s2,s3,s4,s5,s6,s7,s8⟩:=XA k
  have a':=hR.at_ k.retired.length;have hl1:=(h.live hh).goes;have fm:fY (k.rob.map goE):=h.robR.map Qz;have hK:=Live.stores a' (List.range (k.rob.map goE).length) (k:={ k with rob:=k.rob.map goE }) hl1 fm h.regs;have hQ:Live prog (λn=>S (k.retired.length+n)) { k with rob:=kp k.regs (k.rob.map goE) }:=hK;have bT:fY (kp k.regs (k.rob.map goE)):=LB _ fm;have key:Live prog (λn=>S (k.retired.length+n)) (bQ k)/\eP (bQ k).rob/\fY (bQ k).rob:=by
   rw [Wm hh];generalize kp k.regs (k.rob.map goE)=q at hQ bT;cases hw:kz q with
   | none=>exact ⟨hQ,Zl hw,bT⟩
   | some i=>
    obtain ⟨e,he,lZ,hlt⟩:=Rb hw;dsimp only;rw [he];dsimp only;refine ⟨hQ.cut (k:={ k with rob:=q }) he (i9i lZ),?_,fY.app (λr hr=>bT r (jE hr)) (bT e (aQ he))⟩;intro f hf;rcases dv.1 hf with hf|hf
    .obtain ⟨j,hj⟩:=te hf
     rw [kF] at hj;split at hj
     .rename_i br
      exact hlt j br f hj
     .cases hj
    .obtain rfl:=dm.1 hf
     unfold gu
     simp
  refine ⟨h.side (ZI k) s1 s2 s3 (h.vok.of s8 s7 s4 s5) (lG s7 s4 s5 s6) (by rw [s5]) (by rw [s4];exact h.busD) (by rw [s6];exact h.puts) key.2.2 (λhn=>absurd hh hn) (λ_=>key.1),key.2.1⟩
 .have e:bQ k=k:=by unfold bQ;rw [aa hh]
  rw [e];exact ⟨h,by rw [h.dead hh];intro e he;cases he⟩
end
end
section
open Go.RowKit Wd
def i9v {e}(hh:e.halt=0):(aY e).next=if ae e.inst.op=5 then e.next else ay e.pc 4:=by
 unfold aY;dsimp only;rw [Y O];by_cases h4:ae e.inst.op=4
 .rw [aa h4,Y (show ¬ ae e.inst.op=5 by omega)]
 .rw [Y h4]
  by_cases h3:ae e.inst.op=3
  .rw [aa h3,Y (show ¬ ae e.inst.op=5 by omega)]
  .rw [Y h3]
   by_cases h2:ae e.inst.op=2
   .rw [aa h2,Y (show ¬ ae e.inst.op=5 by omega)]
   .rw [Y h2]
    by_cases h5:ae e.inst.op=5
    .rw [aa h5,aa h5]
    .rw [Y h5,Y h5]
def PV {e}(h:(aY e).halt=0):e.halt=0:=by
 by_cases hh:e.halt=0
 .exact hh
 .rw [i8k hh] at h;exact absurd h hh
section
variable {prog:List Nat} {s:Sq} {e:En}
def Iw (hg:eD prog s e) (hi:e.is=3) (hh:e.halt=0) (hw:gu e=false) (hp:ae e.inst.op≠5->e.guess=ay e.pc 4):e.guess=(cx prog s).next:=by
 rw [<- xQ hg hi,i9v hh];by_cases h5:ae e.inst.op=5
 .rw [aa h5]
  rcases uM hg with ⟨_,a,_⟩|⟨g,_⟩
  .exact absurd hh a
  .unfold jV at g
   dsimp only at g;rw [Y O,Y O] at g;rcases g with ⟨a,_⟩|⟨_,_,c⟩
   .omega
   .have hk:e.known=true:=by rw [c h5];simp [hi,hh]
    unfold gu at hw;simp [h5,hk] at hw;exact hw.symm
 .rw [Y h5]
  exact hp h5
def JL (hg:eD prog s e) (hi:e.is=3) (hh:e.halt=0) (hk:ae e.inst.op=3\/ae e.inst.op=4):e.known=true/\dc s.mem.size e.addr (aU e.inst.op)=true:=by
 rcases uM hg with ⟨_,a,_⟩|⟨g,_⟩
 .exact absurd hh a
 .unfold jV at g
  dsimp only at g;rcases hk with hk|hk
  .rw [aa hk] at g
   rcases g with ⟨_,b|b⟩|⟨a,_,c,d,_⟩
   .omega
   .omega
   .exact ⟨a,by rw [c];exact d⟩
  .rw [Y O,aa hk] at g
   rcases g with ⟨_,b|b⟩|⟨a,_,c,d,_⟩
   .omega
   .omega
   .exact ⟨a,by rw [c];exact d⟩
end
def JI {n a k}(h:dc n a k=true)(hn:n % 16=0):a - a % 16+16<=n:=by
 have:=zm.1 h;omega
def Xp (n:Nat) (f:Nat->Stp):(List.range (n+1)).map f=(List.range n).map f++[f n]:=by rw [List.range_succ,nM];rfl
def RO (k p):cF { k with stores:=k.stores++[p] }=dZ (cF k) [p]:=by
 unfold cF;rw [x0];congr 1;simp only [lc]
section
variable {prog:List Nat} {S:Nat->Sq} {k:ak}
def Live.behind {st:Nat->Sq}{k' e r}(hl:Live prog st k)(hr:k.rob=e::r)(h0:(st 0).halt=0)(h1:e.guess=(st 1).pc)(e0:k'.rob=r)(e1:k'.fetched=k.fetched)(e2:k'.stop=k.stop)(e3:k'.fetch=k.fetch):Live prog (λn=>st (n+1)) k':=by
 have hP:∀ i,gg (λn=>st (n+1)) r i->gg st (e::r) (i+1):=λi h=>by
  refine ⟨λj hj=>?_,λj hj f hf=>?_⟩
  .cases j with
   | zero=>exact h0
   | succ j=>exact h.go j O
  .cases j with
   | zero=>injection hf with hf;subst hf;exact h1
   | succ j=>exact h.gs j O f hf
 refine ⟨?_,λi f hf jM=>?_,λi f hf h2 j hj g hg h4=>?_,λf hf hk=>?_,λf hf=>?_⟩
 .obtain ⟨Y',hc,E⟩:=hl.chain
  refine ⟨Y',?_,by rw [e2,e3];exact E⟩;rw [hr] at hc;rw [e0,e1];show l6 (st 1).pc _ _;rw [<- h1];exact hc.2
 .rw [e0] at hf jM
  have:=hl.good (i+1) f (by rw [hr];exact hf);rw [hr] at this;exact this (hP i jM)
 .rw [e0] at hf hg
  exact hl.bus (i+1) f (by rw [hr];exact hf) h2 (j+1) O g (by rw [hr];exact hg) h4
 .rw [e0] at hf
  exact hl.plainR f (by rw [hr];exact ez _ hf) hk
 .rw [e1] at hf
  exact hl.plainF f hf
def Inv.retire (hR:jv prog S) (h:Inv prog S k) (hw:eP k.rob):Inv prog S (dw k).1/\eP (dw k).1.rob:=by
 by_cases hh:k.halt=0
 .cases eF:k.rob with
  | nil=>
   have e:dw k=(k,false):=by unfold dw;rw [Y O,eF]
   rw [e];exact ⟨h,hw⟩
  | cons e r=>
   by_cases hi:e.is=3
   .have hl:=h.live hh
    have eQ:=hR.at_ k.retired.length;have hg:eD prog (S k.retired.length) e:=by
     have:=hl.good 0 e (by rw [eF];rfl) ⟨λj hj=>by
      obtain rfl:j=0:=by omega
      show (S (k.retired.length+0)).halt=0
      rw [tg,<- h.halt];exact hh,λj hj=>absurd hj O⟩
     exact this
    have ht:=xQ hg hi;have hV:(S k.retired.length).halt=0:=by rw [<- h.halt];exact hh
    have dd:S (k.retired.length+1)=dE (S k.retired.length) (aY e):=by rw [hR.run,tF hV,ht]
    have hsz:(S k.retired.length).mem.size=k.mem.size:=by rw [<- h.mem,Ll]
    have jO:∀ m,m=k.retired.length+1->k.retired++[aY e]=(List.range m).map λn=>cx prog (S n):=by
     intro m hm;subst hm;rw [Xp,<- h.ret,ht]
    have il:(k.retired++[aY e]).length=k.retired.length+1:=by simp
    have jU:∀ n,n<k.retired.length+1->(S n).halt=0:=λn hn=>by
     rcases qg n k.retired.length with h1|h1
     .exact h.rgo n h1
     .obtain rfl:n=k.retired.length:=by omega
      exact hV
    by_cases hs:(aY e).halt≠0
    .have eq:dw k=({ k with retired:=k.retired++[aY e],halt:=(aY e).halt,rob:=[],fetched:=[],stop:=true },false):=by
      unfold dw;rw [Y O,eF];dsimp only;rw [Y O,aa hs]
     rw [eq];refine ⟨⟨h.prog_,jO _ il,by show ∀ n,n<(k.retired++[aY e]).length->_;rw [il];exact jU,?_,?_,?_,h.vok.of F F F F,h.m16,h.busD,h.puts,(λe he=>oK),λ_=>rfl,λh0=>absurd h0 hs⟩,λe he=>oK⟩
     .show (aY e).halt=(S (k.retired++[aY e]).length).halt
      rw [il,dd];rfl
     .show k.regs=(S (k.retired++[aY e]).length).regs
      rw [il,dd,h.regs];show _=eU _ _;unfold eU;rw [Y (λhc=>hs hc.2.2)]
     .show cF { k with retired:=k.retired++[aY e],halt:=(aY e).halt,rob:=[],fetched:=[],stop:=true }=(S (k.retired++[aY e]).length).mem
      rw [il,dd,DS];unfold oU gx;rw [Y (by simp [hs]),xS];exact (lG (k:=k) F F F F).trans h.mem
    .have hW:(aY e).halt=0:=by simpa using hs
     have ei:=PV hW;by_cases hf:(aY e).store=true/\k.conf.stores<=k.stores.length
     .have eq:dw k=(k,false):=by
       unfold dw;rw [Y O,eF];dsimp only;rw [Y O,Y hs,aa hf]
      rw [eq];exact ⟨h,hw⟩
     ·
      obtain ⟨k2,bo⟩:∃ k2:ak,rtB k (aY e)=k2:=⟨_,rfl⟩;obtain ⟨k3,bw⟩:∃ k3:ak,rtC k2 e (aY e)=k3:=⟨_,rfl⟩;have eq:dw k=({ k3 with regs:=eU k3.regs (aY e),guess:=gw k3.guess (aY e).pc (aY e).next e.inst,rob:=r },true):=by
       rw [FL hh eF hi,Y hs,Y hf,bo,bw];rfl
      unfold rtB at bo;unfold rtC at bw;rw [eq];have hY:e.guess=(cx prog (S k.retired.length)).next:=Iw hg hi ei (hw e Ci) (hl.plainR e Ci)
      have ia:=IR hg (by rw [<- ht];exact hW);rw [<- ht] at ia;have h2:dW k2/\cF k2=(S (k.retired.length+1)).mem/\k2.prog=k.prog/\k2.retired=k.retired++[aY e]/\k2.halt=k.halt/\k2.regs=k.regs/\k2.mem=k.mem/\k2.bus=k.bus/\k2.fetched=k.fetched/\k2.stop=k.stop/\k2.fetch=k.fetch/\(∀ p∈k2.stores,dc k.mem.size p.addr p.data.size=true):=by
       have hm:(S (k.retired.length+1)).mem=dZ (cF k) (oU (aY e)):=by rw [dd,DS,h.mem]
       by_cases ij:gx (aY e)=true
       .rw [aa ij] at bo
        subst bo;have cc:ae e.inst.op=4:=by
         by_cases h4:ae e.inst.op=4
         .exact h4
         .rw [ia.1 h4] at ij;cases ij
        obtain ⟨ad1,ad2⟩:=JL hg hi ei (.inr cc);obtain ⟨_,t2,t3,_⟩:=ia.2 cc ad1;refine ⟨h.vok.of F F F F,?_,rfl,rfl,rfl,rfl,rfl,rfl,rfl,rfl,rfl,λp hp=>?_⟩
        .rw [hm]
         unfold oU;rw [aa ij];exact RO k _
        .rcases dv.1 hp with hp|hp
         .exact h.puts p hp
         .obtain rfl:=dm.1 hp
          show dc k.mem.size (aY e).addr ((fU _ (aY e).size).size:Int)=true;rw [Kw,t2,t3,show ((aU e.inst.op).toNat:Int)=aU e.inst.op by have:=Nz cc;omega,<- hsz];exact ad2
       .rw [Y ij] at bo
        subst bo;refine ⟨h.vok.of F F F F,?_,rfl,rfl,rfl,rfl,rfl,rfl,rfl,rfl,rfl,h.puts⟩;rw [hm];unfold oU;rw [Y ij,xS];exact lG F F F F
      obtain ⟨v2,m2,p2,r2,l2,g2,y2,b2,f2,s2,t2,u2⟩:=h2;have h3:dW k3/\cF k3=(S (k.retired.length+1)).mem/\k3.prog=k.prog/\k3.retired=k.retired++[aY e]/\k3.halt=k.halt/\k3.regs=k.regs/\k3.mem=k.mem/\k3.fetched=k.fetched/\k3.stop=k.stop/\k3.fetch=k.fetch/\k3.stores=k2.stores/\(∀ x∈k3.bus,x.kind=3->x.line - x.line % 16+16<=k.mem.size):=by
       by_cases hk:ae e.inst.op=3
       .rw [aa hk] at bw
        subst bw;obtain ⟨ad1,ad2⟩:=JL hg hi ei (.inl hk);have l4:(aY e).addr=e.addr:=by
         unfold aY;dsimp only;rw [Y O,Y O,aa hk]
        obtain ⟨w1,w2⟩:=v2.bring (x:=(aY e).addr) (by rw [l4,y2];exact JI (by rw [<- hsz];exact ad2) h.m16);refine ⟨w1,w2.trans m2,p2,r2,l2,g2,y2,f2,s2,t2,rfl,λx hx hk=>?_⟩;rcases GU k2 _ x hx with hx|hx
        .rw [b2] at hx;exact h.busD x hx hk
        .omega
       .rw [Y hk] at bw
        subst bw;exact ⟨v2,m2,p2,r2,l2,g2,y2,f2,s2,t2,rfl,by rw [b2];exact h.busD⟩
      obtain ⟨v3,m3,p3,r3,l3,g3,y3,f3,s3,t3,u3,b3⟩:=h3;have ek:k3.retired.length=k.retired.length+1:=by rw [r3,il]
      refine ⟨⟨p3.trans h.prog_,?_,?_,?_,?_,?_,v3.of F F F F,by show k3.mem.size % 16=0;rw [y3];exact h.m16,by show ∀ x∈k3.bus,_->_<=k3.mem.size;rw [y3];exact b3,?_,λx hx=>h.robR x Bn,λhn=>absurd (l3.trans hh) hn,λ_=>?_⟩,λx hx=>hw x Bn⟩
      .show k3.retired=(List.range k3.retired.length).map _
       rw [ek,r3];exact jO _ F
      .show ∀ n,n<k3.retired.length->_
       rw [ek];exact jU
      .show k3.halt=(S k3.retired.length).halt
       rw [ek,dd,l3,hh];exact hW.symm
      .show eU k3.regs (aY e)=(S k3.retired.length).regs
       rw [ek,dd,g3,h.regs];rfl
      .show cF { k3 with regs:=eU k3.regs (aY e),guess:=gw k3.guess (aY e).pc (aY e).next e.inst,rob:=r }=(S k3.retired.length).mem
       rw [ek,<- m3];exact lG F F F F
      .show ∀ p∈k3.stores,dc k3.mem.size p.addr p.data.size=true
       rw [u3,y3];exact u2
      .show Live prog (λn=>S (k3.retired.length+n)) _
       have ij:(λn=>S (k3.retired.length+n))=λn=>S (k.retired.length+(n+1)):=by
        funext n;rw [ek];congr 1;omega
       rw [ij];exact hl.behind (st:=λn=>S (k.retired.length+n)) eF hV (by show e.guess=(S (k.retired.length+1)).pc;rw [dd,hY,<- ht];rfl) rfl f3 s3 t3
   .have e':dw k=(k,false):=by unfold dw;rw [Y O,eF];dsimp only;rw [aa hi]
    rw [e'];exact ⟨h,hw⟩
 .have e:dw k=(k,false):=by unfold dw;rw [aa hh]
  rw [e];exact ⟨h,hw⟩
def qd {P:ak->Prop} {f:ak->ak × Bool} (hf:∀ k,P k->P (f k).1):∀ (n:Nat) {k:ak},P k->P (gr f n k)
 | 0,k,h=>h
 | n+1,k,h=>by
  unfold gr;split
  .exact qd hf n (hf k h)
  .exact hf k h
def Inv.retires (hR:jv prog S) (h:Inv prog S k) (hw:eP k.rob):Inv prog S (eA k)/\eP (eA k).rob :=
 qd (P:=λk=>Inv prog S k/\eP k.rob) (λk hk=>hk.1.retire hR hk.2) _ ⟨h,hw⟩
end
end
section
open Go.RowKit Wd
def IK {a n}:∀ (sds:List Sd),(jp a n sds).1=2 -> ∀ s∈sds,fO s.addr s.size a n=false
 | [],_,s,hs=>by cases hs
 | x::r,h,s,hs=>by
  unfold jp at h;split at h
  .rename_i hx
   rcases bB.1 hs with rfl|hs
   .exact hx
   .exact IK r h s hs
  .split at h
   .exact absurd (show (0:Int)=2 from h) ag
   .exact absurd (show (1:Int)=2 from h) ag
def Vj {q ss i e}(he:q[i]?=some e)(h2:(jI q ss i).1=2):∀ j,j<i -> ∀ f:En,q[j]?=some f->ae f.inst.op=4->(f.known=true/\f.halt=0)/\fO f.addr (aU f.inst.op) e.addr (aU e.inst.op)=false:=by
 unfold jI at h2;rw [he] at h2;dsimp only at h2;split at h2
 .exact absurd (show (0:Int)=2 from h2) ag
 .split at h2
  .exact absurd (show (0:Int)=2 from h2) ag
  .rename_i g8
   intro j hj f hf h4;have gd:f∈q.take i:=aQ (i:=j) CL;have g9:(q.take i).any (λf=>decide (ae f.inst.op=4) && (!f.known || decide (f.halt≠0)))=false:=by simpa using g8
   have:=(yM.1 g9) f gd;simp [h4] at this;refine ⟨this,IK _ h2 (Sd.ofE f) ?_⟩;exact rz _ (List.mem_map_of_mem (vG.2 ⟨z5.2 gd,by simpa using h4⟩))
def set_at {q:List En}{i j w e'}(h:(q.set i w)[j]?=some e'):(j=i/\e'=w)\/(j≠i/\q[j]?=some e'):=by
 rw [sn] at h;split at h
 .rename_i hij
  split at h
  .injection h with h;exact .inl ⟨hij.symm,h.symm⟩
  .cases h
 .rename_i hij
  exact .inr ⟨λhh=>hij hh.symm,h⟩
structure n9 (q q':List En):Prop where
 len:q'.length=q.length
 at_:∀ (i:Nat) (e':En),q'[i]?=some e' -> ∃ e:En,q[i]?=some e/\e'.inst=e.inst/\(e'=e\/e.is=0)
def n9.set {q i e w}(he:q[i]?=some e)(hi:w.inst=e.inst)(h0:e.is=0):n9 q (q.set i w):=⟨cw,λj e' hj=>by
 rcases set_at hj with ⟨rfl,rfl⟩|⟨_,h⟩
 .exact ⟨e,he,hi,.inr h0⟩
 .exact ⟨e',h,rfl,.inl F⟩⟩
def n9.back {q q'}(h:n9 q q'){i:Nat}{e}(he:q[i]?=some e):∃ e',q'[i]?=some e'/\e'.inst=e.inst/\(e'=e\/e.is=0):=by
 have hl:=(aK.1 he).1;exact FB
def n9.read {q q'}(h:n9 q q'){regs i}(hi:i<=q.length){reg}(hv:(eg q regs i reg).2=true):(eg q' regs i reg).2=true:=by
 have hm:dM q' i reg=dM q i reg:=i7i (λj hj=>by
  obtain ⟨e,he⟩:∃ e,q[j]?=some e:=⟨_,ba (show j<q.length by omega)⟩;obtain ⟨e',da,hin,_⟩:=h.back he;rw [he,da]
  exact jB some hin) (by rw [h.len];exact hi) hi
 unfold eg at hv ⊢;rw [hm];split
 .rfl
 .rename_i c1
  rw [Y c1] at hv;split
  .rename_i c2
   rw [aa c2] at hv;cases hv
  .rename_i c2
   rw [Y c2] at hv;split
   .rfl
   .rename_i c3
    rw [Y c3] at hv;cases hq:q[(dM q i reg).toNat]? with
    | none=>rw [hq] at hv;cases hv
    | some e=>
     rw [hq] at hv;dsimp only at hv;split at hv
     .rename_i hc
      obtain ⟨e',da,_,hh⟩:=h.back hq;rcases hh with rfl|hh
      .rw [da]
       dsimp only;rw [aa hc]
      .rw [hc.1] at hh;cases hh
     .cases hv
section
variable {prog:List Nat} {st:Nat->Sq} {k:ak}
def Live.set (hl:Live prog st k){i e e'}(he:k.rob[i]?=some e)(hk:gJ e e')(hg:gg st k.rob i->eD prog (st i) e->eD prog (st i) e'):Live prog st { k with rob:=k.rob.set i e' }:=by
 refine hl.upd (k':={ k with rob:=k.rob.set i e' }) (kL.set he hk) rfl rfl rfl (λj a b ha hb hP jY=>?_);rcases set_at (show (k.rob.set i e')[j]?=some b from hb) with ⟨rfl,rfl⟩|⟨_,h⟩
 .rw [he] at ha;injection ha with ha;subst ha
  exact hg hP jY
 .rw [ha] at h;injection h with h;subst h
  exact jY
def Live.wait (hl:Live prog st k){i e}(he:k.rob[i]?=some e)(h3:ae e.inst.op=3)(ik:e.known=true)(h2:∀ j,j<i -> ∀ f:En,k.rob[j]?=some f->ae f.inst.op=4->(f.known=true/\f.halt=0)/\fO f.addr (aU f.inst.op) e.addr (aU e.inst.op)=false):Live prog st { k with rob:=k.rob.set i { e with is:=2 } }:=by
 have hil:=(aK.1 he).1
 have hP:∀ j,gg st (k.rob.set i { e with is:=2 }) j->gg st k.rob j:=λj h=>⟨h.go,λn hn f hf=>by
  by_cases nC:n=i
  .subst nC
   rw [he] at hf;injection hf with hf;subst hf;exact h.gs n hn { e with is:=2 } (by rw [jQ hil])
  .exact h.gs n hn f (by rw [mS (λhh=>nC hh.symm)];exact hf)⟩
 have hpg:(k.rob.set i { e with is:=2 }).map kQ=k.rob.map kQ:=by
  rw [List.map_set];apply mQ;intro j;by_cases hij:i=j
  .subst hij
   rw [jQ (by rw [gq];exact hil),lQ,he];rfl
  .rw [mS hij]
 refine ⟨?_,λj f hf cq=>?_,λj f hf l8 n hn g hg h4=>?_,λf hf hk=>?_,hl.plainF⟩
 .obtain ⟨Y',hc,E⟩:=hl.chain
  refine ⟨Y',?_,E⟩;show l6 (st 0).pc ((k.rob.set i { e with is:=2 }).map kQ++_) Y';rw [hpg];exact hc
 .rcases set_at (show (k.rob.set i { e with is:=2 })[j]?=some f from hf) with ⟨rfl,rfl⟩|⟨_,h⟩
  .exact WA (hl.good _ e he (hP _ cq)) h3 ik
  .exact hl.good j f h (hP j cq)
 .have fs:k.rob[n]?=some g:=by
   rcases set_at (show (k.rob.set i { e with is:=2 })[n]?=some g from hg) with ⟨rfl,rfl⟩|⟨_,h⟩
   .exact absurd (show ae e.inst.op=4 from h4) O
   .exact h
  rcases set_at (show (k.rob.set i { e with is:=2 })[j]?=some f from hf) with ⟨rfl,rfl⟩|⟨_,h⟩
  .exact h2 n hn g fs h4
  .exact hl.bus j f h l8 n hn g fs h4
 .obtain ⟨j,hj⟩:=te hf
  rcases set_at (show (k.rob.set i { e with is:=2 })[j]?=some f from hj) with ⟨rfl,rfl⟩|⟨_,h⟩
  .exact hl.plainR e (aQ he) hk
  .exact hl.plainR f (aQ h) hk
def Live.load (hR:jv prog st)(hl:Live prog st k)(hm:cF k=(st 0).mem){i e}(he:k.rob[i]?=some e)(h3:ae e.inst.op=3):Live prog st (fN k i):=by
 unfold fN;rw [he];dsimp only;by_cases ik:e.known=true
 .rw [Y (by rw [ik];decide)]
  have ig:gg st k.rob i->eD prog (st i) e->dc (st 0).mem.size e.addr (aU e.inst.op)=true:=λhP hg=>by
   have hz:(st i).mem.size=(st 0).mem.size:=hR.run.size i;rcases uM hg with ⟨a,_,_,_,_,b⟩|⟨g,_⟩
   .omega
   .unfold jV at g
    dsimp only at g;rw [aa h3] at g;rcases g with ⟨a,_⟩|⟨_,_,c,d,_⟩
    .rw [ik] at a;cases a
    .rw [c,<- hz];exact d
  by_cases h1:(jI k.rob k.stores i).1=1
  .rw [aa h1]
   refine hl.set he (CB _ _) (λhP hg=>C0 hg (λ_ _ _ _=>?_));exact (J' hR.run hl.good (base:=dZ k.mem (bZ k.bus++dY k.data)) (by rw [<- hm];unfold cF;rw [x0]) hP he (ig hP hg)).1 _ (Prod.ext h1 F)
  .rw [Y h1]
   by_cases h2:(jI k.rob k.stores i).1=2
   .rw [Y O]
    have hd:=Vj he h2;split
    .refine hl.set he (CB _ _) (λhP hg=>C0 hg (λ_ _ _ _=>?_))
     have hil:=(aK.1 he).1;unfold kO;rw [hm];exact (Iy hR.run hl.good hP O hd).symm
    .split
     .exact hl.wait he h3 ik hd
     .split
      .exact (hl.wait he h3 ik hd).same rfl rfl rfl rfl
      .exact hl
   .rw [aa h2]
    exact hl
 .rw [aa (by simpa using ik)]
  exact hl
end
end
section
open Go.RowKit Wd
structure fV (k k':ak):Prop where
 conf:k'.conf=k.conf
 prog:k'.prog=k.prog
 ret:k'.retired=k.retired
 halt:k'.halt=k.halt
 regs:k'.regs=k.regs
 mem:k'.mem=k.mem
 stores:k'.stores=k.stores
 vok:dW k->dW k'
 view:dW k->cF k'=cF k
 bus:∀ r∈k'.bus,r∈k.bus\/r.kind=1
def fV.refl (k):fV k k:=⟨rfl,rfl,rfl,rfl,rfl,rfl,rfl,id,λ_=>rfl,λr h=>.inl h⟩
def fV.trans {a b c}(h:fV a b)(h2:fV b c):fV a c :=
 ⟨h2.conf.trans h.conf,h2.prog.trans h.prog,h2.ret.trans h.ret,h2.halt.trans h.halt,h2.regs.trans h.regs,h2.mem.trans h.mem,h2.stores.trans h.stores,λv=>h2.vok (h.vok v),λv=>(h2.view (h.vok v)).trans (h.view v),λr hr=>by
  rcases h2.bus r hr with hr|hr
  .exact h.bus r hr
  .exact .inr hr⟩
def fV.rob (k q):fV k { k with rob:=q }:=⟨rfl,rfl,rfl,rfl,rfl,rfl,rfl,λv=>v.of F F F F,λ_=>lG F F F F,λr h=>.inl h⟩
def fV.ask (k:ak) (line:Nat):fV k (fy k 1 line ⟨#[]⟩):=⟨rfl,rfl,rfl,rfl,rfl,rfl,rfl,λv=>(v.ask ag _ _).1,λv=>(v.ask ag _ _).2,λr h=>by
 rcases dv.1 (show r∈k.bus++_ from h) with h|h
 .exact .inl h
 .obtain rfl:=dm.1 h
  exact .inr F⟩
def QW (k:ak) (i:Nat):fV k (fN k i):=by
 unfold fN;split
 .exact fV.refl k
 .rename_i e he
  dsimp only
  repeat' split
  all_goals first|exact fV.refl k|exact fV.rob k _|exact (fV.ask k _).trans (fV.rob _ _)
def LO (k:ak) (i:Nat):fV k (startK k i):=by
 unfold startK;split
 .exact fV.refl k
 .dsimp only
  split
  .exact fV.rob k _
  .split
   .exact (fV.rob k _).trans (QW _ _)
   .exact fV.rob k _
def So {q:List En}{i e}(he:q[i]?=some e):q.set i e=q:=by
 apply mQ;intro j;by_cases hij:i=j
 .subst hij
  rw [jQ (aK.1 he).1,he]
 .rw [mS hij]
def S9 {k i e}(he:k.rob[i]?=some e):∃ w:En,w.inst=e.inst/\(fN k i).rob=k.rob.set i w:=by
 unfold fN;rw [he];dsimp only
 repeat' split
 all_goals first|exact ⟨e,rfl,(So he).symm⟩|exact ⟨_,Mj _ _,rfl⟩|exact ⟨{ e with is:=2 },rfl,rfl⟩
def Cg {k i e}(he:k.rob[i]?=some e):∃ w:En,w.inst=e.inst/\(startK k i).rob=k.rob.set i w:=by
 have hil:=(aK.1 he).1;unfold startK;rw [he];dsimp only;split
 .exact ⟨_,xV _ _ _,rfl⟩
 .split
  .obtain ⟨w,h1,h2⟩:=S9 (k:={ k with rob:=k.rob.set i (eo e k.mem.size (eC k.rob k.regs i).1) }) (i:=i) (e:=eo e k.mem.size (eC k.rob k.regs i).1) (jQ hil)
   refine ⟨w,h1.trans (xV _ _ _),h2.trans ?_⟩;exact List.set_set ..
  .exact ⟨_,Si _ _ _,rfl⟩
def n9.robR {q q'}(h:n9 q q')(hr:fY q):fY q':=λe he=>by
 obtain ⟨i,hi⟩:=te he;obtain ⟨e0,h0,h1,_⟩:=h.at_ i e hi;rw [h1];exact hr e0 (aQ h0)
structure Ready (k:ak) (i:Nat) (e:En):Prop where
 at_:k.rob[i]?=some e
 is:e.is=0
 three:ae e.inst.op=3->e.known=true\/(eg k.rob k.regs i e.inst.rs1).2=true
 four:ae e.inst.op=4->(eg k.rob k.regs i e.inst.rs1).2=true
 other:ae e.inst.op≠3->ae e.inst.op≠4->(eg k.rob k.regs i e.inst.rs1).2=true/\(eg k.rob k.regs i e.inst.rs2).2=true
def Nt {k i}(h:li k i=true):∃ e,Ready k i e:=by
 unfold li at h;cases he:k.rob[i]? with
 | none=>rw [he] at h;cases h
 | some e=>
  rw [he] at h;dsimp only at h;split at h
  .cases h
  .rename_i hi
   refine ⟨e,he,by simpa using hi,λh3=>?_,λh4=>?_,λh3 h4=>?_⟩
   .rw [aa h3] at h
    simp at h;rcases h with h|h
    .exact .inl h
    .exact .inr h.1
   .rw [Y O,aa h4] at h
    simp at h;exact h.2.1
   .rw [Y h3,Y h4] at h
    unfold eC at h;rw [he] at h;simp at h;exact h.1
def Ready.start {k i j e}(h:Ready k i e){f}(hf:k.rob[j]?=some f)(h0:f.is=0)(hij:j≠i):Ready (startK k j) i e:=by
 obtain ⟨w,ib,ch⟩:=Cg hf;have hS:n9 k.rob (startK k j).rob:=by rw [ch];exact n9.set hf ib h0
 have hil:=(aK.1 h.at_).1;have im:=(LO k j).regs;refine ⟨by rw [ch,mS hij];exact h.at_,h.is,λh3=>?_,λh4=>?_,λh3 h4=>?_⟩
 .rcases h.three h3 with a|a
  .exact .inl a
  .exact .inr (by rw [im];exact hS.read O a)
 .rw [im];exact hS.read O (h.four h4)
 .rw [im];exact ⟨hS.read O (h.other h3 h4).1,hS.read O (h.other h3 h4).2⟩
section
variable {prog:List Nat} {st:Nat->Sq} {k:ak}
def Live.start (hR:jv prog st)(hl:Live prog st k)(hr:fY k.rob)(db:k.regs=(st 0).regs)(hm:cF k=(st 0).mem){i e}(h:Ready k i e):Live prog st (startK k i):=by
 have he:=h.at_;have hil:=(aK.1 he).1;have hin:=hr e (aQ he);have hB:gg st k.rob i->_:=λhP=>i8l hR.run hR.len hR.zero hl.good hP he hin
 rw [<- db] at hB;have hsz:k.mem.size=(st i).mem.size:=by rw [hR.run.size i,<- hm,Ll]
 unfold startK;rw [he];dsimp only;split
 .rename_i h4
  exact hl.set he (NC _ _ _) (λhP hg=>Lr hg ((hB hP).1 (h.four h4)) hsz)
 .split
  .rename_i h4 h3
   have hl1:Live prog st { k with rob:=k.rob.set i (eo e k.mem.size (eC k.rob k.regs i).1) }:=by
    refine hl.set he (NC _ _ _) (λhP hg=>?_);rcases h.three h3 with a|a
    .have:eo e k.mem.size (eC k.rob k.regs i).1=e:=by
      unfold eo;rw [aa (.inr (.inr a))]
     rw [this];exact hg
    .exact Lr hg ((hB hP).1 a) hsz
   exact hl1.load hR ((lG F F F F).trans hm) (jQ hil) (by rw [xV];exact h3)
  .rename_i h4 h3
   exact hl.set he (VP _ _ _) (λhP hg=>i8e hg ((hB hP).1 (h.other h3 h4).1) ((hB hP).2 (h.other h3 h4).2))
def p5 {width:Int} {kinds:List Int}:∀ (cs:List Bool) (i:Nat) (n:Int) (d m:Bool),(eK width kinds cs i n d m).Pairwise (· < ·) /\ ∀ x∈eK width kinds cs i n d m,∃ j:Nat,x=((i+j:Nat):Int)/\cs[j]?=some true
 | [],i,n,d,m=>⟨List.Pairwise.nil,λx hx=>by cases hx⟩
 | c::r,i,n,d,m=>by
  have up:∀ n d m,∀ x∈eK width kinds r (i+1) n d m,∃ j:Nat,x=((i+j:Nat):Int)/\(c::r)[j]?=some true:=λn d m x hx=>by
   obtain ⟨j,h1,h2⟩:=(p5 r (i+1) n d m).2 x hx;exact ⟨j+1,by rw [h1];omega,by rw [pT];exact h2⟩
  unfold eK;split
  .exact ⟨List.Pairwise.nil,λx hx=>by cases hx⟩
  .split
   .exact ⟨(p5 r (i+1) n d m).1,up _ _ _⟩
   .rename_i hc
    dsimp only;split
    .exact ⟨(p5 r (i+1) n d m).1,up _ _ _⟩
    .refine ⟨List.Pairwise.cons (λx hx=>?_) (p5 r (i+1) _ _ _).1,λx hx=>?_⟩
     .obtain ⟨j,h1,_⟩:=(p5 r (i+1) _ _ _).2 x hx
      rw [h1];omega
     .rcases bB.1 hx with rfl|hx
      .exact ⟨0,by rw [tg],by rw [mI];simpa using hc⟩
      .exact up _ _ _ x hx
def I5 (hR:jv prog st):∀ (l:List Int) {k:ak},Live prog st k->fY k.rob->dW k->k.regs=(st 0).regs->cF k=(st 0).mem->l.Pairwise (· < ·)->(∀ x∈l,0<=x /\ ∃ e,Ready k x.toNat e) -> Live prog st (l.foldl (λk i=>startK k i.toNat) k)/\fV k (l.foldl (λk i=>startK k i.toNat) k)/\fY (l.foldl (λk i=>startK k i.toNat) k).rob
 | [],k,hl,hr,hv,h1,h2,hp,hx=>⟨hl,fV.refl k,hr⟩
 | x::l,k,hl,hr,hv,h1,h2,hp,hx=>by
  obtain ⟨j2,e,he⟩:=hx x (ee ..);have hs:=LO k x.toNat;obtain ⟨w,ib,ch⟩:=Cg he.at_;have gb:fY (startK k x.toNat).rob:=by rw [ch];exact (n9.set he.at_ ib he.is).robR hr
  obtain ⟨a,b,c⟩:=I5 hR l (hl.start hR hr h1 h2 he) gb (hs.vok hv) (hs.regs.trans h1) ((hs.view hv).trans h2) (ry.1 hp).2 (λy hy=>by
   obtain ⟨hy0,f,hf⟩:=hx y (ez _ hy);have j4:=(ry.1 hp).1 y hy
   exact ⟨hy0,f,hf.start he.at_ he.is O⟩)
  exact ⟨a,hs.trans b,c⟩
end
section
variable {prog:List Nat} {S:Nat->Sq} {k:ak}
def Inv.starts (hR:jv prog S) (h:Inv prog S k):Inv prog S (dJ k)/\(dJ k).conf=k.conf:=by
 unfold dJ;split
 .exact ⟨h,rfl⟩
 .rename_i hh
  have ei:k.halt=0:=by simpa using hh
  obtain ⟨p1,p2⟩:=p5 (width:=k.conf.width) (kinds:=zK k) (tC k) 0 0 (wj k) false
  obtain ⟨a,b,c⟩:=I5 (hR.at_ k.retired.length) _ (h.live ei) h.robR h.vok h.regs h.mem p1 (λx hx=>by
   obtain ⟨j,h1,h2⟩:=p2 x hx;rw [jR] at h1;subst h1;refine ⟨by omega,?_⟩;rw [jt];refine Nt ?_;unfold tC at h2;rw [lQ] at h2;cases hj:(List.range k.rob.length)[j]? with
   | none=>rw [hj] at h2;cases h2
   | some y=>
    rw [hj] at h2;have:y=j:=by
     rw [List.getElem?_range IX] at hj;injection hj with hj;exact hj.symm
    subst this
    injection h2)
  refine ⟨h.side b.prog b.ret b.halt b.regs (b.vok h.vok) (b.view h.vok) (by rw [b.mem]) (λr hr hk=>?_) (by rw [b.stores];exact h.puts) c (λhn=>absurd ei hn) (λ_=>a),b.conf⟩;rcases b.bus r hr with hr|hr
  .exact h.busD r hr hk
  .omega
end
end
section
open Go.RowKit Wd
def XO (no:Int) (f:Fe) (prog:List Nat):(dh no f prog).pc=f.pc/\(dh no f prog).guess=f.guess/\((dh no f prog).is=0\/(dh no f prog).is=3)/\(dh no f prog).inst=(dh 0 f prog).inst:=by
 unfold dh;dsimp only;split
 .exact ⟨rfl,rfl,.inr F,rfl⟩
 .split
  .exact ⟨rfl,rfl,.inr F,rfl⟩
  .split
   .exact ⟨rfl,rfl,.inr F,rfl⟩
   .split
    .exact ⟨rfl,rfl,.inr F,rfl⟩
    .exact ⟨rfl,rfl,.inl F,rfl⟩
section
variable {prog:List Nat} {st:Nat->Sq} {k:ak}
def Live.enter (hl:Live prog st k){f r no nx}(hf:k.fetched=f::r):Live prog st { k with rob:=k.rob++[dh no f prog],next:=nx,fetched:=r }:=by
 obtain ⟨e1,e2,e3,e4⟩:=XO no f prog;have eY:∀ (j:Nat) (g:En),(k.rob++[dh no f prog])[j]?=some g->(j<k.rob.length/\k.rob[j]?=some g)\/(j=k.rob.length/\g=dh no f prog):=λj g hg=>by
  rw [List.getElem?_append] at hg;split at hg
  .rename_i hj;exact .inl ⟨hj,hg⟩
  .rename_i hj
   cases br:j - k.rob.length with
   | zero=>rw [br] at hg;injection hg with hg;exact .inr ⟨by omega,hg.symm⟩
   | succ n=>rw [br] at hg;cases hg
 have hP:∀ j,j<=k.rob.length->gg st (k.rob++[dh no f prog]) j->gg st k.rob j:=λj hj h=>⟨h.go,λn hn g hg=>h.gs n hn g (by rw [lm O];exact hg)⟩
 obtain ⟨Y',hc,E⟩:=hl.chain;rw [hf] at hc;refine ⟨⟨Y',?_,E⟩,λj g hg cq=>?_,λj g hg h2 n hn g' bL h4=>?_,λg hg hk=>?_,λg hg=>hl.plainF g (by rw [hf];exact ez _ hg)⟩
 .show l6 (st 0).pc ((k.rob++[dh no f prog]).map kQ++r.map tA) Y'
  rw [nM,lc];have:[dh no f prog].map kQ++r.map tA=(f::r).map tA:=by
   show kQ (dh no f prog)::_=tA f::_;unfold kQ tA;rw [e1,e2];rfl
  rw [this];exact hc
 .rcases eY j g hg with ⟨hj,h⟩|⟨rfl,rfl⟩
  .exact hl.good j g h (hP j O cq)
  .refine Vy ?_
   obtain ⟨m,c1,c2⟩:=ta.1 hc;have:=(T0 c1 k.rob.length (hP _ (aM _) cq) (aM _)).2 F;rw [<- this];exact c2.1
 .have l9:k.rob[n]?=some g':=by
   rcases eY n g' bL with ⟨_,h⟩|⟨h,rfl⟩
   .exact h
   .rcases eY j g hg with ⟨hj,_⟩|⟨hj,_⟩ <;> omega
  rcases eY j g hg with ⟨hj,h⟩|⟨rfl,rfl⟩
  .exact hl.bus j g h h2 n hn g' l9 h4
  .rcases e3 with a|a <;> · rw [a] at h2;exact absurd h2 ag
 .rcases dv.1 hg with hg|hg
  .exact hl.plainR g hg hk
  .obtain rfl:=dm.1 hg
   rw [e1,e2];exact hl.plainF f (by rw [hf];exact ee ..) (by rw [<- e4];exact hk)
def Live.fetch (hl:Live prog st k)(hs:k.stop=false){k' g}(h0:k'.rob=k.rob)(h1:k'.fetched=k.fetched++[⟨k.fetch,g⟩])(h2:k'.stop=true\/k'.fetch=g)(hp:Du prog ⟨k.fetch,g⟩):Live prog st k':=by
 obtain ⟨Y',hc,E⟩:=hl.chain;refine ⟨⟨g,?_,λh=>?_⟩,by rw [h0];exact hl.good,by rw [h0];exact hl.bus,by rw [h0];exact hl.plainR,λf hf=>?_⟩
 .rw [h0,h1,nM,<- lc]
  exact ta.2 ⟨Y',hc,(E hs).symm,rfl⟩
 .rcases h2 with h2|h2
  .rw [h2] at h;cases h
  .exact h2.symm
 .rw [h1] at hf
  rcases dv.1 hf with hf|hf
  .exact hl.plainF f hf
  .obtain rfl:=dm.1 hf
   exact hp
end
def CE (k:ak) (w:Nat):fV k (dG k w).2/\(dG k w).2.rob=k.rob/\(dG k w).2.fetched=k.fetched/\(dG k w).2.stop=k.stop/\(∀ i,df w=some i->ae i.op≠5->(dG k w).1=ay k.fetch 4)/\(df w=none->(dG k w).1=ay k.fetch 4):=by
 unfold dG;cases hd:df w with
 | none=>exact ⟨fV.refl k,rfl,rfl,rfl,λi h=>fK,λ_=>rfl⟩
 | some i=>
  dsimp only;split
  .exact ⟨fV.refl k,rfl,rfl,rfl,λj h _=>rfl,λh=>fK⟩
  .rename_i h5
   split
   .exact ⟨fV.refl k,rfl,rfl,rfl,λj h h2=>JB,λh=>fK⟩
   .exact ⟨⟨rfl,rfl,rfl,rfl,rfl,rfl,rfl,λv=>v.of F F F F,λ_=>lG F F F F,λr h=>.inl h⟩,rfl,rfl,rfl,λj h h2=>JB,λh=>fK⟩
section
variable {prog:List Nat} {S:Nat->Sq} {k:ak}
def Inv.enter (h:Inv prog S k) (hh:k.halt=0):Inv prog S (iC k).1/\(iC k).1.halt=0:=by
 have hpg:=h.prog_;subst hpg;unfold iC;split
 .exact ⟨h,hh⟩
 .split
  .exact ⟨h,hh⟩
  .rename_i f r hf
   exact ⟨h.side F F F F (h.vok.of F F F F) (lG F F F F) F h.busD h.puts (h.robR.app (ZA _ _ _)) (λhn=>absurd hh hn) (λh0=>(h.live h0).enter hf),hh⟩
def Inv.enters (h:Inv prog S k):Inv prog S (fP k):=by
 unfold fP;split
 .exact h
 .rename_i hh
  exact (qd (P:=λk=>Inv prog S k/\k.halt=0) (f:=iC) (λk hk=>hk.1.enter hk.2) _ ⟨h,by simpa using hh⟩).1
def j1e {prog}{k:ak}{w g}(hw:eE prog k.fetch=some w)(h1:∀ i,df w=some i->ae i.op≠5->g=ay k.fetch 4)(h2:df w=none->g=ay k.fetch 4):Du prog ⟨k.fetch,g⟩:=by
 intro hk;unfold dh at hk;dsimp only at hk;rw [hw] at hk;dsimp only at hk;cases hd:df w with
 | none=>exact h2 hd
 | some i=>
  rw [hd] at hk;dsimp only at hk;refine h1 i hd ?_;split at hk
  .exact hk
  .split at hk
   .exact hk
   .exact hk
def Inv.fetch (h:Inv prog S k) (hh:k.halt=0):Inv prog S (iX k).1/\(iX k).1.halt=0:=by
 have hpg:=h.prog_;subst hpg;unfold iX;split
 .exact ⟨h,hh⟩
 .rename_i ij
  have hs:k.stop=false:=by
   cases hk:k.stop with
   | false=>rfl
   | true=>exact absurd (.inl hk) ij
  split
  .rename_i hw
   refine ⟨h.side F F F F (h.vok.of F F F F) (lG F F F F) F h.busD h.puts h.robR (λhn=>absurd hh hn) (λh0=>(h.live h0).fetch hs F F (.inl F) ?_),hh⟩;intro hk;rfl
  .rename_i w hw
   dsimp only;split
   .split
    .have hv:=h.vok.ask (kind:=2) ag (dL k.fetch) ⟨#[]⟩
     refine ⟨h.side F F F F hv.1 hv.2 F (λr hr hk=>?_) h.puts h.robR h.dead (λh0=>(h.live h0).same F F F F),hh⟩;rcases dv.1 (show r∈k.bus++_ from hr) with hr|hr
     .exact h.busD r hr hk
     .obtain rfl:=dm.1 hr
      exact absurd (show (2:Int)=3 from hk) ag
    .exact ⟨h,hh⟩
   .obtain ⟨k1,hk1⟩:∃ k1:ak,{ k with words:=me k.wways k.words (dL k.fetch) }=k1:=⟨_,rfl⟩
    rw [hk1];have e0:fV k k1:=by
     subst hk1;exact ⟨rfl,rfl,rfl,rfl,rfl,rfl,rfl,λv=>v.of F F F F,λ_=>lG F F F F,λr h=>.inl h⟩
    obtain ⟨b0,b1,b2,b3,b4,b5⟩:=CE k1 w;have e1:=e0.trans b0;have f1:k1.rob=k.rob/\k1.fetched=k.fetched/\k1.stop=k.stop/\k1.fetch=k.fetch:=by subst hk1;exact ⟨rfl,rfl,rfl,rfl⟩
    obtain ⟨f1,f2,f3,f4⟩:=f1;rw [f4] at b4 b5;refine ⟨h.side e1.prog e1.ret e1.halt e1.regs ((e1.vok h.vok).of F F F F) ((lG F F F F).trans (e1.view h.vok)) (by show (dG k1 w).2.mem.size=_;rw [e1.mem]) (λr hr hk=>?_) (by show ∀ p∈(dG k1 w).2.stores,_;rw [e1.stores];exact h.puts) (by show fY (dG k1 w).2.rob;rw [b1,f1];exact h.robR) (λhn=>absurd hh hn) (λh0=>?_),e1.halt.trans hh⟩
    .rcases e1.bus r hr with hr|hr
     .exact h.busD r hr hk
     .omega
    .refine (h.live h0).fetch hs (g:=(dG k1 w).1) (b1.trans f1) ?_ (.inr F) (j1e hw b4 b5)
     show (dG k1 w).2.fetched++_=_;rw [b2,f2]
def Inv.fetches (h:Inv prog S k):Inv prog S (fo k):=by
 unfold fo;split
 .exact h
 .rename_i hh
  exact (qd (P:=λk=>Inv prog S k/\k.halt=0) (f:=iX) (λk hk=>hk.1.fetch hk.2) _ ⟨h,by simpa using hh⟩).1
def Inv.drains (h:Inv prog S k):Inv prog S (lu k):=by
 obtain ⟨v1,v2⟩:=h.vok.drains;rw [EZ] at v1 v2 ⊢;have j9:∀ p∈(ff k.dways k.stores k.data).1,p∈k.stores:=λp hp=>by
  unfold ff at hp;split at hp
  .cases hp
  .rename_i s r hs
   rw [hs];split at hp
   .exact ez _ hp
   .exact hp
 obtain ⟨k1,hk1⟩:∃ k1:ak,{ k with stores:=(ff k.dways k.stores k.data).1,data:=(ff k.dways k.stores k.data).2.1 }=k1:=⟨_,rfl⟩;rw [hk1] at v1 v2 ⊢;have p1:k1.prog=k.prog/\k1.retired=k.retired/\k1.halt=k.halt/\k1.regs=k.regs/\k1.mem=k.mem/\k1.rob=k.rob/\k1.fetched=k.fetched/\k1.stop=k.stop/\k1.fetch=k.fetch/\k1.bus=k.bus /\ ∀ p∈k1.stores,p∈k.stores:=by
  subst hk1;exact ⟨rfl,rfl,rfl,rfl,rfl,rfl,rfl,rfl,rfl,rfl,j9⟩
 obtain ⟨k2,bo⟩:∃ k2:ak,drA k1 (ff k.dways k.stores k.data).2.2=k2:=⟨_,rfl⟩;rw [bo] at v1 v2 ⊢;have p2:k2.prog=k.prog/\k2.retired=k.retired/\k2.halt=k.halt/\k2.regs=k.regs/\k2.mem=k.mem/\k2.rob=k.rob/\k2.fetched=k.fetched/\k2.stop=k.stop/\k2.fetch=k.fetch/\(∀ r∈k2.bus,r.kind=3->r.line - r.line % 16+16<=k.mem.size) /\ ∀ p∈k2.stores,p∈k.stores:=by
  obtain ⟨a1,a2,a3,a4,a5,a6,a7,a8,a9,a10,a11⟩:=p1;have same:k2=k1->_:=λe=>by
   subst e;exact (⟨a1,a2,a3,a4,a5,a6,a7,a8,a9,by rw [a10];exact h.busD,a11⟩:k2.prog=k.prog/\k2.retired=k.retired/\k2.halt=k.halt/\k2.regs=k.regs/\k2.mem=k.mem/\k2.rob=k.rob/\k2.fetched=k.fetched/\k2.stop=k.stop/\k2.fetch=k.fetch/\(∀ r∈k2.bus,r.kind=3->r.line - r.line % 16+16<=k.mem.size) /\ ∀ p∈k2.stores,p∈k.stores)
  unfold drA at bo;split at bo
  .rename_i p r _ hs
   split at bo
   .subst bo
    refine ⟨a1,a2,a3,a4,a5,a6,a7,a8,a9,λx hx hk=>?_,a11⟩;rcases dv.1 (show x∈k1.bus++_ from hx) with hx|hx
    .rw [a10] at hx;exact h.busD x hx hk
    .obtain rfl:=dm.1 hx
     have hp:=h.puts p (a11 p (by rw [hs];exact ee ..));have:=JI hp h.m16;show dL p.addr - dL p.addr % 16+16<=k.mem.size;unfold dL;omega
   .exact same bo.symm
  .exact same bo.symm
 obtain ⟨a1,a2,a3,a4,a5,a6,a7,a8,a9,a10,a11⟩:=p2;have key:∀ k3:ak,drB k2=k3->k3.prog=k2.prog/\k3.retired=k2.retired/\k3.halt=k2.halt/\k3.regs=k2.regs/\k3.mem=k2.mem/\k3.rob=k2.rob/\k3.fetched=k2.fetched/\k3.stop=k2.stop/\k3.fetch=k2.fetch/\k3.stores=k2.stores /\ ∀ r∈k3.bus,r∈k2.bus\/r.kind=4:=λk3 bw=>by
  unfold drB at bw;split at bw
  .subst bw;exact ⟨rfl,rfl,rfl,rfl,rfl,rfl,rfl,rfl,rfl,rfl,λr h=>.inl h⟩
  .split at bw
   .subst bw
    refine ⟨rfl,rfl,rfl,rfl,rfl,rfl,rfl,rfl,rfl,rfl,λr h=>?_⟩;rcases dv.1 (show r∈k2.bus++_ from h) with h|h
    .exact .inl h
    .obtain rfl:=dm.1 h
     exact .inr F
   .subst bw;exact ⟨rfl,rfl,rfl,rfl,rfl,rfl,rfl,rfl,rfl,rfl,λr h=>.inl h⟩
 obtain ⟨k3,bw⟩:∃ k3:ak,drB k2=k3:=⟨_,rfl⟩;obtain ⟨b1,b2,b3,b4,b5,b6,b7,b8,b9,b10,b11⟩:=key k3 bw;rw [bw] at v1 v2 ⊢;refine h.side (b1.trans a1) (b2.trans a2) (b3.trans a3) (b4.trans a4) v1 v2 (by rw [b5,a5]) (λr hr hk=>?_) (λp hp=>?_) (by rw [b6,a6];exact h.robR) (λhn=>by rw [b6,a6];exact h.dead hn) (λh0=>(h.live h0).same (b6.trans a6) (b7.trans a7) (b8.trans a8) (b9.trans a9))
 .rcases b11 r hr with hr|hr
  .exact a10 r hr hk
  .omega
 .rw [b10] at hp
  exact h.puts p (a11 p hp)
def Inv.step (hR:jv prog S) (h:Inv prog S k):Inv prog S (fB k):=by
 unfold fB;split
 .have h0:Inv prog S { k with cycle:=k.cycle+1 }:=h.side F F F F (h.vok.of F F F F) (lG F F F F) F h.busD h.puts h.robR h.dead (λh0=>(h.live h0).same F F F F)
  have h1:=h0.ticks hR;obtain ⟨h2,hw⟩:=h1.works hR;obtain ⟨h3,_⟩:=h2.retires hR hw;exact ((h3.starts hR).1.enters.fetches).drains
 .exact h
end
end
section
open Go.RowKit Wd
def Kl : ∀ n:Nat,(List.replicate n ([]:List Wy)).flatten=[]
 | 0=>rfl
 | n+1=>by rw [List.replicate_succ,List.flatten_cons,Kl n];rfl
def Yw {n v}(h:ef (List.replicate n []) v):False:=by
 obtain ⟨k,ws,j,h1,h2⟩:=h;have:=qN (aQ h1);subst this;cases h2
def Mq (prog m):jv prog (ga prog m):=⟨λn=>rfl,qj ..,rfl⟩
def PM (m):(ou m).size % 16=0:=by
 show (Me.cleanL m.data.toList).toArray.size % 16=0;rw [m5,Me.cleanL_len];have:=Me.cleanN_cases (min 256 m.data.toList.length);omega
def Inv.new {c prog m}(hk:KOk 1 (gm c prog m))(hr:bj (bf c).ways (List.replicate (bf c).sets.toNat [])):Inv (prog.take 64) (ga (prog.take 64) m) (gm c prog m):=by
 refine ⟨rfl,rfl,λn hn=>absurd hn (Nat.not_lt_zero _),rfl,rfl,?_,⟨hr,λv hv=>(Yw hv).elim⟩,PM m,λr hr=>(by cases hr),λp hp=>(by cases hp),λe he=>oK,λhn=>absurd F hn,λ_=>?_⟩
 .show dZ (ou m) (bZ []++dY (List.replicate _ [])++[])=ou m
  unfold dY;rw [Kl];exact xS _
 .exact ⟨⟨0,rfl,λ_=>rfl⟩,λi e he=>oK,λi e he=>oK,λe he=>oK,λf hf=>(by cases hf)⟩
def qu (e:En):Prop:=ae e.inst.op=5->e.known=true->e.is=2\/e.is=3
def Ai : EP qu where
 go e h:=by
  unfold goE;split
  .exact h
  .rename_i h1
   split
   .exact λ_ _=>.inr F
   .intro h5 hk
    rcases h h5 hk with a|a
    .exact .inl a
    .exact .inr a
 take e b h:=by
  unfold gc;split
  .exact h
  .rename_i hc
   intro h5;exact absurd (show ae e.inst.op=5 from h5) (λh=>hc (.inl O))
 fill e h:=h
 start e a b h:=by
  unfold dX;split
  .exact h
  .rename_i hc
   have h0:e.is=0:=by
    by_cases h0:e.is=0
    .exact h0
    .exact absurd (.inl h0) hc
   dsimp only
   repeat' split
   all_goals
    intro h5 hk;rcases h h5 hk with a|a <;> omega
 addr e n a h:=by
  unfold eo;split
  .exact h
  .rename_i hc
   split
   all_goals
    intro h5;refine absurd (show ae e.inst.op=5 from h5) (λh=>hc (.inl ⟨by omega,by omega⟩))
 store e b h:=by
  unfold jm;split
  .exact h
  .rename_i hc
   intro h5;exact absurd (show ae e.inst.op=5 from h5) (λh=>hc (.inl O))
 cut e h:=h
 bus e h:=λ_ _=>.inl F
 enter no f prog:=by
  unfold dh;dsimp only
  repeat' split
  all_goals
   intro _ hk;cases hk
def j1h {e}(h:ae e.inst.op≠5):gu e=false:=by unfold gu;simp [h]
def NZ {e}(h:e.known=false):gu e=false:=by unfold gu;simp [h]
def eP.set {q:List En} (h:eP q) {w:En} (hw:gu w=false) (i:Nat):eP (q.set i w):=λe he=>by
 rcases po he with h1|rfl
 .exact h e h1
 .exact hw
def eP.start {k i e}(hr:Ready k i e)(hJ:aP qu k.rob)(h:eP k.rob):eP (startK k i).rob:=by
 by_cases h5:ae e.inst.op=5
 .have he:=hr.at_
  have hk:e.known=false:=by
   cases hk:e.known with
   | false=>rfl
   | true=>
    have:=hJ e (aQ he) h5 hk;have:=hr.is;omega
  unfold startK;rw [he];dsimp only;rw [Y O,Y O];refine h.set ?_ i;apply NZ;unfold dX;split
  .exact hk
  .dsimp only
   repeat' split
   all_goals exact hk
 .obtain ⟨w,h1,h2⟩:=Cg hr.at_
  rw [h2];exact h.set (j1h (by rw [h1];exact h5)) i
def Fn : ∀ (l:List Int) {k:ak},aP qu k.rob->eP k.rob->l.Pairwise (· < ·)->(∀ x∈l,0<=x /\ ∃ e,Ready k x.toNat e)->eP (l.foldl (λk i=>startK k i.toNat) k).rob
 | [],k,hJ,h,hp,hx=>h
 | x::l,k,hJ,h,hp,hx=>by
  obtain ⟨j2,e,he⟩:=hx x (ee ..)
  exact Fn l (k:=startK k x.toNat) (hJ.start Ai.tomV _) (h.start he hJ) (ry.1 hp).2 (λy hy=>by
   obtain ⟨hy0,f,hf⟩:=hx y (ez _ hy);have j4:=(ry.1 hp).1 y hy
   exact ⟨hy0,f,hf.start he.at_ he.is O⟩)
def IH (k):∀ x∈eK k.conf.width (zK k) (tC k) 0 0 (wj k) false,0<=x /\ ∃ e,Ready k x.toNat e:=λx hx=>by
 obtain ⟨j,h1,h2⟩:=(p5 (tC k) 0 0 (wj k) false).2 x hx;rw [jR] at h1;subst h1;refine ⟨by omega,?_⟩;rw [jt];refine Nt ?_;unfold tC at h2;rw [lQ] at h2;cases hj:(List.range k.rob.length)[j]? with
 | none=>rw [hj] at h2;cases h2
 | some y=>
  rw [hj] at h2;have:y=j:=by
   rw [List.getElem?_range IX] at hj;injection hj with hj;exact hj.symm
  subst this;injection h2
def eP.starts {k}(hJ:aP qu k.rob)(h:eP k.rob):eP (dJ k).rob:=by
 unfold dJ;split
 .exact h
 .exact Fn _ hJ h (p5 _ 0 0 _ false).1 (IH k)
def eP.enters {k}(h:eP k.rob):eP (fP k).rob:=by
 unfold fP;split
 .exact h
 .refine qd (P:=λk=>eP k.rob) (f:=iC) (λk hk=>?_) _ h
  unfold iC;split
  .exact hk
  .split
   .exact hk
   .intro e he
    rcases dv.1 he with he|he
    .exact hk e he
    .obtain rfl:=dm.1 he
     apply NZ;unfold dh;dsimp only
     repeat' split
     all_goals rfl
def eP.fetches {k}(h:eP k.rob):eP (fo k).rob:=by
 unfold fo;split
 .exact h
 .refine qd (P:=λk=>eP k.rob) (f:=iX) (λk hk=>?_) _ h
  unfold iX;dsimp only
  repeat' split
  all_goals first|exact hk|(show eP (dG _ _).2.rob;rw [(CE _ _).2.1];exact hk)
def j1i {prog}{S:Nat->Sq}{k}(hR:jv prog S)(h:Inv prog S k)(hJ:aP qu k.rob)(hr:kT k=true):eP (fB k).rob:=by
 unfold fB;rw [aa hr];have h0:Inv prog S { k with cycle:=k.cycle+1 }:=h.side F F F F (h.vok.of F F F F) (lG F F F F) F h.busD h.puts h.robR h.dead (λh0=>(h.live h0).same F F F F);have ma:aP qu ({ k with cycle:=k.cycle+1 }:ak).rob:=hJ;generalize ({ k with cycle:=k.cycle+1 }:ak)=k0 at *;have h1:=h0.ticks hR;obtain ⟨h2,hw⟩:=h1.works hR;obtain ⟨h3,mc⟩:=h2.retires hR hw;have j3:aP qu (eA (bQ (dr k0))).rob:=((ma.ticks Ai.tomV).works Ai.tomV).retires;rw [yO];exact ((mc.starts j3).enters).fetches
def cL (q:List En):List Int:=q.map (·.no)
def Qm (e):(goE e).no=e.no:=by unfold goE;(repeat' split) <;> rfl
def Li (e b):(gc e b).no=e.no:=by unfold gc;split <;> rfl
def j1k (e a b):(dX e a b).no=e.no:=by unfold dX;dsimp only;(repeat' split) <;> rfl
def L4 (e n a):(eo e n a).no=e.no:=by unfold eo;(repeat' split) <;> rfl
def j1l (e:En) (b:Nat):(jm e b).no=e.no:=by unfold jm;split <;> rfl
def j1m (k:ak) (x:Nat) (e:En):(fH k x e).no=e.no:=by
 unfold fH;split
 .rw [Li]
 .rfl
def Jl {q}{f:En->En}(h:∀ e,(f e).no=e.no):cL (q.map f)=cL q:=by
 unfold cL;rw [List.map_map];exact vJ λe _=>h e
def vi {q i e w}(he:q[i]?=some e)(h:w.no=e.no):cL (q.set i w)=cL q:=by
 unfold cL;rw [List.map_set];apply mQ;intro j;by_cases hij:i=j
 .subst hij
  rw [jQ (by rw [gq];exact (aK.1 he).1),lQ,he];show some w.no=some e.no;rw [h]
 .rw [mS hij]
def PR (k):cL (dr k).rob=cL k.rob:=by
 unfold dr;dsimp only;cases (bU k.bus).2 with
 | none=>rfl
 | some d=>
  dsimp only
  repeat' split
  all_goals first|rfl|exact Jl λe=>j1m _ _ e
def Z2 (regs:List Nat) (q:List En) (i:Nat):cL (storeAt regs q i)=cL q:=by
 unfold storeAt;split
 .rfl
 .rename_i e he
  repeat' split
  all_goals first|rfl|exact vi he (j1l _ _)
def KX (regs):∀ (l:List Nat) (q:List En),cL (l.foldl (storeAt regs) q)=cL q
 | [],q=>rfl
 | i::l,q=>by rw [qX];exact (KX regs l _).trans (Z2 regs q i)
def VC (k):(cL (bQ k).rob).Sublist (cL k.rob):=by
 have h4:cL (kp k.regs (k.rob.map goE))=cL k.rob:=(KX _ _ _).trans (Jl Qm);unfold bQ;split
 .exact Ae _
 .dsimp only
  generalize kp k.regs (k.rob.map goE)=q at *;split
  .rw [<- h4];exact Ae _
  .split
   .rw [<- h4];exact Ae _
   .rename_i i _ _ e he
    rw [<- h4];show (cL (jk q i e)).Sublist (cL q);have:cL (jk q i e)=cL (q.take (i+1)):=by
     unfold jk cL;rw [List.take_add_one,he]
     simp
    rw [this];unfold cL;exact (List.take_sublist _ _).map _
def O0 (k:ak) (i:Nat):cL (startK k i).rob=cL k.rob:=by
 have hl:∀ (k:ak),cL (fN k i).rob=cL k.rob:=λk=>by
  unfold fN;split
  .rfl
  .rename_i e he
   dsimp only
   repeat' split
   all_goals first|rfl|exact vi he (Li _ _)|exact vi he F
 unfold startK;split
 .rfl
 .rename_i e he
  dsimp only;split
  .exact vi he (L4 _ _ _)
  .split
   .exact (hl _).trans (vi he (L4 _ _ _))
   .exact vi he (j1k _ _ _)
def Jz : ∀ (l:List Int) (k:ak),cL (l.foldl (λk i=>startK k i.toNat) k).rob=cL k.rob
 | [],k=>rfl
 | i::l,k=>by rw [qX];exact (Jz l _).trans (O0 k _)
def SB (k):cL (dJ k).rob=cL k.rob:=by
 unfold dJ;split
 .rfl
 .exact Jz _ _
structure eN (k:ak):Prop where
 asc:(cL k.rob).Pairwise (· < ·)
 lt:∀ n∈cL k.rob,n<k.next
 len:((cL k.rob).length:Int)<=k.conf.rob
def eN.sub {k k'}(h:eN k)(hs:(cL k'.rob).Sublist (cL k.rob))(hn:k'.next=k.next)(hc:k'.conf=k.conf):eN k' :=
 ⟨h.asc.sublist hs,λn hm=>by rw [hn];exact h.lt n (hs.subset hm),by rw [hc];have:=hs.length_le;have:=h.len;omega⟩
def eN.same {k k'}(h:eN k)(hs:cL k'.rob=cL k.rob)(hn:k'.next=k.next)(hc:k'.conf=k.conf):eN k':=h.sub (by rw [hs];exact Ae _) hn hc
def PW (k):(dr k).next=k.next:=by
 unfold dr;dsimp only;cases (bU k.bus).2 with
 | none=>rfl
 | some d=>
  dsimp only
  repeat' split
  all_goals rfl
def j1t (k):(bQ k).next=k.next:=by
 unfold bQ;dsimp only
 repeat' split
 all_goals rfl
def j1u (k:ak) (i:Nat):(startK k i).next=k.next:=by
 have hl:∀ (k:ak),(fN k i).next=k.next:=λk=>by
  unfold fN;dsimp only
  repeat' split
  all_goals rfl
 unfold startK;dsimp only
 repeat' split
 all_goals first|rfl|exact hl _
def Nf : ∀ (l:List Int) (k:ak),(l.foldl (λk i=>startK k i.toNat) k).next=k.next
 | [],k=>rfl
 | i::l,k=>by rw [qX];exact (Nf l _).trans (j1u k _)
def j1v (k):(dJ k).next=k.next:=by
 unfold dJ;split
 .rfl
 .exact Nf _ _
def VR (k:ak) (w:Nat):(dG k w).2.next=k.next:=by
 unfold dG
 repeat' split
 all_goals rfl
def eN.retire {k}(h:eN k):eN (dw k).1:=by
 by_cases hh:k.halt=0
 .cases eF:k.rob with
  | nil=>
   have e:dw k=(k,false):=by unfold dw;rw [Y O,eF]
   rw [e];exact h
  | cons e r=>
   by_cases hi:e.is=3
   .rw [FL hh eF hi]
    split
    .exact h.sub (List.nil_sublist _) rfl rfl
    .split
     .exact h
     .refine h.sub ?_ ?_ ?_
      .show (cL r).Sublist (cL k.rob)
       rw [eF];exact List.sublist_cons_self _ _
      .show (rtC (rtB k (aY e)) e (aY e)).next=k.next
       unfold rtC rtB
       repeat' split
       all_goals rfl
      .show (rtC (rtB k (aY e)) e (aY e)).conf=k.conf
       unfold rtC rtB
       repeat' split
       all_goals rfl
   .have e':dw k=(k,false):=by unfold dw;rw [Y O,eF];dsimp only;rw [aa hi]
    rw [e'];exact h
 .have e:dw k=(k,false):=by unfold dw;rw [aa hh]
  rw [e];exact h
def Z9 (no:Int) (f:Fe) (prog:List Nat):(dh no f prog).no=no:=by
 unfold dh;dsimp only
 repeat' split
 all_goals rfl
def eN.enter {k}(h:eN k):eN (iC k).1:=by
 unfold iC;split
 .exact h
 .rename_i hl
  split
  .exact h
  .rename_i f r hf
   have hn:cL (k.rob++[dh k.next f k.prog])=cL k.rob++[k.next]:=by
    unfold cL;rw [nM,List.map_singleton,Z9]
   refine ⟨?_,λn hm=>?_,?_⟩
   .show (cL (k.rob++[dh k.next f k.prog])).Pairwise _
    rw [hn];refine List.pairwise_append.2 ⟨h.asc,List.pairwise_singleton _ _,λa ha b hb=>?_⟩;obtain rfl:=dm.1 hb;exact h.lt a ha
   .have en:n∈cL (k.rob++[dh k.next f k.prog]):=hm
    rw [hn] at en;show n<k.next+1
    rcases dv.1 en with en|en
    .have:=h.lt n en;omega
    .obtain rfl:=dm.1 en;omega
   .show ((cL (k.rob++[dh k.next f k.prog])).length:Int)<=k.conf.rob
    rw [hn,ea,mO];have:(cL k.rob).length=k.rob.length:=gq _;omega
def eN.fetch {k}(h:eN k):eN (iX k).1:=by
 refine h.same ?_ ?_ (Ng _)
 .unfold iX
  dsimp only
  repeat' split
  all_goals first|rfl|(show cL (dG _ _).2.rob=_;rw [(CE _ _).2.1])
 .unfold iX
  dsimp only
  repeat' split
  all_goals first|rfl|(show (dG _ _).2.next=_;rw [VR])
def SK (k):(lu k).next=k.next:=by
 rw [EZ];have h1:∀ (k:ak),(drB k).next=k.next:=λk=>by
  unfold drB
  repeat' split
  all_goals rfl
 have h2:∀ (k:ak) (b:Bool),(drA k b).next=k.next:=λk b=>by
  unfold drA
  repeat' split
  all_goals rfl
 rw [h1,h2]
def eN.step {k}(h:eN k):eN (fB k):=by
 unfold fB;split
 .have h0:eN { k with cycle:=k.cycle+1 }:=h.same F F F
  generalize ({ k with cycle:=k.cycle+1 }:ak)=k0 at *;have h1:eN (dr k0):=h0.same (PR _) (PW _) (J2 _);have h2:eN (bQ (dr k0)):=h1.sub (VC _) (j1t _) (JO _);have h3:eN (eA (bQ (dr k0))):=qd (P:=eN) (f:=dw) (λk hk=>hk.retire) _ h2;have h4:eN (dJ (eA (bQ (dr k0)))):=h3.same (SB _) (j1v _) (Lz _);have h5:eN (fP (dJ (eA (bQ (dr k0))))):=by
   unfold fP;split
   .exact h4
   .exact qd (P:=eN) (f:=iC) (λk hk=>hk.enter) _ h4
  have h6:eN (fo (fP (dJ (eA (bQ (dr k0)))))):=by
   generalize fP (dJ (eA (bQ (dr k0))))=k5 at *;unfold fo;split
   .exact h5
   .exact qd (P:=eN) (f:=iX) (λk hk=>hk.fetch) _ h5
  exact h6.same (by rw [yO]) (SK _) (Gr _)
 .exact h
def eN.new {c prog m}(hk:KOk 1 (gm c prog m)):eN (gm c prog m):=⟨List.Pairwise.nil,λn hn=>(by cases hn),by have hb:=(ru hk.conf).rob;show (0:Int)<=(gm c prog m).conf.rob;omega⟩
structure cm (e:En):Prop where
 lo:0<=e.is
 hi:e.is<=3
 one:e.is=1->0<e.left
 rest:e.is≠1->e.left=0
 two:e.is=2->ae e.inst.op=3/\e.known=true
 halt:e.halt≠0->e.is=3\/(e.is=1/\ae e.inst.op=5/\e.halt=3)
 enc:kG e.inst=false->e.halt=1\/e.halt=2
def cm.stands {e}(h:cm e):ew e=true:=by
 obtain ⟨a,b,c,d,f,g,i⟩:=h;unfold ew;rw [Y O,Y (λhh=>by rcases hh with ⟨h1,h2⟩|⟨h1,h2⟩;have:=c h1;omega;exact h2 (d h1))];rw [Y (λhh=>by obtain ⟨h1,h2⟩:=hh;obtain ⟨f1,f2⟩:=f h1;rcases h2 with h2|h2;exact h2 f1;rw [f2] at h2;cases h2)];rw [Y (λhh=>by obtain ⟨h1,h2,h3⟩:=hh;rcases g h1 with g|g;exact h2 g;exact h3 g)];split
 .rename_i he;simpa using i he
 .rfl
def cm.go {e}(h:cm e):cm (goE e):=by
 obtain ⟨a,b,c,d,f,g,i⟩:=h;unfold goE;split
 .exact ⟨a,b,c,d,f,g,i⟩
 .rename_i h1
  split
  .exact ⟨by show (0:Int)<=3;omega,by show (3:Int)<=3;omega,λh=>absurd (show (3:Int)=1 from h) ag,λ_=>rfl,λh=>absurd (show (3:Int)=2 from h) ag,λ_=>.inl F,i⟩
  .exact ⟨a,b,λ_=>by show 0<e.left - 1;omega,λh=>absurd (show e.is=1 by omega) h,f,g,i⟩
def cm.take {e}(h:cm e)(x):cm (gc e x):=by
 unfold gc;split
 .exact h
 .rename_i hc
  obtain ⟨a,b,c,d,f,g,i⟩:=h;have h02:e.is=0\/e.is=2:=by
   by_cases h0:e.is=0
   .exact .inl h0
   .by_cases h2:e.is=2
    .exact .inr h2
    .exact absurd (.inr (.inr ⟨h0,h2⟩)) hc
  exact ⟨by show (0:Int)<=1;omega,by show (1:Int)<=3;omega,λ_=>by show (0:Int)<1;omega,λh=>absurd F h,λh=>absurd (show (1:Int)=2 from h) ag,λhh=>by rcases g hh with g|⟨g,_⟩ <;> omega,i⟩
def cm.fill {e}(h:cm e):cm { e with filled:=true }:=⟨h.lo,h.hi,h.one,h.rest,h.two,h.halt,h.enc⟩
def cm.cut {e}(h:cm e):cm { e with guess:=e.next }:=⟨h.lo,h.hi,h.one,h.rest,h.two,h.halt,h.enc⟩
def cm.store {e:En} (h:cm e) (x:Nat):cm (jm e x):=by
 unfold jm;split
 .exact h
 .rename_i hc
  have h0:e.is=0:=by
   by_cases h0:e.is=0
   .exact h0
   .exact absurd (.inr (.inr h0)) hc
  exact ⟨by show (0:Int)<=3;omega,by show (3:Int)<=3;omega,λh=>absurd (show (3:Int)=1 from h) ag,λ_=>h.rest O,λh=>absurd (show (3:Int)=2 from h) ag,λ_=>.inl F,h.enc⟩
def cm.bus {e}(h:cm e)(h0:e.is=0)(h3:ae e.inst.op=3)(hk:e.known=true):cm { e with is:=2 } :=
 ⟨by show (0:Int)<=2;omega,by show (2:Int)<=3;omega,λh=>absurd (show (2:Int)=1 from h) ag,λ_=>h.rest O,λ_=>⟨h3,hk⟩,λhh=>by rcases h.halt hh with g|⟨g,_⟩ <;> omega,h.enc⟩
def cm.addr {e}(h:cm e)(n a):cm (eo e n a):=by
 unfold eo;split
 .exact h
 .rename_i hc
  have h0:e.is=0:=by
   by_cases h0:e.is=0
   .exact h0
   .exact absurd (.inr (.inl h0)) hc
  have hh:e.halt=0:=by
   by_cases hh:e.halt=0
   .exact hh
   .rcases h.halt hh with g|⟨g,_⟩ <;> omega
  have he:kG e.inst=true:=by
   cases he:kG e.inst with
   | true=>rfl
   | false=>have:=h.enc he;omega
  split
  .exact ⟨h.lo,h.hi,h.one,h.rest,λh2=>absurd (show e.is=2 from h2) O,h.halt,h.enc⟩
  .exact ⟨by show (0:Int)<=3;omega,by show (3:Int)<=3;omega,λh=>absurd (show (3:Int)=1 from h) ag,λ_=>h.rest O,λh=>absurd (show (3:Int)=2 from h) ag,λ_=>.inl F,λhf=>by rw [show kG e.inst=false from hf] at he;cases he⟩
def cm.start {e}(h:cm e)(a b)(ht:ae e.inst.op=2->0<eJ e.inst.op a b):cm (dX e a b):=by
 unfold dX;split
 .exact h
 .rename_i hc
  have h0:e.is=0:=by
   by_cases h0:e.is=0
   .exact h0
   .exact absurd (.inl h0) hc
  have hh:e.halt=0:=by
   by_cases hh:e.halt=0
   .exact hh
   .rcases h.halt hh with g|⟨g,_⟩ <;> omega
  have he:kG e.inst=true:=by
   cases he:kG e.inst with
   | true=>rfl
   | false=>have:=h.enc he;omega
  have key:∀ f:En,f.is=1->f.inst=e.inst->0<f.left->(f.halt=0\/(ae e.inst.op=5/\f.halt=3))->cm f:=λf f1 f2 f3 f4=>
   ⟨by omega,by omega,λ_=>f3,λh=>absurd f1 h,λh=>by omega,λhf=>by
    rcases f4 with f4|⟨f4,f5⟩
    .exact absurd f4 hf
    .exact .inr ⟨f1,by rw [f2];exact f4,f5⟩,λhf=>by rw [f2,he] at hf;cases hf⟩
  dsimp only;split
  .exact key _ rfl rfl (by show (0:Int)<3;omega) (.inl hh)
  .split
   .rename_i h2
    exact key _ F F (ht h2) (.inl hh)
   .split
    .rename_i h5
     split
     .exact key _ rfl rfl Ew (.inl hh)
     .exact key _ rfl rfl Ew (.inr ⟨h5,rfl⟩)
    .exact key _ rfl rfl Ew (.inl hh)
def L3 : ∀ (f:Nat) {x y:Nat},x<=y->iR f x<=iR f y
 | 0,x,y,h=>aM _
 | f+1,x,y,h=>by
  unfold iR;have:=L3 f (show x / 2<=y / 2 by omega);split
  .exact mB _
  .rw [Y O]
   omega
def Ya {op a b}(h:ae op=2):0<eJ op a b:=by
 have ho:42<=op/\op<=45:=by
  unfold ae at h
  repeat' split at h
  all_goals omega
 unfold eJ;rw [Y O];split
 .omega
 .rename_i hc
  have:=L3 32 (show aR op b<=aR op a by have:=λh=>hc (.inr h);omega);omega
def cm.startK {k i e}(hr:Ready k i e)(h:aP cm k.rob):aP cm (startK k i).rob:=by
 have he:=hr.at_;have hil:=(aK.1 he).1;have hs:=h e (aQ he);unfold Proofs.YtgnomadgnciifaaGreatDoor.startK;rw [he];dsimp only;split
 .exact h.set (hs.addr _ _) i
 .split
  .rename_i h3
   have ha:=hs.addr k.mem.size (eC k.rob k.regs i).1;have h1:aP cm (k.rob.set i (eo e k.mem.size (eC k.rob k.regs i).1)):=h.set ha i;have hin:=xV e k.mem.size (eC k.rob k.regs i).1;have h0:(eo e k.mem.size (eC k.rob k.regs i).1).known=true->(eo e k.mem.size (eC k.rob k.regs i).1).is=0:=by
    have hi:=hr.is;unfold eo;split
    .exact λ_=>hi
    .rename_i hc
     split
     .exact λ_=>hi
     .exact λhk=>absurd (.inr (.inr hk)) hc
   have hg:(k.rob.set i (eo e k.mem.size (eC k.rob k.regs i).1))[i]?=some (eo e k.mem.size (eC k.rob k.regs i).1):=jQ hil;generalize eo e k.mem.size (eC k.rob k.regs i).1=w at *;unfold fN;dsimp only;rw [hg];dsimp only;split
   .exact h1
   .rename_i ik
    have j6:w.known=true:=by simpa using ik
    have hb:cm { w with is:=2 }:=ha.bus (h0 j6) (by rw [hin];exact h3) j6
    repeat' split
    all_goals first|exact h1|exact h1.set (ha.take _) i|exact h1.set hb i
  .exact h.set (hs.start _ _ Ya) i
def IJ : ∀ (l:List Int) {k:ak},aP cm k.rob->l.Pairwise (· < ·)->(∀ x∈l,0<=x /\ ∃ e,Ready k x.toNat e)->aP cm (l.foldl (λk i=>Proofs.YtgnomadgnciifaaGreatDoor.startK k i.toNat) k).rob
 | [],k,h,hp,hx=>h
 | x::l,k,h,hp,hx=>by
  obtain ⟨j2,e,he⟩:=hx x (ee ..)
  exact IJ l (k:=Proofs.YtgnomadgnciifaaGreatDoor.startK k x.toNat) (cm.startK he h) (ry.1 hp).2 (λy hy=>by
   obtain ⟨hy0,f,hf⟩:=hx y (ez _ hy);have j4:=(ry.1 hp).1 y hy
   exact ⟨hy0,f,hf.start he.at_ he.is O⟩)
def cm.filled {e:En} (h:cm e) (k:ak) (x:Nat):cm (fH k x e):=by
 unfold fH;split
 .exact h.fill.take _
 .exact h
def TS {k}(h:aP cm k.rob):aP cm (dr k).rob:=by
 unfold dr;dsimp only;cases (bU k.bus).2 with
 | none=>exact h
 | some d=>
  dsimp only
  repeat' split
  all_goals first|exact h|exact h.map λe he=>he.filled _ _
def Po {regs:List Nat} {q:List En} (h:aP cm q) (i:Nat):aP cm (storeAt regs q i):=by
 unfold storeAt;split
 .exact h
 .rename_i e he
  repeat' split
  all_goals first|exact h|exact h.set ((h e (aQ he)).store _) i
def Fm {regs}:∀ (l:List Nat) {q:List En},aP cm q->aP cm (l.foldl (storeAt regs) q)
 | [],q,h=>h
 | i::l,q,h=>Fm (regs:=regs) l (Po h i)
def j2c {k}(h:aP cm k.rob):aP cm (bQ k).rob:=by
 have h4:aP cm (kp k.regs (k.rob.map goE)):=Fm _ (h.map λe he=>he.go);unfold bQ;split
 .exact h
 .dsimp only
  generalize kp k.regs (k.rob.map goE)=q at *;split
  .exact h4
  .split
   .exact h4
   .rename_i i _ _ e he
    exact aP.app (λr hr=>h4 r (jE hr)) (h4 e (aQ he)).cut
def j2d {k}(h:aP cm k.rob):aP cm (dJ k).rob:=by
 unfold dJ;split
 .exact h
 .exact IJ _ h (p5 _ 0 0 _ false).1 (IH k)
def P9 {k}(h:aP cm k.rob)(he:∀ no f,cm (dh no f (dJ (eA (bQ (dr { k with cycle:=k.cycle+1 })))).prog)):aP cm (fB k).rob:=by
 unfold fB;split
 .have h0:aP cm ({ k with cycle:=k.cycle+1 }:ak).rob:=h
  rw [yO];exact ((j2d ((j2c (TS h0)).retires)).enters he).fetches
 .exact h
def WN {no f prog}(hd:∀ w i,df w=some i->kG i=true):cm (dh no f prog):=by
 have key:∀ e:En,e.left=0->(e.is=3\/(e.is=0/\e.halt=0))->(kG e.inst=true\/e.halt=1\/e.halt=2)->cm e:=λe h1 h2 h3=>
  ⟨by omega,by omega,λh=>by omega,λ_=>h1,λh=>by omega,λh=>by rcases h2 with a|⟨a,b⟩;exact .inl a;exact absurd b h,λh=>by
   rcases h3 with a|a
   .rw [a] at h;cases h
   .exact a⟩
 unfold dh;dsimp only;split
 .exact key _ rfl (.inl F) (.inr (.inl F))
 .split
  .exact key _ rfl (.inl F) (.inr (.inr F))
  .rename_i i hi
   have:=hd _ i hi;split
   .exact key _ rfl (.inl F) (.inl this)
   .split
    .exact key _ rfl (.inl F) (.inl this)
    .exact key _ rfl (.inr ⟨rfl,rfl⟩) (.inl this)
def Id (w a s v i)(hi:i<32)(h:a+s<=32):(bu w a s v).testBit i=if a<=i/\i<a+s then v.testBit (i - a) else w.testBit i:=by
 unfold bu;rw [sm,jW,jW,xU _ _ (xP a s),LM a s i h,show (4294967296:Nat)=2 ^ 32 from rfl,uK,w8];by_cases hc:a<=i/\i<a+s
 .simp [hc,hi]
 .simp [hc,hi]
def SH (w s i)(hi:i<32)(h1:1<=s)(h:s<=32):(cz w s).testBit i=if i<s then w.testBit i else w.testBit (s - 1):=by
 have hb:((w / 2 ^ (s - 1)) &&& 1=1)↔w.testBit (s - 1)=true:=by
  rw [xG,Nat.and_one_is_mod];simp
 have hs:2 ^ s - 1<4294967296:=by
  have:=nT (n:=2) O h;have e:(2:Nat) ^ 32=4294967296:=rfl;omega
 unfold cz;by_cases hc:w.testBit (s - 1)=true
 .rw [aa (hb.2 hc),sm,jW,xU _ _ hs,qA]
  by_cases gY:i<s
  .simp [gY]
  .simp [gY,hc,hi]
 .rw [Y (λe=>hc (hb.1 e)),jW,qA]
  by_cases gY:i<s
  .simp [gY]
  .simp [gY,hc]
def Alike (x y:Nat):Prop:=∀ j,j<32->x.testBit j=y.testBit j
def Alike.field {x y}(h:Alike x y)(a s):aV x a s=aV y a s:=by
 unfold aV;split
 .rename_i hf
  rw [oD] at hf;refine oo λi=>?_
  rw [qH,qH];by_cases hi:i<s.toNat
  .rw [h (a.toNat+i) O]
  .simp [hi]
 .rfl
def Alike.gather {x y}(h:Alike x y)(ps:List (Int × Int)):bW x ps=bW y ps:=by
 unfold bW;congr 1;funext s p;rw [h.field]
def Alike.read {x y:Nat} (h:Alike x y) (op:Int):bn op x=bn op y:=by
 unfold bn;dsimp only;rw [h.gather,h.field,h.field,h.field]
def fI (w:Nat) (a s:Nat) (h:ey a s=true):aV w a s=aD w a s:=by unfold aV;rw [aa h];rfl
def sI (w:Nat) (a s:Nat) (v:Nat) (h:ey a s=true):aw w a s v=bu w a s v:=by unfold aw;rw [aa h];rfl
def gD (w a s j)(h:j<s):(aD w a s).testBit j=w.testBit (a+j):=by rw [qH];simp [h]
def dN (w a s v i)(hi:i<32)(h:a+s<=32)(hc:a<=i/\i<a+s):(bu w a s v).testBit i=v.testBit (i - a):=by rw [Id _ _ _ _ _ hi h,aa hc]
def cN (w a s v i)(hi:i<32)(h:a+s<=32)(hc:¬ (a<=i/\i<a+s)):(bu w a s v).testBit i=w.testBit i:=by rw [Id _ _ _ _ _ hi h,Y hc]
def ni (w s i)(hi:i<s)(h:s<=32):(cz w s).testBit i=w.testBit i:=by rw [SH _ _ _ O O h,aa hi]
def qx {w Y' C:Nat} (h:w &&& Y'=C) (j:Nat) (E:Y'.testBit j=true):C.testBit j=w.testBit j:=by rw [<- h,jW,E,pG]
def uY {x y:Nat} (j:Nat) (hy:y.testBit j=false):(x ||| y).testBit j=x.testBit j:=by rw [sm,hy,pE]
def mK {w Y' C:Nat} (h:w &&& Y'=C) (j:Nat) (E:Y'.testBit j=false):C.testBit j=false:=by rw [<- h,jW,E,qr]
def my {x y:Nat} (j:Nat) (hx:x.testBit j=false):(x ||| y).testBit j=y.testBit j:=by rw [sm,hx,ui]
def mH (x k j)(h:k<=j)(jX:j<32):(x * 2 ^ k % 4294967296).testBit j=x.testBit (j - k):=by
 rw [show (4294967296:Nat)=2 ^ 32 from rfl,uK,w8];simp [h,jX]
def r5 (w a s)(h:s<=32):un ((aD w a s:Nat):Int)=aD w a s:=by
 have:=Gx (w:=w) (a:=a) h;unfold un;omega
def ZG {w C op}(hf:aI op=1)(hC:w &&& 4261441663=C)(hc:ci[op.toNat]?.getD 0=C):Alike (fk (bn op w)) w:=by
 have e:fk (bn op w)=(bu (bu (bu (C ||| 0) 7 5 (aD w 7 5)) 15 5 (aD w 15 5)) 20 5 (aD w 20 5)):=by
  unfold fk bn;dsimp only;rw [hf,hc];simp only [cH,av];show (aw (aw (aw (C ||| 0) (7:Nat) (5:Nat) (un (aV w (7:Nat) (5:Nat):Nat))) (15:Nat) (5:Nat) (un (aV w (15:Nat) (5:Nat):Nat))) (20:Nat) (5:Nat) (un (aV w (20:Nat) (5:Nat):Nat)))=_;simp only [r5 _ _ 5 ag,fI _ 15 5 F,fI _ 20 5 F,fI _ 7 5 F,sI _ 15 5 _ F,sI _ 20 5 _ F,sI _ 7 5 _ F]
 intro j hj;rw [e];by_cases r20:20<=j/\j<25
 .rw [dN _ _ _ _ _ hj O r20,gD _ _ _ _ O,show 20+(j - 20)=j by omega]
 .rw [cN _ _ _ _ _ hj O r20]
  by_cases r15:15<=j/\j<20
  .rw [dN _ _ _ _ _ hj O r15,gD _ _ _ _ O,show 15+(j - 15)=j by omega]
  .rw [cN _ _ _ _ _ hj O r15]
   by_cases r7:7<=j/\j<12
   .rw [dN _ _ _ _ _ hj O r7,gD _ _ _ _ O,show 7+(j - 7)=j by omega]
   .rw [cN _ _ _ _ _ hj O r7]
    rw [Nat.or_zero];exact qx hC j ((by decide:∀ j:Fin 32,¬ (20<=j.val/\j.val<25) -> ¬ (15<=j.val/\j.val<20) -> ¬ (7<=j.val/\j.val<12)->Nat.testBit 4261441663 j.val=true) ⟨j,hj⟩ r20 r15 r7)
def TP {w C op}(hf:aI op=2)(hC:w &&& 28799=C)(hc:ci[op.toNat]?.getD 0=C):Alike (fk (bn op w)) w:=by
 have e:fk (bn op w)=(bu (bu (C ||| (bu 0 20 12 ((cz ((bu 0 0 12 (aD w 20 12)) * 2 ^ 0 % 4294967296) 12) / 2 ^ 0))) 7 5 (aD w 7 5)) 15 5 (aD w 15 5)):=by
  unfold fk bn;dsimp only;rw [hf,hc];simp only [cH,av];show (aw (aw (C ||| (aw 0 (20:Nat) (12:Nat) ((cJ ((aw 0 (0:Nat) (12:Nat) (aV w (20:Nat) (12:Nat))) * 2 ^ 0 % 4294967296) ((12:Nat):Int)) / 2 ^ 0))) (7:Nat) (5:Nat) (un (aV w (7:Nat) (5:Nat):Nat))) (15:Nat) (5:Nat) (un (aV w (15:Nat) (5:Nat):Nat)))=_;simp only [r5 _ _ 5 ag,fI _ 15 5 F,fI _ 20 12 F,fI _ 7 5 F,sI _ 0 12 _ F,sI _ 15 5 _ F,sI _ 20 12 _ F,sI _ 7 5 _ F,sE _ 12 ag ag]
 intro j hj;rw [e];by_cases r15:15<=j/\j<20
 .rw [dN _ _ _ _ _ hj O r15,gD _ _ _ _ O,show 15+(j - 15)=j by omega]
 .rw [cN _ _ _ _ _ hj O r15]
  by_cases r7:7<=j/\j<12
  .rw [dN _ _ _ _ _ hj O r7,gD _ _ _ _ O,show 7+(j - 7)=j by omega]
  .rw [cN _ _ _ _ _ hj O r7]
   by_cases p20:20<=j/\j<32
   .have hz:Nat.testBit C j=false:=mK hC j ((by decide:∀ j:Fin 32,¬ (15<=j.val/\j.val<20) -> ¬ (7<=j.val/\j.val<12)->20<=j.val/\j.val<32->Nat.testBit 28799 j.val=false) ⟨j,hj⟩ r15 r7 p20)
    rw [my j hz,dN _ _ _ _ _ hj O p20,fu,ni _ _ _ O O,mH _ _ _ O O,dN _ _ _ _ _ O O O,gD _ _ _ _ O,show 20+((j - 20)+0 - 0 - 0)=j by omega]
   .skip
    rw [uY j Fr];exact qx hC j ((by decide:∀ j:Fin 32,¬ (15<=j.val/\j.val<20) -> ¬ (7<=j.val/\j.val<12) -> ¬ (20<=j.val/\j.val<32)->Nat.testBit 28799 j.val=true) ⟨j,hj⟩ r15 r7 p20)
def UQ {w C op}(hf:aI op=3)(hC:w &&& 4261441663=C)(hc:ci[op.toNat]?.getD 0=C):Alike (fk (bn op w)) w:=by
 have e:fk (bn op w)=(bu (bu (C ||| (bu 0 20 5 (((bu 0 0 5 (aD w 20 5)) * 2 ^ 0 % 4294967296) / 2 ^ 0))) 7 5 (aD w 7 5)) 15 5 (aD w 15 5)):=by
  unfold fk bn;dsimp only;rw [hf,hc];simp only [cH,av];show (aw (aw (C ||| (aw 0 (20:Nat) (5:Nat) (((aw 0 (0:Nat) (5:Nat) (aV w (20:Nat) (5:Nat))) * 2 ^ 0 % 4294967296) / 2 ^ 0))) (7:Nat) (5:Nat) (un (aV w (7:Nat) (5:Nat):Nat))) (15:Nat) (5:Nat) (un (aV w (15:Nat) (5:Nat):Nat)))=_;simp only [r5 _ _ 5 ag,fI _ 15 5 F,fI _ 20 5 F,fI _ 7 5 F,sI _ 0 5 _ F,sI _ 15 5 _ F,sI _ 20 5 _ F,sI _ 7 5 _ F,Nat.or_zero]
 intro j hj;rw [e];by_cases r15:15<=j/\j<20
 .rw [dN _ _ _ _ _ hj O r15,gD _ _ _ _ O,show 15+(j - 15)=j by omega]
 .rw [cN _ _ _ _ _ hj O r15]
  by_cases r7:7<=j/\j<12
  .rw [dN _ _ _ _ _ hj O r7,gD _ _ _ _ O,show 7+(j - 7)=j by omega]
  .rw [cN _ _ _ _ _ hj O r7]
   by_cases p20:20<=j/\j<25
   .have hz:Nat.testBit C j=false:=mK hC j ((by decide:∀ j:Fin 32,¬ (15<=j.val/\j.val<20) -> ¬ (7<=j.val/\j.val<12)->20<=j.val/\j.val<25->Nat.testBit 4261441663 j.val=false) ⟨j,hj⟩ r15 r7 p20)
    rw [my j hz,dN _ _ _ _ _ hj O p20,fu,mH _ _ _ O O,dN _ _ _ _ _ O O O,gD _ _ _ _ O,show 20+((j - 20)+0 - 0 - 0)=j by omega]
   .skip
    rw [uY j Fr];exact qx hC j ((by decide:∀ j:Fin 32,¬ (15<=j.val/\j.val<20) -> ¬ (7<=j.val/\j.val<12) -> ¬ (20<=j.val/\j.val<25)->Nat.testBit 4261441663 j.val=true) ⟨j,hj⟩ r15 r7 p20)
def Ts {w C op}(hf:aI op=4)(hC:w &&& 28799=C)(hc:ci[op.toNat]?.getD 0=C):Alike (fk (bn op w)) w:=by
 have e:fk (bn op w)=(bu (bu (C ||| (bu (bu 0 7 5 ((cz ((bu (bu 0 0 5 (aD w 7 5)) 5 7 (aD w 25 7)) * 2 ^ 0 % 4294967296) 12) / 2 ^ 0)) 25 7 (((cz ((bu (bu 0 0 5 (aD w 7 5)) 5 7 (aD w 25 7)) * 2 ^ 0 % 4294967296) 12) / 2 ^ 0) / 2 ^ 5))) 15 5 (aD w 15 5)) 20 5 (aD w 20 5)):=by
  unfold fk bn;dsimp only;rw [hf,hc];simp only [cH,av];show (aw (aw (C ||| (aw (aw 0 (7:Nat) (5:Nat) ((cJ ((aw (aw 0 (0:Nat) (5:Nat) (aV w (7:Nat) (5:Nat))) (5:Nat) (7:Nat) (aV w (25:Nat) (7:Nat))) * 2 ^ 0 % 4294967296) ((12:Nat):Int)) / 2 ^ 0)) (25:Nat) (7:Nat) (((cJ ((aw (aw 0 (0:Nat) (5:Nat) (aV w (7:Nat) (5:Nat))) (5:Nat) (7:Nat) (aV w (25:Nat) (7:Nat))) * 2 ^ 0 % 4294967296) ((12:Nat):Int)) / 2 ^ 0) / 2 ^ 5))) (15:Nat) (5:Nat) (un (aV w (15:Nat) (5:Nat):Nat))) (20:Nat) (5:Nat) (un (aV w (20:Nat) (5:Nat):Nat)))=_;simp only [r5 _ _ 5 ag,fI _ 15 5 F,fI _ 20 5 F,fI _ 25 7 F,fI _ 7 5 F,sI _ 0 5 _ F,sI _ 15 5 _ F,sI _ 20 5 _ F,sI _ 25 7 _ F,sI _ 5 7 _ F,sI _ 7 5 _ F,sE _ 12 ag ag]
 intro j hj;rw [e];by_cases r20:20<=j/\j<25
 .rw [dN _ _ _ _ _ hj O r20,gD _ _ _ _ O,show 20+(j - 20)=j by omega]
 .rw [cN _ _ _ _ _ hj O r20]
  by_cases r15:15<=j/\j<20
  .rw [dN _ _ _ _ _ hj O r15,gD _ _ _ _ O,show 15+(j - 15)=j by omega]
  .rw [cN _ _ _ _ _ hj O r15]
   by_cases p25:25<=j/\j<32
   .have hz:Nat.testBit C j=false:=mK hC j ((by decide:∀ j:Fin 32,¬ (20<=j.val/\j.val<25) -> ¬ (15<=j.val/\j.val<20)->25<=j.val/\j.val<32->Nat.testBit 28799 j.val=false) ⟨j,hj⟩ r20 r15 p25)
    rw [my j hz,dN _ _ _ _ _ hj O p25,fu,fu,ni _ _ _ O O,mH _ _ _ O O,dN _ _ _ _ _ O O O,gD _ _ _ _ O,show 25+(((j - 25)+5)+0 - 0 - 5)=j by omega]
   .skip
    by_cases p7:7<=j/\j<12
    .have hz:Nat.testBit C j=false:=mK hC j ((by decide:∀ j:Fin 32,¬ (20<=j.val/\j.val<25) -> ¬ (15<=j.val/\j.val<20) -> ¬ (25<=j.val/\j.val<32)->7<=j.val/\j.val<12->Nat.testBit 28799 j.val=false) ⟨j,hj⟩ r20 r15 p25 p7)
     rw [my j hz,cN _ _ _ _ _ hj O p25,dN _ _ _ _ _ hj O p7,fu,ni _ _ _ O O,mH _ _ _ O O,cN _ _ _ _ _ O O O,dN _ _ _ _ _ O O O,gD _ _ _ _ O,show 7+((j - 7)+0 - 0 - 0)=j by omega]
    .skip
     rw [uY j (by rw [cN _ _ _ _ _ hj O p25,cN _ _ _ _ _ hj O p7,wO])];exact qx hC j ((by decide:∀ j:Fin 32,¬ (20<=j.val/\j.val<25) -> ¬ (15<=j.val/\j.val<20) -> ¬ (25<=j.val/\j.val<32) -> ¬ (7<=j.val/\j.val<12)->Nat.testBit 28799 j.val=true) ⟨j,hj⟩ r20 r15 p25 p7)
def Yx {w C op}(hf:aI op=5)(hC:w &&& 28799=C)(hc:ci[op.toNat]?.getD 0=C):Alike (fk (bn op w)) w:=by
 have e:fk (bn op w)=(bu (bu (C ||| (bu (bu (bu (bu 0 8 4 ((cz ((bu (bu (bu (bu 0 0 4 (aD w 8 4)) 4 6 (aD w 25 6)) 10 1 (aD w 7 1)) 11 1 (aD w 31 1)) * 2 ^ 1 % 4294967296) 13) / 2 ^ 1)) 25 6 (((cz ((bu (bu (bu (bu 0 0 4 (aD w 8 4)) 4 6 (aD w 25 6)) 10 1 (aD w 7 1)) 11 1 (aD w 31 1)) * 2 ^ 1 % 4294967296) 13) / 2 ^ 1) / 2 ^ 4)) 7 1 ((((cz ((bu (bu (bu (bu 0 0 4 (aD w 8 4)) 4 6 (aD w 25 6)) 10 1 (aD w 7 1)) 11 1 (aD w 31 1)) * 2 ^ 1 % 4294967296) 13) / 2 ^ 1) / 2 ^ 4) / 2 ^ 6)) 31 1 (((((cz ((bu (bu (bu (bu 0 0 4 (aD w 8 4)) 4 6 (aD w 25 6)) 10 1 (aD w 7 1)) 11 1 (aD w 31 1)) * 2 ^ 1 % 4294967296) 13) / 2 ^ 1) / 2 ^ 4) / 2 ^ 6) / 2 ^ 1))) 15 5 (aD w 15 5)) 20 5 (aD w 20 5)):=by
  unfold fk bn;dsimp only;rw [hf,hc];simp only [cH,av];show (aw (aw (C ||| (aw (aw (aw (aw 0 (8:Nat) (4:Nat) ((cJ ((aw (aw (aw (aw 0 (0:Nat) (4:Nat) (aV w (8:Nat) (4:Nat))) (4:Nat) (6:Nat) (aV w (25:Nat) (6:Nat))) (10:Nat) (1:Nat) (aV w (7:Nat) (1:Nat))) (11:Nat) (1:Nat) (aV w (31:Nat) (1:Nat))) * 2 ^ 1 % 4294967296) ((13:Nat):Int)) / 2 ^ 1)) (25:Nat) (6:Nat) (((cJ ((aw (aw (aw (aw 0 (0:Nat) (4:Nat) (aV w (8:Nat) (4:Nat))) (4:Nat) (6:Nat) (aV w (25:Nat) (6:Nat))) (10:Nat) (1:Nat) (aV w (7:Nat) (1:Nat))) (11:Nat) (1:Nat) (aV w (31:Nat) (1:Nat))) * 2 ^ 1 % 4294967296) ((13:Nat):Int)) / 2 ^ 1) / 2 ^ 4)) (7:Nat) (1:Nat) ((((cJ ((aw (aw (aw (aw 0 (0:Nat) (4:Nat) (aV w (8:Nat) (4:Nat))) (4:Nat) (6:Nat) (aV w (25:Nat) (6:Nat))) (10:Nat) (1:Nat) (aV w (7:Nat) (1:Nat))) (11:Nat) (1:Nat) (aV w (31:Nat) (1:Nat))) * 2 ^ 1 % 4294967296) ((13:Nat):Int)) / 2 ^ 1) / 2 ^ 4) / 2 ^ 6)) (31:Nat) (1:Nat) (((((cJ ((aw (aw (aw (aw 0 (0:Nat) (4:Nat) (aV w (8:Nat) (4:Nat))) (4:Nat) (6:Nat) (aV w (25:Nat) (6:Nat))) (10:Nat) (1:Nat) (aV w (7:Nat) (1:Nat))) (11:Nat) (1:Nat) (aV w (31:Nat) (1:Nat))) * 2 ^ 1 % 4294967296) ((13:Nat):Int)) / 2 ^ 1) / 2 ^ 4) / 2 ^ 6) / 2 ^ 1))) (15:Nat) (5:Nat) (un (aV w (15:Nat) (5:Nat):Nat))) (20:Nat) (5:Nat) (un (aV w (20:Nat) (5:Nat):Nat)))=_;simp only [r5 _ _ 5 ag,fI _ 15 5 F,fI _ 20 5 F,fI _ 25 6 F,fI _ 31 1 F,fI _ 7 1 F,fI _ 8 4 F,sI _ 0 4 _ F,sI _ 10 1 _ F,sI _ 11 1 _ F,sI _ 15 5 _ F,sI _ 20 5 _ F,sI _ 25 6 _ F,sI _ 31 1 _ F,sI _ 4 6 _ F,sI _ 7 1 _ F,sI _ 8 4 _ F,sE _ 13 ag ag]
 intro j hj;rw [e];by_cases r20:20<=j/\j<25
 .rw [dN _ _ _ _ _ hj O r20,gD _ _ _ _ O,show 20+(j - 20)=j by omega]
 .rw [cN _ _ _ _ _ hj O r20]
  by_cases r15:15<=j/\j<20
  .rw [dN _ _ _ _ _ hj O r15,gD _ _ _ _ O,show 15+(j - 15)=j by omega]
  .rw [cN _ _ _ _ _ hj O r15]
   by_cases p31:31<=j/\j<32
   .have hz:Nat.testBit C j=false:=mK hC j ((by decide:∀ j:Fin 32,¬ (20<=j.val/\j.val<25) -> ¬ (15<=j.val/\j.val<20)->31<=j.val/\j.val<32->Nat.testBit 28799 j.val=false) ⟨j,hj⟩ r20 r15 p31)
    rw [my j hz,dN _ _ _ _ _ hj O p31,fu,fu,fu,fu,ni _ _ _ O O,mH _ _ _ O O,dN _ _ _ _ _ O O O,gD _ _ _ _ O,show 31+(((((j - 31)+1)+6)+4)+1 - 1 - 11)=j by omega]
   .skip
    by_cases p7:7<=j/\j<8
    .have hz:Nat.testBit C j=false:=mK hC j ((by decide:∀ j:Fin 32,¬ (20<=j.val/\j.val<25) -> ¬ (15<=j.val/\j.val<20) -> ¬ (31<=j.val/\j.val<32)->7<=j.val/\j.val<8->Nat.testBit 28799 j.val=false) ⟨j,hj⟩ r20 r15 p31 p7)
     rw [my j hz,cN _ _ _ _ _ hj O p31,dN _ _ _ _ _ hj O p7,fu,fu,fu,ni _ _ _ O O,mH _ _ _ O O,cN _ _ _ _ _ O O O,dN _ _ _ _ _ O O O,gD _ _ _ _ O,show 7+((((j - 7)+6)+4)+1 - 1 - 10)=j by omega]
    .skip
     by_cases p25:25<=j/\j<31
     .have hz:Nat.testBit C j=false:=mK hC j ((by decide:∀ j:Fin 32,¬ (20<=j.val/\j.val<25) -> ¬ (15<=j.val/\j.val<20) -> ¬ (31<=j.val/\j.val<32) -> ¬ (7<=j.val/\j.val<8)->25<=j.val/\j.val<31->Nat.testBit 28799 j.val=false) ⟨j,hj⟩ r20 r15 p31 p7 p25)
      rw [my j hz,cN _ _ _ _ _ hj O p31,cN _ _ _ _ _ hj O p7,dN _ _ _ _ _ hj O p25,fu,fu,ni _ _ _ O O,mH _ _ _ O O,cN _ _ _ _ _ O O O,cN _ _ _ _ _ O O O,dN _ _ _ _ _ O O O,gD _ _ _ _ O,show 25+(((j - 25)+4)+1 - 1 - 4)=j by omega]
     .skip
      by_cases p8:8<=j/\j<12
      .have hz:Nat.testBit C j=false:=mK hC j ((by decide:∀ j:Fin 32,¬ (20<=j.val/\j.val<25) -> ¬ (15<=j.val/\j.val<20) -> ¬ (31<=j.val/\j.val<32) -> ¬ (7<=j.val/\j.val<8) -> ¬ (25<=j.val/\j.val<31)->8<=j.val/\j.val<12->Nat.testBit 28799 j.val=false) ⟨j,hj⟩ r20 r15 p31 p7 p25 p8)
       rw [my j hz,cN _ _ _ _ _ hj O p31,cN _ _ _ _ _ hj O p7,cN _ _ _ _ _ hj O p25,dN _ _ _ _ _ hj O p8,fu,ni _ _ _ O O,mH _ _ _ O O,cN _ _ _ _ _ O O O,cN _ _ _ _ _ O O O,cN _ _ _ _ _ O O O,dN _ _ _ _ _ O O O,gD _ _ _ _ O,show 8+((j - 8)+1 - 1 - 0)=j by omega]
      .skip
       rw [uY j (by rw [cN _ _ _ _ _ hj O p31,cN _ _ _ _ _ hj O p7,cN _ _ _ _ _ hj O p25,cN _ _ _ _ _ hj O p8,wO])];exact qx hC j ((by decide:∀ j:Fin 32,¬ (20<=j.val/\j.val<25) -> ¬ (15<=j.val/\j.val<20) -> ¬ (31<=j.val/\j.val<32) -> ¬ (7<=j.val/\j.val<8) -> ¬ (25<=j.val/\j.val<31) -> ¬ (8<=j.val/\j.val<12)->Nat.testBit 28799 j.val=true) ⟨j,hj⟩ r20 r15 p31 p7 p25 p8)
def RJ {w C op}(hf:aI op=6)(hC:w &&& 127=C)(hc:ci[op.toNat]?.getD 0=C):Alike (fk (bn op w)) w:=by
 have e:fk (bn op w)=(bu (C ||| (bu 0 12 20 ((cz ((bu 0 0 20 (aD w 12 20)) * 2 ^ 12 % 4294967296) 32) / 2 ^ 12))) 7 5 (aD w 7 5)):=by
  unfold fk bn;dsimp only;rw [hf,hc];simp only [cH,av];show (aw (C ||| (aw 0 (12:Nat) (20:Nat) ((cJ ((aw 0 (0:Nat) (20:Nat) (aV w (12:Nat) (20:Nat))) * 2 ^ 12 % 4294967296) ((32:Nat):Int)) / 2 ^ 12))) (7:Nat) (5:Nat) (un (aV w (7:Nat) (5:Nat):Nat)))=_;simp only [r5 _ _ 5 ag,fI _ 12 20 F,fI _ 7 5 F,sI _ 0 20 _ F,sI _ 12 20 _ F,sI _ 7 5 _ F,sE _ 32 ag ag]
 intro j hj;rw [e];by_cases r7:7<=j/\j<12
 .rw [dN _ _ _ _ _ hj O r7,gD _ _ _ _ O,show 7+(j - 7)=j by omega]
 .rw [cN _ _ _ _ _ hj O r7]
  by_cases p12:12<=j/\j<32
  .have hz:Nat.testBit C j=false:=mK hC j ((by decide:∀ j:Fin 32,¬ (7<=j.val/\j.val<12)->12<=j.val/\j.val<32->Nat.testBit 127 j.val=false) ⟨j,hj⟩ r7 p12)
   rw [my j hz,dN _ _ _ _ _ hj O p12,fu,ni _ _ _ O O,mH _ _ _ O O,dN _ _ _ _ _ O O O,gD _ _ _ _ O,show 12+((j - 12)+12 - 12 - 0)=j by omega]
  .skip
   rw [uY j (by rw [cN _ _ _ _ _ hj O p12,wO])];exact qx hC j ((by decide:∀ j:Fin 32,¬ (7<=j.val/\j.val<12) -> ¬ (12<=j.val/\j.val<32)->Nat.testBit 127 j.val=true) ⟨j,hj⟩ r7 p12)
def UG {w C op}(hf:aI op=7)(hC:w &&& 127=C)(hc:ci[op.toNat]?.getD 0=C):Alike (fk (bn op w)) w:=by
 have e:fk (bn op w)=(bu (C ||| (bu (bu (bu (bu 0 21 10 ((cz ((bu (bu (bu (bu 0 0 10 (aD w 21 10)) 10 1 (aD w 20 1)) 11 8 (aD w 12 8)) 19 1 (aD w 31 1)) * 2 ^ 1 % 4294967296) 21) / 2 ^ 1)) 20 1 (((cz ((bu (bu (bu (bu 0 0 10 (aD w 21 10)) 10 1 (aD w 20 1)) 11 8 (aD w 12 8)) 19 1 (aD w 31 1)) * 2 ^ 1 % 4294967296) 21) / 2 ^ 1) / 2 ^ 10)) 12 8 ((((cz ((bu (bu (bu (bu 0 0 10 (aD w 21 10)) 10 1 (aD w 20 1)) 11 8 (aD w 12 8)) 19 1 (aD w 31 1)) * 2 ^ 1 % 4294967296) 21) / 2 ^ 1) / 2 ^ 10) / 2 ^ 1)) 31 1 (((((cz ((bu (bu (bu (bu 0 0 10 (aD w 21 10)) 10 1 (aD w 20 1)) 11 8 (aD w 12 8)) 19 1 (aD w 31 1)) * 2 ^ 1 % 4294967296) 21) / 2 ^ 1) / 2 ^ 10) / 2 ^ 1) / 2 ^ 8))) 7 5 (aD w 7 5)):=by
  unfold fk bn;dsimp only;rw [hf,hc];simp only [cH,av];show (aw (C ||| (aw (aw (aw (aw 0 (21:Nat) (10:Nat) ((cJ ((aw (aw (aw (aw 0 (0:Nat) (10:Nat) (aV w (21:Nat) (10:Nat))) (10:Nat) (1:Nat) (aV w (20:Nat) (1:Nat))) (11:Nat) (8:Nat) (aV w (12:Nat) (8:Nat))) (19:Nat) (1:Nat) (aV w (31:Nat) (1:Nat))) * 2 ^ 1 % 4294967296) ((21:Nat):Int)) / 2 ^ 1)) (20:Nat) (1:Nat) (((cJ ((aw (aw (aw (aw 0 (0:Nat) (10:Nat) (aV w (21:Nat) (10:Nat))) (10:Nat) (1:Nat) (aV w (20:Nat) (1:Nat))) (11:Nat) (8:Nat) (aV w (12:Nat) (8:Nat))) (19:Nat) (1:Nat) (aV w (31:Nat) (1:Nat))) * 2 ^ 1 % 4294967296) ((21:Nat):Int)) / 2 ^ 1) / 2 ^ 10)) (12:Nat) (8:Nat) ((((cJ ((aw (aw (aw (aw 0 (0:Nat) (10:Nat) (aV w (21:Nat) (10:Nat))) (10:Nat) (1:Nat) (aV w (20:Nat) (1:Nat))) (11:Nat) (8:Nat) (aV w (12:Nat) (8:Nat))) (19:Nat) (1:Nat) (aV w (31:Nat) (1:Nat))) * 2 ^ 1 % 4294967296) ((21:Nat):Int)) / 2 ^ 1) / 2 ^ 10) / 2 ^ 1)) (31:Nat) (1:Nat) (((((cJ ((aw (aw (aw (aw 0 (0:Nat) (10:Nat) (aV w (21:Nat) (10:Nat))) (10:Nat) (1:Nat) (aV w (20:Nat) (1:Nat))) (11:Nat) (8:Nat) (aV w (12:Nat) (8:Nat))) (19:Nat) (1:Nat) (aV w (31:Nat) (1:Nat))) * 2 ^ 1 % 4294967296) ((21:Nat):Int)) / 2 ^ 1) / 2 ^ 10) / 2 ^ 1) / 2 ^ 8))) (7:Nat) (5:Nat) (un (aV w (7:Nat) (5:Nat):Nat)))=_;simp only [r5 _ _ 5 ag,fI _ 12 8 F,fI _ 20 1 F,fI _ 21 10 F,fI _ 31 1 F,fI _ 7 5 F,sI _ 0 10 _ F,sI _ 10 1 _ F,sI _ 11 8 _ F,sI _ 12 8 _ F,sI _ 19 1 _ F,sI _ 20 1 _ F,sI _ 21 10 _ F,sI _ 31 1 _ F,sI _ 7 5 _ F,sE _ 21 ag ag]
 intro j hj;rw [e];by_cases r7:7<=j/\j<12
 .rw [dN _ _ _ _ _ hj O r7,gD _ _ _ _ O,show 7+(j - 7)=j by omega]
 .rw [cN _ _ _ _ _ hj O r7]
  by_cases p31:31<=j/\j<32
  .have hz:Nat.testBit C j=false:=mK hC j ((by decide:∀ j:Fin 32,¬ (7<=j.val/\j.val<12)->31<=j.val/\j.val<32->Nat.testBit 127 j.val=false) ⟨j,hj⟩ r7 p31)
   rw [my j hz,dN _ _ _ _ _ hj O p31,fu,fu,fu,fu,ni _ _ _ O O,mH _ _ _ O O,dN _ _ _ _ _ O O O,gD _ _ _ _ O,show 31+(((((j - 31)+8)+1)+10)+1 - 1 - 19)=j by omega]
  .skip
   by_cases p12:12<=j/\j<20
   .have hz:Nat.testBit C j=false:=mK hC j ((by decide:∀ j:Fin 32,¬ (7<=j.val/\j.val<12) -> ¬ (31<=j.val/\j.val<32)->12<=j.val/\j.val<20->Nat.testBit 127 j.val=false) ⟨j,hj⟩ r7 p31 p12)
    rw [my j hz,cN _ _ _ _ _ hj O p31,dN _ _ _ _ _ hj O p12,fu,fu,fu,ni _ _ _ O O,mH _ _ _ O O,cN _ _ _ _ _ O O O,dN _ _ _ _ _ O O O,gD _ _ _ _ O,show 12+((((j - 12)+1)+10)+1 - 1 - 11)=j by omega]
   .skip
    by_cases p20:20<=j/\j<21
    .have hz:Nat.testBit C j=false:=mK hC j ((by decide:∀ j:Fin 32,¬ (7<=j.val/\j.val<12) -> ¬ (31<=j.val/\j.val<32) -> ¬ (12<=j.val/\j.val<20)->20<=j.val/\j.val<21->Nat.testBit 127 j.val=false) ⟨j,hj⟩ r7 p31 p12 p20)
     rw [my j hz,cN _ _ _ _ _ hj O p31,cN _ _ _ _ _ hj O p12,dN _ _ _ _ _ hj O p20,fu,fu,ni _ _ _ O O,mH _ _ _ O O,cN _ _ _ _ _ O O O,cN _ _ _ _ _ O O O,dN _ _ _ _ _ O O O,gD _ _ _ _ O,show 20+(((j - 20)+10)+1 - 1 - 10)=j by omega]
    .skip
     by_cases p21:21<=j/\j<31
     .have hz:Nat.testBit C j=false:=mK hC j ((by decide:∀ j:Fin 32,¬ (7<=j.val/\j.val<12) -> ¬ (31<=j.val/\j.val<32) -> ¬ (12<=j.val/\j.val<20) -> ¬ (20<=j.val/\j.val<21)->21<=j.val/\j.val<31->Nat.testBit 127 j.val=false) ⟨j,hj⟩ r7 p31 p12 p20 p21)
      rw [my j hz,cN _ _ _ _ _ hj O p31,cN _ _ _ _ _ hj O p12,cN _ _ _ _ _ hj O p20,dN _ _ _ _ _ hj O p21,fu,ni _ _ _ O O,mH _ _ _ O O,cN _ _ _ _ _ O O O,cN _ _ _ _ _ O O O,cN _ _ _ _ _ O O O,dN _ _ _ _ _ O O O,gD _ _ _ _ O,show 21+((j - 21)+1 - 1 - 0)=j by omega]
     .skip
      rw [uY j (by rw [cN _ _ _ _ _ hj O p31,cN _ _ _ _ _ hj O p12,cN _ _ _ _ _ hj O p20,cN _ _ _ _ _ hj O p21,wO])];exact qx hC j ((by decide:∀ j:Fin 32,¬ (7<=j.val/\j.val<12) -> ¬ (31<=j.val/\j.val<32) -> ¬ (12<=j.val/\j.val<20) -> ¬ (20<=j.val/\j.val<21) -> ¬ (21<=j.val/\j.val<31)->Nat.testBit 127 j.val=true) ⟨j,hj⟩ r7 p31 p12 p20 p21)
def Xn {w C op}(hf:aI op=8)(hC:w &&& 4294967295=C)(hc:ci[op.toNat]?.getD 0=C):Alike (fk (bn op w)) w:=by
 have e:fk (bn op w)=(C ||| 0):=by
  unfold fk bn;dsimp only;rw [hf,hc];simp only [cH,av];show (C ||| 0)=_;rfl
 intro j hj;rw [e];rw [Nat.or_zero];exact qx hC j ((by decide:∀ j:Fin 32,Nat.testBit 4294967295 j.val=true) ⟨j,hj⟩ )
def Q4 {w op}(h1:1<=op)(h2:op<=48)(hC:w &&& fr (aI op)=ci[op.toNat]?.getD 0):kG (bn op w)=true:=by
 have hA:Alike (fk (bn op w)) w:=by
  have hf:aI op=1\/aI op=2\/aI op=3\/aI op=4\/aI op=5\/aI op=6\/aI op=7\/aI op=8:=by
   unfold aI;rw [Y O]
   repeat' split
   all_goals simp
  rcases hf with hf|hf|hf|hf|hf|hf|hf|hf
  .rw [hf] at hC;exact ZG hf hC F
  .rw [hf] at hC;exact TP hf hC F
  .rw [hf] at hC;exact UQ hf hC F
  .rw [hf] at hC;exact Ts hf hC F
  .rw [hf] at hC;exact Yx hf hC F
  .rw [hf] at hC;exact RJ hf hC F
  .rw [hf] at hC;exact UG hf hC F
  .rw [hf] at hC;exact Xn hf hC F
 have hn:aI op≠0:=by
  unfold aI;rw [Y O]
  repeat' split
  all_goals decide
 have e:bn (bn op w).op (fk (bn op w))=bn op w:=hA.read op;unfold kG;rw [e];have ho:(bn op w).op=op:=rfl;rw [ho];unfold eO;simp [hn]
def Km {w}:∀ (n op:Nat) {r:Nat},js w n op=some r->(w &&& fr (aI r)=ci[r]?.getD 0)/\op<=r/\r<op+n
 | 0,op,r,h=>fK
 | n+1,op,r,h=>by
  unfold js at h;split at h
  .rename_i hc
   injection h with h;subst h;exact ⟨hc,by omega,by omega⟩
  .have:=Km n (op+1) h
   exact ⟨this.1,by omega,by omega⟩
def Yv (w:Nat) (i:Ins) (h:df w=some i):kG i=true:=by
 unfold df at h;split at h
 .rename_i op ho
  injection h with h;subst h;obtain ⟨a,b,c⟩:=Km 48 1 ho;exact Q4 O O a
 .cases h
end
section
open Go.RowKit Wd
def LL : ∀ {q:List En} {i:Nat},i<=eV q -> ∀ j,j<i -> ∀ f,q[j]?=some f->nk f=true
 | [],i,h,j,hj,f,hf=>(by cases hf)
 | e::r,i,h,j,hj,f,hf=>by
  unfold eV at h;split at h
  .rename_i hs
   cases j with
   | zero=>injection hf with hf;subst hf;exact hs
   | succ j=>exact LL (q:=r) (i:=i - 1) O j O f hf
  .omega
def j2r {e}(h:nk e=true):e.halt=0:=by
 unfold nk at h;split at h
 .assumption
 .cases h
section
variable {prog:List Nat} {st:Nat->Sq} {k:ak}
def Ku (hR:jv prog st) (hl:Live prog st k) (hw:eP k.rob) (h0:(st 0).halt=0):∀ i,i<=k.rob.length->i<=eV k.rob->(∀ j,j<i -> ∀ f,k.rob[j]?=some f->f.is=3)->gg st k.rob i
 | 0,_,_,_=>⟨λj hj=>(by obtain rfl:j=0:=by omega
                        exact h0),λj hj=>absurd hj (Nat.not_lt_zero _)⟩
 | i+1,hi,hv,hd=>by
  have ih:=Ku hR hl hw h0 i O O (λj hj=>hd j O);have hq:k.rob[i]?=some k.rob[i]:=ba O;have hg:=hl.good i _ hq ih;have gh:=hd i O _ hq;have hh:=j2r (LL hv i O _ hq);have ht:=xQ hg gh;have dT:(cx prog (st i)).halt=0:=by rw [<- ht];exact L6 hh
  have hm:=aQ hq;have hY:=Iw hg gh hh (hw _ hm) (hl.plainR _ hm);have hs:st (i+1)=dE (st i) (cx prog (st i)):=by rw [hR.run i,tF (ih.go i O)]
  refine ⟨λj hj=>?_,λj hj f hf=>?_⟩
  .by_cases br:j<=i
   .exact ih.go j br
   .obtain rfl:j=i+1:=by omega
    rw [hs];exact dT
  .by_cases br:j<i
   .exact ih.gs j br f hf
   .obtain rfl:j=i:=by omega
    rw [hq] at hf;injection hf with hf;subst hf;rw [hY,hs];rfl
end
def iM (prog:List Nat) (S:Nat->Sq):Nat->List Stp
 | 0=>[]
 | n+1=>if (S n).halt=0 then iM prog S n++[cx prog (S n)] else iM prog S n
def Gg {prog}{S:Nat->Sq}(hR:jq prog S):∀ (d n:Nat),(S (n+d)).halt=0->(S n).halt=0
 | 0,n,h=>h
 | d+1,n,h=>by
  have h1:(S (n+1)).halt=0:=Gg hR d (n+1) (by rw [show n+1+d=n+(d+1) by omega];exact h);rw [hR n] at h1;unfold lS at h1;split at h1
  .exact h1
  .rename_i hh;omega
def GK {prog}{S:Nat->Sq}(hR:jq prog S):∀ n,(∀ m,m<n->(S m).halt=0)->(iM prog S n).length=n
 | 0,_=>rfl
 | n+1,h=>by
  unfold iM;rw [aa (h n O),ea,GK hR n (λm hm=>h m O)];rfl
def Mt {prog}{S:Nat->Sq}(hR:jq prog S):∀ {n m:Nat},m<n->(S m).halt=0->(iM prog S n)[m]?=some (cx prog (S m))
 | 0,m,h,_=>absurd h (Nat.not_lt_zero _)
 | n+1,m,h,hm=>by
  unfold iM;by_cases er:m=n
  .subst er
   rw [aa hm];have hl:(iM prog S m).length=m:=GK hR m (λj hj=>Gg hR (m - j) j (by rw [show j+(m - j)=m by omega];exact hm));rw [kU O,hl,uL];rfl
  .have ih:=Mt hR (n:=n) (m:=m) O hm
   split
   .rw [lm (aK.1 ih).1];exact ih
   .exact ih
structure mG (prog:List Nat) (S:Nat->Sq) (k:ak):Prop where
 inv:Inv prog S k
 wrong:eP k.rob
 jmp:aP qu k.rob
 num:eN k
 stp:aP cm k.rob
 conf:k.conf.rob<=8
def Gs : ∀ {q:List En},(cL q).Pairwise (· < ·)->aP cm q->rp q=true
 | [],_,_=>rfl
 | [e],_,h=>(h e (ee ..)).stands
 | e::f::r,hp,h=>by
  unfold rp;have mZ:(e.no::f.no::cL r).Pairwise (· < ·):=hp;have h1:=(ry.1 mZ).1 f.no (ee ..);rw [(h e (ee ..)).stands,cU h1,Gs (q:=f::r) (ry.1 mZ).2 (λx hx=>h x (ez _ hx))];rfl
def Zn {q}(h:eP q):kz q=none:=by
 unfold kz;rw [x9];exact h
section
variable {prog:List Nat} {S:Nat->Sq} {k:ak}
def mG.right (h:mG prog S k):mj k.rob=true:=by
 unfold mj;have h1:=h.num.len;have h2:=h.conf;have h3:(cL k.rob).length=k.rob.length:=gq _;rw [Gs h.num.asc h.stp,cU (show k.rob.length<=8 by omega)];rfl
def mG.told (hR:jv prog S)(h:mG prog S k){i n e}(he:k.rob[i]?=some e)(hv:i<=eV k.rob)(hd:∀ j,j<=i -> ∀ f,k.rob[j]?=some f->f.is=3)(hn:k.retired.length+i<n):(iM prog S n)[k.retired.length+i]?=some (aY e):=by
 have hil:=(aK.1 he).1;have h0:k.halt=0:=by
  by_cases h0:k.halt=0
  .exact h0
  .have:=h.inv.dead h0
   rw [this] at he;cases he
 have hl:=h.inv.live h0;have hP:=Ku (hR.at_ k.retired.length) hl h.wrong (by show (S (k.retired.length+0)).halt=0;rw [tg,<- h.inv.halt];exact h0) i O hv (λj hj=>hd j O);have hg:=hl.good i e he hP;have ht:aY e=cx prog (S (k.retired.length+i)):=xQ hg (hd i (aM _) e he);rw [ht];exact Mt hR.run hn (hP.go i (aM _))
def mG.step (hR:jv prog S) (h:mG prog S k):mG prog S (fB k):=by
 by_cases hr:kT k=true
 .exact ⟨h.inv.step hR,j1i hR h.inv h.jmp hr,h.jmp.step Ai,h.num.step,P9 h.stp (λno f=>WN Yv),by rw [i9u];exact h.conf⟩
 .have e:fB k=k:=by unfold fB;rw [Y hr]
  rw [e];exact h
end
def mG.new {c prog m}(hk:KOk 1 (gm c prog m))(hr:bj (bf c).ways (List.replicate (bf c).sets.toNat [])):mG (prog.take 64) (ga (prog.take 64) m) (gm c prog m) :=
 ⟨Inv.new hk hr,λe he=>oK,λe he=>oK,eN.new hk,λe he=>oK,(ru hk.conf).rob.2⟩
end
section
open Go.RowKit Wd
def VU {c prog m}(ht:∀ x∈c.tape,x<4294967296)(hp:∀ x∈prog,x<4294967296):mG (prog.take 64) (ga (prog.take 64) m) (gm c prog m) :=
 mG.new (LZ ht hp) (BX (ru (zw c)) (by dsimp only [bf];split <;> omega))
def Ki {c prog m}(ht:∀ x∈c.tape,x<4294967296)(hp:∀ x∈prog,x<4294967296):∀ j,mG (prog.take 64) (ga (prog.take 64) m) (runK j (gm c prog m))
 | 0=>VU ht hp
 | j+1=>by rw [uH];exact (Ki ht hp j).step (Mq _ _)
structure LR (L:List Stp) (k:ak):Prop where
 right:mj k.rob=true
 wrong:kz k.rob=none
 len:(k.rob.length:Int)<=k.conf.rob
 told:∀ (i:Nat) e,k.rob[i]?=some e->i<=eV k.rob->(∀ j,j<=i -> ∀ f,k.rob[j]?=some f->f.is=3)->L[k.retired.length+i]?=some (aY e)
def Y0 {prog}{S:Nat->Sq}{k}(hR:jv prog S)(h:mG prog S k):LR (iM prog S (k.retired.length+k.rob.length)) k :=
 ⟨h.right,Zn h.wrong,by have:=h.num.len;rwa [show (cL k.rob).length=k.rob.length from gq _] at this,λi e he hv hd=>h.told hR he hv hd (by have:=(aK.1 he).1;omega)⟩
end
end Go.Proofs.YtgnomadgnciifaaGreatDoor
