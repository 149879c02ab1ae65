/- . -/
import Derived.Test.YtgnomadgnciifaaGreatDoorZ9
set_option linter.all false
set_option maxRecDepth 100000
set_option maxHeartbeats 16000000
namespace Go.Proofs.YtgnomadgnciifaaGreatDoor
variable {p:Prop}
open Go.Proofs.Tryz
def vY (h:p:=by
 go_enter func69,ntmps69;(go_wp2_with ((first|(refine XI ?_;clear E;intro J E)|((refine du (v:=.agg #[I op,I rd,I rs1,I rs2,U (imm:Int)]) (n:=5) F E F ?_ (hn:=ce F));(try refine zs ?_))|((first|refine aA ?_|(refine am ?_;clear E;intro Z J E));refine zs ?_))));((try simp only [Exit.inBlock,Exit.then]);refine bc (eL F E) F ?_)
 exact ⟨rfl,E.bel⟩):=h
def Lf (h:p:=by
 refine aB 14 (λK X=>?_);go_wp2_with (refine iP ?_;clear E;intro J E;(try refine zs ?_));have G:=G.nextA E;refine X.out _ _ G ?_;clear X;refine zs ?_;refine cA 15 G ?_;refine bt ?_
 (go_wp2;go_meet;exact ⟨_,A2,n2,c2,S2,rfl,rfl,V ad,E⟩)):=h
def Lx (h:p:=by
 dsimp only;generalize jY ways C x=f at *;obtain ⟨k,i,b⟩:=f;dsimp only at *;cases b
 .exact .no k i hf aF
 .obtain ⟨_,_,ws,v,hw,hv,_⟩:=hf.at_
  exact .yes k i hf ws v hw hv (by rw [aa F,ua hw,Cp hw hv])):=h
section
open Go.RowKit Go.Sort
section
variable {ways:Int} {A:Option Addr} {n c x:Nat} {S:List Cs}
def FE {bytes:ByteArray} {C':List (List Wy)} {ok:Bool} (hx:x<4294967296) (aD:bytes.size<=maxLen) (ho:kP S) (h:l0 ways (aZ S) x bytes C' ok) (w:World) (hr:bT w w.heap.size A n c S) :Ca 145 #[.agg #[I ways,.slice A n c],U (x:Int),.string bytes] w λe w'=>∃ y,e = .returned (.tuple #[y,.bool ok])/\iV w (iK A n c S) ways y w' C':=by
 cases h with
 | no k i h he hb=>
  subst he hb;refine (UU ways A n c x bytes S k i w hr (V (mc hx ho h))).mono ?_;rintro e w' ⟨rfl,hb⟩;exact ⟨_,rfl,iV.sameC hr hb⟩
 | bad k i h ws v hw hv hd he hb=>
  subst he hb;refine (Rf ways A n c x bytes S k i ws v w hr hx aD (sr hr hw) hw hv hd (V (mc hx ho h))).mono ?_;rintro e w' ⟨rfl,hb⟩;exact ⟨_,rfl,iV.sameC hr hb⟩
 | yes k i h ws v hw hv hd hf he hb=>
  subst he hb;obtain ⟨hR,_,ws',v',bN,_,_,hl⟩:=h.at_;rw [hw] at bN;injection bN with bN;subst bN;exact U6 ways A n c x bytes S k i ws v w hr hx aD (uz hr hR) (sr hr hw) hw zH hv hd hf (V (mc hx ho h))
end
end
section
open Go.RowKit
section
variable {ways:Int} {C C':List (List Wy)}
def l0.right {x bytes ok}(h:l0 ways C x bytes C' ok)(hR:bj ways C):bj ways C':=by
 cases h with
 | no k i h he hb=>subst he;exact hR
 | bad k i h ws v hw hv hd he hb=>subst he;exact hR
 | yes k i h ws v hw hv hd hf he hb=>
  subst he;exact hR.set_ (Ek (hR.hs k ws hw) hv F (.inr (by show (nL v.data (x % 16) bytes).size=16;rw [Eb O,hd])))
end
section
variable {ways:Int} {C C':List (List Wy)} {q:List Rq} {m:List UInt8} {ss:List Pu}
end
inductive kM (ways:Int) (C:List (List Wy)) (q:List Rq) (m:List UInt8) (x:Nat) (left:Int) (C':List (List Wy)) (q':List Rq) (b:Bool):Prop
 | no (h:¬ bj ways C) (he:C'=C) (hq:q'=q) (hb:b=false)
 | hit (k i:Nat) (h:fE ways C x k i true) (ht:mC ways C x C') (hq:q'=q) (hb:b=false)
 | put (k i:Nat) (hR:bj ways C) (h:fE ways C x k i false) (D:ByteArray) (hD:bl D=dR (gp q m) x) (iw:Wy) (went:Bool) (hp:oJ ways C x D false C' iw went)
   (hb:b=(went && (iw.dirty && decide (iw.data.size≠0)))) (hq:q'=if b then q++[⟨4,iw.line,max left 1,iw.data⟩] else q)
section
variable {ways:Int} {C C':List (List Wy)} {q q':List Rq} {m:List UInt8} {ss:List Pu} {x:Nat} {left:Int} {b:Bool}
def kM.right (h:kM ways C q m x left C' q' b) (hR:bj ways C):bj ways C':=by
 cases h with
 | no h he hq hb=>exact absurd hR h
 | hit k i h ht hq hb=>exact ht.right hR
 | put k i hR h D hD iw went hp hb hq=>exact hp.right hR
def kM.cok (h:kM ways C q m x left C' q' b) (ho:fX C) (hx:x<4294967296) (hm:m.length<=maxLen):fX C':=by
 cases h with
 | no h he hq hb=>subst he;exact ho
 | hit k i h ht hq hb=>exact ht.cok ho
 | put k i hR h D hD iw went hp hb hq=>
  refine hp.cok ho hx ?_;have:(bl D).length<=m.length:=by rw [hD,dR,cK,nX,Mg];omega
  rw [gy] at this;omega
def mC.line (h:mC ways C x C'):mC ways C (x - x % 16) C':=by
 cases h with
 | no k i h he=>exact .no k i h.line he
 | yes k i h ws v hw hv he=>exact .yes k i h.line ws v hw hv he
def oJ.lineB {data dirty iw went}(h:oJ ways C x data dirty C' iw went):oJ ways C (x - x % 16) data dirty C' iw went:=by
 have e:x - x % 16 - (x - x % 16) % 16=x - x % 16:=by omega
 cases h with
 | no h he hg hb=>exact .no h he hg hb
 | hit k i h ws v hw hv he hg hb=>exact .hit k i h.line ws v hw hv he hg hb
 | room k i hR h ws hw hl he hg hb=>exact .room k i hR h.line ws hw hl (by rw [e];exact he) hg hb
 | full k i hR h ws hw hl l hl1 al he hb=>exact .full k i hR h.line ws hw hl l hl1 al (by rw [e];exact he) hb
end
inductive pM (ways:Int) (ss:List Pu) (C:List (List Wy)) (ss':List Pu) (C':List (List Wy)) (b:Bool):Prop
 | none (h:ss=[]) (hs:ss'=ss) (he:C'=C) (hb:b=false)
 | no (s:Pu) (r:List Pu) (h:ss=s::r) (hw:l0 ways C s.addr s.data C false) (hs:ss'=ss) (he:C'=C) (hb:b=false)
 | yes (s:Pu) (r:List Pu) (h:ss=s::r) (hw:l0 ways C s.addr s.data C' true) (hs:ss'=r) (hb:b=true)
def l0.same {ways C C' x bytes}(h:l0 ways C x bytes C' false):C'=C:=by
 cases h with
 | no k i h he hb=>exact he
 | bad k i h ws v hw hv hd he hb=>exact he
 | yes k i h ws v hw hv hd hf he hb=>cases hb
section
variable {ways:Int} {C C':List (List Wy)} {q:List Rq} {m:List UInt8} {ss ss':List Pu} {b:Bool}
def pM.right (h:pM ways ss C ss' C' b) (hR:bj ways C):bj ways C':=by
 cases h with
 | none h hs he hb=>subst he;exact hR
 | no s r h hw hs he hb=>subst he;exact hR
 | yes s r h hw hs hb=>exact hw.right hR
def l0.cok {x bytes ok}(h:l0 ways C x bytes C' ok)(ho:fX C):fX C':=by
 cases h with
 | no k i h he hb=>subst he;exact ho
 | bad k i h ws v hw hv hd he hb=>subst he;exact ho
 | yes k i h ws v hw hv hd hf he hb=>
  subst he;have:=ho.at_ hw;refine ho.set k λu hu=>?_
  rcases bB.1 hu with rfl|hu
  .exact ⟨(this v (aQ hv)).1,by show (nL v.data (x % 16) bytes).size<=maxLen;rw [Eb O,hd];decide⟩
  .rcases dv.1 hu with h|h
   .exact this u (jE h)
   .exact this u (sU h)
def pM.cok (h:pM ways ss C ss' C' b) (ho:fX C):fX C':=by
 cases h with
 | none h hs he hb=>subst he;exact ho
 | no s r h hw hs he hb=>subst he;exact ho
 | yes s r h hw hs hb=>exact hw.cok ho
end
end
section
open Go.RowKit Go.Sort
def SI (l):∀ u∈ai l,u.oneCell'=true:=λu hu=>by
 obtain ⟨x,_,rfl⟩:=fQ.1 hu;rfl
instance u32vOne (l:List Nat):gQ (ai l):=⟨SI l⟩
def Tx {l:List Nat} {k x:Nat} (h:l[k]?=some x):(ai l)[k * 1]?=some (U (x:Int)):=by rw [dP];simp [ai,h]
end
section
open Go.RowKit
section
variable {ways:Int} {C C':List (List Wy)} {q q':List Rq} {m:List UInt8} {ss ss':List Pu} {x:Nat} {left:Int} {b:Bool}
def kM.same (h:kM ways C q m x left C' q' false):q'=q:=by
 cases h with
 | no h he hq hb=>exact hq
 | hit k i h ht hq hb=>exact hq
 | put k i hR h D hD iw went hp hb hq=>rw [Y ag] at hq;exact hq
def kM.more (h:kM ways C q m x left C' q' true):∃ iw:Wy,ef C iw/\q'=q++[⟨4,iw.line,max left 1,iw.data⟩]:=by
 cases h with
 | no h he hq hb=>cases hb
 | hit k i h ht hq hb=>cases hb
 | put k i hR h D hD iw went hp hb hq=>
  rw [aa F] at hq;refine ⟨iw,?_,hq⟩;cases hp with
  | no h he hg L=>rw [L] at hb;cases hb
  | hit k' i' h' ws v hw hv he hg L=>rw [L] at hb;cases hb
  | room k' i' _ h' ws hw hl he hg L=>rw [L] at hb;cases hb
  | full k' i' _ h' ws hw hl l hl1 al he L=>exact ⟨k',ws,l,hw,al⟩
def kM.qlen (h:kM ways C q m x left C' q' b):q'.length<=q.length+1:=by
 cases b
 .rw [h.same];omega
 .obtain ⟨g,_,e⟩:=h.more
  rw [e];simp
def kM.qok (h:kM ways C q m x left C' q' b) (ho:fX C) (hq:∀ r∈q,r.line<4294967296/\r.data.size<=maxLen):∀ r∈q',r.line<4294967296/\r.data.size<=maxLen:=by
 cases b
 .rw [h.same];exact hq
 .obtain ⟨g,⟨k,ws,i,hw,hv⟩,e⟩:=h.more
  rw [e];intro r hr;rcases dv.1 hr with hr|hr
  .exact hq r hr
  .obtain rfl:=dm.1 hr
   exact ho.at_ hw g (aQ hv)
end
end
section
open Go.RowKit
def Kd {n k:Nat}:∀ {ws:List Wy} {seen:List Nat},vu n k seen ws=true ↔ ∀ (i:Nat) (v:Wy),ws[i]?=some v->(v.line % 16=0/\v.line / 16 % n=k/\(v.data.size=0\/v.data.size=16))/\v.line ∉ seen /\ ∀ j<i,∀ u:Wy,ws[j]?=some u->u.line≠v.line
 | [],seen=>by simp [vu]
 | v::r,seen=>by
  unfold vu;rw [fi,Kd (ws:=r)];constructor
  .rintro ⟨h1,h2⟩ i u hu
   simp only [fi,iA,Bool.not_eq_true',List.contains_eq_mem,Aw] at h1;cases i with
   | zero=>
    simp only [mI,dF] at hu;subst hu;exact ⟨⟨h1.1.1,h1.1.2,h1.2.1⟩,h1.2.2,λj hj=>by omega⟩
   | succ i=>
    have h3:=h2 i u (by simpa using hu);refine ⟨h3.1,λhm=>h3.2.1 (ez _ hm),λj hj x hx=>?_⟩;cases j with
    | zero=>
     simp only [mI,dF] at hx;subst hx;intro e;exact h3.2.1 (by rw [<- e];exact ee ..)
    | succ j=>exact h3.2.2 j O x yG
  .intro h
   have h0:=h 0 v F
   refine ⟨by
    simp only [fi,iA,Bool.not_eq_true',List.contains_eq_mem,Aw]
    exact ⟨⟨h0.1.1,h0.1.2.1⟩,h0.1.2.2,h0.2.1⟩,λi u hu=>?_⟩
   have h3:=h (i+1) u (by simpa using hu);refine ⟨h3.1,λhm=>?_,λj hj x hx=>h3.2.2 (j+1) O x yG⟩;rcases bB.1 hm with e|hm
   .exact h3.2.2 0 O v F e.symm
   .exact h3.2.1 hm
def h7a {n ways k ws}:(decide ((ws.length:Int)<=ways) && vu n k [] ws)=true↔lP n ways k ws:=by
 rw [fi,iA,Kd];constructor
 .rintro ⟨h1,h2⟩
  exact ⟨h1,λi v hv=>⟨(h2 i v hv).1.1,(h2 i v hv).1.2.1,(h2 i v hv).1.2.2,(h2 i v hv).2.2⟩⟩
 .rintro ⟨h1,h2⟩
  exact ⟨h1,λi v hv=>⟨⟨(h2 i v hv).1,(h2 i v hv).2.1,(h2 i v hv).2.2.1⟩,by simp,(h2 i v hv).2.2.2⟩⟩
def Gm {n:Nat} {ways:Int}:∀ {C:List (List Wy)} {k:Nat},vA n ways k C=true ↔ ∀ (j:Nat) (s:List Wy),C[j]?=some s->lP n ways (k+j) s
 | [],k=>by simp [vA]
 | ws::r,k=>by
  unfold vA;rw [<- Bool.and_assoc,fi,h7a,Gm (C:=r)];constructor
  .rintro ⟨h1,h2⟩ j s hs
   cases j with
   | zero=>
    simp only [mI,dF] at hs;subst hs;exact h1
   | succ j=>
    have:=h2 j s (by simpa using hs)
    rwa [show k+1+j=k+(j+1) by omega] at this
  .intro h
   refine ⟨h 0 ws F,λj s hs=>?_⟩;have:=h (j+1) s (by simpa using hs)
   rwa [show k+(j+1)=k+1+j by omega] at this
def qw {ways C}:qC ways C=true↔bj ways C:=by
 unfold qC;rw [fi,fi,iA,iA,Gm];constructor
 .rintro ⟨h1,h2,h3⟩
  exact ⟨h1,h2,λk s hs=>by simpa using h3 k s hs⟩
 .rintro ⟨h1,h2,h3⟩
  exact ⟨h1,h2,λk s hs=>by simpa using h3 k s hs⟩
def Fj {ways C}:qC ways C=false ↔ ¬ bj ways C:=by rw [<- qw];simp
def ua {C k ws}(h:C[k]?=some ws):rf C k=ws:=by simp [rf,h]
def Cp {C k i ws v}(h:C[k]?=some ws)(hv:ws[i]?=some v):sB C k i=v:=by simp [sB,ua h,hv]
def h7b {ws l i}(h:vX ws l=some i):r9 ws l i true:=by
 unfold vX at h;rw [z4] at h;obtain ⟨hi,h1,h2⟩:=h;refine .inl ⟨rfl,ws[i],⟨ba hi,by simpa using h1⟩,λj hj u hu=>?_⟩;have:=h2 j hj;rw [ba O] at hu;injection hu with hu;subst hu;simpa using this
def OU {ws l}(h:vX ws l=none):r9 ws l 0 false:=by
 unfold vX at h;rw [x9] at h;exact .inr ⟨rfl,rfl,λv hv=>by simpa using h v hv⟩
def sG (ways:Int) (C:List (List Wy)) (x:Nat):fE ways C x (jY ways C x).1 (jY ways C x).2.1 (jY ways C x).2.2:=by
 unfold jY;split
 .rename_i h
  have hR:=qw.1 h;obtain ⟨ws,hw⟩:=hR.set_at x;rw [ua hw];split
  .rename_i i hp
   exact .yes hR F ws hw (h7b hp)
  .rename_i hp
   exact .yes hR F ws hw (OU hp)
 .rename_i h
  exact .no (by rwa [<- qw]) F F F
def yr (ways:Int) (C:List (List Wy)) (x:Nat):mC ways C x (me ways C x):=by
 have hf:=sG ways C x;unfold me;exact Lx
def Es (ways:Int) (C:List (List Wy)) (x:Nat) (data:ByteArray) (dirty:Bool):oJ ways C x data dirty (oP ways C x data dirty).1 (oP ways C x data dirty).2.1 (oP ways C x data dirty).2.2:=by
 have hf:=sG ways C x;unfold oP;dsimp only;generalize jY ways C x=f at *;obtain ⟨k,i,b⟩:=f;dsimp only at *;split
 .rename_i h
  exact .no (Fj.1 h) F F F
 .rename_i h
  have hR:bj ways C:=qw.1 pZ;cases b
  .obtain ⟨hk,ws,hw,hl,_⟩:=hf.set_ hR
   rw [Y aF,ua hw];split
   .rename_i hlt
    exact .room k i hR hf ws hw hlt F F F
   .rename_i hlt
    have bN:=hR.hw;have hg:ws[ws.length - 1]?=some (ws[ws.length - 1]' O):=ba O;refine .full k i hR hf ws hw O (ws.length - 1) O ?_ F F;rw [hg];rfl
  .obtain ⟨_,_,ws,v,hw,hv,_⟩:=hf.at_
   rw [aa F,ua hw,Cp hw hv];exact .hit k i hf ws v hw hv F F F
def h7d (ways:Int) (C:List (List Wy)) (x:Nat) (b:ByteArray):l0 ways C x b (tR ways C x b).1 (tR ways C x b).2:=by
 have hf:=sG ways C x;unfold tR;dsimp only;generalize jY ways C x=f at *;obtain ⟨k,i,ok⟩:=f;dsimp only at *;cases ok
 .rw [Y aF]
  exact .no k i hf F F
 .obtain ⟨_,_,ws,v,hw,hv,_⟩:=hf.at_
  rw [Cp hw hv,ua hw];rcases hf.size hw hv with hs|hs
  .rw [Y (by simp [hs])]
   exact .bad k i hf ws v hw hv (.inl hs) F F
  .by_cases h:x % 16+b.size<=16
   .rw [aa ⟨rfl,hs,h⟩]
    exact .yes k i hf ws v hw hv hs h F F
   .rw [Y (λe=>h e.2.2)]
    exact .bad k i hf ws v hw hv (.inr ⟨hs,by omega⟩) F F
def yN (ways:Int) (C:List (List Wy)) (x:Nat):sa ways C x (pg ways C x):=by
 have hf:=sG ways C x;unfold pg;exact Lx
def P3 {C:List (List Wy)}:∀ {k j:Nat} {ws:List Wy} {v:Wy},(∀ us∈C.take k,jG us)->C[k]?=some ws->jG (ws.take j)->ws[j]?=some v->v.dirty=true->C.flatten.find? (λv=>v.dirty)=some v:=by
 induction C with
 | nil=>intro k j ws v _ h;simp at h
 | cons us C ih=>
  intro k j ws v hk hw hj hv hd;rw [List.flatten_cons,List.find?_append];cases k with
  | zero=>
   simp only [mI,dF] at hw;subst hw;obtain ⟨hl,e⟩:=aK.1 hv;have:us.find? (λv=>v.dirty)=some v:=by
    rw [<- sR j us,List.find?_append,List.find?_eq_none.2 (λx hx=>by simp [hj x hx]),mn hl,e,List.find?_cons,hd];rfl
   rw [this];rfl
  | succ k=>
   have h0:us.find? (λv=>v.dirty)=none:=List.find?_eq_none.2 (λx hx=>by simp [hk us aF x hx]);rw [h0,iT];exact ih (k:=k) (λxs hx=>hk xs (by rw [uT];exact ez _ hx)) (by simpa using hw) hj hv hd
def Gq (ways:Int) (C:List (List Wy)):uX ways C (eR ways C).1 (eR ways C).2:=by
 unfold eR;split
 .rename_i h
  have hR:=qw.1 h;rcases h6l C with hc|⟨k,j,ws,v,h1,h2,h3,h4,h5⟩
  .have:C.flatten.find? (λv=>v.dirty)=none:=List.find?_eq_none.2 (λx hx=>by
    obtain ⟨ws,hw,hx⟩:=vH.1 hx
    simp [hc ws hw x hx])
   rw [this];exact .none hR hc F F
  .rw [P3 h1 h2 h3 h4 h5]
   exact .one hR k j ws h1 h2 h3 h4 h5 F
 .rename_i h
  exact .no (by rwa [<- qw]) F F
def Dd (ways:Int) (C:List (List Wy)) (q:List Rq) (m:ByteArray) (x:Nat) (left:Int):kM ways C q (bl m) x left (nS ways C q m x left).1 (nS ways C q m x left).2.1 (nS ways C q m x left).2.2:=by
 have hf:=sG ways C x;have ht:=yr ways C x;have hp:=Es ways C x (xN (dZ m (bZ q)) x) false;unfold nS;dsimp only;split
 .rename_i h
  exact .no (Fj.1 h) F F F
 .rename_i h
  have hR:bj ways C:=qw.1 pZ;generalize jY ways C x=f at *;obtain ⟨k,i,b⟩:=f;dsimp only at *;split
  .rename_i hb
   subst hb;exact .hit k i hf ht F F
  .rename_i hb
   obtain rfl:b=false:=by simpa using hb
   generalize oP ways C x (xN (dZ m (bZ q)) x) false=p at *;obtain ⟨C',iw,went⟩:=p;dsimp only at *;have hD:bl (xN (dZ m (bZ q)) x)=dR (gp q (bl m)) x:=by
    unfold xN;rw [xy];congr 1
   cases hg:(went && (iw.dirty && decide (iw.data.size≠0)))
   .rw [Y aF]
    exact .put k i hR hf _ hD iw went hp hg.symm aF
   .rw [aa F]
    exact .put k i hR hf _ hD iw went hp hg.symm aF
def Df (ways:Int) (ss:List Pu) (C:List (List Wy)):pM ways ss C (ff ways ss C).1 (ff ways ss C).2.1 (ff ways ss C).2.2:=by
 cases ss with
 | nil=>exact .none F F F F
 | cons s r=>
  have hw:=h7d ways C s.addr s.data;unfold ff;dsimp only;generalize tR ways C s.addr s.data=f at *;obtain ⟨C',ok⟩:=f;dsimp only at *;cases ok
  .obtain rfl:=hw.same
   exact .no s r F hw F F F
  .exact .yes s r F hw F F
end
section
open Go.RowKit Wd
def Wv (n lo hi):∃ M,M=(if lo > n then lo else n)/\bE lo hi n=if hi<M then hi else M:=by
 refine ⟨max n lo,by split <;> omega,?_⟩;unfold bE;by_cases h:hi<max n lo
 .rw [Y O,aa h]
 .rw [Y h]
  by_cases h2:max n lo<hi
  .rw [aa h2]
  .rw [Y h2];omega
def St.putE {w0 w w1 w' D0 D M}(h:St w0 D0 w M D)(hb:af w w1){i g off t cs}(hi:M[i]?=some (.blk g t cs)){v}(hw:w'=w1.setCell ⟨g,off,none⟩ v):St w0 D0 w' (M.set i (.blk g t (cs.set off v))) D:=by
 subst hw;exact h.put hb hi v
def zd {g j n lo hi N w}(hc:w.cell? ⟨g,j,none⟩=some (I n))(hf:w.frozen? ⟨g,j,none⟩=false)(hn:Hid (bE lo hi n=N)):Ca 52 #[.pointer (some ⟨g,j,none⟩),I lo,I hi] w λe w'=>(∃ y,e = .returned y) /\ ∃ w1,af w w1/\w'=w1.setCell ⟨g,j,none⟩ (I N):=by
 obtain ⟨M,hM,hN⟩:=Wv n lo hi;replace hM:=V hM;rw [hn.out] at hN;replace hN:=V hN;clear hn;go_enter func52,ntmps52;go_wp2_with ((first|((refine wL F F F ?_);refine zs ?_)|((refine vT F F F ?_);refine zs ?_)));go_end0;exact ⟨⟨_,rfl⟩,_,af.refl _,rfl⟩
def dV (c:Cf) (Al:Option Addr) (cl:Nat) (At:Option Addr) (ct:Nat):List Value:=[I c.mode,I c.width,I c.rob,I c.queue,I c.stores,I c.slots,I c.sets,I c.ways,.slice Al c.lat.length cl,.bool c.tables,.slice At c.tape.length ct]
def DJ (l:List Int) (k:Nat) (x:Int):(aE l).set (k * 1) (I x)=aE (l.set k x):=by rw [dP];simp [aE,List.map_set]
def yi (l:List Nat) (k:Nat):(ai l).take (k * 1)=ai (l.take k):=by rw [dP];simp [ai,List.map_take]
def zZ (l:List Int) (k:Nat):(aE l).take (k * 1)=aE (l.take k):=by rw [dP,Sa]
def l9 (x:Int):Prop:=-1000000000<=x/\x<=1000000000
def Pi (e w)(hi:cQ e.inst.op)(hl:l9 e.left):Ca 69 #[e.val] w (RB w ((goE e).val)):=by
 have E:=St.start w [] zN;obtain ⟨no,pc,⟨op,rd,rs1,rs2,imm⟩,guess,is,left,value,next,addr,halt,took,known,filled⟩:=e;have HK:=V (λW=>ec ⟨op,rd,rs1,rs2,imm⟩ W hi);unfold l9 at hl;dsimp only at hl hi;by_cases h1:is=1
 .subst h1
  by_cases h2:left - 1<=0
  .by_cases h3:ae op=5
   .by_cases h4:halt=0
    .have hV:goE ⟨no,pc,⟨op,rd,rs1,rs2,imm⟩,guess,1,left,value,next,addr,halt,took,known,filled⟩=⟨no,pc,⟨op,rd,rs1,rs2,imm⟩,guess,3,0,value,next,addr,halt,took,true,filled⟩:=by simp [goE,h2,h3,h4]
     rw [hV,h4];unfold En.val;rw [show ae (⟨op,rd,rs1,rs2,imm⟩:Ins).op=5 from h3] at HK;clear hV h3;exact vY
    .have hV:goE ⟨no,pc,⟨op,rd,rs1,rs2,imm⟩,guess,1,left,value,next,addr,halt,took,known,filled⟩=⟨no,pc,⟨op,rd,rs1,rs2,imm⟩,guess,3,0,value,next,addr,halt,took,known,filled⟩:=by simp [goE,h2,h3,h4]
     rw [hV];unfold En.val;rw [show ae (⟨op,rd,rs1,rs2,imm⟩:Ins).op=5 from h3] at HK;have b4:(halt == 0)=false:=by simpa using h4
     clear hV h3 h4;exact vY
   .have hV:goE ⟨no,pc,⟨op,rd,rs1,rs2,imm⟩,guess,1,left,value,next,addr,halt,took,known,filled⟩=⟨no,pc,⟨op,rd,rs1,rs2,imm⟩,guess,3,0,value,next,addr,halt,took,known,filled⟩:=by simp [goE,h2,h3]
    rw [hV];unfold En.val;dsimp only at HK;generalize ae op=κ at *;have b3:(κ == 5)=false:=by simpa using h3
    clear hV h3;exact vY
  .have hV:goE ⟨no,pc,⟨op,rd,rs1,rs2,imm⟩,guess,1,left,value,next,addr,halt,took,known,filled⟩=⟨no,pc,⟨op,rd,rs1,rs2,imm⟩,guess,1,left - 1,value,next,addr,halt,took,known,filled⟩:=by simp [goE,h2]
   rw [hV];unfold En.val;clear hV;exact vY
 .have hV:goE ⟨no,pc,⟨op,rd,rs1,rs2,imm⟩,guess,is,left,value,next,addr,halt,took,known,filled⟩=⟨no,pc,⟨op,rd,rs1,rs2,imm⟩,guess,is,left,value,next,addr,halt,took,known,filled⟩:=by simp [goE,h1]
  rw [hV];unfold En.val;clear hV;exact vY
end
section
open Go.RowKit Go.ChangeShapes Go.WideShapes Go.ChangeAt Go.Deep
def G8 (g o j):(⟨g,o,none⟩:Addr).add j=⟨g,o+j,none⟩:=by unfold Addr.add;split <;> simp_all
def PJ {H:Type}{enc:TypeId × Value->H}{W fuel T cs}{x:DataW H × List MemPlace}(hT:Tryz.prog.underlying T=some (.slice 28))(hf:DataW.trod enc Tryz.prog W 0 (λ_=>true) true fuel T cs=some x):∃ A n c,∃ l:List Nat,cs=[.slice A n c]/\Rd W W.heap.size 1 A n c (ai l) /\ ∀ z∈l,z<4294967296:=by
 have hC:Tryz.prog.cellsOf 28=1:=by kernel_rfl
 rcases open_ints hT underlying28 hC hf with ⟨iy,_⟩|⟨x,l,cc,zs,iy,_,hl,hm,hz,_,jb,ak⟩
 .exact ⟨none,0,0,[],iy,Rd.nil (mB _),by simp⟩
 .have ap:zs.length=cc:=by simpa using hz
  obtain ⟨ms,aR⟩:∃ ms:List Nat,zs=ms.map (λ(m:Nat)=>(m:Int)):=by
   refine ⟨zs.map Int.toNat,?_⟩;rw [List.map_map]
   conv=>lhs;rw [<- List.map_id zs]
   apply vJ;intro z hz;have:=bounds_u32 (ak z hz);simp only [id,Function.comp];omega
  subst aR;refine ⟨some x,l,cc,ms.take l,iy,⟨by rw [lY,cK];simp at ap;omega,hl,hm,λhn=>?_⟩,λz hz=>?_⟩
  .obtain ⟨g,o,spot⟩:=x
   simp only [gq] at ap;have h0:=jb 0 eX;have hs:spot=none:=by simpa [Addr.add] using World.cell?_spot h0
   subst hs;refine ⟨g,o,rfl,lU W _ h0 |> λh=>by simpa [Addr.add] using h,λj u hu=>?_⟩;have hj:=(aK.1 hu).1;rw [lY,cK] at hj;rw [IU sS] at hu;have h1:=jb j eX;have e1:(⟨g,o,none⟩:Addr).add j=⟨g,o+j,none⟩:=G8 g o j;rw [e1] at h1;rw [h1,<- hu];simp [List.getElem_take,List.getD,show j<ms.length by omega]
  .have pe:=jE hz
   have:=bounds_u32 (ak (z:Int) (fQ.2 ⟨z,pe,rfl⟩));omega
def Td {H:Type}{enc:TypeId × Value->H}{W fuel T cs}{x:DataW H × List MemPlace}(hT:Tryz.prog.underlying T=some (.slice 3))(hf:DataW.trod enc Tryz.prog W 0 (λ_=>true) true fuel T cs=some x):∃ A n c,∃ l:List Int,cs=[.slice A n c]/\Rd W W.heap.size 1 A n c (aE l) /\ ∀ z∈l,I6 z:=by
 have hC:Tryz.prog.cellsOf 3=1:=by kernel_rfl
 rcases open_ints hT underlying3 hC hf with ⟨iy,_⟩|⟨x,l,cc,zs,iy,_,hl,hm,hz,_,jb,ak⟩
 .exact ⟨none,0,0,[],iy,Rd.nil (mB _),by simp⟩
 .have ap:zs.length=cc:=by simpa using hz
  refine ⟨some x,l,cc,zs.take l,iy,⟨by rw [nd,cK];omega,hl,hm,λhn=>?_⟩,λz hz=>bounds_i64 (ak z (jE hz))⟩;obtain ⟨g,o,spot⟩:=x;have h0:=jb 0 O;have hs:spot=none:=by simpa [Addr.add] using World.cell?_spot h0
  subst hs;refine ⟨g,o,rfl,lU W _ h0 |> λh=>by simpa [Addr.add] using h,λj u hu=>?_⟩;have hj:=(aK.1 hu).1;rw [nd,cK] at hj;have e1:(⟨g,o,none⟩:Addr).add j=⟨g,o+j,none⟩:=G8 g o j;have h1:=jb j O;rw [e1] at h1;rw [h1,<- hu];have h2:(zs.take l)[j]?=some zs[j]:=by rw [kF];simp [show j<l by omega,show j<zs.length by omega]
  rw [pA h2];simp [List.getD,show j<zs.length by omega]
def h7j : ∃ f0 f1 f2 f3 f4 f5 f6 f7 f8 f9 f10:Field,Tryz.prog.underlying 25=some (.struct #[f0,f1,f2,f3,f4,f5,f6,f7,f8,f9,f10]) /\ (f0.offset=0/\Tryz.prog.cellsOf f0.type=1/\Tryz.prog.underlying f0.type=some (.int .i64)) /\ (f1.offset=1/\Tryz.prog.cellsOf f1.type=1/\Tryz.prog.underlying f1.type=some (.int .i64)) /\ (f2.offset=2/\Tryz.prog.cellsOf f2.type=1/\Tryz.prog.underlying f2.type=some (.int .i64)) /\ (f3.offset=3/\Tryz.prog.cellsOf f3.type=1/\Tryz.prog.underlying f3.type=some (.int .i64)) /\ (f4.offset=4/\Tryz.prog.cellsOf f4.type=1/\Tryz.prog.underlying f4.type=some (.int .i64)) /\ (f5.offset=5/\Tryz.prog.cellsOf f5.type=1/\Tryz.prog.underlying f5.type=some (.int .i64)) /\ (f6.offset=6/\Tryz.prog.cellsOf f6.type=1/\Tryz.prog.underlying f6.type=some (.int .i64)) /\ (f7.offset=7/\Tryz.prog.cellsOf f7.type=1/\Tryz.prog.underlying f7.type=some (.int .i64)) /\ (f8.offset=8/\Tryz.prog.cellsOf f8.type=1/\Tryz.prog.underlying f8.type=some (.slice 3)) /\ (f9.offset=9/\Tryz.prog.cellsOf f9.type=1/\Tryz.prog.underlying f9.type=some .bool) /\ (f10.offset=10/\Tryz.prog.cellsOf f10.type=1/\Tryz.prog.underlying f10.type=some (.slice 28)):=by
 refine ⟨_,_,_,_,_,_,_,_,_,_,_,underlying25,⟨?_,?_,?_⟩,⟨?_,?_,?_⟩,⟨?_,?_,?_⟩,⟨?_,?_,?_⟩,⟨?_,?_,?_⟩,⟨?_,?_,?_⟩,⟨?_,?_,?_⟩,⟨?_,?_,?_⟩,⟨?_,?_,?_⟩,⟨?_,?_,?_⟩,⟨?_,?_,?_⟩⟩ <;> kernel_rfl
structure D8 (c:Cf):Prop where
 i0 : I6 c.mode
 i1 : I6 c.width
 i2 : I6 c.rob
 i3 : I6 c.queue
 i4 : I6 c.stores
 i5 : I6 c.slots
 i6 : I6 c.sets
 i7 : I6 c.ways
 tape:∀ z∈c.tape,z<4294967296
def open_conf {H:Type} {enc:TypeId × Value->H} {W:World} {base:Nat} {v:Value} {d:DataW H} {p:List MemPlace}(hv:Value.okWide Tryz.prog W .any base 25 v) (h:DataW.Trod enc Tryz.prog W 0 (λ_=>true) true 25 v d p) :∃ (c:Cf) (Al:Option Addr) (cl:Nat) (At:Option Addr) (ct:Nat),v = .agg (dV c Al cl At ct).toArray/\Rd W W.heap.size 1 Al c.lat.length cl (aE c.lat)/\Rd W W.heap.size 1 At c.tape.length ct (ai c.tape)/\D8 c:=by
 obtain ⟨f0,f1,f2,f3,f4,f5,f6,f7,f8,f9,f10,hu,⟨o0,k0,u0⟩,⟨o1,k1,u1⟩,⟨o2,k2,u2⟩,⟨o3,k3,u3⟩,⟨o4,k4,u4⟩,⟨o5,k5,u5⟩,⟨o6,k6,u6⟩,⟨o7,k7,u7⟩,⟨o8,k8,u8⟩,⟨o9,k9,u9⟩,⟨o10,k10,u10⟩⟩:=h7j;obtain ⟨cs,rfl,hsz⟩:=okWide_struct hu hv;obtain ⟨fuel,hf⟩:=h;obtain ⟨ys,n,_,_,hl,aV,hg⟩:=DataW.trod_struct hu hf;have aX:cs.toList.length=11:=hl.trans aj;obtain ⟨l⟩:=cs
 match l,aX with
 | [a0,a1,a2,a3,a4,a5,a6,a7,a8,a9,a10],_=>
  match ys,aV with
  | [y0,y1,y2,y3,y4,y5,y6,y7,y8,y9,y10],_=>
   have g0:=hg 0 f0 F;have g1:=hg 1 f1 F;have g2:=hg 2 f2 F;have g3:=hg 3 f3 F;have g4:=hg 4 f4 F;have g5:=hg 5 f5 F;have g6:=hg 6 f6 F;have g7:=hg 7 f7 F;have g8:=hg 8 f8 F;have g9:=hg 9 f9 F;have g10:=hg 10 f10 F;rw [o0,k0] at g0;rw [o1,k1] at g1;rw [o2,k2] at g2;rw [o3,k3] at g3;rw [o4,k4] at g4;rw [o5,k5] at g5;rw [o6,k6] at g6;rw [o7,k7] at g7;rw [o8,k8] at g8;rw [o9,k9] at g9;rw [o10,k10] at g10;obtain ⟨n0,e0,_,w0⟩:=ri u0 g0;obtain ⟨n1,e1,_,w1⟩:=ri u1 g1;obtain ⟨n2,e2,_,w2⟩:=ri u2 g2;obtain ⟨n3,e3,_,w3⟩:=ri u3 g3;obtain ⟨n4,e4,_,w4⟩:=ri u4 g4;obtain ⟨n5,e5,_,w5⟩:=ri u5 g5;obtain ⟨n6,e6,_,w6⟩:=ri u6 g6;obtain ⟨n7,e7,_,w7⟩:=ri u7 g7;obtain ⟨Al,nl,cl,ll,e8,r8,_⟩:=Td u8 g8;obtain ⟨b9,e9,_⟩:=DataW.trod_bool u9 g9;obtain ⟨At,nt,ct,lt,e10,r10,z10⟩:=PJ u10 g10;simp [Value.cells] at e0 e1 e2 e3 e4 e5 e6 e7 e8 e9 e10;subst e0 e1 e2 e3 e4 e5 e6 e7 e8 e9 e10;have q8:ll.length=nl:=by have:=r8.len;rwa [nd,dP] at this
   have q10:lt.length=nt:=by have:=r10.len;rwa [lY,dP] at this
   subst q8 q10;exact ⟨⟨n0,n1,n2,n3,n4,n5,n6,n7,ll,b9,lt⟩,Al,cl,At,ct,rfl,r8,r10,⟨bounds_i64 w0,bounds_i64 w1,bounds_i64 w2,bounds_i64 w3,bounds_i64 w4,bounds_i64 w5,bounds_i64 w6,bounds_i64 w7,z10⟩⟩
end
section
open Go.RowKit Wd
def h7k (op:Int):(op=11\/op=14\/op=16\/op=12\/op=15\/op=17\/op=13\/op=18)\/(aU op=0/\(op == 11)=false/\(op == 14)=false/\(op == 16)=false/\(op == 12)=false/\(op == 15)=false/\(op == 17)=false/\(op == 13)=false/\(op == 18)=false):=by
 by_cases h:(op=11\/op=14\/op=16\/op=12\/op=15\/op=17\/op=13\/op=18)
 .exact .inl h
 .have key:∀ k:Int,op≠k->(op == k)=false:=λk hk=>by simpa using hk
  refine .inr ⟨?_,key _ ?_,key _ ?_,key _ ?_,key _ ?_,key _ ?_,key _ ?_,key _ ?_,key _ ?_⟩
  .unfold aU
   rw [Y O,Y O,Y O]
  all_goals omega
def mE (i:Ins)(w):Ca 44 #[i.val] w (RB w (I (aU i.op))):=by
 obtain ⟨op,rd,rs1,rs2,imm⟩:=i;dsimp only;unfold Ins.val;rcases h7k op with h|⟨hs,b1,b2,b3,b4,b5,b6,b7,b8⟩
 .rcases h with rfl|rfl|rfl|rfl|rfl|rfl|rfl|rfl
  all_goals
   go_enter func44,ntmps44;go_wp2;go_ret;exact ⟨rfl,af.alloc _ _⟩
 .rw [hs]
  clear hs;go_enter func44,ntmps44;go_wp2;go_ret;exact ⟨rfl,af.alloc _ _⟩
def t0 (op:Int):0<=aU op/\aU op<=4:=by
 unfold aU;split
 .omega
 split
 .omega
 split <;> omega
end
section
open Go.RowKit Go.Sort
def Nh (w:World) (D0:List Da) (ways:Int) (v1 v2:Value) (w':World) (ss:List Pu) (C:List (List Wy)):Prop :=
 ∃ A2 c2 A n c S,v1 = .slice A2 ss.length c2/\v2 = .agg #[I ways,.slice A n c]/\Out w D0 w' [ab 2 A2 ss.length c2 (bD ss),ab 1 A n c (cj S),cR S]/\aZ S=C
def yd (As:Option Addr) (ns cs:Nat) (ss:List Pu) (A:Option Addr) (n c:Nat) (S:List Cs):List Da:=[ab 2 As ns cs (bD ss),ab 1 A n c (cj S),cR S]
def h7l {w A n c S As ns cs ss}(hr:bT w w.heap.size A n c S)(Q:Rd w w.heap.size 2 As ns cs (bD ss)):∀ d∈yd As ns cs ss A n c S,d.ok w:=λd hd=>by
 rcases bB.1 hd with rfl|hd
 .exact Q
 .rcases bB.1 hd with rfl|hd
  .exact hr.rd
  .obtain rfl:=dm.1 hd;exact hr.sets
def Yd {ways A n c S As ns cs ss C' ss' b}(j4:kP S)(aH:∀ p∈ss,p.addr<4294967296/\p.data.size<=maxLen)(h:pM ways ss (aZ S) ss' C' b)(w)(hr:bT w w.heap.size A n c S)(Q:Rd w w.heap.size 2 As ns cs (bD ss)):Ca 86 #[.slice As ns cs,.agg #[I ways,.slice A n c]] w λe w'=>∃ y z,e = .returned (.tuple #[y,z,.bool b])/\Nh w (yd As ns cs ss A n c S) ways y z w' ss' C':=by
 have E:=St.start w _ (h7l hr Q);unfold yd at E;have R:=Q.puslen;have hc1:=Q.le;have aN:=Q.mx;unfold maxLen at aN;by_cases h0:ss=[]
 .obtain ⟨rfl,rfl,rfl⟩:ss'=ss/\C'=aZ S/\b=false:=by
   cases h with
   | none h hs he hb=>exact ⟨hs,he,hb⟩
   | no s r h=>rw [h] at h0;cases h0
   | yes s r h=>rw [h] at h0;cases h0
  subst h0;obtain rfl:ns=0:=by rw [<- R];rfl
  go_enter func86,ntmps86;go_wp2_with (((first|refine aA ?_|(refine am ?_;clear E;intro Z J E));refine zs ?_));obtain ⟨gR,gC,rfl,rfl⟩:=E.names2;refine bA aj E [.blk gC 35 [I ways,.slice A n c]] _ cM (λ_ h=>h) ?_;clear E;intro E G;refine an 0 G ?_;refine cX 1 G ?_;refine cA 2 G ?_;refine aB 3 (λK X=>?_);go_wp2_with (refine iP ?_;clear E;intro J E;(try refine zs ?_));have G:=G.nextA E;refine X.out _ _ G ?_;clear X;refine zs ?_;refine cA 4 G ?_;refine bt ?_;(go_wp2;((try simp only [Exit.inBlock,Exit.then]);refine bc (uQ F E) F ?_);exact ⟨_,_,rfl,As,cs,A,n,c,S,rfl,rfl,E.outA,rfl⟩)
 .obtain ⟨s,r,CW,h1,hw,hb⟩:∃ s r CW,ss=s::r/\l0 ways (aZ S) s.addr s.data CW b/\(b=false/\ss'=ss/\C'=aZ S/\CW=aZ S\/b=true/\ss'=r/\C'=CW):=by
   cases h with
   | none h=>exact absurd h h0
   | no s r h hw hs he hb=>exact ⟨s,r,_,h,by rw [hb];exact hw,.inl ⟨hb,hs,he,rfl⟩⟩
   | yes s r h hw hs hb=>exact ⟨s,r,_,h,by rw [hb];exact hw,.inr ⟨hb,hs,rfl⟩⟩
  subst h1;obtain ⟨aI,aO⟩:=aH s (ee ..);obtain ⟨pa,pd⟩:=s;have qK:0<ns:=by rw [<- R];exact vM _
  have aY:1<=ns:=qK;have bd:(bD (⟨pa,pd⟩::r))[0]?=some (U (pa:Int)):=rfl;have be:(bD (⟨pa,pd⟩::r))[1]?=some (.string pd):=rfl;have hW:=V hw;have hne:¬ ((ns:Int)=0):=by omega
  have hrl:ns - 1=r.length:=by rw [<- R];rfl
  have E:=E.fromPart (k:=1) (sz:=2) (A:=As) (n:=ns) (c:=cs) (xs:=bD (⟨pa,pd⟩::r)) au aY;rw [show (bD (⟨pa,pd⟩::r)).drop (1 * 2)=bD r from rfl] at E;clear aH hw h h0;replace hb:=V hb;go_enter func86,ntmps86;go_upto_region 3 with ((first|((refine qi F F F ?_);refine zs ?_)|((first|refine aA ?_|(refine am ?_;clear E;intro Z J E));refine zs ?_)));rename_i K X;obtain ⟨gR,gC,rfl,rfl⟩:=E.names2;go_cut [7,8] (λp s wx=>∃ gW A2 n2 c2 S2,p = .pointer (some ⟨gW,0,none⟩)/\s = .bool b/\Hid (aZ S2=CW)/\St w [ab 2 As ns cs (bD (⟨pa,pd⟩::r)),ab 1 A n c (cj S),cR S] wx [.blk gW 35 [I ways,.slice A2 n2 c2],.blk gR 35 [I 0,.slice none 0 0],.blk gC 35 [I ways,.slice A n c]] [ab 1 A2 n2 c2 (cj S2),cR S2,ab 2 (fW As 1 cs 2) (ns - 1) (cs - 1) (bD r),ab 2 As ns cs (bD (⟨pa,pd⟩::r)),ab 1 A n c (cj S),cR S]);case first=>
   refine bA aj E [.blk gC 35 [I ways,.slice A n c]] _ cM (λ_ h=>h) ?_;clear E;intro E G;refine cX 0 G ?_;refine an 1 G ?_;refine pz 2 G ?_;refine az 3 G ?_;refine cX 4 G ?_;refine an 5 G ?_;refine pz 6 G ?_;refine az 7 G ?_;refine cX 8 G ?_;refine wpAnyH_ready (rs:=[9,13]) aj aF (dK F (λK X=>?_) (dK F (λK X=>?_) AllReadyH.nil))
   .go_wp2_with ((go_at_call 145;refine (FE aI aO j4 hW.out _ E.rds).mono ?_;rintro e J ⟨_,rfl,A2,n2,c2,S2,rfl,hO,ad⟩;replace E:=E.callA hO;clear hO))
    have G:=G.nextA E;refine X.out _ _ G ?_;clear X;refine zs ?_;refine an 10 G ?_;refine zp 11 G ?_;refine zp 12 G ?_;refine aB 13 (λK X=>?_);go_wp2_with ((refine bK F E ?_;clear E;intro Z J E);refine zs ?_);have G:=G.nextA E;refine X.out _ _ G ?_;clear X;refine zs ?_;exact Lf
   .go_wp2_with ((refine bK F E ?_;clear E;intro Z J E);refine zs ?_)
    have G:=G.nextA E;refine X.out _ _ G ?_;clear X;refine zs ?_;refine aB 9 (λK X=>?_);go_wp2_with ((go_at_call 145;refine (FE aI aO j4 hW.out _ E.rds).mono ?_;rintro e J ⟨_,rfl,A2,n2,c2,S2,rfl,hO,ad⟩;replace E:=E.callA hO;clear hO));have G:=G.nextA E;refine X.out _ _ G ?_;clear X;refine zs ?_;refine an 10 G ?_;refine zp 11 G ?_;refine zp 12 G ?_;exact Lf
  case rest=>
   obtain ⟨gW,A2,n2,c2,S2,rfl,rfl,ad,E⟩:=hcut;refine X _ _ ?_;rcases hb.out with ⟨rfl,rfl,rfl,h2⟩|⟨rfl,rfl,rfl⟩
   .go_wp2_with (((first|refine aA ?_|(refine am ?_;clear E;intro Z J E));refine zs ?_))
    refine bA aj E [.blk gC 35 [I ways,.slice A n c]] _ cM (λ_ h=>h) ?_;clear E;intro E G;refine an 0 G ?_;refine cX 1 G ?_;refine cA 2 G ?_;refine aB 3 (λK X=>?_);go_wp2_with (refine iP ?_;clear E;intro J E;(try refine zs ?_));have G:=G.nextA E;refine X.out _ _ G ?_;clear X;refine zs ?_;refine cA 4 G ?_;refine bt ?_;(go_wp2;((try simp only [Exit.inBlock,Exit.then]);refine bc (uQ F E) F ?_);exact ⟨_,_,rfl,As,cs,A,n,c,S,by rw [<- R];rfl,rfl,by rw [<- R] at E ⊢;exact E.outA,rfl⟩)
   .go_wp2_with (((first|refine aA ?_|(refine am ?_;clear E;intro Z J E));refine zs ?_))
    refine bA aj E [.blk gW 35 [I ways,.slice A2 n2 c2]] _ cM (λ_ h=>h) ?_;clear E;intro E G;refine an 0 G ?_;refine Jv 1 G ?_;refine cX 2 G ?_;refine cA 3 G ?_;refine aB 4 (λK X=>?_);go_wp2_with (refine iP ?_;clear E;intro J E;(try refine zs ?_));have G:=G.nextA E;refine X.out _ _ G ?_;clear X;refine zs ?_;refine cA 5 G ?_;refine bt ?_;(go_wp2;((try simp only [Exit.inBlock,Exit.then]);refine bc (uQ F E) F ?_);exact ⟨_,_,rfl,fW As 1 cs 2,cs - 1,A2,n2,c2,S2,by rw [<- hrl];rfl,rfl,by rw [<- hrl];exact E.outA,ad.out⟩)
end
section
open Go.RowKit Wd
def VY (c:Cf) (Al:Option Addr) (cl:Nat) (At:Option Addr) (ct:Nat) (w:World) (hl:Rd w w.heap.size 1 Al c.lat.length cl (aE c.lat)) (ht:Rd w w.heap.size 1 At c.tape.length ct (ai c.tape)) (h3:bE 1 4 c.sets=3) :Ca 24 #[.agg (dV c Al cl At ct).toArray] w λe w'=>∃ A1 c1 A2 c2,e = .returned (.agg (dV (bf c) A1 c1 A2 c2).toArray)/\Out w [ab 1 Al c.lat.length cl (aE c.lat),ab 1 At c.tape.length ct (ai c.tape)] w' [ab 1 A1 (bf c).lat.length c1 (aE (bf c).lat),ab 1 A2 (bf c).tape.length c2 (ai (bf c).tape)]:=by
 have E:=St.start w [ab 1 Al c.lat.length cl (aE c.lat),ab 1 At c.tape.length ct (ai c.tape)] (zC hl (zC ht zN));clear hl ht;obtain ⟨mode,width,rob,queue,stores,slots,sets,ways,lat,tables,tape⟩:=c;unfold dV;dsimp only at *;obtain ⟨nl,hnl⟩:∃ n,lat.length=n:=⟨_,rfl⟩;obtain ⟨nt,av⟩:∃ n,tape.length=n:=⟨_,rfl⟩;rw [hnl,av] at E ⊢;obtain ⟨N,hN⟩:∃ N:Nat,N=min nl 64:=⟨_,rfl⟩;obtain ⟨T,hT⟩:∃ T:Nat,T=min nt 64:=⟨_,rfl⟩;have bh:Hid ((N:Int)=if (64:Int)<(nl:Int) then 64 else (nl:Int)):=V ox;have bi:Hid ((T:Int)=if (64:Int)<(nt:Int) then 64 else (nt:Int)):=V ox;have bk:N<=nl:=by omega
 have hTl:T<=nt:=by omega
 have hN64:N<=64:=by omega
 have hT64:T<=64:=by omega
 have hlt:(lat.take 64).length=N:=by rw [cK];omega
 have htt:(tape.take 64).length=T:=by rw [cK];omega
 have hltk:lat.take N=lat.take 64:=by
  rcases sw nl 64 with h|h
  .rw [cD O,cD O]
  .rw [show N=64 by omega]
 have httk:tape.take T=tape.take 64:=by
  rcases sw nt 64 with h|h
  .rw [cD O,cD O]
  .rw [show T=64 by omega]
 replace hN:=V hN;replace hT:=V hT;replace hlt:=V hlt;replace htt:=V htt;replace hltk:=V hltk;replace httk:=V httk;replace hnl:=V hnl;replace av:=V av;obtain ⟨S,hS⟩:∃ S,bE 1 4 sets=S:=⟨_,rfl⟩;obtain ⟨SS,aw⟩:∃ SS,(if S=3 then 2 else S)=SS:=⟨_,rfl⟩;have a':Hid ((bf ⟨mode,width,rob,queue,stores,slots,sets,ways,lat,tables,tape⟩).lat=(lat.take 64).map (bE 1 8)):=V F;have bb:Hid ((bf ⟨mode,width,rob,queue,stores,slots,sets,ways,lat,tables,tape⟩).tape=tape.take 64):=V F
 have hE:Hid (∀ A1 c1 A2 c2,dV (bf ⟨mode,width,rob,queue,stores,slots,sets,ways,lat,tables,tape⟩) A1 c1 A2 c2=[I (bE 0 2 mode),I (bE 1 2 width),I (bE 2 8 rob),I (bE 1 4 queue),I (bE 1 4 stores),I (bE 2 6 slots),I SS,I (bE 1 2 ways),.slice A1 N c1,.bool tables,.slice A2 T c2]):=V (by
  intro A1 c1 A2 c2
  simp only [dV,bf,gq,hlt.out,htt.out,hS,aw])
 replace hS:=V hS;go_enter func24,ntmps24;obtain rfl:S=3:=by rw [<- hS.out];exact h3
 rw [aa F] at aw;subst aw;(go_wp2_with ((try refine zs ?_);(first|refine z0 ?_|(go_at_call 52;(refine (zd (by rw [(E.bkAt dD).cell];rfl) ((E.bkAt dD).frozen (ce F)) (by first|exact hS|exact V F)).mono ?_;rintro x J ⟨⟨y,rfl⟩,w1,hb,ac⟩;replace E:=E.putE hb dD ac;clear hb ac;(try simp only [zF] at E)))|(refine Gb ?_;clear E;intro Z J E)|(refine yU F E F F ?_;clear E;intro J E;(try simp only [fL,zZ,hltk.out,yi,httk.out] at E))|(refine aq ?_;clear E;intro vN J E))));obtain ⟨gL,g2,g1,rfl,rfl,rfl⟩:=E.names3;go_loopw [46] (λix wr=>∃ k:Nat,k<=N/\ix = I (k:Int)/\St w [ab 1 Al nl cl (aE lat),ab 1 At nt ct (ai tape)] wr [.blk gL 3 (aE (gF (bE 1 8) (lat.take 64) k)),.blk g2 25 [I 0,I 0,I 0,I 0,I 0,I 0,I 0,I 0,.slice none 0 0,.bool false,.slice none 0 0],.blk g1 25 [I (bE 0 2 mode),I (bE 1 2 width),I (bE 2 8 rob),I (bE 1 4 queue),I (bE 1 4 stores),I (bE 2 6 slots),I 2,I (bE 1 2 ways),.slice Al nl cl,.bool tables,.slice At nt ct]] [ab 1 Al nl cl (aE lat),ab 1 At nt ct (ai tape)]) (λix _=>N - (intOf ix).toNat);case atStart=>exact ⟨0,by omega,rfl,by rw [Ft];exact E⟩
 case round=>
  clear E;obtain ⟨k,hk,rfl,E⟩:=hrel;by_cases ik:k<N
  .obtain ⟨x,hx⟩:∃ x,(lat.take 64)[k]?=some x:=⟨_,ba (by have:=hlt.out;omega)⟩
   have hv:(aE (gF (bE 1 8) (lat.take 64) k))[k]?=some (I x):=pA (Jf hx);have aP:k<(aE (gF (bE 1 8) (lat.take 64) k)).length:=by rw [nd,Jr,hlt.out];omega
   obtain ⟨y,hy⟩:∃ y,bE 1 8 x=y:=⟨_,rfl⟩;have ij:=V (show (aE (gF (bE 1 8) (lat.take 64) k)).set k (I y)=aE (gF (bE 1 8) (lat.take 64) (k+1)) by have h1:=DJ (gF (bE 1 8) (lat.take 64) k) k y;rw [dP] at h1;rw [h1,<- hy,FZ hx]);replace hy:=V hy;clear hx;generalize aE (gF (bE 1 8) (lat.take 64) k)=U' at E hv aP ij;go_wp2_with ((try refine zs ?_);(first|refine p6 ?_|(go_at_call 52;refine (zd GX ((E.bkAt aC).frozen aP) hy).mono ?_;rintro x J ⟨⟨y,rfl⟩,w1,hb,ac⟩;replace E:=E.putE hb aC ac;clear hb ac;(try simp only [zF] at E))));go_roundw;case rel=>exact ⟨k+1,by omega,by go_num,by rw [<- ij.out];exact E⟩
   case measure=>exact zM
  .obtain rfl:k=N:=by omega
   rw [FM (by rw [hlt.out];exact aM _)] at E;go_wp2_with ((try refine zs ?_);(first|refine z0 ?_|(refine KM ?_;clear E;intro Z J E)|(refine yU F E F F ?_;clear E;intro J E;(try simp only [fL,zZ,hltk.out,yi,httk.out] at E))|(refine aq ?_;clear E;intro vN J E)));obtain ⟨gT,g3,g4,g5,rfl,rfl,rfl,rfl⟩:=E.names4;((try simp only [Exit.inBlock,Exit.then]);refine bc (eL F E) F ?_);replace E:=E.freezeB 0 aC 1 T T (by rw [lY,htt.out,dP]) (aM _) eT;(try simp only [zF] at E);replace E:=E.freezeB 0 aC 1 k k (by rw [nd,gq,hlt.out,dP]) (aM _) eT;refine ⟨some ⟨g3,0,none⟩,k,some ⟨gT,0,none⟩,T,?_,?_⟩
   .have h:=hE.out (some ⟨g3,0,none⟩) k (some ⟨gT,0,none⟩) T
    unfold dV at h;exact jB (λl:List Value=>Ending.returned (.agg l.toArray)) h.symm
   .rw [a'.out,bb.out,gq,hlt.out,htt.out]
    exact E.outA
end
end Go.Proofs.YtgnomadgnciifaaGreatDoor
