/- . -/
import Derived.Test.YtgnomadgnciifaaGreatDoorZ32
set_option linter.all false
set_option maxRecDepth 100000
set_option maxHeartbeats 16000000
namespace Go.Proofs.YtgnomadgnciifaaGreatDoor
variable {p:Prop}
open Go.Proofs.Tryz
def Kr (h:p:=by
 go_wp2_with ((try refine zs ?_);(first|refine Bu ?_|(refine Ez ?_;clear E;intro Z J E)|(go_at_call 83;refine (kJ (s:=s2) Q _ _ _ ((E.front _ (m:=.blk g 81 (ao k2 s2)) bx).lessD (D':=kD k2 s2++D) zD)).mono ?_;rintro x J ⟨⟨y,rfl⟩,A5,c5,ia⟩;clear E;have E:=ia;clear ia;(try simp only [zF] at E))|(refine aq ?_;clear E;intro vN J E)));go_end0;(try refine ⟨⟨_,rfl⟩,?_⟩);rw [hE.out]
 exact ⟨s2,j5,λh=>fK,λh=>fK,⟨(E.drop 0).lessD zD⟩⟩):=h
def Ms (h:p:=by
 refine cA 16 z ?_;refine aB 17 (λK X=>?_);go_wp2_with ((first|(go_at_call 86;refine (HD.out _ E.rds E.rdA).mono ?_;rintro x J ⟨_,_,rfl,As4,cs4,A4,n4,c4,S4,rfl,rfl,C,R⟩;replace E:=E.call3A C;clear C)|(refine bz F E F F ?_;clear E;intro J E)|(refine aW F E F F ?_;clear E;intro J E)|(refine ju F E F F ?_;clear E;intro J E));refine zs ?_);have z:=aO z E;refine X.out _ _ z ?_;clear X;refine zs ?_;refine cA 18 z ?_;refine bt ?_
 (go_wp2;go_meet;have a4:n4=C'.length:=(by rw [<- R,jN];exact ((E.rds (A:=A4) (n:=n4) (c:=c4) (S:=S4)).slen).symm);subst a4;exact ⟨_,_,_,_,_,_,rfl,rfl,rfl,V R,E.lessD eS⟩)):=h
def Jj (h:p:=by
 go_wp2_with ((try refine zs ?_);(first|refine Bu ?_|(refine Ez ?_;clear E;intro Z J E)|(go_at_call 83;refine (kJ (s:=s2) Q _ _ _ ((E.front _ (m:=.blk g 81 (ao k2 s2)) bx).lessD (D':=kD k2 s2++D) zD)).mono ?_;rintro x J ⟨⟨y,rfl⟩,A5,c5,ia⟩;clear E;have E:=ia;clear ia;(try simp only [zF] at E))|(refine aq ?_;clear E;intro vN J E)));refine bc (kw F _ _ _) F ⟨⟨_,rfl⟩,?_⟩;rw [hE.out]
 exact ⟨s2,j5,λh=>fK,λh=>fK,⟨a5⟩⟩):=h
def M1 (h:p:=by
 go_meet
 exact ⟨k1,s1,V (by rw [hA.out];simp),ie,⟨E.lessD nF⟩⟩):=h
section
open Go.RowKit Wd
inductive MX (w0:World) (D0 D:List Da) (M:List Mu) (g:Nat) (k:ak) (a b:Bool) (w:World):Prop
 | mk (s:em) (i8:Fit k s) (ha:a=true->s.feC=k.fetched.length) (hb:b=true->s.stC=k.stores.length/\s.reC=k.retired.length) (hS:MS w0 D0 D M g k s w)
def qo (k:ak) (ok:Bool):ak:=match ok,k.stores with
 | false,p::_=>if kN k.bus (dL p.addr) 3=false/\mw k true=true then fy k 3 (dL p.addr) ⟨#[]⟩ else k
 | _,_=>k
def J5 (k:ak):ak:=if k.stores≠[]\/k.halt=0 then k else
 if (eR k.dways k.data).2=true/\(eR k.dways k.data).1.data.size≠0 then { fy k 4 (eR k.dways k.data).1.line (eR k.dways k.data).1.data with data:=pg k.dways k.data (eR k.dways k.data).1.line } else k
def ZB (k):lu k=J5 (qo { k with stores:=(ff k.dways k.stores k.data).1,data:=(ff k.dways k.stores k.data).2.1 } (ff k.dways k.stores k.data).2.2):=rfl
def Rl {B k}(h:KOk B k)(h2:B+1<=1000000)(ok):KOk (B+1) (qo k ok):=by
 unfold qo;split
 .rename_i p r hp
  have ac:=h.st p (by rw [hp];exact ee ..);split
  .exact h.ask O 3 (tI ac.1) ag
  .exact h.up O O
 .exact h.up O O
def Fit.ask {k:ak} {s:em} (h:Fit k s) (kind:Int) (line:Nat) (data:ByteArray) (A:Option Addr) (c:Nat):Fit (fy k kind line data) { s with busA:=A,busC:=c } :=
 ⟨h.data,h.words,h.robC,h.robM,h.feO,h.stO,h.reO⟩
def WJ {w0 w D0 D M g k a b B}(hk:KOk B k)(hB:B+2<=1000000)(hX:MX w0 D0 D M g k a b w):Ca 37 #[.pointer (some ⟨g,0,none⟩)] w λx w'=>(∃ y,x = .returned y)/\MX w0 D0 D M g (lu k) false false w':=by
 obtain ⟨s,i8,-,-,⟨E⟩⟩:=hX;have hd:=Df k.dways k.stores k.data;have hs:=KE k.dways k.stores k.data;have ij:=hk.stlen;have hk1:KOk B { k with stores:=(ff k.dways k.stores k.data).1,data:=(ff k.dways k.stores k.data).2.1 } :=
  { hk with stlen:=iG hs.2 ij,st:=λp hp=>hk.st p (hs.1 p hp),data:=hd.right hk.data,dok:=hd.cok hk.dok }
 have hE:=ZB k;obtain ⟨ss',C',ok,aI⟩:∃ ss' C' ok,ff k.dways k.stores k.data=(ss',C',ok):=⟨_,_,_,rfl⟩;rw [aI] at hd hs hk1 hE;dsimp only at hd hs hk1 hE;have HD:=V (λ(W:World) (h1:bT W W.heap.size s.dA k.data.length s.dC s.dS) (h2:Rd W W.heap.size 2 s.stA k.stores.length s.stC (bD k.stores))=>WX h1 h2 i8.data hd hk.dok (λp hp=>⟨(hk.st p hp).1,by have:=(hk.st p hp).2;unfold maxLen;omega⟩));clear aI hd hs;replace hE:=V hE;simp only [kD,i8.feO,i8.stO,i8.reO,bO,zL] at E;go_enter func37,ntmps37;go_upto_region 0 with fail;rename_i K X
 go_cut [2,3,4] (λs2 s3 s4 wx=>∃ As4 cs4 g3 A4 c4 S4,s2 = .slice As4 ss'.length cs4/\s3 = .pointer (some ⟨g3,0,none⟩)/\s4 = .bool ok/\Hid (aZ S4=C') /\
  St w0 D0 wx (.blk g3 35 [I k.dways,.slice A4 C'.length c4] :: .blk g 81 (ao k s) :: .row s.robA 54 (ens k.rob)::M) (kD { k with stores:=ss',data:=C' } { s with stA:=As4,stC:=cs4,dA:=A4,dC:=c4,dS:=S4 }++D))
 case first=>
  refine bA aj E _ _ (λ_ h=>h) (λ_ h=>h) ?_;clear E;intro E z;refine an 0 z ?_;refine zp 1 z ?_;refine az 2 z ?_;refine az 3 z ?_;refine fC 4 z ?_;refine an 5 z ?_;refine zp 6 z ?_;refine az 7 z ?_;refine az 8 z ?_;refine fC 9 z ?_;refine wpAnyH_ready (rs:=[10,15]) aj aF (dK F (λK X=>?_) (dK F (λK X=>?_) AllReadyH.nil))
  .go_wp2_with ((go_at_call 86;refine (HD.out _ E.rds E.rdA).mono ?_;rintro x J ⟨_,_,rfl,As4,cs4,A4,n4,c4,S4,rfl,rfl,C,R⟩;replace E:=E.call3A C;clear C))
   have z:=aO z E;refine X.out _ _ z ?_;clear X;refine zs ?_;refine an 11 z ?_;refine zp 12 z ?_;refine zp 13 z ?_;refine zp 14 z ?_;refine aB 15 (λK X=>?_);go_wp2_with ((refine bK F E ?_;clear E;intro Z J E);refine zs ?_);have z:=aO z E;refine X.out _ _ z ?_;clear X;refine zs ?_;exact Ms
  .go_wp2_with ((refine bK F E ?_;clear E;intro Z J E);refine zs ?_)
   have z:=aO z E;refine X.out _ _ z ?_;clear X;refine zs ?_;refine aB 10 (λK X=>?_);go_wp2_with ((go_at_call 86;refine (HD.out _ E.rds E.rdA).mono ?_;rintro x J ⟨_,_,rfl,As4,cs4,A4,n4,c4,S4,rfl,rfl,C,R⟩;replace E:=E.call3A C;clear C));have z:=aO z E;refine X.out _ _ z ?_;clear X;refine zs ?_;refine an 11 z ?_;refine zp 12 z ?_;refine zp 13 z ?_;refine zp 14 z ?_;exact Ms
 case rest=>
  obtain ⟨As4,cs4,g3,A4,c4,S4,rfl,rfl,rfl,R,E⟩:=hcut;refine X _ _ ?_;clear X;go_upto_region 1 with fail;rename_i K1 aP;go_cut [] (λwx=>∃ s1,Fit { k with stores:=ss',data:=C' } s1/\MS w0 D0 D M g { k with stores:=ss',data:=C' } s1 wx);case first=>
   refine bA aj E [.blk g3 35 [I k.dways,.slice A4 C'.length c4]] _ cM (λ_ h=>h) ?_;clear E;intro E z;refine an 0 z ?_;refine an 1 z ?_;refine an 2 z ?_;refine fC 3 z ?_;refine zp 4 z ?_;refine az 5 z ?_;refine az 6 z ?_;refine aB 7 (λK X=>?_);go_wp2_with ((first|(refine bz F E F F ?_ (iv:=by (try simp only [iJ]);rw [bM];decide);clear E;intro J E;(try simp only [zF] at E);refine zs ?_)|(refine jd F E F F ?_ (i8:=by (try simp only [cw]);rw [bM];exact ce F);clear E;intro J E;(try simp only [fL,jr] at E);refine zs ?_)|(refine bz F E F F ?_;clear E;intro J E)|(refine aW F E F F ?_;clear E;intro J E)|(refine ju F E F F ?_;clear E;intro J E));refine zs ?_);have z:=aO z E;refine X.out _ _ z ?_;clear X;refine zs ?_;refine zp 8 z ?_;refine az 9 z ?_;refine az 10 z ?_;refine aB 11 (λK X=>?_);go_wp2_with ((first|(refine bz F E F F ?_ (iv:=by (try simp only [iJ]);rw [bM];decide);clear E;intro J E;(try simp only [zF] at E);refine zs ?_)|(refine jd F E F F ?_ (i8:=by (try simp only [cw]);rw [bM];exact ce F);clear E;intro J E;(try simp only [fL,jr] at E);refine zs ?_)|(refine bz F E F F ?_;clear E;intro J E)|(refine aW F E F F ?_;clear E;intro J E)|(refine ju F E F F ?_;clear E;intro J E));refine zs ?_);have z:=aO z E;refine X.out _ _ z ?_;clear X;refine zs ?_;refine bt ?_;(go_wp2;go_meet;(first|rw [Aj (k:=k) (s:=s) ss' F,vR S4 C' k.dways F] at E|rw [vR (k:=k) (s:=s) S4 C' k.dways F,Aj ss' F] at E);exact ⟨{ s with stA:=As4,stC:=cs4,dA:=A4,dC:=c4,dS:=S4 },⟨R.out,i8.words,i8.robC,i8.robM,i8.feO,i8.stO,i8.reO⟩,⟨E.drop 0⟩⟩)
  case rest=>
   obtain ⟨s1,ie,⟨E⟩⟩:=hcut;refine aP _ _ ?_;clear aP;obtain ⟨k1,aR⟩:∃ k1,{ k with stores:=ss',data:=C' }=k1:=⟨_,rfl⟩;rw [aR] at E ie hk1 hE;clear aR R ij hk i8 HD;have av:MS w0 D0 D M g k1 s1 wc:=⟨E⟩;(simp only [kD,ie.feO,ie.stO,ie.reO,bO,zL] at E);go_upto_region 2 with fail;rename_i K6 aV K2 aX;obtain ⟨b1,aJ⟩:∃ b1,decide ((0:Int)<(k1.stores.length:Int))=b1:=⟨_,rfl⟩;replace aJ:=V aJ;go_cut [43] (λc wx=>c = .bool (!ok && b1)/\wx=wc);case first=>
    cases ok
    .go_wp2_with ((try refine zs ?_);(first|refine xn ?_|(go_at_call 81;obtain ⟨Ah,ch,io,ic⟩:=E.freeze 0 aC;injection io with hfz1 _ hfz2;subst hfz1 hfz2;clear E;have E:=ic;clear ic;(try simp only [zF] at E);refine (lC _ _ _ _ _ _ _ _ _ E.rdA E.rdA).mono ?_;rintro x J ⟨hx,hb⟩;rw [G.out] at hx;subst hx;replace E:=E.grow hb;clear hb)|(go_at_call 82;refine (lI (s:=s1) hk1 true ((E.front _ (m:=.blk g 81 (ao k1 s1)) bx).lessD (D':=kD k1 s1++D) nF)).mono ?_;rintro x J ⟨hx,⟨ia⟩⟩;rw [H.out] at hx;subst hx;clear E;have E:=ia;clear ia;(try simp only [zF] at E);(simp only [kD,ie.feO,ie.stO,ie.reO,bO,zL] at E))|(go_at_call 83;refine (kJ (s:=s1) hk1 _ _ _ ((E.front _ (m:=.blk g 81 (ao k1 s1)) bx).lessD (D':=kD k1 s1++D) nF)).mono ?_;rintro x J ⟨⟨y,rfl⟩,A5,c5,ia⟩;clear E;have E:=ia;clear ia;(try simp only [zF] at E))|(go_at_call 63;refine (ed.out _).mono ?_;rintro x J ⟨rfl,d,rfl⟩;replace E:=E.grow (af.drewN _ d))|(refine bJ ?_;clear E;intro Z J E)|(refine aq ?_;clear E;intro vN J E)))
     go_meet;exact ⟨rfl,rfl⟩
    .go_wp2_with ((try refine zs ?_);(first|refine xn ?_|(go_at_call 81;obtain ⟨Ah,ch,io,ic⟩:=E.freeze 0 aC;injection io with hfz1 _ hfz2;subst hfz1 hfz2;clear E;have E:=ic;clear ic;(try simp only [zF] at E);refine (lC _ _ _ _ _ _ _ _ _ E.rdA E.rdA).mono ?_;rintro x J ⟨hx,hb⟩;rw [G.out] at hx;subst hx;replace E:=E.grow hb;clear hb)|(go_at_call 82;refine (lI (s:=s1) hk1 true ((E.front _ (m:=.blk g 81 (ao k1 s1)) bx).lessD (D':=kD k1 s1++D) nF)).mono ?_;rintro x J ⟨hx,⟨ia⟩⟩;rw [H.out] at hx;subst hx;clear E;have E:=ia;clear ia;(try simp only [zF] at E);(simp only [kD,ie.feO,ie.stO,ie.reO,bO,zL] at E))|(go_at_call 83;refine (kJ (s:=s1) hk1 _ _ _ ((E.front _ (m:=.blk g 81 (ao k1 s1)) bx).lessD (D':=kD k1 s1++D) nF)).mono ?_;rintro x J ⟨⟨y,rfl⟩,A5,c5,ia⟩;clear E;have E:=ia;clear ia;(try simp only [zF] at E))|(go_at_call 63;refine (ed.out _).mono ?_;rintro x J ⟨rfl,d,rfl⟩;replace E:=E.grow (af.drewN _ d))|(refine bJ ?_;clear E;intro Z J E)|(refine aq ?_;clear E;intro vN J E)))
     go_meet;exact ⟨rfl,rfl⟩
   case rest=>
    obtain ⟨rfl,rfl⟩:=hcut;refine aX _ _ ?_;clear aX;go_cut [] (λwx=>∃ k2 s2,Hid (k2=qo k1 ok)/\Fit k2 s2/\MS w0 D0 D M g k2 s2 wx);case first=>
     cases ok
     .rcases ij:k1.stores with _|⟨p,r⟩
      .obtain rfl:b1=false:=by rw [<- aJ.out,ij];rfl
       simp only [Bool.not_false,kb];go_wp2;go_meet;exact ⟨k1,s1,V (by unfold qo;rw [ij]),ie,av⟩
      .obtain rfl:b1=true:=by rw [<- aJ.out,ij];simp
       have eW:0<k1.stores.length:=by rw [ij];simp
       have hu:k1.stores[0]?=some p:=by rw [ij];rfl
       have a8:(bD k1.stores)[0]?=some (U (p.addr:Int)):=by rw [ij];rfl
       have ac:=hk1.st p (by rw [ij];exact ee ..);have ed:=V (λW=>mh p.addr W ac.1);have hA:Hid (qo k1 false=if kN k1.bus (dL p.addr) 3=false/\mw k1 true=true then fy k1 3 (dL p.addr) ⟨#[]⟩ else k1):=V (by unfold qo;rw [ij]);obtain ⟨L,hL⟩:∃ L,p.addr - p.addr % 16=L:=⟨_,rfl⟩;rw [hL] at ed;rw [show dL p.addr=L from hL] at hA;have a9:L<4294967296:=by omega
       obtain ⟨hv,G⟩:∃ hv,kN k1.bus L 3=hv:=⟨_,rfl⟩;obtain ⟨rv,H⟩:∃ rv,mw k1 true=rv:=⟨_,rfl⟩;rw [G,H] at hA;replace G:=V G;replace H:=V H;clear hL ij ac hu;simp only [Bool.not_false,kb];cases hv
       .cases rv
        .go_wp2_with ((try refine zs ?_);(first|refine xn ?_|(go_at_call 81;obtain ⟨Ah,ch,io,ic⟩:=E.freeze 0 aC;injection io with hfz1 _ hfz2;subst hfz1 hfz2;clear E;have E:=ic;clear ic;(try simp only [zF] at E);refine (lC _ _ _ _ _ _ _ _ _ E.rdA E.rdA).mono ?_;rintro x J ⟨hx,hb⟩;rw [G.out] at hx;subst hx;replace E:=E.grow hb;clear hb)|(go_at_call 82;refine (lI (s:=s1) hk1 true ((E.front _ (m:=.blk g 81 (ao k1 s1)) bx).lessD (D':=kD k1 s1++D) nF)).mono ?_;rintro x J ⟨hx,⟨ia⟩⟩;rw [H.out] at hx;subst hx;clear E;have E:=ia;clear ia;(try simp only [zF] at E);(simp only [kD,ie.feO,ie.stO,ie.reO,bO,zL] at E))|(go_at_call 83;refine (kJ (s:=s1) hk1 _ _ _ ((E.front _ (m:=.blk g 81 (ao k1 s1)) bx).lessD (D':=kD k1 s1++D) nF)).mono ?_;rintro x J ⟨⟨y,rfl⟩,A5,c5,ia⟩;clear E;have E:=ia;clear ia;(try simp only [zF] at E))|(go_at_call 63;refine (ed.out _).mono ?_;rintro x J ⟨rfl,d,rfl⟩;replace E:=E.grow (af.drewN _ d))|(refine bJ ?_;clear E;intro Z J E)|(refine aq ?_;clear E;intro vN J E)))
         exact M1
        .go_wp2_with ((try refine zs ?_);(first|refine xn ?_|(go_at_call 81;obtain ⟨Ah,ch,io,ic⟩:=E.freeze 0 aC;injection io with hfz1 _ hfz2;subst hfz1 hfz2;clear E;have E:=ic;clear ic;(try simp only [zF] at E);refine (lC _ _ _ _ _ _ _ _ _ E.rdA E.rdA).mono ?_;rintro x J ⟨hx,hb⟩;rw [G.out] at hx;subst hx;replace E:=E.grow hb;clear hb)|(go_at_call 82;refine (lI (s:=s1) hk1 true ((E.front _ (m:=.blk g 81 (ao k1 s1)) bx).lessD (D':=kD k1 s1++D) nF)).mono ?_;rintro x J ⟨hx,⟨ia⟩⟩;rw [H.out] at hx;subst hx;clear E;have E:=ia;clear ia;(try simp only [zF] at E);(simp only [kD,ie.feO,ie.stO,ie.reO,bO,zL] at E))|(go_at_call 83;refine (kJ (s:=s1) hk1 _ _ _ ((E.front _ (m:=.blk g 81 (ao k1 s1)) bx).lessD (D':=kD k1 s1++D) nF)).mono ?_;rintro x J ⟨⟨y,rfl⟩,A5,c5,ia⟩;clear E;have E:=ia;clear ia;(try simp only [zF] at E))|(go_at_call 63;refine (ed.out _).mono ?_;rintro x J ⟨rfl,d,rfl⟩;replace E:=E.grow (af.drewN _ d))|(refine bJ ?_;clear E;intro Z J E)|(refine aq ?_;clear E;intro vN J E)))
         go_meet;exact ⟨_,_,V (by rw [hA.out];simp),ie.ask 3 L ⟨#[]⟩ A5 c5,⟨E⟩⟩
       .go_wp2_with ((try refine zs ?_);(first|refine xn ?_|(go_at_call 81;obtain ⟨Ah,ch,io,ic⟩:=E.freeze 0 aC;injection io with hfz1 _ hfz2;subst hfz1 hfz2;clear E;have E:=ic;clear ic;(try simp only [zF] at E);refine (lC _ _ _ _ _ _ _ _ _ E.rdA E.rdA).mono ?_;rintro x J ⟨hx,hb⟩;rw [G.out] at hx;subst hx;replace E:=E.grow hb;clear hb)|(go_at_call 82;refine (lI (s:=s1) hk1 true ((E.front _ (m:=.blk g 81 (ao k1 s1)) bx).lessD (D':=kD k1 s1++D) nF)).mono ?_;rintro x J ⟨hx,⟨ia⟩⟩;rw [H.out] at hx;subst hx;clear E;have E:=ia;clear ia;(try simp only [zF] at E);(simp only [kD,ie.feO,ie.stO,ie.reO,bO,zL] at E))|(go_at_call 83;refine (kJ (s:=s1) hk1 _ _ _ ((E.front _ (m:=.blk g 81 (ao k1 s1)) bx).lessD (D':=kD k1 s1++D) nF)).mono ?_;rintro x J ⟨⟨y,rfl⟩,A5,c5,ia⟩;clear E;have E:=ia;clear ia;(try simp only [zF] at E))|(go_at_call 63;refine (ed.out _).mono ?_;rintro x J ⟨rfl,d,rfl⟩;replace E:=E.grow (af.drewN _ d))|(refine bJ ?_;clear E;intro Z J E)|(refine aq ?_;clear E;intro vN J E)))
        exact M1
     .simp only [Bool.not_true,si]
      go_wp2;go_meet;exact ⟨k1,s1,V (by unfold qo;rfl),ie,av⟩
    case rest=>
     clear E av aJ;obtain ⟨k2,s2,aY,j5,⟨E⟩⟩:=hcut;refine aV _ _ ?_;clear aV;have Q:=Rl hk1 O ok;rw [<- aY.out] at Q hE;have a5:=E;clear aY hk1 ie;have ad:Hid (J5 k2=if k2.stores≠[]\/k2.halt=0 then k2 else if (eR k2.dways k2.data).2=true/\(eR k2.dways k2.data).1.data.size≠0 then { fy k2 4 (eR k2.dways k2.data).1.line (eR k2.dways k2.data).1.data with data:=pg k2.dways k2.data (eR k2.dways k2.data).1.line } else k2):=V F;have ab:=Gq k2.dways k2.data;have aw:=Mn (ways:=k2.dways) Q.dok;obtain ⟨v,db,a0⟩:∃ v db,eR k2.dways k2.data=(v,db):=⟨_,_,rfl⟩;rw [a0] at ad ab aw;obtain ⟨vl,vd,vb⟩:=v;dsimp only at ad ab aw;rw [<- j5.data] at ab;have j4:=Q.dok;rw [<- j5.data] at j4;have lH:=V (λ(W:World) (h1:bT W W.heap.size s2.dA k2.data.length s2.dC s2.dS)=>UB j4.sok ab W h1);replace hE:=V (hE.out.trans ad.out);clear a0 ad ab;unfold Wy.val at lH;simp only [kD,j5.feO,j5.stO,j5.reO,bO,zL] at E;by_cases ij:k2.stores=[]
     .have hb2:Hid (decide ((0:Int)<(k2.stores.length:Int))=false):=V (by rw [ij];rfl)
      by_cases hh:k2.halt=0
      .have a':=V hh
       rw [aa (.inr hh)] at hE;clear hh ij;exact Jj
      .rw [Y (λh=>h.elim (λh=>h ij) hh)] at hE
       clear ij;cases db
       .rw [Y (λh=>by cases h.1)] at hE
        exact Kr
       .by_cases hz:vb.size=0
        .have a6:=Dn hz
         rw [Y (λh=>h.2 hz)] at hE;clear hz;exact Kr
        .have a6:=wh hz
         rw [aa ⟨rfl,hz⟩] at hE;have aD:vl<4294967296/\vb.size<=maxLen:=aw aF;clear hz;have a1:=Q.ask O 4 aD.1 aD.2;go_upto_region 10 with ((try refine zs ?_);(first|refine Bu ?_|(refine Ez ?_;clear E;intro Z J E)|(go_at_call 83;refine (kJ (s:=s2) Q _ _ _ ((E.front _ (m:=.blk g 81 (ao k2 s2)) bx).lessD (D':=kD k2 s2++D) zD)).mono ?_;rintro x J ⟨⟨y,rfl⟩,A5,c5,ia⟩;clear E;have E:=ia;clear ia;(try simp only [zF] at E))|(refine aq ?_;clear E;intro vN J E)));have j7:=j5.ask 4 vl vb A5 c5;obtain ⟨k3,al⟩:∃ k3,fy k2 4 vl vb=k3:=⟨_,rfl⟩;rw [al] at E j7 a1 hE;obtain ⟨s3,aE⟩:∃ s3,{ s2 with busA:=A5,busC:=c5 }=s3:=⟨_,rfl⟩;rw [aE] at E j7;have e1:pg k2.dways k2.data vl=pg k3.dways k3.data vl:=by rw [<- al];rfl
         rw [e1] at hE;have er:s2.robA=s3.robA:=by rw [<- aE]
         have ek:k2.rob=k3.rob:=by rw [<- al];rfl
         rw [er,ek] at E;clear al aE e1 er ek;have ap:=yN k3.dways k3.data vl;obtain ⟨C4,a2⟩:∃ C4,pg k3.dways k3.data vl=C4:=⟨_,rfl⟩;rw [a2] at ap hE;rw [<- j7.data] at ap;have a3:=a1.dok;rw [<- j7.data] at a3;have oX:=V (λ(W:World) (h1:bT W W.heap.size s3.dA k3.data.length s3.dC s3.dS)=>h6x aD.1 a3.sok ap W h1);clear a2 ap;simp only [kD,j7.feO,j7.stO,j7.reO,bO,zL] at E;refine mA [12] aj E _ _ (λ_ h=>h) (λ_ h=>h) ?_;clear E;intro E z;refine cZ 0 z ?_;refine cZ 1 z ?_;refine zq 2 z ?_;refine bi 3 z ?_;refine bi 4 z ?_;refine lE 5 z ?_;refine bi 6 z ?_;refine lE 7 z ?_;refine ev (rs:=[8]) aj aF (et F (λK X=>?_) dH.nil);go_wp2_with ((first|(go_at_call 88;refine (oX.out _ E.rds).mono ?_;rintro x J ⟨_,rfl,A6,n6,c6,S6,rfl,C,aH⟩;replace E:=E.callA C;clear C)|(refine jd F E F F ?_ (i8:=by (try simp only [cw]);rw [bM];exact ce F);clear E;intro J E;(try simp only [fL,jr] at E);refine zs ?_)|((first|refine aL ?_|(refine am ?_;clear E;intro Z J E));refine zs ?_)));have z:=aO z E;refine X.out _ _ (λ_=>z) ?_;clear X;refine zs ?_;refine zq 9 z ?_;refine bi 10 z ?_;refine bi 11 z ?_;refine ev (rs:=[12]) aj aF (et F (λK X=>?_) dH.nil);go_wp2_with ((first|(go_at_call 88;refine (oX.out _ E.rds).mono ?_;rintro x J ⟨_,rfl,A6,n6,c6,S6,rfl,C,aH⟩;replace E:=E.callA C;clear C)|(refine jd F E F F ?_ (i8:=by (try simp only [cw]);rw [bM];exact ce F);clear E;intro J E;(try simp only [fL,jr] at E);refine zs ?_)|((first|refine aL ?_|(refine am ?_;clear E;intro Z J E));refine zs ?_)));(try clear z);refine X.out _ _ (jO 12 F aj) ?_;clear X;refine zs ?_
         refine mJ aj ?_ _;(have a7:n6=C4.length:=(by rw [<- aH,jN];exact ((E.rds (A:=A6) (n:=n6) (c:=c6) (S:=S6)).slen).symm);subst a7;rw [vR (k:=k3) (s:=s3) S6 C4 k3.dways F] at E;go_wp2;go_end0;(try refine ⟨⟨_,rfl⟩,?_⟩);rw [hE.out];exact ⟨{ s3 with dA:=A6,dC:=c6,dS:=S6 },⟨aH,j7.words,j7.robC,j7.robM,j7.feO,j7.stO,j7.reO⟩,λh=>fK,λh=>fK,⟨(E.drop 1).lessD (by simp only [kD,j7.feO,j7.stO,j7.reO,bO,zL];exact lN)⟩⟩)
     .have hb2:Hid (decide ((0:Int)<(k2.stores.length:Int))=true):=V (by
       have:k2.stores.length≠0:=λh=>ij (rC h)
       simp;omega)
      rw [aa (.inl ij)] at hE;clear ij;exact Jj
end
end Go.Proofs.YtgnomadgnciifaaGreatDoor
