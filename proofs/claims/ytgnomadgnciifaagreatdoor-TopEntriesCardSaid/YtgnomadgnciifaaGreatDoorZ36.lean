/- . -/
import Derived.Test.YtgnomadgnciifaaGreatDoorZ34
import Derived.Test.YtgnomadgnciifaaGreatDoorZ35
set_option linter.all false
set_option maxRecDepth 100000
set_option maxHeartbeats 16000000
namespace Go.Proofs.YtgnomadgnciifaaGreatDoor
open Go.Proofs.Tryz
def Hl {p:Prop} (h:p:=by
 replace hR:=V (show fP k=k1 from hR.out);clear hE;go_upto_region 3 with ((try refine zs ?_);(first|refine xI ?_|(refine bJ ?_;clear E;intro Z J E)|(refine aq ?_;clear E;intro vN J E)));refine bA aj E _ _ (λ_ h=>h) (λ_ h=>h) ?_;clear E;intro E z;refine an 0 z ?_;refine zp 1 z ?_;refine az 2 z ?_;refine az 3 z ?_;refine fC 4 z ?_;refine jf 5 z ?_;refine an 6 z ?_;refine zp 7 z ?_;refine az 8 z ?_;refine az 9 z ?_;refine az 10 z ?_;refine fC 11 z ?_
 first|(refine eu (i:=12) F (qf F F F) z ?_;refine zs ?_)|refine zp 12 z ?_
 refine an 13 z ?_;refine jj 14 z ?_;refine zp 15 z ?_;refine cP 16 z ?_;refine cP 17 z ?_;refine zc 18 z ?_;refine oC 19 z ?_
 first|(refine eu (i:=20) F (tW F F F) z ?_;refine zs ?_)|refine zp 20 z ?_
 refine zp 21 z ?_;refine bt ?_
 (go_wp2_with ((try refine zs ?_);(first|refine xI ?_|(refine bJ ?_;clear E;intro Z J E)|(refine aq ?_;clear E;intro vN J E)));(refine bc (kw F _ _ _) F ⟨⟨_,rfl⟩,?_⟩;rw [hR.out];exact ⟨s1,i8,ha,λh=>fK,⟨E.lessD eS⟩⟩))):p:=h
section
open Go.RowKit Wd
def Up (e w)(he:cC e)(hr:Rd w w.heap.size 1 (some ⟨0,0,none⟩) 49 49 (ai ci)):Ca 38 #[e.val] w (RB w (.bool (ew e))):=by
 have E:=St.start w [eG] (zC hr zN);obtain ⟨no,pc,⟨op,rd,rs1,rs2,imm⟩,guess,is,left,value,next,addr,halt,took,known,filled⟩:=e;have HK:=V (λW=>ec ⟨op,rd,rs1,rs2,imm⟩ W he.op);have HE:=V (λW (h:Rd W W.heap.size 1 (some ⟨0,0,none⟩) 49 49 (ai ci))=>i2e ⟨op,rd,rs1,rs2,imm⟩ W he.2.2.1.2.2.2.2 h);dsimp only at HK;obtain ⟨κ,hk⟩:∃ κ,ae op=κ:=⟨_,rfl⟩;obtain ⟨en,hen⟩:∃ en,kG ⟨op,rd,rs1,rs2,imm⟩=en:=⟨_,rfl⟩;rw [hk] at HK;rw [hen] at HE;by_cases i0:is<0
 .apply X7 (HK:=HK) (HE:=HE) (E:=E) (h:=i0)
  simp [ew,i0]
 by_cases i3:3<is
 .apply i3w (HK:=HK) (HE:=HE) (E:=E) (h:=i3)
  simp [ew,i3]
 have hi:is=0\/is=1\/is=2\/is=3:=by omega
 rcases hi with rfl|rfl|rfl|rfl
 .by_cases hl:left=0
  .subst hl
   by_cases hh:halt=0
   .subst hh
    cases en
    .apply Z5 (HK:=HK) (HE:=HE) (E:=E) (hen:=rfl)
     simp [ew,hen]
    .apply QZ (HK:=HK) (HE:=HE) (E:=E) (hen:=rfl)
     simp [ew,hen]
   .apply Pn (HK:=HK) (HE:=HE) (E:=E) (hh:=hh)
    simp [ew,hh]
  .apply i3x (HK:=HK) (HE:=HE) (E:=E) (hl:=hl)
   simp [ew,hl]
 .by_cases hl:left<=0
  .apply Vo (HK:=HK) (HE:=HE) (E:=E) (hl:=hl)
   simp [ew,hl]
  replace hl:0<left:=by omega
  by_cases hh:halt=0
  .subst hh
   cases en
   .apply TH (HK:=HK) (HE:=HE) (E:=E) (hl:=hl) (hen:=rfl)
    simp [ew,hen,hl]
   .apply i4e (HK:=HK) (HE:=HE) (E:=E) (hl:=hl) (hen:=rfl)
    simp [ew,hen,hl]
  by_cases ab:κ=5
  .subst ab
   by_cases h3:halt=3
   .subst h3
    cases en
    .apply V4 (HK:=HK) (HE:=HE) (E:=E) (hl:=hl) (hen:=rfl) (hkk:=rfl)
     simp [ew,hen,hl,hk]
    .apply i4i (HK:=HK) (HE:=HE) (E:=E) (hl:=hl) (hen:=rfl) (hkk:=rfl)
     simp [ew,hen,hl,hk]
   .apply VB (HK:=HK) (HE:=HE) (E:=E) (hl:=hl) (hh:=hh) (h3:=h3) (hkk:=rfl)
    simp [ew,hl,hk,hh,h3]
  .apply Tr (HK:=HK) (HE:=HE) (E:=E) (hl:=hl) (hh:=hh) (hk:=ab)
   simp [ew,hl,hk,hh,ab]
 .by_cases hl:left=0
  .subst hl
   by_cases ac:κ=3
   .subst ac
    cases known
    .apply i4l (HK:=HK) (HE:=HE) (E:=E) (hkk:=rfl)
     simp [ew]
    by_cases hh:halt=0
    .subst hh
     cases en
     .apply i4o (HK:=HK) (HE:=HE) (E:=E) (hen:=rfl) (hkk:=rfl)
      simp [ew,hen,hk]
     .apply YM (HK:=HK) (HE:=HE) (E:=E) (hen:=rfl) (hkk:=rfl)
      simp [ew,hen,hk]
    .apply Zb (HK:=HK) (HE:=HE) (E:=E) (hh:=hh) (hkk:=rfl)
     simp [ew,hk,hh]
   .apply Rz (HK:=HK) (HE:=HE) (E:=E) (hk:=ac)
    simp [ew,hk,ac]
  .apply SR (HK:=HK) (HE:=HE) (E:=E) (hl:=hl)
   simp [ew,hl]
 .by_cases hl:left=0
  .subst hl
   by_cases hh:halt=0
   .subst hh
    cases en
    .apply i4q (HK:=HK) (HE:=HE) (E:=E) (hen:=rfl)
     simp [ew,hen]
    .apply V0 (HK:=HK) (HE:=HE) (E:=E) (hen:=rfl)
     simp [ew,hen]
   .cases en
    .by_cases h1:halt=1
     .subst h1
      apply S7 (HK:=HK) (HE:=HE) (E:=E) (hen:=rfl);simp [ew,hen]
     by_cases h2:halt=2
     .subst h2
      apply RA (HK:=HK) (HE:=HE) (E:=E) (hen:=rfl);simp [ew,hen]
     .apply i4u (HK:=HK) (HE:=HE) (E:=E) (hh:=hh) (h1:=h1) (h2:=h2) (hen:=rfl)
      simp [ew,hen,h1,h2]
    .apply Pd (HK:=HK) (HE:=HE) (E:=E) (hh:=hh) (hen:=rfl)
     simp [ew,hen]
  .apply WK (HK:=HK) (HE:=HE) (E:=E) (hl:=hl)
   simp [ew,hl]
def B8 {f:ak->ak × Bool}{n k}(h:(f k).2=true):gr f (n+1) k=gr f n (f k).1:=by rw [gr,aa h]
def oY {f:ak->ak × Bool}{n k}(h:(f k).2=false):gr f (n+1) k=(f k).1:=by rw [gr,Y (by rw [h];decide)]
def Yz {q f r}(h:q=f::r):(jF q)[0]?=some (U (f.pc:Int))/\(jF q)[1]?=some (U (f.guess:Int)):=by
 subst h;exact ⟨rfl,rfl⟩
def SA {w0 w D0 D M g k a B}(hk:KOk B k)(hB:B+4<=1000000)(hX:MX w0 D0 D M g k a false w):Ca 35 #[.pointer (some ⟨g,0,none⟩)] w λx w'=>(∃ y,x = .returned y)/\MX w0 D0 D M g (fP k) a false w':=by
 obtain ⟨s,i8,ha,-,⟨E⟩⟩:=hX;have H:=E;have aD:=hk.cf.width;have hR:Hid (fP k=if k.halt≠0 then k else gr iC k.conf.width.toNat k):=V F;(simp only [kD,i8.feO,i8.stO,i8.reO,bO,zL] at E);by_cases hh:k.halt=0
 .rw [Y (λh=>h hh)] at hR
  have aE:=V (show decide (¬ k.halt=0)=false by simp [hh]);clear hh;go_enter func35,ntmps35;go_wp2_with ((try refine zs ?_);(first|refine xI ?_|(refine bJ ?_;clear E;intro Z J E)|(refine aq ?_;clear E;intro vN J E)));go_loopw [14] (λi wr=>∃ (j:Nat) (k1:ak),i = I (j:Int)/\j<=k.conf.width.toNat/\Hid (fP k=gr iC (k.conf.width.toNat - j) k1)/\KOk (B+j) k1/\k1.conf=k.conf/\k1.halt=k.halt/\MX w0 D0 D M g k1 a false wr) (λi _=>k.conf.width.toNat - (intOf i).toNat);case atStart=>exact ⟨0,k,rfl,mB _,hR,by simpa using hk,rfl,rfl,⟨s,i8,ha,λh=>fK,⟨H⟩⟩⟩
  case round=>
   clear E H hR hk ha i8;obtain ⟨j,k1,rfl,hj,hR,hk1,av,aw,hX⟩:=hrel;obtain ⟨s1,i8,ha,-,⟨E⟩⟩:=hX;have H:=E;(simp only [kD,i8.feO,i8.stO,i8.reO,bO,zL] at E);by_cases aH:j<k.conf.width.toNat
   .obtain ⟨m,hm⟩:∃ m,k.conf.width.toNat - j=m+1:=⟨k.conf.width.toNat - j - 1,by omega⟩
    rw [hm] at hR;have hlt:=V (show decide ((j:Int)<k.conf.width)=true by simp;omega);obtain ⟨b3,hb3⟩:∃ b3,decide (k1.conf.rob<=(k1.rob.length:Int))=b3:=⟨_,rfl⟩;obtain ⟨b4,L⟩:∃ b4,decide ((k1.fetched.length:Int)=0)=b4:=⟨_,rfl⟩;have aI:=hk1.roblen
    have hE:Hid (iC k1=if b3=true then (k1,false) else match k1.fetched with|[]=>(k1,false)|f::r=>({ k1 with rob:=k1.rob++[dh k1.next f k1.prog],next:=k1.next+1,fetched:=r },true)):=V (by
     unfold iC;by_cases h:k1.conf.rob<=k1.rob.length
     .rw [aa h,aa (by rw [<- hb3];exact cU h)]
     .rw [Y h,Y (by rw [<- hb3,dg h];decide)]
      rfl)
    replace hb3:=V hb3;replace L:=V L;cases b3
    .cases b4
     .obtain ⟨f,r,C⟩:∃ f r,k1.fetched=f::r:=by
       cases h:k1.fetched with
       | nil=>have:=L.out;rw [h] at this;simp at this
       | cons f r=>exact ⟨f,r,rfl⟩
      have al:=hk1.fe f (by rw [C];exact ee ..);have Q:=Yz C;rw [B8 (by rw [hE.out,C];rfl)] at hR;rw [hE.out,C] at hR;simp only [Y (show ¬ (false=true) by decide)] at hR;have R:=hk1.enter O;rw [hE.out,C] at R;simp only [Y (show ¬ (false=true) by decide)] at R;clear hE;have ap:(ens k1.rob).length=k1.rob.length * 17:=kA _;have G:=V (λ(W:World) (h:Rd W W.heap.size 17 s1.robA k1.rob.length s1.robC (ens k1.rob)) (h2:Rd W W.heap.size 1 s1.progA k1.prog.length s1.progC (ai k1.prog)) (h3:Rd W W.heap.size 1 (some ⟨0,0,none⟩) 49 49 (ai ci))=>PS s1.robA k1.rob.length s1.robC k1.rob k1.next f s1.progA k1.prog.length s1.progC k1.prog W h h2 h3 O al hk1.prog);obtain ⟨x,hx⟩:∃ x,dh k1.next f k1.prog=x:=⟨_,rfl⟩
      rw [hx] at hR R G;have aP:=hk1.next
      have aR:=hk1.bound;have jx:k1.fetched.length=r.length+1:=by rw [C];rfl
      have ad:(jF k1.fetched).drop (1 * 2)=jF r:=by rw [C];rfl
      obtain ⟨fp,fg⟩:=f;unfold Fe.val at G;dsimp only at Q G;obtain ⟨Q,hf1⟩:=Q;have eW:0<k1.fetched.length:=by omega
      replace ad:=V ad;have aV:∀ (i:Nat) (u:Value),([U (fp:Int),U (fg:Int)]:List Value)[i]?=some u->(jF k1.fetched)[0+i]?=some u:=λi u h=>by rw [C,jR];exact (lm (by rcases i with _|_|i <;> simp [Fe.cells] at h ⊢)).trans h
      clear al hx C Q hf1;go_upto_region 3 with ((try refine zs ?_);(first|refine xI ?_|(refine bJ ?_;clear E;intro Z J E)|(refine aq ?_;clear E;intro vN J E)));refine bA aj E _ _ (λ_ h=>h) (λ_ h=>h) ?_;clear E;intro E z;refine an 0 z ?_;refine zp 1 z ?_;refine az 2 z ?_;refine az 3 z ?_;refine fC 4 z ?_;refine jf 5 z ?_;refine an 6 z ?_;refine zp 7 z ?_;refine az 8 z ?_;refine az 9 z ?_;refine az 10 z ?_;refine fC 11 z ?_
      first|(refine eu (i:=12) F (qf F F F) z ?_;refine zs ?_)|refine zp 12 z ?_
      refine an 13 z ?_;refine jj 14 z ?_;refine zp 15 z ?_;refine cP 16 z ?_;refine cP 17 z ?_;refine zc 18 z ?_;refine oC 19 z ?_
      first|(refine eu (i:=20) F (tW F F F) z ?_;refine zs ?_)|refine zp 20 z ?_
      refine zp 21 z ?_;refine bt ?_;(go_upto_region 4 with ((try refine zs ?_);(first|refine xI ?_|(refine bJ ?_;clear E;intro Z J E)|(refine aq ?_;clear E;intro vN J E))));refine mA [27] aj E _ _ (λ_ h=>h) (λ_ h=>h) ?_;clear E;intro E z;refine cZ 0 z ?_;refine cZ 1 z ?_;refine zq 2 z ?_;refine bi 3 z ?_;refine bi 4 z ?_;refine lE 5 z ?_;refine cZ 6 z ?_;refine zq 7 z ?_;refine bi 8 z ?_;refine bi 9 z ?_;refine lE 10 z ?_;refine cZ 11 z ?_;refine zq 12 z ?_;refine bi 13 z ?_;refine bi 14 z ?_;refine lE 15 z ?_;refine zt2 16 z ?_;refine lE 17 z ?_;refine cZ 18 z ?_;refine zq 19 z ?_;refine bi 20 z ?_;refine bi 21 z ?_;refine lE 22 z ?_;refine ev (rs:=[23]) aj aF (et F (λK X=>?_) dH.nil);go_wp2_with ((first|(go_at_call 78;refine (G.out _ (E.rowRd bx ap ag i8.robC i8.robM) E.rdA E.rdA).mono ?_;rintro y J ⟨v,rfl,hb,ho⟩;replace E:=E.pushOwn hb ho;clear hb ho;obtain ⟨A2,c2,rfl,hc1,aN,ic⟩:=E.ownRow aC;clear E;have E:=ic;clear ic;(try simp only [zF] at E))|(refine bz F E F F ?_ (iv:=by (try simp only [iJ]);rw [bM];decide);clear E;intro J E;(try simp only [zF] at E);refine zs ?_)|((first|refine aL ?_|(refine am ?_;clear E;intro Z J E));refine zs ?_)));have z:=aO z E;refine X.out _ _ (λ_=>z) ?_;clear X;refine zs ?_;refine zq 24 z ?_;refine bi 25 z ?_;refine bi 26 z ?_;refine ev (rs:=[27]) aj aF (et F (λK X=>?_) dH.nil);go_wp2_with ((first|(go_at_call 78;refine (G.out _ (E.rowRd bx ap ag i8.robC i8.robM) E.rdA E.rdA).mono ?_;rintro y J ⟨v,rfl,hb,ho⟩;replace E:=E.pushOwn hb ho;clear hb ho;obtain ⟨A2,c2,rfl,hc1,aN,ic⟩:=E.ownRow aC;clear E;have E:=ic;clear ic;(try simp only [zF] at E))|(refine bz F E F F ?_ (iv:=by (try simp only [iJ]);rw [bM];decide);clear E;intro J E;(try simp only [zF] at E);refine zs ?_)|((first|refine aL ?_|(refine am ?_;clear E;intro Z J E));refine zs ?_)));(try clear z);refine X.out _ _ (jO 27 F aj) ?_;clear X;refine zs ?_
      refine mJ aj ?_ _
      (skip)
      rw [xh (k:=k1) (s:=s1) (k1.rob++[x]) aF] at E;have ic:=(E.front 1 dD).drop 2;clear E;have E:=ic;clear ic;(try simp only [zF] at E);go_wp2_with ((try refine zs ?_);(first|refine fa ?_|(refine XN ?_;clear E;intro Z J E)|(refine aq ?_;clear E;intro vN J E)));go_roundw;case rel=>
       rw [show k1.fetched.length - 1=r.length by omega,Py,ve r F,ad.out] at E;have aB:B+(j:Int)+1=B+((j+1:Nat):Int):=by omega
       have j5:Fit { k1 with rob:=k1.rob++[x],next:=k1.next+1,fetched:=r } { s1 with robA:=A2,robC:=c2,feA:=fW s1.feA 1 s1.feC 2,feC:=s1.feC - 1 } :=
        ⟨i8.data,i8.words,by simpa using hc1,aN,i8.feO,i8.stO,i8.reO⟩
       exact ⟨j+1,{ k1 with rob:=k1.rob++[x],next:=k1.next+1,fetched:=r },by go_num,by omega,V Ck,aB ▸ R,av,aw,⟨_,j5,λh=>(by have:=ha h;show s1.feC - 1=r.length;omega),λh=>fK,⟨E.lessD eS⟩⟩⟩
      case measure=>exact zM
     .have C:k1.fetched=[]:=rC (by have:=L.out;simpa using this)
      rw [oY (by rw [hE.out,C];rfl),hE.out,C] at hR;exact Hl
    .rw [oY (by rw [hE.out];rfl),hE.out] at hR
     exact Hl
   .have hz:k.conf.width.toNat - j=0:=by omega
    rw [hz] at hR;replace hR:=V (show fP k=k1 from hR.out);have hlt:=V (show decide ((j:Int)<k.conf.width)=false by simp;omega);go_wp2_with ((try refine zs ?_);(first|refine VA ?_|(refine bJ ?_;clear E;intro Z J E)|(refine aq ?_;clear E;intro vN J E)));go_end0;refine ⟨⟨_,rfl⟩,?_⟩;rw [hR.out];exact ⟨s1,i8,ha,λh=>fK,⟨E.lessD eS⟩⟩
 .have hne:¬ (k.halt=0):=hh
  rw [aa hh] at hR;go_enter func35,ntmps35;go_wp2_with ((try refine zs ?_);(first|refine WC ?_|(refine bJ ?_;clear E;intro Z J E)|(refine aq ?_;clear E;intro vN J E)));refine bc (kw F _ _ _) F ⟨⟨_,rfl⟩,?_⟩;rw [hR.out];exact ⟨s,i8,ha,λh=>fK,⟨H⟩⟩
end
end Go.Proofs.YtgnomadgnciifaaGreatDoor
