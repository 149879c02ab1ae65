/- . -/
import Derived.Test.YtgnomadgnciifaaGreatDoorZ39
set_option linter.all false
set_option maxRecDepth 100000
set_option maxHeartbeats 16000000
namespace Go.Proofs.YtgnomadgnciifaaGreatDoor
open Go.Proofs.Tryz
def NL {p:Prop} (h:p:=by
 go_upto_region 8 with ((try refine zs ?_);(first|go_big_skip|refine xf ?_|(refine xo ?_;clear E;intro Z J E)));refine bA aj E _ _ (λ_ h=>h) (λ_ h=>h) ?_;clear E;intro E z;refine az 0 z ?_;refine dx 1 z ?_
 first|(refine eu (i:=2) F (tW F F F) z ?_;refine zs ?_)|refine zp 2 z ?_
 refine an 3 z ?_;refine cP 4 z ?_;refine jl 5 z ?_;refine cP 7 z ?_;refine jl 8 z ?_;refine aB 6 (λK X=>?_);go_wp2_with ((first|go_big_skip|(refine KB ?_;clear E;intro J E)));have z:=aO z E;refine X.out _ _ z ?_;clear X;refine zs ?_
 first|(refine eu (i:=9) F (tW F F F) z ?_;refine zs ?_)|refine zp 9 z ?_
 refine zp 10 z ?_;refine bt ?_
 (skip)
 go_wp2_with ((try refine zs ?_);(first|go_big_skip|refine xf ?_|(refine xo ?_;clear E;intro Z J E)));go_roundw;case rel=>exact ⟨j+1,by omega,by go_num,⟨by rw [aD.out];exact E.drop 0⟩⟩
 case measure=>exact zM):p:=h
section
open Go.RowKit Wd
def z' {f:En->En}{j q e}(h:q[j]?=some e)(hf:f e=e):lM f (j+1) q=lM f j q:=by
 rw [<- BH h,hf];have h2:=B4 (f:=f) h;obtain ⟨hl,he⟩:=aK.1 h2
 conv=>lhs;arg 3;rw [<- he]
 exact List.set_getElem_self hl
def i5j (m:ByteArray) (a:Nat) (n:Int):(fT m a n).size<=m.size:=by
 unfold fT;split
 .rw [wX];omega
 .exact mB _
def Og (k e):(kO k e).size<=k.mem.size:=by
 have h:(cF k).size=k.mem.size:=zf _ _;rw [<- h];exact i5j _ _ _
def Wc {w0 w D0 D M g k a b B}(hk:KOk B k)(hB:B+1<=1000000)(hX:MX w0 D0 D M g k a b w):Ca 31 #[.pointer (some ⟨g,0,none⟩)] w λx w'=>(∃ y,x = .returned y)/\MX w0 D0 D M g (dr k) a b w':=by
 obtain ⟨s,i8,ha,ap,⟨E⟩⟩:=hX;have hk1:=hk.tick;have hbl:=hk.buslen;have HT:=λ(W:World) (h:Rd W W.heap.size 4 s.busA k.bus.length s.busC (bg k.bus))=>VT s.busA k.bus.length s.busC k.bus W h O hk.left
 have hE:dr k=match (bU k.bus).2 with
  | none=>{ k with bus:=(bU k.bus).1 }
  | some d =>
   if d.kind=1 then { k with bus:=(bU k.bus).1,rob:=k.rob.map (fH { k with bus:=(bU k.bus).1 } d.line) }
   else if d.kind=2 then { k with bus:=(bU k.bus).1,words:=(oP k.wways k.words d.line ⟨#[]⟩ false).1 }
   else if d.kind=3 then jA { k with bus:=(bU k.bus).1 } d.line
   else if d.kind=4 then { k with bus:=(bU k.bus).1,mem:=dZ k.mem [⟨d.line,d.data⟩] }
   else { k with bus:=(bU k.bus).1 }:=rfl
 have hdn:∀ d,(bU k.bus).2=some d->d.line<4294967296/\d.data.size<=maxLen:=λd h=>by
  obtain ⟨r,hr,e1,e2,_⟩:=GZ h;rw [e1,e2];exact hk.bus r hr
 obtain ⟨q1,od,mi⟩:∃ q1 od,bU k.bus=(q1,od):=⟨_,_,rfl⟩;rw [mi] at hk1 HT hE hdn;dsimp only at hk1 HT hE hdn;clear mi;(simp only [kD,zL] at E);cases od with
 | none=>
  replace HT:=V (show ∀ (W:World) (h:Rd W W.heap.size 4 s.busA k.bus.length s.busC (bg k.bus)),Ca 62 #[.slice s.busA k.bus.length s.busC] W (λe w'=>∃ A2 c2,e = .returned (.tuple #[.slice A2 q1.length c2,yo.val,.bool false])/\Out W [ab 4 s.busA k.bus.length s.busC (bg k.bus)] w' [ab 4 A2 q1.length c2 (bg q1)]) from HT);replace hE:=V hE;clear hdn;go_enter func31,ntmps31;go_wp2_with ((try refine zs ?_);(first|go_big_skip|refine sx ?_|(go_at_call 62;refine (HT.out _ E.rdA).mono ?_;rintro x J ⟨A2,c2,rfl,C⟩;replace E:=E.call1A C;clear C)|(refine uC ?_;clear E;intro Z J E)|(refine aq ?_;clear E;intro vN J E)));refine bc (kw F _ _ _) F ⟨⟨_,rfl⟩,?_⟩;rw [hE.out];rw [tG (k:=k) (s:=s) q1 F] at E;exact ⟨{ s with busA:=A2,busC:=c2 },⟨i8.data,i8.words,i8.robC,i8.robM,i8.feO,i8.stO,i8.reO⟩,ha,ap,⟨(E.drop 0).lessD mU⟩⟩
 | some d=>
  have hd:=hdn d F;replace HT:=V (show ∀ (W:World) (h:Rd W W.heap.size 4 s.busA k.bus.length s.busC (bg k.bus)),Ca 62 #[.slice s.busA k.bus.length s.busC] W (λe w'=>∃ A2 c2,e = .returned (.tuple #[.slice A2 q1.length c2,d.val,.bool true])/\Out W [ab 4 s.busA k.bus.length s.busC (bg k.bus)] w' [ab 4 A2 q1.length c2 (bg q1)]) from HT);clear hdn;go_enter func31,ntmps31;go_upto_region 3 with ((try refine zs ?_);(first|go_big_skip|refine sx ?_|(go_at_call 62;refine (HT.out _ E.rdA).mono ?_;rintro x J ⟨A2,c2,rfl,C⟩;replace E:=E.call1A C;clear C)|(refine uC ?_;clear E;intro Z J E)|(refine aq ?_;clear E;intro vN J E)));rw [tG (k:=k) (s:=s) q1 F] at E;obtain ⟨gd,rfl⟩:=E.names1;have ie:Fit { k with bus:=q1 } { s with busA:=A2,busC:=c2 }:=⟨i8.data,i8.words,i8.robC,i8.robM,i8.feO,i8.stO,i8.reO⟩;have ic:St w0 D0 _ (.blk gd 118 d.cells :: .blk g 81 (ao { k with bus:=q1 } { s with busA:=A2,busC:=c2 }) :: .row ({ s with busA:=A2,busC:=c2 }:em).robA 54 (ens ({ k with bus:=q1 }:ak).rob)::M) (kD { k with bus:=q1 } { s with busA:=A2,busC:=c2 }++D):=E.lessD mU;clear E;have E:=ic;have H:a=true->({ s with busA:=A2,busC:=c2 }:em).feC=({ k with bus:=q1 }:ak).fetched.length:=ha;have aJ:b=true->({ s with busA:=A2,busC:=c2 }:em).stC=({ k with bus:=q1 }:ak).stores.length/\({ s with busA:=A2,busC:=c2 }:em).reC=({ k with bus:=q1 }:ak).retired.length:=ap;replace hE:dr k=if d.kind=1 then { ({ k with bus:=q1 }:ak) with rob:=({ k with bus:=q1 }:ak).rob.map (fH { k with bus:=q1 } d.line) }
   else if d.kind=2 then { ({ k with bus:=q1 }:ak) with words:=(oP ({ k with bus:=q1 }:ak).wways ({ k with bus:=q1 }:ak).words d.line ⟨#[]⟩ false).1 }
   else if d.kind=3 then jA { k with bus:=q1 } d.line
   else if d.kind=4 then { ({ k with bus:=q1 }:ak) with mem:=dZ ({ k with bus:=q1 }:ak).mem [⟨d.line,d.data⟩] }
   else { k with bus:=q1 }:=hE
  generalize { k with bus:=q1 }=k1 at E hk1 ie H aJ hE;generalize { s with busA:=A2,busC:=c2 }=s1 at E ie H aJ;clear ic HT ha ap i8 hk hbl;have aZ:=hk1.roblen;have a0:=hk1.mem;have j6:=ie.robC;(simp only [kD,zL] at E);by_cases h1:d.kind=1
  .rw [aa h1] at hE
   have aJ:=V (show decide (d.kind=1)=true by simpa using h1);clear h1;go_wp2_with ((try refine zs ?_);(first|go_big_skip|refine sx ?_|(go_at_call 62;refine (HT.out _ E.rdA).mono ?_;rintro x J ⟨A2,c2,rfl,C⟩;replace E:=E.call1A C;clear C)|(refine uC ?_;clear E;intro Z J E)|(refine aq ?_;clear E;intro vN J E)));go_loopw [34] (λi wr=>∃ j:Nat,j<=k1.rob.length/\i = I (j:Int)/\MQ w0 D0 D (.blk gd 118 d.cells::M) g k1 s1 (lM (fH k1 d.line) j k1.rob) wr) (λi _=>k1.rob.length - (intOf i).toNat);case atStart=>exact ⟨0,by omega,rfl,⟨((E.front 1 dD).front 2 jh).front 1 dD⟩⟩
   case round=>
    clear E aJ;obtain ⟨j,hj,rfl,⟨E⟩⟩:=hrel;(simp only [kD,zL] at E);by_cases aR:j<k1.rob.length
    .obtain ⟨e,ac⟩:∃ e,k1.rob[j]?=some e:=⟨_,ba aR⟩
     have hu:=B4 (f:=fH k1 d.line) ac;have he:=hk1.rob e (aQ ac);have iu:=BH (f:=fH k1 d.line) ac;have Q:=λh=>z' (f:=fH k1 d.line) ac h
     have ad:=Fo (fH k1 d.line) j k1.rob;have ed:=λW=>show Ca 63 #[U (e.addr:Int)] W (λx w'=>x = .returned (U ((e.addr - e.addr % 16:Nat):Int))/\af W w') from (mh e.addr W he.a).mono (λx w' h=>by obtain ⟨h1,d,rfl⟩:=h;exact ⟨h1,af.drewN _ d⟩)
     obtain ⟨L,hL⟩:∃ L,e.addr - e.addr % 16=L:=⟨_,rfl⟩;rw [hL] at ed;have G:fH k1 d.line e=if e.is=2/\L=d.line then gc { e with filled:=true } (kO k1 e) else e:=by unfold fH dL;rw [hL]
     obtain ⟨q,hq⟩:∃ q,lM (fH k1 d.line) j k1.rob=q:=⟨_,rfl⟩;rw [hq] at E hu iu ad Q;have il:0<(ens q).length:=by rw [kA];omega
     have hP:=E.rowP dD il;have a1:j<q.length:=by omega
     replace ed:=V ed;clear hq ac hE hL;by_cases hc:e.is=2
     .have aN:=V (show decide (e.is=2)=true by simpa using hc)
      by_cases hl:L=d.line
      .have aV:=V (show decide ((L:Int)=(d.line:Int))=true from cU O)
       rw [aa ⟨hc,hl⟩] at G;have al:=NG he;have R:kO k1 { e with filled:=true }=kO k1 e:=rfl;have aE:=Og k1 e;obtain ⟨Bs,aH⟩:∃ Bs,kO k1 e=Bs:=⟨_,rfl⟩;rw [aH] at G R aE;have iQ:=V (λW=>BT { e with filled:=true } Bs W al.op eT);rw [G] at iu;obtain ⟨f,hf⟩:∃ f,gc { e with filled:=true } Bs=f:=⟨_,rfl⟩;rw [hf] at iu iQ;replace iu:=V iu;replace R:=V R;clear hf G Q aH aE hl hc he;go_upto_region 8 with ((try refine zs ?_);(first|go_big_skip|refine xf ?_|(refine xo ?_;clear E;intro Z J E)));refine bA aj E _ _ (λ_ h=>h) (λ_ h=>h) ?_;clear E;intro E z;refine az 0 z ?_;refine dx 1 z ?_
       first|(refine eu (i:=2) F (tW F F F) z ?_;refine zs ?_)|refine zp 2 z ?_
       refine an 3 z ?_;refine cP 4 z ?_;refine jl 5 z ?_;refine cP 7 z ?_;refine jl 8 z ?_;refine aB 6 (λK X=>?_);go_wp2_with ((first|go_big_skip|(refine KB ?_;clear E;intro J E)));have z:=aO z E;refine X.out _ _ z ?_;clear X;refine zs ?_
       first|(refine eu (i:=9) F (tW F F F) z ?_;refine zs ?_)|refine zp 9 z ?_
       refine zp 10 z ?_;refine bt ?_
       (skip)
       go_upto_region 10 with ((try refine zs ?_);(first|go_big_skip|refine xf ?_|(refine xo ?_;clear E;intro Z J E)));refine bA aj E [.blk _ 54 ({ e with filled:=true }:En).cells,.blk g 81 (ao k1 s1)] _ cM (λ_ h=>h) ?_;clear E;intro E z;refine an 0 z ?_;refine zp 1 z ?_;refine az 2 z ?_;refine az 3 z ?_;refine dx 4 z ?_;refine an 5 z ?_;refine dx 6 z ?_;refine an 7 z ?_;refine dx 8 z ?_;refine aB 9 (λK X=>?_);go_wp2_with ((first|(go_at_call 65;refine (um (s:=s1) hk1 ie.data ie.stO { e with filled:=true } al ((E.front _ (m:=.blk g 81 (ao k1 s1)) bx).lessD (D':=kD k1 s1++D) mU)).mono ?_;rintro x J ⟨hx,⟨ia⟩⟩;rw [R.out] at hx;subst hx;clear E;have E:=ia;clear ia;(try simp only [zF] at E);(simp only [kD,zL] at E))|(refine xv ?_;clear E;intro J E)|((refine kx F E F F ?_);clear E;intro J E;(try refine zs ?_))));have z:=aO z E;refine X.out _ _ z ?_;clear X;refine zs ?_;refine aB 10 (λK X=>?_);go_wp2_with ((first|(go_at_call 65;refine (um (s:=s1) hk1 ie.data ie.stO { e with filled:=true } al ((E.front _ (m:=.blk g 81 (ao k1 s1)) bx).lessD (D':=kD k1 s1++D) mU)).mono ?_;rintro x J ⟨hx,⟨ia⟩⟩;rw [R.out] at hx;subst hx;clear E;have E:=ia;clear ia;(try simp only [zF] at E);(simp only [kD,zL] at E))|(refine xv ?_;clear E;intro J E)|((refine kx F E F F ?_);clear E;intro J E;(try refine zs ?_))));have z:=aO z E;refine X.out _ _ z ?_;clear X;refine zs ?_;refine qT 11 z ?_;refine aB 12 (λK X=>?_);go_wp2_with ((first|(go_at_call 65;refine (um (s:=s1) hk1 ie.data ie.stO { e with filled:=true } al ((E.front _ (m:=.blk g 81 (ao k1 s1)) bx).lessD (D':=kD k1 s1++D) mU)).mono ?_;rintro x J ⟨hx,⟨ia⟩⟩;rw [R.out] at hx;subst hx;clear E;have E:=ia;clear ia;(try simp only [zF] at E);(simp only [kD,zL] at E))|(go_at_call 64;refine aG E (iQ.out _) ?_;clear E;intro J E)|((refine kx F E F F ?_);clear E;intro J E;(try refine zs ?_))|(refine bz F E F F ?_;clear E;intro J E)|(refine aW F E F F ?_;clear E;intro J E)|(refine ju F E F F ?_;clear E;intro J E));refine zs ?_);have z:=aO z E;refine X.out _ _ z ?_;clear X;refine zs ?_;refine bt ?_
       (skip)
       go_wp2;go_roundw;case rel=>exact ⟨j+1,by omega,by go_num,⟨by rw [<- iu.out];exact E.drop 1⟩⟩
       case measure=>exact zM
      .have aV:=V (show decide ((L:Int)=(d.line:Int))=false from dg O)
       rw [Y (λh=>hl h.2)] at G;have aD:=V (Q G);clear G Q iu hl hc he;exact NL
     .have aN:=V (show decide (e.is=2)=false by simpa using hc)
      rw [Y (λh=>hc h.1)] at G;have aD:=V (Q G);clear G Q iu hc he;exact NL
    .obtain rfl:j=k1.rob.length:=by omega
     rw [Fz] at E;have ad:(k1.rob.map (fH k1 d.line)).length=k1.rob.length:=gq _;replace hE:=V hE;go_wp2_with ((try refine zs ?_);(first|go_big_skip|refine xf ?_|(refine xo ?_;clear E;intro Z J E)));go_end0;refine ⟨⟨_,rfl⟩,?_⟩;rw [hE.out];exact ⟨s1,⟨ie.data,ie.words,by show (k1.rob.map _).length<=_;rw [ad];exact j6,ie.robM,ie.feO,ie.stO,ie.reO⟩,H,aJ,⟨by rw [su _ ad];exact E.drop 2⟩⟩
  rw [Y h1] at hE;have a2:=V (show decide (d.kind=1)=false by simpa using h1);clear h1;by_cases h2:d.kind=2
  .rw [aa h2] at hE
   have hb2:=V (show decide (d.kind=2)=true by simpa using h2);clear h2;have hP:=Es k1.wways k1.words d.line ⟨#[]⟩ false;obtain ⟨C',iw,went,aI⟩:∃ C' iw went,oP k1.wways k1.words d.line ⟨#[]⟩ false=(C',iw,went):=⟨_,_,_,rfl⟩;rw [aI] at hP hE;dsimp only at hP hE;rw [<- ie.words] at hP;have j4:=hk1.wok;rw [<- ie.words] at j4;have aP:=V (λ(W:World) (h1:bT W W.heap.size s1.wA k1.words.length s1.wC s1.wS)=>nV hd.1 j4.sok hP W h1);replace hE:=V hE;clear aI hP;go_upto_region 13 with ((try refine zs ?_);(first|go_big_skip|refine sx ?_|(go_at_call 62;refine (HT.out _ E.rdA).mono ?_;rintro x J ⟨A2,c2,rfl,C⟩;replace E:=E.call1A C;clear C)|(refine uC ?_;clear E;intro Z J E)|(refine aq ?_;clear E;intro vN J E)));refine mA [16] aj E _ _ (λ_ h=>h) (λ_ h=>h) ?_;clear E;intro E z;refine cZ 0 z ?_;refine cZ 1 z ?_;refine zq 2 z ?_;refine bi 3 z ?_;refine bi 4 z ?_;refine jz 5 z ?_;refine bi 6 z ?_;refine jz 7 z ?_;refine ev (rs:=[8]) aj aF (et F (λK X=>?_) dH.nil);go_wp2_with ((first|(go_at_call 66;refine (aP.out _ E.rds).mono ?_;rintro x J ⟨_,rfl,A6,n6,c6,S6,rfl,C,av⟩;replace E:=E.callA C;clear C)|(refine jd F E F F ?_ (i8:=by (try simp only [cw]);rw [bM];exact ce F);clear E;intro J E;(try simp only [fL,jr] at E);refine zs ?_)|((first|refine aL ?_|(refine am ?_;clear E;intro Z J E));refine zs ?_)));have z:=aO z E;refine X.out _ _ (λ_=>z) ?_;clear X;refine zs ?_;refine cZ 9 z ?_;refine zq 10 z ?_;(refine oA (i:=11) (v:=?_) F ?_ (λ_=>z) ?_;rotate_left;(first|exact nJ kH ax|(refine cg ax ?_;intro w;go_simp;done)|(refine cg ax ?_;intro w;go_simp;with_reducible rfl)|(refine cg ax ?_;intro w;simp only [Wy.cells];go_simp;with_reducible rfl));(try refine zs ?_));(refine oA (i:=12) (v:=?_) F ?_ (λ_=>z) ?_;rotate_left;(first|exact nJ kH ax|(refine cg ax ?_;intro w;go_simp;done)|(refine cg ax ?_;intro w;go_simp;with_reducible rfl)|(refine cg ax ?_;intro w;simp only [Wy.cells];go_simp;with_reducible rfl));(try refine zs ?_));refine zq 13 z ?_;refine bi 14 z ?_;refine bi 15 z ?_;refine ev (rs:=[16]) aj aF (et F (λK X=>?_) dH.nil);go_wp2_with ((first|(go_at_call 66;refine (aP.out _ E.rds).mono ?_;rintro x J ⟨_,rfl,A6,n6,c6,S6,rfl,C,av⟩;replace E:=E.callA C;clear C)|(refine jd F E F F ?_ (i8:=by (try simp only [cw]);rw [bM];exact ce F);clear E;intro J E;(try simp only [fL,jr] at E);refine zs ?_)|((first|refine aL ?_|(refine am ?_;clear E;intro Z J E));refine zs ?_)));(try clear z);refine X.out _ _ (jO 16 F aj) ?_;clear X;refine zs ?_
   refine mJ aj ?_ _
   (skip)
   have aX:n6=C'.length:=(by rw [<- av,jN];exact ((E.rds (A:=A6) (n:=n6) (c:=c6) (S:=S6)).slen).symm);subst aX;rw [I7 (k:=k1) (s:=s1) S6 C' k1.wways F] at E;go_wp2;go_end0;refine ⟨⟨_,rfl⟩,?_⟩;rw [hE.out];exact ⟨{ s1 with wA:=A6,wC:=c6,wS:=S6 },⟨ie.data,av,ie.robC,ie.robM,ie.feO,ie.stO,ie.reO⟩,H,aJ,⟨(E.drop 0).lessD mU⟩⟩
  rw [Y h2] at hE;have a3:=V (show decide (d.kind=2)=false by simpa using h2);clear h2;by_cases h3:d.kind=3
  .rw [aa h3] at hE
   have hb3:=V (show decide (d.kind=3)=true by simpa using h3);clear h3;replace hE:=V hE;go_wp2_with ((try refine zs ?_);(first|go_big_skip|refine sx ?_|(go_at_call 67;refine (JJ (s:=s1) hk1 ie.data d.line hd.1 ((E.front _ (m:=.blk g 81 (ao k1 s1)) bx).lessD (D':=kD k1 s1++D) mU)).mono ?_;rintro x J ⟨⟨y,rfl⟩,⟨A5,c5,S5,A6,c6,aY,ia⟩⟩;clear E;have E:=ia;clear ia;(try simp only [zF] at E))|(refine bJ ?_;clear E;intro Z J E)|(refine aq ?_;clear E;intro vN J E)));go_end0;refine ⟨⟨_,rfl⟩,?_⟩;rw [hE.out];exact ⟨{ s1 with dA:=A5,dC:=c5,dS:=S5,busA:=A6,busC:=c6 },⟨aY,ie.words,ie.robC,ie.robM,ie.feO,ie.stO,ie.reO⟩,H,aJ,⟨E.drop 1⟩⟩
  rw [Y h3] at hE;have a4:=V (show decide (d.kind=3)=false by simpa using h3);clear h3;by_cases h4:d.kind=4
  .rw [aa h4] at hE
   have a5:=V (show decide (d.kind=4)=true by simpa using h4);clear h4;have aw:=V (λ(W:World) (A:Option Addr) (c:Nat) (h:Rd W W.heap.size 2 A 1 c [U (d.line:Int),.string d.data])=>zb k1.mem A 1 c [⟨d.line,d.data⟩] W h eT (zC hd.1 zN));replace hE:=V hE;go_upto_region 17 with ((try refine zs ?_);(first|go_big_skip|refine sx ?_|(go_at_call 62;refine (HT.out _ E.rdA).mono ?_;rintro x J ⟨A2,c2,rfl,C⟩;replace E:=E.call1A C;clear C)|(refine uC ?_;clear E;intro Z J E)|(refine aq ?_;clear E;intro vN J E)));refine mA [16] aj E _ _ (λ_ h=>h) (λ_ h=>h) ?_;clear E;intro E z;refine cZ 0 z ?_;refine cZ 1 z ?_;refine zq 2 z ?_;refine bi 3 z ?_;refine bi 4 z ?_;refine jz 5 z ?_;refine bi 6 z ?_;refine jz 7 z ?_;refine bi 8 z ?_;refine jz 9 z ?_;refine zq 10 z ?_;refine ev (rs:=[11]) aj aF (et F (λK X=>?_) dH.nil);go_wp2_with ((first|(go_at_call 68;obtain ⟨Ah,ch,io,ic⟩:=E.freeze 0 aC;injection io with hfz1 _ hfz2;subst hfz1 hfz2;clear E;have E:=ic;clear ic;(try simp only [zF] at E);refine E.cB (aw.out _ _ _ E.rdA) ?_;clear E;intro J E)|(refine bz F E F F ?_ (iv:=by (try simp only [cw]);rw [bM];decide);clear E;intro J E;(try simp only [zF] at E);refine zs ?_)|((first|refine aL ?_|(refine am ?_;clear E;intro Z J E));refine zs ?_)));have z:=aO z E;refine X.out _ _ (λ_=>z) ?_;clear X;refine zs ?_;refine ev (rs:=[12]) aj aF (et F (λK X=>?_) dH.nil);go_wp2_with ((first|(go_at_call 68;obtain ⟨Ah,ch,io,ic⟩:=E.freeze 0 aC;injection io with hfz1 _ hfz2;subst hfz1 hfz2;clear E;have E:=ic;clear ic;(try simp only [zF] at E);refine E.cB (aw.out _ _ _ E.rdA) ?_;clear E;intro J E)|(refine bz F E F F ?_ (iv:=by (try simp only [cw]);rw [bM];decide);clear E;intro J E;(try simp only [zF] at E);refine zs ?_)|((first|refine aL ?_|(refine am ?_;clear E;intro Z J E));refine zs ?_)));have z:=aO z E;refine X.out _ _ (λ_=>z) ?_;clear X;refine zs ?_;refine zq 13 z ?_;refine bi 14 z ?_;refine bi 15 z ?_;refine ev (rs:=[16]) aj aF (et F (λK X=>?_) dH.nil);go_wp2_with ((first|(go_at_call 68;obtain ⟨Ah,ch,io,ic⟩:=E.freeze 0 aC;injection io with hfz1 _ hfz2;subst hfz1 hfz2;clear E;have E:=ic;clear ic;(try simp only [zF] at E);refine E.cB (aw.out _ _ _ E.rdA) ?_;clear E;intro J E)|(refine bz F E F F ?_ (iv:=by (try simp only [cw]);rw [bM];decide);clear E;intro J E;(try simp only [zF] at E);refine zs ?_)|((first|refine aL ?_|(refine am ?_;clear E;intro Z J E));refine zs ?_)));(try clear z);refine X.out _ _ (jO 16 F aj) ?_;clear X;refine zs ?_
   refine mJ aj ?_ _
   (skip)
   rw [RN (k:=k1) (s:=s1)] at E;go_wp2;go_end0;refine ⟨⟨_,rfl⟩,?_⟩;rw [hE.out];exact ⟨s1,⟨ie.data,ie.words,ie.robC,ie.robM,ie.feO,ie.stO,ie.reO⟩,H,aJ,⟨(E.drop 0).lessD mU⟩⟩
  rw [Y h4] at hE;have a6:=V (show decide (d.kind=4)=false by simpa using h4);clear h4;replace hE:=V hE;go_wp2_with ((try refine zs ?_);(first|go_big_skip|refine sx ?_|(go_at_call 62;refine (HT.out _ E.rdA).mono ?_;rintro x J ⟨A2,c2,rfl,C⟩;replace E:=E.call1A C;clear C)|(refine uC ?_;clear E;intro Z J E)|(refine aq ?_;clear E;intro vN J E)));go_end0;refine ⟨⟨_,rfl⟩,?_⟩;rw [hE.out];exact ⟨s1,ie,H,aJ,⟨E.drop 0⟩⟩
end
end Go.Proofs.YtgnomadgnciifaaGreatDoor
