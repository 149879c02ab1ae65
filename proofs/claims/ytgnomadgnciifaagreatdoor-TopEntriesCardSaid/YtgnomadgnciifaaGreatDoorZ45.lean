/- . -/
import Derived.Test.YtgnomadgnciifaaGreatDoorZ36
import Derived.Test.YtgnomadgnciifaaGreatDoorZ38
set_option linter.all false
set_option maxRecDepth 100000
set_option maxHeartbeats 16000000
namespace Go.Proofs.YtgnomadgnciifaaGreatDoor
variable {p:Prop}
open Go.Proofs.Tryz
def H9 (h:p:=by
 go_wp2_with ((try refine zs ?_);(first|go_big_skip|(go_at_call 63;refine (ed.out _).mono ?_;rintro x J ⟨rfl,d,rfl⟩;replace E:=E.grow (af.drewN _ d))|refine CY ?_|(refine pV ?_;clear E;intro Z J E)|(go_at_call 81;obtain ⟨Ah,ch,io,ic⟩:=E.freeze 0 aC;injection io with hfz1 _ hfz2;subst hfz1 hfz2;clear E;have E:=ic;clear ic;(try simp only [zF] at E);refine (lC _ _ _ _ _ _ _ _ _ E.rdA E.rdA).mono ?_;rintro x J ⟨hx,hb⟩;rw [H.out] at hx;subst hx;replace E:=E.grow hb;clear hb)|(go_at_call 82;refine (lI (s:=s1) hk1 false ((E.front _ (m:=.blk g 81 (ao k1 s1)) bx).lessD (D':=kD k1 s1++D) qm)).mono ?_;rintro x J ⟨hx,⟨ia⟩⟩;rw [Q.out] at hx;subst hx;clear E;have E:=ia;clear ia;(try simp only [zF] at E);(simp only [kD,i8.stO,i8.reO,bO,zL] at E))|(go_at_call 83;refine (kJ (s:=s1) hk1 _ _ _ ((E.front _ (m:=.blk g 81 (ao k1 s1)) bx).lessD (D':=kD k1 s1++D) qm)).mono ?_;rintro x J ⟨⟨y,rfl⟩,A5,c5,ia⟩;clear E;have E:=ia;clear ia;(try simp only [zF] at E))|(go_at_call 84;refine (fZ.out _ E.rds).mono ?_;rintro x J ⟨_,rfl,A6,n6,c6,S6,rfl,C,ac⟩;replace E:=E.callA C;clear C)|(refine jd F E F F ?_ (i8:=by (try simp only [cw]);rw [bM];exact ce F);clear E;intro J E;(try simp only [fL,jr] at E))|(refine aq ?_;clear E;intro vN J E)))
 (refine bc (kw F _ _ _) F ⟨⟨_,rfl⟩,?_⟩;rw [hR.out];exact MF.toX ⟨s1,i8,E.lessD qm⟩)):=h
def MD (h:p:=by
 rw [oY oO,hE] at hR;replace hR:=V (show fo k=k1 from hR.out);clear hE hs R;go_upto_region 3 with ((try refine zs ?_);(first|go_big_skip|refine oG ?_|(refine bJ ?_;clear E;intro Z J E)|(refine aq ?_;clear E;intro vN J E)));refine bA aj E _ _ (λ_ h=>h) (λ_ h=>h) ?_;clear E;intro E z;refine an 0 z ?_;refine zp 1 z ?_;refine az 2 z ?_;refine az 3 z ?_;refine dx 4 z ?_;refine an 5 z ?_;refine jj 6 z ?_;refine zp 7 z ?_;refine cP 8 z ?_;refine cP 9 z ?_;refine jl 10 z ?_;refine oC 11 z ?_;refine jj 12 z ?_;refine zp 13 z ?_;refine cP 14 z ?_;refine cP 15 z ?_;refine cP 16 z ?_;refine jl 17 z ?_
 first|(refine eu (i:=18) F (qf F F F) z ?_;refine zs ?_)|refine zp 18 z ?_
 refine zp 19 z ?_;refine bt ?_
 (go_wp2_with ((try refine zs ?_);(first|go_big_skip|refine oG ?_|(refine bJ ?_;clear E;intro Z J E)|(refine aq ?_;clear E;intro vN J E)));(refine bc (kw F _ _ _) F ⟨⟨_,rfl⟩,?_⟩;rw [hR.out];exact MF.toX ⟨s1,i8,E.lessD qm⟩))):=h
def KS (h:p:=by
 have hl1:(k1.fetched++[(⟨k1.fetch,N⟩:Fe)]).length=k1.fetched.length+1:=by simp
 dsimp only;rw [hl1];refine E.lessD ?_;simp only [kD,i8.stO,i8.reO,bO,ES,zL]
 exact lN):=h
section
open Go.RowKit Wd
structure PC (k:ak) (s:em):Prop where
 data:aZ s.dS=k.data
 words:aZ s.wS=k.words
 robC:k.rob.length<=s.robC
 robM:s.robC<=maxLen
 stO:s.stO=false
 reO:s.reO=false
 full:s.feO=false->s.feC=k.fetched.length
inductive MF (w0:World) (D0 D:List Da) (M:List Mu) (g:Nat) (k:ak) (w:World):Prop
 | mk (s:em) (i8:PC k s) (E:St w0 D0 w (.blk g 81 (ao k s) :: .row s.robA 54 (ens k.rob)::rY s.feO 114 2 s.feA k.fetched.length s.feC (jF k.fetched)::M) (kD k s++D))
def MF.ofX {w0 w D0 D M g k b}(h:MX w0 D0 D M g k true b w):MF w0 D0 D M g k w:=by
 obtain ⟨s,i8,ha,-,⟨E⟩⟩:=h;refine ⟨s,⟨i8.data,i8.words,i8.robC,i8.robM,i8.stO,i8.reO,λ_=>ha F⟩,?_⟩;rw [i8.feO,yI];exact ((E.rowNil none 114).front 2 jh).front 2 jh
def MF.toX {w0 w D0 D M g k}(h:MF w0 D0 D M g k w):MX w0 D0 D M g k false false w:=by
 obtain ⟨s,i8,E⟩:=h;refine ⟨{ s with feO:=false },⟨i8.data,i8.words,i8.robC,i8.robM,rfl,i8.stO,i8.reO⟩,λh=>fK,λh=>fK,⟨?_⟩⟩;have ic:=E.apEnd jh BP;refine ic.lessD ?_;simp only [kD,bO,zL];exact lN
def Ns (q:List Fe) (a b:Nat):jF (q++[⟨a,b⟩])=jF q++[U (a:Int),U (b:Int)]:=g5v q [⟨a,b⟩]
def KOk.touch {B:Int} {k:ak} (h:KOk B k) (x:Nat):KOk B { k with words:=me k.wways k.words x } :=
 have ht:=yr k.wways k.words x
 { h with words:=ht.right h.words,wok:=ht.cok h.wok }
def Pl (k:ak) (x:Nat):∃ y,(dG k x).2={ k with guessed:=y }:=by
 unfold dG;split
 .exact ⟨k.guessed,rfl⟩
 .split
  .exact ⟨k.guessed,rfl⟩
  .split
   .exact ⟨k.guessed,rfl⟩
   .exact ⟨k.guessed+1,rfl⟩
def Tz {w0 w D0 D M g k b}(G:MX w0 D0 D M g k true b w)(hh:¬ k.halt=0):Ca 36 #[.pointer (some ⟨g,0,none⟩)] w λx w'=>(∃ y,x = .returned y)/\MX w0 D0 D M g (fo k) false false w':=by
 have aR:=(MF.ofX G).toX;obtain ⟨s,i8,ha,-,⟨E⟩⟩:=G;have hR:Hid (fo k=k):=V (by unfold fo;rw [aa hh]);simp only [kD,i8.feO,i8.stO,i8.reO,bO,zL] at E;go_enter func36,ntmps36;go_wp2_with ((try refine zs ?_);(first|go_big_skip|refine UW ?_|(refine bJ ?_;clear E;intro Z J E)|(refine aq ?_;clear E;intro vN J E)));refine bc (kw F _ _ _) F ⟨⟨_,rfl⟩,?_⟩;rw [hR.out];exact aR
def U7 {w0 w D0 D M g k b B}(hk:KOk B k)(hB:B+4<=1000000)(G:MX w0 D0 D M g k true b w):Ca 36 #[.pointer (some ⟨g,0,none⟩)] w λx w'=>(∃ y,x = .returned y)/\MX w0 D0 D M g (fo k) false false w':=by
 by_cases hh:¬ k.halt=0
 .exact Tz G hh
 have hR:Hid (fo k=gr iX k.conf.width.toNat k):=V (by unfold fo;rw [Y hh]);have aY:=V (show decide (¬ k.halt=0)=false by simpa using hh);have a0:=hk.cf.width;have ad:=MF.ofX G;obtain ⟨s,i8,E⟩:=ad;have ad:=MF.ofX G;(simp only [kD,i8.stO,i8.reO,bO,zL] at E);clear hh G;go_enter func36,ntmps36;go_wp2_with ((try refine zs ?_);(first|go_big_skip|refine oG ?_|(refine bJ ?_;clear E;intro Z J E)|(refine aq ?_;clear E;intro vN J E)));go_loopw [21] (λi wr=>∃ (j:Nat) (k1:ak),i = I (j:Int)/\j<=k.conf.width.toNat/\Hid (fo k=gr iX (k.conf.width.toNat - j) k1)/\KOk (B+j) k1/\MF w0 D0 D M g k1 wr) (λi _=>k.conf.width.toNat - (intOf i).toNat);case atStart=>exact ⟨0,k,rfl,mB _,hR,by simpa using hk,ad⟩
 case round=>
  clear E ad hR hk i8;obtain ⟨j,k1,rfl,hj,hR,hk1,⟨s1,i8,E⟩⟩:=hrel;by_cases a1:j<k.conf.width.toNat
  .obtain ⟨m,hm⟩:∃ m,k.conf.width.toNat - j=m+1:=⟨k.conf.width.toNat - j - 1,by omega⟩
   rw [hm] at hR;have hlt:=V (show decide ((j:Int)<k.conf.width)=true by simp;omega);obtain ⟨b3,hb3⟩:∃ b3,decide (k1.conf.queue<=(k1.fetched.length:Int))=b3:=⟨_,rfl⟩;have hE:iX k1=if k1.stop=true\/b3=true then (k1,false) else match eE k1.prog k1.fetch with
    | none=>({ k1 with fetched:=k1.fetched++[⟨k1.fetch,ay k1.fetch 4⟩],stop:=true },false)
    | some w=>
     if (jY k1.wways k1.words (dL k1.fetch)).2.2=false then
      (if kN k1.bus (dL k1.fetch) 2=false/\mw k1 false=true then fy k1 2 (dL k1.fetch) ⟨#[]⟩ else k1,false)
     else
      ({ (dG { k1 with words:=me k1.wways k1.words (dL k1.fetch) } w).2 with fetched:=(dG { k1 with words:=me k1.wways k1.words (dL k1.fetch) } w).2.fetched++[⟨k1.fetch,(dG { k1 with words:=me k1.wways k1.words (dL k1.fetch) } w).1⟩],fetch:=(dG { k1 with words:=me k1.wways k1.words (dL k1.fetch) } w).1 },true):=by
    unfold iX;have e:(k1.stop=true\/k1.conf.queue<=(k1.fetched.length:Int))↔(k1.stop=true\/b3=true):=by rw [<- hb3,decide_eq_true_iff]
    by_cases h:k1.stop=true\/b3=true
    .rw [aa h,aa (e.2 h)]
    .rw [Y h,Y (λh'=>h (e.1 h'))]
     rfl
   have a2:=hk1.felen;have ap:=hk1.fetch;replace hb3:=V hb3;have R:=E;(simp only [kD,i8.stO,i8.reO,bO,zL] at E);cases hs:k1.stop with
   | true=>
    have aV:(ao k1 s1)[46]?=some (.bool true):=(show (ao k1 s1)[46]?=some (.bool k1.stop) from rfl).trans (jB (λb=>some (Value.bool b)) hs);rw [aa (.inl hs)] at hE;exact MD
   | false=>
    have aV:(ao k1 s1)[46]?=some (.bool false):=(show (ao k1 s1)[46]?=some (.bool k1.stop) from rfl).trans (jB (λb=>some (Value.bool b)) hs);cases b3
    .rw [Y (λh=>h.elim (λh=>by rw [hs] at h;cases h) (λh=>by cases h))] at hE
     have lO:=λW h=>Ld s1.progA k1.prog.length s1.progC k1.prog k1.fetch W h ap
     cases jx:eE k1.prog k1.fetch with
     | none=>
      rw [jx] at hE lO;replace lO:=V (show ∀ (W:World) (h:Rd W W.heap.size 1 s1.progA k1.prog.length s1.progC (ai k1.prog)),Ca 79 #[.slice s1.progA k1.prog.length s1.progC,U (k1.fetch:Int)] W (RB W (.tuple #[U 0,.bool false])) from lO);rw [oY oO,hE] at hR;replace hR:=V (show fo k={ k1 with fetched:=k1.fetched++[⟨k1.fetch,ay k1.fetch 4⟩],stop:=true } from hR.out);have hw:IntKind.u32.wrap ((k1.fetch:Int)+4)=((ay k1.fetch 4:Nat):Int):=by
       simp only [IntKind.wrap,IntKind.bits,IntKind.signed];unfold ay
       simp
      obtain ⟨N,hN⟩:∃ N,ay k1.fetch 4=N:=⟨_,rfl⟩;rw [hN] at hR hw;replace hw:=V hw;clear hE hs jx hN R;go_upto_region 3 with ((try refine zs ?_);(first|go_big_skip|refine oG ?_|(refine bJ ?_;clear E;intro Z J E)|(refine aq ?_;clear E;intro vN J E)));refine bA aj E _ _ (λ_ h=>h) (λ_ h=>h) ?_;clear E;intro E z;refine an 0 z ?_;refine zp 1 z ?_;refine az 2 z ?_;refine az 3 z ?_;refine dx 4 z ?_;refine an 5 z ?_;refine jj 6 z ?_;refine zp 7 z ?_;refine cP 8 z ?_;refine cP 9 z ?_;refine jl 10 z ?_;refine oC 11 z ?_;refine jj 12 z ?_;refine zp 13 z ?_;refine cP 14 z ?_;refine cP 15 z ?_;refine cP 16 z ?_;refine jl 17 z ?_
      first|(refine eu (i:=18) F (qf F F F) z ?_;refine zs ?_)|refine zp 18 z ?_
      refine zp 19 z ?_;refine bt ?_;(go_upto_region 4 with ((try refine zs ?_);(first|go_big_skip|refine oG ?_|(refine bJ ?_;clear E;intro Z J E)|(refine aq ?_;clear E;intro vN J E))));refine bA aj E _ _ (λ_ h=>h) (λ_ h=>h) ?_;clear E;intro E z;refine an 0 z ?_;refine zp 1 z ?_;refine az 2 z ?_;refine az 3 z ?_;refine dx 4 z ?_;refine an 5 z ?_;refine zp 6 z ?_;refine az 7 z ?_;refine az 8 z ?_;refine dx 9 z ?_;refine aB 10 (λK X=>?_);go_wp2_with ((refine CP ?_;clear E;intro J E));have z:=aO z E;refine X.out _ _ z ?_;clear X;refine zs ?_;refine an 11 z ?_;refine zp 12 z ?_;refine zp 13 z ?_;refine cA 14 z ?_;refine cA 15 z ?_;refine bt ?_;(go_upto_region 6 with ((try refine zs ?_);(first|go_big_skip|refine oG ?_|(refine bJ ?_;clear E;intro Z J E)|(refine aq ?_;clear E;intro vN J E))));refine mA [23] aj E [.blk g 81 (ao k1 s1)] _ (by first|exact λ_ h=>h|((repeat (first|exact cE|refine eZ au ?_)) <;> exact cE)) (by first|exact λ_ h=>h|((repeat (first|exact cE|refine eZ au ?_)) <;> exact cE)) ?_;clear E;intro E z;refine cZ 0 z ?_;refine cZ 1 z ?_;refine zq 2 z ?_;refine bi 3 z ?_;refine bi 4 z ?_;refine jz 5 z ?_;refine cZ 6 z ?_;refine zq 7 z ?_;refine bi 8 z ?_;refine bi 9 z ?_;refine jz 10 z ?_;refine cZ 11 z ?_;refine zq 12 z ?_;refine bi 13 z ?_;refine bi 14 z ?_;refine jz 15 z ?_
      first|(refine yX (i:=16) F (rL F F F) z ?_;refine zs ?_)|(refine yX (i:=16) F (sb F F F) z ?_;refine zs ?_)|refine zq 16 z ?_
      refine zq 17 z ?_;refine ev (rs:=[18]) aj aF (et F (λK X=>?_) dH.nil);go_wp2_with ((first|(refine lR (i:=3) (j:=0) (b:=s1.feO) F E F F ?_ kY aC ag i8.full;clear E;intro A2 c2 J E;(try refine zs ?_))|(refine bz F E F F ?_ (iv:=by (try simp only [iJ]);rw [bM];decide);clear E;intro J E;(try simp only [zF] at E);refine zs ?_)|((first|refine aL ?_|(refine am ?_;clear E;intro Z J E));refine zs ?_)));have z:=aO z E;refine X.out _ _ (λ_=>z) ?_;clear X;refine zs ?_;refine ev (rs:=[19]) aj aF (et F (λK X=>?_) dH.nil);go_wp2_with ((first|(refine lR (i:=3) (j:=0) (b:=s1.feO) F E F F ?_ kY aC ag i8.full;clear E;intro A2 c2 J E;(try refine zs ?_))|(refine bz F E F F ?_ (iv:=by (try simp only [iJ]);rw [bM];decide);clear E;intro J E;(try simp only [zF] at E);refine zs ?_)|((first|refine aL ?_|(refine am ?_;clear E;intro Z J E));refine zs ?_)));have z:=aO z E;refine X.out _ _ (λ_=>z) ?_;clear X;refine zs ?_;refine zq 20 z ?_;refine bi 21 z ?_;refine bi 22 z ?_;refine ev (rs:=[23]) aj aF (et F (λK X=>?_) dH.nil);go_wp2_with ((first|(refine lR (i:=3) (j:=0) (b:=s1.feO) F E F F ?_ kY aC ag i8.full;clear E;intro A2 c2 J E;(try refine zs ?_))|(refine bz F E F F ?_ (iv:=by (try simp only [iJ]);rw [bM];decide);clear E;intro J E;(try simp only [zF] at E);refine zs ?_)|((first|refine aL ?_|(refine am ?_;clear E;intro Z J E));refine zs ?_)));(try clear z);refine X.out _ _ (jO 23 F aj) ?_;clear X;refine zs ?_
      refine mJ aj ?_ _
      (skip)
      go_wp2_with ((try refine zs ?_);(first|go_big_skip|(refine v9 ?_;clear E;intro Z J E)|refine nB ?_|(refine aq ?_;clear E;intro vN J E)));refine bc (kw F _ _ _) F ⟨⟨_,rfl⟩,?_⟩;rw [hR.out];rw [hw.out] at E;rw [ve (k:=k1) (s:=s1) (k1.fetched++[⟨k1.fetch,N⟩]) aF,Be,<- Ns] at E;refine MF.toX ⟨{ s1 with feO:=true,feA:=A2,feC:=c2 },⟨i8.data,i8.words,i8.robC,i8.robM,i8.stO,i8.reO,λh=>fK⟩,?_⟩;exact KS
     | some x=>
      rw [jx] at hE lO
      have hx32:x<4294967296:=hk1.prog x (by
       unfold eE at jx;split at jx
       .exact aQ jx
       .cases jx)
      replace lO:=V (show ∀ (W:World) (h:Rd W W.heap.size 1 s1.progA k1.prog.length s1.progC (ai k1.prog)),Ca 79 #[.slice s1.progA k1.prog.length s1.progC,U (k1.fetch:Int)] W (RB W (.tuple #[U (x:Int),.bool true])) from lO);have ed:=λW=>mh k1.fetch W ap
      have av:=tI ap;obtain ⟨L,hL⟩:∃ L,dL k1.fetch=L:=⟨_,rfl⟩;rw [show k1.fetch - k1.fetch % 16=L from hL] at ed;dsimp only at hE;rw [hL] at hE av;have hfr:=sG k1.wways k1.words L;obtain ⟨i1,i2,fb,aE⟩:∃ i1 i2 fb,jY k1.wways k1.words L=(i1,i2,fb):=⟨_,_,_,rfl⟩;rw [aE] at hE hfr;dsimp only at hE hfr;rw [<- i8.words] at hfr;have j4:=hk1.wok;rw [<- i8.words] at j4;have pl:=V (λ(W:World) (h1:bT W W.heap.size s1.wA k1.words.length s1.wC s1.wS)=>mc av j4.sok hfr W h1);replace ed:=V ed;clear aE hfr hL jx hs R;cases fb
      .rw [aa F] at hE
       obtain ⟨hv,H⟩:∃ hv,kN k1.bus L 2=hv:=⟨_,rfl⟩;obtain ⟨rm,Q⟩:∃ rm,mw k1 false=rm:=⟨_,rfl⟩;rw [H,Q] at hE;rw [oY oO,hE] at hR;replace H:=V H;replace Q:=V Q;clear hE;go_upto_region 3 with ((try refine zs ?_);(first|go_big_skip|refine oG ?_|(refine bJ ?_;clear E;intro Z J E)|(refine aq ?_;clear E;intro vN J E)));refine bA aj E _ _ (λ_ h=>h) (λ_ h=>h) ?_;clear E;intro E z;refine an 0 z ?_;refine zp 1 z ?_;refine az 2 z ?_;refine az 3 z ?_;refine dx 4 z ?_;refine an 5 z ?_;refine jj 6 z ?_;refine zp 7 z ?_;refine cP 8 z ?_;refine cP 9 z ?_;refine jl 10 z ?_;refine oC 11 z ?_;refine jj 12 z ?_;refine zp 13 z ?_;refine cP 14 z ?_;refine cP 15 z ?_;refine cP 16 z ?_;refine jl 17 z ?_
       first|(refine eu (i:=18) F (qf F F F) z ?_;refine zs ?_)|refine zp 18 z ?_
       refine zp 19 z ?_;refine bt ?_;(go_upto_region 4 with ((try refine zs ?_);(first|go_big_skip|refine oG ?_|(refine bJ ?_;clear E;intro Z J E)|(refine aq ?_;clear E;intro vN J E))));refine bA aj E _ _ (λ_ h=>h) (λ_ h=>h) ?_;clear E;intro E z;refine an 0 z ?_;refine zp 1 z ?_;refine az 2 z ?_;refine az 3 z ?_;refine dx 4 z ?_;refine an 5 z ?_;refine zp 6 z ?_;refine az 7 z ?_;refine az 8 z ?_;refine dx 9 z ?_;refine aB 10 (λK X=>?_);go_wp2_with ((refine CP ?_;clear E;intro J E));have z:=aO z E;refine X.out _ _ z ?_;clear X;refine zs ?_;refine an 11 z ?_;refine zp 12 z ?_;refine zp 13 z ?_;refine cA 14 z ?_;refine cA 15 z ?_;refine bt ?_
       (skip)
       cases hv
       .cases rm
        .replace hR:=V (show fo k=k1 by rw [hR.out];rfl)
         exact H9
        .replace hR:=V (show fo k=fy k1 2 L ⟨#[]⟩ by rw [hR.out];rfl)
         go_wp2_with ((try refine zs ?_);(first|go_big_skip|(go_at_call 63;refine (ed.out _).mono ?_;rintro x J ⟨rfl,d,rfl⟩;replace E:=E.grow (af.drewN _ d))|refine CY ?_|(refine pV ?_;clear E;intro Z J E)|(go_at_call 81;obtain ⟨Ah,ch,io,ic⟩:=E.freeze 0 aC;injection io with hfz1 _ hfz2;subst hfz1 hfz2;clear E;have E:=ic;clear ic;(try simp only [zF] at E);refine (lC _ _ _ _ _ _ _ _ _ E.rdA E.rdA).mono ?_;rintro x J ⟨hx,hb⟩;rw [H.out] at hx;subst hx;replace E:=E.grow hb;clear hb)|(go_at_call 82;refine (lI (s:=s1) hk1 false ((E.front _ (m:=.blk g 81 (ao k1 s1)) bx).lessD (D':=kD k1 s1++D) qm)).mono ?_;rintro x J ⟨hx,⟨ia⟩⟩;rw [Q.out] at hx;subst hx;clear E;have E:=ia;clear ia;(try simp only [zF] at E);(simp only [kD,i8.stO,i8.reO,bO,zL] at E))|(go_at_call 83;refine (kJ (s:=s1) hk1 _ _ _ ((E.front _ (m:=.blk g 81 (ao k1 s1)) bx).lessD (D':=kD k1 s1++D) qm)).mono ?_;rintro x J ⟨⟨y,rfl⟩,A5,c5,ia⟩;clear E;have E:=ia;clear ia;(try simp only [zF] at E))|(go_at_call 84;refine (fZ.out _ E.rds).mono ?_;rintro x J ⟨_,rfl,A6,n6,c6,S6,rfl,C,ac⟩;replace E:=E.callA C;clear C)|(refine jd F E F F ?_ (i8:=by (try simp only [cw]);rw [bM];exact ce F);clear E;intro J E;(try simp only [fL,jr] at E))|(refine aq ?_;clear E;intro vN J E)));refine bc (kw F _ _ _) F ⟨⟨_,rfl⟩,?_⟩;rw [hR.out];exact MF.toX ⟨{ s1 with busA:=A5,busC:=c5 },⟨i8.data,i8.words,i8.robC,i8.robM,i8.stO,i8.reO,i8.full⟩,E⟩
       .replace hR:=V (show fo k=k1 by rw [hR.out];rfl)
        exact H9
      .rw [Y ag] at hE
       have al:=yr k1.wways k1.words L;have aw:=hk1.touch L;obtain ⟨C',aH⟩:∃ C',me k1.wways k1.words L=C':=⟨_,rfl⟩;rw [aH] at al hE aw;rw [<- i8.words] at al;have fZ:=V (λ(W:World) (h1:bT W W.heap.size s1.wA k1.words.length s1.wC s1.wS)=>I8 av j4.sok al W h1);obtain ⟨gs,aI⟩:=Pl { k1 with words:=C' } x;obtain ⟨N,hN⟩:∃ N,(dG { k1 with words:=C' } x).1=N:=⟨_,rfl⟩;have ab:dG { k1 with words:=C' } x=(N,{ k1 with words:=C',guessed:=gs }):=Prod.ext hN aI;rw [ab] at hE;have aD:=hk1.fetch1 O;rw [hE] at aD;rw [B8 oO,hE] at hR;dsimp only at hR aD;have hb:=aw.behind O x;rw [ab] at hb;have a3:=hb.1;replace ab:=V ab;clear hE aI hN hb al aH;go_upto_region 3 with ((try refine zs ?_);(first|go_big_skip|refine oG ?_|(refine bJ ?_;clear E;intro Z J E)|(refine aq ?_;clear E;intro vN J E)));refine bA aj E _ _ (λ_ h=>h) (λ_ h=>h) ?_;clear E;intro E z;refine an 0 z ?_;refine zp 1 z ?_;refine az 2 z ?_;refine az 3 z ?_;refine dx 4 z ?_;refine an 5 z ?_;refine jj 6 z ?_;refine zp 7 z ?_;refine cP 8 z ?_;refine cP 9 z ?_;refine jl 10 z ?_;refine oC 11 z ?_;refine jj 12 z ?_;refine zp 13 z ?_;refine cP 14 z ?_;refine cP 15 z ?_;refine cP 16 z ?_;refine jl 17 z ?_
       first|(refine eu (i:=18) F (qf F F F) z ?_;refine zs ?_)|refine zp 18 z ?_
       refine zp 19 z ?_;refine bt ?_;(go_upto_region 4 with ((try refine zs ?_);(first|go_big_skip|refine oG ?_|(refine bJ ?_;clear E;intro Z J E)|(refine aq ?_;clear E;intro vN J E))));refine bA aj E _ _ (λ_ h=>h) (λ_ h=>h) ?_;clear E;intro E z;refine an 0 z ?_;refine zp 1 z ?_;refine az 2 z ?_;refine az 3 z ?_;refine dx 4 z ?_;refine an 5 z ?_;refine zp 6 z ?_;refine az 7 z ?_;refine az 8 z ?_;refine dx 9 z ?_;refine aB 10 (λK X=>?_);go_wp2_with ((refine CP ?_;clear E;intro J E));have z:=aO z E;refine X.out _ _ z ?_;clear X;refine zs ?_;refine an 11 z ?_;refine zp 12 z ?_;refine zp 13 z ?_;refine cA 14 z ?_;refine cA 15 z ?_;refine bt ?_
       (skip)
       go_upto_region 14 with ((try refine zs ?_);(first|go_big_skip|(go_at_call 63;refine (ed.out _).mono ?_;rintro x J ⟨rfl,d,rfl⟩;replace E:=E.grow (af.drewN _ d))|refine CY ?_|(refine pV ?_;clear E;intro Z J E)|(go_at_call 81;obtain ⟨Ah,ch,io,ic⟩:=E.freeze 0 aC;injection io with hfz1 _ hfz2;subst hfz1 hfz2;clear E;have E:=ic;clear ic;(try simp only [zF] at E);refine (lC _ _ _ _ _ _ _ _ _ E.rdA E.rdA).mono ?_;rintro x J ⟨hx,hb⟩;rw [H.out] at hx;subst hx;replace E:=E.grow hb;clear hb)|(go_at_call 82;refine (lI (s:=s1) hk1 false ((E.front _ (m:=.blk g 81 (ao k1 s1)) bx).lessD (D':=kD k1 s1++D) qm)).mono ?_;rintro x J ⟨hx,⟨ia⟩⟩;rw [Q.out] at hx;subst hx;clear E;have E:=ia;clear ia;(try simp only [zF] at E);(simp only [kD,i8.stO,i8.reO,bO,zL] at E))|(go_at_call 83;refine (kJ (s:=s1) hk1 _ _ _ ((E.front _ (m:=.blk g 81 (ao k1 s1)) bx).lessD (D':=kD k1 s1++D) qm)).mono ?_;rintro x J ⟨⟨y,rfl⟩,A5,c5,ia⟩;clear E;have E:=ia;clear ia;(try simp only [zF] at E))|(go_at_call 84;refine (fZ.out _ E.rds).mono ?_;rintro x J ⟨_,rfl,A6,n6,c6,S6,rfl,C,ac⟩;replace E:=E.callA C;clear C)|(refine jd F E F F ?_ (i8:=by (try simp only [cw]);rw [bM];exact ce F);clear E;intro J E;(try simp only [fL,jr] at E))|(refine aq ?_;clear E;intro vN J E)));have aX:n6=C'.length:=(by rw [<- ac,jN];exact ((E.rds (A:=A6) (n:=n6) (c:=c6) (S:=S6)).slen).symm);subst aX;rw [I7 (k:=k1) (s:=s1) S6 C' k1.wways F] at E;go_upto_region 15 with ((try refine zs ?_);(first|(go_at_call 85;refine (Vb (s:={ s1 with wA:=A6,wC:=c6,wS:=S6 }) aw x hx32 ((E.front _ (m:=.blk g 81 (ao { k1 with words:=C' } { s1 with wA:=A6,wC:=c6,wS:=S6 })) bx).lessD (D':=kD { k1 with words:=C' } { s1 with wA:=A6,wC:=c6,wS:=S6 }++D) qm)).mono ?_;rintro y J ⟨hy,aP⟩;rw [ab.out] at hy aP;subst hy;obtain ⟨ia⟩:=aP;clear E;have E:=ia;clear ia;(try simp only [zF] at E);(simp only [kD,i8.stO,i8.reO,bO,zL] at E))|refine nB ?_|(refine bJ ?_;clear E;intro Z J E)|(refine aq ?_;clear E;intro vN J E)));refine mA [18] aj E [.blk g 81 (ao _ _)] _ (by first|exact λ_ h=>h|((repeat (first|exact cE|refine eZ au ?_)) <;> exact cE)) (by first|exact λ_ h=>h|((repeat (first|exact cE|refine eZ au ?_)) <;> exact cE)) ?_;clear E;intro E z;refine cZ 0 z ?_;refine cZ 1 z ?_;refine zq 2 z ?_;refine bi 3 z ?_;refine bi 4 z ?_;refine jz 5 z ?_;refine cZ 6 z ?_;refine zq 7 z ?_;refine bi 8 z ?_;refine bi 9 z ?_;refine jz 10 z ?_;refine cZ 11 z ?_;refine zq 12 z ?_;refine ev (rs:=[13]) aj aF (et F (λK X=>?_) dH.nil);go_wp2_with ((first|(refine lR (i:=3) (j:=0) (b:=s1.feO) F E F F ?_ kY aC ag i8.full;clear E;intro A2 c2 J E;(try refine zs ?_))|(refine bz F E F F ?_ (iv:=by (try simp only [iJ]);rw [bM];decide);clear E;intro J E;(try simp only [zF] at E);refine zs ?_)|((first|refine aL ?_|(refine am ?_;clear E;intro Z J E));refine zs ?_)));have z:=aO z E;refine X.out _ _ (λ_=>z) ?_;clear X;refine zs ?_;refine ev (rs:=[14]) aj aF (et F (λK X=>?_) dH.nil);go_wp2_with ((first|(refine lR (i:=3) (j:=0) (b:=s1.feO) F E F F ?_ kY aC ag i8.full;clear E;intro A2 c2 J E;(try refine zs ?_))|(refine bz F E F F ?_ (iv:=by (try simp only [iJ]);rw [bM];decide);clear E;intro J E;(try simp only [zF] at E);refine zs ?_)|((first|refine aL ?_|(refine am ?_;clear E;intro Z J E));refine zs ?_)));have z:=aO z E;refine X.out _ _ (λ_=>z) ?_;clear X;refine zs ?_;refine zq 15 z ?_;refine bi 16 z ?_;refine bi 17 z ?_;refine ev (rs:=[18]) aj aF (et F (λK X=>?_) dH.nil);go_wp2_with ((first|(refine lR (i:=3) (j:=0) (b:=s1.feO) F E F F ?_ kY aC ag i8.full;clear E;intro A2 c2 J E;(try refine zs ?_))|(refine bz F E F F ?_ (iv:=by (try simp only [iJ]);rw [bM];decide);clear E;intro J E;(try simp only [zF] at E);refine zs ?_)|((first|refine aL ?_|(refine am ?_;clear E;intro Z J E));refine zs ?_)));(try clear z);refine X.out _ _ (jO 18 F aj) ?_;clear X;refine zs ?_
       refine mJ aj ?_ _
       (skip)
       rw [ve (n:=k1.fetched.length+1) (k1.fetched++[⟨k1.fetch,N⟩]) aF,<- Ns] at E;go_wp2_with ((try refine zs ?_);(first|go_big_skip|(refine v9 ?_;clear E;intro Z J E)|refine nB ?_|(refine aq ?_;clear E;intro vN J E)));go_roundw;case rel=>
        rw [GC] at E;refine ⟨j+1,{ k1 with words:=C',guessed:=gs,fetched:=k1.fetched++[⟨k1.fetch,N⟩],fetch:=N },by go_num,by omega,V Ck,by rw [show B+((j+1:Nat):Int)=B+(j:Int)+1 by omega];exact aD,⟨{ s1 with wA:=A6,wC:=c6,wS:=S6,feO:=true,feA:=A2,feC:=c2,stO:=false,reO:=false },⟨i8.data,ac,i8.robC,i8.robM,rfl,rfl,λh=>fK⟩,?_⟩⟩;exact KS
       case measure=>exact zM
    .rw [aa (.inr F)] at hE
     exact MD
  .have hz:k.conf.width.toNat - j=0:=by omega
   rw [hz] at hR;replace hR:=V (show fo k=k1 from hR.out);have hlt:=V (show decide ((j:Int)<k.conf.width)=false by simp;omega);have R:=E;(simp only [kD,i8.stO,i8.reO,bO,zL] at E);go_wp2_with ((try refine zs ?_);(first|go_big_skip|refine g3d ?_|(refine bJ ?_;clear E;intro Z J E)|(refine aq ?_;clear E;intro vN J E)));go_end0;refine ⟨⟨_,rfl⟩,?_⟩;rw [hR.out];exact MF.toX ⟨s1,i8,R⟩
end
end Go.Proofs.YtgnomadgnciifaaGreatDoor
