/- . -/
import Derived.Test.YtgnomadgnciifaaGreatDoorZ36
set_option linter.all false
set_option maxRecDepth 100000
set_option maxHeartbeats 16000000
namespace Go.Proofs.YtgnomadgnciifaaGreatDoor
open Go.Proofs.Tryz
def D7 {p:Prop} (h:p:=by
 clear hb;go_upto_region 6 with ((try refine zs ?_);(first|refine yf ?_|(refine bJ ?_;clear E;intro Z J E)|(refine aq ?_;clear E;intro vN J E)));refine bA aj E _ _ (λ_ h=>h) (λ_ h=>h) ?_;clear E;intro E z;refine an 0 z ?_;refine zp 1 z ?_;refine an 2 z ?_;refine jj 3 z ?_;refine jj 4 z ?_
 first|(refine eu (i:=5) F (CA F F F) z ?_;refine zs ?_)|refine zp 5 z ?_
 refine Bd 6 z ?_;refine cP 7 z ?_;refine pH 8 z ?_;refine cP 9 z ?_;refine pH 10 z ?_;refine zp 11 z ?_;refine zp 12 z ?_;refine an 13 z ?_;refine pH 14 z ?_;refine aB 15 (λK X=>?_);go_wp2_with ((refine EG ?_;clear E;intro J E));have z:=z.nextA E;refine X.out _ _ z ?_;clear X;refine zs ?_;refine zp 16 z ?_;refine zp 17 z ?_;refine bt ?_
 (go_wp2;go_ret;exact ⟨by rw [hR.out];rfl,E.bel⟩)):p:=h
section
open Go.RowKit Wd
def ue (q:List En) (k:Nat):Prop:=∀ (j:Nat) (e:En),j<k->q[j]?=some e->ew e=true /\ ∀ (f:En),0<j->q[j - 1]?=some f->f.no<e.no
def GE (q):ue q 0:=λj e h=>absurd h O
def IO {q k e}(h:ue q k)(he:q[k]?=some e)(hs:ew e=true)(hf:∀ f,0<k->q[k - 1]?=some f->f.no<e.no):ue q (k+1):=λj g hj hg=>by
 by_cases hjk:j<k
 .exact h j g hjk hg
 .obtain rfl:j=k:=by omega
  rw [he] at hg;injection hg with hg;subst hg;exact ⟨hs,hf⟩
def BZ : ∀ (q:List En),rp q=true↔ue q q.length
 | []=>⟨λ_=>GE _,λ_=>rfl⟩
 | [e]=>by
  unfold rp;constructor
  .intro h j g hj hg
   simp only [mO] at hj;obtain rfl:j=0:=by omega
   simp only [mI,dF] at hg;subst hg;exact ⟨h,λf hf=>absurd hf O⟩
  .intro h
   exact (h 0 e aF F).1
 | e::f::r=>by
  unfold rp;rw [fi,fi,BZ (f::r),iA];constructor
  .rintro ⟨h1,h2,h3⟩ j g hj hg
   cases j with
   | zero=>
    simp only [mI,dF] at hg;subst hg;exact ⟨h1,λf hf=>absurd hf O⟩
   | succ j=>
    rw [pT] at hg;have h4:=h3 j g (by simp only [ft] at hj ⊢;omega) hg;refine ⟨h4.1,λx _ hx=>?_⟩;rw [zu] at hx;cases j with
    | zero=>
     simp only [mI,dF] at hx hg;subst hx hg;exact h2
    | succ j=>
     rw [pT] at hx;exact h4.2 x O hx
  .intro h
   refine ⟨(h 0 e aF F).1,(h 1 f aF F).2 e O F,λj g hj hg=>?_⟩;have h4:=h (j+1) g (by simp only [ft] at hj ⊢;omega) (by rw [pT];exact hg);refine ⟨h4.1,λx h0 hx=>h4.2 x O ?_⟩;rw [zu];cases j with
   | zero=>omega
   | succ j=>rw [pT];simpa using hx
def i5b {q}(h:q.length<=8)(h2:ue q q.length):mj q=true:=by
 unfold mj;rw [(BZ q).2 h2];simpa using h
def i5c {q}(h:8<q.length):mj q=false:=by
 unfold mj;have:decide (q.length<=8)=false:=by simp;omega
 rw [this];rfl
def IV {q k e}(he:q[k]?=some e)(h:ew e=false \/ ∃ f,0<k/\q[k - 1]?=some f/\e.no<=f.no):mj q=false:=by
 unfold mj;cases hr:rp q
 .simp
 .exfalso
  have h2:=(BZ q).1 hr k e (aK.1 he).1 he;rcases h with h|⟨f,h0,hf,H⟩
  .rw [h] at h2;cases h2.1
  .have:=h2.2 f h0 hf;omega
def G0 (A n c q w)(hr:Rd w w.heap.size 17 A n c (ens q))(hq:dp q)(L:n<=1000)(hc:Rd w w.heap.size 1 (some ⟨0,0,none⟩) 49 49 (ai ci)):Ca 10 #[.slice A n c] w (RB w (.bool (mj q))):=by
 have E:=St.start w [ab 17 A n c (ens q),eG] (zC hr (zC hc zN));have hn:=V hr.enslen;replace hq:=V hq;clear hr hc;by_cases Q:8<n
 .have hR:=i5c (q:=q) uJ
  rw [hR];clear hR;have hd8:decide ((8:Int)<(n:Int))=true:=by simp;omega
  go_enter func10,ntmps10;go_wp2_with (((first|refine aL ?_|(refine am ?_;clear E;intro Z J E));refine zs ?_));go_ret;exact ⟨rfl,E.bel⟩
 have hd8:decide ((8:Int)<(n:Int))=false:=by simp;omega
 obtain ⟨R,vm⟩:∃ R,mj q=R:=⟨_,rfl⟩;rw [vm];replace vm:=V vm;go_enter func10,ntmps10;go_wp2_with (((first|refine aL ?_|(refine am ?_;clear E;intro Z J E));refine zs ?_));go_loopw [10] (λi wr=>∃ k:Nat,k<=n/\i = I (k:Int)/\Hid (ue q k)/\St w [ab 17 A n c (ens q),eG] wr [] [ab 17 A n c (ens q),eG]) (λi _=>n - (intOf i).toNat);case atStart=>exact ⟨0,by omega,rfl,V (GE q),E⟩
 case round=>
  clear E;obtain ⟨k,hk,rfl,gV,E⟩:=hrel;by_cases ik:k<n
  .obtain ⟨e,hu⟩:∃ e,q[k]?=some e:=⟨_,ba uJ⟩
   have he:=V (hq.out e (aQ hu));have HS:=V (λW (h:Rd W W.heap.size 1 (some ⟨0,0,none⟩) 49 49 (ai ci))=>Up e W he.out h);obtain ⟨b,hb⟩:∃ b,ew e=b:=⟨_,rfl⟩;rw [hb] at HS;rcases lh k with D|D
   .subst D
    have G:decide ((0:Int)<((0:Nat):Int))=false:=rfl;cases b
    .skip
     have hR:Hid (R=false):=V Gt;obtain ⟨no,pc,⟨op,rd,rs1,rs2,imm⟩,guess,is,left,value,next,addr,halt,took,known,filled⟩:=e;unfold En.val at HS;dsimp only at HS;exact D7
    .skip
     have C:=V (IO gV.out hu hb (λf h=>absurd h O));obtain ⟨no,pc,⟨op,rd,rs1,rs2,imm⟩,guess,is,left,value,next,addr,halt,took,known,filled⟩:=e;unfold En.val at HS;dsimp only at HS;clear hb;go_upto_region 6 with ((try refine zs ?_);(first|refine yf ?_|(refine bJ ?_;clear E;intro Z J E)|(refine aq ?_;clear E;intro vN J E)));refine bA aj E _ _ (λ_ h=>h) (λ_ h=>h) ?_;clear E;intro E z;refine an 0 z ?_;refine zp 1 z ?_;refine an 2 z ?_;refine jj 3 z ?_;refine jj 4 z ?_
     first|(refine eu (i:=5) F (CA F F F) z ?_;refine zs ?_)|refine zp 5 z ?_
     refine Bd 6 z ?_;refine cP 7 z ?_;refine pH 8 z ?_;refine cP 9 z ?_;refine pH 10 z ?_;refine zp 11 z ?_;refine zp 12 z ?_;refine an 13 z ?_;refine pH 14 z ?_;refine aB 15 (λK X=>?_);go_wp2_with ((refine EG ?_;clear E;intro J E));have z:=z.nextA E;refine X.out _ _ z ?_;clear X;refine zs ?_;refine zp 16 z ?_;refine zp 17 z ?_;refine bt ?_;(go_wp2;(go_roundw;(case rel=>exact ⟨0+1,l5,(by first|rfl|go_num),C,E.drop 0⟩);(case measure=>exact zM)))
   .obtain ⟨j,rfl⟩:∃ j,k=j+1:=⟨k - 1,by omega⟩
    obtain ⟨f,hf⟩:∃ f,q[j]?=some f:=⟨_,ba uJ⟩;have G:decide ((0:Int)<(j:Int)+1)=true:=cU O;have j9:(((j+1:Nat):Int) - 1)=(j:Int):=by omega
    have ac:j<n:=by omega
    by_cases iz:f.no<e.no
    .cases b
     .skip
      have hR:Hid (R=false):=V Gt;obtain ⟨no,pc,⟨op,rd,rs1,rs2,imm⟩,guess,is,left,value,next,addr,halt,took,known,filled⟩:=e;unfold En.val at HS;dsimp only at HS;have hdn:decide (no<=f.no)=false:=by simp;exact iz
      clear iz;exact D7
     .skip
      have C:=V (IO gV.out hu hb (λg _ hg=>by rw [zu,hf] at hg;injection hg with hg;subst hg;exact iz));obtain ⟨no,pc,⟨op,rd,rs1,rs2,imm⟩,guess,is,left,value,next,addr,halt,took,known,filled⟩:=e;unfold En.val at HS;dsimp only at HS;have hdn:decide (no<=f.no)=false:=by simp;exact iz
      clear iz;clear hb;go_upto_region 6 with ((try refine zs ?_);(first|refine yf ?_|(refine bJ ?_;clear E;intro Z J E)|(refine aq ?_;clear E;intro vN J E)));refine bA aj E _ _ (λ_ h=>h) (λ_ h=>h) ?_;clear E;intro E z;refine an 0 z ?_;refine zp 1 z ?_;refine an 2 z ?_;refine jj 3 z ?_;refine jj 4 z ?_
      first|(refine eu (i:=5) F (CA F F F) z ?_;refine zs ?_)|refine zp 5 z ?_
      refine Bd 6 z ?_;refine cP 7 z ?_;refine pH 8 z ?_;refine cP 9 z ?_;refine pH 10 z ?_;refine zp 11 z ?_;refine zp 12 z ?_;refine an 13 z ?_;refine pH 14 z ?_;refine aB 15 (λK X=>?_);go_wp2_with ((refine EG ?_;clear E;intro J E));have z:=z.nextA E;refine X.out _ _ z ?_;clear X;refine zs ?_;refine zp 16 z ?_;refine zp 17 z ?_;refine bt ?_;(go_wp2;(go_roundw;(case rel=>exact ⟨j+1+1,l5,(by first|rfl|go_num),C,E.drop 0⟩);(case measure=>exact zM)))
    .skip
     have hR:Hid (R=false):=V (by rw [<- vm.out];exact IV hu (.inr ⟨f,by omega,by rw [zu];exact hf,by omega⟩));obtain ⟨no,pc,⟨op,rd,rs1,rs2,imm⟩,guess,is,left,value,next,addr,halt,took,known,filled⟩:=e;unfold En.val at HS;dsimp only at HS;have hdn:decide (no<=f.no)=true:=by simp;exact Int.not_lt.1 iz
     clear iz;exact D7
  .obtain rfl:k=n:=by omega
   have hR:Hid (R=true):=V (by rw [<- vm.out];exact i5b uJ (by rw [hn.out];exact gV.out));go_wp2_with ((try refine zs ?_);(first|refine nB ?_|(refine bJ ?_;clear E;intro Z J E)|(refine aq ?_;clear E;intro vN J E)));go_ret;exact ⟨by rw [hR.out];rfl,E.bel⟩
end
end Go.Proofs.YtgnomadgnciifaaGreatDoor
