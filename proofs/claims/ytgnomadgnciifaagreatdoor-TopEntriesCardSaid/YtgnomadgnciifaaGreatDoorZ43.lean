/- . -/
import Derived.Test.YtgnomadgnciifaaGreatDoorZ39
import Derived.Test.YtgnomadgnciifaaGreatDoorZ17
import Derived.Test.YtgnomadgnciifaaGreatDoorZ36
set_option linter.all false
set_option maxRecDepth 100000
set_option maxHeartbeats 16000000
namespace Go.Proofs.YtgnomadgnciifaaGreatDoor
variable {p:Prop}
open Go.Proofs.Tryz
def BB (h:p:=by
 go_wp2_with ((try refine zs ?_);(first|go_big_skip|refine KJ ?_|(refine GM ?_;clear E;intro Z J E)))
 (refine bc (kw F _ _ _) F ⟨⟨_,rfl⟩,?_⟩;rw [hR.out];exact MR.toX ⟨s1,i8,ha,E.lessD tD⟩)):=h
def LY (h:p:=by
 clear C hE eF he aB H aD;refine bA aj E _ _ (λ_ h=>h) (λ_ h=>h) ?_;clear E;intro E z;refine az 0 z ?_;refine dx 1 z ?_;refine an 2 z ?_;refine jj 3 z ?_;refine zp 4 z ?_;refine cP 5 z ?_;refine cP 6 z ?_;refine jl 7 z ?_;refine oC 8 z ?_;refine jj 9 z ?_;refine zp 10 z ?_;refine cP 11 z ?_;refine cP 12 z ?_;refine cP 13 z ?_;refine jl 14 z ?_
 first|(refine eu (i:=15) F (qf F F F) z ?_;refine zs ?_)|refine zp 15 z ?_
 refine zp 16 z ?_;refine bt ?_
 (skip)
 go_wp2;go_meet
 exact ⟨rfl,⟨s1,i8,ha,((((E.front 5 tl).front 5 tl).front 5 tl).front 5 tl).lessD tD⟩⟩):=h
def GT (h:p:=by
 exact (E.drop 0).lessD (by simp only [kD,i8.feO,bO,ES,zL];exact lN)):=h
section
open Go.RowKit Wd
def nI (k:ak) (s:Stp):ak:=if gx s=true then { k with retired:=k.retired++[s],stores:=k.stores++[⟨s.addr,fU s.value s.size⟩] } else { k with retired:=k.retired++[s] }
def pr (k:ak) (e:En) (s:Stp):ak:=if ae e.inst.op=3 then jA k s.addr else k
def Bp (k:ak) (e:En) (s:Stp) (r:List En):ak:={ k with regs:=eU k.regs s,guess:=gw k.guess s.pc s.next e.inst,rob:=r }
def BM (k:ak) (s:Stp):ak:={ k with retired:=k.retired++[s],halt:=s.halt,rob:=[],fetched:=[],stop:=true }
def ZD {k e r}(hh:k.halt=0)(hr:k.rob=e::r)(hi:e.is=3):dw k=if (aY e).halt≠0 then (BM k (aY e),false) else if (aY e).store=true/\k.conf.stores<=(k.stores.length:Int) then (k,false) else (Bp (pr (nI k (aY e)) e (aY e)) e (aY e) r,true):=by
 unfold dw;rw [Y (by simp [hh]),hr];dsimp only;rw [Y (by simp [hi])];split
 .rfl
 .split
  .rfl
  .unfold nI pr Bp
   split <;> split <;> rfl
def i5o {B k}(h : KOk B k)(h2 : B + 1 <= 1000000){s}(ha : s.addr < 4294967296)(ij : ¬ (s.store = true /\ k.conf.stores <= (k.stores.length : Int))): KOk (B + 1) (nI k s) := by
  have iy := h.cf.stores;have hrl := h.retlen;have a7 := h.up (B' := B + 1) O O;have hk1 : KOk (B + 1) { k with retired := k.retired ++ [s] } := { a7 with retlen := by show ((k.retired ++ [s]).length : Int) <= B + 1; rw [ea, mO]; omega };unfold nI;split
  . rename_i hsb
    simp only [gx, fi, iA] at hsb;have hlt : (k.stores.length : Int) < k.conf.stores := by
      rcases Int.lt_or_le (k.stores.length : Int) k.conf.stores with h | h
      . exact h
      . exact absurd ⟨hsb.1, h⟩ ij
    exact { hk1 with
      stlen := by show (k.stores ++ [_]).length <= 16; rw [ea, mO]; omega
      st := λp hp => by
        rcases dv.1 hp with hp | hp
        . exact h.st p hp
        . obtain rfl := dm.1 hp
          exact ⟨ha, by show (fU s.value s.size).size <= 4; rw [Bw]; omega⟩ }
  . exact hk1
def XP {B k}(h:KOk B k)(h2:B+1<=1000000){e s}(ha:s.addr<4294967296):KOk (B+1) (pr k e s):=by
 unfold pr;split
 .exact h.bring h2 ha
 .exact h.up O h2
def XM (g:Gu)(pc next i):(gw g pc next i).slots.length=g.slots.length:=by
 unfold gw;split
 .rfl
 .exact cw
def RZ (As Ar:Option Addr) (cs cr pc next:Nat) (g:Gu) (i:Ins) (w:World) (h1:ky g=true) (hs:Rd w w.heap.size 2 As g.slots.length cs (eQ g.slots)) (hr:Rd w w.heap.size 1 Ar g.rets.length cr (ai g.rets)) (hi:cQ i.op) (hp:pc<4294967296) (hn:next<4294967296) :Ca 74 #[.agg #[.slice As g.slots.length cs,U (g.hist:Int),.slice Ar g.rets.length cr],U (pc:Int),U (next:Int),i.val] w λx w'=>∃ As' cs' Ar' cr',x = .returned (.agg #[.slice As' (gw g pc next i).slots.length cs',U ((gw g pc next i).hist:Int),.slice Ar' (gw g pc next i).rets.length cr']) /\ Out w [ab 2 As g.slots.length cs (eQ g.slots),ab 1 Ar g.rets.length cr (ai g.rets)] w' [ab 2 As' (gw g pc next i).slots.length cs' (eQ (gw g pc next i).slots),ab 1 Ar' (gw g pc next i).rets.length cr' (ai (gw g pc next i).rets)]:=by
 have hG:=h1;simp only [ky,fi,iA] at h1;rw [XM];rw [h1.1] at hs ⊢;by_cases hk:ae i.op=5
 .obtain ⟨sl,h,rets⟩:=g
  exact (h8u As Ar cs cr pc next sl h rets.length rets i w h1.1 h1.2.1 h1.2.2 hs hr hi hk hp hn).mono λx w' h=>h
 .exact (h8t As Ar cs cr pc next g i w hG hs hr hi hk).mono λx w' h=>h
def SL (l s w)(hl:l.length=32):Ca 73 #[.agg (ai l).toArray,s.val] w (RB w (.agg (ai (eU l s)).toArray)):=by
 unfold eU;by_cases h:1<=s.rd/\s.rd<=31/\s.halt=0
 .rw [aa h]
  exact XK l s w hl h.1 h.2.1 h.2.2
 .rw [Y h]
  exact g7y l s w hl h
def Qo {l s}(h:l.length=32):(eU l s).length=32:=by
 unfold eU;split
 .rw [cw];exact h
 .exact h
structure Vd (k:ak) (s:em):Prop where
 data:aZ s.dS=k.data
 words:aZ s.wS=k.words
 robC:k.rob.length<=s.robC
 robM:s.robC<=maxLen
 feO:s.feO=false
 stF:s.stO=false->s.stC=k.stores.length
 reF:s.reO=false->s.reC=k.retired.length
inductive MR (w0:World) (D0 D:List Da) (M:List Mu) (g:Nat) (k:ak) (a:Bool) (w:World):Prop
 | mk (s:em) (i8:Vd k s) (ha:a=true->s.feC=k.fetched.length)
  (E:St w0 D0 w (.blk g 81 (ao k s) :: .row s.robA 54 (ens k.rob)::rY s.stO 109 2 s.stA k.stores.length s.stC (bD k.stores)::rY s.reO 57 9 s.reA k.retired.length s.reC (gU k.retired)::M) (kD k s++D))
def MR.ofX {w0 w D0 D M g k a}(h:MX w0 D0 D M g k a true w):MR w0 D0 D M g k a w:=by
 obtain ⟨s,i8,ha,hb,⟨E⟩⟩:=h;refine ⟨s,⟨i8.data,i8.words,i8.robC,i8.robM,i8.feO,λ_=>(hb F).1,λ_=>(hb F).2⟩,ha,?_⟩;rw [i8.stO,i8.reO,yI,yI];exact (((E.rowNil none 57).rowNil none 109).front 3 kY).front 3 kY
def MR.toX {w0 w D0 D M g k a}(h:MR w0 D0 D M g k a w):MX w0 D0 D M g k a false w:=by
 obtain ⟨s,i8,ha,E⟩:=h;refine ⟨{ s with stO:=false,reO:=false },⟨i8.data,i8.words,i8.robC,i8.robM,i8.feO,rfl,rfl⟩,ha,λh=>fK,⟨?_⟩⟩;have ic:=E.apEnd jh BP;have a8:=ic.apEnd jh BP;refine a8.lessD ?_;simp only [kD,bO,zL];exact lN
instance stsRows : Rows gU Stp.cells 9:=⟨λ_=>rfl,λ_=>rfl,Stp.one,by decide⟩
instance stpCellsOne (t:Stp):gQ t.cells:=⟨t.one⟩
instance puCellsOne (p:Pu):gQ p.cells:=⟨p.one⟩
def Lm (q s):gU (q++[s])=gU q++s.cells:=by rw [Rows.append (f:=gU)];congr 1;(try exact (Rows.single (f:=gU) s).symm)
def i5u (q p):bD (q++[p])=bD q++p.cells:=by rw [Rows.append (f:=bD)];congr 1;(try exact (Rows.single (f:=bD) p).symm)
def Tl {w0 w D0 D M g k a B}(hk:KOk B k)(hB:B+6<=1000000)(hX:MX w0 D0 D M g k a true w):Ca 33 #[.pointer (some ⟨g,0,none⟩)] w λx w'=>(∃ y,x = .returned y)/\MX w0 D0 D M g (eA k) a false w':=by
 have hR:Hid (eA k=gr dw k.conf.width.toNat k):=V F;have bk:=hk.cf.width;have aE:=MR.ofX hX;obtain ⟨s,i8,ha,E⟩:=aE;have aE:=MR.ofX hX;(simp only [kD,i8.feO,bO,zL] at E);clear hX;go_enter func33,ntmps33;go_wp2_with ((try refine zs ?_);(first|go_big_skip|refine nB ?_|(refine bJ ?_;clear E;intro Z J E)|(refine aq ?_;clear E;intro vN J E)));go_loopw [12] (λi wr=>∃ (j:Nat) (k1:ak),i = I (j:Int)/\j<=k.conf.width.toNat/\Hid (eA k=gr dw (k.conf.width.toNat - j) k1)/\KOk (B+2 * j) k1/\MR w0 D0 D M g k1 a wr) (λi _=>k.conf.width.toNat - (intOf i).toNat);case atStart=>exact ⟨0,k,rfl,mB _,hR,by simpa using hk,aE⟩
 case round=>
  clear E aE hR hk i8 ha;obtain ⟨j,k1,rfl,hj,hR,hk1,⟨s1,i8,ha,E⟩⟩:=hrel;have L:=E;(simp only [kD,i8.feO,bO,zL] at E);by_cases bl:j<k.conf.width.toNat
  .obtain ⟨m,hm⟩:∃ m,k.conf.width.toNat - j=m+1:=⟨k.conf.width.toNat - j - 1,by omega⟩
   rw [hm] at hR;have hlt:=V (show decide ((j:Int)<k.conf.width)=true by simp;omega);by_cases hh:¬ k1.halt=0
   .as_aux_lemma =>
    have hE:dw k1=(k1,false):=by unfold dw;rw [aa hh]
    rw [oY oO,hE] at hR;replace hR:=V (show eA k=k1 from hR.out);have a9:=V (show decide (¬ k1.halt=0)=true by simpa using hh);clear hE hh L;exact BB
   .have a9:=V (show decide (¬ k1.halt=0)=false by simpa using hh)
    have aH:k1.halt=0:=by simpa using hh
    have bm:=hk1.roblen;cases eF:k1.rob with
    | nil=>
     have hE:dw k1=(k1,false):=by unfold dw;rw [Y hh,eF]
     rw [oY oO,hE] at hR;replace hR:=V (show eA k=k1 from hR.out);have hb0:=V (show decide ((k1.rob.length:Int)=0)=true by rw [eF];rfl);clear hE hh L eF aH;exact BB
    | cons e r=>
     have hb0:=V (show decide ((k1.rob.length:Int)=0)=false by rw [eF];simp;omega);have eW:0<k1.rob.length:=by rw [eF];simp
     have il:0<(ens k1.rob).length:=by rw [kA];omega
     have gY:(ens k1.rob)[8]?=some (I e.is):=by rw [eF];rfl
     have uZ:∀ (i:Nat) (u:Value),e.cells[i]?=some u->(ens k1.rob)[0+i]?=some u:=λi u h=>by
      have:=Rows.el (f:=ens) (q:=k1.rob) (k:=0) (v:=e) (by rw [eF];rfl) h
      rwa [tY] at this
     have he:=hk1.rob e Ci;by_cases Q:¬ e.is=3
     .as_aux_lemma =>
      have hE:dw k1=(k1,false):=by unfold dw;rw [Y hh,eF];dsimp only;rw [aa Q]
      rw [oY oO,hE] at hR;replace hR:=V (show eA k=k1 from hR.out);have hb3:=V (show decide (¬ e.is=3)=true by simpa using Q);clear hE hh L eF aH Q he;exact BB
     .have hb3:=V (show decide (¬ e.is=3)=false by simpa using Q)
      have hE:=ZD aH eF (by simpa using Q);have fZ:=λW=>MB e W he.op
      have G:=KG he;obtain ⟨t,ht⟩:∃ t,aY e=t:=⟨_,rfl⟩;rw [ht] at hE fZ G;replace fZ:=V fZ;replace uZ:=V uZ;clear Q hh aH;have hrl:k1.retired.length<=1000000:=by have:=hk1.retlen;have:=hk1.bound;omega
      have a':=hk1.stlen;by_cases R:t.halt≠0
      .as_aux_lemma =>
       rw [aa R] at hE;rw [oY oO,hE] at hR;replace hR:=V (show eA k=BM k1 t from hR.out);have bb:=V (show decide (¬ t.halt=0)=true by simpa using R);clear R hE L eF he;go_upto_region 3 with ((try refine zs ?_);(first|go_big_skip|refine dU F F F ?_|refine cT F F F ?_|refine fw F F F ?_|refine co F F F ?_|(go_at_call 14;refine E.cB (fZ.out _) ?_;clear E;intro J E)|refine je F F ?_|refine bP F E F ?_|refine cV F E F ?_|refine iH (k:=0) F E F F ?_ (hl:=il) (ik:=eW)|refine qL F E F ?_ (hl:=il)|refine sK (v:=I e.is) F E F ?_ (hv:=gY)|(refine bK F E ?_;clear E;intro Z J E)));go_upto_region 5 with ((try refine zs ?_);(first|go_big_skip|(go_at_call 14;refine E.cB (fZ.out _) ?_;clear E;intro J E)|refine je F F ?_|refine bP F E F ?_|refine cV F E F ?_|refine iH (k:=0) F E F F ?_ (hl:=il) (ik:=eW)|refine lk (us:=e.cells) (v:=e.val) (hu:=uZ) F E F ?_|(refine bK F E ?_;clear E;intro Z J E)|(refine aW (us:=e.cells) F E F F ?_ (h1:=λu hu=>.inl (e.one u hu));clear E;intro J E)|(refine aW (us:=t.cells) F E F F ?_ (h1:=λu hu=>.inl (t.one u hu));clear E;intro J E)));go_upto_region 6 with ((try refine zs ?_);(first|go_big_skip|refine dU F F F ?_|refine cT F F F ?_|refine fw F F F ?_|refine co F F F ?_|(go_at_call 14;refine E.cB (fZ.out _) ?_;clear E;intro J E)|refine je F F ?_|refine bP F E F ?_|refine cV F E F ?_|refine iH (k:=0) F E F F ?_ (hl:=il) (ik:=eW)|refine qL F E F ?_ (hl:=il)|refine sK (v:=I e.is) F E F ?_ (hv:=gY)|(refine bK F E ?_;clear E;intro Z J E)));refine mA [12] aj E [.blk g 81 (ao k1 s1),.blk _ 57 t.cells] _ (by first|exact λ_ h=>h|((repeat (first|exact cE|refine eZ au ?_)) <;> exact cE)) (by first|exact λ_ h=>h|((repeat (first|exact cE|refine eZ au ?_)) <;> exact cE)) ?_;clear E;intro E z;refine cZ 0 z ?_;refine cZ 1 z ?_;refine zq 2 z ?_;refine bi 3 z ?_;refine bi 4 z ?_;refine jz 5 z ?_;refine jz 6 z ?_;refine ev (rs:=[7]) aj aF (et F (λK X=>?_) dH.nil);go_wp2_with ((first|(refine lR (i:=6) (j:=0) (b:=s1.reO) F E F F ?_ uA aC ag i8.reF;clear E;intro A2 c2 J E;(try refine zs ?_))|(refine bz F E F F ?_ (iv:=by (try simp only [iJ]);rw [bM];decide);clear E;intro J E;(try simp only [zF] at E);refine zs ?_)|((first|refine aL ?_|(refine am ?_;clear E;intro Z J E));refine zs ?_)));have z:=aO z E;refine X.out _ _ (λ_=>z) ?_;clear X;refine zs ?_;refine ev (rs:=[8]) aj aF (et F (λK X=>?_) dH.nil);go_wp2_with ((first|(refine lR (i:=6) (j:=0) (b:=s1.reO) F E F F ?_ uA aC ag i8.reF;clear E;intro A2 c2 J E;(try refine zs ?_))|(refine bz F E F F ?_ (iv:=by (try simp only [iJ]);rw [bM];decide);clear E;intro J E;(try simp only [zF] at E);refine zs ?_)|((first|refine aL ?_|(refine am ?_;clear E;intro Z J E));refine zs ?_)));have z:=aO z E;refine X.out _ _ (λ_=>z) ?_;clear X;refine zs ?_;refine zq 9 z ?_;refine bi 10 z ?_;refine bi 11 z ?_;refine ev (rs:=[12]) aj aF (et F (λK X=>?_) dH.nil);go_wp2_with ((first|(refine lR (i:=6) (j:=0) (b:=s1.reO) F E F F ?_ uA aC ag i8.reF;clear E;intro A2 c2 J E;(try refine zs ?_))|(refine bz F E F F ?_ (iv:=by (try simp only [iJ]);rw [bM];decide);clear E;intro J E;(try simp only [zF] at E);refine zs ?_)|((first|refine aL ?_|(refine am ?_;clear E;intro Z J E));refine zs ?_)));(try clear z);refine X.out _ _ (jO 12 F aj) ?_;clear X;refine zs ?_
       refine mJ aj ?_ _
       (skip)
       go_wp2_with ((try refine zs ?_);(first|go_big_skip|(refine v9 ?_;clear E;intro Z J E)|refine nB ?_|(refine aq ?_;clear E;intro vN J E)));refine bc (kw F _ _ _) F ⟨⟨_,rfl⟩,?_⟩;rw [hR.out];rw [Ep (k:=k1) (s:=s1) (k1.retired++[t]) aF,Tn,xh (n:=0) [] F,ve (n:=0) [] F,Be,<- Lm] at E;replace E:=(((((E.drop 0).drop 0).drop 1).rowNil none 54).front 1 dD).nilZ 2;refine MR.toX ⟨{ s1 with robA:=none,robC:=0,feA:=none,feC:=0,reO:=true,reA:=A2,reC:=c2 },⟨i8.data,i8.words,aM _,mB _,i8.feO,i8.stF,λh=>fK⟩,λ_=>rfl,?_⟩;have hl1:(BM k1 t).retired.length=k1.retired.length+1:=by show (k1.retired++[t]).length=_;simp
       rw [hl1];refine E.lessD ?_;simp only [kD,i8.feO,bO,ES,zL];exact lN
      .rw [Y R] at hE
       have bb:=V (show decide (¬ t.halt=0)=false by simpa using R);clear R;go_upto_region 3 with ((try refine zs ?_);(first|go_big_skip|refine dU F F F ?_|refine cT F F F ?_|refine fw F F F ?_|refine co F F F ?_|(go_at_call 14;refine E.cB (fZ.out _) ?_;clear E;intro J E)|refine je F F ?_|refine bP F E F ?_|refine cV F E F ?_|refine iH (k:=0) F E F F ?_ (hl:=il) (ik:=eW)|refine qL F E F ?_ (hl:=il)|refine sK (v:=I e.is) F E F ?_ (hv:=gY)|(refine bK F E ?_;clear E;intro Z J E)));go_upto_region 5 with ((try refine zs ?_);(first|go_big_skip|(go_at_call 14;refine E.cB (fZ.out _) ?_;clear E;intro J E)|refine je F F ?_|refine bP F E F ?_|refine cV F E F ?_|refine iH (k:=0) F E F F ?_ (hl:=il) (ik:=eW)|refine lk (us:=e.cells) (v:=e.val) (hu:=uZ) F E F ?_|(refine bK F E ?_;clear E;intro Z J E)|(refine aW (us:=e.cells) F E F F ?_ (h1:=λu hu=>.inl (e.one u hu));clear E;intro J E)|(refine aW (us:=t.cells) F E F F ?_ (h1:=λu hu=>.inl (t.one u hu));clear E;intro J E)));go_upto_region 11 with ((try refine zs ?_);(first|go_big_skip|refine dU F F F ?_|refine cT F F F ?_|refine fw F F F ?_|refine co F F F ?_|(go_at_call 14;refine E.cB (fZ.out _) ?_;clear E;intro J E)|refine je F F ?_|refine bP F E F ?_|refine cV F E F ?_|refine iH (k:=0) F E F F ?_ (hl:=il) (ik:=eW)|refine qL F E F ?_ (hl:=il)|refine sK (v:=I e.is) F E F ?_ (hv:=gY)|(refine bK F E ?_;clear E;intro Z J E)));obtain ⟨gt,ge,rfl,rfl⟩:=E.names2;by_cases C:t.store=true/\k1.conf.stores<=(k1.stores.length:Int)
       .as_aux_lemma =>
        rw [aa C] at hE;rw [oY oO,hE] at hR;replace hR:=V (show eA k=k1 from hR.out);have hT:t.cells[6]?=some (.bool true):=(show t.cells[6]?=some (.bool t.store) from rfl).trans (jB (λb=>some (Value.bool b)) C.1);have bd:=V (show decide (k1.conf.stores<=(k1.stores.length:Int))=true by simpa using C.2);clear C hE eF he;refine bA aj E _ _ (λ_ h=>h) (λ_ h=>h) ?_;clear E;intro E z;refine az 0 z ?_;refine dx 1 z ?_;refine an 2 z ?_;refine jj 3 z ?_;refine zp 4 z ?_;refine cP 5 z ?_;refine cP 6 z ?_;refine jl 7 z ?_;refine oC 8 z ?_;refine jj 9 z ?_;refine zp 10 z ?_;refine cP 11 z ?_;refine cP 12 z ?_;refine cP 13 z ?_;refine jl 14 z ?_
        first|(refine eu (i:=15) F (qf F F F) z ?_;refine zs ?_)|refine zp 15 z ?_
        refine zp 16 z ?_;refine bt ?_
        (skip)
        go_wp2_with ((try refine zs ?_);(first|go_big_skip|refine KJ ?_|(refine GM ?_;clear E;intro Z J E)));refine bc (kw F _ _ _) F ⟨⟨_,rfl⟩,?_⟩;rw [hR.out];exact MR.toX ⟨s1,i8,ha,((E.drop 0).drop 0).lessD tD⟩
       .as_aux_lemma =>
        rw [Y C] at hE;have H:=hk1.retire O;rw [hE] at H;rw [B8 oO,hE] at hR;have aD:=i5o hk1 O G.2.2.2 C;have a1:(nI k1 t).rob=e::r:=by unfold nI;split <;> exact eF
        have be:(nI k1 t).conf=k1.conf:=by unfold nI;split <;> rfl
        rename_i Ka bn Kb a2;(try refine zs ?_);go_cut [98] (λv wx=>v = .bool false/\MR w0 D0 D (.blk gt 57 t.cells :: .blk ge 54 e.cells::M) g k1 a wx);case first=>
         cases aB:t.store with
         | false=>
          have hT:t.cells[6]?=some (.bool false):=(show t.cells[6]?=some (.bool t.store) from rfl).trans (jB (λb=>some (Value.bool b)) aB);exact LY
         | true=>
          have hT:t.cells[6]?=some (.bool true):=(show t.cells[6]?=some (.bool t.store) from rfl).trans (jB (λb=>some (Value.bool b)) aB);have bd:=V (show decide (k1.conf.stores<=(k1.stores.length:Int))=false by simpa using λh=>C ⟨aB,h⟩);exact LY
        case rest=>
         clear E L i8 ha il eW gY uZ hE C;obtain ⟨rfl,⟨s1,i8,ha,E⟩⟩:=hcut;refine a2 _ _ ?_;clear a2;(simp only [kD,i8.feO,bO,zL] at E);have al:=λW=>Za t W G.2.2.1
         have ap:gx t=true->vg t=⟨t.addr,fU t.value t.size⟩:=λh=>by unfold vg;rw [aa h]
         have ac:nI k1 t=if gx t=true then { k1 with retired:=k1.retired++[t],stores:=k1.stores++[⟨t.addr,fU t.value t.size⟩] } else { k1 with retired:=k1.retired++[t] }:=rfl
         obtain ⟨p,hp⟩:∃ p,vg t=p:=⟨_,rfl⟩;obtain ⟨bS,aI⟩:∃ b,gx t=b:=⟨_,rfl⟩;rw [hp,aI] at al;rw [hp,aI] at ap;rw [aI] at ac;replace al:=V al;replace ap:=V ap;replace ac:=V ac;clear hp aI;go_upto_region 12 with ((try refine zs ?_);(first|go_big_skip|refine dU F F F ?_|refine cT F F F ?_|refine fw F F F ?_|refine co F F F ?_|(go_at_call 14;refine E.cB (fZ.out _) ?_;clear E;intro J E)|refine je F F ?_|refine bP F E F ?_|refine cV F E F ?_|refine iH (k:=0) F E F F ?_ (hl:=il) (ik:=eW)|refine qL F E F ?_ (hl:=il)|refine sK (v:=I e.is) F E F ?_ (hv:=gY)|(refine bK F E ?_;clear E;intro Z J E)));refine mA [12] aj E [.blk g 81 (ao k1 s1),.blk gt 57 t.cells] _ (by first|exact λ_ h=>h|((repeat (first|exact cE|refine eZ au ?_)) <;> exact cE)) (by first|exact λ_ h=>h|((repeat (first|exact cE|refine eZ au ?_)) <;> exact cE)) ?_;clear E;intro E z;refine cZ 0 z ?_;refine cZ 1 z ?_;refine zq 2 z ?_;refine bi 3 z ?_;refine bi 4 z ?_;refine jz 5 z ?_;refine jz 6 z ?_;refine ev (rs:=[7]) aj aF (et F (λK X=>?_) dH.nil);go_wp2_with ((first|(refine lR (i:=4) (j:=0) (b:=s1.reO) F E F F ?_ oc aC ag i8.reF;clear E;intro A2 c2 J E;(try refine zs ?_))|(refine bz F E F F ?_ (iv:=by (try simp only [iJ]);rw [bM];decide);clear E;intro J E;(try simp only [zF] at E);refine zs ?_)|((first|refine aL ?_|(refine am ?_;clear E;intro Z J E));refine zs ?_)));have z:=aO z E;refine X.out _ _ (λ_=>z) ?_;clear X;refine zs ?_;refine ev (rs:=[8]) aj aF (et F (λK X=>?_) dH.nil);go_wp2_with ((first|(refine lR (i:=4) (j:=0) (b:=s1.reO) F E F F ?_ oc aC ag i8.reF;clear E;intro A2 c2 J E;(try refine zs ?_))|(refine bz F E F F ?_ (iv:=by (try simp only [iJ]);rw [bM];decide);clear E;intro J E;(try simp only [zF] at E);refine zs ?_)|((first|refine aL ?_|(refine am ?_;clear E;intro Z J E));refine zs ?_)));have z:=aO z E;refine X.out _ _ (λ_=>z) ?_;clear X;refine zs ?_;refine zq 9 z ?_;refine bi 10 z ?_;refine bi 11 z ?_;refine ev (rs:=[12]) aj aF (et F (λK X=>?_) dH.nil);go_wp2_with ((first|(refine lR (i:=4) (j:=0) (b:=s1.reO) F E F F ?_ oc aC ag i8.reF;clear E;intro A2 c2 J E;(try refine zs ?_))|(refine bz F E F F ?_ (iv:=by (try simp only [iJ]);rw [bM];decide);clear E;intro J E;(try simp only [zF] at E);refine zs ?_)|((first|refine aL ?_|(refine am ?_;clear E;intro Z J E));refine zs ?_)));(try clear z);refine X.out _ _ (jO 12 F aj) ?_;clear X;refine zs ?_
         refine mJ aj ?_ _
         (skip)
         rw [Ep (n:=k1.retired.length+1) (k1.retired++[t]) aF,<- Lm] at E;go_upto_if 116 with ((try refine zs ?_);(first|go_big_skip|(go_at_call 72;refine aG E (al.out _) ?_;clear E;intro J E)|(refine cV F E F ?_)|(refine bK F E ?_;clear E;intro Z J E)|(refine aW (us:=p.cells) F E F F ?_;clear E;intro J E)));rename (∀ (a:Act) (w:World),Code.wp _ _ _ a w->_)=>hKc
         (try refine zs ?_);go_cut [] (λwx=>MR w0 D0 D (.blk gt 57 t.cells :: .blk ge 54 e.cells::M) g (nI k1 t) a wx);case first=>
          have hl1:(k1.retired++[t]).length=k1.retired.length+1:=by simp
          cases bS
          .go_wp2
           go_meet;rw [ac.out,Y ag];refine ⟨{ s1 with reO:=true,reA:=A2,reC:=c2 },⟨i8.data,i8.words,i8.robC,i8.robM,i8.feO,i8.stF,λh=>fK⟩,ha,?_⟩;dsimp only;rw [hl1];exact GT
          .as_aux_lemma =>
           go_upto_region 15 with fail;refine mA [12] aj E [.blk g 81 (ao _ _),.blk _ 109 p.cells] _ (by first|exact λ_ h=>h|((repeat (first|exact cE|refine eZ au ?_)) <;> exact cE)) (by first|exact λ_ h=>h|((repeat (first|exact cE|refine eZ au ?_)) <;> exact cE)) ?_;clear E;intro E z;refine cZ 0 z ?_;refine cZ 1 z ?_;refine zq 2 z ?_;refine bi 3 z ?_;refine bi 4 z ?_;refine jz 5 z ?_;refine jz 6 z ?_;refine ev (rs:=[7]) aj aF (et F (λK X=>?_) dH.nil);go_wp2_with ((first|(refine lR (i:=4) (j:=0) (b:=s1.stO) F E F F ?_ oc aC ag i8.stF;clear E;intro A3 c3 J E;(try refine zs ?_))|(refine bz F E F F ?_ (iv:=by (try simp only [iJ]);rw [bM];decide);clear E;intro J E;(try simp only [zF] at E);refine zs ?_)|((first|refine aL ?_|(refine am ?_;clear E;intro Z J E));refine zs ?_)));have z:=aO z E;refine X.out _ _ (λ_=>z) ?_;clear X;refine zs ?_;refine ev (rs:=[8]) aj aF (et F (λK X=>?_) dH.nil);go_wp2_with ((first|(refine lR (i:=4) (j:=0) (b:=s1.stO) F E F F ?_ oc aC ag i8.stF;clear E;intro A3 c3 J E;(try refine zs ?_))|(refine bz F E F F ?_ (iv:=by (try simp only [iJ]);rw [bM];decide);clear E;intro J E;(try simp only [zF] at E);refine zs ?_)|((first|refine aL ?_|(refine am ?_;clear E;intro Z J E));refine zs ?_)));have z:=aO z E;refine X.out _ _ (λ_=>z) ?_;clear X;refine zs ?_;refine zq 9 z ?_;refine bi 10 z ?_;refine bi 11 z ?_;refine ev (rs:=[12]) aj aF (et F (λK X=>?_) dH.nil);go_wp2_with ((first|(refine lR (i:=4) (j:=0) (b:=s1.stO) F E F F ?_ oc aC ag i8.stF;clear E;intro A3 c3 J E;(try refine zs ?_))|(refine bz F E F F ?_ (iv:=by (try simp only [iJ]);rw [bM];decide);clear E;intro J E;(try simp only [zF] at E);refine zs ?_)|((first|refine aL ?_|(refine am ?_;clear E;intro Z J E));refine zs ?_)));(try clear z);refine X.out _ _ (jO 12 F aj) ?_;clear X;refine zs ?_
           refine mJ aj ?_ _
           (skip)
           rw [Aj (n:=k1.stores.length+1) (k1.stores++[p]) aF,<- i5u] at E;go_wp2;go_meet;rw [ac.out,aa di,<- ap.out di];have bh:(k1.stores++[p]).length=k1.stores.length+1:=by simp
           refine ⟨{ s1 with reO:=true,reA:=A2,reC:=c2,stO:=true,stA:=A3,stC:=c3 },⟨i8.data,i8.words,i8.robC,i8.robM,i8.feO,λh=>fK,λh=>fK⟩,ha,?_⟩;dsimp only;rw [hl1,bh];exact GT
         case rest=>
          clear E i8 ha a' hrl ac ap al;obtain ⟨s2,i8,ha,E⟩:=hcut;refine hKc _ _ ?_;clear hKc;obtain ⟨k2,a3⟩:∃ k2,nI k1 t=k2:=⟨_,rfl⟩;rw [a3] at E i8 ha aD a1 be hR H;have HK:=λW=>ec e.inst W he.op
          have aV:pr k2 e t=if ae e.inst.op=3 then jA k2 t.addr else k2:=rfl
          have ad:=XP aD O (e:=e) (s:=t) G.2.2.2;have aP:(pr k2 e t).rob=e::r:=by unfold pr;split <;> exact a1
          obtain ⟨κ,hκ⟩:∃ κ,ae e.inst.op=κ:=⟨_,rfl⟩;rw [hκ] at HK aV;obtain ⟨b3,hb3⟩:∃ b,decide (κ=3)=b:=⟨_,rfl⟩;have av:pr k2 e t=if b3=true then jA k2 t.addr else k2:=by rw [aV,<- hb3];simp only [iA]
          replace HK:=V HK;replace hb3:=V hb3;replace av:=V av;clear hκ aV a3;(simp only [kD,i8.feO,bO,zL] at E);go_upto_if 132 with ((try refine zs ?_);(first|go_big_skip|((first|(refine dU F F F ?_)|(refine cT F F F ?_)|(refine fw F F F ?_)|(refine co F F F ?_));(try refine zs ?_))|(go_at_call 39;refine aG E (HK.out _) ?_;clear E;intro J E)|(refine je F F ?_)|((refine du (v:=e.inst.val) (n:=5) F E F ?_ (hn:=ce F));(try refine zs ?_))|(refine bP F E F ?_)));rename (∀ (a:Act) (w:World),Code.wp _ _ _ a w->_)=>hKd
          (try refine zs ?_);go_cut [] (λwx=>MR w0 D0 D (.blk gt 57 t.cells :: .blk ge 54 e.cells::M) g (pr k2 e t) a wx);case first=>
           cases b3
           .go_wp2
            go_meet;rw [av.out,Y ag];exact ⟨s2,i8,ha,E.lessD tD⟩
           .as_aux_lemma =>
            go_wp2_with ((try refine zs ?_);(first|go_big_skip|refine KC ?_|(go_at_call 67;refine (JJ (s:=s2) aD i8.data t.addr G.2.2.2 ((E.front _ (m:=.blk g 81 (ao k2 s2)) bx).lessD (D':=kD k2 s2++D) tD)).mono ?_;rintro x J ⟨⟨y,rfl⟩,⟨A5,c5,S5,A6,c6,bj,ia⟩⟩;clear E;have E:=ia;clear ia;(try simp only [zF] at E))));go_meet;rw [av.out,aa di];exact ⟨{ s2 with dA:=A5,dC:=c5,dS:=S5,busA:=A6,busC:=c6 },⟨bj,i8.words,i8.robC,i8.robM,i8.feO,i8.stF,i8.reF⟩,ha,E⟩
          case rest=>
           clear E i8 ha av;obtain ⟨s3,i8,ha,E⟩:=hcut;refine hKd _ _ ?_;clear hKd;obtain ⟨k3,a4⟩:∃ k3,pr k2 e t=k3:=⟨_,rfl⟩;rw [a4] at E i8 ha ad aP hR H;have vW:=λW=>show Ca 73 #[mP k3 s3,t.val] W (λe w'=>e = .returned (.agg (ai (eU k3.regs t)).toArray)/\af W w') from by rw [vB ad.rlen];exact SL k3.regs t W ad.rlen
           have aX:(eU k3.regs t).length=32:=Qo ad.rlen;have aw:=λ(W:World) (h1:Rd W W.heap.size 2 s3.slA k3.guess.slots.length s3.slC (eQ k3.guess.slots)) (h2:Rd W W.heap.size 1 s3.rtA k3.guess.rets.length s3.rtC (ai k3.guess.rets))=>RZ s3.slA s3.rtA s3.slC s3.rtC t.pc t.next k3.guess e.inst W ad.guess h1 h2 he.op G.1 G.2.1
           have aR:Bp k3 e t r={ k3 with regs:=eU k3.regs t,guess:=gw k3.guess t.pc t.next e.inst,rob:=r }:=rfl;obtain ⟨R2,a5⟩:∃ R2,eU k3.regs t=R2:=⟨_,rfl⟩;obtain ⟨G2,a6⟩:∃ G2,gw k3.guess t.pc t.next e.inst=G2:=⟨_,rfl⟩
           rw [a5] at vW aX aR;rw [a6] at aw aR;rw [aR] at hR H;have jX:(ai R2).length=32:=by rw [lY,aX]
           unfold mP at vW;replace vW:=V vW;replace aw:=V aw;have bo:(ens k3.rob).length=k3.rob.length * 17:=kA _;have bq:k3.rob.length=r.length+1:=by rw [aP];rfl
           have a0:(ens k3.rob).drop (1 * 17)=ens r:=by rw [aP,Rows.drop];rfl
           have j6:=i8.robC;have br:=ad.roblen;replace a0:=V a0;clear a4 a5 a6 aR aP;(simp only [kD,i8.feO,bO,zL] at E);go_upto_region 18 with fail;refine mA [11] aj E [.blk g 81 (ao k3 s3),.blk gt 57 t.cells] _ (by first|exact λ_ h=>h|((repeat (first|exact cE|refine eZ au ?_)) <;> exact cE)) (by first|exact λ_ h=>h|((repeat (first|exact cE|refine eZ au ?_)) <;> exact cE)) ?_;clear E;intro E z;refine cZ 0 z ?_;refine cZ 1 z ?_;refine zq 2 z ?_;refine bi 3 z ?_;refine bi 4 z ?_;refine jz 5 z ?_;refine jz 6 z ?_;refine ev (rs:=[7]) aj aF (et F (λK X=>?_) dH.nil);go_wp2_with ((first|(refine Le ?_;clear E;intro J E)|(refine jd (us:=ai R2) F E F F ?_ (i8:=by rw [jX,bM];decide) (ht:=by rw [jX];exact jo _ _ F);clear E;intro J E;(try simp only [fL,jr] at E);refine zs ?_)|((first|refine aL ?_|(refine am ?_;clear E;intro Z J E));refine zs ?_)));have z:=aO z E;refine X.out _ _ (λ_=>z) ?_;clear X;refine zs ?_;refine zq 8 z ?_;refine bi 9 z ?_;refine bi 10 z ?_;refine ev (rs:=[11]) aj aF (et F (λK X=>?_) dH.nil);go_wp2_with ((first|(refine Le ?_;clear E;intro J E)|(refine jd (us:=ai R2) F E F F ?_ (i8:=by rw [jX,bM];decide) (ht:=by rw [jX];exact jo _ _ F);clear E;intro J E;(try simp only [fL,jr] at E);refine zs ?_)|((first|refine aL ?_|(refine am ?_;clear E;intro Z J E));refine zs ?_)));(try clear z);refine X.out _ _ (jO 11 F aj) ?_;clear X;refine zs ?_
           refine mJ aj ?_ _
           (skip)
           rw [i2k R2 aX] at E;go_upto_region 19 with fail;refine mA [16] aj E [.blk g 81 (ao _ _),.blk gt 57 t.cells,.blk ge 54 e.cells] _ (by first|exact λ_ h=>h|((repeat (first|exact cE|refine eZ au ?_)) <;> exact cE)) (by first|exact λ_ h=>h|((repeat (first|exact cE|refine eZ au ?_)) <;> exact cE)) ?_;clear E;intro E z;refine cZ 0 z ?_;refine cZ 1 z ?_;refine zq 2 z ?_;refine bi 3 z ?_;refine bi 4 z ?_;refine jz 5 z ?_;refine bi 6 z ?_;refine jz 7 z ?_;refine bi 8 z ?_;refine jz 9 z ?_;refine bi 10 z ?_;refine jz 11 z ?_;refine ev (rs:=[12]) aj aF (et F (λK X=>?_) dH.nil);go_wp2_with ((first|(go_at_call 74;refine (aw.out _ E.rdA E.rdA).mono ?_;rintro x J ⟨As4,cs4,Ar4,cr4,rfl,hO⟩;replace E:=E.callA hO;clear hO)|(refine jd F E F F ?_ (i8:=by (try simp only [cw]);rw [bM];exact ce F);clear E;intro J E;(try simp only [fL,jr] at E);refine zs ?_)|((first|refine aL ?_|(refine am ?_;clear E;intro Z J E));refine zs ?_)));have z:=aO z E;refine X.out _ _ (λ_=>z) ?_;clear X;refine zs ?_;refine zq 13 z ?_;refine bi 14 z ?_;refine bi 15 z ?_;refine ev (rs:=[16]) aj aF (et F (λK X=>?_) dH.nil);go_wp2_with ((first|(go_at_call 74;refine (aw.out _ E.rdA E.rdA).mono ?_;rintro x J ⟨As4,cs4,Ar4,cr4,rfl,hO⟩;replace E:=E.callA hO;clear hO)|(refine jd F E F F ?_ (i8:=by (try simp only [cw]);rw [bM];exact ce F);clear E;intro J E;(try simp only [fL,jr] at E);refine zs ?_)|((first|refine aL ?_|(refine am ?_;clear E;intro Z J E));refine zs ?_)));(try clear z);refine X.out _ _ (jO 16 F aj) ?_;clear X;refine zs ?_
           refine mJ aj ?_ _
           (skip)
           rw [i2j G2 F F F] at E;go_wp2_with ((try refine zs ?_);(first|go_big_skip|refine KC ?_|(refine g3n ?_;clear E;intro Z J E)));go_roundw;case rel=>
            (try rw [show k3.rob.length - 1=r.length by omega] at E);rw [xh r F,a0.out] at E
            refine ⟨j+1,{ k3 with regs:=R2,guess:=G2,rob:=r },by go_num,by omega,V Ck,by rw [show B+2 * ((j+1:Nat):Int)=B+2 * (j:Int)+2 by omega];exact H,⟨{ s3 with robA:=fW s3.robA 1 s3.robC 17,robC:=s3.robC - 1,slA:=As4,slC:=cs4,rtA:=Ar4,rtC:=cr4 },⟨i8.data,i8.words,by show r.length<=s3.robC - 1;omega,iG (Nat.sub_le _ _) i8.robM,i8.feO,i8.stF,i8.reF⟩,ha,?_⟩⟩;exact ((E.drop 4).drop 4).lessD tD
           case measure=>exact zM
  .as_aux_lemma =>
   have hz:k.conf.width.toNat - j=0:=by omega
   rw [hz] at hR;replace hR:=V (show eA k=k1 from hR.out);have hlt:=V (show decide ((j:Int)<k.conf.width)=false by simp;omega);clear L;go_wp2_with ((try refine zs ?_);(first|go_big_skip|refine OI ?_|(refine bJ ?_;clear E;intro Z J E)|(refine aq ?_;clear E;intro vN J E)));go_end0;refine ⟨⟨_,rfl⟩,?_⟩;rw [hR.out];exact MR.toX ⟨s1,i8,ha,E.lessD tD⟩
end
end Go.Proofs.YtgnomadgnciifaaGreatDoor
