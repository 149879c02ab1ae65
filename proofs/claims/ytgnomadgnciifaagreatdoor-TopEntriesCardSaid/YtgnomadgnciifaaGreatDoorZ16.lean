/- . -/
import Derived.Test.YtgnomadgnciifaaGreatDoorZ13
import Derived.Test.YtgnomadgnciifaaGreatDoorZ14
import Derived.Test.YtgnomadgnciifaaGreatDoorZ12
import Derived.Test.YtgnomadgnciifaaGreatDoorZ15
set_option linter.all false
set_option maxRecDepth 100000
set_option maxHeartbeats 16000000
namespace Go.Proofs.YtgnomadgnciifaaGreatDoor
open Go.Proofs.Tryz
def Iu {p:Prop} (h:p:=by
 clear hx;go_wp2_with ((try refine zs ?_);(first|refine QE ?_|(go_at_call 24;refine (Bf c Al cl At ct _ E.rdA E.rdA).mono ?_;rintro x J ⟨A1,c1,A2,c2,rfl,G⟩;(try unfold dV);replace E:=E.callA G;clear G;(try rw [hL.out,hn.out] at E))|((refine FT F F ⟨_,_,underlying25,rfl,rfl,ol _ F⟩ ?_);(try simp only [hL.out,hn.out]))|(refine bJ ?_;clear E;intro Z J E)|(refine aq ?_;clear E;intro vN J E)));go_ret
 exact ⟨by rw [hR.out];rfl,E.bel⟩):p:=h
def KT {p:Prop} (h:p:=by
 go_wp2_with ((try refine zs ?_);(first|refine fa ?_|(go_at_call 24;refine (Bf c Al cl At ct _ E.rdA E.rdA).mono ?_;rintro x J ⟨A1,c1,A2,c2,rfl,G⟩;(try unfold dV);replace E:=E.callA G;clear G;(try rw [hL.out,hn.out] at E))|((refine FT F F ⟨_,_,underlying25,rfl,rfl,ol _ F⟩ ?_);(try simp only [hL.out,hn.out]))|(refine bJ ?_;clear E;intro Z J E)|(refine aq ?_;clear E;intro vN J E)));go_ret
 exact ⟨by rw [hR.out];rfl,E.bel⟩):p:=h
section
open Go.RowKit Wd
def Pr (c:Cf) (Al:Option Addr) (cl:Nat) (At:Option Addr) (ct:Nat) (w:World) (hl:Rd w w.heap.size 1 Al c.lat.length cl (aE c.lat)) (ht:Rd w w.heap.size 1 At c.tape.length ct (ai c.tape)) (h3:¬ bE 1 4 c.sets=3) :Ca 24 #[.agg (dV c Al cl At ct).toArray] w λe w'=>∃ A1 c1 A2 c2,e = .returned (.agg (dV (bf c) A1 c1 A2 c2).toArray)/\Out w [ab 1 Al c.lat.length cl (aE c.lat),ab 1 At c.tape.length ct (ai c.tape)] w' [ab 1 A1 (bf c).lat.length c1 (aE (bf c).lat),ab 1 A2 (bf c).tape.length c2 (ai (bf c).tape)]:=by
 have E:=St.start w [ab 1 Al c.lat.length cl (aE c.lat),ab 1 At c.tape.length ct (ai c.tape)] (zC hl (zC ht zN));clear hl ht;obtain ⟨mode,width,rob,queue,stores,slots,sets,ways,lat,tables,tape⟩:=c;unfold dV;dsimp only at *;obtain ⟨nl,hnl⟩:∃ n,lat.length=n:=⟨_,rfl⟩;obtain ⟨nt,av⟩:∃ n,tape.length=n:=⟨_,rfl⟩;rw [hnl,av] at E ⊢;obtain ⟨N,hN⟩:∃ N:Nat,N=min nl 64:=⟨_,rfl⟩;obtain ⟨T,hT⟩:∃ T:Nat,T=min nt 64:=⟨_,rfl⟩;have a5:Hid ((N:Int)=if (64:Int)<(nl:Int) then 64 else (nl:Int)):=V ox;have a6:Hid ((T:Int)=if (64:Int)<(nt:Int) then 64 else (nt:Int)):=V ox;have a7:N<=nl:=by omega
 have hTl:T<=nt:=by omega
 have hN64:N<=64:=by omega
 have hT64:T<=64:=by omega
 have hlt:(lat.take 64).length=N:=by rw [cK];omega
 have htt:(tape.take 64).length=T:=by rw [cK];omega
 have hltk:lat.take N=lat.take 64:=by
  rcases sw nl 64 with h|h
  .rw [cD O,cD O]
  .rw [show N=64 by omega]
 have httk:tape.take T=tape.take 64:=by
  rcases sw nt 64 with h|h
  .rw [cD O,cD O]
  .rw [show T=64 by omega]
 replace hN:=V hN;replace hT:=V hT;replace hlt:=V hlt;replace htt:=V htt;replace hltk:=V hltk;replace httk:=V httk;replace hnl:=V hnl;replace av:=V av;obtain ⟨S,H⟩:∃ S,bE 1 4 sets=S:=⟨_,rfl⟩;obtain ⟨SS,aw⟩:∃ SS,(if S=3 then 2 else S)=SS:=⟨_,rfl⟩;have aO:Hid ((bf ⟨mode,width,rob,queue,stores,slots,sets,ways,lat,tables,tape⟩).lat=(lat.take 64).map (bE 1 8)):=V F;have aP:Hid ((bf ⟨mode,width,rob,queue,stores,slots,sets,ways,lat,tables,tape⟩).tape=tape.take 64):=V F
 have hE:Hid (∀ A1 c1 A2 c2,dV (bf ⟨mode,width,rob,queue,stores,slots,sets,ways,lat,tables,tape⟩) A1 c1 A2 c2=[I (bE 0 2 mode),I (bE 1 2 width),I (bE 2 8 rob),I (bE 1 4 queue),I (bE 1 4 stores),I (bE 2 6 slots),I SS,I (bE 1 2 ways),.slice A1 N c1,.bool tables,.slice A2 T c2]):=V (by
  intro A1 c1 A2 c2
  simp only [dV,bf,gq,hlt.out,htt.out,H,aw])
 replace H:=V H;go_enter func24,ntmps24;rw [H.out] at h3;rw [Y h3] at aw;subst aw;have b3:(S == 3)=false:=by simpa using h3
 (go_wp2_with ((try refine zs ?_);(first|refine z0 ?_|(go_at_call 52;(refine (zd (by rw [(E.bkAt dD).cell];rfl) ((E.bkAt dD).frozen (ce F)) (by first|exact H|exact V F)).mono ?_;rintro x J ⟨⟨y,rfl⟩,w1,hb,R⟩;replace E:=E.putE hb dD R;clear hb R;(try simp only [zF] at E)))|(refine Gb ?_;clear E;intro Z J E)|(refine yU F E F F ?_;clear E;intro J E;(try simp only [fL,zZ,hltk.out,yi,httk.out] at E))|(refine aq ?_;clear E;intro vN J E))));obtain ⟨gL,g2,g1,rfl,rfl,rfl⟩:=E.names3;go_loopw [46] (λix wr=>∃ k:Nat,k<=N/\ix = I (k:Int)/\St w [ab 1 Al nl cl (aE lat),ab 1 At nt ct (ai tape)] wr [.blk gL 3 (aE (gF (bE 1 8) (lat.take 64) k)),.blk g2 25 [I 0,I 0,I 0,I 0,I 0,I 0,I 0,I 0,.slice none 0 0,.bool false,.slice none 0 0],.blk g1 25 [I (bE 0 2 mode),I (bE 1 2 width),I (bE 2 8 rob),I (bE 1 4 queue),I (bE 1 4 stores),I (bE 2 6 slots),I S,I (bE 1 2 ways),.slice Al nl cl,.bool tables,.slice At nt ct]] [ab 1 Al nl cl (aE lat),ab 1 At nt ct (ai tape)]) (λix _=>N - (intOf ix).toNat);case atStart=>exact ⟨0,by omega,rfl,by rw [Ft];exact E⟩
 case round=>
  clear E;obtain ⟨k,hk,rfl,E⟩:=hrel;by_cases ik:k<N
  .obtain ⟨x,hx⟩:∃ x,(lat.take 64)[k]?=some x:=⟨_,ba (by have:=hlt.out;omega)⟩
   have hv:(aE (gF (bE 1 8) (lat.take 64) k))[k]?=some (I x):=pA (Jf hx);have aF:k<(aE (gF (bE 1 8) (lat.take 64) k)).length:=by rw [nd,Jr,hlt.out];omega
   obtain ⟨y,hy⟩:∃ y,bE 1 8 x=y:=⟨_,rfl⟩;have ij:=V (show (aE (gF (bE 1 8) (lat.take 64) k)).set k (I y)=aE (gF (bE 1 8) (lat.take 64) (k+1)) by have h1:=DJ (gF (bE 1 8) (lat.take 64) k) k y;rw [dP] at h1;rw [h1,<- hy,FZ hx]);replace hy:=V hy;clear hx;generalize aE (gF (bE 1 8) (lat.take 64) k)=U' at E hv aF ij;go_wp2_with ((try refine zs ?_);(first|refine p6 ?_|(go_at_call 52;refine (zd GX ((E.bkAt aC).frozen aF) hy).mono ?_;rintro x J ⟨⟨y,rfl⟩,w1,hb,R⟩;replace E:=E.putE hb aC R;clear hb R;(try simp only [zF] at E))));go_roundw;case rel=>exact ⟨k+1,by omega,by go_num,by rw [<- ij.out];exact E⟩
   case measure=>exact zM
  .obtain rfl:k=N:=by omega
   rw [FM (by rw [hlt.out];exact aM _)] at E;go_wp2_with ((try refine zs ?_);(first|refine z0 ?_|(refine KM ?_;clear E;intro Z J E)|(refine yU F E F F ?_;clear E;intro J E;(try simp only [fL,zZ,hltk.out,yi,httk.out] at E))|(refine aq ?_;clear E;intro vN J E)));obtain ⟨gT,g3,g4,g5,rfl,rfl,rfl,rfl⟩:=E.names4;((try simp only [Exit.inBlock,Exit.then]);refine bc (eL F E) F ?_);replace E:=E.freezeB 0 aC 1 T T (by rw [lY,htt.out,dP]) (aM _) eT;(try simp only [zF] at E);replace E:=E.freezeB 0 aC 1 k k (by rw [nd,gq,hlt.out,dP]) (aM _) eT;refine ⟨some ⟨g3,0,none⟩,k,some ⟨gT,0,none⟩,T,?_,?_⟩
   .have h:=hE.out (some ⟨g3,0,none⟩) k (some ⟨gT,0,none⟩) T
    unfold dV at h;exact jB (λl:List Value=>Ending.returned (.agg l.toArray)) h.symm
   .rw [aO.out,aP.out,gq,hlt.out,htt.out]
    exact E.outA
end
section
open Go.RowKit Wd
def Bf (c:Cf) (Al:Option Addr) (cl:Nat) (At:Option Addr) (ct:Nat) (w:World) (hl:Rd w w.heap.size 1 Al c.lat.length cl (aE c.lat)) (ht:Rd w w.heap.size 1 At c.tape.length ct (ai c.tape)) :Ca 24 #[.agg (dV c Al cl At ct).toArray] w λe w'=>∃ A1 c1 A2 c2,e = .returned (.agg (dV (bf c) A1 c1 A2 c2).toArray)/\Out w [ab 1 Al c.lat.length cl (aE c.lat),ab 1 At c.tape.length ct (ai c.tape)] w' [ab 1 A1 (bf c).lat.length c1 (aE (bf c).lat),ab 1 A2 (bf c).tape.length c2 (ai (bf c).tape)]:=by
 by_cases h:bE 1 4 c.sets=3
 .exact VY c Al cl At ct w hl ht h
 .exact Pr c Al cl At ct w hl ht h
def G7 {l k x}(h:l[k]?=some x):(aE l)[k * 1]?=some (I x):=by rw [dP];exact pA h
section
variable {P:Program} {ops:Array Oper} {rest:List Oper} {o:Oper} {a:Act} {Q:Exit->Act->World->Prop} {w:World}
def h8j {x y:Operand} {t t':TypeId} {p q:Nat} (ho:o.op = .binOp .rem t x y t') (hx:ac a x=some (I (p:Int))) (hy:ac a y=some (I (q:Int))) (hp:p<=9223372036854775807) (hq:0<q) (aH:q<=1000000):(execOp a.eval o).run P w = .ok (.value (I ((p % q:Nat):Int))) w:=by
 replace hx:=ap hx;replace hy:=ap hy;have h0:¬ ((q:Int)=0):=by omega
 have h1:(p:Int) % (q:Int)<(q:Int):=Int.emod_lt_of_pos _ O;have h2:0<=(p:Int) % (q:Int):=Int.emod_nonneg _ h0;unfold execOp;simp only [ho,hx,hy];go_simp
 try rw [Y O]
 rw [CI O];all_goals (try (simp [IntKind.wrap];omega))
def SF {x y:Operand} {t t':TypeId} {p q r:Nat} (ho:o.op = .binOp .rem t x y t') (hx:ac a x=some (I (p:Int))) (hy:ac a y=some (I (q:Int))) (h:wpList P ops Q rest (a.put o.dst (I (r:Int))) w) (hr:Hid (p % q=r):=by assumption) (hp:p<=9223372036854775807:=by (first|assumption|omega)) (hq:0<q:=by (first|assumption|omega)) (aH:q<=1000000:=by (first|assumption|omega)) (hw:Region.wanted o (yielded ops a.tmps)=true:=by rfl):wpList P ops Q (o::rest) a w:=by
 refine cI hw λK X=>?_
 unfold Oper.wp;rw [h8j ho hx hy hp hq aH,hr.out];exact X _ _ h
end
def B1 (c):(bf c).lat.length<=64/\(bf c).tape.length<=64:=by
 constructor <;> simp [bf] <;> omega
instance cfCOne (c:Cf) (Al:Option Addr) (cl:Nat) (At:Option Addr) (ct:Nat):gQ (dV c Al cl At ct):=⟨by
 unfold dV
 repeat (first|exact uu|refine wm F ?_)⟩
def IQ (c:Cf) (Al:Option Addr) (cl:Nat) (At:Option Addr) (ct:Nat) (k:Int) (w:World) (hk:cQ k) (hl:Rd w w.heap.size 1 Al c.lat.length cl (aE c.lat)) (ht:Rd w w.heap.size 1 At c.tape.length ct (ai c.tape)) :Ca 127 #[.agg (dV c Al cl At ct).toArray,I k] w (RB w (I (kC c k))):=by
 have E:=St.start w [ab 1 Al c.lat.length cl (aE c.lat),ab 1 At c.tape.length ct (ai c.tape)] (zC hl (zC ht zN));have il:=(B1 c).1;have hR:Hid (kC c k=if (bf c).lat.length=0 then 1 else ((bf c).lat[(max k 0 % (bf c).lat.length).toNat]?).getD 0):=V F;generalize hL:(bf c).lat=L at il hR;replace hL:=V hL;obtain ⟨n,hn⟩:∃ n,L.length=n:=⟨_,rfl⟩;rw [hn] at il hR;replace hn:=V hn;have hk1:=hk.1;have aR:=hk.2;clear hl ht hk;go_enter func127,ntmps127;obtain ⟨M,hM⟩:∃ M:Nat,M=(max k 0).toNat:=⟨_,rfl⟩;have aV:Hid ((M:Int)=if (0:Int) > k then 0 else k):=V ox;have hM2:M<=9223372036854775807:=by omega
 have hMi:max k 0=(M:Int):=by omega
 rw [hMi] at hR;clear hMi hM;by_cases h0:n=0
 .subst h0
  exact KT
 .have b0:((n:Int) == 0)=false:=by rw [pI];omega
  rw [Y h0] at hR;have eW:0<n:=by omega
  obtain ⟨r,hr⟩:∃ r,M % n=r:=⟨_,rfl⟩;have az:r<n:=by rw [<- hr];exact dy _ eW
  have ad:((M:Int) % (n:Int)).toNat=r:=by omega
  rw [ad] at hR;clear ad h0;replace hr:=V hr;obtain ⟨x,hx⟩:∃ x,L[r]?=some x:=⟨_,ba (by rw [hn.out];exact az)⟩;rw [hx] at hR;have aX:=G7 hx;exact Iu
def Ru (c:Cf) (Al:Option Addr) (cl:Nat) (At:Option Addr) (ct:Nat) (k:Int) (pc:Nat) (w:World) (hk:cQ k) (hpc:pc<4294967296) (hl:Rd w w.heap.size 1 Al c.lat.length cl (aE c.lat)) (ht:Rd w w.heap.size 1 At c.tape.length ct (ai c.tape)) :Ca 144 #[.agg (dV c Al cl At ct).toArray,I k,U (pc:Int)] w (RB w (U ((ra c k pc:Nat):Int))):=by
 have E:=St.start w [ab 1 Al c.lat.length cl (aE c.lat),ab 1 At c.tape.length ct (ai c.tape)] (zC hl (zC ht zN));have il:=(B1 c).2;have hR:Hid (ra c k pc=if (bf c).tape.length=0 then ay pc 4 else ((bf c).tape[(max k 0 % (bf c).tape.length).toNat]?).getD 0):=V F;generalize hL:(bf c).tape=L at il hR;replace hL:=V hL;obtain ⟨n,hn⟩:∃ n,L.length=n:=⟨_,rfl⟩;rw [hn] at il hR;replace hn:=V hn;have hk1:=hk.1;have aR:=hk.2;clear hl ht hk;go_enter func144,ntmps144;obtain ⟨M,hM⟩:∃ M:Nat,M=(max k 0).toNat:=⟨_,rfl⟩;have aV:Hid ((M:Int)=if (0:Int) > k then 0 else k):=V ox;have hM2:M<=9223372036854775807:=by omega
 have hMi:max k 0=(M:Int):=by omega
 rw [hMi] at hR;clear hMi hM;by_cases h0:n=0
 .subst h0
  have a8:ay pc 4=(pc+4) % 4294967296:=rfl;exact KT
 .have b0:((n:Int) == 0)=false:=by rw [pI];omega
  rw [Y h0] at hR;have eW:0<n:=by omega
  obtain ⟨r,hr⟩:∃ r,M % n=r:=⟨_,rfl⟩;have az:r<n:=by rw [<- hr];exact dy _ eW
  have ad:((M:Int) % (n:Int)).toNat=r:=by omega
  rw [ad] at hR;clear ad h0;replace hr:=V hr;obtain ⟨x,hx⟩:∃ x,L[r]?=some x:=⟨_,ba (by rw [hn.out];exact az)⟩;rw [hx] at hR;have aX:=Tx hx;exact Iu
end
section
open Go.RowKit Wd
def CQ (op:Int) (x:Nat) (w:World) (hx:x<4294967296) :Ca 149 #[I op,U (x:Int)] w (RB w ((bn op x).val)):=by
 rcases xD op with h|h|h|h|h|h|h|h|h
 .exact h7z op x w h hx
 .exact Zf op x w h hx
 .exact Wa op x w h hx
 .exact h8c op x w h hx
 .exact Zk op x w h hx
 .exact PT op x w h hx
 .exact TK op x w h hx
 .exact QU op x w h hx
 .exact Pv op x w h hx
def eG : Da:=ab 1 (some ⟨0,0,none⟩) 49 49 (ai ci)
def U0 : BJ Tryz.prog 210 28 49:=⟨underlying210,by kernel_rfl⟩
def Il {k}(h:k<49):(ai ci)[k * 1]?=some (U ((ci[k]?.getD 0:Nat):Int)):=by
 obtain ⟨x,hx⟩:∃ x,ci[k]?=some x:=⟨_,ba (show k<ci.length from h)⟩;rw [hx];exact OG hx
def JA (k:Nat):ci[k]?.getD 0<4294967296:=by
 cases h:ci[k]? with
 | none=>simp
 | some x=>
  have:∀ y∈ci,y<4294967296:=by decide
  exact this x (aQ h)
def h8l (f:Int):fr f<4294967296:=by
 unfold fr
 repeat' split
 all_goals omega
def x4 (o:Option Ins):Value:=match o with|some i=>i.val|none=>lF.val
def x7 (o:Option Ins):Int:=match o with|some _=>0|none=>20
def h8m {x}(h:js x 48 1=none):df x=none:=by unfold df;rw [h]
def Sn {x k}(h:js x 48 1=some k):df x=some (bn k x):=by unfold df;rw [h]
def B3 (x:Nat) (w:World) (hx:x<4294967296) (hr:Rd w w.heap.size 1 (some ⟨0,0,none⟩) 49 49 (ai ci)) :Ca 138 #[U (x:Int)] w (RB w (.tuple #[x4 (df x),I (x7 (df x))])):=by
 have E:=St.start w [ab 1 (some ⟨0,0,none⟩) 49 49 (ai ci)] (zC hr zN);clear hr;go_enter func138,ntmps138;go_wp2_with (((first|refine aA ?_|(refine am ?_;clear E;intro Z J E));refine zs ?_));obtain ⟨gR,rfl⟩:=E.names1;go_loopw [4] (λi wr=>∃ k:Nat,1<=k/\k<=49/\i = I (k:Int)/\Hid (js x 48 1=js x (49 - k) k)/\St w [ab 1 (some ⟨0,0,none⟩) 49 49 (ai ci)] wr [.blk gR 52 [I 0,I 0,I 0,I 0,U 0]] [ab 1 (some ⟨0,0,none⟩) 49 49 (ai ci)]) (λi _=>49 - (intOf i).toNat);case atStart=>exact ⟨1,by omega,by omega,rfl,V F,E⟩
 case round=>
  obtain ⟨k,hk1,hk,rfl,aD,E⟩:=hrel;by_cases ik:k<49
  .have ak:=V (λW=>by have:=mN (k:Int) W;rwa [m8] at this:∀ W,Ca 107 #[I (k:Int)] W λe w'=>e = .returned (I (aI (k:Int)))/\w'=W)
   have al:=V (λW=>WI (aI (k:Int)) W (xD _));have jT:=V (λW=>CQ (k:Int) x W hx);have jx:=h8l (aI (k:Int));have a9:=JA k;have hc:=Il ik;have j8:js x (49 - k) k=if x &&& fr (aI (k:Int))=ci[k]?.getD 0 then some k else js x (49 - (k+1)) (k+1):=by
    rw [show 49 - k=(49 - (k+1))+1 by omega];rfl
   generalize aI (k:Int)=f at *;generalize fr f=fx at *;generalize ci[k]?.getD 0=c at *;have hand:=u32_and_nat x fx hx jx;by_cases hm:x &&& fx=c
   .have hd:js x 48 1=some k:=by rw [aD.out,j8,aa hm]
    replace hd:=V hd;have aY:(bits .and .u32 (x:Int) (fx:Int) == (c:Int))=true:=by rw [hand,hm];simp
    clear hand hm j8;go_upto_region 4 with (((first|refine aA ?_|(refine am ?_;clear E;intro Z J E));refine zs ?_));refine bA aj E _ _ (λ_ h=>h) (λ_ h=>h) ?_;clear E;intro E D;refine an 0 D ?_;refine an 1 D ?_;refine an 5 D ?_;refine Ex 6 D ?_;refine cX 7 D ?_;refine aB 2 (λK X=>?_);go_wp2_with ((first|(go_at_call 107;refine (ak.out _).mono ?_;rintro x J ⟨rfl,rfl⟩)|(go_at_call 183;refine (al.out _).mono ?_;rintro x J ⟨rfl,rfl⟩)));have D:=D.nextA E;refine X.out _ _ D ?_;clear X;refine zs ?_;refine aB 3 (λK X=>?_);go_wp2_with ((first|(go_at_call 107;refine (ak.out _).mono ?_;rintro x J ⟨rfl,rfl⟩)|(go_at_call 183;refine (al.out _).mono ?_;rintro x J ⟨rfl,rfl⟩)));have D:=D.nextA E;refine X.out _ _ D ?_;clear X;refine zs ?_;refine zp 4 D ?_;refine zp 8 D ?_;refine bt ?_;(go_wp2_with ((try refine zs ?_);(first|(refine Y6 ?_;clear E;intro Z J E)|refine ov ?_|(refine aq ?_;clear E;intro vN J E)));((try simp only [Exit.inBlock,Exit.then]);refine bc (oS F E) F ?_);exact ⟨by rw [Sn hd.out];rfl,E.bel⟩)
   .have hd2:js x 48 1=js x (49 - (k+1)) (k+1):=by rw [aD.out,j8,Y hm]
    replace hd2:=V hd2;have aY:(bits .and .u32 (x:Int) (fx:Int) == (c:Int))=false:=by rw [hand];simp;omega
    clear hand hm j8;go_upto_region 4 with (((first|refine aA ?_|(refine am ?_;clear E;intro Z J E));refine zs ?_));refine bA aj E _ _ (λ_ h=>h) (λ_ h=>h) ?_;clear E;intro E D;refine an 0 D ?_;refine an 1 D ?_;refine an 5 D ?_;refine Ex 6 D ?_;refine cX 7 D ?_;refine aB 2 (λK X=>?_);go_wp2_with ((first|(go_at_call 107;refine (ak.out _).mono ?_;rintro x J ⟨rfl,rfl⟩)|(go_at_call 183;refine (al.out _).mono ?_;rintro x J ⟨rfl,rfl⟩)));have D:=D.nextA E;refine X.out _ _ D ?_;clear X;refine zs ?_;refine aB 3 (λK X=>?_);go_wp2_with ((first|(go_at_call 107;refine (ak.out _).mono ?_;rintro x J ⟨rfl,rfl⟩)|(go_at_call 183;refine (al.out _).mono ?_;rintro x J ⟨rfl,rfl⟩)));have D:=D.nextA E;refine X.out _ _ D ?_;clear X;refine zs ?_;refine zp 4 D ?_;refine zp 8 D ?_;refine bt ?_;(go_wp2_with ((try refine zs ?_);(first|refine ov ?_|(refine bJ ?_;clear E;intro Z J E)|(refine aq ?_;clear E;intro vN J E)));go_roundw;(case rel=>exact ⟨k+1,by omega,by omega,by go_num,V hd2.out,E⟩);(case measure=>exact zM))
  .obtain rfl:k=49:=by omega
   have hd:js x 48 1=none:=aD.out;replace hd:=V hd;go_wp2_with ((try refine zs ?_);(first|refine ov ?_|(refine bJ ?_;clear E;intro Z J E)|(refine aq ?_;clear E;intro vN J E)));((try simp only [Exit.inBlock,Exit.then]);refine bc (oS F E) F ?_);exact ⟨by rw [h8m hd.out];rfl,E.bel⟩
end
section
open Go.RowKit Wd
section
variable {ops:Array Oper} {rest:List Oper} {o:Oper} {a:Act} {Q:Exit->Act->World->Prop}
def Sg {w x y i j}(ho:o.op = .binOp .neq 52 x y 52)(hx:ac a x=some i.val)(hy:ac a y=some j.val):(execOp a.eval o).run Tryz.prog w = .ok (.value (.bool (!(eO i j)))) w:=by
 replace hx:=ap hx;replace hy:=ap hy;unfold execOp;simp only [ho,hx,hy];go_simp;unfold Ins.val;go_simp;unfold eO;by_cases h1:i.op=j.op
 .by_cases h2:i.rd=j.rd
  .by_cases h3:i.rs1=j.rs1
   .by_cases h4:i.rs2=j.rs2
    .by_cases h5:i.imm=j.imm
     .simp [h1,h2,h3,h4,h5]
     .rw [aa h1,aa h2,aa h3,aa h4,Y O]
      simp [h5]
    .rw [aa h1,aa h2,aa h3,Y h4]
     simp [h4]
   .rw [aa h1,aa h2,Y h3]
    simp [h3]
  .rw [aa h1,Y h2]
   simp [h2]
 .rw [Y h1]
  simp [h1]
def RT {S:World->Prop} {x y:Operand} {i j:Ins} {b:Bool} (ho:o.op = .binOp .neq 52 x y 52) (hx:ac a x=some i.val) (hy:ac a y=some j.val) (hr:Hid ((!(eO i j))=b):=by assumption) (hw:Region.wanted o (yielded ops a.tmps)=true:=by rfl) :YieldsIf Tryz.prog ops S o (.bool b) a:=cg hw λw=>by rw [<- hr.out];exact Sg ho hx hy
end
end
section
open Go.RowKit
section
variable {ways:Int} {A:Option Addr} {n c:Nat} {S:List Cs} {Aq:Option Addr} {nq cq:Nat} {q:List Rq} {As:Option Addr} {ns cs:Nat} {ss:List Pu} {C:List (List Wy)} {w:World}
def R4 (hR:bj ways C):C.length<=1000 /\ ∀ ws∈C,ws.length<=1000:=⟨by have:=hR.hn;omega,λws hw=>by
 obtain ⟨k,hk⟩:=oh.1 hw;have:=Ba hR (hR.hs k ws hk).1
 omega⟩
def PP {m:ByteArray} {x:Nat} {left:Int} {C':List (List Wy)} {q':List Rq} {b:Bool} (hr:bT w w.heap.size A n c S) (a0:Rd w w.heap.size 4 Aq nq cq (bg q)) (hC:aZ S=C) (h:kM ways C q (bl m) x left C' q' b) (j1:fX C)(hx:x<4294967296) (hm:m.size<=maxLen) (j0:nq<=1000000) (hq:∀ r∈q,r.line<4294967296) (hl : I6 left) :Ca 126 #[.agg #[I ways,.slice A n c],.slice Aq nq cq,.string m,U (x:Int),I left] w λe w'=>∃ y z,e = .returned (.tuple #[y,z,.bool b])/\Kn w (AZ A n c S Aq nq cq q) ways y z w' C' q':=by
 subst hC;exact h8h hx j1.sok hm j0 hq hl h w hr a0
def WX {C' ss' b}(hr:bT w w.heap.size A n c S)(a1:Rd w w.heap.size 2 As ns cs (bD ss))(hC:aZ S=C)(h:pM ways ss C ss' C' b)(j1:fX C)(a2:∀ p∈ss,p.addr<4294967296/\p.data.size<=maxLen):Ca 86 #[.slice As ns cs,.agg #[I ways,.slice A n c]] w λe w'=>∃ y z,e = .returned (.tuple #[y,z,.bool b])/\Nh w (yd As ns cs ss A n c S) ways y z w' ss' C':=by
 subst hC;exact Yd j1.sok a2 h w hr a1
end
end
section
open Go.RowKit Wd
section
variable (A:Option Addr) (n c:Nat) (q:List En) (no:Int) (pc gs:Nat) (Ap:Option Addr) (np cp:Nat) (prog:List Nat) (w:World) (a3:n<=1000) (a4:n<=c) (j0:Hid (q.length=n))
 (E:St w [ab 17 A n c (ens q),ab 1 Ap np cp (ai prog),eG] w [] [ab 17 A n c (ens q),ab 1 Ap np cp (ai prog),eG])
include a3 a4 j0 E
theorem h8s (Z':En) (x:Nat) (op de:Int) (rd rs1 rs2:Int) (imm:Nat)  (hE:Z'=⟨no,pc,lF,gs,3,0,0,0,0,1,0,false,false⟩)(iO:Hid (∀ W,Rd W W.heap.size 1 Ap np cp (ai prog)->Ca 79 #[.slice Ap np cp,U (pc:Int)] W (RB W (.tuple #[U (x:Int),.bool false]))))(dz:Hid (∀ W,Rd W W.heap.size 1 (some ⟨0,0,none⟩) 49 49 (ai ci)->Ca 138 #[U (x:Int)] W (RB W (.tuple #[.agg #[I op,I rd,I rs1,I rs2,U (imm:Int)],I de])))):Ca 78 #[.slice A n c,I no,.agg #[U (pc:Int),U (gs:Int)],.slice Ap np cp] w λx w'=>∃ v,x = .returned v/\af w w'/\w'.ownsRow w.heap.size 54 17 v (n+1) (ens (q++[Z'])):=by
 have ja:=V (show ens (q++[Z'])=ens q++Z'.cells by unfold ens;rw [sV];simp);subst hE;(go_enter func78,ntmps78);go_upto_region 16 with ((try refine zs ?_);(first|refine fa ?_|(refine wZ ?_;clear E;intro Z J E)|(refine aq ?_;clear E;intro vN J E)|((refine jd F E F F ?_ (i8:=ce F));clear E;intro J E;(try simp only [spl,fL,jr,Nat.reduceAdd] at E))));replace E:=E.clip (N:=n) (ej _) (aM _);rw [cD vL] at E;refine bA aj E _ _ (λ_ h=>h) (λ_ h=>h) ?_;clear E;intro E D;refine an 0 D ?_;refine an 1 D ?_;refine jf 2 D ?_;refine an 3 D ?_;refine jf 4 D ?_;refine va 5 D ?_;refine lW 6 D ?_;refine aB 7 (λK X=>?_);go_wp2_with ((first|(refine iD F E F ?_;clear E;intro Z J E)|(refine nU F E ?_;clear E;intro Z J E));refine zs ?_);have D:=D.nextA E;refine X.out _ _ D ?_;clear X;refine zs ?_;refine aB 8 (λK X=>?_);go_wp2_with ((first|((refine tU F E F F ?_);clear E;intro vN J E;(try refine zs ?_))|((first|refine aL ?_|(refine am ?_;clear E;intro Z J E));refine zs ?_)));have D:=D.nextA E;refine X.out _ _ D ?_;clear X;refine zs ?_;refine cA 9 D ?_;refine bt ?_;(go_wp2;go_ret;exact ⟨_,rfl,E.bel,by rw [ja.out];exact E.ownAt aC⟩)
end
end
end Go.Proofs.YtgnomadgnciifaaGreatDoor
