/- . -/
import Derived.Test.YtgnomadgnciifaaGreatDoorE4
import Derived.Test.YtgnomadgnciifaaGreatDoorE5
set_option linter.all false
set_option maxRecDepth 100000
set_option maxHeartbeats 16000000
namespace Go.Proofs.YtgnomadgnciifaaGreatDoor
variable {p:Prop}
open Go.Proofs.Tryz
def FU (h:p:=by
 go_roundw;case rel=>exact ⟨j+1,by omega,by go_num,s2,j5,(((E.drop 0).drop 0).lessD (λd hd=>ez _ hd))⟩
 case measure=>exact zM):=h
section
open Go.RowKit Wd
def EH (A:Option Addr) (n c:Nat) (prog:List Nat):Prop:=∀ s:Sq,kq s->s.halt=0 -> ∀ W:World,Rd W W.heap.size 1 A n c (ai prog)->Ca 41 #[.slice A n c,.agg (aX s).toArray] W (nn W s (cx prog s))
def Xg {prog}{S:Nat->Sq}{k}(h:(S k).halt=0):iM prog S (k+1)=iM prog S k++[cx prog (S k)]:=by show (if (S k).halt=0 then _ else _)=_;rw [aa h]
def j6j {prog}{S:Nat->Sq}{k}(h:¬ (S k).halt=0):iM prog S (k+1)=iM prog S k:=by show (if (S k).halt=0 then _ else _)=_;rw [Y h]
def RG (l t):gU (l++[t])=gU l++Stp.cells t:=by simp [gU]
def Uy (A:Option Addr) (n c:Nat) (prog:List Nat) (m:ByteArray) (N:Nat) (hN:N<=10000) (hm:m.size<=9223372036854775807) (HS:EH A n c prog) (w:World) (hr:Rd w w.heap.size 1 A n c (ai prog)) :Ca 12 #[.slice A n c,.string m,I (N:Int)] w λe w'=>∃ A' c',e = .returned (.tuple #[.agg (aX (ga prog m N)).toArray,.slice A' (iM prog (ga prog m) N).length c'])/\Out w [ab 1 A n c (ai prog)] w' [ab 9 A' (iM prog (ga prog m) N).length c' (gU (iM prog (ga prog m) N))]:=by
 have E:=St.start w [ab 1 A n c (ai prog)] (zC hr zN);have oX:=V (λW=>Rg m W hm);clear hr;go_enter func12,ntmps12;go_wp2_with ((try refine zs ?_);(first|go_big_skip|(go_at_call 40;refine E.cB (oX.out _) ?_;clear E;intro J E)|(refine bK (ty:=48) (cs:=lj) F E ?_;clear E;intro gR J E;(try refine zs ?_))|(refine aW (us:=aX (BN m)) F E F F ?_ (h1:=λu hu=>.inl (lw _ u hu));clear E;intro J E;(try simp only [zF] at E);refine zs ?_)|((first|refine aA ?_|(refine am ?_;clear E;intro Z J E));refine zs ?_)));have hR:jq prog (ga prog m):=λn=>rfl
 have j1:=V (λk=>kq.run hR (kq.new m) k);rename_i gO w1 w2 w3 w4 K1 iV;go_loopw [9,10,11,12] (λv i _ _ wr=>∃ k:Nat,k<=N/\i = I (k:Int)/\(iM prog (ga prog m) k).length<=k/\St w [ab 1 A n c (ai prog)] wr [.own v 57 9 (iM prog (ga prog m) k).length (gU (iM prog (ga prog m) k)),.blk gR 48 (aX (ga prog m k)),.blk gO 48 lj] [ab 1 A n c (ai prog)]) (λ_ i _ _ _=>N - (intOf i).toNat);case atStart=>exact ⟨0,by omega,rfl,aM 0,E⟩
 case round=>
  clear E;obtain ⟨k,hk,rfl,i1,E⟩:=hrel;by_cases ik:k<N
  .have fv:=j1.out k
   have cW:ga prog m (k+1)=lS prog (ga prog m k):=rfl;obtain ⟨s,hs⟩:∃ s,ga prog m k=s:=⟨_,rfl⟩;by_cases h0:s.halt=0
   .have hb0:(s.halt == 0)=true:=by simpa using h0
    have hl1:=Xg (prog:=prog) (S:=ga prog m) (k:=k) (by rw [hs];exact h0);rw [hs] at cW hl1 E fv;rw [tF h0] at cW;have lf:=λW h=>HS s fv h0 W h
    obtain ⟨T,hT⟩:∃ T,cx prog s=T:=⟨_,rfl⟩;rw [hT] at cW hl1 lf;unfold nn at lf;obtain ⟨s1,kc⟩:∃ s1,dE s T=s1:=⟨_,rfl⟩;rw [kc] at cW lf;obtain ⟨l,hl⟩:∃ l,iM prog (ga prog m) k=l:=⟨_,rfl⟩;rw [hl] at hl1 E i1;replace lf:=V lf;have hl1:=V hl1;have cW:=V cW;clear hs hT kc hl fv;go_wp2_with ((try refine zs ?_);(first|go_big_skip|(go_at_call 41;refine E.cB (lf.out _ E.rdA) ?_;clear E;intro J E)|(refine bK (ty:=48) (cs:=lj) F E ?_;clear E;intro gX J E;(try refine zs ?_))|((refine cV (cs:=aX s) (v:=.agg (aX s).toArray) F E F ?_);refine zs ?_)|((refine cV (cs:=Stp.cells T) (v:=.agg (Stp.cells T).toArray) F E F ?_);refine zs ?_)|((refine cV (cs:=aX s1) (v:=.agg (aX s1).toArray) F E F ?_);refine zs ?_)|(refine aW (us:=aX s1) F E F F ?_ (h1:=λu hu=>.inl (lw _ u hu));clear E;intro J E;(try simp only [zF] at E);refine zs ?_)|(fail)|(refine aW (us:=Stp.cells T) F E F F ?_ (h1:=λu hu=>.inl (Stp.one _ u hu));clear E;intro J E;(try simp only [zF] at E);refine zs ?_)|((first|refine aA ?_|(refine am ?_;clear E;intro Z J E));refine zs ?_)));go_roundw;case rel=>exact ⟨k+1,by omega,by go_num,by rw [hl1.out,ea];simp;omega,by rw [hl1.out,cW.out,RG,ea];exact (E.drop 0).drop 0⟩
    case measure=>exact zM
   .have hb0:(s.halt == 0)=false:=by simpa using h0
    have hl1:=j6j (prog:=prog) (S:=ga prog m) (k:=k) (by rw [hs];exact h0);rw [hs] at cW E fv;rw [show lS prog s=s by unfold lS;rw [aa h0]] at cW;obtain ⟨l,hl⟩:∃ l,iM prog (ga prog m) k=l:=⟨_,rfl⟩;rw [hl] at hl1 E i1;have hl1:=V hl1;have cW:=V cW;clear hs hl fv;go_wp2_with ((try refine zs ?_);(first|go_big_skip|((first|refine aA ?_|(refine am ?_;clear E;intro Z J E));refine zs ?_)));go_roundw;case rel=>exact ⟨k+1,by omega,by go_num,by rw [hl1.out];omega,by rw [hl1.out,cW.out];exact E⟩
    case measure=>exact zM
  .obtain rfl:k=N:=by omega
   obtain ⟨s,hs⟩:∃ s,ga prog m k=s:=⟨_,rfl⟩;obtain ⟨l,hl⟩:∃ l,iM prog (ga prog m) k=l:=⟨_,rfl⟩;obtain ⟨A2,c2,rfl,E⟩:=E.freeze 0 aC
   (try simp only [zF] at E);rw [hs,hl] at E;rw [hl] at i1;have mM:=V hs;have ki:=V hl;clear hs hl;go_wp2_with ((try refine zs ?_);(first|go_big_skip|((refine cV (cs:=aX s) (v:=.agg (aX s).toArray) F E F ?_);refine zs ?_)|(refine aW (us:=aX s) F E F F ?_ (h1:=λu hu=>.inl (lw _ u hu));clear E;intro J E;(try simp only [zF] at E);refine zs ?_)|((first|refine aA ?_|(refine am ?_;clear E;intro Z J E));refine zs ?_)));((try simp only [Exit.inBlock,Exit.then]);refine bc (oS F E) F ?_);refine ⟨A2,c2,?_,?_⟩
   .rw [mM.out,ki.out];rfl
   .rw [ki.out];exact E.outA
def Wz {w0 w D0 M k s j d0}(hI:vk k j)(hj:j<2000)(i8:qZ (runK j k) s)(E:St w0 D0 w M (d0::kt (runK j k) s)):Ca 9 #[.agg (ao (runK j k) s).toArray] w λx w'=>∃ s',qZ (runK (j+1) k) s'/\x = .returned (.agg (ao (runK (j+1) k) s').toArray)/\St w0 D0 w' M (d0::kt (runK (j+1) k) s'):=by
 refine (Mf hI.ok O hI.left i8 w (λd hd=>E.dat d (ez _ hd))).mono ?_;rintro x w' ⟨s',kj,rfl,hO⟩;rw [<- uH] at kj hO ⊢
 exact ⟨s',kj,rfl,(E.call hO (λ_ h=>ez _ h)).lessD (λd hd=>by
  rcases bB.1 hd with rfl|hd
  .exact List.mem_append_right _ (ee ..)
  .exact rz _ hd)⟩
end
section
open Go.RowKit Wd
section
variable {P:Program} {ops:Array Oper} {rest:List Oper} {o:Oper} {a:Act} {Q:Exit->Act->World->Prop} {w:World}
def yq {x y:Operand} {t t':TypeId} {p q r:Int} (ho:o.op = .binOp .add t x y t') (hx:ac a x=some (I p)) (hy:ac a y=some (I q)) (h:wpList P ops Q rest (a.put o.dst (I r)) w) (hr:Hid (p+q=r):=by with_reducible assumption) (h1 : I6 r:=by omega) (hw:Region.wanted o (yielded ops a.tmps)=true:=by rfl):wpList P ops Q (o::rest) a w:=by
 replace hx:=ap hx;replace hy:=ap hy;refine cI hw λK X=>?_
 have ip:(execOp a.eval o).run P w = .ok (.value (I r)) w:=by
  rw [<- hr.out] at h1 ⊢;unfold execOp;have nu:IntKind.i64.wrap (p+q)=p+q:=by simp only [IntKind.wrap,IntKind.bits,IntKind.signed];simp;omega
  simp only [ho,hx,hy];go_simp
 unfold Oper.wp;rw [ip];exact X _ _ h
def Q6 {w x y t}(ho:o.op = .binOp .neq 57 x y 57)(hx:ac a x=some (.agg (Stp.cells t).toArray))(hy:ac a y=some (.agg (Stp.cells t).toArray)):(execOp a.eval o).run Tryz.prog w = .ok (.value (.bool false)) w:=by
 replace hx:=ap hx;replace hy:=ap hy;unfold execOp;simp only [ho,hx,hy];unfold Stp.cells;go_simp
def j6o {S:World->Prop} {x y:Operand} {t:Stp} (ho:o.op = .binOp .neq 57 x y 57) (hx:ac a x=some (.agg (Stp.cells t).toArray)) (hy:ac a y=some (.agg (Stp.cells t).toArray)) (hw:Region.wanted o (yielded ops a.tmps)=true:=by rfl) :YieldsIf Tryz.prog ops S o (.bool false) a:=cg hw λw=>Q6 ho hx hy
end
def X4 {w0 w:World} {D0 D:List Da} {M:List Mu} {A:Option Addr} {N1 cp Nr Ln:Nat} {p:List Nat} {m2:ByteArray} {sN:Sq} {L:List Stp} (HR:Hid (∀ W:World,Rd W W.heap.size 1 A N1 cp (ai p)->Ca 12 #[.slice A N1 cp,.string m2,I (Nr:Int)] W λe w'=>∃ A' c',e = .returned (.tuple #[.agg (aX sN).toArray,.slice A' Ln c'])/\Out W [ab 1 A N1 cp (ai p)] w' [ab 9 A' Ln c' (gU L)]))(E:St w0 D0 w M (ab 1 A N1 cp (ai p)::D)):Ca 12 #[.slice A N1 cp,.string m2,I (Nr:Int)] w λe w'=>∃ A' c',e = .returned (.tuple #[.agg (aX sN).toArray,.slice A' Ln c'])/\St w0 D0 w' M (ab 9 A' Ln c' (gU L)::ab 1 A N1 cp (ai p)::D):=by
 refine (HR.out w (E.dat _ (ee ..))).mono ?_;rintro x w' ⟨A',c',rfl,hO⟩;exact ⟨A',c',rfl,E.call hO (λd hd=>by obtain rfl:=dm.1 hd;exact ee ..)⟩
def Qv (HS:∀ (A:Option Addr) (n c:Nat) (prog:List Nat),n<=1000000->(∀ z∈prog,z<4294967296)->EH A n c prog) (c:Cf) (Al:Option Addr) (cl:Nat) (At:Option Addr) (ct:Nat) (A:Option Addr) (n cp:Nat) (l:List Nat) (mm:ByteArray) (a:Int) (w:World) (hl:Rd w w.heap.size 1 Al c.lat.length cl (aE c.lat)) (ht:Rd w w.heap.size 1 At c.tape.length ct (ai c.tape)) (fx:D8 c)(hp:Rd w w.heap.size 1 A n cp (ai l)) (bb:∀ z∈l,z<4294967296) (hm:mm.size<=maxLen) (ha : I6 a) (gv:Rd w w.heap.size 1 (some ⟨0,0,none⟩) 49 49 (ai ci)) :Ca 3 #[.agg (dV c Al cl At ct).toArray,.slice A n cp,.string mm,I a] w (RB w (.bool true)):=by
 have E:=St.start w [ab 1 Al c.lat.length cl (aE c.lat),ab 1 At c.tape.length ct (ai c.tape),ab 1 A n cp (ai l),eG] (λd hd=>by
  rcases bB.1 hd with rfl|hd
  .exact hl
  .rcases bB.1 hd with rfl|hd
   .exact ht
   .rcases bB.1 hd with rfl|hd
    .exact hp
    .obtain rfl:=dm.1 hd;exact gv)
 have hln:l.length=n:=by have:=hp.len;rwa [lY,dP] at this
 unfold maxLen at hm;have vh:=λ(W:World) (h:Rd W W.heap.size 1 A n cp (ai l))=>Qq A n cp l mm W h hm
 obtain ⟨m2,cC,mN⟩:∃ m2:ByteArray,mm.extract 0 (min mm.size 300)=m2/\m2.size<=300:=⟨_,rfl,by rw [wX];omega⟩;obtain ⟨N1,kl⟩:∃ N1,min n 64=N1:=⟨_,rfl⟩;have i2:N1=(l.take 64).length:=by rw [cK,hln];omega
 rw [cC,kl] at vh;replace vh:=V vh;obtain ⟨k0,be⟩:∃ k0,gm c (l.take 64) m2=k0:=⟨_,rfl⟩;have gA:∀ x∈l.take 64,x<4294967296:=λx hx=>bb x (jE hx)
 have HN:Hid (∀ (W:World),Rd W W.heap.size 1 Al c.lat.length cl (aE c.lat)->Rd W W.heap.size 1 At c.tape.length ct (ai c.tape)->Rd W W.heap.size 1 A N1 cp (ai (l.take 64))->Rd W W.heap.size 1 (some ⟨0,0,none⟩) 49 49 (ai ci) ->
   Ca 8 #[.agg (dV c Al cl At ct).toArray,.slice A N1 cp,.string m2] W (sP W [ab 1 Al c.lat.length cl (aE c.lat),ab 1 At c.tape.length ct (ai c.tape),ab 1 A N1 cp (ai (l.take 64)),eG] k0)):=V (λW h1 h2 h3 h4=>by
  rw [i2] at h3 ⊢;rw [<- be]
  exact Ik c Al cl At ct (l.take 64) A cp m2 W h1 h2 h3 h4 O)
 have HI:=V (λj hj=>be ▸ BQ (c:=c) (prog:=l.take 64) (m:=m2) fx.tape gA j hj)
 have HE:=V (λj=>show LR (iM (l.take 64) (ga (l.take 64) m2) ((runK j k0).retired.length+(runK j k0).rob.length)) (runK j k0) from by
  have:=Ki (c:=c) (prog:=l.take 64) (m:=m2) fx.tape gA j;rw [List.take_take,Nat.min_self,be] at this
  exact Y0 (Mq _ _) this)
 have mU:=V (λ(N:Nat) (hN:N<=10000) (W:World) (h:Rd W W.heap.size 1 A N1 cp (ai (l.take 64)))=>Uy A N1 cp (l.take 64) m2 N hN O (HS A N1 cp (l.take 64) O gA) W h);have E:=E.toPart (N:=N1) (sz:=1) (A:=A) (n:=n) (c:=cp) (xs:=ai l) au O;have hT:(ai l).take (N1 * 1)=ai (l.take 64):=by
  rw [dP,Gw];congr 1;rw [i2,cK,<- List.take_eq_take_min]
 rw [hT] at E;obtain ⟨U',G⟩:∃ U':Int,Hid (U'=if (0:Int) > a then 0 else a):=⟨_,V F⟩;obtain ⟨N,hN⟩:∃ N:Int,Hid (N=if (120:Int)<U' then 120 else U'):=⟨_,V F⟩;have mg:0<=N/\N<=120:=by
  have h1:=G.out;have h2:=hN.out;split at h1 <;> split at h2 <;> omega
 clear hl ht fx hp bb gv cC mN kl i2 be hT hln hm gA HS;go_enter func3,ntmps3;go_wp2_with ((try refine zs ?_);(first|go_big_skip|(go_at_call 7;refine E.cB (vh.out _ E.rdA) ?_;clear E;intro J E;(try refine zs ?_))|(go_at_call 8;refine (HN.out _ E.rdA E.rdA E.rdA E.rdA).mono ?_;rintro x J ⟨s1,ie,rfl,hO⟩;replace E:=(E.call hO (by (repeat (refine eZ ?_ ?_;focus (exact au)));exact cE)).lessD (D':=ab 1 A N1 cp (ai (l.take 64))::kt (runK 0 k0) s1) (λd hd=>by rcases bB.1 hd with rfl|hd;exact List.mem_append_right _ au;exact rz _ hd);clear hO;(try refine zs ?_))|(refine gj F E F ?_;clear E;intro Z J E)|(refine bK (ty:=42) (cs:=tt) F E ?_;clear E;intro gX J E;(try refine zs ?_))|(refine cV F E F ?_)|(refine aW (us:=ao k0 s1) F E F F ?_ (h1:=λu hu=>.inl (ku _ _ u hu));clear E;intro J E;(try simp only [zF] at E);refine zs ?_)|((refine vT F F F ?_);refine zs ?_)|((refine wL F F F ?_);refine zs ?_)));clear HN vh G hN;go_loopw [28] (λi wr=>∃ j:Nat,j<=N.toNat/\i = I (j:Int) /\ ∃ s,qZ (runK j k0) s/\St w [ab 1 Al c.lat.length cl (aE c.lat),ab 1 At c.tape.length ct (ai c.tape),ab 1 A n cp (ai l),eG] wr [.blk gX 42 (ao (runK j k0) s),.blk Z 25 (dV c Al cl At ct)] (ab 1 A N1 cp (ai (l.take 64))::kt (runK j k0) s)) (λi _=>N.toNat - (intOf i).toNat);case atStart=>exact ⟨0,by omega,rfl,s1,ie,E⟩
 case round=>
  clear E ie;obtain ⟨j,hj,rfl,s,i8,E⟩:=hrel;by_cases nw:(j:Int)<N
  .have hI:=HI.out j O
   have i3:=HI.out (j+1) O;have hE:=HE.out (j+1);have j1:=i3.ok.rob;have hrl:(runK (j+1) k0).rob.length<=1000:=by have:=i3.ok.roblen;omega
   have ny:(runK (j+1) k0).retired.length<=9000:=by have:=i3.ok.retlen;omega
   obtain ⟨Nr,i4⟩:∃ Nr:Nat,(runK (j+1) k0).retired.length+(runK (j+1) k0).rob.length=Nr:=⟨_,rfl⟩;have nB:=V (show (((runK (j+1) k0).retired.length:Nat):Int)+(((runK (j+1) k0).rob.length:Nat):Int)=((Nr:Nat):Int) by omega);have nD:Nr<=10000:=by omega
   have i5:=λW h=>mU.out Nr O W h
   obtain ⟨sN,km⟩:∃ x,ga (l.take 64) m2 Nr=x:=⟨_,rfl⟩;obtain ⟨L,hL⟩:∃ x,iM (l.take 64) (ga (l.take 64) m2) Nr=x:=⟨_,rfl⟩;obtain ⟨Ln,gB⟩:∃ x,L.length=x:=⟨_,rfl⟩;rw [i4,hL] at hE;rw [km,hL,gB] at i5;have kn:=V i5
   have kr:=V (λ(s':em) (W:World) (h1:Rd W W.heap.size 17 s'.robA (runK (j+1) k0).rob.length s'.robC (ens (runK (j+1) k0).rob)) (h2:Rd W W.heap.size 1 (some ⟨0,0,none⟩) 49 49 (ai ci))=>show Ca 10 #[.slice s'.robA (runK (j+1) k0).rob.length s'.robC] W (RB W (.bool true)) from by
    have:=G0 s'.robA (runK (j+1) k0).rob.length s'.robC (runK (j+1) k0).rob W h1 j1 hrl h2;rw [hE.right] at this
    exact this)
   have es:=V (λ(s':em) (W:World) (h1:Rd W W.heap.size 17 s'.robA (runK (j+1) k0).rob.length s'.robC (ens (runK (j+1) k0).rob))=>show Ca 11 #[.slice s'.robA (runK (j+1) k0).rob.length s'.robC] W (RB W (I (-1))) from by
    have:=GF s'.robA (runK (j+1) k0).rob.length s'.robC (runK (j+1) k0).rob W h1 j1;rw [show rj (runK (j+1) k0).rob = -1 from by unfold rj;rw [hE.wrong]] at this
    exact this)
   have mV:=V (λ(i:Nat) (s':em) (W:World) (h1:Rd W W.heap.size 17 s'.robA (runK (j+1) k0).rob.length s'.robC (ens (runK (j+1) k0).rob))=>D9 s'.robA (runK (j+1) k0).rob.length s'.robC (runK (j+1) k0).rob (i:Int) W h1 j1 O);have nF:=V (show decide ((runK (j+1) k0).conf.rob<((runK (j+1) k0).rob.length:Int))=false from dg (by have:=hE.len;omega));have mX:=V (λe (he:e∈(runK (j+1) k0).rob) (W:World)=>MB e W (j1 e he).op);replace hE:=V hE;replace j1:=V j1;replace i4:=V i4;replace gB:=V gB;clear i5 km hL;go_wp2_with ((try refine zs ?_);(first|go_big_skip|(go_at_call 9;refine (Wz hI O i8 E).mono ?_;rintro x J ⟨s2,j5,rfl,ic⟩;clear E;have E:=ic;clear ic;(try refine zs ?_))|(go_at_call 10;refine E.cB (kr.out s2 _ E.rdA E.rdA) ?_;clear E;intro J E;(try refine zs ?_))|(go_at_call 11;refine E.cB (es.out s2 _ E.rdA) ?_;clear E;intro J E;(try refine zs ?_))|(go_at_call 12;refine (X4 kn E).mono ?_;rintro x J ⟨A9,c9,rfl,ic⟩;clear E;have E:=ic;clear ic;(try refine zs ?_))|((refine cV (cs:=ao (runK j k0) s) (v:=.agg (ao (runK j k0) s).toArray) F E F ?_);refine zs ?_)|(refine aW (us:=ao (runK (j+1) k0) s2) F E F F ?_ (h1:=λu hu=>.inl (ku _ _ u hu));clear E;intro J E;(try simp only [zF] at E);refine zs ?_)|((refine je F F ?_);refine zs ?_)|((refine yq F F F ?_);refine zs ?_)|((first|(refine co F F F ?_)|(refine fM F F F ?_)|(refine cT F F F ?_)|(refine dU F F F ?_));(try refine zs ?_))|((refine bP F E F ?_);refine zs ?_)|(refine bK (ty:=48) (cs:=lj) F E ?_;clear E;intro gS J E;(try refine zs ?_))|(refine aW (us:=aX sN) F E F F ?_ (h1:=λu hu=>.inl (lw _ u hu));clear E;intro J E;(try simp only [zF] at E);refine zs ?_)));clear kr es kn;go_loopw [67] (λi wr=>∃ m:Nat,m<=(runK (j+1) k0).rob.length/\i = I (m:Int)/\Hid (∀ j',j'<m -> ∀ f,(runK (j+1) k0).rob[j']?=some f->f.is=3)/\St w [ab 1 Al c.lat.length cl (aE c.lat),ab 1 At c.tape.length ct (ai c.tape),ab 1 A n cp (ai l),eG] wr [.blk gS 48 (aX sN),.blk gX 42 (ao (runK (j+1) k0) s2),.blk Z 25 (dV c Al cl At ct)] (ab 9 A9 Ln c9 (gU L)::ab 1 A N1 cp (ai (l.take 64))::kt (runK (j+1) k0) s2)) (λi _=>(runK (j+1) k0).rob.length - (intOf i).toNat);case atStart=>exact ⟨0,by omega,rfl,V (λj' h=>by omega),E⟩
   case round=>
    clear E;obtain ⟨m,nH,rfl,gh,E⟩:=hrel;by_cases er:m<(runK (j+1) k0).rob.length
    .obtain ⟨e,he⟩:∃ e,(runK (j+1) k0).rob[m]?=some e:=⟨_,ba er⟩
     have j9:∀ (i:Nat) (u:Value),e.cells[i]?=some u->(ens (runK (j+1) k0).rob)[m * 17+i]?=some u:=λi u hu=>Rows.el (f:=ens) he hu
     obtain ⟨kk,hkk⟩:∃ kk:Nat,(runK (j+1) k0).retired.length+m=kk:=⟨_,rfl⟩;have nI:=V (show (((runK (j+1) k0).retired.length:Nat):Int)+((m:Nat):Int)=((kk:Nat):Int) by omega);have mu:kk<=10000:=by omega
     have nK:=V hkk;obtain ⟨vb,hvb⟩:∃ b,decide ((m:Int)<=(eV (runK (j+1) k0).rob:Int))=b:=⟨_,rfl⟩;have et:=mV.out m;rw [hvb] at et;replace et:=V et;cases vb with
     | false=>
      clear hvb he hkk;go_wp2_with ((try refine zs ?_);(first|go_big_skip|(go_at_call 13;refine E.cB (et.out s2 _ E.rdA) ?_;clear E;intro J E;(try refine zs ?_))|((refine rB (k:=m) F E F F ?_ (ik:=er));(try refine zs ?_))|((refine fA (us:=e.cells) (v:=.agg e.cells.toArray) (hu:=j9) F E F ?_);refine zs ?_)|(refine bK (ty:=54) F E ?_;clear E;intro gE J E;(try refine zs ?_))|(refine aW (us:=e.cells) F E F F ?_ (h1:=λu hu=>.inl (e.one u hu));clear E;intro J E;(try simp only [zF] at E);refine zs ?_)|((refine je F F ?_);refine zs ?_)|((refine yq F F F ?_);refine zs ?_)|((refine bP F E F ?_);refine zs ?_)));exact FU
     | true=>
      have hv:m<=eV (runK (j+1) k0).rob:=by have:=of_decide_eq_true hvb;omega
      by_cases fC:e.is=3
      .have gC:∀ j',j'<m+1 -> ∀ f,(runK (j+1) k0).rob[j']?=some f->f.is=3:=λj' f6 f hf=>by
        by_cases re:j'<m
        .exact gh.out j' re f hf
        .obtain rfl:j'=m:=by omega
         rw [he] at hf;injection hf with hf;rw [<- hf];exact fC
       have eY:=hE.out.told m e he hv (λj' f6=>gC j' O);rw [hkk] at eY;have fg:kk<Ln:=by rw [<- gB.out];exact (aK.1 eY).1
       have fZ:=λW=>show Ca 14 #[.agg e.cells.toArray] W (RB W (.agg (Stp.cells (aY e)).toArray)) from mX.out e (aQ he) W
       obtain ⟨T,ks⟩:∃ T,aY e=T:=⟨_,rfl⟩;rw [ks] at eY fZ;replace fZ:=V fZ;have c1:=V (show decide (¬ e.is=3)=false by simpa using fC);have c2:=V (show decide ((Ln:Int)<=(kk:Int))=false from dg O);replace gC:=V gC;clear hvb he hv fC ks hkk;go_upto_region 14 with ((try refine zs ?_);(first|go_big_skip|(go_at_call 13;refine E.cB (et.out s2 _ E.rdA) ?_;clear E;intro J E;(try refine zs ?_))|((refine rB (k:=m) F E F F ?_ (ik:=er));(try refine zs ?_))|((refine fA (us:=e.cells) (v:=.agg e.cells.toArray) (hu:=j9) F E F ?_);refine zs ?_)|(refine bK (ty:=54) F E ?_;clear E;intro gE J E;(try refine zs ?_))|(refine aW (us:=e.cells) F E F F ?_ (h1:=λu hu=>.inl (e.one u hu));clear E;intro J E;(try simp only [zF] at E);refine zs ?_)|((refine je F F ?_);refine zs ?_)|((refine yq F F F ?_);refine zs ?_)|((first|(refine co F F F ?_)|(refine fM F F F ?_)|(refine cT F F F ?_)|(refine dU F F F ?_));(try refine zs ?_))|((refine bP F E F ?_);refine zs ?_)));refine bA aj E _ _ (λ_ h=>h) (λ_ h=>h) ?_;clear E;intro E H;refine an 0 H ?_;refine an 1 H ?_;refine jf 2 H ?_
       first|(refine eu (i:=3) F (qf F F F) H ?_;refine zs ?_)|refine zp 3 H ?_
       refine an 4 H ?_;refine zc 5 H ?_;refine jj 7 H ?_;refine jj 8 H ?_;refine Bd 9 H ?_;refine zc 10 H ?_;refine aB 6 (λK X=>?_);go_wp2_with (first|(go_at_call 14;refine E.cB (fZ.out _) ?_;clear E;intro J E;(try refine zs ?_)));have H:=aO H E;refine X.out _ _ H ?_;clear X;refine zs ?_;(refine eu (i:=11) F (j6o (t:=T) F F F) H ?_);refine zs ?_
       (refine th (i:=12) (v:=?_) F F aj aj aj (λ_ _ _ h=>h) ?_ H ?_;rotate_left;(first|exact nJ kH ax|(refine cg ax ?_;intro w;go_simp;done)|(refine cg ax ?_;intro w;go_simp;with_reducible rfl)|(refine cg ax ?_;intro w;simp only [Wy.cells];go_simp;with_reducible rfl));(try refine zs ?_));refine bt ?_;(go_wp2;go_roundw;(case rel=>exact ⟨m+1,by omega,by go_num,gC,E.drop 0⟩);(case measure=>exact zM))
      .have c1:=V (show decide (¬ e.is=3)=true by simpa using fC)
       clear hvb he hv fC hkk;go_wp2_with ((try refine zs ?_);(first|go_big_skip|(go_at_call 13;refine E.cB (et.out s2 _ E.rdA) ?_;clear E;intro J E;(try refine zs ?_))|((refine rB (k:=m) F E F F ?_ (ik:=er));(try refine zs ?_))|((refine fA (us:=e.cells) (v:=.agg e.cells.toArray) (hu:=j9) F E F ?_);refine zs ?_)|(refine bK (ty:=54) F E ?_;clear E;intro gE J E;(try refine zs ?_))|(refine aW (us:=e.cells) F E F F ?_ (h1:=λu hu=>.inl (e.one u hu));clear E;intro J E;(try simp only [zF] at E);refine zs ?_)|((refine je F F ?_);refine zs ?_)|((refine yq F F F ?_);refine zs ?_)|((first|(refine co F F F ?_)|(refine fM F F F ?_)|(refine cT F F F ?_)|(refine dU F F F ?_));(try refine zs ?_))|((refine bP F E F ?_);refine zs ?_)));exact FU
    .obtain rfl:m=(runK (j+1) k0).rob.length:=by omega
     go_wp2_with ((try refine zs ?_);(first|go_big_skip));go_roundw;case rel=>exact ⟨j+1,by omega,by go_num,s2,j5,((E.drop 0).lessD (λd hd=>ez _ hd))⟩
     case measure=>exact zM
  .have nQ:j=N.toNat:=by omega
   go_wp2_with ((try refine zs ?_);(first|go_big_skip|(go_at_call 15;refine E.cB (YK _ E.rdA) ?_;clear E;intro J E;(try refine zs ?_))));go_ret;exact ⟨rfl,E.bel⟩
end
section
open Go.RowKit Wd
def ZQ {A:Option Addr} {n c:Nat} {prog:List Nat} (hn:n<=1000000) (bb:∀ z∈prog,z<4294967296):EH A n c prog:=by
 intro s hk h0 W hr;obtain ⟨pc,regs,mem,h⟩:=s;obtain rfl:h=0:=h0;cases hf:eE prog pc with
 | none=>exact Zg hk hn bb W hr hf
 | some x=>
  cases hd:df x with
  | none=>exact YY hk hn bb W hr hf hd
  | some i=>
   have hin:=Nv hd;obtain ⟨op,rd,r1,r2,imm⟩:=i;obtain ⟨⟨a1,a2⟩,⟨b1,b2⟩⟩:=hin;dsimp only at a1 a2 b1 b2;obtain ⟨r1,rfl⟩:=jS a1;obtain ⟨r2,rfl⟩:=jS b1;by_cases bk:op=47
   .subst bk;exact j5s hk hn bb W hr hf hd
   by_cases bm:op=48
   .subst bm;exact j5t hk hn bb W hr hf hd
   exact j6y hk hn bb W hr hf hd O O bk bm
def TopEntries_w (c:Cf) (Al:Option Addr) (cl:Nat) (At:Option Addr) (ct:Nat) (A:Option Addr) (n cp:Nat) (l:List Nat) (m:ByteArray) (a:Int) (w:World) (hl:Rd w w.heap.size 1 Al c.lat.length cl (aE c.lat)) (ht:Rd w w.heap.size 1 At c.tape.length ct (ai c.tape)) (fx:D8 c)(hp:Rd w w.heap.size 1 A n cp (ai l)) (bb:∀ z∈l,z<4294967296) (hm:m.size<=maxLen) (ha : I6 a) (gv:Rd w w.heap.size 1 (some ⟨0,0,none⟩) 49 49 (ai ci)) :Ca 3 #[.agg (dV c Al cl At ct).toArray,.slice A n cp,.string m,I a] w (RB w (.bool true)) :=
 Qv (λ_ _ _ _ hn bb=>ZQ hn bb) c Al cl At ct A n cp l m a w hl ht fx hp bb hm ha gv
end
end Go.Proofs.YtgnomadgnciifaaGreatDoor
