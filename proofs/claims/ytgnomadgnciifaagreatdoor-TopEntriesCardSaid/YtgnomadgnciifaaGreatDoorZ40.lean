/- . -/
import Derived.Test.YtgnomadgnciifaaGreatDoorZ32
import Derived.Test.YtgnomadgnciifaaGreatDoorZ37
set_option linter.all false
set_option maxRecDepth 100000
set_option maxHeartbeats 16000000
namespace Go.Proofs.YtgnomadgnciifaaGreatDoor
variable {p:Prop}
open Go.Proofs.Tryz
def tV (h:p:=by
 clear hE
 (go_wp2_with ((try refine zs ?_);(first|go_big_skip|refine zG ?_|(refine yh ?_;clear E;intro Z J E)|(go_at_call 54;(first|(have D:=G.out _ E.rds;(with_reducible refine D.mono ?_))|(have D:=lO.out _ E.rds;(with_reducible refine D.mono ?_)));clear D;rintro x J ⟨rfl,hb⟩;replace E:=E.grow hb;clear hb)|(refine aq ?_;clear E;intro vN J E)));go_ret;exact ⟨by rw [hR.out];(try rfl),E.bel⟩)):=h
def JK (h:p:=by
 go_wp2_with ((try refine zs ?_);(first|go_big_skip|refine ME ?_|(refine LA ?_;clear E;intro Z J E)|(refine aq ?_;clear E;intro vN J E)));go_ret
 exact ⟨by rw [hR.out];(try rfl),E.bel⟩):=h
def Kt (h:p:=by
 go_wp2_with ((try refine zs ?_);(first|go_big_skip|refine QC ?_|(refine Sy ?_;clear E;intro Z J E)|(refine aq ?_;clear E;intro vN J E)));go_ret
 exact ⟨by rw [hE.out];rfl,E.bel⟩):=h
def JF (h:p:=by
 go_roundw;case rel=>exact ⟨j+1,by omega,by go_num,ap,E.drop 0⟩
 case measure=>exact zM):=h
section
open Go.RowKit Wd
def KL (ways:Int) (A:Option Addr) (n c:Nat) (S:List Cs) (C:List (List Wy)) (cf:Cf) (Al:Option Addr) (cl:Nat) (At:Option Addr) (ct:Nat) (w:World) (hr:bT w w.heap.size A n c S) (hC:aZ S=C) (hR:bj ways C) (j1:fX C) :Ca 54 #[.agg #[I ways,.slice A n c],.agg (dV cf Al cl At ct).toArray] w (RB w (.bool (pK ways C cf))):=by
 have hn:C.length=n:=by rw [<- hC,jN];exact hr.slen
 have E:=St.start w [ab 1 A n c (cj S),cR S] (zC hr.1 (zC hr.2 zN));have HR:=V (λ(W:World) (h:bT W W.heap.size A n c S)=>(pm (by rw [<- hC] at j1;exact j1.sok) (tm (by rw [hC];exact hR)):vf 120 ways A n c S true) W h)
 have hE:Hid (pK ways C cf=(decide ((n:Int)=cf.sets) && decide (ways=cf.ways))):=V (by
  unfold pK
  rw [qw.2 hR,hn,kb])
 obtain ⟨b1,aJ⟩:∃ b1,decide ((n:Int)=cf.sets)=b1:=⟨_,rfl⟩;obtain ⟨b2,hb2⟩:∃ b2,decide (ways=cf.ways)=b2:=⟨_,rfl⟩;rw [aJ,hb2] at hE;replace aJ:=V aJ;replace hb2:=V hb2;clear hr hC hR j1 hn;cases b1
 .go_enter func54,ntmps54
  exact Kt
 .go_enter func54,ntmps54
  exact Kt
def i5g {a b:ByteArray} (h:a.toList=b.toList):a=b:=by
 rw [ByteArray.toList_eq,ByteArray.toList_eq] at h;obtain ⟨⟨x⟩⟩:=a;obtain ⟨⟨y⟩⟩:=b;simpa using h
def NJ {α:Type} {p:α->Bool} {q:List α} {j:Nat} {e:α} (he:q[j]?=some e) (hp:p e=false):q.all p=false:=by
 rw [List.all_eq_false];exact ⟨e,aQ he,by rw [hp];decide⟩
def JZ {α:Type} {p:α->Bool} {q:List α} (h:∀ f∈q,p f=true):q.all p=true:=uS.2 h
def IT {α:Type}{p:α->Prop}{q:List α}{k}{e:α}(h:∀ f∈q.take k,p f)(he:q[k]?=some e)(hp:p e):∀ f∈q.take (k+1),p f:=by
 obtain ⟨hl,hk⟩:=aK.1 he;intro f hf;rw [iE hl,hk] at hf;rcases dv.1 hf with hf|hf
 .exact h f hf
 .obtain rfl:=dm.1 hf
  exact hp
def memRight_any (n a:Nat) (k:Int) (w:World) (hn:n<=9223372036854775807) (ha:a<4294967296) (hk:0<=k/\k<=9223372036854775807) :Ca 56 #[I (n:Int),U (a:Int),I k] w (RB w (.bool (dc n a k))):=by
 have hr:dc n a k=Me.right n a k:=by
  rw [oT,Me.right_iff];simp [dc]
 rw [hr];refine (Me.memRight_any n a k w hn ha O).mono ?_;rintro e w' ⟨rfl,d,rfl⟩;exact ⟨rfl,af.drewN _ d⟩
def Rr {k s B}(hk:KOk B k)(hd:aZ s.dS=k.data)(hw:aZ s.wS=k.words)(cW:s.feO=false)(aD:s.stO=false)(aF:s.reO=false)(w)(hD:∀ d∈ab 17 s.robA k.rob.length s.robC (ens k.rob)::kD k s,d.ok w):Ca 29 #[.agg (ao k s).toArray] w (RB w (.bool (kT k))):=by
 have E:=St.start w (ab 17 s.robA k.rob.length s.robC (ens k.rob)::kD k s) hD;have Zy:=V (λ(W:World) (h:Rd W W.heap.size 1 s.latA k.conf.lat.length s.latC (aE k.conf.lat))=>Wk k.conf s.latA s.latC s.tapeA s.tapeC W hk.conf h);have A0:=λ(W:World) (h:Rd W W.heap.size 17 s.robA k.rob.length s.robC (ens k.rob)) (h2:Rd W W.heap.size 1 (some ⟨0,0,none⟩) 49 49 (ai ci))=>G0 s.robA k.rob.length s.robC k.rob W h hk.rob (by have:=hk.roblen;omega) h2
 have G:=λ(W:World) (h:bT W W.heap.size s.dA k.data.length s.dC s.dS)=>KL k.dways s.dA k.data.length s.dC s.dS k.data k.conf s.latA s.latC s.tapeA s.tapeC W h hd hk.data hk.dok
 have lO:=λ(W:World) (h:bT W W.heap.size s.wA k.words.length s.wC s.wS)=>KL k.wways s.wA k.words.length s.wC s.wS k.words k.conf s.latA s.latC s.tapeA s.tapeC W h hw hk.words hk.wok
 have H:=hk.guess;simp only [ky,fi,iA] at H;have Ss:=V (λW=>show Ca 55 #[.agg #[.slice s.slA k.guess.slots.length s.slC,U (k.guess.hist:Int),.slice s.rtA k.guess.rets.length s.rtC]] W _ from by rw [H.1];exact ym s.slA s.rtA s.slC k.guess.hist k.guess.rets.length s.rtC W H.2.1 H.2.2);have oX:=λW=>Me.Clean_any k.mem W (by have:=hk.mem;omega)
 have hE:kT k=(decide (bl k.mem=Me.cleanL (bl k.mem)) && (mj k.rob && decide ((k.rob.length:Int)<=k.conf.rob)) && k.rob.all (λe=>decide (e.no<k.next)) &&
  (pK k.dways k.data k.conf && pK k.wways k.words k.conf) && (decide ((k.fetched.length:Int)<=k.conf.queue) && decide ((k.stores.length:Int)<=k.conf.stores)) && k.stores.all (λp=>dc k.mem.size p.addr p.data.size)):=by
  unfold kT;rw [hk.conf,cU hk.plen,hk.guess];simp only [kb,pG,Bool.and_assoc]
 have aH:=V (show decide ((64:Int)<(k.prog.length:Int))=false from dg (by have:=hk.plen;omega));obtain ⟨U',D⟩:∃ U':ByteArray,(⟨(Me.cleanL k.mem.data.toList).toArray⟩:ByteArray)=U':=⟨_,rfl⟩;have L:k.mem=U'↔bl k.mem=Me.cleanL (bl k.mem):=by
  rw [<- D];constructor
  .intro h
   conv=>lhs;rw [h]
   rfl
  .intro h
   have:k.mem=⟨k.mem.data⟩:=rfl;rw [this];congr 1;have h2:k.mem.data.toList=Me.cleanL k.mem.data.toList:=h;rw [<- h2]
 rw [D] at oX;obtain ⟨bq,R⟩:∃ b,mj k.rob=b:=⟨_,rfl⟩;obtain ⟨br,ac⟩:∃ b,decide (k.conf.rob<(k.rob.length:Int))=b:=⟨_,rfl⟩;obtain ⟨bd,ad⟩:∃ b,pK k.dways k.data k.conf=b:=⟨_,rfl⟩;obtain ⟨bw,lz⟩:∃ b,pK k.wways k.words k.conf=b:=⟨_,rfl⟩;obtain ⟨be,hbe⟩:∃ b,decide (k.conf.queue<(k.fetched.length:Int))=b:=⟨_,rfl⟩;obtain ⟨bs,ak⟩:∃ b,decide (k.conf.stores<(k.stores.length:Int))=b:=⟨_,rfl⟩;have n1:decide ((k.rob.length:Int)<=k.conf.rob) = !br:=by rw [<- ac];by_cases h:k.conf.rob<(k.rob.length:Int) <;> simp [h] <;> omega
 have n2:decide ((k.fetched.length:Int)<=k.conf.queue) = !be:=by rw [<- hbe];by_cases h:k.conf.queue<(k.fetched.length:Int) <;> simp [h] <;> omega
 have n3:decide ((k.stores.length:Int)<=k.conf.stores) = !bs:=by rw [<- ak];by_cases h:k.conf.stores<(k.stores.length:Int) <;> simp [h] <;> omega
 rw [R,n1,ad,lz,n2,n3] at hE;rw [R] at A0;rw [ad] at G;rw [lz] at lO;replace A0:=V A0;replace G:=V G;replace lO:=V lO;replace ac:=V ac;replace hbe:=V hbe;replace ak:=V ak;replace oX:=V oX;have aI:=hk.roblen;have aP:=hk.stlen;have aR:=hk.mem;clear n1 n2 n3 R ad lz D H;simp only [kD,cW,aD,aF,bO,zL] at E;go_enter func29,ntmps29;go_upto_region 1 with ((try refine zs ?_);(first|(refine Uc ?_;clear E;intro g1 J E)|refine nB ?_|(refine bJ ?_;clear E;intro Z J E)|(refine aq ?_;clear E;intro vN J E)));obtain ⟨gK,rfl⟩:=E.names1;by_cases hm:k.mem=U'
 .rw [<- hm] at oX
  rw [cU (L.1 hm),kb] at hE;clear hm L;refine bA aj E _ _ (λ_ h=>h) (λ_ h=>h) ?_;clear E;intro E z;refine az 0 z ?_;refine dx 1 z ?_;refine aB 2 (λK X=>?_);go_wp2_with ((first|go_big_skip|(refine yV ?_;clear E;intro J E)));have z:=aO z E;refine X.out _ _ z ?_;clear X;refine zs ?_;refine zp 3 z ?_;refine an 4 z ?_;refine cP 5 z ?_;refine jl 6 z ?_;refine oC 7 z ?_
  first|(refine eu (i:=8) F (MT F F F) z ?_;refine zs ?_)|refine zp 8 z ?_
  refine zp 9 z ?_;refine an 10 z ?_;refine cP 11 z ?_;refine jl 12 z ?_;refine cP 13 z ?_;refine jl 14 z ?_;refine aB 15 (λK X=>?_);go_wp2_with ((first|go_big_skip|(refine yV ?_;clear E;intro J E)));have z:=aO z E;refine X.out _ _ z ?_;clear X;refine zs ?_
  first|(refine eu (i:=16) F (y_neqH F F F) z ?_;refine zs ?_)|refine zp 16 z ?_
  refine zp 17 z ?_;refine bt ?_
  (skip)
  cases bq
  .have hR:=V (show kT k=false by rw [hE];simp)
   exact tV
  cases br
  rotate_left
  .have hR:=V (show kT k=false by rw [hE];simp)
   exact tV
  simp only [Bool.not_false,kb] at hE;go_wp2_with ((try refine zs ?_);(first|go_big_skip|refine zG ?_|(refine yh ?_;clear E;intro Z J E)|(go_at_call 54;(first|(have D:=G.out _ E.rds;(with_reducible refine D.mono ?_))|(have D:=lO.out _ E.rds;(with_reducible refine D.mono ?_)));clear D;rintro x J ⟨rfl,hb⟩;replace E:=E.grow hb;clear hb)|(refine aq ?_;clear E;intro vN J E)));go_loopw [41] (λi wr=>∃ j:Nat,j<=k.rob.length/\i = I (j:Int)/\Hid (∀ f∈k.rob.take j,decide (f.no<k.next)=true)/\St w [ab 17 s.robA k.rob.length s.robC (ens k.rob),ab 1 s.latA k.conf.lat.length s.latC (aE k.conf.lat),ab 1 s.tapeA k.conf.tape.length s.tapeC (ai k.conf.tape),ab 1 s.progA k.prog.length s.progC (ai k.prog),ab 2 s.feA k.fetched.length s.feC (jF k.fetched),ab 2 s.stA k.stores.length s.stC (bD k.stores),ab 1 s.dA k.data.length s.dC (cj s.dS),cR s.dS,ab 1 s.wA k.words.length s.wC (cj s.wS),cR s.wS,ab 4 s.busA k.bus.length s.busC (bg k.bus),ab 2 s.slA k.guess.slots.length s.slC (eQ k.guess.slots),ab 1 s.rtA k.guess.rets.length s.rtC (ai k.guess.rets),ab 9 s.reA k.retired.length s.reC (gU k.retired),eG] wr [.blk gK 42 (ao k s)] [ab 17 s.robA k.rob.length s.robC (ens k.rob),ab 1 s.latA k.conf.lat.length s.latC (aE k.conf.lat),ab 1 s.tapeA k.conf.tape.length s.tapeC (ai k.conf.tape),ab 1 s.progA k.prog.length s.progC (ai k.prog),ab 2 s.feA k.fetched.length s.feC (jF k.fetched),ab 2 s.stA k.stores.length s.stC (bD k.stores),ab 1 s.dA k.data.length s.dC (cj s.dS),cR s.dS,ab 1 s.wA k.words.length s.wC (cj s.wS),cR s.wS,ab 4 s.busA k.bus.length s.busC (bg k.bus),ab 2 s.slA k.guess.slots.length s.slC (eQ k.guess.slots),ab 1 s.rtA k.guess.rets.length s.rtC (ai k.guess.rets),ab 9 s.reA k.retired.length s.reC (gU k.retired),eG]) (λi _=>k.rob.length - (intOf i).toNat);case atStart=>exact ⟨0,by omega,rfl,V (λf hf=>by simp at hf),E⟩
  case round=>
   clear E;obtain ⟨j,hj,rfl,gV,E⟩:=hrel;by_cases al:j<k.rob.length
   .obtain ⟨e,hu⟩:∃ e,k.rob[j]?=some e:=⟨_,ba al⟩
    by_cases iz:e.no<k.next
    .have hb:=V (show decide (k.next<=e.no)=false from dg O)
     have ap:=V (IT gV.out hu (cU iz));clear iz gV hE;go_wp2_with ((try refine zs ?_);(first|go_big_skip|refine FA ?_|(refine ND ?_;clear E;intro Z J E)|(refine aq ?_;clear E;intro vN J E)));exact JF
    .have hb:=V (show decide (k.next<=e.no)=true from cU O)
     have hR:=V (show kT k=false by rw [hE,NJ hu (dg iz)];simp);clear iz gV hE;go_wp2_with ((try refine zs ?_);(first|go_big_skip|refine FA ?_|(refine ND ?_;clear E;intro Z J E)|(refine aq ?_;clear E;intro vN J E)));go_ret;exact ⟨by rw [hR.out];(try rfl),E.bel⟩
   .obtain rfl:j=k.rob.length:=by omega
    rw [JZ (q:=k.rob) Ed,kb] at hE;clear gV;cases bd
    .have hR:=V (show kT k=false by rw [hE];simp)
     exact tV
    cases bw
    .have hR:=V (show kT k=false by rw [hE];simp)
     exact tV
    cases be
    rotate_left
    .have hR:=V (show kT k=false by rw [hE];simp)
     exact tV
    cases bs
    rotate_left
    .have hR:=V (show kT k=false by rw [hE];simp)
     exact tV
    simp only [Bool.not_false,kb] at hE;go_wp2_with ((try refine zs ?_);(first|go_big_skip|refine zG ?_|(refine yh ?_;clear E;intro Z J E)|(go_at_call 54;(first|(have D:=G.out _ E.rds;(with_reducible refine D.mono ?_))|(have D:=lO.out _ E.rds;(with_reducible refine D.mono ?_)));clear D;rintro x J ⟨rfl,hb⟩;replace E:=E.grow hb;clear hb)|(refine aq ?_;clear E;intro vN J E)));go_loopw [90] (λi wr=>∃ j:Nat,j<=k.stores.length/\i = I (j:Int)/\Hid (∀ f∈k.stores.take j,dc k.mem.size f.addr f.data.size=true)/\St w [ab 17 s.robA k.rob.length s.robC (ens k.rob),ab 1 s.latA k.conf.lat.length s.latC (aE k.conf.lat),ab 1 s.tapeA k.conf.tape.length s.tapeC (ai k.conf.tape),ab 1 s.progA k.prog.length s.progC (ai k.prog),ab 2 s.feA k.fetched.length s.feC (jF k.fetched),ab 2 s.stA k.stores.length s.stC (bD k.stores),ab 1 s.dA k.data.length s.dC (cj s.dS),cR s.dS,ab 1 s.wA k.words.length s.wC (cj s.wS),cR s.wS,ab 4 s.busA k.bus.length s.busC (bg k.bus),ab 2 s.slA k.guess.slots.length s.slC (eQ k.guess.slots),ab 1 s.rtA k.guess.rets.length s.rtC (ai k.guess.rets),ab 9 s.reA k.retired.length s.reC (gU k.retired),eG] wr [.blk gK 42 (ao k s)] [ab 17 s.robA k.rob.length s.robC (ens k.rob),ab 1 s.latA k.conf.lat.length s.latC (aE k.conf.lat),ab 1 s.tapeA k.conf.tape.length s.tapeC (ai k.conf.tape),ab 1 s.progA k.prog.length s.progC (ai k.prog),ab 2 s.feA k.fetched.length s.feC (jF k.fetched),ab 2 s.stA k.stores.length s.stC (bD k.stores),ab 1 s.dA k.data.length s.dC (cj s.dS),cR s.dS,ab 1 s.wA k.words.length s.wC (cj s.wS),cR s.wS,ab 4 s.busA k.bus.length s.busC (bg k.bus),ab 2 s.slA k.guess.slots.length s.slC (eQ k.guess.slots),ab 1 s.rtA k.guess.rets.length s.rtC (ai k.guess.rets),ab 9 s.reA k.retired.length s.reC (gU k.retired),eG]) (λi _=>k.stores.length - (intOf i).toNat);case atStart=>exact ⟨0,by omega,rfl,V (λf hf=>by simp at hf),E⟩
    case round=>
     clear E;obtain ⟨j,hj,rfl,gV,E⟩:=hrel;by_cases al:j<k.stores.length
     .obtain ⟨p,hu⟩:∃ p,k.stores[j]?=some p:=⟨_,ba al⟩
      have av:=hk.st p (aQ hu);have xO:=λW=>memRight_any k.mem.size p.addr p.data.size W O av.1 O
      have hal:=λh=>NJ (p:=λp:Pu=>dc k.mem.size p.addr p.data.size) hu h
      have Q:=λh=>IT gV.out hu h
      obtain ⟨bm,aw⟩:∃ b,dc k.mem.size p.addr p.data.size=b:=⟨_,rfl⟩;rw [aw] at xO hal Q;obtain ⟨pa,pd⟩:=p;replace xO:=V xO;clear aw av gV;dsimp only at xO;cases bm
      .have hR:=V (show kT k=false by rw [hE,hal F])
       clear hE hal Q;exact JK
      .have ap:=V (Q F)
       clear hE hal Q;go_wp2_with ((try refine zs ?_);(first|go_big_skip|refine ME ?_|(refine LA ?_;clear E;intro Z J E)|(refine aq ?_;clear E;intro vN J E)));exact JF
     .obtain rfl:j=k.stores.length:=by omega
      have hR:=V (show kT k=true by rw [hE];exact JZ Ed);clear hE gV;exact JK
 .have hR:=V (show kT k=false by rw [hE,dg (λh=>hm (L.2 h))];simp)
  have hne:(k.mem.toList == U'.toList)=false:=pI.2 (λh=>hm (i5g h));clear hE L;refine bA aj E _ _ (λ_ h=>h) (λ_ h=>h) ?_;clear E;intro E z;refine az 0 z ?_;refine dx 1 z ?_;refine aB 2 (λK X=>?_);go_wp2_with ((first|go_big_skip|(refine yV ?_;clear E;intro J E)));have z:=aO z E;refine X.out _ _ z ?_;clear X;refine zs ?_;refine zp 3 z ?_;refine an 4 z ?_;refine cP 5 z ?_;refine jl 6 z ?_;refine oC 7 z ?_
  first|(refine eu (i:=8) F (MT F F F) z ?_;refine zs ?_)|refine zp 8 z ?_
  refine zp 9 z ?_;refine an 10 z ?_;refine cP 11 z ?_;refine jl 12 z ?_;refine cP 13 z ?_;refine jl 14 z ?_;refine aB 15 (λK X=>?_);go_wp2_with ((first|go_big_skip|(refine yV ?_;clear E;intro J E)));have z:=aO z E;refine X.out _ _ z ?_;clear X;refine zs ?_
  first|(refine eu (i:=16) F (y_neqH F F F) z ?_;refine zs ?_)|refine zp 16 z ?_
  refine zp 17 z ?_;refine bt ?_
  (skip)
  (go_wp2_with ((try refine zs ?_);(first|go_big_skip|refine zG ?_|(refine yh ?_;clear E;intro Z J E)|(go_at_call 54;(first|(have D:=G.out _ E.rds;(with_reducible refine D.mono ?_))|(have D:=lO.out _ E.rds;(with_reducible refine D.mono ?_)));clear D;rintro x J ⟨rfl,hb⟩;replace E:=E.grow hb;clear hb)|(refine aq ?_;clear E;intro vN J E)));go_ret;exact ⟨by rw [hR.out];(try rfl),E.bel⟩)
end
end Go.Proofs.YtgnomadgnciifaaGreatDoor
