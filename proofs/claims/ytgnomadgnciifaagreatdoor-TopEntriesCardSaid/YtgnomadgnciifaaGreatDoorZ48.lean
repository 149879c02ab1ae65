/- . -/
import Derived.Test.YtgnomadgnciifaaGreatDoorZ47
set_option linter.all false
set_option maxRecDepth 100000
set_option maxHeartbeats 16000000
namespace Go.Proofs.YtgnomadgnciifaaGreatDoor
open Go.Proofs.Tryz
section
open Go.RowKit Wd
def tt : List Value:=[I 0,I 0,I 0,I 0,I 0,I 0,I 0,I 0,.slice none 0 0,.bool false,.slice none 0 0,.slice none 0 0,I 0,U 0,U 0,U 0,U 0,U 0,U 0,U 0,U 0,U 0,U 0,U 0,U 0,U 0,U 0,U 0,U 0,U 0,U 0,U 0,U 0,U 0,U 0,U 0,U 0,U 0,U 0,U 0,U 0,U 0,U 0,U 0,U 0,U 0,.bool false,.slice none 0 0,.slice none 0 0,I 0,.slice none 0 0,I 0,.slice none 0 0,I 0,.slice none 0 0,.slice none 0 0,I 0,I 0,.string ⟨#[]⟩,.slice none 0 0,U 0,.slice none 0 0,I 0,.slice none 0 0]
def nb : List Value:=[.func (.func 31) #[] #[],.func (.func 32) #[] #[],.func (.func 33) #[] #[],.func (.func 34) #[] #[],.func (.func 35) #[] #[],.func (.func 36) #[] #[],.func (.func 37) #[] #[]]
def Jw : cO Tryz.prog 84 7:=⟨_,underlying84,rfl,by kernel_rfl⟩
def Z0 : yT Tryz.prog 84 [.nilFunc,.nilFunc,.nilFunc,.nilFunc,.nilFunc,.nilFunc,.nilFunc]:=⟨.agg #[.nilFunc,.nilFunc,.nilFunc,.nilFunc,.nilFunc,.nilFunc,.nilFunc],by kernel_rfl,rfl⟩
def XQ : ∀ u∈nb,u.oneCell'=true:=by decide
def Mf {k s B}(hk:KOk B k)(hB:B+21<=1000000)(hL:aP (λe=>l9 e.left) k.rob)(i8:qZ k s)(w)(hD:∀ d∈kt k s,d.ok w):Ca 9 #[.agg (ao k s).toArray] w (sP w (kt k s) (fB k)):=by
 have E:=St.start w (kt k s) hD;have HR:=λ(W:World) (h:∀ d∈kt k s,d.ok W)=>Rr hk i8.data i8.words i8.feO i8.stO i8.reO W h
 cases hr:kT k with
 | false=>
  rw [hr] at HR;have G:fB k=k:=by unfold fB;rw [Y (by rw [hr];decide)]
  replace HR:=V HR;rw [G];go_enter func9,ntmps9;go_wp2_with ((try refine zs ?_);(first|go_big_skip|(go_at_call 29;refine E.cB (HR.out _ (λd hd=>E.dat d hd)) ?_;clear E;intro J E)|(refine Lb ?_;clear E;intro gK J E)|(refine xZ ?_;clear E;intro gR J E)|refine Ou ?_|(refine VH ?_;clear E;intro J E)));((try simp only [Exit.inBlock,Exit.then]);refine bc (eL F E) F ?_);exact ⟨s,i8,rfl,E.out (λd h=>h)⟩
 | true=>
  rw [hr] at HR;replace HR:=V HR;go_enter func9,ntmps9;have L:=hk.cyc;have Q:=hk.bound;go_wp2_with ((try refine zs ?_);(first|go_big_skip|(go_at_call 29;refine E.cB (HR.out _ (λd hd=>E.dat d hd)) ?_;clear E;intro J E)|(go_at_call 30;refine (Sz (s:=s) hk i8.feO i8.stO i8.reO (E.lessD (D':=ab 17 s.robA k.rob.length s.robC (ens k.rob)::(kD k s++[])) (by intro d hd;rw [rK] at hd;exact hd))).mono ?_;rintro x J ⟨⟨y,rfl⟩,A1,c1,hc1,H,ia⟩;clear E;have E:=ia;clear ia;(try simp only [zF] at E))|(refine Lb ?_;clear E;intro gK J E)|(refine xZ ?_;clear E;intro gR J E)|(refine g4a ?_;clear E;intro gM J E)|refine Uu ?_|(refine Sk ?_;clear E;intro J E)|(refine Wr ?_;clear E;intro gA J E)));obtain ⟨k0,D⟩:∃ k0:ak,{ k with cycle:=k.cycle+1 }=k0:=⟨_,rfl⟩;have R:KOk (B+1) k0:=by
   have hu:=hk.up (B':=B+1) O O;rw [<- D];exact { hu with cyc:=⟨by show 0<=k.cycle+1;omega,by show k.cycle+1<=B+1;omega⟩ }
  have ac:aP (λe=>l9 e.left) k0.rob:=by rw [<- D];exact hL
  have G:fB k=ow k0 7:=by unfold fB;rw [aa hr,D];rfl
  replace E:=E.drop 0;have z:MX w (kt k s) [] [.blk gR 42 tt,.blk gK 42 (ao k s)] gM (ow k0 0) (A8 0) (zI 0) J:=by
   have e:(ao k (uO k s A1 c1)).set 12 (I (k.cycle+1))=ao k0 (uO k s A1 c1):=by rw [ML,D]
   subst D;refine MX.mk (uO k s A1 c1) ⟨i8.data,i8.words,hc1,H,i8.feO,i8.stO,i8.reO⟩ (λ_=>rfl) (λ_=>⟨rfl,rfl⟩) ⟨?_⟩;rw [ML] at E;exact E
  clear E hc1 H L Q;go_loopw [22] (λi wr=>∃ j:Nat,j<=7/\i = I (j:Int)/\MX w (kt k s) [] [.blk gR 42 tt,.blk gK 42 (ao k s)] gM (ow k0 j) (A8 j) (zI j) wr) (λi _=>7 - (intOf i).toNat);case atStart=>exact ⟨0,by omega,rfl,z⟩
  case round=>
   clear z;obtain ⟨j,hj,rfl,z⟩:=hrel;by_cases ad:j<7
   .have ij:=i6j R O ac j O z
    clear z;rcases (show j=0\/j=1\/j=2\/j=3\/j=4\/j=5\/j=6 by omega) with rfl|rfl|rfl|rfl|rfl|rfl|rfl
    .replace ij:=V ij
     go_wp2_with ((first|((refine rZ (cs:=nb) (t:=84) (e:=82) (n:=7) F F F underlying84 ⟨_,underlying82,by simp,by simp⟩ aj ?_);refine zs ?_)|(go_at_call 31;refine ij.out.mono ?_;rintro x J ⟨⟨y1,rfl⟩,z⟩)));go_roundw;case rel=>exact ⟨0+1,by omega,by go_num,z⟩
     case measure=>exact zM
    .replace ij:=V ij
     go_wp2_with ((first|((refine rZ (cs:=nb) (t:=84) (e:=82) (n:=7) F F F underlying84 ⟨_,underlying82,by simp,by simp⟩ aj ?_);refine zs ?_)|(go_at_call 32;refine ij.out.mono ?_;rintro x J ⟨⟨y1,rfl⟩,z⟩)));go_roundw;case rel=>exact ⟨1+1,by omega,by go_num,z⟩
     case measure=>exact zM
    .replace ij:=V ij
     go_wp2_with ((first|((refine rZ (cs:=nb) (t:=84) (e:=82) (n:=7) F F F underlying84 ⟨_,underlying82,by simp,by simp⟩ aj ?_);refine zs ?_)|(go_at_call 33;refine ij.out.mono ?_;rintro x J ⟨⟨y1,rfl⟩,z⟩)));go_roundw;case rel=>exact ⟨2+1,by omega,by go_num,z⟩
     case measure=>exact zM
    .replace ij:=V ij
     go_wp2_with ((first|((refine rZ (cs:=nb) (t:=84) (e:=82) (n:=7) F F F underlying84 ⟨_,underlying82,by simp,by simp⟩ aj ?_);refine zs ?_)|(go_at_call 34;refine ij.out.mono ?_;rintro x J ⟨⟨y1,rfl⟩,z⟩)));go_roundw;case rel=>exact ⟨3+1,by omega,by go_num,z⟩
     case measure=>exact zM
    .replace ij:=V ij
     go_wp2_with ((first|((refine rZ (cs:=nb) (t:=84) (e:=82) (n:=7) F F F underlying84 ⟨_,underlying82,by simp,by simp⟩ aj ?_);refine zs ?_)|(go_at_call 35;refine ij.out.mono ?_;rintro x J ⟨⟨y1,rfl⟩,z⟩)));go_roundw;case rel=>exact ⟨4+1,by omega,by go_num,z⟩
     case measure=>exact zM
    .replace ij:=V ij
     go_wp2_with ((first|((refine rZ (cs:=nb) (t:=84) (e:=82) (n:=7) F F F underlying84 ⟨_,underlying82,by simp,by simp⟩ aj ?_);refine zs ?_)|(go_at_call 36;refine ij.out.mono ?_;rintro x J ⟨⟨y1,rfl⟩,z⟩)));go_roundw;case rel=>exact ⟨5+1,by omega,by go_num,z⟩
     case measure=>exact zM
    .replace ij:=V ij
     go_wp2_with ((first|((refine rZ (cs:=nb) (t:=84) (e:=82) (n:=7) F F F underlying84 ⟨_,underlying82,by simp,by simp⟩ aj ?_);refine zs ?_)|(go_at_call 37;refine ij.out.mono ?_;rintro x J ⟨⟨y1,rfl⟩,z⟩)));go_roundw;case rel=>exact ⟨6+1,by omega,by go_num,z⟩
     case measure=>exact zM
   .obtain rfl:j=7:=by omega
    obtain ⟨s7,C,-,-,⟨E⟩⟩:=z;go_wp2_with ((try refine zs ?_);(first|refine Qf ?_|(refine QN ?_;clear E;intro J E)));((try simp only [Exit.inBlock,Exit.then]);refine bc (eL F E) F ?_);have ic:=E.rowData (i:=1) F (sz:=17) (n:=(ow k0 7).rob.length) (c:=s7.robC) (by rw [kA]) ag C.robC C.robM;rw [G];refine sP.mk s7 ⟨C.data,C.words,C.feO,C.stO,C.reO⟩ F (ic.out (λd hd=>?_));rw [rK];exact hd
end
end Go.Proofs.YtgnomadgnciifaaGreatDoor
namespace Go.Proofs.YtgnomadgnciifaaGreatDoor
open Go.Proofs.Tryz
def Vu {p:Prop} (h:p:=by
 go_roundw;case rel=>exact ⟨j+1,by omega,by go_num,s2,j5,E⟩
 case measure=>exact zM):p:=h
section
open Go.RowKit Wd
def uH : ∀ (n:Nat) (k:ak),runK (n+1) k=fB (runK n k)
 | 0,k=>rfl
 | n+1,k=>by
  show runK (n+1) (fB k)=fB (runK n (fB k));exact uH n (fB k)
structure vk (k:ak) (j:Nat):Prop where
 ok:KOk (1+20 * (j:Int)) (runK j k)
 left:aP (λe=>l9 e.left) (runK j k).rob
def vk.next {k j}(h:vk k j)(hj:j<2000):vk k (j+1):=by
 refine ⟨?_,?_⟩
 .rw [uH]
  have:=h.ok.step O;have e:(1:Int)+20 * ((j+1:Nat):Int)=1+20 * (j:Int)+20:=by omega
  rw [e];exact this
 .rw [uH]
  exact h.left.step Hw
def BQ {c prog m}(ht:∀ x∈c.tape,x<4294967296)(hp:∀ x∈prog,x<4294967296):∀ j,j<=2000->vk (gm c prog m) j
 | 0,_=>⟨LZ ht hp,λe h=>fK⟩
 | j+1,hj=>(BQ ht hp j O).next O
def XL {w0 w D0 M k s j}(C:vk k j)(hj:j<2000)(i8:qZ (runK j k) s)(E:St w0 D0 w M (kt (runK j k) s)):Ca 9 #[.agg (ao (runK j k) s).toArray] w λx w'=>∃ s',qZ (runK (j+1) k) s'/\x = .returned (.agg (ao (runK (j+1) k) s').toArray)/\St w0 D0 w' M (kt (runK (j+1) k) s'):=by
 refine (Mf C.ok O C.left i8 w (λd hd=>E.dat d hd)).mono ?_;rintro x w' ⟨s',L,rfl,z⟩;rw [<- uH] at L z ⊢;exact ⟨s',L,rfl,(E.call z (λ_ h=>h)).lessD (λd hd=>rz _ hd)⟩
def i6o (c:Cf) (Al:Option Addr) (cl:Nat) (At:Option Addr) (ct:Nat) (prog:List Nat) (Ap:Option Addr) (cp:Nat) (m:ByteArray) (n:Int) (w:World) (hl:Rd w w.heap.size 1 Al c.lat.length cl (aE c.lat)) (ht:Rd w w.heap.size 1 At c.tape.length ct (ai c.tape))(hp:Rd w w.heap.size 1 Ap prog.length cp (ai prog)) (D:Rd w w.heap.size 1 (some ⟨0,0,none⟩) 49 49 (ai ci)) (hm:m.size<=9223372036854775807) (htt:∀ x∈c.tape,x<4294967296) (R:∀ x∈prog,x<4294967296) :Ca 21 #[.agg (dV c Al cl At ct).toArray,.slice Ap prog.length cp,.string m,I n] w (sP w [ab 1 Al c.lat.length cl (aE c.lat),ab 1 At c.tape.length ct (ai c.tape),ab 1 Ap prog.length cp (ai prog),eG] (runK (min n 2000).toNat (gm c prog m))):=by
 have E:=St.start w [ab 1 Al c.lat.length cl (aE c.lat),ab 1 At c.tape.length ct (ai c.tape),ab 1 Ap prog.length cp (ai prog),eG] (zC hl (zC ht (zC hp (zC D zN))));have HN:=V (λ(W:World) h1 h2 h3 h4=>Ik c Al cl At ct prog Ap cp m W h1 h2 h3 h4 hm);have HI:=V (λj hj=>BQ (c:=c) (prog:=prog) (m:=m) htt R j hj);obtain ⟨N,hN,ad⟩:∃ N:Int,Hid (N=if (2000:Int)<n then 2000 else n)/\Hid (min n 2000=N):=⟨min n 2000,V ox,V F⟩;have mg:N<=2000:=by have:=hN.out;split at this <;> omega
 rw [ad.out];clear hl ht hp D htt R ad;go_enter func21,ntmps21;go_wp2_with ((try refine zs ?_);(first|go_big_skip|(go_at_call 8;refine (HN.out _ E.rdA E.rdA E.rdA E.rdA).mono ?_;rintro x J ⟨s1,ie,rfl,z⟩;replace E:=(E.call z (λ_ h=>h)).lessD (D':=kt (runK 0 (gm c prog m)) s1) (λd hd=>rz _ hd);clear z)|(refine gj F E F ?_;clear E;intro gZ J E)|(refine g4i ?_;clear E;intro Z J E)|(have hz:=ie;clear hz;refine bK (ty:=42) (cs:=tt) F E ?_;clear E;intro gX J E)|(refine xZ ?_;clear E;intro gR J E)|refine Rk ?_));obtain ⟨k0,G⟩:∃ k0,gm c prog m=k0:=⟨_,rfl⟩;rw [G] at E ie HI;replace G:=V G;clear HN;go_loopw [16] (λi wr=>∃ j:Nat,j<=N.toNat/\i = I (j:Int) /\ ∃ s,qZ (runK j k0) s/\St w [ab 1 Al c.lat.length cl (aE c.lat),ab 1 At c.tape.length ct (ai c.tape),ab 1 Ap prog.length cp (ai prog),eG] wr [.blk gX 42 (ao (runK j k0) s),.blk gR 42 tt,.blk gZ 25 (dV c Al cl At ct)] (kt (runK j k0) s)) (λi _=>N.toNat - (intOf i).toNat);case atStart=>exact ⟨0,by omega,rfl,s1,ie,E⟩
 case round=>
  clear E ie;obtain ⟨j,hj,rfl,s,i8,E⟩:=hrel;by_cases al:(j:Int)<N
  .have C:=HI.out j O
   go_wp2_with ((try refine zs ?_);(first|go_big_skip|(go_at_call 9;refine (XL C O i8 E).mono ?_;rintro x J ⟨s2,j5,rfl,ic⟩;clear E;have E:=ic;clear ic)|refine Mh ?_|(refine Q' ?_;clear E;intro J E)));exact Vu
  .have H:j=N.toNat:=by omega
   replace H:=V H;go_wp2_with ((try refine zs ?_);(first|go_big_skip|refine Mh ?_|(refine P0 ?_;clear E;intro J E)));((try simp only [Exit.inBlock,Exit.then]);refine bc (eL F E) F ?_);rw [<- H.out,G.out];exact sP.mk s i8 F (E.out (λd h=>h))
def D3 : Cf:=⟨0,0,0,0,0,0,0,0,[],false,[]⟩
def rn : ak:=runK 20 (gm D3 [1048691] ⟨#[]⟩)
def i6p : rn.halt=7:=by decide +kernel
def PQ : rn.retired.length=1:=by decide +kernel
def YK (w)(D:Rd w w.heap.size 1 (some ⟨0,0,none⟩) 49 49 (ai ci)):Ca 15 #[] w (RB w (.bool true)):=by
 have E:=St.start w [eG] (zC D zN);have ah:∀ {s1:em},(ao rn s1)[62]?=some (I 7):=λ{s1}=>by
  show some (Value.int .i64 rn.halt)=_;rw [i6p]
 have ar:∀ s1:em,(ao rn s1)[63]?=some (.slice s1.reA 1 s1.reC):=λs1=>by
  show some (Value.slice s1.reA rn.retired.length s1.reC)=_;rw [PQ]
 go_enter func15,ntmps15;go_wp2_with ((try refine zs ?_);(first|go_big_skip|refine g4m ?_|(refine iD F E F ?_;clear E;intro gP J E;obtain ⟨Af,cf,io,ic⟩:=E.freeze 0 aC;injection io with hfz1 _ hfz2;subst hfz1 hfz2;clear E;have E:St w [eG] J [] (ab 1 none 0 0 (aE [])::ab 1 (some ⟨gP,0,none⟩) 1 1 (ai [1048691])::[eG]):=St.nilZ ic 1;clear ic)|(go_at_call 21;refine (i6o D3 none 0 none 0 [1048691] (some ⟨gP,0,none⟩) 1 ⟨#[]⟩ 20 _ E.rdA E.rdA E.rdA E.rdA ag (by intro x hx;cases hx) ag).mono ?_;rintro x J ⟨s1,ie,rfl,z⟩;replace E:=(E.call z (by (repeat (refine eZ ?_ ?_;focus (exact au)));exact cE)).lessD (D':=kt rn s1) (λd hd=>rz _ hd);clear z)|(refine xZ ?_;clear E;intro gX J E)|(refine Xv ?_;clear E;intro J E)));go_ret;exact ⟨rfl,E.bel⟩
end
end Go.Proofs.YtgnomadgnciifaaGreatDoor
