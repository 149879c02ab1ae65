/- . -/
import Derived.Test.YtgnomadgnciifaaGreatDoorZ8
import Derived.WalkMore
set_option linter.all false
set_option maxRecDepth 100000
set_option maxHeartbeats 16000000
namespace Go.Proofs.YtgnomadgnciifaaGreatDoor
open Go.Proofs.Tryz
def Lp {p:Prop} (h:p:=by
 go_wp2_with ((try refine zs ?_);(first|refine fa ?_|(refine om ?_;clear E;intro Z J E)|(refine nu F E F ?_;clear E;intro gM J E nm hD)|(refine nY (t:=195) F E F F underlying195 ag gn ?_;intro cc D G hc1 aN;(try refine zs ?_);(try have C:decide (0<cc)=true:=by simp at hc1 aN;simp;omega);(try have C:decide (0<cc)=false:=by simp at hc1 aN;simp;omega))|(refine aq ?_;clear E;intro vN J E)))
 ((try rw [Exit.noGoto_ret]);go_ret;exact ⟨_,rfl,E.bel,by rw [<- hm.out];exact E.ownAt aC⟩)):p:=h
def Et {p:Prop} (h:p:=by
 go_enter func134,ntmps134;go_wp2;go_ret
 exact ⟨rfl,af.refl _⟩):p:=h
section
open Go.RowKit Go.Maps
def h7o (k:Int) (w:World):Ca 134 #[I k] w (RB w (I (kS k))):=by
 by_cases h2:k=2
 .subst h2
  exact Et
 by_cases h3:k=3
 .subst h3
  exact Et
 by_cases h4:k=4
 .subst h4
  exact Et
 have hu:kS k=0:=by simp [kS,h2,h3,h4]
 have b2:(k == 2)=false:=by simpa using h2
 have b3:(k == 3)=false:=by simpa using h3
 have b4:(k == 4)=false:=by simpa using h4
 rw [hu];clear h2 h3 h4 hu;go_enter func134,ntmps134;go_wp2;go_ret;exact ⟨rfl,af.refl _⟩
def PF (k:Int):kS k=0\/kS k=1\/kS k=2:=by
 unfold kS
 repeat' split
 all_goals simp
section
variable {width:Int} {kinds:List Int} {can:List Bool} {k:Nat} {n:Int} {d m:Bool}
def h7q (h:width<=n)(l):eK width kinds l k n d m=[]:=by cases l <;> simp [eK,h]
def h7r (h:¬ width<=n) (hc:can[k]?=some false):eK width kinds (can.drop k) k n d m=eK width kinds (can.drop (k+1)) (k+1) n d m:=by
 obtain ⟨hl,e⟩:=aK.1 hc;rw [mn hl,e,eK];simp [h]
def LG (h:¬ width<=n)(hc:can[k]?=some true){x}(hx:kinds[k]?=some x)(hu:(kS x=1/\d=true)\/(kS x=2/\m=true)):eK width kinds (can.drop k) k n d m=eK width kinds (can.drop (k+1)) (k+1) n d m:=by
 obtain ⟨hl,e⟩:=aK.1 hc;rw [mn hl,e,eK,hx];simp only [Y h,tn,aa hu]
 simp
def C6 (h:¬ width<=n) (hc:can[k]?=some true) {x:Int} (hx:kinds[k]?=some x) (hu:¬ ((kS x=1/\d=true)\/(kS x=2/\m=true))):eK width kinds (can.drop k) k n d m=(k:Int)::eK width kinds (can.drop (k+1)) (k+1) (n+1) (d || decide (kS x=1)) (m || decide (kS x=2)):=by
 obtain ⟨hl,e⟩:=aK.1 hc;rw [mn hl,e,eK,hx];simp only [Y h,tn,Y hu]
 simp
def ZS {l:List Bool} (h:l.length<=k):eK width kinds (l.drop k) k n d m=[]:=by rw [sW h];rfl
end
def Qj {l k x}(h:l[k]?=some x):(aE l)[k * 1]?=some (I x):=by rw [dP];exact pA h
def WU {l k x}(h:l[k]?=some x):(bls l)[k * 1]?=some (.bool x):=by rw [dP];exact UP h
def RL (width:Int) (busy:Bool) (A:Option Addr) (n c:Nat) (kinds:List Int) (A2:Option Addr) (c2:Nat) (can:List Bool) (w:World) (hr:Rd w w.heap.size 1 A n c (aE kinds)) (ac:Rd w w.heap.size 1 A2 n c2 (bls can)) (hn:n<=1000) (hw:cQ width) :Ca 76 #[I width,.bool busy,.slice A n c,.slice A2 n c2] w λe w'=>∃ v,e = .returned v/\af w w'/\w'.ownsRow w.heap.size 3 1 v (eK width kinds can 0 0 busy false).length (aE (eK width kinds can 0 0 busy false)):=by
 have E:=St.start w [ab 1 A n c (aE kinds),ab 1 A2 n c2 (bls can)] (zC hr (zC ac zN));have ak:=hr.i64slen;have al:=ac.blslen;clear hr ac;obtain ⟨L,hL⟩:∃ L,eK width kinds can 0 0 busy false=L:=⟨_,rfl⟩;rw [hL];replace hL:=V hL;replace hw:=V hw;go_enter func76,ntmps76;go_wp2_with ((try refine zs ?_);(first|refine fa ?_|(refine om ?_;clear E;intro Z J E)|(refine nu F E F ?_;clear E;intro gM J E nm hD)|(refine nY (t:=195) F E F F underlying195 ag gn ?_;intro cc D G hc1 aN;(try refine zs ?_);(try have C:decide (0<cc)=true:=by simp at hc1 aN;simp;omega);(try have C:decide (0<cc)=false:=by simp at hc1 aN;simp;omega))|(refine aq ?_;clear E;intro vN J E)));go_step3;cases busy
 all_goals
  go_upto_region 1 with ((try refine zs ?_);(first|refine fa ?_|(refine om ?_;clear E;intro Z J E)|(refine nu F E F ?_;clear E;intro gM J E nm hD)|(refine nY (t:=195) F E F F underlying195 ag gn ?_;intro cc D G hc1 aN;(try refine zs ?_);(try have C:decide (0<cc)=true:=by simp at hc1 aN;simp;omega);(try have C:decide (0<cc)=false:=by simp at hc1 aN;simp;omega))|(refine aq ?_;clear E;intro vN J E)));rename_i K0 an;refine wp_region_lit ?_;refine nu F E F ?_;clear E;intro gM J E nm hD;(try refine zs ?_);go_wp2_with ((try refine zs ?_);(first|refine fa ?_|(refine om ?_;clear E;intro Z J E)|(refine nu F E F ?_;clear E;intro gM J E nm hD)|(refine nY (t:=195) F E F F underlying195 ag gn ?_;intro cc D G hc1 aN;(try refine zs ?_);(try have C:decide (0<cc)=true:=by simp at hc1 aN;simp;omega);(try have C:decide (0<cc)=false:=by simp at hc1 aN;simp;omega))|(refine aq ?_;clear E;intro vN J E)));go_step3;go_wp2_with ((try refine zs ?_);(first|refine fa ?_|(refine om ?_;clear E;intro Z J E)|(refine nu F E F ?_;clear E;intro gM J E nm hD)|(refine nY (t:=195) F E F F underlying195 ag gn ?_;intro cc D G hc1 aN;(try refine zs ?_);(try have C:decide (0<cc)=true:=by simp at hc1 aN;simp;omega);(try have C:decide (0<cc)=false:=by simp at hc1 aN;simp;omega))|(refine aq ?_;clear E;intro vN J E)));(try simp only [ui,Bool.true_or,rc,Int.reduceEq,sM,pE,jR] at E);have E:=E.nil 3 1;go_loopw [20,10] (λix v wr=>∃ (k N m:Nat) (acc:List Int) (d mm:Bool),k<=n/\N<=k+1/\Hid (m=acc.length)/\m<=k/\ix = I (k:Int)/\Hid (acc++eK width kinds (can.drop k) k (m:Int) d mm=L)/\St w [ab 1 A n c (aE kinds),ab 1 A2 n c2 (bls can)] wr [.own v 3 1 m (aE acc)] [qQ gM N d mm,ab 1 A n c (aE kinds),ab 1 A2 n c2 (bls can)]) (λix _ _=>n - (intOf ix).toNat);case atStart=>exact ⟨0,_,0,[],_,_,by omega,by omega,V F,by omega,rfl,hL,E⟩
  case round=>
   clear E hL;obtain ⟨k,N,m,acc,d,mm,hk,hN,hm,ap,rfl,hL,E⟩:=hrel;obtain ⟨Av,cv,rfl,_,_⟩:=Rd.of_own' (E.ownAt aC);by_cases ik:k<n
   .obtain ⟨b,hb⟩:∃ b,can[k]?=some b:=⟨_,ba O⟩
    obtain ⟨x,hx⟩:∃ x,kinds[k]?=some x:=⟨_,ba O⟩;have hbe:=WU hb;have av:=Qj hx;by_cases H:width<=(m:Int)
    .have ad:decide (width<=(m:Int))=true:=by simpa using H
     have R:=hL.out;rw [h7q H,rK] at R;subst R;clear H hb hx hL;exact Lp
    .have ad:decide (width<=(m:Int))=false:=by simpa using H
     have Q:=V H;clear H;cases b
     .have z:=hL.out
      rw [h7r Q.out hb] at z;replace z:=V z;clear hb hx hL;go_wp2_with ((try refine zs ?_);(first|refine fa ?_|(refine om ?_;clear E;intro Z J E)|(refine nu F E F ?_;clear E;intro gM J E nm hD)|(refine nY (t:=195) F E F F underlying195 ag gn ?_;intro cc D G hc1 aN;(try refine zs ?_);(try have C:decide (0<cc)=true:=by simp at hc1 aN;simp;omega);(try have C:decide (0<cc)=false:=by simp at hc1 aN;simp;omega))|(refine aq ?_;clear E;intro vN J E)));go_roundw;case rel=>exact ⟨k+1,N,m,acc,d,mm,by omega,by omega,hm,by omega,by go_num,z,E⟩
      case measure=>exact zM
     .have HU:=V (λW=>h7o x W)
      obtain ⟨u,hu⟩:∃ u,kS x=u:=⟨_,rfl⟩;rw [hu] at HU;rcases PF x with h0|h0|h0
      .obtain rfl:u=0:=by omega
       have z:=hL.out;rw [C6 Q.out hb hx (by rw [hu];omega),hu] at z;simp only [Int.reduceEq,sM,pE] at z;(rw [List.append_cons,show ((m:Int)+1)=((m+1:Nat):Int) by omega] at z;(replace z:=V z);clear hb hx hL hu h0;go_wp2_with ((try refine zs ?_);(first|refine fa ?_|(refine om ?_;clear E;intro Z J E)|(refine nu F E F ?_;clear E;intro gM J E nm hD)|(refine nY (t:=195) F E F F underlying195 ag gn ?_;intro cc D G hc1 aN;(try refine zs ?_);(try have C:decide (0<cc)=true:=by simp at hc1 aN;simp;omega);(try have C:decide (0<cc)=false:=by simp at hc1 aN;simp;omega))|(refine aq ?_;clear E;intro vN J E)));go_roundw;(try simp only [Int.reduceEq,sM,rc,pE,Bool.or_true] at E);(try rw [show ([Value.int .i64 (k:Int)]:List Value)=aE [(k:Int)] from rfl,<- tH] at E));case rel=>exact ⟨k+1,N+1,m+1,acc++[(k:Int)],d,mm,by omega,by omega,V Cj,by omega,by go_num,z,E⟩
       case measure=>exact zM
      .obtain rfl:u=1:=by omega
       cases d
       .have z:=hL.out
        rw [C6 Q.out hb hx (by rw [hu];simp),hu] at z;simp only [Int.reduceEq,sM,rc,pE,Bool.or_true] at z;(rw [List.append_cons,show ((m:Int)+1)=((m+1:Nat):Int) by omega] at z;(replace z:=V z);clear hb hx hL hu h0;go_wp2_with ((try refine zs ?_);(first|refine fa ?_|(refine om ?_;clear E;intro Z J E)|(refine nu F E F ?_;clear E;intro gM J E nm hD)|(refine nY (t:=195) F E F F underlying195 ag gn ?_;intro cc D G hc1 aN;(try refine zs ?_);(try have C:decide (0<cc)=true:=by simp at hc1 aN;simp;omega);(try have C:decide (0<cc)=false:=by simp at hc1 aN;simp;omega))|(refine aq ?_;clear E;intro vN J E)));go_roundw;(try simp only [Int.reduceEq,sM,rc,pE,Bool.or_true] at E);(try rw [show ([Value.int .i64 (k:Int)]:List Value)=aE [(k:Int)] from rfl,<- tH] at E));case rel=>exact ⟨k+1,N+1,m+1,acc++[(k:Int)],true,mm,by omega,by omega,V Cj,by omega,by go_num,z,E⟩
        case measure=>exact zM
       .have z:=hL.out
        rw [LG Q.out hb hx (.inl ⟨hu,rfl⟩)] at z
        ((replace z:=V z);clear hb hx hL hu h0;go_wp2_with ((try refine zs ?_);(first|refine fa ?_|(refine om ?_;clear E;intro Z J E)|(refine nu F E F ?_;clear E;intro gM J E nm hD)|(refine nY (t:=195) F E F F underlying195 ag gn ?_;intro cc D G hc1 aN;(try refine zs ?_);(try have C:decide (0<cc)=true:=by simp at hc1 aN;simp;omega);(try have C:decide (0<cc)=false:=by simp at hc1 aN;simp;omega))|(refine aq ?_;clear E;intro vN J E)));go_roundw)
        case rel=>exact ⟨k+1,N,m,acc,true,mm,by omega,by omega,hm,by omega,by go_num,z,E⟩
        case measure=>exact zM
      .obtain rfl:u=2:=by omega
       cases mm
       .have z:=hL.out
        rw [C6 Q.out hb hx (by rw [hu];simp),hu] at z;simp only [Int.reduceEq,sM,rc,pE,Bool.or_true] at z;(rw [List.append_cons,show ((m:Int)+1)=((m+1:Nat):Int) by omega] at z;(replace z:=V z);clear hb hx hL hu h0;go_wp2_with ((try refine zs ?_);(first|refine fa ?_|(refine om ?_;clear E;intro Z J E)|(refine nu F E F ?_;clear E;intro gM J E nm hD)|(refine nY (t:=195) F E F F underlying195 ag gn ?_;intro cc D G hc1 aN;(try refine zs ?_);(try have C:decide (0<cc)=true:=by simp at hc1 aN;simp;omega);(try have C:decide (0<cc)=false:=by simp at hc1 aN;simp;omega))|(refine aq ?_;clear E;intro vN J E)));go_roundw;(try simp only [Int.reduceEq,sM,rc,pE,Bool.or_true] at E);(try rw [show ([Value.int .i64 (k:Int)]:List Value)=aE [(k:Int)] from rfl,<- tH] at E));case rel=>exact ⟨k+1,N+1,m+1,acc++[(k:Int)],d,true,by omega,by omega,V Cj,by omega,by go_num,z,E⟩
        case measure=>exact zM
       .have z:=hL.out
        rw [LG Q.out hb hx (.inr ⟨hu,rfl⟩)] at z
        ((replace z:=V z);clear hb hx hL hu h0;go_wp2_with ((try refine zs ?_);(first|refine fa ?_|(refine om ?_;clear E;intro Z J E)|(refine nu F E F ?_;clear E;intro gM J E nm hD)|(refine nY (t:=195) F E F F underlying195 ag gn ?_;intro cc D G hc1 aN;(try refine zs ?_);(try have C:decide (0<cc)=true:=by simp at hc1 aN;simp;omega);(try have C:decide (0<cc)=false:=by simp at hc1 aN;simp;omega))|(refine aq ?_;clear E;intro vN J E)));go_roundw)
        case rel=>exact ⟨k+1,N,m,acc,d,true,by omega,by omega,hm,by omega,by go_num,z,E⟩
        case measure=>exact zM
   .obtain rfl:k=n:=by omega
    have R:=hL.out;rw [ZS O,rK] at R;subst R;clear hL;exact Lp
end
end Go.Proofs.YtgnomadgnciifaaGreatDoor
