/- . -/
import Derived.Test.YtgnomadgnciifaaGreatDoorZ17
import Derived.Test.YtgnomadgnciifaaGreatDoorZ16
set_option linter.all false
set_option maxRecDepth 100000
set_option maxHeartbeats 16000000
namespace Go.Proofs.YtgnomadgnciifaaGreatDoor
open Go.Proofs.Tryz
def h9q {p:Prop} (h:p:=by
 refine bA aj E _ _ (λ_ h=>h) (λ_ h=>h) ?_;clear E;intro E z;refine az 0 z ?_;refine lW 1 z ?_;refine lW 2 z ?_;refine an 3 z ?_;refine wpAnyH_ready (rs:=[4,7]) aj aF (dK F (λK X=>?_) (dK F (λK X=>?_) AllReadyH.nil))
 .go_wp2_with ((refine NR ?_;clear E;intro J E))
  have z:=z.nextA E;refine X.out _ _ z ?_;clear X;refine zs ?_;refine pz 5 z ?_;refine lW 6 z ?_;refine aB 7 (λK X=>?_);go_wp2_with ((refine bK F E ?_;clear E;intro Z J E);refine zs ?_);have z:=z.nextA E;refine X.out _ _ z ?_;clear X;refine zs ?_;refine aB 8 (λK X=>?_);go_wp2_with (refine iP ?_;clear E;intro J E;(try refine zs ?_));have z:=z.nextA E;refine X.out _ _ z ?_;clear X;refine zs ?_;refine bt ?_;(go_wp2;go_meet;exact ⟨_,rfl,((E.drop 1).drop 1).lessD (λ_ h=>by cases h)⟩)
 .go_wp2_with ((refine bK F E ?_;clear E;intro Z J E);refine zs ?_)
  have z:=z.nextA E;refine X.out _ _ z ?_;clear X;refine zs ?_;refine aB 4 (λK X=>?_);go_wp2_with ((refine NR ?_;clear E;intro J E));have z:=z.nextA E;refine X.out _ _ z ?_;clear X;refine zs ?_;refine pz 5 z ?_;refine lW 6 z ?_;refine aB 8 (λK X=>?_);go_wp2_with (refine iP ?_;clear E;intro J E;(try refine zs ?_));have z:=z.nextA E;refine X.out _ _ z ?_;clear X;refine zs ?_;refine bt ?_
  (go_wp2;go_meet;exact ⟨_,rfl,((E.drop 1).drop 1).lessD (λ_ h=>by cases h)⟩)):p:=h
def M6 {p:Prop} (h:p:=by
 go_enter func143,ntmps143;go_upto_region 6 with ((try refine zs ?_);(first|refine s9 ?_|(refine se ?_;clear E;intro Z J E)|(refine aq ?_;clear E;intro vN J E)));rename_i K X;obtain ⟨gI,gG,rfl,rfl⟩:=E.names2;go_cut [8] (λp wx=>∃ g8,p = .pointer (some ⟨g8,0,none⟩)/\St w [ab 2 As 8 cs (eQ sl),ab 1 Ar nr cr (ai rets)] wx (.blk g8 191 [U (vp:Int),U (vn:Int)]::[]) []);case first=>
  exact h9q
 case rest=>
  obtain ⟨g8,rfl,E⟩:=hcut;refine X _ _ ?_;clear X;by_cases hpc:vp=pc
  .subst hpc
   by_cases Im:vp=0
   .subst Im
    by_cases qK:vn=0
    .subst qK
     rw [Y (λh=>h.2 ⟨rfl,rfl⟩)] at hN;have mg:=hN.out;subst mg;go_wp2_with ((try refine zs ?_);(first|refine s9 ?_|(refine se ?_;clear E;intro Z J E)|(refine aq ?_;clear E;intro vN J E)));go_ret;(first|exact ⟨dI hw,E.bel⟩|exact ⟨dI O,E.bel⟩)
    .have YZ:¬ ((vn:Int)=0):=by omega
     rw [aa ⟨rfl,λh=>qK h.2⟩] at hN;have mg:=hN.out;subst mg;go_wp2_with ((try refine zs ?_);(first|refine s9 ?_|(refine se ?_;clear E;intro Z J E)|(refine aq ?_;clear E;intro vN J E)));go_ret;exact ⟨rfl,E.bel⟩
   .have YZ:¬ ((vp:Int)=0):=by omega
    rw [aa ⟨rfl,λh=>Im h.1⟩] at hN;have mg:=hN.out;subst mg;go_wp2_with ((try refine zs ?_);(first|refine s9 ?_|(refine se ?_;clear E;intro Z J E)|(refine aq ?_;clear E;intro vN J E)));go_ret;exact ⟨rfl,E.bel⟩
  .rw [Y (λh=>hpc h.1)] at hN
   have mg:=hN.out;subst mg;have hpc2:¬ ((vp:Int)=(pc:Int)):=by omega
   go_wp2_with ((try refine zs ?_);(first|refine s9 ?_|(refine se ?_;clear E;intro Z J E)|(refine aq ?_;clear E;intro vN J E)));go_ret
   (first|exact ⟨dI hw,E.bel⟩|exact ⟨dI O,E.bel⟩)):p:=h
section
open Go.RowKit Wd
def VD {l:List Nat} {k x:Nat} (h:l[k]?=some x):(ai l)[k * 1]?=some (U (x:Int)):=by rw [dP];simp [ai,h]
def U1 (As Ar:Option Addr) (cs cr pc:Nat) (g:Gu) (i:Ins) (w:World) (h1:ky g=true) (hs:Rd w w.heap.size 2 As 8 cs (eQ g.slots)) (hr:Rd w w.heap.size 1 Ar g.rets.length cr (ai g.rets)) (hi:cQ i.op) (hp:pc<4294967296) :Ca 143 #[gv As 8 cs g.hist Ar g.rets.length cr,U (pc:Int),i.val] w (RB w (U ((oz g pc i:Nat):Int))):=by
 have E:=St.start w [ab 2 As 8 cs (eQ g.slots),ab 1 Ar g.rets.length cr (ai g.rets)] (zC hs (zC hr zN));have G:=h1;simp only [ky,fi,iA] at G;obtain ⟨h8,hh,h4⟩:=G;have hw:((pc:Int)+4) % 4294967296=((ay pc 4:Nat):Int):=by unfold ay;omega
 have HR:=V (λW=>ym As Ar cs g.hist g.rets.length cr W hh h4);have HK:=V (λW=>ec i W hi);have HB:=V (λW=>Jc i W);have HS:=V (λW=>FP As Ar 8 cs g.hist g.rets.length cr pc g.slots g.rets W hp O);have H:lx ⟨g.slots,g.hist,g.rets⟩ pc<8:=dy _ O
 have hN:Hid (oz g pc i=if ae i.op≠5 then ay pc 4 else if qe i=true/\0<g.rets.length then g.rets[g.rets.length - 1]?.getD 0
   else if (g.slots[lx g pc]?.getD s0).pc=pc /\ ¬ ((g.slots[lx g pc]?.getD s0).pc=0/\(g.slots[lx g pc]?.getD s0).next=0) then (g.slots[lx g pc]?.getD s0).next else ay pc 4):=V (by
  unfold oz;rw [h1]
  by_cases hk:ae i.op=5 <;> simp [hk])
 obtain ⟨sl,h,rets⟩:=g;dsimp only at *;obtain ⟨s,L⟩:∃ s,lx ⟨sl,h,rets⟩ pc=s:=⟨_,rfl⟩;rw [L] at HS H hN;obtain ⟨v,hv⟩:∃ v,sl[s]?=some v:=⟨_,ba O⟩;rw [hv,tn] at hN;obtain ⟨nr,Q⟩:∃ nr,rets.length=nr:=⟨_,rfl⟩;rw [Q] at HR HS hN E h4;rw [Q];obtain ⟨bb,R⟩:∃ bb,qe i=bb:=⟨_,rfl⟩;rw [R] at HB hN;obtain ⟨κ,hκ⟩:∃ κ,ae i.op=κ:=⟨_,rfl⟩;rw [hκ] at HK hN;obtain ⟨N,D⟩:∃ N,oz ⟨sl,h,rets⟩ pc i=N:=⟨_,rfl⟩;rw [D] at hN;rw [D];obtain ⟨N4,ac⟩:∃ N4,ay pc 4=N4:=⟨_,rfl⟩;rw [ac] at hN hw;clear D hκ R L h1 hs hr ac;obtain ⟨op,rd,rs1,rs2,imm⟩:=i;obtain ⟨vp,vn⟩:=v;unfold Ins.val at HK HB ⊢;unfold gv at HR HS ⊢;dsimp only at hN;have j9:0<nr->(nr:Int) - 1=((nr - 1:Nat):Int):=λh=>by omega
 by_cases h5:κ=5
 .subst h5
  rw [Y ag] at hN;by_cases C:bb=true/\0<nr
  .obtain ⟨rfl,eW⟩:=C
   rw [aa ⟨rfl,eW⟩] at hN;have hb:=V (show decide ((0:Int)<(nr:Int))=true by simp;omega);have j9:=j9 eW;obtain ⟨y,hy⟩:∃ y,rets[nr - 1]?=some y:=⟨_,ba O⟩;rw [hy,tn] at hN;have mg:=hN.out;subst mg;have ad:=VD hy;have hlt:nr - 1<nr:=by omega
   clear hN;go_enter func143,ntmps143;go_wp2_with ((try refine zs ?_);(first|refine s9 ?_|(refine se ?_;clear E;intro Z J E)|(refine aq ?_;clear E;intro vN J E)));go_ret;exact ⟨rfl,E.bel⟩
  .rw [Y C] at hN
   have hne:bb=false\/(bb=true/\decide ((0:Int)<(nr:Int))=false):=by
    cases bb
    .exact .inl F
    .refine .inr ⟨rfl,?_⟩
     have:¬ 0<nr:=λh=>C ⟨rfl,h⟩
     simp;omega
   clear C;have ak:s<8:=H;replace hN:=V (show N=if vp=pc /\ ¬ (vp=0/\vn=0) then vn else N4 from hN.out);rcases hne with rfl|⟨rfl,hb⟩
   ·(try (have hb:=V hb))
    exact M6
   ·(try (have hb:=V hb))
    exact M6
 .rw [aa h5] at hN
  have mg:=hN.out;subst mg;have c1:(κ == 5)=false:=by simpa using h5
  have c2:(κ != 5)=true:=by simpa using h5
  clear hN;go_enter func143,ntmps143;go_wp2_with ((try refine zs ?_);(first|refine s9 ?_|(refine se ?_;clear E;intro Z J E)|(refine aq ?_;clear E;intro vN J E)));go_ret;(first|exact ⟨dI hw,E.bel⟩|exact ⟨dI O,E.bel⟩)
end
end Go.Proofs.YtgnomadgnciifaaGreatDoor
