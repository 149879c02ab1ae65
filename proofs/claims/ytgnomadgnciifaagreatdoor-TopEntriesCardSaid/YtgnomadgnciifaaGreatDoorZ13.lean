/- . -/
import Derived.Test.YtgnomadgnciifaaGreatDoorZ6
set_option linter.all false
set_option maxRecDepth 100000
set_option maxHeartbeats 16000000
namespace Go.Proofs.YtgnomadgnciifaaGreatDoor
open Go.Proofs.Tryz
def BD {p:Prop} (h:p:=by
 have e2:1=1->(g1:Int)=((im:Nat):Int):=λh=>by omega
 replace hb:=V hb;replace iq:=V iq;(first|rw [e2 F] at HG|skip);replace e1:=V e1;replace e2:=V e2;unfold Ins.val;clear hg h2 hf;go_enter func149,ntmps149;go_upto_region 12 with ((try refine zs ?_);(first|(go_at_call 107;refine (G.out _).mono ?_;rintro x J ⟨rfl,rfl⟩)|(go_at_call 106;refine (H.out _).mono ?_;rintro x J ⟨rfl,rfl⟩)|(go_at_call 146;refine (HN.out _).mono ?_;rintro x J ⟨A,c,rfl,L⟩;replace E:=E.call1A L;clear L)|(go_at_call 187;refine E.cB (HG.out _ _ _ E.rdA) ?_;clear E;intro J E)|(go_at_call 186;refine (zV _ _ _ _ hx O O).mono ?_;rintro x J ⟨rfl,hd⟩;replace E:=E.grow (af.ofDrew hd);clear hd)|refine ov ?_|(refine bJ ?_;clear E;intro Z J E)|(refine aq ?_;clear E;intro vN J E)));replace e1:=e1.out;have e3:(im:Int) % 4294967296=(im:Int):=by omega
 go_upto_region 13 with ((try refine zs ?_);(first|refine Ds ?_|(refine Cb ?_;clear E;intro J E)));go_wp2_with ((try refine zs ?_);(first|(go_at_call 170;refine (HS.out _).mono ?_;rintro x J ⟨rfl,hd⟩;replace E:=E.grow (af.ofDrew hd);clear hd)|refine E5 ?_|(refine Ea ?_;clear E;intro J E)));((try simp only [Exit.inBlock,Exit.then]);refine bc (eL F E) F ?_)
 exact ⟨rfl,E.bel⟩):p:=h
section
open Go.RowKit Wd
def h7z (op:Int) (x:Nat) (w:World) (hf:aI op=0) (hx:x<4294967296) :Ca 149 #[I op,U (x:Int)] w (RB w ((bn op x).val)):=by
 have E:=St.start w [] zN;have G:=V (λW=>by have:=mN op W;rwa [m8,hf] at this:∀ W,Ca 107 #[I op] W λe w'=>e = .returned (I 0)/\w'=W);have H:=V (λW=>NV W);have C:∀ W,Ca 146 #[I 0] W λe w'=>∃ A c,e = .returned (.tuple #[.slice A 0 c,I 0])/\Out W [] w' [ab 2 A 0 c (dk (dQ (av 0).1))]:=λW=>MC W
 have HN:=V C;clear C;have r1:=fh x 7 5;have r2:=fh x 15 5;have r3:=fh x 20 5;have z:∀ W A c,Rd W W.heap.size 2 A 0 c (dk (dQ (av 0).1))->Ca 187 #[U (x:Int),.slice A 0 c] W (RB W (.tuple #[U ((bW x (av 0).1).1:Int),I (bW x (av 0).1).2])):=λW A c hr=>ql A c x (av 0).1 W hr (jJ _) hx
 have hb:=(oH hx (jJ 0) _ (aM _)).1;rw [lK] at hb;have h2:(bW x (av 0).1).2=0:=rfl;rw [qh hf,h2];rw [h2] at z;generalize hg:(bW x (av 0).1).1=g1 at *;have HG:=V z;clear z;obtain ⟨im,iq⟩:∃ im,g1 * 2 ^ (av 0).2 % 4294967296=im:=⟨_,rfl⟩;have D:im<4294967296:=by rw [<- iq];exact dy _ O
 have HS:=V (λW=>oW im 0 W D ⟨by omega,by omega⟩);rw [iq];have e1:(g1:Int) * 1 % 4294967296=((im:Nat):Int):=by
  rw [<- iq,show (av 0).2=0 from rfl];omega
 exact BD
def Zf (op:Int) (x:Nat) (w:World) (hf:aI op=1) (hx:x<4294967296) :Ca 149 #[I op,U (x:Int)] w (RB w ((bn op x).val)):=by
 have E:=St.start w [] zN;have G:=V (λW=>by have:=mN op W;rwa [m8,hf] at this:∀ W,Ca 107 #[I op] W λe w'=>e = .returned (I 1)/\w'=W);have H:=V (λW=>E8 W);have C:∀ W,Ca 146 #[I 1] W λe w'=>∃ A c,e = .returned (.tuple #[.slice A 0 c,I 0])/\Out W [] w' [ab 2 A 0 c (dk (dQ (av 1).1))]:=λW=>LD W
 have HN:=V C;clear C;have r1:=fh x 7 5;have r2:=fh x 15 5;have r3:=fh x 20 5;have z:∀ W A c,Rd W W.heap.size 2 A 0 c (dk (dQ (av 1).1))->Ca 187 #[U (x:Int),.slice A 0 c] W (RB W (.tuple #[U ((bW x (av 1).1).1:Int),I (bW x (av 1).1).2])):=λW A c hr=>ql A c x (av 1).1 W hr (jJ _) hx
 have hb:=(oH hx (jJ 1) _ (aM _)).1;rw [lK] at hb;have h2:(bW x (av 1).1).2=0:=rfl;rw [qh hf,h2];rw [h2] at z;generalize hg:(bW x (av 1).1).1=g1 at *;have HG:=V z;clear z;obtain ⟨im,iq⟩:∃ im,g1 * 2 ^ (av 1).2 % 4294967296=im:=⟨_,rfl⟩;have D:im<4294967296:=by rw [<- iq];exact dy _ O
 have HS:=V (λW=>oW im 0 W D ⟨by omega,by omega⟩);rw [iq];have e1:(g1:Int) * 1 % 4294967296=((im:Nat):Int):=by
  rw [<- iq,show (av 1).2=0 from rfl];omega
 exact BD
def Wa (op:Int) (x:Nat) (w:World) (hf:aI op=2) (hx:x<4294967296) :Ca 149 #[I op,U (x:Int)] w (RB w ((bn op x).val)):=by
 have E:=St.start w [] zN;have G:=V (λW=>by have:=mN op W;rwa [m8,hf] at this:∀ W,Ca 107 #[I op] W λe w'=>e = .returned (I 2)/\w'=W);have H:=V (λW=>Oh W);have C:∀ W,Ca 146 #[I 2] W λe w'=>∃ A c,e = .returned (.tuple #[.slice A 1 c,I 0])/\Out W [] w' [ab 2 A 1 c (dk (dQ (av 2).1))]:=λW=>L8 W
 have HN:=V C;clear C;have r1:=fh x 7 5;have r2:=fh x 15 5;have r3:=fh x 20 5;have z:∀ W A c,Rd W W.heap.size 2 A 1 c (dk (dQ (av 2).1))->Ca 187 #[U (x:Int),.slice A 1 c] W (RB W (.tuple #[U ((bW x (av 2).1).1:Int),I (bW x (av 2).1).2])):=λW A c hr=>ql A c x (av 2).1 W hr (jJ _) hx
 have hb:=(oH hx (jJ 2) _ (aM _)).1;rw [lK] at hb;have h2:(bW x (av 2).1).2=12:=rfl;rw [qh hf,h2];rw [h2] at z;generalize hg:(bW x (av 2).1).1=g1 at *;have HG:=V z;clear z;obtain ⟨im,iq⟩:∃ im,g1 * 2 ^ (av 2).2 % 4294967296=im:=⟨_,rfl⟩;have D:im<4294967296:=by rw [<- iq];exact dy _ O
 have HS:=V (λW=>oW im 12 W D ⟨by omega,by omega⟩);rw [iq];have e1:(g1:Int) * 1 % 4294967296=((im:Nat):Int):=by
  rw [<- iq,show (av 2).2=0 from rfl];omega
 exact BD
end
end Go.Proofs.YtgnomadgnciifaaGreatDoor
