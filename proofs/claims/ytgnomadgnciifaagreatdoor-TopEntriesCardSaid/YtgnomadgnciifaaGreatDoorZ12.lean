/- . -/
import Derived.Test.YtgnomadgnciifaaGreatDoorZ6
set_option linter.all false
set_option maxRecDepth 100000
set_option maxHeartbeats 16000000
namespace Go.Proofs.YtgnomadgnciifaaGreatDoor
open Go.Proofs.Tryz
def BE {p:Prop} (h:p:=by
 replace hb:=V hb;replace iq:=V iq;(first|rw [e2 F] at HG|skip);replace e1:=V e1;replace e2:=V e2;unfold Ins.val;clear hg h2 hf;go_enter func149,ntmps149;go_upto_region 12 with ((try refine zs ?_);(first|(go_at_call 107;refine (G.out _).mono ?_;rintro x J ⟨rfl,rfl⟩)|(go_at_call 106;refine (H.out _).mono ?_;rintro x J ⟨rfl,rfl⟩)|(go_at_call 146;refine (HN.out _).mono ?_;rintro x J ⟨A,c,rfl,L⟩;replace E:=E.call1A L;clear L)|(go_at_call 187;refine E.cB (HG.out _ _ _ E.rdA) ?_;clear E;intro J E)|(go_at_call 186;refine (zV _ _ _ _ hx O O).mono ?_;rintro x J ⟨rfl,hd⟩;replace E:=E.grow (af.ofDrew hd);clear hd)|refine ov ?_|(refine bJ ?_;clear E;intro Z J E)|(refine aq ?_;clear E;intro vN J E)));replace e1:=e1.out;have e3:(im:Int) % 4294967296=(im:Int):=by omega
 go_upto_region 13 with ((try refine zs ?_);(first|refine Ds ?_|(refine Cb ?_;clear E;intro J E)));go_wp2_with ((try refine zs ?_);(first|(go_at_call 170;refine (HS.out _).mono ?_;rintro x J ⟨rfl,hd⟩;replace E:=E.grow (af.ofDrew hd);clear hd)|refine E5 ?_|(refine Ea ?_;clear E;intro J E)));((try simp only [Exit.inBlock,Exit.then]);refine bc (eL F E) F ?_)
 exact ⟨rfl,E.bel⟩):p:=h
section
open Go.RowKit Wd
def TK (op:Int) (x:Nat) (w:World) (hf:aI op=6) (hx:x<4294967296) :Ca 149 #[I op,U (x:Int)] w (RB w ((bn op x).val)):=by
 have E:=St.start w [] zN;have G:=V (λW=>by have:=mN op W;rwa [m8,hf] at this:∀ W,Ca 107 #[I op] W λe w'=>e = .returned (I 6)/\w'=W);have H:=V (λW=>Ja W);have C:∀ W,Ca 146 #[I 6] W λe w'=>∃ A c,e = .returned (.tuple #[.slice A 1 c,I 12])/\Out W [] w' [ab 2 A 1 c (dk (dQ (av 6).1))]:=λW=>Jn W
 have HN:=V C;clear C;have r1:=fh x 7 5;have r2:=fh x 15 5;have r3:=fh x 20 5;have z:∀ W A c,Rd W W.heap.size 2 A 1 c (dk (dQ (av 6).1))->Ca 187 #[U (x:Int),.slice A 1 c] W (RB W (.tuple #[U ((bW x (av 6).1).1:Int),I (bW x (av 6).1).2])):=λW A c hr=>ql A c x (av 6).1 W hr (jJ _) hx
 have hb:=(oH hx (jJ 6) _ (aM _)).1;rw [lK] at hb;have h2:(bW x (av 6).1).2=20:=rfl;rw [qh hf,h2];rw [h2] at z;generalize hg:(bW x (av 6).1).1=g1 at *;have HG:=V z;clear z;obtain ⟨im,iq⟩:∃ im,g1 * 2 ^ (av 6).2 % 4294967296=im:=⟨_,rfl⟩;have D:im<4294967296:=by rw [<- iq];exact dy _ O
 have HS:=V (λW=>oW im 32 W D ⟨by omega,by omega⟩);rw [iq];have e1:(g1:Int) * 4096 % 4294967296=((im:Nat):Int):=by
  rw [<- iq,show (av 6).2=12 from rfl];omega
 have e2:4096=1->(g1:Int)=((im:Nat):Int):=λh=>by omega
 exact BE
def QU (op:Int) (x:Nat) (w:World) (hf:aI op=7) (hx:x<4294967296) :Ca 149 #[I op,U (x:Int)] w (RB w ((bn op x).val)):=by
 have E:=St.start w [] zN;have G:=V (λW=>by have:=mN op W;rwa [m8,hf] at this:∀ W,Ca 107 #[I op] W λe w'=>e = .returned (I 7)/\w'=W);have H:=V (λW=>Jb W);have C:∀ W,Ca 146 #[I 7] W λe w'=>∃ A c,e = .returned (.tuple #[.slice A 4 c,I 1])/\Out W [] w' [ab 2 A 4 c (dk (dQ (av 7).1))]:=λW=>Kz W
 have HN:=V C;clear C;have r1:=fh x 7 5;have r2:=fh x 15 5;have r3:=fh x 20 5;have z:∀ W A c,Rd W W.heap.size 2 A 4 c (dk (dQ (av 7).1))->Ca 187 #[U (x:Int),.slice A 4 c] W (RB W (.tuple #[U ((bW x (av 7).1).1:Int),I (bW x (av 7).1).2])):=λW A c hr=>ql A c x (av 7).1 W hr (jJ _) hx
 have hb:=(oH hx (jJ 7) _ (aM _)).1;rw [lK] at hb;have h2:(bW x (av 7).1).2=20:=rfl;rw [qh hf,h2];rw [h2] at z;generalize hg:(bW x (av 7).1).1=g1 at *;have HG:=V z;clear z;obtain ⟨im,iq⟩:∃ im,g1 * 2 ^ (av 7).2 % 4294967296=im:=⟨_,rfl⟩;have D:im<4294967296:=by rw [<- iq];exact dy _ O
 have HS:=V (λW=>oW im 21 W D ⟨by omega,by omega⟩);rw [iq];have e1:(g1:Int) * 2 % 4294967296=((im:Nat):Int):=by
  rw [<- iq,show (av 7).2=1 from rfl];omega
 have e2:2=1->(g1:Int)=((im:Nat):Int):=λh=>by omega
 exact BE
def Pv (op:Int) (x:Nat) (w:World) (hf:aI op=8) (hx:x<4294967296) :Ca 149 #[I op,U (x:Int)] w (RB w ((bn op x).val)):=by
 have E:=St.start w [] zN;have G:=V (λW=>by have:=mN op W;rwa [m8,hf] at this:∀ W,Ca 107 #[I op] W λe w'=>e = .returned (I 8)/\w'=W);have H:=V (λW=>MM W);have C:∀ W,Ca 146 #[I 8] W λe w'=>∃ A c,e = .returned (.tuple #[.slice A 0 c,I 0])/\Out W [] w' [ab 2 A 0 c (dk (dQ (av 8).1))]:=λW=>Fq W
 have HN:=V C;clear C;have r1:=fh x 7 5;have r2:=fh x 15 5;have r3:=fh x 20 5;have z:∀ W A c,Rd W W.heap.size 2 A 0 c (dk (dQ (av 8).1))->Ca 187 #[U (x:Int),.slice A 0 c] W (RB W (.tuple #[U ((bW x (av 8).1).1:Int),I (bW x (av 8).1).2])):=λW A c hr=>ql A c x (av 8).1 W hr (jJ _) hx
 have hb:=(oH hx (jJ 8) _ (aM _)).1;rw [lK] at hb;have h2:(bW x (av 8).1).2=0:=rfl;rw [qh hf,h2];rw [h2] at z;generalize hg:(bW x (av 8).1).1=g1 at *;have HG:=V z;clear z;obtain ⟨im,iq⟩:∃ im,g1 * 2 ^ (av 8).2 % 4294967296=im:=⟨_,rfl⟩;have D:im<4294967296:=by rw [<- iq];exact dy _ O
 have HS:=V (λW=>oW im 0 W D ⟨by omega,by omega⟩);rw [iq];have e1:(g1:Int) * 1 % 4294967296=((im:Nat):Int):=by
  rw [<- iq,show (av 8).2=0 from rfl];omega
 have e2:1=1->(g1:Int)=((im:Nat):Int):=λh=>by omega
 exact BE
end
end Go.Proofs.YtgnomadgnciifaaGreatDoor
