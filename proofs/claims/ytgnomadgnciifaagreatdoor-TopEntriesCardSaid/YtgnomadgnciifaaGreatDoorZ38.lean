/- . -/
import Derived.Test.YtgnomadgnciifaaGreatDoorZ35
import Derived.Test.YtgnomadgnciifaaGreatDoorZ24
set_option linter.all false
set_option maxRecDepth 100000
set_option maxHeartbeats 16000000
namespace Go.Proofs.YtgnomadgnciifaaGreatDoor
open Go.Proofs.Tryz
def K3 {p:Prop} (h:p:=by
 go_enter func85,ntmps85;go_wp2_with ((try refine zs ?_);(first|refine C9 ?_|(refine xc ?_;clear E;intro Z J E)|(refine aq ?_;clear E;intro vN J E)))
 (go_ret;refine ⟨(by first|exact dI hw|rfl),?_⟩;exact ⟨(E.drop 0).lessD mU⟩)):p:=h
section
open Go.RowKit Wd
def Vb {w0 w:World} {D0 D:List Da} {M:List Mu} {g:Nat} {k:ak} {s:em} {B:Int} (hk:KOk B k) (x:Nat) (hx:x<4294967296) (E:St w0 D0 w (.blk g 81 (ao k s)::M) (kD k s++D)) :Ca 85 #[.pointer (some ⟨g,0,none⟩),U (x:Int)] w λy w'=>y = .returned (U ((dG k x).1:Int))/\Kept w0 D0 D M g (dG k x).2 s w':=by
 have dz:=V (λW h=>B3 x W hx h);have hw:((k.fetch:Int)+4) % 4294967296=((ay k.fetch 4:Nat):Int):=by have:=hk.fetch;unfold ay;omega
 have L:=hk.guessed;have Q:=hk.bound;have G:=hk.fetch
 have hR:Hid (dG k x=match df x with|none=>(ay k.fetch 4,k)|some i=>if ae i.op≠5 then (ay k.fetch 4,k) else
  if k.conf.tables=true then (oz k.guess k.fetch i,k) else (ra k.conf k.guessed k.fetch,{ k with guessed:=k.guessed+1 })):=V F
 (simp only [kD,zL] at E);cases hd:df x with
 | none=>
  rw [hd] at hR dz;replace hR:=V (show dG k x=(ay k.fetch 4,k) from hR.out);clear hd;unfold x4 x7 at dz;rw [hR.out];exact K3
 | some i=>
  have hi:=(uP hd).1;have C:cQ i.op:=by unfold cQ;have:=(uP hd).2;omega
  rw [hd] at hR dz;replace hR:=V (show dG k x=if ae i.op≠5 then (ay k.fetch 4,k) else if k.conf.tables=true then (oz k.guess k.fetch i,k) else (ra k.conf k.guessed k.fetch,{ k with guessed:=k.guessed+1 }) from hR.out);clear hd;have HK:=V (λW=>ec i W C);unfold x4 x7 at dz;dsimp only at dz;obtain ⟨op,rd,rs1,rs2,imm⟩:=i;unfold Ins.val at dz HK;dsimp only at dz HK C;by_cases h5:ae op=5
  .rw [Y (λh=>h h5)] at hR
   rw [h5] at HK;cases ht:k.conf.tables with
   | true=>
    rw [aa ht] at hR;have H:k.guess.slots.length=8:=by have:=hk.guess;simp only [ky,fi,iA] at this;exact this.1
    have HN:=V (λ(W:World) (h1:Rd W W.heap.size 2 s.slA k.guess.slots.length s.slC (eQ k.guess.slots)) (h2:Rd W W.heap.size 1 s.rtA k.guess.rets.length s.rtC (ai k.guess.rets))=>show Ca 143 #[.agg #[.slice s.slA k.guess.slots.length s.slC,U (k.guess.hist:Int),.slice s.rtA k.guess.rets.length s.rtC],U (k.fetch:Int),.agg #[I op,I rd,I rs1,I rs2,U (imm:Int)]] W (λy w'=>y = .returned (U ((oz k.guess k.fetch ⟨op,rd,rs1,rs2,imm⟩:Nat):Int))/\af W w') from by
     rw [H] at h1 ⊢
     exact U1 s.slA s.rtA s.slC s.rtC k.fetch k.guess ⟨op,rd,rs1,rs2,imm⟩ W hk.guess h1 h2 C G)
    generalize oz k.guess k.fetch ⟨op,rd,rs1,rs2,imm⟩=N at HN hR;rw [hR.out];have B5:(ao k s)[9]?=some (.bool true):=(show (ao k s)[9]?=some (.bool k.conf.tables) from rfl).trans (jB (λb=>some (Value.bool b)) ht);clear h5 hi C H ht;go_enter func85,ntmps85;go_upto_region 5 with ((try refine zs ?_);(first|refine UT ?_|(refine xc ?_;clear E;intro Z J E)|(refine aq ?_;clear E;intro vN J E)));refine bA aj E _ _ (λ_ h=>h) (λ_ h=>h) ?_;clear E;intro E z;refine an 0 z ?_;refine zp 1 z ?_;refine az 2 z ?_;refine az 3 z ?_;refine fC 4 z ?_;refine an 5 z ?_;refine zp 6 z ?_;refine az 7 z ?_;refine az 8 z ?_;refine fC 9 z ?_;refine fC 10 z ?_;refine aB 11 (λK X=>?_);go_wp2_with ((refine Pe ?_;clear E;intro J E));have z:=aO z E;refine X.out _ _ z ?_;clear X;refine zs ?_;refine cA 12 z ?_;refine bt ?_;(go_wp2_with ((try refine zs ?_);(first|refine C9 ?_|(refine xc ?_;clear E;intro Z J E)|(refine aq ?_;clear E;intro vN J E)));(go_ret;refine ⟨rfl,?_⟩;exact ⟨(E.drop 0).lessD mU⟩))
   | false=>
    rw [Y (by rw [ht];decide)] at hR;have HT:=V (λ(W:World) (h1:Rd W W.heap.size 1 s.latA k.conf.lat.length s.latC (aE k.conf.lat)) (h2:Rd W W.heap.size 1 s.tapeA k.conf.tape.length s.tapeC (ai k.conf.tape))=>Ru k.conf s.latA s.latC s.tapeA s.tapeC k.guessed k.fetch W pB G h1 h2);generalize ra k.conf k.guessed k.fetch=N at HT hR;rw [hR.out];have B5:(ao k s)[9]?=some (.bool false):=(show (ao k s)[9]?=some (.bool k.conf.tables) from rfl).trans (jB (λb=>some (Value.bool b)) ht);clear h5 hi C ht;go_enter func85,ntmps85;go_upto_region 6 with ((try refine zs ?_);(first|refine Qh ?_|(refine xc ?_;clear E;intro Z J E)|(refine aq ?_;clear E;intro vN J E)));refine bA aj E _ _ (λ_ h=>h) (λ_ h=>h) ?_;clear E;intro E z;refine an 0 z ?_;refine zp 1 z ?_;refine az 2 z ?_;refine az 3 z ?_;refine fC 4 z ?_;refine an 5 z ?_;refine zp 6 z ?_;refine az 7 z ?_;refine az 8 z ?_;refine fC 9 z ?_;refine an 10 z ?_;refine zp 11 z ?_;refine az 12 z ?_;refine az 13 z ?_;refine fC 14 z ?_;refine aB 15 (λK X=>?_);go_wp2_with ((refine Om ?_;clear E;intro J E));have z:=aO z E;refine X.out _ _ z ?_;clear X;refine zs ?_;refine cA 16 z ?_;refine bt ?_;(go_wp2_with ((try refine zs ?_);(first|refine C9 ?_|(refine xc ?_;clear E;intro Z J E)|(refine aq ?_;clear E;intro vN J E)));go_ret;refine ⟨rfl,?_⟩;rw [OL] at E;exact ⟨(E.drop 0).lessD mU⟩)
  .rw [aa h5] at hR
   obtain ⟨κ,hκ⟩:∃ κ,ae op=κ:=⟨_,rfl⟩;rw [hκ] at HK h5;have R:=V (show decide (¬ κ=5)=true by simpa using h5);rw [hR.out];clear h5 hκ hi C;exact K3
end
end Go.Proofs.YtgnomadgnciifaaGreatDoor
