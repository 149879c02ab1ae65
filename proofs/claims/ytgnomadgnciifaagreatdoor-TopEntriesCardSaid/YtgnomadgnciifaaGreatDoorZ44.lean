/- . -/
import Derived.Test.YtgnomadgnciifaaGreatDoorZ42
import Derived.Test.YtgnomadgnciifaaGreatDoorZ18
import Derived.Test.YtgnomadgnciifaaGreatDoorZ23
set_option linter.all false
set_option maxRecDepth 100000
set_option maxHeartbeats 16000000
namespace Go.Proofs.YtgnomadgnciifaaGreatDoor
open Go.Proofs.Tryz
def KI {p:Prop} (h:p:=by
 have z:=aO z E;refine X.out _ _ z ?_;clear X;refine zs ?_;refine bt ?_
 (skip)
 go_wp2;go_end0;refine ⟨⟨_,rfl⟩,?_⟩;rw [hR.out]
 exact ⟨s,j5 _,ha,L,⟨by rw [su _ (cw ..)];exact E.drop 0⟩⟩):p:=h
section
open Go.RowKit Wd
def MX.dropM {w0 w D0 D m M g k a b}(h:MX w0 D0 D (m::M) g k a b w):MX w0 D0 D M g k a b w:=by
 obtain ⟨s,i8,ha,hb,⟨E⟩⟩:=h;exact ⟨s,i8,ha,hb,⟨E.drop 2⟩⟩
def i5w (ab:zY) {w0 w:World} {D0 D:List Da} {M:List Mu} {g:Nat} {k:ak} {a b:Bool} {B:Int} (hk:KOk B k) (i:Nat) (e:En) (hu:k.rob[i]?=some e) (H:MX w0 D0 D M g k a b w) :Ca 77 #[.pointer (some ⟨g,0,none⟩),I (i:Int)] w λx w'=>(∃ y,x = .returned y)/\MX w0 D0 D M g (startK k i) a b w':=by
 obtain ⟨s,i8,ha,L,⟨E⟩⟩:=H;have aD:=hk.roblen;have aE:=hk.mem;have j6:=i8.robC;have hin:i<k.rob.length:=(aK.1 hu).1;have he:=hk.rob e (aQ hu);have ac:(ens k.rob).length=k.rob.length * 17:=kA _;have il:0<(ens k.rob).length:=by omega
 have hP:=E.rowP dD il;have hR:startK k i=if ae e.inst.op=4 then { k with rob:=k.rob.set i (eo e k.mem.size (eC k.rob k.regs i).1) }
  else if ae e.inst.op=3 then fN { k with rob:=k.rob.set i (eo e k.mem.size (eC k.rob k.regs i).1) } i
  else { k with rob:=k.rob.set i (dX e (eC k.rob k.regs i).1 (eC k.rob k.regs i).2.1) }:=by
  unfold startK;rw [hu];(try rfl)
 have C:=λ(W:World) (h:Rd W W.heap.size 17 s.robA k.rob.length s.robC (ens k.rob))=>show Ca 16 #[.slice s.robA k.rob.length s.robC,mP k s,I (i:Int)] W _ from by rw [vB hk.rlen];exact JQ s.robA k.rob.length s.robC k.rob k.regs i W h hk.rob hk.rlen hin
 have G:=Oa (q:=k.rob) (regs:=k.regs) (i:=i) hk.rob hk.regs;obtain ⟨x1,x2,x3,hbe⟩:∃ x1 x2 x3,eC k.rob k.regs i=(x1,x2,x3):=⟨_,_,_,rfl⟩;rw [hbe] at C hR G;dsimp only at C hR G;unfold mP at C;replace C:=V C;have HK:=λW=>ec e.inst W he.op
 have uU:=λW=>h9p e k.mem.size x1 W he.op he.imm O G.1
 have lf:=λW=>Y5 e x1 x2 W he.op he.imm G.1 G.2
 have Q:=DN (n:=k.mem.size) (a:=x1) he;have sF:=xV e k.mem.size x1;obtain ⟨f,hf⟩:∃ f,eo e k.mem.size x1=f:=⟨_,rfl⟩;obtain ⟨f2,R⟩:∃ f2,dX e x1 x2=f2:=⟨_,rfl⟩;rw [hf] at uU hR Q sF;rw [R] at lf hR;have j5:∀ f:En,Fit { k with rob:=k.rob.set i f } s:=λf=>⟨i8.data,i8.words,by show (k.rob.set i f).length<=_;rw [cw];exact j6,i8.robM,i8.feO,i8.stO,i8.reO⟩
 obtain ⟨κ,hκ⟩:∃ κ,ae e.inst.op=κ:=⟨_,rfl⟩;rw [hκ] at HK hR;replace HK:=V HK;replace uU:=V uU;replace lf:=V lf;clear hbe hf R;(simp only [kD,zL] at E);go_enter func77,ntmps77;go_upto_region 1 with ((try refine zs ?_);(first|go_big_skip|refine je F F ?_|refine bP F E F ?_|refine iH F E F F ?_|refine lk (us:=e.cells) (v:=e.val) (hu:=Rows.sub (f:=ens) hu) F E F ?_|(refine bK F E ?_;clear E;intro Z J E)|(refine aW (us:=e.cells) F E F F ?_ (h1:=λu hu=>.inl (e.one u hu));clear E;intro J E)));refine bA aj E _ _ (λ_ h=>h) (λ_ h=>h) ?_;clear E;intro E z;refine an 0 z ?_;refine zp 1 z ?_;refine az 2 z ?_;refine az 3 z ?_;refine dx 4 z ?_;refine an 5 z ?_;refine zp 6 z ?_;refine az 7 z ?_;refine az 8 z ?_;refine dx 9 z ?_;refine an 10 z ?_;refine aB 11 (λK X=>?_);go_wp2_with ((go_at_call 16;refine E.cB (C.out _ (E.rowRd bx ac ag i8.robC i8.robM)) ?_;clear E;intro J E));have z:=aO z E;refine X.out _ _ z ?_;clear X;refine zs ?_;refine an 12 z ?_;refine zp 13 z ?_;refine zp 14 z ?_;refine zp 15 z ?_;refine cA 16 z ?_;refine cA 17 z ?_;refine cA 18 z ?_;refine bt ?_
 (skip)
 by_cases h4:κ=4
 .subst h4
  rw [aa F] at hR;replace hR:=V hR;go_upto_region 5 with ((try refine zs ?_);(first|go_big_skip|(go_at_call 39;refine aG E (HK.out _) ?_;clear E;intro J E)|refine je F F ?_|refine du (v:=e.inst.val) (n:=5) F E F ?_ (hn:=ce F)|refine bP F E F ?_));refine bA aj E [.blk _ 54 e.cells,.blk g 81 (ao k s)] _ cM (λ_ h=>h) ?_;clear E;intro E z;refine an 0 z ?_;refine zp 1 z ?_;refine az 2 z ?_;refine az 3 z ?_;refine dx 4 z ?_;refine an 5 z ?_;refine dx 6 z ?_;refine an 7 z ?_;refine zp 8 z ?_;refine az 9 z ?_;refine az 10 z ?_;refine dx 11 z ?_;refine jf 12 z ?_;refine an 13 z ?_;refine aB 14 (λK X=>?_);go_wp2_with ((first|(refine N5 ?_;clear E;intro J E)|((refine kx F E F F ?_);clear E;intro J E;(try refine zs ?_))));have z:=aO z E;refine X.out _ _ z ?_;clear X;refine zs ?_;refine qT 15 z ?_;refine aB 16 (λK X=>?_);go_wp2_with ((first|(go_at_call 135;refine aG E (uU.out _) ?_;clear E;intro J E)|((refine kx F E F F ?_);clear E;intro J E;(try refine zs ?_))|(refine bz F E F F ?_;clear E;intro J E)|(refine aW F E F F ?_;clear E;intro J E)|(refine ju F E F F ?_;clear E;intro J E));refine zs ?_);exact KI
 rw [Y h4] at hR;by_cases h3:κ=3
 .subst h3
  rw [aa F] at hR;have ad:({ k with rob:=k.rob.set i f }:ak).rob[i]?=some f:=by show (k.rob.set i f)[i]?=some f;rw [jQ hin]
  have al:ae f.inst.op=3:=by rw [sF];exact hκ
  have ap:=hk.setRob Q i;have av:=V (show decide ((3:Int)=4)=false from rfl);replace hR:=V hR;clear hκ h4;go_upto_region 7 with ((try refine zs ?_);(first|go_big_skip|refine co F F F ?_|refine je F F ?_|refine du (v:=e.inst.val) (n:=5) F E F ?_ (hn:=ce F)|refine bP F E F ?_|(go_at_call 39;refine aG E (HK.out _) ?_;clear E;intro J E)));refine bA aj E [.blk _ 54 e.cells,.blk g 81 (ao k s)] _ cM (λ_ h=>h) ?_;clear E;intro E z;refine an 0 z ?_;refine zp 1 z ?_;refine az 2 z ?_;refine az 3 z ?_;refine dx 4 z ?_;refine an 5 z ?_;refine dx 6 z ?_;refine an 7 z ?_;refine zp 8 z ?_;refine az 9 z ?_;refine az 10 z ?_;refine dx 11 z ?_;refine jf 12 z ?_;refine an 13 z ?_;refine aB 14 (λK X=>?_);go_wp2_with ((first|(refine N5 ?_;clear E;intro J E)|((refine kx F E F F ?_);clear E;intro J E;(try refine zs ?_))));have z:=aO z E;refine X.out _ _ z ?_;clear X;refine zs ?_;refine qT 15 z ?_;refine aB 16 (λK X=>?_);go_wp2_with ((first|(go_at_call 135;refine aG E (uU.out _) ?_;clear E;intro J E)|((refine kx F E F F ?_);clear E;intro J E;(try refine zs ?_))|(refine bz F E F F ?_;clear E;intro J E)|(refine aW F E F F ?_;clear E;intro J E)|(refine ju F E F F ?_;clear E;intro J E));refine zs ?_);have z:=aO z E;refine X.out _ _ z ?_;clear X;refine zs ?_;refine bt ?_
  (skip)
  have H:MX w0 D0 D _ g { k with rob:=k.rob.set i f } a b _:=⟨s,j5 f,ha,L,⟨by rw [su _ (cw ..)];exact ((E.front 1 dD).front 2 jh).front 1 dD⟩⟩;clear E;go_wp2_with (go_at_call 136;refine (XU ab ap i f ad al H).mono ?_;rintro x J ⟨⟨y,rfl⟩,aw⟩);go_end0;refine ⟨⟨_,rfl⟩,?_⟩;rw [hR.out];exact aw.dropM
 rw [Y h3] at hR;have av:=V (show decide (κ=4)=false by simpa using h4);have hb3:=V (show decide (κ=3)=false by simpa using h3);replace hR:=V hR;clear hκ h3 h4;go_upto_region 3 with ((try refine zs ?_);(first|go_big_skip|refine co F F F ?_|refine je F F ?_|refine du (v:=e.inst.val) (n:=5) F E F ?_ (hn:=ce F)|refine bP F E F ?_|(go_at_call 39;refine aG E (HK.out _) ?_;clear E;intro J E)));refine bA aj E [.blk _ 54 e.cells,.blk g 81 (ao k s)] _ cM (λ_ h=>h) ?_;clear E;intro E z;refine an 0 z ?_;refine zp 1 z ?_;refine az 2 z ?_;refine az 3 z ?_;refine dx 4 z ?_;refine an 5 z ?_;refine dx 6 z ?_;refine an 7 z ?_;refine an 8 z ?_;refine aB 9 (λK X=>?_);go_wp2_with ((first|(refine WT ?_;clear E;intro J E)|((refine kx F E F F ?_);clear E;intro J E;(try refine zs ?_))));have z:=aO z E;refine X.out _ _ z ?_;clear X;refine zs ?_;refine qT 10 z ?_;refine aB 11 (λK X=>?_);go_wp2_with ((first|(go_at_call 137;refine aG E (lf.out _) ?_;clear E;intro J E)|((refine kx F E F F ?_);clear E;intro J E;(try refine zs ?_))|(refine bz F E F F ?_;clear E;intro J E)|(refine aW F E F F ?_;clear E;intro J E)|(refine ju F E F F ?_;clear E;intro J E));refine zs ?_);exact KI
end
end Go.Proofs.YtgnomadgnciifaaGreatDoor
