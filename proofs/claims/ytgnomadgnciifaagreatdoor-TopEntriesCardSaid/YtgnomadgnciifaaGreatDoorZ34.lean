/- . -/
import Derived.Test.YtgnomadgnciifaaGreatDoorZ30
set_option linter.all false
set_option maxRecDepth 100000
set_option maxHeartbeats 16000000
namespace Go.Proofs.YtgnomadgnciifaaGreatDoor
variable {p:Prop}
open Go.Proofs.Tryz
def pO (h:p:=by
 unfold En.val Ins.val at *;go_enter func38,ntmps38;go_upto_region 1 with (((first|refine aL ?_|(refine am ?_;clear E;intro Z J E));refine zs ?_));go_wp2_with ((try refine zs ?_);(first|refine ot ?_|(refine oE ?_;clear E;intro Z J E)|(go_at_call 89;refine (HE.out _ E.rdA).mono ?_;rintro x J ⟨ex,rfl,hb⟩;replace E:=E.grow hb;clear hb)|(refine aq ?_;clear E;intro vN J E)));go_ret
 exact ⟨rfl,E.bel⟩):=h
def qS (h:p:=by
 replace f1:=V f1;unfold En.val Ins.val at *;go_enter func38,ntmps38;go_upto_region 1 with (((first|refine aL ?_|(refine am ?_;clear E;intro Z J E));refine zs ?_));go_wp2_with ((try simp only [f1.out]);(try refine zs ?_);(first|refine ot ?_|(refine oE ?_;clear E;intro Z J E)|(go_at_call 89;refine (HE.out _ E.rdA).mono ?_;rintro x J ⟨ex,rfl,hb⟩;replace E:=E.grow hb;clear hb)|(refine aq ?_;clear E;intro vN J E)));go_ret
 exact ⟨rfl,E.bel⟩):=h
def Dv (h:p:=by
 have f2:(halt != 0)=true:=by simpa using hh
 replace f2:=V f2;unfold En.val Ins.val at *;go_enter func38,ntmps38;go_upto_region 1 with (((first|refine aL ?_|(refine am ?_;clear E;intro Z J E));refine zs ?_));go_wp2_with ((try simp only [f2.out]);(try refine zs ?_);(first|refine ot ?_|(refine oE ?_;clear E;intro Z J E)|(go_at_call 89;refine (HE.out _ E.rdA).mono ?_;rintro x J ⟨ex,rfl,hb⟩;replace E:=E.grow hb;clear hb)|(refine aq ?_;clear E;intro vN J E)));go_ret
 exact ⟨rfl,E.bel⟩):=h
def M7 (h:p:=by
 unfold En.val Ins.val at *
 (go_enter func38,ntmps38;go_wp2_with ((try refine zs ?_);(first|refine ot ?_|(refine oE ?_;clear E;intro Z J E)|(go_at_call 89;refine (HE.out _ E.rdA).mono ?_;rintro x J ⟨ex,rfl,hb⟩;replace E:=E.grow hb;clear hb)|(refine aq ?_;clear E;intro vN J E)));go_ret;exact ⟨rfl,E.bel⟩)):=h
section
open Go.RowKit Wd
section
variable (no:Int) (pc:Nat) (op rd rs1 rs2:Int) (imm:Nat) (guess:Nat) (left:Int) (value next addr:Nat) (halt took:Int) (known filled:Bool) (κ:Int) (en b:Bool) (w:World)
 (HK:Hid (∀ W,Ca 39 #[(⟨op,rd,rs1,rs2,imm⟩:Ins).val] W (RB W (I κ))))
 (HE:Hid (∀ W,Rd W W.heap.size 1 (some ⟨0,0,none⟩) 49 49 (ai ci)->Ca 89 #[(⟨op,rd,rs1,rs2,imm⟩:Ins).val] W λe w'=>∃ x,e = .returned (.tuple #[U ((x:Nat):Int),I (if en then 0 else 1)])/\af W w'))
 (E:St w [eG] w [] [eG])
include HK HE E
theorem X7 (is:Int) (h:is<0) (hb:b=false):Ca 38 #[(⟨no,pc,⟨op,rd,rs1,rs2,imm⟩,guess,is,left,value,next,addr,halt,took,known,filled⟩:En).val] w (RB w (.bool b)):=by
 subst hb;exact M7
theorem i3w (is:Int) (h:3<is) (hb:b=false):Ca 38 #[(⟨no,pc,⟨op,rd,rs1,rs2,imm⟩,guess,is,left,value,next,addr,halt,took,known,filled⟩:En).val] w (RB w (.bool b)):=by
 subst hb;have h0:decide (is<0)=false:=by simp;omega
 exact M7
theorem i3x (hl:¬ left=0) (hb:b=false):Ca 38 #[(⟨no,pc,⟨op,rd,rs1,rs2,imm⟩,guess,0,left,value,next,addr,halt,took,known,filled⟩:En).val] w (RB w (.bool b)):=by
 subst hb;have f1:(left != 0)=true:=by simpa using hl
 exact qS
theorem SR (hl:¬ left=0) (hb:b=false):Ca 38 #[(⟨no,pc,⟨op,rd,rs1,rs2,imm⟩,guess,2,left,value,next,addr,halt,took,known,filled⟩:En).val] w (RB w (.bool b)):=by
 subst hb;have f1:(left != 0)=true:=by simpa using hl
 exact qS
theorem WK (hl:¬ left=0) (hb:b=false):Ca 38 #[(⟨no,pc,⟨op,rd,rs1,rs2,imm⟩,guess,3,left,value,next,addr,halt,took,known,filled⟩:En).val] w (RB w (.bool b)):=by
 subst hb;have f1:(left != 0)=true:=by simpa using hl
 exact qS
theorem Vo (hl:left<=0) (hb:b=false):Ca 38 #[(⟨no,pc,⟨op,rd,rs1,rs2,imm⟩,guess,1,left,value,next,addr,halt,took,known,filled⟩:En).val] w (RB w (.bool b)):=by
 subst hb;have f1:decide (left<=0)=true:=by simpa using hl
 exact qS
theorem Pn (hh:¬ halt=0) (hb:b=false):Ca 38 #[(⟨no,pc,⟨op,rd,rs1,rs2,imm⟩,guess,0,0,value,next,addr,halt,took,known,filled⟩:En).val] w (RB w (.bool b)):=by
 subst hb;exact Dv
theorem QZ  (hb:b=true) (hen:en=true):Ca 38 #[(⟨no,pc,⟨op,rd,rs1,rs2,imm⟩,guess,0,0,value,next,addr,0,took,known,filled⟩:En).val] w (RB w (.bool b)):=by
 subst hb;subst hen;exact pO
theorem Z5  (hb:b=false) (hen:en=false):Ca 38 #[(⟨no,pc,⟨op,rd,rs1,rs2,imm⟩,guess,0,0,value,next,addr,0,took,known,filled⟩:En).val] w (RB w (.bool b)):=by
 subst hb;subst hen;exact pO
theorem i4e (hl:0<left) (hb:b=true) (hen:en=true):Ca 38 #[(⟨no,pc,⟨op,rd,rs1,rs2,imm⟩,guess,1,left,value,next,addr,0,took,known,filled⟩:En).val] w (RB w (.bool b)):=by
 subst hb;subst hen;have f1:decide (left<=0)=false:=by simp;omega
 exact qS
theorem TH (hl:0<left) (hb:b=false) (hen:en=false):Ca 38 #[(⟨no,pc,⟨op,rd,rs1,rs2,imm⟩,guess,1,left,value,next,addr,0,took,known,filled⟩:En).val] w (RB w (.bool b)):=by
 subst hb;subst hen;have f1:decide (left<=0)=false:=by simp;omega
 exact qS
theorem Tr (hl:0<left) (hh:¬ halt=0) (hk:¬ κ=5) (hb:b=false):Ca 38 #[(⟨no,pc,⟨op,rd,rs1,rs2,imm⟩,guess,1,left,value,next,addr,halt,took,known,filled⟩:En).val] w (RB w (.bool b)):=by
 subst hb;have f1:decide (left<=0)=false:=by simp;omega
 have f2:(halt != 0)=true:=by simpa using hh
 have f3:(κ == 5)=false:=by simpa using hk
 replace f1:=V f1;replace f2:=V f2;replace f3:=V f3;unfold En.val Ins.val at *;go_enter func38,ntmps38;go_upto_region 1 with (((first|refine aL ?_|(refine am ?_;clear E;intro Z J E));refine zs ?_));go_wp2_with ((try simp only [f1.out,f2.out,f3.out]);(try refine zs ?_);(first|((refine fj F F F ?_);refine zs ?_)|(go_at_call 39;refine aG E (HK.out _) ?_;clear E;intro J E)|(go_at_call 89;refine (HE.out _ E.rdA).mono ?_;rintro x J ⟨ex,rfl,hb⟩;replace E:=E.grow hb;clear hb)|((refine du (v:=.agg #[I op,I rd,I rs1,I rs2,U (imm:Int)]) (n:=5) F E F ?_ (hn:=ce F));(try refine zs ?_))|((first|refine aL ?_|(refine am ?_;clear E;intro Z J E));refine zs ?_)));go_ret;exact ⟨rfl,E.bel⟩
theorem VB (hl:0<left) (hh:¬ halt=0) (h3:¬ halt=3) (hb:b=false) (hkk:κ=5):Ca 38 #[(⟨no,pc,⟨op,rd,rs1,rs2,imm⟩,guess,1,left,value,next,addr,halt,took,known,filled⟩:En).val] w (RB w (.bool b)):=by
 subst hb;subst hkk;have f1:decide (left<=0)=false:=by simp;omega
 have f2:(halt != 0)=true:=by simpa using hh
 have f3:(halt == 3)=false:=by simpa using h3
 replace f1:=V f1;replace f2:=V f2;unfold En.val Ins.val at *;go_enter func38,ntmps38;go_upto_region 1 with (((first|refine aL ?_|(refine am ?_;clear E;intro Z J E));refine zs ?_));go_wp2_with ((try simp only [f1.out,f2.out,f3]);(try refine zs ?_);(first|((refine fj F F F ?_);refine zs ?_)|(go_at_call 39;refine aG E (HK.out _) ?_;clear E;intro J E)|(go_at_call 89;refine (HE.out _ E.rdA).mono ?_;rintro x J ⟨ex,rfl,hb⟩;replace E:=E.grow hb;clear hb)|((refine du (v:=.agg #[I op,I rd,I rs1,I rs2,U (imm:Int)]) (n:=5) F E F ?_ (hn:=ce F));(try refine zs ?_))|((first|refine aL ?_|(refine am ?_;clear E;intro Z J E));refine zs ?_)));go_ret;exact ⟨rfl,E.bel⟩
theorem i4i (hl:0<left) (hb:b=true) (hkk:κ=5) (hen:en=true):Ca 38 #[(⟨no,pc,⟨op,rd,rs1,rs2,imm⟩,guess,1,left,value,next,addr,3,took,known,filled⟩:En).val] w (RB w (.bool b)):=by
 subst hb;subst hkk;subst hen;have f1:decide (left<=0)=false:=by simp;omega
 exact qS
theorem V4 (hl:0<left) (hb:b=false) (hkk:κ=5) (hen:en=false):Ca 38 #[(⟨no,pc,⟨op,rd,rs1,rs2,imm⟩,guess,1,left,value,next,addr,3,took,known,filled⟩:En).val] w (RB w (.bool b)):=by
 subst hb;subst hkk;subst hen;have f1:decide (left<=0)=false:=by simp;omega
 exact qS
theorem Rz (hk:¬ κ=3) (hb:b=false):Ca 38 #[(⟨no,pc,⟨op,rd,rs1,rs2,imm⟩,guess,2,0,value,next,addr,halt,took,known,filled⟩:En).val] w (RB w (.bool b)):=by
 subst hb;have f3:(κ != 3)=true:=by simpa using hk
 replace f3:=V f3;unfold En.val Ins.val at *;go_enter func38,ntmps38;go_upto_region 1 with (((first|refine aL ?_|(refine am ?_;clear E;intro Z J E));refine zs ?_));go_wp2_with ((try simp only [f3.out]);(try refine zs ?_);(first|refine ot ?_|(refine oE ?_;clear E;intro Z J E)|(go_at_call 89;refine (HE.out _ E.rdA).mono ?_;rintro x J ⟨ex,rfl,hb⟩;replace E:=E.grow hb;clear hb)|(refine aq ?_;clear E;intro vN J E)));go_ret;exact ⟨rfl,E.bel⟩
theorem i4l  (hb:b=false) (hkk:κ=3):Ca 38 #[(⟨no,pc,⟨op,rd,rs1,rs2,imm⟩,guess,2,0,value,next,addr,halt,took,false,filled⟩:En).val] w (RB w (.bool b)):=by
 subst hb;subst hkk;exact pO
theorem Zb (hh:¬ halt=0) (hb:b=false) (hkk:κ=3):Ca 38 #[(⟨no,pc,⟨op,rd,rs1,rs2,imm⟩,guess,2,0,value,next,addr,halt,took,true,filled⟩:En).val] w (RB w (.bool b)):=by
 subst hb;subst hkk;exact Dv
theorem YM  (hb:b=true) (hkk:κ=3) (hen:en=true):Ca 38 #[(⟨no,pc,⟨op,rd,rs1,rs2,imm⟩,guess,2,0,value,next,addr,0,took,true,filled⟩:En).val] w (RB w (.bool b)):=by
 subst hb;subst hkk;subst hen;exact pO
theorem i4o  (hb:b=false) (hkk:κ=3) (hen:en=false):Ca 38 #[(⟨no,pc,⟨op,rd,rs1,rs2,imm⟩,guess,2,0,value,next,addr,0,took,true,filled⟩:En).val] w (RB w (.bool b)):=by
 subst hb;subst hkk;subst hen;exact pO
theorem V0  (hb:b=true) (hen:en=true):Ca 38 #[(⟨no,pc,⟨op,rd,rs1,rs2,imm⟩,guess,3,0,value,next,addr,0,took,known,filled⟩:En).val] w (RB w (.bool b)):=by
 subst hb;subst hen;exact pO
theorem i4q  (hb:b=false) (hen:en=false):Ca 38 #[(⟨no,pc,⟨op,rd,rs1,rs2,imm⟩,guess,3,0,value,next,addr,0,took,known,filled⟩:En).val] w (RB w (.bool b)):=by
 subst hb;subst hen;exact pO
theorem Pd (hh:¬ halt=0) (hb:b=true) (hen:en=true):Ca 38 #[(⟨no,pc,⟨op,rd,rs1,rs2,imm⟩,guess,3,0,value,next,addr,halt,took,known,filled⟩:En).val] w (RB w (.bool b)):=by
 subst hb;subst hen;exact Dv
theorem S7  (hb:b=true) (hen:en=false):Ca 38 #[(⟨no,pc,⟨op,rd,rs1,rs2,imm⟩,guess,3,0,value,next,addr,1,took,known,filled⟩:En).val] w (RB w (.bool b)):=by
 subst hb;subst hen;exact pO
theorem RA  (hb:b=true) (hen:en=false):Ca 38 #[(⟨no,pc,⟨op,rd,rs1,rs2,imm⟩,guess,3,0,value,next,addr,2,took,known,filled⟩:En).val] w (RB w (.bool b)):=by
 subst hb;subst hen;exact pO
theorem i4u (hh:¬ halt=0) (h1:¬ halt=1) (h2:¬ halt=2) (hb:b=false) (hen:en=false):Ca 38 #[(⟨no,pc,⟨op,rd,rs1,rs2,imm⟩,guess,3,0,value,next,addr,halt,took,known,filled⟩:En).val] w (RB w (.bool b)):=by
 subst hb;subst hen;have f2:(halt != 0)=true:=by simpa using hh
 have f3:(halt == 1)=false:=by simpa using h1
 have f4:(halt == 2)=false:=by simpa using h2
 replace f2:=V f2;replace f3:=V f3;replace f4:=V f4;unfold En.val Ins.val at *;go_enter func38,ntmps38;go_upto_region 1 with (((first|refine aL ?_|(refine am ?_;clear E;intro Z J E));refine zs ?_));go_wp2_with ((try simp only [f2.out,f3.out,f4.out]);(try refine zs ?_);(first|((refine fj F F F ?_);refine zs ?_)|(go_at_call 39;refine aG E (HK.out _) ?_;clear E;intro J E)|(go_at_call 89;refine (HE.out _ E.rdA).mono ?_;rintro x J ⟨ex,rfl,hb⟩;replace E:=E.grow hb;clear hb)|((refine du (v:=.agg #[I op,I rd,I rs1,I rs2,U (imm:Int)]) (n:=5) F E F ?_ (hn:=ce F));(try refine zs ?_))|((first|refine aL ?_|(refine am ?_;clear E;intro Z J E));refine zs ?_)));go_ret;exact ⟨by simp only [f4.out];rfl,E.bel⟩
end
end
end Go.Proofs.YtgnomadgnciifaaGreatDoor
