/- . -/
import Derived.Test.YtgnomadgnciifaaGreatDoorProg
import Derived.Calls
import Derived.Tactics2
import Derived.KernelRfl
import Derived.Lib.Hide
/- Laws that are used throughout. -/
set_option linter.all false
set_option maxRecDepth 100000
set_option maxHeartbeats 16000000
namespace Go.Proofs.YtgnomadgnciifaaGreatDoor
section
open Go Go.RowKit
def V:=@Lib.hid
def Y:=@if_neg
def aa:=@if_pos
def aK:=@List.getElem?_eq_some_iff
def aM:=@Nat.le_refl
def aQ:=@List.mem_of_getElem?
def ba:=@List.getElem?_eq_getElem
def bc:=@bodyPost_ret
def bB:=@List.mem_cons
def bC:=@Sem.run_bind
def bG:=@Result.andThen_ok
def bL:=@Sem.run_pure
def cw:=@List.length_set
def ce:=@Nat.le_of_ble_eq_true
def cK:=@List.length_take
def cD:=@List.take_of_length_le
def cU:=@decide_eq_true
def dg:=@decide_eq_false
def di:=@trivial
def dm:=@List.mem_singleton
def dy:=@Nat.mod_lt
def dv:=@List.mem_append
def dB:=@Option.map_some
def dF:=@Option.some.injEq
def ea:=@List.length_append
def dP:=@Nat.mul_one
def ee:=@List.mem_cons_self
def ez:=@List.mem_cons_of_mem
def ej:=@List.Mem.head
def eI:=@List.Mem.tail
def eH:=@run_underlying
def fi:=@Bool.and_eq_true
def fu:=@Nat.testBit_div_two_pow
def fJ:=@Nat.lt_of_le_of_lt
def ft:=@List.length_cons
def fL:=@List.set_cons_zero
def fQ:=@List.mem_map
def gq:=@List.length_map
def iE:=@List.take_succ_eq_append_getElem
def iG:=@Nat.le_trans
def iA:=@decide_eq_true_eq
def iT:=@Option.none_or
def jt:=@Int.toNat_natCast
def jr:=@List.set_cons_succ
def jE:=@List.mem_of_mem_take
def jB:=@congrArg
def jR:=@Nat.zero_add
def kF:=@List.getElem?_take
def jQ:=@List.getElem?_set_self
def kg:=@List.map_cons
def jW:=@Nat.testBit_and
def jS:=@Int.eq_ofNat_of_zero_le
def kb:=@Bool.true_and
def kr:=@wpList_plain
def kK:=@Nat.div_le_self
def kw:=@results_none
def kZ:=@Nat.min_eq_left
def kU:=@List.getElem?_append_right
def kR:=@List.nil_append
def lK:=@List.take_length
def lh:=@Nat.eq_zero_or_pos
def lr:=@or_false
def lm:=@List.getElem?_append_left
def lc:=@List.append_assoc
def lU:=@World.block_lt_of_cell?
def lQ:=@List.getElem?_map
def mf:=@List.map_nil
def lZ:=@Nat.add_assoc
def l7:=@List.getElem?_drop
def ma:=@Option.map_none
def mn:=@List.drop_eq_getElem_cons
def mI:=@List.getElem?_cons_zero
def mB:=@Nat.zero_le
def nj:=@List.map_toArray
def mS:=@List.getElem?_set_ne
def mT:=@Nat.zero_lt_of_lt
def ng:=@Nat.succ_pos
def m0:=@Int.natCast_mul
def nc:=@List.getElem?_eq_none
def m5:=@List.size_toArray
def mO:=@List.length_singleton
def mQ:=@List.ext_getElem?
def nT:=@Nat.pow_le_pow_right
def oo:=@Nat.eq_of_testBit_eq
def nX:=@List.length_drop
def oa:=@Nat.add_mul
def nM:=@List.map_append
def oh:=@List.mem_iff_getElem?
def nH:=@List.eraseIdx_cons_zero
def pf:=@Prod.mk.injEq
def oZ:=@List.cons_append
def oV:=@List.set_append_right
def po:=@List.mem_or_eq_of_mem_set
def oT:=@Bool.eq_iff_iff
def oM:=@if_false
def qa:=@Below.refl
def pI:=@beq_eq_false_iff_ne
def pU:=@Below.heap_setCell
def pE:=@Bool.or_false
def qg:=@Nat.lt_or_ge
def qj:=@List.length_replicate
def pT:=@List.getElem?_cons_succ
def pS:=@List.getElem?_take_of_lt
def pQ:=@List.filter_cons
def pG:=@Bool.and_true
def qA:=@Nat.testBit_two_pow_sub_one
def rC:=@List.eq_nil_of_length_eq_zero
def qW:=@heap_alloc_new
def rr:=@List.not_mem_nil
def rh:=@List.drop_zero
def qX:=@List.foldl_cons
def qN:=@List.eq_of_mem_replicate
def qV:=@Nat.mod_le
def ri:=@DataW.trod_int
def rc:=@decide_true
def qr:=@Bool.and_false
def qp:=@Int.le_trans
def rz:=@List.mem_append_left
def ry:=@List.pairwise_cons
def so:=@Nat.lt_of_lt_of_le
def sm:=@Nat.testBit_or
def tg:=@Nat.add_zero
def r6:=@List.mem_flatMap
def sW:=@List.drop_of_length_le
def sy:=@List.getElem?_eraseIdx
def sU:=@List.mem_of_mem_drop
def sw:=@Nat.le_total
def sV:=@List.flatMap_append
def sR:=@List.take_append_drop
def tn:=@Option.getD_some
def rK:=@List.append_nil
def sH:=@Nat.xor_lt_two_pow
def si:=@Bool.false_and
def sM:=@decide_false
def sd:=@List.length_range
def te:=@List.getElem?_of_mem
def sn:=@List.getElem?_set
def tY:=@Nat.zero_mul
def uK:=@Nat.testBit_mod_two_pow
def vc:=@decide_eq_decide
def ui:=@Bool.false_or
def uT:=@List.take_succ_cons
def uc:=@Array.getElem?_toList
def uS:=@List.all_eq_true
def uL:=@Nat.sub_self
def uf:=@List.length_nil
def wO:=@Nat.zero_testBit
def wX:=@ByteArray.size_extract
def w8:=@Nat.testBit_mul_two_pow
def xG:=@Nat.testBit_eq_decide_div_mod_eq
def vJ:=@List.map_congr_left
def wR:=@Array.getElem?_eq_some_iff
def wQ:=@List.getElem_mem
def vM:=@Nat.zero_lt_succ
def v8:=@Nat.add_sub_cancel_left
def vx:=@toList_madeCells_one
def wM:=@Nat.lt_trichotomy
def wk:=@Int.natCast_ediv
def xg:=@Array.replicate_succ
def wv:=@Array.replicate_zero
def vV:=@List.push_toArray
def xx:=@List.append_toArray
def vG:=@List.mem_filter
def vH:=@List.mem_flatten
def wy:=@Nat.and_two_pow_sub_one_eq_mod
def xK:=@Int.ofNat_tdiv
def zg:=@Nat.mul_le_mul_right
def Aw:=@decide_eq_false_iff_not
def ze:=@Nat.min_eq_right
def yv:=@List.foldl_append
def AO:=@List.flatMap_cons
def AL:=@List.set_append_left
def AH:=@Array.setIfInBounds_comm
def zB:=@World.cell?_setCell_same'
def z4:=@List.findIdx?_eq_some_iff_getElem
def x9:=@List.findIdx?_eq_none_iff
def yA:=@List.reverse_append
def yM:=@List.any_eq_false
def zu:=@Nat.add_sub_cancel
def z5:=@List.mem_reverse
def Ae:=@List.Sublist.refl
def EI:=@Nat.testBit_lt_two_pow
def Bm:=@World.cell?_of_block
def CI:=@Int.tmod_eq_emod_of_nonneg
def C3:=@List.reverse_singleton
def EM:=@List.getElem_append_left
def Ny:=@Array.all_eq_true_iff_forall_mem
def GR:=@List.take_append_of_le_length
def LQ:=@List.set_eq_take_append_cons_drop
end
open Go.Proofs.Tryz
open Go.RowKit
def F:=@rfl
variable {G R:Prop}
section
variable {p:Prop}
def O (h:p:=by omega):=h
def ag (h:p:=by decide):=h
def aj (h:p:=by kernel_rfl):=h
def ax (h:p:=by rfl):=h
def aF (h:p:=by simp):=h
def bx (h:p:=by exact fd):=h
def bI (h:p:=by assumption):=h
def eT (h:p:=by unfold maxLen;omega):=h
def eS (h:p:=by simp only [kD,i8.feO,i8.stO,i8.reO,bO,zL];exact lN):=h
def eX (h:p:=by simp;omega):=h
def fK (h:p:=by cases h):=h
def gn (h:p:=by (first|exact nA.of_none F|exact nA.of_some F F)):=h
def jc (h:p:=by dsimp only;omega):=h
def l5 (h:p:=by first|assumption|omega):=h
def nh (h:p:=by rw [zf];exact hm):=h
def mU (h:p:=by simp only [kD,zL];exact lN):=h
def nK (h:p:=by rw [hel];exact hu):=h
def ox (h:p:=by split <;> omega):=h
def nF (h:p:=by simp only [kD,ie.feO,ie.stO,ie.reO,bO,zL];exact lN):=h
def pB (h:p:=by unfold cQ;omega):=h
def oO (h:p:=by rw [hE]):=h
def oK (h:p:=by cases he):=h
def pR (h:p:=by rw [hl];omega):=h
def pZ (h:p:=by simpa using h):=h
def qm (h:p:=by simp only [kD,i8.stO,i8.reO,bO,zL];exact lN):=h
def qz (h:p:=by rw [cW];omega):=h
def rA (h:p:=by have:=Hn.out;omega):=h
def sS (h:p:=by rw [cK];omega):=h
def tD (h:p:=by simp only [kD,i8.feO,bO,zL];exact lN):=h
def uJ (h:p:=by have:=hn.out;omega):=h
def vq (h:p:=by simp [Value.oneCell']):=h
def xR (h:p:=by rw [ly];omega):=h
def xr (h:p:=by rw [pe];omega):=h
def vS (h:p:=by rw [qI.out]):=h
def vL (h:p:=by rw [kA,j0.out];exact aM _):=h
def xW (h:p:=by rw [pp.out,KU,cw,v4]):=h
def wV (h:p:=by simp [hrl.out];try omega):=h
def xJ (h:p:=by simp;try omega):=h
def yG (h:p:=by simpa using hx):=h
def AM (h:p:=by rw [h] at hr;cases hr):=h
def xX (h:p:=by rw [ly];exact Hk.out):=h
def yp (h:p:=by simpa using hk):=h
def yR (h:p:=by have:=kh.out;omega):=h
def zH (h:p:=by have:=Ba hR hl;omega):=h
def yx (h:p:=by rw [hB];rfl):=h
def zD (h:p:=by simp only [kD,j5.feO,j5.stO,j5.reO,bO,zL];exact lN):=h
def yY (h:p:=by rw [<- hR];subst hz;rfl):=h
def yw (h:p:=by (first|exact X6|exact P1|exact RI|exact Sb|exact tySl_32|exact tySl_33|exact Z8|exact Xa|exact tySl_40|exact Q9|exact Vc|exact tySl_99|exact tySl_104|exact W6|exact tySl_207)):=h
def CU (h:p:=by first|assumption):=h
def Dw (h:p:=by rw [hx];simp [cu,kv]):=h
def CX (h:p:=by rw [ho];intro c wT;cases wT):=h
def Cj (h:p:=by rw [ea,<- hm.out];rfl):=h
def Bz (h:p:=by have:=hk.buslen;have:=hk.bound;omega):=h
def Bn (h:p:=by rw [eF];exact ez _ hx):=h
def Ed (h:p:=by have:=gV.out;rwa [lK] at this):=h
def BP (h:p:=by simp only [kD,zL];exact au):=h
def Ci (h:p:=by rw [eF];exact ee ..):=h
def CL (h:p:=by rw [kF,aa hj];exact hf):=h
def Dp (h:p:=by rw [<- jP,e];rfl):=h
def Ck (h:p:=by rw [hR.out,show k.conf.width.toNat - (j+1)=m by omega]):=h
def Ew (h:p:=by show (0:Int)<1;omega):=h
def HY (h:p:=by rcases hu with rfl|rfl|rfl <;> decide):=h
def F0 (h:p:=by (first|exact AP _|exact JY _|exact Cw _|exact AR _|exact B6 _|assumption)):=h
def GX (h:p:=by rw [(E.bkAt aC).cell];exact hv):=h
def Gt (h:p:=by rw [<- vm.out];exact IV hu (.inl hb)):=h
def IX (h:p:=by have:=(aK.1 hj).1;simpa using this):=h
def JB (h:p:=by injection h with h;subst h;exact absurd h2 (by simpa using h5)):=h
def Fr (h:p:=by rw [cN _ _ _ _ _ hj (by omega) p20,wO]):=h
end
def bH {Y':World->Prop} (h:∀ (_:Nat) w,Y' w):∀ w,Y' w:=h 0
def DF {Y':Prop} (w:World) (h:∀ (_:Nat) (_:World),Y'):Y':=h 0 w
def cM {p:Prop} (h:p:=by ((repeat (first|exact cE|refine eZ au ?_)) <;> exact cE)):p:=h
abbrev I6 (x:Int):Prop:= -9223372036854775808<=x/\x<=9223372036854775807
abbrev I (x:Int):Value:=.int .i64 x
abbrev U (x:Int):Value:=.int .u32 x
abbrev Pt (g o:Nat):Value:=.pointer (some ⟨g,o,none⟩)
abbrev Sc (A:Option Addr) (n c:Nat):Value:=.slice A n c
def zC {α:Type} {p:α->Prop} {a:α} {l:List α} (h:p a) (t:∀ x∈l,p x):∀ x∈a::l,p x:=λx hx=>by
 rcases bB.1 hx with rfl|hx
 .exact h
 .exact t x hx
def zN {α:Type} {p:α->Prop}:∀ x∈([]:List α),p x:=λx hx=>by cases hx
def zM {p:Prop} (h:p:=by first|(simp [intOf];done)|(simp [intOf];omega)):p:=h
def zA : ((∀ (a:Act) (t:Tmp) (v:Value),a.put (some t) v={ a with tmps:=a.tmps.setIfInBounds t v })/\(∀ (a:Act) (v:Value),a.put none v=a))/\(∀ {α:Type} (l:List α) (i:Nat) (x:α),l.toArray.setIfInBounds i x=(l.set i x).toArray)/\(∀ {α:Type} (x y:α) (l:List α),(x::l).set 0 y=y::l)/\(∀ {α:Type} (x y:α) (l:List α) (n:Nat),(x::l).set (n+1) y=x::l.set n y)/\(∀ n:Nat,0+n=n)/\(∀ n:Nat,0 * n=0) :=
 ⟨⟨λ_ _ _=>rfl,λ_ _=>rfl⟩,λ_ _ _=>List.setIfInBounds_toArray ..,λ_ _ _=>rfl,λ_ _ _ _=>rfl,jR,tY⟩
def zs {a b:Prop} (h:b) (e:a=b:=by (try simp only [zA,Nat.reduceAdd]) <;> exact rfl):a:=e ▸ h
def zL : (∀ {α:Type} (a:α) (l m:List α),(a::l)++m=a::(l++m))/\(∀ {α:Type} (l:List α),[]++l=l) :=
 ⟨λ_ _ _=>rfl,λ_=>rfl⟩
def zF : (∀ {α:Type} (x y:α) (l:List α),(x::l).set 0 y=y::l)/\(∀ {α:Type} (x y:α) (l:List α) (n:Nat),(x::l).set (n+1) y=x::l.set n y)/\(∀ {α:Type} (x:α) (l:List α),(x::l).eraseIdx 0=l)/\(∀ {α:Type} (x:α) (l:List α) (n:Nat),(x::l).eraseIdx (n+1)=x::l.eraseIdx n) :=
 ⟨λ_ _ _=>rfl,λ_ _ _ _=>rfl,λ_ _=>rfl,λ_ _ _=>rfl⟩
def au {α:Type} {x:α} {l:List α} (h:List.Mem x l:=by ((repeat (first|exact ej _|refine eI _ ?_)) <;> exact ej _)):List.Mem x l:=h
section
variable (h:R)
def aA (y:R->G:=by first|exact λh=>bP F E F h|exact λh=>cV F E F h|exact λh=>pv F F h|exact λh=>EW F E F h|exact λh=>rB F E F F h|exact λh=>sk F E F h|exact λh=>fA F E F h|exact λh=>vP F E F h):=y h
def aL (y:R->G:=by first|exact λh=>bP F E F h|exact λh=>cV F E F h|exact λh=>lA F F gn h|exact λh=>FS F E F gn h|exact λh=>rB F E F F h|exact λh=>sk F E F h|exact λh=>fA F E F h|exact λh=>vP F E F h):=y h
def iP (y:R->G:=by first|exact λh=>bz F E F F h|exact λh=>aW F E F F h|exact λh=>ju F E F F h):=y h
def Y2 (y:R->G:=by first|exact λh=>gj F E F h|exact λh=>bK F E h|exact λh=>iD F E F h|exact λh=>nU F E h|exact λh=>yu F E F F h):=y h
def yb (y:R->G:=by first|exact λh=>oq F E F F h|exact λh=>tq F E F F h):=y h
def ztf (y:R->G:=by first|exact λh=>F9 F E F F h|exact λh=>ro F E F F h):=y h
def ep (y:R->G:=by first|exact λh=>iP (bH h)|exact λh=>Y2 h|exact λh=>ztf (DF (by assumption) h)):=y h
def am (y:R->G:=by first|exact λh=>ep h|exact λh=>yb h):=y h
def tp (y:R->G:=by first|exact λh=>bP F E F h|exact λh=>cV F E F h|exact λh=>sk F E F h|exact λh=>fA F E F h|exact λh=>vP F E F h):=y h
end
def fd {α:Type} {l:List α} {i:Nat} {x:α} (h:l[i]?=some x:=by (first|exact aC|exact dD|exact jh|exact kY|exact oc|exact tl|exact uA|exact at7)):l[i]?=some x:=h
section
variable (h:R)
def NI (y:R->G:=by intro h;exact tX ax 101 (.tmp 13) ax g (o+k * 3) ax v.cells v.val F jH.out w9 h):=y h
def Xz (y:R->G:=by intro h;exact tX ax 101 (.tmp 51) ax g (o+j * 3) ax v.cells v.val F jH.out w9 h):=y h
def Ia (y:R->G:=by intro h;exact EB ax 35 (.tmp 2) ax w.heap.size ax 35 _ _ F jZ Mi h):=y h
def YX (y:R->G:=by intro h;exact Mm F F E yw F F n F F O eT F h):=y h
def p6 (y:R->G:=by intro h;exact xM F F F h):=y h
def T2 (y:R->G:=by intro h;exact CV F F E yw F F (m+1) O O eT h):=y h
def zg6 (y:R->G:=by intro h;exact CV F F E yw F F (l+1) O O eT h):=y h
def QS (y:R->G:=by intro h;(go_at_call 80;exact aG E (HF.out _ E.rds) h)):=y h
def XJ (y:R->G:=by intro h;first|(go_at_call 80;exact aG E (HF.out _ E.rds) (bH h))|exact BK F E F F (bH h)|exact mb m F E F F h):=y h
def Hv (y:R->G:=by intro h;first|exact tX F 54 (.tmp 10) ax g (o+k * 17) ax e.cells e.val F jH.out vo h|exact EB F 54 (.tmp 4) ax wr.heap.size ax 54 e.cells e.val F hk1 vo h):=y h
def KQ (y:R->G:=by intro h;exact rM F 104 9 5 _ ax underlying104 underlying5 underlying9 (uR.out _ KV) ax h):=y h
def WG (y:R->G:=by intro h;exact fA (us:=[I p1,I p2]) (hu:=Rows.sub (f:=dk) hu) F E F h):=y h
def g1y (y:R->G:=by intro h;exact fA (us:=[I p1,I (m:Int)]) (hu:=Rows.sub (f:=dk) hu) F E F h):=y h
def ov (y:R->G:=by intro h;exact aA h):=y h
def bJ (y:R->G:=by intro h;exact ep h):=y h
def aq (y:R->G:=by intro h;exact yb h):=y h
def Ds (y:R->G:=by intro h;exact pv F F h):=y h
def Cb (y:R->G:=by intro h;exact bz F E F F h):=y h
def E5 (y:R->G:=by intro h;first|exact pv F F h|exact bP F E F h|exact cV F E F h):=y h
def Ea (y:R->G:=by intro h;first|exact bz F E F F h|exact aW F E F F h):=y h
def Y6 (y:R->G:=by intro h;first|(go_at_call 149;exact aG E (jT.out _) (bH h))|exact ep h):=y h
def YN (y:R->G:=by intro h;first|exact Uq F F underlying3 underlying28 h|exact aA h):=y h
def E7 (y:R->G:=by intro h;first|exact xE p1 F F F h|exact xE q1 F F F h|exact yD p2 F F F h|exact yD q2 F F F h):=y h
def g2b (y:R->G:=by intro h;exact mb 2 F E F F h):=y h
def g2c (y:R->G:=by intro h;exact mb n F E F F h):=y h
def z0 (y:R->G:=by intro h;first|exact fj F F F h|exact vT F F F h|exact aL h):=y h
def Gb (y:R->G:=by intro h;first|exact mb (n:=N) F E F F h|exact ep h):=y h
def KM (y:R->G:=by intro h;first|exact mb (n:=T) F E F F h|exact ep h):=y h
def fa (y:R->G:=by intro h;first|exact fj F F F h|exact aL h):=y h
def QE (y:R->G:=by intro h;first|exact fj F F F h|exact wL F F F h|exact SF F F F h|exact aL h):=y h
def E9 (y:R->G:=by intro h;exact fA (us:=[U (pa:Int),.string pd]) (hu:=Rows.sub (f:=bD) hu) F E F h):=y h
def WL (y:R->G:=by intro h;exact Y9 F E F F h):=y h
def Su (y:R->G:=by intro h;exact w_string F E F h):=y h
def Zw (y:R->G:=by intro h;exact fA (us:=[I 4,U (rl:Int),I rt,.string rd]) (hu:=Rows.sub (f:=bg) hu) F E F h):=y h
def Q3 (y:R->G:=by intro h;first|exact fA (us:=[I rk,U (rl:Int),I rt,.string rd]) (hu:=Rows.sub (f:=bg) hu) F E F h|exact qi F F F h):=y h
def g2i (y:R->G:=by intro h;exact fA (us:=[U (ul:Int),.bool ud,.string ub]) (hu:=Rows.sub (f:=bv) hu) F E F h):=y h
def Wx (y:R->G:=by intro h;first|exact Wq F F F h|exact Pc F F F h|exact yD (N:Int) F F F h):=y h
def TY (y:R->G:=by intro h;exact xE (M:Int) F F F h (hN:=hM.out)):=y h
def Wn (y:R->G:=by intro h;exact yu (n:=n+1) F E F F h):=y h
def Ux (y:R->G:=by intro h;(go_at_call 120;exact aG E (HR.out _ E.rds) h)):=y h
def GD (y:R->G:=by intro h;first|(go_at_call 120;exact aG E (HR.out _ E.rds) h)|(go_at_call 80;exact aG E (pl.out _ E.rds) h)):=y h
def M2 (y:R->G:=by intro h;first|exact mb (n:=n) F E F F h|exact BK F E F F (bH h)|exact ep h):=y h
def xC (y:R->G:=by intro h;(go_at_call 39;exact aG E (HK.out _) h)):=y h
def PA (y:R->G:=by intro h;(go_at_call 212;exact aG E (HN.out _) h)):=y h
def XI (y:R->G:=by intro h;first|(go_at_call 39;exact aG E (HK.out _) h)|(go_at_call 43;exact aG E (HW.out _) h)):=y h
def Q2 (y:R->G:=by intro h;exact rM F 104 9 5 _ ax underlying104 underlying5 underlying9 Hr.out ax h):=y h
def xY (y:R->G:=by intro h;first|(go_at_call 39;exact aG E (HK.out _) h)|(go_at_call 43;exact aG E (HW.out _) h)|(go_at_call 44;exact aG E (HZ.out _) h)):=y h
def TB (y:R->G:=by intro h;(go_at_call 129;exact aG E (HB.out _) h)):=y h
def ot (y:R->G:=by intro h;first|exact fj F F F h|exact du (v:=.agg #[I op,I rd,I rs1,I rs2,U (imm:Int)]) (n:=5) F E F h (hn:=ce F)|exact aL h):=y h
def Ug (y:R->G:=by intro h;first|(go_at_call 39;exact aG E (HK.out _) (bH h))|(go_at_call 43;exact aG E (HW.out _) (bH h))|(go_at_call 44;exact aG E (HZ.out _) (bH h))|(go_at_call 121;exact aG E (HL.out _) (bH h))|(go_at_call 128;exact aG E (HO.out _) (bH h))|exact ep h):=y h
def tv (y:R->G:=by intro h;(go_at_call 127;exact aG E (HL.out _ E.rdA E.rdA) h)):=y h
def LU (y:R->G:=by intro h;first|exact bz F E F F (bH h) (iv:=by rw [bM];decide)|exact ep h):=y h
def CT (y:R->G:=by intro h;first|(go_at_call 123;exact aG E (HA.out _ E.rds E.rdA E.rdA) h)|(go_at_call 44;exact aG E (Bt.out _) h)):=y h
def Ti (y:R->G:=by intro h;first|exact Vr F F F F h|exact aL h):=y h
def nB (y:R->G:=by intro h;exact aL h):=y h
def OP (y:R->G:=by intro h;first|(go_at_call 58;exact aG E (H1.out _) (bH h))|(go_at_call 59;exact aG E (H2.out _) (bH h))|(go_at_call 60;exact aG E (H3.out _) (bH h))|(go_at_call 61;exact aG E (H4.out _) (bH h))|exact bz F E F F (bH h) (iv:=by (try simp only [cw]);rw [bM];decide)|exact ep h):=y h
def LE (y:R->G:=by intro h;first|exact fj F F F h|exact du (v:=.agg #[I k.dways,.slice s.dA k.data.length s.dC]) (n:=2) F E F h (hn:=by rw [bM];decide)|exact AE F F F h|exact qi F F F h|exact iH F E F F h|exact lk (us:=[I no,U (pc:Int),I op,I rd,I rs1,I rs2,U (imm:Int),U (guess:Int),I is,I left,U (value:Int),U (next:Int),U (addr:Int),I halt,I took,.bool known,.bool false]) (hu:=Rows.sub (f:=ens) hu) F E F h|exact aL h):=y h
def pV (y:R->G:=by intro h;first|(go_at_call 80;exact aG E (pl.out _ E.rds) (bH h))|exact ep h):=y h
def yt (y:R->G:=by intro h;first|exact fj F F F h|exact du (v:=.agg #[I k.dways,.slice s.dA k.data.length s.dC]) (n:=2) F E F h (hn:=by rw [bM];decide)|exact AE F F F h|exact qi F F F h|exact iH F E F F h|exact lk (us:=[I no,U (pc:Int),I op,I rd,I rs1,I rs2,U (imm:Int),U (guess:Int),I is,I left,U (value:Int),U (next:Int),U (addr:Int),I halt,I took,.bool known,.bool true]) (hu:=Rows.sub (f:=ens) hu) F E F h|exact aL h):=y h
def xn (y:R->G:=by intro h;first|exact fj F F F h|exact fM F F F h|exact aL h|exact rB (k:=0) F E F F h (ik:=eW)):=y h
def Bu (y:R->G:=by intro h;first|exact fj F F F h|exact AE F F F h|exact qi F F F h|exact fM F F F h|exact du (v:=.agg #[I k2.dways,.slice s2.dA k2.data.length s2.dC]) (n:=2) F E F h (hn:=by rw [bM];decide)|exact aL h):=y h
def Ez (y:R->G:=by intro h;first|(go_at_call 87;exact aG E (lH.out _ E.rds) (bH h))|exact ep h):=y h
def wZ (y:R->G:=by intro h;first|(go_at_call 79;exact aG E (iO.out _ E.rdA) (bH h))|(go_at_call 138;exact aG E (dz.out _ E.rdA) (bH h))|exact ep h):=y h
def xI (y:R->G:=by intro h;first|exact fj F F F h|exact dU F F F h|exact cT F F F h|exact AE F F F h|exact qi F F F h|exact fw F F F h|exact aL h):=y h
def XN (y:R->G:=by intro h;first|exact bz F E F F (bH h) (iv:=by (try simp only [cw]);rw [bM];decide)|exact ro (k:=1) F E F F (DF (by assumption) h)|exact ep h):=y h
def VA (y:R->G:=by intro h;first|exact fj F F F h|exact cT F F F h|exact aL h):=y h
def WC (y:R->G:=by intro h;first|exact fj F F F h|exact zS F F F h|exact aL h):=y h
def QJ (y:R->G:=by intro h;first|(go_at_call 55;exact aG E (HR.out _) (bH h))|(go_at_call 39;exact aG E (HK.out _) (bH h))|exact ep h):=y h
def wu (y:R->G:=by intro h;first|exact fj F F F h|exact fM F F F h|exact zS F F F h|exact xM F F F h|exact aL h):=y h
def vC (y:R->G:=by intro h;first|exact yu (n:=5) F E F F h|exact mb 8 F E F F h|(go_at_call 55;exact aG E (HR.out _) (bH h))|(go_at_call 39;exact aG E (HK.out _) (bH h))|(go_at_call 130;exact aG E (HS.out _) (bH h))|(go_at_call 131;exact aG E (HC.out _) (bH h))|(go_at_call 132;exact aG E (HB.out _) (bH h))|exact BK F E F F (bH h)|exact jd F E F F (bH h) (i8:=by rw [KU,v4];show s * 2+2<=8 * 2;omega)|exact ep h):=y h
def s9 (y:R->G:=by intro h;first|exact fj F F F h|exact fM F F F h|exact qi F F F h|exact aL h):=y h
def se (y:R->G:=by intro h;first|(go_at_call 55;exact aG E (HR.out _) (bH h))|(go_at_call 39;exact aG E (HK.out _) (bH h))|(go_at_call 132;exact aG E (HB.out _) (bH h))|exact ep h):=y h
def NR (y:R->G:=by intro h;(go_at_call 130;exact aG E (HS.out _) h)):=y h
def C9 (y:R->G:=by intro h;first|exact fj F F F h|exact dU F F F h|exact aL h):=y h
def xc (y:R->G:=by intro h;first|(go_at_call 138;exact aG E (dz.out _ E.rdA) (bH h))|(go_at_call 39;exact aG E (HK.out _) (bH h))|exact bz F E F F (bH h) (iv:=by rw [bM];decide)|exact ep h):=y h
def UT (y:R->G:=by intro h;first|exact fj F F F h|exact dU F F F h|exact bP (v:=.bool true) F E F h (hv:=B5)|exact aL h):=y h
def Pe (y:R->G:=by intro h;(go_at_call 143;exact aG E (HN.out _ E.rdA E.rdA) h)):=y h
def Qh (y:R->G:=by intro h;first|exact fj F F F h|exact dU F F F h|exact bP (v:=.bool false) F E F h (hv:=B5)|exact aL h):=y h
def Om (y:R->G:=by intro h;(go_at_call 144;exact aG E (HT.out _ E.rdA E.rdA) h)):=y h
def UW (y:R->G:=by intro h;first|exact zS F F F h|exact aL h):=y h
def oG (y:R->G:=by intro h;first|exact dU F F F h|exact cT F F F h|exact aL h):=y h
def CP (y:R->G:=by intro h;(go_at_call 79;exact aG E (lO.out _ E.rdA) h)):=y h
def v9 (y:R->G:=by intro h;first|exact bz F E F F (bH h) (iv:=by (try simp only [cw]);rw [bM];decide)|exact ep h):=y h
def CY (y:R->G:=by intro h;first|exact du (v:=.agg #[I k1.wways,.slice s1.wA k1.words.length s1.wC]) (n:=2) F E F h (hn:=by rw [bM];decide)|exact aL h):=y h
def g3d (y:R->G:=by intro h;first|exact cT F F F h|exact aL h):=y h
def Dh (y:R->G:=by intro h;first|(go_at_call 39;exact aG E (HK.out _) h)|(go_at_call 17;exact aG E (mW.out _) h)):=y h
def Pg (y:R->G:=by intro h;exact xE N F F F h (hN:=ml.out)):=y h
def G9 (y:R->G:=by intro h;(go_at_call 108;exact aG E (HM.out _ E.rdA) h)):=y h
def DI (y:R->G:=by intro h;(go_at_call 174;exact aG E (Ag.out _) h)):=y h
def g3f (y:R->G:=by intro h;first|(go_at_call 174;exact aG E (Ag.out _) h)|(go_at_call 13;exact aG E (HV.out _ E.rdA) h)):=y h
def SX (y:R->G:=by intro h;first|exact fj F F F h|exact OH F F F underlying29 aj h|exact aL h):=y h
def Ov (y:R->G:=by intro h;first|(go_at_call 108;exact aG E (HM.out _ E.rdA) (bH h))|exact gj (cs:=ai regs) F E F h|exact ep h):=y h
def g3i (y:R->G:=by intro h;first|exact fj F F F h|exact fA (us:=[I op,I rd,I rs1,I rs2,U (imm:Int)]) (hu:=Y7 hu) F E F h|exact cV (v:=.agg (ai regs).toArray) F E F h (ht:=by rw [lY,hl];exact jo _ _ F)|exact aL h):=y h
def Xu (y:R->G:=by intro h;first|(go_at_call 17;exact aG E (jT.out _) (bH h))|exact gj (cs:=ai regs) F E F h|exact ep h):=y h
def yK (y:R->G:=by intro h;first|exact fj F F F h|exact du (v:=.agg #[I op,I rd,I rs1,I rs2,U (imm:Int)]) (n:=5) F E F h (hn:=ce F)|exact iH F E F F h|exact lk (us:=[I no,U (pc:Int),I op,I rd,I rs1,I rs2,U (imm:Int),U (guess:Int),I 0,I left,U (value:Int),U (next:Int),U (addr:Int),I halt,I took,.bool known,.bool filled]) (hu:=Rows.sub (f:=ens) hu) F E F h|exact aL h):=y h
def xq (y:R->G:=by intro h;first|(go_at_call 17;exact aG E (vz.out _) (bH h))|(go_at_call 39;exact aG E (HK.out _) (bH h))|exact ep h):=y h
def Vp (y:R->G:=by intro h;first|exact fj F F F h|exact du (v:=.agg #[I op,I rd,I rs1,I rs2,U (imm:Int)]) (n:=5) F E F h (hn:=ce F)|exact iH F E F F h|exact lk (us:=[I no,U (pc:Int),I op,I rd,I rs1,I rs2,U (imm:Int),U (guess:Int),I is,I left,U (value:Int),U (next:Int),U (addr:Int),I halt,I took,.bool known,.bool filled]) (hu:=Rows.sub (f:=ens) hu) F E F h|exact aL h):=y h
def oE (y:R->G:=by intro h;first|(go_at_call 39;exact aG E (HK.out _) (bH h))|exact ep h):=y h
def yf (y:R->G:=by intro h;first|exact fj F F F h|exact fA (us:=[I no,U (pc:Int),I op,I rd,I rs1,I rs2,U (imm:Int),U (guess:Int),I is,I left,U (value:Int),U (next:Int),U (addr:Int),I halt,I took,.bool known,.bool filled]) (hu:=Rows.sub (f:=ens) hu) F E F h|exact aL h):=y h
def rJ (y:R->G:=by intro h;first|exact fj F F F h|exact dU F F F h|exact cT F F F h|exact fw F F F h|exact iH F E F F h|exact lk (us:=e.cells) (v:=e.val) (hu:=Rows.sub (f:=ens) hu) F E F h|exact du (v:=e.inst.val) (n:=5) F E F h (hn:=ce F)|exact aL h):=y h
def sZ (y:R->G:=by intro h;first|exact aW F E F F (bH h)|(go_at_call 39;exact aG E (HK.out _) (bH h))|(go_at_call 17;exact aG E (vz.out _) (bH h))|exact ep h):=y h
def UR (y:R->G:=by intro h;(go_at_call 69;exact aG E (DC.out _) h)):=y h
def Zi (y:R->G:=by intro h;(go_at_call 70;exact aG E (lf.out _) h)):=y h
def Jh (y:R->G:=by intro h;first|exact fj F F F h|exact dU F F F h|exact cT F F F h|exact fw F F F h|exact iH F E F F h|exact qL F E F h|exact sK (v:=U (e.next:Int)) F E F h (hv:=hnxt)|exact aL h):=y h
def IE (y:R->G:=by intro h;(go_at_call 43;exact aG E (HW.out _) h)):=y h
def KJ (y:R->G:=by intro h;first|exact dU F F F h|exact cT F F F h|exact fw F F F h|exact co F F F h|exact lA F F gn h|exact bP F E F h|exact cV F E F h|exact iH (k:=0) F E F F h (hl:=il) (ik:=eW)|exact qL F E F h (hl:=il)|exact sK (v:=I e.is) F E F h (hv:=gY)):=y h
def GM (y:R->G:=by intro h;first|(go_at_call 14;exact aG E (fZ.out _) (bH h))|exact bK F E h):=y h
def j7a (y:R->G:=by intro h;first|(go_at_call 14;exact aG E (fZ.out _) h)|exact aW (us:=e.cells) F E F F h (h1:=λu hu=>.inl (e.one u hu))|exact aW (us:=t.cells) F E F F h (h1:=λu hu=>.inl (t.one u hu))|exact bK F E h):=y h
def j7b (y:R->G:=by intro h;first|exact lA F F gn h|exact bP F E F h|exact cV F E F h|exact iH (k:=0) F E F F h (hl:=il) (ik:=eW)|exact lk (us:=e.cells) (v:=e.val) (hu:=uZ) F E F h):=y h
def KC (y:R->G:=by intro h;first|exact lA F F gn h|exact bP F E F h):=y h
def Le (y:R->G:=by intro h;(go_at_call 73;exact aG E (vW.out _) h)):=y h
def g3n (y:R->G:=by intro h;first|exact U4 (k:=1) F E F F (DF (by assumption) h)|exact bz F E F F (bH h) (iv:=by (try simp only [cw]);rw [bM];decide)):=y h
def OI (y:R->G:=by intro h;first|exact dU F F F h|exact cT F F F h|exact fw F F F h|exact co F F F h|exact aL h):=y h
def sx (y:R->G:=by intro h;first|exact co F F F h|exact cT F F F h|exact aL h):=y h
def uC (y:R->G:=by intro h;first|exact aW F E F F (bH h)|exact bz F E F F (bH h) (iv:=by (try simp only [cw]);rw [bM];decide)|exact ep h):=y h
def xf (y:R->G:=by intro h;first|exact lA F F gn h|exact bP F E F h|exact co F F F h|exact cT F F F h|exact iH F E F F h|exact lk (us:=e.cells) (v:=e.val) (hu:=Rows.sub (f:=ens) hu) F E F h):=y h
def xo (y:R->G:=by intro h;first|exact bK F E h|exact aW F E F F (bH h)|exact bz F E F F (bH h)):=y h
def KB (y:R->G:=by intro h;(go_at_call 63;exact aG E (ed.out _) h)):=y h
def xv (y:R->G:=by intro h;(go_at_call 64;exact aG E (iQ.out _) h)):=y h
def RM (y:R->G:=by intro h;exact wL F F F h):=y h
def Vl (y:R->G:=by intro h;first|exact fj F F F h|exact rS F F underlying28 underlying181 h|exact cT F F F h|exact Sw F F F h|exact fM F F F h):=y h
def j7c (y:R->G:=by intro h;first|exact lA F F gn h|exact bP F E F h|exact iH F E F F h|exact lk (us:=e.cells) (v:=e.val) (hu:=Rows.sub (f:=ens) hu) F E F h):=y h
def j7d (y:R->G:=by intro h;first|exact bK F E h|exact aW (us:=e.cells) F E F F h (h1:=λu hu=>.inl (e.one u hu))):=y h
def Lt (y:R->G:=by intro h;first|exact co F F F h|exact dU F F F h|exact bP F E F h (hv:=by with_reducible assumption)|exact lA F F gn h|exact bP F E F h):=y h
def Ge (y:R->G:=by intro h;exact iD F E F h):=y h
def Fk (y:R->G:=by intro h;first|exact lA F F gn h|exact bP F E F h|exact iH F E F F h|exact qL F E F h):=y h
def LV (y:R->G:=by intro h;exact w_st1R F E F F h):=y h
def Kg (y:R->G:=by intro h;first|(go_at_call 39;exact aG E (HK.out _) h)|(go_at_call 43;exact aG E (HW.out _) h)|(go_at_call 180;exact aG E (HV.out _) h)|(go_at_call 182;exact aG E (HG.out _) h)):=y h
def uB (y:R->G:=by intro h;(go_at_call 44;exact aG E (HZ.out _) h)):=y h
def j7e (y:R->G:=by intro h;first|exact lA F F gn h|exact du (v:=e.inst.val) (n:=5) F E F h (hn:=ce F)|exact bP F E F h):=y h
def N5 (y:R->G:=by intro h;(go_at_call 135;exact aG E (uU.out _) h)):=y h
def j7f (y:R->G:=by intro h;first|exact co F F F h|exact lA F F gn h|exact du (v:=e.inst.val) (n:=5) F E F h (hn:=ce F)|exact bP F E F h):=y h
def WT (y:R->G:=by intro h;(go_at_call 137;exact aG E (lf.out _) h)):=y h
def om (y:R->G:=by intro h;first|(go_at_call 134;exact aG E (HU.out _) (bH h))|exact Ua (t:=195) F E F F F underlying195 ag F O O O nm hD F F (bH h)|exact ep h):=y h
def DL (y:R->G:=by intro h;first|exact dU F F F h|exact co F F F h|exact cT F F F h|exact aL h):=y h
def AW (y:R->G:=by intro h;first|exact dU F F F h|exact co F F F h|exact cT F F F h|exact iH F E F F h|exact xM F F F h|exact bP F E F h (hv:=by with_reducible assumption)|exact lk (us:=e.cells) (v:=e.val) (hu:=Rows.sub (f:=ens) hu) F E F h|exact du (v:=e.inst.val) (n:=5) F E F h (hn:=ce F)|exact aL h):=y h
def An (y:R->G:=by intro h;exact mb (n:=k.rob.length) F E F F h (he:=Dj _)):=y h
def Ax (y:R->G:=by intro h;exact mb (n:=k.rob.length) F E F F h (he:=B2 _)):=y h
def Az (y:R->G:=by intro h;first|exact aW (us:=e.cells) F E F F (bH h) (h1:=λu hu=>.inl (e.one u hu))|(go_at_call 39;exact aG E (HK.out _) (bH h))|exact bz F E F F (bH h) (iv:=zj)|exact bz F E F F (bH h) (iv:=zi)|exact ep h):=y h
def j7g (y:R->G:=by intro h;first|exact dU F F F h|exact co F F F h|exact cT F F F h|exact sk F E F h (hv:=hx2)|exact aL h):=y h
def EG (y:R->G:=by intro h;(go_at_call 38;exact aG E (HS.out _ E.rdA) h)):=y h
def QC (y:R->G:=by intro h;first|exact co F F F h|exact fM F F F h|exact fw F F F h|exact cT F F F h|exact aL h):=y h
def Sy (y:R->G:=by intro h;first|(go_at_call 120;exact aG E (HR.out _ E.rds) (bH h))|exact ep h):=y h
def Uc (y:R->G:=by intro h;exact gj (us:=ao k s) F E F h):=y h
def yV (y:R->G:=by intro h;first|(go_at_call 53;exact aG E (Zy.out _ E.rdA) h)|(go_at_call 27;exact aG E (oX.out _) h)):=y h
def zG (y:R->G:=by intro h;first|exact co F F F h|exact fM F F F h|exact fw F F F h|exact cT F F F h|exact du (v:=.agg (dV k.conf s.latA s.latC s.tapeA s.tapeC).toArray) (n:=11) F E F h (hn:=by rw [bM];decide)|exact du (v:=.agg #[I k.dways,.slice s.dA k.data.length s.dC]) (n:=2) F E F h (hn:=by rw [bM];decide)|exact du (v:=.agg #[I k.wways,.slice s.wA k.words.length s.wC]) (n:=2) F E F h (hn:=by rw [bM];decide)|exact du (v:=.agg #[.slice s.slA k.guess.slots.length s.slC,U (k.guess.hist:Int),.slice s.rtA k.guess.rets.length s.rtC]) (n:=3) F E F h (hn:=by rw [bM];decide)|exact aL h):=y h
def yh (y:R->G:=by intro h;first|(go_at_call 10;exact aG E (A0.out _ E.rdA E.rdA) (bH h))|(go_at_call 55;exact aG E (Ss.out _) (bH h))|exact ep h):=y h
def FA (y:R->G:=by intro h;first|exact co F F F h|exact fM F F F h|exact fw F F F h|exact cT F F F h|exact fA (us:=e.cells) (v:=e.val) (hu:=Rows.sub (f:=ens) hu) F E F h|exact aL h):=y h
def ND (y:R->G:=by intro h;first|exact aW (us:=e.cells) F E F F (bH h) (h1:=λu hu=>.inl (e.one u hu))|exact ep h):=y h
def ME (y:R->G:=by intro h;first|exact co F F F h|exact fM F F F h|exact fw F F F h|exact cT F F F h|exact fA (us:=[U (pa:Int),.string pd]) (hu:=Rows.sub (f:=bD) hu) F E F h|exact aL h):=y h
def LA (y:R->G:=by intro h;first|(go_at_call 56;exact aG E (xO.out _) (bH h))|exact ep h):=y h
def Fu (y:R->G:=by intro h;first|exact fj F F F h|exact du (v:=.agg #[I op,I rd,I rs1,I rs2,U (imm:Int)]) (n:=5) F E F h (hn:=ce F)|exact fA (us:=[I no,U (pc:Int),I op,I rd,I rs1,I rs2,U (imm:Int),U (guess:Int),I is,I left,U (value:Int),U (next:Int),U (addr:Int),I halt,I took,.bool known,.bool filled]) (hu:=Rows.sub (f:=ens) hu) F E F h|exact aL h):=y h
def H7 (y:R->G:=by intro h;first|(go_at_call 39;exact aG E (HK.out _) (bH h))|(go_at_call 44;exact aG E (HZ.out _) (bH h))|(go_at_call 129;exact aG E (rU.out _) (bH h))|exact ep h):=y h
def Qe (y:R->G:=by intro h;first|exact fj F F F h|exact fA (us:=[U (pa:Int),.string pd]) (hu:=Rows.sub (f:=bD) hu) F E F h|exact aL h):=y h
def El (y:R->G:=by intro h;first|exact cT F F F h|exact fw F F F h|exact fA (hu:=sF) F E F h|exact aL h):=y h
def RQ (y:R->G:=by intro h;first|exact cT F F F h|exact fw F F F h|exact co F F F h|exact dU F F F h|exact fA (us:=[I fno,U (fpc:Int),I fop,I frd,I frs1,I frs2,U (fimm:Int),U (fguess:Int),I fis,I fleft,U (fvalue:Int),U (fnext:Int),U (faddr:Int),I fhalt,I ftook,.bool fknown,.bool ffilled]) (hu:=Rows.sub (f:=ens) hv) F E F h|exact du (v:=.agg #[I fop,I frd,I frs1,I frs2,U (fimm:Int)]) (n:=5) F E F h (hn:=ce F)|exact aL h):=y h
def Bc (y:R->G:=by intro h;first|exact aW F E F F (bH h)|exact ep h):=y h
def RX (y:R->G:=by intro h;first|exact cT F F F h|exact fw F F F h|exact co F F F h|exact dU F F F h|exact fA (us:=[I fno,U (fpc:Int),I fop,I frd,I frs1,I frs2,U (fimm:Int),U (fguess:Int),I fis,I fleft,U (fvalue:Int),U (fnext:Int),U (faddr:Int),I fhalt,I ftook,.bool false,.bool ffilled]) (hu:=Rows.sub (f:=ens) hv) F E F h|exact du (v:=.agg #[I fop,I frd,I frs1,I frs2,U (fimm:Int)]) (n:=5) F E F h (hn:=ce F)|exact aL h):=y h
def Jq (y:R->G:=by intro h;first|exact cT F F F h|exact fw F F F h|exact co F F F h|exact dU F F F h|exact fA (us:=[I fno,U (fpc:Int),I fop,I frd,I frs1,I frs2,U (fimm:Int),U (fguess:Int),I fis,I fleft,U (fvalue:Int),U (fnext:Int),U (faddr:Int),I fhalt,I ftook,.bool true,.bool ffilled]) (hu:=Rows.sub (f:=ens) hv) F E F h|exact du (v:=.agg #[I fop,I frd,I frs1,I frs2,U (fimm:Int)]) (n:=5) F E F h (hn:=ce F)|exact aL h):=y h
def Lb (y:R->G:=by intro h;exact gj (cs:=ao k s) F E F h):=y h
def xZ (y:R->G:=by intro h;exact bK (ty:=42) (cs:=tt) F E h):=y h
def Ou (y:R->G:=by intro h;exact cV (v:=.agg (ao k s).toArray) F E F h):=y h
def VH (y:R->G:=by intro h;exact aW (us:=ao k s) F E F F h (h1:=λu hu=>.inl (ku k s u hu))):=y h
def g4a (y:R->G:=by intro h;exact bK (ty:=81) (cs:=tt) F E h):=y h
def Uu (y:R->G:=by intro h;first|exact cV (v:=.agg (ao k s).toArray) F E F h|exact nN (cs:=ao k s) F F aj h|exact nN (cs:=nb) F F aj h|exact cV (cs:=nb) (v:=.agg nb.toArray) F E F h (ht:=Jw)|exact lA F F gn h|exact bP F E F h):=y h
def Sk (y:R->G:=by intro h;first|exact aW (us:=ao k s) F E F F h (h1:=λu hu=>.inl (ku k s u hu))|exact aW (us:=nb) F E F F h (ht:=Jw) (h1:=λu hu=>.inl (XQ u hu))|exact bz F E F F h (iv:=by rw [bM];decide)):=y h
def Wr (y:R->G:=by intro h;exact bK (cs:=[.nilFunc,.nilFunc,.nilFunc,.nilFunc,.nilFunc,.nilFunc,.nilFunc]) F E h (hz:=Z0)):=y h
def Qf (y:R->G:=by intro h;first|exact lA F F gn h|exact cV (cs:=ao (ow k0 7) s7) (v:=.agg (ao (ow k0 7) s7).toArray) F E F h):=y h
def QN (y:R->G:=by intro h;exact aW (us:=ao (ow k0 7) s7) F E F F h (h1:=λu hu=>.inl (ku (ow k0 7) s7 u hu))):=y h
def g4g (y:R->G:=by intro h;first|exact mb 8 F E F F h|exact ep h):=y h
def Pz (y:R->G:=by intro h;first|exact nN (cs:=[.slice (some ⟨Z,0,none⟩) 8 8,U 0,.slice none 0 0]) F F aj h|exact aA h):=y h
def j7h (y:R->G:=by intro h;first|exact gj F E F h|exact bK F E h|exact aW (us:=dV (bf c) Al1 cl1 At1 ct1) F E F F h):=y h
def j7i (y:R->G:=by intro h;exact cV F E F h):=y h
def g4i (y:R->G:=by intro h;first|exact gj F E F h|exact aW (us:=ao (gm c prog m) s1) F E F F (bH h) (h1:=λu hu=>.inl (ku _ _ u hu))):=y h
def Rk (y:R->G:=by intro h;first|exact cV F E F h|exact vT F F F h):=y h
def Mh (y:R->G:=by intro h;exact cV (cs:=ao (runK j k0) s) (v:=.agg (ao (runK j k0) s).toArray) F E F h):=y h
def Q' (y:R->G:=by intro h;exact aW (us:=ao (runK (j+1) k0) s2) F E F F h (h1:=λu hu=>.inl (ku _ _ u hu))):=y h
def P0 (y:R->G:=by intro h;exact aW (us:=ao (runK j k0) s) F E F F h (h1:=λu hu=>.inl (ku _ _ u hu))):=y h
def g4m (y:R->G:=by intro h;first|exact nN (cs:=dV D3 none 0 none 0) F F aj h|exact pv F F h|exact bP (v:=I 7) (hv:=ah) F E F h|exact bP (v:=.slice s1.reA 1 s1.reC) (hv:=ar s1) F E F h):=y h
def Xv (y:R->G:=by intro h;exact aW (us:=ao rn s1) F E F F h (h1:=λu hu=>.inl (ku _ _ u hu))):=y h
def j7j (y:R->G:=by intro h;first|(go_at_call 7;exact aG E (vh.out _ E.rdA) h)|exact aW (us:=ao k0 s1) F E F F h (h1:=λu hu=>.inl (ku _ _ u hu))|exact gj F E F h):=y h
def j7k (y:R->G:=by intro h;first|exact cV F E F h|exact vT F F F h|exact wL F F F h):=y h
def j7l (y:R->G:=by intro h;first|exact cV (cs:=ao (runK j k0) s) (v:=.agg (ao (runK j k0) s).toArray) F E F h|exact lA F F gn h|exact bP F E F h|exact co F F F h|exact fM F F F h|exact cT F F F h|exact dU F F F h):=y h
def j7m (y:R->G:=by intro h;first|exact cV (cs:=ao (runK j k0) s) (v:=.agg (ao (runK j k0) s).toArray) F E F h|exact du (v:=mP (runK (j+1) k0) s2) (n:=32) F E F h (hn:=by rw [bM];decide)|exact fA (us:=[I op,I rd,I r1,I r2,U (imm:Int)]) (hu:=hens) F E F h|exact bP (v:=U (v1:Int)) (hv:=q1 s2) F E F h|exact bP (v:=U (v2:Int)) (hv:=q2 s2) F E F h|exact rB (k:=0) F E F F h (ik:=eW)|exact sO (k:=r1) F F F underlying29 aj h (ik:=d1)|exact sO (k:=r2) F F F underlying29 aj h (ik:=d2)|exact lA F F gn h|exact FS F E F gn h|exact bP F E F h|exact co F F F h|exact fM F F F h|exact cT F F F h|exact dU F F F h):=y h
def j7n (y:R->G:=by intro h;first|exact aW (us:=ao (runK (j+1) k0) s2) F E F F h (h1:=λu hu=>.inl (ku _ _ u hu))|(go_at_call 17;exact aG E (jT.out _) h)):=y h
end
end Go.Proofs.YtgnomadgnciifaaGreatDoor
