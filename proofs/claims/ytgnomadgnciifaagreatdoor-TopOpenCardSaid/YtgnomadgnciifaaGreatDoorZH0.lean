/- . -/
import Derived.Test.YtgnomadgnciifaaGreatDoorProg
import Derived.Calls
import Derived.Tactics2
import Derived.Lib.Hide
/- Laws that are used throughout. -/
set_option linter.unusedVariables false
set_option linter.unusedSimpArgs false
set_option linter.unusedSectionVars false
set_option maxRecDepth 100000
set_option maxHeartbeats 16000000
namespace Go.Proofs.YtgnomadgnciifaaGreatDoor
open Go.RowKit
variable {G R:Prop}
theorem zA : ((∀ (a:Act) (t:Tmp) (v:Value),a.put (some t) v={ a with tmps:=a.tmps.setIfInBounds t v })∧(∀ (a:Act) (v:Value),a.put none v=a))∧(∀ {α:Type} (l:List α) (i:Nat) (x:α),l.toArray.setIfInBounds i x=(l.set i x).toArray)∧(∀ {α:Type} (x y:α) (l:List α),(x::l).set 0 y=y::l)∧(∀ {α:Type} (x y:α) (l:List α) (n:Nat),(x::l).set (n+1) y=x::l.set n y)∧(∀ n:Nat,0+n=n)∧(∀ n:Nat,0 * n=0) :=
 ⟨⟨fun _ _ _=>rfl,fun _ _=>rfl⟩,fun _ _ _=>List.setIfInBounds_toArray ..,fun _ _ _=>rfl,fun _ _ _ _=>rfl,Nat.zero_add,Nat.zero_mul⟩
theorem zs {a b:Prop} (h:b) (e:a=b:=by (try simp only [zA,Nat.reduceAdd]) <;> exact rfl):a:=e ▸ h
theorem zL : (∀ {α:Type} (a:α) (l m:List α),(a::l)++m=a::(l++m))∧(∀ {α:Type} (l:List α),[]++l=l) :=
 ⟨fun _ _ _=>rfl,fun _=>rfl⟩
theorem zF : (∀ {α:Type} (x y:α) (l:List α),(x::l).set 0 y=y::l)∧(∀ {α:Type} (x y:α) (l:List α) (n:Nat),(x::l).set (n+1) y=x::l.set n y)∧(∀ {α:Type} (x:α) (l:List α),(x::l).eraseIdx 0=l)∧(∀ {α:Type} (x:α) (l:List α) (n:Nat),(x::l).eraseIdx (n+1)=x::l.eraseIdx n) :=
 ⟨fun _ _ _=>rfl,fun _ _ _ _=>rfl,fun _ _=>rfl,fun _ _ _=>rfl⟩
theorem zdm {α:Type} {x:α} {l:List α} (h:List.Mem x l:=by ((repeat (first|exact List.Mem.head _|refine List.Mem.tail _ ?_)) <;> exact List.Mem.head _)):List.Mem x l:=h
theorem zrd (h:R) (y:R→G:=by first|exact fun h=>w_ld1 rfl hF rfl h|exact fun h=>w_ld rfl hF rfl h|exact fun h=>w_fldB rfl rfl h|exact fun h=>w_fld rfl hF rfl h|exact fun h=>w_ix rfl hF rfl rfl h|exact fun h=>w_lde1 rfl hF rfl h|exact fun h=>w_lde rfl hF rfl h|exact fun h=>w_ld1o rfl hF rfl h):G:=y h
theorem zrg (h:R) (y:R→G:=by first|exact fun h=>w_ld1 rfl hF rfl h|exact fun h=>w_ld rfl hF rfl h|exact fun h=>g_fldB rfl rfl (by (first|exact Wtd.of_none rfl|exact Wtd.of_some rfl rfl)) h|exact fun h=>g_fld rfl hF rfl (by (first|exact Wtd.of_none rfl|exact Wtd.of_some rfl rfl)) h|exact fun h=>w_ix rfl hF rfl rfl h|exact fun h=>w_lde1 rfl hF rfl h|exact fun h=>w_lde rfl hF rfl h|exact fun h=>w_ld1o rfl hF rfl h):G:=y h
theorem zwr (h:R) (y:R→G:=by first|exact fun h=>w_st1 rfl hF rfl rfl h|exact fun h=>w_st rfl hF rfl rfl h|exact fun h=>w_st1o rfl hF rfl rfl h):G:=y h
theorem znw (h:R) (y:R→G:=by first|exact fun h=>w_box rfl hF rfl h|exact fun h=>w_alloc rfl hF h|exact fun h=>w_bs1 rfl hF rfl h|exact fun h=>w_bs0 rfl hF h|exact fun h=>w_make0 rfl hF rfl rfl h):G:=y h
theorem zap (h:R) (y:R→G:=by first|exact fun h=>w_app rfl hF rfl rfl h|exact fun h=>w_appD rfl hF rfl rfl h):G:=y h
theorem ztf (h:R) (y:R→G:=by first|exact fun h=>w_to rfl hF rfl rfl h|exact fun h=>w_from rfl hF rfl rfl h):G:=y h
theorem zst (h:R) (y:R→G:=by first|exact fun h=>zwr h|exact fun h=>znw h|exact fun h=>ztf h):G:=y h
theorem zrl (h:R) (y:R→G:=by first|exact fun h=>w_ld1 rfl hF rfl h|exact fun h=>w_ld rfl hF rfl h|exact fun h=>w_lde1 rfl hF rfl h|exact fun h=>w_lde rfl hF rfl h|exact fun h=>w_ld1o rfl hF rfl h):G:=y h
theorem zat {α:Type} {l:List α} {i:Nat} {x:α} (h:l[i]?=some x:=by (first|exact at0|exact at1|exact at2|exact at3|exact at4|exact at5|exact at6|exact at7)):l[i]?=some x:=h
theorem zg0 (h:R) (y:R→G:=by intro h;exact wpList_load_elem (by rfl) 101 (.tmp 13) (by rfl) g (o+k * 3) (by rfl) v.cells v.val rfl hce.out wysTy h):G:=y h
theorem zg1 (h:R) (y:R→G:=by intro h;exact wpList_load_elem (by rfl) 101 (.tmp 51) (by rfl) g (o+j * 3) (by rfl) v.cells v.val rfl hce.out wysTy h):G:=y h
theorem zg2 (h:R) (y:R→G:=by intro h;exact wpList_load_bk (by rfl) 35 (.tmp 2) (by rfl) w.heap.size (by rfl) 35 _ _ rfl hkC cTy h):G:=y h
theorem zg3 (h:R) (y:R→G:=by intro h;exact st_make rfl rfl hF (by (first|exact tySl_22|exact tySl_23|exact tySl_30|exact tySl_31|exact tySl_32|exact tySl_33|exact tySl_36|exact tySl_37|exact tySl_40|exact tySl_66|exact tySl_72|exact tySl_99|exact tySl_104|exact tySl_136|exact tySl_207)) rfl rfl n rfl rfl (by omega) (by unfold maxLen;omega) rfl h):G:=y h
theorem zg4 (h:R) (y:R→G:=by intro h;exact w_ixB rfl rfl rfl h):G:=y h
theorem zg5 (h:R) (y:R→G:=by intro h;exact st_make0 rfl rfl hF (by (first|exact tySl_22|exact tySl_23|exact tySl_30|exact tySl_31|exact tySl_32|exact tySl_33|exact tySl_36|exact tySl_37|exact tySl_40|exact tySl_66|exact tySl_72|exact tySl_99|exact tySl_104|exact tySl_136|exact tySl_207)) rfl rfl (m+1) (by omega) (by omega) (by unfold maxLen;omega) h):G:=y h
theorem zg6 (h:R) (y:R→G:=by intro h;exact st_make0 rfl rfl hF (by (first|exact tySl_22|exact tySl_23|exact tySl_30|exact tySl_31|exact tySl_32|exact tySl_33|exact tySl_36|exact tySl_37|exact tySl_40|exact tySl_66|exact tySl_72|exact tySl_99|exact tySl_104|exact tySl_136|exact tySl_207)) rfl rfl (l+1) (by omega) (by omega) (by unfold maxLen;omega) h):G:=y h
theorem zg7 (h:R) (y:R→G:=by intro h;(go_at_call 80;exact zcg hF (HF.out _ hF.rds) h)):G:=y h
theorem zg8 (h:R) (y:R→G:=by intro h;first|(go_at_call 80;exact zcg hF (HF.out _ hF.rds) h)|exact w_copy rfl hF rfl rfl h|exact w_make m rfl hF rfl rfl h):G:=y h
theorem zg9 (h:R) (y:R→G:=by intro h;first|exact wpList_load_elem rfl 54 (.tmp 10) (by rfl) g (o+k * 17) (by rfl) e.cells e.val rfl hce.out ensTy h|exact wpList_load_bk rfl 54 (.tmp 4) (by rfl) wr.heap.size (by rfl) 54 e.cells e.val rfl hk1 ensTy h):G:=y h
theorem c7b (h:R) (y:R→G:=by intro h;exact wpList_string rfl 104 9 5 _ (by rfl) Tryz.underlying104 Tryz.underlying5 Tryz.underlying9 (Hend.out _ hbk2) (by rfl) h):G:=y h
theorem f2l (h:R) (y:R→G:=by intro h;exact w_lde (us:=[.int .i64 p1,.int .i64 p2]) (hu:=Rows.sub (f:=spns) hu) rfl hF rfl h):G:=y h
theorem f2m (h:R) (y:R→G:=by intro h;exact w_lde (us:=[.int .i64 p1,.int .i64 (m:Int)]) (hu:=Rows.sub (f:=spns) hu) rfl hF rfl h):G:=y h
theorem a8i (h:R) (y:R→G:=by intro h;exact zrd h):G:=y h
theorem a1s (h:R) (y:R→G:=by intro h;exact zst h):G:=y h
theorem a1d (h:R) (y:R→G:=by intro h;exact zap h):G:=y h
theorem c2i (h:R) (y:R→G:=by intro h;exact w_fldB rfl rfl h):G:=y h
theorem c2j (h:R) (y:R→G:=by intro h;exact w_st1 rfl hF rfl rfl h):G:=y h
theorem c2k (h:R) (y:R→G:=by intro h;first|exact w_fldB rfl rfl h|exact w_ld1 rfl hF rfl h|exact w_ld rfl hF rfl h):G:=y h
theorem c2l (h:R) (y:R→G:=by intro h;first|exact w_st1 rfl hF rfl rfl h|exact w_st rfl hF rfl rfl h):G:=y h
theorem f2n (h:R) (y:R→G:=by intro h;first|(go_at_call 149;exact zcg hF (HRe.out _) h)|exact zst h):G:=y h
theorem f2o (h:R) (y:R→G:=by intro h;first|exact w_cvtUn rfl rfl Tryz.underlying3 Tryz.underlying28 h|exact zrd h):G:=y h
theorem c7c (h:R) (y:R→G:=by intro h;first|exact w_max p1 rfl rfl rfl h|exact w_max q1 rfl rfl rfl h|exact w_min p2 rfl rfl rfl h|exact w_min q2 rfl rfl rfl h):G:=y h
theorem f2p (h:R) (y:R→G:=by intro h;exact w_make 2 rfl hF rfl rfl h):G:=y h
theorem f2q (h:R) (y:R→G:=by intro h;exact w_make n rfl hF rfl rfl h):G:=y h
theorem b7s (h:R) (y:R→G:=by intro h;first|exact g_skip rfl rfl rfl h|exact w_minH rfl rfl rfl h|exact zrg h):G:=y h
theorem c7d (h:R) (y:R→G:=by intro h;first|exact w_make (n:=N) rfl hF rfl rfl h|exact zst h):G:=y h
theorem c7e (h:R) (y:R→G:=by intro h;first|exact w_make (n:=T) rfl hF rfl rfl h|exact zst h):G:=y h
theorem a3d (h:R) (y:R→G:=by intro h;first|exact g_skip rfl rfl rfl h|exact zrg h):G:=y h
theorem f2r (h:R) (y:R→G:=by intro h;first|exact g_skip rfl rfl rfl h|exact w_maxH rfl rfl rfl h|exact w_remI rfl rfl rfl h|exact zrg h):G:=y h
theorem c7f (h:R) (y:R→G:=by intro h;exact w_lde (us:=[.int .u32 (pa:Int),.string pd]) (hu:=Rows.sub (f:=pus) hu) rfl hF rfl h):G:=y h
theorem f2s (h:R) (y:R→G:=by intro h;exact w_copys rfl hF rfl rfl h):G:=y h
theorem f2t (h:R) (y:R→G:=by intro h;exact w_string rfl hF rfl h):G:=y h
theorem f2u (h:R) (y:R→G:=by intro h;exact w_lde (us:=[.int .i64 4,.int .u32 (rl:Int),.int .i64 rt,.string rd]) (hu:=Rows.sub (f:=rqs) hu) rfl hF rfl h):G:=y h
theorem f2v (h:R) (y:R→G:=by intro h;first|exact w_lde (us:=[.int .i64 rk,.int .u32 (rl:Int),.int .i64 rt,.string rd]) (hu:=Rows.sub (f:=rqs) hu) rfl hF rfl h|exact w_eqF rfl rfl rfl h):G:=y h
theorem f2w (h:R) (y:R→G:=by intro h;exact w_lde (us:=[.int .u32 (ul:Int),.bool ud,.string ub]) (hu:=Rows.sub (f:=wys) hu) rfl hF rfl h):G:=y h
theorem f2x (h:R) (y:R→G:=by intro h;first|exact w_strfrom rfl rfl rfl h|exact w_strto rfl rfl rfl h|exact w_min (N:Int) rfl rfl rfl h):G:=y h
theorem f2y (h:R) (y:R→G:=by intro h;exact w_max (M:Int) rfl rfl rfl h (hN:=hM.out)):G:=y h
theorem f2z (h:R) (y:R→G:=by intro h;exact w_make0 (n:=n+1) rfl hF rfl rfl h):G:=y h
theorem f3a (h:R) (y:R→G:=by intro h;(go_at_call 120;exact zcg hF (HR.out _ hF.rds) h)):G:=y h
theorem c7g (h:R) (y:R→G:=by intro h;first|(go_at_call 120;exact zcg hF (HR.out _ hF.rds) h)|(go_at_call 80;exact zcg hF (HFi.out _ hF.rds) h)):G:=y h
theorem c7h (h:R) (y:R→G:=by intro h;first|exact w_make (n:=n) rfl hF rfl rfl h|exact w_copy rfl hF rfl rfl h|exact zst h):G:=y h
theorem b5r (h:R) (y:R→G:=by intro h;(go_at_call 39;exact zcg hF (HK.out _) h)):G:=y h
theorem f3b (h:R) (y:R→G:=by intro h;(go_at_call 212;exact zcg hF (HN.out _) h)):G:=y h
theorem f3c (h:R) (y:R→G:=by intro h;first|(go_at_call 39;exact zcg hF (HK.out _) h)|(go_at_call 43;exact zcg hF (HW.out _) h)):G:=y h
theorem f3d (h:R) (y:R→G:=by intro h;exact wpList_string rfl 104 9 5 _ (by rfl) Tryz.underlying104 Tryz.underlying5 Tryz.underlying9 Hr.out (by rfl) h):G:=y h
theorem b7t (h:R) (y:R→G:=by intro h;first|(go_at_call 39;exact zcg hF (HK.out _) h)|(go_at_call 43;exact zcg hF (HW.out _) h)|(go_at_call 44;exact zcg hF (HZ.out _) h)):G:=y h
theorem f3e (h:R) (y:R→G:=by intro h;(go_at_call 129;exact zcg hF (HB.out _) h)):G:=y h
theorem a8j (h:R) (y:R→G:=by intro h;first|exact g_skip rfl rfl rfl h|exact w_ldp (v:=.agg #[.int .i64 op,.int .i64 rd,.int .i64 rs1,.int .i64 rs2,.int .u32 (imm:Int)]) (n:=5) rfl hF rfl h (hn:=Nat.le_of_ble_eq_true rfl)|exact zrg h):G:=y h
theorem f3f (h:R) (y:R→G:=by intro h;first|(go_at_call 39;exact zcg hF (HK.out _) h)|(go_at_call 43;exact zcg hF (HW.out _) h)|(go_at_call 44;exact zcg hF (HZ.out _) h)|(go_at_call 121;exact zcg hF (HL.out _) h)|(go_at_call 128;exact zcg hF (HO.out _) h)|exact zst h):G:=y h
theorem b2q (h:R) (y:R→G:=by intro h;(go_at_call 127;exact zcg hF (HL.out _ hF.rdA hF.rdA) h)):G:=y h
theorem c7i (h:R) (y:R→G:=by intro h;first|exact w_st1 rfl hF rfl rfl h (hoff:=by rw [mcells_len];decide)|exact zst h):G:=y h
theorem c2m (h:R) (y:R→G:=by intro h;first|(go_at_call 123;exact zcg hF (HA.out _ hF.rds hF.rdA hF.rdA) h)|(go_at_call 44;exact zcg hF (HSz.out _) h)):G:=y h
theorem f3g (h:R) (y:R→G:=by intro h;first|exact w_to3 rfl rfl rfl rfl h|exact zrg h):G:=y h
theorem a7u (h:R) (y:R→G:=by intro h;exact zrg h):G:=y h
theorem f3h (h:R) (y:R→G:=by intro h;first|(go_at_call 58;exact zcg hF (H1.out _) h)|(go_at_call 59;exact zcg hF (H2.out _) h)|(go_at_call 60;exact zcg hF (H3.out _) h)|(go_at_call 61;exact zcg hF (H4.out _) h)|exact w_st1 rfl hF rfl rfl h (hoff:=by (try simp only [List.length_set]);rw [mcells_len];decide)|exact zst h):G:=y h
theorem c7j (h:R) (y:R→G:=by intro h;first|exact g_skip rfl rfl rfl h|exact w_ldp (v:=.agg #[.int .i64 k.dways,.slice s.dA k.data.length s.dC]) (n:=2) rfl hF rfl h (hn:=by rw [mcells_len];decide)|exact w_eqT rfl rfl rfl h|exact w_eqF rfl rfl rfl h|exact w_ixR rfl hF rfl rfl h|exact w_ldeR (us:=[.int .i64 no,.int .u32 (pc:Int),.int .i64 op,.int .i64 rd,.int .i64 rs1,.int .i64 rs2,.int .u32 (imm:Int),.int .u32 (guess:Int),.int .i64 is,.int .i64 left,.int .u32 (value:Int),.int .u32 (next:Int),.int .u32 (addr:Int),.int .i64 halt,.int .i64 took,.bool known,.bool false]) (hu:=Rows.sub (f:=ens) hu) rfl hF rfl h|exact zrg h):G:=y h
theorem a9w (h:R) (y:R→G:=by intro h;first|(go_at_call 80;exact zcg hF (HFi.out _ hF.rds) h)|exact zst h):G:=y h
theorem b7u (h:R) (y:R→G:=by intro h;first|exact g_skip rfl rfl rfl h|exact w_ldp (v:=.agg #[.int .i64 k.dways,.slice s.dA k.data.length s.dC]) (n:=2) rfl hF rfl h (hn:=by rw [mcells_len];decide)|exact w_eqT rfl rfl rfl h|exact w_eqF rfl rfl rfl h|exact w_ixR rfl hF rfl rfl h|exact w_ldeR (us:=[.int .i64 no,.int .u32 (pc:Int),.int .i64 op,.int .i64 rd,.int .i64 rs1,.int .i64 rs2,.int .u32 (imm:Int),.int .u32 (guess:Int),.int .i64 is,.int .i64 left,.int .u32 (value:Int),.int .u32 (next:Int),.int .u32 (addr:Int),.int .i64 halt,.int .i64 took,.bool known,.bool true]) (hu:=Rows.sub (f:=ens) hu) rfl hF rfl h|exact zrg h):G:=y h
theorem b5s (h:R) (y:R→G:=by intro h;first|exact g_skip rfl rfl rfl h|exact w_gtrH rfl rfl rfl h|exact zrg h|exact w_ix (k:=0) rfl hF rfl rfl h (hkn:=hpos)):G:=y h
theorem c2n (h:R) (y:R→G:=by intro h;first|exact g_skip rfl rfl rfl h|exact w_eqT rfl rfl rfl h|exact w_eqF rfl rfl rfl h|exact w_gtrH rfl rfl rfl h|exact w_ldp (v:=.agg #[.int .i64 k2.dways,.slice s2.dA k2.data.length s2.dC]) (n:=2) rfl hF rfl h (hn:=by rw [mcells_len];decide)|exact zrg h):G:=y h
theorem c2o (h:R) (y:R→G:=by intro h;first|(go_at_call 87;exact zcg hF (HDi.out _ hF.rds) h)|exact zst h):G:=y h
theorem b5t (h:R) (y:R→G:=by intro h;first|(go_at_call 79;exact zcg hF (HFe.out _ hF.rdA) h)|(go_at_call 138;exact zcg hF (HDe.out _ hF.rdA) h)|exact zst h):G:=y h
theorem b5u (h:R) (y:R→G:=by intro h;first|exact g_skip rfl rfl rfl h|exact w_neqH rfl rfl rfl h|exact w_lssH rfl rfl rfl h|exact w_eqT rfl rfl rfl h|exact w_eqF rfl rfl rfl h|exact w_geqH rfl rfl rfl h|exact zrg h):G:=y h
theorem f3i (h:R) (y:R→G:=by intro h;first|exact w_st1 rfl hF rfl rfl h (hoff:=by (try simp only [List.length_set]);rw [mcells_len];decide)|exact w_from (k:=1) rfl hF rfl rfl h|exact zst h):G:=y h
theorem f3j (h:R) (y:R→G:=by intro h;first|exact g_skip rfl rfl rfl h|exact w_lssH rfl rfl rfl h|exact zrg h):G:=y h
theorem f3k (h:R) (y:R→G:=by intro h;first|exact g_skip rfl rfl rfl h|exact w_neqT rfl rfl rfl h|exact zrg h):G:=y h
theorem f3l (h:R) (y:R→G:=by intro h;first|(go_at_call 55;exact zcg hF (HR.out _) h)|(go_at_call 39;exact zcg hF (HK.out _) h)|exact zst h):G:=y h
theorem b5v (h:R) (y:R→G:=by intro h;first|exact g_skip rfl rfl rfl h|exact w_gtrH rfl rfl rfl h|exact w_neqT rfl rfl rfl h|exact w_ixB rfl rfl rfl h|exact zrg h):G:=y h
theorem b5w (h:R) (y:R→G:=by intro h;first|exact w_make0 (n:=5) rfl hF rfl rfl h|exact w_make 8 rfl hF rfl rfl h|(go_at_call 55;exact zcg hF (HR.out _) h)|(go_at_call 39;exact zcg hF (HK.out _) h)|(go_at_call 130;exact zcg hF (HS.out _) h)|(go_at_call 131;exact zcg hF (HC.out _) h)|(go_at_call 132;exact zcg hF (HB.out _) h)|exact w_copy rfl hF rfl rfl h|exact w_stp rfl hF rfl rfl h (hfit:=by rw [sls_len,hl8];show s * 2+2≤8 * 2;omega)|exact zst h):G:=y h
theorem b2r (h:R) (y:R→G:=by intro h;first|exact g_skip rfl rfl rfl h|exact w_gtrH rfl rfl rfl h|exact w_eqF rfl rfl rfl h|exact zrg h):G:=y h
theorem b2s (h:R) (y:R→G:=by intro h;first|(go_at_call 55;exact zcg hF (HR.out _) h)|(go_at_call 39;exact zcg hF (HK.out _) h)|(go_at_call 132;exact zcg hF (HB.out _) h)|exact zst h):G:=y h
theorem c7k (h:R) (y:R→G:=by intro h;(go_at_call 130;exact zcg hF (HS.out _) h)):G:=y h
theorem c2p (h:R) (y:R→G:=by intro h;first|exact g_skip rfl rfl rfl h|exact w_neqH rfl rfl rfl h|exact zrg h):G:=y h
theorem b5x (h:R) (y:R→G:=by intro h;first|(go_at_call 138;exact zcg hF (HDe.out _ hF.rdA) h)|(go_at_call 39;exact zcg hF (HK.out _) h)|exact w_st1 rfl hF rfl rfl h (hoff:=by rw [mcells_len];decide)|exact zst h):G:=y h
theorem f3m (h:R) (y:R→G:=by intro h;first|exact g_skip rfl rfl rfl h|exact w_neqH rfl rfl rfl h|exact w_ld1 (v:=.bool true) rfl hF rfl h (hv:=hT9)|exact zrg h):G:=y h
theorem f3n (h:R) (y:R→G:=by intro h;(go_at_call 143;exact zcg hF (HN.out _ hF.rdA hF.rdA) h)):G:=y h
theorem f3o (h:R) (y:R→G:=by intro h;first|exact g_skip rfl rfl rfl h|exact w_neqH rfl rfl rfl h|exact w_ld1 (v:=.bool false) rfl hF rfl h (hv:=hT9)|exact zrg h):G:=y h
theorem f3p (h:R) (y:R→G:=by intro h;(go_at_call 144;exact zcg hF (HT.out _ hF.rdA hF.rdA) h)):G:=y h
theorem f3q (h:R) (y:R→G:=by intro h;first|exact w_neqT rfl rfl rfl h|exact zrg h):G:=y h
theorem a8z (h:R) (y:R→G:=by intro h;first|exact w_neqH rfl rfl rfl h|exact w_lssH rfl rfl rfl h|exact zrg h):G:=y h
theorem c2q (h:R) (y:R→G:=by intro h;(go_at_call 79;exact zcg hF (HFw.out _ hF.rdA) h)):G:=y h
theorem b5y (h:R) (y:R→G:=by intro h;first|exact w_st1 rfl hF rfl rfl h (hoff:=by (try simp only [List.length_set]);rw [mcells_len];decide)|exact zst h):G:=y h
theorem c2r (h:R) (y:R→G:=by intro h;first|exact w_ldp (v:=.agg #[.int .i64 k1.wways,.slice s1.wA k1.words.length s1.wC]) (n:=2) rfl hF rfl h (hn:=by rw [mcells_len];decide)|exact zrg h):G:=y h
theorem f3r (h:R) (y:R→G:=by intro h;first|exact w_lssH rfl rfl rfl h|exact zrg h):G:=y h
theorem c2s (h:R) (y:R→G:=by intro h;first|(go_at_call 39;exact zcg hF (HK.out _) h)|(go_at_call 17;exact zcg hF (HRd.out _) h)):G:=y h
theorem f3s (h:R) (y:R→G:=by intro h;exact w_max N rfl rfl rfl h (hN:=hrt.out)):G:=y h
theorem c7l (h:R) (y:R→G:=by intro h;(go_at_call 108;exact zcg hF (HM.out _ hF.rdA) h)):G:=y h
theorem c2t (h:R) (y:R→G:=by intro h;(go_at_call 174;exact zcg hF (HTe.out _) h)):G:=y h
theorem f3t (h:R) (y:R→G:=by intro h;first|(go_at_call 174;exact zcg hF (HTe.out _) h)|(go_at_call 13;exact zcg hF (HV.out _ hF.rdA) h)):G:=y h
theorem f3u (h:R) (y:R→G:=by intro h;first|exact g_skip rfl rfl rfl h|exact w_ixA rfl rfl rfl Tryz.underlying29 (by kernel_rfl) h|exact zrg h):G:=y h
theorem f3v (h:R) (y:R→G:=by intro h;first|(go_at_call 108;exact zcg hF (HM.out _ hF.rdA) h)|exact w_box (cs:=u32v regs) rfl hF rfl h|exact zst h):G:=y h
theorem f3w (h:R) (y:R→G:=by intro h;first|exact g_skip rfl rfl rfl h|exact w_lde (us:=[.int .i64 op,.int .i64 rd,.int .i64 rs1,.int .i64 rs2,.int .u32 (imm:Int)]) (hu:=ens_inst hu) rfl hF rfl h|exact w_ld (v:=.agg (u32v regs).toArray) rfl hF rfl h (ht:=by rw [u32v_len,hl];exact tyRow _ _ rfl)|exact zrg h):G:=y h
theorem f3x (h:R) (y:R→G:=by intro h;first|(go_at_call 17;exact zcg hF (HRe.out _) h)|exact w_box (cs:=u32v regs) rfl hF rfl h|exact zst h):G:=y h
theorem b7v (h:R) (y:R→G:=by intro h;first|exact g_skip rfl rfl rfl h|exact w_ldp (v:=.agg #[.int .i64 op,.int .i64 rd,.int .i64 rs1,.int .i64 rs2,.int .u32 (imm:Int)]) (n:=5) rfl hF rfl h (hn:=Nat.le_of_ble_eq_true rfl)|exact w_ixR rfl hF rfl rfl h|exact w_ldeR (us:=[.int .i64 no,.int .u32 (pc:Int),.int .i64 op,.int .i64 rd,.int .i64 rs1,.int .i64 rs2,.int .u32 (imm:Int),.int .u32 (guess:Int),.int .i64 0,.int .i64 left,.int .u32 (value:Int),.int .u32 (next:Int),.int .u32 (addr:Int),.int .i64 halt,.int .i64 took,.bool known,.bool filled]) (hu:=Rows.sub (f:=ens) hu) rfl hF rfl h|exact zrg h):G:=y h
theorem b5z (h:R) (y:R→G:=by intro h;first|(go_at_call 17;exact zcg hF (HRs.out _) h)|(go_at_call 39;exact zcg hF (HK.out _) h)|exact zst h):G:=y h
theorem f3y (h:R) (y:R→G:=by intro h;first|exact g_skip rfl rfl rfl h|exact w_ldp (v:=.agg #[.int .i64 op,.int .i64 rd,.int .i64 rs1,.int .i64 rs2,.int .u32 (imm:Int)]) (n:=5) rfl hF rfl h (hn:=Nat.le_of_ble_eq_true rfl)|exact w_ixR rfl hF rfl rfl h|exact w_ldeR (us:=[.int .i64 no,.int .u32 (pc:Int),.int .i64 op,.int .i64 rd,.int .i64 rs1,.int .i64 rs2,.int .u32 (imm:Int),.int .u32 (guess:Int),.int .i64 is,.int .i64 left,.int .u32 (value:Int),.int .u32 (next:Int),.int .u32 (addr:Int),.int .i64 halt,.int .i64 took,.bool known,.bool filled]) (hu:=Rows.sub (f:=ens) hu) rfl hF rfl h|exact zrg h):G:=y h
theorem a9a (h:R) (y:R→G:=by intro h;first|(go_at_call 39;exact zcg hF (HK.out _) h)|exact zst h):G:=y h
theorem b7w (h:R) (y:R→G:=by intro h;first|exact g_skip rfl rfl rfl h|exact w_lde (us:=[.int .i64 no,.int .u32 (pc:Int),.int .i64 op,.int .i64 rd,.int .i64 rs1,.int .i64 rs2,.int .u32 (imm:Int),.int .u32 (guess:Int),.int .i64 is,.int .i64 left,.int .u32 (value:Int),.int .u32 (next:Int),.int .u32 (addr:Int),.int .i64 halt,.int .i64 took,.bool known,.bool filled]) (hu:=Rows.sub (f:=ens) hu) rfl hF rfl h|exact zrg h):G:=y h
theorem b2t (h:R) (y:R→G:=by intro h;first|exact g_skip rfl rfl rfl h|exact w_neqH rfl rfl rfl h (hb:=by with_reducible assumption)|exact w_lssH rfl rfl rfl h (hb:=by with_reducible assumption)|exact w_geqH rfl rfl rfl h (hb:=by with_reducible assumption)|exact w_ixR rfl hF rfl rfl h|exact w_ldeR (us:=e.cells) (v:=e.val) (hu:=Rows.sub (f:=ens) hu) rfl hF rfl h|exact w_ldp (v:=e.inst.val) (n:=5) rfl hF rfl h (hn:=Nat.le_of_ble_eq_true rfl)|exact zrg h):G:=y h
theorem b2u (h:R) (y:R→G:=by intro h;first|exact w_st rfl hF rfl rfl h|(go_at_call 39;exact zcg hF (HK.out _) h)|(go_at_call 17;exact zcg hF (HRs.out _) h)|exact zst h):G:=y h
theorem f3z (h:R) (y:R→G:=by intro h;(go_at_call 69;exact zcg hF (HGo.out _) h)):G:=y h
theorem f4a (h:R) (y:R→G:=by intro h;(go_at_call 70;exact zcg hF (HSt.out _) h)):G:=y h
theorem c7m (h:R) (y:R→G:=by intro h;first|exact g_skip rfl rfl rfl h|exact w_neqH rfl rfl rfl h (hb:=by with_reducible assumption)|exact w_lssH rfl rfl rfl h (hb:=by with_reducible assumption)|exact w_geqH rfl rfl rfl h (hb:=by with_reducible assumption)|exact w_ixR rfl hF rfl rfl h|exact w_fldR rfl hF rfl h|exact w_lde1R (v:=.int .u32 (e.next:Int)) rfl hF rfl h (hv:=hnxt)|exact zrg h):G:=y h
theorem c7n (h:R) (y:R→G:=by intro h;(go_at_call 43;exact zcg hF (HW.out _) h)):G:=y h
theorem c7o (h:R) (y:R→G:=by intro h;first|exact w_neqH rfl rfl rfl h (hb:=by with_reducible assumption)|exact w_lssH rfl rfl rfl h (hb:=by with_reducible assumption)|exact w_geqH rfl rfl rfl h (hb:=by with_reducible assumption)|exact w_eqlH rfl rfl rfl h (hb:=by with_reducible assumption)|exact g_fldB rfl rfl (by (first|exact Wtd.of_none rfl|exact Wtd.of_some rfl rfl)) h|exact w_ld1 rfl hF rfl h|exact w_ld rfl hF rfl h|exact w_ixR (k:=0) rfl hF rfl rfl h (hl:=hlen) (hkn:=hpos)|exact w_fldR rfl hF rfl h (hl:=hlen)|exact w_lde1R (v:=.int .i64 e.is) rfl hF rfl h (hv:=his)):G:=y h
theorem c7p (h:R) (y:R→G:=by intro h;first|(go_at_call 14;exact zcg hF (HTo.out _) h)|exact w_alloc rfl hF h):G:=y h
theorem i2u (h:R) (y:R→G:=by intro h;first|(go_at_call 14;exact zcg hF (HTo.out _) h)|exact w_st (us:=e.cells) rfl hF rfl rfl h (h1:=fun u hu=>.inl (e.one u hu))|exact w_st (us:=t.cells) rfl hF rfl rfl h (h1:=fun u hu=>.inl (t.one u hu))|exact w_alloc rfl hF h):G:=y h
theorem i2v (h:R) (y:R→G:=by intro h;first|exact g_fldB rfl rfl (by (first|exact Wtd.of_none rfl|exact Wtd.of_some rfl rfl)) h|exact w_ld1 rfl hF rfl h|exact w_ld rfl hF rfl h|exact w_ixR (k:=0) rfl hF rfl rfl h (hl:=hlen) (hkn:=hpos)|exact w_ldeR (us:=e.cells) (v:=e.val) (hu:=hesub) rfl hF rfl h):G:=y h
theorem c7q (h:R) (y:R→G:=by intro h;first|exact g_fldB rfl rfl (by (first|exact Wtd.of_none rfl|exact Wtd.of_some rfl rfl)) h|exact w_ld1 rfl hF rfl h):G:=y h
theorem c7r (h:R) (y:R→G:=by intro h;(go_at_call 73;exact zcg hF (HAp.out _) h)):G:=y h
theorem f4b (h:R) (y:R→G:=by intro h;first|exact w_fromR (k:=1) rfl hF rfl rfl h|exact w_st1 rfl hF rfl rfl h (hoff:=by (try simp only [List.length_set]);rw [mcells_len];decide)):G:=y h
theorem f4c (h:R) (y:R→G:=by intro h;first|exact w_neqH rfl rfl rfl h (hb:=by with_reducible assumption)|exact w_lssH rfl rfl rfl h (hb:=by with_reducible assumption)|exact w_geqH rfl rfl rfl h (hb:=by with_reducible assumption)|exact w_eqlH rfl rfl rfl h (hb:=by with_reducible assumption)|exact zrg h):G:=y h
theorem b2v (h:R) (y:R→G:=by intro h;first|exact w_eqlH rfl rfl rfl h (hb:=by with_reducible assumption)|exact w_lssH rfl rfl rfl h (hb:=by with_reducible assumption)|exact zrg h):G:=y h
theorem b3x (h:R) (y:R→G:=by intro h;first|exact w_st rfl hF rfl rfl h|exact w_st1 rfl hF rfl rfl h (hoff:=by (try simp only [List.length_set]);rw [mcells_len];decide)|exact zst h):G:=y h
theorem b6a (h:R) (y:R→G:=by intro h;first|exact g_fldB rfl rfl (by (first|exact Wtd.of_none rfl|exact Wtd.of_some rfl rfl)) h|exact w_ld1 rfl hF rfl h|exact w_eqlH rfl rfl rfl h (hb:=by with_reducible assumption)|exact w_lssH rfl rfl rfl h (hb:=by with_reducible assumption)|exact w_ixR rfl hF rfl rfl h|exact w_ldeR (us:=e.cells) (v:=e.val) (hu:=Rows.sub (f:=ens) hu) rfl hF rfl h):G:=y h
theorem b6b (h:R) (y:R→G:=by intro h;first|exact w_alloc rfl hF h|exact w_st rfl hF rfl rfl h|exact w_st1 rfl hF rfl rfl h):G:=y h
theorem c7s (h:R) (y:R→G:=by intro h;(go_at_call 63;exact zcg hF (HLi.out _) h)):G:=y h
theorem b6c (h:R) (y:R→G:=by intro h;(go_at_call 64;exact zcg hF (HTk.out _) h)):G:=y h
theorem f4d (h:R) (y:R→G:=by intro h;exact w_maxH rfl rfl rfl h):G:=y h
theorem f4e (h:R) (y:R→G:=by intro h;first|exact g_skip rfl rfl rfl h|exact w_cvt64 rfl rfl Tryz.underlying28 Tryz.underlying181 h|exact w_lssH rfl rfl rfl h|exact w_leqH rfl rfl rfl h|exact w_gtrH rfl rfl rfl h):G:=y h
theorem i2w (h:R) (y:R→G:=by intro h;first|exact g_fldB rfl rfl (by (first|exact Wtd.of_none rfl|exact Wtd.of_some rfl rfl)) h|exact w_ld1 rfl hF rfl h|exact w_ixR rfl hF rfl rfl h|exact w_ldeR (us:=e.cells) (v:=e.val) (hu:=Rows.sub (f:=ens) hu) rfl hF rfl h):G:=y h
theorem i2x (h:R) (y:R→G:=by intro h;first|exact w_alloc rfl hF h|exact w_st (us:=e.cells) rfl hF rfl rfl h (h1:=fun u hu=>.inl (e.one u hu))):G:=y h
theorem c7t (h:R) (y:R→G:=by intro h;first|exact w_eqlH rfl rfl rfl h (hb:=by with_reducible assumption)|exact w_neqH rfl rfl rfl h (hb:=by with_reducible assumption)|exact w_ld1 rfl hF rfl h (hv:=by with_reducible assumption)|exact g_fldB rfl rfl (by (first|exact Wtd.of_none rfl|exact Wtd.of_some rfl rfl)) h|exact w_ld1 rfl hF rfl h):G:=y h
theorem c7u (h:R) (y:R→G:=by intro h;exact w_bs1 rfl hF rfl h):G:=y h
theorem c7v (h:R) (y:R→G:=by intro h;first|exact g_fldB rfl rfl (by (first|exact Wtd.of_none rfl|exact Wtd.of_some rfl rfl)) h|exact w_ld1 rfl hF rfl h|exact w_ixR rfl hF rfl rfl h|exact w_fldR rfl hF rfl h):G:=y h
theorem c7w (h:R) (y:R→G:=by intro h;exact w_st1R rfl hF rfl rfl h):G:=y h
theorem c7x (h:R) (y:R→G:=by intro h;first|(go_at_call 39;exact zcg hF (HK.out _) h)|(go_at_call 43;exact zcg hF (HW.out _) h)|(go_at_call 180;exact zcg hF (HV.out _) h)|(go_at_call 182;exact zcg hF (HG.out _) h)):G:=y h
theorem b3y (h:R) (y:R→G:=by intro h;(go_at_call 44;exact zcg hF (HZ.out _) h)):G:=y h
theorem i2y (h:R) (y:R→G:=by intro h;first|exact g_fldB rfl rfl (by (first|exact Wtd.of_none rfl|exact Wtd.of_some rfl rfl)) h|exact w_ldp (v:=e.inst.val) (n:=5) rfl hF rfl h (hn:=Nat.le_of_ble_eq_true rfl)|exact w_ld1 rfl hF rfl h):G:=y h
theorem c7y (h:R) (y:R→G:=by intro h;(go_at_call 135;exact zcg hF (HAd.out _) h)):G:=y h
theorem i2z (h:R) (y:R→G:=by intro h;first|exact w_eqlH rfl rfl rfl h (hb:=by with_reducible assumption)|exact g_fldB rfl rfl (by (first|exact Wtd.of_none rfl|exact Wtd.of_some rfl rfl)) h|exact w_ldp (v:=e.inst.val) (n:=5) rfl hF rfl h (hn:=Nat.le_of_ble_eq_true rfl)|exact w_ld1 rfl hF rfl h):G:=y h
theorem f4f (h:R) (y:R→G:=by intro h;(go_at_call 137;exact zcg hF (HSt.out _) h)):G:=y h
theorem a8k (h:R) (y:R→G:=by intro h;first|(go_at_call 134;exact zcg hF (HU.out _) h)|exact w_mapset (t:=195) rfl hF rfl rfl rfl Tryz.underlying195 (by decide) rfl (by omega) (by omega) (by omega) hgM hD rfl rfl h|exact zst h):G:=y h
theorem c2u (h:R) (y:R→G:=by intro h;first|exact w_neqH rfl rfl rfl h (hb:=by with_reducible assumption)|exact w_eqlH rfl rfl rfl h (hb:=by with_reducible assumption)|exact w_lssH rfl rfl rfl h (hb:=by with_reducible assumption)|exact zrg h):G:=y h
theorem b7x (h:R) (y:R→G:=by intro h;first|exact w_neqH rfl rfl rfl h (hb:=by with_reducible assumption)|exact w_eqlH rfl rfl rfl h (hb:=by with_reducible assumption)|exact w_lssH rfl rfl rfl h (hb:=by with_reducible assumption)|exact w_ixR rfl hF rfl rfl h|exact w_ixB rfl rfl rfl h|exact w_ld1 rfl hF rfl h (hv:=by with_reducible assumption)|exact w_ldeR (us:=e.cells) (v:=e.val) (hu:=Rows.sub (f:=ens) hu) rfl hF rfl h|exact w_ldp (v:=e.inst.val) (n:=5) rfl hF rfl h (hn:=Nat.le_of_ble_eq_true rfl)|exact zrg h):G:=y h
theorem b7y (h:R) (y:R→G:=by intro h;exact w_make (n:=k.rob.length) rfl hF rfl rfl h (he:=made_ints _)):G:=y h
theorem b7z (h:R) (y:R→G:=by intro h;exact w_make (n:=k.rob.length) rfl hF rfl rfl h (he:=made_bools _)):G:=y h
theorem b8a (h:R) (y:R→G:=by intro h;first|exact w_st (us:=e.cells) rfl hF rfl rfl h (h1:=fun u hu=>.inl (e.one u hu))|(go_at_call 39;exact zcg hF (HK.out _) h)|exact w_st1 rfl hF rfl rfl h (hoff:=hoffI)|exact w_st1 rfl hF rfl rfl h (hoff:=hoffB)|exact zst h):G:=y h
theorem i3a (h:R) (y:R→G:=by intro h;first|exact w_neqH rfl rfl rfl h (hb:=by with_reducible assumption)|exact w_eqlH rfl rfl rfl h (hb:=by with_reducible assumption)|exact w_lssH rfl rfl rfl h (hb:=by with_reducible assumption)|exact w_lde1 rfl hF rfl h (hv:=hx2)|exact zrg h):G:=y h
theorem c2v (h:R) (y:R→G:=by intro h;(go_at_call 38;exact zcg hF (HS.out _ hF.rdA) h)):G:=y h
theorem f4g (h:R) (y:R→G:=by intro h;first|exact w_eqlH rfl rfl rfl h (hb:=by with_reducible assumption)|exact w_gtrH rfl rfl rfl h (hb:=by with_reducible assumption)|exact w_geqH rfl rfl rfl h (hb:=by with_reducible assumption)|exact w_lssH rfl rfl rfl h (hb:=by with_reducible assumption)|exact zrg h):G:=y h
theorem f4h (h:R) (y:R→G:=by intro h;first|(go_at_call 120;exact zcg hF (HR.out _ hF.rds) h)|exact zst h):G:=y h
theorem f4i (h:R) (y:R→G:=by intro h;exact w_box (us:=mcells k s) rfl hF rfl h):G:=y h
theorem b8b (h:R) (y:R→G:=by intro h;first|(go_at_call 53;exact zcg hF (HCf.out _ hF.rdA) h)|(go_at_call 27;exact zcg hF (HCl.out _) h)):G:=y h
theorem b8c (h:R) (y:R→G:=by intro h;first|exact w_eqlH rfl rfl rfl h (hb:=by with_reducible assumption)|exact w_gtrH rfl rfl rfl h (hb:=by with_reducible assumption)|exact w_geqH rfl rfl rfl h (hb:=by with_reducible assumption)|exact w_lssH rfl rfl rfl h (hb:=by with_reducible assumption)|exact w_ldp (v:=.agg (cfC k.conf s.latA s.latC s.tapeA s.tapeC).toArray) (n:=11) rfl hF rfl h (hn:=by rw [mcells_len];decide)|exact w_ldp (v:=.agg #[.int .i64 k.dways,.slice s.dA k.data.length s.dC]) (n:=2) rfl hF rfl h (hn:=by rw [mcells_len];decide)|exact w_ldp (v:=.agg #[.int .i64 k.wways,.slice s.wA k.words.length s.wC]) (n:=2) rfl hF rfl h (hn:=by rw [mcells_len];decide)|exact w_ldp (v:=.agg #[.slice s.slA k.guess.slots.length s.slC,.int .u32 (k.guess.hist:Int),.slice s.rtA k.guess.rets.length s.rtC]) (n:=3) rfl hF rfl h (hn:=by rw [mcells_len];decide)|exact zrg h):G:=y h
theorem b8d (h:R) (y:R→G:=by intro h;first|(go_at_call 10;exact zcg hF (HSq.out _ hF.rdA hF.rdA) h)|(go_at_call 55;exact zcg hF (HGr.out _) h)|exact zst h):G:=y h
theorem c7z (h:R) (y:R→G:=by intro h;first|exact w_eqlH rfl rfl rfl h (hb:=by with_reducible assumption)|exact w_gtrH rfl rfl rfl h (hb:=by with_reducible assumption)|exact w_geqH rfl rfl rfl h (hb:=by with_reducible assumption)|exact w_lssH rfl rfl rfl h (hb:=by with_reducible assumption)|exact w_lde (us:=e.cells) (v:=e.val) (hu:=Rows.sub (f:=ens) hu) rfl hF rfl h|exact zrg h):G:=y h
theorem c8a (h:R) (y:R→G:=by intro h;first|exact w_st (us:=e.cells) rfl hF rfl rfl h (h1:=fun u hu=>.inl (e.one u hu))|exact zst h):G:=y h
theorem c8b (h:R) (y:R→G:=by intro h;first|exact w_eqlH rfl rfl rfl h (hb:=by with_reducible assumption)|exact w_gtrH rfl rfl rfl h (hb:=by with_reducible assumption)|exact w_geqH rfl rfl rfl h (hb:=by with_reducible assumption)|exact w_lssH rfl rfl rfl h (hb:=by with_reducible assumption)|exact w_lde (us:=[.int .u32 (pa:Int),.string pd]) (hu:=Rows.sub (f:=pus) hu) rfl hF rfl h|exact zrg h):G:=y h
theorem c8c (h:R) (y:R→G:=by intro h;first|(go_at_call 56;exact zcg hF (HMr.out _) h)|exact zst h):G:=y h
theorem c8d (h:R) (y:R→G:=by intro h;first|exact g_skip rfl rfl rfl h|exact w_ldp (v:=.agg #[.int .i64 op,.int .i64 rd,.int .i64 rs1,.int .i64 rs2,.int .u32 (imm:Int)]) (n:=5) rfl hF rfl h (hn:=Nat.le_of_ble_eq_true rfl)|exact w_lde (us:=[.int .i64 no,.int .u32 (pc:Int),.int .i64 op,.int .i64 rd,.int .i64 rs1,.int .i64 rs2,.int .u32 (imm:Int),.int .u32 (guess:Int),.int .i64 is,.int .i64 left,.int .u32 (value:Int),.int .u32 (next:Int),.int .u32 (addr:Int),.int .i64 halt,.int .i64 took,.bool known,.bool filled]) (hu:=Rows.sub (f:=ens) hu) rfl hF rfl h|exact zrg h):G:=y h
theorem c8e (h:R) (y:R→G:=by intro h;first|(go_at_call 39;exact zcg hF (HK.out _) h)|(go_at_call 44;exact zcg hF (HZ.out _) h)|(go_at_call 129;exact zcg hF (HBy.out _) h)|exact zst h):G:=y h
theorem f4j (h:R) (y:R→G:=by intro h;first|exact g_skip rfl rfl rfl h|exact w_lde (us:=[.int .u32 (pa:Int),.string pd]) (hu:=Rows.sub (f:=pus) hu) rfl hF rfl h|exact zrg h):G:=y h
theorem c2w (h:R) (y:R→G:=by intro h;first|exact w_lssH rfl rfl rfl h (hb:=by with_reducible assumption)|exact w_geqH rfl rfl rfl h (hb:=by with_reducible assumption)|exact w_lde (hu:=hinst) rfl hF rfl h|exact zrg h):G:=y h
theorem f4k (h:R) (y:R→G:=by intro h;first|exact w_lssH rfl rfl rfl h (hb:=by with_reducible assumption)|exact w_geqH rfl rfl rfl h (hb:=by with_reducible assumption)|exact w_eqlH rfl rfl rfl h (hb:=by with_reducible assumption)|exact w_neqH rfl rfl rfl h (hb:=by with_reducible assumption)|exact w_lde (us:=[.int .i64 fno,.int .u32 (fpc:Int),.int .i64 fop,.int .i64 frd,.int .i64 frs1,.int .i64 frs2,.int .u32 (fimm:Int),.int .u32 (fguess:Int),.int .i64 fis,.int .i64 fleft,.int .u32 (fvalue:Int),.int .u32 (fnext:Int),.int .u32 (faddr:Int),.int .i64 fhalt,.int .i64 ftook,.bool fknown,.bool ffilled]) (hu:=Rows.sub (f:=ens) hv) rfl hF rfl h|exact w_ldp (v:=.agg #[.int .i64 fop,.int .i64 frd,.int .i64 frs1,.int .i64 frs2,.int .u32 (fimm:Int)]) (n:=5) rfl hF rfl h (hn:=Nat.le_of_ble_eq_true rfl)|exact zrg h):G:=y h
theorem b8e (h:R) (y:R→G:=by intro h;first|exact w_st rfl hF rfl rfl h|exact zst h):G:=y h
theorem f4l (h:R) (y:R→G:=by intro h;first|exact w_lssH rfl rfl rfl h (hb:=by with_reducible assumption)|exact w_geqH rfl rfl rfl h (hb:=by with_reducible assumption)|exact w_eqlH rfl rfl rfl h (hb:=by with_reducible assumption)|exact w_neqH rfl rfl rfl h (hb:=by with_reducible assumption)|exact w_lde (us:=[.int .i64 fno,.int .u32 (fpc:Int),.int .i64 fop,.int .i64 frd,.int .i64 frs1,.int .i64 frs2,.int .u32 (fimm:Int),.int .u32 (fguess:Int),.int .i64 fis,.int .i64 fleft,.int .u32 (fvalue:Int),.int .u32 (fnext:Int),.int .u32 (faddr:Int),.int .i64 fhalt,.int .i64 ftook,.bool false,.bool ffilled]) (hu:=Rows.sub (f:=ens) hv) rfl hF rfl h|exact w_ldp (v:=.agg #[.int .i64 fop,.int .i64 frd,.int .i64 frs1,.int .i64 frs2,.int .u32 (fimm:Int)]) (n:=5) rfl hF rfl h (hn:=Nat.le_of_ble_eq_true rfl)|exact zrg h):G:=y h
theorem c8f (h:R) (y:R→G:=by intro h;first|exact w_lssH rfl rfl rfl h (hb:=by with_reducible assumption)|exact w_geqH rfl rfl rfl h (hb:=by with_reducible assumption)|exact w_eqlH rfl rfl rfl h (hb:=by with_reducible assumption)|exact w_neqH rfl rfl rfl h (hb:=by with_reducible assumption)|exact w_lde (us:=[.int .i64 fno,.int .u32 (fpc:Int),.int .i64 fop,.int .i64 frd,.int .i64 frs1,.int .i64 frs2,.int .u32 (fimm:Int),.int .u32 (fguess:Int),.int .i64 fis,.int .i64 fleft,.int .u32 (fvalue:Int),.int .u32 (fnext:Int),.int .u32 (faddr:Int),.int .i64 fhalt,.int .i64 ftook,.bool true,.bool ffilled]) (hu:=Rows.sub (f:=ens) hv) rfl hF rfl h|exact w_ldp (v:=.agg #[.int .i64 fop,.int .i64 frd,.int .i64 frs1,.int .i64 frs2,.int .u32 (fimm:Int)]) (n:=5) rfl hF rfl h (hn:=Nat.le_of_ble_eq_true rfl)|exact zrg h):G:=y h
theorem c8g (h:R) (y:R→G:=by intro h;exact w_box (cs:=mcells k s) rfl hF rfl h):G:=y h
theorem b8f (h:R) (y:R→G:=by intro h;exact w_alloc (ty:=42) (cs:=zeroCore) rfl hF h):G:=y h
theorem f4m (h:R) (y:R→G:=by intro h;exact w_ld (v:=.agg (mcells k s).toArray) rfl hF rfl h):G:=y h
theorem f4n (h:R) (y:R→G:=by intro h;exact w_st (us:=mcells k s) rfl hF rfl rfl h (h1:=fun u hu=>.inl (mcells_one k s u hu))):G:=y h
theorem f4o (h:R) (y:R→G:=by intro h;exact w_alloc (ty:=81) (cs:=zeroCore) rfl hF h):G:=y h
theorem f4p (h:R) (y:R→G:=by intro h;first|exact w_ld (v:=.agg (mcells k s).toArray) rfl hF rfl h|exact w_build (cs:=mcells k s) rfl rfl (by kernel_rfl) h|exact w_build (cs:=stagesL) rfl rfl (by kernel_rfl) h|exact w_ld (cs:=stagesL) (v:=.agg stagesL.toArray) rfl hF rfl h (ht:=stagesRow)|exact g_fldB rfl rfl (by (first|exact Wtd.of_none rfl|exact Wtd.of_some rfl rfl)) h|exact w_ld1 rfl hF rfl h):G:=y h
theorem f4q (h:R) (y:R→G:=by intro h;first|exact w_st (us:=mcells k s) rfl hF rfl rfl h (h1:=fun u hu=>.inl (mcells_one k s u hu))|exact w_st (us:=stagesL) rfl hF rfl rfl h (ht:=stagesRow) (h1:=fun u hu=>.inl (stagesOne u hu))|exact w_st1 rfl hF rfl rfl h (hoff:=by rw [mcells_len];decide)):G:=y h
theorem f4r (h:R) (y:R→G:=by intro h;exact w_alloc (cs:=[.nilFunc,.nilFunc,.nilFunc,.nilFunc,.nilFunc,.nilFunc,.nilFunc]) rfl hF h (hz:=stagesZero)):G:=y h
theorem f4s (h:R) (y:R→G:=by intro h;first|exact g_fldB rfl rfl (by (first|exact Wtd.of_none rfl|exact Wtd.of_some rfl rfl)) h|exact w_ld (cs:=mcells (stageK k0 7) s7) (v:=.agg (mcells (stageK k0 7) s7).toArray) rfl hF rfl h):G:=y h
theorem f4t (h:R) (y:R→G:=by intro h;exact w_st (us:=mcells (stageK k0 7) s7) rfl hF rfl rfl h (h1:=fun u hu=>.inl (mcells_one (stageK k0 7) s7 u hu))):G:=y h
theorem f4u (h:R) (y:R→G:=by intro h;first|exact w_make 8 rfl hF rfl rfl h|exact zst h):G:=y h
theorem f4v (h:R) (y:R→G:=by intro h;first|exact w_build (cs:=[.slice (some ⟨gN,0,none⟩) 8 8,.int .u32 0,.slice none 0 0]) rfl rfl (by kernel_rfl) h|exact zrd h):G:=y h
theorem i3b (h:R) (y:R→G:=by intro h;first|exact w_box rfl hF rfl h|exact w_alloc rfl hF h|exact w_st (us:=cfC (cleanCf c) Al1 cl1 At1 ct1) rfl hF rfl rfl h):G:=y h
theorem i3c (h:R) (y:R→G:=by intro h;exact w_ld rfl hF rfl h):G:=y h
theorem f4w (h:R) (y:R→G:=by intro h;first|exact w_box rfl hF rfl h|exact w_st (us:=mcells (newK c prog m) s1) rfl hF rfl rfl h (h1:=fun u hu=>.inl (mcells_one _ _ u hu))):G:=y h
theorem f4x (h:R) (y:R→G:=by intro h;first|exact w_ld rfl hF rfl h|exact w_minH rfl rfl rfl h):G:=y h
theorem c8h (h:R) (y:R→G:=by intro h;exact w_ld (cs:=mcells (runK j k0) s) (v:=.agg (mcells (runK j k0) s).toArray) rfl hF rfl h):G:=y h
theorem f4y (h:R) (y:R→G:=by intro h;exact w_st (us:=mcells (runK (j+1) k0) s2) rfl hF rfl rfl h (h1:=fun u hu=>.inl (mcells_one _ _ u hu))):G:=y h
theorem f4z (h:R) (y:R→G:=by intro h;exact w_st (us:=mcells (runK j k0) s) rfl hF rfl rfl h (h1:=fun u hu=>.inl (mcells_one _ _ u hu))):G:=y h
theorem f5a (h:R) (y:R→G:=by intro h;first|exact w_build (cs:=cfC zcf none 0 none 0) rfl rfl (by kernel_rfl) h|exact w_fldB rfl rfl h|exact w_ld1 (v:=.int .i64 7) (hv:=ah) rfl hF rfl h|exact w_ld1 (v:=.slice s1.reA 1 s1.reC) (hv:=ar s1) rfl hF rfl h):G:=y h
theorem f5b (h:R) (y:R→G:=by intro h;exact w_st (us:=mcells aliveK s1) rfl hF rfl rfl h (h1:=fun u hu=>.inl (mcells_one _ _ u hu))):G:=y h
theorem i3d (h:R) (y:R→G:=by intro h;first|(go_at_call 7;exact zcg hF (HSh.out _ hF.rdA) h)|exact w_st (us:=mcells k0 s1) rfl hF rfl rfl h (h1:=fun u hu=>.inl (mcells_one _ _ u hu))|exact w_box rfl hF rfl h):G:=y h
theorem i3e (h:R) (y:R→G:=by intro h;first|exact w_ld rfl hF rfl h|exact w_minH rfl rfl rfl h|exact w_maxH rfl rfl rfl h):G:=y h
theorem i3f (h:R) (y:R→G:=by intro h;first|exact w_ld (cs:=mcells (runK j k0) s) (v:=.agg (mcells (runK j k0) s).toArray) rfl hF rfl h|exact g_fldB rfl rfl (by (first|exact Wtd.of_none rfl|exact Wtd.of_some rfl rfl)) h|exact w_ld1 rfl hF rfl h|exact w_eqlH rfl rfl rfl h (hb:=by with_reducible assumption)|exact w_gtrH rfl rfl rfl h (hb:=by with_reducible assumption)|exact w_lssH rfl rfl rfl h (hb:=by with_reducible assumption)|exact w_neqH rfl rfl rfl h (hb:=by with_reducible assumption)):G:=y h
theorem i3g (h:R) (y:R→G:=by intro h;first|exact w_ld (cs:=mcells (runK j k0) s) (v:=.agg (mcells (runK j k0) s).toArray) rfl hF rfl h|exact w_ldp (v:=regsV (runK (j+1) k0) s2) (n:=32) rfl hF rfl h (hn:=by rw [mcells_len];decide)|exact w_lde (us:=[.int .i64 op,.int .i64 rd,.int .i64 r1,.int .i64 r2,.int .u32 (imm:Int)]) (hu:=hens) rfl hF rfl h|exact w_ld1 (v:=.int .u32 (v1:Int)) (hv:=q1 s2) rfl hF rfl h|exact w_ld1 (v:=.int .u32 (v2:Int)) (hv:=q2 s2) rfl hF rfl h|exact w_ix (k:=0) rfl hF rfl rfl h (hkn:=hpos)|exact w_ixAr (k:=r1) rfl rfl rfl Tryz.underlying29 (by kernel_rfl) h (hkn:=d1)|exact w_ixAr (k:=r2) rfl rfl rfl Tryz.underlying29 (by kernel_rfl) h (hkn:=d2)|exact g_fldB rfl rfl (by (first|exact Wtd.of_none rfl|exact Wtd.of_some rfl rfl)) h|exact g_fld rfl hF rfl (by (first|exact Wtd.of_none rfl|exact Wtd.of_some rfl rfl)) h|exact w_ld1 rfl hF rfl h|exact w_eqlH rfl rfl rfl h (hb:=by with_reducible assumption)|exact w_gtrH rfl rfl rfl h (hb:=by with_reducible assumption)|exact w_lssH rfl rfl rfl h (hb:=by with_reducible assumption)|exact w_neqH rfl rfl rfl h (hb:=by with_reducible assumption)):G:=y h
theorem i3h (h:R) (y:R→G:=by intro h;first|exact w_st (us:=mcells (runK (j+1) k0) s2) rfl hF rfl rfl h (h1:=fun u hu=>.inl (mcells_one _ _ u hu))|(go_at_call 17;exact zcg hF (HRe.out _) h)):G:=y h
end Go.Proofs.YtgnomadgnciifaaGreatDoor
