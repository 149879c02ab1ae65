/- Joined: Kok, Mc, Sq6, Mz. -/
import Derived.Test.YtgnomadgnciifaaGreatDoorZH0
import Derived.Test.YtgnomadgnciifaaGreatDoorZ3
import Derived.Test.YtgnomadgnciifaaGreatDoorZ9
import Derived.Test.YtgnomadgnciifaaGreatDoorZ25
import Derived.Test.YtgnomadgnciifaaGreatDoorZ10
import Derived.Test.YtgnomadgnciifaaGreatDoorZ16
import Derived.Test.YtgnomadgnciifaaGreatDoorZ1
import Derived.Test.YtgnomadgnciifaaGreatDoorZ4
import Derived.Lib.LazyBuf
import Derived.Test.YtgnomadgnciifaaGreatDoorZ19
import Derived.Test.YtgnomadgnciifaaGreatDoorZ20
import Derived.Test.YtgnomadgnciifaaGreatDoorZ21
import Derived.Test.YtgnomadgnciifaaGreatDoorZ22
set_option linter.unusedVariables false
set_option linter.unusedSimpArgs false
set_option linter.unusedSectionVars false
set_option maxRecDepth 100000
set_option maxHeartbeats 16000000
namespace Go.Proofs.YtgnomadgnciifaaGreatDoor
theorem z26x0 {p:Prop} (h:p:=by
 go_wp2_with ((try simp only [zA,Nat.reduceAdd]);(first|refine zg53 ?_|(refine zg14 ?_;clear hF;(first|intro gN wN hF|intro wN hF|intro hF))|(refine zg15 ?_;clear hF;intro vN wN hF)))
 go_ret
 exact ⟨rfl,hF.bel⟩):p:=h
section
open Go.RowKit Wd
theorem sizeI_le (op:Int):0≤sizeI op∧sizeI op≤4:=by
 unfold sizeI
 repeat' split
 all_goals omega
theorem tookL_ok (op:Int) (a b:Nat) : -40≤tookL op a b∧tookL op a b≤40:=by
 unfold tookL
 have h1:=bitsL_le 32 (sizeL op a)
 have h2:=bitsL_le 32 (sizeL op b)
 repeat' split
 all_goals omega
theorem EnOk.upd {e f:En} (h:EnOk e) (hno:f.no=e.no) (hpc:f.pc=e.pc) (hi:f.inst=e.inst) (hg:f.guess<4294967296) (his:0≤f.is∧f.is≤9223372036854775807∨f.is=e.is)
  (hl : -9223372036854775808≤f.left∧f.left≤9223372036854775807) (hv:f.value<4294967296) (hn:f.next<4294967296) (ha:f.addr<4294967296) (hh:0≤f.halt∧f.halt≤100∨f.halt=e.halt) (ht : -40≤f.took∧f.took≤40∨f.took=e.took):EnOk f:=by
 obtain ⟨h1,h2,h3,h4,h5,h6,h7,h8,h9,h10,h11,_⟩:=h
 refine ⟨by rw [hno];exact h1,by rw [hpc];exact h2,by rw [hi];exact h3,hg,?_,hl,hv,hn,ha,?_,?_,trivial,trivial⟩
 ·rcases his with h|h
  ·omega
  ·rw [h];exact h5
 ·rcases hh with h|h
  ·omega
  ·rw [h];exact h10
 ·rcases ht with h|h
  ·omega
  ·rw [h];exact h11
theorem EnOk.l {e:En} (h:EnOk e) : -9223372036854775808≤e.left∧e.left≤9223372036854775807:=h.2.2.2.2.2.1
theorem EnOk.g {e:En} (h:EnOk e):e.guess<4294967296:=h.2.2.2.1
theorem EnOk.v {e:En} (h:EnOk e):e.value<4294967296:=h.2.2.2.2.2.2.1
theorem EnOk.n {e:En} (h:EnOk e):e.next<4294967296:=h.2.2.2.2.2.2.2.1
theorem EnOk.a {e:En} (h:EnOk e):e.addr<4294967296:=h.2.2.2.2.2.2.2.2.1
theorem EnOk.p {e:En} (h:EnOk e):e.pc<4294967296:=h.2.1
theorem EnOk.imm {e:En} (h:EnOk e):e.inst.imm<4294967296:=h.2.2.1.2.2.2.2
theorem goE_ok {e:En} (h:EnOk e):EnOk (goE e):=by
 have hl:=h.l
 unfold goE
 split
 ·exact h
 ·split
  ·(refine h.upd rfl rfl rfl ?_ ?_ ?_ ?_ ?_ ?_ ?_ ?_ <;> first|exact h.g|exact h.v|exact h.n|exact h.a|exact h.l|exact .inr rfl|exact .inl (by decide)|exact add32_lt _ _|exact nextL_lt _ _ _ _|(dsimp only;omega))
  ·(refine h.upd rfl rfl rfl ?_ ?_ ?_ ?_ ?_ ?_ ?_ ?_ <;> first|exact h.g|exact h.v|exact h.n|exact h.a|exact h.l|exact .inr rfl|exact .inl (by decide)|exact add32_lt _ _|exact nextL_lt _ _ _ _|(dsimp only;omega))
theorem takeE_ok {e:En} {b:ByteArray} (h:EnOk e):EnOk (takeE e b):=by
 unfold takeE
 split
 ·exact h
 ·have hv:(if writesI e.inst≠0 then loadL e.inst.op b else 0)<4294967296:=by
   split
   ·exact loadL_lt
   ·omega
  refine h.upd rfl rfl rfl h.g (.inl (by dsimp only;omega)) (by dsimp only;omega) hv h.n h.a (.inr rfl) (.inr rfl)
theorem startE_ok {e:En} {a b:Nat} (h:EnOk e) (ha:a<4294967296) (hb:b<4294967296):EnOk (startE e a b):=by
 have hv:(if writesI e.inst≠0 then valueL e.inst e.pc a b else 0)<4294967296:=by
  split
  ·exact valueL_lt _ _ ha hb h.imm
  ·omega
 have ht:=tookL_ok e.inst.op a b
 unfold startE
 split
 ·exact h
 ·dsimp only
  split
  ·exact h.upd rfl rfl rfl h.g (.inl (by dsimp only;omega)) (by dsimp only;omega) hv (add32_lt _ _) h.a (.inr rfl) (.inr rfl)
  ·split
   ·exact h.upd rfl rfl rfl h.g (.inl (by dsimp only;omega)) (by dsimp only;omega) hv (add32_lt _ _) h.a (.inr rfl) (.inl ht)
   ·split
    ·split
     ·exact h.upd rfl rfl rfl h.g (.inl (by dsimp only;omega)) (by dsimp only;omega) hv (nextL_lt _ _ _ _) h.a (.inr rfl) (.inr rfl)
     ·exact h.upd rfl rfl rfl h.g (.inl (by dsimp only;omega)) (by dsimp only;omega) (by dsimp only;omega) (add32_lt _ _) h.a (.inl (by dsimp only;omega)) (.inr rfl)
    ·exact h.upd rfl rfl rfl h.g (.inl (by dsimp only;omega)) (by dsimp only;omega) hv (add32_lt _ _) h.a (.inr rfl) (.inr rfl)
theorem addressE_ok {e:En} {n a:Nat} (h:EnOk e):EnOk (addressE e n a):=by
 unfold addressE
 split
 ·exact h
 ·split
  ·exact h.upd rfl rfl rfl h.g (.inr rfl) h.l h.v h.n (add32_lt _ _) (.inr rfl) (.inr rfl)
  ·refine h.upd rfl rfl rfl h.g (.inl (by dsimp only;omega)) h.l h.v h.n (add32_lt _ _) (.inl ?_) (.inr rfl)
   dsimp only
   split <;> decide
theorem storeE_ok {e:En} {b:Nat} (h:EnOk e):EnOk (storeE e b):=by
 unfold storeE
 split
 ·exact h
 ·exact h.upd rfl rfl rfl h.g (.inl (by dsimp only;omega)) h.l (lowestL_lt _ (sizeI_le _)) h.n h.a (.inr rfl) (.inr rfl)
theorem cutE_ok {e:En} (h:EnOk e):EnOk { e with guess:=e.next }:=h.upd rfl rfl rfl h.n (.inr rfl) h.l h.v h.n h.a (.inr rfl) (.inr rfl)
theorem busE_ok {e:En} (h:EnOk e):EnOk { e with is:=2 }:=h.upd rfl rfl rfl h.g (.inl (by dsimp only;omega)) h.l h.v h.n h.a (.inr rfl) (.inr rfl)
theorem fillE_ok {e:En} (h:EnOk e):EnOk { e with filled:=true }:=h.upd rfl rfl rfl h.g (.inr rfl) h.l h.v h.n h.a (.inr rfl) (.inr rfl)
theorem filledE_ok {k:Kern} {x:Nat} {e:En} (h:EnOk e):EnOk (filledE k x e):=by
 unfold filledE
 split
 ·exact takeE_ok (fillE_ok h)
 ·exact h
theorem ite_ok {b:Bool} {x:Nat} (h:x<4294967296) : -9223372036854775808≤(if b=true then (x:Int) else 0)∧(if b=true then (x:Int) else 0)≤9223372036854775807:=by
 cases b
 ·simp
 ·rw [if_pos rfl];omega
theorem ite_lt {p:Prop} [Decidable p] {x y:Nat} (hx:x<4294967296) (hy:y<4294967296):(if p then x else y)<4294967296:=by split <;> assumption
theorem readL_ok (op:Int) (w:Nat) (ho : -9223372036854775808≤op∧op≤9223372036854775807):InsOk (readL op w):=by
 have h1:=fieldI_lt w 7 5
 have h2:=fieldI_lt w 15 5
 have h3:=fieldI_lt w 20 5
 unfold readL
 dsimp only
 refine ⟨ho,?_,?_,?_,?_⟩
 ·exact ite_ok h1
 ·exact ite_ok h2
 ·exact ite_ok h3
 ·exact ite_lt (Nat.mod_lt _ (by omega)) (sextI_lt _ (Nat.mod_lt _ (by omega)))
theorem decodeFrom_le (w:Nat):∀ (n op k:Nat),decodeFrom w n op=some k→op≤k∧k<op+n
 | 0,op,k,h=>by cases h
 | n+1,op,k,h=>by
  unfold decodeFrom at h
  split at h
  ·injection h with h;omega
  ·have:=decodeFrom_le w n (op+1) k h;omega
theorem decodeL_ok {w:Nat} {i:Ins} (h:decodeL w=some i):InsOk i∧1≤i.op∧i.op≤48:=by
 unfold decodeL at h
 split at h
 ·rename_i op ho
  injection h with h
  subst h
  have:=decodeFrom_le _ _ _ _ ho
  refine ⟨readL_ok _ _ (by omega),?_,?_⟩
  ·show (1:Int)≤(op:Int);omega
  ·show (op:Int)≤48;omega
 ·cases h
theorem zins_ok : InsOk zins:=by unfold zins InsOk;dsimp only;omega
theorem enterE_ok {no:Int} {f:Fe} {prog:List Nat} (hn : -9223372036854775808≤no∧no≤9223372036854775807) (hf:FeOk f):EnOk (enterE no f prog):=by
 have hi:∀ {i:Ins} {h s:Int},InsOk i→0≤h∧h≤100→0≤s∧s≤100→EnOk ⟨no,f.pc,i,f.guess,s,0,0,0,0,h,0,false,false⟩:=fun hi hh hs=>
  ⟨hn,hf.1,hi,hf.2,by dsimp only;omega,by dsimp only;omega,by dsimp only;omega,by dsimp only;omega,by dsimp only;omega,by dsimp only;omega,by dsimp only;omega,trivial,trivial⟩
 unfold enterE
 dsimp only
 split
 ·exact hi zins_ok (by decide) (by decide)
 ·split
  ·exact hi zins_ok (by decide) (by decide)
  ·rename_i i hd
   have:=(decodeL_ok hd).1
   split
   ·exact hi this (by decide) (by decide)
   ·split
    ·exact hi this (by decide) (by decide)
    ·exact hi this (by decide) (by decide)
theorem ensOk.map {q:List En} {f:En→En} (h:ensOk q) (hf:∀ e,EnOk e→EnOk (f e)):ensOk (q.map f):=fun r hr=>by
 obtain ⟨e,he,rfl⟩:=List.mem_map.1 hr
 exact hf e (h e he)
theorem ensOk.set {q:List En} {e:En} (h:ensOk q) (he:EnOk e) (i:Nat):ensOk (q.set i e):=fun r hr=>by
 rcases List.mem_or_eq_of_mem_set hr with h1|rfl
 ·exact h r h1
 ·exact he
theorem ensOk.app {q:List En} {e:En} (h:ensOk q) (he:EnOk e):ensOk (q++[e]):=fun r hr=>by
 rcases List.mem_append.1 hr with h1|h1
 ·exact h r h1
 ·obtain rfl:=List.mem_singleton.1 h1;exact he
structure KOk (B:Int) (k:Kern):Prop where
 conf:rightCf k.conf=true
 tape:∀ x∈k.conf.tape,x<4294967296
 plen:k.prog.length≤64
 prog:∀ x∈k.prog,x<4294967296
 cyc:0≤k.cycle∧k.cycle≤B
 rlen:k.regs.length=32
 regs:∀ x∈k.regs,x<4294967296
 fetch:k.fetch<4294967296
 felen:k.fetched.length≤16
 fe:∀ f∈k.fetched,FeOk f
 roblen:k.rob.length≤16
 rob:ensOk k.rob
 next:0≤k.next∧k.next≤B
 stlen:k.stores.length≤16
 st:∀ p∈k.stores,p.addr<4294967296∧p.data.size≤4
 data:RightP k.dways k.data
 dok:COk k.data
 words:RightP k.wways k.words
 wok:COk k.words
 buslen:(k.bus.length:Int)≤B
 bus:∀ r∈k.bus,r.line<4294967296∧r.data.size≤maxLen
 left:∀ r∈k.bus,-9223372036854775807≤r.left∧r.left≤9223372036854775807
 asked:0≤k.asked∧k.asked≤B
 guessed:0≤k.guessed∧k.guessed≤B
 mem:k.mem.size≤256
 guess:rightG k.guess=true
 slots:∀ s∈k.guess.slots,SlOk s
 rets:∀ x∈k.guess.rets,x<4294967296
 halt : -9223372036854775808≤k.halt∧k.halt≤9223372036854775807
 retlen:(k.retired.length:Int)≤B
 bound:B≤1000000
end
section
open Go.RowKit Wd
theorem clipFe_any (A:Option Addr) (n c:Nat) (w:World) (hc:n≤c) (hm:c≤maxLen) :
  Calls Tryz.prog 58 #[.slice A n c] w fun e w'=>e = .returned (.slice A n n)∧Bel w w':=by
 unfold maxLen at hm
 have hF:=St.start w [] (fun d hd=>by cases hd)
 go_enter Tryz.func58,Tryz.ntmps58
 exact z26x0
theorem clipPu_any (A:Option Addr) (n c:Nat) (w:World) (hc:n≤c) (hm:c≤maxLen) :
  Calls Tryz.prog 59 #[.slice A n c] w fun e w'=>e = .returned (.slice A n n)∧Bel w w':=by
 unfold maxLen at hm
 have hF:=St.start w [] (fun d hd=>by cases hd)
 go_enter Tryz.func59,Tryz.ntmps59
 exact z26x0
theorem clipRq_any (A:Option Addr) (n c:Nat) (w:World) (hc:n≤c) (hm:c≤maxLen) :
  Calls Tryz.prog 60 #[.slice A n c] w fun e w'=>e = .returned (.slice A n n)∧Bel w w':=by
 unfold maxLen at hm
 have hF:=St.start w [] (fun d hd=>by cases hd)
 go_enter Tryz.func60,Tryz.ntmps60
 exact z26x0
theorem clipSt_any (A:Option Addr) (n c:Nat) (w:World) (hc:n≤c) (hm:c≤maxLen) :
  Calls Tryz.prog 61 #[.slice A n c] w fun e w'=>e = .returned (.slice A n n)∧Bel w w':=by
 unfold maxLen at hm
 have hF:=St.start w [] (fun d hd=>by cases hd)
 go_enter Tryz.func61,Tryz.ntmps61
 exact z26x0
theorem clone_any (A:Option Addr) (n c:Nat) (q:List En) (w:World) (hr:Rd w w.heap.size 17 A n c (ens q)) (hn:n≤1000) :
  Calls Tryz.prog 57 #[.slice A n c] w fun e w'=>∃ v,e = .returned v∧Bel w w'∧w'.ownsRow w.heap.size 54 17 v n (ens q):=by
 have hF:=St.start w [rowD 17 A n c (ens q)] (fun d hd=>by obtain rfl:=List.mem_singleton.1 hd;exact hr)
 have hc1:=hr.le
 have hc2:=hr.mx
 unfold maxLen at hc2
 cases A with
 | none=>
  have heq:=fun (W:World)=>run_eql_slice_nil (P:=Tryz.prog) W 31 54 none n c Tryz.underlying31
  have h0:n=0:=by
   rcases Nat.eq_zero_or_pos n with h|h
   ·exact h
   ·obtain ⟨g,f,e,_⟩:=hr.at_ h;cases e
  have hq:ens q=[]:=List.eq_nil_of_length_eq_zero (by rw [hr.len,h0])
  subst h0
  rw [hq] at hF ⊢
  clear hr
  go_enter Tryz.func57,Tryz.ntmps57
  go_wp2_with ((try simp only [zA,Nat.reduceAdd]);(first|refine zg54 ?_|(refine zg14 ?_;clear hF;(first|intro gN wN hF|intro wN hF|intro hF))|(refine zg15 ?_;clear hF;intro vN wN hF)))
  go_ret
  exact ⟨_,rfl,hF.bel,by simp,.inl ⟨rfl,rfl⟩⟩
 | some b=>
  have heq:=fun (W:World)=>run_eql_slice_nil (P:=Tryz.prog) W 31 54 (some b) n c Tryz.underlying31
  clear hr
  go_enter Tryz.func57,Tryz.ntmps57
  go_wp2_with ((try simp only [zA,Nat.reduceAdd]);(first|refine zg54 ?_|(refine zg14 ?_;clear hF;(first|intro gN wN hF|intro wN hF|intro hF))|(refine zg15 ?_;clear hF;intro vN wN hF)))
  go_ret
  refine ⟨_,rfl,hF.bel,?_⟩
  have:=hF.ownAt at0
  rwa [Nat.zero_add,List.nil_append] at this
end
section
open Go.RowKit Wd
theorem Enter_any (A:Option Addr) (n c:Nat) (q:List En) (no:Int) (f:Fe) (Ap:Option Addr) (np cp:Nat) (prog:List Nat) (w:World) (hr:Rd w w.heap.size 17 A n c (ens q)) (hp:Rd w w.heap.size 1 Ap np cp (u32v prog)) (hc:Rd w w.heap.size 1 (some ⟨0,0,none⟩) 49 49 (u32v codesL))
  (hn1:n≤1000) (hf:FeOk f) (hpr:∀ x∈prog,x<4294967296) :
  Calls Tryz.prog 78 #[.slice A n c,.int .i64 no,f.val,.slice Ap np cp] w fun x w'=>∃ v,x = .returned v∧Bel w w'∧w'.ownsRow w.heap.size 54 17 v (n+1) (ens (q++[enterE no f prog])):=by
 have hF:=St.start w [rowD 17 A n c (ens q),rowD 1 Ap np cp (u32v prog),codesD] (fun d hd=>by
  rcases List.mem_cons.1 hd with rfl|hd
  ·exact hr
  ·rcases List.mem_cons.1 hd with rfl|hd
   ·exact hp
   ·obtain rfl:=List.mem_singleton.1 hd;exact hc)
 have hqn:=Lib.hid hr.enslen
 obtain ⟨pc,gs⟩:=f
 have hpc:pc<4294967296:=hf.1
 have HFe:=fun (W:World) (h:Rd W W.heap.size 1 Ap np cp (u32v prog))=>Fetch_any Ap np cp prog pc W h hpc
 have hED:enterE no ⟨pc,gs⟩ prog=match fetchL prog pc with
  | none=>⟨no,pc,zins,gs,3,0,0,0,0,1,0,false,false⟩
  | some w=>match decodeL w with
   | none=>⟨no,pc,zins,gs,3,0,0,0,0,2,0,false,false⟩
   | some i=>if i.op=47 then ⟨no,pc,i,gs,3,0,0,0,0,6,0,false,false⟩ else if i.op=48 then ⟨no,pc,i,gs,3,0,0,0,0,7,0,false,false⟩ else ⟨no,pc,i,gs,0,0,0,0,0,0,0,false,false⟩:=rfl
 cases hx:fetchL prog pc with
 | none=>
  rw [hx] at HFe hED
  have HDe:=fun (W:World) (h:Rd W W.heap.size 1 (some ⟨0,0,none⟩) 49 49 (u32v codesL))=>Decode_any 0 W (by omega) h
  have h0:decodeL 0=none:=by decide +kernel
  rw [h0] at HDe
  exact enter_none A n c q no pc gs Ap np cp prog w hn1 hr.le hqn hF _ 0 0 20 0 0 0 0 hED (Lib.hid HFe) (Lib.hid HDe)
 | some x=>
  rw [hx] at HFe hED
  have hxl:x<4294967296:=by
   unfold fetchL at hx
   split at hx
   ·exact hpr x (List.mem_of_getElem? hx)
   ·cases hx
  have HDe:=fun (W:World) (h:Rd W W.heap.size 1 (some ⟨0,0,none⟩) 49 49 (u32v codesL))=>Decode_any x W hxl h
  cases hd:decodeL x with
  | none=>
   rw [hd] at HDe
   simp only [hd] at hED
   exact enter_word A n c q no pc gs Ap np cp prog w hn1 hr.le hqn hF _ x 0 0 0 0 0 hED (Lib.hid HFe) (Lib.hid HDe)
  | some i=>
   rw [hd] at HDe
   simp only [hd] at hED
   obtain ⟨op,rd,rs1,rs2,imm⟩:=i
   dsimp only at hED
   by_cases h47:op=47
   ·subst h47
    rw [if_pos rfl] at hED
    exact enter_call A n c q no pc gs Ap np cp prog w hn1 hr.le hqn hF _ x rd rs1 rs2 imm hED (Lib.hid HFe) (Lib.hid HDe)
   ·rw [if_neg h47] at hED
    by_cases h48:op=48
    ·subst h48
     rw [if_pos rfl] at hED
     exact enter_brk A n c q no pc gs Ap np cp prog w hn1 hr.le hqn hF _ x rd rs1 rs2 imm hED (Lib.hid HFe) (Lib.hid HDe)
    ·rw [if_neg h48] at hED
     exact enter_inst A n c q no pc gs Ap np cp prog w hn1 hr.le hqn hF _ x op rd rs1 rs2 imm h47 h48 hED (Lib.hid HFe) (Lib.hid HDe)
end
section
open Go.RowKit Wd
theorem cloneU_any (A:Option Addr) (n c:Nat) (l:List Nat) (w:World) (hr:Rd w w.heap.size 1 A n c (u32v l)) (hn:n≤1000) :
  Calls Tryz.prog 25 #[.slice A n c] w fun e w'=>∃ v,e = .returned v∧Bel w w'∧w'.ownsRow w.heap.size 28 1 v n (u32v l):=by
 have hF:=St.start w [rowD 1 A n c (u32v l)] (fun d hd=>by obtain rfl:=List.mem_singleton.1 hd;exact hr)
 have hc1:=hr.le
 have hc2:=hr.mx
 unfold maxLen at hc2
 cases A with
 | none=>
  have heq:=fun (W:World)=>run_eql_slice_nil (P:=Tryz.prog) W 23 28 none n c Tryz.underlying23
  have h0:n=0:=by
   rcases Nat.eq_zero_or_pos n with h|h
   ·exact h
   ·obtain ⟨g,f,e,_⟩:=hr.at_ h;cases e
  have hq:u32v l=[]:=List.eq_nil_of_length_eq_zero (by rw [hr.len,h0])
  subst h0
  rw [hq] at hF ⊢
  clear hr
  go_enter Tryz.func25,Tryz.ntmps25
  go_wp2_with ((try simp only [zA,Nat.reduceAdd]);(first|refine zg13 ?_|(refine zg14 ?_;clear hF;(first|intro gN wN hF|intro wN hF|intro hF))|(refine zg15 ?_;clear hF;intro vN wN hF)))
  go_ret
  exact ⟨_,rfl,hF.bel,by simp,.inl ⟨rfl,rfl⟩⟩
 | some b=>
  have heq:=fun (W:World)=>run_eql_slice_nil (P:=Tryz.prog) W 23 28 (some b) n c Tryz.underlying23
  clear hr
  go_enter Tryz.func25,Tryz.ntmps25
  go_wp2_with ((try simp only [zA,Nat.reduceAdd]);(first|refine zg13 ?_|(refine zg14 ?_;clear hF;(first|intro gN wN hF|intro wN hF|intro hF))|(refine zg15 ?_;clear hF;intro vN wN hF)))
  go_ret
  refine ⟨_,rfl,hF.bel,?_⟩
  have:=hF.ownAt at0
  rwa [Nat.zero_add,List.nil_append] at this
end
end Go.Proofs.YtgnomadgnciifaaGreatDoor
