/- . -/
import Derived.Test.YtgnomadgnciifaaGreatDoorZ25
import Derived.Test.YtgnomadgnciifaaGreatDoorZ19
import Derived.Test.YtgnomadgnciifaaGreatDoorZ20
import Derived.Test.YtgnomadgnciifaaGreatDoorZ21
import Derived.Test.YtgnomadgnciifaaGreatDoorZ22
import Derived.Lib.LazyBuf
set_option linter.unusedVariables false
set_option linter.unusedSimpArgs false
set_option linter.unusedSectionVars false
set_option maxRecDepth 100000
set_option maxHeartbeats 16000000
namespace Go.Proofs.YtgnomadgnciifaaGreatDoor
theorem c1u {p:Prop} (h:p:=by
 go_wp2_with ((try simp only [zA,Nat.reduceAdd]);(first|refine f3g ?_|(refine a1s ?_;clear hF;(first|intro gN wN hF|intro wN hF|intro hF))|(refine a1d ?_;clear hF;intro vN wN hF)))
 go_ret
 exact ⟨rfl,hF.bel⟩):p:=h
section
open Go.RowKit Wd
theorem b5e (op:Int):0≤a2p op∧a2p op≤4:=by
 unfold a2p
 repeat' split
 all_goals omega
theorem d6q (op:Int) (a b:Nat) : -40≤a4i op a b∧a4i op a b≤40:=by
 unfold a4i
 have h1:=c1e 32 (a1v op a)
 have h2:=c1e 32 (a1v op b)
 repeat' split
 all_goals omega
theorem EnOk.upd {e f:En} (h:EnOk e) (hno:f.no=e.no) (hpc:f.pc=e.pc) (hi:f.inst=e.inst) (hg:f.guess<4294967296) (his:0≤f.is∧f.is≤9223372036854775807∨f.is=e.is)
  (hl : -9223372036854775808≤f.left∧f.left≤9223372036854775807) (hv:f.value<4294967296) (hn:f.next<4294967296) (ha:f.addr<4294967296) (hh:0≤f.halt∧f.halt≤100∨f.halt=e.halt) (ht : -40≤f.took∧f.took≤40∨f.took=e.took):EnOk f:=by
 obtain ⟨h1,h2,h3,h4,h5,h6,h7,h8,h9,h10,h11,_⟩:=h
 refine ⟨by rw [hno];exact h1,by rw [hpc];exact h2,by rw [hi];exact h3,hg,?_,hl,hv,hn,ha,?_,?_,trivial,trivial⟩
 ·rcases his with h|h
  ·omega
  ·rw [h];exact h5
 ·rcases hh with h|h
  ·omega
  ·rw [h];exact h10
 ·rcases ht with h|h
  ·omega
  ·rw [h];exact h11
theorem EnOk.l {e:En} (h:EnOk e) : -9223372036854775808≤e.left∧e.left≤9223372036854775807:=h.2.2.2.2.2.1
theorem EnOk.g {e:En} (h:EnOk e):e.guess<4294967296:=h.2.2.2.1
theorem EnOk.v {e:En} (h:EnOk e):e.value<4294967296:=h.2.2.2.2.2.2.1
theorem EnOk.n {e:En} (h:EnOk e):e.next<4294967296:=h.2.2.2.2.2.2.2.1
theorem EnOk.a {e:En} (h:EnOk e):e.addr<4294967296:=h.2.2.2.2.2.2.2.2.1
theorem EnOk.p {e:En} (h:EnOk e):e.pc<4294967296:=h.2.1
theorem EnOk.imm {e:En} (h:EnOk e):e.inst.imm<4294967296:=h.2.2.1.2.2.2.2
theorem d6r {e:En} (h:EnOk e):EnOk (goE e):=by
 have hl:=h.l
 unfold goE
 split
 ·exact h
 ·split
  ·(refine h.upd rfl rfl rfl ?_ ?_ ?_ ?_ ?_ ?_ ?_ ?_ <;> first|exact h.g|exact h.v|exact h.n|exact h.a|exact h.l|exact .inr rfl|exact .inl (by decide)|exact a4r _ _|exact c1j _ _ _ _|(dsimp only;omega))
  ·(refine h.upd rfl rfl rfl ?_ ?_ ?_ ?_ ?_ ?_ ?_ ?_ <;> first|exact h.g|exact h.v|exact h.n|exact h.a|exact h.l|exact .inr rfl|exact .inl (by decide)|exact a4r _ _|exact c1j _ _ _ _|(dsimp only;omega))
theorem c5k {e:En} {b:ByteArray} (h:EnOk e):EnOk (a5m e b):=by
 unfold a5m
 split
 ·exact h
 ·have hv:(if a2b e.inst≠0 then a7o e.inst.op b else 0)<4294967296:=by
   split
   ·exact h1x
   ·omega
  refine h.upd rfl rfl rfl h.g (.inl (by dsimp only;omega)) (by dsimp only;omega) hv h.n h.a (.inr rfl) (.inr rfl)
theorem h2d {e:En} {a b:Nat} (h:EnOk e) (ha:a<4294967296) (hb:b<4294967296):EnOk (a3l e a b):=by
 have hv:(if a2b e.inst≠0 then a7n e.inst e.pc a b else 0)<4294967296:=by
  split
  ·exact g7b _ _ ha hb h.imm
  ·omega
 have ht:=d6q e.inst.op a b
 unfold a3l
 split
 ·exact h
 ·dsimp only
  split
  ·exact h.upd rfl rfl rfl h.g (.inl (by dsimp only;omega)) (by dsimp only;omega) hv (a4r _ _) h.a (.inr rfl) (.inr rfl)
  ·split
   ·exact h.upd rfl rfl rfl h.g (.inl (by dsimp only;omega)) (by dsimp only;omega) hv (a4r _ _) h.a (.inr rfl) (.inl ht)
   ·split
    ·split
     ·exact h.upd rfl rfl rfl h.g (.inl (by dsimp only;omega)) (by dsimp only;omega) hv (c1j _ _ _ _) h.a (.inr rfl) (.inr rfl)
     ·exact h.upd rfl rfl rfl h.g (.inl (by dsimp only;omega)) (by dsimp only;omega) (by dsimp only;omega) (a4r _ _) h.a (.inl (by dsimp only;omega)) (.inr rfl)
    ·exact h.upd rfl rfl rfl h.g (.inl (by dsimp only;omega)) (by dsimp only;omega) hv (a4r _ _) h.a (.inr rfl) (.inr rfl)
theorem c5l {e:En} {n a:Nat} (h:EnOk e):EnOk (a6m e n a):=by
 unfold a6m
 split
 ·exact h
 ·split
  ·exact h.upd rfl rfl rfl h.g (.inr rfl) h.l h.v h.n (a4r _ _) (.inr rfl) (.inr rfl)
  ·refine h.upd rfl rfl rfl h.g (.inl (by dsimp only;omega)) h.l h.v h.n (a4r _ _) (.inl ?_) (.inr rfl)
   dsimp only
   split <;> decide
theorem h2e {e:En} {b:Nat} (h:EnOk e):EnOk (a8q e b):=by
 unfold a8q
 split
 ·exact h
 ·exact h.upd rfl rfl rfl h.g (.inl (by dsimp only;omega)) h.l (h2b _ (b5e _)) h.n h.a (.inr rfl) (.inr rfl)
theorem h2f {e:En} (h:EnOk e):EnOk { e with guess:=e.next }:=h.upd rfl rfl rfl h.n (.inr rfl) h.l h.v h.n h.a (.inr rfl) (.inr rfl)
theorem d6s {e:En} (h:EnOk e):EnOk { e with is:=2 }:=h.upd rfl rfl rfl h.g (.inl (by dsimp only;omega)) h.l h.v h.n h.a (.inr rfl) (.inr rfl)
theorem d6t {e:En} (h:EnOk e):EnOk { e with filled:=true }:=h.upd rfl rfl rfl h.g (.inr rfl) h.l h.v h.n h.a (.inr rfl) (.inr rfl)
theorem h2g {k:Kern} {x:Nat} {e:En} (h:EnOk e):EnOk (a5p k x e):=by
 unfold a5p
 split
 ·exact c5k (d6t h)
 ·exact h
theorem c5m {b:Bool} {x:Nat} (h:x<4294967296) : -9223372036854775808≤(if b=true then (x:Int) else 0)∧(if b=true then (x:Int) else 0)≤9223372036854775807:=by
 cases b
 ·simp
 ·rw [if_pos rfl];omega
theorem h2h {p:Prop} [Decidable p] {x y:Nat} (hx:x<4294967296) (hy:y<4294967296):(if p then x else y)<4294967296:=by split <;> assumption
theorem h2i (op:Int) (w:Nat) (ho : -9223372036854775808≤op∧op≤9223372036854775807):b4e (a2g op w):=by
 have h1:=a3e w 7 5
 have h2:=a3e w 15 5
 have h3:=a3e w 20 5
 unfold a2g
 dsimp only
 refine ⟨ho,?_,?_,?_,?_⟩
 ·exact c5m h1
 ·exact c5m h2
 ·exact c5m h3
 ·exact h2h (Nat.mod_lt _ (by omega)) (c3b _ (Nat.mod_lt _ (by omega)))
theorem c5n (w:Nat):∀ (n op k:Nat),a6b w n op=some k→op≤k∧k<op+n
 | 0,op,k,h=>by cases h
 | n+1,op,k,h=>by
  unfold a6b at h
  split at h
  ·injection h with h;omega
  ·have:=c5n w n (op+1) k h;omega
theorem c5o {w:Nat} {i:Ins} (h:a4j w=some i):b4e i∧1≤i.op∧i.op≤48:=by
 unfold a4j at h
 split at h
 ·rename_i op ho
  injection h with h
  subst h
  have:=c5n _ _ _ _ ho
  refine ⟨h2i _ _ (by omega),?_,?_⟩
  ·show (1:Int)≤(op:Int);omega
  ·show (op:Int)≤48;omega
 ·cases h
theorem d6u : b4e a9m:=by unfold a9m b4e;dsimp only;omega
theorem h2j {no:Int} {f:Fe} {prog:List Nat} (hn : -9223372036854775808≤no∧no≤9223372036854775807) (hf:b4f f):EnOk (a5n no f prog):=by
 have hi:∀ {i:Ins} {h s:Int},b4e i→0≤h∧h≤100→0≤s∧s≤100→EnOk ⟨no,f.pc,i,f.guess,s,0,0,0,0,h,0,false,false⟩:=fun hi hh hs=>
  ⟨hn,hf.1,hi,hf.2,by dsimp only;omega,by dsimp only;omega,by dsimp only;omega,by dsimp only;omega,by dsimp only;omega,by dsimp only;omega,by dsimp only;omega,trivial,trivial⟩
 unfold a5n
 dsimp only
 split
 ·exact hi d6u (by decide) (by decide)
 ·split
  ·exact hi d6u (by decide) (by decide)
  ·rename_i i hd
   have:=(c5o hd).1
   split
   ·exact hi this (by decide) (by decide)
   ·split
    ·exact hi this (by decide) (by decide)
    ·exact hi this (by decide) (by decide)
theorem ensOk.map {q:List En} {f:En→En} (h:ensOk q) (hf:∀ e,EnOk e→EnOk (f e)):ensOk (q.map f):=fun r hr=>by
 obtain ⟨e,he,rfl⟩:=List.mem_map.1 hr
 exact hf e (h e he)
theorem ensOk.set {q:List En} {e:En} (h:ensOk q) (he:EnOk e) (i:Nat):ensOk (q.set i e):=fun r hr=>by
 rcases List.mem_or_eq_of_mem_set hr with h1|rfl
 ·exact h r h1
 ·exact he
theorem ensOk.app {q:List En} {e:En} (h:ensOk q) (he:EnOk e):ensOk (q++[e]):=fun r hr=>by
 rcases List.mem_append.1 hr with h1|h1
 ·exact h r h1
 ·obtain rfl:=List.mem_singleton.1 h1;exact he
structure KOk (B:Int) (k:Kern):Prop where
 conf:a8a k.conf=true
 tape:∀ x∈k.conf.tape,x<4294967296
 plen:k.prog.length≤64
 prog:∀ x∈k.prog,x<4294967296
 cyc:0≤k.cycle∧k.cycle≤B
 rlen:k.regs.length=32
 regs:∀ x∈k.regs,x<4294967296
 fetch:k.fetch<4294967296
 felen:k.fetched.length≤16
 fe:∀ f∈k.fetched,b4f f
 roblen:k.rob.length≤16
 rob:ensOk k.rob
 next:0≤k.next∧k.next≤B
 stlen:k.stores.length≤16
 st:∀ p∈k.stores,p.addr<4294967296∧p.data.size≤4
 data:RightP k.dways k.data
 dok:COk k.data
 words:RightP k.wways k.words
 wok:COk k.words
 buslen:(k.bus.length:Int)≤B
 bus:∀ r∈k.bus,r.line<4294967296∧r.data.size≤maxLen
 left:∀ r∈k.bus,-9223372036854775807≤r.left∧r.left≤9223372036854775807
 asked:0≤k.asked∧k.asked≤B
 guessed:0≤k.guessed∧k.guessed≤B
 mem:k.mem.size≤256
 guess:a5o k.guess=true
 slots:∀ s∈k.guess.slots,b8v s
 rets:∀ x∈k.guess.rets,x<4294967296
 halt : -9223372036854775808≤k.halt∧k.halt≤9223372036854775807
 retlen:(k.retired.length:Int)≤B
 bound:B≤1000000
end
section
open Go.RowKit Wd
theorem h2k (A:Option Addr) (n c:Nat) (w:World) (hc:n≤c) (hm:c≤maxLen) :
  Calls Tryz.prog 58 #[.slice A n c] w fun e w'=>e = .returned (.slice A n n)∧Bel w w':=by
 unfold maxLen at hm
 have hF:=St.start w [] (fun d hd=>by cases hd)
 go_enter Tryz.func58,Tryz.ntmps58
 exact c1u
theorem h2l (A:Option Addr) (n c:Nat) (w:World) (hc:n≤c) (hm:c≤maxLen) :
  Calls Tryz.prog 59 #[.slice A n c] w fun e w'=>e = .returned (.slice A n n)∧Bel w w':=by
 unfold maxLen at hm
 have hF:=St.start w [] (fun d hd=>by cases hd)
 go_enter Tryz.func59,Tryz.ntmps59
 exact c1u
theorem h2m (A:Option Addr) (n c:Nat) (w:World) (hc:n≤c) (hm:c≤maxLen) :
  Calls Tryz.prog 60 #[.slice A n c] w fun e w'=>e = .returned (.slice A n n)∧Bel w w':=by
 unfold maxLen at hm
 have hF:=St.start w [] (fun d hd=>by cases hd)
 go_enter Tryz.func60,Tryz.ntmps60
 exact c1u
theorem h2n (A:Option Addr) (n c:Nat) (w:World) (hc:n≤c) (hm:c≤maxLen) :
  Calls Tryz.prog 61 #[.slice A n c] w fun e w'=>e = .returned (.slice A n n)∧Bel w w':=by
 unfold maxLen at hm
 have hF:=St.start w [] (fun d hd=>by cases hd)
 go_enter Tryz.func61,Tryz.ntmps61
 exact c1u
theorem h2o (A:Option Addr) (n c:Nat) (q:List En) (w:World) (hr:Rd w w.heap.size 17 A n c (ens q)) (hn:n≤1000) :
  Calls Tryz.prog 57 #[.slice A n c] w fun e w'=>∃ v,e = .returned v∧Bel w w'∧w'.ownsRow w.heap.size 54 17 v n (ens q):=by
 have hF:=St.start w [a1a 17 A n c (ens q)] (fun d hd=>by obtain rfl:=List.mem_singleton.1 hd;exact hr)
 have hc1:=hr.le
 have hc2:=hr.mx
 unfold maxLen at hc2
 cases A with
 | none=>
  have heq:=fun (W:World)=>run_eql_slice_nil (P:=Tryz.prog) W 31 54 none n c Tryz.underlying31
  have h0:n=0:=by
   rcases Nat.eq_zero_or_pos n with h|h
   ·exact h
   ·obtain ⟨g,f,e,_⟩:=hr.at_ h;cases e
  have hq:ens q=[]:=List.eq_nil_of_length_eq_zero (by rw [hr.len,h0])
  subst h0
  rw [hq] at hF ⊢
  clear hr
  go_enter Tryz.func57,Tryz.ntmps57
  go_wp2_with ((try simp only [zA,Nat.reduceAdd]);(first|refine a7u ?_|(refine a1s ?_;clear hF;(first|intro gN wN hF|intro wN hF|intro hF))|(refine a1d ?_;clear hF;intro vN wN hF)))
  go_ret
  exact ⟨_,rfl,hF.bel,by simp,.inl ⟨rfl,rfl⟩⟩
 | some b=>
  have heq:=fun (W:World)=>run_eql_slice_nil (P:=Tryz.prog) W 31 54 (some b) n c Tryz.underlying31
  clear hr
  go_enter Tryz.func57,Tryz.ntmps57
  go_wp2_with ((try simp only [zA,Nat.reduceAdd]);(first|refine a7u ?_|(refine a1s ?_;clear hF;(first|intro gN wN hF|intro wN hF|intro hF))|(refine a1d ?_;clear hF;intro vN wN hF)))
  go_ret
  refine ⟨_,rfl,hF.bel,?_⟩
  have:=hF.ownAt at0
  rwa [Nat.zero_add,List.nil_append] at this
end
section
open Go.RowKit Wd
theorem h2p (A:Option Addr) (n c:Nat) (q:List En) (no:Int) (f:Fe) (Ap:Option Addr) (np cp:Nat) (prog:List Nat) (w:World) (hr:Rd w w.heap.size 17 A n c (ens q)) (hp:Rd w w.heap.size 1 Ap np cp (u32v prog)) (hc:Rd w w.heap.size 1 (some ⟨0,0,none⟩) 49 49 (u32v codesL))
  (hn1:n≤1000) (hf:b4f f) (hpr:∀ x∈prog,x<4294967296) :
  Calls Tryz.prog 78 #[.slice A n c,.int .i64 no,f.val,.slice Ap np cp] w fun x w'=>∃ v,x = .returned v∧Bel w w'∧w'.ownsRow w.heap.size 54 17 v (n+1) (ens (q++[a5n no f prog])):=by
 have hF:=St.start w [a1a 17 A n c (ens q),a1a 1 Ap np cp (u32v prog),a2h] (fun d hd=>by
  rcases List.mem_cons.1 hd with rfl|hd
  ·exact hr
  ·rcases List.mem_cons.1 hd with rfl|hd
   ·exact hp
   ·obtain rfl:=List.mem_singleton.1 hd;exact hc)
 have hqn:=Lib.hid hr.enslen
 obtain ⟨pc,gs⟩:=f
 have hpc:pc<4294967296:=hf.1
 have HFe:=fun (W:World) (h:Rd W W.heap.size 1 Ap np cp (u32v prog))=>d2l Ap np cp prog pc W h hpc
 have hED:a5n no ⟨pc,gs⟩ prog=match a5f prog pc with
  | none=>⟨no,pc,a9m,gs,3,0,0,0,0,1,0,false,false⟩
  | some w=>match a4j w with
   | none=>⟨no,pc,a9m,gs,3,0,0,0,0,2,0,false,false⟩
   | some i=>if i.op=47 then ⟨no,pc,i,gs,3,0,0,0,0,6,0,false,false⟩ else if i.op=48 then ⟨no,pc,i,gs,3,0,0,0,0,7,0,false,false⟩ else ⟨no,pc,i,gs,0,0,0,0,0,0,0,false,false⟩:=rfl
 cases hx:a5f prog pc with
 | none=>
  rw [hx] at HFe hED
  have HDe:=fun (W:World) (h:Rd W W.heap.size 1 (some ⟨0,0,none⟩) 49 49 (u32v codesL))=>c5g 0 W (by omega) h
  have h0:a4j 0=none:=by decide +kernel
  rw [h0] at HDe
  exact g9u A n c q no pc gs Ap np cp prog w hn1 hr.le hqn hF _ 0 0 20 0 0 0 0 hED (Lib.hid HFe) (Lib.hid HDe)
 | some x=>
  rw [hx] at HFe hED
  have hxl:x<4294967296:=by
   unfold a5f at hx
   split at hx
   ·exact hpr x (List.mem_of_getElem? hx)
   ·cases hx
  have HDe:=fun (W:World) (h:Rd W W.heap.size 1 (some ⟨0,0,none⟩) 49 49 (u32v codesL))=>c5g x W hxl h
  cases hd:a4j x with
  | none=>
   rw [hd] at HDe
   simp only [hd] at hED
   exact h1f A n c q no pc gs Ap np cp prog w hn1 hr.le hqn hF _ x 0 0 0 0 0 hED (Lib.hid HFe) (Lib.hid HDe)
  | some i=>
   rw [hd] at HDe
   simp only [hd] at hED
   obtain ⟨op,rd,rs1,rs2,imm⟩:=i
   dsimp only at hED
   by_cases h47:op=47
   ·subst h47
    rw [if_pos rfl] at hED
    exact h1p A n c q no pc gs Ap np cp prog w hn1 hr.le hqn hF _ x rd rs1 rs2 imm hED (Lib.hid HFe) (Lib.hid HDe)
   ·rw [if_neg h47] at hED
    by_cases h48:op=48
    ·subst h48
     rw [if_pos rfl] at hED
     exact h1q A n c q no pc gs Ap np cp prog w hn1 hr.le hqn hF _ x rd rs1 rs2 imm hED (Lib.hid HFe) (Lib.hid HDe)
    ·rw [if_neg h48] at hED
     exact h1r A n c q no pc gs Ap np cp prog w hn1 hr.le hqn hF _ x op rd rs1 rs2 imm h47 h48 hED (Lib.hid HFe) (Lib.hid HDe)
end
section
open Go.RowKit Wd
theorem h2q (A:Option Addr) (n c:Nat) (l:List Nat) (w:World) (hr:Rd w w.heap.size 1 A n c (u32v l)) (hn:n≤1000) :
  Calls Tryz.prog 25 #[.slice A n c] w fun e w'=>∃ v,e = .returned v∧Bel w w'∧w'.ownsRow w.heap.size 28 1 v n (u32v l):=by
 have hF:=St.start w [a1a 1 A n c (u32v l)] (fun d hd=>by obtain rfl:=List.mem_singleton.1 hd;exact hr)
 have hc1:=hr.le
 have hc2:=hr.mx
 unfold maxLen at hc2
 cases A with
 | none=>
  have heq:=fun (W:World)=>run_eql_slice_nil (P:=Tryz.prog) W 23 28 none n c Tryz.underlying23
  have h0:n=0:=by
   rcases Nat.eq_zero_or_pos n with h|h
   ·exact h
   ·obtain ⟨g,f,e,_⟩:=hr.at_ h;cases e
  have hq:u32v l=[]:=List.eq_nil_of_length_eq_zero (by rw [hr.len,h0])
  subst h0
  rw [hq] at hF ⊢
  clear hr
  go_enter Tryz.func25,Tryz.ntmps25
  go_wp2_with ((try simp only [zA,Nat.reduceAdd]);(first|refine a8i ?_|(refine a1s ?_;clear hF;(first|intro gN wN hF|intro wN hF|intro hF))|(refine a1d ?_;clear hF;intro vN wN hF)))
  go_ret
  exact ⟨_,rfl,hF.bel,by simp,.inl ⟨rfl,rfl⟩⟩
 | some b=>
  have heq:=fun (W:World)=>run_eql_slice_nil (P:=Tryz.prog) W 23 28 (some b) n c Tryz.underlying23
  clear hr
  go_enter Tryz.func25,Tryz.ntmps25
  go_wp2_with ((try simp only [zA,Nat.reduceAdd]);(first|refine a8i ?_|(refine a1s ?_;clear hF;(first|intro gN wN hF|intro wN hF|intro hF))|(refine a1d ?_;clear hF;intro vN wN hF)))
  go_ret
  refine ⟨_,rfl,hF.bel,?_⟩
  have:=hF.ownAt at0
  rwa [Nat.zero_add,List.nil_append] at this
end
end Go.Proofs.YtgnomadgnciifaaGreatDoor
