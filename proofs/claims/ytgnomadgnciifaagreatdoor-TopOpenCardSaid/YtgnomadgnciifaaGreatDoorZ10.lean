/- . -/
import Derived.Test.YtgnomadgnciifaaGreatDoorZ9
set_option linter.unusedVariables false
set_option linter.unusedSimpArgs false
set_option linter.unusedSectionVars false
set_option maxRecDepth 100000
set_option maxHeartbeats 16000000
namespace Go.Proofs.YtgnomadgnciifaaGreatDoor
theorem b7k {p:Prop} (h:p:=by
 go_enter Tryz.func69,Tryz.ntmps69
 (go_wp2_with ((first|(refine f3c ?_;clear hF;intro wN hF)|((refine w_ldp (v:=.agg #[.int .i64 op,.int .i64 rd,.int .i64 rs1,.int .i64 rs2,.int .u32 (imm:Int)]) (n:=5) rfl hF rfl ?_ (hn:=Nat.le_of_ble_eq_true rfl));(try refine zs ?_))|((first|refine zrd ?_|(refine zst ?_;clear hF;(first|intro gN wN hF|intro wN hF|intro hF))|(refine zap ?_;clear hF;intro vN wN hF));refine zs ?_))))
 ((try simp only [Exit.inBlock,Exit.then]);refine bodyPost_ret (a2x rfl hF) rfl ?_)
 exact ⟨rfl,hF.bel⟩):p:=h
theorem d5n {p:Prop} (h:p:=by
 refine zry 14 (fun K hK=>?_)
 go_wp2_with (refine zwr ?_;clear hF;intro wN hF;(try refine zs ?_))
 have hH:=hH.nextA hF;refine hK.out _ _ hH ?_;clear hK;refine zs ?_
 refine a2a 15 hH ?_
 refine zrz ?_
 (go_wp2;go_meet;exact ⟨_,A2,n2,c2,S2,rfl,rfl,Lib.hid hC2,hF⟩)):p:=h
theorem d5o {p:Prop} (h:p:=by
 dsimp only
 generalize a4m ways C x=f at *
 obtain ⟨k,i,b⟩:=f
 dsimp only at *
 cases b
 ·exact .no k i hf (by simp)
 ·obtain ⟨_,_,ws,v,hw,hv,_⟩:=hf.at_
  exact .yes k i hf ws v hw hv (by rw [if_pos rfl,setF_at hw,wayF_at hw hv])):p:=h
section
open Go.RowKit Go.Sort
section
variable {ways:Int} {A:Option Addr} {n c x:Nat} {S:List Cs}
theorem d5p {bytes:ByteArray} {C':List (List Wy)} {ok:Bool} (hx:x<4294967296) (hbs:bytes.size≤maxLen) (ho:SOk S) (h:WriteR ways (a1j S) x bytes C' ok) (w:World) (hr:RdS w w.heap.size A n c S) :
  Calls Tryz.prog 145 #[.agg #[.int .i64 ways,.slice A n c],.int .u32 (x:Int),.string bytes] w fun e w'=>∃ y,e = .returned (.tuple #[y,.bool ok])∧CRes w (a3k A n c S) ways y w' C':=by
 cases h with
 | no k i h he hb=>
  subst he hb
  refine (g7t ways A n c x bytes S k i w hr (Lib.hid (a7d hx ho h))).mono ?_
  rintro e w' ⟨rfl,hb⟩
  exact ⟨_,rfl,CRes.sameC hr hb⟩
 | bad k i h ws v hw hv hd he hb=>
  subst he hb
  refine (g7u ways A n c x bytes S k i ws v w hr hx hbs (b3p hr hw) hw hv hd (Lib.hid (a7d hx ho h))).mono ?_
  rintro e w' ⟨rfl,hb⟩
  exact ⟨_,rfl,CRes.sameC hr hb⟩
 | yes k i h ws v hw hv hd hf he hb=>
  subst he hb
  obtain ⟨hR,_,ws',v',hw',_,_,hl⟩:=h.at_
  rw [hw] at hw';injection hw' with hw';subst hw'
  exact g7v ways A n c x bytes S k i ws v w hr hx hbs (b3o hr hR) (b3p hr hw) hw (by have:=b2f hR hl;omega) hv hd hf (Lib.hid (a7d hx ho h))
end
end
section
open Go.RowKit
section
variable {ways:Int} {C C':List (List Wy)}
theorem WriteR.right {x:Nat} {bytes:ByteArray} {ok:Bool} (h:WriteR ways C x bytes C' ok) (hR:RightP ways C):RightP ways C':=by
 cases h with
 | no k i h he hb=>subst he;exact hR
 | bad k i h ws v hw hv hd he hb=>subst he;exact hR
 | yes k i h ws v hw hv hd hf he hb=>
  subst he
  exact hR.set_ (c4r (hR.hs k ws hw) hv rfl (.inr (by show (b2g v.data (x % 16) bytes).size=16;rw [d5l (by omega),hd])))
end
section
variable {ways:Int} {C C':List (List Wy)} {q:List Rq} {m:List UInt8} {ss:List Pu}
end
inductive BringR (ways:Int) (C:List (List Wy)) (q:List Rq) (m:List UInt8) (x:Nat) (left:Int) (C':List (List Wy)) (q':List Rq) (b:Bool):Prop
 | no (h:¬ RightP ways C) (he:C'=C) (hq:q'=q) (hb:b=false)
 | hit (k i:Nat) (h:FindR ways C x k i true) (ht:TouchR ways C x C') (hq:q'=q) (hb:b=false)
 | put (k i:Nat) (hR:RightP ways C) (h:FindR ways C x k i false) (D:ByteArray) (hD:bl D=a9e (b9a q m) x) (gone:Wy) (went:Bool) (hp:PutR ways C x D false C' gone went)
   (hb:b=(went && (gone.dirty && decide (gone.data.size≠0)))) (hq:q'=if b then q++[⟨4,gone.line,max left 1,gone.data⟩] else q)
section
variable {ways:Int} {C C':List (List Wy)} {q q':List Rq} {m:List UInt8} {ss:List Pu} {x:Nat} {left:Int} {b:Bool}
theorem BringR.right (h:BringR ways C q m x left C' q' b) (hR:RightP ways C):RightP ways C':=by
 cases h with
 | no h he hq hb=>exact absurd hR h
 | hit k i h ht hq hb=>exact ht.right hR
 | put k i hR h D hD gone went hp hb hq=>exact hp.right hR
theorem BringR.cok (h:BringR ways C q m x left C' q' b) (ho:COk C) (hx:x<4294967296) (hm:m.length≤maxLen):COk C':=by
 cases h with
 | no h he hq hb=>subst he;exact ho
 | hit k i h ht hq hb=>exact ht.cok ho
 | put k i hR h D hD gone went hp hb hq=>
  refine hp.cok ho hx ?_
  have:(bl D).length≤m.length:=by rw [hD,a9e,List.length_take,List.length_drop,f9i];omega
  rw [a9z] at this
  omega
theorem TouchR.line (h:TouchR ways C x C'):TouchR ways C (x - x % 16) C':=by
 cases h with
 | no k i h he=>exact .no k i h.line he
 | yes k i h ws v hw hv he=>exact .yes k i h.line ws v hw hv he
theorem PutR.lineB {data:ByteArray} {dirty:Bool} {gone:Wy} {went:Bool} (h:PutR ways C x data dirty C' gone went):PutR ways C (x - x % 16) data dirty C' gone went:=by
 have e:x - x % 16 - (x - x % 16) % 16=x - x % 16:=by omega
 cases h with
 | no h he hg hb=>exact .no h he hg hb
 | hit k i h ws v hw hv he hg hb=>exact .hit k i h.line ws v hw hv he hg hb
 | room k i hR h ws hw hl he hg hb=>exact .room k i hR h.line ws hw hl (by rw [e];exact he) hg hb
 | full k i hR h ws hw hl l hl1 hgv he hb=>exact .full k i hR h.line ws hw hl l hl1 hgv (by rw [e];exact he) hb
end
inductive DrainR (ways:Int) (ss:List Pu) (C:List (List Wy)) (ss':List Pu) (C':List (List Wy)) (b:Bool):Prop
 | none (h:ss=[]) (hs:ss'=ss) (he:C'=C) (hb:b=false)
 | no (s:Pu) (r:List Pu) (h:ss=s::r) (hw:WriteR ways C s.addr s.data C false) (hs:ss'=ss) (he:C'=C) (hb:b=false)
 | yes (s:Pu) (r:List Pu) (h:ss=s::r) (hw:WriteR ways C s.addr s.data C' true) (hs:ss'=r) (hb:b=true)
theorem WriteR.same {ways:Int} {C C':List (List Wy)} {x:Nat} {bytes:ByteArray} (h:WriteR ways C x bytes C' false):C'=C:=by
 cases h with
 | no k i h he hb=>exact he
 | bad k i h ws v hw hv hd he hb=>exact he
 | yes k i h ws v hw hv hd hf he hb=>cases hb
section
variable {ways:Int} {C C':List (List Wy)} {q:List Rq} {m:List UInt8} {ss ss':List Pu} {b:Bool}
theorem DrainR.right (h:DrainR ways ss C ss' C' b) (hR:RightP ways C):RightP ways C':=by
 cases h with
 | none h hs he hb=>subst he;exact hR
 | no s r h hw hs he hb=>subst he;exact hR
 | yes s r h hw hs hb=>exact hw.right hR
theorem WriteR.cok {x:Nat} {bytes:ByteArray} {ok:Bool} (h:WriteR ways C x bytes C' ok) (ho:COk C):COk C':=by
 cases h with
 | no k i h he hb=>subst he;exact ho
 | bad k i h ws v hw hv hd he hb=>subst he;exact ho
 | yes k i h ws v hw hv hd hf he hb=>
  subst he
  have:=ho.at_ hw
  refine ho.set k fun u hu=>?_
  rcases List.mem_cons.1 hu with rfl|hu
  ·exact ⟨(this v (List.mem_of_getElem? hv)).1,by show (b2g v.data (x % 16) bytes).size≤maxLen;rw [d5l (by omega),hd];decide⟩
  ·rcases List.mem_append.1 hu with h|h
   ·exact this u (List.mem_of_mem_take h)
   ·exact this u (List.mem_of_mem_drop h)
theorem DrainR.cok (h:DrainR ways ss C ss' C' b) (ho:COk C):COk C':=by
 cases h with
 | none h hs he hb=>subst he;exact ho
 | no s r h hw hs he hb=>subst he;exact ho
 | yes s r h hw hs hb=>exact hw.cok ho
end
end
section
open Go.RowKit Go.Sort
theorem g7z (l:List Nat):∀ u∈u32v l,u.oneCell'=true:=fun u hu=>by
 obtain ⟨x,_,rfl⟩:=List.mem_map.1 hu
 rfl
instance u32vOne (l:List Nat):OneC (u32v l):=⟨g7z l⟩
theorem g8a {l:List Nat} {k x:Nat} (h:l[k]?=some x):(u32v l)[k * 1]?=some (.int .u32 (x:Int)):=by rw [Nat.mul_one];simp [u32v,h]
end
section
open Go.RowKit
section
variable {ways:Int} {C C':List (List Wy)} {q q':List Rq} {m:List UInt8} {ss ss':List Pu} {x:Nat} {left:Int} {b:Bool}
theorem BringR.same (h:BringR ways C q m x left C' q' false):q'=q:=by
 cases h with
 | no h he hq hb=>exact hq
 | hit k i h ht hq hb=>exact hq
 | put k i hR h D hD gone went hp hb hq=>rw [if_neg (by decide)] at hq;exact hq
theorem BringR.more (h:BringR ways C q m x left C' q' true):∃ gone:Wy,InC C gone∧q'=q++[⟨4,gone.line,max left 1,gone.data⟩]:=by
 cases h with
 | no h he hq hb=>cases hb
 | hit k i h ht hq hb=>cases hb
 | put k i hR h D hD gone went hp hb hq=>
  rw [if_pos rfl] at hq
  refine ⟨gone,?_,hq⟩
  cases hp with
  | no h he hg hb'=>rw [hb'] at hb;cases hb
  | hit k' i' h' ws v hw hv he hg hb'=>rw [hb'] at hb;cases hb
  | room k' i' _ h' ws hw hl he hg hb'=>rw [hb'] at hb;cases hb
  | full k' i' _ h' ws hw hl l hl1 hgv he hb'=>exact ⟨k',ws,l,hw,hgv⟩
theorem BringR.qlen (h:BringR ways C q m x left C' q' b):q'.length≤q.length+1:=by
 cases b
 ·rw [h.same];omega
 ·obtain ⟨g,_,e⟩:=h.more
  rw [e];simp
theorem BringR.qok (h:BringR ways C q m x left C' q' b) (ho:COk C) (hq:∀ r∈q,r.line<4294967296∧r.data.size≤maxLen):∀ r∈q',r.line<4294967296∧r.data.size≤maxLen:=by
 cases b
 ·rw [h.same];exact hq
 ·obtain ⟨g,⟨k,ws,i,hw,hv⟩,e⟩:=h.more
  rw [e]
  intro r hr
  rcases List.mem_append.1 hr with hr|hr
  ·exact hq r hr
  ·obtain rfl:=List.mem_singleton.1 hr
   exact ho.at_ hw g (List.mem_of_getElem? hv)
end
end
section
open Go.RowKit
theorem d5q {n k:Nat}:∀ {ws:List Wy} {seen:List Nat},b4j n k seen ws=true ↔ ∀ (i:Nat) (v:Wy),ws[i]?=some v→(v.line % 16=0∧v.line / 16 % n=k∧(v.data.size=0∨v.data.size=16))∧v.line ∉ seen ∧ ∀ j<i,∀ u:Wy,ws[j]?=some u→u.line≠v.line
 | [],seen=>by simp [b4j]
 | v::r,seen=>by
  unfold b4j
  rw [Bool.and_eq_true,d5q (ws:=r)]
  constructor
  ·rintro ⟨h1,h2⟩ i u hu
   simp only [Bool.and_eq_true,decide_eq_true_eq,Bool.not_eq_true',List.contains_eq_mem,decide_eq_false_iff_not] at h1
   cases i with
   | zero=>
    simp only [List.getElem?_cons_zero,Option.some.injEq] at hu
    subst hu
    exact ⟨⟨h1.1.1,h1.1.2,h1.2.1⟩,h1.2.2,fun j hj=>by omega⟩
   | succ i=>
    have h3:=h2 i u (by simpa using hu)
    refine ⟨h3.1,fun hm=>h3.2.1 (List.mem_cons_of_mem _ hm),fun j hj x hx=>?_⟩
    cases j with
    | zero=>
     simp only [List.getElem?_cons_zero,Option.some.injEq] at hx
     subst hx
     intro e
     exact h3.2.1 (by rw [← e];exact List.mem_cons_self ..)
    | succ j=>exact h3.2.2 j (by omega) x (by simpa using hx)
  ·intro h
   have h0:=h 0 v rfl
   refine ⟨by
    simp only [Bool.and_eq_true,decide_eq_true_eq,Bool.not_eq_true',List.contains_eq_mem,decide_eq_false_iff_not]
    exact ⟨⟨h0.1.1,h0.1.2.1⟩,h0.1.2.2,h0.2.1⟩,fun i u hu=>?_⟩
   have h3:=h (i+1) u (by simpa using hu)
   refine ⟨h3.1,fun hm=>?_,fun j hj x hx=>h3.2.2 (j+1) (by omega) x (by simpa using hx)⟩
   rcases List.mem_cons.1 hm with e|hm
   ·exact h3.2.2 0 (by omega) v rfl e.symm
   ·exact h3.2.1 hm
theorem g8b {n:Nat} {ways:Int} {k:Nat} {ws:List Wy}:(decide ((ws.length:Int)≤ways) && b4j n k [] ws)=true↔a7i n ways k ws:=by
 rw [Bool.and_eq_true,decide_eq_true_eq,d5q]
 constructor
 ·rintro ⟨h1,h2⟩
  exact ⟨h1,fun i v hv=>⟨(h2 i v hv).1.1,(h2 i v hv).1.2.1,(h2 i v hv).1.2.2,(h2 i v hv).2.2⟩⟩
 ·rintro ⟨h1,h2⟩
  exact ⟨h1,fun i v hv=>⟨⟨(h2 i v hv).1,(h2 i v hv).2.1,(h2 i v hv).2.2.1⟩,by simp,(h2 i v hv).2.2.2⟩⟩
theorem d5r {n:Nat} {ways:Int}:∀ {C:List (List Wy)} {k:Nat},b6r n ways k C=true ↔ ∀ (j:Nat) (s:List Wy),C[j]?=some s→a7i n ways (k+j) s
 | [],k=>by simp [b6r]
 | ws::r,k=>by
  unfold b6r
  rw [← Bool.and_assoc,Bool.and_eq_true,g8b,d5r (C:=r)]
  constructor
  ·rintro ⟨h1,h2⟩ j s hs
   cases j with
   | zero=>
    simp only [List.getElem?_cons_zero,Option.some.injEq] at hs
    subst hs
    exact h1
   | succ j=>
    have:=h2 j s (by simpa using hs)
    rwa [show k+1+j=k+(j+1) by omega] at this
  ·intro h
   refine ⟨h 0 ws rfl,fun j s hs=>?_⟩
   have:=h (j+1) s (by simpa using hs)
   rwa [show k+(j+1)=k+1+j by omega] at this
theorem b2h {ways:Int} {C:List (List Wy)}:b1t ways C=true↔RightP ways C:=by
 unfold b1t
 rw [Bool.and_eq_true,Bool.and_eq_true,decide_eq_true_eq,decide_eq_true_eq,d5r]
 constructor
 ·rintro ⟨h1,h2,h3⟩
  exact ⟨h1,h2,fun k s hs=>by simpa using h3 k s hs⟩
 ·rintro ⟨h1,h2,h3⟩
  exact ⟨h1,h2,fun k s hs=>by simpa using h3 k s hs⟩
theorem d5s {ways:Int} {C:List (List Wy)}:b1t ways C=false ↔ ¬ RightP ways C:=by rw [← b2h];simp
theorem setF_at {C:List (List Wy)} {k:Nat} {ws:List Wy} (h:C[k]?=some ws):b1u C k=ws:=by simp [b1u,h]
theorem wayF_at {C:List (List Wy)} {k i:Nat} {ws:List Wy} {v:Wy} (h:C[k]?=some ws) (hv:ws[i]?=some v):b3b C k i=v:=by simp [b3b,setF_at h,hv]
theorem g8c {ws:List Wy} {l i:Nat} (h:b6q ws l=some i):c1i ws l i true:=by
 unfold b6q at h
 rw [List.findIdx?_eq_some_iff_getElem] at h
 obtain ⟨hi,h1,h2⟩:=h
 refine .inl ⟨rfl,ws[i],⟨List.getElem?_eq_getElem hi,by simpa using h1⟩,fun j hj u hu=>?_⟩
 have:=h2 j hj
 rw [List.getElem?_eq_getElem (by omega)] at hu
 injection hu with hu
 subst hu
 simpa using this
theorem g8d {ws:List Wy} {l:Nat} (h:b6q ws l=none):c1i ws l 0 false:=by
 unfold b6q at h
 rw [List.findIdx?_eq_none_iff] at h
 exact .inr ⟨rfl,rfl,fun v hv=>by simpa using h v hv⟩
theorem b3q (ways:Int) (C:List (List Wy)) (x:Nat):FindR ways C x (a4m ways C x).1 (a4m ways C x).2.1 (a4m ways C x).2.2:=by
 unfold a4m
 split
 ·rename_i h
  have hR:=b2h.1 h
  obtain ⟨ws,hw⟩:=hR.set_at x
  rw [setF_at hw]
  split
  ·rename_i i hp
   exact .yes hR rfl ws hw (g8c hp)
  ·rename_i hp
   exact .yes hR rfl ws hw (g8d hp)
 ·rename_i h
  exact .no (by rwa [← b2h]) rfl rfl rfl
theorem c1k (ways:Int) (C:List (List Wy)) (x:Nat):TouchR ways C x (a4v ways C x):=by
 have hf:=b3q ways C x
 unfold a4v
 exact d5o
theorem c4t (ways:Int) (C:List (List Wy)) (x:Nat) (data:ByteArray) (dirty:Bool):PutR ways C x data dirty (a9f ways C x data dirty).1 (a9f ways C x data dirty).2.1 (a9f ways C x data dirty).2.2:=by
 have hf:=b3q ways C x
 unfold a9f
 dsimp only
 generalize a4m ways C x=f at *
 obtain ⟨k,i,b⟩:=f
 dsimp only at *
 split
 ·rename_i h
  exact .no (d5s.1 h) rfl rfl rfl
 ·rename_i h
  have hR:RightP ways C:=b2h.1 (by simpa using h)
  cases b
  ·obtain ⟨hk,ws,hw,hl,_⟩:=hf.set_ hR
   rw [if_neg (by simp),setF_at hw]
   split
   ·rename_i hlt
    exact .room k i hR hf ws hw hlt rfl rfl rfl
   ·rename_i hlt
    have hw':=hR.hw
    have hg:ws[ws.length - 1]?=some (ws[ws.length - 1]'(by omega)):=List.getElem?_eq_getElem (by omega)
    refine .full k i hR hf ws hw (by omega) (ws.length - 1) (by omega) ?_ rfl rfl
    rw [hg]
    rfl
  ·obtain ⟨_,_,ws,v,hw,hv,_⟩:=hf.at_
   rw [if_pos rfl,setF_at hw,wayF_at hw hv]
   exact .hit k i hf ws v hw hv rfl rfl rfl
theorem g8e (ways:Int) (C:List (List Wy)) (x:Nat) (b:ByteArray):WriteR ways C x b (b4k ways C x b).1 (b4k ways C x b).2:=by
 have hf:=b3q ways C x
 unfold b4k
 dsimp only
 generalize a4m ways C x=f at *
 obtain ⟨k,i,ok⟩:=f
 dsimp only at *
 cases ok
 ·rw [if_neg (by simp)]
  exact .no k i hf rfl rfl
 ·obtain ⟨_,_,ws,v,hw,hv,_⟩:=hf.at_
  rw [wayF_at hw hv,setF_at hw]
  rcases hf.size hw hv with hs|hs
  ·rw [if_neg (by simp [hs])]
   exact .bad k i hf ws v hw hv (.inl hs) rfl rfl
  ·by_cases h:x % 16+b.size≤16
   ·rw [if_pos ⟨rfl,hs,h⟩]
    exact .yes k i hf ws v hw hv hs h rfl rfl
   ·rw [if_neg (fun e=>h e.2.2)]
    exact .bad k i hf ws v hw hv (.inr ⟨hs,by omega⟩) rfl rfl
theorem d5t (ways:Int) (C:List (List Wy)) (x:Nat):CleanR ways C x (a9g ways C x):=by
 have hf:=b3q ways C x
 unfold a9g
 exact d5o
theorem g8f {C:List (List Wy)}:∀ {k j:Nat} {ws:List Wy} {v:Wy},(∀ us∈C.take k,a4z us)→C[k]?=some ws→a4z (ws.take j)→ws[j]?=some v→v.dirty=true→C.flatten.find? (fun v=>v.dirty)=some v:=by
 induction C with
 | nil=>intro k j ws v _ h;simp at h
 | cons us C ih=>
  intro k j ws v hk hw hj hv hd
  rw [List.flatten_cons,List.find?_append]
  cases k with
  | zero=>
   simp only [List.getElem?_cons_zero,Option.some.injEq] at hw
   subst hw
   obtain ⟨hl,e⟩:=List.getElem?_eq_some_iff.1 hv
   have:us.find? (fun v=>v.dirty)=some v:=by
    rw [← List.take_append_drop j us,List.find?_append,List.find?_eq_none.2 (fun x hx=>by simp [hj x hx]),List.drop_eq_getElem_cons hl,e,List.find?_cons,hd]
    rfl
   rw [this];rfl
  | succ k=>
   have h0:us.find? (fun v=>v.dirty)=none:=List.find?_eq_none.2 (fun x hx=>by simp [hk us (by simp) x hx])
   rw [h0,Option.none_or]
   exact ih (k:=k) (fun xs hx=>hk xs (by rw [List.take_succ_cons];exact List.mem_cons_of_mem _ hx)) (by simpa using hw) hj hv hd
theorem g8g (ways:Int) (C:List (List Wy)):DirtyR ways C (a2r ways C).1 (a2r ways C).2:=by
 unfold a2r
 split
 ·rename_i h
  have hR:=b2h.1 h
  rcases g7l C with hc|⟨k,j,ws,v,h1,h2,h3,h4,h5⟩
  ·have:C.flatten.find? (fun v=>v.dirty)=none:=List.find?_eq_none.2 (fun x hx=>by
    obtain ⟨ws,hw,hx⟩:=List.mem_flatten.1 hx
    simp [hc ws hw x hx])
   rw [this]
   exact .none hR hc rfl rfl
  ·rw [g8f h1 h2 h3 h4 h5]
   exact .one hR k j ws h1 h2 h3 h4 h5 rfl
 ·rename_i h
  exact .no (by rwa [← b2h]) rfl rfl
theorem d5u (ways:Int) (C:List (List Wy)) (q:List Rq) (m:ByteArray) (x:Nat) (left:Int):BringR ways C q (bl m) x left (a8m ways C q m x left).1 (a8m ways C q m x left).2.1 (a8m ways C q m x left).2.2:=by
 have hf:=b3q ways C x
 have ht:=c1k ways C x
 have hp:=c4t ways C x (b6s (a9h m (a3w q)) x) false
 unfold a8m
 dsimp only
 split
 ·rename_i h
  exact .no (d5s.1 h) rfl rfl rfl
 ·rename_i h
  have hR:RightP ways C:=b2h.1 (by simpa using h)
  generalize a4m ways C x=f at *
  obtain ⟨k,i,b⟩:=f
  dsimp only at *
  split
  ·rename_i hb
   subst hb
   exact .hit k i hf ht rfl rfl
  ·rename_i hb
   obtain rfl:b=false:=by simpa using hb
   generalize a9f ways C x (b6s (a9h m (a3w q)) x) false=p at *
   obtain ⟨C',gone,went⟩:=p
   dsimp only at *
   have hD:bl (b6s (a9h m (a3w q)) x)=a9e (b9a q (bl m)) x:=by
    unfold b6s
    rw [b8y]
    congr 1
   cases hg:(went && (gone.dirty && decide (gone.data.size≠0)))
   ·rw [if_neg (by simp)]
    exact .put k i hR hf _ hD gone went hp hg.symm (by simp)
   ·rw [if_pos rfl]
    exact .put k i hR hf _ hD gone went hp hg.symm (by simp)
theorem d5v (ways:Int) (ss:List Pu) (C:List (List Wy)):DrainR ways ss C (a4f ways ss C).1 (a4f ways ss C).2.1 (a4f ways ss C).2.2:=by
 cases ss with
 | nil=>exact .none rfl rfl rfl rfl
 | cons s r=>
  have hw:=g8e ways C s.addr s.data
  unfold a4f
  dsimp only
  generalize b4k ways C s.addr s.data=f at *
  obtain ⟨C',ok⟩:=f
  dsimp only at *
  cases ok
  ·obtain rfl:=hw.same
   exact .no s r rfl hw rfl rfl rfl
  ·exact .yes s r rfl hw rfl rfl
end
section
open Go.RowKit Wd
theorem g8h (n lo hi:Int):∃ M,M=(if lo > n then lo else n)∧a1q lo hi n=if hi<M then hi else M:=by
 refine ⟨max n lo,by split <;> omega,?_⟩
 unfold a1q
 by_cases h:hi<max n lo
 ·rw [if_neg (by omega),if_pos h]
 ·rw [if_neg h]
  by_cases h2:max n lo<hi
  ·rw [if_pos h2]
  ·rw [if_neg h2];omega
theorem St.putE {w0 w w1 w':World} {D0 D:List Da} {M:List Mu} (h:St w0 D0 w M D) (hb:Bel w w1) {i g off:Nat} {t:TypeId} {cs:List Value} (hi:M[i]?=some (.blk g t cs)) {v:Value} (hw:w'=w1.setCell ⟨g,off,none⟩ v):St w0 D0 w' (M.set i (.blk g t (cs.set off v))) D:=by
 subst hw
 exact h.put hb hi v
theorem c1l {g j:Nat} {n lo hi N:Int} {w:World} (hc:w.cell? ⟨g,j,none⟩=some (.int .i64 n)) (hf:w.frozen? ⟨g,j,none⟩=false) (hn:Hid (a1q lo hi n=N)) :
  Calls Tryz.prog 52 #[.pointer (some ⟨g,j,none⟩),.int .i64 lo,.int .i64 hi] w fun e w'=>(∃ y,e = .returned y) ∧ ∃ w1,Bel w w1∧w'=w1.setCell ⟨g,j,none⟩ (.int .i64 N):=by
 obtain ⟨M,hM,hN⟩:=g8h n lo hi
 replace hM:=Lib.hid hM
 rw [hn.out] at hN
 replace hN:=Lib.hid hN
 clear hn
 go_enter Tryz.func52,Tryz.ntmps52
 go_wp2_with ((first|((refine w_maxH rfl rfl rfl ?_);refine zs ?_)|((refine w_minH rfl rfl rfl ?_);refine zs ?_)))
 go_end0
 exact ⟨⟨_,rfl⟩,_,Bel.refl _,rfl⟩
def cfC (c:Cf) (Al:Option Addr) (cl:Nat) (At:Option Addr) (ct:Nat):List Value:=[.int .i64 c.mode,.int .i64 c.width,.int .i64 c.rob,.int .i64 c.queue,.int .i64 c.stores,.int .i64 c.slots,.int .i64 c.sets,.int .i64 c.ways,.slice Al c.lat.length cl,.bool c.tables,.slice At c.tape.length ct]
theorem c4u (l:List Int) (k:Nat) (x:Int):(a1i l).set (k * 1) (.int .i64 x)=a1i (l.set k x):=by rw [Nat.mul_one];simp [a1i,List.map_set]
theorem c1m (l:List Nat) (k:Nat):(u32v l).take (k * 1)=u32v (l.take k):=by rw [Nat.mul_one];simp [u32v,List.map_take]
theorem c1n (l:List Int) (k:Nat):(a1i l).take (k * 1)=a1i (l.take k):=by rw [Nat.mul_one,g3f]
end
section
open Go.RowKit Wd
def okL (x:Int):Prop:=-1000000000≤x∧x≤1000000000
theorem g8i (e:En) (w:World) (hi:okI e.inst.op) (hl:okL e.left) :
  Calls Tryz.prog 69 #[e.val] w fun x w'=>x = .returned (goE e).val∧Bel w w':=by
 have hF:=St.start w [] (fun d hd=>by cases hd)
 obtain ⟨no,pc,⟨op,rd,rs1,rs2,imm⟩,guess,is,left,value,next,addr,halt,took,known,filled⟩:=e
 have HK:=Lib.hid (fun W=>a2o ⟨op,rd,rs1,rs2,imm⟩ W hi)
 unfold okL at hl
 dsimp only at hl hi
 by_cases h1:is=1
 ·subst h1
  by_cases h2:left - 1≤0
  ·by_cases h3:a1e op=5
   ·by_cases h4:halt=0
    ·have hV:goE ⟨no,pc,⟨op,rd,rs1,rs2,imm⟩,guess,1,left,value,next,addr,halt,took,known,filled⟩=⟨no,pc,⟨op,rd,rs1,rs2,imm⟩,guess,3,0,value,next,addr,halt,took,true,filled⟩:=by simp [goE,h2,h3,h4]
     rw [hV,h4]
     unfold En.val
     rw [show a1e (⟨op,rd,rs1,rs2,imm⟩:Ins).op=5 from h3] at HK
     clear hV h3
     exact b7k
    ·have hV:goE ⟨no,pc,⟨op,rd,rs1,rs2,imm⟩,guess,1,left,value,next,addr,halt,took,known,filled⟩=⟨no,pc,⟨op,rd,rs1,rs2,imm⟩,guess,3,0,value,next,addr,halt,took,known,filled⟩:=by simp [goE,h2,h3,h4]
     rw [hV]
     unfold En.val
     rw [show a1e (⟨op,rd,rs1,rs2,imm⟩:Ins).op=5 from h3] at HK
     have b4:(halt == 0)=false:=by simpa using h4
     clear hV h3 h4
     exact b7k
   ·have hV:goE ⟨no,pc,⟨op,rd,rs1,rs2,imm⟩,guess,1,left,value,next,addr,halt,took,known,filled⟩=⟨no,pc,⟨op,rd,rs1,rs2,imm⟩,guess,3,0,value,next,addr,halt,took,known,filled⟩:=by simp [goE,h2,h3]
    rw [hV]
    unfold En.val
    dsimp only at HK
    generalize a1e op=κ at *
    have b3:(κ == 5)=false:=by simpa using h3
    clear hV h3
    exact b7k
  ·have hV:goE ⟨no,pc,⟨op,rd,rs1,rs2,imm⟩,guess,1,left,value,next,addr,halt,took,known,filled⟩=⟨no,pc,⟨op,rd,rs1,rs2,imm⟩,guess,1,left - 1,value,next,addr,halt,took,known,filled⟩:=by simp [goE,h2]
   rw [hV]
   unfold En.val
   clear hV
   exact b7k
 ·have hV:goE ⟨no,pc,⟨op,rd,rs1,rs2,imm⟩,guess,is,left,value,next,addr,halt,took,known,filled⟩=⟨no,pc,⟨op,rd,rs1,rs2,imm⟩,guess,is,left,value,next,addr,halt,took,known,filled⟩:=by simp [goE,h1]
  rw [hV]
  unfold En.val
  clear hV
  exact b7k
end
section
open Go.RowKit Go.ChangeShapes Go.WideShapes Go.ChangeAt Go.Deep
theorem d5w (g o j:Nat):(⟨g,o,none⟩:Addr).add j=⟨g,o+j,none⟩:=by unfold Addr.add;split <;> simp_all
theorem g8j {H:Type} {enc:TypeId × Value→H} {W:World} {fuel:Nat} {T:TypeId} {cs:List Value} {x:DataW H × List MemPlace} (hT:Tryz.prog.underlying T=some (.slice 28))
  (hf:DataW.trod enc Tryz.prog W 0 (fun _=>true) true fuel T cs=some x) :
  ∃ A n c,∃ l:List Nat,cs=[.slice A n c]∧Rd W W.heap.size 1 A n c (u32v l) ∧ ∀ z∈l,z<4294967296:=by
 have hC:Tryz.prog.cellsOf 28=1:=by kernel_rfl
 rcases open_ints hT Tryz.underlying28 hC hf with ⟨hcs,_⟩|⟨x,l,cc,zs,hcs,_,hl,hm,hz,_,hcell,hwz⟩
 ·exact ⟨none,0,0,[],hcs,Rd.nil (Nat.zero_le _),by simp⟩
 ·have hz':zs.length=cc:=by simpa using hz
  obtain ⟨ms,hms⟩:∃ ms:List Nat,zs=ms.map (fun (m:Nat)=>(m:Int)):=by
   refine ⟨zs.map Int.toNat,?_⟩
   rw [List.map_map]
   conv=>lhs;rw [← List.map_id zs]
   apply List.map_congr_left
   intro z hz
   have:=bounds_u32 (hwz z hz)
   simp only [id,Function.comp]
   omega
  subst hms
  refine ⟨some x,l,cc,ms.take l,hcs,⟨by rw [u32v_len,List.length_take];simp at hz';omega,hl,hm,fun hn=>?_⟩,fun z hz=>?_⟩
  ·obtain ⟨g,o,spot⟩:=x
   simp only [List.length_map] at hz'
   have h0:=hcell 0 (by simp;omega)
   have hs:spot=none:=by simpa [Addr.add] using World.cell?_spot h0
   subst hs
   refine ⟨g,o,rfl,World.block_lt_of_cell? W _ h0 |> fun h=>by simpa [Addr.add] using h,fun j u hu=>?_⟩
   have hj:=(List.getElem?_eq_some_iff.1 hu).1
   rw [u32v_len,List.length_take] at hj
   rw [c8x (by rw [List.length_take];omega)] at hu
   have h1:=hcell j (by simp;omega)
   have e1:(⟨g,o,none⟩:Addr).add j=⟨g,o+j,none⟩:=d5w g o j
   rw [e1] at h1
   rw [h1,← hu]
   simp [List.getElem_take,List.getD,show j<ms.length by omega]
  ·have hz2:=List.mem_of_mem_take hz
   have:=bounds_u32 (hwz (z:Int) (List.mem_map.2 ⟨z,hz2,rfl⟩))
   omega
theorem g8k {H:Type} {enc:TypeId × Value→H} {W:World} {fuel:Nat} {T:TypeId} {cs:List Value} {x:DataW H × List MemPlace} (hT:Tryz.prog.underlying T=some (.slice 3))
  (hf:DataW.trod enc Tryz.prog W 0 (fun _=>true) true fuel T cs=some x) :
  ∃ A n c,∃ l:List Int,cs=[.slice A n c]∧Rd W W.heap.size 1 A n c (a1i l) ∧ ∀ z∈l,-9223372036854775808≤z∧z≤9223372036854775807:=by
 have hC:Tryz.prog.cellsOf 3=1:=by kernel_rfl
 rcases open_ints hT Tryz.underlying3 hC hf with ⟨hcs,_⟩|⟨x,l,cc,zs,hcs,_,hl,hm,hz,_,hcell,hwz⟩
 ·exact ⟨none,0,0,[],hcs,Rd.nil (Nat.zero_le _),by simp⟩
 ·have hz':zs.length=cc:=by simpa using hz
  refine ⟨some x,l,cc,zs.take l,hcs,⟨by rw [a9o,List.length_take];omega,hl,hm,fun hn=>?_⟩,fun z hz=>bounds_i64 (hwz z (List.mem_of_mem_take hz))⟩
  obtain ⟨g,o,spot⟩:=x
  have h0:=hcell 0 (by omega)
  have hs:spot=none:=by simpa [Addr.add] using World.cell?_spot h0
  subst hs
  refine ⟨g,o,rfl,World.block_lt_of_cell? W _ h0 |> fun h=>by simpa [Addr.add] using h,fun j u hu=>?_⟩
  have hj:=(List.getElem?_eq_some_iff.1 hu).1
  rw [a9o,List.length_take] at hj
  have e1:(⟨g,o,none⟩:Addr).add j=⟨g,o+j,none⟩:=d5w g o j
  have h1:=hcell j (by omega)
  rw [e1] at h1
  rw [h1,← hu]
  have h2:(zs.take l)[j]?=some zs[j]:=by rw [List.getElem?_take];simp [show j<l by omega,show j<zs.length by omega]
  rw [b1i h2]
  simp [List.getD,show j<zs.length by omega]
theorem g8l : ∃ f0 f1 f2 f3 f4 f5 f6 f7 f8 f9 f10:Field,Tryz.prog.underlying 25=some (.struct #[f0,f1,f2,f3,f4,f5,f6,f7,f8,f9,f10]) ∧
  (f0.offset=0∧Tryz.prog.cellsOf f0.type=1∧Tryz.prog.underlying f0.type=some (.int .i64)) ∧
  (f1.offset=1∧Tryz.prog.cellsOf f1.type=1∧Tryz.prog.underlying f1.type=some (.int .i64)) ∧
  (f2.offset=2∧Tryz.prog.cellsOf f2.type=1∧Tryz.prog.underlying f2.type=some (.int .i64)) ∧
  (f3.offset=3∧Tryz.prog.cellsOf f3.type=1∧Tryz.prog.underlying f3.type=some (.int .i64)) ∧
  (f4.offset=4∧Tryz.prog.cellsOf f4.type=1∧Tryz.prog.underlying f4.type=some (.int .i64)) ∧
  (f5.offset=5∧Tryz.prog.cellsOf f5.type=1∧Tryz.prog.underlying f5.type=some (.int .i64)) ∧
  (f6.offset=6∧Tryz.prog.cellsOf f6.type=1∧Tryz.prog.underlying f6.type=some (.int .i64)) ∧
  (f7.offset=7∧Tryz.prog.cellsOf f7.type=1∧Tryz.prog.underlying f7.type=some (.int .i64)) ∧
  (f8.offset=8∧Tryz.prog.cellsOf f8.type=1∧Tryz.prog.underlying f8.type=some (.slice 3)) ∧
  (f9.offset=9∧Tryz.prog.cellsOf f9.type=1∧Tryz.prog.underlying f9.type=some .bool) ∧
  (f10.offset=10∧Tryz.prog.cellsOf f10.type=1∧Tryz.prog.underlying f10.type=some (.slice 28)):=by
 refine ⟨_,_,_,_,_,_,_,_,_,_,_,Tryz.underlying25,⟨?_,?_,?_⟩,⟨?_,?_,?_⟩,⟨?_,?_,?_⟩,⟨?_,?_,?_⟩,⟨?_,?_,?_⟩,⟨?_,?_,?_⟩,⟨?_,?_,?_⟩,⟨?_,?_,?_⟩,⟨?_,?_,?_⟩,⟨?_,?_,?_⟩,⟨?_,?_,?_⟩⟩ <;> kernel_rfl
structure CfIn (c:Cf):Prop where
 i0 : -9223372036854775808≤c.mode∧c.mode≤9223372036854775807
 i1 : -9223372036854775808≤c.width∧c.width≤9223372036854775807
 i2 : -9223372036854775808≤c.rob∧c.rob≤9223372036854775807
 i3 : -9223372036854775808≤c.queue∧c.queue≤9223372036854775807
 i4 : -9223372036854775808≤c.stores∧c.stores≤9223372036854775807
 i5 : -9223372036854775808≤c.slots∧c.slots≤9223372036854775807
 i6 : -9223372036854775808≤c.sets∧c.sets≤9223372036854775807
 i7 : -9223372036854775808≤c.ways∧c.ways≤9223372036854775807
 tape:∀ z∈c.tape,z<4294967296
theorem open_conf {H:Type} {enc:TypeId × Value→H} {W:World} {base:Nat} {v:Value} {d:DataW H} {p:List MemPlace}
  (hv:Value.okWide Tryz.prog W .any base 25 v) (h:DataW.Trod enc Tryz.prog W 0 (fun _=>true) true 25 v d p) :
  ∃ (c:Cf) (Al:Option Addr) (cl:Nat) (At:Option Addr) (ct:Nat),v = .agg (cfC c Al cl At ct).toArray∧Rd W W.heap.size 1 Al c.lat.length cl (a1i c.lat)∧Rd W W.heap.size 1 At c.tape.length ct (u32v c.tape)∧CfIn c:=by
 obtain ⟨f0,f1,f2,f3,f4,f5,f6,f7,f8,f9,f10,hu,⟨o0,k0,u0⟩,⟨o1,k1,u1⟩,⟨o2,k2,u2⟩,⟨o3,k3,u3⟩,⟨o4,k4,u4⟩,⟨o5,k5,u5⟩,⟨o6,k6,u6⟩,⟨o7,k7,u7⟩,⟨o8,k8,u8⟩,⟨o9,k9,u9⟩,⟨o10,k10,u10⟩⟩:=g8l
 obtain ⟨cs,rfl,hsz⟩:=okWide_struct hu hv
 obtain ⟨fuel,hf⟩:=h
 obtain ⟨ys,n,_,_,hl,hyl,hg⟩:=DataW.trod_struct hu hf
 have hl3:cs.toList.length=11:=hl.trans (by kernel_rfl)
 obtain ⟨l⟩:=cs
 match l,hl3 with
 | [a0,a1,a2,a3,a4,a5,a6,a7,a8,a9,a10],_=>
  match ys,hyl with
  | [y0,y1,y2,y3,y4,y5,y6,y7,y8,y9,y10],_=>
   have g0:=hg 0 f0 rfl
   have g1:=hg 1 f1 rfl
   have g2:=hg 2 f2 rfl
   have g3:=hg 3 f3 rfl
   have g4:=hg 4 f4 rfl
   have g5:=hg 5 f5 rfl
   have g6:=hg 6 f6 rfl
   have g7:=hg 7 f7 rfl
   have g8:=hg 8 f8 rfl
   have g9:=hg 9 f9 rfl
   have g10:=hg 10 f10 rfl
   rw [o0,k0] at g0
   rw [o1,k1] at g1
   rw [o2,k2] at g2
   rw [o3,k3] at g3
   rw [o4,k4] at g4
   rw [o5,k5] at g5
   rw [o6,k6] at g6
   rw [o7,k7] at g7
   rw [o8,k8] at g8
   rw [o9,k9] at g9
   rw [o10,k10] at g10
   obtain ⟨n0,e0,_,w0⟩:=DataW.trod_int u0 g0
   obtain ⟨n1,e1,_,w1⟩:=DataW.trod_int u1 g1
   obtain ⟨n2,e2,_,w2⟩:=DataW.trod_int u2 g2
   obtain ⟨n3,e3,_,w3⟩:=DataW.trod_int u3 g3
   obtain ⟨n4,e4,_,w4⟩:=DataW.trod_int u4 g4
   obtain ⟨n5,e5,_,w5⟩:=DataW.trod_int u5 g5
   obtain ⟨n6,e6,_,w6⟩:=DataW.trod_int u6 g6
   obtain ⟨n7,e7,_,w7⟩:=DataW.trod_int u7 g7
   obtain ⟨Al,nl,cl,ll,e8,r8,_⟩:=g8k u8 g8
   obtain ⟨b9,e9,_⟩:=DataW.trod_bool u9 g9
   obtain ⟨At,nt,ct,lt,e10,r10,z10⟩:=g8j u10 g10
   simp [Value.cells] at e0 e1 e2 e3 e4 e5 e6 e7 e8 e9 e10
   subst e0 e1 e2 e3 e4 e5 e6 e7 e8 e9 e10
   have q8:ll.length=nl:=by have:=r8.len;rwa [a9o,Nat.mul_one] at this
   have q10:lt.length=nt:=by have:=r10.len;rwa [u32v_len,Nat.mul_one] at this
   subst q8 q10
   exact ⟨⟨n0,n1,n2,n3,n4,n5,n6,n7,ll,b9,lt⟩,Al,cl,At,ct,rfl,r8,r10,⟨bounds_i64 w0,bounds_i64 w1,bounds_i64 w2,bounds_i64 w3,bounds_i64 w4,bounds_i64 w5,bounds_i64 w6,bounds_i64 w7,z10⟩⟩
end
section
open Go.RowKit Wd
theorem g8m (op:Int):(op=11∨op=14∨op=16∨op=12∨op=15∨op=17∨op=13∨op=18)∨(a2p op=0∧(op == 11)=false∧(op == 14)=false∧(op == 16)=false∧(op == 12)=false∧(op == 15)=false∧(op == 17)=false∧(op == 13)=false∧(op == 18)=false):=by
 by_cases h:(op=11∨op=14∨op=16∨op=12∨op=15∨op=17∨op=13∨op=18)
 ·exact .inl h
 ·have key:∀ k:Int,op≠k→(op == k)=false:=fun k hk=>by simpa using hk
  refine .inr ⟨?_,key _ ?_,key _ ?_,key _ ?_,key _ ?_,key _ ?_,key _ ?_,key _ ?_,key _ ?_⟩
  ·unfold a2p
   rw [if_neg (by omega),if_neg (by omega),if_neg (by omega)]
  all_goals omega
theorem a7s (i:Ins) (w:World) :
  Calls Tryz.prog 44 #[i.val] w fun e w'=>e = .returned (.int .i64 (a2p i.op))∧Bel w w':=by
 obtain ⟨op,rd,rs1,rs2,imm⟩:=i
 dsimp only
 unfold Ins.val
 rcases g8m op with h|⟨hs,b1,b2,b3,b4,b5,b6,b7,b8⟩
 ·rcases h with rfl|rfl|rfl|rfl|rfl|rfl|rfl|rfl
  all_goals
   go_enter Tryz.func44,Tryz.ntmps44
   go_wp2
   go_ret
   exact ⟨rfl,Bel.alloc _ _⟩
 ·rw [hs]
  clear hs
  go_enter Tryz.func44,Tryz.ntmps44
  go_wp2
  go_ret
  exact ⟨rfl,Bel.alloc _ _⟩
theorem c1o (op:Int):0≤a2p op∧a2p op≤4:=by
 unfold a2p
 split
 ·omega
 split
 ·omega
 split <;> omega
end
section
open Go.RowKit Go.Sort
def d5x (w:World) (D0:List Da) (ways:Int) (v1 v2:Value) (w':World) (ss:List Pu) (C:List (List Wy)):Prop :=
 ∃ A2 c2 A n c S,v1 = .slice A2 ss.length c2∧v2 = .agg #[.int .i64 ways,.slice A n c]∧Out w D0 w' [a1a 2 A2 ss.length c2 (pus ss),a1a 1 A n c (csv S),a1l S]∧a1j S=C
def scD (As:Option Addr) (ns cs:Nat) (ss:List Pu) (A:Option Addr) (n c:Nat) (S:List Cs):List Da:=[a1a 2 As ns cs (pus ss),a1a 1 A n c (csv S),a1l S]
theorem g8n {w:World} {A:Option Addr} {n c:Nat} {S:List Cs} {As:Option Addr} {ns cs:Nat} {ss:List Pu} (hr:RdS w w.heap.size A n c S) (hrs:Rd w w.heap.size 2 As ns cs (pus ss)):∀ d∈scD As ns cs ss A n c S,d.ok w:=fun d hd=>by
 rcases List.mem_cons.1 hd with rfl|hd
 ·exact hrs
 ·rcases List.mem_cons.1 hd with rfl|hd
  ·exact hr.rd
  ·obtain rfl:=List.mem_singleton.1 hd;exact hr.sets
theorem g8o {ways:Int} {A:Option Addr} {n c:Nat} {S:List Cs} {As:Option Addr} {ns cs:Nat} {ss:List Pu} {C':List (List Wy)} {ss':List Pu} {b:Bool}
  (hso:SOk S) (hss:∀ p∈ss,p.addr<4294967296∧p.data.size≤maxLen) (h:DrainR ways ss (a1j S) ss' C' b)
  (w:World) (hr:RdS w w.heap.size A n c S) (hrs:Rd w w.heap.size 2 As ns cs (pus ss)) :
  Calls Tryz.prog 86 #[.slice As ns cs,.agg #[.int .i64 ways,.slice A n c]] w fun e w'=>∃ y z,e = .returned (.tuple #[y,z,.bool b])∧d5x w (scD As ns cs ss A n c S) ways y z w' ss' C':=by
 have hF:=St.start w _ (g8n hr hrs)
 unfold scD at hF
 have hsl:=hrs.puslen
 have hc1:=hrs.le
 have hc2:=hrs.mx
 unfold maxLen at hc2
 by_cases h0:ss=[]
 ·obtain ⟨rfl,rfl,rfl⟩:ss'=ss∧C'=a1j S∧b=false:=by
   cases h with
   | none h hs he hb=>exact ⟨hs,he,hb⟩
   | no s r h=>rw [h] at h0;cases h0
   | yes s r h=>rw [h] at h0;cases h0
  subst h0
  obtain rfl:ns=0:=by rw [← hsl];rfl
  go_enter Tryz.func86,Tryz.ntmps86
  go_wp2_with (((first|refine zrd ?_|(refine zst ?_;clear hF;(first|intro gN wN hF|intro wN hF|intro hF))|(refine zap ?_;clear hF;intro vN wN hF));refine zs ?_))
  obtain ⟨gR,gC,rfl,rfl⟩:=hF.names2
  refine a1n (by kernel_rfl) hF [.blk gC 35 [.int .i64 ways,.slice A n c]] _ (by ((repeat (first|exact a1f|refine a1m zdm ?_)) <;> exact a1f)) (fun _ h=>h) ?_
  clear hF;intro hF hH
  refine a1c 0 hH ?_
  refine zk0 1 hH ?_
  refine a2a 2 hH ?_
  refine zry 3 (fun K hK=>?_)
  go_wp2_with (refine zwr ?_;clear hF;intro wN hF;(try refine zs ?_))
  have hH:=hH.nextA hF;refine hK.out _ _ hH ?_;clear hK;refine zs ?_
  refine a2a 4 hH ?_
  refine zrz ?_
  (go_wp2;((try simp only [Exit.inBlock,Exit.then]);refine bodyPost_ret (b4m rfl hF) rfl ?_);exact ⟨_,_,rfl,As,cs,A,n,c,S,rfl,rfl,hF.outA,rfl⟩)
 ·obtain ⟨s,r,CW,h1,hw,hb⟩:∃ s r CW,ss=s::r∧WriteR ways (a1j S) s.addr s.data CW b∧(b=false∧ss'=ss∧C'=a1j S∧CW=a1j S∨b=true∧ss'=r∧C'=CW):=by
   cases h with
   | none h=>exact absurd h h0
   | no s r h hw hs he hb=>exact ⟨s,r,_,h,by rw [hb];exact hw,.inl ⟨hb,hs,he,rfl⟩⟩
   | yes s r h hw hs hb=>exact ⟨s,r,_,h,by rw [hb];exact hw,.inr ⟨hb,hs,rfl⟩⟩
  subst h1
  obtain ⟨hpa,hpd⟩:=hss s (List.mem_cons_self ..)
  obtain ⟨pa,pd⟩:=s
  have hn0:0<ns:=by rw [← hsl];exact Nat.zero_lt_succ _
  have hn1:1≤ns:=hn0
  have hu0:(pus (⟨pa,pd⟩::r))[0]?=some (.int .u32 (pa:Int)):=rfl
  have hu1:(pus (⟨pa,pd⟩::r))[1]?=some (.string pd):=rfl
  have hW:=Lib.hid hw
  have hne:¬ ((ns:Int)=0):=by omega
  have hrl:ns - 1=r.length:=by rw [← hsl];rfl
  have hF:=hF.fromPart (k:=1) (sz:=2) (A:=As) (n:=ns) (c:=cs) (xs:=pus (⟨pa,pd⟩::r)) zdm hn1
  rw [show (pus (⟨pa,pd⟩::r)).drop (1 * 2)=pus r from rfl] at hF
  clear hss hw h h0
  replace hb:=Lib.hid hb
  go_enter Tryz.func86,Tryz.ntmps86
  go_upto_region 3 with ((first|((refine w_eqF rfl rfl rfl ?_);refine zs ?_)|((first|refine zrd ?_|(refine zst ?_;clear hF;(first|intro gN wN hF|intro wN hF|intro hF))|(refine zap ?_;clear hF;intro vN wN hF));refine zs ?_)))
  rename_i K hK
  obtain ⟨gR,gC,rfl,rfl⟩:=hF.names2
  go_cut [7,8] (fun p s wx=>∃ gW A2 n2 c2 S2,p = .pointer (some ⟨gW,0,none⟩)∧s = .bool b∧Hid (a1j S2=CW)∧St w [a1a 2 As ns cs (pus (⟨pa,pd⟩::r)),a1a 1 A n c (csv S),a1l S] wx [.blk gW 35 [.int .i64 ways,.slice A2 n2 c2],.blk gR 35 [.int .i64 0,.slice none 0 0],.blk gC 35 [.int .i64 ways,.slice A n c]] [a1a 1 A2 n2 c2 (csv S2),a1l S2,a1a 2 (cutA As 1 cs 2) (ns - 1) (cs - 1) (pus r),a1a 2 As ns cs (pus (⟨pa,pd⟩::r)),a1a 1 A n c (csv S),a1l S])
  case first=>
   refine a1n (by kernel_rfl) hF [.blk gC 35 [.int .i64 ways,.slice A n c]] _ (by ((repeat (first|exact a1f|refine a1m zdm ?_)) <;> exact a1f)) (fun _ h=>h) ?_
   clear hF;intro hF hH
   refine zk0 0 hH ?_
   refine a1c 1 hH ?_
   refine zk2 2 hH ?_
   refine zk1 3 hH ?_
   refine zk0 4 hH ?_
   refine a1c 5 hH ?_
   refine zk2 6 hH ?_
   refine zk1 7 hH ?_
   refine zk0 8 hH ?_
   refine wpAnyH_ready (rs:=[9,13]) (by kernel_rfl) (by simp) (a2d rfl (fun K hK=>?_) (a2d rfl (fun K hK=>?_) AllReadyH.nil))
   ·go_wp2_with ((go_at_call 145;refine (d5p hpa hpd hso hW.out _ hF.rds).mono ?_;rintro e wN ⟨_,rfl,A2,n2,c2,S2,rfl,hO,hC2⟩;replace hF:=hF.callA hO;clear hO))
    have hH:=hH.nextA hF;refine hK.out _ _ hH ?_;clear hK;refine zs ?_
    refine a1c 10 hH ?_
    refine zp 11 hH ?_
    refine zp 12 hH ?_
    refine zry 13 (fun K hK=>?_)
    go_wp2_with ((refine w_alloc rfl hF ?_;clear hF;intro gN wN hF);refine zs ?_)
    have hH:=hH.nextA hF;refine hK.out _ _ hH ?_;clear hK;refine zs ?_
    exact d5n
   ·go_wp2_with ((refine w_alloc rfl hF ?_;clear hF;intro gN wN hF);refine zs ?_)
    have hH:=hH.nextA hF;refine hK.out _ _ hH ?_;clear hK;refine zs ?_
    refine zry 9 (fun K hK=>?_)
    go_wp2_with ((go_at_call 145;refine (d5p hpa hpd hso hW.out _ hF.rds).mono ?_;rintro e wN ⟨_,rfl,A2,n2,c2,S2,rfl,hO,hC2⟩;replace hF:=hF.callA hO;clear hO))
    have hH:=hH.nextA hF;refine hK.out _ _ hH ?_;clear hK;refine zs ?_
    refine a1c 10 hH ?_
    refine zp 11 hH ?_
    refine zp 12 hH ?_
    exact d5n
  case rest=>
   obtain ⟨gW,A2,n2,c2,S2,rfl,rfl,hC2,hF⟩:=hcut
   refine hK _ _ ?_
   rcases hb.out with ⟨rfl,rfl,rfl,h2⟩|⟨rfl,rfl,rfl⟩
   ·go_wp2_with (((first|refine zrd ?_|(refine zst ?_;clear hF;(first|intro gN wN hF|intro wN hF|intro hF))|(refine zap ?_;clear hF;intro vN wN hF));refine zs ?_))
    refine a1n (by kernel_rfl) hF [.blk gC 35 [.int .i64 ways,.slice A n c]] _ (by ((repeat (first|exact a1f|refine a1m zdm ?_)) <;> exact a1f)) (fun _ h=>h) ?_
    clear hF;intro hF hH
    refine a1c 0 hH ?_
    refine zk0 1 hH ?_
    refine a2a 2 hH ?_
    refine zry 3 (fun K hK=>?_)
    go_wp2_with (refine zwr ?_;clear hF;intro wN hF;(try refine zs ?_))
    have hH:=hH.nextA hF;refine hK.out _ _ hH ?_;clear hK;refine zs ?_
    refine a2a 4 hH ?_
    refine zrz ?_
    (go_wp2;((try simp only [Exit.inBlock,Exit.then]);refine bodyPost_ret (b4m rfl hF) rfl ?_);exact ⟨_,_,rfl,As,cs,A,n,c,S,by rw [← hsl];rfl,rfl,by rw [← hsl] at hF ⊢;exact hF.outA,rfl⟩)
   ·go_wp2_with (((first|refine zrd ?_|(refine zst ?_;clear hF;(first|intro gN wN hF|intro wN hF|intro hF))|(refine zap ?_;clear hF;intro vN wN hF));refine zs ?_))
    refine a1n (by kernel_rfl) hF [.blk gW 35 [.int .i64 ways,.slice A2 n2 c2]] _ (by ((repeat (first|exact a1f|refine a1m zdm ?_)) <;> exact a1f)) (fun _ h=>h) ?_
    clear hF;intro hF hH
    refine a1c 0 hH ?_
    refine zk5 1 hH ?_
    refine zk0 2 hH ?_
    refine a2a 3 hH ?_
    refine zry 4 (fun K hK=>?_)
    go_wp2_with (refine zwr ?_;clear hF;intro wN hF;(try refine zs ?_))
    have hH:=hH.nextA hF;refine hK.out _ _ hH ?_;clear hK;refine zs ?_
    refine a2a 5 hH ?_
    refine zrz ?_
    (go_wp2;((try simp only [Exit.inBlock,Exit.then]);refine bodyPost_ret (b4m rfl hF) rfl ?_);exact ⟨_,_,rfl,cutA As 1 cs 2,cs - 1,A2,n2,c2,S2,by rw [← hrl];rfl,rfl,by rw [← hrl];exact hF.outA,hC2.out⟩)
end
section
open Go.RowKit Wd
theorem g8p (c:Cf) (Al:Option Addr) (cl:Nat) (At:Option Addr) (ct:Nat) (w:World) (hl:Rd w w.heap.size 1 Al c.lat.length cl (a1i c.lat)) (ht:Rd w w.heap.size 1 At c.tape.length ct (u32v c.tape)) (h3:a1q 1 4 c.sets=3) :
  Calls Tryz.prog 24 #[.agg (cfC c Al cl At ct).toArray] w fun e w'=>∃ A1 c1 A2 c2,e = .returned (.agg (cfC (cleanCf c) A1 c1 A2 c2).toArray)∧Out w [a1a 1 Al c.lat.length cl (a1i c.lat),a1a 1 At c.tape.length ct (u32v c.tape)] w' [a1a 1 A1 (cleanCf c).lat.length c1 (a1i (cleanCf c).lat),a1a 1 A2 (cleanCf c).tape.length c2 (u32v (cleanCf c).tape)]:=by
 have hF:=St.start w [a1a 1 Al c.lat.length cl (a1i c.lat),a1a 1 At c.tape.length ct (u32v c.tape)] (fun d hd=>by
  rcases List.mem_cons.1 hd with rfl|hd
  ·exact hl
  ·obtain rfl:=List.mem_singleton.1 hd;exact ht)
 clear hl ht
 obtain ⟨mode,width,rob,queue,stores,slots,sets,ways,lat,tables,tape⟩:=c
 unfold cfC
 dsimp only at *
 obtain ⟨nl,hnl⟩:∃ n,lat.length=n:=⟨_,rfl⟩
 obtain ⟨nt,hnt⟩:∃ n,tape.length=n:=⟨_,rfl⟩
 rw [hnl,hnt] at hF ⊢
 obtain ⟨N,hN⟩:∃ N:Nat,N=min nl 64:=⟨_,rfl⟩
 obtain ⟨T,hT⟩:∃ T:Nat,T=min nt 64:=⟨_,rfl⟩
 have hN1:Hid ((N:Int)=if (64:Int)<(nl:Int) then 64 else (nl:Int)):=Lib.hid (by split <;> omega)
 have hT1:Hid ((T:Int)=if (64:Int)<(nt:Int) then 64 else (nt:Int)):=Lib.hid (by split <;> omega)
 have hNl:N≤nl:=by omega
 have hTl:T≤nt:=by omega
 have hN64:N≤64:=by omega
 have hT64:T≤64:=by omega
 have hlt:(lat.take 64).length=N:=by rw [List.length_take];omega
 have htt:(tape.take 64).length=T:=by rw [List.length_take];omega
 have hltk:lat.take N=lat.take 64:=by
  rcases Nat.le_total nl 64 with h|h
  ·rw [List.take_of_length_le (by omega),List.take_of_length_le (by omega)]
  ·rw [show N=64 by omega]
 have httk:tape.take T=tape.take 64:=by
  rcases Nat.le_total nt 64 with h|h
  ·rw [List.take_of_length_le (by omega),List.take_of_length_le (by omega)]
  ·rw [show T=64 by omega]
 replace hN:=Lib.hid hN;replace hT:=Lib.hid hT;replace hlt:=Lib.hid hlt;replace htt:=Lib.hid htt;replace hltk:=Lib.hid hltk;replace httk:=Lib.hid httk;replace hnl:=Lib.hid hnl;replace hnt:=Lib.hid hnt
 obtain ⟨S,hS⟩:∃ S,a1q 1 4 sets=S:=⟨_,rfl⟩
 obtain ⟨SS,hSS⟩:∃ SS,(if S=3 then 2 else S)=SS:=⟨_,rfl⟩
 have hEl:Hid ((cleanCf ⟨mode,width,rob,queue,stores,slots,sets,ways,lat,tables,tape⟩).lat=(lat.take 64).map (a1q 1 8)):=Lib.hid rfl
 have hEt:Hid ((cleanCf ⟨mode,width,rob,queue,stores,slots,sets,ways,lat,tables,tape⟩).tape=tape.take 64):=Lib.hid rfl
 have hE:Hid (∀ A1 c1 A2 c2,cfC (cleanCf ⟨mode,width,rob,queue,stores,slots,sets,ways,lat,tables,tape⟩) A1 c1 A2 c2=[.int .i64 (a1q 0 2 mode),.int .i64 (a1q 1 2 width),.int .i64 (a1q 2 8 rob),.int .i64 (a1q 1 4 queue),.int .i64 (a1q 1 4 stores),.int .i64 (a1q 2 6 slots),.int .i64 SS,.int .i64 (a1q 1 2 ways),.slice A1 N c1,.bool tables,.slice A2 T c2]):=Lib.hid (by
  intro A1 c1 A2 c2
  simp only [cfC,cleanCf,List.length_map,hlt.out,htt.out,hS,hSS])
 replace hS:=Lib.hid hS
 go_enter Tryz.func24,Tryz.ntmps24
 obtain rfl:S=3:=by rw [← hS.out];exact h3
 rw [if_pos rfl] at hSS
 subst hSS
 (go_wp2_with ((try refine zs ?_);(first|refine b7s ?_|(go_at_call 52;(refine (c1l (by rw [(hF.bkAt at1).cell];rfl) ((hF.bkAt at1).frozen (Nat.le_of_ble_eq_true rfl)) (by first|exact hS|exact Lib.hid rfl)).mono ?_;rintro x wN ⟨⟨y,rfl⟩,w1,hb,hw1⟩;replace hF:=hF.putE hb at1 hw1;clear hb hw1;(try simp only [zF] at hF)))|(refine c7d ?_;clear hF;(first|intro gN wN hF|intro wN hF|intro hF))|(refine b9u rfl hF rfl rfl ?_;clear hF;intro wN hF;(try simp only [List.set_cons_zero,c1n,hltk.out,c1m,httk.out] at hF))|(refine a1d ?_;clear hF;intro vN wN hF))))
 obtain ⟨gL,g2,g1,rfl,rfl,rfl⟩:=hF.names3
 go_loopw [46] (fun ix wr=>∃ k:Nat,k≤N∧ix = .int .i64 (k:Int)∧St w [a1a 1 Al nl cl (a1i lat),a1a 1 At nt ct (u32v tape)] wr [.blk gL 3 (a1i (a3x (a1q 1 8) (lat.take 64) k)),.blk g2 25 [.int .i64 0,.int .i64 0,.int .i64 0,.int .i64 0,.int .i64 0,.int .i64 0,.int .i64 0,.int .i64 0,.slice none 0 0,.bool false,.slice none 0 0],.blk g1 25 [.int .i64 (a1q 0 2 mode),.int .i64 (a1q 1 2 width),.int .i64 (a1q 2 8 rob),.int .i64 (a1q 1 4 queue),.int .i64 (a1q 1 4 stores),.int .i64 (a1q 2 6 slots),.int .i64 2,.int .i64 (a1q 1 2 ways),.slice Al nl cl,.bool tables,.slice At nt ct]] [a1a 1 Al nl cl (a1i lat),a1a 1 At nt ct (u32v tape)]) (fun ix _=>N - (intOf ix).toNat)
 case atStart=>exact ⟨0,by omega,rfl,by rw [d1u];exact hF⟩
 case round=>
  clear hF
  obtain ⟨k,hk,rfl,hF⟩:=hrel
  by_cases hkn:k<N
  ·obtain ⟨x,hx⟩:∃ x,(lat.take 64)[k]?=some x:=⟨_,List.getElem?_eq_getElem (by have:=hlt.out;omega)⟩
   have hv:(a1i (a3x (a1q 1 8) (lat.take 64) k))[k]?=some (.int .i64 x):=b1i (d1w hx)
   have hkl:k<(a1i (a3x (a1q 1 8) (lat.take 64) k)).length:=by rw [a9o,d1v,hlt.out];omega
   obtain ⟨y,hy⟩:∃ y,a1q 1 8 x=y:=⟨_,rfl⟩
   have hst:=Lib.hid (show (a1i (a3x (a1q 1 8) (lat.take 64) k)).set k (.int .i64 y)=a1i (a3x (a1q 1 8) (lat.take 64) (k+1)) by have h1:=c4u (a3x (a1q 1 8) (lat.take 64) k) k y;rw [Nat.mul_one] at h1;rw [h1,← hy,d1x hx])
   replace hy:=Lib.hid hy
   clear hx
   generalize a1i (a3x (a1q 1 8) (lat.take 64) k)=X at hF hv hkl hst
   go_wp2_with ((try refine zs ?_);(first|refine zg4 ?_|(go_at_call 52;refine (c1l (by rw [(hF.bkAt at0).cell];exact hv) ((hF.bkAt at0).frozen hkl) hy).mono ?_;rintro x wN ⟨⟨y,rfl⟩,w1,hb,hw1⟩;replace hF:=hF.putE hb at0 hw1;clear hb hw1;(try simp only [zF] at hF))))
   go_roundw
   case rel=>exact ⟨k+1,by omega,by go_num,by rw [← hst.out];exact hF⟩
   case measure=>first|(simp [intOf];done)|(simp [intOf];omega)
  ·obtain rfl:k=N:=by omega
   rw [d1y (by rw [hlt.out];exact Nat.le_refl _)] at hF
   go_wp2_with ((try refine zs ?_);(first|refine b7s ?_|(refine c7e ?_;clear hF;(first|intro gN wN hF|intro wN hF|intro hF))|(refine b9u rfl hF rfl rfl ?_;clear hF;intro wN hF;(try simp only [List.set_cons_zero,c1n,hltk.out,c1m,httk.out] at hF))|(refine a1d ?_;clear hF;intro vN wN hF)))
   obtain ⟨gT,g3,g4,g5,rfl,rfl,rfl,rfl⟩:=hF.names4
   ((try simp only [Exit.inBlock,Exit.then]);refine bodyPost_ret (a2x rfl hF) rfl ?_)
   replace hF:=hF.freezeB 0 at0 1 T T (by rw [u32v_len,htt.out,Nat.mul_one]) (Nat.le_refl _) (by unfold maxLen;omega)
   (try simp only [zF] at hF)
   replace hF:=hF.freezeB 0 at0 1 k k (by rw [a9o,List.length_map,hlt.out,Nat.mul_one]) (Nat.le_refl _) (by unfold maxLen;omega)
   refine ⟨some ⟨g3,0,none⟩,k,some ⟨gT,0,none⟩,T,?_,?_⟩
   ·have h:=hE.out (some ⟨g3,0,none⟩) k (some ⟨gT,0,none⟩) T
    unfold cfC at h
    exact congrArg (fun l:List Value=>Ending.returned (.agg l.toArray)) h.symm
   ·rw [hEl.out,hEt.out,List.length_map,hlt.out,htt.out]
    exact hF.outA
end
end Go.Proofs.YtgnomadgnciifaaGreatDoor
