/- Words and contracts that the claim stands on, part 3 of 7. -/
import Derived.Test.YtmnjjdeaccgjlaaGreatGStageNew0
import Derived.Test.YtmnjjdeaccgjlaaGreatGStageNew1
import Derived.Deep.LoopGhost
import Derived.OwnWalk
import Derived.Deep.Cut
import Derived.Deep.CutRange
import Derived.Deep.CutBlock
set_option linter.unusedSimpArgs false
set_option linter.unusedVariables false
set_option maxHeartbeats 4000000
set_option maxRecDepth 100000
namespace Go.Proofs.YtmnjjdeaccgjlaaGreat.Tower
open Go Go.RowKit Go.Proofs.YtmnjjdeaccgjlaaGreatW.PrintWords Go.Proofs.YtmnjjdeaccgjlaaGreatW.PrintLast Go.Proofs.YtmnjjdeaccgjlaaGreatW.PrintMore Go.Proofs.YtmnjjdeaccgjlaaGreat.Own
structure Ws where
 ar:Ar
 tb:Tb
 ep:Ep
 a:Int
 b:Int
 entry:Int
structure dG (ok okA okR okE:Nat→Prop) (p pA pR pE:Nat) (x:Ws) (w:World):Prop where
 ok: ∀ k,ok k↔k=p∨okA k∨okR k∨okE k
 nA: ¬ okA p
 nR: ¬ okR p
 nE: ¬ okE p
 AR: ∀ k,okA k→ ¬ okR k
 AE: ∀ k,okA k→ ¬ okE k
 RE: ∀ k,okR k→ ¬ okE k
 box:w.heap[p]?=some (.cells #[.pointer (some ⟨pA,0,none⟩),.pointer (some ⟨pR,0,none⟩),.pointer (some ⟨pE,0,none⟩),.int .i64 x.a,.int .i64 x.b,.int .i64 x.entry] 47 (0,0))
 ar:dn okA pA x.ar w
 tb:IsTable okR pR x.tb w
 ep:dz okE pE x.ep w
def pQ (p:Nat) (x:Ws) (ok:Nat→Prop) (w:World):Prop:= ∃ okA okR okE pA pR pE,dG ok okA okR okE p pA pR pE x w
section
variable {ok okA okR okE:Nat→Prop} {p pA pR pE:Nat} {x:Ws} {w w1:World}
theorem dG.lt (h:dG ok okA okR okE p pA pR pE x w): ∀ k,ok k→k<w.heap.size:=fun k hk=>by
 rcases (h.ok k).1 hk with rfl | hk | hk | hk
 ·exact bD h.box
 ·exact h.ar.lt k hk
 ·exact h.tb.lt k hk
 ·exact h.ep.lt k hk
theorem dG.step (h:dG ok okA okR okE p pA pR pE x w) (hs:w.heap.size≤w1.heap.size) (hm: ∀ k,ok k→k<w.heap.size→w1.heap[k]?=w.heap[k]?):dG ok okA okR okE p pA pR pE x w1:=
 { h with
  box:=(hm p ((h.ok p).2 (.inl rfl)) (bD h.box)).trans h.box
  ar:=h.ar.step hs (fun k hk=>hm k ((h.ok k).2 (.inr (.inl hk))))
  tb:=h.tb.step hs (fun k hk=>hm k ((h.ok k).2 (.inr (.inr (.inl hk)))))
  ep:=h.ep.step hs (fun k hk=>hm k ((h.ok k).2 (.inr (.inr (.inr hk))))) }
theorem dG.cK (h:dG ok okA okR okE p pA pR pE x w) {okA1:Nat→Prop} {a1:Ar} (ha:dn okA1 pA a1 w1) (hm:Moves okA okA1 w w1):
  dG (fun k=>k=p∨okA1 k∨okR k∨okE k) okA1 okR okE p pA pR pE { x with ar:=a1 } w1∧Moves ok (fun k=>k=p∨okA1 k∨okR k∨okE k) w w1:=by
 have hf: ∀ k,k<w.heap.size→ ¬ okA k→ ¬ okA1 k:=fun k hk hn h1=>(hm.fresh k h1).elim hn (fun h2=>by omega)
 refine ⟨{
  ok:=fun k=>Iff.rfl
  nA:=hf p (bD h.box) h.nA
  nR:=h.nR
  nE:=h.nE
  AR:=fun k h1 h2=>hf k (h.tb.lt k h2) (fun h3=>h.AR k h3 h2) h1
  AE:=fun k h1 h2=>hf k (h.ep.lt k h2) (fun h3=>h.AE k h3 h2) h1
  RE:=h.RE
  box:=(hm.block p (bD h.box) h.nA).trans h.box
  ar:=ha
  tb:=h.tb.step hm.size (fun k hk hlt=>hm.block k hlt (fun h3=>h.AR k h3 hk))
  ep:=h.ep.step hm.size (fun k hk hlt=>hm.block k hlt (fun h3=>h.AE k h3 hk)) },?_⟩
 exact ⟨hm.os,hm.tape,hm.output,hm.size,fun k hk hn=>hm.block k hk (fun h3=>hn ((h.ok k).2 (.inr (.inl h3)))),fun k hk=>by
  rcases hk with rfl | hk | hk | hk
  ·exact .inl ((h.ok _).2 (.inl rfl))
  ·exact (hm.fresh k hk).imp (fun h3=>(h.ok k).2 (.inr (.inl h3))) id
  ·exact .inl ((h.ok k).2 (.inr (.inr (.inl hk))))
  ·exact .inl ((h.ok k).2 (.inr (.inr (.inr hk))))⟩
theorem dG.jO (h:dG ok okA okR okE p pA pR pE x w) {okR1:Nat→Prop} {t1:Tb} (ha:IsTable okR1 pR t1 w1) (hm:Moves okR okR1 w w1):
  dG (fun k=>k=p∨okA k∨okR1 k∨okE k) okA okR1 okE p pA pR pE { x with tb:=t1 } w1∧Moves ok (fun k=>k=p∨okA k∨okR1 k∨okE k) w w1:=by
 have hf: ∀ k,k<w.heap.size→ ¬ okR k→ ¬ okR1 k:=fun k hk hn h1=>(hm.fresh k h1).elim hn (fun h2=>by omega)
 refine ⟨{
  ok:=fun k=>Iff.rfl
  nA:=h.nA
  nR:=hf p (bD h.box) h.nR
  nE:=h.nE
  AR:=fun k h1 h2=>hf k (h.ar.lt k h1) (fun h3=>h.AR k h1 h3) h2
  AE:=h.AE
  RE:=fun k h1 h2=>hf k (h.ep.lt k h2) (fun h3=>h.RE k h3 h2) h1
  box:=(hm.block p (bD h.box) h.nR).trans h.box
  ar:=h.ar.step hm.size (fun k hk hlt=>hm.block k hlt (fun h3=>h.AR k hk h3))
  tb:=ha
  ep:=h.ep.step hm.size (fun k hk hlt=>hm.block k hlt (fun h3=>h.RE k h3 hk)) },?_⟩
 exact ⟨hm.os,hm.tape,hm.output,hm.size,fun k hk hn=>hm.block k hk (fun h3=>hn ((h.ok k).2 (.inr (.inr (.inl h3))))),fun k hk=>by
  rcases hk with rfl | hk | hk | hk
  ·exact .inl ((h.ok _).2 (.inl rfl))
  ·exact .inl ((h.ok k).2 (.inr (.inl hk)))
  ·exact (hm.fresh k hk).imp (fun h3=>(h.ok k).2 (.inr (.inr (.inl h3)))) id
  ·exact .inl ((h.ok k).2 (.inr (.inr (.inr hk))))⟩
theorem dG.iE (h:dG ok okA okR okE p pA pR pE x w) {okE1:Nat→Prop} {t1:Ep} (ha:dz okE1 pE t1 w1) (hm:Moves okE okE1 w w1):
  dG (fun k=>k=p∨okA k∨okR k∨okE1 k) okA okR okE1 p pA pR pE { x with ep:=t1 } w1∧Moves ok (fun k=>k=p∨okA k∨okR k∨okE1 k) w w1:=by
 have hf: ∀ k,k<w.heap.size→ ¬ okE k→ ¬ okE1 k:=fun k hk hn h1=>(hm.fresh k h1).elim hn (fun h2=>by omega)
 refine ⟨{
  ok:=fun k=>Iff.rfl
  nA:=h.nA
  nR:=h.nR
  nE:=hf p (bD h.box) h.nE
  AR:=h.AR
  AE:=fun k h1 h2=>hf k (h.ar.lt k h1) (fun h3=>h.AE k h1 h3) h2
  RE:=fun k h1 h2=>hf k (h.tb.lt k h1) (fun h3=>h.RE k h1 h3) h2
  box:=(hm.block p (bD h.box) h.nE).trans h.box
  ar:=h.ar.step hm.size (fun k hk hlt=>hm.block k hlt (fun h3=>h.AE k hk h3))
  tb:=h.tb.step hm.size (fun k hk hlt=>hm.block k hlt (fun h3=>h.RE k hk h3))
  ep:=ha },?_⟩
 exact ⟨hm.os,hm.tape,hm.output,hm.size,fun k hk hn=>hm.block k hk (fun h3=>hn ((h.ok k).2 (.inr (.inr (.inr h3))))),fun k hk=>by
  rcases hk with rfl | hk | hk | hk
  ·exact .inl ((h.ok _).2 (.inl rfl))
  ·exact .inl ((h.ok k).2 (.inr (.inl hk)))
  ·exact .inl ((h.ok k).2 (.inr (.inr (.inl hk))))
  ·exact (hm.fresh k hk).imp (fun h3=>(h.ok k).2 (.inr (.inr (.inr h3)))) id⟩
end
theorem gQ (p:Nat):Shared (fun (x:Ws) ok w=>pQ p x ok w) where
 step:=fun h hs hm=>by
  obtain ⟨okA,okR,okE,pA,pR,pE,h⟩:=h
  exact ⟨okA,okR,okE,pA,pR,pE,h.step hs hm⟩
 lt:=fun h=>by
  obtain ⟨okA,okR,okE,pA,pR,pE,h⟩:=h
  exact h.lt
def ndE (r:Int):Nd:=⟨true,false,[],[],[r]⟩
def ws0 (a b:Int) (threads:Nat) (nodes records:Int):Option Ws:=
 match (ar0 nodes).alloc nd0 with
 | none=>none
 | some ((r,_),a1)=>match a1.alloc (ndE r) with
  | none=>none
  | some ((e,_),a2)=>some ⟨a2,⟨[],records⟩,⟨0,List.replicate threads (-1),List.replicate threads []⟩,a,b,e⟩
structure yM (x:Ws) (w:World) (e:Ending) (w1:World):Prop where
 out: ∃ ok p,e= .returned (.tuple #[.pointer (some ⟨p,0,none⟩),.int .i64 0])∧pQ p x ok w1∧(∀ k,ok k→w.heap.size≤k)∧Below w.heap.size w w1
theorem NdF.nil (D:Nat→Prop) (w:World):NdF D nd0 (.agg #[.bool false,.bool false,.slice none 0 0,.slice none 0 0,.slice none 0 0]) w:=⟨none,0,none,0,none,0,rfl,Nat.le_refl _,Nat.le_refl _,Nat.le_refl _,Kd.jD _ _ _,Kd.jD _ _ _,Kd.jD _ _ _⟩
theorem jr {ok ok1:Nat→Prop} {w0 w w1:World} (h:Moves ok ok1 w w1) (hb:Below w0.heap.size w0 w) (hn: ∀ k,ok k→w0.heap.size≤k):Below w0.heap.size w0 w1:=
 ⟨h.os.trans hb.os,h.tape.trans hb.tape,h.output.trans hb.output,Nat.le_trans hb.size h.size,fun k hk=>(h.block k (Nat.lt_of_lt_of_le hk hb.size) (fun h1=>by have:=hn k h1;omega)).trans (hb.block k hk)⟩
theorem Ef {k:IntKind} (e:Nat) (w:World) (base:Nat) (xs:List Int) (hb:base≤w.heap.size) (hl:xs.length<1000000):(Kd.int k).R e (w.alloc (.cells (xs.map fun n=>Value.int k n).toArray e)) base (fun q=>q=w.heap.size) (.slice (some ⟨w.heap.size,0,none⟩) xs.length xs.length) xs:=by
 refine Kd.vz ?_ (fun q hq=>?_)
 ·have:=World.ownsRow_lit (base:=base) (e:=e) (size:=1) w (xs.map fun n=>Value.int k n).toArray xs.length hb (by simp [maxLen];omega) (by simp)
  simpa [encs] using this
 ·have:w.heap.size=q:=by simpa [Value.ownBlock] using hq
  omega
theorem MX {k:IntKind} (e:Nat) (w:World) (xs:List Int) (hl:xs.length<1000000):(Kd.int k).F (w.alloc (.cells (xs.map fun n=>Value.int k n).toArray e)) (fun q=>q=w.heap.size) (some ⟨w.heap.size,0,none⟩) xs.length xs:=Kd.R_F (Ef e w 0 xs (Nat.zero_le _) hl)
theorem dG.AO {ok okA okR okE:Nat→Prop} {p pA pR pE:Nat} {x:Ws} {w:World} (h:dG ok okA okR okE p pA pR pE x w) (r:Int):dG ok okA okR okE p pA pR pE { x with entry:=r } (w.setCell ⟨p,5,none⟩ (.int .i64 r)):=
 { h with
  box:=bH h.box 5 _
  ar:=h.ar.step (by simp [World.setCell]) (fun k hk _=>Below.heap_setCell w ⟨p,5,none⟩ _ k (fun e=>h.nA ((show k=p from e)▸hk)))
  tb:=h.tb.step (by simp [World.setCell]) (fun k hk _=>Below.heap_setCell w ⟨p,5,none⟩ _ k (fun e=>h.nR ((show k=p from e)▸hk)))
  ep:=h.ep.step (by simp [World.setCell]) (fun k hk _=>Below.heap_setCell w ⟨p,5,none⟩ _ k (fun e=>h.nE ((show k=p from e)▸hk))) }
theorem CK (a b:Int) (threads:Nat) (nodes records:Int) (w:World) (ha:2≤a) (ha1:a≤32) (hb:2*a - 1≤b) (hb1:b≤32) (ht:1≤threads) (ht1:threads≤64) (hn:2≤nodes) (hn1:nodes≤65536) (hr:0≤records) (hr1:records≤65536) (x:Ws) (hx:ws0 a b threads nodes records=some x):
  Calls Tryz.prog 65 #[.int .i64 a,.int .i64 b,.int .i64 threads,.int .i64 nodes,.int .i64 records] w (yM x w):=by
 have d1:decide (a<2)=false:=decide_eq_false (by omega)
 have d2:decide (a>32)=false:=decide_eq_false (by omega)
 have d3:decide (b<2*a - 1)=false:=decide_eq_false (by omega)
 have d4:decide (b>32)=false:=decide_eq_false (by omega)
 have d5:decide ((threads:Int)<1)=false:=decide_eq_false (by omega)
 have d6:decide ((threads:Int)>64)=false:=decide_eq_false (by omega)
 have d7:decide (nodes<2)=false:=decide_eq_false (by omega)
 have d8:decide (nodes>65536)=false:=decide_eq_false (by omega)
 have d9:decide (records<0)=false:=decide_eq_false (by omega)
 have d10:decide (records>65536)=false:=decide_eq_false (by omega)
 have e2:decide (32<a)=false:=d2
 have e4:decide (32<b)=false:=d4
 have e6:decide (64<(threads:Int))=false:=d6
 have e8:decide (65536<nodes)=false:=d8
 have e10:decide (65536<records)=false:=d10
 have HX:=Am_ hx
 clear hx
 go_enter Tryz.func65,Tryz.ntmps65
 go_upto_region 3 with fail
 clear d1 d2 d3 d4 d5 d6 d7 d8 d9 d10 e2 e4 e6 e8 e10
 go_upto_region 4 with (first
  | (go_at_call 108;refine (zB nodes _ (by omega) hn1).mono ?_;rintro e w1 ⟨okA,pA,rfl,hA,hAf,hAb⟩;have A0:=Am_ hA;have A1:=Am_ hAf;have A2:=Am_ hAb;clear hA hAf hAb)
  | (go_at_call 109;refine (yx records _ hr hr1).mono ?_;rintro e w2 ⟨okR,pR,rfl,hR,hRf,hRb⟩;have R0:=Am_ hR;have R1:=Am_ hRf;have R2:=Am_ hRb;clear hR hRf hRb)
  | (go_at_call 110;refine (AP threads _ ht1).mono ?_;rintro e w3 ⟨okE,pE,rfl,hE,hEf,hEb⟩;have E0:=Am_ hE;have E1:=Am_ hEf;have E2:=Am_ hEb;clear hE hEf hEb))
 have hA3:dn okA pA (ar0 nodes) w3:=(A0.out.step R2.out.size (fun k _ hlt=>R2.out.block k hlt)).step E2.out.size (fun k _ hlt=>E2.out.block k hlt)
 have hR3:IsTable okR pR ⟨[],records⟩ w3:=R0.out.step E2.out.size (fun k _ hlt=>E2.out.block k hlt)
 have hB3:Below w.heap.size w w3:=aY (aY A2.out A2.out.size R2.out) (aY A2.out A2.out.size R2.out).size E2.out
 have hAl: ∀ k,okA k→w.heap.size≤k∧k<w1.heap.size:=fun k hk=>⟨A1.out k hk,A0.out.lt k hk⟩
 have hRl: ∀ k,okR k→w1.heap.size≤k∧k<w2.heap.size:=fun k hk=>⟨R1.out k hk,R0.out.lt k hk⟩
 have hEl: ∀ k,okE k→w2.heap.size≤k∧k<w3.heap.size:=fun k hk=>⟨E1.out k hk,E0.out.lt k hk⟩
 have s1:=A2.out.size
 have s2:=R2.out.size
 have s3:=E2.out.size
 have hW3: ∀ o:Obj,Below w.heap.size w (w3.alloc o):=fun o=>aY hB3 hB3.size (ai (Below.refl _ _) o)
 have W4:ak (dG (fun k=>k=w3.heap.size∨okA k∨okR k∨okE k) okA okR okE w3.heap.size pA pR pE ⟨ar0 nodes,⟨[],records⟩,⟨0,List.replicate threads (-1),List.replicate threads []⟩,a,b,0⟩ (w3.alloc (.cells #[.pointer (some ⟨pA,0,none⟩),.pointer (some ⟨pR,0,none⟩),.pointer (some ⟨pE,0,none⟩),.int .i64 a,.int .i64 b,.int .i64 0] 47))):=⟨{
  ok:=fun k=>Iff.rfl
  nA:=fun h=>by have:=hAl _ h;omega
  nR:=fun h=>by have:=hRl _ h;omega
  nE:=fun h=>by have:=hEl _ h;omega
  AR:=fun k h1 h2=>by have:=hAl k h1;have:=hRl k h2;omega
  AE:=fun k h1 h2=>by have:=hAl k h1;have:=hEl k h2;omega
  RE:=fun k h1 h2=>by have:=hRl k h1;have:=hEl k h2;omega
  box:=bU w3 _
  ar:=hA3.step (by simp) (fun k _ hlt=>Below.heap_alloc _ _ _ hlt)
  tb:=hR3.step (by simp) (fun k _ hlt=>Below.heap_alloc _ _ _ hlt)
  ep:=E0.out.step (by simp) (fun k _ hlt=>Below.heap_alloc _ _ _ hlt) }⟩
 have F4:ak (∀ k,(k=w3.heap.size∨okA k∨okR k∨okE k)→w.heap.size≤k):=⟨fun k hk=>by
  rcases hk with rfl | hk | hk | hk
  ·omega
  ·exact (hAl k hk).1
  ·have:=(hRl k hk).1;omega
  ·have:=(hEl k hk).1;omega⟩
 have B4:=Am_ (hW3 (.cells #[.pointer (some ⟨pA,0,none⟩),.pointer (some ⟨pR,0,none⟩),.pointer (some ⟨pE,0,none⟩),.int .i64 a,.int .i64 b,.int .i64 0] 47))
 clear hA3 hR3 hB3 hAl hRl hEl s1 s2 s3 hW3 A0 A1 A2 R0 R1 R2 E0 E1 E2
 generalize w3.alloc (.cells #[.pointer (some ⟨pA,0,none⟩),.pointer (some ⟨pR,0,none⟩),.pointer (some ⟨pE,0,none⟩),.int .i64 a,.int .i64 b,.int .i64 0] 47)=w4 at W4 B4 ⊢
 generalize w3.heap.size=p at W4 F4 ⊢
 generalize hok4:(fun k=>k=p∨okA k∨okR k∨okE k)=ok4 at W4
 have F4:ak (∀ k,ok4 k→w.heap.size≤k):=⟨by rw [←hok4];exact F4.out⟩
 clear hok4
 have hx:=HX.out
 unfold ws0 at hx
 cases h1:(ar0 nodes).alloc nd0 with
 | none=>rw [h1] at hx;cases hx
 | some q1=>
  obtain ⟨⟨r,rb⟩,a1⟩:=q1
  rw [h1] at hx
  simp only at hx
  cases h2:a1.alloc (ndE r) with
  | none=>rw [h2] at hx;cases hx
  | some q2=>
   obtain ⟨⟨en,eb⟩,a2⟩:=q2
   rw [h2] at hx
   simp only at hx
   injection hx with hx
   have H1:=Am_ h1
   have H2:=Am_ h2
   have HX2:=Am_ hx
   clear hx h1 h2 HX
   have c0:=(af W4.out.box 0).trans (rfl:_=some (Value.pointer (some ⟨pA,0,none⟩)))
   go_upto_region 5 with (go_at_call 93;refine (jZ nd0 _ _ W4.out.ar (by simp [ar0]) (NdF.nil _ _) ⟨by simp [nd0],by simp [nd0],by simp [nd0]⟩ H1.out).mono ?_;rintro e w5 ⟨rfl,okA1,hA5,hM5⟩;have A5:=Am_ hA5;have M5:=Am_ hM5;clear hA5 hM5)
   clear c0
   have W5:=Am_ (W4.out.cK A5.out M5.out).1
   have N5:=Am_ (W4.out.cK A5.out M5.out).2
   have B5:=Am_ (jr N5.out B4.out F4.out)
   have F5:ak (∀ k,(k=p∨okA1 k∨okR k∨okE k)→w.heap.size≤k):=⟨fun k hk=>(N5.out.fresh k hk).elim (F4.out k) (fun h=>Nat.le_trans B4.out.size h)⟩
   clear A5 M5 N5 W4 B4 F4
   have c0:=(af W5.out.box 0).trans (rfl:_=some (Value.pointer (some ⟨pA,0,none⟩)))
   have W6:=Am_ (W5.out.step (w1:=w5.alloc (.cells #[.int .i64 r] 45)) (by simp) (fun k _ hlt=>Below.heap_alloc _ _ _ hlt))
   have B6:=Am_ (aY B5.out B5.out.size (ai (Below.refl _ _) (.cells #[.int .i64 r] 45)))
   have FF:=Am_ (MX (k:= .i64) 45 w5 [r] (by simp))
   have NN:ak (¬ okA1 w5.heap.size):=⟨fun h=>by have:=W5.out.ar.lt _ h;omega⟩
   have L5:ak (a1.slots.length<999999):=⟨by
    have:=H1.out
    unfold Ar.alloc at this
    rw [if_neg (by show ¬ nodes≤0;omega)] at this
    simp [Ar.take,ar0] at this
    obtain ⟨_,rfl⟩:=this
    simp [Ar.put]⟩
   go_upto_region 6 with (go_at_call 93;refine (jZ (ndE r) _ _ W6.out.ar L5.out ⟨none,0,none,0,_,1,rfl,Nat.le_refl _,Nat.le_refl _,Nat.le_refl _,Kd.jD _ _ _,Kd.jD _ _ _,Kd.dh FF.out (fun k hk h=>NN.out (hk▸h))⟩ ⟨by simp [ndE],by simp [ndE],by simp [ndE]⟩ H2.out).mono ?_;rintro e w7 ⟨rfl,okA2,hA7,hM7⟩;have A7:=Am_ hA7;have M7:=Am_ hM7;have c0:=(af (W6.out.cK hA7 hM7).1.box 0).trans (rfl:_=some (Value.pointer (some ⟨pA,0,none⟩)));have c5:=(af (W6.out.cK hA7 hM7).1.box 5).trans (rfl:_=some (Value.int .i64 0));have z5:=ah (W6.out.cK hA7 hM7).1.box 5;clear hA7 hM7)
   have W7:=Am_ ((W6.out.cK A7.out M7.out).1.AO en)
   have N7:=Am_ (W6.out.cK A7.out M7.out).2
   have B7:=Am_ (jr N7.out B6.out F5.out)
   have F7:ak (∀ k,(k=p∨okA2 k∨okR k∨okE k)→w.heap.size≤k):=⟨fun k hk=>(N7.out.fresh k hk).elim (F5.out k) (fun h=>Nat.le_trans B6.out.size h)⟩
   have B8:ak (Below w.heap.size w (w7.setCell ⟨p,5,none⟩ (.int .i64 en))):=⟨B7.out.setCell (show w.heap.size≤p from F5.out p (.inl rfl)) _⟩
   clear A7 M7 N7 W6 B6 F5 B7 c0 c5 z5
   go_wp2_with fail
   go_ret2
   exact ⟨⟨_,p,rfl,by rw [←HX2.out];exact ⟨_,_,_,_,_,_,W7.out⟩,F7.out,B8.out⟩⟩
theorem Ii (a:Int) (w:World):Calls Tryz.prog 250 #[.int .i64 a] w fun e w1=>e= .returned (.bool false)∧w1=w:=by
 have h:(a != a)=false:=by simp
 have h2:(a == a)=true:=by simp
 go_enter Tryz.func250,Tryz.ntmps250
 go_wp2
 go_ret
 exact ⟨rfl,rfl⟩
theorem yB (a:Int) (w:World):Calls Tryz.prog 225 #[.int .i64 a] w fun e w1=>e= .returned (.bool false)∧w1=w:=by
 have h:(a != a)=false:=by simp
 have h2:(a == a)=true:=by simp
 go_enter Tryz.func225,Tryz.ntmps225
 go_wp2
 go_ret
 exact ⟨rfl,rfl⟩
theorem vI (a b:Int) (w:World):Calls Tryz.prog 224 #[.int .i64 a,.int .i64 b] w fun e w1=>e= .returned (.bool (decide (a<b)))∧w1=w:=by
 cases hd:decide (a<b)
 all_goals
  go_enter Tryz.func224,Tryz.ntmps224
  go_wp2_with (go_at_call 250;refine (Ii _ _).mono ?_;rintro e w1 ⟨rfl,rfl⟩)
  go_ret
  exact ⟨rfl,rfl⟩
def bsF (xs:List Int) (k:Int):Nat→Nat→Nat→Nat
 | 0,i,_=>i
 | f+1,i,j=>if i<j then (if xs.getD ((i+j) / 2) 0<k then bsF xs k f ((i+j) / 2+1) j else bsF xs k f i ((i+j) / 2)) else i
theorem kI (xs:List Int) (k:Int): ∀ (f g i j:Nat),j - i≤f→j - i≤g→bsF xs k f i j=bsF xs k g i j
 | 0,0,_,_,_,_=>rfl
 | 0,g+1,i,j,h,_=>by
  unfold bsF
  rw [if_neg (by omega)]
 | f+1,0,i,j,_,h=>by
  unfold bsF
  rw [if_neg (by omega)]
 | f+1,g+1,i,j,h,h'=>by
  unfold bsF
  by_cases hlt:i<j
  ·rw [if_pos hlt,if_pos hlt]
   by_cases hk:xs.getD ((i+j) / 2) 0<k
   ·rw [if_pos hk,if_pos hk]
    exact kI xs k f g _ _ (by omega) (by omega)
   ·rw [if_neg hk,if_neg hk]
    exact kI xs k f g _ _ (by omega) (by omega)
  ·rw [if_neg hlt,if_neg hlt]
def bs (xs:List Int) (k:Int) (i j:Nat):Nat:=bsF xs k (j - i) i j
theorem xk (xs:List Int) (k:Int) (i j:Nat):bs xs k i j=if i<j then (if xs.getD ((i+j) / 2) 0<k then bs xs k ((i+j) / 2+1) j else bs xs k i ((i+j) / 2)) else i:=by
 by_cases hlt:i<j
 ·rw [if_pos hlt]
  unfold bs
  rw [kI xs k (j - i) (j - i - 1+1) i j (by omega) (by omega)]
  conv=>lhs;unfold bsF
  rw [if_pos hlt]
  by_cases hk:xs.getD ((i+j) / 2) 0<k
  ·rw [if_pos hk,if_pos hk]
   exact kI xs k _ _ _ _ (by omega) (by omega)
  ·rw [if_neg hk,if_neg hk]
   exact kI xs k _ _ _ _ (by omega) (by omega)
 ·rw [if_neg hlt]
  unfold bs
  rw [show j - i=0 by omega]
  rfl
theorem zZ (xs:List Int) (k:Int): ∀ (f i j:Nat),i≤j→i≤bsF xs k f i j∧bsF xs k f i j≤j
 | 0,i,j,h=>⟨Nat.le_refl _,h⟩
 | f+1,i,j,h=>by
  unfold bsF
  by_cases hlt:i<j
  ·rw [if_pos hlt]
   by_cases hk:xs.getD ((i+j) / 2) 0<k
   ·rw [if_pos hk]
    have:=zZ xs k f ((i+j) / 2+1) j (by omega)
    omega
   ·rw [if_neg hk]
    have:=zZ xs k f i ((i+j) / 2) (by omega)
    omega
  ·rw [if_neg hlt]
   omega
theorem ML (xs:List Int) (k:Int) (i j:Nat) (h:i≤j):i≤bs xs k i j∧bs xs k i j≤j:=zZ xs k _ i j h
def gm (xs:List Int) (k:Int):Bool:=decide (bs xs k 0 xs.length<xs.length) && (xs.getD (bs xs k 0 xs.length) 0 == k)
theorem bsearch (A:Option Addr) (n c:Nat) (xs:List Int) (k:Int) (w:World) (hr:(Kd.int .i64).C w A n xs) (hl:n<1000000):
  Calls Tryz.prog 185 #[.slice A n c,.int .i64 k] w fun e w1=>e= .returned (.tuple #[.int .i64 (bs xs k 0 n:Nat),.bool (gm xs k)])∧ ∃ m,w1=w.drewN m:=by
 go_enter Tryz.func185,Tryz.ntmps185
 go_wp2_with fail
 go_loop [7,8] (fun i j=> ∃ a b:Nat,a≤b∧b≤n∧i= .int .i64 a∧j= .int .i64 b∧ak (bs xs k a b=bs xs k 0 n)) (fun i j=>((intOf j).toNat - (intOf i).toNat))
 case atStart=>exact ⟨0,n,Nat.zero_le _,Nat.le_refl _,rfl,rfl,⟨rfl⟩⟩
 case round=>
  obtain ⟨a,b,hab,hbn,rfl,rfl,HB⟩:=hrel
  by_cases hlt:a<b
  ·have d1:decide ((a:Int)<(b:Int))=true:=decide_eq_true (by omega)
   have d2:decide (a<b)=true:=decide_eq_true hlt
   go_upto_region 5 with fail
   obtain ⟨m,hm⟩: ∃ m:Nat,m=(a+b) / 2:=⟨_,rfl⟩
   have em:((a:Int)+(b:Int)) / 2=(m:Int):=by omega
   rw [em]
   have hma:a≤m:=by omega
   have hmb:m<b:=by omega
   have b0:(0:Int)≤(m:Int):=by omega
   have b1:(m:Int)<(n:Int):=by omega
   cases A with
   | none=>exact absurd hr.2.2 (fun h=>by obtain ⟨ad,h2,_⟩:=h (by have:=hr.1;omega);cases h2)
   | some ad=>
    have hc:=Kd.vO hr (m:Int) b0 b1
    have e1:rd xs (m:Int)=xs.getD m 0:=by simp [rd]
    rw [e1,Int.toNat_natCast] at hc
    have HM:=Am_ hm
    have HR:=Am_ hr
    have HLT:=Am_ hlt
    clear em hm hr hlt d1 d2 e1
    obtain ⟨x,hx⟩: ∃ x,x=xs.getD m 0:=⟨_,rfl⟩
    rw [←hx] at hc
    have HXX:=Am_ hx
    clear hx
    cases hd:decide (x<k) with
    | true=>
     have HD:=Am_ (of_decide_eq_true hd)
     go_wp2_with (go_at_call 224;refine (vI _ _ _).mono ?_;rintro e w1 ⟨rfl,rfl⟩)
     go_round
     case rel=>
      refine ⟨m+1,b,by omega,hbn,by go_num,rfl,⟨?_⟩⟩
      rw [←HB.out]
      conv=>rhs;rw [xk]
      rw [if_pos HLT.out,←HM.out,←HXX.out,if_pos HD.out]
     case measure=>simp [intOf];omega
    | false=>
     have HD:=Am_ (of_decide_eq_false hd)
     go_wp2_with (go_at_call 224;refine (vI _ _ _).mono ?_;rintro e w1 ⟨rfl,rfl⟩)
     go_round
     case rel=>
      refine ⟨a,m,by omega,by omega,rfl,rfl,⟨?_⟩⟩
      rw [←HB.out]
      conv=>rhs;rw [xk]
      rw [if_pos HLT.out,←HM.out,←HXX.out,if_neg (by have:=HD.out;omega)]
     case measure=>simp [intOf];omega
  ·have d1:decide ((a:Int)<(b:Int))=false:=decide_eq_false (by omega)
   have d2:decide (a<b)=false:=decide_eq_false hlt
   have hb:=HB.out
   rw [xk,if_neg hlt] at hb
   have hln:=hr.1
   have HL:=Am_ hln
   by_cases han:a<n
   ·have d3:decide ((a:Int)<(n:Int))=true:=decide_eq_true (by omega)
    have d4:decide (a<n)=true:=decide_eq_true han
    have b0:(0:Int)≤(a:Int):=by omega
    have b1:(a:Int)<(n:Int):=by omega
    cases A with
    | none=>exact absurd hr.2.2 (fun h=>by obtain ⟨ad,h2,_⟩:=h (by have:=hr.1;omega);cases h2)
    | some ad=>
     have hc:=Kd.vO hr (a:Int) b0 b1
     have e1:rd xs (a:Int)=xs.getD a 0:=by simp [rd]
     rw [e1,Int.toNat_natCast] at hc
     have HBB:=Am_ hb
     have hfd:gm xs k=(xs.getD a 0 == k):=by
      unfold gm
      rw [hln,←hb,decide_eq_true han]
      rfl
     have HF:=Am_ hfd
     clear hr e1 hb hln hfd HB hlt
     obtain ⟨x,hx⟩: ∃ x,x=xs.getD a 0:=⟨_,rfl⟩
     rw [←hx] at hc
     have HXX:=Am_ hx
     clear hx
     cases hd:x == k with
     | true=>
      go_wp2_with fail
      go_ret2
      refine ⟨?_,0,rfl⟩
      rw [HF.out,←HXX.out,hd,HBB.out];rfl
     | false=>
      go_wp2_with (go_at_call 225;refine (yB _ _).mono ?_;rintro e w1 ⟨rfl,rfl⟩)
      go_ret2
      refine ⟨?_,0,rfl⟩
      rw [HF.out,←HXX.out,hd,HBB.out];rfl
   ·have d3:decide ((a:Int)<(n:Int))=false:=decide_eq_false (by omega)
    have d4:decide (a<n)=false:=decide_eq_false han
    have HBB:=Am_ hb
    have hfd:gm xs k=false:=by
     unfold gm
     rw [hln,←hb,decide_eq_false han]
     rfl
    have HF:=Am_ hfd
    clear hr hb hln hfd HB hlt
    go_wp2_with fail
    go_ret2
    refine ⟨?_,0,rfl⟩
    rw [HF.out,HBB.out];rfl
theorem BL {k:IntKind} {a b:Int} (h:a=b):Ending.returned (.int k a)= .returned (.int k b):=by rw [h]
def CG (keys:List Int) (ways:Nat) (k:Int):Int:=min ((bs keys k 0 keys.length:Int)+if gm keys k then 1 else 0) (max ((ways:Int) - 1) 0)
theorem Be (Ak Ay:Option Addr) (ck m cy:Nat) (keys:List Int) (k:Int) (w:World) (hr:(Kd.int .i64).C w Ak keys.length keys) (hl:keys.length<1000000) (hm:m<1000000):
  Calls Tryz.prog 136 #[.agg #[.slice Ak keys.length ck,.slice Ay m cy],.int .i64 k] w fun e w1=>e= .returned (.int .i64 (CG keys m k))∧Below w.heap.size w w1:=by
 have hrc:=Kd.bO hr (ai (Below.refl w.heap.size w) (.cells #[.slice Ak keys.length ck,.slice Ay m cy] 155))
 have HR:=Am_ hrc
 have HB:=Am_ (ai (Below.refl w.heap.size w) (.cells #[.slice Ak keys.length ck,.slice Ay m cy] 155))
 have hbx:=bU w (.cells #[.slice Ak keys.length ck,.slice Ay m cy] 155)
 have hbl:=ML keys k 0 keys.length (Nat.zero_le _)
 obtain ⟨q,hq⟩: ∃ q,q=bs keys k 0 keys.length:=⟨_,rfl⟩
 rw [←hq] at hbl
 have HQ:=Am_ hq
 clear hr hrc hq
 go_enter Tryz.func136,Tryz.ntmps136
 go_upto_region 1 with fail
 generalize w.alloc (.cells #[.slice Ak keys.length ck,.slice Ay m cy] 155)=w1 at HR HB hbx ⊢
 generalize w.heap.size=b at hbx ⊢
 have c0:=(af hbx 0).trans (rfl:_=some (Value.slice Ak keys.length ck))
 have c1:=(af hbx 1).trans (rfl:_=some (Value.slice Ay m cy))
 clear hbx
 cases hf:gm keys k
 all_goals
  have HF:=Am_ hf
  clear hf
  go_wp2_with (go_at_call 185;refine (bsearch Ak keys.length ck keys k _ HR.out hl).mono ?_;rintro e w2 ⟨rfl,nq,rfl⟩;rw [←HQ.out,HF.out])
  all_goals
   go_ret
   refine ⟨?_,au HB.out nq⟩
   have hw:CG keys m k=min ((q:Int)+if gm keys k then 1 else 0) (max ((m:Int) - 1) 0):=by rw [HQ.out];rfl
   rw [HF.out] at hw
   rw [hw]
   refine BL ?_
   simp only [if_true,Bool.false_eq_true,if_false]
   first
    | omega
    | (split at * <;>omega)
end Go.Proofs.YtmnjjdeaccgjlaaGreat.Tower
namespace Go.Proofs.YtmnjjdeaccgjlaaGreat.Tower
open Go Go.RowKit Go.Proofs.YtmnjjdeaccgjlaaGreatW.PrintWords Go.Proofs.YtmnjjdeaccgjlaaGreatW.PrintLast Go.Proofs.YtmnjjdeaccgjlaaGreatW.PrintMore Go.Proofs.YtmnjjdeaccgjlaaGreat.Own
attribute [local go_sem] tX tY tZ nT lq
theorem enters {f:FuncId} {fn:Func} (hf:Tryz.prog.funcs[f]?=some fn) (hname:(fn.name == "runtime.NumGoroutine")=false) (hb:fn.body.isSome=true) (args:Array Value) (w:World):(callFunc f args).run Tryz.prog w= .ok (.enter f args) w:=tV hf hname hb args w
def b01 (b:Bool):Int:=if b then 1 else 0
def Gb {X:Type} (f:X→Bool × X):Pr X Bool:=aU (doT (fun x=>(b01 (f x).1,(f x).2))) (fun n s=>some (.ret (n == 1),s))
theorem wK (gf:FuncId) (cap:Array Value) (b:Nat) (r:Bool) (R:World→Prop) (w:World) (hb:w.heap[b]?=some (.cells #[.func (.func gf) #[] cap] 23 (0,0)))
  (he: ∀ w1:World,(callFunc gf cap).run Tryz.prog w1= .ok (.enter gf cap) w1)
  (hc:Calls Tryz.prog gf cap w fun e w2=>e= .returned (.bool r)∧R w2):
  Calls Tryz.prog 193 #[.pointer (some ⟨b,0,none⟩)] w fun e w2=>e= .returned (.int .i64 (b01 r))∧R w2:=by
 have HC:=Am_ hc
 have HE:=Am_ he
 have c0:w.cell? ⟨b,0,none⟩=some (.func (.func gf) #[] cap):=(af hb 0).trans rfl
 clear hc he hb
 go_enter Tryz.func193,Tryz.ntmps193
 go_wp2_with fail
 rw [HE.out,Oper.upon_enter]
 refine HC.out.mono ?_
 rintro e w2 ⟨rfl,hr⟩
 have HR:=Am_ hr
 clear hr HC
 dsimp only
 cases r
 ·go_wp2_with fail
  go_ret
  exact ⟨rfl,HR.out⟩
 ·go_wp2_with fail
  go_ret
  exact ⟨rfl,HR.out⟩
theorem zD {X:Type} {Sh:X→(Nat→Prop)→World→Prop} (S:Shared Sh) (f:X→Bool × X) (tb:Nat) (work:Value) (ok:Nat→Prop) (s:TS X) (w:World) (gf:FuncId) (cap:Array Value) (h:dN Sh tb work ok s w)
  (he: ∀ w1:World,(callFunc gf cap).run Tryz.prog w1= .ok (.enter gf cap) w1)
  (hc: ∀ w1 okS,Moves ok ok w w1→(∀ k,okS k→ok k)→Sh s.sh okS w1→Calls Tryz.prog gf cap w1 fun e w2=>e= .returned (.bool (f s.sh).1)∧ ∃ okS1,Sh (f s.sh).2 okS1 w2∧Moves okS okS1 w1 w2)
  (res:Out Bool × TS X) (hr:Gb f s=some res):
  Calls Tryz.prog 154 #[.pointer (some ⟨tb,0,none⟩),.func (.func gf) #[] cap] w (fQ Sh tb work Ib ok w res):=by
 unfold Gb aU at hr
 cases hd:doT (fun x=>(b01 (f x).1,(f x).2)) s with
 | none=>rw [hd] at hr;cases hr
 | some dres=>
  rw [hd] at hr
  have hmf: ∀ (fn:Fn) (first cap:Array Value) (w:World),(Instr.makeFunc fn first cap).run Tryz.prog w= .ok (.func fn first cap) w:=fun _ _ _ _=>rfl
  have HI:=Am_ h
  have HC:=Am_ hc
  have HE:=Am_ he
  have HD:=Am_ hd
  have HRS:=Am_ hr
  have HB:=Am_ (bU w (.cells #[.func (.func gf) #[] cap] 23))
  have HI1:=Am_ (h.below S (ai (Below.refl _ _) (.cells #[.func (.func gf) #[] cap] 23)))
  have HM:=Am_ ((Moves.refl ok w).alloc (.cells #[.func (.func gf) #[] cap] 23))
  have HN:ak (¬ ok w.heap.size):=⟨fun hk=>by have:=h.lt S _ hk;omega⟩
  clear h hc he hd hr
  go_enter Tryz.func154,Tryz.ntmps154
  go_upto_region 1 with fail
  generalize w.alloc (.cells #[.func (.func gf) #[] cap] 23)=w1 at HB HI1 HM ⊢
  generalize w.heap.size=b at HB HN ⊢
  have c0:w1.cell? ⟨b,0,none⟩=some (.func (.func gf) #[] cap):=(af HB.out 0).trans rfl
  go_wp2_with fail
  refine (qh S (fun x=>(b01 (f x).1,(f x).2)) tb work ok s w1 193 #[.pointer (some ⟨b,0,none⟩)] HI1.out (enters Tryz.func193 (by kernel_rfl) rfl _) (fun w2 okS hm hk hsh=>?hT) dres HD.out).mono ?_
  case hT=>
   refine (wK gf cap b (f s.sh).1 (fun w3=> ∃ okS1,Sh (f s.sh).2 okS1 w3∧Moves okS okS1 w2 w3) w2 ((hm.block b (bD HB.out) HN.out).trans HB.out) HE.out (HC.out w2 okS (HM.out.trans hm) hk hsh)).mono ?_
   rintro e w3 ⟨rfl,okS1,h1,h2⟩
   exact ⟨okS1,rfl,h1,h2⟩
  rintro e w2 ⟨ok1,hm,hrun,hres⟩
  have HM2:=Am_ (HM.out.trans hm)
  have HI2:=Am_ hrun
  clear hm hrun
  obtain ⟨o,t⟩:=dres
  cases o with
  | wait=>
   have hh:=HRS.out
   injection hh with hh
   subst hh
   obtain rfl:e= .panicked dx:=hres
   exact ⟨rfl,⟨⟨ok1,HM2.out,HI2.out,rfl⟩⟩⟩
  | ret n=>
   have hh:=HRS.out
   injection hh with hh
   obtain ⟨v,rfl,rfl⟩: ∃ v,e= .returned v∧v= .int .i64 n:=hres
   have HH:=Am_ hh
   clear hh
   dsimp only
   go_wp2_with fail
   go_ret
   rw [←HH.out]
   exact ⟨⟨ok1,HM2.out,HI2.out,_,rfl,rfl⟩⟩
end Go.Proofs.YtmnjjdeaccgjlaaGreat.Tower
namespace Go.Proofs.YtmnjjdeaccgjlaaGreat.Tower
open Go Go.RowKit Go.Proofs.YtmnjjdeaccgjlaaGreatW.PrintWords Go.Proofs.YtmnjjdeaccgjlaaGreatW.PrintLast Go.Proofs.YtmnjjdeaccgjlaaGreatW.PrintMore Go.Proofs.YtmnjjdeaccgjlaaGreat.Own
def th0:Th:=⟨[],0,false,false,false,[]⟩
structure wD (work:Value) (w:World) (e:Ending) (w1:World):Prop where
 out: ∃ tb,e= .returned (.pointer (some ⟨tb,0,none⟩))∧w.heap.size≤tb∧dA (fun k=>k=tb) tb work th0 w1∧Below w.heap.size w w1
theorem Bt (gf:FuncId) (cap:Array Value) (w:World):
  Calls Tryz.prog 97 #[.func (.func gf) #[] cap] w (wD (.func (.func gf) #[] cap) w):=by
 go_enter Tryz.func97,Tryz.ntmps97
 go_wp2_with fail
 go_ret
 refine ⟨⟨w.heap.size,rfl,Nat.le_refl _,⟨.slice none 0 0,none,0,rfl,?_,bU w _,Kd.fI _ _ _ _ _,Nat.le_refl _,Kd.jD _ _ _⟩,ai (Below.refl _ _) _⟩⟩
 intro k hk
 simp [hk]
theorem Bv {ok:Nat→Prop} {tb:Nat} {work:Value} {th:Th} (w:World) (h:dA ok tb work th w) (hd:th.done=true) (hl:th.out.length<1000000):
  Calls Tryz.prog 62 #[.pointer (some ⟨tb,0,none⟩)] w fun e w1=> ∃ v,e= .returned v∧(Kd.int .i64).R 2 w1 w.heap.size (fun k=>w.heap.size≤k) v th.out∧Below w.heap.size w w1:=by
 obtain ⟨lv,A,c,h⟩:=h
 have c5:w.cell? ⟨tb,5,none⟩=some (.bool true):=(af h.2.2.1 5).trans (by rw [←hd];rfl)
 have hb2:=aC h.2.2.1 (.cells #[] 2)
 have c6:(w.alloc (.cells #[] 2)).cell? ⟨tb,6,none⟩=some (.slice A th.out.length c):=(af hb2 6).trans rfl
 have HE:=Am_ (mM (Kd.int .i64) 2 w w.heap.size (Nat.le_refl _))
 have HB:=Am_ (ai (Below.refl w.heap.size w) (.cells #[] 2))
 have HC:=Am_ (Kd.bO (Kd.gu h.2.2.2.2.2) (ai (Below.refl _ _) (.cells #[] 2)))
 clear h hd hb2
 go_enter Tryz.func62,Tryz.ntmps62
 go_wp2_with (first | ((with_reducible refine bW (b:= .append) (xs:= #[.tmp 12,.tmp 16]) rfl ?_);at_builtin;refine Kd.fM (Kd.int .i64) (w0:=w) w.heap.size rfl (.tmp 12) (.tmp 16) 22 2 (.int .i64 0) 8 rfl Tryz.underlying22 nD rfl (by decide) (by omega) (.slice (some ⟨w.heap.size,0,none⟩) 0 0) [] th.out A th.out.length c (fun k=>w.heap.size≤k) (fun _=>False) rfl rfl HE.out HC.out (fun _ _ h=>h) (fun _ hk=>hk.elim) (fun k hk=>by simp at hk;omega) HB.out (by simp) (by simp;omega) ?_;intro v5 w5 ho hb5 hg hat;have HO:=Am_ ho;have HB5:=Am_ hb5;clear ho hb5 hg hat HE HB HC))
 go_ret
 exact ⟨_,rfl,HO.out,HB5.out⟩
structure Ar.Good (a:Ar):Prop where
 most:a.most≤65536
 slots:(a.slots.length:Int)≤a.most
 used:a.used+a.free.length=a.slots.length
 cnt:((a.slots.countP fun s=>s.used:Nat):Int)≤a.used
 small: ∀ (i:Nat) (s:Sl),a.slots[i]?=some s→s.node.Small∧s.ways.length<1000000
theorem Ar.Good.fits {a:Ar} (h:a.Good):a.Fits:=⟨by have:=h.most;have:=h.slots;omega,fun i s hi=>by
 obtain ⟨h1,h2⟩:=h.small i s hi
 exact ⟨h1.pairs,h1.keys,h1.ways,h2⟩⟩
theorem Ar.Good.fault {a:Ar} (h:a.Good):a.fault.Good:=⟨h.most,h.slots,h.used,h.cnt,h.small⟩
theorem Ar.Good.look {a:Ar} (h:a.Good) (r:Int):(a.look r).2.Good:=by
 unfold Ar.look
 split
 ·exact h.fault
 ·split<;>exact h
theorem Ar.Good.lH {a:Ar} (h:a.Good) (r:Int):(a.look r).1.Small:=by
 unfold Ar.look
 split
 ·exact ⟨by simp [nd0],by simp [nd0],by simp [nd0]⟩
 ·split
  ·exact ⟨by simp [nd0],by simp [nd0],by simp [nd0]⟩
  ·rename_i s hs
   exact (h.small _ s hs).1
theorem Ar.Good.way {a:Ar} (h:a.Good) (r i:Int):(a.way r i).2.Good:=by
 unfold Ar.way
 split
 ·exact h.fault
 ·split<;>exact h
structure Ep.Good (x:Ep):Prop where
 few:x.said.length≤64
structure Tb.Good (t:Tb):Prop where
 most:t.most≤65536
 len:(t.l.length:Int)≤t.most
 small: ∀ (i:Nat) (e:En),t.l[i]?=some e→e.rc.nodes.length<1000000∧e.rc.infos.length<1000000
structure Ws.Good (x:Ws):Prop where
 ar:x.ar.Good
 ep:x.ep.Good
 tb:x.tb.Good
def shW (p:Nat) (x:Ws) (ok:Nat→Prop) (w:World):Prop:=pQ p x ok w∧x.Good
theorem aX (p:Nat):Shared (shW p) where
 step:=fun h hs hm=>⟨(gQ p).step h.1 hs hm,h.2⟩
 lt:=fun h=>(gQ p).lt h.1
theorem dN.direct {X:Type} {Sh:X→(Nat→Prop)→World→Prop} {tb:Nat} {work:Value} {ok:Nat→Prop} {s:TS X} {w:World} (h:dN Sh tb work ok s w):
  ∃ okS,(∀ k,okS k→ok k)∧Sh s.sh okS w∧ ∀ x1 okS1 w1,Sh x1 okS1 w1→Moves okS okS1 w w1→ ∃ ok1,dN Sh tb work ok1 { s with sh:=x1 } w1∧Moves ok ok1 w w1∧ ∀ k,ok1 k→ok k∨okS1 k:=by
 obtain ⟨okT,okS,h1,h2,h3,h4⟩:=h.out
 refine ⟨okS,fun k hk=>(h1 k).2 (.inr hk),h4,fun x1 okS1 w1 hs hm=>⟨fun k=>okT k∨okS1 k,⟨h.le,h.short,okT,okS1,fun _=>Iff.rfl,fun k hk hk1=>?_,?_,hs⟩,?_,fun k hk=>hk.imp (fun h5=>(h1 k).2 (.inl h5)) id⟩⟩
 ·exact (hm.fresh k hk1).elim (h2 k hk) (fun h5=>by have:=h3.lt k hk;omega)
 ·exact h3.step hm.size (fun k hk hlt=>hm.block k hlt (fun h5=>h2 k hk h5))
 ·exact ⟨hm.os,hm.tape,hm.output,hm.size,fun k hk hn=>hm.block k hk (fun h5=>hn ((h1 k).2 (.inr h5))),fun k hk=>hk.elim (fun h5=> .inl ((h1 k).2 (.inl h5))) (fun h5=>(hm.fresh k h5).imp (fun h6=>(h1 k).2 (.inr h6)) id)⟩
abbrev kNd:Kd Nd:=Kd.iso (Kd.pair Kd.bool (Kd.pair Kd.bool (Kd.pair (Kd.slice 121 dw) (Kd.pair (Kd.slice 2 (Kd.int .i64)) (Kd.slice 45 (Kd.int .i64)))))) (fun n=>(n.inner,n.tagged,n.pairs,n.keys,n.ways))
structure Stp where
 ref:Int
 node:Nd
 way:Int
abbrev oG:Kd Stp:=Kd.iso (Kd.pair (Kd.int .i64) (Kd.pair kNd (Kd.int .i64))) (fun s=>(s.ref,s.node,s.way))
theorem xK {w:World} {base:Nat} {ok:Nat→Prop} {n:Nd} {p k y:Value} (hp:dw.R 121 w base ok p n.pairs) (hk:(Kd.int .i64).R 2 w base ok k n.keys) (hy:(Kd.int .i64).R 45 w base ok y n.ways):kNd.M w base ok n [.bool n.inner,.bool n.tagged,p,k,y]:=
 ⟨[.bool n.inner],[.bool n.tagged,p,k,y],rfl,rfl,[.bool n.tagged],[p,k,y],rfl,rfl,[p],[k,y],rfl,⟨p,rfl,hp⟩,[k],[y],rfl,⟨k,rfl,hk⟩,⟨y,rfl,hy⟩⟩
theorem Gi {w:World} {base:Nat} {ok:Nat→Prop} {s:Stp} {cs:List Value} (h:kNd.M w base ok s.node cs):oG.M w base ok s (.int .i64 s.ref::(cs++ [.int .i64 s.way])):=
 ⟨[.int .i64 s.ref],cs++ [.int .i64 s.way],rfl,rfl,cs,[.int .i64 s.way],rfl,h,rfl⟩
def Eg (r:Int):Pr Ws Nd:=fun s=>some (.ret (s.sh.ar.look r).1,{ s with sh:= { s.sh with ar:=(s.sh.ar.look r).2 } })
def JI (r i:Int):Pr Ws Int:=doT (fun x=>((x.ar.way r i).1,{ x with ar:=(x.ar.way r i).2 }))
def mr (n:Nd) (key:Int):Int:=if n.inner then CG n.keys n.ways.length key else 0
def rT (key:Int):Nat→Int→List Stp→Pr Ws (List Stp)
 | 0,_,_=>fun _=>none
 | f+1,r,acc=>aU (Eg r) fun n=>
  if n.inner=false then fun s=>some (.ret (acc++ [⟨r,n,mr n key⟩]),s)
  else aU (JI r (mr n key)) fun r1=>if r1=0 then fun s=>some (.ret (acc++ [⟨r,n,mr n key⟩]),s) else rT key f r1 (acc++ [⟨r,n,mr n key⟩])
def FW:Bool × List (List Nat × List Nat):=(true,[([],[]),([0],[0]),([1],[1]),([2],[2]),([3],[3]),([],[]),([5],[5]),([],[]),([4,6,7],[4,6,7]),([8,8,0,1,2,3,4,5,6,7,8],[8])])
def Ka:List Nat:= [0,1,3,7,15,0,32,0,255,511]
theorem EY:fq .any (opsOf Tryz.f138 1)=FW:=by kernel_rfl
theorem zX:bA FW.2 Ka=true:=by kernel_rfl
theorem uK (p:Nat) (x:Ws) (r i:Int) (w:World) (okS:Nat→Prop) (bt bs bi:Nat) (h:shW p x okS w)
  (ht:w.cell? ⟨bt,1,none⟩=some (.pointer (some ⟨p,0,none⟩))) (hs:w.cell? ⟨bs,0,none⟩=some (.int .i64 r)) (hi:w.cell? ⟨bi,0,none⟩=some (.int .i64 i)):
  Calls Tryz.prog 138 #[.pointer (some ⟨bt,0,none⟩),.pointer (some ⟨bs,0,none⟩),.pointer (some ⟨bi,0,none⟩)] w fun e w2=> ∃ okS1,e= .returned (.int .i64 (x.ar.way r i).1)∧shW p { x with ar:=(x.ar.way r i).2 } okS1 w2∧Moves okS okS1 w w2:=by
 obtain ⟨⟨okA,okR,okE,pA,pR,pE,h⟩,hg⟩:=h
 have HW:=Am_ h
 have HG:=Am_ hg
 have hp:=(af h.box 0).trans (rfl:_=some (Value.pointer (some ⟨pA,0,none⟩)))
 have HC:=Am_ (And.intro ht (And.intro hp (And.intro hs hi)))
 clear h hg ht hs hi hp
 go_enter Tryz.func138,Tryz.ntmps138
 go_upto_region 1 with fail
 refine bG (n:=10) (S:=fun w'=>w'.cell? ⟨bt,1,none⟩=some (.pointer (some ⟨p,0,none⟩))∧w'.cell? ⟨p,0,none⟩=some (.pointer (some ⟨pA,0,none⟩))∧w'.cell? ⟨bs,0,none⟩=some (.int .i64 r)∧w'.cell? ⟨bi,0,none⟩=some (.int .i64 i)) (ds:= [8]) (by kernel_rfl) rfl EY zX HC.out (fun hHeld HT_ HW_=>?_)
 have HW:=Am_ (HW.out.step (w1:=w.drew) (Nat.le_refl _) (fun _ _ _=>rfl))
 have HM:=Am_ ((Moves.refl okS w).drew)
 clear HC
 generalize World.drew _=w1 at HW HM hHeld ⊢
 refine eO [(0,some 4),(1,some 5),(2,some 6),(3,some 7),(4,some 8),(5,some 9),(6,some 10),(7,some 11)] ?_
 (refine dZ (v:=?_) (a':=?_) HT_ (by kernel_rfl) rfl rfl (fun _ _ _ h=>h) (Or.inl ⟨by rfl,?_⟩) ?_ ?_;rotate_left;(intro w';go_simp;with_reducible rfl);rotate_left;(simp only [Act.put,p1_,p2_,p3_,ax,ay];rfl))
 iterate 7 (refine iW (v:=?_) (a':=?_) HT_ HW_ (by kernel_rfl) rfl rfl (fun _ _ _ h=>h) hHeld (Or.inl ⟨by rfl,?_⟩) ?_ ?_;rotate_left;(rintro w' ⟨s0,s1,s2,s3⟩;go_simp;with_reducible rfl);rotate_left;(simp only [Act.put,p1_,p2_,p3_,ax,ay];rfl))
 refine aZ ?_
 refine bP (i:=8) (some 12) HT_ (by kernel_rfl) rfl rfl (by decide) (fun K_ hK=>?_)
 refine call_ 74 #[.pointer (some ⟨pA,0,none⟩),.int .i64 r,.int .i64 i] (by rfl) rfl ?hrun8 ?_
 (case hrun8=>first | (go_simp;done) | (go_simp;exact enters Tryz.func74 (by kernel_rfl) rfl _ _))
 refine (oo r i _ HW.out.ar HG.out.ar.fits.slots).mono ?_
 rintro e w2 ⟨rfl,hA,hM⟩
 have A2:=Am_ hA
 have M2:=Am_ hM
 clear hA hM
 refine ⟨_,rfl,?_⟩
 refine hK.out _ _ ?_
 clear hK K_
 refine bK (a':=?_) ?_ ?_
 rotate_left; · show Act.put _ (some 12) _=_;simp only [Act.put,p1_,p2_,p3_,ax,ay];rfl
 refine eO [(9,some 3)] ?_
 (refine dZ (v:=?_) (a':=?_) HT_ (by kernel_rfl) rfl rfl (fun _ _ _ h=>h) (Or.inl ⟨by rfl,?_⟩) ?_ ?_;rotate_left;(intro w';go_simp;with_reducible rfl);rotate_left;(simp only [Act.put,p1_,p2_,p3_,ax,ay];rfl))
 refine aZ ?_
 refine dD (bI HT_.out (by kernel_rfl)) ?_
 go_wp2_with fail
 go_ret
 exact ⟨_,rfl,⟨⟨_,_,_,_,_,_,(HW.out.cK A2.out M2.out).1⟩,⟨HG.out.ar.way r i,HG.out.ep,HG.out.tb⟩⟩,HM.out.trans (HW.out.cK A2.out M2.out).2⟩
def eP (tb p:Nat) (me:Int):Value:= .agg #[.pointer (some ⟨tb,0,none⟩),.pointer (some ⟨p,0,none⟩),.int .i64 me]
def fC (tb p:Nat) (me:Int):Obj:= .cells #[.pointer (some ⟨tb,0,none⟩),.pointer (some ⟨p,0,none⟩),.int .i64 me] 114 (0,0)
theorem rO {p tb:Nat} {work:Value} {ok:Nat→Prop} {s:TS Ws} {w:World} (h:dN (shW p) tb work ok s w) (r:Int):
  ∃ pA,w.cell? ⟨p,0,none⟩=some (.pointer (some ⟨pA,0,none⟩))∧w.cell? ⟨p,5,none⟩=some (.int .i64 s.sh.entry)∧(s.sh.ar.look r).1.Small∧Calls Tryz.prog 126 #[.pointer (some ⟨pA,0,none⟩),.int .i64 r] w fun e w1=> ∃ v ok1,e= .returned v∧CX w.heap.size (s.sh.ar.look r).1 v w1∧dN (shW p) tb work ok1 { s with sh:= { s.sh with ar:=(s.sh.ar.look r).2 } } w1∧Moves ok ok1 w w1∧ ∀ k,ok1 k→ok k:=by
 obtain ⟨okS,hk,⟨⟨okA,okR,okE,pA,pR,pE,hw⟩,hg⟩,hd⟩:=h.direct
 refine ⟨pA,(af hw.box 0).trans rfl,(af hw.box 5).trans rfl,hg.ar.lH r,(lG r w hw.ar hg.ar.fits).mono ?_⟩
 rintro e w1 ⟨⟨v,rfl,hv⟩,ha,hm⟩
 obtain ⟨h1,h2⟩:=hw.cK ha hm
 obtain ⟨ok1,h3,h4,h5⟩:=hd _ _ w1 ⟨⟨_,_,_,_,_,_,h1⟩,⟨hg.ar.look r,hg.ep,hg.tb⟩⟩ h2
 exact ⟨v,ok1,rfl,hv,h3,h4,fun k hk1=>(h5 k hk1).elim id (fun h6=>hk k ((hw.ok k).2 h6))⟩
def zx (N:Nat) (l:List Stp) (ok:Nat→Prop) (v:Value) (w:World):Prop:=oG.R 159 w N (fun k=> ¬ ok k) v l
theorem fQ.imp {X α:Type} {Sh:X→(Nat→Prop)→World→Prop} {tb:Nat} {work:Value} {V V1:α→(Nat→Prop)→Value→World→Prop} {ok:Nat→Prop} {w:World} {res:Out α × TS X} {e:Ending} {w1:World} (h:fQ Sh tb work V ok w res e w1) (hv: ∀ a k v w,V a k v w→V1 a k v w):fQ Sh tb work V1 ok w res e w1:=by
 obtain ⟨ok1,h1,h2,h3⟩:=h
 refine ⟨ok1,h1,h2,?_⟩
 obtain ⟨o,t⟩:=res
 cases o with
 | ret a=>obtain ⟨v,he,hv1⟩:=h3;exact ⟨v,he,hv _ _ _ _ hv1⟩
 | wait=>exact h3
theorem rF:(Tryz.prog.info? 159).map (fun i=>(i.zero,i.size,i.bytes))=some (some (.agg #[.int .i64 0,.bool false,.bool false,.slice none 0 0,.slice none 0 0,.slice none 0 0,.int .i64 0]),7,96):=by kernel_rfl
structure Fq (p tb:Nat) (work:Value) (me:Int) (bt:Nat) (key:Int) (ok:Nat→Prop) (w:World) (res:Out (List Stp) × TS Ws) (f:Nat) (v5 v6:Value) (wr:World):Prop where
 out: ∃ ok1 s1 acc r,v6= .int .i64 r∧oG.R 159 wr w.heap.size (fun k=> ¬ ok1 k∧k≠bt) v5 acc∧dN (shW p) tb work ok1 s1 wr∧Moves ok ok1 w wr∧wr.heap[bt]?=some (fC tb p me)∧ ¬ ok1 bt∧acc.length+f<900000∧rT key f r acc s1=some res
theorem uL (p tb:Nat) (work:Value) (me key:Int) (ok:Nat→Prop) (s:TS Ws) (w:World) (h:dN (shW p) tb work ok s w) (f:Nat) (hf:f<900000) (res:Out (List Stp) × TS Ws) (hr:rT key f s.sh.entry [] s=some res):
  Calls Tryz.prog 90 #[eP tb p me,.int .i64 key] w (fQ (shW p) tb work (zx w.heap.size) ok w res):=by
 have h1:=h.below (aX p) (ai (Below.refl _ _) (fC tb p me))
 have HN: ¬ ok w.heap.size:=fun hk=>by have:=h.lt (aX p) _ hk;omega
 obtain ⟨pA,c0,c5,_,_⟩:=rO h1 0
 have HP:ak (Fq p tb work me w.heap.size key ok w res f (.slice none 0 0) (.int .i64 s.sh.entry) (w.alloc (fC tb p me))):=⟨⟨ok,s,[],_,rfl,Kd.fI _ _ _ _ _,h1,(Moves.refl ok w).alloc _,bU w _,HN,by simpa using hf,hr⟩⟩
 have hbt:=(af (bU w (fC tb p me)) 1).trans (rfl:_=some (Value.pointer (some ⟨p,0,none⟩)))
 unfold fC at HP hbt c0 c5
 unfold eP
 clear h h1 hr HN
 go_enter Tryz.func90,Tryz.ntmps90
 go_upto_region 2 with fail
 generalize w.alloc (.cells #[.pointer (some ⟨tb,0,none⟩),.pointer (some ⟨p,0,none⟩),.int .i64 me] 114)=w1 at HP hbt c0 c5 ⊢
 generalize hbb:w.heap.size=bt at HP hbt ⊢
 go_wp2_with fail
 clear c0 c5 hbt
 go_loopg [5,6] f (fun g v5 v6 wr=>ak (Fq p tb work me bt key ok w res g v5 v6 wr))
 case atStart=>exact HP
 case round=>
  cases gk with
  | zero=>obtain ⟨ok1,s1,acc,r,_,_,_,_,_,_,_,hr⟩:=hrel.out.out;cases hr
  | succ g=>
  obtain ⟨ok1,s1,acc,r,rfl,hR,hI,hM,hB,hN,hL,hr⟩:=hrel.out.out
  obtain ⟨pA,c0,_,hsm,hlook⟩:=rO hI r
  have HL:=Am_ hlook
  have R0:=Am_ hR
  have I0:=Am_ hI
  have M0:=Am_ hM
  have B0:=Am_ hB
  have N0:=Am_ hN
  have L0:=Am_ hL
  have HR:=Am_ hr
  have cb:=(af hB 1).trans (rfl:_=some (Value.pointer (some ⟨p,0,none⟩)))
  clear hR hI hM hB hN hL hr hrel hlook
  go_upto_region 4 with (go_at_call 126;refine HL.out.mono ?_;rintro e w2 ⟨v2,ok2,rfl,⟨pv,kv,yv,rfl,hp,hk,hy⟩,hI2,hM2,hO2⟩;have O2:=Am_ hO2;obtain ⟨Ap,cp,rfl⟩:=Kd.aJ hp;obtain ⟨Ak,ck,rfl⟩:=Kd.aJ hk;obtain ⟨Ay,cy,rfl⟩:=Kd.aJ hy;have P2:=Am_ hp;have K2:=Am_ hk;have Y2:=Am_ hy;have I2:=Am_ hI2;have M2:=Am_ hM2;clear hp hk hy hI2 hM2 hO2 HL)
  have HS:=Am_ hsm
  clear hsm c0 cb
  have hr1:=HR.out
  unfold rT aU Eg at hr1
  simp only at hr1
  generalize (s1.sh.ar.look r).1=n at P2 K2 Y2 HS hr1 ⊢
  generalize ({ s1 with sh:= { s1.sh with ar:=(s1.sh.ar.look r).2 } }:TS Ws)=s2 at I2 hr1
  have HR1:=Am_ hr1
  obtain ⟨A5,c5,rfl⟩:=Kd.aJ R0.out
  have hlt1: ∀ k,ok2 k→k<w2.heap.size:=I2.out.lt (aX p)
  have hb2:w2.heap[bt]?=some (fC tb p me):=(M2.out.block bt (bD B0.out) N0.out).trans B0.out
  have N2:ak (¬ ok2 bt):=⟨fun h=>(M2.out.fresh bt h).elim N0.out (fun h2=>by have:=bD B0.out;omega)⟩
  have R2:oG.R 159 w2 w.heap.size (fun k=> ¬ ok2 k∧k≠bt∧k≠w2.heap.size∧k<wr.heap.size) (.slice A5 acc.length c5) acc:=Kd.bq (Kd.bQ (Kd.bL R0.out) (fun k hk hlt=>M2.out.block k hlt hk.1.1)) (fun k hk=>⟨fun h=>(M2.out.fresh k h).elim hk.1.1 (fun h2=>by have:=hk.2.2.1;omega),hk.1.2,by have:=hk.2.2.1;have:=M2.out.size;omega,hk.2.2.1⟩)
  have hnd: ∀ k,wr.heap.size≤k∧k<w2.heap.size→(¬ ok2 k∧k≠bt∧k≠w2.heap.size)∧some k≠(Value.slice A5 acc.length c5).ownBlock:=fun k hk=>⟨⟨fun h=>by have:=I0.out.lt (aX p) k (O2.out k h);omega,fun e=>by have:=bD B0.out;omega,by omega⟩,fun e=>by have:=Kd.qP R0.out k e.symm;omega⟩
  have R3:=Am_ (Kd.dL (Kd.bq R2 (fun k hk=>⟨hk.1,hk.2.1,hk.2.2.1⟩):oG.R 159 w2 w.heap.size (fun k=> ¬ ok2 k∧k≠bt∧k≠w2.heap.size) (.slice A5 acc.length c5) acc) (.cells #[.int .i64 r,.bool n.inner,.bool n.tagged,.slice Ap n.pairs.length cp,.slice Ak n.keys.length ck,.slice Ay n.ways.length cy,.int .i64 0] 159))
  have P3:=Am_ (Kd.dL (Kd.eX (Kd.bq (Kd.bL P2.out) (fun k hk=>hnd k ⟨hk.1,hk.2.2.1⟩)) M0.out.size) (.cells #[.int .i64 r,.bool n.inner,.bool n.tagged,.slice Ap n.pairs.length cp,.slice Ak n.keys.length ck,.slice Ay n.ways.length cy,.int .i64 0] 159))
  have K3:=Am_ (Kd.dL (Kd.eX (Kd.bq (Kd.bL K2.out) (fun k hk=>hnd k ⟨hk.1,hk.2.2.1⟩)) M0.out.size) (.cells #[.int .i64 r,.bool n.inner,.bool n.tagged,.slice Ap n.pairs.length cp,.slice Ak n.keys.length ck,.slice Ay n.ways.length cy,.int .i64 0] 159))
  have Y3:=Am_ (Kd.dL (Kd.eX (Kd.bq (Kd.bL Y2.out) (fun k hk=>hnd k ⟨hk.1,hk.2.2.1⟩)) M0.out.size) (.cells #[.int .i64 r,.bool n.inner,.bool n.tagged,.slice Ap n.pairs.length cp,.slice Ak n.keys.length ck,.slice Ay n.ways.length cy,.int .i64 0] 159))
  have I3:=Am_ (I2.out.below (aX p) (ai (Below.refl _ _) (.cells #[.int .i64 r,.bool n.inner,.bool n.tagged,.slice Ap n.pairs.length cp,.slice Ak n.keys.length ck,.slice Ay n.ways.length cy,.int .i64 0] 159)))
  have M3:=Am_ ((M0.out.trans M2.out).alloc (.cells #[.int .i64 r,.bool n.inner,.bool n.tagged,.slice Ap n.pairs.length cp,.slice Ak n.keys.length ck,.slice Ay n.ways.length cy,.int .i64 0] 159))
  have B3:=Am_ (aC hb2 (.cells #[.int .i64 r,.bool n.inner,.bool n.tagged,.slice Ap n.pairs.length cp,.slice Ak n.keys.length ck,.slice Ay n.ways.length cy,.int .i64 0] 159))
  have S3:=Am_ (bU w2 (.cells #[.int .i64 r,.bool n.inner,.bool n.tagged,.slice Ap n.pairs.length cp,.slice Ak n.keys.length ck,.slice Ay n.ways.length cy,.int .i64 0] 159))
  have hs7:ak (¬ ok2 w2.heap.size):=⟨fun h=>by have:=I2.out.lt (aX p) _ h;omega⟩
  have hne:ak (bt≠w2.heap.size):=⟨by have:=bD hb2;omega⟩
  have hsw:ak (w.heap.size≤w2.heap.size):=⟨(M0.out.trans M2.out).size⟩
  clear R2 hnd hlt1 hb2 R0 I0 M0 B0 N0 P2 K2 Y2 I2 M2 O2 hr1 HR
  generalize w2.alloc (.cells #[.int .i64 r,.bool n.inner,.bool n.tagged,.slice Ap n.pairs.length cp,.slice Ak n.keys.length ck,.slice Ay n.ways.length cy,.int .i64 0] 159)=w3 at R3 P3 K3 Y3 I3 M3 B3 S3 ⊢
  generalize w2.heap.size=b7 at R3 P3 K3 Y3 S3 hs7 hne hsw ⊢
  have k1:=(af S3.out 1).trans (rfl:_=some (Value.bool n.inner))
  have HH:=HR1.out
  clear HR1
  cases hin:n.inner with
  | false=>
   rw [hin] at k1
   rw [if_pos hin] at HH
   injection HH with HH
   have HRES:=Am_ HH
   have HIN:=Am_ hin
   clear HH
   have k0:=(af S3.out 0).trans (rfl:_=some (Value.int .i64 r))
   have k2:=(af S3.out 2).trans (rfl:_=some (Value.bool n.tagged))
   have k3:=(af S3.out 3).trans (rfl:_=some (Value.slice Ap n.pairs.length cp))
   have k4:=(af S3.out 4).trans (rfl:_=some (Value.slice Ak n.keys.length ck))
   have k5:=(af S3.out 5).trans (rfl:_=some (Value.slice Ay n.ways.length cy))
   have k6:=(af S3.out 6).trans (rfl:_=some (Value.int .i64 0))
   have E3:ak (oG.M w3 w.heap.size (fun k=>(¬ ok2 k∧k≠bt∧k≠b7)∧some k≠(Value.slice A5 acc.length c5).ownBlock) ⟨r,n,0⟩ [.int .i64 r,.bool false,.bool n.tagged,.slice Ap n.pairs.length cp,.slice Ak n.keys.length ck,.slice Ay n.ways.length cy,.int .i64 0]):=⟨by rw [←HIN.out];exact Gi (s:=⟨r,n,0⟩) (xK P3.out K3.out Y3.out)⟩
   clear hin
   go_upto_region 7 with ((with_reducible refine bW (b:= .append) (xs:= #[.tmp 32,.tmp 34]) rfl ?_);at_builtin;refine Kd.iy oG (w0:=w3) w.heap.size rfl (.tmp 32) (.tmp 34) 151 159 _ 96 rfl Tryz.underlying151 rF rfl (by decide) (by decide) (.slice A5 acc.length c5) acc ⟨r,n,0⟩ _ (fun k=>(¬ ok2 k∧k≠bt∧k≠b7)) (fun k=>(¬ ok2 k∧k≠bt∧k≠b7)∧some k≠(Value.slice A5 acc.length c5).ownBlock) rfl rfl E3.out (fun _ hk=>hk) (fun k hk=>⟨fun h=>by have:=I3.out.lt (aX p) k h;omega,fun h=>by have:=bD B3.out;omega,fun h=>by have:=bD S3.out;omega⟩) R3.out (Below.refl _ _) M3.out.size (by have:=L0.out;omega) ?_;intro v5 w5 ho hb5 hg hat;obtain ⟨A6,c6,rfl⟩:=Kd.aJ ho;have m0_:=Am_ ho;have m1_:=Am_ hg;clear ho hb5 hg hat)
   have hob: ∀ k,ok2 k→some k≠(Value.slice A5 acc.length c5).ownBlock:=fun k hk e=>(R3.out.1 k e.symm).1 hk
   have I5:=Am_ (I3.out.step (aX p) m1_.out.size (fun k hk hlt=>m1_.out.block k hlt (hob k hk)))
   have M5:=Am_ (M3.out.grown m1_.out (fun k hk=> .inr (Kd.iQ R3.out k hk)))
   have S5:=Am_ (bJ S3.out m1_.out (fun e=>(R3.out.1 b7 e.symm).2.2 rfl))
   clear k0 k1 k2 k3 k4 k5 k6 hob
   have k1:=(af S5.out 1).trans (rfl:_=some (Value.bool n.inner))
   rw [HIN.out] at k1
   go_wp2_with fail
   go_ret
   rw [←HRES.out]
   have hw0:mr n key=0:=by simp [mr,HIN.out]
   rw [hw0]
   have hlen:(acc++ [(⟨r,n,0⟩:Stp)]).length=acc.length+1:=by simp
   have h0:=m0_.out
   rw [hlen] at h0
   exact ⟨⟨ok2,M5.out,I5.out,_,rfl,Kd.eX (Kd.bq h0 (fun k hk=>hk.1)) (Nat.le_of_eq hbb.symm)⟩⟩
  | true=>
   rw [hin] at k1
   rw [if_neg (by rw [hin];decide)] at HH
   have HIN:=Am_ hin
   have hwy:mr n key=CG n.keys n.ways.length key:=by simp [mr,hin]
   rw [hwy] at HH
   have HRES:=Am_ HH
   clear HH hwy hin
   have k4:=(af S3.out 4).trans (rfl:_=some (Value.slice Ak n.keys.length ck))
   have k5:=(af S3.out 5).trans (rfl:_=some (Value.slice Ay n.ways.length cy))
   have hkc:=Am_ (Kd.bM K3.out).2.2
   go_upto_region 6 with (go_at_call 136;refine (Be Ak Ay ck n.ways.length cy n.keys key _ hkc.out HS.out.keys HS.out.ways).mono ?_;rintro e w4 ⟨rfl,hb4⟩;have k6:=(af (bF S3.out hb4) 6).trans (rfl:_=some (Value.int .i64 0));have z6:=ah (bF S3.out hb4) 6;have X4:=Am_ hb4;clear hb4)
   generalize hwyv:CG n.keys n.ways.length key=wy at HRES ⊢
   have hob7: ∀ k,ok2 k→k≠b7:=fun k hk e=>hs7.out (e▸hk)
   have R5:=Am_ (Kd.bV (Kd.dU R3.out X4.out) (p:=⟨b7,6,none⟩) (fun k hk=>hk.2.2) (.int .i64 wy))
   have P5:=Am_ (Kd.bV (Kd.dU P3.out X4.out) (p:=⟨b7,6,none⟩) (fun k hk=>hk.1.2.2) (.int .i64 wy))
   have K5:=Am_ (Kd.bV (Kd.dU K3.out X4.out) (p:=⟨b7,6,none⟩) (fun k hk=>hk.1.2.2) (.int .i64 wy))
   have Y5:=Am_ (Kd.bV (Kd.dU Y3.out X4.out) (p:=⟨b7,6,none⟩) (fun k hk=>hk.1.2.2) (.int .i64 wy))
   have I5:=Am_ ((I3.out.below (aX p) X4.out).far (aX p) (p:=⟨b7,6,none⟩) hs7.out (.int .i64 wy))
   have M5:=Am_ ((M3.out.below X4.out).set (p:=⟨b7,6,none⟩) (.inr hsw.out) (.int .i64 wy))
   have B5:=Am_ (cO (bF B3.out X4.out) (p:=⟨b7,6,none⟩) hne.out (.int .i64 wy))
   have S5:=Am_ (bH (bF S3.out X4.out) 6 (.int .i64 wy))
   clear R3 P3 K3 Y3 I3 M3 B3 S3 k1 k4 k5 k6 z6 hkc hob7
   generalize w4.setCell ⟨b7,6,none⟩ (.int .i64 wy)=w5 at R5 P5 K5 Y5 I5 M5 B5 S5 ⊢
   have k0:=(af S5.out 0).trans (rfl:_=some (Value.int .i64 r))
   have k1:=(af S5.out 1).trans (rfl:_=some (Value.bool n.inner))
   rw [HIN.out] at k1
   have k2:=(af S5.out 2).trans (rfl:_=some (Value.bool n.tagged))
   have k3:=(af S5.out 3).trans (rfl:_=some (Value.slice Ap n.pairs.length cp))
   have k4:=(af S5.out 4).trans (rfl:_=some (Value.slice Ak n.keys.length ck))
   have k5:=(af S5.out 5).trans (rfl:_=some (Value.slice Ay n.ways.length cy))
   have k6:=(af S5.out 6).trans (rfl:_=some (Value.int .i64 wy))
   have E5:ak (oG.M w5 w.heap.size (fun k=>(¬ ok2 k∧k≠bt∧k≠b7)∧some k≠(Value.slice A5 acc.length c5).ownBlock) ⟨r,n,wy⟩ [.int .i64 r,.bool true,.bool n.tagged,.slice Ap n.pairs.length cp,.slice Ak n.keys.length ck,.slice Ay n.ways.length cy,.int .i64 wy]):=⟨by rw [←HIN.out];exact Gi (s:=⟨r,n,wy⟩) (xK P5.out K5.out Y5.out)⟩
   go_upto_region 7 with ((with_reducible refine bW (b:= .append) (xs:= #[.tmp 32,.tmp 34]) rfl ?_);at_builtin;refine Kd.iy oG (w0:=w5) w.heap.size rfl (.tmp 32) (.tmp 34) 151 159 _ 96 rfl Tryz.underlying151 rF rfl (by decide) (by decide) (.slice A5 acc.length c5) acc ⟨r,n,wy⟩ _ (fun k=>(¬ ok2 k∧k≠bt∧k≠b7)) (fun k=>(¬ ok2 k∧k≠bt∧k≠b7)∧some k≠(Value.slice A5 acc.length c5).ownBlock) rfl rfl E5.out (fun _ hk=>hk) (fun k hk=>⟨fun h=>by have:=I5.out.lt (aX p) k h;omega,fun h=>by have:=bD B5.out;omega,fun h=>by have:=bD S5.out;omega⟩) R5.out (Below.refl _ _) M5.out.size (by have:=L0.out;omega) ?_;intro v5 w6 ho hb5 hg hat;obtain ⟨A6,c6,rfl⟩:=Kd.aJ ho;have m0_:=Am_ ho;have m1_:=Am_ hg;clear ho hb5 hg hat)
   have hob: ∀ k,ok2 k→some k≠(Value.slice A5 acc.length c5).ownBlock:=fun k hk e=>(R5.out.1 k e.symm).1 hk
   have O6:=Am_ m0_.out
   have I6:=Am_ (I5.out.step (aX p) m1_.out.size (fun k hk hlt=>m1_.out.block k hlt (hob k hk)))
   have M6:=Am_ (M5.out.grown m1_.out (fun k hk=> .inr (Kd.iQ R5.out k hk)))
   have S6:=Am_ (bJ S5.out m1_.out (fun e=>(R5.out.1 b7 e.symm).2.2 rfl))
   have B6:=Am_ (bJ B5.out m1_.out (fun e=>(R5.out.1 bt e.symm).2.1 rfl))
   clear k0 k1 k2 k3 k4 k5 k6 hob R5 P5 K5 Y5 I5 M5 B5 S5 E5 m0_ m1_
   have k1:=(af S6.out 1).trans (rfl:_=some (Value.bool n.inner))
   rw [HIN.out] at k1
   have k6:=(af S6.out 6).trans (rfl:_=some (Value.int .i64 wy))
   go_upto_region 10 with fail
   have O8:=Am_ (Kd.dL (Kd.bL O6.out) (.cells #[.int .i64 wy] 3))
   have I8:=Am_ (I6.out.below (aX p) (ai (Below.refl _ _) (.cells #[.int .i64 wy] 3)))
   have M8:=Am_ (M6.out.alloc (.cells #[.int .i64 wy] 3))
   have S8:=Am_ (aC S6.out (.cells #[.int .i64 wy] 3))
   have B8:=Am_ (aC B6.out (.cells #[.int .i64 wy] 3))
   have W8:=Am_ (bU w6 (.cells #[.int .i64 wy] 3))
   have N8:ak (¬ ok2 w6.heap.size):=⟨fun h=>by have:=I6.out.lt (aX p) _ h;omega⟩
   clear O6 I6 M6 S6 B6 k1 k6
   generalize w6.alloc (.cells #[.int .i64 wy] 3)=w8 at O8 I8 M8 S8 B8 W8 ⊢
   generalize w6.heap.size=b8 at O8 W8 N8 ⊢
   have c0:=(af B8.out 0).trans (rfl:_=some (Value.pointer (some ⟨tb,0,none⟩)))
   have hmf: ∀ (fn:Fn) (first cap:Array Value) (w:World),(Instr.makeFunc fn first cap).run Tryz.prog w= .ok (.func fn first cap) w:=fun _ _ _ _=>rfl
   go_wp2_with fail
   have HH:=HRES.out
   cases hd:JI r wy s2 with
   | none=>rw [hd] at HH;cases HH
   | some dres=>
    rw [hd] at HH
    have HRES2:=Am_ HH
    have HD:=Am_ hd
    clear HH HRES hd
    refine (qh (aX p) (fun x=>((x.ar.way r wy).1,{ x with ar:=(x.ar.way r wy).2 })) tb work ok2 s2 w8 138 #[.pointer (some ⟨bt,0,none⟩),.pointer (some ⟨b7,0,none⟩),.pointer (some ⟨b8,0,none⟩)] I8.out (enters Tryz.func138 (by kernel_rfl) rfl _) (fun w9 okS hm hk hsh=>?hT) dres HD.out).mono ?_
    case hT=>
     have h1:=(af ((hm.block bt (bD B8.out) N2.out).trans B8.out) 1).trans (rfl:_=some (Value.pointer (some ⟨p,0,none⟩)))
     have h2:=(af ((hm.block b7 (bD S8.out) hs7.out).trans S8.out) 0).trans (rfl:_=some (Value.int .i64 r))
     have h3:=(af ((hm.block b8 (bD W8.out) N8.out).trans W8.out) 0).trans (rfl:_=some (Value.int .i64 wy))
     exact uK p s2.sh r wy w9 okS bt b7 b8 hsh h1 h2 h3
    rintro e w9 ⟨ok3,hm3,hi3,hres⟩
    have M9:=Am_ (M8.out.trans hm3)
    have I9:=Am_ hi3
    have O9:=Am_ (Kd.bq (Kd.bQ (Kd.bL O8.out) (fun k hk hlt=>hm3.block k hlt hk.1.1.1)) (fun k hk=>(⟨fun h=>(hm3.fresh k h).elim hk.1.1.1 (fun h2=>by have:=hk.2.2.1;omega),hk.1.1.2.1⟩: ¬ ok3 k∧k≠bt)))
    have B9:=Am_ ((hm3.block bt (bD B8.out) N2.out).trans B8.out)
    have N9:ak (¬ ok3 bt):=⟨fun h=>(hm3.fresh bt h).elim N2.out (fun h2=>by have:=bD B8.out;omega)⟩
    clear hm3 hi3 O8 I8 M8 S8 B8 W8 N8 c0
    obtain ⟨o,t9⟩:=dres
    cases o with
    | wait=>
     have hh:=HRES2.out
     injection hh with hh
     subst hh
     obtain rfl:e= .panicked dx:=hres
     exact ⟨rfl,⟨⟨ok3,M9.out,I9.out,rfl⟩⟩⟩
    | ret r1=>
     obtain ⟨v,rfl,rfl⟩: ∃ v,e= .returned v∧v= .int .i64 r1:=hres
     have hh:=HRES2.out
     simp only at hh
     have HH:=Am_ hh
     clear hh HRES2
     dsimp only
     have hlen:(acc++ [(⟨r,n,wy⟩:Stp)]).length=acc.length+1:=by simp
     rw [hlen] at O9
     by_cases hr0:r1=0
     ·subst hr0
      go_wp2_with fail
      go_ret
      have hh:=HH.out
      simp only [if_true] at hh
      injection hh with hh
      rw [←hh]
      exact ⟨⟨ok3,M9.out,I9.out,_,rfl,Kd.eX (Kd.bq O9.out (fun k hk=>hk.1)) (Nat.le_of_eq hbb.symm)⟩⟩
     ·have hb:(r1 == 0)=false:=by simpa using hr0
      have HR0:=Am_ hr0
      clear hr0
      go_wp2_with fail
      go_roundg g
      case rel=>
       have hh:=HH.out
       rw [if_neg HR0.out] at hh
       exact ⟨⟨ok3,t9,acc++ [⟨r,n,wy⟩],r1,rfl,O9.out,I9.out,M9.out,B9.out,N9.out,by have:=L0.out;rw [hlen];omega,hh⟩⟩
      case measure=>omega
def wm (n:Nd):Nat:=if n.inner then n.ways.length else n.pairs.length
def leastOf (a:Int) (n:Nd) (root:Bool):Int:=if root then (if n.inner then 2 else 0) else a
def ou (a:Int) (n:Nd) (root:Bool):Int:=if n.tagged then 1 else if (wm n:Int)<leastOf a n root then 2 else 0
theorem Bq (a:Int) (n:Nd) (root:Bool) (Ap Ak Ay:Option Addr) (cp ck cy:Nat) (w:World) (hb1:n.pairs.length<1000000) (hb2:n.ways.length<1000000):
  Calls Tryz.prog 178 #[.int .i64 a,.agg #[.bool n.inner,.bool n.tagged,.slice Ap n.pairs.length cp,.slice Ak n.keys.length ck,.slice Ay n.ways.length cy],.bool root] w fun e w1=>e= .returned (.int .u8 (ou a n root))∧Below w.heap.size w w1:=by
 have HB:=Am_ (ai (Below.refl w.heap.size w) (.cells #[.bool n.inner,.bool n.tagged,.slice Ap n.pairs.length cp,.slice Ak n.keys.length ck,.slice Ay n.ways.length cy] 157))
 cases hi:n.inner
 all_goals cases ht:n.tagged
 all_goals cases root
 all_goals
  rw [hi,ht] at HB
  have hw: ∀ rt,ou a n rt=ou a n rt:=fun _=>rfl
  have HI:=Am_ hi
  have HT:=Am_ ht
  clear hi ht hw
  go_enter Tryz.func178,Tryz.ntmps178
  go_wp2_with fail
 all_goals
  go_ret
  refine ⟨BL ?_,HB.out⟩
  simp only [ou,wm,leastOf,HI.out,HT.out,if_true,Bool.false_eq_true,if_false]<;>first
   | rfl
   | (rw [if_pos (by omega)];done)
   | (rw [if_neg (by omega)];done)
theorem jk {w:World} {s:Stp} {c:List Value} (h:oG.K w s c): ∃ Ap cp Ak ck Ay cy,c= [.int .i64 s.ref,.bool s.node.inner,.bool s.node.tagged,.slice Ap s.node.pairs.length cp,.slice Ak s.node.keys.length ck,.slice Ay s.node.ways.length cy,.int .i64 s.way]:=by
 obtain ⟨_,_,rfl,rfl,_,_,rfl,⟨_,_,rfl,rfl,_,_,rfl,rfl,_,_,rfl,⟨Ap,cp,rfl,_⟩,_,_,rfl,⟨Ak,ck,rfl,_⟩,⟨Ay,cy,rfl,_⟩⟩,rfl⟩:=h
 exact ⟨Ap,cp,Ak,ck,Ay,cy,rfl⟩
structure yN (p tb:Nat) (work:Value) (me:Int) (bt:Nat) (ok:Nat→Prop) (w:World) (ok1:Nat→Prop) (s1:TS Ws) (l:List Stp) (v:Value) (wr:World):Prop where
 run:dN (shW p) tb work ok1 s1 wr
 moves:Moves ok ok1 w wr
 box:wr.heap[bt]?=some (fC tb p me)
 far: ¬ ok1 bt
 row:oG.R 159 wr 0 (fun k=> ¬ ok1 k) v l
theorem yN.below {p tb:Nat} {work:Value} {me:Int} {bt:Nat} {ok:Nat→Prop} {w:World} {ok1:Nat→Prop} {s1:TS Ws} {l:List Stp} {v:Value} {wr w2:World} (h:yN p tb work me bt ok w ok1 s1 l v wr) (hb:Below wr.heap.size wr w2):yN p tb work me bt ok w ok1 s1 l v w2:=
 ⟨h.run.below (aX p) hb,h.moves.below hb,bF h.box hb,h.far,Kd.dU h.row hb⟩
structure Idle {X:Type} (Sh:X→(Nat→Prop)→World→Prop) (tb:Nat) (work:Value) (ok:Nat→Prop) (x:X) (th:Th) (w:World):Prop where
 out: ∃ okT okS,(∀ k,ok k↔okT k∨okS k)∧(∀ k,okT k→ ¬ okS k)∧dA okT tb work th w∧Sh x okS w
section
variable {X:Type} {Sh:X→(Nat→Prop)→World→Prop} {tb:Nat} {work:Value} {ok:Nat→Prop} {x:X} {th:Th} {w w1:World}
theorem Idle.lt (S:Shared Sh) (h:Idle Sh tb work ok x th w): ∀ k,ok k→k<w.heap.size:=fun k hk=>by
 obtain ⟨okT,okS,h1,h2,h3,h4⟩:=h.out
 rcases (h1 k).1 hk with hk | hk
 ·exact h3.lt k hk
 ·exact S.lt h4 k hk
theorem Idle.step (S:Shared Sh) (h:Idle Sh tb work ok x th w) (hs:w.heap.size≤w1.heap.size) (hm: ∀ k,ok k→k<w.heap.size→w1.heap[k]?=w.heap[k]?):Idle Sh tb work ok x th w1:=by
 obtain ⟨okT,okS,h1,h2,h3,h4⟩:=h.out
 exact ⟨okT,okS,h1,h2,h3.step hs (fun k hk=>hm k ((h1 k).2 (.inl hk))),S.step h4 hs (fun k hk=>hm k ((h1 k).2 (.inr hk)))⟩
theorem Idle.below (S:Shared Sh) (h:Idle Sh tb work ok x th w) (hb:Below w.heap.size w w1):Idle Sh tb work ok x th w1:=h.step S hb.size (fun k _ hlt=>hb.block k hlt)
end
def KL (N:Nat) (l:List Int) (ok:Nat→Prop) (v:Value) (w:World):Prop:=(Kd.int .i64).R 2 w N (fun k=> ¬ ok k) v l
theorem nQ {ok ok1 okA okB:Nat→Prop} {w w1:World} (h:Moves ok ok1 w w1) (hA: ∀ k,ok k↔okA k) (hB: ∀ k,ok1 k↔okB k):Moves okA okB w w1:=
 ⟨h.os,h.tape,h.output,h.size,fun k hk hn=>h.block k hk (fun h1=>hn ((hA k).1 h1)),fun k hk=>(h.fresh k ((hB k).2 hk)).imp (hA k).1 id⟩
def Jw (log:List Int) (at_:Int) (spent:Bool):Th:=⟨log,at_,spent,false,false,[]⟩
structure Dh {X:Type} (Sh:X→(Nat→Prop)→World→Prop) (tb:Nat) (work:Value) (ok:Nat→Prop) (res:Out (List Int) × TS X) (w:World) (e:Ending) (w1:World):Prop where
 out: ∃ ok1,Moves ok ok1 w w1∧res.2.log.length<1000000∧
  match res.1 with
  | .ret l=>e= .returned (.bool true)∧Idle Sh tb work ok1 res.2.sh ⟨res.2.log,res.2.at_,res.2.spent,false,true,l⟩ w1
  | .wait=>e= .returned (.bool false)∧Idle Sh tb work ok1 res.2.sh (Jw res.2.log res.2.at_ res.2.spent) w1
theorem BX {X:Type} {Sh:X→(Nat→Prop)→World→Prop} (S:Shared Sh) (tb:Nat) (wf:FuncId) (wc:Array Value) (ok:Nat→Prop) (x:X) (log:List Int) (at_:Int) (spent:Bool) (w:World) (Bx:(Nat→Prop)→World→Prop) (tw:Pr X (List Int))
  (h:Idle Sh tb (.func (.func wf) #[] wc) ok x (Jw log at_ spent) w) (hl:log.length<1000000)
  (hBm: ∀ ok ok1 w w1,Bx ok w→Moves ok ok1 w w1→Bx ok1 w1) (hB:Bx ok w)
  (he: ∀ w1:World,(callFunc wf (#[.pointer (some ⟨tb,0,none⟩)]++wc)).run Tryz.prog w1= .ok (.enter wf (#[.pointer (some ⟨tb,0,none⟩)]++wc)) w1)
  (hw: ∀ ok s w1 res,dN Sh tb (.func (.func wf) #[] wc) ok s w1→Bx ok w1→tw s=some res→Calls Tryz.prog wf (#[.pointer (some ⟨tb,0,none⟩)]++wc) w1 (fQ Sh tb (.func (.func wf) #[] wc) (KL w1.heap.size) ok w1 res))
  (res:Out (List Int) × TS X) (hr:tw ⟨x,log,0,false⟩=some res):
  Calls Tryz.prog 71 #[.pointer (some ⟨tb,0,none⟩)] w (Dh Sh tb (.func (.func wf) #[] wc) ok res w):=by
 obtain ⟨okT,okS,h1,h2,h3,h4⟩:=h.out
 refine (BV okT okS tb wf wc (Jw log at_ spent) w (fun r t ok1 w1=>t=⟨res.2.log,res.2.at_,res.2.spent,true,false,[]⟩∧Sh res.2.sh ok1 w1∧res.2.log.length<1000000∧(match res.1 with | .ret l=>r=some l | .wait=>r=none)) h3 rfl h2 (S.lt h4) (fun r t ok1 w1 w2 hq hs hm=>⟨hq.1,S.step hq.2.1 hs hm,hq.2.2⟩) he (fun w1 hm ht=>?_)).mono ?_
 ·have hmm:Moves ok ok w w1:=fA (ok1:=ok) (okB:=ok) hm (fun k hk=>(h1 k).2 (.inl hk))
  have hrun:dN Sh tb (.func (.func wf) #[] wc) ok ⟨x,log,0,false⟩ w1:=⟨Nat.zero_le _,hl,okT,okS,h1,h2,ht,S.step h4 hm.size (fun k hk hlt=>hm.block k hlt (fun h5=>h2 k h5 hk))⟩
  refine (hw ok _ w1 res hrun (hBm _ _ _ _ hB hmm) hr).mono ?_
  rintro e w2 ⟨ok1,hm2,hr2,hres⟩
  obtain ⟨okT2,okS2,g1,g2,g3,g4⟩:=hr2.out
  refine ⟨⟨(match res.1 with | .ret l=>some l | .wait=>none),_,okT2,okS2,g3,g2,nQ hm2 h1 g1,⟨rfl,g4,hr2.short,?_⟩,S.lt g4,?_⟩⟩
  ·cases res.1<;>rfl
  ·cases hres1:res.1 with
   | ret l=>
    rw [hres1] at hres
    obtain ⟨v,rfl,hv⟩:=hres
    exact .inr ⟨v,l,rfl,rfl,Kd.bq hv (fun k hk=>⟨fun h5=>hk ((g1 k).2 (.inl h5)),fun h5=>hk ((g1 k).2 (.inr h5))⟩)⟩
   | wait=>
    rw [hres1] at hres
    exact .inl ⟨rfl,hres⟩
 ·rintro e w2 ⟨r,th2,okT3,okS3,rfl,ht,hd,hm,⟨rfl,hs,hlg,hrr⟩,hb⟩
  refine ⟨⟨fun k=>okT3 k∨okS3 k,nQ hm (fun k=>(h1 k).symm) (fun _=>Iff.rfl),hlg,?_⟩⟩
  cases hres1:res.1 with
  | ret l=>
   rw [hres1] at hrr
   simp only at hrr
   subst hrr
   exact ⟨rfl,⟨okT3,okS3,fun _=>Iff.rfl,hd,ht,hs⟩⟩
  | wait=>
   rw [hres1] at hrr
   simp only at hrr
   subst hrr
   exact ⟨rfl,⟨okT3,okS3,fun _=>Iff.rfl,hd,ht,hs⟩⟩
end Go.Proofs.YtmnjjdeaccgjlaaGreat.Tower
namespace Go.Proofs.YtmnjjdeaccgjlaaGreat.Tower
open Go Go.RowKit Go.Proofs.YtmnjjdeaccgjlaaGreatW.PrintWords Go.Proofs.YtmnjjdeaccgjlaaGreatW.PrintLast Go.Proofs.YtmnjjdeaccgjlaaGreatW.PrintMore Go.Proofs.YtmnjjdeaccgjlaaGreat.Own
attribute [local go_sem] tX tY tZ nT lq
theorem DI (okT okS:Nat→Prop) (tb:Nat) (work:Value) (th:Th) (w:World) (gf:FuncId) (rv:Value) (Post:Int→(Nat→Prop)→World→Prop) (h:dA okT tb work th w) (hin:th.in_=true) (hat:th.at_=(th.log.length:Int)) (hs:th.spent=false) (hl:th.log.length<1000000)
  (hd: ∀ k,okT k→ ¬ okS k)
  (hP: ∀ n ok1 w1 w2,Post n ok1 w1→w1.heap.size≤w2.heap.size→(∀ k,ok1 k→k<w1.heap.size→w2.heap[k]?=w1.heap[k]?)→Post n ok1 w2)
  (hb: ∀ n ok1 w1,Post n ok1 w1→ ∀ k,ok1 k→k<w1.heap.size)
  (he: ∀ w1:World,(callFunc gf #[rv]).run Tryz.prog w1= .ok (.enter gf #[rv]) w1)
  (hc: ∀ w1,Moves okT okT w w1→Calls Tryz.prog gf #[rv] w1 fun e w2=> ∃ n okS1,e= .returned (.int .i64 n)∧Post n okS1 w2∧Moves okS okS1 w1 w2):
  Calls Tryz.prog 137 #[.pointer (some ⟨tb,0,none⟩),.func (.func gf) #[rv] #[]] w fun e w'=> ∃ n okT1 okS1,e= .returned (.int .i64 n)∧dA okT1 tb work { log:=th.log++ [n],at_:=th.at_+1,spent:=true,in_:=true,done:=th.done,out:=th.out } w'∧Post n okS1 w'∧(∀ k,okT1 k→ ¬ okS1 k)∧Moves (fun k=>okT k∨okS k) (fun k=>okT1 k∨okS1 k) w w':=by
 obtain ⟨lv,A,c,h⟩:=h
 obtain ⟨H1,H2,hbx,hR,hcc,ho⟩:=id h
 obtain ⟨Al,cl,rfl⟩:=Kd.aJ hR
 have HI:=Am_ h
 have HC:=Am_ hc
 have HE:=Am_ he
 have HD:=Am_ hd
 have HP:=Am_ hP
 have HBD:=Am_ hb
 have H0:=Am_ H1
 have H2L:=Am_ H2
 have HT:=Am_ hat
 have HIN:=Am_ hin
 have HBX:=Am_ hbx
 have c1:w.cell? ⟨tb,1,none⟩=some (.slice Al th.log.length cl):=(af hbx 1).trans rfl
 have c2:w.cell? ⟨tb,2,none⟩=some (.int .i64 th.at_):=(af hbx 2).trans rfl
 have c3:w.cell? ⟨tb,3,none⟩=some (.bool false):=(af hbx 3).trans (by rw [←hs];rfl)
 have c4:w.cell? ⟨tb,4,none⟩=some (.bool true):=(af hbx 4).trans (by rw [←hin];rfl)
 have f3:=ah hbx 3
 have f4:=ah hbx 4
 have d1:decide (th.at_<(th.log.length:Int))=false:=decide_eq_false (by omega)
 clear h ho hcc H1 H2 hbx hR hin hs hat hd hP hb hc he
 go_enter Tryz.func137,Tryz.ntmps137
 go_wp2_with fail
 go_quiet (fail)
 rename_i nq
 go_wp2_with fail
 have HB1:=Am_ (bH (bH (w:=w.drewN nq) HBX.out 3 (.bool true)) 4 (.bool false))
 have HM1:=Am_ ((((Moves.refl okT w).drewN nq).set (p:=⟨tb,3,none⟩) (.inl H0.out) (.bool true)).set (p:=⟨tb,4,none⟩) (.inl H0.out) (.bool false))
 have HI1:=Am_ (((HI.out.drewN nq).oh true).nu false)
 clear HI HBX c1 c2 c3 c4 f3 f4
 generalize ((w.drewN nq).setCell ⟨tb,3,none⟩ (.bool true)).setCell ⟨tb,4,none⟩ (.bool false)=w1 at HB1 HM1 HI1 ⊢
 rw [HE.out,Oper.upon_enter]
 refine (HC.out w1 HM1.out).mono ?_
 rintro e w2 ⟨n,okS1,rfl,hpost,hmv⟩
 dsimp only
 have htS: ¬ okS tb:=HD.out tb H0.out
 have HB2:=Am_ ((hmv.block tb (bD HB1.out) htS).trans HB1.out)
 have HI2:=Am_ (HI1.out.step hmv.size (fun k hk hlt=>hmv.block k hlt (HD.out k hk)))
 have HM2:ak (Moves (fun k=>okT k∨okS k) (fun k=>okT k∨okS1 k) w w2):=⟨((HM1.out.part (ok:=fun k=>okT k∨okS k) (okB:=okS) (fun _ h=> .inl h) (fun _ h=> .inr h)).trans (hmv.part (okB:=okT) (fun _ h=> .inr h) (fun _ h=> .inl h))).owns (fun k hk=>hk.elim (fun h=> .inl (.inl h)) (fun h=>(hmv.fresh k h).elim (fun h=> .inl (.inr h)) (fun h=> .inr (Nat.le_trans HM1.out.size h))))⟩
 have HPO:=Am_ hpost
 have HD1:ak (∀ k,okT k→ ¬ okS1 k):=⟨fun k hk hk1=>(hmv.fresh k hk1).elim (HD.out k hk) (fun h=>by have:=H2L.out k hk;have:=HM1.out.size;omega)⟩
 have HBL:=Am_ (HBD.out n okS1 w2 hpost)
 have f4:=ah HB2.out 4
 have c4:w2.cell? ⟨tb,4,none⟩=some (.bool false):=(af HB2.out 4).trans rfl
 clear hmv hpost HB1 HM1 HI1
 go_upto_region 11 with fail
 have n0_:=Am_ (HI2.out.nu true)
 have n1_:=Am_ (HM2.out.set (p:=⟨tb,4,none⟩) (.inl (.inl H0.out)) (.bool true))
 have n2_:=Am_ (HP.out n okS1 _ (w2.setCell ⟨tb,4,none⟩ (.bool true)) HPO.out (by simp [World.setCell]) (fun k hk _=>Below.heap_setCell w2 ⟨tb,4,none⟩ (.bool true) k (fun e=>HD1.out k ((show k=tb from e)▸H0.out) hk)))
 have n3_:=Am_ (bH HB2.out 4 (.bool true))
 have n4_:ak (∀ k,okS1 k→k<(w2.setCell ⟨tb,4,none⟩ (.bool true)).heap.size):=⟨fun k hk=>by simpa [World.setCell] using HBL.out k hk⟩
 clear HI2 HM2 HPO HB2 HBL f4 c4
 generalize w2.setCell ⟨tb,4,none⟩ (.bool true)=w3 at n0_ n1_ n2_ n3_ n4_ ⊢
 have c1:w3.cell? ⟨tb,1,none⟩=some (.slice Al th.log.length cl):=(af n3_.out 1).trans rfl
 go_upto_region 12 with (first | ((with_reducible refine bW (b:= .append) (xs:= #[.tmp 68,.tmp 70]) rfl ?_);at_builtin;refine Kd.iy (Kd.int .i64) (w0:=w3) 0 rfl (.tmp 68) (.tmp 70) 22 2 (.int .i64 0) 8 rfl Tryz.underlying22 AZ rfl (by decide) (by omega) (.slice Al th.log.length cl) th.log n [.int .i64 n] (fun k=>(okT k∧k≠tb)∨w3.heap.size≤k) (fun _=>False) rfl (by first | (go_simp;done) | (go_simp;rfl)) ?aP (fun _ hk=>hk.elim) ?aF ?aO ?aB ?aS ?aL ?_;(case aP=>exact rfl);(case aF=>exact fun k hk=> .inr hk);(case aO=>exact Kd.bq n0_.out.2.2.2.1 (fun k hk=> .inl hk));(case aB=>exact Below.refl _ _);(case aS=>exact Nat.zero_le _);(case aL=>have:=hl;omega);intro v5 w5 ho hb5 hg hat;obtain ⟨A5,cc5,rfl⟩:=Kd.aJ ho;have m0_:=Am_ ho;have m1_:=Am_ hg;have m2_:=Am_ hat;have f1:w5.frozen? ⟨tb,1,none⟩=false:=ah (bJ n3_.out hg (fun e=>(n0_.out.2.2.2.1.1 tb e.symm).2 rfl)) 1;have c5:w5.cell? ⟨tb,1,none⟩=some (.slice Al th.log.length cl):=(af (bJ n3_.out hg (fun e=>(n0_.out.2.2.2.1.1 tb e.symm).2 rfl)) 1).trans rfl;clear ho hb5 hg hat))
 have n5_:=Am_ (n0_.out.Bl (Nat.le_refl _) m1_.out m2_.out m0_.out)
 have n6_:ak (Moves (fun k=>okT k∨okS k) (fun k=>okT k∨okS1 k) w (w5.setCell ⟨tb,1,none⟩ (.slice A5 (th.log++ [n]).length cc5))):=⟨(n1_.out.grown m1_.out (fun k hk=> .inl (.inl (n0_.out.2.2.2.1.1 k hk).1))).set (p:=⟨tb,1,none⟩) (.inl (.inl H0.out)) _⟩
 have n7_:=Am_ (HP.out n okS1 w3 (w5.setCell ⟨tb,1,none⟩ (.slice A5 (th.log++ [n]).length cc5)) n2_.out (by simpa [World.setCell] using m1_.out.size) (fun k hk hlt=>(Below.heap_setCell w5 ⟨tb,1,none⟩ _ k (fun e=>HD1.out k ((show k=tb from e)▸H0.out) hk)).trans (m1_.out.block k hlt (fun e=>HD1.out k (n0_.out.2.2.2.1.1 k e.symm).1 hk))))
 have n8_:ak (∀ k,okS1 k→k<w3.heap.size):=n4_
 have el:(th.log++ [n]).length=th.log.length+1:=by simp
 rw [el] at n5_ n6_ n7_
 have n9_:ak (w3.heap.size≤(w5.setCell ⟨tb,1,none⟩ (.slice A5 (th.log.length+1) cc5)).heap.size):=⟨by simpa [World.setCell] using m1_.out.size⟩
 have n10_:ak (w.heap.size≤w3.heap.size):=⟨n1_.out.size⟩
 have n11_:ak ((w5.setCell ⟨tb,1,none⟩ (.slice A5 (th.log.length+1) cc5)).heap.size=w5.heap.size):=⟨by simp [World.setCell]⟩
 clear n0_ n1_ n2_ n3_ n4_ m0_ m1_ m2_ el c1
 generalize w5.setCell ⟨tb,1,none⟩ (.slice A5 (th.log.length+1) cc5)=w6 at n5_ n6_ n7_ n9_ n11_ ⊢
 have c2:w6.cell? ⟨tb,2,none⟩=some (.int .i64 th.at_):=(af n5_.out.2.2.1 2).trans rfl
 have f2:w6.frozen? ⟨tb,2,none⟩=false:=ah n5_.out.2.2.1 2
 have hw1:wrap64 (th.at_+1)=th.at_+1:=by have:=HT.out;unfold wrap64;omega
 go_wp2_with fail
 go_ret
 refine ⟨n,rfl,_,⟨_,_,_,n5_.out.at_set (th.at_+1)⟩,okS1,?_,?_,?_⟩
 ·exact HP.out n okS1 w6 _ n7_.out (by simp [World.setCell]) (fun k hk _=>Below.heap_setCell w6 ⟨tb,2,none⟩ _ k (fun e=>HD1.out k ((show k=tb from e)▸H0.out) hk))
 ·rintro k (hk | hk) hk1
  ·exact HD1.out k hk hk1
  ·have:=n8_.out k hk1
   omega
 ·refine (n6_.out.set (p:=⟨tb,2,none⟩) (.inl (.inl H0.out)) _).owns ?_
  rintro k ((hk | hk) | hk)
  ·exact .inl (.inl hk)
  ·have:=n10_.out
   exact .inr (by omega)
  ·exact n6_.out.fresh k (.inr hk)
theorem Az {X:Type} {Sh:X→(Nat→Prop)→World→Prop} (S:Shared Sh) (f:X→Int × X) (tb:Nat) (work:Value) (ok:Nat→Prop) (s:TS X) (w:World) (gf:FuncId) (rv:Value) (h:dN Sh tb work ok s w)
  (he: ∀ w1:World,(callFunc gf #[rv]).run Tryz.prog w1= .ok (.enter gf #[rv]) w1)
  (hc: ∀ w1 okS,Moves ok ok w w1→(∀ k,okS k→ok k)→Sh s.sh okS w→Sh s.sh okS w1→(∀ k,okS k→k<w.heap.size→w1.heap[k]?=w.heap[k]?)→Calls Tryz.prog gf #[rv] w1 fun e w2=> ∃ okS1,e= .returned (.int .i64 (f s.sh).1)∧Sh (f s.sh).2 okS1 w2∧Moves okS okS1 w1 w2)
  (res:Out Int × TS X) (hr:doT f s=some res):
  Calls Tryz.prog 137 #[.pointer (some ⟨tb,0,none⟩),.func (.func gf) #[rv] #[]] w (fQ Sh tb work FZ ok w res):=by
 have hle:=h.le
 have hsh:=h.short
 obtain ⟨okT,okS,h1,h2,h3,h4⟩:=h.out
 unfold doT at hr
 by_cases ha:s.at_<s.log.length
 ·rw [if_pos ha] at hr
  injection hr with hr
  subst hr
  refine (tT okT tb work _ w _ _ _ h3 rfl (by simp) (by simpa using ha) hsh _ rfl).mono ?_
  rintro e w1 ⟨rfl,ht,hm⟩
  refine ⟨⟨ok,fA (ok1:=ok) (okB:=ok) hm (fun k hk=>(h1 k).2 (.inl hk)),⟨by show s.at_+1≤s.log.length;omega,hsh,okT,okS,h1,h2,?_,S.step h4 hm.size (fun k hk hlt=>hm.block k hlt (fun h5=>h2 k h5 hk))⟩,_,rfl,?_⟩⟩
  ·simpa using ht
  ·simp [FZ]
 ·rw [if_neg ha] at hr
  have hat:s.at_=s.log.length:=by omega
  by_cases hs:s.spent=true
  ·rw [if_pos hs] at hr
   injection hr with hr
   subst hr
   refine (qi okT tb work _ w _ _ _ h3 rfl (by show (s.log.length:Int)≤(s.at_:Int);omega) hs).mono ?_
   rintro e w1 ⟨rfl,ht,hm⟩
   exact ⟨⟨ok,fA (ok1:=ok) (okB:=ok) hm (fun k hk=>(h1 k).2 (.inl hk)),⟨hle,hsh,okT,okS,h1,h2,ht,S.step h4 hm.size (fun k hk hlt=>hm.block k hlt (fun h5=>h2 k h5 hk))⟩,rfl⟩⟩
  ·rw [if_neg hs] at hr
   by_cases hl:999999≤s.log.length
   ·rw [if_pos hl] at hr
    cases hr
   rw [if_neg hl] at hr
   injection hr with hr
   subst hr
   have hlen:(s.log++ [(f s.sh).1]).length<1000000:=by simp;omega
   refine (DI okT okS tb work _ w gf rv (fun n okS1 w1=>n=(f s.sh).1∧Sh (f s.sh).2 okS1 w1) h3 rfl (by show (s.at_:Int)=(s.log.length:Int);omega) (by simpa using hs) hsh h2
    (fun n ok1 w1 w2 hp hsz hm=>⟨hp.1,S.step hp.2 hsz hm⟩) (fun n ok1 w1 hp=>S.lt hp.2) he
    (fun w1 hm=>(hc w1 okS (fA (ok1:=ok) (okB:=ok) hm (fun k hk=>(h1 k).2 (.inl hk))) (fun k hk=>(h1 k).2 (.inr hk)) h4 (S.step h4 hm.size (fun k hk hlt=>hm.block k hlt (fun h5=>h2 k h5 hk))) (fun k hk hlt=>hm.block k hlt (fun h5=>h2 k h5 hk))).mono (fun e w2 hh=>by
     obtain ⟨okS1,rfl,hp,hmv⟩:=hh
     exact ⟨_,okS1,rfl,⟨rfl,hp⟩,hmv⟩))).mono ?_
   rintro e w1 ⟨n,okT1,okS1,rfl,ht,⟨rfl,hp⟩,hd,hm⟩
   refine ⟨⟨fun k=>okT1 k∨okS1 k,⟨hm.os,hm.tape,hm.output,hm.size,fun k hk hn=>hm.block k hk (fun h5=>hn ((h1 k).2 h5)),fun k hk=>(hm.fresh k hk).imp (h1 k).2 id⟩,⟨by simp [hat],hlen,okT1,okS1,fun _=>Iff.rfl,hd,?_,hp⟩,_,rfl,rfl⟩⟩
   simpa using ht
end Go.Proofs.YtmnjjdeaccgjlaaGreat.Tower
namespace Go.Proofs.YtmnjjdeaccgjlaaGreat.Tower
open Go Go.RowKit Go.Proofs.YtmnjjdeaccgjlaaGreatW.PrintWords Go.Proofs.YtmnjjdeaccgjlaaGreatW.PrintLast Go.Proofs.YtmnjjdeaccgjlaaGreatW.PrintMore Go.Proofs.YtmnjjdeaccgjlaaGreat.Own
def Ep.has (x:Ep) (t:Int):Bool:=decide (0≤t) && decide (t<x.said.length)
def Ep.swap (x:Ep) (old:Int):Bool × Ep:=if x.now=old then (true,{ x with now:=wrap64 (x.now+1) }) else (false,x)
def Ep.say (x:Ep) (t n:Int):Ep:=if x.has t then { x with said:=x.said.set t.toNat n } else x
def Ep.nY (x:Ep) (t:Int):Int:=if x.has t then x.said.getD t.toNat 0 else -1
section
variable {ok:Nat→Prop} {p:Nat} {sv lv:Value} {gv:Nat→Value} {ρ:Nat→Nat} {x:Ep} {w:World}
theorem eu.IL (h:eu ok p sv lv gv ρ x w) (n:Int):eu ok p sv lv gv ρ { x with now:=n } (w.setCell ⟨p,0,none⟩ (.int .i64 n)) where
 own:=h.own
 role:=h.role
 lt:=fun k hk=>by simpa [World.setCell] using h.lt k hk
 len:=h.len
 box:=bH h.box 0 _
 said:=Kd.bV h.said (fun k hk e=>by have:=h.role;rw [←show k=p from e,hk.2] at this;omega) _
 row:=Kd.bV h.row (fun k hk e=>by have:=h.role;rw [←show k=p from e,hk.2] at this;omega) _
 limbo:=fun i l hi=>Kd.pW (h.limbo i l hi) (fun k hk e=>by have:=h.role;rw [←show k=p from e,hk.2] at this;omega) _
theorem eu.EB {g n cap:Nat} (h:eu ok p (.slice (some ⟨g,0,none⟩) n cap) lv gv ρ x w) (i:Nat) (hi:i<x.said.length) (v:Int):
  eu ok p (.slice (some ⟨g,0,none⟩) n cap) lv gv ρ { x with said:=x.said.set i v } (w.setCell ⟨g,i,none⟩ (.int .i64 v)):=by
 have hg:=h.said.1 g (by simp [Value.ownBlock])
 have hne: ∀ r,r≠1→ ∀ k,(ok k∧ρ k=r)→k≠g:=fun r hr k hk e=>by rw [e,hg.2] at hk;exact hr hk.2.symm
 have hn:=(Kd.bM h.said).1
 subst hn
 exact {
  own:=h.own
  role:=h.role
  lt:=fun k hk=>by simpa [World.setCell] using h.lt k hk
  len:=by rw [h.len];simp
  box:=cO h.box (p:=⟨g,i,none⟩) (fun e=>by have:=hg.2;rw [←show p=g from e,h.role] at this;cases this) _
  said:=by
   have h2:=(Kd.Ko h.said (i:Int) v).1
   rw [Int.toNat_natCast] at h2
   exact h2
  row:=Kd.bV h.row (hne 2 (by decide)) _
  limbo:=fun j l hj=>Kd.pW (h.limbo j l hj) (hne (3+j) (by omega)) _ }
end
theorem rA {ok:Nat→Prop} {p:Nat} {x:Ep} (t:Int) (w:World) (h:dz ok p x w) (hg:x.Good):
  Calls Tryz.prog 192 #[.pointer (some ⟨p,0,none⟩),.int .i64 t] w fun e w1=>e= .returned (.bool (x.has t))∧w1=w:=by
 obtain ⟨sv,lv,gv,ρ,h⟩:=h
 obtain ⟨A,c,rfl⟩:=Kd.aJ h.said
 have c1:w.cell? ⟨p,1,none⟩=some (.slice A x.said.length c):=(af h.box 1).trans rfl
 have hb:=hg.few
 have hh:x.has t=(decide (0≤t) && decide (t<x.said.length)):=rfl
 rw [hh]
 clear h hg hh
 by_cases h0:0≤t
 ·have d1:decide (t≥0)=true:=decide_eq_true h0
  have d1':decide (0≤t)=true:=d1
  by_cases h1:t<(x.said.length:Int)
  ·have d2:decide (t<(x.said.length:Int))=true:=decide_eq_true h1
   rw [d1',d2]
   clear h0 h1
   go_enter Tryz.func192,Tryz.ntmps192
   go_wp2_with fail
   go_ret
   exact ⟨rfl,rfl⟩
  ·have d2:decide (t<(x.said.length:Int))=false:=decide_eq_false h1
   rw [d1',d2]
   clear h0 h1
   go_enter Tryz.func192,Tryz.ntmps192
   go_wp2_with fail
   go_ret
   exact ⟨rfl,rfl⟩
 ·have d1:decide (t≥0)=false:=decide_eq_false h0
  have d1':decide (0≤t)=false:=d1
  rw [d1']
  clear h0
  go_enter Tryz.func192,Tryz.ntmps192
  go_wp2_with fail
  go_ret
  exact ⟨rfl,rfl⟩
theorem KU {ok:Nat→Prop} {p:Nat} {x:Ep} (w:World) (h:dz ok p x w):
  Calls Tryz.prog 148 #[.pointer (some ⟨p,0,none⟩)] w fun e w1=>e= .returned (.int .i64 x.now)∧w1=w:=by
 obtain ⟨sv,lv,gv,ρ,h⟩:=h
 have c1:w.cell? ⟨p,0,none⟩=some (.int .i64 x.now):=(af h.box 0).trans rfl
 clear h
 go_enter Tryz.func148,Tryz.ntmps148
 go_wp2_with fail
 go_ret
 exact ⟨rfl,rfl⟩
theorem KT {ok:Nat→Prop} {p:Nat} {x:Ep} (w:World) (h:dz ok p x w):
  Calls Tryz.prog 151 #[.pointer (some ⟨p,0,none⟩)] w fun e w1=>e= .returned (.int .i64 x.said.length)∧w1=w:=by
 obtain ⟨sv,lv,gv,ρ,h⟩:=h
 obtain ⟨A,c,rfl⟩:=Kd.aJ h.said
 have c1:w.cell? ⟨p,1,none⟩=some (.slice A x.said.length c):=(af h.box 1).trans rfl
 clear h
 go_enter Tryz.func151,Tryz.ntmps151
 go_wp2_with fail
 go_ret
 exact ⟨rfl,rfl⟩
structure lT (ok:Nat→Prop) (p:Nat) (v:Value) (x1:Ep) (w:World) (e:Ending) (w1:World):Prop where
 val:e= .returned v
 ep:dz ok p x1 w1
 moves:Moves ok ok w w1
theorem Ip {ok:Nat→Prop} {p:Nat} {x:Ep} (old:Int) (w:World) (h:dz ok p x w):
  Calls Tryz.prog 156 #[.pointer (some ⟨p,0,none⟩),.int .i64 old] w (lT ok p (.bool (x.swap old).1) (x.swap old).2 w):=by
 obtain ⟨sv,lv,gv,ρ,h⟩:=h
 have c1:w.cell? ⟨p,0,none⟩=some (.int .i64 x.now):=(af h.box 0).trans rfl
 have f1:=ah h.box 0
 have HI:=Am_ h
 by_cases hn:x.now=old
 ·have e1:x.swap old=(true,{ x with now:=wrap64 (x.now+1) }):=by simp [Ep.swap,hn]
  rw [e1]
  subst hn
  have hb:(x.now == x.now)=true:=beq_self_eq_true _
  clear h e1
  go_enter Tryz.func156,Tryz.ntmps156
  go_wp2_with fail
  go_ret
  exact ⟨rfl,⟨_,_,_,_,HI.out.IL _⟩,(Moves.refl ok w).set (p:=⟨p,0,none⟩) (.inl HI.out.own) _⟩
 ·have e1:x.swap old=(false,x):=by simp [Ep.swap,hn]
  rw [e1]
  have hb:(x.now == old)=false:=by simpa using hn
  have hb2:(x.now != old)=true:=by simpa using hn
  clear h e1 hn
  go_enter Tryz.func156,Tryz.ntmps156
  go_wp2_with fail
  go_ret
  exact ⟨rfl,⟨_,_,_,_,HI.out⟩,Moves.refl _ _⟩
theorem Io {ok:Nat→Prop} {p:Nat} {x:Ep} (t:Int) (w:World) (h:dz ok p x w) (hg:x.Good):
  Calls Tryz.prog 153 #[.pointer (some ⟨p,0,none⟩),.int .i64 t] w fun e w1=>e= .returned (.int .i64 (x.nY t))∧w1=w:=by
 have HIN:=Am_ (rA t w h hg)
 obtain ⟨sv,lv,gv,ρ,h⟩:=h
 obtain ⟨A,c,rfl⟩:=Kd.aJ h.said
 have c1:w.cell? ⟨p,1,none⟩=some (.slice A x.said.length c):=(af h.box 1).trans rfl
 cases hh:x.has t with
 | true=>
  have e1:x.nY t=x.said.getD t.toNat 0:=by simp [Ep.nY,hh]
  have hb:0≤t∧t<x.said.length:=by simpa [Ep.has] using hh
  obtain ⟨b0,b1⟩:=hb
  obtain ⟨gl,rfl,_,hcl⟩:=kK h.said t b0 b1
  rw [e1]
  generalize x.said.getD t.toNat 0=v at hcl ⊢
  have HH:=Am_ hh
  clear h hg e1 hh
  go_enter Tryz.func153,Tryz.ntmps153
  go_wp2_with (go_at_call 192;refine HIN.out.mono ?_;rintro e w1 ⟨rfl,rfl⟩;rw [HH.out])
  go_ret
  exact ⟨rfl,rfl⟩
 | false=>
  have e1:x.nY t= -1:=by simp [Ep.nY,hh]
  rw [e1]
  have HH:=Am_ hh
  clear h hg e1 hh
  go_enter Tryz.func153,Tryz.ntmps153
  go_wp2_with (go_at_call 192;refine HIN.out.mono ?_;rintro e w1 ⟨rfl,rfl⟩;rw [HH.out])
  go_ret
  exact ⟨rfl,rfl⟩
theorem Gf {ok:Nat→Prop} {p:Nat} {x:Ep} (t n:Int) (w:World) (h:dz ok p x w) (hg:x.Good):
  Calls Tryz.prog 150 #[.pointer (some ⟨p,0,none⟩),.int .i64 t,.int .i64 n] w (lT ok p (.tuple #[]) (x.say t n) w):=by
 have HIN:=Am_ (rA t w h hg)
 obtain ⟨sv,lv,gv,ρ,h⟩:=h
 obtain ⟨A,c,rfl⟩:=Kd.aJ h.said
 have c1:w.cell? ⟨p,1,none⟩=some (.slice A x.said.length c):=(af h.box 1).trans rfl
 have HI:=Am_ h
 cases hh:x.has t with
 | true=>
  have hb:0≤t∧t<x.said.length:=by simpa [Ep.has] using hh
  obtain ⟨b0,b1⟩:=hb
  have e1:x.say t n= { x with said:=x.said.set t.toNat n }:=by simp [Ep.say,hh]
  obtain ⟨gl,rfl,hgl,hcl⟩:=kK h.said t b0 b1
  rw [e1]
  have hfz:=(Kd.Fu (0:Int) h.said t b0 b1).2
  have HH:=Am_ hh
  have HO:=Am_ hgl
  have HT:ak (t.toNat<x.said.length):=⟨by omega⟩
  clear h hg e1 hh hgl
  go_enter Tryz.func150,Tryz.ntmps150
  go_wp2_with (go_at_call 192;refine HIN.out.mono ?_;rintro e w1 ⟨rfl,rfl⟩;rw [HH.out])
  go_end0
  exact ⟨rfl,⟨_,_,_,_,HI.out.EB t.toNat HT.out n⟩,(Moves.refl ok _).set (p:=⟨gl,t.toNat,none⟩) (.inl HO.out.1) _⟩
 | false=>
  have e1:x.say t n=x:=by simp [Ep.say,hh]
  rw [e1]
  have HH:=Am_ hh
  clear h hg e1 hh
  go_enter Tryz.func150,Tryz.ntmps150
  go_wp2_with (go_at_call 192;refine HIN.out.mono ?_;rintro e w1 ⟨rfl,rfl⟩;rw [HH.out])
  go_end0
  exact ⟨rfl,⟨_,_,_,_,HI.out⟩,Moves.refl _ _⟩
theorem Ep.Good.say {x:Ep} (h:x.Good) (t n:Int):(x.say t n).Good:=by
 unfold Ep.say
 split
 ·exact ⟨by simpa using h.few⟩
 ·exact h
theorem Ep.Good.swap {x:Ep} (h:x.Good) (n:Int):(x.swap n).2.Good:=by
 unfold Ep.swap
 split
 ·exact ⟨h.few⟩
 ·exact h
def Kw:Bool × List (List Nat × List Nat):=(true,[([],[]),([0],[0]),([1],[1]),([2],[2]),([3],[3]),([],[]),([5],[5]),([],[]),([4,6,7],[4,6,7])])
def LY:List Nat:= [0,1,3,7,15,0,32,0,255]
theorem Jh:fq .any (opsOf Tryz.f149 1)=Kw:=by kernel_rfl
theorem Dn:bA Kw.2 LY=true:=by kernel_rfl
theorem qY (p:Nat) (x:Ws) (me now:Int) (w:World) (okS:Nat→Prop) (bt bn:Nat) (h:shW p x okS w) (g0:w.cell? ⟨bt,1,none⟩=some (.pointer (some ⟨p,0,none⟩))) (g2:w.cell? ⟨bt,2,none⟩=some (.int .i64 me)) (g3:w.cell? ⟨bn,0,none⟩=some (.int .i64 now)):
  Calls Tryz.prog 149 #[.pointer (some ⟨bt,0,none⟩),.pointer (some ⟨bn,0,none⟩)] w fun e w2=> ∃ okS1,e= .returned (.int .i64 0)∧shW p { x with ep:=x.ep.say me now } okS1 w2∧Moves okS okS1 w w2:=by
 obtain ⟨⟨okA,okR,okE,pA,pR,pE,h⟩,hg⟩:=h
 have HW:=Am_ h
 have HG:=Am_ hg
 have hp:=(af h.box 2).trans (rfl:_=some (Value.pointer (some ⟨pE,0,none⟩)))
 have HC:=Am_ (And.intro g0 (And.intro hp (And.intro g2 g3)))
 clear h hg hp g0 g2 g3
 go_enter Tryz.func149,Tryz.ntmps149
 go_upto_region 1 with fail
 refine bG (n:=9) (S:=fun w'=>w'.cell? ⟨bt,1,none⟩=some (.pointer (some ⟨p,0,none⟩))∧w'.cell? ⟨p,2,none⟩=some (.pointer (some ⟨pE,0,none⟩))∧w'.cell? ⟨bt,2,none⟩=some (.int .i64 me)∧w'.cell? ⟨bn,0,none⟩=some (.int .i64 now)) (ds:= [8]) (by kernel_rfl) rfl Jh Dn HC.out (fun hHeld HT_ HW_=>?_)
 have HW:=Am_ (HW.out.step (w1:=w.drew) (Nat.le_refl _) (fun _ _ _=>rfl))
 have HM:=Am_ ((Moves.refl okS w).drew)
 clear HC
 generalize World.drew _=w1 at HW HM hHeld ⊢
 refine eO [(0,some 3),(1,some 4),(2,some 5),(3,some 6),(4,some 7),(5,some 8),(6,some 9),(7,some 10)] ?_
 (refine dZ (v:=?_) (a':=?_) HT_ (by kernel_rfl) rfl rfl (fun _ _ _ h=>h) (Or.inl ⟨by rfl,?_⟩) ?_ ?_;rotate_left;(intro w';go_simp;with_reducible rfl);rotate_left;(simp only [Act.put,p1_,p2_,p3_,ax,ay];rfl))
 iterate 7 (refine iW (v:=?_) (a':=?_) HT_ HW_ (by kernel_rfl) rfl rfl (fun _ _ _ h=>h) hHeld (Or.inl ⟨by rfl,?_⟩) ?_ ?_;rotate_left;(rintro w' ⟨s0,s1,s2,s3⟩;go_simp;with_reducible rfl);rotate_left;(simp only [Act.put,p1_,p2_,p3_,ax,ay];rfl))
 refine aZ ?_
 refine bP (i:=8) (some 11) HT_ (by kernel_rfl) rfl rfl (by decide) (fun K_ hK=>?_)
 refine call_ 150 #[.pointer (some ⟨pE,0,none⟩),.int .i64 me,.int .i64 now] (by rfl) rfl ?hrun8 ?_
 (case hrun8=>first | (go_simp;done) | (go_simp;exact enters Tryz.func150 (by kernel_rfl) rfl _ _))
 refine (Gf me now _ HW.out.ep HG.out.ep).mono ?_
 rintro e w2 ⟨rfl,hE,hM⟩
 have E2:=Am_ hE
 have M2:=Am_ hM
 clear hE hM
 refine ⟨_,rfl,?_⟩
 refine hK.out _ _ ?_
 clear hK K_
 refine bK (a':=?_) ?_ ?_
 rotate_left; · show Act.put _ (some 11) _=_;simp only [Act.put,p1_,p2_,p3_,ax,ay];rfl
 refine dD (bI HT_.out (by kernel_rfl)) ?_
 go_wp2_with fail
 go_ret
 exact ⟨_,rfl,⟨⟨_,_,_,_,_,_,(HW.out.iE E2.out M2.out).1⟩,⟨HG.out.ar,HG.out.ep.say me now,HG.out.tb⟩⟩,HM.out.trans (HW.out.iE E2.out M2.out).2⟩
def Ky:Bool × List (List Nat × List Nat):=(true,[([],[]),([0],[0]),([1],[1]),([2],[2]),([3],[3]),([],[]),([4,5],[4,5]),([6,6,0,1,2,3,4,5,6],[6])])
def LZ:List Nat:= [0,1,3,7,15,0,63,127]
theorem Ji:fq .any (opsOf Tryz.f152 1)=Ky:=by kernel_rfl
theorem Dp:bA Ky.2 LZ=true:=by kernel_rfl
theorem qZ (p:Nat) (x:Ws) (k:Int) (w:World) (okS:Nat→Prop) (bt bk:Nat) (h:shW p x okS w) (g0:w.cell? ⟨bt,1,none⟩=some (.pointer (some ⟨p,0,none⟩))) (g2:w.cell? ⟨bk,0,none⟩=some (.int .i64 k)):
  Calls Tryz.prog 152 #[.pointer (some ⟨bt,0,none⟩),.pointer (some ⟨bk,0,none⟩)] w fun e w2=> ∃ okS1,e= .returned (.int .i64 (x.ep.nY k))∧shW p x okS1 w2∧Moves okS okS1 w w2:=by
 obtain ⟨⟨okA,okR,okE,pA,pR,pE,h⟩,hg⟩:=h
 have HW:=Am_ h
 have HG:=Am_ hg
 have hp:=(af h.box 2).trans (rfl:_=some (Value.pointer (some ⟨pE,0,none⟩)))
 have HC:=Am_ (And.intro g0 (And.intro hp g2))
 clear h hg hp g0 g2
 go_enter Tryz.func152,Tryz.ntmps152
 go_upto_region 1 with fail
 refine bG (n:=8) (S:=fun w'=>w'.cell? ⟨bt,1,none⟩=some (.pointer (some ⟨p,0,none⟩))∧w'.cell? ⟨p,2,none⟩=some (.pointer (some ⟨pE,0,none⟩))∧w'.cell? ⟨bk,0,none⟩=some (.int .i64 k)) (ds:= [6]) (by kernel_rfl) rfl Ji Dp HC.out (fun hHeld HT_ HW_=>?_)
 have HW:=Am_ (HW.out.step (w1:=w.drew) (Nat.le_refl _) (fun _ _ _=>rfl))
 have HM:=Am_ ((Moves.refl okS w).drew)
 clear HC
 generalize World.drew _=w1 at HW HM hHeld ⊢
 refine eO [(0,some 3),(1,some 4),(2,some 5),(3,some 6),(4,some 7),(5,some 8)] ?_
 (refine dZ (v:=?_) (a':=?_) HT_ (by kernel_rfl) rfl rfl (fun _ _ _ h=>h) (Or.inl ⟨by rfl,?_⟩) ?_ ?_;rotate_left;(intro w';go_simp;with_reducible rfl);rotate_left;(simp only [Act.put,p1_,p2_,p3_,ax,ay];rfl))
 iterate 5 (refine iW (v:=?_) (a':=?_) HT_ HW_ (by kernel_rfl) rfl rfl (fun _ _ _ h=>h) hHeld (Or.inl ⟨by rfl,?_⟩) ?_ ?_;rotate_left;(rintro w' ⟨s0,s1,s2⟩;go_simp;with_reducible rfl);rotate_left;(simp only [Act.put,p1_,p2_,p3_,ax,ay];rfl))
 refine aZ ?_
 refine bP (i:=6) (some 9) HT_ (by kernel_rfl) rfl rfl (by decide) (fun K_ hK=>?_)
 refine call_ 153 #[.pointer (some ⟨pE,0,none⟩),.int .i64 k] (by rfl) rfl ?hrun6 ?_
 (case hrun6=>first | (go_simp;done) | (go_simp;exact enters Tryz.func153 (by kernel_rfl) rfl _ _))
 refine (Io k _ HW.out.ep HG.out.ep).mono ?_
 rintro e w2 ⟨rfl,rfl⟩
 refine ⟨_,rfl,?_⟩
 refine hK.out _ _ ?_
 clear hK K_
 refine bK (a':=?_) ?_ ?_
 rotate_left; · show Act.put _ (some 9) _=_;simp only [Act.put,p1_,p2_,p3_,ax,ay];rfl
 refine eO [(7,some 2)] ?_
 (refine dZ (v:=?_) (a':=?_) HT_ (by kernel_rfl) rfl rfl (fun _ _ _ h=>h) (Or.inl ⟨by rfl,?_⟩) ?_ ?_;rotate_left;(intro w';go_simp;with_reducible rfl);rotate_left;(simp only [Act.put,p1_,p2_,p3_,ax,ay];rfl))
 refine aZ ?_
 refine dD (bI HT_.out (by kernel_rfl)) ?_
 go_wp2_with fail
 go_ret
 exact ⟨okS,rfl,⟨⟨_,_,_,_,_,_,HW.out⟩,HG.out⟩,HM.out⟩
def Kz:Bool × List (List Nat × List Nat):=(true,[([],[]),([0],[0]),([1],[1]),([2],[2]),([3],[3]),([],[]),([4,5],[4,5]),([6,6,0,1,2,3,4,5,6],[6])])
def Mc:List Nat:= [0,1,3,7,15,0,63,127]
theorem Jj:fq .any (opsOf Tryz.f155 1)=Kz:=by kernel_rfl
theorem Dq:bA Kz.2 Mc=true:=by kernel_rfl
theorem rf (p:Nat) (x:Ws) (now:Int) (w:World) (okS:Nat→Prop) (bt bn:Nat) (h:shW p x okS w) (g0:w.cell? ⟨bt,1,none⟩=some (.pointer (some ⟨p,0,none⟩))) (g2:w.cell? ⟨bn,0,none⟩=some (.int .i64 now)):
  Calls Tryz.prog 155 #[.pointer (some ⟨bt,0,none⟩),.pointer (some ⟨bn,0,none⟩)] w fun e w2=> ∃ okS1,e= .returned (.bool (x.ep.swap now).1)∧shW p { x with ep:=(x.ep.swap now).2 } okS1 w2∧Moves okS okS1 w w2:=by
 obtain ⟨⟨okA,okR,okE,pA,pR,pE,h⟩,hg⟩:=h
 have HW:=Am_ h
 have HG:=Am_ hg
 have hp:=(af h.box 2).trans (rfl:_=some (Value.pointer (some ⟨pE,0,none⟩)))
 have HC:=Am_ (And.intro g0 (And.intro hp g2))
 clear h hg hp g0 g2
 go_enter Tryz.func155,Tryz.ntmps155
 go_upto_region 1 with fail
 refine bG (n:=8) (S:=fun w'=>w'.cell? ⟨bt,1,none⟩=some (.pointer (some ⟨p,0,none⟩))∧w'.cell? ⟨p,2,none⟩=some (.pointer (some ⟨pE,0,none⟩))∧w'.cell? ⟨bn,0,none⟩=some (.int .i64 now)) (ds:= [6]) (by kernel_rfl) rfl Jj Dq HC.out (fun hHeld HT_ HW_=>?_)
 have HW:=Am_ (HW.out.step (w1:=w.drew) (Nat.le_refl _) (fun _ _ _=>rfl))
 have HM:=Am_ ((Moves.refl okS w).drew)
 clear HC
 generalize World.drew _=w1 at HW HM hHeld ⊢
 refine eO [(0,some 3),(1,some 4),(2,some 5),(3,some 6),(4,some 7),(5,some 8)] ?_
 (refine dZ (v:=?_) (a':=?_) HT_ (by kernel_rfl) rfl rfl (fun _ _ _ h=>h) (Or.inl ⟨by rfl,?_⟩) ?_ ?_;rotate_left;(intro w';go_simp;with_reducible rfl);rotate_left;(simp only [Act.put,p1_,p2_,p3_,ax,ay];rfl))
 iterate 5 (refine iW (v:=?_) (a':=?_) HT_ HW_ (by kernel_rfl) rfl rfl (fun _ _ _ h=>h) hHeld (Or.inl ⟨by rfl,?_⟩) ?_ ?_;rotate_left;(rintro w' ⟨s0,s1,s2⟩;go_simp;with_reducible rfl);rotate_left;(simp only [Act.put,p1_,p2_,p3_,ax,ay];rfl))
 refine aZ ?_
 refine bP (i:=6) (some 9) HT_ (by kernel_rfl) rfl rfl (by decide) (fun K_ hK=>?_)
 refine call_ 156 #[.pointer (some ⟨pE,0,none⟩),.int .i64 now] (by rfl) rfl ?hrun6 ?_
 (case hrun6=>first | (go_simp;done) | (go_simp;exact enters Tryz.func156 (by kernel_rfl) rfl _ _))
 refine (Ip now _ HW.out.ep).mono ?_
 rintro e w2 ⟨rfl,hE,hM⟩
 have E2:=Am_ hE
 have M2:=Am_ hM
 clear hE hM
 refine ⟨_,rfl,?_⟩
 refine hK.out _ _ ?_
 clear hK K_
 refine bK (a':=?_) ?_ ?_
 rotate_left; · show Act.put _ (some 9) _=_;simp only [Act.put,p1_,p2_,p3_,ax,ay];rfl
 refine eO [(7,some 2)] ?_
 (refine dZ (v:=?_) (a':=?_) HT_ (by kernel_rfl) rfl rfl (fun _ _ _ h=>h) (Or.inl ⟨by rfl,?_⟩) ?_ ?_;rotate_left;(intro w';go_simp;with_reducible rfl);rotate_left;(simp only [Act.put,p1_,p2_,p3_,ax,ay];rfl))
 refine aZ ?_
 refine dD (bI HT_.out (by kernel_rfl)) ?_
 go_wp2_with fail
 go_ret
 exact ⟨_,rfl,⟨⟨_,_,_,_,_,_,(HW.out.iE E2.out M2.out).1⟩,⟨HG.out.ar,HG.out.ep.swap now,HG.out.tb⟩⟩,HM.out.trans (HW.out.iE E2.out M2.out).2⟩
def KC:Bool × List (List Nat × List Nat):=(true,[([],[]),([0],[0]),([1],[1]),([2],[2]),([3],[3]),([],[]),([5],[5]),([4,6],[4,6])])
def Md:List Nat:= [0,1,3,7,15,0,32,127]
theorem Jk:fq .any (opsOf Tryz.f165 1)=KC:=by kernel_rfl
theorem Dr:bA KC.2 Md=true:=by kernel_rfl
theorem xA (p:Nat) (x:Ws) (me:Int) (w:World) (okS:Nat→Prop) (bt:Nat) (h:shW p x okS w) (g0:w.cell? ⟨bt,1,none⟩=some (.pointer (some ⟨p,0,none⟩))) (g2:w.cell? ⟨bt,2,none⟩=some (.int .i64 me)):
  Calls Tryz.prog 165 #[.pointer (some ⟨bt,0,none⟩)] w fun e w2=> ∃ okS1,e= .returned (.int .i64 0)∧shW p { x with ep:=x.ep.say me (-1) } okS1 w2∧Moves okS okS1 w w2:=by
 obtain ⟨⟨okA,okR,okE,pA,pR,pE,h⟩,hg⟩:=h
 have HW:=Am_ h
 have HG:=Am_ hg
 have hp:=(af h.box 2).trans (rfl:_=some (Value.pointer (some ⟨pE,0,none⟩)))
 have HC:=Am_ (And.intro g0 (And.intro hp g2))
 clear h hg hp g0 g2
 go_enter Tryz.func165,Tryz.ntmps165
 go_upto_region 1 with fail
 refine bG (n:=8) (S:=fun w'=>w'.cell? ⟨bt,1,none⟩=some (.pointer (some ⟨p,0,none⟩))∧w'.cell? ⟨p,2,none⟩=some (.pointer (some ⟨pE,0,none⟩))∧w'.cell? ⟨bt,2,none⟩=some (.int .i64 me)) (ds:= [7]) (by kernel_rfl) rfl Jk Dr HC.out (fun hHeld HT_ HW_=>?_)
 have HW:=Am_ (HW.out.step (w1:=w.drew) (Nat.le_refl _) (fun _ _ _=>rfl))
 have HM:=Am_ ((Moves.refl okS w).drew)
 clear HC
 generalize World.drew _=w1 at HW HM hHeld ⊢
 refine eO [(0,some 2),(1,some 3),(2,some 4),(3,some 5),(4,some 6),(5,some 7),(6,some 8)] ?_
 (refine dZ (v:=?_) (a':=?_) HT_ (by kernel_rfl) rfl rfl (fun _ _ _ h=>h) (Or.inl ⟨by rfl,?_⟩) ?_ ?_;rotate_left;(intro w';go_simp;with_reducible rfl);rotate_left;(simp only [Act.put,p1_,p2_,p3_,ax,ay];rfl))
 iterate 6 (refine iW (v:=?_) (a':=?_) HT_ HW_ (by kernel_rfl) rfl rfl (fun _ _ _ h=>h) hHeld (Or.inl ⟨by rfl,?_⟩) ?_ ?_;rotate_left;(rintro w' ⟨s0,s1,s2⟩;go_simp;with_reducible rfl);rotate_left;(simp only [Act.put,p1_,p2_,p3_,ax,ay];rfl))
 refine aZ ?_
 refine bP (i:=7) (some 9) HT_ (by kernel_rfl) rfl rfl (by decide) (fun K_ hK=>?_)
 refine call_ 150 #[.pointer (some ⟨pE,0,none⟩),.int .i64 me,.int .i64 (-1)] (by rfl) rfl ?hrun7 ?_
 (case hrun7=>first | (go_simp;done) | (go_simp;exact enters Tryz.func150 (by kernel_rfl) rfl _ _))
 refine (Gf me (-1) _ HW.out.ep HG.out.ep).mono ?_
 rintro e w2 ⟨rfl,hE,hM⟩
 have E2:=Am_ hE
 have M2:=Am_ hM
 clear hE hM
 refine ⟨_,rfl,?_⟩
 refine hK.out _ _ ?_
 clear hK K_
 refine bK (a':=?_) ?_ ?_
 rotate_left; · show Act.put _ (some 9) _=_;simp only [Act.put,p1_,p2_,p3_,ax,ay];rfl
 refine dD (bI HT_.out (by kernel_rfl)) ?_
 go_wp2_with fail
 go_ret
 exact ⟨_,rfl,⟨⟨_,_,_,_,_,_,(HW.out.iE E2.out M2.out).1⟩,⟨HG.out.ar,HG.out.ep.say me (-1),HG.out.tb⟩⟩,HM.out.trans (HW.out.iE E2.out M2.out).2⟩
section
variable {P:Program} {ops:Array Oper} {Q:Exit→Act→World→Prop} {md:Region.Mode} {S:World→Prop} {ds:List Nat}
theorem bR.Ij {fuel:Nat} {listed:Array Bool} {a:Act} {w:World} {i:Nat} {o:Oper} {rs:List Nat} (ho:ops[i]?=some o)
  (h: ∀ K':Act→World→Prop,Shut (∀ a' w',(i∉ds→S w→S w')→aV P md ops Q S ds fuel (listed.setIfInBounds i true) a' w'→K' a' w')→if Region.wanted o (yielded ops a.tmps)=true then Oper.wp P o a w K' Q else K' (a.put o.dst undef) w)
  (hs:bR P md ops Q S ds fuel listed a w rs):bR P md ops Q S ds fuel listed a w (i::rs):=fun j hj=>by
 rcases List.mem_cons.1 hj with rfl | hj
 ·exact wpOp_step ho (fun K' hK=>h K' (fun a w' hS hW=>hK a w' ⟨hS,hW⟩))
 ·exact hs j hj
theorem xS {i:Nat} {N:Option Tmp} {oi:Oper} {fuel:Nat} {l:Array Bool} {a:Act} {w:World} (l':Array Bool) (hi:ops[i]?=some oi) (hN:oi.dst=N) (hc:mh md ops l l' i=true)
  (h: ∀ K:Act→World→Prop,Shut (∀ a' w',(i∉ds→S w→S w')→aV P md ops Q S ds fuel l' a' w'→K a' w')→if Region.wanted oi (yielded ops a.tmps)=true then Oper.wp P oi a w K Q else K (a.put N undef) w):
  aV P md ops Q S ds (fuel+1) l a w:=by
 subst hN
 simp only [mh,Bool.and_eq_true,beq_iff_eq] at hc
 obtain ⟨h1,h2⟩:=hc
 subst h2
 exact fe h1 (by simp) (bR.Ij hi (fun K hK=>h K hK) bR.nil)
theorem Fe {i j:Nat} {Ni Nj:Option Tmp} {oi oj:Oper} {fuel:Nat} {l:Array Bool} {a:Act} {w:World} (li lj:Array Bool) (hi:ops[i]?=some oi) (hj:ops[j]?=some oj) (hNi:oi.dst=Ni) (hNj:oj.dst=Nj)
  (hc:(Region.ready md ops l == [i,j] && l.setIfInBounds i true == li && l.setIfInBounds j true == lj)=true)
  (h1: ∀ K:Act→World→Prop,Shut (∀ a' w',(i∉ds→S w→S w')→aV P md ops Q S ds fuel li a' w'→K a' w')→if Region.wanted oi (yielded ops a.tmps)=true then Oper.wp P oi a w K Q else K (a.put Ni undef) w)
  (h2: ∀ K:Act→World→Prop,Shut (∀ a' w',(j∉ds→S w→S w')→aV P md ops Q S ds fuel lj a' w'→K a' w')→if Region.wanted oj (yielded ops a.tmps)=true then Oper.wp P oj a w K Q else K (a.put Nj undef) w):
  aV P md ops Q S ds (fuel+1) l a w:=by
 subst hNi
 subst hNj
 simp only [Bool.and_eq_true,beq_iff_eq] at hc
 obtain ⟨⟨h3,h4⟩,h5⟩:=hc
 subst h4
 subst h5
 exact fe h3 (by simp) (bR.Ij hi (fun K hK=>h1 K hK) (bR.Ij hj (fun K hK=>h2 K hK) bR.nil))
end
theorem aD {X α β:Type} {m:Pr X α} {f:α→Pr X β} {s:TS X} {res:Out β × TS X} (h:aU m f s=some res): ∃ o t,m s=some (o,t)∧((o= .wait∧res=(.wait,t))∨ ∃ a,o= .ret a∧f a t=some res):=by
 unfold aU at h
 cases hm:m s with
 | none=>rw [hm] at h;cases h
 | some r=>
  obtain ⟨o,t⟩:=r
  rw [hm] at h
  refine ⟨o,t,rfl,?_⟩
  cases o with
  | wait=>injection h with h;exact .inl ⟨rfl,h.symm⟩
  | ret a=>exact .inr ⟨a,rfl,h⟩
structure aH (p tb:Nat) (work:Value) (me:Int) (bt:Nat) (ok:Nat→Prop) (w:World) (okc:Nat→Prop) (s:TS Ws) (wc:World):Prop where
 run:dN (shW p) tb work okc s wc
 moves:Moves ok okc w wc
 box:Mine okc wc bt (fC tb p me)
section
variable {p tb:Nat} {work:Value} {me:Int} {bt:Nat} {ok okc ok2:Nat→Prop} {w wc w2:World} {s s2:TS Ws}
theorem aH.below (h:aH p tb work me bt ok w okc s wc) (hb:Below wc.heap.size wc w2):aH p tb work me bt ok w okc s w2:=⟨h.run.below (aX p) hb,h.moves.below hb,⟨bF h.box.1 hb,h.box.2⟩⟩
theorem aH.alloc (h:aH p tb work me bt ok w okc s wc) (o:Obj):aH p tb work me bt ok w okc s (wc.alloc o):=h.below (ai (Below.refl _ _) o)
theorem aH.drew (h:aH p tb work me bt ok w okc s wc):aH p tb work me bt ok w okc s wc.drew:=h.below (aM (Below.refl _ _))
theorem aH.next (h:aH p tb work me bt ok w okc s wc) (m:Moves okc ok2 wc w2) (r:dN (shW p) tb work ok2 s2 w2):aH p tb work me bt ok w ok2 s2 w2:=⟨r,h.moves.trans m,h.box.moves m⟩
theorem aH.set (h:aH p tb work me bt ok w okc s wc) {q:Addr} (hn: ¬ okc q.block) (hw:w.heap.size≤q.block) (ht:q.block≠bt) (u:Value):aH p tb work me bt ok w okc s (wc.setCell q u):=
 ⟨h.run.far (aX p) hn u,h.moves.set (.inr hw) u,h.box.far ht u⟩
theorem aH.lt (h:aH p tb work me bt ok w okc s wc): ∀ k,okc k→k<wc.heap.size:=h.run.lt (aX p)
theorem aH.c0 (h:aH p tb work me bt ok w okc s wc):wc.cell? ⟨bt,0,none⟩=some (.pointer (some ⟨tb,0,none⟩)):=(af h.box.1 0).trans rfl
theorem aH.c1 (h:aH p tb work me bt ok w okc s wc):wc.cell? ⟨bt,1,none⟩=some (.pointer (some ⟨p,0,none⟩)):=(af h.box.1 1).trans rfl
theorem aH.c2 (h:aH p tb work me bt ok w okc s wc):wc.cell? ⟨bt,2,none⟩=some (.int .i64 me):=(af h.box.1 2).trans rfl
theorem aH.enter (h:dN (shW p) tb work ok s w):aH p tb work me w.heap.size ok w ok s (w.alloc (fC tb p me)):=
 ⟨h.below (aX p) (ai (Below.refl _ _) _),(Moves.refl ok w).alloc _,⟨bU w _,fun hk=>by have:=h.lt (aX p) _ hk;omega⟩⟩
structure fD {α:Type} (V:α→Value) (p tb:Nat) (work:Value) (me:Int) (bt:Nat) (ok:Nat→Prop) (w:World) (okc:Nat→Prop) (o:Out α) (t:TS Ws) (wc:World) (e:Ending) (w1:World):Prop where
 out: ∃ ok1,Moves okc ok1 wc w1∧aH p tb work me bt ok w ok1 t w1∧match o with
  | .ret a=>e= .returned (V a)
  | .wait=>e= .panicked dx
theorem aH.post {α:Type} {V:α→Value} {Vp:α→(Nat→Prop)→Value→World→Prop} (hv: ∀ a k v w,Vp a k v w→v=V a) (h:aH p tb work me bt ok w okc s wc) {o:Out α} {t:TS Ws} {e:Ending} {w1:World} (hp:fQ (shW p) tb work Vp okc wc (o,t) e w1):fD V p tb work me bt ok w okc o t wc e w1:=by
 obtain ⟨ok1,hm,hi,hr⟩:=hp
 refine ⟨⟨ok1,hm,h.next hm hi,?_⟩⟩
 cases o with
 | ret a=>obtain ⟨v,rfl,hv1⟩:=hr;rw [hv _ _ _ _ hv1]
 | wait=>exact hr
def oD (a:Int):Value:= .int .i64 a
def xh (a:Bool):Value:= .bool a
theorem aH.do_ (h:aH p tb work me bt ok w okc s wc) (f:Ws→Int × Ws) (gf:FuncId) (cap:Array Value)
  (he: ∀ w1:World,(callFunc gf cap).run Tryz.prog w1= .ok (.enter gf cap) w1)
  (hc: ∀ w1 okS,Moves okc okc wc w1→(∀ k,okS k→okc k)→shW p s.sh okS w1→Calls Tryz.prog gf cap w1 fun e w2=> ∃ okS1,e= .returned (.int .i64 (f s.sh).1)∧shW p (f s.sh).2 okS1 w2∧Moves okS okS1 w1 w2)
  {o:Out Int} {t:TS Ws} (hd:doT f s=some (o,t)):
  Calls Tryz.prog 137 #[.pointer (some ⟨tb,0,none⟩),.func (.func gf) #[] cap] wc (fD oD p tb work me bt ok w okc o t wc):=
 (qh (aX p) f tb work okc s wc gf cap h.run he hc (o,t) hd).mono (fun e w1 hp=>h.post (fun _ _ _ _ hv=>hv) hp)
theorem aH.KN (h:aH p tb work me bt ok w okc s wc) (f:Ws→Bool × Ws) (gf:FuncId) (cap:Array Value)
  (he: ∀ w1:World,(callFunc gf cap).run Tryz.prog w1= .ok (.enter gf cap) w1)
  (hc: ∀ w1 okS,Moves okc okc wc w1→(∀ k,okS k→okc k)→shW p s.sh okS w1→Calls Tryz.prog gf cap w1 fun e w2=> ∃ okS1,e= .returned (.bool (f s.sh).1)∧shW p (f s.sh).2 okS1 w2∧Moves okS okS1 w1 w2)
  {o:Out Bool} {t:TS Ws} (hd:Gb f s=some (o,t)):
  Calls Tryz.prog 154 #[.pointer (some ⟨tb,0,none⟩),.func (.func gf) #[] cap] wc (fD xh p tb work me bt ok w okc o t wc):=
 (zD (aX p) f tb work okc s wc gf cap h.run he (fun w1 okS a b c=>(hc w1 okS a b c).mono (fun e w2 ⟨okS1,h1,h2,h3⟩=>⟨h1,okS1,h2,h3⟩)) (o,t) hd).mono (fun e w1 hp=>h.post (fun _ _ _ _ hv=>hv) hp)
theorem aH.pE (h:aH p tb work me bt ok w okc s wc): ∃ pE,wc.cell? ⟨p,2,none⟩=some (.pointer (some ⟨pE,0,none⟩)):=by
 obtain ⟨_,_,⟨⟨_,_,_,_,_,pE,hw⟩,_⟩,_⟩:=h.run.direct
 exact ⟨pE,(af hw.box 2).trans rfl⟩
def Lf:Pr Ws Int:=doT (fun x=>(x.ep.now,x))
theorem aH.Lg (h:aH p tb work me bt ok w okc s wc) {pE:Nat} (hp:wc.cell? ⟨p,2,none⟩=some (.pointer (some ⟨pE,0,none⟩))) {o:Out Int} {t:TS Ws} (hd:Lf s=some (o,t)):
  Calls Tryz.prog 137 #[.pointer (some ⟨tb,0,none⟩),.func (.func 148) #[.pointer (some ⟨pE,0,none⟩)] #[]] wc (fD oD p tb work me bt ok w okc o t wc):=by
 refine (Az (aX p) (fun x=>(x.ep.now,x)) tb work okc s wc 148 (.pointer (some ⟨pE,0,none⟩)) h.run (enters Tryz.func148 (by kernel_rfl) rfl _) (fun w1 okS hm hk hs hs1 hb=>?_) (o,t) hd).mono (fun e w1 hp=>h.post (fun _ _ _ _ hv=>hv) hp)
 obtain ⟨⟨okA,okR,okE,pA,pR,pE1,hw⟩,hg⟩:=hs
 have hpE:pE1=pE:=by
  have h1:=(af hw.box 2).symm.trans hp
  injection h1 with h1
  injection h1 with h1
  injection h1 with h1
  injection h1
 subst hpE
 have hE1:dz okE pE1 s.sh.ep w1:=hw.ep.step hm.size (fun k hk2 hlt=>hb k ((hw.ok k).2 (.inr (.inr (.inr hk2)))) hlt)
 refine (KU w1 hE1).mono ?_
 rintro e w2 ⟨rfl,rfl⟩
 exact ⟨okS,rfl,hs1,Moves.refl _ _⟩
end
def LU (z now:Int):Bool:= !(decide (z>now) || decide (IntKind.u64.wrap (IntKind.u64.wrap now - IntKind.u64.wrap z)<3))
def Ep.ready (x:Ep) (t now:Int):Int × Ep:=
 if x.has t then match x.limbo.getD t.toNat [] with
  | []=>(0,x)
  | (r,z)::l=>if LU z now then (r,{ x with limbo:=x.limbo.set t.toNat l }) else (0,x)
 else (0,x)
theorem eu.step {ok:Nat→Prop} {p:Nat} {sv lv:Value} {gv:Nat→Value} {ρ:Nat→Nat} {t:Ep} {w w1:World} (h:eu ok p sv lv gv ρ t w) (hs:w.heap.size≤w1.heap.size) (hm: ∀ k,ok k→k<w.heap.size→w1.heap[k]?=w.heap[k]?):eu ok p sv lv gv ρ t w1 where
 own:=h.own
 role:=h.role
 lt:=fun k hk=>Nat.lt_of_lt_of_le (h.lt k hk) hs
 len:=h.len
 box:=(hm p h.own (h.lt p h.own)).trans h.box
 said:=Kd.bQ h.said (fun k hk hlt=>hm k hk.1 hlt)
 row:=Kd.bQ h.row (fun k hk hlt=>hm k hk.1 hlt)
 limbo:=fun i l hi=>Kd.jS (h.limbo i l hi) (fun k hk hlt=>hm k hk.1 hlt)
theorem eu.below {ok:Nat→Prop} {p:Nat} {sv lv:Value} {gv:Nat→Value} {ρ:Nat→Nat} {t:Ep} {w w1:World} (h:eu ok p sv lv gv ρ t w) (hb:Below w.heap.size w w1):eu ok p sv lv gv ρ t w1:=h.step hb.size (fun k _ hlt=>hb.block k hlt)
theorem eu.ig {ok:Nat→Prop} {p n c:Nat} {A:Option Addr} {sv:Value} {gv:Nat→Value} {ρ:Nat→Nat} {x:Ep} {w:World} (h:eu ok p sv (.slice A n c) gv ρ x w) (i:Int) (h0:0≤i) (h1:i<x.limbo.length):
  n=x.limbo.length∧ ∃ g,A=some ⟨g,0,none⟩∧ok g∧ρ g=2∧w.cell? ⟨g,i.toNat,none⟩=some (gv i.toNat)∧w.frozen? ⟨g,i.toNat,none⟩=false:=by
 have hr:=(Kd.bM h.row).1
 have hn:n=x.limbo.length:=by rw [hr];simp
 obtain ⟨g,cap,e1,_⟩:=Kd.lX h.row (by simp;omega)
 injection e1 with e1 e2 _
 refine ⟨hn,g,e1,?_⟩
 subst e1
 obtain ⟨cs,_,hM,hcc,hfz⟩:=Kd.lW h.row [] i h0 (by omega)
 have hg:=h.row.1 g (by simp [Value.ownBlock])
 have hM':=hM.1
 rw [List.getD_eq_getElem?_getD,List.getElem?_map,List.getElem?_range (by omega)] at hM'
 simp only [Option.map_some,Option.getD_some] at hM'
 have e:=hcc 0 (gv i.toNat) (by rw [hM'];rfl)
 have f:=hfz 0
 rw [show (Kd.raw 1).sz=1 from rfl,Nat.mul_one,Nat.add_zero] at e f
 exact ⟨hg.1,hg.2,by simpa using e,by simpa using f⟩
theorem eu.turn {ok:Nat→Prop} {p g n c:Nat} {sv:Value} {gv:Nat→Value} {ρ:Nat→Nat} {x:Ep} {w:World} (h:eu ok p sv (.slice (some ⟨g,0,none⟩) n c) gv ρ x w) (i:Nat) (hi:i<x.limbo.length) (v1:Value) (h1:v1.oneCell'=true) (l1:List (Int × Int)) (hq:dw.Q 297 w 0 (fun k=>ok k∧ρ k=3+i) v1 l1):
  eu ok p sv (.slice (some ⟨g,0,none⟩) n c) (fun j=>if j=i then v1 else gv j) ρ { x with limbo:=x.limbo.set i l1 } (w.setCell ⟨g,i,none⟩ v1):=by
 obtain ⟨hn,g0,e0,hg,hρ,hcc,hfz⟩:=h.ig (i:Int) (by omega) (by omega)
 injection e0 with e0
 injection e0 with e0 _ _
 subst e0
 rw [Int.toNat_natCast] at hcc hfz
 have hne: ∀ r,r≠2→ ∀ k,(ok k∧ρ k=r)→k≠g:=fun r hr k hk e=>by rw [e,hρ] at hk;exact hr hk.2.symm
 have hrow:=(Kd.yR (okp:=fun _=>False) h.row (i:Int) (by omega) (by omega) (c:= [gv i]) (seg:= [v1]) (j:=0) rfl (fun j u hu=>by
  cases j with
  | zero=>injection hu with hu;subst hu;simpa [Kd.raw] using hcc
  | succ j=>simp at hu) (by simp [Kd.raw]) (x':= [v1]) ⟨rfl,rfl,fun u hu=>by simp only [List.take_zero,List.nil_append,List.length_singleton,List.drop_succ_cons,List.drop_zero,List.append_nil,List.mem_cons,List.not_mem_nil,or_false] at hu;rw [hu];exact h1⟩ (fun k hk=>hk.elim)).1
 have hset:((List.range x.limbo.length).map fun i=> [gv i]).set (i:Int).toNat [v1]=(List.range (x.limbo.set i l1).length).map fun j=> [if j=i then v1 else gv j]:=by
  refine List.ext_getElem? fun j=>?_
  rw [Int.toNat_natCast,List.getElem?_set,List.length_set]
  by_cases hj:i=j
  ·subst hj
   simp [hi]
  ·rw [if_neg hj]
   simp only [List.getElem?_map]
   cases hs:(List.range x.limbo.length)[j]? with
   | none=>rfl
   | some q=>
    have hq:q=j:=by
     have:=(List.getElem?_eq_some_iff.1 hs).2
     simpa using this.symm
    subst hq
    simp [show ¬ q=i from fun e=>hj e.symm]
 rw [hset] at hrow
 have hrow':(Kd.raw 1).R 130 (w.setCells g i [v1]) 0 (fun k=>ok k∧ρ k=2) (.slice (some ⟨g,0,none⟩) n c) ((List.range (x.limbo.set i l1).length).map fun j=> [if j=i then v1 else gv j]):=by simpa [Kd.raw] using hrow
 exact {
  own:=h.own
  role:=h.role
  lt:=fun k hk=>by simpa [World.setCell] using h.lt k hk
  len:=by rw [List.length_set];exact h.len
  box:=cO h.box (p:=⟨g,i,none⟩) (fun e=>by rw [←show p=g from e,h.role] at hρ;cases hρ) _
  said:=Kd.bV h.said (p:=⟨g,i,none⟩) (hne 1 (by decide)) _
  row:=hrow'
  limbo:=fun j l hj=>by
   by_cases e:i=j
   ·subst e
    rw [List.getElem?_set_self hi] at hj
    injection hj with hj
    subst hj
    rw [if_pos rfl]
    exact Kd.pW hq (p:=⟨g,i,none⟩) (hne (3+i) (by omega)) _
   ·rw [List.getElem?_set_ne e] at hj
    rw [if_neg (fun e1=>e e1.symm)]
    exact Kd.pW (h.limbo j l hj) (p:=⟨g,i,none⟩) (hne (3+j) (by omega)) _ }
theorem ku {w:World} {base:Nat} {ok:Nat→Prop} {q:Int × Int} {c:List Value} (h:dw.M w base ok q c):c= [.int .i64 q.1,.int .i64 q.2]:=by
 obtain ⟨_,_,rfl,rfl,rfl⟩:=dw.K_of_M h
 rfl
theorem Ea (A:Option Addr) (n c:Nat) (W:World):(Instr.slice 130 (.slice A (n+1) c) (some (.int .i64 1)) none none).run Tryz.prog W= .ok (.slice (if c=1 then A else A.map (·.add 2)) n (c - 1)) W:=by
 have hel:(Tryz.prog).elem 130=297:=by kernel_rfl
 have hu:(Tryz.prog).underlying 130=some (.slice ((Tryz.prog).elem 130)):=by rw [hel];exact Tryz.underlying130
 have:=run_slice_l W 130 A (n+1) c hu .i64 1 (by omega) (by omega)
 obtain ⟨i0,hi,hz0,hz1,hz2⟩:=info_parts (show (Tryz.prog.info? 297).map (fun i=>(i.zero,i.size,i.bytes))=some (some (.agg #[.int .i64 0,.int .i64 0]),2,16) by kernel_rfl)
 rw [this,hel]
 simp [sizeOf,typeInfo,hi,hz1,sliced,Result.andThen]
def zl:Bool × List (List Nat × List Nat):=(true,[([],[]),([0],[0]),([1],[1]),([2],[2]),([],[]),([],[]),([5],[5]),([6],[6]),([7],[7]),([],[]),([8,9],[8,9]),([10],[10]),([11],[11]),([3,4,0,1,2,3,4,5,6,7,8,9,10,11,12],[3,4]),([13,12,0,1,2,3,4,5,6,7,8,9,10,11,12],[12,13])])
def GV:List Nat:= [0,1,3,7,0,0,32,96,224,0,992,2016,4064,8191,16383]
theorem Co:fq .any (opsOf Tryz.f194 6)=zl:=by kernel_rfl
theorem wU:bA zl.2 GV=true:=by kernel_rfl
theorem BI {ok:Nat→Prop} {p:Nat} {x:Ep} (t now:Int) (w:World) (h:dz ok p x w) (hg:x.Good) (hh:x.has t=false):
  Calls Tryz.prog 194 #[.pointer (some ⟨p,0,none⟩),.int .i64 t,.int .i64 now] w (lT ok p (.int .i64 (x.ready t now).1) (x.ready t now).2 w):=by
 have HIN:=Am_ (rA t w h hg)
 have e1:x.ready t now=(0,x):=by simp [Ep.ready,hh]
 rw [e1]
 have HI:=Am_ h
 have HH:=Am_ hh
 clear h hg e1 hh
 go_enter Tryz.func194,Tryz.ntmps194
 go_wp2_with (go_at_call 192;refine HIN.out.mono ?_;rintro e w1 ⟨rfl,rfl⟩;rw [HH.out])
 go_ret
 exact ⟨rfl,HI.out,Moves.refl _ _⟩
theorem xY {ok:Nat→Prop} {p:Nat} {x:Ep} (t now:Int) (w:World) (h:dz ok p x w) (hg:x.Good) (hh:x.has t=true) (hl:x.limbo.getD t.toNat []= []):
  Calls Tryz.prog 194 #[.pointer (some ⟨p,0,none⟩),.int .i64 t,.int .i64 now] w (lT ok p (.int .i64 (x.ready t now).1) (x.ready t now).2 w):=by
 have HIN:=Am_ (rA t w h hg)
 have e1:x.ready t now=(0,x):=by simp only [Ep.ready,hh,hl,if_true]
 rw [e1]
 obtain ⟨b0,b1⟩:0≤t∧t<x.said.length:=by simpa [Ep.has] using hh
 have HI:=Am_ h
 obtain ⟨sv,lv,gv,ρ,h⟩:=h
 obtain ⟨A,cr,rfl⟩:=Kd.aJ h.row
 have hn:((List.range x.limbo.length).map fun i=> [gv i]).length=x.limbo.length:=by simp
 rw [hn] at h
 have b3:t<x.limbo.length:=by rw [h.len];exact b1
 obtain ⟨_,g,rfl,hg1,hg2,d2,z2⟩:=h.ig t b0 b3
 obtain ⟨l,hll⟩: ∃ l,x.limbo[t.toNat]?=some l:=⟨x.limbo[t.toNat]'(by omega),List.getElem?_eq_getElem (by omega)⟩
 have hl0:l= []:=by rw [List.getD_eq_getElem?_getD,hll] at hl;exact hl
 subst hl0
 have hq:=h.limbo _ _ hll
 obtain ⟨Al,cl,hv,_⟩:=Kd.jY hq
 rw [hv] at d2
 have c2:w.cell? ⟨p,2,none⟩=some (.slice (some ⟨g,0,none⟩) x.limbo.length cr):=(af h.box 2).trans rfl
 have HH:=Am_ hh
 clear h hg e1 hh hl hll hq hv hg1 hg2 z2 hn
 go_enter Tryz.func194,Tryz.ntmps194
 go_wp2_with (go_at_call 192;refine HIN.out.mono ?_;rintro e w1 ⟨rfl,rfl⟩;rw [HH.out])
 go_ret
 exact ⟨rfl,HI.out,Moves.refl _ _⟩
theorem xZ {ok:Nat→Prop} {p:Nat} {x:Ep} (t now:Int) (w:World) (h:dz ok p x w) (hg:x.Good) (hh:x.has t=true) (r z:Int) (l:List (Int × Int)) (hl:x.limbo.getD t.toNat []=(r,z)::l) (hr:z>now):
  Calls Tryz.prog 194 #[.pointer (some ⟨p,0,none⟩),.int .i64 t,.int .i64 now] w (lT ok p (.int .i64 (x.ready t now).1) (x.ready t now).2 w):=by
 have HIN:=Am_ (rA t w h hg)
 have e1:x.ready t now=(0,x):=by simp only [Ep.ready,hh,hl,if_true];rw [if_neg (by simp [LU,hr])]
 rw [e1]
 obtain ⟨b0,b1⟩:0≤t∧t<x.said.length:=by simpa [Ep.has] using hh
 obtain ⟨sv,lv,gv,ρ,h⟩:=h
 obtain ⟨A,cr,rfl⟩:=Kd.aJ h.row
 have hn:((List.range x.limbo.length).map fun i=> [gv i]).length=x.limbo.length:=by simp
 rw [hn] at h
 have b3:t<x.limbo.length:=by rw [h.len];exact b1
 obtain ⟨_,g,rfl,hg1,hg2,d2,z2⟩:=h.ig t b0 b3
 have hll:x.limbo[t.toNat]?=some ((r,z)::l):=by
  have:x.limbo[t.toNat]?=some (x.limbo[t.toNat]'(by omega)):=List.getElem?_eq_getElem (by omega)
  rw [List.getD_eq_getElem?_getD,this] at hl
  rw [this]
  exact congrArg some hl
 have hq:=h.limbo _ _ hll
 obtain ⟨gl,ol,cl,hv,_,hglt,_⟩:=Kd.vo hq (by simp)
 have hlen:((r,z)::l).length=l.length+1:=List.length_cons
 have HV:=Am_ hv
 rw [hv,hlen] at d2
 rw [hv] at hq
 have HQ:=Am_ hq
 obtain ⟨cs,_,hM,hcc,_⟩:=Kd.uZ hq (0,0) 0 (by omega) (by simp)
 have hcs:=ku hM
 subst hcs
 have f0:w.cell? ⟨gl,ol,none⟩=some (.int .i64 r):=hcc 0 _ rfl
 have f1:w.cell? ⟨gl,ol+1,none⟩=some (.int .i64 z):=hcc 1 _ rfl
 have HCL:ak (l.length+1≤cl):=⟨by have:=(Kd.jM hq).2.1;rw [hlen] at this;exact this⟩
 have c2:w.cell? ⟨p,2,none⟩=some (.slice (some ⟨g,0,none⟩) x.limbo.length cr):=(af h.box 2).trans rfl
 have HH:=Am_ hh
 have HLL:=Am_ hll
 have HI:=Am_ h
 have HGL:=Am_ hglt
 have HG1:=Am_ hg1
 have u0:(l.length:Int)+1≠0:=by omega
 have u1:decide (((l.length+1:Nat):Int)=0)=false:=decide_eq_false (by omega)
 have u2:(((l.length+1:Nat):Int) == 0)=false:=by simp;omega
 have b4:(0:Int)<((l.length+1:Nat):Int):=by omega
 clear h hg e1 hh hl hll hq hv hg1 hg2 hn hM hcc hglt hlen
 go_enter Tryz.func194,Tryz.ntmps194
 have d1:decide (z>now)=true:=decide_eq_true hr
 have d1b:decide (now<z)=true:=d1
 clear hr
 go_wp2_with (go_at_call 192;refine HIN.out.mono ?_;rintro e w1 ⟨rfl,rfl⟩;rw [HH.out])
 go_ret
 exact ⟨rfl,⟨_,_,_,_,HI.out.below (ai (Below.refl _ _) _)⟩,(Moves.refl _ _).alloc _⟩
theorem yg {ok:Nat→Prop} {p:Nat} {x:Ep} (t now:Int) (w:World) (h:dz ok p x w) (hg:x.Good) (hh:x.has t=true) (r z:Int) (l:List (Int × Int)) (hl:x.limbo.getD t.toNat []=(r,z)::l) (hz: ¬ z>now) (hr:IntKind.u64.wrap (IntKind.u64.wrap now - IntKind.u64.wrap z)<3):
  Calls Tryz.prog 194 #[.pointer (some ⟨p,0,none⟩),.int .i64 t,.int .i64 now] w (lT ok p (.int .i64 (x.ready t now).1) (x.ready t now).2 w):=by
 have HIN:=Am_ (rA t w h hg)
 have e1:x.ready t now=(0,x):=by simp only [Ep.ready,hh,hl,if_true];rw [if_neg (by simp [LU,hr])]
 rw [e1]
 obtain ⟨b0,b1⟩:0≤t∧t<x.said.length:=by simpa [Ep.has] using hh
 obtain ⟨sv,lv,gv,ρ,h⟩:=h
 obtain ⟨A,cr,rfl⟩:=Kd.aJ h.row
 have hn:((List.range x.limbo.length).map fun i=> [gv i]).length=x.limbo.length:=by simp
 rw [hn] at h
 have b3:t<x.limbo.length:=by rw [h.len];exact b1
 obtain ⟨_,g,rfl,hg1,hg2,d2,z2⟩:=h.ig t b0 b3
 have hll:x.limbo[t.toNat]?=some ((r,z)::l):=by
  have:x.limbo[t.toNat]?=some (x.limbo[t.toNat]'(by omega)):=List.getElem?_eq_getElem (by omega)
  rw [List.getD_eq_getElem?_getD,this] at hl
  rw [this]
  exact congrArg some hl
 have hq:=h.limbo _ _ hll
 obtain ⟨gl,ol,cl,hv,_,hglt,_⟩:=Kd.vo hq (by simp)
 have hlen:((r,z)::l).length=l.length+1:=List.length_cons
 have HV:=Am_ hv
 rw [hv,hlen] at d2
 rw [hv] at hq
 have HQ:=Am_ hq
 obtain ⟨cs,_,hM,hcc,_⟩:=Kd.uZ hq (0,0) 0 (by omega) (by simp)
 have hcs:=ku hM
 subst hcs
 have f0:w.cell? ⟨gl,ol,none⟩=some (.int .i64 r):=hcc 0 _ rfl
 have f1:w.cell? ⟨gl,ol+1,none⟩=some (.int .i64 z):=hcc 1 _ rfl
 have HCL:ak (l.length+1≤cl):=⟨by have:=(Kd.jM hq).2.1;rw [hlen] at this;exact this⟩
 have c2:w.cell? ⟨p,2,none⟩=some (.slice (some ⟨g,0,none⟩) x.limbo.length cr):=(af h.box 2).trans rfl
 have HH:=Am_ hh
 have HLL:=Am_ hll
 have HI:=Am_ h
 have HGL:=Am_ hglt
 have HG1:=Am_ hg1
 have u0:(l.length:Int)+1≠0:=by omega
 have u1:decide (((l.length+1:Nat):Int)=0)=false:=decide_eq_false (by omega)
 have u2:(((l.length+1:Nat):Int) == 0)=false:=by simp;omega
 have b4:(0:Int)<((l.length+1:Nat):Int):=by omega
 clear h hg e1 hh hl hll hq hv hg1 hg2 hn hM hcc hglt hlen
 go_enter Tryz.func194,Tryz.ntmps194
 have d1:decide (z>now)=false:=decide_eq_false hz
 have d1b:decide (now<z)=false:=d1
 have d3:decide (IntKind.u64.wrap (IntKind.u64.wrap now - IntKind.u64.wrap z)<3)=true:=decide_eq_true hr
 clear hr hz
 go_wp2_with (go_at_call 192;refine HIN.out.mono ?_;rintro e w1 ⟨rfl,rfl⟩;rw [HH.out])
 go_ret
 exact ⟨rfl,⟨_,_,_,_,HI.out.below (ai (Below.refl _ _) _)⟩,(Moves.refl _ _).alloc _⟩
theorem yc {ok:Nat→Prop} {p:Nat} {x:Ep} (t now:Int) (w:World) (h:dz ok p x w) (hg:x.Good) (hh:x.has t=true) (r z:Int) (l:List (Int × Int)) (hl:x.limbo.getD t.toNat []=(r,z)::l) (hz: ¬ z>now) (hr: ¬ IntKind.u64.wrap (IntKind.u64.wrap now - IntKind.u64.wrap z)<3):
  Calls Tryz.prog 194 #[.pointer (some ⟨p,0,none⟩),.int .i64 t,.int .i64 now] w (lT ok p (.int .i64 (x.ready t now).1) (x.ready t now).2 w):=by
 have HIN:=Am_ (rA t w h hg)
 have e1:x.ready t now=(r,{ x with limbo:=x.limbo.set t.toNat l }):=by simp only [Ep.ready,hh,hl,if_true];rw [if_pos (by simp [LU];omega)]
 rw [e1]
 obtain ⟨b0,b1⟩:0≤t∧t<x.said.length:=by simpa [Ep.has] using hh
 obtain ⟨sv,lv,gv,ρ,h⟩:=h
 obtain ⟨A,cr,rfl⟩:=Kd.aJ h.row
 have hn:((List.range x.limbo.length).map fun i=> [gv i]).length=x.limbo.length:=by simp
 rw [hn] at h
 have b3:t<x.limbo.length:=by rw [h.len];exact b1
 obtain ⟨_,g,rfl,hg1,hg2,d2,z2⟩:=h.ig t b0 b3
 have hll:x.limbo[t.toNat]?=some ((r,z)::l):=by
  have:x.limbo[t.toNat]?=some (x.limbo[t.toNat]'(by omega)):=List.getElem?_eq_getElem (by omega)
  rw [List.getD_eq_getElem?_getD,this] at hl
  rw [this]
  exact congrArg some hl
 have hq:=h.limbo _ _ hll
 obtain ⟨gl,ol,cl,hv,_,hglt,_⟩:=Kd.vo hq (by simp)
 have hlen:((r,z)::l).length=l.length+1:=List.length_cons
 have HV:=Am_ hv
 rw [hv,hlen] at d2
 rw [hv] at hq
 have HQ:=Am_ hq
 obtain ⟨cs,_,hM,hcc,_⟩:=Kd.uZ hq (0,0) 0 (by omega) (by simp)
 have hcs:=ku hM
 subst hcs
 have f0:w.cell? ⟨gl,ol,none⟩=some (.int .i64 r):=hcc 0 _ rfl
 have f1:w.cell? ⟨gl,ol+1,none⟩=some (.int .i64 z):=hcc 1 _ rfl
 have HCL:ak (l.length+1≤cl):=⟨by have:=(Kd.jM hq).2.1;rw [hlen] at this;exact this⟩
 have c2:w.cell? ⟨p,2,none⟩=some (.slice (some ⟨g,0,none⟩) x.limbo.length cr):=(af h.box 2).trans rfl
 have HH:=Am_ hh
 have HLL:=Am_ hll
 have HI:=Am_ h
 have HGL:=Am_ hglt
 have HG1:=Am_ hg1
 have u0:(l.length:Int)+1≠0:=by omega
 have u1:decide (((l.length+1:Nat):Int)=0)=false:=decide_eq_false (by omega)
 have u2:(((l.length+1:Nat):Int) == 0)=false:=by simp;omega
 have b4:(0:Int)<((l.length+1:Nat):Int):=by omega
 clear h hg e1 hh hl hll hq hv hg1 hg2 hn hM hcc hglt hlen
 go_enter Tryz.func194,Tryz.ntmps194
 have d1:decide (z>now)=false:=decide_eq_false hz
 have d1b:decide (now<z)=false:=d1
 have d3:decide (IntKind.u64.wrap (IntKind.u64.wrap now - IntKind.u64.wrap z)<3)=false:=decide_eq_false hr
 clear hz hr
 go_upto_region 6 with (go_at_call 192;refine HIN.out.mono ?_;rintro e w1 ⟨rfl,rfl⟩;rw [HH.out])
 have HI2:=Am_ (HI.out.below (ai (Below.refl _ _) (.cells #[.int .i64 r,.int .i64 z] 297)))
 have HM2:=Am_ ((Moves.refl ok w1).alloc (.cells #[.int .i64 r,.int .i64 z] 297))
 have HB2:=Am_ (bU w1 (.cells #[.int .i64 r,.int .i64 z] 297))
 have HQ2:=Am_ (Kd.Hu HQ.out (.cells #[.int .i64 r,.int .i64 z] 297))
 have HNB:ak (w1.heap.size≠g):=⟨fun e=>by have:=HI.out.lt g HG1.out;omega⟩
 have hcut: ∀ W:World,(Instr.slice 130 (.slice (some ⟨gl,ol,none⟩) (l.length+1) cl) (some (.int .i64 1)) none none).run Tryz.prog W= .ok (.slice (if cl=1 then some ⟨gl,ol,none⟩ else (some (⟨gl,ol,none⟩:Addr)).map (·.add 2)) l.length (cl - 1)) W:=fun W=>Ea _ _ _ W
 clear HI f0 f1 c2 d2 z2
 obtain ⟨_,g',e',_,_,d2,_⟩:=HI2.out.ig t b0 b3
 injection e' with e'
 injection e' with e' _ _
 subst e'
 rw [HV.out,show ((r,z)::l).length=l.length+1 from rfl] at d2
 have c2:=(af HI2.out.box 2).trans (rfl:_=some (Value.slice (some ⟨g,0,none⟩) x.limbo.length cr))
 generalize hsz:w1.heap.size=b at HB2 HNB ⊢
 have HSZ:=Am_ hsz
 clear hsz
 generalize w1.alloc (.cells #[.int .i64 r,.int .i64 z] 297)=w2 at HI2 HM2 HB2 HQ2 c2 d2 ⊢
 refine bG (n:=15) (S:=fun w'=>w'.cell? ⟨p,2,none⟩=some (.slice (some ⟨g,0,none⟩) x.limbo.length cr)∧w'.cell? ⟨g,t.toNat,none⟩=some (.slice (some ⟨gl,ol,none⟩) (l.length+1) cl)) (ds:= [14]) (by kernel_rfl) rfl Co wU ⟨c2,d2⟩ (fun hHeld HT_ HW_=>?_)
 have HI2:=Am_ (HI2.out.step (w1:=w2.drew) (Nat.le_refl _) (fun _ _ _=>rfl))
 have HM2:=Am_ HM2.out.drew
 have HB2:=Am_ (aI HB2.out)
 have HQ2:=Am_ (Kd.Ki HQ2.out)
 clear c2 d2
 generalize World.drew _=w2 at HI2 HM2 HB2 HQ2 hHeld ⊢
 refine eO [(0,some 45),(1,some 46),(2,some 47),(3,some 48),(4,some 49),(5,some 50),(6,some 51),(7,some 52),(8,some 53),(9,some 54),(10,some 55),(11,some 56),(12,some 57),(13,some 58)] ?_
 iterate 3 (refine dZ (v:=?_) (a':=?_) HT_ (by kernel_rfl) rfl rfl (fun _ _ _ h=>h) (Or.inl ⟨by rfl,?_⟩) ?_ ?_;rotate_left;(intro w';go_simp;with_reducible rfl);rotate_left;(simp only [Act.put,p1_,p2_,p3_,ax,ay];rfl))
 iterate 11 (refine iW (v:=?_) (a':=?_) HT_ HW_ (by kernel_rfl) rfl rfl (fun _ _ _ h=>h) hHeld (Or.inl ⟨by rfl,?_⟩) ?_ ?_;rotate_left;(rintro w' ⟨s0,s1⟩;go_simp;with_reducible rfl);rotate_left;(simp only [Act.put,p1_,p2_,p3_,ax,ay];rfl))
 refine aZ ?_
 obtain ⟨_,g',e',_,_,_,z2⟩:=HI2.out.ig t b0 b3
 injection e' with e'
 injection e' with e' _ _
 subst e'
 refine bP (i:=14) none HT_ (by kernel_rfl) rfl rfl (by decide) (fun K_ hK=>?_)
 refine fB (w1:=?_) (by rfl) rfl ?_ ?_
 rotate_left; · go_simp;rfl
 refine hK.out _ _ ?_
 clear hK K_
 refine dD (bI HT_.out (by kernel_rfl)) ?_
 have hq:=Kd.Fs HQ2.out (k:=1) (by simp)
 have hq':dw.Q 297 w2 0 (fun k=>ok k∧ρ k=3+t.toNat) (.slice (if cl=1 then some ⟨gl,ol,none⟩ else some ⟨gl,ol+2,none⟩) l.length (cl - 1)) l:=by simpa [Kd.pair,Kd.int,Kd.scalar,Addr.add] using hq
 have q0_:=Am_ (HI2.out.turn t.toNat (by omega) (.slice (if cl=1 then some ⟨gl,ol,none⟩ else some ⟨gl,ol+2,none⟩) l.length (cl - 1)) rfl l hq')
 have q1_:=Am_ (HM2.out.set (p:=⟨g,t.toNat,none⟩) (.inl HG1.out) (.slice (if cl=1 then some ⟨gl,ol,none⟩ else some ⟨gl,ol+2,none⟩) l.length (cl - 1)))
 have q2_:=Am_ (cO HB2.out (p:=⟨g,t.toNat,none⟩) HNB.out (.slice (if cl=1 then some ⟨gl,ol,none⟩ else some ⟨gl,ol+2,none⟩) l.length (cl - 1)))
 clear hq hq' HI2 HM2 HB2 HQ2 hHeld z2 hcut HQ HV
 generalize (Value.slice (if cl=1 then some ⟨gl,ol,none⟩ else some ⟨gl,ol+2,none⟩) l.length (cl - 1))=vl at q0_ q1_ q2_ ⊢
 generalize w2.setCell ⟨g,t.toNat,none⟩ vl=w3 at q0_ q1_ q2_ ⊢
 have f0:=(af q2_.out 0).trans (rfl:_=some (Value.int .i64 r))
 go_wp2_with fail
 go_ret
 exact ⟨rfl,⟨_,_,_,_,q0_.out⟩,q1_.out⟩
theorem DV {ok:Nat→Prop} {p:Nat} {x:Ep} (t now:Int) (w:World) (h:dz ok p x w) (hg:x.Good):
  Calls Tryz.prog 194 #[.pointer (some ⟨p,0,none⟩),.int .i64 t,.int .i64 now] w (lT ok p (.int .i64 (x.ready t now).1) (x.ready t now).2 w):=by
 cases hh:x.has t with
 | false=>exact BI t now w h hg hh
 | true=>
  cases hl:x.limbo.getD t.toNat [] with
  | nil=>exact xY t now w h hg hh hl
  | cons q l=>
   obtain ⟨r,z⟩:=q
   by_cases hz:z>now
   ·exact xZ t now w h hg hh r z l hl hz
   ·by_cases hr:IntKind.u64.wrap (IntKind.u64.wrap now - IntKind.u64.wrap z)<3
    ·exact yg t now w h hg hh r z l hl hz hr
    ·exact yc t now w h hg hh r z l hl hz hr
theorem Ep.Good.ready {x:Ep} (h:x.Good) (t now:Int):(x.ready t now).2.Good:=by
 unfold Ep.ready
 split
 ·split
  ·exact h
  ·split
   ·exact ⟨h.few⟩
   ·exact h
 ·exact h
def Ar.freed (a:Ar) (j:Nat) (s:Sl) (r:Int):Ar:= { a with slots:=a.slots.set j { s with used:=false },free:=a.free++ [dF r],used:=wrap64 (a.used - 1) }
def Ar.mD (a:Ar) (r:Int):Bool × Ar:=
 match a.idx r with
 | none=>(false,a.fault)
 | some j=>match a.slots[j]? with
  | none=>(false,a)
  | some s=>(true,a.freed j s r)
structure CW (ok:Nat→Prop) (pA:Nat) (v:Value) (a1:Ar) (w:World) (e:Ending) (w1:World):Prop where
 val:e= .returned v
 out: ∃ ok1,dn ok1 pA a1 w1∧Moves ok ok1 w w1
theorem bT.Et {ok:Nat→Prop} {pA:Nat} {sv fv v1:Value} {lv:Nat→Lv} {ρ:Nat→Nat} {a:Ar} {W w1:World} {q:Int} (h:bT ok pA sv fv lv ρ a W) (hg:W.grownBy w1 fv.ownBlock)
  (hr:(Kd.int .i64).Q 3 w1 0 (fun k=>(ok k∧ρ k=2)∨W.heap.size≤k) v1 (a.free++ [q])):
  bT (fun k=>ok k∨(W.heap.size≤k∧k<w1.heap.size)) pA sv v1 lv (fun k=>if k<W.heap.size then ρ k else 2) { a with free:=a.free++ [q] } (w1.setCell ⟨pA,1,none⟩ v1):=by
 have hpA:=h.lt pA h.own
 have hs:(w1.setCell ⟨pA,1,none⟩ v1).heap.size=w1.heap.size:=by simp [World.setCell]
 have hne: ∀ r,r≠2→ ∀ k,(ok k∧ρ k=r)→some k≠fv.ownBlock:=fun r hr1 k hk e=>by
  have:=(h.free.1 k e.symm).2
  rw [hk.2] at this
  exact hr1 this
 have hmove: ∀ r,r≠2→r≠0→ ∀ k,(ok k∧ρ k=r)→k<W.heap.size→(w1.setCell ⟨pA,1,none⟩ v1).heap[k]?=W.heap[k]?:=fun r hr1 hr0 k hk hlt=>
  (Below.heap_setCell w1 ⟨pA,1,none⟩ v1 k (fun e=>hr0 (by rw [←hk.2,show k=pA from e,h.role]))).trans (hg.block k hlt (hne r hr1 k hk))
 have hup: ∀ r k,(ok k∧ρ k=r)→k<W.heap.size→((ok k∨(W.heap.size≤k∧k<w1.heap.size))∧(if k<W.heap.size then ρ k else 2)=r):=fun r k hk hlt=>⟨.inl hk.1,by rw [if_pos hlt];exact hk.2⟩
 exact {
  own:= .inl h.own
  role:=by rw [if_pos hpA];exact h.role
  lt:=fun k hk=>by
   rw [hs]
   rcases hk with hk | hk
   ·exact Nat.lt_of_lt_of_le (h.lt k hk) hg.size
   ·exact hk.2
  box:=by
   have h0:=bJ h.box hg (fun e=>by have:=(h.free.1 pA e.symm).2;rw [h.role] at this;cases this)
   exact bH h0 1 v1
  free:=by
   refine Kd.pW (Kd.lV (Kd.pV hr) (fun k hk=>?_)) (fun k hk e=>?_) v1
   ·have hlt:=hk.2.2.1
    rcases hk.1 with h1 | h1
    ·exact ⟨.inl h1.1,by rw [if_pos (h.lt k h1.1)];exact h1.2⟩
    ·exact ⟨.inr ⟨h1,hlt⟩,by rw [if_neg (by omega)]⟩
   ·have:=hk.2
    rw [show k=pA from e,if_pos hpA,h.role] at this
    cases this
  rows:=Kd.bq (Kd.bQ (Kd.bL h.rows) (fun k hk hlt=>hmove 1 (by decide) (by decide) k hk.1 hlt)) (fun k hk=>hup 1 k hk.1 (h.lt k hk.1.1))
  node:=fun i s h2=>by
   have hn:=h.node i s h2
   exact ⟨(hn.1.step (hmove 3 (by decide) (by decide))).mono (fun k hk _=>hup 3 k hk (h.lt k hk.1)),(hn.2.1.step (hmove 3 (by decide) (by decide))).mono (fun k hk _=>hup 3 k hk (h.lt k hk.1)),(hn.2.2.step (hmove 3 (by decide) (by decide))).mono (fun k hk _=>hup 3 k hk (h.lt k hk.1))⟩
  ways:=fun i s h2=>Kd.bq (Kd.bQ (h.ways i s h2) (hmove _ (by omega) (by omega))) (fun k hk=>hup _ k hk (h.lt k hk.1)) }
def FE:Bool × List (List Nat × List Nat):=(true,[([],[]),([],[]),([1],[1]),([2],[2]),([3],[3]),([],[]),([5],[5]),([6],[6]),([4,7,6],[4,7]),([0,0,1,2,3,4,5,6,7,8],[0]),([9,0,1,2,3,4,5,6,7,8],[9]),([10,8,8,0,1,2,3,4,5,6,7,8],[8,10])])
def JK:List Nat:= [0,0,2,6,14,0,32,96,254,511,1023,2047]
theorem EH:fq .any (opsOf Tryz.f113 5)=FE:=by kernel_rfl
theorem zJ:bA FE.2 JK=true:=by kernel_rfl
theorem xD {ok:Nat→Prop} {pA:Nat} {a:Ar} (r:Int) (w:World) (h:dn ok pA a w) (hl:a.slots.length<1000000) (hfl:a.free.length<1000000):
  Calls Tryz.prog 113 #[.pointer (some ⟨pA,0,none⟩),.int .i64 r] w (CW ok pA (.bool (a.mD r).1) (a.mD r).2 w):=by
 obtain ⟨sv,fv,lv,ρ,h⟩:=h
 have HA:=Am_ (iD r w h hl)
 cases hx:a.idx r with
 | none=>
  have HF:=Am_ (iX h)
  have HX:=Am_ hx
  have e1:a.mD r=(false,a.fault):=by simp [Ar.mD,hx]
  rw [e1]
  clear h hx e1
  go_enter Tryz.func113,Tryz.ntmps113
  go_wp2_with (go_at_call 127;refine HA.out.mono ?_;rintro e w1 ⟨_,hm⟩;obtain ⟨rfl,rfl⟩:=hm HX.out;clear hm)
  go_ret
  exact ⟨rfl,ok,HF.out.1,HF.out.2⟩
 | some j=>
 obtain ⟨hp,s,hs,hu,hr⟩:=Ar.fV hx
 obtain ⟨ad,cap,rfl⟩:=Kd.aJ h.rows
 obtain ⟨hn,g,rfl,hg,hρ,hcc,hfz⟩:=h.cells hs
 have HX:=Am_ hx
 have HI:=Am_ h
 have HS:=Am_ hs
 have c9:w.cell? ⟨g,j*10+9,none⟩=some (.bool s.used):=hcc 9 _ rfl
 have z9:=hfz 9
 have e1:a.mD r=(true,a.freed j s r):=by simp [Ar.mD,hx,hs]
 rw [e1]
 have HG:=Am_ hg
 clear h hx hcc hfz hp hs hu hr e1 hg
 go_enter Tryz.func113,Tryz.ntmps113
 go_upto_region 5 with (go_at_call 127;refine HA.out.mono ?_;rintro e w1 ⟨hm,_⟩;obtain ⟨g1,n1,cap1,e1,rfl,rfl⟩:=hm j HX.out;injection e1 with e1 _ _;injection e1 with e1;injection e1 with e1 _ _;subst e1;clear hm)
 have hN9:=HI.out.node _ _ HS.out
 have hW9:=HI.out.ways _ _ HS.out
 have q0_:=Am_ (HI.out.seg HS.out 9 [.bool false] (by simp) { s with used:=false } lv (fun _ _=>rfl) rfl hN9 hW9)
 have q0_:ak (bT ok pA _ fv lv ρ _ (w1.setCell ⟨g,j*10+9,none⟩ (.bool false))):=q0_
 have q1_:=Am_ ((Moves.refl ok w1).set (p:=⟨g,j*10+9,none⟩) (.inl HG.out) (.bool false))
 clear HI hN9 hW9 c9 z9
 generalize w1.setCell ⟨g,j*10+9,none⟩ (.bool false)=w2 at q0_ q1_ ⊢
 obtain ⟨Af,cf,rfl,_⟩:=Kd.jY q0_.out.free
 have c1:=(af q0_.out.box 1).trans (rfl:_=some (Value.slice Af a.free.length cf))
 refine bG (n:=12) (S:=fun w'=>w'.cell? ⟨pA,1,none⟩=some (.slice Af a.free.length cf)) (ds:= [8,11]) (by kernel_rfl) rfl EH zJ c1 (fun hHeld HT_ HW_=>?_)
 have q0_:=Am_ (q0_.out.step (w1:=w2.drew) (Nat.le_refl _) (fun _ _ _=>rfl))
 have q1_:=Am_ q1_.out.drew
 clear c1
 generalize World.drew _=w2 at q0_ q1_ hHeld ⊢
 refine eO [(0,some 14),(1,some 15),(2,some 16),(3,some 17),(4,some 18),(5,some 19)] ?_
 iterate 4 (refine dZ (v:=?_) (a':=?_) HT_ (by kernel_rfl) rfl rfl (fun _ _ _ h=>h) (Or.inl ⟨by rfl,?_⟩) ?_ ?_;rotate_left;(intro w';go_simp;with_reducible rfl);rotate_left;(simp only [Act.put,p1_,p2_,p3_,ax,ay];rfl))
 iterate 2 (refine iW (v:=?_) (a':=?_) HT_ HW_ (by kernel_rfl) rfl rfl (fun _ _ _ h=>h) hHeld (Or.inl ⟨by rfl,?_⟩) ?_ ?_;rotate_left;(rintro w' s0;go_simp;with_reducible rfl);rotate_left;(simp only [Act.put,p1_,p2_,p3_,ax,ay];rfl))
 refine aZ ?_
 refine dR (i:=6) (some 20) HT_ (by kernel_rfl) rfl rfl (by decide) (fun K_ hK=>?_)
 refine call_ 166 #[.int .i64 r] (by rfl) rfl ?hrun6 ?_
 (case hrun6=>first | (go_simp;done) | (go_simp;exact enters Tryz.func166 (by kernel_rfl) rfl _ _))
 refine (jl r _).mono ?_
 rintro e w2 ⟨rfl,rfl⟩
 refine ⟨_,rfl,?_⟩
 refine hK.out _ _ hHeld (fun hHeld=>?_)
 clear hK K_
 refine bK (a':=?_) ?_ ?_
 rotate_left; · show Act.put _ (some 20) _=_;simp only [Act.put,p1_,p2_,p3_,ax,ay];rfl
 refine dR (i:=7) (some 21) HT_ (by kernel_rfl) rfl rfl (by decide) (fun K_ hK=>?_)
 refine fT (v:= .slice (some ⟨w2.heap.size,0,none⟩) 1 1) (w1:=w2.alloc (.cells #[.int .i64 (dF r)] 3)) (by rfl) rfl ?hbs ?_
 (case hbs=>go_simp)
 refine hK.out _ _ (aj (ai (Below.refl _ _) _) hHeld) (fun hHeld=>?_)
 clear hK K_
 refine bK (a':=?_) ?_ ?_
 rotate_left; · show Act.put _ (some 21) _=_;simp only [Act.put,p1_,p2_,p3_,ax,ay];rfl
 refine bP (i:=8) (some 22) HT_ (by kernel_rfl) rfl rfl (by decide) (fun K_ hK=>?_)
 refine Kd.kE (Kd.int .i64) (w0:=w2) 0 (by rfl) (.tmp 18) (.tmp 21) 85 3 (.int .i64 0) 8 rfl Tryz.underlying85 vP rfl (by decide) (by decide) (.slice Af a.free.length cf) a.free (dF r) [.int .i64 (dF r)] (fun k=>(ok k∧ρ k=2)∨w2.heap.size≤k) (fun _=>False) rfl rfl ?aP (fun _ hk=>hk.elim) (fun k hk=> .inr hk) (Kd.lV q0_.out.free (fun k hk=> .inl hk)) (Below.refl _ _) (Nat.zero_le _) (by omega) ?_
 (case aP=>rfl)
 intro v5 w5 ho hb5 hg hat
 have hle:(a.free++ [dF r]).length=a.free.length+1:=by simp
 obtain ⟨A5,cc5,rfl,_⟩:=Kd.jY ho
 rw [hle] at ho hat ⊢
 have hne:some pA≠(Value.slice Af a.free.length cf).ownBlock:=(fun e=>by have:=(q0_.out.free.1 pA e.symm).2;rw [q0_.out.role] at this;cases this)
 have f0:w5.frozen? ⟨pA,1,none⟩=false:=ah (bJ q0_.out.box hg hne) 1
 have c0:=(af (bJ q0_.out.box hg hne) 1).trans (rfl:_=some (Value.slice Af a.free.length cf))
 have m0_:=Am_ ho
 have m1_:=Am_ hg
 clear ho hg hat hb5 hne hle
 refine hK.out _ _ ?_
 clear hK K_
 refine bK (a':=?_) ?_ ?_
 rotate_left; · show Act.put _ (some 22) _=_;simp only [Act.put,p1_,p2_,p3_,ax,ay];rfl
 refine eO [(9,some 23),(10,some 24)] ?_
 iterate 2 (refine dZ (v:=?_) (a':=?_) HT_ (by kernel_rfl) rfl rfl (fun _ _ _ h=>h) (Or.inl ⟨by rfl,?_⟩) ?_ ?_;rotate_left;(intro w';go_simp;with_reducible rfl);rotate_left;(simp only [Act.put,p1_,p2_,p3_,ax,ay];rfl))
 refine aZ ?_
 refine bP (i:=11) none HT_ (by kernel_rfl) rfl rfl (by decide) (fun K_ hK=>?_)
 refine fB (w1:=?_) (by rfl) rfl ?_ ?_
 rotate_left; · go_simp;rfl
 refine hK.out _ _ ?_
 clear hK K_
 refine dD (bI HT_.out (by kernel_rfl)) ?_
 have n0_:=Am_ (q0_.out.Et m1_.out m0_.out)
 have n1_:ak (Moves ok (fun k=>ok k∨(w2.heap.size≤k∧k<w5.heap.size)) w1 (w5.setCell ⟨pA,1,none⟩ (.slice A5 (a.free.length+1) cc5))):=⟨((q1_.out.grown m1_.out (fun k hk=> .inl (q0_.out.free.1 k hk).1)).set (p:=⟨pA,1,none⟩) (.inl q0_.out.own) _).owns (fun k hk=>hk.elim .inl (fun h1=> .inr (by have:=q1_.out.size;omega)))⟩
 clear q0_ q1_ m0_ m1_ c0 f0
 generalize w5.setCell ⟨pA,1,none⟩ (.slice A5 (a.free.length+1) cc5)=w6 at n0_ n1_ ⊢
 generalize (fun k=>ok k∨(w2.heap.size≤k∧k<w5.heap.size))=ok6 at n0_ n1_
 generalize (fun k=>if k<w2.heap.size then ρ k else 2)=ρ6 at n0_
 have c3:=(af n0_.out.box 3).trans (rfl:_=some (Value.int .i64 a.used))
 have z3:=ah n0_.out.box 3
 go_wp2_with fail
 go_ret
 exact ⟨rfl,ok6,⟨_,_,_,_,n0_.out.qd 3 (.int .i64 (wrap64 (a.used - 1))) (a.freed j s r) rfl rfl rfl⟩,n1_.out.set (p:=⟨pA,3,none⟩) (n1_.out.fresh pA n0_.out.own) _⟩
theorem Ar.Good.DZ {a:Ar} (h:a.Good):a.free.length<1000000:=by
 have h1:=h.used
 have h2:=h.cnt
 have h3:=h.slots
 have h4:=h.most
 omega
theorem Ar.Good.mD {a:Ar} (h:a.Good) (r:Int):(a.mD r).2.Good:=by
 unfold Ar.mD
 cases hx:a.idx r with
 | none=>exact h.fault
 | some j=>
  obtain ⟨hp,s,hs,hu,hr⟩:=Ar.fV hx
  simp only [hs]
  have hj:=(List.getElem?_eq_some_iff.1 hs).1
  have hjs:=(List.getElem?_eq_some_iff.1 hs).2
  have h1:=h.used
  have h2:=h.cnt
  have h3:=h.slots
  have h4:=h.most
  have hpos:0<a.slots.countP fun s=>s.used:=List.countP_pos_iff.2 ⟨s,by rw [←hjs];exact List.getElem_mem hj,hu⟩
  have hc:(a.slots.set j { s with used:=false }).countP (fun s=>s.used)=(a.slots.countP fun s=>s.used) - 1:=by
   rw [List.countP_set hj]
   simp [hjs,hu]
  have hw:wrap64 (a.used - 1)=a.used - 1:=by unfold wrap64;omega
  refine ⟨h4,by show ((a.slots.set j _).length:Int)≤_;rw [List.length_set];exact h3,?_,?_,fun i q hi=>?_⟩
  ·show wrap64 (a.used - 1)+((a.free++ [dF r]).length:Int)=((a.slots.set j _).length:Int)
   rw [List.length_set,hw,List.length_append,List.length_singleton]
   omega
  ·show (((a.slots.set j _).countP fun s=>s.used:Nat):Int)≤wrap64 (a.used - 1)
   rw [hc,hw]
   omega
  ·by_cases e:j=i
   ·subst e
    have hi:(a.slots.set j { s with used:=false })[j]?=some q:=hi
    rw [List.getElem?_set_self hj] at hi
    injection hi with hi
    subst hi
    exact h.small j s hs
   ·have hi:(a.slots.set j { s with used:=false })[i]?=some q:=hi
    rw [List.getElem?_set_ne e] at hi
    exact h.small i q hi
def Ws.one (x:Ws) (me now:Int):Int × Ws:=
 if (x.ep.ready me now).1=0 then (0,{ x with ep:=(x.ep.ready me now).2 })
 else ((x.ep.ready me now).1,{ x with ep:=(x.ep.ready me now).2,ar:=(x.ar.mD (x.ep.ready me now).1).2 })
structure FC (p:Nat) (v:Value) (x1:Ws) (okS:Nat→Prop) (w:World) (e:Ending) (w2:World):Prop where
 out: ∃ okS1,e= .returned v∧shW p x1 okS1 w2∧Moves okS okS1 w w2
def KE:Bool × List (List Nat × List Nat):=(true,[([],[]),([0],[0]),([1],[1]),([2],[2]),([3],[3]),([],[]),([5],[5]),([],[]),([4,6,7],[4,6,7]),([8,8,0,1,2,3,4,5,6,7,8],[8])])
def Mf:List Nat:= [0,1,3,7,15,0,32,0,255,511]
theorem Jm:fq .any (opsOf Tryz.f158 1)=KE:=by kernel_rfl
theorem Du:bA KE.2 Mf=true:=by kernel_rfl
theorem Bu (p tb:Nat) (x:Ws) (me now:Int) (w:World) (okS:Nat→Prop) (h:shW p x okS w):
  Calls Tryz.prog 158 #[eP tb p me,.int .i64 now] w (FC p (.int .i64 (x.one me now).1) (x.one me now).2 okS w):=by
 obtain ⟨⟨okA,okR,okE,pA,pR,pE,h⟩,hg⟩:=h
 have HG:=Am_ hg
 have HL:=Am_ (fun k (hk:okS k)=>((gQ p).lt (x:=x) ⟨_,_,_,_,_,_,h⟩ k hk))
 have HW:=Am_ (h.step (w1:=w.alloc (fC tb p me)) (by simp) (fun k _ hlt=>Below.heap_alloc _ _ _ hlt))
 have HM:=Am_ ((Moves.refl okS w).alloc (fC tb p me))
 have HB:=Am_ (bU w (fC tb p me))
 unfold fC at HW HM HB
 have HTV:eP tb p me= .agg #[.pointer (some ⟨tb,0,none⟩),.pointer (some ⟨p,0,none⟩),.int .i64 me]:=rfl
 rw [HTV]
 generalize hone:x.one me now=res
 have HONE:=Am_ hone
 clear h hg HTV hone
 go_enter Tryz.func158,Tryz.ntmps158
 go_upto_region 1 with fail
 generalize hw1:w.alloc (.cells #[.pointer (some ⟨tb,0,none⟩),.pointer (some ⟨p,0,none⟩),.int .i64 me] 114)=w1 at HW HM HB ⊢
 have HN:ak (¬ okS w.heap.size):=⟨fun hk=>by have:=HL.out _ hk;omega⟩
 generalize hbb:w.heap.size=b at HB HN ⊢
 have HBB:=Am_ hbb
 clear hw1 hbb
 have HC:=Am_ (And.intro ((af HB.out 1).trans (rfl:_=some (Value.pointer (some ⟨p,0,none⟩)))) (And.intro ((af HB.out 2).trans (rfl:_=some (Value.int .i64 me))) ((af HW.out.box 2).trans (rfl:_=some (Value.pointer (some ⟨pE,0,none⟩))))))
 refine bG (n:=10) (S:=fun w'=>w'.cell? ⟨b,1,none⟩=some (.pointer (some ⟨p,0,none⟩))∧w'.cell? ⟨b,2,none⟩=some (.int .i64 me)∧w'.cell? ⟨p,2,none⟩=some (.pointer (some ⟨pE,0,none⟩))) (ds:= [8]) (by kernel_rfl) rfl Jm Du HC.out (fun hHeld HT_ HW_=>?_)
 have HW:=Am_ (HW.out.step (w1:=w1.drew) (Nat.le_refl _) (fun _ _ _=>rfl))
 have HM:=Am_ HM.out.drew
 have HB:=Am_ (aI HB.out)
 clear HC
 generalize World.drew _=w1 at HW HM HB hHeld ⊢
 refine eO [(0,some 6),(1,some 7),(2,some 8),(3,some 9),(4,some 10),(5,some 11),(6,some 12),(7,some 13)] ?_
 (refine dZ (v:=?_) (a':=?_) HT_ (by kernel_rfl) rfl rfl (fun _ _ _ h=>h) (Or.inl ⟨by rfl,?_⟩) ?_ ?_;rotate_left;(intro w';go_simp;with_reducible rfl);rotate_left;(simp only [Act.put,p1_,p2_,p3_,ax,ay];rfl))
 iterate 7 (refine iW (v:=?_) (a':=?_) HT_ HW_ (by kernel_rfl) rfl rfl (fun _ _ _ h=>h) hHeld (Or.inl ⟨by rfl,?_⟩) ?_ ?_;rotate_left;(rintro w' ⟨s0,s1,s2⟩;go_simp;with_reducible rfl);rotate_left;(simp only [Act.put,p1_,p2_,p3_,ax,ay];rfl))
 refine aZ ?_
 refine bP (i:=8) (some 14) HT_ (by kernel_rfl) rfl rfl (by decide) (fun K_ hK=>?_)
 refine call_ 194 #[.pointer (some ⟨pE,0,none⟩),.int .i64 me,.int .i64 now] (by rfl) rfl ?hrun8 ?_
 (case hrun8=>first | (go_simp;done) | (go_simp;exact enters Tryz.func194 (by kernel_rfl) rfl _ _))
 refine (DV me now _ HW.out.ep HG.out.ep).mono ?_
 rintro e w2 ⟨rfl,hE,hM⟩
 have hWM:=HW.out.iE hE hM
 have W2:=Am_ hWM.1
 have M2:=Am_ (HM.out.trans hWM.2)
 have B2:=Am_ ((hWM.2.block b (bD HB.out) HN.out).trans HB.out)
 clear hE hM hWM HW HM HB
 refine ⟨_,rfl,?_⟩
 refine hK.out _ _ ?_
 clear hK K_
 refine bK (a':=?_) ?_ ?_
 rotate_left; · show Act.put _ (some 14) _=_;simp only [Act.put,p1_,p2_,p3_,ax,ay];rfl
 refine eO [(9,some 5)] ?_
 (refine dZ (v:=?_) (a':=?_) HT_ (by kernel_rfl) rfl rfl (fun _ _ _ h=>h) (Or.inl ⟨by rfl,?_⟩) ?_ ?_;rotate_left;(intro w';go_simp;with_reducible rfl);rotate_left;(simp only [Act.put,p1_,p2_,p3_,ax,ay];rfl))
 refine aZ ?_
 refine dD (bI HT_.out (by kernel_rfl)) ?_
 have G2:ak (Ws.Good { x with ep:=(x.ep.ready me now).2 }):=⟨⟨HG.out.ar,HG.out.ep.ready me now,HG.out.tb⟩⟩
 have c1:=(af B2.out 1).trans (rfl:_=some (Value.pointer (some ⟨p,0,none⟩)))
 have c0:=(af W2.out.box 0).trans (rfl:_=some (Value.pointer (some ⟨pA,0,none⟩)))
 by_cases h0:(x.ep.ready me now).1=0
 ·have e1:x.one me now=(0,{ x with ep:=(x.ep.ready me now).2 }):=if_pos h0
  have e2:=HONE.out.symm.trans e1
  subst e2
  have hb:((x.ep.ready me now).1 == 0)=true:=by simp [h0]
  have hb2:((x.ep.ready me now).1 != 0)=false:=by simp [h0]
  have H0:=Am_ h0
  clear h0 e1 HONE
  go_wp2_with fail
  go_ret
  exact ⟨_,by rw [H0.out];rfl,⟨⟨_,_,_,_,_,_,W2.out⟩,G2.out⟩,M2.out⟩
 ·have e1:x.one me now=((x.ep.ready me now).1,{ x with ep:=(x.ep.ready me now).2,ar:=(x.ar.mD (x.ep.ready me now).1).2 }):=if_neg h0
  have e2:=HONE.out.symm.trans e1
  subst e2
  have hb:((x.ep.ready me now).1 == 0)=false:=by simp [h0]
  have hb2:((x.ep.ready me now).1 != 0)=true:=by simp [h0]
  clear h0 e1 HONE
  go_wp2_with (go_at_call 113;refine (xD (x.ep.ready me now).1 _ W2.out.ar (by have h1:=G2.out.ar.slots;have h2:=G2.out.ar.most;have h3:(x.ar.slots.length:Int)≤x.ar.most:=h1;have h4:x.ar.most≤65536:=h2;show x.ar.slots.length<1000000;omega) G2.out.ar.DZ).mono ?_;rintro e w3 ⟨rfl,okA3,hA3,hM3⟩;have W3:=Am_ (W2.out.cK hA3 hM3).1;have M3:=Am_ (M2.out.trans (W2.out.cK hA3 hM3).2);clear hA3 hM3)
  go_ret
  exact ⟨_,rfl,⟨⟨_,_,_,_,_,_,W3.out⟩,⟨HG.out.ar.mD _,G2.out.ep,HG.out.tb⟩⟩,M3.out⟩
theorem rq (p tb:Nat) (x:Ws) (me now:Int) (w:World) (okS:Nat→Prop) (bt bn:Nat) (h:shW p x okS w) (hb:w.heap[bt]?=some (fC tb p me)) (hn:w.cell? ⟨bn,0,none⟩=some (.int .i64 now)):
  Calls Tryz.prog 157 #[.pointer (some ⟨bt,0,none⟩),.pointer (some ⟨bn,0,none⟩)] w (FC p (.int .i64 (x.one me now).1) (x.one me now).2 okS w):=by
 have H:=Am_ (Bu p tb x me now w okS h)
 unfold eP at H
 have c0:=(af hb 0).trans (rfl:_=some (Value.pointer (some ⟨tb,0,none⟩)))
 have c1:=(af hb 1).trans (rfl:_=some (Value.pointer (some ⟨p,0,none⟩)))
 have c2:=(af hb 2).trans (rfl:_=some (Value.int .i64 me))
 clear h hb
 go_enter Tryz.func157,Tryz.ntmps157
 go_wp2_with (go_at_call 158;refine H.out.mono ?_;rintro e w2 ⟨okS1,rfl,h1,h2⟩;have H1:=Am_ h1;have H2:=Am_ h2;clear h1 h2)
 go_ret
 exact ⟨okS1,rfl,H1.out,H2.out⟩
def dS {X α:Type} (a:α):Pr X α:=fun s=>some (.ret a,s)
def LW (me n:Int):Pr Ws Int:=doT (fun x=>(0,{ x with ep:=x.ep.say me n }))
def Lp (k:Int):Pr Ws Int:=doT (fun x=>(x.ep.nY k,x))
def swapT (n:Int):Pr Ws Bool:=Gb (fun x=>((x.ep.swap n).1,{ x with ep:=(x.ep.swap n).2 }))
def NG (me n:Int):Pr Ws Int:=doT (fun x=>x.one me n)
def allT (n:Int):Nat→Nat→Pr Ws Bool
 | 0,_=>dS true
 | m+1,k=>aU (Lp k) fun q=>if q≠ -1∧q≠n then dS false else allT n m (k+1)
def lu (me n:Int):Nat→Pr Ws Unit
 | 0=>fun _=>none
 | f+1=>aU (NG me n) fun r=>if r=0 then dS () else lu me n f
def MG (me:Int) (f:Nat):Pr Ws Unit:=aU Lf fun n=>lu me n f
def Ig (me n:Int) (f:Nat) (all:Bool):Pr Ws Unit:=if all then aU (swapT n) fun _=>MG me f else MG me f
def NC (me n:Int) (f:Nat):Pr Ws Unit:=aU (LW me n) fun _=>aU (fun s=>allT n s.sh.ep.said.length 0 s) (Ig me n f)
def Gc (me:Int) (f:Nat):Pr Ws Unit:=aU Lf fun n=>NC me n f
def NE (me:Int):Pr Ws Unit:=aU (LW me (-1)) fun _=>dS ()
def jE (n:Int):Obj:= .cells #[.int .i64 n] 2 (0,0)
def Ih (n:Int):Obj:= .cells #[.int .i64 n] 3 (0,0)
section
variable {p tb:Nat} {work:Value} {me:Int} {bt bn bk:Nat} {n:Int} {ok okc:Nat→Prop} {w wc:World} {s t:TS Ws}
theorem aH.NV (h:aH p tb work me bt ok w okc s wc) (hn:Mine okc wc bn (jE n)) {o:Out Int} (hd:LW me n s=some (o,t)):
  Calls Tryz.prog 137 #[.pointer (some ⟨tb,0,none⟩),.func (.func 149) #[] #[.pointer (some ⟨bt,0,none⟩),.pointer (some ⟨bn,0,none⟩)]] wc (fD oD p tb work me bt ok w okc o t wc):=
 h.do_ _ 149 _ (enters Tryz.func149 (by kernel_rfl) rfl _) (fun w1 okS hm hk hs=>qY p s.sh me n w1 okS bt bn hs ((af (h.box.moves hm).1 1).trans rfl) ((af (h.box.moves hm).1 2).trans rfl) ((af (hn.moves hm).1 0).trans rfl)) hd
theorem aH.Nw (h:aH p tb work me bt ok w okc s wc) (hn:Mine okc wc bk (Ih n)) {o:Out Int} (hd:Lp n s=some (o,t)):
  Calls Tryz.prog 137 #[.pointer (some ⟨tb,0,none⟩),.func (.func 152) #[] #[.pointer (some ⟨bt,0,none⟩),.pointer (some ⟨bk,0,none⟩)]] wc (fD oD p tb work me bt ok w okc o t wc):=
 h.do_ _ 152 _ (enters Tryz.func152 (by kernel_rfl) rfl _) (fun w1 okS hm hk hs=>qZ p s.sh n w1 okS bt bk hs ((af (h.box.moves hm).1 1).trans rfl) ((af (hn.moves hm).1 0).trans rfl)) hd
theorem aH.swap_ (h:aH p tb work me bt ok w okc s wc) (hn:Mine okc wc bn (jE n)) {o:Out Bool} (hd:swapT n s=some (o,t)):
  Calls Tryz.prog 154 #[.pointer (some ⟨tb,0,none⟩),.func (.func 155) #[] #[.pointer (some ⟨bt,0,none⟩),.pointer (some ⟨bn,0,none⟩)]] wc (fD xh p tb work me bt ok w okc o t wc):=
 h.KN _ 155 _ (enters Tryz.func155 (by kernel_rfl) rfl _) (fun w1 okS hm hk hs=>rf p s.sh n w1 okS bt bn hs ((af (h.box.moves hm).1 1).trans rfl) ((af (hn.moves hm).1 0).trans rfl)) hd
theorem aH.nS (h:aH p tb work me bt ok w okc s wc) (hn:Mine okc wc bn (jE n)) {o:Out Int} (hd:NG me n s=some (o,t)):
  Calls Tryz.prog 137 #[.pointer (some ⟨tb,0,none⟩),.func (.func 157) #[] #[.pointer (some ⟨bt,0,none⟩),.pointer (some ⟨bn,0,none⟩)]] wc (fD oD p tb work me bt ok w okc o t wc):=
 h.do_ _ 157 _ (enters Tryz.func157 (by kernel_rfl) rfl _) (fun w1 okS hm hk hs=>(rq p tb s.sh me n w1 okS bt bn hs (h.box.moves hm).1 ((af (hn.moves hm).1 0).trans rfl)).mono (fun _ _ h=>h.out)) hd
theorem aH.MS (h:aH p tb work me bt ok w okc s wc) {o:Out Int} (hd:LW me (-1) s=some (o,t)):
  Calls Tryz.prog 137 #[.pointer (some ⟨tb,0,none⟩),.func (.func 165) #[] #[.pointer (some ⟨bt,0,none⟩)]] wc (fD oD p tb work me bt ok w okc o t wc):=
 h.do_ _ 165 _ (enters Tryz.func165 (by kernel_rfl) rfl _) (fun w1 okS hm hk hs=>xA p s.sh me w1 okS bt hs ((af (h.box.moves hm).1 1).trans rfl) ((af (h.box.moves hm).1 2).trans rfl)) hd
theorem aH.len_ (h:aH p tb work me bt ok w okc s wc) {pE:Nat} (hp:wc.cell? ⟨p,2,none⟩=some (.pointer (some ⟨pE,0,none⟩))):
  Calls Tryz.prog 151 #[.pointer (some ⟨pE,0,none⟩)] wc fun e w1=>e= .returned (.int .i64 s.sh.ep.said.length)∧w1=wc:=by
 obtain ⟨_,_,⟨⟨okA,okR,okE,pA,pR,pE1,hw⟩,hg⟩,_⟩:=h.run.direct
 have h1:=(af hw.box 2).symm.trans hp
 injection h1 with h1
 injection h1 with h1
 injection h1 with h1
 injection h1 with h1
 subst h1
 exact KT wc hw.ep
theorem aH.few (h:aH p tb work me bt ok w okc s wc):s.sh.ep.said.length≤64:=by
 obtain ⟨_,_,⟨_,hg⟩,_⟩:=h.run.direct
 exact hg.ep.few
end
theorem fK {X α β γ:Type} {m:Pr X α} {f:α→Pr X β} {g:β→Pr X γ} {s:TS X} {res:Out γ × TS X} (h:aU (aU m f) g s=some res):aU m (fun a=>aU (f a) g) s=some res:=by
 unfold aU at h ⊢
 cases hm:m s with
 | none=>simp only [hm] at h;cases h
 | some r=>
  obtain ⟨o,t⟩:=r
  cases o with
  | wait=>simp only [hm] at h ⊢;exact h
  | ret a=>simp only [hm] at h ⊢;exact h
structure sO (p tb:Nat) (work:Value) (me:Int) (bt:Nat) (ok:Nat→Prop) (w:World) (bn:Nat) (n:Int) (rest:Pr Ws Unit) (res:Out Unit × TS Ws) (wc:World):Prop where
 out: ∃ okc s,aH p tb work me bt ok w okc s wc∧Mine okc wc bn (jE n)∧bn≠bt∧w.heap.size≤bn∧rest s=some res
def yZ:Bool × List (List Nat × List Nat):=(true,[([],[]),([0],[0]),([],[]),([2],[2]),([3],[3]),([4],[4]),([5],[5]),([6],[6]),([1,7],[1,7]),([],[]),([9,8,8,0,1,2,3,4,5,6,7,8,9],[8,9])])
def GI:List Nat:= [0,1,0,4,12,28,60,124,255,0,1023]
theorem Cf:fq .any (opsOf Tryz.f99 1)=yZ:=by kernel_rfl
theorem wM:bA yZ.2 GI=true:=by kernel_rfl
def vD:Bool × List (List Nat × List Nat):=(true,[([],[]),([0],[0]),([],[]),([2],[2]),([3],[3]),([4],[4]),([5],[5]),([6],[6]),([1,7],[1,7]),([8,8,0,1,2,3,4,5,6,7,8],[8])])
def CS:List Nat:= [0,1,0,4,12,28,60,124,255,511]
theorem yD:fq .any (opsOf Tryz.f99 13)=vD:=by kernel_rfl
theorem tJ:bA vD.2 CS=true:=by kernel_rfl
theorem tH (p tb:Nat) (work:Value) (me:Int) (ok:Nat→Prop) (s:TS Ws) (w:World) (f:Nat) (h:dN (shW p) tb work ok s w) (res:Out Unit × TS Ws) (hr:Gc me f s=some res):
  Calls Tryz.prog 99 #[eP tb p me] w (fQ (shW p) tb work Di ok w res):=by
 have HT:=Am_ (aH.enter (me:=me) h)
 have HR:=Am_ hr
 have HWT:ak (w.heap.size<(w.alloc (fC tb p me)).heap.size):=⟨by simp⟩
 have HTV:eP tb p me= .agg #[.pointer (some ⟨tb,0,none⟩),.pointer (some ⟨p,0,none⟩),.int .i64 me]:=rfl
 rw [HTV]
 have HTO:fC tb p me= .cells #[.pointer (some ⟨tb,0,none⟩),.pointer (some ⟨p,0,none⟩),.int .i64 me] 114:=rfl
 rw [HTO] at HT HWT
 clear h hr HTV HTO
 go_enter Tryz.func99,Tryz.ntmps99
 go_upto_region 1 with fail
 generalize w.alloc (.cells #[.pointer (some ⟨tb,0,none⟩),.pointer (some ⟨p,0,none⟩),.int .i64 me] 114)=w1 at HT HWT ⊢
 generalize hbb:w.heap.size=bt at HT HWT ⊢
 have HBT:ak (w.heap.size≤bt):=⟨by omega⟩
 clear hbb
 go_cut [2] from 6 (fun v2 wc=> ∃ (bn:Nat) (n:Int),v2= .pointer (some ⟨bn,0,none⟩)∧ak (sO p tb work me bt ok w bn n (NC me n f) res wc))
 case first=>
  obtain ⟨pE,hpE⟩:=HT.out.pE
  have HC:=Am_ (And.intro HT.out.c0 (And.intro HT.out.c1 hpE))
  clear hpE
  refine bG (n:=11) (S:=fun w'=>w'.cell? ⟨bt,0,none⟩=some (.pointer (some ⟨tb,0,none⟩))∧w'.cell? ⟨bt,1,none⟩=some (.pointer (some ⟨p,0,none⟩))∧w'.cell? ⟨p,2,none⟩=some (.pointer (some ⟨pE,0,none⟩))) (ds:= [8,10]) (by kernel_rfl) rfl Cf wM HC.out (fun hHeld HT_ HW_=>?_)
  have HT:=Am_ HT.out.drew
  have HWT:ak (bt<w1.drew.heap.size):=HWT
  clear HC
  generalize World.drew _=w1 at HT HWT hHeld ⊢
  refine eO [(0,some 6),(1,some 7),(2,some 8),(3,some 9),(4,some 10),(5,some 11),(6,some 12),(7,some 13)] ?_
  (refine dZ (v:=?_) (a':=?_) HT_ (by kernel_rfl) rfl rfl (fun _ _ _ h=>h) (Or.inl ⟨by rfl,?_⟩) ?_ ?_;rotate_left;(intro w';go_simp;with_reducible rfl);rotate_left;(simp only [Act.put,p1_,p2_,p3_,ax,ay];rfl))
  iterate 7 (refine iW (v:=?_) (a':=?_) HT_ HW_ (by kernel_rfl) rfl rfl (fun _ _ _ h=>h) hHeld (Or.inl ⟨by rfl,?_⟩) ?_ ?_;rotate_left;(rintro w' ⟨s0,s1,s2⟩;go_simp;with_reducible rfl);rotate_left;(simp only [Act.put,p1_,p2_,p3_,ax,ay];rfl))
  refine aZ ?_
  obtain ⟨o,t,hd,hcase⟩:=aD HR.out
  refine Fe (i:=8) (j:=9) (Ni:=some 14) (Nj:=some 2) #[Y_,Y_,Y_,Y_,Y_,Y_,Y_,Y_,Y_,N_,N_] #[Y_,Y_,Y_,Y_,Y_,Y_,Y_,Y_,N_,Y_,N_] rfl rfl rfl rfl (by kernel_rfl) (fun K_ hK=>?_) (fun K_ hK=>?_)
  ·refine kJ 137 #[.pointer (some ⟨tb,0,none⟩),.func (.func 148) #[.pointer (some ⟨pE,0,none⟩)] #[]] (by rfl) rfl ?hr8 ?_
   (case hr8=>first | (go_simp;done) | (go_simp;exact enters Tryz.func137 (by kernel_rfl) rfl _ _))
   refine (HT.out.Lg hHeld.2.2 hd).mono ?_
   rintro e w2 ⟨⟨ok1,hm,hT,he⟩⟩
   rcases hcase with ⟨rfl,rfl⟩ | ⟨n,rfl,hr2⟩
   ·obtain rfl:e= .panicked dx:=he
    exact .inr ⟨dx,rfl,rfl,⟨⟨ok1,hT.moves,hT.run,rfl⟩⟩⟩
   ·obtain rfl:e= .returned (oD n):=he
    refine .inl ⟨.int .i64 n,rfl,?_⟩
    refine hK.out _ _ (fun h=>absurd (by decide) h) ?_
    clear hK K_
    refine bK (a':=?_) ?_ ?_
    rotate_left; · show Act.put _ (some 14) _=_;simp only [Act.put,u1_,u2_,u3_,ax,ay];rfl
    refine xS (i:=9) (N:=some 2) #[Y_,Y_,Y_,Y_,Y_,Y_,Y_,Y_,Y_,Y_,N_] rfl rfl (by kernel_rfl) (fun K_ hK=>?_)
    refine fT (v:= .pointer (some ⟨w2.heap.size,0,none⟩)) (w1:=w2.alloc (jE 0)) (by rfl) rfl ?ha9 ?_
    (case ha9=>go_simp;first | done | rfl)
    refine hK.out _ _ (fun _ hS=>⟨aj (ai (Below.refl _ _) _) hS.1,aj (ai (Below.refl _ _) _) hS.2.1,aj (ai (Below.refl _ _) _) hS.2.2⟩) ?_
    clear hK K_
    refine bK (a':=?_) ?_ ?_
    rotate_left; · show Act.put _ (some 2) _=_;simp only [Act.put,u1_,u2_,u3_,ax,ay];rfl
    have HB:=Am_ (Mine.new hT.lt (jE 0))
    have HT2:=Am_ (hT.alloc (jE 0))
    have HBN:ak (w2.heap.size≠bt):=⟨by have:=hT.box.lt;omega⟩
    have HBW:ak (w.heap.size≤w2.heap.size):=⟨hT.moves.size⟩
    have HR2:=Am_ hr2
    generalize w2.heap.size=bn at HB HBN HBW ⊢
    generalize w2.alloc (jE 0)=w3 at HB HT2 ⊢
    generalize ok1=okc at HB HT2
    clear hm hT hr2
    have k0:=(af HB.out.1 0).trans (rfl:_=some (Value.int .i64 0))
    have z0:=ah HB.out.1 0
    refine jI (i:=10) (N:=none) #[Y_,Y_,Y_,Y_,Y_,Y_,Y_,Y_,Y_,Y_,Y_] rfl rfl (by kernel_rfl) (by decide) (fun K_ hK=>?_)
    refine fB (w1:=w3.setCell ⟨bn,0,none⟩ (.int .i64 n)) (by rfl) rfl ?_ ?_
    ·go_simp
    refine hK.out _ _ ?_
    clear hK K_
    refine dD (by kernel_rfl) ?_
    go_wp2_with fail
    go_meet
    case rel=>
     exact ⟨bn,n,rfl,⟨⟨okc,t,HT2.out.set HB.out.2 HBW.out HBN.out _,HB.out.set 0 _,HBN.out,HBW.out,HR2.out⟩⟩⟩
  ·refine fT (v:= .pointer (some ⟨w1.heap.size,0,none⟩)) (w1:=w1.alloc (jE 0)) (by rfl) rfl ?hb9 ?_
   (case hb9=>go_simp;first | done | rfl)
   refine hK.out _ _ (fun _ hS=>⟨aj (ai (Below.refl _ _) _) hS.1,aj (ai (Below.refl _ _) _) hS.2.1,aj (ai (Below.refl _ _) _) hS.2.2⟩) ?_
   clear hK K_
   refine bK (a':=?_) ?_ ?_
   rotate_left; · show Act.put _ (some 2) _=_;simp only [Act.put,u1_,u2_,u3_,ax,ay];rfl
   have HBN:ak (w1.heap.size≠bt):=⟨by have:=HT.out.box.lt;omega⟩
   have HBW:ak (w.heap.size≤w1.heap.size):=⟨HT.out.moves.size⟩
   have HB:=Am_ (Mine.new HT.out.lt (jE 0))
   have HT:=Am_ (HT.out.alloc (jE 0))
   have hHeld:(_∧_∧_):=⟨aj (ai (Below.refl _ _) (jE 0)) hHeld.1,aj (ai (Below.refl _ _) (jE 0)) hHeld.2.1,aj (ai (Below.refl _ _) (jE 0)) hHeld.2.2⟩
   generalize w1.heap.size=bn at HB HBN HBW ⊢
   generalize w1.alloc (jE 0)=w1 at HB HT hHeld ⊢
   refine xS (i:=8) (N:=some 14) #[Y_,Y_,Y_,Y_,Y_,Y_,Y_,Y_,Y_,Y_,N_] rfl rfl (by kernel_rfl) (fun K_ hK=>?_)
   refine kJ 137 #[.pointer (some ⟨tb,0,none⟩),.func (.func 148) #[.pointer (some ⟨pE,0,none⟩)] #[]] (by rfl) rfl ?hr8b ?_
   (case hr8b=>first | (go_simp;done) | (go_simp;exact enters Tryz.func137 (by kernel_rfl) rfl _ _))
   refine (HT.out.Lg hHeld.2.2 hd).mono ?_
   rintro e w2 ⟨⟨ok1,hm,hT,he⟩⟩
   rcases hcase with ⟨rfl,rfl⟩ | ⟨n,rfl,hr2⟩
   ·obtain rfl:e= .panicked dx:=he
    exact .inr ⟨dx,rfl,rfl,⟨⟨ok1,hT.moves,hT.run,rfl⟩⟩⟩
   ·obtain rfl:e= .returned (oD n):=he
    refine .inl ⟨.int .i64 n,rfl,?_⟩
    refine hK.out _ _ (fun h=>absurd (by decide) h) ?_
    clear hK K_
    refine bK (a':=?_) ?_ ?_
    rotate_left; · show Act.put _ (some 14) _=_;simp only [Act.put,u1_,u2_,u3_,ax,ay];rfl
    have HB:=Am_ (HB.out.moves hm)
    have HT2:=Am_ hT
    have HR2:=Am_ hr2
    generalize ok1=okc at HB HT2
    generalize w2=w3 at HB HT2 ⊢
    clear hm hT hr2
    have k0:=(af HB.out.1 0).trans (rfl:_=some (Value.int .i64 0))
    have z0:=ah HB.out.1 0
    refine jI (i:=10) (N:=none) #[Y_,Y_,Y_,Y_,Y_,Y_,Y_,Y_,Y_,Y_,Y_] rfl rfl (by kernel_rfl) (by decide) (fun K_ hK=>?_)
    refine fB (w1:=w3.setCell ⟨bn,0,none⟩ (.int .i64 n)) (by rfl) rfl ?_ ?_
    ·go_simp
    refine hK.out _ _ ?_
    clear hK K_
    refine dD (by kernel_rfl) ?_
    go_wp2_with fail
    go_meet
    case rel=>
     exact ⟨bn,n,rfl,⟨⟨okc,t,HT2.out.set HB.out.2 HBW.out HBN.out _,HB.out.set 0 _,HBN.out,HBW.out,HR2.out⟩⟩⟩
 case rest=>
  obtain ⟨bn,n,rfl,HB⟩:=hcut
  obtain ⟨okc,s2,hT,hbn,hnt,hwn,hr⟩:=HB.out.out
  obtain ⟨o,t,hd,hcase⟩:=aD hr
  have c0:=hT.c0
  have HT:=Am_ hT
  have HBN:=Am_ hbn
  have HNT:=Am_ hnt
  have HWN:=Am_ hwn
  have HD:=Am_ hd
  have HCS:=Am_ hcase
  clear HB hT hbn hnt hwn hr hd hcase
  go_upto_region 3 with (go_at_call 137;refine (HT.out.NV HBN.out HD.out).mono ?_;rintro e w2 ⟨⟨ok1,hm,hT,he⟩⟩;rcases HCS.out with hw | hw;(obtain ⟨rfl,rfl⟩:=hw;obtain rfl:e= .panicked dx:=he;exact ⟨rfl,⟨⟨ok1,hT.moves,hT.run,rfl⟩⟩⟩);obtain ⟨a0,rfl,hr2⟩:=hw;obtain rfl:e= .returned (.int .i64 a0):=he;have HT2:=Am_ hT;have HR2:=Am_ hr2;have HBN:=Am_ (HBN.out.moves hm);clear hm hT hr2)
  obtain ⟨pE,hpE⟩:=HT2.out.pE
  have c1:=HT2.out.c1
  have hfew:=HT2.out.few
  generalize hL:t.sh.ep.said.length=L at hfew
  have HL:=Am_ hL
  have HR3:ak (aU (allT n L 0) (Ig me n f) t=some res):=⟨by rw [←hL];exact HR2.out⟩
  have HB:=Am_ (sO.mk ⟨_,_,HT2.out,HBN.out,HNT.out,HWN.out,HR3.out⟩)
  clear c0 HT HD HCS HR HR2 HR3 hL
  go_upto_block 0 with (go_at_call 151;refine (HT2.out.len_ hpE).mono ?_;rintro e w2 ⟨rfl,rfl⟩;rw [HL.out])
  clear HBN HT2 HL hpE c1
  go_cut [3] from 26 (fun v3 wc=> ∃ b:Bool,v3= .bool b∧ak (sO p tb work me bt ok w bn n (Ig me n f b) res wc))
  case first=>
   go_wp2_with fail
   go_loopg [3,25] L (fun g v3 v25 wr=>v3= .bool true∧ ∃ k:Nat,v25= .int .i64 k∧k+g=L∧ak (sO p tb work me bt ok w bn n (aU (allT n g k) (Ig me n f)) res wr))
   case atStart=>exact ⟨rfl,0,rfl,by omega,HB⟩
   case round=>
    obtain ⟨rfl,k,rfl,hkg,HQ⟩:=hrel
    clear HB
    cases gk with
    | zero=>
     have d1:decide ((k:Int)<(L:Int))=false:=decide_eq_false (by omega)
     have d2:decide (k<L)=false:=decide_eq_false (by omega)
     go_wp2_with fail
     go_meet
     case rel=>exact ⟨true,rfl,HQ⟩
    | succ g=>
     have d1:decide ((k:Int)<(L:Int))=true:=decide_eq_true (by omega)
     have d2:decide (k<L)=true:=decide_eq_true (by omega)
     obtain ⟨okc,s3,hT,hbn,hnt,hwn,hr⟩:=HQ.out.out
     obtain ⟨o,t4,hd,hcase⟩:=aD (fK hr)
     have HT:=Am_ (hT.alloc (Ih (k:Int)))
     have HBN:=Am_ (hbn.alloc (Ih (k:Int)))
     have HBK:=Am_ (Mine.new hT.lt (Ih (k:Int)))
     have HD:=Am_ hd
     have HCS:=Am_ hcase
     clear hT hbn hnt hwn hr hd hcase HQ
     go_upto_region 7 with fail
     have HBX:Ih (k:Int)= .cells #[.int .i64 (k:Int)] 3:=rfl
     rw [HBX] at HT HBN HBK
     generalize wr.alloc (.cells #[.int .i64 (k:Int)] 3)=w3 at HT HBN HBK ⊢
     generalize wr.heap.size=bk at HBK ⊢
     have c0:=HT.out.c0
     have k0:=(af HBN.out.1 0).trans (rfl:_=some (Value.int .i64 n))
     go_upto_region 8 with (go_at_call 137;refine (HT.out.Nw HBK.out HD.out).mono ?_;rintro e w2 ⟨⟨ok1,hm,hT,he⟩⟩;rcases HCS.out with hw | hw;(obtain ⟨rfl,rfl⟩:=hw;obtain rfl:e= .panicked dx:=he;exact ⟨rfl,⟨⟨ok1,hT.moves,hT.run,rfl⟩⟩⟩);obtain ⟨a0,rfl,hr2⟩:=hw;obtain rfl:e= .returned (.int .i64 a0):=he;have HT2:=Am_ hT;have HR2:=Am_ hr2;have HBN:=Am_ (HBN.out.moves hm);clear hm hT hr2)
     clear k0
     have k0:=(af HBN.out.1 0).trans (rfl:_=some (Value.int .i64 n))
     have hw1:wrap64 ((k:Int)+1)=((k+1:Nat):Int):=by unfold wrap64;omega
     by_cases ha:a0= -1
     ·have hb1:(a0 == -1)=true:=by simp [ha]
      have hb2:(a0 != -1)=false:=by simp [ha]
      have HR4:ak (aU (allT n g (k+1)) (Ig me n f) t4=some res):=⟨by have h:=HR2.out;rw [if_neg (by simp [ha])] at h;exact h⟩
      clear ha
      go_wp2_with fail
      go_roundg g
      case rel=>exact ⟨rfl,k+1,by first | rfl | (rw [hw1]),by omega,⟨⟨_,_,HT2.out,HBN.out,HNT.out,HWN.out,HR4.out⟩⟩⟩
      case measure=>omega
     ·have hb1:(a0 == -1)=false:=by simpa using ha
      have hb2:(a0 != -1)=true:=by simpa using ha
      by_cases hn:a0=n
      ·have hb3:(a0 == n)=true:=by simp [hn]
       have hb4:(a0 != n)=false:=by simp [hn]
       have HR4:ak (aU (allT n g (k+1)) (Ig me n f) t4=some res):=⟨by have h:=HR2.out;rw [if_neg (by simp [hn])] at h;exact h⟩
       clear ha hn
       go_wp2_with fail
       go_roundg g
       case rel=>exact ⟨rfl,k+1,by first | rfl | (rw [hw1]),by omega,⟨⟨_,_,HT2.out,HBN.out,HNT.out,HWN.out,HR4.out⟩⟩⟩
       case measure=>omega
      ·have hb3:(a0 == n)=false:=by simpa using hn
       have hb4:(a0 != n)=true:=by simpa using hn
       have HR4:ak (Ig me n f false t4=some res):=⟨by have h:=HR2.out;rw [if_pos ⟨ha,hn⟩] at h;exact h⟩
       clear ha hn
       go_wp2_with fail
       go_meet
       case rel=>exact ⟨false,rfl,⟨⟨_,_,HT2.out,HBN.out,HNT.out,HWN.out,HR4.out⟩⟩⟩
  case rest=>
  obtain ⟨b,rfl,HB2⟩:=hcut
  clear HB HNT HWN
  go_upto_if 40 with fail
  go_cut [] from 40 (fun wc=>ak (sO p tb work me bt ok w bn n (MG me f) res wc))
  case first=>
   cases b with
   | false=>
    go_wp2_with fail
    go_meet
    case rel=>exact HB2
   | true=>
    obtain ⟨okc,s3,hT,hbn,hnt,hwn,hr⟩:=HB2.out.out
    obtain ⟨o,t4,hd,hcase⟩:=aD hr
    have c0:=hT.c0
    have HT:=Am_ hT
    have HBN:=Am_ hbn
    have HNT:=Am_ hnt
    have HWN:=Am_ hwn
    have HD:=Am_ hd
    have HCS:=Am_ hcase
    clear hT hbn hnt hwn hr hd hcase HB2
    go_wp2_with (go_at_call 154;refine (HT.out.swap_ HBN.out HD.out).mono ?_;rintro e w2 ⟨⟨ok1,hm,hT,he⟩⟩;rcases HCS.out with hw | hw;(obtain ⟨rfl,rfl⟩:=hw;obtain rfl:e= .panicked dx:=he;exact ⟨rfl,⟨⟨ok1,hT.moves,hT.run,rfl⟩⟩⟩);obtain ⟨a1,rfl,hr2⟩:=hw;obtain rfl:e= .returned (.bool a1):=he;have HT2:=Am_ hT;have HR2:=Am_ hr2;have HBN:=Am_ (HBN.out.moves hm);clear hm hT hr2)
    go_meet
    case rel=>exact ⟨⟨_,_,HT2.out,HBN.out,HNT.out,HWN.out,HR2.out⟩⟩
  case rest=>
  obtain ⟨okc,s3,hT,hbn,hnt,hwn,hr⟩:=hcut.out.out
  obtain ⟨o,t,hd,hcase⟩:=aD hr
  obtain ⟨pE2,hpE⟩:=hT.pE
  have HC:=Am_ (And.intro hT.c0 (And.intro hT.c1 hpE))
  have HT:=Am_ hT
  have HBN:=Am_ hbn
  have HNT:=Am_ hnt
  have HWN:=Am_ hwn
  clear hT hbn hnt hwn hr hpE hcut HB2
  go_upto_region 13 with fail
  refine bG (n:=10) (S:=fun w'=>w'.cell? ⟨bt,0,none⟩=some (.pointer (some ⟨tb,0,none⟩))∧w'.cell? ⟨bt,1,none⟩=some (.pointer (some ⟨p,0,none⟩))∧w'.cell? ⟨p,2,none⟩=some (.pointer (some ⟨pE2,0,none⟩))) (ds:= [8,9]) (by kernel_rfl) rfl yD tJ HC.out (fun hHeld HT_ HW_=>?_)
  have HT:=Am_ HT.out.drew
  have HBN:=Am_ (HBN.out.moves ((Moves.refl _ _).drew))
  clear HC
  generalize World.drew _=w1 at HT HBN hHeld ⊢
  refine eO [(0,some 45),(1,some 46),(2,some 47),(3,some 48),(4,some 49),(5,some 50),(6,some 51),(7,some 52)] ?_
  (refine dZ (v:=?_) (a':=?_) HT_ (by kernel_rfl) rfl rfl (fun _ _ _ h=>h) (Or.inl ⟨by rfl,?_⟩) ?_ ?_;rotate_left;(intro w';go_simp;with_reducible rfl);rotate_left;(simp only [Act.put,p1_,p2_,p3_,ax,ay];rfl))
  iterate 7 (refine iW (v:=?_) (a':=?_) HT_ HW_ (by kernel_rfl) rfl rfl (fun _ _ _ h=>h) hHeld (Or.inl ⟨by rfl,?_⟩) ?_ ?_;rotate_left;(rintro w' ⟨s0,s1,s2⟩;go_simp;with_reducible rfl);rotate_left;(simp only [Act.put,p1_,p2_,p3_,ax,ay];rfl))
  refine aZ ?_
  refine jI (i:=8) (N:=some 53) #[Y_,Y_,Y_,Y_,Y_,Y_,Y_,Y_,Y_,N_] rfl rfl (by kernel_rfl) (by decide) (fun K_ hK=>?_)
  refine kJ 137 #[.pointer (some ⟨tb,0,none⟩),.func (.func 148) #[.pointer (some ⟨pE2,0,none⟩)] #[]] (by rfl) rfl ?hr13 ?_
  (case hr13=>first | (go_simp;done) | (go_simp;exact enters Tryz.func137 (by kernel_rfl) rfl _ _))
  refine (HT.out.Lg hHeld.2.2 hd).mono ?_
  rintro e w2 ⟨⟨ok1,hm,hT,he⟩⟩
  rcases hcase with ⟨rfl,rfl⟩ | ⟨n2,rfl,hr3⟩
  ·obtain rfl:e= .panicked dx:=he
   exact .inr ⟨dx,rfl,rfl,⟨⟨ok1,hT.moves,hT.run,rfl⟩⟩⟩
  ·obtain rfl:e= .returned (.int .i64 n2):=he
   refine .inl ⟨.int .i64 n2,rfl,?_⟩
   refine hK.out _ _ ?_
   clear hK K_
   refine bK (a':=?_) ?_ ?_
   rotate_left; · show Act.put _ (some 53) _=_;simp only [Act.put,u1_,u2_,u3_,ax,ay];rfl
   have HT2:=Am_ hT
   have HR2:=Am_ hr3
   have HBN:=Am_ (HBN.out.moves hm)
   have k0:=(af HBN.out.1 0).trans (rfl:_=some (Value.int .i64 n))
   have z0:=ah HBN.out.1 0
   clear hT hr3 hm
   refine jI (i:=9) (N:=none) #[Y_,Y_,Y_,Y_,Y_,Y_,Y_,Y_,Y_,Y_] rfl rfl (by kernel_rfl) (by decide) (fun K_ hK=>?_)
   refine fB (w1:=w2.setCell ⟨bn,0,none⟩ (.int .i64 n2)) (by rfl) rfl ?_ ?_
   ·go_simp
   refine hK.out _ _ ?_
   clear hK K_ k0 z0
   refine dD (by kernel_rfl) ?_
   have HB3:ak (sO p tb work me bt ok w bn n2 (lu me n2 f) res (w2.setCell ⟨bn,0,none⟩ (.int .i64 n2))):=⟨⟨_,_,HT2.out.set HBN.out.2 HWN.out HNT.out _,HBN.out.set 0 _,HNT.out,HWN.out,HR2.out⟩⟩
   clear HT2 HBN HR2 HT hd hHeld
   generalize w2.setCell ⟨bn,0,none⟩ (.int .i64 n2)=w3 at HB3 ⊢
   go_wp2_with fail
   go_loopg [] f (fun g wr=>ak (sO p tb work me bt ok w bn n2 (lu me n2 g) res wr))
   case atStart=>exact HB3
   case round=>
    clear HB3
    obtain ⟨okc4,s4,hT,hbn,hnt,hwn,hr⟩:=hrel.out.out
    cases gk with
    | zero=>cases hr
    | succ g=>
     obtain ⟨o,t5,hd,hcase⟩:=aD hr
     have c0:=hT.c0
     have HT:=Am_ hT
     have HBN:=Am_ hbn
     have HD:=Am_ hd
     have HCS:=Am_ hcase
     clear hT hbn hnt hwn hr hd hcase hrel
     go_upto_if 58 with (go_at_call 137;refine (HT.out.nS HBN.out HD.out).mono ?_;rintro e w2 ⟨⟨ok1,hm,hT,he⟩⟩;rcases HCS.out with hw | hw;(obtain ⟨rfl,rfl⟩:=hw;obtain rfl:e= .panicked dx:=he;exact ⟨rfl,⟨⟨ok1,hT.moves,hT.run,rfl⟩⟩⟩);obtain ⟨a2,rfl,hr2⟩:=hw;obtain rfl:e= .returned (.int .i64 a2):=he;have HT2:=Am_ hT;have HR2:=Am_ hr2;have HBN:=Am_ (HBN.out.moves hm);clear hm hT hr2)
     by_cases ha:a2=0
     ·have hb1:(a2 == 0)=true:=by simp [ha]
      have hb2:(a2 != 0)=false:=by simp [ha]
      have HR4:ak (dS () t5=some res):=⟨by have h:=HR2.out;rw [if_pos ha] at h;exact h⟩
      clear ha
      go_wp2_with fail
      go_end0
      obtain rfl:res=(.ret (),t5):=by have h:=HR4.out;injection h with h;exact h.symm
      exact ⟨⟨_,HT2.out.moves,HT2.out.run,_,rfl,rfl⟩⟩
     ·have hb1:(a2 == 0)=false:=by simpa using ha
      have hb2:(a2 != 0)=true:=by simpa using ha
      have HR4:ak (lu me n2 g t5=some res):=⟨by have h:=HR2.out;rw [if_neg ha] at h;exact h⟩
      clear ha
      go_wp2_with fail
      go_roundg g
      case rel=>exact ⟨⟨_,_,HT2.out,HBN.out,HNT.out,HWN.out,HR4.out⟩⟩
      case measure=>omega
theorem AJ (p tb:Nat) (work:Value) (me:Int) (ok:Nat→Prop) (s:TS Ws) (w:World) (h:dN (shW p) tb work ok s w) (res:Out Unit × TS Ws) (hr:NE me s=some res):
  Calls Tryz.prog 101 #[eP tb p me] w (fQ (shW p) tb work Di ok w res):=by
 have HT:=Am_ (aH.enter (me:=me) h)
 obtain ⟨o,t,hd,hcase⟩:=aD hr
 have HD:=Am_ hd
 have HCS:=Am_ hcase
 have HTV:eP tb p me= .agg #[.pointer (some ⟨tb,0,none⟩),.pointer (some ⟨p,0,none⟩),.int .i64 me]:=rfl
 rw [HTV]
 have HTO:fC tb p me= .cells #[.pointer (some ⟨tb,0,none⟩),.pointer (some ⟨p,0,none⟩),.int .i64 me] 114:=rfl
 rw [HTO] at HT
 clear h hr HTV HTO hd hcase
 go_enter Tryz.func101,Tryz.ntmps101
 go_upto_region 1 with fail
 generalize w.alloc (.cells #[.pointer (some ⟨tb,0,none⟩),.pointer (some ⟨p,0,none⟩),.int .i64 me] 114)=w1 at HT ⊢
 generalize hbb:w.heap.size=bt at HT ⊢
 have c0:=HT.out.c0
 go_wp2_with (go_at_call 137;refine (HT.out.MS HD.out).mono ?_;rintro e w2 ⟨⟨ok1,hm,hT,he⟩⟩;rcases HCS.out with hw | hw;(obtain ⟨rfl,rfl⟩:=hw;obtain rfl:e= .panicked dx:=he;exact ⟨rfl,⟨⟨ok1,hT.moves,hT.run,rfl⟩⟩⟩);obtain ⟨a0,rfl,hr2⟩:=hw;obtain rfl:e= .returned (.int .i64 a0):=he;have HT2:=Am_ hT;have HR2:=Am_ hr2;clear hm hT hr2)
 go_end0
 obtain rfl:res=(.ret (),t):=by have h:=HR2.out;injection h with h;exact h.symm
 exact ⟨⟨_,HT2.out.moves,HT2.out.run,_,rfl,rfl⟩⟩
def Cb:Stp:=⟨0,nd0,0⟩
def MC (q:Stp × Stp) (ok:Nat→Prop) (v:Value) (w:World):Prop:= ∃ cs ds,v= .tuple #[.agg cs.toArray,.agg ds.toArray]∧oG.FK w (fun k=> ¬ ok k) q.1 cs∧oG.FK w (fun k=> ¬ ok k) q.2 ds
def Bg (key:Int) (f:Nat):Pr Ws (Stp × Stp):=fun s=>aU (rT key f s.sh.entry []) (fun l=>if l.length<2 then fun _=>none else dS (l.getD (l.length - 2) Cb,l.getD (l.length - 1) Cb)) s
theorem aH.cells {p tb:Nat} {work:Value} {me:Int} {bt:Nat} {ok okc:Nat→Prop} {w wc:World} {s:TS Ws} (h:aH p tb work me bt ok w okc s wc) {g:Nat} (hn: ¬ okc g) (hw:w.heap.size≤g) (ht:g≠bt) (o:Nat) (seg:List Value):aH p tb work me bt ok w okc s (wc.setCells g o seg):=
 ⟨h.run.step (aX p) (by rw [(dM g seg o wc).2.2.2];exact Nat.le_refl _) (fun k hk _=>aW seg o k (fun e=>hn (e▸hk))),jq h.moves (.inr hw) o seg,⟨(aW seg o bt (fun e=>ht e.symm)).trans h.box.1,h.box.2⟩⟩
theorem gV {w:World} {g:Nat} {cur:Array Value} {e:TypeId} {seg:List Value} (h:w.heap[g]?=some (.cells cur e (0,0))) (hl:cur.size=seg.length):(w.setCells g 0 seg).heap[g]?=some (.cells seg.toArray e (0,0)):=by
 obtain ⟨cur',h3,h4,h5⟩:=iZ seg 0 w cur h (by omega)
 rw [h3]
 have:cur'.toList=seg:=by
  rw [h5]
  simp only [List.take_zero,List.nil_append,Nat.zero_add]
  rw [List.drop_of_length_le (by rw [Array.length_toList];omega),List.append_nil]
 rw [←this]
theorem Mine.cells {ok:Nat→Prop} {w:World} {g:Nat} {o:Obj} (h:Mine ok w g o) {g1:Nat} (hn:g1≠g) (o1:Nat) (seg:List Value):Mine ok (w.setCells g1 o1 seg) g o:=⟨(aW seg o1 g (fun e=>hn e.symm)).trans h.1,h.2⟩
theorem lK {P:Program} {fn:Func} {p q:Tmp} {ty tz:TypeId} (h:fn.results= #[.cell p ty,.cell q tz]) (tmps:Array Value) (w:World) (g1:Nat) (t1:TypeId) (cs1:Array Value) (fr1:Nat × Nat) (d1:TypeDesc) (g2:Nat) (t2:TypeId) (cs2:Array Value) (fr2:Nat × Nat) (d2:TypeDesc)
  (hp:tmps.getD p undef= .pointer (some ⟨g1,0,none⟩)) (hg1:w.heap[g1]?=some (.cells cs1 t1 fr1)) (hu1:P.underlying ty=some d1) (hd1:(match d1 with | .struct _ | .array _ _=>true | _=>false)=true) (hi1:(P.info? ty).map (·.size)=some cs1.size)
  (hq:tmps.getD q undef= .pointer (some ⟨g2,0,none⟩)) (hg2:w.heap[g2]?=some (.cells cs2 t2 fr2)) (hu2:P.underlying tz=some d2) (hd2:(match d2 with | .struct _ | .array _ _=>true | _=>false)=true) (hi2:(P.info? tz).map (·.size)=some cs2.size):
  (results fn tmps).run P w= .ok (.tuple #[.agg cs1,.agg cs2]) w:=by
 have hp':tmps[p]?.getD undef= .pointer (some ⟨g1,0,none⟩):=by simpa using hp
 have hq':tmps[q]?.getD undef= .pointer (some ⟨g2,0,none⟩):=by simpa using hq
 simp [results,h,hp',hq',asAddr,run_loadVar_row w g1 t1 ty cs1 fr1 d1 hg1 hu1 hd1 hi1,run_loadVar_row w g2 t2 tz cs2 fr2 d2 hg2 hu2 hd2 hi2]
def Gu:Obj:= .cells #[.int .i64 0,.bool false,.bool false,.slice none 0 0,.slice none 0 0,.slice none 0 0,.int .i64 0] 159 (0,0)
def FU:Bool × List (List Nat × List Nat):=(true,[([],[]),([],[]),([1],[1]),([2],[2]),([0,3],[0,3]),([4],[4]),([],[]),([],[]),([7],[7]),([8],[8]),([6,9],[6,9]),([10],[10]),([5,0,1,2,3,4,5],[5]),([11,12,0,1,2,3,4,5,6,7,8,9,10,11,12],[11])])
def JY:List Nat:= [0,0,2,6,15,31,0,0,128,384,960,1984,63,8191]
theorem EW:fq .any (opsOf Tryz.f116 4)=FU:=by kernel_rfl
theorem zV:bA FU.2 JY=true:=by kernel_rfl
theorem pu (p tb:Nat) (work:Value) (me key:Int) (ok:Nat→Prop) (s:TS Ws) (w:World) (h:dN (shW p) tb work ok s w) (f:Nat) (hf:f<900000) (res:Out (Stp × Stp) × TS Ws) (hr:Bg key f s=some res) (hlen: ∀ l t,rT key f s.sh.entry [] s=some (.ret l,t)→l.length<1000000):
  Calls Tryz.prog 116 #[eP tb p me,.int .i64 key] w (fQ (shW p) tb work MC ok w res):=by
 obtain ⟨o,t,hd,hcase⟩:=aD hr
 have HT:=Am_ (((aH.enter (me:=me) h).alloc Gu).alloc Gu)
 have HB4:=Am_ ((Mine.new (aH.enter (p:=p) (tb:=tb) (me:=me) h).lt Gu).alloc Gu)
 have HB5:=Am_ (Mine.new ((aH.enter (me:=me) h).alloc Gu).lt Gu)
 have HD:=Am_ hd
 have HCS:=Am_ hcase
 have HLN:=Am_ hlen
 have HTV:eP tb p me= .agg #[.pointer (some ⟨tb,0,none⟩),.pointer (some ⟨p,0,none⟩),.int .i64 me]:=rfl
 rw [HTV]
 have HSZ:ak (w.heap.size<(w.alloc (fC tb p me)).heap.size∧(w.alloc (fC tb p me)).heap.size<((w.alloc (fC tb p me)).alloc Gu).heap.size):=⟨by simp⟩
 unfold fC Gu at HT HB4 HB5 HSZ
 clear h hr hd hcase hlen HTV
 go_enter Tryz.func116,Tryz.ntmps116
 go_upto_region 1 with fail
 simp only [World.size_alloc] at HB4 HB5 HSZ
 generalize ((w.alloc (.cells #[.pointer (some ⟨tb,0,none⟩),.pointer (some ⟨p,0,none⟩),.int .i64 me] 114)).alloc (.cells #[.int .i64 0,.bool false,.bool false,.slice none 0 0,.slice none 0 0,.slice none 0 0,.int .i64 0] 159)).alloc (.cells #[.int .i64 0,.bool false,.bool false,.slice none 0 0,.slice none 0 0,.slice none 0 0,.int .i64 0] 159)=w3 at HT HB4 HB5 ⊢
 generalize hbb:w.heap.size=bt at HT HB4 HB5 ⊢
 clear HSZ
 have HWB:ak (w.heap.size=bt):=⟨hbb⟩
 clear hbb
 generalize hb4:bt+1=b4 at HB4 HB5 ⊢
 generalize hb5:b4+1=b5 at HB5 ⊢
 have HW4:ak (w.heap.size≤b4):=⟨by have:=HWB.out;omega⟩
 have HW5:ak (w.heap.size≤b5):=⟨by have:=HWB.out;omega⟩
 have H45:ak (b4≠b5):=⟨by omega⟩
 have HT4:ak (b4≠bt):=⟨by omega⟩
 have HT5:ak (b5≠bt):=⟨by omega⟩
 clear hb4 hb5
 have c0:=HT.out.c0
 have c1:=HT.out.c1
 have c2:=HT.out.c2
 go_upto_region 2 with (go_at_call 90;refine (uL p tb work me key ok s _ HT.out.run f hf (o,t) HD.out).mono ?_;rintro e w4 ⟨ok1,hm,hi,hres⟩;rcases HCS.out with hw | hw;(obtain ⟨rfl,rfl⟩:=hw;obtain rfl:e= .panicked dx:=hres;exact ⟨rfl,⟨⟨ok1,HT.out.moves.trans hm,hi,rfl⟩⟩⟩);obtain ⟨l,rfl,hr2⟩:=hw;obtain ⟨v,rfl,hv⟩:=hres;obtain ⟨A,c,rfl⟩:=Kd.aJ hv;have HT2:=Am_ (HT.out.next hm hi);have HN4:=Am_ HB4.out.lt;have HN5:=Am_ HB5.out.lt;have HB4:=Am_ (HB4.out.moves hm);have HB5:=Am_ (HB5.out.moves hm);have HV:=Am_ hv;have HR2:=Am_ hr2;clear hm hi hv hr2 c0 c1 c2)
 have hr3:=HR2.out
 by_cases h2:l.length<2
 ·rw [if_pos h2] at hr3;cases hr3
 rw [if_neg h2] at hr3
 obtain ⟨m,hm2⟩: ∃ m,l.length=m+2:=⟨l.length - 2,by omega⟩
 have hlt:=HLN.out l t HD.out
 have HR3:=Am_ hr3
 have HM2:=Am_ hm2
 clear HR2 hr3 h2
 have hV:=HV.out
 unfold zx at hV
 obtain ⟨g,rfl⟩: ∃ g,A=some ⟨g,0,none⟩:=by
  obtain ⟨g,cap,e1,_⟩:=Kd.lX hV (by omega)
  injection e1 with e1 _ _
  exact ⟨g,e1⟩
 have HG:ak (w3.heap.size≤g):=⟨Kd.iQ hV g (by simp [Value.ownBlock])⟩
 have HG4:ak (g≠b4):=⟨by have:=HG.out;have:=HN4.out;omega⟩
 have HG5:ak (g≠b5):=⟨by have:=HG.out;have:=HN5.out;omega⟩
 obtain ⟨cs1,_,hM1,hc1,_⟩:=Kd.lW hV Cb ((m:Nat):Int) (by omega) (by omega)
 obtain ⟨cs2,_,hM2',hc2,_⟩:=Kd.lW hV Cb ((m+1:Nat):Int) (by omega) (by omega)
 rw [Int.toNat_natCast] at hM1 hc1 hM2' hc2
 have hq1:(l.getD (l.length - 2) Cb,l.getD (l.length - 1) Cb)=(l.getD m Cb,l.getD (m+1) Cb):=by rw [hm2];rfl
 rw [hq1] at HR3
 clear hq1
 generalize hm1:m+1=m1 at hM2' hc2 HR3
 generalize l.getD m Cb=q1 at hM1 HR3
 generalize l.getD m1 Cb=q2 at hM2' HR3
 obtain ⟨Ap1,cp1,Ak1,ck1,Ay1,cy1,rfl⟩:=jk (oG.K_of_M hM1)
 obtain ⟨Ap2,cp2,Ak2,ck2,Ay2,cy2,rfl⟩:=jk (oG.K_of_M hM2')
 rw [show oG.sz=7 from rfl] at hc1 hc2
 have HF1:ak (oG.FK w4 (fun k=> ¬ ok1 k∧w3.heap.size≤k) q1 _):=⟨Kd.mI (Kd.sQ (oG.M_bound hM1)) (fun k hk=>⟨hk.1.1,hk.2.1⟩)⟩
 have HF2:ak (oG.FK w4 (fun k=> ¬ ok1 k∧w3.heap.size≤k) q2 _):=⟨Kd.mI (Kd.sQ (oG.M_bound hM2')) (fun k hk=>⟨hk.1.1,hk.2.1⟩)⟩
 have HC:=Am_ (And.intro (hc1 0 _ rfl) (And.intro (hc1 1 _ rfl) (And.intro (hc1 2 _ rfl) (And.intro (hc1 3 _ rfl) (And.intro (hc1 4 _ rfl) (And.intro (hc1 5 _ rfl) (And.intro (hc1 6 _ rfl) (And.intro (hc2 0 _ rfl) (And.intro (hc2 1 _ rfl) (And.intro (hc2 2 _ rfl) (And.intro (hc2 3 _ rfl) (And.intro (hc2 4 _ rfl) (And.intro (hc2 5 _ rfl) (hc2 6 _ rfl))))))))))))))
 rw [hm2]
 have d1:decide (((m+2:Nat):Int)<2)=false:=decide_eq_false (by omega)
 have d2:decide (m+2<2)=false:=decide_eq_false (by omega)
 have hw2:wrap64 (m:Int)=(m:Int):=by unfold wrap64;omega
 have hw1:wrap64 ((m:Int)+2 - 1)=(m1:Int):=by unfold wrap64;omega
 have b0:(0:Int)≤(m:Int):=by omega
 have b1:(m:Int)<(m:Int)+2:=by omega
 have b2:(m1:Int)<(m:Int)+2:=by omega
 have b3:(0:Int)≤(m1:Int):=by omega
 clear hV hM1 hM2' hc1 hc2 hm2 HV HM2 hm1
 go_upto_region 4 with fail
 refine bG (n:=14) (S:=fun w'=>w'.cell? ⟨g,m*7,none⟩=some (.int .i64 q1.ref)∧w'.cell? ⟨g,m*7+1,none⟩=some (.bool q1.node.inner)∧w'.cell? ⟨g,m*7+2,none⟩=some (.bool q1.node.tagged)∧w'.cell? ⟨g,m*7+3,none⟩=some (.slice Ap1 q1.node.pairs.length cp1)∧w'.cell? ⟨g,m*7+4,none⟩=some (.slice Ak1 q1.node.keys.length ck1)∧w'.cell? ⟨g,m*7+5,none⟩=some (.slice Ay1 q1.node.ways.length cy1)∧w'.cell? ⟨g,m*7+6,none⟩=some (.int .i64 q1.way)∧w'.cell? ⟨g,m1*7,none⟩=some (.int .i64 q2.ref)∧w'.cell? ⟨g,m1*7+1,none⟩=some (.bool q2.node.inner)∧w'.cell? ⟨g,m1*7+2,none⟩=some (.bool q2.node.tagged)∧w'.cell? ⟨g,m1*7+3,none⟩=some (.slice Ap2 q2.node.pairs.length cp2)∧w'.cell? ⟨g,m1*7+4,none⟩=some (.slice Ak2 q2.node.keys.length ck2)∧w'.cell? ⟨g,m1*7+5,none⟩=some (.slice Ay2 q2.node.ways.length cy2)∧w'.cell? ⟨g,m1*7+6,none⟩=some (.int .i64 q2.way)) (ds:= [13]) (by kernel_rfl) rfl EW zV HC.out (fun hHeld HT_ HW_=>?_)
 have HT2:=Am_ HT2.out.drew
 have HB4:=Am_ (HB4.out.moves ((Moves.refl _ _).drew))
 have HB5:=Am_ (HB5.out.moves ((Moves.refl _ _).drew))
 have HF1:=Am_ (Kd.uU HF1.out (aM (Below.refl _ _)))
 have HF2:=Am_ (Kd.uU HF2.out (aM (Below.refl _ _)))
 clear HC
 generalize World.drew _=w4 at HT2 HB4 HB5 HF1 HF2 hHeld ⊢
 refine eO [(0,some 15),(1,some 16),(2,some 17),(3,some 18),(4,some 19),(5,some 20),(6,some 21),(7,some 22),(8,some 23),(9,some 24),(10,some 25),(11,some 26)] ?_
 iterate 5 (refine dZ (v:=?_) (a':=?_) HT_ (by kernel_rfl) rfl rfl (fun _ _ _ h=>h) (Or.inl ⟨by rfl,?_⟩) ?_ ?_;rotate_left;(intro w';go_simp;with_reducible rfl);rotate_left;(simp only [Act.put,p1_,p2_,p3_,ax,ay];rfl))
 (refine iW (v:=?_) (a':=?_) HT_ HW_ (by kernel_rfl) rfl rfl (fun _ _ _ h=>h) hHeld (Or.inl ⟨by rfl,?_⟩) ?_ ?_;rotate_left;(rintro w' ⟨s0,s1,s2,s3,s4,s5,s6,s7,s8,s9,s10,s11,s12,s13⟩;go_simp;with_reducible rfl);rotate_left;(simp only [Act.put,p1_,p2_,p3_,ax,ay];rfl))
 iterate 5 (refine dZ (v:=?_) (a':=?_) HT_ (by kernel_rfl) rfl rfl (fun _ _ _ h=>h) (Or.inl ⟨by rfl,?_⟩) ?_ ?_;rotate_left;(intro w';go_simp;with_reducible rfl);rotate_left;(simp only [Act.put,p1_,p2_,p3_,ax,ay];rfl))
 (refine iW (v:=?_) (a':=?_) HT_ HW_ (by kernel_rfl) rfl rfl (fun _ _ _ h=>h) hHeld (Or.inl ⟨by rfl,?_⟩) ?_ ?_;rotate_left;(rintro w' ⟨s0,s1,s2,s3,s4,s5,s6,s7,s8,s9,s10,s11,s12,s13⟩;go_simp;with_reducible rfl);rotate_left;(simp only [Act.put,p1_,p2_,p3_,ax,ay];rfl))
 refine aZ ?_
 refine dR (i:=12) none HT_ (by kernel_rfl) rfl rfl (by decide) (fun K_ hK=>?_)
 refine fB (w1:=w4.setCells b4 0 [.int .i64 q1.ref,.bool q1.node.inner,.bool q1.node.tagged,.slice Ap1 q1.node.pairs.length cp1,.slice Ak1 q1.node.keys.length ck1,.slice Ay1 q1.node.ways.length cy1,.int .i64 q1.way]) (by rfl) rfl ?h12 ?_
 (case h12=>exact gq _ [.int .i64 q1.ref,.bool q1.node.inner,.bool q1.node.tagged,.slice Ap1 q1.node.pairs.length cp1,.slice Ak1 q1.node.keys.length ck1,.slice Ay1 q1.node.ways.length cy1,.int .i64 q1.way] rfl (by rfl) (by rfl) HB4.out.1 rfl (by kernel_rfl) (by simp) (by intro u hu;simp only [List.mem_cons,List.not_mem_nil,or_false] at hu;rcases hu with rfl | rfl | rfl | rfl | rfl | rfl | rfl<;>rfl))
 refine hK.out _ _ ?hS (fun hHeld=>?_)
 case hS=>
  obtain ⟨s0,s1,s2,s3,s4,s5,s6,s7,s8,s9,s10,s11,s12,s13⟩:=hHeld
  refine ⟨?_,?_,?_,?_,?_,?_,?_,?_,?_,?_,?_,?_,?_,?_⟩<;>(rw [World.cell?_of_block (aW _ _ g HG4.out)];assumption)
 clear hK K_
 have HT2:=Am_ (HT2.out.cells HB4.out.2 HW4.out HT4.out 0 [.int .i64 q1.ref,.bool q1.node.inner,.bool q1.node.tagged,.slice Ap1 q1.node.pairs.length cp1,.slice Ak1 q1.node.keys.length ck1,.slice Ay1 q1.node.ways.length cy1,.int .i64 q1.way])
 have HF1:=Am_ (Kd.jW (W1:=w4.setCells b4 0 [.int .i64 q1.ref,.bool q1.node.inner,.bool q1.node.tagged,.slice Ap1 q1.node.pairs.length cp1,.slice Ak1 q1.node.keys.length ck1,.slice Ay1 q1.node.ways.length cy1,.int .i64 q1.way]) HF1.out (fun k hk _=>aW _ _ k (fun e=>by have:=HN4.out;omega)))
 have HF2:=Am_ (Kd.jW (W1:=w4.setCells b4 0 [.int .i64 q1.ref,.bool q1.node.inner,.bool q1.node.tagged,.slice Ap1 q1.node.pairs.length cp1,.slice Ak1 q1.node.keys.length ck1,.slice Ay1 q1.node.ways.length cy1,.int .i64 q1.way]) HF2.out (fun k hk _=>aW _ _ k (fun e=>by have:=HN4.out;omega)))
 have HB5:=Am_ (Mine.cells HB5.out H45.out 0 [.int .i64 q1.ref,.bool q1.node.inner,.bool q1.node.tagged,.slice Ap1 q1.node.pairs.length cp1,.slice Ak1 q1.node.keys.length ck1,.slice Ay1 q1.node.ways.length cy1,.int .i64 q1.way])
 have HB4:ak (Mine ok1 (w4.setCells b4 0 [.int .i64 q1.ref,.bool q1.node.inner,.bool q1.node.tagged,.slice Ap1 q1.node.pairs.length cp1,.slice Ak1 q1.node.keys.length ck1,.slice Ay1 q1.node.ways.length cy1,.int .i64 q1.way]) b4 (.cells #[.int .i64 q1.ref,.bool q1.node.inner,.bool q1.node.tagged,.slice Ap1 q1.node.pairs.length cp1,.slice Ak1 q1.node.keys.length ck1,.slice Ay1 q1.node.ways.length cy1,.int .i64 q1.way] 159 (0,0))):=⟨⟨gV HB4.out.1 rfl,HB4.out.2⟩⟩
 generalize w4.setCells b4 0 [.int .i64 q1.ref,.bool q1.node.inner,.bool q1.node.tagged,.slice Ap1 q1.node.pairs.length cp1,.slice Ak1 q1.node.keys.length ck1,.slice Ay1 q1.node.ways.length cy1,.int .i64 q1.way]=w5 at HT2 HF1 HF2 HB4 HB5 hHeld ⊢
 refine bP (i:=13) none HT_ (by kernel_rfl) rfl rfl (by decide) (fun K_ hK=>?_)
 refine fB (w1:=w5.setCells b5 0 [.int .i64 q2.ref,.bool q2.node.inner,.bool q2.node.tagged,.slice Ap2 q2.node.pairs.length cp2,.slice Ak2 q2.node.keys.length ck2,.slice Ay2 q2.node.ways.length cy2,.int .i64 q2.way]) (by rfl) rfl ?h13 ?_
 (case h13=>exact gq _ [.int .i64 q2.ref,.bool q2.node.inner,.bool q2.node.tagged,.slice Ap2 q2.node.pairs.length cp2,.slice Ak2 q2.node.keys.length ck2,.slice Ay2 q2.node.ways.length cy2,.int .i64 q2.way] rfl (by rfl) (by rfl) HB5.out.1 rfl (by kernel_rfl) (by simp) (by intro u hu;simp only [List.mem_cons,List.not_mem_nil,or_false] at hu;rcases hu with rfl | rfl | rfl | rfl | rfl | rfl | rfl<;>rfl))
 refine hK.out _ _ ?_
 clear hK K_ hHeld
 have HT2:=Am_ (HT2.out.cells HB5.out.2 HW5.out HT5.out 0 [.int .i64 q2.ref,.bool q2.node.inner,.bool q2.node.tagged,.slice Ap2 q2.node.pairs.length cp2,.slice Ak2 q2.node.keys.length ck2,.slice Ay2 q2.node.ways.length cy2,.int .i64 q2.way])
 have HF1:=Am_ (Kd.jW (W1:=w5.setCells b5 0 [.int .i64 q2.ref,.bool q2.node.inner,.bool q2.node.tagged,.slice Ap2 q2.node.pairs.length cp2,.slice Ak2 q2.node.keys.length ck2,.slice Ay2 q2.node.ways.length cy2,.int .i64 q2.way]) HF1.out (fun k hk _=>aW _ _ k (fun e=>by have:=HN5.out;omega)))
 have HF2:=Am_ (Kd.jW (W1:=w5.setCells b5 0 [.int .i64 q2.ref,.bool q2.node.inner,.bool q2.node.tagged,.slice Ap2 q2.node.pairs.length cp2,.slice Ak2 q2.node.keys.length ck2,.slice Ay2 q2.node.ways.length cy2,.int .i64 q2.way]) HF2.out (fun k hk _=>aW _ _ k (fun e=>by have:=HN5.out;omega)))
 have HB4:=Am_ (Mine.cells HB4.out H45.out.symm 0 [.int .i64 q2.ref,.bool q2.node.inner,.bool q2.node.tagged,.slice Ap2 q2.node.pairs.length cp2,.slice Ak2 q2.node.keys.length ck2,.slice Ay2 q2.node.ways.length cy2,.int .i64 q2.way])
 have HB5:ak (Mine ok1 (w5.setCells b5 0 [.int .i64 q2.ref,.bool q2.node.inner,.bool q2.node.tagged,.slice Ap2 q2.node.pairs.length cp2,.slice Ak2 q2.node.keys.length ck2,.slice Ay2 q2.node.ways.length cy2,.int .i64 q2.way]) b5 (.cells #[.int .i64 q2.ref,.bool q2.node.inner,.bool q2.node.tagged,.slice Ap2 q2.node.pairs.length cp2,.slice Ak2 q2.node.keys.length ck2,.slice Ay2 q2.node.ways.length cy2,.int .i64 q2.way] 159 (0,0))):=⟨⟨gV HB5.out.1 rfl,HB5.out.2⟩⟩
 generalize w5.setCells b5 0 [.int .i64 q2.ref,.bool q2.node.inner,.bool q2.node.tagged,.slice Ap2 q2.node.pairs.length cp2,.slice Ak2 q2.node.keys.length ck2,.slice Ay2 q2.node.ways.length cy2,.int .i64 q2.way]=w6 at HT2 HF1 HF2 HB4 HB5 ⊢
 refine dD (bI HT_.out (by kernel_rfl)) ?_
 go_wp2_with fail
 (try simp only [Exit.inBlock,Exit.then])
 refine bodyPost_ret (lK rfl _ _ b4 159 _ (0,0) _ b5 159 _ (0,0) _ rfl HB4.out.1 Tryz.underlying159 rfl (by kernel_rfl) rfl HB5.out.1 Tryz.underlying159 rfl (by kernel_rfl)) rfl ?_
 have hh:=HR3.out
 injection hh with hh
 subst hh
 exact ⟨⟨ok1,HT2.out.moves,HT2.out.run,_,rfl,_,_,rfl,Kd.mI HF1.out (fun _ hk=>hk.1),Kd.mI HF2.out (fun _ hk=>hk.1)⟩⟩
end Go.Proofs.YtmnjjdeaccgjlaaGreat.Tower
