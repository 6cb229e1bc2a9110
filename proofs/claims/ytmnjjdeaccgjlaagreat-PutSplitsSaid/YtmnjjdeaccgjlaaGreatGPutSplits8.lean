/- For every input the law PutSplits answers true, and the input reads as it did. No conditions. -/
import Derived.Test.YtmnjjdeaccgjlaaGreatRows
import Derived.Test.YtmnjjdeaccgjlaaGreatGPutSplits0
import Derived.Test.YtmnjjdeaccgjlaaGreatGPutSplits1
import Derived.Test.YtmnjjdeaccgjlaaGreatGPutSplits2
import Derived.Test.YtmnjjdeaccgjlaaGreatGPutSplits3
import Derived.Test.YtmnjjdeaccgjlaaGreatGPutSplits4
import Derived.Test.YtmnjjdeaccgjlaaGreatGPutSplits5
import Derived.Test.YtmnjjdeaccgjlaaGreatGPutSplits6
import Derived.Test.YtmnjjdeaccgjlaaGreatGPutSplits7
import Derived.Deep.Slices
import Derived.Deep.SlicePairs
import Derived.Lib.SmallJoins
import Derived.OpenShut
import Derived.ShutString
import Derived.ChangeOld
import Derived.SizedLaws
set_option linter.unusedSimpArgs false
set_option linter.unusedVariables false
set_option maxRecDepth 100000
namespace Go.Proofs.YtmnjjdeaccgjlaaGreat.Tower
open Go Go.RowKit Go.Proofs.YtmnjjdeaccgjlaaGreatW.PrintWords Go.Proofs.YtmnjjdeaccgjlaaGreatW.PrintLast Go.Proofs.YtmnjjdeaccgjlaaGreatW.PrintMore Go.Proofs.YtmnjjdeaccgjlaaGreat.Own
mutual
def jm (x:Ws):Sh→Int→List Int→Prop
 | ⟨l,t,ps,ks,kids⟩,r,L=> ∃ q L1,L=r::L1∧Calm x r q∧q.node=qA ⟨l,t,ps,ks,kids⟩ q.node.ways∧jw x kids q.ways L1
def jw (x:Ws):List Sh→List Int→List Int→Prop
 | [],ws,L=>ws= []∧L= []
 | k::ks,ws,L=> ∃ r ws1 L1 L2,ws=r::ws1∧L=L1++L2∧jm x k r L1∧jw x ks ws1 L2
end
theorem iC (x:Ws) (s:Sh) (r:Int) (L:List Int):jm x s r L↔ ∃ q L1,L=r::L1∧Calm x r q∧q.node=qA s q.node.ways∧jw x s.f4 q.ways L1:=by cases s;rw [jm]
theorem mq {x:Ws}: ∀ {kids:List Sh} {ws L:List Int},jw x kids ws L→ws.length=kids.length
 | [],ws,L,h=>by rw [jw] at h;rw [h.1];rfl
 | k::ks,ws,L,h=>by
  rw [jw] at h
  obtain ⟨r,ws1,L1,L2,rfl,rfl,_,h2⟩:=h
  rw [List.length_cons,List.length_cons,mq h2]
def Keeps (x y:Ws) (r:Int):Prop:= ∀ q,Calm x r q→ ∃ q1,Calm y r q1∧q1.node=q.node∧q1.ways=q.ways
theorem Keeps.refl (x:Ws) (r:Int):Keeps x x r:=fun q h=>⟨q,h,rfl,rfl⟩
theorem Keeps.trans {x y z:Ws} {r:Int} (h:Keeps x y r) (k:Keeps y z r):Keeps x z r:=fun q hq=>by
 obtain ⟨q1,h1,h2,h3⟩:=h q hq
 obtain ⟨q2,h4,h5,h6⟩:=k q1 h1
 exact ⟨q2,h4,h5.trans h2,h6.trans h3⟩
mutual
theorem jm.keeps {x y:Ws}: ∀ {s:Sh} {r:Int} {L:List Int},jm x s r L→(∀ r∈L,Keeps x y r)→jm y s r L
 | ⟨l,t,ps,ks,kids⟩,r,L,h,hk=>by
  rw [jm] at h
  obtain ⟨q,L1,rfl,h1,h2,h3⟩:=h
  obtain ⟨q1,k1,k2,k3⟩:=hk r List.mem_cons_self q h1
  rw [jm]
  exact ⟨q1,L1,rfl,k1,by rw [k2];exact h2,by rw [k3];exact jw.keeps h3 (fun r1 hr=>hk r1 (List.mem_cons_of_mem _ hr))⟩
theorem jw.keeps {x y:Ws}: ∀ {kids:List Sh} {ws L:List Int},jw x kids ws L→(∀ r∈L,Keeps x y r)→jw y kids ws L
 | [],ws,L,h,_=>by rw [jw] at h ⊢;exact h
 | k::ks,ws,L,h,hk=>by
  rw [jw] at h ⊢
  obtain ⟨r,ws1,L1,L2,rfl,rfl,h1,h2⟩:=h
  exact ⟨r,ws1,L1,L2,rfl,rfl,jm.keeps h1 (fun r1 hr=>hk r1 (List.mem_append_left _ hr)),jw.keeps h2 (fun r1 hr=>hk r1 (List.mem_append_right _ hr))⟩
end
theorem jw.part {x:Ws}: ∀ {kids:List Sh} {ws L:List Int} (i:Nat),jw x kids ws L→i<kids.length→ ∃ k La Lk Lb,kids[i]?=some k∧L=La++(Lk++Lb)∧jm x k (ws.getD i 0) Lk∧ ∀ (y:Ws) (k1:Sh) (r1:Int) (L1:List Int),(∀ r∈La,Keeps x y r)→(∀ r∈Lb,Keeps x y r)→jm y k1 r1 L1→jw y (kids.set i k1) (ws.set i r1) (La++(L1++Lb))
 | [],ws,L,i,h,hi=>by simp at hi
 | k::ks,ws,L,0,h,hi=>by
  rw [jw] at h
  obtain ⟨r,ws1,L1,L2,rfl,rfl,h1,h2⟩:=h
  refine ⟨k,[],L1,L2,rfl,rfl,h1,fun y k1 r1 L3 _ hb hn=>?_⟩
  rw [List.set_cons_zero,List.set_cons_zero,jw]
  exact ⟨r1,ws1,L3,L2,rfl,rfl,hn,jw.keeps h2 hb⟩
 | k::ks,ws,L,i+1,h,hi=>by
  rw [jw] at h
  obtain ⟨r,ws1,L1,L2,rfl,rfl,h1,h2⟩:=h
  obtain ⟨k2,La,Lk,Lb,e1,e2,e3,e4⟩:=jw.part i h2 (by simpa using hi)
  refine ⟨k2,L1++La,Lk,Lb,by simpa using e1,by rw [e2,List.append_assoc],by simpa using e3,fun y k1 r1 L3 ha hb hn=>?_⟩
  rw [List.set_cons_succ,List.set_cons_succ,jw]
  exact ⟨r,ws1.set i r1,L1,La++(L3++Lb),rfl,by rw [List.append_assoc],jm.keeps h1 (fun r hr=>ha r (List.mem_append_left _ hr)),e4 y k1 r1 L3 (fun r hr=>ha r (List.mem_append_right _ hr)) hb hn⟩
def nodeAt:List Nat→Sh→Option Sh
 | [],s=>some s
 | i::w,s=>match s.f4[i]? with
  | none=>none
  | some k=>nodeAt w k
def oK (k1:Sh):List Nat→Sh→Sh
 | [],_=>k1
 | i::w,s=>match s.f4[i]? with
  | none=>s
  | some k=> { s with f4:=s.f4.set i (oK k1 w k) }
theorem FT (s:Sh) (l:List Sh) (ws:List Int):qA { s with f4:=l } ws=qA s ws:=rfl
theorem wY (ws:List Int) (i:Nat):ws.set i (ws.getD i 0)=ws:=by
 rw [List.getD_eq_getElem?_getD]
 by_cases h:i<ws.length
 ·rw [List.getElem?_eq_getElem h]
  simp
 ·rw [List.set_eq_of_length_le (by omega)]
def di (a:Ar):List Nat→Int→Int
 | [],r=>r
 | i::w,r=>match a.get r with
  | none=>0
  | some q=>di a w (q.ways.getD i 0)
theorem eH {a:Ar} {r:Int} {q:Sl} (h:a.get r=some q) (i:Nat) (w:List Nat):di a (i::w) r=di a w (q.ways.getD i 0):=by
 show (match a.get r with
  | none=>0
  | some q=>di a w (q.ways.getD i 0))=_
 rw [h]
theorem jm.split {x:Ws}: ∀ (w:List Nat) {s:Sh} {r:Int} {L:List Int} {k:Sh},jm x s r L→nodeAt w s=some k→ ∃ rk La Lk Lb,rk=di x.ar w r∧L=La++(Lk++Lb)∧jm x k rk Lk∧ ∀ (y:Ws) (k1:Sh) (L1:List Int),(∀ r∈La,Keeps x y r)→(∀ r∈Lb,Keeps x y r)→jm y k1 rk L1→jm y (oK k1 w s) r (La++(L1++Lb))
 | [],s,r,L,k,h,hk=>by
  injection hk with hk
  subst hk
  exact ⟨r,[],L,[],rfl,by simp,h,fun y k1 L1 _ _ hn=>by simpa [oK] using hn⟩
 | i::w,s,r,L,k,h,hk=>by
  rw [iC] at h
  obtain ⟨q,L1,rfl,h1,h2,h3⟩:=h
  unfold nodeAt at hk
  cases hi:s.f4[i]? with
  | none=>rw [hi] at hk;cases hk
  | some k0=>
   rw [hi] at hk
   have hk:nodeAt w k0=some k:=hk
   obtain ⟨k2,La,Lk,Lb,e1,e2,e3,e4⟩:=jw.part i h3 (List.getElem?_eq_some_iff.1 hi).1
   rw [hi] at e1
   injection e1 with e1
   subst e1
   obtain ⟨rk,Lc,Lm,Ld,f0,f1,f2,f3⟩:=jm.split w e3 hk
   subst e2
   subst f1
   refine ⟨rk,r::(La++Lc),Lm,Ld++Lb,by rw [f0,eH h1.at_],by simp,f2,fun y k1 L1 ha hb hn=>?_⟩
   have g1:=f3 y k1 L1 (fun r hr=>ha r (List.mem_cons_of_mem _ (List.mem_append_right _ hr))) (fun r hr=>hb r (List.mem_append_left _ hr)) hn
   have g2:=e4 y _ _ _ (fun r hr=>ha r (List.mem_cons_of_mem _ (List.mem_append_left _ hr))) (fun r hr=>hb r (List.mem_append_right _ hr)) g1
   rw [wY] at g2
   obtain ⟨q1,k3,k4,k5⟩:=ha r List.mem_cons_self q h1
   unfold oK
   rw [hi]
   rw [iC]
   refine ⟨q1,La++((Lc++(L1++Ld))++Lb),by simp,k3,by rw [k4,FT];exact h2,?_⟩
   rw [k5]
   exact g2
theorem jm.turn {x:Ws} {s:Sh} {r:Int} {L:List Int} (h:jm x s r L) (i:Nat) (hi:i<s.f4.length): ∃ q k La Lk Lb,L=r::(La++(Lk++Lb))∧Calm x r q∧q.node=qA s q.node.ways∧q.ways.length=s.f4.length∧s.f4[i]?=some k∧jm x k (q.ways.getD i 0) Lk∧
  ∀ (y:Ws) (k1:Sh) (r1:Int) (L1:List Int),(∀ r∈La,Keeps x y r)→(∀ r∈Lb,Keeps x y r)→(∃ q1,Calm y r q1∧q1.node=q.node∧q1.ways=q.ways.set i r1)→jm y k1 r1 L1→jm y { s with f4:=s.f4.set i k1 } r (r::(La++(L1++Lb))):=by
 rw [iC] at h
 obtain ⟨q,L1,rfl,h1,h2,h3⟩:=h
 obtain ⟨k,La,Lk,Lb,e1,e2,e3,e4⟩:=jw.part i h3 hi
 subst e2
 refine ⟨q,k,La,Lk,Lb,rfl,h1,h2,mq h3,e1,e3,fun y k1 r1 L1 ha hb hq hn=>?_⟩
 obtain ⟨q1,k3,k4,k5⟩:=hq
 rw [iC]
 refine ⟨q1,_,rfl,k3,by rw [k4,FT];exact h2,?_⟩
 rw [k5]
 exact e4 y k1 r1 L1 ha hb hn
theorem nY {x y:Ws} {r:Int} (h:y.ar.get r=x.ar.get r) (ht:y.tb=x.tb):Keeps x y r:=fun q hq=>⟨q,⟨by rw [h];exact hq.at_,hq.mark,by rw [ht];exact hq.state,hq.ways⟩,rfl,rfl⟩
theorem yh (t:Tb):t.en 0=en0:=by
 unfold Tb.en Tb.idx
 rw [if_neg (by omega)]
theorem wu {x:Ws} {r c:Int} {n:Nd} (h:x.ar.get r=some (fe n c)):Calm x r (fe n c):=⟨h,rfl,.inl (by show (x.tb.en 0).state=0;rw [yh];rfl),rfl⟩
structure Grown (a:Ar) (L:List Int) (a1:Ar):Prop where
 fine:a1.pF
 used:a1.used=a.used+(L.length:Int)
 most:a1.most=a.most
 faults:a1.faults=a.faults
 nodup:L.Nodup
 new: ∀ r∈L,a.get r=none
 far: ∀ r,r∉L→a1.get r=a.get r
theorem Grown.refl {a:Ar} (h:a.pF):Grown a [] a:=⟨h,by simp,rfl,rfl,List.nodup_nil,fun r h=>by simp at h,fun _ _=>rfl⟩
theorem Grown.trans {a b c:Ar} {L M:List Int} (h:Grown a L b) (k:Grown b M c) (hL: ∀ r∈L,b.get r≠none):Grown a (L++M) c where
 fine:=k.fine
 used:=by rw [k.used,h.used,List.length_append];omega
 most:=k.most.trans h.most
 faults:=k.faults.trans h.faults
 nodup:=by
  rw [List.nodup_append]
  exact ⟨h.nodup,k.nodup,fun r hr s hs e=>hL r hr (by subst e;exact k.new _ hs)⟩
 new:=fun r hr=>by
  rcases List.mem_append.1 hr with hr | hr
  ·exact h.new r hr
  ·by_cases e:r∈L
   ·exact h.new r e
   ·rw [←h.far r e];exact k.new r hr
 far:=fun r hr=>by
  rw [k.far r (fun e=>hr (List.mem_append_right _ e)),h.far r (fun e=>hr (List.mem_append_left _ e))]
theorem More.grown {a a1:Ar} {n:Nd} {r:Int} (h:a.More n r a1):Grown a [r] a1 where
 fine:=h.fine
 used:=by rw [h.used];rfl
 most:=h.most
 faults:=h.faults
 nodup:=by simp
 new:=fun s hs=>by rw [List.mem_singleton] at hs;subst hs;exact h.new
 far:=fun s hs=>h.far s (fun e=>hs (by rw [e];exact List.mem_singleton_self _))
mutual
theorem jm.here {x:Ws}: ∀ {s:Sh} {r:Int} {L:List Int},jm x s r L→ ∀ r1∈L,∃ q,Calm x r1 q
 | ⟨l,t,ps,ks,kids⟩,r,L,h,r1,hr=>by
  rw [jm] at h
  obtain ⟨q,L1,rfl,h1,h2,h3⟩:=h
  rcases List.mem_cons.1 hr with rfl | hr
  ·exact ⟨q,h1⟩
  ·exact jw.here h3 r1 hr
theorem jw.here {x:Ws}: ∀ {kids:List Sh} {ws L:List Int},jw x kids ws L→ ∀ r1∈L,∃ q,Calm x r1 q
 | [],ws,L,h,r1,hr=>by rw [jw] at h;rw [h.2] at hr;cases hr
 | k::ks,ws,L,h,r1,hr=>by
  rw [jw] at h
  obtain ⟨r,ws1,L1,L2,rfl,rfl,h1,h2⟩:=h
  rcases List.mem_append.1 hr with hr | hr
  ·exact jm.here h1 r1 hr
  ·exact jw.here h2 r1 hr
end
theorem AP {x:Ws} {L:List Int} (h: ∀ r1∈L,∃ q,Calm x r1 q): ∀ r∈L,x.ar.get r≠none:=fun r hr e=>by
 obtain ⟨q,hq⟩:=h r hr
 rw [hq.at_] at e
 cases e
theorem Kl {s:Sh} (h:rA s) {ws:List Int} (hw:ws.length=s.f4.length):(qA s ws).Small:=by
 rw [jT] at h
 exact ⟨by show (fK s.f2).length<_;rw [fq];omega,by show s.f3.length<_;omega,by show ws.length<_;omega⟩
mutual
theorem yg: ∀ (s:Sh) (x:Ws),rA s→x.ar.pF→x.ar.used+(mW s:Int)≤x.ar.most→ ∃ r a1 L,rP s x.ar=some (r,a1)∧Grown x.ar L a1∧L.length=mW s∧jm { x with ar:=a1 } s r L
 | ⟨l,t,ps,ks,kids⟩,x,hs,hf,hm=>by
  have hs0:=hs
  rw [rA] at hs
  rw [mW] at hm ⊢
  obtain ⟨ws,a1,L1,e1,g1,n1,h1⟩:=yP kids x hs.2.2.2 hf (by omega)
  have hlen:=mq h1
  have hsm:=Kl hs0 (ws:=ws) hlen
  obtain ⟨r,a2,hmo⟩:=kD g1.fine (by rw [g1.used,g1.most,n1];omega) (qA ⟨l,t,ps,ks,kids⟩ ws) hsm
  obtain ⟨c,hc⟩:=hmo.at_
  have hlt:=g1.fine.len
  refine ⟨r,a2,r::L1,?_,?_,by rw [List.length_cons,n1];omega,?_⟩
  ·rw [Br,e1,Option.bind_some]
   unfold zH
   rw [if_pos ⟨by simp only;omega,hsm.pairs,hsm.keys,hsm.ways⟩]
   simp only
   rw [hmo.alloc]
   rfl
  ·have hg:=g1.trans (More.grown hmo) (AP (jw.here h1))
   refine ⟨hg.fine,?_,hg.most,hg.faults,?_,fun r1 hr=>hg.new r1 ?_,fun r1 hr=>hg.far r1 ?_⟩
   ·rw [hg.used,List.length_append,List.length_singleton,List.length_cons]
   ·have:=hg.nodup
    rw [List.nodup_append] at this
    rw [List.nodup_cons]
    exact ⟨fun e=>this.2.2 r e r (List.mem_singleton_self _) rfl,g1.nodup⟩
   ·rcases List.mem_cons.1 hr with rfl | hr
    ·exact List.mem_append_right _ (List.mem_singleton_self _)
    ·exact List.mem_append_left _ hr
   ·intro e
    rcases List.mem_append.1 e with e | e
    ·exact hr (List.mem_cons_of_mem _ e)
    ·rw [List.mem_singleton] at e;exact hr (by rw [e];exact List.mem_cons_self)
  ·rw [jm]
   refine ⟨fe (qA ⟨l,t,ps,ks,kids⟩ ws) c,L1,rfl,wu hc,rfl,?_⟩
   have hn:r∉L1:=fun e=>AP (jw.here h1) r e hmo.new
   exact jw.keeps h1 (fun r1 hr=>nY (hmo.far r1 (fun e=>hn (e▸hr))) rfl)
theorem yP: ∀ (l:List Sh) (x:Ws),lQ l→x.ar.pF→x.ar.used+(kV l:Int)≤x.ar.most→ ∃ ws a1 L,pU l x.ar=some (ws,a1)∧Grown x.ar L a1∧L.length=kV l∧jw { x with ar:=a1 } l ws L
 | [],x,_,hf,_=>⟨[],x.ar,[],by rw [pU],Grown.refl hf,by rw [kV];rfl,by rw [jw];exact ⟨rfl,rfl⟩⟩
 | k::ks,x,hs,hf,hm=>by
  rw [lQ] at hs
  rw [kV] at hm ⊢
  obtain ⟨r,a1,L1,e1,g1,n1,h1⟩:=yg k x hs.1 hf (by omega)
  obtain ⟨ws,a2,L2,e2,g2,n2,h2⟩:=yP ks { x with ar:=a1 } hs.2 g1.fine (by simp only;rw [g1.used,g1.most,n1];omega)
  simp only at e2 g2 h2
  have hne:=AP (jm.here h1)
  refine ⟨r::ws,a2,L1++L2,?_,g1.trans g2 hne,by rw [List.length_append,n1,n2],?_⟩
  ·rw [pU,e1,Option.bind_some]
   simp only
   rw [e2,Option.bind_some]
  ·rw [jw]
   exact ⟨r,ws,L1,L2,rfl,rfl,jm.keeps h1 (fun r1 hr=>nY (g2.far r1 (fun e=>hne r1 hr (g2.new r1 e))) rfl),h2⟩
end
def fU (s:Sh):Sh:=⟨false,false,[],[],[s]⟩
structure nG (x:Ws) (s:Sh) (L:List Int):Prop where
 tree:jm x (fU s) x.entry L
 nodup:L.Nodup
 fine:x.ar.pF
theorem Ku (nodes:Int) (h:2≤nodes) (h6:nodes≤65536):(⟨[slA,slB],[],nodes,2,0⟩:Ar).pF where
 good:=⟨h6,h,rfl,by show ((2:Nat):Int)≤2;omega,fun i q hi=>by
  cases i with
  | zero=>simp at hi;subst hi;exact ⟨⟨by decide,by decide,by decide⟩,by decide⟩
  | succ i=>cases i with
   | zero=>simp at hi;subst hi;exact ⟨⟨by decide,by decide,by decide⟩,by decide⟩
   | succ i=>simp at hi⟩
 nodup:=List.nodup_nil
 free:=fun f hf=>by cases hf
theorem Mx (nodes:Int):(⟨[slA,slB],[],nodes,2,0⟩:Ar).get rY=some slA∧(⟨[slA,slB],[],nodes,2,0⟩:Ar).get gQ=some slB:=
 ⟨kC.2 (Qc _ _ _ rfl rfl rfl),kC.2 (Pw _ _ _ _ rfl rfl rfl)⟩
theorem oW:rY≠gQ:=fun h=>by
 have h1:=Lh
 rw [h,KN] at h1
 cases h1
theorem xq (s:Sh) (lo wd nodes:Int) (tt:Tb) (ep:Ep) (hs:rA s) (hm:(2+mW s:Int)≤nodes) (h6:nodes≤65536):
  ∃ a L,vG s ⟨⟨[slA,slB],[],nodes,2,0⟩,tt,ep,lo,wd,gQ⟩=some ⟨a,tt,ep,lo,wd,gQ⟩∧nG ⟨a,tt,ep,lo,wd,gQ⟩ s L∧L.length=1+mW s∧a.used=1+(mW s:Int)∧a.faults=0∧a.most=nodes:=by
 have hf:=Ku nodes (by omega) h6
 obtain ⟨gR,gE⟩:=Mx nodes
 obtain ⟨r,a1,L,e1,g1,n1,h1⟩:=yg s ⟨⟨[slA,slB],[],nodes,2,0⟩,tt,ep,lo,wd,gQ⟩ hs hf (by simp only;omega)
 simp only at e1 g1 h1
 have hR:rY∉L:=fun e=>by have:=g1.new _ e;rw [gR] at this;cases this
 have hE:gQ∉L:=fun e=>by have:=g1.new _ e;rw [gE] at this;cases this
 have kR:=(g1.far _ hR).trans gR
 have kE:=(g1.far _ hE).trans gE
 have sw:a1.gL gQ 0 rY r=(true,a1.mod gQ (mX 0 r)):=sV kE 0 (by decide) r
 have f2:=wZ g1.fine (qE 0 r) gQ
 have m2:=kM (qE 0 r) kE
 have kR2:(a1.mod gQ (mX 0 r)).get rY=some slA:=by rw [m2,if_neg oW];exact kR
 have kE2:(a1.mod gQ (mX 0 r)).get gQ=some (mX 0 r slB):=by rw [m2,if_pos rfl]
 obtain ⟨a3,hl⟩:=Hg f2 kR2
 obtain ⟨z1,z2,z3,z4⟩:=wU a1 gQ (mX 0 r)
 have kE3:a3.get gQ=some (mX 0 r slB):=(hl.far _ (fun e=>oW e.symm)).trans kE2
 refine ⟨a3,gQ::L,?_,⟨?_,List.nodup_cons.2 ⟨hE,g1.nodup⟩,hl.fine⟩,by rw [List.length_cons,n1];omega,?_,?_,?_⟩
 ·unfold vG
  have hw:(⟨[slA,slB],[],nodes,2,0⟩:Ar).way gQ 0=(rY,⟨[slA,slB],[],nodes,2,0⟩):=vQ gE 0 (by decide)
  simp only
  rw [hw]
  simp only
  rw [e1,Option.bind_some]
  simp only
  rw [sw]
  simp only
  rw [hl.free]
  have hlt:=g1.fine.len
  have hl2:=f2.len
  have hfl:(a1.mod gQ (mX 0 r)).free.length<1000000:=by
   have:=f2.good.used
   have h3:=f2.good.cnt
   omega
  rw [if_pos ⟨by decide,by omega,by omega,hfl⟩]
 ·rw [iC]
  refine ⟨mX 0 r slB,L,rfl,⟨kE3,rfl,.inl (by show (tt.en 0).state=0;rw [yh];rfl),rfl⟩,rfl,?_⟩
  show jw _ [s] [r] L
  rw [jw]
  refine ⟨r,[],L,[],rfl,by rw [List.append_nil],jm.keeps h1 (fun r1 hr=>nY ?_ rfl),by rw [jw];exact ⟨rfl,rfl⟩⟩
  simp only
  rw [hl.far r1 (fun e=>hR (e▸hr)),m2,if_neg (fun e=>hE (by rw [←e];exact hr))]
 ·rw [hl.used,z2,g1.used,n1];simp only;omega
 ·rw [hl.faults,z3,g1.faults]
 ·rw [hl.most,z1,g1.most]
theorem yQ (x:Ws) (d:Nat) (ih: ∀ (s:Sh) (r:Int) (L:List Int),jI s≤d→jm x s r L→iI d r x.ar=(s,x.ar)) (r:Int) (q:Sl) (hq:x.ar.get r=some q): ∀ (kids:List Sh) (ws L:List Int) (i:Nat),q.ways.drop i=ws→jw x kids ws L→iV kids≤d+1→kJ (iI d) r i ws.length x.ar=(kids,x.ar)
 | [],ws,L,i,h,hl,hd=>by
  rw [jw] at hl
  rw [hl.1]
  rfl
 | k::ks,ws,L,i,h,hl,hd=>by
  rw [jw] at hl
  obtain ⟨r1,ws1,L1,L2,rfl,rfl,h1,h2⟩:=hl
  rw [iV] at hd
  have hi:i<q.ways.length:=by
   have:=congrArg List.length h
   rw [List.length_drop,List.length_cons] at this
   omega
  have hx:q.ways.getD i 0=r1:=by
   have:=congrArg (fun l=>l[0]?) h
   simp only [List.getElem?_drop,Nat.add_zero,List.getElem?_cons_zero] at this
   rw [List.getD_eq_getElem?_getD,this]
   rfl
  have hw:=vQ hq i hi
  rw [hx] at hw
  rw [List.length_cons,kJ,hw]
  simp only
  rw [ih k r1 L1 (by omega) h1]
  simp only
  rw [yQ x d ih r q hq ks ws1 L2 (i+1) (by rw [←List.drop_drop,h];rfl) h2 (by omega)]
theorem Hz (x:Ws): ∀ (d:Nat) (s:Sh) (r:Int) (L:List Int),jI s≤d→jm x s r L→iI d r x.ar=(s,x.ar):=by
 intro d
 induction d with
 | zero=>
  intro s r L hd h
  obtain ⟨q,L1,rfl,h1,h2,h3⟩:=(iC x s r L).1 h
  have hk:s.f4= []:=by
   rw [iq] at hd
   cases h:s.f4 with
   | nil=>rfl
   | cons k r=>rw [h,iV] at hd;omega
  rw [iI,wz h1.at_,h2]
  have:=KS s q.node.ways
  rw [hk] at this
  simp only [this]
 | succ d ih=>
  intro s r L hd h
  obtain ⟨q,L1,rfl,h1,h2,h3⟩:=(iC x s r L).1 h
  rw [iq] at hd
  have hl:=yQ x d ih r q h1.at_ s.f4 q.ways L1 0 (by rw [List.drop_zero]) h3 hd
  rw [iI,wz h1.at_,h2]
  simp only
  rw [show (qA s q.node.ways).ways.length=q.ways.length from h1.ways,hl]
  simp only [KS]
theorem nG.read {x:Ws} {s:Sh} {L:List Int} (h:nG x s L) (hd:jI s≤40):Ws.read x=(s,x.ar):=by
 obtain ⟨q,L1,rfl,h1,h2,h3⟩:=(iC _ _ _ _).1 h.tree
 have h3:jw x [s] q.ways L1:=h3
 rw [jw] at h3
 obtain ⟨r,ws1,L2,L3,e1,rfl,h4,h5⟩:=h3
 rw [jw] at h5
 rw [h5.1] at e1
 have hw:=vQ h1.at_ 0 (by rw [e1];simp)
 rw [show ((0:Nat):Int)=0 from rfl,e1] at hw
 unfold Ws.read
 rw [hw]
 exact Hz x 40 s _ L2 hd h4
inductive Ei (a:Ar) (key:Int):Int→List Stp→Prop where
 | leaf {r:Int} {q:Sl} (h:a.get r=some q) (hi:q.node.inner=false):Ei a key r [⟨r,q.node,fw q.node key⟩]
 | inner {r r1:Int} {q:Sl} {i:Nat} {l:List Stp} (h:a.get r=some q) (hi:q.node.inner=true) (hs:fw q.node key=(i:Int)) (hw:i<q.ways.length) (hr:q.ways.getD i 0=r1) (h0:r1≠0) (hl:Ei a key r1 l):Ei a key r (⟨r,q.node,(i:Int)⟩::l)
theorem Ei.pos {a:Ar} {key r:Int} {l:List Stp} (h:Ei a key r l):0<l.length:=by cases h<;>simp
theorem vO {K:Int→Prop} {x:Ws} {key r:Int} {l:List Stp} (h:Ei x.ar key r l): ∀ (f:Nat) (acc:List Stp),l.length≤f→(∀ p∈l,K p.ref)→Alone K (kZ key f r acc) x x (l.length - 1) (acc++l):=by
 induction h with
 | @leaf r q h hi=>
  intro f acc hf hK
  obtain ⟨f,rfl⟩: ∃ g,f=g+1:=⟨f - 1,by simp at hf;omega⟩
  have h1:=pz (K:=K) (hK _ List.mem_cons_self) h
  rw [kZ]
  exact h1.bind (f:=fun n=>if n.inner=false then fun s=>some (.ret (acc++ [⟨r,n,fw n key⟩]),s) else aQ (Jk r (fw n key)) fun r1=>if r1=0 then fun s=>some (.ret (acc++ [⟨r,n,fw n key⟩]),s) else kZ key f r1 (acc++ [⟨r,n,fw n key⟩])) (by
   rw [if_pos hi]
   exact Alone.ret _ _)
 | @inner r r1 q i l h hi hs hw hr h0 hl ih=>
  intro f acc hf hK
  obtain ⟨f,rfl⟩: ∃ g,f=g+1:=⟨f - 1,by simp at hf;omega⟩
  have h1:=pz (K:=K) (hK _ List.mem_cons_self) h
  have h2:=xW (K:=K) h i hw
  rw [hr] at h2
  have h3:=ih f (acc++ [⟨r,q.node,(i:Int)⟩]) (by simp at hf;omega) (fun p hp=>hK p (List.mem_cons_of_mem _ hp))
  have hp:=hl.pos
  rw [kZ]
  refine (h1.bind (f:=fun n=>if n.inner=false then fun s=>some (.ret (acc++ [⟨r,n,fw n key⟩]),s) else aQ (Jk r (fw n key)) fun r1=>if r1=0 then fun s=>some (.ret (acc++ [⟨r,n,fw n key⟩]),s) else kZ key f r1 (acc++ [⟨r,n,fw n key⟩])) (x2:=x) (n2:=1+(l.length - 1)) (b:=acc++(⟨r,q.node,(i:Int)⟩::l)) ?_).cast (show 0+(1+(l.length - 1))=((⟨r,q.node,(i:Int)⟩:Stp)::l).length - 1 by rw [List.length_cons];omega)
  rw [if_neg (by rw [hi];simp),hs]
  refine h2.bind ?_
  rw [if_neg h0]
  rw [show acc++(⟨r,q.node,(i:Int)⟩::l)=(acc++ [⟨r,q.node,(i:Int)⟩])++l by simp]
  exact h3
mutual
def tL:Sh→Prop
 | ⟨l,_,_,_,kids⟩=>(l=false→kids≠ [])∧nT kids
def nT:List Sh→Prop
 | []=>True
 | k::r=>tL k∧nT r
end
theorem oh (s:Sh):tL s↔(s.f0=false→s.f4≠ [])∧nT s.f4:=by cases s;rw [tL]
theorem BH: ∀ {l:List Sh} {i:Nat} {k:Sh},nT l→l[i]?=some k→tL k
 | [],i,k,_,h=>by simp at h
 | a::r,0,k,hb,h=>by rw [nT] at hb;injection h with h;subst h;exact hb.1
 | a::r,i+1,k,hb,h=>by rw [nT] at hb;exact BH hb.2 (by simpa using h)
theorem BD: ∀ {l:List Sh} {i:Nat} {k:Sh},l[i]?=some k→jI k+1≤iV l
 | [],i,k,h=>by simp at h
 | a::r,0,k,h=>by injection h with h;subst h;rw [iV];omega
 | a::r,i+1,k,h=>by have:=BD (l:=r) (i:=i) (by simpa using h);rw [iV];omega
def Oz (s:Sh) (key:Int):Nat:=(ru s.f3 s.f4.length key).toNat
def jr (key:Int):Nat→Sh→List Nat
 | 0,_=> []
 | d+1,s=>if s.f0 then [] else match s.f4[Oz s key]? with
  | none=> []
  | some k=>Oz s key::jr key d k
def dW (a:Ar) (r:Int):Nd:=match a.get r with
 | none=>nd0
 | some q=>q.node
def ji (a:Ar) (key:Int):List Nat→Int→List Stp
 | [],r=> [⟨r,dW a r,fw (dW a r) key⟩]
 | i::w,r=>⟨r,dW a r,(i:Int)⟩::ji a key w (di a [i] r)
theorem uD (a:Ar) (key:Int): ∀ (w:List Nat) (r:Int),(ji a key w r).length=w.length+1
 | [],r=>rfl
 | i::w,r=>by
  unfold ji
  rw [List.length_cons,uD a key w,List.length_cons]
theorem qO (a:Ar): ∀ (v w:List Nat) (r:Int),(∀ u,u<+:v→a.get (di a u r)≠none)→di a (v++w) r=di a w (di a v r)
 | [],w,r,_=>rfl
 | i::v,w,r,h=>by
  have h0:=h [] (List.nil_prefix)
  cases hq:a.get r with
  | none=>exact absurd hq h0
  | some q=>
   rw [List.cons_append,eH hq,eH hq]
   refine qO a v w _ (fun u hu=>?_)
   have:=h (i::u) (by rw [List.cons_prefix_cons];exact ⟨rfl,hu⟩)
   rw [eH hq] at this
   exact this
theorem BQ {x:Ws} (key:Int): ∀ (d:Nat) (s:Sh) (r:Int) (L:List Int),jI s≤d→tL s→jm x s r L→Ei x.ar key r (ji x.ar key (jr key d s) r)∧(∀ p∈ji x.ar key (jr key d s) r,p.ref∈L)∧ ∃ k,nodeAt (jr key d s) s=some k∧k.f0=true:=by
 intro d
 induction d with
 | zero=>
  intro s r L hd hb h
  obtain ⟨q,L1,rfl,h1,h2,h3⟩:=(iC x s r L).1 h
  have hk:s.f4= []:=by
   rw [iq] at hd
   cases h:s.f4 with
   | nil=>rfl
   | cons k r=>rw [h,iV] at hd;omega
  have hl:s.f0=true:=by
   have:=((oh s).1 hb).1
   cases h0:s.f0 with
   | true=>rfl
   | false=>exact absurd hk (this h0)
  have hn:dW x.ar r=q.node:=by unfold dW;rw [h1.at_]
  show Ei x.ar key r [⟨r,dW x.ar r,fw (dW x.ar r) key⟩]∧_
  rw [hn]
  refine ⟨.leaf h1.at_ (by rw [h2];show (!s.f0)=false;rw [hl];rfl),fun p hp=>?_,s,rfl,hl⟩
  have hp:p∈ [(⟨r,dW x.ar r,fw (dW x.ar r) key⟩:Stp)]:=hp
  rw [List.mem_singleton] at hp
  rw [hp]
  exact List.mem_cons_self
 | succ d ih=>
  intro s r L hd hb h
  obtain ⟨q,L1,rfl,h1,h2,h3⟩:=(iC x s r L).1 h
  have hn:dW x.ar r=q.node:=by unfold dW;rw [h1.at_]
  cases h0:s.f0 with
  | true=>
   have e:jr key (d+1) s= []:=by unfold jr;rw [if_pos h0]
   rw [e]
   show Ei x.ar key r [⟨r,dW x.ar r,fw (dW x.ar r) key⟩]∧_
   rw [hn]
   refine ⟨.leaf h1.at_ (by rw [h2];show (!s.f0)=false;rw [h0];rfl),fun p hp=>?_,s,rfl,h0⟩
   have hp:p∈ [(⟨r,dW x.ar r,fw (dW x.ar r) key⟩:Stp)]:=hp
   rw [List.mem_singleton] at hp
   rw [hp]
   exact List.mem_cons_self
  | false=>
   obtain ⟨hb1,hb2⟩:=(oh s).1 hb
   have hne:=hb1 h0
   have hpos:0<s.f4.length:=List.length_pos_iff.2 hne
   obtain ⟨i,w1,w2⟩:=sJ s.f3 s.f4.length key hpos
   have hwn:Oz s key=i:=by unfold Oz;rw [w1];rfl
   obtain ⟨k,hk⟩: ∃ k,s.f4[i]?=some k:=⟨_,List.getElem?_eq_getElem w2⟩
   have e:jr key (d+1) s=i::jr key d k:=by
    rw [jr,if_neg (by rw [h0];simp),hwn,hk]
   have hlen:=mq h3
   obtain ⟨k2,La,Lk,Lb,e1,e2,e3,_⟩:=jw.part i h3 w2
   rw [hk] at e1
   injection e1 with e1
   subst e1
   rw [iq] at hd
   have hdk:=BD hk
   obtain ⟨a1,a2,k3,a3,a4⟩:=ih k _ Lk (by omega) (BH hb2 hk) e3
   have hin:q.node.inner=true:=by rw [h2];show (!s.f0)=true;rw [h0];rfl
   have hst:fw q.node key=(i:Int):=by
    unfold fw
    rw [if_pos hin,h1.ways,hlen,h2]
    exact w1
   have hra:di x.ar [i] r=q.ways.getD i 0:=eH h1.at_ i []
   rw [e]
   show Ei x.ar key r (⟨r,dW x.ar r,(i:Int)⟩::ji x.ar key (jr key d k) (di x.ar [i] r))∧(∀ p∈(⟨r,dW x.ar r,(i:Int)⟩::ji x.ar key (jr key d k) (di x.ar [i] r):List Stp),p.ref∈r::L1)∧_
   rw [hn,hra]
   refine ⟨.inner h1.at_ hin hst (by rw [hlen];exact w2) rfl ?_ a1,fun p hp=>?_,k3,?_,a4⟩
   ·obtain ⟨q3,h3⟩:=jm.here e3 (q.ways.getD i 0) (by obtain ⟨_,_,rfl,_⟩:=(iC x k _ Lk).1 e3;exact List.mem_cons_self)
    exact Pt h3.at_
   ·rcases List.mem_cons.1 hp with rfl | hp
    ·exact List.mem_cons_self
    ·rw [e2]
     exact List.mem_cons_of_mem _ (List.mem_append_right _ (List.mem_append_left _ (a2 p hp)))
   ·unfold nodeAt
    rw [hk]
    exact a3
theorem rW (a:Ar) (key:Int) (i:Nat): ∀ (w:List Nat) (r:Int),(∀ u,u<+:w→a.get (di a u r)≠none)→ ∃ l,ji a key (w++ [i]) r=l++ [⟨di a w r,dW a (di a w r),(i:Int)⟩,⟨di a (w++ [i]) r,dW a (di a (w++ [i]) r),fw (dW a (di a (w++ [i]) r)) key⟩]∧l.length=w.length
 | [],r,h=>⟨[],rfl,rfl⟩
 | j::w,r,h=>by
  have h0:=h [] (List.nil_prefix)
  cases hq:a.get r with
  | none=>exact absurd hq h0
  | some q=>
   obtain ⟨l,h1,h2⟩:=rW a key i w (di a [j] r) (fun u hu=>by
    have:=h (j::u) (by rw [List.cons_prefix_cons];exact ⟨rfl,hu⟩)
    rw [eH hq] at this
    rw [eH hq]
    exact this)
   refine ⟨⟨r,dW a r,(j:Int)⟩::l,?_,by rw [List.length_cons,h2,List.length_cons]⟩
   have e1:di a (j::w) r=di a w (di a [j] r):=by rw [eH hq,eH hq];rfl
   have e2:di a (j::(w++ [i])) r=di a (w++ [i]) (di a [j] r):=by rw [eH hq,eH hq];rfl
   rw [List.cons_append,e1,e2]
   show ⟨r,dW a r,(j:Int)⟩::ji a key (w++ [i]) (di a [j] r)=_
   rw [h1]
   rfl
structure LB (x:Ws) (s:Sh) (r:Int) (L:List Int) (w:List Nat) (k:Sh) (i:Nat) (qp:Sl) (kid:Sh) (A Lk B:List Int):Prop where
 list:L=A++(Lk++B)
 mem:di x.ar w r∈A
 calm:Calm x (di x.ar w r) qp
 node:qp.node=qA k qp.node.ways
 ways:qp.ways.length=k.f4.length
 kidAt:k.f4[i]?=some kid
 tree:jm x kid (qp.ways.getD i 0) Lk
 other: ∀ (y:Ws) (k1:Sh) (r1:Int) (L1:List Int),(∀ q∈A,q≠di x.ar w r→Keeps x y q)→(∀ q∈B,Keeps x y q)→(∃ q1,Calm y (di x.ar w r) q1∧q1.node=qp.node∧q1.ways=qp.ways.set i r1)→jm y k1 r1 L1→jm y (oK { k with f4:=k.f4.set i k1 } w s) r (A++(L1++B))
theorem Nv {x:Ws} {s:Sh} {r:Int} {L:List Int} (h:jm x s r L) (hn:L.Nodup) (w:List Nat) (k:Sh) (hw:nodeAt w s=some k) (i:Nat) (hi:i<k.f4.length): ∃ qp kid A Lk B,LB x s r L w k i qp kid A Lk B:=by
 obtain ⟨rk,La,Lm,Lb,e0,e1,e2,e3⟩:=jm.split w h hw
 obtain ⟨qp,kid,Lc,Lk,Ld,f1,f2,f3,f4,f5,f6,f7⟩:=jm.turn e2 i hi
 subst e0
 subst f1
 rw [e1,List.nodup_append] at hn
 have hA: ∀ q∈La,q≠di x.ar w r:=fun q hq e=>hn.2.2 q hq (di x.ar w r) (List.mem_append_left _ List.mem_cons_self) e
 have hn2:=hn.2.1
 rw [List.nodup_append] at hn2
 have hn3:=hn2.1
 rw [List.nodup_cons] at hn3
 have hC: ∀ q∈Lc,q≠di x.ar w r:=fun q hq e=>hn3.1 (e▸List.mem_append_left _ hq)
 refine ⟨qp,kid,La++(di x.ar w r::Lc),Lk,Ld++Lb,⟨by rw [e1];simp,List.mem_append_right _ List.mem_cons_self,f2,f3,f4,f5,f6,fun y k1 r1 L1 ha hb hq ht=>?_⟩⟩
 have h1:=f7 y k1 r1 L1 (fun q hq=>ha q (List.mem_append_right _ (List.mem_cons_of_mem _ hq)) (hC q hq)) (fun q hq=>hb q (List.mem_append_left _ hq)) hq ht
 have h2:=e3 y _ _ (fun q hq=>ha q (List.mem_append_left _ hq) (hA q hq)) (fun q hq=>hb q (List.mem_append_right _ hq)) h1
 have e:La++(di x.ar w r::Lc)++(L1++(Ld++Lb))=La++((di x.ar w r::(Lc++(L1++Ld)))++Lb):=by simp
 rw [e]
 exact h2
theorem GU (t:Tb) (e:En) (n:Int):({ t with l:=t.l++ [e] }:Tb).en n=e∨({ t with l:=t.l++ [e] }:Tb).en n=t.en n:=by
 unfold Tb.en Tb.idx
 simp only [List.length_append,List.length_singleton]
 by_cases h:1≤n∧n≤((t.l.length+1:Nat):Int)
 ·rw [if_pos h]
  simp only
  by_cases h1:n≤(t.l.length:Int)
  ·rw [if_pos ⟨h.1,h1⟩]
   simp only
   right
   rw [List.getD_eq_getElem?_getD,List.getElem?_append_left (by omega),List.getD_eq_getElem?_getD]
  ·left
   rw [List.getD_eq_getElem?_getD,List.getElem?_append_right (by omega),show (n - 1).toNat - t.l.length=0 by omega]
   rfl
 ·right
  rw [if_neg h,if_neg (by omega)]
section
variable {x:Ws} {l:List (Int × Sl)} {keep i:Nat} {old now:Int}
theorem DZ (x:Ws) (l:List (Int × Sl)) (keep i:Nat) (old now:Int) (r:Int) (hr:r∉l.map Prod.fst) (h0:r≠(l.map Prod.fst).headD 0) (hh:x.ar.get ((l.map Prod.fst).headD 0)≠none):(iG x l keep i old now).ar.get r=x.ar.get r:=by
 unfold iG
 simp only
 have h1:((x.ar.eG (gT ((x.tb.l.length+1:Nat):Int)) (l.map Prod.fst)).eG nK ((l.map Prod.fst).drop keep)).get ((l.map Prod.fst).headD 0)≠none:=by
  rw [iw nS (fun _=>rfl),iw (kX _) (fun _=>rfl)]
  cases hq:x.ar.get ((l.map Prod.fst).headD 0) with
  | none=>exact absurd hq hh
  | some q=>simp
 obtain ⟨q,hq⟩:=Option.ne_none_iff_exists'.1 h1
 rw [kM (qE i now) hq,if_neg h0,iw nS (fun _=>rfl),iw (kX _) (fun _=>rfl)]
 have hd:r∉(l.map Prod.fst).drop keep:=fun e=>hr (List.mem_of_mem_drop e)
 cases x.ar.get r with
 | none=>rfl
 | some z=>simp only [Option.map_some,if_neg hr,if_neg hd]
theorem qR (x:Ws) (l:List (Int × Sl)) (keep i:Nat) (old now:Int) (r:Int) (hr:r∉l.map Prod.fst) (h0:r≠(l.map Prod.fst).headD 0) (hh:x.ar.get ((l.map Prod.fst).headD 0)≠none):Keeps x (iG x l keep i old now) r:=fun q hq=>by
 refine ⟨q,⟨(DZ x l keep i old now r hr h0 hh).trans hq.at_,hq.mark,?_,hq.ways⟩,rfl,rfl⟩
 have hs:=hq.state
 show ((({ x.tb with l:=x.tb.l++ [⟨OB l keep i old now,2,true⟩] }:Tb).en q.info).state=0∨(({ x.tb with l:=x.tb.l++ [⟨OB l keep i old now,2,true⟩] }:Tb).en q.info).state=2)
 rcases GU x.tb ⟨OB l keep i old now,2,true⟩ q.info with e | e
 ·rw [e];exact .inr rfl
 ·rw [e];exact hs
theorem zN (x:Ws) (p:Int × Sl) (l:List (Int × Sl)) (i:Nat) (old now:Int) (hp:x.ar.get p.1=some p.2) (hm:p.2.mark=false) (hw:p.2.node.ways.length=p.2.ways.length) (hn:p.1∉l.map Prod.fst): ∃ q1,Calm (iG x (p::l) 1 i old now) p.1 q1∧q1.node=p.2.node∧q1.ways=p.2.ways.set i now:=by
 have h1:((x.ar.eG (gT ((x.tb.l.length+1:Nat):Int)) ((p::l).map Prod.fst)).eG nK (((p::l).map Prod.fst).drop 1)).get p.1=some (gT ((x.tb.l.length+1:Nat):Int) p.2):=by
  rw [iw nS (fun _=>rfl),iw (kX _) (fun _=>rfl),hp]
  have hm1:p.1∈(p::l).map Prod.fst:=List.mem_map_of_mem List.mem_cons_self
  have hn1:p.1∉((p::l).map Prod.fst).drop 1:=hn
  simp only [Option.map_some,if_pos hm1,if_neg hn1]
 refine ⟨mX i now (gT ((x.tb.l.length+1:Nat):Int) p.2),⟨?_,hm,?_,?_⟩,rfl,rfl⟩
 ·unfold iG
  simp only
  rw [show ((p::l).map Prod.fst).headD 0=p.1 from rfl,kM (qE i now) h1,if_pos rfl]
 ·right
  show (({ x.tb with l:=x.tb.l++ [⟨OB (p::l) 1 i old now,2,true⟩] }:Tb).en ((x.tb.l.length+1:Nat):Int)).state=2
  rw [Dh]
 ·show p.2.node.ways.length=(p.2.ways.set i now).length
  rw [List.length_set]
  exact hw
theorem zA (h:x.ar.pF):(iG x l keep i old now).ar.pF:=wZ (nJ nS _ (nJ (kX _) _ h)) (qE i now) _
theorem zY (x:Ws) (l:List (Int × Sl)) (keep i:Nat) (old now:Int):(iG x l keep i old now).ar.most=x.ar.most∧(iG x l keep i old now).ar.used=x.ar.used∧(iG x l keep i old now).ar.faults=x.ar.faults:=by
 obtain ⟨a1,a2,a3,_⟩:=nH (gT ((x.tb.l.length+1:Nat):Int)) (l.map Prod.fst) x.ar
 obtain ⟨b1,b2,b3,_⟩:=nH nK ((l.map Prod.fst).drop keep) (x.ar.eG (gT ((x.tb.l.length+1:Nat):Int)) (l.map Prod.fst))
 obtain ⟨c1,c2,c3,_⟩:=wU ((x.ar.eG (gT ((x.tb.l.length+1:Nat):Int)) (l.map Prod.fst)).eG nK ((l.map Prod.fst).drop keep)) ((l.map Prod.fst).headD 0) (mX i now)
 exact ⟨c1.trans (b1.trans a1),c2.trans (b2.trans a2),c3.trans (b3.trans a3)⟩
end
theorem Ab {x x1:Ws} {s:Sh} {r:Int} {L:List Int} {w:List Nat} {k:Sh} {i:Nat} {qp:Sl} {kid:Sh} {A Lk B:List Int} (h:LB x s r L w k i qp kid A Lk B) (hn:L.Nodup)
  (hk: ∀ q∈A++B,x1.ar.get q=x.ar.get q) (ht:x1.tb=x.tb) (l:List (Int × Sl)) (hl: ∀ q∈l.map Prod.fst,q∈Lk) (old now:Int) (k1:Sh) (L1:List Int) (h1:jm x1 k1 now L1) (hf: ∀ q∈L1,q∉l.map Prod.fst∧q∉A++B) (hn1:L1.Nodup):
  jm (iG x1 ((di x.ar w r,qp)::l) 1 i old now) (oK { k with f4:=k.f4.set i k1 } w s) r (A++(L1++B))∧(A++(L1++B)).Nodup:=by
 have hnd:=hn
 rw [h.list,List.nodup_append] at hnd
 have hnd2:=hnd.2.1
 rw [List.nodup_append] at hnd2
 have hAB: ∀ q,q∈A++B→q∉Lk:=fun q hq hm=>by
  rcases List.mem_append.1 hq with hq | hq
  ·exact hnd.2.2 q hq q (List.mem_append_left _ hm) rfl
  ·exact hnd2.2.2 q hm q hq rfl
 have hp:x1.ar.get (di x.ar w r)=some qp:=(hk _ (List.mem_append_left _ h.mem)).trans h.calm.at_
 have hh:x1.ar.get (((di x.ar w r,qp)::l).map Prod.fst |>.headD 0)≠none:=by
  show x1.ar.get (di x.ar w r)≠none
  rw [hp]
  simp
 have hkeep: ∀ q∈A++B,q≠di x.ar w r→Keeps x (iG x1 ((di x.ar w r,qp)::l) 1 i old now) q:=fun q hq hne=>
  (nY (hk q hq) ht).trans (qR x1 _ 1 i old now q (fun e=>by
   rcases List.mem_cons.1 (show q∈di x.ar w r::l.map Prod.fst from e) with e | e
   ·exact hne e
   ·exact hAB q hq (hl q e)) hne hh)
 constructor
 ·refine h.other _ k1 now L1 (fun q hq hne=>hkeep q (List.mem_append_left _ hq) hne) (fun q hq=>hkeep q (List.mem_append_right _ hq) (fun e=>?_)) ?_ (h1.keeps (fun q hq=>qR x1 _ 1 i old now q (fun e=>?_) (fun e=>?_) hh))
  ·exact hnd.2.2 _ h.mem q (List.mem_append_right _ hq) e.symm
  ·exact zN x1 (di x.ar w r,qp) l i old now hp h.calm.mark h.calm.ways (fun e=>hAB _ (List.mem_append_left _ h.mem) (hl _ e))
  ·rcases List.mem_cons.1 (show q∈di x.ar w r::l.map Prod.fst from e) with e | e
   ·exact (hf q hq).2 (e▸List.mem_append_left _ h.mem)
   ·exact (hf q hq).1 e
  ·have e:q=di x.ar w r:=e
   exact (hf q hq).2 (e▸List.mem_append_left _ h.mem)
 ·rw [List.nodup_append,List.nodup_append]
  refine ⟨hnd.1,⟨hn1,hnd2.2.1,fun a ha b hb e=>(hf a ha).2 (e▸List.mem_append_right _ hb)⟩,fun a ha b hb e=>?_⟩
  rcases List.mem_append.1 hb with hb | hb
  ·exact (hf b hb).2 (e▸List.mem_append_left _ ha)
  ·exact hnd.2.2 a ha b (List.mem_append_right _ hb) e
theorem Rq (l:List (Int × Int)):fK (Cf l)=l:=by
 unfold Cf fK
 rw [List.map_map]
 exact List.map_id'' (fun q=>rfl) l
def uI (l:List (Int × Int)):Sh:=⟨true,false,Cf l,[],[]⟩
theorem IJ (l:List (Int × Int)):(⟨false,false,l,[],[]⟩:Nd)=qA (uI l) []:=by
 show _=(⟨!true,false,fK (Cf l),[],[]⟩:Nd)
 rw [Rq]
 rfl
theorem tQ {x:Ws} {r c:Int} {l:List (Int × Int)} (h:x.ar.get r=some (fe ⟨false,false,l,[],[]⟩ c)):jm x (uI l) r [r]:=by
 rw [iC]
 refine ⟨_,[],rfl,wu h,?_,?_⟩
 ·show (⟨false,false,l,[],[]⟩:Nd)=qA (uI l) []
  exact IJ l
 ·show jw x [] [] []
  rw [jw]
  exact ⟨rfl,rfl⟩
def vC (l:List (Int × Int)) (b:Int) (tagged:Bool):Sh:=if (l.length:Int)≤b then uI l else ⟨false,tagged,[],[(l.getD (l.length / 2) (0,0)).1],[uI (l.take (l.length / 2)),uI (l.drop (l.length / 2))]⟩
def iA (l:List (Int × Int)) (b:Int):Nat:=if (l.length:Int)≤b then 1 else 3
theorem xA {K:Int→Prop} {x:Ws} (hx:x.ar.pF) (l:List (Int × Int)) (tagged:Bool) (hl:l.length<1000000) (hb:1≤x.b) (hroom:x.ar.used+(iA l x.b:Int)≤x.ar.most):
  ∃ made r a1 L,Alone K (nV l tagged) x { x with ar:=a1 } (iA l x.b) (made,r)∧made.length=iA l x.b∧r≠0∧Grown x.ar L a1∧L.length=iA l x.b∧jm { x with ar:=a1 } (vC l x.b tagged) r L:=by
 unfold iA at hroom ⊢
 unfold vC
 by_cases hs:(l.length:Int)≤x.b
 ·rw [if_pos hs] at hroom
  rw [if_pos hs,if_pos hs]
  obtain ⟨r,a1,hm⟩:=kD hx (by omega) ⟨false,false,l,[],[]⟩ ⟨hl,by simp,by simp⟩
  obtain ⟨c,hc⟩:=hm.at_
  refine ⟨[r],r,a1,[r],?_,rfl,hm.ne,More.grown hm,rfl,tQ hc⟩
  have h1:Alone K (aQ (sD ⟨false,false,l,[],[]⟩) fun r=>dw ([r],r)) x { x with ar:=a1 } 1 ([r],r):=(mJ hm).bind (f:=fun r=>dw ([r],r)) (Alone.ret _ _)
  refine h1.of_eq fun y log at_ sp hy=>?_
  unfold nV BR
  simp only [hy.b]
  rw [if_pos hs,if_pos ⟨hs,hl⟩]
 ·rw [if_neg hs] at hroom
  rw [if_neg hs,if_neg hs]
  obtain ⟨n1,n2⟩:1<l.length∧l.length<1000000:=⟨by omega,hl⟩
  obtain ⟨u,a1,h1⟩:=kD hx (by omega) ⟨false,false,l.take (l.length / 2),[],[]⟩ ⟨by show (l.take _).length<_;rw [List.length_take];omega,by simp,by simp⟩
  obtain ⟨v,a2,h2⟩:=kD h1.fine (by rw [h1.used,h1.most];omega) ⟨false,false,l.drop (l.length / 2),[],[]⟩ ⟨by show (l.drop _).length<_;rw [List.length_drop];omega,by simp,by simp⟩
  obtain ⟨r,a3,h3⟩:=kD h2.fine (by rw [h2.used,h2.most,h1.used,h1.most];omega) ⟨true,tagged,[],[(l.getD (l.length / 2) (0,0)).1],[u,v]⟩ ⟨by simp,by simp,by simp⟩
  obtain ⟨c1,k1⟩:=h1.at_
  obtain ⟨c2,k2⟩:=h2.at_
  obtain ⟨c3,k3⟩:=h3.at_
  have hvu:v≠u:=fun e=>by have:=h2.new;rw [e,k1] at this;cases this
  have hru:r≠u:=fun e=>by have:=h3.new;rw [e,h2.far u hvu.symm,k1] at this;cases this
  have hrv:r≠v:=fun e=>by have:=h3.new;rw [e,k2] at this;cases this
  have g1:=More.grown h1
  have g2:=g1.trans (More.grown h2) (fun q hq=>by rw [List.mem_singleton] at hq;rw [hq,k1];simp)
  have g3:=g2.trans (More.grown h3) (fun q hq=>by
   rcases List.mem_append.1 hq with hq | hq
   ·rw [List.mem_singleton] at hq;rw [hq,h2.far u hvu.symm,k1];simp
   ·rw [List.mem_singleton] at hq;rw [hq,k2];simp)
  have gu:a3.get u=some (fe ⟨false,false,l.take (l.length / 2),[],[]⟩ c1):=(h3.far u hru.symm).trans ((h2.far u hvu.symm).trans k1)
  have gv:a3.get v=some (fe ⟨false,false,l.drop (l.length / 2),[],[]⟩ c2):=(h3.far v hrv.symm).trans k2
  refine ⟨[u,v,r],r,a3,r::([u]++([v]++ [])),?_,rfl,h3.ne,?_,rfl,?_⟩
  ·have s3:Alone K (qJ l tagged u v) { x with ar:=a2 } { x with ar:=a3 } 1 ([u,v,r],r):=by
    unfold qJ
    rw [if_neg (fun e=>e.elim h1.ne h2.ne)]
    exact (mJ (x:= { x with ar:=a2 }) h3).bind (f:=fun r=>dw ([u,v,r],r)) (Alone.ret _ _)
   have s2:=(mJ (K:=K) (x:= { x with ar:=a1 }) h2).bind (f:=qJ l tagged u) s3
   have s1:=(mJ (K:=K) (x:=x) h1).bind (f:=fun u=>aQ (sD ⟨false,false,l.drop (l.length / 2),[],[]⟩) (qJ l tagged u)) s2
   refine s1.of_eq fun y log at_ sp hy=>?_
   unfold nV
   simp only [hy.b]
   rw [if_neg hs,if_pos ⟨n1,n2⟩]
   rfl
  ·have e: [u]++ [v]++ [r]= [u,v,r]:=rfl
   rw [e] at g3
   refine ⟨g3.fine,by rw [g3.used];rfl,g3.most,g3.faults,?_,fun q hq=>g3.new q ?_,fun q hq=>g3.far q (fun e=>hq ?_)⟩
   ·simp [hru,hrv,hvu.symm]
   ·simp only [List.append_nil,List.cons_append,List.nil_append,List.mem_cons,List.not_mem_nil,or_false] at hq ⊢
    rcases hq with h | h | h<;>simp [h]
   ·simp only [List.append_nil,List.cons_append,List.nil_append,List.mem_cons,List.not_mem_nil,or_false] at e ⊢
    rcases e with h | h | h<;>simp [h]
  ·rw [iC]
   refine ⟨_,_,rfl,wu k3,?_,?_⟩
   ·show (⟨true,tagged,[],[(l.getD (l.length / 2) (0,0)).1],[u,v]⟩:Nd)=qA _ [u,v]
    rfl
   ·show jw _ [uI (l.take (l.length / 2)),uI (l.drop (l.length / 2))] [u,v] ([u]++([v]++ []))
    rw [jw]
    refine ⟨u,[v],[u],[v]++ [],rfl,rfl,tQ gu,?_⟩
    rw [jw]
    refine ⟨v,[],[v],[],rfl,rfl,tQ gv,?_⟩
    rw [jw]
    exact ⟨rfl,rfl⟩
theorem kN: ∀ (v w:List Nat) (s:Sh),nodeAt (v++w) s=(nodeAt v s).bind (nodeAt w)
 | [],w,s=>rfl
 | i::v,w,s=>by
  rw [List.cons_append]
  unfold nodeAt
  cases s.f4[i]? with
  | none=>rfl
  | some k=>exact kN v w k
theorem lM {x:Ws} {s k:Sh} {r:Int} {L:List Int} {w:List Nat} (h:jm x s r L) (hw:nodeAt w s=some k): ∃ q,Calm x (di x.ar w r) q∧q.node=qA k q.node.ways∧di x.ar w r∈L:=by
 obtain ⟨rk,La,Lk,Lb,e0,e1,e2,_⟩:=jm.split w h hw
 subst e0
 obtain ⟨q,L1,rfl,h1,h2,h3⟩:=(iC _ _ _ _).1 e2
 exact ⟨q,h1,h2,by rw [e1];exact List.mem_append_right _ (List.mem_append_left _ List.mem_cons_self)⟩
theorem rR {x:Ws} {s k:Sh} {r:Int} {L:List Int} {w:List Nat} (h:jm x s r L) (hw:nodeAt w s=some k): ∀ u,u<+:w→x.ar.get (di x.ar u r)≠none:=fun u hu=>by
 obtain ⟨v,rfl⟩:=hu
 rw [kN] at hw
 cases hk:nodeAt u s with
 | none=>rw [hk] at hw;cases hw
 | some k1=>
  obtain ⟨q,hq,_⟩:=lM h hk
  rw [hq.at_]
  simp
theorem sS {s:Sh} (hb:tL s):tL (fU s):=by
 rw [oh]
 refine ⟨fun _=>by show [s]≠ [];simp,?_⟩
 show nT [s]
 rw [nT,nT]
 exact ⟨hb,trivial⟩
theorem vM (s:Sh):jI (fU s)=jI s+1:=by
 rw [iq]
 show iV [s]=_
 rw [iV,iV]
 omega
structure MW (s:Sh) (key:Int) (w:List Nat) (i:Nat) (k leaf:Sh):Prop where
 jr:jr key (jI s+1) (fU s)=w++ [i]
 at_:nodeAt w (fU s)=some k
 kid:k.f4[i]?=some leaf
 leaf:leaf.f0=true
theorem DR {K:Int→Prop} {x:Ws} {s:Sh} {L:List Int} (h:jm x (fU s) x.entry L) (hb:tL s) (hK: ∀ r∈L,K r) {key:Int} {w:List Nat} {i:Nat} {k leaf:Sh} (hw:MW s key w i k leaf) (fl:Nat) (hfl:jI s+2≤fl):
  ∃ nu nl,Alone K (Dk key fl) x x (w.length+1) (⟨di x.ar w x.entry,nu,(i:Int)⟩,⟨di x.ar (w++ [i]) x.entry,nl,0⟩):=by
 obtain ⟨h1,h2,_⟩:=BQ key (jI s+1) (fU s) x.entry L (by rw [vM];exact Nat.le_refl _) (sS hb) h
 rw [hw.jr] at h1 h2
 have hnl:nodeAt (w++ [i]) (fU s)=some leaf:=by
  rw [kN,hw.at_]
  show nodeAt [i] k=some leaf
  unfold nodeAt
  rw [hw.kid]
  rfl
 obtain ⟨l,e1,e2⟩:=rW x.ar key i w x.entry (rR h hw.at_)
 have hlen:(ji x.ar key (w++ [i]) x.entry).length=w.length+2:=by rw [uD];simp
 have hlw:w.length+2≤fl:=by
  have: ∀ (d:Nat) (s:Sh),(jr key d s).length≤d:=by
   intro d
   induction d with
   | zero=>intro s;exact Nat.le_refl _
   | succ d ih=>
    intro s
    unfold Tower.jr
    split
    ·exact Nat.zero_le _
    ·split
     ·exact Nat.zero_le _
     ·rename_i k hk
      rw [List.length_cons]
      have:=ih k
      omega
  have:=this (jI s+1) (fU s)
  rw [hw.jr,List.length_append,List.length_singleton] at this
  omega
 have h3:=vO (K:=K) h1 fl [] (by omega) (fun p hp=>hK _ (h2 p hp))
 rw [List.nil_append,hlen] at h3
 obtain ⟨ql,c1,c2,_⟩:=lM h hnl
 have hst:fw (dW x.ar (di x.ar (w++ [i]) x.entry)) key=0:=by
  have e:dW x.ar (di x.ar (w++ [i]) x.entry)=ql.node:=by unfold dW;rw [c1.at_]
  unfold fw
  rw [e,c2]
  rw [if_neg (by show ¬ (!leaf.f0)=true;rw [hw.leaf];simp)]
 refine ⟨dW x.ar (di x.ar w x.entry),dW x.ar (di x.ar (w++ [i]) x.entry),?_⟩
 have h4:=h3.bind (f:=fun l=>if l.length<2 then fun _=>none else dw (l.getD (l.length - 2) Eh,l.getD (l.length - 1) Eh)) (x2:=x) (n2:=0) (b:=((⟨di x.ar w x.entry,dW x.ar (di x.ar w x.entry),(i:Int)⟩:Stp),(⟨di x.ar (w++ [i]) x.entry,dW x.ar (di x.ar (w++ [i]) x.entry),0⟩:Stp))) (by
  rw [hlen,if_neg (by omega),e1,hst]
  rw [List.getD_eq_getElem?_getD,List.getElem?_append_right (by omega),List.getD_eq_getElem?_getD,List.getElem?_append_right (by omega)]
  rw [show w.length+2 - 2 - l.length=0 by omega,show w.length+2 - 1 - l.length=1 by omega]
  exact Alone.ret _ _)
 refine (h4.cast (by omega)).of_eq fun y log at_ sp hy=>?_
 unfold Dk
 simp only [hy.entry]
theorem Cm (s:Sh) (k k1:Sh) (i:Nat): ∀ (w:List Nat),nodeAt w (fU s)=some k→i<k.f4.length→ ∃ s1,oK { k with f4:=k.f4.set i k1 } w (fU s)=fU s1
 | [],h,hi=>by
  injection h with h
  subst h
  have:i=0:=by have hi:i< [s].length:=hi;simp at hi;omega
  subst this
  exact ⟨k1,rfl⟩
 | j::w,h,hi=>by
  unfold nodeAt at h
  cases j with
  | succ j=>simp [fU] at h
  | zero=>exact ⟨oK { k with f4:=k.f4.set i k1 } w s,rfl⟩
theorem Kb {r:Int} {q:Sl} {i:Nat} (hi:i<q.ways.length):qj (nP r q) (i:Int) (q.ways.getD i 0)=true:=by
 unfold qj nP
 simp only [Int.toNat_natCast]
 rw [decide_eq_true (by omega),decide_eq_true (by omega)]
 simp
theorem nG.same {x y:Ws} {s:Sh} {L:List Int} (h:nG x s L) (ha:y.ar=x.ar) (ht:y.tb=x.tb) (he:y.entry=x.entry):nG y s L:=
 ⟨by rw [he];exact h.tree.keeps (fun q _=>nY (by rw [ha]) ht),h.nodup,by rw [ha];exact h.fine⟩
structure Ov (x:Ws) (me:Int) (n:Nat) (rl:Int) (x4:Ws):Prop where
 used:x4.ar.used=x.ar.used+(n:Int)
 most:x4.ar.most=x.ar.most
 faults:x4.ar.faults=x.ar.faults
 ep:x4.ep=x.ep.leave me rl x.ep.now
 recs:x4.tb.l.length=x.tb.l.length+1
 room:x4.tb.most=x.tb.most
 a:x4.a=x.a
 b:x4.b=x.b
 entry:x4.entry=x.entry
theorem Ez {K:Int→Prop} {x:Ws} {s:Sh} {L:List Int} (hst:nG x s L) (hb:tL s) (hK: ∀ r∈L,K r) {key value:Int} {fresh:Bool} {w:List Nat} {i:Nat} {k leaf:Sh} (hw:MW s key w i k leaf) (me:Int) (fl f:Nat) (hfl:jI s+2≤fl)
  (hps:(fK leaf.f2).length<999998) (hfd:((iR (fK leaf.f2) key).2 && fresh)=false) (hb1:1≤x.b) (hroom:x.ar.used+(iA (xg (fK leaf.f2) key value) x.b:Int)≤x.ar.most) (hrec:(x.tb.l.length:Int)<x.tb.most) (hlim:(x.ep.limbo.getD me.toNat []).length<999999):
  ∃ x4 L4 n rl s1,Later K x x4∧oK { k with f4:=k.f4.set i (vC (xg (fK leaf.f2) key value) x.b (di x.ar w x.entry != x.entry)) } w (fU s)=fU s1∧nG x4 s1 L4∧Ov x me (iA (xg (fK leaf.f2) key value) x.b) rl x4∧n≤30+jI s+k.f4.length+leaf.f4.length∧
  ∀ (mt:Pr Ws Bool) (x5:Ws) (nm:Nat) (bm:Bool),(if 1<iA (xg (fK leaf.f2) key value) x.b then Alone K mt x4 x5 nm bm else x5=x4∧nm=0∧bm=false)→
   Alone K (jP me key value fresh fl mt (f+1)) x x5 (n+nm) ⟨false,bm,(iR (fK leaf.f2) key).2,(iR (fK leaf.f2) key).1⟩:=by
 obtain ⟨nu,nl,h1⟩:=DR (K:=K) hst.tree hb hK hw fl hfl
 have hi:i<k.f4.length:=(List.getElem?_eq_some_iff.1 hw.kid).1
 obtain ⟨qp,kid,A,Lk,B,P⟩:=Nv hst.tree hst.nodup w k hw.at_ i hi
 obtain rfl:kid=leaf:=by have:=P.kidAt;rw [hw.kid] at this;injection this with this;exact this.symm
 obtain ⟨rp,hrp⟩: ∃ rp,rp=di x.ar w x.entry:=⟨_,rfl⟩
 obtain ⟨rl,hrl⟩: ∃ rl,rl=qp.ways.getD i 0:=⟨_,rfl⟩
 have hrl2:di x.ar (w++ [i]) x.entry=rl:=by
  rw [qO _ _ _ _ (rR hst.tree hw.at_),eH P.calm.at_]
  exact hrl.symm
 have hiq:i<qp.ways.length:=by rw [P.ways];exact hi
 obtain ⟨ql,L1,e1,c1,c2,c3⟩:=(iC _ _ _ _).1 P.tree
 have hlk:=mq c3
 rw [←hrl] at e1 c1
 have hpairs:ql.node.pairs=fK kid.f2:=by rw [c2];rfl
 have cp:=P.calm
 rw [←hrp] at cp h1
 rw [hrl2] at h1
 have mp:rp∈L:=by rw [P.list,hrp];exact List.mem_append_left _ P.mem
 have ml:rl∈L:=by rw [P.list,e1];exact List.mem_append_right _ (List.mem_append_left _ List.mem_cons_self)
 have hne:rp≠rl:=fun e=>by
  have hn:=hst.nodup
  rw [P.list,List.nodup_append] at hn
  exact hn.2.2 rp (hrp▸P.mem) rl (by rw [e1];exact List.mem_append_left _ List.mem_cons_self) e
 have h2:=tY (K:=K) (x:=x) [(rp,qp),(rl,ql)] [] (fun p hp=>by
  rcases List.mem_cons.1 hp with rfl | hp
  ·exact ⟨hK _ mp,cp⟩
  ·rw [List.mem_singleton] at hp;subst hp;exact ⟨hK _ ml,c1⟩)
 obtain ⟨ps,hps0⟩: ∃ ps,ps=fK kid.f2:=⟨_,rfl⟩
 rw [←hps0] at hps hfd hroom hpairs
 rw [←hps0]
 obtain ⟨l,hl⟩: ∃ l,l=xg ps key value:=⟨_,rfl⟩
 rw [←hl] at hroom
 rw [←hl,←hrp]
 have hll:l.length<1000000:=by rw [hl];have:=IW ps key value;omega
 obtain ⟨made,r,a1,Ln,h3,m1,m2,g1,n1,t1⟩:=xA (K:=K) hst.fine l (rp != x.entry) hll hb1 hroom
 have hnew: ∀ q∈L,q∉Ln:=fun q hq e=>by
  obtain ⟨z,hz⟩:=jm.here hst.tree q hq
  have:=g1.new q e
  rw [hz.at_] at this
  cases this
 have gp:a1.get rp=some qp:=(g1.far rp (hnew rp mp)).trans cp.at_
 have gl:a1.get rl=some ql:=(g1.far rl (hnew rl ml)).trans c1.at_
 have h4:=zK (K:=K) (x:= { x with ar:=a1 }) (rp,qp) [(rl,ql)] 1 i r (by decide) hrec (by simp [hne]) (fun q hq=>by
  rcases List.mem_cons.1 hq with rfl | hq
  ·exact gp
  ·rw [List.mem_singleton] at hq;subst hq;exact gl) hiq
 simp only at h4
 rw [←hrl] at h4
 obtain ⟨x3,hx3⟩: ∃ x3,x3=iG { x with ar:=a1 } ((rp,qp):: [(rl,ql)]) 1 i rl r:=⟨_,rfl⟩
 rw [←hx3] at h4
 have hx3e:x3.ep=x.ep:=by rw [hx3];rfl
 have h5:=qN (K:=K) me [rl] x3 (by rw [hx3e,List.length_singleton];omega)
 have hep:x.ep.leaves me [rl]=x.ep.leave me rl x.ep.now:=rfl
 rw [hx3e,hep] at h5
 have hst3:=Ab (x1:= { x with ar:=a1 }) P hst.nodup (fun q hq=>g1.far q (hnew q (by
  rw [P.list]
  rcases List.mem_append.1 hq with hq | hq
  ·exact List.mem_append_left _ hq
  ·exact List.mem_append_right _ (List.mem_append_right _ hq)))) rfl [(rl,ql)] (fun q hq=>by
   have hq:q∈ [rl]:=hq
   rw [List.mem_singleton] at hq
   subst hq
   rw [e1]
   exact List.mem_cons_self) rl r _ Ln t1 (fun q hq=>⟨fun e=>by
    have e:q∈ [rl]:=e
    rw [List.mem_singleton] at e
    subst e
    exact hnew _ ml hq,fun e=>hnew q (by
     rw [P.list]
     rcases List.mem_append.1 e with e | e
     ·exact List.mem_append_left _ e
     ·exact List.mem_append_right _ (List.mem_append_right _ e)) hq⟩) g1.nodup
 rw [←hrp,←hx3] at hst3
 obtain ⟨s1,hs1⟩:=Cm s k (vC l x.b (rp != x.entry)) i w hw.at_ hi
 rw [hs1] at hst3
 obtain ⟨z1,z2,z3⟩:=zY { x with ar:=a1 } ((rp,qp):: [(rl,ql)]) 1 i rl r
 have hf3:x3.ar.pF:=by rw [hx3];exact zA g1.fine
 have hS3:nG x3 s1 (A++(Ln++B)):=⟨by rw [show x3.entry=x.entry by rw [hx3];rfl];exact hst3.1,hst3.2,hf3⟩
 have hL:Later K x { x3 with ep:=x.ep.leave me rl x.ep.now }:=h3.later.trans (h4.later.trans h5.later)
 have hwd:w.length≤jI s+1:=by
  have: ∀ (d:Nat) (s:Sh),(jr key d s).length≤d:=by
   intro d
   induction d with
   | zero=>intro s;exact Nat.le_refl _
   | succ d ih=>
    intro s
    unfold Tower.jr
    split
    ·exact Nat.zero_le _
    ·split
     ·exact Nat.zero_le _
     ·rename_i k hk
      rw [List.length_cons]
      have:=ih k
      omega
  have:=this (jI s+1) (fU s)
  rw [hw.jr,List.length_append,List.length_singleton] at this
  omega
 refine ⟨{ x3 with ep:=x.ep.leave me rl x.ep.now },A++(Ln++B),(w.length+1)+(([(rp,qp),(rl,ql)].map fun p=>5+p.2.ways.length).sum+(iA l x.b+(7+2))),rl,s1,hL,hs1,hS3.same rfl rfl rfl,⟨?_,?_,?_,rfl,?_,?_,?_,?_,?_⟩,?_,fun mt x5 nm bm hm=>?_⟩
 ·show x3.ar.used=_
  rw [hx3,z2]
  show a1.used=_
  rw [g1.used,n1]
 ·show x3.ar.most=_
  rw [hx3,z1]
  exact g1.most
 ·show x3.ar.faults=_
  rw [hx3,z3]
  exact g1.faults
 ·show x3.tb.l.length=_
  rw [hx3]
  show (x.tb.l++ [_]).length=_
  rw [List.length_append,List.length_singleton]
 ·rw [hx3];rfl
 ·rw [hx3];rfl
 ·rw [hx3];rfl
 ·rw [hx3];rfl
 ·simp only [List.map_cons,List.map_nil,List.sum_cons,List.sum_nil]
  have:=P.ways
  show w.length+1+(5+qp.ways.length+(5+ql.ways.length+0)+(iA l x.b+9))≤_
  have hbn:iA l x.b≤3:=by unfold iA;split<;>omega
  omega
 ·
  have hq: ∀ (nx:Pr Ws PR),Alone K (lU me rl made (iR ps key) mt nx (true,false)) x3 x5 (2+nm) ⟨false,bm,(iR ps key).2,(iR ps key).1⟩:=fun nx=>by
   unfold lU
   rw [if_pos rfl]
   refine h5.bind (f:=fun _=>jJ made.length ⟨false,false,(iR ps key).2,(iR ps key).1⟩ mt) ?_
   unfold jJ
   rw [m1]
   by_cases h1:1<iA l x.b
   ·rw [if_pos h1] at hm ⊢
    exact (hm.bind (f:=fun b=>dw (⟨false,b,(iR ps key).2,(iR ps key).1⟩:PR)) (Alone.ret _ _)).cast (by omega)
   ·rw [if_neg h1] at hm ⊢
    obtain ⟨rfl,rfl,rfl⟩:=hm
    exact Alone.ret _ _
  have hmade: ∀ (nx:Pr Ws PR),Alone K (jq me [nP rp qp,nP rl ql] (i:Int) rl (iR ps key) mt nx (made,r)) { x with ar:=a1 } x5 (7+(2+nm)) ⟨false,bm,(iR ps key).2,(iR ps key).1⟩:=fun nx=>by
   unfold jq
   have hm3:made.length<1000:=by rw [m1];unfold iA;split<;>omega
   rw [if_pos hm3,if_neg m2]
   exact h4.bind (f:=lU me rl made (iR ps key) mt nx) (hq nx)
  have hnew2: ∀ (nx:Pr Ws PR),Alone K (pO me key value fresh [nP rp qp,nP rl ql] (⟨rp,nu,(i:Int)⟩,⟨rl,nl,0⟩) mt nx ps) x x5 (iA l x.b+(7+(2+nm))) ⟨false,bm,(iR ps key).2,(iR ps key).1⟩:=fun nx=>by
   unfold pO
   rw [if_pos (by omega),if_neg (by rw [hfd];simp),←hl]
   have h3':Alone K (jK l rp) x { x with ar:=a1 } (iA l x.b) (made,r):=h3.of_eq fun y log at_ sp hy=>by
    unfold jK
    simp only [hy.entry]
   exact h3'.bind (f:=jq me [nP rp qp,nP rl ql] (i:Int) rl (iR ps key) mt nx) (hmade nx)
  have hon: ∀ (nx:Pr Ws PR),Alone K (oz me key value fresh (⟨rp,nu,(i:Int)⟩,⟨rl,nl,0⟩) mt ([nP rp qp,nP rl ql],true) nx) x x5 (iA l x.b+(7+(2+nm))) ⟨false,bm,(iR ps key).2,(iR ps key).1⟩:=fun nx=>by
   unfold oz
   rw [if_pos rfl,if_pos (show ([nP rp qp,nP rl ql]:List Sn).length=2 from rfl)]
   have hg:qj (([nP rp qp,nP rl ql],true).1.getD 0 sn0) (i:Int) rl=true:=by
    show qj (nP rp qp) (i:Int) rl=true
    rw [hrl]
    exact Kb hiq
   rw [if_pos hg]
   show Alone K (pO me key value fresh [nP rp qp,nP rl ql] _ mt nx (nP rl ql).node.pairs) x x5 _ _
   rw [show (nP rl ql).node.pairs=ps from hpairs]
   exact hnew2 nx
  have h20:Alone K (lu [rp,rl] []) x x (([(rp,qp),(rl,ql)].map fun p=>5+p.2.ways.length).sum) ([nP rp qp,nP rl ql],true):=h2
  have hn:=hon (jP me key value fresh fl mt f)
  have ep:jP me key value fresh fl mt (f+1)=aQ (Dk key fl) fun q=>aQ (lu [q.1.ref,q.2.ref] []) fun L=>oz me key value fresh q mt L (jP me key value fresh fl mt f):=rfl
  rw [ep]
  generalize jP me key value fresh fl mt f=nx at hn ⊢
  have h7:=h20.bind (f:=fun L=>oz me key value fresh (⟨rp,nu,(i:Int)⟩,⟨rl,nl,0⟩) mt L nx) hn
  clear hn hon hnew2 hmade hq hm h20 h2 h3 h4 h5
  obtain ⟨F,hF⟩: ∃ F:Stp × Stp→Pr Ws PR,F=fun q=>aQ (lu [q.1.ref,q.2.ref] []) fun L=>oz me key value fresh q mt L nx:=⟨_,rfl⟩
  rw [←hF]
  have h7':Alone K (F (⟨rp,nu,(i:Int)⟩,⟨rl,nl,0⟩)) x x5 (([(rp,qp),(rl,ql)].map fun p=>5+p.2.ways.length).sum+(iA l x.b+(7+(2+nm)))) ⟨false,bm,(iR ps key).2,(iR ps key).1⟩:=by rw [hF];exact h7
  have h8:=h1.bind (f:=F) h7'
  exact h8.cast (by omega)
theorem zO {K:Int→Prop} {x:Ws} {key:Int} {l:List Stp} (h:Ei x.ar key x.entry l) (f:Nat) (hf:l.length≤f) (hK: ∀ p∈l,K p.ref) (hl:l.length<1000000) (hs: ∀ p∈l,p.node.Small) (hr:(fT x.a (l.drop 1) 1).isNone=true):Alone K (lK key f) x x (l.length - 1) false:=by
 have h1:=vO (K:=K) h f [] hf hK
 rw [List.nil_append] at h1
 have hall:(l.all fun q=>decide (q.node.pairs.length<1000000) && decide (q.node.keys.length<1000000) && decide (q.node.ways.length<1000000))=true:=by
  rw [List.all_eq_true]
  intro q hq
  have:=hs q hq
  simp [this.pairs,this.keys,this.ways]
 obtain ⟨F,hF⟩: ∃ F:List Stp→Pr Ws Bool,F=fun l s=>if l.length<1000000∧(l.all fun q=>decide (q.node.pairs.length<1000000) && decide (q.node.keys.length<1000000) && decide (q.node.ways.length<1000000))=true∧(fT s.sh.a (l.drop 1) 1).isNone=true then some (.ret false,s) else none:=⟨_,rfl⟩
 have h2:Alone K (F l) x x 0 false:=Alone.read fun y log at_ sp hy=>by
  rw [hF]
  simp only [hy.a]
  rw [if_pos ⟨hl,hall,hr⟩]
 have h3:=h1.bind (f:=F) h2
 refine (h3.cast (by omega)).of_eq fun y log at_ sp hy=>?_
 unfold lK aQ
 simp only [hy.entry]
 cases kZ key f x.entry [] ⟨y,log,at_,sp⟩ with
 | none=>rfl
 | some r=>
  obtain ⟨o,t⟩:=r
  cases o with
  | wait=>rfl
  | ret l=>rw [hF]
open Go.Proofs.YtmnjjdeaccgjlaaGreat.PPutSplits
def nk (k:Nat) (s:Sh):Prop:=aj.f k s.f0 s.f1 s.f2 s.f3 s.f4 s.f0 s.f1 s.f2 s.f3 s.f4=some true
theorem nk.up {k j:Nat} {s:Sh} (h:nk k s) (hk:k≤j):nk j s:=pI (fun i=>aj.mono _ _ _ _ _ _ _ _ _ _ i) hk h
theorem xX (b0 b1:Bool) (ps:List Pr2) (ks:List Int) (l:List Sh) (hl:l.length≤60) (k:Nat) (hk: ∀ s∈l,nk k s): ∀ (n i:Nat),i+n=l.length→aj.l1 (k+n+1) (l.length:Int) (i:Int) b0 b1 ps ks l b0 b1 ps ks l=some true
 | 0,i,h=>by
  unfold aj.l1
  rw [if_neg (by omega)]
 | n+1,i,h=>by
  have hi:i<l.length:=by omega
  have hg:l[i]?=some l[i]:=List.getElem?_eq_getElem hi
  have h1:nk (k+(n+1)) l[i]:=(hk _ (List.getElem_mem hi)).up (by omega)
  unfold aj.l1
  rw [if_pos (by omega),if_pos (by omega),if_pos (by omega),if_pos (by omega),Fg hg]
  rw [show aj.f (k+(n+1)) l[i].f0 l[i].f1 l[i].f2 l[i].f3 l[i].f4 l[i].f0 l[i].f1 l[i].f2 l[i].f3 l[i].f4=some true from h1]
  rw [Option.bind_some,if_pos rfl,show wrap64 ((i:Int)+1)=((i+1:Nat):Int) from by unfold wrap64;omega]
  exact xX b0 b1 ps ks l hl k hk n (i+1) (by omega)
theorem yT (b0 b1:Bool) (ps:List Pr2) (ks:List Int) (l:List Sh) (hl:ks.length≤60) (k:Nat) (hk:aj.l1 k (l.length:Int) 0 b0 b1 ps ks l b0 b1 ps ks l=some true): ∀ (n i:Nat),i+n=ks.length→aj.l0 (k+n+1) (ks.length:Int) (i:Int) b0 b1 ps ks l b0 b1 ps ks l=some true
 | 0,i,h=>by
  unfold aj.l0
  rw [if_neg (by omega)]
  exact hk
 | n+1,i,h=>by
  unfold aj.l0
  rw [if_pos (by omega),if_pos (by omega),if_pos (by omega),if_pos (by omega),if_pos rfl,show wrap64 ((i:Int)+1)=((i+1:Nat):Int) from by unfold wrap64;omega]
  exact yT b0 b1 ps ks l hl k hk n (i+1) (by omega)
theorem sH (l:List fF) (hl:l.length<1000000): ∀ (d k i:Nat),i+d=l.length→d<k→aI.l0 k l l (l.length:Int) (i:Int)=some true
 | 0,k+1,i,h,hk=>by
  unfold aI.l0
  rw [if_neg (by omega)]
 | d+1,k+1,i,h,hk=>by
  unfold aI.l0
  rw [if_pos (by omega),if_pos (by omega),if_pos (by omega),if_pos (by omega),if_neg (by simp)]
  have w1:wrap64 ((i:Int)+1)=((i+1:Nat):Int):=by unfold wrap64;omega
  rw [w1]
  exact sH l hl d k (i+1) (by omega) (by omega)
theorem JX (l:List Pr2) (k:Nat) (hl:l.length<1000000) (hk:l.length<k):aI.f k l l=some true:=by
 unfold aI.f
 rw [if_pos rfl]
 have:=sH l hl l.length k 0 (by omega) hk
 rw [Int.natCast_zero] at this
 exact this
theorem yR (s:Sh) (hs:rA s) (k:Nat) (hk: ∀ q∈s.f4,nk k q):nk (k+s.f4.length+s.f3.length+70) s:=by
 rw [jT] at hs
 have h1:=xX s.f0 s.f1 s.f2 s.f3 s.f4 hs.2.2.1 k hk s.f4.length 0 (by omega)
 rw [Int.natCast_zero] at h1
 have h2:=yT s.f0 s.f1 s.f2 s.f3 s.f4 hs.2.1 _ h1 s.f3.length 0 (by omega)
 rw [Int.natCast_zero] at h2
 have h3:aj.l0 (k+s.f4.length+s.f3.length+68) (s.f3.length:Int) 0 s.f0 s.f1 s.f2 s.f3 s.f4 s.f0 s.f1 s.f2 s.f3 s.f4=some true:=pI (fun j=>(aj.lD j).2.2.1 _ _ _ _ _ _ _ _ _ _ _ _) (by omega) h2
 unfold nk
 show aj.f (k+s.f4.length+s.f3.length+69+1) _ _ _ _ _ _ _ _ _ _=_
 unfold aj.f
 rw [if_neg (by simp),if_neg (by simp),JX _ _ (by omega) (by omega),Option.bind_some,if_pos rfl,if_pos rfl]
 show aj.j0 (k+s.f4.length+s.f3.length+68+1) _ _ _ _ _ _ _ _ _ _ _=_
 unfold aj.j0
 rw [if_neg (by simp)]
 exact h3
theorem Oe: ∀ (d:Nat) (s:Sh),jI s≤d→rA s→nk (200*(d+1)) s:=by
 intro d
 induction d with
 | zero=>
  intro s hd hs
  have hk:s.f4= []:=by
   rw [iq] at hd
   cases h:s.f4 with
   | nil=>rfl
   | cons k r=>rw [h,iV] at hd;omega
  have hs':=(jT s).1 hs
  exact (yR s hs 0 (by rw [hk];intro q hq;cases hq)).up (by omega)
 | succ d ih=>
  intro s hd hs
  have hs':=(jT s).1 hs
  rw [iq] at hd
  have hall: ∀ (l:List Sh),iV l≤d+1→lQ l→ ∀ q∈l,nk (200*(d+1)) q:=by
   intro l
   induction l with
   | nil=>intro _ _ q hq;cases hq
   | cons k r ihr=>
    intro h1 h2 q hq
    rw [iV] at h1
    rw [lQ] at h2
    rcases List.mem_cons.1 hq with rfl | hq
    ·exact ih _ (by omega) h2.1
    ·exact ihr (by omega) h2.2 q hq
  exact (yR s hs (200*(d+1)) (hall s.f4 hd hs'.2.2.2)).up (by omega)
theorem PS (b:Int) (h0:0≤b) (h1:b<256): ∃ wd:Nat,eU.f b=some (wd:Int)∧3≤wd∧wd≤8:=by
 obtain ⟨n,rfl⟩:=Int.eq_ofNat_of_zero_le h0
 refine ⟨3+n % 6,?_,by omega,by omega⟩
 unfold eU.f
 rw [show wrap64 (n:Int)=(n:Int) from by unfold wrap64;omega,show Int.tmod (n:Int) 6=((n % 6:Nat):Int) from rfl]
 congr 1
 unfold wrap64
 omega
def lF (l:List Pr2):Prop:=l.Pairwise fun p q=>p.f0<q.f0
def rC (k v:Int):List Pr2→List Pr2
 | []=> [⟨k,v⟩]
 | p::r=>if k≤p.f0 then ⟨k,v⟩::(p::r).filter (fun q=>decide (q.f0≠k)) else p::rC k v r
def Rh (k:Int) (l:List Pr2):List Pr2:=l.filter fun q=>decide (q.f0≠k)
theorem wR (k v:Int): ∀ l:List Pr2,(rC k v l).length≤l.length+1
 | []=>by simp [rC]
 | p::r=>by
  unfold rC
  split
  ·have:=List.length_filter_le (fun q:Pr2=>decide (q.f0≠k)) (p::r)
   rw [List.length_cons];omega
  ·have:=wR k v r
   rw [List.length_cons,List.length_cons];omega
theorem BJ {k v:Int}: ∀ {l:List Pr2} {q:Pr2},q∈rC k v l→q=⟨k,v⟩∨q∈l
 | [],q,h=>by unfold rC at h;rw [List.mem_singleton] at h;exact .inl h
 | p::r,q,h=>by
  unfold rC at h
  split at h
  ·rcases List.mem_cons.1 h with h | h
   ·exact .inl h
   ·exact .inr (List.mem_filter.1 h).1
  ·rcases List.mem_cons.1 h with h | h
   ·exact .inr (h▸List.mem_cons_self)
   ·rcases BJ h with h | h
    ·exact .inl h
    ·exact .inr (List.mem_cons_of_mem _ h)
theorem uU (k v:Int): ∀ {l:List Pr2},lF l→lF (rC k v l)
 | [],_=>by unfold rC lF;simp
 | p::r,h=>by
  unfold lF at h
  rw [List.pairwise_cons] at h
  unfold rC
  split
  ·rename_i hk
   unfold lF
   rw [List.pairwise_cons]
   refine ⟨fun q hq=>?_,?_⟩
   ·obtain ⟨h1,h2⟩:=List.mem_filter.1 hq
    have h2:=of_decide_eq_true h2
    have:k≤q.f0:=by
     rcases List.mem_cons.1 h1 with e | h1
     ·rw [e];exact hk
     ·have:=h.1 q h1;omega
    show k<q.f0
    omega
   ·exact List.Pairwise.filter _ (List.pairwise_cons.2 h)
  ·rename_i hk
   unfold lF
   rw [List.pairwise_cons]
   refine ⟨fun q hq=>?_,uU k v h.2⟩
   rcases BJ hq with e | hq
   ·rw [e];show p.f0<k;omega
   ·exact h.1 q hq
theorem vN (k v:Int): ∀ (A B:List Pr2),(∀ p∈A,p.f0<k)→rC k v (A++B)=A++rC k v B
 | [],B,_=>rfl
 | p::A,B,h=>by
  rw [List.cons_append]
  show (if k≤p.f0 then _ else p::rC k v (A++B))=_
  have:=h p List.mem_cons_self
  rw [if_neg (by omega),vN k v A B (fun q hq=>h q (List.mem_cons_of_mem _ hq))]
  rfl
theorem filter_all {p:Pr2→Bool} {l:List Pr2} (h: ∀ q∈l,p q=true):l.filter p=l:=List.filter_eq_self.2 h
theorem ML (xs:List Int) (k:Int) (hs: ∀ a b,a<b→b<xs.length→xs.getD a 0<xs.getD b 0): ∀ (n i j:Nat),j - i≤n→i≤j→j≤xs.length→(∀ m,m<i→xs.getD m 0<k)→(∀ m,j≤m→m<xs.length→k≤xs.getD m 0)→
  (∀ m,m<bs xs k i j→xs.getD m 0<k)∧(∀ m,bs xs k i j≤m→m<xs.length→k≤xs.getD m 0):=by
 intro n
 induction n with
 | zero=>
  intro i j hn hij hj h1 h2
  rw [yS,if_neg (by omega)]
  exact ⟨h1,fun m hm hl=>h2 m (by omega) hl⟩
 | succ n ih=>
  intro i j hn hij hj h1 h2
  rw [yS]
  by_cases hlt:i<j
  ·rw [if_pos hlt]
   by_cases hk:xs.getD ((i+j) / 2) 0<k
   ·rw [if_pos hk]
    refine ih _ _ (by omega) (by omega) hj (fun m hm=>?_) h2
    by_cases hm2:m=(i+j) / 2
    ·rw [hm2];exact hk
    ·have:=hs m ((i+j) / 2) (by omega) (by omega)
     omega
   ·rw [if_neg hk]
    refine ih _ _ (by omega) (by omega) (by omega) h1 (fun m hm hl=>?_)
    by_cases hm2:m=(i+j) / 2
    ·rw [hm2];omega
    ·have:=hs ((i+j) / 2) m (by omega) hl
     omega
  ·rw [if_neg hlt]
   exact ⟨h1,fun m hm hl=>h2 m (by omega) hl⟩
theorem wN (l:List Pr2):lG (fK l)=l.map fun q=>q.f0:=by
 unfold lG fK
 rw [List.map_map]
 rfl
theorem pJ (l:List Pr2) (m:Nat) (h:m<l.length):(lG (fK l)).getD m 0=l[m].f0:=by
 rw [wN,List.getD_eq_getElem?_getD,List.getElem?_map,List.getElem?_eq_getElem h]
 rfl
theorem KF {l:List Pr2} (h:lF l) (a b:Nat) (hab:a<b) (hb:b<(lG (fK l)).length):(lG (fK l)).getD a 0<(lG (fK l)).getD b 0:=by
 have hb:b<l.length:=by rw [wN,List.length_map] at hb;exact hb
 rw [pJ l a (by omega),pJ l b hb]
 exact List.pairwise_iff_getElem.1 h a b (by omega) hb hab
theorem Fz {l:List Pr2} (h:lF l) (k:Int):posOf (fK l) k≤l.length∧(∀ p∈l.take (posOf (fK l) k),p.f0<k)∧(∀ p∈l.drop (posOf (fK l) k),k≤p.f0):=by
 have hl:(fK l).length=l.length:=fq l
 have hkl:(lG (fK l)).length=l.length:=by rw [wN,List.length_map]
 have hle:posOf (fK l) k≤l.length:=by
  have:=(Nt (lG (fK l)) k 0 (fK l).length (Nat.zero_le _)).2
  unfold posOf
  rw [hl] at this ⊢
  exact this
 obtain ⟨s1,s2⟩:=ML (lG (fK l)) k (fun a b=>KF h a b) _ 0 (fK l).length (Nat.le_refl _) (Nat.zero_le _) (by rw [hl,hkl];exact Nat.le_refl _) (fun m hm=>by omega) (fun m hm h2=>by omega)
 refine ⟨hle,fun p hp=>?_,fun p hp=>?_⟩
 ·obtain ⟨m,hm,rfl⟩:=List.getElem_of_mem hp
  rw [List.length_take] at hm
  rw [List.getElem_take]
  have:=s1 m (by show m<posOf (fK l) k;omega)
  rw [pJ l m (by omega)] at this
  exact this
 ·obtain ⟨m,hm,rfl⟩:=List.getElem_of_mem hp
  rw [List.length_drop] at hm
  rw [List.getElem_drop]
  have:=s2 (posOf (fK l) k+m) (by show posOf (fK l) k≤_;omega) (by omega)
  rw [pJ l _ (by omega)] at this
  exact this
theorem xE {l:List Pr2} (k:Int):iL (lG (fK l)) k=true↔ ∃ h:posOf (fK l) k<l.length,l[posOf (fK l) k].f0=k:=by
 have hkl:(lG (fK l)).length=l.length:=by rw [wN,List.length_map]
 have hl:(fK l).length=l.length:=fq l
 have hp:bs (lG (fK l)) k 0 (lG (fK l)).length=posOf (fK l) k:=by unfold posOf;rw [hkl,hl]
 unfold iL
 rw [hp,Bool.and_eq_true,decide_eq_true_eq,hkl]
 constructor
 ·rintro ⟨h1,h2⟩
  refine ⟨h1,?_⟩
  rw [pJ l _ h1] at h2
  simpa using h2
 ·rintro ⟨h1,h2⟩
  refine ⟨h1,?_⟩
  rw [pJ l _ h1,h2]
  simp
theorem Nf {l:List Pr2} (h:lF l) (k v:Int):xg (fK l) k v=fK (rC k v l):=by
 obtain ⟨h1,h2,h3⟩:=Fz h k
 have hsp:rC k v l=l.take (posOf (fK l) k)++rC k v (l.drop (posOf (fK l) k)):=by
  have:=vN k v (l.take (posOf (fK l) k)) (l.drop (posOf (fK l) k)) h2
  rw [List.take_append_drop] at this
  exact this
 rw [hsp]
 unfold xg
 by_cases hf:iL (lG (fK l)) k=true
 ·rw [if_pos hf]
  obtain ⟨hb,he⟩:=(xE k).1 hf
  generalize posOf (fK l) k=b at *
  have hd:l.drop b=l[b]::l.drop (b+1):=List.drop_eq_getElem_cons hb
  have hr: ∀ q∈l.drop (b+1),k<q.f0:=fun q hq=>by
   have hp:=List.pairwise_cons.1 (hd▸(List.Pairwise.sublist (List.drop_sublist b l) h))
   have:=hp.1 q hq
   omega
  rw [hd]
  have e1:rC k v (l[b]::l.drop (b+1))=⟨k,v⟩::l.drop (b+1):=by
   unfold rC
   rw [if_pos (by omega),List.filter_cons_of_neg (by simp [he]),filter_all (fun q hq=>decide_eq_true (by have:=hr q hq;omega))]
  rw [e1]
  have e2:(fK l).getD b (0,0)=(l[b].f0,l[b].f1):=by
   unfold fK
   rw [List.getD_eq_getElem?_getD,List.getElem?_map,List.getElem?_eq_getElem hb]
   rfl
  rw [e2]
  simp only [he]
  unfold fK
  rw [List.map_append,List.map_cons,List.map_take,List.map_drop]
  rw [List.set_eq_take_append_cons_drop,if_pos (by rw [List.length_map];exact hb)]
 ·rw [if_neg hf]
  have hne: ∀ q∈l.drop (posOf (fK l) k),k<q.f0:=fun q hq=>by
   have h4:=h3 q hq
   by_cases he:q.f0=k
   ·exfalso
    apply hf
    rw [xE]
    have hb:posOf (fK l) k<l.length:=by
     have:=List.length_pos_of_mem hq
     rw [List.length_drop] at this
     omega
    refine ⟨hb,?_⟩
    have hd:l.drop (posOf (fK l) k)=l[posOf (fK l) k]::l.drop (posOf (fK l) k+1):=List.drop_eq_getElem_cons hb
    have hp:=List.pairwise_cons.1 (hd▸(List.Pairwise.sublist (List.drop_sublist _ l) h))
    rw [hd] at hq
    rcases List.mem_cons.1 hq with e | hq
    ·rw [←e];exact he
    ·have h5:=hp.1 q hq
     have h6:=h3 l[posOf (fK l) k] (by rw [hd];exact List.mem_cons_self)
     omega
   ·omega
  have e1:rC k v (l.drop (posOf (fK l) k))=⟨k,v⟩::l.drop (posOf (fK l) k):=by
   generalize l.drop (posOf (fK l) k)=B at hne
   cases B with
   | nil=>rfl
   | cons q B=>
    unfold rC
    rw [if_pos (by have:=hne q List.mem_cons_self;omega),filter_all (fun p hp=>decide_eq_true (by have:=hne p hp;omega))]
  rw [e1]
  unfold fK
  rw [List.map_append,List.map_cons,List.map_take,List.map_drop]
theorem mR (k v:Int) (l:List Pr2) (hl:l.length<1000): ∀ (n i:Nat) (acc:List Pr2),i+n=l.length→acc.length≤i+1→aC.l0 (2*n+2) k v acc true l (l.length:Int) (i:Int)=some (acc++Rh k (l.drop i))
 | 0,i,acc,h,ha=>by
  unfold aC.l0
  rw [if_neg (by omega),if_pos rfl,List.drop_of_length_le (by omega)]
  simp [Rh]
 | n+1,i,acc,h,ha=>by
  have hw:wrap64 ((i:Int)+1)=((i+1:Nat):Int):=by unfold wrap64;omega
  have hil:i<l.length:=by omega
  have hrd:aJ l (i:Int)=l[i]:=by
   unfold aJ
   simp [hil]
  have hd:l.drop i=l[i]::l.drop (i+1):=List.drop_eq_getElem_cons hil
  show aC.l0 (2*n+3+1) _ _ _ _ _ _ _=_
  unfold aC.l0
  rw [if_pos (by omega),if_pos (by omega),if_pos (by omega),if_pos rfl,hrd]
  show aC.j1 (2*n+2+1) _ _ _ _ _ _ _ _ _ _=_
  unfold aC.j1
  rw [if_neg (by simp)]
  unfold Rh
  rw [hd]
  by_cases hp:l[i].f0=k
  ·rw [if_pos hp,hw,mR k v l hl n (i+1) acc (by omega) (by omega),List.filter_cons_of_neg (by simp [hp])]
   rfl
  ·rw [if_neg hp,if_pos (by omega),hw,mR k v l hl n (i+1) _ (by omega) (by rw [List.length_append,List.length_singleton];omega),List.filter_cons_of_pos (by simp [hp]),List.append_assoc]
   rfl
theorem BI (k v:Int) (l:List Pr2) (hl:l.length<1000): ∀ (n i:Nat) (acc:List Pr2),i+n=l.length→acc.length≤i→aC.l0 (2*n+2) k v acc false l (l.length:Int) (i:Int)=some (acc++rC k v (l.drop i))
 | 0,i,acc,h,ha=>by
  unfold aC.l0
  rw [if_neg (by omega),if_neg (by simp),if_pos (by omega),List.drop_of_length_le (by omega)]
  rfl
 | n+1,i,acc,h,ha=>by
  have hw:wrap64 ((i:Int)+1)=((i+1:Nat):Int):=by unfold wrap64;omega
  have hil:i<l.length:=by omega
  have hrd:aJ l (i:Int)=l[i]:=by
   unfold aJ
   simp [hil]
  have hd:l.drop i=l[i]::l.drop (i+1):=List.drop_eq_getElem_cons hil
  show aC.l0 (2*n+3+1) _ _ _ _ _ _ _=_
  unfold aC.l0
  rw [if_pos (by omega),if_pos (by omega),if_pos (by omega),if_neg (by simp),hrd]
  show aC.j1 (2*n+2+1) _ _ _ _ _ _ _ _ _ _=_
  unfold aC.j1
  rw [hd]
  unfold rC
  by_cases hk:k≤l[i].f0
  ·rw [if_pos (decide_eq_true hk),if_pos (by omega),Option.bind_some,if_pos hk]
   by_cases hp:l[i].f0=k
   ·rw [if_pos hp,hw,mR k v l hl n (i+1) _ (by omega) (by rw [List.length_append,List.length_singleton];omega),List.filter_cons_of_neg (by simp [hp]),List.append_assoc]
    rfl
   ·rw [if_neg hp,if_pos (by rw [List.length_append,List.length_singleton];omega),hw,mR k v l hl n (i+1) _ (by omega) (by rw [List.length_append,List.length_append,List.length_singleton,List.length_singleton];omega),List.filter_cons_of_pos (by simp [hp]),List.append_assoc,List.append_assoc]
    rfl
  ·rw [if_neg (by rw [decide_eq_false hk];simp),if_neg (by omega),if_pos (by omega),hw,BI k v l hl n (i+1) _ (by omega) (by rw [List.length_append,List.length_singleton];omega),if_neg hk,List.append_assoc]
   rfl
theorem GX (l:List Pr2) (k v:Int) (hl:l.length<1000) (f:Nat) (hf:2*l.length+2≤f):aC.f f l k v=some (rC k v l):=by
 have h:=BI k v l hl l.length 0 [] (by omega) (by simp)
 rw [Int.natCast_zero,List.nil_append,List.drop_zero] at h
 unfold aC.f
 exact pI (fun j=>(aC.lD j).1 _ _ _ _ _ _ _) hf h
theorem xV (ks:List Int) (hl:ks.length≤60): ∀ (n i:Nat) (acc:List Pr2),i+n=ks.length→acc.length≤i→lF acc→ ∃ r,bB.l0 (130+n+1) acc ks (ks.length:Int) (i:Int)=some r∧r.length≤ks.length∧lF r
 | 0,i,acc,h,ha,hr=>by
  unfold bB.l0
  rw [if_neg (by omega)]
  exact ⟨acc,rfl,by omega,hr⟩
 | n+1,i,acc,h,ha,hr=>by
  unfold bB.l0
  rw [if_pos (by omega),if_pos (by omega),if_pos (by omega)]
  rw [GX acc (rd ks (i:Int)) (wrap64 ((i:Int)+100)) (by omega) (130+(n+1)) (by omega),Option.bind_some,show wrap64 ((i:Int)+1)=((i+1:Nat):Int) from by unfold wrap64;omega]
  have:=wR (rd ks (i:Int)) (wrap64 ((i:Int)+100)) acc
  exact xV ks hl n (i+1) _ (by omega) (by omega) (uU _ _ hr)
theorem yZ (ks:List Int) (hl:ks.length≤60): ∃ r,bB.f (131+ks.length) ks=some r∧r.length≤ks.length∧lF r:=by
 obtain ⟨r,h1,h2,h3⟩:=xV ks hl ks.length 0 [] (by omega) (by simp) List.Pairwise.nil
 rw [Int.natCast_zero] at h1
 exact ⟨r,by rw [show 131+ks.length=130+ks.length+1 by omega];exact h1,h2,h3⟩
theorem lH.alone {X:Type} {tw:Pr X (List Int)} {x x1:X} {rs l:List Int} {Ok Th:X→Prop} (h:lH tw x x1 rs l Ok Th) (h0:0<rs.length) (hl:rs.length<999999) (f:Nat) (hf:rs.length≤f):
  jR tw f x []=some (some l,f - rs.length,x1,rs):=by
 obtain ⟨st,a1,a2,_,a4⟩:=h.goes
 have key: ∀ (n j f:Nat),j+n=rs.length→0<n→n≤f→jR tw f (st j) (rs.take j)=some (some l,f - n,x1,rs):=by
  intro n
  induction n with
  | zero=>intro j f _ h;omega
  | succ n ih=>
   intro j f hj _ hf
   cases f with
   | zero=>omega
   | succ f=>
    have h1:=a4 [] j (by omega) (by simpa using hl)
    rw [List.nil_append,List.nil_append,List.length_nil,Nat.zero_add] at h1
    unfold jR
    rw [h1]
    by_cases hn:j+1=rs.length
    ·rw [if_pos hn]
     have:n=0:=by omega
     subst this
     simp only [hn,List.take_length,a2]
     rfl
    ·rw [if_neg hn]
     simp only
     rw [ih (j+1) f (by omega) (by omega) (by omega),show f+1 - (n+1)=f - n by omega]
 have:=key rs.length 0 f (by omega) h0 hf
 rw [a1,List.take_zero] at this
 exact this
theorem iY (l:List Pr2):jI (dS l)=0:=by rw [iq];show iV []=0;rw [iV]
theorem CY (l:List Pr2):mW (dS l)=1:=by rw [mP];show 1+kV []=1;rw [kV]
theorem mO (l:List Pr2) (h:l.length≤60):rA (dS l):=by rw [jT];exact ⟨h,by show ([]:List Int).length≤60;simp,by show ([]:List Sh).length≤60;simp,by show lQ [];rw [lQ];trivial⟩
theorem qm (l:List Pr2):tL (dS l):=by rw [oh];exact ⟨fun h=>(by cases h),by show nT [];rw [nT];trivial⟩
theorem qC (l:List Pr2):uI (fK l)=dS l:=by
 unfold uI dS
 rw [Po]
theorem zD (zs:List Pr2) (wd:Nat):vC (fK zs) (wd:Int) false=jE wd zs:=by
 unfold vC jE
 rw [fq]
 by_cases h:zs.length≤wd
 ·rw [if_pos (by omega),if_pos h,qC]
 ·rw [if_neg (by omega),if_neg h]
  have e1:(fK zs).take (zs.length / 2)=fK (zs.take (zs.length / 2)):=by unfold fK;rw [List.map_take]
  have e2:(fK zs).drop (zs.length / 2)=fK (zs.drop (zs.length / 2)):=by unfold fK;rw [List.map_drop]
  have hlt:zs.length / 2<zs.length:=by omega
  have e3:((fK zs).getD (zs.length / 2) (0,0)).1=(aJ zs ((zs.length / 2:Nat):Int)).f0:=by
   unfold fK aJ
   rw [List.getD_eq_getElem?_getD,List.getElem?_map,List.getElem?_eq_getElem hlt,Int.toNat_natCast,List.getD_eq_getElem?_getD,List.getElem?_eq_getElem hlt]
   rfl
  rw [e1,e2,e3,qC,qC]
theorem vF {a:Ar} (h:a.pF) {r:Int} {q:Sl} (hq:a.get r=some q):q.node.Small:=by
 obtain ⟨j,_,h2,_⟩:=qD hq
 exact (h.good.small j q h2).1
theorem Jc (ys:List Pr2) (key:Int):MW (dS ys) key [] 0 (fU (dS ys)) (dS ys) where
 jr:=by
  rw [iY]
  rfl
 at_:=rfl
 kid:=rfl
 leaf:=rfl
theorem zy {x:Ws} {s:Sh} {r:Int} {L:List Int} (h:jm x s r L) (hf:x.ar.pF) {l:List Stp} {key r0:Int} (hl:Ei x.ar key r0 l): ∀ p∈l,p.node.Small:=by
 induction hl with
 | leaf h hi=>intro p hp;rw [List.mem_singleton] at hp;subst hp;exact vF hf h
 | inner h hi hs hw hr h0 hl ih=>
  intro p hp
  rcases List.mem_cons.1 hp with rfl | hp
  ·exact vF hf h
  ·exact ih p hp
theorem Ac {K:Int→Prop} {x:Ws} {L:List Int} (zs:List Pr2) (wd:Nat) (key:Int) (hK: ∀ r∈L,K r) (hs:nG x (jE wd zs) L) (ha:x.a=2) (hz:wd<zs.length) (hw:3≤wd): ∃ n,n≤3∧Alone K (lK key 100) x x n false:=by
 have e:jE wd zs=⟨false,false,[],[(aJ zs ((zs.length / 2:Nat):Int)).f0],[dS (zs.take (zs.length / 2)),dS (zs.drop (zs.length / 2))]⟩:=by unfold jE;rw [if_neg (by omega)]
 obtain ⟨s,hse⟩: ∃ s,s=jE wd zs:=⟨_,rfl⟩
 rw [←hse] at hs e
 have hb:tL s:=by
  rw [e,oh]
  refine ⟨fun _=>by simp,?_⟩
  show nT [_,_]
  rw [nT,nT,nT]
  exact ⟨qm _,qm _,trivial⟩
 have hd:jI s=1:=by
  rw [e,iq]
  show iV [_,_]=1
  rw [iV,iV,iV,iY,iY]
  rfl
 obtain ⟨h1,h2,k3,h3,h4⟩:=BQ key 2 (fU s) x.entry L (by rw [vM,hd];exact Nat.le_refl _) (sS hb) hs.tree
 obtain ⟨j,hj1,hj2⟩:=sJ s.f3 s.f4.length key (by rw [e];show (0:Nat)<2;omega)
 have hk: ∃ k,s.f4[j]?=some k:=⟨_,List.getElem?_eq_getElem hj2⟩
 obtain ⟨k,hk⟩:=hk
 have hwn:Oz s key=j:=by unfold Oz;rw [hj1];rfl
 have hf0:s.f0=false:=by rw [e]
 have hdn:jr key 2 (fU s)= [0,j]:=by
  have e0:jr key 2 (fU s)=0::jr key 1 s:=rfl
  rw [e0]
  show 0::jr key (0+1) s=_
  rw [jr,if_neg (by rw [hf0];simp),hwn,hk]
  rfl
 rw [hdn] at h1 h2
 have hn1:nodeAt [0] (fU s)=some s:=rfl
 have hn2:nodeAt [0,j] (fU s)=some k:=by
  show nodeAt [j] s=some k
  unfold nodeAt
  rw [hk]
  rfl
 obtain ⟨q1,c1,n1,_⟩:=lM hs.tree hn1
 obtain ⟨q2,c2,n2,_⟩:=lM hs.tree hn2
 have hkl: ∃ l:List Pr2,k=dS l∧2≤l.length:=by
  rw [e] at hk hj2
  have hj2:j<2:=hj2
  match j,hj2 with
  | 0,_=>
   injection hk with hk
   exact ⟨_,hk.symm,by rw [List.length_take];omega⟩
  | 1,_=>
   injection hk with hk
   exact ⟨_,hk.symm,by rw [List.length_drop];omega⟩
 obtain ⟨lk,rfl,hlk⟩:=hkl
 obtain ⟨q0,c0,_⟩:=lM hs.tree (w:= []) (k:=fU s) rfl
 have c0:Calm x x.entry q0:=c0
 have r1:di x.ar [0] x.entry=q0.ways.getD 0 0:=eH c0.at_ 0 []
 have r2:di x.ar [0,j] x.entry=di x.ar [j] (di x.ar [0] x.entry):=by rw [eH c0.at_,r1]
 have hl:ji x.ar key [0,j] x.entry= [⟨x.entry,dW x.ar x.entry,((0:Nat):Int)⟩,⟨di x.ar [0] x.entry,q1.node,(j:Int)⟩,⟨di x.ar [0,j] x.entry,q2.node,fw q2.node key⟩]:=by
  have e1:dW x.ar (di x.ar [0] x.entry)=q1.node:=by unfold dW;rw [c1.at_]
  have e2:dW x.ar (di x.ar [0,j] x.entry)=q2.node:=by unfold dW;rw [c2.at_]
  show [(⟨x.entry,dW x.ar x.entry,((0:Nat):Int)⟩:Stp),⟨di x.ar [0] x.entry,dW x.ar (di x.ar [0] x.entry),(j:Int)⟩,⟨di x.ar [j] (di x.ar [0] x.entry),dW x.ar (di x.ar [j] (di x.ar [0] x.entry)),fw (dW x.ar (di x.ar [j] (di x.ar [0] x.entry))) key⟩]=_
  rw [←r2,e1,e2]
 have hway:(qA s q1.node.ways).ways.length=2:=by
  have:=c1.ways
  obtain ⟨rk,La,Lk,Lb,f0,f1,f2,_⟩:=jm.split [0] hs.tree hn1
  obtain ⟨q,L1,_,g1,_,g3⟩:=(iC _ _ _ _).1 f2
  rw [f0] at g1
  have hq:q=q1:=by have:=g1.at_.symm.trans c1.at_;injection this
  subst hq
  have hl:=mq g3
  show q.node.ways.length=2
  rw [this,hl,e]
  rfl
 have hfw:(fT x.a ((ji x.ar key [0,j] x.entry).drop 1) 1).isNone=true:=by
  rw [hl,ha]
  have w1:iT 2 q1.node true=0:=by
   rw [n1]
   unfold iT leastOf vV
   rw [if_neg (show ¬ (qA s q1.node.ways).tagged=true by show ¬ s.f1=true;rw [e];simp),if_pos rfl,if_pos (show (qA s q1.node.ways).inner=true by show (!s.f0)=true;rw [hf0];rfl),if_pos (show (qA s q1.node.ways).inner=true by show (!s.f0)=true;rw [hf0];rfl),hway]
   rfl
  have w2:iT 2 q2.node false=0:=by
   rw [n2]
   have hp:(qA (dS lk) q2.node.ways).pairs.length=lk.length:=fq lk
   show (if false=true then (1:Int) else if ((if (!true)=true then (qA (dS lk) q2.node.ways).ways.length else (qA (dS lk) q2.node.ways).pairs.length:Nat):Int)<(if false=true then _ else (2:Int)) then 2 else 0)=0
   rw [hp]
   simp only [Bool.not_true,Bool.false_eq_true,if_false]
   rw [if_neg (by omega)]
  show (fT 2 [_,_] 1).isNone=true
  unfold fT
  rw [if_pos (show iT 2 q1.node (1 == 1)=0 from w1)]
  unfold fT
  rw [if_pos (show iT 2 q2.node (1+1 == 1)=0 from w2)]
  rfl
 have hlen:(ji x.ar key [0,j] x.entry).length=3:=by rw [hl];rfl
 refine ⟨2,by omega,?_⟩
 have:=zO (K:=K) h1 100 (by rw [hlen];omega) (fun p hp=>hK _ (h2 p hp)) (by rw [hlen];omega) (zy hs.tree hs.fine h1) hfw
 exact this.cast (by rw [hlen])
theorem PD (keys:List Int) (b0 key value:Int) (h0:0≤b0) (h1:b0<256): ∃ kf kp k2 ys zs wd m x0 X X5 g log l t made,Ma keys b0 key value kf kp k2 ys zs wd m x0 X X5 g log l t made:=by
 obtain ⟨wd,w1,w2,w3⟩:=PS b0 h0 h1
 obtain ⟨m,hm⟩: ∃ m,m=min keys.length wd:=⟨_,rfl⟩
 have hlm:(keys.take m).length=m:=by rw [List.length_take];omega
 obtain ⟨ys,r1,r2,r3⟩:=yZ (keys.take m) (by rw [hlm];omega)
 rw [hlm] at r2
 have hy8:ys.length≤8:=by omega
 have hmy:=CY ys
 obtain ⟨a,L,p1,p2,p3,p4,p5,p6⟩:=xq (dS ys) 2 wd 8 ⟨[],3⟩ ⟨0,List.replicate 1 (-1),List.replicate 1 []⟩ (mO ys (by omega)) (by rw [hmy];decide) (by decide)
 rw [hmy] at p4
 obtain ⟨X,hX⟩: ∃ X:Ws,X=⟨a,⟨[],3⟩,⟨0,List.replicate 1 (-1),List.replicate 1 []⟩,2,wd,gQ⟩:=⟨_,rfl⟩
 rw [←hX] at p1 p2
 have hXa:X.ar=a:=by rw [hX]
 have hgood:X.Good:=by
  rw [hX]
  exact ⟨hXa▸p2.fine.good,⟨by show (List.replicate 1 (-1:Int)).length≤64;decide⟩,⟨by show (3:Int)≤65536;decide,by show (0:Int)≤3;decide,fun i e hi=>by simp at hi⟩⟩
 obtain ⟨zs,hzs⟩: ∃ zs,zs=rC key value ys:=⟨_,rfl⟩
 have hzl:zs.length≤ys.length+1:=hzs▸wR key value ys
 have hpl:xg (fK (dS ys).f2) key value=fK zs:=by rw [hzs];exact Nf r3 key value
 have hb:X.b=wd:=by rw [hX]
 have hbn: ∀ l:List (Int × Int),iA l X.b≤3:=fun l=>by unfold iA;split<;>omega
 obtain ⟨x4,L4,n,rl,s1,q1,q2,q3,q4,q5,q6⟩:=Ez (K:=fun _=>True) p2 (qm ys) (fun _ _=>trivial) (key:=key) (value:=value) (fresh:=false) (Jc ys key) 0 100 4 (by rw [iY];decide)
  (by show (fK ys).length<_;rw [fq];omega) (by simp) (by rw [hb];omega) (by have:=hbn (xg (fK (dS ys).f2) key value);rw [hXa,p4,p6];omega) (by rw [hX];show (0:Int)<3;decide) (by rw [hX];show (([[]]:List (List (Int × Int))).getD 0 []).length<_;decide)
 rw [hpl] at q2 q4 q6
 have htg:(di X.ar [] X.entry != X.entry)=false:=by show (X.entry != X.entry)=false;simp
 rw [htg,hb,zD] at q2
 have hs1:jE wd zs=s1:=by
  have h:fU (jE wd zs)=fU s1:=q2
  unfold fU at h
  injection h with _ _ _ _ h
  injection h with h _
 subst hs1
 obtain ⟨made,hmade⟩: ∃ made,made=if zs.length≤wd then 1 else 3:=⟨_,rfl⟩
 have hbm:iA (fK zs) X.b=made:=by
  unfold iA
  rw [hb,fq,hmade]
  by_cases h:zs.length≤wd
  ·rw [if_pos (by omega),if_pos h]
  ·rw [if_neg (by omega),if_neg h]
 rw [hbm] at q4 q6
 have hmend: ∃ nm,nm≤3∧(if 1<made then Alone (fun _=>True) (lK key 100) x4 x4 nm false else x4=x4∧nm=0∧false=false):=by
  by_cases h:zs.length≤wd
  ·refine ⟨0,by omega,?_⟩
   rw [if_neg (by rw [hmade,if_pos h];omega)]
   exact ⟨rfl,rfl,rfl⟩
  ·obtain ⟨nm,e1,e2⟩:=Ac (K:=fun _=>True) zs wd key (fun _ _=>trivial) q3 (by rw [q4.a,hX]) (by omega) w2
   refine ⟨nm,e1,?_⟩
   rw [if_pos (by rw [hmade,if_neg h];omega)]
   exact e2
 obtain ⟨nm,hnm,hmt⟩:=hmend
 have hput:=q6 (lK key 100) x4 nm false hmt
 have hall:=hput.bind (f:=fun a=>dw (numsOf a)) (Alone.ret _ _)
 obtain ⟨rs,e1,e2⟩:=hall.out
 have hrl:rs.length≤200:=by
  have e3:(fU (dS ys)).f4.length=1:=rfl
  have e4:(dS ys).f4.length=0:=rfl
  rw [iY,e3,e4] at q5
  omega
 have hslim:rA (jE wd zs)∧jI (jE wd zs)≤1:=by
  unfold jE
  by_cases h:zs.length≤wd
  ·rw [if_pos h]
   exact ⟨mO zs (by omega),by rw [iY];omega⟩
  ·rw [if_neg h]
   refine ⟨?_,?_⟩
   ·rw [jT]
    refine ⟨by simp,by simp,by simp,?_⟩
    show lQ [_,_]
    rw [lQ,lQ,lQ]
    exact ⟨mO _ (by rw [List.length_take];omega),mO _ (by rw [List.length_drop];omega),trivial⟩
   ·rw [iq]
    show iV [_,_]≤1
    rw [iV,iV,iV,iY,iY]
    decide
 have hpos:0<rs.length:=by
  rcases Nat.eq_zero_or_pos rs.length with h | h
  ·exfalso
   have h2:=e2.none_ (List.length_eq_zero_iff.1 h)
   have h3:=q4.recs
   rw [h2] at h3
   omega
  ·exact h
 have hal:=e2.alone hpos (by omega) 3000 (by omega)
 exact ⟨_,_,_,ys,zs,wd,m,_,X,x4,3000 - rs.length,rs,_,jE wd zs,made,{
  wide:=w1
  w3:=w2
  w8:=w3
  cut:=hm
  rising:=r1
  len:=hy8
  new:=MQ 2 wd 8 3 1 (by decide)
  plant:=p1
  good:=hgood
  runs:=hal
  put:=by rw [hzs];exact GX ys key value (by omega) (2*ys.length+2) (Nat.le_refl _)
  zlen:=by omega
  shape:=rfl
  many:=hmade
  read:=q3.read (by omega)
  same:=Oe 1 _ hslim.2 hslim.1
  used:=by
   rw [q4.used,hXa,p4]
   have:made≤3:=by rw [hmade];split<;>omega
   unfold wrap64
   omega
  limbo:=by rw [q4.ep,hX];rfl
  rows:=by rw [q4.ep,hX];show (1:Nat)<1000000;decide }⟩
theorem BO {b:Int} (h:(Lit.int .u8 b).wf=true):0≤b∧b<256:=by
 obtain ⟨h1,h2⟩:=(Bool.and_eq_true _ _).mp h
 have h1:=of_decide_eq_true h1
 have h2:=of_decide_eq_true h2
 rw [show IntKind.u8.min=0 from rfl] at h1
 rw [show IntKind.u8.max=255 from rfl] at h2
 exact ⟨h1,by omega⟩
theorem Cn (A:Option Addr) (c:Nat) (keys:List Int) (b0 key value:Int) (w:World) (hC:(Kd.int .i64).C w A keys.length keys) (hc:keys.length≤c) (hw: ∀ n∈keys,(Lit.int .i64 n).wf=true) (wb:(Lit.int .u8 b0).wf=true) (wk:(Lit.int .i64 key).wf=true) (wv:(Lit.int .i64 value).wf=true):
  Calls Tryz.prog 3 #[.slice A keys.length c,.int .u8 b0,.int .i64 key,.int .i64 value] w fun e w1=>e= .returned (.bool true)∧Below w.heap.size w w1:=by
 obtain ⟨kf,kp,k2,ys,zs,wd,m,x0,X,X5,g,log,l,t,made,hf⟩:=PD keys b0 key value (BO wb).1 (BO wb).2
 exact zG A c keys b0 key value w hC hc hf
end Go.Proofs.YtmnjjdeaccgjlaaGreat.Tower
namespace Go.Proofs.YtmnjjdeaccgjlaaGreat.putSplits
open Go Go.ChangeShapes Go.WideShapes Go.ChangeAt Go.RowKit Go.Joins Go.Deep
open Go.Proofs.YtmnjjdeaccgjlaaGreatW.PrintWords (Kd dH.LC Kd.uZ)
theorem own:ownKnob Tryz.prog.godebug=none:=by kernel_rfl
theorem laidOut:laidOutB Tryz.prog=true:=by kernel_rfl
def IsRow (k:IntKind) (w:World) (a:Option Addr) (len cap:Nat) (zs:List Int):Prop:=
 (a=none∧len=0∧cap=0∧zs= [])∨
 ∃ x,a=some x∧len≤cap∧cap≤maxLen∧zs.length=cap∧(∀ i,i<zs.length→w.cell? (x.add i)=some (.int k (zs.getD i 0)))∧ ∀ n∈zs,(Lit.int k n).wf=true
theorem lifted (os:Os) (started:os.Started) (H:Type) (enc:TypeId × Value→H):
  ReturnsInHanded {} Tryz.checked os 3 .any (Rows.putSplitsSpec.pre6 enc Tryz.prog Tryz.f3 Rows.putSplitsRow.domain false) (Rows.putSplitsSpec.post enc Tryz.prog Tryz.f3 false true false false):=by
 refine returnsInHanded_of_change_sized (C:=Tryz.checked) own started (by kernel_rfl) Tryz.func3
  (ChangeSpec.witness6 (enc:=enc) (C:=Tryz.checked) false ⟨#[],#[.slice none 0 0,.int .u8 0,.int .i64 0,.int .i64 0],[]⟩ 8 (by kernel_rfl) (by kernel_rfl) (by kernel_rfl) (by kernel_rfl)) ?_
 intro W base args ds gs before hval0 hW hcnd hsz0 _
 have hval: ∀ (j:Nat) t v,Tryz.f3.params[j]?=some t→args[j]?=some v→Value.okWide Tryz.prog W .any base t v:=hval0
 have hW':=hW
 obtain ⟨p,q,hA0,hV,rfl,hfz,hnd⟩:=hW
 have hA:DataW.TrodAll enc Tryz.prog W 0 (fun _=>true) true Tryz.f3.params.toList args.toList ds p:=hA0
 rw [Tryz.params3] at hA hval
 obtain ⟨v0,vs0,d0,ds0,p0,q0,hargs,rfl,rfl,h0,r0⟩:=trodAll_cons hA
 obtain ⟨v1,vs1,d1,ds1,p1,q1,rfl,rfl,rfl,h1,r1⟩:=trodAll_cons r0
 obtain ⟨v2,vs2,d2,ds2,p2,q2,rfl,rfl,rfl,h2,r2⟩:=trodAll_cons r1
 obtain ⟨v3,vs3,d3,ds3,p3,q3,rfl,rfl,rfl,h3,r3⟩:=trodAll_cons r2
 obtain ⟨rfl,rfl,rfl⟩:=trodAll_nil r3
 obtain rfl:args= #[v0,v1,v2,v3]:=by cases args;simp_all
 obtain ⟨rfl,rfl⟩:=trodVars_none hV
 obtain ⟨a0,len0,cap0,rfl⟩:=okWide_slice Tryz.underlying22 (hval 0 22 v0 rfl rfl)
 have k0:=h0
 have lt0: ∀ x∈p0,x.block<W.heap.size:=by obtain ⟨m,hm⟩:=k0;exact DataW.trod_lt m _ _ _ hm
 obtain ⟨z0,w0⟩: ∃ zs,IsRow .i64 W a0 len0 cap0 zs:=by
  obtain ⟨fuel,hf⟩:=h0
  rcases open_ints Tryz.underlying22 Tryz.underlying2 (by kernel_rfl) hf with ⟨hcs,_⟩ | ⟨x,l,c,zs,hcs,_,hl,hm,hz,_,hcell,hwz⟩
  ·simp [Value.cells] at hcs
   obtain ⟨rfl,rfl,rfl⟩:=hcs
   exact ⟨[],.inl ⟨rfl,rfl,rfl,rfl⟩⟩
  ·simp [Value.cells] at hcs
   obtain ⟨rfl,rfl,rfl⟩:=hcs
   exact ⟨zs,.inr ⟨_,rfl,hl,hm,by simpa using hz,hcell,hwz⟩⟩
 obtain ⟨l0,rfl,hr0,hm0,hw0,hc0⟩:=dH.LC w0
 obtain ⟨a1,rfl,rfl,rfl,wa1⟩:=open_int Tryz.underlying5 (hval 1 5 v1 rfl rfl) h1
 obtain ⟨a2,rfl,rfl,rfl,wa2⟩:=open_int Tryz.underlying2 (hval 2 2 v2 rfl rfl) h2
 obtain ⟨a3,rfl,rfl,rfl,wa3⟩:=open_int Tryz.underlying2 (hval 3 2 v3 rfl rfl) h3
 clear hA0 hval0 hsz0
 refine (Tower.Cn a0 cap0 l0 a1 a2 a3 W (Kd.uZ (d:=(0:Int)) (h1:=fun _=>rfl) hr0) hc0 hw0 wa1 wa2 wa3).mono fun e W' ⟨he,bel⟩=>?_
 subst he
 exact ⟨_,rfl,_,_,_,[],_,[],hW',trodAll_mk1 (shut_bool Tryz.underlying4 _),(trodAll_cons_mk (Below.trod laidOut (by kernel_rfl) (of_decide_eq_true (by kernel_rfl)) k0 bel lt0) (trodAll_cons_mk (shut_int Tryz.underlying5 wa1) (trodAll_cons_mk (shut_int Tryz.underlying2 wa2) (trodAll_cons_mk (shut_int Tryz.underlying2 wa3) trodAll_mk0)))),rfl,bel.frame _,fun h=>by cases h⟩
theorem over:Rows.putSplitsRow.holds Tryz.pinned (OpenSpec.ofChange Rows.putSplitsSpec):=
 OpenClaim.holds_of_wide 3 Tryz.f3 rfl rfl rfl rfl rfl rfl rfl ⟨rfl,rfl,rfl,rfl,rfl⟩ rfl rfl rfl rfl rfl (by kernel_rfl) Tryz.func3 (by kernel_rfl)
  (of_decide_eq_true (by kernel_rfl)) (by unfold Func.isWrapper;first | (rw [if_pos (by decide+kernel)];kernel_rfl) | (rw [if_neg (by decide+kernel)];exact ⟨rfl,rfl⟩))
  (fun os started H enc _=>lifted os started H enc)
theorem proved:Rows.PutSplitsSaid:=over
#print axioms proved
end Go.Proofs.YtmnjjdeaccgjlaaGreat.putSplits
namespace Go.Proofs.YtmnjjdeaccgjlaaGreat
theorem putSplits_holds:Rows.PutSplitsSaid:=putSplits.proved
end Go.Proofs.YtmnjjdeaccgjlaaGreat
