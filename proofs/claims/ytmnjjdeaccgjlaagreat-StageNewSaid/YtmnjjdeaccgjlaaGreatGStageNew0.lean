/- Words and contracts that the claim stands on, part 1 of 7. -/
import Derived.Test.YtmnjjdeaccgjlaaGreatChecked
import Derived.Below
import Derived.Deep.Draws
import Derived.Deep.AppendLies
import Derived.Maps.AppendAt
import Derived.OwnWalk
import Derived.Laws.BytesArg
import Derived.Laws.MakeOwn
import Derived.Laws.OwnMore
import Derived.Deep.OwnRows
import Derived.Tactics
import Derived.Lib.ConvBytes
import Derived.Laws.Slices
import Derived.WalkKit
import Derived.KernelRfl
import Derived.RowKit3
import Derived.Deep.LoopGhost
import Derived.Deep.QuietTactic
import Derived.BigQuiet
import Derived.WideLaws
import Derived.Deep.DeepCutAuto
import Derived.Deep.CutBlock
import Derived.Deep.RegionHeld3
import Derived.Laws.Rows
import Derived.Lib.AppendStr
import Derived.ArgAppend
import Derived.Laws.IdiomCopy
import Derived.RowKit
import Derived.OrdersHeld
import Derived.Laws.BitsLemmas
import Derived.ProofKit
import Derived.Recover
namespace Go.RowKit
abbrev Y_:=true
abbrev N_:=false
theorem u1_ {α:Type} (l:List α) (i:Nat) (a:α):l.toArray.setIfInBounds i a=(l.set i a).toArray:=List.setIfInBounds_toArray ..
theorem u2_ {α:Type} (a:α) (as_:List α) (b:α):(a::as_).set 0 b=b::as_:=rfl
theorem u3_ {α:Type} (a:α) (as_:List α) (n:Nat) (b:α):(a::as_).set (n+1) b=a::as_.set n b:=rfl
end Go.RowKit
set_option linter.unusedSimpArgs false
set_option linter.unusedVariables false
set_option maxHeartbeats 2000000
set_option maxRecDepth 100000
namespace Go.Proofs.YtmnjjdeaccgjlaaGreatW.PrintWords
open Go.RowKit
structure ak (p:Prop):Prop where mk::(out:p)
theorem Am_ {p:Prop} (h:p):ak p:=⟨h⟩
structure dK (w w':World):Prop where mk::(out: ∃ n,w'=w.drewN n)
theorem dK.refl (w:World):dK w w:=⟨⟨0,rfl⟩⟩
theorem dK.step {w w':World} (h:dK w w') (n:Nat):dK w (w'.drewN n):=by
 obtain ⟨m,rfl⟩:=h
 exact ⟨⟨m+n,World.drewN_drewN ..⟩⟩
theorem dK.grown {w w':World} (h:dK w w'):Grown w w':=by
 obtain ⟨n,rfl⟩:=h
 induction n with
 | zero=>exact Grown.refl _
 | succ n ih=>rw [←World.drew_drewN];exact Grown.drew ih
theorem dK.below {w w':World} (h:dK w w'):Below w.heap.size w w':=by
 obtain ⟨n,rfl⟩:=h
 induction n with
 | zero=>exact Below.refl _ _
 | succ n ih=>rw [←World.drew_drewN];exact ih.drew
def rd (xs:List Int) (i:Int):Int:=xs.getD i.toNat 0
def bt (s:ByteArray) (i:Int):Int:=if h:i.toNat<s.size then ((s[i.toNat]'h).toNat:Int) else 0
theorem ai {w W:World} (h:Below w.heap.size w W) (o:Obj):Below w.heap.size w (W.alloc o):=h.alloc h.size o
theorem aM {B:Nat} {w W:World} (h:Below B w W):Below B w W.drew:=⟨h.os,h.tape,h.output,h.size,h.block⟩
theorem au {B:Nat} {w W:World} (h:Below B w W) (n:Nat):Below B w (W.drewN n):=⟨h.os,h.tape,h.output,h.size,h.block⟩
theorem aY {B:Nat} {w w1 w2:World} (h:Below B w w1) (hB:B≤w1.heap.size) (k:Below w1.heap.size w1 w2):Below B w w2:=
 h.trans ⟨k.os,k.tape,k.output,k.size,fun i hi=>k.block i (Nat.lt_of_lt_of_le hi hB)⟩
theorem jU {B:Nat} {w w1:World} (h:Below B w w1) (row:Option Nat) (hB:B≤w1.heap.size) {w2:World} (hg:w1.grownBy w2 row) (hr: ∀ k,row=some k→B≤k):Below B w w2:=h.grown hg hB hr
theorem jc {w w1:World} (h:Below w.heap.size w w1) (row:Option Nat):w.grownBy w1 row:=⟨h.os,h.tape,h.output,h.size,fun i hi _=>h.block i hi⟩
theorem aj {w w1:World} (h:Below w.heap.size w w1) {a:Addr} {v:Value} (hc:w.cell? a=some v):w1.cell? a=some v:=(h.cell (World.block_lt_of_cell? w a hc)).trans hc
theorem add_plain (g j:Nat):(⟨g,0,none⟩:Addr).add j=⟨g,j,none⟩:=by unfold Addr.add;split<;>simp_all
def dY (w:World) (k:IntKind) (A:Option Addr) (n:Nat) (xs:List Int):Prop:=
 xs.length=n∧n≤9223372036854775807∧(0<n→ ∃ ad,A=some ad∧ ∀ j,j<n→w.cell? (ad.add j)=some (.int k (xs.getD j 0)))
theorem dY.at_ {w:World} {k:IntKind} {A:Option Addr} {n:Nat} {xs:List Int} (h:dY w k A n xs) (i:Int) (h0:0≤i) (h1:i<n): ∃ ad,A=some ad∧w.cell? (ad.add i.toNat)=some (.int k (rd xs i)):=by
 obtain ⟨ad,e,hc⟩:=h.2.2 (by omega)
 exact ⟨ad,e,hc _ (by omega)⟩
theorem dY.below {w w1:World} {k:IntKind} {A:Option Addr} {n:Nat} {xs:List Int} (h:dY w k A n xs) (hb:Below w.heap.size w w1):dY w1 k A n xs:=
 ⟨h.1,h.2.1,fun hn=>by
  obtain ⟨ad,e,hc⟩:=h.2.2 hn
  exact ⟨ad,e,fun j hj=>aj hb (hc j hj)⟩⟩
theorem IU (W:World) (base:Nat) (e:TypeId) (size:Nat):W.ownsRow base e size (.slice none 0 0) 0 []:=⟨by simp,.inl ⟨rfl,rfl⟩⟩
theorem kQ {w:World} {base:Nat} {e:TypeId} {size n:Nat} {v:Value} {xs:List Value} (h:w.ownsRow base e size v n xs) (k:Nat) (hk:v.ownBlock=some k):base≤k:=by
 rcases h.2 with ⟨rfl,_⟩ | ⟨g,cap,cur,rfl,hb,_⟩
 ·simp [Value.ownBlock] at hk
 ·have:g=k:=by simpa [Value.ownBlock] using hk
  omega
theorem Gm {w:World} {base:Nat} {e:TypeId} {size n:Nat} {v:Value} {xs:List Value} (h:w.ownsRow base e size v n xs) (k:Nat) (hk:v.ownBlock=some k):k<w.heap.size:=by
 rcases h.2 with ⟨rfl,_⟩ | ⟨g,cap,cur,rfl,hb,hh,_⟩
 ·simp [Value.ownBlock] at hk
 ·have:g=k:=by simpa [Value.ownBlock] using hk
  subst this
  exact (Array.getElem?_eq_some_iff.1 hh).1
theorem rV {w w1:World} {base:Nat} {e:TypeId} {size n:Nat} {v:Value} {xs:List Value} (h:w.ownsRow base e size v n xs) (hb:Below w.heap.size w w1):w1.ownsRow base e size v n xs:=
 h.kept (jc hb none) (by cases v.ownBlock<;>simp)
theorem dY.fw {w:World} {k:IntKind} {A:Option Addr} {n:Nat} {xs:List Int} (h:dY w k A n xs) (i:Nat) (hi:i≤n):dY w k A i (xs.take i):=by
 refine ⟨by rw [List.length_take,h.1];omega,by have:=h.2.1;omega,fun hp=>?_⟩
 obtain ⟨ad,e,hc⟩:=h.2.2 (by omega)
 refine ⟨ad,e,fun j hj=>?_⟩
 rw [hc j (by omega)]
 simp [List.getD_eq_getElem?_getD,hj]
def LeO {α:Type} (a b:Option α):Prop:= ∀ r,a=some r→b=some r
theorem LeO.refl {α:Type} (a:Option α):LeO a a:=fun _ h=>h
theorem LeO.none {α:Type} (b:Option α):LeO Option.none b:=fun _ h=>by cases h
theorem LeO.trans {α:Type} {a b c:Option α} (h:LeO a b) (k:LeO b c):LeO a c:=fun r hr=>k r (h r hr)
theorem LeO.bind {α β:Type} {a a':Option α} {f f':α→Option β} (h:LeO a a') (k: ∀ x,LeO (f x) (f' x)):LeO (a.bind f) (a'.bind f'):=by
 intro r hr
 obtain ⟨x,hx,hf⟩:=Option.bind_eq_some_iff.1 hr
 exact Option.bind_eq_some_iff.2 ⟨x,h x hx,k x r hf⟩
theorem LeO.map {α β:Type} {a a':Option α} (f:α→β) (h:LeO a a'):LeO (a.map f) (a'.map f):=by
 intro r hr
 obtain ⟨x,hx,hf⟩:=Option.map_eq_some_iff.1 hr
 exact Option.map_eq_some_iff.2 ⟨x,h x hx,hf⟩
theorem nP {α:Type} {g:Nat→Option α} (h: ∀ k,LeO (g k) (g (k+1))) (k:Nat): ∀ j,LeO (g k) (g (k+j))
 | 0=>LeO.refl _
 | j+1=>(nP h k j).trans (h (k+j))
theorem zF {α:Type} {g:Nat→Option α} (h: ∀ k,LeO (g k) (g (k+1))) {k k':Nat} (hk:k≤k') {r:α} (hr:g k=some r):g k'=some r:=by
 have:=nP h k (k' - k) r hr
 rwa [Nat.add_sub_cancel' hk] at this
def eY {α:Type} (R:α→List Value→Prop) (size:Nat) (ps:List α) (cs:List Value):Prop:=
 cs.length=ps.length*size∧ ∀ j p,ps[j]?=some p→R p ((cs.drop (j*size)).take size)
theorem eY.none {α:Type} (R:α→List Value→Prop) (size:Nat):eY R size [] []:=⟨by simp,fun j p h=>by simp at h⟩
theorem eY.snoc {α:Type} {R:α→List Value→Prop} {size:Nat} {ps:List α} {cs c:List Value} {p:α} (h:eY R size ps cs) (hp:R p c) (hc:c.length=size):eY R size (ps++ [p]) (cs++c):=by
 refine ⟨by rw [List.length_append,h.1,hc,List.length_append,List.length_singleton,Nat.add_mul,Nat.one_mul],fun j q hq=>?_⟩
 rcases Nat.lt_or_ge j ps.length with hj | hj
 ·rw [List.getElem?_append_left hj] at hq
  have h1:j*size+size≤cs.length:=by rw [h.1,←Nat.succ_mul];exact Nat.mul_le_mul_right _ hj
  have h2:=h.2 j q hq
  rw [List.drop_append_of_le_length (by omega),List.take_append_of_le_length (by rw [List.length_drop];omega)]
  exact h2
 ·have hj':j=ps.length:=by
   have:=(List.getElem?_eq_some_iff.1 hq).1
   rw [List.length_append,List.length_singleton] at this
   omega
  subst hj'
  have hq':p=q:=by simpa using hq
  subst hq'
  rw [←h.1,List.drop_left,←hc,List.take_length]
  exact hp
theorem eY.nk {α:Type} {R R':α→List Value→Prop} {size:Nat} {ps:List α} {cs:List Value} (h:eY R size ps cs) (hR: ∀ p c,R p c→R' p c):eY R' size ps cs:=⟨h.1,fun j p hj=>hR _ _ (h.2 j p hj)⟩
def fF {α:Type} (R:α→List Value→Prop) (size:Nat) (w:World) (A:Option Addr) (n:Nat) (ps:List α):Prop:=
 ps.length=n∧n≤9223372036854775807∧(0<n→ ∃ ad,A=some ad∧ ∀ j p,ps[j]?=some p→ ∃ c,c.length=size∧R p c∧ ∀ i u,c[i]?=some u→w.cell? (ad.add (j*size+i))=some u)
theorem fF.NS {α:Type} {R:α→List Value→Prop} {size:Nat} {w:World} {A:Option Addr} {n:Nat} {ps:List α} (h:fF R size w A n ps) (d:α) (i:Int) (h0:0≤i) (h1:i<n):
  ∃ ad c,A=some ad∧c.length=size∧R (ps.getD i.toNat d) c∧ ∀ j u,c[j]?=some u→w.cell? (ad.add (i.toNat*size+j))=some u:=by
 obtain ⟨ad,e,hc⟩:=h.2.2 (by omega)
 have hl:i.toNat<ps.length:=by have:=h.1;omega
 obtain ⟨c,hs,hr,hcell⟩:=hc i.toNat _ (List.getElem?_eq_getElem hl)
 refine ⟨ad,c,e,hs,?_,hcell⟩
 rw [List.getD_eq_getElem?_getD,List.getElem?_eq_getElem hl]
 exact hr
theorem fF.nk {α:Type} {R R':α→List Value→Prop} {size:Nat} {w w1:World} {A:Option Addr} {n:Nat} {ps:List α} (h:fF R size w A n ps) (hb:Below w.heap.size w w1) (hR: ∀ p c,R p c→R' p c):fF R' size w1 A n ps:=
 ⟨h.1,h.2.1,fun hn=>by
  obtain ⟨ad,e,hc⟩:=h.2.2 hn
  refine ⟨ad,e,fun j p hj=>?_⟩
  obtain ⟨c,hs,hr,hcell⟩:=hc j p hj
  exact ⟨c,hs,hR _ _ hr,fun i u hu=>aj hb (hcell i u hu)⟩⟩
theorem qp {α:Type} {R:α→List Value→Prop} {w:World} {base n size:Nat} {e:TypeId} {v:Value} {ps:List α} {cs:List Value} (h:w.ownsRow base e size v n cs) (hR:eY R size ps cs) (hn:ps.length=n):
  ∃ A c,v= .slice A n c∧fF R size w A n ps:=by
 rcases Nat.eq_zero_or_pos n with h0 | h0
 ·rcases h.2 with ⟨rfl,rfl⟩ | ⟨g,cap,cur,rfl,_⟩
  ·exact ⟨none,0,rfl,hn,by omega,fun hp=>absurd hp (by omega)⟩
  ·exact ⟨_,cap,rfl,hn,by omega,fun hp=>absurd hp (by omega)⟩
 ·obtain ⟨g,cap,rfl,_,_⟩:=h.form h0
  have hm:n≤9223372036854775807:=by
   rcases h.2 with ⟨_,h1⟩ | ⟨g',cap',cur,he,_,_,h1,h2,_⟩
   ·omega
   ·simp only [maxLen] at h2
    omega
  refine ⟨_,cap,rfl,hn,hm,fun _=>⟨_,rfl,fun j p hj=>⟨(cs.drop (j*size)).take size,?_,hR.2 j p hj,fun i u hu=>?_⟩⟩⟩
  ·have hjl:=(List.getElem?_eq_some_iff.1 hj).1
   have h1:j*size+size≤cs.length:=by rw [hR.1,←Nat.succ_mul];exact Nat.mul_le_mul_right _ hjl
   rw [List.length_take,List.length_drop]
   omega
  ·refine h.cells (g:=g) rfl _ u ?_
   rw [List.getElem?_take] at hu
   split at hu
   ·rw [List.getElem?_drop] at hu
    exact hu
   ·cases hu
theorem mP (ad:Addr) (m j:Nat) (hj:0<j):ad.add (m+j)=⟨(ad.add m).block,(ad.add m).off+j,none⟩:=by
 unfold Addr.add
 by_cases hm:m=0
 ·subst hm
  simp [Nat.ne_of_gt hj]
 ·simp [hm,Nat.add_assoc]
section
variable {P:Program} {ops:Array Oper} {rest:List Oper} {o:Oper} {a:Act} {Q:Exit→Act→World→Prop}
theorem iY {w0 W:World} (base:Nat) (hgd:o.guard=none) (s x:Operand) (t e:TypeId) (z:Value) (size bytes:Nat)
  (ho:o.op= .call { callee:= .builtin .append,args:= #[s,x],argTypes:= #[t,t] })
  (ht:P.underlying t=some (.slice e)) (hinfo:(P.info? e).map (fun i=>(i.zero,i.size,i.bytes))=some (some z,size,bytes)) (hz:z.cells.size=size) (hs0:0<size) (hb0:0<bytes)
  (v:Value) (n:Nat) (xs ys:List Value) (hs:a.eval s=v) (hx:a.eval x= .slice (some ⟨W.heap.size,0,none⟩) 1 1) (hys:ys.length=size) (h1: ∀ u∈ys,u.oneCell'=true)
  (HO:W.ownsRow base e size v n xs) (HB:Below base w0 W) (hbase:base≤W.heap.size) (hl:(n+1)*bytes≤140737488355328)
  (h: ∀ v1 w1,w1.ownsRow base e size v1 (n+1) (xs++ys)→Below base w0 w1→W.grownBy w1 v.ownBlock→(v1.ownBlock=v.ownBlock∨ ∃ b,v1.ownBlock=some b∧W.heap.size≤b)→wpList P ops Q rest (a.put o.dst v1) w1):
  wpList P ops Q (o::rest) a (W.alloc (.cells ys.toArray e)):=by
 obtain ⟨i0,hi,hzz⟩:=Option.map_eq_some_iff.1 hinfo
 simp only [Prod.mk.injEq] at hzz
 obtain ⟨hz0,hz1,hz2⟩:=hzz
 have hlen:n+1≤140737488355328:=Nat.le_trans (Nat.le_mul_of_pos_right _ hb0) hl
 refine wpList_append_own_at (W.alloc (.cells ys.toArray e)) hgd s x t ho base e i0 z size bytes ht hi hz0 hz1 hz2 hz hs0 v n xs hs (HO.alloc _) ⟨W.heap.size,0,none⟩ 1 1 ys hx (by rw [hys];simp)
  (by simpa using World.news_of_block (cs:=ys.toArray) (t:=e) (fr:=(0,0)) (heap_alloc_new W (.cells ys.toArray e))) h1 (by simp only [maxLen];omega) hl (by simp;omega) ?_
 intro v1 w1 hown hg _ hat
 refine h v1 w1 hown ((HB.alloc hbase _).grown hg (by simp;omega) (kQ HO)) (World.grownBy.trans (World.grownBy_alloc W _ _) hg) ?_
 rcases hat with hat | hat
 ·exact .inl hat
 ·exact .inr ⟨_,hat,by simp⟩
end
theorem own_ne {w:World} {base:Nat} {e t:TypeId} {size n g:Nat} {v:Value} {xs:List Value} {cs:Array Value} (h:w.ownsRow base e size v n xs) (hg:w.heap[g]?=some (.cells cs t (0,0))) (hne:e≠t):some g≠v.ownBlock:=by
 rcases h.2 with ⟨rfl,_⟩ | ⟨g',cap,cur,rfl,_,hh,_⟩
 ·simp [Value.ownBlock]
 ·intro he
  have:g=g':=by simpa [Value.ownBlock] using he
  subst this
  rw [hg] at hh
  injection hh with hh
  injection hh with _ ht
  exact hne ht.symm
theorem uJ {w:World} {base:Nat} {e:TypeId} {size n:Nat} {v:Value} {xs:List Value} (h:w.ownsRow base e size v n xs) {p:Addr} (hne:some p.block≠v.ownBlock) (u:Value):(w.setCell p u).ownsRow base e size v n xs:=by
 obtain ⟨h1,h2⟩:=h
 refine ⟨h1,?_⟩
 rcases h2 with h2 | ⟨g,cap,cur,rfl,hg,hh,r⟩
 ·exact .inl h2
 ·exact .inr ⟨g,cap,cur,rfl,hg,by rw [Below.heap_setCell _ _ _ _ (fun e=>hne (by rw [e];rfl))];exact hh,r⟩
theorem bH {w:World} {g:Nat} {t:TypeId} {cs:Array Value} (h:w.heap[g]?=some (.cells cs t (0,0))) (i:Nat) (u:Value):(w.setCell ⟨g,i,none⟩ u).heap[g]?=some (.cells (cs.setIfInBounds i u) t (0,0)):=by
 simp [World.setCell,Array.getElem?_modify,h]
theorem cO {w:World} {g:Nat} {t:TypeId} {cs:Array Value} (h:w.heap[g]?=some (.cells cs t (0,0))) {p:Addr} (hp:g≠p.block) (u:Value):(w.setCell p u).heap[g]?=some (.cells cs t (0,0)):=(Below.heap_setCell w p u g hp).trans h
theorem bD {w:World} {g:Nat} {o:Obj} (h:w.heap[g]?=some o):g<w.heap.size:=(Array.getElem?_eq_some_iff.1 h).1
theorem af {w:World} {g:Nat} {t:TypeId} {cs:Array Value} (h:w.heap[g]?=some (.cells cs t (0,0))) (i:Nat):w.cell? ⟨g,i,none⟩=cs[i]?:=cell_of_row w g i cs t (0,0) h
theorem ah {w:World} {g:Nat} {t:TypeId} {cs:Array Value} (h:w.heap[g]?=some (.cells cs t (0,0))) (i:Nat):w.frozen? ⟨g,i,none⟩=false:=by simp [World.frozen?,h]
theorem bJ {w w1:World} {g:Nat} {o:Obj} {row:Option Nat} (h:w.heap[g]?=some o) (hg:w.grownBy w1 row) (hne:some g≠row):w1.heap[g]?=some o:=(hg.block g (bD h) hne).trans h
def eF (w w':World) (g:Nat) (row:Option Nat):Prop:=w.heap.size≤w'.heap.size∧ ∀ i,i<w.heap.size→i≠g→some i≠row→w'.heap[i]?=w.heap[i]?
theorem eF.refl (w:World) (g:Nat) (row:Option Nat):eF w w g row:=⟨Nat.le_refl _,fun _ _ _ _=>rfl⟩
theorem eF.bE {w w1:World} (h:Below w.heap.size w w1) (g:Nat) (row:Option Nat):eF w w1 g row:=⟨h.size,fun i hi _ _=>h.block i hi⟩
theorem eF.Ny {w w1:World} {g:Nat} {row:Option Nat} (h:eF w w1 g row) (j:Nat) (u:Value):eF w (w1.setCell ⟨g,j,none⟩ u) g row:=
 ⟨by simpa [World.setCell] using h.1,fun i hi hg hr=>(Below.heap_setCell w1 ⟨g,j,none⟩ u i hg).trans (h.2 i hi hg hr)⟩
theorem eF.trans {w w1 w2:World} {g:Nat} {row row1:Option Nat} (h:eF w w1 g row) (k:eF w1 w2 g row1) (hr:row1=row∨ ∃ b,row1=some b∧w.heap.size≤b):eF w w2 g row:=
 ⟨Nat.le_trans h.1 k.1,fun i hi hg hn=>by
  refine (k.2 i (Nat.lt_of_lt_of_le hi h.1) hg ?_).trans (h.2 i hi hg hn)
  rcases hr with rfl | ⟨b,rfl,hb⟩
  ·exact hn
  ·intro e
   injection e with e
   omega⟩
theorem eF.blk {w w1:World} {g g':Nat} {row:Option Nat} {o:Obj} (h:eF w w1 g row) (hb:w.heap[g']?=some o) (hg:g'≠g) (hr:some g'≠row):w1.heap[g']?=some o:=(h.2 g' (bD hb) hg hr).trans hb
theorem eF.own {w w1:World} {g:Nat} {row:Option Nat} {base:Nat} {e:TypeId} {size n:Nat} {v:Value} {xs:List Value} (h:eF w w1 g row) (ho:w.ownsRow base e size v n xs) (hg:v.ownBlock≠some g) (hr:v.ownBlock=none∨v.ownBlock≠row):w1.ownsRow base e size v n xs:=by
 obtain ⟨h1,h2⟩:=ho
 refine ⟨h1,?_⟩
 rcases h2 with h2 | ⟨b,cap,cur,rfl,hb,hh,r⟩
 ·exact .inl h2
 ·refine .inr ⟨b,cap,cur,rfl,hb,h.blk hh ?_ ?_,r⟩
  ·intro e
   exact hg (by rw [←e];rfl)
  ·rcases hr with hr | hr
   ·simp [Value.ownBlock] at hr
   ·exact hr
def Ev {α:Type} (g:Nat→Option α) (r:α):Prop:= ∃ K,∀ k,K≤k→g k=some r
theorem Ev.of {α:Type} {g:Nat→Option α} {r:α} (hg: ∀ k,LeO (g k) (g (k+1))) {k:Nat} (h:g k=some r):Ev g r:=⟨k,fun _ hk=>zF hg hk h⟩
theorem Ev.now {α:Type} (r:α):Ev (fun _=>some r) r:=⟨0,fun _ _=>rfl⟩
theorem Ev.bind {α β:Type} {g:Nat→Option α} {f:Nat→α→Option β} {a:α} {r:β} (h:Ev g a) (k:Ev (fun n=>f n a) r):Ev (fun n=>(g n).bind (f n)) r:=by
 obtain ⟨K,h⟩:=h
 obtain ⟨K',k⟩:=k
 refine ⟨max K K',fun n hn=>?_⟩
 have h1:=h n (by omega)
 have h2:=k n (by omega)
 simp only [h1,Option.bind_some]
 exact h2
theorem Ev.step {α:Type} {g f:Nat→Option α} {r:α} (h: ∀ k,g (k+1)=f k) (k:Ev f r):Ev g r:=by
 obtain ⟨K,k⟩:=k
 refine ⟨K+1,fun n hn=>?_⟩
 obtain ⟨m,rfl⟩: ∃ m,n=m+1:=⟨n - 1,by omega⟩
 rw [h]
 exact k m (by omega)
theorem Ev.congr {α:Type} {g f:Nat→Option α} {r:α} (h: ∀ k,g k=f k) (k:Ev f r):Ev g r:=by
 obtain ⟨K,k⟩:=k
 exact ⟨K,fun n hn=>(h n).trans (k n hn)⟩
section
variable {P:Program} {ops:Array Oper} {o:Oper} {a:Act} {Q:Exit→Act→World→Prop} {K:Act→World→Prop}
theorem lS {w0 W:World} (base:Nat) (hw:Region.wanted o (yielded ops a.tmps)=true) (s x:Operand) (t e:TypeId) (z:Value) (size bytes:Nat)
  (ho:o.op= .call { callee:= .builtin .append,args:= #[s,x],argTypes:= #[t,t] })
  (ht:P.underlying t=some (.slice e)) (hinfo:(P.info? e).map (fun i=>(i.zero,i.size,i.bytes))=some (some z,size,bytes)) (hz:z.cells.size=size) (hs0:0<size) (hb0:0<bytes)
  (v:Value) (n:Nat) (xs ys:List Value) (hs:a.eval s=v) (hx:a.eval x= .slice (some ⟨W.heap.size,0,none⟩) 1 1) (hys:ys.length=size) (h1: ∀ u∈ys,u.oneCell'=true)
  (HO:W.ownsRow base e size v n xs) (HB:Below base w0 W) (hbase:base≤W.heap.size) (hl:(n+1)*bytes≤140737488355328)
  (h: ∀ v1 w1,w1.ownsRow base e size v1 (n+1) (xs++ys)→Below base w0 w1→W.grownBy w1 v.ownBlock→(v1.ownBlock=v.ownBlock∨ ∃ b,v1.ownBlock=some b∧W.heap.size≤b)→K (a.put o.dst v1) w1):
  if Region.wanted o (yielded ops a.tmps)=true then Oper.wp P o a (W.alloc (.cells ys.toArray e)) K Q else K (a.put o.dst undef) (W.alloc (.cells ys.toArray e)):=by
 obtain ⟨i0,hi,hzz⟩:=Option.map_eq_some_iff.1 hinfo
 simp only [Prod.mk.injEq] at hzz
 obtain ⟨hz0,hz1,hz2⟩:=hzz
 have hlen:n+1≤140737488355328:=Nat.le_trans (Nat.le_mul_of_pos_right _ hb0) hl
 rw [if_pos hw]
 obtain ⟨v1,w1,hr,hown,hg,_,hat⟩:=run_append_own_at (P:=P) (W.alloc (.cells ys.toArray e)) base t o.type e i0 z size bytes ht hi hz0 hz1 hz2 hz hs0 v n xs (HO.alloc _) ⟨W.heap.size,0,none⟩ 1 1 ys (by rw [hys];simp)
  (by simpa using World.news_of_block (cs:=ys.toArray) (t:=e) (fr:=(0,0)) (heap_alloc_new W (.cells ys.toArray e))) h1 (by simp only [maxLen];omega) hl (by simp;omega)
 unfold Oper.wp execOp
 simp only [ho,resolve,invoke,builtin,Sem.run_bind,Sem.run_pure,Result.andThen_ok,List.map_toArray,List.map_cons,List.map_nil,hs,hx,hr]
 refine h v1 w1 hown ((HB.alloc hbase _).grown hg (by simp;omega) (kQ HO)) (World.grownBy.trans (World.grownBy_alloc W _ _) hg) ?_
 rcases hat with hat | hat
 ·exact .inl hat
 ·exact .inr ⟨_,hat,by simp⟩
end
theorem xU {w:World} {base base':Nat} {e:TypeId} {size n:Nat} {v:Value} {xs:List Value} (h:w.ownsRow base e size v n xs) (hb:base'≤base):w.ownsRow base' e size v n xs:=by
 obtain ⟨h1,h2⟩:=h
 refine ⟨h1,?_⟩
 rcases h2 with h2 | ⟨g,cap,cur,rfl,hg,r⟩
 ·exact .inl h2
 ·exact .inr ⟨g,cap,cur,rfl,Nat.le_trans hb hg,r⟩
section
variable {α:Type} {enc:α→Value} {d:α}
def encs (enc:α→Value) (xs:List α):List Value:=xs.map enc
def JH (d:α) (xs:List α) (i:Int):α:=xs.getD i.toNat d
theorem mZ (xs:List α):(encs enc xs).length=xs.length:=by simp [encs]
theorem DR (xs:List α) (j:Nat) (h:j<xs.length):(encs enc xs)[j]?=some (enc (xs.getD j d)):=by
 simp [encs,List.getElem?_eq_getElem h,List.getD_eq_getElem?_getD]
def eG (enc:α→Value) (d:α) (w:World) (A:Option Addr) (n:Nat) (xs:List α):Prop:=
 xs.length=n∧n≤9223372036854775807∧(0<n→ ∃ ad,A=some ad∧ ∀ j,j<n→w.cell? (ad.add j)=some (enc (xs.getD j d)))
theorem eG.at_ {w:World} {A:Option Addr} {n:Nat} {xs:List α} (h:eG enc d w A n xs) (i:Int) (h0:0≤i) (h1:i<n): ∃ ad,A=some ad∧w.cell? (ad.add i.toNat)=some (enc (JH d xs i)):=by
 obtain ⟨ad,e,hc⟩:=h.2.2 (by omega)
 exact ⟨ad,e,hc _ (by omega)⟩
theorem eG.below {w w1:World} {A:Option Addr} {n:Nat} {xs:List α} (h:eG enc d w A n xs) (hb:Below w.heap.size w w1):eG enc d w1 A n xs:=
 ⟨h.1,h.2.1,fun hn=>by
  obtain ⟨ad,e,hc⟩:=h.2.2 hn
  exact ⟨ad,e,fun j hj=>aj hb (hc j hj)⟩⟩
theorem eG.fw {w:World} {A:Option Addr} {n:Nat} {xs:List α} (h:eG enc d w A n xs) (i:Nat) (hi:i≤n):eG enc d w A i (xs.take i):=by
 refine ⟨by rw [List.length_take,h.1];omega,by have:=h.2.1;omega,fun hp=>?_⟩
 obtain ⟨ad,e,hc⟩:=h.2.2 (by omega)
 refine ⟨ad,e,fun j hj=>?_⟩
 rw [hc j (by omega)]
 simp [List.getD_eq_getElem?_getD,hj]
theorem Bw {W:World} {base g n cap:Nat} {e:TypeId} {xs:List α} (h:W.ownsRow base e 1 (.slice (some ⟨g,0,none⟩) n cap) n (encs enc xs)) (i:Int) (h0:0≤i) (h1:i<n):
  W.cell? ⟨g,i.toNat,none⟩=some (enc (JH d xs i))∧W.frozen? ⟨g,i.toNat,none⟩=false:=by
 have hl:xs.length=n:=by have:=h.1;simp [encs] at this;exact this
 constructor
 ·have hc:=h.cells (g:=g) rfl i.toNat _ (DR (d:=d) xs i.toNat (by omega))
  rwa [add_plain] at hc
 ·rcases h.2 with ⟨h',_⟩ | ⟨g',cap',cur,h',_,hh,_⟩
  ·cases h'
  ·have:g=g':=by injection h' with h';injection h' with h';injection h' with h'
   subst this
   simp [World.frozen?,hh]
theorem rR {W:World} {base g n cap:Nat} {e:TypeId} {xs:List α} (h:W.ownsRow base e 1 (.slice (some ⟨g,0,none⟩) n cap) n (encs enc xs)) (i:Int) (x:α):
  (W.setCell ⟨g,i.toNat,none⟩ (enc x)).ownsRow base e 1 (.slice (some ⟨g,0,none⟩) n cap) n (encs enc (xs.set i.toNat x))∧W.grownBy (W.setCell ⟨g,i.toNat,none⟩ (enc x)) (some g):=by
 have hs:=h.stored i.toNat (enc x)
 have he:(encs enc xs).set i.toNat (enc x)=encs enc (xs.set i.toNat x):=by simp [encs,List.map_set]
 rwa [he] at hs
end
theorem aC {w:World} {g:Nat} {o:Obj} (h:w.heap[g]?=some o) (o':Obj):(w.alloc o').heap[g]?=some o:=(Below.heap_alloc w o' g (bD h)).trans h
theorem aI {w:World} {g:Nat} {o:Obj} (h:w.heap[g]?=some o):w.drew.heap[g]?=some o:=h
theorem aG {w:World} {g:Nat} {o:Obj} (h:w.heap[g]?=some o) (n:Nat):(w.drewN n).heap[g]?=some o:=h
theorem bF {w w1:World} {g:Nat} {o:Obj} (h:w.heap[g]?=some o) (hb:Below w.heap.size w w1):w1.heap[g]?=some o:=(hb.block g (bD h)).trans h
theorem bU (w:World) (o:Obj):(w.alloc o).heap[w.heap.size]?=some o:=heap_alloc_new w o
theorem Lh {w:World} {base n m c size:Nat} {e:TypeId} {A:Option Addr} {xs:List Value} (h:w.ownsRow base e size (.slice A m c) n xs):m≤c:=by
 rcases h.2 with ⟨he,_⟩ | ⟨g,cap,cur,he,_,_,hnc,_⟩
 ·injection he with _ h2 h3
  omega
 ·injection he with _ h2 h3
  omega
def fu {α:Type} (R:α→List Value→Prop) (e:TypeId) (size:Nat) (w:World) (base:Nat) (v:Value) (ps:List α):Prop:=
 ∃ inner,w.ownsRow base e size v ps.length inner∧eY R size ps inner
section
variable {α:Type} {R R':α→List Value→Prop} {e:TypeId} {size:Nat} {w w1:World} {base:Nat} {v:Value} {ps:List α}
theorem fu.none_ (R:α→List Value→Prop) (e:TypeId) (size:Nat) (w:World) (base:Nat):fu R e size w base (.slice none 0 0) []:=⟨[],IU _ _ _ _,eY.none _ _⟩
theorem fu.nk (h:fu R e size w base v ps) (hR: ∀ p c,R p c→R' p c):fu R' e size w base v ps:=by
 obtain ⟨inner,ho,hr⟩:=h
 exact ⟨inner,ho,hr.nk hR⟩
theorem fu.below (h:fu R e size w base v ps) (hb:Below w.heap.size w w1):fu R e size w1 base v ps:=by
 obtain ⟨inner,ho,hr⟩:=h
 exact ⟨inner,rV ho hb,hr⟩
theorem fu.Ny (h:fu R e size w base v ps) {g:Nat} {t:TypeId} {cells:Array Value} (hb:w.heap[g]?=some (.cells cells t (0,0))) (ht:e≠t) (j:Nat) (u:Value):fu R e size (w.setCell ⟨g,j,none⟩ u) base v ps:=by
 obtain ⟨inner,ho,hr⟩:=h
 exact ⟨inner,uJ ho (own_ne ho hb ht) u,hr⟩
theorem fu.keep (h:fu R e size w base v ps) {g:Nat} {t:TypeId} {cells:Array Value} (hb:w.heap[g]?=some (.cells cells t (0,0))) (ht:e≠t) (hk:eF w w1 g none):fu R e size w1 base v ps:=by
 obtain ⟨inner,ho,hr⟩:=h
 exact ⟨inner,hk.own ho (Ne.symm (own_ne ho hb ht)) (by cases v.ownBlock<;>simp),hr⟩
theorem fu.reads (h:fu R e size w base v ps): ∃ A c,v= .slice A ps.length c∧ps.length≤c∧fF R size w A ps.length ps:=by
 obtain ⟨inner,ho,hr⟩:=h
 obtain ⟨A,c,rfl,hrow⟩:=qp ho hr rfl
 exact ⟨A,c,rfl,Lh ho,hrow⟩
theorem fu.Ej (h:fu R e size w base v ps) {g:Nat} {t:TypeId} {cells:Array Value} (hb:w.heap[g]?=some (.cells cells t (0,0))) (ht:e≠t):some g≠v.ownBlock:=by
 obtain ⟨inner,ho,hr⟩:=h
 exact own_ne ho hb ht
end
section
variable {P:Program} {ops:Array Oper} {rest:List Oper} {o:Oper} {a:Act} {Q:Exit→Act→World→Prop} {α:Type} {R:α→List Value→Prop}
theorem fu.append {w0 W:World} (base:Nat) (hgd:o.guard=none) (s x:Operand) (t e:TypeId) (z:Value) (size bytes:Nat)
  (ho:o.op= .call { callee:= .builtin .append,args:= #[s,x],argTypes:= #[t,t] })
  (ht:P.underlying t=some (.slice e)) (hinfo:(P.info? e).map (fun i=>(i.zero,i.size,i.bytes))=some (some z,size,bytes)) (hz:z.cells.size=size) (hs0:0<size) (hb0:0<bytes)
  (v:Value) (ps:List α) (p:α) (cs:List Value) (hs:a.eval s=v) (hx:a.eval x= .slice (some ⟨W.heap.size,0,none⟩) 1 1) (hp:R p cs) (hcs:cs.length=size) (h1: ∀ u∈cs,u.oneCell'=true)
  (HO:fu R e size W base v ps) (HB:Below base w0 W) (hbase:base≤W.heap.size) (hl:(ps.length+1)*bytes≤140737488355328)
  (h: ∀ v1 w1,fu R e size w1 base v1 (ps++ [p])→Below base w0 w1→W.grownBy w1 v.ownBlock→(v1.ownBlock=v.ownBlock∨ ∃ b,v1.ownBlock=some b∧W.heap.size≤b)→wpList P ops Q rest (a.put o.dst v1) w1):
  wpList P ops Q (o::rest) a (W.alloc (.cells cs.toArray e)):=by
 obtain ⟨inner,hown,hr⟩:=HO
 refine iY base hgd s x t e z size bytes ho ht hinfo hz hs0 hb0 v ps.length inner cs hs hx hcs h1 hown HB hbase hl ?_
 intro v1 w1 hown1 hb1 hg1 hat1
 exact h v1 w1 ⟨inner++cs,by rw [List.length_append,List.length_singleton];exact hown1,hr.snoc hp hcs⟩ hb1 hg1 hat1
end
theorem fF.Lc {α:Type} {R:α→List Value→Prop} {size:Nat} {w:World} {ad:Addr} {n:Nat} {ps:List α} (h:fF R size w (some ad) n ps):
  ∃ inner,eY R size ps inner∧ ∀ j u,inner[j]?=some u→w.cell? (ad.add j)=some u:=by
 have key: ∀ m,m≤ps.length→ ∃ inner,eY R size (ps.take m) inner∧ ∀ j u,inner[j]?=some u→w.cell? (ad.add j)=some u:=by
  intro m
  induction m with
  | zero=>exact fun _=>⟨[],eY.none _ _,fun j u hu=>by simp at hu⟩
  | succ m ih=>
   intro hm
   obtain ⟨inner,hr,hc⟩:=ih (by omega)
   obtain ⟨ad',he,hcell⟩:=h.2.2 (by have:=h.1;omega)
   injection he with he
   subst he
   obtain ⟨c,hcl,hp,hcc⟩:=hcell m _ (List.getElem?_eq_getElem (show m<ps.length by omega))
   refine ⟨inner++c,?_,fun j u hu=>?_⟩
   ·rw [List.take_succ_eq_append_getElem (show m<ps.length by omega)]
    exact hr.snoc hp hcl
   ·have hil:inner.length=m*size:=by rw [hr.1,List.length_take,Nat.min_eq_left (by omega)]
    rcases Nat.lt_or_ge j inner.length with hj | hj
    ·rw [List.getElem?_append_left hj] at hu
     exact hc j u hu
    ·rw [List.getElem?_append_right hj] at hu
     have:=hcc (j - inner.length) u hu
     rwa [hil,Nat.add_sub_cancel' (by omega)] at this
 obtain ⟨inner,hr,hc⟩:=key ps.length (Nat.le_refl _)
 rw [List.take_length] at hr
 exact ⟨inner,hr,hc⟩
section
variable {α:Type} {P:Program}
theorem eG.len_ {enc:α→Value} {d:α} {w:World} {A:Option Addr} {n:Nat} {xs:List α} (h:eG enc d w A n xs):eG enc d w A xs.length xs:=by rw [h.1];exact h
end
structure Kd (α:Type) where
 sz:Nat
 E:List Nat
 K:World→α→List Value→Prop
 M:World→Nat→(Nat→Prop)→α→List Value→Prop
 K_len: ∀ {w x cs},K w x cs→cs.length=sz
 K_one: ∀ {w x cs},K w x cs→ ∀ u∈cs,u.oneCell'=true
 K_below: ∀ {w w1:World} {x cs},Below w.heap.size w w1→K w x cs→K w1 x cs
 K_of_M: ∀ {w base ok x cs},M w base ok x cs→K w x cs
 M_mono: ∀ {w base ok ok' x cs},(∀ k,ok k→ok' k)→M w base ok x cs→M w base ok' x cs
 M_bound: ∀ {w:World} {base ok x cs},M w base ok x cs→M w base (fun k=>ok k∧base≤k∧k<w.heap.size∧ ∃ q,q∈E∧ ∃ cells,w.heap[k]?=some (.cells cells q (0,0))) x cs
 M_move: ∀ {w w1:World} {base ok x cs},(∀ k,ok k→w1.heap[k]?=w.heap[k]?)→M w base ok x cs→M w1 base ok x cs
 M_lower: ∀ {w base base' ok x cs},base'≤base→M w base ok x cs→M w base' ok x cs
theorem Es {w w1:World} {base:Nat} {e:TypeId} {size n:Nat} {v:Value} {xs:List Value} (h:w.ownsRow base e size v n xs) (hm: ∀ k,v.ownBlock=some k→w1.heap[k]?=w.heap[k]?):w1.ownsRow base e size v n xs:=by
 obtain ⟨h1,h2⟩:=h
 refine ⟨h1,?_⟩
 rcases h2 with h2 | ⟨g,cap,cur,rfl,hg,hh,r⟩
 ·exact .inl h2
 ·exact .inr ⟨g,cap,cur,rfl,hg,(hm g (by simp [Value.ownBlock])).trans hh,r⟩
theorem kR {w:World} {base:Nat} {e:TypeId} {size n:Nat} {v:Value} {xs:List Value} (h:w.ownsRow base e size v n xs) (k:Nat) (hk:v.ownBlock=some k): ∃ cells,w.heap[k]?=some (.cells cells e (0,0)):=by
 rcases h.2 with ⟨rfl,_⟩ | ⟨g,cap,cur,rfl,hg,hh,r⟩
 ·simp [Value.ownBlock] at hk
 ·have:g=k:=by simpa [Value.ownBlock] using hk
  subst this
  exact ⟨cur,hh⟩
namespace Kd
def C {α:Type} (d:Kd α) (w:World) (A:Option Addr) (n:Nat) (xs:List α):Prop:=fF (d.K w) d.sz w A n xs
def R {α:Type} (d:Kd α) (e:Nat) (w:World) (base:Nat) (ok:Nat→Prop) (v:Value) (xs:List α):Prop:=
 (∀ k,v.ownBlock=some k→ok k)∧fu (d.M w base (fun k=>ok k∧some k≠v.ownBlock)) e d.sz w base v xs
section
variable {α:Type} {d:Kd α} {e:Nat} {w w1:World} {base:Nat} {ok ok':Nat→Prop} {v:Value} {xs:List α}
theorem bO {A:Option Addr} {n:Nat} (h:d.C w A n xs) (hb:Below w.heap.size w w1):d.C w1 A n xs:=fF.nk h hb (fun _ _ hp=>d.K_below hb hp)
theorem fI (d:Kd α) (e:Nat) (w:World) (base:Nat) (ok:Nat→Prop):d.R e w base ok (.slice none 0 0) []:=⟨fun k hk=>by simp [Value.ownBlock] at hk,fu.none_ _ _ _ _ _⟩
theorem bq (h:d.R e w base ok v xs) (hok: ∀ k,ok k→ok' k):d.R e w base ok' v xs:=⟨fun k hk=>hok k (h.1 k hk),h.2.nk (fun _ _ hp=>d.M_mono (fun k hk=>⟨hok k hk.1,hk.2⟩) hp)⟩
theorem bL (h:d.R e w base ok v xs):d.R e w base (fun k=>ok k∧base≤k∧k<w.heap.size∧ ∃ q,q∈e::d.E∧ ∃ cells,w.heap[k]?=some (.cells cells q (0,0))) v xs:=by
 obtain ⟨h0,inner,ho,hr⟩:=h
 refine ⟨fun k hk=>?_,inner,ho,hr.nk (fun _ _ hp=>d.M_mono (fun k hk=>?_) (d.M_bound hp))⟩
 ·obtain ⟨cells,hc⟩:=kR ho k hk
  exact ⟨h0 k hk,kQ ho k hk,Gm ho k hk,e,List.mem_cons_self,cells,hc⟩
 ·obtain ⟨⟨h1,h2⟩,h3,h4,q,hq,hc⟩:=hk
  exact ⟨⟨h1,h3,h4,q,List.mem_cons_of_mem _ hq,hc⟩,h2⟩
theorem qU (h:d.R e w base ok v xs) (hm: ∀ k,ok k→w1.heap[k]?=w.heap[k]?):d.R e w1 base ok v xs:=by
 obtain ⟨h0,inner,ho,hr⟩:=h
 exact ⟨h0,inner,Es ho (fun k hk=>hm k (h0 k hk)),hr.nk (fun _ _ hp=>d.M_move (fun k hk=>hm k hk.1) hp)⟩
theorem eX {base':Nat} (h:d.R e w base ok v xs) (hb:base'≤base):d.R e w base' ok v xs:=by
 obtain ⟨h0,inner,ho,hr⟩:=h
 exact ⟨h0,inner,xU ho hb,hr.nk (fun _ _ hp=>d.M_lower hb hp)⟩
theorem bQ (h:d.R e w base ok v xs) (hm: ∀ k,ok k→k<w.heap.size→w1.heap[k]?=w.heap[k]?):d.R e w1 base ok v xs:=
 bq (qU (bL h) (fun k hk=>hm k hk.1 hk.2.2.1)) (fun _ hk=>hk.1)
theorem yL {x:α} {cs:List Value} (h:d.M w base ok x cs) (hm: ∀ k,ok k→k<w.heap.size→w1.heap[k]?=w.heap[k]?):d.M w1 base ok x cs:=
 d.M_mono (fun _ hk=>hk.1) (d.M_move (fun k hk=>hm k hk.1 hk.2.2.1) (d.M_bound h))
theorem dU (h:d.R e w base ok v xs) (hb:Below w.heap.size w w1):d.R e w1 base ok v xs:=bQ h (fun k _ hk=>hb.block k hk)
theorem yK {x:α} {cs:List Value} (h:d.M w base ok x cs) (hb:Below w.heap.size w w1):d.M w1 base ok x cs:=yL h (fun k _ hk=>hb.block k hk)
theorem Hy (h:d.R e w base ok v xs) {row:Option Nat} (hg:w.grownBy w1 row) (hok: ∀ k,ok k→some k≠row):d.R e w1 base ok v xs:=bQ h (fun k ho hk=>hg.block k hk (hok k ho))
theorem bV (h:d.R e w base ok v xs) {p:Addr} (hok: ∀ k,ok k→k≠p.block) (u:Value):d.R e (w.setCell p u) base ok v xs:=bQ h (fun k ho _=>Below.heap_setCell w p u k (hok k ho))
theorem lg (h:d.R e w base ok v xs) {g t:Nat} {cells:Array Value} (hb:w.heap[g]?=some (.cells cells t (0,0))) (ht: ∀ q,q∈e::d.E→q≠t):d.R e w base (fun k=>ok k∧k≠g) v xs:=
 bq (bL h) (fun k hk=>⟨hk.1,by
  obtain ⟨_,_,_,q,hq,cells',hc⟩:=hk
  rintro rfl
  rw [hc] at hb
  injection hb with hb
  injection hb with _ hb
  exact ht q hq hb⟩)
theorem sU (h:d.R e w base ok v xs): ∃ A c,v= .slice A xs.length c∧xs.length≤c∧d.C w A xs.length xs:=by
 obtain ⟨A,c,he,hl,hr⟩:=fu.reads h.2
 exact ⟨A,c,he,hl,hr.nk (Below.refl _ _) (fun _ _ hp=>d.K_of_M hp)⟩
theorem aJ (h:d.R e w base ok v xs): ∃ A c,v= .slice A xs.length c:=by
 obtain ⟨A,c,he,_⟩:=sU h
 exact ⟨A,c,he⟩
theorem Da (h:d.R e w base ok v xs): ∃ inner,w.ownsRow base e d.sz v xs.length inner:=by
 obtain ⟨_,inner,ho,_⟩:=h
 exact ⟨inner,ho⟩
theorem JD (h:d.R e w base ok v xs) {g t:Nat} {cells:Array Value} (hb:w.heap[g]?=some (.cells cells t (0,0))) (ht:e≠t):some g≠v.ownBlock:=fu.Ej h.2 hb ht
end
def scalar {α:Type} (enc:α→Value) (h1: ∀ x,(enc x).oneCell'=true):Kd α where
 sz:=1
 E:= []
 K:=fun _ x cs=>cs= [enc x]
 M:=fun _ _ _ x cs=>cs= [enc x]
 K_len:=fun h=>by rw [h];rfl
 K_one:=fun h u hu=>by
  rw [h] at hu
  rw [List.mem_singleton.1 hu]
  exact h1 _
 K_below:=fun _ h=>h
 K_of_M:=fun h=>h
 M_mono:=fun _ h=>h
 M_bound:=fun h=>h
 M_move:=fun _ h=>h
 M_lower:=fun _ h=>h
def int (k:IntKind):Kd Int:=scalar (Value.int k) (fun _=>rfl)
def bool:Kd Bool:=scalar Value.bool (fun _=>rfl)
def slice {α:Type} (e:Nat) (d:Kd α):Kd (List α) where
 sz:=1
 E:=e::d.E
 K:=fun w xs cs=> ∃ A c,cs= [.slice A xs.length c]∧xs.length≤c∧d.C w A xs.length xs
 M:=fun w base ok xs cs=> ∃ v,cs= [v]∧d.R e w base ok v xs
 K_len:=by
  rintro w x cs ⟨A,c,rfl,_⟩
  rfl
 K_one:=by
  rintro w x cs ⟨A,c,rfl,_⟩ u hu
  rw [List.mem_singleton.1 hu]
  rfl
 K_below:=by
  rintro w w1 x cs hb ⟨A,c,rfl,hl,hr⟩
  exact ⟨A,c,rfl,hl,bO hr hb⟩
 K_of_M:=by
  rintro w base ok x cs ⟨v,rfl,h⟩
  obtain ⟨A,c,rfl,hl,hr⟩:=sU h
  exact ⟨A,c,rfl,hl,hr⟩
 M_mono:=by
  rintro w base ok ok' x cs hok ⟨v,rfl,h⟩
  exact ⟨v,rfl,bq h hok⟩
 M_bound:=by
  rintro w base ok x cs ⟨v,rfl,h⟩
  exact ⟨v,rfl,bL h⟩
 M_move:=by
  rintro w w1 base ok x cs hm ⟨v,rfl,h⟩
  exact ⟨v,rfl,qU h hm⟩
 M_lower:=by
  rintro w base base' ok x cs hb ⟨v,rfl,h⟩
  exact ⟨v,rfl,eX h hb⟩
def pair {α β:Type} (a:Kd α) (b:Kd β):Kd (α × β) where
 sz:=a.sz+b.sz
 E:=a.E++b.E
 K:=fun w x cs=> ∃ c0 c1,cs=c0++c1∧a.K w x.1 c0∧b.K w x.2 c1
 M:=fun w base ok x cs=> ∃ c0 c1,cs=c0++c1∧a.M w base ok x.1 c0∧b.M w base ok x.2 c1
 K_len:=by
  rintro w x cs ⟨c0,c1,rfl,h0,h1⟩
  rw [List.length_append,a.K_len h0,b.K_len h1]
 K_one:=by
  rintro w x cs ⟨c0,c1,rfl,h0,h1⟩ u hu
  rcases List.mem_append.1 hu with hu | hu
  ·exact a.K_one h0 u hu
  ·exact b.K_one h1 u hu
 K_below:=by
  rintro w w1 x cs hb ⟨c0,c1,rfl,h0,h1⟩
  exact ⟨c0,c1,rfl,a.K_below hb h0,b.K_below hb h1⟩
 K_of_M:=by
  rintro w base ok x cs ⟨c0,c1,rfl,h0,h1⟩
  exact ⟨c0,c1,rfl,a.K_of_M h0,b.K_of_M h1⟩
 M_mono:=by
  rintro w base ok ok' x cs hok ⟨c0,c1,rfl,h0,h1⟩
  exact ⟨c0,c1,rfl,a.M_mono hok h0,b.M_mono hok h1⟩
 M_bound:=by
  rintro w base ok x cs ⟨c0,c1,rfl,h0,h1⟩
  refine ⟨c0,c1,rfl,a.M_mono ?_ (a.M_bound h0),b.M_mono ?_ (b.M_bound h1)⟩
  ·rintro k ⟨h2,h3,h4,q,hq,hc⟩
   exact ⟨h2,h3,h4,q,List.mem_append_left _ hq,hc⟩
  ·rintro k ⟨h2,h3,h4,q,hq,hc⟩
   exact ⟨h2,h3,h4,q,List.mem_append_right _ hq,hc⟩
 M_move:=by
  rintro w w1 base ok x cs hm ⟨c0,c1,rfl,h0,h1⟩
  exact ⟨c0,c1,rfl,a.M_move hm h0,b.M_move hm h1⟩
 M_lower:=by
  rintro w base base' ok x cs hb ⟨c0,c1,rfl,h0,h1⟩
  exact ⟨c0,c1,rfl,a.M_lower hb h0,b.M_lower hb h1⟩
def iso {α β:Type} (d:Kd α) (f:β→α):Kd β where
 sz:=d.sz
 E:=d.E
 K:=fun w x cs=>d.K w (f x) cs
 M:=fun w base ok x cs=>d.M w base ok (f x) cs
 K_len:=d.K_len
 K_one:=d.K_one
 K_below:=d.K_below
 K_of_M:=d.K_of_M
 M_mono:=d.M_mono
 M_bound:=d.M_bound
 M_move:=d.M_move
 M_lower:=d.M_lower
def bot {α:Type} (sz:Nat) (E:List Nat):Kd α where
 sz:=sz
 E:=E
 K:=fun _ _ _=>False
 M:=fun _ _ _ _ _=>False
 K_len:=fun h=>h.elim
 K_one:=fun h=>h.elim
 K_below:=fun _ h=>h
 K_of_M:=fun h=>h
 M_mono:=fun _ h=>h
 M_bound:=fun h=>h
 M_move:=fun _ h=>h
 M_lower:=fun _ h=>h
def upto {α:Type} (F:Kd α→Kd α) (sz:Nat) (E:List Nat):Nat→Kd α
 | 0=>bot sz E
 | n+1=>F (upto F sz E n)
def fix {α:Type} (F:Kd α→Kd α) (sz:Nat) (E:List Nat) (hs: ∀ n,(upto F sz E n).sz=sz) (hE: ∀ n q,q∈(upto F sz E n).E→q∈E):Kd α where
 sz:=sz
 E:=E
 K:=fun w x cs=> ∃ n,(upto F sz E n).K w x cs
 M:=fun w base ok x cs=> ∃ n,(upto F sz E n).M w base ok x cs
 K_len:=by
  rintro w x cs ⟨n,h⟩
  rw [(upto F sz E n).K_len h,hs n]
 K_one:=by
  rintro w x cs ⟨n,h⟩
  exact (upto F sz E n).K_one h
 K_below:=by
  rintro w w1 x cs hb ⟨n,h⟩
  exact ⟨n,(upto F sz E n).K_below hb h⟩
 K_of_M:=by
  rintro w base ok x cs ⟨n,h⟩
  exact ⟨n,(upto F sz E n).K_of_M h⟩
 M_mono:=by
  rintro w base ok ok' x cs hok ⟨n,h⟩
  exact ⟨n,(upto F sz E n).M_mono hok h⟩
 M_bound:=by
  rintro w base ok x cs ⟨n,h⟩
  refine ⟨n,(upto F sz E n).M_mono ?_ ((upto F sz E n).M_bound h)⟩
  rintro k ⟨h2,h3,h4,q,hq,hc⟩
  exact ⟨h2,h3,h4,q,hE n q hq,hc⟩
 M_move:=by
  rintro w w1 base ok x cs hm ⟨n,h⟩
  exact ⟨n,(upto F sz E n).M_move hm h⟩
 M_lower:=by
  rintro w base base' ok x cs hb ⟨n,h⟩
  exact ⟨n,(upto F sz E n).M_lower hb h⟩
theorem oz {α:Type} {d:Kd α} {w:World} {A:Option Addr} {n:Nat} {xs:List α} (h:d.C w A n xs) (z:α) (i:Int) (h0:0≤i) (h1:i<n):
  ∃ ad c,A=some ad∧c.length=d.sz∧d.K w (xs.getD i.toNat z) c∧ ∀ j u,c[j]?=some u→w.cell? (ad.add (i.toNat*d.sz+j))=some u:=fF.NS h z i h0 h1
theorem kZ {α:Type} {d:Kd α} {e base:Nat} {ok okp:Nat→Prop} {W w1:World} {v v1:Value} {xs:List α} {p:α} {inner cs:List Value} (h0: ∀ k,v.ownBlock=some k→ok k) (hr:eY (d.M W base (fun k=>ok k∧some k≠v.ownBlock)) d.sz xs inner) (hp:d.M W base okp p cs) (hokp: ∀ k,okp k→ok k∧some k≠v.ownBlock) (hfresh: ∀ k,W.heap.size≤k→ok k)
  (hown:w1.ownsRow base e d.sz v1 (xs.length+1) (inner++cs)) (hg:W.grownBy w1 v.ownBlock) (hat:v1.ownBlock=v.ownBlock∨ ∃ b,v1.ownBlock=some b∧W.heap.size≤b):d.R e w1 base ok v1 (xs++ [p]):=by
 have hne: ∀ k,some k≠v.ownBlock→k<W.heap.size→some k≠v1.ownBlock:=by
  intro k hk hlt
  rcases hat with hat | ⟨b,hb,hle⟩
  ·rw [hat];exact hk
  ·rw [hb]
   intro he
   injection he with he
   omega
 have step: ∀ {q:α} {c:List Value} {o:Nat→Prop},d.M W base o q c→(∀ k,o k→ok k∧some k≠v.ownBlock)→d.M w1 base (fun k=>ok k∧some k≠v1.ownBlock) q c:=by
  intro q c o hq ho
  have h1:=d.M_move (w1:=w1) (fun k hk=>hg.block k hk.2.2.1 (ho k hk.1).2) (d.M_bound hq)
  exact d.M_mono (fun k hk=>⟨(ho k hk.1).1,hne k (ho k hk.1).2 hk.2.2.1⟩) h1
 refine ⟨fun k hk=>?_,inner++cs,by rw [List.length_append,List.length_singleton];exact hown,?_⟩
 ·rcases hat with hat | ⟨b,hb,hle⟩
  ·exact h0 k (hat▸hk)
  ·rw [hb] at hk
   injection hk with hk
   exact hfresh k (by omega)
 ·exact (hr.nk (fun _ _ hq=>step hq (fun _ hk=>hk))).snoc (step hp hokp) (d.K_len (d.K_of_M hp))
section
variable {P:Program} {ops:Array Oper} {rest:List Oper} {o:Oper} {a:Act} {Q:Exit→Act→World→Prop} {α:Type}
theorem iy (d:Kd α) {w0 W:World} (base:Nat) (hgd:o.guard=none) (s x:Operand) (t e:TypeId) (z:Value) (bytes:Nat)
  (ho:o.op= .call { callee:= .builtin .append,args:= #[s,x],argTypes:= #[t,t] })
  (ht:P.underlying t=some (.slice e)) (hinfo:(P.info? e).map (fun i=>(i.zero,i.size,i.bytes))=some (some z,d.sz,bytes)) (hz:z.cells.size=d.sz) (hs0:0<d.sz) (hb0:0<bytes)
  (v:Value) (xs:List α) (p:α) (cs:List Value) (ok okp:Nat→Prop) (hs:a.eval s=v) (hx:a.eval x= .slice (some ⟨W.heap.size,0,none⟩) 1 1) (hp:d.M W base okp p cs) (hokp: ∀ k,okp k→ok k∧some k≠v.ownBlock) (hfresh: ∀ k,W.heap.size≤k→ok k)
  (HO:d.R e W base ok v xs) (HB:Below base w0 W) (hbase:base≤W.heap.size) (hl:(xs.length+1)*bytes≤140737488355328)
  (h: ∀ v1 w1,d.R e w1 base ok v1 (xs++ [p])→Below base w0 w1→W.grownBy w1 v.ownBlock→(v1.ownBlock=v.ownBlock∨ ∃ b,v1.ownBlock=some b∧W.heap.size≤b)→wpList P ops Q rest (a.put o.dst v1) w1):
  wpList P ops Q (o::rest) a (W.alloc (.cells cs.toArray e)):=by
 obtain ⟨h0,inner,hown,hr⟩:=HO
 refine iY base hgd s x t e z d.sz bytes ho ht hinfo hz hs0 hb0 v xs.length inner cs hs hx (d.K_len (d.K_of_M hp)) (d.K_one (d.K_of_M hp)) hown HB hbase hl ?_
 intro v1 w1 hown1 hb1 hg1 hat1
 exact h v1 w1 (kZ h0 hr hp hokp hfresh hown1 hg1 hat1) hb1 hg1 hat1
end
section
variable {P:Program} {ops:Array Oper} {o:Oper} {a:Act} {Q:Exit→Act→World→Prop} {Kc:Act→World→Prop} {α:Type}
theorem iA (d:Kd α) {w0 W:World} (base:Nat) (hw:Region.wanted o (yielded ops a.tmps)=true) (s x:Operand) (t e:TypeId) (z:Value) (bytes:Nat)
  (ho:o.op= .call { callee:= .builtin .append,args:= #[s,x],argTypes:= #[t,t] })
  (ht:P.underlying t=some (.slice e)) (hinfo:(P.info? e).map (fun i=>(i.zero,i.size,i.bytes))=some (some z,d.sz,bytes)) (hz:z.cells.size=d.sz) (hs0:0<d.sz) (hb0:0<bytes)
  (v:Value) (xs:List α) (p:α) (cs:List Value) (ok okp:Nat→Prop) (hs:a.eval s=v) (hx:a.eval x= .slice (some ⟨W.heap.size,0,none⟩) 1 1) (hp:d.M W base okp p cs) (hokp: ∀ k,okp k→ok k∧some k≠v.ownBlock) (hfresh: ∀ k,W.heap.size≤k→ok k)
  (HO:d.R e W base ok v xs) (HB:Below base w0 W) (hbase:base≤W.heap.size) (hl:(xs.length+1)*bytes≤140737488355328)
  (h: ∀ v1 w1,d.R e w1 base ok v1 (xs++ [p])→Below base w0 w1→W.grownBy w1 v.ownBlock→(v1.ownBlock=v.ownBlock∨ ∃ b,v1.ownBlock=some b∧W.heap.size≤b)→Kc (a.put o.dst v1) w1):
  if Region.wanted o (yielded ops a.tmps)=true then Oper.wp P o a (W.alloc (.cells cs.toArray e)) Kc Q else Kc (a.put o.dst undef) (W.alloc (.cells cs.toArray e)):=by
 obtain ⟨h0,inner,hown,hr⟩:=HO
 refine lS base hw s x t e z d.sz bytes ho ht hinfo hz hs0 hb0 v xs.length inner cs hs hx (d.K_len (d.K_of_M hp)) (d.K_one (d.K_of_M hp)) hown HB hbase hl ?_
 intro v1 w1 hown1 hb1 hg1 hat1
 exact h v1 w1 (kZ h0 hr hp hokp hfresh hown1 hg1 hat1) hb1 hg1 hat1
end
theorem uP {α:Type} {enc:α→Value} (xs:List α):eY (fun (x:α) (cs:List Value)=>cs= [enc x]) 1 xs (encs enc xs):=by
 refine ⟨by simp [encs],fun j p hj=>?_⟩
 obtain ⟨hl,hp⟩:=List.getElem?_eq_some_iff.1 hj
 have hl':j<(encs enc xs).length:=by rw [mZ];exact hl
 rw [Nat.mul_one,List.drop_eq_getElem_cons hl']
 simp [encs,hp]
theorem vz {α:Type} {enc:α→Value} {h1: ∀ x,(enc x).oneCell'=true} {e:Nat} {w:World} {base:Nat} {ok:Nat→Prop} {v:Value} {xs:List α} (ho:w.ownsRow base e 1 v xs.length (encs enc xs)) (hok: ∀ k,v.ownBlock=some k→ok k):(scalar enc h1).R e w base ok v xs:=⟨hok,encs enc xs,ho,uP xs⟩
theorem vS {α:Type} {enc:α→Value} {h1: ∀ x,(enc x).oneCell'=true} {e:Nat} {w:World} {base:Nat} {ok:Nat→Prop} {v:Value} {xs:List α} (h:(scalar enc h1).R e w base ok v xs):w.ownsRow base e 1 v xs.length (encs enc xs):=by
 obtain ⟨_,inner,ho,hr⟩:=h
 have:inner=encs enc xs:=by
  apply List.ext_getElem?
  intro j
  rcases Nat.lt_or_ge j xs.length with hj | hj
  ·have h2:=hr.2 j _ (List.getElem?_eq_getElem hj)
   have hl:j<inner.length:=by have:=hr.1;simp [scalar] at this;omega
   have h3:(inner.drop (j*1)).take 1= [enc xs[j]]:=h2
   rw [Nat.mul_one,List.drop_eq_getElem_cons hl] at h3
   have h4:inner[j]=enc xs[j]:=by
    have h5:=congrArg List.head? h3
    rw [List.take_succ_cons] at h5
    exact Option.some.inj h5
   rw [List.getElem?_eq_getElem hl,h4]
   simp [encs,List.getElem?_eq_getElem hj]
  ·have h3:inner.length=xs.length:=by have:=hr.1;simp [scalar] at this;omega
   rw [List.getElem?_eq_none (by omega),List.getElem?_eq_none (by rw [mZ];omega)]
 rw [←this]
 exact ho
theorem xW {α:Type} {enc:α→Value} {d:α} {h1: ∀ x,(enc x).oneCell'=true} {w:World} {A:Option Addr} {n:Nat} {xs:List α} (h:(scalar enc h1).C w A n xs):eG enc d w A n xs:=by
 refine ⟨h.1,h.2.1,fun hn=>?_⟩
 obtain ⟨ad,e,hc⟩:=h.2.2 hn
 refine ⟨ad,e,fun j hj=>?_⟩
 have hl:j<xs.length:=by have:=h.1;omega
 obtain ⟨c,_,hK,hcell⟩:=hc j _ (List.getElem?_eq_getElem hl)
 have hK':c= [enc xs[j]]:=hK
 subst hK'
 have:=hcell 0 _ rfl
 simpa [scalar,List.getD_eq_getElem?_getD,List.getElem?_eq_getElem hl] using this
end Kd
namespace Kd
structure uW {α β:Type} (F:Kd α→Kd β):Prop where
 sz: ∀ d d':Kd α,d.sz=d'.sz→(F d).sz=(F d').sz
 K: ∀ d d':Kd α,d.sz=d'.sz→(∀ w x cs,d.K w x cs→d'.K w x cs)→ ∀ w x cs,(F d).K w x cs→(F d').K w x cs
 M: ∀ d d':Kd α,d.sz=d'.sz→(∀ w base ok x cs,d.M w base ok x cs→d'.M w base ok x cs)→ ∀ w base ok x cs,(F d).M w base ok x cs→(F d').M w base ok x cs
theorem jN {α β:Type} (k:Kd β):uW (fun _:Kd α=>k):=⟨fun _ _ _=>rfl,fun _ _ _ _ _ _ _ h=>h,fun _ _ _ _ _ _ _ _ _ h=>h⟩
theorem II {α:Type}:uW (fun d:Kd α=>d):=⟨fun _ _ h=>h,fun _ _ _ h=>h,fun _ _ _ h=>h⟩
theorem Ke {α:Type} {d d':Kd α} (hs:d.sz=d'.sz) (h: ∀ w x cs,d.K w x cs→d'.K w x cs) {w:World} {A:Option Addr} {n:Nat} {xs:List α} (hc:d.C w A n xs):d'.C w A n xs:=by
 unfold C at hc ⊢
 rw [←hs]
 exact hc.nk (Below.refl _ _) (fun _ _ hp=>h _ _ _ hp)
theorem Mw {α:Type} {d d':Kd α} (hs:d.sz=d'.sz) (h: ∀ w base ok x cs,d.M w base ok x cs→d'.M w base ok x cs) {e:Nat} {w:World} {base:Nat} {ok:Nat→Prop} {v:Value} {xs:List α} (hr:d.R e w base ok v xs):d'.R e w base ok v xs:=by
 unfold R at hr ⊢
 rw [←hs]
 exact ⟨hr.1,hr.2.nk (fun _ _ hp=>h _ _ _ _ _ hp)⟩
theorem xR {α β:Type} (e:Nat) {G:Kd α→Kd β} (hG:uW G):uW (fun d=>slice e (G d)):=by
 refine ⟨fun _ _ _=>rfl,?_,?_⟩
 ·rintro d d' hs h w x cs ⟨A,c,rfl,hl,hr⟩
  exact ⟨A,c,rfl,hl,Ke (hG.sz d d' hs) (hG.K d d' hs h) hr⟩
 ·rintro d d' hs h w base ok x cs ⟨v,rfl,hr⟩
  exact ⟨v,rfl,Mw (hG.sz d d' hs) (hG.M d d' hs h) hr⟩
theorem kM {α β γ:Type} {G:Kd α→Kd β} {H:Kd α→Kd γ} (hG:uW G) (hH:uW H):uW (fun d=>pair (G d) (H d)):=by
 refine ⟨fun d d' hs=>?_,?_,?_⟩
 ·show (G d).sz+(H d).sz=(G d').sz+(H d').sz
  rw [hG.sz d d' hs,hH.sz d d' hs]
 ·rintro d d' hs h w x cs ⟨c0,c1,rfl,h0,h1⟩
  exact ⟨c0,c1,rfl,hG.K d d' hs h _ _ _ h0,hH.K d d' hs h _ _ _ h1⟩
 ·rintro d d' hs h w base ok x cs ⟨c0,c1,rfl,h0,h1⟩
  exact ⟨c0,c1,rfl,hG.M d d' hs h _ _ _ _ _ h0,hH.M d d' hs h _ _ _ _ _ h1⟩
theorem Ei {α β γ:Type} {G:Kd α→Kd β} (f:γ→β) (hG:uW G):uW (fun d=>iso (G d) f):=
 ⟨hG.sz,fun d d' hs h w x cs=>hG.K d d' hs h w (f x) cs,fun d d' hs h w base ok x cs=>hG.M d d' hs h w base ok (f x) cs⟩
def Sub {α β:Type} (F:Kd α→Kd β) (E:List Nat):Prop:= ∀ d:Kd α,(∀ q,q∈d.E→q∈E)→ ∀ q,q∈(F d).E→q∈E
theorem sub_const {α β:Type} {E:List Nat} (k:Kd β) (h: ∀ q,q∈k.E→q∈E):Sub (fun _:Kd α=>k) E:=fun _ _=>h
theorem Lx {α:Type} {E:List Nat}:Sub (fun d:Kd α=>d) E:=fun _ h=>h
theorem Cc {α β:Type} {E:List Nat} (e:Nat) {G:Kd α→Kd β} (he:e∈E) (hG:Sub G E):Sub (fun d=>slice e (G d)) E:=fun d h q hq=>by
 rcases List.mem_cons.1 hq with rfl | hq
 ·exact he
 ·exact hG d h q hq
theorem mH {α β γ:Type} {E:List Nat} {G:Kd α→Kd β} {H:Kd α→Kd γ} (hG:Sub G E) (hH:Sub H E):Sub (fun d=>pair (G d) (H d)) E:=fun d h q hq=>by
 rcases List.mem_append.1 hq with hq | hq
 ·exact hG d h q hq
 ·exact hH d h q hq
theorem Jf {α β γ:Type} {E:List Nat} {G:Kd α→Kd β} (f:γ→β) (hG:Sub G E):Sub (fun d=>iso (G d) f) E:=hG
theorem Gw {α:Type} {F:Kd α→Kd α} {sz:Nat} {E:List Nat} (h:Sub F E): ∀ n q,q∈(upto F sz E n).E→q∈E
 | 0,_,hq=>hq
 | n+1,q,hq=>h _ (Gw h n) q hq
theorem Jy {α:Type} {F:Kd α→Kd α} {sz:Nat} {E:List Nat} (h: ∀ d:Kd α,(F d).sz=sz): ∀ n,(upto F sz E n).sz=sz
 | 0=>rfl
 | _+1=>h _
section
variable {α:Type} {F:Kd α→Kd α} {sz:Nat} {E:List Nat} {hs: ∀ n,(upto F sz E n).sz=sz} {hE: ∀ n q,q∈(upto F sz E n).E→q∈E}
theorem Gx (hm:uW F) (hs: ∀ n,(upto F sz E n).sz=sz): ∀ n {w x cs},(upto F sz E n).K w x cs→(upto F sz E (n+1)).K w x cs
 | 0,_,_,_,h=>h.elim
 | n+1,_,_,_,h=>hm.K _ _ (by rw [hs n,hs (n+1)]) (fun _ _ _ hk=>Gx hm hs n hk) _ _ _ h
theorem sM (hm:uW F) (hs: ∀ n,(upto F sz E n).sz=sz) {n m:Nat} (hnm:n≤m) {w x cs} (h:(upto F sz E n).K w x cs):(upto F sz E m).K w x cs:=by
 obtain ⟨j,rfl⟩:=Nat.exists_eq_add_of_le hnm
 induction j with
 | zero=>exact h
 | succ j ih=>exact Gx hm hs _ (ih (by omega))
theorem bounded {P:Nat→Nat→Prop} (hP: ∀ n m j,n≤m→P n j→P m j): ∀ m,(∀ j,j<m→ ∃ n,P n j)→ ∃ N,∀ j,j<m→P N j
 | 0,_=>⟨0,fun j hj=>absurd hj (Nat.not_lt_zero j)⟩
 | m+1,h=>by
  obtain ⟨N,hN⟩:=bounded hP m (fun j hj=>h j (by omega))
  obtain ⟨n,hn⟩:=h m (by omega)
  refine ⟨max N n,fun j hj=>?_⟩
  rcases Nat.lt_or_ge j m with hj' | hj'
  ·exact hP N _ j (Nat.le_max_left _ _) (hN j hj')
  ·have:j=m:=by omega
   subst this
   exact hP n _ j (Nat.le_max_right _ _) hn
theorem xC (hm:uW F) {w:World} {A:Option Addr} {m:Nat} {xs:List α} (h:(fix F sz E hs hE).C w A m xs): ∃ n,(upto F sz E n).C w A m xs:=by
 rcases Nat.eq_zero_or_pos m with hz | hpos
 ·subst hz
  exact ⟨0,h.1,h.2.1,fun hp=>absurd hp (Nat.lt_irrefl 0)⟩
 ·obtain ⟨ad,e,hc⟩:=h.2.2 hpos
  obtain ⟨N,hN⟩:=bounded (P:=fun n j=> ∀ p,xs[j]?=some p→ ∃ c,c.length=sz∧(upto F sz E n).K w p c∧ ∀ i u,c[i]?=some u→w.cell? (ad.add (j*sz+i))=some u)
   (fun n n' j hnm hp p hj=>by
    obtain ⟨c,h1,h2,h3⟩:=hp p hj
    exact ⟨c,h1,sM hm hs hnm h2,h3⟩) xs.length
   (fun j hj=>by
    obtain ⟨c,h1,⟨n,h2⟩,h3⟩:=hc j _ (List.getElem?_eq_getElem hj)
    refine ⟨n,fun p hp=>?_⟩
    rw [List.getElem?_eq_getElem hj] at hp
    injection hp with hp
    rw [←hp]
    exact ⟨c,h1,h2,h3⟩)
  refine ⟨N,h.1,h.2.1,fun _=>⟨ad,e,fun j p hj=>?_⟩⟩
  rw [hs N]
  exact hN j (List.getElem?_eq_some_iff.1 hj).1 p hj
theorem CF (hm:uW F) (hs: ∀ n,(upto F sz E n).sz=sz) {n m:Nat} (hnm:n≤m) {w:World} {A:Option Addr} {l:Nat} {xs:List α} (h:(upto F sz E n).C w A l xs):(upto F sz E m).C w A l xs:=Ke (by rw [hs n,hs m]) (fun _ _ _ hp=>sM hm hs hnm hp) h
end
end Kd
namespace Kd
theorem pX {α:Type} {d:Kd α} {e base:Nat} {ok:Nat→Prop} {W w1:World} {u v v1:Value} {xs:List α} (h:d.R e W base (fun k=>ok k∧some k≠v.ownBlock) u xs) (hg:W.grownBy w1 v.ownBlock) (hat:v1.ownBlock=v.ownBlock∨ ∃ b,v1.ownBlock=some b∧W.heap.size≤b):d.R e w1 base (fun k=>ok k∧some k≠v1.ownBlock) u xs:=by
 refine bq (qU (bL h) (fun k hk=>hg.block k hk.2.2.1 hk.1.2)) (fun k hk=>⟨hk.1.1,?_⟩)
 rcases hat with hat | ⟨b,hb,hle⟩
 ·rw [hat];exact hk.1.2
 ·rw [hb]
  intro he
  injection he with he
  have:=hk.2.2.1
  omega
end Kd
namespace Kd
section
variable {α β:Type} {d:Kd α} {d':Kd β} {e e':Nat} {w w1 W:World} {base b b':Nat} {ok ok' okv oku:Nat→Prop} {v u:Value} {xs:List α} {ys:List β}
theorem dL (h:d.R e w base ok v xs) (o:Obj):d.R e (w.alloc o) base ok v xs:=dU h (ai (Below.refl _ _) o)
theorem gF (h:d.R e w base ok v xs):d.R e w.drew base ok v xs:=dU h (aM (Below.refl _ _))
theorem ic (h:d.R e w base ok v xs) (m:Nat):d.R e (w.drewN m) base ok v xs:=dU h (au (Below.refl _ _) m)
theorem iL {A:Option Addr} {n:Nat} (h:d.C w A n xs) (o:Obj):d.C (w.alloc o) A n xs:=bO h (ai (Below.refl _ _) o)
theorem jF {A:Option Addr} {n:Nat} (h:d.C w A n xs):d.C w.drew A n xs:=bO h (aM (Below.refl _ _))
theorem iM {A:Option Addr} {n:Nat} (h:d.C w A n xs) (m:Nat):d.C (w.drewN m) A n xs:=bO h (au (Below.refl _ _) m)
theorem Mq (d:Kd α) (w:World):d.C w none ([]:List α).length []:=⟨rfl,by simp,fun h=>absurd h (Nat.lt_irrefl 0)⟩
theorem bM {A:Option Addr} {n c:Nat} (h:d.R e w base ok (.slice A n c) xs):n=xs.length∧n≤c∧d.C w A xs.length xs:=by
 obtain ⟨A',c',he,hl,hr⟩:=sU h
 injection he with h1 h2 h3
 subst h1
 exact ⟨h2,by omega,hr⟩
theorem qP (h:d.R e w base ok v xs): ∀ k,v.ownBlock=some k→k<w.heap.size:=by
 obtain ⟨inner,ho⟩:=Da h
 exact Gm ho
theorem iQ (h:d.R e w base ok v xs): ∀ k,v.ownBlock=some k→base≤k:=by
 obtain ⟨inner,ho⟩:=Da h
 exact kQ ho
theorem lX (h:d.R e w base ok v xs) (hp:0<xs.length): ∃ g cap,v= .slice (some ⟨g,0,none⟩) xs.length cap∧base≤g∧g<w.heap.size∧ ∃ cells,w.heap[g]?=some (.cells cells e (0,0)):=by
 obtain ⟨inner,ho⟩:=Da h
 obtain ⟨g,cap,he,hb,hl⟩:=ho.form hp
 obtain ⟨cells,hc⟩:=kR ho g (by rw [he];simp [Value.ownBlock])
 exact ⟨g,cap,he,hb,hl,cells,hc⟩
theorem Fw (h:d.R e W b ok u xs) (hv:d'.R e' W b' ok' v ys) (ht: ∀ q,q∈e::d.E→q≠e') (hg:W.grownBy w1 v.ownBlock):d.R e w1 b ok u xs:=by
 obtain ⟨inner,ho⟩:=Da hv
 refine bq (qU (bL h) (fun k hk=>hg.block k hk.2.2.1 (fun he=>?_))) (fun _ hk=>hk.1)
 obtain ⟨_,_,_,q,hq,cells,hc⟩:=hk
 obtain ⟨cells',hc'⟩:=kR ho k he.symm
 rw [hc] at hc'
 injection hc' with hc'
 injection hc' with _ hc'
 exact ht q hq hc'
end
section
variable {w W:World} {A:Option Addr} {n:Nat}
theorem kG {k:IntKind} {xs:List Int} (h:(Kd.int k).C w A n xs) (i:Int) (h0:0≤i) (h1:i<n): ∃ ad,A=some ad∧w.cell? (ad.add i.toNat)=some (.int k (rd xs i)):=
 eG.at_ (xW (enc:=Value.int k) (d:=(0:Int)) (h1:=fun _=>rfl) h) i h0 h1
variable {α:Type} {enc:α→Value} {h1: ∀ x,(enc x).oneCell'=true} {e base g cap:Nat} {ok:Nat→Prop} {xs:List α}
theorem Fu (d:α) (h:(scalar enc h1).R e W base ok (.slice (some ⟨g,0,none⟩) xs.length cap) xs) (i:Int) (h0:0≤i) (hi:i<xs.length):W.cell? ⟨g,i.toNat,none⟩=some (enc (JH d xs i))∧W.frozen? ⟨g,i.toNat,none⟩=false:=Bw (vS h) i h0 hi
theorem Ko (h:(scalar enc h1).R e W base ok (.slice (some ⟨g,0,none⟩) xs.length cap) xs) (i:Int) (x:α):(scalar enc h1).R e (W.setCell ⟨g,i.toNat,none⟩ (enc x)) base ok (.slice (some ⟨g,0,none⟩) xs.length cap) (xs.set i.toNat x)∧W.grownBy (W.setCell ⟨g,i.toNat,none⟩ (enc x)) (some g):=by
 obtain ⟨ho,hg⟩:=rR (vS h) i x
 exact ⟨vz (by rw [List.length_set];exact ho) h.1,hg⟩
end
section
variable {P:Program} {ops:Array Oper} {rest:List Oper} {o:Oper} {a:Act} {Q:Exit→Act→World→Prop}
theorem rC {W w1:World} {v:Value} (hgd:o.guard=none) (hrun:(execOp a.eval o).run P W= .ok (.value v) w1) (h:wpList P ops Q rest (a.put o.dst v) w1):wpList P ops Q (o::rest) a W:=by
 refine wpList_plain hgd fun K hK=>?_
 unfold Oper.wp
 rw [hrun]
 exact hK _ _ h
variable {α:Type}
theorem Km (d:Kd α) {w0 W:World} (base e:Nat) (hgd:o.guard=none) {N:Tmp} (_hd:o.dst=some N) {xs:List α} {inner:List Value} {ok okp:Nat→Prop}
  (hrun:(execOp a.eval o).run P W= .ok (.value (.slice (some ⟨W.heap.size,0,none⟩) xs.length xs.length)) (W.alloc (.cells inner.toArray e)))
  (hrep:eY (d.M W base okp) d.sz xs inner) (hok: ∀ k,okp k→ok k) (hfresh:ok W.heap.size) (HB:Below base w0 W) (hbase:base≤W.heap.size) (hm:xs.length≤9223372036854775807)
  (h: ∀ v1 w1,d.R e w1 base ok v1 xs→Below base w0 w1→W.grownBy w1 none→(∃ b,v1.ownBlock=some b∧W.heap.size≤b)→wpList P ops Q rest (a.put o.dst v1) w1):wpList P ops Q (o::rest) a W:=by
 refine rC hgd hrun (h _ _ ⟨fun k hk=>?_,inner,?_,?_⟩ (HB.alloc hbase _) (World.grownBy_alloc W _ none) ⟨W.heap.size,by simp [Value.ownBlock],Nat.le_refl _⟩)
 ·have:W.heap.size=k:=by simpa [Value.ownBlock] using hk
  subst this
  exact hfresh
 ·have h2:=World.ownsRow_lit (base:=base) (e:=e) (size:=d.sz) W inner.toArray xs.length hbase (by simpa [maxLen] using hm) (by simpa using hrep.1)
  simpa using h2
 ·refine hrep.nk (fun p c hp=>d.M_mono (fun k hk=>⟨hok k hk.1,fun he=>?_⟩) (yK (d.M_bound hp) (ai (Below.refl _ _) _)))
  have h3:k=W.heap.size:=by simpa [Value.ownBlock] using he
  have:=hk.2.2.1
  omega
theorem rX {α:Type} {R:α→List Value→Prop} {z:Value} {size:Nat} {z0:α} (hz:z.cells.size=size) (hs:0<size) (h0:R z0 z.cells.toList) (m:Nat):eY R size (List.replicate m z0) (madeCells z.cells (m*size)).toList:=by
 refine ⟨by simp [size_madeCells],fun j p hj=>?_⟩
 obtain ⟨hjl,hp⟩:=List.getElem?_eq_some_iff.1 hj
 have hjm:j<m:=by simpa using hjl
 have hp':z0=p:=by simpa using hp
 subst hp'
 have hle:j*size+size≤m*size:=by rw [←Nat.succ_mul];exact Nat.mul_le_mul_right _ hjm
 have:((madeCells z.cells (m*size)).toList.drop (j*size)).take size=z.cells.toList:=by
  apply List.ext_getElem
  ·simp [size_madeCells,hz]
   omega
  ·intro i h1 h2
   have hi:i<size:=by rw [Array.length_toList,hz] at h2;exact h2
   have hmod:(j*size+i) % size=i:=by
    rw [Nat.mul_comm,Nat.mul_add_mod]
    exact Nat.mod_eq_of_lt hi
   simp [madeCells,hz,hmod]
   rw [getElem!_pos z.cells i (by omega)]
 rw [this]
 exact h0
theorem Fv (d:Kd α) {w0 W:World} (base e:Nat) (hgd:o.guard=none) {N:Tmp} (hd:o.dst=some N) (t:TypeId) (x y:Operand) (ho:o.op= .makeSlice t x y) (n:Int) (hx:a.eval x= .int .i64 n) (hy:a.eval y= .int .i64 n)
  (ht:P.underlying t=some (.slice e)) (z:Value) (bytes:Nat) (hinfo:(P.info? e).map (fun i=>(i.zero,i.size,i.bytes))=some (some z,d.sz,bytes)) (hz:z.cells.size=d.sz) (hs0:0<d.sz) (hb0:0<bytes)
  (z0:α) {ok okp:Nat→Prop} (hzero:d.M W base okp z0 z.cells.toList) (hok: ∀ k,okp k→ok k) (hfresh:ok W.heap.size) (h0:0≤n) (hl:n.toNat*bytes≤281474976710656) (HB:Below base w0 W) (hbase:base≤W.heap.size)
  (h: ∀ v1 w1,d.R e w1 base ok v1 (List.replicate n.toNat z0)→Below base w0 w1→W.grownBy w1 none→(∃ b,v1.ownBlock=some b∧W.heap.size≤b)→wpList P ops Q rest (a.put o.dst v1) w1):wpList P ops Q (o::rest) a W:=by
 obtain ⟨m,rfl⟩:=Int.eq_ofNat_of_zero_le h0
 simp only [Int.toNat_natCast] at hl h
 obtain ⟨i0,hi,hzz⟩:=Option.map_eq_some_iff.1 hinfo
 simp only [Prod.mk.injEq] at hzz
 obtain ⟨hz0,hz1,hz2⟩:=hzz
 have hm:m≤281474976710656:=Nat.le_trans (Nat.le_mul_of_pos_right _ hb0) hl
 have hr:=run_make (P:=P) W t e i0 z ht hi hz0 .i64 .i64 (m:Int) (m:Int) (by omega) (by omega)
  (by
   have h3:((i0.bytes*m:Nat):Int)≤281474976710656:=by rw [hz2,Nat.mul_comm];omega
   rwa [Int.natCast_mul] at h3) (by omega)
 simp only [Int.toNat_natCast] at hr
 rw [hz1] at hr
 refine Km d base e hgd hd (xs:=List.replicate m z0) (inner:=(madeCells z.cells (m*d.sz)).toList) (okp:=okp) (ok:=ok) ?_ (rX hz hs0 hzero m) hok hfresh HB hbase (by simp;omega) h
 simp [execOp,ho,hx,hy,hr]
end
end Kd
section
variable {P:Program}
theorem DF (t e:TypeId) (kl:IntKind) {i:TypeInfo} (ht:P.underlying t=some (.slice e)) (hi:P.info? e=some i) (size:Nat) (hsz:i.size=size) (A:Option Addr) (n c:Nat) (j:Int) (h0:0≤j) (hm:j≤n):
  ∀ W:World,(Instr.slice t (.slice A n c) (some (.int kl j)) none none).run P W= .ok (.slice (if c=j.toNat then A else A.map (·.add (j.toNat*size))) (n - j.toNat) (c - j.toNat)) W:=by
 intro W
 have hel:P.elem t=e:=by simp [Program.elem,ht]
 have hu:P.underlying t=some (.slice (P.elem t)):=by rw [hel];exact ht
 rw [run_slice_l W t A n c hu kl j h0 hm,hel]
 simp [sizeOf,typeInfo,hi,hsz,sliced,Result.andThen]
end
def qO (w:World) (base:Nat) (e:TypeId) (size:Nat) (v:Value) (n:Nat) (xs:List Value):Prop:=
 xs.length=n*size∧
 ((n=0∧ ∃ A,v= .slice A 0 0∧ ∀ a,A=some a→base≤a.block∧ ∃ cur,w.heap[a.block]?=some (.cells cur e (0,0)))∨
  ∃ g off cap cur,v= .slice (some ⟨g,off*size,none⟩) n cap∧base≤g∧w.heap[g]?=some (.cells cur e (0,0))∧n≤cap∧off+cap≤maxLen∧cur.size=(off+cap)*size∧(cur.toList.drop (off*size)).take (n*size)=xs)
section
variable {w w1:World} {base n size:Nat} {e:TypeId} {v:Value} {xs:List Value}
theorem qw (h:w.ownsRow base e size v n xs):qO w base e size v n xs:=by
 obtain ⟨h1,h2⟩:=h
 refine ⟨h1,?_⟩
 rcases h2 with ⟨rfl,h0⟩ | ⟨g,cap,cur,rfl,hb,hh,hnc,hcm,hcs,ht⟩
 ·exact .inl ⟨h0,none,rfl,fun a ha=>by cases ha⟩
 ·exact .inr ⟨g,0,cap,cur,by rw [Nat.zero_mul],hb,hh,hnc,by rw [Nat.zero_add];exact hcm,by rw [Nat.zero_add];exact hcs,by rw [Nat.zero_mul,List.drop_zero];exact ht⟩
theorem Gq (h:qO w base e size v n xs) (hm: ∀ k,v.ownBlock=some k→w1.heap[k]?=w.heap[k]?):qO w1 base e size v n xs:=by
 obtain ⟨h1,h2⟩:=h
 refine ⟨h1,?_⟩
 rcases h2 with ⟨h0,A,rfl,hA⟩ | ⟨g,off,cap,cur,rfl,hg,hh,r⟩
 ·refine .inl ⟨h0,A,rfl,fun a ha=>?_⟩
  obtain ⟨hb,cur,hc⟩:=hA a ha
  subst ha
  exact ⟨hb,cur,(hm a.block (by simp [Value.ownBlock])).trans hc⟩
 ·exact .inr ⟨g,off,cap,cur,rfl,hg,(hm g (by simp [Value.ownBlock])).trans hh,r⟩
theorem qx (h:qO w base e size v n xs) (k:Nat) (hk:v.ownBlock=some k):base≤k∧ ∃ cells,w.heap[k]?=some (.cells cells e (0,0)):=by
 rcases h.2 with ⟨_,A,rfl,hA⟩ | ⟨g,off,cap,cur,rfl,hg,hh,r⟩
 ·cases A with
  | none=>simp [Value.ownBlock] at hk
  | some a=>
   have:a.block=k:=by simpa [Value.ownBlock] using hk
   subst this
   exact hA a rfl
 ·have:g=k:=by simpa [Value.ownBlock] using hk
  subst this
  exact ⟨hg,cur,hh⟩
theorem q_lt (h:qO w base e size v n xs) (k:Nat) (hk:v.ownBlock=some k):k<w.heap.size:=by
 obtain ⟨_,cells,hc⟩:=qx h k hk
 exact (Array.getElem?_eq_some_iff.1 hc).1
theorem IW {base':Nat} (h:qO w base e size v n xs) (hb:base'≤base):qO w base' e size v n xs:=by
 obtain ⟨h1,h2⟩:=h
 refine ⟨h1,?_⟩
 rcases h2 with ⟨h0,A,rfl,hA⟩ | ⟨g,off,cap,cur,rfl,hg,r⟩
 ·exact .inl ⟨h0,A,rfl,fun a ha=>⟨Nat.le_trans hb (hA a ha).1,(hA a ha).2⟩⟩
 ·exact .inr ⟨g,off,cap,cur,rfl,Nat.le_trans hb hg,r⟩
theorem BH (h:qO w base e size v n xs): ∃ A c,v= .slice A n c∧n≤c:=by
 rcases h.2 with ⟨h0,A,rfl,_⟩ | ⟨g,off,cap,cur,rfl,hg,hh,hnc,r⟩
 ·exact ⟨A,0,by rw [h0],by omega⟩
 ·exact ⟨_,cap,rfl,hnc⟩
theorem Nn (h:qO w base e size v n xs):n≤9223372036854775807:=by
 rcases h.2 with ⟨h0,_⟩ | ⟨g,off,cap,cur,rfl,hg,hh,hnc,hm,r⟩
 ·omega
 ·simp only [maxLen] at hm
  omega
theorem jf (g o j:Nat):(⟨g,o,none⟩:Addr).add j=⟨g,o+j,none⟩:=by unfold Addr.add;split<;>simp_all
theorem BG {A:Option Addr} {c:Nat} (h:qO w base e size (.slice A n c) n xs) (hn:0<n): ∃ ad,A=some ad∧ ∀ j u,xs[j]?=some u→w.cell? (ad.add j)=some u:=by
 rcases h.2 with ⟨h0,_⟩ | ⟨g,off,cap,cur,he,hg,hh,hnc,hm,hcs,ht⟩
 ·omega
 ·injection he with ha _ hc
  subst ha
  refine ⟨_,rfl,fun j u hu=>?_⟩
  rw [jf,cell_of_row w g _ cur e (0,0) hh]
  rw [←ht,List.getElem?_take] at hu
  split at hu
  ·rw [List.getElem?_drop] at hu
   rw [←Array.getElem?_toList]
   exact hu
  ·cases hu
theorem Lj {A:Option Addr} {c k:Nat} (h:qO w base e size (.slice A n c) n xs) (hk:k≤n):qO w base e size (.slice (if c=k then A else A.map (·.add (k*size))) (n - k) (c - k)) (n - k) (xs.drop (k*size)):=by
 obtain ⟨h1,h2⟩:=h
 refine ⟨by rw [List.length_drop,h1,Nat.sub_mul],?_⟩
 rcases h2 with ⟨h0,A',he,hA⟩ | ⟨g,off,cap,cur,he,hb,hh,hnc,hcm,hcs,ht⟩
 ·injection he with ha hb hc
  subst ha;subst hc
  have hk0:k=0:=by omega
  subst hk0
  exact .inl ⟨by omega,A,by rw [if_pos rfl,h0],hA⟩
 ·injection he with ha _ hc
  subst ha;subst hc
  by_cases hck:c=k
  ·rw [if_pos hck]
   refine .inl ⟨by omega,some ⟨g,off*size,none⟩,?_,fun a ha=>?_⟩
   ·rw [show n - k=0 by omega,show c - k=0 by omega]
   ·injection ha with ha
    subst ha
    exact ⟨hb,cur,hh⟩
  ·rw [if_neg hck]
   refine .inr ⟨g,off+k,c - k,cur,?_,hb,hh,by omega,by omega,by rw [hcs];congr 1;omega,?_⟩
   ·rw [Option.map_some,jf,Nat.add_mul]
   ·rw [←ht,List.drop_take,List.drop_drop,Nat.add_mul,Nat.sub_mul]
theorem aW {g:Nat}: ∀ (vs:List Value) (o:Nat) {w:World} (k:Nat),k≠g→(w.setCells g o vs).heap[k]?=w.heap[k]?
 | [],_,_,_,_=>rfl
 | v::r,o,w,k,hk=>by
  rw [World.setCells,aW r (o+1) k hk]
  exact Below.heap_setCell w ⟨g,o,none⟩ v k hk
theorem dM (g:Nat): ∀ (vs:List Value) (o:Nat) (w:World),(w.setCells g o vs).os=w.os∧(w.setCells g o vs).tape=w.tape∧(w.setCells g o vs).output=w.output∧(w.setCells g o vs).heap.size=w.heap.size
 | [],_,_=>⟨rfl,rfl,rfl,rfl⟩
 | v::r,o,w=>by
  obtain ⟨h1,h2,h3,h4⟩:=dM g r (o+1) (w.setCell ⟨g,o,none⟩ v)
  rw [World.setCells]
  exact ⟨h1,h2,h3,by rw [h4];simp [World.setCell]⟩
theorem iZ {g:Nat} {e:TypeId}: ∀ (vs:List Value) (o:Nat) (w:World) (cur:Array Value),w.heap[g]?=some (.cells cur e (0,0))→o+vs.length≤cur.size→
  ∃ cur',(w.setCells g o vs).heap[g]?=some (.cells cur' e (0,0))∧cur'.size=cur.size∧cur'.toList=cur.toList.take o++vs++cur.toList.drop (o+vs.length)
 | [],o,w,cur,h,_=>⟨cur,h,rfl,by simp⟩
 | v::r,o,w,cur,h,hl=>by
  have h2:=bH h o v
  simp only [List.length_cons] at hl
  obtain ⟨cur',h3,h4,h5⟩:=iZ r (o+1) (w.setCell ⟨g,o,none⟩ v) _ h2 (by simp;omega)
  refine ⟨cur',h3,by rw [h4];simp,?_⟩
  rw [h5,Array.toList_setIfInBounds]
  have ho:o<cur.toList.length:=by rw [Array.length_toList];omega
  rw [List.take_set,List.drop_set_of_lt (by omega)]
  simp only [List.length_cons]
  rw [show o+1+r.length=o+(r.length+1) by omega]
  congr 1
  rw [List.take_succ_eq_append_getElem ho,List.set_append_right _ _ (by rw [List.length_take];omega)]
  have ho':o<cur.size:=by omega
  simp [Nat.min_eq_left (Nat.le_of_lt ho')]
end
section
variable {P:Program}
theorem Ew (w:World) (base:Nat) (t ty e:TypeId) (i:TypeInfo) (z:Value) (size bytes:Nat) (ht:P.underlying t=some (.slice e)) (hi:P.info? e=some i) (hz:i.zero=some z)
  (hsize:i.size=size) (hby:i.bytes=bytes) (hzs:z.cells.size=size) (hsz:0<size)
  (v:Value) (n:Nat) (xs:List Value) (hown:qO w base e size v n xs)
  (a:Addr) (m c:Nat) (news:List Value) (hl:news.length=m*size) (hnews: ∀ j u,news[j]?=some u→w.cell? (a.add j)=some u) (h1: ∀ u∈news,u.oneCell'=true) (hm:0<m)
  (h63:n+m≤maxLen) (hbytes:(n+m)*bytes≤140737488355328) (hbase:base≤w.heap.size):
  ∃ v' w',(Builtin.append_ #[t,t] ty #[v,.slice (some a) m c]).run P w= .ok v' w'∧qO w' base e size v' (n+m) (xs++news)∧w.grownBy w' v.ownBlock∧(v'.ownBlock=v.ownBlock∨ ∃ b,v'.ownBlock=some b∧w.heap.size≤b):=by
 have grows: ∀ (b:Addr) (cap:Nat),cap<n+m→(∀ j u,xs[j]?=some u→w.cell? (b.add j)=some u)→v= .slice (some b) n cap→
   ∃ v' w',(Builtin.append_ #[t,t] ty #[v,.slice (some a) m c]).run P w= .ok v' w'∧qO w' base e size v' (n+m) (xs++news)∧w.grownBy w' v.ownBlock∧(v'.ownBlock=v.ownBlock∨ ∃ b,v'.ownBlock=some b∧w.heap.size≤b):=by
  intro b cap hcap hcells hv
  obtain ⟨v',w',hr,ho,hg⟩:=run_append_arg_grows (P:=P) (w:=w) t ty e i z size bytes ht hi hz hsize hby hzs hsz b n cap xs hown.1 hcells a m c news hl hnews hcap h63 hbytes
  refine ⟨v',w',by rw [hv];exact hr,IW (qw ho) hbase,⟨hg.os,hg.tape,hg.output,hg.size,fun k hk _=>hg.block k hk (by simp)⟩,?_⟩
  obtain ⟨g',cap',he,hb,_⟩:=ho.form (by omega)
  exact .inr ⟨g',by rw [he];simp [Value.ownBlock],hb⟩
 rcases hown.2 with ⟨h0,A,hv,hA⟩ | ⟨g,off,cap,cur,hv,hbg,hg,hnc,hcm,hcs,htake⟩
 ·cases A with
  | none=>
   subst h0
   have ho:w.ownsRow base e size v 0 xs:=⟨hown.1,.inl ⟨hv,rfl⟩⟩
   obtain ⟨v',w',hr,ho',hg,_,hat⟩:=run_append_own_at (P:=P) w base t ty e i z size bytes ht hi hz hsize hby hzs hsz v 0 xs ho a m c news hl hnews h1 h63 hbytes hbase
   refine ⟨v',w',hr,qw ho',hg,?_⟩
   rcases hat with hat | hat
   ·exact .inl hat
   ·exact .inr ⟨_,hat,Nat.le_refl _⟩
  | some b=>
   have hx:xs= []:=List.eq_nil_of_length_eq_zero (by rw [hown.1,h0,Nat.zero_mul])
   exact grows b 0 (by omega) (fun j u hu=>by rw [hx] at hu;simp at hu) (by rw [hv,h0])
 ·by_cases hroom:n+m≤cap
  ·have hfit:off*size+n*size+news.length≤cur.size:=by
    rw [hl,hcs,←Nat.add_mul,←Nat.add_mul]
    exact Nat.mul_le_mul_right _ (by omega)
   subst hsize
   have hr:=run_append_room_cells (P:=P) (w:=w) t ty e i ht hi g (off*i.size) n cap a m c news hl hnews h1 hroom
    (fun j hj=>by rw [cell_of_row w g _ cur e (0,0) hg];simp;omega) (fun j _=>ah hg _)
   obtain ⟨cur',h3,h4,h5⟩:=iZ news (off*i.size+n*i.size) w cur hg hfit
   obtain ⟨s1,s2,s3,s4⟩:=dM g news (off*i.size+n*i.size) w
   refine ⟨_,_,by rw [hv];exact hr,⟨by rw [List.length_append,hown.1,hl,Nat.add_mul],.inr ⟨g,off,cap,cur',rfl,hbg,h3,hroom,hcm,by rw [h4,hcs],?_⟩⟩,
    ⟨s1,s2,s3,by rw [s4];exact Nat.le_refl _,fun k _ hk=>aW news _ k (fun he=>hk (by rw [hv,he];simp [Value.ownBlock]))⟩,.inl (by rw [hv];rfl)⟩
   rw [h5,List.append_assoc,List.drop_append_of_le_length (by rw [List.length_take,Array.length_toList];omega),List.drop_take]
   rw [show off*i.size+n*i.size - off*i.size=n*i.size by omega,htake]
   rw [←List.append_assoc]
   exact List.take_left' (by rw [List.length_append,hown.1,hl,Nat.add_mul])
  ·refine grows ⟨g,off*size,none⟩ cap (by omega) (fun j u hu=>?_) hv
   rw [jf,cell_of_row w g _ cur e (0,0) hg]
   rw [←htake,List.getElem?_take] at hu
   split at hu
   ·rw [List.getElem?_drop] at hu
    rw [←Array.getElem?_toList]
    exact hu
   ·cases hu
end
namespace Kd
theorem BJ {α:Type} {R:α→List Value→Prop} {size m:Nat} {ps:List α} {cs:List Value} (h:eY R size ps cs):eY R size (ps.drop m) (cs.drop (m*size)):=by
 refine ⟨by rw [List.length_drop,List.length_drop,h.1,Nat.sub_mul],fun j p hj=>?_⟩
 rw [List.getElem?_drop] at hj
 have:=h.2 (m+j) p hj
 rw [List.drop_drop,←Nat.add_mul]
 exact this
def Q {α:Type} (d:Kd α) (e:Nat) (w:World) (base:Nat) (ok:Nat→Prop) (v:Value) (xs:List α):Prop:=
 (∀ k,v.ownBlock=some k→ok k)∧ ∃ inner,qO w base e d.sz v xs.length inner∧eY (d.M w base (fun k=>ok k∧some k≠v.ownBlock)) d.sz xs inner
section
variable {α:Type} {d:Kd α} {e:Nat} {w w1 W:World} {base:Nat} {ok ok':Nat→Prop} {v:Value} {xs:List α}
theorem Kk (h:d.R e w base ok v xs):d.Q e w base ok v xs:=by
 obtain ⟨h0,inner,ho,hr⟩:=h
 exact ⟨h0,inner,qw ho,hr⟩
theorem CY (d:Kd α) (e:Nat) (w:World) (base:Nat) (ok:Nat→Prop):d.Q e w base ok (.slice none 0 0) []:=Kk (fI d e w base ok)
theorem lV (h:d.Q e w base ok v xs) (hok: ∀ k,ok k→ok' k):d.Q e w base ok' v xs:=by
 obtain ⟨h0,inner,ho,hr⟩:=h
 exact ⟨fun k hk=>hok k (h0 k hk),inner,ho,hr.nk (fun _ _ hp=>d.M_mono (fun k hk=>⟨hok k hk.1,hk.2⟩) hp)⟩
theorem pV (h:d.Q e w base ok v xs):d.Q e w base (fun k=>ok k∧base≤k∧k<w.heap.size∧ ∃ q,q∈e::d.E∧ ∃ cells,w.heap[k]?=some (.cells cells q (0,0))) v xs:=by
 obtain ⟨h0,inner,ho,hr⟩:=h
 refine ⟨fun k hk=>?_,inner,ho,hr.nk (fun _ _ hp=>d.M_mono (fun k hk=>?_) (d.M_bound hp))⟩
 ·obtain ⟨hb,cells,hc⟩:=qx ho k hk
  exact ⟨h0 k hk,hb,q_lt ho k hk,e,List.mem_cons_self,cells,hc⟩
 ·obtain ⟨⟨h1,h2⟩,h3,h4,q,hq,hc⟩:=hk
  exact ⟨⟨h1,h3,h4,q,List.mem_cons_of_mem _ hq,hc⟩,h2⟩
theorem Kj (h:d.Q e w base ok v xs) (hm: ∀ k,ok k→w1.heap[k]?=w.heap[k]?):d.Q e w1 base ok v xs:=by
 obtain ⟨h0,inner,ho,hr⟩:=h
 exact ⟨h0,inner,Gq ho (fun k hk=>hm k (h0 k hk)),hr.nk (fun _ _ hp=>d.M_move (fun k hk=>hm k hk.1) hp)⟩
theorem jS (h:d.Q e w base ok v xs) (hm: ∀ k,ok k→k<w.heap.size→w1.heap[k]?=w.heap[k]?):d.Q e w1 base ok v xs:=lV (Kj (pV h) (fun k hk=>hm k hk.1 hk.2.2.1)) (fun _ hk=>hk.1)
theorem yQ (h:d.Q e w base ok v xs) (hb:Below w.heap.size w w1):d.Q e w1 base ok v xs:=jS h (fun k _ hk=>hb.block k hk)
theorem Hu (h:d.Q e w base ok v xs) (o:Obj):d.Q e (w.alloc o) base ok v xs:=yQ h (ai (Below.refl _ _) o)
theorem Ki (h:d.Q e w base ok v xs):d.Q e w.drew base ok v xs:=yQ h (aM (Below.refl _ _))
theorem pW (h:d.Q e w base ok v xs) {p:Addr} (hok: ∀ k,ok k→k≠p.block) (u:Value):d.Q e (w.setCell p u) base ok v xs:=jS h (fun k ho _=>Below.heap_setCell w p u k (hok k ho))
theorem jY (h:d.Q e w base ok v xs): ∃ A c,v= .slice A xs.length c∧xs.length≤c:=by
 obtain ⟨_,inner,ho,_⟩:=h
 exact BH ho
theorem jM {A:Option Addr} {n c:Nat} (h:d.Q e w base ok (.slice A n c) xs):n=xs.length∧n≤c∧d.C w A xs.length xs:=by
 obtain ⟨_,inner,ho,hr⟩:=h
 obtain ⟨A',c',he,hl⟩:=BH ho
 injection he with h1 h2 h3
 subst h1;subst h2;subst h3
 refine ⟨rfl,hl,rfl,Nn ho,fun hp=>?_⟩
 obtain ⟨ad,ha,hc⟩:=BG ho hp
 refine ⟨ad,ha,fun j p hj=>⟨(inner.drop (j*d.sz)).take d.sz,?_,d.K_of_M (hr.2 j p hj),fun i u hu=>?_⟩⟩
 ·have hjl:=(List.getElem?_eq_some_iff.1 hj).1
  have h1:j*d.sz+d.sz≤inner.length:=by rw [hr.1,←Nat.succ_mul];exact Nat.mul_le_mul_right _ hjl
  rw [List.length_take,List.length_drop]
  omega
 ·refine hc _ u ?_
  rw [List.getElem?_take] at hu
  split at hu
  ·rw [List.getElem?_drop] at hu
   exact hu
  ·cases hu
theorem Fs {A:Option Addr} {k n c:Nat} (h:d.Q e w base ok (.slice A n c) xs) (hk:k≤xs.length):d.Q e w base ok (.slice (if c=k then A else A.map (·.add (k*d.sz))) (n - k) (c - k)) (xs.drop k):=by
 have hn:n=xs.length:=(jM h).1
 subst hn
 obtain ⟨h0,inner,ho,hr⟩:=h
 have hb:(Value.slice (if c=k then A else A.map (·.add (k*d.sz))) (xs.length - k) (c - k)).ownBlock=(Value.slice A xs.length c).ownBlock:=by
  split
  ·cases A<;>rfl
  ·cases A with
   | none=>rfl
   | some a=>simp [Value.ownBlock];unfold Addr.add;split<;>rfl
 refine ⟨fun j hj=>h0 j (by rw [←hb];exact hj),inner.drop (k*d.sz),?_,?_⟩
 ·rw [List.length_drop]
  exact Lj ho hk
 ·rw [hb]
  exact BJ hr
theorem wE {okp:Nat→Prop} {v1:Value} {p:α} {inner cs:List Value} (h0: ∀ k,v.ownBlock=some k→ok k) (hr:eY (d.M W base (fun k=>ok k∧some k≠v.ownBlock)) d.sz xs inner) (hp:d.M W base okp p cs) (hokp: ∀ k,okp k→ok k∧some k≠v.ownBlock) (hfresh: ∀ k,W.heap.size≤k→ok k)
  (hown:qO w1 base e d.sz v1 (xs.length+1) (inner++cs)) (hg:W.grownBy w1 v.ownBlock) (hat:v1.ownBlock=v.ownBlock∨ ∃ b,v1.ownBlock=some b∧W.heap.size≤b):d.Q e w1 base ok v1 (xs++ [p]):=by
 have hne: ∀ k,some k≠v.ownBlock→k<W.heap.size→some k≠v1.ownBlock:=by
  intro k hk hlt
  rcases hat with hat | ⟨b,hb,hle⟩
  ·rw [hat];exact hk
  ·rw [hb]
   intro he
   injection he with he
   omega
 have step: ∀ {q:α} {c:List Value} {o:Nat→Prop},d.M W base o q c→(∀ k,o k→ok k∧some k≠v.ownBlock)→d.M w1 base (fun k=>ok k∧some k≠v1.ownBlock) q c:=by
  intro q c o hq ho
  have h1:=d.M_move (w1:=w1) (fun k hk=>hg.block k hk.2.2.1 (ho k hk.1).2) (d.M_bound hq)
  exact d.M_mono (fun k hk=>⟨(ho k hk.1).1,hne k (ho k hk.1).2 hk.2.2.1⟩) h1
 refine ⟨fun k hk=>?_,inner++cs,by rw [List.length_append,List.length_singleton];exact hown,?_⟩
 ·rcases hat with hat | ⟨b,hb,hle⟩
  ·exact h0 k (hat▸hk)
  ·rw [hb] at hk
   injection hk with hk
   exact hfresh k (by omega)
 ·exact (hr.nk (fun _ _ hq=>step hq (fun _ hk=>hk))).snoc (step hp hokp) (d.K_len (d.K_of_M hp))
end
section
variable {P:Program} {ops:Array Oper} {rest:List Oper} {o:Oper} {a:Act} {Q':Exit→Act→World→Prop} {Kc:Act→World→Prop} {α:Type}
theorem Mv (d:Kd α) {w0 W:World} (base:Nat) (t ty e:TypeId) (z:Value) (bytes:Nat)
  (ht:P.underlying t=some (.slice e)) (hinfo:(P.info? e).map (fun i=>(i.zero,i.size,i.bytes))=some (some z,d.sz,bytes)) (hz:z.cells.size=d.sz) (hs0:0<d.sz) (hb0:0<bytes)
  (v:Value) (xs:List α) (p:α) (cs:List Value) (ok okp:Nat→Prop) (hp:d.M W base okp p cs) (hokp: ∀ k,okp k→ok k∧some k≠v.ownBlock) (hfresh: ∀ k,W.heap.size≤k→ok k)
  (HO:d.Q e W base ok v xs) (HB:Below base w0 W) (hbase:base≤W.heap.size) (hl:(xs.length+1)*bytes≤140737488355328):
  ∃ v1 w1,(Builtin.append_ #[t,t] ty #[v,.slice (some ⟨W.heap.size,0,none⟩) 1 1]).run P (W.alloc (.cells cs.toArray e))= .ok v1 w1∧d.Q e w1 base ok v1 (xs++ [p])∧Below base w0 w1∧W.grownBy w1 v.ownBlock∧(v1.ownBlock=v.ownBlock∨ ∃ b,v1.ownBlock=some b∧W.heap.size≤b):=by
 obtain ⟨h0,inner,hown,hr⟩:=HO
 obtain ⟨i0,hi,hzz⟩:=Option.map_eq_some_iff.1 hinfo
 simp only [Prod.mk.injEq] at hzz
 obtain ⟨hz0,hz1,hz2⟩:=hzz
 have hlen:xs.length+1≤140737488355328:=Nat.le_trans (Nat.le_mul_of_pos_right _ hb0) hl
 have hcl:=d.K_len (d.K_of_M hp)
 have hq:qO (W.alloc (.cells cs.toArray e)) base e d.sz v xs.length inner:=Gq hown (fun k hk=>Below.heap_alloc W _ k (q_lt hown k hk))
 obtain ⟨v1,w1,hrun,hq1,hg1,hat⟩:=Ew (P:=P) (W.alloc (.cells cs.toArray e)) base t ty e i0 z d.sz bytes ht hi hz0 hz1 hz2 hz hs0 v xs.length inner hq ⟨W.heap.size,0,none⟩ 1 1 cs (by rw [hcl,Nat.one_mul])
  (by simpa using World.news_of_block (cs:=cs.toArray) (t:=e) (fr:=(0,0)) (heap_alloc_new W (.cells cs.toArray e))) (d.K_one (d.K_of_M hp)) (by omega) (by simp only [maxLen];omega) hl (by simp;omega)
 have hg:W.grownBy w1 v.ownBlock:=World.grownBy.trans (World.grownBy_alloc W _ _) hg1
 have hat':v1.ownBlock=v.ownBlock∨ ∃ b,v1.ownBlock=some b∧W.heap.size≤b:=by
  rcases hat with hat | ⟨b,hb,hle⟩
  ·exact .inl hat
  ·exact .inr ⟨b,hb,by rw [World.size_alloc] at hle;omega⟩
 exact ⟨v1,w1,hrun,wE h0 hr hp hokp hfresh hq1 hg hat',HB.grown hg hbase (fun k hk=>(qx hown k hk).1),hg,hat'⟩
theorem kE (d:Kd α) {w0 W:World} (base:Nat) (hw:Region.wanted o (yielded ops a.tmps)=true) (s x:Operand) (t e:TypeId) (z:Value) (bytes:Nat)
  (ho:o.op= .call { callee:= .builtin .append,args:= #[s,x],argTypes:= #[t,t] })
  (ht:P.underlying t=some (.slice e)) (hinfo:(P.info? e).map (fun i=>(i.zero,i.size,i.bytes))=some (some z,d.sz,bytes)) (hz:z.cells.size=d.sz) (hs0:0<d.sz) (hb0:0<bytes)
  (v:Value) (xs:List α) (p:α) (cs:List Value) (ok okp:Nat→Prop) (hs:a.eval s=v) (hx:a.eval x= .slice (some ⟨W.heap.size,0,none⟩) 1 1) (hp:d.M W base okp p cs) (hokp: ∀ k,okp k→ok k∧some k≠v.ownBlock) (hfresh: ∀ k,W.heap.size≤k→ok k)
  (HO:d.Q e W base ok v xs) (HB:Below base w0 W) (hbase:base≤W.heap.size) (hl:(xs.length+1)*bytes≤140737488355328)
  (h: ∀ v1 w1,d.Q e w1 base ok v1 (xs++ [p])→Below base w0 w1→W.grownBy w1 v.ownBlock→(v1.ownBlock=v.ownBlock∨ ∃ b,v1.ownBlock=some b∧W.heap.size≤b)→Kc (a.put o.dst v1) w1):
  if Region.wanted o (yielded ops a.tmps)=true then Oper.wp P o a (W.alloc (.cells cs.toArray e)) Kc Q' else Kc (a.put o.dst undef) (W.alloc (.cells cs.toArray e)):=by
 obtain ⟨v1,w1,hr,h1,h2,h3,h4⟩:=Mv (P:=P) d base t o.type e z bytes ht hinfo hz hs0 hb0 v xs p cs ok okp hp hokp hfresh HO HB hbase hl
 rw [if_pos hw]
 unfold Oper.wp execOp
 simp only [ho,resolve,invoke,builtin,Sem.run_bind,Sem.run_pure,Result.andThen_ok,List.map_toArray,List.map_cons,List.map_nil,hs,hx,hr]
 exact h v1 w1 h1 h2 h3 h4
end
end Kd
namespace Kd
section
variable {α:Type} {d:Kd α} {e e':Nat} {w w1 W:World} {base:Nat} {ok:Nat→Prop} {u v:Value} {xs:List α}
theorem CZ (hu:d.R e W base ok u xs) (hbase: ∀ k,v.ownBlock=some k→W.heap.size≤k) (hb:Below W.heap.size W w1):d.R e w1 base (fun k=>ok k∧some k≠v.ownBlock) u xs:=
 bq (qU (bL hu) (fun k hk=>hb.block k hk.2.2.1)) (fun k hk=>⟨hk.1,fun he=>by have:=hbase k he.symm;have:=hk.2.2.1;omega⟩)
theorem Kn (h:d.R e w1 W.heap.size ok v xs) (hlt: ∀ k,u.ownBlock=some k→k<W.heap.size):d.R e w1 W.heap.size (fun k=>ok k∧some k≠u.ownBlock) v xs:=
 bq (bL h) (fun k hk=>⟨hk.1,fun he=>by have:=hlt k he.symm;have:=hk.2.1;omega⟩)
theorem fresh' (hlt: ∀ k,u.ownBlock=some k→k<W.heap.size): ∀ k,W.heap.size≤k→some k≠u.ownBlock:=fun k hk he=>by have:=hlt k he.symm;omega
end
end Kd
theorem nZ {α:Type} (a seg:List α) (o:Nat) (h:o+seg.length≤a.length) (q:Nat):
  (a.take o++seg++a.drop (o+seg.length))[q]?=if q<o then a[q]? else if q<o+seg.length then seg[q - o]? else a[q]?:=by
 have hl:(a.take o).length=o:=by rw [List.length_take];omega
 rw [List.append_assoc]
 by_cases h1:q<o
 ·rw [if_pos h1,List.getElem?_append_left (by omega),List.getElem?_take,if_pos h1]
 ·rw [if_neg h1,List.getElem?_append_right (by omega),hl]
  by_cases h2:q<o+seg.length
  ·rw [if_pos h2,List.getElem?_append_left (by omega)]
  ·rw [if_neg h2,List.getElem?_append_right (by omega),List.getElem?_drop]
   congr 1
   omega
namespace Kd
section
variable {α:Type} {d:Kd α} {e base g n cap:Nat} {ok okp:Nat→Prop} {W:World} {xs:List α}
theorem lW (h:d.R e W base ok (.slice (some ⟨g,0,none⟩) n cap) xs) (z:α) (i:Int) (h0:0≤i) (h1:i<n):
  ∃ c,c.length=d.sz∧d.M W base (fun k=>ok k∧k≠g) (xs.getD i.toNat z) c∧(∀ j u,c[j]?=some u→W.cell? ⟨g,i.toNat*d.sz+j,none⟩=some u)∧ ∀ j,W.frozen? ⟨g,i.toNat*d.sz+j,none⟩=false:=by
 obtain ⟨hn,hnc,hC⟩:=bM h
 obtain ⟨_,inner,ho,hr⟩:=h
 have hil:i.toNat<xs.length:=by omega
 have hseg:i.toNat*d.sz+d.sz≤inner.length:=by rw [hr.1,←Nat.succ_mul];exact Nat.mul_le_mul_right _ hil
 have hM:=hr.2 i.toNat _ (List.getElem?_eq_getElem hil)
 refine ⟨(inner.drop (i.toNat*d.sz)).take d.sz,by rw [List.length_take,List.length_drop];omega,?_,fun j u hu=>?_,fun j=>?_⟩
 ·rw [List.getD_eq_getElem?_getD,List.getElem?_eq_getElem hil]
  exact d.M_mono (fun k hk=>⟨hk.1,fun he=>hk.2 (by rw [he];simp [Value.ownBlock])⟩) hM
 ·rw [List.getElem?_take] at hu
  split at hu
  ·rw [List.getElem?_drop] at hu
   have:=ho.cells (g:=g) (by simp [Value.ownBlock]) _ u hu
   rwa [add_plain] at this
  ·cases hu
 ·obtain ⟨cells,hc⟩:=kR ho g (by simp [Value.ownBlock])
  exact ah hc _
theorem yR (h:d.R e W base ok (.slice (some ⟨g,0,none⟩) n cap) xs) (i:Int) (h0:0≤i) (h1:i<n) {c seg:List Value} {j:Nat} (hcl:c.length=d.sz) (hcc: ∀ j u,c[j]?=some u→W.cell? ⟨g,i.toNat*d.sz+j,none⟩=some u)
  (hj:j+seg.length≤d.sz) {x':α} (hM:d.M W base okp x' (c.take j++seg++c.drop (j+seg.length))) (hokp: ∀ k,okp k→ok k∧k≠g):
  d.R e (W.setCells g (i.toNat*d.sz+j) seg) base ok (.slice (some ⟨g,0,none⟩) n cap) (xs.set i.toNat x')∧W.grownBy (W.setCells g (i.toNat*d.sz+j) seg) (some g):=by
 obtain ⟨hn,hnc,_⟩:=bM h
 obtain ⟨hok,inner,ho,hr⟩:=h
 have hil:i.toNat<xs.length:=by omega
 have hseg:i.toNat*d.sz+d.sz≤inner.length:=by rw [hr.1,←Nat.succ_mul];exact Nat.mul_le_mul_right _ hil
 have hin:inner.length=n*d.sz:=by rw [hr.1,hn]
 obtain ⟨ho1,ho2⟩:=ho
 rcases ho2 with ⟨hv,_⟩ | ⟨g',cap',cur,hv,hb,hh,hnc',hcm,hcs,ht⟩
 ·cases hv
 injection hv with ha _ hc
 injection ha with ha
 injection ha with hg
 subst hg;subst hc
 have hfit:i.toNat*d.sz+j+seg.length≤cur.size:=by
  have:n*d.sz≤cap*d.sz:=Nat.mul_le_mul_right _ hnc
  omega
 obtain ⟨cur',h3,h4,h5⟩:=iZ seg (i.toNat*d.sz+j) W cur hh hfit
 obtain ⟨s1,s2,s3,s4⟩:=dM g seg (i.toNat*d.sz+j) W
 have hfar: ∀ k,k≠g→(W.setCells g (i.toNat*d.sz+j) seg).heap[k]?=W.heap[k]?:=fun k hk=>aW seg _ k hk
 have hcin: ∀ q,q<d.sz→c[q]?=inner[i.toNat*d.sz+q]?:=by
  intro q hq
  have hq':q<c.length:=by omega
  have h6:=hcc q _ (List.getElem?_eq_getElem hq')
  rw [cell_of_row W g _ cur e (0,0) hh] at h6
  rw [List.getElem?_eq_getElem hq',←h6,←ht,List.getElem?_take,if_pos (by rw [←hn];omega),Array.getElem?_toList]
 refine ⟨⟨hok,inner.take (i.toNat*d.sz+j)++seg++inner.drop (i.toNat*d.sz+j+seg.length),⟨?_,.inr ⟨g,cap,cur',by rw [List.length_set,hn],hb,h3,by rw [List.length_set,←hn];exact hnc,hcm,by rw [h4,hcs],?_⟩⟩,?_⟩,
  ⟨s1,s2,s3,by rw [s4];exact Nat.le_refl _,fun k _ hk=>hfar k (fun he=>hk (by rw [he]))⟩⟩
 ·rw [List.length_set]
  simp only [List.length_append,List.length_take,List.length_drop]
  rw [hr.1] at hseg ⊢
  omega
 ·rw [List.length_set,←hn]
  apply List.ext_getElem?
  intro q
  rw [List.getElem?_take,h5]
  rw [nZ cur.toList seg (i.toNat*d.sz+j) (by rw [Array.length_toList];omega) q,nZ inner seg (i.toNat*d.sz+j) (by omega) q]
  have hcur: ∀ q,q<n*d.sz→cur.toList[q]?=inner[q]?:=by
   intro q hq
   rw [←ht,List.getElem?_take,if_pos (by rw [←hn];exact hq)]
  by_cases hq:q<n*d.sz
  ·rw [if_pos hq,hcur q hq]
  ·rw [if_neg hq,if_neg (by omega),if_neg (by omega),List.getElem?_eq_none (by omega)]
 ·refine ⟨?_,fun m p hm=>?_⟩
  ·rw [List.length_set]
   simp only [List.length_append,List.length_take,List.length_drop]
   rw [hr.1] at hseg ⊢
   omega
  ·have hml:m<xs.length:=by
    have:=(List.getElem?_eq_some_iff.1 hm).1
    rwa [List.length_set] at this
   have hmfit:m*d.sz+d.sz≤inner.length:=by rw [hr.1,←Nat.succ_mul];exact Nat.mul_le_mul_right _ hml
   have hgo:some g=(Value.slice (some ⟨g,0,none⟩) n cap).ownBlock:=by simp [Value.ownBlock]
   by_cases hmi:m=i.toNat
   ·subst hmi
    rw [List.getElem?_set_self (by omega)] at hm
    injection hm with hm
    subst hm
    have hcells:((inner.take (i.toNat*d.sz+j)++seg++inner.drop (i.toNat*d.sz+j+seg.length)).drop (i.toNat*d.sz)).take d.sz=c.take j++seg++c.drop (j+seg.length):=by
     apply List.ext_getElem?
     intro q
     rw [List.getElem?_take,List.getElem?_drop,nZ inner seg _ (by omega),nZ c seg j (by omega) q]
     by_cases hq:q<d.sz
     ·rw [if_pos hq,hcin q hq]
      by_cases hq1:q<j
      ·rw [if_pos (by omega),if_pos hq1]
      ·rw [if_neg (by omega),if_neg hq1]
       by_cases hq2:q<j+seg.length
       ·rw [if_pos (by omega),if_pos hq2]
        congr 1
        omega
       ·rw [if_neg (by omega),if_neg hq2]
     ·rw [if_neg hq,if_neg (by omega),if_neg (by omega),List.getElem?_eq_none (by omega)]
    rw [hcells]
    refine d.M_mono (fun k hk=>?_) (d.M_move (w1:=W.setCells g (i.toNat*d.sz+j) seg) (fun k hk=>hfar k (hokp k hk).2) hM)
    exact ⟨(hokp k hk).1,fun he=>(hokp k hk).2 (by rw [←hgo] at he;injection he)⟩
   ·rw [List.getElem?_set_ne (by omega)] at hm
    have hold:=hr.2 m p hm
    have hcells:((inner.take (i.toNat*d.sz+j)++seg++inner.drop (i.toNat*d.sz+j+seg.length)).drop (m*d.sz)).take d.sz=(inner.drop (m*d.sz)).take d.sz:=by
     apply List.ext_getElem?
     intro q
     rw [List.getElem?_take,List.getElem?_take,List.getElem?_drop,List.getElem?_drop,nZ inner seg _ (by omega)]
     by_cases hq:q<d.sz
     ·rw [if_pos hq,if_pos hq]
      rcases Nat.lt_or_gt_of_ne hmi with hlt | hgt
      ·have:m*d.sz+d.sz≤i.toNat*d.sz:=by rw [←Nat.succ_mul];exact Nat.mul_le_mul_right _ hlt
       rw [if_pos (by omega)]
      ·have:i.toNat*d.sz+d.sz≤m*d.sz:=by rw [←Nat.succ_mul];exact Nat.mul_le_mul_right _ hgt
       rw [if_neg (by omega),if_neg (by omega)]
     ·rw [if_neg hq,if_neg hq]
    rw [hcells]
    refine d.M_move (fun k hk=>hfar k (fun he=>hk.2 (by rw [he];exact hgo))) hold
end
end Kd
namespace Kd
end Kd
namespace Kd
theorem uO {α:Type} {R:α→List Value→Prop} {size:Nat} {ps qs:List α} {cs ds:List Value} (h:eY R size ps cs) (h':eY R size qs ds):eY R size (ps++qs) (cs++ds):=by
 refine ⟨by rw [List.length_append,List.length_append,h.1,h'.1,Nat.add_mul],fun j p hj=>?_⟩
 rcases Nat.lt_or_ge j ps.length with hlt | hge
 ·rw [List.getElem?_append_left hlt] at hj
  have hle:j*size+size≤cs.length:=by rw [h.1,←Nat.succ_mul];exact Nat.mul_le_mul_right _ hlt
  rw [List.drop_append_of_le_length (by omega),List.take_append_of_le_length (by rw [List.length_drop];omega)]
  exact h.2 j p hj
 ·rw [List.getElem?_append_right hge] at hj
  have h2:=h'.2 (j - ps.length) p hj
  have hle:ps.length*size≤j*size:=Nat.mul_le_mul_right _ hge
  rw [List.drop_append,List.drop_eq_nil_of_le (by rw [h.1];exact hle),List.nil_append,h.1,←Nat.sub_mul]
  exact h2
section
variable {P:Program} {ops:Array Oper} {rest:List Oper} {o:Oper} {a:Act} {Q:Exit→Act→World→Prop} {α:Type}
theorem fM (d:Kd α) {Rr:α→List Value→Prop} {w0 W:World} (base:Nat) (hgd:o.guard=none) (s x:Operand) (t e:TypeId) (z:Value) (bytes:Nat)
  (ho:o.op= .call { callee:= .builtin .append,args:= #[s,x],argTypes:= #[t,t] })
  (ht:P.underlying t=some (.slice e)) (hinfo:(P.info? e).map (fun i=>(i.zero,i.size,i.bytes))=some (some z,d.sz,bytes)) (hz:z.cells.size=d.sz) (hs0:0<d.sz) (hb0:0<bytes)
  (v:Value) (xs ys:List α) (A:Option Addr) (m c:Nat) (ok okp:Nat→Prop) (hs:a.eval s=v) (hx:a.eval x= .slice A m c)
  (HO:d.R e W base ok v xs) (HR:fF Rr d.sz W A m ys) (hKM: ∀ x cs,Rr x cs→d.M W base okp x cs) (hokp: ∀ k,okp k→ok k∧some k≠v.ownBlock) (hfresh: ∀ k,W.heap.size≤k→ok k)
  (HB:Below base w0 W) (hbase:base≤W.heap.size) (hl:(xs.length+m)*bytes≤140737488355328)
  (h: ∀ v1 w1,d.R e w1 base ok v1 (xs++ys)→Below base w0 w1→W.grownBy w1 v.ownBlock→(v1.ownBlock=v.ownBlock∨ ∃ b,v1.ownBlock=some b∧W.heap.size≤b)→wpList P ops Q rest (a.put o.dst v1) w1):
  wpList P ops Q (o::rest) a W:=by
 obtain ⟨i0,hi,hzz⟩:=Option.map_eq_some_iff.1 hinfo
 simp only [Prod.mk.injEq] at hzz
 obtain ⟨hz0,hz1,hz2⟩:=hzz
 have hm:ys.length=m:=HR.1
 have hlen:xs.length+m≤140737488355328:=Nat.le_trans (Nat.le_mul_of_pos_right _ hb0) hl
 obtain ⟨hok,inner,hown,hr⟩:=HO
 have hrun: ∃ v1 w1,(Builtin.append_ #[t,t] o.type #[v,.slice A m c]).run P W= .ok v1 w1∧d.R e w1 base ok v1 (xs++ys)∧W.grownBy w1 v.ownBlock∧(v1.ownBlock=v.ownBlock∨ ∃ b,v1.ownBlock=some b∧W.heap.size≤b):=by
  rcases A with _ | ad
  ·have h0:m=0:=by
    rcases Nat.eq_zero_or_pos m with h0 | h0
    ·exact h0
    ·obtain ⟨ad,h,_⟩:=HR.2.2 h0
     cases h
   subst h0
   obtain rfl:ys= []:=List.eq_nil_of_length_eq_zero hm
   refine ⟨v,W,?_,by rw [List.append_nil];exact ⟨hok,inner,hown,hr⟩,World.grownBy.refl W _,.inl rfl⟩
   rcases hown.2 with ⟨rfl,hn⟩ | ⟨g,cap,cur,rfl,_,_,hnc,_⟩
   ·simp [Builtin.append_,run_underlying ht,sizeOf,typeInfo,hi,Builtin.lenOf,Builtin.firstCells]
   ·simp [Builtin.append_,run_underlying ht,sizeOf,typeInfo,hi,Builtin.lenOf,Builtin.firstCells,hnc,storeCells]
  ·obtain ⟨news,hnr,hnc⟩:=fF.Lc HR
   have hnM:eY (d.M W base okp) d.sz ys news:=hnr.nk (fun p c hp=>hKM p c hp)
   have hone: ∀ u∈news,u.oneCell'=true:=by
    intro u hu
    obtain ⟨q,hq,rfl⟩:=List.mem_iff_getElem.1 hu
    have hql:q / d.sz<ys.length:=by
     rw [Nat.div_lt_iff_lt_mul hs0]
     rw [←hnM.1]
     exact hq
    have hc:=hnM.2 (q / d.sz) _ (List.getElem?_eq_getElem hql)
    refine d.K_one (d.K_of_M hc) _ ?_
    rw [List.mem_iff_getElem?]
    refine ⟨q % d.sz,?_⟩
    rw [List.getElem?_take,if_pos (Nat.mod_lt _ hs0),List.getElem?_drop,Nat.mul_comm,Nat.div_add_mod,List.getElem?_eq_getElem hq]
   obtain ⟨v1,w1,hrun,h2,hg,_,hat⟩:=run_append_own_at (P:=P) W base t o.type e i0 z d.sz bytes ht hi hz0 hz1 hz2 hz hs0 v xs.length inner hown ad m c news (by rw [hnM.1,hm]) hnc hone (by simp only [maxLen];omega) hl hbase
   have hat':v1.ownBlock=v.ownBlock∨ ∃ b,v1.ownBlock=some b∧W.heap.size≤b:=by
    rcases hat with hat | hat
    ·exact .inl hat
    ·exact .inr ⟨_,hat,Nat.le_refl _⟩
   have hne: ∀ k,some k≠v.ownBlock→k<W.heap.size→some k≠v1.ownBlock:=by
    intro k hk hlt
    rcases hat' with hat | ⟨b,hb,hle⟩
    ·rw [hat];exact hk
    ·rw [hb]
     intro he
     injection he with he
     omega
   have step: ∀ {q:α} {c:List Value} {o:Nat→Prop},d.M W base o q c→(∀ k,o k→ok k∧some k≠v.ownBlock)→d.M w1 base (fun k=>ok k∧some k≠v1.ownBlock) q c:=by
    intro q c o hq ho
    have h1:=d.M_move (w1:=w1) (fun k hk=>hg.block k hk.2.2.1 (ho k hk.1).2) (d.M_bound hq)
    exact d.M_mono (fun k hk=>⟨(ho k hk.1).1,hne k (ho k hk.1).2 hk.2.2.1⟩) h1
   refine ⟨v1,w1,hrun,⟨fun k hk=>?_,inner++news,by rw [List.length_append,hm];exact h2,uO (hr.nk (fun _ _ hq=>step hq (fun _ hk=>hk))) (hnM.nk (fun _ _ hq=>step hq hokp))⟩,hg,hat'⟩
   rcases hat' with hat | ⟨b,hb,hle⟩
   ·exact hok k (hat▸hk)
   ·rw [hb] at hk
    injection hk with hk
    exact hfresh k (by omega)
 obtain ⟨v1,w1,hr1,h1,hg,hat⟩:=hrun
 refine wpList_plain hgd fun K hK=>?_
 unfold Oper.wp execOp
 simp only [ho,resolve,invoke,builtin,Sem.run_bind,Sem.run_pure,Result.andThen_ok,List.map_toArray,List.map_cons,List.map_nil,hs,hx,hr1]
 exact hK _ _ (h v1 w1 h1 (HB.grown hg hbase (kQ hown)) hg hat)
end
end Kd
theorem qz {P:Program} {w:World} {g o:Nat} {e:TypeId} {cur:Array Value} (t:TypeId) (u:Value) (seg:List Value) (hh:w.heap[g]?=some (.cells cur e (0,0))) (hu:u.cells.toList=seg) (ht:(P.info? t).map (·.size)=some seg.length)
  (hfit:o+seg.length≤cur.size) (h1: ∀ q∈seg,q.oneCell'=true):(Instr.storeAt t (.pointer (some ⟨g,o,none⟩)) u).run P w= .ok () (w.setCells g o seg):=by
 obtain ⟨i,hi,hsz⟩:=Option.map_eq_some_iff.1 ht
 have hc:u.cells.size=i.size:=by rw [hsz,←hu,Array.length_toList]
 have hst:=run_storeCells_cells (P:=P) g o seg 0 w (fun j hj=>by rw [cell_of_row w g _ cur e (0,0) hh];simp;omega) (fun j _=>ah hh _) h1
 simp only [Nat.add_zero] at hst
 simp [Instr.storeAt,Instr.sureAddr,storeVar,sizeOf,typeInfo,hi,hc,hu,hst]
theorem KZ {P:Program} {ops:Array Oper} {rest:List Oper} {o:Oper} {a:Act} {Q:Exit→Act→World→Prop} {W:World} (op:Op) (_ho:o.op=op) (h:wpList P ops Q (o::rest) a W):wpList P ops Q (o::rest) a W:=h
namespace Kd
end Kd
namespace Kd
end Kd
theorem bB {w W:World} (h:Below w.heap.size w W):w.heap.size≤W.heap.size:=h.size
theorem dJ {w W w2:World} (h:Below w.heap.size w W) (k:Below W.heap.size W w2):Below w.heap.size w w2:=aY h h.size k
theorem dY.nil (W:World) (k:IntKind):dY W k none ([]:List Int).length []:=⟨rfl,by simp,fun h=>absurd h (Nat.lt_irrefl 0)⟩
theorem dY.drewN {W:World} {k:IntKind} {A:Option Addr} {n:Nat} {xs:List Int} (h:dY W k A n xs) (m:Nat):dY (W.drewN m) k A n xs:=h
theorem aN {w W:World} {g j:Nat} {v:Value} (h:Below w.heap.size w W) (hg:w.heap.size≤g):Below w.heap.size w (W.setCell ⟨g,j,none⟩ v):=h.setCell hg _
theorem rG {w W:World} {g:Nat} (h:eF w W g none) {a:Addr} {v:Value} (hc:w.cell? a=some v) (hne:a.block≠g):W.cell? a=some v:=by
 have:=h.2 a.block (World.block_lt_of_cell? w a hc) hne (by simp)
 simpa [World.cell?,this] using hc
theorem add_block (a:Addr) (i:Nat):(a.add i).block=a.block:=by unfold Addr.add;split<;>rfl
theorem eG.nil {α:Type} (enc:α→Value) (d:α) (W:World):eG enc d W none ([]:List α).length []:=⟨rfl,by simp,fun h=>absurd h (Nat.lt_irrefl 0)⟩
theorem eG.drewN {α:Type} {enc:α→Value} {d:α} {W:World} {A:Option Addr} {n:Nat} {xs:List α} (h:eG enc d W A n xs) (m:Nat):eG enc d (W.drewN m) A n xs:=h
theorem dY.keep {w W:World} {k:IntKind} {A:Option Addr} {n g:Nat} {xs:List Int} (h:dY w k A n xs) (hk:eF w W g none) (hf: ∀ ad,A=some ad→0<n→ad.block≠g):dY W k A n xs:=
 ⟨h.1,h.2.1,fun hn=>by
  obtain ⟨ad,e,hc⟩:=h.2.2 hn
  exact ⟨ad,e,fun j hj=>rG hk (hc j hj) (by rw [add_block];exact hf ad e hn)⟩⟩
theorem eG.keep {α:Type} {enc:α→Value} {d:α} {w W:World} {A:Option Addr} {n g:Nat} {xs:List α} (h:eG enc d w A n xs) (hk:eF w W g none) (hf: ∀ ad,A=some ad→0<n→ad.block≠g):eG enc d W A n xs:=
 ⟨h.1,h.2.1,fun hn=>by
  obtain ⟨ad,e,hc⟩:=h.2.2 hn
  exact ⟨ad,e,fun j hj=>rG hk (hc j hj) (by rw [add_block];exact hf ad e hn)⟩⟩
theorem cell_far {W:World} {p a:Addr} (h:a.block≠p.block) (u:Value):(W.setCell p u).cell? a=W.cell? a:=by
 have:=Below.heap_setCell W p u a.block h
 simp [World.cell?,this]
theorem eH {w:World} {g:Nat} {t:TypeId} {cs cs':Array Value} (h:w.heap[g]?=some (.cells cs t (0,0))) (i:Nat) (u:Value) (e:cs.setIfInBounds i u=cs'):(w.setCell ⟨g,i,none⟩ u).heap[g]?=some (.cells cs' t (0,0)):=e▸bH h i u
theorem aA {base:Nat} {w W:World} (h:Below base w W):Below base w W.drew:=h.drew
namespace Kd
end Kd
namespace Kd
section
variable {α:Type} {d:Kd α} {e base g:Nat} {ok:Nat→Prop} {w w1:World} {v:Value} {xs:List α} {o:Obj}
theorem Gh (hb:w.heap[g]?=some o): ∀ k,w.heap.size≤k→k≠g:=fun k hk=>by have:=bD hb;omega
end
end Kd
section
variable {P:Program} {ops:Array Oper} {rest:List Oper} {o:Oper} {a:Act} {Q:Exit→Act→World→Prop}
theorem eZ {W:World} (hgd:o.guard=none) {N:Tmp} (_hd:o.dst=some N) {cs:Array Value} {t:TypeId}
  (hrun:(execOp a.eval o).run P W= .ok (.value (.pointer (some ⟨W.heap.size,0,none⟩))) (W.alloc (.cells cs t (0,0))))
  (h: ∀ g,g=W.heap.size→ ∀ w1,w1.heap[g]?=some (.cells cs t (0,0))→Below W.heap.size W w1→wpList P ops Q rest (a.put o.dst (.pointer (some ⟨g,0,none⟩))) w1):wpList P ops Q (o::rest) a W:=
 Kd.rC hgd hrun (h _ rfl _ (bU W _) (ai (Below.refl _ _) _))
end
namespace Kd
section
variable {α:Type} {enc:α→Value} {h1: ∀ x,(enc x).oneCell'=true} {e base g n cap:Nat} {ok:Nat→Prop} {W:World} {xs:List α}
theorem Hw (d:α) (h:(scalar enc h1).R e W base ok (.slice (some ⟨g,0,none⟩) n cap) xs) (i:Int) (h0:0≤i) (hi:i<n):W.cell? ⟨g,i.toNat,none⟩=some (enc (JH d xs i))∧W.frozen? ⟨g,i.toNat,none⟩=false:=by
 obtain ⟨rfl,_⟩:=bM h
 exact Fu d h i h0 hi
theorem Kq (h:(scalar enc h1).R e W base ok (.slice (some ⟨g,0,none⟩) n cap) xs) (i:Int) (x:α):(scalar enc h1).R e (W.setCell ⟨g,i.toNat,none⟩ (enc x)) base ok (.slice (some ⟨g,0,none⟩) n cap) (xs.set i.toNat x):=by
 obtain ⟨rfl,_⟩:=bM h
 exact (Ko h i x).1
end
end Kd
namespace Kd
end Kd
section
variable {P:Program} {ops:Array Oper} {rest:List Oper} {o:Oper} {a:Act} {Q:Exit→Act→World→Prop} {W:World}
theorem fH {N:Tmp} (_hN:o.dst=some N) (h:wpList P ops Q (o::rest) a W):wpList P ops Q (o::rest) a W:=h
end
section
variable {P:Program} {ops:Array Oper} {o:Oper} {a:Act} {Q:Exit→Act→World→Prop} {Kc:Act→World→Prop}
theorem oZ {W w1:World} {v:Value} (hw:Region.wanted o (yielded ops a.tmps)=true) (hrun:(execOp a.eval o).run P W= .ok (.value v) w1) (h:Kc (a.put o.dst v) w1):if Region.wanted o (yielded ops a.tmps)=true then Oper.wp P o a W Kc Q else Kc (a.put o.dst undef) W:=by
 rw [if_pos hw]
 unfold Oper.wp
 rw [hrun]
 exact h
theorem Dy {W:World} (hw:Region.wanted o (yielded ops a.tmps)=true) {N:Tmp} (_hd:o.dst=some N) {cs:Array Value} {t:TypeId}
  (hrun:(execOp a.eval o).run P W= .ok (.value (.pointer (some ⟨W.heap.size,0,none⟩))) (W.alloc (.cells cs t (0,0))))
  (h: ∀ g,g=W.heap.size→ ∀ w1,w1.heap[g]?=some (.cells cs t (0,0))→Below W.heap.size W w1→Kc (a.put o.dst (.pointer (some ⟨g,0,none⟩))) w1):if Region.wanted o (yielded ops a.tmps)=true then Oper.wp P o a W Kc Q else Kc (a.put o.dst undef) W:=
 oZ hw hrun (h _ rfl _ (bU W _) (ai (Below.refl _ _) _))
namespace Kd
variable {α:Type}
theorem oQ (d:Kd α) {w0 W:World} (base e:Nat) (hw:Region.wanted o (yielded ops a.tmps)=true) {N:Tmp} (_hd:o.dst=some N) {xs:List α} {inner:List Value} {ok okp:Nat→Prop}
  (hrun:(execOp a.eval o).run P W= .ok (.value (.slice (some ⟨W.heap.size,0,none⟩) xs.length xs.length)) (W.alloc (.cells inner.toArray e)))
  (hrep:eY (d.M W base okp) d.sz xs inner) (hok: ∀ k,okp k→ok k) (hfresh:ok W.heap.size) (HB:Below base w0 W) (hbase:base≤W.heap.size) (hm:xs.length≤9223372036854775807)
  (h: ∀ v1 w1,d.R e w1 base ok v1 xs→Below base w0 w1→W.grownBy w1 none→(∃ b,v1.ownBlock=some b∧W.heap.size≤b)→Kc (a.put o.dst v1) w1):if Region.wanted o (yielded ops a.tmps)=true then Oper.wp P o a W Kc Q else Kc (a.put o.dst undef) W:=by
 refine oZ hw hrun (h _ _ ⟨fun k hk=>?_,inner,?_,?_⟩ (HB.alloc hbase _) (World.grownBy_alloc W _ none) ⟨W.heap.size,by simp [Value.ownBlock],Nat.le_refl _⟩)
 ·have:W.heap.size=k:=by simpa [Value.ownBlock] using hk
  subst this
  exact hfresh
 ·have h2:=World.ownsRow_lit (base:=base) (e:=e) (size:=d.sz) W inner.toArray xs.length hbase (by simpa [maxLen] using hm) (by simpa using hrep.1)
  simpa using h2
 ·refine hrep.nk (fun p c hp=>d.M_mono (fun k hk=>⟨hok k hk.1,fun he=>?_⟩) (yK (d.M_bound hp) (ai (Below.refl _ _) _)))
  have h3:k=W.heap.size:=by simpa [Value.ownBlock] using he
  have:=hk.2.2.1
  omega
theorem dB (d:Kd α) {w0 W:World} (base e:Nat) (hw:Region.wanted o (yielded ops a.tmps)=true) {N:Tmp} (hd:o.dst=some N) (t:TypeId) (x y:Operand) (ho:o.op= .makeSlice t x y) (n:Int) (hx:a.eval x= .int .i64 n) (hy:a.eval y= .int .i64 n)
  (ht:P.underlying t=some (.slice e)) (z:Value) (bytes:Nat) (hinfo:(P.info? e).map (fun i=>(i.zero,i.size,i.bytes))=some (some z,d.sz,bytes)) (hz:z.cells.size=d.sz) (hs0:0<d.sz) (hb0:0<bytes)
  (z0:α) {ok okp:Nat→Prop} (hzero:d.M W base okp z0 z.cells.toList) (hok: ∀ k,okp k→ok k) (hfresh:ok W.heap.size) (h0:0≤n) (hl:n.toNat*bytes≤281474976710656) (HB:Below base w0 W) (hbase:base≤W.heap.size)
  (h: ∀ v1 w1,d.R e w1 base ok v1 (List.replicate n.toNat z0)→Below base w0 w1→W.grownBy w1 none→(∃ b,v1.ownBlock=some b∧W.heap.size≤b)→Kc (a.put o.dst v1) w1):if Region.wanted o (yielded ops a.tmps)=true then Oper.wp P o a W Kc Q else Kc (a.put o.dst undef) W:=by
 obtain ⟨m,rfl⟩:=Int.eq_ofNat_of_zero_le h0
 simp only [Int.toNat_natCast] at hl h
 obtain ⟨i0,hi,hzz⟩:=Option.map_eq_some_iff.1 hinfo
 simp only [Prod.mk.injEq] at hzz
 obtain ⟨hz0,hz1,hz2⟩:=hzz
 have hm:m≤281474976710656:=Nat.le_trans (Nat.le_mul_of_pos_right _ hb0) hl
 have hr:=run_make (P:=P) W t e i0 z ht hi hz0 .i64 .i64 (m:Int) (m:Int) (by omega) (by omega)
  (by
   have h3:((i0.bytes*m:Nat):Int)≤281474976710656:=by rw [hz2,Nat.mul_comm];omega
   rwa [Int.natCast_mul] at h3) (by omega)
 simp only [Int.toNat_natCast] at hr
 rw [hz1] at hr
 refine oQ d base e hw hd (xs:=List.replicate m z0) (inner:=(madeCells z.cells (m*d.sz)).toList) (okp:=okp) (ok:=ok) ?_ (rX hz hs0 hzero m) hok hfresh HB hbase (by simp;omega) h
 simp [execOp,ho,hx,hy,hr]
end Kd
end
inductive Ic (P:Program) (tmps:Array Value) (w:World):List ResultVar→List Value→Prop where
 | nil:Ic P tmps w [] []
 | tmp {u:Tmp} {rs:List ResultVar} {vs:List Value} (h:Ic P tmps w rs vs):Ic P tmps w (.tmp u::rs) (tmps.getD u undef::vs)
 | cell {p:Tmp} {ty:TypeId} {rs:List ResultVar} {vs:List Value} (g:Nat) (t:TypeId) (cs:Array Value) (fr:Nat × Nat) (d:TypeDesc)
   (hp:tmps.getD p undef= .pointer (some ⟨g,0,none⟩)) (hg:w.heap[g]?=some (.cells cs t fr))
   (hu:P.underlying ty=some d) (hd:(match d with | .struct _ | .array _ _=>true | _=>false)=true) (hi:(P.info? ty).map (·.size)=some cs.size)
   (h:Ic P tmps w rs vs):Ic P tmps w (.cell p ty::rs) (.agg cs::vs)
section
variable {P:Program} {tmps:Array Value} {w:World}
theorem Ff {rs:List ResultVar} {vs:List Value} (hv:Ic P tmps w rs vs) (f:ResultVar→Sem Value) (hf: ∀ u,f (.tmp u)=pure (tmps.getD u undef)) (hc: ∀ a t,f (.cell a t)=(do loadVar t (←asAddr (tmps.getD a undef)))):
  (rs.mapM f).run P w= .ok vs w:=by
 induction hv with
 | nil=>simp
 | tmp h ih=>simp [List.mapM_cons,hf,ih]
 | cell g t cs fr d hp hg hu hd hi h ih=>
  rw [List.mapM_cons,hc,hp]
  simp [asAddr,run_loadVar_row w g t _ cs fr d hg hu hd hi,ih]
theorem dW {fn:Func} {rs:List ResultVar} {vs:List Value} (h:fn.results=rs.toArray) (hl:vs.length≠1) (hv:Ic P tmps w rs vs):(results fn tmps).run P w= .ok (.tuple vs.toArray) w:=by
 unfold results
 rw [h,List.mapM_toArray]
 simp only [Sem.run_bind,Sem.run_map]
 rw [Ff hv]
 ·simp [hl]
 ·intro u
  rfl
 ·intro a t
  rfl
end
namespace Kd
end Kd
end Go.Proofs.YtmnjjdeaccgjlaaGreatW.PrintWords
namespace Go.Proofs.YtmnjjdeaccgjlaaGreatW.PrintLast
section
variable {P:Program} {ops:Array Oper} {Q:Exit→Act→World→Prop} {md:Region.Mode} {S:World→Prop} {ds:List Nat}
def Region.jC (md:Region.Mode) (ops:Array Oper) (i:Nat):Nat→Nat→Bool
 | 0,_=>false
 | fuel+1,d=>match ops[d]? with
  | some o=>o.after.any fun e=>Region.binds md e && (e.on == i || Region.jC md ops i fuel e.on)
  | none=>false
def Region.mV (md:Region.Mode) (ops:Array Oper) (listed:Array Bool):Bool:=
 (List.range ops.size).all fun j=> !listed.getD j false || match ops[j]? with
  | some o=>o.after.all fun e=> !Region.binds md e || listed.getD e.on false
  | none=>true
def Region.lastB (md:Region.Mode) (ops:Array Oper) (listed:Array Bool) (ds:List Nat) (i:Nat):Bool:=
 ds.all fun d=>listed.getD d true || Region.jC md ops i ops.size d
def fJ (md:Region.Mode) (ops:Array Oper) (listed:Array Bool):Prop:=
 ∀ j oj,ops[j]?=some oj→listed.getD j false=true→ ∀ e∈oj.after,Region.binds md e=true→listed.getD e.on false=true
theorem Region.ru {listed:Array Bool} (h:Region.mV md ops listed=true):fJ md ops listed:=by
 intro j oj hj hl e he hb
 have hlt:j<ops.size:=(Array.getElem?_eq_some_iff.1 hj).1
 have h1:=List.all_eq_true.1 h j (List.mem_range.2 hlt)
 simp only [hl,hj,Bool.not_true,Bool.false_or] at h1
 have h2:=Array.all_eq_true_iff_forall_mem.1 h1 e he
 simpa [hb] using h2
theorem fJ.set {listed:Array Bool} {i:Nat} (h:fJ md ops listed) (hi:i∈Region.ready md ops listed):fJ md ops (listed.setIfInBounds i true):=by
 obtain ⟨_,oi,hoi,hall⟩:=mem_ready.1 hi
 intro j oj hj hl e he hb
 by_cases hij:i=j
 ·subst hij
  have:oj=oi:=Option.some.inj (hj.symm.trans hoi)
  subst this
  exact getD_set_true (hall e he hb)
 ·rw [getD_set_ne false hij] at hl
  exact getD_set_true (h j oj hj hl e he hb)
theorem Region.mg {listed:Array Bool} {i:Nat} (hc:fJ md ops listed): ∀ (fuel d:Nat),Region.jC md ops i fuel d=true→listed.getD d false=true→listed.getD i false=true
 | 0,_,h,_=>by simp [Region.jC] at h
 | fuel+1,d,h,hl=>by
  unfold Region.jC at h
  cases ho:ops[d]? with
  | none=>rw [ho] at h;simp at h
  | some o=>
   rw [ho] at h
   obtain ⟨e,he,h1⟩:=Array.any_eq_true'.1 h
   simp only [Bool.and_eq_true,Bool.or_eq_true,beq_iff_eq] at h1
   have hle:=hc d o ho hl e he h1.1
   rcases h1.2 with h2 | h2
   ·rw [←h2];exact hle
   ·exact Region.mg hc fuel e.on h2 hle
theorem Region.nV {listed:Array Bool} {i d fuel:Nat} (hc:fJ md ops listed) (hr:Region.jC md ops i fuel d=true) (hun:listed.getD i true=false):d∉Region.ready md ops listed:=by
 intro hd
 obtain ⟨_,o,ho,hall⟩:=mem_ready.1 hd
 have hi:listed.getD i false=true:=by
  cases fuel with
  | zero=>simp [Region.jC] at hr
  | succ n=>
   unfold Region.jC at hr
   rw [ho] at hr
   obtain ⟨e,he,h1⟩:=Array.any_eq_true'.1 hr
   simp only [Bool.and_eq_true,Bool.or_eq_true,beq_iff_eq] at h1
   have hle:=hall e he h1.1
   rcases h1.2 with h2 | h2
   ·rw [←h2];exact hle
   ·exact Region.mg hc n e.on h2 hle
 rcases Nat.lt_or_ge i listed.size with h' | h'
 ·simp [h'] at hun hi
  rw [hun] at hi
  cases hi
 ·simp [Array.getElem?_eq_none h'] at hun
def aV (P:Program) (md:Region.Mode) (ops:Array Oper) (Q:Exit→Act→World→Prop) (S:World→Prop) (ds:List Nat):Nat→Array Bool→Act→World→Prop
 | 0,listed,a,w=>Region.ready md ops listed= []∧Q .normal a w
 | fuel+1,listed,a,w=>
  (Region.ready md ops listed= []→Q .normal a w)∧
  ∀ i∈Region.ready md ops listed,wpOp P ops Q i (fun a' w'=>(i∉ds→S w→S w')∧aV P md ops Q S ds fuel (listed.setIfInBounds i true) a' w') a w
theorem kW: ∀ (fuel:Nat) (listed:Array Bool) (a:Act) (w:World),aV P md ops Q S ds fuel listed a w→wpAny P md ops Q fuel listed a w
 | 0,_,_,_,h=>h
 | fuel+1,_,_,_,h=>⟨h.1,fun i hi=>wpOp_mono (fun a' w' h'=>kW fuel _ a' w' h'.2) (h.2 i hi)⟩
theorem oq {i:Nat} {oi:Oper} {v:Value} (hi:ops[i]?=some oi) (hsel: ∀ (j:Nat) (o:Oper) cs b,ops[j]?=some o→o.op≠ .select cs b)
  (hQ: ∀ c a w,Q (.panic c) (a.put oi.dst v) w→Q (.panic c) a w) (n:Nat):
  ∀ (fuel:Nat) (listed:Array Bool) (a:Act) (w:World),
   (∀ j oj,ops[j]?=some oj→j≠i→listed.getD j true=false→(∀ e∈oj.after,Region.binds md e=true→e.on≠i)→oi.apart ops oj=true)→
   fJ md ops listed→(∀ d∈ds,listed.getD d true=false→Region.jC md ops i n d=true)→
   i∈Region.ready md ops listed→YieldsIf P ops S oi v a→S w→
   aV P md ops Q S ds fuel (listed.setIfInBounds i true) (a.put oi.dst v) w→aV P md ops Q S ds (fuel+1) listed a w:=by
 intro fuel
 induction fuel with
 | zero=>
  intro listed a w _ _ _ hr hy hS H
  refine ⟨fun h=>(by rw [h] at hr;cases hr),fun j hj=>?_⟩
  by_cases hji:j=i
  ·subst hji;exact hy.wpOp hi hS ⟨fun _ h=>h,H⟩
  ·have:=ready_mono hj hji
   rw [H.1] at this
   cases this
 | succ fuel ih=>
  intro listed a w hfree hc hd hr hy hS H
  refine ⟨fun h=>(by rw [h] at hr;cases hr),fun j hj=>?_⟩
  by_cases hji:j=i
  ·subst hji;exact hy.wpOp hi hS ⟨fun _ h=>h,H⟩
  ·have h1:=H.2 j (ready_mono hj hji)
   obtain ⟨hjun,oj,hoj,hall⟩:=mem_ready.1 hj
   have hiun:=(mem_ready.1 hr).1
   have hnot: ∀ e∈oj.after,Region.binds md e=true→e.on≠i:=fun e he hb heq=>by
    have h1:=hall e he hb
    rw [heq] at h1
    rcases Nat.lt_or_ge i listed.size with h' | h'
    ·simp [h'] at hiun h1;rw [hiun] at h1;cases h1
    ·simp [Array.getElem?_eq_none h'] at h1
   have hjd:j∉ds:=fun hm=>Region.nV hc (hd j hm hjun) hiun hj
   have h2:=wpOp_putIf hoj (hfree j oj hoj hji hjun hnot) (fun cs b=>hsel i oi cs b hi) (fun cs b=>hsel j oj cs b hoj) hQ hy h1
   have hfree': ∀ k ok,ops[k]?=some ok→k≠i→(listed.setIfInBounds j true).getD k true=false→
     (∀ e∈ok.after,Region.binds md e=true→e.on≠i)→oi.apart ops ok=true:=fun k ok hk hki hun hno=>by
    refine hfree k ok hk hki ?_ hno
    by_cases hjk:j=k
    ·subst hjk;exact hjun
    ·rw [getD_set_ne true hjk] at hun;exact hun
   have hd': ∀ d∈ds,(listed.setIfInBounds j true).getD d true=false→Region.jC md ops i n d=true:=fun d hm hun=>by
    refine hd d hm ?_
    by_cases hjk:j=d
    ·subst hjk;exact hjun
    ·rw [getD_set_ne true hjk] at hun;exact hun
   refine wpOp_mono (fun a' w' h3=>⟨h3.2.1,ih (listed.setIfInBounds j true) a' w' hfree' (hc.set hj) hd' (ready_mono hr (Ne.symm hji)) h3.1 (h3.2.1 hjd hS) ?_⟩) h2
   rw [Array.setIfInBounds_comm _ _ hji]
   exact h3.2.2
theorem qN {i:Nat} {oi:Oper} {v:Value} (hi:ops[i]?=some oi) (hsel: ∀ (j:Nat) (o:Oper) cs b,ops[j]?=some o→o.op≠ .select cs b)
  (hQ: ∀ c a w,Q (.panic c) (a.put oi.dst v) w→Q (.panic c) a w):
  ∀ (fuel:Nat) (listed:Array Bool) (a:Act) (w:World),
   (∀ j oj,ops[j]?=some oj→j≠i→listed.getD j true=false→(∀ e∈oj.after,Region.binds md e=true→e.on≠i)→oi.apart ops oj=true)→
   i∈Region.ready md ops listed→Yields P ops oi v a→
   aV P md ops Q S ds fuel (listed.setIfInBounds i true) (a.put oi.dst v) w→aV P md ops Q S ds (fuel+1) listed a w:=by
 intro fuel
 induction fuel with
 | zero=>
  intro listed a w _ hr hy H
  refine ⟨fun h=>(by rw [h] at hr;cases hr),fun j hj=>?_⟩
  by_cases hji:j=i
  ·subst hji;exact (hy.yieldsIf (S:=fun _=>True)).wpOp hi trivial ⟨fun _ h=>h,H⟩
  ·have:=ready_mono hj hji
   rw [H.1] at this
   cases this
 | succ fuel ih=>
  intro listed a w hfree hr hy H
  refine ⟨fun h=>(by rw [h] at hr;cases hr),fun j hj=>?_⟩
  by_cases hji:j=i
  ·subst hji;exact (hy.yieldsIf (S:=fun _=>True)).wpOp hi trivial ⟨fun _ h=>h,H⟩
  ·have h1:=H.2 j (ready_mono hj hji)
   obtain ⟨hjun,oj,hoj,hall⟩:=mem_ready.1 hj
   have hiun:=(mem_ready.1 hr).1
   have hnot: ∀ e∈oj.after,Region.binds md e=true→e.on≠i:=fun e he hb heq=>by
    have h1:=hall e he hb
    rw [heq] at h1
    rcases Nat.lt_or_ge i listed.size with h' | h'
    ·simp [h'] at hiun h1;rw [hiun] at h1;cases h1
    ·simp [Array.getElem?_eq_none h'] at h1
   have h2:=wpOp_put hoj (hfree j oj hoj hji hjun hnot) (fun cs b=>hsel i oi cs b hi) (fun cs b=>hsel j oj cs b hoj) hQ hy h1
   have hfree': ∀ k ok,ops[k]?=some ok→k≠i→(listed.setIfInBounds j true).getD k true=false→
     (∀ e∈ok.after,Region.binds md e=true→e.on≠i)→oi.apart ops ok=true:=fun k ok hk hki hun hno=>by
    refine hfree k ok hk hki ?_ hno
    by_cases hjk:j=k
    ·subst hjk;exact hjun
    ·rw [getD_set_ne true hjk] at hun;exact hun
   refine wpOp_mono (fun a' w' h3=>⟨h3.2.1,ih (listed.setIfInBounds j true) a' w' hfree' (ready_mono hr (Ne.symm hji)) h3.1 ?_⟩) h2
   rw [Array.setIfInBounds_comm _ _ hji]
   exact h3.2.2
theorem oM {i:Nat} {oi:Oper} {v:Value} {fuel:Nat} {listed:Array Bool} {a:Act} {w:World} (hi:ops[i]?=some oi)
  (hs:Region.noSelect ops=true) (hf:Region.free md ops listed i=true) (hr:(Region.ready md ops listed).contains i=true)
  (hc:Region.mV md ops listed=true) (hl:Region.lastB md ops listed ds i=true)
  (hQ: ∀ c a w,Q (.panic c) (a.put oi.dst v) w→Q (.panic c) a w) (hy:YieldsIf P ops S oi v a) (hS:S w)
  (h:aV P md ops Q S ds fuel (listed.setIfInBounds i true) (a.put oi.dst v) w):aV P md ops Q S ds (fuel+1) listed a w:=
 oq hi (Region.noSelect_spec hs) hQ ops.size fuel listed a w (Region.free_spec hi hf) (Region.ru hc)
  (fun d hm hun=>by have:=List.all_eq_true.1 hl d hm;rw [hun] at this;simpa using this) (by simpa using hr) hy hS h
theorem qM {rs:List Nat} {fuel:Nat} {listed:Array Bool} {a:Act} {w:World} (hr:Region.ready md ops listed=rs) (hne:rs≠ [])
  (h: ∀ i∈rs,wpOp P ops Q i (fun a' w'=>(i∉ds→S w→S w')∧aV P md ops Q S ds fuel (listed.setIfInBounds i true) a' w') a w):aV P md ops Q S ds (fuel+1) listed a w:=
 ⟨fun h0=>absurd (hr▸h0) hne,hr▸h⟩
theorem oL {listed:Array Bool} {a:Act} {w:World} (hr:Region.ready md ops listed= []) (h:Q .normal a w):
  ∀ fuel,aV P md ops Q S ds fuel listed a w
 | 0=>⟨hr,h⟩
 | _+1=>⟨fun _=>h,by rw [hr];simp⟩
theorem oN {id:Nat} {a:Act} {w:World} (hm:P.follows .mixedOrders=true)
  (h:aV P .any ops Q S ds ops.size (Array.replicate ops.size false) a { w with drawn:=w.drawn+1 }):(Code.region id ops true).wp P Q a w:=
 wp_region_any hm (kW _ _ _ _ h)
end
section
variable {P:Program} {ops:Array Oper} {Q:Exit→Act→World→Prop} {md:Region.Mode} {S:World→Prop} {ds:List Nat}
def bR (P:Program) (md:Region.Mode) (ops:Array Oper) (Q:Exit→Act→World→Prop) (S:World→Prop) (ds:List Nat) (fuel:Nat) (listed:Array Bool) (a:Act) (w:World) (rs:List Nat):Prop:=
 ∀ i∈rs,wpOp P ops Q i (fun a' w'=>(i∉ds→S w→S w')∧aV P md ops Q S ds fuel (listed.setIfInBounds i true) a' w') a w
theorem bR.nil {fuel:Nat} {listed:Array Bool} {a:Act} {w:World}:bR P md ops Q S ds fuel listed a w []:=fun _ h=>by cases h
theorem bR.cons {fuel:Nat} {listed:Array Bool} {a:Act} {w:World} {i:Nat} {o:Oper} {rs:List Nat} (ho:ops[i]?=some o) (hd:i∉ds)
  (h: ∀ K':Act→World→Prop,Shut (∀ a w,S w→(S w→aV P md ops Q S ds fuel (listed.setIfInBounds i true) a w)→K' a w)→if Region.wanted o (yielded ops a.tmps)=true then Oper.wp P o a w K' Q else K' (a.put o.dst undef) w)
  (hs:bR P md ops Q S ds fuel listed a w rs):bR P md ops Q S ds fuel listed a w (i::rs):=fun j hj=>by
 rcases List.mem_cons.1 hj with rfl | hj
 ·exact wpOp_step ho (fun K' hK=>h K' (fun a w hS hW=>hK a w ⟨fun _ _=>hS,hW hS⟩))
 ·exact hs j hj
theorem bR.Aq {fuel:Nat} {listed:Array Bool} {a:Act} {w:World} {i:Nat} {o:Oper} {rs:List Nat} (ho:ops[i]?=some o) (hd:i∈ds)
  (h: ∀ K':Act→World→Prop,Shut (∀ a w,aV P md ops Q S ds fuel (listed.setIfInBounds i true) a w→K' a w)→if Region.wanted o (yielded ops a.tmps)=true then Oper.wp P o a w K' Q else K' (a.put o.dst undef) w)
  (hs:bR P md ops Q S ds fuel listed a w rs):bR P md ops Q S ds fuel listed a w (i::rs):=fun j hj=>by
 rcases List.mem_cons.1 hj with rfl | hj
 ·exact wpOp_step ho (fun K' hK=>h K' (fun a w hW=>hK a w ⟨fun hn=>absurd hd hn,hW⟩))
 ·exact hs j hj
theorem fe {rs:List Nat} {fuel:Nat} {listed:Array Bool} {a:Act} {w:World} (hr:Region.ready md ops listed=rs) (hne:rs≠ [])
  (h:bR P md ops Q S ds fuel listed a w rs):aV P md ops Q S ds (fuel+1) listed a w:=qM hr hne h
theorem jL {id n:Nat} {a:Act} {w:World} (l:Array Bool) (hm:P.follows .mixedOrders=true) (hn:ops.size=n) (hl:Array.replicate n false=l) (hS:S w.drew)
  (h:S w.drew→aV P .any ops Q S ds n l a w.drew):(Code.region id ops true).wp P Q a w:=by
 subst hn
 subst hl
 exact oN hm (h hS)
def takeB (md:Region.Mode) (ops:Array Oper) (ds:List Nat) (l l':Array Bool) (i:Nat):Bool:=
 Region.noSelect ops && Region.free md ops l i && (Region.ready md ops l).contains i && Region.mV md ops l && Region.lastB md ops l ds i && (l.setIfInBounds i true == l')
theorem fw {i:Nat} {N:Option Tmp} {oi:Oper} {v:Value} {fuel:Nat} {l:Array Bool} {a:Act} {w:World} (l':Array Bool) (hi:ops[i]?=some oi) (hN:oi.dst=N) (hc:takeB md ops ds l l' i=true)
  (hQ: ∀ c a w,Q (.panic c) (a.put oi.dst v) w→Q (.panic c) a w) (hy:YieldsIf P ops S oi v a) (hS:S w) {a':Act} (ha:a.put N v=a')
  (h:aV P md ops Q S ds fuel l' a' w):aV P md ops Q S ds (fuel+1) l a w:=by
 subst ha
 subst hN
 simp only [takeB,Bool.and_eq_true,beq_iff_eq] at hc
 obtain ⟨⟨⟨⟨⟨h1,h2⟩,h3⟩,h4⟩,h5⟩,h6⟩:=hc
 subst h6
 exact oM hi h1 h2 h3 h4 h5 hQ hy hS h
def LK (md:Region.Mode) (ops:Array Oper) (l l':Array Bool) (i:Nat):Bool:=
 Region.noSelect ops && Region.free md ops l i && (Region.ready md ops l).contains i && (l.setIfInBounds i true == l')
theorem bS {i:Nat} {N:Option Tmp} {oi:Oper} {v:Value} {fuel:Nat} {l:Array Bool} {a:Act} {w:World} (l':Array Bool) (hi:ops[i]?=some oi) (hN:oi.dst=N) (hc:LK md ops l l' i=true)
  (hQ: ∀ c a w,Q (.panic c) (a.put oi.dst v) w→Q (.panic c) a w) (hy:Yields P ops oi v a) {a':Act} (ha:a.put N v=a')
  (h:aV P md ops Q S ds fuel l' a' w):aV P md ops Q S ds (fuel+1) l a w:=by
 subst ha
 subst hN
 simp only [LK,Bool.and_eq_true,beq_iff_eq] at hc
 obtain ⟨⟨⟨h1,h2⟩,h3⟩,h6⟩:=hc
 subst h6
 exact qN hi (Region.noSelect_spec h1) hQ fuel l a w (Region.free_spec hi h2) (by simpa using h3) hy h
def mh (md:Region.Mode) (ops:Array Oper) (l l':Array Bool) (i:Nat):Bool:=(Region.ready md ops l == [i]) && (l.setIfInBounds i true == l')
theorem nS {i:Nat} {N:Option Tmp} {oi:Oper} {fuel:Nat} {l:Array Bool} {a:Act} {w:World} (l':Array Bool) (hi:ops[i]?=some oi) (hN:oi.dst=N) (hc:mh md ops l l' i=true) (hd:i∉ds)
  (h: ∀ K:Act→World→Prop,Shut (∀ a' w',S w'→(S w'→aV P md ops Q S ds fuel l' a' w')→K a' w')→if Region.wanted oi (yielded ops a.tmps)=true then Oper.wp P oi a w K Q else K (a.put N undef) w):
  aV P md ops Q S ds (fuel+1) l a w:=by
 subst hN
 simp only [mh,Bool.and_eq_true,beq_iff_eq] at hc
 obtain ⟨h1,h2⟩:=hc
 subst h2
 exact fe h1 (by simp) (bR.cons hi hd (fun K hK=>h K hK) bR.nil)
theorem jI {i:Nat} {N:Option Tmp} {oi:Oper} {fuel:Nat} {l:Array Bool} {a:Act} {w:World} (l':Array Bool) (hi:ops[i]?=some oi) (hN:oi.dst=N) (hc:mh md ops l l' i=true) (hd:i∈ds)
  (h: ∀ K:Act→World→Prop,Shut (∀ a' w',aV P md ops Q S ds fuel l' a' w'→K a' w')→if Region.wanted oi (yielded ops a.tmps)=true then Oper.wp P oi a w K Q else K (a.put N undef) w):
  aV P md ops Q S ds (fuel+1) l a w:=by
 subst hN
 simp only [mh,Bool.and_eq_true,beq_iff_eq] at hc
 obtain ⟨h1,h2⟩:=hc
 subst h2
 exact fe h1 (by simp) (bR.Aq hi hd (fun K hK=>h K hK) bR.nil)
theorem dD {l:Array Bool} {a:Act} {w:World} {n:Nat} (hr:(Region.ready md ops l == [])=true) (h:Q .normal a w):aV P md ops Q S ds n l a w:=oL (by simpa using hr) h n
theorem NA {i j:Nat} {Ni Nj:Option Tmp} {oi oj:Oper} {fuel:Nat} {l:Array Bool} {a:Act} {w:World} (li lj:Array Bool) (hi:ops[i]?=some oi) (hj:ops[j]?=some oj) (hNi:oi.dst=Ni) (hNj:oj.dst=Nj)
  (hc:(Region.ready md ops l == [i,j] && l.setIfInBounds i true == li && l.setIfInBounds j true == lj)=true) (hdi:i∉ds) (hdj:j∉ds)
  (h1: ∀ K:Act→World→Prop,Shut (∀ a' w',S w'→(S w'→aV P md ops Q S ds fuel li a' w')→K a' w')→if Region.wanted oi (yielded ops a.tmps)=true then Oper.wp P oi a w K Q else K (a.put Ni undef) w)
  (h2: ∀ K:Act→World→Prop,Shut (∀ a' w',S w'→(S w'→aV P md ops Q S ds fuel lj a' w')→K a' w')→if Region.wanted oj (yielded ops a.tmps)=true then Oper.wp P oj a w K Q else K (a.put Nj undef) w):
  aV P md ops Q S ds (fuel+1) l a w:=by
 subst hNi
 subst hNj
 simp only [Bool.and_eq_true,beq_iff_eq] at hc
 obtain ⟨⟨h3,h4⟩,h5⟩:=hc
 subst h4
 subst h5
 exact fe h3 (by simp) (bR.cons hi hdi (fun K hK=>h1 K hK) (bR.cons hj hdj (fun K hK=>h2 K hK) bR.nil))
theorem LD {i j k:Nat} {Ni Nj Nk:Option Tmp} {oi oj ok:Oper} {fuel:Nat} {l:Array Bool} {a:Act} {w:World} (li lj lk:Array Bool) (hi:ops[i]?=some oi) (hj:ops[j]?=some oj) (hk:ops[k]?=some ok) (hNi:oi.dst=Ni) (hNj:oj.dst=Nj) (hNk:ok.dst=Nk)
  (hc:(Region.ready md ops l == [i,j,k] && l.setIfInBounds i true == li && l.setIfInBounds j true == lj && l.setIfInBounds k true == lk)=true) (hdi:i∉ds) (hdj:j∉ds) (hdk:k∉ds)
  (h1: ∀ K:Act→World→Prop,Shut (∀ a' w',S w'→(S w'→aV P md ops Q S ds fuel li a' w')→K a' w')→if Region.wanted oi (yielded ops a.tmps)=true then Oper.wp P oi a w K Q else K (a.put Ni undef) w)
  (h2: ∀ K:Act→World→Prop,Shut (∀ a' w',S w'→(S w'→aV P md ops Q S ds fuel lj a' w')→K a' w')→if Region.wanted oj (yielded ops a.tmps)=true then Oper.wp P oj a w K Q else K (a.put Nj undef) w)
  (h3: ∀ K:Act→World→Prop,Shut (∀ a' w',S w'→(S w'→aV P md ops Q S ds fuel lk a' w')→K a' w')→if Region.wanted ok (yielded ops a.tmps)=true then Oper.wp P ok a w K Q else K (a.put Nk undef) w):
  aV P md ops Q S ds (fuel+1) l a w:=by
 subst hNi
 subst hNj
 subst hNk
 simp only [Bool.and_eq_true,beq_iff_eq] at hc
 obtain ⟨⟨⟨h4,h5⟩,h6⟩,h7⟩:=hc
 subst h5
 subst h6
 subst h7
 exact fe h4 (by simp) (bR.cons hi hdi (fun K hK=>h1 K hK) (bR.cons hj hdj (fun K hK=>h2 K hK) (bR.cons hk hdk (fun K hK=>h3 K hK) bR.nil)))
theorem bK {fuel:Nat} {l:Array Bool} {a a':Act} {w:World} (ha:a=a') (h:aV P md ops Q S ds fuel l a' w):aV P md ops Q S ds fuel l a w:=by
 subst ha
 exact h
theorem call_ {oi:Oper} {N:Option Tmp} {a:Act} {w:World} {K:Act→World→Prop} (f:FuncId) (args:Array Value) (hw:Region.wanted oi (yielded ops a.tmps)=true) (hN:oi.dst=N) (hrun:(execOp a.eval oi).run P w= .ok (.enter f args) w)
  (h:Calls P f args w fun e w'=> ∃ v,e= .returned v∧K (a.put N v) w'):if Region.wanted oi (yielded ops a.tmps)=true then Oper.wp P oi a w K Q else K (a.put N undef) w:=by
 rw [if_pos hw]
 subst hN
 unfold Oper.wp
 rw [hrun,Oper.upon_enter]
 refine h.mono fun e w'' hh=>?_
 obtain ⟨v,rfl,hk⟩:=hh
 exact hk
theorem tV {f:FuncId} {fn:Func} (hf:P.funcs[f]?=some fn) (hname:(fn.name == "runtime.NumGoroutine")=false) (hb:fn.body.isSome=true) (args:Array Value) (w:World):(callFunc f args).run P w= .ok (.enter f args) w:=by
 have h1:fn.name≠ "runtime.NumGoroutine" :=by simpa using hname
 obtain ⟨c,hc⟩:=Option.isSome_iff_exists.1 hb
 simp [callFunc,hf,h1,hc]
theorem La {oi:Oper} {N:Option Tmp} {a:Act} {w:World} {K:Act→World→Prop} {f:FuncId} {fn:Func} {as_:Array Operand} {ts:Array TypeId} (hf:P.funcs[f]?=some fn) (hname:(fn.name == "runtime.NumGoroutine")=false) (hb:fn.body.isSome=true) (args:Array Value)
  (hw:Region.wanted oi (yielded ops a.tmps)=true) (hN:oi.dst=N) (hop:oi.op= .call { callee:= .value (.func f),args:=as_,argTypes:=ts }) (hargs:as_.map a.eval=args)
  (h:Calls P f args w fun e w'=> ∃ v,e= .returned v∧K (a.put N v) w'):if Region.wanted oi (yielded ops a.tmps)=true then Oper.wp P oi a w K Q else K (a.put N undef) w:=by
 refine call_ f args hw hN ?_ h
 have he:=tV hf hname hb args w
 unfold execOp
 simp [hop,resolve,Deferred.ofValue,invoke,Act.eval,hargs,he]
theorem rE {rest:List Oper} {oi:Oper} {a:Act} {w:World} (N:Option Tmp) (hd:oi.dst=N) (hg:oi.guard=none) {f:FuncId} {fn:Func} {as_:Array Operand} {ts:Array TypeId} (hf:P.funcs[f]?=some fn) (hname:(fn.name == "runtime.NumGoroutine")=false) (hb:fn.body.isSome=true) (args:Array Value)
  (hop:oi.op= .call { callee:= .value (.func f),args:=as_,argTypes:=ts }) (hargs:as_.map a.eval=args)
  (h:Calls P f args w fun e w'=> ∃ v,e= .returned v∧wpList P ops Q rest (a.put N v) w'):wpList P ops Q (oi::rest) a w:=by
 refine wpList_plain hg fun K hK=>?_
 have he:=tV hf hname hb args w
 have hrun:(execOp a.eval oi).run P w= .ok (.enter f args) w:=by
  unfold execOp
  simp [hop,resolve,Deferred.ofValue,invoke,Act.eval,hargs,he]
 unfold Oper.wp
 rw [hrun,Oper.upon_enter]
 refine h.mono fun e w'' hh=>?_
 obtain ⟨v,rfl,hk⟩:=hh
 subst hd
 exact hK _ _ hk
theorem fT {oi:Oper} {N:Option Tmp} {a:Act} {w w1:World} {v:Value} {K:Act→World→Prop} (hw:Region.wanted oi (yielded ops a.tmps)=true) (hN:oi.dst=N) (hrun:(execOp a.eval oi).run P w= .ok (.value v) w1)
  (h:K (a.put N v) w1):if Region.wanted oi (yielded ops a.tmps)=true then Oper.wp P oi a w K Q else K (a.put N undef) w:=by
 rw [if_pos hw]
 subst hN
 unfold Oper.wp
 rw [hrun]
 exact h
theorem fB {oi:Oper} {a:Act} {w w1:World} {K:Act→World→Prop} (hw:Region.wanted oi (yielded ops a.tmps)=true) (hN:oi.dst=none) (hrun:(execOp a.eval oi).run P w= .ok .skip w1)
  (h:K a w1):if Region.wanted oi (yielded ops a.tmps)=true then Oper.wp P oi a w K Q else K (a.put none undef) w:=by
 rw [if_pos hw]
 unfold Oper.wp
 rw [hrun]
 show K (a.put oi.dst undef) w1
 rw [hN]
 exact h
theorem ax (n:Int):IntKind.i64.wrap n=Go.RowKit.wrap64 n:=by unfold Go.RowKit.wrap64;exact IntKind.wrap_i64 n
theorem ay (n:Int):IntKind.i32.wrap n=Go.RowKit.wrap32 n:=by unfold Go.RowKit.wrap32;exact IntKind.wrap_i32 n
end
end Go.Proofs.YtmnjjdeaccgjlaaGreatW.PrintLast
namespace Go.Proofs.YtmnjjdeaccgjlaaGreatW.PrintWords
open Go.RowKit
namespace Kd
def tag {α:Type} (f:Nat→Nat) (d:Kd α):Kd (α × Nat) where
 sz:=d.sz
 E:=d.E
 K:=fun w x cs=>d.K w x.1 cs
 M:=fun w base ok x cs=>d.M w base (fun k=>ok k∧f k=x.2) x.1 cs
 K_len:=fun h=>d.K_len h
 K_one:=fun h=>d.K_one h
 K_below:=fun hb h=>d.K_below hb h
 K_of_M:=fun h=>d.K_of_M h
 M_mono:=fun hok h=>d.M_mono (fun k hk=>⟨hok k hk.1,hk.2⟩) h
 M_bound:=fun h=>d.M_mono (fun _ hk=>⟨⟨hk.1.1,hk.2⟩,hk.1.2⟩) (d.M_bound h)
 M_move:=fun hm h=>d.M_move (fun k hk=>hm k hk.1) h
 M_lower:=fun hb h=>d.M_lower hb h
def raw (sz:Nat):Kd (List Value) where
 sz:=sz
 E:= []
 K:=fun _ x cs=>cs=x∧cs.length=sz∧ ∀ u∈cs,u.oneCell'=true
 M:=fun _ _ _ x cs=>cs=x∧cs.length=sz∧ ∀ u∈cs,u.oneCell'=true
 K_len:=fun h=>h.2.1
 K_one:=fun h=>h.2.2
 K_below:=fun _ h=>h
 K_of_M:=fun h=>h
 M_mono:=fun _ h=>h
 M_bound:=fun h=>h
 M_move:=fun _ h=>h
 M_lower:=fun _ h=>h
def S {α:Type} (d:Kd α) (e:Nat) (w:World) (base:Nat) (ok:Nat→Prop) (v:Value) (xs:List α):Prop:= ∃ f,(tag f d).R e w base ok v xs.zipIdx
section
variable {α β:Type} {d:Kd α} {d':Kd β} {e e':Nat} {w w1 W:World} {base b:Nat} {ok ok' okv oku:Nat→Prop} {u v:Value} {xs:List α} {ys:List β}
theorem Gz {xs:List α} {j:Nat} {p:α} (h:xs[j]?=some p):xs.zipIdx[j]?=some (p,j):=by rw [List.getElem?_zipIdx,h,Nat.zero_add];rfl
theorem oP {ad:Addr} {n cap:Nat} (h:d.R e w base ok (.slice (some ad) n cap) xs): ∃ g,ad=⟨g,0,none⟩:=by
 obtain ⟨_,inner,ho,hr⟩:=h
 rcases ho.2 with ⟨hv,_⟩ | ⟨g,cap',cur,hv,_⟩
 ·cases hv
 ·injection hv with ha _ _
  injection ha with ha
  exact ⟨g,ha⟩
theorem Kl {ad:Addr} {n cap:Nat} (h:d.R e W base ok (.slice (some ad) n cap) xs) (z:α) (i:Int) (h0:0≤i) (h1:i<n):
  ∃ c,c.length=d.sz∧d.M W base (fun k=>ok k∧some k≠(Value.slice (some ad) n cap).ownBlock) (xs.getD i.toNat z) c∧ ∀ j u,c[j]?=some u→W.cell? (ad.add (i.toNat*d.sz+j))=some u:=by
 obtain ⟨g,rfl⟩:=oP h
 obtain ⟨c,hcl,hM,hcc,_⟩:=lW h z i h0 h1
 refine ⟨c,hcl,d.M_mono (fun k hk=>⟨hk.1,fun he=>hk.2 (by simpa [Value.ownBlock] using he)⟩) hM,fun j u hu=>?_⟩
 rw [jf,Nat.zero_add]
 exact hcc j u hu
theorem iR (hE:d.E= []) (h:d.R e w base ok v xs):d.R e w base (fun k=>some k=v.ownBlock) v xs:=by
 obtain ⟨h0,inner,ho,hr⟩:=h
 refine ⟨fun k hk=>hk.symm,inner,ho,hr.nk (fun p c hp=>d.M_mono (fun k hk=>?_) (d.M_bound hp))⟩
 obtain ⟨_,_,_,q,hq,_⟩:=hk
 rw [hE] at hq
 cases hq
theorem Kt (d:Kd α) (e:Nat) (w:World) (base:Nat) (ok:Nat→Prop):S d e w base ok (.slice none 0 0) []:=⟨fun _=>0,fI _ _ _ _ _⟩
end
def gap {α:Type} (f:Nat→Nat) (d:Kd α) (i:Nat) (c:List Value):Kd (α × Nat) where
 sz:=d.sz
 E:=d.E
 K:=fun w x cs=>(x.2=i→cs=c∧cs.length=d.sz∧ ∀ u∈cs,u.oneCell'=true)∧(x.2≠i→d.K w x.1 cs)
 M:=fun w base ok x cs=>(x.2=i→cs=c∧cs.length=d.sz∧ ∀ u∈cs,u.oneCell'=true)∧(x.2≠i→d.M w base (fun k=>ok k∧f k=x.2) x.1 cs)
 K_len:=fun {w x cs} h=>by
  by_cases hx:x.2=i
  ·exact (h.1 hx).2.1
  ·exact d.K_len (h.2 hx)
 K_one:=fun {w x cs} h=>by
  by_cases hx:x.2=i
  ·exact (h.1 hx).2.2
  ·exact d.K_one (h.2 hx)
 K_below:=fun hb h=>⟨h.1,fun hx=>d.K_below hb (h.2 hx)⟩
 K_of_M:=fun h=>⟨h.1,fun hx=>d.K_of_M (h.2 hx)⟩
 M_mono:=fun hok h=>⟨h.1,fun hx=>d.M_mono (fun k hk=>⟨hok k hk.1,hk.2⟩) (h.2 hx)⟩
 M_bound:=fun h=>⟨h.1,fun hx=>d.M_mono (fun _ hk=>⟨⟨hk.1.1,hk.2⟩,hk.1.2⟩) (d.M_bound (h.2 hx))⟩
 M_move:=fun hm h=>⟨h.1,fun hx=>d.M_move (fun k hk=>hm k hk.1) (h.2 hx)⟩
 M_lower:=fun hb h=>⟨h.1,fun hx=>d.M_lower hb (h.2 hx)⟩
def H {α:Type} (d:Kd α) (e:Nat) (w:World) (base:Nat) (ok:Nat→Prop) (v:Value) (xs:List α) (i:Int) (oki:Nat→Prop) (c:List Value):Prop:=
 (∀ k,oki k→ok k)∧ ∃ f,(gap f d i.toNat c).R e w base (fun k=>ok k∧ ¬ oki k) v xs.zipIdx
end Kd
namespace Kd
structure Heap {α:Type} (d:Kd α):Prop where
 K: ∀ {w w1:World} {x:α} {cs:List Value},(∀ k,k<w.heap.size→w1.heap[k]?=w.heap[k]?)→d.K w x cs→d.K w1 x cs
theorem Ac {w w1:World} (hb: ∀ k,k<w.heap.size→w1.heap[k]?=w.heap[k]?) {a:Addr} {v:Value} (h:w.cell? a=some v):w1.cell? a=some v:=by
 have:=hb a.block (World.block_lt_of_cell? w a h)
 simpa [World.cell?,this] using h
theorem Heap.C {α:Type} {d:Kd α} (hd:Heap d) {w w1:World} {A:Option Addr} {n:Nat} {xs:List α} (hb: ∀ k,k<w.heap.size→w1.heap[k]?=w.heap[k]?) (h:d.C w A n xs):d.C w1 A n xs:=
 ⟨h.1,h.2.1,fun hn=>by
  obtain ⟨ad,e,hc⟩:=h.2.2 hn
  refine ⟨ad,e,fun j p hj=>?_⟩
  obtain ⟨c,hs,hr,hcell⟩:=hc j p hj
  exact ⟨c,hs,hd.K hb hr,fun i u hu=>Ac hb (hcell i u hu)⟩⟩
end Kd
def Kept (w W:World) (S:Nat→Prop):Prop:=w.heap.size≤W.heap.size∧ ∀ i,i<w.heap.size→ ¬ S i→W.heap[i]?=w.heap[i]?
section
variable {w W W2:World} {S S2 S':Nat→Prop}
theorem Kept.refl (w:World) (S:Nat→Prop):Kept w w S:=⟨Nat.le_refl _,fun _ _ _=>rfl⟩
theorem Kept.bE (h:Below w.heap.size w W) (S:Nat→Prop):Kept w W S:=⟨h.size,fun i hi _=>h.block i hi⟩
theorem Kept.mono (h:Kept w W S) (hs: ∀ k,S k→S' k):Kept w W S':=⟨h.1,fun i hi hn=>h.2 i hi (fun hk=>hn (hs i hk))⟩
theorem Kept.LC (h:Kept w W S) (k:Kept W W2 S2) (hs: ∀ k,S2 k→S k∨w.heap.size≤k):Kept w W2 S:=
 ⟨Nat.le_trans h.1 k.1,fun i hi hn=>(k.2 i (Nat.lt_of_lt_of_le hi h.1) (fun h2=>(hs i h2).elim hn (fun h3=>by omega))).trans (h.2 i hi hn)⟩
theorem Kept.below (h:Kept w W S) (hb:Below W.heap.size W W2):Kept w W2 S:=h.LC (Kept.bE hb (fun _=>False)) (fun _ hk=>hk.elim)
theorem Kept.alloc (h:Kept w W S) (o:Obj):Kept w (W.alloc o) S:=h.below (ai (Below.refl _ _) o)
theorem Kept.drew (h:Kept w W S):Kept w W.drew S:=h
theorem Kept.drewN (h:Kept w W S) (m:Nat):Kept w (W.drewN m) S:=h
theorem Kept.setCell (h:Kept w W S) {p:Addr} (hp:S p.block∨w.heap.size≤p.block) (u:Value):Kept w (W.setCell p u) S:=
 h.LC (S2:=fun k=>k=p.block) ⟨by simp [World.setCell],fun i _ hn=>Below.heap_setCell W p u i hn⟩ (fun k hk=>by rw [hk];exact hp)
theorem Kept.keep {g:Nat} (h:eF w W g none) (k:Kept W W2 S2) (hs: ∀ k,S2 k→w.heap.size≤k):eF w W2 g none:=
 ⟨Nat.le_trans h.1 k.1,fun i hi hg hr=>(k.2 i (Nat.lt_of_lt_of_le hi h.1) (fun h2=>by have:=hs i h2;omega)).trans (h.2 i hi hg hr)⟩
theorem vH {g:Nat} {o:Obj} (hb:W.heap[g]?=some o) (hk:Kept W W2 S) (hne: ¬ S g):W2.heap[g]?=some o:=(hk.2 g (bD hb) hne).trans hb
end
namespace Kd
section
variable {α:Type} {d:Kd α} {e base n c:Nat} {ok oki S S2:Nat→Prop} {w w0 W W1 W2:World} {v:Value} {A:Option Addr} {xs:List α} {i:Int} {cs:List Value}
theorem iw (h:d.R e W base ok v xs) (hk:Kept W W2 S) (hne: ∀ k,ok k→ ¬ S k):d.R e W2 base ok v xs:=bQ h (fun k ho hlt=>hk.2 k hlt (hne k ho))
end
end Kd
def mJ (P:World→Prop) (W:World) (ok:Nat→Prop):Prop:= ∀ W':World,(∀ k,ok k→k<W.heap.size→W'.heap[k]?=W.heap[k]?)→P W'
theorem Iu {W W1:World} {k:Nat} (h:W1.heap[k]?=W.heap[k]?) (hlt:k<W.heap.size):k<W1.heap.size:=by
 rw [Array.getElem?_eq_getElem hlt] at h
 exact (Array.getElem?_eq_some_iff.1 h).1
namespace mJ
variable {P Q:World→Prop} {W W1:World} {ok ok':Nat→Prop}
theorem now (h:mJ P W ok):P W:=h W (fun _ _ _=>rfl)
theorem mono (h:mJ P W ok) (hok: ∀ k,ok k→ok' k):mJ P W ok':=fun W' hW=>h W' (fun k hk hlt=>hW k (hok k hk) hlt)
theorem bound (h:mJ P W ok):mJ P W (fun k=>ok k∧k<W.heap.size):=fun W' hW=>h W' (fun k hk hlt=>hW k ⟨hk,hlt⟩ hlt)
theorem step (h:mJ P W ok) (hm: ∀ k,ok k→k<W.heap.size→W1.heap[k]?=W.heap[k]?):mJ P W1 ok:=fun W' hW=>h W' (fun k hk hlt=>(hW k hk (Iu (hm k hk hlt) hlt)).trans (hm k hk hlt))
theorem imp (h:mJ P W ok) (hi: ∀ W',P W'→Q W'):mJ Q W ok:=fun W' hW=>hi W' (h W' hW)
theorem old (h:mJ P W ok) (hb:Below W.heap.size W W1):mJ P W1 (fun k=>ok k∧k<W.heap.size):=(h.bound).step (fun k _ hlt=>hb.block k hlt)
end mJ
namespace Kd
def F {α:Type} (d:Kd α) (W:World) (ok:Nat→Prop) (A:Option Addr) (n:Nat) (xs:List α):Prop:=mJ (fun W=>d.C W A n xs) W ok
def FK {α:Type} (d:Kd α) (W:World) (ok:Nat→Prop) (x:α) (c:List Value):Prop:=mJ (fun W=>d.K W x c) W ok
section
variable {α β:Type} {d:Kd α} {e base n n' cc g N:Nat} {ok ok' okp S:Nat→Prop} {w w0 w1 W W1:World} {A A':Option Addr} {u v v1:Value} {xs:List α} {xs':List β} {d':Kd β} {x:α} {c:List Value}
theorem gu (h:F d W ok A n xs):d.C W A n xs:=mJ.now h
theorem dh (h:F d W ok A n xs) (hok: ∀ k,ok k→ok' k):F d W ok' A n xs:=mJ.mono h hok
theorem dX (h:F d W ok A n xs):F d W (fun k=>ok k∧k<W.heap.size) A n xs:=mJ.bound h
theorem eU (h:F d W ok A n xs) (hm: ∀ k,ok k→k<W.heap.size→W1.heap[k]?=W.heap[k]?):F d W1 ok A n xs:=mJ.step h hm
theorem Mr (h:F d W ok A n xs) (hi: ∀ W',d.C W' A n xs→d'.C W' A' n' xs'):F d' W ok A' n' xs':=mJ.imp h hi
theorem gY (h:F d W ok A n xs) (hb:Below W.heap.size W W1):F d W1 ok A n xs:=eU h (fun k _ hlt=>hb.block k hlt)
theorem eD (h:F d W ok A n xs) (o:Obj):F d (W.alloc o) ok A n xs:=gY h (ai (Below.refl _ _) o)
theorem jB (h:F d W ok A n xs):F d W.drew ok A n xs:=gY h (aM (Below.refl _ _))
theorem jX (h:F d W ok A n xs) (m:Nat):F d (W.drewN m) ok A n xs:=gY h (au (Below.refl _ _) m)
theorem kY (h:F d W ok A n xs) {row:Option Nat} (hg:W.grownBy W1 row) (hok: ∀ k,ok k→some k≠row):F d W1 ok A n xs:=eU h (fun k hk hlt=>hg.block k hlt (hok k hk))
theorem kX (h:F d W ok A n xs) {p:Addr} (hok: ∀ k,ok k→k≠p.block) (u:Value):F d (W.setCell p u) ok A n xs:=eU h (fun k hk _=>Below.heap_setCell W p u k (hok k hk))
theorem jD (d:Kd α) (W:World) (ok:Nat→Prop):F d W ok none ([]:List α).length []:=fun W' _=>Mq d W'
theorem Ms (h:F d W ok A n xs):xs.length=n:=(gu h).1
theorem R_F (h:d.R e W base ok (.slice A n cc) xs):F d W ok A n xs:=fun W' hW=>by
 have h2:=bM (bQ h hW)
 rw [h2.1]
 exact h2.2.2
theorem oO (h:FK d W ok x c):d.K W x c:=mJ.now h
theorem mI (h:FK d W ok x c) (hok: ∀ k,ok k→ok' k):FK d W ok' x c:=mJ.mono h hok
theorem jW (h:FK d W ok x c) (hm: ∀ k,ok k→k<W.heap.size→W1.heap[k]?=W.heap[k]?):FK d W1 ok x c:=mJ.step h hm
theorem uU (h:FK d W ok x c) (hb:Below W.heap.size W W1):FK d W1 ok x c:=jW h (fun k _ hlt=>hb.block k hlt)
theorem sQ (h:d.M W base ok x c):FK d W ok x c:=fun _ hW=>d.K_of_M (yL h hW)
theorem emptied (W:World) (g:Nat): ∃ W':World,(∀ k,k≠g→W'.heap[k]?=W.heap[k]?)∧ ∀ a:Addr,a.block=g→W'.cell? a=none:=by
 refine ⟨{ W with heap:=W.heap.setIfInBounds g (.cells #[] 0) },fun k hk=>by simp [Ne.symm hk],fun a ha=>?_⟩
 subst ha
 by_cases hlt:a.block<W.heap.size
 ·simp [World.cell?,hlt]
 ·simp [World.cell?,hlt]
end
end Kd
end Go.Proofs.YtmnjjdeaccgjlaaGreatW.PrintWords
namespace Go.Proofs.YtmnjjdeaccgjlaaGreat.Own
open Go Go.RowKit Go.Proofs.YtmnjjdeaccgjlaaGreatW.PrintWords
structure Moves (ok ok1:Nat→Prop) (w w1:World):Prop where
 os:w1.os=w.os
 tape:w1.tape=w.tape
 output:w1.output=w.output
 size:w.heap.size≤w1.heap.size
 block: ∀ k,k<w.heap.size→ ¬ ok k→w1.heap[k]?=w.heap[k]?
 fresh: ∀ k,ok1 k→ok k∨w.heap.size≤k
section
variable {ok ok1 ok2 okA okB:Nat→Prop} {w w1 w2 w3:World}
theorem Moves.refl (ok:Nat→Prop) (w:World):Moves ok ok w w:=⟨rfl,rfl,rfl,Nat.le_refl _,fun _ _ _=>rfl,fun _ h=> .inl h⟩
theorem Moves.trans (h:Moves ok ok1 w w1) (k:Moves ok1 ok2 w1 w2):Moves ok ok2 w w2 where
 os:=k.os.trans h.os
 tape:=k.tape.trans h.tape
 output:=k.output.trans h.output
 size:=Nat.le_trans h.size k.size
 block:=fun i hi hn=>(k.block i (Nat.lt_of_lt_of_le hi h.size) (fun h1=>(h.fresh i h1).elim hn (fun h2=>by omega))).trans (h.block i hi hn)
 fresh:=fun i h2=>by
  rcases k.fresh i h2 with h1 | h1
  ·exact h.fresh i h1
  ·exact .inr (Nat.le_trans h.size h1)
theorem Moves.below (h:Moves ok ok1 w w1) (b:Below w1.heap.size w1 w2):Moves ok ok1 w w2:=
 ⟨b.os.trans h.os,b.tape.trans h.tape,b.output.trans h.output,Nat.le_trans h.size b.size,fun i hi hn=>(b.block i (Nat.lt_of_lt_of_le hi h.size)).trans (h.block i hi hn),h.fresh⟩
theorem Moves.bE (ok:Nat→Prop) (b:Below w.heap.size w w1):Moves ok ok w w1:=(Moves.refl ok w).below b
theorem Moves.alloc (h:Moves ok ok1 w w1) (o:Obj):Moves ok ok1 w (w1.alloc o):=h.below (ai (Below.refl _ _) o)
theorem Moves.drew (h:Moves ok ok1 w w1):Moves ok ok1 w w1.drew:=h.below (aM (Below.refl _ _))
theorem Moves.drewN (h:Moves ok ok1 w w1) (m:Nat):Moves ok ok1 w (w1.drewN m):=h.below (au (Below.refl _ _) m)
theorem Moves.set (h:Moves ok ok1 w w1) {p:Addr} (hp:ok p.block∨w.heap.size≤p.block) (u:Value):Moves ok ok1 w (w1.setCell p u) where
 os:=h.os
 tape:=h.tape
 output:=h.output
 size:=by simpa [World.setCell] using h.size
 block:=fun i hi hn=>(Below.heap_setCell w1 p u i (fun e=>by subst e;exact hp.elim hn (fun h2=>by omega))).trans (h.block i hi hn)
 fresh:=h.fresh
theorem Moves.grown (h:Moves ok ok1 w w1) {row:Option Nat} (hg:w1.grownBy w2 row) (hr: ∀ k,row=some k→ok k∨w.heap.size≤k):Moves ok ok1 w w2 where
 os:=hg.os.trans h.os
 tape:=hg.tape.trans h.tape
 output:=hg.output.trans h.output
 size:=Nat.le_trans h.size hg.size
 block:=fun i hi hn=>(hg.block i (Nat.lt_of_lt_of_le hi h.size) (fun e=>(hr i e.symm).elim hn (fun h2=>by omega))).trans (h.block i hi hn)
 fresh:=h.fresh
theorem Moves.owns (h:Moves ok ok1 w w1) (hf: ∀ k,ok2 k→ok k∨w.heap.size≤k):Moves ok ok2 w w1:=⟨h.os,h.tape,h.output,h.size,h.block,hf⟩
theorem Moves.part (h:Moves okA ok1 w w1) (hp: ∀ k,okA k→ok k) (hb: ∀ k,okB k→ok k):Moves ok (fun k=>ok1 k∨okB k) w w1 where
 os:=h.os
 tape:=h.tape
 output:=h.output
 size:=h.size
 block:=fun i hi hn=>h.block i hi (fun h1=>hn (hp i h1))
 fresh:=fun i h1=>by
  rcases h1 with h1 | h1
  ·exact (h.fresh i h1).imp (hp i) id
  ·exact .inl (hb i h1)
theorem Moves.outer (h:Moves ok ok1 w w1) (hn: ∀ k,ok k→w.heap.size≤k):Below w.heap.size w w1:=
 ⟨h.os,h.tape,h.output,h.size,fun k hk=>h.block k hk (fun h1=>by have:=hn k h1;omega)⟩
def Mine (ok:Nat→Prop) (w:World) (g:Nat) (o:Obj):Prop:=w.heap[g]?=some o∧ ¬ ok g
theorem Mine.moves {g:Nat} {o:Obj} (h:Mine ok w g o) (m:Moves ok ok1 w w1):Mine ok1 w1 g o:=
 ⟨(m.block g (bD h.1) h.2).trans h.1,fun h1=>(m.fresh g h1).elim h.2 (fun h2=>by have:=bD h.1;omega)⟩
theorem Mine.alloc {g:Nat} {o:Obj} (h:Mine ok w g o) (o1:Obj):Mine ok (w.alloc o1) g o:=h.moves ((Moves.refl ok w).alloc o1)
theorem Mine.new (hb: ∀ k,ok k→k<w.heap.size) (o:Obj):Mine ok (w.alloc o) w.heap.size o:=⟨bU w o,fun h=>by have:=hb _ h;omega⟩
theorem Mine.far {g:Nat} {o:Obj} (h:Mine ok w g o) {p:Addr} (hp:p.block≠g) (u:Value):Mine ok (w.setCell p u) g o:=⟨(Below.heap_setCell w p u g (fun e=>hp e.symm)).trans h.1,h.2⟩
theorem Mine.set {g:Nat} {cs:Array Value} {t:TypeId} (h:Mine ok w g (.cells cs t (0,0))) (j:Nat) (u:Value):Mine ok (w.setCell ⟨g,j,none⟩ u) g (.cells (cs.setIfInBounds j u) t (0,0)):=⟨bH h.1 j u,h.2⟩
theorem Mine.lt {g:Nat} {o:Obj} (h:Mine ok w g o):g<w.heap.size:=bD h.1
theorem gZ {α:Type} {d:Kd α} {A:Option Addr} {n:Nat} {xs:List α} (h:d.F w (fun k=> ¬ ok k) A n xs) (m:Moves ok ok1 w w1):d.F w1 (fun k=> ¬ ok1 k) A n xs:=
 Kd.dh (Kd.eU (Kd.dX h) (fun k hk hlt=>m.block k hlt hk.1)) (fun k hk h1=>(m.fresh k h1).elim hk.1 (fun h2=>by have:=hk.2;omega))
end
end Go.Proofs.YtmnjjdeaccgjlaaGreat.Own
namespace Go.Proofs.YtmnjjdeaccgjlaaGreatW.PrintLast
open Go.Proofs.YtmnjjdeaccgjlaaGreatW.PrintWords (ak)
def lJ (md:Region.Mode) (o:Oper):List Nat:=(o.after.toList.filter (fun e=>Region.binds md e)).map (fun e=>e.on)
def tQ (md:Region.Mode) (ops:Array Oper) (i:Nat) (oi:Oper):List Nat:=(List.range ops.size).filter fun j=> !(j == i) && match ops[j]? with
 | some oj=> !(oj.after.any (fun e=>Region.binds md e && e.on == i) || oi.apart ops oj)
 | none=>false
def fq (md:Region.Mode) (ops:Array Oper):Bool × List (List Nat × List Nat):=(Region.noSelect ops,(List.range ops.size).map fun i=>match ops[i]? with
 | some o=>(lJ md o,tQ md ops i o)
 | none=>([],[]))
def je (T:List (List Nat × List Nat)) (l:List Bool) (i:Nat):Bool:= !l.getD i true && match T[i]? with
 | some r=>r.1.all (fun j=>l.getD j false)
 | none=>false
def kT (T:List (List Nat × List Nat)) (l:List Bool):List Nat:=(List.range T.length).filter (je T l)
def lu (T:List (List Nat × List Nat)) (l:List Bool) (i:Nat):Bool:=match T[i]? with
 | some r=>r.2.all (fun j=>l.getD j true)
 | none=>false
def mW (T:List (List Nat × List Nat)) (l:List Bool):Bool:=(List.range T.length).all fun j=> !l.getD j false || match T[j]? with
 | some r=>r.1.all (fun k=>l.getD k false)
 | none=>true
def pz (T:List (List Nat × List Nat)) (i:Nat):Nat→Nat→Bool
 | 0,_=>false
 | fuel+1,d=>match T[d]? with
  | some r=>r.1.any fun j=>j == i || pz T i fuel j
  | none=>false
def lastT (T:List (List Nat × List Nat)) (l:List Bool) (ds:List Nat) (i:Nat):Bool:=ds.all fun d=>l.getD d true || pz T i T.length d
section
variable {md:Region.Mode} {ops:Array Oper} {T:Bool × List (List Nat × List Nat)} {l l' li lj lk:Array Bool} {ds:List Nat} {i j k:Nat}
theorem gd (l:Array Bool) (j:Nat) (b:Bool):l.getD j b=l.toList.getD j b:=by simp [Array.getD_eq_getD_getElem?,List.getD_eq_getElem?_getD]
theorem rP (o:Oper) (p:Nat→Bool):o.after.all (fun e=> !Region.binds md e || p e.on)=(lJ md o).all p:=by
 unfold lJ
 rw [←Array.all_toList]
 induction o.after.toList with
 | nil=>rfl
 | cons e r ih=>
  rw [List.all_cons,ih,List.filter_cons]
  cases h:Region.binds md e<;>simp
theorem Br (o:Oper) (p:Nat→Bool):o.after.any (fun e=>Region.binds md e && p e.on)=(lJ md o).any p:=by
 unfold lJ
 rw [←Array.any_toList]
 induction o.after.toList with
 | nil=>rfl
 | cons e r ih=>
  rw [List.any_cons,ih,List.filter_cons]
  cases h:Region.binds md e<;>simp
theorem jy:(fq md ops).2.length=ops.size:=by simp [fq]
theorem kV {o:Oper} (h:ops[i]?=some o):(fq md ops).2[i]?=some (lJ md o,tQ md ops i o):=by
 have hi:=(Array.getElem?_eq_some_iff.1 h).1
 unfold fq
 rw [List.getElem?_map,List.getElem?_range hi,Option.map_some,h]
theorem kU (h:ops[i]?=none):(fq md ops).2[i]?=none:=by
 have hi:ops.size≤i:=Array.getElem?_eq_none_iff.1 h
 exact List.getElem?_eq_none (by rw [jy];exact hi)
theorem xX:je (fq md ops).2 l.toList i=(!l.getD i true && ((ops[i]?).map (·.after.all fun e=> !Region.binds md e || l.getD e.on false)).getD false):=by
 unfold je
 rw [gd]
 cases h:ops[i]? with
 | none=>rw [kU h];rfl
 | some o=>
  rw [kV h]
  simp only [Option.map_some,Option.getD_some]
  rw [←rP]
  simp only [gd]
theorem ready_eq:Region.ready md ops l=kT (fq md ops).2 l.toList:=by
 unfold Region.ready kT
 rw [jy]
 refine List.filter_congr (fun i _=>?_)
 rw [xX]
theorem free_eq:Region.free md ops l i=lu (fq md ops).2 l.toList i:=by
 unfold Region.free lu
 cases h:ops[i]? with
 | none=>rw [kU h]
 | some oi=>
  rw [kV h]
  simp only [tQ]
  rw [List.all_filter]
  congr 1
  funext j
  rw [gd]
  cases hj:ops[j]? with
  | none=>cases (j == i)<;>cases (l.toList.getD j true)<;>simp
  | some oj=>
   cases (j == i)<;>cases (l.toList.getD j true)<;>cases (oj.after.any (fun e=>Region.binds md e && e.on == i) || oi.apart ops oj)<;>simp_all
theorem Ai:Region.mV md ops l=mW (fq md ops).2 l.toList:=by
 unfold Region.mV mW
 rw [jy]
 congr 1
 funext j
 rw [gd]
 cases h:ops[j]? with
 | none=>rw [kU h]
 | some o=>
  rw [kV h]
  simp only
  rw [←rP]
  simp only [gd]
theorem vW: ∀ (fuel d:Nat),Region.jC md ops i fuel d=pz (fq md ops).2 i fuel d
 | 0,_=>rfl
 | fuel+1,d=>by
  unfold Region.jC pz
  cases h:ops[d]? with
  | none=>rw [kU h]
  | some o=>
   rw [kV h]
   simp only
   rw [←Br]
   congr 1
   funext e
   rw [vW fuel]
theorem IB:Region.lastB md ops l ds i=lastT (fq md ops).2 l.toList ds i:=by
 unfold Region.lastB lastT
 rw [jy]
 congr 1
 funext d
 rw [gd,vW]
theorem nW (h:je T.2 l.toList i=true) (hT:fq md ops=T):(Region.ready md ops l).contains i=true:=by
 subst hT
 rw [ready_eq]
 unfold kT
 rw [List.contains_iff_mem,List.mem_filter,List.mem_range]
 refine ⟨?_,h⟩
 unfold je at h
 rw [Bool.and_eq_true] at h
 cases hq:(fq md ops).2[i]? with
 | none=>rw [hq] at h;simp at h
 | some r=>exact (List.getElem?_eq_some_iff.1 hq).1
theorem mo (h:(l.toList.set i true == l'.toList)=true):(l.setIfInBounds i true == l')=true:=by
 rw [beq_iff_eq] at h ⊢
 apply Array.ext'
 rw [Array.toList_setIfInBounds]
 exact h
def MF (T:Bool × List (List Nat × List Nat)) (l l':List Bool) (i:Nat):Bool:=T.1 && lu T.2 l i && je T.2 l i && (l.set i true == l')
theorem bf (hT:fq md ops=T) (h:MF T l.toList l'.toList i=true):LK md ops l l' i=true:=by
 simp only [MF,Bool.and_eq_true] at h
 obtain ⟨⟨⟨h1,h2⟩,h3⟩,h4⟩:=h
 have h5:=nW h3 hT
 have h6:=mo h4
 subst hT
 simp only [LK,Bool.and_eq_true]
 exact ⟨⟨⟨h1,by rw [free_eq];exact h2⟩,h5⟩,h6⟩
def Jr (T:Bool × List (List Nat × List Nat)) (ds:List Nat) (l l':List Bool) (i:Nat):Bool:=T.1 && lu T.2 l i && je T.2 l i && mW T.2 l && lastT T.2 l ds i && (l.set i true == l')
theorem Jt (hT:fq md ops=T) (h:Jr T ds l.toList l'.toList i=true):takeB md ops ds l l' i=true:=by
 simp only [Jr,Bool.and_eq_true] at h
 obtain ⟨⟨⟨⟨⟨h1,h2⟩,h3⟩,h4⟩,h5⟩,h6⟩:=h
 have h7:=nW h3 hT
 have h8:=mo h6
 subst hT
 simp only [takeB,Bool.and_eq_true]
 exact ⟨⟨⟨⟨⟨h1,by rw [free_eq];exact h2⟩,h7⟩,by rw [Ai];exact h4⟩,by rw [IB];exact h5⟩,h8⟩
theorem dV (hT:fq md ops=T) (h:(kT T.2 l.toList == [i] && l.toList.set i true == l'.toList)=true):mh md ops l l' i=true:=by
 simp only [Bool.and_eq_true] at h
 obtain ⟨h1,h2⟩:=h
 subst hT
 simp only [mh,Bool.and_eq_true]
 exact ⟨by rw [ready_eq];exact h1,mo h2⟩
theorem Cz (hT:fq md ops=T) (h:(kT T.2 l.toList == [i,j] && l.toList.set i true == li.toList && l.toList.set j true == lj.toList)=true):(Region.ready md ops l == [i,j] && l.setIfInBounds i true == li && l.setIfInBounds j true == lj)=true:=by
 simp only [Bool.and_eq_true] at h ⊢
 obtain ⟨⟨h1,h2⟩,h3⟩:=h
 subst hT
 exact ⟨⟨by rw [ready_eq];exact h1,mo h2⟩,mo h3⟩
theorem Fb (hT:fq md ops=T) (h:(kT T.2 l.toList == [i,j,k] && l.toList.set i true == li.toList && l.toList.set j true == lj.toList && l.toList.set k true == lk.toList)=true):
  (Region.ready md ops l == [i,j,k] && l.setIfInBounds i true == li && l.setIfInBounds j true == lj && l.setIfInBounds k true == lk)=true:=by
 simp only [Bool.and_eq_true] at h ⊢
 obtain ⟨⟨⟨h1,h2⟩,h3⟩,h4⟩:=h
 subst hT
 exact ⟨⟨⟨by rw [ready_eq];exact h1,mo h2⟩,mo h3⟩,mo h4⟩
theorem bI (hT:fq md ops=T) (h:(kT T.2 l.toList == [])=true):(Region.ready md ops l == [])=true:=by
 subst hT
 rw [ready_eq]
 exact h
def upM (B:List Nat) (d:Nat):List Nat→Nat
 | []=>0
 | n::r=>(2 ^ n ||| (if n<d then B.getD n 0 else 0)) ||| upM B d r
def bA (T:List (List Nat × List Nat)) (B:List Nat):Bool:=(List.range T.length).all fun d=>match T[d]? with
 | some r=>(B.getD d 0 ||| upM B d r.1) == upM B d r.1
 | none=>false
theorem CB {B:List Nat} {d i:Nat}: ∀ {ns:List Nat},(upM B d ns).testBit i=true→ ∃ n∈ns,n=i∨(n<d∧(B.getD n 0).testBit i=true)
 | [],h=>by simp [upM] at h
 | n::r,h=>by
  unfold upM at h
  rw [Nat.testBit_or,Nat.testBit_or,Bool.or_eq_true,Bool.or_eq_true] at h
  rcases h with (h | h) | h
  ·rw [Nat.testBit_two_pow] at h
   exact ⟨n,List.mem_cons_self,.inl (by simpa using h)⟩
  ·by_cases hn:n<d
   ·rw [if_pos hn] at h
    exact ⟨n,List.mem_cons_self,.inr ⟨hn,h⟩⟩
   ·rw [if_neg hn] at h
    simp at h
  ·obtain ⟨m,hm,h2⟩:=CB h
   exact ⟨m,List.mem_cons_of_mem _ hm,h2⟩
theorem rW {T:List (List Nat × List Nat)} {B:List Nat} (hB:bA T B=true): ∀ (fuel d:Nat),d<fuel→d<T.length→(B.getD d 0).testBit i=true→pz T i fuel d=true
 | 0,d,h,_,_=>by omega
 | fuel+1,d,h,hd,hb=>by
  have h1:=List.all_eq_true.1 hB d (List.mem_range.2 hd)
  cases hr:T[d]? with
  | none=>rw [hr] at h1;simp at h1
  | some r=>
   rw [hr] at h1
   simp only [beq_iff_eq] at h1
   have h2:(upM B d r.1).testBit i=true:=by rw [←h1,Nat.testBit_or,hb,Bool.true_or]
   obtain ⟨n,hn,h3⟩:=CB h2
   unfold pz
   rw [hr]
   simp only
   rw [List.any_eq_true]
   refine ⟨n,hn,?_⟩
   rcases h3 with rfl | ⟨h4,h5⟩
   ·simp
   ·rw [rW hB fuel n (by omega) (by omega) h5,Bool.or_true]
def IA (T:List (List Nat × List Nat)) (B:List Nat) (l:List Bool) (ds:List Nat) (i:Nat):Bool:=ds.all fun d=>l.getD d true || (decide (d<T.length) && (B.getD d 0).testBit i)
def Js (T:Bool × List (List Nat × List Nat)) (B:List Nat) (ds:List Nat) (l l':List Bool) (i:Nat):Bool:=T.1 && lu T.2 l i && je T.2 l i && mW T.2 l && IA T.2 B l ds i && (l.set i true == l')
theorem bN {B:List Nat} (hT:fq md ops=T) (hB:bA T.2 B=true) (h:Js T B ds l.toList l'.toList i=true):takeB md ops ds l l' i=true:=by
 refine Jt hT ?_
 simp only [Js,Jr,Bool.and_eq_true] at h ⊢
 obtain ⟨⟨⟨⟨⟨h1,h2⟩,h3⟩,h4⟩,h5⟩,h6⟩:=h
 refine ⟨⟨⟨⟨⟨h1,h2⟩,h3⟩,h4⟩,?_⟩,h6⟩
 unfold IA at h5
 unfold lastT
 rw [List.all_eq_true] at h5 ⊢
 intro d hd
 have h7:=h5 d hd
 rw [Bool.or_eq_true,Bool.and_eq_true,decide_eq_true_eq] at h7
 rcases h7 with h7 | ⟨h8,h9⟩
 ·rw [h7,Bool.true_or]
 ·rw [rW hB _ d h8 h8 h9,Bool.or_true]
theorem fU {P:Program} {Q:Exit→Act→World→Prop} {S:World→Prop} {n:Nat} {a:Act} {w:World} {B:List Nat} (hT:fq md ops=T) (hB:bA T.2 B=true) (h:ak (fq md ops=T)→ak (bA T.2 B=true)→aV P md ops Q S ds n l a w):aV P md ops Q S ds n l a w:=h ⟨hT⟩ ⟨hB⟩
end
def oH:Code→Nat→Option (Array Oper)
 | .region id ops _,k=>if id == k then some ops else none
 | .seq a b,k=>match oH a k with
  | some o=>some o
  | none=>oH b k
 | .cond _ a b,k=>match oH a k with
  | some o=>some o
  | none=>oH b k
 | .block _ c,k=>oH c k
 | .loop c,k=>oH c k
 | .scope c,k=>oH c k
 | .rangeFunc _ _ a b,k=>match oH a k with
  | some o=>some o
  | none=>oH b k
 | _,_=>none
def opsOf (f:Func) (k:Nat):Array Oper:=((f.body.bind fun c=>oH c k)).getD #[]
end Go.Proofs.YtmnjjdeaccgjlaaGreatW.PrintLast
namespace Go.Proofs.YtmnjjdeaccgjlaaGreatW.PrintWords
open Go.RowKit
namespace Kd
section
variable {α:Type} {d:Kd α} {e base g o n cap:Nat} {ok okp:Nat→Prop} {w W:World} {v:Value} {xs:List α}
theorem vo (h:d.Q e w base ok v xs) (hp:0<xs.length): ∃ g o cap,v= .slice (some ⟨g,o,none⟩) xs.length cap∧base≤g∧g<w.heap.size∧ ∃ cells,w.heap[g]?=some (.cells cells e (0,0)):=by
 obtain ⟨h0,inner,hq,hr⟩:=h
 rcases hq.2 with ⟨h1,_⟩ | ⟨g,off,cap,cur,rfl,hb,hh,r⟩
 ·omega
 ·exact ⟨g,off*d.sz,cap,rfl,hb,bD hh,cur,hh⟩
theorem uZ (h:d.Q e W base ok (.slice (some ⟨g,o,none⟩) n cap) xs) (z:α) (i:Int) (h0:0≤i) (h1:i<n):
  ∃ c,c.length=d.sz∧d.M W base (fun k=>ok k∧k≠g) (xs.getD i.toNat z) c∧(∀ j u,c[j]?=some u→W.cell? ⟨g,o+i.toNat*d.sz+j,none⟩=some u)∧ ∀ j,W.frozen? ⟨g,o+i.toNat*d.sz+j,none⟩=false:=by
 obtain ⟨hn,hnc,hC⟩:=jM h
 obtain ⟨_,inner,ho,hr⟩:=h
 have hil:i.toNat<xs.length:=by omega
 have hseg:i.toNat*d.sz+d.sz≤inner.length:=by rw [hr.1,←Nat.succ_mul];exact Nat.mul_le_mul_right _ hil
 have hM:=hr.2 i.toNat _ (List.getElem?_eq_getElem hil)
 refine ⟨(inner.drop (i.toNat*d.sz)).take d.sz,by rw [List.length_take,List.length_drop];omega,?_,fun j u hu=>?_,fun j=>?_⟩
 ·rw [List.getD_eq_getElem?_getD,List.getElem?_eq_getElem hil]
  exact d.M_mono (fun k hk=>⟨hk.1,fun he=>hk.2 (by rw [he];simp [Value.ownBlock])⟩) hM
 ·rw [List.getElem?_take] at hu
  split at hu
  ·rw [List.getElem?_drop] at hu
   subst hn
   obtain ⟨ad,he,hc⟩:=BG ho (by omega)
   injection he with he
   subst he
   have:=hc _ u hu
   rwa [jf,←Nat.add_assoc] at this
  ·cases hu
 ·obtain ⟨_,cells,hc⟩:=qx ho g (by simp [Value.ownBlock])
  exact ah hc _
end
section
variable {α:Type} {enc:α→Value} {h1: ∀ x,(enc x).oneCell'=true} {e base g o n cap:Nat} {ok:Nat→Prop} {W:World} {xs:List α}
theorem Kh (d:α) (h:(scalar enc h1).Q e W base ok (.slice (some ⟨g,o,none⟩) n cap) xs) (i:Int) (h0:0≤i) (hi:i<n):W.cell? ⟨g,o+i.toNat,none⟩=some (enc (JH d xs i))∧W.frozen? ⟨g,o+i.toNat,none⟩=false:=by
 obtain ⟨c,_,hM,hcc,hf⟩:=uZ h d i h0 hi
 have hM':c= [enc (xs.getD i.toNat d)]:=hM
 subst hM'
 have h2:=hcc 0 _ rfl
 have h3:=hf 0
 rw [show (scalar enc h1).sz=1 from rfl,Nat.mul_one,Nat.add_zero] at h2 h3
 exact ⟨h2,h3⟩
end
end Kd
namespace Kd
def chunks (sz:Nat) (n:Nat) (inner:List Value):List (List Value):=(List.range n).map fun j=>(inner.drop (j*sz)).take sz
theorem gG (sz n:Nat) (inner:List Value):(chunks sz n inner).length=n:=by simp [chunks]
theorem Ah {sz n:Nat} {inner:List Value} {j:Nat} (hj:j<n):(chunks sz n inner)[j]?=some ((inner.drop (j*sz)).take sz):=by simp [chunks,hj]
theorem oV {sz n:Nat} {inner:List Value} {j:Nat} {c:List Value} (h:(chunks sz n inner)[j]?=some c):c=(inner.drop (j*sz)).take sz:=by
 have hj:j<n:=by have:=(List.getElem?_eq_some_iff.1 h).1;rwa [gG] at this
 rw [Ah hj] at h
 injection h with h
 exact h.symm
theorem Ez {α:Type} {Rr:α→List Value→Prop} {sz:Nat} {xs:List α} {inner:List Value} (h:eY Rr sz xs inner) (hR: ∀ x c,Rr x c→c.length=sz∧ ∀ u∈c,u.oneCell'=true):eY (fun x cs=>cs=x∧cs.length=sz∧ ∀ u∈cs,u.oneCell'=true) sz (chunks sz xs.length inner) inner:=by
 refine ⟨by rw [gG];exact h.1,fun j p hj=>?_⟩
 have hjl:j<xs.length:=by have:=(List.getElem?_eq_some_iff.1 hj).1;rwa [gG] at this
 have hp:=oV hj
 exact ⟨hp.symm,hR _ _ (h.2 j _ (List.getElem?_eq_getElem hjl))⟩
section
variable {α:Type} {d:Kd α} {e base n cc g:Nat} {ok ok' okp S:Nat→Prop} {w w1 W W1:World} {A:Option Addr} {u v v1:Value} {xs:List α} {x:α} {c:List Value}
theorem Hr (h:F d W ok A n xs) (z:α) (i:Int) (h0:0≤i) (h1:i<n):
  ∃ ad c,A=some ad∧c.length=d.sz∧FK d W ok (xs.getD i.toNat z) c∧(∀ j u,c[j]?=some u→W.cell? (ad.add (i.toNat*d.sz+j))=some u)∧(0<d.sz→ok ad.block):=by
 obtain ⟨ad,c,rfl,hcl,hK,hcc⟩:=oz (gu h) z i h0 h1
 have hin:0<d.sz→ok ad.block:=by
  intro hs
  by_cases hk:ok ad.block
  ·exact hk
  ·obtain ⟨W',h2,h3⟩:=emptied W ad.block
   obtain ⟨ad',c',he,hcl',_,hcc'⟩:=oz (h W' (fun k hk' _=>h2 k (fun e=>hk (e▸hk')))) z i h0 h1
   injection he with he
   subst he
   have h4:=hcc' 0 _ (List.getElem?_eq_getElem (by omega))
   rw [h3 _ (add_block _ _)] at h4
   cases h4
 refine ⟨ad,c,rfl,hcl,fun W' hW=>?_,hcc,hin⟩
 obtain ⟨ad',c',he,hcl',hK',hcc'⟩:=oz (h W' hW) z i h0 h1
 injection he with he
 subst he
 have hc:c=c':=by
  apply List.ext_getElem?
  intro j
  by_cases hj:j<d.sz
  ·have hb:W'.heap[ad.block]?=W.heap[ad.block]?:=by
    have h5:=hcc j _ (List.getElem?_eq_getElem (by omega))
    have h6:=World.block_lt_of_cell? W _ h5
    rw [add_block] at h6
    exact hW _ (hin (by omega)) h6
   have h5:=hcc j _ (List.getElem?_eq_getElem (by omega))
   have h6:=hcc' j _ (List.getElem?_eq_getElem (by omega))
   have h7:W'.cell? (ad.add (i.toNat*d.sz+j))=W.cell? (ad.add (i.toNat*d.sz+j)):=by simp [World.cell?,add_block,hb]
   rw [h7,h5] at h6
   rw [List.getElem?_eq_getElem (by omega),List.getElem?_eq_getElem (by omega)]
   exact h6
  ·rw [List.getElem?_eq_none (by omega),List.getElem?_eq_none (by omega)]
 rw [hc]
 exact hK'
def N {α:Type} (d:Kd α) (e:Nat) (w:World) (base:Nat) (ok:Nat→Prop) (v:Value) (xs:List α):Prop:=
 (∀ k,v.ownBlock=some k→ok k)∧ ∃ rows:List (List Value),rows.length=xs.length∧(raw d.sz).R e w base (fun k=>some k=v.ownBlock) v rows∧ ∀ (j:Nat) (x:α) (c:List Value),xs[j]?=some x→rows[j]?=some c→FK d w (fun k=>ok k∧some k≠v.ownBlock) x c
theorem R_N (h:d.R e w base ok v xs):N d e w base ok v xs:=by
 obtain ⟨h0,inner,ho,hr⟩:=h
 refine ⟨h0,chunks d.sz xs.length inner,gG _ _ _,⟨fun k hk=>hk.symm,inner,by rw [gG];exact ho,Ez hr (fun x c hp=>⟨d.K_len (d.K_of_M hp),d.K_one (d.K_of_M hp)⟩)⟩,fun j x c hx hc=>?_⟩
 rw [oV hc]
 exact sQ (hr.2 j x hx)
theorem Kg (d:Kd α) (e:Nat) (w:World) (base:Nat) (ok:Nat→Prop):N d e w base ok (.slice none 0 0) []:=R_N (fI _ _ _ _ _)
theorem yP (h:N d e w base ok v xs) (hm: ∀ k,ok k→k<w.heap.size→w1.heap[k]?=w.heap[k]?):N d e w1 base ok v xs:=by
 obtain ⟨h0,rows,hl,hR,hf⟩:=h
 exact ⟨h0,rows,hl,bQ hR (fun k hk hlt=>hm k (h0 k hk.symm) hlt),fun j x c hx hc=>jW (hf j x c hx hc) (fun k hk hlt=>hm k hk.1 hlt)⟩
theorem uX {n c:Nat} (h:N d e w base ok (.slice A n c) xs):n=xs.length∧n≤c∧d.C w A xs.length xs:=by
 obtain ⟨_,rows,hl,hR,hf⟩:=h
 obtain ⟨hn,hc,hC⟩:=bM hR
 refine ⟨by omega,hc,?_⟩
 rw [hl] at hC
 refine ⟨rfl,hC.2.1,fun hp=>?_⟩
 obtain ⟨ad,he,hcell⟩:=hC.2.2 hp
 refine ⟨ad,he,fun j p hj=>?_⟩
 have hjl:j<rows.length:=by have:=(List.getElem?_eq_some_iff.1 hj).1;omega
 obtain ⟨c',hcl,hK,hcc⟩:=hcell j _ (List.getElem?_eq_getElem hjl)
 have hk:=oO (hf j p _ hj (List.getElem?_eq_getElem hjl))
 refine ⟨c',hcl,?_,hcc⟩
 rw [show c'=rows[j] from hK.1]
 exact hk
theorem N_F {n:Nat} (h:N d e w base ok (.slice A n cc) xs):F d w ok A n xs:=fun W' hW=>by
 have h2:=uX (yP h hW)
 rw [h2.1]
 exact h2.2.2
end
end Kd
end Go.Proofs.YtmnjjdeaccgjlaaGreatW.PrintWords
namespace Go.Proofs.YtmnjjdeaccgjlaaGreatW.PrintMore
open Go.RowKit Go.Proofs.YtmnjjdeaccgjlaaGreatW.PrintWords
namespace Kd
open Go.Proofs.YtmnjjdeaccgjlaaGreatW.PrintWords.Kd
end Kd
namespace Kd
open Go.Proofs.YtmnjjdeaccgjlaaGreatW.PrintWords.Kd
end Kd
theorem iH (k k':IntKind) (x y:Int):Builtin.max2 (.int k x) (.int k' y)=pure (.int k (if x<y then y else x)):=by simp only [Builtin.max2,gt_iff_lt]
theorem iJ (k k':IntKind) (x y:Int):Builtin.min2 (.int k x) (.int k' y)=pure (.int k (if y<x then y else x)):=by simp only [Builtin.min2]
theorem jm (ats:Array TypeId) (ty:TypeId) (a b:Value):Builtin.max_ ats ty #[a,b]=(Builtin.max2 a b>>=fun s=>pure s):=by simp only [Builtin.max_,List.foldlM_cons,List.foldlM_nil]
theorem jo (ats:Array TypeId) (ty:TypeId) (a b:Value):Builtin.min_ ats ty #[a,b]=(Builtin.min2 a b>>=fun s=>pure s):=by simp only [Builtin.min_,List.foldlM_cons,List.foldlM_nil]
theorem gH (ats:Array TypeId) (ty:TypeId) (a b c:Value):Builtin.max_ ats ty #[a,b,c]=(Builtin.max2 a b>>=fun s=>Builtin.max2 s c>>=fun s=>pure s):=by simp only [Builtin.max_,List.foldlM_cons,List.foldlM_nil]
theorem gJ (ats:Array TypeId) (ty:TypeId) (a b c:Value):Builtin.min_ ats ty #[a,b,c]=(Builtin.min2 a b>>=fun s=>Builtin.min2 s c>>=fun s=>pure s):=by simp only [Builtin.min_,List.foldlM_cons,List.foldlM_nil]
theorem iI (ats:Array TypeId) (ty:TypeId) (a b c d:Value):Builtin.max_ ats ty #[a,b,c,d]=(Builtin.max2 a b>>=fun s=>Builtin.max2 s c>>=fun s=>Builtin.max2 s d>>=fun s=>pure s):=by simp only [Builtin.max_,List.foldlM_cons,List.foldlM_nil]
theorem iK (ats:Array TypeId) (ty:TypeId) (a b c d:Value):Builtin.min_ ats ty #[a,b,c,d]=(Builtin.min2 a b>>=fun s=>Builtin.min2 s c>>=fun s=>Builtin.min2 s d>>=fun s=>pure s):=by simp only [Builtin.min_,List.foldlM_cons,List.foldlM_nil]
end Go.Proofs.YtmnjjdeaccgjlaaGreatW.PrintMore
namespace Go.Proofs.YtmnjjdeaccgjlaaGreatW.PrintWords
open Go.RowKit
section
variable {P:Program} {ops:Array Oper} {rest:List Oper} {o:Oper} {a:Act} {Q:Exit→Act→World→Prop} {W:World}
theorem iT {f:FuncId} {as_:Array Operand} {ts:Array TypeId} (_ho:o.op= .call { callee:= .value (.func f),args:=as_,argTypes:=ts }) (h:wpList P ops Q (o::rest) a W):wpList P ops Q (o::rest) a W:=h
theorem bW {b:Builtin} {xs:Array Operand} {ts:Array TypeId} (_ho:o.op= .call { callee:= .builtin b,args:=xs,argTypes:=ts }) (h:wpList P ops Q (o::rest) a W):wpList P ops Q (o::rest) a W:=h
end
namespace Kd
end Kd
end Go.Proofs.YtmnjjdeaccgjlaaGreatW.PrintWords
namespace Go.Proofs.YtmnjjdeaccgjlaaGreatW.PrintWords
open Go.RowKit
namespace Kd
def V {α:Type} (d:Kd α) (_e:Nat) (W:World) (_base:Nat) (ok:Nat→Prop) (v:Value) (xs:List α):Prop:= ∃ A c,v= .slice A xs.length c∧xs.length≤c∧F d W ok A xs.length xs
section
variable {α β:Type} {d:Kd α} {e base base' n m c g N' lo hi:Nat} {ok ok' S:Nat→Prop} {w W w1:World} {A:Option Addr} {ad:Addr} {u v v1:Value} {xs:List α}
theorem KM (d:Kd α) (e:Nat) (W:World) (base:Nat) (ok:Nat→Prop):V d e W base ok (.slice none 0 0) []:=⟨none,0,rfl,Nat.le_refl _,jD d W ok⟩
theorem vO {k:IntKind} {l:List Int} (h:(Kd.int k).C w (some ad) n l) (i:Int) (h0:0≤i) (h1:i<n):w.cell? (ad.add i.toNat)=some (.int k (rd l i)):=by
 obtain ⟨ad',he,hc⟩:=kG h i h0 h1
 injection he with he
 subst he
 exact hc
end
end Kd
end Go.Proofs.YtmnjjdeaccgjlaaGreatW.PrintWords
namespace Go.Proofs.YtmnjjdeaccgjlaaGreat.Tower
open Go Go.RowKit Go.Proofs.YtmnjjdeaccgjlaaGreatW.PrintWords Go.Proofs.YtmnjjdeaccgjlaaGreatW.PrintLast Go.Proofs.YtmnjjdeaccgjlaaGreatW.PrintMore
def Ord (is:List (Nat × Option Tmp)) (G:Prop):Prop:=G
theorem eO (is:List (Nat × Option Tmp)) {G:Prop} (h:Ord is G):G:=h
theorem aZ {G:Prop} (h:G):Ord [] G:=h
section
variable {P:Program} {ops:Array Oper} {Q:Exit→Act→World→Prop} {md:Region.Mode} {S:World→Prop} {ds:List Nat} {T:Bool × List (List Nat × List Nat)} {B:List Nat}
theorem gT (l:Array Bool) (i:Nat):(l.toList.set i true == (l.setIfInBounds i true).toList)=true:=by rw [Array.toList_setIfInBounds];exact beq_self_eq_true _
theorem dZ {i:Nat} {is:List (Nat × Option Tmp)} {N:Option Tmp} {oi:Oper} {v:Value} {fuel:Nat} {l:Array Bool} {a:Act} {w:World} (hT:ak (fq md ops=T)) (hc:(T.1 && lu T.2 l.toList i && je T.2 l.toList i)=true) (hi:ops[i]?=some oi) (hN:oi.dst=N)
  (hQ: ∀ c a w,Q (.panic c) (a.put oi.dst v) w→Q (.panic c) a w) (hy:Yields P ops oi v a) {a':Act} (ha:a.put N v=a')
  (h:Ord is (aV P md ops Q S ds fuel (l.setIfInBounds i true) a' w)):Ord ((i,N)::is) (aV P md ops Q S ds (fuel+1) l a w):=
 bS (l.setIfInBounds i true) hi hN (bf hT.out (by unfold MF;rw [hc,gT];rfl)) hQ hy ha h
theorem iW {i:Nat} {is:List (Nat × Option Tmp)} {N:Option Tmp} {oi:Oper} {v:Value} {fuel:Nat} {l:Array Bool} {a:Act} {w:World} (hT:ak (fq md ops=T)) (hB:ak (bA T.2 B=true)) (hc:(T.1 && lu T.2 l.toList i && je T.2 l.toList i && mW T.2 l.toList && IA T.2 B l.toList ds i)=true) (hi:ops[i]?=some oi) (hN:oi.dst=N)
  (hQ: ∀ c a w,Q (.panic c) (a.put oi.dst v) w→Q (.panic c) a w) (hS:S w) (hy:YieldsIf P ops S oi v a) {a':Act} (ha:a.put N v=a')
  (h:Ord is (aV P md ops Q S ds fuel (l.setIfInBounds i true) a' w)):Ord ((i,N)::is) (aV P md ops Q S ds (fuel+1) l a w):=
 fw (l.setIfInBounds i true) hi hN (bN hT.out hB.out (by unfold Js;rw [hc,gT];rfl)) hQ hy hS ha h
theorem dR {i:Nat} (N:Option Tmp) {oi:Oper} {fuel:Nat} {l:Array Bool} {a:Act} {w:World} (hT:ak (fq md ops=T)) (hc:(kT T.2 l.toList == [i])=true) (hi:ops[i]?=some oi) (hN:oi.dst=N) (hd:i∉ds)
  (h: ∀ K:Act→World→Prop,Shut (∀ a' w',S w'→(S w'→aV P md ops Q S ds fuel (l.setIfInBounds i true) a' w')→K a' w')→if Region.wanted oi (yielded ops a.tmps)=true then Oper.wp P oi a w K Q else K (a.put N undef) w):
  aV P md ops Q S ds (fuel+1) l a w:=nS (l.setIfInBounds i true) hi hN (dV hT.out (by rw [hc,gT];rfl)) hd h
theorem bP {i:Nat} (N:Option Tmp) {oi:Oper} {fuel:Nat} {l:Array Bool} {a:Act} {w:World} (hT:ak (fq md ops=T)) (hc:(kT T.2 l.toList == [i])=true) (hi:ops[i]?=some oi) (hN:oi.dst=N) (hd:i∈ds)
  (h: ∀ K:Act→World→Prop,Shut (∀ a' w',aV P md ops Q S ds fuel (l.setIfInBounds i true) a' w'→K a' w')→if Region.wanted oi (yielded ops a.tmps)=true then Oper.wp P oi a w K Q else K (a.put N undef) w):
  aV P md ops Q S ds (fuel+1) l a w:=jI (l.setIfInBounds i true) hi hN (dV hT.out (by rw [hc,gT];rfl)) hd h
theorem bG {id n:Nat} {a:Act} {w:World} {B:List Nat} (hm:P.follows .mixedOrders=true) (hn:ops.size=n) (hT:fq .any ops=T) (hB:bA T.2 B=true) (hS:S w.drew)
  (h:S w.drew→ak (fq .any ops=T)→ak (bA T.2 B=true)→aV P .any ops Q S ds n (Array.replicate n false) a w.drew):(Code.region id ops true).wp P Q a w:=
 jL (Array.replicate n false) hm hn rfl hS (fun h1=>h h1 ⟨hT⟩ ⟨hB⟩)
end
theorem p1_ {α:Type} (l:List α) (i:Nat) (a:α):l.toArray.setIfInBounds i a=(l.set i a).toArray:=List.setIfInBounds_toArray ..
theorem p2_ {α:Type} (a:α) (r:List α) (b:α):(a::r).set 0 b=b::r:=rfl
theorem p3_ {α:Type} (a:α) (r:List α) (n:Nat) (b:α):(a::r).set (n+1) b=a::r.set n b:=rfl
end Go.Proofs.YtmnjjdeaccgjlaaGreat.Tower
namespace Go.Proofs.YtmnjjdeaccgjlaaGreat.Tower
open Go Go.RowKit Go.Proofs.YtmnjjdeaccgjlaaGreatW.PrintWords Go.Proofs.YtmnjjdeaccgjlaaGreatW.PrintLast Go.Proofs.YtmnjjdeaccgjlaaGreatW.PrintMore Go.Proofs.YtmnjjdeaccgjlaaGreat.Own
structure Th where
 log:List Int
 at_:Int
 spent:Bool
 in_:Bool
 done:Bool
 out:List Int
def Jv (work lv ov:Value) (th:Th):Array Value:= #[work,lv,.int .i64 th.at_,.bool th.spent,.bool th.in_,.bool th.done,ov]
def bX (ok:Nat→Prop) (tb:Nat) (work lv:Value) (A:Option Addr) (c:Nat) (th:Th) (w:World):Prop:=
 ok tb∧(∀ k,ok k→k<w.heap.size)∧w.heap[tb]?=some (.cells (Jv work lv (.slice A th.out.length c) th) 176 (0,0))∧
  (Kd.int .i64).R 2 w 0 (fun k=>ok k∧k≠tb) lv th.log∧th.out.length≤c∧(Kd.int .i64).F w (fun k=>ok k∧k≠tb∧some k≠lv.ownBlock) A th.out.length th.out
def dA (ok:Nat→Prop) (tb:Nat) (work:Value) (th:Th) (w:World):Prop:= ∃ lv A c,bX ok tb work lv A c th w
section
variable {ok:Nat→Prop} {tb:Nat} {work lv:Value} {A:Option Addr} {c:Nat} {th:Th} {w w1:World}
theorem bX.step (h:bX ok tb work lv A c th w) (hs:w.heap.size≤w1.heap.size) (hm: ∀ k,ok k→k<w.heap.size→w1.heap[k]?=w.heap[k]?):bX ok tb work lv A c th w1:=by
 obtain ⟨h1,h2,hb,hl,hc,ho⟩:=h
 exact ⟨h1,fun k hk=>Nat.lt_of_lt_of_le (h2 k hk) hs,(hm tb h1 (h2 tb h1)).trans hb,Kd.bQ hl (fun k hk hlt=>hm k hk.1 hlt),hc,Kd.eU ho (fun k hk hlt=>hm k hk.1 hlt)⟩
theorem bX.below (h:bX ok tb work lv A c th w) (hb:Below w.heap.size w w1):bX ok tb work lv A c th w1:=h.step hb.size (fun k _ hlt=>hb.block k hlt)
theorem bX.drewN (h:bX ok tb work lv A c th w) (m:Nat):bX ok tb work lv A c th (w.drewN m):=h.step (Nat.le_refl _) (fun _ _ _=>rfl)
theorem bX.drew (h:bX ok tb work lv A c th w):bX ok tb work lv A c th w.drew:=h.step (Nat.le_refl _) (fun _ _ _=>rfl)
theorem bX.at_set (h:bX ok tb work lv A c th w) (n:Int):bX ok tb work lv A c { th with at_:=n } (w.setCell ⟨tb,2,none⟩ (.int .i64 n)):=by
 obtain ⟨h1,h2,hb,hl,hc,ho⟩:=h
 exact ⟨h1,fun k hk=>by simpa [World.setCell] using h2 k hk,bH hb 2 _,Kd.bV hl (fun k hk=>hk.2) _,hc,Kd.kX ho (fun k hk=>hk.2.1) _⟩
theorem bX.oh (h:bX ok tb work lv A c th w) (b:Bool):bX ok tb work lv A c { th with spent:=b } (w.setCell ⟨tb,3,none⟩ (.bool b)):=by
 obtain ⟨h1,h2,hb,hl,hc,ho⟩:=h
 exact ⟨h1,fun k hk=>by simpa [World.setCell] using h2 k hk,bH hb 3 _,Kd.bV hl (fun k hk=>hk.2) _,hc,Kd.kX ho (fun k hk=>hk.2.1) _⟩
theorem bX.nu (h:bX ok tb work lv A c th w) (b:Bool):bX ok tb work lv A c { th with in_:=b } (w.setCell ⟨tb,4,none⟩ (.bool b)):=by
 obtain ⟨h1,h2,hb,hl,hc,ho⟩:=h
 exact ⟨h1,fun k hk=>by simpa [World.setCell] using h2 k hk,bH hb 4 _,Kd.bV hl (fun k hk=>hk.2) _,hc,Kd.kX ho (fun k hk=>hk.2.1) _⟩
theorem bX.DJ (h:bX ok tb work lv A c th w) (b:Bool):bX ok tb work lv A c { th with done:=b } (w.setCell ⟨tb,5,none⟩ (.bool b)):=by
 obtain ⟨h1,h2,hb,hl,hc,ho⟩:=h
 exact ⟨h1,fun k hk=>by simpa [World.setCell] using h2 k hk,bH hb 5 _,Kd.bV hl (fun k hk=>hk.2) _,hc,Kd.kX ho (fun k hk=>hk.2.1) _⟩
theorem bX.Bl {v1:Value} {n:Int} {N:Nat} (h:bX ok tb work lv A c th w) (hN:w.heap.size≤N) (hg:w.grownBy w1 lv.ownBlock) (hat:v1.ownBlock=lv.ownBlock∨ ∃ b,v1.ownBlock=some b∧N≤b)
  (hr:(Kd.int .i64).R 2 w1 0 (fun k=>(ok k∧k≠tb)∨N≤k) v1 (th.log++ [n])):
  bX (fun k=>ok k∨(N≤k∧k<w1.heap.size)) tb work v1 A c { th with log:=th.log++ [n] } (w1.setCell ⟨tb,1,none⟩ v1):=by
 obtain ⟨h1,h2,hb,hl,hc,ho⟩:=h
 have htb:=h2 tb h1
 have hne:some tb≠lv.ownBlock:=fun e=>(hl.1 tb e.symm).2 rfl
 refine ⟨.inl h1,fun k hk=>?_,bH (bJ hb hg hne) 1 _,?_,hc,?_⟩
 ·have hs:(w1.setCell ⟨tb,1,none⟩ v1).heap.size=w1.heap.size:=by simp [World.setCell]
  rw [hs]
  rcases hk with hk | hk
  ·exact Nat.lt_of_lt_of_le (h2 k hk) hg.size
  ·exact hk.2
 ·refine Kd.bV (Kd.bq (Kd.bL hr) (fun k hk=>?_)) (fun k hk=>hk.2) _
  rcases hk.1 with h3 | h3
  ·exact ⟨.inl h3.1,h3.2⟩
  ·exact ⟨.inr ⟨h3,hk.2.2.1⟩,by omega⟩
 ·refine Kd.kX (Kd.dh (Kd.eU (Kd.dX ho) (fun k hk hlt=>hg.block k hlt hk.1.2.2)) (fun k hk=>⟨.inl hk.1.1,hk.1.2.1,?_⟩)) (fun k hk=>hk.2.1) _
  rcases hat with e | ⟨b,e,hle⟩
  ·rw [e];exact hk.1.2.2
  ·rw [e];intro he;injection he with he;have:=hk.2;omega
theorem bX.IQ {okv:Nat→Prop} {base:Nat} {Av:Option Addr} {cv:Nat} {l:List Int} (h:bX ok tb work lv A c th w) (hv:(Kd.int .i64).R 2 w base okv (.slice Av l.length cv) l) (hn: ∀ k,okv k→ ¬ ok k):
  bX (fun k=>ok k∨some k=(Value.slice Av l.length cv).ownBlock) tb work lv Av cv { th with out:=l } (w.setCell ⟨tb,6,none⟩ (.slice Av l.length cv)):=by
 obtain ⟨h1,h2,hb,hl,hc,ho⟩:=h
 have ht:=Kd.iR rfl hv
 refine ⟨.inl h1,fun k hk=>?_,bH hb 6 _,?_,(Kd.bM hv).2.1,?_⟩
 ·have hs:(w.setCell ⟨tb,6,none⟩ (.slice Av l.length cv)).heap.size=w.heap.size:=by simp [World.setCell]
  rw [hs]
  rcases hk with hk | hk
  ·exact h2 k hk
  ·exact Kd.qP hv k hk.symm
 ·exact Kd.bV (Kd.bq hl (fun k hk=>⟨.inl hk.1,hk.2⟩)) (fun k hk=>hk.2) _
 ·refine Kd.kX (Kd.dh (Kd.R_F ht) (fun k hk=>⟨.inr hk,?_,?_⟩)) (fun k hk=>hk.2.1) _
  ·intro e
   exact hn k (hv.1 k hk.symm) (e▸h1)
  ·intro e
   exact hn k (hv.1 k hk.symm) (hl.1 k e.symm).1
theorem dA.step (h:dA ok tb work th w) (hs:w.heap.size≤w1.heap.size) (hm: ∀ k,ok k→k<w.heap.size→w1.heap[k]?=w.heap[k]?):dA ok tb work th w1:=by
 obtain ⟨lv,A,c,h⟩:=h
 exact ⟨lv,A,c,h.step hs hm⟩
end
theorem kK {k:IntKind} {e:Nat} {W:World} {base:Nat} {ok:Nat→Prop} {A:Option Addr} {n cap:Nat} {xs:List Int} (h:(Kd.int k).R e W base ok (.slice A n cap) xs) (i:Int) (h0:0≤i) (h1:i<n):
  ∃ gl,A=some ⟨gl,0,none⟩∧ok gl∧W.cell? ⟨gl,i.toNat,none⟩=some (.int k (xs.getD i.toNat 0)):=by
 cases A with
 | none=>
  have h2:=(Kd.bM h).2.2
  have h3:=(Kd.bM h).1
  obtain ⟨_,inner,ho,hr⟩:=h
  rcases ho.2 with ⟨hv,hn⟩ | ⟨g,cap',cur,hv,_⟩
  ·omega
  ·cases hv
 | some ad=>
  obtain ⟨gl,rfl⟩:=Kd.oP h
  obtain ⟨c,hcl,hM,hcc⟩:=Kd.Kl h 0 i h0 h1
  have hM':c= [.int k (xs.getD i.toNat 0)]:=hM
  refine ⟨gl,rfl,h.1 gl (by simp [Value.ownBlock]),?_⟩
  have:=hcc 0 (.int k (xs.getD i.toNat 0)) (by rw [hM'];rfl)
  rw [jf,Nat.zero_add] at this
  simpa [Kd.int,Kd.scalar] using this
theorem jR {P:Program} (d:Nat) (t:TypeId) {a b:Array TypeId} {c:Bool} (g:Fn) (fst cap:Array Value) (w:World) (h:P.underlying t=some (.func a b c)):(Op.equalIn (d+1) t (.func g fst cap) .nilFunc).run P w= .ok false w:=by
 simp [Op.equalIn,run_underlying h]
theorem iq {P:Program} (t:TypeId) {a b:Array TypeId} {c:Bool} (g:Fn) (fst cap:Array Value) (w:World) (h:P.underlying t=some (.func a b c)):(binOp .eql t (.func g fst cap) .nilFunc).run P w= .ok (.bool false) w:=by
 have:=jR (P:=P) 9999 t g fst cap w h
 simp only [binOp]
 simp [Op.equal,Op.maxDepth,this]
theorem tX (g:Fn) (fst cap:Array Value) (w:World):(binOp .eql 224 (.func g fst cap) .nilFunc).run Tryz.prog w= .ok (.bool false) w:=iq _ g fst cap w Tryz.underlying224
theorem tY (g:Fn) (fst cap:Array Value) (w:World):(binOp .eql 172 (.func g fst cap) .nilFunc).run Tryz.prog w= .ok (.bool false) w:=iq _ g fst cap w Tryz.underlying172
theorem tZ (g:Fn) (fst cap:Array Value) (w:World):(binOp .eql 23 (.func g fst cap) .nilFunc).run Tryz.prog w= .ok (.bool false) w:=iq _ g fst cap w Tryz.underlying23
theorem AZ:(Tryz.prog.info? 2).map (fun i=>(i.zero,i.size,i.bytes))=some (some (.int .i64 0),1,8):=by kernel_rfl
theorem nT (w:World):(Instr.panic (.iface 260 (.agg #[]))).run Tryz.prog w= .halt (.panic (.iface 260 (.agg #[]))) w:=rfl
attribute [local go_sem] tX tY tZ nT
theorem tT (ok:Nat→Prop) (tb:Nat) (work:Value) (th:Th) (w:World) (g:Fn) (fst cap:Array Value) (h:dA ok tb work th w) (hin:th.in_=true) (h0:0≤th.at_) (hat:th.at_<th.log.length) (hl:th.log.length<1000000) (r:Int) (hr:th.log.getD th.at_.toNat 0=r):
  Calls Tryz.prog 137 #[.pointer (some ⟨tb,0,none⟩),.func g fst cap] w fun e w'=>e= .returned (.int .i64 r)∧dA ok tb work { th with at_:=th.at_+1 } w'∧Moves ok ok w w':=by
 obtain ⟨lv,A,c,h⟩:=h
 obtain ⟨H1,H2,hb,hR,hc,ho⟩:=id h
 obtain ⟨Al,cl,rfl⟩:=Kd.aJ hR
 have HI:=Am_ h
 have HB:=Am_ hb
 have H0:=Am_ H1
 have c1:w.cell? ⟨tb,1,none⟩=some (.slice Al th.log.length cl):=(af hb 1).trans rfl
 have c2:w.cell? ⟨tb,2,none⟩=some (.int .i64 th.at_):=(af hb 2).trans rfl
 have c4:w.cell? ⟨tb,4,none⟩=some (.bool true):=(af hb 4).trans (by rw [←hin];rfl)
 have f2:=ah hb 2
 have d1:decide (th.at_<(th.log.length:Int))=true:=decide_eq_true hat
 have hw1:wrap64 (th.at_+1)=th.at_+1:=by unfold wrap64;omega
 have hw2:wrap64 (th.at_+1 - 1)=th.at_:=by unfold wrap64;omega
 obtain ⟨gl,rfl,⟨hgo,hne⟩,hcl⟩:=kK hR th.at_ h0 hat
 rw [hr] at hcl
 clear hr h ho hc H1 H2 HB
 go_enter Tryz.func137,Tryz.ntmps137
 go_wp2_with fail
 go_quiet (fail)
 rename_i nq
 have n0_:=Am_ ((HI.out.drewN nq).at_set (th.at_+1))
 have n1_:=Am_ (((Moves.refl ok w).drewN nq).set (p:=⟨tb,2,none⟩) (.inl H0.out) (.int .i64 (th.at_+1)))
 clear HI
 go_upto_region 5 with fail
 have g1:=(cell_far (W:=w.drewN nq) (a:=⟨gl,th.at_.toNat,none⟩) (p:=⟨tb,2,none⟩) hne (.int .i64 (th.at_+1))).trans hcl
 have g2:=(af (bH (w:=w.drewN nq) hb 2 (.int .i64 (th.at_+1))) 1).trans (rfl:_=some (Value.slice (some ⟨gl,0,none⟩) th.log.length cl))
 have g3:=(af (bH (w:=w.drewN nq) hb 2 (.int .i64 (th.at_+1))) 2).trans (rfl:_=some (Value.int .i64 (th.at_+1)))
 generalize (w.drewN nq).setCell ⟨tb,2,none⟩ (.int .i64 (th.at_+1))=W at n0_ n1_ g1 g2 g3 ⊢
 clear c1 c2 c4 f2 d1
 go_quiet (fail)
 go_wp2_with fail
 go_ret
 exact ⟨rfl,⟨_,_,_,n0_.out.drewN _⟩,n1_.out.drewN _⟩
theorem qi (ok:Nat→Prop) (tb:Nat) (work:Value) (th:Th) (w:World) (g:Fn) (fst cap:Array Value) (h:dA ok tb work th w) (hin:th.in_=true) (hat:(th.log.length:Int)≤th.at_) (hs:th.spent=true):
  Calls Tryz.prog 137 #[.pointer (some ⟨tb,0,none⟩),.func g fst cap] w fun e w'=>e= .panicked [⟨.iface 260 (.agg #[]),false,false⟩]∧dA ok tb work th w'∧Moves ok ok w w':=by
 obtain ⟨lv,A,c,h⟩:=h
 obtain ⟨H1,H2,hb,hR,hc,ho⟩:=id h
 obtain ⟨Al,cl,rfl⟩:=Kd.aJ hR
 have HI:=Am_ h
 have c1:w.cell? ⟨tb,1,none⟩=some (.slice Al th.log.length cl):=(af hb 1).trans rfl
 have c2:w.cell? ⟨tb,2,none⟩=some (.int .i64 th.at_):=(af hb 2).trans rfl
 have c3:w.cell? ⟨tb,3,none⟩=some (.bool true):=(af hb 3).trans (by rw [←hs];rfl)
 have c4:w.cell? ⟨tb,4,none⟩=some (.bool true):=(af hb 4).trans (by rw [←hin];rfl)
 have d1:decide (th.at_<(th.log.length:Int))=false:=decide_eq_false (by omega)
 have HM:=Am_ (Moves.refl ok w)
 clear h ho hc H1 H2 hb hR hin hs hat
 go_enter Tryz.func137,Tryz.ntmps137
 go_wp2_with fail
 go_quiet (fail)
 go_wp2_with fail
 exact ⟨rfl,rfl,⟨_,_,_,HI.out.drewN _⟩,HM.out.drewN _⟩
theorem AB (okT okS:Nat→Prop) (tb:Nat) (work:Value) (th:Th) (w:World) (gf:FuncId) (cap:Array Value) (Post:Int→(Nat→Prop)→World→Prop) (h:dA okT tb work th w) (hin:th.in_=true) (hat:th.at_=(th.log.length:Int)) (hs:th.spent=false) (hl:th.log.length<1000000)
  (hd: ∀ k,okT k→ ¬ okS k)
  (hP: ∀ n ok1 w1 w2,Post n ok1 w1→w1.heap.size≤w2.heap.size→(∀ k,ok1 k→k<w1.heap.size→w2.heap[k]?=w1.heap[k]?)→Post n ok1 w2)
  (hb: ∀ n ok1 w1,Post n ok1 w1→ ∀ k,ok1 k→k<w1.heap.size)
  (he: ∀ w1:World,(callFunc gf cap).run Tryz.prog w1= .ok (.enter gf cap) w1)
  (hc: ∀ w1,Moves okT okT w w1→Calls Tryz.prog gf cap w1 fun e w2=> ∃ n okS1,e= .returned (.int .i64 n)∧Post n okS1 w2∧Moves okS okS1 w1 w2):
  Calls Tryz.prog 137 #[.pointer (some ⟨tb,0,none⟩),.func (.func gf) #[] cap] w fun e w'=> ∃ n okT1 okS1,e= .returned (.int .i64 n)∧dA okT1 tb work { log:=th.log++ [n],at_:=th.at_+1,spent:=true,in_:=true,done:=th.done,out:=th.out } w'∧Post n okS1 w'∧(∀ k,okT1 k→ ¬ okS1 k)∧Moves (fun k=>okT k∨okS k) (fun k=>okT1 k∨okS1 k) w w':=by
 obtain ⟨lv,A,c,h⟩:=h
 obtain ⟨H1,H2,hbx,hR,hcc,ho⟩:=id h
 obtain ⟨Al,cl,rfl⟩:=Kd.aJ hR
 have HI:=Am_ h
 have HC:=Am_ hc
 have HE:=Am_ he
 have HD:=Am_ hd
 have HP:=Am_ hP
 have HBD:=Am_ hb
 have H0:=Am_ H1
 have H2L:=Am_ H2
 have HT:=Am_ hat
 have HIN:=Am_ hin
 have HBX:=Am_ hbx
 have c1:w.cell? ⟨tb,1,none⟩=some (.slice Al th.log.length cl):=(af hbx 1).trans rfl
 have c2:w.cell? ⟨tb,2,none⟩=some (.int .i64 th.at_):=(af hbx 2).trans rfl
 have c3:w.cell? ⟨tb,3,none⟩=some (.bool false):=(af hbx 3).trans (by rw [←hs];rfl)
 have c4:w.cell? ⟨tb,4,none⟩=some (.bool true):=(af hbx 4).trans (by rw [←hin];rfl)
 have f3:=ah hbx 3
 have f4:=ah hbx 4
 have d1:decide (th.at_<(th.log.length:Int))=false:=decide_eq_false (by omega)
 clear h ho hcc H1 H2 hbx hR hin hs hat hd hP hb hc he
 go_enter Tryz.func137,Tryz.ntmps137
 go_wp2_with fail
 go_quiet (fail)
 rename_i nq
 go_wp2_with fail
 have HB1:=Am_ (bH (bH (w:=w.drewN nq) HBX.out 3 (.bool true)) 4 (.bool false))
 have HM1:=Am_ ((((Moves.refl okT w).drewN nq).set (p:=⟨tb,3,none⟩) (.inl H0.out) (.bool true)).set (p:=⟨tb,4,none⟩) (.inl H0.out) (.bool false))
 have HI1:=Am_ (((HI.out.drewN nq).oh true).nu false)
 clear HI HBX c1 c2 c3 c4 f3 f4
 generalize ((w.drewN nq).setCell ⟨tb,3,none⟩ (.bool true)).setCell ⟨tb,4,none⟩ (.bool false)=w1 at HB1 HM1 HI1 ⊢
 rw [HE.out,Oper.upon_enter]
 refine (HC.out w1 HM1.out).mono ?_
 rintro e w2 ⟨n,okS1,rfl,hpost,hmv⟩
 dsimp only
 have htS: ¬ okS tb:=HD.out tb H0.out
 have HB2:=Am_ ((hmv.block tb (bD HB1.out) htS).trans HB1.out)
 have HI2:=Am_ (HI1.out.step hmv.size (fun k hk hlt=>hmv.block k hlt (HD.out k hk)))
 have HM2:ak (Moves (fun k=>okT k∨okS k) (fun k=>okT k∨okS1 k) w w2):=⟨((HM1.out.part (ok:=fun k=>okT k∨okS k) (okB:=okS) (fun _ h=> .inl h) (fun _ h=> .inr h)).trans (hmv.part (okB:=okT) (fun _ h=> .inr h) (fun _ h=> .inl h))).owns (fun k hk=>hk.elim (fun h=> .inl (.inl h)) (fun h=>(hmv.fresh k h).elim (fun h=> .inl (.inr h)) (fun h=> .inr (Nat.le_trans HM1.out.size h))))⟩
 have HPO:=Am_ hpost
 have HD1:ak (∀ k,okT k→ ¬ okS1 k):=⟨fun k hk hk1=>(hmv.fresh k hk1).elim (HD.out k hk) (fun h=>by have:=H2L.out k hk;have:=HM1.out.size;omega)⟩
 have HBL:=Am_ (HBD.out n okS1 w2 hpost)
 have f4:=ah HB2.out 4
 have c4:w2.cell? ⟨tb,4,none⟩=some (.bool false):=(af HB2.out 4).trans rfl
 clear hmv hpost HB1 HM1 HI1
 go_upto_region 11 with fail
 have n0_:=Am_ (HI2.out.nu true)
 have n1_:=Am_ (HM2.out.set (p:=⟨tb,4,none⟩) (.inl (.inl H0.out)) (.bool true))
 have n2_:=Am_ (HP.out n okS1 _ (w2.setCell ⟨tb,4,none⟩ (.bool true)) HPO.out (by simp [World.setCell]) (fun k hk _=>Below.heap_setCell w2 ⟨tb,4,none⟩ (.bool true) k (fun e=>HD1.out k ((show k=tb from e)▸H0.out) hk)))
 have n3_:=Am_ (bH HB2.out 4 (.bool true))
 have n4_:ak (∀ k,okS1 k→k<(w2.setCell ⟨tb,4,none⟩ (.bool true)).heap.size):=⟨fun k hk=>by simpa [World.setCell] using HBL.out k hk⟩
 clear HI2 HM2 HPO HB2 HBL f4 c4
 generalize w2.setCell ⟨tb,4,none⟩ (.bool true)=w3 at n0_ n1_ n2_ n3_ n4_ ⊢
 have c1:w3.cell? ⟨tb,1,none⟩=some (.slice Al th.log.length cl):=(af n3_.out 1).trans rfl
 go_upto_region 12 with (first | ((with_reducible refine bW (b:= .append) (xs:= #[.tmp 68,.tmp 70]) rfl ?_);at_builtin;refine Kd.iy (Kd.int .i64) (w0:=w3) 0 rfl (.tmp 68) (.tmp 70) 22 2 (.int .i64 0) 8 rfl Tryz.underlying22 AZ rfl (by decide) (by omega) (.slice Al th.log.length cl) th.log n [.int .i64 n] (fun k=>(okT k∧k≠tb)∨w3.heap.size≤k) (fun _=>False) rfl (by first | (go_simp;done) | (go_simp;rfl)) ?aP (fun _ hk=>hk.elim) ?aF ?aO ?aB ?aS ?aL ?_;(case aP=>exact rfl);(case aF=>exact fun k hk=> .inr hk);(case aO=>exact Kd.bq n0_.out.2.2.2.1 (fun k hk=> .inl hk));(case aB=>exact Below.refl _ _);(case aS=>exact Nat.zero_le _);(case aL=>have:=hl;omega);intro v5 w5 ho hb5 hg hat;obtain ⟨A5,cc5,rfl⟩:=Kd.aJ ho;have m0_:=Am_ ho;have m1_:=Am_ hg;have m2_:=Am_ hat;have f1:w5.frozen? ⟨tb,1,none⟩=false:=ah (bJ n3_.out hg (fun e=>(n0_.out.2.2.2.1.1 tb e.symm).2 rfl)) 1;have c5:w5.cell? ⟨tb,1,none⟩=some (.slice Al th.log.length cl):=(af (bJ n3_.out hg (fun e=>(n0_.out.2.2.2.1.1 tb e.symm).2 rfl)) 1).trans rfl;clear ho hb5 hg hat))
 have n5_:=Am_ (n0_.out.Bl (Nat.le_refl _) m1_.out m2_.out m0_.out)
 have n6_:ak (Moves (fun k=>okT k∨okS k) (fun k=>okT k∨okS1 k) w (w5.setCell ⟨tb,1,none⟩ (.slice A5 (th.log++ [n]).length cc5))):=⟨(n1_.out.grown m1_.out (fun k hk=> .inl (.inl (n0_.out.2.2.2.1.1 k hk).1))).set (p:=⟨tb,1,none⟩) (.inl (.inl H0.out)) _⟩
 have n7_:=Am_ (HP.out n okS1 w3 (w5.setCell ⟨tb,1,none⟩ (.slice A5 (th.log++ [n]).length cc5)) n2_.out (by simpa [World.setCell] using m1_.out.size) (fun k hk hlt=>(Below.heap_setCell w5 ⟨tb,1,none⟩ _ k (fun e=>HD1.out k ((show k=tb from e)▸H0.out) hk)).trans (m1_.out.block k hlt (fun e=>HD1.out k (n0_.out.2.2.2.1.1 k e.symm).1 hk))))
 have n8_:ak (∀ k,okS1 k→k<w3.heap.size):=n4_
 have el:(th.log++ [n]).length=th.log.length+1:=by simp
 rw [el] at n5_ n6_ n7_
 have n9_:ak (w3.heap.size≤(w5.setCell ⟨tb,1,none⟩ (.slice A5 (th.log.length+1) cc5)).heap.size):=⟨by simpa [World.setCell] using m1_.out.size⟩
 have n10_:ak (w.heap.size≤w3.heap.size):=⟨n1_.out.size⟩
 have n11_:ak ((w5.setCell ⟨tb,1,none⟩ (.slice A5 (th.log.length+1) cc5)).heap.size=w5.heap.size):=⟨by simp [World.setCell]⟩
 clear n0_ n1_ n2_ n3_ n4_ m0_ m1_ m2_ el c1
 generalize w5.setCell ⟨tb,1,none⟩ (.slice A5 (th.log.length+1) cc5)=w6 at n5_ n6_ n7_ n9_ n11_ ⊢
 have c2:w6.cell? ⟨tb,2,none⟩=some (.int .i64 th.at_):=(af n5_.out.2.2.1 2).trans rfl
 have f2:w6.frozen? ⟨tb,2,none⟩=false:=ah n5_.out.2.2.1 2
 have hw1:wrap64 (th.at_+1)=th.at_+1:=by have:=HT.out;unfold wrap64;omega
 go_wp2_with fail
 go_ret
 refine ⟨n,rfl,_,⟨_,_,_,n5_.out.at_set (th.at_+1)⟩,okS1,?_,?_,?_⟩
 ·exact HP.out n okS1 w6 _ n7_.out (by simp [World.setCell]) (fun k hk _=>Below.heap_setCell w6 ⟨tb,2,none⟩ _ k (fun e=>HD1.out k ((show k=tb from e)▸H0.out) hk))
 ·rintro k (hk | hk) hk1
  ·exact HD1.out k hk hk1
  ·have:=n8_.out k hk1
   omega
 ·refine (n6_.out.set (p:=⟨tb,2,none⟩) (.inl (.inl H0.out)) _).owns ?_
  rintro k ((hk | hk) | hk)
  ·exact .inl (.inl hk)
  ·have:=n10_.out
   exact .inr (by omega)
  ·exact n6_.out.fresh k (.inr hk)
end Go.Proofs.YtmnjjdeaccgjlaaGreat.Tower
namespace Go.Proofs.YtmnjjdeaccgjlaaGreat.Tower
open Go Go.RowKit Go.Proofs.YtmnjjdeaccgjlaaGreatW.PrintWords Go.Proofs.YtmnjjdeaccgjlaaGreatW.PrintLast Go.Proofs.YtmnjjdeaccgjlaaGreatW.PrintMore Go.Proofs.YtmnjjdeaccgjlaaGreat.Own
theorem lq (w:World):(Instr.typeAssert (.iface 260 (.agg #[])) 20 260 true).run Tryz.prog w= .ok (.tuple #[.agg #[],.bool true]) w:=by kernel_rfl
attribute [local go_sem] tX tY tZ nT lq
theorem xu (tb b1 b2:Nat) (x y:Bool) (cs:Array Value) (older:List PanicEntry) (w:World) (hb1:w.heap[b1]?=some (.cells #[.pointer (some ⟨tb,0,none⟩)] 33 (0,0))) (hbt:w.heap[tb]?=some (.cells cs 176 (0,0))) (h4:cs[4]?=some (.bool x))
  (hb2:w.heap[b2]?=some (.cells #[.bool y] 4 (0,0))) (hne:b2≠tb):
  CallsD Tryz.prog 180 #[.pointer (some ⟨b1,0,none⟩),.pointer (some ⟨b2,0,none⟩)] (.panicking ({ v:= .iface 260 (.agg #[]),recovered:=false }::older)) w fun e u' w'=>
   e= .returned (.tuple #[])∧u'= .panicking ({ v:= .iface 260 (.agg #[]),recovered:=true }::older)∧w'=((w.setCell ⟨tb,4,none⟩ (.bool false)).alloc (.cells #[] 260)).setCell ⟨b2,0,none⟩ (.bool false):=by
 have h1:w.cell? ⟨b1,0,none⟩=some (.pointer (some ⟨tb,0,none⟩)):=(af hb1 0).trans rfl
 have h4:w.cell? ⟨tb,4,none⟩=some (.bool x):=(af hbt 4).trans h4
 have f4:=ah hbt 4
 have hb2':=Am_ (aC (cO hb2 (p:=⟨tb,4,none⟩) hne (.bool false)) (.cells #[] 260))
 have c2:=(af hb2'.out 0).trans (rfl:_=some (Value.bool y))
 have f2:=ah hb2'.out 0
 refine callsD_of_wpS Tryz.func180 rfl fun c₀ cs0 hu=>?_
 simp only [Tryz.ntmps180,List.size_toArray,List.length_cons,List.length_nil,Nat.reduceAdd,Nat.reduceSub,Array.replicate_succ,Array.replicate_zero,List.push_toArray,List.append_toArray,List.nil_append,List.cons_append]
 apply wpS_seq
 refine wpS_of_wp ?_
 go_wp2_with fail
 simp only [Exit.thenS]
 refine wpS_seq ?_
 generalize hK:Exit.thenS _ _=K
 apply wpS_region
 simp [wpOpsS,go_sem,recoverD,hu]
 subst hK
 simp only [Exit.thenS]
 refine wpS_of_wp ?_
 go_wp2_with fail
 simp [bodyPostS,results,Tryz.results180]
theorem xq (tb b1 b2:Nat) (x y:Bool) (cs:Array Value) (w:World) (hb1:w.heap[b1]?=some (.cells #[.pointer (some ⟨tb,0,none⟩)] 33 (0,0))) (hbt:w.heap[tb]?=some (.cells cs 176 (0,0))) (h4:cs[4]?=some (.bool x))
  (hb2:w.heap[b2]?=some (.cells #[.bool y] 4 (0,0))) (hne:b2≠tb):
  CallsD Tryz.prog 180 #[.pointer (some ⟨b1,0,none⟩),.pointer (some ⟨b2,0,none⟩)] .returning w fun e u' w'=>
   e= .returned (.tuple #[])∧u'= .returning∧w'=w.setCell ⟨tb,4,none⟩ (.bool false):=by
 have h1:w.cell? ⟨b1,0,none⟩=some (.pointer (some ⟨tb,0,none⟩)):=(af hb1 0).trans rfl
 have h4:w.cell? ⟨tb,4,none⟩=some (.bool x):=(af hbt 4).trans h4
 have f4:=ah hbt 4
 have hb2':=Am_ (aC (cO hb2 (p:=⟨tb,4,none⟩) hne (.bool false)) (.cells #[] 260))
 have c2:=(af hb2'.out 0).trans (rfl:_=some (Value.bool y))
 have f2:=ah hb2'.out 0
 refine callsD_of_wpS Tryz.func180 rfl fun c₀ cs0 hu=>?_
 simp only [Tryz.ntmps180,List.size_toArray,List.length_cons,List.length_nil,Nat.reduceAdd,Nat.reduceSub,Array.replicate_succ,Array.replicate_zero,List.push_toArray,List.append_toArray,List.nil_append,List.cons_append]
 apply wpS_seq
 refine wpS_of_wp ?_
 go_wp2_with fail
 simp only [Exit.thenS]
 refine wpS_seq ?_
 generalize hK:Exit.thenS _ _=K
 apply wpS_region
 simp [wpOpsS,go_sem,recoverD,hu]
 subst hK
 simp only [Exit.thenS]
 refine wpS_of_wp ?_
 go_wp2_with fail
 simp [bodyPostS,results,Tryz.results180]
 cases c₀
 cases hu
 rfl
end Go.Proofs.YtmnjjdeaccgjlaaGreat.Tower
