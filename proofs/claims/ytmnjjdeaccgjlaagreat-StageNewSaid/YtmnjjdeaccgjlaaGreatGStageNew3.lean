/- Words and contracts that the claim stands on, part 4 of 7. -/
import Derived.Test.YtmnjjdeaccgjlaaGreatProg
import Derived.Test.YtmnjjdeaccgjlaaGreatGStageNew0
import Derived.Test.YtmnjjdeaccgjlaaGreatGStageNew1
import Derived.Test.YtmnjjdeaccgjlaaGreatGStageNew2
import Derived.Laws.StructEq
import Derived.Below
import Derived.Deep.Draws
import Derived.Deep.AppendLies
import Derived.Maps.AppendAt
import Derived.OwnWalk
import Derived.Laws.BytesArg
import Derived.Laws.MakeOwn
import Derived.Laws.OwnMore
import Derived.Deep.OwnRows
import Derived.Tactics
import Derived.Lib.ConvBytes
import Derived.Laws.Slices
import Derived.WalkKit
import Derived.KernelRfl
import Derived.RowKit3
import Derived.Deep.LoopGhost
import Derived.Deep.QuietTactic
import Derived.BigQuiet
import Derived.WideLaws
import Derived.Deep.DeepCutAuto
import Derived.Deep.CutBlock
import Derived.Deep.RegionHeld3
import Derived.Laws.Rows
import Derived.Lib.AppendStr
import Derived.ArgAppend
import Derived.Laws.IdiomCopy
import Derived.OrdersHeld
import Derived.Laws.BitsLemmas
import Derived.RowKit
set_option linter.unusedSimpArgs false
set_option linter.unusedVariables false
set_option maxHeartbeats 8000000
set_option maxRecDepth 100000
namespace Go.Proofs.YtmnjjdeaccgjlaaGreat.Tower
open Go Go.RowKit Go.Proofs.YtmnjjdeaccgjlaaGreatW.PrintWords Go.Proofs.YtmnjjdeaccgjlaaGreatW.PrintLast Go.Proofs.YtmnjjdeaccgjlaaGreatW.PrintMore Go.Proofs.YtmnjjdeaccgjlaaGreat.Own
theorem qb {w:World} {A:Option Addr} {n:Nat} {xs:List (Int × Int)} (h:dw.C w A n xs) (i:Int) (h0:0≤i) (h1:i<n): ∃ ad,A=some ad∧w.cell? (ad.add (i.toNat*2))=some (.int .i64 (xs.getD i.toNat (0,0)).1)∧w.cell? ⟨(ad.add (i.toNat*2)).block,(ad.add (i.toNat*2)).off+1,none⟩=some (.int .i64 (xs.getD i.toNat (0,0)).2):=by
 obtain ⟨ad,c,e,_,hK,hc0⟩:=Kd.oz h (0,0) i h0 h1
 have hc: ∀ j u,c[j]?=some u→w.cell? (ad.add (i.toNat*2+j))=some u:=hc0
 obtain ⟨_,_,rfl,rfl,rfl⟩:=hK
 exact ⟨ad,e,hc 0 _ rfl,by rw [←mP _ _ 1 (by omega)];exact hc 1 _ rfl⟩
def rz (a b:Int):Int:=if a<b then -1 else if b<a then 1 else 0
theorem DY (a v b:Int) (w:World):Calls Tryz.prog 204 #[.agg #[.int .i64 a,.int .i64 v],.int .i64 b] w fun e w1=>e= .returned (.int .i64 (rz a b))∧Below w.heap.size w w1:=by
 have HB:=Am_ (ai (Below.refl w.heap.size w) (.cells #[.int .i64 a,.int .i64 v] 121))
 have hbx:=bU w (.cells #[.int .i64 a,.int .i64 v] 121)
 have hc3:rz a b=rz a b:=rfl
 by_cases h1:a<b
 ·have d1:decide (a<b)=true:=decide_eq_true h1
  have HC:ak (rz a b= -1):=⟨if_pos h1⟩
  clear h1 hc3
  go_enter Tryz.func204,Tryz.ntmps204
  go_wp2_with fail
  go_ret
  exact ⟨by rw [HC.out];rfl,HB.out⟩
 ·have d1:decide (a<b)=false:=decide_eq_false h1
  by_cases h2:b<a
  ·have d2:decide (a>b)=true:=decide_eq_true h2
   have d3:decide (b<a)=true:=decide_eq_true h2
   have HC:ak (rz a b=1):=⟨(if_neg h1).trans (if_pos h2)⟩
   clear h1 h2 hc3
   go_enter Tryz.func204,Tryz.ntmps204
   go_wp2_with fail
   go_ret
   exact ⟨by rw [HC.out];rfl,HB.out⟩
  ·have d2:decide (a>b)=false:=decide_eq_false h2
   have d3:decide (b<a)=false:=decide_eq_false h2
   have HC:ak (rz a b=0):=⟨(if_neg h1).trans (if_neg h2)⟩
   clear h1 h2 hc3
   go_enter Tryz.func204,Tryz.ntmps204
   go_wp2_with fail
   go_ret
   exact ⟨by rw [HC.out];rfl,HB.out⟩
def kL (xs:List (Int × Int)):List Int:=xs.map Prod.fst
theorem vR (xs:List (Int × Int)) (m:Nat):(xs.getD m (0,0)).1=(kL xs).getD m 0:=by
 simp only [kL,List.getD_eq_getElem?_getD,List.getElem?_map]
 cases xs[m]?<;>rfl
theorem Dz (A:Option Addr) (n c:Nat) (xs:List (Int × Int)) (k:Int) (w:World) (hr:dw.C w A n xs) (hl:n<1000000):
  Calls Tryz.prog 203 #[.slice A n c,.int .i64 k,.func (.func 204) #[] #[]] w fun e w1=>e= .returned (.tuple #[.int .i64 (bs (kL xs) k 0 n:Nat),.bool (gm (kL xs) k)])∧Below w.heap.size w w1:=by
 have HC0:=Am_ hr
 have HN:=Am_ hr.1
 have hnl:ak ((kL xs).length=n):=⟨by rw [←hr.1];simp [kL]⟩
 clear hr
 go_enter Tryz.func203,Tryz.ntmps203
 go_wp2_with fail
 go_loopw [9,10] (fun i j wr=> ∃ a b:Nat,a≤b∧b≤n∧i= .int .i64 a∧j= .int .i64 b∧ak (bs (kL xs) k a b=bs (kL xs) k 0 n)∧ak (Below w.heap.size w wr)) (fun i j _=>((intOf j).toNat - (intOf i).toNat))
 case atStart=>exact ⟨0,n,Nat.zero_le _,Nat.le_refl _,rfl,rfl,⟨rfl⟩,⟨Below.refl _ _⟩⟩
 case round=>
  obtain ⟨a,b,hab,hbn,rfl,rfl,HB,HW⟩:=hrel
  have HR:=Am_ (Kd.bO HC0.out HW.out)
  by_cases hlt:a<b
  ·have d1:decide ((a:Int)<(b:Int))=true:=decide_eq_true (by omega)
   have d2:decide (a<b)=true:=decide_eq_true hlt
   go_upto_region 5 with fail
   obtain ⟨m,hm⟩: ∃ m:Nat,m=(a+b) / 2:=⟨_,rfl⟩
   have em:((a:Int)+(b:Int)) / 2=(m:Int):=by omega
   rw [em]
   have hma:a≤m:=by omega
   have hmb:m<b:=by omega
   have b0:(0:Int)≤(m:Int):=by omega
   have b1:(m:Int)<(n:Int):=by omega
   obtain ⟨ad,rfl,hc1,hc2⟩:=qb HR.out (m:Int) b0 b1
   rw [Int.toNat_natCast] at hc1 hc2
   have hx:=vR xs m
   have HM:=Am_ hm
   have HLT:=Am_ hlt
   clear em hm hlt d1 d2
   rw [hx] at hc1
   generalize (xs.getD m (0,0)).2=vv at hc2
   obtain ⟨x,hx⟩: ∃ x,x=(kL xs).getD m 0:=⟨_,rfl⟩
   rw [←hx] at hc1
   have HXX:=Am_ hx
   clear hx
   by_cases hd:x<k
   ·have h3:rz x k= -1:=if_pos hd
    have HD:=Am_ hd
    have H3:=Am_ h3
    clear hd h3
    go_wp2_with (go_at_call 204;refine (DY _ _ _ _).mono ?_;rintro e w2 ⟨rfl,hb2⟩;rw [H3.out];have HW2:=Am_ (aY HW.out HW.out.size hb2);clear hb2)
    go_round
    case rel=>
     refine ⟨m+1,b,by omega,hbn,by go_num,rfl,⟨?_⟩,HW2⟩
     rw [←HB.out]
     conv=>rhs;rw [xk]
     rw [if_pos HLT.out,←HM.out,←HXX.out,if_pos HD.out]
    case measure=>simp [intOf];omega
   ·have h3: ¬ rz x k<0:=by unfold rz;split<;>(try split)<;>omega
    have d3:decide (rz x k<0)=false:=decide_eq_false h3
    have HD:=Am_ hd
    clear hd h3
    generalize hcm:rz x k=cm at d3
    have HCM:=Am_ hcm
    clear hcm
    go_wp2_with (go_at_call 204;refine (DY _ _ _ _).mono ?_;rintro e w2 ⟨rfl,hb2⟩;rw [HCM.out];have HW2:=Am_ (aY HW.out HW.out.size hb2);clear hb2)
    go_round
    case rel=>
     refine ⟨a,m,by omega,by omega,rfl,rfl,⟨?_⟩,HW2⟩
     rw [←HB.out]
     conv=>rhs;rw [xk]
     rw [if_pos HLT.out,←HM.out,←HXX.out,if_neg (by have:=HD.out;omega)]
    case measure=>simp [intOf];omega
  ·have d1:decide ((a:Int)<(b:Int))=false:=decide_eq_false (by omega)
   have d2:decide (a<b)=false:=decide_eq_false hlt
   have hb:=HB.out
   rw [xk,if_neg hlt] at hb
   by_cases han:a<n
   ·have d3:decide ((a:Int)<(n:Int))=true:=decide_eq_true (by omega)
    have d4:decide (a<n)=true:=decide_eq_true han
    have b0:(0:Int)≤(a:Int):=by omega
    have b1:(a:Int)<(n:Int):=by omega
    obtain ⟨ad,rfl,hc1,hc2⟩:=qb HR.out (a:Int) b0 b1
    rw [Int.toNat_natCast] at hc1 hc2
    have hx:=vR xs a
    rw [hx] at hc1
    have HBB:=Am_ hb
    have hfd:gm (kL xs) k=((kL xs).getD a 0 == k):=by
     unfold gm
     rw [hnl.out,←hb,decide_eq_true han]
     rfl
    have HF:=Am_ hfd
    clear hb hfd HB hlt hx
    generalize (xs.getD a (0,0)).2=vv at hc2
    obtain ⟨x,hx⟩: ∃ x,x=(kL xs).getD a 0:=⟨_,rfl⟩
    rw [←hx] at hc1
    have HXX:=Am_ hx
    have HE:ak ((rz x k == 0)=(x == k)):=⟨by rw [Bool.eq_iff_iff];unfold rz;simp only [beq_iff_eq];split<;>(try split)<;>omega⟩
    clear hx
    cases hd:x == k with
    | true=>
     have d5:(rz x k == 0)=true:=HE.out.trans hd
     generalize hcm:rz x k=cm at d5
     have HCM:=Am_ hcm
     have HDD:=Am_ hd
     clear hcm hd
     go_wp2_with (go_at_call 204;refine (DY _ _ _ _).mono ?_;rintro e w2 ⟨rfl,hb2⟩;rw [HCM.out];have HW2:=Am_ (aY HW.out HW.out.size hb2);clear hb2)
     go_ret2
     refine ⟨?_,HW2.out⟩
     rw [HF.out,←HXX.out,HDD.out,HBB.out];rfl
    | false=>
     have d5:(rz x k == 0)=false:=HE.out.trans hd
     generalize hcm:rz x k=cm at d5
     have HCM:=Am_ hcm
     have HDD:=Am_ hd
     clear hcm hd
     go_wp2_with (go_at_call 204;refine (DY _ _ _ _).mono ?_;rintro e w2 ⟨rfl,hb2⟩;rw [HCM.out];have HW2:=Am_ (aY HW.out HW.out.size hb2);clear hb2)
     go_ret2
     refine ⟨?_,HW2.out⟩
     rw [HF.out,←HXX.out,HDD.out,HBB.out];rfl
   ·have d3:decide ((a:Int)<(n:Int))=false:=decide_eq_false (by omega)
    have d4:decide (a<n)=false:=decide_eq_false han
    have HBB:=Am_ hb
    have hfd:gm (kL xs) k=false:=by
     unfold gm
     rw [hnl.out,←hb,decide_eq_false han]
     rfl
    have HF:=Am_ hfd
    clear hb hfd HB hlt
    go_wp2_with fail
    go_ret2
    refine ⟨?_,HW.out⟩
    rw [HF.out,HBB.out];rfl
theorem rH (A:Option Addr) (n c:Nat) (xs:List (Int × Int)) (k:Int) (w:World) (hr:dw.C w A n xs) (hl:n<1000000):
  Calls Tryz.prog 168 #[.slice A n c,.int .i64 k] w fun e w1=>e= .returned (.tuple #[.int .i64 (bs (kL xs) k 0 n:Nat),.bool (gm (kL xs) k)])∧Below w.heap.size w w1:=by
 have HR:=Am_ hr
 clear hr
 go_enter Tryz.func168,Tryz.ntmps168
 go_wp2_with (go_at_call 203;refine (Dz _ _ _ xs _ _ HR.out hl).mono ?_;rintro e w2 ⟨rfl,hb2⟩;have HW2:=Am_ hb2;clear hb2)
 go_ret2
 exact ⟨rfl,HW2.out⟩
def qj (xs:List (Int × Int)) (k:Int):Int × Bool:=if gm (kL xs) k=true then ((xs.getD (bs (kL xs) k 0 xs.length) (0,0)).2,true) else (0,false)
theorem Ee (A:Option Addr) (n c:Nat) (xs:List (Int × Int)) (k:Int) (w:World) (hr:dw.C w A n xs) (hl:n<1000000):
  Calls Tryz.prog 162 #[.slice A n c,.int .i64 k] w fun e w1=>e= .returned (.tuple #[.int .i64 (qj xs k).1,.bool (qj xs k).2])∧Below w.heap.size w w1:=by
 have HR:=Am_ hr
 have HL:=Am_ (rH A n c xs k w hr hl)
 have hn:=hr.1
 cases hf:gm (kL xs) k with
 | false=>
  have HF:=Am_ hf
  have e1:qj xs k=(0,false):=by unfold qj;rw [hf];rfl
  rw [e1]
  clear hr hf hn e1
  go_enter Tryz.func162,Tryz.ntmps162
  go_wp2_with (go_at_call 168;refine HL.out.mono ?_;rintro e w2 ⟨rfl,hb2⟩;rw [HF.out];have HW2:=Am_ hb2;clear hb2)
  go_ret2
  exact ⟨rfl,HW2.out⟩
 | true=>
  have HF:=Am_ hf
  have e1:qj xs k=((xs.getD (bs (kL xs) k 0 xs.length) (0,0)).2,true):=by unfold qj;rw [hf];rfl
  rw [e1]
  have hlt:bs (kL xs) k 0 n<n:=by
   unfold gm at hf
   rw [Bool.and_eq_true] at hf
   have h1:=of_decide_eq_true hf.1
   rwa [show (kL xs).length=n by simp [kL,hn]] at h1
  rw [hn]
  clear e1 hf
  generalize bs (kL xs) k 0 n=q at HL hlt ⊢
  have HLT:=Am_ hlt
  have b0:(0:Int)≤(q:Int):=by omega
  have b1:(q:Int)<(n:Int):=by omega
  obtain ⟨ad,rfl,_,_⟩:=qb HR.out (q:Int) b0 b1
  generalize hv:(xs.getD q (0,0)).2=v
  have HV:=Am_ hv
  clear hr hn hlt hv
  go_enter Tryz.func162,Tryz.ntmps162
  go_upto_region 4 with (go_at_call 168;refine HL.out.mono ?_;rintro e w2 ⟨rfl,hb2⟩;rw [HF.out];have HW2:=Am_ hb2;clear hb2)
  obtain ⟨ad2,e2,hc1,hc2⟩:=qb (Kd.bO HR.out HW2.out) (q:Int) b0 b1
  injection e2 with e2
  subst e2
  rw [Int.toNat_natCast] at hc1 hc2
  rw [HV.out] at hc2
  clear hc1
  go_wp2_with fail
  go_ret2
  exact ⟨rfl,HW2.out⟩
structure Opn where
 kind:Int
 key:Int
 upto:Int
 value:Int
structure Ans where
 err:Int
 found:Bool
 key:Int
 value:Int
 pairs:List (Int × Int)
 short:Bool
def opV (o:Opn):Value:= .agg #[.int .u8 o.kind,.int .i64 o.key,.int .i64 o.upto,.int .i64 o.value]
def JE (a:Ans) (ok:Nat→Prop) (v:Value) (w:World):Prop:= ∃ A c,v= .agg #[.int .i64 a.err,.bool a.found,.int .i64 a.key,.int .i64 a.value,.slice A a.pairs.length c,.bool a.short]∧a.pairs.length≤c∧dw.F w (fun k=> ¬ ok k) A a.pairs.length a.pairs
theorem jv (key:Int): ∀ (f:Nat) (r:Int) (acc:List Stp) (s:TS Ws) (l:List Stp) (t:TS Ws),s.sh.Good→(∀ q∈acc,q.node.Small)→rT key f r acc s=some (.ret l,t)→(∀ q∈l,q.node.Small)∧l.length≤acc.length+f
 | 0,r,acc,s,l,t,_,_,h=>by cases h
 | f+1,r,acc,s,l,t,hg,ha,h=>by
  have hs:=hg.ar.lH r
  have hg1:Ws.Good { s.sh with ar:=(s.sh.ar.look r).2 }:=⟨hg.ar.look r,hg.ep,hg.tb⟩
  have hall: ∀ wy,∀ q∈acc++ [(⟨r,(s.sh.ar.look r).1,wy⟩:Stp)],q.node.Small:=fun wy q hq=>by
   rcases List.mem_append.1 hq with hq | hq
   ·exact ha q hq
   ·rw [List.mem_singleton.1 hq]
    exact hs
  unfold rT aU Eg at h
  simp only at h
  split at h
  ·injection h with h
   injection h with h1 h2
   injection h1 with h1
   subst h1
   exact ⟨hall _,by simp⟩
  ·obtain ⟨o,t1,hm,hc⟩:=aD h
   rcases hc with ⟨_,hc⟩ | ⟨a,rfl,hc⟩
   ·injection hc with hc _;cases hc
   have hg2:t1.sh.Good:=by
    unfold JI doT at hm
    split at hm
    ·injection hm with hm;injection hm with _ hm;rw [←hm];exact hg1
    ·split at hm
     ·injection hm with hm;injection hm with hm _;cases hm
     ·split at hm
      ·cases hm
      ·injection hm with hm;injection hm with _ hm;rw [←hm];exact ⟨hg1.ar.way _ _,hg1.ep,hg1.tb⟩
   split at hc
   ·injection hc with hc
    injection hc with h1 h2
    injection h1 with h1
    subst h1
    exact ⟨hall _,by simp⟩
   ·have:=jv key f _ _ t1 l t hg2 (hall _) hc
    refine ⟨this.1,?_⟩
    have h2:=this.2
    simp at h2
    omega
theorem dN.good {p tb:Nat} {work:Value} {ok:Nat→Prop} {s:TS Ws} {w:World} (h:dN (shW p) tb work ok s w):s.sh.Good:=by
 obtain ⟨_,_,⟨_,hg⟩,_⟩:=h.direct
 exact hg
theorem uo {w:World} {s:Stp} {c:List Value} (h:oG.K w s c): ∃ Ap cp Ak ck Ay cy,c= [.int .i64 s.ref,.bool s.node.inner,.bool s.node.tagged,.slice Ap s.node.pairs.length cp,.slice Ak s.node.keys.length ck,.slice Ay s.node.ways.length cy,.int .i64 s.way]∧dw.C w Ap s.node.pairs.length s.node.pairs:=by
 obtain ⟨_,_,rfl,rfl,_,_,rfl,⟨_,_,rfl,rfl,_,_,rfl,rfl,_,_,rfl,⟨Ap,cp,rfl,_,hC⟩,_,_,rfl,⟨Ak,ck,rfl,_⟩,⟨Ay,cy,rfl,_⟩⟩,rfl⟩:=h
 exact ⟨Ap,cp,Ak,ck,Ay,cy,rfl,hC⟩
def LP (key:Int) (f:Nat):Pr Ws Ans:=aU (Bg key f) fun q=>dS ⟨0,(qj q.2.node.pairs key).2,0,(qj q.2.node.pairs key).1,[],false⟩
theorem uw {key:Int} {f:Nat} {s t:TS Ws} {q:Stp × Stp} (hg:s.sh.Good) (h:Bg key f s=some (.ret q,t)):q.1.node.Small∧q.2.node.Small:=by
 obtain ⟨o,t1,hm,hc⟩:=aD h
 rcases hc with ⟨_,hc⟩ | ⟨l,rfl,hc⟩
 ·injection hc with hc _;cases hc
 have hs:=(jv key f _ [] s l t1 hg (by simp) hm).1
 by_cases h2:l.length<2
 ·rw [if_pos h2] at hc;cases hc
 rw [if_neg h2] at hc
 injection hc with hc
 injection hc with hc _
 injection hc with hc
 subst hc
 have hget: ∀ i,i<l.length→(l.getD i Cb).node.Small:=fun i hi=>by
  rw [List.getD_eq_getElem?_getD,List.getElem?_eq_getElem hi]
  exact hs _ (List.getElem_mem hi)
 exact ⟨hget _ (by omega),hget _ (by omega)⟩
theorem ED (key upto value:Int) (w:World):Calls Tryz.prog 159 #[.agg #[.int .u8 0,.int .i64 key,.int .i64 upto,.int .i64 value]] w fun e w1=>e= .returned (.tuple #[.int .i64 0,.int .i64 0,.bool false])∧Below w.heap.size w w1:=by
 have HB:=Am_ (ai (Below.refl w.heap.size w) (.cells #[.int .u8 0,.int .i64 key,.int .i64 upto,.int .i64 value] 52))
 have hbx:=bU w (.cells #[.int .u8 0,.int .i64 key,.int .i64 upto,.int .i64 value] 52)
 go_enter Tryz.func159,Tryz.ntmps159
 go_wp2_with fail
 go_ret3
 exact ⟨rfl,HB.out⟩
theorem KS (p tb:Nat) (work:Value) (me:Int) (ok:Nat→Prop) (s:TS Ws) (w:World) (key upto value:Int) (h:dN (shW p) tb work ok s w) (f:Nat) (hf:f<900000) (res:Out Ans × TS Ws) (hr:LP key f s=some res):
  Calls Tryz.prog 100 #[eP tb p me,.agg #[.int .u8 0,.int .i64 key,.int .i64 upto,.int .i64 value]] w (fQ (shW p) tb work JE ok w res):=by
 obtain ⟨o,t,hd,hcase⟩:=aD hr
 have HG:=Am_ h.good
 have HT:=Am_ (((aH.enter (me:=me) h).alloc (.cells #[.int .u8 0,.int .i64 key,.int .i64 upto,.int .i64 value] 52)).alloc (.cells #[.int .i64 0,.bool false,.int .i64 0,.int .i64 0,.slice none 0 0,.bool false] 58))
 have HB3:=Am_ ((Mine.new (aH.enter (p:=p) (tb:=tb) (me:=me) h).lt (.cells #[.int .u8 0,.int .i64 key,.int .i64 upto,.int .i64 value] 52)).alloc (.cells #[.int .i64 0,.bool false,.int .i64 0,.int .i64 0,.slice none 0 0,.bool false] 58))
 have HB4:=Am_ (Mine.new ((aH.enter (me:=me) h).alloc (.cells #[.int .u8 0,.int .i64 key,.int .i64 upto,.int .i64 value] 52)).lt (.cells #[.int .i64 0,.bool false,.int .i64 0,.int .i64 0,.slice none 0 0,.bool false] 58))
 have HD:=Am_ hd
 have HCS:=Am_ hcase
 have HTV:eP tb p me= .agg #[.pointer (some ⟨tb,0,none⟩),.pointer (some ⟨p,0,none⟩),.int .i64 me]:=rfl
 rw [HTV]
 unfold fC at HT HB3 HB4
 simp only [World.size_alloc] at HB3 HB4
 clear h hr hd hcase HTV
 go_enter Tryz.func100,Tryz.ntmps100
 go_upto_region 1 with fail
 generalize ((w.alloc (.cells #[.pointer (some ⟨tb,0,none⟩),.pointer (some ⟨p,0,none⟩),.int .i64 me] 114)).alloc (.cells #[.int .u8 0,.int .i64 key,.int .i64 upto,.int .i64 value] 52)).alloc (.cells #[.int .i64 0,.bool false,.int .i64 0,.int .i64 0,.slice none 0 0,.bool false] 58)=w3 at HT HB3 HB4 ⊢
 generalize hbb:w.heap.size=bt at HT HB3 HB4 ⊢
 have HWB:ak (w.heap.size=bt):=⟨hbb⟩
 clear hbb
 generalize hb3:bt+1=b3 at HB3 HB4 ⊢
 generalize hb4:b3+1=b4 at HB4 ⊢
 have HW4:ak (w.heap.size≤b4):=⟨by have:=HWB.out;omega⟩
 have HT4:ak (b4≠bt):=⟨by omega⟩
 clear hb3 hb4
 have k0:=(af HB3.out.1 0).trans (rfl:_=some (Value.int .u8 0))
 have k1:=(af HB3.out.1 1).trans (rfl:_=some (Value.int .i64 key))
 have k2:=(af HB3.out.1 2).trans (rfl:_=some (Value.int .i64 upto))
 have k3:=(af HB3.out.1 3).trans (rfl:_=some (Value.int .i64 value))
 go_upto_region 7 with (go_at_call 159;refine (ED key upto value _).mono ?_;rintro e w4 ⟨rfl,hb4⟩;have HT:=Am_ (HT.out.below hb4);have HB3:=Am_ (HB3.out.moves (Moves.bE _ hb4));have HB4:=Am_ (HB4.out.moves (Moves.bE _ hb4));clear hb4 k0 k1 k2 k3)
 have k0:=(af HB3.out.1 0).trans (rfl:_=some (Value.int .u8 0))
 have k1:=(af HB3.out.1 1).trans (rfl:_=some (Value.int .i64 key))
 have c0:=HT.out.c0
 have c1:=HT.out.c1
 have c2:=HT.out.c2
 go_upto_region 10 with (go_at_call 116;refine (pu p tb work me key ok s _ HT.out.run f hf (o,t) HD.out (fun l t h=>by have:=(jv key f _ _ _ _ _ HG.out (by simp) h).2;simp at this;omega)).mono ?_;rintro e w5 ⟨ok1,hm,hi,hres⟩;rcases HCS.out with hw | hw;(obtain ⟨rfl,rfl⟩:=hw;obtain rfl:e= .panicked dx:=hres;exact ⟨rfl,⟨⟨ok1,HT.out.moves.trans hm,hi,rfl⟩⟩⟩);obtain ⟨q,rfl,hr2⟩:=hw;obtain ⟨v,rfl,cs,ds,rfl,hf1,hf2⟩:=hres;obtain ⟨Ap1,cp1,Ak1,ck1,Ay1,cy1,rfl⟩:=jk (Kd.oO hf1);obtain ⟨Ap2,cp2,Ak2,ck2,Ay2,cy2,rfl,hC2⟩:=uo (Kd.oO hf2);have HC2:=Am_ hC2;have HT2:=Am_ (HT.out.next hm hi);have HB3:=Am_ (HB3.out.moves hm);have HB4:=Am_ (HB4.out.moves hm);have HR2:=Am_ hr2;clear hm hi hf1 hf2 hr2 hC2 c0 c1 c2 k0 k1)
 have HSM:=Am_ (uw HG.out HD.out).2.pairs
 have B6:=aY (ai (Below.refl w5.heap.size w5) (.cells #[.int .i64 q.fst.ref,.bool q.fst.node.inner,.bool q.fst.node.tagged,.slice Ap1 q.fst.node.pairs.length cp1,.slice Ak1 q.fst.node.keys.length ck1,.slice Ay1 q.fst.node.ways.length cy1,.int .i64 q.fst.way] 159)) (by simp) (ai (Below.refl (w5.alloc (.cells #[.int .i64 q.fst.ref,.bool q.fst.node.inner,.bool q.fst.node.tagged,.slice Ap1 q.fst.node.pairs.length cp1,.slice Ak1 q.fst.node.keys.length ck1,.slice Ay1 q.fst.node.ways.length cy1,.int .i64 q.fst.way] 159)).heap.size (w5.alloc (.cells #[.int .i64 q.fst.ref,.bool q.fst.node.inner,.bool q.fst.node.tagged,.slice Ap1 q.fst.node.pairs.length cp1,.slice Ak1 q.fst.node.keys.length ck1,.slice Ay1 q.fst.node.ways.length cy1,.int .i64 q.fst.way] 159))) (.cells #[.int .i64 q.snd.ref,.bool q.snd.node.inner,.bool q.snd.node.tagged,.slice Ap2 q.snd.node.pairs.length cp2,.slice Ak2 q.snd.node.keys.length ck2,.slice Ay2 q.snd.node.ways.length cy2,.int .i64 q.snd.way] 159))
 have HB3:=Am_ (HB3.out.moves (Moves.bE _ B6))
 have HB4:=Am_ (HB4.out.moves (Moves.bE _ B6))
 have HT2:=Am_ (HT2.out.below B6)
 have HC2:=Am_ (Kd.bO HC2.out B6)
 have HX:=bU (w5.alloc (.cells #[.int .i64 q.fst.ref,.bool q.fst.node.inner,.bool q.fst.node.tagged,.slice Ap1 q.fst.node.pairs.length cp1,.slice Ak1 q.fst.node.keys.length ck1,.slice Ay1 q.fst.node.ways.length cy1,.int .i64 q.fst.way] 159)) (.cells #[.int .i64 q.snd.ref,.bool q.snd.node.inner,.bool q.snd.node.tagged,.slice Ap2 q.snd.node.pairs.length cp2,.slice Ak2 q.snd.node.keys.length ck2,.slice Ay2 q.snd.node.ways.length cy2,.int .i64 q.snd.way] 159)
 simp only [World.size_alloc] at HX
 have l3:=(af HX 3).trans (rfl:_=some (Value.slice Ap2 q.snd.node.pairs.length cp2))
 have k1:=(af HB3.out.1 1).trans (rfl:_=some (Value.int .i64 key))
 clear HX B6
 generalize (w5.alloc (.cells #[.int .i64 q.fst.ref,.bool q.fst.node.inner,.bool q.fst.node.tagged,.slice Ap1 q.fst.node.pairs.length cp1,.slice Ak1 q.fst.node.keys.length ck1,.slice Ay1 q.fst.node.ways.length cy1,.int .i64 q.fst.way] 159)).alloc (.cells #[.int .i64 q.snd.ref,.bool q.snd.node.inner,.bool q.snd.node.tagged,.slice Ap2 q.snd.node.pairs.length cp2,.slice Ak2 q.snd.node.keys.length ck2,.slice Ay2 q.snd.node.ways.length cy2,.int .i64 q.snd.way] 159)=w6 at HB3 HB4 HT2 HC2 l3 k1 ⊢
 generalize hgo:qj q.2.node.pairs key=go
 have HGO:=Am_ hgo
 clear hgo
 go_upto_region 11 with (go_at_call 162;refine (Ee Ap2 _ cp2 q.2.node.pairs key _ HC2.out HSM.out).mono ?_;rintro e w7 ⟨rfl,hb7⟩;rw [HGO.out];have HT3:=Am_ (HT2.out.below hb7);have HB5:=Am_ (HB4.out.moves (Moves.bE _ hb7));clear hb7 k1 l3)
 have e0:=(af HB5.out.1 0).trans (rfl:_=some (Value.int .i64 0))
 have e1:=(af HB5.out.1 1).trans (rfl:_=some (Value.bool false))
 have e2:=(af HB5.out.1 2).trans (rfl:_=some (Value.int .i64 0))
 have e3:=(af HB5.out.1 3).trans (rfl:_=some (Value.int .i64 0))
 have e4:=(af HB5.out.1 4).trans (rfl:_=some (Value.slice none 0 0))
 have e5:=(af HB5.out.1 5).trans (rfl:_=some (Value.bool false))
 have z0:=ah HB5.out.1 0
 have z1:=ah HB5.out.1 1
 have z2:=ah HB5.out.1 2
 have z3:=ah HB5.out.1 3
 have z4:=ah HB5.out.1 4
 have z5:=ah HB5.out.1 5
 go_wp2_with fail
 have HT6:=Am_ ((((((HT3.out.set (q:=⟨b4,0,none⟩) HB5.out.2 HW4.out HT4.out (.int .i64 0)).set (q:=⟨b4,1,none⟩) HB5.out.2 HW4.out HT4.out (.bool go.2)).set (q:=⟨b4,2,none⟩) HB5.out.2 HW4.out HT4.out (.int .i64 0)).set (q:=⟨b4,3,none⟩) HB5.out.2 HW4.out HT4.out (.int .i64 go.1)).set (q:=⟨b4,4,none⟩) HB5.out.2 HW4.out HT4.out (.slice none 0 0)).set (q:=⟨b4,5,none⟩) HB5.out.2 HW4.out HT4.out (.bool false))
 have HB6:ak (Mine ok1 ((((((w7.setCell ⟨b4,0,none⟩ (.int .i64 0)).setCell ⟨b4,1,none⟩ (.bool go.2)).setCell ⟨b4,2,none⟩ (.int .i64 0)).setCell ⟨b4,3,none⟩ (.int .i64 go.1)).setCell ⟨b4,4,none⟩ (.slice none 0 0)).setCell ⟨b4,5,none⟩ (.bool false)) b4 (.cells #[.int .i64 0,.bool go.2,.int .i64 0,.int .i64 go.1,.slice none 0 0,.bool false] 58 (0,0))):=⟨(Mine.set (Mine.set (Mine.set (Mine.set (Mine.set (Mine.set HB5.out 0 (.int .i64 0)) 1 (.bool go.2)) 2 (.int .i64 0)) 3 (.int .i64 go.1)) 4 (.slice none 0 0)) 5 (.bool false))⟩
 clear e0 e1 e2 e3 e4 e5 z0 z1 z2 z3 z4 z5 HT3 HB5
 generalize ((((((w7.setCell ⟨b4,0,none⟩ (.int .i64 0)).setCell ⟨b4,1,none⟩ (.bool go.2)).setCell ⟨b4,2,none⟩ (.int .i64 0)).setCell ⟨b4,3,none⟩ (.int .i64 go.1)).setCell ⟨b4,4,none⟩ (.slice none 0 0)).setCell ⟨b4,5,none⟩ (.bool false))=w8 at HT6 HB6 ⊢
 (try simp only [Exit.inBlock,Exit.then])
 refine bodyPost_ret (results_cell_row rfl _ _ b4 58 _ (0,0) _ rfl HB6.out.1 Tryz.underlying58 rfl (by kernel_rfl)) rfl ?_
 have hh:=HR2.out
 rw [HGO.out] at hh
 injection hh with hh
 subst hh
 exact ⟨⟨ok1,HT6.out.moves,HT6.out.run,_,rfl,none,0,rfl,Nat.le_refl _,Kd.jD _ _ _⟩⟩
end Go.Proofs.YtmnjjdeaccgjlaaGreat.Tower
namespace Go.Proofs.YtmnjjdeaccgjlaaGreatW.PrintWords
open Go.RowKit
namespace Kd
section
variable {α:Type} {d:Kd α} {W:World} {g n:Nat} {S ok:Nat→Prop} {A:Option Addr} {ad:Addr} {xs:List α}
theorem sP (h:d.C W (some ad) n xs) (hn:0<n) (hs:0<d.sz):W.cell? ad≠none:=by
 obtain ⟨ad',he,hc⟩:=h.2.2 hn
 injection he with he
 subst he
 obtain ⟨c,hcl,_,hcell⟩:=hc 0 _ (List.getElem?_eq_getElem (by rw [h.1];exact hn))
 have h1:=hcell 0 _ (List.getElem?_eq_getElem (by omega))
 rw [Nat.zero_mul,Nat.zero_add,Addr.add_zero'] at h1
 rw [h1]
 exact Option.some_ne_none _
theorem NK (h:d.C W (some ad) n xs) (hn:0<n) (hs:0<d.sz):ad.block<W.heap.size:=by
 cases hc:W.cell? ad with
 | none=>exact absurd hc (sP h hn hs)
 | some v=>exact World.block_lt_of_cell? W ad hc
theorem NP (h:F d W ok A n xs) {ad:Addr} (hA:A=some ad) (hn:0<n) (hs:0<d.sz):ok ad.block:=by
 subst hA
 have hl:=Ms h
 cases xs with
 | nil=>simp at hl;omega
 | cons x r=>
  obtain ⟨ad',c,he,_,_,_,hin⟩:=Hr h x 0 (by omega) (by omega)
  injection he with he
  subst he
  exact hin hs
end
end Kd
namespace Kd
section
variable {α:Type} {d:Kd α} {e base n m:Nat} {ok:Nat→Prop} {w w':World} {v:Value} {A:Option Addr} {xs:List α}
theorem Hq (hq:w.drewN m=w') (h:F d w ok A n xs):F d w' ok A n xs:=by subst hq;exact jX h m
end
end Kd
section
variable {P:Program} {d:Nat} {xs ys:Array Value} {f:Field} {fs:List Field} {a b:Value} {r s:Bool} {w:World}
theorem vM (hn:(f.name == "_")=false) (ha:(part f.type xs f.offset).run P w= .ok a w) (hb:(part f.type ys f.offset).run P w= .ok b w) (he:(Op.equalIn d f.type a b).run P w= .ok r w):(Op.eqFields d xs ys [f]).run P w= .ok r w:=by
 have hn':f.name≠ "_" :=by simpa using hn
 simp only [Op.eqFields,if_pos hn',Sem.run_bind,ha,hb,he,Result.andThen_ok]
 cases r<;>simp
theorem vL (hn:(f.name == "_")=false) (ha:(part f.type xs f.offset).run P w= .ok a w) (hb:(part f.type ys f.offset).run P w= .ok b w) (he:(Op.equalIn d f.type a b).run P w= .ok r w) (hr:(Op.eqFields d xs ys fs).run P w= .ok s w):(Op.eqFields d xs ys (f::fs)).run P w= .ok (r && s) w:=by
 have hn':f.name≠ "_" :=by simpa using hn
 rw [Op.eqFields]
 simp only [if_pos hn',Sem.run_bind,ha,hb,he,Result.andThen_ok]
 cases r
 ·simp
 ·simpa using hr
theorem Gg {t:TypeId} {fs:Array Field} (hu:P.underlying t=some (.struct fs)) (hp:P.stoodInHeld t=false) (h:(Op.eqFields d xs ys fs.toList).run P w= .ok r w):(Op.equalIn (d+1) t (.agg xs) (.agg ys)).run P w= .ok r w:=by
 have hf:P.fieldsOf t=fs:=by simp [Program.fieldsOf,hu]
 rw [run_equalIn_struct (P:=P) w d t xs ys (by rw [hf];exact hu) hp,hf]
 exact h
end
theorem eY.one {α:Type} {R:α→List Value→Prop} {ps:List α} {cs:List Value} {p:α} {v:Value} (hp:R p [v]) (h:eY R 1 ps cs):eY R 1 (p::ps) (v::cs):=by
 refine ⟨by simp [h.1],fun j q hq=>?_⟩
 cases j with
 | zero=>
  simp only [List.getElem?_cons_zero,Option.some.injEq] at hq
  subst hq
  simpa using hp
 | succ j=>
  simp only [List.getElem?_cons_succ] at hq
  have h1:=h.2 j q hq
  simpa [Nat.mul_one] using h1
theorem eY.front {α:Type} {R:α→List Value→Prop} {size:Nat} {ps:List α} {cs c all:List Value} {p:α} (hp:R p c) (hc:c.length=size) (h:eY R size ps cs) (ha:c++cs=all):eY R size (p::ps) all:=by
 subst ha
 refine ⟨by rw [List.length_append,hc,h.1,List.length_cons,Nat.succ_mul,Nat.add_comm],fun j q hq=>?_⟩
 cases j with
 | zero=>
  simp only [List.getElem?_cons_zero,Option.some.injEq] at hq
  subst hq
  rw [Nat.zero_mul,List.drop_zero,List.take_append_of_le_length (by omega),List.take_of_length_le (by omega)]
  exact hp
 | succ j=>
  simp only [List.getElem?_cons_succ] at hq
  have h1:=h.2 j q hq
  rw [Nat.succ_mul,List.drop_append,List.drop_of_length_le (by rw [hc];exact Nat.le_add_left _ _),List.nil_append,hc,Nat.add_sub_cancel]
  exact h1
theorem eY.c2 {α:Type} {R:α→List Value→Prop} {ps:List α} {cs:List Value} {p:α} {va vb:Value} (hp:R p [va,vb]) (h:eY R 2 ps cs):eY R 2 (p::ps) (va::vb::cs):=eY.front hp rfl h rfl
theorem eY.c3 {α:Type} {R:α→List Value→Prop} {ps:List α} {cs:List Value} {p:α} {va vb vc:Value} (hp:R p [va,vb,vc]) (h:eY R 3 ps cs):eY R 3 (p::ps) (va::vb::vc::cs):=eY.front hp rfl h rfl
theorem eY.c4 {α:Type} {R:α→List Value→Prop} {ps:List α} {cs:List Value} {p:α} {va vb vc vd:Value} (hp:R p [va,vb,vc,vd]) (h:eY R 4 ps cs):eY R 4 (p::ps) (va::vb::vc::vd::cs):=eY.front hp rfl h rfl
theorem eY.c5 {α:Type} {R:α→List Value→Prop} {ps:List α} {cs:List Value} {p:α} {va vb vc vd ve:Value} (hp:R p [va,vb,vc,vd,ve]) (h:eY R 5 ps cs):eY R 5 (p::ps) (va::vb::vc::vd::ve::cs):=eY.front hp rfl h rfl
theorem eY.c6 {α:Type} {R:α→List Value→Prop} {ps:List α} {cs:List Value} {p:α} {va vb vc vd ve vf:Value} (hp:R p [va,vb,vc,vd,ve,vf]) (h:eY R 6 ps cs):eY R 6 (p::ps) (va::vb::vc::vd::ve::vf::cs):=eY.front hp rfl h rfl
theorem eY.c7 {α:Type} {R:α→List Value→Prop} {ps:List α} {cs:List Value} {p:α} {va vb vc vd ve vf vg:Value} (hp:R p [va,vb,vc,vd,ve,vf,vg]) (h:eY R 7 ps cs):eY R 7 (p::ps) (va::vb::vc::vd::ve::vf::vg::cs):=eY.front hp rfl h rfl
theorem eY.c8 {α:Type} {R:α→List Value→Prop} {ps:List α} {cs:List Value} {p:α} {va vb vc vd ve vf vg vh:Value} (hp:R p [va,vb,vc,vd,ve,vf,vg,vh]) (h:eY R 8 ps cs):eY R 8 (p::ps) (va::vb::vc::vd::ve::vf::vg::vh::cs):=eY.front hp rfl h rfl
theorem eY.c9 {α:Type} {R:α→List Value→Prop} {ps:List α} {cs:List Value} {p:α} {va vb vc vd ve vf vg vh vi:Value} (hp:R p [va,vb,vc,vd,ve,vf,vg,vh,vi]) (h:eY R 9 ps cs):eY R 9 (p::ps) (va::vb::vc::vd::ve::vf::vg::vh::vi::cs):=eY.front hp rfl h rfl
theorem eY.c10 {α:Type} {R:α→List Value→Prop} {ps:List α} {cs:List Value} {p:α} {va vb vc vd ve vf vg vh vi vj:Value} (hp:R p [va,vb,vc,vd,ve,vf,vg,vh,vi,vj]) (h:eY R 10 ps cs):eY R 10 (p::ps) (va::vb::vc::vd::ve::vf::vg::vh::vi::vj::cs):=eY.front hp rfl h rfl
end Go.Proofs.YtmnjjdeaccgjlaaGreatW.PrintWords
namespace Go.Proofs.YtmnjjdeaccgjlaaGreatW.PrintLast
def up (b:Nat→Bool) (i:Nat):Nat→Bool:=fun j=>if j=i then true else b j
end Go.Proofs.YtmnjjdeaccgjlaaGreatW.PrintLast
namespace Go.Proofs.YtmnjjdeaccgjlaaGreatW.PrintWords
open Go.RowKit
theorem Kd.vw {α:Type} {d:Kd α} {e base:Nat} {ok ok':Nat→Prop} {w:World} {v:Value} {xs:List α} (hd: ∀ {ok1 ok2:Nat→Prop} {x:α} {cs:List Value},d.M w base ok1 x cs→d.M w base ok2 x cs) (h:d.R e w base ok v xs) (hok: ∀ k,v.ownBlock=some k→ok k→ok' k):d.R e w base ok' v xs:=by
 obtain ⟨h0,inner,hown,hr⟩:=h
 exact ⟨fun k hk=>hok k hk (h0 k hk),inner,hown,hr.nk (fun _ _ hm=>hd hm)⟩
end Go.Proofs.YtmnjjdeaccgjlaaGreatW.PrintWords
namespace Go.Proofs.YtmnjjdeaccgjlaaGreatW.PrintLast
end Go.Proofs.YtmnjjdeaccgjlaaGreatW.PrintLast
namespace Go.Proofs.YtmnjjdeaccgjlaaGreatW.PrintWords
open Go.RowKit
section
variable {P:Program} {ops:Array Oper} {rest:List Oper} {o:Oper} {a:Act} {Q:Exit→Act→World→Prop} {W:World}
theorem xE (hw:Region.wanted o (yielded ops a.tmps)=true) (h:wpList P ops Q ({ o with guard:=none }::rest) a W):wpList P ops Q (o::rest) a W:=by
 have h1:Region.wanted { o with guard:=none } (yielded ops a.tmps)=true:=rfl
 unfold wpList at h ⊢
 rw [if_pos h1] at h
 rw [if_pos hw]
 exact h
end
end Go.Proofs.YtmnjjdeaccgjlaaGreatW.PrintWords
namespace Go.Proofs.YtmnjjdeaccgjlaaGreat.PAskAlone
open Go.RowKit Go.Proofs.YtmnjjdeaccgjlaaGreatW.PrintWords Go.Proofs.YtmnjjdeaccgjlaaGreatW.PrintLast Go.Proofs.YtmnjjdeaccgjlaaGreatW.PrintMore
attribute [local go_sem] iH iJ jm jo gH gJ iI iK
def KW:Option Int→Value
 | none=> .nilIface
 | some c=> .iface 0 (.int .i64 c)
theorem dP:KW none= .nilIface:=rfl
theorem dQ (c:Int):KW (some c)= .iface 0 (.int .i64 c):=rfl
theorem Lb:(Tryz.prog.info? 2).map (fun i=>(i.zero,i.size,i.bytes))=some (some (.int .i64 0),1,8):=by kernel_rfl
theorem AY:(Tryz.prog.info? 121).map (fun i=>(i.zero,i.size,i.bytes))=some (some (.agg #[(.int .i64 0),(.int .i64 0)]),2,16):=by kernel_rfl
structure gy where
 f0:Int
 f1:Int
def LJ:gy:=⟨(0:Int),(0:Int)⟩
def mE:Kd gy:=Kd.iso (Kd.pair (Kd.int .i64) (Kd.int .i64)) (fun x:gy=>(x.f0,x.f1))
theorem nJ {w:World} {x:gy} {cs:List Value} (h:mE.K w x cs):cs= [.int .i64 x.f0,.int .i64 x.f1]:=by
 obtain ⟨_,_,rfl,rfl,rfl⟩:=h
 exact rfl
theorem vQ (w:World) (base:Nat) (ok:Nat→Prop) (x:gy)  :mE.M w base ok x [.int .i64 x.f0,.int .i64 x.f1]:=⟨[.int .i64 x.f0],[.int .i64 x.f1],rfl,rfl,rfl⟩
def bg (xs:List gy) (i:Int):gy:=xs.getD i.toNat LJ
theorem jb {w:World} {A:Option Addr} {n:Nat} {xs:List gy} (h:Kd.C mE w A n xs) (i:Int) (h0:0≤i) (h1:i<n): ∃ ad,A=some ad∧w.cell? (ad.add (i.toNat*2))=some (.int .i64 (bg xs i).f0)∧w.cell? ⟨(ad.add (i.toNat*2)).block,(ad.add (i.toNat*2)).off+1,none⟩=some (.int .i64 (bg xs i).f1):=by
 obtain ⟨ad,c,e,_,hK,hc0⟩:=Kd.oz h LJ i h0 h1
 have hc: ∀ j u,c[j]?=some u→w.cell? (ad.add (i.toNat*2+j))=some u:=hc0
 obtain rfl:=nJ hK
 exact ⟨ad,e,hc 0 _ rfl,by rw [←mP _ _ 1 (by omega)];exact hc 1 _ rfl⟩
structure S30 where
 f0:Bool
 f1:Bool
 f2:(List gy)
 f3:(List Int)
 f4:(List S30)
def F30 (d:Kd S30):Kd S30:=Kd.iso (Kd.pair Kd.bool (Kd.pair Kd.bool (Kd.pair (Kd.slice 121 mE) (Kd.pair (Kd.slice 2 (Kd.int .i64)) (Kd.slice 30 d))))) (fun x:S30=>(x.f0,x.f1,x.f2,x.f3,x.f4))
theorem Gl:Kd.uW F30:=Kd.Ei _ (Kd.kM (Kd.jN _) (Kd.kM (Kd.jN _) (Kd.kM (Kd.jN _) (Kd.kM (Kd.jN _) (Kd.xR 30 Kd.II)))))
theorem Nz:Kd.Sub F30 [2,30,121]:=Kd.Jf _ (Kd.mH (Kd.sub_const _ (by decide)) (Kd.mH (Kd.sub_const _ (by decide)) (Kd.mH (Kd.sub_const _ (by decide)) (Kd.mH (Kd.sub_const _ (by decide)) (Kd.Cc 30 (by decide) Kd.Lx)))))
theorem NJ: ∀ n,(Kd.upto F30 5 [2,30,121] n).sz=5:=Kd.Jy (fun _=>rfl)
def k30:Kd S30:=Kd.fix F30 5 [2,30,121] NJ (Kd.Gw Nz)
theorem Le (w:World) (x:S30) {A2:Option Addr} {c2:Nat} (l2:x.f2.length≤c2) (g2:mE.C w A2 x.f2.length x.f2) {A3:Option Addr} {c3:Nat} (l3:x.f3.length≤c3) (g3:(Kd.int .i64).C w A3 x.f3.length x.f3) {A4:Option Addr} {c4:Nat} (l4:x.f4.length≤c4) (g4:k30.C w A4 x.f4.length x.f4):k30.K w x [.bool x.f0,.bool x.f1,.slice A2 x.f2.length c2,.slice A3 x.f3.length c3,.slice A4 x.f4.length c4]:=by
 obtain ⟨n4,q4⟩:=Kd.xC Gl g4
 have r4:=Kd.CF Gl NJ (show n4≤n4 by omega) q4
 exact ⟨n4+1,⟨[.bool x.f0],[.bool x.f1,.slice A2 x.f2.length c2,.slice A3 x.f3.length c3,.slice A4 x.f4.length c4],rfl,rfl,⟨[.bool x.f1],[.slice A2 x.f2.length c2,.slice A3 x.f3.length c3,.slice A4 x.f4.length c4],rfl,rfl,⟨[.slice A2 x.f2.length c2],[.slice A3 x.f3.length c3,.slice A4 x.f4.length c4],rfl,⟨A2,c2,rfl,l2,g2⟩,⟨[.slice A3 x.f3.length c3],[.slice A4 x.f4.length c4],rfl,⟨A3,c3,rfl,l3,g3⟩,⟨A4,c4,rfl,l4,r4⟩⟩⟩⟩⟩⟩
theorem Iw (W:World) (ok:Nat→Prop) (x:S30) {A2:Option Addr} {c2:Nat} (l2:x.f2.length≤c2) (g2:Kd.F mE W ok A2 x.f2.length x.f2) {A3:Option Addr} {c3:Nat} (l3:x.f3.length≤c3) (g3:Kd.F (Kd.int .i64) W ok A3 x.f3.length x.f3) {A4:Option Addr} {c4:Nat} (l4:x.f4.length≤c4) (g4:Kd.F k30 W ok A4 x.f4.length x.f4):Kd.FK k30 W ok x [.bool x.f0,.bool x.f1,.slice A2 x.f2.length c2,.slice A3 x.f3.length c3,.slice A4 x.f4.length c4]:=fun W2 hW=>Le W2 x l2 (g2 W2 hW) l3 (g3 W2 hW) l4 (g4 W2 hW)
structure Hz where
 f0:(List Int)
 f1:(List Int)
def MV:Kd Hz:=Kd.iso (Kd.pair (Kd.slice 2 (Kd.int .i64)) (Kd.slice 45 (Kd.int .i64))) (fun x:Hz=>(x.f0,x.f1))
structure HZ where
 f0:Bool
 f1:Bool
 f2:(List gy)
 f3:Hz
def MW:Kd HZ:=Kd.iso (Kd.pair Kd.bool (Kd.pair Kd.bool (Kd.pair (Kd.slice 121 mE) MV))) (fun x:HZ=>(x.f0,x.f1,x.f2,x.f3))
structure jG where
 f0:HZ
 f1:(List Int)
 f2:Int
 f3:Bool
 f4:Int
 f5:Bool
def Ld:Kd jG:=Kd.iso (Kd.pair MW (Kd.pair (Kd.slice 45 (Kd.int .i64)) (Kd.pair (Kd.int .i64) (Kd.pair Kd.bool (Kd.pair (Kd.int .u32) Kd.bool))))) (fun x:jG=>(x.f0,x.f1,x.f2,x.f3,x.f4,x.f5))
end Go.Proofs.YtmnjjdeaccgjlaaGreat.PAskAlone
namespace Go.Proofs.YtmnjjdeaccgjlaaGreat.PAskAlone
open Go.RowKit Go.Proofs.YtmnjjdeaccgjlaaGreatW.PrintWords Go.Proofs.YtmnjjdeaccgjlaaGreatW.PrintLast Go.Proofs.YtmnjjdeaccgjlaaGreatW.PrintMore
attribute [local go_sem] iH iJ jm jo gH gJ iI iK
def bC (w0 W:World) (g:Nat) (f0:List (jG)) (f1:List Int) (f2:Int) (f3:Int) (f4:Int):Prop:= ∃ A0 c0,∃ A1 c1,W.heap[g]?=some (.cells #[.slice A0 f0.length c0,.slice A1 f1.length c1,.int .i64 f2,.int .i64 f3,.int .i64 f4] 126 (0,0))∧w0.heap.size≤g∧Kd.C Ld w0 A0 f0.length f0∧Kd.C (Kd.int .i64) w0 A1 f1.length f1
theorem bC.grown {w0 W:World} {g:Nat} {f0:List (jG)} {f1:List Int} {f2:Int} {f3:Int} {f4:Int} {W1:World} {row:Option Nat} (h:bC w0 W g f0 f1 f2 f3 f4) (hw:W.grownBy W1 row) (hne:some g≠row):bC w0 W1 g f0 f1 f2 f3 f4:=by
 obtain ⟨A0,c0,A1,c1,hb,hg,hr0,hr1⟩:=h
 exact ⟨A0,c0,A1,c1,bJ hb hw hne,hg,hr0,hr1⟩
theorem bC.fresh {w0 W:World} {g:Nat} {f0:List (jG)} {f1:List Int} {f2:Int} {f3:Int} {f4:Int} (h:bC w0 W g f0 f1 f2 f3 f4): ∀ k,W.heap.size≤k→k≠g:=by
 obtain ⟨A0,c0,A1,c1,hb,hg,hr0,hr1⟩:=h
 exact Kd.Gh hb
theorem bC.kept {w0 W:World} {g:Nat} {f0:List (jG)} {f1:List Int} {f2:Int} {f3:Int} {f4:Int} {W1:World} {S:Nat→Prop} (h:bC w0 W g f0 f1 f2 f3 f4) (hk:Kept W W1 S) (hne: ¬ S g):bC w0 W1 g f0 f1 f2 f3 f4:=by
 obtain ⟨A0,c0,A1,c1,hb,hg,hr0,hr1⟩:=h
 exact ⟨A0,c0,A1,c1,vH hb hk hne,hg,hr0,hr1⟩
theorem bC.below {w0 W:World} {g:Nat} {f0:List (jG)} {f1:List Int} {f2:Int} {f3:Int} {f4:Int} {W1:World} (h:bC w0 W g f0 f1 f2 f3 f4) (hw:Below W.heap.size W W1):bC w0 W1 g f0 f1 f2 f3 f4:=h.grown (jc hw none) (by simp)
theorem bC.alloc {w0 W:World} {g:Nat} {f0:List (jG)} {f1:List Int} {f2:Int} {f3:Int} {f4:Int} (h:bC w0 W g f0 f1 f2 f3 f4) (o:Obj):bC w0 (W.alloc o) g f0 f1 f2 f3 f4:=h.below (ai (Below.refl _ _) o)
theorem bC.drewN {w0 W:World} {g:Nat} {f0:List (jG)} {f1:List Int} {f2:Int} {f3:Int} {f4:Int} (h:bC w0 W g f0 f1 f2 f3 f4) (m:Nat):bC w0 (W.drewN m) g f0 f1 f2 f3 f4:=h
theorem bC.drew {w0 W:World} {g:Nat} {f0:List (jG)} {f1:List Int} {f2:Int} {f3:Int} {f4:Int} (h:bC w0 W g f0 f1 f2 f3 f4):bC w0 W.drew g f0 f1 f2 f3 f4:=h
theorem bC.at_ {w0 W:World} {g:Nat} {f0:List (jG)} {f1:List Int} {f2:Int} {f3:Int} {f4:Int} {w':World} {m:Nat} (hq:W.drewN m=w') (h:bC w0 W g f0 f1 f2 f3 f4):bC w0 w' g f0 f1 f2 f3 f4:=by subst hq;exact bC.drewN h m
theorem bC.apart {w0 W:World} {g:Nat} {f0:List (jG)} {f1:List Int} {f2:Int} {f3:Int} {f4:Int} {α:Type} {d:Kd α} {e:Nat} {base:Nat} {ok:Nat→Prop} {v:Value} {xs:List α} (h:bC w0 W g f0 f1 f2 f3 f4) (ho:d.R e W base ok v xs) (ht: ∀ q,q∈e::d.E→q≠126):d.R e W base (fun k=>ok k∧k≠g) v xs:=by
 obtain ⟨A0,c0,A1,c1,hb,hg,hr0,hr1⟩:=h
 exact Kd.lg ho hb ht
theorem bC.own_ne {w0 W:World} {g:Nat} {f0:List (jG)} {f1:List Int} {f2:Int} {f3:Int} {f4:Int} {α:Type} {d:Kd α} {e:Nat} {base:Nat} {ok:Nat→Prop} {v:Value} {xs:List α} (h:bC w0 W g f0 f1 f2 f3 f4) (ho:d.R e W base ok v xs) (ht:e≠126):some g≠v.ownBlock:=by
 obtain ⟨A0,c0,A1,c1,hb,hg,hr0,hr1⟩:=h
 exact Kd.JD ho hb ht
theorem bC.lt {w0 W:World} {g:Nat} {f0:List (jG)} {f1:List Int} {f2:Int} {f3:Int} {f4:Int} (h:bC w0 W g f0 f1 f2 f3 f4):g<W.heap.size:=by
 obtain ⟨A0,c0,A1,c1,hb,hg,hr0,hr1⟩:=h
 exact bD hb
theorem bC.ge {w0 W:World} {g:Nat} {f0:List (jG)} {f1:List Int} {f2:Int} {f3:Int} {f4:Int} (h:bC w0 W g f0 f1 f2 f3 f4):w0.heap.size≤g:=by
 obtain ⟨A0,c0,A1,c1,hb,hg,hr0,hr1⟩:=h
 exact hg
theorem bC.far {w0 W:World} {g:Nat} {f0:List (jG)} {f1:List Int} {f2:Int} {f3:Int} {f4:Int} {p:Addr} (h:bC w0 W g f0 f1 f2 f3 f4) (hne:g≠p.block) (u:Value):bC w0 (W.setCell p u) g f0 f1 f2 f3 f4:=by
 obtain ⟨A0,c0,A1,c1,hb,hg,hr0,hr1⟩:=h
 exact ⟨A0,c0,A1,c1,cO hb hne u,hg,hr0,hr1⟩
theorem bC.new (w0 W:World) (A0:Option Addr) (c0:Nat) (A1:Option Addr) (c1:Nat) (f0:List (jG)) (f1:List Int) (f2:Int) (f3:Int) (f4:Int) (hB:Below w0.heap.size w0 W) (hr0:Kd.C Ld w0 A0 f0.length f0) (hr1:Kd.C (Kd.int .i64) w0 A1 f1.length f1):bC w0 (W.alloc (.cells #[.slice A0 f0.length c0,.slice A1 f1.length c1,.int .i64 f2,.int .i64 f3,.int .i64 f4] 126)) W.heap.size f0 f1 f2 f3 f4:=⟨A0,c0,A1,c1,by simpa using heap_alloc_new W _,hB.size,hr0,hr1⟩
def ja.f (a0:Bool):Option (Int):=if a0=true then (some 1) else (some 0)
theorem ja.calls (a0:Bool) (r:Int) (w:World) (h:ja.f a0=some r):
  Calls Tryz.prog 147 #[.bool a0] w fun e w'=>e= .returned (.int .i64 r)∧dK w w':=by
 have H:(if a0=true then (some 1) else (some 0))=some r:=h
 clear h
 by_cases c2:a0=true
 ·subst c2
  have H1:(some 1)=some r:=by rw [if_pos rfl] at H;exact H
  clear H
  have H:=H1
  clear H1
  obtain rfl:=Option.some.inj H
  go_enter Tryz.func147,Tryz.ntmps147
  go_wp2
  go_ret
  exact ⟨by first | rfl | (simp;done) | (simp [*];done),by repeat (first | exact dK.refl _ | apply dK.step)⟩
 ·replace c2:=Bool.eq_false_iff.mpr c2
  subst c2
  have H1:(some 0)=some r:=by rw [if_neg (show ¬ (false=true) by decide)] at H;exact H
  clear H
  have H:=H1
  clear H1
  obtain rfl:=Option.some.inj H
  go_enter Tryz.func147,Tryz.ntmps147
  go_wp2
  go_ret
  exact ⟨by first | rfl | (simp;done) | (simp [*];done),by repeat (first | exact dK.refl _ | apply dK.step)⟩
def di.l0:Nat→List Int→List (gy)→Int→Int→Option (List Int)
 | 0,_,_,_,_=>none
 | k+1,x3,x20,x21,x22=>if x22<x21 then (if 0≤x22 then (if x22<(x20.length:Int) then ((some (([(bg x20 x22).f0,(bg x20 x22).f1]:List Int):List Int)).bind fun y250=>(if x3.length+y250.length<17592186044416 then (di.l0 k (x3++y250) x20 x21 (wrap64 (x22+1))) else (none))) else (none)) else (none)) else (some x3)
def di.f (k:Nat) (a0_0:Int) (a0_1:Bool) (a0_2:Int) (a0_3:Int) (l0_4:List (gy)) (a0_5:Bool):Option (List Int):=(ja.f a0_1).bind fun t243=>((ja.f a0_5).bind fun t244=>(di.l0 k (([a0_0,t243,a0_2,a0_3,t244]:List Int)) l0_4 (l0_4.length:Int) 0))
def di.T1:Bool × List (List Nat × List Nat):=(true,[([],[]),([0],[0]),([],[]),([2],[2]),([3],[3]),([],[]),([5],[5]),([],[]),([7],[7]),([],[]),([9],[9]),([10,4],[10]),([1,4,6,8,11],[1,4,6,8,11]),([12,11,0,1,2,3,4,5,6,7,8,9,10,11,12],[12])])
def di.B1:List Nat:= [0,1,0,4,12,0,32,0,128,0,512,1564,4095,8191]
theorem di.NY:fq .any (opsOf Tryz.f96 1)=di.T1:=by kernel_rfl
theorem di.MH:bA di.T1.2 di.B1=true:=by kernel_rfl
theorem di.calls (k:Nat) (a0_0:Int) (a0_1:Bool) (a0_2:Int) (a0_3:Int) (A0_4:Option Addr) (c0_4:Nat) (l0_4:List (gy)) (a0_5:Bool) (r:List Int) (w:World) (hr0_4:Kd.C mE w A0_4 l0_4.length l0_4) (hc0_4:l0_4.length≤c0_4) (h:di.f k a0_0 a0_1 a0_2 a0_3 l0_4 a0_5=some r):
  Calls Tryz.prog 96 #[.agg #[.int .i64 a0_0,.bool a0_1,.int .i64 a0_2,.int .i64 a0_3,.slice A0_4 l0_4.length c0_4,.bool a0_5]] w fun e w'=> ∃ v0_:Value,e= .returned (v0_)∧Kd.R (Kd.int .i64) 2 w' w.heap.size (fun _=>True) v0_ r∧Below w.heap.size w w':=by
 have hu58:=Tryz.underlying58
 have hu121:=Tryz.underlying121
 have HR0_4:=Am_ hr0_4
 have HC0_4:=Am_ hc0_4
 clear hr0_4 hc0_4
 have HB:=Am_ (Below.refl w.heap.size w)
 have H:((ja.f a0_1).bind fun t243=>((ja.f a0_5).bind fun t244=>(di.l0 k (([a0_0,t243,a0_2,a0_3,t244]:List Int)) l0_4 (l0_4.length:Int) 0)))=some r:=h
 clear h
 replace H:=Option.bind_eq_some_iff.mp H
 obtain ⟨t243,A20,H⟩:=H
 replace H:((ja.f a0_5).bind fun t244=>(di.l0 k (([a0_0,t243,a0_2,a0_3,t244]:List Int)) l0_4 (l0_4.length:Int) 0))=some r:=H
 have A2:=Am_ A20
 clear A20
 replace H:=Option.bind_eq_some_iff.mp H
 obtain ⟨t244,A30,H⟩:=H
 replace H:(di.l0 k (([a0_0,t243,a0_2,a0_3,t244]:List Int)) l0_4 (l0_4.length:Int) 0)=some r:=H
 have A3:=Am_ A30
 clear A30
 obtain ⟨y245,hy245⟩: ∃ y_:List Int,y_=(([a0_0,t243,a0_2,a0_3,t244]:List Int)):=⟨_,rfl⟩
 replace H:(di.l0 k y245 l0_4 (l0_4.length:Int) 0)=some r:=by first | (rw [hy245];with_reducible exact H) | (have H2_:=(Option.bind_some _ _).symm.trans H;rw [hy245];with_reducible exact H2_) | (have H2_:=(Option.bind_some _ _).symm.trans H;with_reducible exact H2_) | with_reducible exact H | (rw [hy245];exact H) | exact H
 have Ny245:=Am_ hy245
 clear hy245
 have H':=Am_ H
 clear H
 go_enter Tryz.func96,Tryz.ntmps96
 try go_wp2_with (first | ((with_reducible refine fH (N:=1) rfl ?_);refine eZ ?hg (N:=1) ?hd (cs:= #[.int .i64 a0_0,.bool a0_1,.int .i64 a0_2,.int .i64 a0_3,.slice A0_4 l0_4.length c0_4,.bool a0_5]) (t:=58) ?hr ?_;(case hd=>rfl);(case hg=>rfl);(case hr=>first | (go_simp;done) | (go_simp;rfl));intro gb242 hg w4 hbox hb;have n0_:=Am_ (dJ (by repeat (first | (with_reducible first | exact HB.out | apply ai | apply au | apply aA) | exact HB.out)) hb);have n1_:=Am_ (hbox);have n2_:=Am_ ((by rw [hg];exact (bB (by repeat (first | (with_reducible first | exact HB.out | apply ai | apply au | apply aA) | exact HB.out))):w.heap.size≤gb242));have n3_:=Am_ ((by rw [hg];exact (bB (by repeat (first | (with_reducible first | exact HB.out | apply ai | apply au | apply aA) | exact HB.out))):w.heap.size≤gb242));clear HB;have HB:=n0_;have BK242:=n1_;have GW242:=n2_;have GE242:=n3_;clear n0_ n1_ n2_ n3_;clear hb hbox hg))
 have n0_:=Am_ (aI BK242.out)
 have n1_:=Am_ (aA HB.out)
 clear BK242
 clear HB
 have BK242:=n0_
 have HB:=n1_
 clear n0_ n1_
 refine jL (n:=14) (S:=fun w'=>w'.cell? ⟨gb242,0,none⟩=some (.int .i64 a0_0)∧w'.cell? ⟨gb242,1,none⟩=some (.bool a0_1)∧w'.cell? ⟨gb242,2,none⟩=some (.int .i64 a0_2)∧w'.cell? ⟨gb242,3,none⟩=some (.int .i64 a0_3)∧w'.cell? ⟨gb242,4,none⟩=some (.slice A0_4 l0_4.length c0_4)∧w'.cell? ⟨gb242,5,none⟩=some (.bool a0_5)) (ds:= []) #[N_,N_,N_,N_,N_,N_,N_,N_,N_,N_,N_,N_,N_,N_] (by kernel_rfl) rfl rfl ⟨(af BK242.out 0).trans rfl,(af BK242.out 1).trans rfl,(af BK242.out 2).trans rfl,(af BK242.out 3).trans rfl,(af BK242.out 4).trans rfl,(af BK242.out 5).trans rfl⟩ (fun hHeld=>?_);refine fU di.NY di.MH (fun HT_ HW_=>?_)
 generalize w4.drew=w5 at BK242 HB hHeld ⊢
 refine bS (i:=0) (N:=some 6) (v:=?_) (a':=?_) #[Y_,N_,N_,N_,N_,N_,N_,N_,N_,N_,N_,N_,N_,N_] rfl rfl (bf HT_.out (by kernel_rfl)) (fun _ _ _ h=>h) (Or.inl ⟨by rfl,?_⟩) ?_ ?_
 rotate_left; · intro w';go_simp;with_reducible rfl
 rotate_left; · simp only [Act.put,u1_,u2_,u3_,ax,ay];rfl
 refine bS (i:=2) (N:=some 8) (v:=?_) (a':=?_) #[Y_,N_,Y_,N_,N_,N_,N_,N_,N_,N_,N_,N_,N_,N_] rfl rfl (bf HT_.out (by kernel_rfl)) (fun _ _ _ h=>h) (Or.inl ⟨by rfl,?_⟩) ?_ ?_
 rotate_left; · intro w';go_simp;with_reducible rfl
 rotate_left; · simp only [Act.put,u1_,u2_,u3_,ax,ay];rfl
 refine bS (i:=5) (N:=some 11) (v:=?_) (a':=?_) #[Y_,N_,Y_,N_,N_,Y_,N_,N_,N_,N_,N_,N_,N_,N_] rfl rfl (bf HT_.out (by kernel_rfl)) (fun _ _ _ h=>h) (Or.inl ⟨by rfl,?_⟩) ?_ ?_
 rotate_left; · intro w';go_simp;with_reducible rfl
 rotate_left; · simp only [Act.put,u1_,u2_,u3_,ax,ay];rfl
 refine bS (i:=7) (N:=some 13) (v:=?_) (a':=?_) #[Y_,N_,Y_,N_,N_,Y_,N_,Y_,N_,N_,N_,N_,N_,N_] rfl rfl (bf HT_.out (by kernel_rfl)) (fun _ _ _ h=>h) (Or.inl ⟨by rfl,?_⟩) ?_ ?_
 rotate_left; · intro w';go_simp;with_reducible rfl
 rotate_left; · simp only [Act.put,u1_,u2_,u3_,ax,ay];rfl
 refine bS (i:=9) (N:=some 15) (v:=?_) (a':=?_) #[Y_,N_,Y_,N_,N_,Y_,N_,Y_,N_,Y_,N_,N_,N_,N_] rfl rfl (bf HT_.out (by kernel_rfl)) (fun _ _ _ h=>h) (Or.inl ⟨by rfl,?_⟩) ?_ ?_
 rotate_left; · intro w';go_simp;with_reducible rfl
 rotate_left; · simp only [Act.put,u1_,u2_,u3_,ax,ay];rfl
 refine fw (i:=1) (N:=some 7) (v:=?_) (a':=?_) #[Y_,Y_,Y_,N_,N_,Y_,N_,Y_,N_,Y_,N_,N_,N_,N_] rfl rfl (bN HT_.out HW_.out (by kernel_rfl)) (fun _ _ _ h=>h) (Or.inl ⟨by rfl,?_⟩) hHeld ?_ ?_
 rotate_left; · rintro w' ⟨s0,s1,s2,s3,s4,s5⟩;go_simp;with_reducible rfl
 rotate_left; · simp only [Act.put,u1_,u2_,u3_,ax,ay];rfl
 refine fw (i:=3) (N:=some 9) (v:=?_) (a':=?_) #[Y_,Y_,Y_,Y_,N_,Y_,N_,Y_,N_,Y_,N_,N_,N_,N_] rfl rfl (bN HT_.out HW_.out (by kernel_rfl)) (fun _ _ _ h=>h) (Or.inl ⟨by rfl,?_⟩) hHeld ?_ ?_
 rotate_left; · rintro w' ⟨s0,s1,s2,s3,s4,s5⟩;go_simp;with_reducible rfl
 rotate_left; · simp only [Act.put,u1_,u2_,u3_,ax,ay];rfl
 refine fw (i:=6) (N:=some 12) (v:=?_) (a':=?_) #[Y_,Y_,Y_,Y_,N_,Y_,Y_,Y_,N_,Y_,N_,N_,N_,N_] rfl rfl (bN HT_.out HW_.out (by kernel_rfl)) (fun _ _ _ h=>h) (Or.inl ⟨by rfl,?_⟩) hHeld ?_ ?_
 rotate_left; · rintro w' ⟨s0,s1,s2,s3,s4,s5⟩;go_simp;with_reducible rfl
 rotate_left; · simp only [Act.put,u1_,u2_,u3_,ax,ay];rfl
 refine fw (i:=8) (N:=some 14) (v:=?_) (a':=?_) #[Y_,Y_,Y_,Y_,N_,Y_,Y_,Y_,Y_,Y_,N_,N_,N_,N_] rfl rfl (bN HT_.out HW_.out (by kernel_rfl)) (fun _ _ _ h=>h) (Or.inl ⟨by rfl,?_⟩) hHeld ?_ ?_
 rotate_left; · rintro w' ⟨s0,s1,s2,s3,s4,s5⟩;go_simp;with_reducible rfl
 rotate_left; · simp only [Act.put,u1_,u2_,u3_,ax,ay];rfl
 refine fw (i:=10) (N:=some 16) (v:=?_) (a':=?_) #[Y_,Y_,Y_,Y_,N_,Y_,Y_,Y_,Y_,Y_,Y_,N_,N_,N_] rfl rfl (bN HT_.out HW_.out (by kernel_rfl)) (fun _ _ _ h=>h) (Or.inl ⟨by rfl,?_⟩) hHeld ?_ ?_
 rotate_left; · rintro w' ⟨s0,s1,s2,s3,s4,s5⟩;go_simp;with_reducible rfl
 rotate_left; · simp only [Act.put,u1_,u2_,u3_,ax,ay];rfl
 refine nS (i:=4) (N:=some 10) #[Y_,Y_,Y_,Y_,Y_,Y_,Y_,Y_,Y_,Y_,Y_,N_,N_,N_] rfl rfl (dV HT_.out (by kernel_rfl)) (by decide) (fun K hK=>?_)
 refine La Tryz.func147 (by kernel_rfl) rfl #[.bool a0_1] (by rfl) rfl rfl (by (try simp only [List.map_toArray,List.map_cons,List.map_nil]);first | done | rfl | (simp only [List.length_drop,List.length_take];rfl)) ?_
 with_reducible refine (ja.calls a0_1 t243 _ A2.out).mono ?_
 rintro e w' ⟨rfl,⟨nd,rfl⟩⟩
 refine ⟨_,rfl,?_⟩
 refine hK.out _ _ ⟨(af BK242.out 0).trans rfl,(af BK242.out 1).trans rfl,(af BK242.out 2).trans rfl,(af BK242.out 3).trans rfl,(af BK242.out 4).trans rfl,(af BK242.out 5).trans rfl⟩ (fun hHeld=>?_)
 clear hK K
 refine bK (a':=?_) ?_ ?_
 rotate_left; · show Act.put _ (some 10) _=_;simp only [Act.put,u1_,u2_,u3_,ax,ay];rfl
 refine nS (i:=11) (N:=some 17) #[Y_,Y_,Y_,Y_,Y_,Y_,Y_,Y_,Y_,Y_,Y_,Y_,N_,N_] rfl rfl (dV HT_.out (by kernel_rfl)) (by decide) (fun K hK=>?_)
 refine La Tryz.func147 (by kernel_rfl) rfl #[.bool a0_5] (by rfl) rfl rfl (by (try simp only [List.map_toArray,List.map_cons,List.map_nil]);first | done | rfl | (simp only [List.length_drop,List.length_take];rfl)) ?_
 with_reducible refine (ja.calls a0_5 t244 _ A3.out).mono ?_
 rintro e w' ⟨rfl,⟨nd,rfl⟩⟩
 refine ⟨_,rfl,?_⟩
 refine hK.out _ _ ⟨(af BK242.out 0).trans rfl,(af BK242.out 1).trans rfl,(af BK242.out 2).trans rfl,(af BK242.out 3).trans rfl,(af BK242.out 4).trans rfl,(af BK242.out 5).trans rfl⟩ (fun hHeld=>?_)
 clear hK K
 refine bK (a':=?_) ?_ ?_
 rotate_left; · show Act.put _ (some 17) _=_;simp only [Act.put,u1_,u2_,u3_,ax,ay];rfl
 refine nS (i:=12) (N:=some 18) #[Y_,Y_,Y_,Y_,Y_,Y_,Y_,Y_,Y_,Y_,Y_,Y_,Y_,N_] rfl rfl (dV HT_.out (by kernel_rfl)) (by decide) (fun K hK=>?_)
 refine Kd.oQ (Kd.int .i64) _ 2 ?hg (N:=18) ?hd (xs:=([a0_0,t243,a0_2,a0_3,t244]:List Int)) (inner:= [.int .i64 a0_0,.int .i64 t243,.int .i64 a0_2,.int .i64 a0_3,.int .i64 t244]) (ok:=fun _=>True) (okp:=fun _=>True) ?hr ?hp (fun _ hk=>hk) trivial (Below.refl _ _) (Nat.le_refl _) (by simp) ?_;(case hd=>rfl);(case hg=>rfl);(case hr=>first | (go_simp;done) | (go_simp;rfl));(case hp=>exact (eY.one (show Kd.M (Kd.int .i64) _ _ _ a0_0 [.int .i64 a0_0] from rfl) (eY.one (show Kd.M (Kd.int .i64) _ _ _ t243 [.int .i64 t243] from rfl) (eY.one (show Kd.M (Kd.int .i64) _ _ _ a0_2 [.int .i64 a0_2] from rfl) (eY.one (show Kd.M (Kd.int .i64) _ _ _ a0_3 [.int .i64 a0_3] from rfl) (eY.one (show Kd.M (Kd.int .i64) _ _ _ t244 [.int .i64 t244] from rfl) (eY.none _ _)))))))
 intro v246 w6 ho7 hb hg_ hnew_
 clear hg_ hnew_
 (first | rw [←Ny245.out] at ho7 | (simp only [Int.reduceToNat] at ho7;rw [←Ny245.out] at ho7))
 have n0_:=Am_ (Kd.eX ho7 (bB (by repeat (first | (with_reducible first | exact HB.out | apply ai | apply au | apply aA | refine aN ?_ GE242.out) | exact HB.out))))
 have n1_:=Am_ (bF (g:=gb242) (o:= .cells #[.int .i64 a0_0,.bool a0_1,.int .i64 a0_2,.int .i64 a0_3,.slice A0_4 l0_4.length c0_4,.bool a0_5] 58 (0,0)) (by (with_reducible repeat (first | refine aG ?_ _ | refine aI ?_ | refine aC ?_ _));exact BK242.out) hb)
 have n2_:=Am_ (dJ (by repeat (first | (with_reducible first | exact HB.out | apply ai | apply au | apply aA | refine aN ?_ GE242.out) | exact HB.out)) hb)
 clear BK242
 clear HB
 have HO247:=n0_
 have BK242:=n1_
 have HB:=n2_
 clear n0_ n1_ n2_
 clear hb ho7
 refine hK.out _ _ ⟨(af BK242.out 0).trans rfl,(af BK242.out 1).trans rfl,(af BK242.out 2).trans rfl,(af BK242.out 3).trans rfl,(af BK242.out 4).trans rfl,(af BK242.out 5).trans rfl⟩ (fun hHeld=>?_)
 clear hK K
 refine bK (a':=?_) ?_ ?_
 rotate_left; · show Act.put _ (some 18) _=_;simp only [Act.put,u1_,u2_,u3_,ax,ay];rfl
 refine bS (i:=13) (N:=some 3) (v:=?_) (a':=?_) #[Y_,Y_,Y_,Y_,Y_,Y_,Y_,Y_,Y_,Y_,Y_,Y_,Y_,Y_] rfl rfl (bf HT_.out (by kernel_rfl)) (fun _ _ _ h=>h) (Or.inl ⟨by rfl,?_⟩) ?_ ?_
 rotate_left; · intro w';go_simp;with_reducible rfl
 rotate_left; · simp only [Act.put,u1_,u2_,u3_,ax,ay];rfl
 refine dD (bI HT_.out (by kernel_rfl)) ?_
 have hcz8_0:w6.cell? ⟨gb242,0,none⟩=some (.int .i64 a0_0):=(af BK242.out 0).trans rfl
 have hcz8_1:w6.cell? ⟨gb242,1,none⟩=some (.bool a0_1):=(af BK242.out 1).trans rfl
 have hcz8_2:w6.cell? ⟨gb242,2,none⟩=some (.int .i64 a0_2):=(af BK242.out 2).trans rfl
 have hcz8_3:w6.cell? ⟨gb242,3,none⟩=some (.int .i64 a0_3):=(af BK242.out 3).trans rfl
 have hcz8_4:w6.cell? ⟨gb242,4,none⟩=some (.slice A0_4 l0_4.length c0_4):=(af BK242.out 4).trans rfl
 have hcz8_5:w6.cell? ⟨gb242,5,none⟩=some (.bool a0_5):=(af BK242.out 5).trans rfl
 have hfz8_0:=ah BK242.out 0
 have hfz8_1:=ah BK242.out 1
 have hfz8_2:=ah BK242.out 2
 have hfz8_3:=ah BK242.out 3
 have hfz8_4:=ah BK242.out 4
 have hfz8_5:=ah BK242.out 5
 try go_wp2
 go_loopg [3,22] k (fun kq v3 v22 w'=> ∃ (x3_1:List Int) (x22_1:Int),v22= .int .i64 x22_1∧ak (di.l0 kq x3_1 l0_4 (l0_4.length:Int) x22_1=some r)∧ak (kq≤k)∧ak (Kd.R (Kd.int .i64) 2 w' w.heap.size (fun _=>True) v3 x3_1)∧ak (w'.heap[gb242]?=some (.cells #[.int .i64 a0_0,.bool a0_1,.int .i64 a0_2,.int .i64 a0_3,(.slice A0_4 l0_4.length c0_4),.bool a0_5] 58 (0,0)))∧ak (Below w.heap.size w w'))
 case atStart=>exact ⟨(y245),(0),(by first | rfl | (simp;done) | (simp [*];done)),H',⟨Nat.le_refl _⟩,⟨by (with_reducible repeat (first | apply Kd.dL | apply Kd.ic | apply Kd.gF));exact HO247.out⟩,⟨by (with_reducible repeat (first | refine aG ?_ _ | refine aI ?_ | refine aC ?_ _));exact BK242.out⟩,⟨by repeat (first | (with_reducible first | exact HB.out | apply ai | apply au | apply aA | refine aN ?_ GE242.out) | exact HB.out)⟩⟩
 case round=>
  clear H'
  try clear c1
  try clear p2
  try clear hcz8_0
  try clear hcz8_1
  try clear hcz8_2
  try clear hcz8_3
  try clear hcz8_4
  try clear hcz8_5
  try clear hfz8_0
  try clear hfz8_1
  try clear hfz8_2
  try clear hfz8_3
  try clear hfz8_4
  try clear hfz8_5
  obtain ⟨x3_1,x22_1,rfl,HA,HK1,HO_3,BK242,HB⟩:=hrel
  cases gk with
  | zero=>exact absurd HA.out (by simp [di.l0])
  | succ k1=>
   have H:=HA.out
   clear HA
   simp only [di.l0] at H
   by_cases c9:x22_1<(l0_4.length:Int)
   ·rw [if_pos c9] at H
    have c9b0:decide (x22_1<(l0_4.length:Int))=true:=decide_eq_true c9
    clear c9
    by_cases c10:0≤x22_1
    ·rw [if_pos c10] at H
     have c10b0:decide (0≤x22_1)=true:=decide_eq_true c10
     clear c10
     by_cases c11:x22_1<(l0_4.length:Int)
     ·rw [if_pos c11] at H
      have c11b0:decide (x22_1<(l0_4.length:Int))=true:=decide_eq_true c11
      clear c11
      obtain ⟨y250,hy250⟩: ∃ y_:List Int,y_=(([(bg l0_4 x22_1).f0,(bg l0_4 x22_1).f1]:List Int)):=⟨_,rfl⟩
      replace H:(if x3_1.length+y250.length<17592186044416 then (di.l0 k1 (x3_1++y250) l0_4 (l0_4.length:Int) (wrap64 (x22_1+1))) else (none))=some r:=by first | (rw [hy250];with_reducible exact H) | (have H2_:=(Option.bind_some _ _).symm.trans H;rw [hy250];with_reducible exact H2_) | (have H2_:=(Option.bind_some _ _).symm.trans H;with_reducible exact H2_) | with_reducible exact H | (rw [hy250];exact H) | exact H
      have Ny250:=Am_ hy250
      clear hy250
      by_cases c12:x3_1.length+y250.length<17592186044416
      ·rw [if_pos c12] at H
       have LMc12:=Am_ c12
       clear c12
       obtain ⟨y253,hy253⟩: ∃ y_:List Int,y_=(x3_1++y250):=⟨_,rfl⟩
       replace H:(di.l0 k1 y253 l0_4 (l0_4.length:Int) (wrap64 (x22_1+1)))=some r:=by first | (rw [hy253];with_reducible exact H) | (have H2_:=(Option.bind_some _ _).symm.trans H;rw [hy253];with_reducible exact H2_) | (have H2_:=(Option.bind_some _ _).symm.trans H;with_reducible exact H2_) | with_reducible exact H | (rw [hy253];exact H) | exact H
       have Ny253:=Am_ hy253
       clear hy253
       have H':=Am_ H
       clear H
       have p248:0≤(x22_1:Int):=of_decide_eq_true (by first | (with_reducible assumption) | assumption)
       have q248:x22_1<(l0_4.length:Int):=of_decide_eq_true (by first | (with_reducible assumption) | assumption)
       obtain ⟨ad248,e248,hx248_0,hx248_1⟩:=jb HR0_4.out x22_1 p248 q248
       cases e248
       replace hx248_0:=(HB.out.cell (World.block_lt_of_cell? w _ hx248_0)).trans hx248_0
       replace hx248_1:=(HB.out.cell (World.block_lt_of_cell? w _ hx248_1)).trans hx248_1
       replace p248:=eq_true p248
       replace q248:=eq_true q248
       go_wp2_with (first | ((with_reducible refine fH (N:=5) rfl ?_);refine eZ ?hg (N:=5) ?hd (cs:= #[.int .i64 0,.int .i64 0]) (t:=121) ?hr ?_;(case hd=>rfl);(case hg=>rfl);(case hr=>first | (go_simp;done) | (go_simp;rfl));intro gb249 hg w13 hbox hb;have n0_:=Am_ (Kd.dU (by (with_reducible repeat (first | apply Kd.dL | apply Kd.ic | apply Kd.gF));exact HO_3.out) hb);have n1_:=Am_ (bF (g:=gb242) (o:= .cells #[.int .i64 a0_0,.bool a0_1,.int .i64 a0_2,.int .i64 a0_3,.slice (some ad248) l0_4.length c0_4,.bool a0_5] 58 (0,0)) (by (with_reducible repeat (first | refine aG ?_ _ | refine aI ?_ | refine aC ?_ _));exact BK242.out) hb);have n2_:=Am_ (dJ (by repeat (first | (with_reducible first | exact HB.out | apply ai | apply au | apply aA | refine aN ?_ GE242.out) | exact HB.out)) hb);have n3_:=Am_ (hbox);have n4_:=Am_ ((by rw [hg];exact (bB (by repeat (first | (with_reducible first | exact HB.out | apply ai | apply au | apply aA | refine aN ?_ GE242.out) | exact HB.out))):w.heap.size≤gb249));have n5_:=Am_ ((by rw [hg];exact (bB (by repeat (first | (with_reducible first | exact HB.out | apply ai | apply au | apply aA | refine aN ?_ GE242.out) | exact HB.out))):w.heap.size≤gb249));have n6_:=Am_ ((by rw [hg];exact Nat.ne_of_lt (bD (g:=gb242) (o:= .cells #[.int .i64 a0_0,.bool a0_1,.int .i64 a0_2,.int .i64 a0_3,.slice (some ad248) l0_4.length c0_4,.bool a0_5] 58 (0,0)) (by (with_reducible repeat (first | refine aG ?_ _ | refine aI ?_ | refine aC ?_ _));exact BK242.out)):gb242≠gb249));have n7_:=Am_ ((by rw [hg];exact Nat.ne_of_gt (bD (g:=gb242) (o:= .cells #[.int .i64 a0_0,.bool a0_1,.int .i64 a0_2,.int .i64 a0_3,.slice (some ad248) l0_4.length c0_4,.bool a0_5] 58 (0,0)) (by (with_reducible repeat (first | refine aG ?_ _ | refine aI ?_ | refine aC ?_ _));exact BK242.out)):gb249≠gb242));clear HO_3;clear BK242;clear HB;have HO_3:=n0_;have BK242:=n1_;have HB:=n2_;have BK249:=n3_;have GW249:=n4_;have GE249:=n5_;have NB242_249:=n6_;have NB249_242:=n7_;clear n0_ n1_ n2_ n3_ n4_ n5_ n6_ n7_;clear hb hbox hg;have hnb14:=NB249_242.out;have hnc14:=NB242_249.out;have hcz15_0:w13.cell? ⟨gb249,0,none⟩=some (.int .i64 0):=(af BK249.out 0).trans rfl;have hcz15_1:w13.cell? ⟨gb249,1,none⟩=some (.int .i64 0):=(af BK249.out 1).trans rfl;have hfz15_0:=ah BK249.out 0;have hfz15_1:=ah BK249.out 1) | ((with_reducible refine fH (N:=31) rfl ?_);refine Kd.Km (Kd.int .i64) _ 2 ?hg (N:=31) ?hd (xs:=([(bg l0_4 x22_1).f0,(bg l0_4 x22_1).f1]:List Int)) (inner:= [.int .i64 ((bg l0_4 x22_1).f0),.int .i64 ((bg l0_4 x22_1).f1)]) (ok:=fun _=>True) (okp:=fun _=>True) ?hr ?hp (fun _ hk=>hk) trivial (Below.refl _ _) (Nat.le_refl _) (by simp) ?_;(case hd=>rfl);(case hg=>rfl);(case hr=>first | (go_simp;done) | (go_simp;rfl));(case hp=>exact (eY.one (show Kd.M (Kd.int .i64) _ _ _ ((bg l0_4 x22_1).f0) [.int .i64 ((bg l0_4 x22_1).f0)] from rfl) (eY.one (show Kd.M (Kd.int .i64) _ _ _ ((bg l0_4 x22_1).f1) [.int .i64 ((bg l0_4 x22_1).f1)] from rfl) (eY.none _ _))));intro v251 w16 ho17 hb hg_ hnew_;clear hg_ hnew_;(first | rw [←Ny250.out] at ho17 | (simp only [Int.reduceToNat] at ho17;rw [←Ny250.out] at ho17));have n0_:=Am_ (Kd.CZ (by (with_reducible repeat (first | apply Kd.dL | apply Kd.ic | apply Kd.gF));exact (Kd.bq (Kd.bV (p:=⟨gb249,1,none⟩) (Kd.bV (p:=⟨gb249,0,none⟩) (Kd.lg HO_3.out BK249.out (by decide)) (fun _ hk=>hk.2) (.int .i64 ((bg l0_4 x22_1).f0))) (fun _ hk=>hk.2) (.int .i64 ((bg l0_4 x22_1).f1))) (fun _ h_=>h_.1))) (Kd.iQ ho17) hb);have n1_:=Am_ (Kd.eX (Kd.Kn ho17 (Kd.qP (by (with_reducible repeat (first | apply Kd.dL | apply Kd.ic | apply Kd.gF));exact (Kd.bq (Kd.bV (p:=⟨gb249,1,none⟩) (Kd.bV (p:=⟨gb249,0,none⟩) (Kd.lg HO_3.out BK249.out (by decide)) (fun _ hk=>hk.2) (.int .i64 ((bg l0_4 x22_1).f0))) (fun _ hk=>hk.2) (.int .i64 ((bg l0_4 x22_1).f1))) (fun _ h_=>h_.1))))) (bB (by repeat (first | (with_reducible first | exact HB.out | apply ai | apply au | apply aA | refine aN ?_ GE242.out | refine aN ?_ GE249.out) | exact HB.out))));have n2_:=Am_ (bF (g:=gb242) (o:= .cells #[.int .i64 a0_0,.bool a0_1,.int .i64 a0_2,.int .i64 a0_3,.slice (some ad248) l0_4.length c0_4,.bool a0_5] 58 (0,0)) (by (with_reducible repeat (first | refine aG ?_ _ | refine aI ?_ | refine aC ?_ _));refine cO ?_ NB242_249.out _;(with_reducible repeat (first | refine aG ?_ _ | refine aI ?_ | refine aC ?_ _));refine cO ?_ NB242_249.out _;(with_reducible repeat (first | refine aG ?_ _ | refine aI ?_ | refine aC ?_ _));exact BK242.out) hb);have n3_:=Am_ (bF (g:=gb249) (o:= .cells #[.int .i64 ((bg l0_4 x22_1).f0),.int .i64 ((bg l0_4 x22_1).f1)] 121 (0,0)) (by (with_reducible repeat (first | refine aG ?_ _ | refine aI ?_ | refine aC ?_ _));refine eH (cs:= #[.int .i64 ((bg l0_4 x22_1).f0),.int .i64 0]) ?_ 1 _ rfl;(with_reducible repeat (first | refine aG ?_ _ | refine aI ?_ | refine aC ?_ _));refine eH (cs:= #[.int .i64 0,.int .i64 0]) ?_ 0 _ rfl;(with_reducible repeat (first | refine aG ?_ _ | refine aI ?_ | refine aC ?_ _));exact BK249.out) hb);have n4_:=Am_ (dJ (by repeat (first | (with_reducible first | exact HB.out | apply ai | apply au | apply aA | refine aN ?_ GE242.out | refine aN ?_ GE249.out) | exact HB.out)) hb);clear HO_3;clear BK242;clear BK249;clear HB;have HO_3:=n0_;have HO252:=n1_;have BK242:=n2_;have BK249:=n3_;have HB:=n4_;clear n0_ n1_ n2_ n3_ n4_;clear hb ho17;obtain ⟨Ao19,co19,eo19⟩:=Kd.aJ HO252.out;subst eo19) | ((with_reducible refine bW (b:= .append) (xs:= #[.tmp 26,.tmp 31]) rfl ?_);at_builtin;refine Kd.fM (Kd.int .i64) (w0:=w) w.heap.size rfl (.tmp 26) (.tmp 31) 22 2 (.int .i64 0) 8 rfl Tryz.underlying22 Lb rfl (by decide) (by omega) u3 x3_1 y250 _ _ _ (fun k_=>some k_≠(.slice Ao19 y250.length co19:Value).ownBlock) (fun _=>False) rfl rfl ?aO ?aR (fun _ _ h=>h) (fun _ h=>h.elim) ?aF ?aB ?aS ?aL ?_;(case aR=>repeat (first | exact (Kd.bM HO252.out).2.2 | (with_reducible refine Kd.iL ?_ _) | (with_reducible refine Kd.iM ?_ _) | (with_reducible refine Kd.jF ?_)));(case aB=>exact (by repeat (first | (with_reducible first | exact HB.out | apply ai | apply au | apply aA | refine aN ?_ GE242.out | refine aN ?_ GE249.out) | exact HB.out)));(case aF=>exact (fun k_ hk=>Kd.fresh' (Kd.qP (by (with_reducible repeat (first | apply Kd.dL | apply Kd.ic | apply Kd.gF));exact HO252.out)) k_ hk));(case aO=>exact (by (with_reducible repeat (first | apply Kd.dL | apply Kd.ic | apply Kd.gF));exact Kd.bq HO_3.out (fun _ hk=>hk.2)));(case aS=>exact (bB (by repeat (first | (with_reducible first | exact HB.out | apply ai | apply au | apply aA | refine aN ?_ GE242.out | refine aN ?_ GE249.out) | exact HB.out))));(case aL=>have:=LMc12.out;omega);intro v254 w18 ho hb hg hat;rw [←Ny253.out] at ho;have n0_:=Am_ (bJ (g:=gb242) (o:= .cells #[.int .i64 a0_0,.bool a0_1,.int .i64 a0_2,.int .i64 a0_3,.slice (some ad248) l0_4.length c0_4,.bool a0_5] 58 (0,0)) (by (with_reducible repeat (first | refine aG ?_ _ | refine aI ?_ | refine aC ?_ _));exact BK242.out) hg (Kd.JD HO_3.out BK242.out (by decide)));have n1_:=Am_ (bJ (g:=gb249) (o:= .cells #[.int .i64 ((bg l0_4 x22_1).f0),.int .i64 ((bg l0_4 x22_1).f1)] 121 (0,0)) (by (with_reducible repeat (first | refine aG ?_ _ | refine aI ?_ | refine aC ?_ _));exact BK249.out) hg (Kd.JD HO_3.out BK249.out (by decide)));have n2_:=Am_ (Kd.pX (ok:=(fun _=>True)) (by (with_reducible repeat (first | apply Kd.dL | apply Kd.ic | apply Kd.gF));exact HO252.out) hg hat);have n3_:=Am_ (hb);have n4_:=Am_ (ho);clear BK242;clear BK249;clear HO252;clear HB;clear HO_3;have BK242:=n0_;have BK249:=n1_;have HO252:=n2_;have HB:=n3_;have HO255:=n4_;clear n0_ n1_ n2_ n3_ n4_;clear ho hb hg hat))
       go_roundg k1
       case measure=>have:=HK1.out;omega
       case rel=>exact ⟨(y253),(wrap64 (x22_1+1)),(by first | rfl | (simp;done) | (simp [*];done)),H',⟨by have:=HK1.out;omega⟩,⟨by (with_reducible repeat (first | apply Kd.dL | apply Kd.ic | apply Kd.gF));exact Kd.bq HO255.out (fun _ hk=>trivial)⟩,⟨by (with_reducible repeat (first | refine aG ?_ _ | refine aI ?_ | refine aC ?_ _));exact BK242.out⟩,⟨by repeat (first | (with_reducible first | exact HB.out | apply ai | apply au | apply aA | refine aN ?_ GE242.out | refine aN ?_ GE249.out) | exact HB.out)⟩⟩
      ·rw [if_neg c12] at H
       exact absurd H (by simp)
     ·rw [if_neg c11] at H
      exact absurd H (by simp)
    ·rw [if_neg c10] at H
     exact absurd H (by simp)
   ·rw [if_neg c9] at H
    have c9b0:decide (x22_1<(l0_4.length:Int))=false:=decide_eq_false c9
    clear c9
    obtain rfl:=Option.some.inj H
    go_wp2
    go_ret
    exact ⟨_,by first | rfl | (simp [dP,dQ]<;>rfl) | (simp [*,dP,dQ]<;>rfl),by (with_reducible repeat (first | apply Kd.dL | apply Kd.ic | apply Kd.gF));exact HO_3.out,by repeat (first | (with_reducible first | exact HB.out | apply ai | apply au | apply aA | refine aN ?_ GE242.out) | exact HB.out)⟩
end Go.Proofs.YtmnjjdeaccgjlaaGreat.PAskAlone
namespace Go.Proofs.YtmnjjdeaccgjlaaGreat.Tower
open Go Go.RowKit Go.Proofs.YtmnjjdeaccgjlaaGreatW.PrintWords Go.Proofs.YtmnjjdeaccgjlaaGreatW.PrintLast Go.Proofs.YtmnjjdeaccgjlaaGreatW.PrintMore Go.Proofs.YtmnjjdeaccgjlaaGreat.Own Go.Proofs.YtmnjjdeaccgjlaaGreat.PAskAlone
def codeOf (a:Ans):List Int:= [a.err,b01 a.found,a.key,a.value,b01 a.short]++a.pairs.flatMap fun q=> [q.1,q.2]
theorem Aj (xs:List gy) (hl:xs.length<1000000): ∀ (k i:Nat) (x3:List Int),i≤xs.length→xs.length - i<k→x3.length+2*(xs.length - i)<17592186044416→di.l0 k x3 xs (xs.length:Int) (i:Int)=some (x3++(xs.drop i).flatMap fun q=> [q.f0,q.f1])
 | 0,i,x3,h1,h2,h3=>by omega
 | k+1,i,x3,h1,h2,h3=>by
  unfold di.l0
  by_cases hlt:i<xs.length
  ·rw [if_pos (by omega),if_pos (by omega),if_pos (by omega)]
   simp only [Option.bind_some]
   rw [if_pos (by simp;omega)]
   have hw:wrap64 ((i:Int)+1)=((i+1:Nat):Int):=by unfold wrap64;omega
   rw [hw,Aj xs hl k (i+1) _ (by omega) (by omega) (by simp;omega),List.drop_eq_getElem_cons hlt]
   have hg:bg xs (i:Int)=xs[i]:=by simp [bg,List.getD_eq_getElem?_getD,hlt]
   rw [hg,List.flatMap_cons,List.append_assoc]
  ·rw [if_neg (by omega)]
   rw [List.drop_of_length_le (by omega)]
   simp
theorem KQ (b:Bool):ja.f b=some (b01 b):=by cases b<;>rfl
def toS (q:Int × Int):gy:=⟨q.1,q.2⟩
theorem KR (a:Ans) (hl:a.pairs.length<1000000):di.f 1000001 a.err a.found a.key a.value (a.pairs.map toS) a.short=some (codeOf a):=by
 unfold di.f
 rw [KQ,KQ]
 simp only [Option.bind_some]
 have h:=Aj (a.pairs.map toS) (by simpa using hl) 1000001 0 [a.err,b01 a.found,a.key,a.value,b01 a.short] (Nat.zero_le _) (by simp;omega) (by simp;omega)
 rw [Int.natCast_zero] at h
 rw [h,List.drop_zero]
 simp [codeOf,List.flatMap_map,toS]
theorem IV {w:World} {A:Option Addr} {n:Nat} {xs:List (Int × Int)} (h:dw.C w A n xs):Kd.C mE w A n (xs.map toS):=by
 refine ⟨by rw [List.length_map];exact h.1,h.2.1,fun hp=>?_⟩
 obtain ⟨ad,e,hc⟩:=h.2.2 hp
 refine ⟨ad,e,fun j q hq=>?_⟩
 rw [List.getElem?_map] at hq
 cases hx:xs[j]? with
 | none=>rw [hx] at hq;cases hq
 | some x=>
  rw [hx] at hq
  injection hq with hq
  subst hq
  exact hc j x hx
theorem xw (a:Ans) (A:Option Addr) (c:Nat) (w:World) (hC:dw.C w A a.pairs.length a.pairs) (hc:a.pairs.length≤c) (hl:a.pairs.length<1000000):
  Calls Tryz.prog 96 #[.agg #[.int .i64 a.err,.bool a.found,.int .i64 a.key,.int .i64 a.value,.slice A a.pairs.length c,.bool a.short]] w fun e w'=> ∃ v,e= .returned v∧(Kd.int .i64).R 2 w' w.heap.size (fun _=>True) v (codeOf a)∧Below w.heap.size w w':=by
 have h:=di.calls 1000001 a.err a.found a.key a.value A c (a.pairs.map toS) a.short (codeOf a) w (by rw [List.length_map];exact IV hC) (by rw [List.length_map];exact hc) (KR a hl)
 rw [List.length_map] at h
 exact h
def mR (me:Int) (f:Nat) (dT:Pr Ws Ans):Pr Ws (List Int):=aU (Gc me f) fun _=>aU dT fun a=>aU (NE me) fun _=>dS (codeOf a)
structure jP (p:Nat) (me:Int) (o:Opn) (bw bm bo:Nat) (ok:Nat→Prop) (w:World):Prop where
 hw:Mine ok w bw (.cells #[.pointer (some ⟨p,0,none⟩)] 31 (0,0))
 hm:Mine ok w bm (.cells #[.int .i64 me] 3 (0,0))
 ho:Mine ok w bo (.cells #[.int .u8 o.kind,.int .i64 o.key,.int .i64 o.upto,.int .i64 o.value] 52 (0,0))
theorem jP.moves {p:Nat} {me:Int} {o:Opn} {bw bm bo:Nat} (ok ok1:Nat→Prop) (w w1:World) (h:jP p me o bw bm bo ok w) (m:Moves ok ok1 w w1):jP p me o bw bm bo ok1 w1:=⟨h.hw.moves m,h.hm.moves m,h.ho.moves m⟩
def kg (bw bm bo:Nat):Value:= .func (.func 98) #[] #[.pointer (some ⟨bw,0,none⟩),.pointer (some ⟨bm,0,none⟩),.pointer (some ⟨bo,0,none⟩)]
theorem pY (p tb:Nat) (work:Value) (me:Int) (o:Opn) (bw bm bo:Nat) (ok:Nat→Prop) (s:TS Ws) (w:World) (f:Nat) (dT:Pr Ws Ans) (h:dN (shW p) tb work ok s w) (hb:jP p me o bw bm bo ok w)
  (hdo: ∀ ok s w res,dN (shW p) tb work ok s w→dT s=some res→Calls Tryz.prog 100 #[eP tb p me,opV o] w (fQ (shW p) tb work JE ok w res))
  (hsm: ∀ s a t,dT s=some (.ret a,t)→a.pairs.length<1000000)
  (res:Out (List Int) × TS Ws) (hr:mR me f dT s=some res):
  Calls Tryz.prog 98 #[.pointer (some ⟨tb,0,none⟩),.pointer (some ⟨bw,0,none⟩),.pointer (some ⟨bm,0,none⟩),.pointer (some ⟨bo,0,none⟩)] w (fQ (shW p) tb work (KL w.heap.size) ok w res):=by
 obtain ⟨o1,t1,hd1,hc1⟩:=aD hr
 have HT:=Am_ (aH.enter (me:=me) h)
 have HB:=Am_ (jP.moves _ _ _ _ hb ((Moves.refl ok w).alloc (fC tb p me)))
 have HD1:=Am_ hd1
 have HC1:=Am_ hc1
 have HDO:=Am_ hdo
 have HSM:=Am_ hsm
 have m0:=(af hb.hw.1 0).trans (rfl:_=some (Value.pointer (some ⟨p,0,none⟩)))
 have m1:=(af hb.hm.1 0).trans (rfl:_=some (Value.int .i64 me))
 have HWZ:=Am_ (Nat.le_refl w.heap.size)
 unfold fC at HT HB
 clear h hb hr hd1 hc1 hdo hsm
 go_enter Tryz.func98,Tryz.ntmps98
 go_upto_region 4 with fail
 generalize w.alloc (.cells #[.pointer (some ⟨tb,0,none⟩),.pointer (some ⟨p,0,none⟩),.int .i64 me] 114)=w1 at HT HB ⊢
 generalize hbb:w.heap.size=bt at HT ⊢
 have c0:=HT.out.c0
 have c1:=HT.out.c1
 have c2:=HT.out.c2
 clear m0 m1 HWZ
 go_upto_region 5 with (go_at_call 99;refine (tH p tb work me ok s _ f HT.out.run (o1,t1) HD1.out).mono ?_;rintro e w2 ⟨ok2,hm,hi,hres⟩;rcases HC1.out with hw | hw;(obtain ⟨rfl,rfl⟩:=hw;obtain rfl:e= .panicked dx:=hres;exact ⟨rfl,⟨⟨ok2,HT.out.moves.trans hm,hi,rfl⟩⟩⟩);obtain ⟨u1,rfl,hr2⟩:=hw;obtain ⟨v,rfl,rfl⟩:=hres;have HT2:=Am_ (HT.out.next hm hi);have HB2:=Am_ (jP.moves _ _ _ _ HB.out hm);have HR2:=Am_ hr2;clear hm hi hr2 c0 c1 c2)
 obtain ⟨o2,t2,hd2,hc2⟩:=aD HR2.out
 have HD2:=Am_ hd2
 have HC2:=Am_ hc2
 clear hd2 hc2 HR2 HT HB HD1 HC1
 have c0:=HT2.out.c0
 have c1:=HT2.out.c1
 have c2:=HT2.out.c2
 have k0:=(af HB2.out.ho.1 0).trans (rfl:_=some (Value.int .u8 o.kind))
 have k1:=(af HB2.out.ho.1 1).trans (rfl:_=some (Value.int .i64 o.key))
 have k2:=(af HB2.out.ho.1 2).trans (rfl:_=some (Value.int .i64 o.upto))
 have k3:=(af HB2.out.ho.1 3).trans (rfl:_=some (Value.int .i64 o.value))
 go_upto_region 6 with (go_at_call 100;refine (HDO.out ok2 t1 _ (o2,t2) HT2.out.run HD2.out).mono ?_;rintro e w3 ⟨ok3,hm,hi,hres⟩;rcases HC2.out with hw | hw;(obtain ⟨rfl,rfl⟩:=hw;obtain rfl:e= .panicked dx:=hres;exact ⟨rfl,⟨⟨ok3,HT2.out.moves.trans hm,hi,rfl⟩⟩⟩);obtain ⟨a,rfl,hr3⟩:=hw;obtain ⟨v,rfl,A,c,rfl,hcl,hF⟩:=hres;have HT3:=Am_ (HT2.out.next hm hi);have HR3:=Am_ hr3;have HCL:=Am_ hcl;have HF:=Am_ hF;clear hm hi hr3 hcl hF c0 c1 c2 k0 k1 k2 k3)
 obtain ⟨o3,t3,hd3,hc3⟩:=aD HR3.out
 have HD3:=Am_ hd3
 have HC3:=Am_ hc3
 have HAL:=Am_ (HSM.out _ _ _ HD2.out)
 clear hd3 hc3 HR3 HB2 HD2 HC2 HDO HSM HT2
 have HBA:=Am_ (Mine.new HT3.out.lt (.cells #[.int .i64 a.err,.bool a.found,.int .i64 a.key,.int .i64 a.value,.slice A a.pairs.length c,.bool a.short] 58))
 have HT4:=Am_ (HT3.out.alloc (.cells #[.int .i64 a.err,.bool a.found,.int .i64 a.key,.int .i64 a.value,.slice A a.pairs.length c,.bool a.short] 58))
 have HF4:=Am_ (Kd.eD (Kd.dX HF.out) (.cells #[.int .i64 a.err,.bool a.found,.int .i64 a.key,.int .i64 a.value,.slice A a.pairs.length c,.bool a.short] 58))
 clear HT3 HF
 generalize w3.alloc (.cells #[.int .i64 a.err,.bool a.found,.int .i64 a.key,.int .i64 a.value,.slice A a.pairs.length c,.bool a.short] 58)=w4 at HBA HT4 HF4 ⊢
 generalize w3.heap.size=b7 at HBA HF4 ⊢
 have c0:=HT4.out.c0
 have c1:=HT4.out.c1
 have c2:=HT4.out.c2
 go_upto_region 7 with (go_at_call 101;refine (AJ p tb work me ok3 t2 _ HT4.out.run (o3,t3) HD3.out).mono ?_;rintro e w5 ⟨ok4,hm,hi,hres⟩;rcases HC3.out with hw | hw;(obtain ⟨rfl,rfl⟩:=hw;obtain rfl:e= .panicked dx:=hres;exact ⟨rfl,⟨⟨ok4,HT4.out.moves.trans hm,hi,rfl⟩⟩⟩);obtain ⟨u3,rfl,hr4⟩:=hw;obtain ⟨v,rfl,rfl⟩:=hres;have HT5:=Am_ (HT4.out.next hm hi);have HBA:=Am_ (HBA.out.moves hm);have HF5:=Am_ (gZ (Kd.dh HF4.out (fun _ hk=>hk.1)) hm);have HR4:=Am_ hr4;clear hm hi hr4 c0 c1 c2)
 have a0:=(af HBA.out.1 0).trans (rfl:_=some (Value.int .i64 a.err))
 have a1:=(af HBA.out.1 1).trans (rfl:_=some (Value.bool a.found))
 have a2:=(af HBA.out.1 2).trans (rfl:_=some (Value.int .i64 a.key))
 have a3:=(af HBA.out.1 3).trans (rfl:_=some (Value.int .i64 a.value))
 have a4:=(af HBA.out.1 4).trans (rfl:_=some (Value.slice A a.pairs.length c))
 have a5:=(af HBA.out.1 5).trans (rfl:_=some (Value.bool a.short))
 go_wp2_with (go_at_call 96;refine (xw a A c _ (Kd.gu HF5.out) HCL.out HAL.out).mono ?_;rintro e w6 ⟨v,rfl,hv,hb6⟩;have V6:=Am_ hv;have B6:=Am_ hb6;clear hv hb6)
 go_ret
 have hh:=HR4.out
 injection hh with hh
 subst hh
 have hsz:bt≤w5.heap.size:=by rw [←hbb];exact HT5.out.moves.size
 exact ⟨⟨ok4,HT5.out.moves.below B6.out,HT5.out.run.below (aX p) B6.out,v,rfl,Kd.eX (Kd.bq (Kd.bL V6.out) (fun k hk hk2=>by have:=HT5.out.lt k hk2;have:=hk.2.1;omega)) HT5.out.moves.size⟩⟩
structure Evn where
 th:Int
 op:Opn
 beg:Int
 fin:Int
 ans:Ans
def dH (e:Evn) (v:Value):List Value:= [.int .i64 e.th,.int .u8 e.op.kind,.int .i64 e.op.key,.int .i64 e.op.upto,.int .i64 e.op.value,.int .i64 e.beg,.int .i64 e.fin,.int .i64 e.ans.err,.bool e.ans.found,.int .i64 e.ans.key,.int .i64 e.ans.value,v,.bool e.ans.short]
theorem ng {w:World} {ok:Nat→Prop} {e:Evn} {v:Value} (h:SlF dw w ok v e.ans.pairs): ∀ u∈dH e v,u.oneCell'=true:=fun u hu=>by
 obtain ⟨A,c,rfl,_⟩:=h
 simp only [dH,List.mem_cons,List.not_mem_nil,or_false] at hu
 rcases hu with rfl | rfl | rfl | rfl | rfl | rfl | rfl | rfl | rfl | rfl | rfl | rfl | rfl<;>rfl
def fP (es:List Evn) (pv:Nat→Value):List (List Value):=es.zipIdx.map fun q=>dH q.1 (pv q.2)
theorem cZ (es:List Evn) (pv:Nat→Value):(fP es pv).length=es.length:=by simp [fP]
theorem oW {es:List Evn} {pv:Nat→Value} {i:Nat} {e:Evn} (h:es[i]?=some e):(fP es pv)[i]?=some (dH e (pv i)):=by
 simp [fP,List.getElem?_zipIdx,h]
theorem xB {es:List Evn} {pv pv1:Nat→Value} {i:Nat} {e:Evn} (hi:i<es.length) (hl: ∀ j,j≠i→pv1 j=pv j):fP (es.set i e) pv1=(fP es pv).set i (dH e (pv1 i)):=by
 refine List.ext_getElem? fun j=>?_
 by_cases hj:i=j
 ·subst hj
  simp [fP,List.getElem?_zipIdx,hi]
 ·simp only [fP,List.getElem?_map,List.getElem?_zipIdx,List.getElem?_set,if_neg hj]
  cases hs:es[j]? with
  | none=>simp
  | some q=>simp [hl j (fun e=>hj e.symm)]
theorem uf {es:List Evn} {pv:Nat→Value} {e:Evn} {v:Value}:fP (es++ [e]) (fun j=>if j=es.length then v else pv j)=fP es pv++ [dH e v]:=by
 refine List.ext_getElem? fun j=>?_
 rcases Nat.lt_trichotomy j es.length with h | h | h
 ·rw [List.getElem?_append_left (by rw [cZ];exact h)]
  simp only [fP,List.getElem?_map,List.getElem?_zipIdx]
  rw [List.getElem?_append_left h]
  cases hs:es[j]? with
  | none=>simp
  | some q=>simp [show ¬ j=es.length by omega]
 ·subst h
  rw [List.getElem?_append_right (by rw [cZ];exact Nat.le_refl _),cZ]
  simp [fP,List.getElem?_zipIdx]
 ·rw [List.getElem?_eq_none (by rw [cZ];simp;omega),List.getElem?_eq_none (by simp [cZ];omega)]
structure SB where
 tv:Value
 hv:Value
 av:Value
 ev:Value
 ths:List (List Value)
 hal:List (List Value)
 ats:List (List Value)
 evs:List Evn
 pv:Nat→Value
 clock:Int
abbrev sbO (p:Nat) (b:SB):Obj:= .cells #[.pointer (some ⟨p,0,none⟩),b.tv,b.hv,b.av,b.ev,.slice none 0 0,.int .i64 b.clock] 134 (0,0)
structure jT (ok:Nat→Prop) (sb p:Nat) (b:SB) (ρ:Nat→Nat) (w:World):Prop where
 own:ok sb
 role:ρ sb=0
 lt: ∀ k,ok k→k<w.heap.size
 box:w.heap[sb]?=some (sbO p b)
 ths:(Kd.raw 1).R 33 w 0 (fun k=>ok k∧ρ k=1) b.tv b.ths
 hal:(Kd.raw 1).R 4 w 0 (fun k=>ok k∧ρ k=2) b.hv b.hal
 ats:(Kd.raw 1).R 3 w 0 (fun k=>ok k∧ρ k=3) b.av b.ats
 evs:(Kd.raw 13).R 137 w 0 (fun k=>ok k∧ρ k=4) b.ev (fP b.evs b.pv)
 prs: ∀ i e,b.evs[i]?=some e→SlF dw w (fun k=>ok k∧ρ k=5) (b.pv i) e.ans.pairs
section
variable {ok ok1:Nat→Prop} {sb p:Nat} {b:SB} {ρ:Nat→Nat} {w w1:World}
theorem jT.step (h:jT ok sb p b ρ w) (hs:w.heap.size≤w1.heap.size) (hm: ∀ k,ok k→k<w.heap.size→w1.heap[k]?=w.heap[k]?):jT ok sb p b ρ w1 where
 own:=h.own
 role:=h.role
 lt:=fun k hk=>Nat.lt_of_lt_of_le (h.lt k hk) hs
 box:=(hm sb h.own (h.lt sb h.own)).trans h.box
 ths:=Kd.bQ h.ths (fun k hk hlt=>hm k hk.1 hlt)
 hal:=Kd.bQ h.hal (fun k hk hlt=>hm k hk.1 hlt)
 ats:=Kd.bQ h.ats (fun k hk hlt=>hm k hk.1 hlt)
 evs:=Kd.bQ h.evs (fun k hk hlt=>hm k hk.1 hlt)
 prs:=fun i e hi=>(h.prs i e hi).step (fun k hk hlt=>hm k hk.1 hlt)
theorem jT.below (h:jT ok sb p b ρ w) (hb:Below w.heap.size w w1):jT ok sb p b ρ w1:=h.step hb.size (fun k _ hlt=>hb.block k hlt)
theorem jT.sets (h:jT ok sb p b ρ w) {g j:Nat} (u:Value) (hg:ok g) {b1:SB} {r:Nat} (hr:ρ g=r)
  (hbx:(w.setCell ⟨g,j,none⟩ u).heap[sb]?=some (sbO p b1))
  (h1:(Kd.raw 1).R 33 (w.setCell ⟨g,j,none⟩ u) 0 (fun k=>ok k∧ρ k=1) b1.tv b1.ths)
  (h2:(Kd.raw 1).R 4 (w.setCell ⟨g,j,none⟩ u) 0 (fun k=>ok k∧ρ k=2) b1.hv b1.hal)
  (h3:(Kd.raw 1).R 3 (w.setCell ⟨g,j,none⟩ u) 0 (fun k=>ok k∧ρ k=3) b1.av b1.ats)
  (h4:(Kd.raw 13).R 137 (w.setCell ⟨g,j,none⟩ u) 0 (fun k=>ok k∧ρ k=4) b1.ev (fP b.evs b.pv)) (h5:b1.evs=b.evs) (h6:b1.pv=b.pv) (h7:r≠5):jT ok sb p b1 ρ (w.setCell ⟨g,j,none⟩ u):=
 ⟨h.own,h.role,fun k hk=>by simpa [World.setCell] using h.lt k hk,hbx,h1,h2,h3,by rw [h5,h6];exact h4,fun i e hi=>by
  rw [h5] at hi
  rw [h6]
  exact (h.prs i e hi).step (fun k hk _=>Below.heap_setCell w _ u k (fun e=>by rw [show k=g from e,hr] at hk;exact h7 hk.2))⟩
theorem jd {g:Nat} {r s:Nat} (hr:ρ g=r) (hs:s≠r): ∀ k,(ok k∧ρ k=s)→k≠g:=fun k hk e=>by subst e;exact hs (hk.2.symm.trans hr)
theorem jT.tick (h:jT ok sb p b ρ w) (n:Int):jT ok sb p { b with clock:=n } ρ (w.setCell ⟨sb,6,none⟩ (.int .i64 n)):=
 h.sets _ h.own h.role (bH h.box 6 _) (Kd.bV h.ths (jd h.role (by decide)) _) (Kd.bV h.hal (jd h.role (by decide)) _) (Kd.bV h.ats (jd h.role (by decide)) _) (Kd.bV h.evs (jd h.role (by decide)) _) rfl rfl (by decide)
theorem jT.wz {g m c i:Nat} {r:List Value} (h:jT ok sb p b ρ w) (ht:b.tv= .slice (some ⟨g,0,none⟩) m c) (hi:b.ths[i]?=some r) (u:Value) (hu:u.oneCell'=true):
  jT ok sb p { b with ths:=b.ths.set i [u] } ρ (w.setCell ⟨g,i,none⟩ u):=by
 have h1:=h.ths
 rw [ht] at h1
 obtain ⟨_,hl,_,g1,e1,hg,_⟩:=nU h1 hi
 injection e1 with e1
 injection e1 with e1 _ _
 subst e1
 have h2:=uN h1 hi (j:=0) (by decide) hu
 rw [Nat.mul_one,Nat.add_zero] at h2
 have h3:r.set 0 u= [u]:=by
  match r,hl with
  | [x],_=>rfl
 rw [h3,←ht] at h2
 exact h.sets _ hg.1 hg.2 (cO h.box (p:=⟨g,i,none⟩) (fun e=>by have:=hg.2;rw [show g=sb from e.symm,h.role] at this;cases this) _) h2 (Kd.bV h.hal (jd hg.2 (by decide)) _) (Kd.bV h.ats (jd hg.2 (by decide)) _) (Kd.bV h.evs (jd hg.2 (by decide)) _) rfl rfl (by decide)
theorem jT.at_set {g m c i:Nat} {r:List Value} (h:jT ok sb p b ρ w) (ht:b.av= .slice (some ⟨g,0,none⟩) m c) (hi:b.ats[i]?=some r) (u:Value) (hu:u.oneCell'=true):
  jT ok sb p { b with ats:=b.ats.set i [u] } ρ (w.setCell ⟨g,i,none⟩ u):=by
 have h1:=h.ats
 rw [ht] at h1
 obtain ⟨_,hl,_,g1,e1,hg,_⟩:=nU h1 hi
 injection e1 with e1
 injection e1 with e1 _ _
 subst e1
 have h2:=uN h1 hi (j:=0) (by decide) hu
 rw [Nat.mul_one,Nat.add_zero] at h2
 have h3:r.set 0 u= [u]:=by
  match r,hl with
  | [x],_=>rfl
 rw [h3,←ht] at h2
 exact h.sets _ hg.1 hg.2 (cO h.box (p:=⟨g,i,none⟩) (fun e=>by have:=hg.2;rw [show g=sb from e.symm,h.role] at this;cases this) _) (Kd.bV h.ths (jd hg.2 (by decide)) _) (Kd.bV h.hal (jd hg.2 (by decide)) _) h2 (Kd.bV h.evs (jd hg.2 (by decide)) _) rfl rfl (by decide)
theorem jT.Iq {A:Option Addr} {m c i:Nat} {e:Evn} (h:jT ok sb p b ρ w) (ht:b.ev= .slice A m c) (hi:b.evs[i]?=some e):
  m=b.evs.length∧ ∃ g,A=some ⟨g,0,none⟩∧ok g∧ρ g=4∧(∀ j u,(dH e (b.pv i))[j]?=some u→w.cell? ⟨g,i*13+j,none⟩=some u)∧ ∀ j,w.frozen? ⟨g,i*13+j,none⟩=false:=by
 have h1:=h.evs
 rw [ht] at h1
 obtain ⟨h2,_,_,g,h3,h4,h5,h6⟩:=nU h1 (oW hi)
 exact ⟨by rw [h2,cZ],g,h3,h4.1,h4.2,h5,h6⟩
theorem jT.vN {g m c i j:Nat} {e e1:Evn} {pv1:Nat→Value} {seg:List Value} (h:jT ok sb p b ρ w) (ht:b.ev= .slice (some ⟨g,0,none⟩) m c) (hi:b.evs[i]?=some e) (hj:j+seg.length≤13) (hl: ∀ k,k≠i→pv1 k=b.pv k)
  (hc:dH e1 (pv1 i)=(dH e (b.pv i)).take j++seg++(dH e (b.pv i)).drop (j+seg.length)) (hn:SlF dw w (fun k=>ok k∧ρ k=5) (pv1 i) e1.ans.pairs):
  jT ok sb p { b with evs:=b.evs.set i e1,pv:=pv1 } ρ (w.setCells g (i*13+j) seg):=by
 obtain ⟨hnl,g0,e0,hg,hρ,hcc,hfz⟩:=h.Iq ht hi
 injection e0 with e0
 injection e0 with e0 _ _
 subst e0
 have hil:=(List.getElem?_eq_some_iff.1 hi).1
 obtain ⟨_,_,_,hsz⟩:=dM g seg (i*13+j) w
 have hfar: ∀ k,k≠g→(w.setCells g (i*13+j) seg).heap[k]?=w.heap[k]?:=fun k hk=>aW seg _ k hk
 have h1:=h.evs
 rw [ht] at h1
 have hrow:=(Kd.yR (okp:=fun _=>False) h1 (i:Int) (by omega) (by omega) (c:=dH e (b.pv i)) (seg:=seg) (j:=j) (by simp [dH,Kd.raw]) (by simpa [Kd.raw] using hcc) (by simpa [Kd.raw] using hj) (x':=dH e1 (pv1 i)) (by exact ⟨hc.symm,by rw [←hc];rfl,by rw [←hc];exact ng hn⟩) (fun k hk=>hk.elim)).1
 rw [Int.toNat_natCast,←xB hil hl,←ht] at hrow
 have hrow':(Kd.raw 13).R 137 (w.setCells g (i*13+j) seg) 0 (fun k=>ok k∧ρ k=4) b.ev (fP (b.evs.set i e1) pv1):=by simpa [Kd.raw] using hrow
 have hmove: ∀ r,r≠4→ ∀ k,(ok k∧ρ k=r)→k<w.heap.size→(w.setCells g (i*13+j) seg).heap[k]?=w.heap[k]?:=fun r hr k hk _=>hfar k (fun e=>by subst e;rw [hρ] at hk;exact hr hk.2.symm)
 exact {
  own:=h.own
  role:=h.role
  lt:=fun k hk=>by rw [hsz];exact h.lt k hk
  box:=(hmove 0 (by decide) sb ⟨h.own,h.role⟩ (h.lt sb h.own)).trans h.box
  ths:=Kd.bQ h.ths (hmove 1 (by decide))
  hal:=Kd.bQ h.hal (hmove 2 (by decide))
  ats:=Kd.bQ h.ats (hmove 3 (by decide))
  evs:=hrow'
  prs:=fun k e2 hk=>by
   show SlF dw _ _ (pv1 k) _
   replace hk:(b.evs.set i e1)[k]?=some e2:=hk
   rcases Nat.lt_trichotomy k i with h3 | h3 | h3
   ·rw [show (b.evs.set i e1)[k]?=b.evs[k]? from List.getElem?_set_ne (by omega)] at hk
    rw [show pv1 k=b.pv k from hl k (by omega)]
    exact (h.prs k e2 hk).step (hmove 5 (by decide))
   ·subst h3
    rw [show (b.evs.set k e1)[k]?=some e1 from List.getElem?_set_self hil] at hk
    injection hk with hk
    subst hk
    exact hn.step (hmove 5 (by decide))
   ·rw [show (b.evs.set i e1)[k]?=b.evs[k]? from List.getElem?_set_ne (by omega)] at hk
    rw [show pv1 k=b.pv k from hl k (by omega)]
    exact (h.prs k e2 hk).step (hmove 5 (by decide)) }
theorem jT.AV {v1 v:Value} {e1:Evn} (h:jT ok sb p b ρ w) (hg:w.grownBy w1 b.ev.ownBlock) (hp:e1.ans.pairs= []) (hv:v= .slice none 0 0) (hr:(Kd.raw 13).R 137 w1 0 (fun k=>(ok k∧ρ k=4)∨w.heap.size≤k) v1 (fP b.evs b.pv++ [dH e1 v])):
  jT (fun k=>ok k∨(w.heap.size≤k∧k<w1.heap.size)) sb p { b with ev:=v1,evs:=b.evs++ [e1],pv:=fun j=>if j=b.evs.length then v else b.pv j } (fun k=>if k<w.heap.size then ρ k else 4) (w1.setCell ⟨sb,4,none⟩ v1):=by
 have hown:=h.evs.1
 have hmove: ∀ r,r≠4→ ∀ k,(ok k∧ρ k=r)→k<w.heap.size→w1.heap[k]?=w.heap[k]?:=fun r hr k hk hlt=>hg.block k hlt (fun e=>by have:=(hown k e.symm).2;rw [hk.2] at this;exact hr this)
 have hup: ∀ r k,(ok k∧ρ k=r)→((ok k∨(w.heap.size≤k∧k<w1.heap.size))∧(if k<w.heap.size then ρ k else 4)=r):=fun r k hk=>⟨.inl hk.1,by rw [if_pos (h.lt k hk.1)];exact hk.2⟩
 have hsb:=h.lt sb h.own
 have hbx:=bJ h.box hg (fun e=>by have:=(hown sb e.symm).2;rw [h.role] at this;cases this)
 have hR:(Kd.raw 13).R 137 w1 0 (fun k=>(ok k∨(w.heap.size≤k∧k<w1.heap.size))∧(if k<w.heap.size then ρ k else 4)=4) v1 (fP b.evs b.pv++ [dH e1 v]):=Kd.bq (Kd.bL hr) (fun k hk=>by
  rcases hk.1 with h1 | h1
  ·exact hup 4 k h1
  ·exact ⟨.inr ⟨h1,hk.2.2.1⟩,if_neg (by omega)⟩)
 have hne: ∀ s,s≠0→ ∀ k,((ok k∨(w.heap.size≤k∧k<w1.heap.size))∧(if k<w.heap.size then ρ k else 4)=s)→k≠sb:=fun s hs k hk e=>by
  subst e
  have:=hk.2
  rw [if_pos hsb,h.role] at this
  exact hs this.symm
 exact {
  own:= .inl h.own
  role:=by rw [if_pos hsb];exact h.role
  lt:=fun k hk=>by
   have:(w1.setCell ⟨sb,4,none⟩ v1).heap.size=w1.heap.size:=by simp [World.setCell]
   rw [this]
   exact hk.elim (fun hk=>Nat.lt_of_lt_of_le (h.lt k hk) hg.size) (fun hk=>hk.2)
  box:=bH hbx 4 _
  ths:=Kd.bV (Kd.bq (Kd.bQ (Kd.bL h.ths) (fun k hk hlt=>hmove 1 (by decide) k hk.1 hlt)) (fun k hk=>hup 1 k hk.1)) (hne 1 (by decide)) _
  hal:=Kd.bV (Kd.bq (Kd.bQ (Kd.bL h.hal) (fun k hk hlt=>hmove 2 (by decide) k hk.1 hlt)) (fun k hk=>hup 2 k hk.1)) (hne 2 (by decide)) _
  ats:=Kd.bV (Kd.bq (Kd.bQ (Kd.bL h.ats) (fun k hk hlt=>hmove 3 (by decide) k hk.1 hlt)) (fun k hk=>hup 3 k hk.1)) (hne 3 (by decide)) _
  evs:=by rw [uf];exact Kd.bV hR (hne 4 (by decide)) _
  prs:=fun i e hi=>by
   show SlF dw _ _ (if i=b.evs.length then v else b.pv i) _
   replace hi:(b.evs++ [e1])[i]?=some e:=hi
   rcases Nat.lt_trichotomy i b.evs.length with h3 | h3 | h3
   ·rw [show (b.evs++ [e1])[i]?=b.evs[i]? from List.getElem?_append_left h3] at hi
    rw [show (if i=b.evs.length then v else b.pv i)=b.pv i from if_neg (by omega)]
    refine (((h.prs i e hi).step (fun k hk hlt=>hmove 5 (by decide) k hk hlt)).mono (fun k hk _=>hup 5 k hk)).step (fun k hk _=>Below.heap_setCell w1 _ v1 k (hne 5 (by decide) k hk))
   ·subst h3
    rw [show (b.evs++ [e1])[b.evs.length]?=some e1 by simp] at hi
    injection hi with hi
    subst hi
    rw [if_pos rfl,hv,hp]
    exact ⟨none,0,rfl,Nat.le_refl _,Kd.jD _ _ _⟩
   ·rw [List.getElem?_eq_none (by simp;omega)] at hi
    cases hi }
end
structure Stg where
 ws:Ws
 n:Nat
 ats:List Int
 evs:List Evn
 clock:Int
def iV:List Value:= [.pointer none]
def oC (tb:Nat):List Value:= [.pointer (some ⟨tb,0,none⟩)]
structure Ia (b:SB) (S:Stg) (ths:List (List Value)):Prop where
 ths:b.ths=ths
 hal:b.hal=List.replicate S.n [.bool false]
 ats:b.ats=S.ats.map fun a=> [.int .i64 a]
 evs:b.evs=S.evs
 clock:b.clock=S.clock
 few:S.n≤64
 len:S.ats.length=S.n
 small:S.evs.length<1000000
structure dm (ok:Nat→Prop) (sb p:Nat) (S:Stg) (w:World):Prop where
 out: ∃ okB okW b ρ,(∀ k,ok k↔okB k∨okW k)∧(∀ k,okB k→ ¬ okW k)∧jT okB sb p b ρ w∧Ia b S (List.replicate S.n iV)∧shW p S.ws okW w
structure iC (ok:Nat→Prop) (sb p:Nat) (S:Stg) (t:Nat) (o:Opn) (log:List Int) (w:World):Prop where
 out: ∃ okB okI b ρ tb bw bm bo at_ spent,(∀ k,ok k↔okB k∨okI k)∧(∀ k,okB k→ ¬ okI k)∧jT okB sb p b ρ w∧Ia b S ((List.replicate S.n iV).set t (oC tb))∧t<S.n∧log.length<1000000∧
  Idle (shW p) tb (kg bw bm bo) okI S.ws (Jw log at_ spent) w∧jP p t o bw bm bo ok w
section
variable {ok:Nat→Prop} {sb p t:Nat} {S:Stg} {o:Opn} {log:List Int} {w w1:World}
theorem dm.step (h:dm ok sb p S w) (hs:w.heap.size≤w1.heap.size) (hm: ∀ k,ok k→k<w.heap.size→w1.heap[k]?=w.heap[k]?):dm ok sb p S w1:=by
 obtain ⟨okB,okW,b,ρ,h1,h2,h3,h4,h5⟩:=h.out
 exact ⟨okB,okW,b,ρ,h1,h2,h3.step hs (fun k hk=>hm k ((h1 k).2 (.inl hk))),h4,(aX p).step h5 hs (fun k hk=>hm k ((h1 k).2 (.inr hk)))⟩
theorem dm.lt (h:dm ok sb p S w): ∀ k,ok k→k<w.heap.size:=fun k hk=>by
 obtain ⟨okB,okW,b,ρ,h1,h2,h3,h4,h5⟩:=h.out
 exact ((h1 k).1 hk).elim (h3.lt k) ((aX p).lt h5 k)
theorem dm.below (h:dm ok sb p S w) (hb:Below w.heap.size w w1):dm ok sb p S w1:=h.step hb.size (fun k _ hlt=>hb.block k hlt)
end
def gU (l:List Int):Ans:=⟨l.getD 0 0,l.getD 1 0 == 1,l.getD 2 0,l.getD 3 0,[],l.getD 4 0 == 1⟩
def CP:Ans:=⟨0,false,0,0,[],false⟩
def Stg.tick (S:Stg):Stg:= { S with clock:=wrap64 (S.clock+1) }
def Stg.start (S:Stg) (t:Nat) (o:Opn):Stg:=Stg.tick { S with ats:=S.ats.set t S.evs.length,evs:=S.evs++ [⟨t,o,S.clock,-1,CP⟩] }
def Stg.finish (S:Stg) (i:Nat) (l:List Int):Stg:= { S with evs:=S.evs.set i { S.evs.getD i ⟨0,⟨0,0,0,0⟩,0,0,CP⟩ with fin:=S.clock,ans:=gU l } }
def EA (tw:Pr Ws (List Int)) (i:Nat):Nat→Stg→List Int→Option (Bool × Nat × Stg × List Int)
 | 0,S,log=>some (false,0,S,log)
 | f+1,S,log=>match tw ⟨S.ws,log,0,false⟩ with
  | none=>none
  | some (.ret l,s)=>some (true,f,Stg.tick (Stg.finish { S with ws:=s.sh } i l),s.log)
  | some (.wait,s)=>EA tw i f (Stg.tick { S with ws:=s.sh }) s.log
theorem Ba:(Tryz.prog.info? 137).map (fun i=>(i.zero,i.size,i.bytes))=some (some (.agg #[.int .i64 0,.int .u8 0,.int .i64 0,.int .i64 0,.int .i64 0,.int .i64 0,.int .i64 0,.int .i64 0,.bool false,.int .i64 0,.int .i64 0,.slice none 0 0,.bool false]),13,120):=by kernel_rfl
structure SVal (b:SB) (S:Stg) (gt ct gh ch ga ca:Nat) (Ae:Option Addr) (ce:Nat):Prop where
 tv:b.tv= .slice (some ⟨gt,0,none⟩) S.n ct
 hv:b.hv= .slice (some ⟨gh,0,none⟩) S.n ch
 av:b.av= .slice (some ⟨ga,0,none⟩) S.n ca
 ev:b.ev= .slice Ae S.evs.length ce
structure MB (Q:(Nat→Prop)→World→Prop):Prop where
 step: ∀ {ok w w1},Q ok w→w.heap.size≤w1.heap.size→(∀ k,ok k→k<w.heap.size→w1.heap[k]?=w.heap[k]?)→Q ok w1
 lt: ∀ {ok w},Q ok w→ ∀ k,ok k→k<w.heap.size
theorem BS (p:Nat) (x:Ws):MB (shW p x):=⟨fun h hs hm=>(aX p).step h hs hm,fun h=>(aX p).lt h⟩
theorem BR (p tb:Nat) (work:Value) (x:Ws) (th:Th):MB (fun ok w=>Idle (shW p) tb work ok x th w):=⟨fun h hs hm=>h.step (aX p) hs hm,fun h=>h.lt (aX p)⟩
structure StS (sb p:Nat) (S:Stg) (ths:List (List Value)) (okB okW:Nat→Prop) (b:SB) (ρ:Nat→Nat) (Q:(Nat→Prop)→World→Prop) (ok:Nat→Prop) (w wc:World):Prop where
 bx:jT okB sb p b ρ wc
 sf:Ia b S ths
 len:ths.length=S.n
 st:MB Q
 sh:Q okW wc
 dj: ∀ k,okB k→ ¬ okW k
 mv:Moves ok (fun k=>okB k∨okW k) w wc
section
variable {Q:(Nat→Prop)→World→Prop} {sb p t:Nat} {S:Stg} {ths:List (List Value)} {okB okW ok:Nat→Prop} {b:SB} {ρ:Nat→Nat} {w wc w2:World} {gt ct gh ch ga ca ce:Nat} {Ae:Option Addr}
theorem jT.vals (h:jT okB sb p b ρ wc) (hb:Ia b S ths) (hl:ths.length=S.n) (ht:t<S.n): ∃ gt ct gh ch ga ca Ae ce,SVal b S gt ct gh ch ga ca Ae ce:=by
 have h1:=h.ths
 have h2:=h.hal
 have h3:=h.ats
 have h4:=h.evs
 obtain ⟨gt,ct,e1,_⟩:=Kd.lX h1 (by rw [hb.ths,hl];omega)
 obtain ⟨gh,ch,e2,_⟩:=Kd.lX h2 (by rw [hb.hal];simp;omega)
 obtain ⟨ga,ca,e3,_⟩:=Kd.lX h3 (by rw [hb.ats];simp [hb.len];omega)
 obtain ⟨Ae,ce,e4⟩:=Kd.aJ h4
 refine ⟨gt,ct,gh,ch,ga,ca,Ae,ce,?_,?_,?_,?_⟩
 ·rw [e1,hb.ths,hl]
 ·rw [e2,hb.hal];simp
 ·rw [e3,hb.ats];simp [hb.len]
 ·rw [e4,cZ,hb.evs]
theorem StS.below (h:StS sb p S ths okB okW b ρ Q ok w wc) (hb:Below wc.heap.size wc w2):StS sb p S ths okB okW b ρ Q ok w w2:=
 ⟨h.bx.below hb,h.sf,h.len,h.st,h.st.step h.sh hb.size (fun k _ hlt=>hb.block k hlt),h.dj,h.mv.below hb⟩
theorem StS.lt (h:StS sb p S ths okB okW b ρ Q ok w wc): ∀ k,(okB k∨okW k)→k<wc.heap.size:=fun k hk=>hk.elim (h.bx.lt k) (h.st.lt h.sh k)
theorem StS.Ll (h:StS sb p S ths okB okW b ρ Q ok w wc):StS sb p S ths okB okW b ρ Q (fun k=>okB k∨okW k) wc wc:=⟨h.bx,h.sf,h.len,h.st,h.sh,h.dj,Moves.refl _ _⟩
theorem StS.c0 (h:StS sb p S ths okB okW b ρ Q ok w wc):wc.cell? ⟨sb,0,none⟩=some (.pointer (some ⟨p,0,none⟩)):=(af h.bx.box 0).trans rfl
theorem StS.c1 (h:StS sb p S ths okB okW b ρ Q ok w wc) (hv:SVal b S gt ct gh ch ga ca Ae ce):wc.cell? ⟨sb,1,none⟩=some (.slice (some ⟨gt,0,none⟩) S.n ct):=(af h.bx.box 1).trans (congrArg some hv.tv)
theorem StS.c2 (h:StS sb p S ths okB okW b ρ Q ok w wc) (hv:SVal b S gt ct gh ch ga ca Ae ce):wc.cell? ⟨sb,2,none⟩=some (.slice (some ⟨gh,0,none⟩) S.n ch):=(af h.bx.box 2).trans (congrArg some hv.hv)
theorem StS.c3 (h:StS sb p S ths okB okW b ρ Q ok w wc) (hv:SVal b S gt ct gh ch ga ca Ae ce):wc.cell? ⟨sb,3,none⟩=some (.slice (some ⟨ga,0,none⟩) S.n ca):=(af h.bx.box 3).trans (congrArg some hv.av)
theorem StS.c4 (h:StS sb p S ths okB okW b ρ Q ok w wc) (hv:SVal b S gt ct gh ch ga ca Ae ce):wc.cell? ⟨sb,4,none⟩=some (.slice Ae S.evs.length ce):=(af h.bx.box 4).trans (congrArg some hv.ev)
theorem StS.c6 (h:StS sb p S ths okB okW b ρ Q ok w wc):wc.cell? ⟨sb,6,none⟩=some (.int .i64 S.clock):=(af h.bx.box 6).trans (by rw [←h.sf.clock];rfl)
theorem StS.th (h:StS sb p S ths okB okW b ρ Q ok w wc) (hv:SVal b S gt ct gh ch ga ca Ae ce) {u:Value} (hi:ths[t]?=some [u]):okB gt∧ρ gt=1∧wc.cell? ⟨gt,t,none⟩=some u∧wc.frozen? ⟨gt,t,none⟩=false:=by
 have h1:=h.bx.ths
 rw [hv.tv] at h1
 obtain ⟨_,h2,h3,h4⟩:=kS h1 (by rw [h.sf.ths];exact hi)
 exact ⟨h2.1,h2.2,h3,h4⟩
theorem StS.hal (h:StS sb p S ths okB okW b ρ Q ok w wc) (hv:SVal b S gt ct gh ch ga ca Ae ce) (ht:t<S.n):wc.cell? ⟨gh,t,none⟩=some (.bool false):=by
 have h1:=h.bx.hal
 rw [hv.hv] at h1
 exact (kS h1 (by rw [h.sf.hal];simp [ht])).2.2.1
theorem StS.ats (h:StS sb p S ths okB okW b ρ Q ok w wc) (hv:SVal b S gt ct gh ch ga ca Ae ce) (ht:t<S.n):wc.cell? ⟨ga,t,none⟩=some (.int .i64 (S.ats.getD t 0))∧wc.frozen? ⟨ga,t,none⟩=false:=by
 have h1:=h.bx.ats
 rw [hv.av] at h1
 have hl:t<S.ats.length:=by rw [h.sf.len];exact ht
 exact (kS h1 (u:= .int .i64 (S.ats.getD t 0)) (by rw [h.sf.ats];simp [hl])).2.2
theorem StS.wz (h:StS sb p S ths okB okW b ρ Q ok w wc) (hv:SVal b S gt ct gh ch ga ca Ae ce) {u0:Value} (hi:ths[t]?=some [u0]) (u:Value) (hu:u.oneCell'=true):
  StS sb p S (ths.set t [u]) okB okW { b with ths:=b.ths.set t [u] } ρ Q ok w (wc.setCell ⟨gt,t,none⟩ u):=by
 have hg:=(h.th hv hi).1
 exact ⟨h.bx.wz hv.tv (by rw [h.sf.ths];exact hi) u hu,⟨by show b.ths.set t [u]=_;rw [h.sf.ths],h.sf.hal,h.sf.ats,h.sf.evs,h.sf.clock,h.sf.few,h.sf.len,h.sf.small⟩,by rw [List.length_set];exact h.len,
  h.st,h.st.step h.sh (by simp [World.setCell]) (fun k hk _=>Below.heap_setCell wc _ u k (fun e=>h.dj gt hg ((show k=gt from e)▸hk))),h.dj,h.mv.set (p:=⟨gt,t,none⟩) ((h.mv.fresh gt (.inl hg)).imp id id) u⟩
theorem StS.at_set (h:StS sb p S ths okB okW b ρ Q ok w wc) (hv:SVal b S gt ct gh ch ga ca Ae ce) (ht:t<S.n) (x:Int):
  StS sb p { S with ats:=S.ats.set t x } ths okB okW { b with ats:=b.ats.set t [.int .i64 x] } ρ Q ok w (wc.setCell ⟨ga,t,none⟩ (.int .i64 x)):=by
 have hl:t<S.ats.length:=by rw [h.sf.len];exact ht
 have hi:b.ats[t]?=some [.int .i64 (S.ats.getD t 0)]:=by rw [h.sf.ats];simp [hl]
 have h1:=h.bx.ats
 rw [hv.av] at h1
 have hg:=(kS h1 hi).2.1.1
 exact ⟨h.bx.at_set hv.av hi _ rfl,⟨h.sf.ths,h.sf.hal,by show b.ats.set t [.int .i64 x]=_;rw [h.sf.ats,List.map_set],h.sf.evs,h.sf.clock,h.sf.few,by show (S.ats.set t x).length=_;rw [List.length_set];exact h.sf.len,h.sf.small⟩,h.len,
  h.st,h.st.step h.sh (by simp [World.setCell]) (fun k hk _=>Below.heap_setCell wc _ _ k (fun e=>h.dj ga hg ((show k=ga from e)▸hk))),h.dj,h.mv.set (p:=⟨ga,t,none⟩) ((h.mv.fresh ga (.inl hg)).imp id id) _⟩
theorem StS.tick (h:StS sb p S ths okB okW b ρ Q ok w wc):StS sb p S.tick ths okB okW { b with clock:=wrap64 (S.clock+1) } ρ Q ok w (wc.setCell ⟨sb,6,none⟩ (.int .i64 (wrap64 (S.clock+1)))):=
 ⟨h.bx.tick _,⟨h.sf.ths,h.sf.hal,h.sf.ats,h.sf.evs,rfl,h.sf.few,h.sf.len,h.sf.small⟩,h.len,
  h.st,h.st.step h.sh (by simp [World.setCell]) (fun k hk _=>Below.heap_setCell wc _ _ k (fun e=>h.dj sb h.bx.own ((show k=sb from e)▸hk))),h.dj,h.mv.set (p:=⟨sb,6,none⟩) ((h.mv.fresh sb (.inl h.bx.own)).imp id id) _⟩
theorem StS.AV {v1:Value} {e1:Evn} (h:StS sb p S ths okB okW b ρ Q ok w wc) (hg:wc.grownBy w2 b.ev.ownBlock) (hp:e1.ans.pairs= []) (hs:S.evs.length<999999) (hr:(Kd.raw 13).R 137 w2 0 (fun k=>(okB k∧ρ k=4)∨wc.heap.size≤k) v1 (fP b.evs b.pv++ [dH e1 (.slice none 0 0)])):
  StS sb p { S with evs:=S.evs++ [e1] } ths (fun k=>okB k∨(wc.heap.size≤k∧k<w2.heap.size)) okW { b with ev:=v1,evs:=b.evs++ [e1],pv:=fun j=>if j=b.evs.length then .slice none 0 0 else b.pv j } (fun k=>if k<wc.heap.size then ρ k else 4) Q ok w (w2.setCell ⟨sb,4,none⟩ v1):=by
 have hown: ∀ k,b.ev.ownBlock=some k→okB k:=fun k e=>(h.bx.evs.1 k e).1
 have hWlt:=h.st.lt h.sh
 have hsz:(w2.setCell ⟨sb,4,none⟩ v1).heap.size=w2.heap.size:=by simp [World.setCell]
 exact ⟨h.bx.AV hg hp rfl hr,⟨h.sf.ths,h.sf.hal,h.sf.ats,by show b.evs++ [e1]=S.evs++ [e1];rw [h.sf.evs],h.sf.clock,h.sf.few,h.sf.len,by show (S.evs++ [e1]).length<_;simp;omega⟩,h.len,
  h.st,h.st.step h.sh (by rw [hsz];exact hg.size) (fun k hk hlt=>(Below.heap_setCell w2 ⟨sb,4,none⟩ v1 k (fun e=>h.dj sb h.bx.own ((show k=sb from e)▸hk))).trans (hg.block k hlt (fun e=>h.dj k (hown k e.symm) hk))),
  fun k hk hk1=>hk.elim (fun h1=>h.dj k h1 hk1) (fun h1=>by have:=hWlt k hk1;omega),
  ((h.mv.grown hg (fun k e=>h.mv.fresh k (.inl (hown k e)))).set (p:=⟨sb,4,none⟩) ((h.mv.fresh sb (.inl h.bx.own)).imp id id) v1).owns (fun k hk=>by
   rcases hk with (hk | hk) | hk
   ·exact h.mv.fresh k (.inl hk)
   ·exact .inr (Nat.le_trans h.mv.size hk.1)
   ·exact h.mv.fresh k (.inr hk))⟩
theorem StS.ev (h:StS sb p S ths okB okW b ρ Q ok w wc) (hv:SVal b S gt ct gh ch ga ca Ae ce) {i:Nat} {e:Evn} (hi:S.evs[i]?=some e): ∃ ge v,Ae=some ⟨ge,0,none⟩∧okB ge∧(∀ j u,(dH e v)[j]?=some u→wc.cell? ⟨ge,i*13+j,none⟩=some u)∧(∀ j,wc.frozen? ⟨ge,i*13+j,none⟩=false)∧SlF dw wc (fun k=>okB k∧ρ k=5) v e.ans.pairs:=by
 have hi2:b.evs[i]?=some e:=by rw [h.sf.evs];exact hi
 obtain ⟨_,ge,h1,h2,_,h3,h4⟩:=h.bx.Iq hv.ev hi2
 exact ⟨ge,b.pv i,h1,h2,h3,h4,h.bx.prs i e hi2⟩
theorem StS.vN {i j ge:Nat} {e e1:Evn} {pv1:Nat→Value} {seg:List Value} (h:StS sb p S ths okB okW b ρ Q ok w wc) (hv:SVal b S gt ct gh ch ga ca (some ⟨ge,0,none⟩) ce) (hi:S.evs[i]?=some e) (hj:j+seg.length≤13) (hl: ∀ k,k≠i→pv1 k=b.pv k)
  (hc:dH e1 (pv1 i)=(dH e (b.pv i)).take j++seg++(dH e (b.pv i)).drop (j+seg.length)) (hn:SlF dw wc (fun k=>okB k∧ρ k=5) (pv1 i) e1.ans.pairs):
  StS sb p { S with evs:=S.evs.set i e1 } ths okB okW { b with evs:=b.evs.set i e1,pv:=pv1 } ρ Q ok w (wc.setCells ge (i*13+j) seg):=by
 have hi2:b.evs[i]?=some e:=by rw [h.sf.evs];exact hi
 obtain ⟨_,g0,e0,hg,_,_,_⟩:=h.bx.Iq hv.ev hi2
 injection e0 with e0
 injection e0 with e0 _ _
 subst e0
 have hfar: ∀ k,k≠ge→(wc.setCells ge (i*13+j) seg).heap[k]?=wc.heap[k]?:=fun k hk=>aW seg _ k hk
 obtain ⟨s1,s2,s3,s4⟩:=dM ge seg (i*13+j) wc
 exact ⟨h.bx.vN hv.ev hi2 hj hl hc hn,⟨h.sf.ths,h.sf.hal,h.sf.ats,by show b.evs.set i e1=S.evs.set i e1;rw [h.sf.evs],h.sf.clock,h.sf.few,h.sf.len,by show (S.evs.set i e1).length<_;rw [List.length_set];exact h.sf.small⟩,h.len,h.st,
  h.st.step h.sh (by rw [s4];exact Nat.le_refl _) (fun k hk _=>hfar k (fun e=>h.dj ge hg (e▸hk))),h.dj,
  ⟨s1.trans h.mv.os,s2.trans h.mv.tape,s3.trans h.mv.output,by rw [s4];exact h.mv.size,fun k hk hn=>(hfar k (fun e=>by subst e;exact (h.mv.fresh k (.inl hg)).elim hn (fun h1=>by omega))).trans (h.mv.block k hk hn),h.mv.fresh⟩⟩
theorem StS.KY {i ge:Nat} {e:Evn} (h:StS sb p S ths okB okW b ρ Q ok w wc) (hv:SVal b S gt ct gh ch ga ca (some ⟨ge,0,none⟩) ce) (hi:S.evs[i]?=some e) (x:Int):
  StS sb p { S with evs:=S.evs.set i { e with fin:=x } } ths okB okW { b with evs:=b.evs.set i { e with fin:=x },pv:=b.pv } ρ Q ok w (wc.setCell ⟨ge,i*13+6,none⟩ (.int .i64 x)):=
 h.vN hv hi (j:=6) (seg:= [.int .i64 x]) (by show 6+1≤13;decide) (fun _ _=>rfl) rfl (h.bx.prs i e (by rw [h.sf.evs];exact hi))
theorem StS.KX {i ge c:Nat} {A:Option Addr} {e:Evn} (h:StS sb p S ths okB okW b ρ Q ok w wc) (hv:SVal b S gt ct gh ch ga ca (some ⟨ge,0,none⟩) ce) (hi:S.evs[i]?=some e) (a:Ans) (ha:a.pairs= []):
  StS sb p { S with evs:=S.evs.set i { e with ans:=a } } ths okB okW { b with evs:=b.evs.set i { e with ans:=a },pv:=fun j=>if j=i then .slice A 0 c else b.pv j } ρ Q ok w (wc.setCells ge (i*13+7) [.int .i64 a.err,.bool a.found,.int .i64 a.key,.int .i64 a.value,.slice A 0 c,.bool a.short]):=
 h.vN hv hi (j:=7) (pv1:=fun j=>if j=i then .slice A 0 c else b.pv j) (by show 7+6≤13;decide) (fun k hk=>if_neg hk) (by show dH _ (if i=i then _ else _)=_;rw [if_pos rfl];rfl) (by show SlF dw _ _ (if i=i then _ else _) a.pairs;rw [if_pos rfl,ha];exact ⟨A,c,rfl,Nat.zero_le _,fun W _=>⟨rfl,by decide,fun hp=>absurd hp (by decide)⟩⟩)
end
theorem Ia.ws {b:SB} {S:Stg} {ths:List (List Value)} (h:Ia b S ths) (x:Ws):Ia b { S with ws:=x } ths:=⟨h.ths,h.hal,h.ats,h.evs,h.clock,h.few,h.len,h.small⟩
def zm:Bool × List (List Nat × List Nat):=(true,[([],[]),([],[]),([1],[1]),([2,2],[2]),([],[]),([4],[4]),([5,5],[5]),([],[]),([7],[7]),([8,8],[8]),([0,3,6,9],[0,3,6,9]),([10],[10]),([11,0,1,2,3,4,5,6,7,8,9,10,11],[11]),([12,0,1,2,3,4,5,6,7,8,9,10,11,12],[])])
def GX:List Nat:= [0,0,2,6,0,16,48,0,128,384,1023,2047,4095,8191]
theorem Cq:fq .any (opsOf Tryz.f39 4)=zm:=by kernel_rfl
theorem wV:bA zm.2 GX=true:=by kernel_rfl
theorem nG:(Tryz.prog.info? 33).map (fun i=>(i.zero,i.size,i.bytes))=some (some (.pointer none),1,8):=by kernel_rfl
theorem ny:(Tryz.prog.info? 4).map (fun i=>(i.zero,i.size,i.bytes))=some (some (.bool false),1,1):=by kernel_rfl
theorem nC:(Tryz.prog.info? 3).map (fun i=>(i.zero,i.size,i.bytes))=some (some (.int .i64 0),1,8):=by kernel_rfl
structure mO (e n g c N M:Nat) (z:Value) (w:World):Prop where
 row:(Kd.raw 1).R e w 0 (fun k=>k=g) (.slice (some ⟨g,0,none⟩) n c) (List.replicate n [z])
 new:N≤g
 lt:g<M
theorem mO.below {e n g c N M:Nat} {z:Value} {w w1:World} (h:mO e n g c N M z w) (hb:Below w.heap.size w w1):mO e n g c N M z w1:=⟨Kd.bQ h.row (fun k hk hlt=>hb.block k hlt),h.new,h.lt⟩
theorem fo {n e:Nat} {w w1:World} {z v:Value} (hn:0<n) (ho:(Kd.raw 1).R e w1 w.heap.size (fun k=>w.heap.size≤k) v (List.replicate ((n:Int)).toNat [z])): ∃ g c,v= .slice (some ⟨g,0,none⟩) n c∧mO e n g c w.heap.size w1.heap.size z w1:=by
 rw [Int.toNat_natCast] at ho
 obtain ⟨g,c,e1,_⟩:=Kd.lX ho (by simp;omega)
 rw [List.length_replicate] at e1
 subst e1
 exact ⟨g,c,rfl,Kd.eX (Kd.bq (Kd.iR rfl ho) (fun k hk=>by injection hk)) (Nat.zero_le _),Kd.iQ ho g rfl,Kd.qP ho g rfl⟩
def El (n gt ct gh ch ga ca:Nat):SB:=⟨.slice (some ⟨gt,0,none⟩) n ct,.slice (some ⟨gh,0,none⟩) n ch,.slice (some ⟨ga,0,none⟩) n ca,.slice none 0 0,List.replicate n iV,List.replicate n [.bool false],List.replicate n [.int .i64 0],[],fun _=> .slice none 0 0,0⟩
def Stg.new (x:Ws) (n:Nat):Stg:=⟨x,n,List.replicate n 0,[],0⟩
structure Ku (x:Ws) (n:Nat) (w:World) (e:Ending) (w1:World):Prop where
 out: ∃ ok sb p,e= .returned (.tuple #[.pointer (some ⟨sb,0,none⟩),.int .i64 0])∧dm ok sb p (Stg.new x n) w1∧(∀ k,ok k→w.heap.size≤k)∧Below w.heap.size w w1
structure NewAt (p NW:Nat) (x:Ws) (okW:Nat→Prop) (w wc:World):Prop where
 wd:pQ p x okW wc
 lt: ∀ k,okW k→k<NW
 le:NW≤wc.heap.size
 new: ∀ k,okW k→w.heap.size≤k
 bel:Below w.heap.size w wc
theorem NewAt.below {p NW:Nat} {x:Ws} {okW:Nat→Prop} {w wc w2:World} (h:NewAt p NW x okW w wc) (hb:Below wc.heap.size wc w2):NewAt p NW x okW w w2:=⟨(gQ p).step h.wd hb.size (fun k _ hlt=>hb.block k hlt),h.lt,Nat.le_trans h.le hb.size,h.new,aY h.bel h.bel.size hb⟩
theorem NewAt.fin {p NW n gt ct gh ch ga ca:Nat} {Nt Nh Na Mt Mh Ma:Nat} {x:Ws} {okW:Nat→Prop} {w wc:World} (h:NewAt p NW x okW w wc) (hx:x.Good) (hn:0<n) (hn1:n≤64) (ht:mO 33 n gt ct Nt Mt (.pointer none) wc) (hh:mO 4 n gh ch Nh Mh (.bool false) wc) (ha:mO 3 n ga ca Na Ma (.int .i64 0) wc)
  (hd:gt≠gh∧gt≠ga∧gh≠ga∧w.heap.size≤gt∧w.heap.size≤gh∧w.heap.size≤ga∧NW≤gt∧NW≤gh∧NW≤ga):
  Ku x n w (.returned (.tuple #[.pointer (some ⟨wc.heap.size,0,none⟩),.int .i64 0])) (wc.alloc (sbO p (El n gt ct gh ch ga ca))):=by
 obtain ⟨d1,d2,d3,d4,d5,d6,d7,d8,d9⟩:=hd
 have l1:=Kd.qP ht.row gt rfl
 have l2:=Kd.qP hh.row gh rfl
 have l3:=Kd.qP ha.row ga rfl
 have hs:(wc.alloc (sbO p (El n gt ct gh ch ga ca))).heap.size=wc.heap.size+1:=by simp
 refine ⟨⟨fun k=>(k=wc.heap.size∨k=gt∨k=gh∨k=ga)∨okW k,wc.heap.size,p,rfl,⟨fun k=>k=wc.heap.size∨k=gt∨k=gh∨k=ga,okW,El n gt ct gh ch ga ca,fun k=>if k=wc.heap.size then 0 else if k=gt then 1 else if k=gh then 2 else 3,fun _=>Iff.rfl,?_,?_,?_,?_⟩,?_,?_⟩⟩
 ·intro k hk hk1
  have:=h.lt k hk1
  have:=h.le
  omega
 ·exact {
   own:= .inl rfl
   role:=if_pos rfl
   lt:=fun k hk=>by rw [hs];omega
   box:=bU wc _
   ths:=Kd.dL (Kd.bq ht.row (fun k hk=>by subst hk;exact ⟨.inr (.inl rfl),by rw [if_neg (by omega),if_pos rfl]⟩)) _
   hal:=Kd.dL (Kd.bq hh.row (fun k hk=>by subst hk;exact ⟨.inr (.inr (.inl rfl)),by rw [if_neg (by omega),if_neg (by omega),if_pos rfl]⟩)) _
   ats:=Kd.dL (Kd.bq ha.row (fun k hk=>by subst hk;exact ⟨.inr (.inr (.inr rfl)),by rw [if_neg (by omega),if_neg (by omega),if_neg (by omega)]⟩)) _
   evs:=Kd.fI _ _ _ _ _
   prs:=fun i e hi=>by cases hi }
 ·exact ⟨rfl,rfl,by show List.replicate n _=(List.replicate n (0:Int)).map _;rw [List.map_replicate],rfl,rfl,hn1,by show (List.replicate n (0:Int)).length=n;simp,by show ([]:List Evn).length<_;decide⟩
 ·exact ⟨(gQ p).step h.wd (by rw [hs];omega) (fun k _ hlt=>(ai (Below.refl _ _) _).block k hlt),hx⟩
 ·intro k hk
  have:=h.bel.size
  rcases hk with hk | hk
  ·omega
  ·exact h.new k hk
 ·exact aY h.bel h.bel.size (ai (Below.refl _ _) _)
theorem om (a b:Int) (n:Nat) (nodes records:Int) (w:World) (ha:2≤a) (ha1:a≤32) (hb:2*a - 1≤b) (hb1:b≤32) (ht:1≤n) (ht1:n≤64) (hn:2≤nodes) (hn1:nodes≤65536) (hr:0≤records) (hr1:records≤65536) (x:Ws) (hx:ws0 a b n nodes records=some x) (hxg:x.Good):
  Calls Tryz.prog 39 #[.agg #[.int .i64 a,.int .i64 b,.int .i64 n,.int .i64 nodes,.int .i64 records]] w (Ku x n w):=by
 have HW:=Am_ (fun w=>CK a b n nodes records w ha ha1 hb hb1 ht ht1 hn hn1 hr hr1 x hx)
 have K1:=Am_ (Mine.new (ok:=fun _=>False) (w:=w) (fun k hk=>hk.elim) (.cells #[.int .i64 a,.int .i64 b,.int .i64 n,.int .i64 nodes,.int .i64 records] 75))
 have B1:=Am_ (ai (Below.refl w.heap.size w) (.cells #[.int .i64 a,.int .i64 b,.int .i64 n,.int .i64 nodes,.int .i64 records] 75))
 have HNN:ak (0<n∧n≤64):=⟨by omega⟩
 have HGD:=Am_ hxg
 have b0:(0:Int)≤(n:Int):=by omega
 have HS0:ak (w.heap.size≤(w.alloc (.cells #[.int .i64 a,.int .i64 b,.int .i64 n,.int .i64 nodes,.int .i64 records] 75)).heap.size):=⟨B1.out.size⟩
 clear ha ha1 hb hb1 hn hn1 hr hr1 hx hxg ht
 go_enter Tryz.func39,Tryz.ntmps39
 go_upto_region 1 with fail
 generalize w.alloc (.cells #[.int .i64 a,.int .i64 b,.int .i64 n,.int .i64 nodes,.int .i64 records] 75)=w1 at K1 B1 HS0 ⊢
 generalize hb1:w.heap.size=b1 at K1 ⊢
 clear hb1
 have y0:=(af K1.out.1 0).trans (rfl:_=some (Value.int .i64 a))
 have y1:=(af K1.out.1 1).trans (rfl:_=some (Value.int .i64 b))
 have y2:=(af K1.out.1 2).trans (rfl:_=some (Value.int .i64 n))
 have y3:=(af K1.out.1 3).trans (rfl:_=some (Value.int .i64 nodes))
 have y4:=(af K1.out.1 4).trans (rfl:_=some (Value.int .i64 records))
 go_upto_region 4 with (go_at_call 65;refine (HW.out _).mono ?_;rintro e w2 hW;obtain ⟨okW,p,rfl,hW,hF,hB⟩:=hW.out;have K2:=Am_ (K1.out.moves (Moves.bE _ hB));have H4:ak (NewAt p w2.heap.size x okW w w2):=⟨hW,(gQ p).lt hW,Nat.le_refl _,fun k hk=>Nat.le_trans HS0.out (hF k hk),aY B1.out HS0.out hB⟩;clear hW hF hB K1 B1 y0 y1 y2 y3 y4 HW)
 have HC:=Am_ (aj (aM (Below.refl _ _)) ((af K2.out.1 2).trans (rfl:_=some (Value.int .i64 n))))
 clear K2
 refine bG (n:=14) (S:=fun w'=>w'.cell? ⟨b1,2,none⟩=some (.int .i64 n)) (ds:= []) (by kernel_rfl) rfl Cq wV HC.out (fun hHeld HT_ HW_=>?_)
 have H5:=Am_ (H4.out.below (aM (Below.refl _ _)))
 have HNW:=Am_ (And.intro H5.out.le H5.out.bel.size)
 clear HC H4
 generalize World.drew _=w5 at H5 HNW hHeld ⊢
 refine eO [(0,some 23),(1,some 24),(2,some 25),(4,some 27),(5,some 28),(7,some 30),(8,some 31)] ?_
 iterate 2 (refine dZ (v:=?_) (a':=?_) HT_ (by kernel_rfl) rfl rfl (fun _ _ _ h=>h) (Or.inl ⟨by rfl,?_⟩) ?_ ?_;rotate_left;(intro w';go_simp;with_reducible rfl);rotate_left;(simp only [Act.put,p1_,p2_,p3_,ax,ay];rfl))
 iterate 5 (refine iW (v:=?_) (a':=?_) HT_ HW_ (by kernel_rfl) rfl rfl (fun _ _ _ h=>h) hHeld (Or.inl ⟨by rfl,?_⟩) ?_ ?_;rotate_left;(rintro w' s0;go_simp;with_reducible rfl);rotate_left;(simp only [Act.put,p1_,p2_,p3_,ax,ay];rfl))
 refine aZ ?_
 refine LD (i:=3) (j:=6) (k:=9) (Ni:=(some 26)) (Nj:=(some 29)) (Nk:=(some 32)) #[Y_,Y_,Y_,Y_,Y_,Y_,N_,Y_,Y_,N_,N_,N_,N_,N_] #[Y_,Y_,Y_,N_,Y_,Y_,Y_,Y_,Y_,N_,N_,N_,N_,N_] #[Y_,Y_,Y_,N_,Y_,Y_,N_,Y_,Y_,Y_,N_,N_,N_,N_] rfl rfl rfl rfl rfl rfl (Fb HT_.out (by kernel_rfl)) (by decide) (by decide) (by decide) (fun K_ hK=>?_) (fun K_ hK=>?_) (fun K_ hK=>?_)
 ·refine Kd.dB (Kd.raw 1) (w0:=w5) w5.heap.size 33 (by rfl) rfl 131 (.tmp 25) (.tmp 25) rfl (n:Int) (by rfl) (by rfl) Tryz.underlying131 (.pointer none) 8 nG rfl (by decide) (by decide) [.pointer none] (ok:=fun k=>w5.heap.size≤k) (okp:=fun _=>False) ⟨rfl,rfl,by simp [Value.cells,Value.oneCell']⟩ (fun _ hk=>hk.elim) (Nat.le_refl _) b0 (by omega) (Below.refl _ _) (Nat.le_refl _) ?_
  intro v w21 ho hb hg hat
  obtain ⟨gt,ct,rfl,ht⟩:=fo HNN.out.1 ho
  have Rt:=Am_ ht
  have H21:=Am_ (H5.out.below hb)
  have HSt:=Am_ hb.size
  clear ho hg hat ht
  refine hK.out _ _ (aj hb hHeld) (fun hHeld=>?_)
  clear hK K_ hb
  refine bK (a':=?_) ?_ ?_
  rotate_left; · show Act.put _ (some 26) _=_;simp only [Act.put,p1_,p2_,p3_,ax,ay];rfl
  refine NA (i:=6) (j:=9) (Ni:=(some 29)) (Nj:=(some 32)) #[Y_,Y_,Y_,Y_,Y_,Y_,Y_,Y_,Y_,N_,N_,N_,N_,N_] #[Y_,Y_,Y_,Y_,Y_,Y_,N_,Y_,Y_,Y_,N_,N_,N_,N_] rfl rfl rfl rfl (Cz HT_.out (by kernel_rfl)) (by decide) (by decide) (fun K_ hK=>?_) (fun K_ hK=>?_)
  ·refine Kd.dB (Kd.raw 1) (w0:=w21) w21.heap.size 4 (by rfl) rfl 132 (.tmp 28) (.tmp 28) rfl (n:Int) (by rfl) (by rfl) Tryz.underlying132 (.bool false) 1 ny rfl (by decide) (by decide) [.bool false] (ok:=fun k=>w21.heap.size≤k) (okp:=fun _=>False) ⟨rfl,rfl,by simp [Value.cells,Value.oneCell']⟩ (fun _ hk=>hk.elim) (Nat.le_refl _) b0 (by omega) (Below.refl _ _) (Nat.le_refl _) ?_
   intro v w22 ho hb hg hat
   obtain ⟨gh,ch,rfl,hh⟩:=fo HNN.out.1 ho
   have Rh:=Am_ hh
   have Rt:=Am_ (Rt.out.below hb)
   have H22:=Am_ (H21.out.below hb)
   have HSh:=Am_ hb.size
   clear ho hg hat hh
   refine hK.out _ _ (aj hb hHeld) (fun hHeld=>?_)
   clear hK K_ hb
   refine bK (a':=?_) ?_ ?_
   rotate_left; · show Act.put _ (some 29) _=_;simp only [Act.put,p1_,p2_,p3_,ax,ay];rfl
   refine dR (i:=9) (some 32) HT_ (by kernel_rfl) rfl rfl (by decide) (fun K_ hK=>?_)
   refine Kd.dB (Kd.raw 1) (w0:=w22) w22.heap.size 3 (by rfl) rfl 85 (.tmp 31) (.tmp 31) rfl (n:Int) (by rfl) (by rfl) Tryz.underlying85 (.int .i64 0) 8 nC rfl (by decide) (by decide) [.int .i64 0] (ok:=fun k=>w22.heap.size≤k) (okp:=fun _=>False) ⟨rfl,rfl,by simp [Value.cells,Value.oneCell']⟩ (fun _ hk=>hk.elim) (Nat.le_refl _) b0 (by omega) (Below.refl _ _) (Nat.le_refl _) ?_
   intro v w23 ho hb hg hat
   obtain ⟨ga,ca,rfl,ha⟩:=fo HNN.out.1 ho
   have Ra:=Am_ ha
   have Rt:=Am_ (Rt.out.below hb)
   have Rh:=Am_ (Rh.out.below hb)
   have H23:=Am_ (H22.out.below hb)
   have HSa:=Am_ hb.size
   clear ho hg hat ha
   refine hK.out _ _ (aj hb hHeld) (fun hHeld=>?_)
   clear hK K_ hb
   refine bK (a':=?_) ?_ ?_
   rotate_left; · show Act.put _ (some 32) _=_;simp only [Act.put,p1_,p2_,p3_,ax,ay];rfl
   refine eO [(10,some 33)] ?_
   (refine dZ (v:=?_) (a':=?_) HT_ (by kernel_rfl) rfl rfl (fun _ _ _ h=>h) (Or.inl ⟨by rfl,?_⟩) ?_ ?_;rotate_left;(intro w';go_simp;with_reducible rfl);rotate_left;(simp only [Act.put,p1_,p2_,p3_,ax,ay];rfl))
   refine aZ ?_
   refine dR (i:=11) (some 34) HT_ (by kernel_rfl) rfl rfl (by decide) (fun K_ hK=>?_)
   refine fT (v:= .pointer (some ⟨w23.heap.size,0,none⟩)) (w1:=w23.alloc (sbO p (El n gt ct gh ch ga ca))) (by rfl) rfl ?hbx ?_
   (case hbx=>go_simp;first | done | rfl)
   refine hK.out _ _ (aj (ai (Below.refl _ _) _) hHeld) (fun hHeld=>?_)
   clear hK K_
   refine bK (a':=?_) ?_ ?_
   rotate_left; · show Act.put _ (some 34) _=_;simp only [Act.put,p1_,p2_,p3_,ax,ay];rfl
   refine eO [(12,some 2),(13,some 3)] ?_
   iterate 2 (refine dZ (v:=?_) (a':=?_) HT_ (by kernel_rfl) rfl rfl (fun _ _ _ h=>h) (Or.inl ⟨by rfl,?_⟩) ?_ ?_;rotate_left;(intro w';go_simp;with_reducible rfl);rotate_left;(simp only [Act.put,p1_,p2_,p3_,ax,ay];rfl))
   refine aZ ?_
   refine dD (bI HT_.out (by kernel_rfl)) ?_
   go_wp2_with fail
   go_ret2
   exact H23.out.fin HGD.out HNN.out.1 HNN.out.2 Rt.out Rh.out Ra.out (by have:=Rt.out.new;have:=Rt.out.lt;have:=Rh.out.new;have:=Rh.out.lt;have:=Ra.out.new;have:=Ra.out.lt;have:=HNW.out;have:=HSt.out;have:=HSh.out;have:=HSa.out;omega)
  ·refine Kd.dB (Kd.raw 1) (w0:=w21) w21.heap.size 3 (by rfl) rfl 85 (.tmp 31) (.tmp 31) rfl (n:Int) (by rfl) (by rfl) Tryz.underlying85 (.int .i64 0) 8 nC rfl (by decide) (by decide) [.int .i64 0] (ok:=fun k=>w21.heap.size≤k) (okp:=fun _=>False) ⟨rfl,rfl,by simp [Value.cells,Value.oneCell']⟩ (fun _ hk=>hk.elim) (Nat.le_refl _) b0 (by omega) (Below.refl _ _) (Nat.le_refl _) ?_
   intro v w24 ho hb hg hat
   obtain ⟨ga,ca,rfl,ha⟩:=fo HNN.out.1 ho
   have Ra:=Am_ ha
   have Rt:=Am_ (Rt.out.below hb)
   have H24:=Am_ (H21.out.below hb)
   have HSa:=Am_ hb.size
   clear ho hg hat ha
   refine hK.out _ _ (aj hb hHeld) (fun hHeld=>?_)
   clear hK K_ hb
   refine bK (a':=?_) ?_ ?_
   rotate_left; · show Act.put _ (some 32) _=_;simp only [Act.put,p1_,p2_,p3_,ax,ay];rfl
   refine dR (i:=6) (some 29) HT_ (by kernel_rfl) rfl rfl (by decide) (fun K_ hK=>?_)
   refine Kd.dB (Kd.raw 1) (w0:=w24) w24.heap.size 4 (by rfl) rfl 132 (.tmp 28) (.tmp 28) rfl (n:Int) (by rfl) (by rfl) Tryz.underlying132 (.bool false) 1 ny rfl (by decide) (by decide) [.bool false] (ok:=fun k=>w24.heap.size≤k) (okp:=fun _=>False) ⟨rfl,rfl,by simp [Value.cells,Value.oneCell']⟩ (fun _ hk=>hk.elim) (Nat.le_refl _) b0 (by omega) (Below.refl _ _) (Nat.le_refl _) ?_
   intro v w25 ho hb hg hat
   obtain ⟨gh,ch,rfl,hh⟩:=fo HNN.out.1 ho
   have Rh:=Am_ hh
   have Rt:=Am_ (Rt.out.below hb)
   have Ra:=Am_ (Ra.out.below hb)
   have H25:=Am_ (H24.out.below hb)
   have HSh:=Am_ hb.size
   clear ho hg hat hh
   refine hK.out _ _ (aj hb hHeld) (fun hHeld=>?_)
   clear hK K_ hb
   refine bK (a':=?_) ?_ ?_
   rotate_left; · show Act.put _ (some 29) _=_;simp only [Act.put,p1_,p2_,p3_,ax,ay];rfl
   refine eO [(10,some 33)] ?_
   (refine dZ (v:=?_) (a':=?_) HT_ (by kernel_rfl) rfl rfl (fun _ _ _ h=>h) (Or.inl ⟨by rfl,?_⟩) ?_ ?_;rotate_left;(intro w';go_simp;with_reducible rfl);rotate_left;(simp only [Act.put,p1_,p2_,p3_,ax,ay];rfl))
   refine aZ ?_
   refine dR (i:=11) (some 34) HT_ (by kernel_rfl) rfl rfl (by decide) (fun K_ hK=>?_)
   refine fT (v:= .pointer (some ⟨w25.heap.size,0,none⟩)) (w1:=w25.alloc (sbO p (El n gt ct gh ch ga ca))) (by rfl) rfl ?hbx ?_
   (case hbx=>go_simp;first | done | rfl)
   refine hK.out _ _ (aj (ai (Below.refl _ _) _) hHeld) (fun hHeld=>?_)
   clear hK K_
   refine bK (a':=?_) ?_ ?_
   rotate_left; · show Act.put _ (some 34) _=_;simp only [Act.put,p1_,p2_,p3_,ax,ay];rfl
   refine eO [(12,some 2),(13,some 3)] ?_
   iterate 2 (refine dZ (v:=?_) (a':=?_) HT_ (by kernel_rfl) rfl rfl (fun _ _ _ h=>h) (Or.inl ⟨by rfl,?_⟩) ?_ ?_;rotate_left;(intro w';go_simp;with_reducible rfl);rotate_left;(simp only [Act.put,p1_,p2_,p3_,ax,ay];rfl))
   refine aZ ?_
   refine dD (bI HT_.out (by kernel_rfl)) ?_
   go_wp2_with fail
   go_ret2
   exact H25.out.fin HGD.out HNN.out.1 HNN.out.2 Rt.out Rh.out Ra.out (by have:=Rt.out.new;have:=Rt.out.lt;have:=Rh.out.new;have:=Rh.out.lt;have:=Ra.out.new;have:=Ra.out.lt;have:=HNW.out;have:=HSt.out;have:=HSa.out;have:=HSh.out;omega)
 ·refine Kd.dB (Kd.raw 1) (w0:=w5) w5.heap.size 4 (by rfl) rfl 132 (.tmp 28) (.tmp 28) rfl (n:Int) (by rfl) (by rfl) Tryz.underlying132 (.bool false) 1 ny rfl (by decide) (by decide) [.bool false] (ok:=fun k=>w5.heap.size≤k) (okp:=fun _=>False) ⟨rfl,rfl,by simp [Value.cells,Value.oneCell']⟩ (fun _ hk=>hk.elim) (Nat.le_refl _) b0 (by omega) (Below.refl _ _) (Nat.le_refl _) ?_
  intro v w26 ho hb hg hat
  obtain ⟨gh,ch,rfl,hh⟩:=fo HNN.out.1 ho
  have Rh:=Am_ hh
  have H26:=Am_ (H5.out.below hb)
  have HSh:=Am_ hb.size
  clear ho hg hat hh
  refine hK.out _ _ (aj hb hHeld) (fun hHeld=>?_)
  clear hK K_ hb
  refine bK (a':=?_) ?_ ?_
  rotate_left; · show Act.put _ (some 29) _=_;simp only [Act.put,p1_,p2_,p3_,ax,ay];rfl
  refine NA (i:=3) (j:=9) (Ni:=(some 26)) (Nj:=(some 32)) #[Y_,Y_,Y_,Y_,Y_,Y_,Y_,Y_,Y_,N_,N_,N_,N_,N_] #[Y_,Y_,Y_,N_,Y_,Y_,Y_,Y_,Y_,Y_,N_,N_,N_,N_] rfl rfl rfl rfl (Cz HT_.out (by kernel_rfl)) (by decide) (by decide) (fun K_ hK=>?_) (fun K_ hK=>?_)
  ·refine Kd.dB (Kd.raw 1) (w0:=w26) w26.heap.size 33 (by rfl) rfl 131 (.tmp 25) (.tmp 25) rfl (n:Int) (by rfl) (by rfl) Tryz.underlying131 (.pointer none) 8 nG rfl (by decide) (by decide) [.pointer none] (ok:=fun k=>w26.heap.size≤k) (okp:=fun _=>False) ⟨rfl,rfl,by simp [Value.cells,Value.oneCell']⟩ (fun _ hk=>hk.elim) (Nat.le_refl _) b0 (by omega) (Below.refl _ _) (Nat.le_refl _) ?_
   intro v w27 ho hb hg hat
   obtain ⟨gt,ct,rfl,ht⟩:=fo HNN.out.1 ho
   have Rt:=Am_ ht
   have Rh:=Am_ (Rh.out.below hb)
   have H27:=Am_ (H26.out.below hb)
   have HSt:=Am_ hb.size
   clear ho hg hat ht
   refine hK.out _ _ (aj hb hHeld) (fun hHeld=>?_)
   clear hK K_ hb
   refine bK (a':=?_) ?_ ?_
   rotate_left; · show Act.put _ (some 26) _=_;simp only [Act.put,p1_,p2_,p3_,ax,ay];rfl
   refine dR (i:=9) (some 32) HT_ (by kernel_rfl) rfl rfl (by decide) (fun K_ hK=>?_)
   refine Kd.dB (Kd.raw 1) (w0:=w27) w27.heap.size 3 (by rfl) rfl 85 (.tmp 31) (.tmp 31) rfl (n:Int) (by rfl) (by rfl) Tryz.underlying85 (.int .i64 0) 8 nC rfl (by decide) (by decide) [.int .i64 0] (ok:=fun k=>w27.heap.size≤k) (okp:=fun _=>False) ⟨rfl,rfl,by simp [Value.cells,Value.oneCell']⟩ (fun _ hk=>hk.elim) (Nat.le_refl _) b0 (by omega) (Below.refl _ _) (Nat.le_refl _) ?_
   intro v w28 ho hb hg hat
   obtain ⟨ga,ca,rfl,ha⟩:=fo HNN.out.1 ho
   have Ra:=Am_ ha
   have Rh:=Am_ (Rh.out.below hb)
   have Rt:=Am_ (Rt.out.below hb)
   have H28:=Am_ (H27.out.below hb)
   have HSa:=Am_ hb.size
   clear ho hg hat ha
   refine hK.out _ _ (aj hb hHeld) (fun hHeld=>?_)
   clear hK K_ hb
   refine bK (a':=?_) ?_ ?_
   rotate_left; · show Act.put _ (some 32) _=_;simp only [Act.put,p1_,p2_,p3_,ax,ay];rfl
   refine eO [(10,some 33)] ?_
   (refine dZ (v:=?_) (a':=?_) HT_ (by kernel_rfl) rfl rfl (fun _ _ _ h=>h) (Or.inl ⟨by rfl,?_⟩) ?_ ?_;rotate_left;(intro w';go_simp;with_reducible rfl);rotate_left;(simp only [Act.put,p1_,p2_,p3_,ax,ay];rfl))
   refine aZ ?_
   refine dR (i:=11) (some 34) HT_ (by kernel_rfl) rfl rfl (by decide) (fun K_ hK=>?_)
   refine fT (v:= .pointer (some ⟨w28.heap.size,0,none⟩)) (w1:=w28.alloc (sbO p (El n gt ct gh ch ga ca))) (by rfl) rfl ?hbx ?_
   (case hbx=>go_simp;first | done | rfl)
   refine hK.out _ _ (aj (ai (Below.refl _ _) _) hHeld) (fun hHeld=>?_)
   clear hK K_
   refine bK (a':=?_) ?_ ?_
   rotate_left; · show Act.put _ (some 34) _=_;simp only [Act.put,p1_,p2_,p3_,ax,ay];rfl
   refine eO [(12,some 2),(13,some 3)] ?_
   iterate 2 (refine dZ (v:=?_) (a':=?_) HT_ (by kernel_rfl) rfl rfl (fun _ _ _ h=>h) (Or.inl ⟨by rfl,?_⟩) ?_ ?_;rotate_left;(intro w';go_simp;with_reducible rfl);rotate_left;(simp only [Act.put,p1_,p2_,p3_,ax,ay];rfl))
   refine aZ ?_
   refine dD (bI HT_.out (by kernel_rfl)) ?_
   go_wp2_with fail
   go_ret2
   exact H28.out.fin HGD.out HNN.out.1 HNN.out.2 Rt.out Rh.out Ra.out (by have:=Rt.out.new;have:=Rt.out.lt;have:=Rh.out.new;have:=Rh.out.lt;have:=Ra.out.new;have:=Ra.out.lt;have:=HNW.out;have:=HSh.out;have:=HSt.out;have:=HSa.out;omega)
  ·refine Kd.dB (Kd.raw 1) (w0:=w26) w26.heap.size 3 (by rfl) rfl 85 (.tmp 31) (.tmp 31) rfl (n:Int) (by rfl) (by rfl) Tryz.underlying85 (.int .i64 0) 8 nC rfl (by decide) (by decide) [.int .i64 0] (ok:=fun k=>w26.heap.size≤k) (okp:=fun _=>False) ⟨rfl,rfl,by simp [Value.cells,Value.oneCell']⟩ (fun _ hk=>hk.elim) (Nat.le_refl _) b0 (by omega) (Below.refl _ _) (Nat.le_refl _) ?_
   intro v w29 ho hb hg hat
   obtain ⟨ga,ca,rfl,ha⟩:=fo HNN.out.1 ho
   have Ra:=Am_ ha
   have Rh:=Am_ (Rh.out.below hb)
   have H29:=Am_ (H26.out.below hb)
   have HSa:=Am_ hb.size
   clear ho hg hat ha
   refine hK.out _ _ (aj hb hHeld) (fun hHeld=>?_)
   clear hK K_ hb
   refine bK (a':=?_) ?_ ?_
   rotate_left; · show Act.put _ (some 32) _=_;simp only [Act.put,p1_,p2_,p3_,ax,ay];rfl
   refine dR (i:=3) (some 26) HT_ (by kernel_rfl) rfl rfl (by decide) (fun K_ hK=>?_)
   refine Kd.dB (Kd.raw 1) (w0:=w29) w29.heap.size 33 (by rfl) rfl 131 (.tmp 25) (.tmp 25) rfl (n:Int) (by rfl) (by rfl) Tryz.underlying131 (.pointer none) 8 nG rfl (by decide) (by decide) [.pointer none] (ok:=fun k=>w29.heap.size≤k) (okp:=fun _=>False) ⟨rfl,rfl,by simp [Value.cells,Value.oneCell']⟩ (fun _ hk=>hk.elim) (Nat.le_refl _) b0 (by omega) (Below.refl _ _) (Nat.le_refl _) ?_
   intro v w30 ho hb hg hat
   obtain ⟨gt,ct,rfl,ht⟩:=fo HNN.out.1 ho
   have Rt:=Am_ ht
   have Rh:=Am_ (Rh.out.below hb)
   have Ra:=Am_ (Ra.out.below hb)
   have H30:=Am_ (H29.out.below hb)
   have HSt:=Am_ hb.size
   clear ho hg hat ht
   refine hK.out _ _ (aj hb hHeld) (fun hHeld=>?_)
   clear hK K_ hb
   refine bK (a':=?_) ?_ ?_
   rotate_left; · show Act.put _ (some 26) _=_;simp only [Act.put,p1_,p2_,p3_,ax,ay];rfl
   refine eO [(10,some 33)] ?_
   (refine dZ (v:=?_) (a':=?_) HT_ (by kernel_rfl) rfl rfl (fun _ _ _ h=>h) (Or.inl ⟨by rfl,?_⟩) ?_ ?_;rotate_left;(intro w';go_simp;with_reducible rfl);rotate_left;(simp only [Act.put,p1_,p2_,p3_,ax,ay];rfl))
   refine aZ ?_
   refine dR (i:=11) (some 34) HT_ (by kernel_rfl) rfl rfl (by decide) (fun K_ hK=>?_)
   refine fT (v:= .pointer (some ⟨w30.heap.size,0,none⟩)) (w1:=w30.alloc (sbO p (El n gt ct gh ch ga ca))) (by rfl) rfl ?hbx ?_
   (case hbx=>go_simp;first | done | rfl)
   refine hK.out _ _ (aj (ai (Below.refl _ _) _) hHeld) (fun hHeld=>?_)
   clear hK K_
   refine bK (a':=?_) ?_ ?_
   rotate_left; · show Act.put _ (some 34) _=_;simp only [Act.put,p1_,p2_,p3_,ax,ay];rfl
   refine eO [(12,some 2),(13,some 3)] ?_
   iterate 2 (refine dZ (v:=?_) (a':=?_) HT_ (by kernel_rfl) rfl rfl (fun _ _ _ h=>h) (Or.inl ⟨by rfl,?_⟩) ?_ ?_;rotate_left;(intro w';go_simp;with_reducible rfl);rotate_left;(simp only [Act.put,p1_,p2_,p3_,ax,ay];rfl))
   refine aZ ?_
   refine dD (bI HT_.out (by kernel_rfl)) ?_
   go_wp2_with fail
   go_ret2
   exact H30.out.fin HGD.out HNN.out.1 HNN.out.2 Rt.out Rh.out Ra.out (by have:=Rt.out.new;have:=Rt.out.lt;have:=Rh.out.new;have:=Rh.out.lt;have:=Ra.out.new;have:=Ra.out.lt;have:=HNW.out;have:=HSh.out;have:=HSa.out;have:=HSt.out;omega)
 ·refine Kd.dB (Kd.raw 1) (w0:=w5) w5.heap.size 3 (by rfl) rfl 85 (.tmp 31) (.tmp 31) rfl (n:Int) (by rfl) (by rfl) Tryz.underlying85 (.int .i64 0) 8 nC rfl (by decide) (by decide) [.int .i64 0] (ok:=fun k=>w5.heap.size≤k) (okp:=fun _=>False) ⟨rfl,rfl,by simp [Value.cells,Value.oneCell']⟩ (fun _ hk=>hk.elim) (Nat.le_refl _) b0 (by omega) (Below.refl _ _) (Nat.le_refl _) ?_
  intro v w31 ho hb hg hat
  obtain ⟨ga,ca,rfl,ha⟩:=fo HNN.out.1 ho
  have Ra:=Am_ ha
  have H31:=Am_ (H5.out.below hb)
  have HSa:=Am_ hb.size
  clear ho hg hat ha
  refine hK.out _ _ (aj hb hHeld) (fun hHeld=>?_)
  clear hK K_ hb
  refine bK (a':=?_) ?_ ?_
  rotate_left; · show Act.put _ (some 32) _=_;simp only [Act.put,p1_,p2_,p3_,ax,ay];rfl
  refine NA (i:=3) (j:=6) (Ni:=(some 26)) (Nj:=(some 29)) #[Y_,Y_,Y_,Y_,Y_,Y_,N_,Y_,Y_,Y_,N_,N_,N_,N_] #[Y_,Y_,Y_,N_,Y_,Y_,Y_,Y_,Y_,Y_,N_,N_,N_,N_] rfl rfl rfl rfl (Cz HT_.out (by kernel_rfl)) (by decide) (by decide) (fun K_ hK=>?_) (fun K_ hK=>?_)
  ·refine Kd.dB (Kd.raw 1) (w0:=w31) w31.heap.size 33 (by rfl) rfl 131 (.tmp 25) (.tmp 25) rfl (n:Int) (by rfl) (by rfl) Tryz.underlying131 (.pointer none) 8 nG rfl (by decide) (by decide) [.pointer none] (ok:=fun k=>w31.heap.size≤k) (okp:=fun _=>False) ⟨rfl,rfl,by simp [Value.cells,Value.oneCell']⟩ (fun _ hk=>hk.elim) (Nat.le_refl _) b0 (by omega) (Below.refl _ _) (Nat.le_refl _) ?_
   intro v w32 ho hb hg hat
   obtain ⟨gt,ct,rfl,ht⟩:=fo HNN.out.1 ho
   have Rt:=Am_ ht
   have Ra:=Am_ (Ra.out.below hb)
   have H32:=Am_ (H31.out.below hb)
   have HSt:=Am_ hb.size
   clear ho hg hat ht
   refine hK.out _ _ (aj hb hHeld) (fun hHeld=>?_)
   clear hK K_ hb
   refine bK (a':=?_) ?_ ?_
   rotate_left; · show Act.put _ (some 26) _=_;simp only [Act.put,p1_,p2_,p3_,ax,ay];rfl
   refine dR (i:=6) (some 29) HT_ (by kernel_rfl) rfl rfl (by decide) (fun K_ hK=>?_)
   refine Kd.dB (Kd.raw 1) (w0:=w32) w32.heap.size 4 (by rfl) rfl 132 (.tmp 28) (.tmp 28) rfl (n:Int) (by rfl) (by rfl) Tryz.underlying132 (.bool false) 1 ny rfl (by decide) (by decide) [.bool false] (ok:=fun k=>w32.heap.size≤k) (okp:=fun _=>False) ⟨rfl,rfl,by simp [Value.cells,Value.oneCell']⟩ (fun _ hk=>hk.elim) (Nat.le_refl _) b0 (by omega) (Below.refl _ _) (Nat.le_refl _) ?_
   intro v w33 ho hb hg hat
   obtain ⟨gh,ch,rfl,hh⟩:=fo HNN.out.1 ho
   have Rh:=Am_ hh
   have Ra:=Am_ (Ra.out.below hb)
   have Rt:=Am_ (Rt.out.below hb)
   have H33:=Am_ (H32.out.below hb)
   have HSh:=Am_ hb.size
   clear ho hg hat hh
   refine hK.out _ _ (aj hb hHeld) (fun hHeld=>?_)
   clear hK K_ hb
   refine bK (a':=?_) ?_ ?_
   rotate_left; · show Act.put _ (some 29) _=_;simp only [Act.put,p1_,p2_,p3_,ax,ay];rfl
   refine eO [(10,some 33)] ?_
   (refine dZ (v:=?_) (a':=?_) HT_ (by kernel_rfl) rfl rfl (fun _ _ _ h=>h) (Or.inl ⟨by rfl,?_⟩) ?_ ?_;rotate_left;(intro w';go_simp;with_reducible rfl);rotate_left;(simp only [Act.put,p1_,p2_,p3_,ax,ay];rfl))
   refine aZ ?_
   refine dR (i:=11) (some 34) HT_ (by kernel_rfl) rfl rfl (by decide) (fun K_ hK=>?_)
   refine fT (v:= .pointer (some ⟨w33.heap.size,0,none⟩)) (w1:=w33.alloc (sbO p (El n gt ct gh ch ga ca))) (by rfl) rfl ?hbx ?_
   (case hbx=>go_simp;first | done | rfl)
   refine hK.out _ _ (aj (ai (Below.refl _ _) _) hHeld) (fun hHeld=>?_)
   clear hK K_
   refine bK (a':=?_) ?_ ?_
   rotate_left; · show Act.put _ (some 34) _=_;simp only [Act.put,p1_,p2_,p3_,ax,ay];rfl
   refine eO [(12,some 2),(13,some 3)] ?_
   iterate 2 (refine dZ (v:=?_) (a':=?_) HT_ (by kernel_rfl) rfl rfl (fun _ _ _ h=>h) (Or.inl ⟨by rfl,?_⟩) ?_ ?_;rotate_left;(intro w';go_simp;with_reducible rfl);rotate_left;(simp only [Act.put,p1_,p2_,p3_,ax,ay];rfl))
   refine aZ ?_
   refine dD (bI HT_.out (by kernel_rfl)) ?_
   go_wp2_with fail
   go_ret2
   exact H33.out.fin HGD.out HNN.out.1 HNN.out.2 Rt.out Rh.out Ra.out (by have:=Rt.out.new;have:=Rt.out.lt;have:=Rh.out.new;have:=Rh.out.lt;have:=Ra.out.new;have:=Ra.out.lt;have:=HNW.out;have:=HSa.out;have:=HSt.out;have:=HSh.out;omega)
  ·refine Kd.dB (Kd.raw 1) (w0:=w31) w31.heap.size 4 (by rfl) rfl 132 (.tmp 28) (.tmp 28) rfl (n:Int) (by rfl) (by rfl) Tryz.underlying132 (.bool false) 1 ny rfl (by decide) (by decide) [.bool false] (ok:=fun k=>w31.heap.size≤k) (okp:=fun _=>False) ⟨rfl,rfl,by simp [Value.cells,Value.oneCell']⟩ (fun _ hk=>hk.elim) (Nat.le_refl _) b0 (by omega) (Below.refl _ _) (Nat.le_refl _) ?_
   intro v w34 ho hb hg hat
   obtain ⟨gh,ch,rfl,hh⟩:=fo HNN.out.1 ho
   have Rh:=Am_ hh
   have Ra:=Am_ (Ra.out.below hb)
   have H34:=Am_ (H31.out.below hb)
   have HSh:=Am_ hb.size
   clear ho hg hat hh
   refine hK.out _ _ (aj hb hHeld) (fun hHeld=>?_)
   clear hK K_ hb
   refine bK (a':=?_) ?_ ?_
   rotate_left; · show Act.put _ (some 29) _=_;simp only [Act.put,p1_,p2_,p3_,ax,ay];rfl
   refine dR (i:=3) (some 26) HT_ (by kernel_rfl) rfl rfl (by decide) (fun K_ hK=>?_)
   refine Kd.dB (Kd.raw 1) (w0:=w34) w34.heap.size 33 (by rfl) rfl 131 (.tmp 25) (.tmp 25) rfl (n:Int) (by rfl) (by rfl) Tryz.underlying131 (.pointer none) 8 nG rfl (by decide) (by decide) [.pointer none] (ok:=fun k=>w34.heap.size≤k) (okp:=fun _=>False) ⟨rfl,rfl,by simp [Value.cells,Value.oneCell']⟩ (fun _ hk=>hk.elim) (Nat.le_refl _) b0 (by omega) (Below.refl _ _) (Nat.le_refl _) ?_
   intro v w35 ho hb hg hat
   obtain ⟨gt,ct,rfl,ht⟩:=fo HNN.out.1 ho
   have Rt:=Am_ ht
   have Ra:=Am_ (Ra.out.below hb)
   have Rh:=Am_ (Rh.out.below hb)
   have H35:=Am_ (H34.out.below hb)
   have HSt:=Am_ hb.size
   clear ho hg hat ht
   refine hK.out _ _ (aj hb hHeld) (fun hHeld=>?_)
   clear hK K_ hb
   refine bK (a':=?_) ?_ ?_
   rotate_left; · show Act.put _ (some 26) _=_;simp only [Act.put,p1_,p2_,p3_,ax,ay];rfl
   refine eO [(10,some 33)] ?_
   (refine dZ (v:=?_) (a':=?_) HT_ (by kernel_rfl) rfl rfl (fun _ _ _ h=>h) (Or.inl ⟨by rfl,?_⟩) ?_ ?_;rotate_left;(intro w';go_simp;with_reducible rfl);rotate_left;(simp only [Act.put,p1_,p2_,p3_,ax,ay];rfl))
   refine aZ ?_
   refine dR (i:=11) (some 34) HT_ (by kernel_rfl) rfl rfl (by decide) (fun K_ hK=>?_)
   refine fT (v:= .pointer (some ⟨w35.heap.size,0,none⟩)) (w1:=w35.alloc (sbO p (El n gt ct gh ch ga ca))) (by rfl) rfl ?hbx ?_
   (case hbx=>go_simp;first | done | rfl)
   refine hK.out _ _ (aj (ai (Below.refl _ _) _) hHeld) (fun hHeld=>?_)
   clear hK K_
   refine bK (a':=?_) ?_ ?_
   rotate_left; · show Act.put _ (some 34) _=_;simp only [Act.put,p1_,p2_,p3_,ax,ay];rfl
   refine eO [(12,some 2),(13,some 3)] ?_
   iterate 2 (refine dZ (v:=?_) (a':=?_) HT_ (by kernel_rfl) rfl rfl (fun _ _ _ h=>h) (Or.inl ⟨by rfl,?_⟩) ?_ ?_;rotate_left;(intro w';go_simp;with_reducible rfl);rotate_left;(simp only [Act.put,p1_,p2_,p3_,ax,ay];rfl))
   refine aZ ?_
   refine dD (bI HT_.out (by kernel_rfl)) ?_
   go_wp2_with fail
   go_ret2
   exact H35.out.fin HGD.out HNN.out.1 HNN.out.2 Rt.out Rh.out Ra.out (by have:=Rt.out.new;have:=Rt.out.lt;have:=Rh.out.new;have:=Rh.out.lt;have:=Ra.out.new;have:=Ra.out.lt;have:=HNW.out;have:=HSa.out;have:=HSh.out;have:=HSt.out;omega)
def xV:Int:=1099511627777
def vV:Int:=1099511627778
structure GA (p:Nat) (me:Int) (o:Opn) (w:World) (e:Ending) (w1:World):Prop where
 out: ∃ tb bw bm bo,e= .returned (.pointer (some ⟨tb,0,none⟩))∧w.heap.size≤tb∧w.heap.size≤bw∧w.heap.size≤bm∧w.heap.size≤bo∧tb≠bw∧tb≠bm∧tb≠bo∧dA (fun k=>k=tb) tb (kg bw bm bo) th0 w1∧
  jP p me o bw bm bo (fun _=>False) w1∧Below w.heap.size w w1
theorem qW (p:Nat) (me:Int) (o:Opn) (w:World):
  Calls Tryz.prog 59 #[.pointer (some ⟨p,0,none⟩),.int .i64 me,opV o] w (GA p me o w):=by
 have hmf: ∀ (fn:Fn) (first cap:Array Value) (w:World),(Instr.makeFunc fn first cap).run Tryz.prog w= .ok (.func fn first cap) w:=fun _ _ _ _=>rfl
 unfold opV
 go_enter Tryz.func59,Tryz.ntmps59
 go_upto_region 1 with fail
 have b1:=Am_ (aC (aC (bU w (.cells #[.pointer (some ⟨p,0,none⟩)] 31)) (.cells #[.int .i64 me] 3)) (.cells #[.int .u8 o.kind,.int .i64 o.key,.int .i64 o.upto,.int .i64 o.value] 52))
 have b2:=Am_ (aC (bU (w.alloc (.cells #[.pointer (some ⟨p,0,none⟩)] 31)) (.cells #[.int .i64 me] 3)) (.cells #[.int .u8 o.kind,.int .i64 o.key,.int .i64 o.upto,.int .i64 o.value] 52))
 have b3:=Am_ (bU ((w.alloc (.cells #[.pointer (some ⟨p,0,none⟩)] 31)).alloc (.cells #[.int .i64 me] 3)) (.cells #[.int .u8 o.kind,.int .i64 o.key,.int .i64 o.upto,.int .i64 o.value] 52))
 have bb:=Am_ (ai (ai (ai (Below.refl w.heap.size w) (.cells #[.pointer (some ⟨p,0,none⟩)] 31)) (.cells #[.int .i64 me] 3)) (.cells #[.int .u8 o.kind,.int .i64 o.key,.int .i64 o.upto,.int .i64 o.value] 52))
 have e1:(w.alloc (.cells #[.pointer (some ⟨p,0,none⟩)] 31)).heap.size=w.heap.size+1:=by simp
 have e2:((w.alloc (.cells #[.pointer (some ⟨p,0,none⟩)] 31)).alloc (.cells #[.int .i64 me] 3)).heap.size=w.heap.size+1+1:=by simp
 rw [e1] at b2
 rw [e2] at b3
 clear e1 e2
 generalize ((w.alloc (.cells #[.pointer (some ⟨p,0,none⟩)] 31)).alloc (.cells #[.int .i64 me] 3)).alloc (.cells #[.int .u8 o.kind,.int .i64 o.key,.int .i64 o.upto,.int .i64 o.value] 52)=w1 at b1 b2 b3 bb ⊢
 go_wp2_with (go_at_call 97;refine (Bt 98 #[.pointer (some ⟨w.heap.size,0,none⟩),.pointer (some ⟨w.heap.size+1,0,none⟩),.pointer (some ⟨w.heap.size+1+1,0,none⟩)] _).mono ?_;rintro e w2 ⟨tb,rfl,htb,hth,hbl⟩;have T0:=Am_ htb;have T1:=Am_ hth;have T2:=Am_ hbl;clear htb hth hbl)
 go_ret
 have l1:=bD b1.out
 have l2:=bD b2.out
 have l3:=bD b3.out
 have l4:=T0.out
 exact ⟨⟨tb,w.heap.size,w.heap.size+1,w.heap.size+1+1,rfl,by omega,by omega,by omega,by omega,by omega,by omega,by omega,T1.out,⟨⟨bF b1.out T2.out,id⟩,⟨bF b2.out T2.out,id⟩,⟨bF b3.out T2.out,id⟩⟩,aY bb.out bb.out.size T2.out⟩⟩
theorem xG {key:Int} {f:Nat} {s t:TS Ws} {a:Ans} (h:LP key f s=some (.ret a,t)):a.pairs= []:=by
 obtain ⟨o,t1,hm,hc⟩:=aD h
 rcases hc with ⟨_,hc⟩ | ⟨q,rfl,hc⟩
 ·injection hc with hc _;cases hc
 injection hc with hc
 injection hc with hc _
 injection hc with hc
 rw [←hc]
end Go.Proofs.YtmnjjdeaccgjlaaGreat.Tower
