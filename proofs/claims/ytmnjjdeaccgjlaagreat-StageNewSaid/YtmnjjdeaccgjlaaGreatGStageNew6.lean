/- Words and contracts that the claim stands on, part 7 of 7. -/
import Derived.Test.YtmnjjdeaccgjlaaGreatGStageNew0
import Derived.Test.YtmnjjdeaccgjlaaGreatGStageNew1
import Derived.Test.YtmnjjdeaccgjlaaGreatGStageNew2
import Derived.Test.YtmnjjdeaccgjlaaGreatGStageNew3
import Derived.Test.YtmnjjdeaccgjlaaGreatGStageNew4
import Derived.Test.YtmnjjdeaccgjlaaGreatGStageNew5
import Derived.Lib.AppendZerosOnto
import Derived.Lib.Overlaps
import Derived.Laws.CopyRow
import Derived.Laws.Externs
import Derived.Shelf.RegionOpenPlain
import Derived.Laws.CopyOwn
set_option linter.unusedSimpArgs false
set_option linter.unusedVariables false
set_option maxHeartbeats 8000000
set_option maxRecDepth 100000
namespace Go.Proofs.YtmnjjdeaccgjlaaGreat.Tower
open Go Go.RowKit Go.Proofs.YtmnjjdeaccgjlaaGreatW.PrintWords Go.Proofs.YtmnjjdeaccgjlaaGreatW.PrintLast Go.Proofs.YtmnjjdeaccgjlaaGreatW.PrintMore Go.Proofs.YtmnjjdeaccgjlaaGreat.Own
def za:Bool × List (List Nat × List Nat):=(true,[([],[]),([],[]),([],[]),([2],[2]),([3],[3]),([4],[4]),([5],[5]),([],[]),([6,7],[6,7]),([0,1,8],[0,1,8]),([],[]),([10,9,8,0,1,2,3,4,5,6,7,8,9,10],[9,10])])
def GJ:List Nat:= [0,0,0,4,12,28,60,0,252,511,0,2047]
theorem Cg:fq .any (opsOf Tryz.f167 6)=za:=by kernel_rfl
theorem wN:bA za.2 GJ=true:=by kernel_rfl
def vE:Bool × List (List Nat × List Nat):=(true,[([],[]),([0],[0]),([],[]),([2],[2]),([],[]),([3,4],[3,4]),([5],[5]),([1,6,5],[1,6]),([0,1,2,3,4,5,6,7],[]),([8,7,7,0,1,2,3,4,5,6,7],[7,8])])
def CU:List Nat:= [0,1,0,4,0,28,60,127,255,511]
theorem yE:fq .any (opsOf Tryz.f167 10)=vE:=by kernel_rfl
theorem tK:bA vE.2 CU=true:=by kernel_rfl
theorem xM (p tb:Nat) (work:Value) (me r:Int) (ok:Nat→Prop) (s:TS Ws) (w:World) (h:dN (shW p) tb work ok s w) (res:Out (Sn × Int) × TS Ws) (hr:loadT r s=some res):
  Calls Tryz.prog 167 #[eP tb p me,.int .i64 r] w (fQ (shW p) tb work (VSn w.heap.size) ok w res):=by
 have HTV:eP tb p me= .agg #[.pointer (some ⟨tb,0,none⟩),.pointer (some ⟨p,0,none⟩),.int .i64 me]:=rfl
 rw [HTV]
 unfold loadT at hr
 obtain ⟨o,t,hd,hcase⟩:=aD hr
 have HD:=Am_ hd
 have HCS:=Am_ hcase
 clear hd hcase
 have h0:=aH.enter (me:=me) h
 unfold fC at h0
 have HA:ak (fE p tb work me w.heap.size ok w r (w.heap.size+1) (w.heap.size+1+1) ok s (((w.alloc (.cells #[.pointer (some ⟨tb,0,none⟩),.pointer (some ⟨p,0,none⟩),.int .i64 me] 114)).alloc (.cells #[.int .i64 r] 45)).alloc (.cells #[.int .i64 0,.int .i64 0,.bool false,.bool false,.slice none 0 0,.slice none 0 0,.slice none 0 0,.slice none 0 0] 195))):=⟨{
  task:=(h0.alloc (.cells #[.int .i64 r] 45)).alloc (.cells #[.int .i64 0,.int .i64 0,.bool false,.bool false,.slice none 0 0,.slice none 0 0,.slice none 0 0,.slice none 0 0] 195)
  box_:=by
   have h1:=(Mine.new h0.lt (.cells #[.int .i64 r] 45)).alloc (.cells #[.int .i64 0,.int .i64 0,.bool false,.bool false,.slice none 0 0,.slice none 0 0,.slice none 0 0,.slice none 0 0] 195)
   simp only [World.size_alloc] at h1
   exact h1
  res:=by
   have h1:=Mine.new (h0.alloc (.cells #[.int .i64 r] 45)).lt (.cells #[.int .i64 0,.int .i64 0,.bool false,.bool false,.slice none 0 0,.slice none 0 0,.slice none 0 0,.slice none 0 0] 195)
   simp only [World.size_alloc] at h1
   exact h1 }⟩
 clear h h0 hr HTV
 go_enter Tryz.func167,Tryz.ntmps167
 go_upto_region 1 with fail
 generalize ((w.alloc (.cells #[.pointer (some ⟨tb,0,none⟩),.pointer (some ⟨p,0,none⟩),.int .i64 me] 114)).alloc (.cells #[.int .i64 r] 45)).alloc (.cells #[.int .i64 0,.int .i64 0,.bool false,.bool false,.slice none 0 0,.slice none 0 0,.slice none 0 0,.slice none 0 0] 195)=w1 at HA ⊢
 generalize hbb:w.heap.size=bt at HA ⊢
 have HW0:=Am_ hbb
 clear hbb
 generalize hbx:bt+1=bx at HA ⊢
 generalize hb4:bx+1=b4 at HA ⊢
 have HN4:ak (bt<bx∧bx<b4∧w.heap.size=bt):=⟨by have:=HW0.out;omega⟩
 clear hbx hb4 HW0
 have c0:=HA.out.task.c0
 have c1:=HA.out.task.c1
 have c2:=HA.out.task.c2
 have k0:=(af HA.out.box_.1 0).trans (rfl:_=some (Value.int .i64 r))
 go_upto_region 2 with (go_at_call 199;refine (nL p tb work me _ _ _ r HA.out.task.run (o,t) HD.out).mono ?_;rintro e wq ⟨okq,hm,hi,he⟩;rcases HCS.out with hw | hw;(obtain ⟨rfl,rfl⟩:=hw;obtain rfl:e= .panicked dx:=he;exact ⟨rfl,⟨⟨okq,HA.out.task.moves.trans hm,hi,rfl⟩⟩⟩);obtain ⟨first,rfl,hr2⟩:=hw;obtain ⟨_,rfl,rfl⟩:=he;clear k0;have HA:=Am_ (HA.out.next hm (HA.out.task.next hm hi));have HR2:=Am_ hr2;clear hm hi hr2 c0 c1 c2)
 have hr:=HR2.out
 clear HR2 HD HCS
 obtain ⟨o,t,hd,hcase⟩:=aD hr
 have HD:=Am_ hd
 have HCS:=Am_ hcase
 clear hd hcase
 clear hr
 have c0:=HA.out.task.c0
 have c1:=HA.out.task.c1
 have c2:=HA.out.task.c2
 have k0:=(af HA.out.box_.1 0).trans (rfl:_=some (Value.int .i64 r))
 go_upto_region 3 with (go_at_call 200;refine (kz p tb work me _ _ _ r HA.out.task.run (o,t) HD.out).mono ?_;rintro e wq ⟨okq,hm,hi,he⟩;rcases HCS.out with hw | hw;(obtain ⟨rfl,rfl⟩:=hw;obtain rfl:e= .panicked dx:=he;exact ⟨rfl,⟨⟨okq,HA.out.task.moves.trans hm,hi,rfl⟩⟩⟩);obtain ⟨n,rfl,hr2⟩:=hw;obtain ⟨_,rfl,rfl⟩:=he;clear k0;have HA:=Am_ (HA.out.next hm (HA.out.task.next hm hi));have HR2:=Am_ hr2;clear hm hi hr2 c0 c1 c2)
 have hr:=HR2.out
 clear HR2 HD HCS
 obtain ⟨o,t,hd,hcase⟩:=aD hr
 have HD:=Am_ hd
 have HCS:=Am_ hcase
 clear hd hcase
 clear hr
 have c0:=HA.out.task.c0
 have c1:=HA.out.task.c1
 have c2:=HA.out.task.c2
 go_upto_region 4 with (go_at_call 201;refine (jJ p tb work me _ _ _ n HA.out.task.run (o,t) HD.out).mono ?_;rintro e wq ⟨okq,hm,hi,he⟩;rcases HCS.out with hw | hw;(obtain ⟨rfl,rfl⟩:=hw;obtain rfl:e= .panicked dx:=he;exact ⟨rfl,⟨⟨okq,HA.out.task.moves.trans hm,hi,rfl⟩⟩⟩);obtain ⟨was,rfl,hr2⟩:=hw;obtain ⟨_,rfl,rfl⟩:=he;have HA:=Am_ (HA.out.next hm (HA.out.task.next hm hi));have HR2:=Am_ hr2;clear hm hi hr2 c0 c1 c2)
 have hr:=HR2.out
 clear HR2 HD HCS
 obtain ⟨o,t,hd,hcase⟩:=aD hr
 have HD:=Am_ hd
 have HCS:=Am_ hcase
 clear hd hcase
 clear hr
 have c0:=HA.out.task.c0
 have c1:=HA.out.task.c1
 have c2:=HA.out.task.c2
 have k0:=(af HA.out.box_.1 0).trans (rfl:_=some (Value.int .i64 r))
 go_upto_region 5 with (go_at_call 199;refine (nL p tb work me _ _ _ r HA.out.task.run (o,t) HD.out).mono ?_;rintro e wq ⟨okq,hm,hi,he⟩;rcases HCS.out with hw | hw;(obtain ⟨rfl,rfl⟩:=hw;obtain rfl:e= .panicked dx:=he;exact ⟨rfl,⟨⟨okq,HA.out.task.moves.trans hm,hi,rfl⟩⟩⟩);obtain ⟨second,rfl,hr2⟩:=hw;obtain ⟨_,rfl,rfl⟩:=he;clear k0;have HA:=Am_ (HA.out.next hm (HA.out.task.next hm hi));have HR2:=Am_ hr2;clear hm hi hr2 c0 c1 c2)
 have HL0:ak (uV p tb work me bt ok w r bx b4 (IE r n first (lF was second)) res wq):=⟨⟨_,_,HA.out,HR2.out⟩⟩
 clear HA HR2 HD HCS
 go_cut [35] from 8 (fun v35 wc=>v35= .bool (lF was second)∧ak (uV p tb work me bt ok w r bx b4 (IE r n first (lF was second)) res wc))
 case first=>
  have HLC:ak (lF was second=((was == 0) || ((was == 2) && !second))):=⟨rfl⟩
  cases e0:(was == 0)<;>cases e2:(was == 2)<;>cases second<;>(rw [e0,e2] at HLC;go_wp2_with fail;go_meet;first | (case rel=>exact ⟨by rw [HLC.out];rfl,HL0⟩) | exact ⟨by rw [HLC.out];rfl,HL0⟩)
 case rest=>
 obtain ⟨rfl,HL⟩:=hcut
 clear HL0
 generalize lF was second=c at HL ⊢
 go_upto_if 35 with fail
 go_cut [] from 8 (fun wc=>ak (uV p tb work me bt ok w r bx b4 (xL r n first) res wc))
 case first=>
  cases c with
  | false=>
   go_wp2_with fail
   go_meet
   case rel=>exact ⟨⟨HL.out.out⟩⟩
  | true=>
   obtain ⟨okc,s1,hA,hr⟩:=HL.out.out
   have hr:aU (qL r (s1.sh.ar.look r).1.ways.length 0 []) (lY r n first (s1.sh.ar.look r).1) { s1 with sh:= { s1.sh with ar:=(s1.sh.ar.look r).2 } }=some res:=hr
   have hsm:=(hA.task.run.good.ar.lH r).ways
   generalize hnd:(s1.sh.ar.look r).1=nd at hr hsm
   generalize hs2:({ s1 with sh:= { s1.sh with ar:=(s1.sh.ar.look r).2 } }:TS Ws)=s2 at hr
   have HA:=Am_ hA
   have HR:=Am_ hr
   have HND:=Am_ hnd
   have HS2:=Am_ hs2
   have HSM:=Am_ hsm
   clear hA hr hnd hs2 hsm HL
   go_upto_region 6 with fail
   go_cut [10] from 36 (fun v10 wc=> ∃ b10,v10= .pointer (some ⟨b10,0,none⟩)∧ak (w.heap.size≤b10∧b10≠bt∧b10≠bx∧b10≠b4)∧ak (yJ p tb work me bt ok w r n bx b4 b10 nd 0 (fun ws=>aU (qL r nd.ways.length 0 ws) (lY r n first nd)) res wc))
   case first=>
    obtain ⟨pA,hpA⟩:=HA.out.task.pA
    have HC:=Am_ (And.intro HA.out.task.c1 (And.intro hpA ((af HA.out.box_.1 0).trans (rfl:_=some (Value.int .i64 r)))))
    clear hpA
    refine bG (n:=12) (S:=fun w'=>w'.cell? ⟨bt,1,none⟩=some (.pointer (some ⟨p,0,none⟩))∧w'.cell? ⟨p,0,none⟩=some (.pointer (some ⟨pA,0,none⟩))∧w'.cell? ⟨bx,0,none⟩=some (.int .i64 r)) (ds:= [11]) (by kernel_rfl) rfl Cg wN HC.out (fun hHeld HT_ HW_=>?_)
    have HA:=Am_ HA.out.drew
    clear HC
    generalize World.drew _=w1 at HA hHeld ⊢
    refine eO [(0,some 36),(1,some 37),(2,some 38),(3,some 39),(4,some 40),(5,some 41),(6,some 42),(7,some 43)] ?_
    iterate 8 (refine iW (v:=?_) (a':=?_) HT_ HW_ (by kernel_rfl) rfl rfl (fun _ _ _ h=>h) hHeld (Or.inl ⟨by rfl,?_⟩) ?_ ?_;rotate_left;(rintro w' ⟨s0,s1,s2⟩;go_simp;with_reducible rfl);rotate_left;(simp only [Act.put,p1_,p2_,p3_,ax,ay];rfl))
    refine aZ ?_
    refine Fe (i:=8) (j:=10) (Ni:=some 44) (Nj:=some 10) #[Y_,Y_,Y_,Y_,Y_,Y_,Y_,Y_,Y_,N_,N_,N_] #[Y_,Y_,Y_,Y_,Y_,Y_,Y_,Y_,N_,N_,Y_,N_] rfl rfl rfl rfl (by kernel_rfl) (fun K_ hK=>?_) (fun K_ hK=>?_)
    ·refine call_ 126 #[.pointer (some ⟨pA,0,none⟩),.int .i64 r] (by rfl) rfl ?hk8 ?_
     (case hk8=>first | (go_simp;done) | (go_simp;exact enters Tryz.func126 (by kernel_rfl) rfl _ _))
     refine (HA.out.task.Ga hHeld.2.1 HND.out HS2.out).mono ?_
     rintro e w2 hE
     obtain ⟨Ap,cp,Ak,ck,Ay,cy,ok1,rfl,hrows,ht,hm,hc⟩:=hE.out
     refine ⟨_,rfl,?_⟩
     have hHeld:(_∧_∧_):=⟨ht.c1,hc,(af (HA.out.box_.moves hm).1 0).trans (rfl:_=some (Value.int .i64 r))⟩
     refine hK.out _ _ (fun _ _=>hHeld) ?_
     clear hK K_
     refine bK (a':=?_) ?_ ?_
     rotate_left; · show Act.put _ (some 44) _=_;simp only [Act.put,p1_,p2_,p3_,ax,ay];rfl
     refine eO [(9,some 45)] ?_
     (refine dZ (v:=?_) (a':=?_) HT_ (by kernel_rfl) rfl rfl (fun _ _ _ h=>h) (Or.inl ⟨by rfl,?_⟩) ?_ ?_;rotate_left;(intro w';go_simp;with_reducible rfl);rotate_left;(simp only [Act.put,p1_,p2_,p3_,ax,ay];rfl))
     refine aZ ?_
     refine dR (i:=10) (some 10) HT_ (by kernel_rfl) rfl rfl (by decide) (fun K_ hK=>?_)
     refine fT (v:= .pointer (some ⟨w2.heap.size,0,none⟩)) (w1:=w2.alloc (.cells #[.int .i64 0,.int .i64 0,.bool false,.bool false,.slice none 0 0,.slice none 0 0,.slice none 0 0,.slice none 0 0] 195)) (by rfl) rfl ?ha10 ?_
     (case ha10=>go_simp;first | done | rfl)
     refine hK.out _ _ ⟨aj (ai (Below.refl _ _) _) hHeld.1,aj (ai (Below.refl _ _) _) hHeld.2.1,aj (ai (Below.refl _ _) _) hHeld.2.2⟩ (fun hHeld=>?_)
     clear hK K_
     refine bK (a':=?_) ?_ ?_
     rotate_left; · show Act.put _ (some 10) _=_;simp only [Act.put,p1_,p2_,p3_,ax,ay];rfl
     have HA2:=Am_ (HA.out.next hm ht)
     have HA3:=Am_ (HA2.out.alloc (.cells #[.int .i64 0,.int .i64 0,.bool false,.bool false,.slice none 0 0,.slice none 0 0,.slice none 0 0,.slice none 0 0] 195))
     have HB:=Am_ (Mine.new ht.lt (.cells #[.int .i64 0,.int .i64 0,.bool false,.bool false,.slice none 0 0,.slice none 0 0,.slice none 0 0,.slice none 0 0] 195))
     have HNE:ak (w.heap.size≤w2.heap.size∧w2.heap.size≠bt∧w2.heap.size≠bx∧w2.heap.size≠b4):=⟨by have:=ht.moves.size;have:=ht.box.lt;have:=HA2.out.box_.lt;have:=HA2.out.res.lt;omega⟩
     have hN:=HA.out.task.moves.size
     have hl1:=HA.out.task.box.lt
     have hl2:=HA.out.box_.lt
     have hl3:=HA.out.res.lt
     obtain ⟨h1,h2,h3⟩:=hrows [bt,bx,b4,w2.heap.size] (by intro q hq;simp only [List.mem_cons,List.not_mem_nil,or_false] at hq;omega) w.heap.size hN
     have HRW:=Am_ (And.intro (Kd.dL h1 (.cells #[.int .i64 0,.int .i64 0,.bool false,.bool false,.slice none 0 0,.slice none 0 0,.slice none 0 0,.slice none 0 0] 195)) (And.intro (Kd.dL h2 (.cells #[.int .i64 0,.int .i64 0,.bool false,.bool false,.slice none 0 0,.slice none 0 0,.slice none 0 0,.slice none 0 0] 195)) (Kd.dL h3 (.cells #[.int .i64 0,.int .i64 0,.bool false,.bool false,.slice none 0 0,.slice none 0 0,.slice none 0 0,.slice none 0 0] 195))))
     clear h1 h2 h3 hN hl1 hl2 hl3 HA HA2 hHeld hE hrows ht hm hc
     generalize w2.alloc (.cells #[.int .i64 0,.int .i64 0,.bool false,.bool false,.slice none 0 0,.slice none 0 0,.slice none 0 0,.slice none 0 0] 195)=w3 at HA3 HB HRW ⊢
     generalize w2.heap.size=b10 at HB HNE HRW ⊢
     refine bP (i:=11) none HT_ (by kernel_rfl) rfl rfl (by decide) (fun K_ hK=>?_)
     refine fB (w1:=w3.setCells b10 0 [.int .i64 r,.int .i64 n,.bool nd.inner,.bool nd.tagged,.slice Ap nd.pairs.length cp,.slice Ak nd.keys.length ck,.slice Ay nd.ways.length cy,.slice none 0 0]) (by rfl) rfl ?_ ?_
     ·exact gq _ [.int .i64 r,.int .i64 n,.bool nd.inner,.bool nd.tagged,.slice Ap nd.pairs.length cp,.slice Ak nd.keys.length ck,.slice Ay nd.ways.length cy,.slice none 0 0] rfl (by rfl) (by rfl) HB.out.1 rfl (by kernel_rfl) (by simp) (by intro u hu;simp only [List.mem_cons,List.not_mem_nil,or_false] at hu;rcases hu with rfl | rfl | rfl | rfl | rfl | rfl | rfl | rfl<;>rfl)
     refine hK.out _ _ ?_
     clear hK K_
     have HL:=Am_ (yJ.mk (p:=p) (tb:=tb) (work:=work) (me:=me) (bt:=bt) (ok:=ok) (w:=w) (r:=r) (n:=n) (bx:=bx) (b4:=b4) (b10:=b10) (nd:=nd) (j:=0) (rest:=fun ws=>aU (qL r nd.ways.length 0 ws) (lY r n first nd)) (res:=res) (wc:=w3.setCells b10 0 [.int .i64 r,.int .i64 n,.bool nd.inner,.bool nd.tagged,.slice Ap nd.pairs.length cp,.slice Ak nd.keys.length ck,.slice Ay nd.ways.length cy,.slice none 0 0]) ⟨ok1,s2,Ap,cp,Ak,ck,Ay,cy,none,0,[],HA3.out.setCells HB.out.2 HNE.out.1 HNE.out.2.1 HNE.out.2.2.1 HNE.out.2.2.2 _,lm.start HRW.out.1 HRW.out.2.1 HRW.out.2.2 HB.out rfl (by simp),rfl,HR.out⟩)
     clear HA3 HB HRW
     generalize w3.setCells b10 0 [.int .i64 r,.int .i64 n,.bool nd.inner,.bool nd.tagged,.slice Ap nd.pairs.length cp,.slice Ak nd.keys.length ck,.slice Ay nd.ways.length cy,.slice none 0 0]=w4 at HL ⊢
     refine dD (by kernel_rfl) ?_
     go_wp2_with fail
     go_meet
     case rel=>exact ⟨b10,rfl,HNE,HL⟩
    ·refine fT (v:= .pointer (some ⟨w1.heap.size,0,none⟩)) (w1:=w1.alloc (.cells #[.int .i64 0,.int .i64 0,.bool false,.bool false,.slice none 0 0,.slice none 0 0,.slice none 0 0,.slice none 0 0] 195)) (by rfl) rfl ?hb10 ?_
     (case hb10=>go_simp;first | done | rfl)
     refine hK.out _ _ (fun _ hS=>⟨aj (ai (Below.refl _ _) _) hS.1,aj (ai (Below.refl _ _) _) hS.2.1,aj (ai (Below.refl _ _) _) hS.2.2⟩) ?_
     clear hK K_
     refine bK (a':=?_) ?_ ?_
     rotate_left; · show Act.put _ (some 10) _=_;simp only [Act.put,p1_,p2_,p3_,ax,ay];rfl
     have HB:=Am_ (Mine.new HA.out.task.lt (.cells #[.int .i64 0,.int .i64 0,.bool false,.bool false,.slice none 0 0,.slice none 0 0,.slice none 0 0,.slice none 0 0] 195))
     have HNE:ak (w.heap.size≤w1.heap.size∧w1.heap.size≠bt∧w1.heap.size≠bx∧w1.heap.size≠b4):=⟨by have:=HA.out.task.moves.size;have:=HA.out.task.box.lt;have:=HA.out.box_.lt;have:=HA.out.res.lt;omega⟩
     have HA:=Am_ (HA.out.alloc (.cells #[.int .i64 0,.int .i64 0,.bool false,.bool false,.slice none 0 0,.slice none 0 0,.slice none 0 0,.slice none 0 0] 195))
     have hHeld:(_∧_∧_):=⟨aj (ai (Below.refl _ _) (.cells #[.int .i64 0,.int .i64 0,.bool false,.bool false,.slice none 0 0,.slice none 0 0,.slice none 0 0,.slice none 0 0] 195)) hHeld.1,aj (ai (Below.refl _ _) (.cells #[.int .i64 0,.int .i64 0,.bool false,.bool false,.slice none 0 0,.slice none 0 0,.slice none 0 0,.slice none 0 0] 195)) hHeld.2.1,aj (ai (Below.refl _ _) (.cells #[.int .i64 0,.int .i64 0,.bool false,.bool false,.slice none 0 0,.slice none 0 0,.slice none 0 0,.slice none 0 0] 195)) hHeld.2.2⟩
     generalize w1.alloc (.cells #[.int .i64 0,.int .i64 0,.bool false,.bool false,.slice none 0 0,.slice none 0 0,.slice none 0 0,.slice none 0 0] 195)=w2 at HB HA hHeld ⊢
     generalize w1.heap.size=b10 at HB HNE ⊢
     refine dR (i:=8) (some 44) HT_ (by kernel_rfl) rfl rfl (by decide) (fun K_ hK=>?_)
     refine call_ 126 #[.pointer (some ⟨pA,0,none⟩),.int .i64 r] (by rfl) rfl ?hk8 ?_
     (case hk8=>first | (go_simp;done) | (go_simp;exact enters Tryz.func126 (by kernel_rfl) rfl _ _))
     refine (HA.out.task.Ga hHeld.2.1 HND.out HS2.out).mono ?_
     rintro e w3 hE
     obtain ⟨Ap,cp,Ak,ck,Ay,cy,ok1,rfl,hrows,ht,hm,hc⟩:=hE.out
     refine ⟨_,rfl,?_⟩
     refine hK.out _ _ ⟨ht.c1,hc,(af (HA.out.box_.moves hm).1 0).trans (rfl:_=some (Value.int .i64 r))⟩ (fun hHeld=>?_)
     clear hK K_
     refine bK (a':=?_) ?_ ?_
     rotate_left; · show Act.put _ (some 44) _=_;simp only [Act.put,p1_,p2_,p3_,ax,ay];rfl
     refine eO [(9,some 45)] ?_
     (refine dZ (v:=?_) (a':=?_) HT_ (by kernel_rfl) rfl rfl (fun _ _ _ h=>h) (Or.inl ⟨by rfl,?_⟩) ?_ ?_;rotate_left;(intro w';go_simp;with_reducible rfl);rotate_left;(simp only [Act.put,p1_,p2_,p3_,ax,ay];rfl))
     refine aZ ?_
     have hN:=HA.out.task.moves.size
     have hl1:=HA.out.task.box.lt
     have hl2:=HA.out.box_.lt
     have hl3:=HA.out.res.lt
     have hl4:=HB.out.lt
     obtain ⟨h1,h2,h3⟩:=hrows [bt,bx,b4,b10] (by intro q hq;simp only [List.mem_cons,List.not_mem_nil,or_false] at hq;omega) w.heap.size hN
     have HRW:=Am_ (And.intro h1 (And.intro h2 h3))
     have HA3:=Am_ (HA.out.next hm ht)
     have HB:=Am_ (HB.out.moves hm)
     clear h1 h2 h3 hN hl1 hl2 hl3 hl4 HA hHeld hE hrows ht hm hc
     refine bP (i:=11) none HT_ (by kernel_rfl) rfl rfl (by decide) (fun K_ hK=>?_)
     refine fB (w1:=w3.setCells b10 0 [.int .i64 r,.int .i64 n,.bool nd.inner,.bool nd.tagged,.slice Ap nd.pairs.length cp,.slice Ak nd.keys.length ck,.slice Ay nd.ways.length cy,.slice none 0 0]) (by rfl) rfl ?_ ?_
     ·exact gq _ [.int .i64 r,.int .i64 n,.bool nd.inner,.bool nd.tagged,.slice Ap nd.pairs.length cp,.slice Ak nd.keys.length ck,.slice Ay nd.ways.length cy,.slice none 0 0] rfl (by rfl) (by rfl) HB.out.1 rfl (by kernel_rfl) (by simp) (by intro u hu;simp only [List.mem_cons,List.not_mem_nil,or_false] at hu;rcases hu with rfl | rfl | rfl | rfl | rfl | rfl | rfl | rfl<;>rfl)
     refine hK.out _ _ ?_
     clear hK K_
     have HL:=Am_ (yJ.mk (p:=p) (tb:=tb) (work:=work) (me:=me) (bt:=bt) (ok:=ok) (w:=w) (r:=r) (n:=n) (bx:=bx) (b4:=b4) (b10:=b10) (nd:=nd) (j:=0) (rest:=fun ws=>aU (qL r nd.ways.length 0 ws) (lY r n first nd)) (res:=res) (wc:=w3.setCells b10 0 [.int .i64 r,.int .i64 n,.bool nd.inner,.bool nd.tagged,.slice Ap nd.pairs.length cp,.slice Ak nd.keys.length ck,.slice Ay nd.ways.length cy,.slice none 0 0]) ⟨ok1,s2,Ap,cp,Ak,ck,Ay,cy,none,0,[],HA3.out.setCells HB.out.2 HNE.out.1 HNE.out.2.1 HNE.out.2.2.1 HNE.out.2.2.2 _,lm.start HRW.out.1 HRW.out.2.1 HRW.out.2.2 HB.out rfl (by simp),rfl,HR.out⟩)
     clear HA3 HB HRW
     generalize w3.setCells b10 0 [.int .i64 r,.int .i64 n,.bool nd.inner,.bool nd.tagged,.slice Ap nd.pairs.length cp,.slice Ak nd.keys.length ck,.slice Ay nd.ways.length cy,.slice none 0 0]=w4 at HL ⊢
     refine dD (by kernel_rfl) ?_
     go_wp2_with fail
     go_meet
     case rel=>exact ⟨b10,rfl,HNE,HL⟩
   case rest=>
   obtain ⟨b10,rfl,HNE,HI⟩:=hcut
   clear HA HR HND HS2
   obtain ⟨okc,s3,Ap,cp,Ak,ck,Ay,cy,Aw,cw,ws,hA,hS,hws,hr⟩:=HI.out.out
   have y6:=(af hS.box.1 6).trans (rfl:_=some (Value.slice Ay nd.ways.length cy))
   clear hA hS hr hws
   go_upto_block 0 with fail
   clear y6
   go_wp2_with fail
   go_loopg [51] nd.ways.length (fun g v51 wr=> ∃ k:Nat,v51= .int .i64 k∧k+g=nd.ways.length∧ak (yJ p tb work me bt ok w r n bx b4 b10 nd k (fun ws=>aU (qL r (nd.ways.length - k) k ws) (lY r n first nd)) res wr))
   case atStart=>exact ⟨0,rfl,by omega,HI⟩
   case round=>
    obtain ⟨k,rfl,hkg,HQ⟩:=hrel
    clear HI
    obtain ⟨okc,s3,Ap,cp,Ak,ck,Ay,cy,Aw,cw,ws,hA,hS,hws,hr⟩:=HQ.out.out
    clear HQ
    cases gk with
    | zero=>
     have hk:nd.ways.length - k=0:=by omega
     have d1:decide ((k:Int)<(nd.ways.length:Int))=false:=decide_eq_false (by omega)
     have d2:decide (k<nd.ways.length)=false:=decide_eq_false (by omega)
     rw [hk] at hr
     have hr:aU (qo r) (fun m=>if m=n then dS (⟨r,n,nd,ws⟩,0) else xL r n first) s3=some res:=hr
     have HA:=Am_ hA
     have HSN:=Am_ hS
     obtain ⟨o,t,hd,hcase⟩:=aD hr
     have HD:=Am_ hd
     have HCS:=Am_ hcase
     clear hd hcase
     clear hr hA hS hk hws
     have c0:=HA.out.task.c0
     have c1:=HA.out.task.c1
     have c2:=HA.out.task.c2
     have k0:=(af HA.out.box_.1 0).trans (rfl:_=some (Value.int .i64 r))
     go_upto_if 68 with (go_at_call 200;refine (kz p tb work me _ _ _ r HA.out.task.run (o,t) HD.out).mono ?_;rintro e wq ⟨okq,hm,hi,he⟩;rcases HCS.out with hw | hw;(obtain ⟨rfl,rfl⟩:=hw;obtain rfl:e= .panicked dx:=he;exact ⟨rfl,⟨⟨okq,HA.out.task.moves.trans hm,hi,rfl⟩⟩⟩);obtain ⟨m,rfl,hr2⟩:=hw;obtain ⟨_,rfl,rfl⟩:=he;clear k0;have HA:=Am_ (HA.out.next hm (HA.out.task.next hm hi));have HSN:=Am_ (HSN.out.moves hm);have HR2:=Am_ hr2;clear hm hi hr2 c0 c1 c2)
     have HR4:=Am_ HR2.out
     clear HR2 HD HCS d1 d2
     by_cases hmn:m=n
     ·have e1:(m == n)=true:=by simp [hmn]
      have HR3:ak (dS (⟨r,n,nd,ws⟩,0) t=some res):=⟨by have h:=HR4.out;rw [if_pos hmn] at h;exact h⟩
      clear hmn HR4
      have x0:=(af HA.out.res.1 0).trans (rfl:_=some (Value.int .i64 0))
      have z0:=ah HA.out.res.1 0
      have x1:=(af HA.out.res.1 1).trans (rfl:_=some (Value.int .i64 0))
      have z1:=ah HA.out.res.1 1
      have x2:=(af HA.out.res.1 2).trans (rfl:_=some (Value.bool false))
      have z2:=ah HA.out.res.1 2
      have x3:=(af HA.out.res.1 3).trans (rfl:_=some (Value.bool false))
      have z3:=ah HA.out.res.1 3
      have x4:=(af HA.out.res.1 4).trans (rfl:_=some (Value.slice none 0 0))
      have z4:=ah HA.out.res.1 4
      have x5:=(af HA.out.res.1 5).trans (rfl:_=some (Value.slice none 0 0))
      have z5:=ah HA.out.res.1 5
      have x6:=(af HA.out.res.1 6).trans (rfl:_=some (Value.slice none 0 0))
      have z6:=ah HA.out.res.1 6
      have x7:=(af HA.out.res.1 7).trans (rfl:_=some (Value.slice none 0 0))
      have z7:=ah HA.out.res.1 7
      have y0:=(af HSN.out.box.1 0).trans (rfl:_=some (Value.int .i64 r))
      have y1:=(af HSN.out.box.1 1).trans (rfl:_=some (Value.int .i64 n))
      have y2:=(af HSN.out.box.1 2).trans (rfl:_=some (Value.bool nd.inner))
      have y3:=(af HSN.out.box.1 3).trans (rfl:_=some (Value.bool nd.tagged))
      have y4:=(af HSN.out.box.1 4).trans (rfl:_=some (Value.slice Ap nd.pairs.length cp))
      have y5:=(af HSN.out.box.1 5).trans (rfl:_=some (Value.slice Ak nd.keys.length ck))
      have y6:=(af HSN.out.box.1 6).trans (rfl:_=some (Value.slice Ay nd.ways.length cy))
      have y7:=(af HSN.out.box.1 7).trans (rfl:_=some (Value.slice Aw ws.length cw))
      go_wp2_with fail
      (try simp only [Exit.inBlock,Exit.then])
      show bodyPost _ _ _ _ _ (sets _ b4 [(0,.int .i64 r),(1,.int .i64 n),(2,.bool nd.inner),(3,.bool nd.tagged),(4,.slice Ap nd.pairs.length cp),(5,.slice Ak nd.keys.length ck),(6,.slice Ay nd.ways.length cy),(7,.slice Aw ws.length cw)])
      refine bodyPost_ret (dW (rs:= [.cell 4 195,.tmp 5]) rfl (by simp) (.cell b4 195 _ (0,0) _ rfl (HA.out.res.sets [(0,.int .i64 r),(1,.int .i64 n),(2,.bool nd.inner),(3,.bool nd.tagged),(4,.slice Ap nd.pairs.length cp),(5,.slice Ak nd.keys.length ck),(6,.slice Ay nd.ways.length cy),(7,.slice Aw ws.length cw)]).1 Tryz.underlying195 rfl (by kernel_rfl) (.tmp .nil))) rfl ?_
      obtain rfl:res=(.ret (⟨r,n,nd,ws⟩,0),_):=by have h:=HR3.out;injection h with h;exact h.symm
      exact ⟨⟨_,fO (b:=b4) (.inr (by have:=HN4.out;omega)) _ HA.out.task.moves,HA.out.task.run.step (aX p) (by rw [gW];exact Nat.le_refl _) (fun k hk _=>dI (b:=b4) (fun e=>HA.out.res.2 (e▸hk)) _ _),_,rfl,_,rfl,HSN.out.kSn b4 (by simp) (fun k hk=>dI (b:=b4) hk _ _)⟩⟩
     ·have e1:(m == n)=false:=by simpa using hmn
      have HR3:ak (xL r n first t=some res):=⟨by have h:=HR4.out;rw [if_neg hmn] at h;exact h⟩
      clear hmn HR4 HSN
      go_wp2_with fail
      go_meet
      case rel=>exact ⟨⟨_,_,HA.out,HR3.out⟩⟩
    | succ g=>
     have d1:decide ((k:Int)<(nd.ways.length:Int))=true:=decide_eq_true (by omega)
     have d2:decide (k<nd.ways.length)=true:=decide_eq_true (by omega)
     have hw1:wrap64 ((k:Int)+1)=((k+1:Nat):Int):=by have:=HSM.out;unfold wrap64;omega
     have HW1:=Am_ hw1
     have hk:nd.ways.length - k=nd.ways.length - (k+1)+1:=by omega
     rw [hk] at hr
     have hr:aU (aU (JI r (k:Int)) fun x=>qL r (nd.ways.length - (k+1)) (k+1) (ws++ [x])) (lY r n first nd) s3=some res:=hr
     have HSN:=Am_ (hS.moves ((Moves.refl _ _).alloc (.cells #[.int .i64 (k:Int)] 3)))
     have HA:=Am_ (hA.alloc (.cells #[.int .i64 (k:Int)] 3))
     have HBI:=Am_ (Mine.new hA.task.lt (.cells #[.int .i64 (k:Int)] 3))
     have HWS:=Am_ hws
     obtain ⟨o,t,hd,hcase⟩:=aD (fK hr)
     have HD:=Am_ hd
     have HCS:=Am_ hcase
     clear hd hcase
     clear hr hA hS hk hws hw1
     go_upto_region 10 with fail
     generalize wr.alloc (.cells #[.int .i64 (k:Int)] 3)=w3 at HA HSN HBI ⊢
     generalize wr.heap.size=bi at HBI ⊢
     refine bG (n:=10) (S:=fun w'=>w'.cell? ⟨b10,7,none⟩=some (.slice Aw ws.length cw)∧w'.cell? ⟨bt,0,none⟩=some (.pointer (some ⟨tb,0,none⟩))) (ds:= [9]) (by kernel_rfl) rfl yE tK ⟨(af HSN.out.box.1 7).trans rfl,HA.out.task.c0⟩ (fun hHeld HT_ HW_=>?_)
     have HA:=Am_ HA.out.drew
     have HSN:=Am_ (HSN.out.moves (Moves.drew (Moves.refl _ _)))
     have HBI:=Am_ (HBI.out.moves (Moves.drew (Moves.refl _ _)))
     generalize World.drew _=w5 at HA HSN HBI hHeld ⊢
     refine eO [(0,some 54),(1,some 55),(2,some 56),(3,some 57),(4,some 58)] ?_
     (refine dZ (v:=?_) (a':=?_) HT_ (by kernel_rfl) rfl rfl (fun _ _ _ h=>h) (Or.inl ⟨by rfl,?_⟩) ?_ ?_;rotate_left;(intro w';go_simp;with_reducible rfl);rotate_left;(simp only [Act.put,p1_,p2_,p3_,ax,ay];rfl))
     iterate 4 (refine iW (v:=?_) (a':=?_) HT_ HW_ (by kernel_rfl) rfl rfl (fun _ _ _ h=>h) hHeld (Or.inl ⟨by rfl,?_⟩) ?_ ?_;rotate_left;(rintro w' ⟨s0,s1⟩;go_simp;with_reducible rfl);rotate_left;(simp only [Act.put,p1_,p2_,p3_,ax,ay];rfl))
     refine aZ ?_
     refine dR (i:=5) (some 59) HT_ (by kernel_rfl) rfl rfl (by decide) (fun K_ hK=>?_)
     refine kJ 137 #[.pointer (some ⟨tb,0,none⟩),.func (.func 202) #[] #[.pointer (some ⟨bt,0,none⟩),.pointer (some ⟨bx,0,none⟩),.pointer (some ⟨bi,0,none⟩)]] (by rfl) rfl ?hrun5 ?_
     (case hrun5=>first | (go_simp;done) | (go_simp;exact enters Tryz.func137 (by kernel_rfl) rfl _ _))
     refine (HA.out.task.load_ HA.out.box_ HBI.out HD.out).mono ?_
     rintro e wq ⟨⟨okq,hm,hT,he⟩⟩
     rcases HCS.out with hw | hw
     ·obtain ⟨rfl,rfl⟩:=hw
      obtain rfl:e= .panicked dx:=he
      exact .inr ⟨dx,rfl,rfl,⟨⟨okq,hT.moves,hT.run,rfl⟩⟩⟩
     obtain ⟨a1,rfl,hr2⟩:=hw
     obtain rfl:e= .returned (.int .i64 a1):=he
     refine .inl ⟨.int .i64 a1,rfl,?_⟩
     have HA:=Am_ (HA.out.next hm hT)
     have HSN:=Am_ (HSN.out.moves hm)
     have HR2:=Am_ hr2
     clear hm hT hr2 HBI
     refine hK.out _ _ ⟨(af HSN.out.box.1 7).trans rfl,HA.out.task.c0⟩ (fun hHeld=>?_)
     clear hK K_
     refine bK (a':=?_) ?_ ?_
     rotate_left; · show Act.put _ (some 59) _=_;simp only [Act.put,p1_,p2_,p3_,ax,ay];rfl
     refine dR (i:=6) (some 60) HT_ (by kernel_rfl) rfl rfl (by decide) (fun K_ hK=>?_)
     refine fT (v:= .slice (some ⟨wq.heap.size,0,none⟩) 1 1) (w1:=wq.alloc (.cells #[.int .i64 a1] 45)) (by rfl) rfl ?hbs ?_
     (case hbs=>go_simp;first | done | rfl)
     refine hK.out _ _ ⟨aj (ai (Below.refl _ _) _) hHeld.1,aj (ai (Below.refl _ _) _) hHeld.2⟩ (fun hHeld=>?_)
     clear hK K_
     refine bK (a':=?_) ?_ ?_
     rotate_left; · show Act.put _ (some 60) _=_;simp only [Act.put,p1_,p2_,p3_,ax,ay];rfl
     refine dR (i:=7) (some 61) HT_ (by kernel_rfl) rfl rfl (by decide) (fun K_ hK=>?_)
     have hlq:=HA.out.task.lt
     have hl1:=HA.out.task.box.lt
     have hl2:=HA.out.box_.lt
     have hl3:=HA.out.res.lt
     have hl4:=HSN.out.box.lt
     refine Kd.iA (Kd.int .i64) (w0:=wq) w.heap.size (by rfl) (.tmp 55) (.tmp 60) 153 45 (.int .i64 0) 8 rfl Tryz.underlying153 nH rfl (by decide) (by decide) (.slice Aw ws.length cw) ws a1 [.int .i64 a1] (Fr okq (fun q=>q∉ [bt,bx,b4,b10])) (fun _=>False) rfl rfl rfl (fun _ hk=>hk.elim) (fun k hk=>⟨fun h=>by have:=hlq k h;omega,fun h=>by simp only [List.mem_cons,List.not_mem_nil,or_false] at h;omega⟩) HSN.out.row (Below.refl _ _) HA.out.task.moves.size (by have:=HWS.out;have:=HSM.out;omega) ?_
     intro v7 w7 ho hb7 hg hat
     obtain ⟨A7,c7,rfl⟩:=Kd.aJ ho
     have hrow: ∀ k,(Value.slice Aw ws.length cw).ownBlock=some k→ ¬ okq k∧w.heap.size≤k∧k≠bt∧k≠bx∧k≠b4:=fun k e=>by
      have h1:=(Kd.bL HSN.out.row).1 k e
      have h2:=h1.1.2
      simp only [List.mem_cons,List.not_mem_nil,or_false] at h2
      exact ⟨h1.1.1,h1.2.1,by omega,by omega,by omega⟩
     have hne:some b10≠(Value.slice Aw ws.length cw).ownBlock:=fun e=>by have:=(HSN.out.row.1 b10 e.symm).2;simp at this
     have z7:w7.frozen? ⟨b10,7,none⟩=false:=ah (bJ HSN.out.box.1 hg hne) 7
     have k7:=(af (bJ HSN.out.box.1 hg hne) 7).trans (rfl:_=some (Value.slice Aw ws.length cw))
     have HA7:=Am_ (HA.out.grown hg hrow)
     have HSN8:=Am_ (HSN.out.push (by simp) ho hg hat)
     have HA8:=Am_ (HA7.out.set (q:=⟨b10,7,none⟩) HSN.out.box.2 HNE.out.1 HNE.out.2.1 HNE.out.2.2.1 HNE.out.2.2.2 (.slice A7 (ws++ [a1]).length c7))
     have HLN:ak ((ws++ [a1]).length=k+1):=⟨by rw [List.length_append,List.length_singleton,HWS.out]⟩
     have hHeld:(_∧_):=And.intro k7 HA7.out.task.c0
     clear ho hb7 hg hat hrow hne hlq hl1 hl2 hl3 hl4 HA HSN HA7
     refine hK.out _ _ hHeld (fun hHeld=>?_)
     clear hK K_
     refine bK (a':=?_) ?_ ?_
     rotate_left; · show Act.put _ (some 61) _=_;simp only [Act.put,p1_,p2_,p3_,ax,ay];rfl
     refine eO [(8,some 62)] ?_
     (refine dZ (v:=?_) (a':=?_) HT_ (by kernel_rfl) rfl rfl (fun _ _ _ h=>h) (Or.inl ⟨by rfl,?_⟩) ?_ ?_;rotate_left;(intro w';go_simp;with_reducible rfl);rotate_left;(simp only [Act.put,p1_,p2_,p3_,ax,ay];rfl))
     refine aZ ?_
     refine bP (i:=9) none HT_ (by kernel_rfl) rfl rfl (by decide) (fun K_ hK=>?_)
     refine fB (w1:=?_) (by rfl) rfl ?_ ?_
     rotate_left; · go_simp;rfl
     refine hK.out _ _ ?_
     clear hK K_
     rw [show (ws++ [a1]).length=ws.length+1 by simp] at HA8 HSN8
     generalize w7.setCell ⟨b10,7,none⟩ (.slice A7 (ws.length+1) c7)=w8 at HA8 HSN8 ⊢
     have HL:=Am_ (yJ.mk (p:=p) (tb:=tb) (work:=work) (me:=me) (bt:=bt) (ok:=ok) (w:=w) (r:=r) (n:=n) (bx:=bx) (b4:=b4) (b10:=b10) (nd:=nd) (j:=k+1) (rest:=fun ws=>aU (qL r (nd.ways.length - (k+1)) (k+1) ws) (lY r n first nd)) (res:=res) ⟨_,_,_,_,_,_,_,_,_,_,_,HA8.out,HSN8.out,HLN.out,HR2.out⟩)
     clear HA8 HSN8 HR2 HLN z7 k7
     refine dD (bI HT_.out (by kernel_rfl)) ?_
     go_wp2_with fail
     go_roundg g
     case rel=>exact ⟨k+1,by first | rfl | rw [HW1.out],by omega,HL⟩
     case measure=>omega
 case rest=>
 clear HL
 obtain ⟨okc,s1,hA,hr⟩:=hcut.out.out
 have HA:=Am_ hA
 clear hA hcut
 unfold xL at hr
 obtain ⟨o,t,hd,hcase⟩:=aD hr
 have HD:=Am_ hd
 have HCS:=Am_ hcase
 clear hd hcase
 clear hr
 have c0:=HA.out.task.c0
 have c1:=HA.out.task.c1
 have c2:=HA.out.task.c2
 go_upto_region 15 with (go_at_call 201;refine (jJ p tb work me _ _ _ n HA.out.task.run (o,t) HD.out).mono ?_;rintro e wq ⟨okq,hm,hi,he⟩;rcases HCS.out with hw | hw;(obtain ⟨rfl,rfl⟩:=hw;obtain rfl:e= .panicked dx:=he;exact ⟨rfl,⟨⟨okq,HA.out.task.moves.trans hm,hi,rfl⟩⟩⟩);obtain ⟨now,rfl,hr2⟩:=hw;obtain ⟨_,rfl,rfl⟩:=he;have HA:=Am_ (HA.out.next hm (HA.out.task.next hm hi));have HR2:=Am_ hr2;clear hm hi hr2 c0 c1 c2)
 have HL2:ak (aU (nM n now) (uE r first) t=some res):=⟨HR2.out⟩
 clear HR2 HD HCS
 go_cut [86] from 12 (fun v86 wc=> ∃ b:Bool,v86= .bool (b && first)∧ak (uV p tb work me bt ok w r bx b4 (uE r first b) res wc))
 case first=>
  by_cases h2:now=2
  ·have e2:(now == 2)=true:=by simp [h2]
   have hr:uE r first true t=some res:=by
    have h:=HL2.out
    unfold nM at h
    rw [if_pos h2] at h
    exact h
   have HR3:=Am_ hr
   clear h2 hr HL2
   go_wp2_with fail
   go_meet
   case rel=>exact ⟨true,by cases first<;>rfl,⟨⟨_,_,HA.out,HR3.out⟩⟩⟩
  ·have e2:(now == 2)=false:=by simpa using h2
   by_cases h1:now=1
   ·have e1:(now == 1)=true:=by simp [h1]
    have hr:aU (qm n) (uE r first) t=some res:=by
     have h:=HL2.out
     unfold nM at h
     rw [if_neg h2,if_pos h1] at h
     exact h
    clear h1 h2 HL2
    obtain ⟨o,t,hd,hcase⟩:=aD hr
    have HD:=Am_ hd
    have HCS:=Am_ hcase
    clear hd hcase
    clear hr
    have c0:=HA.out.task.c0
    have c1:=HA.out.task.c1
    have c2:=HA.out.task.c2
    go_wp2_with fail
    refine (lC p tb work me n _ _ _ HA.out.task.run (o,t) HD.out).mono ?_
    rintro e wq ⟨okq,hm,hi,he⟩
    rcases HCS.out with hw | hw
    ·obtain ⟨rfl,rfl⟩:=hw
     obtain rfl:e= .panicked dx:=he
     exact ⟨rfl,⟨⟨okq,HA.out.task.moves.trans hm,hi,rfl⟩⟩⟩
    ·obtain ⟨b,rfl,hr2⟩:=hw
     obtain ⟨_,rfl,rfl⟩:=he
     have HA:=Am_ (HA.out.next hm (HA.out.task.next hm hi))
     have HR2:=Am_ hr2
     clear hm hi hr2 c0 c1 c2 HD HCS
     dsimp only
     cases b with
     | false=>
      go_wp2_with fail
      go_meet
      case rel=>exact ⟨false,rfl,⟨⟨_,_,HA.out,HR2.out⟩⟩⟩
     | true=>
      go_wp2_with fail
      go_meet
      case rel=>exact ⟨true,by cases first<;>rfl,⟨⟨_,_,HA.out,HR2.out⟩⟩⟩
   ·have e1:(now == 1)=false:=by simpa using h1
    have hr:uE r first false t=some res:=by
     have h:=HL2.out
     unfold nM at h
     rw [if_neg h2,if_neg h1] at h
     exact h
    have HR3:=Am_ hr
    clear h1 h2 hr HL2
    go_wp2_with fail
    go_meet
    case rel=>exact ⟨false,rfl,⟨⟨_,_,HA.out,HR3.out⟩⟩⟩
 case rest=>
 obtain ⟨b,rfl,HL⟩:=hcut
 clear HA HL2
 obtain ⟨okc2,s2,hA,hr⟩:=HL.out.out
 have HA:=Am_ hA
 clear hA HL
 unfold uE at hr
 cases hbf:(b && first) with
 | true=>
  rw [if_pos hbf] at hr
  clear hbf
  have HR3:=Am_ hr
  clear hr
  have x0:=(af HA.out.res.1 0).trans (rfl:_=some (Value.int .i64 0))
  have z0:=ah HA.out.res.1 0
  have x1:=(af HA.out.res.1 1).trans (rfl:_=some (Value.int .i64 0))
  have z1:=ah HA.out.res.1 1
  have x2:=(af HA.out.res.1 2).trans (rfl:_=some (Value.bool false))
  have z2:=ah HA.out.res.1 2
  have x3:=(af HA.out.res.1 3).trans (rfl:_=some (Value.bool false))
  have z3:=ah HA.out.res.1 3
  have x4:=(af HA.out.res.1 4).trans (rfl:_=some (Value.slice none 0 0))
  have z4:=ah HA.out.res.1 4
  have x5:=(af HA.out.res.1 5).trans (rfl:_=some (Value.slice none 0 0))
  have z5:=ah HA.out.res.1 5
  have x6:=(af HA.out.res.1 6).trans (rfl:_=some (Value.slice none 0 0))
  have z6:=ah HA.out.res.1 6
  have x7:=(af HA.out.res.1 7).trans (rfl:_=some (Value.slice none 0 0))
  have z7:=ah HA.out.res.1 7
  go_wp2_with fail
  (try simp only [Exit.inBlock,Exit.then])
  show bodyPost _ _ _ _ _ (sets _ b4 [(0,.int .i64 0),(1,.int .i64 0),(2,.bool false),(3,.bool false),(4,.slice none 0 0),(5,.slice none 0 0),(6,.slice none 0 0),(7,.slice none 0 0)])
  refine bodyPost_ret (dW (rs:= [.cell 4 195,.tmp 5]) rfl (by simp) (.cell b4 195 _ (0,0) _ rfl (HA.out.res.sets [(0,.int .i64 0),(1,.int .i64 0),(2,.bool false),(3,.bool false),(4,.slice none 0 0),(5,.slice none 0 0),(6,.slice none 0 0),(7,.slice none 0 0)]).1 Tryz.underlying195 rfl (by kernel_rfl) (.tmp .nil))) rfl ?_
  obtain rfl:res=(.ret (sn0,2),_):=by have h:=HR3.out;injection h with h;exact h.symm
  exact ⟨⟨_,fO (b:=b4) (.inr (by have:=HN4.out;omega)) [(0,.int .i64 0),(1,.int .i64 0),(2,.bool false),(3,.bool false),(4,.slice none 0 0),(5,.slice none 0 0),(6,.slice none 0 0),(7,.slice none 0 0)] HA.out.task.moves,HA.out.task.run.step (aX p) (by rw [gW];exact Nat.le_refl _) (fun k hk _=>dI (b:=b4) (fun e=>HA.out.res.2 (e▸hk)) [(0,.int .i64 0),(1,.int .i64 0),(2,.bool false),(3,.bool false),(4,.slice none 0 0),(5,.slice none 0 0),(6,.slice none 0 0),(7,.slice none 0 0)] _),_,rfl,_,rfl,Ed (s:=sn0) (xK (n:=nd0) (Kd.fI _ _ _ _ _) (Kd.fI _ _ _ _ _) (Kd.fI _ _ _ _ _)) (Kd.fI _ _ _ _ _)⟩⟩
 | false=>
  rw [if_neg (by rw [hbf];simp)] at hr
  clear hbf
  obtain ⟨o,t,hd,hcase⟩:=aD hr
  have HD:=Am_ hd
  have HCS:=Am_ hcase
  clear hd hcase
  clear hr
  have c0:=HA.out.task.c0
  have c1:=HA.out.task.c1
  have c2:=HA.out.task.c2
  have k0:=(af HA.out.box_.1 0).trans (rfl:_=some (Value.int .i64 r))
  go_upto_region 18 with (go_at_call 200;refine (kz p tb work me _ _ _ r HA.out.task.run (o,t) HD.out).mono ?_;rintro e wq ⟨okq,hm,hi,he⟩;rcases HCS.out with hw | hw;(obtain ⟨rfl,rfl⟩:=hw;obtain rfl:e= .panicked dx:=he;exact ⟨rfl,⟨⟨okq,HA.out.task.moves.trans hm,hi,rfl⟩⟩⟩);obtain ⟨m,rfl,hr2⟩:=hw;obtain ⟨_,rfl,rfl⟩:=he;clear k0;have HA:=Am_ (HA.out.next hm (HA.out.task.next hm hi));have HR2:=Am_ hr2;clear hm hi hr2 c0 c1 c2)
  have hr:=HR2.out
  clear HR2 HD HCS
  obtain ⟨o,t,hd,hcase⟩:=aD hr
  have HD:=Am_ hd
  have HCS:=Am_ hcase
  clear hd hcase
  clear hr
  have c0:=HA.out.task.c0
  have c1:=HA.out.task.c1
  have c2:=HA.out.task.c2
  go_upto_if 94 with (go_at_call 201;refine (jJ p tb work me _ _ _ m HA.out.task.run (o,t) HD.out).mono ?_;rintro e wq ⟨okq,hm,hi,he⟩;rcases HCS.out with hw | hw;(obtain ⟨rfl,rfl⟩:=hw;obtain rfl:e= .panicked dx:=he;exact ⟨rfl,⟨⟨okq,HA.out.task.moves.trans hm,hi,rfl⟩⟩⟩);obtain ⟨sm,rfl,hr2⟩:=hw;obtain ⟨_,rfl,rfl⟩:=he;have HA:=Am_ (HA.out.next hm (HA.out.task.next hm hi));have HR2:=Am_ hr2;clear hm hi hr2 c0 c1 c2)
  have HR4:=Am_ HR2.out
  clear HR2 HD HCS
  by_cases hs:sm=1
  ·have e1:(sm == 1)=true:=by simp [hs]
   have hr:aU (qm m) (fun _=>dS (sn0,1)) t=some res:=by
    have h:=HR4.out
    rw [if_pos hs] at h
    exact h
   clear hs HR4
   obtain ⟨o,t,hd,hcase⟩:=aD hr
   have HD:=Am_ hd
   have HCS:=Am_ hcase
   clear hd hcase
   clear hr
   have c0:=HA.out.task.c0
   have c1:=HA.out.task.c1
   have c2:=HA.out.task.c2
   go_upto_region 20 with (go_at_call 175;refine (lC p tb work me m _ _ _ HA.out.task.run (o,t) HD.out).mono ?_;rintro e wq ⟨okq,hm,hi,he⟩;rcases HCS.out with hw | hw;(obtain ⟨rfl,rfl⟩:=hw;obtain rfl:e= .panicked dx:=he;exact ⟨rfl,⟨⟨okq,HA.out.task.moves.trans hm,hi,rfl⟩⟩⟩);obtain ⟨a1,rfl,hr2⟩:=hw;obtain ⟨_,rfl,rfl⟩:=he;have HA:=Am_ (HA.out.next hm (HA.out.task.next hm hi));have HR2:=Am_ hr2;clear hm hi hr2 c0 c1 c2)
   have HR3:=Am_ HR2.out
   clear HR2 HD HCS
   have x0:=(af HA.out.res.1 0).trans (rfl:_=some (Value.int .i64 0))
   have z0:=ah HA.out.res.1 0
   have x1:=(af HA.out.res.1 1).trans (rfl:_=some (Value.int .i64 0))
   have z1:=ah HA.out.res.1 1
   have x2:=(af HA.out.res.1 2).trans (rfl:_=some (Value.bool false))
   have z2:=ah HA.out.res.1 2
   have x3:=(af HA.out.res.1 3).trans (rfl:_=some (Value.bool false))
   have z3:=ah HA.out.res.1 3
   have x4:=(af HA.out.res.1 4).trans (rfl:_=some (Value.slice none 0 0))
   have z4:=ah HA.out.res.1 4
   have x5:=(af HA.out.res.1 5).trans (rfl:_=some (Value.slice none 0 0))
   have z5:=ah HA.out.res.1 5
   have x6:=(af HA.out.res.1 6).trans (rfl:_=some (Value.slice none 0 0))
   have z6:=ah HA.out.res.1 6
   have x7:=(af HA.out.res.1 7).trans (rfl:_=some (Value.slice none 0 0))
   have z7:=ah HA.out.res.1 7
   go_wp2_with fail
   (try simp only [Exit.inBlock,Exit.then])
   show bodyPost _ _ _ _ _ (sets _ b4 [(0,.int .i64 0),(1,.int .i64 0),(2,.bool false),(3,.bool false),(4,.slice none 0 0),(5,.slice none 0 0),(6,.slice none 0 0),(7,.slice none 0 0)])
   refine bodyPost_ret (dW (rs:= [.cell 4 195,.tmp 5]) rfl (by simp) (.cell b4 195 _ (0,0) _ rfl (HA.out.res.sets [(0,.int .i64 0),(1,.int .i64 0),(2,.bool false),(3,.bool false),(4,.slice none 0 0),(5,.slice none 0 0),(6,.slice none 0 0),(7,.slice none 0 0)]).1 Tryz.underlying195 rfl (by kernel_rfl) (.tmp .nil))) rfl ?_
   obtain rfl:res=(.ret (sn0,1),_):=by have h:=HR3.out;injection h with h;exact h.symm
   exact ⟨⟨_,fO (b:=b4) (.inr (by have:=HN4.out;omega)) [(0,.int .i64 0),(1,.int .i64 0),(2,.bool false),(3,.bool false),(4,.slice none 0 0),(5,.slice none 0 0),(6,.slice none 0 0),(7,.slice none 0 0)] HA.out.task.moves,HA.out.task.run.step (aX p) (by rw [gW];exact Nat.le_refl _) (fun k hk _=>dI (b:=b4) (fun e=>HA.out.res.2 (e▸hk)) [(0,.int .i64 0),(1,.int .i64 0),(2,.bool false),(3,.bool false),(4,.slice none 0 0),(5,.slice none 0 0),(6,.slice none 0 0),(7,.slice none 0 0)] _),_,rfl,_,rfl,Ed (s:=sn0) (xK (n:=nd0) (Kd.fI _ _ _ _ _) (Kd.fI _ _ _ _ _) (Kd.fI _ _ _ _ _)) (Kd.fI _ _ _ _ _)⟩⟩
  ·have e1:(sm == 1)=false:=by simpa using hs
   have HR3:ak (dS (sn0,1) t=some res):=⟨by have h:=HR4.out;rw [if_neg hs] at h;exact h⟩
   clear hs HR4
   have x0:=(af HA.out.res.1 0).trans (rfl:_=some (Value.int .i64 0))
   have z0:=ah HA.out.res.1 0
   have x1:=(af HA.out.res.1 1).trans (rfl:_=some (Value.int .i64 0))
   have z1:=ah HA.out.res.1 1
   have x2:=(af HA.out.res.1 2).trans (rfl:_=some (Value.bool false))
   have z2:=ah HA.out.res.1 2
   have x3:=(af HA.out.res.1 3).trans (rfl:_=some (Value.bool false))
   have z3:=ah HA.out.res.1 3
   have x4:=(af HA.out.res.1 4).trans (rfl:_=some (Value.slice none 0 0))
   have z4:=ah HA.out.res.1 4
   have x5:=(af HA.out.res.1 5).trans (rfl:_=some (Value.slice none 0 0))
   have z5:=ah HA.out.res.1 5
   have x6:=(af HA.out.res.1 6).trans (rfl:_=some (Value.slice none 0 0))
   have z6:=ah HA.out.res.1 6
   have x7:=(af HA.out.res.1 7).trans (rfl:_=some (Value.slice none 0 0))
   have z7:=ah HA.out.res.1 7
   go_wp2_with fail
   (try simp only [Exit.inBlock,Exit.then])
   show bodyPost _ _ _ _ _ (sets _ b4 [(0,.int .i64 0),(1,.int .i64 0),(2,.bool false),(3,.bool false),(4,.slice none 0 0),(5,.slice none 0 0),(6,.slice none 0 0),(7,.slice none 0 0)])
   refine bodyPost_ret (dW (rs:= [.cell 4 195,.tmp 5]) rfl (by simp) (.cell b4 195 _ (0,0) _ rfl (HA.out.res.sets [(0,.int .i64 0),(1,.int .i64 0),(2,.bool false),(3,.bool false),(4,.slice none 0 0),(5,.slice none 0 0),(6,.slice none 0 0),(7,.slice none 0 0)]).1 Tryz.underlying195 rfl (by kernel_rfl) (.tmp .nil))) rfl ?_
   obtain rfl:res=(.ret (sn0,1),_):=by have h:=HR3.out;injection h with h;exact h.symm
   exact ⟨⟨_,fO (b:=b4) (.inr (by have:=HN4.out;omega)) [(0,.int .i64 0),(1,.int .i64 0),(2,.bool false),(3,.bool false),(4,.slice none 0 0),(5,.slice none 0 0),(6,.slice none 0 0),(7,.slice none 0 0)] HA.out.task.moves,HA.out.task.run.step (aX p) (by rw [gW];exact Nat.le_refl _) (fun k hk _=>dI (b:=b4) (fun e=>HA.out.res.2 (e▸hk)) [(0,.int .i64 0),(1,.int .i64 0),(2,.bool false),(3,.bool false),(4,.slice none 0 0),(5,.slice none 0 0),(6,.slice none 0 0),(7,.slice none 0 0)] _),_,rfl,_,rfl,Ed (s:=sn0) (xK (n:=nd0) (Kd.fI _ _ _ _ _) (Kd.fI _ _ _ _ _) (Kd.fI _ _ _ _ _)) (Kd.fI _ _ _ _ _)⟩⟩
theorem Ad {W W':World} {a:Addr} (h:W'.heap[a.block]?=W.heap[a.block]?):W'.cell? a=W.cell? a:=by unfold World.cell?;rw [h]
theorem Hr {α:Type} {d:Kd α} {w:World} {D:Nat→Prop} {A:Option Addr} {n:Nat} {xs:List α} (h:d.F w D A n xs) (hf:Flat A) (z:α) (i:Nat) (hi:i<n) (hs:0<d.sz):
  ∃ g c,A=some ⟨g,0,none⟩∧c.length=d.sz∧d.FK w D (xs.getD i z) c∧ ∀ j u,c[j]?=some u→w.cell? ⟨g,i*d.sz+j,none⟩=some u:=by
 obtain ⟨ad,c,e,hl,hk,hc0⟩:=Kd.oz (Kd.gu h) z (i:Int) (by omega) (by omega)
 rw [Int.toNat_natCast] at hk hc0
 have hin:=Kd.NP h e (by omega) hs
 have hlt:ad.block<w.heap.size:=by have h1:=Kd.gu h;rw [e] at h1;exact Kd.NK h1 (by omega) hs
 obtain ⟨g,rfl⟩:=hf ad e
 have hc: ∀ j u,c[j]?=some u→w.cell? ⟨g,i*d.sz+j,none⟩=some u:=fun j u hj=>by
  have h1:=hc0 j u hj
  rw [jf,Nat.zero_add] at h1
  exact h1
 refine ⟨g,c,e,hl,fun W' hW=>?_,hc⟩
 obtain ⟨ad2,c2,e2,hl2,hk2,hc2⟩:=Kd.oz (h W' hW) z (i:Int) (by omega) (by omega)
 rw [Int.toNat_natCast] at hk2 hc2
 rw [e] at e2
 injection e2 with e2
 subst e2
 have e3:c2=c:=by
  apply List.ext_getElem?
  intro j
  rcases Nat.lt_or_ge j d.sz with hj | hj
  ·have h1:c[j]?=some c[j]:=List.getElem?_eq_getElem (by omega)
   have h2:c2[j]?=some c2[j]:=List.getElem?_eq_getElem (by omega)
   have h3:=hc j _ h1
   have h4:=hc2 j _ h2
   rw [jf,Nat.zero_add,Ad (W:=w) (W':=W') (hW g hin hlt),h3] at h4
   rw [h1,h2,h4]
  ·rw [List.getElem?_eq_none (by omega),List.getElem?_eq_none (by omega)]
 rw [←e3]
 exact hk2
abbrev Ls (s:Sn) (Ap:Option Addr) (cp:Nat) (Ak:Option Addr) (ck:Nat) (Ay:Option Addr) (cy:Nat) (Aw:Option Addr) (cw:Nat):List Value:= [.int .i64 s.ref,.int .i64 s.info,.bool s.node.inner,.bool s.node.tagged,.slice Ap s.node.pairs.length cp,.slice Ak s.node.keys.length ck,.slice Ay s.node.ways.length cy,.slice Aw s.ways.length cw]
theorem Iz {W:World} {s:Sn} {c:List Value} (h:kSn.K W s c): ∃ Ap cp Ak ck Ay cy Aw cw,c=Ls s Ap cp Ak ck Ay cy Aw cw∧s.node.pairs.length≤cp∧dw.C W Ap s.node.pairs.length s.node.pairs∧s.node.keys.length≤ck∧(Kd.int .i64).C W Ak s.node.keys.length s.node.keys∧s.node.ways.length≤cy∧(Kd.int .i64).C W Ay s.node.ways.length s.node.ways∧s.ways.length≤cw∧(Kd.int .i64).C W Aw s.ways.length s.ways:=by
 obtain ⟨_,_,rfl,rfl,_,_,rfl,rfl,_,_,rfl,⟨_,_,rfl,rfl,_,_,rfl,rfl,_,_,rfl,⟨Ap,cp,rfl,l1,h1⟩,_,_,rfl,⟨Ak,ck,rfl,l2,h2⟩,⟨Ay,cy,rfl,l3,h3⟩⟩,⟨Aw,cw,rfl,l4,h4⟩⟩:=h
 exact ⟨Ap,cp,Ak,ck,Ay,cy,Aw,cw,rfl,l1,h1,l2,h2,l3,h3,l4,h4⟩
structure SnF (W:World) (D:Nat→Prop) (s:Sn) (Ap:Option Addr) (cp:Nat) (Ak:Option Addr) (ck:Nat) (Ay:Option Addr) (cy:Nat) (Aw:Option Addr) (cw:Nat):Prop where
 lp:s.node.pairs.length≤cp
 prs:dw.F W D Ap s.node.pairs.length s.node.pairs
 lk:s.node.keys.length≤ck
 keys:(Kd.int .i64).F W D Ak s.node.keys.length s.node.keys
 ly:s.node.ways.length≤cy
 ways:(Kd.int .i64).F W D Ay s.node.ways.length s.node.ways
 lw:s.ways.length≤cw
 now:(Kd.int .i64).F W D Aw s.ways.length s.ways
theorem Bf {W:World} {D:Nat→Prop} {s:Sn} {c:List Value} (h:kSn.FK W D s c): ∃ Ap cp Ak ck Ay cy Aw cw,c=Ls s Ap cp Ak ck Ay cy Aw cw∧SnF W D s Ap cp Ak ck Ay cy Aw cw:=by
 obtain ⟨Ap,cp,Ak,ck,Ay,cy,Aw,cw,e,l1,_,l2,_,l3,_,l4,_⟩:=Iz (Kd.oO h)
 have hh: ∀ W':World,(∀ k,D k→k<W.heap.size→W'.heap[k]?=W.heap[k]?)→dw.C W' Ap s.node.pairs.length s.node.pairs∧(Kd.int .i64).C W' Ak s.node.keys.length s.node.keys∧(Kd.int .i64).C W' Ay s.node.ways.length s.node.ways∧(Kd.int .i64).C W' Aw s.ways.length s.ways:=fun W' hW=>by
  obtain ⟨Ap2,cp2,Ak2,ck2,Ay2,cy2,Aw2,cw2,e2,_,h1,_,h2,_,h3,_,h4⟩:=Iz (h W' hW)
  rw [e] at e2
  simp only [List.cons.injEq,Value.slice.injEq,and_true,true_and] at e2
  obtain ⟨⟨rfl,rfl⟩,⟨rfl,rfl⟩,⟨rfl,rfl⟩,⟨rfl,rfl⟩⟩:=e2
  exact ⟨h1,h2,h3,h4⟩
 exact ⟨Ap,cp,Ak,ck,Ay,cy,Aw,cw,e,l1,fun W' hW=>(hh W' hW).1,l2,fun W' hW=>(hh W' hW).2.1,l3,fun W' hW=>(hh W' hW).2.2.1,l4,fun W' hW=>(hh W' hW).2.2.2⟩
structure sV (W:World) (g o:Nat) (s:Sn) (Ap:Option Addr) (cp:Nat) (Ak:Option Addr) (ck:Nat) (Ay:Option Addr) (cy:Nat) (Aw:Option Addr) (cw:Nat):Prop where
 c0:W.cell? ⟨g,o,none⟩=some (.int .i64 s.ref)
 c1:W.cell? ⟨g,o+1,none⟩=some (.int .i64 s.info)
 c2:W.cell? ⟨g,o+2,none⟩=some (.bool s.node.inner)
 c3:W.cell? ⟨g,o+3,none⟩=some (.bool s.node.tagged)
 c4:W.cell? ⟨g,o+4,none⟩=some (.slice Ap s.node.pairs.length cp)
 c5:W.cell? ⟨g,o+5,none⟩=some (.slice Ak s.node.keys.length ck)
 c6:W.cell? ⟨g,o+6,none⟩=some (.slice Ay s.node.ways.length cy)
 c7:W.cell? ⟨g,o+7,none⟩=some (.slice Aw s.ways.length cw)
theorem Jc {w:World} {D:Nat→Prop} {A:Option Addr} {n:Nat} {xs:List Sn} (h:kSn.F w D A n xs) (hf:Flat A) (i:Nat) (hi:i<n):
  ∃ g Ap cp Ak ck Ay cy Aw cw,A=some ⟨g,0,none⟩∧sV w g (i*8) (xs.getD i sn0) Ap cp Ak ck Ay cy Aw cw∧SnF w D (xs.getD i sn0) Ap cp Ak ck Ay cy Aw cw:=by
 obtain ⟨g,c,e,_,hk,hc⟩:=Hr h hf sn0 i hi (by decide)
 obtain ⟨Ap,cp,Ak,ck,Ay,cy,Aw,cw,rfl,hF⟩:=Bf hk
 have h1: ∀ j u,(Ls (xs.getD i sn0) Ap cp Ak ck Ay cy Aw cw)[j]?=some u→w.cell? ⟨g,i*8+j,none⟩=some u:=hc
 exact ⟨g,Ap,cp,Ak,ck,Ay,cy,Aw,cw,e,⟨h1 0 _ rfl,h1 1 _ rfl,h1 2 _ rfl,h1 3 _ rfl,h1 4 _ rfl,h1 5 _ rfl,h1 6 _ rfl,h1 7 _ rfl⟩,hF⟩
theorem SnF.mono {W:World} {D D1:Nat→Prop} {s:Sn} {Ap Ak Ay Aw:Option Addr} {cp ck cy cw:Nat} (h:SnF W D s Ap cp Ak ck Ay cy Aw cw) (hk: ∀ k,D k→D1 k):SnF W D1 s Ap cp Ak ck Ay cy Aw cw:=⟨h.lp,Kd.dh h.prs hk,h.lk,Kd.dh h.keys hk,h.ly,Kd.dh h.ways hk,h.lw,Kd.dh h.now hk⟩
theorem SnF.moves {ok ok1:Nat→Prop} {W W1:World} {s:Sn} {Ap Ak Ay Aw:Option Addr} {cp ck cy cw:Nat} (h:SnF W (fun k=> ¬ ok k) s Ap cp Ak ck Ay cy Aw cw) (m:Moves ok ok1 W W1):SnF W1 (fun k=> ¬ ok1 k) s Ap cp Ak ck Ay cy Aw cw:=⟨h.lp,gZ h.prs m,h.lk,gZ h.keys m,h.ly,gZ h.ways m,h.lw,gZ h.now m⟩
def Ca (l:List Sn) (keep way old now:Int):Pr Ws (Bool × Bool):=aU (storeT ⟨l.map Sn.ref,l.map Sn.info,keep,way,old,now⟩) fun n=>if n=0 then dS (false,true) else aU (qm n) fun b=>dS (b,false)
def nO:List Int→List Sn→Pr Ws (List Sn × Bool)
 | [],acc=>dS (acc,true)
 | r::l,acc=>aU (loadT r) fun x=>if x.2=0 then nO l (acc++ [x.1]) else dS ([],false)
def ql (s:Sn) (way r:Int):Bool:=decide (0≤way) && (decide (way<s.ways.length) && (s.ways.getD way.toNat 0 == r))
def VBB (a:Bool × Bool) (_:Nat→Prop) (v:Value) (_:World):Prop:=v= .tuple #[.bool a.1,.bool a.2]
structure fG (p tb:Nat) (work:Value) (me:Int) (bt:Nat) (ok:Nat→Prop) (w:World) (br:Nat) (bs:List Nat) (kp wy od nw:Int) (l:List Sn) (A:Option Addr) (s:TS Ws) (xs ys:List Int) (A1:Option Addr) (c1:Nat) (A2:Option Addr) (c2:Nat) (wc:World):Prop where
 task:aH p tb work me bt ok w ok s wc
 box:Mine ok wc br (.cells #[.slice A1 xs.length c1,.slice A2 ys.length c2,.int .i64 kp,.int .i64 wy,.int .i64 od,.int .i64 nw] 254 (0,0))
 new:w.heap.size≤br∧br≠bt∧bt∈bs∧br∈bs
 r1:(Kd.int .i64).R 45 wc w.heap.size (Fr ok (fun q=>q∉bs)) (.slice A1 xs.length c1) xs
 r2:(Kd.int .i64).R 2 wc w.heap.size (Fr ok (fun q=>q∉bs)) (.slice A2 ys.length c2) ys
 row:kSn.F wc (fun q=> ¬ ok q∧q<w.heap.size) A l.length l
section
variable {p tb:Nat} {work:Value} {me:Int} {bt:Nat} {ok:Nat→Prop} {w wc w2:World} {br:Nat} {bs:List Nat} {kp wy od nw:Int} {l:List Sn} {A:Option Addr} {s:TS Ws} {xs ys:List Int} {A1 A2 A3:Option Addr} {c1 c2 c3:Nat}
theorem fG.alloc (h:fG p tb work me bt ok w br bs kp wy od nw l A s xs ys A1 c1 A2 c2 wc) (o:Obj):fG p tb work me bt ok w br (wc.heap.size::bs) kp wy od nw l A s xs ys A1 c1 A2 c2 (wc.alloc o):=
 ⟨h.task.alloc o,h.box.alloc o,⟨h.new.1,h.new.2.1,List.mem_cons_of_mem _ h.new.2.2.1,List.mem_cons_of_mem _ h.new.2.2.2⟩,
  Kd.dL (Kd.bq (Kd.bL h.r1) (fun k hk=>⟨hk.1.1,fun e=>(List.mem_cons.1 e).elim (fun e=>by have:=hk.2.2.1;omega) hk.1.2⟩)) o,
  Kd.dL (Kd.bq (Kd.bL h.r2) (fun k hk=>⟨hk.1.1,fun e=>(List.mem_cons.1 e).elim (fun e=>by have:=hk.2.2.1;omega) hk.1.2⟩)) o,Kd.eD h.row o⟩
theorem fG.less (h:fG p tb work me bt ok w br bs kp wy od nw l A s xs ys A1 c1 A2 c2 wc) (bs1:List Nat) (hs: ∀ q∈bs1,q∈bs) (h1:bt∈bs1) (h2:br∈bs1):fG p tb work me bt ok w br bs1 kp wy od nw l A s xs ys A1 c1 A2 c2 wc:=
 ⟨h.task,h.box,⟨h.new.1,h.new.2.1,h1,h2⟩,Kd.bq h.r1 (fun k hk=>⟨hk.1,fun e=>hk.2 (hs k e)⟩),Kd.bq h.r2 (fun k hk=>⟨hk.1,fun e=>hk.2 (hs k e)⟩),h.row⟩
theorem fG.NH (h:fG p tb work me bt ok w br bs kp wy od nw l A s xs ys A1 c1 A2 c2 wc): ∀ k,(Value.slice A1 xs.length c1).ownBlock=some k→ ¬ ok k∧w.heap.size≤k∧k∉bs:=fun k e=>by
 have h1:=(Kd.bL h.r1).1 k e
 exact ⟨h1.1.1,h1.2.1,h1.1.2⟩
theorem fG.NI (h:fG p tb work me bt ok w br bs kp wy od nw l A s xs ys A1 c1 A2 c2 wc): ∀ k,(Value.slice A2 ys.length c2).ownBlock=some k→ ¬ ok k∧w.heap.size≤k∧k∉bs:=fun k e=>by
 have h1:=(Kd.bL h.r2).1 k e
 exact ⟨h1.1.1,h1.2.1,h1.1.2⟩
theorem fG.MQ (h:fG p tb work me bt ok w br bs kp wy od nw l A s xs ys A1 c1 A2 c2 wc) (hg:wc.grownBy w2 (Value.slice A1 xs.length c1).ownBlock) {g:Nat} {o:Obj} (hm:wc.heap[g]?=some o) (hb:g∈bs):w2.heap[g]?=some o:=bJ hm hg (fun e=>(h.NH g e.symm).2.2 hb)
theorem fG.MR (h:fG p tb work me bt ok w br bs kp wy od nw l A s xs ys A1 c1 A2 c2 wc) (hg:wc.grownBy w2 (Value.slice A2 ys.length c2).ownBlock) {g:Nat} {o:Obj} (hm:wc.heap[g]?=some o) (hb:g∈bs):w2.heap[g]?=some o:=bJ hm hg (fun e=>(h.NI g e.symm).2.2 hb)
theorem fG.fresh (h:fG p tb work me bt ok w br bs kp wy od nw l A s xs ys A1 c1 A2 c2 wc) (hb: ∀ q∈bs,q<wc.heap.size): ∀ k,wc.heap.size≤k→Fr ok (fun q=>q∉bs) k:=fun k hk=>⟨fun h1=>by have:=h.task.lt k h1;omega,fun h1=>by have:=hb k h1;omega⟩
theorem fG.Ng (h:fG p tb work me bt ok w br bs kp wy od nw l A s xs ys A1 c1 A2 c2 wc) {x:Int} (hR:(Kd.int .i64).R 45 w2 w.heap.size (Fr ok (fun q=>q∉bs)) (.slice A3 (xs++ [x]).length c3) (xs++ [x])) (hg:wc.grownBy w2 (Value.slice A1 xs.length c1).ownBlock):
  fG p tb work me bt ok w br bs kp wy od nw l A s (xs++ [x]) ys A3 c3 A2 c2 (w2.setCell ⟨br,0,none⟩ (.slice A3 (xs++ [x]).length c3)):=by
 have far: ∀ k,k≠br→(w2.setCell ⟨br,0,none⟩ (.slice A3 (xs++ [x]).length c3)).heap[k]?=w2.heap[k]?:=fun k hk=>Below.heap_setCell _ ⟨br,0,none⟩ _ k hk
 have ne1: ∀ k,k∉bs→k≠br:=fun k hk e=>hk (e▸h.new.2.2.2)
 have ow:=h.NH
 refine ⟨(h.task.grown hg (fun k e=>⟨(ow k e).1,(ow k e).2.1,fun e1=>(ow k e).2.2 (e1▸h.new.2.2.1)⟩)).set (q:=⟨br,0,none⟩) h.box.2 h.new.1 h.new.2.1 _,Mine.set (Mine.grown h.box hg (fun k e=>ne1 k (ow k e).2.2)) 0 _,h.new,iw hR br ne1 far,iw (Kd.Fw h.r2 h.r1 (by decide) hg) br ne1 far,?_⟩
 exact Kd.eU (Kd.kY h.row hg (fun k hk e=>by have:=(ow k e.symm).2.1;have:=hk.2;omega)) (fun k hk _=>far k (by have:=h.new.1;have:=hk.2;omega))
theorem fG.Nl (h:fG p tb work me bt ok w br bs kp wy od nw l A s xs ys A1 c1 A2 c2 wc) {x:Int} (hR:(Kd.int .i64).R 2 w2 w.heap.size (Fr ok (fun q=>q∉bs)) (.slice A3 (ys++ [x]).length c3) (ys++ [x])) (hg:wc.grownBy w2 (Value.slice A2 ys.length c2).ownBlock):
  fG p tb work me bt ok w br bs kp wy od nw l A s xs (ys++ [x]) A1 c1 A3 c3 (w2.setCell ⟨br,1,none⟩ (.slice A3 (ys++ [x]).length c3)):=by
 have far: ∀ k,k≠br→(w2.setCell ⟨br,1,none⟩ (.slice A3 (ys++ [x]).length c3)).heap[k]?=w2.heap[k]?:=fun k hk=>Below.heap_setCell _ ⟨br,1,none⟩ _ k hk
 have ne1: ∀ k,k∉bs→k≠br:=fun k hk e=>hk (e▸h.new.2.2.2)
 have ow:=h.NI
 refine ⟨(h.task.grown hg (fun k e=>⟨(ow k e).1,(ow k e).2.1,fun e1=>(ow k e).2.2 (e1▸h.new.2.2.1)⟩)).set (q:=⟨br,1,none⟩) h.box.2 h.new.1 h.new.2.1 _,Mine.set (Mine.grown h.box hg (fun k e=>ne1 k (ow k e).2.2)) 1 _,h.new,iw (Kd.Fw h.r1 h.r2 (by decide) hg) br ne1 far,iw hR br ne1 far,?_⟩
 exact Kd.eU (Kd.kY h.row hg (fun k hk e=>by have:=(ow k e.symm).2.1;have:=hk.2;omega)) (fun k hk _=>far k (by have:=h.new.1;have:=hk.2;omega))
end
theorem uQ (p tb:Nat) (work:Value) (me:Int) (ok:Nat→Prop) (s:TS Ws) (w:World) (l:List Sn) (A:Option Addr) (c:Nat) (kp wy od nw:Int) (h:dN (shW p) tb work ok s w) (hl:kSn.F w (fun k=> ¬ ok k) A l.length l) (hfl:Flat A) (hk0:0≤kp) (hsm:l.length<1000) (res:Out (Bool × Bool) × TS Ws) (hr:Ca l kp wy od nw s=some res):
  Calls Tryz.prog 122 #[eP tb p me,.slice A l.length c,.int .i64 kp,.int .i64 wy,.int .i64 od,.int .i64 nw] w (fQ (shW p) tb work VBB ok w res):=by
 have HTV:eP tb p me= .agg #[.pointer (some ⟨tb,0,none⟩),.pointer (some ⟨p,0,none⟩),.int .i64 me]:=rfl
 rw [HTV]
 have h0:=aH.enter (me:=me) h
 unfold fC at h0
 have HL:ak (fG p tb work me w.heap.size ok w (w.heap.size+1) [w.heap.size,w.heap.size+1] kp wy od nw l A s [] [] none 0 none 0 ((w.alloc (.cells #[.pointer (some ⟨tb,0,none⟩),.pointer (some ⟨p,0,none⟩),.int .i64 me] 114)).alloc (.cells #[.slice none 0 0,.slice none 0 0,.int .i64 kp,.int .i64 wy,.int .i64 od,.int .i64 nw] 254))):=⟨{
  task:=h0.alloc (.cells #[.slice none 0 0,.slice none 0 0,.int .i64 kp,.int .i64 wy,.int .i64 od,.int .i64 nw] 254)
  box:=by
   have h1:=Mine.new h0.lt (.cells #[.slice none 0 0,.slice none 0 0,.int .i64 kp,.int .i64 wy,.int .i64 od,.int .i64 nw] 254)
   simp only [World.size_alloc] at h1
   exact h1
  new:=⟨by omega,by omega,by simp,by simp⟩
  r1:=Kd.fI _ _ _ _ _
  r2:=Kd.fI _ _ _ _ _
  row:=Kd.eD (Kd.eD (Kd.dX hl) _) _ }⟩
 have HR:=Am_ hr
 have HK:=Am_ (And.intro hk0 (And.intro hsm hfl))
 clear h h0 hr HTV hl hk0 hsm hfl
 go_enter Tryz.func122,Tryz.ntmps122
 go_upto_region 2 with fail
 generalize (w.alloc (.cells #[.pointer (some ⟨tb,0,none⟩),.pointer (some ⟨p,0,none⟩),.int .i64 me] 114)).alloc (.cells #[.slice none 0 0,.slice none 0 0,.int .i64 kp,.int .i64 wy,.int .i64 od,.int .i64 nw] 254)=w2 at HL ⊢
 generalize hbt:w.heap.size=bt at HL ⊢
 generalize hbr:bt+1=br at HL ⊢
 clear hbt hbr
 go_upto_block 0 with fail
 go_wp2_with fail
 go_loopg [25] l.length (fun g v25 wr=> ∃ k:Nat,v25= .int .i64 k∧k+g=l.length∧ak (∃ A1 c1 A2 c2,fG p tb work me bt ok w br [bt,br] kp wy od nw l A s ((l.take k).map Sn.ref) ((l.take k).map Sn.info) A1 c1 A2 c2 wr))
 case atStart=>exact ⟨0,rfl,by omega,⟨none,0,none,0,HL.out⟩⟩
 case round=>
  obtain ⟨k,rfl,hkg,HQ⟩:=hrel
  clear HL
  obtain ⟨A1,c1,A2,c2,hq⟩:=HQ.out
  clear HQ
  cases gk with
  | zero=>
   have hk:k=l.length:=by omega
   have d1:decide ((k:Int)<(l.length:Int))=false:=decide_eq_false (by omega)
   have d2:decide (k<l.length)=false:=decide_eq_false (by omega)
   have e1:l.take k=l:=List.take_of_length_le (by omega)
   rw [e1] at hq
   have hr:aU (storeT ⟨l.map Sn.ref,l.map Sn.info,kp,wy,od,nw⟩) (fun n=>if n=0 then dS (false,true) else aU (qm n) fun b=>dS (b,false)) s=some res:=HR.out
   obtain ⟨o,t,hd,hcase⟩:=aD hr
   have HD:=Am_ hd
   have HCS:=Am_ hcase
   clear hd hcase
   have hle:(l.map Sn.info).length=(l.map Sn.ref).length:=by simp
   have hq1:=hq.box
   have hq2:(Kd.int .i64).F wr (fun q=> ¬ ok q) A2 (l.map Sn.info).length (l.map Sn.info):=Kd.dh (Kd.R_F hq.r2) (fun q hk=>hk.1)
   rw [hle] at hq1 hq2
   have HB:=Am_ hq1
   have HF1:ak ((Kd.int .i64).F wr (fun q=> ¬ ok q) A1 (l.map Sn.ref).length (l.map Sn.ref)):=⟨Kd.dh (Kd.R_F hq.r1) (fun q hk=>hk.1)⟩
   have HF2:=Am_ hq2
   have HT:=Am_ hq.task
   have HLN:ak ((l.map Sn.ref).length<1000000∧(l.map Sn.ref).length=(l.map Sn.info).length):=⟨by rw [List.length_map,List.length_map];exact ⟨by have:=HK.out.2.1;omega,rfl⟩⟩
   have c0:=hq.task.c0
   clear hq hr e1 HR hk hq1 hq2 hle
   go_upto_region 9 with (go_at_call 137;refine (HT.out.store_ HB.out HF1.out HF2.out HK.out.1 HLN.out.1 HLN.out.2 HD.out).mono ?_;rintro e wq ⟨⟨okq,hm,hT,he⟩⟩;rcases HCS.out with hw | hw;(obtain ⟨rfl,rfl⟩:=hw;obtain rfl:e= .panicked dx:=he;exact ⟨rfl,⟨⟨okq,hT.moves,hT.run,rfl⟩⟩⟩);obtain ⟨n,rfl,hr2⟩:=hw;obtain rfl:e= .returned (.int .i64 n):=he;have HT:=Am_ hT;have HR2:=Am_ hr2;clear hm hT hr2;clear c0)
   clear HB HF1 HF2 HLN HD HCS d1 d2
   by_cases hn:n=0
   ·have e1:(n == 0)=true:=by simp [hn]
    have HR3:ak (dS (false,true) t=some res):=⟨by have h:=HR2.out;rw [if_pos hn] at h;exact h⟩
    clear hn HR2
    go_wp2_with fail
    (try simp only [Exit.inBlock,Exit.then])
    refine bodyPost_ret (dW (rs:= [.tmp 12,.tmp 13]) rfl (by simp) (.tmp (.tmp .nil))) rfl ?_
    obtain rfl:res=(.ret (false,true),t):=by have h:=HR3.out;injection h with h;exact h.symm
    exact ⟨⟨_,HT.out.moves,HT.out.run,_,rfl,rfl⟩⟩
   ·have e1:(n == 0)=false:=by simpa using hn
    have hr:aU (qm n) (fun b=>dS (b,false)) t=some res:=by have h:=HR2.out;rw [if_neg hn] at h;exact h
    clear hn HR2
    obtain ⟨o,t,hd,hcase⟩:=aD hr
    have HD:=Am_ hd
    have HCS:=Am_ hcase
    clear hd hcase
    have c0:=HT.out.c0
    have c1:=HT.out.c1
    have c2:=HT.out.c2
    clear hr
    go_wp2_with (go_at_call 175;refine (lC p tb work me n _ _ _ HT.out.run (o,t) HD.out).mono ?_;rintro e wq ⟨okq,hm,hi,he⟩;rcases HCS.out with hw | hw;(obtain ⟨rfl,rfl⟩:=hw;obtain rfl:e= .panicked dx:=he;exact ⟨rfl,⟨⟨okq,HT.out.moves.trans hm,hi,rfl⟩⟩⟩);obtain ⟨b,rfl,hr2⟩:=hw;obtain ⟨_,rfl,rfl⟩:=he;have HT:=Am_ (HT.out.next hm hi);have HR3:=Am_ hr2;clear hm hi hr2 c0 c1 c2)
    (try simp only [Exit.inBlock,Exit.then])
    refine bodyPost_ret (dW (rs:= [.tmp 12,.tmp 13]) rfl (by simp) (.tmp (.tmp .nil))) rfl ?_
    obtain rfl:res=(.ret (b,false),t):=by have h:=HR3.out;injection h with h;exact h.symm
    exact ⟨⟨_,HT.out.moves,HT.out.run,_,rfl,rfl⟩⟩
  | succ g=>
   have d1:decide ((k:Int)<(l.length:Int))=true:=decide_eq_true (by omega)
   have d2:decide (k<l.length)=true:=decide_eq_true (by omega)
   have b1:(0:Int)≤(k:Int):=by omega
   have b2:(k:Int)<(l.length:Int):=by omega
   have b3:k<l.length:=by omega
   have hw1:wrap64 ((k:Int)+1)=((k+1:Nat):Int):=by have:=HK.out;unfold wrap64;omega
   have HW1:=Am_ hw1
   obtain ⟨gA,Ap,cp,Ak,ck,Ay,cy,Aw,cw,eA,hC,_⟩:=Jc hq.row HK.out.2.2 k b3
   have htk:l.take (k+1)=l.take k++ [l.getD k sn0]:=by rw [List.take_add_one,List.getElem?_eq_getElem b3,List.getD_eq_getElem?_getD,List.getElem?_eq_getElem b3];rfl
   have HTK:=Am_ htk
   generalize l.getD k sn0=sn at hC htk HTK
   have HLX:ak (((l.take k).map Sn.ref).length<1000∧((l.take k).map Sn.info).length<1000):=⟨by simp only [List.length_map,List.length_take];have:=HK.out;omega⟩
   generalize hxs:(l.take k).map Sn.ref=xs at hq HLX
   generalize hys:(l.take k).map Sn.info=ys at hq HLX
   have HXS:=Am_ (And.intro hxs hys)
   obtain ⟨a0,a1,a2,a3,a4,a5,a6,a7⟩:=hC
   have HS:=Am_ hq
   clear htk hw1 hxs hys hq
   subst eA
   go_upto_region 5 with fail
   clear a0 a1 a2 a3 a4 a5 a6 a7
   have HNE:ak (wr.heap.size≠br):=⟨by have:=HS.out.box.lt;omega⟩
   have HS4:=Am_ (HS.out.alloc (.cells #[.int .i64 sn.ref,.int .i64 sn.info,.bool sn.node.inner,.bool sn.node.tagged,.slice Ap sn.node.pairs.length cp,.slice Ak sn.node.keys.length ck,.slice Ay sn.node.ways.length cy,.slice Aw sn.ways.length cw] 195))
   have HB4:=Am_ (bU wr (.cells #[.int .i64 sn.ref,.int .i64 sn.info,.bool sn.node.inner,.bool sn.node.tagged,.slice Ap sn.node.pairs.length cp,.slice Ak sn.node.keys.length ck,.slice Ay sn.node.ways.length cy,.slice Aw sn.ways.length cw] 195))
   clear HS
   generalize wr.alloc (.cells #[.int .i64 sn.ref,.int .i64 sn.info,.bool sn.node.inner,.bool sn.node.tagged,.slice Ap sn.node.pairs.length cp,.slice Ak sn.node.keys.length ck,.slice Ay sn.node.ways.length cy,.slice Aw sn.ways.length cw] 195)=w4 at HS4 HB4 ⊢
   generalize wr.heap.size=b16 at HS4 HB4 HNE ⊢
   have y0:=(af HS4.out.box.1 0).trans (rfl:_=some (Value.slice A1 xs.length c1))
   have y1:=(af HB4.out 0).trans (rfl:_=some (Value.int .i64 sn.ref))
   go_upto_region 6 with ((with_reducible refine bW (b:= .append) (xs:= #[.tmp 30,.tmp 33]) rfl ?_);at_builtin;refine Kd.iy (Kd.int .i64) (w0:=w4) w.heap.size rfl (.tmp 30) (.tmp 33) 153 45 (.int .i64 0) 8 rfl Tryz.underlying153 nH rfl (by decide) (by omega) (Value.slice A1 xs.length c1) xs sn.ref [.int .i64 sn.ref] (Fr ok (fun q=>q∉ [b16,bt,br])) (fun _=>False) rfl rfl rfl (fun _ hk=>hk.elim) (HS4.out.fresh (by intro q hq;simp only [List.mem_cons,List.not_mem_nil,or_false] at hq;have h1:=HS4.out.task.box.lt;have h2:=HS4.out.box.lt;have h3:=bD HB4.out;omega)) HS4.out.r1 (Below.refl _ _) HS4.out.task.moves.size (by have:=HLX.out;omega) ?_;intro v6 w6 ho hb6 hg hat;obtain ⟨A6,c6,rfl⟩:=Kd.aJ ho;have z6:w6.frozen? ⟨br,0,none⟩=false:=ah (HS4.out.MQ hg HS4.out.box.1 (by simp)) 0;have k6:=(af (HS4.out.MQ hg HS4.out.box.1 (by simp)) 0).trans (rfl:_=some (Value.slice A1 xs.length c1));have HB6:=Am_ (HS4.out.MQ hg HB4.out (by simp));have HS6:=Am_ (HS4.out.Ng ho hg);clear ho hb6 hg hat)
   clear y0 y1 z6 k6 HS4 HB4
   rw [show (xs++ [sn.ref]).length=xs.length+1 by simp] at HS6
   have HB7:=Am_ ((Below.heap_setCell w6 ⟨br,0,none⟩ (.slice A6 (xs.length+1) c6) b16 HNE.out).trans HB6.out)
   clear HB6
   generalize w6.setCell ⟨br,0,none⟩ (.slice A6 (xs.length+1) c6)=w7 at HS6 HB7 ⊢
   have y0:=(af HS6.out.box.1 1).trans (rfl:_=some (Value.slice A2 ys.length c2))
   have y1:=(af HB7.out 1).trans (rfl:_=some (Value.int .i64 sn.info))
   go_upto_region 7 with ((with_reducible refine bW (b:= .append) (xs:= #[.tmp 37,.tmp 40]) rfl ?_);at_builtin;refine Kd.iy (Kd.int .i64) (w0:=w7) w.heap.size rfl (.tmp 37) (.tmp 40) 22 2 (.int .i64 0) 8 rfl Tryz.underlying22 nD rfl (by decide) (by omega) (Value.slice A2 ys.length c2) ys sn.info [.int .i64 sn.info] (Fr ok (fun q=>q∉ [b16,bt,br])) (fun _=>False) rfl rfl rfl (fun _ hk=>hk.elim) (HS6.out.fresh (by intro q hq;simp only [List.mem_cons,List.not_mem_nil,or_false] at hq;have h1:=HS6.out.task.box.lt;have h2:=HS6.out.box.lt;have h3:=bD HB7.out;omega)) HS6.out.r2 (Below.refl _ _) HS6.out.task.moves.size (by have:=HLX.out;omega) ?_;intro v8 w8 ho hb6 hg hat;obtain ⟨A8,c8,rfl⟩:=Kd.aJ ho;have z8:w8.frozen? ⟨br,1,none⟩=false:=ah (HS6.out.MR hg HS6.out.box.1 (by simp)) 1;have k8:=(af (HS6.out.MR hg HS6.out.box.1 (by simp)) 1).trans (rfl:_=some (Value.slice A2 ys.length c2));have HB8:=Am_ (HS6.out.MR hg HB7.out (by simp));have HS8:=Am_ (HS6.out.Nl ho hg);clear ho hb6 hg hat)
   clear y0 y1 z8 k8 HS6 HB7 HB8
   rw [show (ys++ [sn.info]).length=ys.length+1 by simp] at HS8
   generalize w8.setCell ⟨br,1,none⟩ (.slice A8 (ys.length+1) c8)=w9 at HS8 ⊢
   go_wp2_with fail
   go_roundg g
   case rel=>
    refine ⟨k+1,by first | rfl | rw [HW1.out],by omega,⟨⟨A6,c6,A8,c8,?_⟩⟩⟩
    rw [HTK.out,List.map_append,List.map_append,HXS.out.1,HXS.out.2]
    exact HS8.out.less [bt,br] (by simp) (by simp) (by simp)
   case measure=>omega
theorem Bd:(Tryz.prog.info? 195).map (fun i=>(i.zero,i.size,i.bytes))=some (some (.agg #[.int .i64 0,.int .i64 0,.bool false,.bool false,.slice none 0 0,.slice none 0 0,.slice none 0 0,.slice none 0 0]),8,120):=by kernel_rfl
def KJ (N:Nat) (a:List Sn × Bool) (ok:Nat→Prop) (v:Value) (w:World):Prop:= ∃ A c,v= .tuple #[.slice A a.1.length c,.bool a.2]∧kSn.R 195 w N (fun k=> ¬ ok k) (.slice A a.1.length c) a.1
structure iP (p tb:Nat) (work:Value) (me:Int) (bt:Nat) (ok:Nat→Prop) (w:World) (rs:List Int) (AR:Option Addr) (okc:Nat→Prop) (s:TS Ws) (acc:List Sn) (A1:Option Addr) (c1:Nat) (wc:World):Prop where
 task:aH p tb work me bt ok w okc s wc
 row:kSn.R 195 wc w.heap.size (Fr okc (fun q=>q≠bt)) (.slice A1 acc.length c1) acc
 refs:(Kd.int .i64).F wc (fun q=> ¬ okc q∧q<w.heap.size) AR rs.length rs
section
variable {p tb:Nat} {work:Value} {me:Int} {bt:Nat} {ok okc okq:Nat→Prop} {w wc wq w2:World} {rs:List Int} {AR:Option Addr} {s s2:TS Ws} {acc:List Sn} {A1 A2:Option Addr} {c1 c2:Nat}
theorem iP.next (h:iP p tb work me bt ok w rs AR okc s acc A1 c1 wc) (m:Moves okc okq wc wq) (t:aH p tb work me bt ok w okq s2 wq):iP p tb work me bt ok w rs AR okq s2 acc A1 c1 wq:=
 ⟨t,iB h.row m,Kd.dh (Kd.eU (Kd.dX h.refs) (fun k hk hlt=>m.block k hlt hk.1.1)) (fun k hk=>⟨fun h1=>(m.fresh k h1).elim hk.1.1 (fun h2=>by have:=hk.2;omega),hk.1.2⟩)⟩
theorem iP.alloc (h:iP p tb work me bt ok w rs AR okc s acc A1 c1 wc) (o:Obj):iP p tb work me bt ok w rs AR okc s acc A1 c1 (wc.alloc o):=h.next ((Moves.refl _ _).alloc o) (h.task.alloc o)
theorem iP.fresh (h:iP p tb work me bt ok w rs AR okc s acc A1 c1 wc): ∀ k,wc.heap.size≤k→Fr okc (fun q=>q≠bt) k:=fun k hk=>⟨fun h1=>by have:=h.task.lt k h1;omega,fun h1=>by have:=h.task.box.lt;omega⟩
theorem iP.push (h:iP p tb work me bt ok w rs AR okc s acc A1 c1 wc) {x:Sn} (hR:kSn.R 195 w2 w.heap.size (Fr okc (fun q=>q≠bt)) (.slice A2 (acc++ [x]).length c2) (acc++ [x])) (hg:wc.grownBy w2 (Value.slice A1 acc.length c1).ownBlock):
  iP p tb work me bt ok w rs AR okc s (acc++ [x]) A2 c2 w2:=by
 have ow:=(Kd.bL h.row).1
 exact ⟨h.task.grown hg (fun k e=>⟨(ow k e).1.1,(ow k e).2.1,(ow k e).1.2⟩),hR,Kd.kY h.refs hg (fun k hk e=>by have:=(ow k e.symm).2.1;have:=hk.2;omega)⟩
theorem iP.part (h:iP p tb work me bt ok w rs AR okc s acc A1 c1 wc) (m:Moves okc okq wc wq) {x:Sn} {cs:List Value} (hM:kSn.M wq wc.heap.size (fun k=> ¬ okq k) x cs):kSn.M wq w.heap.size (fun k=> ¬ okq k∧wc.heap.size≤k∧k<wq.heap.size) x cs∧(∀ k,¬ okq k∧wc.heap.size≤k∧k<wq.heap.size→Fr okq (fun q=>q≠bt) k∧some k≠(Value.slice A1 acc.length c1).ownBlock):=
 ⟨kSn.M_lower h.task.moves.size (kSn.M_mono (fun k hk=>⟨hk.1,hk.2.1,hk.2.2.1⟩) (kSn.M_bound hM)),fun k hk=>⟨⟨hk.1,fun e=>by have:=h.task.box.lt;omega⟩,fun e=>by have:=((Kd.bL h.row).1 k e.symm).2.2.1;omega⟩⟩
end
theorem uF (p tb:Nat) (work:Value) (me:Int) (ok:Nat→Prop) (s:TS Ws) (w:World) (rs:List Int) (AR:Option Addr) (c:Nat) (h:dN (shW p) tb work ok s w) (hl:(Kd.int .i64).F w (fun k=> ¬ ok k) AR rs.length rs) (hfl:Flat AR) (hsm:rs.length<1000) (res:Out (List Sn × Bool) × TS Ws) (hr:nO rs [] s=some res):
  Calls Tryz.prog 117 #[eP tb p me,.slice AR rs.length c] w (fQ (shW p) tb work (KJ w.heap.size) ok w res):=by
 have HTV:eP tb p me= .agg #[.pointer (some ⟨tb,0,none⟩),.pointer (some ⟨p,0,none⟩),.int .i64 me]:=rfl
 rw [HTV]
 have h0:=aH.enter (me:=me) h
 unfold fC at h0
 have HL:ak (iP p tb work me w.heap.size ok w rs AR ok s [] none 0 (w.alloc (.cells #[.pointer (some ⟨tb,0,none⟩),.pointer (some ⟨p,0,none⟩),.int .i64 me] 114))):=⟨{
  task:=h0
  row:=Kd.fI _ _ _ _ _
  refs:=Kd.eD (Kd.dX hl) _ }⟩
 have HR:=Am_ hr
 have HK:=Am_ (And.intro hsm hfl)
 clear h h0 hr HTV hl hsm hfl
 go_enter Tryz.func117,Tryz.ntmps117
 go_upto_region 2 with fail
 generalize w.alloc (.cells #[.pointer (some ⟨tb,0,none⟩),.pointer (some ⟨p,0,none⟩),.int .i64 me] 114)=w2 at HL ⊢
 generalize hbt:w.heap.size=bt at HL ⊢
 have HBT:=Am_ hbt
 clear hbt
 go_upto_block 0 with fail
 go_wp2_with fail
 go_loopg [6,13] rs.length (fun g v6 v13 wr=> ∃ k:Nat,v13= .int .i64 k∧k+g=rs.length∧ ∃ A1 c1 acc,v6= .slice A1 acc.length c1∧acc.length=k∧ak (∃ okc s,iP p tb work me bt ok w rs AR okc s acc A1 c1 wr∧nO (rs.drop k) acc s=some res))
 case atStart=>exact ⟨0,rfl,by omega,none,0,[],rfl,rfl,⟨ok,s,HL.out,by have h:=HR.out;rwa [List.drop_zero]⟩⟩
 case round=>
  obtain ⟨k,rfl,hkg,A1,c1,acc,rfl,hla,HQ⟩:=hrel
  clear HL HR
  obtain ⟨okc,s1,hq,hr⟩:=HQ.out
  clear HQ
  have HS:=Am_ hq
  cases gk with
  | zero=>
   have d1:decide ((k:Int)<(rs.length:Int))=false:=decide_eq_false (by omega)
   have d2:decide (k<rs.length)=false:=decide_eq_false (by omega)
   have HR3:ak (dS (acc,true) s1=some res):=⟨by rw [List.drop_of_length_le (by omega)] at hr;exact hr⟩
   clear hq hr
   go_wp2_with fail
   (try simp only [Exit.inBlock,Exit.then])
   refine bodyPost_ret (dW (rs:= [.tmp 4,.tmp 5]) rfl (by simp) (.tmp (.tmp .nil))) rfl ?_
   obtain rfl:res=(.ret (acc,true),s1):=by have h:=HR3.out;injection h with h;exact h.symm
   exact ⟨⟨_,HS.out.task.moves,HS.out.task.run,_,rfl,A1,c1,rfl,Kd.bq HS.out.row (fun q hq=>hq.1)⟩⟩
  | succ g=>
   have d1:decide ((k:Int)<(rs.length:Int))=true:=decide_eq_true (by omega)
   have d2:decide (k<rs.length)=true:=decide_eq_true (by omega)
   have b1:(0:Int)≤(k:Int):=by omega
   have b2:(k:Int)<(rs.length:Int):=by omega
   have b3:k<rs.length:=by omega
   have hw1:wrap64 ((k:Int)+1)=((k+1:Nat):Int):=by have:=HK.out.1;unfold wrap64;omega
   have HW1:=Am_ hw1
   have HLX:ak (acc.length<1000):=⟨by have:=HK.out.1;omega⟩
   obtain ⟨gR,eA,hC,_⟩:=Hq hq.refs HK.out.2 k b3
   have hdr:rs.drop k=rs.getD k 0::rs.drop (k+1):=by
    rw [List.drop_eq_getElem_cons b3,List.getD_eq_getElem?_getD,List.getElem?_eq_getElem b3]
    rfl
   rw [hdr] at hr
   generalize rs.getD k 0=x at hC hr
   have hr:aU (loadT x) (fun x=>if x.2=0 then nO (rs.drop (k+1)) (acc++ [x.1]) else dS ([],false)) s1=some res:=hr
   obtain ⟨o,t,hd,hcase⟩:=aD hr
   have HD:=Am_ hd
   have HCS:=Am_ hcase
   clear hd hcase
   have c0:=HS.out.task.c0
   have c1_:=HS.out.task.c1
   have c2_:=HS.out.task.c2
   have HLA:=Am_ hla
   clear hr hq hdr hw1 hla
   subst eA
   go_upto_region 6 with (go_at_call 167;refine (xM p tb work me x _ _ _ HS.out.task.run (o,t) HD.out).mono ?_;rintro e wq ⟨okq,hm,hi,he⟩;rcases HCS.out with hw | hw;(obtain ⟨rfl,rfl⟩:=hw;obtain rfl:e= .panicked dx:=he;exact ⟨rfl,⟨⟨okq,HS.out.task.moves.trans hm,hi,rfl⟩⟩⟩);obtain ⟨a,rfl,hr2⟩:=hw;obtain ⟨_,rfl,cs,rfl,hM⟩:=he;obtain ⟨Ap,cp,Ak,ck,Ay,cy,Aw,cw,rfl,_⟩:=Iz (kSn.K_of_M hM);have HM:=Am_ (HS.out.part hm hM);have HS5:=Am_ (HS.out.next hm (HS.out.task.next hm hi));have HR2:=Am_ hr2;have c9:=bU wq (.cells #[.int .i64 a.1.ref,.int .i64 a.1.info,.bool a.1.node.inner,.bool a.1.node.tagged,.slice Ap a.1.node.pairs.length cp,.slice Ak a.1.node.keys.length ck,.slice Ay a.1.node.ways.length cy,.slice Aw a.1.ways.length cw] 195);clear hm hi hr2 hM c0 c1_ c2_)
   have HS6:=Am_ (HS5.out.alloc (.cells #[.int .i64 a.1.ref,.int .i64 a.1.info,.bool a.1.node.inner,.bool a.1.node.tagged,.slice Ap a.1.node.pairs.length cp,.slice Ak a.1.node.keys.length ck,.slice Ay a.1.node.ways.length cy,.slice Aw a.1.ways.length cw] 195))
   have HM6:=Am_ (And.intro (Kd.yL HM.out.1 (w1:=wq.alloc (.cells #[.int .i64 a.1.ref,.int .i64 a.1.info,.bool a.1.node.inner,.bool a.1.node.tagged,.slice Ap a.1.node.pairs.length cp,.slice Ak a.1.node.keys.length ck,.slice Ay a.1.node.ways.length cy,.slice Aw a.1.ways.length cw] 195)) (fun k _ hlt=>Below.heap_alloc _ _ _ hlt)) HM.out.2)
   clear hC HD HCS HS HS5 HM
   generalize wq.alloc (.cells #[.int .i64 a.1.ref,.int .i64 a.1.info,.bool a.1.node.inner,.bool a.1.node.tagged,.slice Ap a.1.node.pairs.length cp,.slice Ak a.1.node.keys.length ck,.slice Ay a.1.node.ways.length cy,.slice Aw a.1.ways.length cw] 195)=w6 at HS6 HM6 c9 ⊢
   generalize wq.heap.size=n6 at HM6 c9 ⊢
   generalize wr.heap.size=n5 at HM6
   have HB9:=Am_ c9
   clear c9
   by_cases h0:a.2=0
   ·have e1:(a.2 != 0)=false:=by simp [h0]
    have HR3:ak (nO (rs.drop (k+1)) (acc++ [a.1]) t=some res):=⟨by have h:=HR2.out;rw [if_pos h0] at h;exact h⟩
    clear h0 HR2
    have y0:=(af HB9.out 0).trans (rfl:_=some (Value.int .i64 a.1.ref))
    have y1:=(af HB9.out 1).trans (rfl:_=some (Value.int .i64 a.1.info))
    have y2:=(af HB9.out 2).trans (rfl:_=some (Value.bool a.1.node.inner))
    have y3:=(af HB9.out 3).trans (rfl:_=some (Value.bool a.1.node.tagged))
    have y4:=(af HB9.out 4).trans (rfl:_=some (Value.slice Ap a.1.node.pairs.length cp))
    have y5:=(af HB9.out 5).trans (rfl:_=some (Value.slice Ak a.1.node.keys.length ck))
    have y6:=(af HB9.out 6).trans (rfl:_=some (Value.slice Ay a.1.node.ways.length cy))
    have y7:=(af HB9.out 7).trans (rfl:_=some (Value.slice Aw a.1.ways.length cw))
    go_upto_region 9 with ((with_reducible refine bW (b:= .append) (xs:= #[.tmp 25,.tmp 27]) rfl ?_);at_builtin;refine Kd.iy kSn (w0:=w6) w.heap.size rfl (.tmp 25) (.tmp 27) 191 195 (.agg #[.int .i64 0,.int .i64 0,.bool false,.bool false,.slice none 0 0,.slice none 0 0,.slice none 0 0,.slice none 0 0]) 120 rfl Tryz.underlying191 Bd rfl (by decide) (by omega) (.slice A1 acc.length c1) acc a.1 [.int .i64 a.1.ref,.int .i64 a.1.info,.bool a.1.node.inner,.bool a.1.node.tagged,.slice Ap a.1.node.pairs.length cp,.slice Ak a.1.node.keys.length ck,.slice Ay a.1.node.ways.length cy,.slice Aw a.1.ways.length cw] (Fr okq (fun q=>q≠bt)) (fun k=> ¬ okq k∧n5≤k∧k<n6) rfl rfl HM6.out.1 HM6.out.2 HS6.out.fresh HS6.out.row (Below.refl _ _) HS6.out.task.moves.size (by have:=HLX.out;omega) ?_;intro v8 w8 ho hb8 hg hat;obtain ⟨A8,c8,rfl⟩:=Kd.aJ ho;have HS8:=Am_ (HS6.out.push ho hg);clear ho hb8 hg hat)
    clear y0 y1 y2 y3 y4 y5 y6 y7 HB9 HS6 HM6 e1
    go_wp2_with fail
    go_roundg g
    case rel=>exact ⟨k+1,by first | rfl | rw [HW1.out],by omega,A8,c8,acc++ [a.1],by first | rfl | simp,by rw [List.length_append,List.length_singleton,HLA.out],⟨okq,t,HS8.out,HR3.out⟩⟩
    case measure=>omega
   ·have e1:(a.2 != 0)=true:=by simpa using h0
    have HR3:ak (dS ([],false) t=some res):=⟨by have h:=HR2.out;rw [if_neg h0] at h;exact h⟩
    clear h0 HR2
    go_wp2_with fail
    (try simp only [Exit.inBlock,Exit.then])
    refine bodyPost_ret (dW (rs:= [.tmp 4,.tmp 5]) rfl (by simp) (.tmp (.tmp .nil))) rfl ?_
    obtain rfl:res=(.ret ([],false),t):=by have h:=HR3.out;injection h with h;exact h.symm
    exact ⟨⟨_,HS6.out.task.moves,HS6.out.task.run,_,rfl,none,0,rfl,Kd.fI _ _ _ _ _⟩⟩
theorem xH (s:Sn) (way r:Int) (w:World) {D:Nat→Prop} {Ap Ak Ay Aw:Option Addr} {cp ck cy cw:Nat} (hF:SnF w D s Ap cp Ak ck Ay cy Aw cw):
  Calls Tryz.prog 118 #[.agg (Ls s Ap cp Ak ck Ay cy Aw cw).toArray,.int .i64 way,.int .i64 r] w fun e w1=>e= .returned (.bool (ql s way r))∧Below w.heap.size w w1:=by
 have HX:(Ls s Ap cp Ak ck Ay cy Aw cw).toArray= #[.int .i64 s.ref,.int .i64 s.info,.bool s.node.inner,.bool s.node.tagged,.slice Ap s.node.pairs.length cp,.slice Ak s.node.keys.length ck,.slice Ay s.node.ways.length cy,.slice Aw s.ways.length cw]:=rfl
 rw [HX]
 clear HX
 have HB:=Am_ (ai (Below.refl w.heap.size w) (.cells #[.int .i64 s.ref,.int .i64 s.info,.bool s.node.inner,.bool s.node.tagged,.slice Ap s.node.pairs.length cp,.slice Ak s.node.keys.length ck,.slice Ay s.node.ways.length cy,.slice Aw s.ways.length cw] 195))
 have y7:=(af (bU w (.cells #[.int .i64 s.ref,.int .i64 s.info,.bool s.node.inner,.bool s.node.tagged,.slice Ap s.node.pairs.length cp,.slice Ak s.node.keys.length ck,.slice Ay s.node.ways.length cy,.slice Aw s.ways.length cw] 195)) 7).trans (rfl:_=some (Value.slice Aw s.ways.length cw))
 have hC:=Kd.bO (Kd.gu hF.now) HB.out
 clear hF
 by_cases h0:0≤way
 ·have d0:decide (way≥0)=true:=decide_eq_true h0
  have d0':decide (0≤way)=true:=decide_eq_true h0
  by_cases h1:way<s.ways.length
  ·have d1:decide (way<(s.ways.length:Int))=true:=decide_eq_true h1
   have HG:ak (ql s way r=(s.ways.getD way.toNat 0 == r)):=⟨by unfold ql;rw [decide_eq_true h0,decide_eq_true h1];rfl⟩
   obtain ⟨ad,rfl,hc⟩:=Kd.kG hC way h0 h1
   have hx:rd s.ways way=s.ways.getD way.toNat 0:=rfl
   rw [hx] at hc
   clear hC hx
   generalize s.ways.getD way.toNat 0=gv at hc HG
   go_enter Tryz.func118,Tryz.ntmps118
   go_wp2_with fail
   go_ret
   exact ⟨by rw [HG.out];rfl,HB.out⟩
  ·have d1:decide (way<(s.ways.length:Int))=false:=decide_eq_false h1
   have HG:ak (ql s way r=false):=⟨by unfold ql;rw [decide_eq_true h0,decide_eq_false h1];rfl⟩
   clear hC
   go_enter Tryz.func118,Tryz.ntmps118
   go_wp2_with fail
   go_ret
   exact ⟨by rw [HG.out];rfl,HB.out⟩
 ·have d0:decide (way≥0)=false:=decide_eq_false h0
  have d0':decide (0≤way)=false:=decide_eq_false h0
  have HG:ak (ql s way r=false):=⟨by unfold ql;rw [decide_eq_false h0];rfl⟩
  clear hC
  go_enter Tryz.func118,Tryz.ntmps118
  go_wp2_with fail
  go_ret
  exact ⟨by rw [HG.out];rfl,HB.out⟩
def vF:Bool × List (List Nat × List Nat):=(true,[([],[]),([0],[0]),([],[]),([2],[2]),([3],[3]),([4],[4]),([5],[5]),([6],[6]),([1,7],[1,7]),([],[]),([9,8,8,0,1,2,3,4,5,6,7,8,9],[8,9])])
def CV:List Nat:= [0,1,0,4,12,28,60,124,255,0,1023]
theorem yF:fq .any (opsOf Tryz.f123 4)=vF:=by kernel_rfl
theorem tL:bA vF.2 CV=true:=by kernel_rfl
def nK (me:Int):List Int→Pr Ws Unit
 | []=>dS ()
 | r::l=>aU Lf fun n=>aU (Bh me r n) fun _=>nK me l
structure gD (p tb:Nat) (work:Value) (me:Int) (bt:Nat) (ok:Nat→Prop) (w:World) (rs:List Int) (AR:Option Addr) (okc:Nat→Prop) (s:TS Ws) (wc:World):Prop where
 task:aH p tb work me bt ok w okc s wc
 refs:(Kd.int .i64).F wc (fun q=> ¬ okc q∧q<w.heap.size) AR rs.length rs
section
variable {p tb:Nat} {work:Value} {me:Int} {bt:Nat} {ok okc okq:Nat→Prop} {w wc wq w2:World} {rs:List Int} {AR:Option Addr} {s s2:TS Ws}
theorem gD.next (h:gD p tb work me bt ok w rs AR okc s wc) (m:Moves okc okq wc wq) (t:aH p tb work me bt ok w okq s2 wq):gD p tb work me bt ok w rs AR okq s2 wq:=
 ⟨t,Kd.dh (Kd.eU (Kd.dX h.refs) (fun k hk hlt=>m.block k hlt hk.1.1)) (fun k hk=>⟨fun h1=>(m.fresh k h1).elim hk.1.1 (fun h2=>by have:=hk.2;omega),hk.1.2⟩)⟩
theorem gD.alloc (h:gD p tb work me bt ok w rs AR okc s wc) (o:Obj):gD p tb work me bt ok w rs AR okc s (wc.alloc o):=h.next ((Moves.refl _ _).alloc o) (h.task.alloc o)
theorem gD.drew (h:gD p tb work me bt ok w rs AR okc s wc):gD p tb work me bt ok w rs AR okc s wc.drew:=h.next ((Moves.refl _ _).drew) h.task.drew
theorem gD.set (h:gD p tb work me bt ok w rs AR okc s wc) {q:Addr} (hn: ¬ okc q.block) (hw:w.heap.size≤q.block) (h1:q.block≠bt) (u:Value):gD p tb work me bt ok w rs AR okc s (wc.setCell q u):=
 ⟨h.task.set hn hw h1 u,Kd.kX h.refs (fun k hk e=>by have:=hk.2;omega) u⟩
end
theorem rJ (p tb:Nat) (work:Value) (me:Int) (ok:Nat→Prop) (s:TS Ws) (w:World) (rs:List Int) (AR:Option Addr) (c:Nat) (h:dN (shW p) tb work ok s w) (hl:(Kd.int .i64).F w (fun k=> ¬ ok k) AR rs.length rs) (hfl:Flat AR) (hsm:rs.length<1000000) (res:Out Unit × TS Ws) (hr:nK me rs s=some res):
  Calls Tryz.prog 123 #[eP tb p me,.slice AR rs.length c] w (fQ (shW p) tb work Di ok w res):=by
 have HTV:eP tb p me= .agg #[.pointer (some ⟨tb,0,none⟩),.pointer (some ⟨p,0,none⟩),.int .i64 me]:=rfl
 rw [HTV]
 have h0:=aH.enter (me:=me) h
 unfold fC at h0
 have HL:ak (gD p tb work me w.heap.size ok w rs AR ok s (w.alloc (.cells #[.pointer (some ⟨tb,0,none⟩),.pointer (some ⟨p,0,none⟩),.int .i64 me] 114))):=⟨{
  task:=h0
  refs:=Kd.eD (Kd.dX hl) _ }⟩
 have HR:=Am_ hr
 have HK:=Am_ (And.intro hsm hfl)
 clear h h0 hr HTV hl hsm hfl
 go_enter Tryz.func123,Tryz.ntmps123
 go_upto_region 1 with fail
 generalize w.alloc (.cells #[.pointer (some ⟨tb,0,none⟩),.pointer (some ⟨p,0,none⟩),.int .i64 me] 114)=w2 at HL ⊢
 generalize hbt:w.heap.size=bt at HL ⊢
 have HBT:=Am_ hbt
 clear hbt
 go_upto_block 0 with fail
 go_wp2_with fail
 go_loopg [9] rs.length (fun g v9 wr=> ∃ k:Nat,v9= .int .i64 k∧k+g=rs.length∧ak (∃ okc s,gD p tb work me bt ok w rs AR okc s wr∧nK me (rs.drop k) s=some res))
 case atStart=>exact ⟨0,rfl,by omega,⟨ok,s,HL.out,by have h:=HR.out;rwa [List.drop_zero]⟩⟩
 case round=>
  obtain ⟨k,rfl,hkg,HQ⟩:=hrel
  clear HL HR
  obtain ⟨okc,s1,hq,hr⟩:=HQ.out
  clear HQ
  have HS:=Am_ hq
  cases gk with
  | zero=>
   have d1:decide ((k:Int)<(rs.length:Int))=false:=decide_eq_false (by omega)
   have d2:decide (k<rs.length)=false:=decide_eq_false (by omega)
   have HR3:ak (dS () s1=some res):=⟨by rw [List.drop_of_length_le (by omega)] at hr;exact hr⟩
   clear hq hr
   go_wp2_with fail
   go_end0
   obtain rfl:res=(.ret (),s1):=by have h:=HR3.out;injection h with h;exact h.symm
   exact ⟨⟨_,HS.out.task.moves,HS.out.task.run,_,rfl,rfl⟩⟩
  | succ g=>
   have d1:decide ((k:Int)<(rs.length:Int))=true:=decide_eq_true (by omega)
   have d2:decide (k<rs.length)=true:=decide_eq_true (by omega)
   have b1:(0:Int)≤(k:Int):=by omega
   have b2:(k:Int)<(rs.length:Int):=by omega
   have b3:k<rs.length:=by omega
   have hw1:wrap64 ((k:Int)+1)=((k+1:Nat):Int):=by have:=HK.out.1;unfold wrap64;omega
   have HW1:=Am_ hw1
   obtain ⟨gR,eA,hC,_⟩:=Hq hq.refs HK.out.2 k b3
   have hdr:rs.drop k=rs.getD k 0::rs.drop (k+1):=by
    rw [List.drop_eq_getElem_cons b3,List.getD_eq_getElem?_getD,List.getElem?_eq_getElem b3]
    rfl
   rw [hdr] at hr
   generalize rs.getD k 0=x at hC hr
   have hr:aU Lf (fun n=>aU (Bh me x n) fun _=>nK me (rs.drop (k+1))) s1=some res:=hr
   obtain ⟨o,t,hd,hcase⟩:=aD hr
   have HBX:=Am_ (Mine.new hq.task.lt (.cells #[.int .i64 x] 45))
   clear hr hq hdr hw1
   subst eA
   go_upto_region 4 with fail
   clear hC
   have HS:=Am_ (HS.out.alloc (.cells #[.int .i64 x] 45))
   generalize wr.alloc (.cells #[.int .i64 x] 45)=w1 at HS HBX ⊢
   generalize wr.heap.size=bx at HBX ⊢
   obtain ⟨pE,hpE⟩:=HS.out.task.pE
   have HC:=Am_ (And.intro HS.out.task.c0 (And.intro HS.out.task.c1 hpE))
   clear hpE
   refine bG (n:=11) (S:=fun w'=>w'.cell? ⟨bt,0,none⟩=some (.pointer (some ⟨tb,0,none⟩))∧w'.cell? ⟨bt,1,none⟩=some (.pointer (some ⟨p,0,none⟩))∧w'.cell? ⟨p,2,none⟩=some (.pointer (some ⟨pE,0,none⟩))) (ds:= [8,10]) (by kernel_rfl) rfl yF tL HC.out (fun hHeld HT_ HW_=>?_)
   have HS:=Am_ HS.out.drew
   have HBX:=Am_ (HBX.out.moves ((Moves.refl _ _).drew))
   clear HC
   generalize World.drew _=w1 at HS HBX hHeld ⊢
   refine eO [(0,some 13),(1,some 14),(2,some 15),(3,some 16),(4,some 17),(5,some 18),(6,some 19),(7,some 20)] ?_
   (refine dZ (v:=?_) (a':=?_) HT_ (by kernel_rfl) rfl rfl (fun _ _ _ h=>h) (Or.inl ⟨by rfl,?_⟩) ?_ ?_;rotate_left;(intro w';go_simp;with_reducible rfl);rotate_left;(simp only [Act.put,p1_,p2_,p3_,ax,ay];rfl))
   iterate 7 (refine iW (v:=?_) (a':=?_) HT_ HW_ (by kernel_rfl) rfl rfl (fun _ _ _ h=>h) hHeld (Or.inl ⟨by rfl,?_⟩) ?_ ?_;rotate_left;(rintro w' ⟨s0,s1,s2⟩;go_simp;with_reducible rfl);rotate_left;(simp only [Act.put,p1_,p2_,p3_,ax,ay];rfl))
   refine aZ ?_
   refine Fe (i:=8) (j:=9) (Ni:=some 21) (Nj:=some 6) #[Y_,Y_,Y_,Y_,Y_,Y_,Y_,Y_,Y_,N_,N_] #[Y_,Y_,Y_,Y_,Y_,Y_,Y_,Y_,N_,Y_,N_] rfl rfl rfl rfl (by kernel_rfl) (fun K_ hK=>?_) (fun K_ hK=>?_)
   ·refine kJ 137 #[.pointer (some ⟨tb,0,none⟩),.func (.func 148) #[.pointer (some ⟨pE,0,none⟩)] #[]] (by rfl) rfl ?hr8 ?_
    (case hr8=>first | (go_simp;done) | (go_simp;exact enters Tryz.func137 (by kernel_rfl) rfl _ _))
    refine (HS.out.task.Lg hHeld.2.2 hd).mono ?_
    rintro e w2 ⟨⟨ok1,hm,hT,he⟩⟩
    rcases hcase with ⟨rfl,rfl⟩ | ⟨n,rfl,hr2⟩
    ·obtain rfl:e= .panicked dx:=he
     exact .inr ⟨dx,rfl,rfl,⟨⟨ok1,hT.moves,hT.run,rfl⟩⟩⟩
    obtain rfl:e= .returned (oD n):=he
    refine .inl ⟨.int .i64 n,rfl,?_⟩
    refine hK.out _ _ (fun h=>absurd (by decide) h) ?_
    clear hK K_
    refine bK (a':=?_) ?_ ?_
    rotate_left; · show Act.put _ (some 21) _=_;simp only [Act.put,p1_,p2_,p3_,ax,ay];rfl
    have hb:ak (w.heap.size≤w2.heap.size∧w2.heap.size≠bt∧w2.heap.size≠bx):=⟨by have:=hT.moves.size;have:=hT.box.lt;have:=(HBX.out.moves hm).lt;omega⟩
    refine xS (i:=9) (N:=some 6) #[Y_,Y_,Y_,Y_,Y_,Y_,Y_,Y_,Y_,Y_,N_] rfl rfl (by kernel_rfl) (fun K_ hK=>?_)
    refine fT (v:= .pointer (some ⟨w2.heap.size,0,none⟩)) (w1:=w2.alloc (jE 0)) (by rfl) rfl ?ha9 ?_
    (case ha9=>go_simp;first | done | rfl)
    refine hK.out _ _ (fun _ hS=>⟨aj (ai (Below.refl _ _) _) hS.1,aj (ai (Below.refl _ _) _) hS.2.1,aj (ai (Below.refl _ _) _) hS.2.2⟩) ?_
    clear hK K_
    refine bK (a':=?_) ?_ ?_
    rotate_left; · show Act.put _ (some 6) _=_;simp only [Act.put,p1_,p2_,p3_,ax,ay];rfl
    have HNE:ak (w.heap.size≤w2.heap.size∧w2.heap.size≠bt∧w2.heap.size≠bx):=hb
    have HB:=Am_ (Mine.new hT.lt (jE 0))
    have HBX:=Am_ ((HBX.out.moves hm).alloc (jE 0))
    have HS2:=Am_ ((HS.out.next hm hT).alloc (jE 0))
    have HR2:=Am_ hr2
    clear hb hm hT hr2 HS hHeld
    generalize w2.alloc (jE 0)=w3 at HB HBX HS2 ⊢
    generalize w2.heap.size=bn at HB HNE ⊢
    generalize ok1=okn at HB HBX HS2
    have k0:=(af HB.out.1 0).trans (rfl:_=some (Value.int .i64 0))
    have z0:=ah HB.out.1 0
    refine jI (i:=10) (N:=none) #[Y_,Y_,Y_,Y_,Y_,Y_,Y_,Y_,Y_,Y_,Y_] rfl rfl (by kernel_rfl) (by decide) (fun K_ hK=>?_)
    refine fB (w1:=w3.setCell ⟨bn,0,none⟩ (.int .i64 n)) (by rfl) rfl ?_ ?_
    ·go_simp
    refine hK.out _ _ ?_
    clear hK K_
    refine dD (by kernel_rfl) ?_
    clear k0 z0
    have HS3:=Am_ (HS2.out.set (q:=⟨bn,0,none⟩) HB.out.2 HNE.out.1 HNE.out.2.1 (.int .i64 n))
    have HBX:=Am_ (HBX.out.far (p:=⟨bn,0,none⟩) HNE.out.2.2 (.int .i64 n))
    have HB:ak (Mine okn (w3.setCell ⟨bn,0,none⟩ (.int .i64 n)) bn (jE n)):=⟨HB.out.set 0 (.int .i64 n)⟩
    clear HS2
    generalize w3.setCell ⟨bn,0,none⟩ (.int .i64 n)=w4 at HS3 HBX HB ⊢
    obtain ⟨o,t6,hd,hcase⟩:=aD HR2.out
    have HD:=Am_ hd
    have HCS:=Am_ hcase
    clear hd hcase HR2
    have c0:=HS3.out.task.c0
    go_wp2_with (go_at_call 137;refine (HS3.out.task.Gj HBX.out HB.out HD.out).mono ?_;rintro e wq ⟨⟨okq,hm,hT,he⟩⟩;rcases HCS.out with hw | hw;(obtain ⟨rfl,rfl⟩:=hw;obtain rfl:e= .panicked dx:=he;exact ⟨rfl,⟨⟨okq,hT.moves,hT.run,rfl⟩⟩⟩);obtain ⟨a3,rfl,hr3⟩:=hw;obtain rfl:e= .returned (.int .i64 a3):=he;have HS4:=Am_ (HS3.out.next hm hT);have HR4:=Am_ hr3;clear hm hT hr3 c0)
    go_roundg g
    case rel=>exact ⟨k+1,by first | rfl | rw [HW1.out],by omega,⟨okq,t6,HS4.out,HR4.out⟩⟩
    case measure=>omega
   ·refine fT (v:= .pointer (some ⟨w1.heap.size,0,none⟩)) (w1:=w1.alloc (jE 0)) (by rfl) rfl ?hb9 ?_
    (case hb9=>go_simp;first | done | rfl)
    refine hK.out _ _ (fun _ hS=>⟨aj (ai (Below.refl _ _) _) hS.1,aj (ai (Below.refl _ _) _) hS.2.1,aj (ai (Below.refl _ _) _) hS.2.2⟩) ?_
    clear hK K_
    refine bK (a':=?_) ?_ ?_
    rotate_left; · show Act.put _ (some 6) _=_;simp only [Act.put,p1_,p2_,p3_,ax,ay];rfl
    have HNE:ak (w.heap.size≤w1.heap.size∧w1.heap.size≠bt∧w1.heap.size≠bx):=⟨by have:=HS.out.task.moves.size;have:=HS.out.task.box.lt;have:=HBX.out.lt;omega⟩
    have HB:=Am_ (Mine.new HS.out.task.lt (jE 0))
    have HS:=Am_ (HS.out.alloc (jE 0))
    have HBX:=Am_ (HBX.out.alloc (jE 0))
    have hHeld:(_∧_∧_):=⟨aj (ai (Below.refl _ _) (jE 0)) hHeld.1,aj (ai (Below.refl _ _) (jE 0)) hHeld.2.1,aj (ai (Below.refl _ _) (jE 0)) hHeld.2.2⟩
    generalize w1.heap.size=bn at HB HNE ⊢
    generalize w1.alloc (jE 0)=w1 at HB HS HBX hHeld ⊢
    refine xS (i:=8) (N:=some 21) #[Y_,Y_,Y_,Y_,Y_,Y_,Y_,Y_,Y_,Y_,N_] rfl rfl (by kernel_rfl) (fun K_ hK=>?_)
    refine kJ 137 #[.pointer (some ⟨tb,0,none⟩),.func (.func 148) #[.pointer (some ⟨pE,0,none⟩)] #[]] (by rfl) rfl ?hr8b ?_
    (case hr8b=>first | (go_simp;done) | (go_simp;exact enters Tryz.func137 (by kernel_rfl) rfl _ _))
    refine (HS.out.task.Lg hHeld.2.2 hd).mono ?_
    rintro e w2 ⟨⟨ok1,hm,hT,he⟩⟩
    rcases hcase with ⟨rfl,rfl⟩ | ⟨n,rfl,hr2⟩
    ·obtain rfl:e= .panicked dx:=he
     exact .inr ⟨dx,rfl,rfl,⟨⟨ok1,hT.moves,hT.run,rfl⟩⟩⟩
    obtain rfl:e= .returned (oD n):=he
    refine .inl ⟨.int .i64 n,rfl,?_⟩
    refine hK.out _ _ (fun h=>absurd (by decide) h) ?_
    clear hK K_
    refine bK (a':=?_) ?_ ?_
    rotate_left; · show Act.put _ (some 21) _=_;simp only [Act.put,p1_,p2_,p3_,ax,ay];rfl
    have HB:=Am_ (HB.out.moves hm)
    have HBX:=Am_ (HBX.out.moves hm)
    have HS2:=Am_ (HS.out.next hm hT)
    have HR2:=Am_ hr2
    clear hm hT hr2 HS hHeld
    generalize w2=w3 at HB HBX HS2 ⊢
    generalize ok1=okn at HB HBX HS2
    have k0:=(af HB.out.1 0).trans (rfl:_=some (Value.int .i64 0))
    have z0:=ah HB.out.1 0
    refine jI (i:=10) (N:=none) #[Y_,Y_,Y_,Y_,Y_,Y_,Y_,Y_,Y_,Y_,Y_] rfl rfl (by kernel_rfl) (by decide) (fun K_ hK=>?_)
    refine fB (w1:=w3.setCell ⟨bn,0,none⟩ (.int .i64 n)) (by rfl) rfl ?_ ?_
    ·go_simp
    refine hK.out _ _ ?_
    clear hK K_
    refine dD (by kernel_rfl) ?_
    clear k0 z0
    have HS3:=Am_ (HS2.out.set (q:=⟨bn,0,none⟩) HB.out.2 HNE.out.1 HNE.out.2.1 (.int .i64 n))
    have HBX:=Am_ (HBX.out.far (p:=⟨bn,0,none⟩) HNE.out.2.2 (.int .i64 n))
    have HB:ak (Mine okn (w3.setCell ⟨bn,0,none⟩ (.int .i64 n)) bn (jE n)):=⟨HB.out.set 0 (.int .i64 n)⟩
    clear HS2
    generalize w3.setCell ⟨bn,0,none⟩ (.int .i64 n)=w4 at HS3 HBX HB ⊢
    obtain ⟨o,t6,hd,hcase⟩:=aD HR2.out
    have HD:=Am_ hd
    have HCS:=Am_ hcase
    clear hd hcase HR2
    have c0:=HS3.out.task.c0
    go_wp2_with (go_at_call 137;refine (HS3.out.task.Gj HBX.out HB.out HD.out).mono ?_;rintro e wq ⟨⟨okq,hm,hT,he⟩⟩;rcases HCS.out with hw | hw;(obtain ⟨rfl,rfl⟩:=hw;obtain rfl:e= .panicked dx:=he;exact ⟨rfl,⟨⟨okq,hT.moves,hT.run,rfl⟩⟩⟩);obtain ⟨a3,rfl,hr3⟩:=hw;obtain rfl:e= .returned (.int .i64 a3):=he;have HS4:=Am_ (HS3.out.next hm hT);have HR4:=Am_ hr3;clear hm hT hr3 c0)
    go_roundg g
    case rel=>exact ⟨k+1,by first | rfl | rw [HW1.out],by omega,⟨okq,t6,HS4.out,HR4.out⟩⟩
    case measure=>omega
theorem tq {P:Program} (t u ty e e1:TypeId) (v x:Value) (w:World) {i:TypeInfo} (hi:P.info? e=some i) (ht:P.underlying t=some (.slice e)) (hu:P.underlying u=some (.slice e1)):(Builtin.append_ #[t,u] ty #[v,x]).run P w=(Builtin.append_ #[t,t] ty #[v,x]).run P w:=by
 cases v<;>simp [Builtin.append_,run_underlying ht,run_underlying hu,sizeOf,typeInfo,hi]
section
variable {P:Program} {ops:Array Oper} {rest:List Oper} {o:Oper} {a:Act} {Q:Exit→Act→World→Prop} {α:Type}
theorem kF (d:Kd α) {W:World} (base:Nat) (hgd:o.guard=none) (s x:Operand) (t u e e1:TypeId) (z:Value) (bytes:Nat)
  (ho:o.op= .call { callee:= .builtin .append,args:= #[s,x],argTypes:= #[t,u] })
  (ht:P.underlying t=some (.slice e)) (hu:P.underlying u=some (.slice e1)) (hinfo:(P.info? e).map (fun i=>(i.zero,i.size,i.bytes))=some (some z,d.sz,bytes)) (hz:z.cells.size=d.sz) (hs0:0<d.sz) (hb0:0<bytes)
  (v:Value) (xs:List α) (p:α) (cs:List Value) (ad:Addr) (c:Nat) (ok okp:Nat→Prop) (hs:a.eval s=v) (hx:a.eval x= .slice (some ad) 1 c) (hcs: ∀ j u,cs[j]?=some u→W.cell? (ad.add j)=some u) (hp:d.M W base okp p cs) (hokp: ∀ k,okp k→ok k∧some k≠v.ownBlock) (hfresh: ∀ k,W.heap.size≤k→ok k)
  (HO:d.R e W base ok v xs) (hbase:base≤W.heap.size) (hl:(xs.length+1)*bytes≤140737488355328)
  (h: ∀ v1 w1,d.R e w1 base ok v1 (xs++ [p])→W.grownBy w1 v.ownBlock→wpList P ops Q rest (a.put o.dst v1) w1):
  wpList P ops Q (o::rest) a W:=by
 obtain ⟨i0,hi,hzz⟩:=Option.map_eq_some_iff.1 hinfo
 simp only [Prod.mk.injEq] at hzz
 obtain ⟨hz0,hz1,hz2⟩:=hzz
 have hlen:xs.length+1≤140737488355328:=Nat.le_trans (Nat.le_mul_of_pos_right _ hb0) hl
 obtain ⟨hok,inner,hown,hr⟩:=HO
 obtain ⟨v1,w1,hrun,h2,hg,_,hat⟩:=run_append_own_at (P:=P) W base t o.type e i0 z d.sz bytes ht hi hz0 hz1 hz2 hz hs0 v xs.length inner hown ad 1 c cs (by rw [d.K_len (d.K_of_M hp),Nat.one_mul]) hcs (d.K_one (d.K_of_M hp)) (by simp only [maxLen];omega) hl hbase
 have hR:=Kd.kZ hok hr hp hokp hfresh h2 hg (hat.imp id (fun e=>⟨_,e,Nat.le_refl _⟩))
 refine wpList_plain hgd fun K hK=>?_
 unfold Oper.wp execOp
 simp only [ho,resolve,invoke,builtin,Sem.run_bind,Sem.run_pure,Result.andThen_ok,List.map_toArray,List.map_cons,List.map_nil,hs,hx,tq t u o.type e e1 _ _ W hi ht hu,hrun]
 exact hK _ _ (h v1 w1 hR hg)
end
theorem xJ (A:Option Addr) (c:Nat) (xs:List (Int × Int)) (bv:Nat) (x:Int × Int) (N:Nat) (ok:Nat→Prop) (w:World) (hR:dw.R 121 w N ok (.slice A xs.length c) xs) (hv0:w.cell? ⟨bv,0,none⟩=some (.int .i64 x.1)) (hv1:w.cell? ⟨bv,1,none⟩=some (.int .i64 x.2)) (hN:N≤w.heap.size) (hf: ∀ k,w.heap.size≤k→ok k) (hl:xs.length<1000000):
  Calls Tryz.prog 169 #[.slice A xs.length c,.int .i64 (xs.length:Nat),.slice (some ⟨bv,0,none⟩) 1 1] w fun e w1=> ∃ v,e= .returned v∧dw.R 121 w1 N ok v (xs++ [x])∧w.grownBy w1 (Value.slice A xs.length c).ownBlock:=by
 have hc:=(Kd.bM hR).2.1
 have h0:(0:Int)≤(xs.length:Int):=by omega
 have h1:(xs.length:Int)≤(xs.length:Int):=by omega
 have h2:(xs.length:Int)≤(c:Int):=by omega
 have HR:=Am_ hR
 have HV:ak (∀ j u,([.int .i64 x.1,.int .i64 x.2]:List Value)[j]?=some u→w.cell? ((⟨bv,0,none⟩:Addr).add j)=some u):=⟨fun j u hj=>by
  rw [jf,Nat.zero_add]
  match j,hj with
  | 0,hj=>injection hj with hj;rw [←hj];exact hv0
  | 1,hj=>injection hj with hj;rw [←hj];exact hv1
  | n+2,hj=>cases hj⟩
 have HX:=Am_ (And.intro hN (And.intro hf hl))
 clear hR hv0 hv1 hN hf hl
 rcases Nat.lt_or_ge xs.length c with hlt | hge
 ·have hne: ¬ c=xs.length:=by omega
  have hne2: ¬ xs.length=c:=by omega
  go_enter Tryz.func169,Tryz.ntmps169
  go_upto_region 7 with fail
  go_wp2_with (first | ((with_reducible refine bW (b:= .append) (xs:= #[.tmp 23,.tmp 24]) rfl ?_);at_builtin;refine kF dw N rfl (.tmp 23) (.tmp 24) 26 25 121 121 (.agg #[.int .i64 0,.int .i64 0]) 16 rfl Tryz.underlying26 Tryz.underlying25 ji rfl (by decide) (by omega) (.slice A xs.length c) xs x [.int .i64 x.1,.int .i64 x.2] ⟨bv,0,none⟩ 1 ok (fun _=>False) rfl rfl HV.out ⟨_,_,rfl,rfl,rfl⟩ (fun _ hk=>hk.elim) HX.out.2.1 HR.out HX.out.1 (by have:=HX.out.2.2;omega) ?_;intro v5 w5 ho hg;have HO:=Am_ ho;have HG:=Am_ hg;clear ho hg))
  go_ret
  exact ⟨_,rfl,HO.out,HG.out⟩
 ·obtain rfl:c=xs.length:=by omega
  go_enter Tryz.func169,Tryz.ntmps169
  go_upto_region 7 with fail
  go_wp2_with (first | ((with_reducible refine bW (b:= .append) (xs:= #[.tmp 23,.tmp 24]) rfl ?_);at_builtin;refine kF dw N rfl (.tmp 23) (.tmp 24) 26 25 121 121 (.agg #[.int .i64 0,.int .i64 0]) 16 rfl Tryz.underlying26 Tryz.underlying25 ji rfl (by decide) (by omega) (.slice A xs.length xs.length) xs x [.int .i64 x.1,.int .i64 x.2] ⟨bv,0,none⟩ 1 ok (fun _=>False) rfl rfl HV.out ⟨_,_,rfl,rfl,rfl⟩ (fun _ hk=>hk.elim) HX.out.2.1 HR.out HX.out.1 (by have:=HX.out.2.2;omega) ?_;intro v5 w5 ho hg;have HO:=Am_ ho;have HG:=Am_ hg;clear ho hg))
  go_ret
  exact ⟨_,rfl,HO.out,HG.out⟩
theorem uy (A:Option Addr) (c:Nat) (xs:List (Int × Int)) (k v:Int) (w:World) (hr:dw.C w A xs.length xs) (hl:xs.length<999999) (hnf:gm (kL xs) k=false) (hat:bs (kL xs) k 0 xs.length=xs.length):
  Calls Tryz.prog 119 #[.slice A xs.length c,.int .i64 k,.int .i64 v] w fun e w1=> ∃ u,e= .returned (.tuple #[u,.int .i64 0,.bool false])∧dw.R 121 w1 w.heap.size (fun q=>w.heap.size≤q) u (xs++ [(k,v)])∧Below w.heap.size w w1:=by
 have HR:=Am_ hr
 have HF:=Am_ (rH A xs.length c xs k w hr (by omega))
 rw [hnf,hat] at HF
 have HL:=Am_ hl
 clear hr hl hnf hat
 go_enter Tryz.func119,Tryz.ntmps119
 go_upto_region 2 with (go_at_call 168;refine HF.out.mono ?_;rintro e w2 ⟨rfl,hb2⟩;have HB2:=Am_ hb2;clear hb2)
 clear HF
 go_upto_region 3 with (go_at_call 75;refine (fZ A xs.length c xs w2 (Kd.bO HR.out HB2.out) (by have:=HL.out;omega)).mono ?_;rintro e w3 ⟨v3,rfl,hR3,hb3⟩;obtain ⟨A3,c3,rfl⟩:=Kd.aJ hR3;have HR3:=Am_ hR3;have HB3:=Am_ hb3;clear hR3 hb3)
 have HI:ak (∀ w4,w4=w3.alloc (.cells #[.int .i64 k,.int .i64 v] 121)→Calls Tryz.prog 169 #[.slice A3 xs.length c3,.int .i64 (xs.length:Nat),.slice (some ⟨w3.heap.size,0,none⟩) 1 1] w4 fun e w1=> ∃ u,e= .returned u∧dw.R 121 w1 w2.heap.size (fun q=>w2.heap.size≤q) u (xs++ [(k,v)])∧w4.grownBy w1 (Value.slice A3 xs.length c3).ownBlock):=⟨by
  rintro w4 rfl
  exact xJ A3 c3 xs w3.heap.size (k,v) w2.heap.size (fun q=>w2.heap.size≤q) _ (Kd.dL HR3.out _) ((af (bU w3 (.cells #[.int .i64 k,.int .i64 v] 121)) 0).trans rfl) ((af (bU w3 (.cells #[.int .i64 k,.int .i64 v] 121)) 1).trans rfl) (by have:=HB3.out.size;rw [World.size_alloc];omega) (fun q hq=>by have:=HB3.out.size;rw [World.size_alloc] at hq;omega) (by have:=HL.out;omega)⟩
 have HB4:ak (Below w.heap.size w (w3.alloc (.cells #[.int .i64 k,.int .i64 v] 121))):=⟨ai (aY HB2.out HB2.out.size HB3.out) _⟩
 have HOW:ak (∀ q,(Value.slice A3 xs.length c3).ownBlock=some q→w.heap.size≤q):=⟨fun q e=>by have h1:=HR3.out.1 q e;have:=HB2.out.size;omega⟩
 have HW2:ak (w.heap.size≤w2.heap.size):=⟨HB2.out.size⟩
 clear HR HR3 HB3 HB2
 go_wp2_with (go_at_call 169;refine (HI.out _ rfl).mono ?_;rintro e w5 ⟨u,rfl,hR5,hg5⟩;have HR5:=Am_ hR5;have HB5:=Am_ (jU HB4.out _ HB4.out.size hg5 HOW.out);clear hR5 hg5)
 (try simp only [Exit.inBlock,Exit.then])
 refine bodyPost_ret (dW (rs:= [.tmp 6,.tmp 7,.tmp 8]) rfl (by simp) (.tmp (.tmp (.tmp .nil)))) rfl ?_
 exact ⟨u,rfl,Kd.eX (Kd.bq HR5.out (fun q hq=>Nat.le_trans HW2.out hq)) HW2.out,HB5.out⟩
def Ab (l:List (Int × Int)) (tagged:Bool):Pr Ws (List Int × Int):=fun s=>if (l.length:Int)≤s.sh.b∧l.length<1000000 then aU (IG ⟨false,false,l,[],[]⟩) (fun r=>dS ([r],r)) s else none
def KI (N:Nat) (a:List Int × Int) (ok:Nat→Prop) (v:Value) (w:World):Prop:= ∃ A c,v= .tuple #[.slice A a.1.length c,.int .i64 a.2]∧(Kd.int .i64).R 45 w N (fun k=> ¬ ok k) (.slice A a.1.length c) a.1
section
variable {p tb:Nat} {work:Value} {me:Int} {bt:Nat} {ok okc:Nat→Prop} {w wc:World} {s:TS Ws}
theorem aH.pb (h:aH p tb work me bt ok w okc s wc):wc.cell? ⟨p,4,none⟩=some (.int .i64 s.sh.b)∧wc.cell? ⟨p,5,none⟩=some (.int .i64 s.sh.entry):=by
 obtain ⟨_,_,⟨⟨_,_,_,_,_,_,hw⟩,_⟩,_⟩:=h.run.direct
 exact ⟨(af hw.box 4).trans rfl,(af hw.box 5).trans rfl⟩
end
theorem tN (p tb:Nat) (work:Value) (me:Int) (ok:Nat→Prop) (s:TS Ws) (w:World) (l:List (Int × Int)) (A:Option Addr) (c:Nat) (tagged:Bool) (h:dN (shW p) tb work ok s w) (hl:dw.F w (fun k=> ¬ ok k) A l.length l) (hc:l.length≤c) (res:Out (List Int × Int) × TS Ws) (hr:Ab l tagged s=some res):
  Calls Tryz.prog 120 #[eP tb p me,.slice A l.length c,.bool tagged] w (fQ (shW p) tb work (KI w.heap.size) ok w res):=by
 have HTV:eP tb p me= .agg #[.pointer (some ⟨tb,0,none⟩),.pointer (some ⟨p,0,none⟩),.int .i64 me]:=rfl
 rw [HTV]
 unfold Ab at hr
 have hsm:(l.length:Int)≤s.sh.b∧l.length<1000000:=by
  by_cases h1:(l.length:Int)≤s.sh.b∧l.length<1000000
  ·exact h1
  ·rw [if_neg h1] at hr
   cases hr
 rw [if_pos hsm] at hr
 have d1:decide ((l.length:Int)≤s.sh.b)=true:=decide_eq_true hsm.1
 have HLN:=Am_ hsm.2
 have h0:=aH.enter (me:=me) h
 unfold fC at h0
 have HF:=Am_ (Kd.eD hl (.cells #[.pointer (some ⟨tb,0,none⟩),.pointer (some ⟨p,0,none⟩),.int .i64 me] 114))
 have HT:=Am_ h0
 have HC:=Am_ hc
 obtain ⟨o,t,hd,hcase⟩:=aD hr
 have HD:=Am_ hd
 have HCS:=Am_ hcase
 clear h h0 hr HTV hl hc hsm hd hcase
 go_enter Tryz.func120,Tryz.ntmps120
 go_upto_region 1 with fail
 generalize w.alloc (.cells #[.pointer (some ⟨tb,0,none⟩),.pointer (some ⟨p,0,none⟩),.int .i64 me] 114)=w1 at HF HT ⊢
 generalize hbt:w.heap.size=bt at HT ⊢
 have HBT:=Am_ hbt
 clear hbt
 have c0:=HT.out.c0
 have c1:=HT.out.c1
 have c2:=HT.out.c2
 have c4:=HT.out.pb.1
 have HNF:ak (NdF (fun k=> ¬ ok k) ⟨false,false,l,[],[]⟩ (.agg #[.bool false,.bool false,.slice A l.length c,.slice none 0 0,.slice none 0 0]) w1):=⟨⟨A,c,none,0,none,0,rfl,HC.out,Nat.le_refl _,Nat.le_refl _,HF.out,Kd.jD _ _ _,Kd.jD _ _ _⟩⟩
 go_upto_region 3 with (go_at_call 170;refine (uS p tb work me _ _ _ ⟨false,false,l,[],[]⟩ false false A none none l.length 0 0 c 0 0 HT.out.run HNF.out ⟨HLN.out,by simp,by simp⟩ (o,t) HD.out).mono ?_;rintro e wq ⟨okq,hm,hi,he⟩;rcases HCS.out with hw | hw;(obtain ⟨rfl,rfl⟩:=hw;obtain rfl:e= .panicked dx:=he;exact ⟨rfl,⟨⟨okq,HT.out.moves.trans hm,hi,rfl⟩⟩⟩);obtain ⟨r,rfl,hr2⟩:=hw;obtain ⟨_,rfl,rfl⟩:=he;have HT2:=Am_ (HT.out.next hm hi);have HR2:=Am_ hr2;clear hm hi hr2 c0 c1 c2 c4)
 clear HNF HF HD HCS d1
 have HRR:ak (res=(.ret ([r],r),t)):=⟨by have h:=HR2.out;injection h with h;exact h.symm⟩
 clear HR2
 have HB:=Am_ (Ef (k:= .i64) 45 wq w.heap.size [r] HT2.out.moves.size (by simp))
 have HT3:=Am_ (HT2.out.alloc (.cells #[.int .i64 r] 45))
 have HNR:ak (∀ q,q=wq.heap.size→ ¬ okq q):=⟨fun q e h1=>by have:=HT2.out.lt q h1;omega⟩
 clear HT HT2
 go_wp2_with fail
 (try simp only [Exit.inBlock,Exit.then])
 refine bodyPost_ret (dW (rs:= [.tmp 6,.tmp 7]) rfl (by simp) (.tmp (.tmp .nil))) rfl ?_
 obtain rfl:=HRR.out
 exact ⟨⟨okq,HT3.out.moves,HT3.out.run,_,rfl,_,_,rfl,Kd.bq HB.out HNR.out⟩⟩
structure PR where
 nn:Bool
 sh:Bool
 fd:Bool
 va:Int
def VPR (a:PR) (_:Nat→Prop) (v:Value) (_:World):Prop:=v= .agg #[.bool a.nn,.bool a.sh,.bool a.fd,.int .i64 a.va]
def Bz (me r:Int) (d:Bool × Bool):Pr Ws PR:=if d.1=true then aU (nK me [r]) fun _=>dS ⟨false,false,false,0⟩ else fun _=>none
def BD (me:Int) (l:List Sn) (way r:Int) (m:List Int × Int):Pr Ws PR:=if m.2=0∨m.1.length≠1 then fun _=>none else aU (Ca l 1 way r m.2) (Bz me r)
def vT (l:List (Int × Int)) (r:Int):Pr Ws (List Int × Int):=fun s=>Ab l (r != s.sh.entry) s
def BA (me key value:Int) (l:List Sn) (q:Stp × Stp):Pr Ws PR:=
 if gm (kL (l.getD 1 sn0).node.pairs) key=false∧bs (kL (l.getD 1 sn0).node.pairs) key 0 (l.getD 1 sn0).node.pairs.length=(l.getD 1 sn0).node.pairs.length∧(l.getD 1 sn0).node.pairs.length<999999 then aU (vT ((l.getD 1 sn0).node.pairs++ [(key,value)]) q.1.ref) (BD me l q.1.way q.2.ref) else fun _=>none
def Eu (me key value:Int) (q:Stp × Stp) (L:List Sn × Bool) (next:Pr Ws PR):Pr Ws PR:=
 if L.2=true then (if L.1.length=2 then (if ql (L.1.getD 0 sn0) q.1.way q.2.ref=true then BA me key value L.1 q else next) else fun _=>none) else next
def Gp (me key value:Int) (fl:Nat):Nat→Pr Ws PR
 | 0=>fun _=>none
 | f+1=>aU (Bg key fl) fun q=>aU (nO [q.1.ref,q.2.ref] []) fun L=>Eu me key value q L (Gp me key value fl f)
abbrev prO:Obj:= .cells #[.bool false,.bool false,.bool false,.int .i64 0] 117 (0,0)
structure uY (p tb:Nat) (work:Value) (me:Int) (bt:Nat) (ok:Nat→Prop) (w:World) (b8:Nat) (okc:Nat→Prop) (s:TS Ws) (wc:World):Prop where
 task:aH p tb work me bt ok w okc s wc
 res:Mine okc wc b8 prO
section
variable {p tb:Nat} {work:Value} {me:Int} {bt b8:Nat} {ok okc okq:Nat→Prop} {w wc wq:World} {s s2:TS Ws}
theorem uY.next (h:uY p tb work me bt ok w b8 okc s wc) (m:Moves okc okq wc wq) (t:aH p tb work me bt ok w okq s2 wq):uY p tb work me bt ok w b8 okq s2 wq:=⟨t,h.res.moves m⟩
theorem uY.below (h:uY p tb work me bt ok w b8 okc s wc) (b:Below wc.heap.size wc wq):uY p tb work me bt ok w b8 okc s wq:=h.next (Moves.bE _ b) (h.task.below b)
theorem uY.alloc (h:uY p tb work me bt ok w b8 okc s wc) (o:Obj):uY p tb work me bt ok w b8 okc s (wc.alloc o):=h.below (ai (Below.refl _ _) o)
theorem uY.drew (h:uY p tb work me bt ok w b8 okc s wc):uY p tb work me bt ok w b8 okc s wc.drew:=h.below (aM (Below.refl _ _))
end
def ofA (a:PR):Ans:=if a.nn=true then ⟨3,false,0,0,[],false⟩ else ⟨0,a.fd,0,a.va,[],a.sh⟩
def JF (a:Ans):Value:= .agg #[.int .i64 a.err,.bool a.found,.int .i64 a.key,.int .i64 a.value,.slice none 0 0,.bool a.short]
theorem Em (a:PR) (w:World):Calls Tryz.prog 163 #[.agg #[.bool a.nn,.bool a.sh,.bool a.fd,.int .i64 a.va]] w fun e w1=>e= .returned (JF (ofA a))∧Below w.heap.size w w1:=by
 have K1:=Am_ ((Mine.new (ok:=fun _=>False) (w:=w) (fun k hk=>hk.elim) (.cells #[.bool a.nn,.bool a.sh,.bool a.fd,.int .i64 a.va] 117)).alloc (.cells #[.int .i64 0,.bool false,.int .i64 0,.int .i64 0,.slice none 0 0,.bool false] 58))
 have K2:=Am_ (Mine.new (ok:=fun _=>False) (w:=w.alloc (.cells #[.bool a.nn,.bool a.sh,.bool a.fd,.int .i64 a.va] 117)) (fun k hk=>hk.elim) (.cells #[.int .i64 0,.bool false,.int .i64 0,.int .i64 0,.slice none 0 0,.bool false] 58))
 have B1:=Am_ (ai (ai (Below.refl w.heap.size w) (.cells #[.bool a.nn,.bool a.sh,.bool a.fd,.int .i64 a.va] 117)) (.cells #[.int .i64 0,.bool false,.int .i64 0,.int .i64 0,.slice none 0 0,.bool false] 58))
 simp only [World.size_alloc] at K2
 go_enter Tryz.func163,Tryz.ntmps163
 go_upto_region 1 with fail
 generalize (w.alloc (.cells #[.bool a.nn,.bool a.sh,.bool a.fd,.int .i64 a.va] 117)).alloc (.cells #[.int .i64 0,.bool false,.int .i64 0,.int .i64 0,.slice none 0 0,.bool false] 58)=w1 at K1 K2 B1 ⊢
 generalize hb2:w.heap.size+1=b2 at K2 ⊢
 have HL:ak (w.heap.size≤b2):=⟨by omega⟩
 clear hb2
 cases hn:a.nn with
 | true=>
  have y0:=(af K1.out.1 0).trans (rfl:_=some (Value.bool a.nn))
  rw [hn] at y0
  have y1:=(af K1.out.1 1).trans (rfl:_=some (Value.bool a.sh))
  have y2:=(af K1.out.1 2).trans (rfl:_=some (Value.bool a.fd))
  have y3:=(af K1.out.1 3).trans (rfl:_=some (Value.int .i64 a.va))
  have x0:=(af K2.out.1 0).trans (rfl:_=some (Value.int .i64 0))
  have z0:=ah K2.out.1 0
  have x1:=(af K2.out.1 1).trans (rfl:_=some (Value.bool false))
  have z1:=ah K2.out.1 1
  have x2:=(af K2.out.1 2).trans (rfl:_=some (Value.int .i64 0))
  have z2:=ah K2.out.1 2
  have x3:=(af K2.out.1 3).trans (rfl:_=some (Value.int .i64 0))
  have z3:=ah K2.out.1 3
  have x4:=(af K2.out.1 4).trans (rfl:_=some (Value.slice none 0 0))
  have z4:=ah K2.out.1 4
  have x5:=(af K2.out.1 5).trans (rfl:_=some (Value.bool false))
  have z5:=ah K2.out.1 5
  have HV:ak (JF (ofA a)= .agg #[.int .i64 3,.bool false,.int .i64 0,.int .i64 0,.slice none 0 0,.bool false]):=⟨by unfold ofA JF;rw [hn];rfl⟩
  clear hn
  go_wp2_with fail
  have K3:ak (Mine (fun _=>False) ((((((w1.setCell ⟨b2,0,none⟩ (.int .i64 3)).setCell ⟨b2,1,none⟩ (.bool false)).setCell ⟨b2,2,none⟩ (.int .i64 0)).setCell ⟨b2,3,none⟩ (.int .i64 0)).setCell ⟨b2,4,none⟩ (.slice none 0 0)).setCell ⟨b2,5,none⟩ (.bool false)) b2 (.cells #[.int .i64 3,.bool false,.int .i64 0,.int .i64 0,.slice none 0 0,.bool false] 58 (0,0))):=⟨(Mine.set (Mine.set (Mine.set (Mine.set (Mine.set (Mine.set K2.out 0 _) 1 _) 2 _) 3 _) 4 _) 5 _)⟩
  have B3:=Am_ (below_setCells B1.out b2 0 [.int .i64 3,.bool false,.int .i64 0,.int .i64 0,.slice none 0 0,.bool false] HL.out)
  clear K1 K2 B1 y0 y1 y2 y3 x0 x1 x2 x3 x4 x5 z0 z1 z2 z3 z4 z5
  replace B3:ak (Below w.heap.size w ((((((w1.setCell ⟨b2,0,none⟩ (.int .i64 3)).setCell ⟨b2,1,none⟩ (.bool false)).setCell ⟨b2,2,none⟩ (.int .i64 0)).setCell ⟨b2,3,none⟩ (.int .i64 0)).setCell ⟨b2,4,none⟩ (.slice none 0 0)).setCell ⟨b2,5,none⟩ (.bool false))):=B3
  generalize (((((w1.setCell ⟨b2,0,none⟩ (.int .i64 3)).setCell ⟨b2,1,none⟩ (.bool false)).setCell ⟨b2,2,none⟩ (.int .i64 0)).setCell ⟨b2,3,none⟩ (.int .i64 0)).setCell ⟨b2,4,none⟩ (.slice none 0 0)).setCell ⟨b2,5,none⟩ (.bool false)=w3 at K3 B3 ⊢
  (try simp only [Exit.inBlock,Exit.then])
  refine bodyPost_ret (results_cell_row rfl _ _ b2 58 _ (0,0) _ rfl K3.out.1 Tryz.underlying58 rfl (by kernel_rfl)) rfl ?_
  exact ⟨by rw [HV.out],B3.out⟩
 | false=>
  have y0:=(af K1.out.1 0).trans (rfl:_=some (Value.bool a.nn))
  rw [hn] at y0
  have y1:=(af K1.out.1 1).trans (rfl:_=some (Value.bool a.sh))
  have y2:=(af K1.out.1 2).trans (rfl:_=some (Value.bool a.fd))
  have y3:=(af K1.out.1 3).trans (rfl:_=some (Value.int .i64 a.va))
  have x0:=(af K2.out.1 0).trans (rfl:_=some (Value.int .i64 0))
  have z0:=ah K2.out.1 0
  have x1:=(af K2.out.1 1).trans (rfl:_=some (Value.bool false))
  have z1:=ah K2.out.1 1
  have x2:=(af K2.out.1 2).trans (rfl:_=some (Value.int .i64 0))
  have z2:=ah K2.out.1 2
  have x3:=(af K2.out.1 3).trans (rfl:_=some (Value.int .i64 0))
  have z3:=ah K2.out.1 3
  have x4:=(af K2.out.1 4).trans (rfl:_=some (Value.slice none 0 0))
  have z4:=ah K2.out.1 4
  have x5:=(af K2.out.1 5).trans (rfl:_=some (Value.bool false))
  have z5:=ah K2.out.1 5
  have HV:ak (JF (ofA a)= .agg #[.int .i64 0,.bool a.fd,.int .i64 0,.int .i64 a.va,.slice none 0 0,.bool a.sh]):=⟨by unfold ofA JF;rw [hn];rfl⟩
  clear hn
  go_wp2_with fail
  have K3:ak (Mine (fun _=>False) ((((((w1.setCell ⟨b2,0,none⟩ (.int .i64 0)).setCell ⟨b2,1,none⟩ (.bool a.fd)).setCell ⟨b2,2,none⟩ (.int .i64 0)).setCell ⟨b2,3,none⟩ (.int .i64 a.va)).setCell ⟨b2,4,none⟩ (.slice none 0 0)).setCell ⟨b2,5,none⟩ (.bool a.sh)) b2 (.cells #[.int .i64 0,.bool a.fd,.int .i64 0,.int .i64 a.va,.slice none 0 0,.bool a.sh] 58 (0,0))):=⟨(Mine.set (Mine.set (Mine.set (Mine.set (Mine.set (Mine.set K2.out 0 _) 1 _) 2 _) 3 _) 4 _) 5 _)⟩
  have B3:=Am_ (below_setCells B1.out b2 0 [.int .i64 0,.bool a.fd,.int .i64 0,.int .i64 a.va,.slice none 0 0,.bool a.sh] HL.out)
  clear K1 K2 B1 y0 y1 y2 y3 x0 x1 x2 x3 x4 x5 z0 z1 z2 z3 z4 z5
  replace B3:ak (Below w.heap.size w ((((((w1.setCell ⟨b2,0,none⟩ (.int .i64 0)).setCell ⟨b2,1,none⟩ (.bool a.fd)).setCell ⟨b2,2,none⟩ (.int .i64 0)).setCell ⟨b2,3,none⟩ (.int .i64 a.va)).setCell ⟨b2,4,none⟩ (.slice none 0 0)).setCell ⟨b2,5,none⟩ (.bool a.sh))):=B3
  generalize (((((w1.setCell ⟨b2,0,none⟩ (.int .i64 0)).setCell ⟨b2,1,none⟩ (.bool a.fd)).setCell ⟨b2,2,none⟩ (.int .i64 0)).setCell ⟨b2,3,none⟩ (.int .i64 a.va)).setCell ⟨b2,4,none⟩ (.slice none 0 0)).setCell ⟨b2,5,none⟩ (.bool a.sh)=w3 at K3 B3 ⊢
  (try simp only [Exit.inBlock,Exit.then])
  refine bodyPost_ret (results_cell_row rfl _ _ b2 58 _ (0,0) _ rfl K3.out.1 Tryz.underlying58 rfl (by kernel_rfl)) rfl ?_
  exact ⟨by rw [HV.out],B3.out⟩
def KF:Bool × List (List Nat × List Nat):=(true,[([],[]),([0],[0]),([1],[1]),([2],[2]),([3,2],[2,3]),([4,2],[2,4]),([2],[2]),([6,2],[2,6]),([2],[2]),([8,2],[2,8]),([5,7,9,2,2],[2,5,7,9]),([10,2],[2,10]),([2,11],[2,11])])
def Mg:List Nat:= [0,1,3,7,15,31,7,71,7,263,1023,2047,4095]
theorem Jo:fq .any (opsOf Tryz.f70 3)=KF:=by kernel_rfl
theorem Dv:bA KF.2 Mg=true:=by kernel_rfl
def KG:Bool × List (List Nat × List Nat):=(true,[([],[]),([],[]),([],[]),([2],[2]),([],[]),([4],[4]),([5],[5]),([6],[6]),([7],[7]),([3,8],[3,8]),([0,1,9],[0,1,9]),([10],[10]),([11],[11]),([11],[11]),([12,10,0,1,2,3,4,5,6,7,8,9,10,11,12],[12]),([13,14,0,1,2,3,4,5,6,7,8,9,10,11,12,13,14],[13])])
def Mi:List Nat:= [0,0,0,4,0,16,48,112,240,508,1023,2047,4095,4095,8191,32767]
theorem Jp:fq .any (opsOf Tryz.f70 7)=KG:=by kernel_rfl
theorem Dw:bA KG.2 Mi=true:=by kernel_rfl
theorem BF (p tb:Nat) (work:Value) (me key value:Int) (fresh:Bool) (fl f:Nat) (ok:Nat→Prop) (s:TS Ws) (w:World) (h:dN (shW p) tb work ok s w) (hfl0:fl<900000) (res:Out PR × TS Ws) (hr:Gp me key value fl f s=some res):
  Calls Tryz.prog 70 #[eP tb p me,.int .i64 key,.int .i64 value,.bool fresh] w (fQ (shW p) tb work VPR ok w res):=by
 have HTV:eP tb p me= .agg #[.pointer (some ⟨tb,0,none⟩),.pointer (some ⟨p,0,none⟩),.int .i64 me]:=rfl
 rw [HTV]
 have h0:=aH.enter (me:=me) h
 unfold fC at h0
 have HS:ak (uY p tb work me w.heap.size ok w (w.heap.size+1) ok s ((w.alloc (.cells #[.pointer (some ⟨tb,0,none⟩),.pointer (some ⟨p,0,none⟩),.int .i64 me] 114)).alloc (.cells #[.bool false,.bool false,.bool false,.int .i64 0] 117))):=⟨{
  task:=h0.alloc (.cells #[.bool false,.bool false,.bool false,.int .i64 0] 117)
  res:=by
   have h1:=Mine.new h0.lt (.cells #[.bool false,.bool false,.bool false,.int .i64 0] 117)
   simp only [World.size_alloc] at h1
   exact h1 }⟩
 have HR:=Am_ hr
 have hfl:=Am_ hfl0
 clear h h0 hr HTV hfl0
 go_enter Tryz.func70,Tryz.ntmps70
 go_upto_block 0 with fail
 generalize (w.alloc (.cells #[.pointer (some ⟨tb,0,none⟩),.pointer (some ⟨p,0,none⟩),.int .i64 me] 114)).alloc (.cells #[.bool false,.bool false,.bool false,.int .i64 0] 117)=w1 at HS ⊢
 generalize hbt:w.heap.size=bt at HS ⊢
 generalize hb8:bt+1=b8 at HS ⊢
 have HB8:ak (w.heap.size≤b8∧b8≠bt):=⟨by omega⟩
 have HBT:=Am_ hbt
 clear hbt hb8
 go_wp2_with fail
 go_loopg [] f (fun g wr=>ak (∃ okc s,uY p tb work me bt ok w b8 okc s wr∧Gp me key value fl g s=some res))
 case atStart=>exact ⟨_,_,HS.out,HR.out⟩
 case round=>
  clear HS HR
  obtain ⟨okc,s1,hq,hr⟩:=hrel.out
  clear hrel
  cases gk with
  | zero=>cases hr
  | succ g=>
   have hr:aU (Bg key fl) (fun q=>aU (nO [q.1.ref,q.2.ref] []) fun L=>Eu me key value q L (Gp me key value fl g)) s1=some res:=hr
   obtain ⟨o,t,hd,hcase⟩:=aD hr
   have HD:=Am_ hd
   have HCS:=Am_ hcase
   clear hd hcase
   have HG:=Am_ hq.task.run.good
   have c0:=hq.task.c0
   have c1:=hq.task.c1
   have c2:=hq.task.c2
   have HS:=Am_ hq
   clear hq hr
   go_upto_region 2 with (go_at_call 116;refine (pu p tb work me key _ _ _ HS.out.task.run fl hfl.out (o,t) HD.out (fun l t h=>by have:=(jv key fl _ _ _ _ _ HG.out (by simp) h).2;simp at this;have:=hfl.out;omega)).mono ?_;rintro e wq ⟨okq,hm,hi,he⟩;rcases HCS.out with hw | hw;(obtain ⟨rfl,rfl⟩:=hw;obtain rfl:e= .panicked dx:=he;exact ⟨rfl,⟨⟨okq,HS.out.task.moves.trans hm,hi,rfl⟩⟩⟩);obtain ⟨q,rfl,hr2⟩:=hw;obtain ⟨_,rfl,cs,ds,rfl,hf1,hf2⟩:=he;obtain ⟨Ap1,cp1,Ak1,ck1,Ay1,cy1,rfl⟩:=jk (Kd.oO hf1);obtain ⟨Ap2,cp2,Ak2,ck2,Ay2,cy2,rfl⟩:=jk (Kd.oO hf2);have HS2:=Am_ (HS.out.next hm (HS.out.task.next hm hi));have HR2:=Am_ hr2;clear hm hi hf1 hf2 hr2 c0 c1 c2)
   clear HS HD HCS HG
   have hr:=HR2.out
   obtain ⟨o,t,hd,hcase⟩:=aD hr
   have HD:=Am_ hd
   have HCS:=Am_ hcase
   clear hd hcase
   clear hr HR2
   have HS3:=Am_ ((HS2.out.alloc (.cells #[.int .i64 q.fst.ref,.bool q.fst.node.inner,.bool q.fst.node.tagged,.slice Ap1 q.fst.node.pairs.length cp1,.slice Ak1 q.fst.node.keys.length ck1,.slice Ay1 q.fst.node.ways.length cy1,.int .i64 q.fst.way] 159)).alloc (.cells #[.int .i64 q.snd.ref,.bool q.snd.node.inner,.bool q.snd.node.tagged,.slice Ap2 q.snd.node.pairs.length cp2,.slice Ak2 q.snd.node.keys.length ck2,.slice Ay2 q.snd.node.ways.length cy2,.int .i64 q.snd.way] 159))
   have H9:=Am_ ((Mine.new HS2.out.task.lt (.cells #[.int .i64 q.fst.ref,.bool q.fst.node.inner,.bool q.fst.node.tagged,.slice Ap1 q.fst.node.pairs.length cp1,.slice Ak1 q.fst.node.keys.length ck1,.slice Ay1 q.fst.node.ways.length cy1,.int .i64 q.fst.way] 159)).alloc (.cells #[.int .i64 q.snd.ref,.bool q.snd.node.inner,.bool q.snd.node.tagged,.slice Ap2 q.snd.node.pairs.length cp2,.slice Ak2 q.snd.node.keys.length ck2,.slice Ay2 q.snd.node.ways.length cy2,.int .i64 q.snd.way] 159))
   have H10:=Am_ (Mine.new (HS2.out.alloc (.cells #[.int .i64 q.fst.ref,.bool q.fst.node.inner,.bool q.fst.node.tagged,.slice Ap1 q.fst.node.pairs.length cp1,.slice Ak1 q.fst.node.keys.length ck1,.slice Ay1 q.fst.node.ways.length cy1,.int .i64 q.fst.way] 159)).task.lt (.cells #[.int .i64 q.snd.ref,.bool q.snd.node.inner,.bool q.snd.node.tagged,.slice Ap2 q.snd.node.pairs.length cp2,.slice Ak2 q.snd.node.keys.length ck2,.slice Ay2 q.snd.node.ways.length cy2,.int .i64 q.snd.way] 159))
   simp only [World.size_alloc] at H10
   clear HS2
   generalize (wq.alloc (.cells #[.int .i64 q.fst.ref,.bool q.fst.node.inner,.bool q.fst.node.tagged,.slice Ap1 q.fst.node.pairs.length cp1,.slice Ak1 q.fst.node.keys.length ck1,.slice Ay1 q.fst.node.ways.length cy1,.int .i64 q.fst.way] 159)).alloc (.cells #[.int .i64 q.snd.ref,.bool q.snd.node.inner,.bool q.snd.node.tagged,.slice Ap2 q.snd.node.pairs.length cp2,.slice Ak2 q.snd.node.keys.length ck2,.slice Ay2 q.snd.node.ways.length cy2,.int .i64 q.snd.way] 159)=w3 at HS3 H9 H10 ⊢
   generalize wq.heap.size=b9 at H9 H10 ⊢
   generalize b9+1=b10 at H10 ⊢
   have y0:=(af H9.out.1 0).trans (rfl:_=some (Value.int .i64 q.fst.ref))
   have y1:=(af H10.out.1 0).trans (rfl:_=some (Value.int .i64 q.snd.ref))
   have c0:=HS3.out.task.c0
   have c1:=HS3.out.task.c1
   have c2:=HS3.out.task.c2
   have HLF:ak ((Kd.int .i64).F (w3.alloc (.cells #[.int .i64 q.fst.ref,.int .i64 q.snd.ref] 45)) (fun k=> ¬ okq k) (some ⟨w3.heap.size,0,none⟩) 2 [q.fst.ref,q.snd.ref]):=⟨Kd.dh (Kd.R_F (Ef (k:= .i64) 45 w3 0 [q.fst.ref,q.snd.ref] (Nat.zero_le _) (by simp))) (fun k e h=>by have:=HS3.out.task.lt k h;omega)⟩
   have HS4:=Am_ (HS3.out.alloc (.cells #[.int .i64 q.fst.ref,.int .i64 q.snd.ref] 45))
   have H94:=Am_ (H9.out.alloc (.cells #[.int .i64 q.fst.ref,.int .i64 q.snd.ref] 45))
   have H104:=Am_ (H10.out.alloc (.cells #[.int .i64 q.fst.ref,.int .i64 q.snd.ref] 45))
   clear HS3 H9 H10
   go_upto_region 3 with (go_at_call 117;refine (uF p tb work me _ _ _ [q.fst.ref,q.snd.ref] (some ⟨w3.heap.size,0,none⟩) 2 HS4.out.task.run HLF.out (fun ad e=>by injection e with e;exact ⟨_,e.symm⟩) (by simp) (o,t) HD.out).mono ?_;rintro e wq2 ⟨okq2,hm,hi,he⟩;rcases HCS.out with hw | hw;(obtain ⟨rfl,rfl⟩:=hw;obtain rfl:e= .panicked dx:=he;exact ⟨rfl,⟨⟨okq2,HS4.out.task.moves.trans hm,hi,rfl⟩⟩⟩);obtain ⟨L,rfl,hr2⟩:=hw;obtain ⟨_,rfl,AL,cL,rfl,hRL⟩:=he;have HS5:=Am_ (HS4.out.next hm (HS4.out.task.next hm hi));have H9:=Am_ (H94.out.moves hm);have H10:=Am_ (H104.out.moves hm);have HR2:=Am_ hr2;clear hm hi hr2 c0 c1 c2)
   clear HS4 H94 H104 HLF HD HCS y0 y1
   have HRL:=Am_ hRL
   clear hRL
   obtain ⟨l,bo⟩:=L
   dsimp only at HRL ⊢
   cases bo with
   | false=>
    have HR3:ak (Gp me key value fl g t=some res):=HR2
    clear HR2 H9 H10 HRL
    go_quiet (fail)
    go_wp2_with fail
    go_roundg g
    case rel=>exact ⟨_,_,HS5.out.below (au (Below.refl _ _) nq),HR3.out⟩
    case measure=>omega
   | true=>
    have hr:Eu me key value q (l,true) (Gp me key value fl g) t=some res:=HR2.out
    unfold Eu at hr
    rw [if_pos rfl] at hr
    by_cases hl2:l.length=2
    rotate_left; · rw [if_neg hl2] at hr;cases hr
    rw [if_pos hl2] at hr
    have HRF:=Am_ (Kd.R_F HRL.out)
    have HFL:=Am_ (vw HRL.out)
    obtain ⟨gA,Ap3,cp3,Ak3,ck3,Ay3,cy3,Aw3,cw3,eA,hC0,hF0⟩:=Jc HRF.out HFL.out 0 (by omega)
    obtain ⟨gB,Ap4,cp4,Ak4,ck4,Ay4,cy4,Aw4,cw4,eB,hC1,hF1⟩:=Jc HRF.out HFL.out 1 (by omega)
    obtain rfl:gB=gA:=by rw [eA] at eB;injection eB with eB;injection eB with eB;exact eB.symm
    subst eA
    have hC0:sV wq2 gB 0 (l.getD 0 sn0) Ap3 cp3 Ak3 ck3 Ay3 cy3 Aw3 cw3:=hC0
    have hC1:sV wq2 gB 8 (l.getD 1 sn0) Ap4 cp4 Ak4 ck4 Ay4 cy4 Aw4 cw4:=hC1
    generalize hn0:l.getD 0 sn0=n0 at hC0 hF0 hr
    generalize hgo:ql n0 q.1.way q.2.ref=gb at hr
    have HR3:=Am_ hr
    have HF0:=Am_ hF0
    have HF1:=Am_ hF1
    have HC1:=Am_ hC1
    have HGB:=Am_ hgo
    have HL2:=Am_ hl2
    have HC:=Am_ (And.intro hC0 (And.intro ((af H9.out.1 6).trans (rfl:_=some (Value.int .i64 q.fst.way))) ((af H10.out.1 0).trans (rfl:_=some (Value.int .i64 q.snd.ref)))))
    rw [hl2]
    clear hr hn0 hgo hl2 hC0 hC1 hF0 hF1 eB HR2
    refine bG (n:=13) (S:=fun w'=>w'.cell? ⟨gB,0,none⟩=some (.int .i64 n0.ref)∧w'.cell? ⟨gB,1,none⟩=some (.int .i64 n0.info)∧w'.cell? ⟨gB,2,none⟩=some (.bool n0.node.inner)∧w'.cell? ⟨gB,3,none⟩=some (.bool n0.node.tagged)∧w'.cell? ⟨gB,4,none⟩=some (.slice Ap3 n0.node.pairs.length cp3)∧w'.cell? ⟨gB,5,none⟩=some (.slice Ak3 n0.node.keys.length ck3)∧w'.cell? ⟨gB,6,none⟩=some (.slice Ay3 n0.node.ways.length cy3)∧w'.cell? ⟨gB,7,none⟩=some (.slice Aw3 n0.ways.length cw3)∧w'.cell? ⟨b9,6,none⟩=some (.int .i64 q.fst.way)∧w'.cell? ⟨b10,0,none⟩=some (.int .i64 q.snd.ref)) (ds:= []) (by kernel_rfl) rfl Jo Dv ⟨HC.out.1.c0,HC.out.1.c1,HC.out.1.c2,HC.out.1.c3,HC.out.1.c4,HC.out.1.c5,HC.out.1.c6,HC.out.1.c7,HC.out.2.1,HC.out.2.2⟩ (fun hHeld HT_ HW_=>?_)
    have HS5:=Am_ HS5.out.drew
    have HDR:=Am_ (aM (Below.refl wq2.heap.size wq2))
    have HF0:=Am_ (HF0.out.moves (Moves.drew (Moves.refl okq2 wq2)))
    clear HC
    generalize hwd:World.drew _=w6 at HS5 HDR HF0 hHeld ⊢
    clear hwd
    refine eO [(0,some 37),(1,some 38),(2,some 39),(3,some 40),(4,some 41),(5,some 42),(6,some 43),(7,some 44),(8,some 45),(9,some 46)] ?_
    iterate 5 (refine dZ (v:=?_) (a':=?_) HT_ (by kernel_rfl) rfl rfl (fun _ _ _ h=>h) (Or.inl ⟨by rfl,?_⟩) ?_ ?_;rotate_left;(intro w';go_simp;with_reducible rfl);rotate_left;(simp only [Act.put,p1_,p2_,p3_,ax,ay];rfl))
    iterate 5 (refine iW (v:=?_) (a':=?_) HT_ HW_ (by kernel_rfl) rfl rfl (fun _ _ _ h=>h) hHeld (Or.inl ⟨by rfl,?_⟩) ?_ ?_;rotate_left;(rintro w' ⟨s0,s1,s2,s3,s4,s5,s6,s7,s8,s9⟩;go_simp;with_reducible rfl);rotate_left;(simp only [Act.put,p1_,p2_,p3_,ax,ay];rfl))
    refine aZ ?_
    refine dR (i:=10) (some 47) HT_ (by kernel_rfl) rfl rfl (by decide) (fun K_ hK=>?_)
    refine call_ 118 #[.agg #[.int .i64 n0.ref,.int .i64 n0.info,.bool n0.node.inner,.bool n0.node.tagged,.slice Ap3 n0.node.pairs.length cp3,.slice Ak3 n0.node.keys.length ck3,.slice Ay3 n0.node.ways.length cy3,.slice Aw3 n0.ways.length cw3],.int .i64 q.fst.way,.int .i64 q.snd.ref] (by rfl) rfl ?hrun10 ?_
    (case hrun10=>first | (go_simp;done) | (go_simp;exact enters Tryz.func118 (by kernel_rfl) rfl _ _))
    refine (xH n0 q.fst.way q.snd.ref _ HF0.out).mono ?_
    rintro e w7 ⟨rfl,hb⟩
    rw [HGB.out]
    have HS6:=Am_ (HS5.out.below hb)
    have HB7:=Am_ (aY HDR.out HDR.out.size hb)
    refine ⟨_,rfl,?_⟩
    refine hK.out _ _ ⟨aj hb hHeld.1,aj hb hHeld.2.1,aj hb hHeld.2.2.1,aj hb hHeld.2.2.2.1,aj hb hHeld.2.2.2.2.1,aj hb hHeld.2.2.2.2.2.1,aj hb hHeld.2.2.2.2.2.2.1,aj hb hHeld.2.2.2.2.2.2.2.1,aj hb hHeld.2.2.2.2.2.2.2.2.1,aj hb hHeld.2.2.2.2.2.2.2.2.2⟩ (fun hHeld=>?_)
    clear hK K_
    refine bK (a':=?_) ?_ ?_
    rotate_left; · show Act.put _ (some 47) _=_;simp only [Act.put,p1_,p2_,p3_,ax,ay];rfl
    refine eO [(11,some 48),(12,some 49)] ?_
    iterate 2 (refine dZ (v:=?_) (a':=?_) HT_ (by kernel_rfl) rfl rfl (fun _ _ _ h=>h) (Or.inl ⟨by rfl,?_⟩) ?_ ?_;rotate_left;(intro w';go_simp;with_reducible rfl);rotate_left;(simp only [Act.put,p1_,p2_,p3_,ax,ay];rfl))
    refine aZ ?_
    clear hb HS5 HDR hHeld
    refine dD (bI HT_.out (by kernel_rfl)) ?_
    have HF1:=Am_ (HF1.out.moves (Moves.bE okq2 HB7.out))
    have H9:=Am_ (H9.out.moves (Moves.bE okq2 HB7.out))
    have H10:=Am_ (H10.out.moves (Moves.bE okq2 HB7.out))
    have HRL:=Am_ (iB (D:=fun _=>True) (Kd.bq HRL.out (fun k hk=>⟨hk,trivial⟩)) (Moves.bE okq2 HB7.out))
    have y4:=aj HB7.out HC1.out.c4
    clear HRF HF0 HB7 HC1 HGB
    cases gb with
    | false=>
     have HR4:ak (Gp me key value fl g t=some res):=HR3
     clear HR3 H9 H10 HRL HF1 y4
     go_wp2_with fail
     go_roundg g
     case rel=>exact ⟨_,_,HS6.out,HR4.out⟩
     case measure=>omega
    | true=>
     have hr:BA me key value l q t=some res:=HR3.out
     unfold BA at hr
     generalize hn1:l.getD 1 sn0=n1 at hr HF1 y4
     by_cases hcd:gm (kL n1.node.pairs) key=false∧bs (kL n1.node.pairs) key 0 n1.node.pairs.length=n1.node.pairs.length∧n1.node.pairs.length<999999
     rotate_left; · rw [if_neg hcd] at hr;cases hr
     rw [if_pos hcd] at hr
     have HLP:=Am_ (uy Ap4 cp4 n1.node.pairs key value w7 (Kd.gu HF1.out.prs) hcd.2.2 hcd.1 hcd.2.1)
     obtain ⟨o,t,hd,hcase⟩:=aD hr
     have HD:=Am_ hd
     have HCS:=Am_ hcase
     clear hd hcase
     clear hr HR3 hcd HF1 hn1
     go_upto_region 7 with (go_at_call 119;refine HLP.out.mono ?_;rintro e w8 ⟨u,rfl,hRu,hb⟩;obtain ⟨Au,cu,rfl⟩:=Kd.aJ hRu;generalize hpr:n1.node.pairs++ [(key,value)]=pr at hRu ⊢;have HPR:=Am_ hpr;clear hpr;have HRU:=Am_ hRu;have HLT:=Am_ HS6.out.task.lt;have HS7:=Am_ (HS6.out.below hb);have H97:=Am_ (H9.out.moves (Moves.bE okq2 hb));have H107:=Am_ (H10.out.moves (Moves.bE okq2 hb));have HRL7:=Am_ (iB HRL.out (Moves.bE okq2 hb));clear hRu hb)
     clear HLP y4 HS6 H9 H10 HRL
     have h:=HD.out
     rw [HPR.out] at h
     unfold vT at h
     skip
     have HD2:=Am_ h
     have HPF:ak (dw.F w8 (fun k=> ¬ okq2 k) Au pr.length pr):=⟨Kd.dh (Kd.R_F HRU.out) (fun k hk h1=>by have:=HLT.out k h1;omega)⟩
     have HCU:ak (pr.length≤cu):=⟨(Kd.bM HRU.out).2.1⟩
     clear h HD HRU HLT
     generalize hen:Ws.entry (TS.sh _)=en at HD2
     have hp5:=HS7.out.task.pb.2
     rw [hen] at hp5
     have HC:=Am_ (And.intro HS7.out.task.c0 (And.intro HS7.out.task.c1 (And.intro HS7.out.task.c2 (And.intro ((af H97.out.1 0).trans (rfl:_=some (Value.int .i64 q.fst.ref))) hp5))))
     clear hp5 hen
     refine bG (n:=16) (S:=fun w'=>w'.cell? ⟨bt,0,none⟩=some (.pointer (some ⟨tb,0,none⟩))∧w'.cell? ⟨bt,1,none⟩=some (.pointer (some ⟨p,0,none⟩))∧w'.cell? ⟨bt,2,none⟩=some (.int .i64 me)∧w'.cell? ⟨b9,0,none⟩=some (.int .i64 q.fst.ref)∧w'.cell? ⟨p,5,none⟩=some (.int .i64 en)) (ds:= [10]) (by kernel_rfl) rfl Jp Dw HC.out (fun hHeld HT_ HW_=>?_)
     have HS7:=Am_ HS7.out.drew
     have HPF:=Am_ (gZ HPF.out (Moves.drew (Moves.refl okq2 w8)))
     have HRL7:=Am_ (iB HRL7.out (Moves.drew (Moves.refl okq2 w8)))
     have H97:=Am_ (H97.out.moves (Moves.drew (Moves.refl okq2 w8)))
     have H107:=Am_ (H107.out.moves (Moves.drew (Moves.refl okq2 w8)))
     clear HC
     generalize hwd:World.drew _=w9 at HS7 HPF HRL7 H97 H107 hHeld ⊢
     clear hwd
     refine eO [(0,some 69),(1,some 70),(2,some 71),(3,some 72),(4,some 73),(5,some 74),(6,some 75),(7,some 76),(8,some 77),(9,some 78)] ?_
     iterate 10 (refine iW (v:=?_) (a':=?_) HT_ HW_ (by kernel_rfl) rfl rfl (fun _ _ _ h=>h) hHeld (Or.inl ⟨by rfl,?_⟩) ?_ ?_;rotate_left;(rintro w' ⟨s0,s1,s2,s3,s4⟩;go_simp;with_reducible rfl);rotate_left;(simp only [Act.put,p1_,p2_,p3_,ax,ay];rfl))
     refine aZ ?_
     refine bP (i:=10) (some 79) HT_ (by kernel_rfl) rfl rfl (by decide) (fun K_ hK=>?_)
     refine kJ 120 #[.agg #[.pointer (some ⟨tb,0,none⟩),.pointer (some ⟨p,0,none⟩),.int .i64 me],.slice Au pr.length cu,.bool (q.fst.ref != en)] (by rfl) rfl ?hr10 ?_
     (case hr10=>first | (go_simp;done) | (go_simp;exact enters Tryz.func120 (by kernel_rfl) rfl _ _))
     refine (tN p tb work me _ _ _ pr Au cu (q.fst.ref != en) HS7.out.task.run HPF.out HCU.out (o,t) HD2.out).mono ?_
     rintro e wq3 ⟨okq3,hm,hi,he⟩
     rcases HCS.out with hw | hw
     ·obtain ⟨rfl,rfl⟩:=hw
      obtain rfl:e= .panicked dx:=he
      exact .inr ⟨dx,rfl,rfl,⟨⟨okq3,HS7.out.task.moves.trans hm,hi,rfl⟩⟩⟩
     obtain ⟨m,rfl,hr2⟩:=hw
     obtain ⟨_,rfl,Am,cm,rfl,hRM⟩:=he
     refine .inl ⟨_,rfl,?_⟩
     have HS8:=Am_ (HS7.out.next hm (HS7.out.task.next hm hi))
     have H98:=Am_ (H97.out.moves hm)
     have H108:=Am_ (H107.out.moves hm)
     have HRL8:=Am_ (iB HRL7.out hm)
     have HR2:=Am_ hr2
     clear hm hi hr2 hRM HS7 HPF HRL7 H97 H107
     refine hK.out _ _ ?_
     clear hK K_
     refine bK (a':=?_) ?_ ?_
     rotate_left; · show Act.put _ (some 79) _=_;simp only [Act.put,p1_,p2_,p3_,ax,ay];rfl
     refine eO [(11,some 68),(12,some 80),(13,some 81),(14,some 16),(15,some 17)] ?_
     iterate 5 (refine dZ (v:=?_) (a':=?_) HT_ (by kernel_rfl) rfl rfl (fun _ _ _ h=>h) (Or.inl ⟨by rfl,?_⟩) ?_ ?_;rotate_left;(intro w';go_simp;with_reducible rfl);rotate_left;(simp only [Act.put,p1_,p2_,p3_,ax,ay];rfl))
     refine aZ ?_
     refine dD (bI HT_.out (by kernel_rfl)) ?_
     clear HD2 HCS HPR HCU
     have hr:BD me l q.fst.way q.snd.ref m t=some res:=HR2.out
     unfold BD at hr
     by_cases hm0:m.2=0∨m.1.length≠1
     ·rw [if_pos hm0] at hr;cases hr
     rw [if_neg hm0] at hr
     have e0:(m.2 == 0)=false:=by simpa using fun h=>hm0 (.inl h)
     have hm1:m.1.length=1:=by
      by_cases h:m.1.length=1
      ·exact h
      ·exact absurd (.inr h) hm0
     have HM1:=Am_ hm1
     obtain ⟨o,t,hd,hcase⟩:=aD hr
     have HD:=Am_ hd
     have HCS:=Am_ hcase
     clear hd hcase
     clear hr hm0 hm1 HR2
     have c0:=HS8.out.task.c0
     have c1:=HS8.out.task.c1
     have c2:=HS8.out.task.c2
     have y0:=(af H98.out.1 6).trans (rfl:_=some (Value.int .i64 q.fst.way))
     have y1:=(af H108.out.1 0).trans (rfl:_=some (Value.int .i64 q.snd.ref))
     go_upto_region 12 with (go_at_call 122;have hst:=uQ p tb work me _ _ _ l (some ⟨gB,0,none⟩) cL 1 q.fst.way q.snd.ref m.2 HS8.out.task.run (Kd.dh (Kd.R_F HRL8.out) (fun k hk=>hk.1)) HFL.out (by decide) (by have:=HL2.out;omega) (o,t) HD.out;rw [HL2.out] at hst;refine hst.mono ?_;clear hst;rintro e wq4 ⟨okq4,hm,hi,he⟩;rcases HCS.out with hw | hw;(obtain ⟨rfl,rfl⟩:=hw;obtain rfl:e= .panicked dx:=he;exact ⟨rfl,⟨⟨okq4,HS8.out.task.moves.trans hm,hi,rfl⟩⟩⟩);obtain ⟨d,rfl,hr2⟩:=hw;obtain ⟨_,rfl,rfl⟩:=he;have HS9:=Am_ (HS8.out.next hm (HS8.out.task.next hm hi));have H109:=Am_ (H108.out.moves hm);have HR2:=Am_ hr2;clear hm hi hr2 c0 c1 c2)
     clear y0 y1 HRL8 H98 HD HCS e0 HS8 H108
     have hr:Bz me q.snd.ref d t=some res:=HR2.out
     unfold Bz at hr
     by_cases hd1:d.1=true
     rotate_left; · rw [if_neg hd1] at hr;cases hr
     rw [if_pos hd1] at hr
     obtain ⟨o,t,hd,hcase⟩:=aD hr
     have HD:=Am_ hd
     have HCS:=Am_ hcase
     clear hd hcase
     rw [HM1.out,hd1]
     clear hr hd1 HR2
     have y1:=(af H109.out.1 0).trans (rfl:_=some (Value.int .i64 q.snd.ref))
     have c0:=HS9.out.task.c0
     have c1:=HS9.out.task.c1
     have c2:=HS9.out.task.c2
     have HLF2:ak ((Kd.int .i64).F (wq4.alloc (.cells #[.int .i64 q.snd.ref] 45)) (fun k=> ¬ okq4 k) (some ⟨wq4.heap.size,0,none⟩) 1 [q.snd.ref]):=⟨Kd.dh (Kd.R_F (Ef (k:= .i64) 45 wq4 0 [q.snd.ref] (Nat.zero_le _) (by simp))) (fun k e h=>by have:=HS9.out.task.lt k h;omega)⟩
     have HS10:=Am_ (HS9.out.alloc (.cells #[.int .i64 q.snd.ref] 45))
     clear HS9
     go_upto_region 17 with (go_at_call 123;refine (rJ p tb work me _ _ _ [q.snd.ref] (some ⟨wq4.heap.size,0,none⟩) 1 HS10.out.task.run HLF2.out (fun ad e=>by injection e with e;exact ⟨_,e.symm⟩) (by simp) (o,t) HD.out).mono ?_;rintro e wq5 ⟨okq5,hm,hi,he⟩;rcases HCS.out with hw | hw;(obtain ⟨rfl,rfl⟩:=hw;obtain rfl:e= .panicked dx:=he;exact ⟨rfl,⟨⟨okq5,HS10.out.task.moves.trans hm,hi,rfl⟩⟩⟩);obtain ⟨_,rfl,hr2⟩:=hw;obtain ⟨_,rfl,rfl⟩:=he;have HS11:=Am_ (HS10.out.next hm (HS10.out.task.next hm hi));have HR2:=Am_ hr2;clear hm hi hr2 c0 c1 c2)
     clear y1 HLF2 HD HCS HS10 H109
     have HS12:=Am_ (HS11.out.alloc (.cells #[.bool false,.bool false,.bool false,.int .i64 0] 117))
     clear HS11
     have x0:=(af HS12.out.res.1 0).trans (rfl:_=some (Value.bool false))
     have z0:=ah HS12.out.res.1 0
     have x1:=(af HS12.out.res.1 1).trans (rfl:_=some (Value.bool false))
     have z1:=ah HS12.out.res.1 1
     have x2:=(af HS12.out.res.1 2).trans (rfl:_=some (Value.bool false))
     have z2:=ah HS12.out.res.1 2
     have x3:=(af HS12.out.res.1 3).trans (rfl:_=some (Value.int .i64 0))
     have z3:=ah HS12.out.res.1 3
     go_wp2_with fail
     (try simp only [Exit.inBlock,Exit.then])
     show bodyPost _ _ _ _ _ (sets _ b8 [(0,.bool false),(1,.bool false),(2,.bool false),(3,.int .i64 0)])
     refine bodyPost_ret (results_cell_row rfl _ _ b8 117 _ (0,0) _ rfl (HS12.out.res.sets [(0,.bool false),(1,.bool false),(2,.bool false),(3,.int .i64 0)]).1 Tryz.underlying117 rfl (by kernel_rfl)) rfl ?_
     obtain rfl:res=(.ret ⟨false,false,false,0⟩,t):=by have h:=HR2.out;injection h with h;exact h.symm
     exact ⟨⟨_,fO (b:=b8) (.inr HB8.out.1) _ HS12.out.task.moves,HS12.out.task.run.step (aX p) (by rw [gW];exact Nat.le_refl _) (fun k hk _=>dI (b:=b8) (fun e=>HS12.out.res.2 (e▸hk)) _ _),_,rfl,rfl⟩⟩
theorem kN (a:PR):(ofA a).pairs= []:=by unfold ofA;split<;>rfl
def vU (me key value:Int) (fl f:Nat):Pr Ws Ans:=aU (Gp me key value fl f) fun a=>dS (ofA a)
theorem rU {me key value:Int} {fl f:Nat} {s t:TS Ws} {a:Ans} (h:vU me key value fl f s=some (.ret a,t)):a.pairs= []:=by
 obtain ⟨o,t1,hm,hc⟩:=aD h
 rcases hc with ⟨_,hc⟩ | ⟨q,rfl,hc⟩
 ·injection hc with hc _;cases hc
 injection hc with hc
 injection hc with hc _
 injection hc with hc
 rw [←hc]
 exact kN q
theorem BQ (key upto value:Int) (w:World):Calls Tryz.prog 159 #[.agg #[.int .u8 1,.int .i64 key,.int .i64 upto,.int .i64 value]] w fun e w1=>e= .returned (.tuple #[.int .i64 0,.int .i64 0,.bool false])∧Below w.heap.size w w1:=by
 have HB:=Am_ (ai (Below.refl w.heap.size w) (.cells #[.int .u8 1,.int .i64 key,.int .i64 upto,.int .i64 value] 52))
 have hbx:=bU w (.cells #[.int .u8 1,.int .i64 key,.int .i64 upto,.int .i64 value] 52)
 go_enter Tryz.func159,Tryz.ntmps159
 go_wp2_with fail
 go_ret3
 exact ⟨rfl,HB.out⟩
theorem Ik (p tb:Nat) (work:Value) (me:Int) (ok:Nat→Prop) (s:TS Ws) (w:World) (key upto value:Int) (h:dN (shW p) tb work ok s w) (fl f:Nat) (hf:fl<900000) (res:Out Ans × TS Ws) (hr:vU me key value fl f s=some res):
  Calls Tryz.prog 100 #[eP tb p me,.agg #[.int .u8 1,.int .i64 key,.int .i64 upto,.int .i64 value]] w (fQ (shW p) tb work JE ok w res):=by
 obtain ⟨o,t,hd,hcase⟩:=aD hr
 have HT:=Am_ (((aH.enter (me:=me) h).alloc (.cells #[.int .u8 1,.int .i64 key,.int .i64 upto,.int .i64 value] 52)).alloc (.cells #[.int .i64 0,.bool false,.int .i64 0,.int .i64 0,.slice none 0 0,.bool false] 58))
 have HB3:=Am_ ((Mine.new (aH.enter (p:=p) (tb:=tb) (me:=me) h).lt (.cells #[.int .u8 1,.int .i64 key,.int .i64 upto,.int .i64 value] 52)).alloc (.cells #[.int .i64 0,.bool false,.int .i64 0,.int .i64 0,.slice none 0 0,.bool false] 58))
 have HB4:=Am_ (Mine.new ((aH.enter (me:=me) h).alloc (.cells #[.int .u8 1,.int .i64 key,.int .i64 upto,.int .i64 value] 52)).lt (.cells #[.int .i64 0,.bool false,.int .i64 0,.int .i64 0,.slice none 0 0,.bool false] 58))
 have HD:=Am_ hd
 have HCS:=Am_ hcase
 have HTV:eP tb p me= .agg #[.pointer (some ⟨tb,0,none⟩),.pointer (some ⟨p,0,none⟩),.int .i64 me]:=rfl
 rw [HTV]
 unfold fC at HT HB3 HB4
 simp only [World.size_alloc] at HB3 HB4
 clear h hr hd hcase HTV
 go_enter Tryz.func100,Tryz.ntmps100
 go_upto_region 1 with fail
 generalize ((w.alloc (.cells #[.pointer (some ⟨tb,0,none⟩),.pointer (some ⟨p,0,none⟩),.int .i64 me] 114)).alloc (.cells #[.int .u8 1,.int .i64 key,.int .i64 upto,.int .i64 value] 52)).alloc (.cells #[.int .i64 0,.bool false,.int .i64 0,.int .i64 0,.slice none 0 0,.bool false] 58)=w3 at HT HB3 HB4 ⊢
 generalize hbb:w.heap.size=bt at HT HB3 HB4 ⊢
 have HWB:ak (w.heap.size=bt):=⟨hbb⟩
 clear hbb
 generalize hb3:bt+1=b3 at HB3 HB4 ⊢
 generalize hb4:b3+1=b4 at HB4 ⊢
 have HW4:ak (w.heap.size≤b4):=⟨by have:=HWB.out;omega⟩
 have HT4:ak (b4≠bt):=⟨by omega⟩
 clear hb3 hb4
 have k0:=(af HB3.out.1 0).trans (rfl:_=some (Value.int .u8 1))
 have k1:=(af HB3.out.1 1).trans (rfl:_=some (Value.int .i64 key))
 have k2:=(af HB3.out.1 2).trans (rfl:_=some (Value.int .i64 upto))
 have k3:=(af HB3.out.1 3).trans (rfl:_=some (Value.int .i64 value))
 go_upto_region 7 with (go_at_call 159;refine (BQ key upto value _).mono ?_;rintro e w4 ⟨rfl,hb4⟩;have HT:=Am_ (HT.out.below hb4);have HB3:=Am_ (HB3.out.moves (Moves.bE _ hb4));have HB4:=Am_ (HB4.out.moves (Moves.bE _ hb4));clear hb4 k0 k1 k2 k3)
 have k0:=(af HB3.out.1 0).trans (rfl:_=some (Value.int .u8 1))
 have k1:=(af HB3.out.1 1).trans (rfl:_=some (Value.int .i64 key))
 have k3:=(af HB3.out.1 3).trans (rfl:_=some (Value.int .i64 value))
 have c0:=HT.out.c0
 have c1:=HT.out.c1
 have c2:=HT.out.c2
 have x0:=(af HB4.out.1 0).trans (rfl:_=some (Value.int .i64 0))
 go_upto_region 14 with fail
 clear x0
 go_wp2_with (first
  | (go_at_call 70;refine (BF p tb work me key value false fl f ok s _ HT.out.run hf (o,t) HD.out).mono ?_;rintro e w5 ⟨ok1,hm,hi,hres⟩;rcases HCS.out with hw | hw;(obtain ⟨rfl,rfl⟩:=hw;obtain rfl:e= .panicked dx:=hres;exact ⟨rfl,⟨⟨ok1,HT.out.moves.trans hm,hi,rfl⟩⟩⟩);obtain ⟨a,rfl,hr2⟩:=hw;obtain ⟨v,rfl,rfl⟩:=hres;have HT2:=Am_ (HT.out.next hm hi);have HB5:=Am_ (HB4.out.moves hm);have HR2:=Am_ hr2;clear hm hi hr2 c0 c1 c2 k0 k1 k3 HB3 HB4)
  | (go_at_call 163;refine (Em a _).mono ?_;rintro e w6 ⟨rfl,hb6⟩;unfold JF;have HT3:=Am_ (HT2.out.below hb6);have HB6:=Am_ (HB5.out.moves (Moves.bE _ hb6));clear hb6 HT2 HB5;have x0:=(af HB6.out.1 0).trans (rfl:_=some (Value.int .i64 0));have z0:=ah HB6.out.1 0;have x1:=(af HB6.out.1 1).trans (rfl:_=some (Value.bool false));have z1:=ah HB6.out.1 1;have x2:=(af HB6.out.1 2).trans (rfl:_=some (Value.int .i64 0));have z2:=ah HB6.out.1 2;have x3:=(af HB6.out.1 3).trans (rfl:_=some (Value.int .i64 0));have z3:=ah HB6.out.1 3;have x4:=(af HB6.out.1 4).trans (rfl:_=some (Value.slice none 0 0));have z4:=ah HB6.out.1 4;have x5:=(af HB6.out.1 5).trans (rfl:_=some (Value.bool false));have z5:=ah HB6.out.1 5))
 have HT6:=Am_ ((((((HT3.out.set (q:=⟨b4,0,none⟩) HB6.out.2 HW4.out HT4.out (.int .i64 (ofA a).err)).set (q:=⟨b4,1,none⟩) HB6.out.2 HW4.out HT4.out (.bool (ofA a).found)).set (q:=⟨b4,2,none⟩) HB6.out.2 HW4.out HT4.out (.int .i64 (ofA a).key)).set (q:=⟨b4,3,none⟩) HB6.out.2 HW4.out HT4.out (.int .i64 (ofA a).value)).set (q:=⟨b4,4,none⟩) HB6.out.2 HW4.out HT4.out (.slice none 0 0)).set (q:=⟨b4,5,none⟩) HB6.out.2 HW4.out HT4.out (.bool (ofA a).short))
 have HB7:ak (Mine ok1 ((((((w6.setCell ⟨b4,0,none⟩ (.int .i64 (ofA a).err)).setCell ⟨b4,1,none⟩ (.bool (ofA a).found)).setCell ⟨b4,2,none⟩ (.int .i64 (ofA a).key)).setCell ⟨b4,3,none⟩ (.int .i64 (ofA a).value)).setCell ⟨b4,4,none⟩ (.slice none 0 0)).setCell ⟨b4,5,none⟩ (.bool (ofA a).short)) b4 (.cells #[.int .i64 (ofA a).err,.bool (ofA a).found,.int .i64 (ofA a).key,.int .i64 (ofA a).value,.slice none 0 0,.bool (ofA a).short] 58 (0,0))):=⟨(Mine.set (Mine.set (Mine.set (Mine.set (Mine.set (Mine.set HB6.out 0 _) 1 _) 2 _) 3 _) 4 _) 5 _)⟩
 clear x0 x1 x2 x3 x4 x5 z0 z1 z2 z3 z4 z5 HT3 HB6
 generalize (((((w6.setCell ⟨b4,0,none⟩ (.int .i64 (ofA a).err)).setCell ⟨b4,1,none⟩ (.bool (ofA a).found)).setCell ⟨b4,2,none⟩ (.int .i64 (ofA a).key)).setCell ⟨b4,3,none⟩ (.int .i64 (ofA a).value)).setCell ⟨b4,4,none⟩ (.slice none 0 0)).setCell ⟨b4,5,none⟩ (.bool (ofA a).short)=w8 at HT6 HB7 ⊢
 (try simp only [Exit.inBlock,Exit.then])
 refine bodyPost_ret (results_cell_row rfl _ _ b4 58 _ (0,0) _ rfl HB7.out.1 Tryz.underlying58 rfl (by kernel_rfl)) rfl ?_
 have hh:=HR2.out
 injection hh with hh
 subst hh
 exact ⟨⟨ok1,HT6.out.moves,HT6.out.run,_,rfl,none,0,by rw [kN];rfl,by rw [kN];exact Nat.le_refl _,by rw [kN];exact Kd.jD _ _ _⟩⟩
def IX:Int:=1099511627777
def Ey:Int:=1099511627778
def X23:Ws:=⟨⟨[gX nd0 1,gX (ndE IX) 1],[],50,2,0⟩,⟨[],50⟩,⟨0,[-1,-1],[[],[]]⟩,2,3,Ey⟩
theorem Fh:ws0 2 3 2 50 50=some X23:=by kernel_rfl
theorem Fg:X23.Good:=⟨⟨by decide,by decide,by decide,by decide,fun i s hi=>by
 have hl:i<2:=(List.getElem?_eq_some_iff.1 hi).1
 match i,hl with
 | 0,_=>simp [X23] at hi;subst hi;exact ⟨⟨by decide,by decide,by decide⟩,by decide⟩
 | 1,_=>simp [X23] at hi;subst hi;exact ⟨⟨by decide,by decide,by decide⟩,by decide⟩⟩,⟨by decide⟩,⟨by decide,by decide,fun i e hi=>by simp [X23] at hi⟩⟩
def JG:Opn:=⟨1,1,0,5⟩
def LQ:Opn:=⟨0,1,0,0⟩
def S23:Stg:=Stg.new X23 2
def LF:Pr Ws (List Int):=mR ((0:Nat):Int) 9 (vU ((0:Nat):Int) 1 5 9 3)
def si:Bool × Nat × Stg × List Int:=(EA LF S23.evs.length 1048576 (S23.start 0 JG) []).getD (true,0,S23,[])
def vB:Stg:=si.2.2.1
theorem BM:EA LF S23.evs.length 1048576 (S23.start 0 JG) []=some (true,si.2.1,vB,si.2.2.2):=by kernel_rfl
def mX:Evn:=vB.evs.getD 0 ⟨0,JG,0,0,CP⟩
theorem Fz:vB.n=2:=by kernel_rfl
theorem Dc:vB.evs.length=1:=by kernel_rfl
theorem Il:vB.evs[S23.evs.length]?=some mX:=by kernel_rfl
theorem DK:decide (0≤mX.fin)=true:=by kernel_rfl
theorem DL:decide (mX.ans.pairs.length<1000000)=true:=by kernel_rfl
def LG:Pr Ws (List Int):=mR ((1:Nat):Int) 9 (LP 1 9)
def sj:Bool × Nat × Stg × List Int:=(EA LG vB.evs.length 1048576 (vB.start 1 LQ) []).getD (true,0,S23,[])
def yG:Stg:=sj.2.2.1
theorem BN:EA LG vB.evs.length 1048576 (vB.start 1 LQ) []=some (true,sj.2.1,yG,sj.2.2.2):=by kernel_rfl
def LM:Evn:=yG.evs.getD 1 ⟨0,JG,0,0,CP⟩
theorem FB:yG.n=2:=by kernel_rfl
theorem Dg:yG.evs.length=2:=by kernel_rfl
theorem Im:yG.evs[vB.evs.length]?=some LM:=by kernel_rfl
theorem DN:decide (0≤LM.fin)=true:=by kernel_rfl
theorem vK:LM.ans=⟨0,true,0,5,[],false⟩:=by kernel_rfl
theorem wG:yG.evs.map (fun e=>e.ans.pairs)= [[],[]]:=by kernel_rfl
theorem MN (sb p:Nat) (ok:Nat→Prop) (w:World) (h:dm ok sb p S23 w):Calls Tryz.prog 24 #[.pointer (some ⟨sb,0,none⟩),.int .i64 ((0:Nat):Int),opV JG] w (yT sb p vB mX.ans ok w):=
 pJ sb p 0 S23 JG ok w h (by decide) (by decide) (by decide) (by decide) 9 (vU ((0:Nat):Int) 1 5 9 3) (fun tb work ok s w res h1 h2=>Ik p tb work _ ok s w 1 0 5 h1 9 3 (by omega) res h2) (fun s a t h1=>rU h1) si.2.1 vB si.2.2.2 BM (by rw [Fz];decide) mX Il (of_decide_eq_true DK) (of_decide_eq_true DL)
theorem MO (sb p:Nat) (ok:Nat→Prop) (w:World) (h:dm ok sb p vB w):Calls Tryz.prog 24 #[.pointer (some ⟨sb,0,none⟩),.int .i64 ((1:Nat):Int),opV LQ] w (yT sb p yG ⟨0,true,0,5,[],false⟩ ok w):=by
 rw [←vK]
 exact pJ sb p 1 vB LQ ok w h (by rw [Fz];decide) (by rw [Dc];decide) (by decide) (by decide) 9 (LP 1 9) (fun tb work ok s w res h1 h2=>KS p tb work _ ok s w 1 0 0 h1 9 (by omega) res h2) (fun s a t h1=>xG h1) sj.2.1 yG sj.2.2.2 BN (by rw [FB];decide) LM Im (of_decide_eq_true DN) (by rw [vK];decide)
theorem Df: ∀ e∈yG.evs,e.ans.pairs.length<1000000:=fun e he=>by
 have h1:e.ans.pairs∈yG.evs.map (fun e=>e.ans.pairs):=List.mem_map_of_mem he
 rw [wG] at h1
 simp only [List.mem_cons,List.not_mem_nil,or_false] at h1
 rcases h1 with h1 | h1<;>rw [h1]<;>decide
theorem zH (w:World):Calls Tryz.prog 22 #[] w fun e w1=>e= .returned (.bool true)∧Below w.heap.size w w1:=by
 go_enter Tryz.func22,Tryz.ntmps22
 go_upto_region 2 with (go_at_call 39;refine (om 2 3 2 50 50 _ (by omega) (by omega) (by omega) (by omega) (by omega) (by omega) (by omega) (by omega) (by omega) (by omega) X23 Fh Fg).mono ?_;rintro e w1 hE;obtain ⟨ok1,sb,p,rfl,hs,hf,hb⟩:=hE.out;have H1:ak (dm ok1 sb p S23 w1):=⟨hs⟩;have F1:=Am_ hf;have B1:=Am_ hb;clear hE hs hf hb)
 go_upto_region 5 with (go_at_call 24;refine (MN sb p ok1 _ H1.out).mono ?_;rintro e w2 hE;obtain ⟨ok2,A2,c2,rfl,hs,hm,_,_⟩:=hE.out;have H2:=Am_ hs;have M2:=Am_ hm;clear hE hs hm H1)
 have H3:=Am_ (H2.out.below (ai (Below.refl _ _) (.cells #[.int .i64 mX.ans.err,.bool mX.ans.found,.int .i64 mX.ans.key,.int .i64 mX.ans.value,.slice A2 mX.ans.pairs.length c2,.bool mX.ans.short] 58)))
 have M3:=Am_ (M2.out.alloc (.cells #[.int .i64 mX.ans.err,.bool mX.ans.found,.int .i64 mX.ans.key,.int .i64 mX.ans.value,.slice A2 mX.ans.pairs.length c2,.bool mX.ans.short] 58))
 clear H2 M2
 generalize w2.alloc (.cells #[.int .i64 mX.ans.err,.bool mX.ans.found,.int .i64 mX.ans.key,.int .i64 mX.ans.value,.slice A2 mX.ans.pairs.length c2,.bool mX.ans.short] 58)=w3 at H3 M3 ⊢
 go_upto_region 6 with (go_at_call 24;refine (MO sb p ok2 _ H3.out).mono ?_;rintro e w4 hE;obtain ⟨ok4,A4,c4,rfl,hs,hm,_,_⟩:=hE.out;have H4:=Am_ hs;have M4:=Am_ (M3.out.trans hm);clear hE hs hm H3 M3)
 have H5:=Am_ (H4.out.below (ai (Below.refl _ _) (.cells #[.int .i64 0,.bool true,.int .i64 0,.int .i64 5,.slice A4 0 c4,.bool false] 58)))
 have K5:=Am_ (Mine.new H4.out.lt (.cells #[.int .i64 0,.bool true,.int .i64 0,.int .i64 5,.slice A4 0 c4,.bool false] 58))
 have M5:=Am_ (M4.out.alloc (.cells #[.int .i64 0,.bool true,.int .i64 0,.int .i64 5,.slice A4 0 c4,.bool false] 58))
 clear H4 M4
 generalize w4.alloc (.cells #[.int .i64 0,.bool true,.int .i64 0,.int .i64 5,.slice A4 0 c4,.bool false] 58)=w5 at H5 M5 K5 ⊢
 generalize w4.heap.size=b5 at K5 ⊢
 have y1:=(af K5.out.1 1).trans (rfl:_=some (Value.bool true))
 have y3:=(af K5.out.1 3).trans (rfl:_=some (Value.int .i64 5))
 go_wp2_with (first
  | (go_at_call 31;refine (jV sb p yG ok4 _ H5.out Df).mono ?_;rintro e w6 hE;obtain ⟨A6,c6,rfl,hb⟩:=hE.out;rw [Dg];have H6:=Am_ (H5.out.below hb);have M6:=Am_ (M5.out.below hb);clear hE hb H5 M5 K5 y1 y3)
  | (go_at_call 30;refine (mq sb p yG ok4 _ H6.out (by rw [FB];decide)).mono ?_;rintro e w7 ⟨rfl,rfl⟩))
 go_ret
 exact ⟨rfl,jr M6.out B1.out F1.out⟩
section
variable {P:Program}
theorem qy (w:World) (dT sT ty elem:TypeId) (sz g o dLen dCap:Nat) (a:Addr) (sLen sCap:Nat) (cur:Array Value) (t:TypeId) (cs:List Value)
  (hu:P.underlying dT=some (.slice elem)) (hs:(P.info? elem).map (·.size)=some sz)
  (hg:w.heap[g]?=some (.cells cur t (0,0))) (hn:cs.length=Nat.min sLen dLen*sz)
  (hsrc: ∀ j v,cs[j]?=some v→w.cell? (a.add j)=some v) (hfit:o+cs.length≤cur.size) (h1: ∀ v∈cs,v.oneCell'=true):
  (Builtin.copy_ #[dT,sT] ty #[.slice (some ⟨g,o,none⟩) dLen dCap,.slice (some a) sLen sCap]).run P w=
   .ok (goInt (Nat.min sLen dLen)) (w.setRow g (cur.toList.take o++cs++cur.toList.drop (o+cs.length)).toArray):=by
 have hl:=run_loadCells_list (P:=P) w a cs hsrc
 have hst:=run_storeCells_at P g o t cs 0 cur w hg (by simpa using hfit) h1
 cases hq:P.info? elem with
 | none=>simp [hq] at hs
 | some i=>
  have hi:i.size=sz:=by simpa [hq] using hs
  simp [Builtin.copy_,run_underlying hu,Builtin.lenOf,Builtin.firstCells,sizeOf,typeInfo,hq,hi,←hn,hl,hst]
theorem CO (w:World) {ops:Array Oper} {rest:List Oper} {o:Oper} {a:Act} {Q:Exit→Act→World→Prop} (hgd:o.guard=none) (d s:Operand) (t t':TypeId)
  (ho:o.op= .call { callee:= .builtin .copy,args:= #[d,s],argTypes:= #[t,t'] }) (v u:Value) (hd:a.eval d=v) (hs:a.eval s=u) {v':Value} {w':World}
  (hr:(Builtin.copy_ #[t,t'] o.type #[v,u]).run P w= .ok v' w') (h:wpList P ops Q rest (a.put o.dst v') w'):wpList P ops Q (o::rest) a w:=
 wpList_plain hgd fun K hK=>by
  unfold Oper.wp execOp
  simp only [ho,resolve,invoke,builtin,Sem.run_bind,Sem.run_pure,Result.andThen_ok,List.map_toArray,List.map_cons,List.map_nil,hd,hs,hr]
  exact hK _ _ h
end
theorem rQ {w:World} {N:Nat} {e:TypeId} {sz n:Nat} {v:Value} {cs:List Value} (h:w.ownsRow N e sz v n cs) {b c:Nat} (hv:v= .slice (some ⟨b,0,none⟩) n c): ∃ cur,w.heap[b]?=some (.cells cur e (0,0))∧n≤c∧c≤maxLen∧cur.size=c*sz∧cur.toList.take (n*sz)=cs∧N≤b:=by
 rcases h.2 with ⟨h1,_⟩ | ⟨g,cap,cur,h1,h2,h3,h4,h5,h6,h7⟩
 ·rw [hv] at h1;cases h1
 ·rw [hv] at h1
  injection h1 with h1 h8 h9
  injection h1 with h1
  injection h1 with h1
  subst h1 h9
  exact ⟨cur,h3,h4,h5,h6,h7,h2⟩
section
variable {α:Type} {enc:α→List Value} {sz:Nat}
theorem mG (h: ∀ x,(enc x).length=sz): ∀ xs:List α,(xs.flatMap enc).length=xs.length*sz
 | []=>by simp
 | x::xs=>by rw [List.flatMap_cons,List.length_append,h,mG h xs,List.length_cons,Nat.add_mul,Nat.one_mul,Nat.add_comm]
theorem ni (h: ∀ x,(enc x).length=sz): ∀ (xs:List α) (i:Nat),(xs.flatMap enc).drop (i*sz)=(xs.drop i).flatMap enc
 | [],i=>by simp
 | x::xs,0=>by simp
 | x::xs,i+1=>by
  rw [List.drop_succ_cons,List.flatMap_cons,←ni h xs i,Nat.add_mul,Nat.one_mul,Nat.add_comm,←h x,List.drop_length_add_append]
theorem rD (h: ∀ x,(enc x).length=sz) {R:α→List Value→Prop} (hR: ∀ x c,R x c→c=enc x): ∀ (xs:List α) (cs:List Value),eY R sz xs cs→cs=xs.flatMap enc
 | [],cs,hr=>by
  have:=hr.1
  simp at this
  rw [this];rfl
 | x::xs,cs,hr=>by
  have h0:=hR _ _ (hr.2 0 x rfl)
  rw [Nat.zero_mul,List.drop_zero] at h0
  have h1:=rD h hR xs (cs.drop sz) ⟨by rw [List.length_drop,hr.1,List.length_cons,Nat.add_mul,Nat.one_mul,Nat.add_sub_cancel],fun j p hj=>by
   have:=hr.2 (j+1) p hj
   rw [List.drop_drop,show sz+j*sz=(j+1)*sz by rw [Nat.add_mul,Nat.one_mul,Nat.add_comm]]
   exact this⟩
  rw [List.flatMap_cons,←h0,←h1,List.take_append_drop]
theorem BK (h: ∀ x,(enc x).length=sz) {R:α→List Value→Prop} (hR: ∀ x,R x (enc x)) (xs:List α):eY R sz xs (xs.flatMap enc):=
 ⟨mG h xs,fun j p hj=>by
  rw [ni h]
  have hlt:=(List.getElem?_eq_some_iff.1 hj).1
  have:xs.drop j=p::xs.drop (j+1):=by rw [List.drop_eq_getElem_cons hlt,(List.getElem?_eq_some_iff.1 hj).2]
  rw [this,List.flatMap_cons,List.take_left' (h p)]
  exact hR p⟩
end
def CQ (x:Int × Int):List Value:= [.int .i64 x.1,.int .i64 x.2]
def flP (xs:List (Int × Int)):List Value:=xs.flatMap CQ
theorem Ir (xs:List (Int × Int)): ∀ v∈flP xs,v.oneCell'=true:=fun v hv=>by
 obtain ⟨x,_,hx⟩:=List.mem_flatMap.1 hv
 simp [CQ] at hx
 rcases hx with rfl | rfl<;>rfl
theorem sS {e:Nat} {w:World} {base:Nat} {ok:Nat→Prop} {v:Value} {xs:List (Int × Int)} (h:dw.R e w base ok v xs):(∀ k,v.ownBlock=some k→ok k)∧w.ownsRow base e 2 v xs.length (flP xs):=by
 obtain ⟨h0,inner,ho,hr⟩:=h
 have:=rD (enc:=CQ) (fun _=>rfl) (fun x c h=>by
  obtain ⟨c0,c1,rfl,h1,h2⟩:=h
  rw [show c0=_ from h1,show c1=_ from h2]
  rfl) xs inner hr
 subst this
 exact ⟨h0,ho⟩
theorem uI {e:Nat} {w:World} {base:Nat} {ok:Nat→Prop} {v:Value} {xs:List (Int × Int)} (h0: ∀ k,v.ownBlock=some k→ok k) (ho:w.ownsRow base e 2 v xs.length (flP xs)):dw.R e w base ok v xs:=
 ⟨h0,_,ho,BK (enc:=CQ) (fun _=>rfl) (fun x=>⟨_,_,rfl,rfl,rfl⟩) xs⟩
theorem vJ {P:Program} (w:World) (t ty e:TypeId) (i:TypeInfo) (a:Option Addr) (n c m:Nat) (ht:P.underlying t=some (.slice e)) (hi:P.info? e=some i):(Builtin.copy_ #[t,t] ty #[.slice a n c,.slice none 0 m]).run P w= .ok (goInt 0) w:=by
 cases a with
 | none=>simp [Builtin.copy_,run_underlying ht,Builtin.lenOf,Builtin.firstCells,sizeOf,typeInfo,hi]
 | some a=>
  simp [Builtin.copy_,run_underlying ht,Builtin.lenOf,Builtin.firstCells,sizeOf,typeInfo,hi]
  rfl
theorem Ml {w:World} {a:Addr} {n:Nat} {xs:List (Int × Int)} (h:dw.C w (some a) n xs): ∀ j v,(flP xs)[j]?=some v→w.cell? (a.add j)=some v:=by
 intro j v hj
 have hlt:=(List.getElem?_eq_some_iff.1 hj).1
 rw [show (flP xs).length=xs.length*2 from mG (enc:=CQ) (sz:=2) (fun _=>rfl) xs] at hlt
 have hi:j / 2<xs.length:=by omega
 have hn:xs.length=n:=h.1
 obtain ⟨ad,e,hc⟩:=h.2.2 (by omega)
 injection e with e
 subst e
 obtain ⟨cs,hl,hK,hcc⟩:=hc (j / 2) xs[j / 2] (List.getElem?_eq_getElem hi)
 obtain ⟨c0,c1,rfl,h0,h1⟩:=hK
 rw [show c0=_ from h0,show c1=_ from h1] at hcc
 have hd:(flP xs)[j / 2*2+j % 2]?=(CQ xs[j / 2])[j % 2]?:=by
  rw [←List.getElem?_drop,show (flP xs).drop (j / 2*2)=(xs.drop (j / 2)).flatMap CQ from ni (enc:=CQ) (sz:=2) (fun _=>rfl) xs (j / 2),List.drop_eq_getElem_cons hi,List.flatMap_cons,List.getElem?_append_left (by simp [CQ];omega)]
 rw [show j / 2*2+j % 2=j by omega,hj] at hd
 have:=hcc (j % 2) v hd.symm
 rw [show j / 2*dw.sz+j % 2=j by show j / 2*2+j % 2=j;omega] at this
 exact this
theorem um (B:Option Addr) (d:Nat) (ys:List (Int × Int)) (w:World) (hC:dw.C w B ys.length ys) (hl:ys.length<1000000):
  Calls Tryz.prog 223 #[.slice none 0 0,.slice B ys.length d] w fun e w1=> ∃ v,e= .returned v∧dw.R 121 w1 w.heap.size (fun k=>w.heap.size≤k) v ys∧Below w.heap.size w w1:=by
 have HC:=Am_ hC
 have HL:=Am_ hl
 have hw0:wrap64 (ys.length:Int)=(ys.length:Int):=by unfold wrap64;omega
 have b0:(0:Int)≤(ys.length:Int):=by omega
 obtain ⟨i0,hi0,hz⟩:=Option.map_eq_some_iff.1 ji
 simp only [Prod.mk.injEq] at hz
 have HI0:=Am_ (And.intro hi0 hz.2.1)
 clear hC hl hi0 hz
 go_enter Tryz.func223,Tryz.ntmps223
 go_upto_region 2 with ((with_reducible refine KZ (.makeSlice 26 (.tmp 10) (.tmp 10)) rfl ?_);refine Kd.Fv dw (w0:=w) w.heap.size 121 rfl rfl 26 (.tmp 10) (.tmp 10) rfl (ys.length:Int) (by show Value.int .i64 (wrap64 _)=_;rw [hw0]) (by show Value.int .i64 (wrap64 _)=_;rw [hw0]) Tryz.underlying26 _ 16 ji rfl (by decide) (by decide) (0,0) (ok:=fun k=>w.heap.size≤k) (okp:=fun _=>False) ⟨_,_,rfl,rfl,rfl⟩ (fun _ hk=>hk.elim) (Nat.le_refl _) b0 (by have:=HL.out;omega) (Below.refl _ _) (Nat.le_refl _) ?_;intro v5 w5 ho hb5 hg hat;have m0_:=Am_ ho;have m1_:=Am_ hb5;have m2_:=Am_ hat;clear ho hb5 hg hat)
 obtain ⟨A5,c5,rfl⟩:=Kd.aJ m0_.out
 rw [List.length_replicate,Int.toNat_natCast] at m0_ m2_ ⊢
 obtain ⟨g5,hg5,hg6⟩:=m2_.out
 obtain rfl:A5=some ⟨g5,0,none⟩:=by
  cases A5 with
  | none=>cases hg5
  | some a=>
   obtain ⟨g,rfl⟩:=Kd.oP m0_.out
   injection hg5 with hg5
   rw [show g=g5 from hg5]
 obtain ⟨_,hO⟩:=sS m0_.out
 rw [List.length_replicate] at hO
 obtain ⟨cur,hb,hnc,hcm,hcu,hct,hNb⟩:=rQ hO rfl
 have hcn: ∀ ty,(Builtin.copy_ #[26,26] ty #[.slice (some ⟨g5,0,none⟩) ys.length c5,.slice none 0 0]).run Tryz.prog w5= .ok (goInt 0) w5:=fun ty=>vJ w5 26 ty 121 i0 (some ⟨g5,0,none⟩) ys.length c5 0 Tryz.underlying26 HI0.out.1
 have HCN:=Am_ hcn
 have hcf: ∀ W:World,(Instr.slice 26 (.slice (some ⟨g5,0,none⟩) ys.length c5) (some (.int .i64 0)) none none).run Tryz.prog W= .ok (.slice (some ⟨g5,0,none⟩) ys.length c5) W:=fun W=>by
  have:=DF 26 121 .i64 Tryz.underlying26 HI0.out.1 2 HI0.out.2 (some ⟨g5,0,none⟩) ys.length c5 0 (by omega) (by omega) W
  rw [this]
  simp [jf]
 have emin:Nat.min ys.length ys.length=ys.length:=Nat.min_self _
 obtain ⟨L1,hL1⟩: ∃ L1,L1=flP ys++cur.toList.drop ((flP ys).length):=⟨_,rfl⟩
 have hfl:(flP ys).length=ys.length*2:=mG (enc:=CQ) (sz:=2) (fun _=>rfl) ys
 have hC2: ∀ ty,(Builtin.copy_ #[26,26] ty #[.slice (some ⟨g5,0,none⟩) ys.length c5,.slice B ys.length d]).run Tryz.prog w5= .ok (goInt ys.length) (w5.setRow g5 L1.toArray):=fun ty=>by
  cases B with
  | none=>
   have hy:ys= []:=by
    cases ys with
    | nil=>rfl
    | cons p q=>obtain ⟨ad,e,_⟩:=HC.out.2.2 (by simp);cases e
   subst hy
   have e1:w5.setRow g5 L1.toArray=w5:=by
    rw [hL1]
    simp only [flP,List.flatMap_nil,List.nil_append,List.length_nil,List.drop_zero,Array.toArray_toList]
    exact setRow_self w5 g5 cur _ (0,0) hb
   rw [e1]
   exact vJ w5 26 ty 121 i0 (some ⟨g5,0,none⟩) 0 c5 d Tryz.underlying26 HI0.out.1
  | some a=>
   have:=qy (P:=Tryz.prog) w5 26 26 ty 121 2 g5 0 ys.length c5 a ys.length d cur 121 (flP ys) Tryz.underlying26 (by rw [HI0.out.1];exact congrArg some HI0.out.2) hb (by rw [hfl,emin]) (Ml (Kd.bO HC.out m1_.out)) (by rw [hfl,hcu];omega) (Ir ys)
   rw [this,emin,List.take_zero,List.nil_append,Nat.zero_add,←hL1]
 have hlen:L1.length=c5*2:=by
  have h1:cur.toList.length=c5*2:=by rw [Array.length_toList,hcu]
  rw [hL1,List.length_append,List.length_drop,hfl,h1];omega
 have htk:L1.take (ys.length*2)=flP ys:=by rw [hL1,←hfl,List.take_left'];rfl
 have hsR:(w5.setRow g5 L1.toArray).heap[g5]?=some (.cells L1.toArray 121 (0,0)):=setRow_heap _ g5 cur _ _ _ hb
 have HC2:=Am_ hC2
 have HLT:=Am_ (And.intro hlen (And.intro htk hsR))
 have HBL:ak (Below w.heap.size w (w5.setRow g5 L1.toArray)):=⟨below_setRow m1_.out hNb _⟩
 have HNC:=Am_ (And.intro hnc (And.intro hcm hNb))
 have HG6:=Am_ hg6
 have HFL:=Am_ hfl
 clear hcn hC2 hg5 hO hb hnc hcm hcu hct hNb hg6 hlen htk hsR hfl hL1 m0_ m1_ m2_ emin
 go_upto_region 3 with (with_reducible refine CO _ rfl _ _ 26 26 rfl _ _ rfl rfl (HCN.out _) ?_)
 go_wp2_with (with_reducible refine CO _ rfl _ _ 26 26 rfl _ _ rfl rfl (HC2.out _) ?_)
 go_ret
 exact ⟨_,rfl,uI (fun k hk=>by rw [show g5=k from by injection hk] at HG6;exact HG6.out) ⟨HFL.out,.inr ⟨g5,c5,L1.toArray,rfl,HNC.out.2.2,HLT.out.2.2,HNC.out.1,HNC.out.2.1,by rw [List.size_toArray,HLT.out.1],HLT.out.2.1⟩⟩,HBL.out⟩
theorem Ie {ok:Nat→Prop} {p:Nat} {x:Ar} (w:World) (h:dn ok p x w):
  Calls Tryz.prog 20 #[.pointer (some ⟨p,0,none⟩)] w fun e w1=>e= .returned (.int .i64 x.used)∧w1=w:=by
 obtain ⟨sv,fv,lv,ρ,h⟩:=h
 have c1:w.cell? ⟨p,3,none⟩=some (.int .i64 x.used):=(af h.box 3).trans rfl
 clear h
 go_enter Tryz.func20,Tryz.ntmps20
 go_wp2_with fail
 go_ret
 exact ⟨rfl,rfl⟩
theorem zy {ok:Nat→Prop} {p:Nat} {x:Ar} (w:World) (h:dn ok p x w):
  Calls Tryz.prog 49 #[.pointer (some ⟨p,0,none⟩)] w fun e w1=>e= .returned (.int .i64 x.faults)∧w1=w:=by
 obtain ⟨sv,fv,lv,ρ,h⟩:=h
 have c1:w.cell? ⟨p,4,none⟩=some (.int .i64 x.faults):=(af h.box 4).trans rfl
 clear h
 go_enter Tryz.func49,Tryz.ntmps49
 go_wp2_with fail
 go_ret
 exact ⟨rfl,rfl⟩
def rM (l:List (List (Int × Int))):Nat:=(l.map List.length).sum
theorem Bj (l:List (List (Int × Int))) (k:Nat) (h:k<l.length):rM (l.take (k+1))=rM (l.take k)+l[k].length:=by
 unfold rM
 rw [List.take_succ_eq_append_getElem h,List.map_append,List.sum_append]
 simp
theorem IC (l:List (List (Int × Int))): ∀ k,rM (l.take k)≤rM l:=fun k=>by
 have:=congrArg rM (List.take_append_drop k l)
 unfold rM at *
 rw [List.map_append,List.sum_append] at this
 omega
theorem DU {ok:Nat→Prop} {p:Nat} {x:Ep} (w:World) (h:dz ok p x w) (hl:rM x.limbo<1000000) (hn:x.limbo.length<1000000):
  Calls Tryz.prog 21 #[.pointer (some ⟨p,0,none⟩)] w fun e w1=>e= .returned (.int .i64 (rM x.limbo))∧w1=w:=by
 obtain ⟨sv,lv,gv,ρ,h⟩:=h
 obtain ⟨A,c,rfl⟩:=Kd.aJ h.row
 rw [List.length_map,List.length_range] at h
 have c2:w.cell? ⟨p,2,none⟩=some (.slice A x.limbo.length c):=(af h.box 2).trans rfl
 have HE:=Am_ h
 have HL:=Am_ hl
 have HN:=Am_ hn
 clear h hl hn
 go_enter Tryz.func21,Tryz.ntmps21
 go_upto_block 0 with fail
 go_wp2_with fail
 go_loopg [3,13] x.limbo.length (fun g v3 v13 wr=> ∃ k:Nat,v3= .int .i64 ((rM (x.limbo.take k):Nat):Int)∧v13= .int .i64 k∧k+g=x.limbo.length∧wr=w)
 case atStart=>exact ⟨0,rfl,rfl,by omega,rfl⟩
 case round=>
  obtain ⟨k,rfl,rfl,hkg,rfl⟩:=hrel
  cases gk with
  | zero=>
   have d1:decide ((k:Int)<(x.limbo.length:Int))=false:=decide_eq_false (by omega)
   have d2:decide (k<x.limbo.length)=false:=decide_eq_false (by omega)
   have HK:=Am_ (show x.limbo.take k=x.limbo from List.take_of_length_le (by omega))
   clear hkg
   rw [HK.out]
   go_wp2_with fail
   go_ret
   exact ⟨rfl,rfl⟩
  | succ g=>
   have hk:k<x.limbo.length:=by omega
   have d1:decide ((k:Int)<(x.limbo.length:Int))=true:=decide_eq_true (by omega)
   have d2:decide (k<x.limbo.length)=true:=decide_eq_true hk
   have b1:(0:Int)≤(k:Int):=by omega
   have b2:(k:Int)<(x.limbo.length:Int):=by omega
   obtain ⟨_,gr,rfl,_,_,hc,_⟩:=HE.out.ig (k:Int) (by omega) (by omega)
   rw [Int.toNat_natCast] at hc
   have hQ:=HE.out.limbo k x.limbo[k] (List.getElem?_eq_getElem hk)
   obtain ⟨A1,c1,hv,_⟩:=Kd.jY hQ
   rw [hv] at hc
   have HW:ak (wrap64 (((rM (x.limbo.take k):Nat):Int)+(x.limbo[k].length:Int))=((rM (x.limbo.take (k+1)):Nat):Int)):=⟨by
    have h1:=Bj x.limbo k hk
    have h2:=IC x.limbo (k+1)
    have h3:=HL.out
    unfold wrap64
    omega⟩
   have HW1:ak (wrap64 ((k:Int)+1)=((k+1:Nat):Int)):=⟨by have:=HN.out;unfold wrap64;omega⟩
   have HK:=Am_ hkg
   clear hQ hv hkg
   generalize x.limbo[k].length=m at hc HW
   go_wp2_with fail
   go_roundg g
   case rel=>exact ⟨k+1,by rw [←HW.out],by rw [←HW1.out],by have:=HK.out;omega,rfl⟩
   case measure=>omega
theorem dm.world {ok:Nat→Prop} {sb p:Nat} {S:Stg} {w:World} (h:dm ok sb p S w):w.cell? ⟨sb,0,none⟩=some (.pointer (some ⟨p,0,none⟩))∧S.ws.Good∧ ∃ okW okA okR okE pA pR pE,dG okW okA okR okE p pA pR pE S.ws w∧(∀ k,okW k→ok k):=by
 obtain ⟨okB,okW,b,ρ,h1,h2,h3,h4,⟨okA,okR,okE,pA,pR,pE,hw⟩,hg⟩:=h.out
 exact ⟨(af h3.box 0).trans rfl,hg,okW,okA,okR,okE,pA,pR,pE,hw,fun k hk=>(h1 k).2 (.inr hk)⟩
theorem sH (sb p:Nat) (S:Stg) (ok:Nat→Prop) (w:World) (h:dm ok sb p S w):
  Calls Tryz.prog 34 #[.pointer (some ⟨sb,0,none⟩)] w fun e w1=>e= .returned (.int .i64 (S.ws.ar.used))∧w1=w:=by
 obtain ⟨c0,hg,okW,okA,okR,okE,pA,pR,pE,hw,_⟩:=h.world
 have c1:=(af hw.box 0).trans (rfl:_=some (Value.pointer (some ⟨pA,0,none⟩)))
 have HC:=Am_ (Ie w hw.ar)
 clear h hw hg
 go_enter Tryz.func34,Tryz.ntmps34
 go_wp2_with (go_at_call 20;refine HC.out.mono ?_;rintro e w1 ⟨rfl,rfl⟩;clear HC)
 go_ret
 exact ⟨rfl,rfl⟩
theorem oJ (sb p:Nat) (S:Stg) (ok:Nat→Prop) (w:World) (h:dm ok sb p S w):
  Calls Tryz.prog 36 #[.pointer (some ⟨sb,0,none⟩)] w fun e w1=>e= .returned (.int .i64 (S.ws.ar.faults))∧w1=w:=by
 obtain ⟨c0,hg,okW,okA,okR,okE,pA,pR,pE,hw,_⟩:=h.world
 have c1:=(af hw.box 0).trans (rfl:_=some (Value.pointer (some ⟨pA,0,none⟩)))
 have HC:=Am_ (zy w hw.ar)
 clear h hw hg
 go_enter Tryz.func36,Tryz.ntmps36
 go_wp2_with (go_at_call 49;refine HC.out.mono ?_;rintro e w1 ⟨rfl,rfl⟩;clear HC)
 go_ret
 exact ⟨rfl,rfl⟩
theorem qF (sb p:Nat) (S:Stg) (ok:Nat→Prop) (w:World) (h:dm ok sb p S w) (hl:rM S.ws.ep.limbo<1000000) (hn:S.ws.ep.limbo.length<1000000):
  Calls Tryz.prog 35 #[.pointer (some ⟨sb,0,none⟩)] w fun e w1=>e= .returned (.int .i64 ((rM S.ws.ep.limbo:Nat)))∧w1=w:=by
 obtain ⟨c0,hg,okW,okA,okR,okE,pA,pR,pE,hw,_⟩:=h.world
 have c1:=(af hw.box 2).trans (rfl:_=some (Value.pointer (some ⟨pE,0,none⟩)))
 have HC:=Am_ (DU w hw.ep hl hn)
 clear h hw hg
 go_enter Tryz.func35,Tryz.ntmps35
 go_wp2_with (go_at_call 21;refine HC.out.mono ?_;rintro e w1 ⟨rfl,rfl⟩;clear HC)
 go_ret
 exact ⟨rfl,rfl⟩
theorem qE (sb p:Nat) (S:Stg) (ok:Nat→Prop) (w:World) (h:dm ok sb p S w):
  Calls Tryz.prog 32 #[.pointer (some ⟨sb,0,none⟩)] w fun e w1=> ∃ A c,e= .returned (.slice A 0 c)∧Below w.heap.size w w1:=by
 obtain ⟨okB,okW,b,ρ,h1,h2,h3,h4,h5⟩:=h.out
 have c5:w.cell? ⟨sb,5,none⟩=some (.slice none 0 0):=(af h3.box 5).trans rfl
 clear h h1 h2 h3 h4 h5
 go_enter Tryz.func32,Tryz.ntmps32
 go_wp2_with (go_at_call 75;refine (fZ none 0 0 [] _ (Kd.gu (Kd.jD dw _ (fun _=>True))) (by decide)).mono ?_;rintro e w1 ⟨v,rfl,hv,hb⟩;obtain ⟨A1,c1,rfl⟩:=Kd.aJ hv;have HB:=Am_ hb;clear hv hb)
 go_ret
 exact ⟨_,_,rfl,HB.out⟩
theorem index_none (A:Option Addr) (c:Nat) (w:World):
  Calls Tryz.prog 133 #[.slice A 0 c,.func (.func 81) #[] #[]] w fun e w1=>e= .returned (.int .i64 (-1))∧w1=w:=by
 go_enter Tryz.func133,Tryz.ntmps133
 go_upto_block 0 with fail
 go_wp2_with fail
 go_loopg [5,8] 0 (fun gh v5 i wr=>i= .int .i64 0∧wr=w)
 case atStart=>exact ⟨rfl,rfl⟩
 case round=>
  obtain ⟨rfl,rfl⟩:=hrel
  go_wp2_with fail
  go_ret
  exact ⟨rfl,rfl⟩
theorem qg (A:Option Addr) (c:Nat) (w:World):
  Calls Tryz.prog 80 #[.slice A 0 c,.func (.func 81) #[] #[]] w fun e w1=>e= .returned (.bool false)∧w1=w:=by
 have HI:=Am_ (index_none A c w)
 go_enter Tryz.func80,Tryz.ntmps80
 go_wp2_with (go_at_call 133;refine HI.out.mono ?_;rintro e w1 ⟨rfl,rfl⟩;clear HI)
 go_ret
 exact ⟨rfl,rfl⟩
theorem qG (sb p:Nat) (S:Stg) (ok:Nat→Prop) (w:World) (h:dm ok sb p S w) (hS:S.evs= []):
  Calls Tryz.prog 33 #[.pointer (some ⟨sb,0,none⟩)] w fun e w1=>e= .returned (.bool false)∧w1=w:=by
 obtain ⟨okB,okW,b,ρ,h1,h2,h3,h4,h5⟩:=h.out
 obtain ⟨Ae,ce,e4⟩:=Kd.aJ h3.evs
 rw [cZ,h4.evs,hS] at e4
 have c4:w.cell? ⟨sb,4,none⟩=some (.slice Ae 0 ce):=(af h3.box 4).trans (congrArg some e4)
 have HI:=Am_ (qg Ae ce w)
 clear h h1 h2 h3 h4 h5 e4 hS
 go_enter Tryz.func33,Tryz.ntmps33
 go_wp2_with (go_at_call 80;refine HI.out.mono ?_;rintro e w1 ⟨rfl,rfl⟩;clear HI)
 go_ret
 exact ⟨rfl,rfl⟩
end Go.Proofs.YtmnjjdeaccgjlaaGreat.Tower
