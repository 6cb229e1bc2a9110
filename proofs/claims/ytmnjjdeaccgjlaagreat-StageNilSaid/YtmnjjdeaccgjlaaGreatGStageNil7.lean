/- For every input the law StageNil answers true, and the input reads as it did. No conditions. -/
import Derived.Test.YtmnjjdeaccgjlaaGreatProg
import Derived.Test.YtmnjjdeaccgjlaaGreatRows
import Derived.Test.YtmnjjdeaccgjlaaGreatGStageNil0
import Derived.Test.YtmnjjdeaccgjlaaGreatGStageNil1
import Derived.Test.YtmnjjdeaccgjlaaGreatGStageNil2
import Derived.Test.YtmnjjdeaccgjlaaGreatGStageNil3
import Derived.Test.YtmnjjdeaccgjlaaGreatGStageNil4
import Derived.Test.YtmnjjdeaccgjlaaGreatGStageNil5
import Derived.Test.YtmnjjdeaccgjlaaGreatGStageNil6
import Derived.Below
import Derived.Deep.Draws
import Derived.Deep.AppendLies
import Derived.Maps.AppendAt
import Derived.OwnWalk
import Derived.Laws.BytesArg
import Derived.Laws.MakeOwn
import Derived.Laws.OwnMore
import Derived.Deep.OwnRows
import Derived.Tactics
import Derived.Lib.ConvBytes
import Derived.Laws.Slices
import Derived.WalkKit
import Derived.KernelRfl
import Derived.RowKit3
import Derived.Deep.LoopGhost
import Derived.Deep.QuietTactic
import Derived.BigQuiet
import Derived.WideLaws
import Derived.Deep.DeepCutAuto
import Derived.Deep.CutBlock
import Derived.Deep.RegionHeld3
import Derived.Laws.Rows
import Derived.Lib.AppendStr
import Derived.ArgAppend
import Derived.Laws.IdiomCopy
import Derived.OrdersHeld
import Derived.Laws.BitsLemmas
import Derived.RowKit
import Derived.Deep.Slices
import Derived.Deep.SlicePairs
import Derived.Lib.SmallJoins
import Derived.OpenShut
import Derived.ShutString
import Derived.ChangeOld
import Derived.SizedLaws
set_option linter.unusedSimpArgs false
set_option linter.unusedVariables false
set_option maxHeartbeats 8000000
set_option maxRecDepth 100000
namespace Go.Proofs.YtmnjjdeaccgjlaaGreat.Tower
open Go Go.RowKit Go.Proofs.YtmnjjdeaccgjlaaGreatW.PrintWords Go.Proofs.YtmnjjdeaccgjlaaGreatW.PrintLast Go.Proofs.YtmnjjdeaccgjlaaGreatW.PrintMore Go.Proofs.YtmnjjdeaccgjlaaGreat.Own
theorem kM (a:PR):(ofA a).pairs= []:=by unfold ofA;split<;>rfl
def vB (me key value:Int) (fl f:Nat):Pr Ws Ans:=aX (Fb me key value fl f) fun a=>eD (ofA a)
theorem rE {me key value:Int} {fl f:Nat} {s t:TS Ws} {a:Ans} (h:vB me key value fl f s=some (.ret a,t)):a.pairs= []:=by
 obtain ⟨o,t1,hm,hc⟩:=aN h
 rcases hc with ⟨_,hc⟩ | ⟨q,rfl,hc⟩
 ·injection hc with hc _;cases hc
 injection hc with hc
 injection hc with hc _
 injection hc with hc
 rw [←hc]
 exact kM q
theorem Bg (key upto value:Int) (w:World):Calls Tryz.prog 159 #[.agg #[.int .u8 1,.int .i64 key,.int .i64 upto,.int .i64 value]] w fun e w1=>e= .returned (.tuple #[.int .i64 0,.int .i64 0,.bool false])∧Below w.heap.size w w1:=by
 have HB:=Am_ (ai (Below.refl w.heap.size w) (.cells #[.int .u8 1,.int .i64 key,.int .i64 upto,.int .i64 value] 52))
 have hbx:=dw w (.cells #[.int .u8 1,.int .i64 key,.int .i64 upto,.int .i64 value] 52)
 go_enter Tryz.func159,Tryz.ntmps159
 go_wp2_with fail
 go_ret3
 exact ⟨rfl,HB.out⟩
theorem Gj (p tb:Nat) (work:Value) (me:Int) (ok:Nat→Prop) (s:TS Ws) (w:World) (key upto value:Int) (h:dX (shW p) tb work ok s w) (fl f:Nat) (hf:fl<900000) (res:Out Ans × TS Ws) (hr:vB me key value fl f s=some res):
  Calls Tryz.prog 100 #[fo tb p me,.agg #[.int .u8 1,.int .i64 key,.int .i64 upto,.int .i64 value]] w (gF (shW p) tb work Ik ok w res):=by
 obtain ⟨o,t,hd,hcase⟩:=aN hr
 have HT:=Am_ (((aU.enter (me:=me) h).alloc (.cells #[.int .u8 1,.int .i64 key,.int .i64 upto,.int .i64 value] 52)).alloc (.cells #[.int .i64 0,.bool false,.int .i64 0,.int .i64 0,.slice none 0 0,.bool false] 58))
 have HB3:=Am_ ((Mine.new (aU.enter (p:=p) (tb:=tb) (me:=me) h).lt (.cells #[.int .u8 1,.int .i64 key,.int .i64 upto,.int .i64 value] 52)).alloc (.cells #[.int .i64 0,.bool false,.int .i64 0,.int .i64 0,.slice none 0 0,.bool false] 58))
 have HB4:=Am_ (Mine.new ((aU.enter (me:=me) h).alloc (.cells #[.int .u8 1,.int .i64 key,.int .i64 upto,.int .i64 value] 52)).lt (.cells #[.int .i64 0,.bool false,.int .i64 0,.int .i64 0,.slice none 0 0,.bool false] 58))
 have HD:=Am_ hd
 have HCS:=Am_ hcase
 have HTV:fo tb p me= .agg #[.pointer (some ⟨tb,0,none⟩),.pointer (some ⟨p,0,none⟩),.int .i64 me]:=rfl
 rw [HTV]
 unfold fK at HT HB3 HB4
 simp only [World.size_alloc] at HB3 HB4
 clear h hr hd hcase HTV
 go_enter Tryz.func100,Tryz.ntmps100
 go_upto_region 1 with fail
 generalize ((w.alloc (.cells #[.pointer (some ⟨tb,0,none⟩),.pointer (some ⟨p,0,none⟩),.int .i64 me] 114)).alloc (.cells #[.int .u8 1,.int .i64 key,.int .i64 upto,.int .i64 value] 52)).alloc (.cells #[.int .i64 0,.bool false,.int .i64 0,.int .i64 0,.slice none 0 0,.bool false] 58)=w3 at HT HB3 HB4 ⊢
 generalize hbb:w.heap.size=bt at HT HB3 HB4 ⊢
 have HWB:ay (w.heap.size=bt):=⟨hbb⟩
 clear hbb
 generalize hb3:bt+1=b3 at HB3 HB4 ⊢
 generalize hb4:b3+1=b4 at HB4 ⊢
 have HW4:ay (w.heap.size≤b4):=⟨by have:=HWB.out;omega⟩
 have HT4:ay (b4≠bt):=⟨by omega⟩
 clear hb3 hb4
 have k0:=(af HB3.out.1 0).trans (rfl:_=some (Value.int .u8 1))
 have k1:=(af HB3.out.1 1).trans (rfl:_=some (Value.int .i64 key))
 have k2:=(af HB3.out.1 2).trans (rfl:_=some (Value.int .i64 upto))
 have k3:=(af HB3.out.1 3).trans (rfl:_=some (Value.int .i64 value))
 go_upto_region 7 with (go_at_call 159;refine (Bg key upto value _).mono ?_;rintro e w4 ⟨rfl,hb4⟩;have HT:=Am_ (HT.out.below hb4);have HB3:=Am_ (HB3.out.moves (Moves.bN _ hb4));have HB4:=Am_ (HB4.out.moves (Moves.bN _ hb4));clear hb4 k0 k1 k2 k3)
 have k0:=(af HB3.out.1 0).trans (rfl:_=some (Value.int .u8 1))
 have k1:=(af HB3.out.1 1).trans (rfl:_=some (Value.int .i64 key))
 have k3:=(af HB3.out.1 3).trans (rfl:_=some (Value.int .i64 value))
 have c0:=HT.out.c0
 have c1:=HT.out.c1
 have c2:=HT.out.c2
 have x0:=(af HB4.out.1 0).trans (rfl:_=some (Value.int .i64 0))
 go_upto_region 14 with fail
 clear x0
 go_wp2_with (first
  | (go_at_call 70;refine (AX p tb work me key value false fl f ok s _ HT.out.run hf (o,t) HD.out).mono ?_;rintro e w5 ⟨ok1,hm,hi,hres⟩;rcases HCS.out with hw | hw;(obtain ⟨rfl,rfl⟩:=hw;obtain rfl:e= .panicked dI:=hres;exact ⟨rfl,⟨⟨ok1,HT.out.moves.trans hm,hi,rfl⟩⟩⟩);obtain ⟨a,rfl,hr2⟩:=hw;obtain ⟨v,rfl,rfl⟩:=hres;have HT2:=Am_ (HT.out.next hm hi);have HB5:=Am_ (HB4.out.moves hm);have HR2:=Am_ hr2;clear hm hi hr2 c0 c1 c2 k0 k1 k3 HB3 HB4)
  | (go_at_call 163;refine (Dl a _).mono ?_;rintro e w6 ⟨rfl,hb6⟩;unfold Il;have HT3:=Am_ (HT2.out.below hb6);have HB6:=Am_ (HB5.out.moves (Moves.bN _ hb6));clear hb6 HT2 HB5;have x0:=(af HB6.out.1 0).trans (rfl:_=some (Value.int .i64 0));have z0:=ah HB6.out.1 0;have x1:=(af HB6.out.1 1).trans (rfl:_=some (Value.bool false));have z1:=ah HB6.out.1 1;have x2:=(af HB6.out.1 2).trans (rfl:_=some (Value.int .i64 0));have z2:=ah HB6.out.1 2;have x3:=(af HB6.out.1 3).trans (rfl:_=some (Value.int .i64 0));have z3:=ah HB6.out.1 3;have x4:=(af HB6.out.1 4).trans (rfl:_=some (Value.slice none 0 0));have z4:=ah HB6.out.1 4;have x5:=(af HB6.out.1 5).trans (rfl:_=some (Value.bool false));have z5:=ah HB6.out.1 5))
 have HT6:=Am_ ((((((HT3.out.set (q:=⟨b4,0,none⟩) HB6.out.2 HW4.out HT4.out (.int .i64 (ofA a).err)).set (q:=⟨b4,1,none⟩) HB6.out.2 HW4.out HT4.out (.bool (ofA a).found)).set (q:=⟨b4,2,none⟩) HB6.out.2 HW4.out HT4.out (.int .i64 (ofA a).key)).set (q:=⟨b4,3,none⟩) HB6.out.2 HW4.out HT4.out (.int .i64 (ofA a).value)).set (q:=⟨b4,4,none⟩) HB6.out.2 HW4.out HT4.out (.slice none 0 0)).set (q:=⟨b4,5,none⟩) HB6.out.2 HW4.out HT4.out (.bool (ofA a).short))
 have HB7:ay (Mine ok1 ((((((w6.setCell ⟨b4,0,none⟩ (.int .i64 (ofA a).err)).setCell ⟨b4,1,none⟩ (.bool (ofA a).found)).setCell ⟨b4,2,none⟩ (.int .i64 (ofA a).key)).setCell ⟨b4,3,none⟩ (.int .i64 (ofA a).value)).setCell ⟨b4,4,none⟩ (.slice none 0 0)).setCell ⟨b4,5,none⟩ (.bool (ofA a).short)) b4 (.cells #[.int .i64 (ofA a).err,.bool (ofA a).found,.int .i64 (ofA a).key,.int .i64 (ofA a).value,.slice none 0 0,.bool (ofA a).short] 58 (0,0))):=⟨(Mine.set (Mine.set (Mine.set (Mine.set (Mine.set (Mine.set HB6.out 0 _) 1 _) 2 _) 3 _) 4 _) 5 _)⟩
 clear x0 x1 x2 x3 x4 x5 z0 z1 z2 z3 z4 z5 HT3 HB6
 generalize (((((w6.setCell ⟨b4,0,none⟩ (.int .i64 (ofA a).err)).setCell ⟨b4,1,none⟩ (.bool (ofA a).found)).setCell ⟨b4,2,none⟩ (.int .i64 (ofA a).key)).setCell ⟨b4,3,none⟩ (.int .i64 (ofA a).value)).setCell ⟨b4,4,none⟩ (.slice none 0 0)).setCell ⟨b4,5,none⟩ (.bool (ofA a).short)=w8 at HT6 HB7 ⊢
 (try simp only [Exit.inBlock,Exit.then])
 refine bodyPost_ret (results_cell_row rfl _ _ b4 58 _ (0,0) _ rfl HB7.out.1 Tryz.underlying58 rfl (by kernel_rfl)) rfl ?_
 have hh:=HR2.out
 injection hh with hh
 subst hh
 exact ⟨⟨ok1,HT6.out.moves,HT6.out.run,_,rfl,none,0,by rw [kM];rfl,by rw [kM];exact Nat.le_refl _,by rw [kM];exact Kd.jq _ _ _⟩⟩
def GQ:Int:=1099511627777
def Dt:Int:=1099511627778
def X23:Ws:=⟨⟨[jA nd0 1,jA (ndE GQ) 1],[],50,2,0⟩,⟨[],50⟩,⟨0,[-1,-1],[[],[]]⟩,2,3,Dt⟩
theorem Ee:ws0 2 3 2 50 50=some X23:=by kernel_rfl
theorem Ed:X23.Good:=⟨⟨by decide,by decide,by decide,by decide,fun i s hi=>by
 have hl:i<2:=(List.getElem?_eq_some_iff.1 hi).1
 match i,hl with
 | 0,_=>simp [X23] at hi;subst hi;exact ⟨⟨by decide,by decide,by decide⟩,by decide⟩
 | 1,_=>simp [X23] at hi;subst hi;exact ⟨⟨by decide,by decide,by decide⟩,by decide⟩⟩,⟨by decide⟩,⟨by decide,by decide,fun i e hi=>by simp [X23] at hi⟩⟩
def Im:Opn:=⟨1,1,0,5⟩
def Kj:Opn:=⟨0,1,0,0⟩
def S23:Stg:=Stg.new X23 2
def Ka:Pr Ws (List Int):=mJ ((0:Nat):Int) 9 (vB ((0:Nat):Int) 1 5 9 3)
def rO:Bool × Nat × Stg × List Int:=(Dv Ka S23.evs.length 1048576 (S23.start 0 Im) []).getD (true,0,S23,[])
def uL:Stg:=rO.2.2.1
theorem Bc:Dv Ka S23.evs.length 1048576 (S23.start 0 Im) []=some (true,rO.2.1,uL,rO.2.2.2):=by kernel_rfl
def mQ:Evn:=uL.evs.getD 0 ⟨0,Im,0,0,BV⟩
theorem Em:uL.n=2:=by kernel_rfl
theorem Cf:uL.evs.length=1:=by kernel_rfl
theorem Gl:uL.evs[S23.evs.length]?=some mQ:=by kernel_rfl
theorem CF:decide (0≤mQ.fin)=true:=by kernel_rfl
theorem CG:decide (mQ.ans.pairs.length<1000000)=true:=by kernel_rfl
def Kb:Pr Ws (List Int):=mJ ((1:Nat):Int) 9 (Ki 1 9)
def rP:Bool × Nat × Stg × List Int:=(Dv Kb uL.evs.length 1048576 (uL.start 1 Kj) []).getD (true,0,S23,[])
def xS:Stg:=rP.2.2.1
theorem Bd:Dv Kb uL.evs.length 1048576 (uL.start 1 Kj) []=some (true,rP.2.1,xS,rP.2.2.2):=by kernel_rfl
def Kh:Evn:=xS.evs.getD 1 ⟨0,Im,0,0,BV⟩
theorem Eo:xS.n=2:=by kernel_rfl
theorem Ch:xS.evs.length=2:=by kernel_rfl
theorem Gm:xS.evs[uL.evs.length]?=some Kh:=by kernel_rfl
theorem CJ:decide (0≤Kh.fin)=true:=by kernel_rfl
theorem uT:Kh.ans=⟨0,true,0,5,[],false⟩:=by kernel_rfl
theorem vN:xS.evs.map (fun e=>e.ans.pairs)= [[],[]]:=by kernel_rfl
theorem KN (sb p:Nat) (ok:Nat→Prop) (w:World) (h:eX ok sb p S23 w):Calls Tryz.prog 24 #[.pointer (some ⟨sb,0,none⟩),.int .i64 ((0:Nat):Int),opV Im] w (yt sb p uL mQ.ans ok w):=
 pq sb p 0 S23 Im ok w h (by decide) (by decide) (by decide) (by decide) 9 (vB ((0:Nat):Int) 1 5 9 3) (fun tb work ok s w res h1 h2=>Gj p tb work _ ok s w 1 0 5 h1 9 3 (by omega) res h2) (fun s a t h1=>rE h1) rO.2.1 uL rO.2.2.2 Bc (by rw [Em];decide) mQ Gl (of_decide_eq_true CF) (of_decide_eq_true CG)
theorem KO (sb p:Nat) (ok:Nat→Prop) (w:World) (h:eX ok sb p uL w):Calls Tryz.prog 24 #[.pointer (some ⟨sb,0,none⟩),.int .i64 ((1:Nat):Int),opV Kj] w (yt sb p xS ⟨0,true,0,5,[],false⟩ ok w):=by
 rw [←uT]
 exact pq sb p 1 uL Kj ok w h (by rw [Em];decide) (by rw [Cf];decide) (by decide) (by decide) 9 (Ki 1 9) (fun tb work ok s w res h1 h2=>Jw p tb work _ ok s w 1 0 0 h1 9 (by omega) res h2) (fun s a t h1=>wQ h1) rP.2.1 xS rP.2.2.2 Bd (by rw [Eo];decide) Kh Gm (of_decide_eq_true CJ) (by rw [uT];decide)
theorem Cg: ∀ e∈xS.evs,e.ans.pairs.length<1000000:=fun e he=>by
 have h1:e.ans.pairs∈xS.evs.map (fun e=>e.ans.pairs):=List.mem_map_of_mem he
 rw [vN] at h1
 simp only [List.mem_cons,List.not_mem_nil,or_false] at h1
 rcases h1 with h1 | h1<;>rw [h1]<;>decide
theorem yV (w:World):Calls Tryz.prog 22 #[] w fun e w1=>e= .returned (.bool true)∧Below w.heap.size w w1:=by
 go_enter Tryz.func22,Tryz.ntmps22
 go_upto_region 2 with (go_at_call 39;refine (uq 2 3 2 50 50 _ (by omega) (by omega) (by omega) (by omega) (by omega) (by omega) (by omega) (by omega) (by omega) (by omega) X23 Ee Ed).mono ?_;rintro e w1 hE;obtain ⟨ok1,sb,p,rfl,hs,hf,hb⟩:=hE.out;have H1:ay (eX ok1 sb p S23 w1):=⟨hs⟩;have F1:=Am_ hf;have B1:=Am_ hb;clear hE hs hf hb)
 go_upto_region 5 with (go_at_call 24;refine (KN sb p ok1 _ H1.out).mono ?_;rintro e w2 hE;obtain ⟨ok2,A2,c2,rfl,hs,hm,_,_⟩:=hE.out;have H2:=Am_ hs;have M2:=Am_ hm;clear hE hs hm H1)
 have H3:=Am_ (H2.out.below (ai (Below.refl _ _) (.cells #[.int .i64 mQ.ans.err,.bool mQ.ans.found,.int .i64 mQ.ans.key,.int .i64 mQ.ans.value,.slice A2 mQ.ans.pairs.length c2,.bool mQ.ans.short] 58)))
 have M3:=Am_ (M2.out.alloc (.cells #[.int .i64 mQ.ans.err,.bool mQ.ans.found,.int .i64 mQ.ans.key,.int .i64 mQ.ans.value,.slice A2 mQ.ans.pairs.length c2,.bool mQ.ans.short] 58))
 clear H2 M2
 generalize w2.alloc (.cells #[.int .i64 mQ.ans.err,.bool mQ.ans.found,.int .i64 mQ.ans.key,.int .i64 mQ.ans.value,.slice A2 mQ.ans.pairs.length c2,.bool mQ.ans.short] 58)=w3 at H3 M3 ⊢
 go_upto_region 6 with (go_at_call 24;refine (KO sb p ok2 _ H3.out).mono ?_;rintro e w4 hE;obtain ⟨ok4,A4,c4,rfl,hs,hm,_,_⟩:=hE.out;have H4:=Am_ hs;have M4:=Am_ (M3.out.trans hm);clear hE hs hm H3 M3)
 have H5:=Am_ (H4.out.below (ai (Below.refl _ _) (.cells #[.int .i64 0,.bool true,.int .i64 0,.int .i64 5,.slice A4 0 c4,.bool false] 58)))
 have K5:=Am_ (Mine.new H4.out.lt (.cells #[.int .i64 0,.bool true,.int .i64 0,.int .i64 5,.slice A4 0 c4,.bool false] 58))
 have M5:=Am_ (M4.out.alloc (.cells #[.int .i64 0,.bool true,.int .i64 0,.int .i64 5,.slice A4 0 c4,.bool false] 58))
 clear H4 M4
 generalize w4.alloc (.cells #[.int .i64 0,.bool true,.int .i64 0,.int .i64 5,.slice A4 0 c4,.bool false] 58)=w5 at H5 M5 K5 ⊢
 generalize w4.heap.size=b5 at K5 ⊢
 have y1:=(af K5.out.1 1).trans (rfl:_=some (Value.bool true))
 have y3:=(af K5.out.1 3).trans (rfl:_=some (Value.int .i64 5))
 go_wp2_with (first
  | (go_at_call 31;refine (oo sb p xS ok4 _ H5.out Cg).mono ?_;rintro e w6 hE;obtain ⟨A6,c6,rfl,hb⟩:=hE.out;rw [Ch];have H6:=Am_ (H5.out.below hb);have M6:=Am_ (M5.out.below hb);clear hE hb H5 M5 K5 y1 y3)
  | (go_at_call 30;refine (rU sb p xS ok4 _ H6.out (by rw [Eo];decide)).mono ?_;rintro e w7 ⟨rfl,rfl⟩))
 go_ret
 exact ⟨rfl,kD M6.out B1.out F1.out⟩
theorem qh (t:Int) (w:World):Calls Tryz.prog 23 #[.pointer none,.int .i64 t] w fun e w1=>e= .returned (.tuple #[.bool false,.int .i64 1])∧w1=w:=by
 go_enter Tryz.func23,Tryz.ntmps23
 go_wp2_with fail
 go_ret2
 exact ⟨rfl,rfl⟩
theorem Dh (t:Int) (w:World):Calls Tryz.prog 27 #[.pointer none,.int .i64 t] w fun e w1=>e= .returned (.int .i64 1)∧w1=w:=by
 go_enter Tryz.func27,Tryz.ntmps27
 go_wp2_with fail
 go_ret
 exact ⟨rfl,rfl⟩
theorem Dj (v:Value) (w:World):Calls Tryz.prog 28 #[.pointer none,v] w fun e w1=>e= .returned (.int .i64 1)∧w1=w:=by
 go_enter Tryz.func28,Tryz.ntmps28
 go_wp2_with fail
 go_ret
 exact ⟨rfl,rfl⟩
theorem Di (w:World):Calls Tryz.prog 30 #[.pointer none] w fun e w1=>e= .returned (.bool false)∧w1=w:=by
 go_enter Tryz.func30,Tryz.ntmps30
 go_wp2_with fail
 go_ret
 exact ⟨rfl,rfl⟩
theorem wZ (w:World):Calls Tryz.prog 31 #[.pointer none] w fun e w1=>e= .returned (.slice none 0 0)∧w1=w:=by
 go_enter Tryz.func31,Tryz.ntmps31
 go_wp2_with fail
 go_ret
 exact ⟨rfl,rfl⟩
theorem Aq (w:World):Calls Tryz.prog 32 #[.pointer none] w fun e w1=>e= .returned (.slice none 0 0)∧w1=w:=by
 go_enter Tryz.func32,Tryz.ntmps32
 go_wp2_with fail
 go_ret
 exact ⟨rfl,rfl⟩
theorem AA (w:World):Calls Tryz.prog 33 #[.pointer none] w fun e w1=>e= .returned (.bool false)∧w1=w:=by
 go_enter Tryz.func33,Tryz.ntmps33
 go_wp2_with fail
 go_ret
 exact ⟨rfl,rfl⟩
theorem Dk (w:World):Calls Tryz.prog 34 #[.pointer none] w fun e w1=>e= .returned (.int .i64 0)∧w1=w:=by
 go_enter Tryz.func34,Tryz.ntmps34
 go_wp2_with fail
 go_ret
 exact ⟨rfl,rfl⟩
theorem Az (w:World):Calls Tryz.prog 35 #[.pointer none] w fun e w1=>e= .returned (.int .i64 0)∧w1=w:=by
 go_enter Tryz.func35,Tryz.ntmps35
 go_wp2_with fail
 go_ret
 exact ⟨rfl,rfl⟩
theorem xg (w:World):Calls Tryz.prog 36 #[.pointer none] w fun e w1=>e= .returned (.int .i64 0)∧w1=w:=by
 go_enter Tryz.func36,Tryz.ntmps36
 go_wp2_with fail
 go_ret
 exact ⟨rfl,rfl⟩
theorem rA (t k key upto value:Int) (w:World):Calls Tryz.prog 26 #[.pointer none,.int .i64 t,.agg #[.int .u8 k,.int .i64 key,.int .i64 upto,.int .i64 value]] w fun e w1=>e= .returned (.int .i64 1)∧Below w.heap.size w w1:=by
 have HB:=Am_ (ai (Below.refl w.heap.size w) (.cells #[.int .u8 k,.int .i64 key,.int .i64 upto,.int .i64 value] 52))
 go_enter Tryz.func26,Tryz.ntmps26
 go_wp2_with fail
 go_ret
 exact ⟨rfl,HB.out⟩
theorem JI (t k key upto value:Int) (w:World):Calls Tryz.prog 24 #[.pointer none,.int .i64 t,.agg #[.int .u8 k,.int .i64 key,.int .i64 upto,.int .i64 value]] w fun e w1=>e= .returned (.tuple #[.agg #[.int .i64 0,.bool false,.int .i64 0,.int .i64 0,.slice none 0 0,.bool false],.int .i64 1])∧Below w.heap.size w w1:=by
 have K1:=Am_ ((Mine.new (ok:=fun _=>False) (w:=w) (fun k hk=>hk.elim) (.cells #[.int .u8 k,.int .i64 key,.int .i64 upto,.int .i64 value] 52)).alloc (.cells #[.int .i64 0,.bool false,.int .i64 0,.int .i64 0,.slice none 0 0,.bool false] 58))
 have K2:=Am_ (Mine.new (ok:=fun _=>False) (w:=w.alloc (.cells #[.int .u8 k,.int .i64 key,.int .i64 upto,.int .i64 value] 52)) (fun k hk=>hk.elim) (.cells #[.int .i64 0,.bool false,.int .i64 0,.int .i64 0,.slice none 0 0,.bool false] 58))
 have B1:=Am_ (ai (ai (Below.refl w.heap.size w) (.cells #[.int .u8 k,.int .i64 key,.int .i64 upto,.int .i64 value] 52)) (.cells #[.int .i64 0,.bool false,.int .i64 0,.int .i64 0,.slice none 0 0,.bool false] 58))
 simp only [World.size_alloc] at K2
 go_enter Tryz.func24,Tryz.ntmps24
 go_upto_region 1 with fail
 generalize (w.alloc (.cells #[.int .u8 k,.int .i64 key,.int .i64 upto,.int .i64 value] 52)).alloc (.cells #[.int .i64 0,.bool false,.int .i64 0,.int .i64 0,.slice none 0 0,.bool false] 58)=w1 at K1 K2 B1 ⊢
 generalize hb2:w.heap.size+1=b2 at K2 ⊢
 have HL:ay (w.heap.size≤b2):=⟨by omega⟩
 clear hb2
 generalize hb5:w.heap.size=b5 at K1 ⊢
 clear hb5
 have k0:=(af K1.out.1 0).trans (rfl:_=some (Value.int .u8 k))
 have k1:=(af K1.out.1 1).trans (rfl:_=some (Value.int .i64 key))
 have k2:=(af K1.out.1 2).trans (rfl:_=some (Value.int .i64 upto))
 have k3:=(af K1.out.1 3).trans (rfl:_=some (Value.int .i64 value))
 go_upto_region 2 with (go_at_call 26;refine (rA t k key upto value _).mono ?_;rintro e w2 ⟨rfl,hb⟩;have K3:=Am_ (K2.out.moves (Moves.bN _ hb));have B3:=Am_ (bf B1.out B1.out.size hb);clear hb K1 K2 B1 k0 k1 k2 k3)
 have x0:=(af K3.out.1 0).trans (rfl:_=some (Value.int .i64 0))
 have z0:=ah K3.out.1 0
 have x1:=(af K3.out.1 1).trans (rfl:_=some (Value.bool false))
 have z1:=ah K3.out.1 1
 have x2:=(af K3.out.1 2).trans (rfl:_=some (Value.int .i64 0))
 have z2:=ah K3.out.1 2
 have x3:=(af K3.out.1 3).trans (rfl:_=some (Value.int .i64 0))
 have z3:=ah K3.out.1 3
 have x4:=(af K3.out.1 4).trans (rfl:_=some (Value.slice none 0 0))
 have z4:=ah K3.out.1 4
 have x5:=(af K3.out.1 5).trans (rfl:_=some (Value.bool false))
 have z5:=ah K3.out.1 5
 go_wp2_with fail
 have K4:ay (Mine (fun _=>False) ((((((w2.setCell ⟨b2,0,none⟩ (.int .i64 0)).setCell ⟨b2,1,none⟩ (.bool false)).setCell ⟨b2,2,none⟩ (.int .i64 0)).setCell ⟨b2,3,none⟩ (.int .i64 0)).setCell ⟨b2,4,none⟩ (.slice none 0 0)).setCell ⟨b2,5,none⟩ (.bool false)) b2 (.cells #[.int .i64 0,.bool false,.int .i64 0,.int .i64 0,.slice none 0 0,.bool false] 58 (0,0))):=⟨(Mine.set (Mine.set (Mine.set (Mine.set (Mine.set (Mine.set K3.out 0 _) 1 _) 2 _) 3 _) 4 _) 5 _)⟩
 have B4:=Am_ (below_setCells B3.out b2 0 [.int .i64 0,.bool false,.int .i64 0,.int .i64 0,.slice none 0 0,.bool false] HL.out)
 replace B4:ay (Below w.heap.size w ((((((w2.setCell ⟨b2,0,none⟩ (.int .i64 0)).setCell ⟨b2,1,none⟩ (.bool false)).setCell ⟨b2,2,none⟩ (.int .i64 0)).setCell ⟨b2,3,none⟩ (.int .i64 0)).setCell ⟨b2,4,none⟩ (.slice none 0 0)).setCell ⟨b2,5,none⟩ (.bool false))):=B4
 clear K3 B3 x0 x1 x2 x3 x4 x5 z0 z1 z2 z3 z4 z5
 generalize (((((w2.setCell ⟨b2,0,none⟩ (.int .i64 0)).setCell ⟨b2,1,none⟩ (.bool false)).setCell ⟨b2,2,none⟩ (.int .i64 0)).setCell ⟨b2,3,none⟩ (.int .i64 0)).setCell ⟨b2,4,none⟩ (.slice none 0 0)).setCell ⟨b2,5,none⟩ (.bool false)=w3 at K4 B4 ⊢
 (try simp only [Exit.inBlock,Exit.then])
 refine bodyPost_ret (jO rfl _ _ b2 58 _ (0,0) _ rfl K4.out.1 Tryz.underlying58 rfl (by kernel_rfl)) rfl ?_
 exact ⟨rfl,B4.out⟩
theorem Aj (w:World):Calls Tryz.prog 38 #[.pointer none] w fun e w1=>e= .returned (.agg #[.slice none 0 0,.int .i64 0,.int .i64 0,.bool false,.int .i64 1])∧Below w.heap.size w w1:=by
 have K2:=Am_ (Mine.new (ok:=fun _=>False) (w:=w) (fun k hk=>hk.elim) (.cells #[.slice none 0 0,.int .i64 0,.int .i64 0,.bool false,.int .i64 0] 71))
 have B1:=Am_ (ai (Below.refl w.heap.size w) (.cells #[.slice none 0 0,.int .i64 0,.int .i64 0,.bool false,.int .i64 0] 71))
 go_enter Tryz.func38,Tryz.ntmps38
 go_upto_region 1 with fail
 generalize w.alloc (.cells #[.slice none 0 0,.int .i64 0,.int .i64 0,.bool false,.int .i64 0] 71)=w1 at K2 B1 ⊢
 generalize hb2:w.heap.size=b2 at K2 ⊢
 have HL:ay (w.heap.size≤b2):=⟨by omega⟩
 clear hb2
 have x0:=(af K2.out.1 0).trans (rfl:_=some (Value.slice none 0 0))
 have z0:=ah K2.out.1 0
 have x1:=(af K2.out.1 1).trans (rfl:_=some (Value.int .i64 0))
 have z1:=ah K2.out.1 1
 have x2:=(af K2.out.1 2).trans (rfl:_=some (Value.int .i64 0))
 have z2:=ah K2.out.1 2
 have x3:=(af K2.out.1 3).trans (rfl:_=some (Value.bool false))
 have z3:=ah K2.out.1 3
 have x4:=(af K2.out.1 4).trans (rfl:_=some (Value.int .i64 0))
 have z4:=ah K2.out.1 4
 go_wp2_with fail
 have K4:ay (Mine (fun _=>False) (((((w1.setCell ⟨b2,0,none⟩ (.slice none 0 0)).setCell ⟨b2,1,none⟩ (.int .i64 0)).setCell ⟨b2,2,none⟩ (.int .i64 0)).setCell ⟨b2,3,none⟩ (.bool false)).setCell ⟨b2,4,none⟩ (.int .i64 1)) b2 (.cells #[.slice none 0 0,.int .i64 0,.int .i64 0,.bool false,.int .i64 1] 71 (0,0))):=⟨(Mine.set (Mine.set (Mine.set (Mine.set (Mine.set K2.out 0 _) 1 _) 2 _) 3 _) 4 _)⟩
 have B4:=Am_ (below_setCells B1.out b2 0 [.slice none 0 0,.int .i64 0,.int .i64 0,.bool false,.int .i64 1] HL.out)
 replace B4:ay (Below w.heap.size w (((((w1.setCell ⟨b2,0,none⟩ (.slice none 0 0)).setCell ⟨b2,1,none⟩ (.int .i64 0)).setCell ⟨b2,2,none⟩ (.int .i64 0)).setCell ⟨b2,3,none⟩ (.bool false)).setCell ⟨b2,4,none⟩ (.int .i64 1))):=B4
 clear K2 B1 x0 x1 x2 x3 x4 z0 z1 z2 z3 z4
 generalize ((((w1.setCell ⟨b2,0,none⟩ (.slice none 0 0)).setCell ⟨b2,1,none⟩ (.int .i64 0)).setCell ⟨b2,2,none⟩ (.int .i64 0)).setCell ⟨b2,3,none⟩ (.bool false)).setCell ⟨b2,4,none⟩ (.int .i64 1)=w3 at K4 B4 ⊢
 (try simp only [Exit.inBlock,Exit.then])
 refine bodyPost_ret (results_cell_row rfl _ _ b2 71 _ (0,0) _ rfl K4.out.1 Tryz.underlying71 rfl (by kernel_rfl)) rfl ?_
 exact ⟨rfl,B4.out⟩
theorem Gy (t most:Int) (w:World):Calls Tryz.prog 29 #[.pointer none,.int .i64 t,.int .i64 most] w fun e w1=>e= .returned (.int .i64 0)∧w1=w:=by
 go_enter Tryz.func29,Tryz.ntmps29
 go_upto_block 0 with fail
 go_wp2_with fail
 go_loopg [7] 0 (fun g n wr=>n= .int .i64 0∧wr=w)
 case atStart=>exact ⟨rfl,rfl⟩
 case round=>
  obtain ⟨rfl,rfl⟩:=hrel
  by_cases hm:most<1048576
  ·have d3:decide (most<1048576)=true:=decide_eq_true hm
   by_cases h0:0<most
   ·have d1:decide (0<most)=true:=decide_eq_true h0
    go_wp2_with (go_at_call 23;refine (qh t _).mono ?_;rintro e w1 ⟨rfl,rfl⟩)
    go_ret
    exact ⟨rfl,rfl⟩
   ·have d1:decide (0<most)=false:=decide_eq_false h0
    go_wp2_with fail
    go_ret
    exact ⟨rfl,rfl⟩
  ·have d3:decide (most<1048576)=false:=decide_eq_false hm
   go_wp2_with (go_at_call 23;refine (qh t _).mono ?_;rintro e w1 ⟨rfl,rfl⟩)
   all_goals (go_ret;exact ⟨rfl,rfl⟩)
end Go.Proofs.YtmnjjdeaccgjlaaGreat.Tower
namespace Go.Proofs.YtmnjjdeaccgjlaaGreat.PStageNil
open Go.RowKit Go.Proofs.YtmnjjdeaccgjlaaGreatW.PrintWords Go.Proofs.YtmnjjdeaccgjlaaGreatW.PrintLast Go.Proofs.YtmnjjdeaccgjlaaGreatW.PrintMore
attribute [local go_sem] iq iy ji jk gG gH iw iA
def JB:Option Int→Value
 | none=> .nilIface
 | some c=> .iface 0 (.int .i64 c)
theorem bq:JB none= .nilIface:=rfl
theorem bA (c:Int):JB (some c)= .iface 0 (.int .i64 c):=rfl
theorem JF:(Tryz.prog.info? 2).map (fun i=>(i.zero,i.size,i.bytes))=some (some (.int .i64 0),1,8):=by kernel_rfl
theorem iL:(Tryz.prog.info? 121).map (fun i=>(i.zero,i.size,i.bytes))=some (some (.agg #[(.int .i64 0),(.int .i64 0)]),2,16):=by kernel_rfl
structure dh where
 f0:Int
 f1:Int
def Ke:dh:=⟨(0:Int),(0:Int)⟩
def iP:Kd dh:=Kd.iso (Kd.pair (Kd.int .i64) (Kd.int .i64)) (fun x:dh=>(x.f0,x.f1))
theorem nu {w:World} {x:dh} {cs:List Value} (h:iP.K w x cs):cs= [.int .i64 x.f0,.int .i64 x.f1]:=by
 obtain ⟨_,_,rfl,rfl,rfl⟩:=h
 exact rfl
theorem gM (w:World) (base:Nat) (ok:Nat→Prop) (x:dh)  :iP.M w base ok x [.int .i64 x.f0,.int .i64 x.f1]:=⟨[.int .i64 x.f0],[.int .i64 x.f1],rfl,rfl,rfl⟩
def aA (xs:List dh) (i:Int):dh:=xs.getD i.toNat Ke
theorem iK {w:World} {A:Option Addr} {n:Nat} {xs:List dh} (h:Kd.C iP w A n xs) (i:Int) (h0:0≤i) (h1:i<n): ∃ ad,A=some ad∧w.cell? (ad.add (i.toNat*2))=some (.int .i64 (aA xs i).f0)∧w.cell? ⟨(ad.add (i.toNat*2)).block,(ad.add (i.toNat*2)).off+1,none⟩=some (.int .i64 (aA xs i).f1):=by
 obtain ⟨ad,c,e,_,hK,hc0⟩:=Kd.nV h Ke i h0 h1
 have hc: ∀ j u,c[j]?=some u→w.cell? (ad.add (i.toNat*2+j))=some u:=hc0
 obtain rfl:=nu hK
 exact ⟨ad,e,hc 0 _ rfl,by rw [←mI _ _ 1 (by omega)];exact hc 1 _ rfl⟩
structure FZ where
 f0:(List Int)
 f1:(List Int)
def KV:Kd FZ:=Kd.iso (Kd.pair (Kd.slice 2 (Kd.int .i64)) (Kd.slice 45 (Kd.int .i64))) (fun x:FZ=>(x.f0,x.f1))
structure Ga where
 f0:Bool
 f1:Bool
 f2:(List dh)
 f3:FZ
def KW:Kd Ga:=Kd.iso (Kd.pair Kd.bool (Kd.pair Kd.bool (Kd.pair (Kd.slice 121 iP) KV))) (fun x:Ga=>(x.f0,x.f1,x.f2,x.f3))
structure jI where
 f0:Ga
 f1:(List Int)
 f2:Int
 f3:Bool
 f4:Int
 f5:Bool
def JH:Kd jI:=Kd.iso (Kd.pair KW (Kd.pair (Kd.slice 45 (Kd.int .i64)) (Kd.pair (Kd.int .i64) (Kd.pair Kd.bool (Kd.pair (Kd.int .u32) Kd.bool))))) (fun x:jI=>(x.f0,x.f1,x.f2,x.f3,x.f4,x.f5))
end Go.Proofs.YtmnjjdeaccgjlaaGreat.PStageNil
namespace Go.Proofs.YtmnjjdeaccgjlaaGreat.PStageNil
open Go.RowKit Go.Proofs.YtmnjjdeaccgjlaaGreatW.PrintWords Go.Proofs.YtmnjjdeaccgjlaaGreatW.PrintLast Go.Proofs.YtmnjjdeaccgjlaaGreatW.PrintMore
attribute [local go_sem] iq iy ji jk gG gH iw iA
mutual
def au.l0:Nat→Int→Int→List (dh)→Bool→List (dh)→Int→Int→Option ((List (dh)))
 | 0,_,_,_,_,_,_,_=>none
 | k+1,x1,x2,x7,x8,x11,x12,x13=>if x13<x12 then (if 0≤x13 then (if x13<(x11.length:Int) then (if x8=true then (au.j1 k x1 x2 x7 x8 x11 x12 x13 false ((aA x11 x13).f0) ((aA x11 x13).f1)) else (au.j1 k x1 x2 x7 x8 x11 x12 x13 (decide (((aA x11 x13).f0)≥x1)) ((aA x11 x13).f0) ((aA x11 x13).f1))) else (none)) else (none)) else (if x8=true then (some x7) else (if x7.length<8796093022208 then (some (x7++ [(⟨x1,x2⟩:dh)])) else (none)))
def au.j1:Nat→Int→Int→List (dh)→Bool→List (dh)→Int→Int→Bool→Int→Int→Option ((List (dh)))
 | 0,_,_,_,_,_,_,_,_,_,_=>none
 | k+1,x1,x2,x7,x8,x11,x12,x13,x24,x106000,x106001=>if x24=true then (if x7.length<8796093022208 then ((some (x7++ [(⟨x1,x2⟩:dh)]:List (dh))).bind fun y106=>(if x106000=x1 then (au.l0 k x1 x2 y106 true x11 x12 (wrap64 (x13+1))) else (if y106.length<8796093022208 then (au.l0 k x1 x2 (y106++ [(⟨x106000,x106001⟩:dh)]) true x11 x12 (wrap64 (x13+1))) else (none)))) else (none)) else (if x106000=x1 then (au.l0 k x1 x2 x7 x8 x11 x12 (wrap64 (x13+1))) else (if x7.length<8796093022208 then (au.l0 k x1 x2 (x7++ [(⟨x106000,x106001⟩:dh)]) x8 x11 x12 (wrap64 (x13+1))) else (none)))
end
def au.f (k:Nat) (l0:List (dh)) (a1:Int) (a2:Int):Option ((List (dh))):=au.l0 k a1 a2 ([]:List (dh)) false l0 (l0.length:Int) 0
theorem au.oP: ∀ k,(∀ y0 y1 y2 y3 y4 y5 y6,LeO (au.l0 k y0 y1 y2 y3 y4 y5 y6) (au.l0 (k+1) y0 y1 y2 y3 y4 y5 y6))∧(∀ y0 y1 y2 y3 y4 y5 y6 y7 y8 y9,LeO (au.j1 k y0 y1 y2 y3 y4 y5 y6 y7 y8 y9) (au.j1 (k+1) y0 y1 y2 y3 y4 y5 y6 y7 y8 y9))
 | 0=>⟨fun _ _ _ _ _ _ _ r h=>by simp [au.l0] at h,fun _ _ _ _ _ _ _ _ _ _ r h=>by simp [au.j1] at h⟩
 | k+1=>by
  obtain ⟨ih0,ih1⟩:=au.oP k
  refine ⟨?_,?_⟩
  ·intro y0 y1 y2 y3 y4 y5 y6
   unfold au.l0
   repeat' first
   | (with_reducible exact ih0 _ _ _ _ _ _ _)
   | (with_reducible exact ih1 _ _ _ _ _ _ _ _ _ _)
   | (with_reducible exact LeO.refl _)
   | (with_reducible exact LeO.none _)
   | (with_reducible refine LeO.ite ?_ ?_)
   | (with_reducible refine LeO.bind ?_ (fun _=>?_))
   | exact ih0 _ _ _ _ _ _ _
   | exact ih1 _ _ _ _ _ _ _ _ _ _
   | exact LeO.none _
   | refine LeO.ite ?_ ?_
   | refine LeO.bind ?_ (fun _=>?_)
  ·intro y0 y1 y2 y3 y4 y5 y6 y7 y8 y9
   unfold au.j1
   repeat' first
   | (with_reducible exact ih0 _ _ _ _ _ _ _)
   | (with_reducible exact ih1 _ _ _ _ _ _ _ _ _ _)
   | (with_reducible exact LeO.refl _)
   | (with_reducible exact LeO.none _)
   | (with_reducible refine LeO.ite ?_ ?_)
   | (with_reducible refine LeO.bind ?_ (fun _=>?_))
   | exact ih0 _ _ _ _ _ _ _
   | exact ih1 _ _ _ _ _ _ _ _ _ _
   | exact LeO.none _
   | refine LeO.ite ?_ ?_
   | refine LeO.bind ?_ (fun _=>?_)
theorem au.mono: ∀ a0 a1 a2 k,LeO (au.f k a0 a1 a2) (au.f (k+1) a0 a1 a2):=by
 intro a0 a1 a2 k
 obtain ⟨ih0,ih1⟩:=au.oP k
 unfold au.f
 repeat' first
   | (with_reducible exact ih0 _ _ _ _ _ _ _)
   | (with_reducible exact ih1 _ _ _ _ _ _ _ _ _ _)
   | (with_reducible exact LeO.refl _)
   | (with_reducible exact LeO.none _)
   | (with_reducible refine LeO.ite ?_ ?_)
   | (with_reducible refine LeO.bind ?_ (fun _=>?_))
   | exact ih0 _ _ _ _ _ _ _
   | exact ih1 _ _ _ _ _ _ _ _ _ _
   | exact LeO.none _
   | refine LeO.ite ?_ ?_
   | refine LeO.bind ?_ (fun _=>?_)
theorem au.calls (k:Nat) (A0:Option Addr) (c0:Nat) (l0:List (dh)) (a1:Int) (a2:Int) (r:List (dh)) (w:World) (hr0:Kd.C iP w A0 l0.length l0) (hc0:l0.length≤c0) (h:au.f k l0 a1 a2=some r):
  Calls Tryz.prog 16 #[.slice A0 l0.length c0,.int .i64 a1,.int .i64 a2] w fun e w'=> ∃ v0_:Value,e= .returned (v0_)∧Kd.R iP 121 w' w.heap.size (fun _=>True) v0_ r∧Below w.heap.size w w':=by
 have hu121:=Tryz.underlying121
 have HR0:=Am_ hr0
 have HC0:=Am_ hc0
 clear hr0 hc0
 have HB:=Am_ (Below.refl w.heap.size w)
 have H:(au.l0 k a1 a2 ([]:List (dh)) false l0 (l0.length:Int) 0)=some r:=h
 clear h
 have H':=Am_ H
 clear H
 go_enter Tryz.func16,Tryz.ntmps16
 go_wp2
 go_loopg [7,8,13] k (fun kq v7 v8 v13 w'=> ∃ (x7_1:List (dh)) (x8_1:Bool) (x13_1:Int),v8= .bool x8_1∧v13= .int .i64 x13_1∧ay (au.l0 kq a1 a2 x7_1 x8_1 l0 (l0.length:Int) x13_1=some r)∧ay (kq≤k)∧ay (Kd.R iP 121 w' w.heap.size (fun _=>True) v7 x7_1)∧ay (Below w.heap.size w w'))
 case atStart=>exact ⟨(([]:List (dh))),(false),(0),(by first | rfl | (simp;done) | (simp [*];done)),(by first | rfl | (simp;done) | (simp [*];done)),H',⟨Nat.le_refl _⟩,⟨by first | exact Kd.fB _ _ _ _ _ | exact Kd.vL _ _ _ _ _ | exact Kd.vP _ _ _ _ _ | exact Kd.qH _ _ _ _ _ | exact Kd.vO _ _ _ _ _⟩,⟨by repeat (first | (with_reducible first | exact HB.out | apply ai | apply aj | apply ak) | exact HB.out)⟩⟩
 case round=>
  clear H'
  try clear c1
  try clear p2
  obtain ⟨x7_1,x8_1,x13_1,rfl,rfl,HA,HK1,HO_7,HB⟩:=hrel
  cases gk with
  | zero=>exact absurd HA.out (by simp [au.l0])
  | succ k1=>
   have H:=HA.out
   clear HA
   simp only [au.l0] at H
   by_cases c4:x13_1<(l0.length:Int)
   ·rw [if_pos c4] at H
    have c4b0:decide (x13_1<(l0.length:Int))=true:=decide_eq_true c4
    clear c4
    by_cases c5:0≤x13_1
    ·rw [if_pos c5] at H
     have c5b0:decide (0≤x13_1)=true:=decide_eq_true c5
     clear c5
     by_cases c6:x13_1<(l0.length:Int)
     ·rw [if_pos c6] at H
      have c6b0:decide (x13_1<(l0.length:Int))=true:=decide_eq_true c6
      clear c6
      have HC7:=Am_ H
      clear H
      have p104:0≤(x13_1:Int):=of_decide_eq_true (by first | (with_reducible assumption) | assumption)
      have q104:x13_1<(l0.length:Int):=of_decide_eq_true (by first | (with_reducible assumption) | assumption)
      obtain ⟨ad104,e104,hx104_0,hx104_1⟩:=iK HR0.out x13_1 p104 q104
      cases e104
      replace hx104_0:=(HB.out.cell (World.block_lt_of_cell? w _ hx104_0)).trans hx104_0
      replace hx104_1:=(HB.out.cell (World.block_lt_of_cell? w _ hx104_1)).trans hx104_1
      replace p104:=eq_true p104
      replace q104:=eq_true q104
      go_upto_region 6 with (first | ((with_reducible refine bX (N:=10) rfl ?_);refine bO ?hg (N:=10) ?hd (cs:= #[.int .i64 0,.int .i64 0]) (t:=121) ?hr ?_;(case hd=>rfl);(case hg=>rfl);(case hr=>first | (go_simp;done) | (go_simp;rfl));intro gb105 hg w8 hbox hb;have n0_:=Am_ (Kd.dY (Kd.uI (by (with_reducible repeat (first | apply Kd.bI | apply Kd.bV | apply Kd.dn));exact HO_7.out) gb105 (Nat.le_of_eq hg.symm)) hb);have n1_:=Am_ (bC (by repeat (first | (with_reducible first | exact HB.out | apply ai | apply aj | apply ak) | exact HB.out)) hb);have n2_:=Am_ (hbox);have n3_:=Am_ ((by rw [hg];exact (aK (by repeat (first | (with_reducible first | exact HB.out | apply ai | apply aj | apply ak) | exact HB.out))):w.heap.size≤gb105));have n4_:=Am_ ((by rw [hg];exact (aK (by repeat (first | (with_reducible first | exact HB.out | apply ai | apply aj | apply ak) | exact HB.out))):w.heap.size≤gb105));clear HO_7;clear HB;have HO_7:=n0_;have HB:=n1_;have BK105:=n2_;have GW105:=n3_;have GE105:=n4_;clear n0_ n1_ n2_ n3_ n4_;clear hb hbox hg;have hcz9_0:w8.cell? ⟨gb105,0,none⟩=some (.int .i64 0):=(af BK105.out 0).trans rfl;have hcz9_1:w8.cell? ⟨gb105,1,none⟩=some (.int .i64 0):=(af BK105.out 1).trans rfl;have hfz9_0:=ah BK105.out 0;have hfz9_1:=ah BK105.out 1))
      (try simp only [Act.put,u1_,u2_,u3_])
      go_cut [24] (fun v24 wc=> ∃ (kq:Nat) (x24_6:Bool),v24= .bool x24_6∧ay (au.j1 kq a1 a2 x7_1 x8_1 l0 (l0.length:Int) x13_1 x24_6 ((aA l0 x13_1).f0) ((aA l0 x13_1).f1)=some r)∧ay (kq≤k1)∧ay (Kd.R iP 121 wc w.heap.size (fun k_=>k_≠gb105) u7 x7_1)∧ay (wc.heap[gb105]?=some (.cells #[.int .i64 ((aA l0 x13_1).f0),.int .i64 ((aA l0 x13_1).f1)] 121 (0,0)))∧ay (Below w.heap.size w wc))
      case first=>
       have H:=HC7.out
       clear HC7
       by_cases c10:x8_1=true
       ·subst c10
        have H1:(au.j1 k1 a1 a2 x7_1 true l0 (l0.length:Int) x13_1 false ((aA l0 x13_1).f0) ((aA l0 x13_1).f1))=some r:=by rw [if_pos rfl] at H;exact H
        clear H
        have H:=H1
        clear H1
        have H':=Am_ H
        clear H
        go_wp2
        go_meet
        case rel=>exact ⟨_,(false),(by first | rfl | (simp;done) | (simp [*];done)),H',⟨by have:=HK1.out;first | omega | exact Nat.le_refl _⟩,⟨by (with_reducible repeat (first | apply Kd.bI | apply Kd.bV | apply Kd.dn));exact Kd.bg (Kd.cB (p:=⟨gb105,1,none⟩) (Kd.cB (p:=⟨gb105,0,none⟩) (Kd.bg HO_7.out (fun k_ hk=>(⟨hk,hk.2⟩:_∧k_≠gb105))) (fun _ hk=>hk.2) (.int .i64 ((aA l0 x13_1).f0))) (fun _ hk=>hk.2) (.int .i64 ((aA l0 x13_1).f1))) (fun _ hk=>hk.1.2)⟩,⟨by (with_reducible repeat (first | refine aG ?_ _ | refine aH ?_ | refine aC ?_ _));refine dP (cs:= #[.int .i64 ((aA l0 x13_1).f0),.int .i64 0]) ?_ 1 _ rfl;(with_reducible repeat (first | refine aG ?_ _ | refine aH ?_ | refine aC ?_ _));refine dP (cs:= #[.int .i64 0,.int .i64 0]) ?_ 0 _ rfl;(with_reducible repeat (first | refine aG ?_ _ | refine aH ?_ | refine aC ?_ _));exact BK105.out⟩,⟨by repeat (first | (with_reducible first | exact HB.out | apply ai | apply aj | apply ak | refine aD ?_ GE105.out) | exact HB.out)⟩⟩
       ·replace c10:=Bool.eq_false_iff.mpr c10
        subst c10
        have H1:(au.j1 k1 a1 a2 x7_1 false l0 (l0.length:Int) x13_1 (decide (((aA l0 x13_1).f0)≥a1)) ((aA l0 x13_1).f0) ((aA l0 x13_1).f1))=some r:=by rw [if_neg (show ¬ (false=true) by decide)] at H;exact H
        clear H
        have H:=H1
        clear H1
        have H':=Am_ H
        clear H
        have hcz11_0:w8.cell? ⟨gb105,0,none⟩=some (.int .i64 0):=(af BK105.out 0).trans rfl
        have hcz11_1:w8.cell? ⟨gb105,1,none⟩=some (.int .i64 0):=(af BK105.out 1).trans rfl
        have hfz11_0:=ah BK105.out 0
        have hfz11_1:=ah BK105.out 1
        go_wp2
        go_meet
        case rel=>exact ⟨_,(decide (((aA l0 x13_1).f0)≥a1)),(by first | rfl | (simp;done) | (simp [*];done)),H',⟨by have:=HK1.out;first | omega | exact Nat.le_refl _⟩,⟨by (with_reducible repeat (first | apply Kd.bI | apply Kd.bV | apply Kd.dn));exact Kd.bg (Kd.cB (p:=⟨gb105,1,none⟩) (Kd.cB (p:=⟨gb105,0,none⟩) (Kd.bg HO_7.out (fun k_ hk=>(⟨hk,hk.2⟩:_∧k_≠gb105))) (fun _ hk=>hk.2) (.int .i64 ((aA l0 x13_1).f0))) (fun _ hk=>hk.2) (.int .i64 ((aA l0 x13_1).f1))) (fun _ hk=>hk.1.2)⟩,⟨by (with_reducible repeat (first | refine aG ?_ _ | refine aH ?_ | refine aC ?_ _));refine dP (cs:= #[.int .i64 ((aA l0 x13_1).f0),.int .i64 0]) ?_ 1 _ rfl;(with_reducible repeat (first | refine aG ?_ _ | refine aH ?_ | refine aC ?_ _));refine dP (cs:= #[.int .i64 0,.int .i64 0]) ?_ 0 _ rfl;(with_reducible repeat (first | refine aG ?_ _ | refine aH ?_ | refine aC ?_ _));exact BK105.out⟩,⟨by repeat (first | (with_reducible first | exact HB.out | apply ai | apply aj | apply ak | refine aD ?_ GE105.out) | exact HB.out)⟩⟩
      case rest=>
       clear HC7
       try clear c1
       try clear p1
       try clear q1
       try clear hx1
       try clear p2
       try clear c4
       try clear c4b0
       try clear c5
       try clear c5b0
       try clear c6
       try clear c6b0
       try clear c10
       try clear p10
       try clear q10
       try clear hx10
       try clear hcz11_0
       try clear hcz11_1
       try clear hcz9_0
       try clear hcz9_1
       try clear hfz11_0
       try clear hfz11_1
       try clear hfz9_0
       try clear hfz9_1
       try clear hx104_0
       try clear hx104_1
       try clear p104
       try clear p2
       try clear q104
       obtain ⟨kq,x24_6,rfl,HA,HJ6,HO_7,BK105,HB⟩:=hcut
       cases kq with
       | zero=>exact absurd HA.out (by simp [au.j1])
       | succ kj6=>
        have H:=HA.out
        clear HA
        simp only [au.j1] at H
        by_cases c12:x24_6=true
        ·subst c12
         have H1:(if x7_1.length<8796093022208 then ((some (x7_1++ [(⟨a1,a2⟩:dh)]:List (dh))).bind fun y106=>(if ((aA l0 x13_1).f0)=a1 then (au.l0 kj6 a1 a2 y106 true l0 (l0.length:Int) (wrap64 (x13_1+1))) else (if y106.length<8796093022208 then (au.l0 kj6 a1 a2 (y106++ [(⟨((aA l0 x13_1).f0),((aA l0 x13_1).f1)⟩:dh)]) true l0 (l0.length:Int) (wrap64 (x13_1+1))) else (none)))) else (none))=some r:=by rw [if_pos rfl] at H;exact H
         clear H
         have H:=H1
         clear H1
         by_cases c13:x7_1.length<8796093022208
         ·rw [if_pos c13] at H
          have LMc13:=Am_ c13
          clear c13
          obtain ⟨y106,hy106⟩: ∃ y_:List (dh),y_=(x7_1++ [(⟨a1,a2⟩:dh)]):=⟨_,rfl⟩
          replace H:(if ((aA l0 x13_1).f0)=a1 then (au.l0 kj6 a1 a2 y106 true l0 (l0.length:Int) (wrap64 (x13_1+1))) else (if y106.length<8796093022208 then (au.l0 kj6 a1 a2 (y106++ [(⟨((aA l0 x13_1).f0),((aA l0 x13_1).f1)⟩:dh)]) true l0 (l0.length:Int) (wrap64 (x13_1+1))) else (none)))=some r:=by first | (rw [hy106];with_reducible exact H) | (have H2_:=(Option.bind_some _ _).symm.trans H;rw [hy106];with_reducible exact H2_) | (have H2_:=(Option.bind_some _ _).symm.trans H;with_reducible exact H2_) | with_reducible exact H | (rw [hy106];exact H) | exact H
          have Ny106:=Am_ hy106
          clear hy106
          by_cases c14:((aA l0 x13_1).f0)=a1
          ·rw [if_pos c14] at H
           have c14b0:(((aA l0 x13_1).f0) == a1)=true:=beq_iff_eq.mpr c14
           have c14b1:(((aA l0 x13_1).f0) != a1)=false:=bne_eq_false_iff_eq.mpr c14
           clear c14
           have H':=Am_ H
           clear H
           go_wp2_with (first | ((with_reducible refine bK (b:= .append) (xs:= #[.tmp 25,.tmp 29]) rfl ?_);at_builtin;refine Kd.eF iP (w0:=w) w.heap.size rfl (.tmp 25) (.tmp 29) 26 121 (.agg #[(.int .i64 0),(.int .i64 0)]) 16 rfl Tryz.underlying26 iL rfl (by decide) (by omega) u7 x7_1 (⟨a1,a2⟩:dh) [.int .i64 a1,.int .i64 a2] (fun k_=>k_≠gb105) (fun _=>False) rfl rfl ?aP (fun _ hk=>hk.elim) ?aF ?aO ?aB ?aS ?aL ?_;(case aP=>exact gM _ _ _ (⟨a1,a2⟩:dh));(case aB=>exact (by repeat (first | (with_reducible first | exact HB.out | apply ai | apply aj | apply ak | refine aD ?_ GE105.out) | exact HB.out)));(case aF=>exact (fun k_ hk=>Kd.jW (g:=gb105) (o:= .cells #[.int .i64 ((aA l0 x13_1).f0),.int .i64 ((aA l0 x13_1).f1)] 121 (0,0)) (by (with_reducible repeat (first | refine aG ?_ _ | refine aH ?_ | refine aC ?_ _));exact BK105.out) k_ hk));(case aO=>exact (by (with_reducible repeat (first | apply Kd.bI | apply Kd.bV | apply Kd.dn));exact HO_7.out));(case aS=>exact (aK (by repeat (first | (with_reducible first | exact HB.out | apply ai | apply aj | apply ak | refine aD ?_ GE105.out) | exact HB.out))));(case aL=>have:=LMc13.out;omega);intro v107 w15 ho hb hg hat;rw [←Ny106.out] at ho;have n0_:=Am_ (bG (g:=gb105) (o:= .cells #[.int .i64 ((aA l0 x13_1).f0),.int .i64 ((aA l0 x13_1).f1)] 121 (0,0)) (by (with_reducible repeat (first | refine aG ?_ _ | refine aH ?_ | refine aC ?_ _));exact BK105.out) hg (Kd.lV HO_7.out (fun _ hk=>hk)));have n1_:=Am_ (hb);have n2_:=Am_ (ho);clear BK105;clear HB;clear HO_7;have BK105:=n0_;have HB:=n1_;have HO108:=n2_;clear n0_ n1_ n2_;clear ho hb hg hat;have hcz16_0:w15.cell? ⟨gb105,0,none⟩=some (.int .i64 ((aA l0 x13_1).f0)):=(af BK105.out 0).trans rfl;have hcz16_1:w15.cell? ⟨gb105,1,none⟩=some (.int .i64 ((aA l0 x13_1).f1)):=(af BK105.out 1).trans rfl;have hfz16_0:=ah BK105.out 0;have hfz16_1:=ah BK105.out 1))
           go_roundg kj6
           case measure=>have:=HK1.out;have:=HJ6.out;omega
           case rel=>exact ⟨(y106),(true),(wrap64 (x13_1+1)),(by first | rfl | (simp;done) | (simp [*];done)),(by first | rfl | (simp;done) | (simp [*];done)),H',⟨by have:=HK1.out;have:=HJ6.out;omega⟩,⟨by (with_reducible repeat (first | apply Kd.bI | apply Kd.bV | apply Kd.dn));exact Kd.bg HO108.out (fun _ hk=>trivial)⟩,⟨by repeat (first | (with_reducible first | exact HB.out | apply ai | apply aj | apply ak | refine aD ?_ GE105.out) | exact HB.out)⟩⟩
          ·rw [if_neg c14] at H
           have c14b0:(((aA l0 x13_1).f0) == a1)=false:=beq_eq_false_iff_ne.mpr c14
           have c14b1:(((aA l0 x13_1).f0) != a1)=true:=bne_iff_ne.mpr c14
           by_cases c17:y106.length<8796093022208
           ·rw [if_pos c17] at H
            have LMc17:=Am_ c17
            clear c17
            obtain ⟨y109,hy109⟩: ∃ y_:List (dh),y_=(y106++ [(⟨((aA l0 x13_1).f0),((aA l0 x13_1).f1)⟩:dh)]):=⟨_,rfl⟩
            replace H:(au.l0 kj6 a1 a2 y109 true l0 (l0.length:Int) (wrap64 (x13_1+1)))=some r:=by first | (rw [hy109];with_reducible exact H) | (have H2_:=(Option.bind_some _ _).symm.trans H;rw [hy109];with_reducible exact H2_) | (have H2_:=(Option.bind_some _ _).symm.trans H;with_reducible exact H2_) | with_reducible exact H | (rw [hy109];exact H) | exact H
            have Ny109:=Am_ hy109
            clear hy109
            have H':=Am_ H
            clear H
            go_wp2_with (first | ((with_reducible refine bK (b:= .append) (xs:= #[.tmp 25,.tmp 29]) rfl ?_);at_builtin;refine Kd.eF iP (w0:=w) w.heap.size rfl (.tmp 25) (.tmp 29) 26 121 (.agg #[(.int .i64 0),(.int .i64 0)]) 16 rfl Tryz.underlying26 iL rfl (by decide) (by omega) u7 x7_1 (⟨a1,a2⟩:dh) [.int .i64 a1,.int .i64 a2] (fun k_=>k_≠gb105) (fun _=>False) rfl rfl ?aP (fun _ hk=>hk.elim) ?aF ?aO ?aB ?aS ?aL ?_;(case aP=>exact gM _ _ _ (⟨a1,a2⟩:dh));(case aB=>exact (by repeat (first | (with_reducible first | exact HB.out | apply ai | apply aj | apply ak | refine aD ?_ GE105.out) | exact HB.out)));(case aF=>exact (fun k_ hk=>Kd.jW (g:=gb105) (o:= .cells #[.int .i64 ((aA l0 x13_1).f0),.int .i64 ((aA l0 x13_1).f1)] 121 (0,0)) (by (with_reducible repeat (first | refine aG ?_ _ | refine aH ?_ | refine aC ?_ _));exact BK105.out) k_ hk));(case aO=>exact (by (with_reducible repeat (first | apply Kd.bI | apply Kd.bV | apply Kd.dn));exact HO_7.out));(case aS=>exact (aK (by repeat (first | (with_reducible first | exact HB.out | apply ai | apply aj | apply ak | refine aD ?_ GE105.out) | exact HB.out))));(case aL=>have:=LMc13.out;omega);intro v107 w18 ho hb hg hat;rw [←Ny106.out] at ho;have n0_:=Am_ (bG (g:=gb105) (o:= .cells #[.int .i64 ((aA l0 x13_1).f0),.int .i64 ((aA l0 x13_1).f1)] 121 (0,0)) (by (with_reducible repeat (first | refine aG ?_ _ | refine aH ?_ | refine aC ?_ _));exact BK105.out) hg (Kd.lV HO_7.out (fun _ hk=>hk)));have n1_:=Am_ (hb);have n2_:=Am_ (ho);clear BK105;clear HB;clear HO_7;have BK105:=n0_;have HB:=n1_;have HO108:=n2_;clear n0_ n1_ n2_;clear ho hb hg hat;have hcz19_0:w18.cell? ⟨gb105,0,none⟩=some (.int .i64 ((aA l0 x13_1).f0)):=(af BK105.out 0).trans rfl;have hcz19_1:w18.cell? ⟨gb105,1,none⟩=some (.int .i64 ((aA l0 x13_1).f1)):=(af BK105.out 1).trans rfl;have hfz19_0:=ah BK105.out 0;have hfz19_1:=ah BK105.out 1) | ((with_reducible refine bK (b:= .append) (xs:= #[.tmp 35,.tmp 37]) rfl ?_);at_builtin;refine Kd.eF iP (w0:=w) w.heap.size rfl (.tmp 35) (.tmp 37) 26 121 (.agg #[(.int .i64 0),(.int .i64 0)]) 16 rfl Tryz.underlying26 iL rfl (by decide) (by omega) v107 y106 (⟨((aA l0 x13_1).f0),((aA l0 x13_1).f1)⟩:dh) [.int .i64 ((aA l0 x13_1).f0),.int .i64 ((aA l0 x13_1).f1)] (fun k_=>k_≠gb105) (fun _=>False) rfl rfl ?aP (fun _ hk=>hk.elim) ?aF ?aO ?aB ?aS ?aL ?_;(case aP=>exact gM _ _ _ (⟨((aA l0 x13_1).f0),((aA l0 x13_1).f1)⟩:dh));(case aB=>exact (by repeat (first | (with_reducible first | exact HB.out | apply ai | apply aj | apply ak | refine aD ?_ GE105.out) | exact HB.out)));(case aF=>exact (fun k_ hk=>Kd.jW (g:=gb105) (o:= .cells #[.int .i64 ((aA l0 x13_1).f0),.int .i64 ((aA l0 x13_1).f1)] 121 (0,0)) (by (with_reducible repeat (first | refine aG ?_ _ | refine aH ?_ | refine aC ?_ _));exact BK105.out) k_ hk));(case aO=>exact (by (with_reducible repeat (first | apply Kd.bI | apply Kd.bV | apply Kd.dn));exact HO108.out));(case aS=>exact (aK (by repeat (first | (with_reducible first | exact HB.out | apply ai | apply aj | apply ak | refine aD ?_ GE105.out) | exact HB.out))));(case aL=>have:=LMc17.out;omega);intro v110 w20 ho hb hg hat;rw [←Ny109.out] at ho;have n0_:=Am_ (bG (g:=gb105) (o:= .cells #[.int .i64 ((aA l0 x13_1).f0),.int .i64 ((aA l0 x13_1).f1)] 121 (0,0)) (by (with_reducible repeat (first | refine aG ?_ _ | refine aH ?_ | refine aC ?_ _));exact BK105.out) hg (Kd.lV HO108.out (fun _ hk=>hk)));have n1_:=Am_ (hb);have n2_:=Am_ (ho);clear BK105;clear HB;clear HO108;have BK105:=n0_;have HB:=n1_;have HO111:=n2_;clear n0_ n1_ n2_;clear ho hb hg hat))
            go_roundg kj6
            case measure=>have:=HK1.out;have:=HJ6.out;omega
            case rel=>exact ⟨(y109),(true),(wrap64 (x13_1+1)),(by first | rfl | (simp;done) | (simp [*];done)),(by first | rfl | (simp;done) | (simp [*];done)),H',⟨by have:=HK1.out;have:=HJ6.out;omega⟩,⟨by (with_reducible repeat (first | apply Kd.bI | apply Kd.bV | apply Kd.dn));exact Kd.bg HO111.out (fun _ hk=>trivial)⟩,⟨by repeat (first | (with_reducible first | exact HB.out | apply ai | apply aj | apply ak | refine aD ?_ GE105.out) | exact HB.out)⟩⟩
           ·rw [if_neg c17] at H
            exact absurd H (by simp)
         ·rw [if_neg c13] at H
          exact absurd H (by simp)
        ·replace c12:=Bool.eq_false_iff.mpr c12
         subst c12
         have H1:(if ((aA l0 x13_1).f0)=a1 then (au.l0 kj6 a1 a2 x7_1 x8_1 l0 (l0.length:Int) (wrap64 (x13_1+1))) else (if x7_1.length<8796093022208 then (au.l0 kj6 a1 a2 (x7_1++ [(⟨((aA l0 x13_1).f0),((aA l0 x13_1).f1)⟩:dh)]) x8_1 l0 (l0.length:Int) (wrap64 (x13_1+1))) else (none)))=some r:=by rw [if_neg (show ¬ (false=true) by decide)] at H;exact H
         clear H
         have H:=H1
         clear H1
         by_cases c21:((aA l0 x13_1).f0)=a1
         ·rw [if_pos c21] at H
          have c21b0:(((aA l0 x13_1).f0) == a1)=true:=beq_iff_eq.mpr c21
          have c21b1:(((aA l0 x13_1).f0) != a1)=false:=bne_eq_false_iff_eq.mpr c21
          clear c21
          have H':=Am_ H
          clear H
          have hcz22_0:wc.cell? ⟨gb105,0,none⟩=some (.int .i64 ((aA l0 x13_1).f0)):=(af BK105.out 0).trans rfl
          have hcz22_1:wc.cell? ⟨gb105,1,none⟩=some (.int .i64 ((aA l0 x13_1).f1)):=(af BK105.out 1).trans rfl
          have hfz22_0:=ah BK105.out 0
          have hfz22_1:=ah BK105.out 1
          go_wp2
          go_roundg kj6
          case measure=>have:=HK1.out;have:=HJ6.out;omega
          case rel=>exact ⟨(x7_1),(x8_1),(wrap64 (x13_1+1)),(by first | rfl | (simp;done) | (simp [*];done)),(by first | rfl | (simp;done) | (simp [*];done)),H',⟨by have:=HK1.out;have:=HJ6.out;omega⟩,⟨by (with_reducible repeat (first | apply Kd.bI | apply Kd.bV | apply Kd.dn));exact Kd.bg HO_7.out (fun _ hk=>trivial)⟩,⟨by repeat (first | (with_reducible first | exact HB.out | apply ai | apply aj | apply ak | refine aD ?_ GE105.out) | exact HB.out)⟩⟩
         ·rw [if_neg c21] at H
          have c21b0:(((aA l0 x13_1).f0) == a1)=false:=beq_eq_false_iff_ne.mpr c21
          have c21b1:(((aA l0 x13_1).f0) != a1)=true:=bne_iff_ne.mpr c21
          by_cases c23:x7_1.length<8796093022208
          ·rw [if_pos c23] at H
           have LMc23:=Am_ c23
           clear c23
           obtain ⟨y112,hy112⟩: ∃ y_:List (dh),y_=(x7_1++ [(⟨((aA l0 x13_1).f0),((aA l0 x13_1).f1)⟩:dh)]):=⟨_,rfl⟩
           replace H:(au.l0 kj6 a1 a2 y112 x8_1 l0 (l0.length:Int) (wrap64 (x13_1+1)))=some r:=by first | (rw [hy112];with_reducible exact H) | (have H2_:=(Option.bind_some _ _).symm.trans H;rw [hy112];with_reducible exact H2_) | (have H2_:=(Option.bind_some _ _).symm.trans H;with_reducible exact H2_) | with_reducible exact H | (rw [hy112];exact H) | exact H
           have Ny112:=Am_ hy112
           clear hy112
           have H':=Am_ H
           clear H
           have hcz24_0:wc.cell? ⟨gb105,0,none⟩=some (.int .i64 ((aA l0 x13_1).f0)):=(af BK105.out 0).trans rfl
           have hcz24_1:wc.cell? ⟨gb105,1,none⟩=some (.int .i64 ((aA l0 x13_1).f1)):=(af BK105.out 1).trans rfl
           have hfz24_0:=ah BK105.out 0
           have hfz24_1:=ah BK105.out 1
           go_wp2_with (first | ((with_reducible refine bK (b:= .append) (xs:= #[.tmp 35,.tmp 37]) rfl ?_);at_builtin;refine Kd.eF iP (w0:=w) w.heap.size rfl (.tmp 35) (.tmp 37) 26 121 (.agg #[(.int .i64 0),(.int .i64 0)]) 16 rfl Tryz.underlying26 iL rfl (by decide) (by omega) u7 x7_1 (⟨((aA l0 x13_1).f0),((aA l0 x13_1).f1)⟩:dh) [.int .i64 ((aA l0 x13_1).f0),.int .i64 ((aA l0 x13_1).f1)] (fun k_=>k_≠gb105) (fun _=>False) rfl rfl ?aP (fun _ hk=>hk.elim) ?aF ?aO ?aB ?aS ?aL ?_;(case aP=>exact gM _ _ _ (⟨((aA l0 x13_1).f0),((aA l0 x13_1).f1)⟩:dh));(case aB=>exact (by repeat (first | (with_reducible first | exact HB.out | apply ai | apply aj | apply ak | refine aD ?_ GE105.out) | exact HB.out)));(case aF=>exact (fun k_ hk=>Kd.jW (g:=gb105) (o:= .cells #[.int .i64 ((aA l0 x13_1).f0),.int .i64 ((aA l0 x13_1).f1)] 121 (0,0)) (by (with_reducible repeat (first | refine aG ?_ _ | refine aH ?_ | refine aC ?_ _));exact BK105.out) k_ hk));(case aO=>exact (by (with_reducible repeat (first | apply Kd.bI | apply Kd.bV | apply Kd.dn));exact HO_7.out));(case aS=>exact (aK (by repeat (first | (with_reducible first | exact HB.out | apply ai | apply aj | apply ak | refine aD ?_ GE105.out) | exact HB.out))));(case aL=>have:=LMc23.out;omega);intro v113 w25 ho hb hg hat;rw [←Ny112.out] at ho;have n0_:=Am_ (bG (g:=gb105) (o:= .cells #[.int .i64 ((aA l0 x13_1).f0),.int .i64 ((aA l0 x13_1).f1)] 121 (0,0)) (by (with_reducible repeat (first | refine aG ?_ _ | refine aH ?_ | refine aC ?_ _));exact BK105.out) hg (Kd.lV HO_7.out (fun _ hk=>hk)));have n1_:=Am_ (hb);have n2_:=Am_ (ho);clear BK105;clear HB;clear HO_7;have BK105:=n0_;have HB:=n1_;have HO114:=n2_;clear n0_ n1_ n2_;clear ho hb hg hat))
           go_roundg kj6
           case measure=>have:=HK1.out;have:=HJ6.out;omega
           case rel=>exact ⟨(y112),(x8_1),(wrap64 (x13_1+1)),(by first | rfl | (simp;done) | (simp [*];done)),(by first | rfl | (simp;done) | (simp [*];done)),H',⟨by have:=HK1.out;have:=HJ6.out;omega⟩,⟨by (with_reducible repeat (first | apply Kd.bI | apply Kd.bV | apply Kd.dn));exact Kd.bg HO114.out (fun _ hk=>trivial)⟩,⟨by repeat (first | (with_reducible first | exact HB.out | apply ai | apply aj | apply ak | refine aD ?_ GE105.out) | exact HB.out)⟩⟩
          ·rw [if_neg c23] at H
           exact absurd H (by simp)
     ·rw [if_neg c6] at H
      exact absurd H (by simp)
    ·rw [if_neg c5] at H
     exact absurd H (by simp)
   ·rw [if_neg c4] at H
    have c4b0:decide (x13_1<(l0.length:Int))=false:=decide_eq_false c4
    clear c4
    by_cases c26:x8_1=true
    ·subst c26
     have H1:(some x7_1)=some r:=by rw [if_pos rfl] at H;exact H
     clear H
     have H:=H1
     clear H1
     obtain rfl:=Option.some.inj H
     go_wp2
     go_ret
     exact ⟨_,by first | rfl | (simp [bq,bA]<;>rfl) | (simp [*,bq,bA]<;>rfl),by (with_reducible repeat (first | apply Kd.bI | apply Kd.bV | apply Kd.dn));exact HO_7.out,by repeat (first | (with_reducible first | exact HB.out | apply ai | apply aj | apply ak) | exact HB.out)⟩
    ·replace c26:=Bool.eq_false_iff.mpr c26
     subst c26
     have H1:(if x7_1.length<8796093022208 then (some (x7_1++ [(⟨a1,a2⟩:dh)])) else (none))=some r:=by rw [if_neg (show ¬ (false=true) by decide)] at H;exact H
     clear H
     have H:=H1
     clear H1
     by_cases c27:x7_1.length<8796093022208
     ·rw [if_pos c27] at H
      have LMc27:=Am_ c27
      clear c27
      obtain ⟨y101,hy101⟩: ∃ y_:List (dh),y_=(x7_1++ [(⟨a1,a2⟩:dh)]):=⟨_,rfl⟩
      replace H:(some y101)=some r:=by first | (rw [hy101];with_reducible exact H) | (have H2_:=(Option.bind_some _ _).symm.trans H;rw [hy101];with_reducible exact H2_) | (have H2_:=(Option.bind_some _ _).symm.trans H;with_reducible exact H2_) | with_reducible exact H | (rw [hy101];exact H) | exact H
      have Ny101:=Am_ hy101
      clear hy101
      obtain rfl:=Option.some.inj H
      go_wp2_with (first | ((with_reducible refine bK (b:= .append) (xs:= #[.tmp 42,.tmp 46]) rfl ?_);at_builtin;refine Kd.eF iP (w0:=w) w.heap.size rfl (.tmp 42) (.tmp 46) 26 121 (.agg #[(.int .i64 0),(.int .i64 0)]) 16 rfl Tryz.underlying26 iL rfl (by decide) (by omega) u7 x7_1 (⟨a1,a2⟩:dh) [.int .i64 a1,.int .i64 a2] (fun _=>True) (fun _=>False) rfl rfl ?aP (fun _ hk=>hk.elim) ?aF ?aO ?aB ?aS ?aL ?_;(case aP=>exact gM _ _ _ (⟨a1,a2⟩:dh));(case aB=>exact (by repeat (first | (with_reducible first | exact HB.out | apply ai | apply aj | apply ak) | exact HB.out)));(case aF=>exact (fun _ _=>trivial));(case aO=>exact (by (with_reducible repeat (first | apply Kd.bI | apply Kd.bV | apply Kd.dn));exact HO_7.out));(case aS=>exact (aK (by repeat (first | (with_reducible first | exact HB.out | apply ai | apply aj | apply ak) | exact HB.out))));(case aL=>have:=LMc27.out;omega);intro v102 w28 ho hb hg hat;rw [←Ny101.out] at ho;have n0_:=Am_ (hb);have n1_:=Am_ (ho);clear HB;clear HO_7;have HB:=n0_;have HO103:=n1_;clear n0_ n1_;clear ho hb hg hat))
      go_ret
      exact ⟨_,by first | rfl | (simp [bq,bA]<;>rfl) | (simp [*,bq,bA]<;>rfl),by (with_reducible repeat (first | apply Kd.bI | apply Kd.bV | apply Kd.dn));exact HO103.out,by repeat (first | (with_reducible first | exact HB.out | apply ai | apply aj | apply ak) | exact HB.out)⟩
     ·rw [if_neg c27] at H
      exact absurd H (by simp)
def aQ.l0:Nat→List (dh)→List Int→Int→Int→Option ((List (dh)))
 | 0,_,_,_,_=>none
 | k+1,x3,x6,x7,x8=>if x8<x7 then (if 0≤x8 then (if x8<(x6.length:Int) then ((au.f k x3 (rd x6 x8) (wrap64 (x8+100))).bind fun t116=>(aQ.l0 k t116 x6 x7 (wrap64 (x8+1)))) else (none)) else (none)) else (some x3)
def aQ.f (k:Nat) (l0:List Int):Option ((List (dh))):=aQ.l0 k ([]:List (dh)) l0 (l0.length:Int) 0
theorem aQ.calls (k:Nat) (A0:Option Addr) (c0:Nat) (l0:List Int) (r:List (dh)) (w:World) (hr0:Kd.C (Kd.int .i64) w A0 l0.length l0) (hc0:l0.length≤c0) (h:aQ.f k l0=some r):
  Calls Tryz.prog 12 #[.slice A0 l0.length c0] w fun e w'=> ∃ v0_:Value,e= .returned (v0_)∧Kd.R iP 121 w' w.heap.size (fun _=>True) v0_ r∧Below w.heap.size w w':=by
 have HR0:=Am_ hr0
 have HC0:=Am_ hc0
 clear hr0 hc0
 have HB:=Am_ (Below.refl w.heap.size w)
 have H:(aQ.l0 k ([]:List (dh)) l0 (l0.length:Int) 0)=some r:=h
 clear h
 have H':=Am_ H
 clear H
 go_enter Tryz.func12,Tryz.ntmps12
 go_wp2
 go_loopg [3,8] k (fun kq v3 v8 w'=> ∃ (x3_1:List (dh)) (x8_1:Int),v8= .int .i64 x8_1∧ay (aQ.l0 kq x3_1 l0 (l0.length:Int) x8_1=some r)∧ay (kq≤k)∧ay (Kd.R iP 121 w' w.heap.size (fun _=>True) v3 x3_1)∧ay (Below w.heap.size w w'))
 case atStart=>exact ⟨(([]:List (dh))),(0),(by first | rfl | (simp;done) | (simp [*];done)),H',⟨Nat.le_refl _⟩,⟨by first | exact Kd.fB _ _ _ _ _ | exact Kd.vL _ _ _ _ _ | exact Kd.vP _ _ _ _ _ | exact Kd.qH _ _ _ _ _ | exact Kd.vO _ _ _ _ _⟩,⟨by repeat (first | (with_reducible first | exact HB.out | apply ai | apply aj | apply ak) | exact HB.out)⟩⟩
 case round=>
  clear H'
  try clear c1
  obtain ⟨x3_1,x8_1,rfl,HA,HK1,HO_3,HB⟩:=hrel
  cases gk with
  | zero=>exact absurd HA.out (by simp [aQ.l0])
  | succ k1=>
   have H:=HA.out
   clear HA
   simp only [aQ.l0] at H
   by_cases c2:x8_1<(l0.length:Int)
   ·rw [if_pos c2] at H
    have c2b0:decide (x8_1<(l0.length:Int))=true:=decide_eq_true c2
    clear c2
    by_cases c3:0≤x8_1
    ·rw [if_pos c3] at H
     have c3b0:decide (0≤x8_1)=true:=decide_eq_true c3
     clear c3
     by_cases c4:x8_1<(l0.length:Int)
     ·rw [if_pos c4] at H
      have c4b0:decide (x8_1<(l0.length:Int))=true:=decide_eq_true c4
      clear c4
      replace H:=Option.bind_eq_some_iff.mp H
      obtain ⟨t116,A50,H⟩:=H
      replace H:(aQ.l0 k1 t116 l0 (l0.length:Int) (wrap64 (x8_1+1)))=some r:=H
      have A5:=Am_ A50
      clear A50
      have H':=Am_ H
      clear H
      have p115:0≤(x8_1:Int):=of_decide_eq_true (by first | (with_reducible assumption) | assumption)
      have q115:x8_1<(l0.length:Int):=of_decide_eq_true (by first | (with_reducible assumption) | assumption)
      obtain ⟨ad115,e115,hx115_0⟩:=Kd.jJ HR0.out x8_1 p115 q115
      cases e115
      replace hx115_0:=(HB.out.cell (World.block_lt_of_cell? w _ hx115_0)).trans hx115_0
      replace p115:=eq_true p115
      replace q115:=eq_true q115
      obtain ⟨Ao6,co6,eo6⟩:=Kd.aV HO_3.out
      subst eo6
      go_wp2_with (first | ((with_reducible refine gP (f:=16) rfl ?_);refine mW (some 17) rfl rfl Tryz.func16 (by kernel_rfl) rfl #[.slice Ao6 x3_1.length co6,.int .i64 (rd l0 x8_1),.int .i64 (wrap64 (x8_1+100))] rfl (by (try simp only [List.map_toArray,List.map_cons,List.map_nil]);first | done | rfl | (simp only [List.length_drop,List.length_take];rfl)) ?_;(with_reducible refine (au.calls k1 _ _ x3_1 (rd l0 x8_1) (wrap64 (x8_1+100)) t116 _ ?side1 ?side2 A5.out).mono ?_);(case side1=>repeat (first | exact (Kd.bS HO_3.out).2.2 | (with_reducible refine Kd.fT ?_ _) | (with_reducible refine Kd.fU ?_ _) | (with_reducible refine Kd.iC ?_)));(case side2=>exact (Kd.bS HO_3.out).2.1);rintro e w7 ⟨v117,rfl,ho0,hb⟩;refine ⟨_,rfl,?_⟩;have n0_:=Am_ (Kd.pO (by (with_reducible repeat (first | apply Kd.bI | apply Kd.bV | apply Kd.dn));exact HO_3.out) (Kd.iD ho0) hb);have n1_:=Am_ (Kd.eT (Kd.yh ho0 (Kd.oH (by (with_reducible repeat (first | apply Kd.bI | apply Kd.bV | apply Kd.dn));exact HO_3.out))) (aK (by repeat (first | (with_reducible first | exact HB.out | apply ai | apply aj | apply ak) | exact HB.out))));have n2_:=Am_ (bC (by repeat (first | (with_reducible first | exact HB.out | apply ai | apply aj | apply ak) | exact HB.out)) hb);clear HO_3;clear HB;have HO_3:=n0_;have HO118:=n1_;have HB:=n2_;clear n0_ n1_ n2_;(try clear hb);(try clear hb2);(try clear hk);(try clear hi);(try clear ho0)))
      go_roundg k1
      case measure=>have:=HK1.out;omega
      case rel=>exact ⟨(t116),(wrap64 (x8_1+1)),(by first | rfl | (simp;done) | (simp [*];done)),H',⟨by have:=HK1.out;omega⟩,⟨by (with_reducible repeat (first | apply Kd.bI | apply Kd.bV | apply Kd.dn));exact Kd.bg HO118.out (fun _ hk=>trivial)⟩,⟨by repeat (first | (with_reducible first | exact HB.out | apply ai | apply aj | apply ak) | exact HB.out)⟩⟩
     ·rw [if_neg c4] at H
      exact absurd H (by simp)
    ·rw [if_neg c3] at H
     exact absurd H (by simp)
   ·rw [if_neg c2] at H
    have c2b0:decide (x8_1<(l0.length:Int))=false:=decide_eq_false c2
    clear c2
    obtain rfl:=Option.some.inj H
    go_wp2
    go_ret
    exact ⟨_,by first | rfl | (simp [bq,bA]<;>rfl) | (simp [*,bq,bA]<;>rfl),by (with_reducible repeat (first | apply Kd.bI | apply Kd.bV | apply Kd.dn));exact HO_3.out,by repeat (first | (with_reducible first | exact HB.out | apply ai | apply aj | apply ak) | exact HB.out)⟩
end Go.Proofs.YtmnjjdeaccgjlaaGreat.PStageNil
namespace Go.Proofs.YtmnjjdeaccgjlaaGreat.Tower
open Go Go.RowKit Go.Proofs.YtmnjjdeaccgjlaaGreatW.PrintWords Go.Proofs.YtmnjjdeaccgjlaaGreatW.PrintLast Go.Proofs.YtmnjjdeaccgjlaaGreatW.PrintMore Go.Proofs.YtmnjjdeaccgjlaaGreat.PStageNil
theorem vo {α:Type} {f:Nat→Option α} (hm: ∀ k,LeO (f k) (f (k+1))): ∀ {k j:Nat} {r:α},k≤j→f k=some r→f j=some r:=by
 intro k j r hkj h
 induction j with
 | zero=>rw [show k=0 by omega] at h;exact h
 | succ j ih=>
  by_cases hk:k≤j
  ·exact hm j r (ih hk)
  ·rw [show j+1=k by omega];exact h
theorem jN (x1 x2:Int) (l:List dh) (hl:l.length<1000): ∀ (n i:Nat) (b:Bool) (acc:List dh),i+n=l.length→acc.length≤i+(if b then 1 else 0)→ ∃ r,au.l0 (2*n+2) x1 x2 acc b l (l.length:Int) (i:Int)=some r∧r.length≤l.length+1
 | 0,i,b,acc,h,ha=>by
  unfold au.l0
  rw [if_neg (by omega)]
  cases b with
  | true=>rw [if_pos rfl];exact ⟨acc,rfl,by simp at ha;omega⟩
  | false=>
   simp only [Bool.false_eq_true,if_false,Nat.add_zero] at ha ⊢
   rw [if_pos (by omega)]
   exact ⟨_,rfl,by simp;omega⟩
 | n+1,i,b,acc,h,ha=>by
  have hw:wrap64 ((i:Int)+1)=((i+1:Nat):Int):=by unfold wrap64;omega
  have hj: ∀ (c:Bool) (p0 p1:Int),(b=true→c=false)→ ∃ r,au.j1 (2*n+3) x1 x2 acc b l (l.length:Int) (i:Int) c p0 p1=some r∧r.length≤l.length+1:=by
   intro c p0 p1 hbc
   have hacc:acc.length<8796093022208:=by split at ha<;>omega
   unfold au.j1
   cases c with
   | true=>
    have hb:b=false:=by cases b with
     | false=>rfl
     | true=>exact absurd (hbc rfl) (by simp)
    subst hb
    simp only [Bool.false_eq_true,if_false,Nat.add_zero] at ha
    rw [if_pos rfl,if_pos hacc,Option.bind_some]
    by_cases hp:p0=x1
    ·rw [if_pos hp,hw]
     exact jN x1 x2 l hl n (i+1) true _ (by omega) (by simp;omega)
    ·rw [if_neg hp,if_pos (by simp;omega),hw]
     exact jN x1 x2 l hl n (i+1) true _ (by omega) (by simp;omega)
   | false=>
    rw [if_neg (by simp)]
    by_cases hp:p0=x1
    ·rw [if_pos hp,hw]
     exact jN x1 x2 l hl n (i+1) b _ (by omega) (by split at ha<;>simp_all<;>omega)
    ·rw [if_neg hp,if_pos hacc,hw]
     exact jN x1 x2 l hl n (i+1) b _ (by omega) (by rw [List.length_append,List.length_singleton];split at ha<;>simp_all<;>omega)
  show ∃ r,au.l0 (2*n+3+1) _ _ _ _ _ _ _=some r∧_
  unfold au.l0
  rw [if_pos (by omega),if_pos (by omega),if_pos (by omega)]
  cases b with
  | true=>rw [if_pos rfl];exact hj _ _ _ (fun _=>rfl)
  | false=>rw [if_neg (by simp)];exact hj _ _ _ (fun h=>by cases h)
theorem JL (l:List dh) (x1 x2:Int) (hl:l.length<60): ∃ r,au.f 130 l x1 x2=some r∧r.length≤l.length+1:=by
 obtain ⟨r,h1,h2⟩:=jN x1 x2 l (by omega) l.length 0 false [] (by omega) (by simp)
 refine ⟨r,?_,h2⟩
 unfold au.f
 rw [Int.natCast_zero] at h1
 exact vo (fun j=>(au.oP j).1 _ _ _ _ _ _ _) (by omega) h1
theorem lZ (ks:List Int) (hl:ks.length≤60): ∀ (n i:Nat) (acc:List dh),i+n=ks.length→acc.length≤i→ ∃ r,aQ.l0 (130+n+1) acc ks (ks.length:Int) (i:Int)=some r∧r.length≤ks.length
 | 0,i,acc,h,ha=>by
  unfold aQ.l0
  rw [if_neg (by omega)]
  exact ⟨acc,rfl,by omega⟩
 | n+1,i,acc,h,ha=>by
  unfold aQ.l0
  rw [if_pos (by omega),if_pos (by omega),if_pos (by omega)]
  obtain ⟨r,h1,h2⟩:=JL acc (rd ks (i:Int)) (wrap64 ((i:Int)+100)) (by omega)
  rw [show au.f (130+(n+1)) acc (rd ks (i:Int)) (wrap64 ((i:Int)+100))=some r from vo (fun j=>au.mono _ _ _ j) (by omega) h1,Option.bind_some,show wrap64 ((i:Int)+1)=((i+1:Nat):Int) from by unfold wrap64;omega]
  exact lZ ks hl n (i+1) r (by omega) (by omega)
theorem AB (ks:List Int) (hl:ks.length≤30): ∃ r,aQ.f (130+ks.length+1) ks=some r∧r.length≤30:=by
 obtain ⟨r,h1,h2⟩:=lZ ks (by omega) ks.length 0 [] (by omega) (by simp)
 rw [Int.natCast_zero] at h1
 exact ⟨r,h1,by omega⟩
end Go.Proofs.YtmnjjdeaccgjlaaGreat.Tower
namespace Go.Proofs.YtmnjjdeaccgjlaaGreat.PStageNil
open Go.RowKit Go.Proofs.YtmnjjdeaccgjlaaGreatW.PrintWords Go.Proofs.YtmnjjdeaccgjlaaGreatW.PrintLast Go.Proofs.YtmnjjdeaccgjlaaGreatW.PrintMore
attribute [local go_sem] iq iy ji jk gG gH iw iA
theorem zM (d:Nat) (w:World) (x0 y0:Int) (x1 y1:Int):
  (Op.equalIn (d+2) 121 (.agg #[.int .i64 x0,.int .i64 x1]) (.agg #[.int .i64 y0,.int .i64 y1])).run Tryz.prog w= .ok (x0 == y0 && (x1 == y1)) w:=by
 refine EW Tryz.underlying121 (by kernel_rfl) ?_
 refine uU (by rfl) (by go_simp;rfl) (by go_simp;rfl) (by go_simp) ?_
 exact uV (by rfl) (by go_simp;rfl) (by go_simp;rfl) (by go_simp)
end Go.Proofs.YtmnjjdeaccgjlaaGreat.PStageNil
namespace Go.Proofs.YtmnjjdeaccgjlaaGreat.PStageNil
open Go.RowKit Go.Proofs.YtmnjjdeaccgjlaaGreatW.PrintWords Go.Proofs.YtmnjjdeaccgjlaaGreatW.PrintLast Go.Proofs.YtmnjjdeaccgjlaaGreatW.PrintMore
attribute [local go_sem] iq iy ji jk gG gH iw iA
attribute [local go_sem high] zM
def bL (w0 W:World) (g:Nat) (f0:List (jI)) (f1:List Int) (f2:Int) (f3:Int) (f4:Int):Prop:= ∃ A0 c0,∃ A1 c1,W.heap[g]?=some (.cells #[.slice A0 f0.length c0,.slice A1 f1.length c1,.int .i64 f2,.int .i64 f3,.int .i64 f4] 126 (0,0))∧w0.heap.size≤g∧Kd.C JH w0 A0 f0.length f0∧Kd.C (Kd.int .i64) w0 A1 f1.length f1
theorem bL.grown {w0 W:World} {g:Nat} {f0:List (jI)} {f1:List Int} {f2:Int} {f3:Int} {f4:Int} {W1:World} {row:Option Nat} (h:bL w0 W g f0 f1 f2 f3 f4) (hw:W.grownBy W1 row) (hne:some g≠row):bL w0 W1 g f0 f1 f2 f3 f4:=by
 obtain ⟨A0,c0,A1,c1,hb,hg,hr0,hr1⟩:=h
 exact ⟨A0,c0,A1,c1,bG hb hw hne,hg,hr0,hr1⟩
theorem bL.fresh {w0 W:World} {g:Nat} {f0:List (jI)} {f1:List Int} {f2:Int} {f3:Int} {f4:Int} (h:bL w0 W g f0 f1 f2 f3 f4): ∀ k,W.heap.size≤k→k≠g:=by
 obtain ⟨A0,c0,A1,c1,hb,hg,hr0,hr1⟩:=h
 exact Kd.jW hb
theorem bL.kept {w0 W:World} {g:Nat} {f0:List (jI)} {f1:List Int} {f2:Int} {f3:Int} {f4:Int} {W1:World} {S:Nat→Prop} (h:bL w0 W g f0 f1 f2 f3 f4) (hk:Kept W W1 S) (hne: ¬ S g):bL w0 W1 g f0 f1 f2 f3 f4:=by
 obtain ⟨A0,c0,A1,c1,hb,hg,hr0,hr1⟩:=h
 exact ⟨A0,c0,A1,c1,uR hb hk hne,hg,hr0,hr1⟩
theorem bL.below {w0 W:World} {g:Nat} {f0:List (jI)} {f1:List Int} {f2:Int} {f3:Int} {f4:Int} {W1:World} (h:bL w0 W g f0 f1 f2 f3 f4) (hw:Below W.heap.size W W1):bL w0 W1 g f0 f1 f2 f3 f4:=h.grown (jh hw none) (by simp)
theorem bL.alloc {w0 W:World} {g:Nat} {f0:List (jI)} {f1:List Int} {f2:Int} {f3:Int} {f4:Int} (h:bL w0 W g f0 f1 f2 f3 f4) (o:Obj):bL w0 (W.alloc o) g f0 f1 f2 f3 f4:=h.below (ai (Below.refl _ _) o)
theorem bL.drewN {w0 W:World} {g:Nat} {f0:List (jI)} {f1:List Int} {f2:Int} {f3:Int} {f4:Int} (h:bL w0 W g f0 f1 f2 f3 f4) (m:Nat):bL w0 (W.drewN m) g f0 f1 f2 f3 f4:=h
theorem bL.drew {w0 W:World} {g:Nat} {f0:List (jI)} {f1:List Int} {f2:Int} {f3:Int} {f4:Int} (h:bL w0 W g f0 f1 f2 f3 f4):bL w0 W.drew g f0 f1 f2 f3 f4:=h
theorem bL.at_ {w0 W:World} {g:Nat} {f0:List (jI)} {f1:List Int} {f2:Int} {f3:Int} {f4:Int} {w':World} {m:Nat} (hq:W.drewN m=w') (h:bL w0 W g f0 f1 f2 f3 f4):bL w0 w' g f0 f1 f2 f3 f4:=by subst hq;exact bL.drewN h m
theorem bL.apart {w0 W:World} {g:Nat} {f0:List (jI)} {f1:List Int} {f2:Int} {f3:Int} {f4:Int} {α:Type} {d:Kd α} {e:Nat} {base:Nat} {ok:Nat→Prop} {v:Value} {xs:List α} (h:bL w0 W g f0 f1 f2 f3 f4) (ho:d.R e W base ok v xs) (ht: ∀ q,q∈e::d.E→q≠126):d.R e W base (fun k=>ok k∧k≠g) v xs:=by
 obtain ⟨A0,c0,A1,c1,hb,hg,hr0,hr1⟩:=h
 exact Kd.lg ho hb ht
theorem bL.own_ne {w0 W:World} {g:Nat} {f0:List (jI)} {f1:List Int} {f2:Int} {f3:Int} {f4:Int} {α:Type} {d:Kd α} {e:Nat} {base:Nat} {ok:Nat→Prop} {v:Value} {xs:List α} (h:bL w0 W g f0 f1 f2 f3 f4) (ho:d.R e W base ok v xs) (ht:e≠126):some g≠v.ownBlock:=by
 obtain ⟨A0,c0,A1,c1,hb,hg,hr0,hr1⟩:=h
 exact Kd.Ij ho hb ht
theorem bL.lt {w0 W:World} {g:Nat} {f0:List (jI)} {f1:List Int} {f2:Int} {f3:Int} {f4:Int} (h:bL w0 W g f0 f1 f2 f3 f4):g<W.heap.size:=by
 obtain ⟨A0,c0,A1,c1,hb,hg,hr0,hr1⟩:=h
 exact bF hb
theorem bL.ge {w0 W:World} {g:Nat} {f0:List (jI)} {f1:List Int} {f2:Int} {f3:Int} {f4:Int} (h:bL w0 W g f0 f1 f2 f3 f4):w0.heap.size≤g:=by
 obtain ⟨A0,c0,A1,c1,hb,hg,hr0,hr1⟩:=h
 exact hg
theorem bL.far {w0 W:World} {g:Nat} {f0:List (jI)} {f1:List Int} {f2:Int} {f3:Int} {f4:Int} {p:Addr} (h:bL w0 W g f0 f1 f2 f3 f4) (hne:g≠p.block) (u:Value):bL w0 (W.setCell p u) g f0 f1 f2 f3 f4:=by
 obtain ⟨A0,c0,A1,c1,hb,hg,hr0,hr1⟩:=h
 exact ⟨A0,c0,A1,c1,dB hb hne u,hg,hr0,hr1⟩
theorem bL.new (w0 W:World) (A0:Option Addr) (c0:Nat) (A1:Option Addr) (c1:Nat) (f0:List (jI)) (f1:List Int) (f2:Int) (f3:Int) (f4:Int) (hB:Below w0.heap.size w0 W) (hr0:Kd.C JH w0 A0 f0.length f0) (hr1:Kd.C (Kd.int .i64) w0 A1 f1.length f1):bL w0 (W.alloc (.cells #[.slice A0 f0.length c0,.slice A1 f1.length c1,.int .i64 f2,.int .i64 f3,.int .i64 f4] 126)) W.heap.size f0 f1 f2 f3 f4:=⟨A0,c0,A1,c1,by simpa using heap_alloc_new W _,hB.size,hr0,hr1⟩
def aM.l0:Nat→List (dh)→List (dh)→Int→Int→Option (Bool)
 | 0,_,_,_,_=>none
 | k+1,x0,x1,x12,x13=>if x13<x12 then (if 0≤x13 then (if x13<(x0.length:Int) then (if x13<(x1.length:Int) then (if (!(((aA x0 x13).f0) == ((aA x1 x13).f0)) || (!(((aA x0 x13).f1) == ((aA x1 x13).f1))))=true then (some false) else (aM.l0 k x0 x1 x12 (wrap64 (x13+1)))) else (none)) else (none)) else (none)) else (some true)
def aM.f (k:Nat) (l0:List (dh)) (l1:List (dh)):Option (Bool):=if (l0.length:Int)=(l1.length:Int) then (aM.l0 k l0 l1 (l0.length:Int) 0) else (some false)
theorem aM.calls (k:Nat) (A0:Option Addr) (c0:Nat) (l0:List (dh)) (A1:Option Addr) (c1:Nat) (l1:List (dh)) (r:Bool) (w:World) (hr0:Kd.C iP w A0 l0.length l0) (hc0:l0.length≤c0) (hr1:Kd.C iP w A1 l1.length l1) (hc1:l1.length≤c1) (h:aM.f k l0 l1=some r):
  Calls Tryz.prog 56 #[.slice A0 l0.length c0,.slice A1 l1.length c1] w fun e w'=>e= .returned (.bool r)∧dS w w':=by
 have hu121:=Tryz.underlying121
 have HR0:=Am_ hr0
 have HC0:=Am_ hc0
 clear hr0 hc0
 have HR1:=Am_ hr1
 have HC1:=Am_ hc1
 clear hr1 hc1
 have H:(if (l0.length:Int)=(l1.length:Int) then (aM.l0 k l0 l1 (l0.length:Int) 0) else (some false))=some r:=h
 clear h
 by_cases c3:(l0.length:Int)=(l1.length:Int)
 ·rw [if_pos c3] at H
  have c3b0:((l0.length:Int) == (l1.length:Int))=true:=beq_iff_eq.mpr c3
  have c3b1:((l0.length:Int) != (l1.length:Int))=false:=bne_eq_false_iff_eq.mpr c3
  have c3b2:(l0.length == l1.length)=true:=by first | simpa using c3 | (simp at c3 ⊢;omega)
  clear c3
  have H':=Am_ H
  clear H
  go_enter Tryz.func56,Tryz.ntmps56
  go_wp2
  repeat (go_quiet (fail);try go_wp2)
  go_loopg [13] k (fun kq v13 w'=> ∃ (x13_1:Int),v13= .int .i64 x13_1∧ay (aM.l0 kq l0 l1 (l0.length:Int) x13_1=some r)∧ay (kq≤k)∧dS w w')
  case atStart=>exact ⟨(0),(by first | rfl | (simp;done) | (simp [*];done)),H',⟨Nat.le_refl _⟩,by repeat (first | exact dS.refl _ | apply dS.step)⟩
  case round=>
   clear H'
   try clear c1
   try clear p2
   try clear c3
   try clear c3b0
   try clear c3b1
   try clear c3b2
   obtain ⟨x13_1,rfl,HA,HK1,⟨m1,rfl⟩⟩:=hrel
   cases gk with
   | zero=>exact absurd HA.out (by simp [aM.l0])
   | succ k1=>
    have H:=HA.out
    clear HA
    simp only [aM.l0] at H
    by_cases c4:x13_1<(l0.length:Int)
    ·rw [if_pos c4] at H
     have c4b0:decide (x13_1<(l0.length:Int))=true:=decide_eq_true c4
     clear c4
     by_cases c5:0≤x13_1
     ·rw [if_pos c5] at H
      have c5b0:decide (0≤x13_1)=true:=decide_eq_true c5
      clear c5
      by_cases c6:x13_1<(l0.length:Int)
      ·rw [if_pos c6] at H
       have c6b0:decide (x13_1<(l0.length:Int))=true:=decide_eq_true c6
       clear c6
       by_cases c7:x13_1<(l1.length:Int)
       ·rw [if_pos c7] at H
        have c7b0:decide (x13_1<(l1.length:Int))=true:=decide_eq_true c7
        clear c7
        by_cases c8:(!(((aA l0 x13_1).f0) == ((aA l1 x13_1).f0)) || (!(((aA l0 x13_1).f1) == ((aA l1 x13_1).f1))))=true
        ·rw [if_pos c8] at H
         have c8b0:(!(((aA l0 x13_1).f0) == ((aA l1 x13_1).f0)) || (!(((aA l0 x13_1).f1) == ((aA l1 x13_1).f1))))=true:=c8
         clear c8
         obtain rfl:=Option.some.inj H
         have p140:0≤(x13_1:Int):=of_decide_eq_true (by first | (with_reducible assumption) | assumption)
         have q140:x13_1<(l0.length:Int):=of_decide_eq_true (by first | (with_reducible assumption) | assumption)
         obtain ⟨ad140,e140,hx140_0,hx140_1⟩:=iK HR0.out x13_1 p140 q140
         cases e140
         replace p140:=eq_true p140
         replace q140:=eq_true q140
         have p141:0≤(x13_1:Int):=of_decide_eq_true (by first | (with_reducible assumption) | assumption)
         have q141:x13_1<(l1.length:Int):=of_decide_eq_true (by first | (with_reducible assumption) | assumption)
         obtain ⟨ad141,e141,hx141_0,hx141_1⟩:=iK HR1.out x13_1 p141 q141
         cases e141
         replace p141:=eq_true p141
         replace q141:=eq_true q141
         go_wp2
         repeat (go_quiet (fail);try go_wp2)
         go_ret
         exact ⟨by first | rfl | (simp;done) | (simp [*];done),by repeat (first | exact dS.refl _ | apply dS.step)⟩
        ·rw [if_neg c8] at H
         have c8b0:(!(((aA l0 x13_1).f0) == ((aA l1 x13_1).f0)) || (!(((aA l0 x13_1).f1) == ((aA l1 x13_1).f1))))=false:=by simpa using c8
         clear c8
         have H':=Am_ H
         clear H
         have p140:0≤(x13_1:Int):=of_decide_eq_true (by first | (with_reducible assumption) | assumption)
         have q140:x13_1<(l0.length:Int):=of_decide_eq_true (by first | (with_reducible assumption) | assumption)
         obtain ⟨ad140,e140,hx140_0,hx140_1⟩:=iK HR0.out x13_1 p140 q140
         cases e140
         replace p140:=eq_true p140
         replace q140:=eq_true q140
         have p141:0≤(x13_1:Int):=of_decide_eq_true (by first | (with_reducible assumption) | assumption)
         have q141:x13_1<(l1.length:Int):=of_decide_eq_true (by first | (with_reducible assumption) | assumption)
         obtain ⟨ad141,e141,hx141_0,hx141_1⟩:=iK HR1.out x13_1 p141 q141
         cases e141
         replace p141:=eq_true p141
         replace q141:=eq_true q141
         go_wp2
         repeat (go_quiet (fail);try go_wp2)
         go_roundg k1
         case measure=>have:=HK1.out;omega
         case rel=>exact ⟨(wrap64 (x13_1+1)),(by first | rfl | (simp;done) | (simp [*];done)),H',⟨by have:=HK1.out;omega⟩,by repeat (first | exact dS.refl _ | apply dS.step)⟩
       ·rw [if_neg c7] at H
        exact absurd H (by simp)
      ·rw [if_neg c6] at H
       exact absurd H (by simp)
     ·rw [if_neg c5] at H
      exact absurd H (by simp)
    ·rw [if_neg c4] at H
     have c4b0:decide (x13_1<(l0.length:Int))=false:=decide_eq_false c4
     clear c4
     obtain rfl:=Option.some.inj H
     go_wp2
     repeat (go_quiet (fail);try go_wp2)
     go_ret
     exact ⟨by first | rfl | (simp;done) | (simp [*];done),by repeat (first | exact dS.refl _ | apply dS.step)⟩
 ·rw [if_neg c3] at H
  have c3b0:((l0.length:Int) == (l1.length:Int))=false:=beq_eq_false_iff_ne.mpr c3
  have c3b1:((l0.length:Int) != (l1.length:Int))=true:=bne_iff_ne.mpr c3
  have c3b2:(l0.length == l1.length)=false:=by first | simpa using c3 | (simp at c3 ⊢;omega)
  obtain rfl:=Option.some.inj H
  go_enter Tryz.func56,Tryz.ntmps56
  go_wp2
  repeat (go_quiet (fail);try go_wp2)
  go_ret
  exact ⟨by first | rfl | (simp;done) | (simp [*];done),by repeat (first | exact dS.refl _ | apply dS.step)⟩
def eO.f (k:Nat) (a0_0:Int) (a0_1:Bool) (a0_2:Int) (a0_3:Int) (l0_4:List (dh)) (a0_5:Bool) (a1_0:Int) (a1_1:Bool) (a1_2:Int) (a1_3:Int) (l1_4:List (dh)) (a1_5:Bool):Option (Bool):=if a0_0=a1_0 then (if (a0_1 == a1_1)=true then (if a0_2=a1_2 then (if a0_3=a1_3 then ((aM.f k l0_4 l1_4).bind fun t144=>(some t144)) else (some false)) else (some false)) else (some false)) else (some false)
theorem eO.calls (k:Nat) (a0_0:Int) (a0_1:Bool) (a0_2:Int) (a0_3:Int) (A0_4:Option Addr) (c0_4:Nat) (l0_4:List (dh)) (a0_5:Bool) (a1_0:Int) (a1_1:Bool) (a1_2:Int) (a1_3:Int) (A1_4:Option Addr) (c1_4:Nat) (l1_4:List (dh)) (a1_5:Bool) (r:Bool) (w:World) (hr0_4:Kd.C iP w A0_4 l0_4.length l0_4) (hc0_4:l0_4.length≤c0_4) (hr1_4:Kd.C iP w A1_4 l1_4.length l1_4) (hc1_4:l1_4.length≤c1_4) (h:eO.f k a0_0 a0_1 a0_2 a0_3 l0_4 a0_5 a1_0 a1_1 a1_2 a1_3 l1_4 a1_5=some r):
  Calls Tryz.prog 25 #[.agg #[.int .i64 a0_0,.bool a0_1,.int .i64 a0_2,.int .i64 a0_3,.slice A0_4 l0_4.length c0_4,.bool a0_5],.agg #[.int .i64 a1_0,.bool a1_1,.int .i64 a1_2,.int .i64 a1_3,.slice A1_4 l1_4.length c1_4,.bool a1_5]] w fun e w'=>e= .returned (.bool r)∧Below w.heap.size w w':=by
 have hu58:=Tryz.underlying58
 have HR0_4:=Am_ hr0_4
 have HC0_4:=Am_ hc0_4
 clear hr0_4 hc0_4
 have HR1_4:=Am_ hr1_4
 have HC1_4:=Am_ hc1_4
 clear hr1_4 hc1_4
 have HB:=Am_ (Below.refl w.heap.size w)
 have H:(if a0_0=a1_0 then (if (a0_1 == a1_1)=true then (if a0_2=a1_2 then (if a0_3=a1_3 then ((aM.f k l0_4 l1_4).bind fun t144=>(some t144)) else (some false)) else (some false)) else (some false)) else (some false))=some r:=h
 clear h
 by_cases c3:a0_0=a1_0
 ·rw [if_pos c3] at H
  have c3b0:(a0_0 == a1_0)=true:=beq_iff_eq.mpr c3
  have c3b1:(a0_0 != a1_0)=false:=bne_eq_false_iff_eq.mpr c3
  clear c3
  by_cases c4:(a0_1 == a1_1)=true
  ·rw [if_pos c4] at H
   have c4b0:(a0_1 == a1_1)=true:=c4
   (try (have c4b1:decide (a0_1=a1_1)=true:=by simpa using c4))
   (try (have c4b2:(a0_1 == a1_1)=true:=by simpa using c4))
   clear c4
   by_cases c5:a0_2=a1_2
   ·rw [if_pos c5] at H
    have c5b0:(a0_2 == a1_2)=true:=beq_iff_eq.mpr c5
    have c5b1:(a0_2 != a1_2)=false:=bne_eq_false_iff_eq.mpr c5
    clear c5
    by_cases c6:a0_3=a1_3
    ·rw [if_pos c6] at H
     have c6b0:(a0_3 == a1_3)=true:=beq_iff_eq.mpr c6
     have c6b1:(a0_3 != a1_3)=false:=bne_eq_false_iff_eq.mpr c6
     clear c6
     replace H:=Option.bind_eq_some_iff.mp H
     obtain ⟨t144,A70,H⟩:=H
     replace H:(some t144)=some r:=H
     have A7:=Am_ A70
     clear A70
     obtain rfl:=Option.some.inj H
     go_enter Tryz.func25,Tryz.ntmps25
     go_wp2_with (first | ((with_reducible refine bX (N:=2) rfl ?_);refine bO ?hg (N:=2) ?hd (cs:= #[.int .i64 a0_0,.bool a0_1,.int .i64 a0_2,.int .i64 a0_3,.slice A0_4 l0_4.length c0_4,.bool a0_5]) (t:=58) ?hr ?_;(case hd=>rfl);(case hg=>rfl);(case hr=>first | (go_simp;done) | (go_simp;rfl));intro gb142 hg w8 hbox hb;have n0_:=Am_ (bC (by repeat (first | (with_reducible first | exact HB.out | apply ai | apply aj | apply ak) | exact HB.out)) hb);have n1_:=Am_ (hbox);have n2_:=Am_ ((by rw [hg];exact (aK (by repeat (first | (with_reducible first | exact HB.out | apply ai | apply aj | apply ak) | exact HB.out))):w.heap.size≤gb142));have n3_:=Am_ ((by rw [hg];exact (aK (by repeat (first | (with_reducible first | exact HB.out | apply ai | apply aj | apply ak) | exact HB.out))):w.heap.size≤gb142));clear HB;have HB:=n0_;have BK142:=n1_;have GW142:=n2_;have GE142:=n3_;clear n0_ n1_ n2_ n3_;clear hb hbox hg) | ((with_reducible refine bX (N:=3) rfl ?_);refine bO ?hg (N:=3) ?hd (cs:= #[.int .i64 a1_0,.bool a1_1,.int .i64 a1_2,.int .i64 a1_3,.slice A1_4 l1_4.length c1_4,.bool a1_5]) (t:=58) ?hr ?_;(case hd=>rfl);(case hg=>rfl);(case hr=>first | (go_simp;done) | (go_simp;rfl));intro gb143 hg w9 hbox hb;have n0_:=Am_ (bJ (g:=gb142) (o:= .cells #[.int .i64 a0_0,.bool a0_1,.int .i64 a0_2,.int .i64 a0_3,.slice A0_4 l0_4.length c0_4,.bool a0_5] 58 (0,0)) (by (with_reducible repeat (first | refine aG ?_ _ | refine aH ?_ | refine aC ?_ _));exact BK142.out) hb);have n1_:=Am_ (bC (by repeat (first | (with_reducible first | exact HB.out | apply ai | apply aj | apply ak | refine aD ?_ GE142.out) | exact HB.out)) hb);have n2_:=Am_ (hbox);have n3_:=Am_ ((by rw [hg];exact (aK (by repeat (first | (with_reducible first | exact HB.out | apply ai | apply aj | apply ak | refine aD ?_ GE142.out) | exact HB.out))):w.heap.size≤gb143));have n4_:=Am_ ((by rw [hg];exact (aK (by repeat (first | (with_reducible first | exact HB.out | apply ai | apply aj | apply ak | refine aD ?_ GE142.out) | exact HB.out))):w.heap.size≤gb143));have n5_:=Am_ ((by rw [hg];exact Nat.ne_of_lt (bF (g:=gb142) (o:= .cells #[.int .i64 a0_0,.bool a0_1,.int .i64 a0_2,.int .i64 a0_3,.slice A0_4 l0_4.length c0_4,.bool a0_5] 58 (0,0)) (by (with_reducible repeat (first | refine aG ?_ _ | refine aH ?_ | refine aC ?_ _));exact BK142.out)):gb142≠gb143));have n6_:=Am_ ((by rw [hg];exact Nat.ne_of_gt (bF (g:=gb142) (o:= .cells #[.int .i64 a0_0,.bool a0_1,.int .i64 a0_2,.int .i64 a0_3,.slice A0_4 l0_4.length c0_4,.bool a0_5] 58 (0,0)) (by (with_reducible repeat (first | refine aG ?_ _ | refine aH ?_ | refine aC ?_ _));exact BK142.out)):gb143≠gb142));clear BK142;clear HB;have BK142:=n0_;have HB:=n1_;have BK143:=n2_;have GW143:=n3_;have GE143:=n4_;have NB142_143:=n5_;have NB143_142:=n6_;clear n0_ n1_ n2_ n3_ n4_ n5_ n6_;clear hb hbox hg;have hnb10:=NB142_143.out;have hnc10:=NB143_142.out;have hcz11_0:w9.cell? ⟨gb142,0,none⟩=some (.int .i64 a0_0):=(af BK142.out 0).trans rfl;have hcz11_1:w9.cell? ⟨gb142,1,none⟩=some (.bool a0_1):=(af BK142.out 1).trans rfl;have hcz11_2:w9.cell? ⟨gb142,2,none⟩=some (.int .i64 a0_2):=(af BK142.out 2).trans rfl;have hcz11_3:w9.cell? ⟨gb142,3,none⟩=some (.int .i64 a0_3):=(af BK142.out 3).trans rfl;have hcz11_4:w9.cell? ⟨gb142,4,none⟩=some (.slice A0_4 l0_4.length c0_4):=(af BK142.out 4).trans rfl;have hcz11_5:w9.cell? ⟨gb142,5,none⟩=some (.bool a0_5):=(af BK142.out 5).trans rfl;have hfz11_0:=ah BK142.out 0;have hfz11_1:=ah BK142.out 1;have hfz11_2:=ah BK142.out 2;have hfz11_3:=ah BK142.out 3;have hfz11_4:=ah BK142.out 4;have hfz11_5:=ah BK142.out 5;have hcz12_0:w9.cell? ⟨gb143,0,none⟩=some (.int .i64 a1_0):=(af BK143.out 0).trans rfl;have hcz12_1:w9.cell? ⟨gb143,1,none⟩=some (.bool a1_1):=(af BK143.out 1).trans rfl;have hcz12_2:w9.cell? ⟨gb143,2,none⟩=some (.int .i64 a1_2):=(af BK143.out 2).trans rfl;have hcz12_3:w9.cell? ⟨gb143,3,none⟩=some (.int .i64 a1_3):=(af BK143.out 3).trans rfl;have hcz12_4:w9.cell? ⟨gb143,4,none⟩=some (.slice A1_4 l1_4.length c1_4):=(af BK143.out 4).trans rfl;have hcz12_5:w9.cell? ⟨gb143,5,none⟩=some (.bool a1_5):=(af BK143.out 5).trans rfl;have hfz12_0:=ah BK143.out 0;have hfz12_1:=ah BK143.out 1;have hfz12_2:=ah BK143.out 2;have hfz12_3:=ah BK143.out 3;have hfz12_4:=ah BK143.out 4;have hfz12_5:=ah BK143.out 5) | (go_at_call 56;(with_reducible refine (aM.calls k _ _ l0_4 _ _ l1_4 t144 _ ?side1 ?side2 ?side3 ?side4 A7.out).mono ?_);(case side1=>repeat (first | exact (Kd.bU HR0_4.out HB.out) | (with_reducible refine Kd.fT ?_ _) | (with_reducible refine Kd.fU ?_ _) | (with_reducible refine Kd.iC ?_)));(case side2=>exact HC0_4.out);(case side3=>repeat (first | exact (Kd.bU HR1_4.out HB.out) | (with_reducible refine Kd.fT ?_ _) | (with_reducible refine Kd.fU ?_ _) | (with_reducible refine Kd.iC ?_)));(case side4=>exact HC1_4.out);rintro e w' ⟨rfl,⟨nd,rfl⟩⟩))
     go_ret
     exact ⟨by first | rfl | (simp [bq,bA]<;>rfl) | (simp [*,bq,bA]<;>rfl),by repeat (first | (with_reducible first | exact HB.out | apply ai | apply aj | apply ak | refine aD ?_ GE142.out | refine aD ?_ GE143.out) | exact HB.out)⟩
    ·rw [if_neg c6] at H
     have c6b0:(a0_3 == a1_3)=false:=beq_eq_false_iff_ne.mpr c6
     have c6b1:(a0_3 != a1_3)=true:=bne_iff_ne.mpr c6
     obtain rfl:=Option.some.inj H
     go_enter Tryz.func25,Tryz.ntmps25
     go_wp2_with (first | ((with_reducible refine bX (N:=2) rfl ?_);refine bO ?hg (N:=2) ?hd (cs:= #[.int .i64 a0_0,.bool a0_1,.int .i64 a0_2,.int .i64 a0_3,.slice A0_4 l0_4.length c0_4,.bool a0_5]) (t:=58) ?hr ?_;(case hd=>rfl);(case hg=>rfl);(case hr=>first | (go_simp;done) | (go_simp;rfl));intro gb142 hg w13 hbox hb;have n0_:=Am_ (bC (by repeat (first | (with_reducible first | exact HB.out | apply ai | apply aj | apply ak) | exact HB.out)) hb);have n1_:=Am_ (hbox);have n2_:=Am_ ((by rw [hg];exact (aK (by repeat (first | (with_reducible first | exact HB.out | apply ai | apply aj | apply ak) | exact HB.out))):w.heap.size≤gb142));have n3_:=Am_ ((by rw [hg];exact (aK (by repeat (first | (with_reducible first | exact HB.out | apply ai | apply aj | apply ak) | exact HB.out))):w.heap.size≤gb142));clear HB;have HB:=n0_;have BK142:=n1_;have GW142:=n2_;have GE142:=n3_;clear n0_ n1_ n2_ n3_;clear hb hbox hg) | ((with_reducible refine bX (N:=3) rfl ?_);refine bO ?hg (N:=3) ?hd (cs:= #[.int .i64 a1_0,.bool a1_1,.int .i64 a1_2,.int .i64 a1_3,.slice A1_4 l1_4.length c1_4,.bool a1_5]) (t:=58) ?hr ?_;(case hd=>rfl);(case hg=>rfl);(case hr=>first | (go_simp;done) | (go_simp;rfl));intro gb143 hg w14 hbox hb;have n0_:=Am_ (bJ (g:=gb142) (o:= .cells #[.int .i64 a0_0,.bool a0_1,.int .i64 a0_2,.int .i64 a0_3,.slice A0_4 l0_4.length c0_4,.bool a0_5] 58 (0,0)) (by (with_reducible repeat (first | refine aG ?_ _ | refine aH ?_ | refine aC ?_ _));exact BK142.out) hb);have n1_:=Am_ (bC (by repeat (first | (with_reducible first | exact HB.out | apply ai | apply aj | apply ak | refine aD ?_ GE142.out) | exact HB.out)) hb);have n2_:=Am_ (hbox);have n3_:=Am_ ((by rw [hg];exact (aK (by repeat (first | (with_reducible first | exact HB.out | apply ai | apply aj | apply ak | refine aD ?_ GE142.out) | exact HB.out))):w.heap.size≤gb143));have n4_:=Am_ ((by rw [hg];exact (aK (by repeat (first | (with_reducible first | exact HB.out | apply ai | apply aj | apply ak | refine aD ?_ GE142.out) | exact HB.out))):w.heap.size≤gb143));have n5_:=Am_ ((by rw [hg];exact Nat.ne_of_lt (bF (g:=gb142) (o:= .cells #[.int .i64 a0_0,.bool a0_1,.int .i64 a0_2,.int .i64 a0_3,.slice A0_4 l0_4.length c0_4,.bool a0_5] 58 (0,0)) (by (with_reducible repeat (first | refine aG ?_ _ | refine aH ?_ | refine aC ?_ _));exact BK142.out)):gb142≠gb143));have n6_:=Am_ ((by rw [hg];exact Nat.ne_of_gt (bF (g:=gb142) (o:= .cells #[.int .i64 a0_0,.bool a0_1,.int .i64 a0_2,.int .i64 a0_3,.slice A0_4 l0_4.length c0_4,.bool a0_5] 58 (0,0)) (by (with_reducible repeat (first | refine aG ?_ _ | refine aH ?_ | refine aC ?_ _));exact BK142.out)):gb143≠gb142));clear BK142;clear HB;have BK142:=n0_;have HB:=n1_;have BK143:=n2_;have GW143:=n3_;have GE143:=n4_;have NB142_143:=n5_;have NB143_142:=n6_;clear n0_ n1_ n2_ n3_ n4_ n5_ n6_;clear hb hbox hg;have hnb15:=NB142_143.out;have hnc15:=NB143_142.out;have hcz16_0:w14.cell? ⟨gb142,0,none⟩=some (.int .i64 a0_0):=(af BK142.out 0).trans rfl;have hcz16_1:w14.cell? ⟨gb142,1,none⟩=some (.bool a0_1):=(af BK142.out 1).trans rfl;have hcz16_2:w14.cell? ⟨gb142,2,none⟩=some (.int .i64 a0_2):=(af BK142.out 2).trans rfl;have hcz16_3:w14.cell? ⟨gb142,3,none⟩=some (.int .i64 a0_3):=(af BK142.out 3).trans rfl;have hcz16_4:w14.cell? ⟨gb142,4,none⟩=some (.slice A0_4 l0_4.length c0_4):=(af BK142.out 4).trans rfl;have hcz16_5:w14.cell? ⟨gb142,5,none⟩=some (.bool a0_5):=(af BK142.out 5).trans rfl;have hfz16_0:=ah BK142.out 0;have hfz16_1:=ah BK142.out 1;have hfz16_2:=ah BK142.out 2;have hfz16_3:=ah BK142.out 3;have hfz16_4:=ah BK142.out 4;have hfz16_5:=ah BK142.out 5;have hcz17_0:w14.cell? ⟨gb143,0,none⟩=some (.int .i64 a1_0):=(af BK143.out 0).trans rfl;have hcz17_1:w14.cell? ⟨gb143,1,none⟩=some (.bool a1_1):=(af BK143.out 1).trans rfl;have hcz17_2:w14.cell? ⟨gb143,2,none⟩=some (.int .i64 a1_2):=(af BK143.out 2).trans rfl;have hcz17_3:w14.cell? ⟨gb143,3,none⟩=some (.int .i64 a1_3):=(af BK143.out 3).trans rfl;have hcz17_4:w14.cell? ⟨gb143,4,none⟩=some (.slice A1_4 l1_4.length c1_4):=(af BK143.out 4).trans rfl;have hcz17_5:w14.cell? ⟨gb143,5,none⟩=some (.bool a1_5):=(af BK143.out 5).trans rfl;have hfz17_0:=ah BK143.out 0;have hfz17_1:=ah BK143.out 1;have hfz17_2:=ah BK143.out 2;have hfz17_3:=ah BK143.out 3;have hfz17_4:=ah BK143.out 4;have hfz17_5:=ah BK143.out 5))
     go_ret
     exact ⟨by first | rfl | (simp [bq,bA]<;>rfl) | (simp [*,bq,bA]<;>rfl),by repeat (first | (with_reducible first | exact HB.out | apply ai | apply aj | apply ak | refine aD ?_ GE142.out | refine aD ?_ GE143.out) | exact HB.out)⟩
   ·rw [if_neg c5] at H
    have c5b0:(a0_2 == a1_2)=false:=beq_eq_false_iff_ne.mpr c5
    have c5b1:(a0_2 != a1_2)=true:=bne_iff_ne.mpr c5
    obtain rfl:=Option.some.inj H
    go_enter Tryz.func25,Tryz.ntmps25
    go_wp2_with (first | ((with_reducible refine bX (N:=2) rfl ?_);refine bO ?hg (N:=2) ?hd (cs:= #[.int .i64 a0_0,.bool a0_1,.int .i64 a0_2,.int .i64 a0_3,.slice A0_4 l0_4.length c0_4,.bool a0_5]) (t:=58) ?hr ?_;(case hd=>rfl);(case hg=>rfl);(case hr=>first | (go_simp;done) | (go_simp;rfl));intro gb142 hg w18 hbox hb;have n0_:=Am_ (bC (by repeat (first | (with_reducible first | exact HB.out | apply ai | apply aj | apply ak) | exact HB.out)) hb);have n1_:=Am_ (hbox);have n2_:=Am_ ((by rw [hg];exact (aK (by repeat (first | (with_reducible first | exact HB.out | apply ai | apply aj | apply ak) | exact HB.out))):w.heap.size≤gb142));have n3_:=Am_ ((by rw [hg];exact (aK (by repeat (first | (with_reducible first | exact HB.out | apply ai | apply aj | apply ak) | exact HB.out))):w.heap.size≤gb142));clear HB;have HB:=n0_;have BK142:=n1_;have GW142:=n2_;have GE142:=n3_;clear n0_ n1_ n2_ n3_;clear hb hbox hg) | ((with_reducible refine bX (N:=3) rfl ?_);refine bO ?hg (N:=3) ?hd (cs:= #[.int .i64 a1_0,.bool a1_1,.int .i64 a1_2,.int .i64 a1_3,.slice A1_4 l1_4.length c1_4,.bool a1_5]) (t:=58) ?hr ?_;(case hd=>rfl);(case hg=>rfl);(case hr=>first | (go_simp;done) | (go_simp;rfl));intro gb143 hg w19 hbox hb;have n0_:=Am_ (bJ (g:=gb142) (o:= .cells #[.int .i64 a0_0,.bool a0_1,.int .i64 a0_2,.int .i64 a0_3,.slice A0_4 l0_4.length c0_4,.bool a0_5] 58 (0,0)) (by (with_reducible repeat (first | refine aG ?_ _ | refine aH ?_ | refine aC ?_ _));exact BK142.out) hb);have n1_:=Am_ (bC (by repeat (first | (with_reducible first | exact HB.out | apply ai | apply aj | apply ak | refine aD ?_ GE142.out) | exact HB.out)) hb);have n2_:=Am_ (hbox);have n3_:=Am_ ((by rw [hg];exact (aK (by repeat (first | (with_reducible first | exact HB.out | apply ai | apply aj | apply ak | refine aD ?_ GE142.out) | exact HB.out))):w.heap.size≤gb143));have n4_:=Am_ ((by rw [hg];exact (aK (by repeat (first | (with_reducible first | exact HB.out | apply ai | apply aj | apply ak | refine aD ?_ GE142.out) | exact HB.out))):w.heap.size≤gb143));have n5_:=Am_ ((by rw [hg];exact Nat.ne_of_lt (bF (g:=gb142) (o:= .cells #[.int .i64 a0_0,.bool a0_1,.int .i64 a0_2,.int .i64 a0_3,.slice A0_4 l0_4.length c0_4,.bool a0_5] 58 (0,0)) (by (with_reducible repeat (first | refine aG ?_ _ | refine aH ?_ | refine aC ?_ _));exact BK142.out)):gb142≠gb143));have n6_:=Am_ ((by rw [hg];exact Nat.ne_of_gt (bF (g:=gb142) (o:= .cells #[.int .i64 a0_0,.bool a0_1,.int .i64 a0_2,.int .i64 a0_3,.slice A0_4 l0_4.length c0_4,.bool a0_5] 58 (0,0)) (by (with_reducible repeat (first | refine aG ?_ _ | refine aH ?_ | refine aC ?_ _));exact BK142.out)):gb143≠gb142));clear BK142;clear HB;have BK142:=n0_;have HB:=n1_;have BK143:=n2_;have GW143:=n3_;have GE143:=n4_;have NB142_143:=n5_;have NB143_142:=n6_;clear n0_ n1_ n2_ n3_ n4_ n5_ n6_;clear hb hbox hg;have hnb20:=NB142_143.out;have hnc20:=NB143_142.out;have hcz21_0:w19.cell? ⟨gb142,0,none⟩=some (.int .i64 a0_0):=(af BK142.out 0).trans rfl;have hcz21_1:w19.cell? ⟨gb142,1,none⟩=some (.bool a0_1):=(af BK142.out 1).trans rfl;have hcz21_2:w19.cell? ⟨gb142,2,none⟩=some (.int .i64 a0_2):=(af BK142.out 2).trans rfl;have hcz21_3:w19.cell? ⟨gb142,3,none⟩=some (.int .i64 a0_3):=(af BK142.out 3).trans rfl;have hcz21_4:w19.cell? ⟨gb142,4,none⟩=some (.slice A0_4 l0_4.length c0_4):=(af BK142.out 4).trans rfl;have hcz21_5:w19.cell? ⟨gb142,5,none⟩=some (.bool a0_5):=(af BK142.out 5).trans rfl;have hfz21_0:=ah BK142.out 0;have hfz21_1:=ah BK142.out 1;have hfz21_2:=ah BK142.out 2;have hfz21_3:=ah BK142.out 3;have hfz21_4:=ah BK142.out 4;have hfz21_5:=ah BK142.out 5;have hcz22_0:w19.cell? ⟨gb143,0,none⟩=some (.int .i64 a1_0):=(af BK143.out 0).trans rfl;have hcz22_1:w19.cell? ⟨gb143,1,none⟩=some (.bool a1_1):=(af BK143.out 1).trans rfl;have hcz22_2:w19.cell? ⟨gb143,2,none⟩=some (.int .i64 a1_2):=(af BK143.out 2).trans rfl;have hcz22_3:w19.cell? ⟨gb143,3,none⟩=some (.int .i64 a1_3):=(af BK143.out 3).trans rfl;have hcz22_4:w19.cell? ⟨gb143,4,none⟩=some (.slice A1_4 l1_4.length c1_4):=(af BK143.out 4).trans rfl;have hcz22_5:w19.cell? ⟨gb143,5,none⟩=some (.bool a1_5):=(af BK143.out 5).trans rfl;have hfz22_0:=ah BK143.out 0;have hfz22_1:=ah BK143.out 1;have hfz22_2:=ah BK143.out 2;have hfz22_3:=ah BK143.out 3;have hfz22_4:=ah BK143.out 4;have hfz22_5:=ah BK143.out 5))
    go_ret
    exact ⟨by first | rfl | (simp [bq,bA]<;>rfl) | (simp [*,bq,bA]<;>rfl),by repeat (first | (with_reducible first | exact HB.out | apply ai | apply aj | apply ak | refine aD ?_ GE142.out | refine aD ?_ GE143.out) | exact HB.out)⟩
  ·rw [if_neg c4] at H
   have c4b0:(a0_1 == a1_1)=false:=by simpa using c4
   (try (have c4b1:decide (a0_1=a1_1)=false:=by simpa using c4))
   (try (have c4b2:(a0_1 == a1_1)=false:=by simpa using c4))
   (try (have c4b3: ¬ (a0_1=a1_1):=by simpa using c4))
   clear c4
   obtain rfl:=Option.some.inj H
   go_enter Tryz.func25,Tryz.ntmps25
   go_wp2_with (first | ((with_reducible refine bX (N:=2) rfl ?_);refine bO ?hg (N:=2) ?hd (cs:= #[.int .i64 a0_0,.bool a0_1,.int .i64 a0_2,.int .i64 a0_3,.slice A0_4 l0_4.length c0_4,.bool a0_5]) (t:=58) ?hr ?_;(case hd=>rfl);(case hg=>rfl);(case hr=>first | (go_simp;done) | (go_simp;rfl));intro gb142 hg w23 hbox hb;have n0_:=Am_ (bC (by repeat (first | (with_reducible first | exact HB.out | apply ai | apply aj | apply ak) | exact HB.out)) hb);have n1_:=Am_ (hbox);have n2_:=Am_ ((by rw [hg];exact (aK (by repeat (first | (with_reducible first | exact HB.out | apply ai | apply aj | apply ak) | exact HB.out))):w.heap.size≤gb142));have n3_:=Am_ ((by rw [hg];exact (aK (by repeat (first | (with_reducible first | exact HB.out | apply ai | apply aj | apply ak) | exact HB.out))):w.heap.size≤gb142));clear HB;have HB:=n0_;have BK142:=n1_;have GW142:=n2_;have GE142:=n3_;clear n0_ n1_ n2_ n3_;clear hb hbox hg) | ((with_reducible refine bX (N:=3) rfl ?_);refine bO ?hg (N:=3) ?hd (cs:= #[.int .i64 a1_0,.bool a1_1,.int .i64 a1_2,.int .i64 a1_3,.slice A1_4 l1_4.length c1_4,.bool a1_5]) (t:=58) ?hr ?_;(case hd=>rfl);(case hg=>rfl);(case hr=>first | (go_simp;done) | (go_simp;rfl));intro gb143 hg w24 hbox hb;have n0_:=Am_ (bJ (g:=gb142) (o:= .cells #[.int .i64 a0_0,.bool a0_1,.int .i64 a0_2,.int .i64 a0_3,.slice A0_4 l0_4.length c0_4,.bool a0_5] 58 (0,0)) (by (with_reducible repeat (first | refine aG ?_ _ | refine aH ?_ | refine aC ?_ _));exact BK142.out) hb);have n1_:=Am_ (bC (by repeat (first | (with_reducible first | exact HB.out | apply ai | apply aj | apply ak | refine aD ?_ GE142.out) | exact HB.out)) hb);have n2_:=Am_ (hbox);have n3_:=Am_ ((by rw [hg];exact (aK (by repeat (first | (with_reducible first | exact HB.out | apply ai | apply aj | apply ak | refine aD ?_ GE142.out) | exact HB.out))):w.heap.size≤gb143));have n4_:=Am_ ((by rw [hg];exact (aK (by repeat (first | (with_reducible first | exact HB.out | apply ai | apply aj | apply ak | refine aD ?_ GE142.out) | exact HB.out))):w.heap.size≤gb143));have n5_:=Am_ ((by rw [hg];exact Nat.ne_of_lt (bF (g:=gb142) (o:= .cells #[.int .i64 a0_0,.bool a0_1,.int .i64 a0_2,.int .i64 a0_3,.slice A0_4 l0_4.length c0_4,.bool a0_5] 58 (0,0)) (by (with_reducible repeat (first | refine aG ?_ _ | refine aH ?_ | refine aC ?_ _));exact BK142.out)):gb142≠gb143));have n6_:=Am_ ((by rw [hg];exact Nat.ne_of_gt (bF (g:=gb142) (o:= .cells #[.int .i64 a0_0,.bool a0_1,.int .i64 a0_2,.int .i64 a0_3,.slice A0_4 l0_4.length c0_4,.bool a0_5] 58 (0,0)) (by (with_reducible repeat (first | refine aG ?_ _ | refine aH ?_ | refine aC ?_ _));exact BK142.out)):gb143≠gb142));clear BK142;clear HB;have BK142:=n0_;have HB:=n1_;have BK143:=n2_;have GW143:=n3_;have GE143:=n4_;have NB142_143:=n5_;have NB143_142:=n6_;clear n0_ n1_ n2_ n3_ n4_ n5_ n6_;clear hb hbox hg;have hnb25:=NB142_143.out;have hnc25:=NB143_142.out;have hcz26_0:w24.cell? ⟨gb142,0,none⟩=some (.int .i64 a0_0):=(af BK142.out 0).trans rfl;have hcz26_1:w24.cell? ⟨gb142,1,none⟩=some (.bool a0_1):=(af BK142.out 1).trans rfl;have hcz26_2:w24.cell? ⟨gb142,2,none⟩=some (.int .i64 a0_2):=(af BK142.out 2).trans rfl;have hcz26_3:w24.cell? ⟨gb142,3,none⟩=some (.int .i64 a0_3):=(af BK142.out 3).trans rfl;have hcz26_4:w24.cell? ⟨gb142,4,none⟩=some (.slice A0_4 l0_4.length c0_4):=(af BK142.out 4).trans rfl;have hcz26_5:w24.cell? ⟨gb142,5,none⟩=some (.bool a0_5):=(af BK142.out 5).trans rfl;have hfz26_0:=ah BK142.out 0;have hfz26_1:=ah BK142.out 1;have hfz26_2:=ah BK142.out 2;have hfz26_3:=ah BK142.out 3;have hfz26_4:=ah BK142.out 4;have hfz26_5:=ah BK142.out 5;have hcz27_0:w24.cell? ⟨gb143,0,none⟩=some (.int .i64 a1_0):=(af BK143.out 0).trans rfl;have hcz27_1:w24.cell? ⟨gb143,1,none⟩=some (.bool a1_1):=(af BK143.out 1).trans rfl;have hcz27_2:w24.cell? ⟨gb143,2,none⟩=some (.int .i64 a1_2):=(af BK143.out 2).trans rfl;have hcz27_3:w24.cell? ⟨gb143,3,none⟩=some (.int .i64 a1_3):=(af BK143.out 3).trans rfl;have hcz27_4:w24.cell? ⟨gb143,4,none⟩=some (.slice A1_4 l1_4.length c1_4):=(af BK143.out 4).trans rfl;have hcz27_5:w24.cell? ⟨gb143,5,none⟩=some (.bool a1_5):=(af BK143.out 5).trans rfl;have hfz27_0:=ah BK143.out 0;have hfz27_1:=ah BK143.out 1;have hfz27_2:=ah BK143.out 2;have hfz27_3:=ah BK143.out 3;have hfz27_4:=ah BK143.out 4;have hfz27_5:=ah BK143.out 5))
   go_ret
   exact ⟨by first | rfl | (simp [bq,bA]<;>rfl) | (simp [*,bq,bA]<;>rfl),by repeat (first | (with_reducible first | exact HB.out | apply ai | apply aj | apply ak | refine aD ?_ GE142.out | refine aD ?_ GE143.out) | exact HB.out)⟩
 ·rw [if_neg c3] at H
  have c3b0:(a0_0 == a1_0)=false:=beq_eq_false_iff_ne.mpr c3
  have c3b1:(a0_0 != a1_0)=true:=bne_iff_ne.mpr c3
  obtain rfl:=Option.some.inj H
  go_enter Tryz.func25,Tryz.ntmps25
  go_wp2_with (first | ((with_reducible refine bX (N:=2) rfl ?_);refine bO ?hg (N:=2) ?hd (cs:= #[.int .i64 a0_0,.bool a0_1,.int .i64 a0_2,.int .i64 a0_3,.slice A0_4 l0_4.length c0_4,.bool a0_5]) (t:=58) ?hr ?_;(case hd=>rfl);(case hg=>rfl);(case hr=>first | (go_simp;done) | (go_simp;rfl));intro gb142 hg w28 hbox hb;have n0_:=Am_ (bC (by repeat (first | (with_reducible first | exact HB.out | apply ai | apply aj | apply ak) | exact HB.out)) hb);have n1_:=Am_ (hbox);have n2_:=Am_ ((by rw [hg];exact (aK (by repeat (first | (with_reducible first | exact HB.out | apply ai | apply aj | apply ak) | exact HB.out))):w.heap.size≤gb142));have n3_:=Am_ ((by rw [hg];exact (aK (by repeat (first | (with_reducible first | exact HB.out | apply ai | apply aj | apply ak) | exact HB.out))):w.heap.size≤gb142));clear HB;have HB:=n0_;have BK142:=n1_;have GW142:=n2_;have GE142:=n3_;clear n0_ n1_ n2_ n3_;clear hb hbox hg) | ((with_reducible refine bX (N:=3) rfl ?_);refine bO ?hg (N:=3) ?hd (cs:= #[.int .i64 a1_0,.bool a1_1,.int .i64 a1_2,.int .i64 a1_3,.slice A1_4 l1_4.length c1_4,.bool a1_5]) (t:=58) ?hr ?_;(case hd=>rfl);(case hg=>rfl);(case hr=>first | (go_simp;done) | (go_simp;rfl));intro gb143 hg w29 hbox hb;have n0_:=Am_ (bJ (g:=gb142) (o:= .cells #[.int .i64 a0_0,.bool a0_1,.int .i64 a0_2,.int .i64 a0_3,.slice A0_4 l0_4.length c0_4,.bool a0_5] 58 (0,0)) (by (with_reducible repeat (first | refine aG ?_ _ | refine aH ?_ | refine aC ?_ _));exact BK142.out) hb);have n1_:=Am_ (bC (by repeat (first | (with_reducible first | exact HB.out | apply ai | apply aj | apply ak | refine aD ?_ GE142.out) | exact HB.out)) hb);have n2_:=Am_ (hbox);have n3_:=Am_ ((by rw [hg];exact (aK (by repeat (first | (with_reducible first | exact HB.out | apply ai | apply aj | apply ak | refine aD ?_ GE142.out) | exact HB.out))):w.heap.size≤gb143));have n4_:=Am_ ((by rw [hg];exact (aK (by repeat (first | (with_reducible first | exact HB.out | apply ai | apply aj | apply ak | refine aD ?_ GE142.out) | exact HB.out))):w.heap.size≤gb143));have n5_:=Am_ ((by rw [hg];exact Nat.ne_of_lt (bF (g:=gb142) (o:= .cells #[.int .i64 a0_0,.bool a0_1,.int .i64 a0_2,.int .i64 a0_3,.slice A0_4 l0_4.length c0_4,.bool a0_5] 58 (0,0)) (by (with_reducible repeat (first | refine aG ?_ _ | refine aH ?_ | refine aC ?_ _));exact BK142.out)):gb142≠gb143));have n6_:=Am_ ((by rw [hg];exact Nat.ne_of_gt (bF (g:=gb142) (o:= .cells #[.int .i64 a0_0,.bool a0_1,.int .i64 a0_2,.int .i64 a0_3,.slice A0_4 l0_4.length c0_4,.bool a0_5] 58 (0,0)) (by (with_reducible repeat (first | refine aG ?_ _ | refine aH ?_ | refine aC ?_ _));exact BK142.out)):gb143≠gb142));clear BK142;clear HB;have BK142:=n0_;have HB:=n1_;have BK143:=n2_;have GW143:=n3_;have GE143:=n4_;have NB142_143:=n5_;have NB143_142:=n6_;clear n0_ n1_ n2_ n3_ n4_ n5_ n6_;clear hb hbox hg;have hnb30:=NB142_143.out;have hnc30:=NB143_142.out;have hcz31_0:w29.cell? ⟨gb142,0,none⟩=some (.int .i64 a0_0):=(af BK142.out 0).trans rfl;have hcz31_1:w29.cell? ⟨gb142,1,none⟩=some (.bool a0_1):=(af BK142.out 1).trans rfl;have hcz31_2:w29.cell? ⟨gb142,2,none⟩=some (.int .i64 a0_2):=(af BK142.out 2).trans rfl;have hcz31_3:w29.cell? ⟨gb142,3,none⟩=some (.int .i64 a0_3):=(af BK142.out 3).trans rfl;have hcz31_4:w29.cell? ⟨gb142,4,none⟩=some (.slice A0_4 l0_4.length c0_4):=(af BK142.out 4).trans rfl;have hcz31_5:w29.cell? ⟨gb142,5,none⟩=some (.bool a0_5):=(af BK142.out 5).trans rfl;have hfz31_0:=ah BK142.out 0;have hfz31_1:=ah BK142.out 1;have hfz31_2:=ah BK142.out 2;have hfz31_3:=ah BK142.out 3;have hfz31_4:=ah BK142.out 4;have hfz31_5:=ah BK142.out 5;have hcz32_0:w29.cell? ⟨gb143,0,none⟩=some (.int .i64 a1_0):=(af BK143.out 0).trans rfl;have hcz32_1:w29.cell? ⟨gb143,1,none⟩=some (.bool a1_1):=(af BK143.out 1).trans rfl;have hcz32_2:w29.cell? ⟨gb143,2,none⟩=some (.int .i64 a1_2):=(af BK143.out 2).trans rfl;have hcz32_3:w29.cell? ⟨gb143,3,none⟩=some (.int .i64 a1_3):=(af BK143.out 3).trans rfl;have hcz32_4:w29.cell? ⟨gb143,4,none⟩=some (.slice A1_4 l1_4.length c1_4):=(af BK143.out 4).trans rfl;have hcz32_5:w29.cell? ⟨gb143,5,none⟩=some (.bool a1_5):=(af BK143.out 5).trans rfl;have hfz32_0:=ah BK143.out 0;have hfz32_1:=ah BK143.out 1;have hfz32_2:=ah BK143.out 2;have hfz32_3:=ah BK143.out 3;have hfz32_4:=ah BK143.out 4;have hfz32_5:=ah BK143.out 5))
  go_ret
  exact ⟨by first | rfl | (simp [bq,bA]<;>rfl) | (simp [*,bq,bA]<;>rfl),by repeat (first | (with_reducible first | exact HB.out | apply ai | apply aj | apply ak | refine aD ?_ GE142.out | refine aD ?_ GE143.out) | exact HB.out)⟩
end Go.Proofs.YtmnjjdeaccgjlaaGreat.PStageNil
namespace Go.Proofs.YtmnjjdeaccgjlaaGreat.PStageNil
open Go.RowKit Go.Proofs.YtmnjjdeaccgjlaaGreatW.PrintWords Go.Proofs.YtmnjjdeaccgjlaaGreatW.PrintLast Go.Proofs.YtmnjjdeaccgjlaaGreatW.PrintMore
attribute [local go_sem] iq iy ji jk gG gH iw iA
def gY.f (k:Nat) (l0_0:List (dh)) (a0_1:Int) (a0_2:Int) (a0_3:Bool) (a0_4:Int) (l1_0:List (dh)) (a1_1:Int) (a1_2:Int) (a1_3:Bool) (a1_4:Int):Option (Bool):=(aM.f k l0_0 l1_0).bind fun t162=>(if t162=true then (if a0_1=a1_1 then (if a0_2=a1_2 then (if (a0_3 == a1_3)=true then (some (a0_4 == a1_4)) else (some false)) else (some false)) else (some false)) else (some false))
theorem gY.calls (k:Nat) (A0_0:Option Addr) (c0_0:Nat) (l0_0:List (dh)) (a0_1:Int) (a0_2:Int) (a0_3:Bool) (a0_4:Int) (A1_0:Option Addr) (c1_0:Nat) (l1_0:List (dh)) (a1_1:Int) (a1_2:Int) (a1_3:Bool) (a1_4:Int) (r:Bool) (w:World) (hr0_0:Kd.C iP w A0_0 l0_0.length l0_0) (hc0_0:l0_0.length≤c0_0) (hr1_0:Kd.C iP w A1_0 l1_0.length l1_0) (hc1_0:l1_0.length≤c1_0) (h:gY.f k l0_0 a0_1 a0_2 a0_3 a0_4 l1_0 a1_1 a1_2 a1_3 a1_4=some r):
  Calls Tryz.prog 37 #[.agg #[.slice A0_0 l0_0.length c0_0,.int .i64 a0_1,.int .i64 a0_2,.bool a0_3,.int .i64 a0_4],.agg #[.slice A1_0 l1_0.length c1_0,.int .i64 a1_1,.int .i64 a1_2,.bool a1_3,.int .i64 a1_4]] w fun e w'=>e= .returned (.bool r)∧Below w.heap.size w w':=by
 have hu71:=Tryz.underlying71
 have HR0_0:=Am_ hr0_0
 have HC0_0:=Am_ hc0_0
 clear hr0_0 hc0_0
 have HR1_0:=Am_ hr1_0
 have HC1_0:=Am_ hc1_0
 clear hr1_0 hc1_0
 have HB:=Am_ (Below.refl w.heap.size w)
 have H:((aM.f k l0_0 l1_0).bind fun t162=>(if t162=true then (if a0_1=a1_1 then (if a0_2=a1_2 then (if (a0_3 == a1_3)=true then (some (a0_4 == a1_4)) else (some false)) else (some false)) else (some false)) else (some false)))=some r:=h
 clear h
 replace H:=Option.bind_eq_some_iff.mp H
 obtain ⟨t162,A30,H⟩:=H
 replace H:(if t162=true then (if a0_1=a1_1 then (if a0_2=a1_2 then (if (a0_3 == a1_3)=true then (some (a0_4 == a1_4)) else (some false)) else (some false)) else (some false)) else (some false))=some r:=H
 have A3:=Am_ A30
 clear A30
 by_cases c4:t162=true
 ·subst c4
  have H1:(if a0_1=a1_1 then (if a0_2=a1_2 then (if (a0_3 == a1_3)=true then (some (a0_4 == a1_4)) else (some false)) else (some false)) else (some false))=some r:=by rw [if_pos rfl] at H;exact H
  clear H
  have H:=H1
  clear H1
  by_cases c5:a0_1=a1_1
  ·rw [if_pos c5] at H
   have c5b0:(a0_1 == a1_1)=true:=beq_iff_eq.mpr c5
   have c5b1:(a0_1 != a1_1)=false:=bne_eq_false_iff_eq.mpr c5
   clear c5
   by_cases c6:a0_2=a1_2
   ·rw [if_pos c6] at H
    have c6b0:(a0_2 == a1_2)=true:=beq_iff_eq.mpr c6
    have c6b1:(a0_2 != a1_2)=false:=bne_eq_false_iff_eq.mpr c6
    clear c6
    by_cases c7:(a0_3 == a1_3)=true
    ·rw [if_pos c7] at H
     have c7b0:(a0_3 == a1_3)=true:=c7
     (try (have c7b1:decide (a0_3=a1_3)=true:=by simpa using c7))
     (try (have c7b2:(a0_3 == a1_3)=true:=by simpa using c7))
     clear c7
     obtain rfl:=Option.some.inj H
     go_enter Tryz.func37,Tryz.ntmps37
     go_wp2_with (first | ((with_reducible refine bX (N:=2) rfl ?_);refine bO ?hg (N:=2) ?hd (cs:= #[.slice A0_0 l0_0.length c0_0,.int .i64 a0_1,.int .i64 a0_2,.bool a0_3,.int .i64 a0_4]) (t:=71) ?hr ?_;(case hd=>rfl);(case hg=>rfl);(case hr=>first | (go_simp;done) | (go_simp;rfl));intro gb160 hg w8 hbox hb;have n0_:=Am_ (bC (by repeat (first | (with_reducible first | exact HB.out | apply ai | apply aj | apply ak) | exact HB.out)) hb);have n1_:=Am_ (hbox);have n2_:=Am_ ((by rw [hg];exact (aK (by repeat (first | (with_reducible first | exact HB.out | apply ai | apply aj | apply ak) | exact HB.out))):w.heap.size≤gb160));have n3_:=Am_ ((by rw [hg];exact (aK (by repeat (first | (with_reducible first | exact HB.out | apply ai | apply aj | apply ak) | exact HB.out))):w.heap.size≤gb160));clear HB;have HB:=n0_;have BK160:=n1_;have GW160:=n2_;have GE160:=n3_;clear n0_ n1_ n2_ n3_;clear hb hbox hg) | ((with_reducible refine bX (N:=3) rfl ?_);refine bO ?hg (N:=3) ?hd (cs:= #[.slice A1_0 l1_0.length c1_0,.int .i64 a1_1,.int .i64 a1_2,.bool a1_3,.int .i64 a1_4]) (t:=71) ?hr ?_;(case hd=>rfl);(case hg=>rfl);(case hr=>first | (go_simp;done) | (go_simp;rfl));intro gb161 hg w9 hbox hb;have n0_:=Am_ (bJ (g:=gb160) (o:= .cells #[.slice A0_0 l0_0.length c0_0,.int .i64 a0_1,.int .i64 a0_2,.bool a0_3,.int .i64 a0_4] 71 (0,0)) (by (with_reducible repeat (first | refine aG ?_ _ | refine aH ?_ | refine aC ?_ _));exact BK160.out) hb);have n1_:=Am_ (bC (by repeat (first | (with_reducible first | exact HB.out | apply ai | apply aj | apply ak | refine aD ?_ GE160.out) | exact HB.out)) hb);have n2_:=Am_ (hbox);have n3_:=Am_ ((by rw [hg];exact (aK (by repeat (first | (with_reducible first | exact HB.out | apply ai | apply aj | apply ak | refine aD ?_ GE160.out) | exact HB.out))):w.heap.size≤gb161));have n4_:=Am_ ((by rw [hg];exact (aK (by repeat (first | (with_reducible first | exact HB.out | apply ai | apply aj | apply ak | refine aD ?_ GE160.out) | exact HB.out))):w.heap.size≤gb161));have n5_:=Am_ ((by rw [hg];exact Nat.ne_of_lt (bF (g:=gb160) (o:= .cells #[.slice A0_0 l0_0.length c0_0,.int .i64 a0_1,.int .i64 a0_2,.bool a0_3,.int .i64 a0_4] 71 (0,0)) (by (with_reducible repeat (first | refine aG ?_ _ | refine aH ?_ | refine aC ?_ _));exact BK160.out)):gb160≠gb161));have n6_:=Am_ ((by rw [hg];exact Nat.ne_of_gt (bF (g:=gb160) (o:= .cells #[.slice A0_0 l0_0.length c0_0,.int .i64 a0_1,.int .i64 a0_2,.bool a0_3,.int .i64 a0_4] 71 (0,0)) (by (with_reducible repeat (first | refine aG ?_ _ | refine aH ?_ | refine aC ?_ _));exact BK160.out)):gb161≠gb160));clear BK160;clear HB;have BK160:=n0_;have HB:=n1_;have BK161:=n2_;have GW161:=n3_;have GE161:=n4_;have NB160_161:=n5_;have NB161_160:=n6_;clear n0_ n1_ n2_ n3_ n4_ n5_ n6_;clear hb hbox hg;have hnb10:=NB160_161.out;have hnc10:=NB161_160.out;have hcz11_0:w9.cell? ⟨gb160,0,none⟩=some (.slice A0_0 l0_0.length c0_0):=(af BK160.out 0).trans rfl;have hcz11_1:w9.cell? ⟨gb160,1,none⟩=some (.int .i64 a0_1):=(af BK160.out 1).trans rfl;have hcz11_2:w9.cell? ⟨gb160,2,none⟩=some (.int .i64 a0_2):=(af BK160.out 2).trans rfl;have hcz11_3:w9.cell? ⟨gb160,3,none⟩=some (.bool a0_3):=(af BK160.out 3).trans rfl;have hcz11_4:w9.cell? ⟨gb160,4,none⟩=some (.int .i64 a0_4):=(af BK160.out 4).trans rfl;have hfz11_0:=ah BK160.out 0;have hfz11_1:=ah BK160.out 1;have hfz11_2:=ah BK160.out 2;have hfz11_3:=ah BK160.out 3;have hfz11_4:=ah BK160.out 4;have hcz12_0:w9.cell? ⟨gb161,0,none⟩=some (.slice A1_0 l1_0.length c1_0):=(af BK161.out 0).trans rfl;have hcz12_1:w9.cell? ⟨gb161,1,none⟩=some (.int .i64 a1_1):=(af BK161.out 1).trans rfl;have hcz12_2:w9.cell? ⟨gb161,2,none⟩=some (.int .i64 a1_2):=(af BK161.out 2).trans rfl;have hcz12_3:w9.cell? ⟨gb161,3,none⟩=some (.bool a1_3):=(af BK161.out 3).trans rfl;have hcz12_4:w9.cell? ⟨gb161,4,none⟩=some (.int .i64 a1_4):=(af BK161.out 4).trans rfl;have hfz12_0:=ah BK161.out 0;have hfz12_1:=ah BK161.out 1;have hfz12_2:=ah BK161.out 2;have hfz12_3:=ah BK161.out 3;have hfz12_4:=ah BK161.out 4) | ((with_reducible refine gP (f:=56) rfl ?_);refine mW (some 9) rfl rfl Tryz.func56 (by kernel_rfl) rfl #[.slice A0_0 l0_0.length c0_0,.slice A1_0 l1_0.length c1_0] rfl (by (try simp only [List.map_toArray,List.map_cons,List.map_nil]);first | done | rfl | (simp only [List.length_drop,List.length_take];rfl)) ?_;(with_reducible refine (aM.calls k _ _ l0_0 _ _ l1_0 true _ ?side1 ?side2 ?side3 ?side4 A3.out).mono ?_);(case side1=>repeat (first | exact (Kd.bU HR0_0.out HB.out) | (with_reducible refine Kd.fT ?_ _) | (with_reducible refine Kd.fU ?_ _) | (with_reducible refine Kd.iC ?_)));(case side2=>exact HC0_0.out);(case side3=>repeat (first | exact (Kd.bU HR1_0.out HB.out) | (with_reducible refine Kd.fT ?_ _) | (with_reducible refine Kd.fU ?_ _) | (with_reducible refine Kd.iC ?_)));(case side4=>exact HC1_0.out);rintro e w' ⟨rfl,⟨nd,rfl⟩⟩;refine ⟨_,rfl,?_⟩))
     go_ret
     exact ⟨by first | rfl | (simp [bq,bA]<;>rfl) | (simp [*,bq,bA]<;>rfl),by repeat (first | (with_reducible first | exact HB.out | apply ai | apply aj | apply ak | refine aD ?_ GE160.out | refine aD ?_ GE161.out) | exact HB.out)⟩
    ·rw [if_neg c7] at H
     have c7b0:(a0_3 == a1_3)=false:=by simpa using c7
     (try (have c7b1:decide (a0_3=a1_3)=false:=by simpa using c7))
     (try (have c7b2:(a0_3 == a1_3)=false:=by simpa using c7))
     (try (have c7b3: ¬ (a0_3=a1_3):=by simpa using c7))
     clear c7
     obtain rfl:=Option.some.inj H
     go_enter Tryz.func37,Tryz.ntmps37
     go_wp2_with (first | ((with_reducible refine bX (N:=2) rfl ?_);refine bO ?hg (N:=2) ?hd (cs:= #[.slice A0_0 l0_0.length c0_0,.int .i64 a0_1,.int .i64 a0_2,.bool a0_3,.int .i64 a0_4]) (t:=71) ?hr ?_;(case hd=>rfl);(case hg=>rfl);(case hr=>first | (go_simp;done) | (go_simp;rfl));intro gb160 hg w13 hbox hb;have n0_:=Am_ (bC (by repeat (first | (with_reducible first | exact HB.out | apply ai | apply aj | apply ak) | exact HB.out)) hb);have n1_:=Am_ (hbox);have n2_:=Am_ ((by rw [hg];exact (aK (by repeat (first | (with_reducible first | exact HB.out | apply ai | apply aj | apply ak) | exact HB.out))):w.heap.size≤gb160));have n3_:=Am_ ((by rw [hg];exact (aK (by repeat (first | (with_reducible first | exact HB.out | apply ai | apply aj | apply ak) | exact HB.out))):w.heap.size≤gb160));clear HB;have HB:=n0_;have BK160:=n1_;have GW160:=n2_;have GE160:=n3_;clear n0_ n1_ n2_ n3_;clear hb hbox hg) | ((with_reducible refine bX (N:=3) rfl ?_);refine bO ?hg (N:=3) ?hd (cs:= #[.slice A1_0 l1_0.length c1_0,.int .i64 a1_1,.int .i64 a1_2,.bool a1_3,.int .i64 a1_4]) (t:=71) ?hr ?_;(case hd=>rfl);(case hg=>rfl);(case hr=>first | (go_simp;done) | (go_simp;rfl));intro gb161 hg w14 hbox hb;have n0_:=Am_ (bJ (g:=gb160) (o:= .cells #[.slice A0_0 l0_0.length c0_0,.int .i64 a0_1,.int .i64 a0_2,.bool a0_3,.int .i64 a0_4] 71 (0,0)) (by (with_reducible repeat (first | refine aG ?_ _ | refine aH ?_ | refine aC ?_ _));exact BK160.out) hb);have n1_:=Am_ (bC (by repeat (first | (with_reducible first | exact HB.out | apply ai | apply aj | apply ak | refine aD ?_ GE160.out) | exact HB.out)) hb);have n2_:=Am_ (hbox);have n3_:=Am_ ((by rw [hg];exact (aK (by repeat (first | (with_reducible first | exact HB.out | apply ai | apply aj | apply ak | refine aD ?_ GE160.out) | exact HB.out))):w.heap.size≤gb161));have n4_:=Am_ ((by rw [hg];exact (aK (by repeat (first | (with_reducible first | exact HB.out | apply ai | apply aj | apply ak | refine aD ?_ GE160.out) | exact HB.out))):w.heap.size≤gb161));have n5_:=Am_ ((by rw [hg];exact Nat.ne_of_lt (bF (g:=gb160) (o:= .cells #[.slice A0_0 l0_0.length c0_0,.int .i64 a0_1,.int .i64 a0_2,.bool a0_3,.int .i64 a0_4] 71 (0,0)) (by (with_reducible repeat (first | refine aG ?_ _ | refine aH ?_ | refine aC ?_ _));exact BK160.out)):gb160≠gb161));have n6_:=Am_ ((by rw [hg];exact Nat.ne_of_gt (bF (g:=gb160) (o:= .cells #[.slice A0_0 l0_0.length c0_0,.int .i64 a0_1,.int .i64 a0_2,.bool a0_3,.int .i64 a0_4] 71 (0,0)) (by (with_reducible repeat (first | refine aG ?_ _ | refine aH ?_ | refine aC ?_ _));exact BK160.out)):gb161≠gb160));clear BK160;clear HB;have BK160:=n0_;have HB:=n1_;have BK161:=n2_;have GW161:=n3_;have GE161:=n4_;have NB160_161:=n5_;have NB161_160:=n6_;clear n0_ n1_ n2_ n3_ n4_ n5_ n6_;clear hb hbox hg;have hnb15:=NB160_161.out;have hnc15:=NB161_160.out;have hcz16_0:w14.cell? ⟨gb160,0,none⟩=some (.slice A0_0 l0_0.length c0_0):=(af BK160.out 0).trans rfl;have hcz16_1:w14.cell? ⟨gb160,1,none⟩=some (.int .i64 a0_1):=(af BK160.out 1).trans rfl;have hcz16_2:w14.cell? ⟨gb160,2,none⟩=some (.int .i64 a0_2):=(af BK160.out 2).trans rfl;have hcz16_3:w14.cell? ⟨gb160,3,none⟩=some (.bool a0_3):=(af BK160.out 3).trans rfl;have hcz16_4:w14.cell? ⟨gb160,4,none⟩=some (.int .i64 a0_4):=(af BK160.out 4).trans rfl;have hfz16_0:=ah BK160.out 0;have hfz16_1:=ah BK160.out 1;have hfz16_2:=ah BK160.out 2;have hfz16_3:=ah BK160.out 3;have hfz16_4:=ah BK160.out 4;have hcz17_0:w14.cell? ⟨gb161,0,none⟩=some (.slice A1_0 l1_0.length c1_0):=(af BK161.out 0).trans rfl;have hcz17_1:w14.cell? ⟨gb161,1,none⟩=some (.int .i64 a1_1):=(af BK161.out 1).trans rfl;have hcz17_2:w14.cell? ⟨gb161,2,none⟩=some (.int .i64 a1_2):=(af BK161.out 2).trans rfl;have hcz17_3:w14.cell? ⟨gb161,3,none⟩=some (.bool a1_3):=(af BK161.out 3).trans rfl;have hcz17_4:w14.cell? ⟨gb161,4,none⟩=some (.int .i64 a1_4):=(af BK161.out 4).trans rfl;have hfz17_0:=ah BK161.out 0;have hfz17_1:=ah BK161.out 1;have hfz17_2:=ah BK161.out 2;have hfz17_3:=ah BK161.out 3;have hfz17_4:=ah BK161.out 4) | ((with_reducible refine gP (f:=56) rfl ?_);refine mW (some 9) rfl rfl Tryz.func56 (by kernel_rfl) rfl #[.slice A0_0 l0_0.length c0_0,.slice A1_0 l1_0.length c1_0] rfl (by (try simp only [List.map_toArray,List.map_cons,List.map_nil]);first | done | rfl | (simp only [List.length_drop,List.length_take];rfl)) ?_;(with_reducible refine (aM.calls k _ _ l0_0 _ _ l1_0 true _ ?side1 ?side2 ?side3 ?side4 A3.out).mono ?_);(case side1=>repeat (first | exact (Kd.bU HR0_0.out HB.out) | (with_reducible refine Kd.fT ?_ _) | (with_reducible refine Kd.fU ?_ _) | (with_reducible refine Kd.iC ?_)));(case side2=>exact HC0_0.out);(case side3=>repeat (first | exact (Kd.bU HR1_0.out HB.out) | (with_reducible refine Kd.fT ?_ _) | (with_reducible refine Kd.fU ?_ _) | (with_reducible refine Kd.iC ?_)));(case side4=>exact HC1_0.out);rintro e w' ⟨rfl,⟨nd,rfl⟩⟩;refine ⟨_,rfl,?_⟩))
     go_ret
     exact ⟨by first | rfl | (simp [bq,bA]<;>rfl) | (simp [*,bq,bA]<;>rfl),by repeat (first | (with_reducible first | exact HB.out | apply ai | apply aj | apply ak | refine aD ?_ GE160.out | refine aD ?_ GE161.out) | exact HB.out)⟩
   ·rw [if_neg c6] at H
    have c6b0:(a0_2 == a1_2)=false:=beq_eq_false_iff_ne.mpr c6
    have c6b1:(a0_2 != a1_2)=true:=bne_iff_ne.mpr c6
    obtain rfl:=Option.some.inj H
    go_enter Tryz.func37,Tryz.ntmps37
    go_wp2_with (first | ((with_reducible refine bX (N:=2) rfl ?_);refine bO ?hg (N:=2) ?hd (cs:= #[.slice A0_0 l0_0.length c0_0,.int .i64 a0_1,.int .i64 a0_2,.bool a0_3,.int .i64 a0_4]) (t:=71) ?hr ?_;(case hd=>rfl);(case hg=>rfl);(case hr=>first | (go_simp;done) | (go_simp;rfl));intro gb160 hg w18 hbox hb;have n0_:=Am_ (bC (by repeat (first | (with_reducible first | exact HB.out | apply ai | apply aj | apply ak) | exact HB.out)) hb);have n1_:=Am_ (hbox);have n2_:=Am_ ((by rw [hg];exact (aK (by repeat (first | (with_reducible first | exact HB.out | apply ai | apply aj | apply ak) | exact HB.out))):w.heap.size≤gb160));have n3_:=Am_ ((by rw [hg];exact (aK (by repeat (first | (with_reducible first | exact HB.out | apply ai | apply aj | apply ak) | exact HB.out))):w.heap.size≤gb160));clear HB;have HB:=n0_;have BK160:=n1_;have GW160:=n2_;have GE160:=n3_;clear n0_ n1_ n2_ n3_;clear hb hbox hg) | ((with_reducible refine bX (N:=3) rfl ?_);refine bO ?hg (N:=3) ?hd (cs:= #[.slice A1_0 l1_0.length c1_0,.int .i64 a1_1,.int .i64 a1_2,.bool a1_3,.int .i64 a1_4]) (t:=71) ?hr ?_;(case hd=>rfl);(case hg=>rfl);(case hr=>first | (go_simp;done) | (go_simp;rfl));intro gb161 hg w19 hbox hb;have n0_:=Am_ (bJ (g:=gb160) (o:= .cells #[.slice A0_0 l0_0.length c0_0,.int .i64 a0_1,.int .i64 a0_2,.bool a0_3,.int .i64 a0_4] 71 (0,0)) (by (with_reducible repeat (first | refine aG ?_ _ | refine aH ?_ | refine aC ?_ _));exact BK160.out) hb);have n1_:=Am_ (bC (by repeat (first | (with_reducible first | exact HB.out | apply ai | apply aj | apply ak | refine aD ?_ GE160.out) | exact HB.out)) hb);have n2_:=Am_ (hbox);have n3_:=Am_ ((by rw [hg];exact (aK (by repeat (first | (with_reducible first | exact HB.out | apply ai | apply aj | apply ak | refine aD ?_ GE160.out) | exact HB.out))):w.heap.size≤gb161));have n4_:=Am_ ((by rw [hg];exact (aK (by repeat (first | (with_reducible first | exact HB.out | apply ai | apply aj | apply ak | refine aD ?_ GE160.out) | exact HB.out))):w.heap.size≤gb161));have n5_:=Am_ ((by rw [hg];exact Nat.ne_of_lt (bF (g:=gb160) (o:= .cells #[.slice A0_0 l0_0.length c0_0,.int .i64 a0_1,.int .i64 a0_2,.bool a0_3,.int .i64 a0_4] 71 (0,0)) (by (with_reducible repeat (first | refine aG ?_ _ | refine aH ?_ | refine aC ?_ _));exact BK160.out)):gb160≠gb161));have n6_:=Am_ ((by rw [hg];exact Nat.ne_of_gt (bF (g:=gb160) (o:= .cells #[.slice A0_0 l0_0.length c0_0,.int .i64 a0_1,.int .i64 a0_2,.bool a0_3,.int .i64 a0_4] 71 (0,0)) (by (with_reducible repeat (first | refine aG ?_ _ | refine aH ?_ | refine aC ?_ _));exact BK160.out)):gb161≠gb160));clear BK160;clear HB;have BK160:=n0_;have HB:=n1_;have BK161:=n2_;have GW161:=n3_;have GE161:=n4_;have NB160_161:=n5_;have NB161_160:=n6_;clear n0_ n1_ n2_ n3_ n4_ n5_ n6_;clear hb hbox hg;have hnb20:=NB160_161.out;have hnc20:=NB161_160.out;have hcz21_0:w19.cell? ⟨gb160,0,none⟩=some (.slice A0_0 l0_0.length c0_0):=(af BK160.out 0).trans rfl;have hcz21_1:w19.cell? ⟨gb160,1,none⟩=some (.int .i64 a0_1):=(af BK160.out 1).trans rfl;have hcz21_2:w19.cell? ⟨gb160,2,none⟩=some (.int .i64 a0_2):=(af BK160.out 2).trans rfl;have hcz21_3:w19.cell? ⟨gb160,3,none⟩=some (.bool a0_3):=(af BK160.out 3).trans rfl;have hcz21_4:w19.cell? ⟨gb160,4,none⟩=some (.int .i64 a0_4):=(af BK160.out 4).trans rfl;have hfz21_0:=ah BK160.out 0;have hfz21_1:=ah BK160.out 1;have hfz21_2:=ah BK160.out 2;have hfz21_3:=ah BK160.out 3;have hfz21_4:=ah BK160.out 4;have hcz22_0:w19.cell? ⟨gb161,0,none⟩=some (.slice A1_0 l1_0.length c1_0):=(af BK161.out 0).trans rfl;have hcz22_1:w19.cell? ⟨gb161,1,none⟩=some (.int .i64 a1_1):=(af BK161.out 1).trans rfl;have hcz22_2:w19.cell? ⟨gb161,2,none⟩=some (.int .i64 a1_2):=(af BK161.out 2).trans rfl;have hcz22_3:w19.cell? ⟨gb161,3,none⟩=some (.bool a1_3):=(af BK161.out 3).trans rfl;have hcz22_4:w19.cell? ⟨gb161,4,none⟩=some (.int .i64 a1_4):=(af BK161.out 4).trans rfl;have hfz22_0:=ah BK161.out 0;have hfz22_1:=ah BK161.out 1;have hfz22_2:=ah BK161.out 2;have hfz22_3:=ah BK161.out 3;have hfz22_4:=ah BK161.out 4) | ((with_reducible refine gP (f:=56) rfl ?_);refine mW (some 9) rfl rfl Tryz.func56 (by kernel_rfl) rfl #[.slice A0_0 l0_0.length c0_0,.slice A1_0 l1_0.length c1_0] rfl (by (try simp only [List.map_toArray,List.map_cons,List.map_nil]);first | done | rfl | (simp only [List.length_drop,List.length_take];rfl)) ?_;(with_reducible refine (aM.calls k _ _ l0_0 _ _ l1_0 true _ ?side1 ?side2 ?side3 ?side4 A3.out).mono ?_);(case side1=>repeat (first | exact (Kd.bU HR0_0.out HB.out) | (with_reducible refine Kd.fT ?_ _) | (with_reducible refine Kd.fU ?_ _) | (with_reducible refine Kd.iC ?_)));(case side2=>exact HC0_0.out);(case side3=>repeat (first | exact (Kd.bU HR1_0.out HB.out) | (with_reducible refine Kd.fT ?_ _) | (with_reducible refine Kd.fU ?_ _) | (with_reducible refine Kd.iC ?_)));(case side4=>exact HC1_0.out);rintro e w' ⟨rfl,⟨nd,rfl⟩⟩;refine ⟨_,rfl,?_⟩))
    go_ret
    exact ⟨by first | rfl | (simp [bq,bA]<;>rfl) | (simp [*,bq,bA]<;>rfl),by repeat (first | (with_reducible first | exact HB.out | apply ai | apply aj | apply ak | refine aD ?_ GE160.out | refine aD ?_ GE161.out) | exact HB.out)⟩
  ·rw [if_neg c5] at H
   have c5b0:(a0_1 == a1_1)=false:=beq_eq_false_iff_ne.mpr c5
   have c5b1:(a0_1 != a1_1)=true:=bne_iff_ne.mpr c5
   obtain rfl:=Option.some.inj H
   go_enter Tryz.func37,Tryz.ntmps37
   go_wp2_with (first | ((with_reducible refine bX (N:=2) rfl ?_);refine bO ?hg (N:=2) ?hd (cs:= #[.slice A0_0 l0_0.length c0_0,.int .i64 a0_1,.int .i64 a0_2,.bool a0_3,.int .i64 a0_4]) (t:=71) ?hr ?_;(case hd=>rfl);(case hg=>rfl);(case hr=>first | (go_simp;done) | (go_simp;rfl));intro gb160 hg w23 hbox hb;have n0_:=Am_ (bC (by repeat (first | (with_reducible first | exact HB.out | apply ai | apply aj | apply ak) | exact HB.out)) hb);have n1_:=Am_ (hbox);have n2_:=Am_ ((by rw [hg];exact (aK (by repeat (first | (with_reducible first | exact HB.out | apply ai | apply aj | apply ak) | exact HB.out))):w.heap.size≤gb160));have n3_:=Am_ ((by rw [hg];exact (aK (by repeat (first | (with_reducible first | exact HB.out | apply ai | apply aj | apply ak) | exact HB.out))):w.heap.size≤gb160));clear HB;have HB:=n0_;have BK160:=n1_;have GW160:=n2_;have GE160:=n3_;clear n0_ n1_ n2_ n3_;clear hb hbox hg) | ((with_reducible refine bX (N:=3) rfl ?_);refine bO ?hg (N:=3) ?hd (cs:= #[.slice A1_0 l1_0.length c1_0,.int .i64 a1_1,.int .i64 a1_2,.bool a1_3,.int .i64 a1_4]) (t:=71) ?hr ?_;(case hd=>rfl);(case hg=>rfl);(case hr=>first | (go_simp;done) | (go_simp;rfl));intro gb161 hg w24 hbox hb;have n0_:=Am_ (bJ (g:=gb160) (o:= .cells #[.slice A0_0 l0_0.length c0_0,.int .i64 a0_1,.int .i64 a0_2,.bool a0_3,.int .i64 a0_4] 71 (0,0)) (by (with_reducible repeat (first | refine aG ?_ _ | refine aH ?_ | refine aC ?_ _));exact BK160.out) hb);have n1_:=Am_ (bC (by repeat (first | (with_reducible first | exact HB.out | apply ai | apply aj | apply ak | refine aD ?_ GE160.out) | exact HB.out)) hb);have n2_:=Am_ (hbox);have n3_:=Am_ ((by rw [hg];exact (aK (by repeat (first | (with_reducible first | exact HB.out | apply ai | apply aj | apply ak | refine aD ?_ GE160.out) | exact HB.out))):w.heap.size≤gb161));have n4_:=Am_ ((by rw [hg];exact (aK (by repeat (first | (with_reducible first | exact HB.out | apply ai | apply aj | apply ak | refine aD ?_ GE160.out) | exact HB.out))):w.heap.size≤gb161));have n5_:=Am_ ((by rw [hg];exact Nat.ne_of_lt (bF (g:=gb160) (o:= .cells #[.slice A0_0 l0_0.length c0_0,.int .i64 a0_1,.int .i64 a0_2,.bool a0_3,.int .i64 a0_4] 71 (0,0)) (by (with_reducible repeat (first | refine aG ?_ _ | refine aH ?_ | refine aC ?_ _));exact BK160.out)):gb160≠gb161));have n6_:=Am_ ((by rw [hg];exact Nat.ne_of_gt (bF (g:=gb160) (o:= .cells #[.slice A0_0 l0_0.length c0_0,.int .i64 a0_1,.int .i64 a0_2,.bool a0_3,.int .i64 a0_4] 71 (0,0)) (by (with_reducible repeat (first | refine aG ?_ _ | refine aH ?_ | refine aC ?_ _));exact BK160.out)):gb161≠gb160));clear BK160;clear HB;have BK160:=n0_;have HB:=n1_;have BK161:=n2_;have GW161:=n3_;have GE161:=n4_;have NB160_161:=n5_;have NB161_160:=n6_;clear n0_ n1_ n2_ n3_ n4_ n5_ n6_;clear hb hbox hg;have hnb25:=NB160_161.out;have hnc25:=NB161_160.out;have hcz26_0:w24.cell? ⟨gb160,0,none⟩=some (.slice A0_0 l0_0.length c0_0):=(af BK160.out 0).trans rfl;have hcz26_1:w24.cell? ⟨gb160,1,none⟩=some (.int .i64 a0_1):=(af BK160.out 1).trans rfl;have hcz26_2:w24.cell? ⟨gb160,2,none⟩=some (.int .i64 a0_2):=(af BK160.out 2).trans rfl;have hcz26_3:w24.cell? ⟨gb160,3,none⟩=some (.bool a0_3):=(af BK160.out 3).trans rfl;have hcz26_4:w24.cell? ⟨gb160,4,none⟩=some (.int .i64 a0_4):=(af BK160.out 4).trans rfl;have hfz26_0:=ah BK160.out 0;have hfz26_1:=ah BK160.out 1;have hfz26_2:=ah BK160.out 2;have hfz26_3:=ah BK160.out 3;have hfz26_4:=ah BK160.out 4;have hcz27_0:w24.cell? ⟨gb161,0,none⟩=some (.slice A1_0 l1_0.length c1_0):=(af BK161.out 0).trans rfl;have hcz27_1:w24.cell? ⟨gb161,1,none⟩=some (.int .i64 a1_1):=(af BK161.out 1).trans rfl;have hcz27_2:w24.cell? ⟨gb161,2,none⟩=some (.int .i64 a1_2):=(af BK161.out 2).trans rfl;have hcz27_3:w24.cell? ⟨gb161,3,none⟩=some (.bool a1_3):=(af BK161.out 3).trans rfl;have hcz27_4:w24.cell? ⟨gb161,4,none⟩=some (.int .i64 a1_4):=(af BK161.out 4).trans rfl;have hfz27_0:=ah BK161.out 0;have hfz27_1:=ah BK161.out 1;have hfz27_2:=ah BK161.out 2;have hfz27_3:=ah BK161.out 3;have hfz27_4:=ah BK161.out 4) | ((with_reducible refine gP (f:=56) rfl ?_);refine mW (some 9) rfl rfl Tryz.func56 (by kernel_rfl) rfl #[.slice A0_0 l0_0.length c0_0,.slice A1_0 l1_0.length c1_0] rfl (by (try simp only [List.map_toArray,List.map_cons,List.map_nil]);first | done | rfl | (simp only [List.length_drop,List.length_take];rfl)) ?_;(with_reducible refine (aM.calls k _ _ l0_0 _ _ l1_0 true _ ?side1 ?side2 ?side3 ?side4 A3.out).mono ?_);(case side1=>repeat (first | exact (Kd.bU HR0_0.out HB.out) | (with_reducible refine Kd.fT ?_ _) | (with_reducible refine Kd.fU ?_ _) | (with_reducible refine Kd.iC ?_)));(case side2=>exact HC0_0.out);(case side3=>repeat (first | exact (Kd.bU HR1_0.out HB.out) | (with_reducible refine Kd.fT ?_ _) | (with_reducible refine Kd.fU ?_ _) | (with_reducible refine Kd.iC ?_)));(case side4=>exact HC1_0.out);rintro e w' ⟨rfl,⟨nd,rfl⟩⟩;refine ⟨_,rfl,?_⟩))
   go_ret
   exact ⟨by first | rfl | (simp [bq,bA]<;>rfl) | (simp [*,bq,bA]<;>rfl),by repeat (first | (with_reducible first | exact HB.out | apply ai | apply aj | apply ak | refine aD ?_ GE160.out | refine aD ?_ GE161.out) | exact HB.out)⟩
 ·replace c4:=Bool.eq_false_iff.mpr c4
  subst c4
  have H1:(some false)=some r:=by rw [if_neg (show ¬ (false=true) by decide)] at H;exact H
  clear H
  have H:=H1
  clear H1
  obtain rfl:=Option.some.inj H
  go_enter Tryz.func37,Tryz.ntmps37
  go_wp2_with (first | ((with_reducible refine bX (N:=2) rfl ?_);refine bO ?hg (N:=2) ?hd (cs:= #[.slice A0_0 l0_0.length c0_0,.int .i64 a0_1,.int .i64 a0_2,.bool a0_3,.int .i64 a0_4]) (t:=71) ?hr ?_;(case hd=>rfl);(case hg=>rfl);(case hr=>first | (go_simp;done) | (go_simp;rfl));intro gb160 hg w28 hbox hb;have n0_:=Am_ (bC (by repeat (first | (with_reducible first | exact HB.out | apply ai | apply aj | apply ak) | exact HB.out)) hb);have n1_:=Am_ (hbox);have n2_:=Am_ ((by rw [hg];exact (aK (by repeat (first | (with_reducible first | exact HB.out | apply ai | apply aj | apply ak) | exact HB.out))):w.heap.size≤gb160));have n3_:=Am_ ((by rw [hg];exact (aK (by repeat (first | (with_reducible first | exact HB.out | apply ai | apply aj | apply ak) | exact HB.out))):w.heap.size≤gb160));clear HB;have HB:=n0_;have BK160:=n1_;have GW160:=n2_;have GE160:=n3_;clear n0_ n1_ n2_ n3_;clear hb hbox hg) | ((with_reducible refine bX (N:=3) rfl ?_);refine bO ?hg (N:=3) ?hd (cs:= #[.slice A1_0 l1_0.length c1_0,.int .i64 a1_1,.int .i64 a1_2,.bool a1_3,.int .i64 a1_4]) (t:=71) ?hr ?_;(case hd=>rfl);(case hg=>rfl);(case hr=>first | (go_simp;done) | (go_simp;rfl));intro gb161 hg w29 hbox hb;have n0_:=Am_ (bJ (g:=gb160) (o:= .cells #[.slice A0_0 l0_0.length c0_0,.int .i64 a0_1,.int .i64 a0_2,.bool a0_3,.int .i64 a0_4] 71 (0,0)) (by (with_reducible repeat (first | refine aG ?_ _ | refine aH ?_ | refine aC ?_ _));exact BK160.out) hb);have n1_:=Am_ (bC (by repeat (first | (with_reducible first | exact HB.out | apply ai | apply aj | apply ak | refine aD ?_ GE160.out) | exact HB.out)) hb);have n2_:=Am_ (hbox);have n3_:=Am_ ((by rw [hg];exact (aK (by repeat (first | (with_reducible first | exact HB.out | apply ai | apply aj | apply ak | refine aD ?_ GE160.out) | exact HB.out))):w.heap.size≤gb161));have n4_:=Am_ ((by rw [hg];exact (aK (by repeat (first | (with_reducible first | exact HB.out | apply ai | apply aj | apply ak | refine aD ?_ GE160.out) | exact HB.out))):w.heap.size≤gb161));have n5_:=Am_ ((by rw [hg];exact Nat.ne_of_lt (bF (g:=gb160) (o:= .cells #[.slice A0_0 l0_0.length c0_0,.int .i64 a0_1,.int .i64 a0_2,.bool a0_3,.int .i64 a0_4] 71 (0,0)) (by (with_reducible repeat (first | refine aG ?_ _ | refine aH ?_ | refine aC ?_ _));exact BK160.out)):gb160≠gb161));have n6_:=Am_ ((by rw [hg];exact Nat.ne_of_gt (bF (g:=gb160) (o:= .cells #[.slice A0_0 l0_0.length c0_0,.int .i64 a0_1,.int .i64 a0_2,.bool a0_3,.int .i64 a0_4] 71 (0,0)) (by (with_reducible repeat (first | refine aG ?_ _ | refine aH ?_ | refine aC ?_ _));exact BK160.out)):gb161≠gb160));clear BK160;clear HB;have BK160:=n0_;have HB:=n1_;have BK161:=n2_;have GW161:=n3_;have GE161:=n4_;have NB160_161:=n5_;have NB161_160:=n6_;clear n0_ n1_ n2_ n3_ n4_ n5_ n6_;clear hb hbox hg;have hnb30:=NB160_161.out;have hnc30:=NB161_160.out;have hcz31_0:w29.cell? ⟨gb160,0,none⟩=some (.slice A0_0 l0_0.length c0_0):=(af BK160.out 0).trans rfl;have hcz31_1:w29.cell? ⟨gb160,1,none⟩=some (.int .i64 a0_1):=(af BK160.out 1).trans rfl;have hcz31_2:w29.cell? ⟨gb160,2,none⟩=some (.int .i64 a0_2):=(af BK160.out 2).trans rfl;have hcz31_3:w29.cell? ⟨gb160,3,none⟩=some (.bool a0_3):=(af BK160.out 3).trans rfl;have hcz31_4:w29.cell? ⟨gb160,4,none⟩=some (.int .i64 a0_4):=(af BK160.out 4).trans rfl;have hfz31_0:=ah BK160.out 0;have hfz31_1:=ah BK160.out 1;have hfz31_2:=ah BK160.out 2;have hfz31_3:=ah BK160.out 3;have hfz31_4:=ah BK160.out 4;have hcz32_0:w29.cell? ⟨gb161,0,none⟩=some (.slice A1_0 l1_0.length c1_0):=(af BK161.out 0).trans rfl;have hcz32_1:w29.cell? ⟨gb161,1,none⟩=some (.int .i64 a1_1):=(af BK161.out 1).trans rfl;have hcz32_2:w29.cell? ⟨gb161,2,none⟩=some (.int .i64 a1_2):=(af BK161.out 2).trans rfl;have hcz32_3:w29.cell? ⟨gb161,3,none⟩=some (.bool a1_3):=(af BK161.out 3).trans rfl;have hcz32_4:w29.cell? ⟨gb161,4,none⟩=some (.int .i64 a1_4):=(af BK161.out 4).trans rfl;have hfz32_0:=ah BK161.out 0;have hfz32_1:=ah BK161.out 1;have hfz32_2:=ah BK161.out 2;have hfz32_3:=ah BK161.out 3;have hfz32_4:=ah BK161.out 4) | ((with_reducible refine gP (f:=56) rfl ?_);refine mW (some 9) rfl rfl Tryz.func56 (by kernel_rfl) rfl #[.slice A0_0 l0_0.length c0_0,.slice A1_0 l1_0.length c1_0] rfl (by (try simp only [List.map_toArray,List.map_cons,List.map_nil]);first | done | rfl | (simp only [List.length_drop,List.length_take];rfl)) ?_;(with_reducible refine (aM.calls k _ _ l0_0 _ _ l1_0 false _ ?side1 ?side2 ?side3 ?side4 A3.out).mono ?_);(case side1=>repeat (first | exact (Kd.bU HR0_0.out HB.out) | (with_reducible refine Kd.fT ?_ _) | (with_reducible refine Kd.fU ?_ _) | (with_reducible refine Kd.iC ?_)));(case side2=>exact HC0_0.out);(case side3=>repeat (first | exact (Kd.bU HR1_0.out HB.out) | (with_reducible refine Kd.fT ?_ _) | (with_reducible refine Kd.fU ?_ _) | (with_reducible refine Kd.iC ?_)));(case side4=>exact HC1_0.out);rintro e w' ⟨rfl,⟨nd,rfl⟩⟩;refine ⟨_,rfl,?_⟩))
  go_ret
  exact ⟨by first | rfl | (simp [bq,bA]<;>rfl) | (simp [*,bq,bA]<;>rfl),by repeat (first | (with_reducible first | exact HB.out | apply ai | apply aj | apply ak | refine aD ?_ GE160.out | refine aD ?_ GE161.out) | exact HB.out)⟩
end Go.Proofs.YtmnjjdeaccgjlaaGreat.PStageNil
namespace Go.Proofs.YtmnjjdeaccgjlaaGreat.Tower
open Go Go.RowKit Go.Proofs.YtmnjjdeaccgjlaaGreatW.PrintWords Go.Proofs.YtmnjjdeaccgjlaaGreatW.PrintLast Go.Proofs.YtmnjjdeaccgjlaaGreatW.PrintMore Go.Proofs.YtmnjjdeaccgjlaaGreat.Own Go.Proofs.YtmnjjdeaccgjlaaGreat.PStageNil
theorem GD (w:World):Calls Tryz.prog 25 #[.agg #[.int .i64 0,.bool false,.int .i64 0,.int .i64 0,.slice none 0 0,.bool false],.agg #[.int .i64 0,.bool false,.int .i64 0,.int .i64 0,.slice none 0 0,.bool false]] w fun e w1=>e= .returned (.bool true)∧Below w.heap.size w w1:=
 eO.calls 2 0 false 0 0 none 0 [] false 0 false 0 0 none 0 [] false true w (Kd.gD (Kd.jq iP w (fun _=>True))) (Nat.le_refl _) (Kd.gD (Kd.jq iP w (fun _=>True))) (Nat.le_refl _) rfl
theorem GH (w:World):Calls Tryz.prog 37 #[.agg #[.slice none 0 0,.int .i64 0,.int .i64 0,.bool false,.int .i64 1],.agg #[.slice none 0 0,.int .i64 0,.int .i64 0,.bool false,.int .i64 1]] w fun e w1=>e= .returned (.bool true)∧Below w.heap.size w w1:=
 gY.calls 2 none 0 [] 0 0 false 1 none 0 [] 0 0 false 1 true w (Kd.gD (Kd.jq iP w (fun _=>True))) (Nat.le_refl _) (Kd.gD (Kd.jq iP w (fun _=>True))) (Nat.le_refl _) rfl
theorem om (t most k key upto value:Int) (A:Option Addr) (c:Nat) (keys:List Int) (w:World) (hC:(Kd.int .i64).C w A keys.length keys) (hc:keys.length≤c):
  Calls Tryz.prog 4 #[.int .i64 t,.int .i64 most,.agg #[.int .u8 k,.int .i64 key,.int .i64 upto,.int .i64 value],.slice A keys.length c] w fun e w1=>e= .returned (.bool true)∧Below w.heap.size w w1:=by
 have B1:=Am_ (ai (Below.refl w.heap.size w) (.cells #[.int .u8 k,.int .i64 key,.int .i64 upto,.int .i64 value] 52))
 have K1:=Am_ (Mine.new (ok:=fun _=>False) (w:=w) (fun k hk=>hk.elim) (.cells #[.int .u8 k,.int .i64 key,.int .i64 upto,.int .i64 value] 52))
 have HC:=Am_ hC
 have HCC:=Am_ hc
 clear hC hc
 go_enter Tryz.func4,Tryz.ntmps4
 go_upto_region 1 with fail
 generalize w.alloc (.cells #[.int .u8 k,.int .i64 key,.int .i64 upto,.int .i64 value] 52)=w1 at B1 K1 ⊢
 generalize w.heap.size=b6 at K1 ⊢
 by_cases h30:keys.length≤30
 ·have d1:decide ((keys.length:Int)>30)=false:=decide_eq_false (by omega)
  have d2:decide ((30:Int)<(keys.length:Int))=false:=d1
  have d3:decide (30<keys.length)=false:=decide_eq_false (by omega)
  obtain ⟨ys,hy,_⟩:=AB keys h30
  have HY:=Am_ hy
  clear hy h30
  go_upto_region 6 with (go_at_call 22;refine (yV _).mono ?_;rintro e w2 ⟨rfl,hb⟩;have B2:=Am_ (bf B1.out B1.out.size hb);have K2:=Am_ (K1.out.moves (Moves.bN _ hb));clear hb B1 K1)
  have k0:=(af K2.out.1 0).trans (rfl:_=some (Value.int .u8 k))
  have k1:=(af K2.out.1 1).trans (rfl:_=some (Value.int .i64 key))
  have k2:=(af K2.out.1 2).trans (rfl:_=some (Value.int .i64 upto))
  have k3:=(af K2.out.1 3).trans (rfl:_=some (Value.int .i64 value))
  go_upto_region 7 with (go_at_call 23;refine (qh t _).mono ?_;rintro e w3 ⟨rfl,rfl⟩)
  go_upto_region 8 with (go_at_call 24;refine (JI t k key upto value _).mono ?_;rintro e w4 ⟨rfl,hb⟩;have B3:=Am_ (bf B2.out B2.out.size hb);have K3:=Am_ (K2.out.moves (Moves.bN _ hb));clear k0 k1 k2 k3;have k0:=(af K3.out.1 0).trans (rfl:_=some (Value.int .u8 k));have k1:=(af K3.out.1 1).trans (rfl:_=some (Value.int .i64 key));have k2:=(af K3.out.1 2).trans (rfl:_=some (Value.int .i64 upto));have k3:=(af K3.out.1 3).trans (rfl:_=some (Value.int .i64 value));clear K2;clear hb B2)
  have B4:=Am_ (bf B3.out B3.out.size (ai (Below.refl _ _) (.cells #[.int .i64 0,.bool false,.int .i64 0,.int .i64 0,.slice none 0 0,.bool false] 58)))
  have K4:=Am_ (K3.out.alloc (.cells #[.int .i64 0,.bool false,.int .i64 0,.int .i64 0,.slice none 0 0,.bool false] 58))
  have X4:=Am_ (Mine.new (ok:=fun _=>False) (w:=w4) (fun k hk=>hk.elim) (.cells #[.int .i64 0,.bool false,.int .i64 0,.int .i64 0,.slice none 0 0,.bool false] 58))
  clear B3 K3 k0 k1 k2 k3
  generalize w4.alloc (.cells #[.int .i64 0,.bool false,.int .i64 0,.int .i64 0,.slice none 0 0,.bool false] 58)=w5 at B4 K4 X4 ⊢
  generalize w4.heap.size=b12 at X4 ⊢
  have k0:=(af K4.out.1 0).trans (rfl:_=some (Value.int .u8 k))
  have k1:=(af K4.out.1 1).trans (rfl:_=some (Value.int .i64 key))
  have k2:=(af K4.out.1 2).trans (rfl:_=some (Value.int .i64 upto))
  have k3:=(af K4.out.1 3).trans (rfl:_=some (Value.int .i64 value))
  have x0:=(af X4.out.1 0).trans (rfl:_=some (Value.int .i64 0))
  have x1:=(af X4.out.1 1).trans (rfl:_=some (Value.bool false))
  have x2:=(af X4.out.1 2).trans (rfl:_=some (Value.int .i64 0))
  have x3:=(af X4.out.1 3).trans (rfl:_=some (Value.int .i64 0))
  have x4:=(af X4.out.1 4).trans (rfl:_=some (Value.slice none 0 0))
  have x5:=(af X4.out.1 5).trans (rfl:_=some (Value.bool false))
  clear X4
  go_wp2_with (first
   | (go_at_call 25;refine (GD _).mono ?_;rintro e w6 ⟨rfl,hb⟩;have B6:=Am_ (bf B4.out B4.out.size hb);have K6:=Am_ (K4.out.moves (Moves.bN _ hb));clear k0 k1 k2 k3;have k0:=(af K6.out.1 0).trans (rfl:_=some (Value.int .u8 k));have k1:=(af K6.out.1 1).trans (rfl:_=some (Value.int .i64 key));have k2:=(af K6.out.1 2).trans (rfl:_=some (Value.int .i64 upto));have k3:=(af K6.out.1 3).trans (rfl:_=some (Value.int .i64 value));clear K4;clear hb B4;clear x0 x1 x2 x3 x4 x5)
   | (go_at_call 26;refine (rA t k key upto value _).mono ?_;rintro e w7 ⟨rfl,hb⟩;have B7:=Am_ (bf B6.out B6.out.size hb);have K7:=Am_ (K6.out.moves (Moves.bN _ hb));clear k0 k1 k2 k3;have k0:=(af K7.out.1 0).trans (rfl:_=some (Value.int .u8 k));have k1:=(af K7.out.1 1).trans (rfl:_=some (Value.int .i64 key));have k2:=(af K7.out.1 2).trans (rfl:_=some (Value.int .i64 upto));have k3:=(af K7.out.1 3).trans (rfl:_=some (Value.int .i64 value));clear K6;clear hb B6)
   | (go_at_call 27;refine (Dh t _).mono ?_;rintro e w8 ⟨rfl,rfl⟩)
   | (go_at_call 12;refine (aQ.calls _ A c keys ys _ (Kd.bU HC.out B7.out) HCC.out HY.out).mono ?_;rintro e w9 ⟨v9,rfl,_,hb⟩;have B9:=Am_ (bf B7.out B7.out.size hb);clear hb B7)
   | (go_at_call 28;refine (Dj v9 _).mono ?_;rintro e w10 ⟨rfl,rfl⟩)
   | (go_at_call 29;refine (Gy t most _).mono ?_;rintro e w11 ⟨rfl,rfl⟩)
   | (go_at_call 30;refine (Di _).mono ?_;rintro e w12 ⟨rfl,rfl⟩)
   | (go_at_call 31;refine (wZ _).mono ?_;rintro e w13 ⟨rfl,rfl⟩)
   | (go_at_call 32;refine (Aq _).mono ?_;rintro e w14 ⟨rfl,rfl⟩)
   | (go_at_call 33;refine (AA _).mono ?_;rintro e w15 ⟨rfl,rfl⟩)
   | (go_at_call 34;refine (Dk _).mono ?_;rintro e w16 ⟨rfl,rfl⟩)
   | (go_at_call 35;refine (Az _).mono ?_;rintro e w17 ⟨rfl,rfl⟩)
   | (go_at_call 36;refine (xg _).mono ?_;rintro e w18 ⟨rfl,rfl⟩)
   | (go_at_call 38;refine (Aj _).mono ?_;rintro e w19 ⟨rfl,hb⟩;have B19:=Am_ (bf B9.out B9.out.size hb);clear hb B9)
   | (go_at_call 37;refine (GH _).mono ?_;rintro e w20 ⟨rfl,hb⟩;have B20:=Am_ (bf B19.out B19.out.size hb);clear hb B19))
  go_ret
  exact ⟨rfl,B20.out⟩
 ·have d1:decide ((keys.length:Int)>30)=true:=decide_eq_true (by omega)
  have d2:decide ((30:Int)<(keys.length:Int))=true:=d1
  have d3:decide (30<keys.length)=true:=decide_eq_true (by omega)
  clear h30
  go_wp2_with (go_at_call 22;refine (yV _).mono ?_;rintro e w2 ⟨rfl,hb⟩;have B2:=Am_ (bf B1.out B1.out.size hb);clear hb B1 K1)
  go_ret
  exact ⟨rfl,B2.out⟩
theorem rR (t most:Int) (o:Opn) (A:Option Addr) (c:Nat) (keys:List Int) (w:World) (_:(Lit.int .i64 t).wf=true) (_:(Lit.int .i64 most).wf=true) (hC:(Kd.int .i64).C w A keys.length keys) (hc:keys.length≤c) (_: ∀ n∈keys,(Lit.int .i64 n).wf=true):
  Calls Tryz.prog 4 #[.int .i64 t,.int .i64 most,.agg #[.int .u8 o.kind,.int .i64 o.key,.int .i64 o.upto,.int .i64 o.value],.slice A keys.length c] w fun e w1=>e= .returned (.bool true)∧Below w.heap.size w w1:=
 om t most o.kind o.key o.upto o.value A c keys w hC hc
open Go.ChangeShapes Go.WideShapes Go.Deep Go.Joins
section
variable {H:Type} {enc:TypeId × Value→H} {w:World} {base:Nat} {spare:Nat→Bool} {held:Bool}
theorem BP {P:Program} {t:TypeId} {f0 f1 f2 f3:Field} {fuel:Nat} {cs:List Value} {x:DataW H × List MemPlace} (ht:P.underlying t=some (.struct #[f0,f1,f2,f3])) (h:DataW.trod enc P w base spare held fuel t cs=some x):
  ∃ y0 y1 y2 y3 n,cs.length=P.cellsOf t∧DataW.trod enc P w base spare held n f0.type ((cs.drop f0.offset).take (P.cellsOf f0.type))=some y0∧
   DataW.trod enc P w base spare held n f1.type ((cs.drop f1.offset).take (P.cellsOf f1.type))=some y1∧DataW.trod enc P w base spare held n f2.type ((cs.drop f2.offset).take (P.cellsOf f2.type))=some y2∧
   DataW.trod enc P w base spare held n f3.type ((cs.drop f3.offset).take (P.cellsOf f3.type))=some y3:=by
 obtain ⟨xs,n,_,rfl,hl,hlen,hf⟩:=DataW.trod_struct ht h
 match xs,hlen with
 | [y0,y1,y2,y3],_=>exact ⟨y0,y1,y2,y3,n,hl,by simpa using hf 0 f0 rfl,by simpa using hf 1 f1 rfl,by simpa using hf 2 f2 rfl,by simpa using hf 3 f3 rfl⟩
theorem GI {n:Nat} {cs:List Value} {x:DataW H × List MemPlace} (h:DataW.trod enc Tryz.prog w base spare held n 52 cs=some x):
  ∃ o:Opn,cs= [.int .u8 o.kind,.int .i64 o.key,.int .i64 o.upto,.int .i64 o.value]:=by
 obtain ⟨y0,y1,y2,y3,n,hl,h0,h1,h2,h3⟩:=BP Tryz.underlying52 h
 rw [show Tryz.prog.cellsOf 52=4 by kernel_rfl] at hl
 match cs,hl with
 | [c0,c1,c2,c3],_=>
  rw [show Tryz.prog.cellsOf 50=1 by kernel_rfl] at h0
  rw [show Tryz.prog.cellsOf 2=1 by kernel_rfl] at h1 h2 h3
  obtain ⟨e,e0,_⟩:=DataW.trod_int Tryz.underlying50 h0
  obtain ⟨f,e1,_⟩:=DataW.trod_int Tryz.underlying2 h1
  obtain ⟨k,e2,_⟩:=DataW.trod_int Tryz.underlying2 h2
  obtain ⟨v,e3,_⟩:=DataW.trod_int Tryz.underlying2 h3
  simp at e0 e1 e2 e3
  subst e0 e1 e2 e3
  exact ⟨⟨e,f,k,v⟩,rfl⟩
end
end Go.Proofs.YtmnjjdeaccgjlaaGreat.Tower
namespace Go.Proofs.YtmnjjdeaccgjlaaGreat.stageNil
open Go Go.ChangeShapes Go.WideShapes Go.ChangeAt Go.RowKit Go.Joins Go.Deep
open Go.Proofs.YtmnjjdeaccgjlaaGreatW.PrintWords (Kd dM.EZ Kd.oD)
theorem own:ownKnob Tryz.prog.godebug=none:=by kernel_rfl
theorem laidOut:laidOutB Tryz.prog=true:=by kernel_rfl
def IsRow (k:IntKind) (w:World) (a:Option Addr) (len cap:Nat) (zs:List Int):Prop:=
 (a=none∧len=0∧cap=0∧zs= [])∨
 ∃ x,a=some x∧len≤cap∧cap≤maxLen∧zs.length=cap∧(∀ i,i<zs.length→w.cell? (x.add i)=some (.int k (zs.getD i 0)))∧ ∀ n∈zs,(Lit.int k n).wf=true
theorem lifted (os:Os) (started:os.Started) (H:Type) (enc:TypeId × Value→H):
  ReturnsInHanded {} Tryz.checked os 4 .any (Rows.stageNilSpec.pre6 enc Tryz.prog Tryz.f4 Rows.stageNilRow.domain false) (Rows.stageNilSpec.post enc Tryz.prog Tryz.f4 false true false false):=by
 refine returnsInHanded_of_change_sized (C:=Tryz.checked) own started (by kernel_rfl) Tryz.func4
  (ChangeSpec.witness6 (enc:=enc) (C:=Tryz.checked) false ⟨#[],#[.int .i64 0,.int .i64 0,.agg #[.int .u8 0,.int .i64 0,.int .i64 0,.int .i64 0],.slice none 0 0],[]⟩ 8 (by kernel_rfl) (by kernel_rfl) (by kernel_rfl) (by kernel_rfl)) ?_
 intro W base args ds gs before hval0 hW hcnd hsz0 _
 have hval: ∀ (j:Nat) t v,Tryz.f4.params[j]?=some t→args[j]?=some v→Value.okWide Tryz.prog W .any base t v:=hval0
 have hW':=hW
 obtain ⟨p,q,hA0,hV,rfl,hfz,hnd⟩:=hW
 have hA:DataW.TrodAll enc Tryz.prog W 0 (fun _=>true) true Tryz.f4.params.toList args.toList ds p:=hA0
 rw [Tryz.params4] at hA hval
 obtain ⟨v0,vs0,d0,ds0,p0,q0,hargs,rfl,rfl,h0,r0⟩:=trodAll_cons hA
 obtain ⟨v1,vs1,d1,ds1,p1,q1,rfl,rfl,rfl,h1,r1⟩:=trodAll_cons r0
 obtain ⟨v2,vs2,d2,ds2,p2,q2,rfl,rfl,rfl,h2,r2⟩:=trodAll_cons r1
 obtain ⟨v3,vs3,d3,ds3,p3,q3,rfl,rfl,rfl,h3,r3⟩:=trodAll_cons r2
 obtain ⟨rfl,rfl,rfl⟩:=trodAll_nil r3
 obtain rfl:args= #[v0,v1,v2,v3]:=by cases args;simp_all
 obtain ⟨rfl,rfl⟩:=trodVars_none hV
 obtain ⟨a0,rfl,rfl,rfl,wa0⟩:=open_int Tryz.underlying3 (hval 0 3 v0 rfl rfl) h0
 obtain ⟨a1,rfl,rfl,rfl,wa1⟩:=open_int Tryz.underlying3 (hval 1 3 v1 rfl rfl) h1
 obtain ⟨cs2,rfl,hsz2⟩:=okWide_struct Tryz.underlying52 (hval 2 52 v2 rfl rfl)
 have k2:=h2
 have lt2: ∀ x∈p2,x.block<W.heap.size:=by obtain ⟨m,hm⟩:=k2;exact DataW.trod_lt m _ _ _ hm
 obtain ⟨fuel2,hf2⟩:=h2
 obtain ⟨a2,hcs2⟩:=Tower.GI hf2
 obtain rfl:cs2= #[.int .u8 a2.kind,.int .i64 a2.key,.int .i64 a2.upto,.int .i64 a2.value]:=by
  apply Array.toList_inj.mp
  simpa [Value.cells] using hcs2
 obtain ⟨a3,len3,cap3,rfl⟩:=okWide_slice Tryz.underlying22 (hval 3 22 v3 rfl rfl)
 have k3:=h3
 have lt3: ∀ x∈p3,x.block<W.heap.size:=by obtain ⟨m,hm⟩:=k3;exact DataW.trod_lt m _ _ _ hm
 obtain ⟨z3,w3⟩: ∃ zs,IsRow .i64 W a3 len3 cap3 zs:=by
  obtain ⟨fuel,hf⟩:=h3
  rcases open_ints Tryz.underlying22 Tryz.underlying2 (by kernel_rfl) hf with ⟨hcs,_⟩ | ⟨x,l,c,zs,hcs,_,hl,hm,hz,_,hcell,hwz⟩
  ·simp [Value.cells] at hcs
   obtain ⟨rfl,rfl,rfl⟩:=hcs
   exact ⟨[],.inl ⟨rfl,rfl,rfl,rfl⟩⟩
  ·simp [Value.cells] at hcs
   obtain ⟨rfl,rfl,rfl⟩:=hcs
   exact ⟨zs,.inr ⟨_,rfl,hl,hm,by simpa using hz,hcell,hwz⟩⟩
 obtain ⟨l3,rfl,hr3,hm3,hw3,hc3⟩:=dM.EZ w3
 clear hA0 hval0 hsz0
 refine (Tower.rR a0 a1 a2 a3 cap3 l3 W wa0 wa1 (Kd.oD (d:=(0:Int)) (h1:=fun _=>rfl) hr3) hc3 hw3).mono fun e W' ⟨he,bel⟩=>?_
 subst he
 exact ⟨_,rfl,_,_,_,[],_,[],hW',trodAll_mk1 (shut_bool Tryz.underlying4 _),(trodAll_cons_mk (shut_int Tryz.underlying3 wa0) (trodAll_cons_mk (shut_int Tryz.underlying3 wa1) (trodAll_cons_mk (Below.trod laidOut (by kernel_rfl) (of_decide_eq_true (by kernel_rfl)) k2 bel lt2) (trodAll_cons_mk (Below.trod laidOut (by kernel_rfl) (of_decide_eq_true (by kernel_rfl)) k3 bel lt3) trodAll_mk0)))),rfl,bel.frame _,fun h=>by cases h⟩
theorem over:Rows.stageNilRow.holds Tryz.pinned (OpenSpec.ofChange Rows.stageNilSpec):=
 OpenClaim.holds_of_wide 4 Tryz.f4 rfl rfl rfl rfl rfl rfl rfl ⟨rfl,rfl,rfl,rfl,rfl⟩ rfl rfl rfl rfl rfl (by kernel_rfl) Tryz.func4 (by kernel_rfl)
  (of_decide_eq_true (by kernel_rfl)) (by unfold Func.isWrapper;first | (rw [if_pos (by decide+kernel)];kernel_rfl) | (rw [if_neg (by decide+kernel)];exact ⟨rfl,rfl⟩))
  (fun os started H enc _=>lifted os started H enc)
theorem proved:Rows.StageNilSaid:=over
#print axioms proved
end Go.Proofs.YtmnjjdeaccgjlaaGreat.stageNil
namespace Go.Proofs.YtmnjjdeaccgjlaaGreat
theorem stageNil_holds:Rows.StageNilSaid:=stageNil.proved
end Go.Proofs.YtmnjjdeaccgjlaaGreat
