/- For every input the law StageNew answers true, and the input reads as it did. No conditions. -/
import Derived.Test.YtmnjjdeaccgjlaaGreatProg
import Derived.Test.YtmnjjdeaccgjlaaGreatRows
import Derived.Test.YtmnjjdeaccgjlaaGreatGStageNew0
import Derived.Test.YtmnjjdeaccgjlaaGreatGStageNew1
import Derived.Test.YtmnjjdeaccgjlaaGreatGStageNew2
import Derived.Test.YtmnjjdeaccgjlaaGreatGStageNew3
import Derived.Test.YtmnjjdeaccgjlaaGreatGStageNew4
import Derived.Test.YtmnjjdeaccgjlaaGreatGStageNew5
import Derived.Test.YtmnjjdeaccgjlaaGreatGStageNew6
import Derived.Deep.Slices
import Derived.Deep.SlicePairs
import Derived.Lib.SmallJoins
import Derived.OpenShut
import Derived.Below
import Derived.Deep.Draws
import Derived.Deep.AppendLies
import Derived.Maps.AppendAt
import Derived.OwnWalk
import Derived.Laws.BytesArg
import Derived.Laws.MakeOwn
import Derived.Laws.OwnMore
import Derived.Deep.OwnRows
import Derived.Tactics
import Derived.Lib.ConvBytes
import Derived.Laws.Slices
import Derived.WalkKit
import Derived.KernelRfl
import Derived.RowKit3
import Derived.Deep.LoopGhost
import Derived.Deep.QuietTactic
import Derived.BigQuiet
import Derived.WideLaws
import Derived.Deep.DeepCutAuto
import Derived.Deep.CutBlock
import Derived.Deep.RegionHeld3
import Derived.Laws.Rows
import Derived.Lib.AppendStr
import Derived.ArgAppend
import Derived.Laws.IdiomCopy
import Derived.OrdersHeld
import Derived.Laws.BitsLemmas
import Derived.RowKit
import Derived.ShutString
import Derived.ChangeOld
import Derived.SizedLaws
set_option linter.unusedSimpArgs false
set_option linter.unusedVariables false
set_option maxHeartbeats 8000000
set_option maxRecDepth 100000
namespace Go.Proofs.YtmnjjdeaccgjlaaGreat.Tower
open Go Go.RowKit Go.Proofs.YtmnjjdeaccgjlaaGreatW.PrintWords Go.Proofs.YtmnjjdeaccgjlaaGreatW.PrintLast Go.Proofs.YtmnjjdeaccgjlaaGreatW.PrintMore Go.Proofs.YtmnjjdeaccgjlaaGreat.Own
theorem kP0 {w:World} {B:Option Addr} (h:dw.C w B 0 []) (w1:World):dw.C w1 B 0 []:=⟨rfl,h.2.1,fun hp=>absurd hp (by decide)⟩
theorem uq (p ab:Nat) (b:Int) (B:Option Addr) (d:Nat) (w:World) (hC:dw.C w B 0 []) (hp:w.cell? ⟨p,4,none⟩=some (.int .i64 b)) (hpb:p≠ab) (hb:0≤b) (hab:w.heap[ab]?=some (.cells #[.pointer (some ⟨p,0,none⟩),.slice none 0 0,.int .i64 1,.int .i64 0,.bool true,.int .i64 0,.bool false,.int .i64 0,.int .i64 0] 217 (0,0))):
  Calls Tryz.prog 183 #[.pointer (some ⟨ab,0,none⟩),.slice B 0 d,.int .i64 0,.int .i64 0,.agg #[.bool false,.int .i64 0],.agg #[.bool false,.int .i64 0]] w fun e w1=> ∃ A c,e= .returned (.tuple #[])∧w1.heap[ab]?=some (.cells #[.pointer (some ⟨p,0,none⟩),.slice A 0 c,.int .i64 1,.int .i64 0,.bool true,.int .i64 0,.bool true,.int .i64 0,.int .i64 0] 217 (0,0))∧Moves (fun k=>k=ab) (fun k=>k=ab) w w1:=by
 have hlt:=bD hab
 have B1:=ai (ai (Below.refl w.heap.size w) (.cells #[.bool false,.int .i64 0] 220)) (.cells #[.bool false,.int .i64 0] 220)
 have KA:=Am_ (bF hab B1)
 have M1:=Am_ ((Moves.refl (fun k=>k=ab) w).below B1)
 have c4:=aj B1 hp
 have HC:=Am_ (Kd.bO hC B1)
 have d1:decide ((0:Int)>b)=false:=decide_eq_false (by omega)
 have d2:decide (b<0)=false:=d1
 have HPB:=Am_ hpb
 have y0:=(af KA.out 0).trans (rfl:_=some (Value.pointer (some ⟨p,0,none⟩)))
 clear hC hp hpb hb hab hlt B1
 go_enter Tryz.func183,Tryz.ntmps183
 go_upto_region 1 with fail
 generalize (w.alloc (.cells #[.bool false,.int .i64 0] 220)).alloc (.cells #[.bool false,.int .i64 0] 220)=w1 at KA M1 c4 HC y0 ⊢
 clear y0
 have y0:=(af KA.out 0).trans (rfl:_=some (Value.pointer (some ⟨p,0,none⟩)))
 have y6:=(af KA.out 6).trans (rfl:_=some (Value.bool false))
 have y7:=(af KA.out 7).trans (rfl:_=some (Value.int .i64 0))
 have y8:=(af KA.out 8).trans (rfl:_=some (Value.int .i64 0))
 have z6:=ah KA.out 6
 have z7:=ah KA.out 7
 have z8:=ah KA.out 8
 go_upto_block 0 with fail
 go_wp2_with fail
 go_loopg [12,13,28] 0 (fun g v12 v13 i wr=>i= .int .i64 0∧wr=w1)
 case atStart=>exact ⟨rfl,rfl⟩
 case round=>
  obtain ⟨rfl,rfl⟩:=hrel
  go_upto_region 14 with fail
  have K2:ak ((((wr.setCell ⟨ab,6,none⟩ (.bool true)).setCell ⟨ab,7,none⟩ (.int .i64 0)).setCell ⟨ab,8,none⟩ (.int .i64 0)).heap[ab]?=some (.cells #[.pointer (some ⟨p,0,none⟩),.slice none 0 0,.int .i64 1,.int .i64 0,.bool true,.int .i64 0,.bool true,.int .i64 0,.int .i64 0] 217 (0,0))):=⟨bH (bH (bH KA.out 6 _) 7 _) 8 _⟩
  have M2:=Am_ (((M1.out.set (p:=⟨ab,6,none⟩) (.inl rfl) (.bool true)).set (p:=⟨ab,7,none⟩) (.inl rfl) (.int .i64 0)).set (p:=⟨ab,8,none⟩) (.inl rfl) (.int .i64 0))
  have HC2:=Am_ (kP0 HC.out (((wr.setCell ⟨ab,6,none⟩ (.bool true)).setCell ⟨ab,7,none⟩ (.int .i64 0)).setCell ⟨ab,8,none⟩ (.int .i64 0)))
  clear KA M1 HC y0 y6 y7 y8 z6 z7 z8 c4
  generalize ((wr.setCell ⟨ab,6,none⟩ (.bool true)).setCell ⟨ab,7,none⟩ (.int .i64 0)).setCell ⟨ab,8,none⟩ (.int .i64 0)=w2 at K2 M2 HC2 ⊢
  have y3:=(af K2.out 3).trans (rfl:_=some (Value.int .i64 0))
  have z3:=ah K2.out 3
  go_upto_region 15 with fail
  have K3:ak ((w2.setCell ⟨ab,3,none⟩ (.int .i64 0)).heap[ab]?=some (.cells #[.pointer (some ⟨p,0,none⟩),.slice none 0 0,.int .i64 1,.int .i64 0,.bool true,.int .i64 0,.bool true,.int .i64 0,.int .i64 0] 217 (0,0))):=⟨bH K2.out 3 _⟩
  have M3:=Am_ (M2.out.set (p:=⟨ab,3,none⟩) (.inl rfl) (.int .i64 0))
  have HC3:=Am_ (kP0 HC2.out (w2.setCell ⟨ab,3,none⟩ (.int .i64 0)))
  clear K2 M2 HC2 y3 z3
  generalize w2.setCell ⟨ab,3,none⟩ (.int .i64 0)=w3 at K3 M3 HC3 ⊢
  have y1:=(af K3.out 1).trans (rfl:_=some (Value.slice none 0 0))
  go_wp2_with (go_at_call 223;refine (um B d [] _ HC3.out (by decide)).mono ?_;rintro e w4 ⟨v,rfl,hv,hb⟩;obtain ⟨A4,c4,rfl⟩:=Kd.aJ hv;have K4:=Am_ (bF K3.out hb);have M4:=Am_ (M3.out.below hb);have z1:=ah K4.out 1;have y1:=(af K4.out 1).trans (rfl:_=some (Value.slice none 0 0));clear hv hb K3 M3 HC3)
  go_end0
  exact ⟨A4,c4,rfl,bH K4.out 1 _,M4.out.set (p:=⟨ab,1,none⟩) (.inl rfl) _⟩
def Kv:Bool × List (List Nat × List Nat):=(true,[([],[]),([0],[0]),([1],[1]),([2],[2]),([3],[3]),([4],[4]),([5],[5]),([],[]),([],[]),([8],[8]),([6,7,9],[6,7,9])])
def LX:List Nat:= [0,1,3,7,15,31,63,0,0,256,1023]
theorem Jg:fq .any (opsOf Tryz.f134 5)=Kv:=by kernel_rfl
theorem Dm:bA Kv.2 LX=true:=by kernel_rfl
theorem xQ (a:Int) (Ap Ak Ay:Option Addr) (cp ck cy:Nat) (w:World):Calls Tryz.prog 178 #[.int .i64 a,.agg #[.bool false,.bool false,.slice Ap 0 cp,.slice Ak 0 ck,.slice Ay 0 cy],.bool true] w fun e w1=>e= .returned (.int .u8 0)∧Below w.heap.size w w1:=by
 have h:=Bq a nd0 true Ap Ak Ay cp ck cy w (by decide) (by decide)
 rw [show ou a nd0 true=0 from rfl] at h
 exact h
theorem IJ {N:Nat} {v:Value} {w:World} (h:CX N nd0 v w): ∃ Ap cp Ak ck Ay cy,v= .agg #[.bool false,.bool false,.slice Ap 0 cp,.slice Ak 0 ck,.slice Ay 0 cy]∧dw.C w Ap 0 []:=by
 obtain ⟨vp,vk,vy,rfl,hp,hk,hy⟩:=h.out
 obtain ⟨Ap,cp,rfl⟩:=Kd.aJ hp
 obtain ⟨Ak,ck,rfl⟩:=Kd.aJ hk
 obtain ⟨Ay,cy,rfl⟩:=Kd.aJ hy
 exact ⟨Ap,cp,Ak,ck,Ay,cy,rfl,(Kd.bM hp).2.2⟩
theorem dG.zA {okW okA okR okE:Nat→Prop} {p pA pR pE:Nat} {x:Ws} {w w1:World} (h:dG okW okA okR okE p pA pR pE x w) (ha:dn okA pA x.ar w1) (hm:Moves okA okA w w1):dG okW okA okR okE p pA pR pE x w1∧Moves okW okW w w1:=by
 obtain ⟨h1,h2⟩:=h.cK ha hm
 exact ⟨⟨h.ok,h1.nA,h1.nR,h1.nE,h1.AR,h1.AE,h1.RE,h1.box,h1.ar,h1.tb,h1.ep⟩,nQ h2 (fun _=>Iff.rfl) (fun k=>(h.ok k).symm)⟩
theorem kH {okW:Nat→Prop} {ab:Nat} {w w1:World} (h:Moves okW okW w w1):Moves (fun k=>okW k∨k=ab) (fun k=>okW k∨k=ab) w w1:=⟨h.os,h.tape,h.output,h.size,fun k hk hn=>h.block k hk (fun h1=>hn (.inl h1)),fun k hk=> .inl hk⟩
theorem zG {okW:Nat→Prop} {ab:Nat} {w w1:World} {o:Obj} (h:Moves okW okW w w1) (hn: ¬ okW ab) (hb:w.heap[ab]?=some o):w1.heap[ab]?=some o:=(h.block ab (bD hb) hn).trans hb
theorem Dj {okW:Nat→Prop} {ab:Nat} {w w1:World} (h:Moves (fun k=>k=ab) (fun k=>k=ab) w w1):Moves (fun k=>okW k∨k=ab) (fun k=>okW k∨k=ab) w w1:=⟨h.os,h.tape,h.output,h.size,fun k hk hn=>h.block k hk (fun h1=>hn (.inr h1)),fun k hk=> .inl hk⟩
abbrev pO (okW:Nat→Prop) (ab:Nat):Nat→Prop:=fun k=>okW k∨k=ab
theorem uH (p ab:Nat) (x:Ws) (r:Int) (okW okA okR okE:Nat→Prop) (pA pR pE:Nat) (w:World) (hW:dG okW okA okR okE p pA pR pE x w) (hg:x.ar.Fits) (hl:x.ar.look r=(nd0,x.ar)) (hn: ¬ okW ab) (hb0:0≤x.b) (hab:w.heap[ab]?=some (.cells #[.pointer (some ⟨p,0,none⟩),.slice none 0 0,.int .i64 0,.int .i64 0,.bool true,.int .i64 0,.bool false,.int .i64 0,.int .i64 0] 217 (0,0))):
  Calls Tryz.prog 134 #[.pointer (some ⟨ab,0,none⟩),.int .i64 r,.int .i64 0,.int .i64 0,.agg #[.bool false,.int .i64 0],.agg #[.bool false,.int .i64 0]] w fun e w1=> ∃ A c,e= .returned (.tuple #[])∧w1.heap[ab]?=some (.cells #[.pointer (some ⟨p,0,none⟩),.slice A 0 c,.int .i64 1,.int .i64 0,.bool true,.int .i64 0,.bool true,.int .i64 0,.int .i64 0] 217 (0,0))∧dG okW okA okR okE p pA pR pE x w1∧Moves (pO okW ab) (pO okW ab) w w1:=by
 have B1:=ai (ai (Below.refl w.heap.size w) (.cells #[.bool false,.int .i64 0] 220)) (.cells #[.bool false,.int .i64 0] 220)
 have X1:=Am_ (Mine.new (ok:=pO okW ab) (w:=w) (fun k hk=>hk.elim (hW.lt k) (fun h=>by rw [h];exact bD hab)) (.cells #[.bool false,.int .i64 0] 220))
 have X1:=Am_ (X1.out.alloc (.cells #[.bool false,.int .i64 0] 220))
 have X2:=Am_ (Mine.new (ok:=pO okW ab) (w:=w.alloc (.cells #[.bool false,.int .i64 0] 220)) (fun k hk=>hk.elim (fun h=>Nat.lt_of_lt_of_le (hW.lt k h) (by simp)) (fun h=>by rw [h];exact Nat.lt_of_lt_of_le (bD hab) (by simp))) (.cells #[.bool false,.int .i64 0] 220))
 have W1:=Am_ (hW.step B1.size (fun k _ hlt=>B1.block k hlt))
 have K1:=Am_ (bF hab B1)
 have M1:=Am_ ((Moves.refl (pO okW ab) w).below B1)
 have HG:=Am_ (And.intro hg (And.intro hl (And.intro hn hb0)))
 have HPA:ak (p≠ab):=⟨fun e=>hn (e▸(hW.ok p).2 (.inl rfl))⟩
 simp only [World.size_alloc] at X2
 clear hW hg hl hn hb0 hab B1
 go_enter Tryz.func134,Tryz.ntmps134
 go_upto_region 1 with fail
 generalize (w.alloc (.cells #[.bool false,.int .i64 0] 220)).alloc (.cells #[.bool false,.int .i64 0] 220)=w1 at X1 X2 W1 K1 M1 ⊢
 generalize w.heap.size+1=b11 at X2 ⊢
 generalize w.heap.size=b10 at X1 ⊢
 have y0:=(af K1.out 0).trans (rfl:_=some (Value.pointer (some ⟨p,0,none⟩)))
 have y2:=(af K1.out 2).trans (rfl:_=some (Value.int .i64 0))
 have x0:=(af W1.out.box 0).trans (rfl:_=some (Value.pointer (some ⟨pA,0,none⟩)))
 go_upto_region 4 with (go_at_call 126;refine (lG r _ W1.out.ar HG.out.1).mono ?_;rintro e w2 hE;obtain ⟨v,rfl,hv⟩:=hE.val;have hA:=hE.ar;have hM:=hE.moves;rw [HG.out.2.1] at hv hA;obtain ⟨h1,h2⟩:=W1.out.zA hA hM;obtain ⟨Ap,cp,Ak,ck,Ay,cy,rfl,hp⟩:=IJ hv;have W2:=Am_ h1;have M2:=Am_ (M1.out.trans (kH h2));have K2:=Am_ (zG h2 HG.out.2.2.1 K1.out);have P2:=Am_ hp;have X1:=Am_ (X1.out.moves (kH h2));have X2:=Am_ (X2.out.moves (kH h2));clear hE hv hA hM h1 h2 hp W1 K1 M1 y0 y2 x0)
 have W3:=Am_ (W2.out.step (w1:=w2.alloc (.cells #[.bool false,.bool false,.slice Ap 0 cp,.slice Ak 0 ck,.slice Ay 0 cy] 157)) (by simp) (fun k _ hlt=>(ai (Below.refl _ _) (.cells #[.bool false,.bool false,.slice Ap 0 cp,.slice Ak 0 ck,.slice Ay 0 cy] 157)).block k hlt))
 have K3:=Am_ (aC K2.out (.cells #[.bool false,.bool false,.slice Ap 0 cp,.slice Ak 0 ck,.slice Ay 0 cy] 157))
 have M3:=Am_ (M2.out.alloc (.cells #[.bool false,.bool false,.slice Ap 0 cp,.slice Ak 0 ck,.slice Ay 0 cy] 157))
 have N3:=Am_ (bU w2 (.cells #[.bool false,.bool false,.slice Ap 0 cp,.slice Ak 0 ck,.slice Ay 0 cy] 157))
 have P3:=Am_ (kP0 P2.out (w2.alloc (.cells #[.bool false,.bool false,.slice Ap 0 cp,.slice Ak 0 ck,.slice Ay 0 cy] 157)))
 have X1:=Am_ (X1.out.alloc (.cells #[.bool false,.bool false,.slice Ap 0 cp,.slice Ak 0 ck,.slice Ay 0 cy] 157))
 have X2:=Am_ (X2.out.alloc (.cells #[.bool false,.bool false,.slice Ap 0 cp,.slice Ak 0 ck,.slice Ay 0 cy] 157))
 have HNE:ak (w2.heap.size≠ab):=⟨fun e=>by have:=bD K2.out;omega⟩
 clear W2 K2 M2 P2
 generalize w2.alloc (.cells #[.bool false,.bool false,.slice Ap 0 cp,.slice Ak 0 ck,.slice Ay 0 cy] 157)=w3 at W3 K3 M3 N3 P3 X1 X2 ⊢
 generalize w2.heap.size=b12 at N3 HNE ⊢
 have y0:=(af K3.out 0).trans (rfl:_=some (Value.pointer (some ⟨p,0,none⟩)))
 have y2:=(af K3.out 2).trans (rfl:_=some (Value.int .i64 0))
 have z2:=ah K3.out 2
 go_upto_region 5 with fail
 have W5:=Am_ (W3.out.step (w1:=w3.setCell ⟨ab,2,none⟩ (.int .i64 1)) (by simp [World.setCell]) (fun k hk _=>Below.heap_setCell w3 ⟨ab,2,none⟩ _ k (fun e=>HG.out.2.2.1 ((show k=ab from e)▸hk))))
 have K5:ak ((w3.setCell ⟨ab,2,none⟩ (.int .i64 1)).heap[ab]?=some (.cells #[.pointer (some ⟨p,0,none⟩),.slice none 0 0,.int .i64 1,.int .i64 0,.bool true,.int .i64 0,.bool false,.int .i64 0,.int .i64 0] 217 (0,0))):=⟨bH K3.out 2 _⟩
 have M5:=Am_ (M3.out.set (p:=⟨ab,2,none⟩) (.inl (.inr rfl)) (.int .i64 1))
 have N5:=Am_ ((Below.heap_setCell w3 ⟨ab,2,none⟩ (.int .i64 1) b12 HNE.out).trans N3.out)
 have P5:=Am_ (kP0 P3.out (w3.setCell ⟨ab,2,none⟩ (.int .i64 1)))
 have X1:=Am_ (X1.out.far (p:=⟨ab,2,none⟩) (fun e=>X1.out.2 (.inr e.symm)) (.int .i64 1))
 have X2:=Am_ (X2.out.far (p:=⟨ab,2,none⟩) (fun e=>X2.out.2 (.inr e.symm)) (.int .i64 1))
 clear W3 K3 M3 N3 P3 y0 y2 z2
 generalize w3.setCell ⟨ab,2,none⟩ (.int .i64 1)=w5 at W5 K5 M5 N5 P5 X1 X2 ⊢
 have HC:=Am_ (show _∧_∧_∧_∧_∧_∧_ from ⟨aj (aM (Below.refl w5.heap.size w5)) ((af K5.out 0).trans rfl),aj (aM (Below.refl w5.heap.size w5)) ((af W5.out.box 3).trans rfl),aj (aM (Below.refl w5.heap.size w5)) ((af N5.out 0).trans rfl),aj (aM (Below.refl w5.heap.size w5)) ((af N5.out 1).trans rfl),aj (aM (Below.refl w5.heap.size w5)) ((af N5.out 2).trans rfl),aj (aM (Below.refl w5.heap.size w5)) ((af N5.out 3).trans rfl),aj (aM (Below.refl w5.heap.size w5)) ((af N5.out 4).trans rfl)⟩)
 have X1:=Am_ (X1.out.moves (Moves.drew (Moves.refl _ _)))
 have X2:=Am_ (X2.out.moves (Moves.drew (Moves.refl _ _)))
 refine bG (n:=11) (S:=fun w'=>w'.cell? ⟨ab,0,none⟩=some (.pointer (some ⟨p,0,none⟩))∧w'.cell? ⟨p,3,none⟩=some (.int .i64 x.a)∧w'.cell? ⟨b12,0,none⟩=some (.bool false)∧w'.cell? ⟨b12,1,none⟩=some (.bool false)∧w'.cell? ⟨b12,2,none⟩=some (.slice Ap 0 cp)∧w'.cell? ⟨b12,3,none⟩=some (.slice Ak 0 ck)∧w'.cell? ⟨b12,4,none⟩=some (.slice Ay 0 cy)) (ds:= [10]) (by kernel_rfl) rfl Jg Dm HC.out (fun hHeld HT_ HW_=>?_)
 have W6:=Am_ (W5.out.step (w1:=w5.drew) (Nat.le_refl _) (fun _ _ _=>rfl))
 have K6:ak (w5.drew.heap[ab]?=_):=⟨K5.out⟩
 have N6:ak (w5.drew.heap[b12]?=_):=⟨N5.out⟩
 have M6:=Am_ M5.out.drew
 clear HC W5 K5 N5 M5
 generalize w5.drew=w6 at W6 K6 N6 M6 X1 X2 hHeld ⊢
 refine eO [(0,some 44),(1,some 45),(2,some 46),(3,some 47),(4,some 48),(5,some 49),(6,some 50),(7,some 51),(8,some 52),(9,some 53)] ?_
 iterate 3 (refine dZ (v:=?_) (a':=?_) HT_ (by kernel_rfl) rfl rfl (fun _ _ _ h=>h) (Or.inl ⟨by rfl,?_⟩) ?_ ?_;rotate_left;(intro w';go_simp;with_reducible rfl);rotate_left;(simp only [Act.put,p1_,p2_,p3_,ax,ay];rfl))
 iterate 7 (refine iW (v:=?_) (a':=?_) HT_ HW_ (by kernel_rfl) rfl rfl (fun _ _ _ h=>h) hHeld (Or.inl ⟨by rfl,?_⟩) ?_ ?_;rotate_left;(rintro w' ⟨s0,s1,s2,s3,s4,s5,s6⟩;go_simp;with_reducible rfl);rotate_left;(simp only [Act.put,p1_,p2_,p3_,ax,ay];rfl))
 refine aZ ?_
 refine bP (i:=10) (some 54) HT_ (by kernel_rfl) rfl rfl (by decide) (fun K_ hK=>?_)
 refine call_ 178 #[.int .i64 x.a,.agg #[.bool false,.bool false,.slice Ap 0 cp,.slice Ak 0 ck,.slice Ay 0 cy],.bool true] (by rfl) rfl ?hrun10 ?_
 (case hrun10=>first | (go_simp;done) | (go_simp;exact enters Tryz.func178 (by kernel_rfl) rfl _ _))
 refine (xQ x.a Ap Ak Ay cp ck cy _).mono ?_
 rintro e w7 ⟨rfl,hb⟩
 have W7:=Am_ (W6.out.step hb.size (fun k _ hlt=>hb.block k hlt))
 have K7:=Am_ (bF K6.out hb)
 have N7:=Am_ (bF N6.out hb)
 have M7:=Am_ (M6.out.below hb)
 have Y1:=Am_ (X1.out.moves (Moves.bE _ hb))
 have Y2:=Am_ (X2.out.moves (Moves.bE _ hb))
 clear hb W6 K6 N6 M6
 refine ⟨_,rfl,?_⟩
 refine hK.out _ _ ?_
 clear hK K_
 refine bK (a':=?_) ?_ ?_
 rotate_left; · show Act.put _ (some 54) _=_;simp only [Act.put,p1_,p2_,p3_,ax,ay];rfl
 refine dD (bI HT_.out (by kernel_rfl)) ?_
 clear X1 X2
 have P7:=Am_ (kP0 P5.out w7)
 have y0:=(af N7.out 0).trans (rfl:_=some (Value.bool false))
 have y2:=(af N7.out 2).trans (rfl:_=some (Value.slice Ap 0 cp))
 have q0:=(af Y1.out.1 0).trans (rfl:_=some (Value.bool false))
 have q1:=(af Y1.out.1 1).trans (rfl:_=some (Value.int .i64 0))
 have r0:=(af Y2.out.1 0).trans (rfl:_=some (Value.bool false))
 have r1:=(af Y2.out.1 1).trans (rfl:_=some (Value.int .i64 0))
 have c4:=(af W7.out.box 4).trans (rfl:_=some (Value.int .i64 x.b))
 go_wp2_with (go_at_call 183;refine (uq p ab x.b Ap cp _ P7.out c4 HPA.out HG.out.2.2.2 K7.out).mono ?_;rintro e w8 ⟨A8,c8,rfl,hk,hm⟩;have K8:=Am_ hk;have M8:=Am_ (M7.out.trans (Dj hm));have W8:=Am_ (W7.out.step hm.size (fun k hk hlt=>hm.block k hlt (fun e=>HG.out.2.2.1 (e▸hk))));clear hk hm K7 M7 W7 y0 y2 q0 q1 r0 r1 c4)
 (try simp only [Exit.inBlock,Exit.then])
 refine bodyPost_ret (results_none rfl _ _ _) rfl ?_
 exact ⟨A8,c8,rfl,K8.out,W8.out,M8.out⟩
def FD:Bool × List (List Nat × List Nat):=(true,[([],[]),([],[]),([1],[1]),([2],[2]),([3],[3]),([],[]),([5],[5]),([6],[6]),([7],[7]),([4,8],[4,8]),([],[]),([],[]),([0,9,10,11,9],[0,9,10,11])])
def JJ:List Nat:= [0,0,2,6,14,0,32,96,224,510,0,0,4095]
theorem EG:fq .any (opsOf Tryz.f82 4)=FD:=by kernel_rfl
theorem zI:bA FD.2 JJ=true:=by kernel_rfl
theorem Dl {okW:Nat→Prop} {ab:Nat} {w w1 w2:World} (h:Moves okW okW w w1) (k:Moves (pO okW ab) (pO okW ab) w1 w2) (hn:w.heap.size≤ab):Moves okW okW w w2:=
 ⟨k.os.trans h.os,k.tape.trans h.tape,k.output.trans h.output,Nat.le_trans h.size k.size,fun q hq hn1=>(k.block q (Nat.lt_of_lt_of_le hq h.size) (fun h1=>h1.elim hn1 (fun e=>by omega))).trans (h.block q hq hn1),fun q hq=> .inl hq⟩
theorem sN (p:Nat) (x:Ws) (r:Int) (okW okA okR okE:Nat→Prop) (pA pR pE:Nat) (w:World) (hW:dG okW okA okR okE p pA pR pE x w) (hg:x.ar.Fits) (hy:x.ar.way x.entry 0=(r,x.ar)) (hl:x.ar.look r=(nd0,x.ar)) (hb0:0≤x.b):
  Calls Tryz.prog 82 #[.pointer (some ⟨p,0,none⟩)] w fun e w1=> ∃ A c,e= .returned (.agg #[.slice A 0 c,.int .i64 1,.int .i64 0,.bool true,.int .i64 0])∧dG okW okA okR okE p pA pR pE x w1∧Moves okW okW w w1:=by
 have B1:=ai (Below.refl w.heap.size w) (.cells #[.slice none 0 0,.int .i64 0,.int .i64 0,.bool false,.int .i64 0] 71)
 have X1:=Am_ (Mine.new (ok:=okW) (w:=w) hW.lt (.cells #[.slice none 0 0,.int .i64 0,.int .i64 0,.bool false,.int .i64 0] 71))
 have W1:=Am_ (hW.step B1.size (fun k _ hlt=>B1.block k hlt))
 have M1:=Am_ ((Moves.refl okW w).below B1)
 have HG:=Am_ (And.intro hg (And.intro hy (And.intro hl hb0)))
 clear hW hg hy hl hb0 B1
 go_enter Tryz.func82,Tryz.ntmps82
 go_upto_region 1 with fail
 generalize w.alloc (.cells #[.slice none 0 0,.int .i64 0,.int .i64 0,.bool false,.int .i64 0] 71)=w1 at X1 W1 M1 ⊢
 generalize hb2:w.heap.size=b2 at X1 ⊢
 have HB2:=Am_ hb2
 clear hb2
 have x0:=(af W1.out.box 0).trans (rfl:_=some (Value.pointer (some ⟨pA,0,none⟩)))
 go_upto_region 4 with fail
 have hX2:Mine (pO okW w1.heap.size) (w1.alloc (.cells #[.pointer (some ⟨p,0,none⟩),.slice none 0 0,.int .i64 0,.int .i64 0,.bool true,.int .i64 0,.bool false,.int .i64 0,.int .i64 0] 217)) b2 (.cells #[.slice none 0 0,.int .i64 0,.int .i64 0,.bool false,.int .i64 0] 71 (0,0)):=⟨aC X1.out.1 _,fun h=>h.elim X1.out.2 (fun e=>by have:=X1.out.lt;omega)⟩
 have X2:=Am_ hX2
 have W2:=Am_ (W1.out.step (w1:=w1.alloc (.cells #[.pointer (some ⟨p,0,none⟩),.slice none 0 0,.int .i64 0,.int .i64 0,.bool true,.int .i64 0,.bool false,.int .i64 0,.int .i64 0] 217)) (by simp) (fun k _ hlt=>(ai (Below.refl _ _) _).block k hlt))
 have M2:=Am_ (M1.out.alloc (.cells #[.pointer (some ⟨p,0,none⟩),.slice none 0 0,.int .i64 0,.int .i64 0,.bool true,.int .i64 0,.bool false,.int .i64 0,.int .i64 0] 217))
 have K2:=Am_ (bU w1 (.cells #[.pointer (some ⟨p,0,none⟩),.slice none 0 0,.int .i64 0,.int .i64 0,.bool true,.int .i64 0,.bool false,.int .i64 0,.int .i64 0] 217))
 have HNA:ak (¬ okW w1.heap.size):=⟨fun h=>by have:=W1.out.lt _ h;omega⟩
 have HNW:ak (w.heap.size≤w1.heap.size):=⟨M1.out.size⟩
 have HN2:ak (w1.heap.size≠b2):=⟨fun e=>by have:=X1.out.lt;omega⟩
 clear X1 W1 M1 x0 hX2
 generalize w1.alloc (.cells #[.pointer (some ⟨p,0,none⟩),.slice none 0 0,.int .i64 0,.int .i64 0,.bool true,.int .i64 0,.bool false,.int .i64 0,.int .i64 0] 217)=w2 at X2 W2 M2 K2 ⊢
 generalize w1.heap.size=ab at X2 K2 HNA HNW HN2 ⊢
 have HC:=Am_ (show _∧_ from ⟨aj (aM (Below.refl w2.heap.size w2)) ((af W2.out.box 0).trans rfl),aj (aM (Below.refl w2.heap.size w2)) ((af W2.out.box 5).trans rfl)⟩)
 refine bG (n:=13) (S:=fun w'=>w'.cell? ⟨p,0,none⟩=some (.pointer (some ⟨pA,0,none⟩))∧w'.cell? ⟨p,5,none⟩=some (.int .i64 x.entry)) (ds:= [12]) (by kernel_rfl) rfl EG zI HC.out (fun hHeld HT_ HW_=>?_)
 have W3:=Am_ (W2.out.step (w1:=w2.drew) (Nat.le_refl _) (fun _ _ _=>rfl))
 have K3:ak (w2.drew.heap[ab]?=_):=⟨K2.out⟩
 have X3:=Am_ (X2.out.moves (Moves.drew (Moves.refl _ _)))
 have M3:=Am_ M2.out.drew
 clear HC W2 K2 X2 M2
 generalize w2.drew=w3 at W3 K3 X3 M3 hHeld ⊢
 refine eO [(0,some 18),(1,some 19),(2,some 20),(3,some 21),(4,some 22),(5,some 23),(6,some 24),(7,some 25),(8,some 26),(10,some 28),(11,some 29)] ?_
 iterate 4 (refine dZ (v:=?_) (a':=?_) HT_ (by kernel_rfl) rfl rfl (fun _ _ _ h=>h) (Or.inl ⟨by rfl,?_⟩) ?_ ?_;rotate_left;(intro w';go_simp;with_reducible rfl);rotate_left;(simp only [Act.put,p1_,p2_,p3_,ax,ay];rfl))
 iterate 7 (refine iW (v:=?_) (a':=?_) HT_ HW_ (by kernel_rfl) rfl rfl (fun _ _ _ h=>h) hHeld (Or.inl ⟨by rfl,?_⟩) ?_ ?_;rotate_left;(rintro w' ⟨s0,s1⟩;go_simp;with_reducible rfl);rotate_left;(simp only [Act.put,p1_,p2_,p3_,ax,ay];rfl))
 refine aZ ?_
 refine dR (i:=9) (some 27) HT_ (by kernel_rfl) rfl rfl (by decide) (fun K_ hK=>?_)
 refine call_ 74 #[.pointer (some ⟨pA,0,none⟩),.int .i64 x.entry,.int .i64 0] (by rfl) rfl ?hrun9 ?_
 (case hrun9=>first | (go_simp;done) | (go_simp;exact enters Tryz.func74 (by kernel_rfl) rfl _ _))
 refine (oo x.entry 0 _ W3.out.ar HG.out.1.slots).mono ?_
 rintro e w4 hE
 have hv:=hE.val
 have hA:=hE.ar
 have hM:=hE.moves
 rw [HG.out.2.1] at hv hA
 subst hv
 obtain ⟨h1,h2⟩:=W3.out.zA hA hM
 have W4:=Am_ h1
 have M4:=Am_ (M3.out.trans h2)
 have K4:=Am_ (zG h2 HNA.out K3.out)
 have X4:=Am_ (X3.out.moves (kH (ab:=ab) h2))
 clear hE hA hM h1 h2 W3 M3 K3 X3
 refine ⟨_,rfl,?_⟩
 refine hK.out _ _ ⟨(af W4.out.box 0).trans rfl,(af W4.out.box 5).trans rfl⟩ (fun hHeld=>?_)
 clear hK K_
 refine bK (a':=?_) ?_ ?_
 rotate_left; · show Act.put _ (some 27) _=_;simp only [Act.put,p1_,p2_,p3_,ax,ay];rfl
 refine bP (i:=12) (some 30) HT_ (by kernel_rfl) rfl rfl (by decide) (fun K_ hK=>?_)
 refine call_ 134 #[.pointer (some ⟨ab,0,none⟩),.int .i64 r,.int .i64 0,.int .i64 0,.agg #[.bool false,.int .i64 0],.agg #[.bool false,.int .i64 0]] (by rfl) rfl ?hrun12 ?_
 (case hrun12=>first | (go_simp;done) | (go_simp;exact enters Tryz.func134 (by kernel_rfl) rfl _ _))
 refine (uH p ab x r okW okA okR okE pA pR pE _ W4.out HG.out.1 HG.out.2.2.1 HNA.out HG.out.2.2.2 K4.out).mono ?_
 rintro e w5 ⟨A5,c5,rfl,hk,hw,hm⟩
 have K5:=Am_ hk
 have W5:=Am_ hw
 have X5:=Am_ (X4.out.moves hm)
 have M5:ak (Moves okW okW w w5):=⟨Dl M4.out hm HNW.out⟩
 clear hk hw hm K4 W4 M4 X4
 refine ⟨_,rfl,?_⟩
 refine hK.out _ _ ?_
 clear hK K_
 refine bK (a':=?_) ?_ ?_
 rotate_left; · show Act.put _ (some 30) _=_;simp only [Act.put,p1_,p2_,p3_,ax,ay];rfl
 refine dD (bI HT_.out (by kernel_rfl)) ?_
 have y1:=(af K5.out 1).trans (rfl:_=some (Value.slice A5 0 c5))
 have y2:=(af K5.out 2).trans (rfl:_=some (Value.int .i64 1))
 have y3:=(af K5.out 3).trans (rfl:_=some (Value.int .i64 0))
 have y4:=(af K5.out 4).trans (rfl:_=some (Value.bool true))
 have y5:=(af K5.out 5).trans (rfl:_=some (Value.int .i64 0))
 have x0:=(af X5.out.1 0).trans (rfl:_=some (Value.slice none 0 0))
 have z0:=ah X5.out.1 0
 have x1:=(af X5.out.1 1).trans (rfl:_=some (Value.int .i64 0))
 have z1:=ah X5.out.1 1
 have x2:=(af X5.out.1 2).trans (rfl:_=some (Value.int .i64 0))
 have z2:=ah X5.out.1 2
 have x3:=(af X5.out.1 3).trans (rfl:_=some (Value.bool false))
 have z3:=ah X5.out.1 3
 have x4:=(af X5.out.1 4).trans (rfl:_=some (Value.int .i64 0))
 have z4:=ah X5.out.1 4
 go_wp2_with fail
 have K6:ak (Mine (pO okW ab) (((((w5.setCell ⟨b2,0,none⟩ (.slice A5 0 c5)).setCell ⟨b2,1,none⟩ (.int .i64 1)).setCell ⟨b2,2,none⟩ (.int .i64 0)).setCell ⟨b2,3,none⟩ (.bool true)).setCell ⟨b2,4,none⟩ (.int .i64 0)) b2 (.cells #[.slice A5 0 c5,.int .i64 1,.int .i64 0,.bool true,.int .i64 0] 71 (0,0))):=⟨Mine.set (Mine.set (Mine.set (Mine.set (Mine.set X5.out 0 _) 1 _) 2 _) 3 _) 4 _⟩
 have W6:ak (dG okW okA okR okE p pA pR pE x (((((w5.setCell ⟨b2,0,none⟩ (.slice A5 0 c5)).setCell ⟨b2,1,none⟩ (.int .i64 1)).setCell ⟨b2,2,none⟩ (.int .i64 0)).setCell ⟨b2,3,none⟩ (.bool true)).setCell ⟨b2,4,none⟩ (.int .i64 0))):=⟨W5.out.step (by simp [World.setCell]) (fun k hk _=>aW ([.slice A5 0 c5,.int .i64 1,.int .i64 0,.bool true,.int .i64 0]:List Value) 0 k (fun e=>X5.out.2 (.inl (e▸hk))))⟩
 have M6:ak (Moves okW okW w (((((w5.setCell ⟨b2,0,none⟩ (.slice A5 0 c5)).setCell ⟨b2,1,none⟩ (.int .i64 1)).setCell ⟨b2,2,none⟩ (.int .i64 0)).setCell ⟨b2,3,none⟩ (.bool true)).setCell ⟨b2,4,none⟩ (.int .i64 0))):=⟨((((M5.out.set (p:=⟨b2,0,none⟩) (.inr (Nat.le_of_eq HB2.out)) _).set (p:=⟨b2,1,none⟩) (.inr (Nat.le_of_eq HB2.out)) _).set (p:=⟨b2,2,none⟩) (.inr (Nat.le_of_eq HB2.out)) _).set (p:=⟨b2,3,none⟩) (.inr (Nat.le_of_eq HB2.out)) _).set (p:=⟨b2,4,none⟩) (.inr (Nat.le_of_eq HB2.out)) _⟩
 clear K5 W5 X5 M5 x0 x1 x2 x3 x4 z0 z1 z2 z3 z4 y1 y2 y3 y4 y5
 generalize ((((w5.setCell ⟨b2,0,none⟩ (.slice A5 0 c5)).setCell ⟨b2,1,none⟩ (.int .i64 1)).setCell ⟨b2,2,none⟩ (.int .i64 0)).setCell ⟨b2,3,none⟩ (.bool true)).setCell ⟨b2,4,none⟩ (.int .i64 0)=w6 at K6 W6 M6 ⊢
 (try simp only [Exit.inBlock,Exit.then])
 refine bodyPost_ret (results_cell_row rfl _ _ b2 71 _ (0,0) _ rfl K6.out.1 Tryz.underlying71 rfl (by kernel_rfl)) rfl ?_
 exact ⟨A5,c5,rfl,W6.out,M6.out⟩
theorem wo {okB okW:Nat→Prop} {w w1:World} (h:Moves okW okW w w1):Moves (fun k=>okB k∨okW k) (fun k=>okB k∨okW k) w w1:=⟨h.os,h.tape,h.output,h.size,fun k hk hn=>h.block k hk (fun h1=>hn (.inr h1)),fun k hk=> .inl hk⟩
theorem qD (sb p:Nat) (S:Stg) (r:Int) (ok:Nat→Prop) (w:World) (h:dm ok sb p S w) (hy:S.ws.ar.way S.ws.entry 0=(r,S.ws.ar)) (hl:S.ws.ar.look r=(nd0,S.ws.ar)) (hb0:0≤S.ws.b):
  Calls Tryz.prog 38 #[.pointer (some ⟨sb,0,none⟩)] w fun e w1=> ∃ A c,e= .returned (.agg #[.slice A 0 c,.int .i64 1,.int .i64 0,.bool true,.int .i64 0])∧dm ok sb p S w1∧Moves ok ok w w1:=by
 obtain ⟨okB,okW,b,ρ,h1,h2,h3,h4,⟨okA,okR,okE,pA,pR,pE,hW⟩,hgd⟩:=h.out
 have hk: ∀ k,ok k↔okB k∨okW k:=h1
 obtain rfl:ok=fun k=>okB k∨okW k:=funext fun k=>propext (h1 k)
 have B1:=ai (Below.refl w.heap.size w) (.cells #[.slice none 0 0,.int .i64 0,.int .i64 0,.bool false,.int .i64 0] 71)
 have X1:=Am_ (Mine.new (ok:=fun k=>okB k∨okW k) (w:=w) h.lt (.cells #[.slice none 0 0,.int .i64 0,.int .i64 0,.bool false,.int .i64 0] 71))
 have S1:=Am_ (h3.below B1)
 have W1:=Am_ (hW.step B1.size (fun k _ hlt=>B1.block k hlt))
 have M1:=Am_ ((Moves.refl (fun k=>okB k∨okW k) w).below B1)
 have HG:=Am_ (And.intro hgd (And.intro hy (And.intro hl hb0)))
 have HD:=Am_ (And.intro h2 h4)
 clear h h1 h2 h3 h4 hW hgd hy hl hb0 B1 hk
 go_enter Tryz.func38,Tryz.ntmps38
 go_upto_region 1 with fail
 generalize w.alloc (.cells #[.slice none 0 0,.int .i64 0,.int .i64 0,.bool false,.int .i64 0] 71)=w1 at X1 S1 W1 M1 ⊢
 generalize hb2:w.heap.size=b2 at X1 ⊢
 have HB2:=Am_ hb2
 clear hb2
 have c0:=(af S1.out.box 0).trans (rfl:_=some (Value.pointer (some ⟨p,0,none⟩)))
 have x0:=(af X1.out.1 0).trans (rfl:_=some (Value.slice none 0 0))
 have x1:=(af X1.out.1 1).trans (rfl:_=some (Value.int .i64 0))
 have x2:=(af X1.out.1 2).trans (rfl:_=some (Value.int .i64 0))
 have x3:=(af X1.out.1 3).trans (rfl:_=some (Value.bool false))
 have x4:=(af X1.out.1 4).trans (rfl:_=some (Value.int .i64 0))
 clear x0 x1 x2 x3 x4
 go_wp2_with (go_at_call 82;refine (sN p S.ws r okW okA okR okE pA pR pE _ W1.out HG.out.1.ar.fits HG.out.2.1 HG.out.2.2.1 HG.out.2.2.2).mono ?_;rintro e w5 ⟨A5,c5,rfl,hw,hm⟩;have W5:=Am_ hw;have M5:=Am_ (M1.out.trans (wo hm));have S5:=Am_ (S1.out.step hm.size (fun k hk hlt=>hm.block k hlt (HD.out.1 k hk)));have X5:=Am_ (X1.out.moves (wo hm));clear hw hm W1 M1 S1 X1 c0;have x0:=(af X5.out.1 0).trans (rfl:_=some (Value.slice none 0 0));have z0:=ah X5.out.1 0;have x1:=(af X5.out.1 1).trans (rfl:_=some (Value.int .i64 0));have z1:=ah X5.out.1 1;have x2:=(af X5.out.1 2).trans (rfl:_=some (Value.int .i64 0));have z2:=ah X5.out.1 2;have x3:=(af X5.out.1 3).trans (rfl:_=some (Value.bool false));have z3:=ah X5.out.1 3;have x4:=(af X5.out.1 4).trans (rfl:_=some (Value.int .i64 0));have z4:=ah X5.out.1 4)
 have K6:ak (Mine (fun k=>okB k∨okW k) (((((w5.setCell ⟨b2,0,none⟩ (.slice A5 0 c5)).setCell ⟨b2,1,none⟩ (.int .i64 1)).setCell ⟨b2,2,none⟩ (.int .i64 0)).setCell ⟨b2,3,none⟩ (.bool true)).setCell ⟨b2,4,none⟩ (.int .i64 0)) b2 (.cells #[.slice A5 0 c5,.int .i64 1,.int .i64 0,.bool true,.int .i64 0] 71 (0,0))):=⟨Mine.set (Mine.set (Mine.set (Mine.set (Mine.set X5.out 0 _) 1 _) 2 _) 3 _) 4 _⟩
 have W6:ak (dG okW okA okR okE p pA pR pE S.ws (((((w5.setCell ⟨b2,0,none⟩ (.slice A5 0 c5)).setCell ⟨b2,1,none⟩ (.int .i64 1)).setCell ⟨b2,2,none⟩ (.int .i64 0)).setCell ⟨b2,3,none⟩ (.bool true)).setCell ⟨b2,4,none⟩ (.int .i64 0))):=⟨W5.out.step (by simp [World.setCell]) (fun k hk _=>aW ([.slice A5 0 c5,.int .i64 1,.int .i64 0,.bool true,.int .i64 0]:List Value) 0 k (fun e=>X5.out.2 (.inr (e▸hk))))⟩
 have S6:ak (jT okB sb p b ρ (((((w5.setCell ⟨b2,0,none⟩ (.slice A5 0 c5)).setCell ⟨b2,1,none⟩ (.int .i64 1)).setCell ⟨b2,2,none⟩ (.int .i64 0)).setCell ⟨b2,3,none⟩ (.bool true)).setCell ⟨b2,4,none⟩ (.int .i64 0))):=⟨S5.out.step (by simp [World.setCell]) (fun k hk _=>aW ([.slice A5 0 c5,.int .i64 1,.int .i64 0,.bool true,.int .i64 0]:List Value) 0 k (fun e=>X5.out.2 (.inl (e▸hk))))⟩
 have M6:ak (Moves (fun k=>okB k∨okW k) (fun k=>okB k∨okW k) w (((((w5.setCell ⟨b2,0,none⟩ (.slice A5 0 c5)).setCell ⟨b2,1,none⟩ (.int .i64 1)).setCell ⟨b2,2,none⟩ (.int .i64 0)).setCell ⟨b2,3,none⟩ (.bool true)).setCell ⟨b2,4,none⟩ (.int .i64 0))):=⟨((((M5.out.set (p:=⟨b2,0,none⟩) (.inr (Nat.le_of_eq HB2.out)) _).set (p:=⟨b2,1,none⟩) (.inr (Nat.le_of_eq HB2.out)) _).set (p:=⟨b2,2,none⟩) (.inr (Nat.le_of_eq HB2.out)) _).set (p:=⟨b2,3,none⟩) (.inr (Nat.le_of_eq HB2.out)) _).set (p:=⟨b2,4,none⟩) (.inr (Nat.le_of_eq HB2.out)) _⟩
 clear S5 W5 X5 M5 x0 x1 x2 x3 x4 z0 z1 z2 z3 z4
 generalize ((((w5.setCell ⟨b2,0,none⟩ (.slice A5 0 c5)).setCell ⟨b2,1,none⟩ (.int .i64 1)).setCell ⟨b2,2,none⟩ (.int .i64 0)).setCell ⟨b2,3,none⟩ (.bool true)).setCell ⟨b2,4,none⟩ (.int .i64 0)=w6 at K6 W6 S6 M6 ⊢
 (try simp only [Exit.inBlock,Exit.then])
 refine bodyPost_ret (results_cell_row rfl _ _ b2 71 _ (0,0) _ rfl K6.out.1 Tryz.underlying71 rfl (by kernel_rfl)) rfl ?_
 exact ⟨A5,c5,rfl,⟨okB,okW,b,ρ,fun _=>Iff.rfl,HD.out.1,S6.out,HD.out.2,⟨okA,okR,okE,pA,pR,pE,W6.out⟩,HG.out.1⟩,M6.out⟩
inductive uT (a b n nodes records:Int):Prop where
 | c0  (_:a<2)
 | c1 (_: ¬ (a<2)) (_:a>32)
 | c2 (_: ¬ (a<2)) (_: ¬ (a>32)) (_:b<2*a - 1)
 | c3 (_: ¬ (a<2)) (_: ¬ (a>32)) (_: ¬ (b<2*a - 1)) (_:b>32)
 | c4 (_: ¬ (a<2)) (_: ¬ (a>32)) (_: ¬ (b<2*a - 1)) (_: ¬ (b>32)) (_:n<1)
 | c5 (_: ¬ (a<2)) (_: ¬ (a>32)) (_: ¬ (b<2*a - 1)) (_: ¬ (b>32)) (_: ¬ (n<1)) (_:n>64)
 | c6 (_: ¬ (a<2)) (_: ¬ (a>32)) (_: ¬ (b<2*a - 1)) (_: ¬ (b>32)) (_: ¬ (n<1)) (_: ¬ (n>64)) (_:nodes<2)
 | c7 (_: ¬ (a<2)) (_: ¬ (a>32)) (_: ¬ (b<2*a - 1)) (_: ¬ (b>32)) (_: ¬ (n<1)) (_: ¬ (n>64)) (_: ¬ (nodes<2)) (_:nodes>65536)
 | c8 (_: ¬ (a<2)) (_: ¬ (a>32)) (_: ¬ (b<2*a - 1)) (_: ¬ (b>32)) (_: ¬ (n<1)) (_: ¬ (n>64)) (_: ¬ (nodes<2)) (_: ¬ (nodes>65536)) (_:records<0)
 | c9 (_: ¬ (a<2)) (_: ¬ (a>32)) (_: ¬ (b<2*a - 1)) (_: ¬ (b>32)) (_: ¬ (n<1)) (_: ¬ (n>64)) (_: ¬ (nodes<2)) (_: ¬ (nodes>65536)) (_: ¬ (records<0)) (_:records>65536)
theorem KP (a b n nodes records:Int):(2≤a∧a≤32∧2*a - 1≤b∧b≤32∧1≤n∧n≤64∧2≤nodes∧nodes≤65536∧0≤records∧records≤65536)∨uT a b n nodes records:=by
 by_cases h0:a<2
 ·exact .inr (.c0 h0)
 by_cases h1:a>32
 ·exact .inr (.c1 h0 h1)
 by_cases h2:b<2*a - 1
 ·exact .inr (.c2 h0 h1 h2)
 by_cases h3:b>32
 ·exact .inr (.c3 h0 h1 h2 h3)
 by_cases h4:n<1
 ·exact .inr (.c4 h0 h1 h2 h3 h4)
 by_cases h5:n>64
 ·exact .inr (.c5 h0 h1 h2 h3 h4 h5)
 by_cases h6:nodes<2
 ·exact .inr (.c6 h0 h1 h2 h3 h4 h5 h6)
 by_cases h7:nodes>65536
 ·exact .inr (.c7 h0 h1 h2 h3 h4 h5 h6 h7)
 by_cases h8:records<0
 ·exact .inr (.c8 h0 h1 h2 h3 h4 h5 h6 h7 h8)
 by_cases h9:records>65536
 ·exact .inr (.c9 h0 h1 h2 h3 h4 h5 h6 h7 h8 h9)
 exact .inl (by omega)
theorem CJ (a b n nodes records:Int) (w:World) (h:uT a b n nodes records):Calls Tryz.prog 65 #[.int .i64 a,.int .i64 b,.int .i64 n,.int .i64 nodes,.int .i64 records] w fun e w1=>e= .returned (.tuple #[.pointer none,.int .i64 2])∧w1=w:=by
 cases h
 ·have d0:decide (a<2)=true:=decide_eq_true (by omega)
  go_enter Tryz.func65,Tryz.ntmps65
  go_wp2_with fail
  go_ret2
  exact ⟨rfl,rfl⟩
 ·have d0:decide (a<2)=false:=decide_eq_false (by omega)
  have d1:decide (a>32)=true:=decide_eq_true (by omega)
  have e1:decide (32<a)=true:=d1
  go_enter Tryz.func65,Tryz.ntmps65
  go_wp2_with fail
  go_ret2
  exact ⟨rfl,rfl⟩
 ·have d0:decide (a<2)=false:=decide_eq_false (by omega)
  have d1:decide (a>32)=false:=decide_eq_false (by omega)
  have e1:decide (32<a)=false:=d1
  have d2:decide (b<2*a - 1)=true:=decide_eq_true (by omega)
  have m2:wrap64 (2*a)=2*a:=by unfold wrap64;omega
  have m3:wrap64 (2*a - 1)=2*a - 1:=by unfold wrap64;omega
  go_enter Tryz.func65,Tryz.ntmps65
  go_wp2_with fail
  go_ret2
  exact ⟨rfl,rfl⟩
 ·have d0:decide (a<2)=false:=decide_eq_false (by omega)
  have d1:decide (a>32)=false:=decide_eq_false (by omega)
  have e1:decide (32<a)=false:=d1
  have d2:decide (b<2*a - 1)=false:=decide_eq_false (by omega)
  have d3:decide (b>32)=true:=decide_eq_true (by omega)
  have e3:decide (32<b)=true:=d3
  have m2:wrap64 (2*a)=2*a:=by unfold wrap64;omega
  have m3:wrap64 (2*a - 1)=2*a - 1:=by unfold wrap64;omega
  go_enter Tryz.func65,Tryz.ntmps65
  go_wp2_with fail
  go_ret2
  exact ⟨rfl,rfl⟩
 ·have d0:decide (a<2)=false:=decide_eq_false (by omega)
  have d1:decide (a>32)=false:=decide_eq_false (by omega)
  have e1:decide (32<a)=false:=d1
  have d2:decide (b<2*a - 1)=false:=decide_eq_false (by omega)
  have d3:decide (b>32)=false:=decide_eq_false (by omega)
  have e3:decide (32<b)=false:=d3
  have d4:decide (n<1)=true:=decide_eq_true (by omega)
  have m2:wrap64 (2*a)=2*a:=by unfold wrap64;omega
  have m3:wrap64 (2*a - 1)=2*a - 1:=by unfold wrap64;omega
  go_enter Tryz.func65,Tryz.ntmps65
  go_wp2_with fail
  go_ret2
  exact ⟨rfl,rfl⟩
 ·have d0:decide (a<2)=false:=decide_eq_false (by omega)
  have d1:decide (a>32)=false:=decide_eq_false (by omega)
  have e1:decide (32<a)=false:=d1
  have d2:decide (b<2*a - 1)=false:=decide_eq_false (by omega)
  have d3:decide (b>32)=false:=decide_eq_false (by omega)
  have e3:decide (32<b)=false:=d3
  have d4:decide (n<1)=false:=decide_eq_false (by omega)
  have d5:decide (n>64)=true:=decide_eq_true (by omega)
  have e5:decide (64<n)=true:=d5
  have m2:wrap64 (2*a)=2*a:=by unfold wrap64;omega
  have m3:wrap64 (2*a - 1)=2*a - 1:=by unfold wrap64;omega
  go_enter Tryz.func65,Tryz.ntmps65
  go_wp2_with fail
  go_ret2
  exact ⟨rfl,rfl⟩
 ·have d0:decide (a<2)=false:=decide_eq_false (by omega)
  have d1:decide (a>32)=false:=decide_eq_false (by omega)
  have e1:decide (32<a)=false:=d1
  have d2:decide (b<2*a - 1)=false:=decide_eq_false (by omega)
  have d3:decide (b>32)=false:=decide_eq_false (by omega)
  have e3:decide (32<b)=false:=d3
  have d4:decide (n<1)=false:=decide_eq_false (by omega)
  have d5:decide (n>64)=false:=decide_eq_false (by omega)
  have e5:decide (64<n)=false:=d5
  have d6:decide (nodes<2)=true:=decide_eq_true (by omega)
  have m2:wrap64 (2*a)=2*a:=by unfold wrap64;omega
  have m3:wrap64 (2*a - 1)=2*a - 1:=by unfold wrap64;omega
  go_enter Tryz.func65,Tryz.ntmps65
  go_wp2_with fail
  go_ret2
  exact ⟨rfl,rfl⟩
 ·have d0:decide (a<2)=false:=decide_eq_false (by omega)
  have d1:decide (a>32)=false:=decide_eq_false (by omega)
  have e1:decide (32<a)=false:=d1
  have d2:decide (b<2*a - 1)=false:=decide_eq_false (by omega)
  have d3:decide (b>32)=false:=decide_eq_false (by omega)
  have e3:decide (32<b)=false:=d3
  have d4:decide (n<1)=false:=decide_eq_false (by omega)
  have d5:decide (n>64)=false:=decide_eq_false (by omega)
  have e5:decide (64<n)=false:=d5
  have d6:decide (nodes<2)=false:=decide_eq_false (by omega)
  have d7:decide (nodes>65536)=true:=decide_eq_true (by omega)
  have e7:decide (65536<nodes)=true:=d7
  have m2:wrap64 (2*a)=2*a:=by unfold wrap64;omega
  have m3:wrap64 (2*a - 1)=2*a - 1:=by unfold wrap64;omega
  go_enter Tryz.func65,Tryz.ntmps65
  go_wp2_with fail
  go_ret2
  exact ⟨rfl,rfl⟩
 ·have d0:decide (a<2)=false:=decide_eq_false (by omega)
  have d1:decide (a>32)=false:=decide_eq_false (by omega)
  have e1:decide (32<a)=false:=d1
  have d2:decide (b<2*a - 1)=false:=decide_eq_false (by omega)
  have d3:decide (b>32)=false:=decide_eq_false (by omega)
  have e3:decide (32<b)=false:=d3
  have d4:decide (n<1)=false:=decide_eq_false (by omega)
  have d5:decide (n>64)=false:=decide_eq_false (by omega)
  have e5:decide (64<n)=false:=d5
  have d6:decide (nodes<2)=false:=decide_eq_false (by omega)
  have d7:decide (nodes>65536)=false:=decide_eq_false (by omega)
  have e7:decide (65536<nodes)=false:=d7
  have d8:decide (records<0)=true:=decide_eq_true (by omega)
  have m2:wrap64 (2*a)=2*a:=by unfold wrap64;omega
  have m3:wrap64 (2*a - 1)=2*a - 1:=by unfold wrap64;omega
  go_enter Tryz.func65,Tryz.ntmps65
  go_wp2_with fail
  go_ret2
  exact ⟨rfl,rfl⟩
 ·have d0:decide (a<2)=false:=decide_eq_false (by omega)
  have d1:decide (a>32)=false:=decide_eq_false (by omega)
  have e1:decide (32<a)=false:=d1
  have d2:decide (b<2*a - 1)=false:=decide_eq_false (by omega)
  have d3:decide (b>32)=false:=decide_eq_false (by omega)
  have e3:decide (32<b)=false:=d3
  have d4:decide (n<1)=false:=decide_eq_false (by omega)
  have d5:decide (n>64)=false:=decide_eq_false (by omega)
  have e5:decide (64<n)=false:=d5
  have d6:decide (nodes<2)=false:=decide_eq_false (by omega)
  have d7:decide (nodes>65536)=false:=decide_eq_false (by omega)
  have e7:decide (65536<nodes)=false:=d7
  have d8:decide (records<0)=false:=decide_eq_false (by omega)
  have d9:decide (records>65536)=true:=decide_eq_true (by omega)
  have e9:decide (65536<records)=true:=d9
  have m2:wrap64 (2*a)=2*a:=by unfold wrap64;omega
  have m3:wrap64 (2*a - 1)=2*a - 1:=by unfold wrap64;omega
  go_enter Tryz.func65,Tryz.ntmps65
  go_wp2_with fail
  go_ret2
  exact ⟨rfl,rfl⟩
theorem BZ (a b n nodes records:Int) (w:World) (h:uT a b n nodes records):Calls Tryz.prog 39 #[.agg #[.int .i64 a,.int .i64 b,.int .i64 n,.int .i64 nodes,.int .i64 records]] w fun e w1=>e= .returned (.tuple #[.pointer none,.int .i64 2])∧Below w.heap.size w w1:=by
 have HB:=Am_ (fun w=>CJ a b n nodes records w h)
 have K1:=Am_ (Mine.new (ok:=fun _=>False) (w:=w) (fun k hk=>hk.elim) (.cells #[.int .i64 a,.int .i64 b,.int .i64 n,.int .i64 nodes,.int .i64 records] 75))
 have B1:=Am_ (ai (Below.refl w.heap.size w) (.cells #[.int .i64 a,.int .i64 b,.int .i64 n,.int .i64 nodes,.int .i64 records] 75))
 clear h
 go_enter Tryz.func39,Tryz.ntmps39
 go_upto_region 1 with fail
 generalize w.alloc (.cells #[.int .i64 a,.int .i64 b,.int .i64 n,.int .i64 nodes,.int .i64 records] 75)=w1 at K1 B1 ⊢
 generalize w.heap.size=b1 at K1 ⊢
 have y0:=(af K1.out.1 0).trans (rfl:_=some (Value.int .i64 a))
 have y1:=(af K1.out.1 1).trans (rfl:_=some (Value.int .i64 b))
 have y2:=(af K1.out.1 2).trans (rfl:_=some (Value.int .i64 n))
 have y3:=(af K1.out.1 3).trans (rfl:_=some (Value.int .i64 nodes))
 have y4:=(af K1.out.1 4).trans (rfl:_=some (Value.int .i64 records))
 go_wp2_with (go_at_call 65;refine (HB.out _).mono ?_;rintro e w2 ⟨rfl,rfl⟩;clear HB)
 go_ret2
 exact ⟨rfl,B1.out⟩
open Go.ChangeShapes Go.WideShapes Go.Deep Go.Joins
section
variable {H:Type} {enc:TypeId × Value→H} {w:World} {base:Nat} {spare:Nat→Bool} {held:Bool}
theorem Cy {P:Program} {t:TypeId} {f0 f1 f2 f3 f4:Field} {fuel:Nat} {cs:List Value} {x:DataW H × List MemPlace} (ht:P.underlying t=some (.struct #[f0,f1,f2,f3,f4])) (h:DataW.trod enc P w base spare held fuel t cs=some x):
  ∃ y0 y1 y2 y3 y4 n,cs.length=P.cellsOf t∧DataW.trod enc P w base spare held n f0.type ((cs.drop f0.offset).take (P.cellsOf f0.type))=some y0∧
   DataW.trod enc P w base spare held n f1.type ((cs.drop f1.offset).take (P.cellsOf f1.type))=some y1∧DataW.trod enc P w base spare held n f2.type ((cs.drop f2.offset).take (P.cellsOf f2.type))=some y2∧
   DataW.trod enc P w base spare held n f3.type ((cs.drop f3.offset).take (P.cellsOf f3.type))=some y3∧DataW.trod enc P w base spare held n f4.type ((cs.drop f4.offset).take (P.cellsOf f4.type))=some y4:=by
 obtain ⟨xs,n,_,rfl,hl,hlen,hf⟩:=DataW.trod_struct ht h
 match xs,hlen with
 | [y0,y1,y2,y3,y4],_=>exact ⟨y0,y1,y2,y3,y4,n,hl,by simpa using hf 0 f0 rfl,by simpa using hf 1 f1 rfl,by simpa using hf 2 f2 rfl,by simpa using hf 3 f3 rfl,by simpa using hf 4 f4 rfl⟩
structure Cfg where
 a:Int
 b:Int
 n:Int
 nodes:Int
 records:Int
theorem Eo {n:Nat} {cs:List Value} {x:DataW H × List MemPlace} (h:DataW.trod enc Tryz.prog w base spare held n 75 cs=some x):
  ∃ o:Cfg,cs= [.int .i64 o.a,.int .i64 o.b,.int .i64 o.n,.int .i64 o.nodes,.int .i64 o.records]:=by
 obtain ⟨y0,y1,y2,y3,y4,n,hl,h0,h1,h2,h3,h4⟩:=Cy Tryz.underlying75 h
 rw [show Tryz.prog.cellsOf 75=5 by kernel_rfl] at hl
 match cs,hl with
 | [c0,c1,c2,c3,c4],_=>
  rw [show Tryz.prog.cellsOf 3=1 by kernel_rfl] at h0 h1 h2 h3 h4
  obtain ⟨e,e0,_⟩:=DataW.trod_int Tryz.underlying3 h0
  obtain ⟨f,e1,_⟩:=DataW.trod_int Tryz.underlying3 h1
  obtain ⟨k,e2,_⟩:=DataW.trod_int Tryz.underlying3 h2
  obtain ⟨v,e3,_⟩:=DataW.trod_int Tryz.underlying3 h3
  obtain ⟨u,e4,_⟩:=DataW.trod_int Tryz.underlying3 h4
  simp at e0 e1 e2 e3 e4
  subst e0 e1 e2 e3 e4
  exact ⟨⟨e,f,k,v,u⟩,rfl⟩
end
open Go.Proofs.YtmnjjdeaccgjlaaGreat.PAskAlone
abbrev Pr2:=gy
abbrev kP:=mE
abbrev Sh:=S30
abbrev kSh:=k30
def Gn (l:List (Int × Int)):List Pr2:=l.map fun q=>⟨q.1,q.2⟩
theorem jw (l:List (Int × Int)):(Gn l).length=l.length:=List.length_map _
def shN (n:Nd) (kids:List Sh):Sh:=⟨!n.inner,n.tagged,Gn n.pairs,n.keys,kids⟩
theorem Li {w:World} {ok:Nat→Prop} {A:Option Addr} {n:Nat} {l:List (Int × Int)} (h:dw.F w ok A n l):kP.F w ok A n (Gn l):=Kd.Mr h (fun W hC=>⟨by rw [jw];exact hC.1,hC.2.1,fun hp=>by
 obtain ⟨ad,e,hc⟩:=hC.2.2 hp
 refine ⟨ad,e,fun j q hq=>?_⟩
 unfold Gn at hq
 rw [List.getElem?_map] at hq
 cases hx:l[j]? with
 | none=>rw [hx] at hq;cases hq
 | some x=>
  rw [hx] at hq
  injection hq with hq
  subst hq
  exact hc j x hx⟩)
structure Db (ok:Nat→Prop) (pA:Nat) (s:Sh) (a1:Ar) (w:World) (e:Ending) (w1:World):Prop where
 out: ∃ cs,e= .returned (.agg cs.toArray)∧kSh.FK w1 (fun k=>w.heap.size≤k) s cs
 ar:dn ok pA a1 w1
 moves:Moves ok ok w w1
def shB (n:Nd) (p k v4:Value):Obj:= .cells #[.bool (!n.inner),.bool n.tagged,p,k,v4] 30 (0,0)
def ndO (n:Nd) (p k y:Value):Obj:= .cells #[.bool n.inner,.bool n.tagged,p,k,y] 157 (0,0)
structure Fy (ok:Nat→Prop) (pA:Nat) (w0:World) (b6 b7 b8:Nat) (n:Nd) (A3:Option Addr) (c3:Nat) (A4:Option Addr) (c4:Nat) (A5:Option Addr) (c5:Nat) (v4:Value) (acc:List Sh) (ac:Ar) (wr:World):Prop where
 x6:Mine ok wr b6 (.cells #[.bool false,.bool false,.slice none 0 0,.slice none 0 0,.slice none 0 0] 30 (0,0))
 x7:Mine ok wr b7 (ndO n (.slice A3 n.pairs.length c3) (.slice A4 n.keys.length c4) (.slice A5 n.ways.length c5))
 x8:Mine ok wr b8 (shB n (.slice A3 n.pairs.length c3) (.slice A4 n.keys.length c4) v4)
 ar:dn ok pA ac wr
 mv:Moves ok ok w0 wr
 row:Kd.N kSh 30 wr w0.heap.size (fun k=>b8<k) v4 acc
 l3:n.pairs.length≤c3
 f3:dw.F wr (fun k=>b6<k∧k<b7) A3 n.pairs.length n.pairs
 l4:n.keys.length≤c4
 f4:(Kd.int .i64).F wr (fun k=>b6<k∧k<b7) A4 n.keys.length n.keys
 o6:w0.heap.size≤b6
 o7:b6<b7
 o8:b7<b8
 lt: ∀ k,ok k→k<w0.heap.size
section
variable {ok:Nat→Prop} {pA:Nat} {w0:World} {b6 b7 b8:Nat} {n:Nd} {A3:Option Addr} {c3:Nat} {A4:Option Addr} {c4:Nat} {A5:Option Addr} {c5:Nat} {v4:Value} {acc:List Sh} {ac:Ar} {wr w1:World}
theorem Fy.moves (h:Fy ok pA w0 b6 b7 b8 n A3 c3 A4 c4 A5 c5 v4 acc ac wr) (m:Moves ok ok wr w1) {a1:Ar} (ha:dn ok pA a1 w1):Fy ok pA w0 b6 b7 b8 n A3 c3 A4 c4 A5 c5 v4 acc a1 w1:=
 {
  x6:=h.x6.moves m,x7:=h.x7.moves m,x8:=h.x8.moves m,ar:=ha,mv:=h.mv.trans m
  row:=Kd.yP h.row (fun k hk hlt=>m.block k hlt (fun h1=>by have:=h.lt k h1;have:=h.o6;have:=h.o7;have:=h.o8;omega))
  l3:=h.l3
  f3:=Kd.eU h.f3 (fun k hk hlt=>m.block k hlt (fun h1=>by have:=h.lt k h1;have:=h.o6;omega))
  l4:=h.l4
  f4:=Kd.eU h.f4 (fun k hk hlt=>m.block k hlt (fun h1=>by have:=h.lt k h1;have:=h.o6;omega))
  o6:=h.o6,o7:=h.o7,o8:=h.o8,lt:=h.lt }
theorem Fy.grown (h:Fy ok pA w0 b6 b7 b8 n A3 c3 A4 c4 A5 c5 v4 acc ac wr) {v1:Value} {acc1:List Sh} (hr:Kd.N kSh 30 w1 w0.heap.size (fun k=>b8<k) v1 acc1) (hg:wr.grownBy w1 v4.ownBlock):Fy ok pA w0 b6 b7 b8 n A3 c3 A4 c4 A5 c5 v1 acc1 ac (w1.setCell ⟨b8,4,none⟩ v1):=by
 have h6:=h.o6
 have h7:=h.o7
 have h8:=h.o8
 have hne: ∀ k,k≤b8→some k≠v4.ownBlock:=fun k hk e=>by have:=h.row.1 k e.symm;omega
 have hb: ∀ k,k<b8→k<wr.heap.size→(w1.setCell ⟨b8,4,none⟩ v1).heap[k]?=wr.heap[k]?:=fun k hk hlt=>(Below.heap_setCell w1 ⟨b8,4,none⟩ v1 k (fun e=>by have:k=b8:=e;omega)).trans (hg.block k hlt (hne k (by omega)))
 have hok: ∀ k,ok k→k<b8:=fun k hk=>by have:=h.lt k hk;omega
 have x8:Mine ok w1 b8 (shB n (.slice A3 n.pairs.length c3) (.slice A4 n.keys.length c4) v4):=⟨(hg.block b8 (bD h.x8.1) (hne b8 (Nat.le_refl _))).trans h.x8.1,h.x8.2⟩
 exact {
  x6:=⟨(hb b6 (by omega) (bD h.x6.1)).trans h.x6.1,h.x6.2⟩
  x7:=⟨(hb b7 (by omega) (bD h.x7.1)).trans h.x7.1,h.x7.2⟩
  x8:=x8.set 4 v1
  ar:=h.ar.step (by simpa [World.setCell] using hg.size) (fun k hk hlt=>hb k (hok k hk) hlt)
  mv:=(h.mv.grown hg (fun k hk=> .inr (by have:=h.row.1 k hk;omega))).set (p:=⟨b8,4,none⟩) (.inr (show w0.heap.size≤b8 by omega)) _
  row:=Kd.yP hr (fun k hk hlt=>Below.heap_setCell w1 ⟨b8,4,none⟩ v1 k (fun e=>by have:k=b8:=e;omega))
  l3:=h.l3
  f3:=Kd.eU h.f3 (fun k hk hlt=>hb k (by omega) hlt)
  l4:=h.l4
  f4:=Kd.eU h.f4 (fun k hk hlt=>hb k (by omega) hlt)
  o6:=h6,o7:=h7,o8:=h8,lt:=h.lt }
theorem Fy.post {A9:Option Addr} {c9:Nat} (h:Fy ok pA w0 b6 b7 b8 n A3 c3 A4 c4 A5 c5 (.slice A9 acc.length c9) acc ac wr):
  Db ok pA (shN n acc) ac w0 (.returned (.agg #[.bool (!n.inner),.bool n.tagged,.slice A3 n.pairs.length c3,.slice A4 n.keys.length c4,.slice A9 acc.length c9])) (Gs wr b6 (.bool (!n.inner)) (.bool n.tagged) (.slice A3 n.pairs.length c3) (.slice A4 n.keys.length c4) (.slice A9 acc.length c9)):=by
 have h6:=h.o6
 have h7:=h.o7
 have h8:=h.o8
 have hk:kSh.FK wr (fun k=>b6<k) (shN n acc) [.bool (!n.inner),.bool n.tagged,.slice A3 (shN n acc).f2.length c3,.slice A4 (shN n acc).f3.length c4,.slice A9 (shN n acc).f4.length c9]:=
  Iw wr _ (shN n acc) (by show (Gn n.pairs).length≤c3;rw [jw];exact h.l3) (by show kP.F _ _ _ (Gn n.pairs).length (Gn n.pairs);rw [jw];exact Kd.dh (Li h.f3) (fun k hk=>hk.1)) h.l4 (Kd.dh h.f4 (fun k hk=>hk.1)) (Kd.uX h.row).2.1 (Kd.dh (Kd.N_F h.row) (fun k hk=>by omega))
 refine ⟨⟨_,?_,Kd.mI (Kd.jW hk (fun k hk _=>jA _ _ _ _ _ _ _ k (fun e=>by omega))) (fun k hk=>by omega)⟩,h.ar.step (by rw [og];exact Nat.le_refl _) (fun k hk _=>jA _ _ _ _ _ _ _ k (fun e=>by have:=h.lt k hk;omega)),lM h.mv h6 _ _ _ _ _⟩
 show _=Ending.returned (Value.agg #[_,_,.slice A3 (Gn n.pairs).length c3,_,_])
 rw [jw]
 rfl
end
structure wC (sl:List Sl) (r:Int) (q:Sl):Prop where
 out: ∃ j:Nat,dF r=(j:Int)∧sl[j]?=some q∧q.used=true∧jQ j q.count=r
theorem wC.idx {a:Ar} {r:Int} {q:Sl} (h:wC a.slots r q): ∃ j,a.idx r=some j∧a.slots[j]?=some q∧dF r=(j:Int):=by
 obtain ⟨j,h1,h2,h3,h4⟩:=h.out
 refine ⟨j,?_,h2,h1⟩
 unfold Ar.idx
 rw [h1,if_neg (by omega),Int.toNat_natCast,h2]
 simp only
 rw [if_pos h3,if_pos h4]
theorem wC.look {a:Ar} {r:Int} {q:Sl} (h:wC a.slots r q):a.look r=(q.node,a):=by
 obtain ⟨j,h1,h2,_⟩:=h.idx
 unfold Ar.look
 rw [h1]
 simp only
 rw [h2]
theorem wC.way {a:Ar} {r:Int} {q:Sl} (h:wC a.slots r q) (i:Nat) (hi:i<q.ways.length):a.way r (i:Int)=(q.ways.getD i 0,a):=by
 obtain ⟨j,h1,h2,_⟩:=h.idx
 unfold Ar.way
 rw [h1]
 simp only
 rw [h2]
 simp only
 rw [if_neg (by omega),if_neg (by omega),Int.toNat_natCast]
theorem mQ (n:Nd) (a:Ar) (h:a.free= []) (hu:a.used=(a.slots.length:Int)) (hl:a.slots.length≤1000) (hm:(a.slots.length:Int)<a.most):
  a.alloc n=some ((jQ (a.slots.length:Int) 1,true),{ a with slots:=a.slots++ [gX n 1],used:=a.used+1 }):=by
 unfold Ar.alloc
 rw [if_neg (by omega)]
 have ht:a.take=some (a.slots.length,{ a with slots:=a.slots++ [sl0] }):=by unfold Ar.take;rw [h]
 rw [ht]
 simp only
 rw [List.getElem?_append_right (Nat.le_refl _),Nat.sub_self]
 simp only [List.getElem?_cons_zero]
 have hw:wrap64 (a.used+1)=a.used+1:=by unfold wrap64;omega
 unfold Ar.put
 simp only [show Gv (sl0.count+1)=1 from rfl,hw]
 rw [List.set_append_right _ _ (Nat.le_refl _),Nat.sub_self]
 rfl
def slA:Sl:=gX nd0 1
def slB:Sl:=gX (ndE xV) 1
theorem NT:jQ 0 1=xV:=by kernel_rfl
theorem NU:jQ 1 1=vV:=by kernel_rfl
theorem JA (lo wd nodes recs:Int) (th:Nat) (hn:2≤nodes):ws0 lo wd th nodes recs=some ⟨⟨[slA,slB],[],nodes,2,0⟩,⟨[],recs⟩,⟨0,List.replicate th (-1),List.replicate th []⟩,lo,wd,vV⟩:=by
 unfold ws0
 rw [mQ nd0 (ar0 nodes) rfl rfl (by show (0:Nat)≤1000;omega) (by show (0:Int)<nodes;omega)]
 simp only
 rw [mQ _ _ rfl rfl (by show (1:Nat)≤1000;omega) (by show (1:Int)<nodes;omega)]
 simp only
 rw [show jQ (((ar0 nodes).slots.length:Nat):Int) 1=xV from NT]
 rw [show jQ ((((ar0 nodes).slots++ [gX nd0 1]).length:Nat):Int) 1=vV from NU]
 rfl
end Go.Proofs.YtmnjjdeaccgjlaaGreat.Tower
namespace Go.Proofs.YtmnjjdeaccgjlaaGreat.PStageNil
open Go.RowKit Go.Proofs.YtmnjjdeaccgjlaaGreatW.PrintWords Go.Proofs.YtmnjjdeaccgjlaaGreatW.PrintLast Go.Proofs.YtmnjjdeaccgjlaaGreatW.PrintMore
attribute [local go_sem] iH iJ jm jo gH gJ iI iK
def KW:Option Int→Value
 | none=> .nilIface
 | some c=> .iface 0 (.int .i64 c)
theorem dP:KW none= .nilIface:=rfl
theorem dQ (c:Int):KW (some c)= .iface 0 (.int .i64 c):=rfl
theorem Lb:(Tryz.prog.info? 2).map (fun i=>(i.zero,i.size,i.bytes))=some (some (.int .i64 0),1,8):=by kernel_rfl
theorem AY:(Tryz.prog.info? 121).map (fun i=>(i.zero,i.size,i.bytes))=some (some (.agg #[(.int .i64 0),(.int .i64 0)]),2,16):=by kernel_rfl
structure gy where
 f0:Int
 f1:Int
def LJ:gy:=⟨(0:Int),(0:Int)⟩
def mE:Kd gy:=Kd.iso (Kd.pair (Kd.int .i64) (Kd.int .i64)) (fun x:gy=>(x.f0,x.f1))
theorem nJ {w:World} {x:gy} {cs:List Value} (h:mE.K w x cs):cs= [.int .i64 x.f0,.int .i64 x.f1]:=by
 obtain ⟨_,_,rfl,rfl,rfl⟩:=h
 exact rfl
theorem vQ (w:World) (base:Nat) (ok:Nat→Prop) (x:gy)  :mE.M w base ok x [.int .i64 x.f0,.int .i64 x.f1]:=⟨[.int .i64 x.f0],[.int .i64 x.f1],rfl,rfl,rfl⟩
def bg (xs:List gy) (i:Int):gy:=xs.getD i.toNat LJ
theorem jb {w:World} {A:Option Addr} {n:Nat} {xs:List gy} (h:Kd.C mE w A n xs) (i:Int) (h0:0≤i) (h1:i<n): ∃ ad,A=some ad∧w.cell? (ad.add (i.toNat*2))=some (.int .i64 (bg xs i).f0)∧w.cell? ⟨(ad.add (i.toNat*2)).block,(ad.add (i.toNat*2)).off+1,none⟩=some (.int .i64 (bg xs i).f1):=by
 obtain ⟨ad,c,e,_,hK,hc0⟩:=Kd.oz h LJ i h0 h1
 have hc: ∀ j u,c[j]?=some u→w.cell? (ad.add (i.toNat*2+j))=some u:=hc0
 obtain rfl:=nJ hK
 exact ⟨ad,e,hc 0 _ rfl,by rw [←mP _ _ 1 (by omega)];exact hc 1 _ rfl⟩
structure Hz where
 f0:(List Int)
 f1:(List Int)
def MV:Kd Hz:=Kd.iso (Kd.pair (Kd.slice 2 (Kd.int .i64)) (Kd.slice 45 (Kd.int .i64))) (fun x:Hz=>(x.f0,x.f1))
structure HZ where
 f0:Bool
 f1:Bool
 f2:(List gy)
 f3:Hz
def MW:Kd HZ:=Kd.iso (Kd.pair Kd.bool (Kd.pair Kd.bool (Kd.pair (Kd.slice 121 mE) MV))) (fun x:HZ=>(x.f0,x.f1,x.f2,x.f3))
structure jG where
 f0:HZ
 f1:(List Int)
 f2:Int
 f3:Bool
 f4:Int
 f5:Bool
def Ld:Kd jG:=Kd.iso (Kd.pair MW (Kd.pair (Kd.slice 45 (Kd.int .i64)) (Kd.pair (Kd.int .i64) (Kd.pair Kd.bool (Kd.pair (Kd.int .u32) Kd.bool))))) (fun x:jG=>(x.f0,x.f1,x.f2,x.f3,x.f4,x.f5))
end Go.Proofs.YtmnjjdeaccgjlaaGreat.PStageNil
namespace Go.Proofs.YtmnjjdeaccgjlaaGreat.PStageNil
open Go.RowKit Go.Proofs.YtmnjjdeaccgjlaaGreatW.PrintWords Go.Proofs.YtmnjjdeaccgjlaaGreatW.PrintLast Go.Proofs.YtmnjjdeaccgjlaaGreatW.PrintMore
attribute [local go_sem] iH iJ jm jo gH gJ iI iK
theorem AQ (d:Nat) (w:World) (x0 y0:Int) (x1 y1:Int):
  (Op.equalIn (d+2) 121 (.agg #[.int .i64 x0,.int .i64 x1]) (.agg #[.int .i64 y0,.int .i64 y1])).run Tryz.prog w= .ok (x0 == y0 && (x1 == y1)) w:=by
 refine Gg Tryz.underlying121 (by kernel_rfl) ?_
 refine vL (by rfl) (by go_simp;rfl) (by go_simp;rfl) (by go_simp) ?_
 exact vM (by rfl) (by go_simp;rfl) (by go_simp;rfl) (by go_simp)
end Go.Proofs.YtmnjjdeaccgjlaaGreat.PStageNil
namespace Go.Proofs.YtmnjjdeaccgjlaaGreat.PStageNil
open Go.RowKit Go.Proofs.YtmnjjdeaccgjlaaGreatW.PrintWords Go.Proofs.YtmnjjdeaccgjlaaGreatW.PrintLast Go.Proofs.YtmnjjdeaccgjlaaGreatW.PrintMore
attribute [local go_sem] iH iJ jm jo gH gJ iI iK
attribute [local go_sem high] AQ
def bC (w0 W:World) (g:Nat) (f0:List (jG)) (f1:List Int) (f2:Int) (f3:Int) (f4:Int):Prop:= ∃ A0 c0,∃ A1 c1,W.heap[g]?=some (.cells #[.slice A0 f0.length c0,.slice A1 f1.length c1,.int .i64 f2,.int .i64 f3,.int .i64 f4] 126 (0,0))∧w0.heap.size≤g∧Kd.C Ld w0 A0 f0.length f0∧Kd.C (Kd.int .i64) w0 A1 f1.length f1
theorem bC.grown {w0 W:World} {g:Nat} {f0:List (jG)} {f1:List Int} {f2:Int} {f3:Int} {f4:Int} {W1:World} {row:Option Nat} (h:bC w0 W g f0 f1 f2 f3 f4) (hw:W.grownBy W1 row) (hne:some g≠row):bC w0 W1 g f0 f1 f2 f3 f4:=by
 obtain ⟨A0,c0,A1,c1,hb,hg,hr0,hr1⟩:=h
 exact ⟨A0,c0,A1,c1,bJ hb hw hne,hg,hr0,hr1⟩
theorem bC.fresh {w0 W:World} {g:Nat} {f0:List (jG)} {f1:List Int} {f2:Int} {f3:Int} {f4:Int} (h:bC w0 W g f0 f1 f2 f3 f4): ∀ k,W.heap.size≤k→k≠g:=by
 obtain ⟨A0,c0,A1,c1,hb,hg,hr0,hr1⟩:=h
 exact Kd.Gh hb
theorem bC.kept {w0 W:World} {g:Nat} {f0:List (jG)} {f1:List Int} {f2:Int} {f3:Int} {f4:Int} {W1:World} {S:Nat→Prop} (h:bC w0 W g f0 f1 f2 f3 f4) (hk:Kept W W1 S) (hne: ¬ S g):bC w0 W1 g f0 f1 f2 f3 f4:=by
 obtain ⟨A0,c0,A1,c1,hb,hg,hr0,hr1⟩:=h
 exact ⟨A0,c0,A1,c1,vH hb hk hne,hg,hr0,hr1⟩
theorem bC.below {w0 W:World} {g:Nat} {f0:List (jG)} {f1:List Int} {f2:Int} {f3:Int} {f4:Int} {W1:World} (h:bC w0 W g f0 f1 f2 f3 f4) (hw:Below W.heap.size W W1):bC w0 W1 g f0 f1 f2 f3 f4:=h.grown (jc hw none) (by simp)
theorem bC.alloc {w0 W:World} {g:Nat} {f0:List (jG)} {f1:List Int} {f2:Int} {f3:Int} {f4:Int} (h:bC w0 W g f0 f1 f2 f3 f4) (o:Obj):bC w0 (W.alloc o) g f0 f1 f2 f3 f4:=h.below (ai (Below.refl _ _) o)
theorem bC.drewN {w0 W:World} {g:Nat} {f0:List (jG)} {f1:List Int} {f2:Int} {f3:Int} {f4:Int} (h:bC w0 W g f0 f1 f2 f3 f4) (m:Nat):bC w0 (W.drewN m) g f0 f1 f2 f3 f4:=h
theorem bC.drew {w0 W:World} {g:Nat} {f0:List (jG)} {f1:List Int} {f2:Int} {f3:Int} {f4:Int} (h:bC w0 W g f0 f1 f2 f3 f4):bC w0 W.drew g f0 f1 f2 f3 f4:=h
theorem bC.at_ {w0 W:World} {g:Nat} {f0:List (jG)} {f1:List Int} {f2:Int} {f3:Int} {f4:Int} {w':World} {m:Nat} (hq:W.drewN m=w') (h:bC w0 W g f0 f1 f2 f3 f4):bC w0 w' g f0 f1 f2 f3 f4:=by subst hq;exact bC.drewN h m
theorem bC.apart {w0 W:World} {g:Nat} {f0:List (jG)} {f1:List Int} {f2:Int} {f3:Int} {f4:Int} {α:Type} {d:Kd α} {e:Nat} {base:Nat} {ok:Nat→Prop} {v:Value} {xs:List α} (h:bC w0 W g f0 f1 f2 f3 f4) (ho:d.R e W base ok v xs) (ht: ∀ q,q∈e::d.E→q≠126):d.R e W base (fun k=>ok k∧k≠g) v xs:=by
 obtain ⟨A0,c0,A1,c1,hb,hg,hr0,hr1⟩:=h
 exact Kd.lg ho hb ht
theorem bC.own_ne {w0 W:World} {g:Nat} {f0:List (jG)} {f1:List Int} {f2:Int} {f3:Int} {f4:Int} {α:Type} {d:Kd α} {e:Nat} {base:Nat} {ok:Nat→Prop} {v:Value} {xs:List α} (h:bC w0 W g f0 f1 f2 f3 f4) (ho:d.R e W base ok v xs) (ht:e≠126):some g≠v.ownBlock:=by
 obtain ⟨A0,c0,A1,c1,hb,hg,hr0,hr1⟩:=h
 exact Kd.JD ho hb ht
theorem bC.lt {w0 W:World} {g:Nat} {f0:List (jG)} {f1:List Int} {f2:Int} {f3:Int} {f4:Int} (h:bC w0 W g f0 f1 f2 f3 f4):g<W.heap.size:=by
 obtain ⟨A0,c0,A1,c1,hb,hg,hr0,hr1⟩:=h
 exact bD hb
theorem bC.ge {w0 W:World} {g:Nat} {f0:List (jG)} {f1:List Int} {f2:Int} {f3:Int} {f4:Int} (h:bC w0 W g f0 f1 f2 f3 f4):w0.heap.size≤g:=by
 obtain ⟨A0,c0,A1,c1,hb,hg,hr0,hr1⟩:=h
 exact hg
theorem bC.far {w0 W:World} {g:Nat} {f0:List (jG)} {f1:List Int} {f2:Int} {f3:Int} {f4:Int} {p:Addr} (h:bC w0 W g f0 f1 f2 f3 f4) (hne:g≠p.block) (u:Value):bC w0 (W.setCell p u) g f0 f1 f2 f3 f4:=by
 obtain ⟨A0,c0,A1,c1,hb,hg,hr0,hr1⟩:=h
 exact ⟨A0,c0,A1,c1,cO hb hne u,hg,hr0,hr1⟩
theorem bC.new (w0 W:World) (A0:Option Addr) (c0:Nat) (A1:Option Addr) (c1:Nat) (f0:List (jG)) (f1:List Int) (f2:Int) (f3:Int) (f4:Int) (hB:Below w0.heap.size w0 W) (hr0:Kd.C Ld w0 A0 f0.length f0) (hr1:Kd.C (Kd.int .i64) w0 A1 f1.length f1):bC w0 (W.alloc (.cells #[.slice A0 f0.length c0,.slice A1 f1.length c1,.int .i64 f2,.int .i64 f3,.int .i64 f4] 126)) W.heap.size f0 f1 f2 f3 f4:=⟨A0,c0,A1,c1,by simpa using heap_alloc_new W _,hB.size,hr0,hr1⟩
def aK.l0:Nat→List (gy)→List (gy)→Int→Int→Option (Bool)
 | 0,_,_,_,_=>none
 | k+1,x0,x1,x12,x13=>if x13<x12 then (if 0≤x13 then (if x13<(x0.length:Int) then (if x13<(x1.length:Int) then (if (!(((bg x0 x13).f0) == ((bg x1 x13).f0)) || (!(((bg x0 x13).f1) == ((bg x1 x13).f1))))=true then (some false) else (aK.l0 k x0 x1 x12 (wrap64 (x13+1)))) else (none)) else (none)) else (none)) else (some true)
def aK.f (k:Nat) (l0:List (gy)) (l1:List (gy)):Option (Bool):=if (l0.length:Int)=(l1.length:Int) then (aK.l0 k l0 l1 (l0.length:Int) 0) else (some false)
theorem aK.calls (k:Nat) (A0:Option Addr) (c0:Nat) (l0:List (gy)) (A1:Option Addr) (c1:Nat) (l1:List (gy)) (r:Bool) (w:World) (hr0:Kd.C mE w A0 l0.length l0) (hc0:l0.length≤c0) (hr1:Kd.C mE w A1 l1.length l1) (hc1:l1.length≤c1) (h:aK.f k l0 l1=some r):
  Calls Tryz.prog 56 #[.slice A0 l0.length c0,.slice A1 l1.length c1] w fun e w'=>e= .returned (.bool r)∧dK w w':=by
 have hu121:=Tryz.underlying121
 have HR0:=Am_ hr0
 have HC0:=Am_ hc0
 clear hr0 hc0
 have HR1:=Am_ hr1
 have HC1:=Am_ hc1
 clear hr1 hc1
 have H:(if (l0.length:Int)=(l1.length:Int) then (aK.l0 k l0 l1 (l0.length:Int) 0) else (some false))=some r:=h
 clear h
 by_cases c3:(l0.length:Int)=(l1.length:Int)
 ·rw [if_pos c3] at H
  have c3b0:((l0.length:Int) == (l1.length:Int))=true:=beq_iff_eq.mpr c3
  have c3b1:((l0.length:Int) != (l1.length:Int))=false:=bne_eq_false_iff_eq.mpr c3
  have c3b2:(l0.length == l1.length)=true:=by first | simpa using c3 | (simp at c3 ⊢;omega)
  clear c3
  have H':=Am_ H
  clear H
  go_enter Tryz.func56,Tryz.ntmps56
  go_wp2
  repeat (go_quiet (fail);try go_wp2)
  go_loopg [13] k (fun kq v13 w'=> ∃ (x13_1:Int),v13= .int .i64 x13_1∧ak (aK.l0 kq l0 l1 (l0.length:Int) x13_1=some r)∧ak (kq≤k)∧dK w w')
  case atStart=>exact ⟨(0),(by first | rfl | (simp;done) | (simp [*];done)),H',⟨Nat.le_refl _⟩,by repeat (first | exact dK.refl _ | apply dK.step)⟩
  case round=>
   clear H'
   try clear c1
   try clear p2
   try clear c3
   try clear c3b0
   try clear c3b1
   try clear c3b2
   obtain ⟨x13_1,rfl,HA,HK1,⟨m1,rfl⟩⟩:=hrel
   cases gk with
   | zero=>exact absurd HA.out (by simp [aK.l0])
   | succ k1=>
    have H:=HA.out
    clear HA
    simp only [aK.l0] at H
    by_cases c4:x13_1<(l0.length:Int)
    ·rw [if_pos c4] at H
     have c4b0:decide (x13_1<(l0.length:Int))=true:=decide_eq_true c4
     clear c4
     by_cases c5:0≤x13_1
     ·rw [if_pos c5] at H
      have c5b0:decide (0≤x13_1)=true:=decide_eq_true c5
      clear c5
      by_cases c6:x13_1<(l0.length:Int)
      ·rw [if_pos c6] at H
       have c6b0:decide (x13_1<(l0.length:Int))=true:=decide_eq_true c6
       clear c6
       by_cases c7:x13_1<(l1.length:Int)
       ·rw [if_pos c7] at H
        have c7b0:decide (x13_1<(l1.length:Int))=true:=decide_eq_true c7
        clear c7
        by_cases c8:(!(((bg l0 x13_1).f0) == ((bg l1 x13_1).f0)) || (!(((bg l0 x13_1).f1) == ((bg l1 x13_1).f1))))=true
        ·rw [if_pos c8] at H
         have c8b0:(!(((bg l0 x13_1).f0) == ((bg l1 x13_1).f0)) || (!(((bg l0 x13_1).f1) == ((bg l1 x13_1).f1))))=true:=c8
         clear c8
         obtain rfl:=Option.some.inj H
         have p140:0≤(x13_1:Int):=of_decide_eq_true (by first | (with_reducible assumption) | assumption)
         have q140:x13_1<(l0.length:Int):=of_decide_eq_true (by first | (with_reducible assumption) | assumption)
         obtain ⟨ad140,e140,hx140_0,hx140_1⟩:=jb HR0.out x13_1 p140 q140
         cases e140
         replace p140:=eq_true p140
         replace q140:=eq_true q140
         have p141:0≤(x13_1:Int):=of_decide_eq_true (by first | (with_reducible assumption) | assumption)
         have q141:x13_1<(l1.length:Int):=of_decide_eq_true (by first | (with_reducible assumption) | assumption)
         obtain ⟨ad141,e141,hx141_0,hx141_1⟩:=jb HR1.out x13_1 p141 q141
         cases e141
         replace p141:=eq_true p141
         replace q141:=eq_true q141
         go_wp2
         repeat (go_quiet (fail);try go_wp2)
         go_ret
         exact ⟨by first | rfl | (simp;done) | (simp [*];done),by repeat (first | exact dK.refl _ | apply dK.step)⟩
        ·rw [if_neg c8] at H
         have c8b0:(!(((bg l0 x13_1).f0) == ((bg l1 x13_1).f0)) || (!(((bg l0 x13_1).f1) == ((bg l1 x13_1).f1))))=false:=by simpa using c8
         clear c8
         have H':=Am_ H
         clear H
         have p140:0≤(x13_1:Int):=of_decide_eq_true (by first | (with_reducible assumption) | assumption)
         have q140:x13_1<(l0.length:Int):=of_decide_eq_true (by first | (with_reducible assumption) | assumption)
         obtain ⟨ad140,e140,hx140_0,hx140_1⟩:=jb HR0.out x13_1 p140 q140
         cases e140
         replace p140:=eq_true p140
         replace q140:=eq_true q140
         have p141:0≤(x13_1:Int):=of_decide_eq_true (by first | (with_reducible assumption) | assumption)
         have q141:x13_1<(l1.length:Int):=of_decide_eq_true (by first | (with_reducible assumption) | assumption)
         obtain ⟨ad141,e141,hx141_0,hx141_1⟩:=jb HR1.out x13_1 p141 q141
         cases e141
         replace p141:=eq_true p141
         replace q141:=eq_true q141
         go_wp2
         repeat (go_quiet (fail);try go_wp2)
         go_roundg k1
         case measure=>have:=HK1.out;omega
         case rel=>exact ⟨(wrap64 (x13_1+1)),(by first | rfl | (simp;done) | (simp [*];done)),H',⟨by have:=HK1.out;omega⟩,by repeat (first | exact dK.refl _ | apply dK.step)⟩
       ·rw [if_neg c7] at H
        exact absurd H (by simp)
      ·rw [if_neg c6] at H
       exact absurd H (by simp)
     ·rw [if_neg c5] at H
      exact absurd H (by simp)
    ·rw [if_neg c4] at H
     have c4b0:decide (x13_1<(l0.length:Int))=false:=decide_eq_false c4
     clear c4
     obtain rfl:=Option.some.inj H
     go_wp2
     repeat (go_quiet (fail);try go_wp2)
     go_ret
     exact ⟨by first | rfl | (simp;done) | (simp [*];done),by repeat (first | exact dK.refl _ | apply dK.step)⟩
 ·rw [if_neg c3] at H
  have c3b0:((l0.length:Int) == (l1.length:Int))=false:=beq_eq_false_iff_ne.mpr c3
  have c3b1:((l0.length:Int) != (l1.length:Int))=true:=bne_iff_ne.mpr c3
  have c3b2:(l0.length == l1.length)=false:=by first | simpa using c3 | (simp at c3 ⊢;omega)
  obtain rfl:=Option.some.inj H
  go_enter Tryz.func56,Tryz.ntmps56
  go_wp2
  repeat (go_quiet (fail);try go_wp2)
  go_ret
  exact ⟨by first | rfl | (simp;done) | (simp [*];done),by repeat (first | exact dK.refl _ | apply dK.step)⟩
end Go.Proofs.YtmnjjdeaccgjlaaGreat.PStageNil
namespace Go.Proofs.YtmnjjdeaccgjlaaGreat.PStageNil
open Go.RowKit Go.Proofs.YtmnjjdeaccgjlaaGreatW.PrintWords Go.Proofs.YtmnjjdeaccgjlaaGreatW.PrintLast Go.Proofs.YtmnjjdeaccgjlaaGreatW.PrintMore
attribute [local go_sem] iH iJ jm jo gH gJ iI iK
def gM.f (k:Nat) (l0_0:List (gy)) (a0_1:Int) (a0_2:Int) (a0_3:Bool) (a0_4:Int) (l1_0:List (gy)) (a1_1:Int) (a1_2:Int) (a1_3:Bool) (a1_4:Int):Option (Bool):=(aK.f k l0_0 l1_0).bind fun t162=>(if t162=true then (if a0_1=a1_1 then (if a0_2=a1_2 then (if (a0_3 == a1_3)=true then (some (a0_4 == a1_4)) else (some false)) else (some false)) else (some false)) else (some false))
theorem gM.calls (k:Nat) (A0_0:Option Addr) (c0_0:Nat) (l0_0:List (gy)) (a0_1:Int) (a0_2:Int) (a0_3:Bool) (a0_4:Int) (A1_0:Option Addr) (c1_0:Nat) (l1_0:List (gy)) (a1_1:Int) (a1_2:Int) (a1_3:Bool) (a1_4:Int) (r:Bool) (w:World) (hr0_0:Kd.C mE w A0_0 l0_0.length l0_0) (hc0_0:l0_0.length≤c0_0) (hr1_0:Kd.C mE w A1_0 l1_0.length l1_0) (hc1_0:l1_0.length≤c1_0) (h:gM.f k l0_0 a0_1 a0_2 a0_3 a0_4 l1_0 a1_1 a1_2 a1_3 a1_4=some r):
  Calls Tryz.prog 37 #[.agg #[.slice A0_0 l0_0.length c0_0,.int .i64 a0_1,.int .i64 a0_2,.bool a0_3,.int .i64 a0_4],.agg #[.slice A1_0 l1_0.length c1_0,.int .i64 a1_1,.int .i64 a1_2,.bool a1_3,.int .i64 a1_4]] w fun e w'=>e= .returned (.bool r)∧Below w.heap.size w w':=by
 have hu71:=Tryz.underlying71
 have HR0_0:=Am_ hr0_0
 have HC0_0:=Am_ hc0_0
 clear hr0_0 hc0_0
 have HR1_0:=Am_ hr1_0
 have HC1_0:=Am_ hc1_0
 clear hr1_0 hc1_0
 have HB:=Am_ (Below.refl w.heap.size w)
 have H:((aK.f k l0_0 l1_0).bind fun t162=>(if t162=true then (if a0_1=a1_1 then (if a0_2=a1_2 then (if (a0_3 == a1_3)=true then (some (a0_4 == a1_4)) else (some false)) else (some false)) else (some false)) else (some false)))=some r:=h
 clear h
 replace H:=Option.bind_eq_some_iff.mp H
 obtain ⟨t162,A30,H⟩:=H
 replace H:(if t162=true then (if a0_1=a1_1 then (if a0_2=a1_2 then (if (a0_3 == a1_3)=true then (some (a0_4 == a1_4)) else (some false)) else (some false)) else (some false)) else (some false))=some r:=H
 have A3:=Am_ A30
 clear A30
 by_cases c4:t162=true
 ·subst c4
  have H1:(if a0_1=a1_1 then (if a0_2=a1_2 then (if (a0_3 == a1_3)=true then (some (a0_4 == a1_4)) else (some false)) else (some false)) else (some false))=some r:=by rw [if_pos rfl] at H;exact H
  clear H
  have H:=H1
  clear H1
  by_cases c5:a0_1=a1_1
  ·rw [if_pos c5] at H
   have c5b0:(a0_1 == a1_1)=true:=beq_iff_eq.mpr c5
   have c5b1:(a0_1 != a1_1)=false:=bne_eq_false_iff_eq.mpr c5
   clear c5
   by_cases c6:a0_2=a1_2
   ·rw [if_pos c6] at H
    have c6b0:(a0_2 == a1_2)=true:=beq_iff_eq.mpr c6
    have c6b1:(a0_2 != a1_2)=false:=bne_eq_false_iff_eq.mpr c6
    clear c6
    by_cases c7:(a0_3 == a1_3)=true
    ·rw [if_pos c7] at H
     have c7b0:(a0_3 == a1_3)=true:=c7
     (try (have c7b1:decide (a0_3=a1_3)=true:=by simpa using c7))
     (try (have c7b2:(a0_3 == a1_3)=true:=by simpa using c7))
     clear c7
     obtain rfl:=Option.some.inj H
     go_enter Tryz.func37,Tryz.ntmps37
     go_wp2_with (first | ((with_reducible refine fH (N:=2) rfl ?_);refine eZ ?hg (N:=2) ?hd (cs:= #[.slice A0_0 l0_0.length c0_0,.int .i64 a0_1,.int .i64 a0_2,.bool a0_3,.int .i64 a0_4]) (t:=71) ?hr ?_;(case hd=>rfl);(case hg=>rfl);(case hr=>first | (go_simp;done) | (go_simp;rfl));intro gb160 hg w8 hbox hb;have n0_:=Am_ (dJ (by repeat (first | (with_reducible first | exact HB.out | apply ai | apply au | apply aA) | exact HB.out)) hb);have n1_:=Am_ (hbox);have n2_:=Am_ ((by rw [hg];exact (bB (by repeat (first | (with_reducible first | exact HB.out | apply ai | apply au | apply aA) | exact HB.out))):w.heap.size≤gb160));have n3_:=Am_ ((by rw [hg];exact (bB (by repeat (first | (with_reducible first | exact HB.out | apply ai | apply au | apply aA) | exact HB.out))):w.heap.size≤gb160));clear HB;have HB:=n0_;have BK160:=n1_;have GW160:=n2_;have GE160:=n3_;clear n0_ n1_ n2_ n3_;clear hb hbox hg) | ((with_reducible refine fH (N:=3) rfl ?_);refine eZ ?hg (N:=3) ?hd (cs:= #[.slice A1_0 l1_0.length c1_0,.int .i64 a1_1,.int .i64 a1_2,.bool a1_3,.int .i64 a1_4]) (t:=71) ?hr ?_;(case hd=>rfl);(case hg=>rfl);(case hr=>first | (go_simp;done) | (go_simp;rfl));intro gb161 hg w9 hbox hb;have n0_:=Am_ (bF (g:=gb160) (o:= .cells #[.slice A0_0 l0_0.length c0_0,.int .i64 a0_1,.int .i64 a0_2,.bool a0_3,.int .i64 a0_4] 71 (0,0)) (by (with_reducible repeat (first | refine aG ?_ _ | refine aI ?_ | refine aC ?_ _));exact BK160.out) hb);have n1_:=Am_ (dJ (by repeat (first | (with_reducible first | exact HB.out | apply ai | apply au | apply aA | refine aN ?_ GE160.out) | exact HB.out)) hb);have n2_:=Am_ (hbox);have n3_:=Am_ ((by rw [hg];exact (bB (by repeat (first | (with_reducible first | exact HB.out | apply ai | apply au | apply aA | refine aN ?_ GE160.out) | exact HB.out))):w.heap.size≤gb161));have n4_:=Am_ ((by rw [hg];exact (bB (by repeat (first | (with_reducible first | exact HB.out | apply ai | apply au | apply aA | refine aN ?_ GE160.out) | exact HB.out))):w.heap.size≤gb161));have n5_:=Am_ ((by rw [hg];exact Nat.ne_of_lt (bD (g:=gb160) (o:= .cells #[.slice A0_0 l0_0.length c0_0,.int .i64 a0_1,.int .i64 a0_2,.bool a0_3,.int .i64 a0_4] 71 (0,0)) (by (with_reducible repeat (first | refine aG ?_ _ | refine aI ?_ | refine aC ?_ _));exact BK160.out)):gb160≠gb161));have n6_:=Am_ ((by rw [hg];exact Nat.ne_of_gt (bD (g:=gb160) (o:= .cells #[.slice A0_0 l0_0.length c0_0,.int .i64 a0_1,.int .i64 a0_2,.bool a0_3,.int .i64 a0_4] 71 (0,0)) (by (with_reducible repeat (first | refine aG ?_ _ | refine aI ?_ | refine aC ?_ _));exact BK160.out)):gb161≠gb160));clear BK160;clear HB;have BK160:=n0_;have HB:=n1_;have BK161:=n2_;have GW161:=n3_;have GE161:=n4_;have NB160_161:=n5_;have NB161_160:=n6_;clear n0_ n1_ n2_ n3_ n4_ n5_ n6_;clear hb hbox hg;have hnb10:=NB160_161.out;have hnc10:=NB161_160.out;have hcz11_0:w9.cell? ⟨gb160,0,none⟩=some (.slice A0_0 l0_0.length c0_0):=(af BK160.out 0).trans rfl;have hcz11_1:w9.cell? ⟨gb160,1,none⟩=some (.int .i64 a0_1):=(af BK160.out 1).trans rfl;have hcz11_2:w9.cell? ⟨gb160,2,none⟩=some (.int .i64 a0_2):=(af BK160.out 2).trans rfl;have hcz11_3:w9.cell? ⟨gb160,3,none⟩=some (.bool a0_3):=(af BK160.out 3).trans rfl;have hcz11_4:w9.cell? ⟨gb160,4,none⟩=some (.int .i64 a0_4):=(af BK160.out 4).trans rfl;have hfz11_0:=ah BK160.out 0;have hfz11_1:=ah BK160.out 1;have hfz11_2:=ah BK160.out 2;have hfz11_3:=ah BK160.out 3;have hfz11_4:=ah BK160.out 4;have hcz12_0:w9.cell? ⟨gb161,0,none⟩=some (.slice A1_0 l1_0.length c1_0):=(af BK161.out 0).trans rfl;have hcz12_1:w9.cell? ⟨gb161,1,none⟩=some (.int .i64 a1_1):=(af BK161.out 1).trans rfl;have hcz12_2:w9.cell? ⟨gb161,2,none⟩=some (.int .i64 a1_2):=(af BK161.out 2).trans rfl;have hcz12_3:w9.cell? ⟨gb161,3,none⟩=some (.bool a1_3):=(af BK161.out 3).trans rfl;have hcz12_4:w9.cell? ⟨gb161,4,none⟩=some (.int .i64 a1_4):=(af BK161.out 4).trans rfl;have hfz12_0:=ah BK161.out 0;have hfz12_1:=ah BK161.out 1;have hfz12_2:=ah BK161.out 2;have hfz12_3:=ah BK161.out 3;have hfz12_4:=ah BK161.out 4) | ((with_reducible refine iT (f:=56) rfl ?_);refine rE (some 9) rfl rfl Tryz.func56 (by kernel_rfl) rfl #[.slice A0_0 l0_0.length c0_0,.slice A1_0 l1_0.length c1_0] rfl (by (try simp only [List.map_toArray,List.map_cons,List.map_nil]);first | done | rfl | (simp only [List.length_drop,List.length_take];rfl)) ?_;(with_reducible refine (aK.calls k _ _ l0_0 _ _ l1_0 true _ ?side1 ?side2 ?side3 ?side4 A3.out).mono ?_);(case side1=>repeat (first | exact (Kd.bO HR0_0.out HB.out) | (with_reducible refine Kd.iL ?_ _) | (with_reducible refine Kd.iM ?_ _) | (with_reducible refine Kd.jF ?_)));(case side2=>exact HC0_0.out);(case side3=>repeat (first | exact (Kd.bO HR1_0.out HB.out) | (with_reducible refine Kd.iL ?_ _) | (with_reducible refine Kd.iM ?_ _) | (with_reducible refine Kd.jF ?_)));(case side4=>exact HC1_0.out);rintro e w' ⟨rfl,⟨nd,rfl⟩⟩;refine ⟨_,rfl,?_⟩))
     go_ret
     exact ⟨by first | rfl | (simp [dP,dQ]<;>rfl) | (simp [*,dP,dQ]<;>rfl),by repeat (first | (with_reducible first | exact HB.out | apply ai | apply au | apply aA | refine aN ?_ GE160.out | refine aN ?_ GE161.out) | exact HB.out)⟩
    ·rw [if_neg c7] at H
     have c7b0:(a0_3 == a1_3)=false:=by simpa using c7
     (try (have c7b1:decide (a0_3=a1_3)=false:=by simpa using c7))
     (try (have c7b2:(a0_3 == a1_3)=false:=by simpa using c7))
     (try (have c7b3: ¬ (a0_3=a1_3):=by simpa using c7))
     clear c7
     obtain rfl:=Option.some.inj H
     go_enter Tryz.func37,Tryz.ntmps37
     go_wp2_with (first | ((with_reducible refine fH (N:=2) rfl ?_);refine eZ ?hg (N:=2) ?hd (cs:= #[.slice A0_0 l0_0.length c0_0,.int .i64 a0_1,.int .i64 a0_2,.bool a0_3,.int .i64 a0_4]) (t:=71) ?hr ?_;(case hd=>rfl);(case hg=>rfl);(case hr=>first | (go_simp;done) | (go_simp;rfl));intro gb160 hg w13 hbox hb;have n0_:=Am_ (dJ (by repeat (first | (with_reducible first | exact HB.out | apply ai | apply au | apply aA) | exact HB.out)) hb);have n1_:=Am_ (hbox);have n2_:=Am_ ((by rw [hg];exact (bB (by repeat (first | (with_reducible first | exact HB.out | apply ai | apply au | apply aA) | exact HB.out))):w.heap.size≤gb160));have n3_:=Am_ ((by rw [hg];exact (bB (by repeat (first | (with_reducible first | exact HB.out | apply ai | apply au | apply aA) | exact HB.out))):w.heap.size≤gb160));clear HB;have HB:=n0_;have BK160:=n1_;have GW160:=n2_;have GE160:=n3_;clear n0_ n1_ n2_ n3_;clear hb hbox hg) | ((with_reducible refine fH (N:=3) rfl ?_);refine eZ ?hg (N:=3) ?hd (cs:= #[.slice A1_0 l1_0.length c1_0,.int .i64 a1_1,.int .i64 a1_2,.bool a1_3,.int .i64 a1_4]) (t:=71) ?hr ?_;(case hd=>rfl);(case hg=>rfl);(case hr=>first | (go_simp;done) | (go_simp;rfl));intro gb161 hg w14 hbox hb;have n0_:=Am_ (bF (g:=gb160) (o:= .cells #[.slice A0_0 l0_0.length c0_0,.int .i64 a0_1,.int .i64 a0_2,.bool a0_3,.int .i64 a0_4] 71 (0,0)) (by (with_reducible repeat (first | refine aG ?_ _ | refine aI ?_ | refine aC ?_ _));exact BK160.out) hb);have n1_:=Am_ (dJ (by repeat (first | (with_reducible first | exact HB.out | apply ai | apply au | apply aA | refine aN ?_ GE160.out) | exact HB.out)) hb);have n2_:=Am_ (hbox);have n3_:=Am_ ((by rw [hg];exact (bB (by repeat (first | (with_reducible first | exact HB.out | apply ai | apply au | apply aA | refine aN ?_ GE160.out) | exact HB.out))):w.heap.size≤gb161));have n4_:=Am_ ((by rw [hg];exact (bB (by repeat (first | (with_reducible first | exact HB.out | apply ai | apply au | apply aA | refine aN ?_ GE160.out) | exact HB.out))):w.heap.size≤gb161));have n5_:=Am_ ((by rw [hg];exact Nat.ne_of_lt (bD (g:=gb160) (o:= .cells #[.slice A0_0 l0_0.length c0_0,.int .i64 a0_1,.int .i64 a0_2,.bool a0_3,.int .i64 a0_4] 71 (0,0)) (by (with_reducible repeat (first | refine aG ?_ _ | refine aI ?_ | refine aC ?_ _));exact BK160.out)):gb160≠gb161));have n6_:=Am_ ((by rw [hg];exact Nat.ne_of_gt (bD (g:=gb160) (o:= .cells #[.slice A0_0 l0_0.length c0_0,.int .i64 a0_1,.int .i64 a0_2,.bool a0_3,.int .i64 a0_4] 71 (0,0)) (by (with_reducible repeat (first | refine aG ?_ _ | refine aI ?_ | refine aC ?_ _));exact BK160.out)):gb161≠gb160));clear BK160;clear HB;have BK160:=n0_;have HB:=n1_;have BK161:=n2_;have GW161:=n3_;have GE161:=n4_;have NB160_161:=n5_;have NB161_160:=n6_;clear n0_ n1_ n2_ n3_ n4_ n5_ n6_;clear hb hbox hg;have hnb15:=NB160_161.out;have hnc15:=NB161_160.out;have hcz16_0:w14.cell? ⟨gb160,0,none⟩=some (.slice A0_0 l0_0.length c0_0):=(af BK160.out 0).trans rfl;have hcz16_1:w14.cell? ⟨gb160,1,none⟩=some (.int .i64 a0_1):=(af BK160.out 1).trans rfl;have hcz16_2:w14.cell? ⟨gb160,2,none⟩=some (.int .i64 a0_2):=(af BK160.out 2).trans rfl;have hcz16_3:w14.cell? ⟨gb160,3,none⟩=some (.bool a0_3):=(af BK160.out 3).trans rfl;have hcz16_4:w14.cell? ⟨gb160,4,none⟩=some (.int .i64 a0_4):=(af BK160.out 4).trans rfl;have hfz16_0:=ah BK160.out 0;have hfz16_1:=ah BK160.out 1;have hfz16_2:=ah BK160.out 2;have hfz16_3:=ah BK160.out 3;have hfz16_4:=ah BK160.out 4;have hcz17_0:w14.cell? ⟨gb161,0,none⟩=some (.slice A1_0 l1_0.length c1_0):=(af BK161.out 0).trans rfl;have hcz17_1:w14.cell? ⟨gb161,1,none⟩=some (.int .i64 a1_1):=(af BK161.out 1).trans rfl;have hcz17_2:w14.cell? ⟨gb161,2,none⟩=some (.int .i64 a1_2):=(af BK161.out 2).trans rfl;have hcz17_3:w14.cell? ⟨gb161,3,none⟩=some (.bool a1_3):=(af BK161.out 3).trans rfl;have hcz17_4:w14.cell? ⟨gb161,4,none⟩=some (.int .i64 a1_4):=(af BK161.out 4).trans rfl;have hfz17_0:=ah BK161.out 0;have hfz17_1:=ah BK161.out 1;have hfz17_2:=ah BK161.out 2;have hfz17_3:=ah BK161.out 3;have hfz17_4:=ah BK161.out 4) | ((with_reducible refine iT (f:=56) rfl ?_);refine rE (some 9) rfl rfl Tryz.func56 (by kernel_rfl) rfl #[.slice A0_0 l0_0.length c0_0,.slice A1_0 l1_0.length c1_0] rfl (by (try simp only [List.map_toArray,List.map_cons,List.map_nil]);first | done | rfl | (simp only [List.length_drop,List.length_take];rfl)) ?_;(with_reducible refine (aK.calls k _ _ l0_0 _ _ l1_0 true _ ?side1 ?side2 ?side3 ?side4 A3.out).mono ?_);(case side1=>repeat (first | exact (Kd.bO HR0_0.out HB.out) | (with_reducible refine Kd.iL ?_ _) | (with_reducible refine Kd.iM ?_ _) | (with_reducible refine Kd.jF ?_)));(case side2=>exact HC0_0.out);(case side3=>repeat (first | exact (Kd.bO HR1_0.out HB.out) | (with_reducible refine Kd.iL ?_ _) | (with_reducible refine Kd.iM ?_ _) | (with_reducible refine Kd.jF ?_)));(case side4=>exact HC1_0.out);rintro e w' ⟨rfl,⟨nd,rfl⟩⟩;refine ⟨_,rfl,?_⟩))
     go_ret
     exact ⟨by first | rfl | (simp [dP,dQ]<;>rfl) | (simp [*,dP,dQ]<;>rfl),by repeat (first | (with_reducible first | exact HB.out | apply ai | apply au | apply aA | refine aN ?_ GE160.out | refine aN ?_ GE161.out) | exact HB.out)⟩
   ·rw [if_neg c6] at H
    have c6b0:(a0_2 == a1_2)=false:=beq_eq_false_iff_ne.mpr c6
    have c6b1:(a0_2 != a1_2)=true:=bne_iff_ne.mpr c6
    obtain rfl:=Option.some.inj H
    go_enter Tryz.func37,Tryz.ntmps37
    go_wp2_with (first | ((with_reducible refine fH (N:=2) rfl ?_);refine eZ ?hg (N:=2) ?hd (cs:= #[.slice A0_0 l0_0.length c0_0,.int .i64 a0_1,.int .i64 a0_2,.bool a0_3,.int .i64 a0_4]) (t:=71) ?hr ?_;(case hd=>rfl);(case hg=>rfl);(case hr=>first | (go_simp;done) | (go_simp;rfl));intro gb160 hg w18 hbox hb;have n0_:=Am_ (dJ (by repeat (first | (with_reducible first | exact HB.out | apply ai | apply au | apply aA) | exact HB.out)) hb);have n1_:=Am_ (hbox);have n2_:=Am_ ((by rw [hg];exact (bB (by repeat (first | (with_reducible first | exact HB.out | apply ai | apply au | apply aA) | exact HB.out))):w.heap.size≤gb160));have n3_:=Am_ ((by rw [hg];exact (bB (by repeat (first | (with_reducible first | exact HB.out | apply ai | apply au | apply aA) | exact HB.out))):w.heap.size≤gb160));clear HB;have HB:=n0_;have BK160:=n1_;have GW160:=n2_;have GE160:=n3_;clear n0_ n1_ n2_ n3_;clear hb hbox hg) | ((with_reducible refine fH (N:=3) rfl ?_);refine eZ ?hg (N:=3) ?hd (cs:= #[.slice A1_0 l1_0.length c1_0,.int .i64 a1_1,.int .i64 a1_2,.bool a1_3,.int .i64 a1_4]) (t:=71) ?hr ?_;(case hd=>rfl);(case hg=>rfl);(case hr=>first | (go_simp;done) | (go_simp;rfl));intro gb161 hg w19 hbox hb;have n0_:=Am_ (bF (g:=gb160) (o:= .cells #[.slice A0_0 l0_0.length c0_0,.int .i64 a0_1,.int .i64 a0_2,.bool a0_3,.int .i64 a0_4] 71 (0,0)) (by (with_reducible repeat (first | refine aG ?_ _ | refine aI ?_ | refine aC ?_ _));exact BK160.out) hb);have n1_:=Am_ (dJ (by repeat (first | (with_reducible first | exact HB.out | apply ai | apply au | apply aA | refine aN ?_ GE160.out) | exact HB.out)) hb);have n2_:=Am_ (hbox);have n3_:=Am_ ((by rw [hg];exact (bB (by repeat (first | (with_reducible first | exact HB.out | apply ai | apply au | apply aA | refine aN ?_ GE160.out) | exact HB.out))):w.heap.size≤gb161));have n4_:=Am_ ((by rw [hg];exact (bB (by repeat (first | (with_reducible first | exact HB.out | apply ai | apply au | apply aA | refine aN ?_ GE160.out) | exact HB.out))):w.heap.size≤gb161));have n5_:=Am_ ((by rw [hg];exact Nat.ne_of_lt (bD (g:=gb160) (o:= .cells #[.slice A0_0 l0_0.length c0_0,.int .i64 a0_1,.int .i64 a0_2,.bool a0_3,.int .i64 a0_4] 71 (0,0)) (by (with_reducible repeat (first | refine aG ?_ _ | refine aI ?_ | refine aC ?_ _));exact BK160.out)):gb160≠gb161));have n6_:=Am_ ((by rw [hg];exact Nat.ne_of_gt (bD (g:=gb160) (o:= .cells #[.slice A0_0 l0_0.length c0_0,.int .i64 a0_1,.int .i64 a0_2,.bool a0_3,.int .i64 a0_4] 71 (0,0)) (by (with_reducible repeat (first | refine aG ?_ _ | refine aI ?_ | refine aC ?_ _));exact BK160.out)):gb161≠gb160));clear BK160;clear HB;have BK160:=n0_;have HB:=n1_;have BK161:=n2_;have GW161:=n3_;have GE161:=n4_;have NB160_161:=n5_;have NB161_160:=n6_;clear n0_ n1_ n2_ n3_ n4_ n5_ n6_;clear hb hbox hg;have hnb20:=NB160_161.out;have hnc20:=NB161_160.out;have hcz21_0:w19.cell? ⟨gb160,0,none⟩=some (.slice A0_0 l0_0.length c0_0):=(af BK160.out 0).trans rfl;have hcz21_1:w19.cell? ⟨gb160,1,none⟩=some (.int .i64 a0_1):=(af BK160.out 1).trans rfl;have hcz21_2:w19.cell? ⟨gb160,2,none⟩=some (.int .i64 a0_2):=(af BK160.out 2).trans rfl;have hcz21_3:w19.cell? ⟨gb160,3,none⟩=some (.bool a0_3):=(af BK160.out 3).trans rfl;have hcz21_4:w19.cell? ⟨gb160,4,none⟩=some (.int .i64 a0_4):=(af BK160.out 4).trans rfl;have hfz21_0:=ah BK160.out 0;have hfz21_1:=ah BK160.out 1;have hfz21_2:=ah BK160.out 2;have hfz21_3:=ah BK160.out 3;have hfz21_4:=ah BK160.out 4;have hcz22_0:w19.cell? ⟨gb161,0,none⟩=some (.slice A1_0 l1_0.length c1_0):=(af BK161.out 0).trans rfl;have hcz22_1:w19.cell? ⟨gb161,1,none⟩=some (.int .i64 a1_1):=(af BK161.out 1).trans rfl;have hcz22_2:w19.cell? ⟨gb161,2,none⟩=some (.int .i64 a1_2):=(af BK161.out 2).trans rfl;have hcz22_3:w19.cell? ⟨gb161,3,none⟩=some (.bool a1_3):=(af BK161.out 3).trans rfl;have hcz22_4:w19.cell? ⟨gb161,4,none⟩=some (.int .i64 a1_4):=(af BK161.out 4).trans rfl;have hfz22_0:=ah BK161.out 0;have hfz22_1:=ah BK161.out 1;have hfz22_2:=ah BK161.out 2;have hfz22_3:=ah BK161.out 3;have hfz22_4:=ah BK161.out 4) | ((with_reducible refine iT (f:=56) rfl ?_);refine rE (some 9) rfl rfl Tryz.func56 (by kernel_rfl) rfl #[.slice A0_0 l0_0.length c0_0,.slice A1_0 l1_0.length c1_0] rfl (by (try simp only [List.map_toArray,List.map_cons,List.map_nil]);first | done | rfl | (simp only [List.length_drop,List.length_take];rfl)) ?_;(with_reducible refine (aK.calls k _ _ l0_0 _ _ l1_0 true _ ?side1 ?side2 ?side3 ?side4 A3.out).mono ?_);(case side1=>repeat (first | exact (Kd.bO HR0_0.out HB.out) | (with_reducible refine Kd.iL ?_ _) | (with_reducible refine Kd.iM ?_ _) | (with_reducible refine Kd.jF ?_)));(case side2=>exact HC0_0.out);(case side3=>repeat (first | exact (Kd.bO HR1_0.out HB.out) | (with_reducible refine Kd.iL ?_ _) | (with_reducible refine Kd.iM ?_ _) | (with_reducible refine Kd.jF ?_)));(case side4=>exact HC1_0.out);rintro e w' ⟨rfl,⟨nd,rfl⟩⟩;refine ⟨_,rfl,?_⟩))
    go_ret
    exact ⟨by first | rfl | (simp [dP,dQ]<;>rfl) | (simp [*,dP,dQ]<;>rfl),by repeat (first | (with_reducible first | exact HB.out | apply ai | apply au | apply aA | refine aN ?_ GE160.out | refine aN ?_ GE161.out) | exact HB.out)⟩
  ·rw [if_neg c5] at H
   have c5b0:(a0_1 == a1_1)=false:=beq_eq_false_iff_ne.mpr c5
   have c5b1:(a0_1 != a1_1)=true:=bne_iff_ne.mpr c5
   obtain rfl:=Option.some.inj H
   go_enter Tryz.func37,Tryz.ntmps37
   go_wp2_with (first | ((with_reducible refine fH (N:=2) rfl ?_);refine eZ ?hg (N:=2) ?hd (cs:= #[.slice A0_0 l0_0.length c0_0,.int .i64 a0_1,.int .i64 a0_2,.bool a0_3,.int .i64 a0_4]) (t:=71) ?hr ?_;(case hd=>rfl);(case hg=>rfl);(case hr=>first | (go_simp;done) | (go_simp;rfl));intro gb160 hg w23 hbox hb;have n0_:=Am_ (dJ (by repeat (first | (with_reducible first | exact HB.out | apply ai | apply au | apply aA) | exact HB.out)) hb);have n1_:=Am_ (hbox);have n2_:=Am_ ((by rw [hg];exact (bB (by repeat (first | (with_reducible first | exact HB.out | apply ai | apply au | apply aA) | exact HB.out))):w.heap.size≤gb160));have n3_:=Am_ ((by rw [hg];exact (bB (by repeat (first | (with_reducible first | exact HB.out | apply ai | apply au | apply aA) | exact HB.out))):w.heap.size≤gb160));clear HB;have HB:=n0_;have BK160:=n1_;have GW160:=n2_;have GE160:=n3_;clear n0_ n1_ n2_ n3_;clear hb hbox hg) | ((with_reducible refine fH (N:=3) rfl ?_);refine eZ ?hg (N:=3) ?hd (cs:= #[.slice A1_0 l1_0.length c1_0,.int .i64 a1_1,.int .i64 a1_2,.bool a1_3,.int .i64 a1_4]) (t:=71) ?hr ?_;(case hd=>rfl);(case hg=>rfl);(case hr=>first | (go_simp;done) | (go_simp;rfl));intro gb161 hg w24 hbox hb;have n0_:=Am_ (bF (g:=gb160) (o:= .cells #[.slice A0_0 l0_0.length c0_0,.int .i64 a0_1,.int .i64 a0_2,.bool a0_3,.int .i64 a0_4] 71 (0,0)) (by (with_reducible repeat (first | refine aG ?_ _ | refine aI ?_ | refine aC ?_ _));exact BK160.out) hb);have n1_:=Am_ (dJ (by repeat (first | (with_reducible first | exact HB.out | apply ai | apply au | apply aA | refine aN ?_ GE160.out) | exact HB.out)) hb);have n2_:=Am_ (hbox);have n3_:=Am_ ((by rw [hg];exact (bB (by repeat (first | (with_reducible first | exact HB.out | apply ai | apply au | apply aA | refine aN ?_ GE160.out) | exact HB.out))):w.heap.size≤gb161));have n4_:=Am_ ((by rw [hg];exact (bB (by repeat (first | (with_reducible first | exact HB.out | apply ai | apply au | apply aA | refine aN ?_ GE160.out) | exact HB.out))):w.heap.size≤gb161));have n5_:=Am_ ((by rw [hg];exact Nat.ne_of_lt (bD (g:=gb160) (o:= .cells #[.slice A0_0 l0_0.length c0_0,.int .i64 a0_1,.int .i64 a0_2,.bool a0_3,.int .i64 a0_4] 71 (0,0)) (by (with_reducible repeat (first | refine aG ?_ _ | refine aI ?_ | refine aC ?_ _));exact BK160.out)):gb160≠gb161));have n6_:=Am_ ((by rw [hg];exact Nat.ne_of_gt (bD (g:=gb160) (o:= .cells #[.slice A0_0 l0_0.length c0_0,.int .i64 a0_1,.int .i64 a0_2,.bool a0_3,.int .i64 a0_4] 71 (0,0)) (by (with_reducible repeat (first | refine aG ?_ _ | refine aI ?_ | refine aC ?_ _));exact BK160.out)):gb161≠gb160));clear BK160;clear HB;have BK160:=n0_;have HB:=n1_;have BK161:=n2_;have GW161:=n3_;have GE161:=n4_;have NB160_161:=n5_;have NB161_160:=n6_;clear n0_ n1_ n2_ n3_ n4_ n5_ n6_;clear hb hbox hg;have hnb25:=NB160_161.out;have hnc25:=NB161_160.out;have hcz26_0:w24.cell? ⟨gb160,0,none⟩=some (.slice A0_0 l0_0.length c0_0):=(af BK160.out 0).trans rfl;have hcz26_1:w24.cell? ⟨gb160,1,none⟩=some (.int .i64 a0_1):=(af BK160.out 1).trans rfl;have hcz26_2:w24.cell? ⟨gb160,2,none⟩=some (.int .i64 a0_2):=(af BK160.out 2).trans rfl;have hcz26_3:w24.cell? ⟨gb160,3,none⟩=some (.bool a0_3):=(af BK160.out 3).trans rfl;have hcz26_4:w24.cell? ⟨gb160,4,none⟩=some (.int .i64 a0_4):=(af BK160.out 4).trans rfl;have hfz26_0:=ah BK160.out 0;have hfz26_1:=ah BK160.out 1;have hfz26_2:=ah BK160.out 2;have hfz26_3:=ah BK160.out 3;have hfz26_4:=ah BK160.out 4;have hcz27_0:w24.cell? ⟨gb161,0,none⟩=some (.slice A1_0 l1_0.length c1_0):=(af BK161.out 0).trans rfl;have hcz27_1:w24.cell? ⟨gb161,1,none⟩=some (.int .i64 a1_1):=(af BK161.out 1).trans rfl;have hcz27_2:w24.cell? ⟨gb161,2,none⟩=some (.int .i64 a1_2):=(af BK161.out 2).trans rfl;have hcz27_3:w24.cell? ⟨gb161,3,none⟩=some (.bool a1_3):=(af BK161.out 3).trans rfl;have hcz27_4:w24.cell? ⟨gb161,4,none⟩=some (.int .i64 a1_4):=(af BK161.out 4).trans rfl;have hfz27_0:=ah BK161.out 0;have hfz27_1:=ah BK161.out 1;have hfz27_2:=ah BK161.out 2;have hfz27_3:=ah BK161.out 3;have hfz27_4:=ah BK161.out 4) | ((with_reducible refine iT (f:=56) rfl ?_);refine rE (some 9) rfl rfl Tryz.func56 (by kernel_rfl) rfl #[.slice A0_0 l0_0.length c0_0,.slice A1_0 l1_0.length c1_0] rfl (by (try simp only [List.map_toArray,List.map_cons,List.map_nil]);first | done | rfl | (simp only [List.length_drop,List.length_take];rfl)) ?_;(with_reducible refine (aK.calls k _ _ l0_0 _ _ l1_0 true _ ?side1 ?side2 ?side3 ?side4 A3.out).mono ?_);(case side1=>repeat (first | exact (Kd.bO HR0_0.out HB.out) | (with_reducible refine Kd.iL ?_ _) | (with_reducible refine Kd.iM ?_ _) | (with_reducible refine Kd.jF ?_)));(case side2=>exact HC0_0.out);(case side3=>repeat (first | exact (Kd.bO HR1_0.out HB.out) | (with_reducible refine Kd.iL ?_ _) | (with_reducible refine Kd.iM ?_ _) | (with_reducible refine Kd.jF ?_)));(case side4=>exact HC1_0.out);rintro e w' ⟨rfl,⟨nd,rfl⟩⟩;refine ⟨_,rfl,?_⟩))
   go_ret
   exact ⟨by first | rfl | (simp [dP,dQ]<;>rfl) | (simp [*,dP,dQ]<;>rfl),by repeat (first | (with_reducible first | exact HB.out | apply ai | apply au | apply aA | refine aN ?_ GE160.out | refine aN ?_ GE161.out) | exact HB.out)⟩
 ·replace c4:=Bool.eq_false_iff.mpr c4
  subst c4
  have H1:(some false)=some r:=by rw [if_neg (show ¬ (false=true) by decide)] at H;exact H
  clear H
  have H:=H1
  clear H1
  obtain rfl:=Option.some.inj H
  go_enter Tryz.func37,Tryz.ntmps37
  go_wp2_with (first | ((with_reducible refine fH (N:=2) rfl ?_);refine eZ ?hg (N:=2) ?hd (cs:= #[.slice A0_0 l0_0.length c0_0,.int .i64 a0_1,.int .i64 a0_2,.bool a0_3,.int .i64 a0_4]) (t:=71) ?hr ?_;(case hd=>rfl);(case hg=>rfl);(case hr=>first | (go_simp;done) | (go_simp;rfl));intro gb160 hg w28 hbox hb;have n0_:=Am_ (dJ (by repeat (first | (with_reducible first | exact HB.out | apply ai | apply au | apply aA) | exact HB.out)) hb);have n1_:=Am_ (hbox);have n2_:=Am_ ((by rw [hg];exact (bB (by repeat (first | (with_reducible first | exact HB.out | apply ai | apply au | apply aA) | exact HB.out))):w.heap.size≤gb160));have n3_:=Am_ ((by rw [hg];exact (bB (by repeat (first | (with_reducible first | exact HB.out | apply ai | apply au | apply aA) | exact HB.out))):w.heap.size≤gb160));clear HB;have HB:=n0_;have BK160:=n1_;have GW160:=n2_;have GE160:=n3_;clear n0_ n1_ n2_ n3_;clear hb hbox hg) | ((with_reducible refine fH (N:=3) rfl ?_);refine eZ ?hg (N:=3) ?hd (cs:= #[.slice A1_0 l1_0.length c1_0,.int .i64 a1_1,.int .i64 a1_2,.bool a1_3,.int .i64 a1_4]) (t:=71) ?hr ?_;(case hd=>rfl);(case hg=>rfl);(case hr=>first | (go_simp;done) | (go_simp;rfl));intro gb161 hg w29 hbox hb;have n0_:=Am_ (bF (g:=gb160) (o:= .cells #[.slice A0_0 l0_0.length c0_0,.int .i64 a0_1,.int .i64 a0_2,.bool a0_3,.int .i64 a0_4] 71 (0,0)) (by (with_reducible repeat (first | refine aG ?_ _ | refine aI ?_ | refine aC ?_ _));exact BK160.out) hb);have n1_:=Am_ (dJ (by repeat (first | (with_reducible first | exact HB.out | apply ai | apply au | apply aA | refine aN ?_ GE160.out) | exact HB.out)) hb);have n2_:=Am_ (hbox);have n3_:=Am_ ((by rw [hg];exact (bB (by repeat (first | (with_reducible first | exact HB.out | apply ai | apply au | apply aA | refine aN ?_ GE160.out) | exact HB.out))):w.heap.size≤gb161));have n4_:=Am_ ((by rw [hg];exact (bB (by repeat (first | (with_reducible first | exact HB.out | apply ai | apply au | apply aA | refine aN ?_ GE160.out) | exact HB.out))):w.heap.size≤gb161));have n5_:=Am_ ((by rw [hg];exact Nat.ne_of_lt (bD (g:=gb160) (o:= .cells #[.slice A0_0 l0_0.length c0_0,.int .i64 a0_1,.int .i64 a0_2,.bool a0_3,.int .i64 a0_4] 71 (0,0)) (by (with_reducible repeat (first | refine aG ?_ _ | refine aI ?_ | refine aC ?_ _));exact BK160.out)):gb160≠gb161));have n6_:=Am_ ((by rw [hg];exact Nat.ne_of_gt (bD (g:=gb160) (o:= .cells #[.slice A0_0 l0_0.length c0_0,.int .i64 a0_1,.int .i64 a0_2,.bool a0_3,.int .i64 a0_4] 71 (0,0)) (by (with_reducible repeat (first | refine aG ?_ _ | refine aI ?_ | refine aC ?_ _));exact BK160.out)):gb161≠gb160));clear BK160;clear HB;have BK160:=n0_;have HB:=n1_;have BK161:=n2_;have GW161:=n3_;have GE161:=n4_;have NB160_161:=n5_;have NB161_160:=n6_;clear n0_ n1_ n2_ n3_ n4_ n5_ n6_;clear hb hbox hg;have hnb30:=NB160_161.out;have hnc30:=NB161_160.out;have hcz31_0:w29.cell? ⟨gb160,0,none⟩=some (.slice A0_0 l0_0.length c0_0):=(af BK160.out 0).trans rfl;have hcz31_1:w29.cell? ⟨gb160,1,none⟩=some (.int .i64 a0_1):=(af BK160.out 1).trans rfl;have hcz31_2:w29.cell? ⟨gb160,2,none⟩=some (.int .i64 a0_2):=(af BK160.out 2).trans rfl;have hcz31_3:w29.cell? ⟨gb160,3,none⟩=some (.bool a0_3):=(af BK160.out 3).trans rfl;have hcz31_4:w29.cell? ⟨gb160,4,none⟩=some (.int .i64 a0_4):=(af BK160.out 4).trans rfl;have hfz31_0:=ah BK160.out 0;have hfz31_1:=ah BK160.out 1;have hfz31_2:=ah BK160.out 2;have hfz31_3:=ah BK160.out 3;have hfz31_4:=ah BK160.out 4;have hcz32_0:w29.cell? ⟨gb161,0,none⟩=some (.slice A1_0 l1_0.length c1_0):=(af BK161.out 0).trans rfl;have hcz32_1:w29.cell? ⟨gb161,1,none⟩=some (.int .i64 a1_1):=(af BK161.out 1).trans rfl;have hcz32_2:w29.cell? ⟨gb161,2,none⟩=some (.int .i64 a1_2):=(af BK161.out 2).trans rfl;have hcz32_3:w29.cell? ⟨gb161,3,none⟩=some (.bool a1_3):=(af BK161.out 3).trans rfl;have hcz32_4:w29.cell? ⟨gb161,4,none⟩=some (.int .i64 a1_4):=(af BK161.out 4).trans rfl;have hfz32_0:=ah BK161.out 0;have hfz32_1:=ah BK161.out 1;have hfz32_2:=ah BK161.out 2;have hfz32_3:=ah BK161.out 3;have hfz32_4:=ah BK161.out 4) | ((with_reducible refine iT (f:=56) rfl ?_);refine rE (some 9) rfl rfl Tryz.func56 (by kernel_rfl) rfl #[.slice A0_0 l0_0.length c0_0,.slice A1_0 l1_0.length c1_0] rfl (by (try simp only [List.map_toArray,List.map_cons,List.map_nil]);first | done | rfl | (simp only [List.length_drop,List.length_take];rfl)) ?_;(with_reducible refine (aK.calls k _ _ l0_0 _ _ l1_0 false _ ?side1 ?side2 ?side3 ?side4 A3.out).mono ?_);(case side1=>repeat (first | exact (Kd.bO HR0_0.out HB.out) | (with_reducible refine Kd.iL ?_ _) | (with_reducible refine Kd.iM ?_ _) | (with_reducible refine Kd.jF ?_)));(case side2=>exact HC0_0.out);(case side3=>repeat (first | exact (Kd.bO HR1_0.out HB.out) | (with_reducible refine Kd.iL ?_ _) | (with_reducible refine Kd.iM ?_ _) | (with_reducible refine Kd.jF ?_)));(case side4=>exact HC1_0.out);rintro e w' ⟨rfl,⟨nd,rfl⟩⟩;refine ⟨_,rfl,?_⟩))
  go_ret
  exact ⟨by first | rfl | (simp [dP,dQ]<;>rfl) | (simp [*,dP,dQ]<;>rfl),by repeat (first | (with_reducible first | exact HB.out | apply ai | apply au | apply aA | refine aN ?_ GE160.out | refine aN ?_ GE161.out) | exact HB.out)⟩
end Go.Proofs.YtmnjjdeaccgjlaaGreat.PStageNil
namespace Go.Proofs.YtmnjjdeaccgjlaaGreat.Tower
open Go Go.RowKit Go.Proofs.YtmnjjdeaccgjlaaGreatW.PrintWords Go.Proofs.YtmnjjdeaccgjlaaGreatW.PrintLast Go.Proofs.YtmnjjdeaccgjlaaGreatW.PrintMore Go.Proofs.YtmnjjdeaccgjlaaGreat.Own Go.Proofs.YtmnjjdeaccgjlaaGreat.PStageNil
def XN (a b:Int) (n:Nat) (nodes records:Int):Ws:=⟨⟨[slA,slB],[],nodes,2,0⟩,⟨[],records⟩,⟨0,List.replicate n (-1),List.replicate n []⟩,a,b,vV⟩
theorem JB (a b:Int) (n:Nat) (nodes records:Int) (hn:n≤64) (h2:2≤nodes) (h3:nodes≤65536) (h4:0≤records) (h5:records≤65536):(XN a b n nodes records).Good:=⟨⟨h3,h2,by show (2:Int)+((0:Nat):Int)=((2:Nat):Int);decide,by show ((List.countP (fun s:Sl=>s.used) [slA,slB]:Nat):Int)≤2;rw [show List.countP (fun s:Sl=>s.used) [slA,slB]=2 by decide];decide,fun i s hi=>by
 have hl:i<2:=(List.getElem?_eq_some_iff.1 hi).1
 match i,hl with
 | 0,_=>simp [XN] at hi;subst hi;exact ⟨⟨by decide,by decide,by decide⟩,by decide⟩
 | 1,_=>simp [XN] at hi;subst hi;exact ⟨⟨by decide,by decide,by decide⟩,by decide⟩⟩,⟨by simpa [XN] using hn⟩,⟨h5,h4,fun i e hi=>by simp [XN] at hi⟩⟩
theorem LH (a b:Int) (n:Nat) (nodes records:Int):(XN a b n nodes records).ar.way (XN a b n nodes records).entry 0=(xV,(XN a b n nodes records).ar):=by kernel_rfl
theorem JC (a b:Int) (n:Nat) (nodes records:Int):(XN a b n nodes records).ar.look xV=(nd0,(XN a b n nodes records).ar):=by kernel_rfl
theorem Fj (n:Nat):rM (List.replicate n [])=0:=by
 unfold rM
 rw [List.map_replicate]
 simp
theorem EC (A:Option Addr) (c:Nat) (w:World):Calls Tryz.prog 37 #[.agg #[.slice A 0 c,.int .i64 1,.int .i64 0,.bool true,.int .i64 0],.agg #[.slice none 0 0,.int .i64 1,.int .i64 0,.bool true,.int .i64 0]] w fun e w1=>e= .returned (.bool true)∧Below w.heap.size w w1:=
 gM.calls 2 A c [] 1 0 true 0 none 0 [] 1 0 true 0 true w ⟨rfl,by decide,fun hp=>absurd hp (by decide)⟩ (Nat.zero_le _) (Kd.gu (Kd.jD mE w (fun _=>True))) (Nat.le_refl _) rfl
theorem qC (a b:Int) (n:Nat) (nodes records:Int) (w:World) (ha:2≤a) (ha1:a≤32) (hb:2*a - 1≤b) (hb1:b≤32) (ht:1≤n) (ht1:n≤64) (hn:2≤nodes) (hn1:nodes≤65536) (hr:0≤records) (hr1:records≤65536):
  Calls Tryz.prog 5 #[.agg #[.int .i64 a,.int .i64 b,.int .i64 n,.int .i64 nodes,.int .i64 records]] w fun e w1=>e= .returned (.bool true)∧Below w.heap.size w w1:=by
 have HN:=Am_ (fun w=>om a b n nodes records w ha ha1 hb hb1 ht ht1 hn hn1 hr hr1 (XN a b n nodes records) (JA a b nodes records n hn) (JB a b n nodes records ht1 hn hn1 hr hr1))
 have K1:=Am_ (Mine.new (ok:=fun _=>False) (w:=w) (fun k hk=>hk.elim) (.cells #[.int .i64 a,.int .i64 b,.int .i64 n,.int .i64 nodes,.int .i64 records] 75))
 have B1:=Am_ (ai (Below.refl w.heap.size w) (.cells #[.int .i64 a,.int .i64 b,.int .i64 n,.int .i64 nodes,.int .i64 records] 75))
 have HB:=Am_ (And.intro ha (And.intro hb (And.intro ht ht1)))
 have d0:decide (a<2)=false:=decide_eq_false (by omega)
 have d1:decide (a>32)=false:=decide_eq_false (by omega)
 have e1:decide (32<a)=false:=d1
 have d2:decide (b<2*a - 1)=false:=decide_eq_false (by omega)
 have d3:decide (b>32)=false:=decide_eq_false (by omega)
 have e3:decide (32<b)=false:=d3
 have d4:decide ((n:Int)<1)=false:=decide_eq_false (by omega)
 have d5:decide ((n:Int)>64)=false:=decide_eq_false (by omega)
 have e5:decide ((64:Int)<(n:Int))=false:=d5
 have f5:decide (64<n)=false:=decide_eq_false (by omega)
 have f4:decide (n<1)=false:=decide_eq_false (by omega)
 have g4:decide (n=0)=false:=decide_eq_false (by omega)
 have d6:decide (nodes<2)=false:=decide_eq_false (by omega)
 have d7:decide (nodes>65536)=false:=decide_eq_false (by omega)
 have e7:decide (65536<nodes)=false:=d7
 have d8:decide (records<0)=false:=decide_eq_false (by omega)
 have d9:decide (records>65536)=false:=decide_eq_false (by omega)
 have e9:decide (65536<records)=false:=d9
 have m2:wrap64 (2*a)=2*a:=by unfold wrap64;omega
 have m3:wrap64 (2*a - 1)=2*a - 1:=by unfold wrap64;omega
 clear ha ha1 hb hb1 ht ht1 hn hn1 hr hr1
 go_enter Tryz.func5,Tryz.ntmps5
 go_upto_region 1 with fail
 generalize w.alloc (.cells #[.int .i64 a,.int .i64 b,.int .i64 n,.int .i64 nodes,.int .i64 records] 75)=w1 at K1 B1 ⊢
 generalize w.heap.size=b1 at K1 ⊢
 go_upto_region 3 with (go_at_call 22;refine (zH _).mono ?_;rintro e w2 ⟨rfl,hb⟩;have B2:=Am_ (aY B1.out B1.out.size hb);have K2:=Am_ (K1.out.moves (Moves.bE _ hb));clear hb B1 K1)
 have y0:=(af K2.out.1 0).trans (rfl:_=some (Value.int .i64 a))
 have y1:=(af K2.out.1 1).trans (rfl:_=some (Value.int .i64 b))
 have y2:=(af K2.out.1 2).trans (rfl:_=some (Value.int .i64 n))
 have y3:=(af K2.out.1 3).trans (rfl:_=some (Value.int .i64 nodes))
 have y4:=(af K2.out.1 4).trans (rfl:_=some (Value.int .i64 records))
 go_upto_region 4 with (go_at_call 39;refine (HN.out _).mono ?_;rintro e w3 hE;obtain ⟨ok3,sb,p,rfl,hs,hf,hb⟩:=hE.out;have H3:=Am_ hs;have F3:=Am_ ((fun k hk=>Nat.le_trans B2.out.size (hf k hk)): ∀ k,ok3 k→w.heap.size≤k);have B3:=Am_ (aY B2.out B2.out.size hb);have K3:=Am_ (K2.out.moves (Moves.bE _ hb));clear hE hs hf hb y0 y1 y2 y3 y4 B2 K2)
 have y0:=(af K3.out.1 0).trans (rfl:_=some (Value.int .i64 a))
 have y1:=(af K3.out.1 1).trans (rfl:_=some (Value.int .i64 b))
 have y2:=(af K3.out.1 2).trans (rfl:_=some (Value.int .i64 n))
 have y3:=(af K3.out.1 3).trans (rfl:_=some (Value.int .i64 nodes))
 have y4:=(af K3.out.1 4).trans (rfl:_=some (Value.int .i64 records))
 go_upto_region 8 with fail
 clear y0 y1 y2 y3 y4 d0 d1 e1 d2 d3 e3 d4 d5 e5 f5 f4 g4 d6 d7 e7 d8 d9 e9 m2 m3 K3
 have HE:=Am_ (show Calls Tryz.prog 31 #[.pointer (some ⟨sb,0,none⟩)] w3 (yI 0 w3) from jV sb p _ ok3 w3 H3.out (fun e he=>by cases he))
 have HU:=Am_ (fun w4 (h:dm ok3 sb p (Stg.new (XN a b n nodes records) n) w4)=>(show Calls Tryz.prog 34 #[.pointer (some ⟨sb,0,none⟩)] w4 (fun e w1=>e= .returned (.int .i64 2)∧w1=w4) from sH sb p _ ok3 w4 h))
 have HF:=Am_ (fun w4 (h:dm ok3 sb p (Stg.new (XN a b n nodes records) n) w4)=>(show Calls Tryz.prog 36 #[.pointer (some ⟨sb,0,none⟩)] w4 (fun e w1=>e= .returned (.int .i64 0)∧w1=w4) from oJ sb p _ ok3 w4 h))
 have hlz:rM (Stg.new (XN a b n nodes records) n).ws.ep.limbo=0:=Fj n
 have HL:=Am_ (fun w4 (h:dm ok3 sb p (Stg.new (XN a b n nodes records) n) w4)=>(show Calls Tryz.prog 35 #[.pointer (some ⟨sb,0,none⟩)] w4 (fun e w1=>e= .returned (.int .i64 0)∧w1=w4) from by
  have h1:=qF sb p _ ok3 w4 h (by rw [hlz];decide) (by show (List.replicate n _).length<_;rw [List.length_replicate];have:=HB.out.2.2.2;omega)
  rw [hlz] at h1
  exact h1))
 have HA:=Am_ (fun w4 (h:dm ok3 sb p (Stg.new (XN a b n nodes records) n) w4)=>qD sb p _ xV ok3 w4 h (LH a b n nodes records) (JC a b n nodes records) (by show 0≤b;have:=HB.out;omega))
 clear hlz HN
 go_wp2_with (first
  | (go_at_call 30;refine (mq sb p _ ok3 _ H3.out (by show 0<n;have:=HB.out.2.2.1;omega)).mono ?_;rintro e w4 ⟨rfl,rfl⟩)
  | (go_at_call 33;refine (qG sb p _ ok3 _ H3.out rfl).mono ?_;rintro e w4 ⟨rfl,rfl⟩)
  | (go_at_call 31;refine HE.out.mono ?_;rintro e w5 hE;obtain ⟨A5,c5,rfl,hb⟩:=hE.out;have H5:=Am_ (H3.out.below hb);have B5:=Am_ (aY B3.out B3.out.size hb);clear hE hb H3 B3 HE)
  | (go_at_call 32;refine (qE sb p _ ok3 _ H5.out).mono ?_;rintro e w6 ⟨A6,c6,rfl,hb⟩;have H6:=Am_ (H5.out.below hb);have B6:=Am_ (aY B5.out B5.out.size hb);clear hb H5 B5)
  | (go_at_call 34;refine (HU.out _ H6.out).mono ?_;rintro e w7 ⟨rfl,rfl⟩)
  | (go_at_call 35;refine (HL.out _ H6.out).mono ?_;rintro e w7 ⟨rfl,rfl⟩)
  | (go_at_call 36;refine (HF.out _ H6.out).mono ?_;rintro e w7 ⟨rfl,rfl⟩)
  | (go_at_call 38;refine (HA.out _ H6.out).mono ?_;rintro e w8 ⟨A8,c8,rfl,_,hm⟩;have B8:=Am_ (jr hm B6.out F3.out);clear hm H6 B6)
  | (go_at_call 37;refine (EC A8 c8 _).mono ?_;rintro e w9 ⟨rfl,hb⟩;have B9:=Am_ (aY B8.out B8.out.size hb);clear hb B8))
 go_ret
 exact ⟨rfl,B9.out⟩
theorem su (a b n nodes records:Int) (w:World) (h:uT a b n nodes records):
  Calls Tryz.prog 5 #[.agg #[.int .i64 a,.int .i64 b,.int .i64 n,.int .i64 nodes,.int .i64 records]] w fun e w1=>e= .returned (.bool true)∧Below w.heap.size w w1:=by
 have K1:=Am_ (Mine.new (ok:=fun _=>False) (w:=w) (fun k hk=>hk.elim) (.cells #[.int .i64 a,.int .i64 b,.int .i64 n,.int .i64 nodes,.int .i64 records] 75))
 have B1:=Am_ (ai (Below.refl w.heap.size w) (.cells #[.int .i64 a,.int .i64 b,.int .i64 n,.int .i64 nodes,.int .i64 records] 75))
 have HN:=Am_ (fun w=>BZ a b n nodes records w h)
 have HB:=Am_ h
 clear h
 go_enter Tryz.func5,Tryz.ntmps5
 go_upto_region 1 with fail
 generalize w.alloc (.cells #[.int .i64 a,.int .i64 b,.int .i64 n,.int .i64 nodes,.int .i64 records] 75)=w1 at K1 B1 ⊢
 generalize w.heap.size=b1 at K1 ⊢
 go_upto_region 3 with (go_at_call 22;refine (zH _).mono ?_;rintro e w2 ⟨rfl,hb⟩;have B2:=Am_ (aY B1.out B1.out.size hb);have K2:=Am_ (K1.out.moves (Moves.bE _ hb));clear hb B1 K1)
 have y0:=(af K2.out.1 0).trans (rfl:_=some (Value.int .i64 a))
 have y1:=(af K2.out.1 1).trans (rfl:_=some (Value.int .i64 b))
 have y2:=(af K2.out.1 2).trans (rfl:_=some (Value.int .i64 n))
 have y3:=(af K2.out.1 3).trans (rfl:_=some (Value.int .i64 nodes))
 have y4:=(af K2.out.1 4).trans (rfl:_=some (Value.int .i64 records))
 go_upto_region 4 with (go_at_call 39;refine (HN.out _).mono ?_;rintro e w3 ⟨rfl,hb⟩;have B3:=Am_ (aY B2.out B2.out.size hb);have K3:=Am_ (K2.out.moves (Moves.bE _ hb));clear hb y0 y1 y2 y3 y4 B2 K2)
 have y0:=(af K3.out.1 0).trans (rfl:_=some (Value.int .i64 a))
 have y1:=(af K3.out.1 1).trans (rfl:_=some (Value.int .i64 b))
 have y2:=(af K3.out.1 2).trans (rfl:_=some (Value.int .i64 n))
 have y3:=(af K3.out.1 3).trans (rfl:_=some (Value.int .i64 nodes))
 have y4:=(af K3.out.1 4).trans (rfl:_=some (Value.int .i64 records))
 clear HN K3
 cases HB.out
 ·have d0:decide (a<2)=true:=decide_eq_true (by omega)
  go_wp2_with fail
  go_ret
  exact ⟨rfl,B3.out⟩
 ·have d0:decide (a<2)=false:=decide_eq_false (by omega)
  have d1:decide (a>32)=true:=decide_eq_true (by omega)
  have e1:decide (32<a)=true:=d1
  go_wp2_with fail
  go_ret
  exact ⟨rfl,B3.out⟩
 ·have d0:decide (a<2)=false:=decide_eq_false (by omega)
  have d1:decide (a>32)=false:=decide_eq_false (by omega)
  have e1:decide (32<a)=false:=d1
  have d2:decide (b<2*a - 1)=true:=decide_eq_true (by omega)
  have m2:wrap64 (2*a)=2*a:=by unfold wrap64;omega
  have m3:wrap64 (2*a - 1)=2*a - 1:=by unfold wrap64;omega
  go_wp2_with fail
  go_ret
  exact ⟨rfl,B3.out⟩
 ·have d0:decide (a<2)=false:=decide_eq_false (by omega)
  have d1:decide (a>32)=false:=decide_eq_false (by omega)
  have e1:decide (32<a)=false:=d1
  have d2:decide (b<2*a - 1)=false:=decide_eq_false (by omega)
  have d3:decide (b>32)=true:=decide_eq_true (by omega)
  have e3:decide (32<b)=true:=d3
  have m2:wrap64 (2*a)=2*a:=by unfold wrap64;omega
  have m3:wrap64 (2*a - 1)=2*a - 1:=by unfold wrap64;omega
  go_wp2_with fail
  go_ret
  exact ⟨rfl,B3.out⟩
 ·have d0:decide (a<2)=false:=decide_eq_false (by omega)
  have d1:decide (a>32)=false:=decide_eq_false (by omega)
  have e1:decide (32<a)=false:=d1
  have d2:decide (b<2*a - 1)=false:=decide_eq_false (by omega)
  have d3:decide (b>32)=false:=decide_eq_false (by omega)
  have e3:decide (32<b)=false:=d3
  have d4:decide (n<1)=true:=decide_eq_true (by omega)
  have m2:wrap64 (2*a)=2*a:=by unfold wrap64;omega
  have m3:wrap64 (2*a - 1)=2*a - 1:=by unfold wrap64;omega
  go_wp2_with fail
  go_ret
  exact ⟨rfl,B3.out⟩
 ·have d0:decide (a<2)=false:=decide_eq_false (by omega)
  have d1:decide (a>32)=false:=decide_eq_false (by omega)
  have e1:decide (32<a)=false:=d1
  have d2:decide (b<2*a - 1)=false:=decide_eq_false (by omega)
  have d3:decide (b>32)=false:=decide_eq_false (by omega)
  have e3:decide (32<b)=false:=d3
  have d4:decide (n<1)=false:=decide_eq_false (by omega)
  have d5:decide (n>64)=true:=decide_eq_true (by omega)
  have e5:decide (64<n)=true:=d5
  have m2:wrap64 (2*a)=2*a:=by unfold wrap64;omega
  have m3:wrap64 (2*a - 1)=2*a - 1:=by unfold wrap64;omega
  go_wp2_with fail
  go_ret
  exact ⟨rfl,B3.out⟩
 ·have d0:decide (a<2)=false:=decide_eq_false (by omega)
  have d1:decide (a>32)=false:=decide_eq_false (by omega)
  have e1:decide (32<a)=false:=d1
  have d2:decide (b<2*a - 1)=false:=decide_eq_false (by omega)
  have d3:decide (b>32)=false:=decide_eq_false (by omega)
  have e3:decide (32<b)=false:=d3
  have d4:decide (n<1)=false:=decide_eq_false (by omega)
  have d5:decide (n>64)=false:=decide_eq_false (by omega)
  have e5:decide (64<n)=false:=d5
  have d6:decide (nodes<2)=true:=decide_eq_true (by omega)
  have m2:wrap64 (2*a)=2*a:=by unfold wrap64;omega
  have m3:wrap64 (2*a - 1)=2*a - 1:=by unfold wrap64;omega
  go_wp2_with fail
  go_ret
  exact ⟨rfl,B3.out⟩
 ·have d0:decide (a<2)=false:=decide_eq_false (by omega)
  have d1:decide (a>32)=false:=decide_eq_false (by omega)
  have e1:decide (32<a)=false:=d1
  have d2:decide (b<2*a - 1)=false:=decide_eq_false (by omega)
  have d3:decide (b>32)=false:=decide_eq_false (by omega)
  have e3:decide (32<b)=false:=d3
  have d4:decide (n<1)=false:=decide_eq_false (by omega)
  have d5:decide (n>64)=false:=decide_eq_false (by omega)
  have e5:decide (64<n)=false:=d5
  have d6:decide (nodes<2)=false:=decide_eq_false (by omega)
  have d7:decide (nodes>65536)=true:=decide_eq_true (by omega)
  have e7:decide (65536<nodes)=true:=d7
  have m2:wrap64 (2*a)=2*a:=by unfold wrap64;omega
  have m3:wrap64 (2*a - 1)=2*a - 1:=by unfold wrap64;omega
  go_wp2_with fail
  go_ret
  exact ⟨rfl,B3.out⟩
 ·have d0:decide (a<2)=false:=decide_eq_false (by omega)
  have d1:decide (a>32)=false:=decide_eq_false (by omega)
  have e1:decide (32<a)=false:=d1
  have d2:decide (b<2*a - 1)=false:=decide_eq_false (by omega)
  have d3:decide (b>32)=false:=decide_eq_false (by omega)
  have e3:decide (32<b)=false:=d3
  have d4:decide (n<1)=false:=decide_eq_false (by omega)
  have d5:decide (n>64)=false:=decide_eq_false (by omega)
  have e5:decide (64<n)=false:=d5
  have d6:decide (nodes<2)=false:=decide_eq_false (by omega)
  have d7:decide (nodes>65536)=false:=decide_eq_false (by omega)
  have e7:decide (65536<nodes)=false:=d7
  have d8:decide (records<0)=true:=decide_eq_true (by omega)
  have m2:wrap64 (2*a)=2*a:=by unfold wrap64;omega
  have m3:wrap64 (2*a - 1)=2*a - 1:=by unfold wrap64;omega
  go_wp2_with fail
  go_ret
  exact ⟨rfl,B3.out⟩
 ·have d0:decide (a<2)=false:=decide_eq_false (by omega)
  have d1:decide (a>32)=false:=decide_eq_false (by omega)
  have e1:decide (32<a)=false:=d1
  have d2:decide (b<2*a - 1)=false:=decide_eq_false (by omega)
  have d3:decide (b>32)=false:=decide_eq_false (by omega)
  have e3:decide (32<b)=false:=d3
  have d4:decide (n<1)=false:=decide_eq_false (by omega)
  have d5:decide (n>64)=false:=decide_eq_false (by omega)
  have e5:decide (64<n)=false:=d5
  have d6:decide (nodes<2)=false:=decide_eq_false (by omega)
  have d7:decide (nodes>65536)=false:=decide_eq_false (by omega)
  have e7:decide (65536<nodes)=false:=d7
  have d8:decide (records<0)=false:=decide_eq_false (by omega)
  have d9:decide (records>65536)=true:=decide_eq_true (by omega)
  have e9:decide (65536<records)=true:=d9
  have m2:wrap64 (2*a)=2*a:=by unfold wrap64;omega
  have m3:wrap64 (2*a - 1)=2*a - 1:=by unfold wrap64;omega
  go_wp2_with fail
  go_ret
  exact ⟨rfl,B3.out⟩
theorem oI (a b n nodes records:Int) (w:World):Calls Tryz.prog 5 #[.agg #[.int .i64 a,.int .i64 b,.int .i64 n,.int .i64 nodes,.int .i64 records]] w fun e w1=>e= .returned (.bool true)∧Below w.heap.size w w1:=by
 rcases KP a b n nodes records with h | h
 ·obtain ⟨m,rfl⟩:=Int.eq_ofNat_of_zero_le (show 0≤n by omega)
  exact qC a b m nodes records w h.1 h.2.1 h.2.2.1 h.2.2.2.1 (by omega) (by omega) h.2.2.2.2.2.2.1 h.2.2.2.2.2.2.2.1 h.2.2.2.2.2.2.2.2.1 h.2.2.2.2.2.2.2.2.2
 ·exact su a b n nodes records w h
theorem sw (o:Cfg) (w:World):Calls Tryz.prog 5 #[.agg #[.int .i64 o.a,.int .i64 o.b,.int .i64 o.n,.int .i64 o.nodes,.int .i64 o.records]] w fun e w1=>e= .returned (.bool true)∧Below w.heap.size w w1:=oI o.a o.b o.n o.nodes o.records w
end Go.Proofs.YtmnjjdeaccgjlaaGreat.Tower
namespace Go.Proofs.YtmnjjdeaccgjlaaGreat.stageNew
open Go Go.ChangeShapes Go.WideShapes Go.ChangeAt Go.RowKit Go.Joins Go.Deep
theorem own:ownKnob Tryz.prog.godebug=none:=by kernel_rfl
theorem laidOut:laidOutB Tryz.prog=true:=by kernel_rfl
theorem lifted (os:Os) (started:os.Started) (H:Type) (enc:TypeId × Value→H):
  ReturnsInHanded {} Tryz.checked os 5 .any (Rows.stageNewSpec.pre6 enc Tryz.prog Tryz.f5 Rows.stageNewRow.domain false) (Rows.stageNewSpec.post enc Tryz.prog Tryz.f5 false true false false):=by
 refine returnsInHanded_of_change_sized (C:=Tryz.checked) own started (by kernel_rfl) Tryz.func5
  (ChangeSpec.witness6 (enc:=enc) (C:=Tryz.checked) false ⟨#[],#[.agg #[.int .i64 0,.int .i64 0,.int .i64 0,.int .i64 0,.int .i64 0]],[]⟩ 8 (by kernel_rfl) (by kernel_rfl) (by kernel_rfl) (by kernel_rfl)) ?_
 intro W base args ds gs before hval0 hW hcnd hsz0 _
 have hval: ∀ (j:Nat) t v,Tryz.f5.params[j]?=some t→args[j]?=some v→Value.okWide Tryz.prog W .any base t v:=hval0
 have hW':=hW
 obtain ⟨p,q,hA0,hV,rfl,hfz,hnd⟩:=hW
 have hA:DataW.TrodAll enc Tryz.prog W 0 (fun _=>true) true Tryz.f5.params.toList args.toList ds p:=hA0
 rw [Tryz.params5] at hA hval
 obtain ⟨v0,vs0,d0,ds0,p0,q0,hargs,rfl,rfl,h0,r0⟩:=trodAll_cons hA
 obtain ⟨rfl,rfl,rfl⟩:=trodAll_nil r0
 obtain rfl:args= #[v0]:=by cases args;simp_all
 obtain ⟨rfl,rfl⟩:=trodVars_none hV
 obtain ⟨cs0,rfl,hsz0⟩:=okWide_struct Tryz.underlying75 (hval 0 75 v0 rfl rfl)
 have k0:=h0
 have lt0: ∀ x∈p0,x.block<W.heap.size:=by obtain ⟨m,hm⟩:=k0;exact DataW.trod_lt m _ _ _ hm
 obtain ⟨fuel0,hf0⟩:=h0
 obtain ⟨a0,hcs0⟩:=Tower.Eo hf0
 obtain rfl:cs0= #[.int .i64 a0.a,.int .i64 a0.b,.int .i64 a0.n,.int .i64 a0.nodes,.int .i64 a0.records]:=by
  apply Array.toList_inj.mp
  simpa [Value.cells] using hcs0
 clear hA0 hval0 hsz0
 refine (Tower.sw a0 W ).mono fun e W' ⟨he,bel⟩=>?_
 subst he
 exact ⟨_,rfl,_,_,_,[],_,[],hW',trodAll_mk1 (shut_bool Tryz.underlying4 _),(trodAll_cons_mk (Below.trod laidOut (by kernel_rfl) (of_decide_eq_true (by kernel_rfl)) k0 bel lt0) trodAll_mk0),rfl,bel.frame _,fun h=>by cases h⟩
theorem over:Rows.stageNewRow.holds Tryz.pinned (OpenSpec.ofChange Rows.stageNewSpec):=
 OpenClaim.holds_of_wide 5 Tryz.f5 rfl rfl rfl rfl rfl rfl rfl ⟨rfl,rfl,rfl,rfl,rfl⟩ rfl rfl rfl rfl rfl (by kernel_rfl) Tryz.func5 (by kernel_rfl)
  (of_decide_eq_true (by kernel_rfl)) (by unfold Func.isWrapper;first | (rw [if_pos (by decide+kernel)];kernel_rfl) | (rw [if_neg (by decide+kernel)];exact ⟨rfl,rfl⟩))
  (fun os started H enc _=>lifted os started H enc)
theorem proved:Rows.StageNewSaid:=over
#print axioms proved
end Go.Proofs.YtmnjjdeaccgjlaaGreat.stageNew
namespace Go.Proofs.YtmnjjdeaccgjlaaGreat
theorem stageNew_holds:Rows.StageNewSaid:=stageNew.proved
end Go.Proofs.YtmnjjdeaccgjlaaGreat
