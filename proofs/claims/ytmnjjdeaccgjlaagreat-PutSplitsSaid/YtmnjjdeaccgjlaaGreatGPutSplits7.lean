/- Words and contracts that the claim stands on, part 8 of 8. -/
import Derived.Test.YtmnjjdeaccgjlaaGreatGPutSplits0
import Derived.Test.YtmnjjdeaccgjlaaGreatGPutSplits1
import Derived.Test.YtmnjjdeaccgjlaaGreatGPutSplits2
import Derived.Test.YtmnjjdeaccgjlaaGreatGPutSplits3
import Derived.Test.YtmnjjdeaccgjlaaGreatGPutSplits4
import Derived.Test.YtmnjjdeaccgjlaaGreatGPutSplits5
import Derived.Test.YtmnjjdeaccgjlaaGreatGPutSplits6
import Derived.Laws.BitsLemmas
import Derived.IntWalk
set_option linter.unusedSimpArgs false
set_option linter.unusedVariables false
set_option maxHeartbeats 8000000
set_option maxRecDepth 100000
namespace Go.Proofs.YtmnjjdeaccgjlaaGreat.PPutSplits
open Go.RowKit Go.Proofs.YtmnjjdeaccgjlaaGreatW.PrintWords Go.Proofs.YtmnjjdeaccgjlaaGreatW.PrintLast Go.Proofs.YtmnjjdeaccgjlaaGreatW.PrintMore
attribute [local go_sem] om oD sF uy mh lY oU oG
mutual
def aj.j0:Nat→Bool→Bool→Bool→List (fF)→List Int→List (S30)→Bool→Bool→List (fF)→List Int→List (S30)→Option (Bool)
 | 0,_,_,_,_,_,_,_,_,_,_,_=>none
 | k+1,x44,x205000,x205001,x205002,x205003,x205004,x206000,x206001,x206002,x206003,x206004=>if x44=true then (some false) else (aj.l0 k (x205003.length:Int) 0 x205000 x205001 x205002 x205003 x205004 x206000 x206001 x206002 x206003 x206004)
def aj.l0:Nat→Int→Int→Bool→Bool→List (fF)→List Int→List (S30)→Bool→Bool→List (fF)→List Int→List (S30)→Option (Bool)
 | 0,_,_,_,_,_,_,_,_,_,_,_,_=>none
 | k+1,x47,x48,x205000,x205001,x205002,x205003,x205004,x206000,x206001,x206002,x206003,x206004=>if x48<x47 then (if 0≤x48 then (if x48<(x205003.length:Int) then (if x48<(x206003.length:Int) then (if (rd x205003 x48)=(rd x206003 x48) then (aj.l0 k x47 (wrap64 (x48+1)) x205000 x205001 x205002 x205003 x205004 x206000 x206001 x206002 x206003 x206004) else (some false)) else (none)) else (none)) else (none)) else (aj.l1 k (x205004.length:Int) 0 x205000 x205001 x205002 x205003 x205004 x206000 x206001 x206002 x206003 x206004)
def aj.l1:Nat→Int→Int→Bool→Bool→List (fF)→List Int→List (S30)→Bool→Bool→List (fF)→List Int→List (S30)→Option (Bool)
 | 0,_,_,_,_,_,_,_,_,_,_,_,_=>none
 | k+1,x65,x66,x205000,x205001,x205002,x205003,x205004,x206000,x206001,x206002,x206003,x206004=>if x66<x65 then (if 0≤x66 then (if x66<(x205004.length:Int) then (if x66<(x206004.length:Int) then ((aj.f k ((aZ x205004 x66).f0) ((aZ x205004 x66).f1) ((aZ x205004 x66).f2) ((aZ x205004 x66).f3) ((aZ x205004 x66).f4) ((aZ x206004 x66).f0) ((aZ x206004 x66).f1) ((aZ x206004 x66).f2) ((aZ x206004 x66).f3) ((aZ x206004 x66).f4)).bind fun t211=>(if t211=true then (aj.l1 k x65 (wrap64 (x66+1)) x205000 x205001 x205002 x205003 x205004 x206000 x206001 x206002 x206003 x206004) else (some false))) else (none)) else (none)) else (none)) else (some true)
def aj.f:Nat→Bool→Bool→List (fF)→List Int→List (S30)→Bool→Bool→List (fF)→List Int→List (S30)→Option (Bool)
 | 0,_,_,_,_,_,_,_,_,_,_=>none
 | k+1,a0_0,a0_1,l0_2,l0_3,l0_4,a1_0,a1_1,l1_2,l1_3,l1_4=>if (a0_0 != a1_0)=true then (aj.j0 k true a0_0 a0_1 l0_2 l0_3 l0_4 a1_0 a1_1 l1_2 l1_3 l1_4) else (if (a0_1 != a1_1)=true then (aj.j0 k true a0_0 a0_1 l0_2 l0_3 l0_4 a1_0 a1_1 l1_2 l1_3 l1_4) else ((aI.f k l0_2 l1_2).bind fun t206=>(if t206=true then (if (l0_3.length:Int)=(l1_3.length:Int) then (aj.j0 k ((l0_4.length:Int) != (l1_4.length:Int)) a0_0 a0_1 l0_2 l0_3 l0_4 a1_0 a1_1 l1_2 l1_3 l1_4) else (aj.j0 k true a0_0 a0_1 l0_2 l0_3 l0_4 a1_0 a1_1 l1_2 l1_3 l1_4)) else (aj.j0 k true a0_0 a0_1 l0_2 l0_3 l0_4 a1_0 a1_1 l1_2 l1_3 l1_4))))
end
theorem aj.lD: ∀ k,(∀ y0 y1 y2 y3 y4 y5 y6 y7 y8 y9,LeO (aj.f k y0 y1 y2 y3 y4 y5 y6 y7 y8 y9) (aj.f (k+1) y0 y1 y2 y3 y4 y5 y6 y7 y8 y9))∧(∀ y0 y1 y2 y3 y4 y5 y6 y7 y8 y9 y10,LeO (aj.j0 k y0 y1 y2 y3 y4 y5 y6 y7 y8 y9 y10) (aj.j0 (k+1) y0 y1 y2 y3 y4 y5 y6 y7 y8 y9 y10))∧(∀ y0 y1 y2 y3 y4 y5 y6 y7 y8 y9 y10 y11,LeO (aj.l0 k y0 y1 y2 y3 y4 y5 y6 y7 y8 y9 y10 y11) (aj.l0 (k+1) y0 y1 y2 y3 y4 y5 y6 y7 y8 y9 y10 y11))∧(∀ y0 y1 y2 y3 y4 y5 y6 y7 y8 y9 y10 y11,LeO (aj.l1 k y0 y1 y2 y3 y4 y5 y6 y7 y8 y9 y10 y11) (aj.l1 (k+1) y0 y1 y2 y3 y4 y5 y6 y7 y8 y9 y10 y11))
 | 0=>⟨fun _ _ _ _ _ _ _ _ _ _ r h=>by simp [aj.f] at h,fun _ _ _ _ _ _ _ _ _ _ _ r h=>by simp [aj.j0] at h,fun _ _ _ _ _ _ _ _ _ _ _ _ r h=>by simp [aj.l0] at h,fun _ _ _ _ _ _ _ _ _ _ _ _ r h=>by simp [aj.l1] at h⟩
 | k+1=>by
  obtain ⟨ih0,ih1,ih2,ih3⟩:=aj.lD k
  refine ⟨?_,?_,?_,?_⟩
  ·intro y0 y1 y2 y3 y4 y5 y6 y7 y8 y9
   unfold aj.f
   repeat' first
   | (with_reducible exact ih0 _ _ _ _ _ _ _ _ _ _)
   | (with_reducible exact ih1 _ _ _ _ _ _ _ _ _ _ _)
   | (with_reducible exact ih2 _ _ _ _ _ _ _ _ _ _ _ _)
   | (with_reducible exact ih3 _ _ _ _ _ _ _ _ _ _ _ _)
   | (with_reducible exact aI.mono _ _ _)
   | (with_reducible exact LeO.refl _)
   | (with_reducible exact LeO.none _)
   | (with_reducible refine LeO.ite ?_ ?_)
   | (with_reducible refine LeO.bind ?_ (fun _=>?_))
   | exact ih0 _ _ _ _ _ _ _ _ _ _
   | exact ih1 _ _ _ _ _ _ _ _ _ _ _
   | exact ih2 _ _ _ _ _ _ _ _ _ _ _ _
   | exact ih3 _ _ _ _ _ _ _ _ _ _ _ _
   | exact aI.mono _ _ _
   | exact LeO.none _
   | refine LeO.ite ?_ ?_
   | refine LeO.bind ?_ (fun _=>?_)
  ·intro y0 y1 y2 y3 y4 y5 y6 y7 y8 y9 y10
   unfold aj.j0
   repeat' first
   | (with_reducible exact ih0 _ _ _ _ _ _ _ _ _ _)
   | (with_reducible exact ih1 _ _ _ _ _ _ _ _ _ _ _)
   | (with_reducible exact ih2 _ _ _ _ _ _ _ _ _ _ _ _)
   | (with_reducible exact ih3 _ _ _ _ _ _ _ _ _ _ _ _)
   | (with_reducible exact aI.mono _ _ _)
   | (with_reducible exact LeO.refl _)
   | (with_reducible exact LeO.none _)
   | (with_reducible refine LeO.ite ?_ ?_)
   | (with_reducible refine LeO.bind ?_ (fun _=>?_))
   | exact ih0 _ _ _ _ _ _ _ _ _ _
   | exact ih1 _ _ _ _ _ _ _ _ _ _ _
   | exact ih2 _ _ _ _ _ _ _ _ _ _ _ _
   | exact ih3 _ _ _ _ _ _ _ _ _ _ _ _
   | exact aI.mono _ _ _
   | exact LeO.none _
   | refine LeO.ite ?_ ?_
   | refine LeO.bind ?_ (fun _=>?_)
  ·intro y0 y1 y2 y3 y4 y5 y6 y7 y8 y9 y10 y11
   unfold aj.l0
   repeat' first
   | (with_reducible exact ih0 _ _ _ _ _ _ _ _ _ _)
   | (with_reducible exact ih1 _ _ _ _ _ _ _ _ _ _ _)
   | (with_reducible exact ih2 _ _ _ _ _ _ _ _ _ _ _ _)
   | (with_reducible exact ih3 _ _ _ _ _ _ _ _ _ _ _ _)
   | (with_reducible exact aI.mono _ _ _)
   | (with_reducible exact LeO.refl _)
   | (with_reducible exact LeO.none _)
   | (with_reducible refine LeO.ite ?_ ?_)
   | (with_reducible refine LeO.bind ?_ (fun _=>?_))
   | exact ih0 _ _ _ _ _ _ _ _ _ _
   | exact ih1 _ _ _ _ _ _ _ _ _ _ _
   | exact ih2 _ _ _ _ _ _ _ _ _ _ _ _
   | exact ih3 _ _ _ _ _ _ _ _ _ _ _ _
   | exact aI.mono _ _ _
   | exact LeO.none _
   | refine LeO.ite ?_ ?_
   | refine LeO.bind ?_ (fun _=>?_)
  ·intro y0 y1 y2 y3 y4 y5 y6 y7 y8 y9 y10 y11
   unfold aj.l1
   repeat' first
   | (with_reducible exact ih0 _ _ _ _ _ _ _ _ _ _)
   | (with_reducible exact ih1 _ _ _ _ _ _ _ _ _ _ _)
   | (with_reducible exact ih2 _ _ _ _ _ _ _ _ _ _ _ _)
   | (with_reducible exact ih3 _ _ _ _ _ _ _ _ _ _ _ _)
   | (with_reducible exact aI.mono _ _ _)
   | (with_reducible exact LeO.refl _)
   | (with_reducible exact LeO.none _)
   | (with_reducible refine LeO.ite ?_ ?_)
   | (with_reducible refine LeO.bind ?_ (fun _=>?_))
   | exact ih0 _ _ _ _ _ _ _ _ _ _
   | exact ih1 _ _ _ _ _ _ _ _ _ _ _
   | exact ih2 _ _ _ _ _ _ _ _ _ _ _ _
   | exact ih3 _ _ _ _ _ _ _ _ _ _ _ _
   | exact aI.mono _ _ _
   | exact LeO.none _
   | refine LeO.ite ?_ ?_
   | refine LeO.bind ?_ (fun _=>?_)
theorem aj.mono: ∀ a0 a1 a2 a3 a4 a5 a6 a7 a8 a9 k,LeO (aj.f k a0 a1 a2 a3 a4 a5 a6 a7 a8 a9) (aj.f (k+1) a0 a1 a2 a3 a4 a5 a6 a7 a8 a9):=by
 intro a0 a1 a2 a3 a4 a5 a6 a7 a8 a9 k
 obtain ⟨ih0,ih1,ih2,ih3⟩:=aj.lD k
 exact ih0 a0 a1 a2 a3 a4 a5 a6 a7 a8 a9
def aj.T6:Bool × List (List Nat × List Nat):=(true,[([],[]),([0],[0]),([],[]),([1,2],[1,2]),([3],[3]),([],[]),([5],[5]),([],[]),([6,7],[6,7]),([8],[8]),([4,9],[4,9])])
def aj.B6:List Nat:= [0,1,0,7,15,0,32,0,224,480,1023]
theorem aj.RL:gJ .any (opsOf Tryz.f18 6)=aj.T6:=by kernel_rfl
theorem aj.OQ:bI aj.T6.2 aj.B6=true:=by kernel_rfl
def aj.T12:Bool × List (List Nat × List Nat):=(true,[([],[]),([0],[0]),([],[]),([1,2],[1,2]),([3],[3]),([],[]),([5],[5]),([],[]),([6,7],[6,7]),([8],[8]),([4,9],[4,9]),([10],[10])])
def aj.B12:List Nat:= [0,1,0,7,15,0,32,0,224,480,1023,2047]
theorem aj.PG:gJ .any (opsOf Tryz.f18 12)=aj.T12:=by kernel_rfl
theorem aj.KY:bI aj.T12.2 aj.B12=true:=by kernel_rfl
theorem aj.calls (k:Nat): ∀ (a0_0:Bool) (a0_1:Bool) (A0_2:Option Addr) (c0_2:Nat) (l0_2:List (fF)) (A0_3:Option Addr) (c0_3:Nat) (l0_3:List Int) (A0_4:Option Addr) (c0_4:Nat) (l0_4:List (S30)) (a1_0:Bool) (a1_1:Bool) (A1_2:Option Addr) (c1_2:Nat) (l1_2:List (fF)) (A1_3:Option Addr) (c1_3:Nat) (l1_3:List Int) (A1_4:Option Addr) (c1_4:Nat) (l1_4:List (S30)) (r:Bool) (w:World) (hr0_2:Kd.C mg w A0_2 l0_2.length l0_2) (hc0_2:l0_2.length≤c0_2) (hr0_3:Kd.C (Kd.int .i64) w A0_3 l0_3.length l0_3) (hc0_3:l0_3.length≤c0_3) (hr0_4:Kd.C k30 w A0_4 l0_4.length l0_4) (hc0_4:l0_4.length≤c0_4) (hr1_2:Kd.C mg w A1_2 l1_2.length l1_2) (hc1_2:l1_2.length≤c1_2) (hr1_3:Kd.C (Kd.int .i64) w A1_3 l1_3.length l1_3) (hc1_3:l1_3.length≤c1_3) (hr1_4:Kd.C k30 w A1_4 l1_4.length l1_4) (hc1_4:l1_4.length≤c1_4) (h:aj.f k a0_0 a0_1 l0_2 l0_3 l0_4 a1_0 a1_1 l1_2 l1_3 l1_4=some r),
  Calls Tryz.prog 18 #[.agg #[.bool a0_0,.bool a0_1,.slice A0_2 l0_2.length c0_2,.slice A0_3 l0_3.length c0_3,.slice A0_4 l0_4.length c0_4],.agg #[.bool a1_0,.bool a1_1,.slice A1_2 l1_2.length c1_2,.slice A1_3 l1_3.length c1_3,.slice A1_4 l1_4.length c1_4]] w fun e w'=>e= .returned (.bool r)∧Below w.heap.size w w':=by
 induction k using Nat.strongRecOn with
 | _ k ih=>
 intro a0_0 a0_1 A0_2 c0_2 l0_2 A0_3 c0_3 l0_3 A0_4 c0_4 l0_4 a1_0 a1_1 A1_2 c1_2 l1_2 A1_3 c1_3 l1_3 A1_4 c1_4 l1_4 r w hr0_2 hc0_2 hr0_3 hc0_3 hr0_4 hc0_4 hr1_2 hc1_2 hr1_3 hc1_3 hr1_4 hc1_4 h
 cases k with
 | zero=>exact absurd h (by simp [aj.f])
 | succ k=>
 simp only [aj.f] at h
 have hu30:=Tryz.underlying30
 have HR0_2:=Am_ hr0_2
 have HC0_2:=Am_ hc0_2
 clear hr0_2 hc0_2
 have HR0_3:=Am_ hr0_3
 have HC0_3:=Am_ hc0_3
 clear hr0_3 hc0_3
 have HR0_4:=Am_ hr0_4
 have HC0_4:=Am_ hc0_4
 clear hr0_4 hc0_4
 have HR1_2:=Am_ hr1_2
 have HC1_2:=Am_ hc1_2
 clear hr1_2 hc1_2
 have HR1_3:=Am_ hr1_3
 have HC1_3:=Am_ hc1_3
 clear hr1_3 hc1_3
 have HR1_4:=Am_ hr1_4
 have HC1_4:=Am_ hc1_4
 clear hr1_4 hc1_4
 have HB:=Am_ (Below.refl w.heap.size w)
 have H:(if (a0_0 != a1_0)=true then (aj.j0 k true a0_0 a0_1 l0_2 l0_3 l0_4 a1_0 a1_1 l1_2 l1_3 l1_4) else (if (a0_1 != a1_1)=true then (aj.j0 k true a0_0 a0_1 l0_2 l0_3 l0_4 a1_0 a1_1 l1_2 l1_3 l1_4) else ((aI.f k l0_2 l1_2).bind fun t206=>(if t206=true then (if (l0_3.length:Int)=(l1_3.length:Int) then (aj.j0 k ((l0_4.length:Int) != (l1_4.length:Int)) a0_0 a0_1 l0_2 l0_3 l0_4 a1_0 a1_1 l1_2 l1_3 l1_4) else (aj.j0 k true a0_0 a0_1 l0_2 l0_3 l0_4 a1_0 a1_1 l1_2 l1_3 l1_4)) else (aj.j0 k true a0_0 a0_1 l0_2 l0_3 l0_4 a1_0 a1_1 l1_2 l1_3 l1_4)))))=some r:=h
 clear h
 have HC3:=Am_ H
 clear H
 go_enter Tryz.func18,Tryz.ntmps18
 go_upto_region 1 with (first | ((with_reducible refine iO (N:=2) rfl ?_);(try (refine uS (by rfl) ?_;dsimp only));refine gX ?hg (N:=2) ?hd (cs:= #[.bool a0_0,.bool a0_1,.slice A0_2 l0_2.length c0_2,.slice A0_3 l0_3.length c0_3,.slice A0_4 l0_4.length c0_4]) (t:=30) ?hr ?_;(case hd=>rfl);(case hg=>rfl);(case hr=>first | (go_simp;done) | (go_simp;rfl));intro gb204 hg w4 hbox hb;have n0_:=Am_ (dL (by repeat (first | (with_reducible first | exact HB.out | apply ai | apply au | apply aA) | exact HB.out)) hb);have n1_:=Am_ (hbox);have n2_:=Am_ ((by rw [hg];exact (bN (by repeat (first | (with_reducible first | exact HB.out | apply ai | apply au | apply aA) | exact HB.out))):w.heap.size≤gb204));have n3_:=Am_ ((by rw [hg];exact (bN (by repeat (first | (with_reducible first | exact HB.out | apply ai | apply au | apply aA) | exact HB.out))):w.heap.size≤gb204));clear HB;have HB:=n0_;have BK204:=n1_;have GW204:=n2_;have GE204:=n3_;clear n0_ n1_ n2_ n3_;clear hb hbox hg) | ((with_reducible refine iO (N:=3) rfl ?_);(try (refine uS (by rfl) ?_;dsimp only));refine gX ?hg (N:=3) ?hd (cs:= #[.bool a1_0,.bool a1_1,.slice A1_2 l1_2.length c1_2,.slice A1_3 l1_3.length c1_3,.slice A1_4 l1_4.length c1_4]) (t:=30) ?hr ?_;(case hd=>rfl);(case hg=>rfl);(case hr=>first | (go_simp;done) | (go_simp;rfl));intro gb205 hg w5 hbox hb;have n0_:=Am_ (bW (g:=gb204) (o:= .cells #[.bool a0_0,.bool a0_1,.slice A0_2 l0_2.length c0_2,.slice A0_3 l0_3.length c0_3,.slice A0_4 l0_4.length c0_4] 30 (0,0)) (by (with_reducible repeat (first | refine aY ?_ _ | refine aV ?_ | refine aK ?_ _));exact BK204.out) hb);have n1_:=Am_ (dL (by repeat (first | (with_reducible first | exact HB.out | apply ai | apply au | apply aA | refine aM ?_ GE204.out) | exact HB.out)) hb);have n2_:=Am_ (hbox);have n3_:=Am_ ((by rw [hg];exact (bN (by repeat (first | (with_reducible first | exact HB.out | apply ai | apply au | apply aA | refine aM ?_ GE204.out) | exact HB.out))):w.heap.size≤gb205));have n4_:=Am_ ((by rw [hg];exact (bN (by repeat (first | (with_reducible first | exact HB.out | apply ai | apply au | apply aA | refine aM ?_ GE204.out) | exact HB.out))):w.heap.size≤gb205));have n5_:=Am_ ((by rw [hg];exact Nat.ne_of_lt (bH (g:=gb204) (o:= .cells #[.bool a0_0,.bool a0_1,.slice A0_2 l0_2.length c0_2,.slice A0_3 l0_3.length c0_3,.slice A0_4 l0_4.length c0_4] 30 (0,0)) (by (with_reducible repeat (first | refine aY ?_ _ | refine aV ?_ | refine aK ?_ _));exact BK204.out)):gb204≠gb205));have n6_:=Am_ ((by rw [hg];exact Nat.ne_of_gt (bH (g:=gb204) (o:= .cells #[.bool a0_0,.bool a0_1,.slice A0_2 l0_2.length c0_2,.slice A0_3 l0_3.length c0_3,.slice A0_4 l0_4.length c0_4] 30 (0,0)) (by (with_reducible repeat (first | refine aY ?_ _ | refine aV ?_ | refine aK ?_ _));exact BK204.out)):gb205≠gb204));clear BK204;clear HB;have BK204:=n0_;have HB:=n1_;have BK205:=n2_;have GW205:=n3_;have GE205:=n4_;have NB204_205:=n5_;have NB205_204:=n6_;clear n0_ n1_ n2_ n3_ n4_ n5_ n6_;clear hb hbox hg))
 (try simp only [Act.put,u1_,u2_,u3_])
 go_cut [44] (fun v44 wc=> ∃ (kq:Nat) (x44_2:Bool),v44= .bool x44_2∧av (aj.j0 kq x44_2 a0_0 a0_1 l0_2 l0_3 l0_4 a1_0 a1_1 l1_2 l1_3 l1_4=some r)∧av (kq≤k)∧av (wc.heap[gb204]?=some (.cells #[.bool a0_0,.bool a0_1,(.slice A0_2 l0_2.length c0_2),(.slice A0_3 l0_3.length c0_3),(.slice A0_4 l0_4.length c0_4)] 30 (0,0)))∧av (wc.heap[gb205]?=some (.cells #[.bool a1_0,.bool a1_1,(.slice A1_2 l1_2.length c1_2),(.slice A1_3 l1_3.length c1_3),(.slice A1_4 l1_4.length c1_4)] 30 (0,0)))∧av (Below w.heap.size w wc))
 case first=>
  have H:=HC3.out
  clear HC3
  by_cases c6:(a0_0 != a1_0)=true
  ·rw [if_pos c6] at H
   have c6b0:(a0_0 != a1_0)=true:=c6
   (try (have c6b1:decide (a0_0=a1_0)=false:=by simpa using c6))
   (try (have c6b2:(a0_0 == a1_0)=false:=by simpa using c6))
   (try (have c6b3: ¬ (a0_0=a1_0):=by simpa using c6))
   clear c6
   (first | rw [c6b0] | (simp only [aG,aH];rw [c6b0]) | skip)
   have H':=Am_ H
   clear H
   have hnb7:=NB204_205.out
   have hnc7:=NB205_204.out
   have hcz8_0:w5.cell? ⟨gb204,0,none⟩=some (.bool a0_0):=(af BK204.out 0).trans rfl
   have hcz8_1:w5.cell? ⟨gb204,1,none⟩=some (.bool a0_1):=(af BK204.out 1).trans rfl
   have hcz8_2:w5.cell? ⟨gb204,2,none⟩=some (.slice A0_2 l0_2.length c0_2):=(af BK204.out 2).trans rfl
   have hcz8_3:w5.cell? ⟨gb204,3,none⟩=some (.slice A0_3 l0_3.length c0_3):=(af BK204.out 3).trans rfl
   have hcz8_4:w5.cell? ⟨gb204,4,none⟩=some (.slice A0_4 l0_4.length c0_4):=(af BK204.out 4).trans rfl
   have hfz8_0:=ah BK204.out 0
   have hfz8_1:=ah BK204.out 1
   have hfz8_2:=ah BK204.out 2
   have hfz8_3:=ah BK204.out 3
   have hfz8_4:=ah BK204.out 4
   have hcz9_0:w5.cell? ⟨gb205,0,none⟩=some (.bool a1_0):=(af BK205.out 0).trans rfl
   have hcz9_1:w5.cell? ⟨gb205,1,none⟩=some (.bool a1_1):=(af BK205.out 1).trans rfl
   have hcz9_2:w5.cell? ⟨gb205,2,none⟩=some (.slice A1_2 l1_2.length c1_2):=(af BK205.out 2).trans rfl
   have hcz9_3:w5.cell? ⟨gb205,3,none⟩=some (.slice A1_3 l1_3.length c1_3):=(af BK205.out 3).trans rfl
   have hcz9_4:w5.cell? ⟨gb205,4,none⟩=some (.slice A1_4 l1_4.length c1_4):=(af BK205.out 4).trans rfl
   have hfz9_0:=ah BK205.out 0
   have hfz9_1:=ah BK205.out 1
   have hfz9_2:=ah BK205.out 2
   have hfz9_3:=ah BK205.out 3
   have hfz9_4:=ah BK205.out 4
   go_wp2
   go_meet
   case rel=>exact ⟨_,(true),(by first | rfl | (simp;done) | (simp [*];done)),H',⟨by first | omega | exact Nat.le_refl _⟩,⟨by (with_reducible repeat (first | refine aY ?_ _ | refine aV ?_ | refine aK ?_ _));exact BK204.out⟩,⟨by (with_reducible repeat (first | refine aY ?_ _ | refine aV ?_ | refine aK ?_ _));exact BK205.out⟩,⟨by repeat (first | (with_reducible first | exact HB.out | apply ai | apply au | apply aA | refine aM ?_ GE204.out | refine aM ?_ GE205.out) | exact HB.out)⟩⟩
  ·rw [if_neg c6] at H
   have c6b0:(a0_0 != a1_0)=false:=by simpa using c6
   (try (have c6b1:decide (a0_0=a1_0)=true:=by simpa using c6))
   (try (have c6b2:(a0_0 == a1_0)=true:=by simpa using c6))
   clear c6
   (first | rw [c6b0] | (simp only [aG,aH];rw [c6b0]) | skip)
   by_cases c10:(a0_1 != a1_1)=true
   ·rw [if_pos c10] at H
    have c10b0:(a0_1 != a1_1)=true:=c10
    (try (have c10b1:decide (a0_1=a1_1)=false:=by simpa using c10))
    (try (have c10b2:(a0_1 == a1_1)=false:=by simpa using c10))
    (try (have c10b3: ¬ (a0_1=a1_1):=by simpa using c10))
    clear c10
    have H':=Am_ H
    clear H
    have hnb11:=NB204_205.out
    have hnc11:=NB205_204.out
    have hcz12_0:w5.cell? ⟨gb204,0,none⟩=some (.bool a0_0):=(af BK204.out 0).trans rfl
    have hcz12_1:w5.cell? ⟨gb204,1,none⟩=some (.bool a0_1):=(af BK204.out 1).trans rfl
    have hcz12_2:w5.cell? ⟨gb204,2,none⟩=some (.slice A0_2 l0_2.length c0_2):=(af BK204.out 2).trans rfl
    have hcz12_3:w5.cell? ⟨gb204,3,none⟩=some (.slice A0_3 l0_3.length c0_3):=(af BK204.out 3).trans rfl
    have hcz12_4:w5.cell? ⟨gb204,4,none⟩=some (.slice A0_4 l0_4.length c0_4):=(af BK204.out 4).trans rfl
    have hfz12_0:=ah BK204.out 0
    have hfz12_1:=ah BK204.out 1
    have hfz12_2:=ah BK204.out 2
    have hfz12_3:=ah BK204.out 3
    have hfz12_4:=ah BK204.out 4
    have hcz13_0:w5.cell? ⟨gb205,0,none⟩=some (.bool a1_0):=(af BK205.out 0).trans rfl
    have hcz13_1:w5.cell? ⟨gb205,1,none⟩=some (.bool a1_1):=(af BK205.out 1).trans rfl
    have hcz13_2:w5.cell? ⟨gb205,2,none⟩=some (.slice A1_2 l1_2.length c1_2):=(af BK205.out 2).trans rfl
    have hcz13_3:w5.cell? ⟨gb205,3,none⟩=some (.slice A1_3 l1_3.length c1_3):=(af BK205.out 3).trans rfl
    have hcz13_4:w5.cell? ⟨gb205,4,none⟩=some (.slice A1_4 l1_4.length c1_4):=(af BK205.out 4).trans rfl
    have hfz13_0:=ah BK205.out 0
    have hfz13_1:=ah BK205.out 1
    have hfz13_2:=ah BK205.out 2
    have hfz13_3:=ah BK205.out 3
    have hfz13_4:=ah BK205.out 4
    go_wp2
    go_meet
    case rel=>exact ⟨_,(true),(by first | rfl | (simp;done) | (simp [*];done)),H',⟨by first | omega | exact Nat.le_refl _⟩,⟨by (with_reducible repeat (first | refine aY ?_ _ | refine aV ?_ | refine aK ?_ _));exact BK204.out⟩,⟨by (with_reducible repeat (first | refine aY ?_ _ | refine aV ?_ | refine aK ?_ _));exact BK205.out⟩,⟨by repeat (first | (with_reducible first | exact HB.out | apply ai | apply au | apply aA | refine aM ?_ GE204.out | refine aM ?_ GE205.out) | exact HB.out)⟩⟩
   ·rw [if_neg c10] at H
    have c10b0:(a0_1 != a1_1)=false:=by simpa using c10
    (try (have c10b1:decide (a0_1=a1_1)=true:=by simpa using c10))
    (try (have c10b2:(a0_1 == a1_1)=true:=by simpa using c10))
    clear c10
    replace H:=Option.bind_eq_some_iff.mp H
    obtain ⟨t206,A140,H⟩:=H
    replace H:(if t206=true then (if (l0_3.length:Int)=(l1_3.length:Int) then (aj.j0 k ((l0_4.length:Int) != (l1_4.length:Int)) a0_0 a0_1 l0_2 l0_3 l0_4 a1_0 a1_1 l1_2 l1_3 l1_4) else (aj.j0 k true a0_0 a0_1 l0_2 l0_3 l0_4 a1_0 a1_1 l1_2 l1_3 l1_4)) else (aj.j0 k true a0_0 a0_1 l0_2 l0_3 l0_4 a1_0 a1_1 l1_2 l1_3 l1_4))=some r:=H
    have A14:=Am_ A140
    clear A140
    by_cases c15:t206=true
    ·subst c15
     have H1:(if (l0_3.length:Int)=(l1_3.length:Int) then (aj.j0 k ((l0_4.length:Int) != (l1_4.length:Int)) a0_0 a0_1 l0_2 l0_3 l0_4 a1_0 a1_1 l1_2 l1_3 l1_4) else (aj.j0 k true a0_0 a0_1 l0_2 l0_3 l0_4 a1_0 a1_1 l1_2 l1_3 l1_4))=some r:=by rw [if_pos rfl] at H;exact H
     clear H
     have H:=H1
     clear H1
     by_cases c16:(l0_3.length:Int)=(l1_3.length:Int)
     ·rw [if_pos c16] at H
      have c16b0:((l0_3.length:Int) == (l1_3.length:Int))=true:=beq_iff_eq.mpr c16
      have c16b1:((l0_3.length:Int) != (l1_3.length:Int))=false:=bne_eq_false_iff_eq.mpr c16
      have c16b2:(l0_3.length == l1_3.length)=true:=by first | simpa using c16 | (simp at c16 ⊢;omega)
      clear c16
      have H':=Am_ H
      clear H
      have hnb17:=NB204_205.out
      have hnc17:=NB205_204.out
      have hcz18_0:w5.cell? ⟨gb204,0,none⟩=some (.bool a0_0):=(af BK204.out 0).trans rfl
      have hcz18_1:w5.cell? ⟨gb204,1,none⟩=some (.bool a0_1):=(af BK204.out 1).trans rfl
      have hcz18_2:w5.cell? ⟨gb204,2,none⟩=some (.slice A0_2 l0_2.length c0_2):=(af BK204.out 2).trans rfl
      have hcz18_3:w5.cell? ⟨gb204,3,none⟩=some (.slice A0_3 l0_3.length c0_3):=(af BK204.out 3).trans rfl
      have hcz18_4:w5.cell? ⟨gb204,4,none⟩=some (.slice A0_4 l0_4.length c0_4):=(af BK204.out 4).trans rfl
      have hfz18_0:=ah BK204.out 0
      have hfz18_1:=ah BK204.out 1
      have hfz18_2:=ah BK204.out 2
      have hfz18_3:=ah BK204.out 3
      have hfz18_4:=ah BK204.out 4
      have hcz19_0:w5.cell? ⟨gb205,0,none⟩=some (.bool a1_0):=(af BK205.out 0).trans rfl
      have hcz19_1:w5.cell? ⟨gb205,1,none⟩=some (.bool a1_1):=(af BK205.out 1).trans rfl
      have hcz19_2:w5.cell? ⟨gb205,2,none⟩=some (.slice A1_2 l1_2.length c1_2):=(af BK205.out 2).trans rfl
      have hcz19_3:w5.cell? ⟨gb205,3,none⟩=some (.slice A1_3 l1_3.length c1_3):=(af BK205.out 3).trans rfl
      have hcz19_4:w5.cell? ⟨gb205,4,none⟩=some (.slice A1_4 l1_4.length c1_4):=(af BK205.out 4).trans rfl
      have hfz19_0:=ah BK205.out 0
      have hfz19_1:=ah BK205.out 1
      have hfz19_2:=ah BK205.out 2
      have hfz19_3:=ah BK205.out 3
      have hfz19_4:=ah BK205.out 4
      go_wp2_with (first | (go_at_call 56;(with_reducible refine (aI.calls k _ _ l0_2 _ _ l1_2 true _ ?side1 ?side2 ?side3 ?side4 A14.out).mono ?_);(case side1=>repeat (first | exact (Kd.bE HR0_2.out HB.out) | (with_reducible refine Kd.fB ?_ _) | (with_reducible refine Kd.fE ?_ _) | (with_reducible refine Kd.iB ?_)));(case side2=>exact HC0_2.out);(case side3=>repeat (first | exact (Kd.bE HR1_2.out HB.out) | (with_reducible refine Kd.fB ?_ _) | (with_reducible refine Kd.fE ?_ _) | (with_reducible refine Kd.iB ?_)));(case side4=>exact HC1_2.out);rintro e w' ⟨rfl,⟨nd,rfl⟩⟩))
      go_meet
      case rel=>exact ⟨_,(((l0_4.length:Int) != (l1_4.length:Int))),(by first | rfl | (simp;done) | (simp [*];done)),H',⟨by first | omega | exact Nat.le_refl _⟩,⟨by (with_reducible repeat (first | refine aY ?_ _ | refine aV ?_ | refine aK ?_ _));exact BK204.out⟩,⟨by (with_reducible repeat (first | refine aY ?_ _ | refine aV ?_ | refine aK ?_ _));exact BK205.out⟩,⟨by repeat (first | (with_reducible first | exact HB.out | apply ai | apply au | apply aA | refine aM ?_ GE204.out | refine aM ?_ GE205.out) | exact HB.out)⟩⟩
     ·rw [if_neg c16] at H
      have c16b0:((l0_3.length:Int) == (l1_3.length:Int))=false:=beq_eq_false_iff_ne.mpr c16
      have c16b1:((l0_3.length:Int) != (l1_3.length:Int))=true:=bne_iff_ne.mpr c16
      have c16b2:(l0_3.length == l1_3.length)=false:=by first | simpa using c16 | (simp at c16 ⊢;omega)
      have H':=Am_ H
      clear H
      have hnb20:=NB204_205.out
      have hnc20:=NB205_204.out
      have hcz21_0:w5.cell? ⟨gb204,0,none⟩=some (.bool a0_0):=(af BK204.out 0).trans rfl
      have hcz21_1:w5.cell? ⟨gb204,1,none⟩=some (.bool a0_1):=(af BK204.out 1).trans rfl
      have hcz21_2:w5.cell? ⟨gb204,2,none⟩=some (.slice A0_2 l0_2.length c0_2):=(af BK204.out 2).trans rfl
      have hcz21_3:w5.cell? ⟨gb204,3,none⟩=some (.slice A0_3 l0_3.length c0_3):=(af BK204.out 3).trans rfl
      have hcz21_4:w5.cell? ⟨gb204,4,none⟩=some (.slice A0_4 l0_4.length c0_4):=(af BK204.out 4).trans rfl
      have hfz21_0:=ah BK204.out 0
      have hfz21_1:=ah BK204.out 1
      have hfz21_2:=ah BK204.out 2
      have hfz21_3:=ah BK204.out 3
      have hfz21_4:=ah BK204.out 4
      have hcz22_0:w5.cell? ⟨gb205,0,none⟩=some (.bool a1_0):=(af BK205.out 0).trans rfl
      have hcz22_1:w5.cell? ⟨gb205,1,none⟩=some (.bool a1_1):=(af BK205.out 1).trans rfl
      have hcz22_2:w5.cell? ⟨gb205,2,none⟩=some (.slice A1_2 l1_2.length c1_2):=(af BK205.out 2).trans rfl
      have hcz22_3:w5.cell? ⟨gb205,3,none⟩=some (.slice A1_3 l1_3.length c1_3):=(af BK205.out 3).trans rfl
      have hcz22_4:w5.cell? ⟨gb205,4,none⟩=some (.slice A1_4 l1_4.length c1_4):=(af BK205.out 4).trans rfl
      have hfz22_0:=ah BK205.out 0
      have hfz22_1:=ah BK205.out 1
      have hfz22_2:=ah BK205.out 2
      have hfz22_3:=ah BK205.out 3
      have hfz22_4:=ah BK205.out 4
      go_wp2_with (first | (go_at_call 56;(with_reducible refine (aI.calls k _ _ l0_2 _ _ l1_2 true _ ?side1 ?side2 ?side3 ?side4 A14.out).mono ?_);(case side1=>repeat (first | exact (Kd.bE HR0_2.out HB.out) | (with_reducible refine Kd.fB ?_ _) | (with_reducible refine Kd.fE ?_ _) | (with_reducible refine Kd.iB ?_)));(case side2=>exact HC0_2.out);(case side3=>repeat (first | exact (Kd.bE HR1_2.out HB.out) | (with_reducible refine Kd.fB ?_ _) | (with_reducible refine Kd.fE ?_ _) | (with_reducible refine Kd.iB ?_)));(case side4=>exact HC1_2.out);rintro e w' ⟨rfl,⟨nd,rfl⟩⟩))
      go_meet
      case rel=>exact ⟨_,(true),(by first | rfl | (simp;done) | (simp [*];done)),H',⟨by first | omega | exact Nat.le_refl _⟩,⟨by (with_reducible repeat (first | refine aY ?_ _ | refine aV ?_ | refine aK ?_ _));exact BK204.out⟩,⟨by (with_reducible repeat (first | refine aY ?_ _ | refine aV ?_ | refine aK ?_ _));exact BK205.out⟩,⟨by repeat (first | (with_reducible first | exact HB.out | apply ai | apply au | apply aA | refine aM ?_ GE204.out | refine aM ?_ GE205.out) | exact HB.out)⟩⟩
    ·replace c15:=Bool.eq_false_iff.mpr c15
     subst c15
     have H1:(aj.j0 k true a0_0 a0_1 l0_2 l0_3 l0_4 a1_0 a1_1 l1_2 l1_3 l1_4)=some r:=by rw [if_neg (show ¬ (false=true) by decide)] at H;exact H
     clear H
     have H:=H1
     clear H1
     have H':=Am_ H
     clear H
     have hnb23:=NB204_205.out
     have hnc23:=NB205_204.out
     have hcz24_0:w5.cell? ⟨gb204,0,none⟩=some (.bool a0_0):=(af BK204.out 0).trans rfl
     have hcz24_1:w5.cell? ⟨gb204,1,none⟩=some (.bool a0_1):=(af BK204.out 1).trans rfl
     have hcz24_2:w5.cell? ⟨gb204,2,none⟩=some (.slice A0_2 l0_2.length c0_2):=(af BK204.out 2).trans rfl
     have hcz24_3:w5.cell? ⟨gb204,3,none⟩=some (.slice A0_3 l0_3.length c0_3):=(af BK204.out 3).trans rfl
     have hcz24_4:w5.cell? ⟨gb204,4,none⟩=some (.slice A0_4 l0_4.length c0_4):=(af BK204.out 4).trans rfl
     have hfz24_0:=ah BK204.out 0
     have hfz24_1:=ah BK204.out 1
     have hfz24_2:=ah BK204.out 2
     have hfz24_3:=ah BK204.out 3
     have hfz24_4:=ah BK204.out 4
     have hcz25_0:w5.cell? ⟨gb205,0,none⟩=some (.bool a1_0):=(af BK205.out 0).trans rfl
     have hcz25_1:w5.cell? ⟨gb205,1,none⟩=some (.bool a1_1):=(af BK205.out 1).trans rfl
     have hcz25_2:w5.cell? ⟨gb205,2,none⟩=some (.slice A1_2 l1_2.length c1_2):=(af BK205.out 2).trans rfl
     have hcz25_3:w5.cell? ⟨gb205,3,none⟩=some (.slice A1_3 l1_3.length c1_3):=(af BK205.out 3).trans rfl
     have hcz25_4:w5.cell? ⟨gb205,4,none⟩=some (.slice A1_4 l1_4.length c1_4):=(af BK205.out 4).trans rfl
     have hfz25_0:=ah BK205.out 0
     have hfz25_1:=ah BK205.out 1
     have hfz25_2:=ah BK205.out 2
     have hfz25_3:=ah BK205.out 3
     have hfz25_4:=ah BK205.out 4
     go_wp2_with (first | (go_at_call 56;(with_reducible refine (aI.calls k _ _ l0_2 _ _ l1_2 false _ ?side1 ?side2 ?side3 ?side4 A14.out).mono ?_);(case side1=>repeat (first | exact (Kd.bE HR0_2.out HB.out) | (with_reducible refine Kd.fB ?_ _) | (with_reducible refine Kd.fE ?_ _) | (with_reducible refine Kd.iB ?_)));(case side2=>exact HC0_2.out);(case side3=>repeat (first | exact (Kd.bE HR1_2.out HB.out) | (with_reducible refine Kd.fB ?_ _) | (with_reducible refine Kd.fE ?_ _) | (with_reducible refine Kd.iB ?_)));(case side4=>exact HC1_2.out);rintro e w' ⟨rfl,⟨nd,rfl⟩⟩))
     go_meet
     case rel=>exact ⟨_,(true),(by first | rfl | (simp;done) | (simp [*];done)),H',⟨by first | omega | exact Nat.le_refl _⟩,⟨by (with_reducible repeat (first | refine aY ?_ _ | refine aV ?_ | refine aK ?_ _));exact BK204.out⟩,⟨by (with_reducible repeat (first | refine aY ?_ _ | refine aV ?_ | refine aK ?_ _));exact BK205.out⟩,⟨by repeat (first | (with_reducible first | exact HB.out | apply ai | apply au | apply aA | refine aM ?_ GE204.out | refine aM ?_ GE205.out) | exact HB.out)⟩⟩
 case rest=>
  clear HC3
  try clear c1
  try clear c2
  try clear p2
  try clear c6
  try clear c6b0
  try clear c6b1
  try clear c6b2
  try clear c7
  try clear c10
  try clear c10b0
  try clear c10b1
  try clear c10b2
  try clear c11
  try clear c15
  try clear c16
  try clear c16b0
  try clear c16b1
  try clear c16b2
  try clear c17
  try clear c18
  try clear c20
  try clear c23
  try clear hcz12_0
  try clear hcz12_1
  try clear hcz12_2
  try clear hcz12_3
  try clear hcz12_4
  try clear hcz13_0
  try clear hcz13_1
  try clear hcz13_2
  try clear hcz13_3
  try clear hcz13_4
  try clear hcz18_0
  try clear hcz18_1
  try clear hcz18_2
  try clear hcz18_3
  try clear hcz18_4
  try clear hcz19_0
  try clear hcz19_1
  try clear hcz19_2
  try clear hcz19_3
  try clear hcz19_4
  try clear hcz21_0
  try clear hcz21_1
  try clear hcz21_2
  try clear hcz21_3
  try clear hcz21_4
  try clear hcz22_0
  try clear hcz22_1
  try clear hcz22_2
  try clear hcz22_3
  try clear hcz22_4
  try clear hcz24_0
  try clear hcz24_1
  try clear hcz24_2
  try clear hcz24_3
  try clear hcz24_4
  try clear hcz25_0
  try clear hcz25_1
  try clear hcz25_2
  try clear hcz25_3
  try clear hcz25_4
  try clear hcz8_0
  try clear hcz8_1
  try clear hcz8_2
  try clear hcz8_3
  try clear hcz8_4
  try clear hcz9_0
  try clear hcz9_1
  try clear hcz9_2
  try clear hcz9_3
  try clear hcz9_4
  try clear hfz12_0
  try clear hfz12_1
  try clear hfz12_2
  try clear hfz12_3
  try clear hfz12_4
  try clear hfz13_0
  try clear hfz13_1
  try clear hfz13_2
  try clear hfz13_3
  try clear hfz13_4
  try clear hfz18_0
  try clear hfz18_1
  try clear hfz18_2
  try clear hfz18_3
  try clear hfz18_4
  try clear hfz19_0
  try clear hfz19_1
  try clear hfz19_2
  try clear hfz19_3
  try clear hfz19_4
  try clear hfz21_0
  try clear hfz21_1
  try clear hfz21_2
  try clear hfz21_3
  try clear hfz21_4
  try clear hfz22_0
  try clear hfz22_1
  try clear hfz22_2
  try clear hfz22_3
  try clear hfz22_4
  try clear hfz24_0
  try clear hfz24_1
  try clear hfz24_2
  try clear hfz24_3
  try clear hfz24_4
  try clear hfz25_0
  try clear hfz25_1
  try clear hfz25_2
  try clear hfz25_3
  try clear hfz25_4
  try clear hfz8_0
  try clear hfz8_1
  try clear hfz8_2
  try clear hfz8_3
  try clear hfz8_4
  try clear hfz9_0
  try clear hfz9_1
  try clear hfz9_2
  try clear hfz9_3
  try clear hfz9_4
  obtain ⟨kq,x44_2,rfl,HA,HJ2,BK204,BK205,HB⟩:=hcut
  cases kq with
  | zero=>exact absurd HA.out (by simp [aj.j0])
  | succ kj2=>
   have H:=HA.out
   clear HA
   simp only [aj.j0] at H
   by_cases c26:x44_2=true
   ·subst c26
    have H1:(some false)=some r:=by rw [if_pos rfl] at H;exact H
    clear H
    have H:=H1
    clear H1
    obtain rfl:=Option.some.inj H
    go_wp2
    go_ret
    exact ⟨by first | rfl | (simp [dA,dB]<;>rfl) | (simp [*,dA,dB]<;>rfl),by repeat (first | (with_reducible first | exact HB.out | apply ai | apply au | apply aA | refine aM ?_ GE204.out | refine aM ?_ GE205.out) | exact HB.out)⟩
   ·replace c26:=Bool.eq_false_iff.mpr c26
    subst c26
    have H1:(aj.l0 kj2 (l0_3.length:Int) 0 a0_0 a0_1 l0_2 l0_3 l0_4 a1_0 a1_1 l1_2 l1_3 l1_4)=some r:=by rw [if_neg (show ¬ (false=true) by decide)] at H;exact H
    clear H
    have H:=H1
    clear H1
    have H':=Am_ H
    clear H
    have hnb27:=NB204_205.out
    have hnc27:=NB205_204.out
    have hcz28_0:wc.cell? ⟨gb204,0,none⟩=some (.bool a0_0):=(af BK204.out 0).trans rfl
    have hcz28_1:wc.cell? ⟨gb204,1,none⟩=some (.bool a0_1):=(af BK204.out 1).trans rfl
    have hcz28_2:wc.cell? ⟨gb204,2,none⟩=some (.slice A0_2 l0_2.length c0_2):=(af BK204.out 2).trans rfl
    have hcz28_3:wc.cell? ⟨gb204,3,none⟩=some (.slice A0_3 l0_3.length c0_3):=(af BK204.out 3).trans rfl
    have hcz28_4:wc.cell? ⟨gb204,4,none⟩=some (.slice A0_4 l0_4.length c0_4):=(af BK204.out 4).trans rfl
    have hfz28_0:=ah BK204.out 0
    have hfz28_1:=ah BK204.out 1
    have hfz28_2:=ah BK204.out 2
    have hfz28_3:=ah BK204.out 3
    have hfz28_4:=ah BK204.out 4
    go_wp2
    go_loopg [48] kj2 (fun kq v48 w'=> ∃ (x48_2:Int),v48= .int .i64 x48_2∧av (aj.l0 kq (l0_3.length:Int) x48_2 a0_0 a0_1 l0_2 l0_3 l0_4 a1_0 a1_1 l1_2 l1_3 l1_4=some r)∧av (kq≤kj2)∧av (w'.heap[gb204]?=some (.cells #[.bool a0_0,.bool a0_1,(.slice A0_2 l0_2.length c0_2),(.slice A0_3 l0_3.length c0_3),(.slice A0_4 l0_4.length c0_4)] 30 (0,0)))∧av (w'.heap[gb205]?=some (.cells #[.bool a1_0,.bool a1_1,(.slice A1_2 l1_2.length c1_2),(.slice A1_3 l1_3.length c1_3),(.slice A1_4 l1_4.length c1_4)] 30 (0,0)))∧av (Below w.heap.size w w'))
    case atStart=>exact ⟨(0),(by first | rfl | (simp;done) | (simp [*];done)),H',⟨Nat.le_refl _⟩,⟨by (with_reducible repeat (first | refine aY ?_ _ | refine aV ?_ | refine aK ?_ _));exact BK204.out⟩,⟨by (with_reducible repeat (first | refine aY ?_ _ | refine aV ?_ | refine aK ?_ _));exact BK205.out⟩,⟨by repeat (first | (with_reducible first | exact HB.out | apply ai | apply au | apply aA | refine aM ?_ GE204.out | refine aM ?_ GE205.out) | exact HB.out)⟩⟩
    case round=>
     clear H'
     try clear c1
     try clear c2
     try clear p2
     try clear c6
     try clear c6b0
     try clear c6b1
     try clear c6b2
     try clear c7
     try clear c10
     try clear c10b0
     try clear c10b1
     try clear c10b2
     try clear c11
     try clear c15
     try clear c16
     try clear c16b0
     try clear c16b1
     try clear c16b2
     try clear c17
     try clear c18
     try clear c20
     try clear c23
     try clear c26
     try clear c27
     try clear hcz12_0
     try clear hcz12_1
     try clear hcz12_2
     try clear hcz12_3
     try clear hcz12_4
     try clear hcz13_0
     try clear hcz13_1
     try clear hcz13_2
     try clear hcz13_3
     try clear hcz13_4
     try clear hcz18_0
     try clear hcz18_1
     try clear hcz18_2
     try clear hcz18_3
     try clear hcz18_4
     try clear hcz19_0
     try clear hcz19_1
     try clear hcz19_2
     try clear hcz19_3
     try clear hcz19_4
     try clear hcz21_0
     try clear hcz21_1
     try clear hcz21_2
     try clear hcz21_3
     try clear hcz21_4
     try clear hcz22_0
     try clear hcz22_1
     try clear hcz22_2
     try clear hcz22_3
     try clear hcz22_4
     try clear hcz24_0
     try clear hcz24_1
     try clear hcz24_2
     try clear hcz24_3
     try clear hcz24_4
     try clear hcz25_0
     try clear hcz25_1
     try clear hcz25_2
     try clear hcz25_3
     try clear hcz25_4
     try clear hcz28_0
     try clear hcz28_1
     try clear hcz28_2
     try clear hcz28_3
     try clear hcz28_4
     try clear hcz8_0
     try clear hcz8_1
     try clear hcz8_2
     try clear hcz8_3
     try clear hcz8_4
     try clear hcz9_0
     try clear hcz9_1
     try clear hcz9_2
     try clear hcz9_3
     try clear hcz9_4
     try clear hfz12_0
     try clear hfz12_1
     try clear hfz12_2
     try clear hfz12_3
     try clear hfz12_4
     try clear hfz13_0
     try clear hfz13_1
     try clear hfz13_2
     try clear hfz13_3
     try clear hfz13_4
     try clear hfz18_0
     try clear hfz18_1
     try clear hfz18_2
     try clear hfz18_3
     try clear hfz18_4
     try clear hfz19_0
     try clear hfz19_1
     try clear hfz19_2
     try clear hfz19_3
     try clear hfz19_4
     try clear hfz21_0
     try clear hfz21_1
     try clear hfz21_2
     try clear hfz21_3
     try clear hfz21_4
     try clear hfz22_0
     try clear hfz22_1
     try clear hfz22_2
     try clear hfz22_3
     try clear hfz22_4
     try clear hfz24_0
     try clear hfz24_1
     try clear hfz24_2
     try clear hfz24_3
     try clear hfz24_4
     try clear hfz25_0
     try clear hfz25_1
     try clear hfz25_2
     try clear hfz25_3
     try clear hfz25_4
     try clear hfz28_0
     try clear hfz28_1
     try clear hfz28_2
     try clear hfz28_3
     try clear hfz28_4
     try clear hfz8_0
     try clear hfz8_1
     try clear hfz8_2
     try clear hfz8_3
     try clear hfz8_4
     try clear hfz9_0
     try clear hfz9_1
     try clear hfz9_2
     try clear hfz9_3
     try clear hfz9_4
     try clear p2
     obtain ⟨x48_2,rfl,HA,HK2,BK204,BK205,HB⟩:=hrel
     cases gk with
     | zero=>exact absurd HA.out (by simp [aj.l0])
     | succ k2=>
      have H:=HA.out
      clear HA
      simp only [aj.l0] at H
      by_cases c29:x48_2<(l0_3.length:Int)
      ·rw [if_pos c29] at H
       have c29b0:decide (x48_2<(l0_3.length:Int))=true:=decide_eq_true c29
       clear c29
       by_cases c30:0≤x48_2
       ·rw [if_pos c30] at H
        have c30b0:decide (0≤x48_2)=true:=decide_eq_true c30
        clear c30
        by_cases c31:x48_2<(l0_3.length:Int)
        ·rw [if_pos c31] at H
         have c31b0:decide (x48_2<(l0_3.length:Int))=true:=decide_eq_true c31
         clear c31
         by_cases c32:x48_2<(l1_3.length:Int)
         ·rw [if_pos c32] at H
          have c32b0:decide (x48_2<(l1_3.length:Int))=true:=decide_eq_true c32
          clear c32
          by_cases c33:(rd l0_3 x48_2)=(rd l1_3 x48_2)
          ·rw [if_pos c33] at H
           have c33b0:((rd l0_3 x48_2) == (rd l1_3 x48_2))=true:=beq_iff_eq.mpr c33
           have c33b1:((rd l0_3 x48_2) != (rd l1_3 x48_2))=false:=bne_eq_false_iff_eq.mpr c33
           clear c33
           have H':=Am_ H
           clear H
           try go_wp2
           have n0_:=Am_ (aV BK204.out)
           have n1_:=Am_ (aV BK205.out)
           have n2_:=Am_ (aA HB.out)
           clear BK204
           clear BK205
           clear HB
           have BK204:=n0_
           have BK205:=n1_
           have HB:=n2_
           clear n0_ n1_ n2_
           have p207:0≤(x48_2:Int):=of_decide_eq_true (by first | (with_reducible assumption) | assumption)
           have q207:x48_2<(l0_3.length:Int):=of_decide_eq_true (by first | (with_reducible assumption) | assumption)
           obtain ⟨ad207,e207,hx207_0⟩:=Kd.rX HR0_3.out x48_2 p207 q207
           have hw207_0:=hx207_0
           cases e207
           replace hx207_0:=(HB.out.cell (World.block_lt_of_cell? w _ hx207_0)).trans hx207_0
           replace p207:=eq_true p207
           replace q207:=eq_true q207
           have p208:0≤(x48_2:Int):=of_decide_eq_true (by first | (with_reducible assumption) | assumption)
           have q208:x48_2<(l1_3.length:Int):=of_decide_eq_true (by first | (with_reducible assumption) | assumption)
           obtain ⟨ad208,e208,hx208_0⟩:=Kd.rX HR1_3.out x48_2 p208 q208
           have hw208_0:=hx208_0
           cases e208
           replace hx208_0:=(HB.out.cell (World.block_lt_of_cell? w _ hx208_0)).trans hx208_0
           replace p208:=eq_true p208
           replace q208:=eq_true q208
           refine kF (n:=11) (S:=fun w'=>w'.cell? ⟨gb204,0,none⟩=some (.bool a0_0)∧w'.cell? ⟨gb204,1,none⟩=some (.bool a0_1)∧w'.cell? ⟨gb204,2,none⟩=some (.slice A0_2 l0_2.length c0_2)∧w'.cell? ⟨gb204,3,none⟩=some (.slice (some ad207) l0_3.length c0_3)∧w'.cell? ⟨gb204,4,none⟩=some (.slice A0_4 l0_4.length c0_4)∧w'.cell? ⟨gb205,0,none⟩=some (.bool a1_0)∧w'.cell? ⟨gb205,1,none⟩=some (.bool a1_1)∧w'.cell? ⟨gb205,2,none⟩=some (.slice A1_2 l1_2.length c1_2)∧w'.cell? ⟨gb205,3,none⟩=some (.slice (some ad208) l1_3.length c1_3)∧w'.cell? ⟨gb205,4,none⟩=some (.slice A1_4 l1_4.length c1_4)∧w'.cell? (ad207.add (x48_2).toNat)=some (.int .i64 (rd l0_3 x48_2))∧w'.cell? (ad208.add (x48_2).toNat)=some (.int .i64 (rd l1_3 x48_2))) (ds:= []) #[N_,N_,N_,N_,N_,N_,N_,N_,N_,N_,N_] (by kernel_rfl) rfl rfl ⟨(af BK204.out 0).trans rfl,(af BK204.out 1).trans rfl,(af BK204.out 2).trans rfl,(af BK204.out 3).trans rfl,(af BK204.out 4).trans rfl,(af BK205.out 0).trans rfl,(af BK205.out 1).trans rfl,(af BK205.out 2).trans rfl,(af BK205.out 3).trans rfl,(af BK205.out 4).trans rfl,((HB.out.cell (World.block_lt_of_cell? w _ hw207_0)).trans hw207_0),((HB.out.cell (World.block_lt_of_cell? w _ hw208_0)).trans hw208_0)⟩ (fun hHeld=>?_);refine gF aj.RL aj.OQ (fun HT_ HW_=>?_)
           generalize wr.drew=w34 at BK204 BK205 HB hx207_0 hx208_0 hHeld ⊢
           refine bQ (i:=0) (N:=some 51) (v:=?_) (a':=?_) #[Y_,N_,N_,N_,N_,N_,N_,N_,N_,N_,N_] rfl rfl (bA HT_.out (by kernel_rfl)) (fun _ _ _ h=>h) (Or.inl ⟨by rfl,?_⟩) ?_ ?_
           rotate_left; · intro w';go_simp;with_reducible rfl
           rotate_left; · simp only [Act.put,u1_,u2_,u3_,aG,aH];rfl
           refine bQ (i:=2) (N:=some 53) (v:=?_) (a':=?_) #[Y_,N_,Y_,N_,N_,N_,N_,N_,N_,N_,N_] rfl rfl (bA HT_.out (by kernel_rfl)) (fun _ _ _ h=>h) (Or.inl ⟨by rfl,?_⟩) ?_ ?_
           rotate_left; · intro w';go_simp;with_reducible rfl
           rotate_left; · simp only [Act.put,u1_,u2_,u3_,aG,aH];rfl
           refine bQ (i:=5) (N:=some 56) (v:=?_) (a':=?_) #[Y_,N_,Y_,N_,N_,Y_,N_,N_,N_,N_,N_] rfl rfl (bA HT_.out (by kernel_rfl)) (fun _ _ _ h=>h) (Or.inl ⟨by rfl,?_⟩) ?_ ?_
           rotate_left; · intro w';go_simp;with_reducible rfl
           rotate_left; · simp only [Act.put,u1_,u2_,u3_,aG,aH];rfl
           refine bQ (i:=7) (N:=some 58) (v:=?_) (a':=?_) #[Y_,N_,Y_,N_,N_,Y_,N_,Y_,N_,N_,N_] rfl rfl (bA HT_.out (by kernel_rfl)) (fun _ _ _ h=>h) (Or.inl ⟨by rfl,?_⟩) ?_ ?_
           rotate_left; · intro w';go_simp;with_reducible rfl
           rotate_left; · simp only [Act.put,u1_,u2_,u3_,aG,aH];rfl
           refine fH (i:=1) (N:=some 52) (v:=?_) (a':=?_) #[Y_,Y_,Y_,N_,N_,Y_,N_,Y_,N_,N_,N_] rfl rfl (bL HT_.out HW_.out (by kernel_rfl)) (fun _ _ _ h=>h) (Or.inl ⟨by rfl,?_⟩) hHeld ?_ ?_
           rotate_left; · rintro w' ⟨s0,s1,s2,s3,s4,s5,s6,s7,s8,s9,s10,s11⟩;go_simp;with_reducible rfl
           rotate_left; · simp only [Act.put,u1_,u2_,u3_,aG,aH];rfl
           refine bQ (i:=3) (N:=some 54) (v:=?_) (a':=?_) #[Y_,Y_,Y_,Y_,N_,Y_,N_,Y_,N_,N_,N_] rfl rfl (bA HT_.out (by kernel_rfl)) (fun _ _ _ h=>h) (Or.inl ⟨by rfl,?_⟩) ?_ ?_
           rotate_left; · intro w';go_simp;with_reducible rfl
           rotate_left; · simp only [Act.put,u1_,u2_,u3_,aG,aH];rfl
           refine fH (i:=4) (N:=some 55) (v:=?_) (a':=?_) #[Y_,Y_,Y_,Y_,Y_,Y_,N_,Y_,N_,N_,N_] rfl rfl (bL HT_.out HW_.out (by kernel_rfl)) (fun _ _ _ h=>h) (Or.inl ⟨by rfl,?_⟩) hHeld ?_ ?_
           rotate_left; · rintro w' ⟨s0,s1,s2,s3,s4,s5,s6,s7,s8,s9,s10,s11⟩;go_simp;with_reducible rfl
           rotate_left; · simp only [Act.put,u1_,u2_,u3_,aG,aH];rfl
           refine fH (i:=6) (N:=some 57) (v:=?_) (a':=?_) #[Y_,Y_,Y_,Y_,Y_,Y_,Y_,Y_,N_,N_,N_] rfl rfl (bL HT_.out HW_.out (by kernel_rfl)) (fun _ _ _ h=>h) (Or.inl ⟨by rfl,?_⟩) hHeld ?_ ?_
           rotate_left; · rintro w' ⟨s0,s1,s2,s3,s4,s5,s6,s7,s8,s9,s10,s11⟩;go_simp;with_reducible rfl
           rotate_left; · simp only [Act.put,u1_,u2_,u3_,aG,aH];rfl
           refine bQ (i:=8) (N:=some 59) (v:=?_) (a':=?_) #[Y_,Y_,Y_,Y_,Y_,Y_,Y_,Y_,Y_,N_,N_] rfl rfl (bA HT_.out (by kernel_rfl)) (fun _ _ _ h=>h) (Or.inl ⟨by rfl,?_⟩) ?_ ?_
           rotate_left; · intro w';go_simp;with_reducible rfl
           rotate_left; · simp only [Act.put,u1_,u2_,u3_,aG,aH];rfl
           refine fH (i:=9) (N:=some 60) (v:=?_) (a':=?_) #[Y_,Y_,Y_,Y_,Y_,Y_,Y_,Y_,Y_,Y_,N_] rfl rfl (bL HT_.out HW_.out (by kernel_rfl)) (fun _ _ _ h=>h) (Or.inl ⟨by rfl,?_⟩) hHeld ?_ ?_
           rotate_left; · rintro w' ⟨s0,s1,s2,s3,s4,s5,s6,s7,s8,s9,s10,s11⟩;go_simp;with_reducible rfl
           rotate_left; · simp only [Act.put,u1_,u2_,u3_,aG,aH];rfl
           refine bQ (i:=10) (N:=some 61) (v:=?_) (a':=?_) #[Y_,Y_,Y_,Y_,Y_,Y_,Y_,Y_,Y_,Y_,Y_] rfl rfl (bA HT_.out (by kernel_rfl)) (fun _ _ _ h=>h) (Or.inl ⟨by rfl,?_⟩) ?_ ?_
           rotate_left; · intro w';go_simp;with_reducible rfl
           rotate_left; · simp only [Act.put,u1_,u2_,u3_,aG,aH];rfl
           refine dR (bM HT_.out (by kernel_rfl)) ?_
           try go_wp2
           go_roundg k2
           case measure=>have:=HJ2.out;have:=HK2.out;omega
           case rel=>exact ⟨(wrap64 (x48_2+1)),(by first | rfl | (simp;done) | (simp [*];done)),H',⟨by have:=HJ2.out;have:=HK2.out;omega⟩,⟨by (with_reducible repeat (first | refine aY ?_ _ | refine aV ?_ | refine aK ?_ _));exact BK204.out⟩,⟨by (with_reducible repeat (first | refine aY ?_ _ | refine aV ?_ | refine aK ?_ _));exact BK205.out⟩,⟨by repeat (first | (with_reducible first | exact HB.out | apply ai | apply au | apply aA | refine aM ?_ GE204.out | refine aM ?_ GE205.out) | exact HB.out)⟩⟩
          ·rw [if_neg c33] at H
           have c33b0:((rd l0_3 x48_2) == (rd l1_3 x48_2))=false:=beq_eq_false_iff_ne.mpr c33
           have c33b1:((rd l0_3 x48_2) != (rd l1_3 x48_2))=true:=bne_iff_ne.mpr c33
           obtain rfl:=Option.some.inj H
           try go_wp2
           have n0_:=Am_ (aV BK204.out)
           have n1_:=Am_ (aV BK205.out)
           have n2_:=Am_ (aA HB.out)
           clear BK204
           clear BK205
           clear HB
           have BK204:=n0_
           have BK205:=n1_
           have HB:=n2_
           clear n0_ n1_ n2_
           have p207:0≤(x48_2:Int):=of_decide_eq_true (by first | (with_reducible assumption) | assumption)
           have q207:x48_2<(l0_3.length:Int):=of_decide_eq_true (by first | (with_reducible assumption) | assumption)
           obtain ⟨ad207,e207,hx207_0⟩:=Kd.rX HR0_3.out x48_2 p207 q207
           have hw207_0:=hx207_0
           cases e207
           replace hx207_0:=(HB.out.cell (World.block_lt_of_cell? w _ hx207_0)).trans hx207_0
           replace p207:=eq_true p207
           replace q207:=eq_true q207
           have p208:0≤(x48_2:Int):=of_decide_eq_true (by first | (with_reducible assumption) | assumption)
           have q208:x48_2<(l1_3.length:Int):=of_decide_eq_true (by first | (with_reducible assumption) | assumption)
           obtain ⟨ad208,e208,hx208_0⟩:=Kd.rX HR1_3.out x48_2 p208 q208
           have hw208_0:=hx208_0
           cases e208
           replace hx208_0:=(HB.out.cell (World.block_lt_of_cell? w _ hx208_0)).trans hx208_0
           replace p208:=eq_true p208
           replace q208:=eq_true q208
           refine kF (n:=11) (S:=fun w'=>w'.cell? ⟨gb204,0,none⟩=some (.bool a0_0)∧w'.cell? ⟨gb204,1,none⟩=some (.bool a0_1)∧w'.cell? ⟨gb204,2,none⟩=some (.slice A0_2 l0_2.length c0_2)∧w'.cell? ⟨gb204,3,none⟩=some (.slice (some ad207) l0_3.length c0_3)∧w'.cell? ⟨gb204,4,none⟩=some (.slice A0_4 l0_4.length c0_4)∧w'.cell? ⟨gb205,0,none⟩=some (.bool a1_0)∧w'.cell? ⟨gb205,1,none⟩=some (.bool a1_1)∧w'.cell? ⟨gb205,2,none⟩=some (.slice A1_2 l1_2.length c1_2)∧w'.cell? ⟨gb205,3,none⟩=some (.slice (some ad208) l1_3.length c1_3)∧w'.cell? ⟨gb205,4,none⟩=some (.slice A1_4 l1_4.length c1_4)∧w'.cell? (ad207.add (x48_2).toNat)=some (.int .i64 (rd l0_3 x48_2))∧w'.cell? (ad208.add (x48_2).toNat)=some (.int .i64 (rd l1_3 x48_2))) (ds:= []) #[N_,N_,N_,N_,N_,N_,N_,N_,N_,N_,N_] (by kernel_rfl) rfl rfl ⟨(af BK204.out 0).trans rfl,(af BK204.out 1).trans rfl,(af BK204.out 2).trans rfl,(af BK204.out 3).trans rfl,(af BK204.out 4).trans rfl,(af BK205.out 0).trans rfl,(af BK205.out 1).trans rfl,(af BK205.out 2).trans rfl,(af BK205.out 3).trans rfl,(af BK205.out 4).trans rfl,((HB.out.cell (World.block_lt_of_cell? w _ hw207_0)).trans hw207_0),((HB.out.cell (World.block_lt_of_cell? w _ hw208_0)).trans hw208_0)⟩ (fun hHeld=>?_);refine gF aj.RL aj.OQ (fun HT_ HW_=>?_)
           generalize wr.drew=w35 at BK204 BK205 HB hx207_0 hx208_0 hHeld ⊢
           refine bQ (i:=0) (N:=some 51) (v:=?_) (a':=?_) #[Y_,N_,N_,N_,N_,N_,N_,N_,N_,N_,N_] rfl rfl (bA HT_.out (by kernel_rfl)) (fun _ _ _ h=>h) (Or.inl ⟨by rfl,?_⟩) ?_ ?_
           rotate_left; · intro w';go_simp;with_reducible rfl
           rotate_left; · simp only [Act.put,u1_,u2_,u3_,aG,aH];rfl
           refine bQ (i:=2) (N:=some 53) (v:=?_) (a':=?_) #[Y_,N_,Y_,N_,N_,N_,N_,N_,N_,N_,N_] rfl rfl (bA HT_.out (by kernel_rfl)) (fun _ _ _ h=>h) (Or.inl ⟨by rfl,?_⟩) ?_ ?_
           rotate_left; · intro w';go_simp;with_reducible rfl
           rotate_left; · simp only [Act.put,u1_,u2_,u3_,aG,aH];rfl
           refine bQ (i:=5) (N:=some 56) (v:=?_) (a':=?_) #[Y_,N_,Y_,N_,N_,Y_,N_,N_,N_,N_,N_] rfl rfl (bA HT_.out (by kernel_rfl)) (fun _ _ _ h=>h) (Or.inl ⟨by rfl,?_⟩) ?_ ?_
           rotate_left; · intro w';go_simp;with_reducible rfl
           rotate_left; · simp only [Act.put,u1_,u2_,u3_,aG,aH];rfl
           refine bQ (i:=7) (N:=some 58) (v:=?_) (a':=?_) #[Y_,N_,Y_,N_,N_,Y_,N_,Y_,N_,N_,N_] rfl rfl (bA HT_.out (by kernel_rfl)) (fun _ _ _ h=>h) (Or.inl ⟨by rfl,?_⟩) ?_ ?_
           rotate_left; · intro w';go_simp;with_reducible rfl
           rotate_left; · simp only [Act.put,u1_,u2_,u3_,aG,aH];rfl
           refine fH (i:=1) (N:=some 52) (v:=?_) (a':=?_) #[Y_,Y_,Y_,N_,N_,Y_,N_,Y_,N_,N_,N_] rfl rfl (bL HT_.out HW_.out (by kernel_rfl)) (fun _ _ _ h=>h) (Or.inl ⟨by rfl,?_⟩) hHeld ?_ ?_
           rotate_left; · rintro w' ⟨s0,s1,s2,s3,s4,s5,s6,s7,s8,s9,s10,s11⟩;go_simp;with_reducible rfl
           rotate_left; · simp only [Act.put,u1_,u2_,u3_,aG,aH];rfl
           refine bQ (i:=3) (N:=some 54) (v:=?_) (a':=?_) #[Y_,Y_,Y_,Y_,N_,Y_,N_,Y_,N_,N_,N_] rfl rfl (bA HT_.out (by kernel_rfl)) (fun _ _ _ h=>h) (Or.inl ⟨by rfl,?_⟩) ?_ ?_
           rotate_left; · intro w';go_simp;with_reducible rfl
           rotate_left; · simp only [Act.put,u1_,u2_,u3_,aG,aH];rfl
           refine fH (i:=4) (N:=some 55) (v:=?_) (a':=?_) #[Y_,Y_,Y_,Y_,Y_,Y_,N_,Y_,N_,N_,N_] rfl rfl (bL HT_.out HW_.out (by kernel_rfl)) (fun _ _ _ h=>h) (Or.inl ⟨by rfl,?_⟩) hHeld ?_ ?_
           rotate_left; · rintro w' ⟨s0,s1,s2,s3,s4,s5,s6,s7,s8,s9,s10,s11⟩;go_simp;with_reducible rfl
           rotate_left; · simp only [Act.put,u1_,u2_,u3_,aG,aH];rfl
           refine fH (i:=6) (N:=some 57) (v:=?_) (a':=?_) #[Y_,Y_,Y_,Y_,Y_,Y_,Y_,Y_,N_,N_,N_] rfl rfl (bL HT_.out HW_.out (by kernel_rfl)) (fun _ _ _ h=>h) (Or.inl ⟨by rfl,?_⟩) hHeld ?_ ?_
           rotate_left; · rintro w' ⟨s0,s1,s2,s3,s4,s5,s6,s7,s8,s9,s10,s11⟩;go_simp;with_reducible rfl
           rotate_left; · simp only [Act.put,u1_,u2_,u3_,aG,aH];rfl
           refine bQ (i:=8) (N:=some 59) (v:=?_) (a':=?_) #[Y_,Y_,Y_,Y_,Y_,Y_,Y_,Y_,Y_,N_,N_] rfl rfl (bA HT_.out (by kernel_rfl)) (fun _ _ _ h=>h) (Or.inl ⟨by rfl,?_⟩) ?_ ?_
           rotate_left; · intro w';go_simp;with_reducible rfl
           rotate_left; · simp only [Act.put,u1_,u2_,u3_,aG,aH];rfl
           refine fH (i:=9) (N:=some 60) (v:=?_) (a':=?_) #[Y_,Y_,Y_,Y_,Y_,Y_,Y_,Y_,Y_,Y_,N_] rfl rfl (bL HT_.out HW_.out (by kernel_rfl)) (fun _ _ _ h=>h) (Or.inl ⟨by rfl,?_⟩) hHeld ?_ ?_
           rotate_left; · rintro w' ⟨s0,s1,s2,s3,s4,s5,s6,s7,s8,s9,s10,s11⟩;go_simp;with_reducible rfl
           rotate_left; · simp only [Act.put,u1_,u2_,u3_,aG,aH];rfl
           refine bQ (i:=10) (N:=some 61) (v:=?_) (a':=?_) #[Y_,Y_,Y_,Y_,Y_,Y_,Y_,Y_,Y_,Y_,Y_] rfl rfl (bA HT_.out (by kernel_rfl)) (fun _ _ _ h=>h) (Or.inl ⟨by rfl,?_⟩) ?_ ?_
           rotate_left; · intro w';go_simp;with_reducible rfl
           rotate_left; · simp only [Act.put,u1_,u2_,u3_,aG,aH];rfl
           refine dR (bM HT_.out (by kernel_rfl)) ?_
           try go_wp2
           go_ret
           exact ⟨by first | rfl | (simp [dA,dB]<;>rfl) | (simp [*,dA,dB]<;>rfl),by repeat (first | (with_reducible first | exact HB.out | apply ai | apply au | apply aA | refine aM ?_ GE204.out | refine aM ?_ GE205.out) | exact HB.out)⟩
         ·rw [if_neg c32] at H
          exact absurd H (by simp)
        ·rw [if_neg c31] at H
         exact absurd H (by simp)
       ·rw [if_neg c30] at H
        exact absurd H (by simp)
      ·rw [if_neg c29] at H
       have c29b0:decide (x48_2<(l0_3.length:Int))=false:=decide_eq_false c29
       clear c29
       have H':=Am_ H
       clear H
       have hnb36:=NB204_205.out
       have hnc36:=NB205_204.out
       have hcz37_0:wr.cell? ⟨gb204,0,none⟩=some (.bool a0_0):=(af BK204.out 0).trans rfl
       have hcz37_1:wr.cell? ⟨gb204,1,none⟩=some (.bool a0_1):=(af BK204.out 1).trans rfl
       have hcz37_2:wr.cell? ⟨gb204,2,none⟩=some (.slice A0_2 l0_2.length c0_2):=(af BK204.out 2).trans rfl
       have hcz37_3:wr.cell? ⟨gb204,3,none⟩=some (.slice A0_3 l0_3.length c0_3):=(af BK204.out 3).trans rfl
       have hcz37_4:wr.cell? ⟨gb204,4,none⟩=some (.slice A0_4 l0_4.length c0_4):=(af BK204.out 4).trans rfl
       have hfz37_0:=ah BK204.out 0
       have hfz37_1:=ah BK204.out 1
       have hfz37_2:=ah BK204.out 2
       have hfz37_3:=ah BK204.out 3
       have hfz37_4:=ah BK204.out 4
       go_wp2
       go_loopg [66] k2 (fun kq v66 w'=> ∃ (x66_3:Int),v66= .int .i64 x66_3∧av (aj.l1 kq (l0_4.length:Int) x66_3 a0_0 a0_1 l0_2 l0_3 l0_4 a1_0 a1_1 l1_2 l1_3 l1_4=some r)∧av (kq≤k2)∧av (w'.heap[gb204]?=some (.cells #[.bool a0_0,.bool a0_1,(.slice A0_2 l0_2.length c0_2),(.slice A0_3 l0_3.length c0_3),(.slice A0_4 l0_4.length c0_4)] 30 (0,0)))∧av (w'.heap[gb205]?=some (.cells #[.bool a1_0,.bool a1_1,(.slice A1_2 l1_2.length c1_2),(.slice A1_3 l1_3.length c1_3),(.slice A1_4 l1_4.length c1_4)] 30 (0,0)))∧av (Below w.heap.size w w'))
       case atStart=>exact ⟨(0),(by first | rfl | (simp;done) | (simp [*];done)),H',⟨Nat.le_refl _⟩,⟨by (with_reducible repeat (first | refine aY ?_ _ | refine aV ?_ | refine aK ?_ _));exact BK204.out⟩,⟨by (with_reducible repeat (first | refine aY ?_ _ | refine aV ?_ | refine aK ?_ _));exact BK205.out⟩,⟨by repeat (first | (with_reducible first | exact HB.out | apply ai | apply au | apply aA | refine aM ?_ GE204.out | refine aM ?_ GE205.out) | exact HB.out)⟩⟩
       case round=>
        clear H'
        try clear c1
        try clear c2
        try clear p2
        try clear q2
        try clear hx2
        try clear c3
        try clear c6
        try clear c6b0
        try clear c6b1
        try clear c6b2
        try clear p6
        try clear c7
        try clear c10
        try clear c10b0
        try clear c10b1
        try clear c10b2
        try clear c11
        try clear c15
        try clear c16
        try clear c16b0
        try clear c16b1
        try clear c16b2
        try clear c17
        try clear c18
        try clear c20
        try clear p20
        try clear q20
        try clear hx20
        try clear c23
        try clear c26
        try clear c27
        try clear c29
        try clear c29b0
        try clear c30
        try clear c30b0
        try clear c31
        try clear c31b0
        try clear c32
        try clear c32b0
        try clear c33
        try clear c33b0
        try clear c33b1
        try clear c36
        try clear hcz12_0
        try clear hcz12_1
        try clear hcz12_2
        try clear hcz12_3
        try clear hcz12_4
        try clear hcz13_0
        try clear hcz13_1
        try clear hcz13_2
        try clear hcz13_3
        try clear hcz13_4
        try clear hcz18_0
        try clear hcz18_1
        try clear hcz18_2
        try clear hcz18_3
        try clear hcz18_4
        try clear hcz19_0
        try clear hcz19_1
        try clear hcz19_2
        try clear hcz19_3
        try clear hcz19_4
        try clear hcz21_0
        try clear hcz21_1
        try clear hcz21_2
        try clear hcz21_3
        try clear hcz21_4
        try clear hcz22_0
        try clear hcz22_1
        try clear hcz22_2
        try clear hcz22_3
        try clear hcz22_4
        try clear hcz24_0
        try clear hcz24_1
        try clear hcz24_2
        try clear hcz24_3
        try clear hcz24_4
        try clear hcz25_0
        try clear hcz25_1
        try clear hcz25_2
        try clear hcz25_3
        try clear hcz25_4
        try clear hcz28_0
        try clear hcz28_1
        try clear hcz28_2
        try clear hcz28_3
        try clear hcz28_4
        try clear hcz37_0
        try clear hcz37_1
        try clear hcz37_2
        try clear hcz37_3
        try clear hcz37_4
        try clear hcz8_0
        try clear hcz8_1
        try clear hcz8_2
        try clear hcz8_3
        try clear hcz8_4
        try clear hcz9_0
        try clear hcz9_1
        try clear hcz9_2
        try clear hcz9_3
        try clear hcz9_4
        try clear hfz12_0
        try clear hfz12_1
        try clear hfz12_2
        try clear hfz12_3
        try clear hfz12_4
        try clear hfz13_0
        try clear hfz13_1
        try clear hfz13_2
        try clear hfz13_3
        try clear hfz13_4
        try clear hfz18_0
        try clear hfz18_1
        try clear hfz18_2
        try clear hfz18_3
        try clear hfz18_4
        try clear hfz19_0
        try clear hfz19_1
        try clear hfz19_2
        try clear hfz19_3
        try clear hfz19_4
        try clear hfz21_0
        try clear hfz21_1
        try clear hfz21_2
        try clear hfz21_3
        try clear hfz21_4
        try clear hfz22_0
        try clear hfz22_1
        try clear hfz22_2
        try clear hfz22_3
        try clear hfz22_4
        try clear hfz24_0
        try clear hfz24_1
        try clear hfz24_2
        try clear hfz24_3
        try clear hfz24_4
        try clear hfz25_0
        try clear hfz25_1
        try clear hfz25_2
        try clear hfz25_3
        try clear hfz25_4
        try clear hfz28_0
        try clear hfz28_1
        try clear hfz28_2
        try clear hfz28_3
        try clear hfz28_4
        try clear hfz37_0
        try clear hfz37_1
        try clear hfz37_2
        try clear hfz37_3
        try clear hfz37_4
        try clear hfz8_0
        try clear hfz8_1
        try clear hfz8_2
        try clear hfz8_3
        try clear hfz8_4
        try clear hfz9_0
        try clear hfz9_1
        try clear hfz9_2
        try clear hfz9_3
        try clear hfz9_4
        try clear hx207_0
        try clear hx208_0
        try clear p2
        try clear p207
        try clear p208
        try clear q207
        try clear q208
        obtain ⟨x66_3,rfl,HA,HK3,BK204,BK205,HB⟩:=hrel
        cases gk with
        | zero=>exact absurd HA.out (by simp [aj.l1])
        | succ k3=>
         have H:=HA.out
         clear HA
         simp only [aj.l1] at H
         by_cases c38:x66_3<(l0_4.length:Int)
         ·rw [if_pos c38] at H
          have c38b0:decide (x66_3<(l0_4.length:Int))=true:=decide_eq_true c38
          clear c38
          by_cases c39:0≤x66_3
          ·rw [if_pos c39] at H
           have c39b0:decide (0≤x66_3)=true:=decide_eq_true c39
           clear c39
           by_cases c40:x66_3<(l0_4.length:Int)
           ·rw [if_pos c40] at H
            have c40b0:decide (x66_3<(l0_4.length:Int))=true:=decide_eq_true c40
            clear c40
            by_cases c41:x66_3<(l1_4.length:Int)
            ·rw [if_pos c41] at H
             have c41b0:decide (x66_3<(l1_4.length:Int))=true:=decide_eq_true c41
             clear c41
             replace H:=Option.bind_eq_some_iff.mp H
             obtain ⟨t211,A420,H⟩:=H
             replace H:(if t211=true then (aj.l1 k3 (l0_4.length:Int) (wrap64 (x66_3+1)) a0_0 a0_1 l0_2 l0_3 l0_4 a1_0 a1_1 l1_2 l1_3 l1_4) else (some false))=some r:=H
             have A42:=Am_ A420
             clear A420
             by_cases c43:t211=true
             ·subst c43
              have H1:(aj.l1 k3 (l0_4.length:Int) (wrap64 (x66_3+1)) a0_0 a0_1 l0_2 l0_3 l0_4 a1_0 a1_1 l1_2 l1_3 l1_4)=some r:=by rw [if_pos rfl] at H;exact H
              clear H
              have H:=H1
              clear H1
              have H':=Am_ H
              clear H
              try go_wp2
              have n0_:=Am_ (aV BK204.out)
              have n1_:=Am_ (aV BK205.out)
              have n2_:=Am_ (aA HB.out)
              clear BK204
              clear BK205
              clear HB
              have BK204:=n0_
              have BK205:=n1_
              have HB:=n2_
              clear n0_ n1_ n2_
              have p209:0≤(x66_3:Int):=of_decide_eq_true (by first | (with_reducible assumption) | assumption)
              have q209:x66_3<(l0_4.length:Int):=of_decide_eq_true (by first | (with_reducible assumption) | assumption)
              obtain ⟨ad209,A209_2,c209_2,A209_3,c209_3,A209_4,c209_4,e209,hx209_0,hx209_1,hx209_2,hx209_3,hx209_4,hl209_2,hi209_2,hl209_3,hi209_3,hl209_4,hi209_4⟩:=yD HR0_4.out x66_3 p209 q209
              have hw209_4:=hx209_4
              have hw209_3:=hx209_3
              have hw209_2:=hx209_2
              have hw209_1:=hx209_1
              have hw209_0:=hx209_0
              cases e209
              replace hx209_0:=(HB.out.cell (World.block_lt_of_cell? w _ hx209_0)).trans hx209_0
              replace hx209_1:=(HB.out.cell (World.block_lt_of_cell? w _ hx209_1)).trans hx209_1
              replace hx209_2:=(HB.out.cell (World.block_lt_of_cell? w _ hx209_2)).trans hx209_2
              replace hx209_3:=(HB.out.cell (World.block_lt_of_cell? w _ hx209_3)).trans hx209_3
              replace hx209_4:=(HB.out.cell (World.block_lt_of_cell? w _ hx209_4)).trans hx209_4
              have HR209_2:=Am_ hi209_2
              have HC209_2:=Am_ hl209_2
              clear hi209_2 hl209_2
              have HR209_3:=Am_ hi209_3
              have HC209_3:=Am_ hl209_3
              clear hi209_3 hl209_3
              have HR209_4:=Am_ hi209_4
              have HC209_4:=Am_ hl209_4
              clear hi209_4 hl209_4
              replace p209:=eq_true p209
              replace q209:=eq_true q209
              have p210:0≤(x66_3:Int):=of_decide_eq_true (by first | (with_reducible assumption) | assumption)
              have q210:x66_3<(l1_4.length:Int):=of_decide_eq_true (by first | (with_reducible assumption) | assumption)
              obtain ⟨ad210,A210_2,c210_2,A210_3,c210_3,A210_4,c210_4,e210,hx210_0,hx210_1,hx210_2,hx210_3,hx210_4,hl210_2,hi210_2,hl210_3,hi210_3,hl210_4,hi210_4⟩:=yD HR1_4.out x66_3 p210 q210
              have hw210_4:=hx210_4
              have hw210_3:=hx210_3
              have hw210_2:=hx210_2
              have hw210_1:=hx210_1
              have hw210_0:=hx210_0
              cases e210
              replace hx210_0:=(HB.out.cell (World.block_lt_of_cell? w _ hx210_0)).trans hx210_0
              replace hx210_1:=(HB.out.cell (World.block_lt_of_cell? w _ hx210_1)).trans hx210_1
              replace hx210_2:=(HB.out.cell (World.block_lt_of_cell? w _ hx210_2)).trans hx210_2
              replace hx210_3:=(HB.out.cell (World.block_lt_of_cell? w _ hx210_3)).trans hx210_3
              replace hx210_4:=(HB.out.cell (World.block_lt_of_cell? w _ hx210_4)).trans hx210_4
              have HR210_2:=Am_ hi210_2
              have HC210_2:=Am_ hl210_2
              clear hi210_2 hl210_2
              have HR210_3:=Am_ hi210_3
              have HC210_3:=Am_ hl210_3
              clear hi210_3 hl210_3
              have HR210_4:=Am_ hi210_4
              have HC210_4:=Am_ hl210_4
              clear hi210_4 hl210_4
              replace p210:=eq_true p210
              replace q210:=eq_true q210
              refine kF (n:=12) (S:=fun w'=>w'.cell? ⟨gb204,0,none⟩=some (.bool a0_0)∧w'.cell? ⟨gb204,1,none⟩=some (.bool a0_1)∧w'.cell? ⟨gb204,2,none⟩=some (.slice A0_2 l0_2.length c0_2)∧w'.cell? ⟨gb204,3,none⟩=some (.slice A0_3 l0_3.length c0_3)∧w'.cell? ⟨gb204,4,none⟩=some (.slice (some ad209) l0_4.length c0_4)∧w'.cell? ⟨gb205,0,none⟩=some (.bool a1_0)∧w'.cell? ⟨gb205,1,none⟩=some (.bool a1_1)∧w'.cell? ⟨gb205,2,none⟩=some (.slice A1_2 l1_2.length c1_2)∧w'.cell? ⟨gb205,3,none⟩=some (.slice A1_3 l1_3.length c1_3)∧w'.cell? ⟨gb205,4,none⟩=some (.slice (some ad210) l1_4.length c1_4)∧w'.cell? (ad209.add ((x66_3).toNat*5))=some (.bool ((aZ l0_4 x66_3).f0))∧w'.cell? ⟨(ad209.add ((x66_3).toNat*5)).block,(ad209.add ((x66_3).toNat*5)).off+1,none⟩=some (.bool ((aZ l0_4 x66_3).f1))∧w'.cell? ⟨(ad209.add ((x66_3).toNat*5)).block,(ad209.add ((x66_3).toNat*5)).off+2,none⟩=some (.slice A209_2 ((aZ l0_4 x66_3).f2).length c209_2)∧w'.cell? ⟨(ad209.add ((x66_3).toNat*5)).block,(ad209.add ((x66_3).toNat*5)).off+3,none⟩=some (.slice A209_3 ((aZ l0_4 x66_3).f3).length c209_3)∧w'.cell? ⟨(ad209.add ((x66_3).toNat*5)).block,(ad209.add ((x66_3).toNat*5)).off+4,none⟩=some (.slice A209_4 ((aZ l0_4 x66_3).f4).length c209_4)∧w'.cell? (ad210.add ((x66_3).toNat*5))=some (.bool ((aZ l1_4 x66_3).f0))∧w'.cell? ⟨(ad210.add ((x66_3).toNat*5)).block,(ad210.add ((x66_3).toNat*5)).off+1,none⟩=some (.bool ((aZ l1_4 x66_3).f1))∧w'.cell? ⟨(ad210.add ((x66_3).toNat*5)).block,(ad210.add ((x66_3).toNat*5)).off+2,none⟩=some (.slice A210_2 ((aZ l1_4 x66_3).f2).length c210_2)∧w'.cell? ⟨(ad210.add ((x66_3).toNat*5)).block,(ad210.add ((x66_3).toNat*5)).off+3,none⟩=some (.slice A210_3 ((aZ l1_4 x66_3).f3).length c210_3)∧w'.cell? ⟨(ad210.add ((x66_3).toNat*5)).block,(ad210.add ((x66_3).toNat*5)).off+4,none⟩=some (.slice A210_4 ((aZ l1_4 x66_3).f4).length c210_4)) (ds:= []) #[N_,N_,N_,N_,N_,N_,N_,N_,N_,N_,N_,N_] (by kernel_rfl) rfl rfl ⟨(af BK204.out 0).trans rfl,(af BK204.out 1).trans rfl,(af BK204.out 2).trans rfl,(af BK204.out 3).trans rfl,(af BK204.out 4).trans rfl,(af BK205.out 0).trans rfl,(af BK205.out 1).trans rfl,(af BK205.out 2).trans rfl,(af BK205.out 3).trans rfl,(af BK205.out 4).trans rfl,((HB.out.cell (World.block_lt_of_cell? w _ hw209_0)).trans hw209_0),((HB.out.cell (World.block_lt_of_cell? w _ hw209_1)).trans hw209_1),((HB.out.cell (World.block_lt_of_cell? w _ hw209_2)).trans hw209_2),((HB.out.cell (World.block_lt_of_cell? w _ hw209_3)).trans hw209_3),((HB.out.cell (World.block_lt_of_cell? w _ hw209_4)).trans hw209_4),((HB.out.cell (World.block_lt_of_cell? w _ hw210_0)).trans hw210_0),((HB.out.cell (World.block_lt_of_cell? w _ hw210_1)).trans hw210_1),((HB.out.cell (World.block_lt_of_cell? w _ hw210_2)).trans hw210_2),((HB.out.cell (World.block_lt_of_cell? w _ hw210_3)).trans hw210_3),((HB.out.cell (World.block_lt_of_cell? w _ hw210_4)).trans hw210_4)⟩ (fun hHeld=>?_);refine gF aj.PG aj.KY (fun HT_ HW_=>?_)
              generalize wr.drew=w44 at BK204 BK205 HB HR209_2 HR209_3 HR209_4 HR210_2 HR210_3 HR210_4 hx209_0 hx209_1 hx209_2 hx209_3 hx209_4 hx210_0 hx210_1 hx210_2 hx210_3 hx210_4 hHeld ⊢
              refine bQ (i:=0) (N:=some 69) (v:=?_) (a':=?_) #[Y_,N_,N_,N_,N_,N_,N_,N_,N_,N_,N_,N_] rfl rfl (bA HT_.out (by kernel_rfl)) (fun _ _ _ h=>h) (Or.inl ⟨by rfl,?_⟩) ?_ ?_
              rotate_left; · intro w';go_simp;with_reducible rfl
              rotate_left; · simp only [Act.put,u1_,u2_,u3_,aG,aH];rfl
              refine bQ (i:=2) (N:=some 71) (v:=?_) (a':=?_) #[Y_,N_,Y_,N_,N_,N_,N_,N_,N_,N_,N_,N_] rfl rfl (bA HT_.out (by kernel_rfl)) (fun _ _ _ h=>h) (Or.inl ⟨by rfl,?_⟩) ?_ ?_
              rotate_left; · intro w';go_simp;with_reducible rfl
              rotate_left; · simp only [Act.put,u1_,u2_,u3_,aG,aH];rfl
              refine bQ (i:=5) (N:=some 74) (v:=?_) (a':=?_) #[Y_,N_,Y_,N_,N_,Y_,N_,N_,N_,N_,N_,N_] rfl rfl (bA HT_.out (by kernel_rfl)) (fun _ _ _ h=>h) (Or.inl ⟨by rfl,?_⟩) ?_ ?_
              rotate_left; · intro w';go_simp;with_reducible rfl
              rotate_left; · simp only [Act.put,u1_,u2_,u3_,aG,aH];rfl
              refine bQ (i:=7) (N:=some 76) (v:=?_) (a':=?_) #[Y_,N_,Y_,N_,N_,Y_,N_,Y_,N_,N_,N_,N_] rfl rfl (bA HT_.out (by kernel_rfl)) (fun _ _ _ h=>h) (Or.inl ⟨by rfl,?_⟩) ?_ ?_
              rotate_left; · intro w';go_simp;with_reducible rfl
              rotate_left; · simp only [Act.put,u1_,u2_,u3_,aG,aH];rfl
              refine fH (i:=1) (N:=some 70) (v:=?_) (a':=?_) #[Y_,Y_,Y_,N_,N_,Y_,N_,Y_,N_,N_,N_,N_] rfl rfl (bL HT_.out HW_.out (by kernel_rfl)) (fun _ _ _ h=>h) (Or.inl ⟨by rfl,?_⟩) hHeld ?_ ?_
              rotate_left; · rintro w' ⟨s0,s1,s2,s3,s4,s5,s6,s7,s8,s9,s10,s11,s12,s13,s14,s15,s16,s17,s18,s19⟩;go_simp;with_reducible rfl
              rotate_left; · simp only [Act.put,u1_,u2_,u3_,aG,aH];rfl
              refine bQ (i:=3) (N:=some 72) (v:=?_) (a':=?_) #[Y_,Y_,Y_,Y_,N_,Y_,N_,Y_,N_,N_,N_,N_] rfl rfl (bA HT_.out (by kernel_rfl)) (fun _ _ _ h=>h) (Or.inl ⟨by rfl,?_⟩) ?_ ?_
              rotate_left; · intro w';go_simp;with_reducible rfl
              rotate_left; · simp only [Act.put,u1_,u2_,u3_,aG,aH];rfl
              refine fH (i:=4) (N:=some 73) (v:=?_) (a':=?_) #[Y_,Y_,Y_,Y_,Y_,Y_,N_,Y_,N_,N_,N_,N_] rfl rfl (bL HT_.out HW_.out (by kernel_rfl)) (fun _ _ _ h=>h) (Or.inl ⟨by rfl,?_⟩) hHeld ?_ ?_
              rotate_left; · rintro w' ⟨s0,s1,s2,s3,s4,s5,s6,s7,s8,s9,s10,s11,s12,s13,s14,s15,s16,s17,s18,s19⟩;go_simp;with_reducible rfl
              rotate_left; · simp only [Act.put,u1_,u2_,u3_,aG,aH];rfl
              refine fH (i:=6) (N:=some 75) (v:=?_) (a':=?_) #[Y_,Y_,Y_,Y_,Y_,Y_,Y_,Y_,N_,N_,N_,N_] rfl rfl (bL HT_.out HW_.out (by kernel_rfl)) (fun _ _ _ h=>h) (Or.inl ⟨by rfl,?_⟩) hHeld ?_ ?_
              rotate_left; · rintro w' ⟨s0,s1,s2,s3,s4,s5,s6,s7,s8,s9,s10,s11,s12,s13,s14,s15,s16,s17,s18,s19⟩;go_simp;with_reducible rfl
              rotate_left; · simp only [Act.put,u1_,u2_,u3_,aG,aH];rfl
              refine bQ (i:=8) (N:=some 77) (v:=?_) (a':=?_) #[Y_,Y_,Y_,Y_,Y_,Y_,Y_,Y_,Y_,N_,N_,N_] rfl rfl (bA HT_.out (by kernel_rfl)) (fun _ _ _ h=>h) (Or.inl ⟨by rfl,?_⟩) ?_ ?_
              rotate_left; · intro w';go_simp;with_reducible rfl
              rotate_left; · simp only [Act.put,u1_,u2_,u3_,aG,aH];rfl
              refine fH (i:=9) (N:=some 78) (v:=?_) (a':=?_) #[Y_,Y_,Y_,Y_,Y_,Y_,Y_,Y_,Y_,Y_,N_,N_] rfl rfl (bL HT_.out HW_.out (by kernel_rfl)) (fun _ _ _ h=>h) (Or.inl ⟨by rfl,?_⟩) hHeld ?_ ?_
              rotate_left; · rintro w' ⟨s0,s1,s2,s3,s4,s5,s6,s7,s8,s9,s10,s11,s12,s13,s14,s15,s16,s17,s18,s19⟩;go_simp;with_reducible rfl
              rotate_left; · simp only [Act.put,u1_,u2_,u3_,aG,aH];rfl
              refine yJ (i:=10) (N:=some 79) #[Y_,Y_,Y_,Y_,Y_,Y_,Y_,Y_,Y_,Y_,Y_,N_] rfl rfl (gm HT_.out (by kernel_rfl)) (by decide) (fun K hK=>?_)
              refine Py Tryz.func18 (by kernel_rfl) rfl #[.agg #[.bool ((aZ l0_4 x66_3).f0),.bool ((aZ l0_4 x66_3).f1),.slice A209_2 ((aZ l0_4 x66_3).f2).length c209_2,.slice A209_3 ((aZ l0_4 x66_3).f3).length c209_3,.slice A209_4 ((aZ l0_4 x66_3).f4).length c209_4],.agg #[.bool ((aZ l1_4 x66_3).f0),.bool ((aZ l1_4 x66_3).f1),.slice A210_2 ((aZ l1_4 x66_3).f2).length c210_2,.slice A210_3 ((aZ l1_4 x66_3).f3).length c210_3,.slice A210_4 ((aZ l1_4 x66_3).f4).length c210_4]] (by rfl) rfl rfl (by (try simp only [List.map_toArray,List.map_cons,List.map_nil]);first | done | rfl | (simp only [List.length_drop,List.length_take];rfl)) ?_
              with_reducible refine (ih k3 (by have:=HJ2.out;have:=HK2.out;have:=HK3.out;omega) ((aZ l0_4 x66_3).f0) ((aZ l0_4 x66_3).f1) _ _ ((aZ l0_4 x66_3).f2) _ _ ((aZ l0_4 x66_3).f3) _ _ ((aZ l0_4 x66_3).f4) ((aZ l1_4 x66_3).f0) ((aZ l1_4 x66_3).f1) _ _ ((aZ l1_4 x66_3).f2) _ _ ((aZ l1_4 x66_3).f3) _ _ ((aZ l1_4 x66_3).f4) true _ ?side1 ?side2 ?side3 ?side4 ?side5 ?side6 ?side7 ?side8 ?side9 ?side10 ?side11 ?side12 A42.out).mono ?_
              (case side1=>repeat (first | exact (Kd.bE HR209_2.out HB.out) | (with_reducible refine Kd.fB ?_ _) | (with_reducible refine Kd.fE ?_ _) | (with_reducible refine Kd.iB ?_)))
              (case side2=>exact HC209_2.out)
              (case side3=>repeat (first | exact (Kd.bE HR209_3.out HB.out) | (with_reducible refine Kd.fB ?_ _) | (with_reducible refine Kd.fE ?_ _) | (with_reducible refine Kd.iB ?_)))
              (case side4=>exact HC209_3.out)
              (case side5=>repeat (first | exact (Kd.bE HR209_4.out HB.out) | (with_reducible refine Kd.fB ?_ _) | (with_reducible refine Kd.fE ?_ _) | (with_reducible refine Kd.iB ?_)))
              (case side6=>exact HC209_4.out)
              (case side7=>repeat (first | exact (Kd.bE HR210_2.out HB.out) | (with_reducible refine Kd.fB ?_ _) | (with_reducible refine Kd.fE ?_ _) | (with_reducible refine Kd.iB ?_)))
              (case side8=>exact HC210_2.out)
              (case side9=>repeat (first | exact (Kd.bE HR210_3.out HB.out) | (with_reducible refine Kd.fB ?_ _) | (with_reducible refine Kd.fE ?_ _) | (with_reducible refine Kd.iB ?_)))
              (case side10=>exact HC210_3.out)
              (case side11=>repeat (first | exact (Kd.bE HR210_4.out HB.out) | (with_reducible refine Kd.fB ?_ _) | (with_reducible refine Kd.fE ?_ _) | (with_reducible refine Kd.iB ?_)))
              (case side12=>exact HC210_4.out)
              rintro e w45 ⟨rfl,hb⟩
              refine ⟨_,rfl,?_⟩
              have n0_:=Am_ (bW (g:=gb204) (o:= .cells #[.bool a0_0,.bool a0_1,.slice A0_2 l0_2.length c0_2,.slice A0_3 l0_3.length c0_3,.slice (some ad209) l0_4.length c0_4] 30 (0,0)) (by (with_reducible repeat (first | refine aY ?_ _ | refine aV ?_ | refine aK ?_ _));exact BK204.out) hb)
              have n1_:=Am_ (bW (g:=gb205) (o:= .cells #[.bool a1_0,.bool a1_1,.slice A1_2 l1_2.length c1_2,.slice A1_3 l1_3.length c1_3,.slice (some ad210) l1_4.length c1_4] 30 (0,0)) (by (with_reducible repeat (first | refine aY ?_ _ | refine aV ?_ | refine aK ?_ _));exact BK205.out) hb)
              have n2_:=Am_ (dL (by repeat (first | (with_reducible first | exact HB.out | apply ai | apply au | apply aA | refine aM ?_ GE204.out | refine aM ?_ GE205.out) | exact HB.out)) hb)
              clear BK204
              clear BK205
              clear HB
              have BK204:=n0_
              have BK205:=n1_
              have HB:=n2_
              clear n0_ n1_ n2_
              (try clear hb)
              (try clear hb2)
              (try clear hk)
              (try clear hi)
              refine hK.out _ _ ⟨(af BK204.out 0).trans rfl,(af BK204.out 1).trans rfl,(af BK204.out 2).trans rfl,(af BK204.out 3).trans rfl,(af BK204.out 4).trans rfl,(af BK205.out 0).trans rfl,(af BK205.out 1).trans rfl,(af BK205.out 2).trans rfl,(af BK205.out 3).trans rfl,(af BK205.out 4).trans rfl,((HB.out.cell (World.block_lt_of_cell? w _ hw209_0)).trans hw209_0),((HB.out.cell (World.block_lt_of_cell? w _ hw209_1)).trans hw209_1),((HB.out.cell (World.block_lt_of_cell? w _ hw209_2)).trans hw209_2),((HB.out.cell (World.block_lt_of_cell? w _ hw209_3)).trans hw209_3),((HB.out.cell (World.block_lt_of_cell? w _ hw209_4)).trans hw209_4),((HB.out.cell (World.block_lt_of_cell? w _ hw210_0)).trans hw210_0),((HB.out.cell (World.block_lt_of_cell? w _ hw210_1)).trans hw210_1),((HB.out.cell (World.block_lt_of_cell? w _ hw210_2)).trans hw210_2),((HB.out.cell (World.block_lt_of_cell? w _ hw210_3)).trans hw210_3),((HB.out.cell (World.block_lt_of_cell? w _ hw210_4)).trans hw210_4)⟩ (fun hHeld=>?_)
              clear hK K
              refine cK (a':=?_) ?_ ?_
              rotate_left; · show Act.put _ (some 79) _=_;simp only [Act.put,u1_,u2_,u3_,aG,aH];rfl
              refine bQ (i:=11) (N:=some 80) (v:=?_) (a':=?_) #[Y_,Y_,Y_,Y_,Y_,Y_,Y_,Y_,Y_,Y_,Y_,Y_] rfl rfl (bA HT_.out (by kernel_rfl)) (fun _ _ _ h=>h) (Or.inl ⟨by rfl,?_⟩) ?_ ?_
              rotate_left; · intro w';go_simp;with_reducible rfl
              rotate_left; · simp only [Act.put,u1_,u2_,u3_,aG,aH];rfl
              refine dR (bM HT_.out (by kernel_rfl)) ?_
              try go_wp2
              go_roundg k3
              case measure=>have:=HJ2.out;have:=HK2.out;have:=HK3.out;omega
              case rel=>exact ⟨(wrap64 (x66_3+1)),(by first | rfl | (simp;done) | (simp [*];done)),H',⟨by have:=HJ2.out;have:=HK2.out;have:=HK3.out;omega⟩,⟨by (with_reducible repeat (first | refine aY ?_ _ | refine aV ?_ | refine aK ?_ _));exact BK204.out⟩,⟨by (with_reducible repeat (first | refine aY ?_ _ | refine aV ?_ | refine aK ?_ _));exact BK205.out⟩,⟨by repeat (first | (with_reducible first | exact HB.out | apply ai | apply au | apply aA | refine aM ?_ GE204.out | refine aM ?_ GE205.out) | exact HB.out)⟩⟩
             ·replace c43:=Bool.eq_false_iff.mpr c43
              subst c43
              have H1:(some false)=some r:=by rw [if_neg (show ¬ (false=true) by decide)] at H;exact H
              clear H
              have H:=H1
              clear H1
              obtain rfl:=Option.some.inj H
              try go_wp2
              have n0_:=Am_ (aV BK204.out)
              have n1_:=Am_ (aV BK205.out)
              have n2_:=Am_ (aA HB.out)
              clear BK204
              clear BK205
              clear HB
              have BK204:=n0_
              have BK205:=n1_
              have HB:=n2_
              clear n0_ n1_ n2_
              have p209:0≤(x66_3:Int):=of_decide_eq_true (by first | (with_reducible assumption) | assumption)
              have q209:x66_3<(l0_4.length:Int):=of_decide_eq_true (by first | (with_reducible assumption) | assumption)
              obtain ⟨ad209,A209_2,c209_2,A209_3,c209_3,A209_4,c209_4,e209,hx209_0,hx209_1,hx209_2,hx209_3,hx209_4,hl209_2,hi209_2,hl209_3,hi209_3,hl209_4,hi209_4⟩:=yD HR0_4.out x66_3 p209 q209
              have hw209_4:=hx209_4
              have hw209_3:=hx209_3
              have hw209_2:=hx209_2
              have hw209_1:=hx209_1
              have hw209_0:=hx209_0
              cases e209
              replace hx209_0:=(HB.out.cell (World.block_lt_of_cell? w _ hx209_0)).trans hx209_0
              replace hx209_1:=(HB.out.cell (World.block_lt_of_cell? w _ hx209_1)).trans hx209_1
              replace hx209_2:=(HB.out.cell (World.block_lt_of_cell? w _ hx209_2)).trans hx209_2
              replace hx209_3:=(HB.out.cell (World.block_lt_of_cell? w _ hx209_3)).trans hx209_3
              replace hx209_4:=(HB.out.cell (World.block_lt_of_cell? w _ hx209_4)).trans hx209_4
              have HR209_2:=Am_ hi209_2
              have HC209_2:=Am_ hl209_2
              clear hi209_2 hl209_2
              have HR209_3:=Am_ hi209_3
              have HC209_3:=Am_ hl209_3
              clear hi209_3 hl209_3
              have HR209_4:=Am_ hi209_4
              have HC209_4:=Am_ hl209_4
              clear hi209_4 hl209_4
              replace p209:=eq_true p209
              replace q209:=eq_true q209
              have p210:0≤(x66_3:Int):=of_decide_eq_true (by first | (with_reducible assumption) | assumption)
              have q210:x66_3<(l1_4.length:Int):=of_decide_eq_true (by first | (with_reducible assumption) | assumption)
              obtain ⟨ad210,A210_2,c210_2,A210_3,c210_3,A210_4,c210_4,e210,hx210_0,hx210_1,hx210_2,hx210_3,hx210_4,hl210_2,hi210_2,hl210_3,hi210_3,hl210_4,hi210_4⟩:=yD HR1_4.out x66_3 p210 q210
              have hw210_4:=hx210_4
              have hw210_3:=hx210_3
              have hw210_2:=hx210_2
              have hw210_1:=hx210_1
              have hw210_0:=hx210_0
              cases e210
              replace hx210_0:=(HB.out.cell (World.block_lt_of_cell? w _ hx210_0)).trans hx210_0
              replace hx210_1:=(HB.out.cell (World.block_lt_of_cell? w _ hx210_1)).trans hx210_1
              replace hx210_2:=(HB.out.cell (World.block_lt_of_cell? w _ hx210_2)).trans hx210_2
              replace hx210_3:=(HB.out.cell (World.block_lt_of_cell? w _ hx210_3)).trans hx210_3
              replace hx210_4:=(HB.out.cell (World.block_lt_of_cell? w _ hx210_4)).trans hx210_4
              have HR210_2:=Am_ hi210_2
              have HC210_2:=Am_ hl210_2
              clear hi210_2 hl210_2
              have HR210_3:=Am_ hi210_3
              have HC210_3:=Am_ hl210_3
              clear hi210_3 hl210_3
              have HR210_4:=Am_ hi210_4
              have HC210_4:=Am_ hl210_4
              clear hi210_4 hl210_4
              replace p210:=eq_true p210
              replace q210:=eq_true q210
              refine kF (n:=12) (S:=fun w'=>w'.cell? ⟨gb204,0,none⟩=some (.bool a0_0)∧w'.cell? ⟨gb204,1,none⟩=some (.bool a0_1)∧w'.cell? ⟨gb204,2,none⟩=some (.slice A0_2 l0_2.length c0_2)∧w'.cell? ⟨gb204,3,none⟩=some (.slice A0_3 l0_3.length c0_3)∧w'.cell? ⟨gb204,4,none⟩=some (.slice (some ad209) l0_4.length c0_4)∧w'.cell? ⟨gb205,0,none⟩=some (.bool a1_0)∧w'.cell? ⟨gb205,1,none⟩=some (.bool a1_1)∧w'.cell? ⟨gb205,2,none⟩=some (.slice A1_2 l1_2.length c1_2)∧w'.cell? ⟨gb205,3,none⟩=some (.slice A1_3 l1_3.length c1_3)∧w'.cell? ⟨gb205,4,none⟩=some (.slice (some ad210) l1_4.length c1_4)∧w'.cell? (ad209.add ((x66_3).toNat*5))=some (.bool ((aZ l0_4 x66_3).f0))∧w'.cell? ⟨(ad209.add ((x66_3).toNat*5)).block,(ad209.add ((x66_3).toNat*5)).off+1,none⟩=some (.bool ((aZ l0_4 x66_3).f1))∧w'.cell? ⟨(ad209.add ((x66_3).toNat*5)).block,(ad209.add ((x66_3).toNat*5)).off+2,none⟩=some (.slice A209_2 ((aZ l0_4 x66_3).f2).length c209_2)∧w'.cell? ⟨(ad209.add ((x66_3).toNat*5)).block,(ad209.add ((x66_3).toNat*5)).off+3,none⟩=some (.slice A209_3 ((aZ l0_4 x66_3).f3).length c209_3)∧w'.cell? ⟨(ad209.add ((x66_3).toNat*5)).block,(ad209.add ((x66_3).toNat*5)).off+4,none⟩=some (.slice A209_4 ((aZ l0_4 x66_3).f4).length c209_4)∧w'.cell? (ad210.add ((x66_3).toNat*5))=some (.bool ((aZ l1_4 x66_3).f0))∧w'.cell? ⟨(ad210.add ((x66_3).toNat*5)).block,(ad210.add ((x66_3).toNat*5)).off+1,none⟩=some (.bool ((aZ l1_4 x66_3).f1))∧w'.cell? ⟨(ad210.add ((x66_3).toNat*5)).block,(ad210.add ((x66_3).toNat*5)).off+2,none⟩=some (.slice A210_2 ((aZ l1_4 x66_3).f2).length c210_2)∧w'.cell? ⟨(ad210.add ((x66_3).toNat*5)).block,(ad210.add ((x66_3).toNat*5)).off+3,none⟩=some (.slice A210_3 ((aZ l1_4 x66_3).f3).length c210_3)∧w'.cell? ⟨(ad210.add ((x66_3).toNat*5)).block,(ad210.add ((x66_3).toNat*5)).off+4,none⟩=some (.slice A210_4 ((aZ l1_4 x66_3).f4).length c210_4)) (ds:= []) #[N_,N_,N_,N_,N_,N_,N_,N_,N_,N_,N_,N_] (by kernel_rfl) rfl rfl ⟨(af BK204.out 0).trans rfl,(af BK204.out 1).trans rfl,(af BK204.out 2).trans rfl,(af BK204.out 3).trans rfl,(af BK204.out 4).trans rfl,(af BK205.out 0).trans rfl,(af BK205.out 1).trans rfl,(af BK205.out 2).trans rfl,(af BK205.out 3).trans rfl,(af BK205.out 4).trans rfl,((HB.out.cell (World.block_lt_of_cell? w _ hw209_0)).trans hw209_0),((HB.out.cell (World.block_lt_of_cell? w _ hw209_1)).trans hw209_1),((HB.out.cell (World.block_lt_of_cell? w _ hw209_2)).trans hw209_2),((HB.out.cell (World.block_lt_of_cell? w _ hw209_3)).trans hw209_3),((HB.out.cell (World.block_lt_of_cell? w _ hw209_4)).trans hw209_4),((HB.out.cell (World.block_lt_of_cell? w _ hw210_0)).trans hw210_0),((HB.out.cell (World.block_lt_of_cell? w _ hw210_1)).trans hw210_1),((HB.out.cell (World.block_lt_of_cell? w _ hw210_2)).trans hw210_2),((HB.out.cell (World.block_lt_of_cell? w _ hw210_3)).trans hw210_3),((HB.out.cell (World.block_lt_of_cell? w _ hw210_4)).trans hw210_4)⟩ (fun hHeld=>?_);refine gF aj.PG aj.KY (fun HT_ HW_=>?_)
              generalize wr.drew=w46 at BK204 BK205 HB HR209_2 HR209_3 HR209_4 HR210_2 HR210_3 HR210_4 hx209_0 hx209_1 hx209_2 hx209_3 hx209_4 hx210_0 hx210_1 hx210_2 hx210_3 hx210_4 hHeld ⊢
              refine bQ (i:=0) (N:=some 69) (v:=?_) (a':=?_) #[Y_,N_,N_,N_,N_,N_,N_,N_,N_,N_,N_,N_] rfl rfl (bA HT_.out (by kernel_rfl)) (fun _ _ _ h=>h) (Or.inl ⟨by rfl,?_⟩) ?_ ?_
              rotate_left; · intro w';go_simp;with_reducible rfl
              rotate_left; · simp only [Act.put,u1_,u2_,u3_,aG,aH];rfl
              refine bQ (i:=2) (N:=some 71) (v:=?_) (a':=?_) #[Y_,N_,Y_,N_,N_,N_,N_,N_,N_,N_,N_,N_] rfl rfl (bA HT_.out (by kernel_rfl)) (fun _ _ _ h=>h) (Or.inl ⟨by rfl,?_⟩) ?_ ?_
              rotate_left; · intro w';go_simp;with_reducible rfl
              rotate_left; · simp only [Act.put,u1_,u2_,u3_,aG,aH];rfl
              refine bQ (i:=5) (N:=some 74) (v:=?_) (a':=?_) #[Y_,N_,Y_,N_,N_,Y_,N_,N_,N_,N_,N_,N_] rfl rfl (bA HT_.out (by kernel_rfl)) (fun _ _ _ h=>h) (Or.inl ⟨by rfl,?_⟩) ?_ ?_
              rotate_left; · intro w';go_simp;with_reducible rfl
              rotate_left; · simp only [Act.put,u1_,u2_,u3_,aG,aH];rfl
              refine bQ (i:=7) (N:=some 76) (v:=?_) (a':=?_) #[Y_,N_,Y_,N_,N_,Y_,N_,Y_,N_,N_,N_,N_] rfl rfl (bA HT_.out (by kernel_rfl)) (fun _ _ _ h=>h) (Or.inl ⟨by rfl,?_⟩) ?_ ?_
              rotate_left; · intro w';go_simp;with_reducible rfl
              rotate_left; · simp only [Act.put,u1_,u2_,u3_,aG,aH];rfl
              refine fH (i:=1) (N:=some 70) (v:=?_) (a':=?_) #[Y_,Y_,Y_,N_,N_,Y_,N_,Y_,N_,N_,N_,N_] rfl rfl (bL HT_.out HW_.out (by kernel_rfl)) (fun _ _ _ h=>h) (Or.inl ⟨by rfl,?_⟩) hHeld ?_ ?_
              rotate_left; · rintro w' ⟨s0,s1,s2,s3,s4,s5,s6,s7,s8,s9,s10,s11,s12,s13,s14,s15,s16,s17,s18,s19⟩;go_simp;with_reducible rfl
              rotate_left; · simp only [Act.put,u1_,u2_,u3_,aG,aH];rfl
              refine bQ (i:=3) (N:=some 72) (v:=?_) (a':=?_) #[Y_,Y_,Y_,Y_,N_,Y_,N_,Y_,N_,N_,N_,N_] rfl rfl (bA HT_.out (by kernel_rfl)) (fun _ _ _ h=>h) (Or.inl ⟨by rfl,?_⟩) ?_ ?_
              rotate_left; · intro w';go_simp;with_reducible rfl
              rotate_left; · simp only [Act.put,u1_,u2_,u3_,aG,aH];rfl
              refine fH (i:=4) (N:=some 73) (v:=?_) (a':=?_) #[Y_,Y_,Y_,Y_,Y_,Y_,N_,Y_,N_,N_,N_,N_] rfl rfl (bL HT_.out HW_.out (by kernel_rfl)) (fun _ _ _ h=>h) (Or.inl ⟨by rfl,?_⟩) hHeld ?_ ?_
              rotate_left; · rintro w' ⟨s0,s1,s2,s3,s4,s5,s6,s7,s8,s9,s10,s11,s12,s13,s14,s15,s16,s17,s18,s19⟩;go_simp;with_reducible rfl
              rotate_left; · simp only [Act.put,u1_,u2_,u3_,aG,aH];rfl
              refine fH (i:=6) (N:=some 75) (v:=?_) (a':=?_) #[Y_,Y_,Y_,Y_,Y_,Y_,Y_,Y_,N_,N_,N_,N_] rfl rfl (bL HT_.out HW_.out (by kernel_rfl)) (fun _ _ _ h=>h) (Or.inl ⟨by rfl,?_⟩) hHeld ?_ ?_
              rotate_left; · rintro w' ⟨s0,s1,s2,s3,s4,s5,s6,s7,s8,s9,s10,s11,s12,s13,s14,s15,s16,s17,s18,s19⟩;go_simp;with_reducible rfl
              rotate_left; · simp only [Act.put,u1_,u2_,u3_,aG,aH];rfl
              refine bQ (i:=8) (N:=some 77) (v:=?_) (a':=?_) #[Y_,Y_,Y_,Y_,Y_,Y_,Y_,Y_,Y_,N_,N_,N_] rfl rfl (bA HT_.out (by kernel_rfl)) (fun _ _ _ h=>h) (Or.inl ⟨by rfl,?_⟩) ?_ ?_
              rotate_left; · intro w';go_simp;with_reducible rfl
              rotate_left; · simp only [Act.put,u1_,u2_,u3_,aG,aH];rfl
              refine fH (i:=9) (N:=some 78) (v:=?_) (a':=?_) #[Y_,Y_,Y_,Y_,Y_,Y_,Y_,Y_,Y_,Y_,N_,N_] rfl rfl (bL HT_.out HW_.out (by kernel_rfl)) (fun _ _ _ h=>h) (Or.inl ⟨by rfl,?_⟩) hHeld ?_ ?_
              rotate_left; · rintro w' ⟨s0,s1,s2,s3,s4,s5,s6,s7,s8,s9,s10,s11,s12,s13,s14,s15,s16,s17,s18,s19⟩;go_simp;with_reducible rfl
              rotate_left; · simp only [Act.put,u1_,u2_,u3_,aG,aH];rfl
              refine yJ (i:=10) (N:=some 79) #[Y_,Y_,Y_,Y_,Y_,Y_,Y_,Y_,Y_,Y_,Y_,N_] rfl rfl (gm HT_.out (by kernel_rfl)) (by decide) (fun K hK=>?_)
              refine Py Tryz.func18 (by kernel_rfl) rfl #[.agg #[.bool ((aZ l0_4 x66_3).f0),.bool ((aZ l0_4 x66_3).f1),.slice A209_2 ((aZ l0_4 x66_3).f2).length c209_2,.slice A209_3 ((aZ l0_4 x66_3).f3).length c209_3,.slice A209_4 ((aZ l0_4 x66_3).f4).length c209_4],.agg #[.bool ((aZ l1_4 x66_3).f0),.bool ((aZ l1_4 x66_3).f1),.slice A210_2 ((aZ l1_4 x66_3).f2).length c210_2,.slice A210_3 ((aZ l1_4 x66_3).f3).length c210_3,.slice A210_4 ((aZ l1_4 x66_3).f4).length c210_4]] (by rfl) rfl rfl (by (try simp only [List.map_toArray,List.map_cons,List.map_nil]);first | done | rfl | (simp only [List.length_drop,List.length_take];rfl)) ?_
              with_reducible refine (ih k3 (by have:=HJ2.out;have:=HK2.out;have:=HK3.out;omega) ((aZ l0_4 x66_3).f0) ((aZ l0_4 x66_3).f1) _ _ ((aZ l0_4 x66_3).f2) _ _ ((aZ l0_4 x66_3).f3) _ _ ((aZ l0_4 x66_3).f4) ((aZ l1_4 x66_3).f0) ((aZ l1_4 x66_3).f1) _ _ ((aZ l1_4 x66_3).f2) _ _ ((aZ l1_4 x66_3).f3) _ _ ((aZ l1_4 x66_3).f4) false _ ?side1 ?side2 ?side3 ?side4 ?side5 ?side6 ?side7 ?side8 ?side9 ?side10 ?side11 ?side12 A42.out).mono ?_
              (case side1=>repeat (first | exact (Kd.bE HR209_2.out HB.out) | (with_reducible refine Kd.fB ?_ _) | (with_reducible refine Kd.fE ?_ _) | (with_reducible refine Kd.iB ?_)))
              (case side2=>exact HC209_2.out)
              (case side3=>repeat (first | exact (Kd.bE HR209_3.out HB.out) | (with_reducible refine Kd.fB ?_ _) | (with_reducible refine Kd.fE ?_ _) | (with_reducible refine Kd.iB ?_)))
              (case side4=>exact HC209_3.out)
              (case side5=>repeat (first | exact (Kd.bE HR209_4.out HB.out) | (with_reducible refine Kd.fB ?_ _) | (with_reducible refine Kd.fE ?_ _) | (with_reducible refine Kd.iB ?_)))
              (case side6=>exact HC209_4.out)
              (case side7=>repeat (first | exact (Kd.bE HR210_2.out HB.out) | (with_reducible refine Kd.fB ?_ _) | (with_reducible refine Kd.fE ?_ _) | (with_reducible refine Kd.iB ?_)))
              (case side8=>exact HC210_2.out)
              (case side9=>repeat (first | exact (Kd.bE HR210_3.out HB.out) | (with_reducible refine Kd.fB ?_ _) | (with_reducible refine Kd.fE ?_ _) | (with_reducible refine Kd.iB ?_)))
              (case side10=>exact HC210_3.out)
              (case side11=>repeat (first | exact (Kd.bE HR210_4.out HB.out) | (with_reducible refine Kd.fB ?_ _) | (with_reducible refine Kd.fE ?_ _) | (with_reducible refine Kd.iB ?_)))
              (case side12=>exact HC210_4.out)
              rintro e w47 ⟨rfl,hb⟩
              refine ⟨_,rfl,?_⟩
              have n0_:=Am_ (bW (g:=gb204) (o:= .cells #[.bool a0_0,.bool a0_1,.slice A0_2 l0_2.length c0_2,.slice A0_3 l0_3.length c0_3,.slice (some ad209) l0_4.length c0_4] 30 (0,0)) (by (with_reducible repeat (first | refine aY ?_ _ | refine aV ?_ | refine aK ?_ _));exact BK204.out) hb)
              have n1_:=Am_ (bW (g:=gb205) (o:= .cells #[.bool a1_0,.bool a1_1,.slice A1_2 l1_2.length c1_2,.slice A1_3 l1_3.length c1_3,.slice (some ad210) l1_4.length c1_4] 30 (0,0)) (by (with_reducible repeat (first | refine aY ?_ _ | refine aV ?_ | refine aK ?_ _));exact BK205.out) hb)
              have n2_:=Am_ (dL (by repeat (first | (with_reducible first | exact HB.out | apply ai | apply au | apply aA | refine aM ?_ GE204.out | refine aM ?_ GE205.out) | exact HB.out)) hb)
              clear BK204
              clear BK205
              clear HB
              have BK204:=n0_
              have BK205:=n1_
              have HB:=n2_
              clear n0_ n1_ n2_
              (try clear hb)
              (try clear hb2)
              (try clear hk)
              (try clear hi)
              refine hK.out _ _ ⟨(af BK204.out 0).trans rfl,(af BK204.out 1).trans rfl,(af BK204.out 2).trans rfl,(af BK204.out 3).trans rfl,(af BK204.out 4).trans rfl,(af BK205.out 0).trans rfl,(af BK205.out 1).trans rfl,(af BK205.out 2).trans rfl,(af BK205.out 3).trans rfl,(af BK205.out 4).trans rfl,((HB.out.cell (World.block_lt_of_cell? w _ hw209_0)).trans hw209_0),((HB.out.cell (World.block_lt_of_cell? w _ hw209_1)).trans hw209_1),((HB.out.cell (World.block_lt_of_cell? w _ hw209_2)).trans hw209_2),((HB.out.cell (World.block_lt_of_cell? w _ hw209_3)).trans hw209_3),((HB.out.cell (World.block_lt_of_cell? w _ hw209_4)).trans hw209_4),((HB.out.cell (World.block_lt_of_cell? w _ hw210_0)).trans hw210_0),((HB.out.cell (World.block_lt_of_cell? w _ hw210_1)).trans hw210_1),((HB.out.cell (World.block_lt_of_cell? w _ hw210_2)).trans hw210_2),((HB.out.cell (World.block_lt_of_cell? w _ hw210_3)).trans hw210_3),((HB.out.cell (World.block_lt_of_cell? w _ hw210_4)).trans hw210_4)⟩ (fun hHeld=>?_)
              clear hK K
              refine cK (a':=?_) ?_ ?_
              rotate_left; · show Act.put _ (some 79) _=_;simp only [Act.put,u1_,u2_,u3_,aG,aH];rfl
              refine bQ (i:=11) (N:=some 80) (v:=?_) (a':=?_) #[Y_,Y_,Y_,Y_,Y_,Y_,Y_,Y_,Y_,Y_,Y_,Y_] rfl rfl (bA HT_.out (by kernel_rfl)) (fun _ _ _ h=>h) (Or.inl ⟨by rfl,?_⟩) ?_ ?_
              rotate_left; · intro w';go_simp;with_reducible rfl
              rotate_left; · simp only [Act.put,u1_,u2_,u3_,aG,aH];rfl
              refine dR (bM HT_.out (by kernel_rfl)) ?_
              try go_wp2
              go_ret
              exact ⟨by first | rfl | (simp [dA,dB]<;>rfl) | (simp [*,dA,dB]<;>rfl),by repeat (first | (with_reducible first | exact HB.out | apply ai | apply au | apply aA | refine aM ?_ GE204.out | refine aM ?_ GE205.out) | exact HB.out)⟩
            ·rw [if_neg c41] at H
             exact absurd H (by simp)
           ·rw [if_neg c40] at H
            exact absurd H (by simp)
          ·rw [if_neg c39] at H
           exact absurd H (by simp)
         ·rw [if_neg c38] at H
          have c38b0:decide (x66_3<(l0_4.length:Int))=false:=decide_eq_false c38
          clear c38
          obtain rfl:=Option.some.inj H
          go_wp2
          go_ret
          exact ⟨by first | rfl | (simp [dA,dB]<;>rfl) | (simp [*,dA,dB]<;>rfl),by repeat (first | (with_reducible first | exact HB.out | apply ai | apply au | apply aA | refine aM ?_ GE204.out | refine aM ?_ GE205.out) | exact HB.out)⟩
end Go.Proofs.YtmnjjdeaccgjlaaGreat.PPutSplits
namespace Go.Proofs.YtmnjjdeaccgjlaaGreat.Tower
open Go Go.RowKit Go.Proofs.YtmnjjdeaccgjlaaGreatW.PrintWords Go.Proofs.YtmnjjdeaccgjlaaGreatW.PrintLast Go.Proofs.YtmnjjdeaccgjlaaGreatW.PrintMore Go.Proofs.YtmnjjdeaccgjlaaGreat.Own Go.Proofs.YtmnjjdeaccgjlaaGreat.PPutSplits
def dS (l:List Pr2):Sh:=⟨true,false,l,[],[]⟩
def jE (wd:Nat) (zs:List Pr2):Sh:=if zs.length≤wd then dS zs else ⟨false,false,[],[(aJ zs ((zs.length / 2:Nat):Int)).f0],[dS (zs.take (zs.length / 2)),dS (zs.drop (zs.length / 2))]⟩
structure Ma (keys:List Int) (b0 key value:Int) (kf kp k2:Nat) (ys zs:List Pr2) (wd m:Nat) (x0 X X5:Ws) (g:Nat) (log l:List Int) (t:Sh) (made:Nat):Prop where
 wide:eU.f b0=some (wd:Int)
 w3:3≤wd
 w8:wd≤8
 cut:m=min keys.length wd
 rising:bB.f kf (keys.take m)=some ys
 len:ys.length≤8
 new:ws0 2 wd 1 8 3=some x0
 plant:vG (dS ys) x0=some X
 good:X.Good
 runs:jR (pW 0 key value false 100 (lK key 100) 5) 3000 X []=some (some l,g,X5,log)
 put:aC.f kp ys key value=some zs
 zlen:zs.length≤9
 shape:t=jE wd zs
 many:made=if zs.length≤wd then 1 else 3
 read:Ws.read X5=(t,X5.ar)
 same:aj.f k2 t.f0 t.f1 t.f2 t.f3 t.f4 t.f0 t.f1 t.f2 t.f3 t.f4=some true
 used:X5.ar.used=wrap64 (2+(made:Int))
 limbo:xS X5.ep.limbo=1
 rows:X5.ep.limbo.length<1000000
theorem EK (ys:List Pr2) (h:ys.length≤8):ay.f 200 (dS ys).f0 (dS ys).f1 (dS ys).f2 (dS ys).f3 (dS ys).f4=some 1:=by
 have:=Np 0 (dS ys) (by rw [iq];show iV []≤0;rw [iV];exact Nat.le_refl _) (by rw [jT];exact ⟨by show ys.length≤60;omega,by simp [dS],by simp [dS],by show lQ [];rw [lQ];trivial⟩) (by rw [mP];show 1+kV []<_;rw [kV];omega)
 unfold qQ at this
 rw [mP,show kV (dS ys).f4=0 by show kV []=0;rw [kV]] at this
 exact pI (fun k=>ay.mono _ _ _ _ _ k) (by decide) this
theorem QX {α:Type} {d:Kd α} {w:World} {g:Nat} {cs ds:List Value} {t:Nat} {p q:α} {ok:Nat→Prop} (hb:w.heap[g]?=some (.cells (cs++ds).toArray t (0,0))) (hk:d.FK w ok p cs) (hq:d.FK w ok q ds):d.F w (fun k=>k=g∨ok k) (some ⟨g,0,none⟩) 2 [p,q]:=by
 intro W hW
 have hg:W.heap[g]?=some (.cells (cs++ds).toArray t (0,0)):=(hW g (.inl rfl) (bH hb)).trans hb
 have hK:d.K W p cs:=hk W (fun k hk1 hlt=>hW k (.inr hk1) hlt)
 have hQ:d.K W q ds:=hq W (fun k hk1 hlt=>hW k (.inr hk1) hlt)
 have hl:=d.K_len hK
 refine ⟨rfl,by omega,fun _=>⟨⟨g,0,none⟩,rfl,fun j z hz=>?_⟩⟩
 match j,hz with
 | 0,hz=>
  injection hz with hz
  subst hz
  refine ⟨cs,hl,hK,fun i u hu=>?_⟩
  have hil:=(List.getElem?_eq_some_iff.1 hu).1
  have:=af hg i
  rw [Nat.zero_mul,Nat.zero_add,ic,Nat.zero_add,this]
  simp only [List.getElem?_toArray]
  rw [List.getElem?_append_left hil]
  exact hu
 | 1,hz=>
  injection hz with hz
  subst hz
  refine ⟨ds,d.K_len hQ,hQ,fun i u hu=>?_⟩
  have:=af hg (d.sz+i)
  rw [Nat.one_mul,ic,Nat.zero_add,this]
  simp only [List.getElem?_toArray]
  rw [List.getElem?_append_right (by omega),show d.sz+i - cs.length=i by omega]
  exact hu
 | j+2,hz=>simp at hz
theorem Nb {e:Nat} {w:World} {base:Nat} {ok:Nat→Prop} {v:Value} {xs:List Pr2} (h:kP.R e w base ok v xs):kP.R e w base (fun k=>base≤k) v xs:=⟨fun k hk=>Kd.jC h k hk,h.2⟩
theorem NI {α:Type} {d:Kd α} {w:World} {ok:Nat→Prop} {A:Option Addr} {xs:List α} {n:Nat} (h:d.F w ok A xs.length xs) (hn:n≤xs.length):d.F w ok A (xs.take n).length (xs.take n):=fun W hW=>Kd.Gd (h W hW) hn
theorem NZ {α:Type} {d:Kd α} {w:World} {ok:Nat→Prop} {A:Option Addr} {xs:List α} {n c:Nat} (h:d.F w ok A xs.length xs) (hn:n≤xs.length) (hc:xs.length≤c):d.F w ok (if c=n then A else A.map fun a=>a.add (n*d.sz)) (xs.drop n).length (xs.drop n):=fun W hW=>Kd.Mh (h W hW) hn hc
structure RX (w:World) (okS okA okR okE:Nat→Prop) (p pA pR pE b9:Nat) (t:Sh) (X5:Ws) (wc:World):Prop where
 W:fo okS okA okR okE p pA pR pE X5 wc
 out: ∃ A2 c2 A3 c3 A4 c4,Mine okS wc b9 (.cells #[.bool t.f0,.bool t.f1,.slice A2 t.f2.length c2,.slice A3 t.f3.length c3,.slice A4 t.f4.length c4] 30 (0,0))∧kSh.FK wc (fun k=> ¬ okS k) t [.bool t.f0,.bool t.f1,.slice A2 t.f2.length c2,.slice A3 t.f3.length c3,.slice A4 t.f4.length c4]
 B:Below w.heap.size w wc
def xP:Bool × List (List Nat × List Nat):=(true,[([],[]),([0],[0]),([],[]),([1,2,1],[1,2]),([3,3],[3]),([4],[4]),([5,4],[4,5]),([6,4],[4,6]),([7,4],[4,7]),([8,4,4],[4,8]),([4],[4]),([10,4],[4,10]),([9,11,4],[4,9,11]),([4,12],[4,12]),([13,9],[13]),([14],[14]),([15,14],[14,15]),([16,14],[14,16]),([17,14],[14,17]),([18,14,14],[14,18]),([19,14],[14,19]),([14,20],[14,20]),([21,19,0,1,2,3,4,5,6,7,8,9,10,11,12,13,14,15,16,17,18,19,20,21],[21])])
def GH:List Nat:= [0,1,0,7,15,31,63,127,255,511,31,1055,4095,8191,16383,32767,65535,131071,262143,524287,1048575,2097151,4194303]
theorem zm:gJ .any (opsOf Tryz.f3 16)=xP:=by kernel_rfl
theorem xL:bI xP.2 GH=true:=by kernel_rfl
theorem zG (A:Option Addr) (c:Nat) (keys:List Int) (b0 key value:Int) (w:World) (hC:(Kd.int .i64).C w A keys.length keys) (hc:keys.length≤c)
  {kf kp k2:Nat} {ys zs:List Pr2} {wd m:Nat} {x0 X X5:Ws} {g:Nat} {log l:List Int} {t:Sh} {made:Nat} (hf:Ma keys b0 key value kf kp k2 ys zs wd m x0 X X5 g log l t made):
  Calls Tryz.prog 3 #[.slice A keys.length c,.int .u8 b0,.int .i64 key,.int .i64 value] w fun e w1=>e= .returned (.bool true)∧Below w.heap.size w w1:=by
 have HF:=Am_ hf
 have hm1:m≤keys.length:=by have:=hf.cut;omega
 have hct:=BP 22 2 .i64 Tryz.underlying22 Si A keys.length c (m:Int) (by omega) (by omega) hc
 rw [Int.toNat_natCast] at hct
 have hCm:=Kd.Gd hC hm1
 have hlm:(keys.take m).length=m:=by rw [List.length_take];omega
 rw [hlm] at hCm
 have HCK:=Am_ (And.intro hCm (show m≤c by omega))
 have HLM:=Am_ hlm
 have hb0:(0:Int)≤(m:Int):=by omega
 have hb1:(m:Int)≤(keys.length:Int):=by omega
 have HCT:=Am_ hct
 clear hf hC hc hCm hlm hm1 hct
 go_enter Tryz.func3,Tryz.ntmps3
 go_upto_region 3 with (go_at_call 10;refine (MB _).mono ?_;rintro e w2 ⟨rfl,hb⟩;have B2:=Am_ hb;clear hb)
 go_upto_region 4 with (go_at_call 11;refine (eU.calls b0 _ _ HF.out.wide).mono ?_;rintro e w3 ⟨rfl,hd⟩;have B3:=Am_ (aU B2.out B2.out.size hd.below);clear hd)
 clear B2
 go_cut [10] from 24 (fun v10 wc=> ∃ Ay cy,v10= .slice Ay ys.length cy∧av (ys.length≤cy∧kP.F wc (fun k=>k<wc.heap.size) Ay ys.length ys)∧av (Below w.heap.size w wc))
 case first=>
  by_cases hwl:wd<keys.length
  ·have hwl2:(wd:Int)<(keys.length:Int):=by omega
   obtain rfl:m=wd:=by have:=HF.out.cut;omega
   have hct:=HCT.out
   clear HCT
   go_upto_region 5 with (go_at_call 12;have hri:=bB.calls kf A c (keys.take _) ys _ (by rw [HLM.out];exact Kd.bE HCK.out.1 B3.out) (by rw [HLM.out];exact HCK.out.2) HF.out.rising;rw [HLM.out] at hri;refine hri.mono ?_;clear hri;rintro e w4 ⟨v0,rfl,hR,hb⟩;obtain ⟨Ay,cy,rfl⟩:=Kd.aW hR;have HY:=Am_ (Kd.R_F hR);have HYC:=Am_ (Kd.bF hR).2.1;have B4:=Am_ (aU B3.out B3.out.size hb);clear hR hb)
   go_meet
   case rel=>exact ⟨_,_,rfl,⟨HYC.out,Kd.bP (Kd.dP HY.out) (fun k hk=>hk.2)⟩,B4⟩
  ·have hwl2: ¬ (wd:Int)<(keys.length:Int):=by omega
   obtain rfl:m=keys.length:=by have:=HF.out.cut;omega
   have hkc:keys.length≤c:=HCK.out.2
   clear HCT
   go_upto_region 5 with (go_at_call 12;have hri:=bB.calls kf A c (keys.take _) ys _ (by rw [HLM.out];exact Kd.bE HCK.out.1 B3.out) (by rw [HLM.out];exact HCK.out.2) HF.out.rising;rw [HLM.out] at hri;refine hri.mono ?_;clear hri;rintro e w4 ⟨v0,rfl,hR,hb⟩;obtain ⟨Ay,cy,rfl⟩:=Kd.aW hR;have HY:=Am_ (Kd.R_F hR);have HYC:=Am_ (Kd.bF hR).2.1;have B4:=Am_ (aU B3.out B3.out.size hb);clear hR hb)
   go_meet
   case rel=>exact ⟨_,_,rfl,⟨HYC.out,Kd.bP (Kd.dP HY.out) (fun k hk=>hk.2)⟩,B4⟩
 case rest=>
 obtain ⟨Ay,cy,rfl,HYY,B4⟩:=hcut
 have HY:=Am_ HYY.out.2
 have HYC:=Am_ HYY.out.1
 clear HCT HCK HLM B3 HYY
 generalize wc=w4 at HY B4 ⊢
 have Y6:=Am_ (Mine.new (ok:=fun _=>False) (w:=w4) (fun q hq=>hq.elim) (.cells #[.bool true,.bool false,.slice Ay ys.length cy,.slice none 0 0,.slice none 0 0] 30))
 have B6:=Am_ (aU B4.out B4.out.size (ai (Below.refl w4.heap.size w4) (.cells #[.bool true,.bool false,.slice Ay ys.length cy,.slice none 0 0,.slice none 0 0] 30)))
 have F6:av (kSh.FK (w4.alloc (.cells #[.bool true,.bool false,.slice Ay ys.length cy,.slice none 0 0,.slice none 0 0] 30)) (fun k=>k<w4.heap.size) (dS ys) [.bool true,.bool false,.slice Ay ys.length cy,.slice none 0 0,.slice none 0 0]):=⟨pQ _ _ (dS ys) HYC.out (Kd.eP HY.out (.cells #[.bool true,.bool false,.slice Ay ys.length cy,.slice none 0 0,.slice none 0 0] 30)) (Nat.le_refl _) (Kd.jv _ _ _) (Nat.le_refl _) (Kd.jv _ _ _)⟩
 have Z6:av (w.heap.size≤w4.heap.size):=⟨B4.out.size⟩
 clear B4 HY HYC
 go_upto_region 6 with fail
 generalize w4.alloc (.cells #[.bool true,.bool false,.slice Ay ys.length cy,.slice none 0 0,.slice none 0 0] 30)=w6 at Y6 B6 F6 ⊢
 generalize w4.heap.size=b8 at Y6 Z6 F6 ⊢
 have L6:av (b8<w6.heap.size):=⟨Y6.out.lt⟩
 have y0:=(af Y6.out.1 0).trans (rfl:_=some (Value.bool true))
 have y1:=(af Y6.out.1 1).trans (rfl:_=some (Value.bool false))
 have y2:=(af Y6.out.1 2).trans (rfl:_=some (Value.slice Ay ys.length cy))
 have y3:=(af Y6.out.1 3).trans (rfl:_=some (Value.slice none 0 0))
 have y4:=(af Y6.out.1 4).trans (rfl:_=some (Value.slice none 0 0))
 go_upto_region 7 with (go_at_call 13;refine (Cs 200 2 wd 1 (dS ys) 5 3 1 8 x0 X _ _ F6.out (EK ys HF.out.len) (by kernel_rfl) (by omega) (by omega) (by have:=HF.out.w3;omega) (by have:=HF.out.w8;omega) (by omega) (by omega) (by omega) (by omega) (by omega) (by omega) HF.out.new HF.out.plant).mono ?_;rintro e w7 hE;obtain ⟨okW,p,rfl,hW,hFr,hB⟩:=hE.out;have S7:=Am_ (show shW p X okW w7 from ⟨hW,HF.out.good⟩);have N7:=Am_ hFr;have B7:=Am_ (aU B6.out B6.out.size hB);have F7:=Am_ (mE F6.out (Nat.le_refl _) hB);clear hE hW hFr hB y0 y1 y2 y3 y4)
 have N7':av (∀ q,okW q→w6.heap.size≤q):=N7
 clear B6 Y6 F6 N7
 go_upto_region 8 with (go_at_call 14;refine (qP p 0 key value false _).mono ?_;rintro e w71 hE;obtain ⟨tb,bf,bw,bm,b1,b2,b3,rfl,hP,hb⟩:=yj S7.out hE;have P2:=Am_ hP;have B71:=Am_ (aU B7.out B7.out.size hb);have F71:=Am_ (mE F7.out (Nat.le_refl _) hb);have B77:=Am_ hb.size;clear hE hP hb)
 have HO5:av (∀ q,(q=tb∨okW q)→w.heap.size≤q):=⟨fun q hq=>hq.elim (fun e=>by have:=B7.out.size;have:=P2.out.new;omega) (fun h=>by have:=N7'.out q h;have:=Z6.out;have:=L6.out;omega)⟩
 have K71:av (kSh.FK w71 (fun q=> ¬ (q=tb∨okW q)) (dS ys) [.bool true,.bool false,.slice Ay ys.length cy,.slice none 0 0,.slice none 0 0]):=⟨Kd.jf F71.out (fun q hq h=>by
  have h1:=hq.1.1
  rcases h with h | h
  ·have:=P2.out.new
   have:=hq.2
   omega
  ·have:=N7'.out q h
   have:=L6.out
   omega)⟩
 clear S7 N7' B7 F7 F71 Z6 L6 B77
 go_upto_region 9 with (go_at_call 15;refine (oN (qW (Lp key 100 (by omega)) (by omega)) _ X [] 0 false _ P2.out.idle (by simp) P2.out.bx P2.out.cx _ HF.out.runs).mono ?_;rintro e w8 hE;obtain ⟨ok3,hm3,_,at3,sp3,hi3,v,rfl,hv⟩:=hE.out;have M8:=Am_ hm3;have I8:=Am_ hi3;dsimp only;generalize (3000 - g:Nat)=n8;clear hE hm3 hi3 hv P2)
 obtain ⟨okT,okS,hiff,_,ht6,hW6⟩:=I8.out.out
 obtain ⟨okA,okR,okE,pA,pR,pE,hw6⟩:=hW6.1
 have hsub: ∀ q,okS q→ok3 q:=fun q hq=>(hiff q).2 (.inr hq)
 have W8:=Am_ hw6
 have HG:=Am_ hW6.2.ar.fits
 have B8:=Am_ (iW M8.out B71.out HO5.out)
 have HOS:av (∀ q,okS q→w.heap.size≤q):=⟨fun q hq=>(M8.out.fresh q (hsub q hq)).elim (HO5.out q) (fun h=>Nat.le_trans B71.out.size h)⟩
 have K8:av (kSh.FK w8 (fun q=> ¬ okS q) (dS ys) [.bool true,.bool false,.slice Ay ys.length cy,.slice none 0 0,.slice none 0 0]):=⟨Kd.jf (mI K71.out M8.out) (fun q hq h=>hq (hsub q h))⟩
 clear hiff ht6 hW6 hw6 hsub M8 I8 B71 HO5 K71
 go_upto_region 11 with fail
 go_upto_region 12 with (go_at_call 16;refine (aC.calls kp Ay cy ys key value zs _ (KO K8.out).2.1 (KO K8.out).1 HF.out.put).mono ?_;rintro e w10 ⟨v0,rfl,hR,hb⟩;obtain ⟨Az,cz,rfl⟩:=Kd.aW hR;have HZ:=Am_ (Kd.R_F (Nb hR));have HZC:=Am_ (Kd.bF hR).2.1;have W10:=Am_ (W8.out.step hb.size (fun q _ hlt=>hb.block q hlt));have B10:=Am_ (aU B8.out B8.out.size hb);have N10:=Am_ W8.out.lt;clear hR hb W8 B8)
 have Y11:=Am_ (Mine.new (ok:=okS) W10.out.lt (.cells #[.bool true,.bool false,.slice Az zs.length cz,.slice none 0 0,.slice none 0 0] 30))
 have B11:=Am_ (aU B10.out B10.out.size (ai (Below.refl w10.heap.size w10) (.cells #[.bool true,.bool false,.slice Az zs.length cz,.slice none 0 0,.slice none 0 0] 30)))
 have W11:=Am_ (W10.out.step (w1:=w10.alloc (.cells #[.bool true,.bool false,.slice Az zs.length cz,.slice none 0 0,.slice none 0 0] 30)) (by simp) (fun q _ hlt=>Below.heap_alloc _ _ _ hlt))
 have HZ11:av (kP.F (w10.alloc (.cells #[.bool true,.bool false,.slice Az zs.length cz,.slice none 0 0,.slice none 0 0] 30)) (fun k=> ¬ okS k∧k<w10.heap.size) Az zs.length zs):=⟨Kd.bP (Kd.eP (Kd.dP HZ.out) (.cells #[.bool true,.bool false,.slice Az zs.length cz,.slice none 0 0,.slice none 0 0] 30)) (fun k hk=>⟨fun h=>by have h1:=N10.out k h;have h2:w8.heap.size≤k:=hk.1;omega,hk.2⟩)⟩
 have HB9:av (w.heap.size≤w10.heap.size):=⟨B10.out.size⟩
 clear W10 B10 HZ N10 K8
 generalize w10.alloc (.cells #[.bool true,.bool false,.slice Az zs.length cz,.slice none 0 0,.slice none 0 0] 30)=w11 at Y11 B11 W11 HZ11 ⊢
 generalize w10.heap.size=b9 at Y11 HB9 HZ11 ⊢
 have y0:=(af Y11.out.1 0).trans (rfl:_=some (Value.bool true))
 have y1:=(af Y11.out.1 1).trans (rfl:_=some (Value.bool false))
 have y2:=(af Y11.out.1 2).trans (rfl:_=some (Value.slice Az zs.length cz))
 have y3:=(af Y11.out.1 3).trans (rfl:_=some (Value.slice none 0 0))
 have y4:=(af Y11.out.1 4).trans (rfl:_=some (Value.slice none 0 0))
 go_upto_if 59 with fail
 go_cut [18] from 19 (fun v18 wc=>v18= .int .i64 (made:Int)∧av (RX w okS okA okR okE p pA pR pE b9 t X5 wc))
 case first=>
  by_cases hzw:zs.length≤wd
  ·have d1:decide ((wd:Int)<(zs.length:Int))=false:=decide_eq_false (by omega)
   have d2: ∀ inst:Decidable (wd<zs.length),@decide (wd<zs.length) inst=false:=fun inst=>decide_eq_false (by omega)
   simp only [d2]
   clear d1 d2
   have HT:av (t=dS zs∧made=1):=⟨by rw [HF.out.shape];unfold jE;rw [if_pos hzw],by rw [HF.out.many,if_pos hzw]⟩
   clear hzw
   go_wp2_with fail
   go_meet
   case rel=>
    rw [HT.out.2]
    refine ⟨rfl,⟨⟨W11.out,?_,B11.out⟩⟩⟩
    rw [HT.out.1]
    exact ⟨Az,cz,none,0,none,0,Y11.out,pQ _ _ (dS zs) HZC.out (Kd.bP HZ11.out (fun k hk=>hk.1)) (Nat.le_refl _) (Kd.jv _ _ _) (Nat.le_refl _) (Kd.jv _ _ _)⟩
  ·have d1:decide ((wd:Int)<(zs.length:Int))=true:=decide_eq_true (by omega)
   have d2: ∀ inst:Decidable (wd<zs.length),@decide (wd<zs.length) inst=true:=fun inst=>decide_eq_true (by omega)
   simp only [d2]
   clear d1 d2
   have HT:av (t=jE wd zs∧made=3):=⟨HF.out.shape,by rw [HF.out.many,if_neg hzw]⟩
   have hz2:2≤zs.length:=by have:=HF.out.w3;omega
   obtain ⟨ad,rfl,_⟩:=kr (Kd.fM HZ11.out) 0 (by omega) (by omega)
   have HHV:=Am_ (wW ad zs cz w11 (Kd.fM HZ11.out) HZC.out (by have:=HF.out.zlen;omega) hz2)
   have HZ2:=Am_ hz2
   have HZW:=Am_ hzw
   clear hzw hz2
   go_upto_region 15 with (go_at_call 17;refine HHV.out.mono ?_;rintro e w12 ⟨rfl,hb⟩;have Y12:=Am_ (Y11.out.moves (Moves.bV _ hb));have B12:=Am_ (aU B11.out B11.out.size hb);have W12:=Am_ (W11.out.step hb.size (fun q _ hlt=>hb.block q hlt));have HZ12:=Am_ (Kd.iQ HZ11.out hb);clear hb HHV y0 y1 y2 y3 y4)
   clear Y11 B11 W11 HZ11
   have hn1:zs.length / 2≤zs.length∧1≤zs.length / 2∧zs.length / 2<zs.length:=by have:=HZ2.out;omega
   have HTN:av (t=⟨false,false,[],[(aJ zs ((zs.length:Int) / 2)).f0],[dS (zs.take (zs.length / 2)),dS (zs.drop (zs.length / 2))]⟩):=⟨by rw [HT.out.1];unfold jE;rw [if_neg HZW.out,show ((zs.length / 2:Nat):Int)=(zs.length:Int) / 2 by omega]⟩
   generalize (aJ zs ((zs.length:Int) / 2)).f0=kk at HTN ⊢
   generalize zs.length / 2=n at HTN hn1 ⊢
   have HN1:=Am_ hn1
   clear hn1
   have e19:=aK (bU w12 (.cells ([.bool true,.bool false,.slice (some ad) n cz,.slice none 0 0,.slice none 0 0]:List Value).toArray 30)) (.cells ([.bool true,.bool false,.slice (some (ad.add (n*2))) (zs.length - n) (cz - n),.slice none 0 0,.slice none 0 0]:List Value).toArray 30)
   have e20:=bU (w12.alloc (.cells ([.bool true,.bool false,.slice (some ad) n cz,.slice none 0 0,.slice none 0 0]:List Value).toArray 30)) (.cells ([.bool true,.bool false,.slice (some (ad.add (n*2))) (zs.length - n) (cz - n),.slice none 0 0,.slice none 0 0]:List Value).toArray 30)
   simp only [World.size_alloc] at e20
   have hb13:=ai (ai (Below.refl w12.heap.size w12) (.cells ([.bool true,.bool false,.slice (some ad) n cz,.slice none 0 0,.slice none 0 0]:List Value).toArray 30)) (.cells ([.bool true,.bool false,.slice (some (ad.add (n*2))) (zs.length - n) (cz - n),.slice none 0 0,.slice none 0 0]:List Value).toArray 30)
   have Y13:=Am_ (Y12.out.moves (Moves.bV _ hb13))
   have B13:=Am_ (aU B12.out B12.out.size hb13)
   have W13:=Am_ (W12.out.step hb13.size (fun q _ hlt=>hb13.block q hlt))
   have HZ13:=Am_ (Kd.iQ HZ12.out hb13)
   clear hb13 Y12 B12 W12 HZ12
   generalize hw13:(w12.alloc (.cells ([.bool true,.bool false,.slice (some ad) n cz,.slice none 0 0,.slice none 0 0]:List Value).toArray 30)).alloc (.cells ([.bool true,.bool false,.slice (some (ad.add (n*2))) (zs.length - n) (cz - n),.slice none 0 0,.slice none 0 0]:List Value).toArray 30)=w13 at e19 e20 Y13 B13 W13 HZ13
   clear hw13
   generalize w12.heap.size=b19 at e19 e20 ⊢
   have e19:=aK e19 (.cells #[.int .i64 kk] 2)
   have e20:=aK e20 (.cells #[.int .i64 kk] 2)
   have Y15:=(Y13.out.alloc (.cells #[.int .i64 kk] 2)).alloc (.cells #[.bool true,.bool false,.slice (some ad) n cz,.slice none 0 0,.slice none 0 0,.bool true,.bool false,.slice (some (ad.add (n*2))) (zs.length - n) (cz - n),.slice none 0 0,.slice none 0 0] 30)
   have x0:=(af e19 0).trans (rfl:_=some (Value.bool true))
   have x1:=(af e19 1).trans (rfl:_=some (Value.bool false))
   have x2:=(af e19 2).trans (rfl:_=some (Value.slice (some ad) n cz))
   have x3:=(af e19 3).trans (rfl:_=some (Value.slice none 0 0))
   have x4:=(af e19 4).trans (rfl:_=some (Value.slice none 0 0))
   have u0:=(af e20 0).trans (rfl:_=some (Value.bool true))
   have u1:=(af e20 1).trans (rfl:_=some (Value.bool false))
   have u2:=(af e20 2).trans (rfl:_=some (Value.slice (some (ad.add (n*2))) (zs.length - n) (cz - n)))
   have u3:=(af e20 3).trans (rfl:_=some (Value.slice none 0 0))
   have u4:=(af e20 4).trans (rfl:_=some (Value.slice none 0 0))
   have y0:=(af Y15.1 0).trans (rfl:_=some (Value.bool true))
   have z0:=ah Y15.1 0
   have y1:=(af Y15.1 1).trans (rfl:_=some (Value.bool false))
   have z1:=ah Y15.1 1
   have y2:=(af Y15.1 2).trans (rfl:_=some (Value.slice (some ad) zs.length cz))
   have z2:=ah Y15.1 2
   have y3:=(af Y15.1 3).trans (rfl:_=some (Value.slice none 0 0))
   have z3:=ah Y15.1 3
   have y4:=(af Y15.1 4).trans (rfl:_=some (Value.slice none 0 0))
   have z4:=ah Y15.1 4
   clear e19 e20 Y15
   have HLT9:av (b9<w13.heap.size):=⟨Y13.out.lt⟩
   go_wp2_with fail
   go_meet
   case rel=>
    clear x0 x1 x2 x3 x4 u0 u1 u2 u3 u4 y0 y1 y2 y3 y4 z0 z1 z2 z3 z4
    have hbw:=ai (ai (Below.refl w13.heap.size w13) (.cells #[.int .i64 kk] 2)) (.cells #[.bool true,.bool false,.slice (some ad) n cz,.slice none 0 0,.slice none 0 0,.bool true,.bool false,.slice (some (ad.add (n*2))) (zs.length - n) (cz - n),.slice none 0 0,.slice none 0 0] 30)
    have hK:=aK (bU w13 (.cells #[.int .i64 kk] 2)) (.cells #[.bool true,.bool false,.slice (some ad) n cz,.slice none 0 0,.slice none 0 0,.bool true,.bool false,.slice (some (ad.add (n*2))) (zs.length - n) (cz - n),.slice none 0 0,.slice none 0 0] 30)
    have hR:=bU (w13.alloc (.cells #[.int .i64 kk] 2)) (.cells #[.bool true,.bool false,.slice (some ad) n cz,.slice none 0 0,.slice none 0 0,.bool true,.bool false,.slice (some (ad.add (n*2))) (zs.length - n) (cz - n),.slice none 0 0,.slice none 0 0] 30)
    simp only [World.size_alloc] at hR
    have Y14:=(Y13.out.moves (Moves.bV _ hbw)).sets [(0,.bool false),(1,.bool false),(2,.slice none 0 0),(3,.slice (some ⟨w13.heap.size,0,none⟩) 1 1),(4,.slice (some ⟨w13.heap.size+1,0,none⟩) 2 2)]
    have hfar: ∀ k,k≠b9→(sets ((w13.alloc (.cells #[.int .i64 kk] 2)).alloc (.cells #[.bool true,.bool false,.slice (some ad) n cz,.slice none 0 0,.slice none 0 0,.bool true,.bool false,.slice (some (ad.add (n*2))) (zs.length - n) (cz - n),.slice none 0 0,.slice none 0 0] 30)) b9 [(0,.bool false),(1,.bool false),(2,.slice none 0 0),(3,.slice (some ⟨w13.heap.size,0,none⟩) 1 1),(4,.slice (some ⟨w13.heap.size+1,0,none⟩) 2 2)]).heap[k]?=((w13.alloc (.cells #[.int .i64 kk] 2)).alloc (.cells #[.bool true,.bool false,.slice (some ad) n cz,.slice none 0 0,.slice none 0 0,.bool true,.bool false,.slice (some (ad.add (n*2))) (zs.length - n) (cz - n),.slice none 0 0,.slice none 0 0] 30)).heap[k]?:=fun k hk=>dh hk _ _
    have hsz:(sets ((w13.alloc (.cells #[.int .i64 kk] 2)).alloc (.cells #[.bool true,.bool false,.slice (some ad) n cz,.slice none 0 0,.slice none 0 0,.bool true,.bool false,.slice (some (ad.add (n*2))) (zs.length - n) (cz - n),.slice none 0 0,.slice none 0 0] 30)) b9 [(0,.bool false),(1,.bool false),(2,.slice none 0 0),(3,.slice (some ⟨w13.heap.size,0,none⟩) 1 1),(4,.slice (some ⟨w13.heap.size+1,0,none⟩) 2 2)]).heap.size=w13.heap.size+1+1:=by rw [eD,World.size_alloc,World.size_alloc]
    have hbel:Below w.heap.size w (sets ((w13.alloc (.cells #[.int .i64 kk] 2)).alloc (.cells #[.bool true,.bool false,.slice (some ad) n cz,.slice none 0 0,.slice none 0 0,.bool true,.bool false,.slice (some (ad.add (n*2))) (zs.length - n) (cz - n),.slice none 0 0,.slice none 0 0] 30)) b9 [(0,.bool false),(1,.bool false),(2,.slice none 0 0),(3,.slice (some ⟨w13.heap.size,0,none⟩) 1 1),(4,.slice (some ⟨w13.heap.size+1,0,none⟩) 2 2)]):=mG (aU B13.out B13.out.size hbw) HB9.out _
    have hZ:=Kd.eZ (Kd.iQ HZ13.out hbw) (W1:=sets ((w13.alloc (.cells #[.int .i64 kk] 2)).alloc (.cells #[.bool true,.bool false,.slice (some ad) n cz,.slice none 0 0,.slice none 0 0,.bool true,.bool false,.slice (some (ad.add (n*2))) (zs.length - n) (cz - n),.slice none 0 0,.slice none 0 0] 30)) b9 [(0,.bool false),(1,.bool false),(2,.slice none 0 0),(3,.slice (some ⟨w13.heap.size,0,none⟩) 1 1),(4,.slice (some ⟨w13.heap.size+1,0,none⟩) 2 2)]) (fun k hk _=>hfar k (by have:=hk.2;omega))
    have hK2:=(hfar w13.heap.size (by have:=HLT9.out;omega)).trans hK
    have hR2:=(hfar (w13.heap.size+1) (by have:=HLT9.out;omega)).trans hR
    have hlt:(zs.take n).length=n:=by rw [List.length_take];have:=HN1.out;omega
    have hld:(zs.drop n).length=zs.length - n:=List.length_drop
    have hcn:cz≠n:=by have h1:=HZC.out;have h2:=HN1.out.2.2;omega
    have fX:=pQ _ _ (dS (zs.take n)) (c2:=cz) (by show (zs.take n).length≤cz;have:=HZC.out;have:=HN1.out;omega) (NI hZ HN1.out.1) (Nat.le_refl _) (Kd.jv _ _ _) (Nat.le_refl _) (Kd.jv _ _ _)
    have fD:=NZ hZ HN1.out.1 HZC.out
    rw [if_neg hcn] at fD
    have fY:=pQ _ _ (dS (zs.drop n)) (c2:=cz - n) (by show (zs.drop n).length≤cz - n;have:=HZC.out;omega) fD (Nat.le_refl _) (Kd.jv _ _ _) (Nat.le_refl _) (Kd.jv _ _ _)
    have eX:([.bool (dS (zs.take n)).f0,.bool (dS (zs.take n)).f1,.slice (some ad) (dS (zs.take n)).f2.length cz,.slice none (dS (zs.take n)).f3.length ([]:List Int).length,.slice none (dS (zs.take n)).f4.length ([]:List Sh).length]:List Value)= [.bool true,.bool false,.slice (some ad) n cz,.slice none 0 0,.slice none 0 0]:=by
     show ([.bool true,.bool false,.slice (some ad) (zs.take n).length cz,.slice none 0 0,.slice none 0 0]:List Value)=_
     rw [hlt]
    have eY:([.bool (dS (zs.drop n)).f0,.bool (dS (zs.drop n)).f1,.slice (some (ad.add (n*2))) (dS (zs.drop n)).f2.length (cz - n),.slice none (dS (zs.drop n)).f3.length ([]:List Int).length,.slice none (dS (zs.drop n)).f4.length ([]:List Sh).length]:List Value)= [.bool true,.bool false,.slice (some (ad.add (n*2))) (zs.length - n) (cz - n),.slice none 0 0,.slice none 0 0]:=by
     show ([.bool true,.bool false,.slice (some (ad.add (n*2))) (zs.drop n).length (cz - n),.slice none 0 0,.slice none 0 0]:List Value)=_
     rw [hld]
    have fX2:=Eq.mp (congrArg (fun l=>kSh.FK _ _ (dS (zs.take n)) l) eX) fX
    have fY2:=Eq.mp (congrArg (fun l=>kSh.FK _ _ (dS (zs.drop n)) l) eY) fY
    clear fX fY fD eX eY
    have hR3:(sets ((w13.alloc (.cells #[.int .i64 kk] 2)).alloc (.cells #[.bool true,.bool false,.slice (some ad) n cz,.slice none 0 0,.slice none 0 0,.bool true,.bool false,.slice (some (ad.add (n*2))) (zs.length - n) (cz - n),.slice none 0 0,.slice none 0 0] 30)) b9 [(0,.bool false),(1,.bool false),(2,.slice none 0 0),(3,.slice (some ⟨w13.heap.size,0,none⟩) 1 1),(4,.slice (some ⟨w13.heap.size+1,0,none⟩) 2 2)]).heap[w13.heap.size+1]?=some (.cells (([.bool true,.bool false,.slice (some ad) n cz,.slice none 0 0,.slice none 0 0]:List Value)++([.bool true,.bool false,.slice (some (ad.add (n*2))) (zs.length - n) (cz - n),.slice none 0 0,.slice none 0 0]:List Value)).toArray 30 (0,0)):=hR2
    have f2:=QX hR3 fX2 fY2
    have f1:=NU (d:=Kd.int .i64) (p:=kk) (cs:= [.int .i64 kk]) (ok:=fun _=>False) hK2 (fun W _=>rfl)
    have hnS: ∀ k,w13.heap.size≤k→ ¬ okS k:=fun k hk h=>by have:=W13.out.lt k h;omega
    refine ⟨by rw [HT.out.2];rfl,⟨?_⟩⟩
    change RX w okS okA okR okE p pA pR pE b9 t X5 (sets ((w13.alloc (.cells #[.int .i64 kk] 2)).alloc (.cells #[.bool true,.bool false,.slice (some ad) n cz,.slice none 0 0,.slice none 0 0,.bool true,.bool false,.slice (some (ad.add (n*2))) (zs.length - n) (cz - n),.slice none 0 0,.slice none 0 0] 30)) b9 [(0,.bool false),(1,.bool false),(2,.slice none 0 0),(3,.slice (some ⟨w13.heap.size,0,none⟩) 1 1),(4,.slice (some ⟨w13.heap.size+1,0,none⟩) 2 2)])
    generalize sets ((w13.alloc (.cells #[.int .i64 kk] 2)).alloc (.cells #[.bool true,.bool false,.slice (some ad) n cz,.slice none 0 0,.slice none 0 0,.bool true,.bool false,.slice (some (ad.add (n*2))) (zs.length - n) (cz - n),.slice none 0 0,.slice none 0 0] 30)) b9 [(0,.bool false),(1,.bool false),(2,.slice none 0 0),(3,.slice (some ⟨w13.heap.size,0,none⟩) 1 1),(4,.slice (some ⟨w13.heap.size+1,0,none⟩) 2 2)]=W9 at *
    refine ⟨?_,?_,?_⟩
    ·exact W13.out.step (by rw [hsz];omega) (fun q hq hlt=>(hfar q (fun e=>Y13.out.2 (e▸hq))).trans (hbw.block q hlt))
    ·rw [HTN.out]
     refine ⟨none,0,some ⟨w13.heap.size,0,none⟩,1,some ⟨w13.heap.size+1,0,none⟩,2,Y14,?_⟩
     exact pQ _ _ ⟨false,false,[],[kk],[dS (zs.take n),dS (zs.drop n)]⟩ (Nat.le_refl _) (Kd.jv _ _ _) (Nat.le_refl _) (Kd.bP f1 (fun k hk=>hk.elim (fun e=>e▸hnS _ (Nat.le_refl _)) (fun h=>h.elim))) (Nat.le_refl _) (Kd.bP f2 (fun k hk=>hk.elim (fun e=>e▸hnS _ (Nat.le_succ _)) (fun h=>h.1)))
    ·exact hbel
 case rest=>
  obtain ⟨rfl,HSP⟩:=hcut
  obtain ⟨A2,c2,A3,c3,A4,c4,hY,hK⟩:=HSP.out.out
  have W8:=Am_ HSP.out.W
  have B8:=Am_ HSP.out.B
  have Y8:=Am_ hY
  have K8:=Am_ hK
  clear hY hK HSP
  clear Y11 B11 W11 HZ11 HZC HB9 y0 y1 y2 y3 y4
  go_upto_region 16 with fail
  have HC:=Am_ (show wc.cell? ⟨b9,0,none⟩=some (.bool t.f0)∧wc.cell? ⟨b9,1,none⟩=some (.bool t.f1)∧wc.cell? ⟨b9,2,none⟩=some (.slice A2 t.f2.length c2)∧wc.cell? ⟨b9,3,none⟩=some (.slice A3 t.f3.length c3)∧wc.cell? ⟨b9,4,none⟩=some (.slice A4 t.f4.length c4)∧wc.cell? ⟨p,0,none⟩=some (.pointer (some ⟨pA,0,none⟩))∧wc.cell? ⟨p,2,none⟩=some (.pointer (some ⟨pE,0,none⟩)) from ⟨(af (Y8.out.1) 0).trans rfl,(af (Y8.out.1) 1).trans rfl,(af (Y8.out.1) 2).trans rfl,(af (Y8.out.1) 3).trans rfl,(af (Y8.out.1) 4).trans rfl,(af (W8.out.box) 0).trans rfl,(af (W8.out.box) 2).trans rfl⟩)
  refine bK (n:=23) (S:=fun w'=>w'.cell? ⟨b9,0,none⟩=some (.bool t.f0)∧w'.cell? ⟨b9,1,none⟩=some (.bool t.f1)∧w'.cell? ⟨b9,2,none⟩=some (.slice A2 t.f2.length c2)∧w'.cell? ⟨b9,3,none⟩=some (.slice A3 t.f3.length c3)∧w'.cell? ⟨b9,4,none⟩=some (.slice A4 t.f4.length c4)∧w'.cell? ⟨p,0,none⟩=some (.pointer (some ⟨pA,0,none⟩))∧w'.cell? ⟨p,2,none⟩=some (.pointer (some ⟨pE,0,none⟩))) (ds:= []) (by kernel_rfl) rfl zm xL HC.out (fun hHeld HT_ HW_=>?_)
  have hbd:Below wc.heap.size wc wc.drew:=cZ (Below.refl _ _)
  have W9:=Am_ (W8.out.step hbd.size (fun q _ hlt=>hbd.block q hlt))
  have B9:=Am_ (aU B8.out B8.out.size hbd)
  have Y9:=Am_ (Y8.out.moves (Moves.bV _ hbd))
  have K9:=Am_ (mI K8.out (Moves.bV okS hbd))
  clear hbd W8 B8 Y8 K8
  clear HC
  generalize wc.drew=w9 at W9 B9 Y9 K9 hHeld ⊢
  refine gy [(0,some 72),(2,some 74)] ?_
  (refine gG (v:=?_) (a':=?_) HT_ (by kernel_rfl) rfl rfl (fun _ _ _ h=>h) (Or.inl ⟨by rfl,?_⟩) ?_ ?_;rotate_left;(intro w';go_simp;with_reducible rfl);rotate_left;(simp only [Act.put,p1_,p2_,p3_,aG,aH];rfl))
  (refine jW (v:=?_) (a':=?_) HT_ HW_ (by kernel_rfl) rfl rfl (fun _ _ _ h=>h) hHeld (Or.inl ⟨by rfl,?_⟩) ?_ ?_;rotate_left;(rintro w' ⟨s0,s1,s2,s3,s4,s5,s6⟩;go_simp;with_reducible rfl);rotate_left;(simp only [Act.put,p1_,p2_,p3_,aG,aH];rfl))
  refine bG ?_
  refine dI (i:=1) (some 73) HT_ (by kernel_rfl) rfl rfl (by decide) (fun K_ hK=>?_)
  refine call_ 19 #[.pointer (some ⟨p,0,none⟩)] (by rfl) rfl ?hrun1 ?_
  (case hrun1=>first | (go_simp;done) | (go_simp;exact enters Tryz.func19 (by kernel_rfl) rfl _ _))
  refine (rU _ W9.out HG.out).mono ?_
  rintro e w12 hE
  obtain ⟨ok4,okA4,hw4,hm4⟩:=hE.out
  obtain ⟨cs,rfl,hfk⟩:=hE.val
  rw [HF.out.read] at hfk hw4
  have W12:=Am_ hw4
  have B12:=Am_ (iW hm4 B9.out HOS.out)
  have Y12:=Am_ (Y9.out.moves hm4)
  have K12:=Am_ (mI K9.out hm4)
  obtain ⟨B2,d2,B3,d3,B4,d4,rfl,l2,F2,l3,F3,l4,F4⟩:=jb hfk
  have G2:=Am_ (And.intro l2 (And.intro (Kd.fM F2) (And.intro l3 (And.intro (Kd.fM F3) (And.intro l4 (Kd.fM F4))))))
  clear hE hw4 hm4 hfk l2 F2 l3 F3 l4 F4 W9 B9 Y9 K9 HOS
  generalize hokS:okS=okS0
  clear hokS
  generalize ok4=okS at W12 Y12 K12
  refine ⟨_,rfl,?_⟩
  refine hK.out _ _ ⟨(af (Y12.out.1) 0).trans rfl,(af (Y12.out.1) 1).trans rfl,(af (Y12.out.1) 2).trans rfl,(af (Y12.out.1) 3).trans rfl,(af (Y12.out.1) 4).trans rfl,(af (W12.out.box) 0).trans rfl,(af (W12.out.box) 2).trans rfl⟩ (fun hHeld=>?_)
  clear hK K_
  refine cK (a':=?_) ?_ ?_
  rotate_left; · show Act.put _ (some 73) _=_;simp only [Act.put,p1_,p2_,p3_,aG,aH];rfl
  refine dI (i:=3) (some 75) HT_ (by kernel_rfl) rfl rfl (by decide) (fun K_ hK=>?_)
  refine call_ 18 #[.agg #[.bool t.f0,.bool t.f1,.slice B2 t.f2.length d2,.slice B3 t.f3.length d3,.slice B4 t.f4.length d4],.agg #[.bool t.f0,.bool t.f1,.slice A2 t.f2.length c2,.slice A3 t.f3.length c3,.slice A4 t.f4.length c4]] (by rfl) rfl ?hrun3 ?_
  (case hrun3=>first | (go_simp;done) | (go_simp;exact enters Tryz.func18 (by kernel_rfl) rfl _ _))
  refine (aj.calls k2 t.f0 t.f1 B2 d2 t.f2 B3 d3 t.f3 B4 d4 t.f4 t.f0 t.f1 A2 c2 t.f2 A3 c3 t.f3 A4 c4 t.f4 true _ G2.out.2.1 G2.out.1 G2.out.2.2.2.1 G2.out.2.2.1 G2.out.2.2.2.2.2 G2.out.2.2.2.2.1 (KO K12.out).2.1 (KO K12.out).1 (KO K12.out).2.2.2.1 (KO K12.out).2.2.1 (KO K12.out).2.2.2.2.2 (KO K12.out).2.2.2.2.1 HF.out.same).mono ?_
  rintro e w13 ⟨rfl,hb⟩
  have W13:=Am_ (W12.out.step hb.size (fun q _ hlt=>hb.block q hlt))
  have B13:=Am_ (aU B12.out B12.out.size hb)
  have Y13:=Am_ (Y12.out.moves (Moves.bV _ hb))
  have K13:=Am_ (mI K12.out (Moves.bV okS hb))
  clear hb W12 B12 Y12 K12
  clear G2
  refine ⟨_,rfl,?_⟩
  refine hK.out _ _ ⟨(af (Y13.out.1) 0).trans rfl,(af (Y13.out.1) 1).trans rfl,(af (Y13.out.1) 2).trans rfl,(af (Y13.out.1) 3).trans rfl,(af (Y13.out.1) 4).trans rfl,(af (W13.out.box) 0).trans rfl,(af (W13.out.box) 2).trans rfl⟩ (fun hHeld=>?_)
  clear hK K_
  refine cK (a':=?_) ?_ ?_
  rotate_left; · show Act.put _ (some 75) _=_;simp only [Act.put,p1_,p2_,p3_,aG,aH];rfl
  refine gy [(4,some 76),(5,some 77),(6,some 78),(7,some 79),(10,some 82),(11,some 83),(8,some 80)] ?_
  iterate 6 (refine gG (v:=?_) (a':=?_) HT_ (by kernel_rfl) rfl rfl (fun _ _ _ h=>h) (Or.inl ⟨by rfl,?_⟩) ?_ ?_;rotate_left;(intro w';go_simp;with_reducible rfl);rotate_left;(simp only [Act.put,p1_,p2_,p3_,aG,aH];rfl))
  (refine jW (v:=?_) (a':=?_) HT_ HW_ (by kernel_rfl) rfl rfl (fun _ _ _ h=>h) hHeld (Or.inl ⟨by rfl,?_⟩) ?_ ?_;rotate_left;(rintro w' ⟨s0,s1,s2,s3,s4,s5,s6⟩;go_simp;with_reducible rfl);rotate_left;(simp only [Act.put,p1_,p2_,p3_,aG,aH];rfl))
  refine bG ?_
  refine dI (i:=9) (some 81) HT_ (by kernel_rfl) rfl rfl (by decide) (fun K_ hK=>?_)
  refine call_ 20 #[.pointer (some ⟨pA,0,none⟩)] (by rfl) rfl ?hrun9 ?_
  (case hrun9=>first | (go_simp;done) | (go_simp;exact enters Tryz.func20 (by kernel_rfl) rfl _ _))
  refine (NC _ W13.out.ar).mono ?_
  rintro e w14 ⟨rfl,rfl⟩
  rw [show Ws.ar { X5 with ar:=X5.ar }=X5.ar from rfl,HF.out.used]
  refine ⟨_,rfl,?_⟩
  refine hK.out _ _ ⟨(af (Y13.out.1) 0).trans rfl,(af (Y13.out.1) 1).trans rfl,(af (Y13.out.1) 2).trans rfl,(af (Y13.out.1) 3).trans rfl,(af (Y13.out.1) 4).trans rfl,(af (W13.out.box) 0).trans rfl,(af (W13.out.box) 2).trans rfl⟩ (fun hHeld=>?_)
  clear hK K_
  refine cK (a':=?_) ?_ ?_
  rotate_left; · show Act.put _ (some 81) _=_;simp only [Act.put,p1_,p2_,p3_,aG,aH];rfl
  refine gy [(12,some 84),(13,some 85),(14,some 86),(15,some 87),(16,some 88),(17,some 89),(18,some 90)] ?_
  iterate 6 (refine gG (v:=?_) (a':=?_) HT_ (by kernel_rfl) rfl rfl (fun _ _ _ h=>h) (Or.inl ⟨by rfl,?_⟩) ?_ ?_;rotate_left;(intro w';go_simp;with_reducible rfl);rotate_left;(simp only [Act.put,p1_,p2_,p3_,aG,aH];rfl))
  (refine jW (v:=?_) (a':=?_) HT_ HW_ (by kernel_rfl) rfl rfl (fun _ _ _ h=>h) hHeld (Or.inl ⟨by rfl,?_⟩) ?_ ?_;rotate_left;(rintro w' ⟨s0,s1,s2,s3,s4,s5,s6⟩;go_simp;with_reducible rfl);rotate_left;(simp only [Act.put,p1_,p2_,p3_,aG,aH];rfl))
  refine bG ?_
  refine dI (i:=19) (some 91) HT_ (by kernel_rfl) rfl rfl (by decide) (fun K_ hK=>?_)
  refine call_ 21 #[.pointer (some ⟨pE,0,none⟩)] (by rfl) rfl ?hrun19 ?_
  (case hrun19=>first | (go_simp;done) | (go_simp;exact enters Tryz.func21 (by kernel_rfl) rfl _ _))
  refine (IY _ W13.out.ep (by show xS X5.ep.limbo<_;rw [HF.out.limbo];decide) HF.out.rows).mono ?_
  rintro e w15 ⟨rfl,rfl⟩
  rw [show ((xS (Ws.ep { X5 with ar:=X5.ar }).limbo:Nat):Int)=1 from by rw [show xS (Ws.ep { X5 with ar:=X5.ar }).limbo=xS X5.ep.limbo from rfl,HF.out.limbo];rfl]
  refine ⟨_,rfl,?_⟩
  refine hK.out _ _ ⟨(af (Y13.out.1) 0).trans rfl,(af (Y13.out.1) 1).trans rfl,(af (Y13.out.1) 2).trans rfl,(af (Y13.out.1) 3).trans rfl,(af (Y13.out.1) 4).trans rfl,(af (W13.out.box) 0).trans rfl,(af (W13.out.box) 2).trans rfl⟩ (fun hHeld=>?_)
  clear hK K_
  refine cK (a':=?_) ?_ ?_
  rotate_left; · show Act.put _ (some 91) _=_;simp only [Act.put,p1_,p2_,p3_,aG,aH];rfl
  refine gy [(20,some 92),(21,some 93),(22,some 8)] ?_
  iterate 3 (refine gG (v:=?_) (a':=?_) HT_ (by kernel_rfl) rfl rfl (fun _ _ _ h=>h) (Or.inl ⟨by rfl,?_⟩) ?_ ?_;rotate_left;(intro w';go_simp;with_reducible rfl);rotate_left;(simp only [Act.put,p1_,p2_,p3_,aG,aH];rfl))
  refine bG ?_
  refine dR (bM HT_.out (by kernel_rfl)) ?_
  go_wp2_with fail
  go_ret
  exact ⟨rfl,B13.out⟩
def rY:Int:=1099511627777
def gQ:Int:=1099511627778
structure wD (sl:List Sl) (r:Int) (q:Sl):Prop where
 out: ∃ j:Nat,bO r=(j:Int)∧sl[j]?=some q∧q.used=true∧iZ j q.count=r
theorem wD.idx {a:Ar} {r:Int} {q:Sl} (h:wD a.slots r q): ∃ j,a.idx r=some j∧a.slots[j]?=some q∧bO r=(j:Int):=by
 obtain ⟨j,h1,h2,h3,h4⟩:=h.out
 refine ⟨j,?_,h2,h1⟩
 unfold Ar.idx
 rw [h1,if_neg (by omega),Int.toNat_natCast,h2]
 simp only
 rw [if_pos h3,if_pos h4]
theorem wD.look {a:Ar} {r:Int} {q:Sl} (h:wD a.slots r q):a.look r=(q.node,a):=by
 obtain ⟨j,h1,h2,_⟩:=h.idx
 unfold Ar.look
 rw [h1]
 simp only
 rw [h2]
theorem wD.way {a:Ar} {r:Int} {q:Sl} (h:wD a.slots r q) (i:Nat) (hi:i<q.ways.length):a.way r (i:Int)=(q.ways.getD i 0,a):=by
 obtain ⟨j,h1,h2,_⟩:=h.idx
 unfold Ar.way
 rw [h1]
 simp only
 rw [h2]
 simp only
 rw [if_neg (by omega),if_neg (by omega),Int.toNat_natCast]
theorem Po (l:List Pr2):Cf (fK l)=l:=by
 unfold Cf fK
 rw [List.map_map]
 exact List.map_id'' (fun q=>rfl) l
theorem KS (s:Sh) (ws:List Int):shN (qA s ws) s.f4=s:=by
 cases s with
 | mk l t ps ks kids=>
  unfold shN qA
  simp [Po]
theorem sJ (keys:List Int) (m:Nat) (key:Int) (hm:0<m): ∃ i:Nat,ru keys m key=(i:Int)∧i<m:=by
 have h0:0≤ru keys m key:=by
  unfold ru
  split<;>omega
 have h1:ru keys m key≤(m:Int) - 1:=by
  unfold ru
  omega
 exact ⟨(ru keys m key).toNat,by omega,by omega⟩
theorem uq (n:Nd) (a:Ar) (h:a.free= []) (hu:a.used=(a.slots.length:Int)) (hl:a.slots.length≤1000) (hm:(a.slots.length:Int)<a.most):
  a.alloc n=some ((iZ (a.slots.length:Int) 1,true),{ a with slots:=a.slots++ [fe n 1],used:=a.used+1 }):=by
 unfold Ar.alloc
 rw [if_neg (by omega)]
 have ht:a.take=some (a.slots.length,{ a with slots:=a.slots++ [sl0] }):=by unfold Ar.take;rw [h]
 rw [ht]
 simp only
 rw [List.getElem?_append_right (Nat.le_refl _),Nat.sub_self]
 simp only [List.getElem?_cons_zero]
 have hw:wrap64 (a.used+1)=a.used+1:=by unfold wrap64;omega
 unfold Ar.put
 simp only [show CS (sl0.count+1)=1 from rfl,hw]
 rw [List.set_append_right _ _ (Nat.le_refl _),Nat.sub_self]
 rfl
def slA:Sl:=fe nd0 1
def slB:Sl:=fe (ndE rY) 1
theorem RG:iZ 0 1=rY:=by kernel_rfl
theorem RU:iZ 1 1=gQ:=by kernel_rfl
theorem Lh:bO rY=0:=by kernel_rfl
theorem KN:bO gQ=1:=by kernel_rfl
theorem MQ (lo wd nodes recs:Int) (th:Nat) (hn:2≤nodes):ws0 lo wd th nodes recs=some ⟨⟨[slA,slB],[],nodes,2,0⟩,⟨[],recs⟩,⟨0,List.replicate th (-1),List.replicate th []⟩,lo,wd,gQ⟩:=by
 unfold ws0
 rw [uq nd0 (ar0 nodes) rfl rfl (by show (0:Nat)≤1000;omega) (by show (0:Int)<nodes;omega)]
 simp only
 rw [uq _ _ rfl rfl (by show (1:Nat)≤1000;omega) (by show (1:Int)<nodes;omega)]
 simp only
 rw [show iZ (((ar0 nodes).slots.length:Nat):Int) 1=rY from RG]
 rw [show iZ ((((ar0 nodes).slots++ [fe nd0 1]).length:Nat):Int) 1=gQ from RU]
 rfl
theorem Qc (l:List Sl) (q:Sl) (r:List Sl) (h:l=q::r) (hu:q.used=true) (hc:q.count=1):wD l rY q:=⟨⟨0,Lh,by rw [h];rfl,hu,by rw [hc];exact RG⟩⟩
theorem Pw (l:List Sl) (p q:Sl) (r:List Sl) (h:l=p::q::r) (hu:q.used=true) (hc:q.count=1):wD l gQ q:=⟨⟨1,KN,by rw [h];rfl,hu,by rw [hc];exact RU⟩⟩
section
theorem vL (x:Int):bits .and .i64 x 1099511627775=x % 1099511627776:=by
 show IntKind.i64.wrap ((BitVec.ofInt 64 x &&& BitVec.ofInt 64 1099511627775).toNat:Int)=_
 have h:(BitVec.ofInt 64 1099511627775).toNat=2 ^ 40 - 1:=by decide
 rw [BitVec.toNat_and,h,Nat.and_two_pow_sub_one_eq_mod,BitVec.toNat_ofInt,IntKind.wrap_i64]
 omega
theorem CG (x:Int):bits .and .u32 x 8388607=x % 8388608:=by
 show IntKind.u32.wrap ((BitVec.ofInt 32 x &&& BitVec.ofInt 32 8388607).toNat:Int)=_
 have h:(BitVec.ofInt 32 8388607).toNat=2 ^ 23 - 1:=by decide
 rw [BitVec.toNat_and,h,Nat.and_two_pow_sub_one_eq_mod,BitVec.toNat_ofInt,IntKind.wrap_u32]
 omega
theorem AB (n:Int) (h₀:0≤n) (h₁:n<2 ^ 63):IntKind.i64.wrap n=n:=by rw [IntKind.wrap_i64];omega
theorem Jd (p c:Int):iZ p c=(c % 8388608)*1099511627776+(p+1) % 1099511627776:=by
 unfold iZ
 rw [CG,vL]
 have e1:wrap64 (c % 8388608)=c % 8388608:=by unfold wrap64;omega
 have e2:wrap64 (c % 8388608*1099511627776)=c % 8388608*1099511627776:=by unfold wrap64;omega
 have e3:wrap64 (p+1) % 1099511627776=(p+1) % 1099511627776:=by unfold wrap64;omega
 rw [e1,e2,e3]
 exact bits_join .i64 63 (by decide) AB 40 _ _ (by omega) (by omega) (by omega) (by omega) (by omega) (by omega)
theorem pY (r:Int):bO r=r % 1099511627776 - 1:=by
 unfold bO
 rw [vL]
 unfold wrap64
 omega
theorem yw (i:Nat) (c:Int) (hi:i<1000000):bO (iZ (i:Int) c)=(i:Int):=by
 rw [pY,Jd]
 omega
theorem Qg (i:Nat) (c:Int) (hi:i<1000000):iZ (i:Int) c≠0:=fun h=>by
 have:=yw i c hi
 rw [h,pY] at this
 omega
end
def Ar.get (a:Ar) (r:Int):Option Sl:=match a.idx r with
 | none=>none
 | some j=>a.slots[j]?
theorem kC {a:Ar} {r:Int} {q:Sl}:a.get r=some q↔wD a.slots r q:=by
 constructor
 ·intro h
  unfold Ar.get at h
  cases hx:a.idx r with
  | none=>rw [hx] at h;cases h
  | some j=>
   rw [hx] at h
   obtain ⟨h1,s,h2,h3,h4⟩:=Ar.fQ hx
   have h:a.slots[j]?=some q:=h
   rw [h2] at h
   injection h with h
   subst h
   exact ⟨j,h1,h2,h3,h4⟩
 ·intro h
  obtain ⟨j,h1,h2,_⟩:=h.idx
  unfold Ar.get
  rw [h1]
  exact h2
def Ar.mod (a:Ar) (r:Int) (g:Sl→Sl):Ar:=match a.idx r with
 | none=>a
 | some j=>match a.slots[j]? with
  | none=>a
  | some s=> { a with slots:=a.slots.set j (g s) }
section
variable {a:Ar} {r:Int} {q:Sl}
theorem qD (h:a.get r=some q): ∃ j,a.idx r=some j∧a.slots[j]?=some q∧bO r=(j:Int)∧q.used=true∧iZ j q.count=r:=by
 obtain ⟨j,h1,h2,h3,h4⟩:=(kC.1 h).out
 obtain ⟨j2,e1,e2,e3⟩:=(kC.1 h).idx
 have:j2=j:=by omega
 subst this
 exact ⟨j2,e1,h2,h1,h3,h4⟩
theorem Pt (h:a.get r=some q):r≠0:=fun e=>by
 obtain ⟨j,_,_,h3,_⟩:=qD h
 rw [e,pY] at h3
 omega
theorem mod_eq (g:Sl→Sl) (h:a.get r=some q): ∃ j,a.idx r=some j∧a.slots[j]?=some q∧a.mod r g= { a with slots:=a.slots.set j (g q) }:=by
 obtain ⟨j,h1,h2,_⟩:=qD h
 refine ⟨j,h1,h2,?_⟩
 unfold Ar.mod
 rw [h1]
 simp only
 rw [h2]
theorem MN {j:Nat} {s t:Sl} (hj:a.slots[j]?=some s) (hu:t.used=s.used) (hc:t.count=s.count) (r1:Int):({ a with slots:=a.slots.set j t }:Ar).idx r1=a.idx r1:=by
 unfold Ar.idx
 by_cases hn:bO r1<0
 ·rw [if_pos hn,if_pos hn]
 ·rw [if_neg hn,if_neg hn]
  simp only
  by_cases hp:j=(bO r1).toNat
  ·subst hp
   rw [List.getElem?_set_self (List.getElem?_eq_some_iff.1 hj).1,hj]
   simp only [hu,hc]
  ·rw [List.getElem?_set_ne hp]
theorem Nu (g:Sl→Sl) (hg: ∀ s,(g s).used=s.used∧(g s).count=s.count) (h:a.get r=some q) (r1:Int):(a.mod r g).get r1=if r1=r then some (g q) else a.get r1:=by
 obtain ⟨j,h1,h2,h3⟩:=mod_eq g h
 rw [h3]
 unfold Ar.get
 rw [MN h2 (hg q).1 (hg q).2]
 by_cases hr:r1=r
 ·subst hr
  rw [if_pos rfl,h1]
  simp only
  exact List.getElem?_set_self (List.getElem?_eq_some_iff.1 h2).1
 ·rw [if_neg hr]
  cases hx:a.idx r1 with
  | none=>rfl
  | some i=>
   simp only
   rw [List.getElem?_set_ne]
   rintro rfl
   obtain ⟨_,s1,e1,_,e2⟩:=Ar.fQ h1
   obtain ⟨_,s2,f1,_,f2⟩:=Ar.fQ hx
   rw [e1] at f1
   injection f1 with f1
   subst f1
   exact hr (f2.symm.trans e2)
theorem wz (h:a.get r=some q):a.look r=(q.node,a):=(kC.1 h).look
theorem vQ (h:a.get r=some q) (i:Nat) (hi:i<q.ways.length):a.way r (i:Int)=(q.ways.getD i 0,a):=(kC.1 h).way i hi
theorem JR (h:a.get r=some q):a.info r=(q.info,a):=by
 obtain ⟨j,h1,h2,_⟩:=qD h
 unfold Ar.info
 rw [h1]
 simp only
 rw [h2]
theorem Kj (h:a.get r=some q):a.mark r=(q.mark,a):=by
 obtain ⟨j,h1,h2,_⟩:=qD h
 unfold Ar.mark
 rw [h1]
 simp only
 rw [h2]
theorem yX (h:a.get r=some q) (now:Int):a.fu r q.info now=(true,a.mod r fun s=> { s with info:=now }):=by
 obtain ⟨j,h1,h2,h3⟩:=mod_eq (fun s=> { s with info:=now }) h
 rw [h3]
 unfold Ar.fu
 rw [h1]
 simp only
 rw [h2]
 simp only
 rw [if_pos trivial]
theorem zQ (h:a.get r=some q):a.jg r=a.mod r fun s=> { s with mark:=true }:=by
 obtain ⟨j,h1,h2,h3⟩:=mod_eq (fun s=> { s with mark:=true }) h
 rw [h3]
 unfold Ar.jg
 rw [h1]
 simp only
 rw [h2]
theorem sV (h:a.get r=some q) (i:Nat) (hi:i<q.ways.length) (now:Int):a.gL r (i:Int) (q.ways.getD i 0) now=(true,a.mod r fun s=> { s with ways:=s.ways.set i now }):=by
 obtain ⟨j,h1,h2,h3⟩:=mod_eq (fun s=> { s with ways:=s.ways.set i now }) h
 rw [h3]
 unfold Ar.gL
 rw [h1]
 simp only
 rw [h2]
 simp only
 rw [if_neg (by omega),if_neg (by omega),Int.toNat_natCast,if_pos rfl]
end
structure Ar.pF (a:Ar):Prop where
 good:a.Good
 nodup:a.free.Nodup
 free: ∀ f∈a.free,∃ (j:Nat) (s:Sl),f=(j:Int)∧a.slots[j]?=some s∧s.used=false
theorem Ar.pF.len {a:Ar} (h:a.pF):a.slots.length≤65536:=by have:=h.good.most;have:=h.good.slots;omega
theorem Ar.pF.mod {a:Ar} (h:a.pF) {r:Int} {q:Sl} (hq:a.get r=some q) (g:Sl→Sl) (hg: ∀ s,(g s).used=s.used∧(g s).node=s.node∧(g s).ways.length=s.ways.length):(a.mod r g).pF:=by
 obtain ⟨j,h1,h2,h3⟩:=mod_eq g hq
 rw [h3]
 obtain ⟨hj,hjs⟩:=List.getElem?_eq_some_iff.1 h2
 refine ⟨⟨h.good.most,?_,?_,?_,?_⟩,h.nodup,?_⟩
 ·simp only [List.length_set];exact h.good.slots
 ·simp only [List.length_set];exact h.good.used
 ·have e:(a.slots.set j (g q)).countP (fun s=>s.used)=a.slots.countP (fun s=>s.used):=by
   rw [List.countP_set hj,hjs,(hg q).1]
   have:0<a.slots.countP (fun s=>s.used)∨q.used=false:=by
    cases hqu:q.used with
    | false=>exact .inr rfl
    | true=>exact .inl (List.countP_pos_iff.2 ⟨q,List.mem_of_getElem? h2,hqu⟩)
   split<;>rename_i hh
   ·rcases this with ht | ht
    ·omega
    ·rw [ht] at hh;cases hh
   ·omega
  rw [e]
  exact h.good.cnt
 ·intro i s hi
  by_cases hij:j=i
  ·subst hij
   rw [List.getElem?_set_self hj] at hi
   injection hi with hi
   subst hi
   rw [(hg q).2.1,(hg q).2.2]
   exact h.good.small j q h2
  ·rw [List.getElem?_set_ne hij] at hi
   exact h.good.small i s hi
 ·intro f hf
  obtain ⟨i,s,e1,e2,e3⟩:=h.free f hf
  refine ⟨i,s,e1,?_,e3⟩
  rw [List.getElem?_set_ne,e2]
  rintro rfl
  rw [h2] at e2
  injection e2 with e2
  subst e2
  obtain ⟨_,s1,e1,e4,_⟩:=Ar.fQ h1
  rw [h2] at e1
  injection e1 with e1
  subst e1
  rw [e3] at e4
  cases e4
structure Ar.More (a:Ar) (n:Nd) (r:Int) (a1:Ar):Prop where
 alloc:a.alloc n=some ((r,true),a1)
 ne:r≠0
 new:a.get r=none
 at_: ∃ c,a1.get r=some (fe n c)
 far: ∀ r1,r1≠r→a1.get r1=a.get r1
 fine:a1.pF
 used:a1.used=a.used+1
 most:a1.most=a.most
 faults:a1.faults=a.faults
theorem wh (a:Ar) (r:Int):a.get r=if bO r<0 then none else match a.slots[(bO r).toNat]? with
  | none=>none
  | some s=>if s.used=true then (if iZ (bO r) s.count=r then some s else none) else none:=by
 unfold Ar.get Ar.idx
 by_cases hn:bO r<0
 ·rw [if_pos hn,if_pos hn]
 ·rw [if_neg hn,if_neg hn]
  cases h:a.slots[(bO r).toNat]? with
  | none=>rfl
  | some s=>
   simp only
   by_cases hu:s.used=true
   ·rw [if_pos hu,if_pos hu]
    by_cases hc:iZ (bO r) s.count=r
    ·rw [if_pos hc,if_pos hc]
     exact h
    ·rw [if_neg hc,if_neg hc]
   ·rw [if_neg hu,if_neg hu]
theorem xD {a a1:Ar} {j:Nat} (h: ∀ i,i≠j→a1.slots[i]?=a.slots[i]?) (r:Int) (hr:bO r≠(j:Int)):a1.get r=a.get r:=by
 rw [wh,wh]
 by_cases hn:bO r<0
 ·rw [if_pos hn,if_pos hn]
 ·rw [if_neg hn,if_neg hn,h _ (by omega)]
theorem mQ {a:Ar} {j:Nat} (h:a.slots[j]?=none∨ ∃ s,a.slots[j]?=some s∧s.used=false) (r:Int) (hr:bO r=(j:Int)):a.get r=none:=by
 rw [wh,hr,if_neg (by omega),Int.toNat_natCast]
 rcases h with h | ⟨s,h,hu⟩
 ·rw [h]
 ·rw [h]
  simp only
  rw [if_neg (by rw [hu];simp)]
theorem wX {a:Ar} {j:Nat} {s:Sl} (h:a.slots[j]?=some s) (hu:s.used=true) (r:Int) (hr:bO r=(j:Int)):a.get r=if iZ (j:Int) s.count=r then some s else none:=by
 rw [wh,hr,if_neg (by omega),Int.toNat_natCast,h]
 simp only
 rw [if_pos hu]
theorem EG {a a1:Ar} (h:a.pF) {n:Nd} (hn:n.Small) {j:Nat} {c:Int} (hj:j<65536) (hal:a.alloc n=some ((iZ (j:Int) c,true),a1)) (h1: ∀ i,i≠j→a1.slots[i]?=a.slots[i]?) (h2:a1.slots[j]?=some (fe n c)) (h3:a.slots[j]?=none∨ ∃ s,a.slots[j]?=some s∧s.used=false) (hf:a1.pF) (hu:a1.used=a.used+1) (hm:a1.most=a.most) (hfa:a1.faults=a.faults):a.More n (iZ (j:Int) c) a1:=by
 have hp:=yw j c (by omega)
 refine ⟨hal,Qg j c (by omega),mQ h3 _ hp,⟨c,?_⟩,fun r1 hr=>?_,hf,hu,hm,hfa⟩
 ·rw [wX h2 rfl _ hp,if_pos (show iZ (j:Int) (fe n c).count=iZ (j:Int) c from rfl)]
 ·by_cases hpl:bO r1=(j:Int)
  ·rw [wX h2 rfl _ hpl,mQ h3 _ hpl,if_neg (fun e=>hr e.symm)]
  ·exact xD h1 r1 hpl
theorem kD {a:Ar} (h:a.pF) (hu:a.used<a.most) (n:Nd) (hn:n.Small): ∃ r a1,a.More n r a1:=by
 have hlen:=h.len
 have hus:=h.good.used
 have hmo:=h.good.most
 have hw:wrap64 (a.used+1)=a.used+1:=by
  have:=h.good.slots
  have:=h.good.cnt
  unfold wrap64
  omega
 cases hfr:a.free with
 | nil=>
  rw [hfr] at hus
  simp only [List.length_nil] at hus
  have hal:a.alloc n=some ((iZ (a.slots.length:Int) 1,true),{ a with slots:=a.slots++ [fe n 1],used:=a.used+1 }):=by
   unfold Ar.alloc
   rw [if_neg (by omega)]
   have ht:a.take=some (a.slots.length,{ a with slots:=a.slots++ [sl0] }):=by unfold Ar.take;rw [hfr]
   rw [ht]
   simp only
   rw [List.getElem?_append_right (Nat.le_refl _),Nat.sub_self]
   simp only [List.getElem?_cons_zero]
   unfold Ar.put
   simp only [show CS (sl0.count+1)=1 from rfl,hw]
   rw [List.set_append_right _ _ (Nat.le_refl _),Nat.sub_self]
   rfl
  refine ⟨_,_,EG h hn (j:=a.slots.length) (c:=1) (by omega) hal (fun i hi=>?_) ?_ (.inl (List.getElem?_eq_none_iff.2 (Nat.le_refl _))) ?_ rfl rfl rfl⟩
  ·simp only
   by_cases hl:i<a.slots.length
   ·rw [List.getElem?_append_left hl]
   ·rw [List.getElem?_eq_none_iff.2 (by rw [List.length_append,List.length_singleton];omega),List.getElem?_eq_none_iff.2 (by omega)]
  ·simp only
   rw [List.getElem?_append_right (Nat.le_refl _),Nat.sub_self]
   rfl
  ·refine ⟨⟨hmo,?_,?_,?_,?_⟩,?_,?_⟩
   ·simp only [List.length_append,List.length_singleton];omega
   ·simp only [List.length_append,List.length_singleton,hfr,List.length_nil];omega
   ·simp only
    rw [List.countP_append]
    have:=h.good.cnt
    have e: [fe n 1].countP (fun s=>s.used)=1:=rfl
    rw [e]
    omega
   ·intro i s hi
    simp only at hi
    by_cases hl:i<a.slots.length
    ·rw [List.getElem?_append_left hl] at hi
     exact h.good.small i s hi
    ·rw [List.getElem?_append_right (by omega)] at hi
     have:=(List.getElem?_eq_some_iff.1 hi).1
     have e:i - a.slots.length=0:=by simp at this;omega
     rw [e] at hi
     injection hi with hi
     subst hi
     exact ⟨hn,hn.ways⟩
   ·show a.free.Nodup
    exact h.nodup
   ·intro f hf
    exact absurd (show f∈a.free from hf) (by rw [hfr];simp)
 | cons f fs=>
  obtain ⟨j,s,e1,e2,e3⟩:=h.free f (by rw [hfr];exact List.mem_cons_self)
  subst e1
  have hjl:=(List.getElem?_eq_some_iff.1 e2).1
  rw [hfr] at hus
  rw [List.length_cons] at hus
  have hal:a.alloc n=some ((iZ (j:Int) (CS (s.count+1)),true),{ a with slots:=a.slots.set j (fe n (CS (s.count+1))),free:=fs,used:=a.used+1 }):=by
   unfold Ar.alloc
   rw [if_neg (by omega)]
   have ht:a.take=some (j,{ a with free:=fs }):=by
    unfold Ar.take
    rw [hfr]
    simp only
    rw [if_pos ⟨by omega,by rw [Int.toNat_natCast];exact hjl⟩,Int.toNat_natCast]
   rw [ht]
   simp only
   rw [e2]
   simp only
   unfold Ar.put
   simp only [hw]
  refine ⟨_,_,EG h hn (j:=j) (c:=CS (s.count+1)) (by omega) hal (fun i hi=>?_) ?_ (.inr ⟨s,e2,e3⟩) ?_ rfl rfl rfl⟩
  ·simp only
   rw [List.getElem?_set_ne (fun e=>hi e.symm)]
  ·simp only
   exact List.getElem?_set_self hjl
  ·have hnd:=h.nodup
   rw [hfr,List.nodup_cons] at hnd
   refine ⟨⟨hmo,?_,?_,?_,?_⟩,hnd.2,?_⟩
   ·simp only [List.length_set];exact h.good.slots
   ·simp only [List.length_set];omega
   ·have:=h.good.cnt
    have e:(a.slots.set j (fe n (CS (s.count+1)))).countP (fun s=>s.used)=a.slots.countP (fun s=>s.used)+1:=by
     rw [List.countP_set hjl,(List.getElem?_eq_some_iff.1 e2).2]
     rw [e3]
     simp [fe]
    simp only
    rw [e]
    omega
   ·intro i t hi
    simp only at hi
    by_cases hij:j=i
    ·subst hij
     rw [List.getElem?_set_self hjl] at hi
     injection hi with hi
     subst hi
     exact ⟨hn,hn.ways⟩
    ·rw [List.getElem?_set_ne hij] at hi
     exact h.good.small i t hi
   ·intro g hg
    obtain ⟨i,t,f1,f2,f3⟩:=h.free g (by rw [hfr];exact List.mem_cons_of_mem _ hg)
    refine ⟨i,t,f1,?_,f3⟩
    simp only
    rw [List.getElem?_set_ne,f2]
    rintro rfl
    exact hnd.1 (f1▸hg)
structure Ar.Less (a:Ar) (r:Int) (a1:Ar):Prop where
 free:a.kg r=(true,a1)
 gone:a1.get r=none
 far: ∀ r1,r1≠r→a1.get r1=a.get r1
 fine:a1.pF
 used:a1.used=a.used - 1
 most:a1.most=a.most
 faults:a1.faults=a.faults
theorem Hg {a:Ar} (h:a.pF) {r:Int} {q:Sl} (hq:a.get r=some q): ∃ a1,a.Less r a1:=by
 obtain ⟨j,h1,h2,h3,h4,h5⟩:=qD hq
 obtain ⟨hj,hjs⟩:=List.getElem?_eq_some_iff.1 h2
 have hus:=h.good.used
 have hlen:=h.len
 have hsl:=h.good.slots
 have hcp:0<a.slots.countP (fun s=>s.used):=List.countP_pos_iff.2 ⟨q,List.mem_of_getElem? h2,h4⟩
 have hcnt:=h.good.cnt
 have hw:wrap64 (a.used - 1)=a.used - 1:=by
  unfold wrap64
  omega
 have hfr:a.kg r=(true,{ a with slots:=a.slots.set j { q with used:=false },free:=a.free++ [(j:Int)],used:=a.used - 1 }):=by
  unfold Ar.kg
  rw [h1]
  simp only
  rw [h2]
  simp only
  unfold Ar.freed
  rw [h3,hw]
 have hnew:({ a with slots:=a.slots.set j { q with used:=false },free:=a.free++ [(j:Int)],used:=a.used - 1 }:Ar).slots[j]?=some { q with used:=false }:=List.getElem?_set_self hj
 refine ⟨_,hfr,mQ (.inr ⟨_,hnew,rfl⟩) r h3,fun r1 hr=>?_,?_,rfl,rfl,rfl⟩
 ·by_cases hp:bO r1=(j:Int)
  ·rw [mQ (.inr ⟨_,hnew,rfl⟩) r1 hp,wX h2 h4 r1 hp,if_neg (fun e=>hr (e.symm.trans h5))]
  ·exact xD (fun i hi=>List.getElem?_set_ne (fun e=>hi e.symm)) r1 hp
 ·refine ⟨⟨h.good.most,?_,?_,?_,?_⟩,?_,?_⟩
  ·simp only [List.length_set];exact hsl
  ·simp only [List.length_set,List.length_append,List.length_singleton];omega
  ·have e:(a.slots.set j { q with used:=false }).countP (fun s=>s.used)=a.slots.countP (fun s=>s.used) - 1:=by
    rw [List.countP_set hj,hjs,h4]
    simp
   simp only
   rw [e]
   omega
  ·intro i t hi
   simp only at hi
   by_cases hij:j=i
   ·subst hij
    rw [List.getElem?_set_self hj] at hi
    injection hi with hi
    subst hi
    exact h.good.small j q h2
   ·rw [List.getElem?_set_ne hij] at hi
    exact h.good.small i t hi
  ·show (a.free++ [(j:Int)]).Nodup
   rw [List.nodup_append]
   refine ⟨h.nodup,by simp,?_⟩
   rintro f hf g hg rfl
   rw [List.mem_singleton] at hg
   obtain ⟨i,t,f1,f2,f3⟩:=h.free f hf
   have:i=j:=by omega
   subst this
   rw [h2] at f2
   injection f2 with f2
   subst f2
   rw [h4] at f3
   cases f3
  ·intro f hf
   have hf:f∈a.free++ [(j:Int)]:=hf
   rcases List.mem_append.1 hf with hf | hf
   ·obtain ⟨i,t,f1,f2,f3⟩:=h.free f hf
    refine ⟨i,t,f1,?_,f3⟩
    simp only
    rw [List.getElem?_set_ne,f2]
    rintro rfl
    rw [h2] at f2
    injection f2 with f2
    subst f2
    rw [h4] at f3
    cases f3
   ·rw [List.mem_singleton] at hf
    exact ⟨j,_,hf,hnew,rfl⟩
structure lH {X α:Type} (m:Pr X α) (x x1:X) (rs:List Int) (a:α) (Ok Th:X→Prop):Prop where
 last:Ok x1
 none_:rs= []→x1=x
 again: ∀ y pre suf sp,Ok y→m ⟨y,pre++(rs++suf),pre.length,sp⟩=some (.ret a,⟨y,pre++(rs++suf),pre.length+rs.length,sp⟩)
 waits: ∀ pre,rs≠ []→m ⟨x,pre,pre.length,true⟩=some (.wait,⟨x,pre,pre.length,true⟩)
 goes: ∃ st:Nat→X,st 0=x∧st rs.length=x1∧(∀ k,0<k→k≤rs.length→Th (st k))∧
  ∀ pre k,k<rs.length→pre.length+rs.length<999999→m ⟨st k,pre++rs.take k,pre.length,false⟩=some (if k+1=rs.length then .ret a else .wait,⟨st (k+1),pre++rs.take (k+1),pre.length+(k+1),true⟩)
section
variable {X α β:Type} {m:Pr X α} {f:α→Pr X β} {x x1 x2:X} {rs rs2:List Int} {a:α} {b:β} {Ok Th Ok2 Th2:X→Prop}
theorem lH.mono (h:lH m x x1 rs a Ok Th) {Ok' Th':X→Prop} (h1:Ok' x1) (h2: ∀ y,Ok' y→Ok y) (h3: ∀ y,Th y→Th' y):lH m x x1 rs a Ok' Th' where
 last:=h1
 none_:=h.none_
 again:=fun y pre suf sp hy=>h.again y pre suf sp (h2 y hy)
 waits:=h.waits
 goes:=by
  obtain ⟨st,a1,a2,a3,a4⟩:=h.goes
  exact ⟨st,a1,a2,fun k h0 hk=>h3 _ (a3 k h0 hk),a4⟩
theorem lH.ret (a:α) (x:X) (Ok Th:X→Prop) (h:Ok x):lH (dw a) x x [] a Ok Th where
 last:=h
 none_:=fun _=>rfl
 again:=fun y pre suf sp _=>rfl
 waits:=fun pre h=>absurd rfl h
 goes:=⟨fun _=>x,rfl,rfl,fun k h0 hk=>by simp at hk;omega,fun pre k hk=>by simp at hk⟩
theorem lH.bind (h:lH m x x1 rs a Ok Th) (k:lH (f a) x1 x2 rs2 b Ok2 Th2) (hT: ∀ y,Th2 y→Ok y):lH (aQ m f) x x2 (rs++rs2) b (fun y=>Ok y∧Ok2 y) (fun y=>Th y∨Th2 y) where
 last:=by
  refine ⟨?_,k.last⟩
  by_cases h2:rs2= []
  ·rw [k.none_ h2];exact h.last
  ·obtain ⟨st,a1,a2,a3,_⟩:=k.goes
   rw [←a2]
   exact hT _ (a3 _ (List.length_pos_iff.2 h2) (Nat.le_refl _))
 none_:=fun h0=>by
  have h0:=List.append_eq_nil_iff.1 h0
  rw [k.none_ h0.2,h.none_ h0.1]
 again:=fun y pre suf sp hy=>by
  unfold aQ
  rw [List.append_assoc,h.again y pre (rs2++suf) sp hy.1]
  have:=k.again y (pre++rs) suf sp hy.2
  rw [List.append_assoc,List.length_append] at this
  simp only [this]
  rw [List.length_append,Nat.add_assoc]
 waits:=fun pre h0=>by
  unfold aQ
  by_cases h1:rs= []
  ·subst h1
   have e:=h.none_ rfl
   subst e
   have:=h.again x1 pre [] true h.last
   simp only [List.nil_append,List.append_nil,List.length_nil,Nat.add_zero] at this
   rw [this]
   simp only
   exact k.waits pre (by simpa using h0)
  ·rw [h.waits pre h1]
 goes:=by
  obtain ⟨st,a1,a2,a3,a4⟩:=h.goes
  obtain ⟨tt,b1,b2,b3,b4⟩:=k.goes
  refine ⟨fun n=>if n<rs.length then st n else tt (n - rs.length),?_,?_,?_,?_⟩
  ·by_cases h0:rs= []
   ·subst h0
    simp only [List.length_nil,Nat.not_lt_zero,if_false,Nat.sub_zero]
    rw [b1,h.none_ rfl]
   ·simp only
    rw [if_pos (List.length_pos_iff.2 h0),a1]
  ·simp only
   rw [List.length_append,if_neg (by omega),show rs.length+rs2.length - rs.length=rs2.length by omega,b2]
  ·intro n h0 hn
   simp only
   rw [List.length_append] at hn
   by_cases h1:n<rs.length
   ·rw [if_pos h1]
    exact .inl (a3 n h0 (by omega))
   ·rw [if_neg h1]
    by_cases h2:n=rs.length
    ·subst h2
     rw [Nat.sub_self,b1,←a2]
     exact .inl (a3 _ h0 (Nat.le_refl _))
    ·exact .inr (b3 _ (by omega) (by omega))
  ·intro pre n hn hl
   rw [List.length_append] at hn hl
   unfold aQ
   simp only
   by_cases h1:n<rs.length
   ·rw [if_pos h1]
    have e1:(rs++rs2).take n=rs.take n:=by rw [List.take_append_of_le_length (by omega)]
    have e2:(rs++rs2).take (n+1)=rs.take (n+1):=by rw [List.take_append_of_le_length (by omega)]
    rw [e1,e2,a4 pre n h1 (by omega)]
    by_cases h2:n+1=rs.length
    ·rw [if_pos h2]
     simp only
     rw [if_neg (show ¬ n+1<rs.length by omega),h2,List.take_length,a2,Nat.sub_self,b1]
     by_cases h3:rs2= []
     ·subst h3
      have e:=k.none_ rfl
      subst e
      have:=k.again x2 (pre++rs) [] true k.last
      simp only [List.nil_append,List.append_nil,List.length_nil,Nat.add_zero,List.length_append] at this
      rw [this]
      simp only [List.append_nil,if_true]
     ·have:=k.waits (pre++rs) h3
      rw [List.length_append] at this
      rw [this,if_neg (by rw [List.length_append];have:=List.length_pos_iff.2 h3;omega)]
    ·rw [if_neg h2]
     simp only
     rw [if_pos (show n+1<rs.length by omega),if_neg (by rw [List.length_append];omega)]
   ·rw [if_neg h1,if_neg (show ¬ n+1<rs.length by omega)]
    obtain ⟨j,rfl⟩: ∃ j,n=rs.length+j:=⟨n - rs.length,by omega⟩
    have e1:(rs++rs2).take (rs.length+j)=rs++rs2.take j:=by rw [List.take_append,List.take_of_length_le (by omega)];simp
    have e2:(rs++rs2).take (rs.length+j+1)=rs++rs2.take (j+1):=by rw [Nat.add_assoc,List.take_append,List.take_of_length_le (by omega)];simp
    have hok:Ok (tt j):=by
     by_cases h0:j=0
     ·subst h0;rw [b1];exact h.last
     ·exact hT _ (b3 j (by omega) (by omega))
    rw [e1,e2,show rs.length+j - rs.length=j by omega,show rs.length+j+1 - rs.length=j+1 by omega]
    rw [h.again (tt j) pre (rs2.take j) false hok]
    simp only
    have:=b4 (pre++rs) j (by omega) (by rw [List.length_append];omega)
    rw [List.append_assoc,List.append_assoc,List.length_append] at this
    rw [this]
    have e3:(j+1=rs2.length)=(rs.length+j+1=(rs++rs2).length):=by rw [List.length_append];apply propext;omega
    by_cases h3:j+1=rs2.length
    ·rw [if_pos h3,if_pos (by rw [←e3];exact h3)]
     congr 3
     omega
    ·rw [if_neg h3,if_neg (by rw [←e3];exact h3)]
     congr 3
     omega
theorem lH.do_ {X:Type} (f:X→Int × X) (x:X) (Ok Th:X→Prop) (h1:Ok (f x).2) (h2:Th (f x).2):lH (doT f) x (f x).2 [(f x).1] (f x).1 Ok Th where
 last:=h1
 none_:=fun h=>by cases h
 again:=fun y pre suf sp _=>by
  unfold doT
  simp only [List.length_append,List.length_cons,List.length_nil,List.cons_append,List.nil_append]
  rw [if_pos (by omega)]
  congr 3
  rw [List.getD_eq_getElem?_getD,List.getElem?_append_right (Nat.le_refl _),Nat.sub_self]
  rfl
 waits:=fun pre _=>by
  unfold doT
  simp
 goes:=⟨fun n=>if n=0 then x else (f x).2,rfl,rfl,fun k h0 hk=>by simp only;rw [if_neg (by omega)];exact h2,fun pre k hk hl=>by
  have:k=0:=by simp at hk;omega
  subst this
  unfold doT
  simp only [List.take_zero,List.append_nil,List.length_cons,List.length_nil] at hl ⊢
  rw [if_neg (Nat.lt_irrefl _)]
  simp only [Bool.false_eq_true,if_false]
  rw [if_neg (by omega)]
  rfl⟩
theorem lH.read {X α:Type} (m:Pr X α) (x:X) (a:α) (Ok Th:X→Prop) (h:Ok x) (hm: ∀ y log at_ sp,Ok y→m ⟨y,log,at_,sp⟩=some (.ret a,⟨y,log,at_,sp⟩)):lH m x x [] a Ok Th where
 last:=h
 none_:=fun _=>rfl
 again:=fun y pre suf sp hy=>hm y _ _ sp hy
 waits:=fun pre h=>absurd rfl h
 goes:=⟨fun _=>x,rfl,rfl,fun k h0 hk=>by simp at hk;omega,fun pre k hk=>by simp at hk⟩
end
structure Later (K:Int→Prop) (x y:Ws):Prop where
 node: ∀ r q,K r→x.ar.get r=some q→ ∃ q1,y.ar.get r=some q1∧q1.node=q.node
 rc: ∀ (i:Nat) (e:En),x.tb.l[i]?=some e→ ∃ e1,y.tb.l[i]?=some e1∧e1.rc=e.rc
 a:y.a=x.a
 b:y.b=x.b
 entry:y.entry=x.entry
 said:y.ep.said.length=x.ep.said.length
theorem Later.refl (K:Int→Prop) (x:Ws):Later K x x:=⟨fun r q _ h=>⟨q,h,rfl⟩,fun i e h=>⟨e,h,rfl⟩,rfl,rfl,rfl,rfl⟩
theorem Later.trans {K:Int→Prop} {x y z:Ws} (h:Later K x y) (k:Later K y z):Later K x z where
 node:=fun r q hr hq=>by
  obtain ⟨q1,h1,h2⟩:=h.node r q hr hq
  obtain ⟨q2,h3,h4⟩:=k.node r q1 hr h1
  exact ⟨q2,h3,h4.trans h2⟩
 rc:=fun i e he=>by
  obtain ⟨e1,h1,h2⟩:=h.rc i e he
  obtain ⟨e2,h3,h4⟩:=k.rc i e1 h1
  exact ⟨e2,h3,h4.trans h2⟩
 a:=k.a.trans h.a
 b:=k.b.trans h.b
 entry:=k.entry.trans h.entry
 said:=k.said.trans h.said
theorem Later.ar {K:Int→Prop} {x:Ws} {a1:Ar} (h: ∀ r q,K r→x.ar.get r=some q→ ∃ q1,a1.get r=some q1∧q1.node=q.node):Later K x { x with ar:=a1 }:=⟨h,fun i e h=>⟨e,h,rfl⟩,rfl,rfl,rfl,rfl⟩
theorem Later.tb {K:Int→Prop} {x:Ws} {t1:Tb} (h: ∀ (i:Nat) (e:En),x.tb.l[i]?=some e→ ∃ e1,t1.l[i]?=some e1∧e1.rc=e.rc):Later K x { x with tb:=t1 }:=⟨fun r q _ h=>⟨q,h,rfl⟩,h,rfl,rfl,rfl,rfl⟩
theorem Later.ep {K:Int→Prop} {x:Ws} {e1:Ep} (h:e1.said.length=x.ep.said.length):Later K x { x with ep:=e1 }:=⟨fun r q _ h=>⟨q,h,rfl⟩,fun i e h=>⟨e,h,rfl⟩,rfl,rfl,rfl,h⟩
structure Alone {α:Type} (K:Int→Prop) (m:Pr Ws α) (x x1:Ws) (n:Nat) (a:α):Prop where
 later:Later K x x1
 out: ∃ rs:List Int,rs.length=n∧lH m x x1 rs a (Later K x1) (Later K x)
section
variable {α β:Type} {K:Int→Prop} {m:Pr Ws α} {f:α→Pr Ws β} {x x1 x2:Ws} {n n2:Nat} {a:α} {b:β}
theorem Alone.ret (a:α) (x:Ws):Alone K (dw a) x x 0 a:=⟨Later.refl K x,[],rfl,lH.ret a x _ _ (Later.refl K x)⟩
theorem Alone.bind (h:Alone K m x x1 n a) (k:Alone K (f a) x1 x2 n2 b):Alone K (aQ m f) x x2 (n+n2) b:=by
 obtain ⟨rs,h1,h2⟩:=h.out
 obtain ⟨rs2,k1,k2⟩:=k.out
 refine ⟨h.later.trans k.later,rs++rs2,by rw [List.length_append,h1,k1],(h2.bind k2 (fun _ h=>h)).mono (Later.refl K x2) (fun y hy=>⟨k.later.trans hy,hy⟩) (fun y hy=>?_)⟩
 rcases hy with hy | hy
 ·exact hy
 ·exact h.later.trans hy
theorem Alone.do_ (g:Ws→Int × Ws) {v:Int} (hg:g x=(v,x1)) (h:Later K x x1):Alone K (doT g) x x1 1 v:=by
 have e1:x1=(g x).2:=by rw [hg]
 have e2:v=(g x).1:=by rw [hg]
 subst e1
 subst e2
 exact ⟨h,[(g x).1],rfl,lH.do_ g x _ _ (Later.refl K _) h⟩
theorem Alone.doO (g:Ws→Option (Int × Ws)) {v:Int} (hg:g x=some (v,x1)) (h:Later K x x1):Alone K (doO g) x x1 1 v:=by
 refine ⟨h,[v],rfl,?_⟩
 exact {
  last:=Later.refl K _
  none_:=fun h=>by cases h
  again:=fun y pre suf sp _=>by
   unfold Tower.doO
   simp only [List.length_append,List.length_cons,List.length_nil,List.cons_append,List.nil_append]
   rw [if_pos (by omega)]
   congr 3
   rw [List.getD_eq_getElem?_getD,List.getElem?_append_right (Nat.le_refl _),Nat.sub_self]
   rfl
  waits:=fun pre _=>by
   unfold Tower.doO
   simp
  goes:=⟨fun n=>if n=0 then x else x1,rfl,rfl,fun k h0 hk=>by simp only;rw [if_neg (by omega)];exact h,fun pre k hk hl=>by
   have:k=0:=by simp at hk;omega
   subst this
   unfold Tower.doO
   simp only [List.take_zero,List.append_nil,List.length_cons,List.length_nil] at hl ⊢
   rw [if_neg (Nat.lt_irrefl _)]
   simp only [Bool.false_eq_true,if_false]
   rw [if_neg (by omega),if_pos trivial,hg]
   rfl⟩ }
theorem Alone.of_eq {m':Pr Ws α} (h:Alone K m' x x1 n a) (hm: ∀ y log at_ sp,Later K x y→m ⟨y,log,at_,sp⟩=m' ⟨y,log,at_,sp⟩):Alone K m x x1 n a:=by
 obtain ⟨rs,h1,h2⟩:=h.out
 refine ⟨h.later,rs,h1,?_⟩
 exact {
  last:=h2.last
  none_:=h2.none_
  again:=fun y pre suf sp hy=>(hm _ _ _ _ (h.later.trans hy)).trans (h2.again y pre suf sp hy)
  waits:=fun pre hn=>(hm _ _ _ _ (Later.refl K x)).trans (h2.waits pre hn)
  goes:=by
   obtain ⟨st,a1,a2,a3,a4⟩:=h2.goes
   refine ⟨st,a1,a2,a3,fun pre k hk hl=>(hm _ _ _ _ ?_).trans (a4 pre k hk hl)⟩
   cases k with
   | zero=>rw [a1];exact Later.refl K x
   | succ k=>exact a3 _ (Nat.succ_pos k) (by omega) }
theorem Alone.read (hm: ∀ y log at_ sp,Later K x y→m ⟨y,log,at_,sp⟩=some (.ret a,⟨y,log,at_,sp⟩)):Alone K m x x 0 a:=(Alone.ret a x).of_eq hm
theorem Alone.ask (g:Ws→Bool × Ws) {v:Bool} (hg:g x=(v,x1)) (h:Later K x x1):Alone K (Jj g) x x1 1 v:=by
 have h1:Alone K (doT fun x=>(b01 (g x).1,(g x).2)) x x1 1 (b01 v):=Alone.do_ _ (by simp only [hg]) h
 have h2:Alone K (dw (b01 v == 1)) x1 x1 0 (b01 v == 1):=Alone.ret _ _
 have:=h1.bind (f:=fun n=>dw (n == 1)) h2
 have hv:(b01 v == 1)=v:=by cases v<;>rfl
 rw [hv] at this
 exact this
theorem Alone.cast {n':Nat} (h:Alone K m x x1 n a) (hn:n=n'):Alone K m x x1 n' a:=hn▸h
end
section
variable {K:Int→Prop} {x:Ws} {r:Int} {q:Sl}
theorem Cu (h:x.ar.get r=some q):Alone K (rq r) x x 1 q.info:=Alone.do_ _ (by rw [JR h]) (Later.refl K x)
theorem DL (h:x.ar.get r=some q):Alone K (markT r) x x 1 q.mark:=Alone.ask _ (by rw [Kj h]) (Later.refl K x)
theorem xW (h:x.ar.get r=some q) (i:Nat) (hi:i<q.ways.length):Alone K (Jk r (i:Int)) x x 1 (q.ways.getD i 0):=Alone.do_ _ (by rw [vQ h i hi]) (Later.refl K x)
theorem pz (hK:K r) (h:x.ar.get r=some q):Alone K (DT r) x x 0 q.node:=Alone.read fun y log at_ sp hy=>by
 obtain ⟨q1,h1,h2⟩:=hy.node r q hK h
 unfold DT
 simp only
 rw [wz h1,h2]
theorem Gz:Alone K QF x x 1 x.ep.now:=Alone.do_ _ rfl (Later.refl K x)
theorem zU (n:Int) (h:0≤(x.tb.en n).state∧(x.tb.en n).state<256):Alone K (tu n) x x 1 (x.tb.en n).state:=by
 have h1:Alone K (zS n) x x 1 (wrap64 (x.tb.en n).state):=Alone.do_ _ rfl (Later.refl K x)
 have h2:Alone K (dw (IntKind.u8.wrap (wrap64 (x.tb.en n).state))) x x 0 (IntKind.u8.wrap (wrap64 (x.tb.en n).state)):=Alone.ret _ _
 have:=h1.bind (f:=fun v=>dw (IntKind.u8.wrap v)) h2
 have hv:IntKind.u8.wrap (wrap64 (x.tb.en n).state)=(x.tb.en n).state:=by
  have e:wrap64 (x.tb.en n).state=(x.tb.en n).state:=by unfold wrap64;omega
  rw [e]
  simp [IntKind.wrap,IntKind.bits,IntKind.signed]
  omega
 rw [hv] at this
 exact this
theorem vz (h:x.ar.get r=some q): ∀ (m i:Nat) (acc:List Int),i+m≤q.ways.length→Alone K (rz r m i acc) x x m (acc++(q.ways.drop i).take m)
 | 0,i,acc,_=>by
  rw [List.take_zero,List.append_nil]
  exact Alone.ret _ _
 | m+1,i,acc,hi=>by
  have h1:=xW (K:=K) h i (by omega)
  have h2:=vz h m (i+1) (acc++ [q.ways.getD i 0]) (by omega)
  have e:acc++(q.ways.drop i).take (m+1)=(acc++ [q.ways.getD i 0])++(q.ways.drop (i+1)).take m:=by
   rw [List.drop_eq_getElem_cons (show i<q.ways.length by omega),List.take_succ_cons,List.getD_eq_getElem?_getD,List.getElem?_eq_getElem (show i<q.ways.length by omega)]
   simp
  rw [e]
  exact (h1.bind (f:=fun x=>rz r m (i+1) (acc++ [x])) h2).cast (by omega)
structure Calm (x:Ws) (r:Int) (q:Sl):Prop where
 at_:x.ar.get r=some q
 mark:q.mark=false
 state:(x.tb.en q.info).state=0∨(x.tb.en q.info).state=2
 ways:q.node.ways.length=q.ways.length
def nP (r:Int) (q:Sl):Sn:=⟨r,q.info,q.node,q.ways⟩
theorem Ci (hK:K r) (h:Calm x r q):Alone K (loadT r) x x (5+q.ways.length) (nP r q,0):=by
 have hs:0≤(x.tb.en q.info).state∧(x.tb.en q.info).state<256:=by have:=h.state;omega
 have h1:=DL (K:=K) h.at_
 have h2:=Cu (K:=K) h.at_
 have h3:=zU (K:=K) (x:=x) q.info hs
 have hc:jl (x.tb.en q.info).state q.mark=true:=by
  unfold jl
  rw [h.mark]
  rcases h.state with e | e<;>rw [e]<;>rfl
 have hw:=vz (K:=K) h.at_ q.node.ways.length 0 [] (by have:=h.ways;omega)
 rw [List.drop_zero,List.nil_append,List.take_of_length_le (by have:=h.ways;omega)] at hw
 have h5:Alone K (lT r q.info q.mark q.node q.ways) x x 1 (nP r q,0):=by
  have:=h2.bind (f:=fun m=>if m=q.info then dw ((⟨r,q.info,q.node,q.ways⟩:Sn),(0:Int)) else Bb r q.info q.mark) (x2:=x) (n2:=0) (b:=(nP r q,0)) (by rw [if_pos rfl];exact Alone.ret _ _)
  exact this
 have h6:Alone K (Ql r q.info q.mark) x x (q.node.ways.length+1) (nP r q,0):=((pz hK h.at_).bind (f:=fun nd=>aQ (rz r nd.ways.length 0 []) (lT r q.info q.mark nd)) (x2:=x) (n2:=q.node.ways.length+1) (b:=(nP r q,0)) (hw.bind (f:=lT r q.info q.mark q.node) h5)).cast (by omega)
 have h7:Alone K (yC r q.info q.mark (jl (x.tb.en q.info).state q.mark)) x x (q.node.ways.length+1) (nP r q,0):=by
  rw [hc]
  exact h6
 have h8:=h1.bind (f:=fun second=>yC r q.info q.mark (jl (x.tb.en q.info).state second)) h7
 have h9:=h3.bind (f:=fun was=>aQ (markT r) fun second=>yC r q.info q.mark (jl was second)) h8
 have h10:=h2.bind (f:=fun n=>aQ (tu n) fun was=>aQ (markT r) fun second=>yC r n q.mark (jl was second)) h9
 exact (h1.bind (f:=fun first=>aQ (rq r) fun n=>aQ (tu n) fun was=>aQ (markT r) fun second=>yC r n first (jl was second)) h10).cast (by have:=h.ways;omega)
theorem tY: ∀ (l:List (Int × Sl)) (acc:List Sn),(∀ p∈l,K p.1∧Calm x p.1 p.2)→Alone K (lu (l.map Prod.fst) acc) x x ((l.map fun p=>5+p.2.ways.length).sum) (acc++l.map fun p=>nP p.1 p.2,true)
 | [],acc,_=>by
  simp only [List.map_nil,List.append_nil,List.sum_nil]
  exact Alone.ret _ _
 | p::l,acc,h=>by
  obtain ⟨h1,h2⟩:=h p List.mem_cons_self
  have h3:=Ci h1 h2
  have h4:=tY l (acc++ [nP p.1 p.2]) (fun q hq=>h q (List.mem_cons_of_mem _ hq))
  rw [List.append_assoc] at h4
  have:=h3.bind (f:=fun x=>if x.2=0 then lu (l.map Prod.fst) (acc++ [x.1]) else dw ([],false)) (by simp only [if_pos];exact h4)
  simp only [List.map_cons,List.sum_cons]
  exact this
theorem mJ {nd:Nd} {a1:Ar} (h:x.ar.More nd r a1):Alone K (sD nd) x { x with ar:=a1 } 1 r:=
 Alone.doO _ (by simp only [h.alloc]) (Later.ar fun r1 q _ hq=>⟨q,by rw [h.far r1 (fun e=>by subst e;rw [h.new] at hq;cases hq)];exact hq,rfl⟩)
theorem ES (e:Ep) (me r n:Int):(e.leave me r n).said.length=e.said.length:=by unfold Ep.leave;split<;>rfl
theorem Bg (me n:Int) (h:(x.ep.limbo.getD me.toNat []).length<1000000):Alone K (xI me r n) x { x with ep:=x.ep.leave me r n } 1 0:=
 Alone.doO _ (by simp only [if_pos h]) (Later.ep (ES _ _ _ _))
def Ep.leaves (e:Ep) (me:Int) (rs:List Int):Ep:=rs.foldl (fun e r=>e.leave me r e.now) e
theorem zn (e:Ep) (me r n:Int):((e.leave me r n).limbo.getD me.toNat []).length≤(e.limbo.getD me.toNat []).length+1:=by
 unfold Ep.leave
 split
 ·simp only
  rw [List.getD_eq_getElem?_getD,List.getElem?_set]
  split
  ·split
   ·simp
   ·simp
  ·rw [List.getD_eq_getElem?_getD];omega
 ·omega
theorem qN (me:Int): ∀ (rs:List Int) (x:Ws),(x.ep.limbo.getD me.toNat []).length+rs.length<1000000→Alone K (lV me rs) x { x with ep:=x.ep.leaves me rs } (2*rs.length) ()
 | [],x,_=>by exact Alone.ret _ _
 | r::rs,x,h=>by
  rw [List.length_cons] at h
  have h1:=Gz (K:=K) (x:=x)
  have h2:=Bg (K:=K) (x:=x) (r:=r) me x.ep.now (by omega)
  have h3:=qN me rs { x with ep:=x.ep.leave me r x.ep.now } (by have:=zn x.ep me r x.ep.now;simp only;omega)
  exact (h1.bind (f:=fun n=>aQ (xI me r n) fun _=>lV me rs) (h2.bind (f:=fun _=>lV me rs) h3)).cast (by rw [List.length_cons];omega)
end
def gT (n:Int) (s:Sl):Sl:= { s with info:=n }
def nK (s:Sl):Sl:= { s with mark:=true }
def mX (i:Nat) (now:Int) (s:Sl):Sl:= { s with ways:=s.ways.set i now }
def Ar.eG (g:Sl→Sl):List Int→Ar→Ar
 | [],a=>a
 | r::rs,a=>Ar.eG g rs (a.mod r g)
structure KT (g:Sl→Sl):Prop where
 used: ∀ s,(g s).used=s.used
 count: ∀ s,(g s).count=s.count
 node: ∀ s,(g s).node=s.node
 ways: ∀ s,(g s).ways.length=s.ways.length
theorem kX (n:Int):KT (gT n):=⟨fun _=>rfl,fun _=>rfl,fun _=>rfl,fun _=>rfl⟩
theorem nS:KT nK:=⟨fun _=>rfl,fun _=>rfl,fun _=>rfl,fun _=>rfl⟩
theorem qE (i:Nat) (now:Int):KT (mX i now):=⟨fun _=>rfl,fun _=>rfl,fun _=>rfl,fun _=>List.length_set⟩
section
variable {K:Int→Prop} {x:Ws} {r:Int} {q:Sl} {g:Sl→Sl}
theorem kM (hg:KT g) {a:Ar} (h:a.get r=some q) (r1:Int):(a.mod r g).get r1=if r1=r then some (g q) else a.get r1:=Nu g (fun s=>⟨hg.used s,hg.count s⟩) h r1
theorem BL {a:Ar} (h:a.get r=none) (g:Sl→Sl):a.mod r g=a:=by
 unfold Ar.mod
 unfold Ar.get at h
 cases hx:a.idx r with
 | none=>rfl
 | some j=>
  rw [hx] at h
  simp only at h ⊢
  rw [h]
theorem sN (hg:KT g) (h:x.ar.get r=some q):Later K x { x with ar:=x.ar.mod r g }:=Later.ar fun r1 q1 _ h1=>by
 rw [kM hg h]
 by_cases e:r1=r
 ·subst e
  rw [h] at h1
  injection h1 with h1
  subst h1
  exact ⟨g q,if_pos rfl,hg.node q⟩
 ·exact ⟨q1,by rw [if_neg e];exact h1,rfl⟩
theorem wU (a:Ar) (r:Int) (g:Sl→Sl):(a.mod r g).most=a.most∧(a.mod r g).used=a.used∧(a.mod r g).faults=a.faults∧(a.mod r g).free=a.free:=by
 unfold Ar.mod
 split
 ·exact ⟨rfl,rfl,rfl,rfl⟩
 ·split<;>exact ⟨rfl,rfl,rfl,rfl⟩
theorem nH (g:Sl→Sl): ∀ (rs:List Int) (a:Ar),(a.eG g rs).most=a.most∧(a.eG g rs).used=a.used∧(a.eG g rs).faults=a.faults∧(a.eG g rs).free=a.free
 | [],a=>⟨rfl,rfl,rfl,rfl⟩
 | r::rs,a=>by
  obtain ⟨h1,h2,h3,h4⟩:=nH g rs (a.mod r g)
  obtain ⟨k1,k2,k3,k4⟩:=wU a r g
  exact ⟨h1.trans k1,h2.trans k2,h3.trans k3,h4.trans k4⟩
theorem wZ {a:Ar} (h:a.pF) (hg:KT g) (r:Int):(a.mod r g).pF:=by
 cases hq:a.get r with
 | none=>rw [BL hq];exact h
 | some q=>exact h.mod hq g (fun s=>⟨hg.used s,hg.node s,hg.ways s⟩)
theorem nJ (hg:KT g): ∀ (rs:List Int) {a:Ar},a.pF→(a.eG g rs).pF
 | [],_,h=>h
 | r::rs,_,h=>nJ hg rs (wZ h hg r)
theorem iw (hg:KT g) (hgg: ∀ s,g (g s)=g s): ∀ (rs:List Int) (a:Ar) (r:Int),(a.eG g rs).get r=(a.get r).map fun s=>if r∈rs then g s else s
 | [],a,r=>by
  show a.get r=_
  cases a.get r<;>simp
 | r0::rs,a,r=>by
  show (Ar.eG g rs (a.mod r0 g)).get r=_
  rw [iw hg hgg rs]
  have e:(a.mod r0 g).get r=(a.get r).map fun s=>if r=r0 then g s else s:=by
   cases hq:a.get r0 with
   | none=>
    rw [BL hq]
    by_cases hr:r=r0
    ·subst hr
     rw [hq]
     rfl
    ·cases a.get r<;>simp [hr]
   | some q=>
    rw [kM hg hq]
    by_cases hr:r=r0
    ·subst hr
     rw [hq]
     simp
    ·cases a.get r<;>simp [hr]
  rw [e,Option.map_map]
  congr 1
  funext s
  simp only [Function.comp_apply]
  by_cases h1:r=r0<;>by_cases h2:r∈rs<;>simp [h1,h2,hgg]
  all_goals (try (subst h1;simp [h2,hgg]))
theorem uN (h:x.ar.get r=some q) (n:Int):Alone K (sO r q.info n) x { x with ar:=x.ar.mod r (gT n) } 1 true:=
 Alone.ask _ (by rw [yX h n];rfl) (sN (kX n) h)
theorem vZ (h:x.ar.get r=some q):Alone K (wo r) x { x with ar:=x.ar.mod r nK } 1 0:=
 Alone.do_ _ (by rw [zQ h];rfl) (sN nS h)
theorem wJ (h:x.ar.get r=some q) (i:Nat) (hi:i<q.ways.length) (now:Int):Alone K (oI r (i:Int) (q.ways.getD i 0) now) x { x with ar:=x.ar.mod r (mX i now) } 1 true:=
 Alone.ask _ (by rw [sV h i hi now];rfl) (sN (qE i now) h)
theorem mY (n:Int): ∀ (l:List (Int × Sl)) (x:Ws),(l.map Prod.fst).Nodup→(∀ p∈l,x.ar.get p.1=some p.2)→Alone K (iM n (l.map fun p=>(p.1,p.2.info))) x { x with ar:=x.ar.eG (gT n) (l.map Prod.fst) } l.length none
 | [],x,_,_=>Alone.ret _ _
 | p::l,x,hn,h=>by
  rw [List.map_cons,List.nodup_cons] at hn
  have h1:=uN (K:=K) (h p List.mem_cons_self) n
  have h2:=mY n l { x with ar:=x.ar.mod p.1 (gT n) } hn.2 (fun q hq=>by
   simp only
   rw [kM (kX n) (h p List.mem_cons_self),if_neg (fun e=>hn.1 (by rw [←e];exact List.mem_map_of_mem hq))]
   exact h q (List.mem_cons_of_mem _ hq))
  exact (h1.bind (f:=fun a=>if a then iM n (l.map fun p=>(p.1,p.2.info)) else aQ (rq p.1) fun m=>if m=n then iM n (l.map fun p=>(p.1,p.2.info)) else aQ (EB n) fun b=>if b then dw (some true) else aQ (IE n 0) fun _=>dw (some false)) (by rw [if_pos rfl];exact h2)).cast (show 1+l.length=(p::l).length by rw [List.length_cons];omega)
theorem lZ: ∀ (rs:List Int) (x:Ws),(∀ r∈rs,∃ q,x.ar.get r=some q)→Alone K (iE rs) x { x with ar:=x.ar.eG nK rs } rs.length ()
 | [],x,_=>Alone.ret _ _
 | r::rs,x,h=>by
  obtain ⟨q,hq⟩:=h r List.mem_cons_self
  have h1:=vZ (K:=K) hq
  have h2:=lZ rs { x with ar:=x.ar.mod r nK } (fun r1 hr=>by
   obtain ⟨q1,hq1⟩:=h r1 (List.mem_cons_of_mem _ hr)
   simp only
   rw [kM nS hq]
   by_cases e:r1=r
   ·exact ⟨_,if_pos e⟩
   ·exact ⟨q1,by rw [if_neg e];exact hq1⟩)
  exact (h1.bind (f:=fun _=>iE rs) h2).cast (show 1+rs.length=(r::rs).length by rw [List.length_cons];omega)
end
def OB (l:List (Int × Sl)) (keep:Int) (i:Nat) (old now:Int):Rc:=⟨l.map Prod.fst,l.map fun p=>p.2.info,keep,(i:Int),old,now⟩
def iG (x:Ws) (l:List (Int × Sl)) (keep i:Nat) (old now:Int):Ws:=
 { x with
      tb:= { x.tb with l:=x.tb.l++ [⟨OB l keep i old now,2,true⟩] }
      ar:=((x.ar.eG (gT ((x.tb.l.length+1:Nat):Int)) (l.map Prod.fst)).eG nK ((l.map Prod.fst).drop keep)).mod ((l.map Prod.fst).headD 0) (mX i now) }
theorem Bc (t:Tb) (e:En):({ t with l:=t.l++ [e] }:Tb).idx ((t.l.length+1:Nat):Int)=some t.l.length:=by
 unfold Tb.idx
 simp only [List.length_append,List.length_singleton]
 rw [if_pos ⟨by omega,by omega⟩]
 congr 1
 omega
theorem Dh (t:Tb) (e:En):({ t with l:=t.l++ [e] }:Tb).en ((t.l.length+1:Nat):Int)=e:=by
 unfold Tb.en
 rw [Bc]
 simp only
 rw [List.getD_eq_getElem?_getD,List.getElem?_append_right (Nat.le_refl _),Nat.sub_self]
 rfl
theorem zJ (t:Tb) (e:En):({ t with l:=t.l++ [e] }:Tb).ku ((t.l.length+1:Nat):Int)= { t with l:=t.l++ [{ e with all:=true }] }:=by
 unfold Tb.ku
 rw [Bc]
 simp only
 rw [List.set_append_right _ _ (Nat.le_refl _),Nat.sub_self,List.getD_eq_getElem?_getD,List.getElem?_append_right (Nat.le_refl _),Nat.sub_self]
 rfl
theorem wQ (t:Tb) (e:En) (s:Int):({ t with l:=t.l++ [e] }:Tb).setState ((t.l.length+1:Nat):Int) s= { t with l:=t.l++ [{ e with state:=s }] }:=by
 unfold Tb.setState
 rw [Bc]
 simp only
 rw [List.set_append_right _ _ (Nat.le_refl _),Nat.sub_self,List.getD_eq_getElem?_getD,List.getElem?_append_right (Nat.le_refl _),Nat.sub_self]
 rfl
theorem vH {K:Int→Prop} (x:Ws) (l:List En) (e e1:En) (m m1:Int) (he:e1.rc=e.rc) (h:x.tb=⟨l++ [e],m⟩):Later K x { x with tb:=⟨l++ [e1],m1⟩ }:=Later.tb fun i q hq=>by
 rw [h] at hq
 simp only at hq ⊢
 by_cases hi:i<l.length
 ·rw [List.getElem?_append_left hi] at hq ⊢
  exact ⟨q,hq,rfl⟩
 ·rw [List.getElem?_append_right (by omega)] at hq ⊢
  have:=(List.getElem?_eq_some_iff.1 hq).1
  have e0:i - l.length=0:=by simp at this;omega
  rw [e0] at hq ⊢
  injection hq with hq
  subst hq
  exact ⟨e1,rfl,he⟩
theorem zK {K:Int→Prop} {x:Ws} (p:Int × Sl) (l:List (Int × Sl)) (keep i:Nat) (now:Int) (hk:keep<1000000) (hroom:(x.tb.l.length:Int)<x.tb.most) (hn:((p::l).map Prod.fst).Nodup) (h: ∀ q∈p::l,x.ar.get q.1=some q.2) (hi:i<p.2.ways.length):
  Alone K (sP ((p::l).map fun q=>nP q.1 q.2) (keep:Int) (i:Int) (p.2.ways.getD i 0) now) x (iG x (p::l) keep i (p.2.ways.getD i 0) now) (4+(l.length+1)+(l.length+1 - keep)) (true,false):=by
 obtain ⟨old,hold⟩: ∃ old,old=p.2.ways.getD i 0:=⟨_,rfl⟩
 obtain ⟨L,hL⟩: ∃ L,L=p::l:=⟨_,rfl⟩
 obtain ⟨N,hN⟩: ∃ N:Int,N=((x.tb.l.length+1:Nat):Int):=⟨_,rfl⟩
 obtain ⟨rc,hrc⟩: ∃ rc,rc=OB L keep i old now:=⟨_,rfl⟩
 have hnodes:rc.nodes=L.map Prod.fst:=by rw [hrc];rfl
 have hinfos:rc.infos=L.map fun p=>p.2.info:=by rw [hrc];rfl
 have hkeep:rc.keep=(keep:Int):=by rw [hrc];rfl
 have hmake:x.tb.make rc=((N,true),⟨x.tb.l++ [⟨rc,1,false⟩],x.tb.most⟩):=by
  unfold Tb.make
  rw [if_neg (by rw [hnodes,hinfos,List.length_map,List.length_map,hkeep];omega),hN]
 have s1:Alone K (storeT rc) x { x with tb:=⟨x.tb.l++ [⟨rc,1,false⟩],x.tb.most⟩ } 1 N:=Alone.do_ _ (by rw [hmake]) (Later.tb fun j e he=>⟨e,by
  simp only
  rw [List.getElem?_append_left (List.getElem?_eq_some_iff.1 he).1]
  exact he,rfl⟩)
 have s2:=mY (K:=K) N L { x with tb:=⟨x.tb.l++ [⟨rc,1,false⟩],x.tb.most⟩ } (hL▸hn) (fun q hq=>h q (hL▸hq))
 have s3:Alone K (wF N) { x with tb:=⟨x.tb.l++ [⟨rc,1,false⟩],x.tb.most⟩,ar:=x.ar.eG (gT N) (L.map Prod.fst) } { x with tb:=⟨x.tb.l++ [⟨rc,1,true⟩],x.tb.most⟩,ar:=x.ar.eG (gT N) (L.map Prod.fst) } 1 0:=
  Alone.do_ _ (by rw [hN];simp only [zJ x.tb]) (vH _ x.tb.l ⟨rc,1,false⟩ ⟨rc,1,true⟩ x.tb.most x.tb.most rfl rfl)
 have hget2: ∀ q∈L,∃ q2,(x.ar.eG (gT N) (L.map Prod.fst)).get q.1=some q2∧q2.ways=q.2.ways:=fun q hq=>by
  refine ⟨gT N q.2,?_,rfl⟩
  rw [iw (kX N) (fun _=>rfl),h q (hL▸hq)]
  show some (if q.1∈L.map Prod.fst then gT N q.2 else q.2)=_
  rw [if_pos (List.mem_map_of_mem hq)]
 have hcut:jZ rc=min keep L.length:=by
  unfold jZ
  rw [hkeep,hnodes,List.length_map,Int.toNat_natCast]
 have hdrop:rc.nodes.drop (jZ rc)=(L.map Prod.fst).drop keep:=by
  rw [hnodes,hcut]
  by_cases hkl:keep≤L.length
  ·rw [Nat.min_eq_left hkl]
  ·rw [Nat.min_eq_right (by omega),List.drop_of_length_le (by rw [List.length_map];exact Nat.le_refl _),List.drop_of_length_le (by rw [List.length_map];omega)]
 have s4:=lZ (K:=K) ((L.map Prod.fst).drop keep) { x with tb:=⟨x.tb.l++ [⟨rc,1,true⟩],x.tb.most⟩,ar:=x.ar.eG (gT N) (L.map Prod.fst) } (fun r hr=>by
  obtain ⟨q,hq,rfl⟩:=List.mem_map.1 (List.mem_of_mem_drop hr)
  obtain ⟨q2,e,_⟩:=hget2 q hq
  exact ⟨q2,e⟩)
 obtain ⟨q3,e3,w3⟩: ∃ q3,((x.ar.eG (gT N) (L.map Prod.fst)).eG nK ((L.map Prod.fst).drop keep)).get p.1=some q3∧q3.ways=p.2.ways:=by
  obtain ⟨q2,e2,w2⟩:=hget2 p (by rw [hL];exact List.mem_cons_self)
  rw [iw nS (fun _=>rfl),e2]
  refine ⟨_,rfl,?_⟩
  split<;>exact w2
 have s5:=wJ (K:=K) (x:= { x with tb:=⟨x.tb.l++ [⟨rc,1,true⟩],x.tb.most⟩,ar:=(x.ar.eG (gT N) (L.map Prod.fst)).eG nK ((L.map Prod.fst).drop keep) }) e3 i (by rw [w3];exact hi) now
 rw [w3,←hold] at s5
 have s6:Alone K (IE N 2) { x with tb:=⟨x.tb.l++ [⟨rc,1,true⟩],x.tb.most⟩,ar:=((x.ar.eG (gT N) (L.map Prod.fst)).eG nK ((L.map Prod.fst).drop keep)).mod p.1 (mX i now) } (iG x L keep i old now) 1 ():=by
  have h1:Alone K (Mv N 2) { x with tb:=⟨x.tb.l++ [⟨rc,1,true⟩],x.tb.most⟩,ar:=((x.ar.eG (gT N) (L.map Prod.fst)).eG nK ((L.map Prod.fst).drop keep)).mod p.1 (mX i now) } (iG x L keep i old now) 1 0:=by
   have e:iG x L keep i old now= { x with tb:=⟨x.tb.l++ [⟨rc,2,true⟩],x.tb.most⟩,ar:=((x.ar.eG (gT N) (L.map Prod.fst)).eG nK ((L.map Prod.fst).drop keep)).mod p.1 (mX i now) }:=by
    unfold iG
    rw [hN,hrc,hL]
    rfl
   rw [e]
   refine Alone.do_ _ ?_ (vH _ x.tb.l ⟨rc,1,true⟩ ⟨rc,2,true⟩ x.tb.most x.tb.most rfl rfl)
   rw [hN]
   simp only [wQ x.tb]
  exact h1.bind (f:=fun _=>dw ()) (Alone.ret _ _)
 have t6:Alone K (qy N) _ _ 1 true:=s6.bind (f:=fun _=>dw true) (Alone.ret _ _)
 have t5:Alone K (je N rc) { x with tb:=⟨x.tb.l++ [⟨rc,1,true⟩],x.tb.most⟩,ar:=(x.ar.eG (gT N) (L.map Prod.fst)).eG nK ((L.map Prod.fst).drop keep) } (iG x L keep i old now) 2 true:=by
  have e:je N rc=aQ (oI p.1 (i:Int) old now) fun _=>qy N:=by
   unfold je
   rw [hrc,hL]
   rfl
  rw [e]
  exact s5.bind (f:=fun _=>qy N) t6
 have t4:=s4.bind (f:=fun _=>je N rc) t5
 have t3:=s3.bind (f:=fun _=>aQ (iE ((L.map Prod.fst).drop keep)) fun _=>je N rc) t4
 have e3:tC N rc=aQ (wF N) fun _=>aQ (iE ((L.map Prod.fst).drop keep)) fun _=>je N rc:=by
  unfold tC
  rw [hdrop]
 rw [←e3] at t3
 have t2:=s2.bind (f:=kL N rc) t3
 have t1:Alone K (pV N) { x with tb:=⟨x.tb.l++ [⟨rc,1,false⟩],x.tb.most⟩ } (iG x L keep i old now) (L.length+(1+(((L.map Prod.fst).drop keep).length+2))) true:=by
  refine t2.of_eq fun y log at_ sp hy=>?_
  have hen:(y.tb.en N).rc=rc:=by
   obtain ⟨e1,h1,h2⟩:=hy.rc x.tb.l.length ⟨rc,1,false⟩ (by
    simp only
    rw [List.getElem?_append_right (Nat.le_refl _),Nat.sub_self]
    rfl)
   have hlt:=(List.getElem?_eq_some_iff.1 h1).1
   unfold Tb.en Tb.idx
   rw [hN,if_pos ⟨by omega,by omega⟩,show ((((x.tb.l.length+1:Nat):Int) - 1).toNat)=x.tb.l.length by omega]
   simp only
   rw [List.getD_eq_getElem?_getD,h1]
   exact h2
  unfold pV
  simp only [hen]
  rw [if_pos ⟨by rw [hnodes,hinfos,List.length_map,List.length_map],by rw [hkeep];omega,by rw [hkeep];omega⟩,hnodes,hinfos]
  congr 1
  congr 1
  rw [List.zip_map']
 have t0:=s1.bind (f:=fun n=>if n=0 then dw (false,true) else aQ (pV n) fun b=>dw (b,false)) (x2:=iG x L keep i old now) (n2:=L.length+(1+(((L.map Prod.fst).drop keep).length+2))+0) (b:=(true,false)) (by
  rw [if_neg (by rw [hN];omega)]
  exact t1.bind (f:=fun b=>dw (b,false)) (Alone.ret (true,false) (iG x L keep i old now)))
 have eS:sP (L.map fun q=>nP q.1 q.2) (keep:Int) (i:Int) old now=aQ (storeT rc) fun n=>if n=0 then dw (false,true) else aQ (pV n) fun b=>dw (b,false):=by
  unfold sP
  rw [List.map_map,List.map_map,hrc]
  rfl
 rw [←hold,←hL,eS]
 exact t0.cast (by rw [List.length_drop,List.length_map,hL,List.length_cons];omega)
end Go.Proofs.YtmnjjdeaccgjlaaGreat.Tower
