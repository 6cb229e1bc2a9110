/- Words and contracts that the claim stands on, part 5 of 7. -/
import Derived.Test.YtmnjjdeaccgjlaaGreatGStageNew0
import Derived.Test.YtmnjjdeaccgjlaaGreatGStageNew1
import Derived.Test.YtmnjjdeaccgjlaaGreatGStageNew2
import Derived.Test.YtmnjjdeaccgjlaaGreatGStageNew3
import Derived.Laws.ResultCell
set_option linter.unusedSimpArgs false
set_option linter.unusedVariables false
set_option maxHeartbeats 8000000
set_option maxRecDepth 100000
namespace Go.Proofs.YtmnjjdeaccgjlaaGreat.PAskAlone
open Go.RowKit Go.Proofs.YtmnjjdeaccgjlaaGreatW.PrintWords Go.Proofs.YtmnjjdeaccgjlaaGreatW.PrintLast Go.Proofs.YtmnjjdeaccgjlaaGreatW.PrintMore
attribute [local go_sem] iH iJ jm jo gH gJ iI iK
mutual
def aQ.j0:Nat→List Int→Bool→Option (Int × Bool × Int × Int × (List (gy)) × Bool)
 | 0,_,_=>none
 | k+1,x0,x13=>if x13=true then (some (0,false,0,0,([]:List (gy)),false)) else (if 0<(x0.length:Int) then (if 1<(x0.length:Int) then (if 2<(x0.length:Int) then (if 3<(x0.length:Int) then (if 4<(x0.length:Int) then (aQ.l0 k x0 5 (rd x0 0) ((rd x0 1) == 1) (rd x0 2) (rd x0 3) ([]:List (gy)) ((rd x0 4) == 1)) else (none)) else (none)) else (none)) else (none)) else (none))
def aQ.l0:Nat→List Int→Int→Int→Bool→Int→Int→List (gy)→Bool→Option (Int × Bool × Int × Int × (List (gy)) × Bool)
 | 0,_,_,_,_,_,_,_,_=>none
 | k+1,x0,x4,x349000,x349001,x349002,x349003,x349004,x349005=>if x4<(x0.length:Int) then (if 0≤x4 then (if 0≤(wrap64 (x4+1)) then (if (wrap64 (x4+1))<(x0.length:Int) then (if x349004.length<8796093022208 then (aQ.l0 k x0 (wrap64 (x4+2)) x349000 x349001 x349002 x349003 (x349004++ [(⟨rd x0 x4,rd x0 (wrap64 (x4+1))⟩:gy)]) x349005) else (none)) else (none)) else (none)) else (none)) else (some (x349000,x349001,x349002,x349003,x349004,x349005))
end
def aQ.f (k:Nat) (l0:List Int):Option (Int × Bool × Int × Int × (List (gy)) × Bool):=if (l0.length:Int)<5 then (aQ.j0 k l0 true) else (aQ.j0 k l0 (((l0.length:Int) % 2) == 0))
def aQ.T3:Bool × List (List Nat × List Nat):=(true,[([],[]),([0],[0]),([1],[1]),([],[]),([3],[3]),([4],[4]),([5],[5]),([],[]),([7],[7]),([8],[8]),([],[]),([10],[10]),([11],[11]),([],[]),([13],[13]),([14],[14]),([15],[15]),([2,6,9,12,16],[2,6,9,12,16]),([],[]),([18,17,0,1,2,3,4,5,6,7,8,9,10,11,12,13,14,15,16,17,18],[17,18])])
def aQ.B3:List Nat:= [0,1,3,0,8,24,56,0,128,384,0,1024,3072,0,8192,24576,57344,131071,0,524287]
theorem aQ.NZ:fq .any (opsOf Tryz.f61 3)=aQ.T3:=by kernel_rfl
theorem aQ.MI:bA aQ.T3.2 aQ.B3=true:=by kernel_rfl
def aQ.T7:Bool × List (List Nat × List Nat):=(true,[([],[]),([0],[0]),([],[]),([],[]),([2,3],[2,3]),([4],[4]),([],[]),([],[]),([7],[7]),([6,8],[6,8]),([9],[9]),([5,10],[5,10]),([11],[11]),([1,12],[1,12]),([0,1,2,3,4,5,6,7,8,9,10,11,12,13],[]),([14,13,13,0,1,2,3,4,5,6,7,8,9,10,11,12,13],[13,14])])
def aQ.B7:List Nat:= [0,1,0,0,12,28,0,0,128,448,960,2044,4092,8191,16383,32767]
theorem aQ.Oa:fq .any (opsOf Tryz.f61 7)=aQ.T7:=by kernel_rfl
theorem aQ.MJ:bA aQ.T7.2 aQ.B7=true:=by kernel_rfl
theorem aQ.calls (k:Nat) (A0:Option Addr) (c0:Nat) (l0:List Int) (r1:Int) (r2:Bool) (r3:Int) (r4:Int) (r5:List (gy)) (r6:Bool) (w:World) (hr0:Kd.C (Kd.int .i64) w A0 l0.length l0) (hc0:l0.length≤c0) (h:aQ.f k l0=some (r1,r2,r3,r4,r5,r6)):
  Calls Tryz.prog 61 #[.slice A0 l0.length c0] w fun e w'=> ∃ v4_:Value,e= .returned (.agg #[.int .i64 r1,.bool r2,.int .i64 r3,.int .i64 r4,v4_,.bool r6])∧Kd.R mE 121 w' w.heap.size (fun _=>True) v4_ r5∧Below w.heap.size w w':=by
 have hu58:=Tryz.underlying58
 have hu121:=Tryz.underlying121
 have HR0:=Am_ hr0
 have HC0:=Am_ hc0
 clear hr0 hc0
 have HB:=Am_ (Below.refl w.heap.size w)
 have H:(if (l0.length:Int)<5 then (aQ.j0 k l0 true) else (aQ.j0 k l0 (((l0.length:Int) % 2) == 0)))=some (r1,r2,r3,r4,r5,r6):=h
 clear h
 have HC2:=Am_ H
 clear H
 go_enter Tryz.func61,Tryz.ntmps61
 go_upto_region 1 with (first | ((with_reducible refine fH (N:=2) rfl ?_);(try (refine xE (by rfl) ?_;dsimp only));refine eZ ?hg (N:=2) ?hd (cs:= #[.int .i64 0,.bool false,.int .i64 0,.int .i64 0,.slice none 0 0,.bool false]) (t:=58) ?hr ?_;(case hd=>rfl);(case hg=>rfl);(case hr=>first | (go_simp;done) | (go_simp;rfl));intro gb342 hg w3 hbox hb;have n0_:=Am_ (dJ (by repeat (first | (with_reducible first | exact HB.out | apply ai | apply au | apply aA) | exact HB.out)) hb);have n1_:=Am_ (hbox);have n2_:=Am_ ((by rw [hg];exact (bB (by repeat (first | (with_reducible first | exact HB.out | apply ai | apply au | apply aA) | exact HB.out))):w.heap.size≤gb342));have n3_:=Am_ ((by rw [hg];exact (bB (by repeat (first | (with_reducible first | exact HB.out | apply ai | apply au | apply aA) | exact HB.out))):w.heap.size≤gb342));clear HB;have HB:=n0_;have BK342:=n1_;have GW342:=n2_;have GE342:=n3_;clear n0_ n1_ n2_ n3_;clear hb hbox hg))
 (try simp only [Act.put,u1_,u2_,u3_])
 go_cut [13] (fun v13 wc=> ∃ (kq:Nat) (x13_1:Bool),v13= .bool x13_1∧ak (aQ.j0 kq l0 x13_1=some (r1,r2,r3,r4,r5,r6))∧ak (kq≤k)∧ak (wc.heap[gb342]?=some (.cells #[.int .i64 0,.bool false,.int .i64 0,.int .i64 0,(.slice none 0 0),.bool false] 58 (0,0)))∧ak (Below w.heap.size w wc))
 case first=>
  have H:=HC2.out
  clear HC2
  by_cases c4:(l0.length:Int)<5
  ·rw [if_pos c4] at H
   have c4b0:decide ((l0.length:Int)<5)=true:=decide_eq_true c4
   have c4b1:decide (l0.length<5)=true:=decide_eq_true (by omega)
   clear c4
   (first | rw [c4b0] | (simp only [ax,ay];rw [c4b0]) | skip)
   have H':=Am_ H
   clear H
   go_wp2
   go_meet
   case rel=>exact ⟨_,(true),(by first | rfl | (simp;done) | (simp [*];done)),H',⟨by first | omega | exact Nat.le_refl _⟩,⟨by (with_reducible repeat (first | refine aG ?_ _ | refine aI ?_ | refine aC ?_ _));exact BK342.out⟩,⟨by repeat (first | (with_reducible first | exact HB.out | apply ai | apply au | apply aA | refine aN ?_ GE342.out) | exact HB.out)⟩⟩
  ·rw [if_neg c4] at H
   have c4b0:decide ((l0.length:Int)<5)=false:=decide_eq_false c4
   have c4b1:decide (l0.length<5)=false:=decide_eq_false (by omega)
   clear c4
   (first | rw [c4b0] | (simp only [ax,ay];rw [c4b0]) | skip)
   have H':=Am_ H
   clear H
   go_wp2
   go_meet
   case rel=>exact ⟨_,((((l0.length:Int) % 2) == 0)),(by first | rfl | (simp;done) | (simp [*];done)),H',⟨by first | omega | exact Nat.le_refl _⟩,⟨by (with_reducible repeat (first | refine aG ?_ _ | refine aI ?_ | refine aC ?_ _));exact BK342.out⟩,⟨by repeat (first | (with_reducible first | exact HB.out | apply ai | apply au | apply aA | refine aN ?_ GE342.out) | exact HB.out)⟩⟩
 case rest=>
  clear HC2
  try clear p2
  try clear c4
  try clear c4b0
  try clear c4b1
  obtain ⟨kq,x13_1,rfl,HA,HJ1,BK342,HB⟩:=hcut
  cases kq with
  | zero=>exact absurd HA.out (by simp [aQ.j0])
  | succ kj1=>
   have H:=HA.out
   clear HA
   simp only [aQ.j0] at H
   by_cases c5:x13_1=true
   ·subst c5
    have H1:(some (0,false,0,0,([]:List (gy)),false))=some (r1,r2,r3,r4,r5,r6):=by rw [if_pos rfl] at H;exact H
    clear H
    have H:=H1
    clear H1
    simp only [Option.some.injEq,Prod.mk.injEq] at H
    obtain ⟨rfl,rfl,rfl,rfl,rfl,rfl⟩:=H
    have hcz6_0:wc.cell? ⟨gb342,0,none⟩=some (.int .i64 0):=(af BK342.out 0).trans rfl
    have hcz6_1:wc.cell? ⟨gb342,1,none⟩=some (.bool false):=(af BK342.out 1).trans rfl
    have hcz6_2:wc.cell? ⟨gb342,2,none⟩=some (.int .i64 0):=(af BK342.out 2).trans rfl
    have hcz6_3:wc.cell? ⟨gb342,3,none⟩=some (.int .i64 0):=(af BK342.out 3).trans rfl
    have hcz6_4:wc.cell? ⟨gb342,4,none⟩=some (.slice none 0 0):=(af BK342.out 4).trans rfl
    have hcz6_5:wc.cell? ⟨gb342,5,none⟩=some (.bool false):=(af BK342.out 5).trans rfl
    have hfz6_0:=ah BK342.out 0
    have hfz6_1:=ah BK342.out 1
    have hfz6_2:=ah BK342.out 2
    have hfz6_3:=ah BK342.out 3
    have hfz6_4:=ah BK342.out 4
    have hfz6_5:=ah BK342.out 5
    go_wp2
    refine bodyPost_ret (results_cell_row rfl _ _ gb342 58 #[.int .i64 0,.bool false,.int .i64 0,.int .i64 0,.slice none 0 0,.bool false] (0,0) _ rfl (by (with_reducible repeat (first | refine aG ?_ _ | refine aI ?_ | refine aC ?_ _));refine eH (cs:= #[.int .i64 0,.bool false,.int .i64 0,.int .i64 0,.slice none 0 0,.bool false]) ?_ 5 _ rfl;(with_reducible repeat (first | refine aG ?_ _ | refine aI ?_ | refine aC ?_ _));refine eH (cs:= #[.int .i64 0,.bool false,.int .i64 0,.int .i64 0,.slice none 0 0,.bool false]) ?_ 4 _ rfl;(with_reducible repeat (first | refine aG ?_ _ | refine aI ?_ | refine aC ?_ _));refine eH (cs:= #[.int .i64 0,.bool false,.int .i64 0,.int .i64 0,.slice none 0 0,.bool false]) ?_ 3 _ rfl;(with_reducible repeat (first | refine aG ?_ _ | refine aI ?_ | refine aC ?_ _));refine eH (cs:= #[.int .i64 0,.bool false,.int .i64 0,.int .i64 0,.slice none 0 0,.bool false]) ?_ 2 _ rfl;(with_reducible repeat (first | refine aG ?_ _ | refine aI ?_ | refine aC ?_ _));refine eH (cs:= #[.int .i64 0,.bool false,.int .i64 0,.int .i64 0,.slice none 0 0,.bool false]) ?_ 1 _ rfl;(with_reducible repeat (first | refine aG ?_ _ | refine aI ?_ | refine aC ?_ _));refine eH (cs:= #[.int .i64 0,.bool false,.int .i64 0,.int .i64 0,.slice none 0 0,.bool false]) ?_ 0 _ rfl;(with_reducible repeat (first | refine aG ?_ _ | refine aI ?_ | refine aC ?_ _));exact BK342.out) Tryz.underlying58 rfl (by kernel_rfl)) rfl ?_
    exact ⟨_,by first | rfl | (simp [dP,dQ]<;>rfl) | (simp [*,dP,dQ]<;>rfl),by first | exact Kd.fI _ _ _ _ _ | exact Kd.Kg _ _ _ _ _ | exact Kd.KM _ _ _ _ _ | exact Kd.CY _ _ _ _ _ | exact Kd.Kt _ _ _ _ _,by repeat (first | (with_reducible first | exact HB.out | apply ai | apply au | apply aA | refine aN ?_ GE342.out) | exact HB.out)⟩
   ·replace c5:=Bool.eq_false_iff.mpr c5
    subst c5
    have H1:(if 0<(l0.length:Int) then (if 1<(l0.length:Int) then (if 2<(l0.length:Int) then (if 3<(l0.length:Int) then (if 4<(l0.length:Int) then (aQ.l0 kj1 l0 5 (rd l0 0) ((rd l0 1) == 1) (rd l0 2) (rd l0 3) ([]:List (gy)) ((rd l0 4) == 1)) else (none)) else (none)) else (none)) else (none)) else (none))=some (r1,r2,r3,r4,r5,r6):=by rw [if_neg (show ¬ (false=true) by decide)] at H;exact H
    clear H
    have H:=H1
    clear H1
    by_cases c7:0<(l0.length:Int)
    ·rw [if_pos c7] at H
     have c7b0:decide (0<(l0.length:Int))=true:=decide_eq_true c7
     have c7b1:decide (0<l0.length)=true:=decide_eq_true (by omega)
     clear c7
     by_cases c8:1<(l0.length:Int)
     ·rw [if_pos c8] at H
      have c8b0:decide (1<(l0.length:Int))=true:=decide_eq_true c8
      have c8b1:decide (1<l0.length)=true:=decide_eq_true (by omega)
      clear c8
      by_cases c9:2<(l0.length:Int)
      ·rw [if_pos c9] at H
       have c9b0:decide (2<(l0.length:Int))=true:=decide_eq_true c9
       have c9b1:decide (2<l0.length)=true:=decide_eq_true (by omega)
       clear c9
       by_cases c10:3<(l0.length:Int)
       ·rw [if_pos c10] at H
        have c10b0:decide (3<(l0.length:Int))=true:=decide_eq_true c10
        have c10b1:decide (3<l0.length)=true:=decide_eq_true (by omega)
        clear c10
        by_cases c11:4<(l0.length:Int)
        ·rw [if_pos c11] at H
         have c11b0:decide (4<(l0.length:Int))=true:=decide_eq_true c11
         have c11b1:decide (4<l0.length)=true:=decide_eq_true (by omega)
         clear c11
         have H':=Am_ H
         clear H
         try go_wp2
         have n0_:=Am_ (aI BK342.out)
         have n1_:=Am_ (aA HB.out)
         clear BK342
         clear HB
         have BK342:=n0_
         have HB:=n1_
         clear n0_ n1_
         have p343:0≤(0:Int):=(by omega)
         have q343:0<(l0.length:Int):=of_decide_eq_true (by first | (with_reducible assumption) | assumption)
         obtain ⟨ad343,e343,hx343_0⟩:=Kd.kG HR0.out 0 p343 q343
         have hw343_0:=hx343_0
         (try rw [show ((0:Int)).toNat=0 from rfl] at hw343_0)
         (try rw [show 0*1=0 from rfl] at hw343_0)
         (try rw [Addr.add_zero'] at hw343_0)
         cases e343
         have qi343:(0<l0.length)=True:=eq_true (by omega)
         (try rw [show ((0:Int)).toNat=0 from rfl] at hx343_0)
         (try rw [Addr.add_zero'] at hx343_0)
         replace hx343_0:=(HB.out.cell (World.block_lt_of_cell? w _ hx343_0)).trans hx343_0
         replace p343:=eq_true p343
         replace q343:=eq_true q343
         have p344:0≤(1:Int):=(by omega)
         have q344:1<(l0.length:Int):=of_decide_eq_true (by first | (with_reducible assumption) | assumption)
         obtain ⟨ad344,e344,hx344_0⟩:=Kd.kG HR0.out 1 p344 q344
         have hw344_0:=hx344_0
         (try rw [show ((1:Int)).toNat=1 from rfl] at hw344_0)
         (try rw [show 1*1=1 from rfl] at hw344_0)
         (try simp only [Nat.reduceMul,Nat.reduceEqDiff,Go.Addr.add,↓reduceIte] at hw344_0)
         obtain rfl:ad343=ad344:=(by injection e344)
         (try simp only [show (1:Int).toNat=1 from rfl,Nat.reduceMul,Nat.reduceEqDiff,Go.Addr.add,↓reduceIte] at hx344_0)
         have qi344:(1<l0.length)=True:=eq_true (by omega)
         (try rw [show ((1:Int)).toNat=1 from rfl] at hx344_0)
         replace hx344_0:=(HB.out.cell (World.block_lt_of_cell? w _ hx344_0)).trans hx344_0
         replace p344:=eq_true p344
         replace q344:=eq_true q344
         have p345:0≤(2:Int):=(by omega)
         have q345:2<(l0.length:Int):=of_decide_eq_true (by first | (with_reducible assumption) | assumption)
         obtain ⟨ad345,e345,hx345_0⟩:=Kd.kG HR0.out 2 p345 q345
         have hw345_0:=hx345_0
         (try rw [show ((2:Int)).toNat=2 from rfl] at hw345_0)
         (try rw [show 2*1=2 from rfl] at hw345_0)
         (try simp only [Nat.reduceMul,Nat.reduceEqDiff,Go.Addr.add,↓reduceIte] at hw345_0)
         obtain rfl:ad343=ad345:=(by injection e345)
         (try simp only [show (2:Int).toNat=2 from rfl,Nat.reduceMul,Nat.reduceEqDiff,Go.Addr.add,↓reduceIte] at hx345_0)
         have qi345:(2<l0.length)=True:=eq_true (by omega)
         (try rw [show ((2:Int)).toNat=2 from rfl] at hx345_0)
         replace hx345_0:=(HB.out.cell (World.block_lt_of_cell? w _ hx345_0)).trans hx345_0
         replace p345:=eq_true p345
         replace q345:=eq_true q345
         have p346:0≤(3:Int):=(by omega)
         have q346:3<(l0.length:Int):=of_decide_eq_true (by first | (with_reducible assumption) | assumption)
         obtain ⟨ad346,e346,hx346_0⟩:=Kd.kG HR0.out 3 p346 q346
         have hw346_0:=hx346_0
         (try rw [show ((3:Int)).toNat=3 from rfl] at hw346_0)
         (try rw [show 3*1=3 from rfl] at hw346_0)
         (try simp only [Nat.reduceMul,Nat.reduceEqDiff,Go.Addr.add,↓reduceIte] at hw346_0)
         obtain rfl:ad343=ad346:=(by injection e346)
         (try simp only [show (3:Int).toNat=3 from rfl,Nat.reduceMul,Nat.reduceEqDiff,Go.Addr.add,↓reduceIte] at hx346_0)
         have qi346:(3<l0.length)=True:=eq_true (by omega)
         (try rw [show ((3:Int)).toNat=3 from rfl] at hx346_0)
         replace hx346_0:=(HB.out.cell (World.block_lt_of_cell? w _ hx346_0)).trans hx346_0
         replace p346:=eq_true p346
         replace q346:=eq_true q346
         have p347:0≤(4:Int):=(by omega)
         have q347:4<(l0.length:Int):=of_decide_eq_true (by first | (with_reducible assumption) | assumption)
         obtain ⟨ad347,e347,hx347_0⟩:=Kd.kG HR0.out 4 p347 q347
         have hw347_0:=hx347_0
         (try rw [show ((4:Int)).toNat=4 from rfl] at hw347_0)
         (try rw [show 4*1=4 from rfl] at hw347_0)
         (try simp only [Nat.reduceMul,Nat.reduceEqDiff,Go.Addr.add,↓reduceIte] at hw347_0)
         obtain rfl:ad343=ad347:=(by injection e347)
         (try simp only [show (4:Int).toNat=4 from rfl,Nat.reduceMul,Nat.reduceEqDiff,Go.Addr.add,↓reduceIte] at hx347_0)
         have qi347:(4<l0.length)=True:=eq_true (by omega)
         (try rw [show ((4:Int)).toNat=4 from rfl] at hx347_0)
         replace hx347_0:=(HB.out.cell (World.block_lt_of_cell? w _ hx347_0)).trans hx347_0
         replace p347:=eq_true p347
         replace q347:=eq_true q347
         refine jL (n:=20) (S:=fun w'=>w'.cell? ad343=some (.int .i64 (rd l0 0))∧w'.cell? ⟨ad343.block,ad343.off+1,none⟩=some (.int .i64 (rd l0 1))∧w'.cell? ⟨ad343.block,ad343.off+2,none⟩=some (.int .i64 (rd l0 2))∧w'.cell? ⟨ad343.block,ad343.off+3,none⟩=some (.int .i64 (rd l0 3))∧w'.cell? ⟨ad343.block,ad343.off+4,none⟩=some (.int .i64 (rd l0 4))) (ds:= []) #[N_,N_,N_,N_,N_,N_,N_,N_,N_,N_,N_,N_,N_,N_,N_,N_,N_,N_,N_,N_] (by kernel_rfl) rfl rfl ⟨((HB.out.cell (World.block_lt_of_cell? w _ hw343_0)).trans hw343_0),((HB.out.cell (World.block_lt_of_cell? w _ hw344_0)).trans hw344_0),((HB.out.cell (World.block_lt_of_cell? w _ hw345_0)).trans hw345_0),((HB.out.cell (World.block_lt_of_cell? w _ hw346_0)).trans hw346_0),((HB.out.cell (World.block_lt_of_cell? w _ hw347_0)).trans hw347_0)⟩ (fun hHeld=>?_);refine fU aQ.NZ aQ.MI (fun HT_ HW_=>?_)
         generalize wc.drew=w12 at BK342 HB hx343_0 hx344_0 hx345_0 hx346_0 hx347_0 hHeld ⊢
         refine bS (i:=0) (N:=some 15) (v:=?_) (a':=?_) #[Y_,N_,N_,N_,N_,N_,N_,N_,N_,N_,N_,N_,N_,N_,N_,N_,N_,N_,N_,N_] rfl rfl (bf HT_.out (by kernel_rfl)) (fun _ _ _ h=>h) (Or.inl ⟨by rfl,?_⟩) ?_ ?_
         rotate_left; · intro w';go_simp;with_reducible rfl
         rotate_left; · simp only [Act.put,u1_,u2_,u3_,ax,ay];rfl
         refine bS (i:=1) (N:=some 16) (v:=?_) (a':=?_) #[Y_,Y_,N_,N_,N_,N_,N_,N_,N_,N_,N_,N_,N_,N_,N_,N_,N_,N_,N_,N_] rfl rfl (bf HT_.out (by kernel_rfl)) (fun _ _ _ h=>h) (Or.inl ⟨by rfl,?_⟩) ?_ ?_
         rotate_left; · intro w';go_simp;with_reducible rfl
         rotate_left; · simp only [Act.put,u1_,u2_,u3_,ax,ay];rfl
         refine bS (i:=3) (N:=some 18) (v:=?_) (a':=?_) #[Y_,Y_,N_,Y_,N_,N_,N_,N_,N_,N_,N_,N_,N_,N_,N_,N_,N_,N_,N_,N_] rfl rfl (bf HT_.out (by kernel_rfl)) (fun _ _ _ h=>h) (Or.inl ⟨by rfl,?_⟩) ?_ ?_
         rotate_left; · intro w';go_simp;with_reducible rfl
         rotate_left; · simp only [Act.put,u1_,u2_,u3_,ax,ay];rfl
         refine bS (i:=4) (N:=some 19) (v:=?_) (a':=?_) #[Y_,Y_,N_,Y_,Y_,N_,N_,N_,N_,N_,N_,N_,N_,N_,N_,N_,N_,N_,N_,N_] rfl rfl (bf HT_.out (by kernel_rfl)) (fun _ _ _ h=>h) (Or.inl ⟨by rfl,?_⟩) ?_ ?_
         rotate_left; · intro w';go_simp;with_reducible rfl
         rotate_left; · simp only [Act.put,u1_,u2_,u3_,ax,ay];rfl
         refine bS (i:=7) (N:=some 22) (v:=?_) (a':=?_) #[Y_,Y_,N_,Y_,Y_,N_,N_,Y_,N_,N_,N_,N_,N_,N_,N_,N_,N_,N_,N_,N_] rfl rfl (bf HT_.out (by kernel_rfl)) (fun _ _ _ h=>h) (Or.inl ⟨by rfl,?_⟩) ?_ ?_
         rotate_left; · intro w';go_simp;with_reducible rfl
         rotate_left; · simp only [Act.put,u1_,u2_,u3_,ax,ay];rfl
         refine bS (i:=8) (N:=some 23) (v:=?_) (a':=?_) #[Y_,Y_,N_,Y_,Y_,N_,N_,Y_,Y_,N_,N_,N_,N_,N_,N_,N_,N_,N_,N_,N_] rfl rfl (bf HT_.out (by kernel_rfl)) (fun _ _ _ h=>h) (Or.inl ⟨by rfl,?_⟩) ?_ ?_
         rotate_left; · intro w';go_simp;with_reducible rfl
         rotate_left; · simp only [Act.put,u1_,u2_,u3_,ax,ay];rfl
         refine bS (i:=10) (N:=some 25) (v:=?_) (a':=?_) #[Y_,Y_,N_,Y_,Y_,N_,N_,Y_,Y_,N_,Y_,N_,N_,N_,N_,N_,N_,N_,N_,N_] rfl rfl (bf HT_.out (by kernel_rfl)) (fun _ _ _ h=>h) (Or.inl ⟨by rfl,?_⟩) ?_ ?_
         rotate_left; · intro w';go_simp;with_reducible rfl
         rotate_left; · simp only [Act.put,u1_,u2_,u3_,ax,ay];rfl
         refine bS (i:=11) (N:=some 26) (v:=?_) (a':=?_) #[Y_,Y_,N_,Y_,Y_,N_,N_,Y_,Y_,N_,Y_,Y_,N_,N_,N_,N_,N_,N_,N_,N_] rfl rfl (bf HT_.out (by kernel_rfl)) (fun _ _ _ h=>h) (Or.inl ⟨by rfl,?_⟩) ?_ ?_
         rotate_left; · intro w';go_simp;with_reducible rfl
         rotate_left; · simp only [Act.put,u1_,u2_,u3_,ax,ay];rfl
         refine bS (i:=13) (N:=some 28) (v:=?_) (a':=?_) #[Y_,Y_,N_,Y_,Y_,N_,N_,Y_,Y_,N_,Y_,Y_,N_,Y_,N_,N_,N_,N_,N_,N_] rfl rfl (bf HT_.out (by kernel_rfl)) (fun _ _ _ h=>h) (Or.inl ⟨by rfl,?_⟩) ?_ ?_
         rotate_left; · intro w';go_simp;with_reducible rfl
         rotate_left; · simp only [Act.put,u1_,u2_,u3_,ax,ay];rfl
         refine bS (i:=14) (N:=some 29) (v:=?_) (a':=?_) #[Y_,Y_,N_,Y_,Y_,N_,N_,Y_,Y_,N_,Y_,Y_,N_,Y_,Y_,N_,N_,N_,N_,N_] rfl rfl (bf HT_.out (by kernel_rfl)) (fun _ _ _ h=>h) (Or.inl ⟨by rfl,?_⟩) ?_ ?_
         rotate_left; · intro w';go_simp;with_reducible rfl
         rotate_left; · simp only [Act.put,u1_,u2_,u3_,ax,ay];rfl
         refine fw (i:=2) (N:=some 17) (v:=?_) (a':=?_) #[Y_,Y_,Y_,Y_,Y_,N_,N_,Y_,Y_,N_,Y_,Y_,N_,Y_,Y_,N_,N_,N_,N_,N_] rfl rfl (bN HT_.out HW_.out (by kernel_rfl)) (fun _ _ _ h=>h) (Or.inl ⟨by rfl,?_⟩) hHeld ?_ ?_
         rotate_left; · rintro w' ⟨s0,s1,s2,s3,s4⟩;go_simp;with_reducible rfl
         rotate_left; · simp only [Act.put,u1_,u2_,u3_,ax,ay];rfl
         refine fw (i:=5) (N:=some 20) (v:=?_) (a':=?_) #[Y_,Y_,Y_,Y_,Y_,Y_,N_,Y_,Y_,N_,Y_,Y_,N_,Y_,Y_,N_,N_,N_,N_,N_] rfl rfl (bN HT_.out HW_.out (by kernel_rfl)) (fun _ _ _ h=>h) (Or.inl ⟨by rfl,?_⟩) hHeld ?_ ?_
         rotate_left; · rintro w' ⟨s0,s1,s2,s3,s4⟩;go_simp;with_reducible rfl
         rotate_left; · simp only [Act.put,u1_,u2_,u3_,ax,ay];rfl
         refine bS (i:=6) (N:=some 21) (v:=?_) (a':=?_) #[Y_,Y_,Y_,Y_,Y_,Y_,Y_,Y_,Y_,N_,Y_,Y_,N_,Y_,Y_,N_,N_,N_,N_,N_] rfl rfl (bf HT_.out (by kernel_rfl)) (fun _ _ _ h=>h) (Or.inl ⟨by rfl,?_⟩) ?_ ?_
         rotate_left; · intro w';go_simp;with_reducible rfl
         rotate_left; · simp only [Act.put,u1_,u2_,u3_,ax,ay];rfl
         refine fw (i:=9) (N:=some 24) (v:=?_) (a':=?_) #[Y_,Y_,Y_,Y_,Y_,Y_,Y_,Y_,Y_,Y_,Y_,Y_,N_,Y_,Y_,N_,N_,N_,N_,N_] rfl rfl (bN HT_.out HW_.out (by kernel_rfl)) (fun _ _ _ h=>h) (Or.inl ⟨by rfl,?_⟩) hHeld ?_ ?_
         rotate_left; · rintro w' ⟨s0,s1,s2,s3,s4⟩;go_simp;with_reducible rfl
         rotate_left; · simp only [Act.put,u1_,u2_,u3_,ax,ay];rfl
         refine fw (i:=12) (N:=some 27) (v:=?_) (a':=?_) #[Y_,Y_,Y_,Y_,Y_,Y_,Y_,Y_,Y_,Y_,Y_,Y_,Y_,Y_,Y_,N_,N_,N_,N_,N_] rfl rfl (bN HT_.out HW_.out (by kernel_rfl)) (fun _ _ _ h=>h) (Or.inl ⟨by rfl,?_⟩) hHeld ?_ ?_
         rotate_left; · rintro w' ⟨s0,s1,s2,s3,s4⟩;go_simp;with_reducible rfl
         rotate_left; · simp only [Act.put,u1_,u2_,u3_,ax,ay];rfl
         refine fw (i:=15) (N:=some 30) (v:=?_) (a':=?_) #[Y_,Y_,Y_,Y_,Y_,Y_,Y_,Y_,Y_,Y_,Y_,Y_,Y_,Y_,Y_,Y_,N_,N_,N_,N_] rfl rfl (bN HT_.out HW_.out (by kernel_rfl)) (fun _ _ _ h=>h) (Or.inl ⟨by rfl,?_⟩) hHeld ?_ ?_
         rotate_left; · rintro w' ⟨s0,s1,s2,s3,s4⟩;go_simp;with_reducible rfl
         rotate_left; · simp only [Act.put,u1_,u2_,u3_,ax,ay];rfl
         refine bS (i:=16) (N:=some 31) (v:=?_) (a':=?_) #[Y_,Y_,Y_,Y_,Y_,Y_,Y_,Y_,Y_,Y_,Y_,Y_,Y_,Y_,Y_,Y_,Y_,N_,N_,N_] rfl rfl (bf HT_.out (by kernel_rfl)) (fun _ _ _ h=>h) (Or.inl ⟨by rfl,?_⟩) ?_ ?_
         rotate_left; · intro w';go_simp;with_reducible rfl
         rotate_left; · simp only [Act.put,u1_,u2_,u3_,ax,ay];rfl
         refine bS (i:=17) (N:=some 32) (v:=?_) (a':=?_) #[Y_,Y_,Y_,Y_,Y_,Y_,Y_,Y_,Y_,Y_,Y_,Y_,Y_,Y_,Y_,Y_,Y_,Y_,N_,N_] rfl rfl (bf HT_.out (by kernel_rfl)) (fun _ _ _ h=>h) (Or.inl ⟨by rfl,?_⟩) ?_ ?_
         rotate_left; · intro w';go_simp;with_reducible rfl
         rotate_left; · simp only [Act.put,u1_,u2_,u3_,ax,ay];rfl
         refine nS (i:=18) (N:=some 3) #[Y_,Y_,Y_,Y_,Y_,Y_,Y_,Y_,Y_,Y_,Y_,Y_,Y_,Y_,Y_,Y_,Y_,Y_,Y_,N_] rfl rfl (dV HT_.out (by kernel_rfl)) (by decide) (fun K hK=>?_)
         refine Dy ?hg (N:=3) ?hd (cs:= #[.int .i64 0,.bool false,.int .i64 0,.int .i64 0,.slice none 0 0,.bool false]) (t:=58) ?hr ?_;(case hd=>rfl);(case hg=>rfl);(case hr=>first | (go_simp;done) | (go_simp;rfl))
         intro gb348 hg w13 hbox hb
         have n0_:=Am_ (bF (g:=gb342) (o:= .cells #[.int .i64 0,.bool false,.int .i64 0,.int .i64 0,.slice none 0 0,.bool false] 58 (0,0)) (by (with_reducible repeat (first | refine aG ?_ _ | refine aI ?_ | refine aC ?_ _));exact BK342.out) hb)
         have n1_:=Am_ (dJ (by repeat (first | (with_reducible first | exact HB.out | apply ai | apply au | apply aA | refine aN ?_ GE342.out) | exact HB.out)) hb)
         have n2_:=Am_ (hbox)
         have n3_:=Am_ ((by rw [hg];exact (bB (by repeat (first | (with_reducible first | exact HB.out | apply ai | apply au | apply aA | refine aN ?_ GE342.out) | exact HB.out))):w.heap.size≤gb348))
         have n4_:=Am_ ((by rw [hg];exact (bB (by repeat (first | (with_reducible first | exact HB.out | apply ai | apply au | apply aA | refine aN ?_ GE342.out) | exact HB.out))):w.heap.size≤gb348))
         have n5_:=Am_ ((by rw [hg];exact Nat.ne_of_lt (bD (g:=gb342) (o:= .cells #[.int .i64 0,.bool false,.int .i64 0,.int .i64 0,.slice none 0 0,.bool false] 58 (0,0)) (by (with_reducible repeat (first | refine aG ?_ _ | refine aI ?_ | refine aC ?_ _));exact BK342.out)):gb342≠gb348))
         have n6_:=Am_ ((by rw [hg];exact Nat.ne_of_gt (bD (g:=gb342) (o:= .cells #[.int .i64 0,.bool false,.int .i64 0,.int .i64 0,.slice none 0 0,.bool false] 58 (0,0)) (by (with_reducible repeat (first | refine aG ?_ _ | refine aI ?_ | refine aC ?_ _));exact BK342.out)):gb348≠gb342))
         clear BK342
         clear HB
         have BK342:=n0_
         have HB:=n1_
         have BK348:=n2_
         have GW348:=n3_
         have GE348:=n4_
         have NB342_348:=n5_
         have NB348_342:=n6_
         clear n0_ n1_ n2_ n3_ n4_ n5_ n6_
         clear hb hbox hg
         refine hK.out _ _ ⟨((HB.out.cell (World.block_lt_of_cell? w _ hw343_0)).trans hw343_0),((HB.out.cell (World.block_lt_of_cell? w _ hw344_0)).trans hw344_0),((HB.out.cell (World.block_lt_of_cell? w _ hw345_0)).trans hw345_0),((HB.out.cell (World.block_lt_of_cell? w _ hw346_0)).trans hw346_0),((HB.out.cell (World.block_lt_of_cell? w _ hw347_0)).trans hw347_0)⟩ (fun hHeld=>?_)
         clear hK K
         refine bK (a':=?_) ?_ ?_
         rotate_left; · show Act.put _ (some 3) _=_;simp only [Act.put,u1_,u2_,u3_,ax,ay];rfl
         refine nS (i:=19) (N:=none) #[Y_,Y_,Y_,Y_,Y_,Y_,Y_,Y_,Y_,Y_,Y_,Y_,Y_,Y_,Y_,Y_,Y_,Y_,Y_,Y_] rfl rfl (dV HT_.out (by kernel_rfl)) (by decide) (fun K hK=>?_)
         have hs14:w13.cell? ⟨gb348,0,none⟩=some (.int .i64 0):=(af BK348.out 0).trans rfl
         have hfs14:=ah BK348.out 0
         have hns14_0:=NB342_348.out
         have hms14_0:=NB348_342.out
         have hs15:w13.cell? ⟨gb348,1,none⟩=some (.bool false):=(af BK348.out 1).trans rfl
         have hfs15:=ah BK348.out 1
         have hns15_0:=NB342_348.out
         have hms15_0:=NB348_342.out
         have hs16:w13.cell? ⟨gb348,2,none⟩=some (.int .i64 0):=(af BK348.out 2).trans rfl
         have hfs16:=ah BK348.out 2
         have hns16_0:=NB342_348.out
         have hms16_0:=NB348_342.out
         have hs17:w13.cell? ⟨gb348,3,none⟩=some (.int .i64 0):=(af BK348.out 3).trans rfl
         have hfs17:=ah BK348.out 3
         have hns17_0:=NB342_348.out
         have hms17_0:=NB348_342.out
         have hs18:w13.cell? ⟨gb348,4,none⟩=some (.slice none 0 0):=(af BK348.out 4).trans rfl
         have hfs18:=ah BK348.out 4
         have hns18_0:=NB342_348.out
         have hms18_0:=NB348_342.out
         have hs19:w13.cell? ⟨gb348,5,none⟩=some (.bool false):=(af BK348.out 5).trans rfl
         have hfs19:=ah BK348.out 5
         have hns19_0:=NB342_348.out
         have hms19_0:=NB348_342.out
         refine fB (w1:=?_) (by rfl) rfl ?_ ?_
         rotate_left
         ·go_simp
          rfl
         refine hK.out _ _ ⟨((cell_far (p:=⟨gb348,_,none⟩) (by first | exact Nat.ne_of_lt (Nat.lt_of_lt_of_le (by have:=World.block_lt_of_cell? _ _ hw343_0;first | rwa [add_block] at this | exact this) GW348.out) | (rw [add_block];exact Nat.ne_of_lt (Nat.lt_of_lt_of_le (by have:=World.block_lt_of_cell? _ _ hw343_0;first | rwa [add_block] at this | exact this) GW348.out)) | (show (Addr.add _ _).block≠_;rw [add_block];exact Nat.ne_of_lt (Nat.lt_of_lt_of_le (by have:=World.block_lt_of_cell? _ _ hw343_0;first | rwa [add_block] at this | exact this) GW348.out)) | (dsimp only;exact Nat.ne_of_lt (Nat.lt_of_lt_of_le (by have:=World.block_lt_of_cell? _ _ hw343_0;first | rwa [add_block] at this | exact this) GW348.out))) _).trans (((cell_far (p:=⟨gb348,_,none⟩) (by first | exact Nat.ne_of_lt (Nat.lt_of_lt_of_le (by have:=World.block_lt_of_cell? _ _ hw343_0;first | rwa [add_block] at this | exact this) GW348.out) | (rw [add_block];exact Nat.ne_of_lt (Nat.lt_of_lt_of_le (by have:=World.block_lt_of_cell? _ _ hw343_0;first | rwa [add_block] at this | exact this) GW348.out)) | (show (Addr.add _ _).block≠_;rw [add_block];exact Nat.ne_of_lt (Nat.lt_of_lt_of_le (by have:=World.block_lt_of_cell? _ _ hw343_0;first | rwa [add_block] at this | exact this) GW348.out)) | (dsimp only;exact Nat.ne_of_lt (Nat.lt_of_lt_of_le (by have:=World.block_lt_of_cell? _ _ hw343_0;first | rwa [add_block] at this | exact this) GW348.out))) _).trans (((cell_far (p:=⟨gb348,_,none⟩) (by first | exact Nat.ne_of_lt (Nat.lt_of_lt_of_le (by have:=World.block_lt_of_cell? _ _ hw343_0;first | rwa [add_block] at this | exact this) GW348.out) | (rw [add_block];exact Nat.ne_of_lt (Nat.lt_of_lt_of_le (by have:=World.block_lt_of_cell? _ _ hw343_0;first | rwa [add_block] at this | exact this) GW348.out)) | (show (Addr.add _ _).block≠_;rw [add_block];exact Nat.ne_of_lt (Nat.lt_of_lt_of_le (by have:=World.block_lt_of_cell? _ _ hw343_0;first | rwa [add_block] at this | exact this) GW348.out)) | (dsimp only;exact Nat.ne_of_lt (Nat.lt_of_lt_of_le (by have:=World.block_lt_of_cell? _ _ hw343_0;first | rwa [add_block] at this | exact this) GW348.out))) _).trans (((cell_far (p:=⟨gb348,_,none⟩) (by first | exact Nat.ne_of_lt (Nat.lt_of_lt_of_le (by have:=World.block_lt_of_cell? _ _ hw343_0;first | rwa [add_block] at this | exact this) GW348.out) | (rw [add_block];exact Nat.ne_of_lt (Nat.lt_of_lt_of_le (by have:=World.block_lt_of_cell? _ _ hw343_0;first | rwa [add_block] at this | exact this) GW348.out)) | (show (Addr.add _ _).block≠_;rw [add_block];exact Nat.ne_of_lt (Nat.lt_of_lt_of_le (by have:=World.block_lt_of_cell? _ _ hw343_0;first | rwa [add_block] at this | exact this) GW348.out)) | (dsimp only;exact Nat.ne_of_lt (Nat.lt_of_lt_of_le (by have:=World.block_lt_of_cell? _ _ hw343_0;first | rwa [add_block] at this | exact this) GW348.out))) _).trans (((cell_far (p:=⟨gb348,_,none⟩) (by first | exact Nat.ne_of_lt (Nat.lt_of_lt_of_le (by have:=World.block_lt_of_cell? _ _ hw343_0;first | rwa [add_block] at this | exact this) GW348.out) | (rw [add_block];exact Nat.ne_of_lt (Nat.lt_of_lt_of_le (by have:=World.block_lt_of_cell? _ _ hw343_0;first | rwa [add_block] at this | exact this) GW348.out)) | (show (Addr.add _ _).block≠_;rw [add_block];exact Nat.ne_of_lt (Nat.lt_of_lt_of_le (by have:=World.block_lt_of_cell? _ _ hw343_0;first | rwa [add_block] at this | exact this) GW348.out)) | (dsimp only;exact Nat.ne_of_lt (Nat.lt_of_lt_of_le (by have:=World.block_lt_of_cell? _ _ hw343_0;first | rwa [add_block] at this | exact this) GW348.out))) _).trans (((cell_far (p:=⟨gb348,_,none⟩) (by first | exact Nat.ne_of_lt (Nat.lt_of_lt_of_le (by have:=World.block_lt_of_cell? _ _ hw343_0;first | rwa [add_block] at this | exact this) GW348.out) | (rw [add_block];exact Nat.ne_of_lt (Nat.lt_of_lt_of_le (by have:=World.block_lt_of_cell? _ _ hw343_0;first | rwa [add_block] at this | exact this) GW348.out)) | (show (Addr.add _ _).block≠_;rw [add_block];exact Nat.ne_of_lt (Nat.lt_of_lt_of_le (by have:=World.block_lt_of_cell? _ _ hw343_0;first | rwa [add_block] at this | exact this) GW348.out)) | (dsimp only;exact Nat.ne_of_lt (Nat.lt_of_lt_of_le (by have:=World.block_lt_of_cell? _ _ hw343_0;first | rwa [add_block] at this | exact this) GW348.out))) _).trans (hHeld.1)))))))))))),((cell_far (p:=⟨gb348,_,none⟩) (by first | exact Nat.ne_of_lt (Nat.lt_of_lt_of_le (by have:=World.block_lt_of_cell? _ _ hw344_0;first | rwa [add_block] at this | exact this) GW348.out) | (rw [add_block];exact Nat.ne_of_lt (Nat.lt_of_lt_of_le (by have:=World.block_lt_of_cell? _ _ hw344_0;first | rwa [add_block] at this | exact this) GW348.out)) | (show (Addr.add _ _).block≠_;rw [add_block];exact Nat.ne_of_lt (Nat.lt_of_lt_of_le (by have:=World.block_lt_of_cell? _ _ hw344_0;first | rwa [add_block] at this | exact this) GW348.out)) | (dsimp only;exact Nat.ne_of_lt (Nat.lt_of_lt_of_le (by have:=World.block_lt_of_cell? _ _ hw344_0;first | rwa [add_block] at this | exact this) GW348.out))) _).trans (((cell_far (p:=⟨gb348,_,none⟩) (by first | exact Nat.ne_of_lt (Nat.lt_of_lt_of_le (by have:=World.block_lt_of_cell? _ _ hw344_0;first | rwa [add_block] at this | exact this) GW348.out) | (rw [add_block];exact Nat.ne_of_lt (Nat.lt_of_lt_of_le (by have:=World.block_lt_of_cell? _ _ hw344_0;first | rwa [add_block] at this | exact this) GW348.out)) | (show (Addr.add _ _).block≠_;rw [add_block];exact Nat.ne_of_lt (Nat.lt_of_lt_of_le (by have:=World.block_lt_of_cell? _ _ hw344_0;first | rwa [add_block] at this | exact this) GW348.out)) | (dsimp only;exact Nat.ne_of_lt (Nat.lt_of_lt_of_le (by have:=World.block_lt_of_cell? _ _ hw344_0;first | rwa [add_block] at this | exact this) GW348.out))) _).trans (((cell_far (p:=⟨gb348,_,none⟩) (by first | exact Nat.ne_of_lt (Nat.lt_of_lt_of_le (by have:=World.block_lt_of_cell? _ _ hw344_0;first | rwa [add_block] at this | exact this) GW348.out) | (rw [add_block];exact Nat.ne_of_lt (Nat.lt_of_lt_of_le (by have:=World.block_lt_of_cell? _ _ hw344_0;first | rwa [add_block] at this | exact this) GW348.out)) | (show (Addr.add _ _).block≠_;rw [add_block];exact Nat.ne_of_lt (Nat.lt_of_lt_of_le (by have:=World.block_lt_of_cell? _ _ hw344_0;first | rwa [add_block] at this | exact this) GW348.out)) | (dsimp only;exact Nat.ne_of_lt (Nat.lt_of_lt_of_le (by have:=World.block_lt_of_cell? _ _ hw344_0;first | rwa [add_block] at this | exact this) GW348.out))) _).trans (((cell_far (p:=⟨gb348,_,none⟩) (by first | exact Nat.ne_of_lt (Nat.lt_of_lt_of_le (by have:=World.block_lt_of_cell? _ _ hw344_0;first | rwa [add_block] at this | exact this) GW348.out) | (rw [add_block];exact Nat.ne_of_lt (Nat.lt_of_lt_of_le (by have:=World.block_lt_of_cell? _ _ hw344_0;first | rwa [add_block] at this | exact this) GW348.out)) | (show (Addr.add _ _).block≠_;rw [add_block];exact Nat.ne_of_lt (Nat.lt_of_lt_of_le (by have:=World.block_lt_of_cell? _ _ hw344_0;first | rwa [add_block] at this | exact this) GW348.out)) | (dsimp only;exact Nat.ne_of_lt (Nat.lt_of_lt_of_le (by have:=World.block_lt_of_cell? _ _ hw344_0;first | rwa [add_block] at this | exact this) GW348.out))) _).trans (((cell_far (p:=⟨gb348,_,none⟩) (by first | exact Nat.ne_of_lt (Nat.lt_of_lt_of_le (by have:=World.block_lt_of_cell? _ _ hw344_0;first | rwa [add_block] at this | exact this) GW348.out) | (rw [add_block];exact Nat.ne_of_lt (Nat.lt_of_lt_of_le (by have:=World.block_lt_of_cell? _ _ hw344_0;first | rwa [add_block] at this | exact this) GW348.out)) | (show (Addr.add _ _).block≠_;rw [add_block];exact Nat.ne_of_lt (Nat.lt_of_lt_of_le (by have:=World.block_lt_of_cell? _ _ hw344_0;first | rwa [add_block] at this | exact this) GW348.out)) | (dsimp only;exact Nat.ne_of_lt (Nat.lt_of_lt_of_le (by have:=World.block_lt_of_cell? _ _ hw344_0;first | rwa [add_block] at this | exact this) GW348.out))) _).trans (((cell_far (p:=⟨gb348,_,none⟩) (by first | exact Nat.ne_of_lt (Nat.lt_of_lt_of_le (by have:=World.block_lt_of_cell? _ _ hw344_0;first | rwa [add_block] at this | exact this) GW348.out) | (rw [add_block];exact Nat.ne_of_lt (Nat.lt_of_lt_of_le (by have:=World.block_lt_of_cell? _ _ hw344_0;first | rwa [add_block] at this | exact this) GW348.out)) | (show (Addr.add _ _).block≠_;rw [add_block];exact Nat.ne_of_lt (Nat.lt_of_lt_of_le (by have:=World.block_lt_of_cell? _ _ hw344_0;first | rwa [add_block] at this | exact this) GW348.out)) | (dsimp only;exact Nat.ne_of_lt (Nat.lt_of_lt_of_le (by have:=World.block_lt_of_cell? _ _ hw344_0;first | rwa [add_block] at this | exact this) GW348.out))) _).trans (hHeld.2.1)))))))))))),((cell_far (p:=⟨gb348,_,none⟩) (by first | exact Nat.ne_of_lt (Nat.lt_of_lt_of_le (by have:=World.block_lt_of_cell? _ _ hw345_0;first | rwa [add_block] at this | exact this) GW348.out) | (rw [add_block];exact Nat.ne_of_lt (Nat.lt_of_lt_of_le (by have:=World.block_lt_of_cell? _ _ hw345_0;first | rwa [add_block] at this | exact this) GW348.out)) | (show (Addr.add _ _).block≠_;rw [add_block];exact Nat.ne_of_lt (Nat.lt_of_lt_of_le (by have:=World.block_lt_of_cell? _ _ hw345_0;first | rwa [add_block] at this | exact this) GW348.out)) | (dsimp only;exact Nat.ne_of_lt (Nat.lt_of_lt_of_le (by have:=World.block_lt_of_cell? _ _ hw345_0;first | rwa [add_block] at this | exact this) GW348.out))) _).trans (((cell_far (p:=⟨gb348,_,none⟩) (by first | exact Nat.ne_of_lt (Nat.lt_of_lt_of_le (by have:=World.block_lt_of_cell? _ _ hw345_0;first | rwa [add_block] at this | exact this) GW348.out) | (rw [add_block];exact Nat.ne_of_lt (Nat.lt_of_lt_of_le (by have:=World.block_lt_of_cell? _ _ hw345_0;first | rwa [add_block] at this | exact this) GW348.out)) | (show (Addr.add _ _).block≠_;rw [add_block];exact Nat.ne_of_lt (Nat.lt_of_lt_of_le (by have:=World.block_lt_of_cell? _ _ hw345_0;first | rwa [add_block] at this | exact this) GW348.out)) | (dsimp only;exact Nat.ne_of_lt (Nat.lt_of_lt_of_le (by have:=World.block_lt_of_cell? _ _ hw345_0;first | rwa [add_block] at this | exact this) GW348.out))) _).trans (((cell_far (p:=⟨gb348,_,none⟩) (by first | exact Nat.ne_of_lt (Nat.lt_of_lt_of_le (by have:=World.block_lt_of_cell? _ _ hw345_0;first | rwa [add_block] at this | exact this) GW348.out) | (rw [add_block];exact Nat.ne_of_lt (Nat.lt_of_lt_of_le (by have:=World.block_lt_of_cell? _ _ hw345_0;first | rwa [add_block] at this | exact this) GW348.out)) | (show (Addr.add _ _).block≠_;rw [add_block];exact Nat.ne_of_lt (Nat.lt_of_lt_of_le (by have:=World.block_lt_of_cell? _ _ hw345_0;first | rwa [add_block] at this | exact this) GW348.out)) | (dsimp only;exact Nat.ne_of_lt (Nat.lt_of_lt_of_le (by have:=World.block_lt_of_cell? _ _ hw345_0;first | rwa [add_block] at this | exact this) GW348.out))) _).trans (((cell_far (p:=⟨gb348,_,none⟩) (by first | exact Nat.ne_of_lt (Nat.lt_of_lt_of_le (by have:=World.block_lt_of_cell? _ _ hw345_0;first | rwa [add_block] at this | exact this) GW348.out) | (rw [add_block];exact Nat.ne_of_lt (Nat.lt_of_lt_of_le (by have:=World.block_lt_of_cell? _ _ hw345_0;first | rwa [add_block] at this | exact this) GW348.out)) | (show (Addr.add _ _).block≠_;rw [add_block];exact Nat.ne_of_lt (Nat.lt_of_lt_of_le (by have:=World.block_lt_of_cell? _ _ hw345_0;first | rwa [add_block] at this | exact this) GW348.out)) | (dsimp only;exact Nat.ne_of_lt (Nat.lt_of_lt_of_le (by have:=World.block_lt_of_cell? _ _ hw345_0;first | rwa [add_block] at this | exact this) GW348.out))) _).trans (((cell_far (p:=⟨gb348,_,none⟩) (by first | exact Nat.ne_of_lt (Nat.lt_of_lt_of_le (by have:=World.block_lt_of_cell? _ _ hw345_0;first | rwa [add_block] at this | exact this) GW348.out) | (rw [add_block];exact Nat.ne_of_lt (Nat.lt_of_lt_of_le (by have:=World.block_lt_of_cell? _ _ hw345_0;first | rwa [add_block] at this | exact this) GW348.out)) | (show (Addr.add _ _).block≠_;rw [add_block];exact Nat.ne_of_lt (Nat.lt_of_lt_of_le (by have:=World.block_lt_of_cell? _ _ hw345_0;first | rwa [add_block] at this | exact this) GW348.out)) | (dsimp only;exact Nat.ne_of_lt (Nat.lt_of_lt_of_le (by have:=World.block_lt_of_cell? _ _ hw345_0;first | rwa [add_block] at this | exact this) GW348.out))) _).trans (((cell_far (p:=⟨gb348,_,none⟩) (by first | exact Nat.ne_of_lt (Nat.lt_of_lt_of_le (by have:=World.block_lt_of_cell? _ _ hw345_0;first | rwa [add_block] at this | exact this) GW348.out) | (rw [add_block];exact Nat.ne_of_lt (Nat.lt_of_lt_of_le (by have:=World.block_lt_of_cell? _ _ hw345_0;first | rwa [add_block] at this | exact this) GW348.out)) | (show (Addr.add _ _).block≠_;rw [add_block];exact Nat.ne_of_lt (Nat.lt_of_lt_of_le (by have:=World.block_lt_of_cell? _ _ hw345_0;first | rwa [add_block] at this | exact this) GW348.out)) | (dsimp only;exact Nat.ne_of_lt (Nat.lt_of_lt_of_le (by have:=World.block_lt_of_cell? _ _ hw345_0;first | rwa [add_block] at this | exact this) GW348.out))) _).trans (hHeld.2.2.1)))))))))))),((cell_far (p:=⟨gb348,_,none⟩) (by first | exact Nat.ne_of_lt (Nat.lt_of_lt_of_le (by have:=World.block_lt_of_cell? _ _ hw346_0;first | rwa [add_block] at this | exact this) GW348.out) | (rw [add_block];exact Nat.ne_of_lt (Nat.lt_of_lt_of_le (by have:=World.block_lt_of_cell? _ _ hw346_0;first | rwa [add_block] at this | exact this) GW348.out)) | (show (Addr.add _ _).block≠_;rw [add_block];exact Nat.ne_of_lt (Nat.lt_of_lt_of_le (by have:=World.block_lt_of_cell? _ _ hw346_0;first | rwa [add_block] at this | exact this) GW348.out)) | (dsimp only;exact Nat.ne_of_lt (Nat.lt_of_lt_of_le (by have:=World.block_lt_of_cell? _ _ hw346_0;first | rwa [add_block] at this | exact this) GW348.out))) _).trans (((cell_far (p:=⟨gb348,_,none⟩) (by first | exact Nat.ne_of_lt (Nat.lt_of_lt_of_le (by have:=World.block_lt_of_cell? _ _ hw346_0;first | rwa [add_block] at this | exact this) GW348.out) | (rw [add_block];exact Nat.ne_of_lt (Nat.lt_of_lt_of_le (by have:=World.block_lt_of_cell? _ _ hw346_0;first | rwa [add_block] at this | exact this) GW348.out)) | (show (Addr.add _ _).block≠_;rw [add_block];exact Nat.ne_of_lt (Nat.lt_of_lt_of_le (by have:=World.block_lt_of_cell? _ _ hw346_0;first | rwa [add_block] at this | exact this) GW348.out)) | (dsimp only;exact Nat.ne_of_lt (Nat.lt_of_lt_of_le (by have:=World.block_lt_of_cell? _ _ hw346_0;first | rwa [add_block] at this | exact this) GW348.out))) _).trans (((cell_far (p:=⟨gb348,_,none⟩) (by first | exact Nat.ne_of_lt (Nat.lt_of_lt_of_le (by have:=World.block_lt_of_cell? _ _ hw346_0;first | rwa [add_block] at this | exact this) GW348.out) | (rw [add_block];exact Nat.ne_of_lt (Nat.lt_of_lt_of_le (by have:=World.block_lt_of_cell? _ _ hw346_0;first | rwa [add_block] at this | exact this) GW348.out)) | (show (Addr.add _ _).block≠_;rw [add_block];exact Nat.ne_of_lt (Nat.lt_of_lt_of_le (by have:=World.block_lt_of_cell? _ _ hw346_0;first | rwa [add_block] at this | exact this) GW348.out)) | (dsimp only;exact Nat.ne_of_lt (Nat.lt_of_lt_of_le (by have:=World.block_lt_of_cell? _ _ hw346_0;first | rwa [add_block] at this | exact this) GW348.out))) _).trans (((cell_far (p:=⟨gb348,_,none⟩) (by first | exact Nat.ne_of_lt (Nat.lt_of_lt_of_le (by have:=World.block_lt_of_cell? _ _ hw346_0;first | rwa [add_block] at this | exact this) GW348.out) | (rw [add_block];exact Nat.ne_of_lt (Nat.lt_of_lt_of_le (by have:=World.block_lt_of_cell? _ _ hw346_0;first | rwa [add_block] at this | exact this) GW348.out)) | (show (Addr.add _ _).block≠_;rw [add_block];exact Nat.ne_of_lt (Nat.lt_of_lt_of_le (by have:=World.block_lt_of_cell? _ _ hw346_0;first | rwa [add_block] at this | exact this) GW348.out)) | (dsimp only;exact Nat.ne_of_lt (Nat.lt_of_lt_of_le (by have:=World.block_lt_of_cell? _ _ hw346_0;first | rwa [add_block] at this | exact this) GW348.out))) _).trans (((cell_far (p:=⟨gb348,_,none⟩) (by first | exact Nat.ne_of_lt (Nat.lt_of_lt_of_le (by have:=World.block_lt_of_cell? _ _ hw346_0;first | rwa [add_block] at this | exact this) GW348.out) | (rw [add_block];exact Nat.ne_of_lt (Nat.lt_of_lt_of_le (by have:=World.block_lt_of_cell? _ _ hw346_0;first | rwa [add_block] at this | exact this) GW348.out)) | (show (Addr.add _ _).block≠_;rw [add_block];exact Nat.ne_of_lt (Nat.lt_of_lt_of_le (by have:=World.block_lt_of_cell? _ _ hw346_0;first | rwa [add_block] at this | exact this) GW348.out)) | (dsimp only;exact Nat.ne_of_lt (Nat.lt_of_lt_of_le (by have:=World.block_lt_of_cell? _ _ hw346_0;first | rwa [add_block] at this | exact this) GW348.out))) _).trans (((cell_far (p:=⟨gb348,_,none⟩) (by first | exact Nat.ne_of_lt (Nat.lt_of_lt_of_le (by have:=World.block_lt_of_cell? _ _ hw346_0;first | rwa [add_block] at this | exact this) GW348.out) | (rw [add_block];exact Nat.ne_of_lt (Nat.lt_of_lt_of_le (by have:=World.block_lt_of_cell? _ _ hw346_0;first | rwa [add_block] at this | exact this) GW348.out)) | (show (Addr.add _ _).block≠_;rw [add_block];exact Nat.ne_of_lt (Nat.lt_of_lt_of_le (by have:=World.block_lt_of_cell? _ _ hw346_0;first | rwa [add_block] at this | exact this) GW348.out)) | (dsimp only;exact Nat.ne_of_lt (Nat.lt_of_lt_of_le (by have:=World.block_lt_of_cell? _ _ hw346_0;first | rwa [add_block] at this | exact this) GW348.out))) _).trans (hHeld.2.2.2.1)))))))))))),((cell_far (p:=⟨gb348,_,none⟩) (by first | exact Nat.ne_of_lt (Nat.lt_of_lt_of_le (by have:=World.block_lt_of_cell? _ _ hw347_0;first | rwa [add_block] at this | exact this) GW348.out) | (rw [add_block];exact Nat.ne_of_lt (Nat.lt_of_lt_of_le (by have:=World.block_lt_of_cell? _ _ hw347_0;first | rwa [add_block] at this | exact this) GW348.out)) | (show (Addr.add _ _).block≠_;rw [add_block];exact Nat.ne_of_lt (Nat.lt_of_lt_of_le (by have:=World.block_lt_of_cell? _ _ hw347_0;first | rwa [add_block] at this | exact this) GW348.out)) | (dsimp only;exact Nat.ne_of_lt (Nat.lt_of_lt_of_le (by have:=World.block_lt_of_cell? _ _ hw347_0;first | rwa [add_block] at this | exact this) GW348.out))) _).trans (((cell_far (p:=⟨gb348,_,none⟩) (by first | exact Nat.ne_of_lt (Nat.lt_of_lt_of_le (by have:=World.block_lt_of_cell? _ _ hw347_0;first | rwa [add_block] at this | exact this) GW348.out) | (rw [add_block];exact Nat.ne_of_lt (Nat.lt_of_lt_of_le (by have:=World.block_lt_of_cell? _ _ hw347_0;first | rwa [add_block] at this | exact this) GW348.out)) | (show (Addr.add _ _).block≠_;rw [add_block];exact Nat.ne_of_lt (Nat.lt_of_lt_of_le (by have:=World.block_lt_of_cell? _ _ hw347_0;first | rwa [add_block] at this | exact this) GW348.out)) | (dsimp only;exact Nat.ne_of_lt (Nat.lt_of_lt_of_le (by have:=World.block_lt_of_cell? _ _ hw347_0;first | rwa [add_block] at this | exact this) GW348.out))) _).trans (((cell_far (p:=⟨gb348,_,none⟩) (by first | exact Nat.ne_of_lt (Nat.lt_of_lt_of_le (by have:=World.block_lt_of_cell? _ _ hw347_0;first | rwa [add_block] at this | exact this) GW348.out) | (rw [add_block];exact Nat.ne_of_lt (Nat.lt_of_lt_of_le (by have:=World.block_lt_of_cell? _ _ hw347_0;first | rwa [add_block] at this | exact this) GW348.out)) | (show (Addr.add _ _).block≠_;rw [add_block];exact Nat.ne_of_lt (Nat.lt_of_lt_of_le (by have:=World.block_lt_of_cell? _ _ hw347_0;first | rwa [add_block] at this | exact this) GW348.out)) | (dsimp only;exact Nat.ne_of_lt (Nat.lt_of_lt_of_le (by have:=World.block_lt_of_cell? _ _ hw347_0;first | rwa [add_block] at this | exact this) GW348.out))) _).trans (((cell_far (p:=⟨gb348,_,none⟩) (by first | exact Nat.ne_of_lt (Nat.lt_of_lt_of_le (by have:=World.block_lt_of_cell? _ _ hw347_0;first | rwa [add_block] at this | exact this) GW348.out) | (rw [add_block];exact Nat.ne_of_lt (Nat.lt_of_lt_of_le (by have:=World.block_lt_of_cell? _ _ hw347_0;first | rwa [add_block] at this | exact this) GW348.out)) | (show (Addr.add _ _).block≠_;rw [add_block];exact Nat.ne_of_lt (Nat.lt_of_lt_of_le (by have:=World.block_lt_of_cell? _ _ hw347_0;first | rwa [add_block] at this | exact this) GW348.out)) | (dsimp only;exact Nat.ne_of_lt (Nat.lt_of_lt_of_le (by have:=World.block_lt_of_cell? _ _ hw347_0;first | rwa [add_block] at this | exact this) GW348.out))) _).trans (((cell_far (p:=⟨gb348,_,none⟩) (by first | exact Nat.ne_of_lt (Nat.lt_of_lt_of_le (by have:=World.block_lt_of_cell? _ _ hw347_0;first | rwa [add_block] at this | exact this) GW348.out) | (rw [add_block];exact Nat.ne_of_lt (Nat.lt_of_lt_of_le (by have:=World.block_lt_of_cell? _ _ hw347_0;first | rwa [add_block] at this | exact this) GW348.out)) | (show (Addr.add _ _).block≠_;rw [add_block];exact Nat.ne_of_lt (Nat.lt_of_lt_of_le (by have:=World.block_lt_of_cell? _ _ hw347_0;first | rwa [add_block] at this | exact this) GW348.out)) | (dsimp only;exact Nat.ne_of_lt (Nat.lt_of_lt_of_le (by have:=World.block_lt_of_cell? _ _ hw347_0;first | rwa [add_block] at this | exact this) GW348.out))) _).trans (((cell_far (p:=⟨gb348,_,none⟩) (by first | exact Nat.ne_of_lt (Nat.lt_of_lt_of_le (by have:=World.block_lt_of_cell? _ _ hw347_0;first | rwa [add_block] at this | exact this) GW348.out) | (rw [add_block];exact Nat.ne_of_lt (Nat.lt_of_lt_of_le (by have:=World.block_lt_of_cell? _ _ hw347_0;first | rwa [add_block] at this | exact this) GW348.out)) | (show (Addr.add _ _).block≠_;rw [add_block];exact Nat.ne_of_lt (Nat.lt_of_lt_of_le (by have:=World.block_lt_of_cell? _ _ hw347_0;first | rwa [add_block] at this | exact this) GW348.out)) | (dsimp only;exact Nat.ne_of_lt (Nat.lt_of_lt_of_le (by have:=World.block_lt_of_cell? _ _ hw347_0;first | rwa [add_block] at this | exact this) GW348.out))) _).trans (hHeld.2.2.2.2))))))))))))⟩ (fun hHeld=>?_)
         clear hK K
         refine dD (bI HT_.out (by kernel_rfl)) ?_
         try go_wp2
         go_loopg [4] kj1 (fun kq v4 w'=> ∃ (x4_2:Int) (x349004_2:List (gy)) (u349004:Value),v4= .int .i64 x4_2∧ak (aQ.l0 kq l0 x4_2 (rd l0 0) ((rd l0 1) == 1) (rd l0 2) (rd l0 3) x349004_2 ((rd l0 4) == 1)=some (r1,r2,r3,r4,r5,r6))∧ak (kq≤kj1)∧ak (Kd.R mE 121 w' w.heap.size (fun _=>True) u349004 x349004_2)∧ak (w'.heap[gb342]?=some (.cells #[.int .i64 0,.bool false,.int .i64 0,.int .i64 0,(.slice none 0 0),.bool false] 58 (0,0)))∧ak (w'.heap[gb348]?=some (.cells #[.int .i64 (rd l0 0),.bool ((rd l0 1) == 1),.int .i64 (rd l0 2),.int .i64 (rd l0 3),u349004,.bool ((rd l0 4) == 1)] 58 (0,0)))∧ak (Below w.heap.size w w'))
         case atStart=>exact ⟨(5),(([]:List (gy))),(.slice none 0 0),(by first | rfl | (simp;done) | (simp [*];done)),H',⟨Nat.le_refl _⟩,⟨by first | exact Kd.fI _ _ _ _ _ | exact Kd.Kg _ _ _ _ _ | exact Kd.KM _ _ _ _ _ | exact Kd.CY _ _ _ _ _ | exact Kd.Kt _ _ _ _ _⟩,⟨by (with_reducible repeat (first | refine aG ?_ _ | refine aI ?_ | refine aC ?_ _));refine cO ?_ NB342_348.out _;(with_reducible repeat (first | refine aG ?_ _ | refine aI ?_ | refine aC ?_ _));refine cO ?_ NB342_348.out _;(with_reducible repeat (first | refine aG ?_ _ | refine aI ?_ | refine aC ?_ _));refine cO ?_ NB342_348.out _;(with_reducible repeat (first | refine aG ?_ _ | refine aI ?_ | refine aC ?_ _));refine cO ?_ NB342_348.out _;(with_reducible repeat (first | refine aG ?_ _ | refine aI ?_ | refine aC ?_ _));refine cO ?_ NB342_348.out _;(with_reducible repeat (first | refine aG ?_ _ | refine aI ?_ | refine aC ?_ _));refine cO ?_ NB342_348.out _;(with_reducible repeat (first | refine aG ?_ _ | refine aI ?_ | refine aC ?_ _));exact BK342.out⟩,⟨by (with_reducible repeat (first | refine aG ?_ _ | refine aI ?_ | refine aC ?_ _));refine eH (cs:= #[.int .i64 (rd l0 0),.bool ((rd l0 1) == 1),.int .i64 (rd l0 2),.int .i64 (rd l0 3),.slice none 0 0,.bool false]) ?_ 5 _ rfl;(with_reducible repeat (first | refine aG ?_ _ | refine aI ?_ | refine aC ?_ _));refine eH (cs:= #[.int .i64 (rd l0 0),.bool ((rd l0 1) == 1),.int .i64 (rd l0 2),.int .i64 (rd l0 3),.slice none 0 0,.bool false]) ?_ 4 _ rfl;(with_reducible repeat (first | refine aG ?_ _ | refine aI ?_ | refine aC ?_ _));refine eH (cs:= #[.int .i64 (rd l0 0),.bool ((rd l0 1) == 1),.int .i64 (rd l0 2),.int .i64 0,.slice none 0 0,.bool false]) ?_ 3 _ rfl;(with_reducible repeat (first | refine aG ?_ _ | refine aI ?_ | refine aC ?_ _));refine eH (cs:= #[.int .i64 (rd l0 0),.bool ((rd l0 1) == 1),.int .i64 0,.int .i64 0,.slice none 0 0,.bool false]) ?_ 2 _ rfl;(with_reducible repeat (first | refine aG ?_ _ | refine aI ?_ | refine aC ?_ _));refine eH (cs:= #[.int .i64 (rd l0 0),.bool false,.int .i64 0,.int .i64 0,.slice none 0 0,.bool false]) ?_ 1 _ rfl;(with_reducible repeat (first | refine aG ?_ _ | refine aI ?_ | refine aC ?_ _));refine eH (cs:= #[.int .i64 0,.bool false,.int .i64 0,.int .i64 0,.slice none 0 0,.bool false]) ?_ 0 _ rfl;(with_reducible repeat (first | refine aG ?_ _ | refine aI ?_ | refine aC ?_ _));exact BK348.out⟩,⟨by repeat (first | (with_reducible first | exact HB.out | apply ai | apply au | apply aA | refine aN ?_ GE342.out | refine aN ?_ GE348.out) | exact HB.out)⟩⟩
         case round=>
          clear H'
          try clear c1
          try clear p2
          try clear p3
          try clear q3
          try clear hx3
          try clear qi3
          try clear c4
          try clear c4b0
          try clear c4b1
          try clear c5
          try clear c6
          try clear c7
          try clear c7b0
          try clear c7b1
          try clear c8
          try clear c8b0
          try clear c8b1
          try clear c9
          try clear c9b0
          try clear c9b1
          try clear c10
          try clear c10b0
          try clear c10b1
          try clear c11
          try clear c11b0
          try clear c11b1
          try clear hcz6_0
          try clear hcz6_1
          try clear hcz6_2
          try clear hcz6_3
          try clear hcz6_4
          try clear hcz6_5
          try clear hfz6_0
          try clear hfz6_1
          try clear hfz6_2
          try clear hfz6_3
          try clear hfz6_4
          try clear hfz6_5
          try clear hx343_0
          try clear hx344_0
          try clear hx345_0
          try clear hx346_0
          try clear hx347_0
          try clear p2
          try clear p343
          try clear p344
          try clear p345
          try clear p346
          try clear p347
          try clear q343
          try clear q344
          try clear q345
          try clear q346
          try clear q347
          obtain ⟨x4_2,x349004_2,u349004,rfl,HA,HK2,HO_349004,BK342,BK348,HB⟩:=hrel
          cases gk with
          | zero=>exact absurd HA.out (by simp [aQ.l0])
          | succ k2=>
           have H:=HA.out
           clear HA
           simp only [aQ.l0] at H
           by_cases c20:x4_2<(l0.length:Int)
           ·rw [if_pos c20] at H
            have c20b0:decide (x4_2<(l0.length:Int))=true:=decide_eq_true c20
            clear c20
            by_cases c21:0≤x4_2
            ·rw [if_pos c21] at H
             have c21b0:decide (0≤x4_2)=true:=decide_eq_true c21
             clear c21
             obtain ⟨ji22,hji22⟩: ∃ j_:Int,(wrap64 (x4_2+1))=j_:=⟨_,rfl⟩
             replace H:(if 0≤(ji22) then (if (ji22)<(l0.length:Int) then (if x349004_2.length<8796093022208 then (aQ.l0 k2 l0 (wrap64 (x4_2+2)) (rd l0 0) ((rd l0 1) == 1) (rd l0 2) (rd l0 3) (x349004_2++ [(⟨rd l0 x4_2,rd l0 (ji22)⟩:gy)]) ((rd l0 4) == 1)) else (none)) else (none)) else (none))=some (r1,r2,r3,r4,r5,r6):=by first | (rw [hji22] at H;exact H) | (simp only [hji22] at H ⊢;exact H)
             have hji22w:(IntKind.i64.wrap (x4_2+1))=ji22:=(ax _).trans hji22
             by_cases c23:0≤(ji22)
             ·rw [if_pos c23] at H
              have c23b0:decide (0≤(ji22))=true:=decide_eq_true c23
              clear c23
              by_cases c24:(ji22)<(l0.length:Int)
              ·rw [if_pos c24] at H
               have c24b0:decide ((ji22)<(l0.length:Int))=true:=decide_eq_true c24
               clear c24
               by_cases c25:x349004_2.length<8796093022208
               ·rw [if_pos c25] at H
                have LMc25:=Am_ c25
                clear c25
                obtain ⟨y351,hy351⟩: ∃ y_:List (gy),y_=(x349004_2++ [(⟨rd l0 x4_2,rd l0 (ji22)⟩:gy)]):=⟨_,rfl⟩
                replace H:(aQ.l0 k2 l0 (wrap64 (x4_2+2)) (rd l0 0) ((rd l0 1) == 1) (rd l0 2) (rd l0 3) y351 ((rd l0 4) == 1))=some (r1,r2,r3,r4,r5,r6):=by first | (rw [hy351];with_reducible exact H) | (have H2_:=(Option.bind_some _ _).symm.trans H;rw [hy351];with_reducible exact H2_) | (have H2_:=(Option.bind_some _ _).symm.trans H;with_reducible exact H2_) | with_reducible exact H | (rw [hy351];exact H) | exact H
                have Ny351:=Am_ hy351
                clear hy351
                have H':=Am_ H
                clear H
                try go_wp2
                have n0_:=Am_ (Kd.gF HO_349004.out)
                have n1_:=Am_ (aI BK342.out)
                have n2_:=Am_ (aI BK348.out)
                have n3_:=Am_ (aA HB.out)
                clear HO_349004
                clear BK342
                clear BK348
                clear HB
                have HO_349004:=n0_
                have BK342:=n1_
                have BK348:=n2_
                have HB:=n3_
                clear n0_ n1_ n2_ n3_
                have p349:0≤(x4_2:Int):=of_decide_eq_true (by first | (with_reducible assumption) | assumption)
                have q349:x4_2<(l0.length:Int):=of_decide_eq_true (by first | (with_reducible assumption) | assumption)
                obtain ⟨ad349,e349,hx349_0⟩:=Kd.kG HR0.out x4_2 p349 q349
                have hw349_0:=hx349_0
                obtain rfl:ad343=ad349:=(by injection e349)
                replace hx349_0:=(HB.out.cell (World.block_lt_of_cell? w _ hx349_0)).trans hx349_0
                replace p349:=eq_true p349
                replace q349:=eq_true q349
                have p350:0≤((ji22):Int):=of_decide_eq_true (by first | (with_reducible assumption) | assumption)
                have q350:(ji22)<(l0.length:Int):=of_decide_eq_true (by first | (with_reducible assumption) | assumption)
                obtain ⟨ad350,e350,hx350_0⟩:=Kd.kG HR0.out (ji22) p350 q350
                have hw350_0:=hx350_0
                obtain rfl:ad343=ad350:=(by injection e350)
                replace hx350_0:=(HB.out.cell (World.block_lt_of_cell? w _ hx350_0)).trans hx350_0
                replace p350:=eq_true p350
                replace q350:=eq_true q350
                refine jL (n:=16) (S:=fun w'=>w'.cell? ⟨gb348,0,none⟩=some (.int .i64 (rd l0 0))∧w'.cell? ⟨gb348,1,none⟩=some (.bool ((rd l0 1) == 1))∧w'.cell? ⟨gb348,2,none⟩=some (.int .i64 (rd l0 2))∧w'.cell? ⟨gb348,3,none⟩=some (.int .i64 (rd l0 3))∧w'.cell? ⟨gb348,4,none⟩=some (u349004)∧w'.cell? ⟨gb348,5,none⟩=some (.bool ((rd l0 4) == 1))∧w'.cell? (ad343.add (x4_2).toNat)=some (.int .i64 (rd l0 x4_2))∧w'.cell? (ad343.add ((ji22)).toNat)=some (.int .i64 (rd l0 (ji22)))) (ds:= [15]) #[N_,N_,N_,N_,N_,N_,N_,N_,N_,N_,N_,N_,N_,N_,N_,N_] (by kernel_rfl) rfl rfl ⟨(af BK348.out 0).trans rfl,(af BK348.out 1).trans rfl,(af BK348.out 2).trans rfl,(af BK348.out 3).trans rfl,(af BK348.out 4).trans rfl,(af BK348.out 5).trans rfl,((HB.out.cell (World.block_lt_of_cell? w _ hw349_0)).trans hw349_0),((HB.out.cell (World.block_lt_of_cell? w _ hw350_0)).trans hw350_0)⟩ (fun hHeld=>?_);refine fU aQ.Oa aQ.MJ (fun HT_ HW_=>?_)
                generalize wr.drew=w26 at HO_349004 BK342 BK348 HB hx349_0 hx350_0 hHeld ⊢
                refine bS (i:=0) (N:=some 39) (v:=?_) (a':=?_) #[Y_,N_,N_,N_,N_,N_,N_,N_,N_,N_,N_,N_,N_,N_,N_,N_] rfl rfl (bf HT_.out (by kernel_rfl)) (fun _ _ _ h=>h) (Or.inl ⟨by rfl,?_⟩) ?_ ?_
                rotate_left; · intro w';go_simp;with_reducible rfl
                rotate_left; · simp only [Act.put,u1_,u2_,u3_,ax,ay];rfl
                refine bS (i:=2) (N:=some 41) (v:=?_) (a':=?_) #[Y_,N_,Y_,N_,N_,N_,N_,N_,N_,N_,N_,N_,N_,N_,N_,N_] rfl rfl (bf HT_.out (by kernel_rfl)) (fun _ _ _ h=>h) (Or.inl ⟨by rfl,?_⟩) ?_ ?_
                rotate_left; · intro w';go_simp;with_reducible rfl
                rotate_left; · simp only [Act.put,u1_,u2_,u3_,ax,ay];rfl
                refine bS (i:=3) (N:=some 42) (v:=?_) (a':=?_) #[Y_,N_,Y_,Y_,N_,N_,N_,N_,N_,N_,N_,N_,N_,N_,N_,N_] rfl rfl (bf HT_.out (by kernel_rfl)) (fun _ _ _ h=>h) (Or.inl ⟨by rfl,?_⟩) ?_ ?_
                rotate_left; · intro w';go_simp;with_reducible rfl
                rotate_left; · simp only [Act.put,u1_,u2_,u3_,ax,ay];rfl
                refine bS (i:=4) (N:=some 43) (v:=?_) (a':=?_) #[Y_,N_,Y_,Y_,Y_,N_,N_,N_,N_,N_,N_,N_,N_,N_,N_,N_] rfl rfl (bf HT_.out (by kernel_rfl)) (fun _ _ _ h=>h) (Or.inl ⟨by rfl,?_⟩) ?_ ?_
                rotate_left; · intro w';go_simp;with_reducible rfl
                rotate_left; · simp only [Act.put,u1_,u2_,u3_,ax,ay];rfl
                refine bS (i:=6) (N:=some 45) (v:=?_) (a':=?_) #[Y_,N_,Y_,Y_,Y_,N_,Y_,N_,N_,N_,N_,N_,N_,N_,N_,N_] rfl rfl (bf HT_.out (by kernel_rfl)) (fun _ _ _ h=>h) (Or.inl ⟨by rfl,?_⟩) ?_ ?_
                rotate_left; · intro w';go_simp;with_reducible rfl
                rotate_left; · simp only [Act.put,u1_,u2_,u3_,ax,ay];rfl
                refine bS (i:=7) (N:=some 46) (v:=?_) (a':=?_) #[Y_,N_,Y_,Y_,Y_,N_,Y_,Y_,N_,N_,N_,N_,N_,N_,N_,N_] rfl rfl (bf HT_.out (by kernel_rfl)) (fun _ _ _ h=>h) (Or.inl ⟨by rfl,?_⟩) ?_ ?_
                rotate_left; · intro w';go_simp;with_reducible rfl
                rotate_left; · simp only [Act.put,u1_,u2_,u3_,ax,ay];rfl
                refine bS (i:=8) (N:=some 47) (v:=?_) (a':=?_) #[Y_,N_,Y_,Y_,Y_,N_,Y_,Y_,Y_,N_,N_,N_,N_,N_,N_,N_] rfl rfl (bf HT_.out (by kernel_rfl)) (fun _ _ _ h=>h) (Or.inl ⟨by rfl,?_⟩) ?_ ?_
                rotate_left; · intro w';go_simp;with_reducible rfl
                rotate_left; · simp only [Act.put,u1_,u2_,u3_,ax,ay];rfl
                refine bS (i:=9) (N:=some 48) (v:=?_) (a':=?_) #[Y_,N_,Y_,Y_,Y_,N_,Y_,Y_,Y_,Y_,N_,N_,N_,N_,N_,N_] rfl rfl (bf HT_.out (by kernel_rfl)) (fun _ _ _ h=>h) (Or.inl ⟨by rfl,?_⟩) ?_ ?_
                rotate_left; · intro w';go_simp;with_reducible rfl
                rotate_left; · simp only [Act.put,u1_,u2_,u3_,ax,ay];rfl
                refine fw (i:=1) (N:=some 40) (v:=?_) (a':=?_) #[Y_,Y_,Y_,Y_,Y_,N_,Y_,Y_,Y_,Y_,N_,N_,N_,N_,N_,N_] rfl rfl (bN HT_.out HW_.out (by kernel_rfl)) (fun _ _ _ h=>h) (Or.inl ⟨by rfl,?_⟩) hHeld ?_ ?_
                rotate_left; · rintro w' ⟨s0,s1,s2,s3,s4,s5,s6,s7⟩;go_simp;with_reducible rfl
                rotate_left; · simp only [Act.put,u1_,u2_,u3_,ax,ay];rfl
                refine fw (i:=5) (N:=some 44) (v:=?_) (a':=?_) #[Y_,Y_,Y_,Y_,Y_,Y_,Y_,Y_,Y_,Y_,N_,N_,N_,N_,N_,N_] rfl rfl (bN HT_.out HW_.out (by kernel_rfl)) (fun _ _ _ h=>h) (Or.inl ⟨by rfl,?_⟩) hHeld ?_ ?_
                rotate_left; · rintro w' ⟨s0,s1,s2,s3,s4,s5,s6,s7⟩;go_simp;with_reducible rfl
                rotate_left; · simp only [Act.put,u1_,u2_,u3_,ax,ay];rfl
                refine fw (i:=10) (N:=some 49) (v:=?_) (a':=?_) #[Y_,Y_,Y_,Y_,Y_,Y_,Y_,Y_,Y_,Y_,Y_,N_,N_,N_,N_,N_] rfl rfl (bN HT_.out HW_.out (by kernel_rfl)) (fun _ _ _ h=>h) (Or.inl ⟨by rfl,?_⟩) hHeld ?_ ?_
                rotate_left; · rintro w' ⟨s0,s1,s2,s3,s4,s5,s6,s7⟩;go_simp;with_reducible rfl
                rotate_left; · simp only [Act.put,u1_,u2_,u3_,ax,ay];rfl
                refine bS (i:=11) (N:=some 50) (v:=?_) (a':=?_) #[Y_,Y_,Y_,Y_,Y_,Y_,Y_,Y_,Y_,Y_,Y_,Y_,N_,N_,N_,N_] rfl rfl (bf HT_.out (by kernel_rfl)) (fun _ _ _ h=>h) (Or.inl ⟨by rfl,?_⟩) ?_ ?_
                rotate_left; · intro w';go_simp;with_reducible rfl
                rotate_left; · simp only [Act.put,u1_,u2_,u3_,ax,ay];rfl
                refine nS (i:=12) (N:=some 51) #[Y_,Y_,Y_,Y_,Y_,Y_,Y_,Y_,Y_,Y_,Y_,Y_,Y_,N_,N_,N_] rfl rfl (dV HT_.out (by kernel_rfl)) (by decide) (fun K hK=>?_)
                refine fT (w1:=?_) (v:=?_) (by rfl) rfl ?_ ?_
                rotate_left 2
                ·go_simp
                 constructor
                 ·rfl
                 ·rfl
                refine hK.out _ _ ⟨(af (aC BK348.out _) 0).trans rfl,(af (aC BK348.out _) 1).trans rfl,(af (aC BK348.out _) 2).trans rfl,(af (aC BK348.out _) 3).trans rfl,(af (aC BK348.out _) 4).trans rfl,(af (aC BK348.out _) 5).trans rfl,(World.cell?_alloc_lt _ _ _ (World.block_lt_of_cell? _ _ (((HB.out.cell (World.block_lt_of_cell? w _ hw349_0)).trans hw349_0)))).trans (((HB.out.cell (World.block_lt_of_cell? w _ hw349_0)).trans hw349_0)),(World.cell?_alloc_lt _ _ _ (World.block_lt_of_cell? _ _ (((HB.out.cell (World.block_lt_of_cell? w _ hw350_0)).trans hw350_0)))).trans (((HB.out.cell (World.block_lt_of_cell? w _ hw350_0)).trans hw350_0))⟩ (fun hHeld=>?_)
                clear hK K
                refine bK (a':=?_) ?_ ?_
                rotate_left; · show Act.put _ (some 51) _=_;simp only [Act.put,u1_,u2_,u3_,ax,ay];rfl
                refine nS (i:=13) (N:=some 52) #[Y_,Y_,Y_,Y_,Y_,Y_,Y_,Y_,Y_,Y_,Y_,Y_,Y_,Y_,N_,N_] rfl rfl (dV HT_.out (by kernel_rfl)) (by decide) (fun K hK=>?_)
                refine Kd.iA mE (w0:=w) w.heap.size (by rfl) (.tmp 40) (.tmp 51) 26 121 (.agg #[(.int .i64 0),(.int .i64 0)]) 16 rfl Tryz.underlying26 AY rfl (by decide) (by omega) u349004 x349004_2 (⟨rd l0 x4_2,rd l0 (ji22)⟩:gy) [.int .i64 (rd l0 x4_2),.int .i64 (rd l0 (ji22))] (fun _=>True) (fun _=>False) rfl rfl ?aP (fun _ hk=>hk.elim) ?aF ?aO ?aB ?aS ?aL ?_
                (case aP=>exact vQ _ _ _ (⟨rd l0 x4_2,rd l0 (ji22)⟩:gy))
                (case aB=>exact (by repeat (first | (with_reducible first | exact HB.out | apply ai | apply au | apply aA | refine aN ?_ GE342.out | refine aN ?_ GE348.out) | exact HB.out)))
                (case aF=>exact (fun _ _=>trivial))
                (case aO=>exact (by (with_reducible repeat (first | apply Kd.dL | apply Kd.ic | apply Kd.gF));exact HO_349004.out))
                (case aS=>exact (bB (by repeat (first | (with_reducible first | exact HB.out | apply ai | apply au | apply aA | refine aN ?_ GE342.out | refine aN ?_ GE348.out) | exact HB.out))))
                (case aL=>have:=LMc25.out;omega)
                intro v352 w27 ho hb hg hat
                rw [←Ny351.out] at ho
                have n0_:=Am_ (bJ (g:=gb342) (o:= .cells #[.int .i64 0,.bool false,.int .i64 0,.int .i64 0,.slice none 0 0,.bool false] 58 (0,0)) (by (with_reducible repeat (first | refine aG ?_ _ | refine aI ?_ | refine aC ?_ _));exact BK342.out) hg (Kd.JD HO_349004.out BK342.out (by decide)))
                have n1_:=Am_ (bJ (g:=gb348) (o:= .cells #[.int .i64 (rd l0 0),.bool ((rd l0 1) == 1),.int .i64 (rd l0 2),.int .i64 (rd l0 3),u349004,.bool ((rd l0 4) == 1)] 58 (0,0)) (by (with_reducible repeat (first | refine aG ?_ _ | refine aI ?_ | refine aC ?_ _));exact BK348.out) hg (Kd.JD HO_349004.out BK348.out (by decide)))
                have n2_:=Am_ (hb)
                have n3_:=Am_ (ho)
                clear BK342
                clear BK348
                clear HB
                clear HO_349004
                have BK342:=n0_
                have BK348:=n1_
                have HB:=n2_
                have HO353:=n3_
                clear n0_ n1_ n2_ n3_
                clear ho hb hg hat
                obtain ⟨Ao28,co28,eo28⟩:=Kd.aJ HO353.out
                (first | subst eo28 | (injection eo28 with f1_ f2_ f3_;have f4_:=f1_.symm;have f5_:=f3_.symm;clear f1_ f2_ f3_;subst f4_;subst f5_))
                refine hK.out _ _ ⟨(af BK348.out 0).trans rfl,(af BK348.out 1).trans rfl,(af BK348.out 2).trans rfl,(af BK348.out 3).trans rfl,(af BK348.out 4).trans rfl,(af BK348.out 5).trans rfl,((HB.out.cell (World.block_lt_of_cell? w _ hw349_0)).trans hw349_0),((HB.out.cell (World.block_lt_of_cell? w _ hw350_0)).trans hw350_0)⟩ (fun hHeld=>?_)
                clear hK K
                refine bK (a':=?_) ?_ ?_
                rotate_left; · show Act.put _ (some 52) _=_;simp only [Act.put,u1_,u2_,u3_,ax,ay];rfl
                refine bS (i:=14) (N:=some 53) (v:=?_) (a':=?_) #[Y_,Y_,Y_,Y_,Y_,Y_,Y_,Y_,Y_,Y_,Y_,Y_,Y_,Y_,Y_,N_] rfl rfl (bf HT_.out (by kernel_rfl)) (fun _ _ _ h=>h) (Or.inl ⟨by rfl,?_⟩) ?_ ?_
                rotate_left; · intro w';go_simp;with_reducible rfl
                rotate_left; · simp only [Act.put,u1_,u2_,u3_,ax,ay];rfl
                refine jI (i:=15) (N:=none) #[Y_,Y_,Y_,Y_,Y_,Y_,Y_,Y_,Y_,Y_,Y_,Y_,Y_,Y_,Y_,Y_] rfl rfl (dV HT_.out (by kernel_rfl)) (by decide) (fun K hK=>?_)
                have hs29:w27.cell? ⟨gb348,4,none⟩=some (u349004):=(af BK348.out 4).trans rfl
                have hfs29:=ah BK348.out 4
                have hns29_0:=NB342_348.out
                have hms29_0:=NB348_342.out
                refine fB (w1:=?_) (by rfl) rfl ?_ ?_
                rotate_left
                ·go_simp
                 rfl
                refine hK.out _ _ ?_
                clear hK K
                refine dD (bI HT_.out (by kernel_rfl)) ?_
                try go_wp2
                go_roundg k2
                case measure=>have:=HJ1.out;have:=HK2.out;omega
                case rel=>exact ⟨(wrap64 (x4_2+2)),(y351),(.slice Ao28 y351.length co28),(by first | rfl | (simp;done) | (simp [*];done)),H',⟨by have:=HJ1.out;have:=HK2.out;omega⟩,⟨by (with_reducible repeat (first | apply Kd.dL | apply Kd.ic | apply Kd.gF));exact Kd.bq (Kd.bV (p:=⟨gb348,4,none⟩) (Kd.lg HO353.out BK348.out (by decide)) (fun _ hk=>hk.2) (.slice Ao28 y351.length co28)) (fun _ hk=>trivial)⟩,⟨by (with_reducible repeat (first | refine aG ?_ _ | refine aI ?_ | refine aC ?_ _));refine cO ?_ NB342_348.out _;(with_reducible repeat (first | refine aG ?_ _ | refine aI ?_ | refine aC ?_ _));exact BK342.out⟩,⟨by (with_reducible repeat (first | refine aG ?_ _ | refine aI ?_ | refine aC ?_ _));refine eH (cs:= #[.int .i64 (rd l0 0),.bool ((rd l0 1) == 1),.int .i64 (rd l0 2),.int .i64 (rd l0 3),u349004,.bool ((rd l0 4) == 1)]) ?_ 4 _ rfl;(with_reducible repeat (first | refine aG ?_ _ | refine aI ?_ | refine aC ?_ _));exact BK348.out⟩,⟨by repeat (first | (with_reducible first | exact HB.out | apply ai | apply au | apply aA | refine aN ?_ GE342.out | refine aN ?_ GE348.out) | exact HB.out)⟩⟩
               ·rw [if_neg c25] at H
                exact absurd H (by simp)
              ·rw [if_neg c24] at H
               exact absurd H (by simp)
             ·rw [if_neg c23] at H
              exact absurd H (by simp)
            ·rw [if_neg c21] at H
             exact absurd H (by simp)
           ·rw [if_neg c20] at H
            have c20b0:decide (x4_2<(l0.length:Int))=false:=decide_eq_false c20
            clear c20
            simp only [Option.some.injEq,Prod.mk.injEq] at H
            obtain ⟨rfl,rfl,rfl,rfl,rfl,rfl⟩:=H
            have hnb30:=NB348_342.out
            have hnc30:=NB342_348.out
            have hcz31_0:wr.cell? ⟨gb348,0,none⟩=some (.int .i64 (rd l0 0)):=(af BK348.out 0).trans rfl
            have hcz31_1:wr.cell? ⟨gb348,1,none⟩=some (.bool ((rd l0 1) == 1)):=(af BK348.out 1).trans rfl
            have hcz31_2:wr.cell? ⟨gb348,2,none⟩=some (.int .i64 (rd l0 2)):=(af BK348.out 2).trans rfl
            have hcz31_3:wr.cell? ⟨gb348,3,none⟩=some (.int .i64 (rd l0 3)):=(af BK348.out 3).trans rfl
            have hcz31_4:wr.cell? ⟨gb348,4,none⟩=some (u349004):=(af BK348.out 4).trans rfl
            have hcz31_5:wr.cell? ⟨gb348,5,none⟩=some (.bool ((rd l0 4) == 1)):=(af BK348.out 5).trans rfl
            have hfz31_0:=ah BK348.out 0
            have hfz31_1:=ah BK348.out 1
            have hfz31_2:=ah BK348.out 2
            have hfz31_3:=ah BK348.out 3
            have hfz31_4:=ah BK348.out 4
            have hfz31_5:=ah BK348.out 5
            have hcz32_0:wr.cell? ⟨gb342,0,none⟩=some (.int .i64 0):=(af BK342.out 0).trans rfl
            have hcz32_1:wr.cell? ⟨gb342,1,none⟩=some (.bool false):=(af BK342.out 1).trans rfl
            have hcz32_2:wr.cell? ⟨gb342,2,none⟩=some (.int .i64 0):=(af BK342.out 2).trans rfl
            have hcz32_3:wr.cell? ⟨gb342,3,none⟩=some (.int .i64 0):=(af BK342.out 3).trans rfl
            have hcz32_4:wr.cell? ⟨gb342,4,none⟩=some (.slice none 0 0):=(af BK342.out 4).trans rfl
            have hcz32_5:wr.cell? ⟨gb342,5,none⟩=some (.bool false):=(af BK342.out 5).trans rfl
            have hfz32_0:=ah BK342.out 0
            have hfz32_1:=ah BK342.out 1
            have hfz32_2:=ah BK342.out 2
            have hfz32_3:=ah BK342.out 3
            have hfz32_4:=ah BK342.out 4
            have hfz32_5:=ah BK342.out 5
            obtain ⟨Ao33,co33,eo33⟩:=Kd.aJ HO_349004.out
            subst eo33
            go_wp2
            refine bodyPost_ret (results_cell_row rfl _ _ gb342 58 #[.int .i64 (rd l0 0),.bool ((rd l0 1) == 1),.int .i64 (rd l0 2),.int .i64 (rd l0 3),.slice Ao33 x349004_2.length co33,.bool ((rd l0 4) == 1)] (0,0) _ rfl (by (with_reducible repeat (first | refine aG ?_ _ | refine aI ?_ | refine aC ?_ _));refine eH (cs:= #[.int .i64 (rd l0 0),.bool ((rd l0 1) == 1),.int .i64 (rd l0 2),.int .i64 (rd l0 3),.slice Ao33 x349004_2.length co33,.bool false]) ?_ 5 _ rfl;(with_reducible repeat (first | refine aG ?_ _ | refine aI ?_ | refine aC ?_ _));refine eH (cs:= #[.int .i64 (rd l0 0),.bool ((rd l0 1) == 1),.int .i64 (rd l0 2),.int .i64 (rd l0 3),.slice none 0 0,.bool false]) ?_ 4 _ rfl;(with_reducible repeat (first | refine aG ?_ _ | refine aI ?_ | refine aC ?_ _));refine eH (cs:= #[.int .i64 (rd l0 0),.bool ((rd l0 1) == 1),.int .i64 (rd l0 2),.int .i64 0,.slice none 0 0,.bool false]) ?_ 3 _ rfl;(with_reducible repeat (first | refine aG ?_ _ | refine aI ?_ | refine aC ?_ _));refine eH (cs:= #[.int .i64 (rd l0 0),.bool ((rd l0 1) == 1),.int .i64 0,.int .i64 0,.slice none 0 0,.bool false]) ?_ 2 _ rfl;(with_reducible repeat (first | refine aG ?_ _ | refine aI ?_ | refine aC ?_ _));refine eH (cs:= #[.int .i64 (rd l0 0),.bool false,.int .i64 0,.int .i64 0,.slice none 0 0,.bool false]) ?_ 1 _ rfl;(with_reducible repeat (first | refine aG ?_ _ | refine aI ?_ | refine aC ?_ _));refine eH (cs:= #[.int .i64 0,.bool false,.int .i64 0,.int .i64 0,.slice none 0 0,.bool false]) ?_ 0 _ rfl;(with_reducible repeat (first | refine aG ?_ _ | refine aI ?_ | refine aC ?_ _));exact BK342.out) Tryz.underlying58 rfl (by kernel_rfl)) rfl ?_
            exact ⟨_,by first | rfl | (simp [dP,dQ]<;>rfl) | (simp [*,dP,dQ]<;>rfl),by (with_reducible repeat (first | apply Kd.dL | apply Kd.ic | apply Kd.gF));exact Kd.bq (Kd.bV (p:=⟨gb342,5,none⟩) (Kd.bV (p:=⟨gb342,4,none⟩) (Kd.bV (p:=⟨gb342,3,none⟩) (Kd.bV (p:=⟨gb342,2,none⟩) (Kd.bV (p:=⟨gb342,1,none⟩) (Kd.bV (p:=⟨gb342,0,none⟩) (Kd.lg HO_349004.out BK342.out (by decide)) (fun _ hk=>hk.2) (.int .i64 (rd l0 0))) (fun _ hk=>hk.2) (.bool ((rd l0 1) == 1))) (fun _ hk=>hk.2) (.int .i64 (rd l0 2))) (fun _ hk=>hk.2) (.int .i64 (rd l0 3))) (fun _ hk=>hk.2) (.slice Ao33 x349004_2.length co33)) (fun _ hk=>hk.2) (.bool ((rd l0 4) == 1))) (fun _ hk=>trivial),by repeat (first | (with_reducible first | exact HB.out | apply ai | apply au | apply aA | refine aN ?_ GE342.out | refine aN ?_ GE348.out) | exact HB.out)⟩
        ·rw [if_neg c11] at H
         exact absurd H (by simp)
       ·rw [if_neg c10] at H
        exact absurd H (by simp)
      ·rw [if_neg c9] at H
       exact absurd H (by simp)
     ·rw [if_neg c8] at H
      exact absurd H (by simp)
    ·rw [if_neg c7] at H
     exact absurd H (by simp)
end Go.Proofs.YtmnjjdeaccgjlaaGreat.PAskAlone
namespace Go.Proofs.YtmnjjdeaccgjlaaGreat.PAskAlone
open Go.RowKit Go.Proofs.YtmnjjdeaccgjlaaGreatW.PrintWords Go.Proofs.YtmnjjdeaccgjlaaGreatW.PrintLast Go.Proofs.YtmnjjdeaccgjlaaGreatW.PrintMore
attribute [local go_sem] iH iJ jm jo gH gJ iI iK
theorem AQ (d:Nat) (w:World) (x0 y0:Int) (x1 y1:Int):
  (Op.equalIn (d+2) 121 (.agg #[.int .i64 x0,.int .i64 x1]) (.agg #[.int .i64 y0,.int .i64 y1])).run Tryz.prog w= .ok (x0 == y0 && (x1 == y1)) w:=by
 refine Gg Tryz.underlying121 (by kernel_rfl) ?_
 refine vL (by rfl) (by go_simp;rfl) (by go_simp;rfl) (by go_simp) ?_
 exact vM (by rfl) (by go_simp;rfl) (by go_simp;rfl) (by go_simp)
end Go.Proofs.YtmnjjdeaccgjlaaGreat.PAskAlone
namespace Go.Proofs.YtmnjjdeaccgjlaaGreat.PAskAlone
open Go.RowKit Go.Proofs.YtmnjjdeaccgjlaaGreatW.PrintWords Go.Proofs.YtmnjjdeaccgjlaaGreatW.PrintLast Go.Proofs.YtmnjjdeaccgjlaaGreatW.PrintMore
attribute [local go_sem] iH iJ jm jo gH gJ iI iK
attribute [local go_sem high] AQ
def aK.l0:Nat→List (gy)→List (gy)→Int→Int→Option (Bool)
 | 0,_,_,_,_=>none
 | k+1,x0,x1,x12,x13=>if x13<x12 then (if 0≤x13 then (if x13<(x0.length:Int) then (if x13<(x1.length:Int) then (if (!(((bg x0 x13).f0) == ((bg x1 x13).f0)) || (!(((bg x0 x13).f1) == ((bg x1 x13).f1))))=true then (some false) else (aK.l0 k x0 x1 x12 (wrap64 (x13+1)))) else (none)) else (none)) else (none)) else (some true)
def aK.f (k:Nat) (l0:List (gy)) (l1:List (gy)):Option (Bool):=if (l0.length:Int)=(l1.length:Int) then (aK.l0 k l0 l1 (l0.length:Int) 0) else (some false)
theorem aK.calls (k:Nat) (A0:Option Addr) (c0:Nat) (l0:List (gy)) (A1:Option Addr) (c1:Nat) (l1:List (gy)) (r:Bool) (w:World) (hr0:Kd.C mE w A0 l0.length l0) (hc0:l0.length≤c0) (hr1:Kd.C mE w A1 l1.length l1) (hc1:l1.length≤c1) (h:aK.f k l0 l1=some r):
  Calls Tryz.prog 56 #[.slice A0 l0.length c0,.slice A1 l1.length c1] w fun e w'=>e= .returned (.bool r)∧dK w w':=by
 have hu121:=Tryz.underlying121
 have HR0:=Am_ hr0
 have HC0:=Am_ hc0
 clear hr0 hc0
 have HR1:=Am_ hr1
 have HC1:=Am_ hc1
 clear hr1 hc1
 have H:(if (l0.length:Int)=(l1.length:Int) then (aK.l0 k l0 l1 (l0.length:Int) 0) else (some false))=some r:=h
 clear h
 by_cases c3:(l0.length:Int)=(l1.length:Int)
 ·rw [if_pos c3] at H
  have c3b0:((l0.length:Int) == (l1.length:Int))=true:=beq_iff_eq.mpr c3
  have c3b1:((l0.length:Int) != (l1.length:Int))=false:=bne_eq_false_iff_eq.mpr c3
  have c3b2:(l0.length == l1.length)=true:=by first | simpa using c3 | (simp at c3 ⊢;omega)
  clear c3
  have H':=Am_ H
  clear H
  go_enter Tryz.func56,Tryz.ntmps56
  go_wp2
  repeat (go_quiet (fail);try go_wp2)
  go_loopg [13] k (fun kq v13 w'=> ∃ (x13_1:Int),v13= .int .i64 x13_1∧ak (aK.l0 kq l0 l1 (l0.length:Int) x13_1=some r)∧ak (kq≤k)∧dK w w')
  case atStart=>exact ⟨(0),(by first | rfl | (simp;done) | (simp [*];done)),H',⟨Nat.le_refl _⟩,by repeat (first | exact dK.refl _ | apply dK.step)⟩
  case round=>
   clear H'
   try clear c1
   try clear p2
   try clear c3
   try clear c3b0
   try clear c3b1
   try clear c3b2
   obtain ⟨x13_1,rfl,HA,HK1,⟨m1,rfl⟩⟩:=hrel
   cases gk with
   | zero=>exact absurd HA.out (by simp [aK.l0])
   | succ k1=>
    have H:=HA.out
    clear HA
    simp only [aK.l0] at H
    by_cases c4:x13_1<(l0.length:Int)
    ·rw [if_pos c4] at H
     have c4b0:decide (x13_1<(l0.length:Int))=true:=decide_eq_true c4
     clear c4
     by_cases c5:0≤x13_1
     ·rw [if_pos c5] at H
      have c5b0:decide (0≤x13_1)=true:=decide_eq_true c5
      clear c5
      by_cases c6:x13_1<(l0.length:Int)
      ·rw [if_pos c6] at H
       have c6b0:decide (x13_1<(l0.length:Int))=true:=decide_eq_true c6
       clear c6
       by_cases c7:x13_1<(l1.length:Int)
       ·rw [if_pos c7] at H
        have c7b0:decide (x13_1<(l1.length:Int))=true:=decide_eq_true c7
        clear c7
        by_cases c8:(!(((bg l0 x13_1).f0) == ((bg l1 x13_1).f0)) || (!(((bg l0 x13_1).f1) == ((bg l1 x13_1).f1))))=true
        ·rw [if_pos c8] at H
         have c8b0:(!(((bg l0 x13_1).f0) == ((bg l1 x13_1).f0)) || (!(((bg l0 x13_1).f1) == ((bg l1 x13_1).f1))))=true:=c8
         clear c8
         obtain rfl:=Option.some.inj H
         have p103:0≤(x13_1:Int):=of_decide_eq_true (by first | (with_reducible assumption) | assumption)
         have q103:x13_1<(l0.length:Int):=of_decide_eq_true (by first | (with_reducible assumption) | assumption)
         obtain ⟨ad103,e103,hx103_0,hx103_1⟩:=jb HR0.out x13_1 p103 q103
         cases e103
         replace p103:=eq_true p103
         replace q103:=eq_true q103
         have p104:0≤(x13_1:Int):=of_decide_eq_true (by first | (with_reducible assumption) | assumption)
         have q104:x13_1<(l1.length:Int):=of_decide_eq_true (by first | (with_reducible assumption) | assumption)
         obtain ⟨ad104,e104,hx104_0,hx104_1⟩:=jb HR1.out x13_1 p104 q104
         cases e104
         replace p104:=eq_true p104
         replace q104:=eq_true q104
         go_wp2
         repeat (go_quiet (fail);try go_wp2)
         go_ret
         exact ⟨by first | rfl | (simp;done) | (simp [*];done),by repeat (first | exact dK.refl _ | apply dK.step)⟩
        ·rw [if_neg c8] at H
         have c8b0:(!(((bg l0 x13_1).f0) == ((bg l1 x13_1).f0)) || (!(((bg l0 x13_1).f1) == ((bg l1 x13_1).f1))))=false:=by simpa using c8
         clear c8
         have H':=Am_ H
         clear H
         have p103:0≤(x13_1:Int):=of_decide_eq_true (by first | (with_reducible assumption) | assumption)
         have q103:x13_1<(l0.length:Int):=of_decide_eq_true (by first | (with_reducible assumption) | assumption)
         obtain ⟨ad103,e103,hx103_0,hx103_1⟩:=jb HR0.out x13_1 p103 q103
         cases e103
         replace p103:=eq_true p103
         replace q103:=eq_true q103
         have p104:0≤(x13_1:Int):=of_decide_eq_true (by first | (with_reducible assumption) | assumption)
         have q104:x13_1<(l1.length:Int):=of_decide_eq_true (by first | (with_reducible assumption) | assumption)
         obtain ⟨ad104,e104,hx104_0,hx104_1⟩:=jb HR1.out x13_1 p104 q104
         cases e104
         replace p104:=eq_true p104
         replace q104:=eq_true q104
         go_wp2
         repeat (go_quiet (fail);try go_wp2)
         go_roundg k1
         case measure=>have:=HK1.out;omega
         case rel=>exact ⟨(wrap64 (x13_1+1)),(by first | rfl | (simp;done) | (simp [*];done)),H',⟨by have:=HK1.out;omega⟩,by repeat (first | exact dK.refl _ | apply dK.step)⟩
       ·rw [if_neg c7] at H
        exact absurd H (by simp)
      ·rw [if_neg c6] at H
       exact absurd H (by simp)
     ·rw [if_neg c5] at H
      exact absurd H (by simp)
    ·rw [if_neg c4] at H
     have c4b0:decide (x13_1<(l0.length:Int))=false:=decide_eq_false c4
     clear c4
     obtain rfl:=Option.some.inj H
     go_wp2
     repeat (go_quiet (fail);try go_wp2)
     go_ret
     exact ⟨by first | rfl | (simp;done) | (simp [*];done),by repeat (first | exact dK.refl _ | apply dK.step)⟩
 ·rw [if_neg c3] at H
  have c3b0:((l0.length:Int) == (l1.length:Int))=false:=beq_eq_false_iff_ne.mpr c3
  have c3b1:((l0.length:Int) != (l1.length:Int))=true:=bne_iff_ne.mpr c3
  have c3b2:(l0.length == l1.length)=false:=by first | simpa using c3 | (simp at c3 ⊢;omega)
  obtain rfl:=Option.some.inj H
  go_enter Tryz.func56,Tryz.ntmps56
  go_wp2
  repeat (go_quiet (fail);try go_wp2)
  go_ret
  exact ⟨by first | rfl | (simp;done) | (simp [*];done),by repeat (first | exact dK.refl _ | apply dK.step)⟩
end Go.Proofs.YtmnjjdeaccgjlaaGreat.PAskAlone
namespace Go.Proofs.YtmnjjdeaccgjlaaGreat.Tower
open Go Go.RowKit Go.Proofs.YtmnjjdeaccgjlaaGreatW.PrintWords Go.Proofs.YtmnjjdeaccgjlaaGreatW.PrintLast Go.Proofs.YtmnjjdeaccgjlaaGreatW.PrintMore Go.Proofs.YtmnjjdeaccgjlaaGreat.Own Go.Proofs.YtmnjjdeaccgjlaaGreat.PAskAlone
def prs (l:List Int) (i:Nat):Nat→List gy
 | 0=> []
 | m+1=>⟨l.getD i 0,l.getD (i+1) 0⟩::prs l (i+2) m
theorem Gr (l:List Int) (i:Nat):rd l (i:Int)=l.getD i 0:=by simp [rd]
theorem qV (x0:List Int) (a:Int) (b:Bool) (c d:Int) (e:Bool) (hl:x0.length<1000): ∀ (m k i:Nat) (acc:List gy),x0.length=i+2*m→m<k→acc.length+m<1000→aQ.l0 k x0 (i:Int) a b c d acc e=some (a,b,c,d,acc++prs x0 i m,e)
 | 0,k+1,i,acc,h1,h2,h3=>by
  unfold aQ.l0
  rw [if_neg (by omega)]
  simp [prs]
 | m+1,k+1,i,acc,h1,h2,h3=>by
  unfold aQ.l0
  have w1:wrap64 ((i:Int)+1)=((i+1:Nat):Int):=by unfold wrap64;omega
  have w2:wrap64 ((i:Int)+2)=((i+2:Nat):Int):=by unfold wrap64;omega
  rw [w1,w2,if_pos (by omega),if_pos (by omega),if_pos (by omega),if_pos (by omega),if_pos (by omega),Gr,Gr,qV x0 a b c d e hl m k (i+2) _ (by omega) (by omega) (by simp;omega)]
  simp [prs]
theorem Ec (k:Nat) (l:List Int) (h:5≤l.length):aQ.j0 (k+1) l false=aQ.l0 k l 5 (rd l 0) (rd l 1 == 1) (rd l 2) (rd l 3) [] (rd l 4 == 1):=by
 unfold aQ.j0
 dsimp only
 rw [if_neg (by decide),if_pos (by omega),if_pos (by omega),if_pos (by omega),if_pos (by omega),if_pos (by omega)]
theorem sZ (l:List Int) (m:Nat) (h:l.length=5+2*m) (hm:m<100):aQ.f 1000 l=some (rd l 0,rd l 1 == 1,rd l 2,rd l 3,prs l 5 m,rd l 4 == 1):=by
 unfold aQ.f
 have h2:(((l.length:Int) % 2) == 0)=false:=by simp;omega
 rw [if_neg (by omega),h2,Ec 999 l (by omega)]
 have:=qV l (rd l 0) (rd l 1 == 1) (rd l 2) (rd l 3) (rd l 4 == 1) (by omega) m 999 5 [] (by omega) (by omega) (by simp;omega)
 simpa using this
def zq:Bool × List (List Nat × List Nat):=(true,[([],[]),([0],[0]),([1],[1]),([2],[2]),([],[]),([],[]),([5],[5]),([6],[6]),([7],[7]),([],[]),([],[]),([10],[10]),([11],[11]),([12],[12]),([],[]),([],[]),([13,14,15],[13,14,15]),([],[]),([17],[17]),([18],[18]),([19],[19]),([20],[20]),([3,4,0,1,2,3,4,8,10,11,12,13,14,15,16,20],[3,4]),([22,16,16,0,1,2,3,4,8,10,11,12,13,14,15,16,20],[16,22]),([8,9,0,1,2,3,4,5,6,7,8,9,10,11,12,13,14,15,16,17,18,19,20,21,22,23],[8,9]),([24,21,23,0,1,2,3,4,5,6,7,8,9,10,11,12,13,14,15,16,17,18,19,20,21,22,23],[21,24])])
def He:List Nat:= [0,1,3,7,0,0,32,96,224,0,0,1024,3072,7168,0,0,64512,0,131072,393216,917504,1966080,2096639,6290943,16777215,33554431]
theorem Ct:fq .any (opsOf Tryz.f26 11)=zq:=by kernel_rfl
theorem wY:bA zq.2 He=true:=by kernel_rfl
def zu:Bool × List (List Nat × List Nat):=(true,[([],[]),([],[]),([1],[1]),([2],[2]),([3],[3]),([],[]),([],[]),([],[]),([7],[7]),([8],[8]),([9],[9]),([5,6,10],[5,6,10]),([11],[11]),([4,12],[4,12]),([0,0,1,2,3,4,5,6,7,8,9,10,11,12,13],[0]),([14,0,1,2,3,4,5,6,7,8,9,10,11,12,13],[14]),([15,13,13,0,1,2,3,4,5,6,7,8,9,10,11,12,13],[13,15])])
def Hf:List Nat:= [0,0,2,6,14,0,0,0,128,384,896,2016,4064,8190,16383,32767,65535]
theorem Cu:fq .any (opsOf Tryz.f26 12)=zu:=by kernel_rfl
theorem wZ:bA zu.2 Hf=true:=by kernel_rfl
structure yU (sb p t:Nat) (S:Stg) (o:Opn) (ok:Nat→Prop) (w:World) (e:Ending) (w1:World):Prop where
 out:e= .returned (.int .i64 0)∧ ∃ ok1,iC ok1 sb p (S.start t o) t o [] w1∧Moves ok ok1 w w1
theorem yC {sb p t tb bw bm bo:Nat} {S1:Stg} {o:Opn} {okB okB1 okW ok:Nat→Prop} {b1:SB} {ρ1:Nat→Nat} {w w4 wF:World} (h0:Moves ok (fun k=>okB k∨okW k) w w4) (hF:StS sb p S1 ((List.replicate S1.n iV).set t (oC tb)) okB1 okW b1 ρ1 (shW p S1.ws) (fun k=>okB k∨okW k) w4 wF)
  (T:dA (fun k=>k=tb) tb (kg bw bm bo) th0 w4) (X:jP p t o bw bm bo (fun _=>False) w4) (N:tb≠bw∧tb≠bm∧tb≠bo) (ht:t<S1.n) (hn: ∀ q,(okB q∨okW q)→q≠tb∧q≠bw∧q≠bm∧q≠bo) (hw:w.heap.size≤tb): ∃ ok1,iC ok1 sb p S1 t o [] wF∧Moves ok ok1 w wF:=by
 have htb:=T.lt tb rfl
 have hX:jP p t o bw bm bo (fun k=>okB k∨okW k) w4:=⟨⟨X.hw.1,fun h=>(hn bw h).2.1 rfl⟩,⟨X.hm.1,fun h=>(hn bm h).2.2.1 rfl⟩,⟨X.ho.1,fun h=>(hn bo h).2.2.2 rfl⟩⟩
 have hX1:=jP.moves _ _ _ _ hX hF.mv
 have hnt: ¬ (okB1 tb∨okW tb):=fun h=>(hF.mv.fresh tb h).elim (fun h=>(hn tb h).1 rfl) (fun h=>by omega)
 have hT:=T.step hF.mv.size (fun k hk hlt=>hF.mv.block k hlt (fun h=>(hn k h).1 hk))
 refine ⟨fun k=>okB1 k∨(k=tb∨okW k),⟨okB1,fun k=>k=tb∨okW k,b1,ρ1,tb,bw,bm,bo,0,false,fun _=>Iff.rfl,?_,hF.bx,hF.sf,ht,by simp,⟨fun k=>k=tb,okW,fun _=>Iff.rfl,?_,hT,hF.sh⟩,⟨⟨hX1.hw.1,?_⟩,⟨hX1.hm.1,?_⟩,⟨hX1.ho.1,?_⟩⟩⟩,(h0.trans hF.mv).owns ?_⟩
 ·rintro k h1 (rfl | h2)
  ·exact hnt (.inl h1)
  ·exact hF.dj k h1 h2
 ·rintro k rfl h2
  exact hnt (.inr h2)
 ·rintro (h | h | h)
  ·exact hX1.hw.2 (.inl h)
  ·exact N.1 h.symm
  ·exact hX1.hw.2 (.inr h)
 ·rintro (h | h | h)
  ·exact hX1.hm.2 (.inl h)
  ·exact N.2.1 h.symm
  ·exact hX1.hm.2 (.inr h)
 ·rintro (h | h | h)
  ·exact hX1.ho.2 (.inl h)
  ·exact N.2.2 h.symm
  ·exact hX1.ho.2 (.inr h)
 ·rintro k (h | h | h)
  ·exact (h0.trans hF.mv).fresh k (.inl h)
  ·exact .inr (by omega)
  ·exact (h0.trans hF.mv).fresh k (.inr h)
theorem qH (sb p t:Nat) (S:Stg) (o:Opn) (ok:Nat→Prop) (w:World) (h:dm ok sb p S w) (ht:t<S.n) (hev:S.evs.length<999999) (hk0:0≤o.kind) (hk:o.kind<12):
  Calls Tryz.prog 26 #[.pointer (some ⟨sb,0,none⟩),.int .i64 t,opV o] w (yU sb p t S o ok w):=by
 have HOV:opV o= .agg #[.int .u8 o.kind,.int .i64 o.key,.int .i64 o.upto,.int .i64 o.value]:=rfl
 rw [HOV]
 clear HOV
 obtain ⟨okB,okW,b,ρ,h1,h2,h3,h4,h5⟩:=h.out
 have hl:(List.replicate S.n iV).length=S.n:=by simp
 obtain ⟨gt,ct,gh,ch,ga,ca,Ae,ce,hv⟩:=h3.vals h4 hl ht
 have hm:Moves ok (fun k=>okB k∨okW k) w w:=(Moves.refl ok w).owns (fun k hk=> .inl ((h1 k).2 hk))
 have hs:StS sb p S (List.replicate S.n iV) okB okW b ρ (shW p S.ws) ok w w:=⟨h3,h4,hl,BS p S.ws,h5,h2,hm⟩
 have K1:=Am_ (Mine.new hs.lt (.cells #[.int .u8 o.kind,.int .i64 o.key,.int .i64 o.upto,.int .i64 o.value] 52))
 have H1:=Am_ (hs.below (ai (Below.refl _ _) (.cells #[.int .u8 o.kind,.int .i64 o.key,.int .i64 o.upto,.int .i64 o.value] 52)))
 have HTH:ak ((List.replicate S.n iV)[t]?=some [.pointer none]):=⟨by rw [List.getElem?_replicate,if_pos ht];rfl⟩
 have HT:=Am_ (And.intro ht hev)
 have VV:=Am_ hv
 have b1:(0:Int)≤(t:Int):=by omega
 have b2:(t:Int)<(S.n:Int):=by omega
 have d1:decide ((t:Int)<0)=false:=decide_eq_false (by omega)
 have d2:decide ((t:Int)≥(S.n:Int))=false:=decide_eq_false (by omega)
 have d3:decide ((S.n:Int)≤(t:Int))=false:=decide_eq_false (by omega)
 have d4:decide (S.n≤t)=false:=decide_eq_false (by omega)
 have d5:decide (o.kind≥12)=false:=decide_eq_false (by omega)
 have d6:decide ((12:Int)≤o.kind)=false:=decide_eq_false (by omega)
 have hl1:ak (∀ k,ok k↔okB k∨okW k):=⟨h1⟩
 clear h h1 h2 h3 h4 h5 hl hv hm hs ht hev hk hk0
 go_enter Tryz.func26,Tryz.ntmps26
 go_upto_region 1 with fail
 generalize w.alloc (.cells #[.int .u8 o.kind,.int .i64 o.key,.int .i64 o.upto,.int .i64 o.value] 52)=w2 at K1 H1 ⊢
 generalize w.heap.size=b5 at K1 ⊢
 have c1:=H1.out.c1 VV.out
 have c2:=H1.out.c2 VV.out
 have y1:=H1.out.hal VV.out HT.out.1
 have y2:=(H1.out.th VV.out HTH.out).2.2.1
 have k0:=(af K1.out.1 0).trans (rfl:_=some (Value.int .u8 o.kind))
 go_upto_region 11 with fail
 have HC:=Am_ (show _∧_∧_∧_∧_∧_∧_∧_ from ⟨aj (aM (Below.refl _ _)) H1.out.c0,aj (aM (Below.refl _ _)) (H1.out.c1 VV.out),aj (aM (Below.refl _ _)) (H1.out.c3 VV.out),aj (aM (Below.refl _ _)) (H1.out.c4 VV.out),aj (aM (Below.refl _ _)) ((af K1.out.1 0).trans rfl),aj (aM (Below.refl _ _)) ((af K1.out.1 1).trans rfl),aj (aM (Below.refl _ _)) ((af K1.out.1 2).trans rfl),aj (aM (Below.refl _ _)) ((af K1.out.1 3).trans rfl)⟩)
 have H2:=Am_ H1.out
 have K2:=Am_ K1.out
 clear c1 c2 y1 y2 k0 H1 K1 d1 d2 d3 d4 d5 d6
 refine bG (n:=26) (S:=fun w'=>w'.cell? ⟨sb,0,none⟩=some (.pointer (some ⟨p,0,none⟩))∧w'.cell? ⟨sb,1,none⟩=some (.slice (some ⟨gt,0,none⟩) S.n ct)∧w'.cell? ⟨sb,3,none⟩=some (.slice (some ⟨ga,0,none⟩) S.n ca)∧w'.cell? ⟨sb,4,none⟩=some (.slice Ae S.evs.length ce)∧w'.cell? ⟨b5,0,none⟩=some (.int .u8 o.kind)∧w'.cell? ⟨b5,1,none⟩=some (.int .i64 o.key)∧w'.cell? ⟨b5,2,none⟩=some (.int .i64 o.upto)∧w'.cell? ⟨b5,3,none⟩=some (.int .i64 o.value)) (ds:= [23,25]) (by kernel_rfl) rfl Ct wY HC.out (fun hHeld HT_ HW_=>?_)
 have H3:=Am_ (H2.out.below (aM (Below.refl _ _)))
 have K3:=Am_ (K2.out.moves (Moves.drew (Moves.refl _ _)))
 clear HC H2 K2
 generalize World.drew _=w3 at H3 K3 hHeld ⊢
 refine eO [(0,some 43),(1,some 44),(2,some 45),(3,some 46),(4,some 47),(5,some 48),(6,some 49),(7,some 50),(8,some 51),(9,some 52),(10,some 53),(11,some 54),(12,some 55),(13,some 56),(14,some 57),(15,some 58),(17,some 60),(18,some 61),(19,some 62),(20,some 63),(21,some 64)] ?_
 iterate 3 (refine dZ (v:=?_) (a':=?_) HT_ (by kernel_rfl) rfl rfl (fun _ _ _ h=>h) (Or.inl ⟨by rfl,?_⟩) ?_ ?_;rotate_left;(intro w';go_simp;with_reducible rfl);rotate_left;(simp only [Act.put,p1_,p2_,p3_,ax,ay];rfl))
 iterate 6 (refine iW (v:=?_) (a':=?_) HT_ HW_ (by kernel_rfl) rfl rfl (fun _ _ _ h=>h) hHeld (Or.inl ⟨by rfl,?_⟩) ?_ ?_;rotate_left;(rintro w' ⟨s0,s1,s2,s3,s4,s5,s6,s7⟩;go_simp;with_reducible rfl);rotate_left;(simp only [Act.put,p1_,p2_,p3_,ax,ay];rfl))
 iterate 4 (refine dZ (v:=?_) (a':=?_) HT_ (by kernel_rfl) rfl rfl (fun _ _ _ h=>h) (Or.inl ⟨by rfl,?_⟩) ?_ ?_;rotate_left;(intro w';go_simp;with_reducible rfl);rotate_left;(simp only [Act.put,p1_,p2_,p3_,ax,ay];rfl))
 iterate 7 (refine iW (v:=?_) (a':=?_) HT_ HW_ (by kernel_rfl) rfl rfl (fun _ _ _ h=>h) hHeld (Or.inl ⟨by rfl,?_⟩) ?_ ?_;rotate_left;(rintro w' ⟨s0,s1,s2,s3,s4,s5,s6,s7⟩;go_simp;with_reducible rfl);rotate_left;(simp only [Act.put,p1_,p2_,p3_,ax,ay];rfl))
 (refine dZ (v:=?_) (a':=?_) HT_ (by kernel_rfl) rfl rfl (fun _ _ _ h=>h) (Or.inl ⟨by rfl,?_⟩) ?_ ?_;rotate_left;(intro w';go_simp;with_reducible rfl);rotate_left;(simp only [Act.put,p1_,p2_,p3_,ax,ay];rfl))
 refine aZ ?_
 refine dR (i:=16) (some 59) HT_ (by kernel_rfl) rfl rfl (by decide) (fun K_ hK=>?_)
 refine call_ 59 #[.pointer (some ⟨p,0,none⟩),.int .i64 t,.agg #[.int .u8 o.kind,.int .i64 o.key,.int .i64 o.upto,.int .i64 o.value]] (by rfl) rfl ?hrun16 ?_
 (case hrun16=>first | (go_simp;done) | (go_simp;exact enters Tryz.func59 (by kernel_rfl) rfl _ _))
 refine (qW p t o _).mono ?_
 rintro e w4 ⟨tb,bw,bm,bo,rfl,h1,h2,h3,h4,h5,h6,h7,ht,hs,hb⟩
 have L4:=Am_ (And.intro h1 (And.intro h2 (And.intro h3 h4)))
 have N4:=Am_ (And.intro h5 (And.intro h6 h7))
 have T4:=Am_ ht
 have X4:=Am_ hs
 have L4S:=Am_ hb.size
 have W0:=Am_ H3.out.mv.size
 have Z4:ak (∀ k,(okB k∨okW k)→k<w3.heap.size):=⟨H3.out.lt⟩
 have H0:=Am_ (H3.out.mv.below hb)
 have H4:=Am_ (H3.out.below hb).Ll
 have K4:=Am_ (K3.out.moves (Moves.bE _ hb))
 clear h1 h2 h3 h4 h5 h6 h7 ht hs hb H3 K3
 refine ⟨_,rfl,?_⟩
 refine hK.out _ _ ⟨H4.out.c0,H4.out.c1 VV.out,H4.out.c3 VV.out,H4.out.c4 VV.out,(af K4.out.1 0).trans rfl,(af K4.out.1 1).trans rfl,(af K4.out.1 2).trans rfl,(af K4.out.1 3).trans rfl⟩ (fun hHeld=>?_)
 clear hK K_
 refine bK (a':=?_) ?_ ?_
 rotate_left; · show Act.put _ (some 59) _=_;simp only [Act.put,p1_,p2_,p3_,ax,ay];rfl
 refine eO [(22,some 65)] ?_
 (refine dZ (v:=?_) (a':=?_) HT_ (by kernel_rfl) rfl rfl (fun _ _ _ h=>h) (Or.inl ⟨by rfl,?_⟩) ?_ ?_;rotate_left;(intro w';go_simp;with_reducible rfl);rotate_left;(simp only [Act.put,p1_,p2_,p3_,ax,ay];rfl))
 refine aZ ?_
 have y0:=(H4.out.th VV.out HTH.out).2.2.1
 have z0:=(H4.out.th VV.out HTH.out).2.2.2
 refine bP (i:=23) none HT_ (by kernel_rfl) rfl rfl (by decide) (fun K_ hK=>?_)
 refine fB (w1:=?_) (by rfl) rfl ?_ ?_
 rotate_left; · go_simp;rfl
 refine hK.out _ _ ?_
 clear hK K_
 have V5:ak (SVal { b with ths:=b.ths.set t [.pointer (some ⟨tb,0,none⟩)] } S gt ct gh ch ga ca Ae ce):=⟨⟨VV.out.tv,VV.out.hv,VV.out.av,VV.out.ev⟩⟩
 have K5:=Am_ (K4.out.far (p:=⟨gt,t,none⟩) (fun e=>K4.out.2 (.inl (e▸(H4.out.th VV.out HTH.out).1))) (.pointer (some ⟨tb,0,none⟩)))
 have H5:=Am_ (H4.out.wz VV.out HTH.out (.pointer (some ⟨tb,0,none⟩)) rfl)
 clear y0 z0 H4 K4
 generalize w4.setCell ⟨gt,t,none⟩ (.pointer (some ⟨tb,0,none⟩))=w5 at H5 K5 ⊢
 refine eO [(24,some 66)] ?_
 (refine dZ (v:=?_) (a':=?_) HT_ (by kernel_rfl) rfl rfl (fun _ _ _ h=>h) (Or.inl ⟨by rfl,?_⟩) ?_ ?_;rotate_left;(intro w';go_simp;with_reducible rfl);rotate_left;(simp only [Act.put,p1_,p2_,p3_,ax,ay];rfl))
 refine aZ ?_
 have y0:=(H5.out.ats V5.out HT.out.1).1
 have z0:=(H5.out.ats V5.out HT.out.1).2
 refine bP (i:=25) none HT_ (by kernel_rfl) rfl rfl (by decide) (fun K_ hK=>?_)
 refine fB (w1:=?_) (by rfl) rfl ?_ ?_
 rotate_left; · go_simp;rfl
 refine hK.out _ _ ?_
 clear hK K_
 have V6:ak (SVal { b with ths:=b.ths.set t [.pointer (some ⟨tb,0,none⟩)],ats:=b.ats.set t [.int .i64 S.evs.length] } { S with ats:=S.ats.set t S.evs.length } gt ct gh ch ga ca Ae ce):=⟨⟨VV.out.tv,VV.out.hv,VV.out.av,VV.out.ev⟩⟩
 have K6:=Am_ (K5.out.far (p:=⟨ga,t,none⟩) (fun e=>K5.out.2 (.inl (e▸(by have h1:=H5.out.bx.ats;rw [V5.out.av] at h1;exact (h1.1 ga rfl).1)))) (.int .i64 S.evs.length))
 have H6:=Am_ (H5.out.at_set V5.out HT.out.1 S.evs.length)
 clear y0 z0 H5 K5 VV V5
 generalize w5.setCell ⟨ga,t,none⟩ (.int .i64 S.evs.length)=w6 at H6 K6 ⊢
 generalize hb6:({ b with ths:=b.ths.set t [.pointer (some ⟨tb,0,none⟩)],ats:=b.ats.set t [.int .i64 S.evs.length] }:SB)=b6 at H6 V6
 have HCL:ak (S.clock=S.clock):=⟨rfl⟩
 refine dD (bI HT_.out (by kernel_rfl)) ?_
 clear HTH
 have hW3:w3.heap.size≤w6.heap.size:=Nat.le_trans L4S.out H6.out.mv.size
 have H4S:=Am_ hW3
 clear hW3
 go_upto_region 12 with fail
 have HC:=Am_ (show _∧_∧_∧_∧_∧_ from ⟨aj (aM (Below.refl _ _)) (H6.out.c4 V6.out),aj (aM (Below.refl _ _)) H6.out.c6,aj (aM (Below.refl _ _)) ((af K6.out.1 0).trans rfl),aj (aM (Below.refl _ _)) ((af K6.out.1 1).trans rfl),aj (aM (Below.refl _ _)) ((af K6.out.1 2).trans rfl),aj (aM (Below.refl _ _)) ((af K6.out.1 3).trans rfl)⟩)
 refine bG (n:=17) (S:=fun w'=>w'.cell? ⟨sb,4,none⟩=some (.slice Ae S.evs.length ce)∧w'.cell? ⟨sb,6,none⟩=some (.int .i64 S.clock)∧w'.cell? ⟨b5,0,none⟩=some (.int .u8 o.kind)∧w'.cell? ⟨b5,1,none⟩=some (.int .i64 o.key)∧w'.cell? ⟨b5,2,none⟩=some (.int .i64 o.upto)∧w'.cell? ⟨b5,3,none⟩=some (.int .i64 o.value)) (ds:= [13,16]) (by kernel_rfl) rfl Cu wZ HC.out (fun hHeld HT_ HW_=>?_)
 have H7:=Am_ (H6.out.below (aM (Below.refl _ _)))
 have K7:=Am_ (K6.out.moves (Moves.drew (Moves.refl _ _)))
 clear HC H6 K6
 generalize World.drew _=w7 at H7 K7 hHeld ⊢
 refine eO [(0,some 67),(1,some 68),(2,some 69),(3,some 70),(4,some 71),(5,some 72),(6,some 73),(7,some 74),(8,some 75),(9,some 76),(10,some 77),(11,some 78)] ?_
 iterate 4 (refine dZ (v:=?_) (a':=?_) HT_ (by kernel_rfl) rfl rfl (fun _ _ _ h=>h) (Or.inl ⟨by rfl,?_⟩) ?_ ?_;rotate_left;(intro w';go_simp;with_reducible rfl);rotate_left;(simp only [Act.put,p1_,p2_,p3_,ax,ay];rfl))
 iterate 8 (refine iW (v:=?_) (a':=?_) HT_ HW_ (by kernel_rfl) rfl rfl (fun _ _ _ h=>h) hHeld (Or.inl ⟨by rfl,?_⟩) ?_ ?_;rotate_left;(rintro w' ⟨s0,s1,s2,s3,s4,s5⟩;go_simp;with_reducible rfl);rotate_left;(simp only [Act.put,p1_,p2_,p3_,ax,ay];rfl))
 refine aZ ?_
 refine dR (i:=12) (some 79) HT_ (by kernel_rfl) rfl rfl (by decide) (fun K_ hK=>?_)
 refine fT (v:= .slice (some ⟨w7.heap.size,0,none⟩) 1 1) (w1:=w7.alloc (.cells (dH ⟨t,o,S.clock,-1,CP⟩ (.slice none 0 0)).toArray 137)) (by rfl) rfl ?hbs ?_
 (case hbs=>go_simp;first | done | rfl)
 have K8:=Am_ (K7.out.moves (Moves.bE _ (ai (Below.refl _ _) (.cells (dH ⟨t,o,S.clock,-1,CP⟩ (.slice none 0 0)).toArray 137))))
 have H8:=Am_ (H7.out.below (ai (Below.refl _ _) (.cells (dH ⟨t,o,S.clock,-1,CP⟩ (.slice none 0 0)).toArray 137)))
 refine hK.out _ _ ⟨H8.out.c4 V6.out,H8.out.c6,(af K8.out.1 0).trans rfl,(af K8.out.1 1).trans rfl,(af K8.out.1 2).trans rfl,(af K8.out.1 3).trans rfl⟩ (fun hHeld=>?_)
 clear hK K_
 refine bK (a':=?_) ?_ ?_
 rotate_left; · show Act.put _ (some 79) _=_;simp only [Act.put,p1_,p2_,p3_,ax,ay];rfl
 refine bP (i:=13) (some 80) HT_ (by kernel_rfl) rfl rfl (by decide) (fun K_ hK=>?_)
 refine Kd.iA (Kd.raw 13) (w0:=w7) 0 (by rfl) (.tmp 71) (.tmp 79) 66 137 _ 120 rfl Tryz.underlying66 Ba rfl (by decide) (by decide) (.slice Ae S.evs.length ce) (fP b6.evs b6.pv) (dH ⟨t,o,S.clock,-1,CP⟩ (.slice none 0 0)) (dH ⟨t,o,S.clock,-1,CP⟩ (.slice none 0 0)) (fun k=>(okB k∧ρ k=4)∨w7.heap.size≤k) (fun _=>False) rfl rfl ⟨rfl,rfl,ng (w:=w7) (ok:=fun _=>True) ⟨none,0,rfl,Nat.le_refl _,Kd.jD _ _ _⟩⟩ (fun _ hk=>hk.elim) (fun k hk=> .inr hk) (Kd.bq (by have h1:=H7.out.bx.evs;rw [V6.out.ev] at h1;exact h1) (fun k hk=> .inl hk)) (Below.refl _ _) (Nat.zero_le _) (by rw [cZ,H7.out.sf.evs];have:=HT.out.2;show (S.evs.length+1)*120≤_;omega) ?_
 intro v9 w9 ho hb9 hg hat
 obtain ⟨A9,c9,rfl⟩:=Kd.aJ ho
 rw [←V6.out.ev] at hg
 have hne:some sb≠b6.ev.ownBlock:=fun e=>by have:=(H7.out.bx.evs.1 sb e.symm).2;rw [H7.out.bx.role] at this;cases this
 have z0:w9.frozen? ⟨sb,4,none⟩=false:=ah (bJ H7.out.bx.box hg hne) 4
 have y0:=(af (bJ H7.out.bx.box hg hne) 4).trans (rfl:_=some b6.ev)
 have H9:=Am_ (H7.out.AV hg rfl HT.out.2 ho)
 have hle:(fP b6.evs b6.pv++ [dH ⟨t,o,S.clock,-1,CP⟩ (.slice none 0 0)]).length=S.evs.length+1:=by rw [List.length_append,cZ,H7.out.sf.evs];rfl
 rw [hle] at H9 ⊢
 clear ho hg hat hb9 hne hle H7 K7 H8 K8
 refine hK.out _ _ ?_
 clear hK K_
 refine bK (a':=?_) ?_ ?_
 rotate_left; · show Act.put _ (some 80) _=_;simp only [Act.put,p1_,p2_,p3_,ax,ay];rfl
 refine eO [(14,some 81),(15,some 82)] ?_
 iterate 2 (refine dZ (v:=?_) (a':=?_) HT_ (by kernel_rfl) rfl rfl (fun _ _ _ h=>h) (Or.inl ⟨by rfl,?_⟩) ?_ ?_;rotate_left;(intro w';go_simp;with_reducible rfl);rotate_left;(simp only [Act.put,p1_,p2_,p3_,ax,ay];rfl))
 refine aZ ?_
 refine bP (i:=16) none HT_ (by kernel_rfl) rfl rfl (by decide) (fun K_ hK=>?_)
 refine fB (w1:=?_) (by rfl) rfl ?_ ?_
 rotate_left; · go_simp;rfl
 refine hK.out _ _ ?_
 clear hK K_
 clear y0 z0
 generalize w9.setCell ⟨sb,4,none⟩ (.slice A9 (S.evs.length+1) c9)=w10 at H9 ⊢
 refine dD (bI HT_.out (by kernel_rfl)) ?_
 have c6:=H9.out.c6
 have f6:=ah H9.out.bx.box 6
 go_wp2_with fail
 go_ret
 obtain ⟨l1,l2,l3,l4⟩:=L4.out
 exact ⟨⟨rfl,yC H0.out H9.out.tick T4.out X4.out N4.out HT.out.1 (fun q hq=>by have:=Z4.out q hq;omega) (by have:=W0.out;omega)⟩⟩
def zn:Bool × List (List Nat × List Nat):=(true,[([],[]),([0],[0]),([1],[1]),([2],[2]),([],[]),([4],[4]),([5],[5]),([6],[6]),([],[]),([7,8],[7,8]),([9],[9]),([3,10],[3,10]),([11,0,1,2,3,4,5,6,7,8,9,10,11],[11])])
def GY:List Nat:= [0,1,3,7,0,16,48,112,0,496,1008,2047,4095]
theorem Cr:fq .any (opsOf Tryz.f23 11)=zn:=by kernel_rfl
theorem wW:bA zn.2 GY=true:=by kernel_rfl
def zo:Bool × List (List Nat × List Nat):=(true,[([],[]),([],[]),([],[]),([2],[2]),([3],[3]),([4],[4]),([],[]),([6],[6]),([7],[7]),([8],[8]),([],[]),([9,10],[9,10]),([11],[11]),([12],[12]),([13,13],[13]),([0,0,2,3,4,5,9,12,13,14],[0]),([15,0,2,3,4,5,9,12,13,14],[15]),([16,5,14,0,2,3,4,5,9,12,13,14],[5,16]),([1,0,1,2,3,4,5,6,7,8,9,10,11,12,13,14,15,16,17],[1]),([18,0,1,2,3,4,5,6,7,8,9,10,11,12,13,14,15,16,17],[18]),([19,14,17,0,1,2,3,4,5,6,7,8,9,10,11,12,13,14,15,16,17],[14,19])])
def GZ:List Nat:= [0,0,0,4,12,28,0,64,192,448,0,1984,4032,8128,16320,32765,65533,131069,262143,524287,1048575]
theorem Cs:fq .any (opsOf Tryz.f23 12)=zo:=by kernel_rfl
theorem wX:bA zo.2 GZ=true:=by kernel_rfl
structure yV (sb p t i:Nat) (S:Stg) (o:Opn) (ok:Nat→Prop) (res:Out (List Int) × TS Ws) (w:World) (e:Ending) (w1:World):Prop where
 out: ∃ ok1,Moves ok ok1 w w1∧match res.1 with
  | .wait=>e= .returned (.tuple #[.bool false,.int .i64 0])∧iC ok1 sb p (Stg.tick { S with ws:=res.2.sh }) t o res.2.log w1
  | .ret l=>e= .returned (.tuple #[.bool true,.int .i64 0])∧dm ok1 sb p (Stg.tick (Stg.finish { S with ws:=res.2.sh } i l)) w1
theorem IK (n t a:Nat):((List.replicate n iV).set t (oC a)).set t iV=List.replicate n iV:=by
 rw [List.set_set]
 refine List.ext_getElem? fun j=>?_
 rw [List.getElem?_set]
 split
 ·rename_i h
  subst h
  rw [List.length_replicate,List.getElem?_replicate]
 ·rfl
theorem pI {sb p tb:Nat} {S:Stg} {ths:List (List Value)} {okB okI okJ ok:Nat→Prop} {b:SB} {ρ:Nat→Nat} {work:Value} {th2:Th} {x2:Ws} {Q:(Nat→Prop)→World→Prop} {w w2:World} (hs:StS sb p S ths okB okI b ρ Q ok w w) (hm:Moves okI okJ w w2) (hid:Idle (shW p) tb work okJ x2 th2 w2):StS sb p { S with ws:=x2 } ths okB okJ b ρ (fun ok w=>Idle (shW p) tb work ok x2 th2 w) ok w w2:=
 ⟨hs.bx.step hm.size (fun k hk hlt=>hm.block k hlt (hs.dj k hk)),hs.sf.ws _,hs.len,BR _ _ _ _ _,hid,fun k hk hk1=>(hm.fresh k hk1).elim (hs.dj k hk) (fun h=>by have:=hs.bx.lt k hk;omega),
  (hs.mv.trans ((hm.part (ok:=fun k=>okB k∨okI k) (okB:=okB) (fun _ h=> .inr h) (fun _ h=> .inl h)))).owns (fun k hk=>hk.elim (fun h=>hs.mv.fresh k (.inl h)) (fun h=>(hm.fresh k h).elim (fun h=>hs.mv.fresh k (.inr h)) .inr))⟩
theorem Er {p tb:Nat} {work:Value} {ok:Nat→Prop} {x:Ws} {th:Th} (w:World) (h:Idle (shW p) tb work ok x th w) (hd:th.done=true) (hl:th.out.length<1000000):
  Calls Tryz.prog 62 #[.pointer (some ⟨tb,0,none⟩)] w fun e w1=> ∃ v,e= .returned v∧(Kd.int .i64).R 2 w1 w.heap.size (fun k=>w.heap.size≤k) v th.out∧Below w.heap.size w w1:=by
 obtain ⟨_,_,_,_,h3,_⟩:=h.out
 exact Bv w h3 hd hl
theorem wJ (l:List Int) (h:l.length=5):aQ.f 1000 l=some ((gU l).err,(gU l).found,(gU l).key,(gU l).value,[],(gU l).short):=sZ l 0 h (by decide)
theorem Je {sb p tb:Nat} {S1:Stg} {ths:List (List Value)} {okB okI ok:Nat→Prop} {b1:SB} {ρ1:Nat→Nat} {work:Value} {th:Th} {w wF:World} (hF:StS sb p S1 ths okB okI b1 ρ1 (fun ok w=>Idle (shW p) tb work ok S1.ws th w) ok w wF) (he:ths=List.replicate S1.n iV): ∃ ok1,Moves ok ok1 w wF∧dm ok1 sb p S1 wF:=by
 obtain ⟨okT,okS,h1,h2,h3,h4⟩:=hF.sh.out
 subst he
 exact ⟨fun k=>okB k∨okS k,hF.mv.owns (fun k hk=>hF.mv.fresh k (hk.imp id (fun h=>(h1 k).2 (.inr h)))),⟨okB,okS,b1,ρ1,fun _=>Iff.rfl,fun k hk hk1=>hF.dj k hk ((h1 k).2 (.inr hk1)),hF.bx,hF.sf,h4⟩⟩
theorem Jd {sb p t tb bw bm bo:Nat} {S1:Stg} {o:Opn} {log:List Int} {at_:Int} {spent:Bool} {okB okI ok:Nat→Prop} {b1:SB} {ρ1:Nat→Nat} {w wF:World} (hF:StS sb p S1 ((List.replicate S1.n iV).set t (oC tb)) okB okI b1 ρ1 (fun ok w=>Idle (shW p) tb (kg bw bm bo) ok S1.ws (Jw log at_ spent) w) ok w wF) (ht:t<S1.n) (hl:log.length<1000000) (hX:jP p t o bw bm bo (fun k=>okB k∨okI k) wF):iC (fun k=>okB k∨okI k) sb p S1 t o log wF:=
 ⟨okB,okI,b1,ρ1,tb,bw,bm,bo,at_,spent,fun _=>Iff.rfl,hF.dj,hF.bx,hF.sf,ht,hl,hF.sh,hX⟩
theorem sG (sb p t i:Nat) (S:Stg) (o:Opn) (log:List Int) (ok:Nat→Prop) (w:World) (h:iC ok sb p S t o log w) (f:Nat) (dT:Pr Ws Ans)
  (hdo: ∀ tb work ok s w res,dN (shW p) tb work ok s w→dT s=some res→Calls Tryz.prog 100 #[eP tb p t,opV o] w (fQ (shW p) tb work JE ok w res))
  (hsm: ∀ s a t,dT s=some (.ret a,t)→a.pairs= []) (hi:S.ats.getD t 0=(i:Int)) (hil:i<S.evs.length)
  (res:Out (List Int) × TS Ws) (hr:mR t f dT ⟨S.ws,log,0,false⟩=some res) (h5: ∀ l,res.1= .ret l→l.length=5):
  Calls Tryz.prog 23 #[.pointer (some ⟨sb,0,none⟩),.int .i64 t] w (yV sb p t i S o ok res w):=by
 obtain ⟨okB,okI,b,ρ,tb,bw,bm,bo,at_,spent,h1,h2,h3,h4,ht,hlog,hid,hbx⟩:=h.out
 have hl:((List.replicate S.n iV).set t (oC tb)).length=S.n:=by simp
 obtain ⟨gt,ct,gh,ch,ga,ca,Ae,ce,hv⟩:=h3.vals h4 hl ht
 have hm:Moves ok (fun k=>okB k∨okI k) w w:=(Moves.refl ok w).owns (fun k hk=> .inl ((h1 k).2 hk))
 have hs:StS sb p S ((List.replicate S.n iV).set t (oC tb)) okB okI b ρ (fun ok w=>Idle (shW p) tb (kg bw bm bo) ok S.ws (Jw log at_ spent) w) ok w w:=⟨h3,h4,hl,BR _ _ _ _ _,hid,h2,hm⟩
 have hbxI:jP p t o bw bm bo okI w:=⟨⟨hbx.hw.1,fun h=>hbx.hw.2 ((h1 bw).2 (.inr h))⟩,⟨hbx.hm.1,fun h=>hbx.hm.2 ((h1 bm).2 (.inr h))⟩,⟨hbx.ho.1,fun h=>hbx.ho.2 ((h1 bo).2 (.inr h))⟩⟩
 have hbxB: ∀ q,okB q→q≠bw∧q≠bm∧q≠bo:=fun q hq=>⟨fun e=>hbx.hw.2 (e▸(h1 q).2 (.inl hq)),fun e=>hbx.hm.2 (e▸(h1 q).2 (.inl hq)),fun e=>hbx.ho.2 (e▸(h1 q).2 (.inl hq))⟩
 have HST:=Am_ (BX (aX p) tb 98 #[.pointer (some ⟨bw,0,none⟩),.pointer (some ⟨bm,0,none⟩),.pointer (some ⟨bo,0,none⟩)] okI S.ws log at_ spent w (jP p t o bw bm bo) (mR t f dT) hid hlog jP.moves hbxI (enters Tryz.func98 (by kernel_rfl) rfl _)
  (fun ok1 s w1 res1 hi hb hres=>pY p tb _ t o bw bm bo ok1 s w1 f dT hi hb (fun ok s w res h1 h2=>hdo tb _ ok s w res h1 h2) (fun s a t h1=>by rw [hsm s a t h1];decide) res1 hres) res hr)
 have HB0:=Am_ hbxB
 have HBI:=Am_ hbxI
 have HTH:ak (((List.replicate S.n iV).set t (oC tb))[t]?=some [.pointer (some ⟨tb,0,none⟩)]):=⟨by rw [List.getElem?_set_self (by simpa using ht)];rfl⟩
 have HT:=Am_ (And.intro ht hil)
 have VV:=Am_ hv
 have H1:=Am_ hs
 have HAI:ak (some (Value.int .i64 (S.ats.getD t 0))=some (Value.int .i64 (i:Int))):=⟨by rw [hi]⟩
 have H5:=Am_ h5
 have b1:(0:Int)≤(t:Int):=by omega
 have b2:(t:Int)<(S.n:Int):=by omega
 have b3:(0:Int)≤(i:Int):=by omega
 have b4:(i:Int)<(S.evs.length:Int):=by omega
 have d1:decide ((t:Int)<0)=false:=decide_eq_false (by omega)
 have d2:decide ((t:Int)≥(S.n:Int))=false:=decide_eq_false (by omega)
 have d3:decide ((S.n:Int)≤(t:Int))=false:=decide_eq_false (by omega)
 have d4:decide (S.n≤t)=false:=decide_eq_false (by omega)
 have c1:=hs.c1 hv
 have c2:=hs.c2 hv
 have y1:=hs.hal hv ht
 have y2:=(hs.th hv HTH.out).2.2.1
 clear h h1 h2 h3 h4 hid hbx hlog hl hv hm hs ht hil hi hr h5 hdo hsm hbxI hbxB
 go_enter Tryz.func23,Tryz.ntmps23
 go_upto_region 9 with fail
 go_upto_region 10 with (go_at_call 71;refine HST.out.mono ?_;rintro e w2 hE;obtain ⟨okJ,hmJ,hlg,hres⟩:=hE.out;obtain ⟨o1,s1⟩:=res;have HJ:=Am_ hmJ;have HLG:=Am_ hlg;clear hE HST c1 c2 y1 y2 d1 d2 d3 d4 hmJ hlg;rcases o1 with l | _)
 ·obtain ⟨rfl,hid⟩:=hres
  have H2:=Am_ (pI H1.out HJ.out hid)
  have V2:ak (SVal b { S with ws:=s1.sh } gt ct gh ch ga ca Ae ce):=⟨⟨VV.out.tv,VV.out.hv,VV.out.av,VV.out.ev⟩⟩
  have h5:=H5.out l rfl
  have HLL:ak (l.length<1000000):=⟨by omega⟩
  have HAN:=Am_ (wJ l h5)
  obtain ⟨ev,hei⟩: ∃ ev,S.evs[i]?=some ev:=⟨_,List.getElem?_eq_getElem HT.out.2⟩
  obtain ⟨ge,_,e1,_⟩:=H2.out.ev V2.out hei
  have HEI:=Am_ hei
  subst e1
  clear hid h5 hei H1 VV HBI HB0 H5 HJ
  go_upto_region 11 with fail
  have HC:=Am_ (show _∧_∧_ from ⟨aj (aM (Below.refl _ _)) (H2.out.c3 V2.out),aj (aM (Below.refl _ _)) (H2.out.c4 V2.out),aj (aM (Below.refl _ _)) ((H2.out.ats V2.out HT.out.1).1.trans HAI.out)⟩)
  refine bG (n:=13) (S:=fun w'=>w'.cell? ⟨sb,3,none⟩=some (.slice (some ⟨ga,0,none⟩) S.n ca)∧w'.cell? ⟨sb,4,none⟩=some (.slice (some ⟨ge,0,none⟩) S.evs.length ce)∧w'.cell? ⟨ga,t,none⟩=some (.int .i64 (i:Int))) (ds:= []) (by kernel_rfl) rfl Cr wW HC.out (fun hHeld HT_ HW_=>?_)
  have H3:=Am_ (H2.out.below (aM (Below.refl _ _)))
  clear HC H2
  generalize World.drew _=w3 at H3 hHeld ⊢
  refine eO [(0,some 49),(1,some 50),(2,some 51),(3,some 52),(4,some 53),(5,some 54),(6,some 55),(7,some 56),(8,some 57),(9,some 58),(10,some 59),(11,some 60),(12,some 7)] ?_
  iterate 3 (refine dZ (v:=?_) (a':=?_) HT_ (by kernel_rfl) rfl rfl (fun _ _ _ h=>h) (Or.inl ⟨by rfl,?_⟩) ?_ ?_;rotate_left;(intro w';go_simp;with_reducible rfl);rotate_left;(simp only [Act.put,p1_,p2_,p3_,ax,ay];rfl))
  iterate 10 (refine iW (v:=?_) (a':=?_) HT_ HW_ (by kernel_rfl) rfl rfl (fun _ _ _ h=>h) hHeld (Or.inl ⟨by rfl,?_⟩) ?_ ?_;rotate_left;(rintro w' ⟨s0,s1,s2⟩;go_simp;with_reducible rfl);rotate_left;(simp only [Act.put,p1_,p2_,p3_,ax,ay];rfl))
  refine aZ ?_
  refine dD (bI HT_.out (by kernel_rfl)) ?_
  go_upto_region 12 with fail
  have HC:=Am_ (show _∧_∧_ from ⟨aj (aM (Below.refl _ _)) (H3.out.c1 V2.out),aj (aM (Below.refl _ _)) (H3.out.c6),aj (aM (Below.refl _ _)) ((H3.out.th V2.out HTH.out).2.2.1)⟩)
  refine bG (n:=21) (S:=fun w'=>w'.cell? ⟨sb,1,none⟩=some (.slice (some ⟨gt,0,none⟩) S.n ct)∧w'.cell? ⟨sb,6,none⟩=some (.int .i64 S.clock)∧w'.cell? ⟨gt,t,none⟩=some (.pointer (some ⟨tb,0,none⟩))) (ds:= [17,20]) (by kernel_rfl) rfl Cs wX HC.out (fun hHeld HT_ HW_=>?_)
  have H4:=Am_ (H3.out.below (aM (Below.refl _ _)))
  clear HC H3
  generalize World.drew _=w4 at H4 hHeld ⊢
  refine eO [(0,some 61),(1,some 62),(2,some 63),(3,some 64),(4,some 65),(5,some 66),(6,some 67),(7,some 68),(8,some 69),(9,some 70),(10,some 71),(11,some 72),(12,some 73)] ?_
  iterate 5 (refine dZ (v:=?_) (a':=?_) HT_ (by kernel_rfl) rfl rfl (fun _ _ _ h=>h) (Or.inl ⟨by rfl,?_⟩) ?_ ?_;rotate_left;(intro w';go_simp;with_reducible rfl);rotate_left;(simp only [Act.put,p1_,p2_,p3_,ax,ay];rfl))
  iterate 8 (refine iW (v:=?_) (a':=?_) HT_ HW_ (by kernel_rfl) rfl rfl (fun _ _ _ h=>h) hHeld (Or.inl ⟨by rfl,?_⟩) ?_ ?_;rotate_left;(rintro w' ⟨s0,s1,s2⟩;go_simp;with_reducible rfl);rotate_left;(simp only [Act.put,p1_,p2_,p3_,ax,ay];rfl))
  refine aZ ?_
  refine dR (i:=13) (some 74) HT_ (by kernel_rfl) rfl rfl (by decide) (fun K_ hK=>?_)
  refine call_ 62 #[.pointer (some ⟨tb,0,none⟩)] (by rfl) rfl ?hrun13 ?_
  (case hrun13=>first | (go_simp;done) | (go_simp;exact enters Tryz.func62 (by kernel_rfl) rfl _ _))
  refine (Er _ H4.out.sh rfl HLL.out).mono ?_
  rintro e w5 ⟨v,rfl,hv,hb⟩
  obtain ⟨Ao,co,rfl⟩:=Kd.aJ hv
  have VO:=Am_ hv
  have H5:=Am_ (H4.out.below hb)
  clear hv hb H4
  refine ⟨_,rfl,?_⟩
  refine hK.out _ _ ⟨H5.out.c1 V2.out,H5.out.c6,(H5.out.th V2.out HTH.out).2.2.1⟩ (fun hHeld=>?_)
  clear hK K_
  refine bK (a':=?_) ?_ ?_
  rotate_left; · show Act.put _ (some 74) _=_;simp only [Act.put,p1_,p2_,p3_,ax,ay];rfl
  refine dR (i:=14) (some 75) HT_ (by kernel_rfl) rfl rfl (by decide) (fun K_ hK=>?_)
  refine call_ 61 #[.slice Ao l.length co] (by rfl) rfl ?hrun14 ?_
  (case hrun14=>first | (go_simp;done) | (go_simp;exact enters Tryz.func61 (by kernel_rfl) rfl _ _))
  refine (aQ.calls 1000 Ao co l _ _ _ _ _ _ _ (Kd.bM VO.out).2.2 (Kd.bM VO.out).2.1 HAN.out).mono ?_
  rintro e w6 ⟨vp,rfl,hv,hb⟩
  obtain ⟨Ap,cp,rfl⟩:=Kd.aJ hv
  have H6:=Am_ (H5.out.below hb)
  clear hv hb H5 VO
  refine ⟨_,rfl,?_⟩
  refine hK.out _ _ ⟨H6.out.c1 V2.out,H6.out.c6,(H6.out.th V2.out HTH.out).2.2.1⟩ (fun hHeld=>?_)
  clear hK K_
  refine bK (a':=?_) ?_ ?_
  rotate_left; · show Act.put _ (some 75) _=_;simp only [Act.put,p1_,p2_,p3_,ax,ay];rfl
  refine eO [(15,some 76),(16,some 77)] ?_
  iterate 2 (refine dZ (v:=?_) (a':=?_) HT_ (by kernel_rfl) rfl rfl (fun _ _ _ h=>h) (Or.inl ⟨by rfl,?_⟩) ?_ ?_;rotate_left;(intro w';go_simp;with_reducible rfl);rotate_left;(simp only [Act.put,p1_,p2_,p3_,ax,ay];rfl))
  refine aZ ?_
  obtain ⟨g1,v1,e1,hev⟩:=H6.out.ev V2.out HEI.out
  injection e1 with e1
  injection e1 with e1 _ _
  subst e1
  have HE:=Am_ hev
  clear hev
  have y6:=HE.out.2.1 6 _ rfl
  have z6:=HE.out.2.2.1 6
  refine bP (i:=17) none HT_ (by kernel_rfl) rfl rfl (by decide) (fun K_ hK=>?_)
  refine fB (w1:=?_) (by rfl) rfl ?_ ?_
  rotate_left; · go_simp;rfl
  refine hK.out _ _ ?_
  clear hK K_
  have V7:ak (SVal { b with evs:=b.evs.set i { ev with fin:=S.clock },pv:=b.pv } { S with ws:=s1.sh,evs:=S.evs.set i { ev with fin:=S.clock } } gt ct gh ch ga ca (some ⟨ge,0,none⟩) ce):=⟨⟨V2.out.tv,V2.out.hv,V2.out.av,by show b.ev=_;rw [V2.out.ev];show _=Value.slice _ (S.evs.set i _).length _;rw [List.length_set]⟩⟩
  have H7:=Am_ (H6.out.KY V2.out HEI.out S.clock)
  have HEI7:ak ((S.evs.set i { ev with fin:=S.clock })[i]?=some { ev with fin:=S.clock }):=⟨List.getElem?_set_self (List.getElem?_eq_some_iff.1 HEI.out).1⟩
  clear y6 z6 H6 HE
  generalize w6.setCell ⟨ge,i*13+6,none⟩ (.int .i64 S.clock)=w7 at H7 ⊢
  refine eO [(18,some 78),(19,some 79)] ?_
  iterate 2 (refine dZ (v:=?_) (a':=?_) HT_ (by kernel_rfl) rfl rfl (fun _ _ _ h=>h) (Or.inl ⟨by rfl,?_⟩) ?_ ?_;rotate_left;(intro w';go_simp;with_reducible rfl);rotate_left;(simp only [Act.put,p1_,p2_,p3_,ax,ay];rfl))
  refine aZ ?_
  obtain ⟨g1,v1,e1,hev⟩:=H7.out.ev V7.out HEI7.out
  injection e1 with e1
  injection e1 with e1 _ _
  subst e1
  have HE:=Am_ hev
  clear hev
  have y7:=HE.out.2.1 7 _ rfl
  have z7:=HE.out.2.2.1 7
  have y8:=HE.out.2.1 8 _ rfl
  have z8:=HE.out.2.2.1 8
  have y9:=HE.out.2.1 9 _ rfl
  have z9:=HE.out.2.2.1 9
  have y10:=HE.out.2.1 10 _ rfl
  have z10:=HE.out.2.2.1 10
  have y11:=HE.out.2.1 11 _ rfl
  have z11:=HE.out.2.2.1 11
  have y12:=HE.out.2.1 12 _ rfl
  have z12:=HE.out.2.2.1 12
  refine bP (i:=20) none HT_ (by kernel_rfl) rfl rfl (by decide) (fun K_ hK=>?_)
  refine fB (w1:=?_) (by rfl) rfl ?_ ?_
  rotate_left; · go_simp;rfl
  refine hK.out _ _ ?_
  clear hK K_
  refine dD (bI HT_.out (by kernel_rfl)) ?_
  have H8:ak (StS sb p { S with ws:=s1.sh,evs:=(S.evs.set i { ev with fin:=S.clock }).set i { { ev with fin:=S.clock } with ans:=gU l } } ((List.replicate S.n iV).set t (oC tb)) okB okJ { b with evs:=(b.evs.set i { ev with fin:=S.clock }).set i { { ev with fin:=S.clock } with ans:=gU l },pv:=fun j=>if j=i then .slice Ap 0 cp else b.pv j } ρ (fun ok w=>Idle (shW p) tb (kg bw bm bo) ok s1.sh ⟨s1.log,s1.at_,s1.spent,false,true,l⟩ w) ok w ((((((w7.setCell ⟨ge,i*13+7,none⟩ (.int .i64 (gU l).err)).setCell ⟨ge,i*13+7+1,none⟩ (.bool (gU l).found)).setCell ⟨ge,i*13+7+2,none⟩ (.int .i64 (gU l).key)).setCell ⟨ge,i*13+7+3,none⟩ (.int .i64 (gU l).value)).setCell ⟨ge,i*13+7+4,none⟩ (.slice Ap 0 cp)).setCell ⟨ge,i*13+7+5,none⟩ (.bool (gU l).short))):=⟨H7.out.KX V7.out HEI7.out (gU l) rfl⟩
  clear y7 z7 y8 z8 y9 z9 y10 z10 y11 z11 y12 z12 H7 HE
  generalize (((((w7.setCell ⟨ge,i*13+7,none⟩ (.int .i64 (gU l).err)).setCell ⟨ge,i*13+7+1,none⟩ (.bool (gU l).found)).setCell ⟨ge,i*13+7+2,none⟩ (.int .i64 (gU l).key)).setCell ⟨ge,i*13+7+3,none⟩ (.int .i64 (gU l).value)).setCell ⟨ge,i*13+7+4,none⟩ (.slice Ap 0 cp)).setCell ⟨ge,i*13+7+5,none⟩ (.bool (gU l).short)=w8 at H8 ⊢
  have e8:(S.evs.set i { ev with fin:=S.clock }).set i { { ev with fin:=S.clock } with ans:=gU l }=S.evs.set i { ev with fin:=S.clock,ans:=gU l }:=List.set_set ..
  rw [e8] at H8
  have V8:ak (SVal { b with evs:=(b.evs.set i { ev with fin:=S.clock }).set i { { ev with fin:=S.clock } with ans:=gU l },pv:=fun j=>if j=i then .slice Ap 0 cp else b.pv j } { S with ws:=s1.sh,evs:=S.evs.set i { ev with fin:=S.clock,ans:=gU l } } gt ct gh ch ga ca (some ⟨ge,0,none⟩) ce):=⟨⟨V2.out.tv,V2.out.hv,V2.out.av,by show b.ev=_;rw [V2.out.ev];show _=Value.slice _ (S.evs.set i _).length _;rw [List.length_set]⟩⟩
  have EF:ak (S.evs.set i { ev with fin:=S.clock,ans:=gU l }=(Stg.finish { S with ws:=s1.sh } i l).evs):=⟨by show _=S.evs.set i { S.evs.getD i _ with fin:=S.clock,ans:=gU l };rw [List.getD_eq_getElem?_getD,HEI.out];rfl⟩
  generalize ({ b with evs:=(b.evs.set i { ev with fin:=S.clock }).set i { { ev with fin:=S.clock } with ans:=gU l },pv:=fun j=>if j=i then .slice Ap 0 cp else b.pv j }:SB)=b8 at H8 V8
  clear e8 HEI HEI7 V7 V2 HAN
  have c1:=H8.out.c1 V8.out
  have y8:=(H8.out.th V8.out HTH.out).2.2.1
  have z8:=(H8.out.th V8.out HTH.out).2.2.2
  go_upto_region 14 with fail
  have H9:=Am_ (H8.out.wz V8.out HTH.out (.pointer none) rfl)
  clear c1 y8 z8 H8 V8
  generalize w8.setCell ⟨gt,t,none⟩ (.pointer none)=w9 at H9 ⊢
  have c6:=H9.out.c6
  have f6:=ah H9.out.bx.box 6
  go_wp2_with fail
  go_ret2
  obtain ⟨ok1,hm1,hs1⟩:=Je H9.out.tick (IK _ _ _)
  refine ⟨⟨ok1,hm1,rfl,?_⟩⟩
  rw [EF.out] at hs1
  exact hs1
 ·obtain ⟨rfl,hid⟩:=hres
  have H2:=Am_ (pI H1.out HJ.out hid)
  clear hid H1
  have c6:=H2.out.c6
  have f6:=ah H2.out.bx.box 6
  go_wp2_with fail
  go_ret2
  have hX:=jP.moves _ _ _ _ HBI.out HJ.out
  have hF:=H2.out.tick
  exact ⟨⟨fun k=>okB k∨okJ k,hF.mv,rfl,Jd hF HT.out.1 HLG.out ⟨(Mine.far ⟨hX.hw.1,fun h=>h.elim (fun h=>(HB0.out _ h).1 rfl) hX.hw.2⟩ (p:=⟨sb,6,none⟩) (fun e=>(HB0.out sb H2.out.bx.own).1 e) _),(Mine.far ⟨hX.hm.1,fun h=>h.elim (fun h=>(HB0.out _ h).2.1 rfl) hX.hm.2⟩ (p:=⟨sb,6,none⟩) (fun e=>(HB0.out sb H2.out.bx.own).2.1 e) _),(Mine.far ⟨hX.ho.1,fun h=>h.elim (fun h=>(HB0.out _ h).2.2 rfl) hX.ho.2⟩ (p:=⟨sb,6,none⟩) (fun e=>(HB0.out sb H2.out.bx.own).2.2 e) _)⟩⟩⟩
theorem zC {me:Int} {f:Nat} {dT:Pr Ws Ans} (hsm: ∀ s a t,dT s=some (.ret a,t)→a.pairs= []) {s t:TS Ws} {l:List Int} (h:mR me f dT s=some (.ret l,t)):l.length=5:=by
 obtain ⟨o,t1,hm,hc⟩:=aD h
 rcases hc with ⟨_,hc⟩ | ⟨u,rfl,hc⟩
 ·injection hc with hc _;cases hc
 obtain ⟨o,t2,hm2,hc⟩:=aD hc
 rcases hc with ⟨_,hc⟩ | ⟨a,rfl,hc⟩
 ·injection hc with hc _;cases hc
 obtain ⟨o,t3,hm3,hc⟩:=aD hc
 rcases hc with ⟨_,hc⟩ | ⟨u,rfl,hc⟩
 ·injection hc with hc _;cases hc
 injection hc with hc
 injection hc with hc _
 injection hc with hc
 rw [←hc]
 simp [codeOf,hsm _ _ _ hm2]
structure Kr (sb p t i:Nat) (o:Opn) (tw:Pr Ws (List Int)) (left:Nat) (S1:Stg) (log1:List Int) (ok:Nat→Prop) (w:World) (F g:Nat) (wr:World):Prop where
 out: ∃ ok1 S log,Moves ok ok1 w wr∧iC ok1 sb p S t o log wr∧S.ats.getD t 0=(i:Int)∧i<S.evs.length∧g≤F∧EA tw i g S log=some (true,left,S1,log1)
structure Mx (sb p:Nat) (S1:Stg) (n:Nat) (ok:Nat→Prop) (w:World) (e:Ending) (w1:World):Prop where
 out: ∃ ok1,e= .returned (.int .i64 n)∧Moves ok ok1 w w1∧dm ok1 sb p S1 w1
theorem uR (sb p t i:Nat) (S:Stg) (o:Opn) (log:List Int) (ok:Nat→Prop) (w:World) (h:iC ok sb p S t o log w) (f:Nat) (dT:Pr Ws Ans)
  (hdo: ∀ tb work ok s w res,dN (shW p) tb work ok s w→dT s=some res→Calls Tryz.prog 100 #[eP tb p t,opV o] w (fQ (shW p) tb work JE ok w res))
  (hsm: ∀ s a t,dT s=some (.ret a,t)→a.pairs= []) (hi:S.ats.getD t 0=(i:Int)) (hil:i<S.evs.length) (F left:Nat) (hF:F≤1048576) (S1:Stg) (log1:List Int) (hr:EA (mR t f dT) i F S log=some (true,left,S1,log1)):
  Calls Tryz.prog 29 #[.pointer (some ⟨sb,0,none⟩),.int .i64 t,.int .i64 1048576] w (Mx sb p S1 (F - left) ok w):=by
 have HA:ak (Kr sb p t i o (mR t f dT) left S1 log1 ok w F F w):=⟨⟨ok,S,log,Moves.refl _ _,h,hi,hil,Nat.le_refl _,hr⟩⟩
 have HDO:=Am_ hdo
 have HSM:=Am_ hsm
 have HFF:=Am_ hF
 clear h hdo hsm hi hil hF hr
 go_enter Tryz.func29,Tryz.ntmps29
 go_upto_block 0 with fail
 go_wp2_with fail
 go_loopg [7] F (fun g n wr=>n= .int .i64 (F - g:Nat)∧ak (Kr sb p t i o (mR t f dT) left S1 log1 ok w F g wr))
 case atStart=>exact ⟨by rw [Nat.sub_self];rfl,HA⟩
 case round=>
  clear HA
  obtain ⟨rfl,HA⟩:=hrel
  obtain ⟨ok1,S2,log2,hM,hS,hi,hil,hg,hr⟩:=HA.out.out
  cases gk with
  | zero=>cases hr
  | succ g=>
   obtain ⟨m,hm⟩: ∃ m,m=F - (g+1):=⟨_,rfl⟩
   have hmlt:m<1048576:=by have:=HFF.out;omega
   have d1:decide ((m:Int)<1048576)=true:=decide_eq_true (by omega)
   have d2:decide (m<1048576)=true:=decide_eq_true hmlt
   have EM:ak (m+1=F - g):=⟨by omega⟩
   have hw1:wrap64 ((m:Int)+1)=((m+1:Nat):Int):=by unfold wrap64;omega
   rw [EM.out] at hw1
   have HMM:=Am_ hmlt
   have HG:=Am_ hg
   have M1:=Am_ hM
   rw [←hm]
   unfold EA at hr
   cases hs:mR t f dT ⟨S2.ws,log2,0,false⟩ with
   | none=>rw [hs] at hr;cases hr
   | some sres=>
    rw [hs] at hr
    have HR:=Am_ hr
    have HIL:=Am_ (And.intro hi hil)
    have HST:=Am_ (sG sb p t i S2 o log2 ok1 wr hS f dT HDO.out HSM.out hi hil sres hs (fun l hl=>by obtain ⟨o1,s1⟩:=sres;obtain rfl:o1= .ret l:=hl;exact zC HSM.out hs))
    clear hM hS hi hil hg hr hs HA hm hmlt
    go_upto_region 4 with (go_at_call 23;refine HST.out.mono ?_;rintro e w2 hE;obtain ⟨ok2,hm2,hres⟩:=hE.out;obtain ⟨o1,s1⟩:=sres;have M2:=Am_ (M1.out.trans hm2);clear hE HST hm2;rcases o1 with l | _)
    ·obtain ⟨rfl,hA⟩:=hres
     have h1:=HR.out
     injection h1 with h1
     injection h1 with _ h1
     injection h1 with h2 h1
     injection h1 with h3 _
     subst h2
     have A2:=Am_ hA
     clear hA
     go_wp2_with fail
     go_ret
     subst h3
     exact ⟨⟨ok2,rfl,M2.out,A2.out⟩⟩
    ·obtain ⟨rfl,hA⟩:=hres
     have A2:=Am_ hA
     clear hA
     go_wp2_with fail
     go_roundg g
     case rel=>exact ⟨by rw [hw1],⟨⟨ok2,_,_,M2.out,A2.out,HIL.out.1,HIL.out.2,by have:=HG.out;omega,HR.out⟩⟩⟩
     case measure=>omega
theorem iC.fact {ok:Nat→Prop} {sb p t:Nat} {S:Stg} {o:Opn} {log:List Int} {w:World} (h:iC ok sb p S t o log w):t<S.n∧ ∃ ga ca,w.cell? ⟨sb,3,none⟩=some (.slice (some ⟨ga,0,none⟩) S.n ca)∧w.cell? ⟨ga,t,none⟩=some (.int .i64 (S.ats.getD t 0)):=by
 obtain ⟨okB,okI,b,ρ,tb,bw,bm,bo,at_,spent,h1,h2,h3,h4,ht,hlog,hid,hbx⟩:=h.out
 have hl:((List.replicate S.n iV).set t (oC tb)).length=S.n:=by simp
 obtain ⟨gt,ct,gh,ch,ga,ca,Ae,ce,hv⟩:=h3.vals h4 hl ht
 have hs:StS sb p S ((List.replicate S.n iV).set t (oC tb)) okB okI b ρ (fun ok w=>Idle (shW p) tb (kg bw bm bo) ok S.ws (Jw log at_ spent) w) ok w w:=⟨h3,h4,hl,BR _ _ _ _ _,hid,h2,(Moves.refl ok w).owns (fun k hk=> .inl ((h1 k).2 hk))⟩
 exact ⟨ht,ga,ca,hs.c3 hv,(hs.ats hv ht).1⟩
structure NM (sb:Nat) (S:Stg) (i:Nat) (e:Evn) (ge ce c:Nat) (A:Option Addr) (ok:Nat→Prop) (w:World):Prop where
 ev:w.cell? ⟨sb,4,none⟩=some (.slice (some ⟨ge,0,none⟩) S.evs.length ce)
 cells: ∀ j u,(dH e (.slice A e.ans.pairs.length c))[j]?=some u→w.cell? ⟨ge,i*13+j,none⟩=some u
 len:e.ans.pairs.length≤c
 prs:dw.F w ok A e.ans.pairs.length e.ans.pairs
theorem dm.fact {ok:Nat→Prop} {sb p i:Nat} {S:Stg} {e:Evn} {w:World} (h:dm ok sb p S w) (hn:0<S.n) (hi:S.evs[i]?=some e): ∃ ge ce c A,NM sb S i e ge ce c A ok w:=by
 obtain ⟨okB,okW,b,ρ,h1,h2,h3,h4,h5⟩:=h.out
 have hl:(List.replicate S.n iV).length=S.n:=by simp
 obtain ⟨gt,ct,gh,ch,ga,ca,Ae,ce,hv⟩:=h3.vals h4 hl hn
 have hs:StS sb p S (List.replicate S.n iV) okB okW b ρ (shW p S.ws) ok w w:=⟨h3,h4,hl,BS p S.ws,h5,h2,(Moves.refl ok w).owns (fun k hk=> .inl ((h1 k).2 hk))⟩
 obtain ⟨ge,v,rfl,_,hc,_,A,c,rfl,hle,hF⟩:=hs.ev hv hi
 exact ⟨ge,ce,c,A,hs.c4 hv,hc,hle,Kd.dh hF (fun k hk=>(h1 k).2 (.inl hk.1))⟩
theorem nX {P:Program} {fn:Func} {p u:Tmp} {ty:TypeId} (h:fn.results= #[.cell p ty,.tmp u]) (tmps:Array Value) (w:World) (g1:Nat) (t1:TypeId) (cs1:Array Value) (fr1:Nat × Nat) (d1:TypeDesc)
  (hp:tmps.getD p undef= .pointer (some ⟨g1,0,none⟩)) (hg1:w.heap[g1]?=some (.cells cs1 t1 fr1)) (hu1:P.underlying ty=some d1) (hd1:(match d1 with | .struct _ | .array _ _=>true | _=>false)=true) (hi1:(P.info? ty).map (·.size)=some cs1.size):
  (results fn tmps).run P w= .ok (.tuple #[.agg cs1,tmps.getD u undef]) w:=by
 have hp':tmps[p]?.getD undef= .pointer (some ⟨g1,0,none⟩):=by simpa using hp
 simp [results,h,hp',asAddr,run_loadVar_row w g1 t1 ty cs1 fr1 d1 hg1 hu1 hd1 hi1]
structure yT (sb p:Nat) (S1:Stg) (a:Ans) (ok:Nat→Prop) (w:World) (e:Ending) (w1:World):Prop where
 out: ∃ ok1 A c,e= .returned (.tuple #[.agg #[.int .i64 a.err,.bool a.found,.int .i64 a.key,.int .i64 a.value,.slice A a.pairs.length c,.bool a.short],.int .i64 0])∧dm ok1 sb p S1 w1∧Moves ok ok1 w w1∧a.pairs.length≤c∧dw.F w1 (fun k=> ¬ ok1 k) A a.pairs.length a.pairs
theorem pJ (sb p t:Nat) (S:Stg) (o:Opn) (ok:Nat→Prop) (w:World) (h:dm ok sb p S w) (ht:t<S.n) (hev:S.evs.length<999999) (hk0:0≤o.kind) (hk:o.kind<12) (f:Nat) (dT:Pr Ws Ans)
  (hdo: ∀ tb work ok s w res,dN (shW p) tb work ok s w→dT s=some res→Calls Tryz.prog 100 #[eP tb p t,opV o] w (fQ (shW p) tb work JE ok w res))
  (hsm: ∀ s a t,dT s=some (.ret a,t)→a.pairs= []) (left:Nat) (S1:Stg) (log1:List Int) (hr:EA (mR t f dT) S.evs.length 1048576 (S.start t o) []=some (true,left,S1,log1)) (hn1:0<S1.n) (e1:Evn) (he1:S1.evs[S.evs.length]?=some e1) (hfin:0≤e1.fin) (hpl:e1.ans.pairs.length<1000000):
  Calls Tryz.prog 24 #[.pointer (some ⟨sb,0,none⟩),.int .i64 t,opV o] w (yT sb p S1 e1.ans ok w):=by
 have HOV:opV o= .agg #[.int .u8 o.kind,.int .i64 o.key,.int .i64 o.upto,.int .i64 o.value]:=rfl
 have K1:=Am_ (Mine.new h.lt (.cells #[.int .u8 o.kind,.int .i64 o.key,.int .i64 o.upto,.int .i64 o.value] 52))
 have H1:=Am_ ((h.below (ai (Below.refl _ _) (.cells #[.int .u8 o.kind,.int .i64 o.key,.int .i64 o.upto,.int .i64 o.value] 52))).below (ai (Below.refl _ _) (.cells #[.int .i64 0,.bool false,.int .i64 0,.int .i64 0,.slice none 0 0,.bool false] 58)))
 have K2:=Am_ (Mine.new (h.below (ai (Below.refl _ _) (.cells #[.int .u8 o.kind,.int .i64 o.key,.int .i64 o.upto,.int .i64 o.value] 52))).lt (.cells #[.int .i64 0,.bool false,.int .i64 0,.int .i64 0,.slice none 0 0,.bool false] 58))
 have K1:=Am_ (K1.out.alloc (.cells #[.int .i64 0,.bool false,.int .i64 0,.int .i64 0,.slice none 0 0,.bool false] 58))
 have M1:=Am_ (((Moves.refl ok w).alloc (.cells #[.int .u8 o.kind,.int .i64 o.key,.int .i64 o.upto,.int .i64 o.value] 52)).alloc (.cells #[.int .i64 0,.bool false,.int .i64 0,.int .i64 0,.slice none 0 0,.bool false] 58))
 simp only [World.size_alloc] at K2
 rw [HOV]
 have HDO:=Am_ hdo
 have HSM:=Am_ hsm
 have HR:=Am_ hr
 have HT:=Am_ (And.intro ht (And.intro hev (And.intro hk0 hk)))
 have HN:=Am_ (And.intro hn1 (And.intro he1 hpl))
 have d1:decide (e1.fin<0)=false:=decide_eq_false (by omega)
 have HLN:ak (S.ats.length=S.n):=⟨by obtain ⟨_,_,_,_,_,_,_,h4,_⟩:=h.out;exact h4.len⟩
 have HBB:ak (w.heap.size+1≠w.heap.size):=⟨by omega⟩
 clear h hdo hsm hr ht hev hk0 hk hn1 he1 HOV hfin hpl
 go_enter Tryz.func24,Tryz.ntmps24
 go_upto_region 1 with fail
 generalize (w.alloc (.cells #[.int .u8 o.kind,.int .i64 o.key,.int .i64 o.upto,.int .i64 o.value] 52)).alloc (.cells #[.int .i64 0,.bool false,.int .i64 0,.int .i64 0,.slice none 0 0,.bool false] 58)=w1 at K1 K2 H1 M1 ⊢
 generalize hb6:w.heap.size+1=b6 at K2 HBB ⊢
 have HW6:ak (w.heap.size≤b6):=⟨by omega⟩
 clear hb6
 generalize hb5:w.heap.size=b5 at K1 HBB ⊢
 clear hb5
 have k0:=(af K1.out.1 0).trans (rfl:_=some (Value.int .u8 o.kind))
 have k1:=(af K1.out.1 1).trans (rfl:_=some (Value.int .i64 o.key))
 have k2:=(af K1.out.1 2).trans (rfl:_=some (Value.int .i64 o.upto))
 have k3:=(af K1.out.1 3).trans (rfl:_=some (Value.int .i64 o.value))
 go_upto_region 4 with (go_at_call 26;refine (qH sb p t S o ok _ H1.out HT.out.1 HT.out.2.1 HT.out.2.2.1 HT.out.2.2.2).mono ?_;rintro e w2 hE;obtain ⟨rfl,ok2,hS2,hm2⟩:=hE.out;have H2:=Am_ hS2;have M2:=Am_ (M1.out.trans hm2);have K2:=Am_ (K2.out.moves hm2);clear hE hS2 hm2 H1 M1 K1 k0 k1 k2 k3)
 obtain ⟨_,ga,ca,c3,y1⟩:=H2.out.fact
 have hat:(S.start t o).ats.getD t 0=(S.evs.length:Int):=by
  show (S.ats.set t (S.evs.length:Int)).getD t 0=_
  rw [List.getD_eq_getElem?_getD,List.getElem?_set_self (by rw [HLN.out];exact HT.out.1)]
  rfl
 rw [hat] at y1
 have b1:(0:Int)≤(t:Int):=by omega
 have b2:(t:Int)<(S.n:Int):=by have:=HT.out.1;omega
 have HAT:=Am_ hat
 clear hat
 go_upto_region 5 with fail
 clear c3 y1
 go_upto_region 6 with (go_at_call 29;refine (uR sb p t S.evs.length (S.start t o) o [] ok2 _ H2.out f dT HDO.out HSM.out HAT.out (by show S.evs.length<(S.evs++ [_]).length;simp) 1048576 left (Nat.le_refl _) S1 log1 HR.out).mono ?_;rintro e w3 hE;obtain ⟨ok3,rfl,hm3,hS3⟩:=hE.out;have H3:=Am_ hS3;have M3:=Am_ (M2.out.trans hm3);have K3:=Am_ (K2.out.moves hm3);clear hE hS3 hm3 H2 M2 K2)
 obtain ⟨ge,ce,c,A,hEv⟩:=H3.out.fact HN.out.1 HN.out.2.1
 have hil:=(List.getElem?_eq_some_iff.1 HN.out.2.1).1
 have EV:=Am_ hEv
 have b3:(0:Int)≤(S.evs.length:Int):=by omega
 have b4:(S.evs.length:Int)<(S1.evs.length:Int):=by omega
 have c4:=EV.out.ev
 have y6:=EV.out.cells 6 _ rfl
 have y7:=EV.out.cells 7 _ rfl
 have y8:=EV.out.cells 8 _ rfl
 have y9:=EV.out.cells 9 _ rfl
 have y10:=EV.out.cells 10 _ rfl
 have y11:=EV.out.cells 11 _ rfl
 have y12:=EV.out.cells 12 _ rfl
 clear hEv hil
 go_upto_region 9 with fail
 clear c4 y6 y7 y8 y9 y10 y11 y12 d1
 have H4:=Am_ (H3.out.below (ai (Below.refl _ _) (.cells #[.int .i64 e1.ans.err,.bool e1.ans.found,.int .i64 e1.ans.key,.int .i64 e1.ans.value,.slice A e1.ans.pairs.length c,.bool e1.ans.short] 58)))
 have M4:=Am_ (M3.out.alloc (.cells #[.int .i64 e1.ans.err,.bool e1.ans.found,.int .i64 e1.ans.key,.int .i64 e1.ans.value,.slice A e1.ans.pairs.length c,.bool e1.ans.short] 58))
 have K4:=Am_ (K3.out.alloc (.cells #[.int .i64 e1.ans.err,.bool e1.ans.found,.int .i64 e1.ans.key,.int .i64 e1.ans.value,.slice A e1.ans.pairs.length c,.bool e1.ans.short] 58))
 have K9:=Am_ (Mine.new H3.out.lt (.cells #[.int .i64 e1.ans.err,.bool e1.ans.found,.int .i64 e1.ans.key,.int .i64 e1.ans.value,.slice A e1.ans.pairs.length c,.bool e1.ans.short] 58))
 have P4:=Am_ (Kd.bO (Kd.gu EV.out.prs) (ai (Below.refl w3.heap.size w3) (.cells #[.int .i64 e1.ans.err,.bool e1.ans.found,.int .i64 e1.ans.key,.int .i64 e1.ans.value,.slice A e1.ans.pairs.length c,.bool e1.ans.short] 58)))
 have N9:ak (w3.heap.size≠b6):=⟨by have:=K3.out.lt;omega⟩
 have HW9:ak (w.heap.size≤w3.heap.size):=⟨M3.out.size⟩
 clear H3 M3 K3
 generalize w3.alloc (.cells #[.int .i64 e1.ans.err,.bool e1.ans.found,.int .i64 e1.ans.key,.int .i64 e1.ans.value,.slice A e1.ans.pairs.length c,.bool e1.ans.short] 58)=w4 at H4 M4 K4 K9 P4 ⊢
 generalize w3.heap.size=b9 at K9 N9 HW9 ⊢
 have c4:=(af K9.out.1 4).trans (rfl:_=some (Value.slice A e1.ans.pairs.length c))
 have f4:=ah K9.out.1 4
 go_upto_region 10 with (go_at_call 75;refine (fZ A _ c e1.ans.pairs _ P4.out HN.out.2.2).mono ?_;rintro e w5 ⟨v,rfl,hv,hb⟩;obtain ⟨A2,c2,rfl⟩:=Kd.aJ hv;have H5:=Am_ (H4.out.below hb);have M5:=Am_ (M4.out.below hb);have K5:=Am_ (K4.out.moves (Moves.bE _ hb));have V5:=Am_ (Kd.bq hv (fun k hk=>⟨fun h=>by have:=H4.out.lt k h;omega,fun e=>by have:=K4.out.lt;omega,fun e=>by have:=K9.out.lt;omega⟩: ∀ k,w4.heap.size≤k→ ¬ ok3 k∧k≠b6∧k≠b9));have K9:=Am_ (K9.out.moves (Moves.bE _ hb));have c4:=(af K9.out.1 4).trans (rfl:_=some (Value.slice A e1.ans.pairs.length c));have f4:=ah K9.out.1 4;clear hv hb H4 M4 K4 P4)
 have H6:=Am_ (H5.out.step (w1:=w5.setCell ⟨b9,4,none⟩ (.slice A2 e1.ans.pairs.length c2)) (by simp [World.setCell]) (fun k hk _=>Below.heap_setCell w5 _ _ k (fun e=>K9.out.2 ((show k=b9 from e)▸hk))))
 have M6:=Am_ (M5.out.set (p:=⟨b9,4,none⟩) (.inr HW9.out) (.slice A2 e1.ans.pairs.length c2))
 have K6:=Am_ (K5.out.far (p:=⟨b9,4,none⟩) N9.out (.slice A2 e1.ans.pairs.length c2))
 have K10:=Am_ (K9.out.set 4 (.slice A2 e1.ans.pairs.length c2))
 have V6:=Am_ (Kd.bV V5.out (p:=⟨b9,4,none⟩) (fun k hk=>hk.2.2) (.slice A2 e1.ans.pairs.length c2))
 clear H5 M5 K5 K9 V5 c4 f4
 generalize w5.setCell ⟨b9,4,none⟩ (.slice A2 e1.ans.pairs.length c2)=w6 at H6 M6 K6 K10 V6 ⊢
 have y0:=(af K10.out.1 0).trans (rfl:_=some (Value.int .i64 e1.ans.err))
 have y1:=(af K10.out.1 1).trans (rfl:_=some (Value.bool e1.ans.found))
 have y2:=(af K10.out.1 2).trans (rfl:_=some (Value.int .i64 e1.ans.key))
 have y3:=(af K10.out.1 3).trans (rfl:_=some (Value.int .i64 e1.ans.value))
 have y4:=(af K10.out.1 4).trans (rfl:_=some (Value.slice A2 e1.ans.pairs.length c2))
 have y5:=(af K10.out.1 5).trans (rfl:_=some (Value.bool e1.ans.short))
 have x0:=(af K6.out.1 0).trans (rfl:_=some (Value.int .i64 0))
 have z0:=ah K6.out.1 0
 have x1:=(af K6.out.1 1).trans (rfl:_=some (Value.bool false))
 have z1:=ah K6.out.1 1
 have x2:=(af K6.out.1 2).trans (rfl:_=some (Value.int .i64 0))
 have z2:=ah K6.out.1 2
 have x3:=(af K6.out.1 3).trans (rfl:_=some (Value.int .i64 0))
 have z3:=ah K6.out.1 3
 have x4:=(af K6.out.1 4).trans (rfl:_=some (Value.slice none 0 0))
 have z4:=ah K6.out.1 4
 have x5:=(af K6.out.1 5).trans (rfl:_=some (Value.bool false))
 have z5:=ah K6.out.1 5
 go_wp2_with fail
 have H7:=Am_ (H6.out.step (w1:=(((((w6.setCell ⟨b6,0,none⟩ (.int .i64 e1.ans.err)).setCell ⟨b6,1,none⟩ (.bool e1.ans.found)).setCell ⟨b6,2,none⟩ (.int .i64 e1.ans.key)).setCell ⟨b6,3,none⟩ (.int .i64 e1.ans.value)).setCell ⟨b6,4,none⟩ (.slice A2 e1.ans.pairs.length c2)).setCell ⟨b6,5,none⟩ (.bool e1.ans.short)) (by simp [World.setCell]) (fun k hk _=>aW ([.int .i64 e1.ans.err,.bool e1.ans.found,.int .i64 e1.ans.key,.int .i64 e1.ans.value,.slice A2 e1.ans.pairs.length c2,.bool e1.ans.short]:List Value) 0 k (fun e=>K6.out.2 ((show k=b6 from e)▸hk))))
 have M7:ak (Moves ok ok3 w ((((((w6.setCell ⟨b6,0,none⟩ (.int .i64 e1.ans.err)).setCell ⟨b6,1,none⟩ (.bool e1.ans.found)).setCell ⟨b6,2,none⟩ (.int .i64 e1.ans.key)).setCell ⟨b6,3,none⟩ (.int .i64 e1.ans.value)).setCell ⟨b6,4,none⟩ (.slice A2 e1.ans.pairs.length c2)).setCell ⟨b6,5,none⟩ (.bool e1.ans.short))):=⟨(((((M6.out.set (p:=⟨b6,0,none⟩) (.inr HW6.out) _).set (p:=⟨b6,1,none⟩) (.inr HW6.out) _).set (p:=⟨b6,2,none⟩) (.inr HW6.out) _).set (p:=⟨b6,3,none⟩) (.inr HW6.out) _).set (p:=⟨b6,4,none⟩) (.inr HW6.out) _).set (p:=⟨b6,5,none⟩) (.inr HW6.out) _⟩
 have K7:ak (Mine ok3 ((((((w6.setCell ⟨b6,0,none⟩ (.int .i64 e1.ans.err)).setCell ⟨b6,1,none⟩ (.bool e1.ans.found)).setCell ⟨b6,2,none⟩ (.int .i64 e1.ans.key)).setCell ⟨b6,3,none⟩ (.int .i64 e1.ans.value)).setCell ⟨b6,4,none⟩ (.slice A2 e1.ans.pairs.length c2)).setCell ⟨b6,5,none⟩ (.bool e1.ans.short)) b6 (.cells #[.int .i64 e1.ans.err,.bool e1.ans.found,.int .i64 e1.ans.key,.int .i64 e1.ans.value,.slice A2 e1.ans.pairs.length c2,.bool e1.ans.short] 58 (0,0))):=⟨(Mine.set (Mine.set (Mine.set (Mine.set (Mine.set (Mine.set K6.out 0 _) 1 _) 2 _) 3 _) 4 _) 5 _)⟩
 have V7:ak (dw.F ((((((w6.setCell ⟨b6,0,none⟩ (.int .i64 e1.ans.err)).setCell ⟨b6,1,none⟩ (.bool e1.ans.found)).setCell ⟨b6,2,none⟩ (.int .i64 e1.ans.key)).setCell ⟨b6,3,none⟩ (.int .i64 e1.ans.value)).setCell ⟨b6,4,none⟩ (.slice A2 e1.ans.pairs.length c2)).setCell ⟨b6,5,none⟩ (.bool e1.ans.short)) (fun k=> ¬ ok3 k) A2 e1.ans.pairs.length e1.ans.pairs):=⟨Kd.dh (Kd.eU (Kd.R_F V6.out) (fun k hk _=>aW ([.int .i64 e1.ans.err,.bool e1.ans.found,.int .i64 e1.ans.key,.int .i64 e1.ans.value,.slice A2 e1.ans.pairs.length c2,.bool e1.ans.short]:List Value) 0 k hk.2.1)) (fun k hk=>hk.1)⟩
 have V8:=Am_ (Kd.bM V6.out).2.1
 clear H6 M6 K6 K10 V6 x0 y0 z0 x1 y1 z1 x2 y2 z2 x3 y3 z3 x4 y4 z4 x5 y5 z5
 generalize (((((w6.setCell ⟨b6,0,none⟩ (.int .i64 e1.ans.err)).setCell ⟨b6,1,none⟩ (.bool e1.ans.found)).setCell ⟨b6,2,none⟩ (.int .i64 e1.ans.key)).setCell ⟨b6,3,none⟩ (.int .i64 e1.ans.value)).setCell ⟨b6,4,none⟩ (.slice A2 e1.ans.pairs.length c2)).setCell ⟨b6,5,none⟩ (.bool e1.ans.short)=w7 at H7 M7 K7 V7 ⊢
 (try simp only [Exit.inBlock,Exit.then])
 refine bodyPost_ret (nX rfl _ _ b6 58 _ (0,0) _ rfl K7.out.1 Tryz.underlying58 rfl (by kernel_rfl)) rfl ?_
 exact ⟨⟨ok3,A2,c2,rfl,H7.out,M7.out,V8.out,V7.out⟩⟩
end Go.Proofs.YtmnjjdeaccgjlaaGreat.Tower
namespace Go.Proofs.YtmnjjdeaccgjlaaGreat.Tower
open Go Go.RowKit Go.Proofs.YtmnjjdeaccgjlaaGreatW.PrintWords Go.Proofs.YtmnjjdeaccgjlaaGreatW.PrintLast Go.Proofs.YtmnjjdeaccgjlaaGreatW.PrintMore Go.Proofs.YtmnjjdeaccgjlaaGreat.Own
theorem KV (a:Option Addr) (l c:Nat) (w:World):(binOp .eql 66 (.slice a l c) (.slice none 0 0)).run Tryz.prog w= .ok (.bool a.isNone) w:=run_eql_slice_nil _ _ a l c w Tryz.underlying66
attribute [local go_sem] KV
theorem DC (A:Option Addr) (n c:Nat) (xs:List (List Value)) (w:World) (hr:(Kd.raw 13).C w A n xs) (hl:n<1000000):
  Calls Tryz.prog 79 #[.slice A n c] w fun e w'=> ∃ v,e= .returned v∧(Kd.raw 13).R 137 w' w.heap.size (fun k=>w.heap.size≤k) v xs∧Below w.heap.size w w':=by
 have HR:=Am_ hr
 cases A with
 | none=>
  have hx:xs= []:=by
   have h1:=hr.1
   cases xs with
   | nil=>rfl
   | cons p q=>
    obtain ⟨ad,h2,_⟩:=hr.2.2 (by rw [←h1];simp)
    cases h2
  subst hx
  clear hr HR
  go_enter Tryz.func79,Tryz.ntmps79
  go_wp2_with fail
  go_ret
  exact ⟨_,rfl,Kd.fI _ _ _ _ _,Below.refl _ _⟩
 | some ad=>
  clear hr
  have HE:=Am_ (mM (Kd.raw 13) 137 w w.heap.size (Nat.le_refl _))
  have HB:=Am_ (ai (Below.refl w.heap.size w) (.cells #[] 137))
  have HC:=Am_ (Kd.bO HR.out (ai (Below.refl _ _) (.cells #[] 137)))
  go_enter Tryz.func79,Tryz.ntmps79
  go_wp2_with (first | ((with_reducible refine bW (b:= .append) (xs:= #[.tmp 5,.tmp 6]) rfl ?_);at_builtin;refine Kd.fM (Kd.raw 13) (w0:=w) w.heap.size rfl (.tmp 5) (.tmp 6) 66 137 _ 120 rfl Tryz.underlying66 Ba rfl (by decide) (by omega) (.slice (some ⟨w.heap.size,0,none⟩) 0 0) [] xs (some ad) n c (fun k=>w.heap.size≤k) (fun _=>False) rfl rfl HE.out HC.out (fun _ _ h=>h) (fun _ hk=>hk.elim) (fun k hk=>by simp at hk;omega) HB.out (by simp) (by simp;omega) ?_;intro v5 w5 ho hb5 hg hat;have HO:=Am_ ho;have HB5:=Am_ hb5;clear ho hb5 hg hat HE HB HC))
  go_ret
  exact ⟨_,rfl,HO.out,HB5.out⟩
structure Ho (es:List Evn) (pv:Nat→Value) (A:Option Addr) (c:Nat) (w:World) (k:Nat) (wr:World):Prop where
 out: ∃ rows,(Kd.raw 13).R 137 wr w.heap.size (fun q=>w.heap.size≤q) (.slice A es.length c) rows∧rows.length=es.length∧(∀ j,k≤j→rows[j]?=(fP es pv)[j]?)∧Below w.heap.size w wr
structure yI (n:Nat) (w:World) (e:Ending) (w1:World):Prop where
 out: ∃ A c,e= .returned (.slice A n c)∧Below w.heap.size w w1
theorem jV (sb p:Nat) (S:Stg) (ok:Nat→Prop) (w:World) (h:dm ok sb p S w) (hpl: ∀ e∈S.evs,e.ans.pairs.length<1000000):
  Calls Tryz.prog 31 #[.pointer (some ⟨sb,0,none⟩)] w (yI S.evs.length w):=by
 obtain ⟨okB,okW,b,ρ,h1,h2,h3,h4,h5⟩:=h.out
 obtain ⟨Ae,ce,e4⟩:=Kd.aJ h3.evs
 rw [cZ] at e4
 have h6:=h3.evs
 rw [e4] at h6
 have hC:=(Kd.bM h6).2.2
 rw [cZ] at hC
 have c4:w.cell? ⟨sb,4,none⟩=some (.slice Ae b.evs.length ce):=(af h3.box 4).trans (congrArg some e4)
 have HS:=Am_ h3
 have HC:=Am_ hC
 have HL:ak (b.evs.length<1000000):=⟨by rw [h4.evs];exact h4.small⟩
 have HP:ak (∀ e∈b.evs,e.ans.pairs.length<1000000):=⟨by rw [h4.evs];exact hpl⟩
 rw [←h4.evs]
 clear h h1 h2 h3 h4 h5 h6 e4 hpl hC
 go_enter Tryz.func31,Tryz.ntmps31
 go_upto_region 4 with (go_at_call 79;refine (DC Ae _ ce (fP b.evs b.pv) _ HC.out HL.out).mono ?_;rintro e w1 ⟨v,rfl,hv,hb⟩;obtain ⟨A1,c1,rfl⟩:=Kd.aJ hv;rw [cZ] at hv ⊢;have HV:=Am_ hv;have HB:=Am_ hb;clear hv hb HC c4)
 have HA:ak (Ho b.evs b.pv A1 c1 w 0 w1):=⟨⟨_,HV.out,cZ _ _,fun _ _=>rfl,HB.out⟩⟩
 clear HV HB
 go_wp2_with fail
 go_loopg [4,14] b.evs.length (fun gh v4 i wr=> ∃ k:Nat,k+gh=b.evs.length∧i= .int .i64 k∧ak (Ho b.evs b.pv A1 c1 w k wr))
 case atStart=>exact ⟨0,by omega,rfl,HA⟩
 case round=>
  clear HA
  obtain ⟨k,hk,rfl,HA⟩:=hrel
  cases gk with
  | succ gh=>
   have hlt:k<b.evs.length:=by omega
   have HKG:=Am_ hk
   have d1:decide ((k:Int)<(b.evs.length:Int))=true:=decide_eq_true (by omega)
   have d2:decide (k<b.evs.length)=true:=decide_eq_true hlt
   have b1:(0:Int)≤(k:Int):=by omega
   have b2:(k:Int)<(b.evs.length:Int):=by omega
   have hw1:=Gy k (by have:=HL.out;omega)
   clear hk
   obtain ⟨rows,hR,hl,hsame,hB⟩:=HA.out.out
   obtain ⟨ek,hek⟩: ∃ ek,b.evs[k]?=some ek:=⟨_,List.getElem?_eq_getElem hlt⟩
   have hrk:rows[k]?=some (dH ek (b.pv k)):=by rw [hsame k (Nat.le_refl _),oW hek]
   obtain ⟨Ap,cp,ep,hcp,hF⟩:=HS.out.prs k ek hek
   obtain ⟨-,-,-,g1,e1,hg,hcc,hfz⟩:=nU hR hrk
   subst e1
   have y11:=hcc 11 _ rfl
   rw [ep] at y11
   have z11:=hfz 11
   have HR:=Am_ hR
   have HRK:=Am_ hrk
   have HBB:=Am_ hB
   have HSM:=Am_ hsame
   have HLL:=Am_ (And.intro hl hlt)
   have HCP:=Am_ (Kd.bO (Kd.gu hF) hB)
   have HPL:=Am_ (HP.out ek (List.mem_of_getElem? hek))
   have GG:=Am_ hg
   have EP:=Am_ ep
   clear hR hrk hB hsame hl hF hcc hfz hlt hg HA hek ep
   go_upto_region 8 with (go_at_call 75;refine (fZ Ap _ cp ek.ans.pairs _ HCP.out HPL.out).mono ?_;rintro e w3 ⟨v3,rfl,hv,hb⟩;obtain ⟨A3,c3,rfl⟩:=Kd.aJ hv;have R3:=Am_ (Kd.bQ HR.out (fun q hq hlt=>hb.block q hlt));have B3:=Am_ (aY HBB.out HBB.out.size hb);have hh:=IZ R3.out HRK.out (j:=11) rfl;rw [EP.out] at hh;have y11:=hh.1;have z11:=hh.2.1;clear hv hb HR HBB hh)
   have HN:ak (Ho b.evs b.pv (some ⟨g1,0,none⟩) c1 w (k+1) (w3.setCell ⟨g1,k*13+11,none⟩ (.slice A3 ek.ans.pairs.length c3))):=⟨⟨_,uN R3.out HRK.out (by decide) rfl,by rw [List.length_set];exact HLL.out.1,fun j hj=>by rw [List.getElem?_set_ne (by omega)];exact HSM.out j (by omega),below_setCells B3.out g1 _ [_] GG.out⟩⟩
   clear R3 B3 HRK y11 z11
   generalize w3.setCell ⟨g1,k*13+11,none⟩ (.slice A3 ek.ans.pairs.length c3)=w4 at HN ⊢
   go_wp2_with fail
   go_roundg gh
   case rel=>exact ⟨k+1,by have:=HKG.out;omega,by rw [hw1],HN⟩
   case measure=>omega
  | zero=>
   have hlt: ¬ k<b.evs.length:=by omega
   have d1:decide ((k:Int)<(b.evs.length:Int))=false:=decide_eq_false (by omega)
   have d2:decide (k<b.evs.length)=false:=decide_eq_false hlt
   obtain ⟨_,_,_,_,hB⟩:=HA.out.out
   have HBB:=Am_ hB
   clear hB HA
   go_wp2_with fail
   go_ret
   exact ⟨⟨_,_,rfl,HBB.out⟩⟩
end Go.Proofs.YtmnjjdeaccgjlaaGreat.Tower
namespace Go.Proofs.YtmnjjdeaccgjlaaGreat.Tower
open Go Go.RowKit Go.Proofs.YtmnjjdeaccgjlaaGreatW.PrintWords Go.Proofs.YtmnjjdeaccgjlaaGreatW.PrintLast Go.Proofs.YtmnjjdeaccgjlaaGreatW.PrintMore Go.Proofs.YtmnjjdeaccgjlaaGreat.Own
theorem uj (w:World):Calls Tryz.prog 78 #[.pointer none] w fun e w1=>e= .returned (.bool false)∧w1=w:=by
 go_enter Tryz.func78,Tryz.ntmps78
 go_wp2_with fail
 go_ret
 exact ⟨rfl,rfl⟩
theorem AX (gt c n:Nat) (w:World) (hn:n≤64) (h: ∀ t,t<n→w.cell? ⟨gt,t,none⟩=some (.pointer none)):
  Calls Tryz.prog 132 #[.slice (some ⟨gt,0,none⟩) n c,.func (.func 78) #[] #[]] w fun e w1=>e= .returned (.int .i64 (-1))∧w1=w:=by
 have HH:=Am_ h
 have HN:=Am_ hn
 clear h hn
 go_enter Tryz.func132,Tryz.ntmps132
 go_wp2_with fail
 go_loopg [5,8] n (fun gh v5 i wr=> ∃ k:Nat,k+gh=n∧i= .int .i64 k∧wr=w)
 case atStart=>exact ⟨0,by omega,rfl,rfl⟩
 case round=>
  obtain ⟨k,hk,rfl,rfl⟩:=hrel
  cases gk with
  | zero=>
   have d1:decide ((k:Int)<(n:Int))=false:=decide_eq_false (by omega)
   have d2:decide (k<n)=false:=decide_eq_false (by omega)
   go_wp2_with fail
   go_ret
   exact ⟨rfl,rfl⟩
  | succ gh=>
   have hlt:k<n:=by omega
   have HKG:=Am_ hk
   have d1:decide ((k:Int)<(n:Int))=true:=decide_eq_true (by omega)
   have d2:decide (k<n)=true:=decide_eq_true hlt
   have b1:(0:Int)≤(k:Int):=by omega
   have b2:(k:Int)<(n:Int):=by omega
   have hw1:wrap64 ((k:Int)+1)=((k+1:Nat):Int):=Gy k (by have:=HN.out;omega)
   have y:=HH.out k hlt
   clear hk hlt
   go_wp2_with (go_at_call 78;refine (uj _).mono ?_;rintro e w1 ⟨rfl,rfl⟩)
   go_roundg gh
   case rel=>exact ⟨k+1,by have:=HKG.out;omega,by rw [hw1],rfl⟩
   case measure=>omega
theorem contains_nil (gt c n:Nat) (w:World) (hn:n≤64) (h: ∀ t,t<n→w.cell? ⟨gt,t,none⟩=some (.pointer none)):
  Calls Tryz.prog 77 #[.slice (some ⟨gt,0,none⟩) n c,.func (.func 78) #[] #[]] w fun e w1=>e= .returned (.bool false)∧w1=w:=by
 have HI:=Am_ (AX gt c n w hn h)
 clear h hn
 go_enter Tryz.func77,Tryz.ntmps77
 go_wp2_with (go_at_call 132;refine HI.out.mono ?_;rintro e w1 ⟨rfl,rfl⟩;clear HI)
 go_ret
 exact ⟨rfl,rfl⟩
theorem mq (sb p:Nat) (S:Stg) (ok:Nat→Prop) (w:World) (h:dm ok sb p S w) (hn:0<S.n):
  Calls Tryz.prog 30 #[.pointer (some ⟨sb,0,none⟩)] w fun e w1=>e= .returned (.bool true)∧w1=w:=by
 obtain ⟨okB,okW,b,ρ,h1,h2,h3,h4,h5⟩:=h.out
 have hl:(List.replicate S.n iV).length=S.n:=by simp
 obtain ⟨gt,ct,gh,ch,ga,ca,Ae,ce,hv⟩:=h3.vals h4 hl hn
 have hs:StS sb p S (List.replicate S.n iV) okB okW b ρ (shW p S.ws) ok w w:=⟨h3,h4,hl,BS p S.ws,h5,h2,(Moves.refl ok w).owns (fun k hk=> .inl ((h1 k).2 hk))⟩
 have c1:=hs.c1 hv
 have HI:=Am_ (contains_nil gt ct S.n w h4.few (fun t ht=>(hs.th hv (by rw [List.getElem?_replicate,if_pos ht];rfl)).2.2.1))
 clear h h1 h2 h3 h4 h5 hl hv hs hn
 go_enter Tryz.func30,Tryz.ntmps30
 go_wp2_with (go_at_call 77;refine HI.out.mono ?_;rintro e w1 ⟨rfl,rfl⟩;clear HI)
 go_ret
 exact ⟨rfl,rfl⟩
def Tb.idx (t:Tb) (n:Int):Option Nat:=if 1≤n∧n≤t.l.length then some (n - 1).toNat else none
def rc0:Rc:=⟨[],[],0,0,0,0⟩
def en0:En:=⟨rc0,0,false⟩
def Tb.en (t:Tb) (n:Int):En:=match t.idx n with
 | none=>en0
 | some i=>t.l.getD i en0
def Tb.setState (t:Tb) (n s:Int):Tb:=match t.idx n with
 | none=>t
 | some i=> { t with l:=t.l.set i { t.l.getD i en0 with state:=s } }
def Tb.jK (t:Tb) (n:Int):Tb:=match t.idx n with
 | none=>t
 | some i=> { t with l:=t.l.set i { t.l.getD i en0 with all:=true } }
theorem Tb.fV {t:Tb} {n:Int} {i:Nat} (h:t.idx n=some i):1≤n∧n≤t.l.length∧i<t.l.length∧n=(i:Int)+1:=by
 unfold Tb.idx at h
 split at h
 ·injection h with h;omega
 ·cases h
theorem Tb.mY {t:Tb} {n:Int} {i:Nat} (h:t.idx n=some i):t.l[i]?=some (t.en n):=by
 have hi:=(Tb.fV h).2.2.1
 unfold Tb.en
 rw [h]
 simp only
 rw [List.getD_eq_getElem?_getD,List.getElem?_eq_getElem hi,Option.getD_some]
def mF (nv iv:Value) (e:En):Array Value:= #[nv,iv,.int .i64 e.rc.keep,.int .i64 e.rc.way,.int .i64 e.rc.old,.int .i64 e.rc.new,.int .u8 e.state,.bool e.all]
section
variable {ok:Nat→Prop} {p:Nat} {v:Value} {eb:Nat→Nat} {nv iv:Nat→Value} {ρ:Nat→Nat} {t:Tb} {w w1:World}
theorem gL.step (h:gL ok p v eb nv iv ρ t w) (hs:w.heap.size≤w1.heap.size) (hm: ∀ k,ok k→k<w.heap.size→w1.heap[k]?=w.heap[k]?):gL ok p v eb nv iv ρ t w1 where
 own:=h.own
 role:=h.role
 lt:=fun k hk=>Nat.lt_of_lt_of_le (h.lt k hk) hs
 box:=(hm p h.own (h.lt p h.own)).trans h.box
 row:=Kd.bQ h.row (fun k hk hlt=>hm k hk.1 hlt)
 ent:=fun i e hi=>by
  obtain ⟨h1,h2,h3,h4,h5,h6⟩:=h.ent i e hi
  exact ⟨h1,h2,h3,(hm _ h1 (h.lt _ h1)).trans h4,h5.step (fun k hk hlt=>hm k hk.1 hlt),h6.step (fun k hk hlt=>hm k hk.1 hlt)⟩
theorem gL.ptr {A:Option Addr} {n c:Nat} (h:gL ok p (.slice A n c) eb nv iv ρ t w) (i:Nat) (h1:i<t.l.length):
  n=t.l.length∧ ∃ g,A=some ⟨g,0,none⟩∧w.cell? ⟨g,i,none⟩=some (.pointer (some ⟨eb i,0,none⟩)):=by
 have hr:=(Kd.bM h.row).1
 have hn:n=t.l.length:=by rw [hr];simp
 obtain ⟨g,cap,e1,_⟩:=Kd.lX h.row (by simp;omega)
 injection e1 with e1 e2 _
 refine ⟨hn,g,e1,?_⟩
 subst e1
 obtain ⟨cs,_,hM,hcc,hfz⟩:=Kd.lW h.row [] (i:Int) (by omega) (by omega)
 have hM':=hM.1
 rw [List.getD_eq_getElem?_getD,List.getElem?_map,List.getElem?_range (by omega)] at hM'
 simp only [Option.map_some,Option.getD_some] at hM'
 have e:=hcc 0 (.pointer (some ⟨eb (i:Int).toNat,0,none⟩)) (by rw [hM'];rfl)
 rw [show (Kd.raw 1).sz=1 from rfl,Nat.mul_one,Nat.add_zero] at e
 simpa using e
theorem gL.put (h:gL ok p v eb nv iv ρ t w) {i:Nat} {e e1:En} (hi:t.l[i]?=some e) (hr:e1.rc=e.rc) (j:Nat) (u:Value) (hu:(mF (nv i) (iv i) e).setIfInBounds j u=mF (nv i) (iv i) e1):
  gL ok p v eb nv iv ρ { t with l:=t.l.set i e1 } (w.setCell ⟨eb i,j,none⟩ u):=by
 obtain ⟨q1,q2,q3,q4,q5,q6⟩:=h.ent i e hi
 have hne: ∀ r,r≠2→ ∀ k,(ok k∧ρ k=r)→k≠eb i:=fun r hr k hk e=>by rw [e,q2] at hk;exact hr hk.2.symm
 have hlt:i<t.l.length:=(List.getElem?_eq_some_iff.1 hi).1
 have hfar: ∀ r,r≠2→ ∀ k,(ok k∧ρ k=r)→k<w.heap.size→(w.setCell ⟨eb i,j,none⟩ u).heap[k]?=w.heap[k]?:=fun r hr k hk _=>Below.heap_setCell w ⟨eb i,j,none⟩ u k (hne r hr k hk)
 exact {
  own:=h.own
  role:=h.role
  lt:=fun k hk=>by simpa [World.setCell] using h.lt k hk
  box:=(hfar 0 (by decide) p ⟨h.own,h.role⟩ (h.lt p h.own)).trans h.box
  row:=by
   rw [List.length_set]
   exact Kd.bQ h.row (hfar 1 (by decide))
  ent:=fun x y hx=>by
   rw [List.getElem?_set] at hx
   by_cases hxi:i=x
   ·subst hxi
    rw [if_pos rfl,if_pos hlt] at hx
    injection hx with hx
    subst hx
    refine ⟨q1,q2,q3,?_,?_,?_⟩
    ·have:=bH q4 j u
     rw [show (#[nv i,iv i,.int .i64 e.rc.keep,.int .i64 e.rc.way,.int .i64 e.rc.old,.int .i64 e.rc.new,.int .u8 e.state,.bool e.all]:Array Value)=mF (nv i) (iv i) e from rfl,hu] at this
     exact this
    ·rw [hr];exact q5.step (hfar 3 (by decide))
    ·rw [hr];exact q6.step (hfar 3 (by decide))
   ·rw [if_neg hxi] at hx
    obtain ⟨r1,r2,r3,r4,r5,r6⟩:=h.ent x y hx
    have hex:eb x≠eb i:=by
     rcases Nat.lt_or_gt_of_ne hxi with hl | hl
     ·exact fun e=>r3 i hl e.symm
     ·exact q3 x hl
    exact ⟨r1,r2,r3,(Below.heap_setCell w ⟨eb i,j,none⟩ u (eb x) hex).trans r4,r5.step (hfar 3 (by decide)),r6.step (hfar 3 (by decide))⟩ }
end
def atV (eb:Nat→Nat) (t:Tb) (n:Int):Value:=match t.idx n with
 | none=> .pointer none
 | some i=> .pointer (some ⟨eb i,0,none⟩)
theorem Cw {ok:Nat→Prop} {p:Nat} {v:Value} {eb:Nat→Nat} {nv iv:Nat→Value} {ρ:Nat→Nat} {t:Tb} (n:Int) (w:World) (h:gL ok p v eb nv iv ρ t w) (hl:t.l.length<1000000):
  Calls Tryz.prog 242 #[.pointer (some ⟨p,0,none⟩),.int .i64 n] w fun e w1=>e= .returned (atV eb t n)∧w1=w:=by
 obtain ⟨A,c,rfl⟩:=Kd.aJ h.row
 have hlen:((List.range t.l.length).map fun i=> [Value.pointer (some ⟨eb i,0,none⟩)]).length=t.l.length:=by simp
 have hp: ∀ i,i<t.l.length→_:=fun i hi=>h.ptr i hi
 have c1:w.cell? ⟨p,0,none⟩=some (.slice A t.l.length c):=by rw [←hlen];exact (af h.box 0).trans rfl
 have HP:=Am_ hp
 clear hp h hlen
 unfold atV Tb.idx
 by_cases h1:1≤n
 ·have d1:decide (n<1)=false:=decide_eq_false (by omega)
  by_cases h2:n≤t.l.length
  ·obtain ⟨i,rfl⟩: ∃ i:Nat,n=(i:Int)+1:=⟨(n - 1).toNat,by omega⟩
   obtain ⟨_,g,rfl,hg⟩:=HP.out i (by omega)
   rw [if_pos ⟨h1,h2⟩]
   have e1:(((i:Int)+1 - 1).toNat)=i:=by omega
   rw [e1]
   have d2:decide ((i:Int)+1>(t.l.length:Int))=false:=decide_eq_false (by omega)
   have d3:decide ((t.l.length:Int)<(i:Int)+1)=false:=decide_eq_false (by omega)
   have b1:(0:Int)≤i:=by omega
   have b2:(i:Int)<(t.l.length:Int):=by omega
   clear HP h1 h2 e1
   go_enter Tryz.func242,Tryz.ntmps242
   go_wp2_with fail
   go_ret
   exact ⟨rfl,rfl⟩
  ·rw [if_neg (by omega)]
   have d2:decide (n>(t.l.length:Int))=true:=decide_eq_true (by omega)
   have d3:decide ((t.l.length:Int)<n)=true:=decide_eq_true (by omega)
   clear HP h1 h2
   go_enter Tryz.func242,Tryz.ntmps242
   go_wp2_with fail
   go_ret
   exact ⟨rfl,rfl⟩
 ·rw [if_neg (by omega)]
  have d1:decide (n<1)=true:=decide_eq_true (by omega)
  clear HP h1
  go_enter Tryz.func242,Tryz.ntmps242
  go_wp2_with fail
  go_ret
  exact ⟨rfl,rfl⟩
theorem Fa {ok:Nat→Prop} {p:Nat} {t:Tb} (n:Int) (w:World) (h:IsTable ok p t w) (hl:t.l.length<1000000):
  Calls Tryz.prog 240 #[.pointer (some ⟨p,0,none⟩),.int .i64 n] w fun e w1=>e= .returned (.int .u8 (t.en n).state)∧w1=w:=by
 obtain ⟨v,eb,nv,iv,ρ,h⟩:=h
 have HA:=Am_ (Cw n w h hl)
 cases hi:t.idx n with
 | none=>
  have e1:(t.en n).state=0:=by unfold Tb.en;rw [hi];rfl
  have e2:atV eb t n= .pointer none:=by unfold atV;rw [hi]
  rw [e2] at HA
  rw [e1]
  clear h hl hi e1 e2
  go_enter Tryz.func240,Tryz.ntmps240
  go_wp2_with (go_at_call 242;refine HA.out.mono ?_;rintro e w1 ⟨rfl,rfl⟩)
  go_ret
  exact ⟨rfl,rfl⟩
 | some i=>
  have e2:atV eb t n= .pointer (some ⟨eb i,0,none⟩):=by unfold atV;rw [hi]
  rw [e2] at HA
  have c6:=(af (h.ent i _ (Tb.mY hi)).2.2.2.1 6).trans (rfl:_=some (Value.int .u8 (t.en n).state))
  generalize (t.en n).state=st at c6
  clear h hl hi e2
  go_enter Tryz.func240,Tryz.ntmps240
  go_wp2_with (go_at_call 242;refine HA.out.mono ?_;rintro e w1 ⟨rfl,rfl⟩)
  go_ret
  exact ⟨rfl,rfl⟩
theorem LA {ok:Nat→Prop} {p:Nat} {t:Tb} (n:Int) (w:World) (h:IsTable ok p t w) (hl:t.l.length<1000000):
  Calls Tryz.prog 214 #[.pointer (some ⟨p,0,none⟩),.int .i64 n] w fun e w1=>e= .returned (.bool (t.en n).all)∧w1=w:=by
 obtain ⟨v,eb,nv,iv,ρ,h⟩:=h
 have HA:=Am_ (Cw n w h hl)
 cases hi:t.idx n with
 | none=>
  have e1:(t.en n).all=false:=by unfold Tb.en;rw [hi];rfl
  have e2:atV eb t n= .pointer none:=by unfold atV;rw [hi]
  rw [e2] at HA
  rw [e1]
  clear h hl hi e1 e2
  go_enter Tryz.func214,Tryz.ntmps214
  go_wp2_with (go_at_call 242;refine HA.out.mono ?_;rintro e w1 ⟨rfl,rfl⟩)
  go_ret
  exact ⟨rfl,rfl⟩
 | some i=>
  have e2:atV eb t n= .pointer (some ⟨eb i,0,none⟩):=by unfold atV;rw [hi]
  rw [e2] at HA
  have c6:=(af (h.ent i _ (Tb.mY hi)).2.2.2.1 7).trans (rfl:_=some (Value.bool (t.en n).all))
  generalize (t.en n).all=st at c6
  clear h hl hi e2
  go_enter Tryz.func214,Tryz.ntmps214
  go_wp2_with (go_at_call 242;refine HA.out.mono ?_;rintro e w1 ⟨rfl,rfl⟩)
  go_ret
  exact ⟨rfl,rfl⟩
structure FY (ok:Nat→Prop) (p:Nat) (v:Value) (t1:Tb) (w:World) (e:Ending) (w1:World):Prop where
 val:e= .returned v
 tb:IsTable ok p t1 w1
 moves:Moves ok ok w w1
theorem LB {ok:Nat→Prop} {p:Nat} {t:Tb} (n s:Int) (w:World) (h:IsTable ok p t w) (hl:t.l.length<1000000):
  Calls Tryz.prog 244 #[.pointer (some ⟨p,0,none⟩),.int .i64 n,.int .u8 s] w (FY ok p (.tuple #[]) (t.setState n s) w):=by
 obtain ⟨v,eb,nv,iv,ρ,h⟩:=h
 have HA:=Am_ (Cw n w h hl)
 cases hi:t.idx n with
 | none=>
  have e1:t.setState n s=t:=by unfold Tb.setState;rw [hi]
  have e2:atV eb t n= .pointer none:=by unfold atV;rw [hi]
  rw [e2] at HA
  rw [e1]
  have HT:=Am_ h
  clear h hl hi e1 e2
  go_enter Tryz.func244,Tryz.ntmps244
  go_wp2_with (go_at_call 242;refine HA.out.mono ?_;rintro e w1 ⟨rfl,rfl⟩)
  go_end0
  exact ⟨rfl,⟨_,_,_,_,_,HT.out⟩,Moves.refl _ _⟩
 | some i=>
  have e2:atV eb t n= .pointer (some ⟨eb i,0,none⟩):=by unfold atV;rw [hi]
  rw [e2] at HA
  have hen:=Tb.mY hi
  have hent:=h.ent i _ hen
  have c6:=(af hent.2.2.2.1 6).trans (rfl:_=some (Value.int .u8 (t.en n).state))
  have z6:=ah hent.2.2.2.1 6
  have HT:=Am_ (h.put hen (e1:= { t.en n with state:=s }) rfl 6 (.int .u8 s) rfl)
  have e1:t.setState n s= { t with l:=t.l.set i { t.en n with state:=s } }:=by unfold Tb.setState Tb.en;rw [hi]
  rw [e1]
  have HO:=Am_ hent.1
  generalize (t.en n).state=st at c6
  clear h hl hi e2 e1 hen hent
  go_enter Tryz.func244,Tryz.ntmps244
  go_wp2_with (go_at_call 242;refine HA.out.mono ?_;rintro e w1 ⟨rfl,rfl⟩)
  go_end0
  exact ⟨rfl,⟨_,_,_,_,_,HT.out⟩,(Moves.refl _ _).set (.inl HO.out) _⟩
theorem Cx {ok:Nat→Prop} {p:Nat} {t:Tb} (n:Int) (w:World) (h:IsTable ok p t w) (hl:t.l.length<1000000):
  Calls Tryz.prog 217 #[.pointer (some ⟨p,0,none⟩),.int .i64 n] w (FY ok p (.tuple #[]) (t.jK n) w):=by
 obtain ⟨v,eb,nv,iv,ρ,h⟩:=h
 have HA:=Am_ (Cw n w h hl)
 cases hi:t.idx n with
 | none=>
  have e1:t.jK n=t:=by unfold Tb.jK;rw [hi]
  have e2:atV eb t n= .pointer none:=by unfold atV;rw [hi]
  rw [e2] at HA
  rw [e1]
  have HT:=Am_ h
  clear h hl hi e1 e2
  go_enter Tryz.func217,Tryz.ntmps217
  go_wp2_with (go_at_call 242;refine HA.out.mono ?_;rintro e w1 ⟨rfl,rfl⟩)
  go_end0
  exact ⟨rfl,⟨_,_,_,_,_,HT.out⟩,Moves.refl _ _⟩
 | some i=>
  have e2:atV eb t n= .pointer (some ⟨eb i,0,none⟩):=by unfold atV;rw [hi]
  rw [e2] at HA
  have hen:=Tb.mY hi
  have hent:=h.ent i _ hen
  have c6:=(af hent.2.2.2.1 7).trans (rfl:_=some (Value.bool (t.en n).all))
  have z6:=ah hent.2.2.2.1 7
  have HT:=Am_ (h.put hen (e1:= { t.en n with all:=true }) rfl 7 (.bool true) rfl)
  have e1:t.jK n= { t with l:=t.l.set i { t.en n with all:=true } }:=by unfold Tb.jK Tb.en;rw [hi]
  rw [e1]
  have HO:=Am_ hent.1
  generalize (t.en n).all=st at c6
  clear h hl hi e2 e1 hen hent
  go_enter Tryz.func217,Tryz.ntmps217
  go_wp2_with (go_at_call 242;refine HA.out.mono ?_;rintro e w1 ⟨rfl,rfl⟩)
  go_end0
  exact ⟨rfl,⟨_,_,_,_,_,HT.out⟩,(Moves.refl _ _).set (.inl HO.out) _⟩
def Ar.info (a:Ar) (r:Int):Int × Ar:=
 match a.idx r with
 | none=>(0,a.fault)
 | some j=>match a.slots[j]? with
  | none=>(0,a)
  | some s=>(s.info,a)
def Ar.mark (a:Ar) (r:Int):Bool × Ar:=
 match a.idx r with
 | none=>(false,a.fault)
 | some j=>match a.slots[j]? with
  | none=>(false,a)
  | some s=>(s.mark,a)
def Ar.iU (a:Ar) (r:Int):Ar:=
 match a.idx r with
 | none=>a.fault
 | some j=>match a.slots[j]? with
  | none=>a
  | some s=> { a with slots:=a.slots.set j { s with mark:=true } }
def Ar.eT (a:Ar) (r old now:Int):Bool × Ar:=
 match a.idx r with
 | none=>(false,a.fault)
 | some j=>match a.slots[j]? with
  | none=>(false,a)
  | some s=>if s.info=old then (true,{ a with slots:=a.slots.set j { s with info:=now } }) else (false,a)
def Ar.gK (a:Ar) (r i old now:Int):Bool × Ar:=
 match a.idx r with
 | none=>(false,a.fault)
 | some j=>match a.slots[j]? with
  | none=>(false,a)
  | some s=>if i<0 then (false,a) else if (s.ways.length:Int)≤i then (false,a) else if s.ways.getD i.toNat 0=old then (true,{ a with slots:=a.slots.set j { s with ways:=s.ways.set i.toNat now } }) else (false,a)
theorem bT.Jz {ok:Nat→Prop} {pA:Nat} {sv fv:Value} {lv:Nat→Lv} {ρ:Nat→Nat} {a:Ar} {w:World} (h:bT ok pA sv fv lv ρ a w) {i:Nat} {s:Sl} (hi:a.slots[i]?=some s) {gl cw:Nat} (hv:(lv i).w= .slice (some ⟨gl,0,none⟩) s.ways.length cw) (j:Int) (x:Int):
  bT ok pA sv fv lv ρ { a with slots:=a.slots.set i { s with ways:=s.ways.set j.toNat x } } (w.setCell ⟨gl,j.toNat,none⟩ (.int .i64 x)):=by
 have hil:=(List.getElem?_eq_some_iff.1 hi).1
 have hR:=h.ways i s hi
 rw [hv] at hR
 have hgl:=hR.1 gl (by simp [Value.ownBlock])
 have hne: ∀ r,r≠4+i→ ∀ k,ρ k=r→k≠gl:=fun r hr k hk e=>hr (by rw [←hk,e,hgl.2])
 have hm: ∀ k,ρ k≠4+i→(w.setCell ⟨gl,j.toNat,none⟩ (.int .i64 x)).heap[k]?=w.heap[k]?:=fun k hk=>Below.heap_setCell w ⟨gl,j.toNat,none⟩ _ k (fun e=>hk (by rw [e,hgl.2]))
 have hget: ∀ {i1:Nat} {s2:Sl},(a.slots.set i { s with ways:=s.ways.set j.toNat x })[i1]?=some s2→(i1=i∧s2= { s with ways:=s.ways.set j.toNat x })∨(i1≠i∧a.slots[i1]?=some s2):=fun {i1 s2} h2=>by
  by_cases he:i=i1
  ·subst he
   rw [List.getElem?_set_self hil] at h2
   injection h2 with h2
   exact .inl ⟨rfl,h2.symm⟩
  ·rw [List.getElem?_set_ne he] at h2
   exact .inr ⟨fun e=>he e.symm,h2⟩
 have hrows:rowsOf (a.slots.set i { s with ways:=s.ways.set j.toNat x }) lv=rowsOf a.slots lv:=by
  rw [pG hil (fun _ _=>rfl)]
  refine List.ext_getElem? fun q=>?_
  by_cases hq:i=q
  ·subst hq
   rw [List.getElem?_set_self (by rw [bZ];exact hil),pF hi]
   rfl
  ·rw [List.getElem?_set_ne hq]
 exact {
  own:=h.own
  role:=h.role
  lt:=fun k hk=>by simpa [World.setCell] using h.lt k hk
  box:=(hm pA (by rw [h.role];omega)).trans h.box
  rows:=by
   show (Kd.raw 10).R _ _ _ _ _ (rowsOf (a.slots.set i _) lv)
   rw [hrows]
   exact Kd.bQ h.rows (fun k hk _=>hm k (by rw [hk.2];omega))
  free:=Kd.jS h.free (fun k hk _=>hm k (by rw [hk.2];omega))
  node:=fun i1 s2 h2=>by
   have hs3: ∃ s3,a.slots[i1]?=some s3∧s3.node=s2.node:=by
    rcases hget h2 with ⟨rfl,rfl⟩ | ⟨_,h3⟩
    ·exact ⟨s,hi,rfl⟩
    ·exact ⟨s2,h3,rfl⟩
   obtain ⟨s3,h3,he⟩:=hs3
   have hn:=h.node i1 s3 h3
   rw [he] at hn
   have h4: ∀ k,(ok k∧ρ k=3)→k<w.heap.size→(w.setCell ⟨gl,j.toNat,none⟩ (.int .i64 x)).heap[k]?=w.heap[k]?:=fun k hk _=>hm k (by rw [hk.2];omega)
   exact ⟨hn.1.step h4,hn.2.1.step h4,hn.2.2.step h4⟩
  ways:=fun i1 s2 h2=>by
   rcases hget h2 with ⟨rfl,rfl⟩ | ⟨hi1,h2⟩
   ·have h5:=Kd.Kq hR j x
    show (Kd.int .i64).R _ _ _ _ (lv i1).w (s.ways.set j.toNat x)
    rw [hv]
    exact h5
   ·exact Kd.bQ (h.ways i1 s2 h2) (fun k hk _=>hm k (by rw [hk.2];omega)) }
theorem pq {ok:Nat→Prop} {pA:Nat} {a:Ar} (r:Int) (w:World) (h:dn ok pA a w) (hl:a.slots.length<1000000):
  Calls Tryz.prog 212 #[.pointer (some ⟨pA,0,none⟩),.int .i64 r] w (wB ok pA (.int .i64 (a.info r).1) ((a.info r).2) w):=by
 obtain ⟨sv,fv,lv,ρ,h⟩:=h
 have HA:=Am_ (iD r w h hl)
 cases hx:a.idx r with
 | none=>
  have HF:=Am_ (iX h)
  have HX:=Am_ hx
  have e1:a.info r=(0,a.fault):=by simp [Ar.info,hx]
  rw [e1]
  clear h hx e1
  go_enter Tryz.func212,Tryz.ntmps212
  go_wp2_with (go_at_call 127;refine HA.out.mono ?_;rintro e w1 ⟨_,hm⟩;obtain ⟨rfl,rfl⟩:=hm HX.out;clear hm)
  go_ret
  exact ⟨rfl,HF.out.1,HF.out.2⟩
 | some j=>
  obtain ⟨hp,s,hs,hu,hr⟩:=Ar.fV hx
  obtain ⟨ad,cap,rfl⟩:=Kd.aJ h.rows
  obtain ⟨hn,g,rfl,hg,hρ,hcc,hfz⟩:=h.cells hs
  have HX:=Am_ hx
  have HI:=Am_ h
  have HG:=Am_ hg
  have HS:=Am_ hs
  have c6:w.cell? ⟨g,j*10+6,none⟩=some (.int .i64 s.info):=hcc 6 _ rfl
  have e1:a.info r=(s.info,a):=by simp [Ar.info,hx,hs]
  rw [e1]
  generalize s.info=v at c6 ⊢
  clear h hx hcc hfz hp hs hu hr e1
  go_enter Tryz.func212,Tryz.ntmps212
  go_wp2_with (go_at_call 127;refine HA.out.mono ?_;rintro e w1 ⟨hm,_⟩;obtain ⟨g1,n1,cap1,e1,rfl,rfl⟩:=hm j HX.out;injection e1 with e1 _ _;injection e1 with e1;injection e1 with e1 _ _;subst e1;clear hm)
  go_ret
  exact ⟨rfl,⟨_,_,_,_,HI.out⟩,Moves.refl _ _⟩
theorem xP {ok:Nat→Prop} {pA:Nat} {a:Ar} (r:Int) (w:World) (h:dn ok pA a w) (hl:a.slots.length<1000000):
  Calls Tryz.prog 237 #[.pointer (some ⟨pA,0,none⟩),.int .i64 r] w (wB ok pA (.bool (a.mark r).1) ((a.mark r).2) w):=by
 obtain ⟨sv,fv,lv,ρ,h⟩:=h
 have HA:=Am_ (iD r w h hl)
 cases hx:a.idx r with
 | none=>
  have HF:=Am_ (iX h)
  have HX:=Am_ hx
  have e1:a.mark r=(false,a.fault):=by simp [Ar.mark,hx]
  rw [e1]
  clear h hx e1
  go_enter Tryz.func237,Tryz.ntmps237
  go_wp2_with (go_at_call 127;refine HA.out.mono ?_;rintro e w1 ⟨_,hm⟩;obtain ⟨rfl,rfl⟩:=hm HX.out;clear hm)
  go_ret
  exact ⟨rfl,HF.out.1,HF.out.2⟩
 | some j=>
  obtain ⟨hp,s,hs,hu,hr⟩:=Ar.fV hx
  obtain ⟨ad,cap,rfl⟩:=Kd.aJ h.rows
  obtain ⟨hn,g,rfl,hg,hρ,hcc,hfz⟩:=h.cells hs
  have HX:=Am_ hx
  have HI:=Am_ h
  have HG:=Am_ hg
  have HS:=Am_ hs
  have c7:w.cell? ⟨g,j*10+7,none⟩=some (.bool s.mark):=hcc 7 _ rfl
  have e1:a.mark r=(s.mark,a):=by simp [Ar.mark,hx,hs]
  rw [e1]
  generalize s.mark=v at c7 ⊢
  clear h hx hcc hfz hp hs hu hr e1
  go_enter Tryz.func237,Tryz.ntmps237
  go_wp2_with (go_at_call 127;refine HA.out.mono ?_;rintro e w1 ⟨hm,_⟩;obtain ⟨g1,n1,cap1,e1,rfl,rfl⟩:=hm j HX.out;injection e1 with e1 _ _;injection e1 with e1;injection e1 with e1 _ _;subst e1;clear hm)
  go_ret
  exact ⟨rfl,⟨_,_,_,_,HI.out⟩,Moves.refl _ _⟩
theorem qA {ok:Nat→Prop} {pA:Nat} {a:Ar} (r:Int) (w:World) (h:dn ok pA a w) (hl:a.slots.length<1000000):
  Calls Tryz.prog 219 #[.pointer (some ⟨pA,0,none⟩),.int .i64 r] w (wB ok pA (.tuple #[]) (a.iU r) w):=by
 obtain ⟨sv,fv,lv,ρ,h⟩:=h
 have HA:=Am_ (iD r w h hl)
 cases hx:a.idx r with
 | none=>
  have HF:=Am_ (iX h)
  have HX:=Am_ hx
  have e1:a.iU r=a.fault:=by simp [Ar.iU,hx]
  rw [e1]
  clear h hx e1
  go_enter Tryz.func219,Tryz.ntmps219
  go_wp2_with (go_at_call 127;refine HA.out.mono ?_;rintro e w1 ⟨_,hm⟩;obtain ⟨rfl,rfl⟩:=hm HX.out;clear hm)
  go_end0
  exact ⟨rfl,HF.out.1,HF.out.2⟩
 | some j=>
  obtain ⟨hp,s,hs,hu,hr⟩:=Ar.fV hx
  obtain ⟨ad,cap,rfl⟩:=Kd.aJ h.rows
  obtain ⟨hn,g,rfl,hg,hρ,hcc,hfz⟩:=h.cells hs
  have HX:=Am_ hx
  have HI:=Am_ h
  have HG:=Am_ hg
  have HS:=Am_ hs
  have c7:w.cell? ⟨g,j*10+7,none⟩=some (.bool s.mark):=hcc 7 _ rfl
  have z7:=hfz 7
  have e1:a.iU r= { a with slots:=a.slots.set j { s with mark:=true } }:=by simp [Ar.iU,hx,hs]
  rw [e1]
  have HN:=Am_ (HI.out.seg hs 7 [.bool true] (by simp) { s with mark:=true } lv (fun _ _=>rfl) rfl (h.node j s hs) (h.ways j s hs))
  generalize s.mark=v at c7
  clear h hx hcc hfz hp hs hu hr e1
  go_enter Tryz.func219,Tryz.ntmps219
  go_wp2_with (go_at_call 127;refine HA.out.mono ?_;rintro e w1 ⟨hm,_⟩;obtain ⟨g1,n1,cap1,e1,rfl,rfl⟩:=hm j HX.out;injection e1 with e1 _ _;injection e1 with e1;injection e1 with e1 _ _;subst e1;clear hm)
  go_end0
  exact ⟨rfl,⟨_,_,_,_,HN.out⟩,(Moves.refl ok _).set (p:=⟨g,j*10+7,none⟩) (.inl HG.out) _⟩
theorem oK {ok:Nat→Prop} {pA:Nat} {a:Ar} (r old now:Int) (w:World) (h:dn ok pA a w) (hl:a.slots.length<1000000):
  Calls Tryz.prog 210 #[.pointer (some ⟨pA,0,none⟩),.int .i64 r,.int .i64 old,.int .i64 now] w (wB ok pA (.bool (a.eT r old now).1) ((a.eT r old now).2) w):=by
 obtain ⟨sv,fv,lv,ρ,h⟩:=h
 have HA:=Am_ (iD r w h hl)
 cases hx:a.idx r with
 | none=>
  have HF:=Am_ (iX h)
  have HX:=Am_ hx
  have e1:a.eT r old now=(false,a.fault):=by simp [Ar.eT,hx]
  rw [e1]
  clear h hx e1
  go_enter Tryz.func210,Tryz.ntmps210
  go_wp2_with (go_at_call 127;refine HA.out.mono ?_;rintro e w1 ⟨_,hm⟩;obtain ⟨rfl,rfl⟩:=hm HX.out;clear hm)
  go_ret
  exact ⟨rfl,HF.out.1,HF.out.2⟩
 | some j=>
  obtain ⟨hp,s,hs,hu,hr⟩:=Ar.fV hx
  obtain ⟨ad,cap,rfl⟩:=Kd.aJ h.rows
  obtain ⟨hn,g,rfl,hg,hρ,hcc,hfz⟩:=h.cells hs
  have HX:=Am_ hx
  have HI:=Am_ h
  have HG:=Am_ hg
  have HS:=Am_ hs
  have c6:w.cell? ⟨g,j*10+6,none⟩=some (.int .i64 s.info):=hcc 6 _ rfl
  have z6:=hfz 6
  by_cases hq:s.info=old
  ·have e1:a.eT r old now=(true,{ a with slots:=a.slots.set j { s with info:=now } }):=by simp [Ar.eT,hx,hs,hq]
   rw [e1]
   have HN:=Am_ (HI.out.seg hs 6 [.int .i64 now] (by simp) { s with info:=now } lv (fun _ _=>rfl) rfl (h.node j s hs) (h.ways j s hs))
   rw [hq] at c6
   have d1:(old != old)=false:=by simp
   clear h hx hcc hfz hp hs hu hr e1 hq
   go_enter Tryz.func210,Tryz.ntmps210
   go_wp2_with (go_at_call 127;refine HA.out.mono ?_;rintro e w1 ⟨hm,_⟩;obtain ⟨g1,n1,cap1,e1,rfl,rfl⟩:=hm j HX.out;injection e1 with e1 _ _;injection e1 with e1;injection e1 with e1 _ _;subst e1;clear hm)
   go_ret
   exact ⟨rfl,⟨_,_,_,_,HN.out⟩,(Moves.refl ok _).set (p:=⟨g,j*10+6,none⟩) (.inl HG.out) _⟩
  ·have e1:a.eT r old now=(false,a):=by simp [Ar.eT,hx,hs,hq]
   rw [e1]
   have d1:(s.info != old)=true:=by simpa using hq
   generalize s.info=v at c6 d1
   clear h hx hcc hfz hp hs hu hr e1 hq
   go_enter Tryz.func210,Tryz.ntmps210
   go_wp2_with (go_at_call 127;refine HA.out.mono ?_;rintro e w1 ⟨hm,_⟩;obtain ⟨g1,n1,cap1,e1,rfl,rfl⟩:=hm j HX.out;injection e1 with e1 _ _;injection e1 with e1;injection e1 with e1 _ _;subst e1;clear hm)
   go_ret
   exact ⟨rfl,⟨_,_,_,_,HI.out⟩,Moves.refl _ _⟩
theorem qJ {ok:Nat→Prop} {pA:Nat} {a:Ar} (r i old now:Int) (w:World) (h:dn ok pA a w) (hl:a.slots.length<1000000):
  Calls Tryz.prog 111 #[.pointer (some ⟨pA,0,none⟩),.int .i64 r,.int .i64 i,.int .i64 old,.int .i64 now] w (wB ok pA (.bool (a.gK r i old now).1) ((a.gK r i old now).2) w):=by
 obtain ⟨sv,fv,lv,ρ,h⟩:=h
 have HA:=Am_ (iD r w h hl)
 cases hx:a.idx r with
 | none=>
  have HF:=Am_ (iX h)
  have HX:=Am_ hx
  have e1:a.gK r i old now=(false,a.fault):=by simp [Ar.gK,hx]
  rw [e1]
  clear h hx e1
  go_enter Tryz.func111,Tryz.ntmps111
  go_wp2_with (go_at_call 127;refine HA.out.mono ?_;rintro e w1 ⟨_,hm⟩;obtain ⟨rfl,rfl⟩:=hm HX.out;clear hm)
  go_ret
  exact ⟨rfl,HF.out.1,HF.out.2⟩
 | some j=>
  obtain ⟨hp,s,hs,hu,hr⟩:=Ar.fV hx
  obtain ⟨ad,cap,rfl⟩:=Kd.aJ h.rows
  obtain ⟨hn,g,rfl,hg,hρ,hcc,hfz⟩:=h.cells hs
  have HX:=Am_ hx
  have HI:=Am_ h
  have HG:=Am_ hg
  have HS:=Am_ hs
  have hR:=h.ways j s hs
  obtain ⟨Aw,cw,ew⟩:=Kd.aJ hR
  have c5:w.cell? ⟨g,j*10+5,none⟩=some (.slice Aw s.ways.length cw):=hcc 5 _ (by rw [←ew];rfl)
  have e1:a.gK r i old now=(if i<0 then (false,a) else if (s.ways.length:Int)≤i then (false,a) else if s.ways.getD i.toNat 0=old then (true,{ a with slots:=a.slots.set j { s with ways:=s.ways.set i.toNat now } }) else (false,a)):=by simp [Ar.gK,hx,hs]
  rw [e1]
  rw [ew] at hR
  by_cases h0:i<0
  ·rw [if_pos h0]
   have d1:decide (i<0)=true:=decide_eq_true h0
   clear h hx hcc hfz hp hs hu hr e1 ew hR h0
   go_enter Tryz.func111,Tryz.ntmps111
   go_wp2_with (go_at_call 127;refine HA.out.mono ?_;rintro e w1 ⟨hm,_⟩;obtain ⟨g1,n1,cap1,e1,rfl,rfl⟩:=hm j HX.out;injection e1 with e1 _ _;injection e1 with e1;injection e1 with e1 _ _;subst e1;clear hm)
   go_ret
   exact ⟨rfl,⟨_,_,_,_,HI.out⟩,Moves.refl _ _⟩
  ·rw [if_neg h0]
   have d1:decide (i<0)=false:=decide_eq_false h0
   by_cases h1:(s.ways.length:Int)≤i
   ·rw [if_pos h1]
    have d2:decide (i≥(s.ways.length:Int))=true:=decide_eq_true h1
    have d2':decide ((s.ways.length:Int)≤i)=true:=decide_eq_true h1
    clear h hx hcc hfz hp hs hu hr e1 ew hR h0 h1
    go_enter Tryz.func111,Tryz.ntmps111
    go_wp2_with (go_at_call 127;refine HA.out.mono ?_;rintro e w1 ⟨hm,_⟩;obtain ⟨g1,n1,cap1,e1,rfl,rfl⟩:=hm j HX.out;injection e1 with e1 _ _;injection e1 with e1;injection e1 with e1 _ _;subst e1;clear hm)
    go_ret
    exact ⟨rfl,⟨_,_,_,_,HI.out⟩,Moves.refl _ _⟩
   ·rw [if_neg h1]
    have d2:decide (i≥(s.ways.length:Int))=false:=decide_eq_false h1
    have d2':decide ((s.ways.length:Int)≤i)=false:=decide_eq_false h1
    have b1:0≤i:=by omega
    have b2:i<(s.ways.length:Int):=by omega
    obtain ⟨gl,rfl,_,hcl⟩:=kK hR i b1 b2
    have hfw:=(Kd.Hw (0:Int) hR i b1 b2).2
    have HGL:=Am_ (hR.1 gl (by simp [Value.ownBlock]))
    by_cases h2:s.ways.getD i.toNat 0=old
    ·rw [if_pos h2]
     have d3:(old != old)=false:=by simp
     have HN:=Am_ (HI.out.Jz hs ew i now)
     rw [h2] at hcl
     clear h hx hcc hfz hp hs hu hr e1 ew hR h0 h1 h2
     go_enter Tryz.func111,Tryz.ntmps111
     go_wp2_with (go_at_call 127;refine HA.out.mono ?_;rintro e w1 ⟨hm,_⟩;obtain ⟨g1,n1,cap1,e1,rfl,rfl⟩:=hm j HX.out;injection e1 with e1 _ _;injection e1 with e1;injection e1 with e1 _ _;subst e1;clear hm)
     go_ret
     exact ⟨rfl,⟨_,_,_,_,HN.out⟩,(Moves.refl ok _).set (p:=⟨gl,i.toNat,none⟩) (.inl HGL.out.1) _⟩
    ·rw [if_neg h2]
     have d3:(s.ways.getD i.toNat 0 != old)=true:=by simpa using h2
     generalize s.ways.getD i.toNat 0=v at hcl d3
     clear h hx hcc hfz hp hs hu hr e1 ew hR h0 h1 h2
     go_enter Tryz.func111,Tryz.ntmps111
     go_wp2_with (go_at_call 127;refine HA.out.mono ?_;rintro e w1 ⟨hm,_⟩;obtain ⟨g1,n1,cap1,e1,rfl,rfl⟩:=hm j HX.out;injection e1 with e1 _ _;injection e1 with e1;injection e1 with e1 _ _;subst e1;clear hm)
     go_ret
     exact ⟨rfl,⟨_,_,_,_,HI.out⟩,Moves.refl _ _⟩
theorem Ar.Good.info {a:Ar} (h:a.Good) (r:Int):(a.info r).2.Good:=by
 unfold Ar.info
 split
 ·exact h.fault
 ·split<;>exact h
theorem Ar.Good.mark {a:Ar} (h:a.Good) (r:Int):(a.mark r).2.Good:=by
 unfold Ar.mark
 split
 ·exact h.fault
 ·split<;>exact h
theorem Ar.Good.write {a:Ar} (h:a.Good) {j:Nat} {s s1:Sl} (hs:a.slots[j]?=some s) (hu:s1.used=s.used) (hn:s1.node=s.node) (hw:s1.ways.length=s.ways.length):({ a with slots:=a.slots.set j s1 }:Ar).Good:=by
 obtain ⟨hj,hsj⟩:=List.getElem?_eq_some_iff.1 hs
 refine ⟨h.most,by simpa using h.slots,by simpa using h.used,?_,fun i q hq=>?_⟩
 ·show ((((a.slots.set j s1).countP fun s=>s.used:Nat)):Int)≤a.used
  have:=h.cnt
  rw [List.countP_set hj,hsj,hu]
  have h2:(if s.used=true then 1 else 0)≤a.slots.countP fun s=>s.used:=by
   by_cases hus:s.used=true
   ·rw [if_pos hus]
    exact List.countP_pos_iff.2 ⟨s,hsj▸List.getElem_mem hj,hus⟩
   ·rw [if_neg hus];omega
  omega
 ·rw [List.getElem?_set] at hq
  by_cases hij:j=i
  ·rw [if_pos hij,if_pos hj] at hq
   injection hq with hq
   subst hq
   have:=h.small j s hs
   exact ⟨by rw [hn];exact this.1,by rw [hw];exact this.2⟩
  ·rw [if_neg hij] at hq
   exact h.small i q hq
theorem Ar.Good.iU {a:Ar} (h:a.Good) (r:Int):(a.iU r).Good:=by
 unfold Ar.iU
 split
 ·exact h.fault
 ·split
  ·exact h
  ·rename_i s hs
   exact h.write hs rfl rfl rfl
theorem Ar.Good.eT {a:Ar} (h:a.Good) (r old now:Int):(a.eT r old now).2.Good:=by
 unfold Ar.eT
 split
 ·exact h.fault
 ·split
  ·exact h
  ·rename_i s hs
   split
   ·exact h.write hs rfl rfl rfl
   ·exact h
theorem Ar.Good.gK {a:Ar} (h:a.Good) (r i old now:Int):(a.gK r i old now).2.Good:=by
 unfold Ar.gK
 split
 ·exact h.fault
 ·split
  ·exact h
  ·rename_i s hs
   split
   ·exact h
   ·split
    ·exact h
    ·split
     ·exact h.write hs rfl rfl (by simp)
     ·exact h
theorem Tb.Good.one {t:Tb} (h:t.Good) (i:Nat) (e:En) (hr:e.rc=(t.l.getD i en0).rc):({ t with l:=t.l.set i e }:Tb).Good:=by
 refine ⟨h.most,by simpa using h.len,fun j q hq=>?_⟩
 rw [List.getElem?_set] at hq
 by_cases hij:i=j
 ·by_cases hi:i<t.l.length
  ·rw [if_pos hij,if_pos hi] at hq
   injection hq with hq
   subst hq
   have hg:t.l[i]?=some (t.l.getD i en0):=by rw [List.getD_eq_getElem?_getD,List.getElem?_eq_getElem hi,Option.getD_some]
   rw [hr]
   exact h.small i _ hg
  ·rw [if_pos hij,if_neg hi] at hq
   cases hq
 ·rw [if_neg hij] at hq
  exact h.small j q hq
theorem Tb.Good.setState {t:Tb} (h:t.Good) (n s:Int):(t.setState n s).Good:=by
 unfold Tb.setState
 split
 ·exact h
 ·exact h.one _ _ rfl
theorem Tb.Good.jK {t:Tb} (h:t.Good) (n:Int):(t.jK n).Good:=by
 unfold Tb.jK
 split
 ·exact h
 ·exact h.one _ _ rfl
theorem Ar.Good.alloc {a a1:Ar} (h:a.Good) {n:Nd} {q:Int × Bool} (hn:n.Small) (ha:a.alloc n=some (q,a1)):a1.Good:=by
 unfold Ar.alloc at ha
 split at ha
 ·injection ha with ha
  injection ha with _ ha
  subst ha
  exact h
 ·rename_i hfull
  have hm:=h.most
  have hsl:=h.slots
  have hu:=h.used
  cases ht:a.take with
  | none=>rw [ht] at ha;cases ha
  | some p=>
   obtain ⟨i,a2⟩:=p
   rw [ht] at ha
   simp only at ha
   cases hs:a2.slots[i]? with
   | none=>rw [hs] at ha;cases ha
   | some s=>
    rw [hs] at ha
    simp only at ha
    injection ha with ha
    injection ha with _ ha
    have hlt:=(List.getElem?_eq_some_iff.1 hs).1
    have key:a2.most=a.most∧a2.used=a.used∧(a2.slots.length:Int)≤a.most∧(a2.slots.length:Int)=a.used+1+(a2.free.length:Int)∧(((a2.slots.countP fun s=>s.used:Nat)):Int)≤a.used∧(∀ (i:Nat) (s:Sl),a2.slots[i]?=some s→s.node.Small∧s.ways.length<1000000):=by
     unfold Ar.take at ht
     cases hf:a.free with
     | nil=>
      rw [hf] at ht
      simp only [Option.some.injEq,Prod.mk.injEq] at ht
      obtain ⟨rfl,rfl⟩:=ht
      have hf0:a.free.length=0:=by rw [hf];rfl
      refine ⟨rfl,rfl,?_,?_,?_,?_⟩
      ·show ((a.slots++ [sl0]).length:Int)≤_;rw [List.length_append,List.length_singleton];omega
      ·show ((a.slots++ [sl0]).length:Int)=a.used+1+(([]:List Int).length:Int);rw [List.length_append,List.length_singleton,List.length_nil];omega
      ·show (((a.slots++ [sl0]).countP fun s=>s.used:Nat):Int)≤a.used
       rw [List.countP_append]
       have:=h.cnt
       have h0:([sl0].countP fun s=>s.used)=0:=by decide
       omega
      ·intro j q hq
       by_cases hj:j<a.slots.length
       ·rw [List.getElem?_append_left hj] at hq
        exact h.small j q hq
       ·rw [List.getElem?_append_right (by omega)] at hq
        have:j - a.slots.length=0:=by
         have:=(List.getElem?_eq_some_iff.1 hq).1
         simp at this
         omega
        rw [this] at hq
        injection hq with hq
        subst hq
        exact ⟨⟨by decide,by decide,by decide⟩,by decide⟩
     | cons f fs=>
      rw [hf] at ht
      simp only at ht
      split at ht
      ·simp only [Option.some.injEq,Prod.mk.injEq] at ht
       obtain ⟨rfl,rfl⟩:=ht
       have hf0:a.free.length=fs.length+1:=by rw [hf];rfl
       exact ⟨rfl,rfl,hsl,by show (a.slots.length:Int)=a.used+1+(fs.length:Int);omega,h.cnt,h.small⟩
      ·cases ht
    obtain ⟨k1,k2,k3,k4,k5,k6⟩:=key
    subst ha
    unfold Ar.put
    refine ⟨by show a2.most≤_;omega,by show ((a2.slots.set i _).length:Int)≤a2.most;rw [List.length_set];omega,?_,?_,?_⟩
    ·show wrap64 (a2.used+1)+(a2.free.length:Int)=((a2.slots.set i _).length:Int)
     rw [List.length_set]
     unfold wrap64
     omega
    ·show (((a2.slots.set i (gX n _)).countP fun s=>s.used:Nat):Int)≤wrap64 (a2.used+1)
     rw [List.countP_set hlt]
     have:(if (gX n (Gv (s.count+1))).used=true then 1 else 0)=1:=rfl
     have hw:wrap64 (a2.used+1)=a2.used+1:=by unfold wrap64;omega
     rw [hw]
     split<;>omega
    ·intro j q hq
     rw [List.getElem?_set] at hq
     by_cases hij:i=j
     ·rw [if_pos hij,if_pos hlt] at hq
      injection hq with hq
      subst hq
      exact ⟨hn,hn.ways⟩
     ·rw [if_neg hij] at hq
      exact k6 j q hq
def Tb.make (t:Tb) (r:Rc):(Int × Bool) × Tb:=
 if r.nodes.length≠r.infos.length∨r.keep<0∨t.most≤t.l.length then ((0,false),t) else ((((t.l.length+1:Nat):Int),true),{ t with l:=t.l++ [⟨r,1,false⟩] })
theorem Tb.Good.make {t:Tb} (h:t.Good) (r:Rc) (h1:r.nodes.length<1000000) (h2:r.infos.length<1000000):(t.make r).2.Good:=by
 unfold Tb.make
 split
 ·exact h
 ·rename_i hc
  refine ⟨h.most,by simp only [List.length_append,List.length_singleton];omega,fun j q hq=>?_⟩
  by_cases hj:j<t.l.length
  ·rw [List.getElem?_append_left hj] at hq
   exact h.small j q hq
  ·rw [List.getElem?_append_right (by omega)] at hq
   have:j - t.l.length=0:=by
    have:=(List.getElem?_eq_some_iff.1 hq).1
    simp at this
    omega
   rw [this] at hq
   injection hq with hq
   subst hq
   exact ⟨h1,h2⟩
def doO {X:Type} (f:X→Option (Int × X)):Pr X Int:=fun s=>
 if s.at_<s.log.length then some (.ret (s.log.getD s.at_ 0),{ s with at_:=s.at_+1 })
 else if s.spent then some (.wait,s)
 else if 999999≤s.log.length then none
 else match f s.sh with
  | none=>none
  | some (n,x)=>some (.ret n,{ sh:=x,log:=s.log++ [n],at_:=s.at_+1,spent:=true })
theorem AA {X:Type} {Sh:X→(Nat→Prop)→World→Prop} (S:Shared Sh) (f:X→Option (Int × X)) (tb:Nat) (work:Value) (ok:Nat→Prop) (s:TS X) (w:World) (gf:FuncId) (cap:Array Value) (h:dN Sh tb work ok s w)
  (he: ∀ w1:World,(callFunc gf cap).run Tryz.prog w1= .ok (.enter gf cap) w1)
  (hc: ∀ n x1,f s.sh=some (n,x1)→ ∀ w1 okS,Moves ok ok w w1→(∀ k,okS k→ok k)→Sh s.sh okS w1→Calls Tryz.prog gf cap w1 fun e w2=> ∃ okS1,e= .returned (.int .i64 n)∧Sh x1 okS1 w2∧Moves okS okS1 w1 w2)
  (res:Out Int × TS X) (hr:doO f s=some res):
  Calls Tryz.prog 137 #[.pointer (some ⟨tb,0,none⟩),.func (.func gf) #[] cap] w (fQ Sh tb work FZ ok w res):=by
 have hle:=h.le
 have hsh:=h.short
 obtain ⟨okT,okS,h1,h2,h3,h4⟩:=h.out
 unfold doO at hr
 by_cases ha:s.at_<s.log.length
 ·rw [if_pos ha] at hr
  injection hr with hr
  subst hr
  refine (tT okT tb work _ w _ _ _ h3 rfl (by simp) (by simpa using ha) hsh _ rfl).mono ?_
  rintro e w1 ⟨rfl,ht,hm⟩
  refine ⟨⟨ok,fA (ok1:=ok) (okB:=ok) hm (fun k hk=>(h1 k).2 (.inl hk)),⟨by show s.at_+1≤s.log.length;omega,hsh,okT,okS,h1,h2,?_,S.step h4 hm.size (fun k hk hlt=>hm.block k hlt (fun h5=>h2 k h5 hk))⟩,_,rfl,?_⟩⟩
  ·simpa using ht
  ·simp [FZ]
 ·rw [if_neg ha] at hr
  have hat:s.at_=s.log.length:=by omega
  by_cases hs:s.spent=true
  ·rw [if_pos hs] at hr
   injection hr with hr
   subst hr
   refine (qi okT tb work _ w _ _ _ h3 rfl (by show (s.log.length:Int)≤(s.at_:Int);omega) hs).mono ?_
   rintro e w1 ⟨rfl,ht,hm⟩
   exact ⟨⟨ok,fA (ok1:=ok) (okB:=ok) hm (fun k hk=>(h1 k).2 (.inl hk)),⟨hle,hsh,okT,okS,h1,h2,ht,S.step h4 hm.size (fun k hk hlt=>hm.block k hlt (fun h5=>h2 k h5 hk))⟩,rfl⟩⟩
  ·rw [if_neg hs] at hr
   by_cases hl:999999≤s.log.length
   ·rw [if_pos hl] at hr
    cases hr
   rw [if_neg hl] at hr
   cases hfs:f s.sh with
   | none=>rw [hfs] at hr;cases hr
   | some q=>
   obtain ⟨n0,x1⟩:=q
   rw [hfs] at hr
   injection hr with hr
   subst hr
   have hlen:(s.log++ [n0]).length<1000000:=by simp;omega
   refine (AB okT okS tb work _ w gf cap (fun n okS1 w1=>n=n0∧Sh x1 okS1 w1) h3 rfl (by show (s.at_:Int)=(s.log.length:Int);omega) (by simpa using hs) hsh h2
    (fun n ok1 w1 w2 hp hsz hm=>⟨hp.1,S.step hp.2 hsz hm⟩) (fun n ok1 w1 hp=>S.lt hp.2) he
    (fun w1 hm=>(hc n0 x1 hfs w1 okS (fA (ok1:=ok) (okB:=ok) hm (fun k hk=>(h1 k).2 (.inl hk))) (fun k hk=>(h1 k).2 (.inr hk)) (S.step h4 hm.size (fun k hk hlt=>hm.block k hlt (fun h5=>h2 k h5 hk)))).mono (fun e w2 hh=>by
     obtain ⟨okS1,rfl,hp,hmv⟩:=hh
     exact ⟨_,okS1,rfl,⟨rfl,hp⟩,hmv⟩))).mono ?_
   rintro e w1 ⟨n,okT1,okS1,rfl,ht,⟨rfl,hp⟩,hd,hm⟩
   refine ⟨⟨fun k=>okT1 k∨okS1 k,⟨hm.os,hm.tape,hm.output,hm.size,fun k hk hn=>hm.block k hk (fun h5=>hn ((h1 k).2 h5)),fun k hk=>(hm.fresh k hk).imp (h1 k).2 id⟩,⟨by simp [hat],hlen,okT1,okS1,fun _=>Iff.rfl,hd,?_,hp⟩,_,rfl,rfl⟩⟩
   simpa using ht
section
variable {p tb:Nat} {work:Value} {me:Int} {bt:Nat} {ok okc ok2:Nat→Prop} {w wc w2:World} {s s2:TS Ws}
theorem aH.ND (h:aH p tb work me bt ok w okc s wc) (f:Ws→Option (Int × Ws)) (gf:FuncId) (cap:Array Value)
  (he: ∀ w1:World,(callFunc gf cap).run Tryz.prog w1= .ok (.enter gf cap) w1)
  (hc: ∀ n x1,f s.sh=some (n,x1)→ ∀ w1 okS,Moves okc okc wc w1→(∀ k,okS k→okc k)→shW p s.sh okS w1→Calls Tryz.prog gf cap w1 fun e w2=> ∃ okS1,e= .returned (.int .i64 n)∧shW p x1 okS1 w2∧Moves okS okS1 w1 w2)
  {o:Out Int} {t:TS Ws} (hd:doO f s=some (o,t)):
  Calls Tryz.prog 137 #[.pointer (some ⟨tb,0,none⟩),.func (.func gf) #[] cap] wc (fD oD p tb work me bt ok w okc o t wc):=
 (AA (aX p) f tb work okc s wc gf cap h.run he hc (o,t) hd).mono (fun e w1 hp=>h.post (fun _ _ _ _ hv=>hv) hp)
end
end Go.Proofs.YtmnjjdeaccgjlaaGreat.Tower
