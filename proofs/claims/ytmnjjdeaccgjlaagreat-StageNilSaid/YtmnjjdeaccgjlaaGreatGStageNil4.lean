/- Words and contracts that the claim stands on, part 5 of 7. -/
import Derived.Test.YtmnjjdeaccgjlaaGreatGStageNil0
import Derived.Test.YtmnjjdeaccgjlaaGreatGStageNil1
import Derived.Test.YtmnjjdeaccgjlaaGreatGStageNil2
import Derived.Test.YtmnjjdeaccgjlaaGreatGStageNil3
set_option linter.unusedSimpArgs false
set_option linter.unusedVariables false
set_option maxHeartbeats 8000000
set_option maxRecDepth 100000
namespace Go.Proofs.YtmnjjdeaccgjlaaGreat.PAskAlone
open Go.RowKit Go.Proofs.YtmnjjdeaccgjlaaGreatW.PrintWords Go.Proofs.YtmnjjdeaccgjlaaGreatW.PrintLast Go.Proofs.YtmnjjdeaccgjlaaGreatW.PrintMore
attribute [local go_sem] iq iy ji jk gG gH iw iA
mutual
def aW.j0:Nat→List Int→Bool→Option (Int × Bool × Int × Int × (List (dh)) × Bool)
 | 0,_,_=>none
 | k+1,x0,x13=>if x13=true then (some (0,false,0,0,([]:List (dh)),false)) else (if 0<(x0.length:Int) then (if 1<(x0.length:Int) then (if 2<(x0.length:Int) then (if 3<(x0.length:Int) then (if 4<(x0.length:Int) then (aW.l0 k x0 5 (rd x0 0) ((rd x0 1) == 1) (rd x0 2) (rd x0 3) ([]:List (dh)) ((rd x0 4) == 1)) else (none)) else (none)) else (none)) else (none)) else (none))
def aW.l0:Nat→List Int→Int→Int→Bool→Int→Int→List (dh)→Bool→Option (Int × Bool × Int × Int × (List (dh)) × Bool)
 | 0,_,_,_,_,_,_,_,_=>none
 | k+1,x0,x4,x349000,x349001,x349002,x349003,x349004,x349005=>if x4<(x0.length:Int) then (if 0≤x4 then (if 0≤(wrap64 (x4+1)) then (if (wrap64 (x4+1))<(x0.length:Int) then (if x349004.length<8796093022208 then (aW.l0 k x0 (wrap64 (x4+2)) x349000 x349001 x349002 x349003 (x349004++ [(⟨rd x0 x4,rd x0 (wrap64 (x4+1))⟩:dh)]) x349005) else (none)) else (none)) else (none)) else (none)) else (some (x349000,x349001,x349002,x349003,x349004,x349005))
end
def aW.f (k:Nat) (l0:List Int):Option (Int × Bool × Int × Int × (List (dh)) × Bool):=if (l0.length:Int)<5 then (aW.j0 k l0 true) else (aW.j0 k l0 (((l0.length:Int) % 2) == 0))
def aW.T3:Bool × List (List Nat × List Nat):=(true,[([],[]),([0],[0]),([1],[1]),([],[]),([3],[3]),([4],[4]),([5],[5]),([],[]),([7],[7]),([8],[8]),([],[]),([10],[10]),([11],[11]),([],[]),([13],[13]),([14],[14]),([15],[15]),([2,6,9,12,16],[2,6,9,12,16]),([],[]),([18,17,0,1,2,3,4,5,6,7,8,9,10,11,12,13,14,15,16,17,18],[17,18])])
def aW.B3:List Nat:= [0,1,3,0,8,24,56,0,128,384,0,1024,3072,0,8192,24576,57344,131071,0,524287]
theorem aW.LQ:fG .any (opsOf Tryz.f61 3)=aW.T3:=by kernel_rfl
theorem aW.KJ:bM aW.T3.2 aW.B3=true:=by kernel_rfl
def aW.T7:Bool × List (List Nat × List Nat):=(true,[([],[]),([0],[0]),([],[]),([],[]),([2,3],[2,3]),([4],[4]),([],[]),([],[]),([7],[7]),([6,8],[6,8]),([9],[9]),([5,10],[5,10]),([11],[11]),([1,12],[1,12]),([0,1,2,3,4,5,6,7,8,9,10,11,12,13],[]),([14,13,13,0,1,2,3,4,5,6,7,8,9,10,11,12,13],[13,14])])
def aW.B7:List Nat:= [0,1,0,0,12,28,0,0,128,448,960,2044,4092,8191,16383,32767]
theorem aW.LU:fG .any (opsOf Tryz.f61 7)=aW.T7:=by kernel_rfl
theorem aW.KL:bM aW.T7.2 aW.B7=true:=by kernel_rfl
theorem aW.calls (k:Nat) (A0:Option Addr) (c0:Nat) (l0:List Int) (r1:Int) (r2:Bool) (r3:Int) (r4:Int) (r5:List (dh)) (r6:Bool) (w:World) (hr0:Kd.C (Kd.int .i64) w A0 l0.length l0) (hc0:l0.length≤c0) (h:aW.f k l0=some (r1,r2,r3,r4,r5,r6)):
  Calls Tryz.prog 61 #[.slice A0 l0.length c0] w fun e w'=> ∃ v4_:Value,e= .returned (.agg #[.int .i64 r1,.bool r2,.int .i64 r3,.int .i64 r4,v4_,.bool r6])∧Kd.R iP 121 w' w.heap.size (fun _=>True) v4_ r5∧Below w.heap.size w w':=by
 have hu58:=Tryz.underlying58
 have hu121:=Tryz.underlying121
 have HR0:=Am_ hr0
 have HC0:=Am_ hc0
 clear hr0 hc0
 have HB:=Am_ (Below.refl w.heap.size w)
 have H:(if (l0.length:Int)<5 then (aW.j0 k l0 true) else (aW.j0 k l0 (((l0.length:Int) % 2) == 0)))=some (r1,r2,r3,r4,r5,r6):=h
 clear h
 have HC2:=Am_ H
 clear H
 go_enter Tryz.func61,Tryz.ntmps61
 go_upto_region 1 with (first | ((with_reducible refine bX (N:=2) rfl ?_);(try (refine wP (by rfl) ?_;dsimp only));refine bO ?hg (N:=2) ?hd (cs:= #[.int .i64 0,.bool false,.int .i64 0,.int .i64 0,.slice none 0 0,.bool false]) (t:=58) ?hr ?_;(case hd=>rfl);(case hg=>rfl);(case hr=>first | (go_simp;done) | (go_simp;rfl));intro gb342 hg w3 hbox hb;have n0_:=Am_ (bC (by repeat (first | (with_reducible first | exact HB.out | apply ai | apply aj | apply ak) | exact HB.out)) hb);have n1_:=Am_ (hbox);have n2_:=Am_ ((by rw [hg];exact (aK (by repeat (first | (with_reducible first | exact HB.out | apply ai | apply aj | apply ak) | exact HB.out))):w.heap.size≤gb342));have n3_:=Am_ ((by rw [hg];exact (aK (by repeat (first | (with_reducible first | exact HB.out | apply ai | apply aj | apply ak) | exact HB.out))):w.heap.size≤gb342));clear HB;have HB:=n0_;have BK342:=n1_;have GW342:=n2_;have GE342:=n3_;clear n0_ n1_ n2_ n3_;clear hb hbox hg))
 (try simp only [Act.put,u1_,u2_,u3_])
 go_cut [13] (fun v13 wc=> ∃ (kq:Nat) (x13_1:Bool),v13= .bool x13_1∧ay (aW.j0 kq l0 x13_1=some (r1,r2,r3,r4,r5,r6))∧ay (kq≤k)∧ay (wc.heap[gb342]?=some (.cells #[.int .i64 0,.bool false,.int .i64 0,.int .i64 0,(.slice none 0 0),.bool false] 58 (0,0)))∧ay (Below w.heap.size w wc))
 case first=>
  have H:=HC2.out
  clear HC2
  by_cases c4:(l0.length:Int)<5
  ·rw [if_pos c4] at H
   have c4b0:decide ((l0.length:Int)<5)=true:=decide_eq_true c4
   have c4b1:decide (l0.length<5)=true:=decide_eq_true (by omega)
   clear c4
   (first | rw [c4b0] | (simp only [aI,aJ];rw [c4b0]) | skip)
   have H':=Am_ H
   clear H
   go_wp2
   go_meet
   case rel=>exact ⟨_,(true),(by first | rfl | (simp;done) | (simp [*];done)),H',⟨by first | omega | exact Nat.le_refl _⟩,⟨by (with_reducible repeat (first | refine aG ?_ _ | refine aH ?_ | refine aC ?_ _));exact BK342.out⟩,⟨by repeat (first | (with_reducible first | exact HB.out | apply ai | apply aj | apply ak | refine aD ?_ GE342.out) | exact HB.out)⟩⟩
  ·rw [if_neg c4] at H
   have c4b0:decide ((l0.length:Int)<5)=false:=decide_eq_false c4
   have c4b1:decide (l0.length<5)=false:=decide_eq_false (by omega)
   clear c4
   (first | rw [c4b0] | (simp only [aI,aJ];rw [c4b0]) | skip)
   have H':=Am_ H
   clear H
   go_wp2
   go_meet
   case rel=>exact ⟨_,((((l0.length:Int) % 2) == 0)),(by first | rfl | (simp;done) | (simp [*];done)),H',⟨by first | omega | exact Nat.le_refl _⟩,⟨by (with_reducible repeat (first | refine aG ?_ _ | refine aH ?_ | refine aC ?_ _));exact BK342.out⟩,⟨by repeat (first | (with_reducible first | exact HB.out | apply ai | apply aj | apply ak | refine aD ?_ GE342.out) | exact HB.out)⟩⟩
 case rest=>
  clear HC2
  try clear p2
  try clear c4
  try clear c4b0
  try clear c4b1
  obtain ⟨kq,x13_1,rfl,HA,HJ1,BK342,HB⟩:=hcut
  cases kq with
  | zero=>exact absurd HA.out (by simp [aW.j0])
  | succ kj1=>
   have H:=HA.out
   clear HA
   simp only [aW.j0] at H
   by_cases c5:x13_1=true
   ·subst c5
    have H1:(some (0,false,0,0,([]:List (dh)),false))=some (r1,r2,r3,r4,r5,r6):=by rw [if_pos rfl] at H;exact H
    clear H
    have H:=H1
    clear H1
    simp only [Option.some.injEq,Prod.mk.injEq] at H
    obtain ⟨rfl,rfl,rfl,rfl,rfl,rfl⟩:=H
    have hcz6_0:wc.cell? ⟨gb342,0,none⟩=some (.int .i64 0):=(af BK342.out 0).trans rfl
    have hcz6_1:wc.cell? ⟨gb342,1,none⟩=some (.bool false):=(af BK342.out 1).trans rfl
    have hcz6_2:wc.cell? ⟨gb342,2,none⟩=some (.int .i64 0):=(af BK342.out 2).trans rfl
    have hcz6_3:wc.cell? ⟨gb342,3,none⟩=some (.int .i64 0):=(af BK342.out 3).trans rfl
    have hcz6_4:wc.cell? ⟨gb342,4,none⟩=some (.slice none 0 0):=(af BK342.out 4).trans rfl
    have hcz6_5:wc.cell? ⟨gb342,5,none⟩=some (.bool false):=(af BK342.out 5).trans rfl
    have hfz6_0:=ah BK342.out 0
    have hfz6_1:=ah BK342.out 1
    have hfz6_2:=ah BK342.out 2
    have hfz6_3:=ah BK342.out 3
    have hfz6_4:=ah BK342.out 4
    have hfz6_5:=ah BK342.out 5
    go_wp2
    refine bodyPost_ret (results_cell_row rfl _ _ gb342 58 #[.int .i64 0,.bool false,.int .i64 0,.int .i64 0,.slice none 0 0,.bool false] (0,0) _ rfl (by (with_reducible repeat (first | refine aG ?_ _ | refine aH ?_ | refine aC ?_ _));refine dP (cs:= #[.int .i64 0,.bool false,.int .i64 0,.int .i64 0,.slice none 0 0,.bool false]) ?_ 5 _ rfl;(with_reducible repeat (first | refine aG ?_ _ | refine aH ?_ | refine aC ?_ _));refine dP (cs:= #[.int .i64 0,.bool false,.int .i64 0,.int .i64 0,.slice none 0 0,.bool false]) ?_ 4 _ rfl;(with_reducible repeat (first | refine aG ?_ _ | refine aH ?_ | refine aC ?_ _));refine dP (cs:= #[.int .i64 0,.bool false,.int .i64 0,.int .i64 0,.slice none 0 0,.bool false]) ?_ 3 _ rfl;(with_reducible repeat (first | refine aG ?_ _ | refine aH ?_ | refine aC ?_ _));refine dP (cs:= #[.int .i64 0,.bool false,.int .i64 0,.int .i64 0,.slice none 0 0,.bool false]) ?_ 2 _ rfl;(with_reducible repeat (first | refine aG ?_ _ | refine aH ?_ | refine aC ?_ _));refine dP (cs:= #[.int .i64 0,.bool false,.int .i64 0,.int .i64 0,.slice none 0 0,.bool false]) ?_ 1 _ rfl;(with_reducible repeat (first | refine aG ?_ _ | refine aH ?_ | refine aC ?_ _));refine dP (cs:= #[.int .i64 0,.bool false,.int .i64 0,.int .i64 0,.slice none 0 0,.bool false]) ?_ 0 _ rfl;(with_reducible repeat (first | refine aG ?_ _ | refine aH ?_ | refine aC ?_ _));exact BK342.out) Tryz.underlying58 rfl (by kernel_rfl)) rfl ?_
    exact ⟨_,by first | rfl | (simp [bq,bA]<;>rfl) | (simp [*,bq,bA]<;>rfl),by first | exact Kd.fB _ _ _ _ _ | exact Kd.vL _ _ _ _ _ | exact Kd.vP _ _ _ _ _ | exact Kd.qH _ _ _ _ _ | exact Kd.vO _ _ _ _ _,by repeat (first | (with_reducible first | exact HB.out | apply ai | apply aj | apply ak | refine aD ?_ GE342.out) | exact HB.out)⟩
   ·replace c5:=Bool.eq_false_iff.mpr c5
    subst c5
    have H1:(if 0<(l0.length:Int) then (if 1<(l0.length:Int) then (if 2<(l0.length:Int) then (if 3<(l0.length:Int) then (if 4<(l0.length:Int) then (aW.l0 kj1 l0 5 (rd l0 0) ((rd l0 1) == 1) (rd l0 2) (rd l0 3) ([]:List (dh)) ((rd l0 4) == 1)) else (none)) else (none)) else (none)) else (none)) else (none))=some (r1,r2,r3,r4,r5,r6):=by rw [if_neg (show ¬ (false=true) by decide)] at H;exact H
    clear H
    have H:=H1
    clear H1
    by_cases c7:0<(l0.length:Int)
    ·rw [if_pos c7] at H
     have c7b0:decide (0<(l0.length:Int))=true:=decide_eq_true c7
     have c7b1:decide (0<l0.length)=true:=decide_eq_true (by omega)
     clear c7
     by_cases c8:1<(l0.length:Int)
     ·rw [if_pos c8] at H
      have c8b0:decide (1<(l0.length:Int))=true:=decide_eq_true c8
      have c8b1:decide (1<l0.length)=true:=decide_eq_true (by omega)
      clear c8
      by_cases c9:2<(l0.length:Int)
      ·rw [if_pos c9] at H
       have c9b0:decide (2<(l0.length:Int))=true:=decide_eq_true c9
       have c9b1:decide (2<l0.length)=true:=decide_eq_true (by omega)
       clear c9
       by_cases c10:3<(l0.length:Int)
       ·rw [if_pos c10] at H
        have c10b0:decide (3<(l0.length:Int))=true:=decide_eq_true c10
        have c10b1:decide (3<l0.length)=true:=decide_eq_true (by omega)
        clear c10
        by_cases c11:4<(l0.length:Int)
        ·rw [if_pos c11] at H
         have c11b0:decide (4<(l0.length:Int))=true:=decide_eq_true c11
         have c11b1:decide (4<l0.length)=true:=decide_eq_true (by omega)
         clear c11
         have H':=Am_ H
         clear H
         try go_wp2
         have n0_:=Am_ (aH BK342.out)
         have n1_:=Am_ (ak HB.out)
         clear BK342
         clear HB
         have BK342:=n0_
         have HB:=n1_
         clear n0_ n1_
         have p343:0≤(0:Int):=(by omega)
         have q343:0<(l0.length:Int):=of_decide_eq_true (by first | (with_reducible assumption) | assumption)
         obtain ⟨ad343,e343,hx343_0⟩:=Kd.jJ HR0.out 0 p343 q343
         have hw343_0:=hx343_0
         (try rw [show ((0:Int)).toNat=0 from rfl] at hw343_0)
         (try rw [show 0*1=0 from rfl] at hw343_0)
         (try rw [Addr.add_zero'] at hw343_0)
         cases e343
         have qi343:(0<l0.length)=True:=eq_true (by omega)
         (try rw [show ((0:Int)).toNat=0 from rfl] at hx343_0)
         (try rw [Addr.add_zero'] at hx343_0)
         replace hx343_0:=(HB.out.cell (World.block_lt_of_cell? w _ hx343_0)).trans hx343_0
         replace p343:=eq_true p343
         replace q343:=eq_true q343
         have p344:0≤(1:Int):=(by omega)
         have q344:1<(l0.length:Int):=of_decide_eq_true (by first | (with_reducible assumption) | assumption)
         obtain ⟨ad344,e344,hx344_0⟩:=Kd.jJ HR0.out 1 p344 q344
         have hw344_0:=hx344_0
         (try rw [show ((1:Int)).toNat=1 from rfl] at hw344_0)
         (try rw [show 1*1=1 from rfl] at hw344_0)
         (try simp only [Nat.reduceMul,Nat.reduceEqDiff,Go.Addr.add,↓reduceIte] at hw344_0)
         obtain rfl:ad343=ad344:=(by injection e344)
         (try simp only [show (1:Int).toNat=1 from rfl,Nat.reduceMul,Nat.reduceEqDiff,Go.Addr.add,↓reduceIte] at hx344_0)
         have qi344:(1<l0.length)=True:=eq_true (by omega)
         (try rw [show ((1:Int)).toNat=1 from rfl] at hx344_0)
         replace hx344_0:=(HB.out.cell (World.block_lt_of_cell? w _ hx344_0)).trans hx344_0
         replace p344:=eq_true p344
         replace q344:=eq_true q344
         have p345:0≤(2:Int):=(by omega)
         have q345:2<(l0.length:Int):=of_decide_eq_true (by first | (with_reducible assumption) | assumption)
         obtain ⟨ad345,e345,hx345_0⟩:=Kd.jJ HR0.out 2 p345 q345
         have hw345_0:=hx345_0
         (try rw [show ((2:Int)).toNat=2 from rfl] at hw345_0)
         (try rw [show 2*1=2 from rfl] at hw345_0)
         (try simp only [Nat.reduceMul,Nat.reduceEqDiff,Go.Addr.add,↓reduceIte] at hw345_0)
         obtain rfl:ad343=ad345:=(by injection e345)
         (try simp only [show (2:Int).toNat=2 from rfl,Nat.reduceMul,Nat.reduceEqDiff,Go.Addr.add,↓reduceIte] at hx345_0)
         have qi345:(2<l0.length)=True:=eq_true (by omega)
         (try rw [show ((2:Int)).toNat=2 from rfl] at hx345_0)
         replace hx345_0:=(HB.out.cell (World.block_lt_of_cell? w _ hx345_0)).trans hx345_0
         replace p345:=eq_true p345
         replace q345:=eq_true q345
         have p346:0≤(3:Int):=(by omega)
         have q346:3<(l0.length:Int):=of_decide_eq_true (by first | (with_reducible assumption) | assumption)
         obtain ⟨ad346,e346,hx346_0⟩:=Kd.jJ HR0.out 3 p346 q346
         have hw346_0:=hx346_0
         (try rw [show ((3:Int)).toNat=3 from rfl] at hw346_0)
         (try rw [show 3*1=3 from rfl] at hw346_0)
         (try simp only [Nat.reduceMul,Nat.reduceEqDiff,Go.Addr.add,↓reduceIte] at hw346_0)
         obtain rfl:ad343=ad346:=(by injection e346)
         (try simp only [show (3:Int).toNat=3 from rfl,Nat.reduceMul,Nat.reduceEqDiff,Go.Addr.add,↓reduceIte] at hx346_0)
         have qi346:(3<l0.length)=True:=eq_true (by omega)
         (try rw [show ((3:Int)).toNat=3 from rfl] at hx346_0)
         replace hx346_0:=(HB.out.cell (World.block_lt_of_cell? w _ hx346_0)).trans hx346_0
         replace p346:=eq_true p346
         replace q346:=eq_true q346
         have p347:0≤(4:Int):=(by omega)
         have q347:4<(l0.length:Int):=of_decide_eq_true (by first | (with_reducible assumption) | assumption)
         obtain ⟨ad347,e347,hx347_0⟩:=Kd.jJ HR0.out 4 p347 q347
         have hw347_0:=hx347_0
         (try rw [show ((4:Int)).toNat=4 from rfl] at hw347_0)
         (try rw [show 4*1=4 from rfl] at hw347_0)
         (try simp only [Nat.reduceMul,Nat.reduceEqDiff,Go.Addr.add,↓reduceIte] at hw347_0)
         obtain rfl:ad343=ad347:=(by injection e347)
         (try simp only [show (4:Int).toNat=4 from rfl,Nat.reduceMul,Nat.reduceEqDiff,Go.Addr.add,↓reduceIte] at hx347_0)
         have qi347:(4<l0.length)=True:=eq_true (by omega)
         (try rw [show ((4:Int)).toNat=4 from rfl] at hx347_0)
         replace hx347_0:=(HB.out.cell (World.block_lt_of_cell? w _ hx347_0)).trans hx347_0
         replace p347:=eq_true p347
         replace q347:=eq_true q347
         refine jQ (n:=20) (S:=fun w'=>w'.cell? ad343=some (.int .i64 (rd l0 0))∧w'.cell? ⟨ad343.block,ad343.off+1,none⟩=some (.int .i64 (rd l0 1))∧w'.cell? ⟨ad343.block,ad343.off+2,none⟩=some (.int .i64 (rd l0 2))∧w'.cell? ⟨ad343.block,ad343.off+3,none⟩=some (.int .i64 (rd l0 3))∧w'.cell? ⟨ad343.block,ad343.off+4,none⟩=some (.int .i64 (rd l0 4))) (ds:= []) #[N_,N_,N_,N_,N_,N_,N_,N_,N_,N_,N_,N_,N_,N_,N_,N_,N_,N_,N_,N_] (by kernel_rfl) rfl rfl ⟨((HB.out.cell (World.block_lt_of_cell? w _ hw343_0)).trans hw343_0),((HB.out.cell (World.block_lt_of_cell? w _ hw344_0)).trans hw344_0),((HB.out.cell (World.block_lt_of_cell? w _ hw345_0)).trans hw345_0),((HB.out.cell (World.block_lt_of_cell? w _ hw346_0)).trans hw346_0),((HB.out.cell (World.block_lt_of_cell? w _ hw347_0)).trans hw347_0)⟩ (fun hHeld=>?_);refine gK aW.LQ aW.KJ (fun HT_ HW_=>?_)
         generalize wc.drew=w12 at BK342 HB hx343_0 hx344_0 hx345_0 hx346_0 hx347_0 hHeld ⊢
         refine di (i:=0) (N:=some 15) (v:=?_) (a':=?_) #[Y_,N_,N_,N_,N_,N_,N_,N_,N_,N_,N_,N_,N_,N_,N_,N_,N_,N_,N_,N_] rfl rfl (bE HT_.out (by kernel_rfl)) (fun _ _ _ h=>h) (Or.inl ⟨by rfl,?_⟩) ?_ ?_
         rotate_left; · intro w';go_simp;with_reducible rfl
         rotate_left; · simp only [Act.put,u1_,u2_,u3_,aI,aJ];rfl
         refine di (i:=1) (N:=some 16) (v:=?_) (a':=?_) #[Y_,Y_,N_,N_,N_,N_,N_,N_,N_,N_,N_,N_,N_,N_,N_,N_,N_,N_,N_,N_] rfl rfl (bE HT_.out (by kernel_rfl)) (fun _ _ _ h=>h) (Or.inl ⟨by rfl,?_⟩) ?_ ?_
         rotate_left; · intro w';go_simp;with_reducible rfl
         rotate_left; · simp only [Act.put,u1_,u2_,u3_,aI,aJ];rfl
         refine di (i:=3) (N:=some 18) (v:=?_) (a':=?_) #[Y_,Y_,N_,Y_,N_,N_,N_,N_,N_,N_,N_,N_,N_,N_,N_,N_,N_,N_,N_,N_] rfl rfl (bE HT_.out (by kernel_rfl)) (fun _ _ _ h=>h) (Or.inl ⟨by rfl,?_⟩) ?_ ?_
         rotate_left; · intro w';go_simp;with_reducible rfl
         rotate_left; · simp only [Act.put,u1_,u2_,u3_,aI,aJ];rfl
         refine di (i:=4) (N:=some 19) (v:=?_) (a':=?_) #[Y_,Y_,N_,Y_,Y_,N_,N_,N_,N_,N_,N_,N_,N_,N_,N_,N_,N_,N_,N_,N_] rfl rfl (bE HT_.out (by kernel_rfl)) (fun _ _ _ h=>h) (Or.inl ⟨by rfl,?_⟩) ?_ ?_
         rotate_left; · intro w';go_simp;with_reducible rfl
         rotate_left; · simp only [Act.put,u1_,u2_,u3_,aI,aJ];rfl
         refine di (i:=7) (N:=some 22) (v:=?_) (a':=?_) #[Y_,Y_,N_,Y_,Y_,N_,N_,Y_,N_,N_,N_,N_,N_,N_,N_,N_,N_,N_,N_,N_] rfl rfl (bE HT_.out (by kernel_rfl)) (fun _ _ _ h=>h) (Or.inl ⟨by rfl,?_⟩) ?_ ?_
         rotate_left; · intro w';go_simp;with_reducible rfl
         rotate_left; · simp only [Act.put,u1_,u2_,u3_,aI,aJ];rfl
         refine di (i:=8) (N:=some 23) (v:=?_) (a':=?_) #[Y_,Y_,N_,Y_,Y_,N_,N_,Y_,Y_,N_,N_,N_,N_,N_,N_,N_,N_,N_,N_,N_] rfl rfl (bE HT_.out (by kernel_rfl)) (fun _ _ _ h=>h) (Or.inl ⟨by rfl,?_⟩) ?_ ?_
         rotate_left; · intro w';go_simp;with_reducible rfl
         rotate_left; · simp only [Act.put,u1_,u2_,u3_,aI,aJ];rfl
         refine di (i:=10) (N:=some 25) (v:=?_) (a':=?_) #[Y_,Y_,N_,Y_,Y_,N_,N_,Y_,Y_,N_,Y_,N_,N_,N_,N_,N_,N_,N_,N_,N_] rfl rfl (bE HT_.out (by kernel_rfl)) (fun _ _ _ h=>h) (Or.inl ⟨by rfl,?_⟩) ?_ ?_
         rotate_left; · intro w';go_simp;with_reducible rfl
         rotate_left; · simp only [Act.put,u1_,u2_,u3_,aI,aJ];rfl
         refine di (i:=11) (N:=some 26) (v:=?_) (a':=?_) #[Y_,Y_,N_,Y_,Y_,N_,N_,Y_,Y_,N_,Y_,Y_,N_,N_,N_,N_,N_,N_,N_,N_] rfl rfl (bE HT_.out (by kernel_rfl)) (fun _ _ _ h=>h) (Or.inl ⟨by rfl,?_⟩) ?_ ?_
         rotate_left; · intro w';go_simp;with_reducible rfl
         rotate_left; · simp only [Act.put,u1_,u2_,u3_,aI,aJ];rfl
         refine di (i:=13) (N:=some 28) (v:=?_) (a':=?_) #[Y_,Y_,N_,Y_,Y_,N_,N_,Y_,Y_,N_,Y_,Y_,N_,Y_,N_,N_,N_,N_,N_,N_] rfl rfl (bE HT_.out (by kernel_rfl)) (fun _ _ _ h=>h) (Or.inl ⟨by rfl,?_⟩) ?_ ?_
         rotate_left; · intro w';go_simp;with_reducible rfl
         rotate_left; · simp only [Act.put,u1_,u2_,u3_,aI,aJ];rfl
         refine di (i:=14) (N:=some 29) (v:=?_) (a':=?_) #[Y_,Y_,N_,Y_,Y_,N_,N_,Y_,Y_,N_,Y_,Y_,N_,Y_,Y_,N_,N_,N_,N_,N_] rfl rfl (bE HT_.out (by kernel_rfl)) (fun _ _ _ h=>h) (Or.inl ⟨by rfl,?_⟩) ?_ ?_
         rotate_left; · intro w';go_simp;with_reducible rfl
         rotate_left; · simp only [Act.put,u1_,u2_,u3_,aI,aJ];rfl
         refine fH (i:=2) (N:=some 17) (v:=?_) (a':=?_) #[Y_,Y_,Y_,Y_,Y_,N_,N_,Y_,Y_,N_,Y_,Y_,N_,Y_,Y_,N_,N_,N_,N_,N_] rfl rfl (bZ HT_.out HW_.out (by kernel_rfl)) (fun _ _ _ h=>h) (Or.inl ⟨by rfl,?_⟩) hHeld ?_ ?_
         rotate_left; · rintro w' ⟨s0,s1,s2,s3,s4⟩;go_simp;with_reducible rfl
         rotate_left; · simp only [Act.put,u1_,u2_,u3_,aI,aJ];rfl
         refine fH (i:=5) (N:=some 20) (v:=?_) (a':=?_) #[Y_,Y_,Y_,Y_,Y_,Y_,N_,Y_,Y_,N_,Y_,Y_,N_,Y_,Y_,N_,N_,N_,N_,N_] rfl rfl (bZ HT_.out HW_.out (by kernel_rfl)) (fun _ _ _ h=>h) (Or.inl ⟨by rfl,?_⟩) hHeld ?_ ?_
         rotate_left; · rintro w' ⟨s0,s1,s2,s3,s4⟩;go_simp;with_reducible rfl
         rotate_left; · simp only [Act.put,u1_,u2_,u3_,aI,aJ];rfl
         refine di (i:=6) (N:=some 21) (v:=?_) (a':=?_) #[Y_,Y_,Y_,Y_,Y_,Y_,Y_,Y_,Y_,N_,Y_,Y_,N_,Y_,Y_,N_,N_,N_,N_,N_] rfl rfl (bE HT_.out (by kernel_rfl)) (fun _ _ _ h=>h) (Or.inl ⟨by rfl,?_⟩) ?_ ?_
         rotate_left; · intro w';go_simp;with_reducible rfl
         rotate_left; · simp only [Act.put,u1_,u2_,u3_,aI,aJ];rfl
         refine fH (i:=9) (N:=some 24) (v:=?_) (a':=?_) #[Y_,Y_,Y_,Y_,Y_,Y_,Y_,Y_,Y_,Y_,Y_,Y_,N_,Y_,Y_,N_,N_,N_,N_,N_] rfl rfl (bZ HT_.out HW_.out (by kernel_rfl)) (fun _ _ _ h=>h) (Or.inl ⟨by rfl,?_⟩) hHeld ?_ ?_
         rotate_left; · rintro w' ⟨s0,s1,s2,s3,s4⟩;go_simp;with_reducible rfl
         rotate_left; · simp only [Act.put,u1_,u2_,u3_,aI,aJ];rfl
         refine fH (i:=12) (N:=some 27) (v:=?_) (a':=?_) #[Y_,Y_,Y_,Y_,Y_,Y_,Y_,Y_,Y_,Y_,Y_,Y_,Y_,Y_,Y_,N_,N_,N_,N_,N_] rfl rfl (bZ HT_.out HW_.out (by kernel_rfl)) (fun _ _ _ h=>h) (Or.inl ⟨by rfl,?_⟩) hHeld ?_ ?_
         rotate_left; · rintro w' ⟨s0,s1,s2,s3,s4⟩;go_simp;with_reducible rfl
         rotate_left; · simp only [Act.put,u1_,u2_,u3_,aI,aJ];rfl
         refine fH (i:=15) (N:=some 30) (v:=?_) (a':=?_) #[Y_,Y_,Y_,Y_,Y_,Y_,Y_,Y_,Y_,Y_,Y_,Y_,Y_,Y_,Y_,Y_,N_,N_,N_,N_] rfl rfl (bZ HT_.out HW_.out (by kernel_rfl)) (fun _ _ _ h=>h) (Or.inl ⟨by rfl,?_⟩) hHeld ?_ ?_
         rotate_left; · rintro w' ⟨s0,s1,s2,s3,s4⟩;go_simp;with_reducible rfl
         rotate_left; · simp only [Act.put,u1_,u2_,u3_,aI,aJ];rfl
         refine di (i:=16) (N:=some 31) (v:=?_) (a':=?_) #[Y_,Y_,Y_,Y_,Y_,Y_,Y_,Y_,Y_,Y_,Y_,Y_,Y_,Y_,Y_,Y_,Y_,N_,N_,N_] rfl rfl (bE HT_.out (by kernel_rfl)) (fun _ _ _ h=>h) (Or.inl ⟨by rfl,?_⟩) ?_ ?_
         rotate_left; · intro w';go_simp;with_reducible rfl
         rotate_left; · simp only [Act.put,u1_,u2_,u3_,aI,aJ];rfl
         refine di (i:=17) (N:=some 32) (v:=?_) (a':=?_) #[Y_,Y_,Y_,Y_,Y_,Y_,Y_,Y_,Y_,Y_,Y_,Y_,Y_,Y_,Y_,Y_,Y_,Y_,N_,N_] rfl rfl (bE HT_.out (by kernel_rfl)) (fun _ _ _ h=>h) (Or.inl ⟨by rfl,?_⟩) ?_ ?_
         rotate_left; · intro w';go_simp;with_reducible rfl
         rotate_left; · simp only [Act.put,u1_,u2_,u3_,aI,aJ];rfl
         refine nJ (i:=18) (N:=some 3) #[Y_,Y_,Y_,Y_,Y_,Y_,Y_,Y_,Y_,Y_,Y_,Y_,Y_,Y_,Y_,Y_,Y_,Y_,Y_,N_] rfl rfl (eG HT_.out (by kernel_rfl)) (by decide) (fun K hK=>?_)
         refine Cw ?hg (N:=3) ?hd (cs:= #[.int .i64 0,.bool false,.int .i64 0,.int .i64 0,.slice none 0 0,.bool false]) (t:=58) ?hr ?_;(case hd=>rfl);(case hg=>rfl);(case hr=>first | (go_simp;done) | (go_simp;rfl))
         intro gb348 hg w13 hbox hb
         have n0_:=Am_ (bJ (g:=gb342) (o:= .cells #[.int .i64 0,.bool false,.int .i64 0,.int .i64 0,.slice none 0 0,.bool false] 58 (0,0)) (by (with_reducible repeat (first | refine aG ?_ _ | refine aH ?_ | refine aC ?_ _));exact BK342.out) hb)
         have n1_:=Am_ (bC (by repeat (first | (with_reducible first | exact HB.out | apply ai | apply aj | apply ak | refine aD ?_ GE342.out) | exact HB.out)) hb)
         have n2_:=Am_ (hbox)
         have n3_:=Am_ ((by rw [hg];exact (aK (by repeat (first | (with_reducible first | exact HB.out | apply ai | apply aj | apply ak | refine aD ?_ GE342.out) | exact HB.out))):w.heap.size≤gb348))
         have n4_:=Am_ ((by rw [hg];exact (aK (by repeat (first | (with_reducible first | exact HB.out | apply ai | apply aj | apply ak | refine aD ?_ GE342.out) | exact HB.out))):w.heap.size≤gb348))
         have n5_:=Am_ ((by rw [hg];exact Nat.ne_of_lt (bF (g:=gb342) (o:= .cells #[.int .i64 0,.bool false,.int .i64 0,.int .i64 0,.slice none 0 0,.bool false] 58 (0,0)) (by (with_reducible repeat (first | refine aG ?_ _ | refine aH ?_ | refine aC ?_ _));exact BK342.out)):gb342≠gb348))
         have n6_:=Am_ ((by rw [hg];exact Nat.ne_of_gt (bF (g:=gb342) (o:= .cells #[.int .i64 0,.bool false,.int .i64 0,.int .i64 0,.slice none 0 0,.bool false] 58 (0,0)) (by (with_reducible repeat (first | refine aG ?_ _ | refine aH ?_ | refine aC ?_ _));exact BK342.out)):gb348≠gb342))
         clear BK342
         clear HB
         have BK342:=n0_
         have HB:=n1_
         have BK348:=n2_
         have GW348:=n3_
         have GE348:=n4_
         have NB342_348:=n5_
         have NB348_342:=n6_
         clear n0_ n1_ n2_ n3_ n4_ n5_ n6_
         clear hb hbox hg
         refine hK.out _ _ ⟨((HB.out.cell (World.block_lt_of_cell? w _ hw343_0)).trans hw343_0),((HB.out.cell (World.block_lt_of_cell? w _ hw344_0)).trans hw344_0),((HB.out.cell (World.block_lt_of_cell? w _ hw345_0)).trans hw345_0),((HB.out.cell (World.block_lt_of_cell? w _ hw346_0)).trans hw346_0),((HB.out.cell (World.block_lt_of_cell? w _ hw347_0)).trans hw347_0)⟩ (fun hHeld=>?_)
         clear hK K
         refine bT (a':=?_) ?_ ?_
         rotate_left; · show Act.put _ (some 3) _=_;simp only [Act.put,u1_,u2_,u3_,aI,aJ];rfl
         refine nJ (i:=19) (N:=none) #[Y_,Y_,Y_,Y_,Y_,Y_,Y_,Y_,Y_,Y_,Y_,Y_,Y_,Y_,Y_,Y_,Y_,Y_,Y_,Y_] rfl rfl (eG HT_.out (by kernel_rfl)) (by decide) (fun K hK=>?_)
         have hs14:w13.cell? ⟨gb348,0,none⟩=some (.int .i64 0):=(af BK348.out 0).trans rfl
         have hfs14:=ah BK348.out 0
         have hns14_0:=NB342_348.out
         have hms14_0:=NB348_342.out
         have hs15:w13.cell? ⟨gb348,1,none⟩=some (.bool false):=(af BK348.out 1).trans rfl
         have hfs15:=ah BK348.out 1
         have hns15_0:=NB342_348.out
         have hms15_0:=NB348_342.out
         have hs16:w13.cell? ⟨gb348,2,none⟩=some (.int .i64 0):=(af BK348.out 2).trans rfl
         have hfs16:=ah BK348.out 2
         have hns16_0:=NB342_348.out
         have hms16_0:=NB348_342.out
         have hs17:w13.cell? ⟨gb348,3,none⟩=some (.int .i64 0):=(af BK348.out 3).trans rfl
         have hfs17:=ah BK348.out 3
         have hns17_0:=NB342_348.out
         have hms17_0:=NB348_342.out
         have hs18:w13.cell? ⟨gb348,4,none⟩=some (.slice none 0 0):=(af BK348.out 4).trans rfl
         have hfs18:=ah BK348.out 4
         have hns18_0:=NB342_348.out
         have hms18_0:=NB348_342.out
         have hs19:w13.cell? ⟨gb348,5,none⟩=some (.bool false):=(af BK348.out 5).trans rfl
         have hfs19:=ah BK348.out 5
         have hns19_0:=NB342_348.out
         have hms19_0:=NB348_342.out
         refine fJ (w1:=?_) (by rfl) rfl ?_ ?_
         rotate_left
         ·go_simp
          rfl
         refine hK.out _ _ ⟨((cell_far (p:=⟨gb348,_,none⟩) (by first | exact Nat.ne_of_lt (Nat.lt_of_lt_of_le (by have:=World.block_lt_of_cell? _ _ hw343_0;first | rwa [add_block] at this | exact this) GW348.out) | (rw [add_block];exact Nat.ne_of_lt (Nat.lt_of_lt_of_le (by have:=World.block_lt_of_cell? _ _ hw343_0;first | rwa [add_block] at this | exact this) GW348.out)) | (show (Addr.add _ _).block≠_;rw [add_block];exact Nat.ne_of_lt (Nat.lt_of_lt_of_le (by have:=World.block_lt_of_cell? _ _ hw343_0;first | rwa [add_block] at this | exact this) GW348.out)) | (dsimp only;exact Nat.ne_of_lt (Nat.lt_of_lt_of_le (by have:=World.block_lt_of_cell? _ _ hw343_0;first | rwa [add_block] at this | exact this) GW348.out))) _).trans (((cell_far (p:=⟨gb348,_,none⟩) (by first | exact Nat.ne_of_lt (Nat.lt_of_lt_of_le (by have:=World.block_lt_of_cell? _ _ hw343_0;first | rwa [add_block] at this | exact this) GW348.out) | (rw [add_block];exact Nat.ne_of_lt (Nat.lt_of_lt_of_le (by have:=World.block_lt_of_cell? _ _ hw343_0;first | rwa [add_block] at this | exact this) GW348.out)) | (show (Addr.add _ _).block≠_;rw [add_block];exact Nat.ne_of_lt (Nat.lt_of_lt_of_le (by have:=World.block_lt_of_cell? _ _ hw343_0;first | rwa [add_block] at this | exact this) GW348.out)) | (dsimp only;exact Nat.ne_of_lt (Nat.lt_of_lt_of_le (by have:=World.block_lt_of_cell? _ _ hw343_0;first | rwa [add_block] at this | exact this) GW348.out))) _).trans (((cell_far (p:=⟨gb348,_,none⟩) (by first | exact Nat.ne_of_lt (Nat.lt_of_lt_of_le (by have:=World.block_lt_of_cell? _ _ hw343_0;first | rwa [add_block] at this | exact this) GW348.out) | (rw [add_block];exact Nat.ne_of_lt (Nat.lt_of_lt_of_le (by have:=World.block_lt_of_cell? _ _ hw343_0;first | rwa [add_block] at this | exact this) GW348.out)) | (show (Addr.add _ _).block≠_;rw [add_block];exact Nat.ne_of_lt (Nat.lt_of_lt_of_le (by have:=World.block_lt_of_cell? _ _ hw343_0;first | rwa [add_block] at this | exact this) GW348.out)) | (dsimp only;exact Nat.ne_of_lt (Nat.lt_of_lt_of_le (by have:=World.block_lt_of_cell? _ _ hw343_0;first | rwa [add_block] at this | exact this) GW348.out))) _).trans (((cell_far (p:=⟨gb348,_,none⟩) (by first | exact Nat.ne_of_lt (Nat.lt_of_lt_of_le (by have:=World.block_lt_of_cell? _ _ hw343_0;first | rwa [add_block] at this | exact this) GW348.out) | (rw [add_block];exact Nat.ne_of_lt (Nat.lt_of_lt_of_le (by have:=World.block_lt_of_cell? _ _ hw343_0;first | rwa [add_block] at this | exact this) GW348.out)) | (show (Addr.add _ _).block≠_;rw [add_block];exact Nat.ne_of_lt (Nat.lt_of_lt_of_le (by have:=World.block_lt_of_cell? _ _ hw343_0;first | rwa [add_block] at this | exact this) GW348.out)) | (dsimp only;exact Nat.ne_of_lt (Nat.lt_of_lt_of_le (by have:=World.block_lt_of_cell? _ _ hw343_0;first | rwa [add_block] at this | exact this) GW348.out))) _).trans (((cell_far (p:=⟨gb348,_,none⟩) (by first | exact Nat.ne_of_lt (Nat.lt_of_lt_of_le (by have:=World.block_lt_of_cell? _ _ hw343_0;first | rwa [add_block] at this | exact this) GW348.out) | (rw [add_block];exact Nat.ne_of_lt (Nat.lt_of_lt_of_le (by have:=World.block_lt_of_cell? _ _ hw343_0;first | rwa [add_block] at this | exact this) GW348.out)) | (show (Addr.add _ _).block≠_;rw [add_block];exact Nat.ne_of_lt (Nat.lt_of_lt_of_le (by have:=World.block_lt_of_cell? _ _ hw343_0;first | rwa [add_block] at this | exact this) GW348.out)) | (dsimp only;exact Nat.ne_of_lt (Nat.lt_of_lt_of_le (by have:=World.block_lt_of_cell? _ _ hw343_0;first | rwa [add_block] at this | exact this) GW348.out))) _).trans (((cell_far (p:=⟨gb348,_,none⟩) (by first | exact Nat.ne_of_lt (Nat.lt_of_lt_of_le (by have:=World.block_lt_of_cell? _ _ hw343_0;first | rwa [add_block] at this | exact this) GW348.out) | (rw [add_block];exact Nat.ne_of_lt (Nat.lt_of_lt_of_le (by have:=World.block_lt_of_cell? _ _ hw343_0;first | rwa [add_block] at this | exact this) GW348.out)) | (show (Addr.add _ _).block≠_;rw [add_block];exact Nat.ne_of_lt (Nat.lt_of_lt_of_le (by have:=World.block_lt_of_cell? _ _ hw343_0;first | rwa [add_block] at this | exact this) GW348.out)) | (dsimp only;exact Nat.ne_of_lt (Nat.lt_of_lt_of_le (by have:=World.block_lt_of_cell? _ _ hw343_0;first | rwa [add_block] at this | exact this) GW348.out))) _).trans (hHeld.1)))))))))))),((cell_far (p:=⟨gb348,_,none⟩) (by first | exact Nat.ne_of_lt (Nat.lt_of_lt_of_le (by have:=World.block_lt_of_cell? _ _ hw344_0;first | rwa [add_block] at this | exact this) GW348.out) | (rw [add_block];exact Nat.ne_of_lt (Nat.lt_of_lt_of_le (by have:=World.block_lt_of_cell? _ _ hw344_0;first | rwa [add_block] at this | exact this) GW348.out)) | (show (Addr.add _ _).block≠_;rw [add_block];exact Nat.ne_of_lt (Nat.lt_of_lt_of_le (by have:=World.block_lt_of_cell? _ _ hw344_0;first | rwa [add_block] at this | exact this) GW348.out)) | (dsimp only;exact Nat.ne_of_lt (Nat.lt_of_lt_of_le (by have:=World.block_lt_of_cell? _ _ hw344_0;first | rwa [add_block] at this | exact this) GW348.out))) _).trans (((cell_far (p:=⟨gb348,_,none⟩) (by first | exact Nat.ne_of_lt (Nat.lt_of_lt_of_le (by have:=World.block_lt_of_cell? _ _ hw344_0;first | rwa [add_block] at this | exact this) GW348.out) | (rw [add_block];exact Nat.ne_of_lt (Nat.lt_of_lt_of_le (by have:=World.block_lt_of_cell? _ _ hw344_0;first | rwa [add_block] at this | exact this) GW348.out)) | (show (Addr.add _ _).block≠_;rw [add_block];exact Nat.ne_of_lt (Nat.lt_of_lt_of_le (by have:=World.block_lt_of_cell? _ _ hw344_0;first | rwa [add_block] at this | exact this) GW348.out)) | (dsimp only;exact Nat.ne_of_lt (Nat.lt_of_lt_of_le (by have:=World.block_lt_of_cell? _ _ hw344_0;first | rwa [add_block] at this | exact this) GW348.out))) _).trans (((cell_far (p:=⟨gb348,_,none⟩) (by first | exact Nat.ne_of_lt (Nat.lt_of_lt_of_le (by have:=World.block_lt_of_cell? _ _ hw344_0;first | rwa [add_block] at this | exact this) GW348.out) | (rw [add_block];exact Nat.ne_of_lt (Nat.lt_of_lt_of_le (by have:=World.block_lt_of_cell? _ _ hw344_0;first | rwa [add_block] at this | exact this) GW348.out)) | (show (Addr.add _ _).block≠_;rw [add_block];exact Nat.ne_of_lt (Nat.lt_of_lt_of_le (by have:=World.block_lt_of_cell? _ _ hw344_0;first | rwa [add_block] at this | exact this) GW348.out)) | (dsimp only;exact Nat.ne_of_lt (Nat.lt_of_lt_of_le (by have:=World.block_lt_of_cell? _ _ hw344_0;first | rwa [add_block] at this | exact this) GW348.out))) _).trans (((cell_far (p:=⟨gb348,_,none⟩) (by first | exact Nat.ne_of_lt (Nat.lt_of_lt_of_le (by have:=World.block_lt_of_cell? _ _ hw344_0;first | rwa [add_block] at this | exact this) GW348.out) | (rw [add_block];exact Nat.ne_of_lt (Nat.lt_of_lt_of_le (by have:=World.block_lt_of_cell? _ _ hw344_0;first | rwa [add_block] at this | exact this) GW348.out)) | (show (Addr.add _ _).block≠_;rw [add_block];exact Nat.ne_of_lt (Nat.lt_of_lt_of_le (by have:=World.block_lt_of_cell? _ _ hw344_0;first | rwa [add_block] at this | exact this) GW348.out)) | (dsimp only;exact Nat.ne_of_lt (Nat.lt_of_lt_of_le (by have:=World.block_lt_of_cell? _ _ hw344_0;first | rwa [add_block] at this | exact this) GW348.out))) _).trans (((cell_far (p:=⟨gb348,_,none⟩) (by first | exact Nat.ne_of_lt (Nat.lt_of_lt_of_le (by have:=World.block_lt_of_cell? _ _ hw344_0;first | rwa [add_block] at this | exact this) GW348.out) | (rw [add_block];exact Nat.ne_of_lt (Nat.lt_of_lt_of_le (by have:=World.block_lt_of_cell? _ _ hw344_0;first | rwa [add_block] at this | exact this) GW348.out)) | (show (Addr.add _ _).block≠_;rw [add_block];exact Nat.ne_of_lt (Nat.lt_of_lt_of_le (by have:=World.block_lt_of_cell? _ _ hw344_0;first | rwa [add_block] at this | exact this) GW348.out)) | (dsimp only;exact Nat.ne_of_lt (Nat.lt_of_lt_of_le (by have:=World.block_lt_of_cell? _ _ hw344_0;first | rwa [add_block] at this | exact this) GW348.out))) _).trans (((cell_far (p:=⟨gb348,_,none⟩) (by first | exact Nat.ne_of_lt (Nat.lt_of_lt_of_le (by have:=World.block_lt_of_cell? _ _ hw344_0;first | rwa [add_block] at this | exact this) GW348.out) | (rw [add_block];exact Nat.ne_of_lt (Nat.lt_of_lt_of_le (by have:=World.block_lt_of_cell? _ _ hw344_0;first | rwa [add_block] at this | exact this) GW348.out)) | (show (Addr.add _ _).block≠_;rw [add_block];exact Nat.ne_of_lt (Nat.lt_of_lt_of_le (by have:=World.block_lt_of_cell? _ _ hw344_0;first | rwa [add_block] at this | exact this) GW348.out)) | (dsimp only;exact Nat.ne_of_lt (Nat.lt_of_lt_of_le (by have:=World.block_lt_of_cell? _ _ hw344_0;first | rwa [add_block] at this | exact this) GW348.out))) _).trans (hHeld.2.1)))))))))))),((cell_far (p:=⟨gb348,_,none⟩) (by first | exact Nat.ne_of_lt (Nat.lt_of_lt_of_le (by have:=World.block_lt_of_cell? _ _ hw345_0;first | rwa [add_block] at this | exact this) GW348.out) | (rw [add_block];exact Nat.ne_of_lt (Nat.lt_of_lt_of_le (by have:=World.block_lt_of_cell? _ _ hw345_0;first | rwa [add_block] at this | exact this) GW348.out)) | (show (Addr.add _ _).block≠_;rw [add_block];exact Nat.ne_of_lt (Nat.lt_of_lt_of_le (by have:=World.block_lt_of_cell? _ _ hw345_0;first | rwa [add_block] at this | exact this) GW348.out)) | (dsimp only;exact Nat.ne_of_lt (Nat.lt_of_lt_of_le (by have:=World.block_lt_of_cell? _ _ hw345_0;first | rwa [add_block] at this | exact this) GW348.out))) _).trans (((cell_far (p:=⟨gb348,_,none⟩) (by first | exact Nat.ne_of_lt (Nat.lt_of_lt_of_le (by have:=World.block_lt_of_cell? _ _ hw345_0;first | rwa [add_block] at this | exact this) GW348.out) | (rw [add_block];exact Nat.ne_of_lt (Nat.lt_of_lt_of_le (by have:=World.block_lt_of_cell? _ _ hw345_0;first | rwa [add_block] at this | exact this) GW348.out)) | (show (Addr.add _ _).block≠_;rw [add_block];exact Nat.ne_of_lt (Nat.lt_of_lt_of_le (by have:=World.block_lt_of_cell? _ _ hw345_0;first | rwa [add_block] at this | exact this) GW348.out)) | (dsimp only;exact Nat.ne_of_lt (Nat.lt_of_lt_of_le (by have:=World.block_lt_of_cell? _ _ hw345_0;first | rwa [add_block] at this | exact this) GW348.out))) _).trans (((cell_far (p:=⟨gb348,_,none⟩) (by first | exact Nat.ne_of_lt (Nat.lt_of_lt_of_le (by have:=World.block_lt_of_cell? _ _ hw345_0;first | rwa [add_block] at this | exact this) GW348.out) | (rw [add_block];exact Nat.ne_of_lt (Nat.lt_of_lt_of_le (by have:=World.block_lt_of_cell? _ _ hw345_0;first | rwa [add_block] at this | exact this) GW348.out)) | (show (Addr.add _ _).block≠_;rw [add_block];exact Nat.ne_of_lt (Nat.lt_of_lt_of_le (by have:=World.block_lt_of_cell? _ _ hw345_0;first | rwa [add_block] at this | exact this) GW348.out)) | (dsimp only;exact Nat.ne_of_lt (Nat.lt_of_lt_of_le (by have:=World.block_lt_of_cell? _ _ hw345_0;first | rwa [add_block] at this | exact this) GW348.out))) _).trans (((cell_far (p:=⟨gb348,_,none⟩) (by first | exact Nat.ne_of_lt (Nat.lt_of_lt_of_le (by have:=World.block_lt_of_cell? _ _ hw345_0;first | rwa [add_block] at this | exact this) GW348.out) | (rw [add_block];exact Nat.ne_of_lt (Nat.lt_of_lt_of_le (by have:=World.block_lt_of_cell? _ _ hw345_0;first | rwa [add_block] at this | exact this) GW348.out)) | (show (Addr.add _ _).block≠_;rw [add_block];exact Nat.ne_of_lt (Nat.lt_of_lt_of_le (by have:=World.block_lt_of_cell? _ _ hw345_0;first | rwa [add_block] at this | exact this) GW348.out)) | (dsimp only;exact Nat.ne_of_lt (Nat.lt_of_lt_of_le (by have:=World.block_lt_of_cell? _ _ hw345_0;first | rwa [add_block] at this | exact this) GW348.out))) _).trans (((cell_far (p:=⟨gb348,_,none⟩) (by first | exact Nat.ne_of_lt (Nat.lt_of_lt_of_le (by have:=World.block_lt_of_cell? _ _ hw345_0;first | rwa [add_block] at this | exact this) GW348.out) | (rw [add_block];exact Nat.ne_of_lt (Nat.lt_of_lt_of_le (by have:=World.block_lt_of_cell? _ _ hw345_0;first | rwa [add_block] at this | exact this) GW348.out)) | (show (Addr.add _ _).block≠_;rw [add_block];exact Nat.ne_of_lt (Nat.lt_of_lt_of_le (by have:=World.block_lt_of_cell? _ _ hw345_0;first | rwa [add_block] at this | exact this) GW348.out)) | (dsimp only;exact Nat.ne_of_lt (Nat.lt_of_lt_of_le (by have:=World.block_lt_of_cell? _ _ hw345_0;first | rwa [add_block] at this | exact this) GW348.out))) _).trans (((cell_far (p:=⟨gb348,_,none⟩) (by first | exact Nat.ne_of_lt (Nat.lt_of_lt_of_le (by have:=World.block_lt_of_cell? _ _ hw345_0;first | rwa [add_block] at this | exact this) GW348.out) | (rw [add_block];exact Nat.ne_of_lt (Nat.lt_of_lt_of_le (by have:=World.block_lt_of_cell? _ _ hw345_0;first | rwa [add_block] at this | exact this) GW348.out)) | (show (Addr.add _ _).block≠_;rw [add_block];exact Nat.ne_of_lt (Nat.lt_of_lt_of_le (by have:=World.block_lt_of_cell? _ _ hw345_0;first | rwa [add_block] at this | exact this) GW348.out)) | (dsimp only;exact Nat.ne_of_lt (Nat.lt_of_lt_of_le (by have:=World.block_lt_of_cell? _ _ hw345_0;first | rwa [add_block] at this | exact this) GW348.out))) _).trans (hHeld.2.2.1)))))))))))),((cell_far (p:=⟨gb348,_,none⟩) (by first | exact Nat.ne_of_lt (Nat.lt_of_lt_of_le (by have:=World.block_lt_of_cell? _ _ hw346_0;first | rwa [add_block] at this | exact this) GW348.out) | (rw [add_block];exact Nat.ne_of_lt (Nat.lt_of_lt_of_le (by have:=World.block_lt_of_cell? _ _ hw346_0;first | rwa [add_block] at this | exact this) GW348.out)) | (show (Addr.add _ _).block≠_;rw [add_block];exact Nat.ne_of_lt (Nat.lt_of_lt_of_le (by have:=World.block_lt_of_cell? _ _ hw346_0;first | rwa [add_block] at this | exact this) GW348.out)) | (dsimp only;exact Nat.ne_of_lt (Nat.lt_of_lt_of_le (by have:=World.block_lt_of_cell? _ _ hw346_0;first | rwa [add_block] at this | exact this) GW348.out))) _).trans (((cell_far (p:=⟨gb348,_,none⟩) (by first | exact Nat.ne_of_lt (Nat.lt_of_lt_of_le (by have:=World.block_lt_of_cell? _ _ hw346_0;first | rwa [add_block] at this | exact this) GW348.out) | (rw [add_block];exact Nat.ne_of_lt (Nat.lt_of_lt_of_le (by have:=World.block_lt_of_cell? _ _ hw346_0;first | rwa [add_block] at this | exact this) GW348.out)) | (show (Addr.add _ _).block≠_;rw [add_block];exact Nat.ne_of_lt (Nat.lt_of_lt_of_le (by have:=World.block_lt_of_cell? _ _ hw346_0;first | rwa [add_block] at this | exact this) GW348.out)) | (dsimp only;exact Nat.ne_of_lt (Nat.lt_of_lt_of_le (by have:=World.block_lt_of_cell? _ _ hw346_0;first | rwa [add_block] at this | exact this) GW348.out))) _).trans (((cell_far (p:=⟨gb348,_,none⟩) (by first | exact Nat.ne_of_lt (Nat.lt_of_lt_of_le (by have:=World.block_lt_of_cell? _ _ hw346_0;first | rwa [add_block] at this | exact this) GW348.out) | (rw [add_block];exact Nat.ne_of_lt (Nat.lt_of_lt_of_le (by have:=World.block_lt_of_cell? _ _ hw346_0;first | rwa [add_block] at this | exact this) GW348.out)) | (show (Addr.add _ _).block≠_;rw [add_block];exact Nat.ne_of_lt (Nat.lt_of_lt_of_le (by have:=World.block_lt_of_cell? _ _ hw346_0;first | rwa [add_block] at this | exact this) GW348.out)) | (dsimp only;exact Nat.ne_of_lt (Nat.lt_of_lt_of_le (by have:=World.block_lt_of_cell? _ _ hw346_0;first | rwa [add_block] at this | exact this) GW348.out))) _).trans (((cell_far (p:=⟨gb348,_,none⟩) (by first | exact Nat.ne_of_lt (Nat.lt_of_lt_of_le (by have:=World.block_lt_of_cell? _ _ hw346_0;first | rwa [add_block] at this | exact this) GW348.out) | (rw [add_block];exact Nat.ne_of_lt (Nat.lt_of_lt_of_le (by have:=World.block_lt_of_cell? _ _ hw346_0;first | rwa [add_block] at this | exact this) GW348.out)) | (show (Addr.add _ _).block≠_;rw [add_block];exact Nat.ne_of_lt (Nat.lt_of_lt_of_le (by have:=World.block_lt_of_cell? _ _ hw346_0;first | rwa [add_block] at this | exact this) GW348.out)) | (dsimp only;exact Nat.ne_of_lt (Nat.lt_of_lt_of_le (by have:=World.block_lt_of_cell? _ _ hw346_0;first | rwa [add_block] at this | exact this) GW348.out))) _).trans (((cell_far (p:=⟨gb348,_,none⟩) (by first | exact Nat.ne_of_lt (Nat.lt_of_lt_of_le (by have:=World.block_lt_of_cell? _ _ hw346_0;first | rwa [add_block] at this | exact this) GW348.out) | (rw [add_block];exact Nat.ne_of_lt (Nat.lt_of_lt_of_le (by have:=World.block_lt_of_cell? _ _ hw346_0;first | rwa [add_block] at this | exact this) GW348.out)) | (show (Addr.add _ _).block≠_;rw [add_block];exact Nat.ne_of_lt (Nat.lt_of_lt_of_le (by have:=World.block_lt_of_cell? _ _ hw346_0;first | rwa [add_block] at this | exact this) GW348.out)) | (dsimp only;exact Nat.ne_of_lt (Nat.lt_of_lt_of_le (by have:=World.block_lt_of_cell? _ _ hw346_0;first | rwa [add_block] at this | exact this) GW348.out))) _).trans (((cell_far (p:=⟨gb348,_,none⟩) (by first | exact Nat.ne_of_lt (Nat.lt_of_lt_of_le (by have:=World.block_lt_of_cell? _ _ hw346_0;first | rwa [add_block] at this | exact this) GW348.out) | (rw [add_block];exact Nat.ne_of_lt (Nat.lt_of_lt_of_le (by have:=World.block_lt_of_cell? _ _ hw346_0;first | rwa [add_block] at this | exact this) GW348.out)) | (show (Addr.add _ _).block≠_;rw [add_block];exact Nat.ne_of_lt (Nat.lt_of_lt_of_le (by have:=World.block_lt_of_cell? _ _ hw346_0;first | rwa [add_block] at this | exact this) GW348.out)) | (dsimp only;exact Nat.ne_of_lt (Nat.lt_of_lt_of_le (by have:=World.block_lt_of_cell? _ _ hw346_0;first | rwa [add_block] at this | exact this) GW348.out))) _).trans (hHeld.2.2.2.1)))))))))))),((cell_far (p:=⟨gb348,_,none⟩) (by first | exact Nat.ne_of_lt (Nat.lt_of_lt_of_le (by have:=World.block_lt_of_cell? _ _ hw347_0;first | rwa [add_block] at this | exact this) GW348.out) | (rw [add_block];exact Nat.ne_of_lt (Nat.lt_of_lt_of_le (by have:=World.block_lt_of_cell? _ _ hw347_0;first | rwa [add_block] at this | exact this) GW348.out)) | (show (Addr.add _ _).block≠_;rw [add_block];exact Nat.ne_of_lt (Nat.lt_of_lt_of_le (by have:=World.block_lt_of_cell? _ _ hw347_0;first | rwa [add_block] at this | exact this) GW348.out)) | (dsimp only;exact Nat.ne_of_lt (Nat.lt_of_lt_of_le (by have:=World.block_lt_of_cell? _ _ hw347_0;first | rwa [add_block] at this | exact this) GW348.out))) _).trans (((cell_far (p:=⟨gb348,_,none⟩) (by first | exact Nat.ne_of_lt (Nat.lt_of_lt_of_le (by have:=World.block_lt_of_cell? _ _ hw347_0;first | rwa [add_block] at this | exact this) GW348.out) | (rw [add_block];exact Nat.ne_of_lt (Nat.lt_of_lt_of_le (by have:=World.block_lt_of_cell? _ _ hw347_0;first | rwa [add_block] at this | exact this) GW348.out)) | (show (Addr.add _ _).block≠_;rw [add_block];exact Nat.ne_of_lt (Nat.lt_of_lt_of_le (by have:=World.block_lt_of_cell? _ _ hw347_0;first | rwa [add_block] at this | exact this) GW348.out)) | (dsimp only;exact Nat.ne_of_lt (Nat.lt_of_lt_of_le (by have:=World.block_lt_of_cell? _ _ hw347_0;first | rwa [add_block] at this | exact this) GW348.out))) _).trans (((cell_far (p:=⟨gb348,_,none⟩) (by first | exact Nat.ne_of_lt (Nat.lt_of_lt_of_le (by have:=World.block_lt_of_cell? _ _ hw347_0;first | rwa [add_block] at this | exact this) GW348.out) | (rw [add_block];exact Nat.ne_of_lt (Nat.lt_of_lt_of_le (by have:=World.block_lt_of_cell? _ _ hw347_0;first | rwa [add_block] at this | exact this) GW348.out)) | (show (Addr.add _ _).block≠_;rw [add_block];exact Nat.ne_of_lt (Nat.lt_of_lt_of_le (by have:=World.block_lt_of_cell? _ _ hw347_0;first | rwa [add_block] at this | exact this) GW348.out)) | (dsimp only;exact Nat.ne_of_lt (Nat.lt_of_lt_of_le (by have:=World.block_lt_of_cell? _ _ hw347_0;first | rwa [add_block] at this | exact this) GW348.out))) _).trans (((cell_far (p:=⟨gb348,_,none⟩) (by first | exact Nat.ne_of_lt (Nat.lt_of_lt_of_le (by have:=World.block_lt_of_cell? _ _ hw347_0;first | rwa [add_block] at this | exact this) GW348.out) | (rw [add_block];exact Nat.ne_of_lt (Nat.lt_of_lt_of_le (by have:=World.block_lt_of_cell? _ _ hw347_0;first | rwa [add_block] at this | exact this) GW348.out)) | (show (Addr.add _ _).block≠_;rw [add_block];exact Nat.ne_of_lt (Nat.lt_of_lt_of_le (by have:=World.block_lt_of_cell? _ _ hw347_0;first | rwa [add_block] at this | exact this) GW348.out)) | (dsimp only;exact Nat.ne_of_lt (Nat.lt_of_lt_of_le (by have:=World.block_lt_of_cell? _ _ hw347_0;first | rwa [add_block] at this | exact this) GW348.out))) _).trans (((cell_far (p:=⟨gb348,_,none⟩) (by first | exact Nat.ne_of_lt (Nat.lt_of_lt_of_le (by have:=World.block_lt_of_cell? _ _ hw347_0;first | rwa [add_block] at this | exact this) GW348.out) | (rw [add_block];exact Nat.ne_of_lt (Nat.lt_of_lt_of_le (by have:=World.block_lt_of_cell? _ _ hw347_0;first | rwa [add_block] at this | exact this) GW348.out)) | (show (Addr.add _ _).block≠_;rw [add_block];exact Nat.ne_of_lt (Nat.lt_of_lt_of_le (by have:=World.block_lt_of_cell? _ _ hw347_0;first | rwa [add_block] at this | exact this) GW348.out)) | (dsimp only;exact Nat.ne_of_lt (Nat.lt_of_lt_of_le (by have:=World.block_lt_of_cell? _ _ hw347_0;first | rwa [add_block] at this | exact this) GW348.out))) _).trans (((cell_far (p:=⟨gb348,_,none⟩) (by first | exact Nat.ne_of_lt (Nat.lt_of_lt_of_le (by have:=World.block_lt_of_cell? _ _ hw347_0;first | rwa [add_block] at this | exact this) GW348.out) | (rw [add_block];exact Nat.ne_of_lt (Nat.lt_of_lt_of_le (by have:=World.block_lt_of_cell? _ _ hw347_0;first | rwa [add_block] at this | exact this) GW348.out)) | (show (Addr.add _ _).block≠_;rw [add_block];exact Nat.ne_of_lt (Nat.lt_of_lt_of_le (by have:=World.block_lt_of_cell? _ _ hw347_0;first | rwa [add_block] at this | exact this) GW348.out)) | (dsimp only;exact Nat.ne_of_lt (Nat.lt_of_lt_of_le (by have:=World.block_lt_of_cell? _ _ hw347_0;first | rwa [add_block] at this | exact this) GW348.out))) _).trans (hHeld.2.2.2.2))))))))))))⟩ (fun hHeld=>?_)
         clear hK K
         refine dN (bQ HT_.out (by kernel_rfl)) ?_
         try go_wp2
         go_loopg [4] kj1 (fun kq v4 w'=> ∃ (x4_2:Int) (x349004_2:List (dh)) (u349004:Value),v4= .int .i64 x4_2∧ay (aW.l0 kq l0 x4_2 (rd l0 0) ((rd l0 1) == 1) (rd l0 2) (rd l0 3) x349004_2 ((rd l0 4) == 1)=some (r1,r2,r3,r4,r5,r6))∧ay (kq≤kj1)∧ay (Kd.R iP 121 w' w.heap.size (fun _=>True) u349004 x349004_2)∧ay (w'.heap[gb342]?=some (.cells #[.int .i64 0,.bool false,.int .i64 0,.int .i64 0,(.slice none 0 0),.bool false] 58 (0,0)))∧ay (w'.heap[gb348]?=some (.cells #[.int .i64 (rd l0 0),.bool ((rd l0 1) == 1),.int .i64 (rd l0 2),.int .i64 (rd l0 3),u349004,.bool ((rd l0 4) == 1)] 58 (0,0)))∧ay (Below w.heap.size w w'))
         case atStart=>exact ⟨(5),(([]:List (dh))),(.slice none 0 0),(by first | rfl | (simp;done) | (simp [*];done)),H',⟨Nat.le_refl _⟩,⟨by first | exact Kd.fB _ _ _ _ _ | exact Kd.vL _ _ _ _ _ | exact Kd.vP _ _ _ _ _ | exact Kd.qH _ _ _ _ _ | exact Kd.vO _ _ _ _ _⟩,⟨by (with_reducible repeat (first | refine aG ?_ _ | refine aH ?_ | refine aC ?_ _));refine dB ?_ NB342_348.out _;(with_reducible repeat (first | refine aG ?_ _ | refine aH ?_ | refine aC ?_ _));refine dB ?_ NB342_348.out _;(with_reducible repeat (first | refine aG ?_ _ | refine aH ?_ | refine aC ?_ _));refine dB ?_ NB342_348.out _;(with_reducible repeat (first | refine aG ?_ _ | refine aH ?_ | refine aC ?_ _));refine dB ?_ NB342_348.out _;(with_reducible repeat (first | refine aG ?_ _ | refine aH ?_ | refine aC ?_ _));refine dB ?_ NB342_348.out _;(with_reducible repeat (first | refine aG ?_ _ | refine aH ?_ | refine aC ?_ _));refine dB ?_ NB342_348.out _;(with_reducible repeat (first | refine aG ?_ _ | refine aH ?_ | refine aC ?_ _));exact BK342.out⟩,⟨by (with_reducible repeat (first | refine aG ?_ _ | refine aH ?_ | refine aC ?_ _));refine dP (cs:= #[.int .i64 (rd l0 0),.bool ((rd l0 1) == 1),.int .i64 (rd l0 2),.int .i64 (rd l0 3),.slice none 0 0,.bool false]) ?_ 5 _ rfl;(with_reducible repeat (first | refine aG ?_ _ | refine aH ?_ | refine aC ?_ _));refine dP (cs:= #[.int .i64 (rd l0 0),.bool ((rd l0 1) == 1),.int .i64 (rd l0 2),.int .i64 (rd l0 3),.slice none 0 0,.bool false]) ?_ 4 _ rfl;(with_reducible repeat (first | refine aG ?_ _ | refine aH ?_ | refine aC ?_ _));refine dP (cs:= #[.int .i64 (rd l0 0),.bool ((rd l0 1) == 1),.int .i64 (rd l0 2),.int .i64 0,.slice none 0 0,.bool false]) ?_ 3 _ rfl;(with_reducible repeat (first | refine aG ?_ _ | refine aH ?_ | refine aC ?_ _));refine dP (cs:= #[.int .i64 (rd l0 0),.bool ((rd l0 1) == 1),.int .i64 0,.int .i64 0,.slice none 0 0,.bool false]) ?_ 2 _ rfl;(with_reducible repeat (first | refine aG ?_ _ | refine aH ?_ | refine aC ?_ _));refine dP (cs:= #[.int .i64 (rd l0 0),.bool false,.int .i64 0,.int .i64 0,.slice none 0 0,.bool false]) ?_ 1 _ rfl;(with_reducible repeat (first | refine aG ?_ _ | refine aH ?_ | refine aC ?_ _));refine dP (cs:= #[.int .i64 0,.bool false,.int .i64 0,.int .i64 0,.slice none 0 0,.bool false]) ?_ 0 _ rfl;(with_reducible repeat (first | refine aG ?_ _ | refine aH ?_ | refine aC ?_ _));exact BK348.out⟩,⟨by repeat (first | (with_reducible first | exact HB.out | apply ai | apply aj | apply ak | refine aD ?_ GE342.out | refine aD ?_ GE348.out) | exact HB.out)⟩⟩
         case round=>
          clear H'
          try clear c1
          try clear p2
          try clear p3
          try clear q3
          try clear hx3
          try clear qi3
          try clear c4
          try clear c4b0
          try clear c4b1
          try clear c5
          try clear c6
          try clear c7
          try clear c7b0
          try clear c7b1
          try clear c8
          try clear c8b0
          try clear c8b1
          try clear c9
          try clear c9b0
          try clear c9b1
          try clear c10
          try clear c10b0
          try clear c10b1
          try clear c11
          try clear c11b0
          try clear c11b1
          try clear hcz6_0
          try clear hcz6_1
          try clear hcz6_2
          try clear hcz6_3
          try clear hcz6_4
          try clear hcz6_5
          try clear hfz6_0
          try clear hfz6_1
          try clear hfz6_2
          try clear hfz6_3
          try clear hfz6_4
          try clear hfz6_5
          try clear hx343_0
          try clear hx344_0
          try clear hx345_0
          try clear hx346_0
          try clear hx347_0
          try clear p2
          try clear p343
          try clear p344
          try clear p345
          try clear p346
          try clear p347
          try clear q343
          try clear q344
          try clear q345
          try clear q346
          try clear q347
          obtain ⟨x4_2,x349004_2,u349004,rfl,HA,HK2,HO_349004,BK342,BK348,HB⟩:=hrel
          cases gk with
          | zero=>exact absurd HA.out (by simp [aW.l0])
          | succ k2=>
           have H:=HA.out
           clear HA
           simp only [aW.l0] at H
           by_cases c20:x4_2<(l0.length:Int)
           ·rw [if_pos c20] at H
            have c20b0:decide (x4_2<(l0.length:Int))=true:=decide_eq_true c20
            clear c20
            by_cases c21:0≤x4_2
            ·rw [if_pos c21] at H
             have c21b0:decide (0≤x4_2)=true:=decide_eq_true c21
             clear c21
             obtain ⟨ji22,hji22⟩: ∃ j_:Int,(wrap64 (x4_2+1))=j_:=⟨_,rfl⟩
             replace H:(if 0≤(ji22) then (if (ji22)<(l0.length:Int) then (if x349004_2.length<8796093022208 then (aW.l0 k2 l0 (wrap64 (x4_2+2)) (rd l0 0) ((rd l0 1) == 1) (rd l0 2) (rd l0 3) (x349004_2++ [(⟨rd l0 x4_2,rd l0 (ji22)⟩:dh)]) ((rd l0 4) == 1)) else (none)) else (none)) else (none))=some (r1,r2,r3,r4,r5,r6):=by first | (rw [hji22] at H;exact H) | (simp only [hji22] at H ⊢;exact H)
             have hji22w:(IntKind.i64.wrap (x4_2+1))=ji22:=(aI _).trans hji22
             by_cases c23:0≤(ji22)
             ·rw [if_pos c23] at H
              have c23b0:decide (0≤(ji22))=true:=decide_eq_true c23
              clear c23
              by_cases c24:(ji22)<(l0.length:Int)
              ·rw [if_pos c24] at H
               have c24b0:decide ((ji22)<(l0.length:Int))=true:=decide_eq_true c24
               clear c24
               by_cases c25:x349004_2.length<8796093022208
               ·rw [if_pos c25] at H
                have LMc25:=Am_ c25
                clear c25
                obtain ⟨y351,hy351⟩: ∃ y_:List (dh),y_=(x349004_2++ [(⟨rd l0 x4_2,rd l0 (ji22)⟩:dh)]):=⟨_,rfl⟩
                replace H:(aW.l0 k2 l0 (wrap64 (x4_2+2)) (rd l0 0) ((rd l0 1) == 1) (rd l0 2) (rd l0 3) y351 ((rd l0 4) == 1))=some (r1,r2,r3,r4,r5,r6):=by first | (rw [hy351];with_reducible exact H) | (have H2_:=(Option.bind_some _ _).symm.trans H;rw [hy351];with_reducible exact H2_) | (have H2_:=(Option.bind_some _ _).symm.trans H;with_reducible exact H2_) | with_reducible exact H | (rw [hy351];exact H) | exact H
                have Ny351:=Am_ hy351
                clear hy351
                have H':=Am_ H
                clear H
                try go_wp2
                have n0_:=Am_ (Kd.dn HO_349004.out)
                have n1_:=Am_ (aH BK342.out)
                have n2_:=Am_ (aH BK348.out)
                have n3_:=Am_ (ak HB.out)
                clear HO_349004
                clear BK342
                clear BK348
                clear HB
                have HO_349004:=n0_
                have BK342:=n1_
                have BK348:=n2_
                have HB:=n3_
                clear n0_ n1_ n2_ n3_
                have p349:0≤(x4_2:Int):=of_decide_eq_true (by first | (with_reducible assumption) | assumption)
                have q349:x4_2<(l0.length:Int):=of_decide_eq_true (by first | (with_reducible assumption) | assumption)
                obtain ⟨ad349,e349,hx349_0⟩:=Kd.jJ HR0.out x4_2 p349 q349
                have hw349_0:=hx349_0
                obtain rfl:ad343=ad349:=(by injection e349)
                replace hx349_0:=(HB.out.cell (World.block_lt_of_cell? w _ hx349_0)).trans hx349_0
                replace p349:=eq_true p349
                replace q349:=eq_true q349
                have p350:0≤((ji22):Int):=of_decide_eq_true (by first | (with_reducible assumption) | assumption)
                have q350:(ji22)<(l0.length:Int):=of_decide_eq_true (by first | (with_reducible assumption) | assumption)
                obtain ⟨ad350,e350,hx350_0⟩:=Kd.jJ HR0.out (ji22) p350 q350
                have hw350_0:=hx350_0
                obtain rfl:ad343=ad350:=(by injection e350)
                replace hx350_0:=(HB.out.cell (World.block_lt_of_cell? w _ hx350_0)).trans hx350_0
                replace p350:=eq_true p350
                replace q350:=eq_true q350
                refine jQ (n:=16) (S:=fun w'=>w'.cell? ⟨gb348,0,none⟩=some (.int .i64 (rd l0 0))∧w'.cell? ⟨gb348,1,none⟩=some (.bool ((rd l0 1) == 1))∧w'.cell? ⟨gb348,2,none⟩=some (.int .i64 (rd l0 2))∧w'.cell? ⟨gb348,3,none⟩=some (.int .i64 (rd l0 3))∧w'.cell? ⟨gb348,4,none⟩=some (u349004)∧w'.cell? ⟨gb348,5,none⟩=some (.bool ((rd l0 4) == 1))∧w'.cell? (ad343.add (x4_2).toNat)=some (.int .i64 (rd l0 x4_2))∧w'.cell? (ad343.add ((ji22)).toNat)=some (.int .i64 (rd l0 (ji22)))) (ds:= [15]) #[N_,N_,N_,N_,N_,N_,N_,N_,N_,N_,N_,N_,N_,N_,N_,N_] (by kernel_rfl) rfl rfl ⟨(af BK348.out 0).trans rfl,(af BK348.out 1).trans rfl,(af BK348.out 2).trans rfl,(af BK348.out 3).trans rfl,(af BK348.out 4).trans rfl,(af BK348.out 5).trans rfl,((HB.out.cell (World.block_lt_of_cell? w _ hw349_0)).trans hw349_0),((HB.out.cell (World.block_lt_of_cell? w _ hw350_0)).trans hw350_0)⟩ (fun hHeld=>?_);refine gK aW.LU aW.KL (fun HT_ HW_=>?_)
                generalize wr.drew=w26 at HO_349004 BK342 BK348 HB hx349_0 hx350_0 hHeld ⊢
                refine di (i:=0) (N:=some 39) (v:=?_) (a':=?_) #[Y_,N_,N_,N_,N_,N_,N_,N_,N_,N_,N_,N_,N_,N_,N_,N_] rfl rfl (bE HT_.out (by kernel_rfl)) (fun _ _ _ h=>h) (Or.inl ⟨by rfl,?_⟩) ?_ ?_
                rotate_left; · intro w';go_simp;with_reducible rfl
                rotate_left; · simp only [Act.put,u1_,u2_,u3_,aI,aJ];rfl
                refine di (i:=2) (N:=some 41) (v:=?_) (a':=?_) #[Y_,N_,Y_,N_,N_,N_,N_,N_,N_,N_,N_,N_,N_,N_,N_,N_] rfl rfl (bE HT_.out (by kernel_rfl)) (fun _ _ _ h=>h) (Or.inl ⟨by rfl,?_⟩) ?_ ?_
                rotate_left; · intro w';go_simp;with_reducible rfl
                rotate_left; · simp only [Act.put,u1_,u2_,u3_,aI,aJ];rfl
                refine di (i:=3) (N:=some 42) (v:=?_) (a':=?_) #[Y_,N_,Y_,Y_,N_,N_,N_,N_,N_,N_,N_,N_,N_,N_,N_,N_] rfl rfl (bE HT_.out (by kernel_rfl)) (fun _ _ _ h=>h) (Or.inl ⟨by rfl,?_⟩) ?_ ?_
                rotate_left; · intro w';go_simp;with_reducible rfl
                rotate_left; · simp only [Act.put,u1_,u2_,u3_,aI,aJ];rfl
                refine di (i:=4) (N:=some 43) (v:=?_) (a':=?_) #[Y_,N_,Y_,Y_,Y_,N_,N_,N_,N_,N_,N_,N_,N_,N_,N_,N_] rfl rfl (bE HT_.out (by kernel_rfl)) (fun _ _ _ h=>h) (Or.inl ⟨by rfl,?_⟩) ?_ ?_
                rotate_left; · intro w';go_simp;with_reducible rfl
                rotate_left; · simp only [Act.put,u1_,u2_,u3_,aI,aJ];rfl
                refine di (i:=6) (N:=some 45) (v:=?_) (a':=?_) #[Y_,N_,Y_,Y_,Y_,N_,Y_,N_,N_,N_,N_,N_,N_,N_,N_,N_] rfl rfl (bE HT_.out (by kernel_rfl)) (fun _ _ _ h=>h) (Or.inl ⟨by rfl,?_⟩) ?_ ?_
                rotate_left; · intro w';go_simp;with_reducible rfl
                rotate_left; · simp only [Act.put,u1_,u2_,u3_,aI,aJ];rfl
                refine di (i:=7) (N:=some 46) (v:=?_) (a':=?_) #[Y_,N_,Y_,Y_,Y_,N_,Y_,Y_,N_,N_,N_,N_,N_,N_,N_,N_] rfl rfl (bE HT_.out (by kernel_rfl)) (fun _ _ _ h=>h) (Or.inl ⟨by rfl,?_⟩) ?_ ?_
                rotate_left; · intro w';go_simp;with_reducible rfl
                rotate_left; · simp only [Act.put,u1_,u2_,u3_,aI,aJ];rfl
                refine di (i:=8) (N:=some 47) (v:=?_) (a':=?_) #[Y_,N_,Y_,Y_,Y_,N_,Y_,Y_,Y_,N_,N_,N_,N_,N_,N_,N_] rfl rfl (bE HT_.out (by kernel_rfl)) (fun _ _ _ h=>h) (Or.inl ⟨by rfl,?_⟩) ?_ ?_
                rotate_left; · intro w';go_simp;with_reducible rfl
                rotate_left; · simp only [Act.put,u1_,u2_,u3_,aI,aJ];rfl
                refine di (i:=9) (N:=some 48) (v:=?_) (a':=?_) #[Y_,N_,Y_,Y_,Y_,N_,Y_,Y_,Y_,Y_,N_,N_,N_,N_,N_,N_] rfl rfl (bE HT_.out (by kernel_rfl)) (fun _ _ _ h=>h) (Or.inl ⟨by rfl,?_⟩) ?_ ?_
                rotate_left; · intro w';go_simp;with_reducible rfl
                rotate_left; · simp only [Act.put,u1_,u2_,u3_,aI,aJ];rfl
                refine fH (i:=1) (N:=some 40) (v:=?_) (a':=?_) #[Y_,Y_,Y_,Y_,Y_,N_,Y_,Y_,Y_,Y_,N_,N_,N_,N_,N_,N_] rfl rfl (bZ HT_.out HW_.out (by kernel_rfl)) (fun _ _ _ h=>h) (Or.inl ⟨by rfl,?_⟩) hHeld ?_ ?_
                rotate_left; · rintro w' ⟨s0,s1,s2,s3,s4,s5,s6,s7⟩;go_simp;with_reducible rfl
                rotate_left; · simp only [Act.put,u1_,u2_,u3_,aI,aJ];rfl
                refine fH (i:=5) (N:=some 44) (v:=?_) (a':=?_) #[Y_,Y_,Y_,Y_,Y_,Y_,Y_,Y_,Y_,Y_,N_,N_,N_,N_,N_,N_] rfl rfl (bZ HT_.out HW_.out (by kernel_rfl)) (fun _ _ _ h=>h) (Or.inl ⟨by rfl,?_⟩) hHeld ?_ ?_
                rotate_left; · rintro w' ⟨s0,s1,s2,s3,s4,s5,s6,s7⟩;go_simp;with_reducible rfl
                rotate_left; · simp only [Act.put,u1_,u2_,u3_,aI,aJ];rfl
                refine fH (i:=10) (N:=some 49) (v:=?_) (a':=?_) #[Y_,Y_,Y_,Y_,Y_,Y_,Y_,Y_,Y_,Y_,Y_,N_,N_,N_,N_,N_] rfl rfl (bZ HT_.out HW_.out (by kernel_rfl)) (fun _ _ _ h=>h) (Or.inl ⟨by rfl,?_⟩) hHeld ?_ ?_
                rotate_left; · rintro w' ⟨s0,s1,s2,s3,s4,s5,s6,s7⟩;go_simp;with_reducible rfl
                rotate_left; · simp only [Act.put,u1_,u2_,u3_,aI,aJ];rfl
                refine di (i:=11) (N:=some 50) (v:=?_) (a':=?_) #[Y_,Y_,Y_,Y_,Y_,Y_,Y_,Y_,Y_,Y_,Y_,Y_,N_,N_,N_,N_] rfl rfl (bE HT_.out (by kernel_rfl)) (fun _ _ _ h=>h) (Or.inl ⟨by rfl,?_⟩) ?_ ?_
                rotate_left; · intro w';go_simp;with_reducible rfl
                rotate_left; · simp only [Act.put,u1_,u2_,u3_,aI,aJ];rfl
                refine nJ (i:=12) (N:=some 51) #[Y_,Y_,Y_,Y_,Y_,Y_,Y_,Y_,Y_,Y_,Y_,Y_,Y_,N_,N_,N_] rfl rfl (eG HT_.out (by kernel_rfl)) (by decide) (fun K hK=>?_)
                refine gJ (w1:=?_) (v:=?_) (by rfl) rfl ?_ ?_
                rotate_left 2
                ·go_simp
                 constructor
                 ·rfl
                 ·rfl
                refine hK.out _ _ ⟨(af (aC BK348.out _) 0).trans rfl,(af (aC BK348.out _) 1).trans rfl,(af (aC BK348.out _) 2).trans rfl,(af (aC BK348.out _) 3).trans rfl,(af (aC BK348.out _) 4).trans rfl,(af (aC BK348.out _) 5).trans rfl,(World.cell?_alloc_lt _ _ _ (World.block_lt_of_cell? _ _ (((HB.out.cell (World.block_lt_of_cell? w _ hw349_0)).trans hw349_0)))).trans (((HB.out.cell (World.block_lt_of_cell? w _ hw349_0)).trans hw349_0)),(World.cell?_alloc_lt _ _ _ (World.block_lt_of_cell? _ _ (((HB.out.cell (World.block_lt_of_cell? w _ hw350_0)).trans hw350_0)))).trans (((HB.out.cell (World.block_lt_of_cell? w _ hw350_0)).trans hw350_0))⟩ (fun hHeld=>?_)
                clear hK K
                refine bT (a':=?_) ?_ ?_
                rotate_left; · show Act.put _ (some 51) _=_;simp only [Act.put,u1_,u2_,u3_,aI,aJ];rfl
                refine nJ (i:=13) (N:=some 52) #[Y_,Y_,Y_,Y_,Y_,Y_,Y_,Y_,Y_,Y_,Y_,Y_,Y_,Y_,N_,N_] rfl rfl (eG HT_.out (by kernel_rfl)) (by decide) (fun K hK=>?_)
                refine Kd.iQ iP (w0:=w) w.heap.size (by rfl) (.tmp 40) (.tmp 51) 26 121 (.agg #[(.int .i64 0),(.int .i64 0)]) 16 rfl Tryz.underlying26 iL rfl (by decide) (by omega) u349004 x349004_2 (⟨rd l0 x4_2,rd l0 (ji22)⟩:dh) [.int .i64 (rd l0 x4_2),.int .i64 (rd l0 (ji22))] (fun _=>True) (fun _=>False) rfl rfl ?aP (fun _ hk=>hk.elim) ?aF ?aO ?aB ?aS ?aL ?_
                (case aP=>exact gM _ _ _ (⟨rd l0 x4_2,rd l0 (ji22)⟩:dh))
                (case aB=>exact (by repeat (first | (with_reducible first | exact HB.out | apply ai | apply aj | apply ak | refine aD ?_ GE342.out | refine aD ?_ GE348.out) | exact HB.out)))
                (case aF=>exact (fun _ _=>trivial))
                (case aO=>exact (by (with_reducible repeat (first | apply Kd.bI | apply Kd.bV | apply Kd.dn));exact HO_349004.out))
                (case aS=>exact (aK (by repeat (first | (with_reducible first | exact HB.out | apply ai | apply aj | apply ak | refine aD ?_ GE342.out | refine aD ?_ GE348.out) | exact HB.out))))
                (case aL=>have:=LMc25.out;omega)
                intro v352 w27 ho hb hg hat
                rw [←Ny351.out] at ho
                have n0_:=Am_ (bG (g:=gb342) (o:= .cells #[.int .i64 0,.bool false,.int .i64 0,.int .i64 0,.slice none 0 0,.bool false] 58 (0,0)) (by (with_reducible repeat (first | refine aG ?_ _ | refine aH ?_ | refine aC ?_ _));exact BK342.out) hg (Kd.Ij HO_349004.out BK342.out (by decide)))
                have n1_:=Am_ (bG (g:=gb348) (o:= .cells #[.int .i64 (rd l0 0),.bool ((rd l0 1) == 1),.int .i64 (rd l0 2),.int .i64 (rd l0 3),u349004,.bool ((rd l0 4) == 1)] 58 (0,0)) (by (with_reducible repeat (first | refine aG ?_ _ | refine aH ?_ | refine aC ?_ _));exact BK348.out) hg (Kd.Ij HO_349004.out BK348.out (by decide)))
                have n2_:=Am_ (hb)
                have n3_:=Am_ (ho)
                clear BK342
                clear BK348
                clear HB
                clear HO_349004
                have BK342:=n0_
                have BK348:=n1_
                have HB:=n2_
                have HO353:=n3_
                clear n0_ n1_ n2_ n3_
                clear ho hb hg hat
                obtain ⟨Ao28,co28,eo28⟩:=Kd.aV HO353.out
                (first | subst eo28 | (injection eo28 with f1_ f2_ f3_;have f4_:=f1_.symm;have f5_:=f3_.symm;clear f1_ f2_ f3_;subst f4_;subst f5_))
                refine hK.out _ _ ⟨(af BK348.out 0).trans rfl,(af BK348.out 1).trans rfl,(af BK348.out 2).trans rfl,(af BK348.out 3).trans rfl,(af BK348.out 4).trans rfl,(af BK348.out 5).trans rfl,((HB.out.cell (World.block_lt_of_cell? w _ hw349_0)).trans hw349_0),((HB.out.cell (World.block_lt_of_cell? w _ hw350_0)).trans hw350_0)⟩ (fun hHeld=>?_)
                clear hK K
                refine bT (a':=?_) ?_ ?_
                rotate_left; · show Act.put _ (some 52) _=_;simp only [Act.put,u1_,u2_,u3_,aI,aJ];rfl
                refine di (i:=14) (N:=some 53) (v:=?_) (a':=?_) #[Y_,Y_,Y_,Y_,Y_,Y_,Y_,Y_,Y_,Y_,Y_,Y_,Y_,Y_,Y_,N_] rfl rfl (bE HT_.out (by kernel_rfl)) (fun _ _ _ h=>h) (Or.inl ⟨by rfl,?_⟩) ?_ ?_
                rotate_left; · intro w';go_simp;with_reducible rfl
                rotate_left; · simp only [Act.put,u1_,u2_,u3_,aI,aJ];rfl
                refine jL (i:=15) (N:=none) #[Y_,Y_,Y_,Y_,Y_,Y_,Y_,Y_,Y_,Y_,Y_,Y_,Y_,Y_,Y_,Y_] rfl rfl (eG HT_.out (by kernel_rfl)) (by decide) (fun K hK=>?_)
                have hs29:w27.cell? ⟨gb348,4,none⟩=some (u349004):=(af BK348.out 4).trans rfl
                have hfs29:=ah BK348.out 4
                have hns29_0:=NB342_348.out
                have hms29_0:=NB348_342.out
                refine fJ (w1:=?_) (by rfl) rfl ?_ ?_
                rotate_left
                ·go_simp
                 rfl
                refine hK.out _ _ ?_
                clear hK K
                refine dN (bQ HT_.out (by kernel_rfl)) ?_
                try go_wp2
                go_roundg k2
                case measure=>have:=HJ1.out;have:=HK2.out;omega
                case rel=>exact ⟨(wrap64 (x4_2+2)),(y351),(.slice Ao28 y351.length co28),(by first | rfl | (simp;done) | (simp [*];done)),H',⟨by have:=HJ1.out;have:=HK2.out;omega⟩,⟨by (with_reducible repeat (first | apply Kd.bI | apply Kd.bV | apply Kd.dn));exact Kd.bg (Kd.cB (p:=⟨gb348,4,none⟩) (Kd.lg HO353.out BK348.out (by decide)) (fun _ hk=>hk.2) (.slice Ao28 y351.length co28)) (fun _ hk=>trivial)⟩,⟨by (with_reducible repeat (first | refine aG ?_ _ | refine aH ?_ | refine aC ?_ _));refine dB ?_ NB342_348.out _;(with_reducible repeat (first | refine aG ?_ _ | refine aH ?_ | refine aC ?_ _));exact BK342.out⟩,⟨by (with_reducible repeat (first | refine aG ?_ _ | refine aH ?_ | refine aC ?_ _));refine dP (cs:= #[.int .i64 (rd l0 0),.bool ((rd l0 1) == 1),.int .i64 (rd l0 2),.int .i64 (rd l0 3),u349004,.bool ((rd l0 4) == 1)]) ?_ 4 _ rfl;(with_reducible repeat (first | refine aG ?_ _ | refine aH ?_ | refine aC ?_ _));exact BK348.out⟩,⟨by repeat (first | (with_reducible first | exact HB.out | apply ai | apply aj | apply ak | refine aD ?_ GE342.out | refine aD ?_ GE348.out) | exact HB.out)⟩⟩
               ·rw [if_neg c25] at H
                exact absurd H (by simp)
              ·rw [if_neg c24] at H
               exact absurd H (by simp)
             ·rw [if_neg c23] at H
              exact absurd H (by simp)
            ·rw [if_neg c21] at H
             exact absurd H (by simp)
           ·rw [if_neg c20] at H
            have c20b0:decide (x4_2<(l0.length:Int))=false:=decide_eq_false c20
            clear c20
            simp only [Option.some.injEq,Prod.mk.injEq] at H
            obtain ⟨rfl,rfl,rfl,rfl,rfl,rfl⟩:=H
            have hnb30:=NB348_342.out
            have hnc30:=NB342_348.out
            have hcz31_0:wr.cell? ⟨gb348,0,none⟩=some (.int .i64 (rd l0 0)):=(af BK348.out 0).trans rfl
            have hcz31_1:wr.cell? ⟨gb348,1,none⟩=some (.bool ((rd l0 1) == 1)):=(af BK348.out 1).trans rfl
            have hcz31_2:wr.cell? ⟨gb348,2,none⟩=some (.int .i64 (rd l0 2)):=(af BK348.out 2).trans rfl
            have hcz31_3:wr.cell? ⟨gb348,3,none⟩=some (.int .i64 (rd l0 3)):=(af BK348.out 3).trans rfl
            have hcz31_4:wr.cell? ⟨gb348,4,none⟩=some (u349004):=(af BK348.out 4).trans rfl
            have hcz31_5:wr.cell? ⟨gb348,5,none⟩=some (.bool ((rd l0 4) == 1)):=(af BK348.out 5).trans rfl
            have hfz31_0:=ah BK348.out 0
            have hfz31_1:=ah BK348.out 1
            have hfz31_2:=ah BK348.out 2
            have hfz31_3:=ah BK348.out 3
            have hfz31_4:=ah BK348.out 4
            have hfz31_5:=ah BK348.out 5
            have hcz32_0:wr.cell? ⟨gb342,0,none⟩=some (.int .i64 0):=(af BK342.out 0).trans rfl
            have hcz32_1:wr.cell? ⟨gb342,1,none⟩=some (.bool false):=(af BK342.out 1).trans rfl
            have hcz32_2:wr.cell? ⟨gb342,2,none⟩=some (.int .i64 0):=(af BK342.out 2).trans rfl
            have hcz32_3:wr.cell? ⟨gb342,3,none⟩=some (.int .i64 0):=(af BK342.out 3).trans rfl
            have hcz32_4:wr.cell? ⟨gb342,4,none⟩=some (.slice none 0 0):=(af BK342.out 4).trans rfl
            have hcz32_5:wr.cell? ⟨gb342,5,none⟩=some (.bool false):=(af BK342.out 5).trans rfl
            have hfz32_0:=ah BK342.out 0
            have hfz32_1:=ah BK342.out 1
            have hfz32_2:=ah BK342.out 2
            have hfz32_3:=ah BK342.out 3
            have hfz32_4:=ah BK342.out 4
            have hfz32_5:=ah BK342.out 5
            obtain ⟨Ao33,co33,eo33⟩:=Kd.aV HO_349004.out
            subst eo33
            go_wp2
            refine bodyPost_ret (results_cell_row rfl _ _ gb342 58 #[.int .i64 (rd l0 0),.bool ((rd l0 1) == 1),.int .i64 (rd l0 2),.int .i64 (rd l0 3),.slice Ao33 x349004_2.length co33,.bool ((rd l0 4) == 1)] (0,0) _ rfl (by (with_reducible repeat (first | refine aG ?_ _ | refine aH ?_ | refine aC ?_ _));refine dP (cs:= #[.int .i64 (rd l0 0),.bool ((rd l0 1) == 1),.int .i64 (rd l0 2),.int .i64 (rd l0 3),.slice Ao33 x349004_2.length co33,.bool false]) ?_ 5 _ rfl;(with_reducible repeat (first | refine aG ?_ _ | refine aH ?_ | refine aC ?_ _));refine dP (cs:= #[.int .i64 (rd l0 0),.bool ((rd l0 1) == 1),.int .i64 (rd l0 2),.int .i64 (rd l0 3),.slice none 0 0,.bool false]) ?_ 4 _ rfl;(with_reducible repeat (first | refine aG ?_ _ | refine aH ?_ | refine aC ?_ _));refine dP (cs:= #[.int .i64 (rd l0 0),.bool ((rd l0 1) == 1),.int .i64 (rd l0 2),.int .i64 0,.slice none 0 0,.bool false]) ?_ 3 _ rfl;(with_reducible repeat (first | refine aG ?_ _ | refine aH ?_ | refine aC ?_ _));refine dP (cs:= #[.int .i64 (rd l0 0),.bool ((rd l0 1) == 1),.int .i64 0,.int .i64 0,.slice none 0 0,.bool false]) ?_ 2 _ rfl;(with_reducible repeat (first | refine aG ?_ _ | refine aH ?_ | refine aC ?_ _));refine dP (cs:= #[.int .i64 (rd l0 0),.bool false,.int .i64 0,.int .i64 0,.slice none 0 0,.bool false]) ?_ 1 _ rfl;(with_reducible repeat (first | refine aG ?_ _ | refine aH ?_ | refine aC ?_ _));refine dP (cs:= #[.int .i64 0,.bool false,.int .i64 0,.int .i64 0,.slice none 0 0,.bool false]) ?_ 0 _ rfl;(with_reducible repeat (first | refine aG ?_ _ | refine aH ?_ | refine aC ?_ _));exact BK342.out) Tryz.underlying58 rfl (by kernel_rfl)) rfl ?_
            exact ⟨_,by first | rfl | (simp [bq,bA]<;>rfl) | (simp [*,bq,bA]<;>rfl),by (with_reducible repeat (first | apply Kd.bI | apply Kd.bV | apply Kd.dn));exact Kd.bg (Kd.cB (p:=⟨gb342,5,none⟩) (Kd.cB (p:=⟨gb342,4,none⟩) (Kd.cB (p:=⟨gb342,3,none⟩) (Kd.cB (p:=⟨gb342,2,none⟩) (Kd.cB (p:=⟨gb342,1,none⟩) (Kd.cB (p:=⟨gb342,0,none⟩) (Kd.lg HO_349004.out BK342.out (by decide)) (fun _ hk=>hk.2) (.int .i64 (rd l0 0))) (fun _ hk=>hk.2) (.bool ((rd l0 1) == 1))) (fun _ hk=>hk.2) (.int .i64 (rd l0 2))) (fun _ hk=>hk.2) (.int .i64 (rd l0 3))) (fun _ hk=>hk.2) (.slice Ao33 x349004_2.length co33)) (fun _ hk=>hk.2) (.bool ((rd l0 4) == 1))) (fun _ hk=>trivial),by repeat (first | (with_reducible first | exact HB.out | apply ai | apply aj | apply ak | refine aD ?_ GE342.out | refine aD ?_ GE348.out) | exact HB.out)⟩
        ·rw [if_neg c11] at H
         exact absurd H (by simp)
       ·rw [if_neg c10] at H
        exact absurd H (by simp)
      ·rw [if_neg c9] at H
       exact absurd H (by simp)
     ·rw [if_neg c8] at H
      exact absurd H (by simp)
    ·rw [if_neg c7] at H
     exact absurd H (by simp)
end Go.Proofs.YtmnjjdeaccgjlaaGreat.PAskAlone
namespace Go.Proofs.YtmnjjdeaccgjlaaGreat.PAskAlone
open Go.RowKit Go.Proofs.YtmnjjdeaccgjlaaGreatW.PrintWords Go.Proofs.YtmnjjdeaccgjlaaGreatW.PrintLast Go.Proofs.YtmnjjdeaccgjlaaGreatW.PrintMore
attribute [local go_sem] iq iy ji jk gG gH iw iA
theorem zM (d:Nat) (w:World) (x0 y0:Int) (x1 y1:Int):
  (Op.equalIn (d+2) 121 (.agg #[.int .i64 x0,.int .i64 x1]) (.agg #[.int .i64 y0,.int .i64 y1])).run Tryz.prog w= .ok (x0 == y0 && (x1 == y1)) w:=by
 refine EW Tryz.underlying121 (by kernel_rfl) ?_
 refine uU (by rfl) (by go_simp;rfl) (by go_simp;rfl) (by go_simp) ?_
 exact uV (by rfl) (by go_simp;rfl) (by go_simp;rfl) (by go_simp)
end Go.Proofs.YtmnjjdeaccgjlaaGreat.PAskAlone
namespace Go.Proofs.YtmnjjdeaccgjlaaGreat.PAskAlone
open Go.RowKit Go.Proofs.YtmnjjdeaccgjlaaGreatW.PrintWords Go.Proofs.YtmnjjdeaccgjlaaGreatW.PrintLast Go.Proofs.YtmnjjdeaccgjlaaGreatW.PrintMore
attribute [local go_sem] iq iy ji jk gG gH iw iA
attribute [local go_sem high] zM
def aM.l0:Nat→List (dh)→List (dh)→Int→Int→Option (Bool)
 | 0,_,_,_,_=>none
 | k+1,x0,x1,x12,x13=>if x13<x12 then (if 0≤x13 then (if x13<(x0.length:Int) then (if x13<(x1.length:Int) then (if (!(((aA x0 x13).f0) == ((aA x1 x13).f0)) || (!(((aA x0 x13).f1) == ((aA x1 x13).f1))))=true then (some false) else (aM.l0 k x0 x1 x12 (wrap64 (x13+1)))) else (none)) else (none)) else (none)) else (some true)
def aM.f (k:Nat) (l0:List (dh)) (l1:List (dh)):Option (Bool):=if (l0.length:Int)=(l1.length:Int) then (aM.l0 k l0 l1 (l0.length:Int) 0) else (some false)
theorem aM.calls (k:Nat) (A0:Option Addr) (c0:Nat) (l0:List (dh)) (A1:Option Addr) (c1:Nat) (l1:List (dh)) (r:Bool) (w:World) (hr0:Kd.C iP w A0 l0.length l0) (hc0:l0.length≤c0) (hr1:Kd.C iP w A1 l1.length l1) (hc1:l1.length≤c1) (h:aM.f k l0 l1=some r):
  Calls Tryz.prog 56 #[.slice A0 l0.length c0,.slice A1 l1.length c1] w fun e w'=>e= .returned (.bool r)∧dS w w':=by
 have hu121:=Tryz.underlying121
 have HR0:=Am_ hr0
 have HC0:=Am_ hc0
 clear hr0 hc0
 have HR1:=Am_ hr1
 have HC1:=Am_ hc1
 clear hr1 hc1
 have H:(if (l0.length:Int)=(l1.length:Int) then (aM.l0 k l0 l1 (l0.length:Int) 0) else (some false))=some r:=h
 clear h
 by_cases c3:(l0.length:Int)=(l1.length:Int)
 ·rw [if_pos c3] at H
  have c3b0:((l0.length:Int) == (l1.length:Int))=true:=beq_iff_eq.mpr c3
  have c3b1:((l0.length:Int) != (l1.length:Int))=false:=bne_eq_false_iff_eq.mpr c3
  have c3b2:(l0.length == l1.length)=true:=by first | simpa using c3 | (simp at c3 ⊢;omega)
  clear c3
  have H':=Am_ H
  clear H
  go_enter Tryz.func56,Tryz.ntmps56
  go_wp2
  repeat (go_quiet (fail);try go_wp2)
  go_loopg [13] k (fun kq v13 w'=> ∃ (x13_1:Int),v13= .int .i64 x13_1∧ay (aM.l0 kq l0 l1 (l0.length:Int) x13_1=some r)∧ay (kq≤k)∧dS w w')
  case atStart=>exact ⟨(0),(by first | rfl | (simp;done) | (simp [*];done)),H',⟨Nat.le_refl _⟩,by repeat (first | exact dS.refl _ | apply dS.step)⟩
  case round=>
   clear H'
   try clear c1
   try clear p2
   try clear c3
   try clear c3b0
   try clear c3b1
   try clear c3b2
   obtain ⟨x13_1,rfl,HA,HK1,⟨m1,rfl⟩⟩:=hrel
   cases gk with
   | zero=>exact absurd HA.out (by simp [aM.l0])
   | succ k1=>
    have H:=HA.out
    clear HA
    simp only [aM.l0] at H
    by_cases c4:x13_1<(l0.length:Int)
    ·rw [if_pos c4] at H
     have c4b0:decide (x13_1<(l0.length:Int))=true:=decide_eq_true c4
     clear c4
     by_cases c5:0≤x13_1
     ·rw [if_pos c5] at H
      have c5b0:decide (0≤x13_1)=true:=decide_eq_true c5
      clear c5
      by_cases c6:x13_1<(l0.length:Int)
      ·rw [if_pos c6] at H
       have c6b0:decide (x13_1<(l0.length:Int))=true:=decide_eq_true c6
       clear c6
       by_cases c7:x13_1<(l1.length:Int)
       ·rw [if_pos c7] at H
        have c7b0:decide (x13_1<(l1.length:Int))=true:=decide_eq_true c7
        clear c7
        by_cases c8:(!(((aA l0 x13_1).f0) == ((aA l1 x13_1).f0)) || (!(((aA l0 x13_1).f1) == ((aA l1 x13_1).f1))))=true
        ·rw [if_pos c8] at H
         have c8b0:(!(((aA l0 x13_1).f0) == ((aA l1 x13_1).f0)) || (!(((aA l0 x13_1).f1) == ((aA l1 x13_1).f1))))=true:=c8
         clear c8
         obtain rfl:=Option.some.inj H
         have p103:0≤(x13_1:Int):=of_decide_eq_true (by first | (with_reducible assumption) | assumption)
         have q103:x13_1<(l0.length:Int):=of_decide_eq_true (by first | (with_reducible assumption) | assumption)
         obtain ⟨ad103,e103,hx103_0,hx103_1⟩:=iK HR0.out x13_1 p103 q103
         cases e103
         replace p103:=eq_true p103
         replace q103:=eq_true q103
         have p104:0≤(x13_1:Int):=of_decide_eq_true (by first | (with_reducible assumption) | assumption)
         have q104:x13_1<(l1.length:Int):=of_decide_eq_true (by first | (with_reducible assumption) | assumption)
         obtain ⟨ad104,e104,hx104_0,hx104_1⟩:=iK HR1.out x13_1 p104 q104
         cases e104
         replace p104:=eq_true p104
         replace q104:=eq_true q104
         go_wp2
         repeat (go_quiet (fail);try go_wp2)
         go_ret
         exact ⟨by first | rfl | (simp;done) | (simp [*];done),by repeat (first | exact dS.refl _ | apply dS.step)⟩
        ·rw [if_neg c8] at H
         have c8b0:(!(((aA l0 x13_1).f0) == ((aA l1 x13_1).f0)) || (!(((aA l0 x13_1).f1) == ((aA l1 x13_1).f1))))=false:=by simpa using c8
         clear c8
         have H':=Am_ H
         clear H
         have p103:0≤(x13_1:Int):=of_decide_eq_true (by first | (with_reducible assumption) | assumption)
         have q103:x13_1<(l0.length:Int):=of_decide_eq_true (by first | (with_reducible assumption) | assumption)
         obtain ⟨ad103,e103,hx103_0,hx103_1⟩:=iK HR0.out x13_1 p103 q103
         cases e103
         replace p103:=eq_true p103
         replace q103:=eq_true q103
         have p104:0≤(x13_1:Int):=of_decide_eq_true (by first | (with_reducible assumption) | assumption)
         have q104:x13_1<(l1.length:Int):=of_decide_eq_true (by first | (with_reducible assumption) | assumption)
         obtain ⟨ad104,e104,hx104_0,hx104_1⟩:=iK HR1.out x13_1 p104 q104
         cases e104
         replace p104:=eq_true p104
         replace q104:=eq_true q104
         go_wp2
         repeat (go_quiet (fail);try go_wp2)
         go_roundg k1
         case measure=>have:=HK1.out;omega
         case rel=>exact ⟨(wrap64 (x13_1+1)),(by first | rfl | (simp;done) | (simp [*];done)),H',⟨by have:=HK1.out;omega⟩,by repeat (first | exact dS.refl _ | apply dS.step)⟩
       ·rw [if_neg c7] at H
        exact absurd H (by simp)
      ·rw [if_neg c6] at H
       exact absurd H (by simp)
     ·rw [if_neg c5] at H
      exact absurd H (by simp)
    ·rw [if_neg c4] at H
     have c4b0:decide (x13_1<(l0.length:Int))=false:=decide_eq_false c4
     clear c4
     obtain rfl:=Option.some.inj H
     go_wp2
     repeat (go_quiet (fail);try go_wp2)
     go_ret
     exact ⟨by first | rfl | (simp;done) | (simp [*];done),by repeat (first | exact dS.refl _ | apply dS.step)⟩
 ·rw [if_neg c3] at H
  have c3b0:((l0.length:Int) == (l1.length:Int))=false:=beq_eq_false_iff_ne.mpr c3
  have c3b1:((l0.length:Int) != (l1.length:Int))=true:=bne_iff_ne.mpr c3
  have c3b2:(l0.length == l1.length)=false:=by first | simpa using c3 | (simp at c3 ⊢;omega)
  obtain rfl:=Option.some.inj H
  go_enter Tryz.func56,Tryz.ntmps56
  go_wp2
  repeat (go_quiet (fail);try go_wp2)
  go_ret
  exact ⟨by first | rfl | (simp;done) | (simp [*];done),by repeat (first | exact dS.refl _ | apply dS.step)⟩
def eO.f (k:Nat) (a0_0:Int) (a0_1:Bool) (a0_2:Int) (a0_3:Int) (l0_4:List (dh)) (a0_5:Bool) (a1_0:Int) (a1_1:Bool) (a1_2:Int) (a1_3:Int) (l1_4:List (dh)) (a1_5:Bool):Option (Bool):=if a0_0=a1_0 then (if (a0_1 == a1_1)=true then (if a0_2=a1_2 then (if a0_3=a1_3 then ((aM.f k l0_4 l1_4).bind fun t107=>(some t107)) else (some false)) else (some false)) else (some false)) else (some false)
theorem eO.calls (k:Nat) (a0_0:Int) (a0_1:Bool) (a0_2:Int) (a0_3:Int) (A0_4:Option Addr) (c0_4:Nat) (l0_4:List (dh)) (a0_5:Bool) (a1_0:Int) (a1_1:Bool) (a1_2:Int) (a1_3:Int) (A1_4:Option Addr) (c1_4:Nat) (l1_4:List (dh)) (a1_5:Bool) (r:Bool) (w:World) (hr0_4:Kd.C iP w A0_4 l0_4.length l0_4) (hc0_4:l0_4.length≤c0_4) (hr1_4:Kd.C iP w A1_4 l1_4.length l1_4) (hc1_4:l1_4.length≤c1_4) (h:eO.f k a0_0 a0_1 a0_2 a0_3 l0_4 a0_5 a1_0 a1_1 a1_2 a1_3 l1_4 a1_5=some r):
  Calls Tryz.prog 25 #[.agg #[.int .i64 a0_0,.bool a0_1,.int .i64 a0_2,.int .i64 a0_3,.slice A0_4 l0_4.length c0_4,.bool a0_5],.agg #[.int .i64 a1_0,.bool a1_1,.int .i64 a1_2,.int .i64 a1_3,.slice A1_4 l1_4.length c1_4,.bool a1_5]] w fun e w'=>e= .returned (.bool r)∧Below w.heap.size w w':=by
 have hu58:=Tryz.underlying58
 have HR0_4:=Am_ hr0_4
 have HC0_4:=Am_ hc0_4
 clear hr0_4 hc0_4
 have HR1_4:=Am_ hr1_4
 have HC1_4:=Am_ hc1_4
 clear hr1_4 hc1_4
 have HB:=Am_ (Below.refl w.heap.size w)
 have H:(if a0_0=a1_0 then (if (a0_1 == a1_1)=true then (if a0_2=a1_2 then (if a0_3=a1_3 then ((aM.f k l0_4 l1_4).bind fun t107=>(some t107)) else (some false)) else (some false)) else (some false)) else (some false))=some r:=h
 clear h
 by_cases c3:a0_0=a1_0
 ·rw [if_pos c3] at H
  have c3b0:(a0_0 == a1_0)=true:=beq_iff_eq.mpr c3
  have c3b1:(a0_0 != a1_0)=false:=bne_eq_false_iff_eq.mpr c3
  clear c3
  by_cases c4:(a0_1 == a1_1)=true
  ·rw [if_pos c4] at H
   have c4b0:(a0_1 == a1_1)=true:=c4
   (try (have c4b1:decide (a0_1=a1_1)=true:=by simpa using c4))
   (try (have c4b2:(a0_1 == a1_1)=true:=by simpa using c4))
   clear c4
   by_cases c5:a0_2=a1_2
   ·rw [if_pos c5] at H
    have c5b0:(a0_2 == a1_2)=true:=beq_iff_eq.mpr c5
    have c5b1:(a0_2 != a1_2)=false:=bne_eq_false_iff_eq.mpr c5
    clear c5
    by_cases c6:a0_3=a1_3
    ·rw [if_pos c6] at H
     have c6b0:(a0_3 == a1_3)=true:=beq_iff_eq.mpr c6
     have c6b1:(a0_3 != a1_3)=false:=bne_eq_false_iff_eq.mpr c6
     clear c6
     replace H:=Option.bind_eq_some_iff.mp H
     obtain ⟨t107,A70,H⟩:=H
     replace H:(some t107)=some r:=H
     have A7:=Am_ A70
     clear A70
     obtain rfl:=Option.some.inj H
     go_enter Tryz.func25,Tryz.ntmps25
     go_wp2_with (first | ((with_reducible refine bX (N:=2) rfl ?_);refine bO ?hg (N:=2) ?hd (cs:= #[.int .i64 a0_0,.bool a0_1,.int .i64 a0_2,.int .i64 a0_3,.slice A0_4 l0_4.length c0_4,.bool a0_5]) (t:=58) ?hr ?_;(case hd=>rfl);(case hg=>rfl);(case hr=>first | (go_simp;done) | (go_simp;rfl));intro gb105 hg w8 hbox hb;have n0_:=Am_ (bC (by repeat (first | (with_reducible first | exact HB.out | apply ai | apply aj | apply ak) | exact HB.out)) hb);have n1_:=Am_ (hbox);have n2_:=Am_ ((by rw [hg];exact (aK (by repeat (first | (with_reducible first | exact HB.out | apply ai | apply aj | apply ak) | exact HB.out))):w.heap.size≤gb105));have n3_:=Am_ ((by rw [hg];exact (aK (by repeat (first | (with_reducible first | exact HB.out | apply ai | apply aj | apply ak) | exact HB.out))):w.heap.size≤gb105));clear HB;have HB:=n0_;have BK105:=n1_;have GW105:=n2_;have GE105:=n3_;clear n0_ n1_ n2_ n3_;clear hb hbox hg) | ((with_reducible refine bX (N:=3) rfl ?_);refine bO ?hg (N:=3) ?hd (cs:= #[.int .i64 a1_0,.bool a1_1,.int .i64 a1_2,.int .i64 a1_3,.slice A1_4 l1_4.length c1_4,.bool a1_5]) (t:=58) ?hr ?_;(case hd=>rfl);(case hg=>rfl);(case hr=>first | (go_simp;done) | (go_simp;rfl));intro gb106 hg w9 hbox hb;have n0_:=Am_ (bJ (g:=gb105) (o:= .cells #[.int .i64 a0_0,.bool a0_1,.int .i64 a0_2,.int .i64 a0_3,.slice A0_4 l0_4.length c0_4,.bool a0_5] 58 (0,0)) (by (with_reducible repeat (first | refine aG ?_ _ | refine aH ?_ | refine aC ?_ _));exact BK105.out) hb);have n1_:=Am_ (bC (by repeat (first | (with_reducible first | exact HB.out | apply ai | apply aj | apply ak | refine aD ?_ GE105.out) | exact HB.out)) hb);have n2_:=Am_ (hbox);have n3_:=Am_ ((by rw [hg];exact (aK (by repeat (first | (with_reducible first | exact HB.out | apply ai | apply aj | apply ak | refine aD ?_ GE105.out) | exact HB.out))):w.heap.size≤gb106));have n4_:=Am_ ((by rw [hg];exact (aK (by repeat (first | (with_reducible first | exact HB.out | apply ai | apply aj | apply ak | refine aD ?_ GE105.out) | exact HB.out))):w.heap.size≤gb106));have n5_:=Am_ ((by rw [hg];exact Nat.ne_of_lt (bF (g:=gb105) (o:= .cells #[.int .i64 a0_0,.bool a0_1,.int .i64 a0_2,.int .i64 a0_3,.slice A0_4 l0_4.length c0_4,.bool a0_5] 58 (0,0)) (by (with_reducible repeat (first | refine aG ?_ _ | refine aH ?_ | refine aC ?_ _));exact BK105.out)):gb105≠gb106));have n6_:=Am_ ((by rw [hg];exact Nat.ne_of_gt (bF (g:=gb105) (o:= .cells #[.int .i64 a0_0,.bool a0_1,.int .i64 a0_2,.int .i64 a0_3,.slice A0_4 l0_4.length c0_4,.bool a0_5] 58 (0,0)) (by (with_reducible repeat (first | refine aG ?_ _ | refine aH ?_ | refine aC ?_ _));exact BK105.out)):gb106≠gb105));clear BK105;clear HB;have BK105:=n0_;have HB:=n1_;have BK106:=n2_;have GW106:=n3_;have GE106:=n4_;have NB105_106:=n5_;have NB106_105:=n6_;clear n0_ n1_ n2_ n3_ n4_ n5_ n6_;clear hb hbox hg;have hnb10:=NB105_106.out;have hnc10:=NB106_105.out;have hcz11_0:w9.cell? ⟨gb105,0,none⟩=some (.int .i64 a0_0):=(af BK105.out 0).trans rfl;have hcz11_1:w9.cell? ⟨gb105,1,none⟩=some (.bool a0_1):=(af BK105.out 1).trans rfl;have hcz11_2:w9.cell? ⟨gb105,2,none⟩=some (.int .i64 a0_2):=(af BK105.out 2).trans rfl;have hcz11_3:w9.cell? ⟨gb105,3,none⟩=some (.int .i64 a0_3):=(af BK105.out 3).trans rfl;have hcz11_4:w9.cell? ⟨gb105,4,none⟩=some (.slice A0_4 l0_4.length c0_4):=(af BK105.out 4).trans rfl;have hcz11_5:w9.cell? ⟨gb105,5,none⟩=some (.bool a0_5):=(af BK105.out 5).trans rfl;have hfz11_0:=ah BK105.out 0;have hfz11_1:=ah BK105.out 1;have hfz11_2:=ah BK105.out 2;have hfz11_3:=ah BK105.out 3;have hfz11_4:=ah BK105.out 4;have hfz11_5:=ah BK105.out 5;have hcz12_0:w9.cell? ⟨gb106,0,none⟩=some (.int .i64 a1_0):=(af BK106.out 0).trans rfl;have hcz12_1:w9.cell? ⟨gb106,1,none⟩=some (.bool a1_1):=(af BK106.out 1).trans rfl;have hcz12_2:w9.cell? ⟨gb106,2,none⟩=some (.int .i64 a1_2):=(af BK106.out 2).trans rfl;have hcz12_3:w9.cell? ⟨gb106,3,none⟩=some (.int .i64 a1_3):=(af BK106.out 3).trans rfl;have hcz12_4:w9.cell? ⟨gb106,4,none⟩=some (.slice A1_4 l1_4.length c1_4):=(af BK106.out 4).trans rfl;have hcz12_5:w9.cell? ⟨gb106,5,none⟩=some (.bool a1_5):=(af BK106.out 5).trans rfl;have hfz12_0:=ah BK106.out 0;have hfz12_1:=ah BK106.out 1;have hfz12_2:=ah BK106.out 2;have hfz12_3:=ah BK106.out 3;have hfz12_4:=ah BK106.out 4;have hfz12_5:=ah BK106.out 5) | (go_at_call 56;(with_reducible refine (aM.calls k _ _ l0_4 _ _ l1_4 t107 _ ?side1 ?side2 ?side3 ?side4 A7.out).mono ?_);(case side1=>repeat (first | exact (Kd.bU HR0_4.out HB.out) | (with_reducible refine Kd.fT ?_ _) | (with_reducible refine Kd.fU ?_ _) | (with_reducible refine Kd.iC ?_)));(case side2=>exact HC0_4.out);(case side3=>repeat (first | exact (Kd.bU HR1_4.out HB.out) | (with_reducible refine Kd.fT ?_ _) | (with_reducible refine Kd.fU ?_ _) | (with_reducible refine Kd.iC ?_)));(case side4=>exact HC1_4.out);rintro e w' ⟨rfl,⟨nd,rfl⟩⟩))
     go_ret
     exact ⟨by first | rfl | (simp [bq,bA]<;>rfl) | (simp [*,bq,bA]<;>rfl),by repeat (first | (with_reducible first | exact HB.out | apply ai | apply aj | apply ak | refine aD ?_ GE105.out | refine aD ?_ GE106.out) | exact HB.out)⟩
    ·rw [if_neg c6] at H
     have c6b0:(a0_3 == a1_3)=false:=beq_eq_false_iff_ne.mpr c6
     have c6b1:(a0_3 != a1_3)=true:=bne_iff_ne.mpr c6
     obtain rfl:=Option.some.inj H
     go_enter Tryz.func25,Tryz.ntmps25
     go_wp2_with (first | ((with_reducible refine bX (N:=2) rfl ?_);refine bO ?hg (N:=2) ?hd (cs:= #[.int .i64 a0_0,.bool a0_1,.int .i64 a0_2,.int .i64 a0_3,.slice A0_4 l0_4.length c0_4,.bool a0_5]) (t:=58) ?hr ?_;(case hd=>rfl);(case hg=>rfl);(case hr=>first | (go_simp;done) | (go_simp;rfl));intro gb105 hg w13 hbox hb;have n0_:=Am_ (bC (by repeat (first | (with_reducible first | exact HB.out | apply ai | apply aj | apply ak) | exact HB.out)) hb);have n1_:=Am_ (hbox);have n2_:=Am_ ((by rw [hg];exact (aK (by repeat (first | (with_reducible first | exact HB.out | apply ai | apply aj | apply ak) | exact HB.out))):w.heap.size≤gb105));have n3_:=Am_ ((by rw [hg];exact (aK (by repeat (first | (with_reducible first | exact HB.out | apply ai | apply aj | apply ak) | exact HB.out))):w.heap.size≤gb105));clear HB;have HB:=n0_;have BK105:=n1_;have GW105:=n2_;have GE105:=n3_;clear n0_ n1_ n2_ n3_;clear hb hbox hg) | ((with_reducible refine bX (N:=3) rfl ?_);refine bO ?hg (N:=3) ?hd (cs:= #[.int .i64 a1_0,.bool a1_1,.int .i64 a1_2,.int .i64 a1_3,.slice A1_4 l1_4.length c1_4,.bool a1_5]) (t:=58) ?hr ?_;(case hd=>rfl);(case hg=>rfl);(case hr=>first | (go_simp;done) | (go_simp;rfl));intro gb106 hg w14 hbox hb;have n0_:=Am_ (bJ (g:=gb105) (o:= .cells #[.int .i64 a0_0,.bool a0_1,.int .i64 a0_2,.int .i64 a0_3,.slice A0_4 l0_4.length c0_4,.bool a0_5] 58 (0,0)) (by (with_reducible repeat (first | refine aG ?_ _ | refine aH ?_ | refine aC ?_ _));exact BK105.out) hb);have n1_:=Am_ (bC (by repeat (first | (with_reducible first | exact HB.out | apply ai | apply aj | apply ak | refine aD ?_ GE105.out) | exact HB.out)) hb);have n2_:=Am_ (hbox);have n3_:=Am_ ((by rw [hg];exact (aK (by repeat (first | (with_reducible first | exact HB.out | apply ai | apply aj | apply ak | refine aD ?_ GE105.out) | exact HB.out))):w.heap.size≤gb106));have n4_:=Am_ ((by rw [hg];exact (aK (by repeat (first | (with_reducible first | exact HB.out | apply ai | apply aj | apply ak | refine aD ?_ GE105.out) | exact HB.out))):w.heap.size≤gb106));have n5_:=Am_ ((by rw [hg];exact Nat.ne_of_lt (bF (g:=gb105) (o:= .cells #[.int .i64 a0_0,.bool a0_1,.int .i64 a0_2,.int .i64 a0_3,.slice A0_4 l0_4.length c0_4,.bool a0_5] 58 (0,0)) (by (with_reducible repeat (first | refine aG ?_ _ | refine aH ?_ | refine aC ?_ _));exact BK105.out)):gb105≠gb106));have n6_:=Am_ ((by rw [hg];exact Nat.ne_of_gt (bF (g:=gb105) (o:= .cells #[.int .i64 a0_0,.bool a0_1,.int .i64 a0_2,.int .i64 a0_3,.slice A0_4 l0_4.length c0_4,.bool a0_5] 58 (0,0)) (by (with_reducible repeat (first | refine aG ?_ _ | refine aH ?_ | refine aC ?_ _));exact BK105.out)):gb106≠gb105));clear BK105;clear HB;have BK105:=n0_;have HB:=n1_;have BK106:=n2_;have GW106:=n3_;have GE106:=n4_;have NB105_106:=n5_;have NB106_105:=n6_;clear n0_ n1_ n2_ n3_ n4_ n5_ n6_;clear hb hbox hg;have hnb15:=NB105_106.out;have hnc15:=NB106_105.out;have hcz16_0:w14.cell? ⟨gb105,0,none⟩=some (.int .i64 a0_0):=(af BK105.out 0).trans rfl;have hcz16_1:w14.cell? ⟨gb105,1,none⟩=some (.bool a0_1):=(af BK105.out 1).trans rfl;have hcz16_2:w14.cell? ⟨gb105,2,none⟩=some (.int .i64 a0_2):=(af BK105.out 2).trans rfl;have hcz16_3:w14.cell? ⟨gb105,3,none⟩=some (.int .i64 a0_3):=(af BK105.out 3).trans rfl;have hcz16_4:w14.cell? ⟨gb105,4,none⟩=some (.slice A0_4 l0_4.length c0_4):=(af BK105.out 4).trans rfl;have hcz16_5:w14.cell? ⟨gb105,5,none⟩=some (.bool a0_5):=(af BK105.out 5).trans rfl;have hfz16_0:=ah BK105.out 0;have hfz16_1:=ah BK105.out 1;have hfz16_2:=ah BK105.out 2;have hfz16_3:=ah BK105.out 3;have hfz16_4:=ah BK105.out 4;have hfz16_5:=ah BK105.out 5;have hcz17_0:w14.cell? ⟨gb106,0,none⟩=some (.int .i64 a1_0):=(af BK106.out 0).trans rfl;have hcz17_1:w14.cell? ⟨gb106,1,none⟩=some (.bool a1_1):=(af BK106.out 1).trans rfl;have hcz17_2:w14.cell? ⟨gb106,2,none⟩=some (.int .i64 a1_2):=(af BK106.out 2).trans rfl;have hcz17_3:w14.cell? ⟨gb106,3,none⟩=some (.int .i64 a1_3):=(af BK106.out 3).trans rfl;have hcz17_4:w14.cell? ⟨gb106,4,none⟩=some (.slice A1_4 l1_4.length c1_4):=(af BK106.out 4).trans rfl;have hcz17_5:w14.cell? ⟨gb106,5,none⟩=some (.bool a1_5):=(af BK106.out 5).trans rfl;have hfz17_0:=ah BK106.out 0;have hfz17_1:=ah BK106.out 1;have hfz17_2:=ah BK106.out 2;have hfz17_3:=ah BK106.out 3;have hfz17_4:=ah BK106.out 4;have hfz17_5:=ah BK106.out 5))
     go_ret
     exact ⟨by first | rfl | (simp [bq,bA]<;>rfl) | (simp [*,bq,bA]<;>rfl),by repeat (first | (with_reducible first | exact HB.out | apply ai | apply aj | apply ak | refine aD ?_ GE105.out | refine aD ?_ GE106.out) | exact HB.out)⟩
   ·rw [if_neg c5] at H
    have c5b0:(a0_2 == a1_2)=false:=beq_eq_false_iff_ne.mpr c5
    have c5b1:(a0_2 != a1_2)=true:=bne_iff_ne.mpr c5
    obtain rfl:=Option.some.inj H
    go_enter Tryz.func25,Tryz.ntmps25
    go_wp2_with (first | ((with_reducible refine bX (N:=2) rfl ?_);refine bO ?hg (N:=2) ?hd (cs:= #[.int .i64 a0_0,.bool a0_1,.int .i64 a0_2,.int .i64 a0_3,.slice A0_4 l0_4.length c0_4,.bool a0_5]) (t:=58) ?hr ?_;(case hd=>rfl);(case hg=>rfl);(case hr=>first | (go_simp;done) | (go_simp;rfl));intro gb105 hg w18 hbox hb;have n0_:=Am_ (bC (by repeat (first | (with_reducible first | exact HB.out | apply ai | apply aj | apply ak) | exact HB.out)) hb);have n1_:=Am_ (hbox);have n2_:=Am_ ((by rw [hg];exact (aK (by repeat (first | (with_reducible first | exact HB.out | apply ai | apply aj | apply ak) | exact HB.out))):w.heap.size≤gb105));have n3_:=Am_ ((by rw [hg];exact (aK (by repeat (first | (with_reducible first | exact HB.out | apply ai | apply aj | apply ak) | exact HB.out))):w.heap.size≤gb105));clear HB;have HB:=n0_;have BK105:=n1_;have GW105:=n2_;have GE105:=n3_;clear n0_ n1_ n2_ n3_;clear hb hbox hg) | ((with_reducible refine bX (N:=3) rfl ?_);refine bO ?hg (N:=3) ?hd (cs:= #[.int .i64 a1_0,.bool a1_1,.int .i64 a1_2,.int .i64 a1_3,.slice A1_4 l1_4.length c1_4,.bool a1_5]) (t:=58) ?hr ?_;(case hd=>rfl);(case hg=>rfl);(case hr=>first | (go_simp;done) | (go_simp;rfl));intro gb106 hg w19 hbox hb;have n0_:=Am_ (bJ (g:=gb105) (o:= .cells #[.int .i64 a0_0,.bool a0_1,.int .i64 a0_2,.int .i64 a0_3,.slice A0_4 l0_4.length c0_4,.bool a0_5] 58 (0,0)) (by (with_reducible repeat (first | refine aG ?_ _ | refine aH ?_ | refine aC ?_ _));exact BK105.out) hb);have n1_:=Am_ (bC (by repeat (first | (with_reducible first | exact HB.out | apply ai | apply aj | apply ak | refine aD ?_ GE105.out) | exact HB.out)) hb);have n2_:=Am_ (hbox);have n3_:=Am_ ((by rw [hg];exact (aK (by repeat (first | (with_reducible first | exact HB.out | apply ai | apply aj | apply ak | refine aD ?_ GE105.out) | exact HB.out))):w.heap.size≤gb106));have n4_:=Am_ ((by rw [hg];exact (aK (by repeat (first | (with_reducible first | exact HB.out | apply ai | apply aj | apply ak | refine aD ?_ GE105.out) | exact HB.out))):w.heap.size≤gb106));have n5_:=Am_ ((by rw [hg];exact Nat.ne_of_lt (bF (g:=gb105) (o:= .cells #[.int .i64 a0_0,.bool a0_1,.int .i64 a0_2,.int .i64 a0_3,.slice A0_4 l0_4.length c0_4,.bool a0_5] 58 (0,0)) (by (with_reducible repeat (first | refine aG ?_ _ | refine aH ?_ | refine aC ?_ _));exact BK105.out)):gb105≠gb106));have n6_:=Am_ ((by rw [hg];exact Nat.ne_of_gt (bF (g:=gb105) (o:= .cells #[.int .i64 a0_0,.bool a0_1,.int .i64 a0_2,.int .i64 a0_3,.slice A0_4 l0_4.length c0_4,.bool a0_5] 58 (0,0)) (by (with_reducible repeat (first | refine aG ?_ _ | refine aH ?_ | refine aC ?_ _));exact BK105.out)):gb106≠gb105));clear BK105;clear HB;have BK105:=n0_;have HB:=n1_;have BK106:=n2_;have GW106:=n3_;have GE106:=n4_;have NB105_106:=n5_;have NB106_105:=n6_;clear n0_ n1_ n2_ n3_ n4_ n5_ n6_;clear hb hbox hg;have hnb20:=NB105_106.out;have hnc20:=NB106_105.out;have hcz21_0:w19.cell? ⟨gb105,0,none⟩=some (.int .i64 a0_0):=(af BK105.out 0).trans rfl;have hcz21_1:w19.cell? ⟨gb105,1,none⟩=some (.bool a0_1):=(af BK105.out 1).trans rfl;have hcz21_2:w19.cell? ⟨gb105,2,none⟩=some (.int .i64 a0_2):=(af BK105.out 2).trans rfl;have hcz21_3:w19.cell? ⟨gb105,3,none⟩=some (.int .i64 a0_3):=(af BK105.out 3).trans rfl;have hcz21_4:w19.cell? ⟨gb105,4,none⟩=some (.slice A0_4 l0_4.length c0_4):=(af BK105.out 4).trans rfl;have hcz21_5:w19.cell? ⟨gb105,5,none⟩=some (.bool a0_5):=(af BK105.out 5).trans rfl;have hfz21_0:=ah BK105.out 0;have hfz21_1:=ah BK105.out 1;have hfz21_2:=ah BK105.out 2;have hfz21_3:=ah BK105.out 3;have hfz21_4:=ah BK105.out 4;have hfz21_5:=ah BK105.out 5;have hcz22_0:w19.cell? ⟨gb106,0,none⟩=some (.int .i64 a1_0):=(af BK106.out 0).trans rfl;have hcz22_1:w19.cell? ⟨gb106,1,none⟩=some (.bool a1_1):=(af BK106.out 1).trans rfl;have hcz22_2:w19.cell? ⟨gb106,2,none⟩=some (.int .i64 a1_2):=(af BK106.out 2).trans rfl;have hcz22_3:w19.cell? ⟨gb106,3,none⟩=some (.int .i64 a1_3):=(af BK106.out 3).trans rfl;have hcz22_4:w19.cell? ⟨gb106,4,none⟩=some (.slice A1_4 l1_4.length c1_4):=(af BK106.out 4).trans rfl;have hcz22_5:w19.cell? ⟨gb106,5,none⟩=some (.bool a1_5):=(af BK106.out 5).trans rfl;have hfz22_0:=ah BK106.out 0;have hfz22_1:=ah BK106.out 1;have hfz22_2:=ah BK106.out 2;have hfz22_3:=ah BK106.out 3;have hfz22_4:=ah BK106.out 4;have hfz22_5:=ah BK106.out 5))
    go_ret
    exact ⟨by first | rfl | (simp [bq,bA]<;>rfl) | (simp [*,bq,bA]<;>rfl),by repeat (first | (with_reducible first | exact HB.out | apply ai | apply aj | apply ak | refine aD ?_ GE105.out | refine aD ?_ GE106.out) | exact HB.out)⟩
  ·rw [if_neg c4] at H
   have c4b0:(a0_1 == a1_1)=false:=by simpa using c4
   (try (have c4b1:decide (a0_1=a1_1)=false:=by simpa using c4))
   (try (have c4b2:(a0_1 == a1_1)=false:=by simpa using c4))
   (try (have c4b3: ¬ (a0_1=a1_1):=by simpa using c4))
   clear c4
   obtain rfl:=Option.some.inj H
   go_enter Tryz.func25,Tryz.ntmps25
   go_wp2_with (first | ((with_reducible refine bX (N:=2) rfl ?_);refine bO ?hg (N:=2) ?hd (cs:= #[.int .i64 a0_0,.bool a0_1,.int .i64 a0_2,.int .i64 a0_3,.slice A0_4 l0_4.length c0_4,.bool a0_5]) (t:=58) ?hr ?_;(case hd=>rfl);(case hg=>rfl);(case hr=>first | (go_simp;done) | (go_simp;rfl));intro gb105 hg w23 hbox hb;have n0_:=Am_ (bC (by repeat (first | (with_reducible first | exact HB.out | apply ai | apply aj | apply ak) | exact HB.out)) hb);have n1_:=Am_ (hbox);have n2_:=Am_ ((by rw [hg];exact (aK (by repeat (first | (with_reducible first | exact HB.out | apply ai | apply aj | apply ak) | exact HB.out))):w.heap.size≤gb105));have n3_:=Am_ ((by rw [hg];exact (aK (by repeat (first | (with_reducible first | exact HB.out | apply ai | apply aj | apply ak) | exact HB.out))):w.heap.size≤gb105));clear HB;have HB:=n0_;have BK105:=n1_;have GW105:=n2_;have GE105:=n3_;clear n0_ n1_ n2_ n3_;clear hb hbox hg) | ((with_reducible refine bX (N:=3) rfl ?_);refine bO ?hg (N:=3) ?hd (cs:= #[.int .i64 a1_0,.bool a1_1,.int .i64 a1_2,.int .i64 a1_3,.slice A1_4 l1_4.length c1_4,.bool a1_5]) (t:=58) ?hr ?_;(case hd=>rfl);(case hg=>rfl);(case hr=>first | (go_simp;done) | (go_simp;rfl));intro gb106 hg w24 hbox hb;have n0_:=Am_ (bJ (g:=gb105) (o:= .cells #[.int .i64 a0_0,.bool a0_1,.int .i64 a0_2,.int .i64 a0_3,.slice A0_4 l0_4.length c0_4,.bool a0_5] 58 (0,0)) (by (with_reducible repeat (first | refine aG ?_ _ | refine aH ?_ | refine aC ?_ _));exact BK105.out) hb);have n1_:=Am_ (bC (by repeat (first | (with_reducible first | exact HB.out | apply ai | apply aj | apply ak | refine aD ?_ GE105.out) | exact HB.out)) hb);have n2_:=Am_ (hbox);have n3_:=Am_ ((by rw [hg];exact (aK (by repeat (first | (with_reducible first | exact HB.out | apply ai | apply aj | apply ak | refine aD ?_ GE105.out) | exact HB.out))):w.heap.size≤gb106));have n4_:=Am_ ((by rw [hg];exact (aK (by repeat (first | (with_reducible first | exact HB.out | apply ai | apply aj | apply ak | refine aD ?_ GE105.out) | exact HB.out))):w.heap.size≤gb106));have n5_:=Am_ ((by rw [hg];exact Nat.ne_of_lt (bF (g:=gb105) (o:= .cells #[.int .i64 a0_0,.bool a0_1,.int .i64 a0_2,.int .i64 a0_3,.slice A0_4 l0_4.length c0_4,.bool a0_5] 58 (0,0)) (by (with_reducible repeat (first | refine aG ?_ _ | refine aH ?_ | refine aC ?_ _));exact BK105.out)):gb105≠gb106));have n6_:=Am_ ((by rw [hg];exact Nat.ne_of_gt (bF (g:=gb105) (o:= .cells #[.int .i64 a0_0,.bool a0_1,.int .i64 a0_2,.int .i64 a0_3,.slice A0_4 l0_4.length c0_4,.bool a0_5] 58 (0,0)) (by (with_reducible repeat (first | refine aG ?_ _ | refine aH ?_ | refine aC ?_ _));exact BK105.out)):gb106≠gb105));clear BK105;clear HB;have BK105:=n0_;have HB:=n1_;have BK106:=n2_;have GW106:=n3_;have GE106:=n4_;have NB105_106:=n5_;have NB106_105:=n6_;clear n0_ n1_ n2_ n3_ n4_ n5_ n6_;clear hb hbox hg;have hnb25:=NB105_106.out;have hnc25:=NB106_105.out;have hcz26_0:w24.cell? ⟨gb105,0,none⟩=some (.int .i64 a0_0):=(af BK105.out 0).trans rfl;have hcz26_1:w24.cell? ⟨gb105,1,none⟩=some (.bool a0_1):=(af BK105.out 1).trans rfl;have hcz26_2:w24.cell? ⟨gb105,2,none⟩=some (.int .i64 a0_2):=(af BK105.out 2).trans rfl;have hcz26_3:w24.cell? ⟨gb105,3,none⟩=some (.int .i64 a0_3):=(af BK105.out 3).trans rfl;have hcz26_4:w24.cell? ⟨gb105,4,none⟩=some (.slice A0_4 l0_4.length c0_4):=(af BK105.out 4).trans rfl;have hcz26_5:w24.cell? ⟨gb105,5,none⟩=some (.bool a0_5):=(af BK105.out 5).trans rfl;have hfz26_0:=ah BK105.out 0;have hfz26_1:=ah BK105.out 1;have hfz26_2:=ah BK105.out 2;have hfz26_3:=ah BK105.out 3;have hfz26_4:=ah BK105.out 4;have hfz26_5:=ah BK105.out 5;have hcz27_0:w24.cell? ⟨gb106,0,none⟩=some (.int .i64 a1_0):=(af BK106.out 0).trans rfl;have hcz27_1:w24.cell? ⟨gb106,1,none⟩=some (.bool a1_1):=(af BK106.out 1).trans rfl;have hcz27_2:w24.cell? ⟨gb106,2,none⟩=some (.int .i64 a1_2):=(af BK106.out 2).trans rfl;have hcz27_3:w24.cell? ⟨gb106,3,none⟩=some (.int .i64 a1_3):=(af BK106.out 3).trans rfl;have hcz27_4:w24.cell? ⟨gb106,4,none⟩=some (.slice A1_4 l1_4.length c1_4):=(af BK106.out 4).trans rfl;have hcz27_5:w24.cell? ⟨gb106,5,none⟩=some (.bool a1_5):=(af BK106.out 5).trans rfl;have hfz27_0:=ah BK106.out 0;have hfz27_1:=ah BK106.out 1;have hfz27_2:=ah BK106.out 2;have hfz27_3:=ah BK106.out 3;have hfz27_4:=ah BK106.out 4;have hfz27_5:=ah BK106.out 5))
   go_ret
   exact ⟨by first | rfl | (simp [bq,bA]<;>rfl) | (simp [*,bq,bA]<;>rfl),by repeat (first | (with_reducible first | exact HB.out | apply ai | apply aj | apply ak | refine aD ?_ GE105.out | refine aD ?_ GE106.out) | exact HB.out)⟩
 ·rw [if_neg c3] at H
  have c3b0:(a0_0 == a1_0)=false:=beq_eq_false_iff_ne.mpr c3
  have c3b1:(a0_0 != a1_0)=true:=bne_iff_ne.mpr c3
  obtain rfl:=Option.some.inj H
  go_enter Tryz.func25,Tryz.ntmps25
  go_wp2_with (first | ((with_reducible refine bX (N:=2) rfl ?_);refine bO ?hg (N:=2) ?hd (cs:= #[.int .i64 a0_0,.bool a0_1,.int .i64 a0_2,.int .i64 a0_3,.slice A0_4 l0_4.length c0_4,.bool a0_5]) (t:=58) ?hr ?_;(case hd=>rfl);(case hg=>rfl);(case hr=>first | (go_simp;done) | (go_simp;rfl));intro gb105 hg w28 hbox hb;have n0_:=Am_ (bC (by repeat (first | (with_reducible first | exact HB.out | apply ai | apply aj | apply ak) | exact HB.out)) hb);have n1_:=Am_ (hbox);have n2_:=Am_ ((by rw [hg];exact (aK (by repeat (first | (with_reducible first | exact HB.out | apply ai | apply aj | apply ak) | exact HB.out))):w.heap.size≤gb105));have n3_:=Am_ ((by rw [hg];exact (aK (by repeat (first | (with_reducible first | exact HB.out | apply ai | apply aj | apply ak) | exact HB.out))):w.heap.size≤gb105));clear HB;have HB:=n0_;have BK105:=n1_;have GW105:=n2_;have GE105:=n3_;clear n0_ n1_ n2_ n3_;clear hb hbox hg) | ((with_reducible refine bX (N:=3) rfl ?_);refine bO ?hg (N:=3) ?hd (cs:= #[.int .i64 a1_0,.bool a1_1,.int .i64 a1_2,.int .i64 a1_3,.slice A1_4 l1_4.length c1_4,.bool a1_5]) (t:=58) ?hr ?_;(case hd=>rfl);(case hg=>rfl);(case hr=>first | (go_simp;done) | (go_simp;rfl));intro gb106 hg w29 hbox hb;have n0_:=Am_ (bJ (g:=gb105) (o:= .cells #[.int .i64 a0_0,.bool a0_1,.int .i64 a0_2,.int .i64 a0_3,.slice A0_4 l0_4.length c0_4,.bool a0_5] 58 (0,0)) (by (with_reducible repeat (first | refine aG ?_ _ | refine aH ?_ | refine aC ?_ _));exact BK105.out) hb);have n1_:=Am_ (bC (by repeat (first | (with_reducible first | exact HB.out | apply ai | apply aj | apply ak | refine aD ?_ GE105.out) | exact HB.out)) hb);have n2_:=Am_ (hbox);have n3_:=Am_ ((by rw [hg];exact (aK (by repeat (first | (with_reducible first | exact HB.out | apply ai | apply aj | apply ak | refine aD ?_ GE105.out) | exact HB.out))):w.heap.size≤gb106));have n4_:=Am_ ((by rw [hg];exact (aK (by repeat (first | (with_reducible first | exact HB.out | apply ai | apply aj | apply ak | refine aD ?_ GE105.out) | exact HB.out))):w.heap.size≤gb106));have n5_:=Am_ ((by rw [hg];exact Nat.ne_of_lt (bF (g:=gb105) (o:= .cells #[.int .i64 a0_0,.bool a0_1,.int .i64 a0_2,.int .i64 a0_3,.slice A0_4 l0_4.length c0_4,.bool a0_5] 58 (0,0)) (by (with_reducible repeat (first | refine aG ?_ _ | refine aH ?_ | refine aC ?_ _));exact BK105.out)):gb105≠gb106));have n6_:=Am_ ((by rw [hg];exact Nat.ne_of_gt (bF (g:=gb105) (o:= .cells #[.int .i64 a0_0,.bool a0_1,.int .i64 a0_2,.int .i64 a0_3,.slice A0_4 l0_4.length c0_4,.bool a0_5] 58 (0,0)) (by (with_reducible repeat (first | refine aG ?_ _ | refine aH ?_ | refine aC ?_ _));exact BK105.out)):gb106≠gb105));clear BK105;clear HB;have BK105:=n0_;have HB:=n1_;have BK106:=n2_;have GW106:=n3_;have GE106:=n4_;have NB105_106:=n5_;have NB106_105:=n6_;clear n0_ n1_ n2_ n3_ n4_ n5_ n6_;clear hb hbox hg;have hnb30:=NB105_106.out;have hnc30:=NB106_105.out;have hcz31_0:w29.cell? ⟨gb105,0,none⟩=some (.int .i64 a0_0):=(af BK105.out 0).trans rfl;have hcz31_1:w29.cell? ⟨gb105,1,none⟩=some (.bool a0_1):=(af BK105.out 1).trans rfl;have hcz31_2:w29.cell? ⟨gb105,2,none⟩=some (.int .i64 a0_2):=(af BK105.out 2).trans rfl;have hcz31_3:w29.cell? ⟨gb105,3,none⟩=some (.int .i64 a0_3):=(af BK105.out 3).trans rfl;have hcz31_4:w29.cell? ⟨gb105,4,none⟩=some (.slice A0_4 l0_4.length c0_4):=(af BK105.out 4).trans rfl;have hcz31_5:w29.cell? ⟨gb105,5,none⟩=some (.bool a0_5):=(af BK105.out 5).trans rfl;have hfz31_0:=ah BK105.out 0;have hfz31_1:=ah BK105.out 1;have hfz31_2:=ah BK105.out 2;have hfz31_3:=ah BK105.out 3;have hfz31_4:=ah BK105.out 4;have hfz31_5:=ah BK105.out 5;have hcz32_0:w29.cell? ⟨gb106,0,none⟩=some (.int .i64 a1_0):=(af BK106.out 0).trans rfl;have hcz32_1:w29.cell? ⟨gb106,1,none⟩=some (.bool a1_1):=(af BK106.out 1).trans rfl;have hcz32_2:w29.cell? ⟨gb106,2,none⟩=some (.int .i64 a1_2):=(af BK106.out 2).trans rfl;have hcz32_3:w29.cell? ⟨gb106,3,none⟩=some (.int .i64 a1_3):=(af BK106.out 3).trans rfl;have hcz32_4:w29.cell? ⟨gb106,4,none⟩=some (.slice A1_4 l1_4.length c1_4):=(af BK106.out 4).trans rfl;have hcz32_5:w29.cell? ⟨gb106,5,none⟩=some (.bool a1_5):=(af BK106.out 5).trans rfl;have hfz32_0:=ah BK106.out 0;have hfz32_1:=ah BK106.out 1;have hfz32_2:=ah BK106.out 2;have hfz32_3:=ah BK106.out 3;have hfz32_4:=ah BK106.out 4;have hfz32_5:=ah BK106.out 5))
  go_ret
  exact ⟨by first | rfl | (simp [bq,bA]<;>rfl) | (simp [*,bq,bA]<;>rfl),by repeat (first | (with_reducible first | exact HB.out | apply ai | apply aj | apply ak | refine aD ?_ GE105.out | refine aD ?_ GE106.out) | exact HB.out)⟩
mutual
def au.l0:Nat→Int→Int→List (dh)→Bool→List (dh)→Int→Int→Option ((List (dh)))
 | 0,_,_,_,_,_,_,_=>none
 | k+1,x1,x2,x7,x8,x11,x12,x13=>if x13<x12 then (if 0≤x13 then (if x13<(x11.length:Int) then (if x8=true then (au.j1 k x1 x2 x7 x8 x11 x12 x13 false ((aA x11 x13).f0) ((aA x11 x13).f1)) else (au.j1 k x1 x2 x7 x8 x11 x12 x13 (decide (((aA x11 x13).f0)≥x1)) ((aA x11 x13).f0) ((aA x11 x13).f1))) else (none)) else (none)) else (if x8=true then (some x7) else (if x7.length<8796093022208 then (some (x7++ [(⟨x1,x2⟩:dh)])) else (none)))
def au.j1:Nat→Int→Int→List (dh)→Bool→List (dh)→Int→Int→Bool→Int→Int→Option ((List (dh)))
 | 0,_,_,_,_,_,_,_,_,_,_=>none
 | k+1,x1,x2,x7,x8,x11,x12,x13,x24,x113000,x113001=>if x24=true then (if x7.length<8796093022208 then ((some (x7++ [(⟨x1,x2⟩:dh)]:List (dh))).bind fun y113=>(if x113000=x1 then (au.l0 k x1 x2 y113 true x11 x12 (wrap64 (x13+1))) else (if y113.length<8796093022208 then (au.l0 k x1 x2 (y113++ [(⟨x113000,x113001⟩:dh)]) true x11 x12 (wrap64 (x13+1))) else (none)))) else (none)) else (if x113000=x1 then (au.l0 k x1 x2 x7 x8 x11 x12 (wrap64 (x13+1))) else (if x7.length<8796093022208 then (au.l0 k x1 x2 (x7++ [(⟨x113000,x113001⟩:dh)]) x8 x11 x12 (wrap64 (x13+1))) else (none)))
end
def au.f (k:Nat) (l0:List (dh)) (a1:Int) (a2:Int):Option ((List (dh))):=au.l0 k a1 a2 ([]:List (dh)) false l0 (l0.length:Int) 0
theorem au.oP: ∀ k,(∀ y0 y1 y2 y3 y4 y5 y6,LeO (au.l0 k y0 y1 y2 y3 y4 y5 y6) (au.l0 (k+1) y0 y1 y2 y3 y4 y5 y6))∧(∀ y0 y1 y2 y3 y4 y5 y6 y7 y8 y9,LeO (au.j1 k y0 y1 y2 y3 y4 y5 y6 y7 y8 y9) (au.j1 (k+1) y0 y1 y2 y3 y4 y5 y6 y7 y8 y9))
 | 0=>⟨fun _ _ _ _ _ _ _ r h=>by simp [au.l0] at h,fun _ _ _ _ _ _ _ _ _ _ r h=>by simp [au.j1] at h⟩
 | k+1=>by
  obtain ⟨ih0,ih1⟩:=au.oP k
  refine ⟨?_,?_⟩
  ·intro y0 y1 y2 y3 y4 y5 y6
   unfold au.l0
   repeat' first
   | (with_reducible exact ih0 _ _ _ _ _ _ _)
   | (with_reducible exact ih1 _ _ _ _ _ _ _ _ _ _)
   | (with_reducible exact LeO.refl _)
   | (with_reducible exact LeO.none _)
   | (with_reducible refine LeO.ite ?_ ?_)
   | (with_reducible refine LeO.bind ?_ (fun _=>?_))
   | exact ih0 _ _ _ _ _ _ _
   | exact ih1 _ _ _ _ _ _ _ _ _ _
   | exact LeO.none _
   | refine LeO.ite ?_ ?_
   | refine LeO.bind ?_ (fun _=>?_)
  ·intro y0 y1 y2 y3 y4 y5 y6 y7 y8 y9
   unfold au.j1
   repeat' first
   | (with_reducible exact ih0 _ _ _ _ _ _ _)
   | (with_reducible exact ih1 _ _ _ _ _ _ _ _ _ _)
   | (with_reducible exact LeO.refl _)
   | (with_reducible exact LeO.none _)
   | (with_reducible refine LeO.ite ?_ ?_)
   | (with_reducible refine LeO.bind ?_ (fun _=>?_))
   | exact ih0 _ _ _ _ _ _ _
   | exact ih1 _ _ _ _ _ _ _ _ _ _
   | exact LeO.none _
   | refine LeO.ite ?_ ?_
   | refine LeO.bind ?_ (fun _=>?_)
theorem au.mono: ∀ a0 a1 a2 k,LeO (au.f k a0 a1 a2) (au.f (k+1) a0 a1 a2):=by
 intro a0 a1 a2 k
 obtain ⟨ih0,ih1⟩:=au.oP k
 unfold au.f
 repeat' first
   | (with_reducible exact ih0 _ _ _ _ _ _ _)
   | (with_reducible exact ih1 _ _ _ _ _ _ _ _ _ _)
   | (with_reducible exact LeO.refl _)
   | (with_reducible exact LeO.none _)
   | (with_reducible refine LeO.ite ?_ ?_)
   | (with_reducible refine LeO.bind ?_ (fun _=>?_))
   | exact ih0 _ _ _ _ _ _ _
   | exact ih1 _ _ _ _ _ _ _ _ _ _
   | exact LeO.none _
   | refine LeO.ite ?_ ?_
   | refine LeO.bind ?_ (fun _=>?_)
theorem au.calls (k:Nat) (A0:Option Addr) (c0:Nat) (l0:List (dh)) (a1:Int) (a2:Int) (r:List (dh)) (w:World) (hr0:Kd.C iP w A0 l0.length l0) (hc0:l0.length≤c0) (h:au.f k l0 a1 a2=some r):
  Calls Tryz.prog 16 #[.slice A0 l0.length c0,.int .i64 a1,.int .i64 a2] w fun e w'=> ∃ v0_:Value,e= .returned (v0_)∧Kd.R iP 121 w' w.heap.size (fun _=>True) v0_ r∧Below w.heap.size w w':=by
 have hu121:=Tryz.underlying121
 have HR0:=Am_ hr0
 have HC0:=Am_ hc0
 clear hr0 hc0
 have HB:=Am_ (Below.refl w.heap.size w)
 have H:(au.l0 k a1 a2 ([]:List (dh)) false l0 (l0.length:Int) 0)=some r:=h
 clear h
 have H':=Am_ H
 clear H
 go_enter Tryz.func16,Tryz.ntmps16
 go_wp2
 go_loopg [7,8,13] k (fun kq v7 v8 v13 w'=> ∃ (x7_1:List (dh)) (x8_1:Bool) (x13_1:Int),v8= .bool x8_1∧v13= .int .i64 x13_1∧ay (au.l0 kq a1 a2 x7_1 x8_1 l0 (l0.length:Int) x13_1=some r)∧ay (kq≤k)∧ay (Kd.R iP 121 w' w.heap.size (fun _=>True) v7 x7_1)∧ay (Below w.heap.size w w'))
 case atStart=>exact ⟨(([]:List (dh))),(false),(0),(by first | rfl | (simp;done) | (simp [*];done)),(by first | rfl | (simp;done) | (simp [*];done)),H',⟨Nat.le_refl _⟩,⟨by first | exact Kd.fB _ _ _ _ _ | exact Kd.vL _ _ _ _ _ | exact Kd.vP _ _ _ _ _ | exact Kd.qH _ _ _ _ _ | exact Kd.vO _ _ _ _ _⟩,⟨by repeat (first | (with_reducible first | exact HB.out | apply ai | apply aj | apply ak) | exact HB.out)⟩⟩
 case round=>
  clear H'
  try clear c1
  try clear p2
  obtain ⟨x7_1,x8_1,x13_1,rfl,rfl,HA,HK1,HO_7,HB⟩:=hrel
  cases gk with
  | zero=>exact absurd HA.out (by simp [au.l0])
  | succ k1=>
   have H:=HA.out
   clear HA
   simp only [au.l0] at H
   by_cases c4:x13_1<(l0.length:Int)
   ·rw [if_pos c4] at H
    have c4b0:decide (x13_1<(l0.length:Int))=true:=decide_eq_true c4
    clear c4
    by_cases c5:0≤x13_1
    ·rw [if_pos c5] at H
     have c5b0:decide (0≤x13_1)=true:=decide_eq_true c5
     clear c5
     by_cases c6:x13_1<(l0.length:Int)
     ·rw [if_pos c6] at H
      have c6b0:decide (x13_1<(l0.length:Int))=true:=decide_eq_true c6
      clear c6
      have HC7:=Am_ H
      clear H
      have p111:0≤(x13_1:Int):=of_decide_eq_true (by first | (with_reducible assumption) | assumption)
      have q111:x13_1<(l0.length:Int):=of_decide_eq_true (by first | (with_reducible assumption) | assumption)
      obtain ⟨ad111,e111,hx111_0,hx111_1⟩:=iK HR0.out x13_1 p111 q111
      cases e111
      replace hx111_0:=(HB.out.cell (World.block_lt_of_cell? w _ hx111_0)).trans hx111_0
      replace hx111_1:=(HB.out.cell (World.block_lt_of_cell? w _ hx111_1)).trans hx111_1
      replace p111:=eq_true p111
      replace q111:=eq_true q111
      go_upto_region 6 with (first | ((with_reducible refine bX (N:=10) rfl ?_);refine bO ?hg (N:=10) ?hd (cs:= #[.int .i64 0,.int .i64 0]) (t:=121) ?hr ?_;(case hd=>rfl);(case hg=>rfl);(case hr=>first | (go_simp;done) | (go_simp;rfl));intro gb112 hg w8 hbox hb;have n0_:=Am_ (Kd.dY (Kd.uI (by (with_reducible repeat (first | apply Kd.bI | apply Kd.bV | apply Kd.dn));exact HO_7.out) gb112 (Nat.le_of_eq hg.symm)) hb);have n1_:=Am_ (bC (by repeat (first | (with_reducible first | exact HB.out | apply ai | apply aj | apply ak) | exact HB.out)) hb);have n2_:=Am_ (hbox);have n3_:=Am_ ((by rw [hg];exact (aK (by repeat (first | (with_reducible first | exact HB.out | apply ai | apply aj | apply ak) | exact HB.out))):w.heap.size≤gb112));have n4_:=Am_ ((by rw [hg];exact (aK (by repeat (first | (with_reducible first | exact HB.out | apply ai | apply aj | apply ak) | exact HB.out))):w.heap.size≤gb112));clear HO_7;clear HB;have HO_7:=n0_;have HB:=n1_;have BK112:=n2_;have GW112:=n3_;have GE112:=n4_;clear n0_ n1_ n2_ n3_ n4_;clear hb hbox hg;have hcz9_0:w8.cell? ⟨gb112,0,none⟩=some (.int .i64 0):=(af BK112.out 0).trans rfl;have hcz9_1:w8.cell? ⟨gb112,1,none⟩=some (.int .i64 0):=(af BK112.out 1).trans rfl;have hfz9_0:=ah BK112.out 0;have hfz9_1:=ah BK112.out 1))
      (try simp only [Act.put,u1_,u2_,u3_])
      go_cut [24] (fun v24 wc=> ∃ (kq:Nat) (x24_6:Bool),v24= .bool x24_6∧ay (au.j1 kq a1 a2 x7_1 x8_1 l0 (l0.length:Int) x13_1 x24_6 ((aA l0 x13_1).f0) ((aA l0 x13_1).f1)=some r)∧ay (kq≤k1)∧ay (Kd.R iP 121 wc w.heap.size (fun k_=>k_≠gb112) u7 x7_1)∧ay (wc.heap[gb112]?=some (.cells #[.int .i64 ((aA l0 x13_1).f0),.int .i64 ((aA l0 x13_1).f1)] 121 (0,0)))∧ay (Below w.heap.size w wc))
      case first=>
       have H:=HC7.out
       clear HC7
       by_cases c10:x8_1=true
       ·subst c10
        have H1:(au.j1 k1 a1 a2 x7_1 true l0 (l0.length:Int) x13_1 false ((aA l0 x13_1).f0) ((aA l0 x13_1).f1))=some r:=by rw [if_pos rfl] at H;exact H
        clear H
        have H:=H1
        clear H1
        have H':=Am_ H
        clear H
        go_wp2
        go_meet
        case rel=>exact ⟨_,(false),(by first | rfl | (simp;done) | (simp [*];done)),H',⟨by have:=HK1.out;first | omega | exact Nat.le_refl _⟩,⟨by (with_reducible repeat (first | apply Kd.bI | apply Kd.bV | apply Kd.dn));exact Kd.bg (Kd.cB (p:=⟨gb112,1,none⟩) (Kd.cB (p:=⟨gb112,0,none⟩) (Kd.bg HO_7.out (fun k_ hk=>(⟨hk,hk.2⟩:_∧k_≠gb112))) (fun _ hk=>hk.2) (.int .i64 ((aA l0 x13_1).f0))) (fun _ hk=>hk.2) (.int .i64 ((aA l0 x13_1).f1))) (fun _ hk=>hk.1.2)⟩,⟨by (with_reducible repeat (first | refine aG ?_ _ | refine aH ?_ | refine aC ?_ _));refine dP (cs:= #[.int .i64 ((aA l0 x13_1).f0),.int .i64 0]) ?_ 1 _ rfl;(with_reducible repeat (first | refine aG ?_ _ | refine aH ?_ | refine aC ?_ _));refine dP (cs:= #[.int .i64 0,.int .i64 0]) ?_ 0 _ rfl;(with_reducible repeat (first | refine aG ?_ _ | refine aH ?_ | refine aC ?_ _));exact BK112.out⟩,⟨by repeat (first | (with_reducible first | exact HB.out | apply ai | apply aj | apply ak | refine aD ?_ GE112.out) | exact HB.out)⟩⟩
       ·replace c10:=Bool.eq_false_iff.mpr c10
        subst c10
        have H1:(au.j1 k1 a1 a2 x7_1 false l0 (l0.length:Int) x13_1 (decide (((aA l0 x13_1).f0)≥a1)) ((aA l0 x13_1).f0) ((aA l0 x13_1).f1))=some r:=by rw [if_neg (show ¬ (false=true) by decide)] at H;exact H
        clear H
        have H:=H1
        clear H1
        have H':=Am_ H
        clear H
        have hcz11_0:w8.cell? ⟨gb112,0,none⟩=some (.int .i64 0):=(af BK112.out 0).trans rfl
        have hcz11_1:w8.cell? ⟨gb112,1,none⟩=some (.int .i64 0):=(af BK112.out 1).trans rfl
        have hfz11_0:=ah BK112.out 0
        have hfz11_1:=ah BK112.out 1
        go_wp2
        go_meet
        case rel=>exact ⟨_,(decide (((aA l0 x13_1).f0)≥a1)),(by first | rfl | (simp;done) | (simp [*];done)),H',⟨by have:=HK1.out;first | omega | exact Nat.le_refl _⟩,⟨by (with_reducible repeat (first | apply Kd.bI | apply Kd.bV | apply Kd.dn));exact Kd.bg (Kd.cB (p:=⟨gb112,1,none⟩) (Kd.cB (p:=⟨gb112,0,none⟩) (Kd.bg HO_7.out (fun k_ hk=>(⟨hk,hk.2⟩:_∧k_≠gb112))) (fun _ hk=>hk.2) (.int .i64 ((aA l0 x13_1).f0))) (fun _ hk=>hk.2) (.int .i64 ((aA l0 x13_1).f1))) (fun _ hk=>hk.1.2)⟩,⟨by (with_reducible repeat (first | refine aG ?_ _ | refine aH ?_ | refine aC ?_ _));refine dP (cs:= #[.int .i64 ((aA l0 x13_1).f0),.int .i64 0]) ?_ 1 _ rfl;(with_reducible repeat (first | refine aG ?_ _ | refine aH ?_ | refine aC ?_ _));refine dP (cs:= #[.int .i64 0,.int .i64 0]) ?_ 0 _ rfl;(with_reducible repeat (first | refine aG ?_ _ | refine aH ?_ | refine aC ?_ _));exact BK112.out⟩,⟨by repeat (first | (with_reducible first | exact HB.out | apply ai | apply aj | apply ak | refine aD ?_ GE112.out) | exact HB.out)⟩⟩
      case rest=>
       clear HC7
       try clear c1
       try clear p1
       try clear q1
       try clear hx1
       try clear p2
       try clear c4
       try clear c4b0
       try clear c5
       try clear c5b0
       try clear c6
       try clear c6b0
       try clear c10
       try clear p11
       try clear q11
       try clear hx11
       try clear hcz11_0
       try clear hcz11_1
       try clear hcz9_0
       try clear hcz9_1
       try clear hfz11_0
       try clear hfz11_1
       try clear hfz9_0
       try clear hfz9_1
       try clear hx111_0
       try clear hx111_1
       try clear p111
       try clear p2
       try clear q111
       obtain ⟨kq,x24_6,rfl,HA,HJ6,HO_7,BK112,HB⟩:=hcut
       cases kq with
       | zero=>exact absurd HA.out (by simp [au.j1])
       | succ kj6=>
        have H:=HA.out
        clear HA
        simp only [au.j1] at H
        by_cases c12:x24_6=true
        ·subst c12
         have H1:(if x7_1.length<8796093022208 then ((some (x7_1++ [(⟨a1,a2⟩:dh)]:List (dh))).bind fun y113=>(if ((aA l0 x13_1).f0)=a1 then (au.l0 kj6 a1 a2 y113 true l0 (l0.length:Int) (wrap64 (x13_1+1))) else (if y113.length<8796093022208 then (au.l0 kj6 a1 a2 (y113++ [(⟨((aA l0 x13_1).f0),((aA l0 x13_1).f1)⟩:dh)]) true l0 (l0.length:Int) (wrap64 (x13_1+1))) else (none)))) else (none))=some r:=by rw [if_pos rfl] at H;exact H
         clear H
         have H:=H1
         clear H1
         by_cases c13:x7_1.length<8796093022208
         ·rw [if_pos c13] at H
          have LMc13:=Am_ c13
          clear c13
          obtain ⟨y113,hy113⟩: ∃ y_:List (dh),y_=(x7_1++ [(⟨a1,a2⟩:dh)]):=⟨_,rfl⟩
          replace H:(if ((aA l0 x13_1).f0)=a1 then (au.l0 kj6 a1 a2 y113 true l0 (l0.length:Int) (wrap64 (x13_1+1))) else (if y113.length<8796093022208 then (au.l0 kj6 a1 a2 (y113++ [(⟨((aA l0 x13_1).f0),((aA l0 x13_1).f1)⟩:dh)]) true l0 (l0.length:Int) (wrap64 (x13_1+1))) else (none)))=some r:=by first | (rw [hy113];with_reducible exact H) | (have H2_:=(Option.bind_some _ _).symm.trans H;rw [hy113];with_reducible exact H2_) | (have H2_:=(Option.bind_some _ _).symm.trans H;with_reducible exact H2_) | with_reducible exact H | (rw [hy113];exact H) | exact H
          have Ny113:=Am_ hy113
          clear hy113
          by_cases c14:((aA l0 x13_1).f0)=a1
          ·rw [if_pos c14] at H
           have c14b0:(((aA l0 x13_1).f0) == a1)=true:=beq_iff_eq.mpr c14
           have c14b1:(((aA l0 x13_1).f0) != a1)=false:=bne_eq_false_iff_eq.mpr c14
           clear c14
           have H':=Am_ H
           clear H
           go_wp2_with (first | ((with_reducible refine bK (b:= .append) (xs:= #[.tmp 25,.tmp 29]) rfl ?_);at_builtin;refine Kd.eF iP (w0:=w) w.heap.size rfl (.tmp 25) (.tmp 29) 26 121 (.agg #[(.int .i64 0),(.int .i64 0)]) 16 rfl Tryz.underlying26 iL rfl (by decide) (by omega) u7 x7_1 (⟨a1,a2⟩:dh) [.int .i64 a1,.int .i64 a2] (fun k_=>k_≠gb112) (fun _=>False) rfl rfl ?aP (fun _ hk=>hk.elim) ?aF ?aO ?aB ?aS ?aL ?_;(case aP=>exact gM _ _ _ (⟨a1,a2⟩:dh));(case aB=>exact (by repeat (first | (with_reducible first | exact HB.out | apply ai | apply aj | apply ak | refine aD ?_ GE112.out) | exact HB.out)));(case aF=>exact (fun k_ hk=>Kd.jW (g:=gb112) (o:= .cells #[.int .i64 ((aA l0 x13_1).f0),.int .i64 ((aA l0 x13_1).f1)] 121 (0,0)) (by (with_reducible repeat (first | refine aG ?_ _ | refine aH ?_ | refine aC ?_ _));exact BK112.out) k_ hk));(case aO=>exact (by (with_reducible repeat (first | apply Kd.bI | apply Kd.bV | apply Kd.dn));exact HO_7.out));(case aS=>exact (aK (by repeat (first | (with_reducible first | exact HB.out | apply ai | apply aj | apply ak | refine aD ?_ GE112.out) | exact HB.out))));(case aL=>have:=LMc13.out;omega);intro v114 w15 ho hb hg hat;rw [←Ny113.out] at ho;have n0_:=Am_ (bG (g:=gb112) (o:= .cells #[.int .i64 ((aA l0 x13_1).f0),.int .i64 ((aA l0 x13_1).f1)] 121 (0,0)) (by (with_reducible repeat (first | refine aG ?_ _ | refine aH ?_ | refine aC ?_ _));exact BK112.out) hg (Kd.lV HO_7.out (fun _ hk=>hk)));have n1_:=Am_ (hb);have n2_:=Am_ (ho);clear BK112;clear HB;clear HO_7;have BK112:=n0_;have HB:=n1_;have HO115:=n2_;clear n0_ n1_ n2_;clear ho hb hg hat;have hcz16_0:w15.cell? ⟨gb112,0,none⟩=some (.int .i64 ((aA l0 x13_1).f0)):=(af BK112.out 0).trans rfl;have hcz16_1:w15.cell? ⟨gb112,1,none⟩=some (.int .i64 ((aA l0 x13_1).f1)):=(af BK112.out 1).trans rfl;have hfz16_0:=ah BK112.out 0;have hfz16_1:=ah BK112.out 1))
           go_roundg kj6
           case measure=>have:=HK1.out;have:=HJ6.out;omega
           case rel=>exact ⟨(y113),(true),(wrap64 (x13_1+1)),(by first | rfl | (simp;done) | (simp [*];done)),(by first | rfl | (simp;done) | (simp [*];done)),H',⟨by have:=HK1.out;have:=HJ6.out;omega⟩,⟨by (with_reducible repeat (first | apply Kd.bI | apply Kd.bV | apply Kd.dn));exact Kd.bg HO115.out (fun _ hk=>trivial)⟩,⟨by repeat (first | (with_reducible first | exact HB.out | apply ai | apply aj | apply ak | refine aD ?_ GE112.out) | exact HB.out)⟩⟩
          ·rw [if_neg c14] at H
           have c14b0:(((aA l0 x13_1).f0) == a1)=false:=beq_eq_false_iff_ne.mpr c14
           have c14b1:(((aA l0 x13_1).f0) != a1)=true:=bne_iff_ne.mpr c14
           by_cases c17:y113.length<8796093022208
           ·rw [if_pos c17] at H
            have LMc17:=Am_ c17
            clear c17
            obtain ⟨y116,hy116⟩: ∃ y_:List (dh),y_=(y113++ [(⟨((aA l0 x13_1).f0),((aA l0 x13_1).f1)⟩:dh)]):=⟨_,rfl⟩
            replace H:(au.l0 kj6 a1 a2 y116 true l0 (l0.length:Int) (wrap64 (x13_1+1)))=some r:=by first | (rw [hy116];with_reducible exact H) | (have H2_:=(Option.bind_some _ _).symm.trans H;rw [hy116];with_reducible exact H2_) | (have H2_:=(Option.bind_some _ _).symm.trans H;with_reducible exact H2_) | with_reducible exact H | (rw [hy116];exact H) | exact H
            have Ny116:=Am_ hy116
            clear hy116
            have H':=Am_ H
            clear H
            go_wp2_with (first | ((with_reducible refine bK (b:= .append) (xs:= #[.tmp 25,.tmp 29]) rfl ?_);at_builtin;refine Kd.eF iP (w0:=w) w.heap.size rfl (.tmp 25) (.tmp 29) 26 121 (.agg #[(.int .i64 0),(.int .i64 0)]) 16 rfl Tryz.underlying26 iL rfl (by decide) (by omega) u7 x7_1 (⟨a1,a2⟩:dh) [.int .i64 a1,.int .i64 a2] (fun k_=>k_≠gb112) (fun _=>False) rfl rfl ?aP (fun _ hk=>hk.elim) ?aF ?aO ?aB ?aS ?aL ?_;(case aP=>exact gM _ _ _ (⟨a1,a2⟩:dh));(case aB=>exact (by repeat (first | (with_reducible first | exact HB.out | apply ai | apply aj | apply ak | refine aD ?_ GE112.out) | exact HB.out)));(case aF=>exact (fun k_ hk=>Kd.jW (g:=gb112) (o:= .cells #[.int .i64 ((aA l0 x13_1).f0),.int .i64 ((aA l0 x13_1).f1)] 121 (0,0)) (by (with_reducible repeat (first | refine aG ?_ _ | refine aH ?_ | refine aC ?_ _));exact BK112.out) k_ hk));(case aO=>exact (by (with_reducible repeat (first | apply Kd.bI | apply Kd.bV | apply Kd.dn));exact HO_7.out));(case aS=>exact (aK (by repeat (first | (with_reducible first | exact HB.out | apply ai | apply aj | apply ak | refine aD ?_ GE112.out) | exact HB.out))));(case aL=>have:=LMc13.out;omega);intro v114 w18 ho hb hg hat;rw [←Ny113.out] at ho;have n0_:=Am_ (bG (g:=gb112) (o:= .cells #[.int .i64 ((aA l0 x13_1).f0),.int .i64 ((aA l0 x13_1).f1)] 121 (0,0)) (by (with_reducible repeat (first | refine aG ?_ _ | refine aH ?_ | refine aC ?_ _));exact BK112.out) hg (Kd.lV HO_7.out (fun _ hk=>hk)));have n1_:=Am_ (hb);have n2_:=Am_ (ho);clear BK112;clear HB;clear HO_7;have BK112:=n0_;have HB:=n1_;have HO115:=n2_;clear n0_ n1_ n2_;clear ho hb hg hat;have hcz19_0:w18.cell? ⟨gb112,0,none⟩=some (.int .i64 ((aA l0 x13_1).f0)):=(af BK112.out 0).trans rfl;have hcz19_1:w18.cell? ⟨gb112,1,none⟩=some (.int .i64 ((aA l0 x13_1).f1)):=(af BK112.out 1).trans rfl;have hfz19_0:=ah BK112.out 0;have hfz19_1:=ah BK112.out 1) | ((with_reducible refine bK (b:= .append) (xs:= #[.tmp 35,.tmp 37]) rfl ?_);at_builtin;refine Kd.eF iP (w0:=w) w.heap.size rfl (.tmp 35) (.tmp 37) 26 121 (.agg #[(.int .i64 0),(.int .i64 0)]) 16 rfl Tryz.underlying26 iL rfl (by decide) (by omega) v114 y113 (⟨((aA l0 x13_1).f0),((aA l0 x13_1).f1)⟩:dh) [.int .i64 ((aA l0 x13_1).f0),.int .i64 ((aA l0 x13_1).f1)] (fun k_=>k_≠gb112) (fun _=>False) rfl rfl ?aP (fun _ hk=>hk.elim) ?aF ?aO ?aB ?aS ?aL ?_;(case aP=>exact gM _ _ _ (⟨((aA l0 x13_1).f0),((aA l0 x13_1).f1)⟩:dh));(case aB=>exact (by repeat (first | (with_reducible first | exact HB.out | apply ai | apply aj | apply ak | refine aD ?_ GE112.out) | exact HB.out)));(case aF=>exact (fun k_ hk=>Kd.jW (g:=gb112) (o:= .cells #[.int .i64 ((aA l0 x13_1).f0),.int .i64 ((aA l0 x13_1).f1)] 121 (0,0)) (by (with_reducible repeat (first | refine aG ?_ _ | refine aH ?_ | refine aC ?_ _));exact BK112.out) k_ hk));(case aO=>exact (by (with_reducible repeat (first | apply Kd.bI | apply Kd.bV | apply Kd.dn));exact HO115.out));(case aS=>exact (aK (by repeat (first | (with_reducible first | exact HB.out | apply ai | apply aj | apply ak | refine aD ?_ GE112.out) | exact HB.out))));(case aL=>have:=LMc17.out;omega);intro v117 w20 ho hb hg hat;rw [←Ny116.out] at ho;have n0_:=Am_ (bG (g:=gb112) (o:= .cells #[.int .i64 ((aA l0 x13_1).f0),.int .i64 ((aA l0 x13_1).f1)] 121 (0,0)) (by (with_reducible repeat (first | refine aG ?_ _ | refine aH ?_ | refine aC ?_ _));exact BK112.out) hg (Kd.lV HO115.out (fun _ hk=>hk)));have n1_:=Am_ (hb);have n2_:=Am_ (ho);clear BK112;clear HB;clear HO115;have BK112:=n0_;have HB:=n1_;have HO118:=n2_;clear n0_ n1_ n2_;clear ho hb hg hat))
            go_roundg kj6
            case measure=>have:=HK1.out;have:=HJ6.out;omega
            case rel=>exact ⟨(y116),(true),(wrap64 (x13_1+1)),(by first | rfl | (simp;done) | (simp [*];done)),(by first | rfl | (simp;done) | (simp [*];done)),H',⟨by have:=HK1.out;have:=HJ6.out;omega⟩,⟨by (with_reducible repeat (first | apply Kd.bI | apply Kd.bV | apply Kd.dn));exact Kd.bg HO118.out (fun _ hk=>trivial)⟩,⟨by repeat (first | (with_reducible first | exact HB.out | apply ai | apply aj | apply ak | refine aD ?_ GE112.out) | exact HB.out)⟩⟩
           ·rw [if_neg c17] at H
            exact absurd H (by simp)
         ·rw [if_neg c13] at H
          exact absurd H (by simp)
        ·replace c12:=Bool.eq_false_iff.mpr c12
         subst c12
         have H1:(if ((aA l0 x13_1).f0)=a1 then (au.l0 kj6 a1 a2 x7_1 x8_1 l0 (l0.length:Int) (wrap64 (x13_1+1))) else (if x7_1.length<8796093022208 then (au.l0 kj6 a1 a2 (x7_1++ [(⟨((aA l0 x13_1).f0),((aA l0 x13_1).f1)⟩:dh)]) x8_1 l0 (l0.length:Int) (wrap64 (x13_1+1))) else (none)))=some r:=by rw [if_neg (show ¬ (false=true) by decide)] at H;exact H
         clear H
         have H:=H1
         clear H1
         by_cases c21:((aA l0 x13_1).f0)=a1
         ·rw [if_pos c21] at H
          have c21b0:(((aA l0 x13_1).f0) == a1)=true:=beq_iff_eq.mpr c21
          have c21b1:(((aA l0 x13_1).f0) != a1)=false:=bne_eq_false_iff_eq.mpr c21
          clear c21
          have H':=Am_ H
          clear H
          have hcz22_0:wc.cell? ⟨gb112,0,none⟩=some (.int .i64 ((aA l0 x13_1).f0)):=(af BK112.out 0).trans rfl
          have hcz22_1:wc.cell? ⟨gb112,1,none⟩=some (.int .i64 ((aA l0 x13_1).f1)):=(af BK112.out 1).trans rfl
          have hfz22_0:=ah BK112.out 0
          have hfz22_1:=ah BK112.out 1
          go_wp2
          go_roundg kj6
          case measure=>have:=HK1.out;have:=HJ6.out;omega
          case rel=>exact ⟨(x7_1),(x8_1),(wrap64 (x13_1+1)),(by first | rfl | (simp;done) | (simp [*];done)),(by first | rfl | (simp;done) | (simp [*];done)),H',⟨by have:=HK1.out;have:=HJ6.out;omega⟩,⟨by (with_reducible repeat (first | apply Kd.bI | apply Kd.bV | apply Kd.dn));exact Kd.bg HO_7.out (fun _ hk=>trivial)⟩,⟨by repeat (first | (with_reducible first | exact HB.out | apply ai | apply aj | apply ak | refine aD ?_ GE112.out) | exact HB.out)⟩⟩
         ·rw [if_neg c21] at H
          have c21b0:(((aA l0 x13_1).f0) == a1)=false:=beq_eq_false_iff_ne.mpr c21
          have c21b1:(((aA l0 x13_1).f0) != a1)=true:=bne_iff_ne.mpr c21
          by_cases c23:x7_1.length<8796093022208
          ·rw [if_pos c23] at H
           have LMc23:=Am_ c23
           clear c23
           obtain ⟨y119,hy119⟩: ∃ y_:List (dh),y_=(x7_1++ [(⟨((aA l0 x13_1).f0),((aA l0 x13_1).f1)⟩:dh)]):=⟨_,rfl⟩
           replace H:(au.l0 kj6 a1 a2 y119 x8_1 l0 (l0.length:Int) (wrap64 (x13_1+1)))=some r:=by first | (rw [hy119];with_reducible exact H) | (have H2_:=(Option.bind_some _ _).symm.trans H;rw [hy119];with_reducible exact H2_) | (have H2_:=(Option.bind_some _ _).symm.trans H;with_reducible exact H2_) | with_reducible exact H | (rw [hy119];exact H) | exact H
           have Ny119:=Am_ hy119
           clear hy119
           have H':=Am_ H
           clear H
           have hcz24_0:wc.cell? ⟨gb112,0,none⟩=some (.int .i64 ((aA l0 x13_1).f0)):=(af BK112.out 0).trans rfl
           have hcz24_1:wc.cell? ⟨gb112,1,none⟩=some (.int .i64 ((aA l0 x13_1).f1)):=(af BK112.out 1).trans rfl
           have hfz24_0:=ah BK112.out 0
           have hfz24_1:=ah BK112.out 1
           go_wp2_with (first | ((with_reducible refine bK (b:= .append) (xs:= #[.tmp 35,.tmp 37]) rfl ?_);at_builtin;refine Kd.eF iP (w0:=w) w.heap.size rfl (.tmp 35) (.tmp 37) 26 121 (.agg #[(.int .i64 0),(.int .i64 0)]) 16 rfl Tryz.underlying26 iL rfl (by decide) (by omega) u7 x7_1 (⟨((aA l0 x13_1).f0),((aA l0 x13_1).f1)⟩:dh) [.int .i64 ((aA l0 x13_1).f0),.int .i64 ((aA l0 x13_1).f1)] (fun k_=>k_≠gb112) (fun _=>False) rfl rfl ?aP (fun _ hk=>hk.elim) ?aF ?aO ?aB ?aS ?aL ?_;(case aP=>exact gM _ _ _ (⟨((aA l0 x13_1).f0),((aA l0 x13_1).f1)⟩:dh));(case aB=>exact (by repeat (first | (with_reducible first | exact HB.out | apply ai | apply aj | apply ak | refine aD ?_ GE112.out) | exact HB.out)));(case aF=>exact (fun k_ hk=>Kd.jW (g:=gb112) (o:= .cells #[.int .i64 ((aA l0 x13_1).f0),.int .i64 ((aA l0 x13_1).f1)] 121 (0,0)) (by (with_reducible repeat (first | refine aG ?_ _ | refine aH ?_ | refine aC ?_ _));exact BK112.out) k_ hk));(case aO=>exact (by (with_reducible repeat (first | apply Kd.bI | apply Kd.bV | apply Kd.dn));exact HO_7.out));(case aS=>exact (aK (by repeat (first | (with_reducible first | exact HB.out | apply ai | apply aj | apply ak | refine aD ?_ GE112.out) | exact HB.out))));(case aL=>have:=LMc23.out;omega);intro v120 w25 ho hb hg hat;rw [←Ny119.out] at ho;have n0_:=Am_ (bG (g:=gb112) (o:= .cells #[.int .i64 ((aA l0 x13_1).f0),.int .i64 ((aA l0 x13_1).f1)] 121 (0,0)) (by (with_reducible repeat (first | refine aG ?_ _ | refine aH ?_ | refine aC ?_ _));exact BK112.out) hg (Kd.lV HO_7.out (fun _ hk=>hk)));have n1_:=Am_ (hb);have n2_:=Am_ (ho);clear BK112;clear HB;clear HO_7;have BK112:=n0_;have HB:=n1_;have HO121:=n2_;clear n0_ n1_ n2_;clear ho hb hg hat))
           go_roundg kj6
           case measure=>have:=HK1.out;have:=HJ6.out;omega
           case rel=>exact ⟨(y119),(x8_1),(wrap64 (x13_1+1)),(by first | rfl | (simp;done) | (simp [*];done)),(by first | rfl | (simp;done) | (simp [*];done)),H',⟨by have:=HK1.out;have:=HJ6.out;omega⟩,⟨by (with_reducible repeat (first | apply Kd.bI | apply Kd.bV | apply Kd.dn));exact Kd.bg HO121.out (fun _ hk=>trivial)⟩,⟨by repeat (first | (with_reducible first | exact HB.out | apply ai | apply aj | apply ak | refine aD ?_ GE112.out) | exact HB.out)⟩⟩
          ·rw [if_neg c23] at H
           exact absurd H (by simp)
     ·rw [if_neg c6] at H
      exact absurd H (by simp)
    ·rw [if_neg c5] at H
     exact absurd H (by simp)
   ·rw [if_neg c4] at H
    have c4b0:decide (x13_1<(l0.length:Int))=false:=decide_eq_false c4
    clear c4
    by_cases c26:x8_1=true
    ·subst c26
     have H1:(some x7_1)=some r:=by rw [if_pos rfl] at H;exact H
     clear H
     have H:=H1
     clear H1
     obtain rfl:=Option.some.inj H
     go_wp2
     go_ret
     exact ⟨_,by first | rfl | (simp [bq,bA]<;>rfl) | (simp [*,bq,bA]<;>rfl),by (with_reducible repeat (first | apply Kd.bI | apply Kd.bV | apply Kd.dn));exact HO_7.out,by repeat (first | (with_reducible first | exact HB.out | apply ai | apply aj | apply ak) | exact HB.out)⟩
    ·replace c26:=Bool.eq_false_iff.mpr c26
     subst c26
     have H1:(if x7_1.length<8796093022208 then (some (x7_1++ [(⟨a1,a2⟩:dh)])) else (none))=some r:=by rw [if_neg (show ¬ (false=true) by decide)] at H;exact H
     clear H
     have H:=H1
     clear H1
     by_cases c27:x7_1.length<8796093022208
     ·rw [if_pos c27] at H
      have LMc27:=Am_ c27
      clear c27
      obtain ⟨y108,hy108⟩: ∃ y_:List (dh),y_=(x7_1++ [(⟨a1,a2⟩:dh)]):=⟨_,rfl⟩
      replace H:(some y108)=some r:=by first | (rw [hy108];with_reducible exact H) | (have H2_:=(Option.bind_some _ _).symm.trans H;rw [hy108];with_reducible exact H2_) | (have H2_:=(Option.bind_some _ _).symm.trans H;with_reducible exact H2_) | with_reducible exact H | (rw [hy108];exact H) | exact H
      have Ny108:=Am_ hy108
      clear hy108
      obtain rfl:=Option.some.inj H
      go_wp2_with (first | ((with_reducible refine bK (b:= .append) (xs:= #[.tmp 42,.tmp 46]) rfl ?_);at_builtin;refine Kd.eF iP (w0:=w) w.heap.size rfl (.tmp 42) (.tmp 46) 26 121 (.agg #[(.int .i64 0),(.int .i64 0)]) 16 rfl Tryz.underlying26 iL rfl (by decide) (by omega) u7 x7_1 (⟨a1,a2⟩:dh) [.int .i64 a1,.int .i64 a2] (fun _=>True) (fun _=>False) rfl rfl ?aP (fun _ hk=>hk.elim) ?aF ?aO ?aB ?aS ?aL ?_;(case aP=>exact gM _ _ _ (⟨a1,a2⟩:dh));(case aB=>exact (by repeat (first | (with_reducible first | exact HB.out | apply ai | apply aj | apply ak) | exact HB.out)));(case aF=>exact (fun _ _=>trivial));(case aO=>exact (by (with_reducible repeat (first | apply Kd.bI | apply Kd.bV | apply Kd.dn));exact HO_7.out));(case aS=>exact (aK (by repeat (first | (with_reducible first | exact HB.out | apply ai | apply aj | apply ak) | exact HB.out))));(case aL=>have:=LMc27.out;omega);intro v109 w28 ho hb hg hat;rw [←Ny108.out] at ho;have n0_:=Am_ (hb);have n1_:=Am_ (ho);clear HB;clear HO_7;have HB:=n0_;have HO110:=n1_;clear n0_ n1_;clear ho hb hg hat))
      go_ret
      exact ⟨_,by first | rfl | (simp [bq,bA]<;>rfl) | (simp [*,bq,bA]<;>rfl),by (with_reducible repeat (first | apply Kd.bI | apply Kd.bV | apply Kd.dn));exact HO110.out,by repeat (first | (with_reducible first | exact HB.out | apply ai | apply aj | apply ak) | exact HB.out)⟩
     ·rw [if_neg c27] at H
      exact absurd H (by simp)
def aQ.l0:Nat→List (dh)→List Int→Int→Int→Option ((List (dh)))
 | 0,_,_,_,_=>none
 | k+1,x3,x6,x7,x8=>if x8<x7 then (if 0≤x8 then (if x8<(x6.length:Int) then ((au.f k x3 (rd x6 x8) (wrap64 (x8+100))).bind fun t123=>(aQ.l0 k t123 x6 x7 (wrap64 (x8+1)))) else (none)) else (none)) else (some x3)
def aQ.f (k:Nat) (l0:List Int):Option ((List (dh))):=aQ.l0 k ([]:List (dh)) l0 (l0.length:Int) 0
theorem aQ.calls (k:Nat) (A0:Option Addr) (c0:Nat) (l0:List Int) (r:List (dh)) (w:World) (hr0:Kd.C (Kd.int .i64) w A0 l0.length l0) (hc0:l0.length≤c0) (h:aQ.f k l0=some r):
  Calls Tryz.prog 12 #[.slice A0 l0.length c0] w fun e w'=> ∃ v0_:Value,e= .returned (v0_)∧Kd.R iP 121 w' w.heap.size (fun _=>True) v0_ r∧Below w.heap.size w w':=by
 have HR0:=Am_ hr0
 have HC0:=Am_ hc0
 clear hr0 hc0
 have HB:=Am_ (Below.refl w.heap.size w)
 have H:(aQ.l0 k ([]:List (dh)) l0 (l0.length:Int) 0)=some r:=h
 clear h
 have H':=Am_ H
 clear H
 go_enter Tryz.func12,Tryz.ntmps12
 go_wp2
 go_loopg [3,8] k (fun kq v3 v8 w'=> ∃ (x3_1:List (dh)) (x8_1:Int),v8= .int .i64 x8_1∧ay (aQ.l0 kq x3_1 l0 (l0.length:Int) x8_1=some r)∧ay (kq≤k)∧ay (Kd.R iP 121 w' w.heap.size (fun _=>True) v3 x3_1)∧ay (Below w.heap.size w w'))
 case atStart=>exact ⟨(([]:List (dh))),(0),(by first | rfl | (simp;done) | (simp [*];done)),H',⟨Nat.le_refl _⟩,⟨by first | exact Kd.fB _ _ _ _ _ | exact Kd.vL _ _ _ _ _ | exact Kd.vP _ _ _ _ _ | exact Kd.qH _ _ _ _ _ | exact Kd.vO _ _ _ _ _⟩,⟨by repeat (first | (with_reducible first | exact HB.out | apply ai | apply aj | apply ak) | exact HB.out)⟩⟩
 case round=>
  clear H'
  try clear c1
  obtain ⟨x3_1,x8_1,rfl,HA,HK1,HO_3,HB⟩:=hrel
  cases gk with
  | zero=>exact absurd HA.out (by simp [aQ.l0])
  | succ k1=>
   have H:=HA.out
   clear HA
   simp only [aQ.l0] at H
   by_cases c2:x8_1<(l0.length:Int)
   ·rw [if_pos c2] at H
    have c2b0:decide (x8_1<(l0.length:Int))=true:=decide_eq_true c2
    clear c2
    by_cases c3:0≤x8_1
    ·rw [if_pos c3] at H
     have c3b0:decide (0≤x8_1)=true:=decide_eq_true c3
     clear c3
     by_cases c4:x8_1<(l0.length:Int)
     ·rw [if_pos c4] at H
      have c4b0:decide (x8_1<(l0.length:Int))=true:=decide_eq_true c4
      clear c4
      replace H:=Option.bind_eq_some_iff.mp H
      obtain ⟨t123,A50,H⟩:=H
      replace H:(aQ.l0 k1 t123 l0 (l0.length:Int) (wrap64 (x8_1+1)))=some r:=H
      have A5:=Am_ A50
      clear A50
      have H':=Am_ H
      clear H
      have p122:0≤(x8_1:Int):=of_decide_eq_true (by first | (with_reducible assumption) | assumption)
      have q122:x8_1<(l0.length:Int):=of_decide_eq_true (by first | (with_reducible assumption) | assumption)
      obtain ⟨ad122,e122,hx122_0⟩:=Kd.jJ HR0.out x8_1 p122 q122
      cases e122
      replace hx122_0:=(HB.out.cell (World.block_lt_of_cell? w _ hx122_0)).trans hx122_0
      replace p122:=eq_true p122
      replace q122:=eq_true q122
      obtain ⟨Ao6,co6,eo6⟩:=Kd.aV HO_3.out
      subst eo6
      go_wp2_with (first | ((with_reducible refine gP (f:=16) rfl ?_);refine mW (some 17) rfl rfl Tryz.func16 (by kernel_rfl) rfl #[.slice Ao6 x3_1.length co6,.int .i64 (rd l0 x8_1),.int .i64 (wrap64 (x8_1+100))] rfl (by (try simp only [List.map_toArray,List.map_cons,List.map_nil]);first | done | rfl | (simp only [List.length_drop,List.length_take];rfl)) ?_;(with_reducible refine (au.calls k1 _ _ x3_1 (rd l0 x8_1) (wrap64 (x8_1+100)) t123 _ ?side1 ?side2 A5.out).mono ?_);(case side1=>repeat (first | exact (Kd.bS HO_3.out).2.2 | (with_reducible refine Kd.fT ?_ _) | (with_reducible refine Kd.fU ?_ _) | (with_reducible refine Kd.iC ?_)));(case side2=>exact (Kd.bS HO_3.out).2.1);rintro e w7 ⟨v124,rfl,ho0,hb⟩;refine ⟨_,rfl,?_⟩;have n0_:=Am_ (Kd.pO (by (with_reducible repeat (first | apply Kd.bI | apply Kd.bV | apply Kd.dn));exact HO_3.out) (Kd.iD ho0) hb);have n1_:=Am_ (Kd.eT (Kd.yh ho0 (Kd.oH (by (with_reducible repeat (first | apply Kd.bI | apply Kd.bV | apply Kd.dn));exact HO_3.out))) (aK (by repeat (first | (with_reducible first | exact HB.out | apply ai | apply aj | apply ak) | exact HB.out))));have n2_:=Am_ (bC (by repeat (first | (with_reducible first | exact HB.out | apply ai | apply aj | apply ak) | exact HB.out)) hb);clear HO_3;clear HB;have HO_3:=n0_;have HO125:=n1_;have HB:=n2_;clear n0_ n1_ n2_;(try clear hb);(try clear hb2);(try clear hk);(try clear hi);(try clear ho0)))
      go_roundg k1
      case measure=>have:=HK1.out;omega
      case rel=>exact ⟨(t123),(wrap64 (x8_1+1)),(by first | rfl | (simp;done) | (simp [*];done)),H',⟨by have:=HK1.out;omega⟩,⟨by (with_reducible repeat (first | apply Kd.bI | apply Kd.bV | apply Kd.dn));exact Kd.bg HO125.out (fun _ hk=>trivial)⟩,⟨by repeat (first | (with_reducible first | exact HB.out | apply ai | apply aj | apply ak) | exact HB.out)⟩⟩
     ·rw [if_neg c4] at H
      exact absurd H (by simp)
    ·rw [if_neg c3] at H
     exact absurd H (by simp)
   ·rw [if_neg c2] at H
    have c2b0:decide (x8_1<(l0.length:Int))=false:=decide_eq_false c2
    clear c2
    obtain rfl:=Option.some.inj H
    go_wp2
    go_ret
    exact ⟨_,by first | rfl | (simp [bq,bA]<;>rfl) | (simp [*,bq,bA]<;>rfl),by (with_reducible repeat (first | apply Kd.bI | apply Kd.bV | apply Kd.dn));exact HO_3.out,by repeat (first | (with_reducible first | exact HB.out | apply ai | apply aj | apply ak) | exact HB.out)⟩
end Go.Proofs.YtmnjjdeaccgjlaaGreat.PAskAlone
namespace Go.Proofs.YtmnjjdeaccgjlaaGreat.Tower
open Go Go.RowKit Go.Proofs.YtmnjjdeaccgjlaaGreatW.PrintWords Go.Proofs.YtmnjjdeaccgjlaaGreatW.PrintLast Go.Proofs.YtmnjjdeaccgjlaaGreatW.PrintMore Go.Proofs.YtmnjjdeaccgjlaaGreat.Own Go.Proofs.YtmnjjdeaccgjlaaGreat.PAskAlone
def prs (l:List Int) (i:Nat):Nat→List dh
 | 0=> []
 | m+1=>⟨l.getD i 0,l.getD (i+1) 0⟩::prs l (i+2) m
theorem Ff (l:List Int) (i:Nat):rd l (i:Int)=l.getD i 0:=by simp [rd]
theorem qK (x0:List Int) (a:Int) (b:Bool) (c d:Int) (e:Bool) (hl:x0.length<1000): ∀ (m k i:Nat) (acc:List dh),x0.length=i+2*m→m<k→acc.length+m<1000→aW.l0 k x0 (i:Int) a b c d acc e=some (a,b,c,d,acc++prs x0 i m,e)
 | 0,k+1,i,acc,h1,h2,h3=>by
  unfold aW.l0
  rw [if_neg (by omega)]
  simp [prs]
 | m+1,k+1,i,acc,h1,h2,h3=>by
  unfold aW.l0
  have w1:wrap64 ((i:Int)+1)=((i+1:Nat):Int):=by unfold wrap64;omega
  have w2:wrap64 ((i:Int)+2)=((i+2:Nat):Int):=by unfold wrap64;omega
  rw [w1,w2,if_pos (by omega),if_pos (by omega),if_pos (by omega),if_pos (by omega),if_pos (by omega),Ff,Ff,qK x0 a b c d e hl m k (i+2) _ (by omega) (by omega) (by simp;omega)]
  simp [prs]
theorem CX (k:Nat) (l:List Int) (h:5≤l.length):aW.j0 (k+1) l false=aW.l0 k l 5 (rd l 0) (rd l 1 == 1) (rd l 2) (rd l 3) [] (rd l 4 == 1):=by
 unfold aW.j0
 dsimp only
 rw [if_neg (by decide),if_pos (by omega),if_pos (by omega),if_pos (by omega),if_pos (by omega),if_pos (by omega)]
theorem sH (l:List Int) (m:Nat) (h:l.length=5+2*m) (hm:m<100):aW.f 1000 l=some (rd l 0,rd l 1 == 1,rd l 2,rd l 3,prs l 5 m,rd l 4 == 1):=by
 unfold aW.f
 have h2:(((l.length:Int) % 2) == 0)=false:=by simp;omega
 rw [if_neg (by omega),h2,CX 999 l (by omega)]
 have:=qK l (rd l 0) (rd l 1 == 1) (rd l 2) (rd l 3) (rd l 4 == 1) (by omega) m 999 5 [] (by omega) (by omega) (by simp;omega)
 simpa using this
def yN:Bool × List (List Nat × List Nat):=(true,[([],[]),([0],[0]),([1],[1]),([2],[2]),([],[]),([],[]),([5],[5]),([6],[6]),([7],[7]),([],[]),([],[]),([10],[10]),([11],[11]),([12],[12]),([],[]),([],[]),([13,14,15],[13,14,15]),([],[]),([17],[17]),([18],[18]),([19],[19]),([20],[20]),([3,4,0,1,2,3,4,8,10,11,12,13,14,15,16,20],[3,4]),([22,16,16,0,1,2,3,4,8,10,11,12,13,14,15,16,20],[16,22]),([8,9,0,1,2,3,4,5,6,7,8,9,10,11,12,13,14,15,16,17,18,19,20,21,22,23],[8,9]),([24,21,23,0,1,2,3,4,5,6,7,8,9,10,11,12,13,14,15,16,17,18,19,20,21,22,23],[21,24])])
def FL:List Nat:= [0,1,3,7,0,0,32,96,224,0,0,1024,3072,7168,0,0,64512,0,131072,393216,917504,1966080,2096639,6290943,16777215,33554431]
theorem BK:fG .any (opsOf Tryz.f26 11)=yN:=by kernel_rfl
theorem wD:bM yN.2 FL=true:=by kernel_rfl
def yO:Bool × List (List Nat × List Nat):=(true,[([],[]),([],[]),([1],[1]),([2],[2]),([3],[3]),([],[]),([],[]),([],[]),([7],[7]),([8],[8]),([9],[9]),([5,6,10],[5,6,10]),([11],[11]),([4,12],[4,12]),([0,0,1,2,3,4,5,6,7,8,9,10,11,12,13],[0]),([14,0,1,2,3,4,5,6,7,8,9,10,11,12,13],[14]),([15,13,13,0,1,2,3,4,5,6,7,8,9,10,11,12,13],[13,15])])
def FM:List Nat:= [0,0,2,6,14,0,0,0,128,384,896,2016,4064,8190,16383,32767,65535]
theorem BL:fG .any (opsOf Tryz.f26 12)=yO:=by kernel_rfl
theorem wE:bM yO.2 FM=true:=by kernel_rfl
structure yu (sb p t:Nat) (S:Stg) (o:Opn) (ok:Nat→Prop) (w:World) (e:Ending) (w1:World):Prop where
 out:e= .returned (.int .i64 0)∧ ∃ ok1,iT ok1 sb p (S.start t o) t o [] w1∧Moves ok ok1 w w1
theorem xO {sb p t tb bw bm bo:Nat} {S1:Stg} {o:Opn} {okB okB1 okW ok:Nat→Prop} {b1:SB} {ρ1:Nat→Nat} {w w4 wF:World} (h0:Moves ok (fun k=>okB k∨okW k) w w4) (hF:StS sb p S1 ((List.replicate S1.n jc).set t (nW tb)) okB1 okW b1 ρ1 (shW p S1.ws) (fun k=>okB k∨okW k) w4 wF)
  (T:dJ (fun k=>k=tb) tb (ko bw bm bo) th0 w4) (X:jT p t o bw bm bo (fun _=>False) w4) (N:tb≠bw∧tb≠bm∧tb≠bo) (ht:t<S1.n) (hn: ∀ q,(okB q∨okW q)→q≠tb∧q≠bw∧q≠bm∧q≠bo) (hw:w.heap.size≤tb): ∃ ok1,iT ok1 sb p S1 t o [] wF∧Moves ok ok1 w wF:=by
 have htb:=T.lt tb rfl
 have hX:jT p t o bw bm bo (fun k=>okB k∨okW k) w4:=⟨⟨X.hw.1,fun h=>(hn bw h).2.1 rfl⟩,⟨X.hm.1,fun h=>(hn bm h).2.2.1 rfl⟩,⟨X.ho.1,fun h=>(hn bo h).2.2.2 rfl⟩⟩
 have hX1:=jT.moves _ _ _ _ hX hF.mv
 have hnt: ¬ (okB1 tb∨okW tb):=fun h=>(hF.mv.fresh tb h).elim (fun h=>(hn tb h).1 rfl) (fun h=>by omega)
 have hT:=T.step hF.mv.size (fun k hk hlt=>hF.mv.block k hlt (fun h=>(hn k h).1 hk))
 refine ⟨fun k=>okB1 k∨(k=tb∨okW k),⟨okB1,fun k=>k=tb∨okW k,b1,ρ1,tb,bw,bm,bo,0,false,fun _=>Iff.rfl,?_,hF.bx,hF.sf,ht,by simp,⟨fun k=>k=tb,okW,fun _=>Iff.rfl,?_,hT,hF.sh⟩,⟨⟨hX1.hw.1,?_⟩,⟨hX1.hm.1,?_⟩,⟨hX1.ho.1,?_⟩⟩⟩,(h0.trans hF.mv).owns ?_⟩
 ·rintro k h1 (rfl | h2)
  ·exact hnt (.inl h1)
  ·exact hF.dj k h1 h2
 ·rintro k rfl h2
  exact hnt (.inr h2)
 ·rintro (h | h | h)
  ·exact hX1.hw.2 (.inl h)
  ·exact N.1 h.symm
  ·exact hX1.hw.2 (.inr h)
 ·rintro (h | h | h)
  ·exact hX1.hm.2 (.inl h)
  ·exact N.2.1 h.symm
  ·exact hX1.hm.2 (.inr h)
 ·rintro (h | h | h)
  ·exact hX1.ho.2 (.inl h)
  ·exact N.2.2 h.symm
  ·exact hX1.ho.2 (.inr h)
 ·rintro k (h | h | h)
  ·exact (h0.trans hF.mv).fresh k (.inl h)
  ·exact .inr (by omega)
  ·exact (h0.trans hF.mv).fresh k (.inr h)
theorem qw (sb p t:Nat) (S:Stg) (o:Opn) (ok:Nat→Prop) (w:World) (h:eX ok sb p S w) (ht:t<S.n) (hev:S.evs.length<999999) (hk0:0≤o.kind) (hk:o.kind<12):
  Calls Tryz.prog 26 #[.pointer (some ⟨sb,0,none⟩),.int .i64 t,opV o] w (yu sb p t S o ok w):=by
 have HOV:opV o= .agg #[.int .u8 o.kind,.int .i64 o.key,.int .i64 o.upto,.int .i64 o.value]:=rfl
 rw [HOV]
 clear HOV
 obtain ⟨okB,okW,b,ρ,h1,h2,h3,h4,h5⟩:=h.out
 have hl:(List.replicate S.n jc).length=S.n:=by simp
 obtain ⟨gt,ct,gh,ch,ga,ca,Ae,ce,hv⟩:=h3.vals h4 hl ht
 have hm:Moves ok (fun k=>okB k∨okW k) w w:=(Moves.refl ok w).owns (fun k hk=> .inl ((h1 k).2 hk))
 have hs:StS sb p S (List.replicate S.n jc) okB okW b ρ (shW p S.ws) ok w w:=⟨h3,h4,hl,Bj p S.ws,h5,h2,hm⟩
 have K1:=Am_ (Mine.new hs.lt (.cells #[.int .u8 o.kind,.int .i64 o.key,.int .i64 o.upto,.int .i64 o.value] 52))
 have H1:=Am_ (hs.below (ai (Below.refl _ _) (.cells #[.int .u8 o.kind,.int .i64 o.key,.int .i64 o.upto,.int .i64 o.value] 52)))
 have HTH:ay ((List.replicate S.n jc)[t]?=some [.pointer none]):=⟨by rw [List.getElem?_replicate,if_pos ht];rfl⟩
 have HT:=Am_ (And.intro ht hev)
 have VV:=Am_ hv
 have b1:(0:Int)≤(t:Int):=by omega
 have b2:(t:Int)<(S.n:Int):=by omega
 have d1:decide ((t:Int)<0)=false:=decide_eq_false (by omega)
 have d2:decide ((t:Int)≥(S.n:Int))=false:=decide_eq_false (by omega)
 have d3:decide ((S.n:Int)≤(t:Int))=false:=decide_eq_false (by omega)
 have d4:decide (S.n≤t)=false:=decide_eq_false (by omega)
 have d5:decide (o.kind≥12)=false:=decide_eq_false (by omega)
 have d6:decide ((12:Int)≤o.kind)=false:=decide_eq_false (by omega)
 have hl1:ay (∀ k,ok k↔okB k∨okW k):=⟨h1⟩
 clear h h1 h2 h3 h4 h5 hl hv hm hs ht hev hk hk0
 go_enter Tryz.func26,Tryz.ntmps26
 go_upto_region 1 with fail
 generalize w.alloc (.cells #[.int .u8 o.kind,.int .i64 o.key,.int .i64 o.upto,.int .i64 o.value] 52)=w2 at K1 H1 ⊢
 generalize w.heap.size=b5 at K1 ⊢
 have c1:=H1.out.c1 VV.out
 have c2:=H1.out.c2 VV.out
 have y1:=H1.out.hal VV.out HT.out.1
 have y2:=(H1.out.th VV.out HTH.out).2.2.1
 have k0:=(af K1.out.1 0).trans (rfl:_=some (Value.int .u8 o.kind))
 go_upto_region 11 with fail
 have HC:=Am_ (show _∧_∧_∧_∧_∧_∧_∧_ from ⟨ax (aZ (Below.refl _ _)) H1.out.c0,ax (aZ (Below.refl _ _)) (H1.out.c1 VV.out),ax (aZ (Below.refl _ _)) (H1.out.c3 VV.out),ax (aZ (Below.refl _ _)) (H1.out.c4 VV.out),ax (aZ (Below.refl _ _)) ((af K1.out.1 0).trans rfl),ax (aZ (Below.refl _ _)) ((af K1.out.1 1).trans rfl),ax (aZ (Below.refl _ _)) ((af K1.out.1 2).trans rfl),ax (aZ (Below.refl _ _)) ((af K1.out.1 3).trans rfl)⟩)
 have H2:=Am_ H1.out
 have K2:=Am_ K1.out
 clear c1 c2 y1 y2 k0 H1 K1 d1 d2 d3 d4 d5 d6
 refine bP (n:=26) (S:=fun w'=>w'.cell? ⟨sb,0,none⟩=some (.pointer (some ⟨p,0,none⟩))∧w'.cell? ⟨sb,1,none⟩=some (.slice (some ⟨gt,0,none⟩) S.n ct)∧w'.cell? ⟨sb,3,none⟩=some (.slice (some ⟨ga,0,none⟩) S.n ca)∧w'.cell? ⟨sb,4,none⟩=some (.slice Ae S.evs.length ce)∧w'.cell? ⟨b5,0,none⟩=some (.int .u8 o.kind)∧w'.cell? ⟨b5,1,none⟩=some (.int .i64 o.key)∧w'.cell? ⟨b5,2,none⟩=some (.int .i64 o.upto)∧w'.cell? ⟨b5,3,none⟩=some (.int .i64 o.value)) (ds:= [23,25]) (by kernel_rfl) rfl BK wD HC.out (fun hHeld HT_ HW_=>?_)
 have H3:=Am_ (H2.out.below (aZ (Below.refl _ _)))
 have K3:=Am_ (K2.out.moves (Moves.drew (Moves.refl _ _)))
 clear HC H2 K2
 generalize World.drew _=w3 at H3 K3 hHeld ⊢
 refine fu [(0,some 43),(1,some 44),(2,some 45),(3,some 46),(4,some 47),(5,some 48),(6,some 49),(7,some 50),(8,some 51),(9,some 52),(10,some 53),(11,some 54),(12,some 55),(13,some 56),(14,some 57),(15,some 58),(17,some 60),(18,some 61),(19,some 62),(20,some 63),(21,some 64)] ?_
 iterate 3 (refine fq (v:=?_) (a':=?_) HT_ (by kernel_rfl) rfl rfl (fun _ _ _ h=>h) (Or.inl ⟨by rfl,?_⟩) ?_ ?_;rotate_left;(intro w';go_simp;with_reducible rfl);rotate_left;(simp only [Act.put,p1_,p2_,p3_,aI,aJ];rfl))
 iterate 6 (refine jm (v:=?_) (a':=?_) HT_ HW_ (by kernel_rfl) rfl rfl (fun _ _ _ h=>h) hHeld (Or.inl ⟨by rfl,?_⟩) ?_ ?_;rotate_left;(rintro w' ⟨s0,s1,s2,s3,s4,s5,s6,s7⟩;go_simp;with_reducible rfl);rotate_left;(simp only [Act.put,p1_,p2_,p3_,aI,aJ];rfl))
 iterate 4 (refine fq (v:=?_) (a':=?_) HT_ (by kernel_rfl) rfl rfl (fun _ _ _ h=>h) (Or.inl ⟨by rfl,?_⟩) ?_ ?_;rotate_left;(intro w';go_simp;with_reducible rfl);rotate_left;(simp only [Act.put,p1_,p2_,p3_,aI,aJ];rfl))
 iterate 7 (refine jm (v:=?_) (a':=?_) HT_ HW_ (by kernel_rfl) rfl rfl (fun _ _ _ h=>h) hHeld (Or.inl ⟨by rfl,?_⟩) ?_ ?_;rotate_left;(rintro w' ⟨s0,s1,s2,s3,s4,s5,s6,s7⟩;go_simp;with_reducible rfl);rotate_left;(simp only [Act.put,p1_,p2_,p3_,aI,aJ];rfl))
 (refine fq (v:=?_) (a':=?_) HT_ (by kernel_rfl) rfl rfl (fun _ _ _ h=>h) (Or.inl ⟨by rfl,?_⟩) ?_ ?_;rotate_left;(intro w';go_simp;with_reducible rfl);rotate_left;(simp only [Act.put,p1_,p2_,p3_,aI,aJ];rfl))
 refine bH ?_
 refine eu (i:=16) (some 59) HT_ (by kernel_rfl) rfl rfl (by decide) (fun K_ hK=>?_)
 refine call_ 59 #[.pointer (some ⟨p,0,none⟩),.int .i64 t,.agg #[.int .u8 o.kind,.int .i64 o.key,.int .i64 o.upto,.int .i64 o.value]] (by rfl) rfl ?hrun16 ?_
 (case hrun16=>first | (go_simp;done) | (go_simp;exact enters Tryz.func59 (by kernel_rfl) rfl _ _))
 refine (qL p t o _).mono ?_
 rintro e w4 ⟨tb,bw,bm,bo,rfl,h1,h2,h3,h4,h5,h6,h7,ht,hs,hb⟩
 have L4:=Am_ (And.intro h1 (And.intro h2 (And.intro h3 h4)))
 have N4:=Am_ (And.intro h5 (And.intro h6 h7))
 have T4:=Am_ ht
 have X4:=Am_ hs
 have L4S:=Am_ hb.size
 have W0:=Am_ H3.out.mv.size
 have Z4:ay (∀ k,(okB k∨okW k)→k<w3.heap.size):=⟨H3.out.lt⟩
 have H0:=Am_ (H3.out.mv.below hb)
 have H4:=Am_ (H3.out.below hb).JO
 have K4:=Am_ (K3.out.moves (Moves.bN _ hb))
 clear h1 h2 h3 h4 h5 h6 h7 ht hs hb H3 K3
 refine ⟨_,rfl,?_⟩
 refine hK.out _ _ ⟨H4.out.c0,H4.out.c1 VV.out,H4.out.c3 VV.out,H4.out.c4 VV.out,(af K4.out.1 0).trans rfl,(af K4.out.1 1).trans rfl,(af K4.out.1 2).trans rfl,(af K4.out.1 3).trans rfl⟩ (fun hHeld=>?_)
 clear hK K_
 refine bT (a':=?_) ?_ ?_
 rotate_left; · show Act.put _ (some 59) _=_;simp only [Act.put,p1_,p2_,p3_,aI,aJ];rfl
 refine fu [(22,some 65)] ?_
 (refine fq (v:=?_) (a':=?_) HT_ (by kernel_rfl) rfl rfl (fun _ _ _ h=>h) (Or.inl ⟨by rfl,?_⟩) ?_ ?_;rotate_left;(intro w';go_simp;with_reducible rfl);rotate_left;(simp only [Act.put,p1_,p2_,p3_,aI,aJ];rfl))
 refine bH ?_
 have y0:=(H4.out.th VV.out HTH.out).2.2.1
 have z0:=(H4.out.th VV.out HTH.out).2.2.2
 refine cK (i:=23) none HT_ (by kernel_rfl) rfl rfl (by decide) (fun K_ hK=>?_)
 refine fJ (w1:=?_) (by rfl) rfl ?_ ?_
 rotate_left; · go_simp;rfl
 refine hK.out _ _ ?_
 clear hK K_
 have V5:ay (SVal { b with ths:=b.ths.set t [.pointer (some ⟨tb,0,none⟩)] } S gt ct gh ch ga ca Ae ce):=⟨⟨VV.out.tv,VV.out.hv,VV.out.av,VV.out.ev⟩⟩
 have K5:=Am_ (K4.out.far (p:=⟨gt,t,none⟩) (fun e=>K4.out.2 (.inl (e▸(H4.out.th VV.out HTH.out).1))) (.pointer (some ⟨tb,0,none⟩)))
 have H5:=Am_ (H4.out.vI VV.out HTH.out (.pointer (some ⟨tb,0,none⟩)) rfl)
 clear y0 z0 H4 K4
 generalize w4.setCell ⟨gt,t,none⟩ (.pointer (some ⟨tb,0,none⟩))=w5 at H5 K5 ⊢
 refine fu [(24,some 66)] ?_
 (refine fq (v:=?_) (a':=?_) HT_ (by kernel_rfl) rfl rfl (fun _ _ _ h=>h) (Or.inl ⟨by rfl,?_⟩) ?_ ?_;rotate_left;(intro w';go_simp;with_reducible rfl);rotate_left;(simp only [Act.put,p1_,p2_,p3_,aI,aJ];rfl))
 refine bH ?_
 have y0:=(H5.out.ats V5.out HT.out.1).1
 have z0:=(H5.out.ats V5.out HT.out.1).2
 refine cK (i:=25) none HT_ (by kernel_rfl) rfl rfl (by decide) (fun K_ hK=>?_)
 refine fJ (w1:=?_) (by rfl) rfl ?_ ?_
 rotate_left; · go_simp;rfl
 refine hK.out _ _ ?_
 clear hK K_
 have V6:ay (SVal { b with ths:=b.ths.set t [.pointer (some ⟨tb,0,none⟩)],ats:=b.ats.set t [.int .i64 S.evs.length] } { S with ats:=S.ats.set t S.evs.length } gt ct gh ch ga ca Ae ce):=⟨⟨VV.out.tv,VV.out.hv,VV.out.av,VV.out.ev⟩⟩
 have K6:=Am_ (K5.out.far (p:=⟨ga,t,none⟩) (fun e=>K5.out.2 (.inl (e▸(by have h1:=H5.out.bx.ats;rw [V5.out.av] at h1;exact (h1.1 ga rfl).1)))) (.int .i64 S.evs.length))
 have H6:=Am_ (H5.out.at_set V5.out HT.out.1 S.evs.length)
 clear y0 z0 H5 K5 VV V5
 generalize w5.setCell ⟨ga,t,none⟩ (.int .i64 S.evs.length)=w6 at H6 K6 ⊢
 generalize hb6:({ b with ths:=b.ths.set t [.pointer (some ⟨tb,0,none⟩)],ats:=b.ats.set t [.int .i64 S.evs.length] }:SB)=b6 at H6 V6
 have HCL:ay (S.clock=S.clock):=⟨rfl⟩
 refine dN (bQ HT_.out (by kernel_rfl)) ?_
 clear HTH
 have hW3:w3.heap.size≤w6.heap.size:=Nat.le_trans L4S.out H6.out.mv.size
 have H4S:=Am_ hW3
 clear hW3
 go_upto_region 12 with fail
 have HC:=Am_ (show _∧_∧_∧_∧_∧_ from ⟨ax (aZ (Below.refl _ _)) (H6.out.c4 V6.out),ax (aZ (Below.refl _ _)) H6.out.c6,ax (aZ (Below.refl _ _)) ((af K6.out.1 0).trans rfl),ax (aZ (Below.refl _ _)) ((af K6.out.1 1).trans rfl),ax (aZ (Below.refl _ _)) ((af K6.out.1 2).trans rfl),ax (aZ (Below.refl _ _)) ((af K6.out.1 3).trans rfl)⟩)
 refine bP (n:=17) (S:=fun w'=>w'.cell? ⟨sb,4,none⟩=some (.slice Ae S.evs.length ce)∧w'.cell? ⟨sb,6,none⟩=some (.int .i64 S.clock)∧w'.cell? ⟨b5,0,none⟩=some (.int .u8 o.kind)∧w'.cell? ⟨b5,1,none⟩=some (.int .i64 o.key)∧w'.cell? ⟨b5,2,none⟩=some (.int .i64 o.upto)∧w'.cell? ⟨b5,3,none⟩=some (.int .i64 o.value)) (ds:= [13,16]) (by kernel_rfl) rfl BL wE HC.out (fun hHeld HT_ HW_=>?_)
 have H7:=Am_ (H6.out.below (aZ (Below.refl _ _)))
 have K7:=Am_ (K6.out.moves (Moves.drew (Moves.refl _ _)))
 clear HC H6 K6
 generalize World.drew _=w7 at H7 K7 hHeld ⊢
 refine fu [(0,some 67),(1,some 68),(2,some 69),(3,some 70),(4,some 71),(5,some 72),(6,some 73),(7,some 74),(8,some 75),(9,some 76),(10,some 77),(11,some 78)] ?_
 iterate 4 (refine fq (v:=?_) (a':=?_) HT_ (by kernel_rfl) rfl rfl (fun _ _ _ h=>h) (Or.inl ⟨by rfl,?_⟩) ?_ ?_;rotate_left;(intro w';go_simp;with_reducible rfl);rotate_left;(simp only [Act.put,p1_,p2_,p3_,aI,aJ];rfl))
 iterate 8 (refine jm (v:=?_) (a':=?_) HT_ HW_ (by kernel_rfl) rfl rfl (fun _ _ _ h=>h) hHeld (Or.inl ⟨by rfl,?_⟩) ?_ ?_;rotate_left;(rintro w' ⟨s0,s1,s2,s3,s4,s5⟩;go_simp;with_reducible rfl);rotate_left;(simp only [Act.put,p1_,p2_,p3_,aI,aJ];rfl))
 refine bH ?_
 refine eu (i:=12) (some 79) HT_ (by kernel_rfl) rfl rfl (by decide) (fun K_ hK=>?_)
 refine gJ (v:= .slice (some ⟨w7.heap.size,0,none⟩) 1 1) (w1:=w7.alloc (.cells (dQ ⟨t,o,S.clock,-1,BV⟩ (.slice none 0 0)).toArray 137)) (by rfl) rfl ?hbs ?_
 (case hbs=>go_simp;first | done | rfl)
 have K8:=Am_ (K7.out.moves (Moves.bN _ (ai (Below.refl _ _) (.cells (dQ ⟨t,o,S.clock,-1,BV⟩ (.slice none 0 0)).toArray 137))))
 have H8:=Am_ (H7.out.below (ai (Below.refl _ _) (.cells (dQ ⟨t,o,S.clock,-1,BV⟩ (.slice none 0 0)).toArray 137)))
 refine hK.out _ _ ⟨H8.out.c4 V6.out,H8.out.c6,(af K8.out.1 0).trans rfl,(af K8.out.1 1).trans rfl,(af K8.out.1 2).trans rfl,(af K8.out.1 3).trans rfl⟩ (fun hHeld=>?_)
 clear hK K_
 refine bT (a':=?_) ?_ ?_
 rotate_left; · show Act.put _ (some 79) _=_;simp only [Act.put,p1_,p2_,p3_,aI,aJ];rfl
 refine cK (i:=13) (some 80) HT_ (by kernel_rfl) rfl rfl (by decide) (fun K_ hK=>?_)
 refine Kd.iQ (Kd.raw 13) (w0:=w7) 0 (by rfl) (.tmp 71) (.tmp 79) 66 137 _ 120 rfl Tryz.underlying66 zR rfl (by decide) (by decide) (.slice Ae S.evs.length ce) (gy b6.evs b6.pv) (dQ ⟨t,o,S.clock,-1,BV⟩ (.slice none 0 0)) (dQ ⟨t,o,S.clock,-1,BV⟩ (.slice none 0 0)) (fun k=>(okB k∧ρ k=4)∨w7.heap.size≤k) (fun _=>False) rfl rfl ⟨rfl,rfl,mV (w:=w7) (ok:=fun _=>True) ⟨none,0,rfl,Nat.le_refl _,Kd.jq _ _ _⟩⟩ (fun _ hk=>hk.elim) (fun k hk=> .inr hk) (Kd.bg (by have h1:=H7.out.bx.evs;rw [V6.out.ev] at h1;exact h1) (fun k hk=> .inl hk)) (Below.refl _ _) (Nat.zero_le _) (by rw [dG,H7.out.sf.evs];have:=HT.out.2;show (S.evs.length+1)*120≤_;omega) ?_
 intro v9 w9 ho hb9 hg hat
 obtain ⟨A9,c9,rfl⟩:=Kd.aV ho
 rw [←V6.out.ev] at hg
 have hne:some sb≠b6.ev.ownBlock:=fun e=>by have:=(H7.out.bx.evs.1 sb e.symm).2;rw [H7.out.bx.role] at this;cases this
 have z0:w9.frozen? ⟨sb,4,none⟩=false:=ah (bG H7.out.bx.box hg hne) 4
 have y0:=(af (bG H7.out.bx.box hg hne) 4).trans (rfl:_=some b6.ev)
 have H9:=Am_ (H7.out.zO hg rfl HT.out.2 ho)
 have hle:(gy b6.evs b6.pv++ [dQ ⟨t,o,S.clock,-1,BV⟩ (.slice none 0 0)]).length=S.evs.length+1:=by rw [List.length_append,dG,H7.out.sf.evs];rfl
 rw [hle] at H9 ⊢
 clear ho hg hat hb9 hne hle H7 K7 H8 K8
 refine hK.out _ _ ?_
 clear hK K_
 refine bT (a':=?_) ?_ ?_
 rotate_left; · show Act.put _ (some 80) _=_;simp only [Act.put,p1_,p2_,p3_,aI,aJ];rfl
 refine fu [(14,some 81),(15,some 82)] ?_
 iterate 2 (refine fq (v:=?_) (a':=?_) HT_ (by kernel_rfl) rfl rfl (fun _ _ _ h=>h) (Or.inl ⟨by rfl,?_⟩) ?_ ?_;rotate_left;(intro w';go_simp;with_reducible rfl);rotate_left;(simp only [Act.put,p1_,p2_,p3_,aI,aJ];rfl))
 refine bH ?_
 refine cK (i:=16) none HT_ (by kernel_rfl) rfl rfl (by decide) (fun K_ hK=>?_)
 refine fJ (w1:=?_) (by rfl) rfl ?_ ?_
 rotate_left; · go_simp;rfl
 refine hK.out _ _ ?_
 clear hK K_
 clear y0 z0
 generalize w9.setCell ⟨sb,4,none⟩ (.slice A9 (S.evs.length+1) c9)=w10 at H9 ⊢
 refine dN (bQ HT_.out (by kernel_rfl)) ?_
 have c6:=H9.out.c6
 have f6:=ah H9.out.bx.box 6
 go_wp2_with fail
 go_ret
 obtain ⟨l1,l2,l3,l4⟩:=L4.out
 exact ⟨⟨rfl,xO H0.out H9.out.tick T4.out X4.out N4.out HT.out.1 (fun q hq=>by have:=Z4.out q hq;omega) (by have:=W0.out;omega)⟩⟩
def yL:Bool × List (List Nat × List Nat):=(true,[([],[]),([0],[0]),([1],[1]),([2],[2]),([],[]),([4],[4]),([5],[5]),([6],[6]),([],[]),([7,8],[7,8]),([9],[9]),([3,10],[3,10]),([11,0,1,2,3,4,5,6,7,8,9,10,11],[11])])
def FI:List Nat:= [0,1,3,7,0,16,48,112,0,496,1008,2047,4095]
theorem BI:fG .any (opsOf Tryz.f23 11)=yL:=by kernel_rfl
theorem wB:bM yL.2 FI=true:=by kernel_rfl
def yM:Bool × List (List Nat × List Nat):=(true,[([],[]),([],[]),([],[]),([2],[2]),([3],[3]),([4],[4]),([],[]),([6],[6]),([7],[7]),([8],[8]),([],[]),([9,10],[9,10]),([11],[11]),([12],[12]),([13,13],[13]),([0,0,2,3,4,5,9,12,13,14],[0]),([15,0,2,3,4,5,9,12,13,14],[15]),([16,5,14,0,2,3,4,5,9,12,13,14],[5,16]),([1,0,1,2,3,4,5,6,7,8,9,10,11,12,13,14,15,16,17],[1]),([18,0,1,2,3,4,5,6,7,8,9,10,11,12,13,14,15,16,17],[18]),([19,14,17,0,1,2,3,4,5,6,7,8,9,10,11,12,13,14,15,16,17],[14,19])])
def FJ:List Nat:= [0,0,0,4,12,28,0,64,192,448,0,1984,4032,8128,16320,32765,65533,131069,262143,524287,1048575]
theorem BJ:fG .any (opsOf Tryz.f23 12)=yM:=by kernel_rfl
theorem wC:bM yM.2 FJ=true:=by kernel_rfl
structure yw (sb p t i:Nat) (S:Stg) (o:Opn) (ok:Nat→Prop) (res:Out (List Int) × TS Ws) (w:World) (e:Ending) (w1:World):Prop where
 out: ∃ ok1,Moves ok ok1 w w1∧match res.1 with
  | .wait=>e= .returned (.tuple #[.bool false,.int .i64 0])∧iT ok1 sb p (Stg.tick { S with ws:=res.2.sh }) t o res.2.log w1
  | .ret l=>e= .returned (.tuple #[.bool true,.int .i64 0])∧eX ok1 sb p (Stg.tick (Stg.finish { S with ws:=res.2.sh } i l)) w1
theorem Gz (n t a:Nat):((List.replicate n jc).set t (nW a)).set t jc=List.replicate n jc:=by
 rw [List.set_set]
 refine List.ext_getElem? fun j=>?_
 rw [List.getElem?_set]
 split
 ·rename_i h
  subst h
  rw [List.length_replicate,List.getElem?_replicate]
 ·rfl
theorem oZ {sb p tb:Nat} {S:Stg} {ths:List (List Value)} {okB okI okJ ok:Nat→Prop} {b:SB} {ρ:Nat→Nat} {work:Value} {th2:Th} {x2:Ws} {Q:(Nat→Prop)→World→Prop} {w w2:World} (hs:StS sb p S ths okB okI b ρ Q ok w w) (hm:Moves okI okJ w w2) (hid:Idle (shW p) tb work okJ x2 th2 w2):StS sb p { S with ws:=x2 } ths okB okJ b ρ (fun ok w=>Idle (shW p) tb work ok x2 th2 w) ok w w2:=
 ⟨hs.bx.step hm.size (fun k hk hlt=>hm.block k hlt (hs.dj k hk)),hs.sf.ws _,hs.len,Bh _ _ _ _ _,hid,fun k hk hk1=>(hm.fresh k hk1).elim (hs.dj k hk) (fun h=>by have:=hs.bx.lt k hk;omega),
  (hs.mv.trans ((hm.part (ok:=fun k=>okB k∨okI k) (okB:=okB) (fun _ h=> .inr h) (fun _ h=> .inl h)))).owns (fun k hk=>hk.elim (fun h=>hs.mv.fresh k (.inl h)) (fun h=>(hm.fresh k h).elim (fun h=>hs.mv.fresh k (.inr h)) .inr))⟩
theorem Dm {p tb:Nat} {work:Value} {ok:Nat→Prop} {x:Ws} {th:Th} (w:World) (h:Idle (shW p) tb work ok x th w) (hd:th.done=true) (hl:th.out.length<1000000):
  Calls Tryz.prog 62 #[.pointer (some ⟨tb,0,none⟩)] w fun e w1=> ∃ v,e= .returned v∧(Kd.int .i64).R 2 w1 w.heap.size (fun k=>w.heap.size≤k) v th.out∧Below w.heap.size w w1:=by
 obtain ⟨_,_,_,_,h3,_⟩:=h.out
 exact AO w h3 hd hl
theorem vS (l:List Int) (h:l.length=5):aW.f 1000 l=some ((iE l).err,(iE l).found,(iE l).key,(iE l).value,[],(iE l).short):=sH l 0 h (by decide)
theorem Hg {sb p tb:Nat} {S1:Stg} {ths:List (List Value)} {okB okI ok:Nat→Prop} {b1:SB} {ρ1:Nat→Nat} {work:Value} {th:Th} {w wF:World} (hF:StS sb p S1 ths okB okI b1 ρ1 (fun ok w=>Idle (shW p) tb work ok S1.ws th w) ok w wF) (he:ths=List.replicate S1.n jc): ∃ ok1,Moves ok ok1 w wF∧eX ok1 sb p S1 wF:=by
 obtain ⟨okT,okS,h1,h2,h3,h4⟩:=hF.sh.out
 subst he
 exact ⟨fun k=>okB k∨okS k,hF.mv.owns (fun k hk=>hF.mv.fresh k (hk.imp id (fun h=>(h1 k).2 (.inr h)))),⟨okB,okS,b1,ρ1,fun _=>Iff.rfl,fun k hk hk1=>hF.dj k hk ((h1 k).2 (.inr hk1)),hF.bx,hF.sf,h4⟩⟩
theorem Hf {sb p t tb bw bm bo:Nat} {S1:Stg} {o:Opn} {log:List Int} {at_:Int} {spent:Bool} {okB okI ok:Nat→Prop} {b1:SB} {ρ1:Nat→Nat} {w wF:World} (hF:StS sb p S1 ((List.replicate S1.n jc).set t (nW tb)) okB okI b1 ρ1 (fun ok w=>Idle (shW p) tb (ko bw bm bo) ok S1.ws (Ig log at_ spent) w) ok w wF) (ht:t<S1.n) (hl:log.length<1000000) (hX:jT p t o bw bm bo (fun k=>okB k∨okI k) wF):iT (fun k=>okB k∨okI k) sb p S1 t o log wF:=
 ⟨okB,okI,b1,ρ1,tb,bw,bm,bo,at_,spent,fun _=>Iff.rfl,hF.dj,hF.bx,hF.sf,ht,hl,hF.sh,hX⟩
theorem rW (sb p t i:Nat) (S:Stg) (o:Opn) (log:List Int) (ok:Nat→Prop) (w:World) (h:iT ok sb p S t o log w) (f:Nat) (dT:Pr Ws Ans)
  (hdo: ∀ tb work ok s w res,dX (shW p) tb work ok s w→dT s=some res→Calls Tryz.prog 100 #[fo tb p t,opV o] w (gF (shW p) tb work Ik ok w res))
  (hsm: ∀ s a t,dT s=some (.ret a,t)→a.pairs= []) (hi:S.ats.getD t 0=(i:Int)) (hil:i<S.evs.length)
  (res:Out (List Int) × TS Ws) (hr:mJ t f dT ⟨S.ws,log,0,false⟩=some res) (h5: ∀ l,res.1= .ret l→l.length=5):
  Calls Tryz.prog 23 #[.pointer (some ⟨sb,0,none⟩),.int .i64 t] w (yw sb p t i S o ok res w):=by
 obtain ⟨okB,okI,b,ρ,tb,bw,bm,bo,at_,spent,h1,h2,h3,h4,ht,hlog,hid,hbx⟩:=h.out
 have hl:((List.replicate S.n jc).set t (nW tb)).length=S.n:=by simp
 obtain ⟨gt,ct,gh,ch,ga,ca,Ae,ce,hv⟩:=h3.vals h4 hl ht
 have hm:Moves ok (fun k=>okB k∨okI k) w w:=(Moves.refl ok w).owns (fun k hk=> .inl ((h1 k).2 hk))
 have hs:StS sb p S ((List.replicate S.n jc).set t (nW tb)) okB okI b ρ (fun ok w=>Idle (shW p) tb (ko bw bm bo) ok S.ws (Ig log at_ spent) w) ok w w:=⟨h3,h4,hl,Bh _ _ _ _ _,hid,h2,hm⟩
 have hbxI:jT p t o bw bm bo okI w:=⟨⟨hbx.hw.1,fun h=>hbx.hw.2 ((h1 bw).2 (.inr h))⟩,⟨hbx.hm.1,fun h=>hbx.hm.2 ((h1 bm).2 (.inr h))⟩,⟨hbx.ho.1,fun h=>hbx.ho.2 ((h1 bo).2 (.inr h))⟩⟩
 have hbxB: ∀ q,okB q→q≠bw∧q≠bm∧q≠bo:=fun q hq=>⟨fun e=>hbx.hw.2 (e▸(h1 q).2 (.inl hq)),fun e=>hbx.hm.2 (e▸(h1 q).2 (.inl hq)),fun e=>hbx.ho.2 (e▸(h1 q).2 (.inl hq))⟩
 have HST:=Am_ (Bo (bB p) tb 98 #[.pointer (some ⟨bw,0,none⟩),.pointer (some ⟨bm,0,none⟩),.pointer (some ⟨bo,0,none⟩)] okI S.ws log at_ spent w (jT p t o bw bm bo) (mJ t f dT) hid hlog jT.moves hbxI (enters Tryz.func98 (by kernel_rfl) rfl _)
  (fun ok1 s w1 res1 hi hb hres=>pQ p tb _ t o bw bm bo ok1 s w1 f dT hi hb (fun ok s w res h1 h2=>hdo tb _ ok s w res h1 h2) (fun s a t h1=>by rw [hsm s a t h1];decide) res1 hres) res hr)
 have HB0:=Am_ hbxB
 have HBI:=Am_ hbxI
 have HTH:ay (((List.replicate S.n jc).set t (nW tb))[t]?=some [.pointer (some ⟨tb,0,none⟩)]):=⟨by rw [List.getElem?_set_self (by simpa using ht)];rfl⟩
 have HT:=Am_ (And.intro ht hil)
 have VV:=Am_ hv
 have H1:=Am_ hs
 have HAI:ay (some (Value.int .i64 (S.ats.getD t 0))=some (Value.int .i64 (i:Int))):=⟨by rw [hi]⟩
 have H5:=Am_ h5
 have b1:(0:Int)≤(t:Int):=by omega
 have b2:(t:Int)<(S.n:Int):=by omega
 have b3:(0:Int)≤(i:Int):=by omega
 have b4:(i:Int)<(S.evs.length:Int):=by omega
 have d1:decide ((t:Int)<0)=false:=decide_eq_false (by omega)
 have d2:decide ((t:Int)≥(S.n:Int))=false:=decide_eq_false (by omega)
 have d3:decide ((S.n:Int)≤(t:Int))=false:=decide_eq_false (by omega)
 have d4:decide (S.n≤t)=false:=decide_eq_false (by omega)
 have c1:=hs.c1 hv
 have c2:=hs.c2 hv
 have y1:=hs.hal hv ht
 have y2:=(hs.th hv HTH.out).2.2.1
 clear h h1 h2 h3 h4 hid hbx hlog hl hv hm hs ht hil hi hr h5 hdo hsm hbxI hbxB
 go_enter Tryz.func23,Tryz.ntmps23
 go_upto_region 9 with fail
 go_upto_region 10 with (go_at_call 71;refine HST.out.mono ?_;rintro e w2 hE;obtain ⟨okJ,hmJ,hlg,hres⟩:=hE.out;obtain ⟨o1,s1⟩:=res;have HJ:=Am_ hmJ;have HLG:=Am_ hlg;clear hE HST c1 c2 y1 y2 d1 d2 d3 d4 hmJ hlg;rcases o1 with l | _)
 ·obtain ⟨rfl,hid⟩:=hres
  have H2:=Am_ (oZ H1.out HJ.out hid)
  have V2:ay (SVal b { S with ws:=s1.sh } gt ct gh ch ga ca Ae ce):=⟨⟨VV.out.tv,VV.out.hv,VV.out.av,VV.out.ev⟩⟩
  have h5:=H5.out l rfl
  have HLL:ay (l.length<1000000):=⟨by omega⟩
  have HAN:=Am_ (vS l h5)
  obtain ⟨ev,hei⟩: ∃ ev,S.evs[i]?=some ev:=⟨_,List.getElem?_eq_getElem HT.out.2⟩
  obtain ⟨ge,_,e1,_⟩:=H2.out.ev V2.out hei
  have HEI:=Am_ hei
  subst e1
  clear hid h5 hei H1 VV HBI HB0 H5 HJ
  go_upto_region 11 with fail
  have HC:=Am_ (show _∧_∧_ from ⟨ax (aZ (Below.refl _ _)) (H2.out.c3 V2.out),ax (aZ (Below.refl _ _)) (H2.out.c4 V2.out),ax (aZ (Below.refl _ _)) ((H2.out.ats V2.out HT.out.1).1.trans HAI.out)⟩)
  refine bP (n:=13) (S:=fun w'=>w'.cell? ⟨sb,3,none⟩=some (.slice (some ⟨ga,0,none⟩) S.n ca)∧w'.cell? ⟨sb,4,none⟩=some (.slice (some ⟨ge,0,none⟩) S.evs.length ce)∧w'.cell? ⟨ga,t,none⟩=some (.int .i64 (i:Int))) (ds:= []) (by kernel_rfl) rfl BI wB HC.out (fun hHeld HT_ HW_=>?_)
  have H3:=Am_ (H2.out.below (aZ (Below.refl _ _)))
  clear HC H2
  generalize World.drew _=w3 at H3 hHeld ⊢
  refine fu [(0,some 49),(1,some 50),(2,some 51),(3,some 52),(4,some 53),(5,some 54),(6,some 55),(7,some 56),(8,some 57),(9,some 58),(10,some 59),(11,some 60),(12,some 7)] ?_
  iterate 3 (refine fq (v:=?_) (a':=?_) HT_ (by kernel_rfl) rfl rfl (fun _ _ _ h=>h) (Or.inl ⟨by rfl,?_⟩) ?_ ?_;rotate_left;(intro w';go_simp;with_reducible rfl);rotate_left;(simp only [Act.put,p1_,p2_,p3_,aI,aJ];rfl))
  iterate 10 (refine jm (v:=?_) (a':=?_) HT_ HW_ (by kernel_rfl) rfl rfl (fun _ _ _ h=>h) hHeld (Or.inl ⟨by rfl,?_⟩) ?_ ?_;rotate_left;(rintro w' ⟨s0,s1,s2⟩;go_simp;with_reducible rfl);rotate_left;(simp only [Act.put,p1_,p2_,p3_,aI,aJ];rfl))
  refine bH ?_
  refine dN (bQ HT_.out (by kernel_rfl)) ?_
  go_upto_region 12 with fail
  have HC:=Am_ (show _∧_∧_ from ⟨ax (aZ (Below.refl _ _)) (H3.out.c1 V2.out),ax (aZ (Below.refl _ _)) (H3.out.c6),ax (aZ (Below.refl _ _)) ((H3.out.th V2.out HTH.out).2.2.1)⟩)
  refine bP (n:=21) (S:=fun w'=>w'.cell? ⟨sb,1,none⟩=some (.slice (some ⟨gt,0,none⟩) S.n ct)∧w'.cell? ⟨sb,6,none⟩=some (.int .i64 S.clock)∧w'.cell? ⟨gt,t,none⟩=some (.pointer (some ⟨tb,0,none⟩))) (ds:= [17,20]) (by kernel_rfl) rfl BJ wC HC.out (fun hHeld HT_ HW_=>?_)
  have H4:=Am_ (H3.out.below (aZ (Below.refl _ _)))
  clear HC H3
  generalize World.drew _=w4 at H4 hHeld ⊢
  refine fu [(0,some 61),(1,some 62),(2,some 63),(3,some 64),(4,some 65),(5,some 66),(6,some 67),(7,some 68),(8,some 69),(9,some 70),(10,some 71),(11,some 72),(12,some 73)] ?_
  iterate 5 (refine fq (v:=?_) (a':=?_) HT_ (by kernel_rfl) rfl rfl (fun _ _ _ h=>h) (Or.inl ⟨by rfl,?_⟩) ?_ ?_;rotate_left;(intro w';go_simp;with_reducible rfl);rotate_left;(simp only [Act.put,p1_,p2_,p3_,aI,aJ];rfl))
  iterate 8 (refine jm (v:=?_) (a':=?_) HT_ HW_ (by kernel_rfl) rfl rfl (fun _ _ _ h=>h) hHeld (Or.inl ⟨by rfl,?_⟩) ?_ ?_;rotate_left;(rintro w' ⟨s0,s1,s2⟩;go_simp;with_reducible rfl);rotate_left;(simp only [Act.put,p1_,p2_,p3_,aI,aJ];rfl))
  refine bH ?_
  refine eu (i:=13) (some 74) HT_ (by kernel_rfl) rfl rfl (by decide) (fun K_ hK=>?_)
  refine call_ 62 #[.pointer (some ⟨tb,0,none⟩)] (by rfl) rfl ?hrun13 ?_
  (case hrun13=>first | (go_simp;done) | (go_simp;exact enters Tryz.func62 (by kernel_rfl) rfl _ _))
  refine (Dm _ H4.out.sh rfl HLL.out).mono ?_
  rintro e w5 ⟨v,rfl,hv,hb⟩
  obtain ⟨Ao,co,rfl⟩:=Kd.aV hv
  have VO:=Am_ hv
  have H5:=Am_ (H4.out.below hb)
  clear hv hb H4
  refine ⟨_,rfl,?_⟩
  refine hK.out _ _ ⟨H5.out.c1 V2.out,H5.out.c6,(H5.out.th V2.out HTH.out).2.2.1⟩ (fun hHeld=>?_)
  clear hK K_
  refine bT (a':=?_) ?_ ?_
  rotate_left; · show Act.put _ (some 74) _=_;simp only [Act.put,p1_,p2_,p3_,aI,aJ];rfl
  refine eu (i:=14) (some 75) HT_ (by kernel_rfl) rfl rfl (by decide) (fun K_ hK=>?_)
  refine call_ 61 #[.slice Ao l.length co] (by rfl) rfl ?hrun14 ?_
  (case hrun14=>first | (go_simp;done) | (go_simp;exact enters Tryz.func61 (by kernel_rfl) rfl _ _))
  refine (aW.calls 1000 Ao co l _ _ _ _ _ _ _ (Kd.bS VO.out).2.2 (Kd.bS VO.out).2.1 HAN.out).mono ?_
  rintro e w6 ⟨vp,rfl,hv,hb⟩
  obtain ⟨Ap,cp,rfl⟩:=Kd.aV hv
  have H6:=Am_ (H5.out.below hb)
  clear hv hb H5 VO
  refine ⟨_,rfl,?_⟩
  refine hK.out _ _ ⟨H6.out.c1 V2.out,H6.out.c6,(H6.out.th V2.out HTH.out).2.2.1⟩ (fun hHeld=>?_)
  clear hK K_
  refine bT (a':=?_) ?_ ?_
  rotate_left; · show Act.put _ (some 75) _=_;simp only [Act.put,p1_,p2_,p3_,aI,aJ];rfl
  refine fu [(15,some 76),(16,some 77)] ?_
  iterate 2 (refine fq (v:=?_) (a':=?_) HT_ (by kernel_rfl) rfl rfl (fun _ _ _ h=>h) (Or.inl ⟨by rfl,?_⟩) ?_ ?_;rotate_left;(intro w';go_simp;with_reducible rfl);rotate_left;(simp only [Act.put,p1_,p2_,p3_,aI,aJ];rfl))
  refine bH ?_
  obtain ⟨g1,v1,e1,hev⟩:=H6.out.ev V2.out HEI.out
  injection e1 with e1
  injection e1 with e1 _ _
  subst e1
  have HE:=Am_ hev
  clear hev
  have y6:=HE.out.2.1 6 _ rfl
  have z6:=HE.out.2.2.1 6
  refine cK (i:=17) none HT_ (by kernel_rfl) rfl rfl (by decide) (fun K_ hK=>?_)
  refine fJ (w1:=?_) (by rfl) rfl ?_ ?_
  rotate_left; · go_simp;rfl
  refine hK.out _ _ ?_
  clear hK K_
  have V7:ay (SVal { b with evs:=b.evs.set i { ev with fin:=S.clock },pv:=b.pv } { S with ws:=s1.sh,evs:=S.evs.set i { ev with fin:=S.clock } } gt ct gh ch ga ca (some ⟨ge,0,none⟩) ce):=⟨⟨V2.out.tv,V2.out.hv,V2.out.av,by show b.ev=_;rw [V2.out.ev];show _=Value.slice _ (S.evs.set i _).length _;rw [List.length_set]⟩⟩
  have H7:=Am_ (H6.out.JD V2.out HEI.out S.clock)
  have HEI7:ay ((S.evs.set i { ev with fin:=S.clock })[i]?=some { ev with fin:=S.clock }):=⟨List.getElem?_set_self (List.getElem?_eq_some_iff.1 HEI.out).1⟩
  clear y6 z6 H6 HE
  generalize w6.setCell ⟨ge,i*13+6,none⟩ (.int .i64 S.clock)=w7 at H7 ⊢
  refine fu [(18,some 78),(19,some 79)] ?_
  iterate 2 (refine fq (v:=?_) (a':=?_) HT_ (by kernel_rfl) rfl rfl (fun _ _ _ h=>h) (Or.inl ⟨by rfl,?_⟩) ?_ ?_;rotate_left;(intro w';go_simp;with_reducible rfl);rotate_left;(simp only [Act.put,p1_,p2_,p3_,aI,aJ];rfl))
  refine bH ?_
  obtain ⟨g1,v1,e1,hev⟩:=H7.out.ev V7.out HEI7.out
  injection e1 with e1
  injection e1 with e1 _ _
  subst e1
  have HE:=Am_ hev
  clear hev
  have y7:=HE.out.2.1 7 _ rfl
  have z7:=HE.out.2.2.1 7
  have y8:=HE.out.2.1 8 _ rfl
  have z8:=HE.out.2.2.1 8
  have y9:=HE.out.2.1 9 _ rfl
  have z9:=HE.out.2.2.1 9
  have y10:=HE.out.2.1 10 _ rfl
  have z10:=HE.out.2.2.1 10
  have y11:=HE.out.2.1 11 _ rfl
  have z11:=HE.out.2.2.1 11
  have y12:=HE.out.2.1 12 _ rfl
  have z12:=HE.out.2.2.1 12
  refine cK (i:=20) none HT_ (by kernel_rfl) rfl rfl (by decide) (fun K_ hK=>?_)
  refine fJ (w1:=?_) (by rfl) rfl ?_ ?_
  rotate_left; · go_simp;rfl
  refine hK.out _ _ ?_
  clear hK K_
  refine dN (bQ HT_.out (by kernel_rfl)) ?_
  have H8:ay (StS sb p { S with ws:=s1.sh,evs:=(S.evs.set i { ev with fin:=S.clock }).set i { { ev with fin:=S.clock } with ans:=iE l } } ((List.replicate S.n jc).set t (nW tb)) okB okJ { b with evs:=(b.evs.set i { ev with fin:=S.clock }).set i { { ev with fin:=S.clock } with ans:=iE l },pv:=fun j=>if j=i then .slice Ap 0 cp else b.pv j } ρ (fun ok w=>Idle (shW p) tb (ko bw bm bo) ok s1.sh ⟨s1.log,s1.at_,s1.spent,false,true,l⟩ w) ok w ((((((w7.setCell ⟨ge,i*13+7,none⟩ (.int .i64 (iE l).err)).setCell ⟨ge,i*13+7+1,none⟩ (.bool (iE l).found)).setCell ⟨ge,i*13+7+2,none⟩ (.int .i64 (iE l).key)).setCell ⟨ge,i*13+7+3,none⟩ (.int .i64 (iE l).value)).setCell ⟨ge,i*13+7+4,none⟩ (.slice Ap 0 cp)).setCell ⟨ge,i*13+7+5,none⟩ (.bool (iE l).short))):=⟨H7.out.JC V7.out HEI7.out (iE l) rfl⟩
  clear y7 z7 y8 z8 y9 z9 y10 z10 y11 z11 y12 z12 H7 HE
  generalize (((((w7.setCell ⟨ge,i*13+7,none⟩ (.int .i64 (iE l).err)).setCell ⟨ge,i*13+7+1,none⟩ (.bool (iE l).found)).setCell ⟨ge,i*13+7+2,none⟩ (.int .i64 (iE l).key)).setCell ⟨ge,i*13+7+3,none⟩ (.int .i64 (iE l).value)).setCell ⟨ge,i*13+7+4,none⟩ (.slice Ap 0 cp)).setCell ⟨ge,i*13+7+5,none⟩ (.bool (iE l).short)=w8 at H8 ⊢
  have e8:(S.evs.set i { ev with fin:=S.clock }).set i { { ev with fin:=S.clock } with ans:=iE l }=S.evs.set i { ev with fin:=S.clock,ans:=iE l }:=List.set_set ..
  rw [e8] at H8
  have V8:ay (SVal { b with evs:=(b.evs.set i { ev with fin:=S.clock }).set i { { ev with fin:=S.clock } with ans:=iE l },pv:=fun j=>if j=i then .slice Ap 0 cp else b.pv j } { S with ws:=s1.sh,evs:=S.evs.set i { ev with fin:=S.clock,ans:=iE l } } gt ct gh ch ga ca (some ⟨ge,0,none⟩) ce):=⟨⟨V2.out.tv,V2.out.hv,V2.out.av,by show b.ev=_;rw [V2.out.ev];show _=Value.slice _ (S.evs.set i _).length _;rw [List.length_set]⟩⟩
  have EF:ay (S.evs.set i { ev with fin:=S.clock,ans:=iE l }=(Stg.finish { S with ws:=s1.sh } i l).evs):=⟨by show _=S.evs.set i { S.evs.getD i _ with fin:=S.clock,ans:=iE l };rw [List.getD_eq_getElem?_getD,HEI.out];rfl⟩
  generalize ({ b with evs:=(b.evs.set i { ev with fin:=S.clock }).set i { { ev with fin:=S.clock } with ans:=iE l },pv:=fun j=>if j=i then .slice Ap 0 cp else b.pv j }:SB)=b8 at H8 V8
  clear e8 HEI HEI7 V7 V2 HAN
  have c1:=H8.out.c1 V8.out
  have y8:=(H8.out.th V8.out HTH.out).2.2.1
  have z8:=(H8.out.th V8.out HTH.out).2.2.2
  go_upto_region 14 with fail
  have H9:=Am_ (H8.out.vI V8.out HTH.out (.pointer none) rfl)
  clear c1 y8 z8 H8 V8
  generalize w8.setCell ⟨gt,t,none⟩ (.pointer none)=w9 at H9 ⊢
  have c6:=H9.out.c6
  have f6:=ah H9.out.bx.box 6
  go_wp2_with fail
  go_ret2
  obtain ⟨ok1,hm1,hs1⟩:=Hg H9.out.tick (Gz _ _ _)
  refine ⟨⟨ok1,hm1,rfl,?_⟩⟩
  rw [EF.out] at hs1
  exact hs1
 ·obtain ⟨rfl,hid⟩:=hres
  have H2:=Am_ (oZ H1.out HJ.out hid)
  clear hid H1
  have c6:=H2.out.c6
  have f6:=ah H2.out.bx.box 6
  go_wp2_with fail
  go_ret2
  have hX:=jT.moves _ _ _ _ HBI.out HJ.out
  have hF:=H2.out.tick
  exact ⟨⟨fun k=>okB k∨okJ k,hF.mv,rfl,Hf hF HT.out.1 HLG.out ⟨(Mine.far ⟨hX.hw.1,fun h=>h.elim (fun h=>(HB0.out _ h).1 rfl) hX.hw.2⟩ (p:=⟨sb,6,none⟩) (fun e=>(HB0.out sb H2.out.bx.own).1 e) _),(Mine.far ⟨hX.hm.1,fun h=>h.elim (fun h=>(HB0.out _ h).2.1 rfl) hX.hm.2⟩ (p:=⟨sb,6,none⟩) (fun e=>(HB0.out sb H2.out.bx.own).2.1 e) _),(Mine.far ⟨hX.ho.1,fun h=>h.elim (fun h=>(HB0.out _ h).2.2 rfl) hX.ho.2⟩ (p:=⟨sb,6,none⟩) (fun e=>(HB0.out sb H2.out.bx.own).2.2 e) _)⟩⟩⟩
theorem yS {me:Int} {f:Nat} {dT:Pr Ws Ans} (hsm: ∀ s a t,dT s=some (.ret a,t)→a.pairs= []) {s t:TS Ws} {l:List Int} (h:mJ me f dT s=some (.ret l,t)):l.length=5:=by
 obtain ⟨o,t1,hm,hc⟩:=aN h
 rcases hc with ⟨_,hc⟩ | ⟨u,rfl,hc⟩
 ·injection hc with hc _;cases hc
 obtain ⟨o,t2,hm2,hc⟩:=aN hc
 rcases hc with ⟨_,hc⟩ | ⟨a,rfl,hc⟩
 ·injection hc with hc _;cases hc
 obtain ⟨o,t3,hm3,hc⟩:=aN hc
 rcases hc with ⟨_,hc⟩ | ⟨u,rfl,hc⟩
 ·injection hc with hc _;cases hc
 injection hc with hc
 injection hc with hc _
 injection hc with hc
 rw [←hc]
 simp [codeOf,hsm _ _ _ hm2]
structure Jd (sb p t i:Nat) (o:Opn) (tw:Pr Ws (List Int)) (left:Nat) (S1:Stg) (log1:List Int) (ok:Nat→Prop) (w:World) (F g:Nat) (wr:World):Prop where
 out: ∃ ok1 S log,Moves ok ok1 w wr∧iT ok1 sb p S t o log wr∧S.ats.getD t 0=(i:Int)∧i<S.evs.length∧g≤F∧Dv tw i g S log=some (true,left,S1,log1)
structure KC (sb p:Nat) (S1:Stg) (n:Nat) (ok:Nat→Prop) (w:World) (e:Ending) (w1:World):Prop where
 out: ∃ ok1,e= .returned (.int .i64 n)∧Moves ok ok1 w w1∧eX ok1 sb p S1 w1
theorem uy (sb p t i:Nat) (S:Stg) (o:Opn) (log:List Int) (ok:Nat→Prop) (w:World) (h:iT ok sb p S t o log w) (f:Nat) (dT:Pr Ws Ans)
  (hdo: ∀ tb work ok s w res,dX (shW p) tb work ok s w→dT s=some res→Calls Tryz.prog 100 #[fo tb p t,opV o] w (gF (shW p) tb work Ik ok w res))
  (hsm: ∀ s a t,dT s=some (.ret a,t)→a.pairs= []) (hi:S.ats.getD t 0=(i:Int)) (hil:i<S.evs.length) (F left:Nat) (hF:F≤1048576) (S1:Stg) (log1:List Int) (hr:Dv (mJ t f dT) i F S log=some (true,left,S1,log1)):
  Calls Tryz.prog 29 #[.pointer (some ⟨sb,0,none⟩),.int .i64 t,.int .i64 1048576] w (KC sb p S1 (F - left) ok w):=by
 have HA:ay (Jd sb p t i o (mJ t f dT) left S1 log1 ok w F F w):=⟨⟨ok,S,log,Moves.refl _ _,h,hi,hil,Nat.le_refl _,hr⟩⟩
 have HDO:=Am_ hdo
 have HSM:=Am_ hsm
 have HFF:=Am_ hF
 clear h hdo hsm hi hil hF hr
 go_enter Tryz.func29,Tryz.ntmps29
 go_upto_block 0 with fail
 go_wp2_with fail
 go_loopg [7] F (fun g n wr=>n= .int .i64 (F - g:Nat)∧ay (Jd sb p t i o (mJ t f dT) left S1 log1 ok w F g wr))
 case atStart=>exact ⟨by rw [Nat.sub_self];rfl,HA⟩
 case round=>
  clear HA
  obtain ⟨rfl,HA⟩:=hrel
  obtain ⟨ok1,S2,log2,hM,hS,hi,hil,hg,hr⟩:=HA.out.out
  cases gk with
  | zero=>cases hr
  | succ g=>
   obtain ⟨m,hm⟩: ∃ m,m=F - (g+1):=⟨_,rfl⟩
   have hmlt:m<1048576:=by have:=HFF.out;omega
   have d1:decide ((m:Int)<1048576)=true:=decide_eq_true (by omega)
   have d2:decide (m<1048576)=true:=decide_eq_true hmlt
   have EM:ay (m+1=F - g):=⟨by omega⟩
   have hw1:wrap64 ((m:Int)+1)=((m+1:Nat):Int):=by unfold wrap64;omega
   rw [EM.out] at hw1
   have HMM:=Am_ hmlt
   have HG:=Am_ hg
   have M1:=Am_ hM
   rw [←hm]
   unfold Dv at hr
   cases hs:mJ t f dT ⟨S2.ws,log2,0,false⟩ with
   | none=>rw [hs] at hr;cases hr
   | some sres=>
    rw [hs] at hr
    have HR:=Am_ hr
    have HIL:=Am_ (And.intro hi hil)
    have HST:=Am_ (rW sb p t i S2 o log2 ok1 wr hS f dT HDO.out HSM.out hi hil sres hs (fun l hl=>by obtain ⟨o1,s1⟩:=sres;obtain rfl:o1= .ret l:=hl;exact yS HSM.out hs))
    clear hM hS hi hil hg hr hs HA hm hmlt
    go_upto_region 4 with (go_at_call 23;refine HST.out.mono ?_;rintro e w2 hE;obtain ⟨ok2,hm2,hres⟩:=hE.out;obtain ⟨o1,s1⟩:=sres;have M2:=Am_ (M1.out.trans hm2);clear hE HST hm2;rcases o1 with l | _)
    ·obtain ⟨rfl,hA⟩:=hres
     have h1:=HR.out
     injection h1 with h1
     injection h1 with _ h1
     injection h1 with h2 h1
     injection h1 with h3 _
     subst h2
     have A2:=Am_ hA
     clear hA
     go_wp2_with fail
     go_ret
     subst h3
     exact ⟨⟨ok2,rfl,M2.out,A2.out⟩⟩
    ·obtain ⟨rfl,hA⟩:=hres
     have A2:=Am_ hA
     clear hA
     go_wp2_with fail
     go_roundg g
     case rel=>exact ⟨by rw [hw1],⟨⟨ok2,_,_,M2.out,A2.out,HIL.out.1,HIL.out.2,by have:=HG.out;omega,HR.out⟩⟩⟩
     case measure=>omega
end Go.Proofs.YtmnjjdeaccgjlaaGreat.Tower
