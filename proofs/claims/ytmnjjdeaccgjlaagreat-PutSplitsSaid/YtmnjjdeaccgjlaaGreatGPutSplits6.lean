/- Words and contracts that the claim stands on, part 7 of 8. -/
import Derived.Test.YtmnjjdeaccgjlaaGreatGPutSplits0
import Derived.Test.YtmnjjdeaccgjlaaGreatGPutSplits1
import Derived.Test.YtmnjjdeaccgjlaaGreatGPutSplits2
import Derived.Test.YtmnjjdeaccgjlaaGreatGPutSplits3
import Derived.Test.YtmnjjdeaccgjlaaGreatGPutSplits4
import Derived.Test.YtmnjjdeaccgjlaaGreatGPutSplits5
set_option linter.unusedSimpArgs false
set_option linter.unusedVariables false
set_option maxHeartbeats 8000000
set_option maxRecDepth 100000
namespace Go.Proofs.YtmnjjdeaccgjlaaGreat.PPutSplits
open Go.RowKit Go.Proofs.YtmnjjdeaccgjlaaGreatW.PrintWords Go.Proofs.YtmnjjdeaccgjlaaGreatW.PrintLast Go.Proofs.YtmnjjdeaccgjlaaGreatW.PrintMore
attribute [local go_sem] om oD sF uy mh lY oU oG
def bZ.l0:Nat→Int→List (fF)→Int→Int→Option (Int)
 | 0,_,_,_,_=>none
 | k+1,x1,x7,x8,x9=>if x9<x8 then (if 0≤x9 then (if x9<(x7.length:Int) then (if ((aJ x7 x9).f0)=x1 then (some x9) else (bZ.l0 k x1 x7 x8 (wrap64 (x9+1)))) else (none)) else (none)) else (some (-1))
def bZ.f (k:Nat) (l0:List (fF)) (a1:Int):Option (Int):=bZ.l0 k a1 l0 (l0.length:Int) 0
theorem bZ.calls (k:Nat) (A0:Option Addr) (c0:Nat) (l0:List (fF)) (a1:Int) (r:Int) (w:World) (hr0:Kd.C mg w A0 l0.length l0) (hc0:l0.length≤c0) (h:bZ.f k l0 a1=some r):
  Calls Tryz.prog 95 #[.slice A0 l0.length c0,.int .i64 a1] w fun e w'=>e= .returned (.int .i64 r)∧Below w.heap.size w w':=by
 have hu121:=Tryz.underlying121
 have HR0:=Am_ hr0
 have HC0:=Am_ hc0
 clear hr0 hc0
 have HB:=Am_ (Below.refl w.heap.size w)
 have H:(bZ.l0 k a1 l0 (l0.length:Int) 0)=some r:=h
 clear h
 have H':=Am_ H
 clear H
 go_enter Tryz.func95,Tryz.ntmps95
 go_wp2
 go_loopg [9] k (fun kq v9 w'=> ∃ (x9_1:Int),v9= .int .i64 x9_1∧av (bZ.l0 kq a1 l0 (l0.length:Int) x9_1=some r)∧av (kq≤k)∧av (Below w.heap.size w w'))
 case atStart=>exact ⟨(0),(by first | rfl | (simp;done) | (simp [*];done)),H',⟨Nat.le_refl _⟩,⟨by repeat (first | (with_reducible first | exact HB.out | apply ai | apply au | apply aA) | exact HB.out)⟩⟩
 case round=>
  clear H'
  try clear p2
  obtain ⟨x9_1,rfl,HA,HK1,HB⟩:=hrel
  cases gk with
  | zero=>exact absurd HA.out (by simp [bZ.l0])
  | succ k1=>
   have H:=HA.out
   clear HA
   simp only [bZ.l0] at H
   by_cases c3:x9_1<(l0.length:Int)
   ·rw [if_pos c3] at H
    have c3b0:decide (x9_1<(l0.length:Int))=true:=decide_eq_true c3
    clear c3
    by_cases c4:0≤x9_1
    ·rw [if_pos c4] at H
     have c4b0:decide (0≤x9_1)=true:=decide_eq_true c4
     clear c4
     by_cases c5:x9_1<(l0.length:Int)
     ·rw [if_pos c5] at H
      have c5b0:decide (x9_1<(l0.length:Int))=true:=decide_eq_true c5
      clear c5
      by_cases c6:((aJ l0 x9_1).f0)=a1
      ·rw [if_pos c6] at H
       have c6b0:(((aJ l0 x9_1).f0) == a1)=true:=beq_iff_eq.mpr c6
       have c6b1:(((aJ l0 x9_1).f0) != a1)=false:=bne_eq_false_iff_eq.mpr c6
       clear c6
       obtain rfl:=Option.some.inj H
       have p118:0≤(x9_1:Int):=of_decide_eq_true (by first | (with_reducible assumption) | assumption)
       have q118:x9_1<(l0.length:Int):=of_decide_eq_true (by first | (with_reducible assumption) | assumption)
       obtain ⟨ad118,e118,hx118_0,hx118_1⟩:=kr HR0.out x9_1 p118 q118
       cases e118
       replace hx118_0:=(HB.out.cell (World.block_lt_of_cell? w _ hx118_0)).trans hx118_0
       replace hx118_1:=(HB.out.cell (World.block_lt_of_cell? w _ hx118_1)).trans hx118_1
       replace p118:=eq_true p118
       replace q118:=eq_true q118
       go_wp2_with (first | ((with_reducible refine iO (N:=6) rfl ?_);refine gX ?hg (N:=6) ?hd (cs:= #[.int .i64 0,.int .i64 0]) (t:=121) ?hr ?_;(case hd=>rfl);(case hg=>rfl);(case hr=>first | (go_simp;done) | (go_simp;rfl));intro gb119 hg w7 hbox hb;have n0_:=Am_ (dL (by repeat (first | (with_reducible first | exact HB.out | apply ai | apply au | apply aA) | exact HB.out)) hb);have n1_:=Am_ (hbox);have n2_:=Am_ ((by rw [hg];exact (bN (by repeat (first | (with_reducible first | exact HB.out | apply ai | apply au | apply aA) | exact HB.out))):w.heap.size≤gb119));have n3_:=Am_ ((by rw [hg];exact (bN (by repeat (first | (with_reducible first | exact HB.out | apply ai | apply au | apply aA) | exact HB.out))):w.heap.size≤gb119));clear HB;have HB:=n0_;have BK119:=n1_;have GW119:=n2_;have GE119:=n3_;clear n0_ n1_ n2_ n3_;clear hb hbox hg;have hcz8_0:w7.cell? ⟨gb119,0,none⟩=some (.int .i64 0):=(af BK119.out 0).trans rfl;have hcz8_1:w7.cell? ⟨gb119,1,none⟩=some (.int .i64 0):=(af BK119.out 1).trans rfl;have hfz8_0:=ah BK119.out 0;have hfz8_1:=ah BK119.out 1))
       go_ret
       exact ⟨by first | rfl | (simp [dA,dB]<;>rfl) | (simp [*,dA,dB]<;>rfl),by repeat (first | (with_reducible first | exact HB.out | apply ai | apply au | apply aA | refine aM ?_ GE119.out) | exact HB.out)⟩
      ·rw [if_neg c6] at H
       have c6b0:(((aJ l0 x9_1).f0) == a1)=false:=beq_eq_false_iff_ne.mpr c6
       have c6b1:(((aJ l0 x9_1).f0) != a1)=true:=bne_iff_ne.mpr c6
       have H':=Am_ H
       clear H
       have p118:0≤(x9_1:Int):=of_decide_eq_true (by first | (with_reducible assumption) | assumption)
       have q118:x9_1<(l0.length:Int):=of_decide_eq_true (by first | (with_reducible assumption) | assumption)
       obtain ⟨ad118,e118,hx118_0,hx118_1⟩:=kr HR0.out x9_1 p118 q118
       cases e118
       replace hx118_0:=(HB.out.cell (World.block_lt_of_cell? w _ hx118_0)).trans hx118_0
       replace hx118_1:=(HB.out.cell (World.block_lt_of_cell? w _ hx118_1)).trans hx118_1
       replace p118:=eq_true p118
       replace q118:=eq_true q118
       go_wp2_with (first | ((with_reducible refine iO (N:=6) rfl ?_);refine gX ?hg (N:=6) ?hd (cs:= #[.int .i64 0,.int .i64 0]) (t:=121) ?hr ?_;(case hd=>rfl);(case hg=>rfl);(case hr=>first | (go_simp;done) | (go_simp;rfl));intro gb119 hg w9 hbox hb;have n0_:=Am_ (dL (by repeat (first | (with_reducible first | exact HB.out | apply ai | apply au | apply aA) | exact HB.out)) hb);have n1_:=Am_ (hbox);have n2_:=Am_ ((by rw [hg];exact (bN (by repeat (first | (with_reducible first | exact HB.out | apply ai | apply au | apply aA) | exact HB.out))):w.heap.size≤gb119));have n3_:=Am_ ((by rw [hg];exact (bN (by repeat (first | (with_reducible first | exact HB.out | apply ai | apply au | apply aA) | exact HB.out))):w.heap.size≤gb119));clear HB;have HB:=n0_;have BK119:=n1_;have GW119:=n2_;have GE119:=n3_;clear n0_ n1_ n2_ n3_;clear hb hbox hg;have hcz10_0:w9.cell? ⟨gb119,0,none⟩=some (.int .i64 0):=(af BK119.out 0).trans rfl;have hcz10_1:w9.cell? ⟨gb119,1,none⟩=some (.int .i64 0):=(af BK119.out 1).trans rfl;have hfz10_0:=ah BK119.out 0;have hfz10_1:=ah BK119.out 1))
       go_roundg k1
       case measure=>have:=HK1.out;omega
       case rel=>exact ⟨(wrap64 (x9_1+1)),(by first | rfl | (simp;done) | (simp [*];done)),H',⟨by have:=HK1.out;omega⟩,⟨by repeat (first | (with_reducible first | exact HB.out | apply ai | apply au | apply aA | refine aM ?_ GE119.out) | exact HB.out)⟩⟩
     ·rw [if_neg c5] at H
      exact absurd H (by simp)
    ·rw [if_neg c4] at H
     exact absurd H (by simp)
   ·rw [if_neg c3] at H
    have c3b0:decide (x9_1<(l0.length:Int))=false:=decide_eq_false c3
    clear c3
    obtain rfl:=Option.some.inj H
    go_wp2
    go_ret
    exact ⟨by first | rfl | (simp [dA,dB]<;>rfl) | (simp [*,dA,dB]<;>rfl),by repeat (first | (with_reducible first | exact HB.out | apply ai | apply au | apply aA) | exact HB.out)⟩
def dZ (w0 W:World) (g:Nat) (f0:List (ze)) (f1:List Int) (f2:Int) (f3:Int) (f4:Int):Prop:= ∃ A0 c0,∃ A1 c1,W.heap[g]?=some (.cells #[.slice A0 f0.length c0,.slice A1 f1.length c1,.int .i64 f2,.int .i64 f3,.int .i64 f4] 126 (0,0))∧w0.heap.size≤g∧Kd.C RH w0 A0 f0.length f0∧Kd.C (Kd.int .i64) w0 A1 f1.length f1
theorem dZ.grown {w0 W:World} {g:Nat} {f0:List (ze)} {f1:List Int} {f2:Int} {f3:Int} {f4:Int} {W1:World} {row:Option Nat} (h:dZ w0 W g f0 f1 f2 f3 f4) (hw:W.grownBy W1 row) (hne:some g≠row):dZ w0 W1 g f0 f1 f2 f3 f4:=by
 obtain ⟨A0,c0,A1,c1,hb,hg,hr0,hr1⟩:=h
 exact ⟨A0,c0,A1,c1,bS hb hw hne,hg,hr0,hr1⟩
theorem dZ.fresh {w0 W:World} {g:Nat} {f0:List (ze)} {f1:List Int} {f2:Int} {f3:Int} {f4:Int} (h:dZ w0 W g f0 f1 f2 f3 f4): ∀ k,W.heap.size≤k→k≠g:=by
 obtain ⟨A0,c0,A1,c1,hb,hg,hr0,hr1⟩:=h
 exact Kd.xH hb
theorem dZ.kept {w0 W:World} {g:Nat} {f0:List (ze)} {f1:List Int} {f2:Int} {f3:Int} {f4:Int} {W1:World} {S:Nat→Prop} (h:dZ w0 W g f0 f1 f2 f3 f4) (hk:Kept W W1 S) (hne: ¬ S g):dZ w0 W1 g f0 f1 f2 f3 f4:=by
 obtain ⟨A0,c0,A1,c1,hb,hg,hr0,hr1⟩:=h
 exact ⟨A0,c0,A1,c1,Ja hb hk hne,hg,hr0,hr1⟩
theorem dZ.below {w0 W:World} {g:Nat} {f0:List (ze)} {f1:List Int} {f2:Int} {f3:Int} {f4:Int} {W1:World} (h:dZ w0 W g f0 f1 f2 f3 f4) (hw:Below W.heap.size W W1):dZ w0 W1 g f0 f1 f2 f3 f4:=h.grown (ny hw none) (by simp)
theorem dZ.alloc {w0 W:World} {g:Nat} {f0:List (ze)} {f1:List Int} {f2:Int} {f3:Int} {f4:Int} (h:dZ w0 W g f0 f1 f2 f3 f4) (o:Obj):dZ w0 (W.alloc o) g f0 f1 f2 f3 f4:=h.below (ai (Below.refl _ _) o)
theorem dZ.drewN {w0 W:World} {g:Nat} {f0:List (ze)} {f1:List Int} {f2:Int} {f3:Int} {f4:Int} (h:dZ w0 W g f0 f1 f2 f3 f4) (m:Nat):dZ w0 (W.drewN m) g f0 f1 f2 f3 f4:=h
theorem dZ.drew {w0 W:World} {g:Nat} {f0:List (ze)} {f1:List Int} {f2:Int} {f3:Int} {f4:Int} (h:dZ w0 W g f0 f1 f2 f3 f4):dZ w0 W.drew g f0 f1 f2 f3 f4:=h
theorem dZ.at_ {w0 W:World} {g:Nat} {f0:List (ze)} {f1:List Int} {f2:Int} {f3:Int} {f4:Int} {w':World} {m:Nat} (hq:W.drewN m=w') (h:dZ w0 W g f0 f1 f2 f3 f4):dZ w0 w' g f0 f1 f2 f3 f4:=by subst hq;exact dZ.drewN h m
theorem dZ.apart {w0 W:World} {g:Nat} {f0:List (ze)} {f1:List Int} {f2:Int} {f3:Int} {f4:Int} {α:Type} {d:Kd α} {e:Nat} {base:Nat} {ok:Nat→Prop} {v:Value} {xs:List α} (h:dZ w0 W g f0 f1 f2 f3 f4) (ho:d.R e W base ok v xs) (ht: ∀ q,q∈e::d.E→q≠126):d.R e W base (fun k=>ok k∧k≠g) v xs:=by
 obtain ⟨A0,c0,A1,c1,hb,hg,hr0,hr1⟩:=h
 exact Kd.Gm ho hb ht
theorem dZ.own_ne {w0 W:World} {g:Nat} {f0:List (ze)} {f1:List Int} {f2:Int} {f3:Int} {f4:Int} {α:Type} {d:Kd α} {e:Nat} {base:Nat} {ok:Nat→Prop} {v:Value} {xs:List α} (h:dZ w0 W g f0 f1 f2 f3 f4) (ho:d.R e W base ok v xs) (ht:e≠126):some g≠v.ownBlock:=by
 obtain ⟨A0,c0,A1,c1,hb,hg,hr0,hr1⟩:=h
 exact Kd.Ro ho hb ht
theorem dZ.lt {w0 W:World} {g:Nat} {f0:List (ze)} {f1:List Int} {f2:Int} {f3:Int} {f4:Int} (h:dZ w0 W g f0 f1 f2 f3 f4):g<W.heap.size:=by
 obtain ⟨A0,c0,A1,c1,hb,hg,hr0,hr1⟩:=h
 exact bH hb
theorem dZ.far {w0 W:World} {g:Nat} {f0:List (ze)} {f1:List Int} {f2:Int} {f3:Int} {f4:Int} {p:Addr} (h:dZ w0 W g f0 f1 f2 f3 f4) (hne:g≠p.block) (u:Value):dZ w0 (W.setCell p u) g f0 f1 f2 f3 f4:=by
 obtain ⟨A0,c0,A1,c1,hb,hg,hr0,hr1⟩:=h
 exact ⟨A0,c0,A1,c1,dQ hb hne u,hg,hr0,hr1⟩
theorem dZ.new (w0 W:World) (A0:Option Addr) (c0:Nat) (A1:Option Addr) (c1:Nat) (f0:List (ze)) (f1:List Int) (f2:Int) (f3:Int) (f4:Int) (hB:Below w0.heap.size w0 W) (hr0:Kd.C RH w0 A0 f0.length f0) (hr1:Kd.C (Kd.int .i64) w0 A1 f1.length f1):dZ w0 (W.alloc (.cells #[.slice A0 f0.length c0,.slice A1 f1.length c1,.int .i64 f2,.int .i64 f3,.int .i64 f4] 126)) W.heap.size f0 f1 f2 f3 f4:=⟨A0,c0,A1,c1,by simpa using heap_alloc_new W _,hB.size,hr0,hr1⟩
def eU.f (a0:Int):Option (Int):=some (wrap64 (3+(Int.tmod (wrap64 (a0)) 6)))
theorem eU.calls (a0:Int) (r:Int) (w:World) (h:eU.f a0=some r):
  Calls Tryz.prog 11 #[.int .u8 a0] w fun e w'=>e= .returned (.int .i64 r)∧gV w w':=by
 have H:(some (wrap64 (3+(Int.tmod (wrap64 (a0)) 6))))=some r:=h
 clear h
 obtain rfl:=Option.some.inj H
 go_enter Tryz.func11,Tryz.ntmps11
 go_wp2
 go_ret
 exact ⟨by first | rfl | (simp;done) | (simp [*];done),by repeat (first | exact gV.refl _ | apply gV.step)⟩
mutual
def aC.l0:Nat→Int→Int→List (fF)→Bool→List (fF)→Int→Int→Option ((List (fF)))
 | 0,_,_,_,_,_,_,_=>none
 | k+1,x1,x2,x7,x8,x11,x12,x13=>if x13<x12 then (if 0≤x13 then (if x13<(x11.length:Int) then (if x8=true then (aC.j1 k x1 x2 x7 x8 x11 x12 x13 false ((aJ x11 x13).f0) ((aJ x11 x13).f1)) else (aC.j1 k x1 x2 x7 x8 x11 x12 x13 (decide (((aJ x11 x13).f0)≥x1)) ((aJ x11 x13).f0) ((aJ x11 x13).f1))) else (none)) else (none)) else (if x8=true then (some x7) else (if x7.length<8796093022208 then (some (x7++ [(⟨x1,x2⟩:fF)])) else (none)))
def aC.j1:Nat→Int→Int→List (fF)→Bool→List (fF)→Int→Int→Bool→Int→Int→Option ((List (fF)))
 | 0,_,_,_,_,_,_,_,_,_,_=>none
 | k+1,x1,x2,x7,x8,x11,x12,x13,x24,x141000,x141001=>if x24=true then (if x7.length<8796093022208 then ((some (x7++ [(⟨x1,x2⟩:fF)]:List (fF))).bind fun y141=>(if x141000=x1 then (aC.l0 k x1 x2 y141 true x11 x12 (wrap64 (x13+1))) else (if y141.length<8796093022208 then (aC.l0 k x1 x2 (y141++ [(⟨x141000,x141001⟩:fF)]) true x11 x12 (wrap64 (x13+1))) else (none)))) else (none)) else (if x141000=x1 then (aC.l0 k x1 x2 x7 x8 x11 x12 (wrap64 (x13+1))) else (if x7.length<8796093022208 then (aC.l0 k x1 x2 (x7++ [(⟨x141000,x141001⟩:fF)]) x8 x11 x12 (wrap64 (x13+1))) else (none)))
end
def aC.f (k:Nat) (l0:List (fF)) (a1:Int) (a2:Int):Option ((List (fF))):=aC.l0 k a1 a2 ([]:List (fF)) false l0 (l0.length:Int) 0
theorem aC.lD: ∀ k,(∀ y0 y1 y2 y3 y4 y5 y6,LeO (aC.l0 k y0 y1 y2 y3 y4 y5 y6) (aC.l0 (k+1) y0 y1 y2 y3 y4 y5 y6))∧(∀ y0 y1 y2 y3 y4 y5 y6 y7 y8 y9,LeO (aC.j1 k y0 y1 y2 y3 y4 y5 y6 y7 y8 y9) (aC.j1 (k+1) y0 y1 y2 y3 y4 y5 y6 y7 y8 y9))
 | 0=>⟨fun _ _ _ _ _ _ _ r h=>by simp [aC.l0] at h,fun _ _ _ _ _ _ _ _ _ _ r h=>by simp [aC.j1] at h⟩
 | k+1=>by
  obtain ⟨ih0,ih1⟩:=aC.lD k
  refine ⟨?_,?_⟩
  ·intro y0 y1 y2 y3 y4 y5 y6
   unfold aC.l0
   repeat' first
   | (with_reducible exact ih0 _ _ _ _ _ _ _)
   | (with_reducible exact ih1 _ _ _ _ _ _ _ _ _ _)
   | (with_reducible exact LeO.refl _)
   | (with_reducible exact LeO.none _)
   | (with_reducible refine LeO.ite ?_ ?_)
   | (with_reducible refine LeO.bind ?_ (fun _=>?_))
   | exact ih0 _ _ _ _ _ _ _
   | exact ih1 _ _ _ _ _ _ _ _ _ _
   | exact LeO.none _
   | refine LeO.ite ?_ ?_
   | refine LeO.bind ?_ (fun _=>?_)
  ·intro y0 y1 y2 y3 y4 y5 y6 y7 y8 y9
   unfold aC.j1
   repeat' first
   | (with_reducible exact ih0 _ _ _ _ _ _ _)
   | (with_reducible exact ih1 _ _ _ _ _ _ _ _ _ _)
   | (with_reducible exact LeO.refl _)
   | (with_reducible exact LeO.none _)
   | (with_reducible refine LeO.ite ?_ ?_)
   | (with_reducible refine LeO.bind ?_ (fun _=>?_))
   | exact ih0 _ _ _ _ _ _ _
   | exact ih1 _ _ _ _ _ _ _ _ _ _
   | exact LeO.none _
   | refine LeO.ite ?_ ?_
   | refine LeO.bind ?_ (fun _=>?_)
theorem aC.calls (k:Nat) (A0:Option Addr) (c0:Nat) (l0:List (fF)) (a1:Int) (a2:Int) (r:List (fF)) (w:World) (hr0:Kd.C mg w A0 l0.length l0) (hc0:l0.length≤c0) (h:aC.f k l0 a1 a2=some r):
  Calls Tryz.prog 16 #[.slice A0 l0.length c0,.int .i64 a1,.int .i64 a2] w fun e w'=> ∃ v0_:Value,e= .returned (v0_)∧Kd.R mg 121 w' w.heap.size (fun _=>True) v0_ r∧Below w.heap.size w w':=by
 have hu121:=Tryz.underlying121
 have HR0:=Am_ hr0
 have HC0:=Am_ hc0
 clear hr0 hc0
 have HB:=Am_ (Below.refl w.heap.size w)
 have H:(aC.l0 k a1 a2 ([]:List (fF)) false l0 (l0.length:Int) 0)=some r:=h
 clear h
 have H':=Am_ H
 clear H
 go_enter Tryz.func16,Tryz.ntmps16
 go_wp2
 go_loopg [7,8,13] k (fun kq v7 v8 v13 w'=> ∃ (x7_1:List (fF)) (x8_1:Bool) (x13_1:Int),v8= .bool x8_1∧v13= .int .i64 x13_1∧av (aC.l0 kq a1 a2 x7_1 x8_1 l0 (l0.length:Int) x13_1=some r)∧av (kq≤k)∧av (Kd.R mg 121 w' w.heap.size (fun _=>True) v7 x7_1)∧av (Below w.heap.size w w'))
 case atStart=>exact ⟨(([]:List (fF))),(false),(0),(by first | rfl | (simp;done) | (simp [*];done)),(by first | rfl | (simp;done) | (simp [*];done)),H',⟨Nat.le_refl _⟩,⟨by first | exact Kd.gY _ _ _ _ _ | exact Kd.KL _ _ _ _ _ | exact Kd.QC _ _ _ _ _ | exact Kd.KC _ _ _ _ _ | exact Kd.PO _ _ _ _ _⟩,⟨by repeat (first | (with_reducible first | exact HB.out | apply ai | apply au | apply aA) | exact HB.out)⟩⟩
 case round=>
  clear H'
  try clear c1
  try clear p2
  obtain ⟨x7_1,x8_1,x13_1,rfl,rfl,HA,HK1,HO_7,HB⟩:=hrel
  cases gk with
  | zero=>exact absurd HA.out (by simp [aC.l0])
  | succ k1=>
   have H:=HA.out
   clear HA
   simp only [aC.l0] at H
   by_cases c4:x13_1<(l0.length:Int)
   ·rw [if_pos c4] at H
    have c4b0:decide (x13_1<(l0.length:Int))=true:=decide_eq_true c4
    clear c4
    by_cases c5:0≤x13_1
    ·rw [if_pos c5] at H
     have c5b0:decide (0≤x13_1)=true:=decide_eq_true c5
     clear c5
     by_cases c6:x13_1<(l0.length:Int)
     ·rw [if_pos c6] at H
      have c6b0:decide (x13_1<(l0.length:Int))=true:=decide_eq_true c6
      clear c6
      have HC7:=Am_ H
      clear H
      have p139:0≤(x13_1:Int):=of_decide_eq_true (by first | (with_reducible assumption) | assumption)
      have q139:x13_1<(l0.length:Int):=of_decide_eq_true (by first | (with_reducible assumption) | assumption)
      obtain ⟨ad139,e139,hx139_0,hx139_1⟩:=kr HR0.out x13_1 p139 q139
      cases e139
      replace hx139_0:=(HB.out.cell (World.block_lt_of_cell? w _ hx139_0)).trans hx139_0
      replace hx139_1:=(HB.out.cell (World.block_lt_of_cell? w _ hx139_1)).trans hx139_1
      replace p139:=eq_true p139
      replace q139:=eq_true q139
      go_upto_region 6 with (first | ((with_reducible refine iO (N:=10) rfl ?_);refine gX ?hg (N:=10) ?hd (cs:= #[.int .i64 0,.int .i64 0]) (t:=121) ?hr ?_;(case hd=>rfl);(case hg=>rfl);(case hr=>first | (go_simp;done) | (go_simp;rfl));intro gb140 hg w8 hbox hb;have n0_:=Am_ (Kd.dX (Kd.Jq (by (with_reducible repeat (first | apply Kd.dD | apply Kd.fA | apply Kd.fG));exact HO_7.out) gb140 (Nat.le_of_eq hg.symm)) hb);have n1_:=Am_ (dL (by repeat (first | (with_reducible first | exact HB.out | apply ai | apply au | apply aA) | exact HB.out)) hb);have n2_:=Am_ (hbox);have n3_:=Am_ ((by rw [hg];exact (bN (by repeat (first | (with_reducible first | exact HB.out | apply ai | apply au | apply aA) | exact HB.out))):w.heap.size≤gb140));have n4_:=Am_ ((by rw [hg];exact (bN (by repeat (first | (with_reducible first | exact HB.out | apply ai | apply au | apply aA) | exact HB.out))):w.heap.size≤gb140));clear HO_7;clear HB;have HO_7:=n0_;have HB:=n1_;have BK140:=n2_;have GW140:=n3_;have GE140:=n4_;clear n0_ n1_ n2_ n3_ n4_;clear hb hbox hg;have hcz9_0:w8.cell? ⟨gb140,0,none⟩=some (.int .i64 0):=(af BK140.out 0).trans rfl;have hcz9_1:w8.cell? ⟨gb140,1,none⟩=some (.int .i64 0):=(af BK140.out 1).trans rfl;have hfz9_0:=ah BK140.out 0;have hfz9_1:=ah BK140.out 1))
      (try simp only [Act.put,u1_,u2_,u3_])
      go_cut [24] (fun v24 wc=> ∃ (kq:Nat) (x24_6:Bool),v24= .bool x24_6∧av (aC.j1 kq a1 a2 x7_1 x8_1 l0 (l0.length:Int) x13_1 x24_6 ((aJ l0 x13_1).f0) ((aJ l0 x13_1).f1)=some r)∧av (kq≤k1)∧av (Kd.R mg 121 wc w.heap.size (fun k_=>k_≠gb140) u7 x7_1)∧av (wc.heap[gb140]?=some (.cells #[.int .i64 ((aJ l0 x13_1).f0),.int .i64 ((aJ l0 x13_1).f1)] 121 (0,0)))∧av (Below w.heap.size w wc))
      case first=>
       have H:=HC7.out
       clear HC7
       by_cases c10:x8_1=true
       ·subst c10
        have H1:(aC.j1 k1 a1 a2 x7_1 true l0 (l0.length:Int) x13_1 false ((aJ l0 x13_1).f0) ((aJ l0 x13_1).f1))=some r:=by rw [if_pos rfl] at H;exact H
        clear H
        have H:=H1
        clear H1
        have H':=Am_ H
        clear H
        go_wp2
        go_meet
        case rel=>exact ⟨_,(false),(by first | rfl | (simp;done) | (simp [*];done)),H',⟨by have:=HK1.out;first | omega | exact Nat.le_refl _⟩,⟨by (with_reducible repeat (first | apply Kd.dD | apply Kd.fA | apply Kd.fG));exact Kd.bC (Kd.dV (p:=⟨gb140,1,none⟩) (Kd.dV (p:=⟨gb140,0,none⟩) (Kd.bC HO_7.out (fun k_ hk=>(⟨hk,hk.2⟩:_∧k_≠gb140))) (fun _ hk=>hk.2) (.int .i64 ((aJ l0 x13_1).f0))) (fun _ hk=>hk.2) (.int .i64 ((aJ l0 x13_1).f1))) (fun _ hk=>hk.1.2)⟩,⟨by (with_reducible repeat (first | refine aY ?_ _ | refine aV ?_ | refine aK ?_ _));refine kY (cs:= #[.int .i64 ((aJ l0 x13_1).f0),.int .i64 0]) ?_ 1 _ rfl;(with_reducible repeat (first | refine aY ?_ _ | refine aV ?_ | refine aK ?_ _));refine kY (cs:= #[.int .i64 0,.int .i64 0]) ?_ 0 _ rfl;(with_reducible repeat (first | refine aY ?_ _ | refine aV ?_ | refine aK ?_ _));exact BK140.out⟩,⟨by repeat (first | (with_reducible first | exact HB.out | apply ai | apply au | apply aA | refine aM ?_ GE140.out) | exact HB.out)⟩⟩
       ·replace c10:=Bool.eq_false_iff.mpr c10
        subst c10
        have H1:(aC.j1 k1 a1 a2 x7_1 false l0 (l0.length:Int) x13_1 (decide (((aJ l0 x13_1).f0)≥a1)) ((aJ l0 x13_1).f0) ((aJ l0 x13_1).f1))=some r:=by rw [if_neg (show ¬ (false=true) by decide)] at H;exact H
        clear H
        have H:=H1
        clear H1
        have H':=Am_ H
        clear H
        have hcz11_0:w8.cell? ⟨gb140,0,none⟩=some (.int .i64 0):=(af BK140.out 0).trans rfl
        have hcz11_1:w8.cell? ⟨gb140,1,none⟩=some (.int .i64 0):=(af BK140.out 1).trans rfl
        have hfz11_0:=ah BK140.out 0
        have hfz11_1:=ah BK140.out 1
        go_wp2
        go_meet
        case rel=>exact ⟨_,(decide (((aJ l0 x13_1).f0)≥a1)),(by first | rfl | (simp;done) | (simp [*];done)),H',⟨by have:=HK1.out;first | omega | exact Nat.le_refl _⟩,⟨by (with_reducible repeat (first | apply Kd.dD | apply Kd.fA | apply Kd.fG));exact Kd.bC (Kd.dV (p:=⟨gb140,1,none⟩) (Kd.dV (p:=⟨gb140,0,none⟩) (Kd.bC HO_7.out (fun k_ hk=>(⟨hk,hk.2⟩:_∧k_≠gb140))) (fun _ hk=>hk.2) (.int .i64 ((aJ l0 x13_1).f0))) (fun _ hk=>hk.2) (.int .i64 ((aJ l0 x13_1).f1))) (fun _ hk=>hk.1.2)⟩,⟨by (with_reducible repeat (first | refine aY ?_ _ | refine aV ?_ | refine aK ?_ _));refine kY (cs:= #[.int .i64 ((aJ l0 x13_1).f0),.int .i64 0]) ?_ 1 _ rfl;(with_reducible repeat (first | refine aY ?_ _ | refine aV ?_ | refine aK ?_ _));refine kY (cs:= #[.int .i64 0,.int .i64 0]) ?_ 0 _ rfl;(with_reducible repeat (first | refine aY ?_ _ | refine aV ?_ | refine aK ?_ _));exact BK140.out⟩,⟨by repeat (first | (with_reducible first | exact HB.out | apply ai | apply au | apply aA | refine aM ?_ GE140.out) | exact HB.out)⟩⟩
      case rest=>
       clear HC7
       try clear c1
       try clear p1
       try clear q1
       try clear hx1
       try clear p2
       try clear c4
       try clear c4b0
       try clear c5
       try clear c5b0
       try clear c6
       try clear c6b0
       try clear c10
       try clear hcz11_0
       try clear hcz11_1
       try clear hcz9_0
       try clear hcz9_1
       try clear hfz11_0
       try clear hfz11_1
       try clear hfz9_0
       try clear hfz9_1
       try clear hx139_0
       try clear hx139_1
       try clear p139
       try clear p2
       try clear q139
       obtain ⟨kq,x24_6,rfl,HA,HJ6,HO_7,BK140,HB⟩:=hcut
       cases kq with
       | zero=>exact absurd HA.out (by simp [aC.j1])
       | succ kj6=>
        have H:=HA.out
        clear HA
        simp only [aC.j1] at H
        by_cases c12:x24_6=true
        ·subst c12
         have H1:(if x7_1.length<8796093022208 then ((some (x7_1++ [(⟨a1,a2⟩:fF)]:List (fF))).bind fun y141=>(if ((aJ l0 x13_1).f0)=a1 then (aC.l0 kj6 a1 a2 y141 true l0 (l0.length:Int) (wrap64 (x13_1+1))) else (if y141.length<8796093022208 then (aC.l0 kj6 a1 a2 (y141++ [(⟨((aJ l0 x13_1).f0),((aJ l0 x13_1).f1)⟩:fF)]) true l0 (l0.length:Int) (wrap64 (x13_1+1))) else (none)))) else (none))=some r:=by rw [if_pos rfl] at H;exact H
         clear H
         have H:=H1
         clear H1
         by_cases c13:x7_1.length<8796093022208
         ·rw [if_pos c13] at H
          have LMc13:=Am_ c13
          clear c13
          obtain ⟨y141,hy141⟩: ∃ y_:List (fF),y_=(x7_1++ [(⟨a1,a2⟩:fF)]):=⟨_,rfl⟩
          replace H:(if ((aJ l0 x13_1).f0)=a1 then (aC.l0 kj6 a1 a2 y141 true l0 (l0.length:Int) (wrap64 (x13_1+1))) else (if y141.length<8796093022208 then (aC.l0 kj6 a1 a2 (y141++ [(⟨((aJ l0 x13_1).f0),((aJ l0 x13_1).f1)⟩:fF)]) true l0 (l0.length:Int) (wrap64 (x13_1+1))) else (none)))=some r:=by first | (rw [hy141];with_reducible exact H) | (have H2_:=(Option.bind_some _ _).symm.trans H;rw [hy141];with_reducible exact H2_) | (have H2_:=(Option.bind_some _ _).symm.trans H;with_reducible exact H2_) | with_reducible exact H | (rw [hy141];exact H) | exact H
          have Ny141:=Am_ hy141
          clear hy141
          by_cases c14:((aJ l0 x13_1).f0)=a1
          ·rw [if_pos c14] at H
           have c14b0:(((aJ l0 x13_1).f0) == a1)=true:=beq_iff_eq.mpr c14
           have c14b1:(((aJ l0 x13_1).f0) != a1)=false:=bne_eq_false_iff_eq.mpr c14
           clear c14
           have H':=Am_ H
           clear H
           go_wp2_with (first | ((with_reducible refine cB (b:= .append) (xs:= #[.tmp 25,.tmp 29]) rfl ?_);at_builtin;refine Kd.gW mg (w0:=w) w.heap.size rfl (.tmp 25) (.tmp 29) 26 121 (.agg #[(.int .i64 0),(.int .i64 0)]) 16 rfl Tryz.underlying26 qz rfl (by decide) (by omega) u7 x7_1 (⟨a1,a2⟩:fF) [.int .i64 a1,.int .i64 a2] (fun k_=>k_≠gb140) (fun _=>False) rfl rfl ?aP (fun _ hk=>hk.elim) ?aF ?aO ?aB ?aS ?aL ?_;(case aP=>exact oC _ _ _ (⟨a1,a2⟩:fF));(case aB=>exact (by repeat (first | (with_reducible first | exact HB.out | apply ai | apply au | apply aA | refine aM ?_ GE140.out) | exact HB.out)));(case aF=>exact (fun k_ hk=>Kd.xH (g:=gb140) (o:= .cells #[.int .i64 ((aJ l0 x13_1).f0),.int .i64 ((aJ l0 x13_1).f1)] 121 (0,0)) (by (with_reducible repeat (first | refine aY ?_ _ | refine aV ?_ | refine aK ?_ _));exact BK140.out) k_ hk));(case aO=>exact (by (with_reducible repeat (first | apply Kd.dD | apply Kd.fA | apply Kd.fG));exact HO_7.out));(case aS=>exact (bN (by repeat (first | (with_reducible first | exact HB.out | apply ai | apply au | apply aA | refine aM ?_ GE140.out) | exact HB.out))));(case aL=>have:=LMc13.out;omega);intro v142 w15 ho hb hg hat;rw [←Ny141.out] at ho;have n0_:=Am_ (bS (g:=gb140) (o:= .cells #[.int .i64 ((aJ l0 x13_1).f0),.int .i64 ((aJ l0 x13_1).f1)] 121 (0,0)) (by (with_reducible repeat (first | refine aY ?_ _ | refine aV ?_ | refine aK ?_ _));exact BK140.out) hg (Kd.Bl HO_7.out (fun _ hk=>hk)));have n1_:=Am_ (hb);have n2_:=Am_ (ho);clear BK140;clear HB;clear HO_7;have BK140:=n0_;have HB:=n1_;have HO143:=n2_;clear n0_ n1_ n2_;clear ho hb hg hat;have hcz16_0:w15.cell? ⟨gb140,0,none⟩=some (.int .i64 ((aJ l0 x13_1).f0)):=(af BK140.out 0).trans rfl;have hcz16_1:w15.cell? ⟨gb140,1,none⟩=some (.int .i64 ((aJ l0 x13_1).f1)):=(af BK140.out 1).trans rfl;have hfz16_0:=ah BK140.out 0;have hfz16_1:=ah BK140.out 1))
           go_roundg kj6
           case measure=>have:=HK1.out;have:=HJ6.out;omega
           case rel=>exact ⟨(y141),(true),(wrap64 (x13_1+1)),(by first | rfl | (simp;done) | (simp [*];done)),(by first | rfl | (simp;done) | (simp [*];done)),H',⟨by have:=HK1.out;have:=HJ6.out;omega⟩,⟨by (with_reducible repeat (first | apply Kd.dD | apply Kd.fA | apply Kd.fG));exact Kd.bC HO143.out (fun _ hk=>trivial)⟩,⟨by repeat (first | (with_reducible first | exact HB.out | apply ai | apply au | apply aA | refine aM ?_ GE140.out) | exact HB.out)⟩⟩
          ·rw [if_neg c14] at H
           have c14b0:(((aJ l0 x13_1).f0) == a1)=false:=beq_eq_false_iff_ne.mpr c14
           have c14b1:(((aJ l0 x13_1).f0) != a1)=true:=bne_iff_ne.mpr c14
           by_cases c17:y141.length<8796093022208
           ·rw [if_pos c17] at H
            have LMc17:=Am_ c17
            clear c17
            obtain ⟨y144,hy144⟩: ∃ y_:List (fF),y_=(y141++ [(⟨((aJ l0 x13_1).f0),((aJ l0 x13_1).f1)⟩:fF)]):=⟨_,rfl⟩
            replace H:(aC.l0 kj6 a1 a2 y144 true l0 (l0.length:Int) (wrap64 (x13_1+1)))=some r:=by first | (rw [hy144];with_reducible exact H) | (have H2_:=(Option.bind_some _ _).symm.trans H;rw [hy144];with_reducible exact H2_) | (have H2_:=(Option.bind_some _ _).symm.trans H;with_reducible exact H2_) | with_reducible exact H | (rw [hy144];exact H) | exact H
            have Ny144:=Am_ hy144
            clear hy144
            have H':=Am_ H
            clear H
            go_wp2_with (first | ((with_reducible refine cB (b:= .append) (xs:= #[.tmp 25,.tmp 29]) rfl ?_);at_builtin;refine Kd.gW mg (w0:=w) w.heap.size rfl (.tmp 25) (.tmp 29) 26 121 (.agg #[(.int .i64 0),(.int .i64 0)]) 16 rfl Tryz.underlying26 qz rfl (by decide) (by omega) u7 x7_1 (⟨a1,a2⟩:fF) [.int .i64 a1,.int .i64 a2] (fun k_=>k_≠gb140) (fun _=>False) rfl rfl ?aP (fun _ hk=>hk.elim) ?aF ?aO ?aB ?aS ?aL ?_;(case aP=>exact oC _ _ _ (⟨a1,a2⟩:fF));(case aB=>exact (by repeat (first | (with_reducible first | exact HB.out | apply ai | apply au | apply aA | refine aM ?_ GE140.out) | exact HB.out)));(case aF=>exact (fun k_ hk=>Kd.xH (g:=gb140) (o:= .cells #[.int .i64 ((aJ l0 x13_1).f0),.int .i64 ((aJ l0 x13_1).f1)] 121 (0,0)) (by (with_reducible repeat (first | refine aY ?_ _ | refine aV ?_ | refine aK ?_ _));exact BK140.out) k_ hk));(case aO=>exact (by (with_reducible repeat (first | apply Kd.dD | apply Kd.fA | apply Kd.fG));exact HO_7.out));(case aS=>exact (bN (by repeat (first | (with_reducible first | exact HB.out | apply ai | apply au | apply aA | refine aM ?_ GE140.out) | exact HB.out))));(case aL=>have:=LMc13.out;omega);intro v142 w18 ho hb hg hat;rw [←Ny141.out] at ho;have n0_:=Am_ (bS (g:=gb140) (o:= .cells #[.int .i64 ((aJ l0 x13_1).f0),.int .i64 ((aJ l0 x13_1).f1)] 121 (0,0)) (by (with_reducible repeat (first | refine aY ?_ _ | refine aV ?_ | refine aK ?_ _));exact BK140.out) hg (Kd.Bl HO_7.out (fun _ hk=>hk)));have n1_:=Am_ (hb);have n2_:=Am_ (ho);clear BK140;clear HB;clear HO_7;have BK140:=n0_;have HB:=n1_;have HO143:=n2_;clear n0_ n1_ n2_;clear ho hb hg hat;have hcz19_0:w18.cell? ⟨gb140,0,none⟩=some (.int .i64 ((aJ l0 x13_1).f0)):=(af BK140.out 0).trans rfl;have hcz19_1:w18.cell? ⟨gb140,1,none⟩=some (.int .i64 ((aJ l0 x13_1).f1)):=(af BK140.out 1).trans rfl;have hfz19_0:=ah BK140.out 0;have hfz19_1:=ah BK140.out 1) | ((with_reducible refine cB (b:= .append) (xs:= #[.tmp 35,.tmp 37]) rfl ?_);at_builtin;refine Kd.gW mg (w0:=w) w.heap.size rfl (.tmp 35) (.tmp 37) 26 121 (.agg #[(.int .i64 0),(.int .i64 0)]) 16 rfl Tryz.underlying26 qz rfl (by decide) (by omega) v142 y141 (⟨((aJ l0 x13_1).f0),((aJ l0 x13_1).f1)⟩:fF) [.int .i64 ((aJ l0 x13_1).f0),.int .i64 ((aJ l0 x13_1).f1)] (fun k_=>k_≠gb140) (fun _=>False) rfl rfl ?aP (fun _ hk=>hk.elim) ?aF ?aO ?aB ?aS ?aL ?_;(case aP=>exact oC _ _ _ (⟨((aJ l0 x13_1).f0),((aJ l0 x13_1).f1)⟩:fF));(case aB=>exact (by repeat (first | (with_reducible first | exact HB.out | apply ai | apply au | apply aA | refine aM ?_ GE140.out) | exact HB.out)));(case aF=>exact (fun k_ hk=>Kd.xH (g:=gb140) (o:= .cells #[.int .i64 ((aJ l0 x13_1).f0),.int .i64 ((aJ l0 x13_1).f1)] 121 (0,0)) (by (with_reducible repeat (first | refine aY ?_ _ | refine aV ?_ | refine aK ?_ _));exact BK140.out) k_ hk));(case aO=>exact (by (with_reducible repeat (first | apply Kd.dD | apply Kd.fA | apply Kd.fG));exact HO143.out));(case aS=>exact (bN (by repeat (first | (with_reducible first | exact HB.out | apply ai | apply au | apply aA | refine aM ?_ GE140.out) | exact HB.out))));(case aL=>have:=LMc17.out;omega);intro v145 w20 ho hb hg hat;rw [←Ny144.out] at ho;have n0_:=Am_ (bS (g:=gb140) (o:= .cells #[.int .i64 ((aJ l0 x13_1).f0),.int .i64 ((aJ l0 x13_1).f1)] 121 (0,0)) (by (with_reducible repeat (first | refine aY ?_ _ | refine aV ?_ | refine aK ?_ _));exact BK140.out) hg (Kd.Bl HO143.out (fun _ hk=>hk)));have n1_:=Am_ (hb);have n2_:=Am_ (ho);clear BK140;clear HB;clear HO143;have BK140:=n0_;have HB:=n1_;have HO146:=n2_;clear n0_ n1_ n2_;clear ho hb hg hat))
            go_roundg kj6
            case measure=>have:=HK1.out;have:=HJ6.out;omega
            case rel=>exact ⟨(y144),(true),(wrap64 (x13_1+1)),(by first | rfl | (simp;done) | (simp [*];done)),(by first | rfl | (simp;done) | (simp [*];done)),H',⟨by have:=HK1.out;have:=HJ6.out;omega⟩,⟨by (with_reducible repeat (first | apply Kd.dD | apply Kd.fA | apply Kd.fG));exact Kd.bC HO146.out (fun _ hk=>trivial)⟩,⟨by repeat (first | (with_reducible first | exact HB.out | apply ai | apply au | apply aA | refine aM ?_ GE140.out) | exact HB.out)⟩⟩
           ·rw [if_neg c17] at H
            exact absurd H (by simp)
         ·rw [if_neg c13] at H
          exact absurd H (by simp)
        ·replace c12:=Bool.eq_false_iff.mpr c12
         subst c12
         have H1:(if ((aJ l0 x13_1).f0)=a1 then (aC.l0 kj6 a1 a2 x7_1 x8_1 l0 (l0.length:Int) (wrap64 (x13_1+1))) else (if x7_1.length<8796093022208 then (aC.l0 kj6 a1 a2 (x7_1++ [(⟨((aJ l0 x13_1).f0),((aJ l0 x13_1).f1)⟩:fF)]) x8_1 l0 (l0.length:Int) (wrap64 (x13_1+1))) else (none)))=some r:=by rw [if_neg (show ¬ (false=true) by decide)] at H;exact H
         clear H
         have H:=H1
         clear H1
         by_cases c21:((aJ l0 x13_1).f0)=a1
         ·rw [if_pos c21] at H
          have c21b0:(((aJ l0 x13_1).f0) == a1)=true:=beq_iff_eq.mpr c21
          have c21b1:(((aJ l0 x13_1).f0) != a1)=false:=bne_eq_false_iff_eq.mpr c21
          clear c21
          have H':=Am_ H
          clear H
          have hcz22_0:wc.cell? ⟨gb140,0,none⟩=some (.int .i64 ((aJ l0 x13_1).f0)):=(af BK140.out 0).trans rfl
          have hcz22_1:wc.cell? ⟨gb140,1,none⟩=some (.int .i64 ((aJ l0 x13_1).f1)):=(af BK140.out 1).trans rfl
          have hfz22_0:=ah BK140.out 0
          have hfz22_1:=ah BK140.out 1
          go_wp2
          go_roundg kj6
          case measure=>have:=HK1.out;have:=HJ6.out;omega
          case rel=>exact ⟨(x7_1),(x8_1),(wrap64 (x13_1+1)),(by first | rfl | (simp;done) | (simp [*];done)),(by first | rfl | (simp;done) | (simp [*];done)),H',⟨by have:=HK1.out;have:=HJ6.out;omega⟩,⟨by (with_reducible repeat (first | apply Kd.dD | apply Kd.fA | apply Kd.fG));exact Kd.bC HO_7.out (fun _ hk=>trivial)⟩,⟨by repeat (first | (with_reducible first | exact HB.out | apply ai | apply au | apply aA | refine aM ?_ GE140.out) | exact HB.out)⟩⟩
         ·rw [if_neg c21] at H
          have c21b0:(((aJ l0 x13_1).f0) == a1)=false:=beq_eq_false_iff_ne.mpr c21
          have c21b1:(((aJ l0 x13_1).f0) != a1)=true:=bne_iff_ne.mpr c21
          by_cases c23:x7_1.length<8796093022208
          ·rw [if_pos c23] at H
           have LMc23:=Am_ c23
           clear c23
           obtain ⟨y147,hy147⟩: ∃ y_:List (fF),y_=(x7_1++ [(⟨((aJ l0 x13_1).f0),((aJ l0 x13_1).f1)⟩:fF)]):=⟨_,rfl⟩
           replace H:(aC.l0 kj6 a1 a2 y147 x8_1 l0 (l0.length:Int) (wrap64 (x13_1+1)))=some r:=by first | (rw [hy147];with_reducible exact H) | (have H2_:=(Option.bind_some _ _).symm.trans H;rw [hy147];with_reducible exact H2_) | (have H2_:=(Option.bind_some _ _).symm.trans H;with_reducible exact H2_) | with_reducible exact H | (rw [hy147];exact H) | exact H
           have Ny147:=Am_ hy147
           clear hy147
           have H':=Am_ H
           clear H
           have hcz24_0:wc.cell? ⟨gb140,0,none⟩=some (.int .i64 ((aJ l0 x13_1).f0)):=(af BK140.out 0).trans rfl
           have hcz24_1:wc.cell? ⟨gb140,1,none⟩=some (.int .i64 ((aJ l0 x13_1).f1)):=(af BK140.out 1).trans rfl
           have hfz24_0:=ah BK140.out 0
           have hfz24_1:=ah BK140.out 1
           go_wp2_with (first | ((with_reducible refine cB (b:= .append) (xs:= #[.tmp 35,.tmp 37]) rfl ?_);at_builtin;refine Kd.gW mg (w0:=w) w.heap.size rfl (.tmp 35) (.tmp 37) 26 121 (.agg #[(.int .i64 0),(.int .i64 0)]) 16 rfl Tryz.underlying26 qz rfl (by decide) (by omega) u7 x7_1 (⟨((aJ l0 x13_1).f0),((aJ l0 x13_1).f1)⟩:fF) [.int .i64 ((aJ l0 x13_1).f0),.int .i64 ((aJ l0 x13_1).f1)] (fun k_=>k_≠gb140) (fun _=>False) rfl rfl ?aP (fun _ hk=>hk.elim) ?aF ?aO ?aB ?aS ?aL ?_;(case aP=>exact oC _ _ _ (⟨((aJ l0 x13_1).f0),((aJ l0 x13_1).f1)⟩:fF));(case aB=>exact (by repeat (first | (with_reducible first | exact HB.out | apply ai | apply au | apply aA | refine aM ?_ GE140.out) | exact HB.out)));(case aF=>exact (fun k_ hk=>Kd.xH (g:=gb140) (o:= .cells #[.int .i64 ((aJ l0 x13_1).f0),.int .i64 ((aJ l0 x13_1).f1)] 121 (0,0)) (by (with_reducible repeat (first | refine aY ?_ _ | refine aV ?_ | refine aK ?_ _));exact BK140.out) k_ hk));(case aO=>exact (by (with_reducible repeat (first | apply Kd.dD | apply Kd.fA | apply Kd.fG));exact HO_7.out));(case aS=>exact (bN (by repeat (first | (with_reducible first | exact HB.out | apply ai | apply au | apply aA | refine aM ?_ GE140.out) | exact HB.out))));(case aL=>have:=LMc23.out;omega);intro v148 w25 ho hb hg hat;rw [←Ny147.out] at ho;have n0_:=Am_ (bS (g:=gb140) (o:= .cells #[.int .i64 ((aJ l0 x13_1).f0),.int .i64 ((aJ l0 x13_1).f1)] 121 (0,0)) (by (with_reducible repeat (first | refine aY ?_ _ | refine aV ?_ | refine aK ?_ _));exact BK140.out) hg (Kd.Bl HO_7.out (fun _ hk=>hk)));have n1_:=Am_ (hb);have n2_:=Am_ (ho);clear BK140;clear HB;clear HO_7;have BK140:=n0_;have HB:=n1_;have HO149:=n2_;clear n0_ n1_ n2_;clear ho hb hg hat))
           go_roundg kj6
           case measure=>have:=HK1.out;have:=HJ6.out;omega
           case rel=>exact ⟨(y147),(x8_1),(wrap64 (x13_1+1)),(by first | rfl | (simp;done) | (simp [*];done)),(by first | rfl | (simp;done) | (simp [*];done)),H',⟨by have:=HK1.out;have:=HJ6.out;omega⟩,⟨by (with_reducible repeat (first | apply Kd.dD | apply Kd.fA | apply Kd.fG));exact Kd.bC HO149.out (fun _ hk=>trivial)⟩,⟨by repeat (first | (with_reducible first | exact HB.out | apply ai | apply au | apply aA | refine aM ?_ GE140.out) | exact HB.out)⟩⟩
          ·rw [if_neg c23] at H
           exact absurd H (by simp)
     ·rw [if_neg c6] at H
      exact absurd H (by simp)
    ·rw [if_neg c5] at H
     exact absurd H (by simp)
   ·rw [if_neg c4] at H
    have c4b0:decide (x13_1<(l0.length:Int))=false:=decide_eq_false c4
    clear c4
    by_cases c26:x8_1=true
    ·subst c26
     have H1:(some x7_1)=some r:=by rw [if_pos rfl] at H;exact H
     clear H
     have H:=H1
     clear H1
     obtain rfl:=Option.some.inj H
     go_wp2
     go_ret
     exact ⟨_,by first | rfl | (simp [dA,dB]<;>rfl) | (simp [*,dA,dB]<;>rfl),by (with_reducible repeat (first | apply Kd.dD | apply Kd.fA | apply Kd.fG));exact HO_7.out,by repeat (first | (with_reducible first | exact HB.out | apply ai | apply au | apply aA) | exact HB.out)⟩
    ·replace c26:=Bool.eq_false_iff.mpr c26
     subst c26
     have H1:(if x7_1.length<8796093022208 then (some (x7_1++ [(⟨a1,a2⟩:fF)])) else (none))=some r:=by rw [if_neg (show ¬ (false=true) by decide)] at H;exact H
     clear H
     have H:=H1
     clear H1
     by_cases c27:x7_1.length<8796093022208
     ·rw [if_pos c27] at H
      have LMc27:=Am_ c27
      clear c27
      obtain ⟨y136,hy136⟩: ∃ y_:List (fF),y_=(x7_1++ [(⟨a1,a2⟩:fF)]):=⟨_,rfl⟩
      replace H:(some y136)=some r:=by first | (rw [hy136];with_reducible exact H) | (have H2_:=(Option.bind_some _ _).symm.trans H;rw [hy136];with_reducible exact H2_) | (have H2_:=(Option.bind_some _ _).symm.trans H;with_reducible exact H2_) | with_reducible exact H | (rw [hy136];exact H) | exact H
      have Ny136:=Am_ hy136
      clear hy136
      obtain rfl:=Option.some.inj H
      go_wp2_with (first | ((with_reducible refine cB (b:= .append) (xs:= #[.tmp 42,.tmp 46]) rfl ?_);at_builtin;refine Kd.gW mg (w0:=w) w.heap.size rfl (.tmp 42) (.tmp 46) 26 121 (.agg #[(.int .i64 0),(.int .i64 0)]) 16 rfl Tryz.underlying26 qz rfl (by decide) (by omega) u7 x7_1 (⟨a1,a2⟩:fF) [.int .i64 a1,.int .i64 a2] (fun _=>True) (fun _=>False) rfl rfl ?aP (fun _ hk=>hk.elim) ?aF ?aO ?aB ?aS ?aL ?_;(case aP=>exact oC _ _ _ (⟨a1,a2⟩:fF));(case aB=>exact (by repeat (first | (with_reducible first | exact HB.out | apply ai | apply au | apply aA) | exact HB.out)));(case aF=>exact (fun _ _=>trivial));(case aO=>exact (by (with_reducible repeat (first | apply Kd.dD | apply Kd.fA | apply Kd.fG));exact HO_7.out));(case aS=>exact (bN (by repeat (first | (with_reducible first | exact HB.out | apply ai | apply au | apply aA) | exact HB.out))));(case aL=>have:=LMc27.out;omega);intro v137 w28 ho hb hg hat;rw [←Ny136.out] at ho;have n0_:=Am_ (hb);have n1_:=Am_ (ho);clear HB;clear HO_7;have HB:=n0_;have HO138:=n1_;clear n0_ n1_;clear ho hb hg hat))
      go_ret
      exact ⟨_,by first | rfl | (simp [dA,dB]<;>rfl) | (simp [*,dA,dB]<;>rfl),by (with_reducible repeat (first | apply Kd.dD | apply Kd.fA | apply Kd.fG));exact HO138.out,by repeat (first | (with_reducible first | exact HB.out | apply ai | apply au | apply aA) | exact HB.out)⟩
     ·rw [if_neg c27] at H
      exact absurd H (by simp)
end Go.Proofs.YtmnjjdeaccgjlaaGreat.PPutSplits
namespace Go.Proofs.YtmnjjdeaccgjlaaGreat.Tower
open Go Go.RowKit Go.Proofs.YtmnjjdeaccgjlaaGreatW.PrintWords Go.Proofs.YtmnjjdeaccgjlaaGreatW.PrintLast Go.Proofs.YtmnjjdeaccgjlaaGreatW.PrintMore Go.Proofs.YtmnjjdeaccgjlaaGreat.Own Go.Proofs.YtmnjjdeaccgjlaaGreat.PPutSplits
theorem Jt (a0 a1:Bool) (A2:Option Addr) (c2:Nat) (xs:List fF) (A3 A4:Option Addr) (c3 c4:Nat) (w:World) (h2:Kd.C mg w A2 xs.length xs) (hx:xs.length<1000):
  Calls Tryz.prog 57 #[.agg #[.bool a0,.bool a1,.slice A2 xs.length c2,.slice A3 0 c3,.slice A4 0 c4]] w fun e w'=> ∃ v,e= .returned v∧Kd.R mg 121 w' w.heap.size (fun _=>True) v xs∧Below w.heap.size w w':=by
 have HR:=Am_ h2
 have HX:=Am_ hx
 clear h2 hx
 have HB:=Am_ (Below.refl w.heap.size w)
 go_enter Tryz.func57,Tryz.ntmps57
 go_wp2_with (first | ((with_reducible refine iO (N:=1) rfl ?_);refine gX ?hg (N:=1) ?hd (cs:= #[.bool a0,.bool a1,.slice A2 xs.length c2,.slice A3 0 c3,.slice A4 0 c4]) (t:=30) ?hr ?_;(case hd=>rfl);(case hg=>rfl);(case hr=>first | (go_simp;done) | (go_simp;rfl));intro gb hg wb hbox hb;have n0_:=Am_ (dL (by repeat (first | (with_reducible first | exact HB.out | apply ai | apply au | apply aA) | exact HB.out)) hb);have n2_:=Am_ ((by rw [hg];exact (bN (by repeat (first | (with_reducible first | exact HB.out | apply ai | apply au | apply aA) | exact HB.out)))):w.heap.size≤gb);clear HB;have HB:=n0_;have BK:=Am_ hbox;have GE:=n2_;clear n0_ n2_ hb hbox hg) | ((with_reducible refine iO (N:=6) rfl ?_);refine Kd.Qy mg _ 121 ?hg (N:=6) ?hd (xs:=([]:List (fF))) (inner:= []) (ok:=fun _=>True) (okp:=fun _=>True) ?hr ?hp (fun _ hk=>hk) trivial (Below.refl _ _) (Nat.le_refl _) (by simp) ?_;(case hd=>rfl);(case hg=>rfl);(case hr=>first | (go_simp;done) | (go_simp;rfl));(case hp=>exact (gM.none _ _));intro v5 w4 ho5 hb hg_ hnew_;clear hg_ hnew_;have n0_:=Am_ (Kd.eF ho5 (bN (by repeat (first | (with_reducible first | exact HB.out | apply ai | apply au | apply aA | refine aM ?_ GE.out) | exact HB.out))));have n1_:=Am_ (bW (g:=gb) (o:= .cells #[.bool a0,.bool a1,.slice A2 xs.length c2,.slice A3 0 c3,.slice A4 0 c4] 30 (0,0)) (by (with_reducible repeat (first | refine aY ?_ _ | refine aV ?_ | refine aK ?_ _));exact BK.out) hb);have n2_:=Am_ (dL (by repeat (first | (with_reducible first | exact HB.out | apply ai | apply au | apply aA | refine aM ?_ GE.out) | exact HB.out)) hb);clear BK HB;have HO:=n0_;have BK:=n1_;have HB:=n2_;clear n0_ n1_ n2_ hb ho5;have hcz_0:w4.cell? ⟨gb,0,none⟩=some (.bool a0):=(af BK.out 0).trans rfl;have hfz_0:=ah BK.out 0;have hcz_1:w4.cell? ⟨gb,1,none⟩=some (.bool a1):=(af BK.out 1).trans rfl;have hfz_1:=ah BK.out 1;have hcz_2:w4.cell? ⟨gb,2,none⟩=some (.slice A2 xs.length c2):=(af BK.out 2).trans rfl;have hfz_2:=ah BK.out 2;have hcz_3:w4.cell? ⟨gb,3,none⟩=some (.slice A3 0 c3):=(af BK.out 3).trans rfl;have hfz_3:=ah BK.out 3;have hcz_4:w4.cell? ⟨gb,4,none⟩=some (.slice A4 0 c4):=(af BK.out 4).trans rfl;have hfz_4:=ah BK.out 4) | ((with_reducible refine cB (b:= .append) (xs:= #[.tmp 6,.tmp 8]) rfl ?_);at_builtin;refine Kd.ja mg (w0:=w) w.heap.size rfl (.tmp 6) (.tmp 8) 26 121 (.agg #[(.int .i64 0),(.int .i64 0)]) 16 rfl Tryz.underlying26 qz rfl (by decide) (by omega) v5 [] xs _ _ _ (fun _=>True) (fun _=>False) rfl rfl ?aO ?aR (fun _ _ h=>h) (fun _ h=>h.elim) ?aF ?aB ?aS ?aL ?_;(case aR=>repeat (first | exact (Kd.bE HR.out HB.out) | (with_reducible refine Kd.fB ?_ _) | (with_reducible refine Kd.fE ?_ _) | (with_reducible refine Kd.iB ?_)));(case aB=>exact (by repeat (first | (with_reducible first | exact HB.out | apply ai | apply au | apply aA | refine aM ?_ GE.out) | exact HB.out)));(case aF=>exact (fun _ _=>trivial));(case aO=>exact (by (with_reducible repeat (first | apply Kd.dD | apply Kd.fA | apply Kd.fG));exact HO.out));(case aS=>exact (bN (by repeat (first | (with_reducible first | exact HB.out | apply ai | apply au | apply aA | refine aM ?_ GE.out) | exact HB.out))));(case aL=>have:=HX.out;simp only [List.length_nil];omega);intro v8 w7 ho hb hg hat;have n0_:=Am_ (bS (g:=gb) (o:= .cells #[.bool a0,.bool a1,.slice A2 xs.length c2,.slice A3 0 c3,.slice A4 0 c4] 30 (0,0)) (by (with_reducible repeat (first | refine aY ?_ _ | refine aV ?_ | refine aK ?_ _));exact BK.out) hg (Kd.Ro HO.out BK.out (by decide)));clear BK HB HO;have BK:=n0_;have HB:=Am_ hb;have HO:=Am_ ho;clear n0_ ho hb hg hat;have hcz_0:w7.cell? ⟨gb,0,none⟩=some (.bool a0):=(af BK.out 0).trans rfl;have hfz_0:=ah BK.out 0;have hcz_1:w7.cell? ⟨gb,1,none⟩=some (.bool a1):=(af BK.out 1).trans rfl;have hfz_1:=ah BK.out 1;have hcz_2:w7.cell? ⟨gb,2,none⟩=some (.slice A2 xs.length c2):=(af BK.out 2).trans rfl;have hfz_2:=ah BK.out 2;have hcz_3:w7.cell? ⟨gb,3,none⟩=some (.slice A3 0 c3):=(af BK.out 3).trans rfl;have hfz_3:=ah BK.out 3;have hcz_4:w7.cell? ⟨gb,4,none⟩=some (.slice A4 0 c4):=(af BK.out 4).trans rfl;have hfz_4:=ah BK.out 4))
 go_loopg [3,13] 1 (fun kq v3 v13 w'=>v13= .int .i64 0∧av (Kd.R mg 121 w' w.heap.size (fun _=>True) v3 xs)∧av (Below w.heap.size w w'))
 case atStart=>exact ⟨(by first | rfl | (simp;done) | (simp [*];done)),⟨by (with_reducible repeat (first | apply Kd.dD | apply Kd.fA | apply Kd.fG));exact HO.out⟩,⟨(by repeat (first | (with_reducible first | exact HB.out | apply ai | apply au | apply aA | refine aM ?_ GE.out) | exact HB.out))⟩⟩
 case round=>
  obtain ⟨rfl,HO2,HB2⟩:=hrel
  have c9b0:decide ((0:Int)<0)=false:=by decide
  go_wp2
  go_ret
  exact ⟨_,rfl,by (with_reducible repeat (first | apply Kd.dD | apply Kd.fA | apply Kd.fG));exact HO2.out,(by repeat (first | (with_reducible first | exact HB2.out | apply ai | apply au | apply aA | refine aM ?_ GE.out) | exact HB2.out))⟩
theorem JU (a0 a1:Bool) (A2:Option Addr) (c2:Nat) (xs:List fF) (A3 A4:Option Addr) (c3 c4:Nat) (k:Int) (w:World) (h2:Kd.C mg w A2 xs.length xs) (hx:xs.length<1000) (j:Int) (p1:0≤j) (q1:j<(xs.length:Int)) (hf:bZ.f 9 xs k=some j):
  Calls Tryz.prog 52 #[.agg #[.bool a0,.bool a1,.slice A2 xs.length c2,.slice A3 0 c3,.slice A4 0 c4],.int .i64 k] w fun e w'=>e= .returned (.tuple #[.int .i64 (aJ xs j).f1,.bool true])∧Below w.heap.size w w':=by
 have HR:=Am_ h2
 have HX:=Am_ hx
 have HF:=Am_ hf
 clear h2 hx hf
 have HB:=Am_ (Below.refl w.heap.size w)
 have b0:decide (0≤j)=true:=decide_eq_true p1
 go_enter Tryz.func52,Tryz.ntmps52
 go_wp2_with (first | ((with_reducible refine iO (N:=2) rfl ?_);refine gX ?hg (N:=2) ?hd (cs:= #[.bool a0,.bool a1,.slice A2 xs.length c2,.slice A3 0 c3,.slice A4 0 c4]) (t:=30) ?hr ?_;(case hd=>rfl);(case hg=>rfl);(case hr=>first | (go_simp;done) | (go_simp;rfl));intro gb hg wb hbox hb;have n0_:=Am_ (dL (by repeat (first | (with_reducible first | exact HB.out | apply ai | apply au | apply aA) | exact HB.out)) hb);have n2_:=Am_ ((by rw [hg];exact (bN (by repeat (first | (with_reducible first | exact HB.out | apply ai | apply au | apply aA) | exact HB.out)))):w.heap.size≤gb);clear HB;have HB:=n0_;have BK:=Am_ hbox;have GE:=n2_;clear n0_ n2_ hb hbox hg;have hcz_0:wb.cell? ⟨gb,0,none⟩=some (.bool a0):=(af BK.out 0).trans rfl;have hfz_0:=ah BK.out 0;have hcz_1:wb.cell? ⟨gb,1,none⟩=some (.bool a1):=(af BK.out 1).trans rfl;have hfz_1:=ah BK.out 1;have hcz_2:wb.cell? ⟨gb,2,none⟩=some (.slice A2 xs.length c2):=(af BK.out 2).trans rfl;have hfz_2:=ah BK.out 2;have hcz_3:wb.cell? ⟨gb,3,none⟩=some (.slice A3 0 c3):=(af BK.out 3).trans rfl;have hfz_3:=ah BK.out 3;have hcz_4:wb.cell? ⟨gb,4,none⟩=some (.slice A4 0 c4):=(af BK.out 4).trans rfl;have hfz_4:=ah BK.out 4) | (go_at_call 57;refine (Jt a0 a1 A2 c2 xs A3 A4 c3 c4 _ ?side1 HX.out).mono ?_;(case side1=>repeat (first | exact (Kd.bE HR.out HB.out) | (with_reducible refine Kd.fB ?_ _) | (with_reducible refine Kd.fE ?_ _) | (with_reducible refine Kd.iB ?_)));rintro e w10 ⟨v,rfl,ho0,hb⟩;have n0_:=Am_ (Kd.eF ho0 (bN (by repeat (first | (with_reducible first | exact HB.out | apply ai | apply au | apply aA | refine aM ?_ GE.out) | exact HB.out))));have n2_:=Am_ (dL (by repeat (first | (with_reducible first | exact HB.out | apply ai | apply au | apply aA | refine aM ?_ GE.out) | exact HB.out)) hb);clear BK HB;have HO:=n0_;have HB:=n2_;clear n0_ n2_ hb ho0;obtain ⟨Ao,co,eo⟩:=Kd.aW HO.out;subst eo) | (go_at_call 95;refine (bZ.calls 9 _ _ xs k j _ ?side1 ?side2 HF.out).mono ?_;(case side1=>repeat (first | exact (Kd.bF HO.out).2.2 | (with_reducible refine Kd.fB ?_ _) | (with_reducible refine Kd.fE ?_ _) | (with_reducible refine Kd.iB ?_)));(case side2=>exact (Kd.bF HO.out).2.1);rintro e w12 ⟨rfl,hb⟩;have n0_:=Am_ (Kd.dX (by (with_reducible repeat (first | apply Kd.dD | apply Kd.fA | apply Kd.fG));exact HO.out) hb);have n2_:=Am_ (dL (by repeat (first | (with_reducible first | exact HB.out | apply ai | apply au | apply aA | refine aM ?_ GE.out) | exact HB.out)) hb);clear HO HB;have HO:=n0_;have HB:=n2_;clear n0_ n2_ hb;obtain ⟨ad,ea,hx0,hx1⟩:=kr (Kd.bF HO.out).2.2 j p1 q1;cases ea;replace p1:=eq_true p1;replace q1:=eq_true q1))
 go_ret2
 exact ⟨rfl,(by repeat (first | (with_reducible first | exact HB.out | apply ai | apply au | apply aA | refine aM ?_ GE.out) | exact HB.out))⟩
def Oa:Int:=1099511627777
def JJ:Int:=1099511627778
def X15:Ws:=⟨⟨[fe nd0 1,fe (ndE Oa) 1],[],9,2,0⟩,⟨[],9⟩,⟨0,[-1],[[]]⟩,2,3,JJ⟩
theorem JB:ws0 2 3 1 9 9=some X15:=by kernel_rfl
theorem KD:X15.Good:=⟨⟨by decide,by decide,by decide,by decide,fun i s hi=>by
 have hl:i<2:=(List.getElem?_eq_some_iff.1 hi).1
 match i,hl with
 | 0,_=>simp [X15] at hi;subst hi;exact ⟨⟨by decide,by decide,by decide⟩,by decide⟩
 | 1,_=>simp [X15] at hi;subst hi;exact ⟨⟨by decide,by decide,by decide⟩,by decide⟩⟩,⟨by decide⟩,⟨by decide,by decide,fun i e hi=>by simp [X15] at hi⟩⟩
def Gb:Option (List Int) × Nat × Ws × List Int:=(jR (pW 0 5 50 false 9 (lK 5 9) 3) 3000 X15 []).getD (none,0,X15,[])
theorem KI:jR (pW 0 5 50 false 9 (lK 5 9) 3) 3000 X15 []=some Gb:=by kernel_rfl
theorem Ej:Gb.1=some [0,0,0,0]:=by kernel_rfl
def vB:Sh:=⟨true,false,[⟨5,50⟩],[],[]⟩
theorem Qf:Ws.read Gb.2.2.1=(vB,Gb.2.2.1.ar):=by kernel_rfl
theorem OI:bZ.f 9 vB.f2 5=some 0:=by kernel_rfl
theorem Rv:(aJ vB.f2 0).f1=50:=by kernel_rfl
theorem MB (w:World):Calls Tryz.prog 10 #[] w fun e w1=>e= .returned (.bool true)∧Below w.heap.size w w1:=by
 go_enter Tryz.func10,Tryz.ntmps10
 go_upto_region 2 with (go_at_call 65;refine (xY 2 3 1 9 9 _ (by omega) (by omega) (by omega) (by omega) (by omega) (by omega) (by omega) (by omega) (by omega) (by omega) X15 JB).mono ?_;rintro e w1 ⟨ok1,p,rfl,hw1,hf1,hb1⟩;have W1:=Am_ hw1;have F1:=Am_ hf1;have B1:=Am_ hb1;clear hw1 hf1 hb1)
 have S1:av (shW p X15 ok1 w1):=⟨⟨W1.out,KD⟩⟩
 go_upto_region 5 with (go_at_call 14;refine (qP p 0 5 50 false _).mono ?_;rintro e w2 hE;obtain ⟨tb,bf,bw,bm,b1,b2,b3,rfl,hP,hb⟩:=yj S1.out hE;have P2:=Am_ hP;have B2:=Am_ (aU B1.out B1.out.size hb);clear hE hP hb)
 have HO2:av (∀ k,(k=tb∨ok1 k)→w.heap.size≤k):=⟨fun k hk=>hk.elim (fun e=>by have:=B1.out.size;have:=P2.out.new;omega) (F1.out k)⟩
 clear S1 W1 F1 B1
 go_upto_region 6 with (go_at_call 15;refine (oN (qW (Lp 5 9 (by omega)) (by omega)) _ X15 [] 0 false _ P2.out.idle (by simp) P2.out.bx P2.out.cx _ KI).mono ?_;rintro e w3 hE;obtain ⟨ok3,hm3,_,at3,sp3,hx⟩:=hE.out;rw [Ej] at hx;obtain ⟨hi3,v,rfl,hv⟩:=hx;have M3:=Am_ hm3;have I3:=Am_ hi3;generalize (3000 - Gb.2.1:Nat)=n3;clear hE hm3 hi3 hv P2)
 obtain ⟨okT,okS,hiff,hTS,ht3,hW3⟩:=I3.out.out
 obtain ⟨okA,okR,okE,pA,pR,pE,hw3⟩:=hW3.1
 have T3:=Am_ ht3
 have W3:=Am_ hw3
 have G3:=Am_ hW3.2.ar.fits
 have B3:=Am_ (iW M3.out B2.out HO2.out)
 have HT3:av ((∀ q,okT q→ ¬ okS q)∧(∀ q,okT q→q<w3.heap.size)):=⟨⟨hTS,ht3.lt⟩⟩
 have HOS:av (∀ q,okS q→w.heap.size≤q):=⟨fun q hq=>(M3.out.fresh q ((hiff q).2 (.inr hq))).elim (HO2.out q) (fun h=>Nat.le_trans B2.out.size h)⟩
 clear hiff ht3 hW3 hw3 hTS M3 I3 HO2 B2
 go_upto_region 7 with (first
  | (go_at_call 19;refine (rU _ W3.out G3.out).mono ?_;rintro e w4 hE;obtain ⟨ok4,okA4,hw4,hm4⟩:=hE.out;obtain ⟨cs,rfl,hfk⟩:=hE.val;rw [Qf] at hfk;have T4:=Am_ (T3.out.step hm4.size (fun q hq hlt=>hm4.block q hlt (HT3.out.1 q hq)));have B4:=Am_ (iW hm4 B3.out HOS.out);obtain ⟨A2,c2,A3,c3,A4,c4,rfl,l2,F2,l3,F3,l4,F4⟩:=jb hfk;have G2:=Am_ (And.intro l2 (And.intro (Kd.fM F2) (And.intro l3 (And.intro (Kd.fM F3) (And.intro l4 (Kd.fM F4))))));clear hE hw4 hm4 hfk l2 F2 l3 F3 l4 F4 T3 W3 B3 HOS)
  | (go_at_call 52;refine (JU vB.f0 vB.f1 A2 c2 vB.f2 A3 A4 c3 c4 5 _ G2.out.2.1 (by decide) 0 (by decide) (by decide) OI).mono ?_;rintro e w5 ⟨h5,hb⟩;rw [Rv] at h5;subst h5;have T5:=Am_ (T4.out.step hb.size (fun q _ hlt=>hb.block q hlt));have B5:=Am_ (aU B4.out B4.out.size hb);clear hb G2 T4 B4))
 go_wp2_with (go_at_call 54;refine (NP ⟨false,false,false,0⟩ _ T5.out rfl rfl).mono ?_;rintro e w6 ⟨rfl,hb⟩;have B6:=Am_ (aU B5.out B5.out.size hb);clear hb)
 go_ret
 exact ⟨rfl,B6.out⟩
def vG (s:Sh) (x:Ws):Option Ws:=
 (rP s (x.ar.way x.entry 0).2).bind fun q=>
  let p:=q.2.gL x.entry 0 (x.ar.way x.entry 0).1 q.1
  if x.ar.slots.length<1000000∧q.2.slots.length<1000000∧p.2.slots.length<1000000∧p.2.free.length<1000000 then some { x with ar:=(p.2.kg (x.ar.way x.entry 0).1).2 } else none
def EF:Bool × List (List Nat × List Nat):=(true,[([],[]),([0],[0]),([1],[1]),([2],[2]),([],[]),([4],[4]),([5],[5]),([6],[6]),([3,7],[3,7]),([8,8,0,1,2,3,4,5,6,7,8],[8])])
def MU:List Nat:= [0,1,3,7,0,16,48,112,255,511]
theorem EQ:gJ .any (opsOf Tryz.f66 1)=EF:=by kernel_rfl
theorem Eg:bI EF.2 MU=true:=by kernel_rfl
def Iz:Bool × List (List Nat × List Nat):=(true,[([],[]),([0],[0]),([1],[1]),([2],[2]),([],[]),([4],[4]),([5],[5]),([6],[6]),([],[]),([],[]),([9],[9]),([10],[10]),([11],[11]),([],[]),([12,13],[12,13]),([3,7,8,14,14],[3,7,8,14])])
def NT:List Nat:= [0,1,3,7,0,16,48,112,0,0,512,1536,3584,0,15872,32767]
theorem EN:gJ .any (opsOf Tryz.f66 2)=Iz:=by kernel_rfl
theorem Dl:bI Iz.2 NT=true:=by kernel_rfl
theorem IG {α:Type} {d:Kd α} {ok okA okR okE:Nat→Prop} {p pA pR pE:Nat} {x:Ws} {w:World} {y:α} {cs:List Value} (h:d.FK w (fun k=> ¬ ok k) y cs) (hw:fo ok okA okR okE p pA pR pE x w):d.FK w (fun k=> ¬ okA k) y cs:=Kd.jf h (fun k hk h1=>hk ((hw.ok k).2 (.inr (.inl h1))))
theorem zk {ok:Nat→Prop} {p:Nat} {x x1:Ws} (s:Sh) (w:World) (cs:List Value) (h:qd p x ok w) (hf:kSh.FK w (fun k=> ¬ ok k) s cs) (hx:vG s x=some x1):
  Calls Tryz.prog 66 #[.pointer (some ⟨p,0,none⟩),.agg cs.toArray] w (fun e w1=>e= .returned (.tuple #[])∧ ∃ ok1,qd p x1 ok1 w1∧Moves ok ok1 w w1):=by
 obtain ⟨okA,okR,okE,pA,pR,pE,h⟩:=h
 unfold vG at hx
 obtain ⟨q,hq,hx⟩:=Option.bind_eq_some_iff.1 hx
 obtain ⟨r,a1⟩:=q
 simp only at hx
 split at hx
 rotate_left; · cases hx
 rename_i hl
 injection hx with hx
 have HX:=Am_ hx
 have HL:=Am_ (And.intro (show (x.ar).slots.length<1000000 from hl.1) hl.2)
 have HQ:=Am_ hq
 obtain ⟨A2,c2,A3,c3,A4,c4,rfl,_⟩:=jb hf
 have HFK:=Am_ hf
 have hW1:=(h.step (w1:=w.alloc (.cells #[.bool s.f0,.bool s.f1,.slice A2 s.f2.length c2,.slice A3 s.f3.length c3,.slice A4 s.f4.length c4] 30)) (by simp) (fun k _ hk=>Below.heap_alloc _ _ _ hk))
 have hX1:=Mine.new (ok:=ok) (fun k hk=>h.lt k hk) (.cells #[.bool s.f0,.bool s.f1,.slice A2 s.f2.length c2,.slice A3 s.f3.length c3,.slice A4 s.f4.length c4] 30)
 have X1:=Am_ hX1
 have W1:=Am_ hW1
 have M1:=Am_ ((Moves.refl ok w).alloc (.cells #[.bool s.f0,.bool s.f1,.slice A2 s.f2.length c2,.slice A3 s.f3.length c3,.slice A4 s.f4.length c4] 30))
 clear h hf hq hx hl hX1 hW1
 go_enter Tryz.func66,Tryz.ntmps66
 go_upto_region 1 with fail
 generalize w.alloc (.cells #[.bool s.f0,.bool s.f1,.slice A2 s.f2.length c2,.slice A3 s.f3.length c3,.slice A4 s.f4.length c4] 30)=w1 at X1 W1 M1 ⊢
 generalize w.heap.size=b3 at X1 ⊢
 have HC:=Am_ (show w1.cell? ⟨p,0,none⟩=some (.pointer (some ⟨pA,0,none⟩))∧w1.cell? ⟨p,5,none⟩=some (.int .i64 x.entry)∧w1.cell? ⟨b3,0,none⟩=some (.bool s.f0)∧w1.cell? ⟨b3,1,none⟩=some (.bool s.f1)∧w1.cell? ⟨b3,2,none⟩=some (.slice A2 s.f2.length c2)∧w1.cell? ⟨b3,3,none⟩=some (.slice A3 s.f3.length c3)∧w1.cell? ⟨b3,4,none⟩=some (.slice A4 s.f4.length c4) from ⟨(af (W1.out.box) 0).trans rfl,(af (W1.out.box) 5).trans rfl,(af (X1.out.1) 0).trans rfl,(af (X1.out.1) 1).trans rfl,(af (X1.out.1) 2).trans rfl,(af (X1.out.1) 3).trans rfl,(af (X1.out.1) 4).trans rfl⟩)
 refine bK (n:=10) (S:=fun w'=>w'.cell? ⟨p,0,none⟩=some (.pointer (some ⟨pA,0,none⟩))∧w'.cell? ⟨p,5,none⟩=some (.int .i64 x.entry)∧w'.cell? ⟨b3,0,none⟩=some (.bool s.f0)∧w'.cell? ⟨b3,1,none⟩=some (.bool s.f1)∧w'.cell? ⟨b3,2,none⟩=some (.slice A2 s.f2.length c2)∧w'.cell? ⟨b3,3,none⟩=some (.slice A3 s.f3.length c3)∧w'.cell? ⟨b3,4,none⟩=some (.slice A4 s.f4.length c4)) (ds:= []) (by kernel_rfl) rfl EQ Eg HC.out (fun hHeld HT_ HW_=>?_)
 have W2:=Am_ (W1.out.step (w1:=w1.drew) (Nat.le_refl _) (fun _ _ _=>rfl))
 have M2:=Am_ M1.out.drew
 have X2:=Am_ (X1.out.moves (Moves.drew (Moves.refl _ _)))
 clear HC W1 M1 X1
 generalize w1.drew=w2 at W2 M2 X2 hHeld ⊢
 refine gy [(0,some 5),(1,some 6),(2,some 7),(3,some 8),(4,some 9),(5,some 10),(6,some 11),(7,some 12)] ?_
 iterate 3 (refine gG (v:=?_) (a':=?_) HT_ (by kernel_rfl) rfl rfl (fun _ _ _ h=>h) (Or.inl ⟨by rfl,?_⟩) ?_ ?_;rotate_left;(intro w';go_simp;with_reducible rfl);rotate_left;(simp only [Act.put,p1_,p2_,p3_,aG,aH];rfl))
 iterate 5 (refine jW (v:=?_) (a':=?_) HT_ HW_ (by kernel_rfl) rfl rfl (fun _ _ _ h=>h) hHeld (Or.inl ⟨by rfl,?_⟩) ?_ ?_;rotate_left;(rintro w' ⟨s0,s1,s2,s3,s4,s5,s6⟩;go_simp;with_reducible rfl);rotate_left;(simp only [Act.put,p1_,p2_,p3_,aG,aH];rfl))
 refine bG ?_
 refine dI (i:=8) (some 13) HT_ (by kernel_rfl) rfl rfl (by decide) (fun K_ hK=>?_)
 refine call_ 74 #[.pointer (some ⟨pA,0,none⟩),.int .i64 x.entry,.int .i64 0] (by rfl) rfl ?hrun8 ?_
 (case hrun8=>first | (go_simp;done) | (go_simp;exact enters Tryz.func74 (by kernel_rfl) rfl _ _))
 refine (lS x.entry 0 w2 W2.out.ar HL.out.1).mono ?_
 rintro e w3 ⟨rfl,hA3,hM3⟩
 have W3:=Am_ (W2.out.bJ hA3 hM3).1
 have N3:=Am_ (W2.out.bJ hA3 hM3).2
 have M3:=Am_ (M2.out.trans N3.out)
 have X3:=Am_ (X2.out.moves N3.out)
 clear hA3 hM3 W2 M2 X2 N3
 refine ⟨_,rfl,?_⟩
 refine hK.out _ _ ⟨(af (W3.out.box) 0).trans rfl,(af (W3.out.box) 5).trans rfl,(af (X3.out.1) 0).trans rfl,(af (X3.out.1) 1).trans rfl,(af (X3.out.1) 2).trans rfl,(af (X3.out.1) 3).trans rfl,(af (X3.out.1) 4).trans rfl⟩ (fun hHeld=>?_)
 clear hK K_
 refine cK (a':=?_) ?_ ?_
 rotate_left; · show Act.put _ (some 13) _=_;simp only [Act.put,p1_,p2_,p3_,aG,aH];rfl
 refine gy [(9,some 4)] ?_
 (refine gG (v:=?_) (a':=?_) HT_ (by kernel_rfl) rfl rfl (fun _ _ _ h=>h) (Or.inl ⟨by rfl,?_⟩) ?_ ?_;rotate_left;(intro w';go_simp;with_reducible rfl);rotate_left;(simp only [Act.put,p1_,p2_,p3_,aG,aH];rfl))
 refine bG ?_
 refine dR (bM HT_.out (by kernel_rfl)) ?_
 have HC:=Am_ (show w3.cell? ⟨p,0,none⟩=some (.pointer (some ⟨pA,0,none⟩))∧w3.cell? ⟨p,5,none⟩=some (.int .i64 x.entry)∧w3.cell? ⟨b3,0,none⟩=some (.bool s.f0)∧w3.cell? ⟨b3,1,none⟩=some (.bool s.f1)∧w3.cell? ⟨b3,2,none⟩=some (.slice A2 s.f2.length c2)∧w3.cell? ⟨b3,3,none⟩=some (.slice A3 s.f3.length c3)∧w3.cell? ⟨b3,4,none⟩=some (.slice A4 s.f4.length c4) from ⟨(af (W3.out.box) 0).trans rfl,(af (W3.out.box) 5).trans rfl,(af (X3.out.1) 0).trans rfl,(af (X3.out.1) 1).trans rfl,(af (X3.out.1) 2).trans rfl,(af (X3.out.1) 3).trans rfl,(af (X3.out.1) 4).trans rfl⟩)
 go_upto_region 2 with fail
 refine bK (n:=16) (S:=fun w'=>w'.cell? ⟨p,0,none⟩=some (.pointer (some ⟨pA,0,none⟩))∧w'.cell? ⟨p,5,none⟩=some (.int .i64 x.entry)∧w'.cell? ⟨b3,0,none⟩=some (.bool s.f0)∧w'.cell? ⟨b3,1,none⟩=some (.bool s.f1)∧w'.cell? ⟨b3,2,none⟩=some (.slice A2 s.f2.length c2)∧w'.cell? ⟨b3,3,none⟩=some (.slice A3 s.f3.length c3)∧w'.cell? ⟨b3,4,none⟩=some (.slice A4 s.f4.length c4)) (ds:= []) (by kernel_rfl) rfl EN Dl HC.out (fun hHeld HT_ HW_=>?_)
 have W4:=Am_ (W3.out.step (w1:=w3.drew) (Nat.le_refl _) (fun _ _ _=>rfl))
 have M4:=Am_ M3.out.drew
 have X4:=Am_ (X3.out.moves (Moves.drew (Moves.refl _ _)))
 clear HC W3 M3 X3
 generalize w3.drew=w4 at W4 M4 X4 hHeld ⊢
 refine gy [(0,some 14),(1,some 15),(2,some 16),(3,some 17),(4,some 18),(5,some 19),(6,some 20),(7,some 21),(8,some 22),(9,some 23),(10,some 24),(11,some 25),(12,some 26),(13,some 27)] ?_
 iterate 3 (refine gG (v:=?_) (a':=?_) HT_ (by kernel_rfl) rfl rfl (fun _ _ _ h=>h) (Or.inl ⟨by rfl,?_⟩) ?_ ?_;rotate_left;(intro w';go_simp;with_reducible rfl);rotate_left;(simp only [Act.put,p1_,p2_,p3_,aG,aH];rfl))
 iterate 11 (refine jW (v:=?_) (a':=?_) HT_ HW_ (by kernel_rfl) rfl rfl (fun _ _ _ h=>h) hHeld (Or.inl ⟨by rfl,?_⟩) ?_ ?_;rotate_left;(rintro w' ⟨s0,s1,s2,s3,s4,s5,s6⟩;go_simp;with_reducible rfl);rotate_left;(simp only [Act.put,p1_,p2_,p3_,aG,aH];rfl))
 refine bG ?_
 refine dI (i:=14) (some 28) HT_ (by kernel_rfl) rfl rfl (by decide) (fun K_ hK=>?_)
 refine call_ 112 #[.pointer (some ⟨pA,0,none⟩),.agg #[.bool s.f0,.bool s.f1,.slice A2 s.f2.length c2,.slice A3 s.f3.length c3,.slice A4 s.f4.length c4]] (by rfl) rfl ?hrun14 ?_
 (case hrun14=>first | (go_simp;done) | (go_simp;exact enters Tryz.func112 (by kernel_rfl) rfl _ _))
 refine (Dc (pA:=pA) (a:=(x.ar.way x.entry 0).2) s W4.out.ar (IG (mI HFK.out M4.out) W4.out) HQ.out).mono ?_
 rintro e w5 ⟨okA5,rfl,hA5,hM5⟩
 have W5:=Am_ (W4.out.bJ hA5 hM5).1
 have N5:=Am_ (W4.out.bJ hA5 hM5).2
 have M5:=Am_ (M4.out.trans N5.out)
 have X5:=Am_ (X4.out.moves N5.out)
 clear hA5 hM5 W4 M4 X4 N5
 refine ⟨_,rfl,?_⟩
 refine hK.out _ _ ⟨(af (W5.out.box) 0).trans rfl,(af (W5.out.box) 5).trans rfl,(af (X5.out.1) 0).trans rfl,(af (X5.out.1) 1).trans rfl,(af (X5.out.1) 2).trans rfl,(af (X5.out.1) 3).trans rfl,(af (X5.out.1) 4).trans rfl⟩ (fun hHeld=>?_)
 clear hK K_
 refine cK (a':=?_) ?_ ?_
 rotate_left; · show Act.put _ (some 28) _=_;simp only [Act.put,p1_,p2_,p3_,aG,aH];rfl
 refine dI (i:=15) (some 29) HT_ (by kernel_rfl) rfl rfl (by decide) (fun K_ hK=>?_)
 refine call_ 111 #[.pointer (some ⟨pA,0,none⟩),.int .i64 x.entry,.int .i64 0,.int .i64 (x.ar.way x.entry 0).1,.int .i64 r] (by rfl) rfl ?hrun15 ?_
 (case hrun15=>first | (go_simp;done) | (go_simp;exact enters Tryz.func111 (by kernel_rfl) rfl _ _))
 refine (oM x.entry 0 _ r w5 W5.out.ar HL.out.2.1).mono ?_
 rintro e w6 ⟨rfl,hA6,hM6⟩
 have W6:=Am_ (W5.out.bJ hA6 hM6).1
 have N6:=Am_ (W5.out.bJ hA6 hM6).2
 have M6:=Am_ (M5.out.trans N6.out)
 have X6:=Am_ (X5.out.moves N6.out)
 clear hA6 hM6 W5 M5 X5 N6
 refine ⟨_,rfl,?_⟩
 refine hK.out _ _ ⟨(af (W6.out.box) 0).trans rfl,(af (W6.out.box) 5).trans rfl,(af (X6.out.1) 0).trans rfl,(af (X6.out.1) 1).trans rfl,(af (X6.out.1) 2).trans rfl,(af (X6.out.1) 3).trans rfl,(af (X6.out.1) 4).trans rfl⟩ (fun hHeld=>?_)
 clear hK K_
 refine cK (a':=?_) ?_ ?_
 rotate_left; · show Act.put _ (some 29) _=_;simp only [Act.put,p1_,p2_,p3_,aG,aH];rfl
 refine dR (bM HT_.out (by kernel_rfl)) ?_
 have y0:=(af W6.out.box 0).trans (rfl:_=some (Value.pointer (some ⟨pA,0,none⟩)))
 clear hHeld
 go_wp2_with (go_at_call 113;refine (qi _ _ W6.out.ar HL.out.2.2.1 HL.out.2.2.2).mono ?_;rintro e w7 ⟨rfl,okA7,hA7,hM7⟩;have W7:=Am_ (W6.out.bJ hA7 hM7).1;have M7:=Am_ (M6.out.trans (W6.out.bJ hA7 hM7).2);clear hA7 hM7)
 go_end0
 exact ⟨rfl,_,by rw [←HX.out];exact ⟨_,_,_,_,_,_,W7.out⟩,M7.out⟩
end Go.Proofs.YtmnjjdeaccgjlaaGreat.Tower
namespace Go.Proofs.YtmnjjdeaccgjlaaGreat.PPutSplits
open Go.RowKit Go.Proofs.YtmnjjdeaccgjlaaGreatW.PrintWords Go.Proofs.YtmnjjdeaccgjlaaGreatW.PrintLast Go.Proofs.YtmnjjdeaccgjlaaGreatW.PrintMore
attribute [local go_sem] om oD sF uy mh lY oU oG
theorem Pb (d:Nat) (w:World) (x0 y0:Int) (x1 y1:Int):
  (Op.equalIn (d+2) 121 (.agg #[.int .i64 x0,.int .i64 x1]) (.agg #[.int .i64 y0,.int .i64 y1])).run Tryz.prog w= .ok (x0 == y0 && (x1 == y1)) w:=by
 refine Qo Tryz.underlying121 (by kernel_rfl) ?_
 refine JK (by rfl) (by go_simp;rfl) (by go_simp;rfl) (by go_simp) ?_
 exact Jm (by rfl) (by go_simp;rfl) (by go_simp;rfl) (by go_simp)
end Go.Proofs.YtmnjjdeaccgjlaaGreat.PPutSplits
namespace Go.Proofs.YtmnjjdeaccgjlaaGreat.PPutSplits
open Go.RowKit Go.Proofs.YtmnjjdeaccgjlaaGreatW.PrintWords Go.Proofs.YtmnjjdeaccgjlaaGreatW.PrintLast Go.Proofs.YtmnjjdeaccgjlaaGreatW.PrintMore
attribute [local go_sem] om oD sF uy mh lY oU oG
attribute [local go_sem high] Pb
def bB.l0:Nat→List (fF)→List Int→Int→Int→Option ((List (fF)))
 | 0,_,_,_,_=>none
 | k+1,x3,x6,x7,x8=>if x8<x7 then (if 0≤x8 then (if x8<(x6.length:Int) then ((aC.f k x3 (rd x6 x8) (wrap64 (x8+100))).bind fun t151=>(bB.l0 k t151 x6 x7 (wrap64 (x8+1)))) else (none)) else (none)) else (some x3)
def bB.f (k:Nat) (l0:List Int):Option ((List (fF))):=bB.l0 k ([]:List (fF)) l0 (l0.length:Int) 0
theorem bB.calls (k:Nat) (A0:Option Addr) (c0:Nat) (l0:List Int) (r:List (fF)) (w:World) (hr0:Kd.C (Kd.int .i64) w A0 l0.length l0) (hc0:l0.length≤c0) (h:bB.f k l0=some r):
  Calls Tryz.prog 12 #[.slice A0 l0.length c0] w fun e w'=> ∃ v0_:Value,e= .returned (v0_)∧Kd.R mg 121 w' w.heap.size (fun _=>True) v0_ r∧Below w.heap.size w w':=by
 have HR0:=Am_ hr0
 have HC0:=Am_ hc0
 clear hr0 hc0
 have HB:=Am_ (Below.refl w.heap.size w)
 have H:(bB.l0 k ([]:List (fF)) l0 (l0.length:Int) 0)=some r:=h
 clear h
 have H':=Am_ H
 clear H
 go_enter Tryz.func12,Tryz.ntmps12
 go_wp2
 go_loopg [3,8] k (fun kq v3 v8 w'=> ∃ (x3_1:List (fF)) (x8_1:Int),v8= .int .i64 x8_1∧av (bB.l0 kq x3_1 l0 (l0.length:Int) x8_1=some r)∧av (kq≤k)∧av (Kd.R mg 121 w' w.heap.size (fun _=>True) v3 x3_1)∧av (Below w.heap.size w w'))
 case atStart=>exact ⟨(([]:List (fF))),(0),(by first | rfl | (simp;done) | (simp [*];done)),H',⟨Nat.le_refl _⟩,⟨by first | exact Kd.gY _ _ _ _ _ | exact Kd.KL _ _ _ _ _ | exact Kd.QC _ _ _ _ _ | exact Kd.KC _ _ _ _ _ | exact Kd.PO _ _ _ _ _⟩,⟨by repeat (first | (with_reducible first | exact HB.out | apply ai | apply au | apply aA) | exact HB.out)⟩⟩
 case round=>
  clear H'
  try clear c1
  obtain ⟨x3_1,x8_1,rfl,HA,HK1,HO_3,HB⟩:=hrel
  cases gk with
  | zero=>exact absurd HA.out (by simp [bB.l0])
  | succ k1=>
   have H:=HA.out
   clear HA
   simp only [bB.l0] at H
   by_cases c2:x8_1<(l0.length:Int)
   ·rw [if_pos c2] at H
    have c2b0:decide (x8_1<(l0.length:Int))=true:=decide_eq_true c2
    clear c2
    by_cases c3:0≤x8_1
    ·rw [if_pos c3] at H
     have c3b0:decide (0≤x8_1)=true:=decide_eq_true c3
     clear c3
     by_cases c4:x8_1<(l0.length:Int)
     ·rw [if_pos c4] at H
      have c4b0:decide (x8_1<(l0.length:Int))=true:=decide_eq_true c4
      clear c4
      replace H:=Option.bind_eq_some_iff.mp H
      obtain ⟨t151,A50,H⟩:=H
      replace H:(bB.l0 k1 t151 l0 (l0.length:Int) (wrap64 (x8_1+1)))=some r:=H
      have A5:=Am_ A50
      clear A50
      have H':=Am_ H
      clear H
      have p150:0≤(x8_1:Int):=of_decide_eq_true (by first | (with_reducible assumption) | assumption)
      have q150:x8_1<(l0.length:Int):=of_decide_eq_true (by first | (with_reducible assumption) | assumption)
      obtain ⟨ad150,e150,hx150_0⟩:=Kd.rX HR0.out x8_1 p150 q150
      cases e150
      replace hx150_0:=(HB.out.cell (World.block_lt_of_cell? w _ hx150_0)).trans hx150_0
      replace p150:=eq_true p150
      replace q150:=eq_true q150
      obtain ⟨Ao6,co6,eo6⟩:=Kd.aW HO_3.out
      subst eo6
      go_wp2_with (first | ((with_reducible refine tN (f:=16) rfl ?_);refine Lr (some 17) rfl rfl Tryz.func16 (by kernel_rfl) rfl #[.slice Ao6 x3_1.length co6,.int .i64 (rd l0 x8_1),.int .i64 (wrap64 (x8_1+100))] rfl (by (try simp only [List.map_toArray,List.map_cons,List.map_nil]);first | done | rfl | (simp only [List.length_drop,List.length_take];rfl)) ?_;(with_reducible refine (aC.calls k1 _ _ x3_1 (rd l0 x8_1) (wrap64 (x8_1+100)) t151 _ ?side1 ?side2 A5.out).mono ?_);(case side1=>repeat (first | exact (Kd.bF HO_3.out).2.2 | (with_reducible refine Kd.fB ?_ _) | (with_reducible refine Kd.fE ?_ _) | (with_reducible refine Kd.iB ?_)));(case side2=>exact (Kd.bF HO_3.out).2.1);rintro e w7 ⟨v152,rfl,ho0,hb⟩;refine ⟨_,rfl,?_⟩;have n0_:=Am_ (Kd.Kg (by (with_reducible repeat (first | apply Kd.dD | apply Kd.fA | apply Kd.fG));exact HO_3.out) (Kd.jC ho0) hb);have n1_:=Am_ (Kd.eF (Kd.OV ho0 (Kd.BF (by (with_reducible repeat (first | apply Kd.dD | apply Kd.fA | apply Kd.fG));exact HO_3.out))) (bN (by repeat (first | (with_reducible first | exact HB.out | apply ai | apply au | apply aA) | exact HB.out))));have n2_:=Am_ (dL (by repeat (first | (with_reducible first | exact HB.out | apply ai | apply au | apply aA) | exact HB.out)) hb);clear HO_3;clear HB;have HO_3:=n0_;have HO153:=n1_;have HB:=n2_;clear n0_ n1_ n2_;(try clear hb);(try clear hb2);(try clear hk);(try clear hi);(try clear ho0)))
      go_roundg k1
      case measure=>have:=HK1.out;omega
      case rel=>exact ⟨(t151),(wrap64 (x8_1+1)),(by first | rfl | (simp;done) | (simp [*];done)),H',⟨by have:=HK1.out;omega⟩,⟨by (with_reducible repeat (first | apply Kd.dD | apply Kd.fA | apply Kd.fG));exact Kd.bC HO153.out (fun _ hk=>trivial)⟩,⟨by repeat (first | (with_reducible first | exact HB.out | apply ai | apply au | apply aA) | exact HB.out)⟩⟩
     ·rw [if_neg c4] at H
      exact absurd H (by simp)
    ·rw [if_neg c3] at H
     exact absurd H (by simp)
   ·rw [if_neg c2] at H
    have c2b0:decide (x8_1<(l0.length:Int))=false:=decide_eq_false c2
    clear c2
    obtain rfl:=Option.some.inj H
    go_wp2
    go_ret
    exact ⟨_,by first | rfl | (simp [dA,dB]<;>rfl) | (simp [*,dA,dB]<;>rfl),by (with_reducible repeat (first | apply Kd.dD | apply Kd.fA | apply Kd.fG));exact HO_3.out,by repeat (first | (with_reducible first | exact HB.out | apply ai | apply au | apply aA) | exact HB.out)⟩
mutual
def ay.l0:Nat→Int→List (S30)→Int→Int→Option (Int)
 | 0,_,_,_,_=>none
 | k+1,x3,x7,x8,x9=>if x9<x8 then (if 0≤x9 then (if x9<(x7.length:Int) then ((ay.f k ((aZ x7 x9).f0) ((aZ x7 x9).f1) ((aZ x7 x9).f2) ((aZ x7 x9).f3) ((aZ x7 x9).f4)).bind fun t157=>(ay.l0 k (wrap64 (x3+t157)) x7 x8 (wrap64 (x9+1)))) else (none)) else (none)) else (some x3)
def ay.f:Nat→Bool→Bool→List (fF)→List Int→List (S30)→Option (Int)
 | 0,_,_,_,_,_=>none
 | k+1,a0_0,a0_1,l0_2,l0_3,l0_4=>ay.l0 k 1 l0_4 (l0_4.length:Int) 0
end
theorem ay.lD: ∀ k,(∀ y0 y1 y2 y3 y4,LeO (ay.f k y0 y1 y2 y3 y4) (ay.f (k+1) y0 y1 y2 y3 y4))∧(∀ y0 y1 y2 y3,LeO (ay.l0 k y0 y1 y2 y3) (ay.l0 (k+1) y0 y1 y2 y3))
 | 0=>⟨fun _ _ _ _ _ r h=>by simp [ay.f] at h,fun _ _ _ _ r h=>by simp [ay.l0] at h⟩
 | k+1=>by
  obtain ⟨ih0,ih1⟩:=ay.lD k
  refine ⟨?_,?_⟩
  ·intro y0 y1 y2 y3 y4
   unfold ay.f
   repeat' first
   | (with_reducible exact ih0 _ _ _ _ _)
   | (with_reducible exact ih1 _ _ _ _)
   | (with_reducible exact LeO.refl _)
   | (with_reducible exact LeO.none _)
   | (with_reducible refine LeO.ite ?_ ?_)
   | (with_reducible refine LeO.bind ?_ (fun _=>?_))
   | exact ih0 _ _ _ _ _
   | exact ih1 _ _ _ _
   | exact LeO.none _
   | refine LeO.ite ?_ ?_
   | refine LeO.bind ?_ (fun _=>?_)
  ·intro y0 y1 y2 y3
   unfold ay.l0
   repeat' first
   | (with_reducible exact ih0 _ _ _ _ _)
   | (with_reducible exact ih1 _ _ _ _)
   | (with_reducible exact LeO.refl _)
   | (with_reducible exact LeO.none _)
   | (with_reducible refine LeO.ite ?_ ?_)
   | (with_reducible refine LeO.bind ?_ (fun _=>?_))
   | exact ih0 _ _ _ _ _
   | exact ih1 _ _ _ _
   | exact LeO.none _
   | refine LeO.ite ?_ ?_
   | refine LeO.bind ?_ (fun _=>?_)
theorem ay.mono: ∀ a0 a1 a2 a3 a4 k,LeO (ay.f k a0 a1 a2 a3 a4) (ay.f (k+1) a0 a1 a2 a3 a4):=by
 intro a0 a1 a2 a3 a4 k
 obtain ⟨ih0,ih1⟩:=ay.lD k
 exact ih0 a0 a1 a2 a3 a4
theorem ay.calls (k:Nat): ∀ (a0_0:Bool) (a0_1:Bool) (A0_2:Option Addr) (c0_2:Nat) (l0_2:List (fF)) (A0_3:Option Addr) (c0_3:Nat) (l0_3:List Int) (A0_4:Option Addr) (c0_4:Nat) (l0_4:List (S30)) (r:Int) (w:World) (hr0_2:Kd.C mg w A0_2 l0_2.length l0_2) (hc0_2:l0_2.length≤c0_2) (hr0_3:Kd.C (Kd.int .i64) w A0_3 l0_3.length l0_3) (hc0_3:l0_3.length≤c0_3) (hr0_4:Kd.C k30 w A0_4 l0_4.length l0_4) (hc0_4:l0_4.length≤c0_4) (h:ay.f k a0_0 a0_1 l0_2 l0_3 l0_4=some r),
  Calls Tryz.prog 48 #[.agg #[.bool a0_0,.bool a0_1,.slice A0_2 l0_2.length c0_2,.slice A0_3 l0_3.length c0_3,.slice A0_4 l0_4.length c0_4]] w fun e w'=>e= .returned (.int .i64 r)∧Below w.heap.size w w':=by
 induction k using Nat.strongRecOn with
 | _ k ih=>
 intro a0_0 a0_1 A0_2 c0_2 l0_2 A0_3 c0_3 l0_3 A0_4 c0_4 l0_4 r w hr0_2 hc0_2 hr0_3 hc0_3 hr0_4 hc0_4 h
 cases k with
 | zero=>exact absurd h (by simp [ay.f])
 | succ k=>
 simp only [ay.f] at h
 have hu30:=Tryz.underlying30
 have HR0_2:=Am_ hr0_2
 have HC0_2:=Am_ hc0_2
 clear hr0_2 hc0_2
 have HR0_3:=Am_ hr0_3
 have HC0_3:=Am_ hc0_3
 clear hr0_3 hc0_3
 have HR0_4:=Am_ hr0_4
 have HC0_4:=Am_ hc0_4
 clear hr0_4 hc0_4
 have HB:=Am_ (Below.refl w.heap.size w)
 have H:(ay.l0 k 1 l0_4 (l0_4.length:Int) 0)=some r:=h
 clear h
 have H':=Am_ H
 clear H
 go_enter Tryz.func48,Tryz.ntmps48
 go_wp2_with (first | ((with_reducible refine iO (N:=1) rfl ?_);refine gX ?hg (N:=1) ?hd (cs:= #[.bool a0_0,.bool a0_1,.slice A0_2 l0_2.length c0_2,.slice A0_3 l0_3.length c0_3,.slice A0_4 l0_4.length c0_4]) (t:=30) ?hr ?_;(case hd=>rfl);(case hg=>rfl);(case hr=>first | (go_simp;done) | (go_simp;rfl));intro gb154 hg w2 hbox hb;have n0_:=Am_ (dL (by repeat (first | (with_reducible first | exact HB.out | apply ai | apply au | apply aA) | exact HB.out)) hb);have n1_:=Am_ (hbox);have n2_:=Am_ ((by rw [hg];exact (bN (by repeat (first | (with_reducible first | exact HB.out | apply ai | apply au | apply aA) | exact HB.out))):w.heap.size≤gb154));have n3_:=Am_ ((by rw [hg];exact (bN (by repeat (first | (with_reducible first | exact HB.out | apply ai | apply au | apply aA) | exact HB.out))):w.heap.size≤gb154));clear HB;have HB:=n0_;have BK154:=n1_;have GW154:=n2_;have GE154:=n3_;clear n0_ n1_ n2_ n3_;clear hb hbox hg;have hcz3_0:w2.cell? ⟨gb154,0,none⟩=some (.bool a0_0):=(af BK154.out 0).trans rfl;have hcz3_1:w2.cell? ⟨gb154,1,none⟩=some (.bool a0_1):=(af BK154.out 1).trans rfl;have hcz3_2:w2.cell? ⟨gb154,2,none⟩=some (.slice A0_2 l0_2.length c0_2):=(af BK154.out 2).trans rfl;have hcz3_3:w2.cell? ⟨gb154,3,none⟩=some (.slice A0_3 l0_3.length c0_3):=(af BK154.out 3).trans rfl;have hcz3_4:w2.cell? ⟨gb154,4,none⟩=some (.slice A0_4 l0_4.length c0_4):=(af BK154.out 4).trans rfl;have hfz3_0:=ah BK154.out 0;have hfz3_1:=ah BK154.out 1;have hfz3_2:=ah BK154.out 2;have hfz3_3:=ah BK154.out 3;have hfz3_4:=ah BK154.out 4))
 go_loopg [3,9] k (fun kq v3 v9 w'=> ∃ (x3_1:Int) (x9_1:Int),v3= .int .i64 x3_1∧v9= .int .i64 x9_1∧av (ay.l0 kq x3_1 l0_4 (l0_4.length:Int) x9_1=some r)∧av (kq≤k)∧av (w'.heap[gb154]?=some (.cells #[.bool a0_0,.bool a0_1,(.slice A0_2 l0_2.length c0_2),(.slice A0_3 l0_3.length c0_3),(.slice A0_4 l0_4.length c0_4)] 30 (0,0)))∧av (Below w.heap.size w w'))
 case atStart=>exact ⟨(1),(0),(by first | rfl | (simp;done) | (simp [*];done)),(by first | rfl | (simp;done) | (simp [*];done)),H',⟨Nat.le_refl _⟩,⟨by (with_reducible repeat (first | refine aY ?_ _ | refine aV ?_ | refine aK ?_ _));exact BK154.out⟩,⟨by repeat (first | (with_reducible first | exact HB.out | apply ai | apply au | apply aA | refine aM ?_ GE154.out) | exact HB.out)⟩⟩
 case round=>
  clear H'
  try clear p2
  try clear hcz3_0
  try clear hcz3_1
  try clear hcz3_2
  try clear hcz3_3
  try clear hcz3_4
  try clear hfz3_0
  try clear hfz3_1
  try clear hfz3_2
  try clear hfz3_3
  try clear hfz3_4
  obtain ⟨x3_1,x9_1,rfl,rfl,HA,HK1,BK154,HB⟩:=hrel
  cases gk with
  | zero=>exact absurd HA.out (by simp [ay.l0])
  | succ k1=>
   have H:=HA.out
   clear HA
   simp only [ay.l0] at H
   by_cases c4:x9_1<(l0_4.length:Int)
   ·rw [if_pos c4] at H
    have c4b0:decide (x9_1<(l0_4.length:Int))=true:=decide_eq_true c4
    clear c4
    by_cases c5:0≤x9_1
    ·rw [if_pos c5] at H
     have c5b0:decide (0≤x9_1)=true:=decide_eq_true c5
     clear c5
     by_cases c6:x9_1<(l0_4.length:Int)
     ·rw [if_pos c6] at H
      have c6b0:decide (x9_1<(l0_4.length:Int))=true:=decide_eq_true c6
      clear c6
      replace H:=Option.bind_eq_some_iff.mp H
      obtain ⟨t157,A70,H⟩:=H
      replace H:(ay.l0 k1 (wrap64 (x3_1+t157)) l0_4 (l0_4.length:Int) (wrap64 (x9_1+1)))=some r:=H
      have A7:=Am_ A70
      clear A70
      have H':=Am_ H
      clear H
      have p155:0≤(x9_1:Int):=of_decide_eq_true (by first | (with_reducible assumption) | assumption)
      have q155:x9_1<(l0_4.length:Int):=of_decide_eq_true (by first | (with_reducible assumption) | assumption)
      obtain ⟨ad155,A155_2,c155_2,A155_3,c155_3,A155_4,c155_4,e155,hx155_0,hx155_1,hx155_2,hx155_3,hx155_4,hl155_2,hi155_2,hl155_3,hi155_3,hl155_4,hi155_4⟩:=yD HR0_4.out x9_1 p155 q155
      cases e155
      replace hx155_0:=(HB.out.cell (World.block_lt_of_cell? w _ hx155_0)).trans hx155_0
      replace hx155_1:=(HB.out.cell (World.block_lt_of_cell? w _ hx155_1)).trans hx155_1
      replace hx155_2:=(HB.out.cell (World.block_lt_of_cell? w _ hx155_2)).trans hx155_2
      replace hx155_3:=(HB.out.cell (World.block_lt_of_cell? w _ hx155_3)).trans hx155_3
      replace hx155_4:=(HB.out.cell (World.block_lt_of_cell? w _ hx155_4)).trans hx155_4
      have HR155_2:=Am_ hi155_2
      have HC155_2:=Am_ hl155_2
      clear hi155_2 hl155_2
      have HR155_3:=Am_ hi155_3
      have HC155_3:=Am_ hl155_3
      clear hi155_3 hl155_3
      have HR155_4:=Am_ hi155_4
      have HC155_4:=Am_ hl155_4
      clear hi155_4 hl155_4
      replace p155:=eq_true p155
      replace q155:=eq_true q155
      go_wp2_with (first | ((with_reducible refine iO (N:=5) rfl ?_);refine gX ?hg (N:=5) ?hd (cs:= #[.bool false,.bool false,.slice none 0 0,.slice none 0 0,.slice none 0 0]) (t:=30) ?hr ?_;(case hd=>rfl);(case hg=>rfl);(case hr=>first | (go_simp;done) | (go_simp;rfl));intro gb156 hg w8 hbox hb;have n0_:=Am_ (bW (g:=gb154) (o:= .cells #[.bool a0_0,.bool a0_1,.slice A0_2 l0_2.length c0_2,.slice A0_3 l0_3.length c0_3,.slice (some ad155) l0_4.length c0_4] 30 (0,0)) (by (with_reducible repeat (first | refine aY ?_ _ | refine aV ?_ | refine aK ?_ _));exact BK154.out) hb);have n1_:=Am_ (dL (by repeat (first | (with_reducible first | exact HB.out | apply ai | apply au | apply aA | refine aM ?_ GE154.out) | exact HB.out)) hb);have n2_:=Am_ (hbox);have n3_:=Am_ ((by rw [hg];exact (bN (by repeat (first | (with_reducible first | exact HB.out | apply ai | apply au | apply aA | refine aM ?_ GE154.out) | exact HB.out))):w.heap.size≤gb156));have n4_:=Am_ ((by rw [hg];exact (bN (by repeat (first | (with_reducible first | exact HB.out | apply ai | apply au | apply aA | refine aM ?_ GE154.out) | exact HB.out))):w.heap.size≤gb156));have n5_:=Am_ ((by rw [hg];exact Nat.ne_of_lt (bH (g:=gb154) (o:= .cells #[.bool a0_0,.bool a0_1,.slice A0_2 l0_2.length c0_2,.slice A0_3 l0_3.length c0_3,.slice (some ad155) l0_4.length c0_4] 30 (0,0)) (by (with_reducible repeat (first | refine aY ?_ _ | refine aV ?_ | refine aK ?_ _));exact BK154.out)):gb154≠gb156));have n6_:=Am_ ((by rw [hg];exact Nat.ne_of_gt (bH (g:=gb154) (o:= .cells #[.bool a0_0,.bool a0_1,.slice A0_2 l0_2.length c0_2,.slice A0_3 l0_3.length c0_3,.slice (some ad155) l0_4.length c0_4] 30 (0,0)) (by (with_reducible repeat (first | refine aY ?_ _ | refine aV ?_ | refine aK ?_ _));exact BK154.out)):gb156≠gb154));clear BK154;clear HB;have BK154:=n0_;have HB:=n1_;have BK156:=n2_;have GW156:=n3_;have GE156:=n4_;have NB154_156:=n5_;have NB156_154:=n6_;clear n0_ n1_ n2_ n3_ n4_ n5_ n6_;clear hb hbox hg;have hnb9:=NB156_154.out;have hnc9:=NB154_156.out;have hcz10_0:w8.cell? ⟨gb156,0,none⟩=some (.bool false):=(af BK156.out 0).trans rfl;have hcz10_1:w8.cell? ⟨gb156,1,none⟩=some (.bool false):=(af BK156.out 1).trans rfl;have hcz10_2:w8.cell? ⟨gb156,2,none⟩=some (.slice none 0 0):=(af BK156.out 2).trans rfl;have hcz10_3:w8.cell? ⟨gb156,3,none⟩=some (.slice none 0 0):=(af BK156.out 3).trans rfl;have hcz10_4:w8.cell? ⟨gb156,4,none⟩=some (.slice none 0 0):=(af BK156.out 4).trans rfl;have hfz10_0:=ah BK156.out 0;have hfz10_1:=ah BK156.out 1;have hfz10_2:=ah BK156.out 2;have hfz10_3:=ah BK156.out 3;have hfz10_4:=ah BK156.out 4) | ((with_reducible refine tN (f:=48) rfl ?_);refine Lr (some 15) rfl rfl Tryz.func48 (by kernel_rfl) rfl #[.agg #[.bool ((aZ l0_4 x9_1).f0),.bool ((aZ l0_4 x9_1).f1),.slice A155_2 ((aZ l0_4 x9_1).f2).length c155_2,.slice A155_3 ((aZ l0_4 x9_1).f3).length c155_3,.slice A155_4 ((aZ l0_4 x9_1).f4).length c155_4]] rfl (by (try simp only [List.map_toArray,List.map_cons,List.map_nil]);first | done | rfl | (simp only [List.length_drop,List.length_take];rfl)) ?_;(with_reducible refine (ih k1 (by have:=HK1.out;omega) ((aZ l0_4 x9_1).f0) ((aZ l0_4 x9_1).f1) _ _ ((aZ l0_4 x9_1).f2) _ _ ((aZ l0_4 x9_1).f3) _ _ ((aZ l0_4 x9_1).f4) t157 _ ?side1 ?side2 ?side3 ?side4 ?side5 ?side6 A7.out).mono ?_);(case side1=>exact Kd.bE HR155_2.out (by repeat (first | (with_reducible first | exact HB.out | apply ai | apply au | apply aA | refine aM ?_ GE154.out | refine aM ?_ GE156.out) | exact HB.out)));(case side2=>exact HC155_2.out);(case side3=>exact Kd.bE HR155_3.out (by repeat (first | (with_reducible first | exact HB.out | apply ai | apply au | apply aA | refine aM ?_ GE154.out | refine aM ?_ GE156.out) | exact HB.out)));(case side4=>exact HC155_3.out);(case side5=>exact Kd.bE HR155_4.out (by repeat (first | (with_reducible first | exact HB.out | apply ai | apply au | apply aA | refine aM ?_ GE154.out | refine aM ?_ GE156.out) | exact HB.out)));(case side6=>exact HC155_4.out);rintro e w11 ⟨rfl,hb⟩;refine ⟨_,rfl,?_⟩;have n0_:=Am_ (bW (g:=gb154) (o:= .cells #[.bool a0_0,.bool a0_1,.slice A0_2 l0_2.length c0_2,.slice A0_3 l0_3.length c0_3,.slice (some ad155) l0_4.length c0_4] 30 (0,0)) (by (with_reducible repeat (first | refine aY ?_ _ | refine aV ?_ | refine aK ?_ _));refine dQ ?_ NB154_156.out _;(with_reducible repeat (first | refine aY ?_ _ | refine aV ?_ | refine aK ?_ _));refine dQ ?_ NB154_156.out _;(with_reducible repeat (first | refine aY ?_ _ | refine aV ?_ | refine aK ?_ _));refine dQ ?_ NB154_156.out _;(with_reducible repeat (first | refine aY ?_ _ | refine aV ?_ | refine aK ?_ _));refine dQ ?_ NB154_156.out _;(with_reducible repeat (first | refine aY ?_ _ | refine aV ?_ | refine aK ?_ _));refine dQ ?_ NB154_156.out _;(with_reducible repeat (first | refine aY ?_ _ | refine aV ?_ | refine aK ?_ _));exact BK154.out) hb);have n1_:=Am_ (bW (g:=gb156) (o:= .cells #[.bool ((aZ l0_4 x9_1).f0),.bool ((aZ l0_4 x9_1).f1),.slice A155_2 ((aZ l0_4 x9_1).f2).length c155_2,.slice A155_3 ((aZ l0_4 x9_1).f3).length c155_3,.slice A155_4 ((aZ l0_4 x9_1).f4).length c155_4] 30 (0,0)) (by (with_reducible repeat (first | refine aY ?_ _ | refine aV ?_ | refine aK ?_ _));refine kY (cs:= #[.bool ((aZ l0_4 x9_1).f0),.bool ((aZ l0_4 x9_1).f1),.slice A155_2 ((aZ l0_4 x9_1).f2).length c155_2,.slice A155_3 ((aZ l0_4 x9_1).f3).length c155_3,.slice none 0 0]) ?_ 4 _ rfl;(with_reducible repeat (first | refine aY ?_ _ | refine aV ?_ | refine aK ?_ _));refine kY (cs:= #[.bool ((aZ l0_4 x9_1).f0),.bool ((aZ l0_4 x9_1).f1),.slice A155_2 ((aZ l0_4 x9_1).f2).length c155_2,.slice none 0 0,.slice none 0 0]) ?_ 3 _ rfl;(with_reducible repeat (first | refine aY ?_ _ | refine aV ?_ | refine aK ?_ _));refine kY (cs:= #[.bool ((aZ l0_4 x9_1).f0),.bool ((aZ l0_4 x9_1).f1),.slice none 0 0,.slice none 0 0,.slice none 0 0]) ?_ 2 _ rfl;(with_reducible repeat (first | refine aY ?_ _ | refine aV ?_ | refine aK ?_ _));refine kY (cs:= #[.bool ((aZ l0_4 x9_1).f0),.bool false,.slice none 0 0,.slice none 0 0,.slice none 0 0]) ?_ 1 _ rfl;(with_reducible repeat (first | refine aY ?_ _ | refine aV ?_ | refine aK ?_ _));refine kY (cs:= #[.bool false,.bool false,.slice none 0 0,.slice none 0 0,.slice none 0 0]) ?_ 0 _ rfl;(with_reducible repeat (first | refine aY ?_ _ | refine aV ?_ | refine aK ?_ _));exact BK156.out) hb);have n2_:=Am_ (dL (by repeat (first | (with_reducible first | exact HB.out | apply ai | apply au | apply aA | refine aM ?_ GE154.out | refine aM ?_ GE156.out) | exact HB.out)) hb);clear BK154;clear BK156;clear HB;have BK154:=n0_;have BK156:=n1_;have HB:=n2_;clear n0_ n1_ n2_;(try clear hb);(try clear hb2);(try clear hk);(try clear hi)))
      go_roundg k1
      case measure=>have:=HK1.out;omega
      case rel=>exact ⟨(wrap64 (x3_1+t157)),(wrap64 (x9_1+1)),(by first | rfl | (simp;done) | (simp [*];done)),(by first | rfl | (simp;done) | (simp [*];done)),H',⟨by have:=HK1.out;omega⟩,⟨by (with_reducible repeat (first | refine aY ?_ _ | refine aV ?_ | refine aK ?_ _));exact BK154.out⟩,⟨by repeat (first | (with_reducible first | exact HB.out | apply ai | apply au | apply aA | refine aM ?_ GE154.out | refine aM ?_ GE156.out) | exact HB.out)⟩⟩
     ·rw [if_neg c6] at H
      exact absurd H (by simp)
    ·rw [if_neg c5] at H
     exact absurd H (by simp)
   ·rw [if_neg c4] at H
    have c4b0:decide (x9_1<(l0_4.length:Int))=false:=decide_eq_false c4
    clear c4
    obtain rfl:=Option.some.inj H
    go_wp2
    go_ret
    exact ⟨by first | rfl | (simp [dA,dB]<;>rfl) | (simp [*,dA,dB]<;>rfl),by repeat (first | (with_reducible first | exact HB.out | apply ai | apply au | apply aA | refine aM ?_ GE154.out) | exact HB.out)⟩
def gD.f (a0_0:Bool) (a0_1:Bool) (l0_2:List (fF)) (l0_3:List Int) (l0_4:List (S30)):Option (Int):=if a0_0=true then (some (l0_2.length:Int)) else (some (l0_4.length:Int))
theorem gD.calls (a0_0:Bool) (a0_1:Bool) (A0_2:Option Addr) (c0_2:Nat) (l0_2:List (fF)) (A0_3:Option Addr) (c0_3:Nat) (l0_3:List Int) (A0_4:Option Addr) (c0_4:Nat) (l0_4:List (S30)) (r:Int) (w:World) (hr0_2:Kd.C mg w A0_2 l0_2.length l0_2) (hc0_2:l0_2.length≤c0_2) (hr0_3:Kd.C (Kd.int .i64) w A0_3 l0_3.length l0_3) (hc0_3:l0_3.length≤c0_3) (hr0_4:Kd.C k30 w A0_4 l0_4.length l0_4) (hc0_4:l0_4.length≤c0_4) (h:gD.f a0_0 a0_1 l0_2 l0_3 l0_4=some r):
  Calls Tryz.prog 72 #[.agg #[.bool a0_0,.bool a0_1,.slice A0_2 l0_2.length c0_2,.slice A0_3 l0_3.length c0_3,.slice A0_4 l0_4.length c0_4]] w fun e w'=>e= .returned (.int .i64 r)∧Below w.heap.size w w':=by
 have hu30:=Tryz.underlying30
 have HR0_2:=Am_ hr0_2
 have HC0_2:=Am_ hc0_2
 clear hr0_2 hc0_2
 have HR0_3:=Am_ hr0_3
 have HC0_3:=Am_ hc0_3
 clear hr0_3 hc0_3
 have HR0_4:=Am_ hr0_4
 have HC0_4:=Am_ hc0_4
 clear hr0_4 hc0_4
 have HB:=Am_ (Below.refl w.heap.size w)
 have H:(if a0_0=true then (some (l0_2.length:Int)) else (some (l0_4.length:Int)))=some r:=h
 clear h
 by_cases c2:a0_0=true
 ·subst c2
  have H1:(some (l0_2.length:Int))=some r:=by rw [if_pos rfl] at H;exact H
  clear H
  have H:=H1
  clear H1
  obtain rfl:=Option.some.inj H
  go_enter Tryz.func72,Tryz.ntmps72
  go_wp2_with (first | ((with_reducible refine iO (N:=1) rfl ?_);refine gX ?hg (N:=1) ?hd (cs:= #[.bool true,.bool a0_1,.slice A0_2 l0_2.length c0_2,.slice A0_3 l0_3.length c0_3,.slice A0_4 l0_4.length c0_4]) (t:=30) ?hr ?_;(case hd=>rfl);(case hg=>rfl);(case hr=>first | (go_simp;done) | (go_simp;rfl));intro gb169 hg w3 hbox hb;have n0_:=Am_ (dL (by repeat (first | (with_reducible first | exact HB.out | apply ai | apply au | apply aA) | exact HB.out)) hb);have n1_:=Am_ (hbox);have n2_:=Am_ ((by rw [hg];exact (bN (by repeat (first | (with_reducible first | exact HB.out | apply ai | apply au | apply aA) | exact HB.out))):w.heap.size≤gb169));have n3_:=Am_ ((by rw [hg];exact (bN (by repeat (first | (with_reducible first | exact HB.out | apply ai | apply au | apply aA) | exact HB.out))):w.heap.size≤gb169));clear HB;have HB:=n0_;have BK169:=n1_;have GW169:=n2_;have GE169:=n3_;clear n0_ n1_ n2_ n3_;clear hb hbox hg;have hcz4_0:w3.cell? ⟨gb169,0,none⟩=some (.bool true):=(af BK169.out 0).trans rfl;have hcz4_1:w3.cell? ⟨gb169,1,none⟩=some (.bool a0_1):=(af BK169.out 1).trans rfl;have hcz4_2:w3.cell? ⟨gb169,2,none⟩=some (.slice A0_2 l0_2.length c0_2):=(af BK169.out 2).trans rfl;have hcz4_3:w3.cell? ⟨gb169,3,none⟩=some (.slice A0_3 l0_3.length c0_3):=(af BK169.out 3).trans rfl;have hcz4_4:w3.cell? ⟨gb169,4,none⟩=some (.slice A0_4 l0_4.length c0_4):=(af BK169.out 4).trans rfl;have hfz4_0:=ah BK169.out 0;have hfz4_1:=ah BK169.out 1;have hfz4_2:=ah BK169.out 2;have hfz4_3:=ah BK169.out 3;have hfz4_4:=ah BK169.out 4))
  go_ret
  exact ⟨by first | rfl | (simp [dA,dB]<;>rfl) | (simp [*,dA,dB]<;>rfl),by repeat (first | (with_reducible first | exact HB.out | apply ai | apply au | apply aA | refine aM ?_ GE169.out) | exact HB.out)⟩
 ·replace c2:=Bool.eq_false_iff.mpr c2
  subst c2
  have H1:(some (l0_4.length:Int))=some r:=by rw [if_neg (show ¬ (false=true) by decide)] at H;exact H
  clear H
  have H:=H1
  clear H1
  obtain rfl:=Option.some.inj H
  go_enter Tryz.func72,Tryz.ntmps72
  go_wp2_with (first | ((with_reducible refine iO (N:=1) rfl ?_);refine gX ?hg (N:=1) ?hd (cs:= #[.bool false,.bool a0_1,.slice A0_2 l0_2.length c0_2,.slice A0_3 l0_3.length c0_3,.slice A0_4 l0_4.length c0_4]) (t:=30) ?hr ?_;(case hd=>rfl);(case hg=>rfl);(case hr=>first | (go_simp;done) | (go_simp;rfl));intro gb169 hg w5 hbox hb;have n0_:=Am_ (dL (by repeat (first | (with_reducible first | exact HB.out | apply ai | apply au | apply aA) | exact HB.out)) hb);have n1_:=Am_ (hbox);have n2_:=Am_ ((by rw [hg];exact (bN (by repeat (first | (with_reducible first | exact HB.out | apply ai | apply au | apply aA) | exact HB.out))):w.heap.size≤gb169));have n3_:=Am_ ((by rw [hg];exact (bN (by repeat (first | (with_reducible first | exact HB.out | apply ai | apply au | apply aA) | exact HB.out))):w.heap.size≤gb169));clear HB;have HB:=n0_;have BK169:=n1_;have GW169:=n2_;have GE169:=n3_;clear n0_ n1_ n2_ n3_;clear hb hbox hg;have hcz6_0:w5.cell? ⟨gb169,0,none⟩=some (.bool false):=(af BK169.out 0).trans rfl;have hcz6_1:w5.cell? ⟨gb169,1,none⟩=some (.bool a0_1):=(af BK169.out 1).trans rfl;have hcz6_2:w5.cell? ⟨gb169,2,none⟩=some (.slice A0_2 l0_2.length c0_2):=(af BK169.out 2).trans rfl;have hcz6_3:w5.cell? ⟨gb169,3,none⟩=some (.slice A0_3 l0_3.length c0_3):=(af BK169.out 3).trans rfl;have hcz6_4:w5.cell? ⟨gb169,4,none⟩=some (.slice A0_4 l0_4.length c0_4):=(af BK169.out 4).trans rfl;have hfz6_0:=ah BK169.out 0;have hfz6_1:=ah BK169.out 1;have hfz6_2:=ah BK169.out 2;have hfz6_3:=ah BK169.out 3;have hfz6_4:=ah BK169.out 4))
  go_ret
  exact ⟨by first | rfl | (simp [dA,dB]<;>rfl) | (simp [*,dA,dB]<;>rfl),by repeat (first | (with_reducible first | exact HB.out | apply ai | apply au | apply aA | refine aM ?_ GE169.out) | exact HB.out)⟩
def aI.l0:Nat→List (fF)→List (fF)→Int→Int→Option (Bool)
 | 0,_,_,_,_=>none
 | k+1,x0,x1,x12,x13=>if x13<x12 then (if 0≤x13 then (if x13<(x0.length:Int) then (if x13<(x1.length:Int) then (if (!(((aJ x0 x13).f0) == ((aJ x1 x13).f0)) || (!(((aJ x0 x13).f1) == ((aJ x1 x13).f1))))=true then (some false) else (aI.l0 k x0 x1 x12 (wrap64 (x13+1)))) else (none)) else (none)) else (none)) else (some true)
def aI.f (k:Nat) (l0:List (fF)) (l1:List (fF)):Option (Bool):=if (l0.length:Int)=(l1.length:Int) then (aI.l0 k l0 l1 (l0.length:Int) 0) else (some false)
theorem aI.lD: ∀ k,(∀ y0 y1 y2 y3,LeO (aI.l0 k y0 y1 y2 y3) (aI.l0 (k+1) y0 y1 y2 y3))
 | 0=>fun _ _ _ _ r h=>by simp [aI.l0] at h
 | k+1=>by
  have ih0:=aI.lD k
  ·intro y0 y1 y2 y3
   unfold aI.l0
   repeat' first
   | (with_reducible exact ih0 _ _ _ _)
   | (with_reducible exact LeO.refl _)
   | (with_reducible exact LeO.none _)
   | (with_reducible refine LeO.ite ?_ ?_)
   | (with_reducible refine LeO.bind ?_ (fun _=>?_))
   | exact ih0 _ _ _ _
   | exact LeO.none _
   | refine LeO.ite ?_ ?_
   | refine LeO.bind ?_ (fun _=>?_)
theorem aI.mono: ∀ a0 a1 k,LeO (aI.f k a0 a1) (aI.f (k+1) a0 a1):=by
 intro a0 a1 k
 have ih0:=aI.lD k
 unfold aI.f
 repeat' first
   | (with_reducible exact ih0 _ _ _ _)
   | (with_reducible exact LeO.refl _)
   | (with_reducible exact LeO.none _)
   | (with_reducible refine LeO.ite ?_ ?_)
   | (with_reducible refine LeO.bind ?_ (fun _=>?_))
   | exact ih0 _ _ _ _
   | exact LeO.none _
   | refine LeO.ite ?_ ?_
   | refine LeO.bind ?_ (fun _=>?_)
theorem aI.calls (k:Nat) (A0:Option Addr) (c0:Nat) (l0:List (fF)) (A1:Option Addr) (c1:Nat) (l1:List (fF)) (r:Bool) (w:World) (hr0:Kd.C mg w A0 l0.length l0) (hc0:l0.length≤c0) (hr1:Kd.C mg w A1 l1.length l1) (hc1:l1.length≤c1) (h:aI.f k l0 l1=some r):
  Calls Tryz.prog 56 #[.slice A0 l0.length c0,.slice A1 l1.length c1] w fun e w'=>e= .returned (.bool r)∧gV w w':=by
 have hu121:=Tryz.underlying121
 have HR0:=Am_ hr0
 have HC0:=Am_ hc0
 clear hr0 hc0
 have HR1:=Am_ hr1
 have HC1:=Am_ hc1
 clear hr1 hc1
 have H:(if (l0.length:Int)=(l1.length:Int) then (aI.l0 k l0 l1 (l0.length:Int) 0) else (some false))=some r:=h
 clear h
 by_cases c3:(l0.length:Int)=(l1.length:Int)
 ·rw [if_pos c3] at H
  have c3b0:((l0.length:Int) == (l1.length:Int))=true:=beq_iff_eq.mpr c3
  have c3b1:((l0.length:Int) != (l1.length:Int))=false:=bne_eq_false_iff_eq.mpr c3
  have c3b2:(l0.length == l1.length)=true:=by first | simpa using c3 | (simp at c3 ⊢;omega)
  clear c3
  have H':=Am_ H
  clear H
  go_enter Tryz.func56,Tryz.ntmps56
  go_wp2
  repeat (go_quiet (fail);try go_wp2)
  go_loopg [13] k (fun kq v13 w'=> ∃ (x13_1:Int),v13= .int .i64 x13_1∧av (aI.l0 kq l0 l1 (l0.length:Int) x13_1=some r)∧av (kq≤k)∧gV w w')
  case atStart=>exact ⟨(0),(by first | rfl | (simp;done) | (simp [*];done)),H',⟨Nat.le_refl _⟩,by repeat (first | exact gV.refl _ | apply gV.step)⟩
  case round=>
   clear H'
   try clear c1
   try clear p2
   try clear c3
   try clear c3b0
   try clear c3b1
   try clear c3b2
   obtain ⟨x13_1,rfl,HA,HK1,⟨m1,rfl⟩⟩:=hrel
   cases gk with
   | zero=>exact absurd HA.out (by simp [aI.l0])
   | succ k1=>
    have H:=HA.out
    clear HA
    simp only [aI.l0] at H
    by_cases c4:x13_1<(l0.length:Int)
    ·rw [if_pos c4] at H
     have c4b0:decide (x13_1<(l0.length:Int))=true:=decide_eq_true c4
     clear c4
     by_cases c5:0≤x13_1
     ·rw [if_pos c5] at H
      have c5b0:decide (0≤x13_1)=true:=decide_eq_true c5
      clear c5
      by_cases c6:x13_1<(l0.length:Int)
      ·rw [if_pos c6] at H
       have c6b0:decide (x13_1<(l0.length:Int))=true:=decide_eq_true c6
       clear c6
       by_cases c7:x13_1<(l1.length:Int)
       ·rw [if_pos c7] at H
        have c7b0:decide (x13_1<(l1.length:Int))=true:=decide_eq_true c7
        clear c7
        by_cases c8:(!(((aJ l0 x13_1).f0) == ((aJ l1 x13_1).f0)) || (!(((aJ l0 x13_1).f1) == ((aJ l1 x13_1).f1))))=true
        ·rw [if_pos c8] at H
         have c8b0:(!(((aJ l0 x13_1).f0) == ((aJ l1 x13_1).f0)) || (!(((aJ l0 x13_1).f1) == ((aJ l1 x13_1).f1))))=true:=c8
         clear c8
         obtain rfl:=Option.some.inj H
         have p202:0≤(x13_1:Int):=of_decide_eq_true (by first | (with_reducible assumption) | assumption)
         have q202:x13_1<(l0.length:Int):=of_decide_eq_true (by first | (with_reducible assumption) | assumption)
         obtain ⟨ad202,e202,hx202_0,hx202_1⟩:=kr HR0.out x13_1 p202 q202
         cases e202
         replace p202:=eq_true p202
         replace q202:=eq_true q202
         have p203:0≤(x13_1:Int):=of_decide_eq_true (by first | (with_reducible assumption) | assumption)
         have q203:x13_1<(l1.length:Int):=of_decide_eq_true (by first | (with_reducible assumption) | assumption)
         obtain ⟨ad203,e203,hx203_0,hx203_1⟩:=kr HR1.out x13_1 p203 q203
         cases e203
         replace p203:=eq_true p203
         replace q203:=eq_true q203
         go_wp2
         repeat (go_quiet (fail);try go_wp2)
         go_ret
         exact ⟨by first | rfl | (simp;done) | (simp [*];done),by repeat (first | exact gV.refl _ | apply gV.step)⟩
        ·rw [if_neg c8] at H
         have c8b0:(!(((aJ l0 x13_1).f0) == ((aJ l1 x13_1).f0)) || (!(((aJ l0 x13_1).f1) == ((aJ l1 x13_1).f1))))=false:=by simpa using c8
         clear c8
         have H':=Am_ H
         clear H
         have p202:0≤(x13_1:Int):=of_decide_eq_true (by first | (with_reducible assumption) | assumption)
         have q202:x13_1<(l0.length:Int):=of_decide_eq_true (by first | (with_reducible assumption) | assumption)
         obtain ⟨ad202,e202,hx202_0,hx202_1⟩:=kr HR0.out x13_1 p202 q202
         cases e202
         replace p202:=eq_true p202
         replace q202:=eq_true q202
         have p203:0≤(x13_1:Int):=of_decide_eq_true (by first | (with_reducible assumption) | assumption)
         have q203:x13_1<(l1.length:Int):=of_decide_eq_true (by first | (with_reducible assumption) | assumption)
         obtain ⟨ad203,e203,hx203_0,hx203_1⟩:=kr HR1.out x13_1 p203 q203
         cases e203
         replace p203:=eq_true p203
         replace q203:=eq_true q203
         go_wp2
         repeat (go_quiet (fail);try go_wp2)
         go_roundg k1
         case measure=>have:=HK1.out;omega
         case rel=>exact ⟨(wrap64 (x13_1+1)),(by first | rfl | (simp;done) | (simp [*];done)),H',⟨by have:=HK1.out;omega⟩,by repeat (first | exact gV.refl _ | apply gV.step)⟩
       ·rw [if_neg c7] at H
        exact absurd H (by simp)
      ·rw [if_neg c6] at H
       exact absurd H (by simp)
     ·rw [if_neg c5] at H
      exact absurd H (by simp)
    ·rw [if_neg c4] at H
     have c4b0:decide (x13_1<(l0.length:Int))=false:=decide_eq_false c4
     clear c4
     obtain rfl:=Option.some.inj H
     go_wp2
     repeat (go_quiet (fail);try go_wp2)
     go_ret
     exact ⟨by first | rfl | (simp;done) | (simp [*];done),by repeat (first | exact gV.refl _ | apply gV.step)⟩
 ·rw [if_neg c3] at H
  have c3b0:((l0.length:Int) == (l1.length:Int))=false:=beq_eq_false_iff_ne.mpr c3
  have c3b1:((l0.length:Int) != (l1.length:Int))=true:=bne_iff_ne.mpr c3
  have c3b2:(l0.length == l1.length)=false:=by first | simpa using c3 | (simp at c3 ⊢;omega)
  obtain rfl:=Option.some.inj H
  go_enter Tryz.func56,Tryz.ntmps56
  go_wp2
  repeat (go_quiet (fail);try go_wp2)
  go_ret
  exact ⟨by first | rfl | (simp;done) | (simp [*];done),by repeat (first | exact gV.refl _ | apply gV.step)⟩
end Go.Proofs.YtmnjjdeaccgjlaaGreat.PPutSplits
namespace Go.Proofs.YtmnjjdeaccgjlaaGreat.Tower
open Go Go.RowKit Go.Proofs.YtmnjjdeaccgjlaaGreatW.PrintWords Go.Proofs.YtmnjjdeaccgjlaaGreatW.PrintLast Go.Proofs.YtmnjjdeaccgjlaaGreatW.PrintMore Go.Proofs.YtmnjjdeaccgjlaaGreat.Own Go.Proofs.YtmnjjdeaccgjlaaGreat.PPutSplits
theorem mE {α:Type} {d:Kd α} {x:α} {c:List Value} {D:Nat→Prop} {w w1:World} {n:Nat} (h:d.FK w D x c) (hn:w.heap.size≤n) (b:Below n w w1):d.FK w1 (fun k=>D k∧k<w.heap.size) x c:=Kd.jy (Kd.rG h) (fun k hk hlt=>b.block k (by omega))
structure Home (x:Ws) (w:World) (e:Ending) (w1:World):Prop where
 out: ∃ ok p,e= .returned (.pointer (some ⟨p,0,none⟩))∧qd p x ok w1∧(∀ k,ok k→w.heap.size≤k)∧Below w.heap.size w w1
theorem Cs (k:Nat) (a b:Int) (threads:Nat) (s:Sh) (room records m nodes:Int) (x x1:Ws) (w:World) (cs:List Value) {D:Nat→Prop} (hf:kSh.FK w D s cs) (hm:ay.f k s.f0 s.f1 s.f2 s.f3 s.f4=some m) (hno:wrap64 (wrap64 (2+m)+room)=nodes)
  (ha:2≤a) (ha1:a≤32) (hb:2*a - 1≤b) (hb1:b≤32) (ht:1≤threads) (ht1:threads≤64) (hn:2≤nodes) (hn1:nodes≤65536) (hr:0≤records) (hr1:records≤65536) (hx:ws0 a b threads nodes records=some x) (hp:vG s x=some x1):
  Calls Tryz.prog 13 #[.int .i64 a,.int .i64 b,.int .i64 threads,.agg cs.toArray,.int .i64 room,.int .i64 records] w (Home x1 w):=by
 have HN:=Am_ (fun w=>xY a b threads nodes records w ha ha1 hb hb1 ht ht1 hn hn1 hr hr1 x hx)
 have HP:=Am_ hp
 have HM:=Am_ hm
 have HNO:=Am_ hno
 clear ha ha1 hb hb1 ht ht1 hn hn1 hr hr1 hx hp hm hno
 obtain ⟨A2,c2,A3,c3,A4,c4,rfl,l2,F2,l3,F3,l4,F4⟩:=jb hf
 have HF:=Am_ hf
 have HG:=Am_ (And.intro l2 (And.intro F2 (And.intro l3 (And.intro F3 (And.intro l4 F4)))))
 have X1:=Am_ (Mine.new (ok:=fun _=>False) (w:=w) (fun k hk=>hk.elim) (.cells #[.bool s.f0,.bool s.f1,.slice A2 s.f2.length c2,.slice A3 s.f3.length c3,.slice A4 s.f4.length c4] 30))
 have B1:=Am_ (ai (Below.refl w.heap.size w) (.cells #[.bool s.f0,.bool s.f1,.slice A2 s.f2.length c2,.slice A3 s.f3.length c3,.slice A4 s.f4.length c4] 30))
 clear hf l2 F2 l3 F3 l4 F4
 go_enter Tryz.func13,Tryz.ntmps13
 go_upto_region 1 with fail
 generalize hw1:w.alloc (.cells #[.bool s.f0,.bool s.f1,.slice A2 s.f2.length c2,.slice A3 s.f3.length c3,.slice A4 s.f4.length c4] 30)=w1 at X1 B1 ⊢
 have hs1:w.heap.size≤w1.heap.size:=B1.out.size
 have S1:=Am_ hs1
 generalize hb9:w.heap.size=b9 at X1 ⊢
 have E9:=Am_ hb9
 clear hw1 hs1 hb9
 have y0:=(af X1.out.1 0).trans (rfl:_=some (Value.bool s.f0))
 have y1:=(af X1.out.1 1).trans (rfl:_=some (Value.bool s.f1))
 have y2:=(af X1.out.1 2).trans (rfl:_=some (Value.slice A2 s.f2.length c2))
 have y3:=(af X1.out.1 3).trans (rfl:_=some (Value.slice A3 s.f3.length c3))
 have y4:=(af X1.out.1 4).trans (rfl:_=some (Value.slice A4 s.f4.length c4))
 go_upto_region 2 with (first
  | (go_at_call 48;refine (ay.calls k s.f0 s.f1 A2 c2 s.f2 A3 c3 s.f3 A4 c4 s.f4 m _ (Kd.bE (Kd.fM HG.out.2.1) B1.out) HG.out.1 (Kd.bE (Kd.fM HG.out.2.2.2.1) B1.out) HG.out.2.2.1 (Kd.bE (Kd.fM HG.out.2.2.2.2.2) B1.out) HG.out.2.2.2.2.1 HM.out).mono ?_;rintro e w2 ⟨rfl,hb2⟩;have B2:=Am_ (aU B1.out S1.out hb2);have X2:=Am_ (X1.out.moves (Moves.bV _ hb2));clear hb2)
  | (go_at_call 65;rw [HNO.out];refine (HN.out _).mono ?_;rintro e w3 hW;obtain ⟨ok,p,rfl,hW,hF,hB⟩:=hW.out;have W3:=Am_ hW;have F3:=Am_ ((fun k hk=>Nat.le_trans B2.out.size (hF k hk)): ∀ k,ok k→w.heap.size≤k);have B3:=Am_ (aU B2.out B2.out.size hB);have X3:=Am_ (X2.out.moves (Moves.bV _ hB));clear hW hF hB))
 have z0:=(af X3.out.1 0).trans (rfl:_=some (Value.bool s.f0))
 have z1:=(af X3.out.1 1).trans (rfl:_=some (Value.bool s.f1))
 have z2:=(af X3.out.1 2).trans (rfl:_=some (Value.slice A2 s.f2.length c2))
 have z3:=(af X3.out.1 3).trans (rfl:_=some (Value.slice A3 s.f3.length c3))
 have z4:=(af X3.out.1 4).trans (rfl:_=some (Value.slice A4 s.f4.length c4))
 clear y0 y1 y2 y3 y4
 have FK3:=Am_ (Kd.jf (mE HF.out (Nat.le_refl _) B3.out) (fun k hk=>(fun h=>by have:=F3.out k h;omega): ∀ k,D k∧k<w.heap.size→ ¬ ok k))
 go_wp2_with (go_at_call 66;refine (zk s _ _ W3.out FK3.out HP.out).mono ?_;rintro e w4 ⟨rfl,ok4,hW4,hM4⟩;have W4:=Am_ hW4;have M4:=Am_ hM4;clear hW4 hM4)
 go_ret
 exact ⟨⟨ok4,p,rfl,W4.out,fun k hk=>(M4.out.fresh k hk).elim (fun h=>F3.out k h) (fun h=>Nat.le_trans B3.out.size h),iW M4.out B3.out F3.out⟩⟩
theorem NC {ok:Nat→Prop} {p:Nat} {x:Ar} (w:World) (h:bT ok p x w):
  Calls Tryz.prog 20 #[.pointer (some ⟨p,0,none⟩)] w fun e w1=>e= .returned (.int .i64 x.used)∧w1=w:=by
 obtain ⟨sv,fv,lv,ρ,h⟩:=h
 have c1:w.cell? ⟨p,3,none⟩=some (.int .i64 x.used):=(af h.box 3).trans rfl
 clear h
 go_enter Tryz.func20,Tryz.ntmps20
 go_wp2_with fail
 go_ret
 exact ⟨rfl,rfl⟩
def xS (l:List (List (Int × Int))):Nat:=(l.map List.length).sum
theorem FR (l:List (List (Int × Int))) (k:Nat) (h:k<l.length):xS (l.take (k+1))=xS (l.take k)+l[k].length:=by
 unfold xS
 rw [List.take_succ_eq_append_getElem h,List.map_append,List.sum_append]
 simp
theorem Nk (l:List (List (Int × Int))): ∀ k,xS (l.take k)≤xS l:=fun k=>by
 have:=congrArg xS (List.take_append_drop k l)
 unfold xS at *
 rw [List.map_append,List.sum_append] at this
 omega
theorem IY {ok:Nat→Prop} {p:Nat} {x:Ep} (w:World) (h:dY ok p x w) (hl:xS x.limbo<1000000) (hn:x.limbo.length<1000000):
  Calls Tryz.prog 21 #[.pointer (some ⟨p,0,none⟩)] w fun e w1=>e= .returned (.int .i64 (xS x.limbo))∧w1=w:=by
 obtain ⟨sv,lv,gv,ρ,h⟩:=h
 obtain ⟨A,c,rfl⟩:=Kd.aW h.row
 rw [List.length_map,List.length_range] at h
 have c2:w.cell? ⟨p,2,none⟩=some (.slice A x.limbo.length c):=(af h.box 2).trans rfl
 have HE:=Am_ h
 have HL:=Am_ hl
 have HN:=Am_ hn
 clear h hl hn
 go_enter Tryz.func21,Tryz.ntmps21
 go_upto_block 0 with fail
 go_wp2_with fail
 go_loopg [3,13] x.limbo.length (fun g v3 v13 wr=> ∃ k:Nat,v3= .int .i64 ((xS (x.limbo.take k):Nat):Int)∧v13= .int .i64 k∧k+g=x.limbo.length∧wr=w)
 case atStart=>exact ⟨0,rfl,rfl,by omega,rfl⟩
 case round=>
  obtain ⟨k,rfl,rfl,hkg,rfl⟩:=hrel
  cases gk with
  | zero=>
   have d1:decide ((k:Int)<(x.limbo.length:Int))=false:=decide_eq_false (by omega)
   have d2:decide (k<x.limbo.length)=false:=decide_eq_false (by omega)
   have HK:=Am_ (show x.limbo.take k=x.limbo from List.take_of_length_le (by omega))
   clear hkg
   rw [HK.out]
   go_wp2_with fail
   go_ret
   exact ⟨rfl,rfl⟩
  | succ g=>
   have hk:k<x.limbo.length:=by omega
   have d1:decide ((k:Int)<(x.limbo.length:Int))=true:=decide_eq_true (by omega)
   have d2:decide (k<x.limbo.length)=true:=decide_eq_true hk
   have b1:(0:Int)≤(k:Int):=by omega
   have b2:(k:Int)<(x.limbo.length:Int):=by omega
   obtain ⟨_,gr,rfl,_,_,hc,_⟩:=HE.out.jA (k:Int) (by omega) (by omega)
   rw [Int.toNat_natCast] at hc
   have hQ:=HE.out.limbo k x.limbo[k] (List.getElem?_eq_getElem hk)
   obtain ⟨A1,c1,hv,_⟩:=Kd.nU hQ
   rw [hv] at hc
   have HW:av (wrap64 (((xS (x.limbo.take k):Nat):Int)+(x.limbo[k].length:Int))=((xS (x.limbo.take (k+1)):Nat):Int)):=⟨by
    have h1:=FR x.limbo k hk
    have h2:=Nk x.limbo (k+1)
    have h3:=HL.out
    unfold wrap64
    omega⟩
   have HW1:av (wrap64 ((k:Int)+1)=((k+1:Nat):Int)):=⟨by have:=HN.out;unfold wrap64;omega⟩
   have HK:=Am_ hkg
   clear hQ hv hkg
   generalize x.limbo[k].length=m at hc HW
   go_wp2_with fail
   go_roundg g
   case rel=>exact ⟨k+1,by rw [←HW.out],by rw [←HW1.out],by have:=HK.out;omega,rfl⟩
   case measure=>omega
theorem pI {α:Type} {f:Nat→Option α} (hm: ∀ k,LeO (f k) (f (k+1))): ∀ {k j:Nat} {r:α},k≤j→f k=some r→f j=some r:=by
 intro k j r hkj h
 induction j with
 | zero=>rw [show k=0 by omega] at h;exact h
 | succ j ih=>
  by_cases hk:k≤j
  ·exact hm j r (ih hk)
  ·rw [show j+1=k by omega];exact h
def qQ (k:Nat) (s:Sh):Prop:=ay.f k s.f0 s.f1 s.f2 s.f3 s.f4=some (mW s:Int)
theorem Fg {l:List Sh} {i:Nat} {k:Sh} (h:l[i]?=some k):aZ l (i:Int)=k:=by
 unfold aZ
 simp [List.getD_eq_getElem?_getD,h]
theorem xR (l:List Sh) (hl:l.length≤60) (k:Nat) (hk: ∀ s∈l,qQ k s): ∀ (n i:Nat) (acc:Nat),i+n=l.length→acc+kV (l.drop i)<1000000→ay.l0 (k+n+1) (acc:Int) l (l.length:Int) (i:Int)=some ((acc+kV (l.drop i):Nat):Int)
 | 0,i,acc,h,hm=>by
  unfold ay.l0
  rw [if_neg (by omega),List.drop_of_length_le (by omega)]
  rfl
 | n+1,i,acc,h,hm=>by
  have hi:i<l.length:=by omega
  have hg:l[i]?=some l[i]:=List.getElem?_eq_getElem hi
  have hd:l.drop i=l[i]::l.drop (i+1):=List.drop_eq_getElem_cons hi
  rw [hd,kV] at hm ⊢
  have h1:qQ (k+n+1) l[i]:=pI (fun j=>ay.mono _ _ _ _ _ j) (by omega) (hk _ (List.getElem_mem hi))
  unfold ay.l0
  rw [if_pos (by omega),if_pos (by omega),if_pos (by omega),Fg hg]
  rw [show ay.f (k+(n+1)) l[i].f0 l[i].f1 l[i].f2 l[i].f3 l[i].f4=some (mW l[i]:Int) from h1]
  rw [Option.bind_some,show wrap64 ((acc:Int)+(mW l[i]:Int))=((acc+mW l[i]:Nat):Int) from by unfold wrap64;omega,show wrap64 ((i:Int)+1)=((i+1:Nat):Int) from by unfold wrap64;omega]
  rw [show k+(n+1)=k+n+1 from rfl,xR l hl k hk n (i+1) (acc+mW l[i]) (by omega) (by omega)]
  rw [Nat.add_assoc]
theorem Np: ∀ (d:Nat) (s:Sh),jI s≤d→rA s→mW s<1000000→qQ (62*(d+1)) s:=by
 intro d
 induction d with
 | zero=>
  intro s hd hs hm
  have hk:s.f4= []:=by
   rw [iq] at hd
   cases h:s.f4 with
   | nil=>rfl
   | cons k r=>rw [h,iV] at hd;omega
  unfold qQ ay.f
  rw [mP,hk]
  unfold ay.l0
  rfl
 | succ d ih=>
  intro s hd hs hm
  rw [iq] at hd
  rw [jT] at hs
  rw [mP] at hm
  have hall: ∀ (l:List Sh),iV l≤d+1→lQ l→kV l<1000000→ ∀ q∈l,qQ (62*(d+1)) q:=by
   intro l
   induction l with
   | nil=>intro _ _ _ q hq;cases hq
   | cons k r ihr=>
    intro h1 h2 h3 q hq
    rw [iV] at h1
    rw [lQ] at h2
    rw [kV] at h3
    rcases List.mem_cons.1 hq with rfl | hq
    ·exact ih _ (by omega) h2.1 (by omega)
    ·exact ihr (by omega) h2.2 (by omega) q hq
  have h1:=xR s.f4 hs.2.2.1 (62*(d+1)) (hall s.f4 (by omega) hs.2.2.2 (by omega)) s.f4.length 0 1 (by omega) (by rw [List.drop_zero];omega)
  rw [List.drop_zero] at h1
  have h2:qQ (62*(d+1)+s.f4.length+2) s:=by
   unfold qQ
   rw [mP]
   show ay.f (62*(d+1)+s.f4.length+1+1) _ _ _ _ _=_
   unfold ay.f
   exact h1
  exact pI (fun j=>ay.mono _ _ _ _ _ j) (by have:=hs.2.2.1;omega) h2
theorem tH {w0 w:World} (h:Below w0.heap.size w0 w) {g:Nat} (hg:w0.heap.size≤g) (o:Nat) (seg:List Value):Below w0.heap.size w0 (w.setCells g o seg):=
 let m:=jd (ok:=fun _=>False) (ok1:=fun _=>False) (Moves.bV _ h) (g:=g) (.inr hg) o seg
 ⟨m.os,m.tape,m.output,m.size,fun k hk=>m.block k hk (fun h=>h)⟩
theorem Si:Tryz.prog.info? 2=some ((Tryz.prog.info? 2).get (by kernel_rfl)):=by kernel_rfl
theorem add_block (a:Addr) (k:Nat):(a.add k).block=a.block:=by unfold Addr.add;split<;>rfl
theorem qx {P:Program} {fn:Func} {p q r:Tmp} {ty tz:TypeId} (h:fn.results= #[.cell p ty,.cell q tz,.tmp r]) (tmps:Array Value) (w:World) (g1:Nat) (t1:TypeId) (cs1:Array Value) (fr1:Nat × Nat) (d1:TypeDesc) (g2:Nat) (t2:TypeId) (cs2:Array Value) (fr2:Nat × Nat) (d2:TypeDesc) (v:Value)
  (hp:tmps.getD p undef= .pointer (some ⟨g1,0,none⟩)) (hg1:w.heap[g1]?=some (.cells cs1 t1 fr1)) (hu1:P.underlying ty=some d1) (hd1:(match d1 with | .struct _ | .array _ _=>true | _=>false)=true) (hi1:(P.info? ty).map (·.size)=some cs1.size)
  (hq:tmps.getD q undef= .pointer (some ⟨g2,0,none⟩)) (hg2:w.heap[g2]?=some (.cells cs2 t2 fr2)) (hu2:P.underlying tz=some d2) (hd2:(match d2 with | .struct _ | .array _ _=>true | _=>false)=true) (hi2:(P.info? tz).map (·.size)=some cs2.size) (hr:tmps.getD r undef=v):
  (results fn tmps).run P w= .ok (.tuple #[.agg cs1,.agg cs2,v]) w:=by
 have hp':tmps[p]?.getD undef= .pointer (some ⟨g1,0,none⟩):=by simpa using hp
 have hq':tmps[q]?.getD undef= .pointer (some ⟨g2,0,none⟩):=by simpa using hq
 have hr':tmps[r]?.getD undef=v:=by simpa using hr
 simp [results,h,hp',hq',hr',asAddr,run_loadVar_row w g1 t1 ty cs1 fr1 d1 hg1 hu1 hd1 hi1,run_loadVar_row w g2 t2 tz cs2 fr2 d2 hg2 hu2 hd2 hi2]
structure IX (b1 b2 b3:Nat) (ak:Addr) (ck:Nat) (kn:List Int) (Aw:Option Addr) (cw:Nat) (wn:List Int) (km:Nat) (kk:Int) (w0 w:World):Prop where
 x1:w.heap[b1]?=some (.cells #[.slice (some ak) kn.length ck,.slice Aw wn.length cw] 155 (0,0))
 x2:w.heap[b2]?=some (.cells #[.slice none 0 0,.slice none 0 0] 155 (0,0))
 x3:w.heap[b3]?=some (.cells #[.slice none 0 0,.slice none 0 0] 155 (0,0))
 ord:w0.heap.size≤b1∧b1<b2∧b2<b3
 rk:(Kd.int .i64).C w (some ak) kn.length kn
 rw_:(Kd.int .i64).C w Aw wn.length wn
 ck:kn.length≤ck
 cw:wn.length≤cw
 akb:ak.block<b1
 key:w.cell? (ak.add km)=some (.int .i64 kk)
 below:Below w0.heap.size w0 w
section
variable {b1 b2 b3:Nat} {ak:Addr} {ck:Nat} {kn:List Int} {Aw:Option Addr} {cw:Nat} {wn:List Int} {km:Nat} {kk:Int} {w0 w w2:World}
theorem IX.next (h:IX b1 b2 b3 ak ck kn Aw cw wn km kk w0 w) (hb:Below w.heap.size w w2):IX b1 b2 b3 ak ck kn Aw cw wn km kk w0 w2:=
 ⟨(hb.block _ (bH h.x1)).trans h.x1,(hb.block _ (bH h.x2)).trans h.x2,(hb.block _ (bH h.x3)).trans h.x3,h.ord,Kd.bE h.rk hb,Kd.bE h.rw_ hb,h.ck,h.cw,h.akb,(hb.cell (p:=ak.add km) (Kz h.key)).trans h.key,aU h.below h.below.size hb⟩
theorem IX.held (h:IX b1 b2 b3 ak ck kn Aw cw wn km kk w0 w):w.cell? ⟨b1,0,none⟩=some (.slice (some ak) kn.length ck)∧w.cell? ⟨b1,1,none⟩=some (.slice Aw wn.length cw)∧w.cell? (ak.add km)=some (.int .i64 kk):=⟨(af h.x1 0).trans rfl,(af h.x1 1).trans rfl,h.key⟩
theorem IX.far (h:IX b1 b2 b3 ak ck kn Aw cw wn km kk w0 w) (g:Nat) (hg:b1<g) (l:List Value):(w.setCells g 0 l).cell? ⟨b1,0,none⟩=some (.slice (some ak) kn.length ck)∧(w.setCells g 0 l).cell? ⟨b1,1,none⟩=some (.slice Aw wn.length cw)∧(w.setCells g 0 l).cell? (ak.add km)=some (.int .i64 kk):=by
 have h1:=h.held
 have e1:(w.setCells g 0 l).heap[b1]?=w.heap[b1]?:=bq l 0 b1 (by omega)
 have e2:(w.setCells g 0 l).heap[(ak.add km).block]?=w.heap[(ak.add km).block]?:=bq l 0 _ (by have:=h.akb;rw [add_block];omega)
 exact ⟨(World.cell?_of_block (a:=⟨b1,0,none⟩) e1).trans h1.1,(World.cell?_of_block (a:=⟨b1,1,none⟩) e1).trans h1.2.1,(World.cell?_of_block (a:=ak.add km) e2).trans h1.2.2⟩
theorem IX.Qz (h:IX b1 b2 b3 ak ck kn Aw cw wn km kk w0 w) {l:List Value}:(w.setCells b2 0 l).cell? ⟨b1,0,none⟩=some (.slice (some ak) kn.length ck)∧(w.setCells b2 0 l).cell? ⟨b1,1,none⟩=some (.slice Aw wn.length cw)∧(w.setCells b2 0 l).cell? (ak.add km)=some (.int .i64 kk):=h.far b2 (by have:=h.ord;omega) l
theorem IX.Pn (h:IX b1 b2 b3 ak ck kn Aw cw wn km kk w0 w) {l l2:List Value}:((w.setCells b2 0 l).setCells b3 0 l2).cell? ⟨b1,0,none⟩=some (.slice (some ak) kn.length ck)∧((w.setCells b2 0 l).setCells b3 0 l2).cell? ⟨b1,1,none⟩=some (.slice Aw wn.length cw)∧((w.setCells b2 0 l).setCells b3 0 l2).cell? (ak.add km)=some (.int .i64 kk):=by
 have h1:=h.far b2 (by have:=h.ord;omega) l
 have e1:((w.setCells b2 0 l).setCells b3 0 l2).heap[b1]?=(w.setCells b2 0 l).heap[b1]?:=bq l2 0 b1 (by have:=h.ord;omega)
 have e2:((w.setCells b2 0 l).setCells b3 0 l2).heap[(ak.add km).block]?=(w.setCells b2 0 l).heap[(ak.add km).block]?:=bq l2 0 _ (by have:=h.akb;have:=h.ord;rw [add_block];omega)
 exact ⟨(World.cell?_of_block (a:=⟨b1,0,none⟩) e1).trans h1.1,(World.cell?_of_block (a:=⟨b1,1,none⟩) e1).trans h1.2.1,(World.cell?_of_block (a:=ak.add km) e2).trans h1.2.2⟩
theorem IX.ne (h:IX b1 b2 b3 ak ck kn Aw cw wn km kk w0 w):b3≠b2:=by have:=h.ord;omega
theorem IX.row {e:Nat} {v:Value} {xs:List Int} (h:IX b1 b2 b3 ak ck kn Aw cw wn km kk w0 w) (hr:(Kd.int .i64).R e w2 w.heap.size (fun q=>w.heap.size≤q) v xs):(Kd.int .i64).R e w2 w0.heap.size (fun q=>b3<q) v xs:=
 Kd.bC (Kd.eF hr h.below.size) (fun q hq=>by have:=bH h.x3;omega)
end
def Pj:Bool × List (List Nat × List Nat):=(true,[([],[]),([0],[0]),([],[]),([1,2],[1,2]),([3],[3]),([],[]),([5],[5]),([],[]),([6,7],[6,7]),([8],[8]),([],[]),([10],[10]),([],[]),([11,12],[11,12]),([13],[13]),([14],[14]),([4,0,1,2,3,4],[4]),([9,16,0,1,2,3,4,5,6,7,8,9,16],[9]),([15,17,0,1,2,3,4,5,6,7,8,9,10,11,12,13,14,15,16,17],[15])])
def Ra:List Nat:= [0,1,0,7,15,0,32,0,224,480,0,1024,0,7168,15360,31744,31,66559,262143]
theorem ND:gJ .any (opsOf Tryz.f17 3)=Pj:=by kernel_rfl
theorem IZ:bI Pj.2 Ra=true:=by kernel_rfl
structure SX (b1 b2 b3:Nat) (ad:Addr) (len n c:Nat) (kk:Int) (B1:Obj) (w0 w:World):Prop where
 x1:w.heap[b1]?=some B1
 c1:w.cell? ⟨b1,2,none⟩=some (.slice (some ad) len c)
 x2:w.heap[b2]?=some (.cells #[.bool false,.bool false,.slice none 0 0,.slice none 0 0,.slice none 0 0] 30 (0,0))
 x3:w.heap[b3]?=some (.cells #[.bool false,.bool false,.slice none 0 0,.slice none 0 0,.slice none 0 0] 30 (0,0))
 ord:w0.heap.size≤b1∧b1<b2∧b2<b3
 adb:ad.block<b1
 key:w.cell? (ad.add (n*2))=some (.int .i64 kk)
 below:Below w0.heap.size w0 w
section
variable {b1 b2 b3:Nat} {ad:Addr} {len n c:Nat} {kk:Int} {B1:Obj} {w0 w w2:World}
theorem SX.next (h:SX b1 b2 b3 ad len n c kk B1 w0 w) (hb:Below w.heap.size w w2):SX b1 b2 b3 ad len n c kk B1 w0 w2:=
 ⟨(hb.block _ (bH h.x1)).trans h.x1,aD hb h.c1,(hb.block _ (bH h.x2)).trans h.x2,(hb.block _ (bH h.x3)).trans h.x3,h.ord,h.adb,aD hb h.key,aU h.below h.below.size hb⟩
theorem SX.held (h:SX b1 b2 b3 ad len n c kk B1 w0 w):w.cell? ⟨b1,2,none⟩=some (.slice (some ad) len c)∧w.cell? (ad.add (n*2))=some (.int .i64 kk):=⟨h.c1,h.key⟩
theorem SX.far (h:SX b1 b2 b3 ad len n c kk B1 w0 w) (g:Nat) (hg:b1<g) (l:List Value):(w.setCells g 0 l).cell? ⟨b1,2,none⟩=some (.slice (some ad) len c)∧(w.setCells g 0 l).cell? (ad.add (n*2))=some (.int .i64 kk):=by
 have e1:(w.setCells g 0 l).heap[b1]?=w.heap[b1]?:=bq l 0 b1 (by omega)
 have e2:(w.setCells g 0 l).heap[(ad.add (n*2)).block]?=w.heap[(ad.add (n*2)).block]?:=bq l 0 _ (by have:=h.adb;rw [add_block];omega)
 exact ⟨(World.cell?_of_block (a:=⟨b1,2,none⟩) e1).trans h.c1,(World.cell?_of_block (a:=ad.add (n*2)) e2).trans h.key⟩
theorem SX.Qz (h:SX b1 b2 b3 ad len n c kk B1 w0 w) {l:List Value}:(w.setCells b2 0 l).cell? ⟨b1,2,none⟩=some (.slice (some ad) len c)∧(w.setCells b2 0 l).cell? (ad.add (n*2))=some (.int .i64 kk):=h.far b2 (by have:=h.ord;omega) l
theorem SX.Pn (h:SX b1 b2 b3 ad len n c kk B1 w0 w) {l l2:List Value}:((w.setCells b2 0 l).setCells b3 0 l2).cell? ⟨b1,2,none⟩=some (.slice (some ad) len c)∧((w.setCells b2 0 l).setCells b3 0 l2).cell? (ad.add (n*2))=some (.int .i64 kk):=by
 have h1:=h.far b2 (by have:=h.ord;omega) l
 have e1:((w.setCells b2 0 l).setCells b3 0 l2).heap[b1]?=(w.setCells b2 0 l).heap[b1]?:=bq l2 0 b1 (by have:=h.ord;omega)
 have e2:((w.setCells b2 0 l).setCells b3 0 l2).heap[(ad.add (n*2)).block]?=(w.setCells b2 0 l).heap[(ad.add (n*2)).block]?:=bq l2 0 _ (by have:=h.adb;have:=h.ord;rw [add_block];omega)
 exact ⟨(World.cell?_of_block (a:=⟨b1,2,none⟩) e1).trans h1.1,(World.cell?_of_block (a:=ad.add (n*2)) e2).trans h1.2⟩
theorem SX.ne (h:SX b1 b2 b3 ad len n c kk B1 w0 w):b3≠b2:=by have:=h.ord;omega
end
theorem wW (ad:Addr) (xs:List Pr2) (c:Nat) (w:World) (hr:kP.C w (some ad) xs.length xs) (hc:xs.length≤c) (hl:xs.length<1000000) (h0:2≤xs.length):
  Calls Tryz.prog 17 #[.agg #[.bool true,.bool false,.slice (some ad) xs.length c,.slice none 0 0,.slice none 0 0]] w fun e w1=>e= .returned (.tuple #[.agg #[.bool true,.bool false,.slice (some ad) (xs.length / 2) c,.slice none 0 0,.slice none 0 0],.agg #[.bool true,.bool false,.slice (some (ad.add (xs.length / 2*2))) (xs.length - xs.length / 2) (c - xs.length / 2),.slice none 0 0,.slice none 0 0],.int .i64 (aJ xs ((xs.length / 2:Nat):Int)).f0])∧Below w.heap.size w w1:=by
 have hq0:(xs.length:Int) / 2=((xs.length / 2:Nat):Int):=by omega
 have hk0:1≤xs.length / 2∧xs.length / 2<xs.length:=by omega
 generalize xs.length / 2=n at hq0 hk0 ⊢
 obtain ⟨ad2,e1,k1,k2⟩:=kr hr (n:Int) (by omega) (by omega)
 injection e1 with e1
 subst e1
 rw [Int.toNat_natCast] at k1
 generalize (aJ xs (n:Int)).f0=kk at k1 ⊢
 have hct:=BP 26 121 .i64 Tryz.underlying26 QG (some ad) xs.length c (n:Int) (by omega) (by omega) hc
 have hcf:=jX 26 121 .i64 Tryz.underlying26 QG 2 rfl (some ad) xs.length c (n:Int) (by omega) (by omega)
 rw [Int.toNat_natCast] at hct hcf
 rw [if_neg (by omega)] at hcf
 simp only [Option.map_some] at hcf
 obtain ⟨B1,hB1⟩: ∃ B1:Obj,B1= .cells #[.bool true,.bool false,.slice (some ad) xs.length c,.slice none 0 0,.slice none 0 0] 30 (0,0):=⟨_,rfl⟩
 have b1':=ai (Below.refl w.heap.size w) (.cells #[.bool true,.bool false,.slice (some ad) xs.length c,.slice none 0 0,.slice none 0 0] 30)
 have b2':=ai b1' (.cells #[.bool false,.bool false,.slice none 0 0,.slice none 0 0,.slice none 0 0] 30)
 have b3':=ai b2' (.cells #[.bool false,.bool false,.slice none 0 0,.slice none 0 0,.slice none 0 0] 30)
 have HX:av (SX w.heap.size (w.heap.size+1) (w.heap.size+1+1) ad xs.length n c kk B1 w (((w.alloc (.cells #[.bool true,.bool false,.slice (some ad) xs.length c,.slice none 0 0,.slice none 0 0] 30)).alloc (.cells #[.bool false,.bool false,.slice none 0 0,.slice none 0 0,.slice none 0 0] 30)).alloc (.cells #[.bool false,.bool false,.slice none 0 0,.slice none 0 0,.slice none 0 0] 30))):=⟨by
  have e1:=bU w (.cells #[.bool true,.bool false,.slice (some ad) xs.length c,.slice none 0 0,.slice none 0 0] 30)
  have e2:=bU (w.alloc (.cells #[.bool true,.bool false,.slice (some ad) xs.length c,.slice none 0 0,.slice none 0 0] 30)) (.cells #[.bool false,.bool false,.slice none 0 0,.slice none 0 0,.slice none 0 0] 30)
  have e3:=bU ((w.alloc (.cells #[.bool true,.bool false,.slice (some ad) xs.length c,.slice none 0 0,.slice none 0 0] 30)).alloc (.cells #[.bool false,.bool false,.slice none 0 0,.slice none 0 0,.slice none 0 0] 30)) (.cells #[.bool false,.bool false,.slice none 0 0,.slice none 0 0,.slice none 0 0] 30)
  simp only [World.size_alloc] at e2 e3
  have e4:=aK (aK e1 (.cells #[.bool false,.bool false,.slice none 0 0,.slice none 0 0,.slice none 0 0] 30)) (.cells #[.bool false,.bool false,.slice none 0 0,.slice none 0 0,.slice none 0 0] 30)
  rw [hB1]
  exact ⟨e4,(af e4 2).trans rfl,aK e2 _,e3,⟨Nat.le_refl _,by omega,by omega⟩,(by have:=Kz k1;rwa [add_block] at this),aD b3' k1,b3'⟩⟩
 have HBX:av (((w.alloc (.cells #[.bool true,.bool false,.slice (some ad) xs.length c,.slice none 0 0,.slice none 0 0] 30)).alloc (.cells #[.bool false,.bool false,.slice none 0 0,.slice none 0 0,.slice none 0 0] 30)).alloc (.cells #[.bool false,.bool false,.slice none 0 0,.slice none 0 0,.slice none 0 0] 30) |>.heap[w.heap.size]?=some B1):=⟨HX.out.x1⟩
 have HB1:=Am_ hB1
 have HSZ:=Am_ (And.intro (Kd.bE hr b3') hc)
 have hq:=hq0
 have hb0:(0:Int)≤(xs.length:Int):=by omega
 have hb1:(xs.length:Int)<1000000:=by omega
 have hx0:(0:Int)≤(n:Int):=by omega
 have hx1:(n:Int)<(xs.length:Int):=by omega
 have hx2:(n:Int)≤(xs.length:Int):=by omega
 clear hr hc hl h0 hq0 hk0 k1 k2 hB1 b1' b2' b3' HBX
 go_enter Tryz.func17,Tryz.ntmps17
 go_upto_region 1 with fail
 generalize ((w.alloc (.cells #[.bool true,.bool false,.slice (some ad) xs.length c,.slice none 0 0,.slice none 0 0] 30)).alloc (.cells #[.bool false,.bool false,.slice none 0 0,.slice none 0 0,.slice none 0 0] 30)).alloc (.cells #[.bool false,.bool false,.slice none 0 0,.slice none 0 0,.slice none 0 0] 30)=w1 at HX HSZ ⊢
 generalize w.heap.size=b1 at HX ⊢
 generalize b1+1=b2 at HX ⊢
 generalize b2+1=b3 at HX ⊢
 have hx1b:=HX.out.x1
 rw [HB1.out] at hx1b
 have c0:=(af hx1b 0).trans (rfl:_=some (Value.bool true))
 have c1:=(af hx1b 1).trans (rfl:_=some (Value.bool false))
 have c2:=(af hx1b 2).trans (rfl:_=some (Value.slice (some ad) xs.length c))
 have c3:=(af hx1b 3).trans (rfl:_=some (Value.slice none 0 0))
 have c4:=(af hx1b 4).trans (rfl:_=some (Value.slice none 0 0))
 clear hx1b
 go_upto_region 2 with (go_at_call 72;refine (gD.calls true false (some ad) c xs none 0 [] none 0 [] (xs.length:Int) w1 HSZ.out.1 HSZ.out.2 (Kd.Nz _ _) (Nat.le_refl _) (Kd.Nz _ _) (Nat.le_refl _) rfl).mono ?_;rintro e w2 ⟨rfl,hb2⟩;have HX:=Am_ (HX.out.next hb2);have c0:=aD hb2 c0;clear hb2 c1 c2 c3 c4)
 go_upto_region 3 with fail
 clear c0
 have HC:=Am_ (SX.held (SX.next HX.out (cZ (Below.refl _ _))))
 refine bK (n:=19) (S:=fun w'=>w'.cell? ⟨b1,2,none⟩=some (.slice (some ad) xs.length c)∧w'.cell? (ad.add (n*2))=some (.int .i64 kk)) (ds:= []) (by kernel_rfl) rfl ND IZ HC.out (fun hHeld HT_ HW_=>?_)
 have HX:=Am_ (HX.out.next (cZ (Below.refl _ _)))
 clear HC
 generalize w2.drew=w3 at HX hHeld ⊢
 refine gy [(0,some 11),(1,some 12),(2,some 13),(3,some 14),(4,some 15),(5,some 16),(6,some 17),(7,some 18),(8,some 19),(9,some 20),(10,some 21),(11,some 22),(12,some 23),(13,some 24),(14,some 25),(15,some 26)] ?_
 (refine gG (v:=?_) (a':=?_) HT_ (by kernel_rfl) rfl rfl (fun _ _ _ h=>h) (Or.inl ⟨by rfl,?_⟩) ?_ ?_;rotate_left;(intro w';go_simp;with_reducible rfl);rotate_left;(simp only [Act.put,p1_,p2_,p3_,aG,aH];rfl))
 iterate 15 (refine jW (v:=?_) (a':=?_) HT_ HW_ (by kernel_rfl) rfl rfl (fun _ _ _ h=>h) hHeld (Or.inl ⟨by rfl,?_⟩) ?_ ?_;rotate_left;(rintro w' ⟨s0,s1⟩;go_simp;with_reducible rfl);rotate_left;(simp only [Act.put,p1_,p2_,p3_,aG,aH];rfl))
 refine bG ?_
 refine dI (i:=16) none HT_ (by kernel_rfl) rfl rfl (by decide) (fun K_ hK=>?_)
 refine iJ (w1:=w3.setCells b2 0 [.bool true,.bool false,.slice (some ad) n c,.slice none 0 0,.slice none 0 0]) (by rfl) rfl ?h16 ?_
 (case h16=>exact fV _ [.bool true,.bool false,.slice (some ad) n c,.slice none 0 0,.slice none 0 0] rfl (by rfl) (by rfl) HX.out.x2 rfl (by kernel_rfl) (by simp) (by intro u hu;simp only [List.mem_cons,List.not_mem_nil,or_false] at hu;rcases hu with rfl | rfl | rfl | rfl | rfl<;>rfl))
 refine hK.out _ _ HX.out.Qz (fun hHeld=>?_)
 clear hK K_
 have HY:=Am_ (And.intro (gq (seg:= [.bool true,.bool false,.slice (some ad) n c,.slice none 0 0,.slice none 0 0]) HX.out.x2 rfl) ((bq [.bool true,.bool false,.slice (some ad) n c,.slice none 0 0,.slice none 0 0] 0 b3 HX.out.ne).trans HX.out.x3))
 refine dI (i:=17) none HT_ (by kernel_rfl) rfl rfl (by decide) (fun K_ hK=>?_)
 refine iJ (w1:=(w3.setCells b2 0 [.bool true,.bool false,.slice (some ad) n c,.slice none 0 0,.slice none 0 0]).setCells b3 0 [.bool true,.bool false,.slice (some (ad.add (n*2))) (xs.length - n) (c - n),.slice none 0 0,.slice none 0 0]) (by rfl) rfl ?h17 ?_
 (case h17=>exact fV _ [.bool true,.bool false,.slice (some (ad.add (n*2))) (xs.length - n) (c - n),.slice none 0 0,.slice none 0 0] rfl (by rfl) (by rfl) HY.out.2 rfl (by kernel_rfl) (by simp) (by intro u hu;simp only [List.mem_cons,List.not_mem_nil,or_false] at hu;rcases hu with rfl | rfl | rfl | rfl | rfl<;>rfl))
 refine hK.out _ _ HX.out.Pn (fun hHeld=>?_)
 clear hK K_
 refine gy [(18,some 4)] ?_
 (refine gG (v:=?_) (a':=?_) HT_ (by kernel_rfl) rfl rfl (fun _ _ _ h=>h) (Or.inl ⟨by rfl,?_⟩) ?_ ?_;rotate_left;(intro w';go_simp;with_reducible rfl);rotate_left;(simp only [Act.put,p1_,p2_,p3_,aG,aH];rfl))
 refine bG ?_
 refine dR (bM HT_.out (by kernel_rfl)) ?_
 have HZ:=Am_ (And.intro ((bq [.bool true,.bool false,.slice (some (ad.add (n*2))) (xs.length - n) (c - n),.slice none 0 0,.slice none 0 0] 0 b2 (fun e=>HX.out.ne e.symm)).trans HY.out.1) (gq (seg:= [.bool true,.bool false,.slice (some (ad.add (n*2))) (xs.length - n) (c - n),.slice none 0 0,.slice none 0 0]) HY.out.2 rfl))
 have HBB:=Am_ (tH (tH HX.out.below (g:=b2) (by have:=HX.out.ord;omega) 0 [.bool true,.bool false,.slice (some ad) n c,.slice none 0 0,.slice none 0 0]) (g:=b3) (by have:=HX.out.ord;omega) 0 [.bool true,.bool false,.slice (some (ad.add (n*2))) (xs.length - n) (c - n),.slice none 0 0,.slice none 0 0])
 clear HY HX hHeld
 generalize (w3.setCells b2 0 [.bool true,.bool false,.slice (some ad) n c,.slice none 0 0,.slice none 0 0]).setCells b3 0 [.bool true,.bool false,.slice (some (ad.add (n*2))) (xs.length - n) (c - n),.slice none 0 0,.slice none 0 0]=w7 at HZ HBB ⊢
 go_wp2_with fail
 (try simp only [Exit.inBlock,Exit.then])
 refine bodyPost_ret (qx rfl _ _ b2 30 _ (0,0) _ b3 30 _ (0,0) _ _ rfl HZ.out.1 Tryz.underlying30 rfl (by kernel_rfl) rfl HZ.out.2 Tryz.underlying30 rfl (by kernel_rfl) rfl) rfl ?_
 exact ⟨rfl,HBB.out⟩
end Go.Proofs.YtmnjjdeaccgjlaaGreat.Tower
