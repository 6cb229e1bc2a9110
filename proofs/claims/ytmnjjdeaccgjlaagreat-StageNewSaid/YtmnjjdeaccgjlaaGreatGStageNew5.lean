/- Words and contracts that the claim stands on, part 6 of 7. -/
import Derived.Test.YtmnjjdeaccgjlaaGreatGStageNew0
import Derived.Test.YtmnjjdeaccgjlaaGreatGStageNew1
import Derived.Test.YtmnjjdeaccgjlaaGreatGStageNew2
import Derived.Test.YtmnjjdeaccgjlaaGreatGStageNew3
import Derived.Test.YtmnjjdeaccgjlaaGreatGStageNew4
set_option linter.unusedSimpArgs false
set_option linter.unusedVariables false
set_option maxHeartbeats 4000000
set_option maxRecDepth 100000
namespace Go.Proofs.YtmnjjdeaccgjlaaGreat.Tower
open Go Go.RowKit Go.Proofs.YtmnjjdeaccgjlaaGreatW.PrintWords Go.Proofs.YtmnjjdeaccgjlaaGreatW.PrintLast Go.Proofs.YtmnjjdeaccgjlaaGreatW.PrintMore Go.Proofs.YtmnjjdeaccgjlaaGreat.Own
def FQ:Bool × List (List Nat × List Nat):=(true,[([],[]),([0],[0]),([1],[1]),([2],[2]),([3],[3]),([],[]),([4,5],[4,5]),([6,6,0,1,2,3,4,5,6],[6])])
def JV:List Nat:= [0,1,3,7,15,0,63,127]
theorem ES:fq .any (opsOf Tryz.f238 1)=FQ:=by kernel_rfl
theorem zS:bA FQ.2 JV=true:=by kernel_rfl
theorem ul (p:Nat) (x:Ws) (r:Int) (w:World) (okS:Nat→Prop) (bt bx:Nat) (h:shW p x okS w) (g0:w.cell? ⟨bt,1,none⟩=some (.pointer (some ⟨p,0,none⟩))) (g2:w.cell? ⟨bx,0,none⟩=some (.int .i64 r)):
  Calls Tryz.prog 238 #[.pointer (some ⟨bt,0,none⟩),.pointer (some ⟨bx,0,none⟩)] w fun e w2=> ∃ okS1,e= .returned (.int .i64 (x.ar.info r).1)∧shW p { x with ar:=(x.ar.info r).2 } okS1 w2∧Moves okS okS1 w w2:=by
 obtain ⟨⟨okA,okR,okE,pA,pR,pE,h⟩,hg⟩:=h
 have HW:=Am_ h
 have HG:=Am_ hg
 have hp:=(af h.box 0).trans (rfl:_=some (Value.pointer (some ⟨pA,0,none⟩)))
 have HC:=Am_ (And.intro g0 (And.intro hp g2))
 clear h hg hp g0 g2
 go_enter Tryz.func238,Tryz.ntmps238
 go_upto_region 1 with fail
 refine bG (n:=8) (S:=fun w'=>w'.cell? ⟨bt,1,none⟩=some (.pointer (some ⟨p,0,none⟩))∧w'.cell? ⟨p,0,none⟩=some (.pointer (some ⟨pA,0,none⟩))∧w'.cell? ⟨bx,0,none⟩=some (.int .i64 r)) (ds:= [6]) (by kernel_rfl) rfl ES zS HC.out (fun hHeld HT_ HW_=>?_)
 have HW:=Am_ (HW.out.step (w1:=w.drew) (Nat.le_refl _) (fun _ _ _=>rfl))
 have HM:=Am_ ((Moves.refl okS w).drew)
 clear HC
 generalize World.drew _=w1 at HW HM hHeld ⊢
 refine eO [(0,some 3),(1,some 4),(2,some 5),(3,some 6),(4,some 7),(5,some 8)] ?_
 (refine dZ (v:=?_) (a':=?_) HT_ (by kernel_rfl) rfl rfl (fun _ _ _ h=>h) (Or.inl ⟨by rfl,?_⟩) ?_ ?_;rotate_left;(intro w';go_simp;with_reducible rfl);rotate_left;(simp only [Act.put,p1_,p2_,p3_,ax,ay];rfl))
 iterate 5 (refine iW (v:=?_) (a':=?_) HT_ HW_ (by kernel_rfl) rfl rfl (fun _ _ _ h=>h) hHeld (Or.inl ⟨by rfl,?_⟩) ?_ ?_;rotate_left;(rintro w' ⟨s0,s1,s2⟩;go_simp;with_reducible rfl);rotate_left;(simp only [Act.put,p1_,p2_,p3_,ax,ay];rfl))
 refine aZ ?_
 refine bP (i:=6) (some 9) HT_ (by kernel_rfl) rfl rfl (by decide) (fun K_ hK=>?_)
 refine call_ 212 #[.pointer (some ⟨pA,0,none⟩),.int .i64 r] (by rfl) rfl ?hrun6 ?_
 (case hrun6=>first | (go_simp;done) | (go_simp;exact enters Tryz.func212 (by kernel_rfl) rfl _ _))
 refine (pq r _ HW.out.ar HG.out.ar.fits.slots).mono ?_
 rintro e w2 ⟨rfl,hA,hM⟩
 have X2:=Am_ hA
 have M2:=Am_ hM
 clear hA hM
 refine ⟨_,rfl,?_⟩
 refine hK.out _ _ ?_
 clear hK K_
 refine bK (a':=?_) ?_ ?_
 rotate_left; · show Act.put _ (some 9) _=_;simp only [Act.put,p1_,p2_,p3_,ax,ay];rfl
 refine eO [(7,some 2)] ?_
 (refine dZ (v:=?_) (a':=?_) HT_ (by kernel_rfl) rfl rfl (fun _ _ _ h=>h) (Or.inl ⟨by rfl,?_⟩) ?_ ?_;rotate_left;(intro w';go_simp;with_reducible rfl);rotate_left;(simp only [Act.put,p1_,p2_,p3_,ax,ay];rfl))
 refine aZ ?_
 refine dD (bI HT_.out (by kernel_rfl)) ?_
 go_wp2_with fail
 go_ret
 exact ⟨_,rfl,⟨⟨_,_,_,_,_,_,(HW.out.cK X2.out M2.out).1⟩,⟨HG.out.ar.info r,HG.out.ep,HG.out.tb⟩⟩,HM.out.trans (HW.out.cK X2.out M2.out).2⟩
def FT:Bool × List (List Nat × List Nat):=(true,[([],[]),([0],[0]),([1],[1]),([2],[2]),([3],[3]),([],[]),([4,5],[4,5]),([6,6,0,1,2,3,4,5,6],[6])])
def JX:List Nat:= [0,1,3,7,15,0,63,127]
theorem EU:fq .any (opsOf Tryz.f236 1)=FT:=by kernel_rfl
theorem zU:bA FT.2 JX=true:=by kernel_rfl
theorem uG (p:Nat) (x:Ws) (r:Int) (w:World) (okS:Nat→Prop) (bt bx:Nat) (h:shW p x okS w) (g0:w.cell? ⟨bt,1,none⟩=some (.pointer (some ⟨p,0,none⟩))) (g2:w.cell? ⟨bx,0,none⟩=some (.int .i64 r)):
  Calls Tryz.prog 236 #[.pointer (some ⟨bt,0,none⟩),.pointer (some ⟨bx,0,none⟩)] w fun e w2=> ∃ okS1,e= .returned (.bool (x.ar.mark r).1)∧shW p { x with ar:=(x.ar.mark r).2 } okS1 w2∧Moves okS okS1 w w2:=by
 obtain ⟨⟨okA,okR,okE,pA,pR,pE,h⟩,hg⟩:=h
 have HW:=Am_ h
 have HG:=Am_ hg
 have hp:=(af h.box 0).trans (rfl:_=some (Value.pointer (some ⟨pA,0,none⟩)))
 have HC:=Am_ (And.intro g0 (And.intro hp g2))
 clear h hg hp g0 g2
 go_enter Tryz.func236,Tryz.ntmps236
 go_upto_region 1 with fail
 refine bG (n:=8) (S:=fun w'=>w'.cell? ⟨bt,1,none⟩=some (.pointer (some ⟨p,0,none⟩))∧w'.cell? ⟨p,0,none⟩=some (.pointer (some ⟨pA,0,none⟩))∧w'.cell? ⟨bx,0,none⟩=some (.int .i64 r)) (ds:= [6]) (by kernel_rfl) rfl EU zU HC.out (fun hHeld HT_ HW_=>?_)
 have HW:=Am_ (HW.out.step (w1:=w.drew) (Nat.le_refl _) (fun _ _ _=>rfl))
 have HM:=Am_ ((Moves.refl okS w).drew)
 clear HC
 generalize World.drew _=w1 at HW HM hHeld ⊢
 refine eO [(0,some 3),(1,some 4),(2,some 5),(3,some 6),(4,some 7),(5,some 8)] ?_
 (refine dZ (v:=?_) (a':=?_) HT_ (by kernel_rfl) rfl rfl (fun _ _ _ h=>h) (Or.inl ⟨by rfl,?_⟩) ?_ ?_;rotate_left;(intro w';go_simp;with_reducible rfl);rotate_left;(simp only [Act.put,p1_,p2_,p3_,ax,ay];rfl))
 iterate 5 (refine iW (v:=?_) (a':=?_) HT_ HW_ (by kernel_rfl) rfl rfl (fun _ _ _ h=>h) hHeld (Or.inl ⟨by rfl,?_⟩) ?_ ?_;rotate_left;(rintro w' ⟨s0,s1,s2⟩;go_simp;with_reducible rfl);rotate_left;(simp only [Act.put,p1_,p2_,p3_,ax,ay];rfl))
 refine aZ ?_
 refine bP (i:=6) (some 9) HT_ (by kernel_rfl) rfl rfl (by decide) (fun K_ hK=>?_)
 refine call_ 237 #[.pointer (some ⟨pA,0,none⟩),.int .i64 r] (by rfl) rfl ?hrun6 ?_
 (case hrun6=>first | (go_simp;done) | (go_simp;exact enters Tryz.func237 (by kernel_rfl) rfl _ _))
 refine (xP r _ HW.out.ar HG.out.ar.fits.slots).mono ?_
 rintro e w2 ⟨rfl,hA,hM⟩
 have X2:=Am_ hA
 have M2:=Am_ hM
 clear hA hM
 refine ⟨_,rfl,?_⟩
 refine hK.out _ _ ?_
 clear hK K_
 refine bK (a':=?_) ?_ ?_
 rotate_left; · show Act.put _ (some 9) _=_;simp only [Act.put,p1_,p2_,p3_,ax,ay];rfl
 refine eO [(7,some 2)] ?_
 (refine dZ (v:=?_) (a':=?_) HT_ (by kernel_rfl) rfl rfl (fun _ _ _ h=>h) (Or.inl ⟨by rfl,?_⟩) ?_ ?_;rotate_left;(intro w';go_simp;with_reducible rfl);rotate_left;(simp only [Act.put,p1_,p2_,p3_,ax,ay];rfl))
 refine aZ ?_
 refine dD (bI HT_.out (by kernel_rfl)) ?_
 go_wp2_with fail
 go_ret
 exact ⟨_,rfl,⟨⟨_,_,_,_,_,_,(HW.out.cK X2.out M2.out).1⟩,⟨HG.out.ar.mark r,HG.out.ep,HG.out.tb⟩⟩,HM.out.trans (HW.out.cK X2.out M2.out).2⟩
def zb:Bool × List (List Nat × List Nat):=(true,[([],[]),([0],[0]),([1],[1]),([2],[2]),([3],[3]),([],[]),([4,5],[4,5]),([6],[6]),([7,6,0,1,2,3,4,5,6,7],[7])])
def GK:List Nat:= [0,1,3,7,15,0,63,127,255]
theorem Ch:fq .any (opsOf Tryz.f239 1)=zb:=by kernel_rfl
theorem wO:bA zb.2 GK=true:=by kernel_rfl
theorem sD (p:Nat) (x:Ws) (n:Int) (w:World) (okS:Nat→Prop) (bt bn:Nat) (h:shW p x okS w) (g0:w.cell? ⟨bt,1,none⟩=some (.pointer (some ⟨p,0,none⟩))) (g2:w.cell? ⟨bn,0,none⟩=some (.int .i64 n)):
  Calls Tryz.prog 239 #[.pointer (some ⟨bt,0,none⟩),.pointer (some ⟨bn,0,none⟩)] w fun e w2=> ∃ okS1,e= .returned (.int .i64 (wrap64 (x.tb.en n).state))∧shW p x okS1 w2∧Moves okS okS1 w w2:=by
 obtain ⟨⟨okA,okR,okE,pA,pR,pE,h⟩,hg⟩:=h
 have HW:=Am_ h
 have HG:=Am_ hg
 have hp:=(af h.box 1).trans (rfl:_=some (Value.pointer (some ⟨pR,0,none⟩)))
 have HC:=Am_ (And.intro g0 (And.intro hp g2))
 clear h hg hp g0 g2
 go_enter Tryz.func239,Tryz.ntmps239
 go_upto_region 1 with fail
 refine bG (n:=9) (S:=fun w'=>w'.cell? ⟨bt,1,none⟩=some (.pointer (some ⟨p,0,none⟩))∧w'.cell? ⟨p,1,none⟩=some (.pointer (some ⟨pR,0,none⟩))∧w'.cell? ⟨bn,0,none⟩=some (.int .i64 n)) (ds:= [6]) (by kernel_rfl) rfl Ch wO HC.out (fun hHeld HT_ HW_=>?_)
 have HW:=Am_ (HW.out.step (w1:=w.drew) (Nat.le_refl _) (fun _ _ _=>rfl))
 have HM:=Am_ ((Moves.refl okS w).drew)
 clear HC
 generalize World.drew _=w1 at HW HM hHeld ⊢
 refine eO [(0,some 3),(1,some 4),(2,some 5),(3,some 6),(4,some 7),(5,some 8)] ?_
 (refine dZ (v:=?_) (a':=?_) HT_ (by kernel_rfl) rfl rfl (fun _ _ _ h=>h) (Or.inl ⟨by rfl,?_⟩) ?_ ?_;rotate_left;(intro w';go_simp;with_reducible rfl);rotate_left;(simp only [Act.put,p1_,p2_,p3_,ax,ay];rfl))
 iterate 5 (refine iW (v:=?_) (a':=?_) HT_ HW_ (by kernel_rfl) rfl rfl (fun _ _ _ h=>h) hHeld (Or.inl ⟨by rfl,?_⟩) ?_ ?_;rotate_left;(rintro w' ⟨s0,s1,s2⟩;go_simp;with_reducible rfl);rotate_left;(simp only [Act.put,p1_,p2_,p3_,ax,ay];rfl))
 refine aZ ?_
 refine bP (i:=6) (some 9) HT_ (by kernel_rfl) rfl rfl (by decide) (fun K_ hK=>?_)
 refine call_ 240 #[.pointer (some ⟨pR,0,none⟩),.int .i64 n] (by rfl) rfl ?hrun6 ?_
 (case hrun6=>first | (go_simp;done) | (go_simp;exact enters Tryz.func240 (by kernel_rfl) rfl _ _))
 refine (Fa n _ HW.out.tb (by have:=HG.out.tb.most;have:=HG.out.tb.len;omega)).mono ?_
 rintro e w2 ⟨rfl,rfl⟩
 refine ⟨_,rfl,?_⟩
 refine hK.out _ _ ?_
 clear hK K_
 refine bK (a':=?_) ?_ ?_
 rotate_left; · show Act.put _ (some 9) _=_;simp only [Act.put,p1_,p2_,p3_,ax,ay];rfl
 refine eO [(7,some 10),(8,some 2)] ?_
 iterate 2 (refine dZ (v:=?_) (a':=?_) HT_ (by kernel_rfl) rfl rfl (fun _ _ _ h=>h) (Or.inl ⟨by rfl,?_⟩) ?_ ?_;rotate_left;(intro w';go_simp;with_reducible rfl);rotate_left;(simp only [Act.put,p1_,p2_,p3_,ax,ay];rfl))
 refine aZ ?_
 refine dD (bI HT_.out (by kernel_rfl)) ?_
 go_wp2_with fail
 go_ret
 exact ⟨okS,rfl,⟨⟨_,_,_,_,_,_,HW.out⟩,HG.out⟩,HM.out⟩
def FR:Bool × List (List Nat × List Nat):=(true,[([],[]),([0],[0]),([1],[1]),([2],[2]),([3],[3]),([],[]),([],[]),([4,5,6],[4,5,6]),([7,7,0,1,2,3,4,5,6,7],[7])])
def JW:List Nat:= [0,1,3,7,15,0,0,127,255]
theorem ET:fq .any (opsOf Tryz.f202 1)=FR:=by kernel_rfl
theorem zT:bA FR.2 JW=true:=by kernel_rfl
theorem uD (p:Nat) (x:Ws) (r i:Int) (w:World) (okS:Nat→Prop) (bt bx bi:Nat) (h:shW p x okS w) (g0:w.cell? ⟨bt,1,none⟩=some (.pointer (some ⟨p,0,none⟩))) (g2:w.cell? ⟨bx,0,none⟩=some (.int .i64 r)) (g3:w.cell? ⟨bi,0,none⟩=some (.int .i64 i)):
  Calls Tryz.prog 202 #[.pointer (some ⟨bt,0,none⟩),.pointer (some ⟨bx,0,none⟩),.pointer (some ⟨bi,0,none⟩)] w fun e w2=> ∃ okS1,e= .returned (.int .i64 (x.ar.way r i).1)∧shW p { x with ar:=(x.ar.way r i).2 } okS1 w2∧Moves okS okS1 w w2:=by
 obtain ⟨⟨okA,okR,okE,pA,pR,pE,h⟩,hg⟩:=h
 have HW:=Am_ h
 have HG:=Am_ hg
 have hp:=(af h.box 0).trans (rfl:_=some (Value.pointer (some ⟨pA,0,none⟩)))
 have HC:=Am_ (And.intro g0 (And.intro hp (And.intro g2 g3)))
 clear h hg hp g0 g2 g3
 go_enter Tryz.func202,Tryz.ntmps202
 go_upto_region 1 with fail
 refine bG (n:=9) (S:=fun w'=>w'.cell? ⟨bt,1,none⟩=some (.pointer (some ⟨p,0,none⟩))∧w'.cell? ⟨p,0,none⟩=some (.pointer (some ⟨pA,0,none⟩))∧w'.cell? ⟨bx,0,none⟩=some (.int .i64 r)∧w'.cell? ⟨bi,0,none⟩=some (.int .i64 i)) (ds:= [7]) (by kernel_rfl) rfl ET zT HC.out (fun hHeld HT_ HW_=>?_)
 have HW:=Am_ (HW.out.step (w1:=w.drew) (Nat.le_refl _) (fun _ _ _=>rfl))
 have HM:=Am_ ((Moves.refl okS w).drew)
 clear HC
 generalize World.drew _=w1 at HW HM hHeld ⊢
 refine eO [(0,some 4),(1,some 5),(2,some 6),(3,some 7),(4,some 8),(5,some 9),(6,some 10)] ?_
 (refine dZ (v:=?_) (a':=?_) HT_ (by kernel_rfl) rfl rfl (fun _ _ _ h=>h) (Or.inl ⟨by rfl,?_⟩) ?_ ?_;rotate_left;(intro w';go_simp;with_reducible rfl);rotate_left;(simp only [Act.put,p1_,p2_,p3_,ax,ay];rfl))
 iterate 6 (refine iW (v:=?_) (a':=?_) HT_ HW_ (by kernel_rfl) rfl rfl (fun _ _ _ h=>h) hHeld (Or.inl ⟨by rfl,?_⟩) ?_ ?_;rotate_left;(rintro w' ⟨s0,s1,s2,s3⟩;go_simp;with_reducible rfl);rotate_left;(simp only [Act.put,p1_,p2_,p3_,ax,ay];rfl))
 refine aZ ?_
 refine bP (i:=7) (some 11) HT_ (by kernel_rfl) rfl rfl (by decide) (fun K_ hK=>?_)
 refine call_ 74 #[.pointer (some ⟨pA,0,none⟩),.int .i64 r,.int .i64 i] (by rfl) rfl ?hrun7 ?_
 (case hrun7=>first | (go_simp;done) | (go_simp;exact enters Tryz.func74 (by kernel_rfl) rfl _ _))
 refine (oo r i _ HW.out.ar HG.out.ar.fits.slots).mono ?_
 rintro e w2 ⟨rfl,hA,hM⟩
 have X2:=Am_ hA
 have M2:=Am_ hM
 clear hA hM
 refine ⟨_,rfl,?_⟩
 refine hK.out _ _ ?_
 clear hK K_
 refine bK (a':=?_) ?_ ?_
 rotate_left; · show Act.put _ (some 11) _=_;simp only [Act.put,p1_,p2_,p3_,ax,ay];rfl
 refine eO [(8,some 3)] ?_
 (refine dZ (v:=?_) (a':=?_) HT_ (by kernel_rfl) rfl rfl (fun _ _ _ h=>h) (Or.inl ⟨by rfl,?_⟩) ?_ ?_;rotate_left;(intro w';go_simp;with_reducible rfl);rotate_left;(simp only [Act.put,p1_,p2_,p3_,ax,ay];rfl))
 refine aZ ?_
 refine dD (bI HT_.out (by kernel_rfl)) ?_
 go_wp2_with fail
 go_ret
 exact ⟨_,rfl,⟨⟨_,_,_,_,_,_,(HW.out.cK X2.out M2.out).1⟩,⟨HG.out.ar.way r i,HG.out.ep,HG.out.tb⟩⟩,HM.out.trans (HW.out.cK X2.out M2.out).2⟩
def KD:Bool × List (List Nat × List Nat):=(true,[([],[]),([0],[0]),([1],[1]),([2],[2]),([3],[3]),([],[]),([],[]),([4,5,6],[4,5,6])])
def Me:List Nat:= [0,1,3,7,15,0,0,127]
theorem Jl:fq .any (opsOf Tryz.f243 1)=KD:=by kernel_rfl
theorem Dt:bA KD.2 Me=true:=by kernel_rfl
theorem yA (p:Nat) (x:Ws) (n s:Int) (w:World) (okS:Nat→Prop) (bt bn bs:Nat) (h:shW p x okS w) (g0:w.cell? ⟨bt,1,none⟩=some (.pointer (some ⟨p,0,none⟩))) (g2:w.cell? ⟨bn,0,none⟩=some (.int .i64 n)) (g3:w.cell? ⟨bs,0,none⟩=some (.int .u8 s)):
  Calls Tryz.prog 243 #[.pointer (some ⟨bt,0,none⟩),.pointer (some ⟨bn,0,none⟩),.pointer (some ⟨bs,0,none⟩)] w fun e w2=> ∃ okS1,e= .returned (.int .i64 0)∧shW p { x with tb:=x.tb.setState n s } okS1 w2∧Moves okS okS1 w w2:=by
 obtain ⟨⟨okA,okR,okE,pA,pR,pE,h⟩,hg⟩:=h
 have HW:=Am_ h
 have HG:=Am_ hg
 have hp:=(af h.box 1).trans (rfl:_=some (Value.pointer (some ⟨pR,0,none⟩)))
 have HC:=Am_ (And.intro g0 (And.intro hp (And.intro g2 g3)))
 clear h hg hp g0 g2 g3
 go_enter Tryz.func243,Tryz.ntmps243
 go_upto_region 1 with fail
 refine bG (n:=8) (S:=fun w'=>w'.cell? ⟨bt,1,none⟩=some (.pointer (some ⟨p,0,none⟩))∧w'.cell? ⟨p,1,none⟩=some (.pointer (some ⟨pR,0,none⟩))∧w'.cell? ⟨bn,0,none⟩=some (.int .i64 n)∧w'.cell? ⟨bs,0,none⟩=some (.int .u8 s)) (ds:= [7]) (by kernel_rfl) rfl Jl Dt HC.out (fun hHeld HT_ HW_=>?_)
 have HW:=Am_ (HW.out.step (w1:=w.drew) (Nat.le_refl _) (fun _ _ _=>rfl))
 have HM:=Am_ ((Moves.refl okS w).drew)
 clear HC
 generalize World.drew _=w1 at HW HM hHeld ⊢
 refine eO [(0,some 4),(1,some 5),(2,some 6),(3,some 7),(4,some 8),(5,some 9),(6,some 10)] ?_
 (refine dZ (v:=?_) (a':=?_) HT_ (by kernel_rfl) rfl rfl (fun _ _ _ h=>h) (Or.inl ⟨by rfl,?_⟩) ?_ ?_;rotate_left;(intro w';go_simp;with_reducible rfl);rotate_left;(simp only [Act.put,p1_,p2_,p3_,ax,ay];rfl))
 iterate 6 (refine iW (v:=?_) (a':=?_) HT_ HW_ (by kernel_rfl) rfl rfl (fun _ _ _ h=>h) hHeld (Or.inl ⟨by rfl,?_⟩) ?_ ?_;rotate_left;(rintro w' ⟨s0,s1,s2,s3⟩;go_simp;with_reducible rfl);rotate_left;(simp only [Act.put,p1_,p2_,p3_,ax,ay];rfl))
 refine aZ ?_
 refine bP (i:=7) (some 11) HT_ (by kernel_rfl) rfl rfl (by decide) (fun K_ hK=>?_)
 refine call_ 244 #[.pointer (some ⟨pR,0,none⟩),.int .i64 n,.int .u8 s] (by rfl) rfl ?hrun7 ?_
 (case hrun7=>first | (go_simp;done) | (go_simp;exact enters Tryz.func244 (by kernel_rfl) rfl _ _))
 refine (LB n s _ HW.out.tb (by have:=HG.out.tb.most;have:=HG.out.tb.len;omega)).mono ?_
 rintro e w2 ⟨rfl,hA,hM⟩
 have X2:=Am_ hA
 have M2:=Am_ hM
 clear hA hM
 refine ⟨_,rfl,?_⟩
 refine hK.out _ _ ?_
 clear hK K_
 refine bK (a':=?_) ?_ ?_
 rotate_left; · show Act.put _ (some 11) _=_;simp only [Act.put,p1_,p2_,p3_,ax,ay];rfl
 refine dD (bI HT_.out (by kernel_rfl)) ?_
 go_wp2_with fail
 go_ret
 exact ⟨_,rfl,⟨⟨_,_,_,_,_,_,(HW.out.jO X2.out M2.out).1⟩,⟨HG.out.ar,HG.out.ep,HG.out.tb.setState n s⟩⟩,HM.out.trans (HW.out.jO X2.out M2.out).2⟩
def FH:Bool × List (List Nat × List Nat):=(true,[([],[]),([0],[0]),([1],[1]),([2],[2]),([3],[3]),([],[]),([],[]),([6],[6]),([],[]),([7,8],[7,8]),([9],[9]),([],[]),([4,5,10,11],[4,5,10,11]),([12,12,0,1,2,3,4,5,6,7,8,9,10,11,12],[12])])
def JL:List Nat:= [0,1,3,7,15,0,0,64,0,448,960,0,4095,8191]
theorem EI:fq .any (opsOf Tryz.f209 1)=FH:=by kernel_rfl
theorem zK:bA FH.2 JL=true:=by kernel_rfl
theorem yh (p:Nat) (x:Ws) (r old n:Int) (i:Nat) (gI nI cI:Nat) (w:World) (okS:Nat→Prop) (bt bx br bi bn:Nat) (h:shW p x okS w) (g0:w.cell? ⟨bt,1,none⟩=some (.pointer (some ⟨p,0,none⟩))) (g2:w.cell? ⟨bx,0,none⟩=some (.int .i64 r)) (g3:w.cell? ⟨br,1,none⟩=some (.slice (some ⟨gI,0,none⟩) nI cI)) (g4:w.cell? ⟨bi,0,none⟩=some (.int .i64 (i:Int))) (g5:w.cell? ⟨bn,0,none⟩=some (.int .i64 n)) (g6:w.cell? ⟨gI,i,none⟩=some (.int .i64 old)) (hi:i<nI):
  Calls Tryz.prog 209 #[.pointer (some ⟨bt,0,none⟩),.pointer (some ⟨bx,0,none⟩),.pointer (some ⟨br,0,none⟩),.pointer (some ⟨bi,0,none⟩),.pointer (some ⟨bn,0,none⟩)] w fun e w2=> ∃ okS1,e= .returned (.bool (x.ar.eT r old n).1)∧shW p { x with ar:=(x.ar.eT r old n).2 } okS1 w2∧Moves okS okS1 w w2:=by
 obtain ⟨⟨okA,okR,okE,pA,pR,pE,h⟩,hg⟩:=h
 have HW:=Am_ h
 have HG:=Am_ hg
 have hp:=(af h.box 0).trans (rfl:_=some (Value.pointer (some ⟨pA,0,none⟩)))
 have b1:(0:Int)≤(i:Int):=by omega
 have b2:(i:Int)<(nI:Int):=by omega
 have HC:=Am_ (And.intro g0 (And.intro hp (And.intro g2 (And.intro g3 (And.intro g4 (And.intro g5 g6))))))
 clear h hg hp g0 g2 g3 g4 g5 g6 hi
 go_enter Tryz.func209,Tryz.ntmps209
 go_upto_region 1 with fail
 refine bG (n:=14) (S:=fun w'=>w'.cell? ⟨bt,1,none⟩=some (.pointer (some ⟨p,0,none⟩))∧w'.cell? ⟨p,0,none⟩=some (.pointer (some ⟨pA,0,none⟩))∧w'.cell? ⟨bx,0,none⟩=some (.int .i64 r)∧w'.cell? ⟨br,1,none⟩=some (.slice (some ⟨gI,0,none⟩) nI cI)∧w'.cell? ⟨bi,0,none⟩=some (.int .i64 (i:Int))∧w'.cell? ⟨bn,0,none⟩=some (.int .i64 n)∧w'.cell? ⟨gI,i,none⟩=some (.int .i64 old)) (ds:= [12]) (by kernel_rfl) rfl EI zK HC.out (fun hHeld HT_ HW_=>?_)
 have HW:=Am_ (HW.out.step (w1:=w.drew) (Nat.le_refl _) (fun _ _ _=>rfl))
 have HM:=Am_ ((Moves.refl okS w).drew)
 clear HC
 generalize World.drew _=w1 at HW HM hHeld ⊢
 refine eO [(0,some 6),(1,some 7),(2,some 8),(3,some 9),(4,some 10),(5,some 11),(6,some 12),(7,some 13),(8,some 14),(9,some 15),(10,some 16),(11,some 17)] ?_
 (refine dZ (v:=?_) (a':=?_) HT_ (by kernel_rfl) rfl rfl (fun _ _ _ h=>h) (Or.inl ⟨by rfl,?_⟩) ?_ ?_;rotate_left;(intro w';go_simp;with_reducible rfl);rotate_left;(simp only [Act.put,p1_,p2_,p3_,ax,ay];rfl))
 iterate 11 (refine iW (v:=?_) (a':=?_) HT_ HW_ (by kernel_rfl) rfl rfl (fun _ _ _ h=>h) hHeld (Or.inl ⟨by rfl,?_⟩) ?_ ?_;rotate_left;(rintro w' ⟨s0,s1,s2,s3,s4,s5,s6⟩;go_simp;with_reducible rfl);rotate_left;(simp only [Act.put,p1_,p2_,p3_,ax,ay];rfl))
 refine aZ ?_
 refine bP (i:=12) (some 18) HT_ (by kernel_rfl) rfl rfl (by decide) (fun K_ hK=>?_)
 refine call_ 210 #[.pointer (some ⟨pA,0,none⟩),.int .i64 r,.int .i64 old,.int .i64 n] (by rfl) rfl ?hrun12 ?_
 (case hrun12=>first | (go_simp;done) | (go_simp;exact enters Tryz.func210 (by kernel_rfl) rfl _ _))
 refine (oK r old n _ HW.out.ar HG.out.ar.fits.slots).mono ?_
 rintro e w2 ⟨rfl,hA,hM⟩
 have X2:=Am_ hA
 have M2:=Am_ hM
 clear hA hM
 refine ⟨_,rfl,?_⟩
 refine hK.out _ _ ?_
 clear hK K_
 refine bK (a':=?_) ?_ ?_
 rotate_left; · show Act.put _ (some 18) _=_;simp only [Act.put,p1_,p2_,p3_,ax,ay];rfl
 refine eO [(13,some 5)] ?_
 (refine dZ (v:=?_) (a':=?_) HT_ (by kernel_rfl) rfl rfl (fun _ _ _ h=>h) (Or.inl ⟨by rfl,?_⟩) ?_ ?_;rotate_left;(intro w';go_simp;with_reducible rfl);rotate_left;(simp only [Act.put,p1_,p2_,p3_,ax,ay];rfl))
 refine aZ ?_
 refine dD (bI HT_.out (by kernel_rfl)) ?_
 go_wp2_with fail
 go_ret
 exact ⟨_,rfl,⟨⟨_,_,_,_,_,_,(HW.out.cK X2.out M2.out).1⟩,⟨HG.out.ar.eT r old n,HG.out.ep,HG.out.tb⟩⟩,HM.out.trans (HW.out.cK X2.out M2.out).2⟩
def FI:Bool × List (List Nat × List Nat):=(true,[([],[]),([0],[0]),([1],[1]),([2],[2]),([3],[3]),([],[]),([4,5],[4,5]),([6,6,0,1,2,3,4,5,6],[6])])
def JM:List Nat:= [0,1,3,7,15,0,63,127]
theorem EJ:fq .any (opsOf Tryz.f211 1)=FI:=by kernel_rfl
theorem zL:bA FI.2 JM=true:=by kernel_rfl
theorem yj (p:Nat) (x:Ws) (r:Int) (w:World) (okS:Nat→Prop) (bt bx:Nat) (h:shW p x okS w) (g0:w.cell? ⟨bt,1,none⟩=some (.pointer (some ⟨p,0,none⟩))) (g2:w.cell? ⟨bx,0,none⟩=some (.int .i64 r)):
  Calls Tryz.prog 211 #[.pointer (some ⟨bt,0,none⟩),.pointer (some ⟨bx,0,none⟩)] w fun e w2=> ∃ okS1,e= .returned (.int .i64 (x.ar.info r).1)∧shW p { x with ar:=(x.ar.info r).2 } okS1 w2∧Moves okS okS1 w w2:=by
 obtain ⟨⟨okA,okR,okE,pA,pR,pE,h⟩,hg⟩:=h
 have HW:=Am_ h
 have HG:=Am_ hg
 have hp:=(af h.box 0).trans (rfl:_=some (Value.pointer (some ⟨pA,0,none⟩)))
 have HC:=Am_ (And.intro g0 (And.intro hp g2))
 clear h hg hp g0 g2
 go_enter Tryz.func211,Tryz.ntmps211
 go_upto_region 1 with fail
 refine bG (n:=8) (S:=fun w'=>w'.cell? ⟨bt,1,none⟩=some (.pointer (some ⟨p,0,none⟩))∧w'.cell? ⟨p,0,none⟩=some (.pointer (some ⟨pA,0,none⟩))∧w'.cell? ⟨bx,0,none⟩=some (.int .i64 r)) (ds:= [6]) (by kernel_rfl) rfl EJ zL HC.out (fun hHeld HT_ HW_=>?_)
 have HW:=Am_ (HW.out.step (w1:=w.drew) (Nat.le_refl _) (fun _ _ _=>rfl))
 have HM:=Am_ ((Moves.refl okS w).drew)
 clear HC
 generalize World.drew _=w1 at HW HM hHeld ⊢
 refine eO [(0,some 3),(1,some 4),(2,some 5),(3,some 6),(4,some 7),(5,some 8)] ?_
 (refine dZ (v:=?_) (a':=?_) HT_ (by kernel_rfl) rfl rfl (fun _ _ _ h=>h) (Or.inl ⟨by rfl,?_⟩) ?_ ?_;rotate_left;(intro w';go_simp;with_reducible rfl);rotate_left;(simp only [Act.put,p1_,p2_,p3_,ax,ay];rfl))
 iterate 5 (refine iW (v:=?_) (a':=?_) HT_ HW_ (by kernel_rfl) rfl rfl (fun _ _ _ h=>h) hHeld (Or.inl ⟨by rfl,?_⟩) ?_ ?_;rotate_left;(rintro w' ⟨s0,s1,s2⟩;go_simp;with_reducible rfl);rotate_left;(simp only [Act.put,p1_,p2_,p3_,ax,ay];rfl))
 refine aZ ?_
 refine bP (i:=6) (some 9) HT_ (by kernel_rfl) rfl rfl (by decide) (fun K_ hK=>?_)
 refine call_ 212 #[.pointer (some ⟨pA,0,none⟩),.int .i64 r] (by rfl) rfl ?hrun6 ?_
 (case hrun6=>first | (go_simp;done) | (go_simp;exact enters Tryz.func212 (by kernel_rfl) rfl _ _))
 refine (pq r _ HW.out.ar HG.out.ar.fits.slots).mono ?_
 rintro e w2 ⟨rfl,hA,hM⟩
 have X2:=Am_ hA
 have M2:=Am_ hM
 clear hA hM
 refine ⟨_,rfl,?_⟩
 refine hK.out _ _ ?_
 clear hK K_
 refine bK (a':=?_) ?_ ?_
 rotate_left; · show Act.put _ (some 9) _=_;simp only [Act.put,p1_,p2_,p3_,ax,ay];rfl
 refine eO [(7,some 2)] ?_
 (refine dZ (v:=?_) (a':=?_) HT_ (by kernel_rfl) rfl rfl (fun _ _ _ h=>h) (Or.inl ⟨by rfl,?_⟩) ?_ ?_;rotate_left;(intro w';go_simp;with_reducible rfl);rotate_left;(simp only [Act.put,p1_,p2_,p3_,ax,ay];rfl))
 refine aZ ?_
 refine dD (bI HT_.out (by kernel_rfl)) ?_
 go_wp2_with fail
 go_ret
 exact ⟨_,rfl,⟨⟨_,_,_,_,_,_,(HW.out.cK X2.out M2.out).1⟩,⟨HG.out.ar.info r,HG.out.ep,HG.out.tb⟩⟩,HM.out.trans (HW.out.cK X2.out M2.out).2⟩
def FJ:Bool × List (List Nat × List Nat):=(true,[([],[]),([0],[0]),([1],[1]),([2],[2]),([3],[3]),([],[]),([4,5],[4,5]),([6,6,0,1,2,3,4,5,6],[6])])
def JN:List Nat:= [0,1,3,7,15,0,63,127]
theorem EK:fq .any (opsOf Tryz.f213 1)=FJ:=by kernel_rfl
theorem zM:bA FJ.2 JN=true:=by kernel_rfl
theorem yo (p:Nat) (x:Ws) (n:Int) (w:World) (okS:Nat→Prop) (bt bn:Nat) (h:shW p x okS w) (g0:w.cell? ⟨bt,1,none⟩=some (.pointer (some ⟨p,0,none⟩))) (g2:w.cell? ⟨bn,0,none⟩=some (.int .i64 n)):
  Calls Tryz.prog 213 #[.pointer (some ⟨bt,0,none⟩),.pointer (some ⟨bn,0,none⟩)] w fun e w2=> ∃ okS1,e= .returned (.bool (x.tb.en n).all)∧shW p x okS1 w2∧Moves okS okS1 w w2:=by
 obtain ⟨⟨okA,okR,okE,pA,pR,pE,h⟩,hg⟩:=h
 have HW:=Am_ h
 have HG:=Am_ hg
 have hp:=(af h.box 1).trans (rfl:_=some (Value.pointer (some ⟨pR,0,none⟩)))
 have HC:=Am_ (And.intro g0 (And.intro hp g2))
 clear h hg hp g0 g2
 go_enter Tryz.func213,Tryz.ntmps213
 go_upto_region 1 with fail
 refine bG (n:=8) (S:=fun w'=>w'.cell? ⟨bt,1,none⟩=some (.pointer (some ⟨p,0,none⟩))∧w'.cell? ⟨p,1,none⟩=some (.pointer (some ⟨pR,0,none⟩))∧w'.cell? ⟨bn,0,none⟩=some (.int .i64 n)) (ds:= [6]) (by kernel_rfl) rfl EK zM HC.out (fun hHeld HT_ HW_=>?_)
 have HW:=Am_ (HW.out.step (w1:=w.drew) (Nat.le_refl _) (fun _ _ _=>rfl))
 have HM:=Am_ ((Moves.refl okS w).drew)
 clear HC
 generalize World.drew _=w1 at HW HM hHeld ⊢
 refine eO [(0,some 3),(1,some 4),(2,some 5),(3,some 6),(4,some 7),(5,some 8)] ?_
 (refine dZ (v:=?_) (a':=?_) HT_ (by kernel_rfl) rfl rfl (fun _ _ _ h=>h) (Or.inl ⟨by rfl,?_⟩) ?_ ?_;rotate_left;(intro w';go_simp;with_reducible rfl);rotate_left;(simp only [Act.put,p1_,p2_,p3_,ax,ay];rfl))
 iterate 5 (refine iW (v:=?_) (a':=?_) HT_ HW_ (by kernel_rfl) rfl rfl (fun _ _ _ h=>h) hHeld (Or.inl ⟨by rfl,?_⟩) ?_ ?_;rotate_left;(rintro w' ⟨s0,s1,s2⟩;go_simp;with_reducible rfl);rotate_left;(simp only [Act.put,p1_,p2_,p3_,ax,ay];rfl))
 refine aZ ?_
 refine bP (i:=6) (some 9) HT_ (by kernel_rfl) rfl rfl (by decide) (fun K_ hK=>?_)
 refine call_ 214 #[.pointer (some ⟨pR,0,none⟩),.int .i64 n] (by rfl) rfl ?hrun6 ?_
 (case hrun6=>first | (go_simp;done) | (go_simp;exact enters Tryz.func214 (by kernel_rfl) rfl _ _))
 refine (LA n _ HW.out.tb (by have:=HG.out.tb.most;have:=HG.out.tb.len;omega)).mono ?_
 rintro e w2 ⟨rfl,rfl⟩
 refine ⟨_,rfl,?_⟩
 refine hK.out _ _ ?_
 clear hK K_
 refine bK (a':=?_) ?_ ?_
 rotate_left; · show Act.put _ (some 9) _=_;simp only [Act.put,p1_,p2_,p3_,ax,ay];rfl
 refine eO [(7,some 2)] ?_
 (refine dZ (v:=?_) (a':=?_) HT_ (by kernel_rfl) rfl rfl (fun _ _ _ h=>h) (Or.inl ⟨by rfl,?_⟩) ?_ ?_;rotate_left;(intro w';go_simp;with_reducible rfl);rotate_left;(simp only [Act.put,p1_,p2_,p3_,ax,ay];rfl))
 refine aZ ?_
 refine dD (bI HT_.out (by kernel_rfl)) ?_
 go_wp2_with fail
 go_ret
 exact ⟨okS,rfl,⟨⟨_,_,_,_,_,_,HW.out⟩,HG.out⟩,HM.out⟩
def FL:Bool × List (List Nat × List Nat):=(true,[([],[]),([0],[0]),([1],[1]),([2],[2]),([3],[3]),([],[]),([4,5],[4,5])])
def JO:List Nat:= [0,1,3,7,15,0,63]
theorem EL:fq .any (opsOf Tryz.f216 1)=FL:=by kernel_rfl
theorem zN:bA FL.2 JO=true:=by kernel_rfl
theorem yt (p:Nat) (x:Ws) (n:Int) (w:World) (okS:Nat→Prop) (bt bn:Nat) (h:shW p x okS w) (g0:w.cell? ⟨bt,1,none⟩=some (.pointer (some ⟨p,0,none⟩))) (g2:w.cell? ⟨bn,0,none⟩=some (.int .i64 n)):
  Calls Tryz.prog 216 #[.pointer (some ⟨bt,0,none⟩),.pointer (some ⟨bn,0,none⟩)] w fun e w2=> ∃ okS1,e= .returned (.int .i64 0)∧shW p { x with tb:=x.tb.jK n } okS1 w2∧Moves okS okS1 w w2:=by
 obtain ⟨⟨okA,okR,okE,pA,pR,pE,h⟩,hg⟩:=h
 have HW:=Am_ h
 have HG:=Am_ hg
 have hp:=(af h.box 1).trans (rfl:_=some (Value.pointer (some ⟨pR,0,none⟩)))
 have HC:=Am_ (And.intro g0 (And.intro hp g2))
 clear h hg hp g0 g2
 go_enter Tryz.func216,Tryz.ntmps216
 go_upto_region 1 with fail
 refine bG (n:=7) (S:=fun w'=>w'.cell? ⟨bt,1,none⟩=some (.pointer (some ⟨p,0,none⟩))∧w'.cell? ⟨p,1,none⟩=some (.pointer (some ⟨pR,0,none⟩))∧w'.cell? ⟨bn,0,none⟩=some (.int .i64 n)) (ds:= [6]) (by kernel_rfl) rfl EL zN HC.out (fun hHeld HT_ HW_=>?_)
 have HW:=Am_ (HW.out.step (w1:=w.drew) (Nat.le_refl _) (fun _ _ _=>rfl))
 have HM:=Am_ ((Moves.refl okS w).drew)
 clear HC
 generalize World.drew _=w1 at HW HM hHeld ⊢
 refine eO [(0,some 3),(1,some 4),(2,some 5),(3,some 6),(4,some 7),(5,some 8)] ?_
 (refine dZ (v:=?_) (a':=?_) HT_ (by kernel_rfl) rfl rfl (fun _ _ _ h=>h) (Or.inl ⟨by rfl,?_⟩) ?_ ?_;rotate_left;(intro w';go_simp;with_reducible rfl);rotate_left;(simp only [Act.put,p1_,p2_,p3_,ax,ay];rfl))
 iterate 5 (refine iW (v:=?_) (a':=?_) HT_ HW_ (by kernel_rfl) rfl rfl (fun _ _ _ h=>h) hHeld (Or.inl ⟨by rfl,?_⟩) ?_ ?_;rotate_left;(rintro w' ⟨s0,s1,s2⟩;go_simp;with_reducible rfl);rotate_left;(simp only [Act.put,p1_,p2_,p3_,ax,ay];rfl))
 refine aZ ?_
 refine bP (i:=6) (some 9) HT_ (by kernel_rfl) rfl rfl (by decide) (fun K_ hK=>?_)
 refine call_ 217 #[.pointer (some ⟨pR,0,none⟩),.int .i64 n] (by rfl) rfl ?hrun6 ?_
 (case hrun6=>first | (go_simp;done) | (go_simp;exact enters Tryz.func217 (by kernel_rfl) rfl _ _))
 refine (Cx n _ HW.out.tb (by have:=HG.out.tb.most;have:=HG.out.tb.len;omega)).mono ?_
 rintro e w2 ⟨rfl,hA,hM⟩
 have X2:=Am_ hA
 have M2:=Am_ hM
 clear hA hM
 refine ⟨_,rfl,?_⟩
 refine hK.out _ _ ?_
 clear hK K_
 refine bK (a':=?_) ?_ ?_
 rotate_left; · show Act.put _ (some 9) _=_;simp only [Act.put,p1_,p2_,p3_,ax,ay];rfl
 refine dD (bI HT_.out (by kernel_rfl)) ?_
 go_wp2_with fail
 go_ret
 exact ⟨_,rfl,⟨⟨_,_,_,_,_,_,(HW.out.jO X2.out M2.out).1⟩,⟨HG.out.ar,HG.out.ep,HG.out.tb.jK n⟩⟩,HM.out.trans (HW.out.jO X2.out M2.out).2⟩
def FM:Bool × List (List Nat × List Nat):=(true,[([],[]),([0],[0]),([1],[1]),([2],[2]),([3],[3]),([],[]),([4,5],[4,5])])
def JQ:List Nat:= [0,1,3,7,15,0,63]
theorem EN:fq .any (opsOf Tryz.f218 1)=FM:=by kernel_rfl
theorem zO:bA FM.2 JQ=true:=by kernel_rfl
theorem yu (p:Nat) (x:Ws) (r:Int) (w:World) (okS:Nat→Prop) (bt bx:Nat) (h:shW p x okS w) (g0:w.cell? ⟨bt,1,none⟩=some (.pointer (some ⟨p,0,none⟩))) (g2:w.cell? ⟨bx,0,none⟩=some (.int .i64 r)):
  Calls Tryz.prog 218 #[.pointer (some ⟨bt,0,none⟩),.pointer (some ⟨bx,0,none⟩)] w fun e w2=> ∃ okS1,e= .returned (.int .i64 0)∧shW p { x with ar:=x.ar.iU r } okS1 w2∧Moves okS okS1 w w2:=by
 obtain ⟨⟨okA,okR,okE,pA,pR,pE,h⟩,hg⟩:=h
 have HW:=Am_ h
 have HG:=Am_ hg
 have hp:=(af h.box 0).trans (rfl:_=some (Value.pointer (some ⟨pA,0,none⟩)))
 have HC:=Am_ (And.intro g0 (And.intro hp g2))
 clear h hg hp g0 g2
 go_enter Tryz.func218,Tryz.ntmps218
 go_upto_region 1 with fail
 refine bG (n:=7) (S:=fun w'=>w'.cell? ⟨bt,1,none⟩=some (.pointer (some ⟨p,0,none⟩))∧w'.cell? ⟨p,0,none⟩=some (.pointer (some ⟨pA,0,none⟩))∧w'.cell? ⟨bx,0,none⟩=some (.int .i64 r)) (ds:= [6]) (by kernel_rfl) rfl EN zO HC.out (fun hHeld HT_ HW_=>?_)
 have HW:=Am_ (HW.out.step (w1:=w.drew) (Nat.le_refl _) (fun _ _ _=>rfl))
 have HM:=Am_ ((Moves.refl okS w).drew)
 clear HC
 generalize World.drew _=w1 at HW HM hHeld ⊢
 refine eO [(0,some 3),(1,some 4),(2,some 5),(3,some 6),(4,some 7),(5,some 8)] ?_
 (refine dZ (v:=?_) (a':=?_) HT_ (by kernel_rfl) rfl rfl (fun _ _ _ h=>h) (Or.inl ⟨by rfl,?_⟩) ?_ ?_;rotate_left;(intro w';go_simp;with_reducible rfl);rotate_left;(simp only [Act.put,p1_,p2_,p3_,ax,ay];rfl))
 iterate 5 (refine iW (v:=?_) (a':=?_) HT_ HW_ (by kernel_rfl) rfl rfl (fun _ _ _ h=>h) hHeld (Or.inl ⟨by rfl,?_⟩) ?_ ?_;rotate_left;(rintro w' ⟨s0,s1,s2⟩;go_simp;with_reducible rfl);rotate_left;(simp only [Act.put,p1_,p2_,p3_,ax,ay];rfl))
 refine aZ ?_
 refine bP (i:=6) (some 9) HT_ (by kernel_rfl) rfl rfl (by decide) (fun K_ hK=>?_)
 refine call_ 219 #[.pointer (some ⟨pA,0,none⟩),.int .i64 r] (by rfl) rfl ?hrun6 ?_
 (case hrun6=>first | (go_simp;done) | (go_simp;exact enters Tryz.func219 (by kernel_rfl) rfl _ _))
 refine (qA r _ HW.out.ar HG.out.ar.fits.slots).mono ?_
 rintro e w2 ⟨rfl,hA,hM⟩
 have X2:=Am_ hA
 have M2:=Am_ hM
 clear hA hM
 refine ⟨_,rfl,?_⟩
 refine hK.out _ _ ?_
 clear hK K_
 refine bK (a':=?_) ?_ ?_
 rotate_left; · show Act.put _ (some 9) _=_;simp only [Act.put,p1_,p2_,p3_,ax,ay];rfl
 refine dD (bI HT_.out (by kernel_rfl)) ?_
 go_wp2_with fail
 go_ret
 exact ⟨_,rfl,⟨⟨_,_,_,_,_,_,(HW.out.cK X2.out M2.out).1⟩,⟨HG.out.ar.iU r,HG.out.ep,HG.out.tb⟩⟩,HM.out.trans (HW.out.cK X2.out M2.out).2⟩
def FN:Bool × List (List Nat × List Nat):=(true,[([],[]),([0],[0]),([1],[1]),([2],[2]),([3],[3]),([],[]),([5],[5]),([6],[6]),([7],[7]),([],[]),([9],[9]),([],[]),([11],[11]),([],[]),([13],[13]),([4,8,10,12,14],[4,8,10,12,14]),([15,15,0,1,2,3,4,5,6,7,8,9,10,11,12,13,14,15],[15])])
def JR:List Nat:= [0,1,3,7,15,0,32,96,224,0,512,0,2048,0,8192,32767,65535]
theorem EO:fq .any (opsOf Tryz.f220 1)=FN:=by kernel_rfl
theorem zP:bA FN.2 JR=true:=by kernel_rfl
theorem yw (p:Nat) (x:Ws) (r i old now:Int) (gN nN cN:Nat) (w:World) (okS:Nat→Prop) (bt br:Nat) (h:shW p x okS w) (g0:w.cell? ⟨bt,1,none⟩=some (.pointer (some ⟨p,0,none⟩))) (g2:w.cell? ⟨br,0,none⟩=some (.slice (some ⟨gN,0,none⟩) nN cN)) (g3:w.cell? ⟨gN,0,none⟩=some (.int .i64 r)) (g4:w.cell? ⟨br,3,none⟩=some (.int .i64 i)) (g5:w.cell? ⟨br,4,none⟩=some (.int .i64 old)) (g6:w.cell? ⟨br,5,none⟩=some (.int .i64 now)) (hi:0<nN):
  Calls Tryz.prog 220 #[.pointer (some ⟨bt,0,none⟩),.pointer (some ⟨br,0,none⟩)] w fun e w2=> ∃ okS1,e= .returned (.bool (x.ar.gK r i old now).1)∧shW p { x with ar:=(x.ar.gK r i old now).2 } okS1 w2∧Moves okS okS1 w w2:=by
 obtain ⟨⟨okA,okR,okE,pA,pR,pE,h⟩,hg⟩:=h
 have HW:=Am_ h
 have HG:=Am_ hg
 have hp:=(af h.box 0).trans (rfl:_=some (Value.pointer (some ⟨pA,0,none⟩)))
 have b2:(0:Int)<(nN:Int):=by omega
 have b3:0<nN:=hi
 have HC:=Am_ (And.intro g0 (And.intro hp (And.intro g2 (And.intro g3 (And.intro g4 (And.intro g5 g6))))))
 clear h hg hp g0 g2 g3 g4 g5 g6 hi
 go_enter Tryz.func220,Tryz.ntmps220
 go_upto_region 1 with fail
 refine bG (n:=17) (S:=fun w'=>w'.cell? ⟨bt,1,none⟩=some (.pointer (some ⟨p,0,none⟩))∧w'.cell? ⟨p,0,none⟩=some (.pointer (some ⟨pA,0,none⟩))∧w'.cell? ⟨br,0,none⟩=some (.slice (some ⟨gN,0,none⟩) nN cN)∧w'.cell? ⟨gN,0,none⟩=some (.int .i64 r)∧w'.cell? ⟨br,3,none⟩=some (.int .i64 i)∧w'.cell? ⟨br,4,none⟩=some (.int .i64 old)∧w'.cell? ⟨br,5,none⟩=some (.int .i64 now)) (ds:= [15]) (by kernel_rfl) rfl EO zP HC.out (fun hHeld HT_ HW_=>?_)
 have HW:=Am_ (HW.out.step (w1:=w.drew) (Nat.le_refl _) (fun _ _ _=>rfl))
 have HM:=Am_ ((Moves.refl okS w).drew)
 clear HC
 generalize World.drew _=w1 at HW HM hHeld ⊢
 refine eO [(0,some 3),(1,some 4),(2,some 5),(3,some 6),(4,some 7),(5,some 8),(6,some 9),(7,some 10),(8,some 11),(9,some 12),(10,some 13),(11,some 14),(12,some 15),(13,some 16),(14,some 17)] ?_
 (refine dZ (v:=?_) (a':=?_) HT_ (by kernel_rfl) rfl rfl (fun _ _ _ h=>h) (Or.inl ⟨by rfl,?_⟩) ?_ ?_;rotate_left;(intro w';go_simp;with_reducible rfl);rotate_left;(simp only [Act.put,p1_,p2_,p3_,ax,ay];rfl))
 iterate 14 (refine iW (v:=?_) (a':=?_) HT_ HW_ (by kernel_rfl) rfl rfl (fun _ _ _ h=>h) hHeld (Or.inl ⟨by rfl,?_⟩) ?_ ?_;rotate_left;(rintro w' ⟨s0,s1,s2,s3,s4,s5,s6⟩;go_simp;with_reducible rfl);rotate_left;(simp only [Act.put,p1_,p2_,p3_,ax,ay];rfl))
 refine aZ ?_
 refine bP (i:=15) (some 18) HT_ (by kernel_rfl) rfl rfl (by decide) (fun K_ hK=>?_)
 refine call_ 111 #[.pointer (some ⟨pA,0,none⟩),.int .i64 r,.int .i64 i,.int .i64 old,.int .i64 now] (by rfl) rfl ?hrun15 ?_
 (case hrun15=>first | (go_simp;done) | (go_simp;exact enters Tryz.func111 (by kernel_rfl) rfl _ _))
 refine (qJ r i old now _ HW.out.ar HG.out.ar.fits.slots).mono ?_
 rintro e w2 ⟨rfl,hA,hM⟩
 have X2:=Am_ hA
 have M2:=Am_ hM
 clear hA hM
 refine ⟨_,rfl,?_⟩
 refine hK.out _ _ ?_
 clear hK K_
 refine bK (a':=?_) ?_ ?_
 rotate_left; · show Act.put _ (some 18) _=_;simp only [Act.put,p1_,p2_,p3_,ax,ay];rfl
 refine eO [(16,some 2)] ?_
 (refine dZ (v:=?_) (a':=?_) HT_ (by kernel_rfl) rfl rfl (fun _ _ _ h=>h) (Or.inl ⟨by rfl,?_⟩) ?_ ?_;rotate_left;(intro w';go_simp;with_reducible rfl);rotate_left;(simp only [Act.put,p1_,p2_,p3_,ax,ay];rfl))
 refine aZ ?_
 refine dD (bI HT_.out (by kernel_rfl)) ?_
 go_wp2_with fail
 go_ret
 exact ⟨_,rfl,⟨⟨_,_,_,_,_,_,(HW.out.cK X2.out M2.out).1⟩,⟨HG.out.ar.gK r i old now,HG.out.ep,HG.out.tb⟩⟩,HM.out.trans (HW.out.cK X2.out M2.out).2⟩
end Go.Proofs.YtmnjjdeaccgjlaaGreat.Tower
namespace Go.Proofs.YtmnjjdeaccgjlaaGreat.Own
open Go Go.RowKit Go.Proofs.YtmnjjdeaccgjlaaGreatW.PrintWords
def sets (w:World) (b:Nat):List (Nat × Value)→World
 | []=>w
 | (j,u)::l=>sets (w.setCell ⟨b,j,none⟩ u) b l
def Ja (cs:Array Value):List (Nat × Value)→Array Value
 | []=>cs
 | (j,u)::l=>Ja (cs.setIfInBounds j u) l
section
variable {ok ok1:Nat→Prop} {b:Nat}
theorem gW: ∀ (l:List (Nat × Value)) (w:World),(sets w b l).heap.size=w.heap.size
 | [],_=>rfl
 | (j,u)::l,w=>by rw [sets,gW l];simp [World.setCell]
theorem dI {k:Nat} (h:k≠b): ∀ (l:List (Nat × Value)) (w:World),(sets w b l).heap[k]?=w.heap[k]?
 | [],_=>rfl
 | (j,u)::l,w=>by rw [sets,dI h l];exact Below.heap_setCell w ⟨b,j,none⟩ u k h
theorem fO {w:World} (hb:ok b∨w.heap.size≤b): ∀ (l:List (Nat × Value)) {w1:World},Moves ok ok1 w w1→Moves ok ok1 w (sets w1 b l)
 | [],_,h=>h
 | (j,u)::l,w1,h=>fO hb l (h.set (p:=⟨b,j,none⟩) hb u)
theorem wh {t:TypeId}: ∀ (l:List (Nat × Value)) {w:World} {cs:Array Value},w.heap[b]?=some (.cells cs t (0,0))→(sets w b l).heap[b]?=some (.cells (Ja cs l) t (0,0))
 | [],_,_,h=>h
 | (j,u)::l,w,cs,h=>wh l (bH h j u)
theorem Mine.sets {t:TypeId} (l:List (Nat × Value)) {w:World} {cs:Array Value} (h:Mine ok w b (.cells cs t (0,0))):Mine ok (sets w b l) b (.cells (Ja cs l) t (0,0)):=⟨wh l h.1,h.2⟩
theorem Mine.dI {g:Nat} {o:Obj} (l:List (Nat × Value)) {w:World} (h:Mine ok w g o) (hg:g≠b):Mine ok (Own.sets w b l) g o:=⟨(Own.dI hg l w).trans h.1,h.2⟩
theorem lQ {w w1:World} (h:Below w.heap.size w w1) (hb:w.heap.size≤b) (l:List (Nat × Value)):Below w.heap.size w (sets w1 b l):=Moves.outer (fO (ok:=fun _=>False) (ok1:=fun _=>False) (.inr hb) l (Moves.bE _ h)) (fun _ h=>h.elim)
end
end Go.Proofs.YtmnjjdeaccgjlaaGreat.Own
namespace Go.Proofs.YtmnjjdeaccgjlaaGreat.Tower
open Go Go.RowKit Go.Proofs.YtmnjjdeaccgjlaaGreatW.PrintWords Go.Proofs.YtmnjjdeaccgjlaaGreatW.PrintLast Go.Proofs.YtmnjjdeaccgjlaaGreatW.PrintMore Go.Proofs.YtmnjjdeaccgjlaaGreat.Own
def Flat (A:Option Addr):Prop:= ∀ ad,A=some ad→ ∃ g,ad=⟨g,0,none⟩
theorem Flat.nil:Flat none:=fun _ e=>by cases e
theorem vw {α:Type} {d:Kd α} {e base n c:Nat} {W:World} {ok:Nat→Prop} {A:Option Addr} {xs:List α} (h:d.R e W base ok (.slice A n c) xs):Flat A:=fun ad e=>by
 subst e
 obtain ⟨g,e⟩:=Kd.oP h
 exact ⟨g,e⟩
def rcV (r:Rc) (A:Option Addr) (c:Nat) (A1:Option Addr) (c1:Nat):Value:= .agg #[.slice A r.nodes.length c,.slice A1 r.infos.length c1,.int .i64 r.keep,.int .i64 r.way,.int .i64 r.old,.int .i64 r.new]
structure Fx (r:Rc) (w:World) (e:Ending) (w1:World):Prop where
 out: ∃ A c A1 c1,e= .returned (rcV r A c A1 c1)∧r.nodes.length≤c∧(Kd.int .i64).F w1 (fun k=>w.heap.size≤k) A r.nodes.length r.nodes∧r.infos.length≤c1∧(Kd.int .i64).F w1 (fun k=>w.heap.size≤k) A1 r.infos.length r.infos∧Below w.heap.size w w1∧Flat A∧Flat A1
def zh:Bool × List (List Nat × List Nat):=(true,[([],[]),([0],[0]),([1],[1]),([],[]),([3],[3]),([4,2],[4]),([0,1,2,3,4],[]),([6,2,5,0,1,2,3,4],[2,6]),([0,1,2,3,4,5,6,7],[]),([8,5,7,0,1,2,3,4,5,6,7],[5,8])])
def GQ:List Nat:= [0,1,3,0,8,31,31,127,255,511]
theorem Ck:fq .any (opsOf Tryz.f208 5)=zh:=by kernel_rfl
theorem wR:bA zh.2 GQ=true:=by kernel_rfl
theorem Ju {ok:Nat→Prop} {p:Nat} {t:Tb} (m:Int) (w:World) (h:IsTable ok p t w) (hg:t.Good):
  Calls Tryz.prog 208 #[.pointer (some ⟨p,0,none⟩),.int .i64 m] w (Fx (t.en m).rc w):=by
 obtain ⟨v,eb,nv,iv,ρ,h⟩:=h
 have hlen:t.l.length<1000000:=by have:=hg.most;have:=hg.len;omega
 have HA:=Am_ (fun w1 (hb:Below w.heap.size w w1)=>Cw m w1 (h.step hb.size (fun k _ hlt=>hb.block k hlt)) hlen)
 have B4:=Am_ (Mine.new (ok:=fun _=>False) (w:=w) (fun k hk=>hk.elim) (.cells #[.slice none 0 0,.slice none 0 0,.int .i64 0,.int .i64 0,.int .i64 0,.int .i64 0] 254))
 have BB:=Am_ (ai (Below.refl w.heap.size w) (.cells #[.slice none 0 0,.slice none 0 0,.int .i64 0,.int .i64 0,.int .i64 0,.int .i64 0] 254))
 cases hi:t.idx m with
 | none=>
  have e1:(t.en m).rc=rc0:=by unfold Tb.en;rw [hi];rfl
  have e2:atV eb t m= .pointer none:=by unfold atV;rw [hi]
  rw [e1]
  rw [e2] at HA
  clear h hg hlen hi e1 e2
  go_enter Tryz.func208,Tryz.ntmps208
  go_upto_region 1 with fail
  generalize w.alloc (.cells #[.slice none 0 0,.slice none 0 0,.int .i64 0,.int .i64 0,.int .i64 0,.int .i64 0] 254)=w1 at B4 BB ⊢
  generalize hb4:w.heap.size=b4 at B4 ⊢
  have E4:=Am_ hb4
  clear hb4
  have y0:=(af B4.out.1 0).trans (rfl:_=some (Value.slice none 0 0))
  have y1:=(af B4.out.1 1).trans (rfl:_=some (Value.slice none 0 0))
  have y2:=(af B4.out.1 2).trans (rfl:_=some (Value.int .i64 0))
  have y3:=(af B4.out.1 3).trans (rfl:_=some (Value.int .i64 0))
  have y4:=(af B4.out.1 4).trans (rfl:_=some (Value.int .i64 0))
  have y5:=(af B4.out.1 5).trans (rfl:_=some (Value.int .i64 0))
  have z0:=ah B4.out.1 0
  have z1:=ah B4.out.1 1
  have z2:=ah B4.out.1 2
  have z3:=ah B4.out.1 3
  have z4:=ah B4.out.1 4
  have z5:=ah B4.out.1 5
  go_wp2_with (go_at_call 242;refine (HA.out _ BB.out).mono ?_;rintro e w2 ⟨rfl,rfl⟩)
  (try simp only [Exit.inBlock,Exit.then])
  refine bodyPost_ret (results_cell_row rfl _ _ b4 254 #[.slice none 0 0,.slice none 0 0,.int .i64 0,.int .i64 0,.int .i64 0,.int .i64 0] (0,0) _ rfl (Mine.set (Mine.set (Mine.set (Mine.set (Mine.set (Mine.set B4.out 0 (.slice none 0 0)) 1 (.slice none 0 0)) 2 (.int .i64 0)) 3 (.int .i64 0)) 4 (.int .i64 0)) 5 (.int .i64 0)).1 Tryz.underlying254 rfl (by kernel_rfl)) rfl ?_
  exact ⟨⟨none,0,none,0,rfl,Nat.le_refl _,Kd.jD _ _ _,Nat.le_refl _,Kd.jD _ _ _,Moves.outer (((((((Moves.bE (fun _=>False) BB.out).set (.inr (Nat.le_of_eq E4.out)) _).set (.inr (Nat.le_of_eq E4.out)) _).set (.inr (Nat.le_of_eq E4.out)) _).set (.inr (Nat.le_of_eq E4.out)) _).set (.inr (Nat.le_of_eq E4.out)) _).set (.inr (Nat.le_of_eq E4.out)) _) (fun _ h=>h.elim),Flat.nil,Flat.nil⟩⟩
 | some ix=>
  have e2:atV eb t m= .pointer (some ⟨eb ix,0,none⟩):=by unfold atV;rw [hi]
  rw [e2] at HA
  have hen:=Tb.mY hi
  obtain ⟨q1,q2,q3,q4,⟨A,c,qn,qc,qf⟩,⟨A1,c1,qn1,qc1,qf1⟩⟩:=h.ent ix _ hen
  have HL:=Am_ (hg.small ix _ hen)
  rw [qn,qn1] at q4
  have hlt:=h.lt _ q1
  have Q4:=Am_ (Below.heap_alloc w (.cells #[.slice none 0 0,.slice none 0 0,.int .i64 0,.int .i64 0,.int .i64 0,.int .i64 0] 254) _ hlt▸q4:(w.alloc (.cells #[.slice none 0 0,.slice none 0 0,.int .i64 0,.int .i64 0,.int .i64 0,.int .i64 0] 254)).heap[eb ix]?=_)
  have HN:=Am_ (Kd.gu qf)
  have HI:=Am_ (Kd.gu qf1)
  have HCC:=Am_ (And.intro qc qc1)
  generalize (t.en m).state=st at Q4
  generalize (t.en m).all=al at Q4
  generalize hrc:(t.en m).rc=rc at Q4 HN HI HL HCC ⊢
  obtain ⟨n,i,kp,wy,od,nw⟩:=rc
  clear hrc h hg hlen hi e2 hen q1 q2 q3 q4 qn qn1 qc qc1 qf qf1 hlt
  dsimp only at Q4 HN HI HL HCC
  go_enter Tryz.func208,Tryz.ntmps208
  go_upto_region 1 with fail
  have HN:=Am_ (Kd.bO HN.out (ai (Below.refl _ _) (.cells #[.slice none 0 0,.slice none 0 0,.int .i64 0,.int .i64 0,.int .i64 0,.int .i64 0] 254)))
  have HI:=Am_ (Kd.bO HI.out (ai (Below.refl _ _) (.cells #[.slice none 0 0,.slice none 0 0,.int .i64 0,.int .i64 0,.int .i64 0,.int .i64 0] 254)))
  generalize w.alloc (.cells #[.slice none 0 0,.slice none 0 0,.int .i64 0,.int .i64 0,.int .i64 0,.int .i64 0] 254)=w1 at B4 BB Q4 HN HI ⊢
  generalize hb4:w.heap.size=b4 at B4 ⊢
  have E4:=Am_ hb4
  clear hb4
  have y0:=(af Q4.out 0).trans (rfl:_=some (Value.slice A n.length c))
  have y1:=(af Q4.out 1).trans (rfl:_=some (Value.slice A1 i.length c1))
  have y2:=(af Q4.out 2).trans (rfl:_=some (Value.int .i64 kp))
  have y3:=(af Q4.out 3).trans (rfl:_=some (Value.int .i64 wy))
  have y4:=(af Q4.out 4).trans (rfl:_=some (Value.int .i64 od))
  have y5:=(af Q4.out 5).trans (rfl:_=some (Value.int .i64 nw))
  go_upto_region 5 with (go_at_call 242;refine (HA.out _ BB.out).mono ?_;rintro e w2 ⟨rfl,rfl⟩)
  clear y0 y1 y2 y3 y4 y5 Q4
  have B6:=Am_ (Mine.new (ok:=fun _=>False) (w:=w2) (fun k hk=>hk.elim) (.cells #[.slice A n.length c,.slice A1 i.length c1,.int .i64 kp,.int .i64 wy,.int .i64 od,.int .i64 nw] 254))
  have Z6:ak (b4<w2.heap.size):=⟨B4.out.lt⟩
  have B4:=Am_ (B4.out.alloc (.cells #[.slice A n.length c,.slice A1 i.length c1,.int .i64 kp,.int .i64 wy,.int .i64 od,.int .i64 nw] 254))
  have BB:=Am_ (aY BB.out BB.out.size (ai (Below.refl w2.heap.size w2) (.cells #[.slice A n.length c,.slice A1 i.length c1,.int .i64 kp,.int .i64 wy,.int .i64 od,.int .i64 nw] 254)))
  have HN:=Am_ (Kd.bO HN.out (ai (Below.refl _ _) (.cells #[.slice A n.length c,.slice A1 i.length c1,.int .i64 kp,.int .i64 wy,.int .i64 od,.int .i64 nw] 254)))
  have HI:=Am_ (Kd.bO HI.out (ai (Below.refl _ _) (.cells #[.slice A n.length c,.slice A1 i.length c1,.int .i64 kp,.int .i64 wy,.int .i64 od,.int .i64 nw] 254)))
  generalize w2.alloc (.cells #[.slice A n.length c,.slice A1 i.length c1,.int .i64 kp,.int .i64 wy,.int .i64 od,.int .i64 nw] 254)=w1 at B6 B4 BB HN HI ⊢
  generalize w2.heap.size=b6 at B6 Z6 ⊢
  refine bG (n:=10) (S:=fun w'=>w'.cell? ⟨b6,0,none⟩=some (.slice A n.length c)∧w'.cell? ⟨b6,1,none⟩=some (.slice A1 i.length c1)) (ds:= [7,9]) (by kernel_rfl) rfl Ck wR ⟨(af B6.out.1 0).trans rfl,(af B6.out.1 1).trans rfl⟩ (fun hHeld HT_ HW_=>?_)
  have B6:=Am_ (B6.out.moves (Moves.drew (Moves.refl _ _)))
  have B4:=Am_ (B4.out.moves (Moves.drew (Moves.refl _ _)))
  have BB:=Am_ (aY BB.out BB.out.size (aM (Below.refl _ _)))
  have HN:=Am_ (Kd.bO HN.out (aM (Below.refl _ _)))
  have HI:=Am_ (Kd.bO HI.out (aM (Below.refl _ _)))
  generalize World.drew _=w2 at B6 B4 BB HN HI hHeld ⊢
  refine eO [(0,some 17),(1,some 18),(3,some 20),(4,some 21)] ?_
  (refine dZ (v:=?_) (a':=?_) HT_ (by kernel_rfl) rfl rfl (fun _ _ _ h=>h) (Or.inl ⟨by rfl,?_⟩) ?_ ?_;rotate_left;(intro w';go_simp;with_reducible rfl);rotate_left;(simp only [Act.put,p1_,p2_,p3_,ax,ay];rfl))
  iterate 3 (refine iW (v:=?_) (a':=?_) HT_ HW_ (by kernel_rfl) rfl rfl (fun _ _ _ h=>h) hHeld (Or.inl ⟨by rfl,?_⟩) ?_ ?_;rotate_left;(rintro w' ⟨s0,s1⟩;go_simp;with_reducible rfl);rotate_left;(simp only [Act.put,p1_,p2_,p3_,ax,ay];rfl))
  refine aZ ?_
  refine dR (i:=2) (some 19) HT_ (by kernel_rfl) rfl rfl (by decide) (fun K_ hK=>?_)
  refine call_ 144 #[.slice A n.length c] (by rfl) rfl ?hrun2 ?_
  (case hrun2=>first | (go_simp;done) | (go_simp;exact enters Tryz.func144 (by kernel_rfl) rfl _ _))
  refine (gP A n.length c n _ HN.out HL.out.1).mono ?_
  rintro e w3 ⟨v1,rfl,hv,hb⟩
  have hz6:=B6.out.lt
  have hz4:=B4.out.lt
  obtain ⟨A3,c3,rfl⟩:=Kd.aJ hv
  have V1:=Am_ hv
  have B6:=Am_ (B6.out.moves (Moves.bE _ hb))
  have B4:=Am_ (B4.out.moves (Moves.bE _ hb))
  have HI:=Am_ (Kd.bO HI.out hb)
  have BB:=Am_ (aY BB.out BB.out.size hb)
  have Z3:=Am_ (And.intro hz6 hz4)
  clear hz6 hz4
  clear hv hb HN
  refine ⟨_,rfl,?_⟩
  refine hK.out _ _ ⟨(af B6.out.1 0).trans rfl,(af B6.out.1 1).trans rfl⟩ (fun hHeld=>?_)
  clear hK K_
  refine bK (a':=?_) ?_ ?_
  rotate_left; · show Act.put _ (some 19) _=_;simp only [Act.put,p1_,p2_,p3_,ax,ay];rfl
  refine eO [(6,some 23)] ?_
  (refine dZ (v:=?_) (a':=?_) HT_ (by kernel_rfl) rfl rfl (fun _ _ _ h=>h) (Or.inl ⟨by rfl,?_⟩) ?_ ?_;rotate_left;(intro w';go_simp;with_reducible rfl);rotate_left;(simp only [Act.put,p1_,p2_,p3_,ax,ay];rfl))
  refine aZ ?_
  refine dR (i:=5) (some 22) HT_ (by kernel_rfl) rfl rfl (by decide) (fun K_ hK=>?_)
  refine call_ 143 #[.slice A1 i.length c1] (by rfl) rfl ?hrun5 ?_
  (case hrun5=>first | (go_simp;done) | (go_simp;exact enters Tryz.func143 (by kernel_rfl) rfl _ _))
  refine (jg A1 i.length c1 i _ HI.out HL.out.2).mono ?_
  rintro e w4 ⟨v2,rfl,hv,hb⟩
  have hz6:=B6.out.lt
  have hz4:=B4.out.lt
  obtain ⟨A4,c4,rfl⟩:=Kd.aJ hv
  have V2:=Am_ hv
  have V1:=Am_ (Kd.bQ (Kd.bL V1.out) (fun k hk hlt=>hb.block k hlt))
  have B6:=Am_ (B6.out.moves (Moves.bE _ hb))
  have B4:=Am_ (B4.out.moves (Moves.bE _ hb))
  have BB:=Am_ (aY BB.out BB.out.size hb)
  have Z4:=Am_ (And.intro hz6 hz4)
  clear hv hb HI hz6 hz4
  refine ⟨_,rfl,?_⟩
  refine hK.out _ _ ⟨(af B6.out.1 0).trans rfl,(af B6.out.1 1).trans rfl⟩ (fun hHeld=>?_)
  clear hK K_
  refine bK (a':=?_) ?_ ?_
  rotate_left; · show Act.put _ (some 22) _=_;simp only [Act.put,p1_,p2_,p3_,ax,ay];rfl
  have y0:=(af B6.out.1 0).trans (rfl:_=some (Value.slice A n.length c))
  have y1:=(af B6.out.1 1).trans (rfl:_=some (Value.slice A1 i.length c1))
  have z0:=ah B6.out.1 0
  have z1:=ah B6.out.1 1
  refine bP (i:=7) none HT_ (by kernel_rfl) rfl rfl (by decide) (fun K_ hK=>?_)
  refine fB (w1:=?_) (by rfl) rfl ?_ ?_
  rotate_left; · go_simp;rfl
  refine hK.out _ _ ?_
  clear hK K_
  refine eO [(8,some 24)] ?_
  (refine dZ (v:=?_) (a':=?_) HT_ (by kernel_rfl) rfl rfl (fun _ _ _ h=>h) (Or.inl ⟨by rfl,?_⟩) ?_ ?_;rotate_left;(intro w';go_simp;with_reducible rfl);rotate_left;(simp only [Act.put,p1_,p2_,p3_,ax,ay];rfl))
  refine aZ ?_
  have BB:=Am_ (lQ (b:=b6) BB.out (by have:=E4.out;have:=Z6.out;omega) [(0,(.slice A3 n.length c3))])
  have V1:=Am_ (Kd.bQ (Kd.bL V1.out) (fun k hk _=>dI (b:=b6) (by have:=hk.2.1;have:=Z3.out.1;omega) [(0,(.slice A3 n.length c3))] w4))
  have V2:=Am_ (Kd.bQ (Kd.bL V2.out) (fun k hk _=>dI (b:=b6) (by have:=hk.2.1;have:=Z4.out.1;omega) [(0,(.slice A3 n.length c3))] w4))
  have B4:=Am_ (B4.out.dI (b:=b6) [(0,(.slice A3 n.length c3))] (by have:=Z6.out;omega))
  have B6:=Am_ (B6.out.set 0 (.slice A3 n.length c3))
  clear y0 y1 z0 z1
  unfold sets sets at BB V1 V2 B4
  generalize w4.setCell ⟨b6,0,none⟩ (.slice A3 n.length c3)=w5 at BB V1 V2 B4 B6 ⊢
  have y1:=(af B6.out.1 1).trans (rfl:_=some (Value.slice A1 i.length c1))
  have z1:=ah B6.out.1 1
  refine bP (i:=9) none HT_ (by kernel_rfl) rfl rfl (by decide) (fun K_ hK=>?_)
  refine fB (w1:=?_) (by rfl) rfl ?_ ?_
  rotate_left; · go_simp;rfl
  refine hK.out _ _ ?_
  clear hK K_
  have BB:=Am_ (lQ (b:=b6) BB.out (by have:=E4.out;have:=Z6.out;omega) [(1,(.slice A4 i.length c4))])
  have V1:=Am_ (Kd.bQ (Kd.bL V1.out) (fun k hk _=>dI (b:=b6) (by have:=hk.2.1;have:=Z3.out.1;omega) [(1,(.slice A4 i.length c4))] w5))
  have V2:=Am_ (Kd.bQ (Kd.bL V2.out) (fun k hk _=>dI (b:=b6) (by have:=hk.2.1;have:=Z4.out.1;omega) [(1,(.slice A4 i.length c4))] w5))
  have B4:=Am_ (B4.out.dI (b:=b6) [(1,(.slice A4 i.length c4))] (by have:=Z6.out;omega))
  have B6:=Am_ (B6.out.set 1 (.slice A4 i.length c4))
  clear y1 z1
  unfold sets sets at BB V1 V2 B4
  generalize w5.setCell ⟨b6,1,none⟩ (.slice A4 i.length c4)=w6 at BB V1 V2 B4 B6 ⊢
  refine dD (bI HT_.out (by kernel_rfl)) ?_
  have y0:=(af B6.out.1 0).trans (rfl:_=some (Value.slice A3 n.length c3))
  have y1:=(af B6.out.1 1).trans (rfl:_=some (Value.slice A4 i.length c4))
  have y2:=(af B6.out.1 2).trans (rfl:_=some (Value.int .i64 kp))
  have y3:=(af B6.out.1 3).trans (rfl:_=some (Value.int .i64 wy))
  have y4:=(af B6.out.1 4).trans (rfl:_=some (Value.int .i64 od))
  have y5:=(af B6.out.1 5).trans (rfl:_=some (Value.int .i64 nw))
  have x0:=(af B4.out.1 0).trans (rfl:_=some (Value.slice none 0 0))
  have x1:=(af B4.out.1 1).trans (rfl:_=some (Value.slice none 0 0))
  have x2:=(af B4.out.1 2).trans (rfl:_=some (Value.int .i64 0))
  have x3:=(af B4.out.1 3).trans (rfl:_=some (Value.int .i64 0))
  have x4:=(af B4.out.1 4).trans (rfl:_=some (Value.int .i64 0))
  have x5:=(af B4.out.1 5).trans (rfl:_=some (Value.int .i64 0))
  have z0:=ah B4.out.1 0
  have z1:=ah B4.out.1 1
  have z2:=ah B4.out.1 2
  have z3:=ah B4.out.1 3
  have z4:=ah B4.out.1 4
  have z5:=ah B4.out.1 5
  go_wp2_with fail
  (try simp only [Exit.inBlock,Exit.then])
  show bodyPost _ _ _ _ _ (sets w6 b4 [(0,.slice A3 n.length c3),(1,.slice A4 i.length c4),(2,.int .i64 kp),(3,.int .i64 wy),(4,.int .i64 od),(5,.int .i64 nw)])
  refine bodyPost_ret (results_cell_row rfl _ _ b4 254 _ (0,0) _ rfl (B4.out.sets [(0,.slice A3 n.length c3),(1,.slice A4 i.length c4),(2,.int .i64 kp),(3,.int .i64 wy),(4,.int .i64 od),(5,.int .i64 nw)]).1 Tryz.underlying254 rfl (by kernel_rfl)) rfl ?_
  exact ⟨⟨A3,c3,A4,c4,rfl,(Kd.bM V1.out).2.1,Kd.dh (Kd.eU (Kd.R_F V1.out) (fun k hk _=>dI (b:=b4) (by have:=hk.2.1;have:=Z3.out.2;omega) [(0,.slice A3 n.length c3),(1,.slice A4 i.length c4),(2,.int .i64 kp),(3,.int .i64 wy),(4,.int .i64 od),(5,.int .i64 nw)] w6)) (fun k hk=>by have:=hk.2.1;have:=Z3.out.2;have:=E4.out;omega),(Kd.bM V2.out).2.1,Kd.dh (Kd.eU (Kd.R_F V2.out) (fun k hk _=>dI (b:=b4) (by have:=hk.2.1;have:=Z4.out.2;omega) [(0,.slice A3 n.length c3),(1,.slice A4 i.length c4),(2,.int .i64 kp),(3,.int .i64 wy),(4,.int .i64 od),(5,.int .i64 nw)] w6)) (fun k hk=>by have:=hk.2.1;have:=Z4.out.2;have:=E4.out;omega),lQ (b:=b4) BB.out (Nat.le_of_eq E4.out) [(0,.slice A3 n.length c3),(1,.slice A4 i.length c4),(2,.int .i64 kp),(3,.int .i64 wy),(4,.int .i64 od),(5,.int .i64 nw)],vw V1.out,vw V2.out⟩⟩
theorem gL.push {ok:Nat→Prop} {p N0 g:Nat} {v v1:Value} {eb:Nat→Nat} {nv iv:Nat→Value} {ρ:Nat→Nat} {t:Tb} {W w1:World} {nvv ivv:Value} {e:En} (h:gL ok p v eb nv iv ρ t W) (h0: ∀ k,ok k→k<N0) (hg0:N0≤g) (hgW:g<W.heap.size)
  (hb:W.heap[g]?=some (.cells (mF nvv ivv e) 289 (0,0))) (hn:SlF (Kd.int .i64) W (fun k=>N0≤k∧k<g) nvv e.rc.nodes) (hi:SlF (Kd.int .i64) W (fun k=>N0≤k∧k<g) ivv e.rc.infos) (hg:W.grownBy w1 v.ownBlock)
  (hr:(Kd.raw 1).R 287 w1 0 (fun k=>(ok k∧ρ k=1)∨W.heap.size≤k) v1 (((List.range t.l.length).map fun i=> [Value.pointer (some ⟨eb i,0,none⟩)])++ [[Value.pointer (some ⟨g,0,none⟩)]])):
  gL (fun k=>ok k∨(N0≤k∧k<w1.heap.size)) p v1 (fun i=>if i=t.l.length then g else eb i) (fun i=>if i=t.l.length then nvv else nv i) (fun i=>if i=t.l.length then ivv else iv i) (fun k=>if k<N0 then ρ k else if k=g then 2 else if k<g then 3 else 1) { t with l:=t.l++ [e] } (w1.setCell ⟨p,0,none⟩ v1):=by
 have hp0:=h0 p h.own
 have hs:(w1.setCell ⟨p,0,none⟩ v1).heap.size=w1.heap.size:=by simp [World.setCell]
 have hne: ∀ k,(ok k∧ρ k≠1)→some k≠v.ownBlock:=fun k hk e=>hk.2 (h.row.1 k e.symm).2
 have hmove: ∀ k,(ok k∧ρ k≠1∧ρ k≠0)→k<W.heap.size→(w1.setCell ⟨p,0,none⟩ v1).heap[k]?=W.heap[k]?:=fun k hk hlt=>
  (Below.heap_setCell w1 ⟨p,0,none⟩ v1 k (fun e=>hk.2.2 (by rw [show k=p from e];exact h.role))).trans (hg.block k hlt (hne k ⟨hk.1,hk.2.1⟩))
 have hnew: ∀ k,N0≤k→k<W.heap.size→(w1.setCell ⟨p,0,none⟩ v1).heap[k]?=W.heap[k]?:=fun k hk hlt=>
  (Below.heap_setCell w1 ⟨p,0,none⟩ v1 k (fun e=>by have e1:k=p:=e;omega)).trans (hg.block k hlt (fun e=>by have:=h0 k (h.row.1 k e.symm).1;omega))
 have hup: ∀ r k,(ok k∧ρ k=r)→((ok k∨(N0≤k∧k<w1.heap.size))∧(if k<N0 then ρ k else if k=g then 2 else if k<g then 3 else 1)=r):=fun r k hk=>⟨.inl hk.1,by rw [if_pos (h0 k hk.1)];exact hk.2⟩
 have hW1:=hg.size
 exact {
  own:= .inl h.own
  role:=by rw [if_pos hp0];exact h.role
  lt:=fun k hk=>by
   rw [hs]
   rcases hk with hk | hk
   ·exact Nat.lt_of_lt_of_le (h.lt k hk) hW1
   ·exact hk.2
  box:=by
   have hb0:=bJ h.box hg (hne p ⟨h.own,by rw [h.role];decide⟩)
   exact bH hb0 0 v1
  row:=by
   have e1:((List.range t.l.length).map fun i=> [Value.pointer (some ⟨eb i,0,none⟩)])++ [[Value.pointer (some ⟨g,0,none⟩)]]=(List.range ({ t with l:=t.l++ [e] }:Tb).l.length).map fun i=> [Value.pointer (some ⟨if i=t.l.length then g else eb i,0,none⟩)]:=by
    show _=(List.range (t.l++ [e]).length).map _
    rw [List.length_append,List.length_singleton,List.range_succ,List.map_append,List.map_singleton,if_pos rfl]
    congr 1
    apply List.map_congr_left
    intro i hi
    rw [if_neg (by have:=List.mem_range.1 hi;omega)]
   rw [←e1]
   refine Kd.bV (Kd.bq (Kd.bL hr) (fun k hk=>?_)) (fun k hk e=>?_) v1
   ·have hlt:=hk.2.2.1
    rcases hk.1 with h1 | h1
    ·exact hup 1 k h1
    ·exact ⟨.inr ⟨by omega,hlt⟩,by rw [if_neg (by omega),if_neg (by omega),if_neg (by omega)]⟩
   ·have:=hk.2
    rw [show k=p from e,if_pos hp0,h.role] at this
    cases this
  ent:=fun i q hq=>by
   by_cases hil:i<t.l.length
   ·rw [List.getElem?_append_left hil] at hq
    have hni: ¬ i=t.l.length:=by omega
    simp only [if_neg hni]
    obtain ⟨q1,q2,q3,q4,q5,q6⟩:=h.ent i q hq
    refine ⟨.inl q1,by rw [if_pos (h0 _ q1)];exact q2,fun j hj=>?_,?_,?_,?_⟩
    ·rw [if_neg (by omega)]
     exact q3 j hj
    ·exact (hmove _ ⟨q1,by rw [q2];decide,by rw [q2];decide⟩ (h.lt _ q1)).trans q4
    ·exact (q5.step (fun k hk hlt=>hmove k ⟨hk.1,by rw [hk.2];decide,by rw [hk.2];decide⟩ hlt)).mono (fun k hk _=>hup 3 k hk)
    ·exact (q6.step (fun k hk hlt=>hmove k ⟨hk.1,by rw [hk.2];decide,by rw [hk.2];decide⟩ hlt)).mono (fun k hk _=>hup 3 k hk)
   ·rw [List.getElem?_append_right (by omega)] at hq
    have hi0:i - t.l.length=0:=by
     have:=(List.getElem?_eq_some_iff.1 hq).1
     simp at this
     omega
    rw [hi0] at hq
    injection hq with hq
    subst hq
    have hie:i=t.l.length:=by omega
    simp only [if_pos hie]
    refine ⟨.inr ⟨hg0,by omega⟩,by rw [if_neg (by omega)];simp,fun j hj=>?_,?_,?_,?_⟩
    ·rw [if_neg (by omega)]
     obtain ⟨x,hx⟩: ∃ x,t.l[j]?=some x:=⟨_,List.getElem?_eq_getElem (by omega)⟩
     have:=h0 _ (h.ent j x hx).1
     omega
    ·exact (hnew g hg0 hgW).trans hb
    ·exact (hn.step (fun k hk hlt=>hnew k hk.1 hlt)).mono (fun k hk hlt=>⟨.inr ⟨hk.1,by omega⟩,by rw [if_neg (by omega),if_neg (by omega),if_pos hk.2]⟩)
    ·exact (hi.step (fun k hk hlt=>hnew k hk.1 hlt)).mono (fun k hk hlt=>⟨.inr ⟨hk.1,by omega⟩,by rw [if_neg (by omega),if_neg (by omega),if_pos hk.2]⟩) }
structure yO (ok:Nat→Prop) (p:Nat) (n:Int) (b:Bool) (t1:Tb) (w:World) (e:Ending) (w1:World):Prop where
 val:e= .returned (.tuple #[.int .i64 n,.bool b])
 out: ∃ ok1,IsTable ok1 p t1 w1∧Moves ok ok1 w w1
theorem Eb:(Tryz.prog.info? 287).map (fun i=>(i.zero,i.size,i.bytes))=some (some (.pointer none),1,8):=by kernel_rfl
theorem Bo {ok:Nat→Prop} {p:Nat} {t:Tb} (A:Option Addr) (c:Nat) (n:List Int) (A1:Option Addr) (c1:Nat) (i:List Int) (kp wy od nw:Int) (w:World) (h:IsTable ok p t w) (hg:t.Good) (hn:(Kd.int .i64).F w (fun k=> ¬ ok k) A n.length n) (hi:(Kd.int .i64).F w (fun k=> ¬ ok k) A1 n.length i) (hk:0≤kp) (hs:n.length<1000000) (hm:t.most≤t.l.length):
  Calls Tryz.prog 174 #[.pointer (some ⟨p,0,none⟩),.agg #[.slice A n.length c,.slice A1 n.length c1,.int .i64 kp,.int .i64 wy,.int .i64 od,.int .i64 nw]] w (yO ok p 0 false t w):=by
 obtain ⟨v,eb,nv,iv,ρ,h⟩:=h
 have hlt0:=h.lt
 have HLT:=Am_ hlt0
 have hlen:t.l.length<100000:=by have:=hg.most;have:=hg.len;omega
 have HL:=Am_ (And.intro hs hlen)
 have HT:=Am_ (h.step (w1:=w.alloc (.cells #[.slice A n.length c,.slice A1 n.length c1,.int .i64 kp,.int .i64 wy,.int .i64 od,.int .i64 nw] 254)) (by simp) (fun k _ hlt=>Below.heap_alloc _ _ _ hlt))
 have B6:=Am_ (Mine.new (ok:=ok) hlt0 (.cells #[.slice A n.length c,.slice A1 n.length c1,.int .i64 kp,.int .i64 wy,.int .i64 od,.int .i64 nw] 254))
 have HM:=Am_ ((Moves.refl ok w).alloc (.cells #[.slice A n.length c,.slice A1 n.length c1,.int .i64 kp,.int .i64 wy,.int .i64 od,.int .i64 nw] 254))
 have HN:=Am_ (Kd.bO (Kd.gu hn) (ai (Below.refl _ _) (.cells #[.slice A n.length c,.slice A1 n.length c1,.int .i64 kp,.int .i64 wy,.int .i64 od,.int .i64 nw] 254)))
 have HI:=Am_ (Kd.bO (Kd.gu hi) (ai (Below.refl _ _) (.cells #[.slice A n.length c,.slice A1 n.length c1,.int .i64 kp,.int .i64 wy,.int .i64 od,.int .i64 nw] 254)))
 obtain ⟨Ar,cr,rfl⟩:=Kd.aJ h.row
 have hll:((List.range t.l.length).map fun i=> [Value.pointer (some ⟨eb i,0,none⟩)]).length=t.l.length:=by simp
 rw [hll] at HT
 have dk:decide (kp<0)=false:=decide_eq_false (by omega)
 have d1:decide ((t.l.length:Int)≥t.most)=true:=decide_eq_true hm
 have d2:decide (t.most≤(t.l.length:Int))=true:=decide_eq_true hm
 clear h hg hn hi hk hs hm hlt0 hlen hll
 go_enter Tryz.func174,Tryz.ntmps174
 go_upto_region 1 with fail
 generalize w.alloc (.cells #[.slice A n.length c,.slice A1 n.length c1,.int .i64 kp,.int .i64 wy,.int .i64 od,.int .i64 nw] 254)=w1 at HT B6 HM HN HI ⊢
 generalize hb6:w.heap.size=b6 at B6 ⊢
 have E6:=Am_ hb6
 clear hb6
 have y0:=(af B6.out.1 0).trans (rfl:_=some (Value.slice A n.length c))
 have y1:=(af B6.out.1 1).trans (rfl:_=some (Value.slice A1 n.length c1))
 have y2:=(af B6.out.1 2).trans (rfl:_=some (Value.int .i64 kp))
 have c0:=(af HT.out.box 0).trans (rfl:_=some (Value.slice Ar t.l.length cr))
 have c1_:=(af HT.out.box 1).trans (rfl:_=some (Value.int .i64 t.most))
 go_quiet (fail)
 rename_i nq
 go_wp2_with fail
 go_ret2
 exact ⟨rfl,ok,⟨_,_,_,_,_,HT.out.step (Nat.le_refl _) (fun _ _ _=>rfl)⟩,HM.out.drewN _⟩
def zi:Bool × List (List Nat × List Nat):=(true,[([],[]),([0],[0]),([1],[1]),([],[]),([3],[3]),([4,2],[4]),([0,1,2,3,4],[]),([6,2,5,0,1,2,3,4],[2,6]),([0,1,2,3,4,5,6,7],[]),([8,5,7,0,1,2,3,4,5,6,7],[5,8])])
def GR:List Nat:= [0,1,3,0,8,31,31,127,255,511]
theorem Cm:fq .any (opsOf Tryz.f174 3)=zi:=by kernel_rfl
theorem wS:bA zi.2 GR=true:=by kernel_rfl
def zk:Bool × List (List Nat × List Nat):=(true,[([],[]),([],[]),([1],[1]),([2],[2]),([3],[3]),([],[]),([5],[5]),([6],[6]),([7],[7]),([4,8],[4,8]),([0,0,1,2,3,4,5,6,7,8,9],[0]),([10,0,1,2,3,4,5,6,7,8,9],[10]),([11,9,9,0,1,2,3,4,5,6,7,8,9],[9,11])])
def GU:List Nat:= [0,0,2,6,14,0,32,96,224,510,1023,2047,4095]
theorem Cn:fq .any (opsOf Tryz.f174 4)=zk:=by kernel_rfl
theorem wT:bA zk.2 GU=true:=by kernel_rfl
theorem Bp {ok:Nat→Prop} {p:Nat} {t:Tb} (A:Option Addr) (c:Nat) (n:List Int) (A1:Option Addr) (c1:Nat) (i:List Int) (kp wy od nw:Int) (w:World) (h:IsTable ok p t w) (hg:t.Good) (hn:(Kd.int .i64).F w (fun k=> ¬ ok k) A n.length n) (hi:(Kd.int .i64).F w (fun k=> ¬ ok k) A1 n.length i) (hk:0≤kp) (hs:n.length<1000000) (hm: ¬ t.most≤t.l.length):
  Calls Tryz.prog 174 #[.pointer (some ⟨p,0,none⟩),.agg #[.slice A n.length c,.slice A1 n.length c1,.int .i64 kp,.int .i64 wy,.int .i64 od,.int .i64 nw]] w (yO ok p ((t.l.length+1:Nat):Int) true { t with l:=t.l++ [⟨⟨n,i,kp,wy,od,nw⟩,1,false⟩] } w):=by
 obtain ⟨v,eb,nv,iv,ρ,h⟩:=h
 have hlt0:=h.lt
 have HLT:=Am_ hlt0
 have hlen:t.l.length<100000:=by have:=hg.most;have:=hg.len;omega
 have HL:=Am_ (And.intro hs hlen)
 have HT:=Am_ (h.step (w1:=w.alloc (.cells #[.slice A n.length c,.slice A1 n.length c1,.int .i64 kp,.int .i64 wy,.int .i64 od,.int .i64 nw] 254)) (by simp) (fun k _ hlt=>Below.heap_alloc _ _ _ hlt))
 have B6:=Am_ (Mine.new (ok:=ok) hlt0 (.cells #[.slice A n.length c,.slice A1 n.length c1,.int .i64 kp,.int .i64 wy,.int .i64 od,.int .i64 nw] 254))
 have HM:=Am_ ((Moves.refl ok w).alloc (.cells #[.slice A n.length c,.slice A1 n.length c1,.int .i64 kp,.int .i64 wy,.int .i64 od,.int .i64 nw] 254))
 have HN:=Am_ (Kd.bO (Kd.gu hn) (ai (Below.refl _ _) (.cells #[.slice A n.length c,.slice A1 n.length c1,.int .i64 kp,.int .i64 wy,.int .i64 od,.int .i64 nw] 254)))
 have HI:=Am_ (Kd.bO (Kd.gu hi) (ai (Below.refl _ _) (.cells #[.slice A n.length c,.slice A1 n.length c1,.int .i64 kp,.int .i64 wy,.int .i64 od,.int .i64 nw] 254)))
 obtain ⟨Ar,cr,rfl⟩:=Kd.aJ h.row
 have hll:((List.range t.l.length).map fun i=> [Value.pointer (some ⟨eb i,0,none⟩)]).length=t.l.length:=by simp
 rw [hll] at HT
 have dk:decide (kp<0)=false:=decide_eq_false (by omega)
 have d1:decide ((t.l.length:Int)≥t.most)=false:=decide_eq_false hm
 have d2:decide (t.most≤(t.l.length:Int))=false:=decide_eq_false hm
 clear h hg hn hi hk hs hm hlt0 hlen hll
 go_enter Tryz.func174,Tryz.ntmps174
 go_upto_region 1 with fail
 generalize w.alloc (.cells #[.slice A n.length c,.slice A1 n.length c1,.int .i64 kp,.int .i64 wy,.int .i64 od,.int .i64 nw] 254)=w1 at HT B6 HM HN HI ⊢
 generalize hb6:w.heap.size=b6 at B6 ⊢
 have E6:=Am_ hb6
 clear hb6
 have y0:=(af B6.out.1 0).trans (rfl:_=some (Value.slice A n.length c))
 have y1:=(af B6.out.1 1).trans (rfl:_=some (Value.slice A1 n.length c1))
 have y2:=(af B6.out.1 2).trans (rfl:_=some (Value.int .i64 kp))
 have c0:=(af HT.out.box 0).trans (rfl:_=some (Value.slice Ar t.l.length cr))
 have c1_:=(af HT.out.box 1).trans (rfl:_=some (Value.int .i64 t.most))
 go_quiet (fail)
 rename_i nq
 have HT:=Am_ (HT.out.step (w1:=w1.drewN nq) (Nat.le_refl _) (fun _ _ _=>rfl))
 have HM:=Am_ (HM.out.drewN nq)
 have B6:=Am_ (B6.out.moves (Moves.drewN (Moves.refl _ _) nq))
 have HN:=Am_ (Kd.bO HN.out (au (Below.refl _ _) nq))
 have HI:=Am_ (Kd.bO HI.out (au (Below.refl _ _) nq))
 clear y0 y1 y2 c0 c1_ d1 d2 dk
 generalize w1.drewN nq=w2 at HT HM B6 HN HI ⊢
 go_upto_region 3 with fail
 refine bG (n:=10) (S:=fun w'=>w'.cell? ⟨b6,0,none⟩=some (.slice A n.length c)∧w'.cell? ⟨b6,1,none⟩=some (.slice A1 n.length c1)) (ds:= [7,9]) (by kernel_rfl) rfl Cm wS ⟨(af B6.out.1 0).trans rfl,(af B6.out.1 1).trans rfl⟩ (fun hHeld HT_ HW_=>?_)
 have B6:=Am_ (B6.out.moves (Moves.drew (Moves.refl _ _)))
 have HT:=Am_ (HT.out.step (w1:=w2.drew) (Nat.le_refl _) (fun _ _ _=>rfl))
 have HM:=Am_ (HM.out.drew)
 have HN:=Am_ (Kd.bO HN.out (aM (Below.refl _ _)))
 have HI:=Am_ (Kd.bO HI.out (aM (Below.refl _ _)))
 generalize World.drew _=w2 at B6 HT HM HN HI hHeld ⊢
 refine eO [(0,some 34),(1,some 35),(3,some 37),(4,some 38)] ?_
 (refine dZ (v:=?_) (a':=?_) HT_ (by kernel_rfl) rfl rfl (fun _ _ _ h=>h) (Or.inl ⟨by rfl,?_⟩) ?_ ?_;rotate_left;(intro w';go_simp;with_reducible rfl);rotate_left;(simp only [Act.put,p1_,p2_,p3_,ax,ay];rfl))
 iterate 3 (refine iW (v:=?_) (a':=?_) HT_ HW_ (by kernel_rfl) rfl rfl (fun _ _ _ h=>h) hHeld (Or.inl ⟨by rfl,?_⟩) ?_ ?_;rotate_left;(rintro w' ⟨s0,s1⟩;go_simp;with_reducible rfl);rotate_left;(simp only [Act.put,p1_,p2_,p3_,ax,ay];rfl))
 refine aZ ?_
 refine dR (i:=2) (some 36) HT_ (by kernel_rfl) rfl rfl (by decide) (fun K_ hK=>?_)
 refine call_ 144 #[.slice A n.length c] (by rfl) rfl ?hrun2 ?_
 (case hrun2=>first | (go_simp;done) | (go_simp;exact enters Tryz.func144 (by kernel_rfl) rfl _ _))
 refine (gP A n.length c n _ HN.out HL.out.1).mono ?_
 rintro e w3 ⟨v1,rfl,hv,hb⟩
 have hz6:=B6.out.lt
 obtain ⟨A3,c3,rfl⟩:=Kd.aJ hv
 have V1:=Am_ hv
 have B6:=Am_ (B6.out.moves (Moves.bE _ hb))
 have HT:=Am_ (HT.out.step hb.size (fun k _ hlt=>hb.block k hlt))
 have HM:=Am_ (HM.out.below hb)
 have HI:=Am_ (Kd.bO HI.out hb)
 have Z3:=Am_ hz6
 clear hv hb HN hz6
 refine ⟨_,rfl,?_⟩
 refine hK.out _ _ ⟨(af B6.out.1 0).trans rfl,(af B6.out.1 1).trans rfl⟩ (fun hHeld=>?_)
 clear hK K_
 refine bK (a':=?_) ?_ ?_
 rotate_left; · show Act.put _ (some 36) _=_;simp only [Act.put,p1_,p2_,p3_,ax,ay];rfl
 refine eO [(6,some 40)] ?_
 (refine dZ (v:=?_) (a':=?_) HT_ (by kernel_rfl) rfl rfl (fun _ _ _ h=>h) (Or.inl ⟨by rfl,?_⟩) ?_ ?_;rotate_left;(intro w';go_simp;with_reducible rfl);rotate_left;(simp only [Act.put,p1_,p2_,p3_,ax,ay];rfl))
 refine aZ ?_
 refine dR (i:=5) (some 39) HT_ (by kernel_rfl) rfl rfl (by decide) (fun K_ hK=>?_)
 refine call_ 143 #[.slice A1 n.length c1] (by rfl) rfl ?hrun5 ?_
 (case hrun5=>first | (go_simp;done) | (go_simp;exact enters Tryz.func143 (by kernel_rfl) rfl _ _))
 refine (jg A1 n.length c1 i _ HI.out HL.out.1).mono ?_
 rintro e w4 ⟨v2,rfl,hv,hb⟩
 have hz6:=B6.out.lt
 obtain ⟨A4,c4,rfl⟩:=Kd.aJ hv
 have V2:=Am_ hv
 have V1:=Am_ (Kd.bQ (Kd.bL V1.out) (fun k hk hlt=>hb.block k hlt))
 have B6:=Am_ (B6.out.moves (Moves.bE _ hb))
 have HT:=Am_ (HT.out.step hb.size (fun k _ hlt=>hb.block k hlt))
 have HM:=Am_ (HM.out.below hb)
 have Z4:=Am_ hz6
 clear hv hb HI hz6
 refine ⟨_,rfl,?_⟩
 refine hK.out _ _ ⟨(af B6.out.1 0).trans rfl,(af B6.out.1 1).trans rfl⟩ (fun hHeld=>?_)
 clear hK K_
 refine bK (a':=?_) ?_ ?_
 rotate_left; · show Act.put _ (some 39) _=_;simp only [Act.put,p1_,p2_,p3_,ax,ay];rfl
 have y0:=(af B6.out.1 0).trans (rfl:_=some (Value.slice A n.length c))
 have y1:=(af B6.out.1 1).trans (rfl:_=some (Value.slice A1 n.length c1))
 have z0:=ah B6.out.1 0
 have z1:=ah B6.out.1 1
 refine bP (i:=7) none HT_ (by kernel_rfl) rfl rfl (by decide) (fun K_ hK=>?_)
 refine fB (w1:=?_) (by rfl) rfl ?_ ?_
 rotate_left; · go_simp;rfl
 refine hK.out _ _ ?_
 clear hK K_
 refine eO [(8,some 41)] ?_
 (refine dZ (v:=?_) (a':=?_) HT_ (by kernel_rfl) rfl rfl (fun _ _ _ h=>h) (Or.inl ⟨by rfl,?_⟩) ?_ ?_;rotate_left;(intro w';go_simp;with_reducible rfl);rotate_left;(simp only [Act.put,p1_,p2_,p3_,ax,ay];rfl))
 refine aZ ?_
 have HT:=Am_ (HT.out.step (w1:=sets w4 b6 [(0,(.slice A3 n.length c3))]) (by rw [gW];exact Nat.le_refl _) (fun k hk _=>dI (b:=b6) (by have:=HLT.out k hk;have:=E6.out;omega) [(0,(.slice A3 n.length c3))] w4))
 have HM:=Am_ (fO (b:=b6) (.inr (Nat.le_of_eq E6.out)) [(0,(.slice A3 n.length c3))] HM.out)
 have V1:=Am_ (Kd.bQ (Kd.bL V1.out) (fun k hk _=>dI (b:=b6) (by have:=hk.2.1;have:=Z3.out;omega) [(0,(.slice A3 n.length c3))] w4))
 have V2:=Am_ (Kd.bQ (Kd.bL V2.out) (fun k hk _=>dI (b:=b6) (by have:=hk.2.1;have:=Z4.out;omega) [(0,(.slice A3 n.length c3))] w4))
 have B6:=Am_ (B6.out.set 0 (.slice A3 n.length c3))
 clear y0 y1 z0 z1
 unfold sets sets at HT HM V1 V2
 generalize w4.setCell ⟨b6,0,none⟩ (.slice A3 n.length c3)=w5 at HT HM V1 V2 B6 ⊢
 have y1:=(af B6.out.1 1).trans (rfl:_=some (Value.slice A1 n.length c1))
 have z1:=ah B6.out.1 1
 refine bP (i:=9) none HT_ (by kernel_rfl) rfl rfl (by decide) (fun K_ hK=>?_)
 refine fB (w1:=?_) (by rfl) rfl ?_ ?_
 rotate_left; · go_simp;rfl
 refine hK.out _ _ ?_
 clear hK K_
 have HT:=Am_ (HT.out.step (w1:=sets w5 b6 [(1,(.slice A4 i.length c4))]) (by rw [gW];exact Nat.le_refl _) (fun k hk _=>dI (b:=b6) (by have:=HLT.out k hk;have:=E6.out;omega) [(1,(.slice A4 i.length c4))] w5))
 have HM:=Am_ (fO (b:=b6) (.inr (Nat.le_of_eq E6.out)) [(1,(.slice A4 i.length c4))] HM.out)
 have V1:=Am_ (Kd.bQ (Kd.bL V1.out) (fun k hk _=>dI (b:=b6) (by have:=hk.2.1;have:=Z3.out;omega) [(1,(.slice A4 i.length c4))] w5))
 have V2:=Am_ (Kd.bQ (Kd.bL V2.out) (fun k hk _=>dI (b:=b6) (by have:=hk.2.1;have:=Z4.out;omega) [(1,(.slice A4 i.length c4))] w5))
 have B6:=Am_ (B6.out.set 1 (.slice A4 i.length c4))
 clear y1 z1
 unfold sets sets at HT HM V1 V2
 generalize w5.setCell ⟨b6,1,none⟩ (.slice A4 i.length c4)=w6 at HT HM V1 V2 B6 ⊢
 refine dD (bI HT_.out (by kernel_rfl)) ?_
 go_upto_region 4 with fail
 refine bG (n:=13) (S:=fun w'=>w'.cell? ⟨p,0,none⟩=some (.slice Ar t.l.length cr)∧w'.cell? ⟨b6,0,none⟩=some (.slice A3 n.length c3)∧w'.cell? ⟨b6,1,none⟩=some (.slice A4 i.length c4)∧w'.cell? ⟨b6,2,none⟩=some (.int .i64 kp)∧w'.cell? ⟨b6,3,none⟩=some (.int .i64 wy)∧w'.cell? ⟨b6,4,none⟩=some (.int .i64 od)∧w'.cell? ⟨b6,5,none⟩=some (.int .i64 nw)) (ds:= [9,12]) (by kernel_rfl) rfl Cn wT ⟨(af HT.out.box 0).trans rfl,(af B6.out.1 0).trans rfl,(af B6.out.1 1).trans rfl,(af B6.out.1 2).trans rfl,(af B6.out.1 3).trans rfl,(af B6.out.1 4).trans rfl,(af B6.out.1 5).trans rfl⟩ (fun hHeld HT_ HW_=>?_)
 have B6:=Am_ (B6.out.moves (Moves.drew (Moves.refl _ _)))
 have HT:=Am_ (HT.out.step (w1:=w6.drew) (Nat.le_refl _) (fun _ _ _=>rfl))
 have HM:=Am_ (HM.out.drew)
 have V1:=Am_ (Kd.bQ (w1:=w6.drew) V1.out (fun _ _ _=>rfl))
 have V2:=Am_ (Kd.bQ (w1:=w6.drew) V2.out (fun _ _ _=>rfl))
 generalize World.drew _=w6 at B6 HT HM V1 V2 hHeld ⊢
 refine eO [(0,some 42),(1,some 43),(2,some 44),(3,some 45),(4,some 46),(5,some 47),(6,some 48)] ?_
 iterate 4 (refine dZ (v:=?_) (a':=?_) HT_ (by kernel_rfl) rfl rfl (fun _ _ _ h=>h) (Or.inl ⟨by rfl,?_⟩) ?_ ?_;rotate_left;(intro w';go_simp;with_reducible rfl);rotate_left;(simp only [Act.put,p1_,p2_,p3_,ax,ay];rfl))
 iterate 3 (refine iW (v:=?_) (a':=?_) HT_ HW_ (by kernel_rfl) rfl rfl (fun _ _ _ h=>h) hHeld (Or.inl ⟨by rfl,?_⟩) ?_ ?_;rotate_left;(rintro w' ⟨s0,s1,s2,s3,s4,s5,s6⟩;go_simp;with_reducible rfl);rotate_left;(simp only [Act.put,p1_,p2_,p3_,ax,ay];rfl))
 refine aZ ?_
 refine dR (i:=7) (some 49) HT_ (by kernel_rfl) rfl rfl (by decide) (fun K_ hK=>?_)
 refine fT (v:= .pointer (some ⟨w6.heap.size,0,none⟩)) (w1:=w6.alloc (.cells #[.slice A3 n.length c3,.slice A4 i.length c4,.int .i64 kp,.int .i64 wy,.int .i64 od,.int .i64 nw,.int .u8 1,.bool false] 289)) (by rfl) rfl ?hbx ?_
 (case hbx=>go_simp;first | done | rfl)
 have HT7:=Am_ (HT.out.step (w1:=w6.alloc (.cells #[.slice A3 n.length c3,.slice A4 i.length c4,.int .i64 kp,.int .i64 wy,.int .i64 od,.int .i64 nw,.int .u8 1,.bool false] 289)) (by simp) (fun k _ hlt=>Below.heap_alloc _ _ _ hlt))
 have HM7:=Am_ (HM.out.alloc (.cells #[.slice A3 n.length c3,.slice A4 i.length c4,.int .i64 kp,.int .i64 wy,.int .i64 od,.int .i64 nw,.int .u8 1,.bool false] 289))
 have B7:=Am_ (B6.out.alloc (.cells #[.slice A3 n.length c3,.slice A4 i.length c4,.int .i64 kp,.int .i64 wy,.int .i64 od,.int .i64 nw,.int .u8 1,.bool false] 289))
 have V17:=Am_ (Kd.bQ (Kd.bL V1.out) (w1:=w6.alloc (.cells #[.slice A3 n.length c3,.slice A4 i.length c4,.int .i64 kp,.int .i64 wy,.int .i64 od,.int .i64 nw,.int .u8 1,.bool false] 289)) (fun k _ hlt=>Below.heap_alloc _ _ _ hlt))
 have V27:=Am_ (Kd.bQ (Kd.bL V2.out) (w1:=w6.alloc (.cells #[.slice A3 n.length c3,.slice A4 i.length c4,.int .i64 kp,.int .i64 wy,.int .i64 od,.int .i64 nw,.int .u8 1,.bool false] 289)) (fun k _ hlt=>Below.heap_alloc _ _ _ hlt))
 have G7:=Am_ (bU w6 (.cells #[.slice A3 n.length c3,.slice A4 i.length c4,.int .i64 kp,.int .i64 wy,.int .i64 od,.int .i64 nw,.int .u8 1,.bool false] 289))
 have E7:ak (w6.heap.size<(w6.alloc (.cells #[.slice A3 n.length c3,.slice A4 i.length c4,.int .i64 kp,.int .i64 wy,.int .i64 od,.int .i64 nw,.int .u8 1,.bool false] 289)).heap.size):=⟨by simp⟩
 have E8:ak (b6<w6.heap.size):=⟨B6.out.lt⟩
 have hHeld8:=(show (w6.alloc (.cells #[.slice A3 n.length c3,.slice A4 i.length c4,.int .i64 kp,.int .i64 wy,.int .i64 od,.int .i64 nw,.int .u8 1,.bool false] 289)).cell? ⟨p,0,none⟩=some (.slice Ar t.l.length cr)∧(w6.alloc (.cells #[.slice A3 n.length c3,.slice A4 i.length c4,.int .i64 kp,.int .i64 wy,.int .i64 od,.int .i64 nw,.int .u8 1,.bool false] 289)).cell? ⟨b6,0,none⟩=some (.slice A3 n.length c3)∧(w6.alloc (.cells #[.slice A3 n.length c3,.slice A4 i.length c4,.int .i64 kp,.int .i64 wy,.int .i64 od,.int .i64 nw,.int .u8 1,.bool false] 289)).cell? ⟨b6,1,none⟩=some (.slice A4 i.length c4)∧(w6.alloc (.cells #[.slice A3 n.length c3,.slice A4 i.length c4,.int .i64 kp,.int .i64 wy,.int .i64 od,.int .i64 nw,.int .u8 1,.bool false] 289)).cell? ⟨b6,2,none⟩=some (.int .i64 kp)∧(w6.alloc (.cells #[.slice A3 n.length c3,.slice A4 i.length c4,.int .i64 kp,.int .i64 wy,.int .i64 od,.int .i64 nw,.int .u8 1,.bool false] 289)).cell? ⟨b6,3,none⟩=some (.int .i64 wy)∧(w6.alloc (.cells #[.slice A3 n.length c3,.slice A4 i.length c4,.int .i64 kp,.int .i64 wy,.int .i64 od,.int .i64 nw,.int .u8 1,.bool false] 289)).cell? ⟨b6,4,none⟩=some (.int .i64 od)∧(w6.alloc (.cells #[.slice A3 n.length c3,.slice A4 i.length c4,.int .i64 kp,.int .i64 wy,.int .i64 od,.int .i64 nw,.int .u8 1,.bool false] 289)).cell? ⟨b6,5,none⟩=some (.int .i64 nw) from ⟨(af HT7.out.box 0).trans rfl,(af B7.out.1 0).trans rfl,(af B7.out.1 1).trans rfl,(af B7.out.1 2).trans rfl,(af B7.out.1 3).trans rfl,(af B7.out.1 4).trans rfl,(af B7.out.1 5).trans rfl⟩)
 clear HT HM V1 V2 B6
 refine hK.out _ _ hHeld8 (fun hHeld=>?_)
 clear hK K_ hHeld8
 generalize w6.alloc (.cells #[.slice A3 n.length c3,.slice A4 i.length c4,.int .i64 kp,.int .i64 wy,.int .i64 od,.int .i64 nw,.int .u8 1,.bool false] 289)=w7 at HT7 HM7 B7 V17 V27 G7 E7 hHeld ⊢
 generalize w6.heap.size=g at V17 V27 G7 E7 E8 hHeld ⊢
 refine bK (a':=?_) ?_ ?_
 rotate_left; · show Act.put _ (some 49) _=_;simp only [Act.put,p1_,p2_,p3_,ax,ay];rfl
 refine dR (i:=8) (some 50) HT_ (by kernel_rfl) rfl rfl (by decide) (fun K_ hK=>?_)
 refine fT (v:= .slice (some ⟨w7.heap.size,0,none⟩) 1 1) (w1:=w7.alloc (.cells #[.pointer (some ⟨g,0,none⟩)] 287)) (by rfl) rfl ?hbs ?_
 (case hbs=>go_simp;first | done | rfl)
 refine hK.out _ _ ⟨aj (ai (Below.refl _ _) _) hHeld.1,aj (ai (Below.refl _ _) _) hHeld.2.1,aj (ai (Below.refl _ _) _) hHeld.2.2.1,aj (ai (Below.refl _ _) _) hHeld.2.2.2.1,aj (ai (Below.refl _ _) _) hHeld.2.2.2.2.1,aj (ai (Below.refl _ _) _) hHeld.2.2.2.2.2.1,aj (ai (Below.refl _ _) _) hHeld.2.2.2.2.2.2⟩ (fun hHeld=>?_)
 clear hK K_
 refine bK (a':=?_) ?_ ?_
 rotate_left; · show Act.put _ (some 50) _=_;simp only [Act.put,p1_,p2_,p3_,ax,ay];rfl
 refine bP (i:=9) (some 51) HT_ (by kernel_rfl) rfl rfl (by decide) (fun K_ hK=>?_)
 refine Kd.iA (Kd.raw 1) (w0:=w7) 0 (by rfl) (.tmp 46) (.tmp 50) 166 287 (.pointer none) 8 rfl Tryz.underlying166 Eb rfl (by decide) (by decide) (.slice Ar t.l.length cr) ((List.range t.l.length).map fun i=> [Value.pointer (some ⟨eb i,0,none⟩)]) [Value.pointer (some ⟨g,0,none⟩)] [Value.pointer (some ⟨g,0,none⟩)] (fun k=>(ok k∧ρ k=1)∨w7.heap.size≤k) (fun _=>False) rfl rfl ⟨rfl,rfl,fun u hu=>by rw [List.mem_singleton.1 hu];rfl⟩ (fun _ hk=>hk.elim) (fun k hk=> .inr hk) (Kd.bq HT7.out.row (fun k hk=> .inl hk)) (Below.refl _ _) (Nat.zero_le _) (by rw [List.length_map,List.length_range];have:=HL.out.2;omega) ?_
 intro v9 w9 ho hb9 hg hat
 obtain ⟨A9,c9,rfl⟩:=Kd.aJ ho
 have hle:(((List.range t.l.length).map fun i=> [Value.pointer (some ⟨eb i,0,none⟩)])++ [[Value.pointer (some ⟨g,0,none⟩)]]).length=t.l.length+1:=by simp
 have hne:some p≠(Value.slice Ar t.l.length cr).ownBlock:=fun e=>by have:=(HT7.out.row.1 p e.symm).2;rw [HT7.out.role] at this;cases this
 have z0:w9.frozen? ⟨p,0,none⟩=false:=ah (bJ HT7.out.box hg hne) 0
 have c0:=(af (bJ HT7.out.box hg hne) 0).trans (rfl:_=some (Value.slice Ar t.l.length cr))
 have HP:=Am_ (HT7.out.push (e:=⟨⟨n,i,kp,wy,od,nw⟩,1,false⟩) (N0:=w.heap.size) HLT.out (by have:=E8.out;have:=E6.out;omega) E7.out G7.out ⟨A3,c3,rfl,(Kd.bM V17.out).2.1,Kd.dh (Kd.R_F V17.out) (fun k hk=>by have:=hk.2.1;have:=hk.2.2;have:=E6.out;have:=Z3.out;omega)⟩ ⟨A4,c4,rfl,(Kd.bM V27.out).2.1,Kd.dh (Kd.R_F V27.out) (fun k hk=>by have:=hk.2.1;have:=hk.2.2;have:=E6.out;have:=Z4.out;omega)⟩ hg ho)
 have HMG:=Am_ ((HM7.out.grown hg (fun k hk=>(.inl (HT7.out.row.1 k hk).1))).set (p:=⟨p,0,none⟩) (.inl HT7.out.own) (.slice A9 (((List.range t.l.length).map fun i=> [Value.pointer (some ⟨eb i,0,none⟩)])++ [[Value.pointer (some ⟨g,0,none⟩)]]).length c9))
 have HSZ:ak (w.heap.size≤w9.heap.size):=⟨Nat.le_trans (Nat.le_trans HM7.out.size hg.size) (Nat.le_refl _)⟩
 rw [hle] at HP HMG ⊢
 clear ho hg hat hb9 hle hne HT7 HM7 V17 V27 G7 B7
 refine hK.out _ _ ?_
 clear hK K_
 refine bK (a':=?_) ?_ ?_
 rotate_left; · show Act.put _ (some 51) _=_;simp only [Act.put,p1_,p2_,p3_,ax,ay];rfl
 refine eO [(10,some 52),(11,some 53)] ?_
 iterate 2 (refine dZ (v:=?_) (a':=?_) HT_ (by kernel_rfl) rfl rfl (fun _ _ _ h=>h) (Or.inl ⟨by rfl,?_⟩) ?_ ?_;rotate_left;(intro w';go_simp;with_reducible rfl);rotate_left;(simp only [Act.put,p1_,p2_,p3_,ax,ay];rfl))
 refine aZ ?_
 refine bP (i:=12) none HT_ (by kernel_rfl) rfl rfl (by decide) (fun K_ hK=>?_)
 refine fB (w1:=?_) (by rfl) rfl ?_ ?_
 rotate_left; · go_simp;rfl
 refine hK.out _ _ ?_
 clear hK K_
 generalize w9.setCell ⟨p,0,none⟩ (.slice A9 (t.l.length+1) c9)=w10 at HP HMG ⊢
 refine dD (bI HT_.out (by kernel_rfl)) ?_
 obtain ⟨A10,c10,e10⟩:=Kd.aJ HP.out.row
 have c0:=(af HP.out.box 0).trans (rfl:_=some (Value.slice A9 (t.l.length+1) c9))
 clear e10
 go_wp2_with fail
 go_ret2
 refine ⟨rfl,_,⟨_,_,_,_,_,HP.out⟩,HMG.out.owns (fun k hk=>hk.imp id (fun h=>h.1))⟩
def Ep.leave (x:Ep) (t r n:Int):Ep:=if x.has t then { x with limbo:=x.limbo.set t.toNat (x.limbo.getD t.toNat []++ [(r,n)]) } else x
theorem Ep.Good.leave {x:Ep} (h:x.Good) (t r n:Int):(x.leave t r n).Good:=by
 unfold Ep.leave
 split
 ·exact ⟨h.few⟩
 ·exact h
structure kD (i:Nat) (ok:Nat→Prop) (p:Nat) (sv lv:Value) (gv:Nat→Value) (ρ:Nat→Nat) (t:Ep) (w:World):Prop where
 own:ok p
 role:ρ p=0
 lt: ∀ k,ok k→k<w.heap.size
 len:t.limbo.length=t.said.length
 box:w.heap[p]?=some (.cells #[.int .i64 t.now,sv,lv] 129 (0,0))
 said:(Kd.int .i64).R 2 w 0 (fun k=>ok k∧ρ k=1) sv t.said
 row:(Kd.raw 1).R 130 w 0 (fun k=>ok k∧ρ k=2) lv ((List.range t.limbo.length).map fun i=> [gv i])
 limbo: ∀ (j:Nat) (l:List (Int × Int)),j≠i→t.limbo[j]?=some l→dw.Q 297 w 0 (fun k=>ok k∧ρ k=3+j) (gv j) l
theorem eu.grows {ok:Nat→Prop} {p i:Nat} {sv lv:Value} {gv:Nat→Value} {ρ:Nat→Nat} {x:Ep} {W w1:World} (h:eu ok p sv lv gv ρ x W) (hi:i<x.limbo.length) (hg:W.grownBy w1 (gv i).ownBlock):
  kD i (fun k=>ok k∨(W.heap.size≤k∧k<w1.heap.size)) p sv lv gv (fun k=>if k<W.heap.size then ρ k else 3+i) x w1:=by
 obtain ⟨li,hli⟩: ∃ l,x.limbo[i]?=some l:=⟨_,List.getElem?_eq_getElem hi⟩
 have hown:=(h.limbo i li hli).1
 have hmove: ∀ r,r≠3+i→ ∀ k,(ok k∧ρ k=r)→k<W.heap.size→w1.heap[k]?=W.heap[k]?:=fun r hr k hk hlt=>hg.block k hlt (fun e=>by have:=(hown k e.symm).2;rw [hk.2] at this;exact hr this)
 have hup: ∀ r k,(ok k∧ρ k=r)→((ok k∨(W.heap.size≤k∧k<w1.heap.size))∧(if k<W.heap.size then ρ k else 3+i)=r):=fun r k hk=>⟨.inl hk.1,by rw [if_pos (h.lt k hk.1)];exact hk.2⟩
 exact {
  own:= .inl h.own
  role:=by rw [if_pos (h.lt p h.own)];exact h.role
  lt:=fun k hk=>hk.elim (fun hk=>Nat.lt_of_lt_of_le (h.lt k hk) hg.size) (fun hk=>hk.2)
  len:=h.len
  box:=bJ h.box hg (fun e=>by have:=(hown p e.symm).2;rw [h.role] at this;omega)
  said:=Kd.bq (Kd.bQ (Kd.bL h.said) (fun k hk hlt=>hmove 1 (by omega) k hk.1 hlt)) (fun k hk=>hup 1 k hk.1)
  row:=Kd.bq (Kd.bQ (Kd.bL h.row) (fun k hk hlt=>hmove 2 (by omega) k hk.1 hlt)) (fun k hk=>hup 2 k hk.1)
  limbo:=fun j l hj hl=>Kd.lV (Kd.jS (h.limbo j l hl) (fun k hk hlt=>hmove (3+j) (by omega) k hk hlt)) (fun k hk=>hup (3+j) k hk) }
theorem kD.ig {ib:Nat} {ok:Nat→Prop} {p n c:Nat} {A:Option Addr} {sv:Value} {gv:Nat→Value} {ρ:Nat→Nat} {x:Ep} {w:World} (h:kD ib ok p sv (.slice A n c) gv ρ x w) (i:Int) (h0:0≤i) (h1:i<x.limbo.length):
  n=x.limbo.length∧ ∃ g,A=some ⟨g,0,none⟩∧ok g∧ρ g=2∧w.cell? ⟨g,i.toNat,none⟩=some (gv i.toNat)∧w.frozen? ⟨g,i.toNat,none⟩=false:=by
 have hr:=(Kd.bM h.row).1
 have hn:n=x.limbo.length:=by rw [hr];simp
 obtain ⟨g,cap,e1,_⟩:=Kd.lX h.row (by simp;omega)
 injection e1 with e1 e2 _
 refine ⟨hn,g,e1,?_⟩
 subst e1
 obtain ⟨cs,_,hM,hcc,hfz⟩:=Kd.lW h.row [] i h0 (by omega)
 have hg:=h.row.1 g (by simp [Value.ownBlock])
 have hM':=hM.1
 rw [List.getD_eq_getElem?_getD,List.getElem?_map,List.getElem?_range (by omega)] at hM'
 simp only [Option.map_some,Option.getD_some] at hM'
 have e:=hcc 0 (gv i.toNat) (by rw [hM'];rfl)
 have f:=hfz 0
 rw [show (Kd.raw 1).sz=1 from rfl,Nat.mul_one,Nat.add_zero] at e f
 exact ⟨hg.1,hg.2,by simpa using e,by simpa using f⟩
theorem kD.turn {i:Nat} {ok:Nat→Prop} {p g n c:Nat} {sv:Value} {gv:Nat→Value} {ρ:Nat→Nat} {x:Ep} {w:World} (h:kD i ok p sv (.slice (some ⟨g,0,none⟩) n c) gv ρ x w) (hi:i<x.limbo.length) (v1:Value) (h1:v1.oneCell'=true) (l1:List (Int × Int)) (hq:dw.Q 297 w 0 (fun k=>ok k∧ρ k=3+i) v1 l1):
  eu ok p sv (.slice (some ⟨g,0,none⟩) n c) (fun j=>if j=i then v1 else gv j) ρ { x with limbo:=x.limbo.set i l1 } (w.setCell ⟨g,i,none⟩ v1):=by
 obtain ⟨hn,g0,e0,hg,hρ,hcc,hfz⟩:=h.ig (i:Int) (by omega) (by omega)
 injection e0 with e0
 injection e0 with e0 _ _
 subst e0
 rw [Int.toNat_natCast] at hcc hfz
 have hne: ∀ r,r≠2→ ∀ k,(ok k∧ρ k=r)→k≠g:=fun r hr k hk e=>by rw [e,hρ] at hk;exact hr hk.2.symm
 have hrow:=(Kd.yR (okp:=fun _=>False) h.row (i:Int) (by omega) (by omega) (c:= [gv i]) (seg:= [v1]) (j:=0) rfl (fun j u hu=>by
  cases j with
  | zero=>injection hu with hu;subst hu;simpa [Kd.raw] using hcc
  | succ j=>simp at hu) (by simp [Kd.raw]) (x':= [v1]) ⟨rfl,rfl,fun u hu=>by simp only [List.take_zero,List.nil_append,List.length_singleton,List.drop_succ_cons,List.drop_zero,List.append_nil,List.mem_cons,List.not_mem_nil,or_false] at hu;rw [hu];exact h1⟩ (fun k hk=>hk.elim)).1
 have hset:((List.range x.limbo.length).map fun i=> [gv i]).set (i:Int).toNat [v1]=(List.range (x.limbo.set i l1).length).map fun j=> [if j=i then v1 else gv j]:=by
  refine List.ext_getElem? fun j=>?_
  rw [Int.toNat_natCast,List.getElem?_set,List.length_set]
  by_cases hj:i=j
  ·subst hj
   simp [hi]
  ·rw [if_neg hj]
   simp only [List.getElem?_map]
   cases hs:(List.range x.limbo.length)[j]? with
   | none=>rfl
   | some q=>
    have hq:q=j:=by
     have:=(List.getElem?_eq_some_iff.1 hs).2
     simpa using this.symm
    subst hq
    simp [show ¬ q=i from fun e=>hj e.symm]
 rw [hset] at hrow
 have hrow':(Kd.raw 1).R 130 (w.setCells g i [v1]) 0 (fun k=>ok k∧ρ k=2) (.slice (some ⟨g,0,none⟩) n c) ((List.range (x.limbo.set i l1).length).map fun j=> [if j=i then v1 else gv j]):=by simpa [Kd.raw] using hrow
 exact {
  own:=h.own
  role:=h.role
  lt:=fun k hk=>by simpa [World.setCell] using h.lt k hk
  len:=by rw [List.length_set];exact h.len
  box:=cO h.box (p:=⟨g,i,none⟩) (fun e=>by rw [←show p=g from e,h.role] at hρ;cases hρ) _
  said:=Kd.bV h.said (p:=⟨g,i,none⟩) (hne 1 (by decide)) _
  row:=hrow'
  limbo:=fun j l hj=>by
   by_cases e:i=j
   ·subst e
    rw [List.getElem?_set_self hi] at hj
    injection hj with hj
    subst hj
    rw [if_pos rfl]
    exact Kd.pW hq (p:=⟨g,i,none⟩) (hne (3+i) (by omega)) _
   ·rw [List.getElem?_set_ne e] at hj
    rw [if_neg (fun e1=>e e1.symm)]
    exact Kd.pW (h.limbo j l (fun e1=>e e1.symm) hj) (p:=⟨g,i,none⟩) (hne (3+j) (by omega)) _ }
def zf:Bool × List (List Nat × List Nat):=(true,[([],[]),([0],[0]),([1],[1]),([2],[2]),([],[]),([],[]),([5],[5]),([6],[6]),([7],[7]),([],[]),([8,9],[8,9]),([10],[10]),([],[]),([],[]),([12,13],[12,13]),([14],[14]),([11,15],[11,15]),([3,4,0,1,2,3,4,5,6,7,8,9,10,11,12,13,14,15,16],[3,4]),([17,16,16,0,1,2,3,4,5,6,7,8,9,10,11,12,13,14,15,16],[16,17])])
def GN:List Nat:= [0,1,3,7,0,0,32,96,224,0,992,2016,0,0,12288,28672,65504,131071,262143]
theorem Cj:fq .any (opsOf Tryz.f177 1)=zf:=by kernel_rfl
theorem wQ:bA zf.2 GN=true:=by kernel_rfl
theorem Bb:(Tryz.prog.info? 297).map (fun i=>(i.zero,i.size,i.bytes))=some (some (.agg #[.int .i64 0,.int .i64 0]),2,16):=by kernel_rfl
theorem Iy (w:World) (base:Nat) (ok:Nat→Prop) (r n:Int):dw.M w base ok (r,n) [.int .i64 r,.int .i64 n]:=⟨[.int .i64 r],[.int .i64 n],rfl,rfl,rfl⟩
structure Hl (ok:Nat→Prop) (p:Nat) (x1:Ep) (w:World) (e:Ending) (w1:World):Prop where
 val:e= .returned (.tuple #[])
 out: ∃ ok1,dz ok1 p x1 w1∧Moves ok ok1 w w1
theorem DT {ok:Nat→Prop} {p:Nat} {x:Ep} (t r n:Int) (w:World) (h:dz ok p x w) (hg:x.Good) (hl:(x.limbo.getD t.toNat []).length<1000000):
  Calls Tryz.prog 177 #[.pointer (some ⟨p,0,none⟩),.int .i64 t,.int .i64 r,.int .i64 n] w (Hl ok p (x.leave t r n) w):=by
 have HIN:=Am_ (rA t w h hg)
 cases hh:x.has t with
 | false=>
  have e1:x.leave t r n=x:=by simp [Ep.leave,hh]
  rw [e1]
  have HI:=Am_ h
  have HH:=Am_ hh
  clear h hg hh e1 hl
  go_enter Tryz.func177,Tryz.ntmps177
  go_wp2_with (go_at_call 192;refine HIN.out.mono ?_;rintro e w1 ⟨rfl,rfl⟩;rw [HH.out])
  go_end0
  exact ⟨rfl,ok,HI.out,Moves.refl _ _⟩
 | true=>
  obtain ⟨sv,lv,gv,ρ,h⟩:=h
  have hh2:=hh
  unfold Ep.has at hh2
  rw [Bool.and_eq_true] at hh2
  obtain ⟨i,rfl⟩: ∃ i:Nat,t=(i:Int):=⟨t.toNat,by have:=of_decide_eq_true hh2.1;omega⟩
  have hi:i<x.limbo.length:=by have:=of_decide_eq_true hh2.2;rw [h.len];omega
  have e1:x.leave (i:Int) r n= { x with limbo:=x.limbo.set i (x.limbo.getD i []++ [(r,n)]) }:=by simp [Ep.leave,hh]
  rw [e1]
  rw [Int.toNat_natCast] at hl
  have hli:x.limbo[i]?=some (x.limbo.getD i []):=by rw [List.getD_eq_getElem?_getD,List.getElem?_eq_getElem hi,Option.getD_some]
  obtain ⟨A,cr,rfl⟩:=Kd.aJ h.row
  have hll:((List.range x.limbo.length).map fun i=> [gv i]).length=x.limbo.length:=by simp
  rw [hll] at h
  obtain ⟨hn,g,rfl,hg1,hg2,d2,z2⟩:=h.ig (i:Int) (by omega) (by omega)
  rw [Int.toNat_natCast] at d2 z2
  obtain ⟨Ag,cg,egv,_⟩:=Kd.jY (h.limbo i _ hli)
  rw [egv] at d2
  have HQ:=Am_ (h.limbo i _ hli)
  rw [egv] at HQ
  generalize hxl:x.limbo.getD i []=l at hl d2 HQ egv ⊢
  have HE:=Am_ egv
  have HLL:=Am_ hl
  have HI:=Am_ h
  have HH:=Am_ hh
  have hgp:g≠p:=fun e=>by rw [e] at hg2;have:=h.role;rw [hg2] at this;cases this
  have HNE:=Am_ hgp
  have b1:(0:Int)≤(i:Int):=by omega
  have b2:(i:Int)<(x.limbo.length:Int):=by omega
  have b3:i<x.limbo.length:=hi
  have HII:=Am_ hi
  have HG:=Am_ hg1
  have HG2:=Am_ hg2
  have cp:=(af h.box 2).trans (rfl:_=some (Value.slice (some ⟨g,0,none⟩) x.limbo.length cr))
  clear h hg hh hh2 e1 hli hll hn egv hxl hl hg1 hg2 hi hgp
  go_enter Tryz.func177,Tryz.ntmps177
  go_upto_region 1 with (go_at_call 192;refine HIN.out.mono ?_;rintro e w1 ⟨rfl,rfl⟩;rw [HH.out])
  refine bG (n:=19) (S:=fun w'=>w'.cell? ⟨p,2,none⟩=some (.slice (some ⟨g,0,none⟩) x.limbo.length cr)∧w'.cell? ⟨g,i,none⟩=some (.slice Ag l.length cg)) (ds:= [18]) (by kernel_rfl) rfl Cj wQ ⟨cp,d2⟩ (fun hHeld HT_ HW_=>?_)
  have HI:=Am_ (HI.out.step (w1:=w1.drew) (Nat.le_refl _) (fun _ _ _=>rfl))
  have HQ:=Am_ (Kd.jS (w1:=w1.drew) HQ.out (fun _ _ _=>rfl))
  have HM:=Am_ ((Moves.refl ok w1).drew)
  have z2:w1.drew.frozen? ⟨g,i,none⟩=false:=z2
  clear cp d2
  generalize hw2:w1.drew=w2 at HI HQ HM z2 hHeld ⊢
  clear hw2
  refine eO [(0,some 11),(1,some 12),(2,some 13),(3,some 14),(4,some 15),(5,some 16),(6,some 17),(7,some 18),(8,some 19),(9,some 20),(10,some 21),(11,some 22),(12,some 23),(13,some 24),(14,some 25)] ?_
  iterate 3 (refine dZ (v:=?_) (a':=?_) HT_ (by kernel_rfl) rfl rfl (fun _ _ _ h=>h) (Or.inl ⟨by rfl,?_⟩) ?_ ?_;rotate_left;(intro w';go_simp;with_reducible rfl);rotate_left;(simp only [Act.put,p1_,p2_,p3_,ax,ay];rfl))
  iterate 12 (refine iW (v:=?_) (a':=?_) HT_ HW_ (by kernel_rfl) rfl rfl (fun _ _ _ h=>h) hHeld (Or.inl ⟨by rfl,?_⟩) ?_ ?_;rotate_left;(rintro w' ⟨s0,s1⟩;go_simp;with_reducible rfl);rotate_left;(simp only [Act.put,p1_,p2_,p3_,ax,ay];rfl))
  refine aZ ?_
  refine dR (i:=15) (some 26) HT_ (by kernel_rfl) rfl rfl (by decide) (fun K_ hK=>?_)
  refine fT (v:= .slice (some ⟨w2.heap.size,0,none⟩) 1 1) (w1:=w2.alloc (.cells #[.int .i64 r,.int .i64 n] 297)) (by rfl) rfl ?hbs ?_
  (case hbs=>go_simp;first | done | rfl)
  refine hK.out _ _ ⟨aj (ai (Below.refl _ _) _) hHeld.1,aj (ai (Below.refl _ _) _) hHeld.2⟩ (fun hHeld=>?_)
  clear hK K_
  refine bK (a':=?_) ?_ ?_
  rotate_left; · show Act.put _ (some 26) _=_;simp only [Act.put,p1_,p2_,p3_,ax,ay];rfl
  refine dR (i:=16) (some 27) HT_ (by kernel_rfl) rfl rfl (by decide) (fun K_ hK=>?_)
  refine Kd.kE dw (w0:=w2) 0 (by rfl) (.tmp 22) (.tmp 26) 130 297 (.agg #[.int .i64 0,.int .i64 0]) 16 rfl Tryz.underlying130 Bb rfl (by decide) (by decide) (.slice Ag l.length cg) l (r,n) [.int .i64 r,.int .i64 n] (fun k=>(ok k∧ρ k=3+i)∨w2.heap.size≤k) (fun _=>False) rfl rfl (Iy _ _ _ r n) (fun _ hk=>hk.elim) (fun k hk=> .inr hk) (Kd.lV HQ.out (fun k hk=> .inl hk)) (Below.refl _ _) (Nat.zero_le _) (by have:=HLL.out;omega) ?_
  intro v9 w9 ho hb9 hg hat
  have hle:(l++ [(r,n)]).length=l.length+1:=by simp
  obtain ⟨A9,c9,rfl,_⟩:=Kd.jY ho
  rw [hle] at ho hat ⊢
  rw [←HE.out] at hg
  have HB:=Am_ (HI.out.grows HII.out hg)
  have HQ9:=Am_ (Kd.lV (ok':=fun k=>(ok k∨(w2.heap.size≤k∧k<w9.heap.size))∧(if k<w2.heap.size then ρ k else 3+i)=3+i) (Kd.pV ho) (fun k hk=>by
   rcases hk.1 with h1 | h1
   ·exact ⟨.inl h1.1,by rw [if_pos (HI.out.lt k h1.1)];exact h1.2⟩
   ·exact ⟨.inr ⟨h1,hk.2.2.1⟩,by rw [if_neg (by omega)]⟩))
  have HMG:=Am_ (HM.out.grown hg (fun k hk=>by
   rw [HE.out] at hk
   exact .inl (HQ.out.1 k hk).1))
  obtain ⟨_,g',e',_,_,d9,z9⟩:=HB.out.ig (i:Int) b1 b2
  injection e' with e'
  injection e' with e' _ _
  subst e'
  rw [Int.toNat_natCast,HE.out] at d9
  rw [Int.toNat_natCast] at z9
  have cp9:=(af HB.out.box 2).trans (rfl:_=some (Value.slice (some ⟨g,0,none⟩) x.limbo.length cr))
  clear ho hg hat hb9 hle
  refine hK.out _ _ ⟨cp9,d9⟩ (fun hHeld=>?_)
  clear hK K_ cp9
  refine bK (a':=?_) ?_ ?_
  rotate_left; · show Act.put _ (some 27) _=_;simp only [Act.put,p1_,p2_,p3_,ax,ay];rfl
  refine eO [(17,some 28)] ?_
  (refine dZ (v:=?_) (a':=?_) HT_ (by kernel_rfl) rfl rfl (fun _ _ _ h=>h) (Or.inl ⟨by rfl,?_⟩) ?_ ?_;rotate_left;(intro w';go_simp;with_reducible rfl);rotate_left;(simp only [Act.put,p1_,p2_,p3_,ax,ay];rfl))
  refine aZ ?_
  refine bP (i:=18) none HT_ (by kernel_rfl) rfl rfl (by decide) (fun K_ hK=>?_)
  refine fB (w1:=?_) (by rfl) rfl ?_ ?_
  rotate_left; · go_simp;rfl
  refine hK.out _ _ ?_
  clear hK K_
  refine dD (bI HT_.out (by kernel_rfl)) ?_
  go_wp2_with fail
  go_end0
  have HF:=HB.out.turn b3 (.slice A9 (l.length+1) c9) rfl (l++ [(r,n)]) HQ9.out
  exact ⟨rfl,_,⟨_,_,_,_,HF⟩,(HMG.out.set (p:=⟨g,i,none⟩) (.inl HG.out) _).owns (fun k hk=>hk.imp id (fun h=>Nat.le_trans HM.out.size h.1))⟩
theorem NdF.mono {D D1:Nat→Prop} {n:Nd} {v:Value} {w:World} (h:NdF D n v w) (hk: ∀ k,D k→D1 k):NdF D1 n v w:=by
 obtain ⟨Ap,cp,Ak,ck,Ay,cy,e,h1,h2,h3,h4,h5,h6⟩:=h
 exact ⟨Ap,cp,Ak,ck,Ay,cy,e,h1,h2,h3,Kd.dh h4 hk,Kd.dh h5 hk,Kd.dh h6 hk⟩
theorem NdF.step {D:Nat→Prop} {n:Nd} {v:Value} {w w1:World} (h:NdF D n v w) (hm: ∀ k,D k→k<w.heap.size→w1.heap[k]?=w.heap[k]?):NdF D n v w1:=by
 obtain ⟨Ap,cp,Ak,ck,Ay,cy,e,h1,h2,h3,h4,h5,h6⟩:=h
 exact ⟨Ap,cp,Ak,ck,Ay,cy,e,h1,h2,h3,Kd.eU h4 hm,Kd.eU h5 hm,Kd.eU h6 hm⟩
theorem NdF.bound {D:Nat→Prop} {n:Nd} {v:Value} {w:World} (h:NdF D n v w):NdF (fun k=>D k∧k<w.heap.size) n v w:=by
 obtain ⟨Ap,cp,Ak,ck,Ay,cy,e,h1,h2,h3,h4,h5,h6⟩:=h
 exact ⟨Ap,cp,Ak,ck,Ay,cy,e,h1,h2,h3,Kd.dX h4,Kd.dX h5,Kd.dX h6⟩
theorem NdF.moves {ok ok1:Nat→Prop} {n:Nd} {v:Value} {w w1:World} (h:NdF (fun k=> ¬ ok k) n v w) (m:Moves ok ok1 w w1):NdF (fun k=> ¬ ok1 k) n v w1:=
 (h.bound.step (fun k hk hlt=>m.block k hlt hk.1)).mono (fun k hk h1=>(m.fresh k h1).elim hk.1 (fun h2=>by have:=hk.2;omega))
theorem xO {ok:Nat→Prop} {p:Nat} {t:Tb} (A:Option Addr) (c:Nat) (n:List Int) (A1:Option Addr) (c1:Nat) (i:List Int) (kp wy od nw:Int) (w:World) (h:IsTable ok p t w) (hg:t.Good) (hn:(Kd.int .i64).F w (fun k=> ¬ ok k) A n.length n) (hi:(Kd.int .i64).F w (fun k=> ¬ ok k) A1 n.length i) (hk:0≤kp) (hs:n.length<1000000) (hni:n.length=i.length):
  Calls Tryz.prog 174 #[.pointer (some ⟨p,0,none⟩),.agg #[.slice A n.length c,.slice A1 n.length c1,.int .i64 kp,.int .i64 wy,.int .i64 od,.int .i64 nw]] w (yO ok p (t.make ⟨n,i,kp,wy,od,nw⟩).1.1 (t.make ⟨n,i,kp,wy,od,nw⟩).1.2 (t.make ⟨n,i,kp,wy,od,nw⟩).2 w):=by
 unfold Tb.make
 by_cases hm:t.most≤t.l.length
 ·rw [if_pos (.inr (.inr hm))]
  exact Bo A c n A1 c1 i kp wy od nw w h hg hn hi hk hs hm
 ·rw [if_neg (fun e=>e.elim (fun e=>e hni) (fun e=>e.elim (fun e=>by have e1:kp<0:=e;omega) hm))]
  exact Bp A c n A1 c1 i kp wy od nw w h hg hn hi hk hs hm
def FX:Bool × List (List Nat × List Nat):=(true,[([],[]),([0],[0]),([1],[1]),([2],[2]),([3],[3]),([],[]),([4,5],[4,5]),([6],[6]),([7],[7]),([7],[7]),([8,6,0,1,2,3,4,5,6,7,8],[8]),([9,10,0,1,2,3,4,5,6,7,8,9,10],[9])])
def Kb:List Nat:= [0,1,3,7,15,0,63,127,255,255,511,2047]
theorem EZ:fq .any (opsOf Tryz.f207 1)=FX:=by kernel_rfl
theorem zY:bA FX.2 Kb=true:=by kernel_rfl
theorem sK (p:Nat) (x:Ws) (n:Nd) (r:Int) (b:Bool) (a1:Ar) (b0 b1:Bool) (Ap Ak Ay:Option Addr) (lp lk ly cp ck cy:Nat) (w:World) (okS:Nat→Prop) (bt bx:Nat) (h:shW p x okS w) (g0:w.cell? ⟨bt,1,none⟩=some (.pointer (some ⟨p,0,none⟩))) (g2:w.cell? ⟨bx,0,none⟩=some (.bool b0)) (g3:w.cell? ⟨bx,1,none⟩=some (.bool b1)) (g4:w.cell? ⟨bx,2,none⟩=some (.slice Ap lp cp)) (g5:w.cell? ⟨bx,3,none⟩=some (.slice Ak lk ck)) (g6:w.cell? ⟨bx,4,none⟩=some (.slice Ay ly cy)) (hn:NdF (fun k=> ¬ okS k) n (.agg #[.bool b0,.bool b1,.slice Ap lp cp,.slice Ak lk ck,.slice Ay ly cy]) w) (hs:n.Small) (hr:x.ar.alloc n=some ((r,b),a1)):
  Calls Tryz.prog 207 #[.pointer (some ⟨bt,0,none⟩),.pointer (some ⟨bx,0,none⟩)] w fun e w2=> ∃ okS1,e= .returned (.int .i64 r)∧shW p { x with ar:=a1 } okS1 w2∧Moves okS okS1 w w2:=by
 obtain ⟨⟨okA,okR,okE,pA,pR,pE,h⟩,hg⟩:=h
 have HW:=Am_ h
 have HG:=Am_ hg
 have hp:=(af h.box 0).trans (rfl:_=some (Value.pointer (some ⟨pA,0,none⟩)))
 have HN:=Am_ hn
 have HSM:=Am_ hs
 have HR:=Am_ hr
 have HC:=Am_ (And.intro g0 (And.intro hp (And.intro g2 (And.intro g3 (And.intro g4 (And.intro g5 g6))))))
 clear h hg hp g0 g2 g3 g4 g5 g6 hn hs hr
 go_enter Tryz.func207,Tryz.ntmps207
 go_upto_region 1 with fail
 refine bG (n:=12) (S:=fun w'=>w'.cell? ⟨bt,1,none⟩=some (.pointer (some ⟨p,0,none⟩))∧w'.cell? ⟨p,0,none⟩=some (.pointer (some ⟨pA,0,none⟩))∧w'.cell? ⟨bx,0,none⟩=some (.bool b0)∧w'.cell? ⟨bx,1,none⟩=some (.bool b1)∧w'.cell? ⟨bx,2,none⟩=some (.slice Ap lp cp)∧w'.cell? ⟨bx,3,none⟩=some (.slice Ak lk ck)∧w'.cell? ⟨bx,4,none⟩=some (.slice Ay ly cy)) (ds:= [6]) (by kernel_rfl) rfl EZ zY HC.out (fun hHeld HT_ HW_=>?_)
 have HW:=Am_ (HW.out.step (w1:=w.drew) (Nat.le_refl _) (fun _ _ _=>rfl))
 have HM:=Am_ ((Moves.refl okS w).drew)
 have HN:=Am_ (HN.out.step (w1:=w.drew) (fun _ _ _=>rfl))
 clear HC
 generalize World.drew _=w1 at HW HM hHeld HN ⊢
 refine eO [(0,some 6),(1,some 7),(2,some 8),(3,some 9),(4,some 10),(5,some 11)] ?_
 (refine dZ (v:=?_) (a':=?_) HT_ (by kernel_rfl) rfl rfl (fun _ _ _ h=>h) (Or.inl ⟨by rfl,?_⟩) ?_ ?_;rotate_left;(intro w';go_simp;with_reducible rfl);rotate_left;(simp only [Act.put,p1_,p2_,p3_,ax,ay];rfl))
 iterate 5 (refine iW (v:=?_) (a':=?_) HT_ HW_ (by kernel_rfl) rfl rfl (fun _ _ _ h=>h) hHeld (Or.inl ⟨by rfl,?_⟩) ?_ ?_;rotate_left;(rintro w' ⟨s0,s1,s2,s3,s4,s5,s6⟩;go_simp;with_reducible rfl);rotate_left;(simp only [Act.put,p1_,p2_,p3_,ax,ay];rfl))
 refine aZ ?_
 refine bP (i:=6) (some 12) HT_ (by kernel_rfl) rfl rfl (by decide) (fun K_ hK=>?_)
 refine call_ 93 #[.pointer (some ⟨pA,0,none⟩),.agg #[.bool b0,.bool b1,.slice Ap lp cp,.slice Ak lk ck,.slice Ay ly cy]] (by rfl) rfl ?hrun6 ?_
 (case hrun6=>first | (go_simp;done) | (go_simp;exact enters Tryz.func93 (by kernel_rfl) rfl _ _))
 refine (jZ n _ _ HW.out.ar (by have:=HG.out.ar.most;have:=HG.out.ar.slots;omega) (HN.out.mono (fun k hk h=>hk ((HW.out.ok k).2 (.inr (.inl h))))) HSM.out HR.out).mono ?_
 rintro e w2 ⟨rfl,okA1,hA,hM⟩
 have X2:=Am_ hA
 have M2:=Am_ hM
 clear hA hM
 refine ⟨_,rfl,?_⟩
 refine hK.out _ _ ?_
 clear hK K_
 refine bK (a':=?_) ?_ ?_
 rotate_left; · show Act.put _ (some 12) _=_;simp only [Act.put,p1_,p2_,p3_,ax,ay];rfl
 refine eO [(7,some 5),(8,some 13),(9,some 14),(10,some 3),(11,some 4)] ?_
 iterate 5 (refine dZ (v:=?_) (a':=?_) HT_ (by kernel_rfl) rfl rfl (fun _ _ _ h=>h) (Or.inl ⟨by rfl,?_⟩) ?_ ?_;rotate_left;(intro w';go_simp;with_reducible rfl);rotate_left;(simp only [Act.put,p1_,p2_,p3_,ax,ay];rfl))
 refine aZ ?_
 refine dD (bI HT_.out (by kernel_rfl)) ?_
 go_wp2_with fail
 go_ret
 exact ⟨_,rfl,⟨⟨_,_,_,_,_,_,(HW.out.cK X2.out M2.out).1⟩,⟨HG.out.ar.alloc HSM.out HR.out,HG.out.ep,HG.out.tb⟩⟩,HM.out.trans (HW.out.cK X2.out M2.out).2⟩
def zw:Bool × List (List Nat × List Nat):=(true,[([],[]),([0],[0]),([1],[1]),([2],[2]),([3],[3]),([],[]),([5],[5]),([],[]),([],[]),([4,6,7,8],[4,6,7,8])])
def Hg:List Nat:= [0,1,3,7,15,0,32,0,0,511]
theorem Cv:fq .any (opsOf Tryz.f176 1)=zw:=by kernel_rfl
theorem xg:bA zw.2 Hg=true:=by kernel_rfl
theorem qK (p:Nat) (x:Ws) (me r n:Int) (w:World) (okS:Nat→Prop) (bt bx bn:Nat) (h:shW p x okS w) (g0:w.cell? ⟨bt,1,none⟩=some (.pointer (some ⟨p,0,none⟩))) (g2:w.cell? ⟨bt,2,none⟩=some (.int .i64 me)) (g3:w.cell? ⟨bx,0,none⟩=some (.int .i64 r)) (g4:w.cell? ⟨bn,0,none⟩=some (.int .i64 n)) (hl:(x.ep.limbo.getD me.toNat []).length<1000000):
  Calls Tryz.prog 176 #[.pointer (some ⟨bt,0,none⟩),.pointer (some ⟨bx,0,none⟩),.pointer (some ⟨bn,0,none⟩)] w fun e w2=> ∃ okS1,e= .returned (.int .i64 0)∧shW p { x with ep:=x.ep.leave me r n } okS1 w2∧Moves okS okS1 w w2:=by
 obtain ⟨⟨okA,okR,okE,pA,pR,pE,h⟩,hg⟩:=h
 have HW:=Am_ h
 have HG:=Am_ hg
 have hp:=(af h.box 2).trans (rfl:_=some (Value.pointer (some ⟨pE,0,none⟩)))
 have HL:=Am_ hl
 have HC:=Am_ (And.intro g0 (And.intro hp (And.intro g2 (And.intro g3 g4))))
 clear h hg hp g0 g2 g3 g4 hl
 go_enter Tryz.func176,Tryz.ntmps176
 go_upto_region 1 with fail
 refine bG (n:=10) (S:=fun w'=>w'.cell? ⟨bt,1,none⟩=some (.pointer (some ⟨p,0,none⟩))∧w'.cell? ⟨p,2,none⟩=some (.pointer (some ⟨pE,0,none⟩))∧w'.cell? ⟨bt,2,none⟩=some (.int .i64 me)∧w'.cell? ⟨bx,0,none⟩=some (.int .i64 r)∧w'.cell? ⟨bn,0,none⟩=some (.int .i64 n)) (ds:= [9]) (by kernel_rfl) rfl Cv xg HC.out (fun hHeld HT_ HW_=>?_)
 have HW:=Am_ (HW.out.step (w1:=w.drew) (Nat.le_refl _) (fun _ _ _=>rfl))
 have HM:=Am_ ((Moves.refl okS w).drew)
 clear HC
 generalize World.drew _=w1 at HW HM hHeld ⊢
 refine eO [(0,some 4),(1,some 5),(2,some 6),(3,some 7),(4,some 8),(5,some 9),(6,some 10),(7,some 11),(8,some 12)] ?_
 (refine dZ (v:=?_) (a':=?_) HT_ (by kernel_rfl) rfl rfl (fun _ _ _ h=>h) (Or.inl ⟨by rfl,?_⟩) ?_ ?_;rotate_left;(intro w';go_simp;with_reducible rfl);rotate_left;(simp only [Act.put,p1_,p2_,p3_,ax,ay];rfl))
 iterate 8 (refine iW (v:=?_) (a':=?_) HT_ HW_ (by kernel_rfl) rfl rfl (fun _ _ _ h=>h) hHeld (Or.inl ⟨by rfl,?_⟩) ?_ ?_;rotate_left;(rintro w' ⟨s0,s1,s2,s3,s4⟩;go_simp;with_reducible rfl);rotate_left;(simp only [Act.put,p1_,p2_,p3_,ax,ay];rfl))
 refine aZ ?_
 refine bP (i:=9) (some 13) HT_ (by kernel_rfl) rfl rfl (by decide) (fun K_ hK=>?_)
 refine call_ 177 #[.pointer (some ⟨pE,0,none⟩),.int .i64 me,.int .i64 r,.int .i64 n] (by rfl) rfl ?hrun9 ?_
 (case hrun9=>first | (go_simp;done) | (go_simp;exact enters Tryz.func177 (by kernel_rfl) rfl _ _))
 refine (DT me r n _ HW.out.ep HG.out.ep HL.out).mono ?_
 rintro e w2 ⟨rfl,okE1,hA,hM⟩
 have X2:=Am_ hA
 have M2:=Am_ hM
 clear hA hM
 refine ⟨_,rfl,?_⟩
 refine hK.out _ _ ?_
 clear hK K_
 refine bK (a':=?_) ?_ ?_
 rotate_left; · show Act.put _ (some 13) _=_;simp only [Act.put,p1_,p2_,p3_,ax,ay];rfl
 refine dD (bI HT_.out (by kernel_rfl)) ?_
 go_wp2_with fail
 go_ret
 exact ⟨_,rfl,⟨⟨_,_,_,_,_,_,(HW.out.iE X2.out M2.out).1⟩,⟨HG.out.ar,HG.out.ep.leave me r n,HG.out.tb⟩⟩,HM.out.trans (HW.out.iE X2.out M2.out).2⟩
def ze:Bool × List (List Nat × List Nat):=(true,[([],[]),([0],[0]),([1],[1]),([2],[2]),([3],[3]),([],[]),([4,5],[4,5]),([6],[6]),([7],[7]),([7],[7]),([8,6,0,1,2,3,4,5,6,7,8],[8]),([9,10,0,1,2,3,4,5,6,7,8,9,10],[9])])
def GL:List Nat:= [0,1,3,7,15,0,63,127,255,255,511,2047]
theorem Ci:fq .any (opsOf Tryz.f173 1)=ze:=by kernel_rfl
theorem wP:bA ze.2 GL=true:=by kernel_rfl
theorem sF (p:Nat) (x:Ws) (A:Option Addr) (c:Nat) (n:List Int) (A1:Option Addr) (c1:Nat) (i:List Int) (kp wy od nw:Int) (w:World) (okS:Nat→Prop) (bt br:Nat) (h:shW p x okS w) (g0:w.cell? ⟨bt,1,none⟩=some (.pointer (some ⟨p,0,none⟩))) (g2:w.cell? ⟨br,0,none⟩=some (.slice A n.length c)) (g3:w.cell? ⟨br,1,none⟩=some (.slice A1 n.length c1)) (g4:w.cell? ⟨br,2,none⟩=some (.int .i64 kp)) (g5:w.cell? ⟨br,3,none⟩=some (.int .i64 wy)) (g6:w.cell? ⟨br,4,none⟩=some (.int .i64 od)) (g7:w.cell? ⟨br,5,none⟩=some (.int .i64 nw)) (hn:(Kd.int .i64).F w (fun k=> ¬ okS k) A n.length n) (hi:(Kd.int .i64).F w (fun k=> ¬ okS k) A1 n.length i) (hk:0≤kp) (hs:n.length<1000000) (hni:n.length=i.length):
  Calls Tryz.prog 173 #[.pointer (some ⟨bt,0,none⟩),.pointer (some ⟨br,0,none⟩)] w fun e w2=> ∃ okS1,e= .returned (.int .i64 (x.tb.make ⟨n,i,kp,wy,od,nw⟩).1.1)∧shW p { x with tb:=(x.tb.make ⟨n,i,kp,wy,od,nw⟩).2 } okS1 w2∧Moves okS okS1 w w2:=by
 obtain ⟨⟨okA,okR,okE,pA,pR,pE,h⟩,hg⟩:=h
 have HW:=Am_ h
 have HG:=Am_ hg
 have hp:=(af h.box 1).trans (rfl:_=some (Value.pointer (some ⟨pR,0,none⟩)))
 have HN:=Am_ hn
 have HI:=Am_ hi
 have HK:=Am_ hk
 have HS:=Am_ hs
 have HNI:=Am_ hni
 have HC:=Am_ (And.intro g0 (And.intro hp (And.intro g2 (And.intro g3 (And.intro g4 (And.intro g5 (And.intro g6 g7)))))))
 clear h hg hp g0 g2 g3 g4 g5 g6 g7 hn hi hk hs hni
 go_enter Tryz.func173,Tryz.ntmps173
 go_upto_region 1 with fail
 refine bG (n:=12) (S:=fun w'=>w'.cell? ⟨bt,1,none⟩=some (.pointer (some ⟨p,0,none⟩))∧w'.cell? ⟨p,1,none⟩=some (.pointer (some ⟨pR,0,none⟩))∧w'.cell? ⟨br,0,none⟩=some (.slice A n.length c)∧w'.cell? ⟨br,1,none⟩=some (.slice A1 n.length c1)∧w'.cell? ⟨br,2,none⟩=some (.int .i64 kp)∧w'.cell? ⟨br,3,none⟩=some (.int .i64 wy)∧w'.cell? ⟨br,4,none⟩=some (.int .i64 od)∧w'.cell? ⟨br,5,none⟩=some (.int .i64 nw)) (ds:= [6]) (by kernel_rfl) rfl Ci wP HC.out (fun hHeld HT_ HW_=>?_)
 have HW:=Am_ (HW.out.step (w1:=w.drew) (Nat.le_refl _) (fun _ _ _=>rfl))
 have HM:=Am_ ((Moves.refl okS w).drew)
 have HN:=Am_ (Kd.eU (W1:=w.drew) HN.out (fun _ _ _=>rfl))
 have HI:=Am_ (Kd.eU (W1:=w.drew) HI.out (fun _ _ _=>rfl))
 clear HC
 generalize World.drew _=w1 at HW HM hHeld HN HI ⊢
 refine eO [(0,some 6),(1,some 7),(2,some 8),(3,some 9),(4,some 10),(5,some 11)] ?_
 (refine dZ (v:=?_) (a':=?_) HT_ (by kernel_rfl) rfl rfl (fun _ _ _ h=>h) (Or.inl ⟨by rfl,?_⟩) ?_ ?_;rotate_left;(intro w';go_simp;with_reducible rfl);rotate_left;(simp only [Act.put,p1_,p2_,p3_,ax,ay];rfl))
 iterate 5 (refine iW (v:=?_) (a':=?_) HT_ HW_ (by kernel_rfl) rfl rfl (fun _ _ _ h=>h) hHeld (Or.inl ⟨by rfl,?_⟩) ?_ ?_;rotate_left;(rintro w' ⟨s0,s1,s2,s3,s4,s5,s6,s7⟩;go_simp;with_reducible rfl);rotate_left;(simp only [Act.put,p1_,p2_,p3_,ax,ay];rfl))
 refine aZ ?_
 refine bP (i:=6) (some 12) HT_ (by kernel_rfl) rfl rfl (by decide) (fun K_ hK=>?_)
 refine call_ 174 #[.pointer (some ⟨pR,0,none⟩),.agg #[.slice A n.length c,.slice A1 n.length c1,.int .i64 kp,.int .i64 wy,.int .i64 od,.int .i64 nw]] (by rfl) rfl ?hrun6 ?_
 (case hrun6=>first | (go_simp;done) | (go_simp;exact enters Tryz.func174 (by kernel_rfl) rfl _ _))
 refine (xO A c n A1 c1 i kp wy od nw _ HW.out.tb HG.out.tb (Kd.dh HN.out (fun k hk h=>hk ((HW.out.ok k).2 (.inr (.inr (.inl h)))))) (Kd.dh HI.out (fun k hk h=>hk ((HW.out.ok k).2 (.inr (.inr (.inl h)))))) HK.out HS.out HNI.out).mono ?_
 rintro e w2 ⟨rfl,okR1,hA,hM⟩
 have X2:=Am_ hA
 have M2:=Am_ hM
 clear hA hM
 refine ⟨_,rfl,?_⟩
 refine hK.out _ _ ?_
 clear hK K_
 refine bK (a':=?_) ?_ ?_
 rotate_left; · show Act.put _ (some 12) _=_;simp only [Act.put,p1_,p2_,p3_,ax,ay];rfl
 refine eO [(7,some 5),(8,some 13),(9,some 14),(10,some 3),(11,some 4)] ?_
 iterate 5 (refine dZ (v:=?_) (a':=?_) HT_ (by kernel_rfl) rfl rfl (fun _ _ _ h=>h) (Or.inl ⟨by rfl,?_⟩) ?_ ?_;rotate_left;(intro w';go_simp;with_reducible rfl);rotate_left;(simp only [Act.put,p1_,p2_,p3_,ax,ay];rfl))
 refine aZ ?_
 refine dD (bI HT_.out (by kernel_rfl)) ?_
 go_wp2_with fail
 go_ret
 exact ⟨_,rfl,⟨⟨_,_,_,_,_,_,(HW.out.jO X2.out M2.out).1⟩,⟨HG.out.ar,HG.out.ep,HG.out.tb.make _ HS.out (by have:=HS.out;have:=HNI.out;show i.length<1000000;omega)⟩⟩,HM.out.trans (HW.out.jO X2.out M2.out).2⟩
def Gd (r:Int):Obj:= .cells #[.int .i64 r] 45 (0,0)
def NQ (s:Int):Obj:= .cells #[.int .u8 s] 281 (0,0)
def qo (r:Int):Pr Ws Int:=doT (fun x=>((x.ar.info r).1,{ x with ar:=(x.ar.info r).2 }))
def markT (r:Int):Pr Ws Bool:=Gb (fun x=>((x.ar.mark r).1,{ x with ar:=(x.ar.mark r).2 }))
def BU (n:Int):Pr Ws Int:=doT (fun x=>(wrap64 (x.tb.en n).state,x))
def wu (n:Int):Pr Ws Int:=aU (BU n) fun v=>dS (IntKind.u8.wrap v)
def Lr (n s:Int):Pr Ws Int:=doT (fun x=>(0,{ x with tb:=x.tb.setState n s }))
def Gt (n s:Int):Pr Ws Unit:=aU (Lr n s) fun _=>dS ()
def Dk (n:Int):Pr Ws Bool:=Gb (fun x=>((x.tb.en n).all,x))
def BP (n:Int):Pr Ws Int:=doT (fun x=>(0,{ x with tb:=x.tb.jK n }))
def sI (r old n:Int):Pr Ws Bool:=Gb (fun x=>((x.ar.eT r old n).1,{ x with ar:=(x.ar.eT r old n).2 }))
def vZ (r:Int):Pr Ws Int:=doT (fun x=>(0,{ x with ar:=x.ar.iU r }))
def qI (r i old now:Int):Pr Ws Bool:=Gb (fun x=>((x.ar.gK r i old now).1,{ x with ar:=(x.ar.gK r i old now).2 }))
def IG (n:Nd):Pr Ws Int:=doO (fun x=>match x.ar.alloc n with
 | none=>none
 | some ((r,_),a1)=>some (r,{ x with ar:=a1 }))
def Bh (me r n:Int):Pr Ws Int:=doO (fun x=>if (x.ep.limbo.getD me.toNat []).length<1000000 then some (0,{ x with ep:=x.ep.leave me r n }) else none)
def storeT (rc:Rc):Pr Ws Int:=doT (fun x=>((x.tb.make rc).1.1,{ x with tb:=(x.tb.make rc).2 }))
theorem aH.MU {p tb:Nat} {work:Value} {me:Int} {bt:Nat} {ok okc:Nat→Prop} {w wc:World} {s t:TS Ws} {bx:Nat} {r:Int} (h:aH p tb work me bt ok w okc s wc) (hx:Mine okc wc bx (Gd r))  {o:Out Int} (hd:qo r s=some (o,t)):
  Calls Tryz.prog 137 #[.pointer (some ⟨tb,0,none⟩),.func (.func 238) #[] #[.pointer (some ⟨bt,0,none⟩),.pointer (some ⟨bx,0,none⟩)]] wc (fD oD p tb work me bt ok w okc o t wc):=
 h.do_ _ 238 _ (enters Tryz.func238 (by kernel_rfl) rfl _) (fun w1 okS hm hk hs=>ul p s.sh r w1 okS bt bx hs ((af (h.box.moves hm).1 1).trans rfl) ((af (hx.moves hm).1 0).trans rfl)) hd
theorem aH.Nf {p tb:Nat} {work:Value} {me:Int} {bt:Nat} {ok okc:Nat→Prop} {w wc:World} {s t:TS Ws} {bx:Nat} {r:Int} (h:aH p tb work me bt ok w okc s wc) (hx:Mine okc wc bx (Gd r))  {o:Out Bool} (hd:markT r s=some (o,t)):
  Calls Tryz.prog 154 #[.pointer (some ⟨tb,0,none⟩),.func (.func 236) #[] #[.pointer (some ⟨bt,0,none⟩),.pointer (some ⟨bx,0,none⟩)]] wc (fD xh p tb work me bt ok w okc o t wc):=
 h.KN _ 236 _ (enters Tryz.func236 (by kernel_rfl) rfl _) (fun w1 okS hm hk hs=>uG p s.sh r w1 okS bt bx hs ((af (h.box.moves hm).1 1).trans rfl) ((af (hx.moves hm).1 0).trans rfl)) hd
theorem aH.Lu {p tb:Nat} {work:Value} {me:Int} {bt:Nat} {ok okc:Nat→Prop} {w wc:World} {s t:TS Ws} {bn:Nat} {n:Int} (h:aH p tb work me bt ok w okc s wc) (hn:Mine okc wc bn (jE n))  {o:Out Int} (hd:BU n s=some (o,t)):
  Calls Tryz.prog 137 #[.pointer (some ⟨tb,0,none⟩),.func (.func 239) #[] #[.pointer (some ⟨bt,0,none⟩),.pointer (some ⟨bn,0,none⟩)]] wc (fD oD p tb work me bt ok w okc o t wc):=
 h.do_ _ 239 _ (enters Tryz.func239 (by kernel_rfl) rfl _) (fun w1 okS hm hk hs=>sD p s.sh n w1 okS bt bn hs ((af (h.box.moves hm).1 1).trans rfl) ((af (hn.moves hm).1 0).trans rfl)) hd
theorem aH.load_ {p tb:Nat} {work:Value} {me:Int} {bt:Nat} {ok okc:Nat→Prop} {w wc:World} {s t:TS Ws} {bx bi:Nat} {r i:Int} (h:aH p tb work me bt ok w okc s wc) (hx:Mine okc wc bx (Gd r)) (hi:Mine okc wc bi (Ih i))  {o:Out Int} (hd:JI r i s=some (o,t)):
  Calls Tryz.prog 137 #[.pointer (some ⟨tb,0,none⟩),.func (.func 202) #[] #[.pointer (some ⟨bt,0,none⟩),.pointer (some ⟨bx,0,none⟩),.pointer (some ⟨bi,0,none⟩)]] wc (fD oD p tb work me bt ok w okc o t wc):=
 h.do_ _ 202 _ (enters Tryz.func202 (by kernel_rfl) rfl _) (fun w1 okS hm hk hs=>uD p s.sh r i w1 okS bt bx bi hs ((af (h.box.moves hm).1 1).trans rfl) ((af (hx.moves hm).1 0).trans rfl) ((af (hi.moves hm).1 0).trans rfl)) hd
theorem aH.Ny {p tb:Nat} {work:Value} {me:Int} {bt:Nat} {ok okc:Nat→Prop} {w wc:World} {s t:TS Ws} {bn bs:Nat} {n st:Int} (h:aH p tb work me bt ok w okc s wc) (hn:Mine okc wc bn (jE n)) (hs_:Mine okc wc bs (NQ st))  {o:Out Int} (hd:Lr n st s=some (o,t)):
  Calls Tryz.prog 137 #[.pointer (some ⟨tb,0,none⟩),.func (.func 243) #[] #[.pointer (some ⟨bt,0,none⟩),.pointer (some ⟨bn,0,none⟩),.pointer (some ⟨bs,0,none⟩)]] wc (fD oD p tb work me bt ok w okc o t wc):=
 h.do_ _ 243 _ (enters Tryz.func243 (by kernel_rfl) rfl _) (fun w1 okS hm hk hs=>yA p s.sh n st w1 okS bt bn bs hs ((af (h.box.moves hm).1 1).trans rfl) ((af (hn.moves hm).1 0).trans rfl) ((af (hs_.moves hm).1 0).trans rfl)) hd
theorem Kd.lU {ok ok1:Nat→Prop} {g n:Nat} {xs:List Int} {w w1:World} (h:(Kd.int .i64).F w (fun k=> ¬ ok k) (some ⟨g,0,none⟩) n xs) (m:Moves ok ok1 w w1) {i:Nat} {x:Int} (hi:xs[i]?=some x):w1.cell? ⟨g,i,none⟩=some (.int .i64 x):=by
 obtain ⟨hl,_,hc⟩:=Kd.gu (gZ h m)
 have hlt:=(List.getElem?_eq_some_iff.1 hi).1
 obtain ⟨ad,c,e,_,hK,hc0⟩:=Kd.oz (Kd.gu (gZ h m)) 0 (i:Int) (by omega) (by omega)
 injection e with e
 subst e
 have hc1: ∀ j u,c[j]?=some u→w1.cell? ((⟨g,0,none⟩:Addr).add ((i:Int).toNat*1+j))=some u:=hc0
 obtain rfl:c= [.int .i64 (xs.getD (i:Int).toNat 0)]:=hK
 have:=hc1 0 _ rfl
 rw [Int.toNat_natCast,List.getD_eq_getElem?_getD,hi,Option.getD_some,Nat.mul_one,Nat.add_zero] at this
 rw [jf,Nat.zero_add] at this
 exact this
theorem aH.Np {p tb:Nat} {work:Value} {me:Int} {bt:Nat} {ok okc:Nat→Prop} {w wc:World} {s t:TS Ws} {bx br bi bn:Nat} {r old n:Int} {i gI:Nat} {AN:Option Addr} {lN cN lI cI:Nat} {kp wy od nw:Int} {infos:List Int} (h:aH p tb work me bt ok w okc s wc) (hx:Mine okc wc bx (Gd r)) (hr_:Mine okc wc br (.cells #[.slice AN lN cN,.slice (some ⟨gI,0,none⟩) lI cI,.int .i64 kp,.int .i64 wy,.int .i64 od,.int .i64 nw] 254 (0,0))) (hi:Mine okc wc bi (Ih (i:Int))) (hn:Mine okc wc bn (jE n)) (hf:(Kd.int .i64).F wc (fun k=> ¬ okc k) (some ⟨gI,0,none⟩) lI infos) (hg:infos[i]?=some old) (hl:i<lI) {o:Out Bool} (hd:sI r old n s=some (o,t)):
  Calls Tryz.prog 154 #[.pointer (some ⟨tb,0,none⟩),.func (.func 209) #[] #[.pointer (some ⟨bt,0,none⟩),.pointer (some ⟨bx,0,none⟩),.pointer (some ⟨br,0,none⟩),.pointer (some ⟨bi,0,none⟩),.pointer (some ⟨bn,0,none⟩)]] wc (fD xh p tb work me bt ok w okc o t wc):=
 h.KN _ 209 _ (enters Tryz.func209 (by kernel_rfl) rfl _) (fun w1 okS hm hk hs=>yh p s.sh r old n i gI lI cI w1 okS bt bx br bi bn hs ((af (h.box.moves hm).1 1).trans rfl) ((af (hx.moves hm).1 0).trans rfl) ((af (hr_.moves hm).1 1).trans rfl) ((af (hi.moves hm).1 0).trans rfl) ((af (hn.moves hm).1 0).trans rfl) (Kd.lU hf hm hg) hl) hd
theorem aH.Nq {p tb:Nat} {work:Value} {me:Int} {bt:Nat} {ok okc:Nat→Prop} {w wc:World} {s t:TS Ws} {bx:Nat} {r:Int} (h:aH p tb work me bt ok w okc s wc) (hx:Mine okc wc bx (Gd r))  {o:Out Int} (hd:qo r s=some (o,t)):
  Calls Tryz.prog 137 #[.pointer (some ⟨tb,0,none⟩),.func (.func 211) #[] #[.pointer (some ⟨bt,0,none⟩),.pointer (some ⟨bx,0,none⟩)]] wc (fD oD p tb work me bt ok w okc o t wc):=
 h.do_ _ 211 _ (enters Tryz.func211 (by kernel_rfl) rfl _) (fun w1 okS hm hk hs=>yj p s.sh r w1 okS bt bx hs ((af (h.box.moves hm).1 1).trans rfl) ((af (hx.moves hm).1 0).trans rfl)) hd
theorem aH.Nr {p tb:Nat} {work:Value} {me:Int} {bt:Nat} {ok okc:Nat→Prop} {w wc:World} {s t:TS Ws} {bn:Nat} {n:Int} (h:aH p tb work me bt ok w okc s wc) (hn:Mine okc wc bn (jE n))  {o:Out Bool} (hd:Dk n s=some (o,t)):
  Calls Tryz.prog 154 #[.pointer (some ⟨tb,0,none⟩),.func (.func 213) #[] #[.pointer (some ⟨bt,0,none⟩),.pointer (some ⟨bn,0,none⟩)]] wc (fD xh p tb work me bt ok w okc o t wc):=
 h.KN _ 213 _ (enters Tryz.func213 (by kernel_rfl) rfl _) (fun w1 okS hm hk hs=>yo p s.sh n w1 okS bt bn hs ((af (h.box.moves hm).1 1).trans rfl) ((af (hn.moves hm).1 0).trans rfl)) hd
theorem aH.Ns {p tb:Nat} {work:Value} {me:Int} {bt:Nat} {ok okc:Nat→Prop} {w wc:World} {s t:TS Ws} {bn:Nat} {n:Int} (h:aH p tb work me bt ok w okc s wc) (hn:Mine okc wc bn (jE n))  {o:Out Int} (hd:BP n s=some (o,t)):
  Calls Tryz.prog 137 #[.pointer (some ⟨tb,0,none⟩),.func (.func 216) #[] #[.pointer (some ⟨bt,0,none⟩),.pointer (some ⟨bn,0,none⟩)]] wc (fD oD p tb work me bt ok w okc o t wc):=
 h.do_ _ 216 _ (enters Tryz.func216 (by kernel_rfl) rfl _) (fun w1 okS hm hk hs=>yt p s.sh n w1 okS bt bn hs ((af (h.box.moves hm).1 1).trans rfl) ((af (hn.moves hm).1 0).trans rfl)) hd
theorem aH.Nu {p tb:Nat} {work:Value} {me:Int} {bt:Nat} {ok okc:Nat→Prop} {w wc:World} {s t:TS Ws} {bx:Nat} {r:Int} (h:aH p tb work me bt ok w okc s wc) (hx:Mine okc wc bx (Gd r))  {o:Out Int} (hd:vZ r s=some (o,t)):
  Calls Tryz.prog 137 #[.pointer (some ⟨tb,0,none⟩),.func (.func 218) #[] #[.pointer (some ⟨bt,0,none⟩),.pointer (some ⟨bx,0,none⟩)]] wc (fD oD p tb work me bt ok w okc o t wc):=
 h.do_ _ 218 _ (enters Tryz.func218 (by kernel_rfl) rfl _) (fun w1 okS hm hk hs=>yu p s.sh r w1 okS bt bx hs ((af (h.box.moves hm).1 1).trans rfl) ((af (hx.moves hm).1 0).trans rfl)) hd
theorem aH.Nv {p tb:Nat} {work:Value} {me:Int} {bt:Nat} {ok okc:Nat→Prop} {w wc:World} {s t:TS Ws} {br:Nat} {r i old now:Int} {gN:Nat} {AI:Option Addr} {lN cN lI cI:Nat} {kp:Int} {nodes:List Int} (h:aH p tb work me bt ok w okc s wc) (hr_:Mine okc wc br (.cells #[.slice (some ⟨gN,0,none⟩) lN cN,.slice AI lI cI,.int .i64 kp,.int .i64 i,.int .i64 old,.int .i64 now] 254 (0,0))) (hf:(Kd.int .i64).F wc (fun k=> ¬ okc k) (some ⟨gN,0,none⟩) lN nodes) (hg:nodes[0]?=some r) (hl:0<lN) {o:Out Bool} (hd:qI r i old now s=some (o,t)):
  Calls Tryz.prog 154 #[.pointer (some ⟨tb,0,none⟩),.func (.func 220) #[] #[.pointer (some ⟨bt,0,none⟩),.pointer (some ⟨br,0,none⟩)]] wc (fD xh p tb work me bt ok w okc o t wc):=
 h.KN _ 220 _ (enters Tryz.func220 (by kernel_rfl) rfl _) (fun w1 okS hm hk hs=>yw p s.sh r i old now gN lN cN w1 okS bt br hs ((af (h.box.moves hm).1 1).trans rfl) ((af (hr_.moves hm).1 0).trans rfl) (Kd.lU hf hm hg) ((af (hr_.moves hm).1 3).trans rfl) ((af (hr_.moves hm).1 4).trans rfl) ((af (hr_.moves hm).1 5).trans rfl) hl) hd
theorem aH.Nc {p tb:Nat} {work:Value} {me:Int} {bt:Nat} {ok okc:Nat→Prop} {w wc:World} {s t:TS Ws} {bx:Nat} {n:Nd} {b0 b1:Bool} {Ap Ak Ay:Option Addr} {lp lk ly cp ck cy:Nat} (h:aH p tb work me bt ok w okc s wc) (hx:Mine okc wc bx (.cells #[.bool b0,.bool b1,.slice Ap lp cp,.slice Ak lk ck,.slice Ay ly cy] 157 (0,0))) (hn:NdF (fun k=> ¬ okc k) n (.agg #[.bool b0,.bool b1,.slice Ap lp cp,.slice Ak lk ck,.slice Ay ly cy]) wc) (hsm:n.Small) {o:Out Int} (hd:IG n s=some (o,t)):
  Calls Tryz.prog 137 #[.pointer (some ⟨tb,0,none⟩),.func (.func 207) #[] #[.pointer (some ⟨bt,0,none⟩),.pointer (some ⟨bx,0,none⟩)]] wc (fD oD p tb work me bt ok w okc o t wc):=
 h.ND _ 207 _ (enters Tryz.func207 (by kernel_rfl) rfl _) (fun n1 x1 hf w1 okS hm hk hs=>by
  cases ha:s.sh.ar.alloc n with
  | none=>rw [ha] at hf;cases hf
  | some q=>
   obtain ⟨⟨r,b⟩,a1⟩:=q
   rw [ha] at hf
   injection hf with hf
   injection hf with h1 h2
   subst h1 h2
   exact sK p s.sh n r b a1 b0 b1 Ap Ak Ay lp lk ly cp ck cy w1 okS bt bx hs ((af (h.box.moves hm).1 1).trans rfl) ((af (hx.moves hm).1 0).trans rfl) ((af (hx.moves hm).1 1).trans rfl) ((af (hx.moves hm).1 2).trans rfl) ((af (hx.moves hm).1 3).trans rfl) ((af (hx.moves hm).1 4).trans rfl) ((hn.moves hm).mono (fun k hk1 hk2=>hk1 (hk k hk2))) hsm ha) hd
theorem aH.Gj {p tb:Nat} {work:Value} {me:Int} {bt:Nat} {ok okc:Nat→Prop} {w wc:World} {s t:TS Ws} {bx bn:Nat} {r n:Int} (h:aH p tb work me bt ok w okc s wc) (hx:Mine okc wc bx (Gd r)) (hn:Mine okc wc bn (jE n))  {o:Out Int} (hd:Bh me r n s=some (o,t)):
  Calls Tryz.prog 137 #[.pointer (some ⟨tb,0,none⟩),.func (.func 176) #[] #[.pointer (some ⟨bt,0,none⟩),.pointer (some ⟨bx,0,none⟩),.pointer (some ⟨bn,0,none⟩)]] wc (fD oD p tb work me bt ok w okc o t wc):=
 h.ND _ 176 _ (enters Tryz.func176 (by kernel_rfl) rfl _) (fun n1 x1 hf w1 okS hm hk hs=>by
  split at hf
  ·rename_i hl
   injection hf with hf
   injection hf with h1 h2
   subst h1 h2
   exact qK p s.sh me r n w1 okS bt bx bn hs ((af (h.box.moves hm).1 1).trans rfl) ((af (h.box.moves hm).1 2).trans rfl) ((af (hx.moves hm).1 0).trans rfl) ((af (hn.moves hm).1 0).trans rfl) hl
  ·cases hf) hd
theorem aH.store_ {p tb:Nat} {work:Value} {me:Int} {bt:Nat} {ok okc:Nat→Prop} {w wc:World} {s t:TS Ws} {br:Nat} {AN AI:Option Addr} {cN cI:Nat} {nodes infos:List Int} {kp wy od nw:Int} (h:aH p tb work me bt ok w okc s wc) (hr_:Mine okc wc br (.cells #[.slice AN nodes.length cN,.slice AI nodes.length cI,.int .i64 kp,.int .i64 wy,.int .i64 od,.int .i64 nw] 254 (0,0))) (hf:(Kd.int .i64).F wc (fun k=> ¬ okc k) AN nodes.length nodes) (hf1:(Kd.int .i64).F wc (fun k=> ¬ okc k) AI nodes.length infos) (hk0:0≤kp) (hsm:nodes.length<1000000) (hni:nodes.length=infos.length) {o:Out Int} (hd:storeT ⟨nodes,infos,kp,wy,od,nw⟩ s=some (o,t)):
  Calls Tryz.prog 137 #[.pointer (some ⟨tb,0,none⟩),.func (.func 173) #[] #[.pointer (some ⟨bt,0,none⟩),.pointer (some ⟨br,0,none⟩)]] wc (fD oD p tb work me bt ok w okc o t wc):=
 h.do_ _ 173 _ (enters Tryz.func173 (by kernel_rfl) rfl _) (fun w1 okS hm hk hs=>sF p s.sh AN cN nodes AI cI infos kp wy od nw w1 okS bt br hs ((af (h.box.moves hm).1 1).trans rfl) ((af (hr_.moves hm).1 0).trans rfl) ((af (hr_.moves hm).1 1).trans rfl) ((af (hr_.moves hm).1 2).trans rfl) ((af (hr_.moves hm).1 3).trans rfl) ((af (hr_.moves hm).1 4).trans rfl) ((af (hr_.moves hm).1 5).trans rfl) (Kd.dh (gZ hf hm) (fun k hk1 hk2=>hk1 (hk k hk2))) (Kd.dh (gZ hf1 hm) (fun k hk1 hk2=>hk1 (hk k hk2))) hk0 hsm hni) hd
theorem uM {X α:Type} {m:Pr X α} {s:TS X} {res:Out α × TS X} (h:m s=some res): ∃ o t,m s=some (o,t)∧((o= .wait∧res=(.wait,t))∨ ∃ a,o= .ret a∧res=(.ret a,t)):=by
 obtain ⟨o,t⟩:=res
 refine ⟨o,t,h,?_⟩
 cases o with
 | wait=>exact .inl ⟨rfl,rfl⟩
 | ret a=>exact .inr ⟨a,rfl,rfl⟩
def VU8 (a:Int) (_:Nat→Prop) (v:Value) (_:World):Prop:=v= .int .u8 a
theorem kz (p tb:Nat) (work:Value) (me:Int) (ok:Nat→Prop) (s:TS Ws) (w:World) (r:Int) (h:dN (shW p) tb work ok s w)  (res:Out Int × TS Ws) (hr:qo r s=some res):
  Calls Tryz.prog 200 #[eP tb p me,.int .i64 r] w (fQ (shW p) tb work FZ ok w res):=by
 have HTV:eP tb p me= .agg #[.pointer (some ⟨tb,0,none⟩),.pointer (some ⟨p,0,none⟩),.int .i64 me]:=rfl
 rw [HTV]
 obtain ⟨o,t,hd,hcase⟩:=uM hr
 have HD:=Am_ hd
 have HCS:=Am_ hcase
 have h0:=aH.enter (me:=me) h
 unfold fC at h0
 have HT:=Am_ (h0.alloc (.cells #[.int .i64 r] 45))
 have HB1:=Am_ (Mine.new h0.lt (.cells #[.int .i64 r] 45))
 simp only [World.size_alloc] at HB1
 clear h h0 hr hd hcase HTV
 go_enter Tryz.func200,Tryz.ntmps200
 go_upto_region 1 with fail
 generalize ((w.alloc (.cells #[.pointer (some ⟨tb,0,none⟩),.pointer (some ⟨p,0,none⟩),.int .i64 me] 114)).alloc (.cells #[.int .i64 r] 45))=w1 at HT HB1 ⊢
 generalize hbb:w.heap.size=bt at HT HB1 ⊢
 have c0:=HT.out.c0
 go_wp2_with (go_at_call 137;refine (HT.out.MU HB1.out HD.out).mono ?_;rintro e w2 ⟨⟨ok1,hm,hT,he⟩⟩;rcases HCS.out with hw | hw;(obtain ⟨rfl,rfl⟩:=hw;obtain rfl:e= .panicked dx:=he;exact ⟨rfl,⟨⟨ok1,hT.moves,hT.run,rfl⟩⟩⟩);obtain ⟨a0,rfl,hr2⟩:=hw;obtain rfl:e= .returned (.int .i64 a0):=he;have HT2:=Am_ hT;have HR2:=Am_ hr2;clear hm hT hr2)
 go_ret
 obtain rfl:=HR2.out
 exact ⟨⟨_,HT2.out.moves,HT2.out.run,_,rfl,rfl⟩⟩
theorem nL (p tb:Nat) (work:Value) (me:Int) (ok:Nat→Prop) (s:TS Ws) (w:World) (r:Int) (h:dN (shW p) tb work ok s w)  (res:Out Bool × TS Ws) (hr:markT r s=some res):
  Calls Tryz.prog 199 #[eP tb p me,.int .i64 r] w (fQ (shW p) tb work Ib ok w res):=by
 have HTV:eP tb p me= .agg #[.pointer (some ⟨tb,0,none⟩),.pointer (some ⟨p,0,none⟩),.int .i64 me]:=rfl
 rw [HTV]
 obtain ⟨o,t,hd,hcase⟩:=uM hr
 have HD:=Am_ hd
 have HCS:=Am_ hcase
 have h0:=aH.enter (me:=me) h
 unfold fC at h0
 have HT:=Am_ (h0.alloc (.cells #[.int .i64 r] 45))
 have HB1:=Am_ (Mine.new h0.lt (.cells #[.int .i64 r] 45))
 simp only [World.size_alloc] at HB1
 clear h h0 hr hd hcase HTV
 go_enter Tryz.func199,Tryz.ntmps199
 go_upto_region 1 with fail
 generalize ((w.alloc (.cells #[.pointer (some ⟨tb,0,none⟩),.pointer (some ⟨p,0,none⟩),.int .i64 me] 114)).alloc (.cells #[.int .i64 r] 45))=w1 at HT HB1 ⊢
 generalize hbb:w.heap.size=bt at HT HB1 ⊢
 have c0:=HT.out.c0
 go_wp2_with (go_at_call 154;refine (HT.out.Nf HB1.out HD.out).mono ?_;rintro e w2 ⟨⟨ok1,hm,hT,he⟩⟩;rcases HCS.out with hw | hw;(obtain ⟨rfl,rfl⟩:=hw;obtain rfl:e= .panicked dx:=he;exact ⟨rfl,⟨⟨ok1,hT.moves,hT.run,rfl⟩⟩⟩);obtain ⟨a0,rfl,hr2⟩:=hw;obtain rfl:e= .returned (.bool a0):=he;have HT2:=Am_ hT;have HR2:=Am_ hr2;clear hm hT hr2)
 go_ret
 obtain rfl:=HR2.out
 exact ⟨⟨_,HT2.out.moves,HT2.out.run,_,rfl,rfl⟩⟩
theorem jJ (p tb:Nat) (work:Value) (me:Int) (ok:Nat→Prop) (s:TS Ws) (w:World) (n:Int) (h:dN (shW p) tb work ok s w)  (res:Out Int × TS Ws) (hr:wu n s=some res):
  Calls Tryz.prog 201 #[eP tb p me,.int .i64 n] w (fQ (shW p) tb work VU8 ok w res):=by
 have HTV:eP tb p me= .agg #[.pointer (some ⟨tb,0,none⟩),.pointer (some ⟨p,0,none⟩),.int .i64 me]:=rfl
 rw [HTV]
 obtain ⟨o,t,hd,hcase⟩:=aD hr
 have HD:=Am_ hd
 have HCS:=Am_ hcase
 have h0:=aH.enter (me:=me) h
 unfold fC at h0
 have HT:=Am_ (h0.alloc (.cells #[.int .i64 n] 2))
 have HB1:=Am_ (Mine.new h0.lt (.cells #[.int .i64 n] 2))
 simp only [World.size_alloc] at HB1
 clear h h0 hr hd hcase HTV
 go_enter Tryz.func201,Tryz.ntmps201
 go_upto_region 1 with fail
 generalize ((w.alloc (.cells #[.pointer (some ⟨tb,0,none⟩),.pointer (some ⟨p,0,none⟩),.int .i64 me] 114)).alloc (.cells #[.int .i64 n] 2))=w1 at HT HB1 ⊢
 generalize hbb:w.heap.size=bt at HT HB1 ⊢
 have c0:=HT.out.c0
 go_wp2_with (go_at_call 137;refine (HT.out.Lu HB1.out HD.out).mono ?_;rintro e w2 ⟨⟨ok1,hm,hT,he⟩⟩;rcases HCS.out with hw | hw;(obtain ⟨rfl,rfl⟩:=hw;obtain rfl:e= .panicked dx:=he;exact ⟨rfl,⟨⟨ok1,hT.moves,hT.run,rfl⟩⟩⟩);obtain ⟨a0,rfl,hr2⟩:=hw;obtain rfl:e= .returned (.int .i64 a0):=he;have HT2:=Am_ hT;have HR2:=Am_ hr2;clear hm hT hr2)
 go_ret
 obtain rfl:res=(.ret (IntKind.u8.wrap a0),t):=by have h:=HR2.out;injection h with h;exact h.symm
 exact ⟨⟨_,HT2.out.moves,HT2.out.run,_,rfl,rfl⟩⟩
theorem lD (p tb:Nat) (work:Value) (me:Int) (ok:Nat→Prop) (s:TS Ws) (w:World) (n st:Int) (h:dN (shW p) tb work ok s w)  (res:Out Unit × TS Ws) (hr:Gt n st s=some res):
  Calls Tryz.prog 215 #[eP tb p me,.int .i64 n,.int .u8 st] w (fQ (shW p) tb work Di ok w res):=by
 have HTV:eP tb p me= .agg #[.pointer (some ⟨tb,0,none⟩),.pointer (some ⟨p,0,none⟩),.int .i64 me]:=rfl
 rw [HTV]
 obtain ⟨o,t,hd,hcase⟩:=aD hr
 have HD:=Am_ hd
 have HCS:=Am_ hcase
 have h0:=aH.enter (me:=me) h
 unfold fC at h0
 have HT:=Am_ ((h0.alloc (.cells #[.int .i64 n] 2)).alloc (.cells #[.int .u8 st] 281))
 have HB1:=Am_ ((Mine.new h0.lt (.cells #[.int .i64 n] 2)).alloc (.cells #[.int .u8 st] 281))
 have HB2:=Am_ (Mine.new (h0.alloc (.cells #[.int .i64 n] 2)).lt (.cells #[.int .u8 st] 281))
 simp only [World.size_alloc] at HB1 HB2
 clear h h0 hr hd hcase HTV
 go_enter Tryz.func215,Tryz.ntmps215
 go_upto_region 1 with fail
 generalize (((w.alloc (.cells #[.pointer (some ⟨tb,0,none⟩),.pointer (some ⟨p,0,none⟩),.int .i64 me] 114)).alloc (.cells #[.int .i64 n] 2)).alloc (.cells #[.int .u8 st] 281))=w1 at HT HB1 HB2 ⊢
 generalize hbb:w.heap.size=bt at HT HB1 HB2 ⊢
 have c0:=HT.out.c0
 go_wp2_with (go_at_call 137;refine (HT.out.Ny HB1.out HB2.out HD.out).mono ?_;rintro e w2 ⟨⟨ok1,hm,hT,he⟩⟩;rcases HCS.out with hw | hw;(obtain ⟨rfl,rfl⟩:=hw;obtain rfl:e= .panicked dx:=he;exact ⟨rfl,⟨⟨ok1,hT.moves,hT.run,rfl⟩⟩⟩);obtain ⟨a0,rfl,hr2⟩:=hw;obtain rfl:e= .returned (.int .i64 a0):=he;have HT2:=Am_ hT;have HR2:=Am_ hr2;clear hm hT hr2)
 go_end0
 obtain rfl:res=(.ret (),t):=by have h:=HR2.out;injection h with h;exact h.symm
 exact ⟨⟨_,HT2.out.moves,HT2.out.run,_,rfl,rfl⟩⟩
theorem uS (p tb:Nat) (work:Value) (me:Int) (ok:Nat→Prop) (s:TS Ws) (w:World) (n:Nd) (b0 b1:Bool) (Ap Ak Ay:Option Addr) (lp lk ly cp ck cy:Nat) (h:dN (shW p) tb work ok s w) (hn:NdF (fun k=> ¬ ok k) n (.agg #[.bool b0,.bool b1,.slice Ap lp cp,.slice Ak lk ck,.slice Ay ly cy]) w) (hsm:n.Small) (res:Out Int × TS Ws) (hr:IG n s=some res):
  Calls Tryz.prog 170 #[eP tb p me,.agg #[.bool b0,.bool b1,.slice Ap lp cp,.slice Ak lk ck,.slice Ay ly cy]] w (fQ (shW p) tb work FZ ok w res):=by
 have HTV:eP tb p me= .agg #[.pointer (some ⟨tb,0,none⟩),.pointer (some ⟨p,0,none⟩),.int .i64 me]:=rfl
 rw [HTV]
 obtain ⟨o,t,hd,hcase⟩:=uM hr
 have HD:=Am_ hd
 have HCS:=Am_ hcase
 have h0:=aH.enter (me:=me) h
 unfold fC at h0
 have HT:=Am_ (h0.alloc (.cells #[.bool b0,.bool b1,.slice Ap lp cp,.slice Ak lk ck,.slice Ay ly cy] 157))
 have HB1:=Am_ (Mine.new h0.lt (.cells #[.bool b0,.bool b1,.slice Ap lp cp,.slice Ak lk ck,.slice Ay ly cy] 157))
 simp only [World.size_alloc] at HB1
 have HX:=Am_ (hn.moves (((Moves.refl ok w).alloc (.cells #[.pointer (some ⟨tb,0,none⟩),.pointer (some ⟨p,0,none⟩),.int .i64 me] 114)).alloc (.cells #[.bool b0,.bool b1,.slice Ap lp cp,.slice Ak lk ck,.slice Ay ly cy] 157)))
 have HSM:=Am_ hsm
 clear h h0 hr hd hcase HTV hn hsm
 go_enter Tryz.func170,Tryz.ntmps170
 go_upto_region 1 with fail
 generalize ((w.alloc (.cells #[.pointer (some ⟨tb,0,none⟩),.pointer (some ⟨p,0,none⟩),.int .i64 me] 114)).alloc (.cells #[.bool b0,.bool b1,.slice Ap lp cp,.slice Ak lk ck,.slice Ay ly cy] 157))=w1 at HT HB1 HX ⊢
 generalize hbb:w.heap.size=bt at HT HB1 ⊢
 have c0:=HT.out.c0
 go_wp2_with (go_at_call 137;refine (HT.out.Nc HB1.out HX.out HSM.out HD.out).mono ?_;rintro e w2 ⟨⟨ok1,hm,hT,he⟩⟩;rcases HCS.out with hw | hw;(obtain ⟨rfl,rfl⟩:=hw;obtain rfl:e= .panicked dx:=he;exact ⟨rfl,⟨⟨ok1,hT.moves,hT.run,rfl⟩⟩⟩);obtain ⟨a0,rfl,hr2⟩:=hw;obtain rfl:e= .returned (.int .i64 a0):=he;have HT2:=Am_ hT;have HR2:=Am_ hr2;clear hm hT hr2)
 go_ret
 obtain rfl:=HR2.out
 exact ⟨⟨_,HT2.out.moves,HT2.out.run,_,rfl,rfl⟩⟩
def iG (n:Int):List (Int × Int)→Pr Ws (Option Bool)
 | []=>dS none
 | (x,i)::l=>aU (sI x i n) fun a=>if a then iG n l else aU (qo x) fun m=>if m=n then iG n l else aU (Dk n) fun b=>if b then dS (some true) else aU (Gt n 0) fun _=>dS (some false)
def jh:List Int→Pr Ws Unit
 | []=>dS ()
 | x::l=>aU (vZ x) fun _=>jh l
def uh (n:Int):Pr Ws Bool:=aU (Gt n 2) fun _=>dS true
def kr (n:Int) (rc:Rc):Pr Ws Bool:=match rc.nodes with
 | []=>uh n
 | x::_=>aU (qI x rc.way rc.old rc.new) fun _=>uh n
def ko (rc:Rc):Nat:=min rc.keep.toNat rc.nodes.length
def ug (n:Int) (rc:Rc):Pr Ws Bool:=aU (BP n) fun _=>aU (jh (rc.nodes.drop (ko rc))) fun _=>kr n rc
def jH (n:Int) (rc:Rc):Option Bool→Pr Ws Bool
 | some b=>dS b
 | none=>ug n rc
def qm (n:Int):Pr Ws Bool:=fun s=>if (s.sh.tb.en n).rc.nodes.length=(s.sh.tb.en n).rc.infos.length∧0≤(s.sh.tb.en n).rc.keep∧(s.sh.tb.en n).rc.keep<1000000 then aU (iG n ((s.sh.tb.en n).rc.nodes.zip (s.sh.tb.en n).rc.infos)) (jH n (s.sh.tb.en n).rc) s else none
structure iO (p tb:Nat) (work:Value) (me:Int) (bt:Nat) (ok:Nat→Prop) (w:World) (n:Int) (rc:Rc) (bn br:Nat) (A1 A2:Option Addr) (c1 c2:Nat) (okc:Nat→Prop) (s:TS Ws) (wc:World):Prop where
 task:aH p tb work me bt ok w okc s wc
 num:Mine okc wc bn (jE n)
 box_:Mine okc wc br (.cells #[.slice A1 rc.nodes.length c1,.slice A2 rc.infos.length c2,.int .i64 rc.keep,.int .i64 rc.way,.int .i64 rc.old,.int .i64 rc.new] 254 (0,0))
 nodes:(Kd.int .i64).F wc (fun k=> ¬ okc k) A1 rc.nodes.length rc.nodes
 infos:(Kd.int .i64).F wc (fun k=> ¬ okc k) A2 rc.infos.length rc.infos
 flat1:Flat A1
 flat2:Flat A2
 cap1:rc.nodes.length≤c1
section
variable {p tb:Nat} {work:Value} {me:Int} {bt:Nat} {ok okc ok2:Nat→Prop} {w wc w2:World} {n:Int} {rc:Rc} {bn br:Nat} {A1 A2:Option Addr} {c1 c2:Nat} {s s2:TS Ws}
theorem iO.next (h:iO p tb work me bt ok w n rc bn br A1 A2 c1 c2 okc s wc) (m:Moves okc ok2 wc w2) (t:aH p tb work me bt ok w ok2 s2 w2):iO p tb work me bt ok w n rc bn br A1 A2 c1 c2 ok2 s2 w2:=⟨t,h.num.moves m,h.box_.moves m,gZ h.nodes m,gZ h.infos m,h.flat1,h.flat2,h.cap1⟩
theorem iO.below (h:iO p tb work me bt ok w n rc bn br A1 A2 c1 c2 okc s wc) (b:Below wc.heap.size wc w2):iO p tb work me bt ok w n rc bn br A1 A2 c1 c2 okc s w2:=h.next (Moves.bE _ b) (h.task.below b)
theorem iO.alloc (h:iO p tb work me bt ok w n rc bn br A1 A2 c1 c2 okc s wc) (o:Obj):iO p tb work me bt ok w n rc bn br A1 A2 c1 c2 okc s (wc.alloc o):=h.below (ai (Below.refl _ _) o)
theorem iO.drew (h:iO p tb work me bt ok w n rc bn br A1 A2 c1 c2 okc s wc):iO p tb work me bt ok w n rc bn br A1 A2 c1 c2 okc s wc.drew:=h.below (aM (Below.refl _ _))
theorem aH.setCells (h:aH p tb work me bt ok w okc s wc) {q:Nat} (hn: ¬ okc q) (hw:w.heap.size≤q) (ht:q≠bt) (seg:List Value):aH p tb work me bt ok w okc s (wc.setCells q 0 seg):=
 ⟨h.run.step (aX p) (by rw [(dM q seg 0 wc).2.2.2];exact Nat.le_refl _) (fun k hk _=>aW seg 0 k (fun e=>hn (e▸hk))),jq h.moves (.inr hw) 0 seg,⟨(aW seg 0 bt (fun e=>ht e.symm)).trans h.box.1,h.box.2⟩⟩
theorem aH.Lm (h:aH p tb work me bt ok w okc s wc) {pR:Nat} (hp:wc.cell? ⟨p,1,none⟩=some (.pointer (some ⟨pR,0,none⟩))):
  Calls Tryz.prog 208 #[.pointer (some ⟨pR,0,none⟩),.int .i64 n] wc (Fx (s.sh.tb.en n).rc wc):=by
 obtain ⟨_,_,⟨⟨okA,okR,okE,pA,pR1,pE1,hw⟩,hg⟩,_⟩:=h.run.direct
 have h1:=(af hw.box 1).symm.trans hp
 injection h1 with h1
 injection h1 with h1
 injection h1 with h1
 injection h1 with h1
 subst h1
 exact Ju n wc hw.tb hg.tb
theorem aH.pR (h:aH p tb work me bt ok w okc s wc): ∃ pR,wc.cell? ⟨p,1,none⟩=some (.pointer (some ⟨pR,0,none⟩)):=by
 obtain ⟨_,_,⟨⟨_,_,_,_,pR,_,hw⟩,_⟩,_⟩:=h.run.direct
 exact ⟨pR,(af hw.box 1).trans rfl⟩
end
theorem Gz (xs ys:List Int) (k:Nat) (h1:k<xs.length) (h2:k<ys.length):(xs.zip ys).drop k=(xs.getD k 0,ys.getD k 0)::(xs.zip ys).drop (k+1):=by
 have hk:k<(xs.zip ys).length:=by rw [List.length_zip];omega
 rw [List.drop_eq_getElem_cons hk,List.getElem_zip,List.getD_eq_getElem?_getD,List.getD_eq_getElem?_getD,List.getElem?_eq_getElem h1,List.getElem?_eq_getElem h2]
 rfl
theorem Hq {w:World} {D:Nat→Prop} {A:Option Addr} {n:Nat} {xs:List Int} (h:(Kd.int .i64).F w D A n xs) (hf:Flat A) (i:Nat) (hi:i<n): ∃ g,A=some ⟨g,0,none⟩∧w.cell? ⟨g,i,none⟩=some (.int .i64 (xs.getD i 0))∧xs[i]?=some (xs.getD i 0):=by
 have hC:=Kd.gu h
 obtain ⟨ad,c,e,_,hK,hc0⟩:=Kd.oz hC 0 (i:Int) (by omega) (by omega)
 obtain ⟨g,rfl⟩:=hf ad e
 have hc1: ∀ j u,c[j]?=some u→w.cell? ((⟨g,0,none⟩:Addr).add ((i:Int).toNat*1+j))=some u:=hc0
 obtain rfl:c= [.int .i64 (xs.getD (i:Int).toNat 0)]:=hK
 have h2:=hc1 0 _ rfl
 rw [Int.toNat_natCast,Nat.mul_one,Nat.add_zero,jf,Nat.zero_add] at h2
 have hl:xs.length=n:=hC.1
 exact ⟨g,e,h2,by rw [List.getD_eq_getElem?_getD,List.getElem?_eq_getElem (by omega),Option.getD_some]⟩
structure qQ (p tb:Nat) (work:Value) (me:Int) (bt:Nat) (ok:Nat→Prop) (w:World) (n:Int) (rc:Rc) (bn br:Nat) (A1 A2:Option Addr) (c1 c2:Nat) (rest:Pr Ws Bool) (res:Out Bool × TS Ws) (wc:World):Prop where
 out: ∃ okc s,iO p tb work me bt ok w n rc bn br A1 A2 c1 c2 okc s wc∧rest s=some res
def FO:Bool × List (List Nat × List Nat):=(true,[([],[]),([0],[0]),([1],[1]),([2],[2]),([3],[3]),([],[]),([4,5],[4,5]),([],[]),([7,6,6,0,1,2,3,4,5,6,7],[6,7])])
def JS:List Nat:= [0,1,3,7,15,0,63,0,255]
theorem EQ:fq .any (opsOf Tryz.f175 1)=FO:=by kernel_rfl
theorem zQ:bA FO.2 JS=true:=by kernel_rfl
def FP:Bool × List (List Nat × List Nat):=(true,[([],[]),([0],[0]),([],[]),([1,2],[1,2]),([],[]),([3,4],[3,4])])
def JU:List Nat:= [0,1,0,7,0,31]
theorem ER:fq .any (opsOf Tryz.f175 6)=FP:=by kernel_rfl
theorem zR:bA FP.2 JU=true:=by kernel_rfl
theorem lC (p tb:Nat) (work:Value) (me n:Int) (ok:Nat→Prop) (s:TS Ws) (w:World) (h:dN (shW p) tb work ok s w) (res:Out Bool × TS Ws) (hr:qm n s=some res):
  Calls Tryz.prog 175 #[eP tb p me,.int .i64 n] w (fQ (shW p) tb work Ib ok w res):=by
 have HTV:eP tb p me= .agg #[.pointer (some ⟨tb,0,none⟩),.pointer (some ⟨p,0,none⟩),.int .i64 me]:=rfl
 rw [HTV]
 unfold qm at hr
 generalize hrc:(s.sh.tb.en n).rc=rc at hr
 have HRC:=Am_ hrc
 have hgd:rc.nodes.length=rc.infos.length∧0≤rc.keep∧rc.keep<1000000:=by
  by_cases h1:rc.nodes.length=rc.infos.length∧0≤rc.keep∧rc.keep<1000000
  ·exact h1
  ·rw [if_neg h1] at hr
   cases hr
 rw [if_pos hgd] at hr
 have HGD:=Am_ hgd
 have HR:=Am_ hr
 have h0:=aH.enter (me:=me) h
 unfold fC at h0
 have HT:=Am_ (h0.alloc (.cells #[.int .i64 n] 2))
 have HBN:=Am_ (Mine.new h0.lt (.cells #[.int .i64 n] 2))
 simp only [World.size_alloc] at HBN
 have HSM:=Am_ (show rc.nodes.length<1000000 by
  have hg:=h.good.tb
  rw [←hrc]
  unfold Tb.en
  split
  ·decide
  ·rename_i i hi
   rw [List.getD_eq_getElem?_getD]
   cases hq:s.sh.tb.l[i]? with
   | none=>show en0.rc.nodes.length<_;decide
   | some q=>exact (hg.small i q hq).1)
 clear h h0 hr HTV hrc hgd
 go_enter Tryz.func175,Tryz.ntmps175
 go_upto_region 1 with fail
 generalize (w.alloc (.cells #[.pointer (some ⟨tb,0,none⟩),.pointer (some ⟨p,0,none⟩),.int .i64 me] 114)).alloc (.cells #[.int .i64 n] 2)=w1 at HT HBN ⊢
 generalize hbb:w.heap.size=bt at HT HBN ⊢
 have HBT0:ak (w.heap.size≤bt):=⟨by omega⟩
 clear hbb
 generalize hbn:bt+1=bn at HBN ⊢
 have HNT:ak (bn≠bt∧w.heap.size≤bn):=⟨by have:=HBT0.out;omega⟩
 clear hbn
 go_cut [5] from 10 (fun v5 wc=> ∃ (br:Nat) (A1 A2:Option Addr) (c1 c2:Nat),v5= .pointer (some ⟨br,0,none⟩)∧ak (qQ p tb work me bt ok w n rc bn br A1 A2 c1 c2 (aU (iG n (rc.nodes.zip rc.infos)) (jH n rc)) res wc))
 case first=>
  obtain ⟨pR,hpR⟩:=HT.out.pR
  have HC:=Am_ (And.intro HT.out.c1 (And.intro hpR ((af HBN.out.1 0).trans (rfl:_=some (Value.int .i64 n)))))
  clear hpR
  refine bG (n:=9) (S:=fun w'=>w'.cell? ⟨bt,1,none⟩=some (.pointer (some ⟨p,0,none⟩))∧w'.cell? ⟨p,1,none⟩=some (.pointer (some ⟨pR,0,none⟩))∧w'.cell? ⟨bn,0,none⟩=some (.int .i64 n)) (ds:= [8]) (by kernel_rfl) rfl EQ zQ HC.out (fun hHeld HT_ HW_=>?_)
  have HT:=Am_ HT.out.drew
  have HBN:=Am_ (HBN.out.moves (Moves.drew (Moves.refl _ _)))
  clear HC
  generalize World.drew _=w1 at HT HBN hHeld ⊢
  refine eO [(0,some 10),(1,some 11),(2,some 12),(3,some 13),(4,some 14),(5,some 15)] ?_
  (refine dZ (v:=?_) (a':=?_) HT_ (by kernel_rfl) rfl rfl (fun _ _ _ h=>h) (Or.inl ⟨by rfl,?_⟩) ?_ ?_;rotate_left;(intro w';go_simp;with_reducible rfl);rotate_left;(simp only [Act.put,p1_,p2_,p3_,ax,ay];rfl))
  iterate 5 (refine iW (v:=?_) (a':=?_) HT_ HW_ (by kernel_rfl) rfl rfl (fun _ _ _ h=>h) hHeld (Or.inl ⟨by rfl,?_⟩) ?_ ?_;rotate_left;(rintro w' ⟨s0,s1,s2⟩;go_simp;with_reducible rfl);rotate_left;(simp only [Act.put,p1_,p2_,p3_,ax,ay];rfl))
  refine aZ ?_
  refine Fe (i:=6) (j:=7) (Ni:=some 16) (Nj:=some 5) #[Y_,Y_,Y_,Y_,Y_,Y_,Y_,N_,N_] #[Y_,Y_,Y_,Y_,Y_,Y_,N_,Y_,N_] rfl rfl rfl rfl (by kernel_rfl) (fun K_ hK=>?_) (fun K_ hK=>?_)
  ·refine call_ 208 #[.pointer (some ⟨pR,0,none⟩),.int .i64 n] (by rfl) rfl ?hk6 ?_
   (case hk6=>first | (go_simp;done) | (go_simp;exact enters Tryz.func208 (by kernel_rfl) rfl _ _))
   refine (HT.out.Lm hHeld.2.1).mono ?_
   rintro e w2 hE
   rw [HRC.out] at hE
   obtain ⟨A1,c1,A2,c2,rfl,hl1,hf1,hl2,hf2,hb,hx1,hx2⟩:=hE.out
   have HX:=Am_ (And.intro hx1 (And.intro hx2 hl1))
   clear hx1 hx2
   refine ⟨_,rfl,?_⟩
   refine hK.out _ _ (fun _ hS=>⟨aj hb hS.1,aj hb hS.2.1,aj hb hS.2.2⟩) ?_
   clear hK K_
   refine bK (a':=?_) ?_ ?_
   rotate_left; · show Act.put _ (some 16) _=_;simp only [Act.put,p1_,p2_,p3_,ax,ay];rfl
   refine xS (i:=7) (N:=some 5) #[Y_,Y_,Y_,Y_,Y_,Y_,Y_,Y_,N_] rfl rfl (by kernel_rfl) (fun K_ hK=>?_)
   refine fT (v:= .pointer (some ⟨w2.heap.size,0,none⟩)) (w1:=w2.alloc (.cells #[.slice none 0 0,.slice none 0 0,.int .i64 0,.int .i64 0,.int .i64 0,.int .i64 0] 254)) (by rfl) rfl ?ha7 ?_
   (case ha7=>go_simp;first | done | rfl)
   refine hK.out _ _ (fun _ hS=>⟨aj (ai (Below.refl _ _) _) hS.1,aj (ai (Below.refl _ _) _) hS.2.1,aj (ai (Below.refl _ _) _) hS.2.2⟩) ?_
   clear hK K_
   refine bK (a':=?_) ?_ ?_
   rotate_left; · show Act.put _ (some 5) _=_;simp only [Act.put,p1_,p2_,p3_,ax,ay];rfl
   have HT2:=HT.out.below hb
   have HB:=Am_ (Mine.new HT2.lt (.cells #[.slice none 0 0,.slice none 0 0,.int .i64 0,.int .i64 0,.int .i64 0,.int .i64 0] 254))
   have HT3:=Am_ (HT2.alloc (.cells #[.slice none 0 0,.slice none 0 0,.int .i64 0,.int .i64 0,.int .i64 0,.int .i64 0] 254))
   have HBN3:=Am_ ((HBN.out.moves (Moves.bE _ hb)).alloc (.cells #[.slice none 0 0,.slice none 0 0,.int .i64 0,.int .i64 0,.int .i64 0,.int .i64 0] 254))
   have HBW:ak (w.heap.size≤w2.heap.size):=⟨HT2.moves.size⟩
   have HBT:ak (w2.heap.size≠bt):=⟨by have:=HT2.box.lt;omega⟩
   have HBB:ak (w2.heap.size≠bn):=⟨by have:=(HBN.out.moves (Moves.bE _ hb)).lt;omega⟩
   have hlt1:=HT.out.lt
   have HF1:=Am_ (Kd.dh (ok':=fun k=> ¬ ok k∧k≠w2.heap.size) (Kd.eD (Kd.dX hf1) (.cells #[.slice none 0 0,.slice none 0 0,.int .i64 0,.int .i64 0,.int .i64 0,.int .i64 0] 254)) (fun k hk=>⟨fun h=>by have:=hlt1 k h;have:=hk.1;omega,by have:=hk.2;omega⟩))
   have HF2:=Am_ (Kd.dh (ok':=fun k=> ¬ ok k∧k≠w2.heap.size) (Kd.eD (Kd.dX hf2) (.cells #[.slice none 0 0,.slice none 0 0,.int .i64 0,.int .i64 0,.int .i64 0,.int .i64 0] 254)) (fun k hk=>⟨fun h=>by have:=hlt1 k h;have:=hk.1;omega,by have:=hk.2;omega⟩))
   clear HT HBN hHeld hE hl1 hf1 hl2 hf2 hb HT2 hlt1
   generalize w2.alloc (.cells #[.slice none 0 0,.slice none 0 0,.int .i64 0,.int .i64 0,.int .i64 0,.int .i64 0] 254)=w3 at HT3 HB HBN3 HF1 HF2 ⊢
   generalize w2.heap.size=br at HB HBW HBT HBB HF1 HF2 ⊢
   refine bP (i:=8) none HT_ (by kernel_rfl) rfl rfl (by decide) (fun K_ hK=>?_)
   refine fB (w1:=w3.setCells br 0 [.slice A1 rc.nodes.length c1,.slice A2 rc.infos.length c2,.int .i64 rc.keep,.int .i64 rc.way,.int .i64 rc.old,.int .i64 rc.new]) (by rfl) rfl ?_ ?_
   ·exact gq _ [.slice A1 rc.nodes.length c1,.slice A2 rc.infos.length c2,.int .i64 rc.keep,.int .i64 rc.way,.int .i64 rc.old,.int .i64 rc.new] rfl (by rfl) (by rfl) HB.out.1 rfl (by kernel_rfl) (by simp) (by intro u hu;simp only [List.mem_cons,List.not_mem_nil,or_false] at hu;rcases hu with rfl | rfl | rfl | rfl | rfl | rfl<;>rfl)
   refine hK.out _ _ ?_
   clear hK K_
   have HA:ak (iO p tb work me bt ok w n rc bn br A1 A2 c1 c2 ok s (w3.setCells br 0 [.slice A1 rc.nodes.length c1,.slice A2 rc.infos.length c2,.int .i64 rc.keep,.int .i64 rc.way,.int .i64 rc.old,.int .i64 rc.new])):=⟨{
    task:=HT3.out.setCells HB.out.2 HBW.out HBT.out [.slice A1 rc.nodes.length c1,.slice A2 rc.infos.length c2,.int .i64 rc.keep,.int .i64 rc.way,.int .i64 rc.old,.int .i64 rc.new]
    num:=⟨(aW [.slice A1 rc.nodes.length c1,.slice A2 rc.infos.length c2,.int .i64 rc.keep,.int .i64 rc.way,.int .i64 rc.old,.int .i64 rc.new] 0 bn (fun e=>HBB.out e.symm)).trans HBN3.out.1,HBN3.out.2⟩
    box_:=⟨gV (seg:= [.slice A1 rc.nodes.length c1,.slice A2 rc.infos.length c2,.int .i64 rc.keep,.int .i64 rc.way,.int .i64 rc.old,.int .i64 rc.new]) HB.out.1 rfl,HB.out.2⟩
    nodes:=Kd.dh (Kd.eU HF1.out (fun k hk _=>aW [.slice A1 rc.nodes.length c1,.slice A2 rc.infos.length c2,.int .i64 rc.keep,.int .i64 rc.way,.int .i64 rc.old,.int .i64 rc.new] 0 k hk.2)) (fun k hk=>hk.1)
    infos:=Kd.dh (Kd.eU HF2.out (fun k hk _=>aW [.slice A1 rc.nodes.length c1,.slice A2 rc.infos.length c2,.int .i64 rc.keep,.int .i64 rc.way,.int .i64 rc.old,.int .i64 rc.new] 0 k hk.2)) (fun k hk=>hk.1)
    flat1:=HX.out.1
    flat2:=HX.out.2.1
    cap1:=HX.out.2.2 }⟩
   clear HT3 HB HBN3 HF1 HF2
   generalize w3.setCells br 0 [.slice A1 rc.nodes.length c1,.slice A2 rc.infos.length c2,.int .i64 rc.keep,.int .i64 rc.way,.int .i64 rc.old,.int .i64 rc.new]=w4 at HA ⊢
   refine dD (by kernel_rfl) ?_
   go_wp2_with fail
   go_meet
   case rel=>exact ⟨br,A1,A2,c1,c2,rfl,⟨⟨ok,s,HA.out,HR.out⟩⟩⟩
  ·refine fT (v:= .pointer (some ⟨w1.heap.size,0,none⟩)) (w1:=w1.alloc (.cells #[.slice none 0 0,.slice none 0 0,.int .i64 0,.int .i64 0,.int .i64 0,.int .i64 0] 254)) (by rfl) rfl ?hb7 ?_
   (case hb7=>go_simp;first | done | rfl)
   refine hK.out _ _ (fun _ hS=>⟨aj (ai (Below.refl _ _) _) hS.1,aj (ai (Below.refl _ _) _) hS.2.1,aj (ai (Below.refl _ _) _) hS.2.2⟩) ?_
   clear hK K_
   refine bK (a':=?_) ?_ ?_
   rotate_left; · show Act.put _ (some 5) _=_;simp only [Act.put,p1_,p2_,p3_,ax,ay];rfl
   have HB:=Am_ (Mine.new HT.out.lt (.cells #[.slice none 0 0,.slice none 0 0,.int .i64 0,.int .i64 0,.int .i64 0,.int .i64 0] 254))
   have HBW:ak (w.heap.size≤w1.heap.size):=⟨HT.out.moves.size⟩
   have HBT:ak (w1.heap.size≠bt):=⟨by have:=HT.out.box.lt;omega⟩
   have HBB:ak (w1.heap.size≠bn):=⟨by have:=HBN.out.lt;omega⟩
   have HLT:=Am_ HT.out.lt
   have HT:=Am_ (HT.out.alloc (.cells #[.slice none 0 0,.slice none 0 0,.int .i64 0,.int .i64 0,.int .i64 0,.int .i64 0] 254))
   have HBN:=Am_ (HBN.out.alloc (.cells #[.slice none 0 0,.slice none 0 0,.int .i64 0,.int .i64 0,.int .i64 0,.int .i64 0] 254))
   have hHeld:(_∧_∧_):=⟨aj (ai (Below.refl _ _) (.cells #[.slice none 0 0,.slice none 0 0,.int .i64 0,.int .i64 0,.int .i64 0,.int .i64 0] 254)) hHeld.1,aj (ai (Below.refl _ _) (.cells #[.slice none 0 0,.slice none 0 0,.int .i64 0,.int .i64 0,.int .i64 0,.int .i64 0] 254)) hHeld.2.1,aj (ai (Below.refl _ _) (.cells #[.slice none 0 0,.slice none 0 0,.int .i64 0,.int .i64 0,.int .i64 0,.int .i64 0] 254)) hHeld.2.2⟩
   have HSZ:ak (w1.heap.size<(w1.alloc (.cells #[.slice none 0 0,.slice none 0 0,.int .i64 0,.int .i64 0,.int .i64 0,.int .i64 0] 254)).heap.size):=⟨by simp⟩
   generalize w1.alloc (.cells #[.slice none 0 0,.slice none 0 0,.int .i64 0,.int .i64 0,.int .i64 0,.int .i64 0] 254)=w2 at HB HT HBN hHeld HSZ ⊢
   generalize w1.heap.size=br at HB HBW HBT HBB HLT HSZ ⊢
   refine xS (i:=6) (N:=some 16) #[Y_,Y_,Y_,Y_,Y_,Y_,Y_,Y_,N_] rfl rfl (by kernel_rfl) (fun K_ hK=>?_)
   refine call_ 208 #[.pointer (some ⟨pR,0,none⟩),.int .i64 n] (by rfl) rfl ?hk6 ?_
   (case hk6=>first | (go_simp;done) | (go_simp;exact enters Tryz.func208 (by kernel_rfl) rfl _ _))
   refine (HT.out.Lm hHeld.2.1).mono ?_
   rintro e w3 hE
   rw [HRC.out] at hE
   obtain ⟨A1,c1,A2,c2,rfl,hl1,hf1,hl2,hf2,hb,hx1,hx2⟩:=hE.out
   have HX:=Am_ (And.intro hx1 (And.intro hx2 hl1))
   clear hx1 hx2
   refine ⟨_,rfl,?_⟩
   refine hK.out _ _ (fun _ hS=>⟨aj hb hS.1,aj hb hS.2.1,aj hb hS.2.2⟩) ?_
   clear hK K_
   refine bK (a':=?_) ?_ ?_
   rotate_left; · show Act.put _ (some 16) _=_;simp only [Act.put,p1_,p2_,p3_,ax,ay];rfl
   have HT3:=Am_ (HT.out.below hb)
   have HB:=Am_ (HB.out.moves (Moves.bE _ hb))
   have HBN3:=Am_ (HBN.out.moves (Moves.bE _ hb))
   have hlt1:=HLT.out
   have hsz:=HSZ.out
   have HF1:=Am_ (Kd.dh (ok':=fun k=> ¬ ok k∧k≠br) hf1 (fun k hk=>⟨fun h=>by have:=hlt1 k h;omega,by omega⟩))
   have HF2:=Am_ (Kd.dh (ok':=fun k=> ¬ ok k∧k≠br) hf2 (fun k hk=>⟨fun h=>by have:=hlt1 k h;omega,by omega⟩))
   clear HT HBN hHeld hE hl1 hf1 hl2 hf2 hb hlt1 hsz HLT HSZ
   refine bP (i:=8) none HT_ (by kernel_rfl) rfl rfl (by decide) (fun K_ hK=>?_)
   refine fB (w1:=w3.setCells br 0 [.slice A1 rc.nodes.length c1,.slice A2 rc.infos.length c2,.int .i64 rc.keep,.int .i64 rc.way,.int .i64 rc.old,.int .i64 rc.new]) (by rfl) rfl ?_ ?_
   ·exact gq _ [.slice A1 rc.nodes.length c1,.slice A2 rc.infos.length c2,.int .i64 rc.keep,.int .i64 rc.way,.int .i64 rc.old,.int .i64 rc.new] rfl (by rfl) (by rfl) HB.out.1 rfl (by kernel_rfl) (by simp) (by intro u hu;simp only [List.mem_cons,List.not_mem_nil,or_false] at hu;rcases hu with rfl | rfl | rfl | rfl | rfl | rfl<;>rfl)
   refine hK.out _ _ ?_
   clear hK K_
   have HA:ak (iO p tb work me bt ok w n rc bn br A1 A2 c1 c2 ok s (w3.setCells br 0 [.slice A1 rc.nodes.length c1,.slice A2 rc.infos.length c2,.int .i64 rc.keep,.int .i64 rc.way,.int .i64 rc.old,.int .i64 rc.new])):=⟨{
    task:=HT3.out.setCells HB.out.2 HBW.out HBT.out [.slice A1 rc.nodes.length c1,.slice A2 rc.infos.length c2,.int .i64 rc.keep,.int .i64 rc.way,.int .i64 rc.old,.int .i64 rc.new]
    num:=⟨(aW [.slice A1 rc.nodes.length c1,.slice A2 rc.infos.length c2,.int .i64 rc.keep,.int .i64 rc.way,.int .i64 rc.old,.int .i64 rc.new] 0 bn (fun e=>HBB.out e.symm)).trans HBN3.out.1,HBN3.out.2⟩
    box_:=⟨gV (seg:= [.slice A1 rc.nodes.length c1,.slice A2 rc.infos.length c2,.int .i64 rc.keep,.int .i64 rc.way,.int .i64 rc.old,.int .i64 rc.new]) HB.out.1 rfl,HB.out.2⟩
    nodes:=Kd.dh (Kd.eU HF1.out (fun k hk _=>aW [.slice A1 rc.nodes.length c1,.slice A2 rc.infos.length c2,.int .i64 rc.keep,.int .i64 rc.way,.int .i64 rc.old,.int .i64 rc.new] 0 k hk.2)) (fun k hk=>hk.1)
    infos:=Kd.dh (Kd.eU HF2.out (fun k hk _=>aW [.slice A1 rc.nodes.length c1,.slice A2 rc.infos.length c2,.int .i64 rc.keep,.int .i64 rc.way,.int .i64 rc.old,.int .i64 rc.new] 0 k hk.2)) (fun k hk=>hk.1)
    flat1:=HX.out.1
    flat2:=HX.out.2.1
    cap1:=HX.out.2.2 }⟩
   clear HT3 HB HBN3 HF1 HF2
   generalize w3.setCells br 0 [.slice A1 rc.nodes.length c1,.slice A2 rc.infos.length c2,.int .i64 rc.keep,.int .i64 rc.way,.int .i64 rc.old,.int .i64 rc.new]=w4 at HA ⊢
   refine dD (by kernel_rfl) ?_
   go_wp2_with fail
   go_meet
   case rel=>exact ⟨br,A1,A2,c1,c2,rfl,⟨⟨ok,s,HA.out,HR.out⟩⟩⟩
 case rest=>
  obtain ⟨br,A1,A2,c1,c2,rfl,HIN⟩:=hcut
  clear HT HBN HR HRC
  obtain ⟨okc,s1,hA,hr⟩:=HIN.out.out
  have y0:=(af hA.box_.1 0).trans (rfl:_=some (Value.slice A1 rc.nodes.length c1))
  clear hA hr
  go_upto_block 0 with fail
  clear y0
  go_wp2_with fail
  go_loopg [20] rc.nodes.length (fun g v20 wr=> ∃ k:Nat,v20= .int .i64 k∧k+g=rc.nodes.length∧ak (qQ p tb work me bt ok w n rc bn br A1 A2 c1 c2 (aU (iG n ((rc.nodes.zip rc.infos).drop k)) (jH n rc)) res wr))
  case atStart=>exact ⟨0,rfl,by omega,⟨by have h:=HIN.out;rwa [List.drop_zero]⟩⟩
  case round=>
   obtain ⟨k,rfl,hkg,HQ⟩:=hrel
   clear HIN
   cases gk with
   | zero=>
    obtain ⟨okc,s2,hA,hr0⟩:=HQ.out.out
    have hk:k=rc.nodes.length:=by omega
    have hr:ug n rc s2=some res:=by
     rw [List.drop_of_length_le (by rw [List.length_zip];omega)] at hr0
     exact hr0
    have d1:decide ((k:Int)<(rc.nodes.length:Int))=false:=decide_eq_false (by omega)
    have d2:decide (k<rc.nodes.length)=false:=decide_eq_false (by omega)
    unfold ug at hr
    obtain ⟨o,t,hd,hcase⟩:=aD hr
    have HD:=Am_ hd
    have HCS:=Am_ hcase
    clear hd hcase
    have HA:=Am_ hA
    clear hA hr hr0 HQ hk
    have c0:=HA.out.task.c0
    go_upto_region 13 with (go_at_call 137;refine (HA.out.task.Ns HA.out.num HD.out).mono ?_;rintro e wq ⟨⟨okq,hm,hT,he⟩⟩;rcases HCS.out with hw | hw;(obtain ⟨rfl,rfl⟩:=hw;obtain rfl:e= .panicked dx:=he;exact ⟨rfl,⟨⟨okq,hT.moves,hT.run,rfl⟩⟩⟩);obtain ⟨a3,rfl,hr2⟩:=hw;obtain rfl:e= .returned (.int .i64 a3):=he;have HA:=Am_ (HA.out.next hm hT);have HR2:=Am_ hr2;clear hm hT hr2;clear c0)
    clear d1 d2 HD HCS
    have y0:=(af HA.out.box_.1 0).trans (rfl:_=some (Value.slice A1 rc.nodes.length c1))
    have y2:=(af HA.out.box_.1 2).trans (rfl:_=some (Value.int .i64 rc.keep))
    have hmin:(if (rc.nodes.length:Int)<rc.keep then (rc.nodes.length:Int) else rc.keep)=((ko rc:Nat):Int):=by have:=HGD.out;unfold ko;split<;>omega
    have hcl:ko rc≤rc.nodes.length:=by unfold ko;omega
    have hr3:aU (jh (rc.nodes.drop (ko rc))) (fun _=>kr n rc) t=some res:=HR2.out
    have hcp:=HA.out.cap1
    generalize ko rc=q at hmin hcl hr3
    have HQL:=Am_ (And.intro hcl hcp)
    have hn0:(0:Int)≤(q:Int):=by omega
    have hn1:(q:Int)≤(rc.nodes.length:Int):=by omega
    have hn2:q≤rc.nodes.length:=hcl
    have HR3:=Am_ hr3
    clear hr3 HR2 hcl hcp
    go_upto_block 2 with fail
    clear y0 y2 hmin hn0 hn1
    generalize hV:(if c1=q then A1 else Option.map (fun x=>x.add q) A1)=V55
    have HV:=Am_ hV
    clear hV
    go_cut [] from 6 (fun wc=>ak (qQ p tb work me bt ok w n rc bn br A1 A2 c1 c2 (kr n rc) res wc))
    case first=>
     have HB:=Am_ (qQ.mk (p:=p) (tb:=tb) (work:=work) (me:=me) (bt:=bt) (ok:=ok) (w:=w) (n:=n) (rc:=rc) (bn:=bn) (br:=br) (A1:=A1) (A2:=A2) (c1:=c1) (c2:=c2) (res:=res) ⟨_,_,HA.out,HR3.out⟩)
     clear HA HR3
     go_wp2_with fail
     go_loopg [57] (rc.nodes.length - q) (fun g v57 wr=> ∃ j:Nat,v57= .int .i64 j∧j+g=rc.nodes.length - q∧ak (qQ p tb work me bt ok w n rc bn br A1 A2 c1 c2 (aU (jh (rc.nodes.drop (q+j))) (fun _=>kr n rc)) res wr))
     case atStart=>exact ⟨0,rfl,by omega,HB⟩
     case round=>
      obtain ⟨j,rfl,hjg,HQ⟩:=hrel
      clear HB
      cases gk with
      | zero=>
       have d1:decide ((j:Int)<((rc.nodes.length - q:Nat):Int))=false:=decide_eq_false (by omega)
       have d2:decide (j<rc.nodes.length - q)=false:=decide_eq_false (by omega)
       obtain ⟨okc,s2,hA,hr0⟩:=HQ.out.out
       have hr:kr n rc s2=some res:=by
        rw [List.drop_of_length_le (by omega)] at hr0
        exact hr0
       have HA:=Am_ hA
       have HR3:=Am_ hr
       clear hA hr hr0 HQ
       go_wp2_with fail
       go_meet
       case rel=>exact ⟨⟨_,_,HA.out,HR3.out⟩⟩
      | succ g=>
       have d1:decide ((j:Int)<((rc.nodes.length - q:Nat):Int))=true:=decide_eq_true (by omega)
       have d2:decide (j<rc.nodes.length - q)=true:=decide_eq_true (by omega)
       have b1:(0:Int)≤(j:Int):=by omega
       have b2:(j:Int)<((rc.nodes.length - q:Nat):Int):=by omega
       have b3:j<rc.nodes.length - q:=by omega
       have hw1:wrap64 ((j:Int)+1)=((j+1:Nat):Int):=by have:=HSM.out;unfold wrap64;omega
       have HW1:=Am_ hw1
       obtain ⟨okc,s2,hA,hr⟩:=HQ.out.out
       obtain ⟨gN,e1,hcN,hgN⟩:=Hq hA.nodes hA.flat1 (q+j) (by omega)
       have hcq: ¬ c1=q:=by have:=HQL.out.2;omega
       subst e1
       obtain rfl:V55=some ⟨gN,q,none⟩:=by
        have h:=HV.out
        rw [if_neg hcq,Option.map_some,jf,Nat.zero_add] at h
        exact h.symm
       have hdr:rc.nodes.drop (q+j)=rc.nodes.getD (q+j) 0::rc.nodes.drop (q+(j+1)):=by
        have hk:q+j<rc.nodes.length:=by omega
        rw [List.drop_eq_getElem_cons hk,List.getD_eq_getElem?_getD,List.getElem?_eq_getElem hk]
        rfl
       rw [hdr] at hr
       simp only [jh] at hr
       generalize rc.nodes.getD (q+j) 0=x at hcN hgN hr
       have HA:=Am_ (hA.alloc (.cells #[.int .i64 x] 45))
       have HBX:=Am_ (Mine.new hA.task.lt (.cells #[.int .i64 x] 45))
       obtain ⟨o,t,hd,hcase⟩:=aD (fK hr)
       have HD:=Am_ hd
       have HCS:=Am_ hcase
       clear hd hcase
       clear hA hr HQ hgN hdr hw1 hcq
       go_upto_region 16 with fail
       clear hcN
       generalize wr.alloc (.cells #[.int .i64 x] 45)=w3 at HA HBX ⊢
       generalize wr.heap.size=bx at HBX ⊢
       have c0:=HA.out.task.c0
       go_wp2_with (go_at_call 137;refine (HA.out.task.Nu HBX.out HD.out).mono ?_;rintro e wq ⟨⟨okq,hm,hT,he⟩⟩;rcases HCS.out with hw | hw;(obtain ⟨rfl,rfl⟩:=hw;obtain rfl:e= .panicked dx:=he;exact ⟨rfl,⟨⟨okq,hT.moves,hT.run,rfl⟩⟩⟩);obtain ⟨a4,rfl,hr2⟩:=hw;obtain rfl:e= .returned (.int .i64 a4):=he;have HA:=Am_ (HA.out.next hm hT);have HR2:=Am_ hr2;clear hm hT hr2;clear c0)
       have HR3:ak (aU (jh (rc.nodes.drop (q+(j+1)))) (fun _=>kr n rc) t=some res):=⟨HR2.out⟩
       clear HR2
       go_roundg g
       case rel=>exact ⟨j+1,by first | rfl | rw [HW1.out],by omega,⟨⟨_,_,HA.out,HR3.out⟩⟩⟩
       case measure=>omega
    case rest=>
    clear HA HR3
    obtain ⟨okc5,s5,hA,hr⟩:=hcut.out.out
    have y0:=(af hA.box_.1 0).trans (rfl:_=some (Value.slice A1 rc.nodes.length c1))
    unfold kr at hr
    have HA:=Am_ hA
    cases hnd:rc.nodes with
    | nil=>
     rw [hnd] at hr y0
     have hr:aU (Gt n 2) (fun _=>dS true) s5=some res:=hr
     obtain ⟨o,t,hd,hcase⟩:=aD hr
     have HD:=Am_ hd
     have HCS:=Am_ hcase
     clear hd hcase
     clear hr hcut
     go_upto_region 20 with fail
     clear y0
     have c0:=HA.out.task.c0
     have c1:=HA.out.task.c1
     have c2:=HA.out.task.c2
     have k0:=(af HA.out.num.1 0).trans (rfl:_=some (Value.int .i64 n))
     go_upto_region 21 with (go_at_call 215;refine (lD p tb work me _ _ _ n 2 HA.out.task.run (o,t) HD.out).mono ?_;rintro e wq ⟨okq,hm,hi,he⟩;rcases HCS.out with hw | hw;(obtain ⟨rfl,rfl⟩:=hw;obtain rfl:e= .panicked dx:=he;exact ⟨rfl,⟨⟨okq,HA.out.task.moves.trans hm,hi,rfl⟩⟩⟩);obtain ⟨_,rfl,hr2⟩:=hw;obtain ⟨_,rfl,rfl⟩:=he;have HA:=Am_ (HA.out.next hm (HA.out.task.next hm hi));have HR3:=Am_ hr2;clear hm hi hr2 c0 c1 c2 k0)
     go_wp2_with fail
     go_ret
     obtain rfl:res=(.ret true,t):=by have h:=HR3.out;injection h with h;exact h.symm
     exact ⟨⟨_,HA.out.task.moves,HA.out.task.run,_,rfl,rfl⟩⟩
    | cons x l=>
     have hl0:0<rc.nodes.length:=by rw [hnd];simp
     obtain ⟨gN,e1,hcN,hgN⟩:=Hq HA.out.nodes HA.out.flat1 0 hl0
     have hx:rc.nodes.getD 0 0=x:=by rw [hnd];rfl
     rw [hx] at hcN hgN
     rw [hnd] at hr
     have hr:aU (qI x rc.way rc.old rc.new) (fun _=>uh n) s5=some res:=hr
     have d1:decide ((rc.nodes.length:Int)>0)=true:=decide_eq_true (by omega)
     have d2:decide (0<rc.nodes.length)=true:=decide_eq_true hl0
     subst e1
     obtain ⟨o,t,hd,hcase⟩:=aD hr
     have HD:=Am_ hd
     have HCS:=Am_ hcase
     clear hd hcase
     have HIR:=Am_ (And.intro hgN hl0)
     clear hr hcut hnd hl0 hx hgN hcN
     have c0:=HA.out.task.c0
     go_upto_region 20 with (go_at_call 154;refine (HA.out.task.Nv HA.out.box_ HA.out.nodes HIR.out.1 HIR.out.2 HD.out).mono ?_;rintro e wq ⟨⟨okq,hm,hT,he⟩⟩;rcases HCS.out with hw | hw;(obtain ⟨rfl,rfl⟩:=hw;obtain rfl:e= .panicked dx:=he;exact ⟨rfl,⟨⟨okq,hT.moves,hT.run,rfl⟩⟩⟩);obtain ⟨a5,rfl,hr2⟩:=hw;obtain rfl:e= .returned (.bool a5):=he;have HA:=Am_ (HA.out.next hm hT);have HR2:=Am_ hr2;clear hm hT hr2;clear c0)
     clear y0 HIR HD HCS d1 d2
     have hr:aU (Gt n 2) (fun _=>dS true) t=some res:=HR2.out
     clear HR2
     obtain ⟨o,t,hd,hcase⟩:=aD hr
     have HD:=Am_ hd
     have HCS:=Am_ hcase
     clear hd hcase
     clear hr
     have c0:=HA.out.task.c0
     have c1:=HA.out.task.c1
     have c2:=HA.out.task.c2
     have k0:=(af HA.out.num.1 0).trans (rfl:_=some (Value.int .i64 n))
     go_upto_region 21 with (go_at_call 215;refine (lD p tb work me _ _ _ n 2 HA.out.task.run (o,t) HD.out).mono ?_;rintro e wq ⟨okq,hm,hi,he⟩;rcases HCS.out with hw | hw;(obtain ⟨rfl,rfl⟩:=hw;obtain rfl:e= .panicked dx:=he;exact ⟨rfl,⟨⟨okq,HA.out.task.moves.trans hm,hi,rfl⟩⟩⟩);obtain ⟨_,rfl,hr2⟩:=hw;obtain ⟨_,rfl,rfl⟩:=he;have HA:=Am_ (HA.out.next hm (HA.out.task.next hm hi));have HR3:=Am_ hr2;clear hm hi hr2 c0 c1 c2 k0)
     go_wp2_with fail
     go_ret
     obtain rfl:res=(.ret true,t):=by have h:=HR3.out;injection h with h;exact h.symm
     exact ⟨⟨_,HA.out.task.moves,HA.out.task.run,_,rfl,rfl⟩⟩
   | succ g=>
    have d1:decide ((k:Int)<(rc.nodes.length:Int))=true:=decide_eq_true (by omega)
    have d2:decide (k<rc.nodes.length)=true:=decide_eq_true (by omega)
    have b1:(0:Int)≤(k:Int):=by omega
    have b2:(k:Int)<(rc.nodes.length:Int):=by omega
    have b3:k<rc.nodes.length:=by omega
    have hw1:wrap64 ((k:Int)+1)=((k+1:Nat):Int):=by have:=HSM.out;unfold wrap64;omega
    have HW1:=Am_ hw1
    have hir:k<rc.infos.length:=by have:=HGD.out.1;omega
    obtain ⟨okc,s2,hA,hr⟩:=HQ.out.out
    obtain ⟨gN,e1,hcN,hgN⟩:=Hq hA.nodes hA.flat1 k b3
    obtain ⟨gI,e2,hcI,hgI⟩:=Hq hA.infos hA.flat2 k hir
    rw [Gz rc.nodes rc.infos k b3 hir] at hr
    simp only [iG] at hr
    generalize rc.nodes.getD k 0=x at hcN hgN hr
    generalize rc.infos.getD k 0=i0 at hcI hgI hr
    subst e1 e2
    have HA:=Am_ ((hA.alloc (.cells #[.int .i64 (k:Int)] 3)).alloc (.cells #[.int .i64 x] 45))
    have HBI:=Am_ ((Mine.new hA.task.lt (.cells #[.int .i64 (k:Int)] 3)).alloc (.cells #[.int .i64 x] 45))
    have HBX:=Am_ (Mine.new (hA.alloc (.cells #[.int .i64 (k:Int)] 3)).task.lt (.cells #[.int .i64 x] 45))
    simp only [World.size_alloc] at HBX
    obtain ⟨o,t,hd,hcase⟩:=aD (fK hr)
    have HD:=Am_ hd
    have HCS:=Am_ hcase
    clear hd hcase
    have HIR:=Am_ (And.intro hgI hir)
    clear hA hr HQ hgN hcI hgI hir hw1
    go_upto_region 5 with fail
    clear hcN
    generalize (wr.alloc (.cells #[.int .i64 (k:Int)] 3)).alloc (.cells #[.int .i64 x] 45)=w3 at HA HBI HBX ⊢
    generalize wr.heap.size=bi at HBI HBX ⊢
    generalize bi+1=bx at HBX ⊢
    have c0:=HA.out.task.c0
    go_upto_if 28 with (go_at_call 154;refine (HA.out.task.Np HBX.out HA.out.box_ HBI.out HA.out.num HA.out.infos HIR.out.1 HIR.out.2 HD.out).mono ?_;rintro e wq ⟨⟨okq,hm,hT,he⟩⟩;rcases HCS.out with hw | hw;(obtain ⟨rfl,rfl⟩:=hw;obtain rfl:e= .panicked dx:=he;exact ⟨rfl,⟨⟨okq,hT.moves,hT.run,rfl⟩⟩⟩);obtain ⟨a0,rfl,hr2⟩:=hw;obtain rfl:e= .returned (.bool a0):=he;have HA:=Am_ (HA.out.next hm hT);have HBX:=Am_ (HBX.out.moves hm);have HR2:=Am_ hr2;clear hm hT hr2;clear c0)
    clear HBI HIR HD HCS
    cases a0 with
    | true=>
     have HR3:ak (aU (iG n ((rc.nodes.zip rc.infos).drop (k+1))) (jH n rc) t=some res):=⟨HR2.out⟩
     clear HR2
     go_wp2_with fail
     go_roundg g
     case rel=>exact ⟨k+1,by first | rfl | rw [HW1.out],by omega,⟨⟨_,_,HA.out,HR3.out⟩⟩⟩
     case measure=>omega
    | false=>
     have hr:aU (aU (qo x) fun m=>if m=n then iG n ((rc.nodes.zip rc.infos).drop (k+1)) else aU (Dk n) fun b=>if b then dS (some true) else aU (Gt n 0) fun _=>dS (some false)) (jH n rc) t=some res:=HR2.out
     clear HR2
     obtain ⟨o,t,hd,hcase⟩:=aD (fK hr)
     have HD:=Am_ hd
     have HCS:=Am_ hcase
     clear hd hcase
     clear hr
     go_upto_region 6 with fail
     refine bG (n:=6) (S:=fun w'=>w'.cell? ⟨bt,0,none⟩=some (.pointer (some ⟨tb,0,none⟩))∧w'.cell? ⟨bn,0,none⟩=some (.int .i64 n)) (ds:= []) (by kernel_rfl) rfl ER zR ⟨HA.out.task.c0,(af HA.out.num.1 0).trans rfl⟩ (fun hHeld HT_ HW_=>?_)
     have HA:=Am_ HA.out.drew
     have HBX:=Am_ (HBX.out.moves (Moves.drew (Moves.refl _ _)))
     generalize World.drew _=w5 at HA HBX hHeld ⊢
     refine eO [(0,some 29),(1,some 30),(2,some 31),(4,some 33)] ?_
     (refine dZ (v:=?_) (a':=?_) HT_ (by kernel_rfl) rfl rfl (fun _ _ _ h=>h) (Or.inl ⟨by rfl,?_⟩) ?_ ?_;rotate_left;(intro w';go_simp;with_reducible rfl);rotate_left;(simp only [Act.put,p1_,p2_,p3_,ax,ay];rfl))
     iterate 3 (refine iW (v:=?_) (a':=?_) HT_ HW_ (by kernel_rfl) rfl rfl (fun _ _ _ h=>h) hHeld (Or.inl ⟨by rfl,?_⟩) ?_ ?_;rotate_left;(rintro w' ⟨s0,s1⟩;go_simp;with_reducible rfl);rotate_left;(simp only [Act.put,p1_,p2_,p3_,ax,ay];rfl))
     refine aZ ?_
     refine dR (i:=3) (some 32) HT_ (by kernel_rfl) rfl rfl (by decide) (fun K_ hK=>?_)
     refine kJ 137 #[.pointer (some ⟨tb,0,none⟩),.func (.func 211) #[] #[.pointer (some ⟨bt,0,none⟩),.pointer (some ⟨bx,0,none⟩)]] (by rfl) rfl ?hrun3 ?_
     (case hrun3=>first | (go_simp;done) | (go_simp;exact enters Tryz.func137 (by kernel_rfl) rfl _ _))
     refine (HA.out.task.Nq HBX.out HD.out).mono ?_
     rintro e wq ⟨⟨okq,hm,hT,he⟩⟩
     rcases HCS.out with hw | hw
     ·obtain ⟨rfl,rfl⟩:=hw
      obtain rfl:e= .panicked dx:=he
      exact .inr ⟨dx,rfl,rfl,⟨⟨okq,hT.moves,hT.run,rfl⟩⟩⟩
     obtain ⟨a1,rfl,hr2⟩:=hw
     obtain rfl:e= .returned (.int .i64 a1):=he
     refine .inl ⟨.int .i64 a1,rfl,?_⟩
     have HA:=Am_ (HA.out.next hm hT)
     have HR2:=Am_ hr2
     clear hm hT hr2
     refine hK.out _ _ ⟨HA.out.task.c0,(af HA.out.num.1 0).trans rfl⟩ (fun hHeld=>?_)
     clear hK K_
     refine bK (a':=?_) ?_ ?_
     rotate_left; · show Act.put _ (some 32) _=_;simp only [Act.put,p1_,p2_,p3_,ax,ay];rfl
     refine eO [(5,some 34)] ?_
     (refine dZ (v:=?_) (a':=?_) HT_ (by kernel_rfl) rfl rfl (fun _ _ _ h=>h) (Or.inl ⟨by rfl,?_⟩) ?_ ?_;rotate_left;(intro w';go_simp;with_reducible rfl);rotate_left;(simp only [Act.put,p1_,p2_,p3_,ax,ay];rfl))
     refine aZ ?_
     refine dD (bI HT_.out (by kernel_rfl)) ?_
     clear HBX HD HCS hHeld
     by_cases hm1:a1=n
     ·have e1:(a1 == n)=true:=by simp [hm1]
      have HR3:ak (aU (iG n ((rc.nodes.zip rc.infos).drop (k+1))) (jH n rc) t=some res):=⟨by have h:=HR2.out;rw [if_pos hm1] at h;exact h⟩
      clear HR2 hm1
      go_wp2_with fail
      go_roundg g
      case rel=>exact ⟨k+1,by first | rfl | rw [HW1.out],by omega,⟨⟨_,_,HA.out,HR3.out⟩⟩⟩
      case measure=>omega
     ·have e1:(a1 == n)=false:=by simpa using hm1
      have hr:aU (aU (Dk n) fun b=>if b then dS (some true) else aU (Gt n 0) fun _=>dS (some false)) (jH n rc) t=some res:=by have h:=HR2.out;rw [if_neg hm1] at h;exact h
      clear HR2 hm1
      obtain ⟨o,t,hd,hcase⟩:=aD (fK hr)
      have HD:=Am_ hd
      have HCS:=Am_ hcase
      clear hd hcase
      clear hr
      have c0:=HA.out.task.c0
      go_upto_if 38 with (go_at_call 154;refine (HA.out.task.Nr HA.out.num HD.out).mono ?_;rintro e wq ⟨⟨okq,hm,hT,he⟩⟩;rcases HCS.out with hw | hw;(obtain ⟨rfl,rfl⟩:=hw;obtain rfl:e= .panicked dx:=he;exact ⟨rfl,⟨⟨okq,hT.moves,hT.run,rfl⟩⟩⟩);obtain ⟨a2,rfl,hr2⟩:=hw;obtain rfl:e= .returned (.bool a2):=he;have HA:=Am_ (HA.out.next hm hT);have HR2:=Am_ hr2;clear hm hT hr2;clear c0)
      clear HD HCS
      cases a2 with
      | true=>
       have HR3:ak (dS true t=some res):=⟨HR2.out⟩
       clear HR2
       go_wp2_with fail
       go_ret
       obtain rfl:res=(.ret true,t):=by have h:=HR3.out;injection h with h;exact h.symm
       exact ⟨⟨_,HA.out.task.moves,HA.out.task.run,_,rfl,rfl⟩⟩
      | false=>
       have hr:aU (aU (Gt n 0) fun _=>dS (some false)) (jH n rc) t=some res:=HR2.out
       clear HR2
       obtain ⟨o,t,hd,hcase⟩:=aD (fK hr)
       have HD:=Am_ hd
       have HCS:=Am_ hcase
       clear hd hcase
       clear hr
       have c0:=HA.out.task.c0
       have c1:=HA.out.task.c1
       have c2:=HA.out.task.c2
       have k0:=(af HA.out.num.1 0).trans (rfl:_=some (Value.int .i64 n))
       go_upto_region 10 with (go_at_call 215;refine (lD p tb work me _ _ _ n 0 HA.out.task.run (o,t) HD.out).mono ?_;rintro e wq ⟨okq,hm,hi,he⟩;rcases HCS.out with hw | hw;(obtain ⟨rfl,rfl⟩:=hw;obtain rfl:e= .panicked dx:=he;exact ⟨rfl,⟨⟨okq,HA.out.task.moves.trans hm,hi,rfl⟩⟩⟩);obtain ⟨_,rfl,hr2⟩:=hw;obtain ⟨_,rfl,rfl⟩:=he;have HA:=Am_ (HA.out.next hm (HA.out.task.next hm hi));have HR3:=Am_ hr2;clear hm hi hr2 c0 c1 c2 k0)
       go_wp2_with fail
       go_ret
       obtain rfl:res=(.ret false,t):=by have h:=HR3.out;injection h with h;exact h.symm
       exact ⟨⟨_,HA.out.task.moves,HA.out.task.run,_,rfl,rfl⟩⟩
structure Sn where
 ref:Int
 info:Int
 node:Nd
 ways:List Int
abbrev kSn:Kd Sn:=Kd.iso (Kd.pair (Kd.int .i64) (Kd.pair (Kd.int .i64) (Kd.pair kNd (Kd.slice 45 (Kd.int .i64))))) (fun s=>(s.ref,s.info,s.node,s.ways))
theorem Ed {w:World} {base:Nat} {ok:Nat→Prop} {s:Sn} {cs:List Value} {v:Value} (h:kNd.M w base ok s.node cs) (hv:(Kd.int .i64).R 45 w base ok v s.ways):kSn.M w base ok s (.int .i64 s.ref:: .int .i64 s.info::(cs++ [v])):=
 ⟨[.int .i64 s.ref],.int .i64 s.info::(cs++ [v]),rfl,rfl,[.int .i64 s.info],cs++ [v],rfl,rfl,cs,[v],rfl,h,⟨v,rfl,hv⟩⟩
def sn0:Sn:=⟨0,0,nd0,[]⟩
def VSn (N:Nat) (a:Sn × Int) (ok:Nat→Prop) (v:Value) (w:World):Prop:= ∃ cs,v= .tuple #[.agg cs.toArray,.int .u8 a.2]∧kSn.M w N (fun k=> ¬ ok k) a.1 cs
def qL (r:Int):Nat→Nat→List Int→Pr Ws (List Int)
 | 0,_,acc=>dS acc
 | m+1,i,acc=>aU (JI r (i:Int)) fun x=>qL r m (i+1) (acc++ [x])
def Nb (m:Int):Pr Ws (Sn × Int):=aU (qm m) fun _=>dS (sn0,1)
def uE (r:Int) (first b:Bool):Pr Ws (Sn × Int):=if b && first then dS (sn0,2) else aU (qo r) fun m=>aU (wu m) fun st=>if st=1 then Nb m else dS (sn0,1)
def nM (n now:Int):Pr Ws Bool:=if now=2 then dS true else if now=1 then qm n else dS false
def xL (r n:Int) (first:Bool):Pr Ws (Sn × Int):=aU (wu n) fun now=>aU (nM n now) (uE r first)
def lY (r n:Int) (first:Bool) (nd:Nd) (ws:List Int):Pr Ws (Sn × Int):=aU (qo r) fun m=>if m=n then dS (⟨r,n,nd,ws⟩,0) else xL r n first
def MZ (r n:Int) (first:Bool):Pr Ws (Sn × Int):=aU (Eg r) fun nd=>aU (qL r nd.ways.length 0 []) (lY r n first nd)
def lF (was:Int) (second:Bool):Bool:=(was == 0) || ((was == 2) && !second)
def IE (r n:Int) (first c:Bool):Pr Ws (Sn × Int):=if c then MZ r n first else xL r n first
def loadT (r:Int):Pr Ws (Sn × Int):=aU (markT r) fun first=>aU (qo r) fun n=>aU (wu n) fun was=>aU (markT r) fun second=>IE r n first (lF was second)
structure fE (p tb:Nat) (work:Value) (me:Int) (bt:Nat) (ok:Nat→Prop) (w:World) (r:Int) (bx b4:Nat) (okc:Nat→Prop) (s:TS Ws) (wc:World):Prop where
 task:aH p tb work me bt ok w okc s wc
 box_:Mine okc wc bx (Gd r)
 res:Mine okc wc b4 (.cells #[.int .i64 0,.int .i64 0,.bool false,.bool false,.slice none 0 0,.slice none 0 0,.slice none 0 0,.slice none 0 0] 195 (0,0))
section
variable {p tb:Nat} {work:Value} {me:Int} {bt:Nat} {ok okc ok2:Nat→Prop} {w wc w2:World} {r:Int} {bx b4:Nat} {s s2:TS Ws}
theorem fE.next (h:fE p tb work me bt ok w r bx b4 okc s wc) (m:Moves okc ok2 wc w2) (t:aH p tb work me bt ok w ok2 s2 w2):fE p tb work me bt ok w r bx b4 ok2 s2 w2:=⟨t,h.box_.moves m,h.res.moves m⟩
theorem fE.below (h:fE p tb work me bt ok w r bx b4 okc s wc) (b:Below wc.heap.size wc w2):fE p tb work me bt ok w r bx b4 okc s w2:=h.next (Moves.bE _ b) (h.task.below b)
theorem fE.alloc (h:fE p tb work me bt ok w r bx b4 okc s wc) (o:Obj):fE p tb work me bt ok w r bx b4 okc s (wc.alloc o):=h.below (ai (Below.refl _ _) o)
theorem fE.drew (h:fE p tb work me bt ok w r bx b4 okc s wc):fE p tb work me bt ok w r bx b4 okc s wc.drew:=h.below (aM (Below.refl _ _))
theorem aH.ME (h:aH p tb work me bt ok w okc s wc) (r:Int) {pA:Nat} (hp:wc.cell? ⟨p,0,none⟩=some (.pointer (some ⟨pA,0,none⟩))):
  Calls Tryz.prog 126 #[.pointer (some ⟨pA,0,none⟩),.int .i64 r] wc fun e w1=> ∃ v ok1,e= .returned v∧CX wc.heap.size (s.sh.ar.look r).1 v w1∧aH p tb work me bt ok w ok1 { s with sh:= { s.sh with ar:=(s.sh.ar.look r).2 } } w1∧Moves okc ok1 wc w1∧(∀ k,ok1 k→okc k)∧w1.cell? ⟨p,0,none⟩=some (.pointer (some ⟨pA,0,none⟩)):=by
 obtain ⟨okS,hk,⟨⟨okA,okR,okE,pA1,pR,pE,hw⟩,hg⟩,hd⟩:=h.run.direct
 have h1:=(af hw.box 0).symm.trans hp
 injection h1 with h1
 injection h1 with h1
 injection h1 with h1
 injection h1 with h1
 subst h1
 refine (lG r wc hw.ar hg.ar.fits).mono ?_
 rintro e w1 ⟨⟨v,rfl,hv⟩,ha,hm⟩
 obtain ⟨h1,h2⟩:=hw.cK ha hm
 obtain ⟨ok1,h3,h4,h5⟩:=hd _ _ w1 ⟨⟨_,_,_,_,_,_,h1⟩,⟨hg.ar.look r,hg.ep,hg.tb⟩⟩ h2
 exact ⟨v,ok1,rfl,hv,h.next h4 h3,h4,fun k hk1=>(h5 k hk1).elim id (fun h6=>hk k ((hw.ok k).2 h6)),(af h1.box 0).trans rfl⟩
theorem aH.pA (h:aH p tb work me bt ok w okc s wc): ∃ pA,wc.cell? ⟨p,0,none⟩=some (.pointer (some ⟨pA,0,none⟩)):=by
 obtain ⟨_,_,⟨⟨_,_,_,pA,_,_,hw⟩,_⟩,_⟩:=h.run.direct
 exact ⟨pA,(af hw.box 0).trans rfl⟩
end
structure uV (p tb:Nat) (work:Value) (me:Int) (bt:Nat) (ok:Nat→Prop) (w:World) (r:Int) (bx b4:Nat) (rest:Pr Ws (Sn × Int)) (res:Out (Sn × Int) × TS Ws) (wc:World):Prop where
 out: ∃ okc s,fE p tb work me bt ok w r bx b4 okc s wc∧rest s=some res
def Fr (okc D:Nat→Prop) (k:Nat):Prop:= ¬ okc k∧D k
theorem iB {α:Type} {d:Kd α} {e N:Nat} {okc ok2 D:Nat→Prop} {wc w2:World} {v:Value} {xs:List α} (h:d.R e wc N (Fr okc D) v xs) (m:Moves okc ok2 wc w2):d.R e w2 N (Fr ok2 D) v xs:=
 Kd.bq (Kd.bQ (Kd.bL h) (fun k hk hlt=>m.block k hlt hk.1.1)) (fun k hk=>⟨fun h1=>(m.fresh k h1).elim hk.1.1 (fun h2=>by have:=hk.2.2.1;omega),hk.1.2⟩)
theorem iw {α:Type} {d:Kd α} {e N:Nat} {okc D:Nat→Prop} {wc w2:World} {v:Value} {xs:List α} (h:d.R e wc N (Fr okc D) v xs) (g:Nat) (hg: ∀ k,D k→k≠g) (hb: ∀ k,k≠g→w2.heap[k]?=wc.heap[k]?):d.R e w2 N (Fr okc D) v xs:=
 Kd.bQ h (fun k hk _=>hb k (hg k hk.2))
section
variable {p tb:Nat} {work:Value} {me:Int} {bt:Nat} {ok okc ok2:Nat→Prop} {w wc w2:World} {r n:Int} {bx b4 b10 N:Nat} {s s2:TS Ws} {nd:Nd} {bs:List Nat} {ws:List Int}
theorem aH.grown (h:aH p tb work me bt ok w okc s wc) {row:Option Nat} (hg:wc.grownBy w2 row) (hr: ∀ k,row=some k→ ¬ okc k∧w.heap.size≤k∧k≠bt):aH p tb work me bt ok w okc s w2:=
 ⟨h.run.step (aX p) hg.size (fun k hk hlt=>hg.block k hlt (fun e=>(hr k e.symm).1 hk)),h.moves.grown hg (fun k e=> .inr (hr k e).2.1),⟨(hg.block bt h.box.lt (fun e=>(hr bt e.symm).2.2 rfl)).trans h.box.1,h.box.2⟩⟩
theorem Mine.grown {g:Nat} {o:Obj} (h:Mine okc wc g o) {row:Option Nat} (hg:wc.grownBy w2 row) (hr: ∀ k,row=some k→k≠g):Mine okc w2 g o:=⟨bJ h.1 hg (fun e=>hr g e.symm rfl),h.2⟩
theorem fE.grown (h:fE p tb work me bt ok w r bx b4 okc s wc) {row:Option Nat} (hg:wc.grownBy w2 row) (hr: ∀ k,row=some k→ ¬ okc k∧w.heap.size≤k∧k≠bt∧k≠bx∧k≠b4):fE p tb work me bt ok w r bx b4 okc s w2:=
 ⟨h.task.grown hg (fun k e=>⟨(hr k e).1,(hr k e).2.1,(hr k e).2.2.1⟩),Mine.grown h.box_ hg (fun k e=>(hr k e).2.2.2.1),Mine.grown h.res hg (fun k e=>(hr k e).2.2.2.2)⟩
theorem fE.set (h:fE p tb work me bt ok w r bx b4 okc s wc) {q:Addr} (hn: ¬ okc q.block) (hw:w.heap.size≤q.block) (h1:q.block≠bt) (h2:q.block≠bx) (h3:q.block≠b4) (u:Value):fE p tb work me bt ok w r bx b4 okc s (wc.setCell q u):=
 ⟨h.task.set hn hw h1 u,h.box_.far h2 u,h.res.far h3 u⟩
theorem fE.setCells (h:fE p tb work me bt ok w r bx b4 okc s wc) {q:Nat} (hn: ¬ okc q) (hw:w.heap.size≤q) (h1:q≠bt) (h2:q≠bx) (h3:q≠b4) (seg:List Value):fE p tb work me bt ok w r bx b4 okc s (wc.setCells q 0 seg):=
 ⟨h.task.setCells hn hw h1 seg,⟨(aW seg 0 bx (fun e=>h2 e.symm)).trans h.box_.1,h.box_.2⟩,⟨(aW seg 0 b4 (fun e=>h3 e.symm)).trans h.res.1,h.res.2⟩⟩
structure lm (N:Nat) (r n:Int) (nd:Nd) (bs:List Nat) (b10:Nat) (Ap:Option Addr) (cp:Nat) (Ak:Option Addr) (ck:Nat) (Ay:Option Addr) (cy:Nat) (okc:Nat→Prop) (Aw:Option Addr) (cw:Nat) (ws:List Int) (wc:World):Prop where
 box:Mine okc wc b10 (.cells #[.int .i64 r,.int .i64 n,.bool nd.inner,.bool nd.tagged,.slice Ap nd.pairs.length cp,.slice Ak nd.keys.length ck,.slice Ay nd.ways.length cy,.slice Aw ws.length cw] 195 (0,0))
 prs:dw.R 121 wc N (Fr okc (fun q=>q∉bs∧some q≠(Value.slice Aw ws.length cw).ownBlock)) (.slice Ap nd.pairs.length cp) nd.pairs
 keys:(Kd.int .i64).R 2 wc N (Fr okc (fun q=>q∉bs∧some q≠(Value.slice Aw ws.length cw).ownBlock)) (.slice Ak nd.keys.length ck) nd.keys
 ways:(Kd.int .i64).R 45 wc N (Fr okc (fun q=>q∉bs∧some q≠(Value.slice Aw ws.length cw).ownBlock)) (.slice Ay nd.ways.length cy) nd.ways
 row:(Kd.int .i64).R 45 wc N (Fr okc (fun q=>q∉bs)) (.slice Aw ws.length cw) ws
variable {Ap Ak Ay Aw:Option Addr} {cp ck cy cw:Nat}
theorem lm.moves (h:lm N r n nd bs b10 Ap cp Ak ck Ay cy okc Aw cw ws wc) (m:Moves okc ok2 wc w2):lm N r n nd bs b10 Ap cp Ak ck Ay cy ok2 Aw cw ws w2:=⟨h.box.moves m,iB h.prs m,iB h.keys m,iB h.ways m,iB h.row m⟩
theorem lm.push (h:lm N r n nd bs b10 Ap cp Ak ck Ay cy okc Aw cw ws wc) (hb:b10∈bs) {x:Int} {A1:Option Addr} {c1:Nat} (hR:(Kd.int .i64).R 45 w2 N (Fr okc (fun q=>q∉bs)) (.slice A1 (ws++ [x]).length c1) (ws++ [x])) (hg:wc.grownBy w2 (Value.slice Aw ws.length cw).ownBlock) (hat:(Value.slice A1 (ws++ [x]).length c1).ownBlock=(Value.slice Aw ws.length cw).ownBlock∨ ∃ b,(Value.slice A1 (ws++ [x]).length c1).ownBlock=some b∧wc.heap.size≤b):
  lm N r n nd bs b10 Ap cp Ak ck Ay cy okc A1 c1 (ws++ [x]) (w2.setCell ⟨b10,7,none⟩ (.slice A1 (ws++ [x]).length c1)):=by
 have far: ∀ k,k≠b10→(w2.setCell ⟨b10,7,none⟩ (.slice A1 (ws++ [x]).length c1)).heap[k]?=w2.heap[k]?:=fun k hk=>Below.heap_setCell _ ⟨b10,7,none⟩ _ k hk
 have ne1: ∀ k,k∉bs→k≠b10:=fun k hk e=>hk (e▸hb)
 refine ⟨?_,?_,?_,?_,?_⟩
 ·exact Mine.set (Mine.grown h.box hg (fun k e=>ne1 k (h.row.1 k e).2)) 7 (.slice A1 (ws++ [x]).length c1)
 ·exact iw (D:=fun q=>q∉bs∧some q≠(Value.slice A1 (ws++ [x]).length c1).ownBlock) (Kd.bq (Kd.pX (Kd.bq (ok':=fun k=>Fr okc (fun q=>q∉bs) k∧some k≠(Value.slice Aw ws.length cw).ownBlock) h.prs (fun k hk=>⟨⟨hk.1,hk.2.1⟩,hk.2.2⟩)) hg hat) (fun k hk=>⟨hk.1.1,hk.1.2,hk.2⟩)) b10 (fun k hk=>ne1 k hk.1) far
 ·exact iw (D:=fun q=>q∉bs∧some q≠(Value.slice A1 (ws++ [x]).length c1).ownBlock) (Kd.bq (Kd.pX (Kd.bq (ok':=fun k=>Fr okc (fun q=>q∉bs) k∧some k≠(Value.slice Aw ws.length cw).ownBlock) h.keys (fun k hk=>⟨⟨hk.1,hk.2.1⟩,hk.2.2⟩)) hg hat) (fun k hk=>⟨hk.1.1,hk.1.2,hk.2⟩)) b10 (fun k hk=>ne1 k hk.1) far
 ·exact iw (D:=fun q=>q∉bs∧some q≠(Value.slice A1 (ws++ [x]).length c1).ownBlock) (Kd.bq (Kd.pX (Kd.bq (ok':=fun k=>Fr okc (fun q=>q∉bs) k∧some k≠(Value.slice Aw ws.length cw).ownBlock) h.ways (fun k hk=>⟨⟨hk.1,hk.2.1⟩,hk.2.2⟩)) hg hat) (fun k hk=>⟨hk.1.1,hk.1.2,hk.2⟩)) b10 (fun k hk=>ne1 k hk.1) far
 ·exact iw hR b10 ne1 far
theorem lm.start (hp:dw.R 121 wc N (Fr okc (fun q=>q∉bs)) (.slice Ap nd.pairs.length cp) nd.pairs) (hk:(Kd.int .i64).R 2 wc N (Fr okc (fun q=>q∉bs)) (.slice Ak nd.keys.length ck) nd.keys) (hy:(Kd.int .i64).R 45 wc N (Fr okc (fun q=>q∉bs)) (.slice Ay nd.ways.length cy) nd.ways)
  {cur:Array Value} (hB:Mine okc wc b10 (.cells cur 195 (0,0))) (hl:cur.size=8) (hb:b10∈bs):
  lm N r n nd bs b10 Ap cp Ak ck Ay cy okc none 0 [] (wc.setCells b10 0 [.int .i64 r,.int .i64 n,.bool nd.inner,.bool nd.tagged,.slice Ap nd.pairs.length cp,.slice Ak nd.keys.length ck,.slice Ay nd.ways.length cy,.slice none 0 0]):=by
 have ne1: ∀ k,k∉bs∧some k≠(Value.slice none ([]:List Int).length 0).ownBlock→k≠b10:=fun k hk e=>hk.1 (e▸hb)
 have far: ∀ k,k≠b10→(wc.setCells b10 0 [.int .i64 r,.int .i64 n,.bool nd.inner,.bool nd.tagged,.slice Ap nd.pairs.length cp,.slice Ak nd.keys.length ck,.slice Ay nd.ways.length cy,.slice none 0 0]).heap[k]?=wc.heap[k]?:=fun k hk=>aW _ 0 k hk
 have up: ∀ k,Fr okc (fun q=>q∉bs) k→Fr okc (fun q=>q∉bs∧some q≠(Value.slice none ([]:List Int).length 0).ownBlock) k:=fun k hk=>⟨hk.1,hk.2,fun e=>by cases e⟩
 exact ⟨⟨gV hB.1 hl,hB.2⟩,iw (Kd.bq hp up) b10 ne1 far,iw (Kd.bq hk up) b10 ne1 far,iw (Kd.bq hy up) b10 ne1 far,Kd.fI _ _ _ _ _⟩
theorem lm.kSn (h:lm N r n nd bs b10 Ap cp Ak ck Ay cy okc Aw cw ws wc) (g:Nat) (hg:g∈bs) (hb: ∀ k,k≠g→w2.heap[k]?=wc.heap[k]?):kSn.M w2 N (fun k=> ¬ okc k) ⟨r,n,nd,ws⟩ [.int .i64 r,.int .i64 n,.bool nd.inner,.bool nd.tagged,.slice Ap nd.pairs.length cp,.slice Ak nd.keys.length ck,.slice Ay nd.ways.length cy,.slice Aw ws.length cw]:=
 Ed (s:=⟨r,n,nd,ws⟩) (xK (n:=nd) (Kd.bq (iw h.prs g (fun k hk e=>hk.1 (e▸hg)) hb) (fun k hk=>hk.1)) (Kd.bq (iw h.keys g (fun k hk e=>hk.1 (e▸hg)) hb) (fun k hk=>hk.1)) (Kd.bq (iw h.ways g (fun k hk e=>hk.1 (e▸hg)) hb) (fun k hk=>hk.1))) (Kd.bq (iw h.row g (fun k hk e=>hk (e▸hg)) hb) (fun k hk=>hk.1))
structure Ht (p tb:Nat) (work:Value) (me:Int) (bt:Nat) (ok:Nat→Prop) (w:World) (pA:Nat) (okc:Nat→Prop) (wc:World) (nd:Nd) (s2:TS Ws) (e:Ending) (w1:World):Prop where
 out: ∃ Ap cp Ak ck Ay cy ok1,e= .returned (.agg #[.bool nd.inner,.bool nd.tagged,.slice Ap nd.pairs.length cp,.slice Ak nd.keys.length ck,.slice Ay nd.ways.length cy])∧(∀ bs:List Nat,(∀ q∈bs,q<wc.heap.size∨w1.heap.size≤q)→ ∀ N,N≤wc.heap.size→dw.R 121 w1 N (Fr ok1 (fun q=>q∉bs)) (.slice Ap nd.pairs.length cp) nd.pairs∧(Kd.int .i64).R 2 w1 N (Fr ok1 (fun q=>q∉bs)) (.slice Ak nd.keys.length ck) nd.keys∧(Kd.int .i64).R 45 w1 N (Fr ok1 (fun q=>q∉bs)) (.slice Ay nd.ways.length cy) nd.ways)∧aH p tb work me bt ok w ok1 s2 w1∧Moves okc ok1 wc w1∧w1.cell? ⟨p,0,none⟩=some (.pointer (some ⟨pA,0,none⟩))
theorem aH.Ga (h:aH p tb work me bt ok w okc s wc) {pA:Nat} (hp:wc.cell? ⟨p,0,none⟩=some (.pointer (some ⟨pA,0,none⟩))) (hnd:(s.sh.ar.look r).1=nd) (hs2:({ s with sh:= { s.sh with ar:=(s.sh.ar.look r).2 } }:TS Ws)=s2):
  Calls Tryz.prog 126 #[.pointer (some ⟨pA,0,none⟩),.int .i64 r] wc (Ht p tb work me bt ok w pA okc wc nd s2):=by
 refine (h.ME r hp).mono ?_
 rintro e w1 ⟨v,ok1,rfl,hv,ht,hm,hk,hc⟩
 rw [hnd] at hv
 rw [hs2] at ht
 obtain ⟨vp,vk,vy,rfl,h1,h2,h3⟩:=hv.out
 obtain ⟨Ap,cp,rfl⟩:=Kd.aJ h1
 obtain ⟨Ak,ck,rfl⟩:=Kd.aJ h2
 obtain ⟨Ay,cy,rfl⟩:=Kd.aJ h3
 have hlt:=h.lt
 have up: ∀ bs:List Nat,(∀ q∈bs,q<wc.heap.size∨w1.heap.size≤q)→ ∀ k,wc.heap.size≤k→k<w1.heap.size→Fr ok1 (fun q=>q∉bs) k:=fun bs hb k h1 h2=>⟨fun h3=>by have:=hlt k (hk k h3);omega,fun h3=>by have:=hb k h3;omega⟩
 exact ⟨Ap,cp,Ak,ck,Ay,cy,ok1,rfl,fun bs hb N hN=>⟨Kd.eX (Kd.bq (Kd.bL h1) (fun k hk=>up bs hb k hk.2.1 hk.2.2.1)) hN,Kd.eX (Kd.bq (Kd.bL h2) (fun k hk=>up bs hb k hk.2.1 hk.2.2.1)) hN,Kd.eX (Kd.bq (Kd.bL h3) (fun k hk=>up bs hb k hk.2.1 hk.2.2.1)) hN⟩,ht,hm,hc⟩
end
structure yJ (p tb:Nat) (work:Value) (me:Int) (bt:Nat) (ok:Nat→Prop) (w:World) (r n:Int) (bx b4 b10:Nat) (nd:Nd) (j:Nat) (rest:List Int→Pr Ws (Sn × Int)) (res:Out (Sn × Int) × TS Ws) (wc:World):Prop where
 out: ∃ okc s Ap cp Ak ck Ay cy Aw cw ws,fE p tb work me bt ok w r bx b4 okc s wc∧lm w.heap.size r n nd [bt,bx,b4,b10] b10 Ap cp Ak ck Ay cy okc Aw cw ws wc∧ws.length=j∧rest ws s=some res
end Go.Proofs.YtmnjjdeaccgjlaaGreat.Tower
