/- Words and contracts that the claim stands on, part 2 of 7. -/
import Derived.Test.YtmnjjdeaccgjlaaGreatGStageNew0
import Derived.Laws.Cover3
import Derived.LoopTactic
set_option linter.unusedSimpArgs false
set_option linter.unusedVariables false
set_option maxHeartbeats 2000000
set_option maxRecDepth 100000
namespace Go.Proofs.YtmnjjdeaccgjlaaGreat.Tower
open Go Go.RowKit Go.Proofs.YtmnjjdeaccgjlaaGreatW.PrintWords Go.Proofs.YtmnjjdeaccgjlaaGreatW.PrintLast Go.Proofs.YtmnjjdeaccgjlaaGreatW.PrintMore Go.Proofs.YtmnjjdeaccgjlaaGreat.Own
attribute [local go_sem] tX tY tZ nT lq
theorem kJ {P:Program} {Q:Exit→Act→World→Prop} {ops:Array Oper} {w:World} {oi:Oper} {N:Option Tmp} {a:Act} {K:Act→World→Prop} (f:FuncId) (args:Array Value) (hw:Region.wanted oi (yielded ops a.tmps)=true) (hN:oi.dst=N) (hrun:(execOp a.eval oi).run P w= .ok (.enter f args) w)
  (h:Calls P f args w fun e w'=>(∃ v,e= .returned v∧K (a.put N v) w')∨ ∃ c,e= .panicked c∧Q (.panic c) a w'):if Region.wanted oi (yielded ops a.tmps)=true then Oper.wp P oi a w K Q else K (a.put N undef) w:=by
 rw [if_pos hw]
 subst hN
 unfold Oper.wp
 rw [hrun,Oper.upon_enter]
 refine h.mono fun e w'' hh=>?_
 rcases hh with ⟨v,rfl,hk⟩ | ⟨c,rfl,hk⟩
 ·exact hk
 ·exact hk
theorem uz {P:Program} {fn:Func} {tmps tmps':Array Value} {R:Ending→World→Prop} (hr:results fn tmps=results fn tmps'): ∀ (ds:List Deferred) (u:FrameMode) (w:World),Leaves P fn tmps R ds u w→Leaves P fn tmps' R ds u w:=by
 intro ds
 induction ds with
 | nil=>
  intro u w h
  cases u with
  | run=>exact h.elim
  | returning=>
   obtain ⟨v,h1,h2⟩:=h
   exact ⟨v,hr▸h1,h2⟩
  | panicking c=>exact h
 | cons d ds ih=>
  intro u w h
  obtain ⟨h1,fv,cap,f,args,h2,h3,h4⟩:=h
  refine ⟨h1,fv,cap,f,args,h2,h3,h4.mono (fun e u' w' h5=>?_)⟩
  cases e with
  | returned v=>exact ih _ _ h5
  | panicked c=>exact ih _ _ h5
  | outgrown=>exact h5
theorem rZ {fn:Func} {p:Tmp} {ty:TypeId} (hf:fn.results= #[.cell p ty]) {d:Tmp} (hd:d≠p) (tmps:Array Value) (v:Value):results fn (tmps.setIfInBounds d v)=results fn tmps:=by
 have h:(tmps.setIfInBounds d v)[p]?.getD undef=tmps[p]?.getD undef:=by simp [Array.getElem?_setIfInBounds,hd]
 simp [results,hf,h]
theorem lZ {K:Act→World→Prop} {P:Program} {fn:Func} {R:Ending→World→Prop} {p:Tmp} {ty:TypeId} (hf:fn.results= #[.cell p ty]) (d:Option Tmp) (v:Value) (hd:d≠some p): ∀ c a w,Exit.then K (bodyPostD P fn R) (.panic c) (a.put d v) w→Exit.then K (bodyPostD P fn R) (.panic c) a w:=by
 intro c a w h
 cases d with
 | none=>exact h
 | some d=>exact uz (rZ hf (fun e=>hd (by rw [e])) a.tmps v) _ _ _ h
def dx:List PanicEntry:= [⟨.iface 260 (.agg #[]),false,false⟩]
structure vG (okT okS:Nat→Prop) (tb:Nat) (work:Value) (Q:Option (List Int)→Th→(Nat→Prop)→World→Prop) (w1:World) (e:Ending) (w2:World):Prop where
 out: ∃ r th2 okT2 okS2,dA okT2 tb work th2 w2∧(∀ k,okT2 k→ ¬ okS2 k)∧Moves (fun k=>okT k∨okS k) (fun k=>okT2 k∨okS2 k) w1 w2∧Q r th2 okS2 w2∧(∀ k,okS2 k→k<w2.heap.size)∧
  ((r=none∧e= .panicked dx)∨ ∃ v l,r=some l∧e= .returned v∧(Kd.int .i64).R 2 w2 w1.heap.size (fun k=> ¬ okT2 k∧ ¬ okS2 k) v l)
def MP (r:Option (List Int)) (th:Th):Th:= { th with in_:=false,done:=r.isSome || th.done,out:=r.getD th.out }
structure yS (okT okS:Nat→Prop) (tb:Nat) (work:Value) (Q:Option (List Int)→Th→(Nat→Prop)→World→Prop) (w:World) (e:Ending) (w':World):Prop where
 out: ∃ r th2 okT3 okS3,e= .returned (.bool r.isSome)∧dA okT3 tb work (MP r th2) w'∧(∀ k,okT3 k→ ¬ okS3 k)∧Moves (fun k=>okT k∨okS k) (fun k=>okT3 k∨okS3 k) w w'∧Q r th2 okS3 w'∧(∀ k,okS3 k→k<w'.heap.size)
def KH:Bool × List (List Nat × List Nat):=(true,[([],[]),([],[]),([1],[1]),([2],[2]),([3],[3]),([],[]),([4,5],[4,5]),([0,0,1,2,3,4,5,6],[0]),([7,0,1,2,3,4,5,6],[7]),([8,6,6,0,1,2,3,4,5,6],[6,8])])
def Mj:List Nat:= [0,0,2,6,14,0,62,127,255,511]
theorem Jq:fq .any (opsOf Tryz.f125 3)=KH:=by kernel_rfl
theorem Dx:bA KH.2 Mj=true:=by kernel_rfl
theorem BO (okT okS:Nat→Prop) (tb:Nat) (wf:FuncId) (wc:Array Value) (th:Th) (w:World) (Q:Option (List Int)→Th→(Nat→Prop)→World→Prop)
  (h:dA okT tb (.func (.func wf) #[] wc) th w) (hd: ∀ k,okT k→ ¬ okS k) (hbs: ∀ k,okS k→k<w.heap.size)
  (hQ: ∀ r t ok1 w1 w2,Q r t ok1 w1→w1.heap.size≤w2.heap.size→(∀ k,ok1 k→k<w1.heap.size→w2.heap[k]?=w1.heap[k]?)→Q r t ok1 w2)
  (he: ∀ w1:World,(callFunc wf (#[.pointer (some ⟨tb,0,none⟩)]++wc)).run Tryz.prog w1= .ok (.enter wf (#[.pointer (some ⟨tb,0,none⟩)]++wc)) w1)
  (hw: ∀ w1,Moves okT okT w w1→dA okT tb (.func (.func wf) #[] wc) { th with in_:=true } w1→Calls Tryz.prog wf (#[.pointer (some ⟨tb,0,none⟩)]++wc) w1 (vG okT okS tb (.func (.func wf) #[] wc) Q w1)):
  Calls Tryz.prog 125 #[.pointer (some ⟨tb,0,none⟩)] w (yS okT okS tb (.func (.func wf) #[] wc) Q w):=by
 obtain ⟨lv,A,c,h⟩:=h
 have hmf: ∀ (fn:Fn) (first cap:Array Value) (w:World),(Instr.makeFunc fn first cap).run Tryz.prog w= .ok (.func fn first cap) w:=fun _ _ _ _=>rfl
 have HI:=Am_ h
 have HD:=Am_ hd
 have HQ:=Am_ hQ
 have HE:=Am_ he
 have HWK:=Am_ hw
 have hlt:=Am_ (h.2.1 tb h.1)
 have HBT:=Am_ h.2.1
 have HTB0:=Am_ h.1
 have HBS0:=Am_ hbs
 clear h hd hQ he hw hbs
 go_enter_defers Tryz.func125,Tryz.ntmps125
 go_upto_region 2 with fail
 have B1:=Am_ (aC (bU w (.cells #[.pointer (some ⟨tb,0,none⟩)] 33)) (.cells #[.bool false] 4))
 have B2:ak (((w.alloc (.cells #[.pointer (some ⟨tb,0,none⟩)] 33)).alloc (.cells #[.bool false] 4)).heap[w.heap.size+1]?=some (.cells #[.bool false] 4)):=⟨by simpa using bU (w.alloc (.cells #[.pointer (some ⟨tb,0,none⟩)] 33)) (.cells #[.bool false] 4)⟩
 have HI0:=Am_ ((HI.out.below (ai (Below.refl _ _) (.cells #[.pointer (some ⟨tb,0,none⟩)] 33))).below (ai (Below.refl _ _) (.cells #[.bool false] 4)))
 have M0:=Am_ (((Moves.refl okT w).alloc (.cells #[.pointer (some ⟨tb,0,none⟩)] 33)).alloc (.cells #[.bool false] 4))
 clear HI
 generalize (w.alloc (.cells #[.pointer (some ⟨tb,0,none⟩)] 33)).alloc (.cells #[.bool false] 4)=w0 at B1 B2 HI0 M0 ⊢
 generalize hb1:w.heap.size=b1 at B1 B2 hlt ⊢
 have HS:=Am_ hb1
 clear hb1
 have c1:w0.cell? ⟨b1,0,none⟩=some (.pointer (some ⟨tb,0,none⟩)):=(af B1.out 0).trans rfl
 have c4:w0.cell? ⟨tb,4,none⟩=some (.bool th.in_):=(af HI0.out.2.2.1 4).trans rfl
 have f4:=ah HI0.out.2.2.1 4
 go_upto_region 3 with fail
 have HI1:=Am_ (HI0.out.nu true)
 have n1_:=Am_ (cO B1.out (p:=⟨tb,4,none⟩) (Nat.ne_of_gt hlt.out) (.bool true))
 have n2_:=Am_ (cO B2.out (p:=⟨tb,4,none⟩) (by have:=hlt.out;show b1+1≠tb;omega) (.bool true))
 have M1:=Am_ (M0.out.set (p:=⟨tb,4,none⟩) (.inl HI0.out.1) (.bool true))
 clear B1 B2 c1 c4 f4 HI0 M0
 have B1:=n1_
 have B2:=n2_
 clear n1_ n2_
 generalize w0.setCell ⟨tb,4,none⟩ (.bool true)=w1 at HI1 B1 B2 M1 ⊢
 refine jL (n:=10) (S:=fun w'=>w'.cell? ⟨b1,0,none⟩=some (.pointer (some ⟨tb,0,none⟩))∧w'.cell? ⟨tb,0,none⟩=some (.func (.func wf) #[] wc)) (ds:= []) #[N_,N_,N_,N_,N_,N_,N_,N_,N_,N_] (by kernel_rfl) rfl rfl ⟨(af B1.out 0).trans rfl,(af HI1.out.2.2.1 0).trans rfl⟩ (fun hHeld=>?_);refine fU Jq Dx (fun HT_ HW_=>?_)
 have n0_:=Am_ HI1.out.drew
 have n1_:=Am_ (aI B1.out)
 have n2_:=Am_ (aI B2.out)
 have n3_:=Am_ M1.out.drew
 clear HI1 B1 B2 M1
 have HI1:=n0_
 have B1:=n1_
 have B2:=n2_
 have M1:=n3_
 clear n0_ n1_ n2_ n3_
 generalize World.drew _=w2 at HI1 B1 B2 M1 hHeld ⊢
 refine fw (i:=0) (N:=some 7) (v:=?_) (a':=?_) #[Y_,N_,N_,N_,N_,N_,N_,N_,N_,N_] rfl rfl (bN HT_.out HW_.out (by kernel_rfl)) (lZ rfl _ _ (by decide)) (Or.inl ⟨by rfl,?_⟩) hHeld ?_ ?_
 rotate_left; · rintro w' ⟨s0,s1⟩;go_simp;with_reducible rfl
 rotate_left; · simp only [Act.put,u1_,u2_,u3_,ax,ay];rfl
 refine fw (i:=1) (N:=some 8) (v:=?_) (a':=?_) #[Y_,Y_,N_,N_,N_,N_,N_,N_,N_,N_] rfl rfl (bN HT_.out HW_.out (by kernel_rfl)) (lZ rfl _ _ (by decide)) (Or.inl ⟨by rfl,?_⟩) hHeld ?_ ?_
 rotate_left; · rintro w' ⟨s0,s1⟩;go_simp;with_reducible rfl
 rotate_left; · simp only [Act.put,u1_,u2_,u3_,ax,ay];rfl
 refine bS (i:=2) (N:=some 9) (v:=?_) (a':=?_) #[Y_,Y_,Y_,N_,N_,N_,N_,N_,N_,N_] rfl rfl (bf HT_.out (by kernel_rfl)) (lZ rfl _ _ (by decide)) (Or.inl ⟨by rfl,?_⟩) ?_ ?_
 rotate_left; · intro w';go_simp;with_reducible rfl
 rotate_left; · simp only [Act.put,u1_,u2_,u3_,ax,ay];rfl
 refine bS (i:=3) (N:=some 10) (v:=?_) (a':=?_) #[Y_,Y_,Y_,Y_,N_,N_,N_,N_,N_,N_] rfl rfl (bf HT_.out (by kernel_rfl)) (lZ rfl _ _ (by decide)) (Or.inl ⟨by rfl,?_⟩) ?_ ?_
 rotate_left; · intro w';go_simp;with_reducible rfl
 rotate_left; · simp only [Act.put,u1_,u2_,u3_,ax,ay];rfl
 refine fw (i:=4) (N:=some 11) (v:=?_) (a':=?_) #[Y_,Y_,Y_,Y_,Y_,N_,N_,N_,N_,N_] rfl rfl (bN HT_.out HW_.out (by kernel_rfl)) (lZ rfl _ _ (by decide)) (Or.inl ⟨by rfl,?_⟩) hHeld ?_ ?_
 rotate_left; · rintro w' ⟨s0,s1⟩;go_simp;with_reducible rfl
 rotate_left; · simp only [Act.put,u1_,u2_,u3_,ax,ay];rfl
 refine fw (i:=5) (N:=some 12) (v:=?_) (a':=?_) #[Y_,Y_,Y_,Y_,Y_,Y_,N_,N_,N_,N_] rfl rfl (bN HT_.out HW_.out (by kernel_rfl)) (lZ rfl _ _ (by decide)) (Or.inl ⟨by rfl,?_⟩) hHeld ?_ ?_
 rotate_left; · rintro w' ⟨s0,s1⟩;go_simp;with_reducible rfl
 rotate_left; · simp only [Act.put,u1_,u2_,u3_,ax,ay];rfl
 refine nS (i:=6) (N:=some 13) #[Y_,Y_,Y_,Y_,Y_,Y_,Y_,N_,N_,N_] rfl rfl (dV HT_.out (by kernel_rfl)) (by decide) (fun K_ hK=>?_)
 refine kJ wf (#[.pointer (some ⟨tb,0,none⟩)]++wc) (by rfl) rfl ?hrun ?_
 (case hrun=>go_simp;exact HE.out _)
 refine (HWK.out w2 M1.out ⟨_,_,_,HI1.out⟩).mono ?_
 rintro e w3 ⟨r,th2,okT2,okS2,⟨lv2,A2,c2,hT⟩,hdis,hM,hq,hbs,hr⟩
 have hnb1: ¬ (okT b1∨okS b1):=fun hh=>by
  have e0:=HS.out
  rcases hh with hh | hh
  ·have:=HBT.out b1 hh;omega
  ·have:=HBS0.out b1 hh;omega
 have hnb2: ¬ (okT (b1+1)∨okS (b1+1)):=fun hh=>by
  have e0:=HS.out
  rcases hh with hh | hh
  ·have:=HBT.out (b1+1) hh;omega
  ·have:=HBS0.out (b1+1) hh;omega
 have hnc2: ¬ (okT2 (b1+1)∨okS2 (b1+1)):=fun hh=>by
  rcases hM.fresh _ hh with h1 | h1
  ·exact hnb2 h1
  ·have:=bD B2.out;omega
 have B1':=Am_ ((hM.block b1 (bD B1.out) hnb1).trans B1.out)
 have B2':=Am_ ((hM.block (b1+1) (bD B2.out) hnb2).trans B2.out)
 have HT3:=Am_ hT
 have HM3:ak (Moves (fun k=>okT k∨okS k) (fun k=>okT2 k∨okS2 k) w w3):=⟨((M1.out.part (ok:=fun k=>okT k∨okS k) (okB:=okS) (fun _ h=> .inl h) (fun _ h=> .inr h)).trans hM)⟩
 have HQ3:=Am_ hq
 have HDI:=Am_ hdis
 have HBS:=Am_ hbs
 have HTB:ak (okT tb):=HTB0
 have HSZ:ak (w.heap.size≤w2.heap.size):=⟨M1.out.size⟩
 have hTtb: ¬ okS2 tb:=fun hh=>hdis tb hT.1 hh
 clear hT hM hq hdis hbs
 rcases hr with ⟨rfl,rfl⟩ | ⟨v,l,rfl,rfl,hv⟩
 ·right
  refine ⟨_,rfl,?_⟩
  refine leaves_cons (f:=180) (args:= #[.pointer (some ⟨b1,0,none⟩),.pointer (some ⟨b1+1,0,none⟩)]) (by simp) (by simp [go_sem]) ?_
  refine (xu tb b1 (b1+1) _ _ _ [] w3 B1'.out HT3.out.2.2.1 rfl B2'.out (by have:=hlt.out;omega)).mono ?_
  rintro e u' w'' ⟨rfl,rfl,rfl⟩
  have hbf:=bH (aC (cO B2'.out (p:=⟨tb,4,none⟩) (by have:=hlt.out;show b1+1≠tb;omega) (.bool false)) (.cells #[] 260)) 0 (.bool false)
  have cb:=(af hbf 0).trans (rfl:_=some (Value.bool false))
  refine ⟨.bool false,?_,⟨none,th2,okT2,okS2,rfl,⟨_,_,_,((HT3.out.nu false).below (ai (Below.refl _ _) (.cells #[] 260))).step (by simp [World.setCell]) (fun k hk _=>Below.heap_setCell _ ⟨b1+1,0,none⟩ (.bool false) k (fun e=>hnc2 (.inl ((show k=b1+1 from e)▸hk))))⟩,HDI.out,?_,?_,?_⟩⟩
  ·simp [results,Tryz.results125,go_sem,cb]
  ·exact ((HM3.out.set (p:=⟨tb,4,none⟩) (.inl (.inl HTB.out)) (.bool false)).alloc (.cells #[] 260)).set (p:=⟨b1+1,0,none⟩) (.inr (by have:=HS.out;show w.heap.size≤b1+1;omega)) (.bool false)
  ·refine HQ.out none th2 okS2 w3 _ HQ3.out (by simp [World.setCell]) (fun k hk hlt3=>?_)
   refine (Below.heap_setCell _ ⟨b1+1,0,none⟩ (.bool false) k (fun e=>hnc2 (.inr ((show k=b1+1 from e)▸hk)))).trans ?_
   refine (Below.heap_alloc _ _ k (by simpa [World.setCell] using hlt3)).trans ?_
   exact Below.heap_setCell _ ⟨tb,4,none⟩ (.bool false) k (fun e=>hTtb ((show k=tb from e)▸hk))
  ·intro k hk
   have:=HBS.out k hk
   simp [World.setCell]
   omega
 ·left
  refine ⟨v,rfl,?_⟩
  obtain ⟨Av,cv,rfl⟩:=Kd.aJ hv
  have HV:=Am_ hv
  clear hv
  have c6:w3.cell? ⟨tb,6,none⟩=some (.slice A2 th2.out.length c2):=(af HT3.out.2.2.1 6).trans rfl
  have f6:=ah HT3.out.2.2.1 6
  refine hK.out _ _ ⟨(af B1'.out 0).trans rfl,(af HT3.out.2.2.1 0).trans rfl⟩ (fun hHeld=>?_)
  clear hK K_
  refine bK (a':=?_) ?_ ?_
  rotate_left; · show Act.put _ (some 13) _=_;simp only [Act.put,u1_,u2_,u3_,ax,ay];rfl
  refine bS (i:=7) (N:=some 14) (v:=?_) (a':=?_) #[Y_,Y_,Y_,Y_,Y_,Y_,Y_,Y_,N_,N_] rfl rfl (bf HT_.out (by kernel_rfl)) (lZ rfl _ _ (by decide)) (Or.inl ⟨by rfl,?_⟩) ?_ ?_
  rotate_left; · intro w';go_simp;with_reducible rfl
  rotate_left; · simp only [Act.put,u1_,u2_,u3_,ax,ay];rfl
  refine bS (i:=8) (N:=some 15) (v:=?_) (a':=?_) #[Y_,Y_,Y_,Y_,Y_,Y_,Y_,Y_,Y_,N_] rfl rfl (bf HT_.out (by kernel_rfl)) (lZ rfl _ _ (by decide)) (Or.inl ⟨by rfl,?_⟩) ?_ ?_
  rotate_left; · intro w';go_simp;with_reducible rfl
  rotate_left; · simp only [Act.put,u1_,u2_,u3_,ax,ay];rfl
  refine nS (i:=9) (N:=none) #[Y_,Y_,Y_,Y_,Y_,Y_,Y_,Y_,Y_,Y_] rfl rfl (dV HT_.out (by kernel_rfl)) (by decide) (fun K_ hK=>?_)
  refine fB (w1:=?_) (by rfl) rfl ?_ ?_
  rotate_left
  ·go_simp
   rfl
  refine hK.out _ _ ⟨(cell_far (p:=⟨tb,6,none⟩) (Nat.ne_of_gt hlt.out) _).trans ((af B1'.out 0).trans rfl),(af (bH HT3.out.2.2.1 6 _) 0).trans rfl⟩ (fun hHeld=>?_)
  clear hK K_
  refine dD (bI HT_.out (by kernel_rfl)) ?_
  have HT4:=Am_ (HT3.out.IQ HV.out (fun k hk=>hk.1))
  have B1'':=Am_ (cO B1'.out (p:=⟨tb,6,none⟩) (Nat.ne_of_gt hlt.out) (.slice Av l.length cv))
  have B2'':=Am_ (cO B2'.out (p:=⟨tb,6,none⟩) (by have:=hlt.out;show b1+1≠tb;omega) (.slice Av l.length cv))
  have HM4:=Am_ (HM3.out.set (p:=⟨tb,6,none⟩) (.inl (.inl HTB.out)) (.slice Av l.length cv))
  have HQ4:=Am_ (HQ.out (some l) th2 okS2 w3 _ HQ3.out (by simp [World.setCell]) (fun k hk _=>Below.heap_setCell w3 ⟨tb,6,none⟩ (.slice Av l.length cv) k (fun e=>hTtb ((show k=tb from e)▸hk))))
  have hV1:ak (∀ k,some k=(Value.slice Av l.length cv).ownBlock→w2.heap.size≤k∧ ¬ okS2 k∧k<w3.heap.size):=⟨fun k hk=>⟨Kd.iQ HV.out k hk.symm,(HV.out.1 k hk.symm).2,Kd.qP HV.out k hk.symm⟩⟩
  have hs4:ak ((w3.setCell ⟨tb,6,none⟩ (.slice Av l.length cv)).heap.size=w3.heap.size):=⟨by simp [World.setCell]⟩
  clear c6 f6 hHeld
  generalize w3.setCell ⟨tb,6,none⟩ (.slice Av l.length cv)=w4 at HT4 B1'' B2'' HM4 HQ4 hs4 ⊢
  have c1:w4.cell? ⟨b1,0,none⟩=some (.pointer (some ⟨tb,0,none⟩)):=(af B1''.out 0).trans rfl
  have c5:w4.cell? ⟨tb,5,none⟩=some (.bool th2.done):=(af HT4.out.2.2.1 5).trans rfl
  have f5:=ah HT4.out.2.2.1 5
  have B3:=Am_ (cO B2''.out (p:=⟨tb,5,none⟩) (by have:=hlt.out;show b1+1≠tb;omega) (.bool true))
  have c7:=(af B3.out 0).trans (rfl:_=some (Value.bool false))
  have f7:=ah B3.out 0
  go_wp2_with fail
  have hnk: ∀ k,(okT2 k∨some k=(Value.slice Av l.length cv).ownBlock)→k≠b1+1:=fun k hk e=>by
   rcases hk with hk | hk
   ·exact hnc2 (.inl (e▸hk))
   ·have:=(hV1.out k hk).1
    have:=bD B2.out
    omega
  have HT5:=Am_ ((HT4.out.DJ true).step (w1:=(w4.setCell ⟨tb,5,none⟩ (.bool true)).setCell ⟨b1+1,0,none⟩ (.bool true)) (by simp [World.setCell]) (fun k hk _=>Below.heap_setCell _ ⟨b1+1,0,none⟩ (.bool true) k (fun e=>hnk k hk e)))
  have B1_5:=cO (cO B1''.out (p:=⟨tb,5,none⟩) (Nat.ne_of_gt hlt.out) (.bool true)) (p:=⟨b1+1,0,none⟩) (by show b1≠b1+1;omega) (.bool true)
  have B2_5:=bH B3.out 0 (.bool true)
  have HM5:=Am_ ((HM4.out.set (p:=⟨tb,5,none⟩) (.inl (.inl HTB.out)) (.bool true)).set (p:=⟨b1+1,0,none⟩) (.inr (by have:=HS.out;show w.heap.size≤b1+1;omega)) (.bool true))
  refine leaves_cons (f:=180) (args:= #[.pointer (some ⟨b1,0,none⟩),.pointer (some ⟨b1+1,0,none⟩)]) (by simp) (by simp [go_sem]) ?_
  refine (xq tb b1 (b1+1) _ _ _ _ B1_5 HT5.out.2.2.1 rfl B2_5 (by have:=hlt.out;omega)).mono ?_
  rintro e u' w'' ⟨rfl,rfl,rfl⟩
  have cb:=(af (cO B2_5 (p:=⟨tb,4,none⟩) (by have:=hlt.out;show b1+1≠tb;omega) (.bool false)) 0).trans (rfl:_=some (Value.bool true))
  refine ⟨.bool true,?_,⟨some l,th2,_,okS2,rfl,⟨_,_,_,HT5.out.nu false⟩,?_,?_,?_,?_⟩⟩
  ·simp [results,Tryz.results125,go_sem,cb]
  ·rintro k (hk | hk) hk2
   ·exact HDI.out k hk hk2
   ·exact (hV1.out k hk).2.1 hk2
  ·refine (HM5.out.set (p:=⟨tb,4,none⟩) (.inl (.inl HTB.out)) (.bool false)).owns ?_
   rintro k ((hk | hk) | hk)
   ·exact HM3.out.fresh k (.inl hk)
   ·have:=(hV1.out k hk).1
    have:=HSZ.out
    exact .inr (by omega)
   ·exact HM3.out.fresh k (.inr hk)
  ·refine HQ.out (some l) th2 okS2 w4 _ HQ4.out (by simp [World.setCell]) (fun k hk _=>?_)
   refine (Below.heap_setCell _ ⟨tb,4,none⟩ (.bool false) k (fun e=>hTtb ((show k=tb from e)▸hk))).trans ?_
   refine (Below.heap_setCell _ ⟨b1+1,0,none⟩ (.bool true) k (fun e=>hnc2 (.inr ((show k=b1+1 from e)▸hk)))).trans ?_
   exact Below.heap_setCell _ ⟨tb,5,none⟩ (.bool true) k (fun e=>hTtb ((show k=tb from e)▸hk))
  ·intro k hk
   have:=HBS.out k hk
   have:=hs4.out
   simp [World.setCell]
   omega
end Go.Proofs.YtmnjjdeaccgjlaaGreat.Tower
namespace Go.Proofs.YtmnjjdeaccgjlaaGreat.Tower
open Go Go.RowKit Go.Proofs.YtmnjjdeaccgjlaaGreatW.PrintWords Go.Proofs.YtmnjjdeaccgjlaaGreatW.PrintLast Go.Proofs.YtmnjjdeaccgjlaaGreatW.PrintMore Go.Proofs.YtmnjjdeaccgjlaaGreat.Own
attribute [local go_sem] tX tY tZ nT lq
theorem BV (okT okS:Nat→Prop) (tb:Nat) (wf:FuncId) (wc:Array Value) (th:Th) (w:World) (Q:Option (List Int)→Th→(Nat→Prop)→World→Prop)
  (h:dA okT tb (.func (.func wf) #[] wc) th w) (hdn:th.done=false) (hd: ∀ k,okT k→ ¬ okS k) (hbs: ∀ k,okS k→k<w.heap.size)
  (hQ: ∀ r t ok1 w1 w2,Q r t ok1 w1→w1.heap.size≤w2.heap.size→(∀ k,ok1 k→k<w1.heap.size→w2.heap[k]?=w1.heap[k]?)→Q r t ok1 w2)
  (he: ∀ w1:World,(callFunc wf (#[.pointer (some ⟨tb,0,none⟩)]++wc)).run Tryz.prog w1= .ok (.enter wf (#[.pointer (some ⟨tb,0,none⟩)]++wc)) w1)
  (hw: ∀ w1,Moves okT okT w w1→dA okT tb (.func (.func wf) #[] wc) { th with at_:=0,spent:=false,in_:=true } w1→Calls Tryz.prog wf (#[.pointer (some ⟨tb,0,none⟩)]++wc) w1 (vG okT okS tb (.func (.func wf) #[] wc) Q w1)):
  Calls Tryz.prog 71 #[.pointer (some ⟨tb,0,none⟩)] w (yS okT okS tb (.func (.func wf) #[] wc) Q w):=by
 obtain ⟨lv,A,c,h⟩:=h
 have HI:=Am_ h
 have HD:=Am_ hd
 have HQ:=Am_ hQ
 have HE:=Am_ he
 have HWK:=Am_ hw
 have HBS:=Am_ hbs
 have c5:w.cell? ⟨tb,5,none⟩=some (.bool false):=(af h.2.2.1 5).trans (by rw [←hdn];rfl)
 have c0:w.cell? ⟨tb,0,none⟩=some (.func (.func wf) #[] wc):=(af h.2.2.1 0).trans rfl
 have c2:w.cell? ⟨tb,2,none⟩=some (.int .i64 th.at_):=(af h.2.2.1 2).trans rfl
 have c3:w.cell? ⟨tb,3,none⟩=some (.bool th.spent):=(af h.2.2.1 3).trans rfl
 have f2:=ah h.2.2.1 2
 have f3:=ah h.2.2.1 3
 have HA:=Am_ ((h.at_set 0).oh false)
 have HM:=Am_ (((Moves.refl okT w).set (p:=⟨tb,2,none⟩) (.inl h.1) (.int .i64 0)).set (p:=⟨tb,3,none⟩) (.inl h.1) (.bool false))
 clear h hdn hd hbs hQ he hw
 go_enter Tryz.func71,Tryz.ntmps71
 go_upto_region 4 with fail
 generalize hW:(w.setCell ⟨tb,2,none⟩ (.int .i64 0)).setCell ⟨tb,3,none⟩ (.bool false)=w1 at HA HM ⊢
 have HSZ:ak (w1.heap.size=w.heap.size):=⟨by rw [←hW];simp [World.setCell]⟩
 clear hW c5 c0 c2 c3 f2 f3
 go_wp2_with (go_at_call 125;refine (BO okT okS tb wf wc { th with at_:=0,spent:=false } _ Q ⟨_,_,_,HA.out⟩ HD.out (fun k hk=>by rw [HSZ.out];exact HBS.out k hk) HQ.out HE.out (fun w2 hm ht=>HWK.out w2 (HM.out.trans hm) ht)).mono ?_;rintro e w2 ⟨r,th2,okT3,okS3,rfl,hrest⟩;have HR:=Am_ hrest;clear hrest)
 go_ret
 obtain ⟨h1,h2,h3,h4,h5⟩:=HR.out
 refine ⟨r,th2,okT3,okS3,rfl,h1,h2,?_,h4,h5⟩
 exact (HM.out.part (ok:=fun k=>okT k∨okS k) (okB:=okS) (fun _ h=> .inl h) (fun _ h=> .inr h)).trans h3
end Go.Proofs.YtmnjjdeaccgjlaaGreat.Tower
namespace Go.Proofs.YtmnjjdeaccgjlaaGreat.Tower
open Go Go.RowKit Go.Proofs.YtmnjjdeaccgjlaaGreatW.PrintWords Go.Proofs.YtmnjjdeaccgjlaaGreatW.PrintLast Go.Proofs.YtmnjjdeaccgjlaaGreatW.PrintMore Go.Proofs.YtmnjjdeaccgjlaaGreat.Own
attribute [local go_sem] tX tY tZ nT lq
inductive Out (α:Type) where
 | ret (a:α)
 | wait
structure TS (X:Type) where
 sh:X
 log:List Int
 at_:Nat
 spent:Bool
abbrev Pr (X α:Type):=TS X→Option (Out α × TS X)
def aU {X α β:Type} (m:Pr X α) (f:α→Pr X β):Pr X β:=fun s=>
 match m s with
 | none=>none
 | some (.ret a,t)=>f a t
 | some (.wait,t)=>some (.wait,t)
def doT {X:Type} (f:X→Int × X):Pr X Int:=fun s=>
 if s.at_<s.log.length then some (.ret (s.log.getD s.at_ 0),{ s with at_:=s.at_+1 })
 else if s.spent then some (.wait,s)
 else if 999999≤s.log.length then none
 else some (.ret (f s.sh).1,{ sh:=(f s.sh).2,log:=s.log++ [(f s.sh).1],at_:=s.at_+1,spent:=true })
structure Shared {X:Type} (Sh:X→(Nat→Prop)→World→Prop):Prop where
 step: ∀ {x ok w w1},Sh x ok w→w.heap.size≤w1.heap.size→(∀ k,ok k→k<w.heap.size→w1.heap[k]?=w.heap[k]?)→Sh x ok w1
 lt: ∀ {x ok w},Sh x ok w→ ∀ k,ok k→k<w.heap.size
structure dN {X:Type} (Sh:X→(Nat→Prop)→World→Prop) (tb:Nat) (work:Value) (ok:Nat→Prop) (s:TS X) (w:World):Prop where
 le:s.at_≤s.log.length
 short:s.log.length<1000000
 out: ∃ okT okS,(∀ k,ok k↔okT k∨okS k)∧(∀ k,okT k→ ¬ okS k)∧dA okT tb work ⟨s.log,s.at_,s.spent,true,false,[]⟩ w∧Sh s.sh okS w
section
variable {X:Type} {Sh:X→(Nat→Prop)→World→Prop} {tb:Nat} {work:Value} {ok:Nat→Prop} {s:TS X} {w w1:World}
theorem dA.lt {ok:Nat→Prop} {th:Th} (h:dA ok tb work th w): ∀ k,ok k→k<w.heap.size:=by
 obtain ⟨lv,A,c,h⟩:=h
 exact h.2.1
theorem dN.lt (S:Shared Sh) (h:dN Sh tb work ok s w): ∀ k,ok k→k<w.heap.size:=fun k hk=>by
 obtain ⟨okT,okS,h1,h2,h3,h4⟩:=h.out
 rcases (h1 k).1 hk with hk | hk
 ·exact h3.lt k hk
 ·exact S.lt h4 k hk
theorem dN.step (S:Shared Sh) (h:dN Sh tb work ok s w) (hs:w.heap.size≤w1.heap.size) (hm: ∀ k,ok k→k<w.heap.size→w1.heap[k]?=w.heap[k]?):dN Sh tb work ok s w1:=by
 obtain ⟨okT,okS,h1,h2,h3,h4⟩:=h.out
 exact ⟨h.le,h.short,okT,okS,h1,h2,h3.step hs (fun k hk=>hm k ((h1 k).2 (.inl hk))),S.step h4 hs (fun k hk=>hm k ((h1 k).2 (.inr hk)))⟩
theorem dN.below (S:Shared Sh) (h:dN Sh tb work ok s w) (hb:Below w.heap.size w w1):dN Sh tb work ok s w1:=h.step S hb.size (fun k _ hlt=>hb.block k hlt)
theorem dN.far (S:Shared Sh) (h:dN Sh tb work ok s w) {p:Addr} (hp: ¬ ok p.block) (u:Value):dN Sh tb work ok s (w.setCell p u):=h.step S (by simp [World.setCell]) (fun k hk _=>Below.heap_setCell w p u k (fun e=>hp (e▸hk)))
end
structure fQ {X α:Type} (Sh:X→(Nat→Prop)→World→Prop) (tb:Nat) (work:Value) (V:α→(Nat→Prop)→Value→World→Prop) (ok:Nat→Prop) (w:World) (res:Out α × TS X) (e:Ending) (w1:World):Prop where
 out: ∃ ok1,Moves ok ok1 w w1∧dN Sh tb work ok1 res.2 w1∧
  match res.1 with
  | .ret a=> ∃ v,e= .returned v∧V a ok1 v w1
  | .wait=>e= .panicked dx
def FZ (a:Int) (_:Nat→Prop) (v:Value) (_:World):Prop:=v= .int .i64 a
def Ib (a:Bool) (_:Nat→Prop) (v:Value) (_:World):Prop:=v= .bool a
def Di (_:Unit) (_:Nat→Prop) (v:Value) (_:World):Prop:=v= .tuple #[]
theorem fA {ok ok1:Nat→Prop} {w w1:World} {okA okB:Nat→Prop} (h:Moves okA okA w w1) (hA: ∀ k,okA k→ok k):Moves ok ok w w1:=⟨h.os,h.tape,h.output,h.size,fun k hk hn=>h.block k hk (fun h1=>hn (hA k h1)),fun k hk=> .inl hk⟩
theorem qh {X:Type} {Sh:X→(Nat→Prop)→World→Prop} (S:Shared Sh) (f:X→Int × X) (tb:Nat) (work:Value) (ok:Nat→Prop) (s:TS X) (w:World) (gf:FuncId) (cap:Array Value) (h:dN Sh tb work ok s w)
  (he: ∀ w1:World,(callFunc gf cap).run Tryz.prog w1= .ok (.enter gf cap) w1)
  (hc: ∀ w1 okS,Moves ok ok w w1→(∀ k,okS k→ok k)→Sh s.sh okS w1→Calls Tryz.prog gf cap w1 fun e w2=> ∃ okS1,e= .returned (.int .i64 (f s.sh).1)∧Sh (f s.sh).2 okS1 w2∧Moves okS okS1 w1 w2)
  (res:Out Int × TS X) (hr:doT f s=some res):
  Calls Tryz.prog 137 #[.pointer (some ⟨tb,0,none⟩),.func (.func gf) #[] cap] w (fQ Sh tb work FZ ok w res):=by
 have hle:=h.le
 have hsh:=h.short
 obtain ⟨okT,okS,h1,h2,h3,h4⟩:=h.out
 unfold doT at hr
 by_cases ha:s.at_<s.log.length
 ·rw [if_pos ha] at hr
  injection hr with hr
  subst hr
  refine (tT okT tb work _ w _ _ _ h3 rfl (by simp) (by simpa using ha) hsh _ rfl).mono ?_
  rintro e w1 ⟨rfl,ht,hm⟩
  refine ⟨⟨ok,fA (ok1:=ok) (okB:=ok) hm (fun k hk=>(h1 k).2 (.inl hk)),⟨by show s.at_+1≤s.log.length;omega,hsh,okT,okS,h1,h2,?_,S.step h4 hm.size (fun k hk hlt=>hm.block k hlt (fun h5=>h2 k h5 hk))⟩,_,rfl,?_⟩⟩
  ·simpa using ht
  ·simp [FZ]
 ·rw [if_neg ha] at hr
  have hat:s.at_=s.log.length:=by omega
  by_cases hs:s.spent=true
  ·rw [if_pos hs] at hr
   injection hr with hr
   subst hr
   refine (qi okT tb work _ w _ _ _ h3 rfl (by show (s.log.length:Int)≤(s.at_:Int);omega) hs).mono ?_
   rintro e w1 ⟨rfl,ht,hm⟩
   exact ⟨⟨ok,fA (ok1:=ok) (okB:=ok) hm (fun k hk=>(h1 k).2 (.inl hk)),⟨hle,hsh,okT,okS,h1,h2,ht,S.step h4 hm.size (fun k hk hlt=>hm.block k hlt (fun h5=>h2 k h5 hk))⟩,rfl⟩⟩
  ·rw [if_neg hs] at hr
   by_cases hl:999999≤s.log.length
   ·rw [if_pos hl] at hr
    cases hr
   rw [if_neg hl] at hr
   injection hr with hr
   subst hr
   have hlen:(s.log++ [(f s.sh).1]).length<1000000:=by simp;omega
   refine (AB okT okS tb work _ w gf cap (fun n okS1 w1=>n=(f s.sh).1∧Sh (f s.sh).2 okS1 w1) h3 rfl (by show (s.at_:Int)=(s.log.length:Int);omega) (by simpa using hs) hsh h2
    (fun n ok1 w1 w2 hp hsz hm=>⟨hp.1,S.step hp.2 hsz hm⟩) (fun n ok1 w1 hp=>S.lt hp.2) he
    (fun w1 hm=>(hc w1 okS (fA (ok1:=ok) (okB:=ok) hm (fun k hk=>(h1 k).2 (.inl hk))) (fun k hk=>(h1 k).2 (.inr hk)) (S.step h4 hm.size (fun k hk hlt=>hm.block k hlt (fun h5=>h2 k h5 hk)))).mono (fun e w2 hh=>by
     obtain ⟨okS1,rfl,hp,hmv⟩:=hh
     exact ⟨_,okS1,rfl,⟨rfl,hp⟩,hmv⟩))).mono ?_
   rintro e w1 ⟨n,okT1,okS1,rfl,ht,⟨rfl,hp⟩,hd,hm⟩
   refine ⟨⟨fun k=>okT1 k∨okS1 k,⟨hm.os,hm.tape,hm.output,hm.size,fun k hk hn=>hm.block k hk (fun h5=>hn ((h1 k).2 h5)),fun k hk=>(hm.fresh k hk).imp (h1 k).2 id⟩,⟨by simp [hat],hlen,okT1,okS1,fun _=>Iff.rfl,hd,?_,hp⟩,_,rfl,rfl⟩⟩
   simpa using ht
end Go.Proofs.YtmnjjdeaccgjlaaGreat.Tower
namespace Go.Proofs.YtmnjjdeaccgjlaaGreat.Tower
open Go Go.RowKit Go.Proofs.YtmnjjdeaccgjlaaGreatW.PrintWords Go.Proofs.YtmnjjdeaccgjlaaGreatW.PrintLast Go.Proofs.YtmnjjdeaccgjlaaGreatW.PrintMore Go.Proofs.YtmnjjdeaccgjlaaGreat.Own
theorem run_eql_slice_nil {P:Program} (t e:TypeId) (a:Option Addr) (l c:Nat) (w:World) (h:P.underlying t=some (.slice e)):(binOp .eql t (.slice a l c) (.slice none 0 0)).run P w= .ok (.bool a.isNone) w:=by
 simp only [binOp]
 simp [run_equal_slice_nil w t e a l c h]
abbrev dw:Kd (Int × Int):=Kd.pair (Kd.int .i64) (Kd.int .i64)
theorem mM {α:Type} (d:Kd α) (e:Nat) (w:World) (base:Nat) (hb:base≤w.heap.size):d.R e (w.alloc (.cells #[] e)) base (fun k=>base≤k) (.slice (some ⟨w.heap.size,0,none⟩) 0 0) []:=by
 refine ⟨fun k hk=>?_,[],⟨by simp,.inr ⟨w.heap.size,0,#[],rfl,hb,bU w _,Nat.le_refl _,by simp [maxLen],by simp,by simp⟩⟩,eY.none _ _⟩
 have:w.heap.size=k:=by simpa [Value.ownBlock] using hk
 omega
theorem ji:(Tryz.prog.info? 121).map (fun i=>(i.zero,i.size,i.bytes))=some (some (.agg #[.int .i64 0,.int .i64 0]),2,16):=by kernel_rfl
theorem AU (a:Option Addr) (l c:Nat) (w:World):(binOp .eql 26 (.slice a l c) (.slice none 0 0)).run Tryz.prog w= .ok (.bool a.isNone) w:=run_eql_slice_nil _ _ a l c w Tryz.underlying26
attribute [local go_sem] AU
theorem fZ (A:Option Addr) (n c:Nat) (xs:List (Int × Int)) (w:World) (hr:(dw).C w A n xs) (hl:n<1000000):
  Calls Tryz.prog 75 #[.slice A n c] w fun e w'=> ∃ v,e= .returned v∧(dw).R 121 w' w.heap.size (fun k=>w.heap.size≤k) v xs∧Below w.heap.size w w':=by
 have HR:=Am_ hr
 cases A with
 | none=>
  have hx:xs= []:=by
   have h1:=hr.1
   cases xs with
   | nil=>rfl
   | cons p q=>
    obtain ⟨ad,h2,_⟩:=hr.2.2 (by rw [←h1];simp)
    cases h2
  subst hx
  clear hr HR
  go_enter Tryz.func75,Tryz.ntmps75
  go_wp2_with fail
  go_ret
  exact ⟨_,rfl,Kd.fI _ _ _ _ _,Below.refl _ _⟩
 | some ad=>
  clear hr
  have HE:=Am_ (mM (dw) 121 w w.heap.size (Nat.le_refl _))
  have HB:=Am_ (ai (Below.refl w.heap.size w) (.cells #[] 121))
  have HC:=Am_ (Kd.bO HR.out (ai (Below.refl _ _) (.cells #[] 121)))
  go_enter Tryz.func75,Tryz.ntmps75
  go_wp2_with (first | ((with_reducible refine bW (b:= .append) (xs:= #[.tmp 5,.tmp 6]) rfl ?_);at_builtin;refine Kd.fM (dw) (w0:=w) w.heap.size rfl (.tmp 5) (.tmp 6) 26 121 (.agg #[.int .i64 0,.int .i64 0]) 16 rfl Tryz.underlying26 ji rfl (by decide) (by omega) (.slice (some ⟨w.heap.size,0,none⟩) 0 0) [] xs (some ad) n c (fun k=>w.heap.size≤k) (fun _=>False) rfl rfl HE.out HC.out (fun _ _ h=>h) (fun _ hk=>hk.elim) (fun k hk=>by simp at hk;omega) HB.out (by simp) (by simp;omega) ?_;intro v5 w5 ho hb5 hg hat;have HO:=Am_ ho;have HB5:=Am_ hb5;clear ho hb5 hg hat HE HB HC))
  go_ret
  exact ⟨_,rfl,HO.out,HB5.out⟩
theorem nD:(Tryz.prog.info? 2).map (fun i=>(i.zero,i.size,i.bytes))=some (some (.int .i64 0),1,8):=by kernel_rfl
theorem DW (a:Option Addr) (l c:Nat) (w:World):(binOp .eql 22 (.slice a l c) (.slice none 0 0)).run Tryz.prog w= .ok (.bool a.isNone) w:=run_eql_slice_nil _ _ a l c w Tryz.underlying22
attribute [local go_sem] DW
theorem jg (A:Option Addr) (n c:Nat) (xs:List (Int)) (w:World) (hr:(Kd.int .i64).C w A n xs) (hl:n<1000000):
  Calls Tryz.prog 143 #[.slice A n c] w fun e w'=> ∃ v,e= .returned v∧(Kd.int .i64).R 2 w' w.heap.size (fun k=>w.heap.size≤k) v xs∧Below w.heap.size w w':=by
 have HR:=Am_ hr
 cases A with
 | none=>
  have hx:xs= []:=by
   have h1:=hr.1
   cases xs with
   | nil=>rfl
   | cons p q=>
    obtain ⟨ad,h2,_⟩:=hr.2.2 (by rw [←h1];simp)
    cases h2
  subst hx
  clear hr HR
  go_enter Tryz.func143,Tryz.ntmps143
  go_wp2_with fail
  go_ret
  exact ⟨_,rfl,Kd.fI _ _ _ _ _,Below.refl _ _⟩
 | some ad=>
  clear hr
  have HE:=Am_ (mM (Kd.int .i64) 2 w w.heap.size (Nat.le_refl _))
  have HB:=Am_ (ai (Below.refl w.heap.size w) (.cells #[] 2))
  have HC:=Am_ (Kd.bO HR.out (ai (Below.refl _ _) (.cells #[] 2)))
  go_enter Tryz.func143,Tryz.ntmps143
  go_wp2_with (first | ((with_reducible refine bW (b:= .append) (xs:= #[.tmp 5,.tmp 6]) rfl ?_);at_builtin;refine Kd.fM (Kd.int .i64) (w0:=w) w.heap.size rfl (.tmp 5) (.tmp 6) 22 2 (.int .i64 0) 8 rfl Tryz.underlying22 nD rfl (by decide) (by omega) (.slice (some ⟨w.heap.size,0,none⟩) 0 0) [] xs (some ad) n c (fun k=>w.heap.size≤k) (fun _=>False) rfl rfl HE.out HC.out (fun _ _ h=>h) (fun _ hk=>hk.elim) (fun k hk=>by simp at hk;omega) HB.out (by simp) (by simp;omega) ?_;intro v5 w5 ho hb5 hg hat;have HO:=Am_ ho;have HB5:=Am_ hb5;clear ho hb5 hg hat HE HB HC))
  go_ret
  exact ⟨_,rfl,HO.out,HB5.out⟩
theorem nH:(Tryz.prog.info? 45).map (fun i=>(i.zero,i.size,i.bytes))=some (some (.int .i64 0),1,8):=by kernel_rfl
theorem DX (a:Option Addr) (l c:Nat) (w:World):(binOp .eql 153 (.slice a l c) (.slice none 0 0)).run Tryz.prog w= .ok (.bool a.isNone) w:=run_eql_slice_nil _ _ a l c w Tryz.underlying153
attribute [local go_sem] DX
theorem gP (A:Option Addr) (n c:Nat) (xs:List (Int)) (w:World) (hr:(Kd.int .i64).C w A n xs) (hl:n<1000000):
  Calls Tryz.prog 144 #[.slice A n c] w fun e w'=> ∃ v,e= .returned v∧(Kd.int .i64).R 45 w' w.heap.size (fun k=>w.heap.size≤k) v xs∧Below w.heap.size w w':=by
 have HR:=Am_ hr
 cases A with
 | none=>
  have hx:xs= []:=by
   have h1:=hr.1
   cases xs with
   | nil=>rfl
   | cons p q=>
    obtain ⟨ad,h2,_⟩:=hr.2.2 (by rw [←h1];simp)
    cases h2
  subst hx
  clear hr HR
  go_enter Tryz.func144,Tryz.ntmps144
  go_wp2_with fail
  go_ret
  exact ⟨_,rfl,Kd.fI _ _ _ _ _,Below.refl _ _⟩
 | some ad=>
  clear hr
  have HE:=Am_ (mM (Kd.int .i64) 45 w w.heap.size (Nat.le_refl _))
  have HB:=Am_ (ai (Below.refl w.heap.size w) (.cells #[] 45))
  have HC:=Am_ (Kd.bO HR.out (ai (Below.refl _ _) (.cells #[] 45)))
  go_enter Tryz.func144,Tryz.ntmps144
  go_wp2_with (first | ((with_reducible refine bW (b:= .append) (xs:= #[.tmp 5,.tmp 6]) rfl ?_);at_builtin;refine Kd.fM (Kd.int .i64) (w0:=w) w.heap.size rfl (.tmp 5) (.tmp 6) 153 45 (.int .i64 0) 8 rfl Tryz.underlying153 nH rfl (by decide) (by omega) (.slice (some ⟨w.heap.size,0,none⟩) 0 0) [] xs (some ad) n c (fun k=>w.heap.size≤k) (fun _=>False) rfl rfl HE.out HC.out (fun _ _ h=>h) (fun _ hk=>hk.elim) (fun k hk=>by simp at hk;omega) HB.out (by simp) (by simp;omega) ?_;intro v5 w5 ho hb5 hg hat;have HO:=Am_ ho;have HB5:=Am_ hb5;clear ho hb5 hg hat HE HB HC))
  go_ret
  exact ⟨_,rfl,HO.out,HB5.out⟩
end Go.Proofs.YtmnjjdeaccgjlaaGreat.Tower
namespace Go.Proofs.YtmnjjdeaccgjlaaGreat.Tower
open Go Go.RowKit Go.Proofs.YtmnjjdeaccgjlaaGreatW.PrintWords Go.Proofs.YtmnjjdeaccgjlaaGreatW.PrintLast Go.Proofs.YtmnjjdeaccgjlaaGreatW.PrintMore Go.Proofs.YtmnjjdeaccgjlaaGreat.Own
structure Nd where
 inner:Bool
 tagged:Bool
 pairs:List (Int × Int)
 keys:List Int
 ways:List Int
structure Sl where
 node:Nd
 ways:List Int
 info:Int
 mark:Bool
 count:Int
 used:Bool
structure Ar where
 slots:List Sl
 free:List Int
 most:Int
 used:Int
 faults:Int
structure Lv where
 p:Value
 k:Value
 n:Value
 w:Value
def cB (s:Sl) (l:Lv):List Value:= [.bool s.node.inner,.bool s.node.tagged,l.p,l.k,l.n,l.w,.int .i64 s.info,.bool s.mark,.int .u32 s.count,.bool s.used]
def rowsOf (ss:List Sl) (lv:Nat→Lv):List (List Value):=ss.zipIdx.map fun q=>cB q.1 (lv q.2)
theorem bZ (ss:List Sl) (lv:Nat→Lv):(rowsOf ss lv).length=ss.length:=by simp [rowsOf]
theorem pF {ss:List Sl} {lv:Nat→Lv} {i:Nat} {s:Sl} (h:ss[i]?=some s):(rowsOf ss lv)[i]?=some (cB s (lv i)):=by
 simp [rowsOf,List.getElem?_zipIdx,h]
theorem pG {ss:List Sl} {lv lv1:Nat→Lv} {i:Nat} {s:Sl} (hi:i<ss.length) (hl: ∀ j,j≠i→lv1 j=lv j):rowsOf (ss.set i s) lv1=(rowsOf ss lv).set i (cB s (lv1 i)):=by
 refine List.ext_getElem? fun j=>?_
 by_cases hj:i=j
 ·subst hj
  simp [rowsOf,List.getElem?_zipIdx,hi]
 ·simp only [rowsOf,List.getElem?_map,List.getElem?_zipIdx,List.getElem?_set,if_neg hj]
  cases hs:ss[j]? with
  | none=>simp
  | some q=>simp [hl j (fun e=>hj e.symm)]
def SlF {α:Type} (d:Kd α) (w:World) (ok:Nat→Prop) (v:Value) (xs:List α):Prop:= ∃ A c,v= .slice A xs.length c∧xs.length≤c∧d.F w ok A xs.length xs
theorem SlF.step {α:Type} {d:Kd α} {w w1:World} {ok:Nat→Prop} {v:Value} {xs:List α} (h:SlF d w ok v xs) (hm: ∀ k,ok k→k<w.heap.size→w1.heap[k]?=w.heap[k]?):SlF d w1 ok v xs:=by
 obtain ⟨A,c,rfl,hc,hf⟩:=h
 exact ⟨A,c,rfl,hc,Kd.eU hf hm⟩
theorem SlF.mono {α:Type} {d:Kd α} {w:World} {ok ok1:Nat→Prop} {v:Value} {xs:List α} (h:SlF d w ok v xs) (hk: ∀ k,ok k→k<w.heap.size→ok1 k):SlF d w ok1 v xs:=by
 obtain ⟨A,c,rfl,hc,hf⟩:=h
 exact ⟨A,c,rfl,hc,Kd.dh (Kd.dX hf) (fun k h=>hk k h.1 h.2)⟩
def qR (w:World) (ok:Nat→Prop) (n:Nd) (l:Lv):Prop:=SlF dw w ok l.p n.pairs∧SlF (Kd.int .i64) w ok l.k n.keys∧SlF (Kd.int .i64) w ok l.n n.ways
structure bT (ok:Nat→Prop) (pA:Nat) (sv fv:Value) (lv:Nat→Lv) (ρ:Nat→Nat) (a:Ar) (w:World):Prop where
 own:ok pA
 role:ρ pA=0
 lt: ∀ k,ok k→k<w.heap.size
 box:w.heap[pA]?=some (.cells #[sv,fv,.int .i64 a.most,.int .i64 a.used,.int .i64 a.faults] 126 (0,0))
 rows:(Kd.raw 10).R 209 w 0 (fun k=>ok k∧ρ k=1) sv (rowsOf a.slots lv)
 free:(Kd.int .i64).Q 3 w 0 (fun k=>ok k∧ρ k=2) fv a.free
 node: ∀ i s,a.slots[i]?=some s→qR w (fun k=>ok k∧ρ k=3) s.node (lv i)
 ways: ∀ i s,a.slots[i]?=some s→(Kd.int .i64).R 45 w 0 (fun k=>ok k∧ρ k=4+i) (lv i).w s.ways
section
variable {ok:Nat→Prop} {pA:Nat} {sv fv:Value} {lv:Nat→Lv} {ρ:Nat→Nat} {a:Ar} {w w1:World}
theorem bT.step (h:bT ok pA sv fv lv ρ a w) (hs:w.heap.size≤w1.heap.size) (hm: ∀ k,ok k→k<w.heap.size→w1.heap[k]?=w.heap[k]?):bT ok pA sv fv lv ρ a w1 where
 own:=h.own
 role:=h.role
 lt:=fun k hk=>Nat.lt_of_lt_of_le (h.lt k hk) hs
 box:=(hm pA h.own (h.lt pA h.own)).trans h.box
 rows:=Kd.bQ h.rows (fun k hk hlt=>hm k hk.1 hlt)
 free:=Kd.jS h.free (fun k hk hlt=>hm k hk.1 hlt)
 node:=fun i s hi=>⟨(h.node i s hi).1.step (fun k hk hlt=>hm k hk.1 hlt),(h.node i s hi).2.1.step (fun k hk hlt=>hm k hk.1 hlt),(h.node i s hi).2.2.step (fun k hk hlt=>hm k hk.1 hlt)⟩
 ways:=fun i s hi=>Kd.bQ (h.ways i s hi) (fun k hk hlt=>hm k hk.1 hlt)
theorem bT.qd (h:bT ok pA sv fv lv ρ a w) (j:Nat) (u:Value) (a1:Ar) (hs:a1.slots=a.slots) (hf:a1.free=a.free)
  (hc:(#[sv,fv,.int .i64 a.most,.int .i64 a.used,.int .i64 a.faults]:Array Value).setIfInBounds j u= #[sv,fv,.int .i64 a1.most,.int .i64 a1.used,.int .i64 a1.faults]):
  bT ok pA sv fv lv ρ a1 (w.setCell ⟨pA,j,none⟩ u) where
 own:=h.own
 role:=h.role
 lt:=fun k hk=>by simpa [World.setCell] using h.lt k hk
 box:=by rw [←hc];exact bH h.box j u
 rows:=by rw [hs];exact Kd.bV h.rows (fun k hk e=>by have:=h.role;rw [←show k=pA from e,hk.2] at this;omega) u
 free:=by rw [hf];exact Kd.pW h.free (fun k hk e=>by have:=h.role;rw [←show k=pA from e,hk.2] at this;omega) u
 node:=fun i s hi=>by
  rw [hs] at hi
  have hn:=h.node i s hi
  have hm: ∀ k,(ok k∧ρ k=3)→k<w.heap.size→(w.setCell ⟨pA,j,none⟩ u).heap[k]?=w.heap[k]?:=fun k hk _=>Below.heap_setCell w ⟨pA,j,none⟩ u k (fun e=>by have:=h.role;rw [←show k=pA from e,hk.2] at this;omega)
  exact ⟨hn.1.step hm,hn.2.1.step hm,hn.2.2.step hm⟩
 ways:=fun i s hi=>by
  rw [hs] at hi
  exact Kd.bV (h.ways i s hi) (fun k hk e=>by have:=h.role;rw [←show k=pA from e,hk.2] at this;omega) u
theorem bT.cells {n cap:Nat} {ad:Option Addr} (h:bT ok pA (.slice ad n cap) fv lv ρ a w) {i:Nat} {s:Sl} (hi:a.slots[i]?=some s):
  n=a.slots.length∧ ∃ g,ad=some ⟨g,0,none⟩∧ok g∧ρ g=1∧(∀ j u,(cB s (lv i))[j]?=some u→w.cell? ⟨g,i*10+j,none⟩=some u)∧ ∀ j,w.frozen? ⟨g,i*10+j,none⟩=false:=by
 have hr:=Kd.bM h.rows
 have hn:n=a.slots.length:=by rw [hr.1,bZ]
 have hil:=(List.getElem?_eq_some_iff.1 hi).1
 refine ⟨hn,?_⟩
 cases ad with
 | none=>
  obtain ⟨_,inner,ho,_⟩:=h.rows
  rcases ho.2 with ⟨hv,h0⟩ | ⟨g,c1,cur,hv,_⟩
  ·rw [bZ] at h0;omega
  ·cases hv
 | some ad=>
  obtain ⟨g,rfl⟩:=Kd.oP h.rows
  obtain ⟨c,hcl,hM,hcc,hfz⟩:=Kd.lW h.rows [] (i:Int) (by omega) (by omega)
  have hg:=h.rows.1 g (by simp [Value.ownBlock])
  have he:(rowsOf a.slots lv).getD (i:Int).toNat []=cB s (lv i):=by simp [List.getD_eq_getElem?_getD,pF hi]
  rw [he] at hM
  have hc:c=cB s (lv i):=hM.1
  subst hc
  exact ⟨g,rfl,hg.1,hg.2,fun j u hu=>by simpa [Kd.raw] using hcc j u hu,fun j=>by simpa [Kd.raw] using hfz j⟩
end
theorem bT.mono {ok ok1:Nat→Prop} {pA:Nat} {sv fv:Value} {lv:Nat→Lv} {ρ ρ1:Nat→Nat} {a:Ar} {w:World} (h:bT ok pA sv fv lv ρ a w) (hok: ∀ k,ok k→ok1 k) (hlt: ∀ k,ok1 k→k<w.heap.size) (hρ: ∀ k,ok k→ρ1 k=ρ k):bT ok1 pA sv fv lv ρ1 a w where
 own:=hok _ h.own
 role:=(hρ _ h.own).trans h.role
 lt:=hlt
 box:=h.box
 rows:=Kd.bq h.rows (fun k hk=>⟨hok k hk.1,(hρ k hk.1).trans hk.2⟩)
 free:=Kd.lV h.free (fun k hk=>⟨hok k hk.1,(hρ k hk.1).trans hk.2⟩)
 node:=fun i s hi=>⟨(h.node i s hi).1.mono (fun k hk _=>⟨hok k hk.1,(hρ k hk.1).trans hk.2⟩),(h.node i s hi).2.1.mono (fun k hk _=>⟨hok k hk.1,(hρ k hk.1).trans hk.2⟩),(h.node i s hi).2.2.mono (fun k hk _=>⟨hok k hk.1,(hρ k hk.1).trans hk.2⟩)⟩
 ways:=fun i s hi=>Kd.bq (h.ways i s hi) (fun k hk=>⟨hok k hk.1,(hρ k hk.1).trans hk.2⟩)
theorem qB {w:World} {ok:Nat→Prop} {s:Sl} {l:Lv} {base:Nat} {e:Nat} {ok1:Nat→Prop} (hn:qR w ok s.node l) (hw:(Kd.int .i64).R e w base ok1 l.w s.ways): ∀ u∈cB s l,u.oneCell'=true:=by
 obtain ⟨⟨Ap,cp,ep,_⟩,⟨Ak,ck,ek,_⟩,⟨Ay,cy,ey,_⟩⟩:=hn
 obtain ⟨Aw,cw,ew⟩:=Kd.aJ hw
 intro u hu
 simp only [cB,ep,ek,ey,ew,List.mem_cons,List.not_mem_nil,or_false] at hu
 rcases hu with rfl | rfl | rfl | rfl | rfl | rfl | rfl | rfl | rfl | rfl<;>rfl
theorem bT.seg {ok:Nat→Prop} {pA g n cap:Nat} {fv:Value} {lv:Nat→Lv} {ρ:Nat→Nat} {a:Ar} {w:World} (h:bT ok pA (.slice (some ⟨g,0,none⟩) n cap) fv lv ρ a w) {i:Nat} {s:Sl} (hi:a.slots[i]?=some s)
  (j:Nat) (seg:List Value) (hj:j+seg.length≤10) (s1:Sl) (lv1:Nat→Lv) (hl: ∀ k,k≠i→lv1 k=lv k)
  (hc:cB s1 (lv1 i)=(cB s (lv i)).take j++seg++(cB s (lv i)).drop (j+seg.length))
  (hn:qR w (fun k=>ok k∧ρ k=3) s1.node (lv1 i)) (hw:(Kd.int .i64).R 45 w 0 (fun k=>ok k∧ρ k=4+i) (lv1 i).w s1.ways):
  bT ok pA (.slice (some ⟨g,0,none⟩) n cap) fv lv1 ρ { a with slots:=a.slots.set i s1 } (w.setCells g (i*10+j) seg):=by
 obtain ⟨hnl,g0,e0,hg,hρ,hcc,hfz⟩:=h.cells hi
 injection e0 with e0
 injection e0 with e0 _ _
 subst e0
 have hil:=(List.getElem?_eq_some_iff.1 hi).1
 obtain ⟨_,_,_,hsz⟩:=dM g seg (i*10+j) w
 have hfar: ∀ k,k≠g→(w.setCells g (i*10+j) seg).heap[k]?=w.heap[k]?:=fun k hk=>aW seg _ k hk
 have hne: ∀ k,ρ k≠1→k≠g:=fun k hk e=>hk (e▸hρ)
 have hrow:=(Kd.yR (okp:=fun _=>False) h.rows (i:Int) (by omega) (by omega) (c:=cB s (lv i)) (seg:=seg) (j:=j) (by simp [cB,Kd.raw]) (by simpa [Kd.raw] using hcc) (by simpa [Kd.raw] using hj) (x':=cB s1 (lv1 i)) (by exact ⟨hc.symm,by rw [←hc];rfl,by rw [←hc];exact qB hn hw⟩) (fun k hk=>hk.elim)).1
 have hset:(rowsOf a.slots lv).set (i:Int).toNat (cB s1 (lv1 i))=rowsOf (a.slots.set i s1) lv1:=by
  rw [pG hil hl]
  simp
 rw [hset] at hrow
 have hrow':(Kd.raw 10).R 209 (w.setCells g (i*10+j) seg) 0 (fun k=>ok k∧ρ k=1) (.slice (some ⟨g,0,none⟩) n cap) (rowsOf (a.slots.set i s1) lv1):=by simpa [Kd.raw] using hrow
 have hmove: ∀ r,r≠1→ ∀ k,(ok k∧ρ k=r)→k<w.heap.size→(w.setCells g (i*10+j) seg).heap[k]?=w.heap[k]?:=fun r hr k hk _=>hfar k (hne k (by rw [hk.2];exact hr))
 have hget: ∀ {i1:Nat} {s2:Sl},(a.slots.set i s1)[i1]?=some s2→(i1=i∧s2=s1)∨(i1≠i∧a.slots[i1]?=some s2):=fun {i1 s2} h2=>by
  by_cases he:i=i1
  ·subst he
   rw [List.getElem?_set_self hil] at h2
   injection h2 with h2
   exact .inl ⟨rfl,h2.symm⟩
  ·rw [List.getElem?_set_ne he] at h2
   exact .inr ⟨fun e=>he e.symm,h2⟩
 exact {
  own:=h.own
  role:=h.role
  lt:=fun k hk=>by rw [hsz];exact h.lt k hk
  box:=(hfar pA (hne pA (by rw [h.role];decide))).trans h.box
  rows:=hrow'
  free:=Kd.jS h.free (hmove 2 (by decide))
  node:=fun i1 s2 h2=>by
   rcases hget h2 with ⟨rfl,rfl⟩ | ⟨hi1,h2⟩
   ·exact ⟨hn.1.step (hmove 3 (by decide)),hn.2.1.step (hmove 3 (by decide)),hn.2.2.step (hmove 3 (by decide))⟩
   ·rw [hl i1 hi1]
    have hn:=h.node i1 s2 h2
    exact ⟨hn.1.step (hmove 3 (by decide)),hn.2.1.step (hmove 3 (by decide)),hn.2.2.step (hmove 3 (by decide))⟩
  ways:=fun i1 s2 h2=>by
   rcases hget h2 with ⟨rfl,rfl⟩ | ⟨hi1,h2⟩
   ·exact Kd.bQ hw (hmove _ (by omega))
   ·rw [hl i1 hi1]
    exact Kd.bQ (h.ways i1 s2 h2) (hmove _ (by omega)) }
def dn (ok:Nat→Prop) (pA:Nat) (a:Ar) (w:World):Prop:= ∃ sv fv lv ρ,bT ok pA sv fv lv ρ a w
section
variable {n e base m c g:Nat} {w:World} {ok:Nat→Prop} {A:Option Addr} {rows:List (List Value)} {r:List Value} {i:Nat}
theorem nU (h:(Kd.raw n).R e w base ok (.slice A m c) rows) (hi:rows[i]?=some r):
  m=rows.length∧r.length=n∧(∀ u∈r,u.oneCell'=true)∧ ∃ g,A=some ⟨g,0,none⟩∧ok g∧(∀ j u,r[j]?=some u→w.cell? ⟨g,i*n+j,none⟩=some u)∧ ∀ j,w.frozen? ⟨g,i*n+j,none⟩=false:=by
 have hr:=Kd.bM h
 have hn:m=rows.length:=hr.1
 have hil:=(List.getElem?_eq_some_iff.1 hi).1
 cases A with
 | none=>
  obtain ⟨_,inner,ho,_⟩:=h
  rcases ho.2 with ⟨hv,h0⟩ | ⟨g,c1,cur,hv,_⟩
  ·omega
  ·cases hv
 | some ad=>
  obtain ⟨g,rfl⟩:=Kd.oP h
  obtain ⟨cs,hcl,hM,hcc,hfz⟩:=Kd.lW h [] (i:Int) (by omega) (by omega)
  have hg:=h.1 g (by simp [Value.ownBlock])
  have he:rows.getD (i:Int).toNat []=r:=by simp [List.getD_eq_getElem?_getD,hi]
  rw [he] at hM
  obtain ⟨hc,hl,h1⟩:=hM
  subst hc
  exact ⟨hn,hl,h1,g,rfl,hg,fun j u hu=>by simpa [Kd.raw] using hcc j u hu,fun j=>by simpa [Kd.raw] using hfz j⟩
theorem IY {v u:Value} (h:(Kd.raw 1).R e w base ok v rows) (hi:rows[i]?=some [u]):
  ∃ g c,v= .slice (some ⟨g,0,none⟩) rows.length c∧ok g∧w.cell? ⟨g,i,none⟩=some u∧w.frozen? ⟨g,i,none⟩=false:=by
 obtain ⟨A,c,rfl⟩:=Kd.aJ h
 obtain ⟨_,_,_,g,rfl,h1,h2,h3⟩:=nU h hi
 have h4:=h2 0 u rfl
 have h5:=h3 0
 rw [Nat.mul_one,Nat.add_zero] at h4 h5
 exact ⟨g,c,rfl,h1,h4,h5⟩
theorem kS {u:Value} (h:(Kd.raw 1).R e w base ok (.slice (some ⟨g,0,none⟩) m c) rows) (hi:rows[i]?=some [u]):m=rows.length∧ok g∧w.cell? ⟨g,i,none⟩=some u∧w.frozen? ⟨g,i,none⟩=false:=by
 obtain ⟨g1,c1,e1,h1,h2,h3⟩:=IY h hi
 injection e1 with e1 e2 _
 injection e1 with e1
 injection e1 with e1 _ _
 subst e1
 exact ⟨e2,h1,h2,h3⟩
theorem IZ (h:(Kd.raw n).R e w base ok (.slice (some ⟨g,0,none⟩) m c) rows) (hi:rows[i]?=some r) {j:Nat} {u:Value} (hu:r[j]?=some u):w.cell? ⟨g,i*n+j,none⟩=some u∧w.frozen? ⟨g,i*n+j,none⟩=false∧ok g:=by
 obtain ⟨_,_,_,g1,e1,h1,h2,h3⟩:=nU h hi
 injection e1 with e1
 injection e1 with e1 _ _
 subst e1
 exact ⟨h2 j u hu,h3 j,h1⟩
theorem uN (h:(Kd.raw n).R e w base ok (.slice (some ⟨g,0,none⟩) m c) rows) (hi:rows[i]?=some r) {j:Nat} (hj:j<n) {u:Value} (hu:u.oneCell'=true):
  (Kd.raw n).R e (w.setCell ⟨g,i*n+j,none⟩ u) base ok (.slice (some ⟨g,0,none⟩) m c) (rows.set i (r.set j u)):=by
 obtain ⟨hn,hl,h1,g0,e0,hg,hcc,hfz⟩:=nU h hi
 injection e0 with e0
 injection e0 with e0 _ _
 subst e0
 have hil:=(List.getElem?_eq_some_iff.1 hi).1
 have hx:r.set j u=r.take j++ [u]++r.drop (j+1):=by rw [List.set_eq_take_append_cons_drop,if_pos (by omega)];simp
 have hrow:=(Kd.yR (okp:=fun _=>False) h (i:Int) (by omega) (by omega) (c:=r) (seg:= [u]) (j:=j) (by simpa [Kd.raw] using hl) (by simpa [Kd.raw] using hcc) (by show j+1≤n;omega) (x':=r.set j u) (by
  refine ⟨hx.symm,?_,?_⟩
  ·rw [←hl];simp;omega
  ·intro v hv
   have hv2:v∈r.set j u:=by rw [hx];exact hv
   rcases List.mem_or_eq_of_mem_set hv2 with h2 | h2
   ·exact h1 v h2
   ·rw [h2];exact hu) (fun k hk=>hk.elim)).1
 rw [Int.toNat_natCast] at hrow
 exact hrow
end
theorem Gy (k:Nat) (h:k<1000000000):wrap64 ((k:Int)+1)=((k+1:Nat):Int):=by unfold wrap64;omega
theorem below_setCells {n:Nat} {w w1:World} (h:Below n w w1) (g j:Nat) (seg:List Value) (hg:n≤g):Below n w (w1.setCells g j seg):=by
 obtain ⟨s1,s2,s3,s4⟩:=dM g seg j w1
 exact ⟨s1.trans h.os,s2.trans h.tape,s3.trans h.output,by rw [s4];exact h.size,fun k hk=>(aW seg j k (fun e=>by omega)).trans (h.block k hk)⟩
def jQ (i c:Int):Int:=Go.bits .or .i64 (wrap64 ((wrap64 (Go.bits .and .u32 c 8388607))*1099511627776)) (Go.bits .and .i64 (wrap64 (i+1)) 1099511627775)
def dF (r:Int):Int:=wrap64 (Go.bits .and .i64 r 1099511627775 - 1)
theorem vX (i c:Int) (w:World):Calls Tryz.prog 145 #[.int .i64 i,.int .u32 c] w fun e w'=>e= .returned (.int .i64 (jQ i c))∧w'=w:=by
 go_enter Tryz.func145,Tryz.ntmps145
 go_wp2
 go_ret
 exact ⟨rfl,rfl⟩
theorem jl (r:Int) (w:World):Calls Tryz.prog 166 #[.int .i64 r] w fun e w'=>e= .returned (.int .i64 (dF r))∧w'=w:=by
 go_enter Tryz.func166,Tryz.ntmps166
 go_wp2
 go_ret
 exact ⟨rfl,rfl⟩
theorem KO {ok:Nat→Prop} {pA g n cap:Nat} {fv:Value} {lv:Nat→Lv} {ρ:Nat→Nat} {a:Ar} (r:Int) (i:Nat) (s:Sl) (w:World) (h:bT ok pA (.slice (some ⟨g,0,none⟩) n cap) fv lv ρ a w)
  (hi:a.slots[i]?=some s) (hp:dF r=(i:Int)) (hu:s.used=true) (hr:jQ i s.count=r) (hl:a.slots.length<1000000):
  Calls Tryz.prog 127 #[.pointer (some ⟨pA,0,none⟩),.int .i64 r] w fun e w'=>e= .returned (.pointer (some ⟨g,i*10,none⟩))∧w'=w:=by
 obtain ⟨rfl,g0,e0,hg,hρ,hcc,hfz⟩:=h.cells hi
 injection e0 with e0
 injection e0 with e0 _ _
 subst e0
 have hil:=(List.getElem?_eq_some_iff.1 hi).1
 have HP:=Am_ hp
 have HR:=Am_ hr
 have c0:w.cell? ⟨pA,0,none⟩=some (.slice (some ⟨g,0,none⟩) a.slots.length cap):=(af h.box 0).trans rfl
 have c8:w.cell? ⟨g,i*10+8,none⟩=some (.int .u32 s.count):=hcc 8 _ rfl
 have c9:w.cell? ⟨g,i*10+9,none⟩=some (.bool true):=hcc 9 _ (by rw [←hu];rfl)
 have d1:decide ((i:Int)≥0)=true:=decide_eq_true (by omega)
 have d1':decide ((0:Int)≤i)=true:=decide_eq_true (by omega)
 have d2:decide ((i:Int)<(a.slots.length:Int))=true:=decide_eq_true (by omega)
 have d2':decide (i<a.slots.length)=true:=decide_eq_true hil
 have b1:(0:Int)≤(i:Int):=by omega
 have b2:(i:Int)<(a.slots.length:Int):=by omega
 have heq:(r == r)=true:=beq_self_eq_true r
 clear h hcc hfz hp hr hu hi
 go_enter Tryz.func127,Tryz.ntmps127
 go_wp2_with (first | (go_at_call 166;refine (jl r _).mono ?_;rintro e w1 ⟨rfl,rfl⟩;rw [HP.out]) | (go_at_call 145;refine (vX i s.count _).mono ?_;rintro e w1 ⟨rfl,rfl⟩;rw [HR.out]))
 go_ret
 exact ⟨rfl,rfl⟩
theorem tC {ok:Nat→Prop} {pA:Nat} {sv fv:Value} {lv:Nat→Lv} {ρ:Nat→Nat} {a:Ar} (r p:Int) (w:World) (h:bT ok pA sv fv lv ρ a w) (hp:dF r=p) (hn:p<0) (hl:a.slots.length<1000000):
  Calls Tryz.prog 127 #[.pointer (some ⟨pA,0,none⟩),.int .i64 r] w fun e w'=>e= .returned (.pointer none)∧w'=w.setCell ⟨pA,4,none⟩ (.int .i64 (wrap64 (a.faults+1))):=by
 obtain ⟨ad,cap,rfl⟩:=Kd.aJ h.rows
 rw [bZ] at h
 have HP:=Am_ hp
 have c0:w.cell? ⟨pA,0,none⟩=some (.slice ad a.slots.length cap):=(af h.box 0).trans rfl
 have c4:w.cell? ⟨pA,4,none⟩=some (.int .i64 a.faults):=(af h.box 4).trans rfl
 have f4:=ah h.box 4
 have d1:decide (p≥0)=false:=decide_eq_false (by omega)
 have d1':decide (0≤p)=false:=decide_eq_false (by omega)
 clear h hp
 go_enter Tryz.func127,Tryz.ntmps127
 go_wp2_with (first | (go_at_call 166;refine (jl r _).mono ?_;rintro e w1 ⟨rfl,rfl⟩;rw [HP.out]))
 go_ret
 exact ⟨rfl,rfl⟩
theorem tu {ok:Nat→Prop} {pA:Nat} {sv fv:Value} {lv:Nat→Lv} {ρ:Nat→Nat} {a:Ar} (r p:Int) (w:World) (h:bT ok pA sv fv lv ρ a w) (hp:dF r=p) (h0:0≤p) (hn:(a.slots.length:Int)≤p) (hl:a.slots.length<1000000):
  Calls Tryz.prog 127 #[.pointer (some ⟨pA,0,none⟩),.int .i64 r] w fun e w'=>e= .returned (.pointer none)∧w'=w.setCell ⟨pA,4,none⟩ (.int .i64 (wrap64 (a.faults+1))):=by
 obtain ⟨ad,cap,rfl⟩:=Kd.aJ h.rows
 rw [bZ] at h
 have HP:=Am_ hp
 have c0:w.cell? ⟨pA,0,none⟩=some (.slice ad a.slots.length cap):=(af h.box 0).trans rfl
 have c4:w.cell? ⟨pA,4,none⟩=some (.int .i64 a.faults):=(af h.box 4).trans rfl
 have f4:=ah h.box 4
 have d1:decide (p≥0)=true:=decide_eq_true (by omega)
 have d1':decide (0≤p)=true:=decide_eq_true (by omega)
 have d2:decide (p<(a.slots.length:Int))=false:=decide_eq_false (by omega)
 clear h hp
 go_enter Tryz.func127,Tryz.ntmps127
 go_wp2_with (first | (go_at_call 166;refine (jl r _).mono ?_;rintro e w1 ⟨rfl,rfl⟩;rw [HP.out]))
 go_ret
 exact ⟨rfl,rfl⟩
theorem qX {ok:Nat→Prop} {pA:Nat} {sv fv:Value} {lv:Nat→Lv} {ρ:Nat→Nat} {a:Ar} (r:Int) (w:World) (h:bT ok pA sv fv lv ρ a w) (i:Nat) (s:Sl) (hp:dF r=(i:Int)) (hi:a.slots[i]?=some s) (hu:s.used=false) (hl:a.slots.length<1000000):
  Calls Tryz.prog 127 #[.pointer (some ⟨pA,0,none⟩),.int .i64 r] w fun e w'=>e= .returned (.pointer none)∧w'=w.setCell ⟨pA,4,none⟩ (.int .i64 (wrap64 (a.faults+1))):=by
 obtain ⟨ad,cap,rfl⟩:=Kd.aJ h.rows
 rw [bZ] at h
 obtain ⟨_,g,rfl,hg,hρ,hcc,hfz⟩:=h.cells hi
 have hil:=(List.getElem?_eq_some_iff.1 hi).1
 have HP:=Am_ hp
 have c0:w.cell? ⟨pA,0,none⟩=some (.slice (some ⟨g,0,none⟩) a.slots.length cap):=(af h.box 0).trans rfl
 have c4:w.cell? ⟨pA,4,none⟩=some (.int .i64 a.faults):=(af h.box 4).trans rfl
 have f4:=ah h.box 4
 have c9:w.cell? ⟨g,i*10+9,none⟩=some (.bool false):=hcc 9 _ (by rw [←hu];rfl)
 have d1:decide ((i:Int)≥0)=true:=decide_eq_true (by omega)
 have d1':decide ((0:Int)≤i)=true:=decide_eq_true (by omega)
 have d2:decide ((i:Int)<(a.slots.length:Int))=true:=decide_eq_true (by omega)
 have d2':decide (i<a.slots.length)=true:=decide_eq_true hil
 have b1:(0:Int)≤(i:Int):=by omega
 have b2:(i:Int)<(a.slots.length:Int):=by omega
 clear h hp hcc hfz hi hu
 go_enter Tryz.func127,Tryz.ntmps127
 go_wp2_with (first | (go_at_call 166;refine (jl r _).mono ?_;rintro e w1 ⟨rfl,rfl⟩;rw [HP.out]))
 go_ret
 exact ⟨rfl,rfl⟩
theorem tF {ok:Nat→Prop} {pA:Nat} {sv fv:Value} {lv:Nat→Lv} {ρ:Nat→Nat} {a:Ar} (r:Int) (w:World) (h:bT ok pA sv fv lv ρ a w) (i:Nat) (s:Sl) (hp:dF r=(i:Int)) (hi:a.slots[i]?=some s) (hu:s.used=true) (r1:Int) (hr:jQ i s.count=r1) (hne:r1≠r) (hl:a.slots.length<1000000):
  Calls Tryz.prog 127 #[.pointer (some ⟨pA,0,none⟩),.int .i64 r] w fun e w'=>e= .returned (.pointer none)∧w'=w.setCell ⟨pA,4,none⟩ (.int .i64 (wrap64 (a.faults+1))):=by
 obtain ⟨ad,cap,rfl⟩:=Kd.aJ h.rows
 rw [bZ] at h
 obtain ⟨_,g,rfl,hg,hρ,hcc,hfz⟩:=h.cells hi
 have hil:=(List.getElem?_eq_some_iff.1 hi).1
 have HP:=Am_ hp
 have c0:w.cell? ⟨pA,0,none⟩=some (.slice (some ⟨g,0,none⟩) a.slots.length cap):=(af h.box 0).trans rfl
 have c4:w.cell? ⟨pA,4,none⟩=some (.int .i64 a.faults):=(af h.box 4).trans rfl
 have f4:=ah h.box 4
 have c9:w.cell? ⟨g,i*10+9,none⟩=some (.bool true):=hcc 9 _ (by rw [←hu];rfl)
 have c8:w.cell? ⟨g,i*10+8,none⟩=some (.int .u32 s.count):=hcc 8 _ rfl
 have HR:=Am_ hr
 have heq:(r1 == r)=false:=beq_false_of_ne hne
 have d1:decide ((i:Int)≥0)=true:=decide_eq_true (by omega)
 have d1':decide ((0:Int)≤i)=true:=decide_eq_true (by omega)
 have d2:decide ((i:Int)<(a.slots.length:Int))=true:=decide_eq_true (by omega)
 have d2':decide (i<a.slots.length)=true:=decide_eq_true hil
 have b1:(0:Int)≤(i:Int):=by omega
 have b2:(i:Int)<(a.slots.length:Int):=by omega
 clear h hp hcc hfz hi hu hr hne
 go_enter Tryz.func127,Tryz.ntmps127
 go_wp2_with (first | (go_at_call 166;refine (jl r _).mono ?_;rintro e w1 ⟨rfl,rfl⟩;rw [HP.out]) | (go_at_call 145;refine (vX i s.count _).mono ?_;rintro e w1 ⟨rfl,rfl⟩;rw [HR.out]))
 go_ret
 exact ⟨rfl,rfl⟩
def Ar.idx (a:Ar) (r:Int):Option Nat:=
 if dF r<0 then none
 else match a.slots[(dF r).toNat]? with
  | none=>none
  | some s=>if s.used=true then (if jQ (dF r) s.count=r then some (dF r).toNat else none) else none
def Ar.fault (a:Ar):Ar:= { a with faults:=wrap64 (a.faults+1) }
theorem Ar.fV {a:Ar} {r:Int} {i:Nat} (h:a.idx r=some i):dF r=(i:Int)∧ ∃ s,a.slots[i]?=some s∧s.used=true∧jQ i s.count=r:=by
 unfold Ar.idx at h
 by_cases hn:dF r<0
 ·rw [if_pos hn] at h;cases h
 ·rw [if_neg hn] at h
  cases hs:a.slots[(dF r).toNat]? with
  | none=>rw [hs] at h;cases h
  | some s=>
   rw [hs] at h
   simp only at h
   by_cases hu:s.used=true
   ·rw [if_pos hu] at h
    by_cases hr:jQ (dF r) s.count=r
    ·rw [if_pos hr] at h
     injection h with h
     have hp:dF r=(i:Int):=by omega
     rw [hp] at hr
     rw [h] at hs
     exact ⟨hp,s,hs,hu,hr⟩
    ·rw [if_neg hr] at h;cases h
   ·rw [if_neg hu] at h;cases h
structure Fp (sv:Value) (pA:Nat) (a:Ar) (r:Int) (w:World) (e:Ending) (w1:World):Prop where
 hit: ∀ i,a.idx r=some i→ ∃ g n cap,sv= .slice (some ⟨g,0,none⟩) n cap∧e= .returned (.pointer (some ⟨g,i*10,none⟩))∧w1=w
 miss:a.idx r=none→e= .returned (.pointer none)∧w1=w.setCell ⟨pA,4,none⟩ (.int .i64 (wrap64 (a.faults+1)))
theorem iD {ok:Nat→Prop} {pA:Nat} {sv fv:Value} {lv:Nat→Lv} {ρ:Nat→Nat} {a:Ar} (r:Int) (w:World) (h:bT ok pA sv fv lv ρ a w) (hl:a.slots.length<1000000):
  Calls Tryz.prog 127 #[.pointer (some ⟨pA,0,none⟩),.int .i64 r] w (Fp sv pA a r w):=by
 cases hx:a.idx r with
 | some i=>
  obtain ⟨hp,s,hs,hu,hr⟩:=Ar.fV hx
  obtain ⟨ad,cap,rfl⟩:=Kd.aJ h.rows
  obtain ⟨hn,g,rfl,_⟩:=h.cells hs
  refine (KO r i s w h hs hp hu hr hl).mono ?_
  rintro e w1 ⟨rfl,rfl⟩
  exact ⟨fun j hj=>by rw [hx] at hj;injection hj with hj;subst hj;exact ⟨g,_,cap,rfl,rfl,rfl⟩,fun hj=>by rw [hx] at hj;cases hj⟩
 | none=>
  have fin: ∀ {e w1},(e= .returned (.pointer none)∧w1=w.setCell ⟨pA,4,none⟩ (.int .i64 (wrap64 (a.faults+1))))→Fp sv pA a r w e w1:=fun hh=>⟨fun j hj=>(by rw [hx] at hj;cases hj),fun _=>hh⟩
  unfold Ar.idx at hx
  by_cases hn:dF r<0
  ·exact (tC r _ w h rfl hn hl).mono (fun e w1 hh=>fin hh)
  ·rw [if_neg hn] at hx
   cases hs:a.slots[(dF r).toNat]? with
   | none=>
    refine (tu r _ w h rfl (by omega) ?_ hl).mono (fun e w1 hh=>fin hh)
    have:=List.getElem?_eq_none_iff.1 hs
    omega
   | some s=>
    rw [hs] at hx
    simp only at hx
    have hp:dF r=((dF r).toNat:Int):=by omega
    by_cases hu:s.used=true
    ·rw [if_pos hu] at hx
     by_cases hr:jQ (dF r) s.count=r
     ·rw [if_pos hr] at hx;cases hx
     ·refine (tF r w h (dF r).toNat s hp hs hu _ rfl ?_ hl).mono (fun e w1 hh=>fin hh)
      rw [←hp]
      exact hr
    ·exact (qX r w h (dF r).toNat s hp hs (by simpa using hu) hl).mono (fun e w1 hh=>fin hh)
structure wB (ok:Nat→Prop) (pA:Nat) (v:Value) (a1:Ar) (w:World) (e:Ending) (w1:World):Prop where
 val:e= .returned v
 ar:dn ok pA a1 w1
 moves:Moves ok ok w w1
theorem iX {ok:Nat→Prop} {pA:Nat} {sv fv:Value} {lv:Nat→Lv} {ρ:Nat→Nat} {a:Ar} {w:World} (h:bT ok pA sv fv lv ρ a w):dn ok pA a.fault (w.setCell ⟨pA,4,none⟩ (.int .i64 (wrap64 (a.faults+1))))∧Moves ok ok w (w.setCell ⟨pA,4,none⟩ (.int .i64 (wrap64 (a.faults+1)))):=
 ⟨⟨sv,fv,lv,ρ,h.qd 4 _ a.fault rfl rfl rfl⟩,(Moves.refl ok w).set (p:=⟨pA,4,none⟩) (.inl h.own) _⟩
def Ar.way (a:Ar) (r i:Int):Int × Ar:=
 match a.idx r with
 | none=>(0,a.fault)
 | some j=>match a.slots[j]? with
  | none=>(0,a)
  | some s=>(if i<0 then 0 else if (s.ways.length:Int)≤i then 0 else s.ways.getD i.toNat 0,a)
theorem oo {ok:Nat→Prop} {pA:Nat} {a:Ar} (r i:Int) (w:World) (h:dn ok pA a w) (hl:a.slots.length<1000000):
  Calls Tryz.prog 74 #[.pointer (some ⟨pA,0,none⟩),.int .i64 r,.int .i64 i] w (wB ok pA (.int .i64 (a.way r i).1) (a.way r i).2 w):=by
 obtain ⟨sv,fv,lv,ρ,h⟩:=h
 have HA:=Am_ (iD r w h hl)
 cases hx:a.idx r with
 | none=>
  have HF:=Am_ (iX h)
  have HX:=Am_ hx
  have e1:a.way r i=(0,a.fault):=by simp [Ar.way,hx]
  rw [e1]
  clear h hx e1
  go_enter Tryz.func74,Tryz.ntmps74
  go_wp2_with (go_at_call 127;refine HA.out.mono ?_;rintro e w1 ⟨_,hm⟩;obtain ⟨rfl,rfl⟩:=hm HX.out;clear hm)
  go_ret
  exact ⟨rfl,HF.out.1,HF.out.2⟩
 | some j=>
  obtain ⟨hp,s,hs,hu,hr⟩:=Ar.fV hx
  obtain ⟨ad,cap,rfl⟩:=Kd.aJ h.rows
  obtain ⟨hn,g,rfl,hg,hρ,hcc,hfz⟩:=h.cells hs
  have HX:=Am_ hx
  have HI:=Am_ h
  have hR:=h.ways j s hs
  obtain ⟨Aw,cw,ew⟩:=Kd.aJ hR
  have c5:w.cell? ⟨g,j*10+5,none⟩=some (.slice Aw s.ways.length cw):=hcc 5 _ (by rw [←ew];rfl)
  have e1:a.way r i=(if i<0 then 0 else if (s.ways.length:Int)≤i then 0 else s.ways.getD i.toNat 0,a):=by simp [Ar.way,hx,hs]
  rw [e1]
  rw [ew] at hR
  by_cases h0:i<0
  ·rw [if_pos h0]
   have d1:decide (i<0)=true:=decide_eq_true h0
   clear h hx hcc hfz hp hs hu hr e1 ew hR h0
   go_enter Tryz.func74,Tryz.ntmps74
   go_wp2_with (go_at_call 127;refine HA.out.mono ?_;rintro e w1 ⟨hm,_⟩;obtain ⟨g1,n1,cap1,e1,rfl,rfl⟩:=hm j HX.out;injection e1 with e1 _ _;injection e1 with e1;injection e1 with e1 _ _;subst e1;clear hm)
   go_ret
   exact ⟨rfl,⟨_,_,_,_,HI.out⟩,Moves.refl _ _⟩
  ·rw [if_neg h0]
   have d1:decide (i<0)=false:=decide_eq_false h0
   by_cases h1:(s.ways.length:Int)≤i
   ·rw [if_pos h1]
    have d2:decide (i≥(s.ways.length:Int))=true:=decide_eq_true h1
    have d2':decide ((s.ways.length:Int)≤i)=true:=decide_eq_true h1
    clear h hx hcc hfz hp hs hu hr e1 ew hR h0 h1
    go_enter Tryz.func74,Tryz.ntmps74
    go_wp2_with (go_at_call 127;refine HA.out.mono ?_;rintro e w1 ⟨hm,_⟩;obtain ⟨g1,n1,cap1,e1,rfl,rfl⟩:=hm j HX.out;injection e1 with e1 _ _;injection e1 with e1;injection e1 with e1 _ _;subst e1;clear hm)
    go_ret
    exact ⟨rfl,⟨_,_,_,_,HI.out⟩,Moves.refl _ _⟩
   ·rw [if_neg h1]
    have d2:decide (i≥(s.ways.length:Int))=false:=decide_eq_false h1
    have d2':decide ((s.ways.length:Int)≤i)=false:=decide_eq_false h1
    have b1:0≤i:=by omega
    have b2:i<(s.ways.length:Int):=by omega
    obtain ⟨gl,rfl,_,hcl⟩:=kK hR i b1 b2
    generalize s.ways.getD i.toNat 0=v at hcl ⊢
    clear h hx hcc hfz hp hs hu hr e1 ew hR h0 h1
    go_enter Tryz.func74,Tryz.ntmps74
    go_wp2_with (go_at_call 127;refine HA.out.mono ?_;rintro e w1 ⟨hm,_⟩;obtain ⟨g1,n1,cap1,e1,rfl,rfl⟩:=hm j HX.out;injection e1 with e1 _ _;injection e1 with e1;injection e1 with e1 _ _;subst e1;clear hm)
    go_ret
    exact ⟨rfl,⟨_,_,_,_,HI.out⟩,Moves.refl _ _⟩
theorem dn.step {ok:Nat→Prop} {pA:Nat} {a:Ar} {w w1:World} (h:dn ok pA a w) (hs:w.heap.size≤w1.heap.size) (hm: ∀ k,ok k→k<w.heap.size→w1.heap[k]?=w.heap[k]?):dn ok pA a w1:=by
 obtain ⟨sv,fv,lv,ρ,h⟩:=h
 exact ⟨sv,fv,lv,ρ,h.step hs hm⟩
theorem rY {P:Program} {fn:Func} {p:Tmp} {ty:TypeId} (h:fn.results= #[.cell p ty]) (tmps:Array Value) (w:World) (g:Nat) (t:TypeId) (cs:Array Value) (fr:Nat × Nat) (d:TypeDesc)
  (hp:tmps.getD p undef= .pointer (some ⟨g,0,none⟩)) (hg:w.heap[g]?=some (.cells cs t fr))
  (hu:P.underlying ty=some d) (hd:(match d with | .struct _ | .array _ _=>true | _=>false)=true) (hi:(P.info? ty).map (·.size)=some cs.size):
  (results fn tmps).run P w= .ok (.agg cs) w:=by
 have hp':tmps[p]?.getD undef= .pointer (some ⟨g,0,none⟩):=by simpa using hp
 simp [results,h,hp',asAddr,run_loadVar_row w g t ty cs fr d hg hu hd hi]
def Gs (w:World) (b:Nat) (v0 v1 v2 v3 v4:Value):World:=((((w.setCell ⟨b,0,none⟩ v0).setCell ⟨b,1,none⟩ v1).setCell ⟨b,2,none⟩ v2).setCell ⟨b,3,none⟩ v3).setCell ⟨b,4,none⟩ v4
theorem jA (w:World) (b:Nat) (v0 v1 v2 v3 v4:Value) (k:Nat) (hk:k≠b):(Gs w b v0 v1 v2 v3 v4).heap[k]?=w.heap[k]?:=
 (Below.heap_setCell _ ⟨b,4,none⟩ v4 k hk).trans ((Below.heap_setCell _ ⟨b,3,none⟩ v3 k hk).trans ((Below.heap_setCell _ ⟨b,2,none⟩ v2 k hk).trans ((Below.heap_setCell _ ⟨b,1,none⟩ v1 k hk).trans (Below.heap_setCell _ ⟨b,0,none⟩ v0 k hk))))
theorem og (w:World) (b:Nat) (v0 v1 v2 v3 v4:Value):(Gs w b v0 v1 v2 v3 v4).heap.size=w.heap.size:=by simp [Gs,World.setCell]
theorem vY {w:World} {b t:Nat} {u0 u1 u2 u3 u4:Value} (h:w.heap[b]?=some (.cells #[u0,u1,u2,u3,u4] t (0,0))) (v0 v1 v2 v3 v4:Value):(Gs w b v0 v1 v2 v3 v4).heap[b]?=some (.cells #[v0,v1,v2,v3,v4] t (0,0)):=
 bH (bH (bH (bH (bH h 0 v0) 1 v1) 2 v2) 3 v3) 4 v4
theorem lM {ok ok1:Nat→Prop} {w0 w:World} (h:Moves ok ok1 w0 w) {b:Nat} (hb:w0.heap.size≤b) (v0 v1 v2 v3 v4:Value):Moves ok ok1 w0 (Gs w b v0 v1 v2 v3 v4):=
 ((((h.set (p:=⟨b,0,none⟩) (.inr hb) v0).set (p:=⟨b,1,none⟩) (.inr hb) v1).set (p:=⟨b,2,none⟩) (.inr hb) v2).set (p:=⟨b,3,none⟩) (.inr hb) v3).set (p:=⟨b,4,none⟩) (.inr hb) v4
def nd0:Nd:=⟨false,false,[],[],[]⟩
def Ar.look (a:Ar) (r:Int):Nd × Ar:=
 match a.idx r with
 | none=>(nd0,a.fault)
 | some j=>match a.slots[j]? with
  | none=>(nd0,a)
  | some s=>(s.node,a)
structure CX (N:Nat) (n:Nd) (v:Value) (w:World):Prop where
 out: ∃ p k y,v= .agg #[.bool n.inner,.bool n.tagged,p,k,y]∧dw.R 121 w N (fun q=>N≤q) p n.pairs∧(Kd.int .i64).R 2 w N (fun q=>N≤q) k n.keys∧(Kd.int .i64).R 45 w N (fun q=>N≤q) y n.ways
structure pU (ok:Nat→Prop) (pA:Nat) (n:Nd) (a1:Ar) (w:World) (e:Ending) (w1:World):Prop where
 val: ∃ v,e= .returned v∧CX w.heap.size n v w1
 ar:dn ok pA a1 w1
 moves:Moves ok ok w w1
def FV:Bool × List (List Nat × List Nat):=(true,[([],[]),([0],[0]),([1],[1]),([],[]),([3],[3]),([4],[4]),([5,2],[5]),([],[]),([7],[7]),([8],[8]),([9,6],[9]),([6,10],[6,10]),([0,1,2,3,4,5,7,8,9],[]),([12,2,10,0,1,2,3,4,5,7,8,9],[2,12]),([0,1,2,3,4,5,6,7,8,9,10,11,12,13],[]),([14,11,13,0,1,2,3,4,5,6,7,8,9,10,11,12,13],[11,14])])
def JZ:List Nat:= [0,1,3,0,8,24,63,0,128,384,1023,2047,959,6143,16383,32767]
theorem EX:fq .any (opsOf Tryz.f126 5)=FV:=by kernel_rfl
theorem zW:bA FV.2 JZ=true:=by kernel_rfl
theorem Bn {ok:Nat→Prop} {pA:Nat} {a:Ar} (r:Int) (w:World) (h:dn ok pA a w) (hl:a.slots.length<1000000) (hx:a.idx r=none):
  Calls Tryz.prog 126 #[.pointer (some ⟨pA,0,none⟩),.int .i64 r] w (pU ok pA nd0 a.fault w):=by
 obtain ⟨sv,fv,lv,ρ,h⟩:=h
 have h1:=h.step (w1:=w.alloc (.cells #[.bool false,.bool false,.slice none 0 0,.slice none 0 0,.slice none 0 0] 157)) (by simp) (fun k _ hlt=>Below.heap_alloc _ _ _ hlt)
 have HA:=Am_ (iD r _ h1 hl)
 have HF:=Am_ (iX h1)
 have HX:=Am_ hx
 have hB:=Am_ (cO (bU w (.cells #[.bool false,.bool false,.slice none 0 0,.slice none 0 0,.slice none 0 0] 157)) (p:=⟨pA,4,none⟩) (Nat.ne_of_gt (h.lt pA h.own)) (.int .i64 (wrap64 (a.faults+1))))
 have HM:=Am_ ((Moves.refl ok w).alloc (.cells #[.bool false,.bool false,.slice none 0 0,.slice none 0 0,.slice none 0 0] 157))
 have HN:ak (¬ ok w.heap.size):=⟨fun hk=>by have:=h.lt _ hk;omega⟩
 clear h hx h1
 go_enter Tryz.func126,Tryz.ntmps126
 go_upto_region 1 with fail
 generalize hW:w.alloc (.cells #[.bool false,.bool false,.slice none 0 0,.slice none 0 0,.slice none 0 0] 157)=w1 at HA HF hB HM ⊢
 go_upto_region 3 with (go_at_call 127;refine HA.out.mono ?_;rintro e w2 ⟨_,hm⟩;obtain ⟨rfl,rfl⟩:=hm HX.out;clear hm)
 have HSZ:ak (w.heap.size≤w1.heap.size):=⟨HM.out.size⟩
 have HM2:=Am_ (HM.out.trans HF.out.2)
 have HI2:=Am_ HF.out.1
 have k0:=(af hB.out 0).trans (rfl:_=some (Value.bool false))
 have k1:=(af hB.out 1).trans (rfl:_=some (Value.bool false))
 have k2:=(af hB.out 2).trans (rfl:_=some (Value.slice none 0 0))
 have k3:=(af hB.out 3).trans (rfl:_=some (Value.slice none 0 0))
 have k4:=(af hB.out 4).trans (rfl:_=some (Value.slice none 0 0))
 have z0:=ah hB.out 0
 have z1:=ah hB.out 1
 have z2:=ah hB.out 2
 have z3:=ah hB.out 3
 have z4:=ah hB.out 4
 clear HF HM hW
 generalize w1.setCell ⟨pA,4,none⟩ (.int .i64 (wrap64 (a.faults+1)))=w2 at hB HM2 HI2 k0 k1 k2 k3 k4 z0 z1 z2 z3 z4 ⊢
 go_wp2_with fail
 show bodyPost _ _ _ _ _ (Gs w2 w.heap.size (.bool false) (.bool false) (.slice none 0 0) (.slice none 0 0) (.slice none 0 0))
 refine bodyPost_ret (rY rfl _ _ w.heap.size 157 _ (0,0) _ rfl (vY hB.out _ _ _ _ _) Tryz.underlying157 rfl (by kernel_rfl)) rfl ?_
 refine ⟨⟨_,rfl,⟨_,_,_,rfl,Kd.fI _ _ _ _ _,Kd.fI _ _ _ _ _,Kd.fI _ _ _ _ _⟩⟩,HI2.out.step (by rw [og];exact Nat.le_refl _) (fun k hk _=>jA _ _ _ _ _ _ _ k (fun e=>HN.out (e▸hk))),lM HM2.out (Nat.le_refl _) _ _ _ _ _⟩
theorem Eh {ok:Nat→Prop} {pA:Nat} {a:Ar} (r:Int) (j:Nat) (s:Sl) (w:World) (h:dn ok pA a w) (hl:a.slots.length<1000000) (hx:a.idx r=some j) (hs:a.slots[j]?=some s)
  (hp:s.node.pairs.length<1000000) (hk:s.node.keys.length<1000000) (hy:s.node.ways.length<1000000):
  Calls Tryz.prog 126 #[.pointer (some ⟨pA,0,none⟩),.int .i64 r] w (pU ok pA s.node a w):=by
 obtain ⟨sv,fv,lv,ρ,h⟩:=h
 have h1:=h.step (w1:=w.alloc (.cells #[.bool false,.bool false,.slice none 0 0,.slice none 0 0,.slice none 0 0] 157)) (by simp) (fun k _ hlt=>Below.heap_alloc _ _ _ hlt)
 have HA:=Am_ (iD r _ h1 hl)
 have HX:=Am_ hx
 have HL:=Am_ h.lt
 have HI:=Am_ h1
 have hB:=Am_ (bU w (.cells #[.bool false,.bool false,.slice none 0 0,.slice none 0 0,.slice none 0 0] 157))
 have HM:=Am_ ((Moves.refl ok w).alloc (.cells #[.bool false,.bool false,.slice none 0 0,.slice none 0 0,.slice none 0 0] 157))
 have HN:ak (¬ ok w.heap.size):=⟨fun hk=>by have:=h.lt _ hk;omega⟩
 obtain ⟨⟨Ap,cp,ep,hcp,hfp⟩,⟨Ak,ck,ek,hck,hfk⟩,⟨Ay,cy,ey,hcy,hfy⟩⟩:=h1.node j s hs
 obtain ⟨ad,cap,rfl⟩:=Kd.aJ h1.rows
 obtain ⟨hn,g,rfl,hg,hρ,hcc,hfz⟩:=h1.cells hs
 have q0:=hcc 0 _ rfl
 have q1:=hcc 1 _ rfl
 have q2:=hcc 2 _ rfl
 have q3:=hcc 3 _ rfl
 have q4:=hcc 4 _ rfl
 rw [ep] at q2
 rw [ek] at q3
 rw [ey] at q4
 rw [Nat.add_zero] at q0
 have HFp:=Am_ hfp
 have HFk:=Am_ hfk
 have HFy:=Am_ hfy
 clear h h1 hx hcc hfz hs hfp hfk hfy
 go_enter Tryz.func126,Tryz.ntmps126
 go_upto_region 1 with fail
 generalize w.alloc (.cells #[.bool false,.bool false,.slice none 0 0,.slice none 0 0,.slice none 0 0] 157)=w1 at HA HI hB HM HFp HFk HFy q0 q1 q2 q3 q4 ⊢
 go_upto_region 5 with (go_at_call 127;refine HA.out.mono ?_;rintro e w2 ⟨hm,_⟩;obtain ⟨g1,n1,cap1,e1,rfl,rfl⟩:=hm j HX.out;injection e1 with e1 _ _;injection e1 with e1;injection e1 with e1 _ _;subst e1;clear hm)
 have n0_:=Am_ (HI.out.step (w1:=w2.alloc (.cells #[.bool s.node.inner,.bool s.node.tagged,.slice Ap s.node.pairs.length cp,.slice Ak s.node.keys.length ck,.slice Ay s.node.ways.length cy] 157)) (by simp) (fun k _ hlt=>Below.heap_alloc _ _ _ hlt))
 have n1_:=Am_ (aC hB.out (.cells #[.bool s.node.inner,.bool s.node.tagged,.slice Ap s.node.pairs.length cp,.slice Ak s.node.keys.length ck,.slice Ay s.node.ways.length cy] 157))
 have n2_:=Am_ (HM.out.alloc (.cells #[.bool s.node.inner,.bool s.node.tagged,.slice Ap s.node.pairs.length cp,.slice Ak s.node.keys.length ck,.slice Ay s.node.ways.length cy] 157))
 have n3_:=Am_ (Kd.eD HFp.out (.cells #[.bool s.node.inner,.bool s.node.tagged,.slice Ap s.node.pairs.length cp,.slice Ak s.node.keys.length ck,.slice Ay s.node.ways.length cy] 157))
 have n4_:=Am_ (Kd.eD HFk.out (.cells #[.bool s.node.inner,.bool s.node.tagged,.slice Ap s.node.pairs.length cp,.slice Ak s.node.keys.length ck,.slice Ay s.node.ways.length cy] 157))
 have n5_:=Am_ (Kd.eD HFy.out (.cells #[.bool s.node.inner,.bool s.node.tagged,.slice Ap s.node.pairs.length cp,.slice Ak s.node.keys.length ck,.slice Ay s.node.ways.length cy] 157))
 have n6_:=Am_ (bU w2 (.cells #[.bool s.node.inner,.bool s.node.tagged,.slice Ap s.node.pairs.length cp,.slice Ak s.node.keys.length ck,.slice Ay s.node.ways.length cy] 157))
 have hb6:ak (w.heap.size<w2.heap.size):=⟨bD hB.out⟩
 clear HI hB HM HFp HFk HFy q0 q1 q2 q3 q4 HA
 generalize w2.alloc (.cells #[.bool s.node.inner,.bool s.node.tagged,.slice Ap s.node.pairs.length cp,.slice Ak s.node.keys.length ck,.slice Ay s.node.ways.length cy] 157)=w3 at n0_ n1_ n2_ n3_ n4_ n5_ n6_ ⊢
 generalize w2.heap.size=b6 at n6_ hb6 ⊢
 refine jL (n:=16) (S:=fun w'=>w'.cell? ⟨b6,2,none⟩=some (.slice Ap s.node.pairs.length cp)∧w'.cell? ⟨b6,3,none⟩=some (.slice Ak s.node.keys.length ck)∧w'.cell? ⟨b6,4,none⟩=some (.slice Ay s.node.ways.length cy)) (ds:= [13,15]) #[N_,N_,N_,N_,N_,N_,N_,N_,N_,N_,N_,N_,N_,N_,N_,N_] (by kernel_rfl) rfl rfl ⟨(af n6_.out 2).trans rfl,(af n6_.out 3).trans rfl,(af n6_.out 4).trans rfl⟩ (fun hHeld=>?_);refine fU EX zW (fun HT_ HW_=>?_)
 have n0_:=Am_ (n0_.out.step (w1:=w3.drew) (Nat.le_refl _) (fun _ _ _=>rfl))
 have n2_:=Am_ n2_.out.drew
 have n3_:=Am_ (Kd.jB n3_.out)
 have n4_:=Am_ (Kd.jB n4_.out)
 have n5_:=Am_ (Kd.jB n5_.out)
 have n1_:=Am_ (aI n1_.out)
 have n6_:=Am_ (aI n6_.out)
 generalize World.drew _=w3 at n0_ n1_ n2_ n3_ n4_ n5_ n6_ hHeld ⊢
 refine bS (i:=0) (N:=(some 17)) (v:=?_) (a':=?_) #[Y_,N_,N_,N_,N_,N_,N_,N_,N_,N_,N_,N_,N_,N_,N_,N_] rfl rfl (bf HT_.out (by kernel_rfl)) (fun _ _ _ h=>h) (Or.inl ⟨by rfl,?_⟩) ?_ ?_
 rotate_left; · intro w';go_simp;with_reducible rfl
 rotate_left; · simp only [Act.put,u1_,u2_,u3_,ax,ay];rfl
 refine fw (i:=1) (N:=(some 18)) (v:=?_) (a':=?_) #[Y_,Y_,N_,N_,N_,N_,N_,N_,N_,N_,N_,N_,N_,N_,N_,N_] rfl rfl (bN HT_.out HW_.out (by kernel_rfl)) (fun _ _ _ h=>h) (Or.inl ⟨by rfl,?_⟩) hHeld ?_ ?_
 rotate_left; · rintro w' ⟨s0,s1,s2⟩;go_simp;with_reducible rfl
 rotate_left; · simp only [Act.put,u1_,u2_,u3_,ax,ay];rfl
 refine bS (i:=3) (N:=(some 20)) (v:=?_) (a':=?_) #[Y_,Y_,N_,Y_,N_,N_,N_,N_,N_,N_,N_,N_,N_,N_,N_,N_] rfl rfl (bf HT_.out (by kernel_rfl)) (fun _ _ _ h=>h) (Or.inl ⟨by rfl,?_⟩) ?_ ?_
 rotate_left; · intro w';go_simp;with_reducible rfl
 rotate_left; · simp only [Act.put,u1_,u2_,u3_,ax,ay];rfl
 refine bS (i:=4) (N:=(some 21)) (v:=?_) (a':=?_) #[Y_,Y_,N_,Y_,Y_,N_,N_,N_,N_,N_,N_,N_,N_,N_,N_,N_] rfl rfl (bf HT_.out (by kernel_rfl)) (fun _ _ _ h=>h) (Or.inl ⟨by rfl,?_⟩) ?_ ?_
 rotate_left; · intro w';go_simp;with_reducible rfl
 rotate_left; · simp only [Act.put,u1_,u2_,u3_,ax,ay];rfl
 refine fw (i:=5) (N:=(some 22)) (v:=?_) (a':=?_) #[Y_,Y_,N_,Y_,Y_,Y_,N_,N_,N_,N_,N_,N_,N_,N_,N_,N_] rfl rfl (bN HT_.out HW_.out (by kernel_rfl)) (fun _ _ _ h=>h) (Or.inl ⟨by rfl,?_⟩) hHeld ?_ ?_
 rotate_left; · rintro w' ⟨s0,s1,s2⟩;go_simp;with_reducible rfl
 rotate_left; · simp only [Act.put,u1_,u2_,u3_,ax,ay];rfl
 refine bS (i:=7) (N:=(some 24)) (v:=?_) (a':=?_) #[Y_,Y_,N_,Y_,Y_,Y_,N_,Y_,N_,N_,N_,N_,N_,N_,N_,N_] rfl rfl (bf HT_.out (by kernel_rfl)) (fun _ _ _ h=>h) (Or.inl ⟨by rfl,?_⟩) ?_ ?_
 rotate_left; · intro w';go_simp;with_reducible rfl
 rotate_left; · simp only [Act.put,u1_,u2_,u3_,ax,ay];rfl
 refine bS (i:=8) (N:=(some 25)) (v:=?_) (a':=?_) #[Y_,Y_,N_,Y_,Y_,Y_,N_,Y_,Y_,N_,N_,N_,N_,N_,N_,N_] rfl rfl (bf HT_.out (by kernel_rfl)) (fun _ _ _ h=>h) (Or.inl ⟨by rfl,?_⟩) ?_ ?_
 rotate_left; · intro w';go_simp;with_reducible rfl
 rotate_left; · simp only [Act.put,u1_,u2_,u3_,ax,ay];rfl
 refine fw (i:=9) (N:=(some 26)) (v:=?_) (a':=?_) #[Y_,Y_,N_,Y_,Y_,Y_,N_,Y_,Y_,Y_,N_,N_,N_,N_,N_,N_] rfl rfl (bN HT_.out HW_.out (by kernel_rfl)) (fun _ _ _ h=>h) (Or.inl ⟨by rfl,?_⟩) hHeld ?_ ?_
 rotate_left; · rintro w' ⟨s0,s1,s2⟩;go_simp;with_reducible rfl
 rotate_left; · simp only [Act.put,u1_,u2_,u3_,ax,ay];rfl
 refine nS (i:=2) (N:=(some 19)) #[Y_,Y_,Y_,Y_,Y_,Y_,N_,Y_,Y_,Y_,N_,N_,N_,N_,N_,N_] rfl rfl (dV HT_.out (by kernel_rfl)) (by decide) (fun K_ hK=>?_)
 refine call_ 75 #[.slice Ap s.node.pairs.length cp] (by rfl) rfl ?hrun2 ?_
 (case hrun2=>first | (go_simp;done) | (go_simp;exact enters Tryz.func75 (by kernel_rfl) rfl _ _))
 refine (fZ Ap s.node.pairs.length cp s.node.pairs _ (Kd.gu n3_.out) hp).mono ?_
 rintro e w4 ⟨v4,rfl,hR4,hB4⟩
 obtain ⟨A4,cc4,rfl⟩:=Kd.aJ hR4
 have mr_:=Am_ hR4
 have mb_:=Am_ hB4
 have m6_:=Am_ (bF n6_.out hB4)
 have m4_:=Am_ (Kd.gY n4_.out hB4)
 have m5_:=Am_ (Kd.gY n5_.out hB4)
 clear hR4 hB4
 refine ⟨_,rfl,?_⟩
 refine hK.out _ _ ⟨(af m6_.out 2).trans rfl,(af m6_.out 3).trans rfl,(af m6_.out 4).trans rfl⟩ (fun hHeld=>?_)
 clear hK K_
 refine bK (a':=?_) ?_ ?_
 rotate_left; · show Act.put _ (some 19) _=_;simp only [Act.put,u1_,u2_,u3_,ax,ay];rfl
 refine bS (i:=12) (N:=(some 29)) (v:=?_) (a':=?_) #[Y_,Y_,Y_,Y_,Y_,Y_,N_,Y_,Y_,Y_,N_,N_,Y_,N_,N_,N_] rfl rfl (bf HT_.out (by kernel_rfl)) (fun _ _ _ h=>h) (Or.inl ⟨by rfl,?_⟩) ?_ ?_
 rotate_left; · intro w';go_simp;with_reducible rfl
 rotate_left; · simp only [Act.put,u1_,u2_,u3_,ax,ay];rfl
 refine nS (i:=6) (N:=(some 23)) #[Y_,Y_,Y_,Y_,Y_,Y_,Y_,Y_,Y_,Y_,N_,N_,Y_,N_,N_,N_] rfl rfl (dV HT_.out (by kernel_rfl)) (by decide) (fun K_ hK=>?_)
 refine call_ 143 #[.slice Ak s.node.keys.length ck] (by rfl) rfl ?hrun6 ?_
 (case hrun6=>first | (go_simp;done) | (go_simp;exact enters Tryz.func143 (by kernel_rfl) rfl _ _))
 refine (jg Ak s.node.keys.length ck s.node.keys _ (Kd.gu m4_.out) hk).mono ?_
 rintro e w5 ⟨v5,rfl,hR5,hB5⟩
 obtain ⟨A5,cc5,rfl⟩:=Kd.aJ hR5
 have jr_:=Am_ hR5
 have jb_:=Am_ hB5
 have j6_:=Am_ (bF m6_.out hB5)
 have j5_:=Am_ (Kd.gY m5_.out hB5)
 clear hR5 hB5
 refine ⟨_,rfl,?_⟩
 refine hK.out _ _ ⟨(af j6_.out 2).trans rfl,(af j6_.out 3).trans rfl,(af j6_.out 4).trans rfl⟩ (fun hHeld=>?_)
 clear hK K_
 refine bK (a':=?_) ?_ ?_
 rotate_left; · show Act.put _ (some 23) _=_;simp only [Act.put,u1_,u2_,u3_,ax,ay];rfl
 refine nS (i:=10) (N:=(some 27)) #[Y_,Y_,Y_,Y_,Y_,Y_,Y_,Y_,Y_,Y_,Y_,N_,Y_,N_,N_,N_] rfl rfl (dV HT_.out (by kernel_rfl)) (by decide) (fun K_ hK=>?_)
 refine call_ 144 #[.slice Ay s.node.ways.length cy] (by rfl) rfl ?hrun10 ?_
 (case hrun10=>first | (go_simp;done) | (go_simp;exact enters Tryz.func144 (by kernel_rfl) rfl _ _))
 refine (gP Ay s.node.ways.length cy s.node.ways _ (Kd.gu j5_.out) hy).mono ?_
 rintro e w6 ⟨v6,rfl,hR6,hB6⟩
 obtain ⟨A6,cc6,rfl⟩:=Kd.aJ hR6
 have ir_:=Am_ hR6
 have ib_:=Am_ hB6
 have i6_:=Am_ (bF j6_.out hB6)
 clear hR6 hB6
 refine ⟨_,rfl,?_⟩
 refine hK.out _ _ ⟨(af i6_.out 2).trans rfl,(af i6_.out 3).trans rfl,(af i6_.out 4).trans rfl⟩ (fun hHeld=>?_)
 clear hK K_
 refine bK (a':=?_) ?_ ?_
 rotate_left; · show Act.put _ (some 27) _=_;simp only [Act.put,u1_,u2_,u3_,ax,ay];rfl
 refine bS (i:=11) (N:=(some 28)) (v:=?_) (a':=?_) #[Y_,Y_,Y_,Y_,Y_,Y_,Y_,Y_,Y_,Y_,Y_,Y_,Y_,N_,N_,N_] rfl rfl (bf HT_.out (by kernel_rfl)) (fun _ _ _ h=>h) (Or.inl ⟨by rfl,?_⟩) ?_ ?_
 rotate_left; · intro w';go_simp;with_reducible rfl
 rotate_left; · simp only [Act.put,u1_,u2_,u3_,ax,ay];rfl
 have z2:=ah i6_.out 2
 have z3:=ah i6_.out 3
 have z4:=ah i6_.out 4
 refine jI (i:=13) (N:=none) #[Y_,Y_,Y_,Y_,Y_,Y_,Y_,Y_,Y_,Y_,Y_,Y_,Y_,Y_,N_,N_] rfl rfl (dV HT_.out (by kernel_rfl)) (by decide) (fun K_ hK=>?_)
 refine fB (w1:=?_) (by rfl) rfl ?_ ?_
 rotate_left
 ·go_simp
  rfl
 refine hK.out _ _ ?_
 clear hK K_
 refine bS (i:=14) (N:=(some 30)) (v:=?_) (a':=?_) #[Y_,Y_,Y_,Y_,Y_,Y_,Y_,Y_,Y_,Y_,Y_,Y_,Y_,Y_,Y_,N_] rfl rfl (bf HT_.out (by kernel_rfl)) (fun _ _ _ h=>h) (Or.inl ⟨by rfl,?_⟩) ?_ ?_
 rotate_left; · intro w';go_simp;with_reducible rfl
 rotate_left; · simp only [Act.put,u1_,u2_,u3_,ax,ay];rfl
 refine jI (i:=15) (N:=none) #[Y_,Y_,Y_,Y_,Y_,Y_,Y_,Y_,Y_,Y_,Y_,Y_,Y_,Y_,Y_,Y_] rfl rfl (dV HT_.out (by kernel_rfl)) (by decide) (fun K_ hK=>?_)
 refine fB (w1:=?_) (by rfl) rfl ?_ ?_
 rotate_left
 ·go_simp
  rfl
 refine hK.out _ _ ?_
 clear hK K_
 refine dD (bI HT_.out (by kernel_rfl)) ?_
 have hOB:ak (∀ k,ok k→k≠w.heap.size∧k≠b6):=⟨fun k hk=>by have:=HL.out k hk;have:=hb6.out;omega⟩
 have B36:=aY (aY mb_.out mb_.out.size jb_.out) (aY mb_.out mb_.out.size jb_.out).size ib_.out
 have a6_:=n0_.out.step (w1:=w6) B36.size (fun k _ hlt=>B36.block k hlt)
 have a7_:=Am_ (a6_.step (w1:=((w6.setCell ⟨b6,2,none⟩ (.slice A4 s.node.pairs.length cc4)).setCell ⟨b6,3,none⟩ (.slice A5 s.node.keys.length cc5)).setCell ⟨b6,4,none⟩ (.slice A6 s.node.ways.length cc6)) (by simp [World.setCell]) (fun k hk _=>(Below.heap_setCell _ ⟨b6,4,none⟩ _ k (hOB.out k hk).2).trans ((Below.heap_setCell _ ⟨b6,3,none⟩ _ k (hOB.out k hk).2).trans (Below.heap_setCell _ ⟨b6,2,none⟩ _ k (hOB.out k hk).2))))
 have x7_:=Am_ (bH (bH (bH i6_.out 2 (.slice A4 s.node.pairs.length cc4)) 3 (.slice A5 s.node.keys.length cc5)) 4 (.slice A6 s.node.ways.length cc6))
 have hbn:w.heap.size≠b6:=by have:=hb6.out;omega
 have y7_:=Am_ (cO (cO (cO (bF n1_.out B36) (p:=⟨b6,2,none⟩) hbn (.slice A4 s.node.pairs.length cc4)) (p:=⟨b6,3,none⟩) hbn (.slice A5 s.node.keys.length cc5)) (p:=⟨b6,4,none⟩) hbn (.slice A6 s.node.ways.length cc6))
 have hbw:w.heap.size≤b6:=by have:=hb6.out;omega
 have m7_:=Am_ ((((n2_.out.below B36).set (p:=⟨b6,2,none⟩) (.inr hbw) (.slice A4 s.node.pairs.length cc4)).set (p:=⟨b6,3,none⟩) (.inr hbw) (.slice A5 s.node.keys.length cc5)).set (p:=⟨b6,4,none⟩) (.inr hbw) (.slice A6 s.node.ways.length cc6))
 have hlt3:b6<w3.heap.size:=bD n6_.out
 have hn3:w.heap.size≤w3.heap.size:=by omega
 have hq: ∀ N,w3.heap.size≤N→ ∀ q,N≤q→q≠b6:=fun N h1 q h2=>by omega
 have p7_:=Am_ (Kd.bV (Kd.bV (Kd.bV (Kd.dU (Kd.dU mr_.out jb_.out) ib_.out) (p:=⟨b6,2,none⟩) (hq _ (Nat.le_refl _)) (.slice A4 s.node.pairs.length cc4)) (p:=⟨b6,3,none⟩) (hq _ (Nat.le_refl _)) (.slice A5 s.node.keys.length cc5)) (p:=⟨b6,4,none⟩) (hq _ (Nat.le_refl _)) (.slice A6 s.node.ways.length cc6))
 have k7_:=Am_ (Kd.bV (Kd.bV (Kd.bV (Kd.dU jr_.out ib_.out) (p:=⟨b6,2,none⟩) (hq _ mb_.out.size) (.slice A4 s.node.pairs.length cc4)) (p:=⟨b6,3,none⟩) (hq _ mb_.out.size) (.slice A5 s.node.keys.length cc5)) (p:=⟨b6,4,none⟩) (hq _ mb_.out.size) (.slice A6 s.node.ways.length cc6))
 have v7_:=Am_ (Kd.bV (Kd.bV (Kd.bV ir_.out (p:=⟨b6,2,none⟩) (hq _ (Nat.le_trans mb_.out.size jb_.out.size)) (.slice A4 s.node.pairs.length cc4)) (p:=⟨b6,3,none⟩) (hq _ (Nat.le_trans mb_.out.size jb_.out.size)) (.slice A5 s.node.keys.length cc5)) (p:=⟨b6,4,none⟩) (hq _ (Nat.le_trans mb_.out.size jb_.out.size)) (.slice A6 s.node.ways.length cc6))
 have hs4:w.heap.size<w4.heap.size:=Nat.lt_of_lt_of_le (Nat.lt_of_lt_of_le hb6.out (Nat.le_of_lt hlt3)) mb_.out.size
 have hs5:w.heap.size<w5.heap.size:=Nat.lt_of_lt_of_le hs4 jb_.out.size
 have hs3:w.heap.size<w3.heap.size:=by omega
 have g3:=Am_ hs3
 have g4:=Am_ hs4
 have g5:=Am_ hs5
 clear hs3 hs4 hs5 hq hn3 hlt3 hbw hbn B36 a6_ hHeld z2 z3 z4
 generalize ((w6.setCell ⟨b6,2,none⟩ (.slice A4 s.node.pairs.length cc4)).setCell ⟨b6,3,none⟩ (.slice A5 s.node.keys.length cc5)).setCell ⟨b6,4,none⟩ (.slice A6 s.node.ways.length cc6)=w7 at a7_ x7_ y7_ m7_ p7_ k7_ v7_ ⊢
 have k0:=(af x7_.out 0).trans (rfl:_=some (Value.bool s.node.inner))
 have k1:=(af x7_.out 1).trans (rfl:_=some (Value.bool s.node.tagged))
 have k2:=(af x7_.out 2).trans (rfl:_=some (Value.slice A4 s.node.pairs.length cc4))
 have k3:=(af x7_.out 3).trans (rfl:_=some (Value.slice A5 s.node.keys.length cc5))
 have k4:=(af x7_.out 4).trans (rfl:_=some (Value.slice A6 s.node.ways.length cc6))
 have o0:=(af y7_.out 0).trans (rfl:_=some (Value.bool false))
 have o1:=(af y7_.out 1).trans (rfl:_=some (Value.bool false))
 have o2:=(af y7_.out 2).trans (rfl:_=some (Value.slice none 0 0))
 have o3:=(af y7_.out 3).trans (rfl:_=some (Value.slice none 0 0))
 have o4:=(af y7_.out 4).trans (rfl:_=some (Value.slice none 0 0))
 have z0:=ah y7_.out 0
 have z1:=ah y7_.out 1
 have z2:=ah y7_.out 2
 have z3:=ah y7_.out 3
 have z4:=ah y7_.out 4
 go_wp2_with fail
 show bodyPost _ _ _ _ _ (Gs w7 w.heap.size (.bool s.node.inner) (.bool s.node.tagged) (.slice A4 s.node.pairs.length cc4) (.slice A5 s.node.keys.length cc5) (.slice A6 s.node.ways.length cc6))
 refine bodyPost_ret (rY rfl _ _ w.heap.size 157 _ (0,0) _ rfl (vY y7_.out _ _ _ _ _) Tryz.underlying157 rfl (by kernel_rfl)) rfl ?_
 refine ⟨⟨_,rfl,⟨_,_,_,rfl,?_,?_,?_⟩⟩,⟨_,_,_,_,a7_.out.step (by rw [og];exact Nat.le_refl _) (fun k hk _=>jA _ _ _ _ _ _ _ k (hOB.out k hk).1)⟩,lM m7_.out (Nat.le_refl _) _ _ _ _ _⟩
 ·exact Kd.bq (Kd.eX (Kd.bQ p7_.out (fun k hk _=>jA _ _ _ _ _ _ _ k (by have:=g3.out;omega))) (Nat.le_of_lt g3.out)) (fun q hq=>Nat.le_trans (Nat.le_of_lt g3.out) hq)
 ·exact Kd.bq (Kd.eX (Kd.bQ k7_.out (fun k hk _=>jA _ _ _ _ _ _ _ k (by have:=g4.out;omega))) (Nat.le_of_lt g4.out)) (fun q hq=>Nat.le_trans (Nat.le_of_lt g4.out) hq)
 ·exact Kd.bq (Kd.eX (Kd.bQ v7_.out (fun k hk _=>jA _ _ _ _ _ _ _ k (by have:=g5.out;omega))) (Nat.le_of_lt g5.out)) (fun q hq=>Nat.le_trans (Nat.le_of_lt g5.out) hq)
structure Ar.Fits (a:Ar):Prop where
 slots:a.slots.length<1000000
 node: ∀ (i:Nat) (s:Sl),a.slots[i]?=some s→s.node.pairs.length<1000000∧s.node.keys.length<1000000∧s.node.ways.length<1000000∧s.ways.length<1000000
theorem lG {ok:Nat→Prop} {pA:Nat} {a:Ar} (r:Int) (w:World) (h:dn ok pA a w) (hf:a.Fits):
  Calls Tryz.prog 126 #[.pointer (some ⟨pA,0,none⟩),.int .i64 r] w (pU ok pA (a.look r).1 (a.look r).2 w):=by
 cases hx:a.idx r with
 | none=>
  have e1:a.look r=(nd0,a.fault):=by simp [Ar.look,hx]
  rw [e1]
  exact Bn r w h hf.slots hx
 | some j=>
  obtain ⟨hp,s,hs,hu,hr⟩:=Ar.fV hx
  have e1:a.look r=(s.node,a):=by simp [Ar.look,hx,hs]
  rw [e1]
  obtain ⟨h1,h2,h3,_⟩:=hf.node j s hs
  exact Eh r j s w h hf.slots hx hs h1 h2 h3
def sl0:Sl:=⟨nd0,[],0,false,0,false⟩
def lv0:Lv:=⟨.slice none 0 0,.slice none 0 0,.slice none 0 0,.slice none 0 0⟩
def Gv (n:Int):Int:=n % 4294967296
def Ar.take (a:Ar):Option (Nat × Ar):=
 match a.free with
 | f::fs=>if 0≤f∧f.toNat<a.slots.length then some (f.toNat,{ a with free:=fs }) else none
 | []=>some (a.slots.length,{ a with slots:=a.slots++ [sl0] })
def gX (n:Nd) (c:Int):Sl:=⟨n,n.ways,0,false,c,true⟩
def Ar.put (a:Ar) (i:Nat) (n:Nd) (c:Int):Ar:= { a with slots:=a.slots.set i (gX n c),used:=wrap64 (a.used+1) }
def Ar.alloc (a:Ar) (n:Nd):Option ((Int × Bool) × Ar):=
 if a.most≤a.used then some ((0,false),a)
 else match a.take with
  | none=>none
  | some (i,a1)=>match a1.slots[i]? with
   | none=>none
   | some s=>some ((jQ i (Gv (s.count+1)),true),a1.put i n (Gv (s.count+1)))
theorem gq {P:Program} {w:World} {a:Act} {o:Oper} {t:TypeId} {p x:Operand} {g o1:Nat} {e:TypeId} {cur:Array Value} (u:Value) (seg:List Value) (ho:o.op= .store t p x) (hp:a.eval p= .pointer (some ⟨g,o1,none⟩)) (hx:a.eval x=u)
  (hh:w.heap[g]?=some (.cells cur e (0,0))) (hu:u.cells.toList=seg) (ht:(P.info? t).map (·.size)=some seg.length) (hfit:o1+seg.length≤cur.size) (h1: ∀ q∈seg,q.oneCell'=true):(execOp a.eval o).run P w= .ok .skip (w.setCells g o1 seg):=by
 simp [execOp,ho,hp,hx,qz t u seg hh hu ht hfit h1]
theorem bT.block {ok:Nat→Prop} {pA g n cap:Nat} {fv:Value} {lv:Nat→Lv} {ρ:Nat→Nat} {a:Ar} {w:World} (h:bT ok pA (.slice (some ⟨g,0,none⟩) n cap) fv lv ρ a w): ∃ cur,w.heap[g]?=some (.cells cur 209 (0,0))∧a.slots.length*10≤cur.size:=by
 obtain ⟨_,inner,ho,hr⟩:=h.rows
 rcases ho.2 with ⟨hv,_⟩ | ⟨g1,c1,cur,hv,hb,hh,hnc,hcm,hcs,ht⟩
 ·cases hv
 ·have hnl:=(Kd.bM h.rows).1
  injection hv with hv hn1 hc1
  injection hv with hv
  injection hv with hv _ _
  subst hv
  rw [bZ] at hnl hnc
  refine ⟨cur,hh,?_⟩
  rw [hcs,show (Kd.raw 10).sz=10 from rfl]
  exact Nat.mul_le_mul_right _ hnc
theorem jq {ok ok1:Nat→Prop} {w w1:World} (h:Moves ok ok1 w w1) {g:Nat} (hg:ok g∨w.heap.size≤g) (o:Nat) (seg:List Value):Moves ok ok1 w (w1.setCells g o seg):=by
 obtain ⟨s1,s2,s3,s4⟩:=dM g seg o w1
 exact ⟨s1.trans h.os,s2.trans h.tape,s3.trans h.output,by rw [s4];exact h.size,fun i hi hn=>(aW seg o i (fun e=>by subst e;exact hg.elim hn (fun h2=>by omega))).trans (h.block i hi hn),h.fresh⟩
theorem SlF.nil {α:Type} (d:Kd α) (w:World) (ok:Nat→Prop):SlF d w ok (.slice none 0 0) []:=⟨none,0,rfl,Nat.le_refl _,Kd.jD _ _ _⟩
theorem bT.pushed {ok:Nat→Prop} {pA:Nat} {sv fv v1:Value} {lv:Nat→Lv} {ρ:Nat→Nat} {a:Ar} {W w1:World} (h:bT ok pA sv fv lv ρ a W) (hg:W.grownBy w1 sv.ownBlock) (hat:v1.ownBlock=sv.ownBlock∨ ∃ b,v1.ownBlock=some b∧W.heap.size≤b)
  (hr:(Kd.raw 10).R 209 w1 0 (fun k=>(ok k∧ρ k=1)∨W.heap.size≤k) v1 (rowsOf a.slots lv++ [cB sl0 lv0])):
  bT (fun k=>ok k∨(W.heap.size≤k∧k<w1.heap.size)) pA v1 fv (fun j=>if j=a.slots.length then lv0 else lv j) (fun k=>if k<W.heap.size then ρ k else 1) { a with slots:=a.slots++ [sl0] } (w1.setCell ⟨pA,0,none⟩ v1):=by
 have hpA:=h.lt pA h.own
 have hs:(w1.setCell ⟨pA,0,none⟩ v1).heap.size=w1.heap.size:=by simp [World.setCell]
 have hne: ∀ r,r≠1→ ∀ k,(ok k∧ρ k=r)→some k≠sv.ownBlock:=fun r hr1 k hk e=>by
  have:=(h.rows.1 k e.symm).2
  rw [hk.2] at this
  exact hr1 this
 have hmove: ∀ r,r≠1→r≠0→ ∀ k,(ok k∧ρ k=r)→k<W.heap.size→(w1.setCell ⟨pA,0,none⟩ v1).heap[k]?=W.heap[k]?:=fun r hr1 hr0 k hk hlt=>
  (Below.heap_setCell w1 ⟨pA,0,none⟩ v1 k (fun e=>hr0 (by rw [←hk.2,show k=pA from e,h.role]))).trans (hg.block k hlt (hne r hr1 k hk))
 have hup: ∀ r k,(ok k∧ρ k=r)→k<W.heap.size→((ok k∨(W.heap.size≤k∧k<w1.heap.size))∧(if k<W.heap.size then ρ k else 1)=r):=fun r k hk hlt=>⟨.inl hk.1,by rw [if_pos hlt];exact hk.2⟩
 have hrows:rowsOf (a.slots++ [sl0]) (fun j=>if j=a.slots.length then lv0 else lv j)=rowsOf a.slots lv++ [cB sl0 lv0]:=by
  refine List.ext_getElem? fun j=>?_
  by_cases hj:j<a.slots.length
  ·have hja:j<(a.slots++ [sl0]).length:=by simp;omega
   rw [List.getElem?_append_left (by rw [bZ];exact hj)]
   have e1:(a.slots++ [sl0])[j]?=a.slots[j]?:=List.getElem?_append_left hj
   have hjn:j≠a.slots.length:=by omega
   simp [rowsOf,List.getElem?_zipIdx,e1,hj,hjn]
  ·rw [List.getElem?_append_right (by rw [bZ];omega),bZ]
   by_cases hj2:j=a.slots.length
   ·subst hj2
    simp [rowsOf,List.getElem?_zipIdx]
   ·have e1:(a.slots++ [sl0])[j]?=none:=List.getElem?_eq_none (by simp;omega)
    have e2:([cB sl0 lv0]:List (List Value))[j - a.slots.length]?=none:=List.getElem?_eq_none (by simp;omega)
    rw [e2]
    simp [rowsOf,List.getElem?_zipIdx,e1]
 have hget: ∀ {i:Nat} {s:Sl},(a.slots++ [sl0])[i]?=some s→(i=a.slots.length∧s=sl0)∨(i<a.slots.length∧a.slots[i]?=some s):=fun {i s} h2=>by
  by_cases hi:i<a.slots.length
  ·rw [List.getElem?_append_left hi] at h2
   exact .inr ⟨hi,h2⟩
  ·rw [List.getElem?_append_right (by omega)] at h2
   by_cases hi2:i=a.slots.length
   ·subst hi2
    rw [Nat.sub_self] at h2
    injection h2 with h2
    exact .inl ⟨rfl,h2.symm⟩
   ·rw [List.getElem?_eq_none (by simp;omega)] at h2
    cases h2
 exact {
  own:= .inl h.own
  role:=by rw [if_pos hpA];exact h.role
  lt:=fun k hk=>by
   rw [hs]
   rcases hk with hk | hk
   ·exact Nat.lt_of_lt_of_le (h.lt k hk) hg.size
   ·exact hk.2
  box:=by
   have h0:=bJ h.box hg (fun e=>by have:=(h.rows.1 pA e.symm).2;rw [h.role] at this;cases this)
   exact bH h0 0 v1
  rows:=by
   rw [hrows]
   refine Kd.bV (Kd.bq (Kd.bL hr) (fun k hk=>?_)) (fun k hk e=>?_) v1
   ·have hlt:=hk.2.2.1
    rcases hk.1 with h1 | h1
    ·exact ⟨.inl h1.1,by rw [if_pos (h.lt k h1.1)];exact h1.2⟩
    ·exact ⟨.inr ⟨h1,hlt⟩,by rw [if_neg (by omega)]⟩
   ·have:=hk.2
    rw [show k=pA from e,if_pos hpA,h.role] at this
    cases this
  free:=Kd.lV (Kd.jS (Kd.pV h.free) (fun k hk hlt=>hmove 2 (by decide) (by decide) k hk.1 hlt)) (fun k hk=>hup 2 k hk.1 (h.lt k hk.1.1))
  node:=fun i s h2=>by
   rcases hget h2 with ⟨rfl,rfl⟩ | ⟨hi,h2⟩
   ·rw [if_pos rfl]
    exact ⟨SlF.nil _ _ _,SlF.nil _ _ _,SlF.nil _ _ _⟩
   ·rw [if_neg (by omega)]
    have hn:=h.node i s h2
    exact ⟨(hn.1.step (hmove 3 (by decide) (by decide))).mono (fun k hk _=>hup 3 k hk (h.lt k hk.1)),(hn.2.1.step (hmove 3 (by decide) (by decide))).mono (fun k hk _=>hup 3 k hk (h.lt k hk.1)),(hn.2.2.step (hmove 3 (by decide) (by decide))).mono (fun k hk _=>hup 3 k hk (h.lt k hk.1))⟩
  ways:=fun i s h2=>by
   rcases hget h2 with ⟨rfl,rfl⟩ | ⟨hi,h2⟩
   ·rw [if_pos rfl]
    exact Kd.fI _ _ _ _ _
   ·rw [if_neg (by omega)]
    exact Kd.bq (Kd.bQ (h.ways i s h2) (hmove _ (by omega) (by omega))) (fun k hk=>hup _ k hk (h.lt k hk.1)) }
theorem bT.popped {ok:Nat→Prop} {pA n c:Nat} {A:Option Addr} {sv:Value} {lv:Nat→Lv} {ρ:Nat→Nat} {a:Ar} {w:World} {f:Int} {fs:List Int} (h:bT ok pA sv (.slice A n c) lv ρ a w) (hf:a.free=f::fs):
  bT ok pA sv (.slice (if c=1 then A else A.map (·.add 1)) (n - 1) (c - 1)) lv ρ { a with free:=fs } (w.setCell ⟨pA,1,none⟩ (.slice (if c=1 then A else A.map (·.add 1)) (n - 1) (c - 1))) where
 own:=h.own
 role:=h.role
 lt:=fun k hk=>by simpa [World.setCell] using h.lt k hk
 box:=bH h.box 1 _
 rows:=Kd.bV h.rows (fun k hk e=>by have:=h.role;rw [←show k=pA from e,hk.2] at this;omega) _
 free:=by
  have h1:=h.free
  rw [hf] at h1
  have h2:=Kd.Fs h1 (k:=1) (by simp)
  have h3:(Kd.int .i64).Q 3 w 0 (fun k=>ok k∧ρ k=2) (.slice (if c=1 then A else A.map (·.add 1)) (n - 1) (c - 1)) fs:=by simpa [Kd.int,Kd.scalar] using h2
  exact Kd.pW h3 (fun k hk e=>by have:=h.role;rw [←show k=pA from e,hk.2] at this;omega) _
 node:=fun i s hi=>by
  have hn:=h.node i s hi
  have hm: ∀ k,(ok k∧ρ k=3)→k<w.heap.size→(w.setCell ⟨pA,1,none⟩ (.slice (if c=1 then A else A.map (·.add 1)) (n - 1) (c - 1))).heap[k]?=w.heap[k]?:=fun k hk _=>Below.heap_setCell w ⟨pA,1,none⟩ _ k (fun e=>by have:=h.role;rw [←show k=pA from e,hk.2] at this;omega)
  exact ⟨hn.1.step hm,hn.2.1.step hm,hn.2.2.step hm⟩
 ways:=fun i s hi=>Kd.bV (h.ways i s hi) (fun k hk e=>by have:=h.role;rw [←show k=pA from e,hk.2] at this;omega) _
def yY:Bool × List (List Nat × List Nat):=(true,[([],[]),([0],[0]),([1],[1]),([],[]),([3],[3]),([4],[4]),([5,2],[5]),([],[]),([7],[7]),([8],[8]),([9,6],[9]),([6,10],[6,10]),([0,1,2,3,4,5,7,8,9],[]),([12,2,10,0,1,2,3,4,5,7,8,9],[2,12]),([0,1,2,3,4,5,6,7,8,9,10,11,12,13],[]),([14,11,13,0,1,2,3,4,5,6,7,8,9,10,11,12,13],[11,14])])
def GH:List Nat:= [0,1,3,0,8,24,63,0,128,384,1023,2047,959,6143,16383,32767]
theorem sJ:fq .any (opsOf Tryz.f93 8)=yY:=by kernel_rfl
theorem oU:bA yY.2 GH=true:=by kernel_rfl
def vC:Bool × List (List Nat × List Nat):=(true,[([],[]),([],[]),([],[]),([2],[2]),([3],[3]),([4],[4]),([],[]),([6],[6]),([7],[7]),([8],[8]),([1,5,9],[1,5,9]),([0,0,1,2,3,4,5,6,7,8,9,10],[0]),([11,10,5,0,1,2,3,4,5,6,7,8,9,10],[10,11])])
def CR:List Nat:= [0,0,0,4,12,28,0,64,192,448,1022,2047,4095]
theorem pK:fq .any (opsOf Tryz.f93 10)=vC:=by kernel_rfl
theorem mU:bA vC.2 CR=true:=by kernel_rfl
def yX:Bool × List (List Nat × List Nat):=(true,[([],[]),([],[]),([1],[1]),([2],[2]),([3],[3]),([4],[4]),([5],[5]),([],[]),([7],[7]),([8],[8]),([9],[9]),([10],[10]),([6,1,2,3,4,5,6],[6]),([0,0,1,2,3,4,5,6,7,8,9,10,11,12],[0]),([13,0,1,2,3,4,5,6,7,8,9,10,11,12],[13]),([14,11,12,0,1,2,3,4,5,6,7,8,9,10,11,12],[11,14])])
def GD:List Nat:= [0,0,2,6,14,30,62,0,128,384,896,1920,126,8191,16383,32767]
theorem Ce:fq .any (opsOf Tryz.f93 5)=yX:=by kernel_rfl
theorem wL:bA yX.2 GD=true:=by kernel_rfl
theorem Jb: ∀ u∈cB sl0 lv0,u.oneCell'=true:=by
 intro u hu
 simp only [cB,sl0,lv0,nd0,List.mem_cons,List.not_mem_nil,or_false] at hu
 rcases hu with rfl | rfl | rfl | rfl | rfl | rfl | rfl | rfl | rfl | rfl<;>rfl
theorem Bc:(Tryz.prog.info? 209).map (fun i=>(i.zero,i.size,i.bytes))=some (some (.agg #[.bool false,.bool false,.slice none 0 0,.slice none 0 0,.slice none 0 0,.slice none 0 0,.int .i64 0,.bool false,.int .u32 0,.bool false]),10,128):=by kernel_rfl
def NdF (D:Nat→Prop) (n:Nd) (v:Value) (w:World):Prop:= ∃ Ap cp Ak ck Ay cy,v= .agg #[.bool n.inner,.bool n.tagged,.slice Ap n.pairs.length cp,.slice Ak n.keys.length ck,.slice Ay n.ways.length cy]∧n.pairs.length≤cp∧n.keys.length≤ck∧n.ways.length≤cy∧dw.F w D Ap n.pairs.length n.pairs∧(Kd.int .i64).F w D Ak n.keys.length n.keys∧(Kd.int .i64).F w D Ay n.ways.length n.ways
structure kC (ok:Nat→Prop) (pA:Nat) (r:Int) (b:Bool) (a1:Ar) (w:World) (e:Ending) (w1:World):Prop where
 val:e= .returned (.tuple #[.int .i64 r,.bool b])
 out: ∃ ok1,dn ok1 pA a1 w1∧Moves ok ok1 w w1
theorem wH {ok:Nat→Prop} {pA:Nat} {a:Ar} (n:Nd) (v:Value) (w:World) (h:dn ok pA a w) (hn:NdF (fun k=> ¬ ok k) n v w) (hx:a.most≤a.used):
  Calls Tryz.prog 93 #[.pointer (some ⟨pA,0,none⟩),v] w (kC ok pA 0 false a w):=by
 obtain ⟨sv,fv,lv,ρ,h⟩:=h
 obtain ⟨Ap,cp,Ak,ck,Ay,cy,rfl,hcp,hck,hcy,hp,hk,hy⟩:=hn
 have h1:=h.step (w1:=w.alloc (.cells #[.bool n.inner,.bool n.tagged,.slice Ap n.pairs.length cp,.slice Ak n.keys.length ck,.slice Ay n.ways.length cy] 157)) (by simp) (fun k _ hlt=>Below.heap_alloc _ _ _ hlt)
 have HI:=Am_ h1
 have HL:=Am_ h.lt
 have HB:=Am_ (bU w (.cells #[.bool n.inner,.bool n.tagged,.slice Ap n.pairs.length cp,.slice Ak n.keys.length ck,.slice Ay n.ways.length cy] 157))
 have HM:=Am_ ((Moves.refl ok w).alloc (.cells #[.bool n.inner,.bool n.tagged,.slice Ap n.pairs.length cp,.slice Ak n.keys.length ck,.slice Ay n.ways.length cy] 157))
 have HP:=Am_ (Kd.eD (Kd.dX hp) (.cells #[.bool n.inner,.bool n.tagged,.slice Ap n.pairs.length cp,.slice Ak n.keys.length ck,.slice Ay n.ways.length cy] 157))
 have HK:=Am_ (Kd.eD (Kd.dX hk) (.cells #[.bool n.inner,.bool n.tagged,.slice Ap n.pairs.length cp,.slice Ak n.keys.length ck,.slice Ay n.ways.length cy] 157))
 have HY:=Am_ (Kd.eD (Kd.dX hy) (.cells #[.bool n.inner,.bool n.tagged,.slice Ap n.pairs.length cp,.slice Ak n.keys.length ck,.slice Ay n.ways.length cy] 157))
 have d1:decide (a.used≥a.most)=true:=decide_eq_true hx
 have d1':decide (a.most≤a.used)=true:=d1
 clear h h1 hp hk hy hx
 go_enter Tryz.func93,Tryz.ntmps93
 go_upto_region 1 with fail
 generalize w.alloc (.cells #[.bool n.inner,.bool n.tagged,.slice Ap n.pairs.length cp,.slice Ak n.keys.length ck,.slice Ay n.ways.length cy] 157)=w1 at HI HB HM HP HK HY ⊢
 have c2:w1.cell? ⟨pA,2,none⟩=some (.int .i64 a.most):=(af HI.out.box 2).trans rfl
 have c3:w1.cell? ⟨pA,3,none⟩=some (.int .i64 a.used):=(af HI.out.box 3).trans rfl
 go_quiet (fail)
 rename_i nq
 go_wp2_with fail
 go_ret2
 exact ⟨rfl,ok,⟨_,_,_,_,HI.out.step (Nat.le_refl _) (fun _ _ _=>rfl)⟩,HM.out.drewN _⟩
theorem wI {ok:Nat→Prop} {pA:Nat} {a:Ar} (n:Nd) (v:Value) (w:World) (h:dn ok pA a w) (hn:NdF (fun k=> ¬ ok k) n v w) (hx: ¬ a.most≤a.used) (hf:a.free= []) (hl:a.slots.length<999999) (hnp:n.pairs.length<1000000) (hnk:n.keys.length<1000000) (hny:n.ways.length<1000000) (a7:Ar) (ha7: { a with slots:=a.slots++ [sl0] }=a7) (s7:Sl) (hs7:sl0=s7):
  Calls Tryz.prog 93 #[.pointer (some ⟨pA,0,none⟩),v] w (kC ok pA (jQ a.slots.length (Gv (s7.count+1))) true (a7.put a.slots.length n (Gv (s7.count+1))) w):=by
 obtain ⟨sv,fv,lv,ρ,h⟩:=h
 obtain ⟨Ap,cp,Ak,ck,Ay,cy,rfl,hcp,hck,hcy,hp,hk,hy⟩:=hn
 have h1:=h.step (w1:=w.alloc (.cells #[.bool n.inner,.bool n.tagged,.slice Ap n.pairs.length cp,.slice Ak n.keys.length ck,.slice Ay n.ways.length cy] 157)) (by simp) (fun k _ hlt=>Below.heap_alloc _ _ _ hlt)
 have HI:=Am_ h1
 have HL:=Am_ h.lt
 have HB:=Am_ (bU w (.cells #[.bool n.inner,.bool n.tagged,.slice Ap n.pairs.length cp,.slice Ak n.keys.length ck,.slice Ay n.ways.length cy] 157))
 have HM:=Am_ ((Moves.refl ok w).alloc (.cells #[.bool n.inner,.bool n.tagged,.slice Ap n.pairs.length cp,.slice Ak n.keys.length ck,.slice Ay n.ways.length cy] 157))
 have HP:=Am_ (Kd.eD (Kd.dX hp) (.cells #[.bool n.inner,.bool n.tagged,.slice Ap n.pairs.length cp,.slice Ak n.keys.length ck,.slice Ay n.ways.length cy] 157))
 have HK:=Am_ (Kd.eD (Kd.dX hk) (.cells #[.bool n.inner,.bool n.tagged,.slice Ap n.pairs.length cp,.slice Ak n.keys.length ck,.slice Ay n.ways.length cy] 157))
 have HY:=Am_ (Kd.eD (Kd.dX hy) (.cells #[.bool n.inner,.bool n.tagged,.slice Ap n.pairs.length cp,.slice Ak n.keys.length ck,.slice Ay n.ways.length cy] 157))
 have d1:decide (a.used≥a.most)=false:=decide_eq_false hx
 have d1':decide (a.most≤a.used)=false:=d1
 clear h h1 hp hk hy hx
 go_enter Tryz.func93,Tryz.ntmps93
 go_upto_region 1 with fail
 generalize w.alloc (.cells #[.bool n.inner,.bool n.tagged,.slice Ap n.pairs.length cp,.slice Ak n.keys.length ck,.slice Ay n.ways.length cy] 157)=w1 at HI HB HM HP HK HY ⊢
 have c2:w1.cell? ⟨pA,2,none⟩=some (.int .i64 a.most):=(af HI.out.box 2).trans rfl
 have c3:w1.cell? ⟨pA,3,none⟩=some (.int .i64 a.used):=(af HI.out.box 3).trans rfl
 go_quiet (fail)
 rename_i nq
 have HI2:=Am_ (HI.out.step (w1:=w1.drewN nq) (Nat.le_refl _) (fun _ _ _=>rfl))
 have HB2:=Am_ (aG HB.out nq)
 have HM2:=Am_ (HM.out.drewN nq)
 have HP2:=Am_ (Kd.jX HP.out nq)
 have HK2:=Am_ (Kd.jX HK.out nq)
 have HY2:=Am_ (Kd.jX HY.out nq)
 clear HI HB HM HP HK HY c2 c3 d1 d1'
 generalize w1.drewN nq=w2 at HI2 HB2 HM2 HP2 HK2 HY2 ⊢
 obtain ⟨ad,cap,rfl⟩:=Kd.aJ HI2.out.rows
 obtain ⟨Af,cf,rfl,hcf⟩:=Kd.jY HI2.out.free
 rw [bZ] at HI2
 have c0:w2.cell? ⟨pA,0,none⟩=some (.slice ad a.slots.length cap):=(af HI2.out.box 0).trans rfl
 have c1:w2.cell? ⟨pA,1,none⟩=some (.slice Af 0 cf):=(af HI2.out.box 1).trans (by rw [hf];rfl)
 have HF:=Am_ hf
 have HCF:=Am_ hcf
 clear hf hcf
 go_upto_region 6 with fail
 go_upto_region 7 with ((with_reducible refine bW (b:= .append) (xs:= #[.tmp 50,.tmp 52]) rfl ?_);at_builtin;refine Kd.iy (Kd.raw 10) (w0:=w2) 0 rfl (.tmp 50) (.tmp 52) 124 209 _ 128 rfl Tryz.underlying124 Bc rfl (by decide) (by decide) (.slice ad a.slots.length cap) (rowsOf a.slots lv) (cB sl0 lv0) (cB sl0 lv0) (fun k=>(ok k∧ρ k=1)∨w2.heap.size≤k) (fun _=>False) rfl rfl ⟨rfl,rfl,Jb⟩ (fun _ hk=>hk.elim) (fun k hk=> .inr hk) (Kd.bq HI2.out.rows (fun k hk=> .inl hk)) (Below.refl _ _) (Nat.zero_le _) (by rw [bZ];omega) ?_;intro v5 w5 ho hb5 hg hat;have m0_:=Am_ ho;have m1_:=Am_ hg;have m2_:=Am_ hat;have hne:some pA≠(Value.slice ad a.slots.length cap).ownBlock:=(fun e=>by have:=(HI2.out.rows.1 pA e.symm).2;rw [HI2.out.role] at this;cases this);have f0:w5.frozen? ⟨pA,0,none⟩=false:=ah (bJ HI2.out.box hg hne) 0;have c0:=(af (bJ HI2.out.box hg hne) 0).trans (rfl:_=some (Value.slice ad a.slots.length cap));obtain ⟨ad5,cap5,rfl⟩:=Kd.aJ ho;clear ho hg hat hb5 hne)
 have hlen:(rowsOf a.slots lv++ [cB sl0 lv0]).length=(rowsOf a.slots lv).length+1:=by simp
 rw [hlen] at m0_ m2_
 have q0_:=Am_ (HI2.out.pushed m1_.out m2_.out m0_.out)
 have q1_:ak (Moves ok (fun k=>ok k∨(w2.heap.size≤k∧k<w5.heap.size)) w (w5.setCell ⟨pA,0,none⟩ (.slice ad5 ((rowsOf a.slots lv).length+1) cap5))):=⟨((HM2.out.grown m1_.out (fun k hk=> .inl (HI2.out.rows.1 k hk).1)).set (p:=⟨pA,0,none⟩) (.inl HI2.out.own) _).owns (fun k hk=>hk.elim .inl (fun h1=> .inr (by have:=HM2.out.size;omega)))⟩
 have hnb:some w.heap.size≠(Value.slice ad a.slots.length cap).ownBlock:=fun e=>by have:=HL.out _ (HI2.out.rows.1 _ e.symm).1;omega
 have hpb:w.heap.size≠pA:=fun e=>by have:=HL.out pA HI2.out.own;omega
 have q2_:=Am_ (cO (bJ HB2.out m1_.out hnb) (p:=⟨pA,0,none⟩) hpb (.slice ad5 ((rowsOf a.slots lv).length+1) cap5))
 have hdk: ∀ k,(¬ ok k∧k<w.heap.size)→some k≠(Value.slice ad a.slots.length cap).ownBlock:=fun k hk e=>hk.1 (HI2.out.rows.1 k e.symm).1
 have hdp: ∀ k,(¬ ok k∧k<w.heap.size)→k≠pA:=fun k hk e=>hk.1 (e▸HI2.out.own)
 have q3_:=Am_ (Kd.kX (Kd.kY HP2.out m1_.out hdk) (p:=⟨pA,0,none⟩) hdp (.slice ad5 ((rowsOf a.slots lv).length+1) cap5))
 have q4_:=Am_ (Kd.kX (Kd.kY HK2.out m1_.out hdk) (p:=⟨pA,0,none⟩) hdp (.slice ad5 ((rowsOf a.slots lv).length+1) cap5))
 have q5_:=Am_ (Kd.kX (Kd.kY HY2.out m1_.out hdk) (p:=⟨pA,0,none⟩) hdp (.slice ad5 ((rowsOf a.slots lv).length+1) cap5))
 have q6_:ak (¬ (ok w.heap.size∨(w2.heap.size≤w.heap.size∧w.heap.size<w5.heap.size))):=⟨fun hh=>hh.elim (fun h1=>by have:=HL.out _ h1;omega) (fun h1=>by have:=bD HB2.out;omega)⟩
 have hi7:ak (a7.slots[a.slots.length]?=some s7):=⟨by rw [←ha7,←hs7];simp⟩
 rw [ha7] at q0_
 have hl7:ak ((rowsOf a.slots lv).length=a.slots.length):=⟨bZ _ _⟩
 clear HI2 HB2 HM2 HP2 HK2 HY2 m0_ m1_ m2_ hnb hpb hdk hdp c0 c1 f0 hlen
 rw [hl7.out] at q0_ q1_ q2_ q3_ q4_ q5_ ⊢
 generalize w5.setCell ⟨pA,0,none⟩ (.slice ad5 (a.slots.length+1) cap5)=w7 at q0_ q1_ q2_ q3_ q4_ q5_ ⊢
 generalize hok7:(fun k=>ok k∨(w2.heap.size≤k∧k<w5.heap.size))=ok7 at q0_ q1_
 have q6_:ak (¬ ok7 w.heap.size):=⟨by rw [←hok7];exact q6_.out⟩
 generalize (fun j=>if j=a.slots.length then lv0 else lv j)=lv7 at q0_
 generalize (fun k=>if k<w2.heap.size then ρ k else 1)=ρ7 at q0_
 generalize Value.slice Af a.free.length cf=fv7 at q0_
 clear hok7
 obtain ⟨hn7,g,rfl,hg,hρ,hcc,hfz⟩:=q0_.out.cells hi7.out
 have HG:=Am_ hg
 have HR:=Am_ hρ
 have HN7:=Am_ hn7
 have HIL:=Am_ (List.getElem?_eq_some_iff.1 hi7.out).1
 have hb:w.heap.size<w7.heap.size:=bD q2_.out
 have HBL:=Am_ hb
 have hL7:=Am_ q0_.out.lt
 have c0:=(af q0_.out.box 0).trans (rfl:_=some (Value.slice (some ⟨g,0,none⟩) _ _))
 have b1:(0:Int)≤((a.slots.length:Nat):Int):=by omega
 have b2:((a.slots.length:Nat):Int)<(((a.slots.length+1):Nat):Int):=by omega
 clear hg hρ hn7 hcc hfz hb
 go_upto_region 8 with fail
 clear c0
 generalize hbb:w.heap.size=b at q2_ q6_ HBL ⊢
 have HBB:=Am_ hbb
 clear hbb
 refine jL (n:=16) (S:=fun w'=>w'.cell? ⟨b,2,none⟩=some (.slice Ap n.pairs.length cp)∧w'.cell? ⟨b,3,none⟩=some (.slice Ak n.keys.length ck)∧w'.cell? ⟨b,4,none⟩=some (.slice Ay n.ways.length cy)) (ds:= [13,15]) #[N_,N_,N_,N_,N_,N_,N_,N_,N_,N_,N_,N_,N_,N_,N_,N_] (by kernel_rfl) rfl rfl ⟨(af q2_.out 2).trans rfl,(af q2_.out 3).trans rfl,(af q2_.out 4).trans rfl⟩ (fun hHeld=>?_);refine fU sJ oU (fun HT_ HW_=>?_)
 have q0_:=Am_ (q0_.out.step (w1:=w7.drew) (Nat.le_refl _) (fun _ _ _=>rfl))
 have q1_:=Am_ q1_.out.drew
 have q2_:=Am_ (aI q2_.out)
 have q3_:=Am_ (Kd.jB q3_.out)
 have q4_:=Am_ (Kd.jB q4_.out)
 have q5_:=Am_ (Kd.jB q5_.out)
 have HBL:ak (b<w7.drew.heap.size):=HBL
 have hL7:ak (∀ k,ok7 k→k<w7.drew.heap.size):=hL7
 generalize World.drew _=w3 at q0_ q1_ q2_ q3_ q4_ q5_ HBL hL7 hHeld ⊢
 refine bS (i:=0) (N:=(some 62)) (v:=?_) (a':=?_) #[Y_,N_,N_,N_,N_,N_,N_,N_,N_,N_,N_,N_,N_,N_,N_,N_] rfl rfl (bf HT_.out (by kernel_rfl)) (fun _ _ _ h=>h) (Or.inl ⟨by rfl,?_⟩) ?_ ?_
 rotate_left; · intro w';go_simp;with_reducible rfl
 rotate_left; · simp only [Act.put,u1_,u2_,u3_,ax,ay];rfl
 refine fw (i:=1) (N:=(some 63)) (v:=?_) (a':=?_) #[Y_,Y_,N_,N_,N_,N_,N_,N_,N_,N_,N_,N_,N_,N_,N_,N_] rfl rfl (bN HT_.out HW_.out (by kernel_rfl)) (fun _ _ _ h=>h) (Or.inl ⟨by rfl,?_⟩) hHeld ?_ ?_
 rotate_left; · rintro w' ⟨s0,s1,s2⟩;go_simp;with_reducible rfl
 rotate_left; · simp only [Act.put,u1_,u2_,u3_,ax,ay];rfl
 refine bS (i:=3) (N:=(some 65)) (v:=?_) (a':=?_) #[Y_,Y_,N_,Y_,N_,N_,N_,N_,N_,N_,N_,N_,N_,N_,N_,N_] rfl rfl (bf HT_.out (by kernel_rfl)) (fun _ _ _ h=>h) (Or.inl ⟨by rfl,?_⟩) ?_ ?_
 rotate_left; · intro w';go_simp;with_reducible rfl
 rotate_left; · simp only [Act.put,u1_,u2_,u3_,ax,ay];rfl
 refine bS (i:=4) (N:=(some 66)) (v:=?_) (a':=?_) #[Y_,Y_,N_,Y_,Y_,N_,N_,N_,N_,N_,N_,N_,N_,N_,N_,N_] rfl rfl (bf HT_.out (by kernel_rfl)) (fun _ _ _ h=>h) (Or.inl ⟨by rfl,?_⟩) ?_ ?_
 rotate_left; · intro w';go_simp;with_reducible rfl
 rotate_left; · simp only [Act.put,u1_,u2_,u3_,ax,ay];rfl
 refine fw (i:=5) (N:=(some 67)) (v:=?_) (a':=?_) #[Y_,Y_,N_,Y_,Y_,Y_,N_,N_,N_,N_,N_,N_,N_,N_,N_,N_] rfl rfl (bN HT_.out HW_.out (by kernel_rfl)) (fun _ _ _ h=>h) (Or.inl ⟨by rfl,?_⟩) hHeld ?_ ?_
 rotate_left; · rintro w' ⟨s0,s1,s2⟩;go_simp;with_reducible rfl
 rotate_left; · simp only [Act.put,u1_,u2_,u3_,ax,ay];rfl
 refine bS (i:=7) (N:=(some 69)) (v:=?_) (a':=?_) #[Y_,Y_,N_,Y_,Y_,Y_,N_,Y_,N_,N_,N_,N_,N_,N_,N_,N_] rfl rfl (bf HT_.out (by kernel_rfl)) (fun _ _ _ h=>h) (Or.inl ⟨by rfl,?_⟩) ?_ ?_
 rotate_left; · intro w';go_simp;with_reducible rfl
 rotate_left; · simp only [Act.put,u1_,u2_,u3_,ax,ay];rfl
 refine bS (i:=8) (N:=(some 70)) (v:=?_) (a':=?_) #[Y_,Y_,N_,Y_,Y_,Y_,N_,Y_,Y_,N_,N_,N_,N_,N_,N_,N_] rfl rfl (bf HT_.out (by kernel_rfl)) (fun _ _ _ h=>h) (Or.inl ⟨by rfl,?_⟩) ?_ ?_
 rotate_left; · intro w';go_simp;with_reducible rfl
 rotate_left; · simp only [Act.put,u1_,u2_,u3_,ax,ay];rfl
 refine fw (i:=9) (N:=(some 71)) (v:=?_) (a':=?_) #[Y_,Y_,N_,Y_,Y_,Y_,N_,Y_,Y_,Y_,N_,N_,N_,N_,N_,N_] rfl rfl (bN HT_.out HW_.out (by kernel_rfl)) (fun _ _ _ h=>h) (Or.inl ⟨by rfl,?_⟩) hHeld ?_ ?_
 rotate_left; · rintro w' ⟨s0,s1,s2⟩;go_simp;with_reducible rfl
 rotate_left; · simp only [Act.put,u1_,u2_,u3_,ax,ay];rfl
 refine nS (i:=2) (N:=(some 64)) #[Y_,Y_,Y_,Y_,Y_,Y_,N_,Y_,Y_,Y_,N_,N_,N_,N_,N_,N_] rfl rfl (dV HT_.out (by kernel_rfl)) (by decide) (fun K_ hK=>?_)
 refine call_ 75 #[.slice Ap n.pairs.length cp] (by rfl) rfl ?hrun2 ?_
 (case hrun2=>first | (go_simp;done) | (go_simp;exact enters Tryz.func75 (by kernel_rfl) rfl _ _))
 refine (fZ Ap n.pairs.length cp n.pairs _ (Kd.gu q3_.out) hnp).mono ?_
 rintro e w4 ⟨v4,rfl,hR4,hB4⟩
 obtain ⟨A4,cc4,rfl⟩:=Kd.aJ hR4
 have mr_:=Am_ hR4
 have mb_:=Am_ hB4
 have m2_:=Am_ (bF q2_.out hB4)
 have m4_:=Am_ (Kd.gY q4_.out hB4)
 have m5_:=Am_ (Kd.gY q5_.out hB4)
 clear hR4 hB4
 refine ⟨_,rfl,?_⟩
 refine hK.out _ _ ⟨(af m2_.out 2).trans rfl,(af m2_.out 3).trans rfl,(af m2_.out 4).trans rfl⟩ (fun hHeld=>?_)
 clear hK K_
 refine bK (a':=?_) ?_ ?_
 rotate_left; · show Act.put _ (some 64) _=_;simp only [Act.put,u1_,u2_,u3_,ax,ay];rfl
 refine bS (i:=12) (N:=(some 74)) (v:=?_) (a':=?_) #[Y_,Y_,Y_,Y_,Y_,Y_,N_,Y_,Y_,Y_,N_,N_,Y_,N_,N_,N_] rfl rfl (bf HT_.out (by kernel_rfl)) (fun _ _ _ h=>h) (Or.inl ⟨by rfl,?_⟩) ?_ ?_
 rotate_left; · intro w';go_simp;with_reducible rfl
 rotate_left; · simp only [Act.put,u1_,u2_,u3_,ax,ay];rfl
 refine nS (i:=6) (N:=(some 68)) #[Y_,Y_,Y_,Y_,Y_,Y_,Y_,Y_,Y_,Y_,N_,N_,Y_,N_,N_,N_] rfl rfl (dV HT_.out (by kernel_rfl)) (by decide) (fun K_ hK=>?_)
 refine call_ 143 #[.slice Ak n.keys.length ck] (by rfl) rfl ?hrun6 ?_
 (case hrun6=>first | (go_simp;done) | (go_simp;exact enters Tryz.func143 (by kernel_rfl) rfl _ _))
 refine (jg Ak n.keys.length ck n.keys _ (Kd.gu m4_.out) hnk).mono ?_
 rintro e w5 ⟨v5,rfl,hR5,hB5⟩
 obtain ⟨A5,cc5,rfl⟩:=Kd.aJ hR5
 have jr_:=Am_ hR5
 have jb_:=Am_ hB5
 have j2_:=Am_ (bF m2_.out hB5)
 have j5_:=Am_ (Kd.gY m5_.out hB5)
 clear hR5 hB5
 refine ⟨_,rfl,?_⟩
 refine hK.out _ _ ⟨(af j2_.out 2).trans rfl,(af j2_.out 3).trans rfl,(af j2_.out 4).trans rfl⟩ (fun hHeld=>?_)
 clear hK K_
 refine bK (a':=?_) ?_ ?_
 rotate_left; · show Act.put _ (some 68) _=_;simp only [Act.put,u1_,u2_,u3_,ax,ay];rfl
 refine nS (i:=10) (N:=(some 72)) #[Y_,Y_,Y_,Y_,Y_,Y_,Y_,Y_,Y_,Y_,Y_,N_,Y_,N_,N_,N_] rfl rfl (dV HT_.out (by kernel_rfl)) (by decide) (fun K_ hK=>?_)
 refine call_ 144 #[.slice Ay n.ways.length cy] (by rfl) rfl ?hrun10 ?_
 (case hrun10=>first | (go_simp;done) | (go_simp;exact enters Tryz.func144 (by kernel_rfl) rfl _ _))
 refine (gP Ay n.ways.length cy n.ways _ (Kd.gu j5_.out) hny).mono ?_
 rintro e w6 ⟨v6,rfl,hR6,hB6⟩
 obtain ⟨A6,cc6,rfl⟩:=Kd.aJ hR6
 have ir_:=Am_ hR6
 have ib_:=Am_ hB6
 have i2_:=Am_ (bF j2_.out hB6)
 clear hR6 hB6
 refine ⟨_,rfl,?_⟩
 refine hK.out _ _ ⟨(af i2_.out 2).trans rfl,(af i2_.out 3).trans rfl,(af i2_.out 4).trans rfl⟩ (fun hHeld=>?_)
 clear hK K_
 refine bK (a':=?_) ?_ ?_
 rotate_left; · show Act.put _ (some 72) _=_;simp only [Act.put,u1_,u2_,u3_,ax,ay];rfl
 refine bS (i:=11) (N:=(some 73)) (v:=?_) (a':=?_) #[Y_,Y_,Y_,Y_,Y_,Y_,Y_,Y_,Y_,Y_,Y_,Y_,Y_,N_,N_,N_] rfl rfl (bf HT_.out (by kernel_rfl)) (fun _ _ _ h=>h) (Or.inl ⟨by rfl,?_⟩) ?_ ?_
 rotate_left; · intro w';go_simp;with_reducible rfl
 rotate_left; · simp only [Act.put,u1_,u2_,u3_,ax,ay];rfl
 have z2:=ah i2_.out 2
 have z3:=ah i2_.out 3
 have z4:=ah i2_.out 4
 refine jI (i:=13) (N:=none) #[Y_,Y_,Y_,Y_,Y_,Y_,Y_,Y_,Y_,Y_,Y_,Y_,Y_,Y_,N_,N_] rfl rfl (dV HT_.out (by kernel_rfl)) (by decide) (fun K_ hK=>?_)
 refine fB (w1:=?_) (by rfl) rfl ?_ ?_
 rotate_left
 ·go_simp
  rfl
 refine hK.out _ _ ?_
 clear hK K_
 refine bS (i:=14) (N:=(some 75)) (v:=?_) (a':=?_) #[Y_,Y_,Y_,Y_,Y_,Y_,Y_,Y_,Y_,Y_,Y_,Y_,Y_,Y_,Y_,N_] rfl rfl (bf HT_.out (by kernel_rfl)) (fun _ _ _ h=>h) (Or.inl ⟨by rfl,?_⟩) ?_ ?_
 rotate_left; · intro w';go_simp;with_reducible rfl
 rotate_left; · simp only [Act.put,u1_,u2_,u3_,ax,ay];rfl
 refine jI (i:=15) (N:=none) #[Y_,Y_,Y_,Y_,Y_,Y_,Y_,Y_,Y_,Y_,Y_,Y_,Y_,Y_,Y_,Y_] rfl rfl (dV HT_.out (by kernel_rfl)) (by decide) (fun K_ hK=>?_)
 refine fB (w1:=?_) (by rfl) rfl ?_ ?_
 rotate_left
 ·go_simp
  rfl
 refine hK.out _ _ ?_
 clear hK K_
 refine dD (bI HT_.out (by kernel_rfl)) ?_
 have B36:=aY (aY mb_.out mb_.out.size jb_.out) (aY mb_.out mb_.out.size jb_.out).size ib_.out
 have hnb: ∀ k,ok7 k→k≠b:=fun k hk e=>q6_.out (e▸hk)
 have a6_:=q0_.out.step (w1:=w6) B36.size (fun k _ hlt=>B36.block k hlt)
 have q0_:=Am_ (a6_.step (w1:=((w6.setCell ⟨b,2,none⟩ (.slice A4 n.pairs.length cc4)).setCell ⟨b,3,none⟩ (.slice A5 n.keys.length cc5)).setCell ⟨b,4,none⟩ (.slice A6 n.ways.length cc6)) (by simp [World.setCell]) (fun k hk _=>(Below.heap_setCell _ ⟨b,4,none⟩ _ k (hnb k hk)).trans ((Below.heap_setCell _ ⟨b,3,none⟩ _ k (hnb k hk)).trans (Below.heap_setCell _ ⟨b,2,none⟩ _ k (hnb k hk)))))
 have q2_:=Am_ (bH (bH (bH i2_.out 2 (.slice A4 n.pairs.length cc4)) 3 (.slice A5 n.keys.length cc5)) 4 (.slice A6 n.ways.length cc6))
 have hbw:w.heap.size≤b:=by rw [HBB.out];exact Nat.le_refl _
 have q1_:=Am_ ((((q1_.out.below B36).set (p:=⟨b,2,none⟩) (.inr hbw) (.slice A4 n.pairs.length cc4)).set (p:=⟨b,3,none⟩) (.inr hbw) (.slice A5 n.keys.length cc5)).set (p:=⟨b,4,none⟩) (.inr hbw) (.slice A6 n.ways.length cc6))
 have hlt3:=HBL.out
 have hq: ∀ N,w3.heap.size≤N→ ∀ q,N≤q→q≠b:=fun N h1 q h2=>by omega
 have p4_:=Am_ (Kd.bV (Kd.bV (Kd.bV (Kd.dU (Kd.dU mr_.out jb_.out) ib_.out) (p:=⟨b,2,none⟩) (hq _ (Nat.le_refl _)) (.slice A4 n.pairs.length cc4)) (p:=⟨b,3,none⟩) (hq _ (Nat.le_refl _)) (.slice A5 n.keys.length cc5)) (p:=⟨b,4,none⟩) (hq _ (Nat.le_refl _)) (.slice A6 n.ways.length cc6))
 have p5_:=Am_ (Kd.bV (Kd.bV (Kd.bV (Kd.dU jr_.out ib_.out) (p:=⟨b,2,none⟩) (hq _ mb_.out.size) (.slice A4 n.pairs.length cc4)) (p:=⟨b,3,none⟩) (hq _ mb_.out.size) (.slice A5 n.keys.length cc5)) (p:=⟨b,4,none⟩) (hq _ mb_.out.size) (.slice A6 n.ways.length cc6))
 have p6_:=Am_ (Kd.bV (Kd.bV (Kd.bV ir_.out (p:=⟨b,2,none⟩) (hq _ (Nat.le_trans mb_.out.size jb_.out.size)) (.slice A4 n.pairs.length cc4)) (p:=⟨b,3,none⟩) (hq _ (Nat.le_trans mb_.out.size jb_.out.size)) (.slice A5 n.keys.length cc5)) (p:=⟨b,4,none⟩) (hq _ (Nat.le_trans mb_.out.size jb_.out.size)) (.slice A6 n.ways.length cc6))
 have hLT7:ak (∀ k,ok7 k→k<w3.heap.size):=⟨fun k hk=>by have:=q0_.out.lt k hk;exact hL7.out k hk⟩
 have l4_:=Am_ mb_.out.size
 have l5_:=Am_ jb_.out.size
 have l6_:=Am_ ib_.out.size
 have s6_:ak ((((w6.setCell ⟨b,2,none⟩ (.slice A4 n.pairs.length cc4)).setCell ⟨b,3,none⟩ (.slice A5 n.keys.length cc5)).setCell ⟨b,4,none⟩ (.slice A6 n.ways.length cc6)).heap.size=w6.heap.size):=⟨by simp [World.setCell]⟩
 clear hq hlt3 hbw hnb B36 a6_ hHeld z2 z3 z4
 generalize ((w6.setCell ⟨b,2,none⟩ (.slice A4 n.pairs.length cc4)).setCell ⟨b,3,none⟩ (.slice A5 n.keys.length cc5)).setCell ⟨b,4,none⟩ (.slice A6 n.ways.length cc6)=w8 at q0_ q1_ q2_ p4_ p5_ p6_ s6_ ⊢
 obtain ⟨_,g',e',_,_,hcc,hfz⟩:=q0_.out.cells hi7.out
 injection e' with e'
 injection e' with e' _ _
 subst e'
 have c8:=hcc 8 _ rfl
 have z8:=hfz 8
 have HC:=Am_ hcc
 clear hcc hfz
 go_upto_region 10 with fail
 have hN8:=q0_.out.node _ _ hi7.out
 have hW8:=q0_.out.ways _ _ hi7.out
 have q0_:=Am_ (q0_.out.seg hi7.out 8 [.int .u32 ((s7.count+1) % 4294967296)] (by simp) { s7 with count:=(s7.count+1) % 4294967296 } lv7 (fun _ _=>rfl) rfl hN8 hW8)
 have hgb:b≠g:=fun e=>q6_.out (e▸HG.out)
 have q2_:=Am_ (cO q2_.out (p:=⟨g,a.slots.length*10+8,none⟩) hgb (.int .u32 ((s7.count+1) % 4294967296)))
 have q1_:=Am_ (q1_.out.set (p:=⟨g,a.slots.length*10+8,none⟩) (q1_.out.fresh g HG.out) (.int .u32 ((s7.count+1) % 4294967296)))
 have hq: ∀ N,w3.heap.size≤N→ ∀ q,N≤q→q≠g:=fun N h1 q h2 e=>by have:=hL7.out g HG.out;omega
 have p4_:=Am_ (Kd.bV p4_.out (p:=⟨g,a.slots.length*10+8,none⟩) (hq _ (Nat.le_refl _)) (.int .u32 ((s7.count+1) % 4294967296)))
 have p5_:=Am_ (Kd.bV p5_.out (p:=⟨g,a.slots.length*10+8,none⟩) (hq _ l4_.out) (.int .u32 ((s7.count+1) % 4294967296)))
 have p6_:=Am_ (Kd.bV p6_.out (p:=⟨g,a.slots.length*10+8,none⟩) (hq _ (Nat.le_trans l4_.out l5_.out)) (.int .u32 ((s7.count+1) % 4294967296)))
 have s6_:ak ((w8.setCell ⟨g,a.slots.length*10+8,none⟩ (.int .u32 ((s7.count+1) % 4294967296))).heap.size=w6.heap.size):=⟨by rw [←s6_.out];simp [World.setCell]⟩
 have q0_:ak (bT ok7 pA _ fv7 lv7 ρ7 _ (w8.setCell ⟨g,a.slots.length*10+8,none⟩ (.int .u32 ((s7.count+1) % 4294967296)))):=q0_
 clear hgb hN8 hW8 c8 z8 HC
 generalize w8.setCell ⟨g,a.slots.length*10+8,none⟩ (.int .u32 ((s7.count+1) % 4294967296))=w9 at q0_ q1_ q2_ p4_ p5_ p6_ s6_ ⊢
 generalize hcn:(s7.count+1) % 4294967296=cn at q0_ ⊢
 have hi9:ak ((a7.slots.set a.slots.length { s7 with count:=cn })[a.slots.length]?=some { s7 with count:=cn }):=⟨List.getElem?_set_self HIL.out⟩
 obtain ⟨_,g',e',_,_,hcc,hfz⟩:=q0_.out.cells hi9.out
 injection e' with e'
 injection e' with e' _ _
 subst e'
 have c8:=hcc 8 _ rfl
 have HC:=Am_ hcc
 clear hcc hfz hq
 refine jL (n:=13) (S:=fun w'=>w'.cell? ⟨b,0,none⟩=some (.bool n.inner)∧w'.cell? ⟨b,1,none⟩=some (.bool n.tagged)∧w'.cell? ⟨b,2,none⟩=some (.slice A4 n.pairs.length cc4)∧w'.cell? ⟨b,3,none⟩=some (.slice A5 n.keys.length cc5)∧w'.cell? ⟨b,4,none⟩=some (.slice A6 n.ways.length cc6)∧w'.cell? ⟨g,a.slots.length*10+8,none⟩=some (.int .u32 cn)) (ds:= [12]) #[N_,N_,N_,N_,N_,N_,N_,N_,N_,N_,N_,N_,N_] (by kernel_rfl) rfl rfl ⟨(af q2_.out 0).trans rfl,(af q2_.out 1).trans rfl,(af q2_.out 2).trans rfl,(af q2_.out 3).trans rfl,(af q2_.out 4).trans rfl,c8⟩ (fun hHeld=>?_);refine fU pK mU (fun HT_ HW_=>?_)
 have q0_:=Am_ (q0_.out.step (w1:=w9.drew) (Nat.le_refl _) (fun _ _ _=>rfl))
 have q1_:=Am_ q1_.out.drew
 have q2_:=Am_ (aI q2_.out)
 have p4_:=Am_ (Kd.gF p4_.out)
 have p5_:=Am_ (Kd.gF p5_.out)
 have p6_:=Am_ (Kd.gF p6_.out)
 have s6_:ak (w9.drew.heap.size=w6.heap.size):=s6_
 have c8:w9.drew.cell? _=_:=c8
 clear HC
 generalize World.drew _=w9 at q0_ q1_ q2_ p4_ p5_ p6_ s6_ c8 hHeld ⊢
 refine bS (i:=0) (N:=(some 83)) (v:=?_) (a':=?_) #[Y_,N_,N_,N_,N_,N_,N_,N_,N_,N_,N_,N_,N_] rfl rfl (bf HT_.out (by kernel_rfl)) (fun _ _ _ h=>h) (Or.inl ⟨by rfl,?_⟩) ?_ ?_
 rotate_left; · intro w';go_simp;with_reducible rfl
 rotate_left; · simp only [Act.put,u1_,u2_,u3_,ax,ay];rfl
 refine fw (i:=1) (N:=(some 84)) (v:=?_) (a':=?_) #[Y_,Y_,N_,N_,N_,N_,N_,N_,N_,N_,N_,N_,N_] rfl rfl (bN HT_.out HW_.out (by kernel_rfl)) (fun _ _ _ h=>h) (Or.inl ⟨by rfl,?_⟩) hHeld ?_ ?_
 rotate_left; · rintro w' ⟨s0,s1,s2,s3,s4,s5⟩;go_simp;with_reducible rfl
 rotate_left; · simp only [Act.put,u1_,u2_,u3_,ax,ay];rfl
 refine bS (i:=2) (N:=(some 85)) (v:=?_) (a':=?_) #[Y_,Y_,Y_,N_,N_,N_,N_,N_,N_,N_,N_,N_,N_] rfl rfl (bf HT_.out (by kernel_rfl)) (fun _ _ _ h=>h) (Or.inl ⟨by rfl,?_⟩) ?_ ?_
 rotate_left; · intro w';go_simp;with_reducible rfl
 rotate_left; · simp only [Act.put,u1_,u2_,u3_,ax,ay];rfl
 refine bS (i:=3) (N:=(some 86)) (v:=?_) (a':=?_) #[Y_,Y_,Y_,Y_,N_,N_,N_,N_,N_,N_,N_,N_,N_] rfl rfl (bf HT_.out (by kernel_rfl)) (fun _ _ _ h=>h) (Or.inl ⟨by rfl,?_⟩) ?_ ?_
 rotate_left; · intro w';go_simp;with_reducible rfl
 rotate_left; · simp only [Act.put,u1_,u2_,u3_,ax,ay];rfl
 refine fw (i:=4) (N:=(some 87)) (v:=?_) (a':=?_) #[Y_,Y_,Y_,Y_,Y_,N_,N_,N_,N_,N_,N_,N_,N_] rfl rfl (bN HT_.out HW_.out (by kernel_rfl)) (fun _ _ _ h=>h) (Or.inl ⟨by rfl,?_⟩) hHeld ?_ ?_
 rotate_left; · rintro w' ⟨s0,s1,s2,s3,s4,s5⟩;go_simp;with_reducible rfl
 rotate_left; · simp only [Act.put,u1_,u2_,u3_,ax,ay];rfl
 refine bS (i:=6) (N:=(some 89)) (v:=?_) (a':=?_) #[Y_,Y_,Y_,Y_,Y_,N_,Y_,N_,N_,N_,N_,N_,N_] rfl rfl (bf HT_.out (by kernel_rfl)) (fun _ _ _ h=>h) (Or.inl ⟨by rfl,?_⟩) ?_ ?_
 rotate_left; · intro w';go_simp;with_reducible rfl
 rotate_left; · simp only [Act.put,u1_,u2_,u3_,ax,ay];rfl
 refine bS (i:=7) (N:=(some 90)) (v:=?_) (a':=?_) #[Y_,Y_,Y_,Y_,Y_,N_,Y_,Y_,N_,N_,N_,N_,N_] rfl rfl (bf HT_.out (by kernel_rfl)) (fun _ _ _ h=>h) (Or.inl ⟨by rfl,?_⟩) ?_ ?_
 rotate_left; · intro w';go_simp;with_reducible rfl
 rotate_left; · simp only [Act.put,u1_,u2_,u3_,ax,ay];rfl
 refine bS (i:=8) (N:=(some 91)) (v:=?_) (a':=?_) #[Y_,Y_,Y_,Y_,Y_,N_,Y_,Y_,Y_,N_,N_,N_,N_] rfl rfl (bf HT_.out (by kernel_rfl)) (fun _ _ _ h=>h) (Or.inl ⟨by rfl,?_⟩) ?_ ?_
 rotate_left; · intro w';go_simp;with_reducible rfl
 rotate_left; · simp only [Act.put,u1_,u2_,u3_,ax,ay];rfl
 refine fw (i:=9) (N:=(some 92)) (v:=?_) (a':=?_) #[Y_,Y_,Y_,Y_,Y_,N_,Y_,Y_,Y_,Y_,N_,N_,N_] rfl rfl (bN HT_.out HW_.out (by kernel_rfl)) (fun _ _ _ h=>h) (Or.inl ⟨by rfl,?_⟩) hHeld ?_ ?_
 rotate_left; · rintro w' ⟨s0,s1,s2,s3,s4,s5⟩;go_simp;with_reducible rfl
 rotate_left; · simp only [Act.put,u1_,u2_,u3_,ax,ay];rfl
 refine nS (i:=5) (N:=(some 88)) #[Y_,Y_,Y_,Y_,Y_,Y_,Y_,Y_,Y_,Y_,N_,N_,N_] rfl rfl (dV HT_.out (by kernel_rfl)) (by decide) (fun K_ hK=>?_)
 refine call_ 144 #[.slice A6 n.ways.length cc6] (by rfl) rfl ?hrun5 ?_
 (case hrun5=>first | (go_simp;done) | (go_simp;exact enters Tryz.func144 (by kernel_rfl) rfl _ _))
 refine (gP A6 n.ways.length cc6 n.ways _ (Kd.bM p6_.out).2.2 hny).mono ?_
 rintro e wa ⟨va,rfl,hRa,hBa⟩
 obtain ⟨Aa,cca,rfl⟩:=Kd.aJ hRa
 have ar_:=Am_ hRa
 have ab_:=Am_ hBa
 have a2_:=Am_ (bF q2_.out hBa)
 have c8:=aj hBa c8
 clear hRa hBa
 refine ⟨_,rfl,?_⟩
 refine hK.out _ _ ⟨(af a2_.out 0).trans rfl,(af a2_.out 1).trans rfl,(af a2_.out 2).trans rfl,(af a2_.out 3).trans rfl,(af a2_.out 4).trans rfl,c8⟩ (fun hHeld=>?_)
 clear hK K_
 refine bK (a':=?_) ?_ ?_
 rotate_left; · show Act.put _ (some 88) _=_;simp only [Act.put,u1_,u2_,u3_,ax,ay];rfl
 refine bS (i:=10) (N:=(some 93)) (v:=?_) (a':=?_) #[Y_,Y_,Y_,Y_,Y_,Y_,Y_,Y_,Y_,Y_,Y_,N_,N_] rfl rfl (bf HT_.out (by kernel_rfl)) (fun _ _ _ h=>h) (Or.inl ⟨by rfl,?_⟩) ?_ ?_
 rotate_left; · intro w';go_simp;with_reducible rfl
 rotate_left; · simp only [Act.put,u1_,u2_,u3_,ax,ay];rfl
 refine bS (i:=11) (N:=(some 94)) (v:=?_) (a':=?_) #[Y_,Y_,Y_,Y_,Y_,Y_,Y_,Y_,Y_,Y_,Y_,Y_,N_] rfl rfl (bf HT_.out (by kernel_rfl)) (fun _ _ _ h=>h) (Or.inl ⟨by rfl,?_⟩) ?_ ?_
 rotate_left; · intro w';go_simp;with_reducible rfl
 rotate_left; · simp only [Act.put,u1_,u2_,u3_,ax,ay];rfl
 refine jI (i:=12) (N:=none) #[Y_,Y_,Y_,Y_,Y_,Y_,Y_,Y_,Y_,Y_,Y_,Y_,Y_] rfl rfl (dV HT_.out (by kernel_rfl)) (by decide) (fun K_ hK=>?_)
 have q0_:=Am_ (q0_.out.step (w1:=wa) ab_.out.size (fun k _ hlt=>ab_.out.block k hlt))
 have q1_:=Am_ (q1_.out.below ab_.out)
 have u4_:=Am_ (Kd.qP p4_.out)
 have u5_:=Am_ (Kd.qP p5_.out)
 have u6_:=Am_ (Kd.qP p6_.out)
 have p4_:=Am_ (Kd.dU p4_.out ab_.out)
 have p5_:=Am_ (Kd.dU p5_.out ab_.out)
 have p6_:=Am_ (Kd.dU p6_.out ab_.out)
 obtain ⟨cur,hcur,hcs⟩:=q0_.out.block
 have hfit:a.slots.length*10+10≤cur.size:=by
  have h1:=HIL.out
  have h2:(a7.slots.set a.slots.length { s7 with count:=cn }).length=a7.slots.length:=List.length_set
  rw [show ({ a7 with slots:=a7.slots.set a.slots.length { s7 with count:=cn } }:Ar).slots.length=a7.slots.length from h2] at hcs
  omega
 refine fB (w1:=wa.setCells g (a.slots.length*10) [.bool n.inner,.bool n.tagged,.slice A4 n.pairs.length cc4,.slice A5 n.keys.length cc5,.slice A6 n.ways.length cc6,.slice Aa n.ways.length cca,.int .i64 0,.bool false,.int .u32 cn,.bool true]) (by rfl) rfl ?hst ?_
 (case hst=>exact gq _ [.bool n.inner,.bool n.tagged,.slice A4 n.pairs.length cc4,.slice A5 n.keys.length cc5,.slice A6 n.ways.length cc6,.slice Aa n.ways.length cca,.int .i64 0,.bool false,.int .u32 cn,.bool true] rfl (by rfl) (by rfl) hcur rfl (by kernel_rfl) hfit (by intro u hu;simp only [List.mem_cons,List.not_mem_nil,or_false] at hu;rcases hu with rfl | rfl | rfl | rfl | rfl | rfl | rfl | rfl | rfl | rfl<;>rfl))
 refine hK.out _ _ ?_
 clear hK K_ hHeld c8 hcur hcs hfit
 refine dD (bI HT_.out (by kernel_rfl)) ?_
 clear HT_ HW_
 have t4_:=Kd.iR (by rfl) p4_.out
 have t5_:=Kd.iR (by rfl) p5_.out
 have t6_:=Kd.iR (by rfl) p6_.out
 have ta_:=Kd.iR (by rfl) ar_.out
 have b4_: ∀ k,some k=(Value.slice A4 n.pairs.length cc4).ownBlock→w3.heap.size≤k∧k<w9.heap.size:=fun k hk=>⟨Kd.iQ p4_.out k hk.symm,u4_.out k hk.symm⟩
 have b5_: ∀ k,some k=(Value.slice A5 n.keys.length cc5).ownBlock→w3.heap.size≤k∧k<w9.heap.size:=fun k hk=>⟨Nat.le_trans l4_.out (Kd.iQ p5_.out k hk.symm),u5_.out k hk.symm⟩
 have b6_: ∀ k,some k=(Value.slice A6 n.ways.length cc6).ownBlock→w3.heap.size≤k∧k<w9.heap.size:=fun k hk=>⟨Nat.le_trans l4_.out (Nat.le_trans l5_.out (Kd.iQ p6_.out k hk.symm)),u6_.out k hk.symm⟩
 have ba_: ∀ k,some k=(Value.slice Aa n.ways.length cca).ownBlock→w9.heap.size≤k∧k<wa.heap.size:=fun k hk=>⟨Kd.iQ ar_.out k hk.symm,Kd.qP ar_.out k hk.symm⟩
 have r4_:=(Kd.bM p4_.out).2.1
 have r5_:=(Kd.bM p5_.out).2.1
 have r6_:=(Kd.bM p6_.out).2.1
 have hsz:w3.heap.size≤w9.heap.size:=by have h1:=l4_.out;have h2:=l5_.out;have h3:=l6_.out;have h4:=s6_.out;omega
 have hL:=hL7.out
 generalize hpv:Value.slice A4 n.pairs.length cc4=pv at t4_ b4_
 generalize hkv:Value.slice A5 n.keys.length cc5=kv at t5_ b5_
 generalize hyv:Value.slice A6 n.ways.length cc6=yv at t6_ b6_
 generalize hwv:Value.slice Aa n.ways.length cca=wv at ta_ ba_
 have h11:=q0_.out.mono (ok1:=fun k=>ok7 k∨some k=pv.ownBlock∨some k=kv.ownBlock∨some k=yv.ownBlock∨some k=wv.ownBlock) (ρ1:=fun k=>if some k=wv.ownBlock then 4+a.slots.length else if (some k=pv.ownBlock∨some k=kv.ownBlock∨some k=yv.ownBlock) then 3 else ρ7 k) (fun k hk=> .inl hk) (fun k hk=>by
  have hab:=ab_.out.size
  rcases hk with hk | hk | hk | hk | hk
  ·exact q0_.out.lt k hk
  ·have:=b4_ k hk;omega
  ·have:=b5_ k hk;omega
  ·have:=b6_ k hk;omega
  ·have:=ba_ k hk;omega) (fun k hk=>by
  have h0:=hL k hk
  show (if some k=wv.ownBlock then 4+a.slots.length else if (some k=pv.ownBlock∨some k=kv.ownBlock∨some k=yv.ownBlock) then 3 else ρ7 k)=ρ7 k
  rw [if_neg (fun e=>by have:=ba_ k e;omega),if_neg (fun e=>e.elim (fun e=>by have:=b4_ k e;omega) (fun e=>e.elim (fun e=>by have:=b5_ k e;omega) (fun e=>by have:=b6_ k e;omega)))])
 have h3_: ∀ k,(some k=pv.ownBlock∨some k=kv.ownBlock∨some k=yv.ownBlock)→(ok7 k∨some k=pv.ownBlock∨some k=kv.ownBlock∨some k=yv.ownBlock∨some k=wv.ownBlock)∧(if some k=wv.ownBlock then 4+a.slots.length else if (some k=pv.ownBlock∨some k=kv.ownBlock∨some k=yv.ownBlock) then 3 else ρ7 k)=3:=fun k hk=>by
  refine ⟨?_,?_⟩
  ·rcases hk with hk | hk | hk
   ·exact .inr (.inl hk)
   ·exact .inr (.inr (.inl hk))
   ·exact .inr (.inr (.inr (.inl hk)))
  ·rw [if_neg (fun e=>by
    have h5:=ba_ k e
    rcases hk with hk | hk | hk
    ·have:=b4_ k hk;omega
    ·have:=b5_ k hk;omega
    ·have:=b6_ k hk;omega),if_pos hk]
 have h4_: ∀ k,some k=wv.ownBlock→(ok7 k∨some k=pv.ownBlock∨some k=kv.ownBlock∨some k=yv.ownBlock∨some k=wv.ownBlock)∧(if some k=wv.ownBlock then 4+a.slots.length else if (some k=pv.ownBlock∨some k=kv.ownBlock∨some k=yv.ownBlock) then 3 else ρ7 k)=4+a.slots.length:=fun k hk=>⟨.inr (.inr (.inr (.inr hk))),if_pos hk⟩
 have h12:=h11.seg hi9.out 0 [.bool n.inner,.bool n.tagged,.slice A4 n.pairs.length cc4,.slice A5 n.keys.length cc5,.slice A6 n.ways.length cc6,.slice Aa n.ways.length cca,.int .i64 0,.bool false,.int .u32 cn,.bool true] (by simp) (gX n cn) (fun j=>if j=a.slots.length then ⟨pv,kv,yv,wv⟩ else lv7 j) (fun j hj=>if_neg hj) (by show cB (gX n cn) (if a.slots.length=a.slots.length then _ else _)=_;rw [if_pos rfl,←hpv,←hkv,←hyv,←hwv];rfl)
  (by
   show qR wa _ n (if a.slots.length=a.slots.length then _ else _)
   rw [if_pos rfl]
   subst hpv hkv hyv
   exact ⟨⟨A4,cc4,rfl,r4_,Kd.dh (Kd.R_F t4_) (fun k hk=>h3_ k (.inl hk))⟩,⟨A5,cc5,rfl,r5_,Kd.dh (Kd.R_F t5_) (fun k hk=>h3_ k (.inr (.inl hk)))⟩,⟨A6,cc6,rfl,r6_,Kd.dh (Kd.R_F t6_) (fun k hk=>h3_ k (.inr (.inr hk)))⟩⟩)
  (by
   show (Kd.int .i64).R _ wa 0 _ (if a.slots.length=a.slots.length then _ else _:Lv).w n.ways
   rw [if_pos rfl]
   exact Kd.eX (Kd.bq ta_ h4_) (Nat.zero_le _))
 obtain ⟨lvz,ρz,h12⟩: ∃ lvz ρz,bT (fun k=>ok7 k∨some k=pv.ownBlock∨some k=kv.ownBlock∨some k=yv.ownBlock∨some k=wv.ownBlock) pA (.slice (some ⟨g,0,none⟩) (a.slots.length+1) cap5) fv7 lvz ρz { a7 with slots:=a7.slots.set a.slots.length (gX n cn) } (wa.setCells g (a.slots.length*10) [.bool n.inner,.bool n.tagged,.slice A4 n.pairs.length cc4,.slice A5 n.keys.length cc5,.slice A6 n.ways.length cc6,.slice Aa n.ways.length cca,.int .i64 0,.bool false,.int .u32 cn,.bool true]):=by
  have h13:=h12
  rw [show ({ a7 with slots:=a7.slots.set a.slots.length { s7 with count:=cn } }:Ar).slots=a7.slots.set a.slots.length { s7 with count:=cn } from rfl,List.set_set] at h13
  exact ⟨_,_,h13⟩
 have m12:Moves ok (fun k=>ok7 k∨some k=pv.ownBlock∨some k=kv.ownBlock∨some k=yv.ownBlock∨some k=wv.ownBlock) w (wa.setCells g (a.slots.length*10) [.bool n.inner,.bool n.tagged,.slice A4 n.pairs.length cc4,.slice A5 n.keys.length cc5,.slice A6 n.ways.length cc6,.slice Aa n.ways.length cca,.int .i64 0,.bool false,.int .u32 cn,.bool true]):=(jq q1_.out (q1_.out.fresh g HG.out) _ _).owns (fun k hk=>by
  have hw3:w.heap.size≤w3.heap.size:=by have:=HBB.out;have:=HBL.out;omega
  rcases hk with hk | hk | hk | hk | hk
  ·exact q1_.out.fresh k hk
  ·have:=b4_ k hk;exact .inr (by omega)
  ·have:=b5_ k hk;exact .inr (by omega)
  ·have:=b6_ k hk;exact .inr (by omega)
  ·have:=ba_ k hk;exact .inr (by omega))
 generalize hok:(fun k=>ok7 k∨some k=pv.ownBlock∨some k=kv.ownBlock∨some k=yv.ownBlock∨some k=wv.ownBlock)=ok12 at h12 m12
 have q0_:=Am_ h12
 have q1_:=Am_ m12
 clear h12 m12 h11 h3_ h4_ t4_ t5_ t6_ ta_ b4_ b5_ b6_ ba_ hL hsz hok
 subst hpv hkv hyv hwv
 generalize wa.setCells g (a.slots.length*10) [.bool n.inner,.bool n.tagged,.slice A4 n.pairs.length cc4,.slice A5 n.keys.length cc5,.slice A6 n.ways.length cc6,.slice Aa n.ways.length cca,.int .i64 0,.bool false,.int .u32 cn,.bool true]=wb at q0_ q1_ ⊢
 have c3:=(af q0_.out.box 3).trans (rfl:_=some (Value.int .i64 a7.used))
 have z3:=ah q0_.out.box 3
 go_upto_region 12 with fail
 have q0_:=Am_ (q0_.out.qd 3 (.int .i64 (wrap64 (a7.used+1))) (a7.put a.slots.length n cn) rfl rfl rfl)
 have q1_:ak (Moves ok ok12 w (wb.setCell ⟨pA,3,none⟩ (.int .i64 (wrap64 (a7.used+1))))):=⟨q1_.out.set (p:=⟨pA,3,none⟩) (q1_.out.fresh pA q0_.out.own) _⟩
 clear c3 z3
 generalize wb.setCell ⟨pA,3,none⟩ (.int .i64 (wrap64 (a7.used+1)))=wc at q0_ q1_ ⊢
 have hi12:(a7.put a.slots.length n cn).slots[a.slots.length]?=some (gX n cn):=List.getElem?_set_self HIL.out
 obtain ⟨_,g',e',_,_,hcc,_⟩:=q0_.out.cells hi12
 injection e' with e'
 injection e' with e' _ _
 subst e'
 have c8:=hcc 8 _ (rfl:_=some (Value.int .u32 cn))
 clear hcc hi12
 go_wp2_with (go_at_call 145;refine (vX _ cn _).mono ?_;rintro e w1 ⟨rfl,rfl⟩)
 go_ret2
 subst hcn
 exact ⟨rfl,ok12,⟨_,_,_,_,q0_.out⟩,q1_.out⟩
theorem vP:(Tryz.prog.info? 3).map (fun i=>(i.zero,i.size,i.bytes))=some (some (.int .i64 0),1,8):=by kernel_rfl
theorem NR (A:Option Addr) (n c:Nat) (W:World):(Instr.slice 85 (.slice A (n+1) c) (some (.int .i64 1)) none none).run Tryz.prog W= .ok (.slice (if c=1 then A else A.map (·.add 1)) n (c - 1)) W:=by
 have hel:(Tryz.prog).elem 85=3:=by kernel_rfl
 have hu:(Tryz.prog).underlying 85=some (.slice ((Tryz.prog).elem 85)):=by rw [hel];exact Tryz.underlying85
 have:=run_slice_l W 85 A (n+1) c hu .i64 1 (by omega) (by omega)
 obtain ⟨i0,hi,hz0,hz1,hz2⟩:=info_parts vP
 rw [this,hel]
 simp [sizeOf,typeInfo,hi,hz1,sliced,Result.andThen]
theorem sW {ok:Nat→Prop} {pA:Nat} {a:Ar} (n:Nd) (v:Value) (w:World) (h:dn ok pA a w) (hn:NdF (fun k=> ¬ ok k) n v w) (hx: ¬ a.most≤a.used) (ix:Nat) (fs:List Int) (hf:a.free=(ix:Int)::fs) (hl:a.slots.length<999999) (hnp:n.pairs.length<1000000) (hnk:n.keys.length<1000000) (hny:n.ways.length<1000000) (a7:Ar) (ha7: { a with free:=fs }=a7) (s7:Sl) (hs7:a.slots[ix]?=some s7):
  Calls Tryz.prog 93 #[.pointer (some ⟨pA,0,none⟩),v] w (kC ok pA (jQ ix (Gv (s7.count+1))) true (a7.put ix n (Gv (s7.count+1))) w):=by
 obtain ⟨sv,fv,lv,ρ,h⟩:=h
 obtain ⟨Ap,cp,Ak,ck,Ay,cy,rfl,hcp,hck,hcy,hp,hk,hy⟩:=hn
 have h1:=h.step (w1:=w.alloc (.cells #[.bool n.inner,.bool n.tagged,.slice Ap n.pairs.length cp,.slice Ak n.keys.length ck,.slice Ay n.ways.length cy] 157)) (by simp) (fun k _ hlt=>Below.heap_alloc _ _ _ hlt)
 have HI:=Am_ h1
 have HL:=Am_ h.lt
 have HB:=Am_ (bU w (.cells #[.bool n.inner,.bool n.tagged,.slice Ap n.pairs.length cp,.slice Ak n.keys.length ck,.slice Ay n.ways.length cy] 157))
 have HM:=Am_ ((Moves.refl ok w).alloc (.cells #[.bool n.inner,.bool n.tagged,.slice Ap n.pairs.length cp,.slice Ak n.keys.length ck,.slice Ay n.ways.length cy] 157))
 have HP:=Am_ (Kd.eD (Kd.dX hp) (.cells #[.bool n.inner,.bool n.tagged,.slice Ap n.pairs.length cp,.slice Ak n.keys.length ck,.slice Ay n.ways.length cy] 157))
 have HK:=Am_ (Kd.eD (Kd.dX hk) (.cells #[.bool n.inner,.bool n.tagged,.slice Ap n.pairs.length cp,.slice Ak n.keys.length ck,.slice Ay n.ways.length cy] 157))
 have HY:=Am_ (Kd.eD (Kd.dX hy) (.cells #[.bool n.inner,.bool n.tagged,.slice Ap n.pairs.length cp,.slice Ak n.keys.length ck,.slice Ay n.ways.length cy] 157))
 have d1:decide (a.used≥a.most)=false:=decide_eq_false hx
 have d1':decide (a.most≤a.used)=false:=d1
 clear h h1 hp hk hy hx
 go_enter Tryz.func93,Tryz.ntmps93
 go_upto_region 1 with fail
 generalize w.alloc (.cells #[.bool n.inner,.bool n.tagged,.slice Ap n.pairs.length cp,.slice Ak n.keys.length ck,.slice Ay n.ways.length cy] 157)=w1 at HI HB HM HP HK HY ⊢
 have c2:w1.cell? ⟨pA,2,none⟩=some (.int .i64 a.most):=(af HI.out.box 2).trans rfl
 have c3:w1.cell? ⟨pA,3,none⟩=some (.int .i64 a.used):=(af HI.out.box 3).trans rfl
 go_quiet (fail)
 rename_i nq
 have HI2:=Am_ (HI.out.step (w1:=w1.drewN nq) (Nat.le_refl _) (fun _ _ _=>rfl))
 have HB2:=Am_ (aG HB.out nq)
 have HM2:=Am_ (HM.out.drewN nq)
 have HP2:=Am_ (Kd.jX HP.out nq)
 have HK2:=Am_ (Kd.jX HK.out nq)
 have HY2:=Am_ (Kd.jX HY.out nq)
 clear HI HB HM HP HK HY c2 c3 d1 d1'
 generalize w1.drewN nq=w2 at HI2 HB2 HM2 HP2 HK2 HY2 ⊢
 obtain ⟨ad,cap,rfl⟩:=Kd.aJ HI2.out.rows
 rw [bZ] at HI2
 have hq:=HI2.out.free
 rw [hf] at hq
 obtain ⟨gf,of,cf,rfl,_,_,_⟩:=Kd.vo hq (by simp)
 have cf0:w2.cell? ⟨gf,of,none⟩=some (.int .i64 (ix:Int)):=by
  have h1:=(Kd.Kh (0:Int) hq 0 (by omega) (by simp)).1
  simpa [JH] using h1
 have hlen:((ix:Int)::fs).length=fs.length+1:=List.length_cons
 rw [hlen] at HI2
 have c0:w2.cell? ⟨pA,0,none⟩=some (.slice ad a.slots.length cap):=(af HI2.out.box 0).trans rfl
 have c1:w2.cell? ⟨pA,1,none⟩=some (.slice (some ⟨gf,of,none⟩) (fs.length+1) cf):=(af HI2.out.box 1).trans rfl
 have hcf:fs.length+1≤cf:=by have:=(Kd.jM hq).2.1;rw [hlen] at this;exact this
 have hcut: ∀ W:World,(Instr.slice 85 (.slice (some ⟨gf,of,none⟩) (fs.length+1) cf) (some (.int .i64 1)) none none).run Tryz.prog W= .ok (.slice (if cf=1 then some ⟨gf,of,none⟩ else (some (⟨gf,of,none⟩:Addr)).map (·.add 1)) fs.length (cf - 1)) W:=fun W=>NR _ _ _ W
 have hf':=Am_ hf
 have d0:decide (((fs.length+1:Nat):Int)>0)=true:=decide_eq_true (by omega)
 have d0':decide (0<fs.length+1)=true:=decide_eq_true (by omega)
 have e1:(0:Int)<((fs.length+1:Nat):Int):=by omega
 have e2:(0:Int)≤((fs.length+1:Nat):Int):=by omega
 clear hf hq hlen hcf
 go_upto_region 5 with fail
 refine jL (n:=16) (S:=fun w'=>w'.cell? ⟨pA,1,none⟩=some (.slice (some ⟨gf,of,none⟩) (fs.length+1) cf)∧w'.cell? ⟨gf,of,none⟩=some (.int .i64 (ix:Int))) (ds:= [15]) #[N_,N_,N_,N_,N_,N_,N_,N_,N_,N_,N_,N_,N_,N_,N_,N_] (by kernel_rfl) rfl rfl ⟨c1,cf0⟩ (fun hHeld=>?_);refine fU Ce wL (fun HT_ HW_=>?_)
 have HI2:=Am_ (HI2.out.step (w1:=w2.drew) (Nat.le_refl _) (fun _ _ _=>rfl))
 have HB2:=Am_ (aI HB2.out)
 have HM2:=Am_ HM2.out.drew
 have HP2:=Am_ (Kd.jB HP2.out)
 have HK2:=Am_ (Kd.jB HK2.out)
 have HY2:=Am_ (Kd.jB HY2.out)
 generalize World.drew _=w2 at HI2 HB2 HM2 HP2 HK2 HY2 hHeld ⊢
 refine bS (i:=0) (N:=(some 32)) (v:=?_) (a':=?_) #[Y_,N_,N_,N_,N_,N_,N_,N_,N_,N_,N_,N_,N_,N_,N_,N_] rfl rfl (bf HT_.out (by kernel_rfl)) (fun _ _ _ h=>h) (Or.inl ⟨by rfl,?_⟩) ?_ ?_
 rotate_left; · intro w';go_simp;with_reducible rfl
 rotate_left; · simp only [Act.put,u1_,u2_,u3_,ax,ay];rfl
 refine bS (i:=1) (N:=(some 33)) (v:=?_) (a':=?_) #[Y_,Y_,N_,N_,N_,N_,N_,N_,N_,N_,N_,N_,N_,N_,N_,N_] rfl rfl (bf HT_.out (by kernel_rfl)) (fun _ _ _ h=>h) (Or.inl ⟨by rfl,?_⟩) ?_ ?_
 rotate_left; · intro w';go_simp;with_reducible rfl
 rotate_left; · simp only [Act.put,u1_,u2_,u3_,ax,ay];rfl
 refine bS (i:=2) (N:=(some 34)) (v:=?_) (a':=?_) #[Y_,Y_,Y_,N_,N_,N_,N_,N_,N_,N_,N_,N_,N_,N_,N_,N_] rfl rfl (bf HT_.out (by kernel_rfl)) (fun _ _ _ h=>h) (Or.inl ⟨by rfl,?_⟩) ?_ ?_
 rotate_left; · intro w';go_simp;with_reducible rfl
 rotate_left; · simp only [Act.put,u1_,u2_,u3_,ax,ay];rfl
 refine bS (i:=3) (N:=(some 35)) (v:=?_) (a':=?_) #[Y_,Y_,Y_,Y_,N_,N_,N_,N_,N_,N_,N_,N_,N_,N_,N_,N_] rfl rfl (bf HT_.out (by kernel_rfl)) (fun _ _ _ h=>h) (Or.inl ⟨by rfl,?_⟩) ?_ ?_
 rotate_left; · intro w';go_simp;with_reducible rfl
 rotate_left; · simp only [Act.put,u1_,u2_,u3_,ax,ay];rfl
 refine fw (i:=4) (N:=(some 36)) (v:=?_) (a':=?_) #[Y_,Y_,Y_,Y_,Y_,N_,N_,N_,N_,N_,N_,N_,N_,N_,N_,N_] rfl rfl (bN HT_.out HW_.out (by kernel_rfl)) (fun _ _ _ h=>h) (Or.inl ⟨by rfl,?_⟩) hHeld ?_ ?_
 rotate_left; · rintro w' ⟨s0,s1⟩;go_simp;with_reducible rfl
 rotate_left; · simp only [Act.put,u1_,u2_,u3_,ax,ay];rfl
 refine bS (i:=5) (N:=(some 37)) (v:=?_) (a':=?_) #[Y_,Y_,Y_,Y_,Y_,Y_,N_,N_,N_,N_,N_,N_,N_,N_,N_,N_] rfl rfl (bf HT_.out (by kernel_rfl)) (fun _ _ _ h=>h) (Or.inl ⟨by rfl,?_⟩) ?_ ?_
 rotate_left; · intro w';go_simp;with_reducible rfl
 rotate_left; · simp only [Act.put,u1_,u2_,u3_,ax,ay];rfl
 refine fw (i:=6) (N:=(some 38)) (v:=?_) (a':=?_) #[Y_,Y_,Y_,Y_,Y_,Y_,Y_,N_,N_,N_,N_,N_,N_,N_,N_,N_] rfl rfl (bN HT_.out HW_.out (by kernel_rfl)) (fun _ _ _ h=>h) (Or.inl ⟨by rfl,?_⟩) hHeld ?_ ?_
 rotate_left; · rintro w' ⟨s0,s1⟩;go_simp;with_reducible rfl
 rotate_left; · simp only [Act.put,u1_,u2_,u3_,ax,ay];rfl
 refine bS (i:=7) (N:=(some 39)) (v:=?_) (a':=?_) #[Y_,Y_,Y_,Y_,Y_,Y_,Y_,Y_,N_,N_,N_,N_,N_,N_,N_,N_] rfl rfl (bf HT_.out (by kernel_rfl)) (fun _ _ _ h=>h) (Or.inl ⟨by rfl,?_⟩) ?_ ?_
 rotate_left; · intro w';go_simp;with_reducible rfl
 rotate_left; · simp only [Act.put,u1_,u2_,u3_,ax,ay];rfl
 refine bS (i:=8) (N:=(some 40)) (v:=?_) (a':=?_) #[Y_,Y_,Y_,Y_,Y_,Y_,Y_,Y_,Y_,N_,N_,N_,N_,N_,N_,N_] rfl rfl (bf HT_.out (by kernel_rfl)) (fun _ _ _ h=>h) (Or.inl ⟨by rfl,?_⟩) ?_ ?_
 rotate_left; · intro w';go_simp;with_reducible rfl
 rotate_left; · simp only [Act.put,u1_,u2_,u3_,ax,ay];rfl
 refine bS (i:=9) (N:=(some 41)) (v:=?_) (a':=?_) #[Y_,Y_,Y_,Y_,Y_,Y_,Y_,Y_,Y_,Y_,N_,N_,N_,N_,N_,N_] rfl rfl (bf HT_.out (by kernel_rfl)) (fun _ _ _ h=>h) (Or.inl ⟨by rfl,?_⟩) ?_ ?_
 rotate_left; · intro w';go_simp;with_reducible rfl
 rotate_left; · simp only [Act.put,u1_,u2_,u3_,ax,ay];rfl
 refine fw (i:=10) (N:=(some 42)) (v:=?_) (a':=?_) #[Y_,Y_,Y_,Y_,Y_,Y_,Y_,Y_,Y_,Y_,Y_,N_,N_,N_,N_,N_] rfl rfl (bN HT_.out HW_.out (by kernel_rfl)) (fun _ _ _ h=>h) (Or.inl ⟨by rfl,?_⟩) hHeld ?_ ?_
 rotate_left; · rintro w' ⟨s0,s1⟩;go_simp;with_reducible rfl
 rotate_left; · simp only [Act.put,u1_,u2_,u3_,ax,ay];rfl
 refine bS (i:=11) (N:=(some 43)) (v:=?_) (a':=?_) #[Y_,Y_,Y_,Y_,Y_,Y_,Y_,Y_,Y_,Y_,Y_,Y_,N_,N_,N_,N_] rfl rfl (bf HT_.out (by kernel_rfl)) (fun _ _ _ h=>h) (Or.inl ⟨by rfl,?_⟩) ?_ ?_
 rotate_left; · intro w';go_simp;with_reducible rfl
 rotate_left; · simp only [Act.put,u1_,u2_,u3_,ax,ay];rfl
 refine bS (i:=12) (N:=(some 6)) (v:=?_) (a':=?_) #[Y_,Y_,Y_,Y_,Y_,Y_,Y_,Y_,Y_,Y_,Y_,Y_,Y_,N_,N_,N_] rfl rfl (bf HT_.out (by kernel_rfl)) (fun _ _ _ h=>h) (Or.inl ⟨by rfl,?_⟩) ?_ ?_
 rotate_left; · intro w';go_simp;with_reducible rfl
 rotate_left; · simp only [Act.put,u1_,u2_,u3_,ax,ay];rfl
 refine bS (i:=13) (N:=(some 44)) (v:=?_) (a':=?_) #[Y_,Y_,Y_,Y_,Y_,Y_,Y_,Y_,Y_,Y_,Y_,Y_,Y_,Y_,N_,N_] rfl rfl (bf HT_.out (by kernel_rfl)) (fun _ _ _ h=>h) (Or.inl ⟨by rfl,?_⟩) ?_ ?_
 rotate_left; · intro w';go_simp;with_reducible rfl
 rotate_left; · simp only [Act.put,u1_,u2_,u3_,ax,ay];rfl
 refine bS (i:=14) (N:=(some 45)) (v:=?_) (a':=?_) #[Y_,Y_,Y_,Y_,Y_,Y_,Y_,Y_,Y_,Y_,Y_,Y_,Y_,Y_,Y_,N_] rfl rfl (bf HT_.out (by kernel_rfl)) (fun _ _ _ h=>h) (Or.inl ⟨by rfl,?_⟩) ?_ ?_
 rotate_left; · intro w';go_simp;with_reducible rfl
 rotate_left; · simp only [Act.put,u1_,u2_,u3_,ax,ay];rfl
 have z1:=ah HI2.out.box 1
 refine jI (i:=15) (N:=none) #[Y_,Y_,Y_,Y_,Y_,Y_,Y_,Y_,Y_,Y_,Y_,Y_,Y_,Y_,Y_,Y_] rfl rfl (dV HT_.out (by kernel_rfl)) (by decide) (fun K_ hK=>?_)
 refine fB (w1:=?_) (by rfl) rfl ?_ ?_
 rotate_left
 ·go_simp
  rfl
 refine hK.out _ _ ?_
 clear hK K_
 refine dD (bI HT_.out (by kernel_rfl)) ?_
 have q0_:ak (bT ok pA (.slice ad a.slots.length cap) (.slice (if cf=1 then some ⟨gf,of,none⟩ else some ⟨gf,of+1,none⟩) fs.length (cf - 1)) lv ρ { a with free:=fs } (w2.setCell ⟨pA,1,none⟩ (.slice (if cf=1 then some ⟨gf,of,none⟩ else some ⟨gf,of+1,none⟩) fs.length (cf - 1)))):=⟨HI2.out.popped hf'.out⟩
 have q1_:=Am_ (HM2.out.set (p:=⟨pA,1,none⟩) (.inl HI2.out.own) (.slice (if cf=1 then some ⟨gf,of,none⟩ else some ⟨gf,of+1,none⟩) fs.length (cf - 1)))
 have hpb:w.heap.size≠pA:=fun e=>by have:=HL.out pA HI2.out.own;omega
 have q2_:=Am_ (cO HB2.out (p:=⟨pA,1,none⟩) hpb (.slice (if cf=1 then some ⟨gf,of,none⟩ else some ⟨gf,of+1,none⟩) fs.length (cf - 1)))
 have hdp: ∀ k,(¬ ok k∧k<w.heap.size)→k≠pA:=fun k hk e=>hk.1 (e▸HI2.out.own)
 have q3_:=Am_ (Kd.kX HP2.out (p:=⟨pA,1,none⟩) hdp (.slice (if cf=1 then some ⟨gf,of,none⟩ else some ⟨gf,of+1,none⟩) fs.length (cf - 1)))
 have q4_:=Am_ (Kd.kX HK2.out (p:=⟨pA,1,none⟩) hdp (.slice (if cf=1 then some ⟨gf,of,none⟩ else some ⟨gf,of+1,none⟩) fs.length (cf - 1)))
 have q5_:=Am_ (Kd.kX HY2.out (p:=⟨pA,1,none⟩) hdp (.slice (if cf=1 then some ⟨gf,of,none⟩ else some ⟨gf,of+1,none⟩) fs.length (cf - 1)))
 have q6_:ak (¬ ok w.heap.size):=⟨fun hh=>by have:=HL.out _ hh;omega⟩
 have hi7:ak (a7.slots[ix]?=some s7):=⟨by rw [←ha7];exact hs7⟩
 have hl7:ix<a.slots.length:=(List.getElem?_eq_some_iff.1 hs7).1
 rw [ha7] at q0_
 clear HI2 HB2 HM2 HP2 HK2 HY2 hpb hdp c0 c1 cf0 hHeld z1 d0 d0' e1 e2 hcut
 generalize (Value.slice (if cf=1 then some ⟨gf,of,none⟩ else some ⟨gf,of+1,none⟩) fs.length (cf - 1))=fv7 at q0_ q1_ q2_ q3_ q4_ q5_ ⊢
 generalize w2.setCell ⟨pA,1,none⟩ fv7=w7 at q0_ q1_ q2_ q3_ q4_ q5_ ⊢
 obtain ⟨hn7,g,rfl,hg,hρ,hcc,hfz⟩:=q0_.out.cells hi7.out
 have HG:=Am_ hg
 have HR:=Am_ hρ
 have HN7:=Am_ hn7
 have HIL:=Am_ (List.getElem?_eq_some_iff.1 hi7.out).1
 have hb:w.heap.size<w7.heap.size:=bD q2_.out
 have HBL:=Am_ hb
 have hL7:=Am_ q0_.out.lt
 have c0:=(af q0_.out.box 0).trans (rfl:_=some (Value.slice (some ⟨g,0,none⟩) _ _))
 have b1:(0:Int)≤((ix:Nat):Int):=by omega
 have b2:((ix:Nat):Int)<((a.slots.length:Nat):Int):=by omega
 clear hg hρ hn7 hcc hfz hb
 go_upto_region 8 with fail
 clear c0
 generalize hbb:w.heap.size=b at q2_ q6_ HBL ⊢
 have HBB:=Am_ hbb
 clear hbb
 refine jL (n:=16) (S:=fun w'=>w'.cell? ⟨b,2,none⟩=some (.slice Ap n.pairs.length cp)∧w'.cell? ⟨b,3,none⟩=some (.slice Ak n.keys.length ck)∧w'.cell? ⟨b,4,none⟩=some (.slice Ay n.ways.length cy)) (ds:= [13,15]) #[N_,N_,N_,N_,N_,N_,N_,N_,N_,N_,N_,N_,N_,N_,N_,N_] (by kernel_rfl) rfl rfl ⟨(af q2_.out 2).trans rfl,(af q2_.out 3).trans rfl,(af q2_.out 4).trans rfl⟩ (fun hHeld=>?_);refine fU sJ oU (fun HT_ HW_=>?_)
 have q0_:=Am_ (q0_.out.step (w1:=w7.drew) (Nat.le_refl _) (fun _ _ _=>rfl))
 have q1_:=Am_ q1_.out.drew
 have q2_:=Am_ (aI q2_.out)
 have q3_:=Am_ (Kd.jB q3_.out)
 have q4_:=Am_ (Kd.jB q4_.out)
 have q5_:=Am_ (Kd.jB q5_.out)
 have HBL:ak (b<w7.drew.heap.size):=HBL
 have hL7:ak (∀ k,ok k→k<w7.drew.heap.size):=hL7
 generalize World.drew _=w3 at q0_ q1_ q2_ q3_ q4_ q5_ HBL hL7 hHeld ⊢
 refine bS (i:=0) (N:=(some 62)) (v:=?_) (a':=?_) #[Y_,N_,N_,N_,N_,N_,N_,N_,N_,N_,N_,N_,N_,N_,N_,N_] rfl rfl (bf HT_.out (by kernel_rfl)) (fun _ _ _ h=>h) (Or.inl ⟨by rfl,?_⟩) ?_ ?_
 rotate_left; · intro w';go_simp;with_reducible rfl
 rotate_left; · simp only [Act.put,u1_,u2_,u3_,ax,ay];rfl
 refine fw (i:=1) (N:=(some 63)) (v:=?_) (a':=?_) #[Y_,Y_,N_,N_,N_,N_,N_,N_,N_,N_,N_,N_,N_,N_,N_,N_] rfl rfl (bN HT_.out HW_.out (by kernel_rfl)) (fun _ _ _ h=>h) (Or.inl ⟨by rfl,?_⟩) hHeld ?_ ?_
 rotate_left; · rintro w' ⟨s0,s1,s2⟩;go_simp;with_reducible rfl
 rotate_left; · simp only [Act.put,u1_,u2_,u3_,ax,ay];rfl
 refine bS (i:=3) (N:=(some 65)) (v:=?_) (a':=?_) #[Y_,Y_,N_,Y_,N_,N_,N_,N_,N_,N_,N_,N_,N_,N_,N_,N_] rfl rfl (bf HT_.out (by kernel_rfl)) (fun _ _ _ h=>h) (Or.inl ⟨by rfl,?_⟩) ?_ ?_
 rotate_left; · intro w';go_simp;with_reducible rfl
 rotate_left; · simp only [Act.put,u1_,u2_,u3_,ax,ay];rfl
 refine bS (i:=4) (N:=(some 66)) (v:=?_) (a':=?_) #[Y_,Y_,N_,Y_,Y_,N_,N_,N_,N_,N_,N_,N_,N_,N_,N_,N_] rfl rfl (bf HT_.out (by kernel_rfl)) (fun _ _ _ h=>h) (Or.inl ⟨by rfl,?_⟩) ?_ ?_
 rotate_left; · intro w';go_simp;with_reducible rfl
 rotate_left; · simp only [Act.put,u1_,u2_,u3_,ax,ay];rfl
 refine fw (i:=5) (N:=(some 67)) (v:=?_) (a':=?_) #[Y_,Y_,N_,Y_,Y_,Y_,N_,N_,N_,N_,N_,N_,N_,N_,N_,N_] rfl rfl (bN HT_.out HW_.out (by kernel_rfl)) (fun _ _ _ h=>h) (Or.inl ⟨by rfl,?_⟩) hHeld ?_ ?_
 rotate_left; · rintro w' ⟨s0,s1,s2⟩;go_simp;with_reducible rfl
 rotate_left; · simp only [Act.put,u1_,u2_,u3_,ax,ay];rfl
 refine bS (i:=7) (N:=(some 69)) (v:=?_) (a':=?_) #[Y_,Y_,N_,Y_,Y_,Y_,N_,Y_,N_,N_,N_,N_,N_,N_,N_,N_] rfl rfl (bf HT_.out (by kernel_rfl)) (fun _ _ _ h=>h) (Or.inl ⟨by rfl,?_⟩) ?_ ?_
 rotate_left; · intro w';go_simp;with_reducible rfl
 rotate_left; · simp only [Act.put,u1_,u2_,u3_,ax,ay];rfl
 refine bS (i:=8) (N:=(some 70)) (v:=?_) (a':=?_) #[Y_,Y_,N_,Y_,Y_,Y_,N_,Y_,Y_,N_,N_,N_,N_,N_,N_,N_] rfl rfl (bf HT_.out (by kernel_rfl)) (fun _ _ _ h=>h) (Or.inl ⟨by rfl,?_⟩) ?_ ?_
 rotate_left; · intro w';go_simp;with_reducible rfl
 rotate_left; · simp only [Act.put,u1_,u2_,u3_,ax,ay];rfl
 refine fw (i:=9) (N:=(some 71)) (v:=?_) (a':=?_) #[Y_,Y_,N_,Y_,Y_,Y_,N_,Y_,Y_,Y_,N_,N_,N_,N_,N_,N_] rfl rfl (bN HT_.out HW_.out (by kernel_rfl)) (fun _ _ _ h=>h) (Or.inl ⟨by rfl,?_⟩) hHeld ?_ ?_
 rotate_left; · rintro w' ⟨s0,s1,s2⟩;go_simp;with_reducible rfl
 rotate_left; · simp only [Act.put,u1_,u2_,u3_,ax,ay];rfl
 refine nS (i:=2) (N:=(some 64)) #[Y_,Y_,Y_,Y_,Y_,Y_,N_,Y_,Y_,Y_,N_,N_,N_,N_,N_,N_] rfl rfl (dV HT_.out (by kernel_rfl)) (by decide) (fun K_ hK=>?_)
 refine call_ 75 #[.slice Ap n.pairs.length cp] (by rfl) rfl ?hrun2 ?_
 (case hrun2=>first | (go_simp;done) | (go_simp;exact enters Tryz.func75 (by kernel_rfl) rfl _ _))
 refine (fZ Ap n.pairs.length cp n.pairs _ (Kd.gu q3_.out) hnp).mono ?_
 rintro e w4 ⟨v4,rfl,hR4,hB4⟩
 obtain ⟨A4,cc4,rfl⟩:=Kd.aJ hR4
 have mr_:=Am_ hR4
 have mb_:=Am_ hB4
 have m2_:=Am_ (bF q2_.out hB4)
 have m4_:=Am_ (Kd.gY q4_.out hB4)
 have m5_:=Am_ (Kd.gY q5_.out hB4)
 clear hR4 hB4
 refine ⟨_,rfl,?_⟩
 refine hK.out _ _ ⟨(af m2_.out 2).trans rfl,(af m2_.out 3).trans rfl,(af m2_.out 4).trans rfl⟩ (fun hHeld=>?_)
 clear hK K_
 refine bK (a':=?_) ?_ ?_
 rotate_left; · show Act.put _ (some 64) _=_;simp only [Act.put,u1_,u2_,u3_,ax,ay];rfl
 refine bS (i:=12) (N:=(some 74)) (v:=?_) (a':=?_) #[Y_,Y_,Y_,Y_,Y_,Y_,N_,Y_,Y_,Y_,N_,N_,Y_,N_,N_,N_] rfl rfl (bf HT_.out (by kernel_rfl)) (fun _ _ _ h=>h) (Or.inl ⟨by rfl,?_⟩) ?_ ?_
 rotate_left; · intro w';go_simp;with_reducible rfl
 rotate_left; · simp only [Act.put,u1_,u2_,u3_,ax,ay];rfl
 refine nS (i:=6) (N:=(some 68)) #[Y_,Y_,Y_,Y_,Y_,Y_,Y_,Y_,Y_,Y_,N_,N_,Y_,N_,N_,N_] rfl rfl (dV HT_.out (by kernel_rfl)) (by decide) (fun K_ hK=>?_)
 refine call_ 143 #[.slice Ak n.keys.length ck] (by rfl) rfl ?hrun6 ?_
 (case hrun6=>first | (go_simp;done) | (go_simp;exact enters Tryz.func143 (by kernel_rfl) rfl _ _))
 refine (jg Ak n.keys.length ck n.keys _ (Kd.gu m4_.out) hnk).mono ?_
 rintro e w5 ⟨v5,rfl,hR5,hB5⟩
 obtain ⟨A5,cc5,rfl⟩:=Kd.aJ hR5
 have jr_:=Am_ hR5
 have jb_:=Am_ hB5
 have j2_:=Am_ (bF m2_.out hB5)
 have j5_:=Am_ (Kd.gY m5_.out hB5)
 clear hR5 hB5
 refine ⟨_,rfl,?_⟩
 refine hK.out _ _ ⟨(af j2_.out 2).trans rfl,(af j2_.out 3).trans rfl,(af j2_.out 4).trans rfl⟩ (fun hHeld=>?_)
 clear hK K_
 refine bK (a':=?_) ?_ ?_
 rotate_left; · show Act.put _ (some 68) _=_;simp only [Act.put,u1_,u2_,u3_,ax,ay];rfl
 refine nS (i:=10) (N:=(some 72)) #[Y_,Y_,Y_,Y_,Y_,Y_,Y_,Y_,Y_,Y_,Y_,N_,Y_,N_,N_,N_] rfl rfl (dV HT_.out (by kernel_rfl)) (by decide) (fun K_ hK=>?_)
 refine call_ 144 #[.slice Ay n.ways.length cy] (by rfl) rfl ?hrun10 ?_
 (case hrun10=>first | (go_simp;done) | (go_simp;exact enters Tryz.func144 (by kernel_rfl) rfl _ _))
 refine (gP Ay n.ways.length cy n.ways _ (Kd.gu j5_.out) hny).mono ?_
 rintro e w6 ⟨v6,rfl,hR6,hB6⟩
 obtain ⟨A6,cc6,rfl⟩:=Kd.aJ hR6
 have ir_:=Am_ hR6
 have ib_:=Am_ hB6
 have i2_:=Am_ (bF j2_.out hB6)
 clear hR6 hB6
 refine ⟨_,rfl,?_⟩
 refine hK.out _ _ ⟨(af i2_.out 2).trans rfl,(af i2_.out 3).trans rfl,(af i2_.out 4).trans rfl⟩ (fun hHeld=>?_)
 clear hK K_
 refine bK (a':=?_) ?_ ?_
 rotate_left; · show Act.put _ (some 72) _=_;simp only [Act.put,u1_,u2_,u3_,ax,ay];rfl
 refine bS (i:=11) (N:=(some 73)) (v:=?_) (a':=?_) #[Y_,Y_,Y_,Y_,Y_,Y_,Y_,Y_,Y_,Y_,Y_,Y_,Y_,N_,N_,N_] rfl rfl (bf HT_.out (by kernel_rfl)) (fun _ _ _ h=>h) (Or.inl ⟨by rfl,?_⟩) ?_ ?_
 rotate_left; · intro w';go_simp;with_reducible rfl
 rotate_left; · simp only [Act.put,u1_,u2_,u3_,ax,ay];rfl
 have z2:=ah i2_.out 2
 have z3:=ah i2_.out 3
 have z4:=ah i2_.out 4
 refine jI (i:=13) (N:=none) #[Y_,Y_,Y_,Y_,Y_,Y_,Y_,Y_,Y_,Y_,Y_,Y_,Y_,Y_,N_,N_] rfl rfl (dV HT_.out (by kernel_rfl)) (by decide) (fun K_ hK=>?_)
 refine fB (w1:=?_) (by rfl) rfl ?_ ?_
 rotate_left
 ·go_simp
  rfl
 refine hK.out _ _ ?_
 clear hK K_
 refine bS (i:=14) (N:=(some 75)) (v:=?_) (a':=?_) #[Y_,Y_,Y_,Y_,Y_,Y_,Y_,Y_,Y_,Y_,Y_,Y_,Y_,Y_,Y_,N_] rfl rfl (bf HT_.out (by kernel_rfl)) (fun _ _ _ h=>h) (Or.inl ⟨by rfl,?_⟩) ?_ ?_
 rotate_left; · intro w';go_simp;with_reducible rfl
 rotate_left; · simp only [Act.put,u1_,u2_,u3_,ax,ay];rfl
 refine jI (i:=15) (N:=none) #[Y_,Y_,Y_,Y_,Y_,Y_,Y_,Y_,Y_,Y_,Y_,Y_,Y_,Y_,Y_,Y_] rfl rfl (dV HT_.out (by kernel_rfl)) (by decide) (fun K_ hK=>?_)
 refine fB (w1:=?_) (by rfl) rfl ?_ ?_
 rotate_left
 ·go_simp
  rfl
 refine hK.out _ _ ?_
 clear hK K_
 refine dD (bI HT_.out (by kernel_rfl)) ?_
 have B36:=aY (aY mb_.out mb_.out.size jb_.out) (aY mb_.out mb_.out.size jb_.out).size ib_.out
 have hnb: ∀ k,ok k→k≠b:=fun k hk e=>q6_.out (e▸hk)
 have a6_:=q0_.out.step (w1:=w6) B36.size (fun k _ hlt=>B36.block k hlt)
 have q0_:=Am_ (a6_.step (w1:=((w6.setCell ⟨b,2,none⟩ (.slice A4 n.pairs.length cc4)).setCell ⟨b,3,none⟩ (.slice A5 n.keys.length cc5)).setCell ⟨b,4,none⟩ (.slice A6 n.ways.length cc6)) (by simp [World.setCell]) (fun k hk _=>(Below.heap_setCell _ ⟨b,4,none⟩ _ k (hnb k hk)).trans ((Below.heap_setCell _ ⟨b,3,none⟩ _ k (hnb k hk)).trans (Below.heap_setCell _ ⟨b,2,none⟩ _ k (hnb k hk)))))
 have q2_:=Am_ (bH (bH (bH i2_.out 2 (.slice A4 n.pairs.length cc4)) 3 (.slice A5 n.keys.length cc5)) 4 (.slice A6 n.ways.length cc6))
 have hbw:w.heap.size≤b:=by rw [HBB.out];exact Nat.le_refl _
 have q1_:=Am_ ((((q1_.out.below B36).set (p:=⟨b,2,none⟩) (.inr hbw) (.slice A4 n.pairs.length cc4)).set (p:=⟨b,3,none⟩) (.inr hbw) (.slice A5 n.keys.length cc5)).set (p:=⟨b,4,none⟩) (.inr hbw) (.slice A6 n.ways.length cc6))
 have hlt3:=HBL.out
 have hq: ∀ N,w3.heap.size≤N→ ∀ q,N≤q→q≠b:=fun N h1 q h2=>by omega
 have p4_:=Am_ (Kd.bV (Kd.bV (Kd.bV (Kd.dU (Kd.dU mr_.out jb_.out) ib_.out) (p:=⟨b,2,none⟩) (hq _ (Nat.le_refl _)) (.slice A4 n.pairs.length cc4)) (p:=⟨b,3,none⟩) (hq _ (Nat.le_refl _)) (.slice A5 n.keys.length cc5)) (p:=⟨b,4,none⟩) (hq _ (Nat.le_refl _)) (.slice A6 n.ways.length cc6))
 have p5_:=Am_ (Kd.bV (Kd.bV (Kd.bV (Kd.dU jr_.out ib_.out) (p:=⟨b,2,none⟩) (hq _ mb_.out.size) (.slice A4 n.pairs.length cc4)) (p:=⟨b,3,none⟩) (hq _ mb_.out.size) (.slice A5 n.keys.length cc5)) (p:=⟨b,4,none⟩) (hq _ mb_.out.size) (.slice A6 n.ways.length cc6))
 have p6_:=Am_ (Kd.bV (Kd.bV (Kd.bV ir_.out (p:=⟨b,2,none⟩) (hq _ (Nat.le_trans mb_.out.size jb_.out.size)) (.slice A4 n.pairs.length cc4)) (p:=⟨b,3,none⟩) (hq _ (Nat.le_trans mb_.out.size jb_.out.size)) (.slice A5 n.keys.length cc5)) (p:=⟨b,4,none⟩) (hq _ (Nat.le_trans mb_.out.size jb_.out.size)) (.slice A6 n.ways.length cc6))
 have hLT7:ak (∀ k,ok k→k<w3.heap.size):=⟨fun k hk=>by have:=q0_.out.lt k hk;exact hL7.out k hk⟩
 have l4_:=Am_ mb_.out.size
 have l5_:=Am_ jb_.out.size
 have l6_:=Am_ ib_.out.size
 have s6_:ak ((((w6.setCell ⟨b,2,none⟩ (.slice A4 n.pairs.length cc4)).setCell ⟨b,3,none⟩ (.slice A5 n.keys.length cc5)).setCell ⟨b,4,none⟩ (.slice A6 n.ways.length cc6)).heap.size=w6.heap.size):=⟨by simp [World.setCell]⟩
 clear hq hlt3 hbw hnb B36 a6_ hHeld z2 z3 z4
 generalize ((w6.setCell ⟨b,2,none⟩ (.slice A4 n.pairs.length cc4)).setCell ⟨b,3,none⟩ (.slice A5 n.keys.length cc5)).setCell ⟨b,4,none⟩ (.slice A6 n.ways.length cc6)=w8 at q0_ q1_ q2_ p4_ p5_ p6_ s6_ ⊢
 obtain ⟨_,g',e',_,_,hcc,hfz⟩:=q0_.out.cells hi7.out
 injection e' with e'
 injection e' with e' _ _
 subst e'
 have c8:=hcc 8 _ rfl
 have z8:=hfz 8
 have HC:=Am_ hcc
 clear hcc hfz
 go_upto_region 10 with fail
 have hN8:=q0_.out.node _ _ hi7.out
 have hW8:=q0_.out.ways _ _ hi7.out
 have q0_:=Am_ (q0_.out.seg hi7.out 8 [.int .u32 ((s7.count+1) % 4294967296)] (by simp) { s7 with count:=(s7.count+1) % 4294967296 } lv (fun _ _=>rfl) rfl hN8 hW8)
 have hgb:b≠g:=fun e=>q6_.out (e▸HG.out)
 have q2_:=Am_ (cO q2_.out (p:=⟨g,ix*10+8,none⟩) hgb (.int .u32 ((s7.count+1) % 4294967296)))
 have q1_:=Am_ (q1_.out.set (p:=⟨g,ix*10+8,none⟩) (q1_.out.fresh g HG.out) (.int .u32 ((s7.count+1) % 4294967296)))
 have hq: ∀ N,w3.heap.size≤N→ ∀ q,N≤q→q≠g:=fun N h1 q h2 e=>by have:=hL7.out g HG.out;omega
 have p4_:=Am_ (Kd.bV p4_.out (p:=⟨g,ix*10+8,none⟩) (hq _ (Nat.le_refl _)) (.int .u32 ((s7.count+1) % 4294967296)))
 have p5_:=Am_ (Kd.bV p5_.out (p:=⟨g,ix*10+8,none⟩) (hq _ l4_.out) (.int .u32 ((s7.count+1) % 4294967296)))
 have p6_:=Am_ (Kd.bV p6_.out (p:=⟨g,ix*10+8,none⟩) (hq _ (Nat.le_trans l4_.out l5_.out)) (.int .u32 ((s7.count+1) % 4294967296)))
 have s6_:ak ((w8.setCell ⟨g,ix*10+8,none⟩ (.int .u32 ((s7.count+1) % 4294967296))).heap.size=w6.heap.size):=⟨by rw [←s6_.out];simp [World.setCell]⟩
 have q0_:ak (bT ok pA _ fv7 lv ρ _ (w8.setCell ⟨g,ix*10+8,none⟩ (.int .u32 ((s7.count+1) % 4294967296)))):=q0_
 clear hgb hN8 hW8 c8 z8 HC
 generalize w8.setCell ⟨g,ix*10+8,none⟩ (.int .u32 ((s7.count+1) % 4294967296))=w9 at q0_ q1_ q2_ p4_ p5_ p6_ s6_ ⊢
 generalize hcn:(s7.count+1) % 4294967296=cn at q0_ ⊢
 have hi9:ak ((a7.slots.set ix { s7 with count:=cn })[ix]?=some { s7 with count:=cn }):=⟨List.getElem?_set_self HIL.out⟩
 obtain ⟨_,g',e',_,_,hcc,hfz⟩:=q0_.out.cells hi9.out
 injection e' with e'
 injection e' with e' _ _
 subst e'
 have c8:=hcc 8 _ rfl
 have HC:=Am_ hcc
 clear hcc hfz hq
 refine jL (n:=13) (S:=fun w'=>w'.cell? ⟨b,0,none⟩=some (.bool n.inner)∧w'.cell? ⟨b,1,none⟩=some (.bool n.tagged)∧w'.cell? ⟨b,2,none⟩=some (.slice A4 n.pairs.length cc4)∧w'.cell? ⟨b,3,none⟩=some (.slice A5 n.keys.length cc5)∧w'.cell? ⟨b,4,none⟩=some (.slice A6 n.ways.length cc6)∧w'.cell? ⟨g,ix*10+8,none⟩=some (.int .u32 cn)) (ds:= [12]) #[N_,N_,N_,N_,N_,N_,N_,N_,N_,N_,N_,N_,N_] (by kernel_rfl) rfl rfl ⟨(af q2_.out 0).trans rfl,(af q2_.out 1).trans rfl,(af q2_.out 2).trans rfl,(af q2_.out 3).trans rfl,(af q2_.out 4).trans rfl,c8⟩ (fun hHeld=>?_);refine fU pK mU (fun HT_ HW_=>?_)
 have q0_:=Am_ (q0_.out.step (w1:=w9.drew) (Nat.le_refl _) (fun _ _ _=>rfl))
 have q1_:=Am_ q1_.out.drew
 have q2_:=Am_ (aI q2_.out)
 have p4_:=Am_ (Kd.gF p4_.out)
 have p5_:=Am_ (Kd.gF p5_.out)
 have p6_:=Am_ (Kd.gF p6_.out)
 have s6_:ak (w9.drew.heap.size=w6.heap.size):=s6_
 have c8:w9.drew.cell? _=_:=c8
 clear HC
 generalize World.drew _=w9 at q0_ q1_ q2_ p4_ p5_ p6_ s6_ c8 hHeld ⊢
 refine bS (i:=0) (N:=(some 83)) (v:=?_) (a':=?_) #[Y_,N_,N_,N_,N_,N_,N_,N_,N_,N_,N_,N_,N_] rfl rfl (bf HT_.out (by kernel_rfl)) (fun _ _ _ h=>h) (Or.inl ⟨by rfl,?_⟩) ?_ ?_
 rotate_left; · intro w';go_simp;with_reducible rfl
 rotate_left; · simp only [Act.put,u1_,u2_,u3_,ax,ay];rfl
 refine fw (i:=1) (N:=(some 84)) (v:=?_) (a':=?_) #[Y_,Y_,N_,N_,N_,N_,N_,N_,N_,N_,N_,N_,N_] rfl rfl (bN HT_.out HW_.out (by kernel_rfl)) (fun _ _ _ h=>h) (Or.inl ⟨by rfl,?_⟩) hHeld ?_ ?_
 rotate_left; · rintro w' ⟨s0,s1,s2,s3,s4,s5⟩;go_simp;with_reducible rfl
 rotate_left; · simp only [Act.put,u1_,u2_,u3_,ax,ay];rfl
 refine bS (i:=2) (N:=(some 85)) (v:=?_) (a':=?_) #[Y_,Y_,Y_,N_,N_,N_,N_,N_,N_,N_,N_,N_,N_] rfl rfl (bf HT_.out (by kernel_rfl)) (fun _ _ _ h=>h) (Or.inl ⟨by rfl,?_⟩) ?_ ?_
 rotate_left; · intro w';go_simp;with_reducible rfl
 rotate_left; · simp only [Act.put,u1_,u2_,u3_,ax,ay];rfl
 refine bS (i:=3) (N:=(some 86)) (v:=?_) (a':=?_) #[Y_,Y_,Y_,Y_,N_,N_,N_,N_,N_,N_,N_,N_,N_] rfl rfl (bf HT_.out (by kernel_rfl)) (fun _ _ _ h=>h) (Or.inl ⟨by rfl,?_⟩) ?_ ?_
 rotate_left; · intro w';go_simp;with_reducible rfl
 rotate_left; · simp only [Act.put,u1_,u2_,u3_,ax,ay];rfl
 refine fw (i:=4) (N:=(some 87)) (v:=?_) (a':=?_) #[Y_,Y_,Y_,Y_,Y_,N_,N_,N_,N_,N_,N_,N_,N_] rfl rfl (bN HT_.out HW_.out (by kernel_rfl)) (fun _ _ _ h=>h) (Or.inl ⟨by rfl,?_⟩) hHeld ?_ ?_
 rotate_left; · rintro w' ⟨s0,s1,s2,s3,s4,s5⟩;go_simp;with_reducible rfl
 rotate_left; · simp only [Act.put,u1_,u2_,u3_,ax,ay];rfl
 refine bS (i:=6) (N:=(some 89)) (v:=?_) (a':=?_) #[Y_,Y_,Y_,Y_,Y_,N_,Y_,N_,N_,N_,N_,N_,N_] rfl rfl (bf HT_.out (by kernel_rfl)) (fun _ _ _ h=>h) (Or.inl ⟨by rfl,?_⟩) ?_ ?_
 rotate_left; · intro w';go_simp;with_reducible rfl
 rotate_left; · simp only [Act.put,u1_,u2_,u3_,ax,ay];rfl
 refine bS (i:=7) (N:=(some 90)) (v:=?_) (a':=?_) #[Y_,Y_,Y_,Y_,Y_,N_,Y_,Y_,N_,N_,N_,N_,N_] rfl rfl (bf HT_.out (by kernel_rfl)) (fun _ _ _ h=>h) (Or.inl ⟨by rfl,?_⟩) ?_ ?_
 rotate_left; · intro w';go_simp;with_reducible rfl
 rotate_left; · simp only [Act.put,u1_,u2_,u3_,ax,ay];rfl
 refine bS (i:=8) (N:=(some 91)) (v:=?_) (a':=?_) #[Y_,Y_,Y_,Y_,Y_,N_,Y_,Y_,Y_,N_,N_,N_,N_] rfl rfl (bf HT_.out (by kernel_rfl)) (fun _ _ _ h=>h) (Or.inl ⟨by rfl,?_⟩) ?_ ?_
 rotate_left; · intro w';go_simp;with_reducible rfl
 rotate_left; · simp only [Act.put,u1_,u2_,u3_,ax,ay];rfl
 refine fw (i:=9) (N:=(some 92)) (v:=?_) (a':=?_) #[Y_,Y_,Y_,Y_,Y_,N_,Y_,Y_,Y_,Y_,N_,N_,N_] rfl rfl (bN HT_.out HW_.out (by kernel_rfl)) (fun _ _ _ h=>h) (Or.inl ⟨by rfl,?_⟩) hHeld ?_ ?_
 rotate_left; · rintro w' ⟨s0,s1,s2,s3,s4,s5⟩;go_simp;with_reducible rfl
 rotate_left; · simp only [Act.put,u1_,u2_,u3_,ax,ay];rfl
 refine nS (i:=5) (N:=(some 88)) #[Y_,Y_,Y_,Y_,Y_,Y_,Y_,Y_,Y_,Y_,N_,N_,N_] rfl rfl (dV HT_.out (by kernel_rfl)) (by decide) (fun K_ hK=>?_)
 refine call_ 144 #[.slice A6 n.ways.length cc6] (by rfl) rfl ?hrun5 ?_
 (case hrun5=>first | (go_simp;done) | (go_simp;exact enters Tryz.func144 (by kernel_rfl) rfl _ _))
 refine (gP A6 n.ways.length cc6 n.ways _ (Kd.bM p6_.out).2.2 hny).mono ?_
 rintro e wa ⟨va,rfl,hRa,hBa⟩
 obtain ⟨Aa,cca,rfl⟩:=Kd.aJ hRa
 have ar_:=Am_ hRa
 have ab_:=Am_ hBa
 have a2_:=Am_ (bF q2_.out hBa)
 have c8:=aj hBa c8
 clear hRa hBa
 refine ⟨_,rfl,?_⟩
 refine hK.out _ _ ⟨(af a2_.out 0).trans rfl,(af a2_.out 1).trans rfl,(af a2_.out 2).trans rfl,(af a2_.out 3).trans rfl,(af a2_.out 4).trans rfl,c8⟩ (fun hHeld=>?_)
 clear hK K_
 refine bK (a':=?_) ?_ ?_
 rotate_left; · show Act.put _ (some 88) _=_;simp only [Act.put,u1_,u2_,u3_,ax,ay];rfl
 refine bS (i:=10) (N:=(some 93)) (v:=?_) (a':=?_) #[Y_,Y_,Y_,Y_,Y_,Y_,Y_,Y_,Y_,Y_,Y_,N_,N_] rfl rfl (bf HT_.out (by kernel_rfl)) (fun _ _ _ h=>h) (Or.inl ⟨by rfl,?_⟩) ?_ ?_
 rotate_left; · intro w';go_simp;with_reducible rfl
 rotate_left; · simp only [Act.put,u1_,u2_,u3_,ax,ay];rfl
 refine bS (i:=11) (N:=(some 94)) (v:=?_) (a':=?_) #[Y_,Y_,Y_,Y_,Y_,Y_,Y_,Y_,Y_,Y_,Y_,Y_,N_] rfl rfl (bf HT_.out (by kernel_rfl)) (fun _ _ _ h=>h) (Or.inl ⟨by rfl,?_⟩) ?_ ?_
 rotate_left; · intro w';go_simp;with_reducible rfl
 rotate_left; · simp only [Act.put,u1_,u2_,u3_,ax,ay];rfl
 refine jI (i:=12) (N:=none) #[Y_,Y_,Y_,Y_,Y_,Y_,Y_,Y_,Y_,Y_,Y_,Y_,Y_] rfl rfl (dV HT_.out (by kernel_rfl)) (by decide) (fun K_ hK=>?_)
 have q0_:=Am_ (q0_.out.step (w1:=wa) ab_.out.size (fun k _ hlt=>ab_.out.block k hlt))
 have q1_:=Am_ (q1_.out.below ab_.out)
 have u4_:=Am_ (Kd.qP p4_.out)
 have u5_:=Am_ (Kd.qP p5_.out)
 have u6_:=Am_ (Kd.qP p6_.out)
 have p4_:=Am_ (Kd.dU p4_.out ab_.out)
 have p5_:=Am_ (Kd.dU p5_.out ab_.out)
 have p6_:=Am_ (Kd.dU p6_.out ab_.out)
 obtain ⟨cur,hcur,hcs⟩:=q0_.out.block
 have hfit:ix*10+10≤cur.size:=by
  have h1:=HIL.out
  have h2:(a7.slots.set ix { s7 with count:=cn }).length=a7.slots.length:=List.length_set
  rw [show ({ a7 with slots:=a7.slots.set ix { s7 with count:=cn } }:Ar).slots.length=a7.slots.length from h2] at hcs
  omega
 refine fB (w1:=wa.setCells g (ix*10) [.bool n.inner,.bool n.tagged,.slice A4 n.pairs.length cc4,.slice A5 n.keys.length cc5,.slice A6 n.ways.length cc6,.slice Aa n.ways.length cca,.int .i64 0,.bool false,.int .u32 cn,.bool true]) (by rfl) rfl ?hst ?_
 (case hst=>exact gq _ [.bool n.inner,.bool n.tagged,.slice A4 n.pairs.length cc4,.slice A5 n.keys.length cc5,.slice A6 n.ways.length cc6,.slice Aa n.ways.length cca,.int .i64 0,.bool false,.int .u32 cn,.bool true] rfl (by rfl) (by rfl) hcur rfl (by kernel_rfl) hfit (by intro u hu;simp only [List.mem_cons,List.not_mem_nil,or_false] at hu;rcases hu with rfl | rfl | rfl | rfl | rfl | rfl | rfl | rfl | rfl | rfl<;>rfl))
 refine hK.out _ _ ?_
 clear hK K_ hHeld c8 hcur hcs hfit
 refine dD (bI HT_.out (by kernel_rfl)) ?_
 clear HT_ HW_
 have t4_:=Kd.iR (by rfl) p4_.out
 have t5_:=Kd.iR (by rfl) p5_.out
 have t6_:=Kd.iR (by rfl) p6_.out
 have ta_:=Kd.iR (by rfl) ar_.out
 have b4_: ∀ k,some k=(Value.slice A4 n.pairs.length cc4).ownBlock→w3.heap.size≤k∧k<w9.heap.size:=fun k hk=>⟨Kd.iQ p4_.out k hk.symm,u4_.out k hk.symm⟩
 have b5_: ∀ k,some k=(Value.slice A5 n.keys.length cc5).ownBlock→w3.heap.size≤k∧k<w9.heap.size:=fun k hk=>⟨Nat.le_trans l4_.out (Kd.iQ p5_.out k hk.symm),u5_.out k hk.symm⟩
 have b6_: ∀ k,some k=(Value.slice A6 n.ways.length cc6).ownBlock→w3.heap.size≤k∧k<w9.heap.size:=fun k hk=>⟨Nat.le_trans l4_.out (Nat.le_trans l5_.out (Kd.iQ p6_.out k hk.symm)),u6_.out k hk.symm⟩
 have ba_: ∀ k,some k=(Value.slice Aa n.ways.length cca).ownBlock→w9.heap.size≤k∧k<wa.heap.size:=fun k hk=>⟨Kd.iQ ar_.out k hk.symm,Kd.qP ar_.out k hk.symm⟩
 have r4_:=(Kd.bM p4_.out).2.1
 have r5_:=(Kd.bM p5_.out).2.1
 have r6_:=(Kd.bM p6_.out).2.1
 have hsz:w3.heap.size≤w9.heap.size:=by have h1:=l4_.out;have h2:=l5_.out;have h3:=l6_.out;have h4:=s6_.out;omega
 have hL:=hL7.out
 generalize hpv:Value.slice A4 n.pairs.length cc4=pv at t4_ b4_
 generalize hkv:Value.slice A5 n.keys.length cc5=kv at t5_ b5_
 generalize hyv:Value.slice A6 n.ways.length cc6=yv at t6_ b6_
 generalize hwv:Value.slice Aa n.ways.length cca=wv at ta_ ba_
 have h11:=q0_.out.mono (ok1:=fun k=>ok k∨some k=pv.ownBlock∨some k=kv.ownBlock∨some k=yv.ownBlock∨some k=wv.ownBlock) (ρ1:=fun k=>if some k=wv.ownBlock then 4+ix else if (some k=pv.ownBlock∨some k=kv.ownBlock∨some k=yv.ownBlock) then 3 else ρ k) (fun k hk=> .inl hk) (fun k hk=>by
  have hab:=ab_.out.size
  rcases hk with hk | hk | hk | hk | hk
  ·exact q0_.out.lt k hk
  ·have:=b4_ k hk;omega
  ·have:=b5_ k hk;omega
  ·have:=b6_ k hk;omega
  ·have:=ba_ k hk;omega) (fun k hk=>by
  have h0:=hL k hk
  show (if some k=wv.ownBlock then 4+ix else if (some k=pv.ownBlock∨some k=kv.ownBlock∨some k=yv.ownBlock) then 3 else ρ k)=ρ k
  rw [if_neg (fun e=>by have:=ba_ k e;omega),if_neg (fun e=>e.elim (fun e=>by have:=b4_ k e;omega) (fun e=>e.elim (fun e=>by have:=b5_ k e;omega) (fun e=>by have:=b6_ k e;omega)))])
 have h3_: ∀ k,(some k=pv.ownBlock∨some k=kv.ownBlock∨some k=yv.ownBlock)→(ok k∨some k=pv.ownBlock∨some k=kv.ownBlock∨some k=yv.ownBlock∨some k=wv.ownBlock)∧(if some k=wv.ownBlock then 4+ix else if (some k=pv.ownBlock∨some k=kv.ownBlock∨some k=yv.ownBlock) then 3 else ρ k)=3:=fun k hk=>by
  refine ⟨?_,?_⟩
  ·rcases hk with hk | hk | hk
   ·exact .inr (.inl hk)
   ·exact .inr (.inr (.inl hk))
   ·exact .inr (.inr (.inr (.inl hk)))
  ·rw [if_neg (fun e=>by
    have h5:=ba_ k e
    rcases hk with hk | hk | hk
    ·have:=b4_ k hk;omega
    ·have:=b5_ k hk;omega
    ·have:=b6_ k hk;omega),if_pos hk]
 have h4_: ∀ k,some k=wv.ownBlock→(ok k∨some k=pv.ownBlock∨some k=kv.ownBlock∨some k=yv.ownBlock∨some k=wv.ownBlock)∧(if some k=wv.ownBlock then 4+ix else if (some k=pv.ownBlock∨some k=kv.ownBlock∨some k=yv.ownBlock) then 3 else ρ k)=4+ix:=fun k hk=>⟨.inr (.inr (.inr (.inr hk))),if_pos hk⟩
 have h12:=h11.seg hi9.out 0 [.bool n.inner,.bool n.tagged,.slice A4 n.pairs.length cc4,.slice A5 n.keys.length cc5,.slice A6 n.ways.length cc6,.slice Aa n.ways.length cca,.int .i64 0,.bool false,.int .u32 cn,.bool true] (by simp) (gX n cn) (fun j=>if j=ix then ⟨pv,kv,yv,wv⟩ else lv j) (fun j hj=>if_neg hj) (by show cB (gX n cn) (if ix=ix then _ else _)=_;rw [if_pos rfl,←hpv,←hkv,←hyv,←hwv];rfl)
  (by
   show qR wa _ n (if ix=ix then _ else _)
   rw [if_pos rfl]
   subst hpv hkv hyv
   exact ⟨⟨A4,cc4,rfl,r4_,Kd.dh (Kd.R_F t4_) (fun k hk=>h3_ k (.inl hk))⟩,⟨A5,cc5,rfl,r5_,Kd.dh (Kd.R_F t5_) (fun k hk=>h3_ k (.inr (.inl hk)))⟩,⟨A6,cc6,rfl,r6_,Kd.dh (Kd.R_F t6_) (fun k hk=>h3_ k (.inr (.inr hk)))⟩⟩)
  (by
   show (Kd.int .i64).R _ wa 0 _ (if ix=ix then _ else _:Lv).w n.ways
   rw [if_pos rfl]
   exact Kd.eX (Kd.bq ta_ h4_) (Nat.zero_le _))
 obtain ⟨lvz,ρz,h12⟩: ∃ lvz ρz,bT (fun k=>ok k∨some k=pv.ownBlock∨some k=kv.ownBlock∨some k=yv.ownBlock∨some k=wv.ownBlock) pA (.slice (some ⟨g,0,none⟩) a.slots.length cap) fv7 lvz ρz { a7 with slots:=a7.slots.set ix (gX n cn) } (wa.setCells g (ix*10) [.bool n.inner,.bool n.tagged,.slice A4 n.pairs.length cc4,.slice A5 n.keys.length cc5,.slice A6 n.ways.length cc6,.slice Aa n.ways.length cca,.int .i64 0,.bool false,.int .u32 cn,.bool true]):=by
  have h13:=h12
  rw [show ({ a7 with slots:=a7.slots.set ix { s7 with count:=cn } }:Ar).slots=a7.slots.set ix { s7 with count:=cn } from rfl,List.set_set] at h13
  exact ⟨_,_,h13⟩
 have m12:Moves ok (fun k=>ok k∨some k=pv.ownBlock∨some k=kv.ownBlock∨some k=yv.ownBlock∨some k=wv.ownBlock) w (wa.setCells g (ix*10) [.bool n.inner,.bool n.tagged,.slice A4 n.pairs.length cc4,.slice A5 n.keys.length cc5,.slice A6 n.ways.length cc6,.slice Aa n.ways.length cca,.int .i64 0,.bool false,.int .u32 cn,.bool true]):=(jq q1_.out (q1_.out.fresh g HG.out) _ _).owns (fun k hk=>by
  have hw3:w.heap.size≤w3.heap.size:=by have:=HBB.out;have:=HBL.out;omega
  rcases hk with hk | hk | hk | hk | hk
  ·exact q1_.out.fresh k hk
  ·have:=b4_ k hk;exact .inr (by omega)
  ·have:=b5_ k hk;exact .inr (by omega)
  ·have:=b6_ k hk;exact .inr (by omega)
  ·have:=ba_ k hk;exact .inr (by omega))
 generalize hok:(fun k=>ok k∨some k=pv.ownBlock∨some k=kv.ownBlock∨some k=yv.ownBlock∨some k=wv.ownBlock)=ok12 at h12 m12
 have q0_:=Am_ h12
 have q1_:=Am_ m12
 clear h12 m12 h11 h3_ h4_ t4_ t5_ t6_ ta_ b4_ b5_ b6_ ba_ hL hsz hok
 subst hpv hkv hyv hwv
 generalize wa.setCells g (ix*10) [.bool n.inner,.bool n.tagged,.slice A4 n.pairs.length cc4,.slice A5 n.keys.length cc5,.slice A6 n.ways.length cc6,.slice Aa n.ways.length cca,.int .i64 0,.bool false,.int .u32 cn,.bool true]=wb at q0_ q1_ ⊢
 have c3:=(af q0_.out.box 3).trans (rfl:_=some (Value.int .i64 a7.used))
 have z3:=ah q0_.out.box 3
 go_upto_region 12 with fail
 have q0_:=Am_ (q0_.out.qd 3 (.int .i64 (wrap64 (a7.used+1))) (a7.put ix n cn) rfl rfl rfl)
 have q1_:ak (Moves ok ok12 w (wb.setCell ⟨pA,3,none⟩ (.int .i64 (wrap64 (a7.used+1))))):=⟨q1_.out.set (p:=⟨pA,3,none⟩) (q1_.out.fresh pA q0_.out.own) _⟩
 clear c3 z3
 generalize wb.setCell ⟨pA,3,none⟩ (.int .i64 (wrap64 (a7.used+1)))=wc at q0_ q1_ ⊢
 have hi12:(a7.put ix n cn).slots[ix]?=some (gX n cn):=List.getElem?_set_self HIL.out
 obtain ⟨_,g',e',_,_,hcc,_⟩:=q0_.out.cells hi12
 injection e' with e'
 injection e' with e' _ _
 subst e'
 have c8:=hcc 8 _ (rfl:_=some (Value.int .u32 cn))
 clear hcc hi12
 go_wp2_with (go_at_call 145;refine (vX _ cn _).mono ?_;rintro e w1 ⟨rfl,rfl⟩)
 go_ret2
 subst hcn
 exact ⟨rfl,ok12,⟨_,_,_,_,q0_.out⟩,q1_.out⟩
structure Nd.Small (n:Nd):Prop where
 pairs:n.pairs.length<1000000
 keys:n.keys.length<1000000
 ways:n.ways.length<1000000
theorem jZ {ok:Nat→Prop} {pA:Nat} {a a1:Ar} {r:Int} {b:Bool} (n:Nd) (v:Value) (w:World) (h:dn ok pA a w) (hl:a.slots.length<999999) (hn:NdF (fun k=> ¬ ok k) n v w) (hs:n.Small) (hr:a.alloc n=some ((r,b),a1)):
  Calls Tryz.prog 93 #[.pointer (some ⟨pA,0,none⟩),v] w (kC ok pA r b a1 w):=by
 unfold Ar.alloc at hr
 by_cases hx:a.most≤a.used
 ·rw [if_pos hx] at hr
  injection hr with hr
  injection hr with h1 h2
  injection h1 with h1 h3
  subst h1 h2 h3
  exact wH n v w h hn hx
 ·rw [if_neg hx] at hr
  unfold Ar.take at hr
  cases hf:a.free with
  | nil=>
   rw [hf] at hr
   simp only at hr
   rw [show (a.slots++ [sl0])[a.slots.length]?=some sl0 by simp] at hr
   injection hr with hr
   injection hr with h1 h2
   injection h1 with h1 h3
   subst h1 h2 h3
   exact wI n v w h hn hx hf hl hs.pairs hs.keys hs.ways _ (by rw [hf]) sl0 rfl
  | cons f fs=>
   rw [hf] at hr
   simp only at hr
   by_cases hfi:0≤f∧f.toNat<a.slots.length
   ·rw [if_pos hfi] at hr
    simp only at hr
    have hfx:f=(f.toNat:Int):=by omega
    cases hs7:a.slots[f.toNat]? with
    | none=>rw [hs7] at hr;cases hr
    | some s7=>
     rw [hs7] at hr
     injection hr with hr
     injection hr with h1 h2
     injection h1 with h1 h3
     subst h1 h2 h3
     exact sW n v w h hn hx f.toNat fs (by rw [hf,←hfx]) hl hs.pairs hs.keys hs.ways _ rfl s7 hs7
   ·rw [if_neg hfi] at hr
    cases hr
structure Rc where
 nodes:List Int
 infos:List Int
 keep:Int
 way:Int
 old:Int
 new:Int
structure En where
 rc:Rc
 state:Int
 all:Bool
structure Tb where
 l:List En
 most:Int
structure Ep where
 now:Int
 said:List Int
 limbo:List (List (Int × Int))
structure gL (ok:Nat→Prop) (p:Nat) (v:Value) (eb:Nat→Nat) (nv iv:Nat→Value) (ρ:Nat→Nat) (t:Tb) (w:World):Prop where
 own:ok p
 role:ρ p=0
 lt: ∀ k,ok k→k<w.heap.size
 box:w.heap[p]?=some (.cells #[v,.int .i64 t.most] 168 (0,0))
 row:(Kd.raw 1).R 287 w 0 (fun k=>ok k∧ρ k=1) v ((List.range t.l.length).map fun i=> [.pointer (some ⟨eb i,0,none⟩)])
 ent: ∀ (i:Nat) (e:En),t.l[i]?=some e→ok (eb i)∧ρ (eb i)=2∧(∀ j,j<i→eb j≠eb i)∧w.heap[eb i]?=some (.cells #[nv i,iv i,.int .i64 e.rc.keep,.int .i64 e.rc.way,.int .i64 e.rc.old,.int .i64 e.rc.new,.int .u8 e.state,.bool e.all] 289 (0,0))∧
  SlF (Kd.int .i64) w (fun k=>ok k∧ρ k=3) (nv i) e.rc.nodes∧SlF (Kd.int .i64) w (fun k=>ok k∧ρ k=3) (iv i) e.rc.infos
def IsTable (ok:Nat→Prop) (p:Nat) (t:Tb) (w:World):Prop:= ∃ v eb nv iv ρ,gL ok p v eb nv iv ρ t w
theorem IsTable.step {ok:Nat→Prop} {p:Nat} {t:Tb} {w w1:World} (h:IsTable ok p t w) (hs:w.heap.size≤w1.heap.size) (hm: ∀ k,ok k→k<w.heap.size→w1.heap[k]?=w.heap[k]?):IsTable ok p t w1:=by
 obtain ⟨v,eb,nv,iv,ρ,h⟩:=h
 exact ⟨v,eb,nv,iv,ρ,{
  own:=h.own,role:=h.role,lt:=fun k hk=>Nat.lt_of_lt_of_le (h.lt k hk) hs
  box:=(hm p h.own (h.lt p h.own)).trans h.box
  row:=Kd.bQ h.row (fun k hk hlt=>hm k hk.1 hlt)
  ent:=fun i e hi=>by
   obtain ⟨h1,h2,h3,h4,h5,h6⟩:=h.ent i e hi
   exact ⟨h1,h2,h3,(hm _ h1 (h.lt _ h1)).trans h4,h5.step (fun k hk hlt=>hm k hk.1 hlt),h6.step (fun k hk hlt=>hm k hk.1 hlt)⟩ }⟩
theorem IsTable.lt {ok:Nat→Prop} {p:Nat} {t:Tb} {w:World} (h:IsTable ok p t w): ∀ k,ok k→k<w.heap.size:=by
 obtain ⟨v,eb,nv,iv,ρ,h⟩:=h
 exact h.lt
structure eu (ok:Nat→Prop) (p:Nat) (sv lv:Value) (gv:Nat→Value) (ρ:Nat→Nat) (t:Ep) (w:World):Prop where
 own:ok p
 role:ρ p=0
 lt: ∀ k,ok k→k<w.heap.size
 len:t.limbo.length=t.said.length
 box:w.heap[p]?=some (.cells #[.int .i64 t.now,sv,lv] 129 (0,0))
 said:(Kd.int .i64).R 2 w 0 (fun k=>ok k∧ρ k=1) sv t.said
 row:(Kd.raw 1).R 130 w 0 (fun k=>ok k∧ρ k=2) lv ((List.range t.limbo.length).map fun i=> [gv i])
 limbo: ∀ (i:Nat) (l:List (Int × Int)),t.limbo[i]?=some l→dw.Q 297 w 0 (fun k=>ok k∧ρ k=3+i) (gv i) l
def dz (ok:Nat→Prop) (p:Nat) (t:Ep) (w:World):Prop:= ∃ sv lv gv ρ,eu ok p sv lv gv ρ t w
theorem dz.step {ok:Nat→Prop} {p:Nat} {t:Ep} {w w1:World} (h:dz ok p t w) (hs:w.heap.size≤w1.heap.size) (hm: ∀ k,ok k→k<w.heap.size→w1.heap[k]?=w.heap[k]?):dz ok p t w1:=by
 obtain ⟨sv,lv,gv,ρ,h⟩:=h
 exact ⟨sv,lv,gv,ρ,{
  own:=h.own,role:=h.role,lt:=fun k hk=>Nat.lt_of_lt_of_le (h.lt k hk) hs,len:=h.len
  box:=(hm p h.own (h.lt p h.own)).trans h.box
  said:=Kd.bQ h.said (fun k hk hlt=>hm k hk.1 hlt)
  row:=Kd.bQ h.row (fun k hk hlt=>hm k hk.1 hlt)
  limbo:=fun i l hi=>Kd.jS (h.limbo i l hi) (fun k hk hlt=>hm k hk.1 hlt) }⟩
theorem dz.lt {ok:Nat→Prop} {p:Nat} {t:Ep} {w:World} (h:dz ok p t w): ∀ k,ok k→k<w.heap.size:=by
 obtain ⟨sv,lv,gv,ρ,h⟩:=h
 exact h.lt
theorem dn.lt {ok:Nat→Prop} {p:Nat} {t:Ar} {w:World} (h:dn ok p t w): ∀ k,ok k→k<w.heap.size:=by
 obtain ⟨sv,lv,gv,ρ,h⟩:=h
 exact h.lt
def ar0 (most:Int):Ar:=⟨[],[],most,0,0⟩
structure Made (okM:(Nat→Prop)→Nat→World→Prop) (w:World) (e:Ending) (w1:World):Prop where
 out: ∃ ok p,e= .returned (.pointer (some ⟨p,0,none⟩))∧okM ok p w1∧(∀ k,ok k→w.heap.size≤k)∧Below w.heap.size w w1
theorem zB (n:Int) (w:World) (h0:0≤n) (h1:n≤65536):
  Calls Tryz.prog 108 #[.int .i64 n] w (Made (fun ok p w1=>dn ok p (ar0 n) w1) w):=by
 go_enter Tryz.func108,Tryz.ntmps108
 go_wp2_with fail
 go_ret
 refine ⟨fun k=>k=w.heap.size,w.heap.size,rfl,⟨.slice none 0 0,.slice none 0 0,fun _=>lv0,fun _=>0,?_⟩,fun k hk=>by omega,ai (Below.refl _ _) _⟩
 exact { own:=rfl,role:=rfl,lt:=fun k hk=>by simp [hk],box:=bU w _,rows:=Kd.fI _ _ _ _ _,free:=Kd.CY _ _ _ _ _,node:=fun i s hi=>by simp [ar0] at hi,ways:=fun i s hi=>by simp [ar0] at hi }
theorem yx (n:Int) (w:World) (h0:0≤n) (h1:n≤65536):
  Calls Tryz.prog 109 #[.int .i64 n] w (Made (fun ok p w1=>IsTable ok p ⟨[],n⟩ w1) w):=by
 go_enter Tryz.func109,Tryz.ntmps109
 go_wp2_with fail
 go_ret
 refine ⟨fun k=>k=w.heap.size,w.heap.size,rfl,⟨.slice none 0 0,fun _=>0,fun _=> .slice none 0 0,fun _=> .slice none 0 0,fun _=>0,?_⟩,fun k hk=>by omega,ai (Below.refl _ _) _⟩
 exact { own:=rfl,role:=rfl,lt:=fun k hk=>by simp [hk],box:=bU w _,row:=Kd.fI _ _ _ _ _,ent:=fun i s hi=>by simp at hi }
theorem xI:(Tryz.prog.info? 130).map (fun i=>(i.zero,i.size,i.bytes))=some (some (.slice none 0 0),1,24):=by kernel_rfl
structure yH (w:World) (S b:Nat) (LV:Value) (n k:Nat) (wr:World):Prop where
 out: ∃ sv,wr.heap[b]?=some (.cells #[.int .i64 0,sv,LV] 129 (0,0))∧(Kd.int .i64).R 2 wr 0 (fun q=>S≤q) sv (List.replicate k (-1))∧
  (Kd.raw 1).R 130 wr 0 (fun q=>some q=LV.ownBlock) LV (List.replicate n [.slice none 0 0])∧Below w.heap.size w wr∧S≤wr.heap.size
theorem AP (n:Nat) (w:World) (h1:n≤64):
  Calls Tryz.prog 110 #[.int .i64 n] w (Made (fun ok p w1=>dz ok p ⟨0,List.replicate n (-1),List.replicate n []⟩ w1) w):=by
 have b1:(0:Int)≤(n:Int):=by omega
 have b2:(n:Int)≤64:=by omega
 go_enter Tryz.func110,Tryz.ntmps110
 go_upto_region 2 with fail
 go_upto_region 3 with ((with_reducible refine KZ (.makeSlice 127 (.tmp 7) (.tmp 7)) rfl ?_);refine Kd.Fv (Kd.raw 1) (w0:=w) w.heap.size 130 rfl rfl 127 (.tmp 7) (.tmp 7) rfl (n:Int) rfl rfl Tryz.underlying127 (.slice none 0 0) 24 xI rfl (by decide) (by decide) [.slice none 0 0] (ok:=fun k=>w.heap.size≤k) (okp:=fun _=>False) ⟨rfl,rfl,by simp [Value.cells,Value.oneCell']⟩ (fun _ hk=>hk.elim) (Nat.le_refl _) b1 (by omega) (Below.refl _ _) (Nat.le_refl _) ?_;intro v5 w5 ho hb5 hg hat;obtain ⟨A5,c5,rfl⟩:=Kd.aJ ho;have m0_:=Am_ ho;have m1_:=Am_ hb5;clear ho hb5 hg hat)
 have hrep:(List.replicate ((n:Int)).toNat ([.slice none 0 0]:List Value)).length=n:=by simp
 have hn1:((n:Int)).toNat=n:=by simp
 rw [hn1] at m0_
 rw [List.length_replicate] at m0_
 have hlb: ∀ q,some q=(Value.slice A5 n c5).ownBlock→w.heap.size≤q∧q<w5.heap.size:=fun q hq=>⟨Kd.iQ m0_.out q hq.symm,Kd.qP m0_.out q hq.symm⟩
 have HLB:=Am_ hlb
 have HR0:ak (yH w (w5.heap.size+1) w5.heap.size (.slice A5 n c5) n 0 (w5.alloc (.cells #[.int .i64 0,.slice none 0 0,.slice A5 n c5] 129))):=⟨⟨.slice none 0 0,bU w5 _,Kd.fI _ _ _ _ _,Kd.eX (Kd.dL (Kd.iR rfl m0_.out) _) (Nat.zero_le _),aY m1_.out m1_.out.size (ai (Below.refl _ _) _),by simp⟩⟩
 have HS0:ak (w.heap.size≤w5.heap.size):=⟨m1_.out.size⟩
 clear m0_ m1_ hrep hn1 hlb
 generalize hbb:w5.heap.size=b at HLB HR0 HS0 ⊢
 generalize w5.alloc (.cells #[.int .i64 0,.slice none 0 0,.slice A5 n c5] 129)=w6 at HR0 ⊢
 clear hbb
 go_wp2_with fail
 go_loopw [12] (fun i wr=> ∃ k:Nat,k≤n∧i= .int .i64 k∧ak (yH w (b+1) b (.slice A5 n c5) n k wr)) (fun i _=>n - (intOf i).toNat)
 case atStart=>exact ⟨0,Nat.zero_le _,rfl,HR0⟩
 case round=>
  obtain ⟨k,hk,rfl,HE⟩:=hrel
  clear HR0
  by_cases hlt:k<n
  ·obtain ⟨sv,hb,hs,hl,hB,hS⟩:=HE.out
   obtain ⟨As,cs,rfl⟩:=Kd.aJ hs
   rw [List.length_replicate] at hb hs
   have c1:wr.cell? ⟨b,1,none⟩=some (.slice As k cs):=(af hb 1).trans rfl
   have n0_:=Am_ hb
   have n1_:=Am_ hs
   have n2_:=Am_ hl
   have n3_:=Am_ hB
   have n4_:=Am_ hS
   have hne:some b≠(Value.slice As k cs).ownBlock:=fun e=>by have:=hs.1 b e.symm;omega
   have HNE:=Am_ hne
   have d1:decide ((k:Int)<(n:Int))=true:=decide_eq_true (by omega)
   have d2:decide (k<n)=true:=decide_eq_true hlt
   clear hb hs hl hB hS HE hne
   go_upto_region 6 with ((with_reducible refine bW (b:= .append) (xs:= #[.tmp 18,.tmp 19]) rfl ?_);at_builtin;refine Kd.iy (Kd.int .i64) (w0:=wr) 0 rfl (.tmp 18) (.tmp 19) 22 2 (.int .i64 0) 8 rfl Tryz.underlying22 AZ rfl (by decide) (by omega) (.slice As k cs) (List.replicate k (-1)) (-1) [.int .i64 (-1)] (fun q=>b+1≤q) (fun _=>False) rfl (by first | (go_simp;done) | (go_simp;rfl)) rfl (fun _ hk=>hk.elim) (fun q hq=>Nat.le_trans n4_.out hq) n1_.out (Below.refl _ _) (Nat.zero_le _) (by simp;omega) ?_;intro v7 w7 ho hb7 hg hat;obtain ⟨A7,c7,rfl⟩:=Kd.aJ ho;have m0_:=Am_ ho;have m1_:=Am_ hg;have m2_:=Am_ (bJ n0_.out hg HNE.out);have f1:=ah m2_.out 1;have c1:=(af m2_.out 1).trans (rfl:_=some (Value.slice As k cs));clear ho hb7 hg hat)
   have hl7:(List.replicate k (-1:Int)++ [-1])=List.replicate (k+1) (-1):=by rw [List.replicate_succ']
   have HR1:ak (yH w (b+1) b (.slice A5 n c5) n (k+1) (w7.setCell ⟨b,1,none⟩ (.slice A7 (k+1) c7))):=by
    have h0:=m0_.out
    rw [hl7,List.length_replicate] at h0
    have hl5: ∀ q,some q=(Value.slice A5 n c5).ownBlock→some q≠(Value.slice As k cs).ownBlock:=fun q hq e=>by
     have h1:=(HLB.out q hq).2
     have h2:=n1_.out.1 q e.symm
     omega
    refine ⟨⟨.slice A7 (k+1) c7,bH m2_.out 1 _,Kd.bV h0 (fun q hq e=>by have:q=b:=e;omega) _,Kd.bV (Kd.Hy n2_.out m1_.out hl5) (fun q hq e=>by have h1:=(HLB.out q hq).2;have:q=b:=e;omega) _,?_,?_⟩⟩
    ·have h1:=n3_.out
     have hg:=m1_.out
     have h2:Below w.heap.size w w7:=jU h1 _ h1.size hg (fun q e=>by have:=n1_.out.1 q e;have:=HS0.out;omega)
     exact h2.setCell (show w.heap.size≤b from HS0.out) _
    ·have h1:=n4_.out
     have h2:=m1_.out.size
     simp [World.setCell]
     omega
   clear n0_ n1_ n2_ n3_ n4_ m0_ m1_ m2_ HNE c1 f1 hl7
   generalize w7.setCell ⟨b,1,none⟩ (.slice A7 (k+1) c7)=w8 at HR1 ⊢
   go_wp2_with fail
   go_roundw
   case rel=>exact ⟨k+1,by omega,by go_num,HR1⟩
   case measure=>simp [intOf];omega
  ·have hkn:k=n:=by omega
   subst hkn
   have d1:decide ((k:Int)<(k:Int))=false:=decide_eq_false (by omega)
   have d2:decide (k<k)=false:=decide_eq_false (by omega)
   go_wp2_with fail
   go_ret
   obtain ⟨sv,hb,hs,hl,hB,hS⟩:=HE.out
   have hbw:=HS0.out
   have hlb:=HLB.out
   generalize hLV:Value.slice A5 k c5=LV at hb hl hlb
   refine ⟨fun q=>q=b∨(b+1≤q∧q<wr.heap.size)∨some q=LV.ownBlock,b,rfl,⟨sv,LV,fun _=> .slice none 0 0,fun q=>if q=b then 0 else if some q=LV.ownBlock then 2 else 1,?_⟩,fun q hq=>?_,hB⟩
   ·have hne: ∀ q,some q=LV.ownBlock→q≠b:=fun q hq e=>by have:=(hlb q hq).2;omega
    exact {
     own:= .inl rfl
     role:=if_pos rfl
     lt:=fun q hq=>by
      rcases hq with rfl | hq | hq
      ·exact bD hb
      ·exact hq.2
      ·have:=(hlb q hq).2;omega
     len:=by simp
     box:=hb
     said:=Kd.bq (Kd.bL hs) (fun q hq=>⟨.inr (.inl ⟨hq.1,hq.2.2.1⟩),by
      rw [if_neg (by have:=hq.1;omega),if_neg (fun e=>by have h1:=(hlb q e).2;have h2:=hq.1;omega)]⟩)
     row:=by
      have hr:((List.range (List.replicate k ([]:List (Int × Int))).length).map fun _=> [Value.slice none 0 0])=List.replicate k [Value.slice none 0 0]:=by simp [List.map_const']
      show (Kd.raw 1).R _ wr 0 _ LV ((List.range (List.replicate k ([]:List (Int × Int))).length).map fun _=> [Value.slice none 0 0])
      rw [hr]
      exact Kd.bq hl (fun q hq=>⟨.inr (.inr hq),by rw [if_neg (hne q hq),if_pos hq]⟩)
     limbo:=fun i l hi=>by
      have:l= []:=by
       have:=List.mem_of_getElem? hi
       exact List.eq_of_mem_replicate this
      subst this
      exact Kd.CY _ _ _ _ _ }
   ·rcases hq with rfl | hq | hq
    ·exact hbw
    ·omega
    ·exact (hlb q hq).1
end Go.Proofs.YtmnjjdeaccgjlaaGreat.Tower
