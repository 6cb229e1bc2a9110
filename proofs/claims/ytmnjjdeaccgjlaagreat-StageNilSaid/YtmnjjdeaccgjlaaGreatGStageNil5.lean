/- Words and contracts that the claim stands on, part 6 of 7. -/
import Derived.Test.YtmnjjdeaccgjlaaGreatGStageNil0
import Derived.Test.YtmnjjdeaccgjlaaGreatGStageNil1
import Derived.Test.YtmnjjdeaccgjlaaGreatGStageNil2
import Derived.Test.YtmnjjdeaccgjlaaGreatGStageNil3
import Derived.Test.YtmnjjdeaccgjlaaGreatGStageNil4
import Derived.Laws.ResultCell
set_option linter.unusedSimpArgs false
set_option linter.unusedVariables false
set_option maxHeartbeats 4000000
set_option maxRecDepth 100000
namespace Go.Proofs.YtmnjjdeaccgjlaaGreat.Tower
open Go Go.RowKit Go.Proofs.YtmnjjdeaccgjlaaGreatW.PrintWords Go.Proofs.YtmnjjdeaccgjlaaGreatW.PrintLast Go.Proofs.YtmnjjdeaccgjlaaGreatW.PrintMore Go.Proofs.YtmnjjdeaccgjlaaGreat.Own
theorem iT.fact {ok:Nat→Prop} {sb p t:Nat} {S:Stg} {o:Opn} {log:List Int} {w:World} (h:iT ok sb p S t o log w):t<S.n∧ ∃ ga ca,w.cell? ⟨sb,3,none⟩=some (.slice (some ⟨ga,0,none⟩) S.n ca)∧w.cell? ⟨ga,t,none⟩=some (.int .i64 (S.ats.getD t 0)):=by
 obtain ⟨okB,okI,b,ρ,tb,bw,bm,bo,at_,spent,h1,h2,h3,h4,ht,hlog,hid,hbx⟩:=h.out
 have hl:((List.replicate S.n jc).set t (nW tb)).length=S.n:=by simp
 obtain ⟨gt,ct,gh,ch,ga,ca,Ae,ce,hv⟩:=h3.vals h4 hl ht
 have hs:StS sb p S ((List.replicate S.n jc).set t (nW tb)) okB okI b ρ (fun ok w=>Idle (shW p) tb (ko bw bm bo) ok S.ws (Ig log at_ spent) w) ok w w:=⟨h3,h4,hl,Bh _ _ _ _ _,hid,h2,(Moves.refl ok w).owns (fun k hk=> .inl ((h1 k).2 hk))⟩
 exact ⟨ht,ga,ca,hs.c3 hv,(hs.ats hv ht).1⟩
structure LF (sb:Nat) (S:Stg) (i:Nat) (e:Evn) (ge ce c:Nat) (A:Option Addr) (ok:Nat→Prop) (w:World):Prop where
 ev:w.cell? ⟨sb,4,none⟩=some (.slice (some ⟨ge,0,none⟩) S.evs.length ce)
 cells: ∀ j u,(dQ e (.slice A e.ans.pairs.length c))[j]?=some u→w.cell? ⟨ge,i*13+j,none⟩=some u
 len:e.ans.pairs.length≤c
 prs:dZ.F w ok A e.ans.pairs.length e.ans.pairs
theorem eX.fact {ok:Nat→Prop} {sb p i:Nat} {S:Stg} {e:Evn} {w:World} (h:eX ok sb p S w) (hn:0<S.n) (hi:S.evs[i]?=some e): ∃ ge ce c A,LF sb S i e ge ce c A ok w:=by
 obtain ⟨okB,okW,b,ρ,h1,h2,h3,h4,h5⟩:=h.out
 have hl:(List.replicate S.n jc).length=S.n:=by simp
 obtain ⟨gt,ct,gh,ch,ga,ca,Ae,ce,hv⟩:=h3.vals h4 hl hn
 have hs:StS sb p S (List.replicate S.n jc) okB okW b ρ (shW p S.ws) ok w w:=⟨h3,h4,hl,Bj p S.ws,h5,h2,(Moves.refl ok w).owns (fun k hk=> .inl ((h1 k).2 hk))⟩
 obtain ⟨ge,v,rfl,_,hc,_,A,c,rfl,hle,hF⟩:=hs.ev hv hi
 exact ⟨ge,ce,c,A,hs.c4 hv,hc,hle,Kd.dH hF (fun k hk=>(h1 k).2 (.inl hk.1))⟩
theorem jO {P:Program} {fn:Func} {p u:Tmp} {ty:TypeId} (h:fn.results= #[.cell p ty,.tmp u]) (tmps:Array Value) (w:World) (g1:Nat) (t1:TypeId) (cs1:Array Value) (fr1:Nat × Nat) (d1:TypeDesc)
  (hp:tmps.getD p undef= .pointer (some ⟨g1,0,none⟩)) (hg1:w.heap[g1]?=some (.cells cs1 t1 fr1)) (hu1:P.underlying ty=some d1) (hd1:(match d1 with | .struct _ | .array _ _=>true | _=>false)=true) (hi1:(P.info? ty).map (·.size)=some cs1.size):
  (results fn tmps).run P w= .ok (.tuple #[.agg cs1,tmps.getD u undef]) w:=by
 have hp':tmps[p]?.getD undef= .pointer (some ⟨g1,0,none⟩):=by simpa using hp
 simp [results,h,hp',asAddr,run_loadVar_row w g1 t1 ty cs1 fr1 d1 hg1 hu1 hd1 hi1]
structure yt (sb p:Nat) (S1:Stg) (a:Ans) (ok:Nat→Prop) (w:World) (e:Ending) (w1:World):Prop where
 out: ∃ ok1 A c,e= .returned (.tuple #[.agg #[.int .i64 a.err,.bool a.found,.int .i64 a.key,.int .i64 a.value,.slice A a.pairs.length c,.bool a.short],.int .i64 0])∧eX ok1 sb p S1 w1∧Moves ok ok1 w w1∧a.pairs.length≤c∧dZ.F w1 (fun k=> ¬ ok1 k) A a.pairs.length a.pairs
theorem pq (sb p t:Nat) (S:Stg) (o:Opn) (ok:Nat→Prop) (w:World) (h:eX ok sb p S w) (ht:t<S.n) (hev:S.evs.length<999999) (hk0:0≤o.kind) (hk:o.kind<12) (f:Nat) (dT:Pr Ws Ans)
  (hdo: ∀ tb work ok s w res,dX (shW p) tb work ok s w→dT s=some res→Calls Tryz.prog 100 #[fo tb p t,opV o] w (gF (shW p) tb work Ik ok w res))
  (hsm: ∀ s a t,dT s=some (.ret a,t)→a.pairs= []) (left:Nat) (S1:Stg) (log1:List Int) (hr:Dv (mJ t f dT) S.evs.length 1048576 (S.start t o) []=some (true,left,S1,log1)) (hn1:0<S1.n) (e1:Evn) (he1:S1.evs[S.evs.length]?=some e1) (hfin:0≤e1.fin) (hpl:e1.ans.pairs.length<1000000):
  Calls Tryz.prog 24 #[.pointer (some ⟨sb,0,none⟩),.int .i64 t,opV o] w (yt sb p S1 e1.ans ok w):=by
 have HOV:opV o= .agg #[.int .u8 o.kind,.int .i64 o.key,.int .i64 o.upto,.int .i64 o.value]:=rfl
 have K1:=Am_ (Mine.new h.lt (.cells #[.int .u8 o.kind,.int .i64 o.key,.int .i64 o.upto,.int .i64 o.value] 52))
 have H1:=Am_ ((h.below (ai (Below.refl _ _) (.cells #[.int .u8 o.kind,.int .i64 o.key,.int .i64 o.upto,.int .i64 o.value] 52))).below (ai (Below.refl _ _) (.cells #[.int .i64 0,.bool false,.int .i64 0,.int .i64 0,.slice none 0 0,.bool false] 58)))
 have K2:=Am_ (Mine.new (h.below (ai (Below.refl _ _) (.cells #[.int .u8 o.kind,.int .i64 o.key,.int .i64 o.upto,.int .i64 o.value] 52))).lt (.cells #[.int .i64 0,.bool false,.int .i64 0,.int .i64 0,.slice none 0 0,.bool false] 58))
 have K1:=Am_ (K1.out.alloc (.cells #[.int .i64 0,.bool false,.int .i64 0,.int .i64 0,.slice none 0 0,.bool false] 58))
 have M1:=Am_ (((Moves.refl ok w).alloc (.cells #[.int .u8 o.kind,.int .i64 o.key,.int .i64 o.upto,.int .i64 o.value] 52)).alloc (.cells #[.int .i64 0,.bool false,.int .i64 0,.int .i64 0,.slice none 0 0,.bool false] 58))
 simp only [World.size_alloc] at K2
 rw [HOV]
 have HDO:=Am_ hdo
 have HSM:=Am_ hsm
 have HR:=Am_ hr
 have HT:=Am_ (And.intro ht (And.intro hev (And.intro hk0 hk)))
 have HN:=Am_ (And.intro hn1 (And.intro he1 hpl))
 have d1:decide (e1.fin<0)=false:=decide_eq_false (by omega)
 have HLN:ay (S.ats.length=S.n):=⟨by obtain ⟨_,_,_,_,_,_,_,h4,_⟩:=h.out;exact h4.len⟩
 have HBB:ay (w.heap.size+1≠w.heap.size):=⟨by omega⟩
 clear h hdo hsm hr ht hev hk0 hk hn1 he1 HOV hfin hpl
 go_enter Tryz.func24,Tryz.ntmps24
 go_upto_region 1 with fail
 generalize (w.alloc (.cells #[.int .u8 o.kind,.int .i64 o.key,.int .i64 o.upto,.int .i64 o.value] 52)).alloc (.cells #[.int .i64 0,.bool false,.int .i64 0,.int .i64 0,.slice none 0 0,.bool false] 58)=w1 at K1 K2 H1 M1 ⊢
 generalize hb6:w.heap.size+1=b6 at K2 HBB ⊢
 have HW6:ay (w.heap.size≤b6):=⟨by omega⟩
 clear hb6
 generalize hb5:w.heap.size=b5 at K1 HBB ⊢
 clear hb5
 have k0:=(af K1.out.1 0).trans (rfl:_=some (Value.int .u8 o.kind))
 have k1:=(af K1.out.1 1).trans (rfl:_=some (Value.int .i64 o.key))
 have k2:=(af K1.out.1 2).trans (rfl:_=some (Value.int .i64 o.upto))
 have k3:=(af K1.out.1 3).trans (rfl:_=some (Value.int .i64 o.value))
 go_upto_region 4 with (go_at_call 26;refine (qw sb p t S o ok _ H1.out HT.out.1 HT.out.2.1 HT.out.2.2.1 HT.out.2.2.2).mono ?_;rintro e w2 hE;obtain ⟨rfl,ok2,hS2,hm2⟩:=hE.out;have H2:=Am_ hS2;have M2:=Am_ (M1.out.trans hm2);have K2:=Am_ (K2.out.moves hm2);clear hE hS2 hm2 H1 M1 K1 k0 k1 k2 k3)
 obtain ⟨_,ga,ca,c3,y1⟩:=H2.out.fact
 have hat:(S.start t o).ats.getD t 0=(S.evs.length:Int):=by
  show (S.ats.set t (S.evs.length:Int)).getD t 0=_
  rw [List.getD_eq_getElem?_getD,List.getElem?_set_self (by rw [HLN.out];exact HT.out.1)]
  rfl
 rw [hat] at y1
 have b1:(0:Int)≤(t:Int):=by omega
 have b2:(t:Int)<(S.n:Int):=by have:=HT.out.1;omega
 have HAT:=Am_ hat
 clear hat
 go_upto_region 5 with fail
 clear c3 y1
 go_upto_region 6 with (go_at_call 29;refine (uy sb p t S.evs.length (S.start t o) o [] ok2 _ H2.out f dT HDO.out HSM.out HAT.out (by show S.evs.length<(S.evs++ [_]).length;simp) 1048576 left (Nat.le_refl _) S1 log1 HR.out).mono ?_;rintro e w3 hE;obtain ⟨ok3,rfl,hm3,hS3⟩:=hE.out;have H3:=Am_ hS3;have M3:=Am_ (M2.out.trans hm3);have K3:=Am_ (K2.out.moves hm3);clear hE hS3 hm3 H2 M2 K2)
 obtain ⟨ge,ce,c,A,hEv⟩:=H3.out.fact HN.out.1 HN.out.2.1
 have hil:=(List.getElem?_eq_some_iff.1 HN.out.2.1).1
 have EV:=Am_ hEv
 have b3:(0:Int)≤(S.evs.length:Int):=by omega
 have b4:(S.evs.length:Int)<(S1.evs.length:Int):=by omega
 have c4:=EV.out.ev
 have y6:=EV.out.cells 6 _ rfl
 have y7:=EV.out.cells 7 _ rfl
 have y8:=EV.out.cells 8 _ rfl
 have y9:=EV.out.cells 9 _ rfl
 have y10:=EV.out.cells 10 _ rfl
 have y11:=EV.out.cells 11 _ rfl
 have y12:=EV.out.cells 12 _ rfl
 clear hEv hil
 go_upto_region 9 with fail
 clear c4 y6 y7 y8 y9 y10 y11 y12 d1
 have H4:=Am_ (H3.out.below (ai (Below.refl _ _) (.cells #[.int .i64 e1.ans.err,.bool e1.ans.found,.int .i64 e1.ans.key,.int .i64 e1.ans.value,.slice A e1.ans.pairs.length c,.bool e1.ans.short] 58)))
 have M4:=Am_ (M3.out.alloc (.cells #[.int .i64 e1.ans.err,.bool e1.ans.found,.int .i64 e1.ans.key,.int .i64 e1.ans.value,.slice A e1.ans.pairs.length c,.bool e1.ans.short] 58))
 have K4:=Am_ (K3.out.alloc (.cells #[.int .i64 e1.ans.err,.bool e1.ans.found,.int .i64 e1.ans.key,.int .i64 e1.ans.value,.slice A e1.ans.pairs.length c,.bool e1.ans.short] 58))
 have K9:=Am_ (Mine.new H3.out.lt (.cells #[.int .i64 e1.ans.err,.bool e1.ans.found,.int .i64 e1.ans.key,.int .i64 e1.ans.value,.slice A e1.ans.pairs.length c,.bool e1.ans.short] 58))
 have P4:=Am_ (Kd.bU (Kd.gD EV.out.prs) (ai (Below.refl w3.heap.size w3) (.cells #[.int .i64 e1.ans.err,.bool e1.ans.found,.int .i64 e1.ans.key,.int .i64 e1.ans.value,.slice A e1.ans.pairs.length c,.bool e1.ans.short] 58)))
 have N9:ay (w3.heap.size≠b6):=⟨by have:=K3.out.lt;omega⟩
 have HW9:ay (w.heap.size≤w3.heap.size):=⟨M3.out.size⟩
 clear H3 M3 K3
 generalize w3.alloc (.cells #[.int .i64 e1.ans.err,.bool e1.ans.found,.int .i64 e1.ans.key,.int .i64 e1.ans.value,.slice A e1.ans.pairs.length c,.bool e1.ans.short] 58)=w4 at H4 M4 K4 K9 P4 ⊢
 generalize w3.heap.size=b9 at K9 N9 HW9 ⊢
 have c4:=(af K9.out.1 4).trans (rfl:_=some (Value.slice A e1.ans.pairs.length c))
 have f4:=ah K9.out.1 4
 go_upto_region 10 with (go_at_call 75;refine (gZ A _ c e1.ans.pairs _ P4.out HN.out.2.2).mono ?_;rintro e w5 ⟨v,rfl,hv,hb⟩;obtain ⟨A2,c2,rfl⟩:=Kd.aV hv;have H5:=Am_ (H4.out.below hb);have M5:=Am_ (M4.out.below hb);have K5:=Am_ (K4.out.moves (Moves.bN _ hb));have V5:=Am_ (Kd.bg hv (fun k hk=>⟨fun h=>by have:=H4.out.lt k h;omega,fun e=>by have:=K4.out.lt;omega,fun e=>by have:=K9.out.lt;omega⟩: ∀ k,w4.heap.size≤k→ ¬ ok3 k∧k≠b6∧k≠b9));have K9:=Am_ (K9.out.moves (Moves.bN _ hb));have c4:=(af K9.out.1 4).trans (rfl:_=some (Value.slice A e1.ans.pairs.length c));have f4:=ah K9.out.1 4;clear hv hb H4 M4 K4 P4)
 have H6:=Am_ (H5.out.step (w1:=w5.setCell ⟨b9,4,none⟩ (.slice A2 e1.ans.pairs.length c2)) (by simp [World.setCell]) (fun k hk _=>Below.heap_setCell w5 _ _ k (fun e=>K9.out.2 ((show k=b9 from e)▸hk))))
 have M6:=Am_ (M5.out.set (p:=⟨b9,4,none⟩) (.inr HW9.out) (.slice A2 e1.ans.pairs.length c2))
 have K6:=Am_ (K5.out.far (p:=⟨b9,4,none⟩) N9.out (.slice A2 e1.ans.pairs.length c2))
 have K10:=Am_ (K9.out.set 4 (.slice A2 e1.ans.pairs.length c2))
 have V6:=Am_ (Kd.cB V5.out (p:=⟨b9,4,none⟩) (fun k hk=>hk.2.2) (.slice A2 e1.ans.pairs.length c2))
 clear H5 M5 K5 K9 V5 c4 f4
 generalize w5.setCell ⟨b9,4,none⟩ (.slice A2 e1.ans.pairs.length c2)=w6 at H6 M6 K6 K10 V6 ⊢
 have y0:=(af K10.out.1 0).trans (rfl:_=some (Value.int .i64 e1.ans.err))
 have y1:=(af K10.out.1 1).trans (rfl:_=some (Value.bool e1.ans.found))
 have y2:=(af K10.out.1 2).trans (rfl:_=some (Value.int .i64 e1.ans.key))
 have y3:=(af K10.out.1 3).trans (rfl:_=some (Value.int .i64 e1.ans.value))
 have y4:=(af K10.out.1 4).trans (rfl:_=some (Value.slice A2 e1.ans.pairs.length c2))
 have y5:=(af K10.out.1 5).trans (rfl:_=some (Value.bool e1.ans.short))
 have x0:=(af K6.out.1 0).trans (rfl:_=some (Value.int .i64 0))
 have z0:=ah K6.out.1 0
 have x1:=(af K6.out.1 1).trans (rfl:_=some (Value.bool false))
 have z1:=ah K6.out.1 1
 have x2:=(af K6.out.1 2).trans (rfl:_=some (Value.int .i64 0))
 have z2:=ah K6.out.1 2
 have x3:=(af K6.out.1 3).trans (rfl:_=some (Value.int .i64 0))
 have z3:=ah K6.out.1 3
 have x4:=(af K6.out.1 4).trans (rfl:_=some (Value.slice none 0 0))
 have z4:=ah K6.out.1 4
 have x5:=(af K6.out.1 5).trans (rfl:_=some (Value.bool false))
 have z5:=ah K6.out.1 5
 go_wp2_with fail
 have H7:=Am_ (H6.out.step (w1:=(((((w6.setCell ⟨b6,0,none⟩ (.int .i64 e1.ans.err)).setCell ⟨b6,1,none⟩ (.bool e1.ans.found)).setCell ⟨b6,2,none⟩ (.int .i64 e1.ans.key)).setCell ⟨b6,3,none⟩ (.int .i64 e1.ans.value)).setCell ⟨b6,4,none⟩ (.slice A2 e1.ans.pairs.length c2)).setCell ⟨b6,5,none⟩ (.bool e1.ans.short)) (by simp [World.setCell]) (fun k hk _=>bD ([.int .i64 e1.ans.err,.bool e1.ans.found,.int .i64 e1.ans.key,.int .i64 e1.ans.value,.slice A2 e1.ans.pairs.length c2,.bool e1.ans.short]:List Value) 0 k (fun e=>K6.out.2 ((show k=b6 from e)▸hk))))
 have M7:ay (Moves ok ok3 w ((((((w6.setCell ⟨b6,0,none⟩ (.int .i64 e1.ans.err)).setCell ⟨b6,1,none⟩ (.bool e1.ans.found)).setCell ⟨b6,2,none⟩ (.int .i64 e1.ans.key)).setCell ⟨b6,3,none⟩ (.int .i64 e1.ans.value)).setCell ⟨b6,4,none⟩ (.slice A2 e1.ans.pairs.length c2)).setCell ⟨b6,5,none⟩ (.bool e1.ans.short))):=⟨(((((M6.out.set (p:=⟨b6,0,none⟩) (.inr HW6.out) _).set (p:=⟨b6,1,none⟩) (.inr HW6.out) _).set (p:=⟨b6,2,none⟩) (.inr HW6.out) _).set (p:=⟨b6,3,none⟩) (.inr HW6.out) _).set (p:=⟨b6,4,none⟩) (.inr HW6.out) _).set (p:=⟨b6,5,none⟩) (.inr HW6.out) _⟩
 have K7:ay (Mine ok3 ((((((w6.setCell ⟨b6,0,none⟩ (.int .i64 e1.ans.err)).setCell ⟨b6,1,none⟩ (.bool e1.ans.found)).setCell ⟨b6,2,none⟩ (.int .i64 e1.ans.key)).setCell ⟨b6,3,none⟩ (.int .i64 e1.ans.value)).setCell ⟨b6,4,none⟩ (.slice A2 e1.ans.pairs.length c2)).setCell ⟨b6,5,none⟩ (.bool e1.ans.short)) b6 (.cells #[.int .i64 e1.ans.err,.bool e1.ans.found,.int .i64 e1.ans.key,.int .i64 e1.ans.value,.slice A2 e1.ans.pairs.length c2,.bool e1.ans.short] 58 (0,0))):=⟨(Mine.set (Mine.set (Mine.set (Mine.set (Mine.set (Mine.set K6.out 0 _) 1 _) 2 _) 3 _) 4 _) 5 _)⟩
 have V7:ay (dZ.F ((((((w6.setCell ⟨b6,0,none⟩ (.int .i64 e1.ans.err)).setCell ⟨b6,1,none⟩ (.bool e1.ans.found)).setCell ⟨b6,2,none⟩ (.int .i64 e1.ans.key)).setCell ⟨b6,3,none⟩ (.int .i64 e1.ans.value)).setCell ⟨b6,4,none⟩ (.slice A2 e1.ans.pairs.length c2)).setCell ⟨b6,5,none⟩ (.bool e1.ans.short)) (fun k=> ¬ ok3 k) A2 e1.ans.pairs.length e1.ans.pairs):=⟨Kd.dH (Kd.fV (Kd.R_F V6.out) (fun k hk _=>bD ([.int .i64 e1.ans.err,.bool e1.ans.found,.int .i64 e1.ans.key,.int .i64 e1.ans.value,.slice A2 e1.ans.pairs.length c2,.bool e1.ans.short]:List Value) 0 k hk.2.1)) (fun k hk=>hk.1)⟩
 have V8:=Am_ (Kd.bS V6.out).2.1
 clear H6 M6 K6 K10 V6 x0 y0 z0 x1 y1 z1 x2 y2 z2 x3 y3 z3 x4 y4 z4 x5 y5 z5
 generalize (((((w6.setCell ⟨b6,0,none⟩ (.int .i64 e1.ans.err)).setCell ⟨b6,1,none⟩ (.bool e1.ans.found)).setCell ⟨b6,2,none⟩ (.int .i64 e1.ans.key)).setCell ⟨b6,3,none⟩ (.int .i64 e1.ans.value)).setCell ⟨b6,4,none⟩ (.slice A2 e1.ans.pairs.length c2)).setCell ⟨b6,5,none⟩ (.bool e1.ans.short)=w7 at H7 M7 K7 V7 ⊢
 (try simp only [Exit.inBlock,Exit.then])
 refine bodyPost_ret (jO rfl _ _ b6 58 _ (0,0) _ rfl K7.out.1 Tryz.underlying58 rfl (by kernel_rfl)) rfl ?_
 exact ⟨⟨ok3,A2,c2,rfl,H7.out,M7.out,V8.out,V7.out⟩⟩
end Go.Proofs.YtmnjjdeaccgjlaaGreat.Tower
namespace Go.Proofs.YtmnjjdeaccgjlaaGreat.Tower
open Go Go.RowKit Go.Proofs.YtmnjjdeaccgjlaaGreatW.PrintWords Go.Proofs.YtmnjjdeaccgjlaaGreatW.PrintLast Go.Proofs.YtmnjjdeaccgjlaaGreatW.PrintMore Go.Proofs.YtmnjjdeaccgjlaaGreat.Own
theorem JA (a:Option Addr) (l c:Nat) (w:World):(binOp .eql 66 (.slice a l c) (.slice none 0 0)).run Tryz.prog w= .ok (.bool a.isNone) w:=run_eql_slice_nil _ _ a l c w Tryz.underlying66
attribute [local go_sem] JA
theorem Cy (A:Option Addr) (n c:Nat) (xs:List (List Value)) (w:World) (hr:(Kd.raw 13).C w A n xs) (hl:n<1000000):
  Calls Tryz.prog 79 #[.slice A n c] w fun e w'=> ∃ v,e= .returned v∧(Kd.raw 13).R 137 w' w.heap.size (fun k=>w.heap.size≤k) v xs∧Below w.heap.size w w':=by
 have HR:=Am_ hr
 cases A with
 | none=>
  have hx:xs= []:=by
   have h1:=hr.1
   cases xs with
   | nil=>rfl
   | cons p q=>
    obtain ⟨ad,h2,_⟩:=hr.2.2 (by rw [←h1];simp)
    cases h2
  subst hx
  clear hr HR
  go_enter Tryz.func79,Tryz.ntmps79
  go_wp2_with fail
  go_ret
  exact ⟨_,rfl,Kd.fB _ _ _ _ _,Below.refl _ _⟩
 | some ad=>
  clear hr
  have HE:=Am_ (mG (Kd.raw 13) 137 w w.heap.size (Nat.le_refl _))
  have HB:=Am_ (ai (Below.refl w.heap.size w) (.cells #[] 137))
  have HC:=Am_ (Kd.bU HR.out (ai (Below.refl _ _) (.cells #[] 137)))
  go_enter Tryz.func79,Tryz.ntmps79
  go_wp2_with (first | ((with_reducible refine bK (b:= .append) (xs:= #[.tmp 5,.tmp 6]) rfl ?_);at_builtin;refine Kd.gq (Kd.raw 13) (w0:=w) w.heap.size rfl (.tmp 5) (.tmp 6) 66 137 _ 120 rfl Tryz.underlying66 zR rfl (by decide) (by omega) (.slice (some ⟨w.heap.size,0,none⟩) 0 0) [] xs (some ad) n c (fun k=>w.heap.size≤k) (fun _=>False) rfl rfl HE.out HC.out (fun _ _ h=>h) (fun _ hk=>hk.elim) (fun k hk=>by simp at hk;omega) HB.out (by simp) (by simp;omega) ?_;intro v5 w5 ho hb5 hg hat;have HO:=Am_ ho;have HB5:=Am_ hb5;clear ho hb5 hg hat HE HB HC))
  go_ret
  exact ⟨_,rfl,HO.out,HB5.out⟩
structure FP (es:List Evn) (pv:Nat→Value) (A:Option Addr) (c:Nat) (w:World) (k:Nat) (wr:World):Prop where
 out: ∃ rows,(Kd.raw 13).R 137 wr w.heap.size (fun q=>w.heap.size≤q) (.slice A es.length c) rows∧rows.length=es.length∧(∀ j,k≤j→rows[j]?=(gy es pv)[j]?)∧Below w.heap.size w wr
structure FQ (n:Nat) (w:World) (e:Ending) (w1:World):Prop where
 out: ∃ A c,e= .returned (.slice A n c)∧Below w.heap.size w w1
theorem oo (sb p:Nat) (S:Stg) (ok:Nat→Prop) (w:World) (h:eX ok sb p S w) (hpl: ∀ e∈S.evs,e.ans.pairs.length<1000000):
  Calls Tryz.prog 31 #[.pointer (some ⟨sb,0,none⟩)] w (FQ S.evs.length w):=by
 obtain ⟨okB,okW,b,ρ,h1,h2,h3,h4,h5⟩:=h.out
 obtain ⟨Ae,ce,e4⟩:=Kd.aV h3.evs
 rw [dG] at e4
 have h6:=h3.evs
 rw [e4] at h6
 have hC:=(Kd.bS h6).2.2
 rw [dG] at hC
 have c4:w.cell? ⟨sb,4,none⟩=some (.slice Ae b.evs.length ce):=(af h3.box 4).trans (congrArg some e4)
 have HS:=Am_ h3
 have HC:=Am_ hC
 have HL:ay (b.evs.length<1000000):=⟨by rw [h4.evs];exact h4.small⟩
 have HP:ay (∀ e∈b.evs,e.ans.pairs.length<1000000):=⟨by rw [h4.evs];exact hpl⟩
 rw [←h4.evs]
 clear h h1 h2 h3 h4 h5 h6 e4 hpl hC
 go_enter Tryz.func31,Tryz.ntmps31
 go_upto_region 4 with (go_at_call 79;refine (Cy Ae _ ce (gy b.evs b.pv) _ HC.out HL.out).mono ?_;rintro e w1 ⟨v,rfl,hv,hb⟩;obtain ⟨A1,c1,rfl⟩:=Kd.aV hv;rw [dG] at hv ⊢;have HV:=Am_ hv;have HB:=Am_ hb;clear hv hb HC c4)
 have HA:ay (FP b.evs b.pv A1 c1 w 0 w1):=⟨⟨_,HV.out,dG _ _,fun _ _=>rfl,HB.out⟩⟩
 clear HV HB
 go_wp2_with fail
 go_loopg [4,14] b.evs.length (fun gh v4 i wr=> ∃ k:Nat,k+gh=b.evs.length∧i= .int .i64 k∧ay (FP b.evs b.pv A1 c1 w k wr))
 case atStart=>exact ⟨0,by omega,rfl,HA⟩
 case round=>
  clear HA
  obtain ⟨k,hk,rfl,HA⟩:=hrel
  cases gk with
  | succ gh=>
   have hlt:k<b.evs.length:=by omega
   have HKG:=Am_ hk
   have d1:decide ((k:Int)<(b.evs.length:Int))=true:=decide_eq_true (by omega)
   have d2:decide (k<b.evs.length)=true:=decide_eq_true hlt
   have b1:(0:Int)≤(k:Int):=by omega
   have b2:(k:Int)<(b.evs.length:Int):=by omega
   have hw1:=Fj k (by have:=HL.out;omega)
   clear hk
   obtain ⟨rows,hR,hl,hsame,hB⟩:=HA.out.out
   obtain ⟨ek,hek⟩: ∃ ek,b.evs[k]?=some ek:=⟨_,List.getElem?_eq_getElem hlt⟩
   have hrk:rows[k]?=some (dQ ek (b.pv k)):=by rw [hsame k (Nat.le_refl _),oK hek]
   obtain ⟨Ap,cp,ep,hcp,hF⟩:=HS.out.prs k ek hek
   obtain ⟨-,-,-,g1,e1,hg,hcc,hfz⟩:=nL hR hrk
   subst e1
   have y11:=hcc 11 _ rfl
   rw [ep] at y11
   have z11:=hfz 11
   have HR:=Am_ hR
   have HRK:=Am_ hrk
   have HBB:=Am_ hB
   have HSM:=Am_ hsame
   have HLL:=Am_ (And.intro hl hlt)
   have HCP:=Am_ (Kd.bU (Kd.gD hF) hB)
   have HPL:=Am_ (HP.out ek (List.mem_of_getElem? hek))
   have GG:=Am_ hg
   have EP:=Am_ ep
   clear hR hrk hB hsame hl hF hcc hfz hlt hg HA hek ep
   go_upto_region 8 with (go_at_call 75;refine (gZ Ap _ cp ek.ans.pairs _ HCP.out HPL.out).mono ?_;rintro e w3 ⟨v3,rfl,hv,hb⟩;obtain ⟨A3,c3,rfl⟩:=Kd.aV hv;have R3:=Am_ (Kd.cZ HR.out (fun q hq hlt=>hb.block q hlt));have B3:=Am_ (bf HBB.out HBB.out.size hb);have hh:=GU R3.out HRK.out (j:=11) rfl;rw [EP.out] at hh;have y11:=hh.1;have z11:=hh.2.1;clear hv hb HR HBB hh)
   have HN:ay (FP b.evs b.pv (some ⟨g1,0,none⟩) c1 w (k+1) (w3.setCell ⟨g1,k*13+11,none⟩ (.slice A3 ek.ans.pairs.length c3))):=⟨⟨_,ul R3.out HRK.out (by decide) rfl,by rw [List.length_set];exact HLL.out.1,fun j hj=>by rw [List.getElem?_set_ne (by omega)];exact HSM.out j (by omega),below_setCells B3.out g1 _ [_] GG.out⟩⟩
   clear R3 B3 HRK y11 z11
   generalize w3.setCell ⟨g1,k*13+11,none⟩ (.slice A3 ek.ans.pairs.length c3)=w4 at HN ⊢
   go_wp2_with fail
   go_roundg gh
   case rel=>exact ⟨k+1,by have:=HKG.out;omega,by rw [hw1],HN⟩
   case measure=>omega
  | zero=>
   have hlt: ¬ k<b.evs.length:=by omega
   have d1:decide ((k:Int)<(b.evs.length:Int))=false:=decide_eq_false (by omega)
   have d2:decide (k<b.evs.length)=false:=decide_eq_false hlt
   obtain ⟨_,_,_,_,hB⟩:=HA.out.out
   have HBB:=Am_ hB
   clear hB HA
   go_wp2_with fail
   go_ret
   exact ⟨⟨_,_,rfl,HBB.out⟩⟩
end Go.Proofs.YtmnjjdeaccgjlaaGreat.Tower
namespace Go.Proofs.YtmnjjdeaccgjlaaGreat.Tower
open Go Go.RowKit Go.Proofs.YtmnjjdeaccgjlaaGreatW.PrintWords Go.Proofs.YtmnjjdeaccgjlaaGreatW.PrintLast Go.Proofs.YtmnjjdeaccgjlaaGreatW.PrintMore Go.Proofs.YtmnjjdeaccgjlaaGreat.Own
theorem tJ (w:World):Calls Tryz.prog 78 #[.pointer none] w fun e w1=>e= .returned (.bool false)∧w1=w:=by
 go_enter Tryz.func78,Tryz.ntmps78
 go_wp2_with fail
 go_ret
 exact ⟨rfl,rfl⟩
theorem zP (gt c n:Nat) (w:World) (hn:n≤64) (h: ∀ t,t<n→w.cell? ⟨gt,t,none⟩=some (.pointer none)):
  Calls Tryz.prog 132 #[.slice (some ⟨gt,0,none⟩) n c,.func (.func 78) #[] #[]] w fun e w1=>e= .returned (.int .i64 (-1))∧w1=w:=by
 have HH:=Am_ h
 have HN:=Am_ hn
 clear h hn
 go_enter Tryz.func132,Tryz.ntmps132
 go_wp2_with fail
 go_loopg [5,8] n (fun gh v5 i wr=> ∃ k:Nat,k+gh=n∧i= .int .i64 k∧wr=w)
 case atStart=>exact ⟨0,by omega,rfl,rfl⟩
 case round=>
  obtain ⟨k,hk,rfl,rfl⟩:=hrel
  cases gk with
  | zero=>
   have d1:decide ((k:Int)<(n:Int))=false:=decide_eq_false (by omega)
   have d2:decide (k<n)=false:=decide_eq_false (by omega)
   go_wp2_with fail
   go_ret
   exact ⟨rfl,rfl⟩
  | succ gh=>
   have hlt:k<n:=by omega
   have HKG:=Am_ hk
   have d1:decide ((k:Int)<(n:Int))=true:=decide_eq_true (by omega)
   have d2:decide (k<n)=true:=decide_eq_true hlt
   have b1:(0:Int)≤(k:Int):=by omega
   have b2:(k:Int)<(n:Int):=by omega
   have hw1:wrap64 ((k:Int)+1)=((k+1:Nat):Int):=Fj k (by have:=HN.out;omega)
   have y:=HH.out k hlt
   clear hk hlt
   go_wp2_with (go_at_call 78;refine (tJ _).mono ?_;rintro e w1 ⟨rfl,rfl⟩)
   go_roundg gh
   case rel=>exact ⟨k+1,by have:=HKG.out;omega,by rw [hw1],rfl⟩
   case measure=>omega
theorem contains_nil (gt c n:Nat) (w:World) (hn:n≤64) (h: ∀ t,t<n→w.cell? ⟨gt,t,none⟩=some (.pointer none)):
  Calls Tryz.prog 77 #[.slice (some ⟨gt,0,none⟩) n c,.func (.func 78) #[] #[]] w fun e w1=>e= .returned (.bool false)∧w1=w:=by
 have HI:=Am_ (zP gt c n w hn h)
 clear h hn
 go_enter Tryz.func77,Tryz.ntmps77
 go_wp2_with (go_at_call 132;refine HI.out.mono ?_;rintro e w1 ⟨rfl,rfl⟩;clear HI)
 go_ret
 exact ⟨rfl,rfl⟩
theorem rU (sb p:Nat) (S:Stg) (ok:Nat→Prop) (w:World) (h:eX ok sb p S w) (hn:0<S.n):
  Calls Tryz.prog 30 #[.pointer (some ⟨sb,0,none⟩)] w fun e w1=>e= .returned (.bool true)∧w1=w:=by
 obtain ⟨okB,okW,b,ρ,h1,h2,h3,h4,h5⟩:=h.out
 have hl:(List.replicate S.n jc).length=S.n:=by simp
 obtain ⟨gt,ct,gh,ch,ga,ca,Ae,ce,hv⟩:=h3.vals h4 hl hn
 have hs:StS sb p S (List.replicate S.n jc) okB okW b ρ (shW p S.ws) ok w w:=⟨h3,h4,hl,Bj p S.ws,h5,h2,(Moves.refl ok w).owns (fun k hk=> .inl ((h1 k).2 hk))⟩
 have c1:=hs.c1 hv
 have HI:=Am_ (contains_nil gt ct S.n w h4.few (fun t ht=>(hs.th hv (by rw [List.getElem?_replicate,if_pos ht];rfl)).2.2.1))
 clear h h1 h2 h3 h4 h5 hl hv hs hn
 go_enter Tryz.func30,Tryz.ntmps30
 go_wp2_with (go_at_call 77;refine HI.out.mono ?_;rintro e w1 ⟨rfl,rfl⟩;clear HI)
 go_ret
 exact ⟨rfl,rfl⟩
def Tb.idx (t:Tb) (n:Int):Option Nat:=if 1≤n∧n≤t.l.length then some (n - 1).toNat else none
def rc0:Rc:=⟨[],[],0,0,0,0⟩
def en0:En:=⟨rc0,0,false⟩
def Tb.en (t:Tb) (n:Int):En:=match t.idx n with
 | none=>en0
 | some i=>t.l.getD i en0
def Tb.setState (t:Tb) (n s:Int):Tb:=match t.idx n with
 | none=>t
 | some i=> { t with l:=t.l.set i { t.l.getD i en0 with state:=s } }
def Tb.jP (t:Tb) (n:Int):Tb:=match t.idx n with
 | none=>t
 | some i=> { t with l:=t.l.set i { t.l.getD i en0 with all:=true } }
theorem Tb.gL {t:Tb} {n:Int} {i:Nat} (h:t.idx n=some i):1≤n∧n≤t.l.length∧i<t.l.length∧n=(i:Int)+1:=by
 unfold Tb.idx at h
 split at h
 ·injection h with h;omega
 ·cases h
theorem Tb.mR {t:Tb} {n:Int} {i:Nat} (h:t.idx n=some i):t.l[i]?=some (t.en n):=by
 have hi:=(Tb.gL h).2.2.1
 unfold Tb.en
 rw [h]
 simp only
 rw [List.getD_eq_getElem?_getD,List.getElem?_eq_getElem hi,Option.getD_some]
def mE (nv iv:Value) (e:En):Array Value:= #[nv,iv,.int .i64 e.rc.keep,.int .i64 e.rc.way,.int .i64 e.rc.old,.int .i64 e.rc.new,.int .u8 e.state,.bool e.all]
section
variable {ok:Nat→Prop} {p:Nat} {v:Value} {eb:Nat→Nat} {nv iv:Nat→Value} {ρ:Nat→Nat} {t:Tb} {w w1:World}
theorem gX.step (h:gX ok p v eb nv iv ρ t w) (hs:w.heap.size≤w1.heap.size) (hm: ∀ k,ok k→k<w.heap.size→w1.heap[k]?=w.heap[k]?):gX ok p v eb nv iv ρ t w1 where
 own:=h.own
 role:=h.role
 lt:=fun k hk=>Nat.lt_of_lt_of_le (h.lt k hk) hs
 box:=(hm p h.own (h.lt p h.own)).trans h.box
 row:=Kd.cZ h.row (fun k hk hlt=>hm k hk.1 hlt)
 ent:=fun i e hi=>by
  obtain ⟨h1,h2,h3,h4,h5,h6⟩:=h.ent i e hi
  exact ⟨h1,h2,h3,(hm _ h1 (h.lt _ h1)).trans h4,h5.step (fun k hk hlt=>hm k hk.1 hlt),h6.step (fun k hk hlt=>hm k hk.1 hlt)⟩
theorem gX.ptr {A:Option Addr} {n c:Nat} (h:gX ok p (.slice A n c) eb nv iv ρ t w) (i:Nat) (h1:i<t.l.length):
  n=t.l.length∧ ∃ g,A=some ⟨g,0,none⟩∧w.cell? ⟨g,i,none⟩=some (.pointer (some ⟨eb i,0,none⟩)):=by
 have hr:=(Kd.bS h.row).1
 have hn:n=t.l.length:=by rw [hr];simp
 obtain ⟨g,cap,e1,_⟩:=Kd.lX h.row (by simp;omega)
 injection e1 with e1 e2 _
 refine ⟨hn,g,e1,?_⟩
 subst e1
 obtain ⟨cs,_,hM,hcc,hfz⟩:=Kd.lW h.row [] (i:Int) (by omega) (by omega)
 have hM':=hM.1
 rw [List.getD_eq_getElem?_getD,List.getElem?_map,List.getElem?_range (by omega)] at hM'
 simp only [Option.map_some,Option.getD_some] at hM'
 have e:=hcc 0 (.pointer (some ⟨eb (i:Int).toNat,0,none⟩)) (by rw [hM'];rfl)
 rw [show (Kd.raw 1).sz=1 from rfl,Nat.mul_one,Nat.add_zero] at e
 simpa using e
theorem gX.put (h:gX ok p v eb nv iv ρ t w) {i:Nat} {e e1:En} (hi:t.l[i]?=some e) (hr:e1.rc=e.rc) (j:Nat) (u:Value) (hu:(mE (nv i) (iv i) e).setIfInBounds j u=mE (nv i) (iv i) e1):
  gX ok p v eb nv iv ρ { t with l:=t.l.set i e1 } (w.setCell ⟨eb i,j,none⟩ u):=by
 obtain ⟨q1,q2,q3,q4,q5,q6⟩:=h.ent i e hi
 have hne: ∀ r,r≠2→ ∀ k,(ok k∧ρ k=r)→k≠eb i:=fun r hr k hk e=>by rw [e,q2] at hk;exact hr hk.2.symm
 have hlt:i<t.l.length:=(List.getElem?_eq_some_iff.1 hi).1
 have hfar: ∀ r,r≠2→ ∀ k,(ok k∧ρ k=r)→k<w.heap.size→(w.setCell ⟨eb i,j,none⟩ u).heap[k]?=w.heap[k]?:=fun r hr k hk _=>Below.heap_setCell w ⟨eb i,j,none⟩ u k (hne r hr k hk)
 exact {
  own:=h.own
  role:=h.role
  lt:=fun k hk=>by simpa [World.setCell] using h.lt k hk
  box:=(hfar 0 (by decide) p ⟨h.own,h.role⟩ (h.lt p h.own)).trans h.box
  row:=by
   rw [List.length_set]
   exact Kd.cZ h.row (hfar 1 (by decide))
  ent:=fun x y hx=>by
   rw [List.getElem?_set] at hx
   by_cases hxi:i=x
   ·subst hxi
    rw [if_pos rfl,if_pos hlt] at hx
    injection hx with hx
    subst hx
    refine ⟨q1,q2,q3,?_,?_,?_⟩
    ·have:=bW q4 j u
     rw [show (#[nv i,iv i,.int .i64 e.rc.keep,.int .i64 e.rc.way,.int .i64 e.rc.old,.int .i64 e.rc.new,.int .u8 e.state,.bool e.all]:Array Value)=mE (nv i) (iv i) e from rfl,hu] at this
     exact this
    ·rw [hr];exact q5.step (hfar 3 (by decide))
    ·rw [hr];exact q6.step (hfar 3 (by decide))
   ·rw [if_neg hxi] at hx
    obtain ⟨r1,r2,r3,r4,r5,r6⟩:=h.ent x y hx
    have hex:eb x≠eb i:=by
     rcases Nat.lt_or_gt_of_ne hxi with hl | hl
     ·exact fun e=>r3 i hl e.symm
     ·exact q3 x hl
    exact ⟨r1,r2,r3,(Below.heap_setCell w ⟨eb i,j,none⟩ u (eb x) hex).trans r4,r5.step (hfar 3 (by decide)),r6.step (hfar 3 (by decide))⟩ }
end
def atV (eb:Nat→Nat) (t:Tb) (n:Int):Value:=match t.idx n with
 | none=> .pointer none
 | some i=> .pointer (some ⟨eb i,0,none⟩)
theorem BN {ok:Nat→Prop} {p:Nat} {v:Value} {eb:Nat→Nat} {nv iv:Nat→Value} {ρ:Nat→Nat} {t:Tb} (n:Int) (w:World) (h:gX ok p v eb nv iv ρ t w) (hl:t.l.length<1000000):
  Calls Tryz.prog 242 #[.pointer (some ⟨p,0,none⟩),.int .i64 n] w fun e w1=>e= .returned (atV eb t n)∧w1=w:=by
 obtain ⟨A,c,rfl⟩:=Kd.aV h.row
 have hlen:((List.range t.l.length).map fun i=> [Value.pointer (some ⟨eb i,0,none⟩)]).length=t.l.length:=by simp
 have hp: ∀ i,i<t.l.length→_:=fun i hi=>h.ptr i hi
 have c1:w.cell? ⟨p,0,none⟩=some (.slice A t.l.length c):=by rw [←hlen];exact (af h.box 0).trans rfl
 have HP:=Am_ hp
 clear hp h hlen
 unfold atV Tb.idx
 by_cases h1:1≤n
 ·have d1:decide (n<1)=false:=decide_eq_false (by omega)
  by_cases h2:n≤t.l.length
  ·obtain ⟨i,rfl⟩: ∃ i:Nat,n=(i:Int)+1:=⟨(n - 1).toNat,by omega⟩
   obtain ⟨_,g,rfl,hg⟩:=HP.out i (by omega)
   rw [if_pos ⟨h1,h2⟩]
   have e1:(((i:Int)+1 - 1).toNat)=i:=by omega
   rw [e1]
   have d2:decide ((i:Int)+1>(t.l.length:Int))=false:=decide_eq_false (by omega)
   have d3:decide ((t.l.length:Int)<(i:Int)+1)=false:=decide_eq_false (by omega)
   have b1:(0:Int)≤i:=by omega
   have b2:(i:Int)<(t.l.length:Int):=by omega
   clear HP h1 h2 e1
   go_enter Tryz.func242,Tryz.ntmps242
   go_wp2_with fail
   go_ret
   exact ⟨rfl,rfl⟩
  ·rw [if_neg (by omega)]
   have d2:decide (n>(t.l.length:Int))=true:=decide_eq_true (by omega)
   have d3:decide ((t.l.length:Int)<n)=true:=decide_eq_true (by omega)
   clear HP h1 h2
   go_enter Tryz.func242,Tryz.ntmps242
   go_wp2_with fail
   go_ret
   exact ⟨rfl,rfl⟩
 ·rw [if_neg (by omega)]
  have d1:decide (n<1)=true:=decide_eq_true (by omega)
  clear HP h1
  go_enter Tryz.func242,Tryz.ntmps242
  go_wp2_with fail
  go_ret
  exact ⟨rfl,rfl⟩
theorem DZ {ok:Nat→Prop} {p:Nat} {t:Tb} (n:Int) (w:World) (h:IsTable ok p t w) (hl:t.l.length<1000000):
  Calls Tryz.prog 240 #[.pointer (some ⟨p,0,none⟩),.int .i64 n] w fun e w1=>e= .returned (.int .u8 (t.en n).state)∧w1=w:=by
 obtain ⟨v,eb,nv,iv,ρ,h⟩:=h
 have HA:=Am_ (BN n w h hl)
 cases hi:t.idx n with
 | none=>
  have e1:(t.en n).state=0:=by unfold Tb.en;rw [hi];rfl
  have e2:atV eb t n= .pointer none:=by unfold atV;rw [hi]
  rw [e2] at HA
  rw [e1]
  clear h hl hi e1 e2
  go_enter Tryz.func240,Tryz.ntmps240
  go_wp2_with (go_at_call 242;refine HA.out.mono ?_;rintro e w1 ⟨rfl,rfl⟩)
  go_ret
  exact ⟨rfl,rfl⟩
 | some i=>
  have e2:atV eb t n= .pointer (some ⟨eb i,0,none⟩):=by unfold atV;rw [hi]
  rw [e2] at HA
  have c6:=(af (h.ent i _ (Tb.mR hi)).2.2.2.1 6).trans (rfl:_=some (Value.int .u8 (t.en n).state))
  generalize (t.en n).state=st at c6
  clear h hl hi e2
  go_enter Tryz.func240,Tryz.ntmps240
  go_wp2_with (go_at_call 242;refine HA.out.mono ?_;rintro e w1 ⟨rfl,rfl⟩)
  go_ret
  exact ⟨rfl,rfl⟩
theorem JW {ok:Nat→Prop} {p:Nat} {t:Tb} (n:Int) (w:World) (h:IsTable ok p t w) (hl:t.l.length<1000000):
  Calls Tryz.prog 214 #[.pointer (some ⟨p,0,none⟩),.int .i64 n] w fun e w1=>e= .returned (.bool (t.en n).all)∧w1=w:=by
 obtain ⟨v,eb,nv,iv,ρ,h⟩:=h
 have HA:=Am_ (BN n w h hl)
 cases hi:t.idx n with
 | none=>
  have e1:(t.en n).all=false:=by unfold Tb.en;rw [hi];rfl
  have e2:atV eb t n= .pointer none:=by unfold atV;rw [hi]
  rw [e2] at HA
  rw [e1]
  clear h hl hi e1 e2
  go_enter Tryz.func214,Tryz.ntmps214
  go_wp2_with (go_at_call 242;refine HA.out.mono ?_;rintro e w1 ⟨rfl,rfl⟩)
  go_ret
  exact ⟨rfl,rfl⟩
 | some i=>
  have e2:atV eb t n= .pointer (some ⟨eb i,0,none⟩):=by unfold atV;rw [hi]
  rw [e2] at HA
  have c6:=(af (h.ent i _ (Tb.mR hi)).2.2.2.1 7).trans (rfl:_=some (Value.bool (t.en n).all))
  generalize (t.en n).all=st at c6
  clear h hl hi e2
  go_enter Tryz.func214,Tryz.ntmps214
  go_wp2_with (go_at_call 242;refine HA.out.mono ?_;rintro e w1 ⟨rfl,rfl⟩)
  go_ret
  exact ⟨rfl,rfl⟩
structure EN (ok:Nat→Prop) (p:Nat) (v:Value) (t1:Tb) (w:World) (e:Ending) (w1:World):Prop where
 val:e= .returned v
 tb:IsTable ok p t1 w1
 moves:Moves ok ok w w1
theorem JX {ok:Nat→Prop} {p:Nat} {t:Tb} (n s:Int) (w:World) (h:IsTable ok p t w) (hl:t.l.length<1000000):
  Calls Tryz.prog 244 #[.pointer (some ⟨p,0,none⟩),.int .i64 n,.int .u8 s] w (EN ok p (.tuple #[]) (t.setState n s) w):=by
 obtain ⟨v,eb,nv,iv,ρ,h⟩:=h
 have HA:=Am_ (BN n w h hl)
 cases hi:t.idx n with
 | none=>
  have e1:t.setState n s=t:=by unfold Tb.setState;rw [hi]
  have e2:atV eb t n= .pointer none:=by unfold atV;rw [hi]
  rw [e2] at HA
  rw [e1]
  have HT:=Am_ h
  clear h hl hi e1 e2
  go_enter Tryz.func244,Tryz.ntmps244
  go_wp2_with (go_at_call 242;refine HA.out.mono ?_;rintro e w1 ⟨rfl,rfl⟩)
  go_end0
  exact ⟨rfl,⟨_,_,_,_,_,HT.out⟩,Moves.refl _ _⟩
 | some i=>
  have e2:atV eb t n= .pointer (some ⟨eb i,0,none⟩):=by unfold atV;rw [hi]
  rw [e2] at HA
  have hen:=Tb.mR hi
  have hent:=h.ent i _ hen
  have c6:=(af hent.2.2.2.1 6).trans (rfl:_=some (Value.int .u8 (t.en n).state))
  have z6:=ah hent.2.2.2.1 6
  have HT:=Am_ (h.put hen (e1:= { t.en n with state:=s }) rfl 6 (.int .u8 s) rfl)
  have e1:t.setState n s= { t with l:=t.l.set i { t.en n with state:=s } }:=by unfold Tb.setState Tb.en;rw [hi]
  rw [e1]
  have HO:=Am_ hent.1
  generalize (t.en n).state=st at c6
  clear h hl hi e2 e1 hen hent
  go_enter Tryz.func244,Tryz.ntmps244
  go_wp2_with (go_at_call 242;refine HA.out.mono ?_;rintro e w1 ⟨rfl,rfl⟩)
  go_end0
  exact ⟨rfl,⟨_,_,_,_,_,HT.out⟩,(Moves.refl _ _).set (.inl HO.out) _⟩
theorem BO {ok:Nat→Prop} {p:Nat} {t:Tb} (n:Int) (w:World) (h:IsTable ok p t w) (hl:t.l.length<1000000):
  Calls Tryz.prog 217 #[.pointer (some ⟨p,0,none⟩),.int .i64 n] w (EN ok p (.tuple #[]) (t.jP n) w):=by
 obtain ⟨v,eb,nv,iv,ρ,h⟩:=h
 have HA:=Am_ (BN n w h hl)
 cases hi:t.idx n with
 | none=>
  have e1:t.jP n=t:=by unfold Tb.jP;rw [hi]
  have e2:atV eb t n= .pointer none:=by unfold atV;rw [hi]
  rw [e2] at HA
  rw [e1]
  have HT:=Am_ h
  clear h hl hi e1 e2
  go_enter Tryz.func217,Tryz.ntmps217
  go_wp2_with (go_at_call 242;refine HA.out.mono ?_;rintro e w1 ⟨rfl,rfl⟩)
  go_end0
  exact ⟨rfl,⟨_,_,_,_,_,HT.out⟩,Moves.refl _ _⟩
 | some i=>
  have e2:atV eb t n= .pointer (some ⟨eb i,0,none⟩):=by unfold atV;rw [hi]
  rw [e2] at HA
  have hen:=Tb.mR hi
  have hent:=h.ent i _ hen
  have c6:=(af hent.2.2.2.1 7).trans (rfl:_=some (Value.bool (t.en n).all))
  have z6:=ah hent.2.2.2.1 7
  have HT:=Am_ (h.put hen (e1:= { t.en n with all:=true }) rfl 7 (.bool true) rfl)
  have e1:t.jP n= { t with l:=t.l.set i { t.en n with all:=true } }:=by unfold Tb.jP Tb.en;rw [hi]
  rw [e1]
  have HO:=Am_ hent.1
  generalize (t.en n).all=st at c6
  clear h hl hi e2 e1 hen hent
  go_enter Tryz.func217,Tryz.ntmps217
  go_wp2_with (go_at_call 242;refine HA.out.mono ?_;rintro e w1 ⟨rfl,rfl⟩)
  go_end0
  exact ⟨rfl,⟨_,_,_,_,_,HT.out⟩,(Moves.refl _ _).set (.inl HO.out) _⟩
def Ar.info (a:Ar) (r:Int):Int × Ar:=
 match a.idx r with
 | none=>(0,a.fault)
 | some j=>match a.slots[j]? with
  | none=>(0,a)
  | some s=>(s.info,a)
def Ar.mark (a:Ar) (r:Int):Bool × Ar:=
 match a.idx r with
 | none=>(false,a.fault)
 | some j=>match a.slots[j]? with
  | none=>(false,a)
  | some s=>(s.mark,a)
def Ar.jb (a:Ar) (r:Int):Ar:=
 match a.idx r with
 | none=>a.fault
 | some j=>match a.slots[j]? with
  | none=>a
  | some s=> { a with slots:=a.slots.set j { s with mark:=true } }
def Ar.fw (a:Ar) (r old now:Int):Bool × Ar:=
 match a.idx r with
 | none=>(false,a.fault)
 | some j=>match a.slots[j]? with
  | none=>(false,a)
  | some s=>if s.info=old then (true,{ a with slots:=a.slots.set j { s with info:=now } }) else (false,a)
def Ar.gW (a:Ar) (r i old now:Int):Bool × Ar:=
 match a.idx r with
 | none=>(false,a.fault)
 | some j=>match a.slots[j]? with
  | none=>(false,a)
  | some s=>if i<0 then (false,a) else if (s.ways.length:Int)≤i then (false,a) else if s.ways.getD i.toNat 0=old then (true,{ a with slots:=a.slots.set j { s with ways:=s.ways.set i.toNat now } }) else (false,a)
theorem dm.Ii {ok:Nat→Prop} {pA:Nat} {sv fv:Value} {lv:Nat→Lv} {ρ:Nat→Nat} {a:Ar} {w:World} (h:dm ok pA sv fv lv ρ a w) {i:Nat} {s:Sl} (hi:a.slots[i]?=some s) {gl cw:Nat} (hv:(lv i).w= .slice (some ⟨gl,0,none⟩) s.ways.length cw) (j:Int) (x:Int):
  dm ok pA sv fv lv ρ { a with slots:=a.slots.set i { s with ways:=s.ways.set j.toNat x } } (w.setCell ⟨gl,j.toNat,none⟩ (.int .i64 x)):=by
 have hil:=(List.getElem?_eq_some_iff.1 hi).1
 have hR:=h.ways i s hi
 rw [hv] at hR
 have hgl:=hR.1 gl (by simp [Value.ownBlock])
 have hne: ∀ r,r≠4+i→ ∀ k,ρ k=r→k≠gl:=fun r hr k hk e=>hr (by rw [←hk,e,hgl.2])
 have hm: ∀ k,ρ k≠4+i→(w.setCell ⟨gl,j.toNat,none⟩ (.int .i64 x)).heap[k]?=w.heap[k]?:=fun k hk=>Below.heap_setCell w ⟨gl,j.toNat,none⟩ _ k (fun e=>hk (by rw [e,hgl.2]))
 have hget: ∀ {i1:Nat} {s2:Sl},(a.slots.set i { s with ways:=s.ways.set j.toNat x })[i1]?=some s2→(i1=i∧s2= { s with ways:=s.ways.set j.toNat x })∨(i1≠i∧a.slots[i1]?=some s2):=fun {i1 s2} h2=>by
  by_cases he:i=i1
  ·subst he
   rw [List.getElem?_set_self hil] at h2
   injection h2 with h2
   exact .inl ⟨rfl,h2.symm⟩
  ·rw [List.getElem?_set_ne he] at h2
   exact .inr ⟨fun e=>he e.symm,h2⟩
 have hrows:rowsOf (a.slots.set i { s with ways:=s.ways.set j.toNat x }) lv=rowsOf a.slots lv:=by
  rw [oV hil (fun _ _=>rfl)]
  refine List.ext_getElem? fun q=>?_
  by_cases hq:i=q
  ·subst hq
   rw [List.getElem?_set_self (by rw [dz];exact hil),oU hi]
   rfl
  ·rw [List.getElem?_set_ne hq]
 exact {
  own:=h.own
  role:=h.role
  lt:=fun k hk=>by simpa [World.setCell] using h.lt k hk
  box:=(hm pA (by rw [h.role];omega)).trans h.box
  rows:=by
   show (Kd.raw 10).R _ _ _ _ _ (rowsOf (a.slots.set i _) lv)
   rw [hrows]
   exact Kd.cZ h.rows (fun k hk _=>hm k (by rw [hk.2];omega))
  free:=Kd.jV h.free (fun k hk _=>hm k (by rw [hk.2];omega))
  node:=fun i1 s2 h2=>by
   have hs3: ∃ s3,a.slots[i1]?=some s3∧s3.node=s2.node:=by
    rcases hget h2 with ⟨rfl,rfl⟩ | ⟨_,h3⟩
    ·exact ⟨s,hi,rfl⟩
    ·exact ⟨s2,h3,rfl⟩
   obtain ⟨s3,h3,he⟩:=hs3
   have hn:=h.node i1 s3 h3
   rw [he] at hn
   have h4: ∀ k,(ok k∧ρ k=3)→k<w.heap.size→(w.setCell ⟨gl,j.toNat,none⟩ (.int .i64 x)).heap[k]?=w.heap[k]?:=fun k hk _=>hm k (by rw [hk.2];omega)
   exact ⟨hn.1.step h4,hn.2.1.step h4,hn.2.2.step h4⟩
  ways:=fun i1 s2 h2=>by
   rcases hget h2 with ⟨rfl,rfl⟩ | ⟨hi1,h2⟩
   ·have h5:=Kd.Jc hR j x
    show (Kd.int .i64).R _ _ _ _ (lv i1).w (s.ways.set j.toNat x)
    rw [hv]
    exact h5
   ·exact Kd.cZ (h.ways i1 s2 h2) (fun k hk _=>hm k (by rw [hk.2];omega)) }
theorem oM {ok:Nat→Prop} {pA:Nat} {a:Ar} (r:Int) (w:World) (h:dU ok pA a w) (hl:a.slots.length<1000000):
  Calls Tryz.prog 212 #[.pointer (some ⟨pA,0,none⟩),.int .i64 r] w (vJ ok pA (.int .i64 (a.info r).1) ((a.info r).2) w):=by
 obtain ⟨sv,fv,lv,ρ,h⟩:=h
 have HA:=Am_ (iU r w h hl)
 cases hx:a.idx r with
 | none=>
  have HF:=Am_ (jd h)
  have HX:=Am_ hx
  have e1:a.info r=(0,a.fault):=by simp [Ar.info,hx]
  rw [e1]
  clear h hx e1
  go_enter Tryz.func212,Tryz.ntmps212
  go_wp2_with (go_at_call 127;refine HA.out.mono ?_;rintro e w1 ⟨_,hm⟩;obtain ⟨rfl,rfl⟩:=hm HX.out;clear hm)
  go_ret
  exact ⟨rfl,HF.out.1,HF.out.2⟩
 | some j=>
  obtain ⟨hp,s,hs,hu,hr⟩:=Ar.gL hx
  obtain ⟨ad,cap,rfl⟩:=Kd.aV h.rows
  obtain ⟨hn,g,rfl,hg,hρ,hcc,hfz⟩:=h.cells hs
  have HX:=Am_ hx
  have HI:=Am_ h
  have HG:=Am_ hg
  have HS:=Am_ hs
  have c6:w.cell? ⟨g,j*10+6,none⟩=some (.int .i64 s.info):=hcc 6 _ rfl
  have e1:a.info r=(s.info,a):=by simp [Ar.info,hx,hs]
  rw [e1]
  generalize s.info=v at c6 ⊢
  clear h hx hcc hfz hp hs hu hr e1
  go_enter Tryz.func212,Tryz.ntmps212
  go_wp2_with (go_at_call 127;refine HA.out.mono ?_;rintro e w1 ⟨hm,_⟩;obtain ⟨g1,n1,cap1,e1,rfl,rfl⟩:=hm j HX.out;injection e1 with e1 _ _;injection e1 with e1;injection e1 with e1 _ _;subst e1;clear hm)
  go_ret
  exact ⟨rfl,⟨_,_,_,_,HI.out⟩,Moves.refl _ _⟩
theorem wY {ok:Nat→Prop} {pA:Nat} {a:Ar} (r:Int) (w:World) (h:dU ok pA a w) (hl:a.slots.length<1000000):
  Calls Tryz.prog 237 #[.pointer (some ⟨pA,0,none⟩),.int .i64 r] w (vJ ok pA (.bool (a.mark r).1) ((a.mark r).2) w):=by
 obtain ⟨sv,fv,lv,ρ,h⟩:=h
 have HA:=Am_ (iU r w h hl)
 cases hx:a.idx r with
 | none=>
  have HF:=Am_ (jd h)
  have HX:=Am_ hx
  have e1:a.mark r=(false,a.fault):=by simp [Ar.mark,hx]
  rw [e1]
  clear h hx e1
  go_enter Tryz.func237,Tryz.ntmps237
  go_wp2_with (go_at_call 127;refine HA.out.mono ?_;rintro e w1 ⟨_,hm⟩;obtain ⟨rfl,rfl⟩:=hm HX.out;clear hm)
  go_ret
  exact ⟨rfl,HF.out.1,HF.out.2⟩
 | some j=>
  obtain ⟨hp,s,hs,hu,hr⟩:=Ar.gL hx
  obtain ⟨ad,cap,rfl⟩:=Kd.aV h.rows
  obtain ⟨hn,g,rfl,hg,hρ,hcc,hfz⟩:=h.cells hs
  have HX:=Am_ hx
  have HI:=Am_ h
  have HG:=Am_ hg
  have HS:=Am_ hs
  have c7:w.cell? ⟨g,j*10+7,none⟩=some (.bool s.mark):=hcc 7 _ rfl
  have e1:a.mark r=(s.mark,a):=by simp [Ar.mark,hx,hs]
  rw [e1]
  generalize s.mark=v at c7 ⊢
  clear h hx hcc hfz hp hs hu hr e1
  go_enter Tryz.func237,Tryz.ntmps237
  go_wp2_with (go_at_call 127;refine HA.out.mono ?_;rintro e w1 ⟨hm,_⟩;obtain ⟨g1,n1,cap1,e1,rfl,rfl⟩:=hm j HX.out;injection e1 with e1 _ _;injection e1 with e1;injection e1 with e1 _ _;subst e1;clear hm)
  go_ret
  exact ⟨rfl,⟨_,_,_,_,HI.out⟩,Moves.refl _ _⟩
theorem qo {ok:Nat→Prop} {pA:Nat} {a:Ar} (r:Int) (w:World) (h:dU ok pA a w) (hl:a.slots.length<1000000):
  Calls Tryz.prog 219 #[.pointer (some ⟨pA,0,none⟩),.int .i64 r] w (vJ ok pA (.tuple #[]) (a.jb r) w):=by
 obtain ⟨sv,fv,lv,ρ,h⟩:=h
 have HA:=Am_ (iU r w h hl)
 cases hx:a.idx r with
 | none=>
  have HF:=Am_ (jd h)
  have HX:=Am_ hx
  have e1:a.jb r=a.fault:=by simp [Ar.jb,hx]
  rw [e1]
  clear h hx e1
  go_enter Tryz.func219,Tryz.ntmps219
  go_wp2_with (go_at_call 127;refine HA.out.mono ?_;rintro e w1 ⟨_,hm⟩;obtain ⟨rfl,rfl⟩:=hm HX.out;clear hm)
  go_end0
  exact ⟨rfl,HF.out.1,HF.out.2⟩
 | some j=>
  obtain ⟨hp,s,hs,hu,hr⟩:=Ar.gL hx
  obtain ⟨ad,cap,rfl⟩:=Kd.aV h.rows
  obtain ⟨hn,g,rfl,hg,hρ,hcc,hfz⟩:=h.cells hs
  have HX:=Am_ hx
  have HI:=Am_ h
  have HG:=Am_ hg
  have HS:=Am_ hs
  have c7:w.cell? ⟨g,j*10+7,none⟩=some (.bool s.mark):=hcc 7 _ rfl
  have z7:=hfz 7
  have e1:a.jb r= { a with slots:=a.slots.set j { s with mark:=true } }:=by simp [Ar.jb,hx,hs]
  rw [e1]
  have HN:=Am_ (HI.out.seg hs 7 [.bool true] (by simp) { s with mark:=true } lv (fun _ _=>rfl) rfl (h.node j s hs) (h.ways j s hs))
  generalize s.mark=v at c7
  clear h hx hcc hfz hp hs hu hr e1
  go_enter Tryz.func219,Tryz.ntmps219
  go_wp2_with (go_at_call 127;refine HA.out.mono ?_;rintro e w1 ⟨hm,_⟩;obtain ⟨g1,n1,cap1,e1,rfl,rfl⟩:=hm j HX.out;injection e1 with e1 _ _;injection e1 with e1;injection e1 with e1 _ _;subst e1;clear hm)
  go_end0
  exact ⟨rfl,⟨_,_,_,_,HN.out⟩,(Moves.refl ok _).set (p:=⟨g,j*10+7,none⟩) (.inl HG.out) _⟩
theorem oq {ok:Nat→Prop} {pA:Nat} {a:Ar} (r old now:Int) (w:World) (h:dU ok pA a w) (hl:a.slots.length<1000000):
  Calls Tryz.prog 210 #[.pointer (some ⟨pA,0,none⟩),.int .i64 r,.int .i64 old,.int .i64 now] w (vJ ok pA (.bool (a.fw r old now).1) ((a.fw r old now).2) w):=by
 obtain ⟨sv,fv,lv,ρ,h⟩:=h
 have HA:=Am_ (iU r w h hl)
 cases hx:a.idx r with
 | none=>
  have HF:=Am_ (jd h)
  have HX:=Am_ hx
  have e1:a.fw r old now=(false,a.fault):=by simp [Ar.fw,hx]
  rw [e1]
  clear h hx e1
  go_enter Tryz.func210,Tryz.ntmps210
  go_wp2_with (go_at_call 127;refine HA.out.mono ?_;rintro e w1 ⟨_,hm⟩;obtain ⟨rfl,rfl⟩:=hm HX.out;clear hm)
  go_ret
  exact ⟨rfl,HF.out.1,HF.out.2⟩
 | some j=>
  obtain ⟨hp,s,hs,hu,hr⟩:=Ar.gL hx
  obtain ⟨ad,cap,rfl⟩:=Kd.aV h.rows
  obtain ⟨hn,g,rfl,hg,hρ,hcc,hfz⟩:=h.cells hs
  have HX:=Am_ hx
  have HI:=Am_ h
  have HG:=Am_ hg
  have HS:=Am_ hs
  have c6:w.cell? ⟨g,j*10+6,none⟩=some (.int .i64 s.info):=hcc 6 _ rfl
  have z6:=hfz 6
  by_cases hq:s.info=old
  ·have e1:a.fw r old now=(true,{ a with slots:=a.slots.set j { s with info:=now } }):=by simp [Ar.fw,hx,hs,hq]
   rw [e1]
   have HN:=Am_ (HI.out.seg hs 6 [.int .i64 now] (by simp) { s with info:=now } lv (fun _ _=>rfl) rfl (h.node j s hs) (h.ways j s hs))
   rw [hq] at c6
   have d1:(old != old)=false:=by simp
   clear h hx hcc hfz hp hs hu hr e1 hq
   go_enter Tryz.func210,Tryz.ntmps210
   go_wp2_with (go_at_call 127;refine HA.out.mono ?_;rintro e w1 ⟨hm,_⟩;obtain ⟨g1,n1,cap1,e1,rfl,rfl⟩:=hm j HX.out;injection e1 with e1 _ _;injection e1 with e1;injection e1 with e1 _ _;subst e1;clear hm)
   go_ret
   exact ⟨rfl,⟨_,_,_,_,HN.out⟩,(Moves.refl ok _).set (p:=⟨g,j*10+6,none⟩) (.inl HG.out) _⟩
  ·have e1:a.fw r old now=(false,a):=by simp [Ar.fw,hx,hs,hq]
   rw [e1]
   have d1:(s.info != old)=true:=by simpa using hq
   generalize s.info=v at c6 d1
   clear h hx hcc hfz hp hs hu hr e1 hq
   go_enter Tryz.func210,Tryz.ntmps210
   go_wp2_with (go_at_call 127;refine HA.out.mono ?_;rintro e w1 ⟨hm,_⟩;obtain ⟨g1,n1,cap1,e1,rfl,rfl⟩:=hm j HX.out;injection e1 with e1 _ _;injection e1 with e1;injection e1 with e1 _ _;subst e1;clear hm)
   go_ret
   exact ⟨rfl,⟨_,_,_,_,HI.out⟩,Moves.refl _ _⟩
theorem qy {ok:Nat→Prop} {pA:Nat} {a:Ar} (r i old now:Int) (w:World) (h:dU ok pA a w) (hl:a.slots.length<1000000):
  Calls Tryz.prog 111 #[.pointer (some ⟨pA,0,none⟩),.int .i64 r,.int .i64 i,.int .i64 old,.int .i64 now] w (vJ ok pA (.bool (a.gW r i old now).1) ((a.gW r i old now).2) w):=by
 obtain ⟨sv,fv,lv,ρ,h⟩:=h
 have HA:=Am_ (iU r w h hl)
 cases hx:a.idx r with
 | none=>
  have HF:=Am_ (jd h)
  have HX:=Am_ hx
  have e1:a.gW r i old now=(false,a.fault):=by simp [Ar.gW,hx]
  rw [e1]
  clear h hx e1
  go_enter Tryz.func111,Tryz.ntmps111
  go_wp2_with (go_at_call 127;refine HA.out.mono ?_;rintro e w1 ⟨_,hm⟩;obtain ⟨rfl,rfl⟩:=hm HX.out;clear hm)
  go_ret
  exact ⟨rfl,HF.out.1,HF.out.2⟩
 | some j=>
  obtain ⟨hp,s,hs,hu,hr⟩:=Ar.gL hx
  obtain ⟨ad,cap,rfl⟩:=Kd.aV h.rows
  obtain ⟨hn,g,rfl,hg,hρ,hcc,hfz⟩:=h.cells hs
  have HX:=Am_ hx
  have HI:=Am_ h
  have HG:=Am_ hg
  have HS:=Am_ hs
  have hR:=h.ways j s hs
  obtain ⟨Aw,cw,ew⟩:=Kd.aV hR
  have c5:w.cell? ⟨g,j*10+5,none⟩=some (.slice Aw s.ways.length cw):=hcc 5 _ (by rw [←ew];rfl)
  have e1:a.gW r i old now=(if i<0 then (false,a) else if (s.ways.length:Int)≤i then (false,a) else if s.ways.getD i.toNat 0=old then (true,{ a with slots:=a.slots.set j { s with ways:=s.ways.set i.toNat now } }) else (false,a)):=by simp [Ar.gW,hx,hs]
  rw [e1]
  rw [ew] at hR
  by_cases h0:i<0
  ·rw [if_pos h0]
   have d1:decide (i<0)=true:=decide_eq_true h0
   clear h hx hcc hfz hp hs hu hr e1 ew hR h0
   go_enter Tryz.func111,Tryz.ntmps111
   go_wp2_with (go_at_call 127;refine HA.out.mono ?_;rintro e w1 ⟨hm,_⟩;obtain ⟨g1,n1,cap1,e1,rfl,rfl⟩:=hm j HX.out;injection e1 with e1 _ _;injection e1 with e1;injection e1 with e1 _ _;subst e1;clear hm)
   go_ret
   exact ⟨rfl,⟨_,_,_,_,HI.out⟩,Moves.refl _ _⟩
  ·rw [if_neg h0]
   have d1:decide (i<0)=false:=decide_eq_false h0
   by_cases h1:(s.ways.length:Int)≤i
   ·rw [if_pos h1]
    have d2:decide (i≥(s.ways.length:Int))=true:=decide_eq_true h1
    have d2':decide ((s.ways.length:Int)≤i)=true:=decide_eq_true h1
    clear h hx hcc hfz hp hs hu hr e1 ew hR h0 h1
    go_enter Tryz.func111,Tryz.ntmps111
    go_wp2_with (go_at_call 127;refine HA.out.mono ?_;rintro e w1 ⟨hm,_⟩;obtain ⟨g1,n1,cap1,e1,rfl,rfl⟩:=hm j HX.out;injection e1 with e1 _ _;injection e1 with e1;injection e1 with e1 _ _;subst e1;clear hm)
    go_ret
    exact ⟨rfl,⟨_,_,_,_,HI.out⟩,Moves.refl _ _⟩
   ·rw [if_neg h1]
    have d2:decide (i≥(s.ways.length:Int))=false:=decide_eq_false h1
    have d2':decide ((s.ways.length:Int)≤i)=false:=decide_eq_false h1
    have b1:0≤i:=by omega
    have b2:i<(s.ways.length:Int):=by omega
    obtain ⟨gl,rfl,_,hcl⟩:=kK hR i b1 b2
    have hfw:=(Kd.FX (0:Int) hR i b1 b2).2
    have HGL:=Am_ (hR.1 gl (by simp [Value.ownBlock]))
    by_cases h2:s.ways.getD i.toNat 0=old
    ·rw [if_pos h2]
     have d3:(old != old)=false:=by simp
     have HN:=Am_ (HI.out.Ii hs ew i now)
     rw [h2] at hcl
     clear h hx hcc hfz hp hs hu hr e1 ew hR h0 h1 h2
     go_enter Tryz.func111,Tryz.ntmps111
     go_wp2_with (go_at_call 127;refine HA.out.mono ?_;rintro e w1 ⟨hm,_⟩;obtain ⟨g1,n1,cap1,e1,rfl,rfl⟩:=hm j HX.out;injection e1 with e1 _ _;injection e1 with e1;injection e1 with e1 _ _;subst e1;clear hm)
     go_ret
     exact ⟨rfl,⟨_,_,_,_,HN.out⟩,(Moves.refl ok _).set (p:=⟨gl,i.toNat,none⟩) (.inl HGL.out.1) _⟩
    ·rw [if_neg h2]
     have d3:(s.ways.getD i.toNat 0 != old)=true:=by simpa using h2
     generalize s.ways.getD i.toNat 0=v at hcl d3
     clear h hx hcc hfz hp hs hu hr e1 ew hR h0 h1 h2
     go_enter Tryz.func111,Tryz.ntmps111
     go_wp2_with (go_at_call 127;refine HA.out.mono ?_;rintro e w1 ⟨hm,_⟩;obtain ⟨g1,n1,cap1,e1,rfl,rfl⟩:=hm j HX.out;injection e1 with e1 _ _;injection e1 with e1;injection e1 with e1 _ _;subst e1;clear hm)
     go_ret
     exact ⟨rfl,⟨_,_,_,_,HI.out⟩,Moves.refl _ _⟩
theorem Ar.Good.info {a:Ar} (h:a.Good) (r:Int):(a.info r).2.Good:=by
 unfold Ar.info
 split
 ·exact h.fault
 ·split<;>exact h
theorem Ar.Good.mark {a:Ar} (h:a.Good) (r:Int):(a.mark r).2.Good:=by
 unfold Ar.mark
 split
 ·exact h.fault
 ·split<;>exact h
theorem Ar.Good.write {a:Ar} (h:a.Good) {j:Nat} {s s1:Sl} (hs:a.slots[j]?=some s) (hu:s1.used=s.used) (hn:s1.node=s.node) (hw:s1.ways.length=s.ways.length):({ a with slots:=a.slots.set j s1 }:Ar).Good:=by
 obtain ⟨hj,hsj⟩:=List.getElem?_eq_some_iff.1 hs
 refine ⟨h.most,by simpa using h.slots,by simpa using h.used,?_,fun i q hq=>?_⟩
 ·show ((((a.slots.set j s1).countP fun s=>s.used:Nat)):Int)≤a.used
  have:=h.cnt
  rw [List.countP_set hj,hsj,hu]
  have h2:(if s.used=true then 1 else 0)≤a.slots.countP fun s=>s.used:=by
   by_cases hus:s.used=true
   ·rw [if_pos hus]
    exact List.countP_pos_iff.2 ⟨s,hsj▸List.getElem_mem hj,hus⟩
   ·rw [if_neg hus];omega
  omega
 ·rw [List.getElem?_set] at hq
  by_cases hij:j=i
  ·rw [if_pos hij,if_pos hj] at hq
   injection hq with hq
   subst hq
   have:=h.small j s hs
   exact ⟨by rw [hn];exact this.1,by rw [hw];exact this.2⟩
  ·rw [if_neg hij] at hq
   exact h.small i q hq
theorem Ar.Good.jb {a:Ar} (h:a.Good) (r:Int):(a.jb r).Good:=by
 unfold Ar.jb
 split
 ·exact h.fault
 ·split
  ·exact h
  ·rename_i s hs
   exact h.write hs rfl rfl rfl
theorem Ar.Good.fw {a:Ar} (h:a.Good) (r old now:Int):(a.fw r old now).2.Good:=by
 unfold Ar.fw
 split
 ·exact h.fault
 ·split
  ·exact h
  ·rename_i s hs
   split
   ·exact h.write hs rfl rfl rfl
   ·exact h
theorem Ar.Good.gW {a:Ar} (h:a.Good) (r i old now:Int):(a.gW r i old now).2.Good:=by
 unfold Ar.gW
 split
 ·exact h.fault
 ·split
  ·exact h
  ·rename_i s hs
   split
   ·exact h
   ·split
    ·exact h
    ·split
     ·exact h.write hs rfl rfl (by simp)
     ·exact h
theorem Tb.Good.one {t:Tb} (h:t.Good) (i:Nat) (e:En) (hr:e.rc=(t.l.getD i en0).rc):({ t with l:=t.l.set i e }:Tb).Good:=by
 refine ⟨h.most,by simpa using h.len,fun j q hq=>?_⟩
 rw [List.getElem?_set] at hq
 by_cases hij:i=j
 ·by_cases hi:i<t.l.length
  ·rw [if_pos hij,if_pos hi] at hq
   injection hq with hq
   subst hq
   have hg:t.l[i]?=some (t.l.getD i en0):=by rw [List.getD_eq_getElem?_getD,List.getElem?_eq_getElem hi,Option.getD_some]
   rw [hr]
   exact h.small i _ hg
  ·rw [if_pos hij,if_neg hi] at hq
   cases hq
 ·rw [if_neg hij] at hq
  exact h.small j q hq
theorem Tb.Good.setState {t:Tb} (h:t.Good) (n s:Int):(t.setState n s).Good:=by
 unfold Tb.setState
 split
 ·exact h
 ·exact h.one _ _ rfl
theorem Tb.Good.jP {t:Tb} (h:t.Good) (n:Int):(t.jP n).Good:=by
 unfold Tb.jP
 split
 ·exact h
 ·exact h.one _ _ rfl
theorem Ar.Good.alloc {a a1:Ar} (h:a.Good) {n:Nd} {q:Int × Bool} (hn:n.Small) (ha:a.alloc n=some (q,a1)):a1.Good:=by
 unfold Ar.alloc at ha
 split at ha
 ·injection ha with ha
  injection ha with _ ha
  subst ha
  exact h
 ·rename_i hfull
  have hm:=h.most
  have hsl:=h.slots
  have hu:=h.used
  cases ht:a.take with
  | none=>rw [ht] at ha;cases ha
  | some p=>
   obtain ⟨i,a2⟩:=p
   rw [ht] at ha
   simp only at ha
   cases hs:a2.slots[i]? with
   | none=>rw [hs] at ha;cases ha
   | some s=>
    rw [hs] at ha
    simp only at ha
    injection ha with ha
    injection ha with _ ha
    have hlt:=(List.getElem?_eq_some_iff.1 hs).1
    have key:a2.most=a.most∧a2.used=a.used∧(a2.slots.length:Int)≤a.most∧(a2.slots.length:Int)=a.used+1+(a2.free.length:Int)∧(((a2.slots.countP fun s=>s.used:Nat)):Int)≤a.used∧(∀ (i:Nat) (s:Sl),a2.slots[i]?=some s→s.node.Small∧s.ways.length<1000000):=by
     unfold Ar.take at ht
     cases hf:a.free with
     | nil=>
      rw [hf] at ht
      simp only [Option.some.injEq,Prod.mk.injEq] at ht
      obtain ⟨rfl,rfl⟩:=ht
      have hf0:a.free.length=0:=by rw [hf];rfl
      refine ⟨rfl,rfl,?_,?_,?_,?_⟩
      ·show ((a.slots++ [sl0]).length:Int)≤_;rw [List.length_append,List.length_singleton];omega
      ·show ((a.slots++ [sl0]).length:Int)=a.used+1+(([]:List Int).length:Int);rw [List.length_append,List.length_singleton,List.length_nil];omega
      ·show (((a.slots++ [sl0]).countP fun s=>s.used:Nat):Int)≤a.used
       rw [List.countP_append]
       have:=h.cnt
       have h0:([sl0].countP fun s=>s.used)=0:=by decide
       omega
      ·intro j q hq
       by_cases hj:j<a.slots.length
       ·rw [List.getElem?_append_left hj] at hq
        exact h.small j q hq
       ·rw [List.getElem?_append_right (by omega)] at hq
        have:j - a.slots.length=0:=by
         have:=(List.getElem?_eq_some_iff.1 hq).1
         simp at this
         omega
        rw [this] at hq
        injection hq with hq
        subst hq
        exact ⟨⟨by decide,by decide,by decide⟩,by decide⟩
     | cons f fs=>
      rw [hf] at ht
      simp only at ht
      split at ht
      ·simp only [Option.some.injEq,Prod.mk.injEq] at ht
       obtain ⟨rfl,rfl⟩:=ht
       have hf0:a.free.length=fs.length+1:=by rw [hf];rfl
       exact ⟨rfl,rfl,hsl,by show (a.slots.length:Int)=a.used+1+(fs.length:Int);omega,h.cnt,h.small⟩
      ·cases ht
    obtain ⟨k1,k2,k3,k4,k5,k6⟩:=key
    subst ha
    unfold Ar.put
    refine ⟨by show a2.most≤_;omega,by show ((a2.slots.set i _).length:Int)≤a2.most;rw [List.length_set];omega,?_,?_,?_⟩
    ·show wrap64 (a2.used+1)+(a2.free.length:Int)=((a2.slots.set i _).length:Int)
     rw [List.length_set]
     unfold wrap64
     omega
    ·show (((a2.slots.set i (jA n _)).countP fun s=>s.used:Nat):Int)≤wrap64 (a2.used+1)
     rw [List.countP_set hlt]
     have:(if (jA n (Ih (s.count+1))).used=true then 1 else 0)=1:=rfl
     have hw:wrap64 (a2.used+1)=a2.used+1:=by unfold wrap64;omega
     rw [hw]
     split<;>omega
    ·intro j q hq
     rw [List.getElem?_set] at hq
     by_cases hij:i=j
     ·rw [if_pos hij,if_pos hlt] at hq
      injection hq with hq
      subst hq
      exact ⟨hn,hn.ways⟩
     ·rw [if_neg hij] at hq
      exact k6 j q hq
def Tb.make (t:Tb) (r:Rc):(Int × Bool) × Tb:=
 if r.nodes.length≠r.infos.length∨r.keep<0∨t.most≤t.l.length then ((0,false),t) else ((((t.l.length+1:Nat):Int),true),{ t with l:=t.l++ [⟨r,1,false⟩] })
theorem Tb.Good.make {t:Tb} (h:t.Good) (r:Rc) (h1:r.nodes.length<1000000) (h2:r.infos.length<1000000):(t.make r).2.Good:=by
 unfold Tb.make
 split
 ·exact h
 ·rename_i hc
  refine ⟨h.most,by simp only [List.length_append,List.length_singleton];omega,fun j q hq=>?_⟩
  by_cases hj:j<t.l.length
  ·rw [List.getElem?_append_left hj] at hq
   exact h.small j q hq
  ·rw [List.getElem?_append_right (by omega)] at hq
   have:j - t.l.length=0:=by
    have:=(List.getElem?_eq_some_iff.1 hq).1
    simp at this
    omega
   rw [this] at hq
   injection hq with hq
   subst hq
   exact ⟨h1,h2⟩
def doO {X:Type} (f:X→Option (Int × X)):Pr X Int:=fun s=>
 if s.at_<s.log.length then some (.ret (s.log.getD s.at_ 0),{ s with at_:=s.at_+1 })
 else if s.spent then some (.wait,s)
 else if 999999≤s.log.length then none
 else match f s.sh with
  | none=>none
  | some (n,x)=>some (.ret n,{ sh:=x,log:=s.log++ [n],at_:=s.at_+1,spent:=true })
theorem zH {X:Type} {Sh:X→(Nat→Prop)→World→Prop} (S:Shared Sh) (f:X→Option (Int × X)) (tb:Nat) (work:Value) (ok:Nat→Prop) (s:TS X) (w:World) (gf:FuncId) (cap:Array Value) (h:dX Sh tb work ok s w)
  (he: ∀ w1:World,(callFunc gf cap).run Tryz.prog w1= .ok (.enter gf cap) w1)
  (hc: ∀ n x1,f s.sh=some (n,x1)→ ∀ w1 okS,Moves ok ok w w1→(∀ k,okS k→ok k)→Sh s.sh okS w1→Calls Tryz.prog gf cap w1 fun e w2=> ∃ okS1,e= .returned (.int .i64 n)∧Sh x1 okS1 w2∧Moves okS okS1 w1 w2)
  (res:Out Int × TS X) (hr:doO f s=some res):
  Calls Tryz.prog 137 #[.pointer (some ⟨tb,0,none⟩),.func (.func gf) #[] cap] w (gF Sh tb work EO ok w res):=by
 have hle:=h.le
 have hsh:=h.short
 obtain ⟨okT,okS,h1,h2,h3,h4⟩:=h.out
 unfold doO at hr
 by_cases ha:s.at_<s.log.length
 ·rw [if_pos ha] at hr
  injection hr with hr
  subst hr
  refine (sV okT tb work _ w _ _ _ h3 rfl (by simp) (by simpa using ha) hsh _ rfl).mono ?_
  rintro e w1 ⟨rfl,ht,hm⟩
  refine ⟨⟨ok,fI (ok1:=ok) (okB:=ok) hm (fun k hk=>(h1 k).2 (.inl hk)),⟨by show s.at_+1≤s.log.length;omega,hsh,okT,okS,h1,h2,?_,S.step h4 hm.size (fun k hk hlt=>hm.block k hlt (fun h5=>h2 k h5 hk))⟩,_,rfl,?_⟩⟩
  ·simpa using ht
  ·simp [EO]
 ·rw [if_neg ha] at hr
  have hat:s.at_=s.log.length:=by omega
  by_cases hs:s.spent=true
  ·rw [if_pos hs] at hr
   injection hr with hr
   subst hr
   refine (pX okT tb work _ w _ _ _ h3 rfl (by show (s.log.length:Int)≤(s.at_:Int);omega) hs).mono ?_
   rintro e w1 ⟨rfl,ht,hm⟩
   exact ⟨⟨ok,fI (ok1:=ok) (okB:=ok) hm (fun k hk=>(h1 k).2 (.inl hk)),⟨hle,hsh,okT,okS,h1,h2,ht,S.step h4 hm.size (fun k hk hlt=>hm.block k hlt (fun h5=>h2 k h5 hk))⟩,rfl⟩⟩
  ·rw [if_neg hs] at hr
   by_cases hl:999999≤s.log.length
   ·rw [if_pos hl] at hr
    cases hr
   rw [if_neg hl] at hr
   cases hfs:f s.sh with
   | none=>rw [hfs] at hr;cases hr
   | some q=>
   obtain ⟨n0,x1⟩:=q
   rw [hfs] at hr
   injection hr with hr
   subst hr
   have hlen:(s.log++ [n0]).length<1000000:=by simp;omega
   refine (zI okT okS tb work _ w gf cap (fun n okS1 w1=>n=n0∧Sh x1 okS1 w1) h3 rfl (by show (s.at_:Int)=(s.log.length:Int);omega) (by simpa using hs) hsh h2
    (fun n ok1 w1 w2 hp hsz hm=>⟨hp.1,S.step hp.2 hsz hm⟩) (fun n ok1 w1 hp=>S.lt hp.2) he
    (fun w1 hm=>(hc n0 x1 hfs w1 okS (fI (ok1:=ok) (okB:=ok) hm (fun k hk=>(h1 k).2 (.inl hk))) (fun k hk=>(h1 k).2 (.inr hk)) (S.step h4 hm.size (fun k hk hlt=>hm.block k hlt (fun h5=>h2 k h5 hk)))).mono (fun e w2 hh=>by
     obtain ⟨okS1,rfl,hp,hmv⟩:=hh
     exact ⟨_,okS1,rfl,⟨rfl,hp⟩,hmv⟩))).mono ?_
   rintro e w1 ⟨n,okT1,okS1,rfl,ht,⟨rfl,hp⟩,hd,hm⟩
   refine ⟨⟨fun k=>okT1 k∨okS1 k,⟨hm.os,hm.tape,hm.output,hm.size,fun k hk hn=>hm.block k hk (fun h5=>hn ((h1 k).2 h5)),fun k hk=>(hm.fresh k hk).imp (h1 k).2 id⟩,⟨by simp [hat],hlen,okT1,okS1,fun _=>Iff.rfl,hd,?_,hp⟩,_,rfl,rfl⟩⟩
   simpa using ht
section
variable {p tb:Nat} {work:Value} {me:Int} {bt:Nat} {ok okc ok2:Nat→Prop} {w wc w2:World} {s s2:TS Ws}
theorem aU.Lu (h:aU p tb work me bt ok w okc s wc) (f:Ws→Option (Int × Ws)) (gf:FuncId) (cap:Array Value)
  (he: ∀ w1:World,(callFunc gf cap).run Tryz.prog w1= .ok (.enter gf cap) w1)
  (hc: ∀ n x1,f s.sh=some (n,x1)→ ∀ w1 okS,Moves okc okc wc w1→(∀ k,okS k→okc k)→shW p s.sh okS w1→Calls Tryz.prog gf cap w1 fun e w2=> ∃ okS1,e= .returned (.int .i64 n)∧shW p x1 okS1 w2∧Moves okS okS1 w1 w2)
  {o:Out Int} {t:TS Ws} (hd:doO f s=some (o,t)):
  Calls Tryz.prog 137 #[.pointer (some ⟨tb,0,none⟩),.func (.func gf) #[] cap] wc (fM nY p tb work me bt ok w okc o t wc):=
 (zH (bB p) f tb work okc s wc gf cap h.run he hc (o,t) hd).mono (fun e w1 hp=>h.post (fun _ _ _ _ hv=>hv) hp)
end
def ED:Bool × List (List Nat × List Nat):=(true,[([],[]),([0],[0]),([1],[1]),([2],[2]),([3],[3]),([],[]),([4,5],[4,5]),([6,6,0,1,2,3,4,5,6],[6])])
def IE:List Nat:= [0,1,3,7,15,0,63,127]
theorem DR:fG .any (opsOf Tryz.f238 1)=ED:=by kernel_rfl
theorem zk:bM ED.2 IE=true:=by kernel_rfl
theorem tK (p:Nat) (x:Ws) (r:Int) (w:World) (okS:Nat→Prop) (bt bx:Nat) (h:shW p x okS w) (g0:w.cell? ⟨bt,1,none⟩=some (.pointer (some ⟨p,0,none⟩))) (g2:w.cell? ⟨bx,0,none⟩=some (.int .i64 r)):
  Calls Tryz.prog 238 #[.pointer (some ⟨bt,0,none⟩),.pointer (some ⟨bx,0,none⟩)] w fun e w2=> ∃ okS1,e= .returned (.int .i64 (x.ar.info r).1)∧shW p { x with ar:=(x.ar.info r).2 } okS1 w2∧Moves okS okS1 w w2:=by
 obtain ⟨⟨okA,okR,okE,pA,pR,pE,h⟩,hg⟩:=h
 have HW:=Am_ h
 have HG:=Am_ hg
 have hp:=(af h.box 0).trans (rfl:_=some (Value.pointer (some ⟨pA,0,none⟩)))
 have HC:=Am_ (And.intro g0 (And.intro hp g2))
 clear h hg hp g0 g2
 go_enter Tryz.func238,Tryz.ntmps238
 go_upto_region 1 with fail
 refine bP (n:=8) (S:=fun w'=>w'.cell? ⟨bt,1,none⟩=some (.pointer (some ⟨p,0,none⟩))∧w'.cell? ⟨p,0,none⟩=some (.pointer (some ⟨pA,0,none⟩))∧w'.cell? ⟨bx,0,none⟩=some (.int .i64 r)) (ds:= [6]) (by kernel_rfl) rfl DR zk HC.out (fun hHeld HT_ HW_=>?_)
 have HW:=Am_ (HW.out.step (w1:=w.drew) (Nat.le_refl _) (fun _ _ _=>rfl))
 have HM:=Am_ ((Moves.refl okS w).drew)
 clear HC
 generalize World.drew _=w1 at HW HM hHeld ⊢
 refine fu [(0,some 3),(1,some 4),(2,some 5),(3,some 6),(4,some 7),(5,some 8)] ?_
 (refine fq (v:=?_) (a':=?_) HT_ (by kernel_rfl) rfl rfl (fun _ _ _ h=>h) (Or.inl ⟨by rfl,?_⟩) ?_ ?_;rotate_left;(intro w';go_simp;with_reducible rfl);rotate_left;(simp only [Act.put,p1_,p2_,p3_,aI,aJ];rfl))
 iterate 5 (refine jm (v:=?_) (a':=?_) HT_ HW_ (by kernel_rfl) rfl rfl (fun _ _ _ h=>h) hHeld (Or.inl ⟨by rfl,?_⟩) ?_ ?_;rotate_left;(rintro w' ⟨s0,s1,s2⟩;go_simp;with_reducible rfl);rotate_left;(simp only [Act.put,p1_,p2_,p3_,aI,aJ];rfl))
 refine bH ?_
 refine cK (i:=6) (some 9) HT_ (by kernel_rfl) rfl rfl (by decide) (fun K_ hK=>?_)
 refine call_ 212 #[.pointer (some ⟨pA,0,none⟩),.int .i64 r] (by rfl) rfl ?hrun6 ?_
 (case hrun6=>first | (go_simp;done) | (go_simp;exact enters Tryz.func212 (by kernel_rfl) rfl _ _))
 refine (oM r _ HW.out.ar HG.out.ar.fits.slots).mono ?_
 rintro e w2 ⟨rfl,hA,hM⟩
 have X2:=Am_ hA
 have M2:=Am_ hM
 clear hA hM
 refine ⟨_,rfl,?_⟩
 refine hK.out _ _ ?_
 clear hK K_
 refine bT (a':=?_) ?_ ?_
 rotate_left; · show Act.put _ (some 9) _=_;simp only [Act.put,p1_,p2_,p3_,aI,aJ];rfl
 refine fu [(7,some 2)] ?_
 (refine fq (v:=?_) (a':=?_) HT_ (by kernel_rfl) rfl rfl (fun _ _ _ h=>h) (Or.inl ⟨by rfl,?_⟩) ?_ ?_;rotate_left;(intro w';go_simp;with_reducible rfl);rotate_left;(simp only [Act.put,p1_,p2_,p3_,aI,aJ];rfl))
 refine bH ?_
 refine dN (bQ HT_.out (by kernel_rfl)) ?_
 go_wp2_with fail
 go_ret
 exact ⟨_,rfl,⟨⟨_,_,_,_,_,_,(HW.out.dD X2.out M2.out).1⟩,⟨HG.out.ar.info r,HG.out.ep,HG.out.tb⟩⟩,HM.out.trans (HW.out.dD X2.out M2.out).2⟩
def EH:Bool × List (List Nat × List Nat):=(true,[([],[]),([0],[0]),([1],[1]),([2],[2]),([3],[3]),([],[]),([4,5],[4,5]),([6,6,0,1,2,3,4,5,6],[6])])
def II:List Nat:= [0,1,3,7,15,0,63,127]
theorem DU:fG .any (opsOf Tryz.f236 1)=EH:=by kernel_rfl
theorem zm:bM EH.2 II=true:=by kernel_rfl
theorem tZ (p:Nat) (x:Ws) (r:Int) (w:World) (okS:Nat→Prop) (bt bx:Nat) (h:shW p x okS w) (g0:w.cell? ⟨bt,1,none⟩=some (.pointer (some ⟨p,0,none⟩))) (g2:w.cell? ⟨bx,0,none⟩=some (.int .i64 r)):
  Calls Tryz.prog 236 #[.pointer (some ⟨bt,0,none⟩),.pointer (some ⟨bx,0,none⟩)] w fun e w2=> ∃ okS1,e= .returned (.bool (x.ar.mark r).1)∧shW p { x with ar:=(x.ar.mark r).2 } okS1 w2∧Moves okS okS1 w w2:=by
 obtain ⟨⟨okA,okR,okE,pA,pR,pE,h⟩,hg⟩:=h
 have HW:=Am_ h
 have HG:=Am_ hg
 have hp:=(af h.box 0).trans (rfl:_=some (Value.pointer (some ⟨pA,0,none⟩)))
 have HC:=Am_ (And.intro g0 (And.intro hp g2))
 clear h hg hp g0 g2
 go_enter Tryz.func236,Tryz.ntmps236
 go_upto_region 1 with fail
 refine bP (n:=8) (S:=fun w'=>w'.cell? ⟨bt,1,none⟩=some (.pointer (some ⟨p,0,none⟩))∧w'.cell? ⟨p,0,none⟩=some (.pointer (some ⟨pA,0,none⟩))∧w'.cell? ⟨bx,0,none⟩=some (.int .i64 r)) (ds:= [6]) (by kernel_rfl) rfl DU zm HC.out (fun hHeld HT_ HW_=>?_)
 have HW:=Am_ (HW.out.step (w1:=w.drew) (Nat.le_refl _) (fun _ _ _=>rfl))
 have HM:=Am_ ((Moves.refl okS w).drew)
 clear HC
 generalize World.drew _=w1 at HW HM hHeld ⊢
 refine fu [(0,some 3),(1,some 4),(2,some 5),(3,some 6),(4,some 7),(5,some 8)] ?_
 (refine fq (v:=?_) (a':=?_) HT_ (by kernel_rfl) rfl rfl (fun _ _ _ h=>h) (Or.inl ⟨by rfl,?_⟩) ?_ ?_;rotate_left;(intro w';go_simp;with_reducible rfl);rotate_left;(simp only [Act.put,p1_,p2_,p3_,aI,aJ];rfl))
 iterate 5 (refine jm (v:=?_) (a':=?_) HT_ HW_ (by kernel_rfl) rfl rfl (fun _ _ _ h=>h) hHeld (Or.inl ⟨by rfl,?_⟩) ?_ ?_;rotate_left;(rintro w' ⟨s0,s1,s2⟩;go_simp;with_reducible rfl);rotate_left;(simp only [Act.put,p1_,p2_,p3_,aI,aJ];rfl))
 refine bH ?_
 refine cK (i:=6) (some 9) HT_ (by kernel_rfl) rfl rfl (by decide) (fun K_ hK=>?_)
 refine call_ 237 #[.pointer (some ⟨pA,0,none⟩),.int .i64 r] (by rfl) rfl ?hrun6 ?_
 (case hrun6=>first | (go_simp;done) | (go_simp;exact enters Tryz.func237 (by kernel_rfl) rfl _ _))
 refine (wY r _ HW.out.ar HG.out.ar.fits.slots).mono ?_
 rintro e w2 ⟨rfl,hA,hM⟩
 have X2:=Am_ hA
 have M2:=Am_ hM
 clear hA hM
 refine ⟨_,rfl,?_⟩
 refine hK.out _ _ ?_
 clear hK K_
 refine bT (a':=?_) ?_ ?_
 rotate_left; · show Act.put _ (some 9) _=_;simp only [Act.put,p1_,p2_,p3_,aI,aJ];rfl
 refine fu [(7,some 2)] ?_
 (refine fq (v:=?_) (a':=?_) HT_ (by kernel_rfl) rfl rfl (fun _ _ _ h=>h) (Or.inl ⟨by rfl,?_⟩) ?_ ?_;rotate_left;(intro w';go_simp;with_reducible rfl);rotate_left;(simp only [Act.put,p1_,p2_,p3_,aI,aJ];rfl))
 refine bH ?_
 refine dN (bQ HT_.out (by kernel_rfl)) ?_
 go_wp2_with fail
 go_ret
 exact ⟨_,rfl,⟨⟨_,_,_,_,_,_,(HW.out.dD X2.out M2.out).1⟩,⟨HG.out.ar.mark r,HG.out.ep,HG.out.tb⟩⟩,HM.out.trans (HW.out.dD X2.out M2.out).2⟩
def yD:Bool × List (List Nat × List Nat):=(true,[([],[]),([0],[0]),([1],[1]),([2],[2]),([3],[3]),([],[]),([4,5],[4,5]),([6],[6]),([7,6,0,1,2,3,4,5,6,7],[7])])
def Fx:List Nat:= [0,1,3,7,15,0,63,127,255]
theorem Bv:fG .any (opsOf Tryz.f239 1)=yD:=by kernel_rfl
theorem vX:bM yD.2 Fx=true:=by kernel_rfl
theorem rT (p:Nat) (x:Ws) (n:Int) (w:World) (okS:Nat→Prop) (bt bn:Nat) (h:shW p x okS w) (g0:w.cell? ⟨bt,1,none⟩=some (.pointer (some ⟨p,0,none⟩))) (g2:w.cell? ⟨bn,0,none⟩=some (.int .i64 n)):
  Calls Tryz.prog 239 #[.pointer (some ⟨bt,0,none⟩),.pointer (some ⟨bn,0,none⟩)] w fun e w2=> ∃ okS1,e= .returned (.int .i64 (wrap64 (x.tb.en n).state))∧shW p x okS1 w2∧Moves okS okS1 w w2:=by
 obtain ⟨⟨okA,okR,okE,pA,pR,pE,h⟩,hg⟩:=h
 have HW:=Am_ h
 have HG:=Am_ hg
 have hp:=(af h.box 1).trans (rfl:_=some (Value.pointer (some ⟨pR,0,none⟩)))
 have HC:=Am_ (And.intro g0 (And.intro hp g2))
 clear h hg hp g0 g2
 go_enter Tryz.func239,Tryz.ntmps239
 go_upto_region 1 with fail
 refine bP (n:=9) (S:=fun w'=>w'.cell? ⟨bt,1,none⟩=some (.pointer (some ⟨p,0,none⟩))∧w'.cell? ⟨p,1,none⟩=some (.pointer (some ⟨pR,0,none⟩))∧w'.cell? ⟨bn,0,none⟩=some (.int .i64 n)) (ds:= [6]) (by kernel_rfl) rfl Bv vX HC.out (fun hHeld HT_ HW_=>?_)
 have HW:=Am_ (HW.out.step (w1:=w.drew) (Nat.le_refl _) (fun _ _ _=>rfl))
 have HM:=Am_ ((Moves.refl okS w).drew)
 clear HC
 generalize World.drew _=w1 at HW HM hHeld ⊢
 refine fu [(0,some 3),(1,some 4),(2,some 5),(3,some 6),(4,some 7),(5,some 8)] ?_
 (refine fq (v:=?_) (a':=?_) HT_ (by kernel_rfl) rfl rfl (fun _ _ _ h=>h) (Or.inl ⟨by rfl,?_⟩) ?_ ?_;rotate_left;(intro w';go_simp;with_reducible rfl);rotate_left;(simp only [Act.put,p1_,p2_,p3_,aI,aJ];rfl))
 iterate 5 (refine jm (v:=?_) (a':=?_) HT_ HW_ (by kernel_rfl) rfl rfl (fun _ _ _ h=>h) hHeld (Or.inl ⟨by rfl,?_⟩) ?_ ?_;rotate_left;(rintro w' ⟨s0,s1,s2⟩;go_simp;with_reducible rfl);rotate_left;(simp only [Act.put,p1_,p2_,p3_,aI,aJ];rfl))
 refine bH ?_
 refine cK (i:=6) (some 9) HT_ (by kernel_rfl) rfl rfl (by decide) (fun K_ hK=>?_)
 refine call_ 240 #[.pointer (some ⟨pR,0,none⟩),.int .i64 n] (by rfl) rfl ?hrun6 ?_
 (case hrun6=>first | (go_simp;done) | (go_simp;exact enters Tryz.func240 (by kernel_rfl) rfl _ _))
 refine (DZ n _ HW.out.tb (by have:=HG.out.tb.most;have:=HG.out.tb.len;omega)).mono ?_
 rintro e w2 ⟨rfl,rfl⟩
 refine ⟨_,rfl,?_⟩
 refine hK.out _ _ ?_
 clear hK K_
 refine bT (a':=?_) ?_ ?_
 rotate_left; · show Act.put _ (some 9) _=_;simp only [Act.put,p1_,p2_,p3_,aI,aJ];rfl
 refine fu [(7,some 10),(8,some 2)] ?_
 iterate 2 (refine fq (v:=?_) (a':=?_) HT_ (by kernel_rfl) rfl rfl (fun _ _ _ h=>h) (Or.inl ⟨by rfl,?_⟩) ?_ ?_;rotate_left;(intro w';go_simp;with_reducible rfl);rotate_left;(simp only [Act.put,p1_,p2_,p3_,aI,aJ];rfl))
 refine bH ?_
 refine dN (bQ HT_.out (by kernel_rfl)) ?_
 go_wp2_with fail
 go_ret
 exact ⟨okS,rfl,⟨⟨_,_,_,_,_,_,HW.out⟩,HG.out⟩,HM.out⟩
def EG:Bool × List (List Nat × List Nat):=(true,[([],[]),([0],[0]),([1],[1]),([2],[2]),([3],[3]),([],[]),([],[]),([4,5,6],[4,5,6]),([7,7,0,1,2,3,4,5,6,7],[7])])
def IG:List Nat:= [0,1,3,7,15,0,0,127,255]
theorem DT:fG .any (opsOf Tryz.f202 1)=EG:=by kernel_rfl
theorem zl:bM EG.2 IG=true:=by kernel_rfl
theorem tV (p:Nat) (x:Ws) (r i:Int) (w:World) (okS:Nat→Prop) (bt bx bi:Nat) (h:shW p x okS w) (g0:w.cell? ⟨bt,1,none⟩=some (.pointer (some ⟨p,0,none⟩))) (g2:w.cell? ⟨bx,0,none⟩=some (.int .i64 r)) (g3:w.cell? ⟨bi,0,none⟩=some (.int .i64 i)):
  Calls Tryz.prog 202 #[.pointer (some ⟨bt,0,none⟩),.pointer (some ⟨bx,0,none⟩),.pointer (some ⟨bi,0,none⟩)] w fun e w2=> ∃ okS1,e= .returned (.int .i64 (x.ar.way r i).1)∧shW p { x with ar:=(x.ar.way r i).2 } okS1 w2∧Moves okS okS1 w w2:=by
 obtain ⟨⟨okA,okR,okE,pA,pR,pE,h⟩,hg⟩:=h
 have HW:=Am_ h
 have HG:=Am_ hg
 have hp:=(af h.box 0).trans (rfl:_=some (Value.pointer (some ⟨pA,0,none⟩)))
 have HC:=Am_ (And.intro g0 (And.intro hp (And.intro g2 g3)))
 clear h hg hp g0 g2 g3
 go_enter Tryz.func202,Tryz.ntmps202
 go_upto_region 1 with fail
 refine bP (n:=9) (S:=fun w'=>w'.cell? ⟨bt,1,none⟩=some (.pointer (some ⟨p,0,none⟩))∧w'.cell? ⟨p,0,none⟩=some (.pointer (some ⟨pA,0,none⟩))∧w'.cell? ⟨bx,0,none⟩=some (.int .i64 r)∧w'.cell? ⟨bi,0,none⟩=some (.int .i64 i)) (ds:= [7]) (by kernel_rfl) rfl DT zl HC.out (fun hHeld HT_ HW_=>?_)
 have HW:=Am_ (HW.out.step (w1:=w.drew) (Nat.le_refl _) (fun _ _ _=>rfl))
 have HM:=Am_ ((Moves.refl okS w).drew)
 clear HC
 generalize World.drew _=w1 at HW HM hHeld ⊢
 refine fu [(0,some 4),(1,some 5),(2,some 6),(3,some 7),(4,some 8),(5,some 9),(6,some 10)] ?_
 (refine fq (v:=?_) (a':=?_) HT_ (by kernel_rfl) rfl rfl (fun _ _ _ h=>h) (Or.inl ⟨by rfl,?_⟩) ?_ ?_;rotate_left;(intro w';go_simp;with_reducible rfl);rotate_left;(simp only [Act.put,p1_,p2_,p3_,aI,aJ];rfl))
 iterate 6 (refine jm (v:=?_) (a':=?_) HT_ HW_ (by kernel_rfl) rfl rfl (fun _ _ _ h=>h) hHeld (Or.inl ⟨by rfl,?_⟩) ?_ ?_;rotate_left;(rintro w' ⟨s0,s1,s2,s3⟩;go_simp;with_reducible rfl);rotate_left;(simp only [Act.put,p1_,p2_,p3_,aI,aJ];rfl))
 refine bH ?_
 refine cK (i:=7) (some 11) HT_ (by kernel_rfl) rfl rfl (by decide) (fun K_ hK=>?_)
 refine call_ 74 #[.pointer (some ⟨pA,0,none⟩),.int .i64 r,.int .i64 i] (by rfl) rfl ?hrun7 ?_
 (case hrun7=>first | (go_simp;done) | (go_simp;exact enters Tryz.func74 (by kernel_rfl) rfl _ _))
 refine (si r i _ HW.out.ar HG.out.ar.fits.slots).mono ?_
 rintro e w2 ⟨rfl,hA,hM⟩
 have X2:=Am_ hA
 have M2:=Am_ hM
 clear hA hM
 refine ⟨_,rfl,?_⟩
 refine hK.out _ _ ?_
 clear hK K_
 refine bT (a':=?_) ?_ ?_
 rotate_left; · show Act.put _ (some 11) _=_;simp only [Act.put,p1_,p2_,p3_,aI,aJ];rfl
 refine fu [(8,some 3)] ?_
 (refine fq (v:=?_) (a':=?_) HT_ (by kernel_rfl) rfl rfl (fun _ _ _ h=>h) (Or.inl ⟨by rfl,?_⟩) ?_ ?_;rotate_left;(intro w';go_simp;with_reducible rfl);rotate_left;(simp only [Act.put,p1_,p2_,p3_,aI,aJ];rfl))
 refine bH ?_
 refine dN (bQ HT_.out (by kernel_rfl)) ?_
 go_wp2_with fail
 go_ret
 exact ⟨_,rfl,⟨⟨_,_,_,_,_,_,(HW.out.dD X2.out M2.out).1⟩,⟨HG.out.ar.way r i,HG.out.ep,HG.out.tb⟩⟩,HM.out.trans (HW.out.dD X2.out M2.out).2⟩
def Jj:Bool × List (List Nat × List Nat):=(true,[([],[]),([0],[0]),([1],[1]),([2],[2]),([3],[3]),([],[]),([],[]),([4,5,6],[4,5,6])])
def Kr:List Nat:= [0,1,3,7,15,0,0,127]
theorem Ht:fG .any (opsOf Tryz.f243 1)=Jj:=by kernel_rfl
theorem Cr:bM Jj.2 Kr=true:=by kernel_rfl
theorem xL (p:Nat) (x:Ws) (n s:Int) (w:World) (okS:Nat→Prop) (bt bn bs:Nat) (h:shW p x okS w) (g0:w.cell? ⟨bt,1,none⟩=some (.pointer (some ⟨p,0,none⟩))) (g2:w.cell? ⟨bn,0,none⟩=some (.int .i64 n)) (g3:w.cell? ⟨bs,0,none⟩=some (.int .u8 s)):
  Calls Tryz.prog 243 #[.pointer (some ⟨bt,0,none⟩),.pointer (some ⟨bn,0,none⟩),.pointer (some ⟨bs,0,none⟩)] w fun e w2=> ∃ okS1,e= .returned (.int .i64 0)∧shW p { x with tb:=x.tb.setState n s } okS1 w2∧Moves okS okS1 w w2:=by
 obtain ⟨⟨okA,okR,okE,pA,pR,pE,h⟩,hg⟩:=h
 have HW:=Am_ h
 have HG:=Am_ hg
 have hp:=(af h.box 1).trans (rfl:_=some (Value.pointer (some ⟨pR,0,none⟩)))
 have HC:=Am_ (And.intro g0 (And.intro hp (And.intro g2 g3)))
 clear h hg hp g0 g2 g3
 go_enter Tryz.func243,Tryz.ntmps243
 go_upto_region 1 with fail
 refine bP (n:=8) (S:=fun w'=>w'.cell? ⟨bt,1,none⟩=some (.pointer (some ⟨p,0,none⟩))∧w'.cell? ⟨p,1,none⟩=some (.pointer (some ⟨pR,0,none⟩))∧w'.cell? ⟨bn,0,none⟩=some (.int .i64 n)∧w'.cell? ⟨bs,0,none⟩=some (.int .u8 s)) (ds:= [7]) (by kernel_rfl) rfl Ht Cr HC.out (fun hHeld HT_ HW_=>?_)
 have HW:=Am_ (HW.out.step (w1:=w.drew) (Nat.le_refl _) (fun _ _ _=>rfl))
 have HM:=Am_ ((Moves.refl okS w).drew)
 clear HC
 generalize World.drew _=w1 at HW HM hHeld ⊢
 refine fu [(0,some 4),(1,some 5),(2,some 6),(3,some 7),(4,some 8),(5,some 9),(6,some 10)] ?_
 (refine fq (v:=?_) (a':=?_) HT_ (by kernel_rfl) rfl rfl (fun _ _ _ h=>h) (Or.inl ⟨by rfl,?_⟩) ?_ ?_;rotate_left;(intro w';go_simp;with_reducible rfl);rotate_left;(simp only [Act.put,p1_,p2_,p3_,aI,aJ];rfl))
 iterate 6 (refine jm (v:=?_) (a':=?_) HT_ HW_ (by kernel_rfl) rfl rfl (fun _ _ _ h=>h) hHeld (Or.inl ⟨by rfl,?_⟩) ?_ ?_;rotate_left;(rintro w' ⟨s0,s1,s2,s3⟩;go_simp;with_reducible rfl);rotate_left;(simp only [Act.put,p1_,p2_,p3_,aI,aJ];rfl))
 refine bH ?_
 refine cK (i:=7) (some 11) HT_ (by kernel_rfl) rfl rfl (by decide) (fun K_ hK=>?_)
 refine call_ 244 #[.pointer (some ⟨pR,0,none⟩),.int .i64 n,.int .u8 s] (by rfl) rfl ?hrun7 ?_
 (case hrun7=>first | (go_simp;done) | (go_simp;exact enters Tryz.func244 (by kernel_rfl) rfl _ _))
 refine (JX n s _ HW.out.tb (by have:=HG.out.tb.most;have:=HG.out.tb.len;omega)).mono ?_
 rintro e w2 ⟨rfl,hA,hM⟩
 have X2:=Am_ hA
 have M2:=Am_ hM
 clear hA hM
 refine ⟨_,rfl,?_⟩
 refine hK.out _ _ ?_
 clear hK K_
 refine bT (a':=?_) ?_ ?_
 rotate_left; · show Act.put _ (some 11) _=_;simp only [Act.put,p1_,p2_,p3_,aI,aJ];rfl
 refine dN (bQ HT_.out (by kernel_rfl)) ?_
 go_wp2_with fail
 go_ret
 exact ⟨_,rfl,⟨⟨_,_,_,_,_,_,(HW.out.jS X2.out M2.out).1⟩,⟨HG.out.ar,HG.out.ep,HG.out.tb.setState n s⟩⟩,HM.out.trans (HW.out.jS X2.out M2.out).2⟩
def Et:Bool × List (List Nat × List Nat):=(true,[([],[]),([0],[0]),([1],[1]),([2],[2]),([3],[3]),([],[]),([],[]),([6],[6]),([],[]),([7,8],[7,8]),([9],[9]),([],[]),([4,5,10,11],[4,5,10,11]),([12,12,0,1,2,3,4,5,6,7,8,9,10,11,12],[12])])
def Ir:List Nat:= [0,1,3,7,15,0,0,64,0,448,960,0,4095,8191]
theorem Dz:fG .any (opsOf Tryz.f209 1)=Et:=by kernel_rfl
theorem yY:bM Et.2 Ir=true:=by kernel_rfl
theorem xD (p:Nat) (x:Ws) (r old n:Int) (i:Nat) (gI nI cI:Nat) (w:World) (okS:Nat→Prop) (bt bx br bi bn:Nat) (h:shW p x okS w) (g0:w.cell? ⟨bt,1,none⟩=some (.pointer (some ⟨p,0,none⟩))) (g2:w.cell? ⟨bx,0,none⟩=some (.int .i64 r)) (g3:w.cell? ⟨br,1,none⟩=some (.slice (some ⟨gI,0,none⟩) nI cI)) (g4:w.cell? ⟨bi,0,none⟩=some (.int .i64 (i:Int))) (g5:w.cell? ⟨bn,0,none⟩=some (.int .i64 n)) (g6:w.cell? ⟨gI,i,none⟩=some (.int .i64 old)) (hi:i<nI):
  Calls Tryz.prog 209 #[.pointer (some ⟨bt,0,none⟩),.pointer (some ⟨bx,0,none⟩),.pointer (some ⟨br,0,none⟩),.pointer (some ⟨bi,0,none⟩),.pointer (some ⟨bn,0,none⟩)] w fun e w2=> ∃ okS1,e= .returned (.bool (x.ar.fw r old n).1)∧shW p { x with ar:=(x.ar.fw r old n).2 } okS1 w2∧Moves okS okS1 w w2:=by
 obtain ⟨⟨okA,okR,okE,pA,pR,pE,h⟩,hg⟩:=h
 have HW:=Am_ h
 have HG:=Am_ hg
 have hp:=(af h.box 0).trans (rfl:_=some (Value.pointer (some ⟨pA,0,none⟩)))
 have b1:(0:Int)≤(i:Int):=by omega
 have b2:(i:Int)<(nI:Int):=by omega
 have HC:=Am_ (And.intro g0 (And.intro hp (And.intro g2 (And.intro g3 (And.intro g4 (And.intro g5 g6))))))
 clear h hg hp g0 g2 g3 g4 g5 g6 hi
 go_enter Tryz.func209,Tryz.ntmps209
 go_upto_region 1 with fail
 refine bP (n:=14) (S:=fun w'=>w'.cell? ⟨bt,1,none⟩=some (.pointer (some ⟨p,0,none⟩))∧w'.cell? ⟨p,0,none⟩=some (.pointer (some ⟨pA,0,none⟩))∧w'.cell? ⟨bx,0,none⟩=some (.int .i64 r)∧w'.cell? ⟨br,1,none⟩=some (.slice (some ⟨gI,0,none⟩) nI cI)∧w'.cell? ⟨bi,0,none⟩=some (.int .i64 (i:Int))∧w'.cell? ⟨bn,0,none⟩=some (.int .i64 n)∧w'.cell? ⟨gI,i,none⟩=some (.int .i64 old)) (ds:= [12]) (by kernel_rfl) rfl Dz yY HC.out (fun hHeld HT_ HW_=>?_)
 have HW:=Am_ (HW.out.step (w1:=w.drew) (Nat.le_refl _) (fun _ _ _=>rfl))
 have HM:=Am_ ((Moves.refl okS w).drew)
 clear HC
 generalize World.drew _=w1 at HW HM hHeld ⊢
 refine fu [(0,some 6),(1,some 7),(2,some 8),(3,some 9),(4,some 10),(5,some 11),(6,some 12),(7,some 13),(8,some 14),(9,some 15),(10,some 16),(11,some 17)] ?_
 (refine fq (v:=?_) (a':=?_) HT_ (by kernel_rfl) rfl rfl (fun _ _ _ h=>h) (Or.inl ⟨by rfl,?_⟩) ?_ ?_;rotate_left;(intro w';go_simp;with_reducible rfl);rotate_left;(simp only [Act.put,p1_,p2_,p3_,aI,aJ];rfl))
 iterate 11 (refine jm (v:=?_) (a':=?_) HT_ HW_ (by kernel_rfl) rfl rfl (fun _ _ _ h=>h) hHeld (Or.inl ⟨by rfl,?_⟩) ?_ ?_;rotate_left;(rintro w' ⟨s0,s1,s2,s3,s4,s5,s6⟩;go_simp;with_reducible rfl);rotate_left;(simp only [Act.put,p1_,p2_,p3_,aI,aJ];rfl))
 refine bH ?_
 refine cK (i:=12) (some 18) HT_ (by kernel_rfl) rfl rfl (by decide) (fun K_ hK=>?_)
 refine call_ 210 #[.pointer (some ⟨pA,0,none⟩),.int .i64 r,.int .i64 old,.int .i64 n] (by rfl) rfl ?hrun12 ?_
 (case hrun12=>first | (go_simp;done) | (go_simp;exact enters Tryz.func210 (by kernel_rfl) rfl _ _))
 refine (oq r old n _ HW.out.ar HG.out.ar.fits.slots).mono ?_
 rintro e w2 ⟨rfl,hA,hM⟩
 have X2:=Am_ hA
 have M2:=Am_ hM
 clear hA hM
 refine ⟨_,rfl,?_⟩
 refine hK.out _ _ ?_
 clear hK K_
 refine bT (a':=?_) ?_ ?_
 rotate_left; · show Act.put _ (some 18) _=_;simp only [Act.put,p1_,p2_,p3_,aI,aJ];rfl
 refine fu [(13,some 5)] ?_
 (refine fq (v:=?_) (a':=?_) HT_ (by kernel_rfl) rfl rfl (fun _ _ _ h=>h) (Or.inl ⟨by rfl,?_⟩) ?_ ?_;rotate_left;(intro w';go_simp;with_reducible rfl);rotate_left;(simp only [Act.put,p1_,p2_,p3_,aI,aJ];rfl))
 refine bH ?_
 refine dN (bQ HT_.out (by kernel_rfl)) ?_
 go_wp2_with fail
 go_ret
 exact ⟨_,rfl,⟨⟨_,_,_,_,_,_,(HW.out.dD X2.out M2.out).1⟩,⟨HG.out.ar.fw r old n,HG.out.ep,HG.out.tb⟩⟩,HM.out.trans (HW.out.dD X2.out M2.out).2⟩
def Eu:Bool × List (List Nat × List Nat):=(true,[([],[]),([0],[0]),([1],[1]),([2],[2]),([3],[3]),([],[]),([4,5],[4,5]),([6,6,0,1,2,3,4,5,6],[6])])
def Iu:List Nat:= [0,1,3,7,15,0,63,127]
theorem DC:fG .any (opsOf Tryz.f211 1)=Eu:=by kernel_rfl
theorem yZ:bM Eu.2 Iu=true:=by kernel_rfl
theorem xE (p:Nat) (x:Ws) (r:Int) (w:World) (okS:Nat→Prop) (bt bx:Nat) (h:shW p x okS w) (g0:w.cell? ⟨bt,1,none⟩=some (.pointer (some ⟨p,0,none⟩))) (g2:w.cell? ⟨bx,0,none⟩=some (.int .i64 r)):
  Calls Tryz.prog 211 #[.pointer (some ⟨bt,0,none⟩),.pointer (some ⟨bx,0,none⟩)] w fun e w2=> ∃ okS1,e= .returned (.int .i64 (x.ar.info r).1)∧shW p { x with ar:=(x.ar.info r).2 } okS1 w2∧Moves okS okS1 w w2:=by
 obtain ⟨⟨okA,okR,okE,pA,pR,pE,h⟩,hg⟩:=h
 have HW:=Am_ h
 have HG:=Am_ hg
 have hp:=(af h.box 0).trans (rfl:_=some (Value.pointer (some ⟨pA,0,none⟩)))
 have HC:=Am_ (And.intro g0 (And.intro hp g2))
 clear h hg hp g0 g2
 go_enter Tryz.func211,Tryz.ntmps211
 go_upto_region 1 with fail
 refine bP (n:=8) (S:=fun w'=>w'.cell? ⟨bt,1,none⟩=some (.pointer (some ⟨p,0,none⟩))∧w'.cell? ⟨p,0,none⟩=some (.pointer (some ⟨pA,0,none⟩))∧w'.cell? ⟨bx,0,none⟩=some (.int .i64 r)) (ds:= [6]) (by kernel_rfl) rfl DC yZ HC.out (fun hHeld HT_ HW_=>?_)
 have HW:=Am_ (HW.out.step (w1:=w.drew) (Nat.le_refl _) (fun _ _ _=>rfl))
 have HM:=Am_ ((Moves.refl okS w).drew)
 clear HC
 generalize World.drew _=w1 at HW HM hHeld ⊢
 refine fu [(0,some 3),(1,some 4),(2,some 5),(3,some 6),(4,some 7),(5,some 8)] ?_
 (refine fq (v:=?_) (a':=?_) HT_ (by kernel_rfl) rfl rfl (fun _ _ _ h=>h) (Or.inl ⟨by rfl,?_⟩) ?_ ?_;rotate_left;(intro w';go_simp;with_reducible rfl);rotate_left;(simp only [Act.put,p1_,p2_,p3_,aI,aJ];rfl))
 iterate 5 (refine jm (v:=?_) (a':=?_) HT_ HW_ (by kernel_rfl) rfl rfl (fun _ _ _ h=>h) hHeld (Or.inl ⟨by rfl,?_⟩) ?_ ?_;rotate_left;(rintro w' ⟨s0,s1,s2⟩;go_simp;with_reducible rfl);rotate_left;(simp only [Act.put,p1_,p2_,p3_,aI,aJ];rfl))
 refine bH ?_
 refine cK (i:=6) (some 9) HT_ (by kernel_rfl) rfl rfl (by decide) (fun K_ hK=>?_)
 refine call_ 212 #[.pointer (some ⟨pA,0,none⟩),.int .i64 r] (by rfl) rfl ?hrun6 ?_
 (case hrun6=>first | (go_simp;done) | (go_simp;exact enters Tryz.func212 (by kernel_rfl) rfl _ _))
 refine (oM r _ HW.out.ar HG.out.ar.fits.slots).mono ?_
 rintro e w2 ⟨rfl,hA,hM⟩
 have X2:=Am_ hA
 have M2:=Am_ hM
 clear hA hM
 refine ⟨_,rfl,?_⟩
 refine hK.out _ _ ?_
 clear hK K_
 refine bT (a':=?_) ?_ ?_
 rotate_left; · show Act.put _ (some 9) _=_;simp only [Act.put,p1_,p2_,p3_,aI,aJ];rfl
 refine fu [(7,some 2)] ?_
 (refine fq (v:=?_) (a':=?_) HT_ (by kernel_rfl) rfl rfl (fun _ _ _ h=>h) (Or.inl ⟨by rfl,?_⟩) ?_ ?_;rotate_left;(intro w';go_simp;with_reducible rfl);rotate_left;(simp only [Act.put,p1_,p2_,p3_,aI,aJ];rfl))
 refine bH ?_
 refine dN (bQ HT_.out (by kernel_rfl)) ?_
 go_wp2_with fail
 go_ret
 exact ⟨_,rfl,⟨⟨_,_,_,_,_,_,(HW.out.dD X2.out M2.out).1⟩,⟨HG.out.ar.info r,HG.out.ep,HG.out.tb⟩⟩,HM.out.trans (HW.out.dD X2.out M2.out).2⟩
def Ew:Bool × List (List Nat × List Nat):=(true,[([],[]),([0],[0]),([1],[1]),([2],[2]),([3],[3]),([],[]),([4,5],[4,5]),([6,6,0,1,2,3,4,5,6],[6])])
def Iw:List Nat:= [0,1,3,7,15,0,63,127]
theorem DF:fG .any (opsOf Tryz.f213 1)=Ew:=by kernel_rfl
theorem za:bM Ew.2 Iw=true:=by kernel_rfl
theorem xG (p:Nat) (x:Ws) (n:Int) (w:World) (okS:Nat→Prop) (bt bn:Nat) (h:shW p x okS w) (g0:w.cell? ⟨bt,1,none⟩=some (.pointer (some ⟨p,0,none⟩))) (g2:w.cell? ⟨bn,0,none⟩=some (.int .i64 n)):
  Calls Tryz.prog 213 #[.pointer (some ⟨bt,0,none⟩),.pointer (some ⟨bn,0,none⟩)] w fun e w2=> ∃ okS1,e= .returned (.bool (x.tb.en n).all)∧shW p x okS1 w2∧Moves okS okS1 w w2:=by
 obtain ⟨⟨okA,okR,okE,pA,pR,pE,h⟩,hg⟩:=h
 have HW:=Am_ h
 have HG:=Am_ hg
 have hp:=(af h.box 1).trans (rfl:_=some (Value.pointer (some ⟨pR,0,none⟩)))
 have HC:=Am_ (And.intro g0 (And.intro hp g2))
 clear h hg hp g0 g2
 go_enter Tryz.func213,Tryz.ntmps213
 go_upto_region 1 with fail
 refine bP (n:=8) (S:=fun w'=>w'.cell? ⟨bt,1,none⟩=some (.pointer (some ⟨p,0,none⟩))∧w'.cell? ⟨p,1,none⟩=some (.pointer (some ⟨pR,0,none⟩))∧w'.cell? ⟨bn,0,none⟩=some (.int .i64 n)) (ds:= [6]) (by kernel_rfl) rfl DF za HC.out (fun hHeld HT_ HW_=>?_)
 have HW:=Am_ (HW.out.step (w1:=w.drew) (Nat.le_refl _) (fun _ _ _=>rfl))
 have HM:=Am_ ((Moves.refl okS w).drew)
 clear HC
 generalize World.drew _=w1 at HW HM hHeld ⊢
 refine fu [(0,some 3),(1,some 4),(2,some 5),(3,some 6),(4,some 7),(5,some 8)] ?_
 (refine fq (v:=?_) (a':=?_) HT_ (by kernel_rfl) rfl rfl (fun _ _ _ h=>h) (Or.inl ⟨by rfl,?_⟩) ?_ ?_;rotate_left;(intro w';go_simp;with_reducible rfl);rotate_left;(simp only [Act.put,p1_,p2_,p3_,aI,aJ];rfl))
 iterate 5 (refine jm (v:=?_) (a':=?_) HT_ HW_ (by kernel_rfl) rfl rfl (fun _ _ _ h=>h) hHeld (Or.inl ⟨by rfl,?_⟩) ?_ ?_;rotate_left;(rintro w' ⟨s0,s1,s2⟩;go_simp;with_reducible rfl);rotate_left;(simp only [Act.put,p1_,p2_,p3_,aI,aJ];rfl))
 refine bH ?_
 refine cK (i:=6) (some 9) HT_ (by kernel_rfl) rfl rfl (by decide) (fun K_ hK=>?_)
 refine call_ 214 #[.pointer (some ⟨pR,0,none⟩),.int .i64 n] (by rfl) rfl ?hrun6 ?_
 (case hrun6=>first | (go_simp;done) | (go_simp;exact enters Tryz.func214 (by kernel_rfl) rfl _ _))
 refine (JW n _ HW.out.tb (by have:=HG.out.tb.most;have:=HG.out.tb.len;omega)).mono ?_
 rintro e w2 ⟨rfl,rfl⟩
 refine ⟨_,rfl,?_⟩
 refine hK.out _ _ ?_
 clear hK K_
 refine bT (a':=?_) ?_ ?_
 rotate_left; · show Act.put _ (some 9) _=_;simp only [Act.put,p1_,p2_,p3_,aI,aJ];rfl
 refine fu [(7,some 2)] ?_
 (refine fq (v:=?_) (a':=?_) HT_ (by kernel_rfl) rfl rfl (fun _ _ _ h=>h) (Or.inl ⟨by rfl,?_⟩) ?_ ?_;rotate_left;(intro w';go_simp;with_reducible rfl);rotate_left;(simp only [Act.put,p1_,p2_,p3_,aI,aJ];rfl))
 refine bH ?_
 refine dN (bQ HT_.out (by kernel_rfl)) ?_
 go_wp2_with fail
 go_ret
 exact ⟨okS,rfl,⟨⟨_,_,_,_,_,_,HW.out⟩,HG.out⟩,HM.out⟩
def Ey:Bool × List (List Nat × List Nat):=(true,[([],[]),([0],[0]),([1],[1]),([2],[2]),([3],[3]),([],[]),([4,5],[4,5])])
def Iy:List Nat:= [0,1,3,7,15,0,63]
theorem DI:fG .any (opsOf Tryz.f216 1)=Ey:=by kernel_rfl
theorem zb:bM Ey.2 Iy=true:=by kernel_rfl
theorem xH (p:Nat) (x:Ws) (n:Int) (w:World) (okS:Nat→Prop) (bt bn:Nat) (h:shW p x okS w) (g0:w.cell? ⟨bt,1,none⟩=some (.pointer (some ⟨p,0,none⟩))) (g2:w.cell? ⟨bn,0,none⟩=some (.int .i64 n)):
  Calls Tryz.prog 216 #[.pointer (some ⟨bt,0,none⟩),.pointer (some ⟨bn,0,none⟩)] w fun e w2=> ∃ okS1,e= .returned (.int .i64 0)∧shW p { x with tb:=x.tb.jP n } okS1 w2∧Moves okS okS1 w w2:=by
 obtain ⟨⟨okA,okR,okE,pA,pR,pE,h⟩,hg⟩:=h
 have HW:=Am_ h
 have HG:=Am_ hg
 have hp:=(af h.box 1).trans (rfl:_=some (Value.pointer (some ⟨pR,0,none⟩)))
 have HC:=Am_ (And.intro g0 (And.intro hp g2))
 clear h hg hp g0 g2
 go_enter Tryz.func216,Tryz.ntmps216
 go_upto_region 1 with fail
 refine bP (n:=7) (S:=fun w'=>w'.cell? ⟨bt,1,none⟩=some (.pointer (some ⟨p,0,none⟩))∧w'.cell? ⟨p,1,none⟩=some (.pointer (some ⟨pR,0,none⟩))∧w'.cell? ⟨bn,0,none⟩=some (.int .i64 n)) (ds:= [6]) (by kernel_rfl) rfl DI zb HC.out (fun hHeld HT_ HW_=>?_)
 have HW:=Am_ (HW.out.step (w1:=w.drew) (Nat.le_refl _) (fun _ _ _=>rfl))
 have HM:=Am_ ((Moves.refl okS w).drew)
 clear HC
 generalize World.drew _=w1 at HW HM hHeld ⊢
 refine fu [(0,some 3),(1,some 4),(2,some 5),(3,some 6),(4,some 7),(5,some 8)] ?_
 (refine fq (v:=?_) (a':=?_) HT_ (by kernel_rfl) rfl rfl (fun _ _ _ h=>h) (Or.inl ⟨by rfl,?_⟩) ?_ ?_;rotate_left;(intro w';go_simp;with_reducible rfl);rotate_left;(simp only [Act.put,p1_,p2_,p3_,aI,aJ];rfl))
 iterate 5 (refine jm (v:=?_) (a':=?_) HT_ HW_ (by kernel_rfl) rfl rfl (fun _ _ _ h=>h) hHeld (Or.inl ⟨by rfl,?_⟩) ?_ ?_;rotate_left;(rintro w' ⟨s0,s1,s2⟩;go_simp;with_reducible rfl);rotate_left;(simp only [Act.put,p1_,p2_,p3_,aI,aJ];rfl))
 refine bH ?_
 refine cK (i:=6) (some 9) HT_ (by kernel_rfl) rfl rfl (by decide) (fun K_ hK=>?_)
 refine call_ 217 #[.pointer (some ⟨pR,0,none⟩),.int .i64 n] (by rfl) rfl ?hrun6 ?_
 (case hrun6=>first | (go_simp;done) | (go_simp;exact enters Tryz.func217 (by kernel_rfl) rfl _ _))
 refine (BO n _ HW.out.tb (by have:=HG.out.tb.most;have:=HG.out.tb.len;omega)).mono ?_
 rintro e w2 ⟨rfl,hA,hM⟩
 have X2:=Am_ hA
 have M2:=Am_ hM
 clear hA hM
 refine ⟨_,rfl,?_⟩
 refine hK.out _ _ ?_
 clear hK K_
 refine bT (a':=?_) ?_ ?_
 rotate_left; · show Act.put _ (some 9) _=_;simp only [Act.put,p1_,p2_,p3_,aI,aJ];rfl
 refine dN (bQ HT_.out (by kernel_rfl)) ?_
 go_wp2_with fail
 go_ret
 exact ⟨_,rfl,⟨⟨_,_,_,_,_,_,(HW.out.jS X2.out M2.out).1⟩,⟨HG.out.ar,HG.out.ep,HG.out.tb.jP n⟩⟩,HM.out.trans (HW.out.jS X2.out M2.out).2⟩
def Ez:Bool × List (List Nat × List Nat):=(true,[([],[]),([0],[0]),([1],[1]),([2],[2]),([3],[3]),([],[]),([4,5],[4,5])])
def Iz:List Nat:= [0,1,3,7,15,0,63]
theorem DJ:fG .any (opsOf Tryz.f218 1)=Ez:=by kernel_rfl
theorem ze:bM Ez.2 Iz=true:=by kernel_rfl
theorem xI (p:Nat) (x:Ws) (r:Int) (w:World) (okS:Nat→Prop) (bt bx:Nat) (h:shW p x okS w) (g0:w.cell? ⟨bt,1,none⟩=some (.pointer (some ⟨p,0,none⟩))) (g2:w.cell? ⟨bx,0,none⟩=some (.int .i64 r)):
  Calls Tryz.prog 218 #[.pointer (some ⟨bt,0,none⟩),.pointer (some ⟨bx,0,none⟩)] w fun e w2=> ∃ okS1,e= .returned (.int .i64 0)∧shW p { x with ar:=x.ar.jb r } okS1 w2∧Moves okS okS1 w w2:=by
 obtain ⟨⟨okA,okR,okE,pA,pR,pE,h⟩,hg⟩:=h
 have HW:=Am_ h
 have HG:=Am_ hg
 have hp:=(af h.box 0).trans (rfl:_=some (Value.pointer (some ⟨pA,0,none⟩)))
 have HC:=Am_ (And.intro g0 (And.intro hp g2))
 clear h hg hp g0 g2
 go_enter Tryz.func218,Tryz.ntmps218
 go_upto_region 1 with fail
 refine bP (n:=7) (S:=fun w'=>w'.cell? ⟨bt,1,none⟩=some (.pointer (some ⟨p,0,none⟩))∧w'.cell? ⟨p,0,none⟩=some (.pointer (some ⟨pA,0,none⟩))∧w'.cell? ⟨bx,0,none⟩=some (.int .i64 r)) (ds:= [6]) (by kernel_rfl) rfl DJ ze HC.out (fun hHeld HT_ HW_=>?_)
 have HW:=Am_ (HW.out.step (w1:=w.drew) (Nat.le_refl _) (fun _ _ _=>rfl))
 have HM:=Am_ ((Moves.refl okS w).drew)
 clear HC
 generalize World.drew _=w1 at HW HM hHeld ⊢
 refine fu [(0,some 3),(1,some 4),(2,some 5),(3,some 6),(4,some 7),(5,some 8)] ?_
 (refine fq (v:=?_) (a':=?_) HT_ (by kernel_rfl) rfl rfl (fun _ _ _ h=>h) (Or.inl ⟨by rfl,?_⟩) ?_ ?_;rotate_left;(intro w';go_simp;with_reducible rfl);rotate_left;(simp only [Act.put,p1_,p2_,p3_,aI,aJ];rfl))
 iterate 5 (refine jm (v:=?_) (a':=?_) HT_ HW_ (by kernel_rfl) rfl rfl (fun _ _ _ h=>h) hHeld (Or.inl ⟨by rfl,?_⟩) ?_ ?_;rotate_left;(rintro w' ⟨s0,s1,s2⟩;go_simp;with_reducible rfl);rotate_left;(simp only [Act.put,p1_,p2_,p3_,aI,aJ];rfl))
 refine bH ?_
 refine cK (i:=6) (some 9) HT_ (by kernel_rfl) rfl rfl (by decide) (fun K_ hK=>?_)
 refine call_ 219 #[.pointer (some ⟨pA,0,none⟩),.int .i64 r] (by rfl) rfl ?hrun6 ?_
 (case hrun6=>first | (go_simp;done) | (go_simp;exact enters Tryz.func219 (by kernel_rfl) rfl _ _))
 refine (qo r _ HW.out.ar HG.out.ar.fits.slots).mono ?_
 rintro e w2 ⟨rfl,hA,hM⟩
 have X2:=Am_ hA
 have M2:=Am_ hM
 clear hA hM
 refine ⟨_,rfl,?_⟩
 refine hK.out _ _ ?_
 clear hK K_
 refine bT (a':=?_) ?_ ?_
 rotate_left; · show Act.put _ (some 9) _=_;simp only [Act.put,p1_,p2_,p3_,aI,aJ];rfl
 refine dN (bQ HT_.out (by kernel_rfl)) ?_
 go_wp2_with fail
 go_ret
 exact ⟨_,rfl,⟨⟨_,_,_,_,_,_,(HW.out.dD X2.out M2.out).1⟩,⟨HG.out.ar.jb r,HG.out.ep,HG.out.tb⟩⟩,HM.out.trans (HW.out.dD X2.out M2.out).2⟩
def EA:Bool × List (List Nat × List Nat):=(true,[([],[]),([0],[0]),([1],[1]),([2],[2]),([3],[3]),([],[]),([5],[5]),([6],[6]),([7],[7]),([],[]),([9],[9]),([],[]),([11],[11]),([],[]),([13],[13]),([4,8,10,12,14],[4,8,10,12,14]),([15,15,0,1,2,3,4,5,6,7,8,9,10,11,12,13,14,15],[15])])
def IA:List Nat:= [0,1,3,7,15,0,32,96,224,0,512,0,2048,0,8192,32767,65535]
theorem DK:fG .any (opsOf Tryz.f220 1)=EA:=by kernel_rfl
theorem zf:bM EA.2 IA=true:=by kernel_rfl
theorem xJ (p:Nat) (x:Ws) (r i old now:Int) (gN nN cN:Nat) (w:World) (okS:Nat→Prop) (bt br:Nat) (h:shW p x okS w) (g0:w.cell? ⟨bt,1,none⟩=some (.pointer (some ⟨p,0,none⟩))) (g2:w.cell? ⟨br,0,none⟩=some (.slice (some ⟨gN,0,none⟩) nN cN)) (g3:w.cell? ⟨gN,0,none⟩=some (.int .i64 r)) (g4:w.cell? ⟨br,3,none⟩=some (.int .i64 i)) (g5:w.cell? ⟨br,4,none⟩=some (.int .i64 old)) (g6:w.cell? ⟨br,5,none⟩=some (.int .i64 now)) (hi:0<nN):
  Calls Tryz.prog 220 #[.pointer (some ⟨bt,0,none⟩),.pointer (some ⟨br,0,none⟩)] w fun e w2=> ∃ okS1,e= .returned (.bool (x.ar.gW r i old now).1)∧shW p { x with ar:=(x.ar.gW r i old now).2 } okS1 w2∧Moves okS okS1 w w2:=by
 obtain ⟨⟨okA,okR,okE,pA,pR,pE,h⟩,hg⟩:=h
 have HW:=Am_ h
 have HG:=Am_ hg
 have hp:=(af h.box 0).trans (rfl:_=some (Value.pointer (some ⟨pA,0,none⟩)))
 have b2:(0:Int)<(nN:Int):=by omega
 have b3:0<nN:=hi
 have HC:=Am_ (And.intro g0 (And.intro hp (And.intro g2 (And.intro g3 (And.intro g4 (And.intro g5 g6))))))
 clear h hg hp g0 g2 g3 g4 g5 g6 hi
 go_enter Tryz.func220,Tryz.ntmps220
 go_upto_region 1 with fail
 refine bP (n:=17) (S:=fun w'=>w'.cell? ⟨bt,1,none⟩=some (.pointer (some ⟨p,0,none⟩))∧w'.cell? ⟨p,0,none⟩=some (.pointer (some ⟨pA,0,none⟩))∧w'.cell? ⟨br,0,none⟩=some (.slice (some ⟨gN,0,none⟩) nN cN)∧w'.cell? ⟨gN,0,none⟩=some (.int .i64 r)∧w'.cell? ⟨br,3,none⟩=some (.int .i64 i)∧w'.cell? ⟨br,4,none⟩=some (.int .i64 old)∧w'.cell? ⟨br,5,none⟩=some (.int .i64 now)) (ds:= [15]) (by kernel_rfl) rfl DK zf HC.out (fun hHeld HT_ HW_=>?_)
 have HW:=Am_ (HW.out.step (w1:=w.drew) (Nat.le_refl _) (fun _ _ _=>rfl))
 have HM:=Am_ ((Moves.refl okS w).drew)
 clear HC
 generalize World.drew _=w1 at HW HM hHeld ⊢
 refine fu [(0,some 3),(1,some 4),(2,some 5),(3,some 6),(4,some 7),(5,some 8),(6,some 9),(7,some 10),(8,some 11),(9,some 12),(10,some 13),(11,some 14),(12,some 15),(13,some 16),(14,some 17)] ?_
 (refine fq (v:=?_) (a':=?_) HT_ (by kernel_rfl) rfl rfl (fun _ _ _ h=>h) (Or.inl ⟨by rfl,?_⟩) ?_ ?_;rotate_left;(intro w';go_simp;with_reducible rfl);rotate_left;(simp only [Act.put,p1_,p2_,p3_,aI,aJ];rfl))
 iterate 14 (refine jm (v:=?_) (a':=?_) HT_ HW_ (by kernel_rfl) rfl rfl (fun _ _ _ h=>h) hHeld (Or.inl ⟨by rfl,?_⟩) ?_ ?_;rotate_left;(rintro w' ⟨s0,s1,s2,s3,s4,s5,s6⟩;go_simp;with_reducible rfl);rotate_left;(simp only [Act.put,p1_,p2_,p3_,aI,aJ];rfl))
 refine bH ?_
 refine cK (i:=15) (some 18) HT_ (by kernel_rfl) rfl rfl (by decide) (fun K_ hK=>?_)
 refine call_ 111 #[.pointer (some ⟨pA,0,none⟩),.int .i64 r,.int .i64 i,.int .i64 old,.int .i64 now] (by rfl) rfl ?hrun15 ?_
 (case hrun15=>first | (go_simp;done) | (go_simp;exact enters Tryz.func111 (by kernel_rfl) rfl _ _))
 refine (qy r i old now _ HW.out.ar HG.out.ar.fits.slots).mono ?_
 rintro e w2 ⟨rfl,hA,hM⟩
 have X2:=Am_ hA
 have M2:=Am_ hM
 clear hA hM
 refine ⟨_,rfl,?_⟩
 refine hK.out _ _ ?_
 clear hK K_
 refine bT (a':=?_) ?_ ?_
 rotate_left; · show Act.put _ (some 18) _=_;simp only [Act.put,p1_,p2_,p3_,aI,aJ];rfl
 refine fu [(16,some 2)] ?_
 (refine fq (v:=?_) (a':=?_) HT_ (by kernel_rfl) rfl rfl (fun _ _ _ h=>h) (Or.inl ⟨by rfl,?_⟩) ?_ ?_;rotate_left;(intro w';go_simp;with_reducible rfl);rotate_left;(simp only [Act.put,p1_,p2_,p3_,aI,aJ];rfl))
 refine bH ?_
 refine dN (bQ HT_.out (by kernel_rfl)) ?_
 go_wp2_with fail
 go_ret
 exact ⟨_,rfl,⟨⟨_,_,_,_,_,_,(HW.out.dD X2.out M2.out).1⟩,⟨HG.out.ar.gW r i old now,HG.out.ep,HG.out.tb⟩⟩,HM.out.trans (HW.out.dD X2.out M2.out).2⟩
end Go.Proofs.YtmnjjdeaccgjlaaGreat.Tower
namespace Go.Proofs.YtmnjjdeaccgjlaaGreat.Own
open Go Go.RowKit Go.Proofs.YtmnjjdeaccgjlaaGreatW.PrintWords
def sets (w:World) (b:Nat):List (Nat × Value)→World
 | []=>w
 | (j,u)::l=>sets (w.setCell ⟨b,j,none⟩ u) b l
def GY (cs:Array Value):List (Nat × Value)→Array Value
 | []=>cs
 | (j,u)::l=>GY (cs.setIfInBounds j u) l
section
variable {ok ok1:Nat→Prop} {b:Nat}
theorem iH: ∀ (l:List (Nat × Value)) (w:World),(sets w b l).heap.size=w.heap.size
 | [],_=>rfl
 | (j,u)::l,w=>by rw [sets,iH l];simp [World.setCell]
theorem dR {k:Nat} (h:k≠b): ∀ (l:List (Nat × Value)) (w:World),(sets w b l).heap[k]?=w.heap[k]?
 | [],_=>rfl
 | (j,u)::l,w=>by rw [sets,dR h l];exact Below.heap_setCell w ⟨b,j,none⟩ u k h
theorem gu {w:World} (hb:ok b∨w.heap.size≤b): ∀ (l:List (Nat × Value)) {w1:World},Moves ok ok1 w w1→Moves ok ok1 w (sets w1 b l)
 | [],_,h=>h
 | (j,u)::l,w1,h=>gu hb l (h.set (p:=⟨b,j,none⟩) hb u)
theorem vG {t:TypeId}: ∀ (l:List (Nat × Value)) {w:World} {cs:Array Value},w.heap[b]?=some (.cells cs t (0,0))→(sets w b l).heap[b]?=some (.cells (GY cs l) t (0,0))
 | [],_,_,h=>h
 | (j,u)::l,w,cs,h=>vG l (bW h j u)
theorem Mine.sets {t:TypeId} (l:List (Nat × Value)) {w:World} {cs:Array Value} (h:Mine ok w b (.cells cs t (0,0))):Mine ok (sets w b l) b (.cells (GY cs l) t (0,0)):=⟨vG l h.1,h.2⟩
theorem Mine.dR {g:Nat} {o:Obj} (l:List (Nat × Value)) {w:World} (h:Mine ok w g o) (hg:g≠b):Mine ok (Own.sets w b l) g o:=⟨(Own.dR hg l w).trans h.1,h.2⟩
theorem lM {w w1:World} (h:Below w.heap.size w w1) (hb:w.heap.size≤b) (l:List (Nat × Value)):Below w.heap.size w (sets w1 b l):=Moves.outer (gu (ok:=fun _=>False) (ok1:=fun _=>False) (.inr hb) l (Moves.bN _ h)) (fun _ h=>h.elim)
end
end Go.Proofs.YtmnjjdeaccgjlaaGreat.Own
namespace Go.Proofs.YtmnjjdeaccgjlaaGreat.Tower
open Go Go.RowKit Go.Proofs.YtmnjjdeaccgjlaaGreatW.PrintWords Go.Proofs.YtmnjjdeaccgjlaaGreatW.PrintLast Go.Proofs.YtmnjjdeaccgjlaaGreatW.PrintMore Go.Proofs.YtmnjjdeaccgjlaaGreat.Own
def Flat (A:Option Addr):Prop:= ∀ ad,A=some ad→ ∃ g,ad=⟨g,0,none⟩
theorem Flat.nil:Flat none:=fun _ e=>by cases e
theorem uJ {α:Type} {d:Kd α} {e base n c:Nat} {W:World} {ok:Nat→Prop} {A:Option Addr} {xs:List α} (h:d.R e W base ok (.slice A n c) xs):Flat A:=fun ad e=>by
 subst e
 obtain ⟨g,e⟩:=Kd.qI h
 exact ⟨g,e⟩
def rcV (r:Rc) (A:Option Addr) (c:Nat) (A1:Option Addr) (c1:Nat):Value:= .agg #[.slice A r.nodes.length c,.slice A1 r.infos.length c1,.int .i64 r.keep,.int .i64 r.way,.int .i64 r.old,.int .i64 r.new]
structure El (r:Rc) (w:World) (e:Ending) (w1:World):Prop where
 out: ∃ A c A1 c1,e= .returned (rcV r A c A1 c1)∧r.nodes.length≤c∧(Kd.int .i64).F w1 (fun k=>w.heap.size≤k) A r.nodes.length r.nodes∧r.infos.length≤c1∧(Kd.int .i64).F w1 (fun k=>w.heap.size≤k) A1 r.infos.length r.infos∧Below w.heap.size w w1∧Flat A∧Flat A1
def yG:Bool × List (List Nat × List Nat):=(true,[([],[]),([0],[0]),([1],[1]),([],[]),([3],[3]),([4,2],[4]),([0,1,2,3,4],[]),([6,2,5,0,1,2,3,4],[2,6]),([0,1,2,3,4,5,6,7],[]),([8,5,7,0,1,2,3,4,5,6,7],[5,8])])
def FB:List Nat:= [0,1,3,0,8,31,31,127,255,511]
theorem BA:fG .any (opsOf Tryz.f208 5)=yG:=by kernel_rfl
theorem wh:bM yG.2 FB=true:=by kernel_rfl
theorem Ic {ok:Nat→Prop} {p:Nat} {t:Tb} (m:Int) (w:World) (h:IsTable ok p t w) (hg:t.Good):
  Calls Tryz.prog 208 #[.pointer (some ⟨p,0,none⟩),.int .i64 m] w (El (t.en m).rc w):=by
 obtain ⟨v,eb,nv,iv,ρ,h⟩:=h
 have hlen:t.l.length<1000000:=by have:=hg.most;have:=hg.len;omega
 have HA:=Am_ (fun w1 (hb:Below w.heap.size w w1)=>BN m w1 (h.step hb.size (fun k _ hlt=>hb.block k hlt)) hlen)
 have B4:=Am_ (Mine.new (ok:=fun _=>False) (w:=w) (fun k hk=>hk.elim) (.cells #[.slice none 0 0,.slice none 0 0,.int .i64 0,.int .i64 0,.int .i64 0,.int .i64 0] 254))
 have BB:=Am_ (ai (Below.refl w.heap.size w) (.cells #[.slice none 0 0,.slice none 0 0,.int .i64 0,.int .i64 0,.int .i64 0,.int .i64 0] 254))
 cases hi:t.idx m with
 | none=>
  have e1:(t.en m).rc=rc0:=by unfold Tb.en;rw [hi];rfl
  have e2:atV eb t m= .pointer none:=by unfold atV;rw [hi]
  rw [e1]
  rw [e2] at HA
  clear h hg hlen hi e1 e2
  go_enter Tryz.func208,Tryz.ntmps208
  go_upto_region 1 with fail
  generalize w.alloc (.cells #[.slice none 0 0,.slice none 0 0,.int .i64 0,.int .i64 0,.int .i64 0,.int .i64 0] 254)=w1 at B4 BB ⊢
  generalize hb4:w.heap.size=b4 at B4 ⊢
  have E4:=Am_ hb4
  clear hb4
  have y0:=(af B4.out.1 0).trans (rfl:_=some (Value.slice none 0 0))
  have y1:=(af B4.out.1 1).trans (rfl:_=some (Value.slice none 0 0))
  have y2:=(af B4.out.1 2).trans (rfl:_=some (Value.int .i64 0))
  have y3:=(af B4.out.1 3).trans (rfl:_=some (Value.int .i64 0))
  have y4:=(af B4.out.1 4).trans (rfl:_=some (Value.int .i64 0))
  have y5:=(af B4.out.1 5).trans (rfl:_=some (Value.int .i64 0))
  have z0:=ah B4.out.1 0
  have z1:=ah B4.out.1 1
  have z2:=ah B4.out.1 2
  have z3:=ah B4.out.1 3
  have z4:=ah B4.out.1 4
  have z5:=ah B4.out.1 5
  go_wp2_with (go_at_call 242;refine (HA.out _ BB.out).mono ?_;rintro e w2 ⟨rfl,rfl⟩)
  (try simp only [Exit.inBlock,Exit.then])
  refine bodyPost_ret (results_cell_row rfl _ _ b4 254 #[.slice none 0 0,.slice none 0 0,.int .i64 0,.int .i64 0,.int .i64 0,.int .i64 0] (0,0) _ rfl (Mine.set (Mine.set (Mine.set (Mine.set (Mine.set (Mine.set B4.out 0 (.slice none 0 0)) 1 (.slice none 0 0)) 2 (.int .i64 0)) 3 (.int .i64 0)) 4 (.int .i64 0)) 5 (.int .i64 0)).1 Tryz.underlying254 rfl (by kernel_rfl)) rfl ?_
  exact ⟨⟨none,0,none,0,rfl,Nat.le_refl _,Kd.jq _ _ _,Nat.le_refl _,Kd.jq _ _ _,Moves.outer (((((((Moves.bN (fun _=>False) BB.out).set (.inr (Nat.le_of_eq E4.out)) _).set (.inr (Nat.le_of_eq E4.out)) _).set (.inr (Nat.le_of_eq E4.out)) _).set (.inr (Nat.le_of_eq E4.out)) _).set (.inr (Nat.le_of_eq E4.out)) _).set (.inr (Nat.le_of_eq E4.out)) _) (fun _ h=>h.elim),Flat.nil,Flat.nil⟩⟩
 | some ix=>
  have e2:atV eb t m= .pointer (some ⟨eb ix,0,none⟩):=by unfold atV;rw [hi]
  rw [e2] at HA
  have hen:=Tb.mR hi
  obtain ⟨q1,q2,q3,q4,⟨A,c,qn,qc,qf⟩,⟨A1,c1,qn1,qc1,qf1⟩⟩:=h.ent ix _ hen
  have HL:=Am_ (hg.small ix _ hen)
  rw [qn,qn1] at q4
  have hlt:=h.lt _ q1
  have Q4:=Am_ (Below.heap_alloc w (.cells #[.slice none 0 0,.slice none 0 0,.int .i64 0,.int .i64 0,.int .i64 0,.int .i64 0] 254) _ hlt▸q4:(w.alloc (.cells #[.slice none 0 0,.slice none 0 0,.int .i64 0,.int .i64 0,.int .i64 0,.int .i64 0] 254)).heap[eb ix]?=_)
  have HN:=Am_ (Kd.gD qf)
  have HI:=Am_ (Kd.gD qf1)
  have HCC:=Am_ (And.intro qc qc1)
  generalize (t.en m).state=st at Q4
  generalize (t.en m).all=al at Q4
  generalize hrc:(t.en m).rc=rc at Q4 HN HI HL HCC ⊢
  obtain ⟨n,i,kp,wy,od,nw⟩:=rc
  clear hrc h hg hlen hi e2 hen q1 q2 q3 q4 qn qn1 qc qc1 qf qf1 hlt
  dsimp only at Q4 HN HI HL HCC
  go_enter Tryz.func208,Tryz.ntmps208
  go_upto_region 1 with fail
  have HN:=Am_ (Kd.bU HN.out (ai (Below.refl _ _) (.cells #[.slice none 0 0,.slice none 0 0,.int .i64 0,.int .i64 0,.int .i64 0,.int .i64 0] 254)))
  have HI:=Am_ (Kd.bU HI.out (ai (Below.refl _ _) (.cells #[.slice none 0 0,.slice none 0 0,.int .i64 0,.int .i64 0,.int .i64 0,.int .i64 0] 254)))
  generalize w.alloc (.cells #[.slice none 0 0,.slice none 0 0,.int .i64 0,.int .i64 0,.int .i64 0,.int .i64 0] 254)=w1 at B4 BB Q4 HN HI ⊢
  generalize hb4:w.heap.size=b4 at B4 ⊢
  have E4:=Am_ hb4
  clear hb4
  have y0:=(af Q4.out 0).trans (rfl:_=some (Value.slice A n.length c))
  have y1:=(af Q4.out 1).trans (rfl:_=some (Value.slice A1 i.length c1))
  have y2:=(af Q4.out 2).trans (rfl:_=some (Value.int .i64 kp))
  have y3:=(af Q4.out 3).trans (rfl:_=some (Value.int .i64 wy))
  have y4:=(af Q4.out 4).trans (rfl:_=some (Value.int .i64 od))
  have y5:=(af Q4.out 5).trans (rfl:_=some (Value.int .i64 nw))
  go_upto_region 5 with (go_at_call 242;refine (HA.out _ BB.out).mono ?_;rintro e w2 ⟨rfl,rfl⟩)
  clear y0 y1 y2 y3 y4 y5 Q4
  have B6:=Am_ (Mine.new (ok:=fun _=>False) (w:=w2) (fun k hk=>hk.elim) (.cells #[.slice A n.length c,.slice A1 i.length c1,.int .i64 kp,.int .i64 wy,.int .i64 od,.int .i64 nw] 254))
  have Z6:ay (b4<w2.heap.size):=⟨B4.out.lt⟩
  have B4:=Am_ (B4.out.alloc (.cells #[.slice A n.length c,.slice A1 i.length c1,.int .i64 kp,.int .i64 wy,.int .i64 od,.int .i64 nw] 254))
  have BB:=Am_ (bf BB.out BB.out.size (ai (Below.refl w2.heap.size w2) (.cells #[.slice A n.length c,.slice A1 i.length c1,.int .i64 kp,.int .i64 wy,.int .i64 od,.int .i64 nw] 254)))
  have HN:=Am_ (Kd.bU HN.out (ai (Below.refl _ _) (.cells #[.slice A n.length c,.slice A1 i.length c1,.int .i64 kp,.int .i64 wy,.int .i64 od,.int .i64 nw] 254)))
  have HI:=Am_ (Kd.bU HI.out (ai (Below.refl _ _) (.cells #[.slice A n.length c,.slice A1 i.length c1,.int .i64 kp,.int .i64 wy,.int .i64 od,.int .i64 nw] 254)))
  generalize w2.alloc (.cells #[.slice A n.length c,.slice A1 i.length c1,.int .i64 kp,.int .i64 wy,.int .i64 od,.int .i64 nw] 254)=w1 at B6 B4 BB HN HI ⊢
  generalize w2.heap.size=b6 at B6 Z6 ⊢
  refine bP (n:=10) (S:=fun w'=>w'.cell? ⟨b6,0,none⟩=some (.slice A n.length c)∧w'.cell? ⟨b6,1,none⟩=some (.slice A1 i.length c1)) (ds:= [7,9]) (by kernel_rfl) rfl BA wh ⟨(af B6.out.1 0).trans rfl,(af B6.out.1 1).trans rfl⟩ (fun hHeld HT_ HW_=>?_)
  have B6:=Am_ (B6.out.moves (Moves.drew (Moves.refl _ _)))
  have B4:=Am_ (B4.out.moves (Moves.drew (Moves.refl _ _)))
  have BB:=Am_ (bf BB.out BB.out.size (aZ (Below.refl _ _)))
  have HN:=Am_ (Kd.bU HN.out (aZ (Below.refl _ _)))
  have HI:=Am_ (Kd.bU HI.out (aZ (Below.refl _ _)))
  generalize World.drew _=w2 at B6 B4 BB HN HI hHeld ⊢
  refine fu [(0,some 17),(1,some 18),(3,some 20),(4,some 21)] ?_
  (refine fq (v:=?_) (a':=?_) HT_ (by kernel_rfl) rfl rfl (fun _ _ _ h=>h) (Or.inl ⟨by rfl,?_⟩) ?_ ?_;rotate_left;(intro w';go_simp;with_reducible rfl);rotate_left;(simp only [Act.put,p1_,p2_,p3_,aI,aJ];rfl))
  iterate 3 (refine jm (v:=?_) (a':=?_) HT_ HW_ (by kernel_rfl) rfl rfl (fun _ _ _ h=>h) hHeld (Or.inl ⟨by rfl,?_⟩) ?_ ?_;rotate_left;(rintro w' ⟨s0,s1⟩;go_simp;with_reducible rfl);rotate_left;(simp only [Act.put,p1_,p2_,p3_,aI,aJ];rfl))
  refine bH ?_
  refine eu (i:=2) (some 19) HT_ (by kernel_rfl) rfl rfl (by decide) (fun K_ hK=>?_)
  refine call_ 144 #[.slice A n.length c] (by rfl) rfl ?hrun2 ?_
  (case hrun2=>first | (go_simp;done) | (go_simp;exact enters Tryz.func144 (by kernel_rfl) rfl _ _))
  refine (ic A n.length c n _ HN.out HL.out.1).mono ?_
  rintro e w3 ⟨v1,rfl,hv,hb⟩
  have hz6:=B6.out.lt
  have hz4:=B4.out.lt
  obtain ⟨A3,c3,rfl⟩:=Kd.aV hv
  have V1:=Am_ hv
  have B6:=Am_ (B6.out.moves (Moves.bN _ hb))
  have B4:=Am_ (B4.out.moves (Moves.bN _ hb))
  have HI:=Am_ (Kd.bU HI.out hb)
  have BB:=Am_ (bf BB.out BB.out.size hb)
  have Z3:=Am_ (And.intro hz6 hz4)
  clear hz6 hz4
  clear hv hb HN
  refine ⟨_,rfl,?_⟩
  refine hK.out _ _ ⟨(af B6.out.1 0).trans rfl,(af B6.out.1 1).trans rfl⟩ (fun hHeld=>?_)
  clear hK K_
  refine bT (a':=?_) ?_ ?_
  rotate_left; · show Act.put _ (some 19) _=_;simp only [Act.put,p1_,p2_,p3_,aI,aJ];rfl
  refine fu [(6,some 23)] ?_
  (refine fq (v:=?_) (a':=?_) HT_ (by kernel_rfl) rfl rfl (fun _ _ _ h=>h) (Or.inl ⟨by rfl,?_⟩) ?_ ?_;rotate_left;(intro w';go_simp;with_reducible rfl);rotate_left;(simp only [Act.put,p1_,p2_,p3_,aI,aJ];rfl))
  refine bH ?_
  refine eu (i:=5) (some 22) HT_ (by kernel_rfl) rfl rfl (by decide) (fun K_ hK=>?_)
  refine call_ 143 #[.slice A1 i.length c1] (by rfl) rfl ?hrun5 ?_
  (case hrun5=>first | (go_simp;done) | (go_simp;exact enters Tryz.func143 (by kernel_rfl) rfl _ _))
  refine (jr A1 i.length c1 i _ HI.out HL.out.2).mono ?_
  rintro e w4 ⟨v2,rfl,hv,hb⟩
  have hz6:=B6.out.lt
  have hz4:=B4.out.lt
  obtain ⟨A4,c4,rfl⟩:=Kd.aV hv
  have V2:=Am_ hv
  have V1:=Am_ (Kd.cZ (Kd.bR V1.out) (fun k hk hlt=>hb.block k hlt))
  have B6:=Am_ (B6.out.moves (Moves.bN _ hb))
  have B4:=Am_ (B4.out.moves (Moves.bN _ hb))
  have BB:=Am_ (bf BB.out BB.out.size hb)
  have Z4:=Am_ (And.intro hz6 hz4)
  clear hv hb HI hz6 hz4
  refine ⟨_,rfl,?_⟩
  refine hK.out _ _ ⟨(af B6.out.1 0).trans rfl,(af B6.out.1 1).trans rfl⟩ (fun hHeld=>?_)
  clear hK K_
  refine bT (a':=?_) ?_ ?_
  rotate_left; · show Act.put _ (some 22) _=_;simp only [Act.put,p1_,p2_,p3_,aI,aJ];rfl
  have y0:=(af B6.out.1 0).trans (rfl:_=some (Value.slice A n.length c))
  have y1:=(af B6.out.1 1).trans (rfl:_=some (Value.slice A1 i.length c1))
  have z0:=ah B6.out.1 0
  have z1:=ah B6.out.1 1
  refine cK (i:=7) none HT_ (by kernel_rfl) rfl rfl (by decide) (fun K_ hK=>?_)
  refine fJ (w1:=?_) (by rfl) rfl ?_ ?_
  rotate_left; · go_simp;rfl
  refine hK.out _ _ ?_
  clear hK K_
  refine fu [(8,some 24)] ?_
  (refine fq (v:=?_) (a':=?_) HT_ (by kernel_rfl) rfl rfl (fun _ _ _ h=>h) (Or.inl ⟨by rfl,?_⟩) ?_ ?_;rotate_left;(intro w';go_simp;with_reducible rfl);rotate_left;(simp only [Act.put,p1_,p2_,p3_,aI,aJ];rfl))
  refine bH ?_
  have BB:=Am_ (lM (b:=b6) BB.out (by have:=E4.out;have:=Z6.out;omega) [(0,(.slice A3 n.length c3))])
  have V1:=Am_ (Kd.cZ (Kd.bR V1.out) (fun k hk _=>dR (b:=b6) (by have:=hk.2.1;have:=Z3.out.1;omega) [(0,(.slice A3 n.length c3))] w4))
  have V2:=Am_ (Kd.cZ (Kd.bR V2.out) (fun k hk _=>dR (b:=b6) (by have:=hk.2.1;have:=Z4.out.1;omega) [(0,(.slice A3 n.length c3))] w4))
  have B4:=Am_ (B4.out.dR (b:=b6) [(0,(.slice A3 n.length c3))] (by have:=Z6.out;omega))
  have B6:=Am_ (B6.out.set 0 (.slice A3 n.length c3))
  clear y0 y1 z0 z1
  unfold sets sets at BB V1 V2 B4
  generalize w4.setCell ⟨b6,0,none⟩ (.slice A3 n.length c3)=w5 at BB V1 V2 B4 B6 ⊢
  have y1:=(af B6.out.1 1).trans (rfl:_=some (Value.slice A1 i.length c1))
  have z1:=ah B6.out.1 1
  refine cK (i:=9) none HT_ (by kernel_rfl) rfl rfl (by decide) (fun K_ hK=>?_)
  refine fJ (w1:=?_) (by rfl) rfl ?_ ?_
  rotate_left; · go_simp;rfl
  refine hK.out _ _ ?_
  clear hK K_
  have BB:=Am_ (lM (b:=b6) BB.out (by have:=E4.out;have:=Z6.out;omega) [(1,(.slice A4 i.length c4))])
  have V1:=Am_ (Kd.cZ (Kd.bR V1.out) (fun k hk _=>dR (b:=b6) (by have:=hk.2.1;have:=Z3.out.1;omega) [(1,(.slice A4 i.length c4))] w5))
  have V2:=Am_ (Kd.cZ (Kd.bR V2.out) (fun k hk _=>dR (b:=b6) (by have:=hk.2.1;have:=Z4.out.1;omega) [(1,(.slice A4 i.length c4))] w5))
  have B4:=Am_ (B4.out.dR (b:=b6) [(1,(.slice A4 i.length c4))] (by have:=Z6.out;omega))
  have B6:=Am_ (B6.out.set 1 (.slice A4 i.length c4))
  clear y1 z1
  unfold sets sets at BB V1 V2 B4
  generalize w5.setCell ⟨b6,1,none⟩ (.slice A4 i.length c4)=w6 at BB V1 V2 B4 B6 ⊢
  refine dN (bQ HT_.out (by kernel_rfl)) ?_
  have y0:=(af B6.out.1 0).trans (rfl:_=some (Value.slice A3 n.length c3))
  have y1:=(af B6.out.1 1).trans (rfl:_=some (Value.slice A4 i.length c4))
  have y2:=(af B6.out.1 2).trans (rfl:_=some (Value.int .i64 kp))
  have y3:=(af B6.out.1 3).trans (rfl:_=some (Value.int .i64 wy))
  have y4:=(af B6.out.1 4).trans (rfl:_=some (Value.int .i64 od))
  have y5:=(af B6.out.1 5).trans (rfl:_=some (Value.int .i64 nw))
  have x0:=(af B4.out.1 0).trans (rfl:_=some (Value.slice none 0 0))
  have x1:=(af B4.out.1 1).trans (rfl:_=some (Value.slice none 0 0))
  have x2:=(af B4.out.1 2).trans (rfl:_=some (Value.int .i64 0))
  have x3:=(af B4.out.1 3).trans (rfl:_=some (Value.int .i64 0))
  have x4:=(af B4.out.1 4).trans (rfl:_=some (Value.int .i64 0))
  have x5:=(af B4.out.1 5).trans (rfl:_=some (Value.int .i64 0))
  have z0:=ah B4.out.1 0
  have z1:=ah B4.out.1 1
  have z2:=ah B4.out.1 2
  have z3:=ah B4.out.1 3
  have z4:=ah B4.out.1 4
  have z5:=ah B4.out.1 5
  go_wp2_with fail
  (try simp only [Exit.inBlock,Exit.then])
  show bodyPost _ _ _ _ _ (sets w6 b4 [(0,.slice A3 n.length c3),(1,.slice A4 i.length c4),(2,.int .i64 kp),(3,.int .i64 wy),(4,.int .i64 od),(5,.int .i64 nw)])
  refine bodyPost_ret (results_cell_row rfl _ _ b4 254 _ (0,0) _ rfl (B4.out.sets [(0,.slice A3 n.length c3),(1,.slice A4 i.length c4),(2,.int .i64 kp),(3,.int .i64 wy),(4,.int .i64 od),(5,.int .i64 nw)]).1 Tryz.underlying254 rfl (by kernel_rfl)) rfl ?_
  exact ⟨⟨A3,c3,A4,c4,rfl,(Kd.bS V1.out).2.1,Kd.dH (Kd.fV (Kd.R_F V1.out) (fun k hk _=>dR (b:=b4) (by have:=hk.2.1;have:=Z3.out.2;omega) [(0,.slice A3 n.length c3),(1,.slice A4 i.length c4),(2,.int .i64 kp),(3,.int .i64 wy),(4,.int .i64 od),(5,.int .i64 nw)] w6)) (fun k hk=>by have:=hk.2.1;have:=Z3.out.2;have:=E4.out;omega),(Kd.bS V2.out).2.1,Kd.dH (Kd.fV (Kd.R_F V2.out) (fun k hk _=>dR (b:=b4) (by have:=hk.2.1;have:=Z4.out.2;omega) [(0,.slice A3 n.length c3),(1,.slice A4 i.length c4),(2,.int .i64 kp),(3,.int .i64 wy),(4,.int .i64 od),(5,.int .i64 nw)] w6)) (fun k hk=>by have:=hk.2.1;have:=Z4.out.2;have:=E4.out;omega),lM (b:=b4) BB.out (Nat.le_of_eq E4.out) [(0,.slice A3 n.length c3),(1,.slice A4 i.length c4),(2,.int .i64 kp),(3,.int .i64 wy),(4,.int .i64 od),(5,.int .i64 nw)],uJ V1.out,uJ V2.out⟩⟩
theorem gX.push {ok:Nat→Prop} {p N0 g:Nat} {v v1:Value} {eb:Nat→Nat} {nv iv:Nat→Value} {ρ:Nat→Nat} {t:Tb} {W w1:World} {nvv ivv:Value} {e:En} (h:gX ok p v eb nv iv ρ t W) (h0: ∀ k,ok k→k<N0) (hg0:N0≤g) (hgW:g<W.heap.size)
  (hb:W.heap[g]?=some (.cells (mE nvv ivv e) 289 (0,0))) (hn:SlF (Kd.int .i64) W (fun k=>N0≤k∧k<g) nvv e.rc.nodes) (hi:SlF (Kd.int .i64) W (fun k=>N0≤k∧k<g) ivv e.rc.infos) (hg:W.grownBy w1 v.ownBlock)
  (hr:(Kd.raw 1).R 287 w1 0 (fun k=>(ok k∧ρ k=1)∨W.heap.size≤k) v1 (((List.range t.l.length).map fun i=> [Value.pointer (some ⟨eb i,0,none⟩)])++ [[Value.pointer (some ⟨g,0,none⟩)]])):
  gX (fun k=>ok k∨(N0≤k∧k<w1.heap.size)) p v1 (fun i=>if i=t.l.length then g else eb i) (fun i=>if i=t.l.length then nvv else nv i) (fun i=>if i=t.l.length then ivv else iv i) (fun k=>if k<N0 then ρ k else if k=g then 2 else if k<g then 3 else 1) { t with l:=t.l++ [e] } (w1.setCell ⟨p,0,none⟩ v1):=by
 have hp0:=h0 p h.own
 have hs:(w1.setCell ⟨p,0,none⟩ v1).heap.size=w1.heap.size:=by simp [World.setCell]
 have hne: ∀ k,(ok k∧ρ k≠1)→some k≠v.ownBlock:=fun k hk e=>hk.2 (h.row.1 k e.symm).2
 have hmove: ∀ k,(ok k∧ρ k≠1∧ρ k≠0)→k<W.heap.size→(w1.setCell ⟨p,0,none⟩ v1).heap[k]?=W.heap[k]?:=fun k hk hlt=>
  (Below.heap_setCell w1 ⟨p,0,none⟩ v1 k (fun e=>hk.2.2 (by rw [show k=p from e];exact h.role))).trans (hg.block k hlt (hne k ⟨hk.1,hk.2.1⟩))
 have hnew: ∀ k,N0≤k→k<W.heap.size→(w1.setCell ⟨p,0,none⟩ v1).heap[k]?=W.heap[k]?:=fun k hk hlt=>
  (Below.heap_setCell w1 ⟨p,0,none⟩ v1 k (fun e=>by have e1:k=p:=e;omega)).trans (hg.block k hlt (fun e=>by have:=h0 k (h.row.1 k e.symm).1;omega))
 have hup: ∀ r k,(ok k∧ρ k=r)→((ok k∨(N0≤k∧k<w1.heap.size))∧(if k<N0 then ρ k else if k=g then 2 else if k<g then 3 else 1)=r):=fun r k hk=>⟨.inl hk.1,by rw [if_pos (h0 k hk.1)];exact hk.2⟩
 have hW1:=hg.size
 exact {
  own:= .inl h.own
  role:=by rw [if_pos hp0];exact h.role
  lt:=fun k hk=>by
   rw [hs]
   rcases hk with hk | hk
   ·exact Nat.lt_of_lt_of_le (h.lt k hk) hW1
   ·exact hk.2
  box:=by
   have hb0:=bG h.box hg (hne p ⟨h.own,by rw [h.role];decide⟩)
   exact bW hb0 0 v1
  row:=by
   have e1:((List.range t.l.length).map fun i=> [Value.pointer (some ⟨eb i,0,none⟩)])++ [[Value.pointer (some ⟨g,0,none⟩)]]=(List.range ({ t with l:=t.l++ [e] }:Tb).l.length).map fun i=> [Value.pointer (some ⟨if i=t.l.length then g else eb i,0,none⟩)]:=by
    show _=(List.range (t.l++ [e]).length).map _
    rw [List.length_append,List.length_singleton,List.range_succ,List.map_append,List.map_singleton,if_pos rfl]
    congr 1
    apply List.map_congr_left
    intro i hi
    rw [if_neg (by have:=List.mem_range.1 hi;omega)]
   rw [←e1]
   refine Kd.cB (Kd.bg (Kd.bR hr) (fun k hk=>?_)) (fun k hk e=>?_) v1
   ·have hlt:=hk.2.2.1
    rcases hk.1 with h1 | h1
    ·exact hup 1 k h1
    ·exact ⟨.inr ⟨by omega,hlt⟩,by rw [if_neg (by omega),if_neg (by omega),if_neg (by omega)]⟩
   ·have:=hk.2
    rw [show k=p from e,if_pos hp0,h.role] at this
    cases this
  ent:=fun i q hq=>by
   by_cases hil:i<t.l.length
   ·rw [List.getElem?_append_left hil] at hq
    have hni: ¬ i=t.l.length:=by omega
    simp only [if_neg hni]
    obtain ⟨q1,q2,q3,q4,q5,q6⟩:=h.ent i q hq
    refine ⟨.inl q1,by rw [if_pos (h0 _ q1)];exact q2,fun j hj=>?_,?_,?_,?_⟩
    ·rw [if_neg (by omega)]
     exact q3 j hj
    ·exact (hmove _ ⟨q1,by rw [q2];decide,by rw [q2];decide⟩ (h.lt _ q1)).trans q4
    ·exact (q5.step (fun k hk hlt=>hmove k ⟨hk.1,by rw [hk.2];decide,by rw [hk.2];decide⟩ hlt)).mono (fun k hk _=>hup 3 k hk)
    ·exact (q6.step (fun k hk hlt=>hmove k ⟨hk.1,by rw [hk.2];decide,by rw [hk.2];decide⟩ hlt)).mono (fun k hk _=>hup 3 k hk)
   ·rw [List.getElem?_append_right (by omega)] at hq
    have hi0:i - t.l.length=0:=by
     have:=(List.getElem?_eq_some_iff.1 hq).1
     simp at this
     omega
    rw [hi0] at hq
    injection hq with hq
    subst hq
    have hie:i=t.l.length:=by omega
    simp only [if_pos hie]
    refine ⟨.inr ⟨hg0,by omega⟩,by rw [if_neg (by omega)];simp,fun j hj=>?_,?_,?_,?_⟩
    ·rw [if_neg (by omega)]
     obtain ⟨x,hx⟩: ∃ x,t.l[j]?=some x:=⟨_,List.getElem?_eq_getElem (by omega)⟩
     have:=h0 _ (h.ent j x hx).1
     omega
    ·exact (hnew g hg0 hgW).trans hb
    ·exact (hn.step (fun k hk hlt=>hnew k hk.1 hlt)).mono (fun k hk hlt=>⟨.inr ⟨hk.1,by omega⟩,by rw [if_neg (by omega),if_neg (by omega),if_pos hk.2]⟩)
    ·exact (hi.step (fun k hk hlt=>hnew k hk.1 hlt)).mono (fun k hk hlt=>⟨.inr ⟨hk.1,by omega⟩,by rw [if_neg (by omega),if_neg (by omega),if_pos hk.2]⟩) }
structure yc (ok:Nat→Prop) (p:Nat) (n:Int) (b:Bool) (t1:Tb) (w:World) (e:Ending) (w1:World):Prop where
 val:e= .returned (.tuple #[.int .i64 n,.bool b])
 out: ∃ ok1,IsTable ok1 p t1 w1∧Moves ok ok1 w w1
theorem CW:(Tryz.prog.info? 287).map (fun i=>(i.zero,i.size,i.bytes))=some (some (.pointer none),1,8):=by kernel_rfl
theorem Ac {ok:Nat→Prop} {p:Nat} {t:Tb} (A:Option Addr) (c:Nat) (n:List Int) (A1:Option Addr) (c1:Nat) (i:List Int) (kp wy od nw:Int) (w:World) (h:IsTable ok p t w) (hg:t.Good) (hn:(Kd.int .i64).F w (fun k=> ¬ ok k) A n.length n) (hi:(Kd.int .i64).F w (fun k=> ¬ ok k) A1 n.length i) (hk:0≤kp) (hs:n.length<1000000) (hm:t.most≤t.l.length):
  Calls Tryz.prog 174 #[.pointer (some ⟨p,0,none⟩),.agg #[.slice A n.length c,.slice A1 n.length c1,.int .i64 kp,.int .i64 wy,.int .i64 od,.int .i64 nw]] w (yc ok p 0 false t w):=by
 obtain ⟨v,eb,nv,iv,ρ,h⟩:=h
 have hlt0:=h.lt
 have HLT:=Am_ hlt0
 have hlen:t.l.length<100000:=by have:=hg.most;have:=hg.len;omega
 have HL:=Am_ (And.intro hs hlen)
 have HT:=Am_ (h.step (w1:=w.alloc (.cells #[.slice A n.length c,.slice A1 n.length c1,.int .i64 kp,.int .i64 wy,.int .i64 od,.int .i64 nw] 254)) (by simp) (fun k _ hlt=>Below.heap_alloc _ _ _ hlt))
 have B6:=Am_ (Mine.new (ok:=ok) hlt0 (.cells #[.slice A n.length c,.slice A1 n.length c1,.int .i64 kp,.int .i64 wy,.int .i64 od,.int .i64 nw] 254))
 have HM:=Am_ ((Moves.refl ok w).alloc (.cells #[.slice A n.length c,.slice A1 n.length c1,.int .i64 kp,.int .i64 wy,.int .i64 od,.int .i64 nw] 254))
 have HN:=Am_ (Kd.bU (Kd.gD hn) (ai (Below.refl _ _) (.cells #[.slice A n.length c,.slice A1 n.length c1,.int .i64 kp,.int .i64 wy,.int .i64 od,.int .i64 nw] 254)))
 have HI:=Am_ (Kd.bU (Kd.gD hi) (ai (Below.refl _ _) (.cells #[.slice A n.length c,.slice A1 n.length c1,.int .i64 kp,.int .i64 wy,.int .i64 od,.int .i64 nw] 254)))
 obtain ⟨Ar,cr,rfl⟩:=Kd.aV h.row
 have hll:((List.range t.l.length).map fun i=> [Value.pointer (some ⟨eb i,0,none⟩)]).length=t.l.length:=by simp
 rw [hll] at HT
 have dk:decide (kp<0)=false:=decide_eq_false (by omega)
 have d1:decide ((t.l.length:Int)≥t.most)=true:=decide_eq_true hm
 have d2:decide (t.most≤(t.l.length:Int))=true:=decide_eq_true hm
 clear h hg hn hi hk hs hm hlt0 hlen hll
 go_enter Tryz.func174,Tryz.ntmps174
 go_upto_region 1 with fail
 generalize w.alloc (.cells #[.slice A n.length c,.slice A1 n.length c1,.int .i64 kp,.int .i64 wy,.int .i64 od,.int .i64 nw] 254)=w1 at HT B6 HM HN HI ⊢
 generalize hb6:w.heap.size=b6 at B6 ⊢
 have E6:=Am_ hb6
 clear hb6
 have y0:=(af B6.out.1 0).trans (rfl:_=some (Value.slice A n.length c))
 have y1:=(af B6.out.1 1).trans (rfl:_=some (Value.slice A1 n.length c1))
 have y2:=(af B6.out.1 2).trans (rfl:_=some (Value.int .i64 kp))
 have c0:=(af HT.out.box 0).trans (rfl:_=some (Value.slice Ar t.l.length cr))
 have c1_:=(af HT.out.box 1).trans (rfl:_=some (Value.int .i64 t.most))
 go_quiet (fail)
 rename_i nq
 go_wp2_with fail
 go_ret2
 exact ⟨rfl,ok,⟨_,_,_,_,_,HT.out.step (Nat.le_refl _) (fun _ _ _=>rfl)⟩,HM.out.drewN _⟩
def yH:Bool × List (List Nat × List Nat):=(true,[([],[]),([0],[0]),([1],[1]),([],[]),([3],[3]),([4,2],[4]),([0,1,2,3,4],[]),([6,2,5,0,1,2,3,4],[2,6]),([0,1,2,3,4,5,6,7],[]),([8,5,7,0,1,2,3,4,5,6,7],[5,8])])
def FC:List Nat:= [0,1,3,0,8,31,31,127,255,511]
theorem BD:fG .any (opsOf Tryz.f174 3)=yH:=by kernel_rfl
theorem wm:bM yH.2 FC=true:=by kernel_rfl
def yI:Bool × List (List Nat × List Nat):=(true,[([],[]),([],[]),([1],[1]),([2],[2]),([3],[3]),([],[]),([5],[5]),([6],[6]),([7],[7]),([4,8],[4,8]),([0,0,1,2,3,4,5,6,7,8,9],[0]),([10,0,1,2,3,4,5,6,7,8,9],[10]),([11,9,9,0,1,2,3,4,5,6,7,8,9],[9,11])])
def FD:List Nat:= [0,0,2,6,14,0,32,96,224,510,1023,2047,4095]
theorem BF:fG .any (opsOf Tryz.f174 4)=yI:=by kernel_rfl
theorem wo:bM yI.2 FD=true:=by kernel_rfl
theorem Ad {ok:Nat→Prop} {p:Nat} {t:Tb} (A:Option Addr) (c:Nat) (n:List Int) (A1:Option Addr) (c1:Nat) (i:List Int) (kp wy od nw:Int) (w:World) (h:IsTable ok p t w) (hg:t.Good) (hn:(Kd.int .i64).F w (fun k=> ¬ ok k) A n.length n) (hi:(Kd.int .i64).F w (fun k=> ¬ ok k) A1 n.length i) (hk:0≤kp) (hs:n.length<1000000) (hm: ¬ t.most≤t.l.length):
  Calls Tryz.prog 174 #[.pointer (some ⟨p,0,none⟩),.agg #[.slice A n.length c,.slice A1 n.length c1,.int .i64 kp,.int .i64 wy,.int .i64 od,.int .i64 nw]] w (yc ok p ((t.l.length+1:Nat):Int) true { t with l:=t.l++ [⟨⟨n,i,kp,wy,od,nw⟩,1,false⟩] } w):=by
 obtain ⟨v,eb,nv,iv,ρ,h⟩:=h
 have hlt0:=h.lt
 have HLT:=Am_ hlt0
 have hlen:t.l.length<100000:=by have:=hg.most;have:=hg.len;omega
 have HL:=Am_ (And.intro hs hlen)
 have HT:=Am_ (h.step (w1:=w.alloc (.cells #[.slice A n.length c,.slice A1 n.length c1,.int .i64 kp,.int .i64 wy,.int .i64 od,.int .i64 nw] 254)) (by simp) (fun k _ hlt=>Below.heap_alloc _ _ _ hlt))
 have B6:=Am_ (Mine.new (ok:=ok) hlt0 (.cells #[.slice A n.length c,.slice A1 n.length c1,.int .i64 kp,.int .i64 wy,.int .i64 od,.int .i64 nw] 254))
 have HM:=Am_ ((Moves.refl ok w).alloc (.cells #[.slice A n.length c,.slice A1 n.length c1,.int .i64 kp,.int .i64 wy,.int .i64 od,.int .i64 nw] 254))
 have HN:=Am_ (Kd.bU (Kd.gD hn) (ai (Below.refl _ _) (.cells #[.slice A n.length c,.slice A1 n.length c1,.int .i64 kp,.int .i64 wy,.int .i64 od,.int .i64 nw] 254)))
 have HI:=Am_ (Kd.bU (Kd.gD hi) (ai (Below.refl _ _) (.cells #[.slice A n.length c,.slice A1 n.length c1,.int .i64 kp,.int .i64 wy,.int .i64 od,.int .i64 nw] 254)))
 obtain ⟨Ar,cr,rfl⟩:=Kd.aV h.row
 have hll:((List.range t.l.length).map fun i=> [Value.pointer (some ⟨eb i,0,none⟩)]).length=t.l.length:=by simp
 rw [hll] at HT
 have dk:decide (kp<0)=false:=decide_eq_false (by omega)
 have d1:decide ((t.l.length:Int)≥t.most)=false:=decide_eq_false hm
 have d2:decide (t.most≤(t.l.length:Int))=false:=decide_eq_false hm
 clear h hg hn hi hk hs hm hlt0 hlen hll
 go_enter Tryz.func174,Tryz.ntmps174
 go_upto_region 1 with fail
 generalize w.alloc (.cells #[.slice A n.length c,.slice A1 n.length c1,.int .i64 kp,.int .i64 wy,.int .i64 od,.int .i64 nw] 254)=w1 at HT B6 HM HN HI ⊢
 generalize hb6:w.heap.size=b6 at B6 ⊢
 have E6:=Am_ hb6
 clear hb6
 have y0:=(af B6.out.1 0).trans (rfl:_=some (Value.slice A n.length c))
 have y1:=(af B6.out.1 1).trans (rfl:_=some (Value.slice A1 n.length c1))
 have y2:=(af B6.out.1 2).trans (rfl:_=some (Value.int .i64 kp))
 have c0:=(af HT.out.box 0).trans (rfl:_=some (Value.slice Ar t.l.length cr))
 have c1_:=(af HT.out.box 1).trans (rfl:_=some (Value.int .i64 t.most))
 go_quiet (fail)
 rename_i nq
 have HT:=Am_ (HT.out.step (w1:=w1.drewN nq) (Nat.le_refl _) (fun _ _ _=>rfl))
 have HM:=Am_ (HM.out.drewN nq)
 have B6:=Am_ (B6.out.moves (Moves.drewN (Moves.refl _ _) nq))
 have HN:=Am_ (Kd.bU HN.out (aj (Below.refl _ _) nq))
 have HI:=Am_ (Kd.bU HI.out (aj (Below.refl _ _) nq))
 clear y0 y1 y2 c0 c1_ d1 d2 dk
 generalize w1.drewN nq=w2 at HT HM B6 HN HI ⊢
 go_upto_region 3 with fail
 refine bP (n:=10) (S:=fun w'=>w'.cell? ⟨b6,0,none⟩=some (.slice A n.length c)∧w'.cell? ⟨b6,1,none⟩=some (.slice A1 n.length c1)) (ds:= [7,9]) (by kernel_rfl) rfl BD wm ⟨(af B6.out.1 0).trans rfl,(af B6.out.1 1).trans rfl⟩ (fun hHeld HT_ HW_=>?_)
 have B6:=Am_ (B6.out.moves (Moves.drew (Moves.refl _ _)))
 have HT:=Am_ (HT.out.step (w1:=w2.drew) (Nat.le_refl _) (fun _ _ _=>rfl))
 have HM:=Am_ (HM.out.drew)
 have HN:=Am_ (Kd.bU HN.out (aZ (Below.refl _ _)))
 have HI:=Am_ (Kd.bU HI.out (aZ (Below.refl _ _)))
 generalize World.drew _=w2 at B6 HT HM HN HI hHeld ⊢
 refine fu [(0,some 34),(1,some 35),(3,some 37),(4,some 38)] ?_
 (refine fq (v:=?_) (a':=?_) HT_ (by kernel_rfl) rfl rfl (fun _ _ _ h=>h) (Or.inl ⟨by rfl,?_⟩) ?_ ?_;rotate_left;(intro w';go_simp;with_reducible rfl);rotate_left;(simp only [Act.put,p1_,p2_,p3_,aI,aJ];rfl))
 iterate 3 (refine jm (v:=?_) (a':=?_) HT_ HW_ (by kernel_rfl) rfl rfl (fun _ _ _ h=>h) hHeld (Or.inl ⟨by rfl,?_⟩) ?_ ?_;rotate_left;(rintro w' ⟨s0,s1⟩;go_simp;with_reducible rfl);rotate_left;(simp only [Act.put,p1_,p2_,p3_,aI,aJ];rfl))
 refine bH ?_
 refine eu (i:=2) (some 36) HT_ (by kernel_rfl) rfl rfl (by decide) (fun K_ hK=>?_)
 refine call_ 144 #[.slice A n.length c] (by rfl) rfl ?hrun2 ?_
 (case hrun2=>first | (go_simp;done) | (go_simp;exact enters Tryz.func144 (by kernel_rfl) rfl _ _))
 refine (ic A n.length c n _ HN.out HL.out.1).mono ?_
 rintro e w3 ⟨v1,rfl,hv,hb⟩
 have hz6:=B6.out.lt
 obtain ⟨A3,c3,rfl⟩:=Kd.aV hv
 have V1:=Am_ hv
 have B6:=Am_ (B6.out.moves (Moves.bN _ hb))
 have HT:=Am_ (HT.out.step hb.size (fun k _ hlt=>hb.block k hlt))
 have HM:=Am_ (HM.out.below hb)
 have HI:=Am_ (Kd.bU HI.out hb)
 have Z3:=Am_ hz6
 clear hv hb HN hz6
 refine ⟨_,rfl,?_⟩
 refine hK.out _ _ ⟨(af B6.out.1 0).trans rfl,(af B6.out.1 1).trans rfl⟩ (fun hHeld=>?_)
 clear hK K_
 refine bT (a':=?_) ?_ ?_
 rotate_left; · show Act.put _ (some 36) _=_;simp only [Act.put,p1_,p2_,p3_,aI,aJ];rfl
 refine fu [(6,some 40)] ?_
 (refine fq (v:=?_) (a':=?_) HT_ (by kernel_rfl) rfl rfl (fun _ _ _ h=>h) (Or.inl ⟨by rfl,?_⟩) ?_ ?_;rotate_left;(intro w';go_simp;with_reducible rfl);rotate_left;(simp only [Act.put,p1_,p2_,p3_,aI,aJ];rfl))
 refine bH ?_
 refine eu (i:=5) (some 39) HT_ (by kernel_rfl) rfl rfl (by decide) (fun K_ hK=>?_)
 refine call_ 143 #[.slice A1 n.length c1] (by rfl) rfl ?hrun5 ?_
 (case hrun5=>first | (go_simp;done) | (go_simp;exact enters Tryz.func143 (by kernel_rfl) rfl _ _))
 refine (jr A1 n.length c1 i _ HI.out HL.out.1).mono ?_
 rintro e w4 ⟨v2,rfl,hv,hb⟩
 have hz6:=B6.out.lt
 obtain ⟨A4,c4,rfl⟩:=Kd.aV hv
 have V2:=Am_ hv
 have V1:=Am_ (Kd.cZ (Kd.bR V1.out) (fun k hk hlt=>hb.block k hlt))
 have B6:=Am_ (B6.out.moves (Moves.bN _ hb))
 have HT:=Am_ (HT.out.step hb.size (fun k _ hlt=>hb.block k hlt))
 have HM:=Am_ (HM.out.below hb)
 have Z4:=Am_ hz6
 clear hv hb HI hz6
 refine ⟨_,rfl,?_⟩
 refine hK.out _ _ ⟨(af B6.out.1 0).trans rfl,(af B6.out.1 1).trans rfl⟩ (fun hHeld=>?_)
 clear hK K_
 refine bT (a':=?_) ?_ ?_
 rotate_left; · show Act.put _ (some 39) _=_;simp only [Act.put,p1_,p2_,p3_,aI,aJ];rfl
 have y0:=(af B6.out.1 0).trans (rfl:_=some (Value.slice A n.length c))
 have y1:=(af B6.out.1 1).trans (rfl:_=some (Value.slice A1 n.length c1))
 have z0:=ah B6.out.1 0
 have z1:=ah B6.out.1 1
 refine cK (i:=7) none HT_ (by kernel_rfl) rfl rfl (by decide) (fun K_ hK=>?_)
 refine fJ (w1:=?_) (by rfl) rfl ?_ ?_
 rotate_left; · go_simp;rfl
 refine hK.out _ _ ?_
 clear hK K_
 refine fu [(8,some 41)] ?_
 (refine fq (v:=?_) (a':=?_) HT_ (by kernel_rfl) rfl rfl (fun _ _ _ h=>h) (Or.inl ⟨by rfl,?_⟩) ?_ ?_;rotate_left;(intro w';go_simp;with_reducible rfl);rotate_left;(simp only [Act.put,p1_,p2_,p3_,aI,aJ];rfl))
 refine bH ?_
 have HT:=Am_ (HT.out.step (w1:=sets w4 b6 [(0,(.slice A3 n.length c3))]) (by rw [iH];exact Nat.le_refl _) (fun k hk _=>dR (b:=b6) (by have:=HLT.out k hk;have:=E6.out;omega) [(0,(.slice A3 n.length c3))] w4))
 have HM:=Am_ (gu (b:=b6) (.inr (Nat.le_of_eq E6.out)) [(0,(.slice A3 n.length c3))] HM.out)
 have V1:=Am_ (Kd.cZ (Kd.bR V1.out) (fun k hk _=>dR (b:=b6) (by have:=hk.2.1;have:=Z3.out;omega) [(0,(.slice A3 n.length c3))] w4))
 have V2:=Am_ (Kd.cZ (Kd.bR V2.out) (fun k hk _=>dR (b:=b6) (by have:=hk.2.1;have:=Z4.out;omega) [(0,(.slice A3 n.length c3))] w4))
 have B6:=Am_ (B6.out.set 0 (.slice A3 n.length c3))
 clear y0 y1 z0 z1
 unfold sets sets at HT HM V1 V2
 generalize w4.setCell ⟨b6,0,none⟩ (.slice A3 n.length c3)=w5 at HT HM V1 V2 B6 ⊢
 have y1:=(af B6.out.1 1).trans (rfl:_=some (Value.slice A1 n.length c1))
 have z1:=ah B6.out.1 1
 refine cK (i:=9) none HT_ (by kernel_rfl) rfl rfl (by decide) (fun K_ hK=>?_)
 refine fJ (w1:=?_) (by rfl) rfl ?_ ?_
 rotate_left; · go_simp;rfl
 refine hK.out _ _ ?_
 clear hK K_
 have HT:=Am_ (HT.out.step (w1:=sets w5 b6 [(1,(.slice A4 i.length c4))]) (by rw [iH];exact Nat.le_refl _) (fun k hk _=>dR (b:=b6) (by have:=HLT.out k hk;have:=E6.out;omega) [(1,(.slice A4 i.length c4))] w5))
 have HM:=Am_ (gu (b:=b6) (.inr (Nat.le_of_eq E6.out)) [(1,(.slice A4 i.length c4))] HM.out)
 have V1:=Am_ (Kd.cZ (Kd.bR V1.out) (fun k hk _=>dR (b:=b6) (by have:=hk.2.1;have:=Z3.out;omega) [(1,(.slice A4 i.length c4))] w5))
 have V2:=Am_ (Kd.cZ (Kd.bR V2.out) (fun k hk _=>dR (b:=b6) (by have:=hk.2.1;have:=Z4.out;omega) [(1,(.slice A4 i.length c4))] w5))
 have B6:=Am_ (B6.out.set 1 (.slice A4 i.length c4))
 clear y1 z1
 unfold sets sets at HT HM V1 V2
 generalize w5.setCell ⟨b6,1,none⟩ (.slice A4 i.length c4)=w6 at HT HM V1 V2 B6 ⊢
 refine dN (bQ HT_.out (by kernel_rfl)) ?_
 go_upto_region 4 with fail
 refine bP (n:=13) (S:=fun w'=>w'.cell? ⟨p,0,none⟩=some (.slice Ar t.l.length cr)∧w'.cell? ⟨b6,0,none⟩=some (.slice A3 n.length c3)∧w'.cell? ⟨b6,1,none⟩=some (.slice A4 i.length c4)∧w'.cell? ⟨b6,2,none⟩=some (.int .i64 kp)∧w'.cell? ⟨b6,3,none⟩=some (.int .i64 wy)∧w'.cell? ⟨b6,4,none⟩=some (.int .i64 od)∧w'.cell? ⟨b6,5,none⟩=some (.int .i64 nw)) (ds:= [9,12]) (by kernel_rfl) rfl BF wo ⟨(af HT.out.box 0).trans rfl,(af B6.out.1 0).trans rfl,(af B6.out.1 1).trans rfl,(af B6.out.1 2).trans rfl,(af B6.out.1 3).trans rfl,(af B6.out.1 4).trans rfl,(af B6.out.1 5).trans rfl⟩ (fun hHeld HT_ HW_=>?_)
 have B6:=Am_ (B6.out.moves (Moves.drew (Moves.refl _ _)))
 have HT:=Am_ (HT.out.step (w1:=w6.drew) (Nat.le_refl _) (fun _ _ _=>rfl))
 have HM:=Am_ (HM.out.drew)
 have V1:=Am_ (Kd.cZ (w1:=w6.drew) V1.out (fun _ _ _=>rfl))
 have V2:=Am_ (Kd.cZ (w1:=w6.drew) V2.out (fun _ _ _=>rfl))
 generalize World.drew _=w6 at B6 HT HM V1 V2 hHeld ⊢
 refine fu [(0,some 42),(1,some 43),(2,some 44),(3,some 45),(4,some 46),(5,some 47),(6,some 48)] ?_
 iterate 4 (refine fq (v:=?_) (a':=?_) HT_ (by kernel_rfl) rfl rfl (fun _ _ _ h=>h) (Or.inl ⟨by rfl,?_⟩) ?_ ?_;rotate_left;(intro w';go_simp;with_reducible rfl);rotate_left;(simp only [Act.put,p1_,p2_,p3_,aI,aJ];rfl))
 iterate 3 (refine jm (v:=?_) (a':=?_) HT_ HW_ (by kernel_rfl) rfl rfl (fun _ _ _ h=>h) hHeld (Or.inl ⟨by rfl,?_⟩) ?_ ?_;rotate_left;(rintro w' ⟨s0,s1,s2,s3,s4,s5,s6⟩;go_simp;with_reducible rfl);rotate_left;(simp only [Act.put,p1_,p2_,p3_,aI,aJ];rfl))
 refine bH ?_
 refine eu (i:=7) (some 49) HT_ (by kernel_rfl) rfl rfl (by decide) (fun K_ hK=>?_)
 refine gJ (v:= .pointer (some ⟨w6.heap.size,0,none⟩)) (w1:=w6.alloc (.cells #[.slice A3 n.length c3,.slice A4 i.length c4,.int .i64 kp,.int .i64 wy,.int .i64 od,.int .i64 nw,.int .u8 1,.bool false] 289)) (by rfl) rfl ?hbx ?_
 (case hbx=>go_simp;first | done | rfl)
 have HT7:=Am_ (HT.out.step (w1:=w6.alloc (.cells #[.slice A3 n.length c3,.slice A4 i.length c4,.int .i64 kp,.int .i64 wy,.int .i64 od,.int .i64 nw,.int .u8 1,.bool false] 289)) (by simp) (fun k _ hlt=>Below.heap_alloc _ _ _ hlt))
 have HM7:=Am_ (HM.out.alloc (.cells #[.slice A3 n.length c3,.slice A4 i.length c4,.int .i64 kp,.int .i64 wy,.int .i64 od,.int .i64 nw,.int .u8 1,.bool false] 289))
 have B7:=Am_ (B6.out.alloc (.cells #[.slice A3 n.length c3,.slice A4 i.length c4,.int .i64 kp,.int .i64 wy,.int .i64 od,.int .i64 nw,.int .u8 1,.bool false] 289))
 have V17:=Am_ (Kd.cZ (Kd.bR V1.out) (w1:=w6.alloc (.cells #[.slice A3 n.length c3,.slice A4 i.length c4,.int .i64 kp,.int .i64 wy,.int .i64 od,.int .i64 nw,.int .u8 1,.bool false] 289)) (fun k _ hlt=>Below.heap_alloc _ _ _ hlt))
 have V27:=Am_ (Kd.cZ (Kd.bR V2.out) (w1:=w6.alloc (.cells #[.slice A3 n.length c3,.slice A4 i.length c4,.int .i64 kp,.int .i64 wy,.int .i64 od,.int .i64 nw,.int .u8 1,.bool false] 289)) (fun k _ hlt=>Below.heap_alloc _ _ _ hlt))
 have G7:=Am_ (dw w6 (.cells #[.slice A3 n.length c3,.slice A4 i.length c4,.int .i64 kp,.int .i64 wy,.int .i64 od,.int .i64 nw,.int .u8 1,.bool false] 289))
 have E7:ay (w6.heap.size<(w6.alloc (.cells #[.slice A3 n.length c3,.slice A4 i.length c4,.int .i64 kp,.int .i64 wy,.int .i64 od,.int .i64 nw,.int .u8 1,.bool false] 289)).heap.size):=⟨by simp⟩
 have E8:ay (b6<w6.heap.size):=⟨B6.out.lt⟩
 have hHeld8:=(show (w6.alloc (.cells #[.slice A3 n.length c3,.slice A4 i.length c4,.int .i64 kp,.int .i64 wy,.int .i64 od,.int .i64 nw,.int .u8 1,.bool false] 289)).cell? ⟨p,0,none⟩=some (.slice Ar t.l.length cr)∧(w6.alloc (.cells #[.slice A3 n.length c3,.slice A4 i.length c4,.int .i64 kp,.int .i64 wy,.int .i64 od,.int .i64 nw,.int .u8 1,.bool false] 289)).cell? ⟨b6,0,none⟩=some (.slice A3 n.length c3)∧(w6.alloc (.cells #[.slice A3 n.length c3,.slice A4 i.length c4,.int .i64 kp,.int .i64 wy,.int .i64 od,.int .i64 nw,.int .u8 1,.bool false] 289)).cell? ⟨b6,1,none⟩=some (.slice A4 i.length c4)∧(w6.alloc (.cells #[.slice A3 n.length c3,.slice A4 i.length c4,.int .i64 kp,.int .i64 wy,.int .i64 od,.int .i64 nw,.int .u8 1,.bool false] 289)).cell? ⟨b6,2,none⟩=some (.int .i64 kp)∧(w6.alloc (.cells #[.slice A3 n.length c3,.slice A4 i.length c4,.int .i64 kp,.int .i64 wy,.int .i64 od,.int .i64 nw,.int .u8 1,.bool false] 289)).cell? ⟨b6,3,none⟩=some (.int .i64 wy)∧(w6.alloc (.cells #[.slice A3 n.length c3,.slice A4 i.length c4,.int .i64 kp,.int .i64 wy,.int .i64 od,.int .i64 nw,.int .u8 1,.bool false] 289)).cell? ⟨b6,4,none⟩=some (.int .i64 od)∧(w6.alloc (.cells #[.slice A3 n.length c3,.slice A4 i.length c4,.int .i64 kp,.int .i64 wy,.int .i64 od,.int .i64 nw,.int .u8 1,.bool false] 289)).cell? ⟨b6,5,none⟩=some (.int .i64 nw) from ⟨(af HT7.out.box 0).trans rfl,(af B7.out.1 0).trans rfl,(af B7.out.1 1).trans rfl,(af B7.out.1 2).trans rfl,(af B7.out.1 3).trans rfl,(af B7.out.1 4).trans rfl,(af B7.out.1 5).trans rfl⟩)
 clear HT HM V1 V2 B6
 refine hK.out _ _ hHeld8 (fun hHeld=>?_)
 clear hK K_ hHeld8
 generalize w6.alloc (.cells #[.slice A3 n.length c3,.slice A4 i.length c4,.int .i64 kp,.int .i64 wy,.int .i64 od,.int .i64 nw,.int .u8 1,.bool false] 289)=w7 at HT7 HM7 B7 V17 V27 G7 E7 hHeld ⊢
 generalize w6.heap.size=g at V17 V27 G7 E7 E8 hHeld ⊢
 refine bT (a':=?_) ?_ ?_
 rotate_left; · show Act.put _ (some 49) _=_;simp only [Act.put,p1_,p2_,p3_,aI,aJ];rfl
 refine eu (i:=8) (some 50) HT_ (by kernel_rfl) rfl rfl (by decide) (fun K_ hK=>?_)
 refine gJ (v:= .slice (some ⟨w7.heap.size,0,none⟩) 1 1) (w1:=w7.alloc (.cells #[.pointer (some ⟨g,0,none⟩)] 287)) (by rfl) rfl ?hbs ?_
 (case hbs=>go_simp;first | done | rfl)
 refine hK.out _ _ ⟨ax (ai (Below.refl _ _) _) hHeld.1,ax (ai (Below.refl _ _) _) hHeld.2.1,ax (ai (Below.refl _ _) _) hHeld.2.2.1,ax (ai (Below.refl _ _) _) hHeld.2.2.2.1,ax (ai (Below.refl _ _) _) hHeld.2.2.2.2.1,ax (ai (Below.refl _ _) _) hHeld.2.2.2.2.2.1,ax (ai (Below.refl _ _) _) hHeld.2.2.2.2.2.2⟩ (fun hHeld=>?_)
 clear hK K_
 refine bT (a':=?_) ?_ ?_
 rotate_left; · show Act.put _ (some 50) _=_;simp only [Act.put,p1_,p2_,p3_,aI,aJ];rfl
 refine cK (i:=9) (some 51) HT_ (by kernel_rfl) rfl rfl (by decide) (fun K_ hK=>?_)
 refine Kd.iQ (Kd.raw 1) (w0:=w7) 0 (by rfl) (.tmp 46) (.tmp 50) 166 287 (.pointer none) 8 rfl Tryz.underlying166 CW rfl (by decide) (by decide) (.slice Ar t.l.length cr) ((List.range t.l.length).map fun i=> [Value.pointer (some ⟨eb i,0,none⟩)]) [Value.pointer (some ⟨g,0,none⟩)] [Value.pointer (some ⟨g,0,none⟩)] (fun k=>(ok k∧ρ k=1)∨w7.heap.size≤k) (fun _=>False) rfl rfl ⟨rfl,rfl,fun u hu=>by rw [List.mem_singleton.1 hu];rfl⟩ (fun _ hk=>hk.elim) (fun k hk=> .inr hk) (Kd.bg HT7.out.row (fun k hk=> .inl hk)) (Below.refl _ _) (Nat.zero_le _) (by rw [List.length_map,List.length_range];have:=HL.out.2;omega) ?_
 intro v9 w9 ho hb9 hg hat
 obtain ⟨A9,c9,rfl⟩:=Kd.aV ho
 have hle:(((List.range t.l.length).map fun i=> [Value.pointer (some ⟨eb i,0,none⟩)])++ [[Value.pointer (some ⟨g,0,none⟩)]]).length=t.l.length+1:=by simp
 have hne:some p≠(Value.slice Ar t.l.length cr).ownBlock:=fun e=>by have:=(HT7.out.row.1 p e.symm).2;rw [HT7.out.role] at this;cases this
 have z0:w9.frozen? ⟨p,0,none⟩=false:=ah (bG HT7.out.box hg hne) 0
 have c0:=(af (bG HT7.out.box hg hne) 0).trans (rfl:_=some (Value.slice Ar t.l.length cr))
 have HP:=Am_ (HT7.out.push (e:=⟨⟨n,i,kp,wy,od,nw⟩,1,false⟩) (N0:=w.heap.size) HLT.out (by have:=E8.out;have:=E6.out;omega) E7.out G7.out ⟨A3,c3,rfl,(Kd.bS V17.out).2.1,Kd.dH (Kd.R_F V17.out) (fun k hk=>by have:=hk.2.1;have:=hk.2.2;have:=E6.out;have:=Z3.out;omega)⟩ ⟨A4,c4,rfl,(Kd.bS V27.out).2.1,Kd.dH (Kd.R_F V27.out) (fun k hk=>by have:=hk.2.1;have:=hk.2.2;have:=E6.out;have:=Z4.out;omega)⟩ hg ho)
 have HMG:=Am_ ((HM7.out.grown hg (fun k hk=>(.inl (HT7.out.row.1 k hk).1))).set (p:=⟨p,0,none⟩) (.inl HT7.out.own) (.slice A9 (((List.range t.l.length).map fun i=> [Value.pointer (some ⟨eb i,0,none⟩)])++ [[Value.pointer (some ⟨g,0,none⟩)]]).length c9))
 have HSZ:ay (w.heap.size≤w9.heap.size):=⟨Nat.le_trans (Nat.le_trans HM7.out.size hg.size) (Nat.le_refl _)⟩
 rw [hle] at HP HMG ⊢
 clear ho hg hat hb9 hle hne HT7 HM7 V17 V27 G7 B7
 refine hK.out _ _ ?_
 clear hK K_
 refine bT (a':=?_) ?_ ?_
 rotate_left; · show Act.put _ (some 51) _=_;simp only [Act.put,p1_,p2_,p3_,aI,aJ];rfl
 refine fu [(10,some 52),(11,some 53)] ?_
 iterate 2 (refine fq (v:=?_) (a':=?_) HT_ (by kernel_rfl) rfl rfl (fun _ _ _ h=>h) (Or.inl ⟨by rfl,?_⟩) ?_ ?_;rotate_left;(intro w';go_simp;with_reducible rfl);rotate_left;(simp only [Act.put,p1_,p2_,p3_,aI,aJ];rfl))
 refine bH ?_
 refine cK (i:=12) none HT_ (by kernel_rfl) rfl rfl (by decide) (fun K_ hK=>?_)
 refine fJ (w1:=?_) (by rfl) rfl ?_ ?_
 rotate_left; · go_simp;rfl
 refine hK.out _ _ ?_
 clear hK K_
 generalize w9.setCell ⟨p,0,none⟩ (.slice A9 (t.l.length+1) c9)=w10 at HP HMG ⊢
 refine dN (bQ HT_.out (by kernel_rfl)) ?_
 obtain ⟨A10,c10,e10⟩:=Kd.aV HP.out.row
 have c0:=(af HP.out.box 0).trans (rfl:_=some (Value.slice A9 (t.l.length+1) c9))
 clear e10
 go_wp2_with fail
 go_ret2
 refine ⟨rfl,_,⟨_,_,_,_,_,HP.out⟩,HMG.out.owns (fun k hk=>hk.imp id (fun h=>h.1))⟩
def Ep.leave (x:Ep) (t r n:Int):Ep:=if x.has t then { x with limbo:=x.limbo.set t.toNat (x.limbo.getD t.toNat []++ [(r,n)]) } else x
theorem Ep.Good.leave {x:Ep} (h:x.Good) (t r n:Int):(x.leave t r n).Good:=by
 unfold Ep.leave
 split
 ·exact ⟨h.few⟩
 ·exact h
structure kF (i:Nat) (ok:Nat→Prop) (p:Nat) (sv lv:Value) (gv:Nat→Value) (ρ:Nat→Nat) (t:Ep) (w:World):Prop where
 own:ok p
 role:ρ p=0
 lt: ∀ k,ok k→k<w.heap.size
 len:t.limbo.length=t.said.length
 box:w.heap[p]?=some (.cells #[.int .i64 t.now,sv,lv] 129 (0,0))
 said:(Kd.int .i64).R 2 w 0 (fun k=>ok k∧ρ k=1) sv t.said
 row:(Kd.raw 1).R 130 w 0 (fun k=>ok k∧ρ k=2) lv ((List.range t.limbo.length).map fun i=> [gv i])
 limbo: ∀ (j:Nat) (l:List (Int × Int)),j≠i→t.limbo[j]?=some l→dZ.Q 297 w 0 (fun k=>ok k∧ρ k=3+j) (gv j) l
theorem eY.grows {ok:Nat→Prop} {p i:Nat} {sv lv:Value} {gv:Nat→Value} {ρ:Nat→Nat} {x:Ep} {W w1:World} (h:eY ok p sv lv gv ρ x W) (hi:i<x.limbo.length) (hg:W.grownBy w1 (gv i).ownBlock):
  kF i (fun k=>ok k∨(W.heap.size≤k∧k<w1.heap.size)) p sv lv gv (fun k=>if k<W.heap.size then ρ k else 3+i) x w1:=by
 obtain ⟨li,hli⟩: ∃ l,x.limbo[i]?=some l:=⟨_,List.getElem?_eq_getElem hi⟩
 have hown:=(h.limbo i li hli).1
 have hmove: ∀ r,r≠3+i→ ∀ k,(ok k∧ρ k=r)→k<W.heap.size→w1.heap[k]?=W.heap[k]?:=fun r hr k hk hlt=>hg.block k hlt (fun e=>by have:=(hown k e.symm).2;rw [hk.2] at this;exact hr this)
 have hup: ∀ r k,(ok k∧ρ k=r)→((ok k∨(W.heap.size≤k∧k<w1.heap.size))∧(if k<W.heap.size then ρ k else 3+i)=r):=fun r k hk=>⟨.inl hk.1,by rw [if_pos (h.lt k hk.1)];exact hk.2⟩
 exact {
  own:= .inl h.own
  role:=by rw [if_pos (h.lt p h.own)];exact h.role
  lt:=fun k hk=>hk.elim (fun hk=>Nat.lt_of_lt_of_le (h.lt k hk) hg.size) (fun hk=>hk.2)
  len:=h.len
  box:=bG h.box hg (fun e=>by have:=(hown p e.symm).2;rw [h.role] at this;omega)
  said:=Kd.bg (Kd.cZ (Kd.bR h.said) (fun k hk hlt=>hmove 1 (by omega) k hk.1 hlt)) (fun k hk=>hup 1 k hk.1)
  row:=Kd.bg (Kd.cZ (Kd.bR h.row) (fun k hk hlt=>hmove 2 (by omega) k hk.1 hlt)) (fun k hk=>hup 2 k hk.1)
  limbo:=fun j l hj hl=>Kd.lU (Kd.jV (h.limbo j l hl) (fun k hk hlt=>hmove (3+j) (by omega) k hk hlt)) (fun k hk=>hup (3+j) k hk) }
theorem kF.ja {ib:Nat} {ok:Nat→Prop} {p n c:Nat} {A:Option Addr} {sv:Value} {gv:Nat→Value} {ρ:Nat→Nat} {x:Ep} {w:World} (h:kF ib ok p sv (.slice A n c) gv ρ x w) (i:Int) (h0:0≤i) (h1:i<x.limbo.length):
  n=x.limbo.length∧ ∃ g,A=some ⟨g,0,none⟩∧ok g∧ρ g=2∧w.cell? ⟨g,i.toNat,none⟩=some (gv i.toNat)∧w.frozen? ⟨g,i.toNat,none⟩=false:=by
 have hr:=(Kd.bS h.row).1
 have hn:n=x.limbo.length:=by rw [hr];simp
 obtain ⟨g,cap,e1,_⟩:=Kd.lX h.row (by simp;omega)
 injection e1 with e1 e2 _
 refine ⟨hn,g,e1,?_⟩
 subst e1
 obtain ⟨cs,_,hM,hcc,hfz⟩:=Kd.lW h.row [] i h0 (by omega)
 have hg:=h.row.1 g (by simp [Value.ownBlock])
 have hM':=hM.1
 rw [List.getD_eq_getElem?_getD,List.getElem?_map,List.getElem?_range (by omega)] at hM'
 simp only [Option.map_some,Option.getD_some] at hM'
 have e:=hcc 0 (gv i.toNat) (by rw [hM'];rfl)
 have f:=hfz 0
 rw [show (Kd.raw 1).sz=1 from rfl,Nat.mul_one,Nat.add_zero] at e f
 exact ⟨hg.1,hg.2,by simpa using e,by simpa using f⟩
theorem kF.turn {i:Nat} {ok:Nat→Prop} {p g n c:Nat} {sv:Value} {gv:Nat→Value} {ρ:Nat→Nat} {x:Ep} {w:World} (h:kF i ok p sv (.slice (some ⟨g,0,none⟩) n c) gv ρ x w) (hi:i<x.limbo.length) (v1:Value) (h1:v1.oneCell'=true) (l1:List (Int × Int)) (hq:dZ.Q 297 w 0 (fun k=>ok k∧ρ k=3+i) v1 l1):
  eY ok p sv (.slice (some ⟨g,0,none⟩) n c) (fun j=>if j=i then v1 else gv j) ρ { x with limbo:=x.limbo.set i l1 } (w.setCell ⟨g,i,none⟩ v1):=by
 obtain ⟨hn,g0,e0,hg,hρ,hcc,hfz⟩:=h.ja (i:Int) (by omega) (by omega)
 injection e0 with e0
 injection e0 with e0 _ _
 subst e0
 rw [Int.toNat_natCast] at hcc hfz
 have hne: ∀ r,r≠2→ ∀ k,(ok k∧ρ k=r)→k≠g:=fun r hr k hk e=>by rw [e,hρ] at hk;exact hr hk.2.symm
 have hrow:=(Kd.yj (okp:=fun _=>False) h.row (i:Int) (by omega) (by omega) (c:= [gv i]) (seg:= [v1]) (j:=0) rfl (fun j u hu=>by
  cases j with
  | zero=>injection hu with hu;subst hu;simpa [Kd.raw] using hcc
  | succ j=>simp at hu) (by simp [Kd.raw]) (x':= [v1]) ⟨rfl,rfl,fun u hu=>by simp only [List.take_zero,List.nil_append,List.length_singleton,List.drop_succ_cons,List.drop_zero,List.append_nil,List.mem_cons,List.not_mem_nil,or_false] at hu;rw [hu];exact h1⟩ (fun k hk=>hk.elim)).1
 have hset:((List.range x.limbo.length).map fun i=> [gv i]).set (i:Int).toNat [v1]=(List.range (x.limbo.set i l1).length).map fun j=> [if j=i then v1 else gv j]:=by
  refine List.ext_getElem? fun j=>?_
  rw [Int.toNat_natCast,List.getElem?_set,List.length_set]
  by_cases hj:i=j
  ·subst hj
   simp [hi]
  ·rw [if_neg hj]
   simp only [List.getElem?_map]
   cases hs:(List.range x.limbo.length)[j]? with
   | none=>rfl
   | some q=>
    have hq:q=j:=by
     have:=(List.getElem?_eq_some_iff.1 hs).2
     simpa using this.symm
    subst hq
    simp [show ¬ q=i from fun e=>hj e.symm]
 rw [hset] at hrow
 have hrow':(Kd.raw 1).R 130 (w.setCells g i [v1]) 0 (fun k=>ok k∧ρ k=2) (.slice (some ⟨g,0,none⟩) n c) ((List.range (x.limbo.set i l1).length).map fun j=> [if j=i then v1 else gv j]):=by simpa [Kd.raw] using hrow
 exact {
  own:=h.own
  role:=h.role
  lt:=fun k hk=>by simpa [World.setCell] using h.lt k hk
  len:=by rw [List.length_set];exact h.len
  box:=dB h.box (p:=⟨g,i,none⟩) (fun e=>by rw [←show p=g from e,h.role] at hρ;cases hρ) _
  said:=Kd.cB h.said (p:=⟨g,i,none⟩) (hne 1 (by decide)) _
  row:=hrow'
  limbo:=fun j l hj=>by
   by_cases e:i=j
   ·subst e
    rw [List.getElem?_set_self hi] at hj
    injection hj with hj
    subst hj
    rw [if_pos rfl]
    exact Kd.pJ hq (p:=⟨g,i,none⟩) (hne (3+i) (by omega)) _
   ·rw [List.getElem?_set_ne e] at hj
    rw [if_neg (fun e1=>e e1.symm)]
    exact Kd.pJ (h.limbo j l (fun e1=>e e1.symm) hj) (p:=⟨g,i,none⟩) (hne (3+j) (by omega)) _ }
def yF:Bool × List (List Nat × List Nat):=(true,[([],[]),([0],[0]),([1],[1]),([2],[2]),([],[]),([],[]),([5],[5]),([6],[6]),([7],[7]),([],[]),([8,9],[8,9]),([10],[10]),([],[]),([],[]),([12,13],[12,13]),([14],[14]),([11,15],[11,15]),([3,4,0,1,2,3,4,5,6,7,8,9,10,11,12,13,14,15,16],[3,4]),([17,16,16,0,1,2,3,4,5,6,7,8,9,10,11,12,13,14,15,16],[16,17])])
def Fz:List Nat:= [0,1,3,7,0,0,32,96,224,0,992,2016,0,0,12288,28672,65504,131071,262143]
theorem Bz:fG .any (opsOf Tryz.f177 1)=yF:=by kernel_rfl
theorem vZ:bM yF.2 Fz=true:=by kernel_rfl
theorem zS:(Tryz.prog.info? 297).map (fun i=>(i.zero,i.size,i.bytes))=some (some (.agg #[.int .i64 0,.int .i64 0]),2,16):=by kernel_rfl
theorem Gs (w:World) (base:Nat) (ok:Nat→Prop) (r n:Int):dZ.M w base ok (r,n) [.int .i64 r,.int .i64 n]:=⟨[.int .i64 r],[.int .i64 n],rfl,rfl,rfl⟩
structure FO (ok:Nat→Prop) (p:Nat) (x1:Ep) (w:World) (e:Ending) (w1:World):Prop where
 val:e= .returned (.tuple #[])
 out: ∃ ok1,dL ok1 p x1 w1∧Moves ok ok1 w w1
theorem CO {ok:Nat→Prop} {p:Nat} {x:Ep} (t r n:Int) (w:World) (h:dL ok p x w) (hg:x.Good) (hl:(x.limbo.getD t.toNat []).length<1000000):
  Calls Tryz.prog 177 #[.pointer (some ⟨p,0,none⟩),.int .i64 t,.int .i64 r,.int .i64 n] w (FO ok p (x.leave t r n) w):=by
 have HIN:=Am_ (qV t w h hg)
 cases hh:x.has t with
 | false=>
  have e1:x.leave t r n=x:=by simp [Ep.leave,hh]
  rw [e1]
  have HI:=Am_ h
  have HH:=Am_ hh
  clear h hg hh e1 hl
  go_enter Tryz.func177,Tryz.ntmps177
  go_wp2_with (go_at_call 192;refine HIN.out.mono ?_;rintro e w1 ⟨rfl,rfl⟩;rw [HH.out])
  go_end0
  exact ⟨rfl,ok,HI.out,Moves.refl _ _⟩
 | true=>
  obtain ⟨sv,lv,gv,ρ,h⟩:=h
  have hh2:=hh
  unfold Ep.has at hh2
  rw [Bool.and_eq_true] at hh2
  obtain ⟨i,rfl⟩: ∃ i:Nat,t=(i:Int):=⟨t.toNat,by have:=of_decide_eq_true hh2.1;omega⟩
  have hi:i<x.limbo.length:=by have:=of_decide_eq_true hh2.2;rw [h.len];omega
  have e1:x.leave (i:Int) r n= { x with limbo:=x.limbo.set i (x.limbo.getD i []++ [(r,n)]) }:=by simp [Ep.leave,hh]
  rw [e1]
  rw [Int.toNat_natCast] at hl
  have hli:x.limbo[i]?=some (x.limbo.getD i []):=by rw [List.getD_eq_getElem?_getD,List.getElem?_eq_getElem hi,Option.getD_some]
  obtain ⟨A,cr,rfl⟩:=Kd.aV h.row
  have hll:((List.range x.limbo.length).map fun i=> [gv i]).length=x.limbo.length:=by simp
  rw [hll] at h
  obtain ⟨hn,g,rfl,hg1,hg2,d2,z2⟩:=h.ja (i:Int) (by omega) (by omega)
  rw [Int.toNat_natCast] at d2 z2
  obtain ⟨Ag,cg,egv,_⟩:=Kd.kY (h.limbo i _ hli)
  rw [egv] at d2
  have HQ:=Am_ (h.limbo i _ hli)
  rw [egv] at HQ
  generalize hxl:x.limbo.getD i []=l at hl d2 HQ egv ⊢
  have HE:=Am_ egv
  have HLL:=Am_ hl
  have HI:=Am_ h
  have HH:=Am_ hh
  have hgp:g≠p:=fun e=>by rw [e] at hg2;have:=h.role;rw [hg2] at this;cases this
  have HNE:=Am_ hgp
  have b1:(0:Int)≤(i:Int):=by omega
  have b2:(i:Int)<(x.limbo.length:Int):=by omega
  have b3:i<x.limbo.length:=hi
  have HII:=Am_ hi
  have HG:=Am_ hg1
  have HG2:=Am_ hg2
  have cp:=(af h.box 2).trans (rfl:_=some (Value.slice (some ⟨g,0,none⟩) x.limbo.length cr))
  clear h hg hh hh2 e1 hli hll hn egv hxl hl hg1 hg2 hi hgp
  go_enter Tryz.func177,Tryz.ntmps177
  go_upto_region 1 with (go_at_call 192;refine HIN.out.mono ?_;rintro e w1 ⟨rfl,rfl⟩;rw [HH.out])
  refine bP (n:=19) (S:=fun w'=>w'.cell? ⟨p,2,none⟩=some (.slice (some ⟨g,0,none⟩) x.limbo.length cr)∧w'.cell? ⟨g,i,none⟩=some (.slice Ag l.length cg)) (ds:= [18]) (by kernel_rfl) rfl Bz vZ ⟨cp,d2⟩ (fun hHeld HT_ HW_=>?_)
  have HI:=Am_ (HI.out.step (w1:=w1.drew) (Nat.le_refl _) (fun _ _ _=>rfl))
  have HQ:=Am_ (Kd.jV (w1:=w1.drew) HQ.out (fun _ _ _=>rfl))
  have HM:=Am_ ((Moves.refl ok w1).drew)
  have z2:w1.drew.frozen? ⟨g,i,none⟩=false:=z2
  clear cp d2
  generalize hw2:w1.drew=w2 at HI HQ HM z2 hHeld ⊢
  clear hw2
  refine fu [(0,some 11),(1,some 12),(2,some 13),(3,some 14),(4,some 15),(5,some 16),(6,some 17),(7,some 18),(8,some 19),(9,some 20),(10,some 21),(11,some 22),(12,some 23),(13,some 24),(14,some 25)] ?_
  iterate 3 (refine fq (v:=?_) (a':=?_) HT_ (by kernel_rfl) rfl rfl (fun _ _ _ h=>h) (Or.inl ⟨by rfl,?_⟩) ?_ ?_;rotate_left;(intro w';go_simp;with_reducible rfl);rotate_left;(simp only [Act.put,p1_,p2_,p3_,aI,aJ];rfl))
  iterate 12 (refine jm (v:=?_) (a':=?_) HT_ HW_ (by kernel_rfl) rfl rfl (fun _ _ _ h=>h) hHeld (Or.inl ⟨by rfl,?_⟩) ?_ ?_;rotate_left;(rintro w' ⟨s0,s1⟩;go_simp;with_reducible rfl);rotate_left;(simp only [Act.put,p1_,p2_,p3_,aI,aJ];rfl))
  refine bH ?_
  refine eu (i:=15) (some 26) HT_ (by kernel_rfl) rfl rfl (by decide) (fun K_ hK=>?_)
  refine gJ (v:= .slice (some ⟨w2.heap.size,0,none⟩) 1 1) (w1:=w2.alloc (.cells #[.int .i64 r,.int .i64 n] 297)) (by rfl) rfl ?hbs ?_
  (case hbs=>go_simp;first | done | rfl)
  refine hK.out _ _ ⟨ax (ai (Below.refl _ _) _) hHeld.1,ax (ai (Below.refl _ _) _) hHeld.2⟩ (fun hHeld=>?_)
  clear hK K_
  refine bT (a':=?_) ?_ ?_
  rotate_left; · show Act.put _ (some 26) _=_;simp only [Act.put,p1_,p2_,p3_,aI,aJ];rfl
  refine eu (i:=16) (some 27) HT_ (by kernel_rfl) rfl rfl (by decide) (fun K_ hK=>?_)
  refine Kd.kG dZ (w0:=w2) 0 (by rfl) (.tmp 22) (.tmp 26) 130 297 (.agg #[.int .i64 0,.int .i64 0]) 16 rfl Tryz.underlying130 zS rfl (by decide) (by decide) (.slice Ag l.length cg) l (r,n) [.int .i64 r,.int .i64 n] (fun k=>(ok k∧ρ k=3+i)∨w2.heap.size≤k) (fun _=>False) rfl rfl (Gs _ _ _ r n) (fun _ hk=>hk.elim) (fun k hk=> .inr hk) (Kd.lU HQ.out (fun k hk=> .inl hk)) (Below.refl _ _) (Nat.zero_le _) (by have:=HLL.out;omega) ?_
  intro v9 w9 ho hb9 hg hat
  have hle:(l++ [(r,n)]).length=l.length+1:=by simp
  obtain ⟨A9,c9,rfl,_⟩:=Kd.kY ho
  rw [hle] at ho hat ⊢
  rw [←HE.out] at hg
  have HB:=Am_ (HI.out.grows HII.out hg)
  have HQ9:=Am_ (Kd.lU (ok':=fun k=>(ok k∨(w2.heap.size≤k∧k<w9.heap.size))∧(if k<w2.heap.size then ρ k else 3+i)=3+i) (Kd.pI ho) (fun k hk=>by
   rcases hk.1 with h1 | h1
   ·exact ⟨.inl h1.1,by rw [if_pos (HI.out.lt k h1.1)];exact h1.2⟩
   ·exact ⟨.inr ⟨h1,hk.2.2.1⟩,by rw [if_neg (by omega)]⟩))
  have HMG:=Am_ (HM.out.grown hg (fun k hk=>by
   rw [HE.out] at hk
   exact .inl (HQ.out.1 k hk).1))
  obtain ⟨_,g',e',_,_,d9,z9⟩:=HB.out.ja (i:Int) b1 b2
  injection e' with e'
  injection e' with e' _ _
  subst e'
  rw [Int.toNat_natCast,HE.out] at d9
  rw [Int.toNat_natCast] at z9
  have cp9:=(af HB.out.box 2).trans (rfl:_=some (Value.slice (some ⟨g,0,none⟩) x.limbo.length cr))
  clear ho hg hat hb9 hle
  refine hK.out _ _ ⟨cp9,d9⟩ (fun hHeld=>?_)
  clear hK K_ cp9
  refine bT (a':=?_) ?_ ?_
  rotate_left; · show Act.put _ (some 27) _=_;simp only [Act.put,p1_,p2_,p3_,aI,aJ];rfl
  refine fu [(17,some 28)] ?_
  (refine fq (v:=?_) (a':=?_) HT_ (by kernel_rfl) rfl rfl (fun _ _ _ h=>h) (Or.inl ⟨by rfl,?_⟩) ?_ ?_;rotate_left;(intro w';go_simp;with_reducible rfl);rotate_left;(simp only [Act.put,p1_,p2_,p3_,aI,aJ];rfl))
  refine bH ?_
  refine cK (i:=18) none HT_ (by kernel_rfl) rfl rfl (by decide) (fun K_ hK=>?_)
  refine fJ (w1:=?_) (by rfl) rfl ?_ ?_
  rotate_left; · go_simp;rfl
  refine hK.out _ _ ?_
  clear hK K_
  refine dN (bQ HT_.out (by kernel_rfl)) ?_
  go_wp2_with fail
  go_end0
  have HF:=HB.out.turn b3 (.slice A9 (l.length+1) c9) rfl (l++ [(r,n)]) HQ9.out
  exact ⟨rfl,_,⟨_,_,_,_,HF⟩,(HMG.out.set (p:=⟨g,i,none⟩) (.inl HG.out) _).owns (fun k hk=>hk.imp id (fun h=>Nat.le_trans HM.out.size h.1))⟩
theorem NdF.mono {D D1:Nat→Prop} {n:Nd} {v:Value} {w:World} (h:NdF D n v w) (hk: ∀ k,D k→D1 k):NdF D1 n v w:=by
 obtain ⟨Ap,cp,Ak,ck,Ay,cy,e,h1,h2,h3,h4,h5,h6⟩:=h
 exact ⟨Ap,cp,Ak,ck,Ay,cy,e,h1,h2,h3,Kd.dH h4 hk,Kd.dH h5 hk,Kd.dH h6 hk⟩
theorem NdF.step {D:Nat→Prop} {n:Nd} {v:Value} {w w1:World} (h:NdF D n v w) (hm: ∀ k,D k→k<w.heap.size→w1.heap[k]?=w.heap[k]?):NdF D n v w1:=by
 obtain ⟨Ap,cp,Ak,ck,Ay,cy,e,h1,h2,h3,h4,h5,h6⟩:=h
 exact ⟨Ap,cp,Ak,ck,Ay,cy,e,h1,h2,h3,Kd.fV h4 hm,Kd.fV h5 hm,Kd.fV h6 hm⟩
theorem NdF.bound {D:Nat→Prop} {n:Nd} {v:Value} {w:World} (h:NdF D n v w):NdF (fun k=>D k∧k<w.heap.size) n v w:=by
 obtain ⟨Ap,cp,Ak,ck,Ay,cy,e,h1,h2,h3,h4,h5,h6⟩:=h
 exact ⟨Ap,cp,Ak,ck,Ay,cy,e,h1,h2,h3,Kd.eP h4,Kd.eP h5,Kd.eP h6⟩
theorem NdF.moves {ok ok1:Nat→Prop} {n:Nd} {v:Value} {w w1:World} (h:NdF (fun k=> ¬ ok k) n v w) (m:Moves ok ok1 w w1):NdF (fun k=> ¬ ok1 k) n v w1:=
 (h.bound.step (fun k hk hlt=>m.block k hlt hk.1)).mono (fun k hk h1=>(m.fresh k h1).elim hk.1 (fun h2=>by have:=hk.2;omega))
theorem wX {ok:Nat→Prop} {p:Nat} {t:Tb} (A:Option Addr) (c:Nat) (n:List Int) (A1:Option Addr) (c1:Nat) (i:List Int) (kp wy od nw:Int) (w:World) (h:IsTable ok p t w) (hg:t.Good) (hn:(Kd.int .i64).F w (fun k=> ¬ ok k) A n.length n) (hi:(Kd.int .i64).F w (fun k=> ¬ ok k) A1 n.length i) (hk:0≤kp) (hs:n.length<1000000) (hni:n.length=i.length):
  Calls Tryz.prog 174 #[.pointer (some ⟨p,0,none⟩),.agg #[.slice A n.length c,.slice A1 n.length c1,.int .i64 kp,.int .i64 wy,.int .i64 od,.int .i64 nw]] w (yc ok p (t.make ⟨n,i,kp,wy,od,nw⟩).1.1 (t.make ⟨n,i,kp,wy,od,nw⟩).1.2 (t.make ⟨n,i,kp,wy,od,nw⟩).2 w):=by
 unfold Tb.make
 by_cases hm:t.most≤t.l.length
 ·rw [if_pos (.inr (.inr hm))]
  exact Ac A c n A1 c1 i kp wy od nw w h hg hn hi hk hs hm
 ·rw [if_neg (fun e=>e.elim (fun e=>e hni) (fun e=>e.elim (fun e=>by have e1:kp<0:=e;omega) hm))]
  exact Ad A c n A1 c1 i kp wy od nw w h hg hn hi hk hs hm
def EL:Bool × List (List Nat × List Nat):=(true,[([],[]),([0],[0]),([1],[1]),([2],[2]),([3],[3]),([],[]),([4,5],[4,5]),([6],[6]),([7],[7]),([7],[7]),([8,6,0,1,2,3,4,5,6,7,8],[8]),([9,10,0,1,2,3,4,5,6,7,8,9,10],[9])])
def IQ:List Nat:= [0,1,3,7,15,0,63,127,255,255,511,2047]
theorem DY:fG .any (opsOf Tryz.f207 1)=EL:=by kernel_rfl
theorem zu:bM EL.2 IQ=true:=by kernel_rfl
theorem rZ (p:Nat) (x:Ws) (n:Nd) (r:Int) (b:Bool) (a1:Ar) (b0 b1:Bool) (Ap Ak Ay:Option Addr) (lp lk ly cp ck cy:Nat) (w:World) (okS:Nat→Prop) (bt bx:Nat) (h:shW p x okS w) (g0:w.cell? ⟨bt,1,none⟩=some (.pointer (some ⟨p,0,none⟩))) (g2:w.cell? ⟨bx,0,none⟩=some (.bool b0)) (g3:w.cell? ⟨bx,1,none⟩=some (.bool b1)) (g4:w.cell? ⟨bx,2,none⟩=some (.slice Ap lp cp)) (g5:w.cell? ⟨bx,3,none⟩=some (.slice Ak lk ck)) (g6:w.cell? ⟨bx,4,none⟩=some (.slice Ay ly cy)) (hn:NdF (fun k=> ¬ okS k) n (.agg #[.bool b0,.bool b1,.slice Ap lp cp,.slice Ak lk ck,.slice Ay ly cy]) w) (hs:n.Small) (hr:x.ar.alloc n=some ((r,b),a1)):
  Calls Tryz.prog 207 #[.pointer (some ⟨bt,0,none⟩),.pointer (some ⟨bx,0,none⟩)] w fun e w2=> ∃ okS1,e= .returned (.int .i64 r)∧shW p { x with ar:=a1 } okS1 w2∧Moves okS okS1 w w2:=by
 obtain ⟨⟨okA,okR,okE,pA,pR,pE,h⟩,hg⟩:=h
 have HW:=Am_ h
 have HG:=Am_ hg
 have hp:=(af h.box 0).trans (rfl:_=some (Value.pointer (some ⟨pA,0,none⟩)))
 have HN:=Am_ hn
 have HSM:=Am_ hs
 have HR:=Am_ hr
 have HC:=Am_ (And.intro g0 (And.intro hp (And.intro g2 (And.intro g3 (And.intro g4 (And.intro g5 g6))))))
 clear h hg hp g0 g2 g3 g4 g5 g6 hn hs hr
 go_enter Tryz.func207,Tryz.ntmps207
 go_upto_region 1 with fail
 refine bP (n:=12) (S:=fun w'=>w'.cell? ⟨bt,1,none⟩=some (.pointer (some ⟨p,0,none⟩))∧w'.cell? ⟨p,0,none⟩=some (.pointer (some ⟨pA,0,none⟩))∧w'.cell? ⟨bx,0,none⟩=some (.bool b0)∧w'.cell? ⟨bx,1,none⟩=some (.bool b1)∧w'.cell? ⟨bx,2,none⟩=some (.slice Ap lp cp)∧w'.cell? ⟨bx,3,none⟩=some (.slice Ak lk ck)∧w'.cell? ⟨bx,4,none⟩=some (.slice Ay ly cy)) (ds:= [6]) (by kernel_rfl) rfl DY zu HC.out (fun hHeld HT_ HW_=>?_)
 have HW:=Am_ (HW.out.step (w1:=w.drew) (Nat.le_refl _) (fun _ _ _=>rfl))
 have HM:=Am_ ((Moves.refl okS w).drew)
 have HN:=Am_ (HN.out.step (w1:=w.drew) (fun _ _ _=>rfl))
 clear HC
 generalize World.drew _=w1 at HW HM hHeld HN ⊢
 refine fu [(0,some 6),(1,some 7),(2,some 8),(3,some 9),(4,some 10),(5,some 11)] ?_
 (refine fq (v:=?_) (a':=?_) HT_ (by kernel_rfl) rfl rfl (fun _ _ _ h=>h) (Or.inl ⟨by rfl,?_⟩) ?_ ?_;rotate_left;(intro w';go_simp;with_reducible rfl);rotate_left;(simp only [Act.put,p1_,p2_,p3_,aI,aJ];rfl))
 iterate 5 (refine jm (v:=?_) (a':=?_) HT_ HW_ (by kernel_rfl) rfl rfl (fun _ _ _ h=>h) hHeld (Or.inl ⟨by rfl,?_⟩) ?_ ?_;rotate_left;(rintro w' ⟨s0,s1,s2,s3,s4,s5,s6⟩;go_simp;with_reducible rfl);rotate_left;(simp only [Act.put,p1_,p2_,p3_,aI,aJ];rfl))
 refine bH ?_
 refine cK (i:=6) (some 12) HT_ (by kernel_rfl) rfl rfl (by decide) (fun K_ hK=>?_)
 refine call_ 93 #[.pointer (some ⟨pA,0,none⟩),.agg #[.bool b0,.bool b1,.slice Ap lp cp,.slice Ak lk ck,.slice Ay ly cy]] (by rfl) rfl ?hrun6 ?_
 (case hrun6=>first | (go_simp;done) | (go_simp;exact enters Tryz.func93 (by kernel_rfl) rfl _ _))
 refine (kg n _ _ HW.out.ar (by have:=HG.out.ar.most;have:=HG.out.ar.slots;omega) (HN.out.mono (fun k hk h=>hk ((HW.out.ok k).2 (.inr (.inl h))))) HSM.out HR.out).mono ?_
 rintro e w2 ⟨rfl,okA1,hA,hM⟩
 have X2:=Am_ hA
 have M2:=Am_ hM
 clear hA hM
 refine ⟨_,rfl,?_⟩
 refine hK.out _ _ ?_
 clear hK K_
 refine bT (a':=?_) ?_ ?_
 rotate_left; · show Act.put _ (some 12) _=_;simp only [Act.put,p1_,p2_,p3_,aI,aJ];rfl
 refine fu [(7,some 5),(8,some 13),(9,some 14),(10,some 3),(11,some 4)] ?_
 iterate 5 (refine fq (v:=?_) (a':=?_) HT_ (by kernel_rfl) rfl rfl (fun _ _ _ h=>h) (Or.inl ⟨by rfl,?_⟩) ?_ ?_;rotate_left;(intro w';go_simp;with_reducible rfl);rotate_left;(simp only [Act.put,p1_,p2_,p3_,aI,aJ];rfl))
 refine bH ?_
 refine dN (bQ HT_.out (by kernel_rfl)) ?_
 go_wp2_with fail
 go_ret
 exact ⟨_,rfl,⟨⟨_,_,_,_,_,_,(HW.out.dD X2.out M2.out).1⟩,⟨HG.out.ar.alloc HSM.out HR.out,HG.out.ep,HG.out.tb⟩⟩,HM.out.trans (HW.out.dD X2.out M2.out).2⟩
def yP:Bool × List (List Nat × List Nat):=(true,[([],[]),([0],[0]),([1],[1]),([2],[2]),([3],[3]),([],[]),([5],[5]),([],[]),([],[]),([4,6,7,8],[4,6,7,8])])
def FN:List Nat:= [0,1,3,7,15,0,32,0,0,511]
theorem BM:fG .any (opsOf Tryz.f176 1)=yP:=by kernel_rfl
theorem wG:bM yP.2 FN=true:=by kernel_rfl
theorem qz (p:Nat) (x:Ws) (me r n:Int) (w:World) (okS:Nat→Prop) (bt bx bn:Nat) (h:shW p x okS w) (g0:w.cell? ⟨bt,1,none⟩=some (.pointer (some ⟨p,0,none⟩))) (g2:w.cell? ⟨bt,2,none⟩=some (.int .i64 me)) (g3:w.cell? ⟨bx,0,none⟩=some (.int .i64 r)) (g4:w.cell? ⟨bn,0,none⟩=some (.int .i64 n)) (hl:(x.ep.limbo.getD me.toNat []).length<1000000):
  Calls Tryz.prog 176 #[.pointer (some ⟨bt,0,none⟩),.pointer (some ⟨bx,0,none⟩),.pointer (some ⟨bn,0,none⟩)] w fun e w2=> ∃ okS1,e= .returned (.int .i64 0)∧shW p { x with ep:=x.ep.leave me r n } okS1 w2∧Moves okS okS1 w w2:=by
 obtain ⟨⟨okA,okR,okE,pA,pR,pE,h⟩,hg⟩:=h
 have HW:=Am_ h
 have HG:=Am_ hg
 have hp:=(af h.box 2).trans (rfl:_=some (Value.pointer (some ⟨pE,0,none⟩)))
 have HL:=Am_ hl
 have HC:=Am_ (And.intro g0 (And.intro hp (And.intro g2 (And.intro g3 g4))))
 clear h hg hp g0 g2 g3 g4 hl
 go_enter Tryz.func176,Tryz.ntmps176
 go_upto_region 1 with fail
 refine bP (n:=10) (S:=fun w'=>w'.cell? ⟨bt,1,none⟩=some (.pointer (some ⟨p,0,none⟩))∧w'.cell? ⟨p,2,none⟩=some (.pointer (some ⟨pE,0,none⟩))∧w'.cell? ⟨bt,2,none⟩=some (.int .i64 me)∧w'.cell? ⟨bx,0,none⟩=some (.int .i64 r)∧w'.cell? ⟨bn,0,none⟩=some (.int .i64 n)) (ds:= [9]) (by kernel_rfl) rfl BM wG HC.out (fun hHeld HT_ HW_=>?_)
 have HW:=Am_ (HW.out.step (w1:=w.drew) (Nat.le_refl _) (fun _ _ _=>rfl))
 have HM:=Am_ ((Moves.refl okS w).drew)
 clear HC
 generalize World.drew _=w1 at HW HM hHeld ⊢
 refine fu [(0,some 4),(1,some 5),(2,some 6),(3,some 7),(4,some 8),(5,some 9),(6,some 10),(7,some 11),(8,some 12)] ?_
 (refine fq (v:=?_) (a':=?_) HT_ (by kernel_rfl) rfl rfl (fun _ _ _ h=>h) (Or.inl ⟨by rfl,?_⟩) ?_ ?_;rotate_left;(intro w';go_simp;with_reducible rfl);rotate_left;(simp only [Act.put,p1_,p2_,p3_,aI,aJ];rfl))
 iterate 8 (refine jm (v:=?_) (a':=?_) HT_ HW_ (by kernel_rfl) rfl rfl (fun _ _ _ h=>h) hHeld (Or.inl ⟨by rfl,?_⟩) ?_ ?_;rotate_left;(rintro w' ⟨s0,s1,s2,s3,s4⟩;go_simp;with_reducible rfl);rotate_left;(simp only [Act.put,p1_,p2_,p3_,aI,aJ];rfl))
 refine bH ?_
 refine cK (i:=9) (some 13) HT_ (by kernel_rfl) rfl rfl (by decide) (fun K_ hK=>?_)
 refine call_ 177 #[.pointer (some ⟨pE,0,none⟩),.int .i64 me,.int .i64 r,.int .i64 n] (by rfl) rfl ?hrun9 ?_
 (case hrun9=>first | (go_simp;done) | (go_simp;exact enters Tryz.func177 (by kernel_rfl) rfl _ _))
 refine (CO me r n _ HW.out.ep HG.out.ep HL.out).mono ?_
 rintro e w2 ⟨rfl,okE1,hA,hM⟩
 have X2:=Am_ hA
 have M2:=Am_ hM
 clear hA hM
 refine ⟨_,rfl,?_⟩
 refine hK.out _ _ ?_
 clear hK K_
 refine bT (a':=?_) ?_ ?_
 rotate_left; · show Act.put _ (some 13) _=_;simp only [Act.put,p1_,p2_,p3_,aI,aJ];rfl
 refine dN (bQ HT_.out (by kernel_rfl)) ?_
 go_wp2_with fail
 go_ret
 exact ⟨_,rfl,⟨⟨_,_,_,_,_,_,(HW.out.iV X2.out M2.out).1⟩,⟨HG.out.ar,HG.out.ep.leave me r n,HG.out.tb⟩⟩,HM.out.trans (HW.out.iV X2.out M2.out).2⟩
def yE:Bool × List (List Nat × List Nat):=(true,[([],[]),([0],[0]),([1],[1]),([2],[2]),([3],[3]),([],[]),([4,5],[4,5]),([6],[6]),([7],[7]),([7],[7]),([8,6,0,1,2,3,4,5,6,7,8],[8]),([9,10,0,1,2,3,4,5,6,7,8,9,10],[9])])
def Fy:List Nat:= [0,1,3,7,15,0,63,127,255,255,511,2047]
theorem Bw:fG .any (opsOf Tryz.f173 1)=yE:=by kernel_rfl
theorem vY:bM yE.2 Fy=true:=by kernel_rfl
theorem rV (p:Nat) (x:Ws) (A:Option Addr) (c:Nat) (n:List Int) (A1:Option Addr) (c1:Nat) (i:List Int) (kp wy od nw:Int) (w:World) (okS:Nat→Prop) (bt br:Nat) (h:shW p x okS w) (g0:w.cell? ⟨bt,1,none⟩=some (.pointer (some ⟨p,0,none⟩))) (g2:w.cell? ⟨br,0,none⟩=some (.slice A n.length c)) (g3:w.cell? ⟨br,1,none⟩=some (.slice A1 n.length c1)) (g4:w.cell? ⟨br,2,none⟩=some (.int .i64 kp)) (g5:w.cell? ⟨br,3,none⟩=some (.int .i64 wy)) (g6:w.cell? ⟨br,4,none⟩=some (.int .i64 od)) (g7:w.cell? ⟨br,5,none⟩=some (.int .i64 nw)) (hn:(Kd.int .i64).F w (fun k=> ¬ okS k) A n.length n) (hi:(Kd.int .i64).F w (fun k=> ¬ okS k) A1 n.length i) (hk:0≤kp) (hs:n.length<1000000) (hni:n.length=i.length):
  Calls Tryz.prog 173 #[.pointer (some ⟨bt,0,none⟩),.pointer (some ⟨br,0,none⟩)] w fun e w2=> ∃ okS1,e= .returned (.int .i64 (x.tb.make ⟨n,i,kp,wy,od,nw⟩).1.1)∧shW p { x with tb:=(x.tb.make ⟨n,i,kp,wy,od,nw⟩).2 } okS1 w2∧Moves okS okS1 w w2:=by
 obtain ⟨⟨okA,okR,okE,pA,pR,pE,h⟩,hg⟩:=h
 have HW:=Am_ h
 have HG:=Am_ hg
 have hp:=(af h.box 1).trans (rfl:_=some (Value.pointer (some ⟨pR,0,none⟩)))
 have HN:=Am_ hn
 have HI:=Am_ hi
 have HK:=Am_ hk
 have HS:=Am_ hs
 have HNI:=Am_ hni
 have HC:=Am_ (And.intro g0 (And.intro hp (And.intro g2 (And.intro g3 (And.intro g4 (And.intro g5 (And.intro g6 g7)))))))
 clear h hg hp g0 g2 g3 g4 g5 g6 g7 hn hi hk hs hni
 go_enter Tryz.func173,Tryz.ntmps173
 go_upto_region 1 with fail
 refine bP (n:=12) (S:=fun w'=>w'.cell? ⟨bt,1,none⟩=some (.pointer (some ⟨p,0,none⟩))∧w'.cell? ⟨p,1,none⟩=some (.pointer (some ⟨pR,0,none⟩))∧w'.cell? ⟨br,0,none⟩=some (.slice A n.length c)∧w'.cell? ⟨br,1,none⟩=some (.slice A1 n.length c1)∧w'.cell? ⟨br,2,none⟩=some (.int .i64 kp)∧w'.cell? ⟨br,3,none⟩=some (.int .i64 wy)∧w'.cell? ⟨br,4,none⟩=some (.int .i64 od)∧w'.cell? ⟨br,5,none⟩=some (.int .i64 nw)) (ds:= [6]) (by kernel_rfl) rfl Bw vY HC.out (fun hHeld HT_ HW_=>?_)
 have HW:=Am_ (HW.out.step (w1:=w.drew) (Nat.le_refl _) (fun _ _ _=>rfl))
 have HM:=Am_ ((Moves.refl okS w).drew)
 have HN:=Am_ (Kd.fV (W1:=w.drew) HN.out (fun _ _ _=>rfl))
 have HI:=Am_ (Kd.fV (W1:=w.drew) HI.out (fun _ _ _=>rfl))
 clear HC
 generalize World.drew _=w1 at HW HM hHeld HN HI ⊢
 refine fu [(0,some 6),(1,some 7),(2,some 8),(3,some 9),(4,some 10),(5,some 11)] ?_
 (refine fq (v:=?_) (a':=?_) HT_ (by kernel_rfl) rfl rfl (fun _ _ _ h=>h) (Or.inl ⟨by rfl,?_⟩) ?_ ?_;rotate_left;(intro w';go_simp;with_reducible rfl);rotate_left;(simp only [Act.put,p1_,p2_,p3_,aI,aJ];rfl))
 iterate 5 (refine jm (v:=?_) (a':=?_) HT_ HW_ (by kernel_rfl) rfl rfl (fun _ _ _ h=>h) hHeld (Or.inl ⟨by rfl,?_⟩) ?_ ?_;rotate_left;(rintro w' ⟨s0,s1,s2,s3,s4,s5,s6,s7⟩;go_simp;with_reducible rfl);rotate_left;(simp only [Act.put,p1_,p2_,p3_,aI,aJ];rfl))
 refine bH ?_
 refine cK (i:=6) (some 12) HT_ (by kernel_rfl) rfl rfl (by decide) (fun K_ hK=>?_)
 refine call_ 174 #[.pointer (some ⟨pR,0,none⟩),.agg #[.slice A n.length c,.slice A1 n.length c1,.int .i64 kp,.int .i64 wy,.int .i64 od,.int .i64 nw]] (by rfl) rfl ?hrun6 ?_
 (case hrun6=>first | (go_simp;done) | (go_simp;exact enters Tryz.func174 (by kernel_rfl) rfl _ _))
 refine (wX A c n A1 c1 i kp wy od nw _ HW.out.tb HG.out.tb (Kd.dH HN.out (fun k hk h=>hk ((HW.out.ok k).2 (.inr (.inr (.inl h)))))) (Kd.dH HI.out (fun k hk h=>hk ((HW.out.ok k).2 (.inr (.inr (.inl h)))))) HK.out HS.out HNI.out).mono ?_
 rintro e w2 ⟨rfl,okR1,hA,hM⟩
 have X2:=Am_ hA
 have M2:=Am_ hM
 clear hA hM
 refine ⟨_,rfl,?_⟩
 refine hK.out _ _ ?_
 clear hK K_
 refine bT (a':=?_) ?_ ?_
 rotate_left; · show Act.put _ (some 12) _=_;simp only [Act.put,p1_,p2_,p3_,aI,aJ];rfl
 refine fu [(7,some 5),(8,some 13),(9,some 14),(10,some 3),(11,some 4)] ?_
 iterate 5 (refine fq (v:=?_) (a':=?_) HT_ (by kernel_rfl) rfl rfl (fun _ _ _ h=>h) (Or.inl ⟨by rfl,?_⟩) ?_ ?_;rotate_left;(intro w';go_simp;with_reducible rfl);rotate_left;(simp only [Act.put,p1_,p2_,p3_,aI,aJ];rfl))
 refine bH ?_
 refine dN (bQ HT_.out (by kernel_rfl)) ?_
 go_wp2_with fail
 go_ret
 exact ⟨_,rfl,⟨⟨_,_,_,_,_,_,(HW.out.jS X2.out M2.out).1⟩,⟨HG.out.ar,HG.out.ep,HG.out.tb.make _ HS.out (by have:=HS.out;have:=HNI.out;show i.length<1000000;omega)⟩⟩,HM.out.trans (HW.out.jS X2.out M2.out).2⟩
def ET (r:Int):Obj:= .cells #[.int .i64 r] 45 (0,0)
def LH (s:Int):Obj:= .cells #[.int .u8 s] 281 (0,0)
def qg (r:Int):Pr Ws Int:=doT (fun x=>((x.ar.info r).1,{ x with ar:=(x.ar.info r).2 }))
def markT (r:Int):Pr Ws Bool:=ER (fun x=>((x.ar.mark r).1,{ x with ar:=(x.ar.mark r).2 }))
def Bl (n:Int):Pr Ws Int:=doT (fun x=>(wrap64 (x.tb.en n).state,x))
def vH (n:Int):Pr Ws Int:=aX (Bl n) fun v=>eD (IntKind.u8.wrap v)
def JS (n s:Int):Pr Ws Int:=doT (fun x=>(0,{ x with tb:=x.tb.setState n s }))
def Fg (n s:Int):Pr Ws Unit:=aX (JS n s) fun _=>eD ()
def Ck (n:Int):Pr Ws Bool:=ER (fun x=>((x.tb.en n).all,x))
def Bf (n:Int):Pr Ws Int:=doT (fun x=>(0,{ x with tb:=x.tb.jP n }))
def rX (r old n:Int):Pr Ws Bool:=ER (fun x=>((x.ar.fw r old n).1,{ x with ar:=(x.ar.fw r old n).2 }))
def vF (r:Int):Pr Ws Int:=doT (fun x=>(0,{ x with ar:=x.ar.jb r }))
def qx (r i old now:Int):Pr Ws Bool:=ER (fun x=>((x.ar.gW r i old now).1,{ x with ar:=(x.ar.gW r i old now).2 }))
def Gx (n:Nd):Pr Ws Int:=doO (fun x=>match x.ar.alloc n with
 | none=>none
 | some ((r,_),a1)=>some (r,{ x with ar:=a1 }))
def zY (me r n:Int):Pr Ws Int:=doO (fun x=>if (x.ep.limbo.getD me.toNat []).length<1000000 then some (0,{ x with ep:=x.ep.leave me r n }) else none)
def storeT (rc:Rc):Pr Ws Int:=doT (fun x=>((x.tb.make rc).1.1,{ x with tb:=(x.tb.make rc).2 }))
theorem aU.KU {p tb:Nat} {work:Value} {me:Int} {bt:Nat} {ok okc:Nat→Prop} {w wc:World} {s t:TS Ws} {bx:Nat} {r:Int} (h:aU p tb work me bt ok w okc s wc) (hx:Mine okc wc bx (ET r))  {o:Out Int} (hd:qg r s=some (o,t)):
  Calls Tryz.prog 137 #[.pointer (some ⟨tb,0,none⟩),.func (.func 238) #[] #[.pointer (some ⟨bt,0,none⟩),.pointer (some ⟨bx,0,none⟩)]] wc (fM nY p tb work me bt ok w okc o t wc):=
 h.do_ _ 238 _ (enters Tryz.func238 (by kernel_rfl) rfl _) (fun w1 okS hm hk hs=>tK p s.sh r w1 okS bt bx hs ((af (h.box.moves hm).1 1).trans rfl) ((af (hx.moves hm).1 0).trans rfl)) hd
theorem aU.Lb {p tb:Nat} {work:Value} {me:Int} {bt:Nat} {ok okc:Nat→Prop} {w wc:World} {s t:TS Ws} {bx:Nat} {r:Int} (h:aU p tb work me bt ok w okc s wc) (hx:Mine okc wc bx (ET r))  {o:Out Bool} (hd:markT r s=some (o,t)):
  Calls Tryz.prog 154 #[.pointer (some ⟨tb,0,none⟩),.func (.func 236) #[] #[.pointer (some ⟨bt,0,none⟩),.pointer (some ⟨bx,0,none⟩)]] wc (fM wH p tb work me bt ok w okc o t wc):=
 h.Js _ 236 _ (enters Tryz.func236 (by kernel_rfl) rfl _) (fun w1 okS hm hk hs=>tZ p s.sh r w1 okS bt bx hs ((af (h.box.moves hm).1 1).trans rfl) ((af (hx.moves hm).1 0).trans rfl)) hd
theorem aU.JV {p tb:Nat} {work:Value} {me:Int} {bt:Nat} {ok okc:Nat→Prop} {w wc:World} {s t:TS Ws} {bn:Nat} {n:Int} (h:aU p tb work me bt ok w okc s wc) (hn:Mine okc wc bn (jH n))  {o:Out Int} (hd:Bl n s=some (o,t)):
  Calls Tryz.prog 137 #[.pointer (some ⟨tb,0,none⟩),.func (.func 239) #[] #[.pointer (some ⟨bt,0,none⟩),.pointer (some ⟨bn,0,none⟩)]] wc (fM nY p tb work me bt ok w okc o t wc):=
 h.do_ _ 239 _ (enters Tryz.func239 (by kernel_rfl) rfl _) (fun w1 okS hm hk hs=>rT p s.sh n w1 okS bt bn hs ((af (h.box.moves hm).1 1).trans rfl) ((af (hn.moves hm).1 0).trans rfl)) hd
theorem aU.load_ {p tb:Nat} {work:Value} {me:Int} {bt:Nat} {ok okc:Nat→Prop} {w wc:World} {s t:TS Ws} {bx bi:Nat} {r i:Int} (h:aU p tb work me bt ok w okc s wc) (hx:Mine okc wc bx (ET r)) (hi:Mine okc wc bi (Gg i))  {o:Out Int} (hd:Ip r i s=some (o,t)):
  Calls Tryz.prog 137 #[.pointer (some ⟨tb,0,none⟩),.func (.func 202) #[] #[.pointer (some ⟨bt,0,none⟩),.pointer (some ⟨bx,0,none⟩),.pointer (some ⟨bi,0,none⟩)]] wc (fM nY p tb work me bt ok w okc o t wc):=
 h.do_ _ 202 _ (enters Tryz.func202 (by kernel_rfl) rfl _) (fun w1 okS hm hk hs=>tV p s.sh r i w1 okS bt bx bi hs ((af (h.box.moves hm).1 1).trans rfl) ((af (hx.moves hm).1 0).trans rfl) ((af (hi.moves hm).1 0).trans rfl)) hd
theorem aU.Lp {p tb:Nat} {work:Value} {me:Int} {bt:Nat} {ok okc:Nat→Prop} {w wc:World} {s t:TS Ws} {bn bs:Nat} {n st:Int} (h:aU p tb work me bt ok w okc s wc) (hn:Mine okc wc bn (jH n)) (hs_:Mine okc wc bs (LH st))  {o:Out Int} (hd:JS n st s=some (o,t)):
  Calls Tryz.prog 137 #[.pointer (some ⟨tb,0,none⟩),.func (.func 243) #[] #[.pointer (some ⟨bt,0,none⟩),.pointer (some ⟨bn,0,none⟩),.pointer (some ⟨bs,0,none⟩)]] wc (fM nY p tb work me bt ok w okc o t wc):=
 h.do_ _ 243 _ (enters Tryz.func243 (by kernel_rfl) rfl _) (fun w1 okS hm hk hs=>xL p s.sh n st w1 okS bt bn bs hs ((af (h.box.moves hm).1 1).trans rfl) ((af (hn.moves hm).1 0).trans rfl) ((af (hs_.moves hm).1 0).trans rfl)) hd
theorem Kd.lT {ok ok1:Nat→Prop} {g n:Nat} {xs:List Int} {w w1:World} (h:(Kd.int .i64).F w (fun k=> ¬ ok k) (some ⟨g,0,none⟩) n xs) (m:Moves ok ok1 w w1) {i:Nat} {x:Int} (hi:xs[i]?=some x):w1.cell? ⟨g,i,none⟩=some (.int .i64 x):=by
 obtain ⟨hl,_,hc⟩:=Kd.gD (iJ h m)
 have hlt:=(List.getElem?_eq_some_iff.1 hi).1
 obtain ⟨ad,c,e,_,hK,hc0⟩:=Kd.nV (Kd.gD (iJ h m)) 0 (i:Int) (by omega) (by omega)
 injection e with e
 subst e
 have hc1: ∀ j u,c[j]?=some u→w1.cell? ((⟨g,0,none⟩:Addr).add ((i:Int).toNat*1+j))=some u:=hc0
 obtain rfl:c= [.int .i64 (xs.getD (i:Int).toNat 0)]:=hK
 have:=hc1 0 _ rfl
 rw [Int.toNat_natCast,List.getD_eq_getElem?_getD,hi,Option.getD_some,Nat.mul_one,Nat.add_zero] at this
 rw [jF,Nat.zero_add] at this
 exact this
theorem aU.Lf {p tb:Nat} {work:Value} {me:Int} {bt:Nat} {ok okc:Nat→Prop} {w wc:World} {s t:TS Ws} {bx br bi bn:Nat} {r old n:Int} {i gI:Nat} {AN:Option Addr} {lN cN lI cI:Nat} {kp wy od nw:Int} {infos:List Int} (h:aU p tb work me bt ok w okc s wc) (hx:Mine okc wc bx (ET r)) (hr_:Mine okc wc br (.cells #[.slice AN lN cN,.slice (some ⟨gI,0,none⟩) lI cI,.int .i64 kp,.int .i64 wy,.int .i64 od,.int .i64 nw] 254 (0,0))) (hi:Mine okc wc bi (Gg (i:Int))) (hn:Mine okc wc bn (jH n)) (hf:(Kd.int .i64).F wc (fun k=> ¬ okc k) (some ⟨gI,0,none⟩) lI infos) (hg:infos[i]?=some old) (hl:i<lI) {o:Out Bool} (hd:rX r old n s=some (o,t)):
  Calls Tryz.prog 154 #[.pointer (some ⟨tb,0,none⟩),.func (.func 209) #[] #[.pointer (some ⟨bt,0,none⟩),.pointer (some ⟨bx,0,none⟩),.pointer (some ⟨br,0,none⟩),.pointer (some ⟨bi,0,none⟩),.pointer (some ⟨bn,0,none⟩)]] wc (fM wH p tb work me bt ok w okc o t wc):=
 h.Js _ 209 _ (enters Tryz.func209 (by kernel_rfl) rfl _) (fun w1 okS hm hk hs=>xD p s.sh r old n i gI lI cI w1 okS bt bx br bi bn hs ((af (h.box.moves hm).1 1).trans rfl) ((af (hx.moves hm).1 0).trans rfl) ((af (hr_.moves hm).1 1).trans rfl) ((af (hi.moves hm).1 0).trans rfl) ((af (hn.moves hm).1 0).trans rfl) (Kd.lT hf hm hg) hl) hd
theorem aU.Lg {p tb:Nat} {work:Value} {me:Int} {bt:Nat} {ok okc:Nat→Prop} {w wc:World} {s t:TS Ws} {bx:Nat} {r:Int} (h:aU p tb work me bt ok w okc s wc) (hx:Mine okc wc bx (ET r))  {o:Out Int} (hd:qg r s=some (o,t)):
  Calls Tryz.prog 137 #[.pointer (some ⟨tb,0,none⟩),.func (.func 211) #[] #[.pointer (some ⟨bt,0,none⟩),.pointer (some ⟨bx,0,none⟩)]] wc (fM nY p tb work me bt ok w okc o t wc):=
 h.do_ _ 211 _ (enters Tryz.func211 (by kernel_rfl) rfl _) (fun w1 okS hm hk hs=>xE p s.sh r w1 okS bt bx hs ((af (h.box.moves hm).1 1).trans rfl) ((af (hx.moves hm).1 0).trans rfl)) hd
theorem aU.Lh {p tb:Nat} {work:Value} {me:Int} {bt:Nat} {ok okc:Nat→Prop} {w wc:World} {s t:TS Ws} {bn:Nat} {n:Int} (h:aU p tb work me bt ok w okc s wc) (hn:Mine okc wc bn (jH n))  {o:Out Bool} (hd:Ck n s=some (o,t)):
  Calls Tryz.prog 154 #[.pointer (some ⟨tb,0,none⟩),.func (.func 213) #[] #[.pointer (some ⟨bt,0,none⟩),.pointer (some ⟨bn,0,none⟩)]] wc (fM wH p tb work me bt ok w okc o t wc):=
 h.Js _ 213 _ (enters Tryz.func213 (by kernel_rfl) rfl _) (fun w1 okS hm hk hs=>xG p s.sh n w1 okS bt bn hs ((af (h.box.moves hm).1 1).trans rfl) ((af (hn.moves hm).1 0).trans rfl)) hd
theorem aU.Li {p tb:Nat} {work:Value} {me:Int} {bt:Nat} {ok okc:Nat→Prop} {w wc:World} {s t:TS Ws} {bn:Nat} {n:Int} (h:aU p tb work me bt ok w okc s wc) (hn:Mine okc wc bn (jH n))  {o:Out Int} (hd:Bf n s=some (o,t)):
  Calls Tryz.prog 137 #[.pointer (some ⟨tb,0,none⟩),.func (.func 216) #[] #[.pointer (some ⟨bt,0,none⟩),.pointer (some ⟨bn,0,none⟩)]] wc (fM nY p tb work me bt ok w okc o t wc):=
 h.do_ _ 216 _ (enters Tryz.func216 (by kernel_rfl) rfl _) (fun w1 okS hm hk hs=>xH p s.sh n w1 okS bt bn hs ((af (h.box.moves hm).1 1).trans rfl) ((af (hn.moves hm).1 0).trans rfl)) hd
theorem aU.Lj {p tb:Nat} {work:Value} {me:Int} {bt:Nat} {ok okc:Nat→Prop} {w wc:World} {s t:TS Ws} {bx:Nat} {r:Int} (h:aU p tb work me bt ok w okc s wc) (hx:Mine okc wc bx (ET r))  {o:Out Int} (hd:vF r s=some (o,t)):
  Calls Tryz.prog 137 #[.pointer (some ⟨tb,0,none⟩),.func (.func 218) #[] #[.pointer (some ⟨bt,0,none⟩),.pointer (some ⟨bx,0,none⟩)]] wc (fM nY p tb work me bt ok w okc o t wc):=
 h.do_ _ 218 _ (enters Tryz.func218 (by kernel_rfl) rfl _) (fun w1 okS hm hk hs=>xI p s.sh r w1 okS bt bx hs ((af (h.box.moves hm).1 1).trans rfl) ((af (hx.moves hm).1 0).trans rfl)) hd
theorem aU.Ll {p tb:Nat} {work:Value} {me:Int} {bt:Nat} {ok okc:Nat→Prop} {w wc:World} {s t:TS Ws} {br:Nat} {r i old now:Int} {gN:Nat} {AI:Option Addr} {lN cN lI cI:Nat} {kp:Int} {nodes:List Int} (h:aU p tb work me bt ok w okc s wc) (hr_:Mine okc wc br (.cells #[.slice (some ⟨gN,0,none⟩) lN cN,.slice AI lI cI,.int .i64 kp,.int .i64 i,.int .i64 old,.int .i64 now] 254 (0,0))) (hf:(Kd.int .i64).F wc (fun k=> ¬ okc k) (some ⟨gN,0,none⟩) lN nodes) (hg:nodes[0]?=some r) (hl:0<lN) {o:Out Bool} (hd:qx r i old now s=some (o,t)):
  Calls Tryz.prog 154 #[.pointer (some ⟨tb,0,none⟩),.func (.func 220) #[] #[.pointer (some ⟨bt,0,none⟩),.pointer (some ⟨br,0,none⟩)]] wc (fM wH p tb work me bt ok w okc o t wc):=
 h.Js _ 220 _ (enters Tryz.func220 (by kernel_rfl) rfl _) (fun w1 okS hm hk hs=>xJ p s.sh r i old now gN lN cN w1 okS bt br hs ((af (h.box.moves hm).1 1).trans rfl) ((af (hr_.moves hm).1 0).trans rfl) (Kd.lT hf hm hg) ((af (hr_.moves hm).1 3).trans rfl) ((af (hr_.moves hm).1 4).trans rfl) ((af (hr_.moves hm).1 5).trans rfl) hl) hd
theorem aU.La {p tb:Nat} {work:Value} {me:Int} {bt:Nat} {ok okc:Nat→Prop} {w wc:World} {s t:TS Ws} {bx:Nat} {n:Nd} {b0 b1:Bool} {Ap Ak Ay:Option Addr} {lp lk ly cp ck cy:Nat} (h:aU p tb work me bt ok w okc s wc) (hx:Mine okc wc bx (.cells #[.bool b0,.bool b1,.slice Ap lp cp,.slice Ak lk ck,.slice Ay ly cy] 157 (0,0))) (hn:NdF (fun k=> ¬ okc k) n (.agg #[.bool b0,.bool b1,.slice Ap lp cp,.slice Ak lk ck,.slice Ay ly cy]) wc) (hsm:n.Small) {o:Out Int} (hd:Gx n s=some (o,t)):
  Calls Tryz.prog 137 #[.pointer (some ⟨tb,0,none⟩),.func (.func 207) #[] #[.pointer (some ⟨bt,0,none⟩),.pointer (some ⟨bx,0,none⟩)]] wc (fM nY p tb work me bt ok w okc o t wc):=
 h.Lu _ 207 _ (enters Tryz.func207 (by kernel_rfl) rfl _) (fun n1 x1 hf w1 okS hm hk hs=>by
  cases ha:s.sh.ar.alloc n with
  | none=>rw [ha] at hf;cases hf
  | some q=>
   obtain ⟨⟨r,b⟩,a1⟩:=q
   rw [ha] at hf
   injection hf with hf
   injection hf with h1 h2
   subst h1 h2
   exact rZ p s.sh n r b a1 b0 b1 Ap Ak Ay lp lk ly cp ck cy w1 okS bt bx hs ((af (h.box.moves hm).1 1).trans rfl) ((af (hx.moves hm).1 0).trans rfl) ((af (hx.moves hm).1 1).trans rfl) ((af (hx.moves hm).1 2).trans rfl) ((af (hx.moves hm).1 3).trans rfl) ((af (hx.moves hm).1 4).trans rfl) ((hn.moves hm).mono (fun k hk1 hk2=>hk1 (hk k hk2))) hsm ha) hd
theorem aU.EY {p tb:Nat} {work:Value} {me:Int} {bt:Nat} {ok okc:Nat→Prop} {w wc:World} {s t:TS Ws} {bx bn:Nat} {r n:Int} (h:aU p tb work me bt ok w okc s wc) (hx:Mine okc wc bx (ET r)) (hn:Mine okc wc bn (jH n))  {o:Out Int} (hd:zY me r n s=some (o,t)):
  Calls Tryz.prog 137 #[.pointer (some ⟨tb,0,none⟩),.func (.func 176) #[] #[.pointer (some ⟨bt,0,none⟩),.pointer (some ⟨bx,0,none⟩),.pointer (some ⟨bn,0,none⟩)]] wc (fM nY p tb work me bt ok w okc o t wc):=
 h.Lu _ 176 _ (enters Tryz.func176 (by kernel_rfl) rfl _) (fun n1 x1 hf w1 okS hm hk hs=>by
  split at hf
  ·rename_i hl
   injection hf with hf
   injection hf with h1 h2
   subst h1 h2
   exact qz p s.sh me r n w1 okS bt bx bn hs ((af (h.box.moves hm).1 1).trans rfl) ((af (h.box.moves hm).1 2).trans rfl) ((af (hx.moves hm).1 0).trans rfl) ((af (hn.moves hm).1 0).trans rfl) hl
  ·cases hf) hd
theorem aU.store_ {p tb:Nat} {work:Value} {me:Int} {bt:Nat} {ok okc:Nat→Prop} {w wc:World} {s t:TS Ws} {br:Nat} {AN AI:Option Addr} {cN cI:Nat} {nodes infos:List Int} {kp wy od nw:Int} (h:aU p tb work me bt ok w okc s wc) (hr_:Mine okc wc br (.cells #[.slice AN nodes.length cN,.slice AI nodes.length cI,.int .i64 kp,.int .i64 wy,.int .i64 od,.int .i64 nw] 254 (0,0))) (hf:(Kd.int .i64).F wc (fun k=> ¬ okc k) AN nodes.length nodes) (hf1:(Kd.int .i64).F wc (fun k=> ¬ okc k) AI nodes.length infos) (hk0:0≤kp) (hsm:nodes.length<1000000) (hni:nodes.length=infos.length) {o:Out Int} (hd:storeT ⟨nodes,infos,kp,wy,od,nw⟩ s=some (o,t)):
  Calls Tryz.prog 137 #[.pointer (some ⟨tb,0,none⟩),.func (.func 173) #[] #[.pointer (some ⟨bt,0,none⟩),.pointer (some ⟨br,0,none⟩)]] wc (fM nY p tb work me bt ok w okc o t wc):=
 h.do_ _ 173 _ (enters Tryz.func173 (by kernel_rfl) rfl _) (fun w1 okS hm hk hs=>rV p s.sh AN cN nodes AI cI infos kp wy od nw w1 okS bt br hs ((af (h.box.moves hm).1 1).trans rfl) ((af (hr_.moves hm).1 0).trans rfl) ((af (hr_.moves hm).1 1).trans rfl) ((af (hr_.moves hm).1 2).trans rfl) ((af (hr_.moves hm).1 3).trans rfl) ((af (hr_.moves hm).1 4).trans rfl) ((af (hr_.moves hm).1 5).trans rfl) (Kd.dH (iJ hf hm) (fun k hk1 hk2=>hk1 (hk k hk2))) (Kd.dH (iJ hf1 hm) (fun k hk1 hk2=>hk1 (hk k hk2))) hk0 hsm hni) hd
theorem uj {X α:Type} {m:Pr X α} {s:TS X} {res:Out α × TS X} (h:m s=some res): ∃ o t,m s=some (o,t)∧((o= .wait∧res=(.wait,t))∨ ∃ a,o= .ret a∧res=(.ret a,t)):=by
 obtain ⟨o,t⟩:=res
 refine ⟨o,t,h,?_⟩
 cases o with
 | wait=>exact .inl ⟨rfl,rfl⟩
 | ret a=>exact .inr ⟨a,rfl,rfl⟩
def VU8 (a:Int) (_:Nat→Prop) (v:Value) (_:World):Prop:=v= .int .u8 a
theorem kC (p tb:Nat) (work:Value) (me:Int) (ok:Nat→Prop) (s:TS Ws) (w:World) (r:Int) (h:dX (shW p) tb work ok s w)  (res:Out Int × TS Ws) (hr:qg r s=some res):
  Calls Tryz.prog 200 #[fo tb p me,.int .i64 r] w (gF (shW p) tb work EO ok w res):=by
 have HTV:fo tb p me= .agg #[.pointer (some ⟨tb,0,none⟩),.pointer (some ⟨p,0,none⟩),.int .i64 me]:=rfl
 rw [HTV]
 obtain ⟨o,t,hd,hcase⟩:=uj hr
 have HD:=Am_ hd
 have HCS:=Am_ hcase
 have h0:=aU.enter (me:=me) h
 unfold fK at h0
 have HT:=Am_ (h0.alloc (.cells #[.int .i64 r] 45))
 have HB1:=Am_ (Mine.new h0.lt (.cells #[.int .i64 r] 45))
 simp only [World.size_alloc] at HB1
 clear h h0 hr hd hcase HTV
 go_enter Tryz.func200,Tryz.ntmps200
 go_upto_region 1 with fail
 generalize ((w.alloc (.cells #[.pointer (some ⟨tb,0,none⟩),.pointer (some ⟨p,0,none⟩),.int .i64 me] 114)).alloc (.cells #[.int .i64 r] 45))=w1 at HT HB1 ⊢
 generalize hbb:w.heap.size=bt at HT HB1 ⊢
 have c0:=HT.out.c0
 go_wp2_with (go_at_call 137;refine (HT.out.KU HB1.out HD.out).mono ?_;rintro e w2 ⟨⟨ok1,hm,hT,he⟩⟩;rcases HCS.out with hw | hw;(obtain ⟨rfl,rfl⟩:=hw;obtain rfl:e= .panicked dI:=he;exact ⟨rfl,⟨⟨ok1,hT.moves,hT.run,rfl⟩⟩⟩);obtain ⟨a0,rfl,hr2⟩:=hw;obtain rfl:e= .returned (.int .i64 a0):=he;have HT2:=Am_ hT;have HR2:=Am_ hr2;clear hm hT hr2)
 go_ret
 obtain rfl:=HR2.out
 exact ⟨⟨_,HT2.out.moves,HT2.out.run,_,rfl,rfl⟩⟩
theorem nC (p tb:Nat) (work:Value) (me:Int) (ok:Nat→Prop) (s:TS Ws) (w:World) (r:Int) (h:dX (shW p) tb work ok s w)  (res:Out Bool × TS Ws) (hr:markT r s=some res):
  Calls Tryz.prog 199 #[fo tb p me,.int .i64 r] w (gF (shW p) tb work Gc ok w res):=by
 have HTV:fo tb p me= .agg #[.pointer (some ⟨tb,0,none⟩),.pointer (some ⟨p,0,none⟩),.int .i64 me]:=rfl
 rw [HTV]
 obtain ⟨o,t,hd,hcase⟩:=uj hr
 have HD:=Am_ hd
 have HCS:=Am_ hcase
 have h0:=aU.enter (me:=me) h
 unfold fK at h0
 have HT:=Am_ (h0.alloc (.cells #[.int .i64 r] 45))
 have HB1:=Am_ (Mine.new h0.lt (.cells #[.int .i64 r] 45))
 simp only [World.size_alloc] at HB1
 clear h h0 hr hd hcase HTV
 go_enter Tryz.func199,Tryz.ntmps199
 go_upto_region 1 with fail
 generalize ((w.alloc (.cells #[.pointer (some ⟨tb,0,none⟩),.pointer (some ⟨p,0,none⟩),.int .i64 me] 114)).alloc (.cells #[.int .i64 r] 45))=w1 at HT HB1 ⊢
 generalize hbb:w.heap.size=bt at HT HB1 ⊢
 have c0:=HT.out.c0
 go_wp2_with (go_at_call 154;refine (HT.out.Lb HB1.out HD.out).mono ?_;rintro e w2 ⟨⟨ok1,hm,hT,he⟩⟩;rcases HCS.out with hw | hw;(obtain ⟨rfl,rfl⟩:=hw;obtain rfl:e= .panicked dI:=he;exact ⟨rfl,⟨⟨ok1,hT.moves,hT.run,rfl⟩⟩⟩);obtain ⟨a0,rfl,hr2⟩:=hw;obtain rfl:e= .returned (.bool a0):=he;have HT2:=Am_ hT;have HR2:=Am_ hr2;clear hm hT hr2)
 go_ret
 obtain rfl:=HR2.out
 exact ⟨⟨_,HT2.out.moves,HT2.out.run,_,rfl,rfl⟩⟩
theorem jM (p tb:Nat) (work:Value) (me:Int) (ok:Nat→Prop) (s:TS Ws) (w:World) (n:Int) (h:dX (shW p) tb work ok s w)  (res:Out Int × TS Ws) (hr:vH n s=some res):
  Calls Tryz.prog 201 #[fo tb p me,.int .i64 n] w (gF (shW p) tb work VU8 ok w res):=by
 have HTV:fo tb p me= .agg #[.pointer (some ⟨tb,0,none⟩),.pointer (some ⟨p,0,none⟩),.int .i64 me]:=rfl
 rw [HTV]
 obtain ⟨o,t,hd,hcase⟩:=aN hr
 have HD:=Am_ hd
 have HCS:=Am_ hcase
 have h0:=aU.enter (me:=me) h
 unfold fK at h0
 have HT:=Am_ (h0.alloc (.cells #[.int .i64 n] 2))
 have HB1:=Am_ (Mine.new h0.lt (.cells #[.int .i64 n] 2))
 simp only [World.size_alloc] at HB1
 clear h h0 hr hd hcase HTV
 go_enter Tryz.func201,Tryz.ntmps201
 go_upto_region 1 with fail
 generalize ((w.alloc (.cells #[.pointer (some ⟨tb,0,none⟩),.pointer (some ⟨p,0,none⟩),.int .i64 me] 114)).alloc (.cells #[.int .i64 n] 2))=w1 at HT HB1 ⊢
 generalize hbb:w.heap.size=bt at HT HB1 ⊢
 have c0:=HT.out.c0
 go_wp2_with (go_at_call 137;refine (HT.out.JV HB1.out HD.out).mono ?_;rintro e w2 ⟨⟨ok1,hm,hT,he⟩⟩;rcases HCS.out with hw | hw;(obtain ⟨rfl,rfl⟩:=hw;obtain rfl:e= .panicked dI:=he;exact ⟨rfl,⟨⟨ok1,hT.moves,hT.run,rfl⟩⟩⟩);obtain ⟨a0,rfl,hr2⟩:=hw;obtain rfl:e= .returned (.int .i64 a0):=he;have HT2:=Am_ hT;have HR2:=Am_ hr2;clear hm hT hr2)
 go_ret
 obtain rfl:res=(.ret (IntKind.u8.wrap a0),t):=by have h:=HR2.out;injection h with h;exact h.symm
 exact ⟨⟨_,HT2.out.moves,HT2.out.run,_,rfl,rfl⟩⟩
theorem lD (p tb:Nat) (work:Value) (me:Int) (ok:Nat→Prop) (s:TS Ws) (w:World) (n st:Int) (h:dX (shW p) tb work ok s w)  (res:Out Unit × TS Ws) (hr:Fg n st s=some res):
  Calls Tryz.prog 215 #[fo tb p me,.int .i64 n,.int .u8 st] w (gF (shW p) tb work Cj ok w res):=by
 have HTV:fo tb p me= .agg #[.pointer (some ⟨tb,0,none⟩),.pointer (some ⟨p,0,none⟩),.int .i64 me]:=rfl
 rw [HTV]
 obtain ⟨o,t,hd,hcase⟩:=aN hr
 have HD:=Am_ hd
 have HCS:=Am_ hcase
 have h0:=aU.enter (me:=me) h
 unfold fK at h0
 have HT:=Am_ ((h0.alloc (.cells #[.int .i64 n] 2)).alloc (.cells #[.int .u8 st] 281))
 have HB1:=Am_ ((Mine.new h0.lt (.cells #[.int .i64 n] 2)).alloc (.cells #[.int .u8 st] 281))
 have HB2:=Am_ (Mine.new (h0.alloc (.cells #[.int .i64 n] 2)).lt (.cells #[.int .u8 st] 281))
 simp only [World.size_alloc] at HB1 HB2
 clear h h0 hr hd hcase HTV
 go_enter Tryz.func215,Tryz.ntmps215
 go_upto_region 1 with fail
 generalize (((w.alloc (.cells #[.pointer (some ⟨tb,0,none⟩),.pointer (some ⟨p,0,none⟩),.int .i64 me] 114)).alloc (.cells #[.int .i64 n] 2)).alloc (.cells #[.int .u8 st] 281))=w1 at HT HB1 HB2 ⊢
 generalize hbb:w.heap.size=bt at HT HB1 HB2 ⊢
 have c0:=HT.out.c0
 go_wp2_with (go_at_call 137;refine (HT.out.Lp HB1.out HB2.out HD.out).mono ?_;rintro e w2 ⟨⟨ok1,hm,hT,he⟩⟩;rcases HCS.out with hw | hw;(obtain ⟨rfl,rfl⟩:=hw;obtain rfl:e= .panicked dI:=he;exact ⟨rfl,⟨⟨ok1,hT.moves,hT.run,rfl⟩⟩⟩);obtain ⟨a0,rfl,hr2⟩:=hw;obtain rfl:e= .returned (.int .i64 a0):=he;have HT2:=Am_ hT;have HR2:=Am_ hr2;clear hm hT hr2)
 go_end0
 obtain rfl:res=(.ret (),t):=by have h:=HR2.out;injection h with h;exact h.symm
 exact ⟨⟨_,HT2.out.moves,HT2.out.run,_,rfl,rfl⟩⟩
theorem uz (p tb:Nat) (work:Value) (me:Int) (ok:Nat→Prop) (s:TS Ws) (w:World) (n:Nd) (b0 b1:Bool) (Ap Ak Ay:Option Addr) (lp lk ly cp ck cy:Nat) (h:dX (shW p) tb work ok s w) (hn:NdF (fun k=> ¬ ok k) n (.agg #[.bool b0,.bool b1,.slice Ap lp cp,.slice Ak lk ck,.slice Ay ly cy]) w) (hsm:n.Small) (res:Out Int × TS Ws) (hr:Gx n s=some res):
  Calls Tryz.prog 170 #[fo tb p me,.agg #[.bool b0,.bool b1,.slice Ap lp cp,.slice Ak lk ck,.slice Ay ly cy]] w (gF (shW p) tb work EO ok w res):=by
 have HTV:fo tb p me= .agg #[.pointer (some ⟨tb,0,none⟩),.pointer (some ⟨p,0,none⟩),.int .i64 me]:=rfl
 rw [HTV]
 obtain ⟨o,t,hd,hcase⟩:=uj hr
 have HD:=Am_ hd
 have HCS:=Am_ hcase
 have h0:=aU.enter (me:=me) h
 unfold fK at h0
 have HT:=Am_ (h0.alloc (.cells #[.bool b0,.bool b1,.slice Ap lp cp,.slice Ak lk ck,.slice Ay ly cy] 157))
 have HB1:=Am_ (Mine.new h0.lt (.cells #[.bool b0,.bool b1,.slice Ap lp cp,.slice Ak lk ck,.slice Ay ly cy] 157))
 simp only [World.size_alloc] at HB1
 have HX:=Am_ (hn.moves (((Moves.refl ok w).alloc (.cells #[.pointer (some ⟨tb,0,none⟩),.pointer (some ⟨p,0,none⟩),.int .i64 me] 114)).alloc (.cells #[.bool b0,.bool b1,.slice Ap lp cp,.slice Ak lk ck,.slice Ay ly cy] 157)))
 have HSM:=Am_ hsm
 clear h h0 hr hd hcase HTV hn hsm
 go_enter Tryz.func170,Tryz.ntmps170
 go_upto_region 1 with fail
 generalize ((w.alloc (.cells #[.pointer (some ⟨tb,0,none⟩),.pointer (some ⟨p,0,none⟩),.int .i64 me] 114)).alloc (.cells #[.bool b0,.bool b1,.slice Ap lp cp,.slice Ak lk ck,.slice Ay ly cy] 157))=w1 at HT HB1 HX ⊢
 generalize hbb:w.heap.size=bt at HT HB1 ⊢
 have c0:=HT.out.c0
 go_wp2_with (go_at_call 137;refine (HT.out.La HB1.out HX.out HSM.out HD.out).mono ?_;rintro e w2 ⟨⟨ok1,hm,hT,he⟩⟩;rcases HCS.out with hw | hw;(obtain ⟨rfl,rfl⟩:=hw;obtain rfl:e= .panicked dI:=he;exact ⟨rfl,⟨⟨ok1,hT.moves,hT.run,rfl⟩⟩⟩);obtain ⟨a0,rfl,hr2⟩:=hw;obtain rfl:e= .returned (.int .i64 a0):=he;have HT2:=Am_ hT;have HR2:=Am_ hr2;clear hm hT hr2)
 go_ret
 obtain rfl:=HR2.out
 exact ⟨⟨_,HT2.out.moves,HT2.out.run,_,rfl,rfl⟩⟩
end Go.Proofs.YtmnjjdeaccgjlaaGreat.Tower
