/- Words and contracts that the claim stands on, part 7 of 7. -/
import Derived.Test.YtmnjjdeaccgjlaaGreatGStageNil0
import Derived.Test.YtmnjjdeaccgjlaaGreatGStageNil1
import Derived.Test.YtmnjjdeaccgjlaaGreatGStageNil2
import Derived.Test.YtmnjjdeaccgjlaaGreatGStageNil3
import Derived.Test.YtmnjjdeaccgjlaaGreatGStageNil4
import Derived.Test.YtmnjjdeaccgjlaaGreatGStageNil5
set_option linter.unusedSimpArgs false
set_option linter.unusedVariables false
set_option maxHeartbeats 8000000
set_option maxRecDepth 100000
namespace Go.Proofs.YtmnjjdeaccgjlaaGreat.Tower
open Go Go.RowKit Go.Proofs.YtmnjjdeaccgjlaaGreatW.PrintWords Go.Proofs.YtmnjjdeaccgjlaaGreatW.PrintLast Go.Proofs.YtmnjjdeaccgjlaaGreatW.PrintMore Go.Proofs.YtmnjjdeaccgjlaaGreat.Own
def iW (n:Int):List (Int × Int)→Pr Ws (Option Bool)
 | []=>eD none
 | (x,i)::l=>aX (rX x i n) fun a=>if a then iW n l else aX (qg x) fun m=>if m=n then iW n l else aX (Ck n) fun b=>if b then eD (some true) else aX (Fg n 0) fun _=>eD (some false)
def jv:List Int→Pr Ws Unit
 | []=>eD ()
 | x::l=>aX (vF x) fun _=>jv l
def tH (n:Int):Pr Ws Bool:=aX (Fg n 2) fun _=>eD true
def ku (n:Int) (rc:Rc):Pr Ws Bool:=match rc.nodes with
 | []=>tH n
 | x::_=>aX (qx x rc.way rc.old rc.new) fun _=>tH n
def kr (rc:Rc):Nat:=min rc.keep.toNat rc.nodes.length
def tF (n:Int) (rc:Rc):Pr Ws Bool:=aX (Bf n) fun _=>aX (jv (rc.nodes.drop (kr rc))) fun _=>ku n rc
def jK (n:Int) (rc:Rc):Option Bool→Pr Ws Bool
 | some b=>eD b
 | none=>tF n rc
def qd (n:Int):Pr Ws Bool:=fun s=>if (s.sh.tb.en n).rc.nodes.length=(s.sh.tb.en n).rc.infos.length∧0≤(s.sh.tb.en n).rc.keep∧(s.sh.tb.en n).rc.keep<1000000 then aX (iW n ((s.sh.tb.en n).rc.nodes.zip (s.sh.tb.en n).rc.infos)) (jK n (s.sh.tb.en n).rc) s else none
structure iX (p tb:Nat) (work:Value) (me:Int) (bt:Nat) (ok:Nat→Prop) (w:World) (n:Int) (rc:Rc) (bn br:Nat) (A1 A2:Option Addr) (c1 c2:Nat) (okc:Nat→Prop) (s:TS Ws) (wc:World):Prop where
 task:aU p tb work me bt ok w okc s wc
 num:Mine okc wc bn (jH n)
 box_:Mine okc wc br (.cells #[.slice A1 rc.nodes.length c1,.slice A2 rc.infos.length c2,.int .i64 rc.keep,.int .i64 rc.way,.int .i64 rc.old,.int .i64 rc.new] 254 (0,0))
 nodes:(Kd.int .i64).F wc (fun k=> ¬ okc k) A1 rc.nodes.length rc.nodes
 infos:(Kd.int .i64).F wc (fun k=> ¬ okc k) A2 rc.infos.length rc.infos
 flat1:Flat A1
 flat2:Flat A2
 cap1:rc.nodes.length≤c1
section
variable {p tb:Nat} {work:Value} {me:Int} {bt:Nat} {ok okc ok2:Nat→Prop} {w wc w2:World} {n:Int} {rc:Rc} {bn br:Nat} {A1 A2:Option Addr} {c1 c2:Nat} {s s2:TS Ws}
theorem iX.next (h:iX p tb work me bt ok w n rc bn br A1 A2 c1 c2 okc s wc) (m:Moves okc ok2 wc w2) (t:aU p tb work me bt ok w ok2 s2 w2):iX p tb work me bt ok w n rc bn br A1 A2 c1 c2 ok2 s2 w2:=⟨t,h.num.moves m,h.box_.moves m,iJ h.nodes m,iJ h.infos m,h.flat1,h.flat2,h.cap1⟩
theorem iX.below (h:iX p tb work me bt ok w n rc bn br A1 A2 c1 c2 okc s wc) (b:Below wc.heap.size wc w2):iX p tb work me bt ok w n rc bn br A1 A2 c1 c2 okc s w2:=h.next (Moves.bN _ b) (h.task.below b)
theorem iX.alloc (h:iX p tb work me bt ok w n rc bn br A1 A2 c1 c2 okc s wc) (o:Obj):iX p tb work me bt ok w n rc bn br A1 A2 c1 c2 okc s (wc.alloc o):=h.below (ai (Below.refl _ _) o)
theorem iX.drew (h:iX p tb work me bt ok w n rc bn br A1 A2 c1 c2 okc s wc):iX p tb work me bt ok w n rc bn br A1 A2 c1 c2 okc s wc.drew:=h.below (aZ (Below.refl _ _))
theorem aU.setCells (h:aU p tb work me bt ok w okc s wc) {q:Nat} (hn: ¬ okc q) (hw:w.heap.size≤q) (ht:q≠bt) (seg:List Value):aU p tb work me bt ok w okc s (wc.setCells q 0 seg):=
 ⟨h.run.step (bB p) (by rw [(dW q seg 0 wc).2.2.2];exact Nat.le_refl _) (fun k hk _=>bD seg 0 k (fun e=>hn (e▸hk))),jB h.moves (.inr hw) 0 seg,⟨(bD seg 0 bt (fun e=>ht e.symm)).trans h.box.1,h.box.2⟩⟩
theorem aU.JQ (h:aU p tb work me bt ok w okc s wc) {pR:Nat} (hp:wc.cell? ⟨p,1,none⟩=some (.pointer (some ⟨pR,0,none⟩))):
  Calls Tryz.prog 208 #[.pointer (some ⟨pR,0,none⟩),.int .i64 n] wc (El (s.sh.tb.en n).rc wc):=by
 obtain ⟨_,_,⟨⟨okA,okR,okE,pA,pR1,pE1,hw⟩,hg⟩,_⟩:=h.run.direct
 have h1:=(af hw.box 1).symm.trans hp
 injection h1 with h1
 injection h1 with h1
 injection h1 with h1
 injection h1 with h1
 subst h1
 exact Ic n wc hw.tb hg.tb
theorem aU.pR (h:aU p tb work me bt ok w okc s wc): ∃ pR,wc.cell? ⟨p,1,none⟩=some (.pointer (some ⟨pR,0,none⟩)):=by
 obtain ⟨_,_,⟨⟨_,_,_,_,pR,_,hw⟩,_⟩,_⟩:=h.run.direct
 exact ⟨pR,(af hw.box 1).trans rfl⟩
end
theorem Fp (xs ys:List Int) (k:Nat) (h1:k<xs.length) (h2:k<ys.length):(xs.zip ys).drop k=(xs.getD k 0,ys.getD k 0)::(xs.zip ys).drop (k+1):=by
 have hk:k<(xs.zip ys).length:=by rw [List.length_zip];omega
 rw [List.drop_eq_getElem_cons hk,List.getElem_zip,List.getD_eq_getElem?_getD,List.getD_eq_getElem?_getD,List.getElem?_eq_getElem h1,List.getElem?_eq_getElem h2]
 rfl
theorem FR {w:World} {D:Nat→Prop} {A:Option Addr} {n:Nat} {xs:List Int} (h:(Kd.int .i64).F w D A n xs) (hf:Flat A) (i:Nat) (hi:i<n): ∃ g,A=some ⟨g,0,none⟩∧w.cell? ⟨g,i,none⟩=some (.int .i64 (xs.getD i 0))∧xs[i]?=some (xs.getD i 0):=by
 have hC:=Kd.gD h
 obtain ⟨ad,c,e,_,hK,hc0⟩:=Kd.nV hC 0 (i:Int) (by omega) (by omega)
 obtain ⟨g,rfl⟩:=hf ad e
 have hc1: ∀ j u,c[j]?=some u→w.cell? ((⟨g,0,none⟩:Addr).add ((i:Int).toNat*1+j))=some u:=hc0
 obtain rfl:c= [.int .i64 (xs.getD (i:Int).toNat 0)]:=hK
 have h2:=hc1 0 _ rfl
 rw [Int.toNat_natCast,Nat.mul_one,Nat.add_zero,jF,Nat.zero_add] at h2
 have hl:xs.length=n:=hC.1
 exact ⟨g,e,h2,by rw [List.getD_eq_getElem?_getD,List.getElem?_eq_getElem (by omega),Option.getD_some]⟩
structure qF (p tb:Nat) (work:Value) (me:Int) (bt:Nat) (ok:Nat→Prop) (w:World) (n:Int) (rc:Rc) (bn br:Nat) (A1 A2:Option Addr) (c1 c2:Nat) (rest:Pr Ws Bool) (res:Out Bool × TS Ws) (wc:World):Prop where
 out: ∃ okc s,iX p tb work me bt ok w n rc bn br A1 A2 c1 c2 okc s wc∧rest s=some res
def EB:Bool × List (List Nat × List Nat):=(true,[([],[]),([0],[0]),([1],[1]),([2],[2]),([3],[3]),([],[]),([4,5],[4,5]),([],[]),([7,6,6,0,1,2,3,4,5,6,7],[6,7])])
def IB:List Nat:= [0,1,3,7,15,0,63,0,255]
theorem DL:fG .any (opsOf Tryz.f175 1)=EB:=by kernel_rfl
theorem zh:bM EB.2 IB=true:=by kernel_rfl
def EC:Bool × List (List Nat × List Nat):=(true,[([],[]),([0],[0]),([],[]),([1,2],[1,2]),([],[]),([3,4],[3,4])])
def IC:List Nat:= [0,1,0,7,0,31]
theorem DN:fG .any (opsOf Tryz.f175 6)=EC:=by kernel_rfl
theorem zi:bM EC.2 IC=true:=by kernel_rfl
theorem lC (p tb:Nat) (work:Value) (me n:Int) (ok:Nat→Prop) (s:TS Ws) (w:World) (h:dX (shW p) tb work ok s w) (res:Out Bool × TS Ws) (hr:qd n s=some res):
  Calls Tryz.prog 175 #[fo tb p me,.int .i64 n] w (gF (shW p) tb work Gc ok w res):=by
 have HTV:fo tb p me= .agg #[.pointer (some ⟨tb,0,none⟩),.pointer (some ⟨p,0,none⟩),.int .i64 me]:=rfl
 rw [HTV]
 unfold qd at hr
 generalize hrc:(s.sh.tb.en n).rc=rc at hr
 have HRC:=Am_ hrc
 have hgd:rc.nodes.length=rc.infos.length∧0≤rc.keep∧rc.keep<1000000:=by
  by_cases h1:rc.nodes.length=rc.infos.length∧0≤rc.keep∧rc.keep<1000000
  ·exact h1
  ·rw [if_neg h1] at hr
   cases hr
 rw [if_pos hgd] at hr
 have HGD:=Am_ hgd
 have HR:=Am_ hr
 have h0:=aU.enter (me:=me) h
 unfold fK at h0
 have HT:=Am_ (h0.alloc (.cells #[.int .i64 n] 2))
 have HBN:=Am_ (Mine.new h0.lt (.cells #[.int .i64 n] 2))
 simp only [World.size_alloc] at HBN
 have HSM:=Am_ (show rc.nodes.length<1000000 by
  have hg:=h.good.tb
  rw [←hrc]
  unfold Tb.en
  split
  ·decide
  ·rename_i i hi
   rw [List.getD_eq_getElem?_getD]
   cases hq:s.sh.tb.l[i]? with
   | none=>show en0.rc.nodes.length<_;decide
   | some q=>exact (hg.small i q hq).1)
 clear h h0 hr HTV hrc hgd
 go_enter Tryz.func175,Tryz.ntmps175
 go_upto_region 1 with fail
 generalize (w.alloc (.cells #[.pointer (some ⟨tb,0,none⟩),.pointer (some ⟨p,0,none⟩),.int .i64 me] 114)).alloc (.cells #[.int .i64 n] 2)=w1 at HT HBN ⊢
 generalize hbb:w.heap.size=bt at HT HBN ⊢
 have HBT0:ay (w.heap.size≤bt):=⟨by omega⟩
 clear hbb
 generalize hbn:bt+1=bn at HBN ⊢
 have HNT:ay (bn≠bt∧w.heap.size≤bn):=⟨by have:=HBT0.out;omega⟩
 clear hbn
 go_cut [5] from 10 (fun v5 wc=> ∃ (br:Nat) (A1 A2:Option Addr) (c1 c2:Nat),v5= .pointer (some ⟨br,0,none⟩)∧ay (qF p tb work me bt ok w n rc bn br A1 A2 c1 c2 (aX (iW n (rc.nodes.zip rc.infos)) (jK n rc)) res wc))
 case first=>
  obtain ⟨pR,hpR⟩:=HT.out.pR
  have HC:=Am_ (And.intro HT.out.c1 (And.intro hpR ((af HBN.out.1 0).trans (rfl:_=some (Value.int .i64 n)))))
  clear hpR
  refine bP (n:=9) (S:=fun w'=>w'.cell? ⟨bt,1,none⟩=some (.pointer (some ⟨p,0,none⟩))∧w'.cell? ⟨p,1,none⟩=some (.pointer (some ⟨pR,0,none⟩))∧w'.cell? ⟨bn,0,none⟩=some (.int .i64 n)) (ds:= [8]) (by kernel_rfl) rfl DL zh HC.out (fun hHeld HT_ HW_=>?_)
  have HT:=Am_ HT.out.drew
  have HBN:=Am_ (HBN.out.moves (Moves.drew (Moves.refl _ _)))
  clear HC
  generalize World.drew _=w1 at HT HBN hHeld ⊢
  refine fu [(0,some 10),(1,some 11),(2,some 12),(3,some 13),(4,some 14),(5,some 15)] ?_
  (refine fq (v:=?_) (a':=?_) HT_ (by kernel_rfl) rfl rfl (fun _ _ _ h=>h) (Or.inl ⟨by rfl,?_⟩) ?_ ?_;rotate_left;(intro w';go_simp;with_reducible rfl);rotate_left;(simp only [Act.put,p1_,p2_,p3_,aI,aJ];rfl))
  iterate 5 (refine jm (v:=?_) (a':=?_) HT_ HW_ (by kernel_rfl) rfl rfl (fun _ _ _ h=>h) hHeld (Or.inl ⟨by rfl,?_⟩) ?_ ?_;rotate_left;(rintro w' ⟨s0,s1,s2⟩;go_simp;with_reducible rfl);rotate_left;(simp only [Act.put,p1_,p2_,p3_,aI,aJ];rfl))
  refine bH ?_
  refine Eb (i:=6) (j:=7) (Ni:=some 16) (Nj:=some 5) #[Y_,Y_,Y_,Y_,Y_,Y_,Y_,N_,N_] #[Y_,Y_,Y_,Y_,Y_,Y_,N_,Y_,N_] rfl rfl rfl rfl (by kernel_rfl) (fun K_ hK=>?_) (fun K_ hK=>?_)
  ·refine call_ 208 #[.pointer (some ⟨pR,0,none⟩),.int .i64 n] (by rfl) rfl ?hk6 ?_
   (case hk6=>first | (go_simp;done) | (go_simp;exact enters Tryz.func208 (by kernel_rfl) rfl _ _))
   refine (HT.out.JQ hHeld.2.1).mono ?_
   rintro e w2 hE
   rw [HRC.out] at hE
   obtain ⟨A1,c1,A2,c2,rfl,hl1,hf1,hl2,hf2,hb,hx1,hx2⟩:=hE.out
   have HX:=Am_ (And.intro hx1 (And.intro hx2 hl1))
   clear hx1 hx2
   refine ⟨_,rfl,?_⟩
   refine hK.out _ _ (fun _ hS=>⟨ax hb hS.1,ax hb hS.2.1,ax hb hS.2.2⟩) ?_
   clear hK K_
   refine bT (a':=?_) ?_ ?_
   rotate_left; · show Act.put _ (some 16) _=_;simp only [Act.put,p1_,p2_,p3_,aI,aJ];rfl
   refine xh (i:=7) (N:=some 5) #[Y_,Y_,Y_,Y_,Y_,Y_,Y_,Y_,N_] rfl rfl (by kernel_rfl) (fun K_ hK=>?_)
   refine gJ (v:= .pointer (some ⟨w2.heap.size,0,none⟩)) (w1:=w2.alloc (.cells #[.slice none 0 0,.slice none 0 0,.int .i64 0,.int .i64 0,.int .i64 0,.int .i64 0] 254)) (by rfl) rfl ?ha7 ?_
   (case ha7=>go_simp;first | done | rfl)
   refine hK.out _ _ (fun _ hS=>⟨ax (ai (Below.refl _ _) _) hS.1,ax (ai (Below.refl _ _) _) hS.2.1,ax (ai (Below.refl _ _) _) hS.2.2⟩) ?_
   clear hK K_
   refine bT (a':=?_) ?_ ?_
   rotate_left; · show Act.put _ (some 5) _=_;simp only [Act.put,p1_,p2_,p3_,aI,aJ];rfl
   have HT2:=HT.out.below hb
   have HB:=Am_ (Mine.new HT2.lt (.cells #[.slice none 0 0,.slice none 0 0,.int .i64 0,.int .i64 0,.int .i64 0,.int .i64 0] 254))
   have HT3:=Am_ (HT2.alloc (.cells #[.slice none 0 0,.slice none 0 0,.int .i64 0,.int .i64 0,.int .i64 0,.int .i64 0] 254))
   have HBN3:=Am_ ((HBN.out.moves (Moves.bN _ hb)).alloc (.cells #[.slice none 0 0,.slice none 0 0,.int .i64 0,.int .i64 0,.int .i64 0,.int .i64 0] 254))
   have HBW:ay (w.heap.size≤w2.heap.size):=⟨HT2.moves.size⟩
   have HBT:ay (w2.heap.size≠bt):=⟨by have:=HT2.box.lt;omega⟩
   have HBB:ay (w2.heap.size≠bn):=⟨by have:=(HBN.out.moves (Moves.bN _ hb)).lt;omega⟩
   have hlt1:=HT.out.lt
   have HF1:=Am_ (Kd.dH (ok':=fun k=> ¬ ok k∧k≠w2.heap.size) (Kd.eZ (Kd.eP hf1) (.cells #[.slice none 0 0,.slice none 0 0,.int .i64 0,.int .i64 0,.int .i64 0,.int .i64 0] 254)) (fun k hk=>⟨fun h=>by have:=hlt1 k h;have:=hk.1;omega,by have:=hk.2;omega⟩))
   have HF2:=Am_ (Kd.dH (ok':=fun k=> ¬ ok k∧k≠w2.heap.size) (Kd.eZ (Kd.eP hf2) (.cells #[.slice none 0 0,.slice none 0 0,.int .i64 0,.int .i64 0,.int .i64 0,.int .i64 0] 254)) (fun k hk=>⟨fun h=>by have:=hlt1 k h;have:=hk.1;omega,by have:=hk.2;omega⟩))
   clear HT HBN hHeld hE hl1 hf1 hl2 hf2 hb HT2 hlt1
   generalize w2.alloc (.cells #[.slice none 0 0,.slice none 0 0,.int .i64 0,.int .i64 0,.int .i64 0,.int .i64 0] 254)=w3 at HT3 HB HBN3 HF1 HF2 ⊢
   generalize w2.heap.size=br at HB HBW HBT HBB HF1 HF2 ⊢
   refine cK (i:=8) none HT_ (by kernel_rfl) rfl rfl (by decide) (fun K_ hK=>?_)
   refine fJ (w1:=w3.setCells br 0 [.slice A1 rc.nodes.length c1,.slice A2 rc.infos.length c2,.int .i64 rc.keep,.int .i64 rc.way,.int .i64 rc.old,.int .i64 rc.new]) (by rfl) rfl ?_ ?_
   ·exact gT _ [.slice A1 rc.nodes.length c1,.slice A2 rc.infos.length c2,.int .i64 rc.keep,.int .i64 rc.way,.int .i64 rc.old,.int .i64 rc.new] rfl (by rfl) (by rfl) HB.out.1 rfl (by kernel_rfl) (by simp) (by intro u hu;simp only [List.mem_cons,List.not_mem_nil,or_false] at hu;rcases hu with rfl | rfl | rfl | rfl | rfl | rfl<;>rfl)
   refine hK.out _ _ ?_
   clear hK K_
   have HA:ay (iX p tb work me bt ok w n rc bn br A1 A2 c1 c2 ok s (w3.setCells br 0 [.slice A1 rc.nodes.length c1,.slice A2 rc.infos.length c2,.int .i64 rc.keep,.int .i64 rc.way,.int .i64 rc.old,.int .i64 rc.new])):=⟨{
    task:=HT3.out.setCells HB.out.2 HBW.out HBT.out [.slice A1 rc.nodes.length c1,.slice A2 rc.infos.length c2,.int .i64 rc.keep,.int .i64 rc.way,.int .i64 rc.old,.int .i64 rc.new]
    num:=⟨(bD [.slice A1 rc.nodes.length c1,.slice A2 rc.infos.length c2,.int .i64 rc.keep,.int .i64 rc.way,.int .i64 rc.old,.int .i64 rc.new] 0 bn (fun e=>HBB.out e.symm)).trans HBN3.out.1,HBN3.out.2⟩
    box_:=⟨iG (seg:= [.slice A1 rc.nodes.length c1,.slice A2 rc.infos.length c2,.int .i64 rc.keep,.int .i64 rc.way,.int .i64 rc.old,.int .i64 rc.new]) HB.out.1 rfl,HB.out.2⟩
    nodes:=Kd.dH (Kd.fV HF1.out (fun k hk _=>bD [.slice A1 rc.nodes.length c1,.slice A2 rc.infos.length c2,.int .i64 rc.keep,.int .i64 rc.way,.int .i64 rc.old,.int .i64 rc.new] 0 k hk.2)) (fun k hk=>hk.1)
    infos:=Kd.dH (Kd.fV HF2.out (fun k hk _=>bD [.slice A1 rc.nodes.length c1,.slice A2 rc.infos.length c2,.int .i64 rc.keep,.int .i64 rc.way,.int .i64 rc.old,.int .i64 rc.new] 0 k hk.2)) (fun k hk=>hk.1)
    flat1:=HX.out.1
    flat2:=HX.out.2.1
    cap1:=HX.out.2.2 }⟩
   clear HT3 HB HBN3 HF1 HF2
   generalize w3.setCells br 0 [.slice A1 rc.nodes.length c1,.slice A2 rc.infos.length c2,.int .i64 rc.keep,.int .i64 rc.way,.int .i64 rc.old,.int .i64 rc.new]=w4 at HA ⊢
   refine dN (by kernel_rfl) ?_
   go_wp2_with fail
   go_meet
   case rel=>exact ⟨br,A1,A2,c1,c2,rfl,⟨⟨ok,s,HA.out,HR.out⟩⟩⟩
  ·refine gJ (v:= .pointer (some ⟨w1.heap.size,0,none⟩)) (w1:=w1.alloc (.cells #[.slice none 0 0,.slice none 0 0,.int .i64 0,.int .i64 0,.int .i64 0,.int .i64 0] 254)) (by rfl) rfl ?hb7 ?_
   (case hb7=>go_simp;first | done | rfl)
   refine hK.out _ _ (fun _ hS=>⟨ax (ai (Below.refl _ _) _) hS.1,ax (ai (Below.refl _ _) _) hS.2.1,ax (ai (Below.refl _ _) _) hS.2.2⟩) ?_
   clear hK K_
   refine bT (a':=?_) ?_ ?_
   rotate_left; · show Act.put _ (some 5) _=_;simp only [Act.put,p1_,p2_,p3_,aI,aJ];rfl
   have HB:=Am_ (Mine.new HT.out.lt (.cells #[.slice none 0 0,.slice none 0 0,.int .i64 0,.int .i64 0,.int .i64 0,.int .i64 0] 254))
   have HBW:ay (w.heap.size≤w1.heap.size):=⟨HT.out.moves.size⟩
   have HBT:ay (w1.heap.size≠bt):=⟨by have:=HT.out.box.lt;omega⟩
   have HBB:ay (w1.heap.size≠bn):=⟨by have:=HBN.out.lt;omega⟩
   have HLT:=Am_ HT.out.lt
   have HT:=Am_ (HT.out.alloc (.cells #[.slice none 0 0,.slice none 0 0,.int .i64 0,.int .i64 0,.int .i64 0,.int .i64 0] 254))
   have HBN:=Am_ (HBN.out.alloc (.cells #[.slice none 0 0,.slice none 0 0,.int .i64 0,.int .i64 0,.int .i64 0,.int .i64 0] 254))
   have hHeld:(_∧_∧_):=⟨ax (ai (Below.refl _ _) (.cells #[.slice none 0 0,.slice none 0 0,.int .i64 0,.int .i64 0,.int .i64 0,.int .i64 0] 254)) hHeld.1,ax (ai (Below.refl _ _) (.cells #[.slice none 0 0,.slice none 0 0,.int .i64 0,.int .i64 0,.int .i64 0,.int .i64 0] 254)) hHeld.2.1,ax (ai (Below.refl _ _) (.cells #[.slice none 0 0,.slice none 0 0,.int .i64 0,.int .i64 0,.int .i64 0,.int .i64 0] 254)) hHeld.2.2⟩
   have HSZ:ay (w1.heap.size<(w1.alloc (.cells #[.slice none 0 0,.slice none 0 0,.int .i64 0,.int .i64 0,.int .i64 0,.int .i64 0] 254)).heap.size):=⟨by simp⟩
   generalize w1.alloc (.cells #[.slice none 0 0,.slice none 0 0,.int .i64 0,.int .i64 0,.int .i64 0,.int .i64 0] 254)=w2 at HB HT HBN hHeld HSZ ⊢
   generalize w1.heap.size=br at HB HBW HBT HBB HLT HSZ ⊢
   refine xh (i:=6) (N:=some 16) #[Y_,Y_,Y_,Y_,Y_,Y_,Y_,Y_,N_] rfl rfl (by kernel_rfl) (fun K_ hK=>?_)
   refine call_ 208 #[.pointer (some ⟨pR,0,none⟩),.int .i64 n] (by rfl) rfl ?hk6 ?_
   (case hk6=>first | (go_simp;done) | (go_simp;exact enters Tryz.func208 (by kernel_rfl) rfl _ _))
   refine (HT.out.JQ hHeld.2.1).mono ?_
   rintro e w3 hE
   rw [HRC.out] at hE
   obtain ⟨A1,c1,A2,c2,rfl,hl1,hf1,hl2,hf2,hb,hx1,hx2⟩:=hE.out
   have HX:=Am_ (And.intro hx1 (And.intro hx2 hl1))
   clear hx1 hx2
   refine ⟨_,rfl,?_⟩
   refine hK.out _ _ (fun _ hS=>⟨ax hb hS.1,ax hb hS.2.1,ax hb hS.2.2⟩) ?_
   clear hK K_
   refine bT (a':=?_) ?_ ?_
   rotate_left; · show Act.put _ (some 16) _=_;simp only [Act.put,p1_,p2_,p3_,aI,aJ];rfl
   have HT3:=Am_ (HT.out.below hb)
   have HB:=Am_ (HB.out.moves (Moves.bN _ hb))
   have HBN3:=Am_ (HBN.out.moves (Moves.bN _ hb))
   have hlt1:=HLT.out
   have hsz:=HSZ.out
   have HF1:=Am_ (Kd.dH (ok':=fun k=> ¬ ok k∧k≠br) hf1 (fun k hk=>⟨fun h=>by have:=hlt1 k h;omega,by omega⟩))
   have HF2:=Am_ (Kd.dH (ok':=fun k=> ¬ ok k∧k≠br) hf2 (fun k hk=>⟨fun h=>by have:=hlt1 k h;omega,by omega⟩))
   clear HT HBN hHeld hE hl1 hf1 hl2 hf2 hb hlt1 hsz HLT HSZ
   refine cK (i:=8) none HT_ (by kernel_rfl) rfl rfl (by decide) (fun K_ hK=>?_)
   refine fJ (w1:=w3.setCells br 0 [.slice A1 rc.nodes.length c1,.slice A2 rc.infos.length c2,.int .i64 rc.keep,.int .i64 rc.way,.int .i64 rc.old,.int .i64 rc.new]) (by rfl) rfl ?_ ?_
   ·exact gT _ [.slice A1 rc.nodes.length c1,.slice A2 rc.infos.length c2,.int .i64 rc.keep,.int .i64 rc.way,.int .i64 rc.old,.int .i64 rc.new] rfl (by rfl) (by rfl) HB.out.1 rfl (by kernel_rfl) (by simp) (by intro u hu;simp only [List.mem_cons,List.not_mem_nil,or_false] at hu;rcases hu with rfl | rfl | rfl | rfl | rfl | rfl<;>rfl)
   refine hK.out _ _ ?_
   clear hK K_
   have HA:ay (iX p tb work me bt ok w n rc bn br A1 A2 c1 c2 ok s (w3.setCells br 0 [.slice A1 rc.nodes.length c1,.slice A2 rc.infos.length c2,.int .i64 rc.keep,.int .i64 rc.way,.int .i64 rc.old,.int .i64 rc.new])):=⟨{
    task:=HT3.out.setCells HB.out.2 HBW.out HBT.out [.slice A1 rc.nodes.length c1,.slice A2 rc.infos.length c2,.int .i64 rc.keep,.int .i64 rc.way,.int .i64 rc.old,.int .i64 rc.new]
    num:=⟨(bD [.slice A1 rc.nodes.length c1,.slice A2 rc.infos.length c2,.int .i64 rc.keep,.int .i64 rc.way,.int .i64 rc.old,.int .i64 rc.new] 0 bn (fun e=>HBB.out e.symm)).trans HBN3.out.1,HBN3.out.2⟩
    box_:=⟨iG (seg:= [.slice A1 rc.nodes.length c1,.slice A2 rc.infos.length c2,.int .i64 rc.keep,.int .i64 rc.way,.int .i64 rc.old,.int .i64 rc.new]) HB.out.1 rfl,HB.out.2⟩
    nodes:=Kd.dH (Kd.fV HF1.out (fun k hk _=>bD [.slice A1 rc.nodes.length c1,.slice A2 rc.infos.length c2,.int .i64 rc.keep,.int .i64 rc.way,.int .i64 rc.old,.int .i64 rc.new] 0 k hk.2)) (fun k hk=>hk.1)
    infos:=Kd.dH (Kd.fV HF2.out (fun k hk _=>bD [.slice A1 rc.nodes.length c1,.slice A2 rc.infos.length c2,.int .i64 rc.keep,.int .i64 rc.way,.int .i64 rc.old,.int .i64 rc.new] 0 k hk.2)) (fun k hk=>hk.1)
    flat1:=HX.out.1
    flat2:=HX.out.2.1
    cap1:=HX.out.2.2 }⟩
   clear HT3 HB HBN3 HF1 HF2
   generalize w3.setCells br 0 [.slice A1 rc.nodes.length c1,.slice A2 rc.infos.length c2,.int .i64 rc.keep,.int .i64 rc.way,.int .i64 rc.old,.int .i64 rc.new]=w4 at HA ⊢
   refine dN (by kernel_rfl) ?_
   go_wp2_with fail
   go_meet
   case rel=>exact ⟨br,A1,A2,c1,c2,rfl,⟨⟨ok,s,HA.out,HR.out⟩⟩⟩
 case rest=>
  obtain ⟨br,A1,A2,c1,c2,rfl,HIN⟩:=hcut
  clear HT HBN HR HRC
  obtain ⟨okc,s1,hA,hr⟩:=HIN.out.out
  have y0:=(af hA.box_.1 0).trans (rfl:_=some (Value.slice A1 rc.nodes.length c1))
  clear hA hr
  go_upto_block 0 with fail
  clear y0
  go_wp2_with fail
  go_loopg [20] rc.nodes.length (fun g v20 wr=> ∃ k:Nat,v20= .int .i64 k∧k+g=rc.nodes.length∧ay (qF p tb work me bt ok w n rc bn br A1 A2 c1 c2 (aX (iW n ((rc.nodes.zip rc.infos).drop k)) (jK n rc)) res wr))
  case atStart=>exact ⟨0,rfl,by omega,⟨by have h:=HIN.out;rwa [List.drop_zero]⟩⟩
  case round=>
   obtain ⟨k,rfl,hkg,HQ⟩:=hrel
   clear HIN
   cases gk with
   | zero=>
    obtain ⟨okc,s2,hA,hr0⟩:=HQ.out.out
    have hk:k=rc.nodes.length:=by omega
    have hr:tF n rc s2=some res:=by
     rw [List.drop_of_length_le (by rw [List.length_zip];omega)] at hr0
     exact hr0
    have d1:decide ((k:Int)<(rc.nodes.length:Int))=false:=decide_eq_false (by omega)
    have d2:decide (k<rc.nodes.length)=false:=decide_eq_false (by omega)
    unfold tF at hr
    obtain ⟨o,t,hd,hcase⟩:=aN hr
    have HD:=Am_ hd
    have HCS:=Am_ hcase
    clear hd hcase
    have HA:=Am_ hA
    clear hA hr hr0 HQ hk
    have c0:=HA.out.task.c0
    go_upto_region 13 with (go_at_call 137;refine (HA.out.task.Li HA.out.num HD.out).mono ?_;rintro e wq ⟨⟨okq,hm,hT,he⟩⟩;rcases HCS.out with hw | hw;(obtain ⟨rfl,rfl⟩:=hw;obtain rfl:e= .panicked dI:=he;exact ⟨rfl,⟨⟨okq,hT.moves,hT.run,rfl⟩⟩⟩);obtain ⟨a3,rfl,hr2⟩:=hw;obtain rfl:e= .returned (.int .i64 a3):=he;have HA:=Am_ (HA.out.next hm hT);have HR2:=Am_ hr2;clear hm hT hr2;clear c0)
    clear d1 d2 HD HCS
    have y0:=(af HA.out.box_.1 0).trans (rfl:_=some (Value.slice A1 rc.nodes.length c1))
    have y2:=(af HA.out.box_.1 2).trans (rfl:_=some (Value.int .i64 rc.keep))
    have hmin:(if (rc.nodes.length:Int)<rc.keep then (rc.nodes.length:Int) else rc.keep)=((kr rc:Nat):Int):=by have:=HGD.out;unfold kr;split<;>omega
    have hcl:kr rc≤rc.nodes.length:=by unfold kr;omega
    have hr3:aX (jv (rc.nodes.drop (kr rc))) (fun _=>ku n rc) t=some res:=HR2.out
    have hcp:=HA.out.cap1
    generalize kr rc=q at hmin hcl hr3
    have HQL:=Am_ (And.intro hcl hcp)
    have hn0:(0:Int)≤(q:Int):=by omega
    have hn1:(q:Int)≤(rc.nodes.length:Int):=by omega
    have hn2:q≤rc.nodes.length:=hcl
    have HR3:=Am_ hr3
    clear hr3 HR2 hcl hcp
    go_upto_block 2 with fail
    clear y0 y2 hmin hn0 hn1
    generalize hV:(if c1=q then A1 else Option.map (fun x=>x.add q) A1)=V55
    have HV:=Am_ hV
    clear hV
    go_cut [] from 6 (fun wc=>ay (qF p tb work me bt ok w n rc bn br A1 A2 c1 c2 (ku n rc) res wc))
    case first=>
     have HB:=Am_ (qF.mk (p:=p) (tb:=tb) (work:=work) (me:=me) (bt:=bt) (ok:=ok) (w:=w) (n:=n) (rc:=rc) (bn:=bn) (br:=br) (A1:=A1) (A2:=A2) (c1:=c1) (c2:=c2) (res:=res) ⟨_,_,HA.out,HR3.out⟩)
     clear HA HR3
     go_wp2_with fail
     go_loopg [57] (rc.nodes.length - q) (fun g v57 wr=> ∃ j:Nat,v57= .int .i64 j∧j+g=rc.nodes.length - q∧ay (qF p tb work me bt ok w n rc bn br A1 A2 c1 c2 (aX (jv (rc.nodes.drop (q+j))) (fun _=>ku n rc)) res wr))
     case atStart=>exact ⟨0,rfl,by omega,HB⟩
     case round=>
      obtain ⟨j,rfl,hjg,HQ⟩:=hrel
      clear HB
      cases gk with
      | zero=>
       have d1:decide ((j:Int)<((rc.nodes.length - q:Nat):Int))=false:=decide_eq_false (by omega)
       have d2:decide (j<rc.nodes.length - q)=false:=decide_eq_false (by omega)
       obtain ⟨okc,s2,hA,hr0⟩:=HQ.out.out
       have hr:ku n rc s2=some res:=by
        rw [List.drop_of_length_le (by omega)] at hr0
        exact hr0
       have HA:=Am_ hA
       have HR3:=Am_ hr
       clear hA hr hr0 HQ
       go_wp2_with fail
       go_meet
       case rel=>exact ⟨⟨_,_,HA.out,HR3.out⟩⟩
      | succ g=>
       have d1:decide ((j:Int)<((rc.nodes.length - q:Nat):Int))=true:=decide_eq_true (by omega)
       have d2:decide (j<rc.nodes.length - q)=true:=decide_eq_true (by omega)
       have b1:(0:Int)≤(j:Int):=by omega
       have b2:(j:Int)<((rc.nodes.length - q:Nat):Int):=by omega
       have b3:j<rc.nodes.length - q:=by omega
       have hw1:wrap64 ((j:Int)+1)=((j+1:Nat):Int):=by have:=HSM.out;unfold wrap64;omega
       have HW1:=Am_ hw1
       obtain ⟨okc,s2,hA,hr⟩:=HQ.out.out
       obtain ⟨gN,e1,hcN,hgN⟩:=FR hA.nodes hA.flat1 (q+j) (by omega)
       have hcq: ¬ c1=q:=by have:=HQL.out.2;omega
       subst e1
       obtain rfl:V55=some ⟨gN,q,none⟩:=by
        have h:=HV.out
        rw [if_neg hcq,Option.map_some,jF,Nat.zero_add] at h
        exact h.symm
       have hdr:rc.nodes.drop (q+j)=rc.nodes.getD (q+j) 0::rc.nodes.drop (q+(j+1)):=by
        have hk:q+j<rc.nodes.length:=by omega
        rw [List.drop_eq_getElem_cons hk,List.getD_eq_getElem?_getD,List.getElem?_eq_getElem hk]
        rfl
       rw [hdr] at hr
       simp only [jv] at hr
       generalize rc.nodes.getD (q+j) 0=x at hcN hgN hr
       have HA:=Am_ (hA.alloc (.cells #[.int .i64 x] 45))
       have HBX:=Am_ (Mine.new hA.task.lt (.cells #[.int .i64 x] 45))
       obtain ⟨o,t,hd,hcase⟩:=aN (gm hr)
       have HD:=Am_ hd
       have HCS:=Am_ hcase
       clear hd hcase
       clear hA hr HQ hgN hdr hw1 hcq
       go_upto_region 16 with fail
       clear hcN
       generalize wr.alloc (.cells #[.int .i64 x] 45)=w3 at HA HBX ⊢
       generalize wr.heap.size=bx at HBX ⊢
       have c0:=HA.out.task.c0
       go_wp2_with (go_at_call 137;refine (HA.out.task.Lj HBX.out HD.out).mono ?_;rintro e wq ⟨⟨okq,hm,hT,he⟩⟩;rcases HCS.out with hw | hw;(obtain ⟨rfl,rfl⟩:=hw;obtain rfl:e= .panicked dI:=he;exact ⟨rfl,⟨⟨okq,hT.moves,hT.run,rfl⟩⟩⟩);obtain ⟨a4,rfl,hr2⟩:=hw;obtain rfl:e= .returned (.int .i64 a4):=he;have HA:=Am_ (HA.out.next hm hT);have HR2:=Am_ hr2;clear hm hT hr2;clear c0)
       have HR3:ay (aX (jv (rc.nodes.drop (q+(j+1)))) (fun _=>ku n rc) t=some res):=⟨HR2.out⟩
       clear HR2
       go_roundg g
       case rel=>exact ⟨j+1,by first | rfl | rw [HW1.out],by omega,⟨⟨_,_,HA.out,HR3.out⟩⟩⟩
       case measure=>omega
    case rest=>
    clear HA HR3
    obtain ⟨okc5,s5,hA,hr⟩:=hcut.out.out
    have y0:=(af hA.box_.1 0).trans (rfl:_=some (Value.slice A1 rc.nodes.length c1))
    unfold ku at hr
    have HA:=Am_ hA
    cases hnd:rc.nodes with
    | nil=>
     rw [hnd] at hr y0
     have hr:aX (Fg n 2) (fun _=>eD true) s5=some res:=hr
     obtain ⟨o,t,hd,hcase⟩:=aN hr
     have HD:=Am_ hd
     have HCS:=Am_ hcase
     clear hd hcase
     clear hr hcut
     go_upto_region 20 with fail
     clear y0
     have c0:=HA.out.task.c0
     have c1:=HA.out.task.c1
     have c2:=HA.out.task.c2
     have k0:=(af HA.out.num.1 0).trans (rfl:_=some (Value.int .i64 n))
     go_upto_region 21 with (go_at_call 215;refine (lD p tb work me _ _ _ n 2 HA.out.task.run (o,t) HD.out).mono ?_;rintro e wq ⟨okq,hm,hi,he⟩;rcases HCS.out with hw | hw;(obtain ⟨rfl,rfl⟩:=hw;obtain rfl:e= .panicked dI:=he;exact ⟨rfl,⟨⟨okq,HA.out.task.moves.trans hm,hi,rfl⟩⟩⟩);obtain ⟨_,rfl,hr2⟩:=hw;obtain ⟨_,rfl,rfl⟩:=he;have HA:=Am_ (HA.out.next hm (HA.out.task.next hm hi));have HR3:=Am_ hr2;clear hm hi hr2 c0 c1 c2 k0)
     go_wp2_with fail
     go_ret
     obtain rfl:res=(.ret true,t):=by have h:=HR3.out;injection h with h;exact h.symm
     exact ⟨⟨_,HA.out.task.moves,HA.out.task.run,_,rfl,rfl⟩⟩
    | cons x l=>
     have hl0:0<rc.nodes.length:=by rw [hnd];simp
     obtain ⟨gN,e1,hcN,hgN⟩:=FR HA.out.nodes HA.out.flat1 0 hl0
     have hx:rc.nodes.getD 0 0=x:=by rw [hnd];rfl
     rw [hx] at hcN hgN
     rw [hnd] at hr
     have hr:aX (qx x rc.way rc.old rc.new) (fun _=>tH n) s5=some res:=hr
     have d1:decide ((rc.nodes.length:Int)>0)=true:=decide_eq_true (by omega)
     have d2:decide (0<rc.nodes.length)=true:=decide_eq_true hl0
     subst e1
     obtain ⟨o,t,hd,hcase⟩:=aN hr
     have HD:=Am_ hd
     have HCS:=Am_ hcase
     clear hd hcase
     have HIR:=Am_ (And.intro hgN hl0)
     clear hr hcut hnd hl0 hx hgN hcN
     have c0:=HA.out.task.c0
     go_upto_region 20 with (go_at_call 154;refine (HA.out.task.Ll HA.out.box_ HA.out.nodes HIR.out.1 HIR.out.2 HD.out).mono ?_;rintro e wq ⟨⟨okq,hm,hT,he⟩⟩;rcases HCS.out with hw | hw;(obtain ⟨rfl,rfl⟩:=hw;obtain rfl:e= .panicked dI:=he;exact ⟨rfl,⟨⟨okq,hT.moves,hT.run,rfl⟩⟩⟩);obtain ⟨a5,rfl,hr2⟩:=hw;obtain rfl:e= .returned (.bool a5):=he;have HA:=Am_ (HA.out.next hm hT);have HR2:=Am_ hr2;clear hm hT hr2;clear c0)
     clear y0 HIR HD HCS d1 d2
     have hr:aX (Fg n 2) (fun _=>eD true) t=some res:=HR2.out
     clear HR2
     obtain ⟨o,t,hd,hcase⟩:=aN hr
     have HD:=Am_ hd
     have HCS:=Am_ hcase
     clear hd hcase
     clear hr
     have c0:=HA.out.task.c0
     have c1:=HA.out.task.c1
     have c2:=HA.out.task.c2
     have k0:=(af HA.out.num.1 0).trans (rfl:_=some (Value.int .i64 n))
     go_upto_region 21 with (go_at_call 215;refine (lD p tb work me _ _ _ n 2 HA.out.task.run (o,t) HD.out).mono ?_;rintro e wq ⟨okq,hm,hi,he⟩;rcases HCS.out with hw | hw;(obtain ⟨rfl,rfl⟩:=hw;obtain rfl:e= .panicked dI:=he;exact ⟨rfl,⟨⟨okq,HA.out.task.moves.trans hm,hi,rfl⟩⟩⟩);obtain ⟨_,rfl,hr2⟩:=hw;obtain ⟨_,rfl,rfl⟩:=he;have HA:=Am_ (HA.out.next hm (HA.out.task.next hm hi));have HR3:=Am_ hr2;clear hm hi hr2 c0 c1 c2 k0)
     go_wp2_with fail
     go_ret
     obtain rfl:res=(.ret true,t):=by have h:=HR3.out;injection h with h;exact h.symm
     exact ⟨⟨_,HA.out.task.moves,HA.out.task.run,_,rfl,rfl⟩⟩
   | succ g=>
    have d1:decide ((k:Int)<(rc.nodes.length:Int))=true:=decide_eq_true (by omega)
    have d2:decide (k<rc.nodes.length)=true:=decide_eq_true (by omega)
    have b1:(0:Int)≤(k:Int):=by omega
    have b2:(k:Int)<(rc.nodes.length:Int):=by omega
    have b3:k<rc.nodes.length:=by omega
    have hw1:wrap64 ((k:Int)+1)=((k+1:Nat):Int):=by have:=HSM.out;unfold wrap64;omega
    have HW1:=Am_ hw1
    have hir:k<rc.infos.length:=by have:=HGD.out.1;omega
    obtain ⟨okc,s2,hA,hr⟩:=HQ.out.out
    obtain ⟨gN,e1,hcN,hgN⟩:=FR hA.nodes hA.flat1 k b3
    obtain ⟨gI,e2,hcI,hgI⟩:=FR hA.infos hA.flat2 k hir
    rw [Fp rc.nodes rc.infos k b3 hir] at hr
    simp only [iW] at hr
    generalize rc.nodes.getD k 0=x at hcN hgN hr
    generalize rc.infos.getD k 0=i0 at hcI hgI hr
    subst e1 e2
    have HA:=Am_ ((hA.alloc (.cells #[.int .i64 (k:Int)] 3)).alloc (.cells #[.int .i64 x] 45))
    have HBI:=Am_ ((Mine.new hA.task.lt (.cells #[.int .i64 (k:Int)] 3)).alloc (.cells #[.int .i64 x] 45))
    have HBX:=Am_ (Mine.new (hA.alloc (.cells #[.int .i64 (k:Int)] 3)).task.lt (.cells #[.int .i64 x] 45))
    simp only [World.size_alloc] at HBX
    obtain ⟨o,t,hd,hcase⟩:=aN (gm hr)
    have HD:=Am_ hd
    have HCS:=Am_ hcase
    clear hd hcase
    have HIR:=Am_ (And.intro hgI hir)
    clear hA hr HQ hgN hcI hgI hir hw1
    go_upto_region 5 with fail
    clear hcN
    generalize (wr.alloc (.cells #[.int .i64 (k:Int)] 3)).alloc (.cells #[.int .i64 x] 45)=w3 at HA HBI HBX ⊢
    generalize wr.heap.size=bi at HBI HBX ⊢
    generalize bi+1=bx at HBX ⊢
    have c0:=HA.out.task.c0
    go_upto_if 28 with (go_at_call 154;refine (HA.out.task.Lf HBX.out HA.out.box_ HBI.out HA.out.num HA.out.infos HIR.out.1 HIR.out.2 HD.out).mono ?_;rintro e wq ⟨⟨okq,hm,hT,he⟩⟩;rcases HCS.out with hw | hw;(obtain ⟨rfl,rfl⟩:=hw;obtain rfl:e= .panicked dI:=he;exact ⟨rfl,⟨⟨okq,hT.moves,hT.run,rfl⟩⟩⟩);obtain ⟨a0,rfl,hr2⟩:=hw;obtain rfl:e= .returned (.bool a0):=he;have HA:=Am_ (HA.out.next hm hT);have HBX:=Am_ (HBX.out.moves hm);have HR2:=Am_ hr2;clear hm hT hr2;clear c0)
    clear HBI HIR HD HCS
    cases a0 with
    | true=>
     have HR3:ay (aX (iW n ((rc.nodes.zip rc.infos).drop (k+1))) (jK n rc) t=some res):=⟨HR2.out⟩
     clear HR2
     go_wp2_with fail
     go_roundg g
     case rel=>exact ⟨k+1,by first | rfl | rw [HW1.out],by omega,⟨⟨_,_,HA.out,HR3.out⟩⟩⟩
     case measure=>omega
    | false=>
     have hr:aX (aX (qg x) fun m=>if m=n then iW n ((rc.nodes.zip rc.infos).drop (k+1)) else aX (Ck n) fun b=>if b then eD (some true) else aX (Fg n 0) fun _=>eD (some false)) (jK n rc) t=some res:=HR2.out
     clear HR2
     obtain ⟨o,t,hd,hcase⟩:=aN (gm hr)
     have HD:=Am_ hd
     have HCS:=Am_ hcase
     clear hd hcase
     clear hr
     go_upto_region 6 with fail
     refine bP (n:=6) (S:=fun w'=>w'.cell? ⟨bt,0,none⟩=some (.pointer (some ⟨tb,0,none⟩))∧w'.cell? ⟨bn,0,none⟩=some (.int .i64 n)) (ds:= []) (by kernel_rfl) rfl DN zi ⟨HA.out.task.c0,(af HA.out.num.1 0).trans rfl⟩ (fun hHeld HT_ HW_=>?_)
     have HA:=Am_ HA.out.drew
     have HBX:=Am_ (HBX.out.moves (Moves.drew (Moves.refl _ _)))
     generalize World.drew _=w5 at HA HBX hHeld ⊢
     refine fu [(0,some 29),(1,some 30),(2,some 31),(4,some 33)] ?_
     (refine fq (v:=?_) (a':=?_) HT_ (by kernel_rfl) rfl rfl (fun _ _ _ h=>h) (Or.inl ⟨by rfl,?_⟩) ?_ ?_;rotate_left;(intro w';go_simp;with_reducible rfl);rotate_left;(simp only [Act.put,p1_,p2_,p3_,aI,aJ];rfl))
     iterate 3 (refine jm (v:=?_) (a':=?_) HT_ HW_ (by kernel_rfl) rfl rfl (fun _ _ _ h=>h) hHeld (Or.inl ⟨by rfl,?_⟩) ?_ ?_;rotate_left;(rintro w' ⟨s0,s1⟩;go_simp;with_reducible rfl);rotate_left;(simp only [Act.put,p1_,p2_,p3_,aI,aJ];rfl))
     refine bH ?_
     refine eu (i:=3) (some 32) HT_ (by kernel_rfl) rfl rfl (by decide) (fun K_ hK=>?_)
     refine kJ 137 #[.pointer (some ⟨tb,0,none⟩),.func (.func 211) #[] #[.pointer (some ⟨bt,0,none⟩),.pointer (some ⟨bx,0,none⟩)]] (by rfl) rfl ?hrun3 ?_
     (case hrun3=>first | (go_simp;done) | (go_simp;exact enters Tryz.func137 (by kernel_rfl) rfl _ _))
     refine (HA.out.task.Lg HBX.out HD.out).mono ?_
     rintro e wq ⟨⟨okq,hm,hT,he⟩⟩
     rcases HCS.out with hw | hw
     ·obtain ⟨rfl,rfl⟩:=hw
      obtain rfl:e= .panicked dI:=he
      exact .inr ⟨dI,rfl,rfl,⟨⟨okq,hT.moves,hT.run,rfl⟩⟩⟩
     obtain ⟨a1,rfl,hr2⟩:=hw
     obtain rfl:e= .returned (.int .i64 a1):=he
     refine .inl ⟨.int .i64 a1,rfl,?_⟩
     have HA:=Am_ (HA.out.next hm hT)
     have HR2:=Am_ hr2
     clear hm hT hr2
     refine hK.out _ _ ⟨HA.out.task.c0,(af HA.out.num.1 0).trans rfl⟩ (fun hHeld=>?_)
     clear hK K_
     refine bT (a':=?_) ?_ ?_
     rotate_left; · show Act.put _ (some 32) _=_;simp only [Act.put,p1_,p2_,p3_,aI,aJ];rfl
     refine fu [(5,some 34)] ?_
     (refine fq (v:=?_) (a':=?_) HT_ (by kernel_rfl) rfl rfl (fun _ _ _ h=>h) (Or.inl ⟨by rfl,?_⟩) ?_ ?_;rotate_left;(intro w';go_simp;with_reducible rfl);rotate_left;(simp only [Act.put,p1_,p2_,p3_,aI,aJ];rfl))
     refine bH ?_
     refine dN (bQ HT_.out (by kernel_rfl)) ?_
     clear HBX HD HCS hHeld
     by_cases hm1:a1=n
     ·have e1:(a1 == n)=true:=by simp [hm1]
      have HR3:ay (aX (iW n ((rc.nodes.zip rc.infos).drop (k+1))) (jK n rc) t=some res):=⟨by have h:=HR2.out;rw [if_pos hm1] at h;exact h⟩
      clear HR2 hm1
      go_wp2_with fail
      go_roundg g
      case rel=>exact ⟨k+1,by first | rfl | rw [HW1.out],by omega,⟨⟨_,_,HA.out,HR3.out⟩⟩⟩
      case measure=>omega
     ·have e1:(a1 == n)=false:=by simpa using hm1
      have hr:aX (aX (Ck n) fun b=>if b then eD (some true) else aX (Fg n 0) fun _=>eD (some false)) (jK n rc) t=some res:=by have h:=HR2.out;rw [if_neg hm1] at h;exact h
      clear HR2 hm1
      obtain ⟨o,t,hd,hcase⟩:=aN (gm hr)
      have HD:=Am_ hd
      have HCS:=Am_ hcase
      clear hd hcase
      clear hr
      have c0:=HA.out.task.c0
      go_upto_if 38 with (go_at_call 154;refine (HA.out.task.Lh HA.out.num HD.out).mono ?_;rintro e wq ⟨⟨okq,hm,hT,he⟩⟩;rcases HCS.out with hw | hw;(obtain ⟨rfl,rfl⟩:=hw;obtain rfl:e= .panicked dI:=he;exact ⟨rfl,⟨⟨okq,hT.moves,hT.run,rfl⟩⟩⟩);obtain ⟨a2,rfl,hr2⟩:=hw;obtain rfl:e= .returned (.bool a2):=he;have HA:=Am_ (HA.out.next hm hT);have HR2:=Am_ hr2;clear hm hT hr2;clear c0)
      clear HD HCS
      cases a2 with
      | true=>
       have HR3:ay (eD true t=some res):=⟨HR2.out⟩
       clear HR2
       go_wp2_with fail
       go_ret
       obtain rfl:res=(.ret true,t):=by have h:=HR3.out;injection h with h;exact h.symm
       exact ⟨⟨_,HA.out.task.moves,HA.out.task.run,_,rfl,rfl⟩⟩
      | false=>
       have hr:aX (aX (Fg n 0) fun _=>eD (some false)) (jK n rc) t=some res:=HR2.out
       clear HR2
       obtain ⟨o,t,hd,hcase⟩:=aN (gm hr)
       have HD:=Am_ hd
       have HCS:=Am_ hcase
       clear hd hcase
       clear hr
       have c0:=HA.out.task.c0
       have c1:=HA.out.task.c1
       have c2:=HA.out.task.c2
       have k0:=(af HA.out.num.1 0).trans (rfl:_=some (Value.int .i64 n))
       go_upto_region 10 with (go_at_call 215;refine (lD p tb work me _ _ _ n 0 HA.out.task.run (o,t) HD.out).mono ?_;rintro e wq ⟨okq,hm,hi,he⟩;rcases HCS.out with hw | hw;(obtain ⟨rfl,rfl⟩:=hw;obtain rfl:e= .panicked dI:=he;exact ⟨rfl,⟨⟨okq,HA.out.task.moves.trans hm,hi,rfl⟩⟩⟩);obtain ⟨_,rfl,hr2⟩:=hw;obtain ⟨_,rfl,rfl⟩:=he;have HA:=Am_ (HA.out.next hm (HA.out.task.next hm hi));have HR3:=Am_ hr2;clear hm hi hr2 c0 c1 c2 k0)
       go_wp2_with fail
       go_ret
       obtain rfl:res=(.ret false,t):=by have h:=HR3.out;injection h with h;exact h.symm
       exact ⟨⟨_,HA.out.task.moves,HA.out.task.run,_,rfl,rfl⟩⟩
structure Sn where
 ref:Int
 info:Int
 node:Nd
 ways:List Int
abbrev kSn:Kd Sn:=Kd.iso (Kd.pair (Kd.int .i64) (Kd.pair (Kd.int .i64) (Kd.pair kNd (Kd.slice 45 (Kd.int .i64))))) (fun s=>(s.ref,s.info,s.node,s.ways))
theorem CY {w:World} {base:Nat} {ok:Nat→Prop} {s:Sn} {cs:List Value} {v:Value} (h:kNd.M w base ok s.node cs) (hv:(Kd.int .i64).R 45 w base ok v s.ways):kSn.M w base ok s (.int .i64 s.ref:: .int .i64 s.info::(cs++ [v])):=
 ⟨[.int .i64 s.ref],.int .i64 s.info::(cs++ [v]),rfl,rfl,[.int .i64 s.info],cs++ [v],rfl,rfl,cs,[v],rfl,h,⟨v,rfl,hv⟩⟩
def sn0:Sn:=⟨0,0,nd0,[]⟩
def VSn (N:Nat) (a:Sn × Int) (ok:Nat→Prop) (v:Value) (w:World):Prop:= ∃ cs,v= .tuple #[.agg cs.toArray,.int .u8 a.2]∧kSn.M w N (fun k=> ¬ ok k) a.1 cs
def qA (r:Int):Nat→Nat→List Int→Pr Ws (List Int)
 | 0,_,acc=>eD acc
 | m+1,i,acc=>aX (Ip r (i:Int)) fun x=>qA r m (i+1) (acc++ [x])
def KZ (m:Int):Pr Ws (Sn × Int):=aX (qd m) fun _=>eD (sn0,1)
def tX (r:Int) (first b:Bool):Pr Ws (Sn × Int):=if b && first then eD (sn0,2) else aX (qg r) fun m=>aX (vH m) fun st=>if st=1 then KZ m else eD (sn0,1)
def nD (n now:Int):Pr Ws Bool:=if now=2 then eD true else if now=1 then qd n else eD false
def wV (r n:Int) (first:Bool):Pr Ws (Sn × Int):=aX (vH n) fun now=>aX (nD n now) (tX r first)
def lY (r n:Int) (first:Bool) (nd:Nd) (ws:List Int):Pr Ws (Sn × Int):=aX (qg r) fun m=>if m=n then eD (⟨r,n,nd,ws⟩,0) else wV r n first
def KY (r n:Int) (first:Bool):Pr Ws (Sn × Int):=aX (Db r) fun nd=>aX (qA r nd.ways.length 0 []) (lY r n first nd)
def lG (was:Int) (second:Bool):Bool:=(was == 0) || ((was == 2) && !second)
def Gw (r n:Int) (first c:Bool):Pr Ws (Sn × Int):=if c then KY r n first else wV r n first
def loadT (r:Int):Pr Ws (Sn × Int):=aX (markT r) fun first=>aX (qg r) fun n=>aX (vH n) fun was=>aX (markT r) fun second=>Gw r n first (lG was second)
structure fO (p tb:Nat) (work:Value) (me:Int) (bt:Nat) (ok:Nat→Prop) (w:World) (r:Int) (bx b4:Nat) (okc:Nat→Prop) (s:TS Ws) (wc:World):Prop where
 task:aU p tb work me bt ok w okc s wc
 box_:Mine okc wc bx (ET r)
 res:Mine okc wc b4 (.cells #[.int .i64 0,.int .i64 0,.bool false,.bool false,.slice none 0 0,.slice none 0 0,.slice none 0 0,.slice none 0 0] 195 (0,0))
section
variable {p tb:Nat} {work:Value} {me:Int} {bt:Nat} {ok okc ok2:Nat→Prop} {w wc w2:World} {r:Int} {bx b4:Nat} {s s2:TS Ws}
theorem fO.next (h:fO p tb work me bt ok w r bx b4 okc s wc) (m:Moves okc ok2 wc w2) (t:aU p tb work me bt ok w ok2 s2 w2):fO p tb work me bt ok w r bx b4 ok2 s2 w2:=⟨t,h.box_.moves m,h.res.moves m⟩
theorem fO.below (h:fO p tb work me bt ok w r bx b4 okc s wc) (b:Below wc.heap.size wc w2):fO p tb work me bt ok w r bx b4 okc s w2:=h.next (Moves.bN _ b) (h.task.below b)
theorem fO.alloc (h:fO p tb work me bt ok w r bx b4 okc s wc) (o:Obj):fO p tb work me bt ok w r bx b4 okc s (wc.alloc o):=h.below (ai (Below.refl _ _) o)
theorem fO.drew (h:fO p tb work me bt ok w r bx b4 okc s wc):fO p tb work me bt ok w r bx b4 okc s wc.drew:=h.below (aZ (Below.refl _ _))
theorem aU.KF (h:aU p tb work me bt ok w okc s wc) (r:Int) {pA:Nat} (hp:wc.cell? ⟨p,0,none⟩=some (.pointer (some ⟨pA,0,none⟩))):
  Calls Tryz.prog 126 #[.pointer (some ⟨pA,0,none⟩),.int .i64 r] wc fun e w1=> ∃ v ok1,e= .returned v∧FV wc.heap.size (s.sh.ar.look r).1 v w1∧aU p tb work me bt ok w ok1 { s with sh:= { s.sh with ar:=(s.sh.ar.look r).2 } } w1∧Moves okc ok1 wc w1∧(∀ k,ok1 k→okc k)∧w1.cell? ⟨p,0,none⟩=some (.pointer (some ⟨pA,0,none⟩)):=by
 obtain ⟨okS,hk,⟨⟨okA,okR,okE,pA1,pR,pE,hw⟩,hg⟩,hd⟩:=h.run.direct
 have h1:=(af hw.box 0).symm.trans hp
 injection h1 with h1
 injection h1 with h1
 injection h1 with h1
 injection h1 with h1
 subst h1
 refine (oO r wc hw.ar hg.ar.fits).mono ?_
 rintro e w1 ⟨⟨v,rfl,hv⟩,ha,hm⟩
 obtain ⟨h1,h2⟩:=hw.dD ha hm
 obtain ⟨ok1,h3,h4,h5⟩:=hd _ _ w1 ⟨⟨_,_,_,_,_,_,h1⟩,⟨hg.ar.look r,hg.ep,hg.tb⟩⟩ h2
 exact ⟨v,ok1,rfl,hv,h.next h4 h3,h4,fun k hk1=>(h5 k hk1).elim id (fun h6=>hk k ((hw.ok k).2 h6)),(af h1.box 0).trans rfl⟩
theorem aU.pA (h:aU p tb work me bt ok w okc s wc): ∃ pA,wc.cell? ⟨p,0,none⟩=some (.pointer (some ⟨pA,0,none⟩)):=by
 obtain ⟨_,_,⟨⟨_,_,_,pA,_,_,hw⟩,_⟩,_⟩:=h.run.direct
 exact ⟨pA,(af hw.box 0).trans rfl⟩
end
structure uE (p tb:Nat) (work:Value) (me:Int) (bt:Nat) (ok:Nat→Prop) (w:World) (r:Int) (bx b4:Nat) (rest:Pr Ws (Sn × Int)) (res:Out (Sn × Int) × TS Ws) (wc:World):Prop where
 out: ∃ okc s,fO p tb work me bt ok w r bx b4 okc s wc∧rest s=some res
def Fr (okc D:Nat→Prop) (k:Nat):Prop:= ¬ okc k∧D k
theorem iR {α:Type} {d:Kd α} {e N:Nat} {okc ok2 D:Nat→Prop} {wc w2:World} {v:Value} {xs:List α} (h:d.R e wc N (Fr okc D) v xs) (m:Moves okc ok2 wc w2):d.R e w2 N (Fr ok2 D) v xs:=
 Kd.bg (Kd.cZ (Kd.bR h) (fun k hk hlt=>m.block k hlt hk.1.1)) (fun k hk=>⟨fun h1=>(m.fresh k h1).elim hk.1.1 (fun h2=>by have:=hk.2.2.1;omega),hk.1.2⟩)
theorem iO {α:Type} {d:Kd α} {e N:Nat} {okc D:Nat→Prop} {wc w2:World} {v:Value} {xs:List α} (h:d.R e wc N (Fr okc D) v xs) (g:Nat) (hg: ∀ k,D k→k≠g) (hb: ∀ k,k≠g→w2.heap[k]?=wc.heap[k]?):d.R e w2 N (Fr okc D) v xs:=
 Kd.cZ h (fun k hk _=>hb k (hg k hk.2))
section
variable {p tb:Nat} {work:Value} {me:Int} {bt:Nat} {ok okc ok2:Nat→Prop} {w wc w2:World} {r n:Int} {bx b4 b10 N:Nat} {s s2:TS Ws} {nd:Nd} {bs:List Nat} {ws:List Int}
theorem aU.grown (h:aU p tb work me bt ok w okc s wc) {row:Option Nat} (hg:wc.grownBy w2 row) (hr: ∀ k,row=some k→ ¬ okc k∧w.heap.size≤k∧k≠bt):aU p tb work me bt ok w okc s w2:=
 ⟨h.run.step (bB p) hg.size (fun k hk hlt=>hg.block k hlt (fun e=>(hr k e.symm).1 hk)),h.moves.grown hg (fun k e=> .inr (hr k e).2.1),⟨(hg.block bt h.box.lt (fun e=>(hr bt e.symm).2.2 rfl)).trans h.box.1,h.box.2⟩⟩
theorem Mine.grown {g:Nat} {o:Obj} (h:Mine okc wc g o) {row:Option Nat} (hg:wc.grownBy w2 row) (hr: ∀ k,row=some k→k≠g):Mine okc w2 g o:=⟨bG h.1 hg (fun e=>hr g e.symm rfl),h.2⟩
theorem fO.grown (h:fO p tb work me bt ok w r bx b4 okc s wc) {row:Option Nat} (hg:wc.grownBy w2 row) (hr: ∀ k,row=some k→ ¬ okc k∧w.heap.size≤k∧k≠bt∧k≠bx∧k≠b4):fO p tb work me bt ok w r bx b4 okc s w2:=
 ⟨h.task.grown hg (fun k e=>⟨(hr k e).1,(hr k e).2.1,(hr k e).2.2.1⟩),Mine.grown h.box_ hg (fun k e=>(hr k e).2.2.2.1),Mine.grown h.res hg (fun k e=>(hr k e).2.2.2.2)⟩
theorem fO.set (h:fO p tb work me bt ok w r bx b4 okc s wc) {q:Addr} (hn: ¬ okc q.block) (hw:w.heap.size≤q.block) (h1:q.block≠bt) (h2:q.block≠bx) (h3:q.block≠b4) (u:Value):fO p tb work me bt ok w r bx b4 okc s (wc.setCell q u):=
 ⟨h.task.set hn hw h1 u,h.box_.far h2 u,h.res.far h3 u⟩
theorem fO.setCells (h:fO p tb work me bt ok w r bx b4 okc s wc) {q:Nat} (hn: ¬ okc q) (hw:w.heap.size≤q) (h1:q≠bt) (h2:q≠bx) (h3:q≠b4) (seg:List Value):fO p tb work me bt ok w r bx b4 okc s (wc.setCells q 0 seg):=
 ⟨h.task.setCells hn hw h1 seg,⟨(bD seg 0 bx (fun e=>h2 e.symm)).trans h.box_.1,h.box_.2⟩,⟨(bD seg 0 b4 (fun e=>h3 e.symm)).trans h.res.1,h.res.2⟩⟩
structure lm (N:Nat) (r n:Int) (nd:Nd) (bs:List Nat) (b10:Nat) (Ap:Option Addr) (cp:Nat) (Ak:Option Addr) (ck:Nat) (Ay:Option Addr) (cy:Nat) (okc:Nat→Prop) (Aw:Option Addr) (cw:Nat) (ws:List Int) (wc:World):Prop where
 box:Mine okc wc b10 (.cells #[.int .i64 r,.int .i64 n,.bool nd.inner,.bool nd.tagged,.slice Ap nd.pairs.length cp,.slice Ak nd.keys.length ck,.slice Ay nd.ways.length cy,.slice Aw ws.length cw] 195 (0,0))
 prs:dZ.R 121 wc N (Fr okc (fun q=>q∉bs∧some q≠(Value.slice Aw ws.length cw).ownBlock)) (.slice Ap nd.pairs.length cp) nd.pairs
 keys:(Kd.int .i64).R 2 wc N (Fr okc (fun q=>q∉bs∧some q≠(Value.slice Aw ws.length cw).ownBlock)) (.slice Ak nd.keys.length ck) nd.keys
 ways:(Kd.int .i64).R 45 wc N (Fr okc (fun q=>q∉bs∧some q≠(Value.slice Aw ws.length cw).ownBlock)) (.slice Ay nd.ways.length cy) nd.ways
 row:(Kd.int .i64).R 45 wc N (Fr okc (fun q=>q∉bs)) (.slice Aw ws.length cw) ws
variable {Ap Ak Ay Aw:Option Addr} {cp ck cy cw:Nat}
theorem lm.moves (h:lm N r n nd bs b10 Ap cp Ak ck Ay cy okc Aw cw ws wc) (m:Moves okc ok2 wc w2):lm N r n nd bs b10 Ap cp Ak ck Ay cy ok2 Aw cw ws w2:=⟨h.box.moves m,iR h.prs m,iR h.keys m,iR h.ways m,iR h.row m⟩
theorem lm.push (h:lm N r n nd bs b10 Ap cp Ak ck Ay cy okc Aw cw ws wc) (hb:b10∈bs) {x:Int} {A1:Option Addr} {c1:Nat} (hR:(Kd.int .i64).R 45 w2 N (Fr okc (fun q=>q∉bs)) (.slice A1 (ws++ [x]).length c1) (ws++ [x])) (hg:wc.grownBy w2 (Value.slice Aw ws.length cw).ownBlock) (hat:(Value.slice A1 (ws++ [x]).length c1).ownBlock=(Value.slice Aw ws.length cw).ownBlock∨ ∃ b,(Value.slice A1 (ws++ [x]).length c1).ownBlock=some b∧wc.heap.size≤b):
  lm N r n nd bs b10 Ap cp Ak ck Ay cy okc A1 c1 (ws++ [x]) (w2.setCell ⟨b10,7,none⟩ (.slice A1 (ws++ [x]).length c1)):=by
 have far: ∀ k,k≠b10→(w2.setCell ⟨b10,7,none⟩ (.slice A1 (ws++ [x]).length c1)).heap[k]?=w2.heap[k]?:=fun k hk=>Below.heap_setCell _ ⟨b10,7,none⟩ _ k hk
 have ne1: ∀ k,k∉bs→k≠b10:=fun k hk e=>hk (e▸hb)
 refine ⟨?_,?_,?_,?_,?_⟩
 ·exact Mine.set (Mine.grown h.box hg (fun k e=>ne1 k (h.row.1 k e).2)) 7 (.slice A1 (ws++ [x]).length c1)
 ·exact iO (D:=fun q=>q∉bs∧some q≠(Value.slice A1 (ws++ [x]).length c1).ownBlock) (Kd.bg (Kd.pK (Kd.bg (ok':=fun k=>Fr okc (fun q=>q∉bs) k∧some k≠(Value.slice Aw ws.length cw).ownBlock) h.prs (fun k hk=>⟨⟨hk.1,hk.2.1⟩,hk.2.2⟩)) hg hat) (fun k hk=>⟨hk.1.1,hk.1.2,hk.2⟩)) b10 (fun k hk=>ne1 k hk.1) far
 ·exact iO (D:=fun q=>q∉bs∧some q≠(Value.slice A1 (ws++ [x]).length c1).ownBlock) (Kd.bg (Kd.pK (Kd.bg (ok':=fun k=>Fr okc (fun q=>q∉bs) k∧some k≠(Value.slice Aw ws.length cw).ownBlock) h.keys (fun k hk=>⟨⟨hk.1,hk.2.1⟩,hk.2.2⟩)) hg hat) (fun k hk=>⟨hk.1.1,hk.1.2,hk.2⟩)) b10 (fun k hk=>ne1 k hk.1) far
 ·exact iO (D:=fun q=>q∉bs∧some q≠(Value.slice A1 (ws++ [x]).length c1).ownBlock) (Kd.bg (Kd.pK (Kd.bg (ok':=fun k=>Fr okc (fun q=>q∉bs) k∧some k≠(Value.slice Aw ws.length cw).ownBlock) h.ways (fun k hk=>⟨⟨hk.1,hk.2.1⟩,hk.2.2⟩)) hg hat) (fun k hk=>⟨hk.1.1,hk.1.2,hk.2⟩)) b10 (fun k hk=>ne1 k hk.1) far
 ·exact iO hR b10 ne1 far
theorem lm.start (hp:dZ.R 121 wc N (Fr okc (fun q=>q∉bs)) (.slice Ap nd.pairs.length cp) nd.pairs) (hk:(Kd.int .i64).R 2 wc N (Fr okc (fun q=>q∉bs)) (.slice Ak nd.keys.length ck) nd.keys) (hy:(Kd.int .i64).R 45 wc N (Fr okc (fun q=>q∉bs)) (.slice Ay nd.ways.length cy) nd.ways)
  {cur:Array Value} (hB:Mine okc wc b10 (.cells cur 195 (0,0))) (hl:cur.size=8) (hb:b10∈bs):
  lm N r n nd bs b10 Ap cp Ak ck Ay cy okc none 0 [] (wc.setCells b10 0 [.int .i64 r,.int .i64 n,.bool nd.inner,.bool nd.tagged,.slice Ap nd.pairs.length cp,.slice Ak nd.keys.length ck,.slice Ay nd.ways.length cy,.slice none 0 0]):=by
 have ne1: ∀ k,k∉bs∧some k≠(Value.slice none ([]:List Int).length 0).ownBlock→k≠b10:=fun k hk e=>hk.1 (e▸hb)
 have far: ∀ k,k≠b10→(wc.setCells b10 0 [.int .i64 r,.int .i64 n,.bool nd.inner,.bool nd.tagged,.slice Ap nd.pairs.length cp,.slice Ak nd.keys.length ck,.slice Ay nd.ways.length cy,.slice none 0 0]).heap[k]?=wc.heap[k]?:=fun k hk=>bD _ 0 k hk
 have up: ∀ k,Fr okc (fun q=>q∉bs) k→Fr okc (fun q=>q∉bs∧some q≠(Value.slice none ([]:List Int).length 0).ownBlock) k:=fun k hk=>⟨hk.1,hk.2,fun e=>by cases e⟩
 exact ⟨⟨iG hB.1 hl,hB.2⟩,iO (Kd.bg hp up) b10 ne1 far,iO (Kd.bg hk up) b10 ne1 far,iO (Kd.bg hy up) b10 ne1 far,Kd.fB _ _ _ _ _⟩
theorem lm.kSn (h:lm N r n nd bs b10 Ap cp Ak ck Ay cy okc Aw cw ws wc) (g:Nat) (hg:g∈bs) (hb: ∀ k,k≠g→w2.heap[k]?=wc.heap[k]?):kSn.M w2 N (fun k=> ¬ okc k) ⟨r,n,nd,ws⟩ [.int .i64 r,.int .i64 n,.bool nd.inner,.bool nd.tagged,.slice Ap nd.pairs.length cp,.slice Ak nd.keys.length ck,.slice Ay nd.ways.length cy,.slice Aw ws.length cw]:=
 CY (s:=⟨r,n,nd,ws⟩) (wU (n:=nd) (Kd.bg (iO h.prs g (fun k hk e=>hk.1 (e▸hg)) hb) (fun k hk=>hk.1)) (Kd.bg (iO h.keys g (fun k hk e=>hk.1 (e▸hg)) hb) (fun k hk=>hk.1)) (Kd.bg (iO h.ways g (fun k hk e=>hk.1 (e▸hg)) hb) (fun k hk=>hk.1))) (Kd.bg (iO h.row g (fun k hk e=>hk (e▸hg)) hb) (fun k hk=>hk.1))
structure FU (p tb:Nat) (work:Value) (me:Int) (bt:Nat) (ok:Nat→Prop) (w:World) (pA:Nat) (okc:Nat→Prop) (wc:World) (nd:Nd) (s2:TS Ws) (e:Ending) (w1:World):Prop where
 out: ∃ Ap cp Ak ck Ay cy ok1,e= .returned (.agg #[.bool nd.inner,.bool nd.tagged,.slice Ap nd.pairs.length cp,.slice Ak nd.keys.length ck,.slice Ay nd.ways.length cy])∧(∀ bs:List Nat,(∀ q∈bs,q<wc.heap.size∨w1.heap.size≤q)→ ∀ N,N≤wc.heap.size→dZ.R 121 w1 N (Fr ok1 (fun q=>q∉bs)) (.slice Ap nd.pairs.length cp) nd.pairs∧(Kd.int .i64).R 2 w1 N (Fr ok1 (fun q=>q∉bs)) (.slice Ak nd.keys.length ck) nd.keys∧(Kd.int .i64).R 45 w1 N (Fr ok1 (fun q=>q∉bs)) (.slice Ay nd.ways.length cy) nd.ways)∧aU p tb work me bt ok w ok1 s2 w1∧Moves okc ok1 wc w1∧w1.cell? ⟨p,0,none⟩=some (.pointer (some ⟨pA,0,none⟩))
theorem aU.EQ (h:aU p tb work me bt ok w okc s wc) {pA:Nat} (hp:wc.cell? ⟨p,0,none⟩=some (.pointer (some ⟨pA,0,none⟩))) (hnd:(s.sh.ar.look r).1=nd) (hs2:({ s with sh:= { s.sh with ar:=(s.sh.ar.look r).2 } }:TS Ws)=s2):
  Calls Tryz.prog 126 #[.pointer (some ⟨pA,0,none⟩),.int .i64 r] wc (FU p tb work me bt ok w pA okc wc nd s2):=by
 refine (h.KF r hp).mono ?_
 rintro e w1 ⟨v,ok1,rfl,hv,ht,hm,hk,hc⟩
 rw [hnd] at hv
 rw [hs2] at ht
 obtain ⟨vp,vk,vy,rfl,h1,h2,h3⟩:=hv.out
 obtain ⟨Ap,cp,rfl⟩:=Kd.aV h1
 obtain ⟨Ak,ck,rfl⟩:=Kd.aV h2
 obtain ⟨Ay,cy,rfl⟩:=Kd.aV h3
 have hlt:=h.lt
 have up: ∀ bs:List Nat,(∀ q∈bs,q<wc.heap.size∨w1.heap.size≤q)→ ∀ k,wc.heap.size≤k→k<w1.heap.size→Fr ok1 (fun q=>q∉bs) k:=fun bs hb k h1 h2=>⟨fun h3=>by have:=hlt k (hk k h3);omega,fun h3=>by have:=hb k h3;omega⟩
 exact ⟨Ap,cp,Ak,ck,Ay,cy,ok1,rfl,fun bs hb N hN=>⟨Kd.eT (Kd.bg (Kd.bR h1) (fun k hk=>up bs hb k hk.2.1 hk.2.2.1)) hN,Kd.eT (Kd.bg (Kd.bR h2) (fun k hk=>up bs hb k hk.2.1 hk.2.2.1)) hN,Kd.eT (Kd.bg (Kd.bR h3) (fun k hk=>up bs hb k hk.2.1 hk.2.2.1)) hN⟩,ht,hm,hc⟩
end
structure xV (p tb:Nat) (work:Value) (me:Int) (bt:Nat) (ok:Nat→Prop) (w:World) (r n:Int) (bx b4 b10:Nat) (nd:Nd) (j:Nat) (rest:List Int→Pr Ws (Sn × Int)) (res:Out (Sn × Int) × TS Ws) (wc:World):Prop where
 out: ∃ okc s Ap cp Ak ck Ay cy Aw cw ws,fO p tb work me bt ok w r bx b4 okc s wc∧lm w.heap.size r n nd [bt,bx,b4,b10] b10 Ap cp Ak ck Ay cy okc Aw cw ws wc∧ws.length=j∧rest ws s=some res
def yC:Bool × List (List Nat × List Nat):=(true,[([],[]),([],[]),([],[]),([2],[2]),([3],[3]),([4],[4]),([5],[5]),([],[]),([6,7],[6,7]),([0,1,8],[0,1,8]),([],[]),([10,9,8,0,1,2,3,4,5,6,7,8,9,10],[9,10])])
def Fw:List Nat:= [0,0,0,4,12,28,60,0,252,511,0,2047]
theorem Bu:fG .any (opsOf Tryz.f167 6)=yC:=by kernel_rfl
theorem vW:bM yC.2 Fw=true:=by kernel_rfl
def uO:Bool × List (List Nat × List Nat):=(true,[([],[]),([0],[0]),([],[]),([2],[2]),([],[]),([3,4],[3,4]),([5],[5]),([1,6,5],[1,6]),([0,1,2,3,4,5,6,7],[]),([8,7,7,0,1,2,3,4,5,6,7],[7,8])])
def Ca:List Nat:= [0,1,0,4,0,28,60,127,255,511]
theorem xQ:fG .any (opsOf Tryz.f167 10)=uO:=by kernel_rfl
theorem sP:bM uO.2 Ca=true:=by kernel_rfl
theorem wW (p tb:Nat) (work:Value) (me r:Int) (ok:Nat→Prop) (s:TS Ws) (w:World) (h:dX (shW p) tb work ok s w) (res:Out (Sn × Int) × TS Ws) (hr:loadT r s=some res):
  Calls Tryz.prog 167 #[fo tb p me,.int .i64 r] w (gF (shW p) tb work (VSn w.heap.size) ok w res):=by
 have HTV:fo tb p me= .agg #[.pointer (some ⟨tb,0,none⟩),.pointer (some ⟨p,0,none⟩),.int .i64 me]:=rfl
 rw [HTV]
 unfold loadT at hr
 obtain ⟨o,t,hd,hcase⟩:=aN hr
 have HD:=Am_ hd
 have HCS:=Am_ hcase
 clear hd hcase
 have h0:=aU.enter (me:=me) h
 unfold fK at h0
 have HA:ay (fO p tb work me w.heap.size ok w r (w.heap.size+1) (w.heap.size+1+1) ok s (((w.alloc (.cells #[.pointer (some ⟨tb,0,none⟩),.pointer (some ⟨p,0,none⟩),.int .i64 me] 114)).alloc (.cells #[.int .i64 r] 45)).alloc (.cells #[.int .i64 0,.int .i64 0,.bool false,.bool false,.slice none 0 0,.slice none 0 0,.slice none 0 0,.slice none 0 0] 195))):=⟨{
  task:=(h0.alloc (.cells #[.int .i64 r] 45)).alloc (.cells #[.int .i64 0,.int .i64 0,.bool false,.bool false,.slice none 0 0,.slice none 0 0,.slice none 0 0,.slice none 0 0] 195)
  box_:=by
   have h1:=(Mine.new h0.lt (.cells #[.int .i64 r] 45)).alloc (.cells #[.int .i64 0,.int .i64 0,.bool false,.bool false,.slice none 0 0,.slice none 0 0,.slice none 0 0,.slice none 0 0] 195)
   simp only [World.size_alloc] at h1
   exact h1
  res:=by
   have h1:=Mine.new (h0.alloc (.cells #[.int .i64 r] 45)).lt (.cells #[.int .i64 0,.int .i64 0,.bool false,.bool false,.slice none 0 0,.slice none 0 0,.slice none 0 0,.slice none 0 0] 195)
   simp only [World.size_alloc] at h1
   exact h1 }⟩
 clear h h0 hr HTV
 go_enter Tryz.func167,Tryz.ntmps167
 go_upto_region 1 with fail
 generalize ((w.alloc (.cells #[.pointer (some ⟨tb,0,none⟩),.pointer (some ⟨p,0,none⟩),.int .i64 me] 114)).alloc (.cells #[.int .i64 r] 45)).alloc (.cells #[.int .i64 0,.int .i64 0,.bool false,.bool false,.slice none 0 0,.slice none 0 0,.slice none 0 0,.slice none 0 0] 195)=w1 at HA ⊢
 generalize hbb:w.heap.size=bt at HA ⊢
 have HW0:=Am_ hbb
 clear hbb
 generalize hbx:bt+1=bx at HA ⊢
 generalize hb4:bx+1=b4 at HA ⊢
 have HN4:ay (bt<bx∧bx<b4∧w.heap.size=bt):=⟨by have:=HW0.out;omega⟩
 clear hbx hb4 HW0
 have c0:=HA.out.task.c0
 have c1:=HA.out.task.c1
 have c2:=HA.out.task.c2
 have k0:=(af HA.out.box_.1 0).trans (rfl:_=some (Value.int .i64 r))
 go_upto_region 2 with (go_at_call 199;refine (nC p tb work me _ _ _ r HA.out.task.run (o,t) HD.out).mono ?_;rintro e wq ⟨okq,hm,hi,he⟩;rcases HCS.out with hw | hw;(obtain ⟨rfl,rfl⟩:=hw;obtain rfl:e= .panicked dI:=he;exact ⟨rfl,⟨⟨okq,HA.out.task.moves.trans hm,hi,rfl⟩⟩⟩);obtain ⟨first,rfl,hr2⟩:=hw;obtain ⟨_,rfl,rfl⟩:=he;clear k0;have HA:=Am_ (HA.out.next hm (HA.out.task.next hm hi));have HR2:=Am_ hr2;clear hm hi hr2 c0 c1 c2)
 have hr:=HR2.out
 clear HR2 HD HCS
 obtain ⟨o,t,hd,hcase⟩:=aN hr
 have HD:=Am_ hd
 have HCS:=Am_ hcase
 clear hd hcase
 clear hr
 have c0:=HA.out.task.c0
 have c1:=HA.out.task.c1
 have c2:=HA.out.task.c2
 have k0:=(af HA.out.box_.1 0).trans (rfl:_=some (Value.int .i64 r))
 go_upto_region 3 with (go_at_call 200;refine (kC p tb work me _ _ _ r HA.out.task.run (o,t) HD.out).mono ?_;rintro e wq ⟨okq,hm,hi,he⟩;rcases HCS.out with hw | hw;(obtain ⟨rfl,rfl⟩:=hw;obtain rfl:e= .panicked dI:=he;exact ⟨rfl,⟨⟨okq,HA.out.task.moves.trans hm,hi,rfl⟩⟩⟩);obtain ⟨n,rfl,hr2⟩:=hw;obtain ⟨_,rfl,rfl⟩:=he;clear k0;have HA:=Am_ (HA.out.next hm (HA.out.task.next hm hi));have HR2:=Am_ hr2;clear hm hi hr2 c0 c1 c2)
 have hr:=HR2.out
 clear HR2 HD HCS
 obtain ⟨o,t,hd,hcase⟩:=aN hr
 have HD:=Am_ hd
 have HCS:=Am_ hcase
 clear hd hcase
 clear hr
 have c0:=HA.out.task.c0
 have c1:=HA.out.task.c1
 have c2:=HA.out.task.c2
 go_upto_region 4 with (go_at_call 201;refine (jM p tb work me _ _ _ n HA.out.task.run (o,t) HD.out).mono ?_;rintro e wq ⟨okq,hm,hi,he⟩;rcases HCS.out with hw | hw;(obtain ⟨rfl,rfl⟩:=hw;obtain rfl:e= .panicked dI:=he;exact ⟨rfl,⟨⟨okq,HA.out.task.moves.trans hm,hi,rfl⟩⟩⟩);obtain ⟨was,rfl,hr2⟩:=hw;obtain ⟨_,rfl,rfl⟩:=he;have HA:=Am_ (HA.out.next hm (HA.out.task.next hm hi));have HR2:=Am_ hr2;clear hm hi hr2 c0 c1 c2)
 have hr:=HR2.out
 clear HR2 HD HCS
 obtain ⟨o,t,hd,hcase⟩:=aN hr
 have HD:=Am_ hd
 have HCS:=Am_ hcase
 clear hd hcase
 clear hr
 have c0:=HA.out.task.c0
 have c1:=HA.out.task.c1
 have c2:=HA.out.task.c2
 have k0:=(af HA.out.box_.1 0).trans (rfl:_=some (Value.int .i64 r))
 go_upto_region 5 with (go_at_call 199;refine (nC p tb work me _ _ _ r HA.out.task.run (o,t) HD.out).mono ?_;rintro e wq ⟨okq,hm,hi,he⟩;rcases HCS.out with hw | hw;(obtain ⟨rfl,rfl⟩:=hw;obtain rfl:e= .panicked dI:=he;exact ⟨rfl,⟨⟨okq,HA.out.task.moves.trans hm,hi,rfl⟩⟩⟩);obtain ⟨second,rfl,hr2⟩:=hw;obtain ⟨_,rfl,rfl⟩:=he;clear k0;have HA:=Am_ (HA.out.next hm (HA.out.task.next hm hi));have HR2:=Am_ hr2;clear hm hi hr2 c0 c1 c2)
 have HL0:ay (uE p tb work me bt ok w r bx b4 (Gw r n first (lG was second)) res wq):=⟨⟨_,_,HA.out,HR2.out⟩⟩
 clear HA HR2 HD HCS
 go_cut [35] from 8 (fun v35 wc=>v35= .bool (lG was second)∧ay (uE p tb work me bt ok w r bx b4 (Gw r n first (lG was second)) res wc))
 case first=>
  have HLC:ay (lG was second=((was == 0) || ((was == 2) && !second))):=⟨rfl⟩
  cases e0:(was == 0)<;>cases e2:(was == 2)<;>cases second<;>(rw [e0,e2] at HLC;go_wp2_with fail;go_meet;first | (case rel=>exact ⟨by rw [HLC.out];rfl,HL0⟩) | exact ⟨by rw [HLC.out];rfl,HL0⟩)
 case rest=>
 obtain ⟨rfl,HL⟩:=hcut
 clear HL0
 generalize lG was second=c at HL ⊢
 go_upto_if 35 with fail
 go_cut [] from 8 (fun wc=>ay (uE p tb work me bt ok w r bx b4 (wV r n first) res wc))
 case first=>
  cases c with
  | false=>
   go_wp2_with fail
   go_meet
   case rel=>exact ⟨⟨HL.out.out⟩⟩
  | true=>
   obtain ⟨okc,s1,hA,hr⟩:=HL.out.out
   have hr:aX (qA r (s1.sh.ar.look r).1.ways.length 0 []) (lY r n first (s1.sh.ar.look r).1) { s1 with sh:= { s1.sh with ar:=(s1.sh.ar.look r).2 } }=some res:=hr
   have hsm:=(hA.task.run.good.ar.lH r).ways
   generalize hnd:(s1.sh.ar.look r).1=nd at hr hsm
   generalize hs2:({ s1 with sh:= { s1.sh with ar:=(s1.sh.ar.look r).2 } }:TS Ws)=s2 at hr
   have HA:=Am_ hA
   have HR:=Am_ hr
   have HND:=Am_ hnd
   have HS2:=Am_ hs2
   have HSM:=Am_ hsm
   clear hA hr hnd hs2 hsm HL
   go_upto_region 6 with fail
   go_cut [10] from 36 (fun v10 wc=> ∃ b10,v10= .pointer (some ⟨b10,0,none⟩)∧ay (w.heap.size≤b10∧b10≠bt∧b10≠bx∧b10≠b4)∧ay (xV p tb work me bt ok w r n bx b4 b10 nd 0 (fun ws=>aX (qA r nd.ways.length 0 ws) (lY r n first nd)) res wc))
   case first=>
    obtain ⟨pA,hpA⟩:=HA.out.task.pA
    have HC:=Am_ (And.intro HA.out.task.c1 (And.intro hpA ((af HA.out.box_.1 0).trans (rfl:_=some (Value.int .i64 r)))))
    clear hpA
    refine bP (n:=12) (S:=fun w'=>w'.cell? ⟨bt,1,none⟩=some (.pointer (some ⟨p,0,none⟩))∧w'.cell? ⟨p,0,none⟩=some (.pointer (some ⟨pA,0,none⟩))∧w'.cell? ⟨bx,0,none⟩=some (.int .i64 r)) (ds:= [11]) (by kernel_rfl) rfl Bu vW HC.out (fun hHeld HT_ HW_=>?_)
    have HA:=Am_ HA.out.drew
    clear HC
    generalize World.drew _=w1 at HA hHeld ⊢
    refine fu [(0,some 36),(1,some 37),(2,some 38),(3,some 39),(4,some 40),(5,some 41),(6,some 42),(7,some 43)] ?_
    iterate 8 (refine jm (v:=?_) (a':=?_) HT_ HW_ (by kernel_rfl) rfl rfl (fun _ _ _ h=>h) hHeld (Or.inl ⟨by rfl,?_⟩) ?_ ?_;rotate_left;(rintro w' ⟨s0,s1,s2⟩;go_simp;with_reducible rfl);rotate_left;(simp only [Act.put,p1_,p2_,p3_,aI,aJ];rfl))
    refine bH ?_
    refine Eb (i:=8) (j:=10) (Ni:=some 44) (Nj:=some 10) #[Y_,Y_,Y_,Y_,Y_,Y_,Y_,Y_,Y_,N_,N_,N_] #[Y_,Y_,Y_,Y_,Y_,Y_,Y_,Y_,N_,N_,Y_,N_] rfl rfl rfl rfl (by kernel_rfl) (fun K_ hK=>?_) (fun K_ hK=>?_)
    ·refine call_ 126 #[.pointer (some ⟨pA,0,none⟩),.int .i64 r] (by rfl) rfl ?hk8 ?_
     (case hk8=>first | (go_simp;done) | (go_simp;exact enters Tryz.func126 (by kernel_rfl) rfl _ _))
     refine (HA.out.task.EQ hHeld.2.1 HND.out HS2.out).mono ?_
     rintro e w2 hE
     obtain ⟨Ap,cp,Ak,ck,Ay,cy,ok1,rfl,hrows,ht,hm,hc⟩:=hE.out
     refine ⟨_,rfl,?_⟩
     have hHeld:(_∧_∧_):=⟨ht.c1,hc,(af (HA.out.box_.moves hm).1 0).trans (rfl:_=some (Value.int .i64 r))⟩
     refine hK.out _ _ (fun _ _=>hHeld) ?_
     clear hK K_
     refine bT (a':=?_) ?_ ?_
     rotate_left; · show Act.put _ (some 44) _=_;simp only [Act.put,p1_,p2_,p3_,aI,aJ];rfl
     refine fu [(9,some 45)] ?_
     (refine fq (v:=?_) (a':=?_) HT_ (by kernel_rfl) rfl rfl (fun _ _ _ h=>h) (Or.inl ⟨by rfl,?_⟩) ?_ ?_;rotate_left;(intro w';go_simp;with_reducible rfl);rotate_left;(simp only [Act.put,p1_,p2_,p3_,aI,aJ];rfl))
     refine bH ?_
     refine eu (i:=10) (some 10) HT_ (by kernel_rfl) rfl rfl (by decide) (fun K_ hK=>?_)
     refine gJ (v:= .pointer (some ⟨w2.heap.size,0,none⟩)) (w1:=w2.alloc (.cells #[.int .i64 0,.int .i64 0,.bool false,.bool false,.slice none 0 0,.slice none 0 0,.slice none 0 0,.slice none 0 0] 195)) (by rfl) rfl ?ha10 ?_
     (case ha10=>go_simp;first | done | rfl)
     refine hK.out _ _ ⟨ax (ai (Below.refl _ _) _) hHeld.1,ax (ai (Below.refl _ _) _) hHeld.2.1,ax (ai (Below.refl _ _) _) hHeld.2.2⟩ (fun hHeld=>?_)
     clear hK K_
     refine bT (a':=?_) ?_ ?_
     rotate_left; · show Act.put _ (some 10) _=_;simp only [Act.put,p1_,p2_,p3_,aI,aJ];rfl
     have HA2:=Am_ (HA.out.next hm ht)
     have HA3:=Am_ (HA2.out.alloc (.cells #[.int .i64 0,.int .i64 0,.bool false,.bool false,.slice none 0 0,.slice none 0 0,.slice none 0 0,.slice none 0 0] 195))
     have HB:=Am_ (Mine.new ht.lt (.cells #[.int .i64 0,.int .i64 0,.bool false,.bool false,.slice none 0 0,.slice none 0 0,.slice none 0 0,.slice none 0 0] 195))
     have HNE:ay (w.heap.size≤w2.heap.size∧w2.heap.size≠bt∧w2.heap.size≠bx∧w2.heap.size≠b4):=⟨by have:=ht.moves.size;have:=ht.box.lt;have:=HA2.out.box_.lt;have:=HA2.out.res.lt;omega⟩
     have hN:=HA.out.task.moves.size
     have hl1:=HA.out.task.box.lt
     have hl2:=HA.out.box_.lt
     have hl3:=HA.out.res.lt
     obtain ⟨h1,h2,h3⟩:=hrows [bt,bx,b4,w2.heap.size] (by intro q hq;simp only [List.mem_cons,List.not_mem_nil,or_false] at hq;omega) w.heap.size hN
     have HRW:=Am_ (And.intro (Kd.bI h1 (.cells #[.int .i64 0,.int .i64 0,.bool false,.bool false,.slice none 0 0,.slice none 0 0,.slice none 0 0,.slice none 0 0] 195)) (And.intro (Kd.bI h2 (.cells #[.int .i64 0,.int .i64 0,.bool false,.bool false,.slice none 0 0,.slice none 0 0,.slice none 0 0,.slice none 0 0] 195)) (Kd.bI h3 (.cells #[.int .i64 0,.int .i64 0,.bool false,.bool false,.slice none 0 0,.slice none 0 0,.slice none 0 0,.slice none 0 0] 195))))
     clear h1 h2 h3 hN hl1 hl2 hl3 HA HA2 hHeld hE hrows ht hm hc
     generalize w2.alloc (.cells #[.int .i64 0,.int .i64 0,.bool false,.bool false,.slice none 0 0,.slice none 0 0,.slice none 0 0,.slice none 0 0] 195)=w3 at HA3 HB HRW ⊢
     generalize w2.heap.size=b10 at HB HNE HRW ⊢
     refine cK (i:=11) none HT_ (by kernel_rfl) rfl rfl (by decide) (fun K_ hK=>?_)
     refine fJ (w1:=w3.setCells b10 0 [.int .i64 r,.int .i64 n,.bool nd.inner,.bool nd.tagged,.slice Ap nd.pairs.length cp,.slice Ak nd.keys.length ck,.slice Ay nd.ways.length cy,.slice none 0 0]) (by rfl) rfl ?_ ?_
     ·exact gT _ [.int .i64 r,.int .i64 n,.bool nd.inner,.bool nd.tagged,.slice Ap nd.pairs.length cp,.slice Ak nd.keys.length ck,.slice Ay nd.ways.length cy,.slice none 0 0] rfl (by rfl) (by rfl) HB.out.1 rfl (by kernel_rfl) (by simp) (by intro u hu;simp only [List.mem_cons,List.not_mem_nil,or_false] at hu;rcases hu with rfl | rfl | rfl | rfl | rfl | rfl | rfl | rfl<;>rfl)
     refine hK.out _ _ ?_
     clear hK K_
     have HL:=Am_ (xV.mk (p:=p) (tb:=tb) (work:=work) (me:=me) (bt:=bt) (ok:=ok) (w:=w) (r:=r) (n:=n) (bx:=bx) (b4:=b4) (b10:=b10) (nd:=nd) (j:=0) (rest:=fun ws=>aX (qA r nd.ways.length 0 ws) (lY r n first nd)) (res:=res) (wc:=w3.setCells b10 0 [.int .i64 r,.int .i64 n,.bool nd.inner,.bool nd.tagged,.slice Ap nd.pairs.length cp,.slice Ak nd.keys.length ck,.slice Ay nd.ways.length cy,.slice none 0 0]) ⟨ok1,s2,Ap,cp,Ak,ck,Ay,cy,none,0,[],HA3.out.setCells HB.out.2 HNE.out.1 HNE.out.2.1 HNE.out.2.2.1 HNE.out.2.2.2 _,lm.start HRW.out.1 HRW.out.2.1 HRW.out.2.2 HB.out rfl (by simp),rfl,HR.out⟩)
     clear HA3 HB HRW
     generalize w3.setCells b10 0 [.int .i64 r,.int .i64 n,.bool nd.inner,.bool nd.tagged,.slice Ap nd.pairs.length cp,.slice Ak nd.keys.length ck,.slice Ay nd.ways.length cy,.slice none 0 0]=w4 at HL ⊢
     refine dN (by kernel_rfl) ?_
     go_wp2_with fail
     go_meet
     case rel=>exact ⟨b10,rfl,HNE,HL⟩
    ·refine gJ (v:= .pointer (some ⟨w1.heap.size,0,none⟩)) (w1:=w1.alloc (.cells #[.int .i64 0,.int .i64 0,.bool false,.bool false,.slice none 0 0,.slice none 0 0,.slice none 0 0,.slice none 0 0] 195)) (by rfl) rfl ?hb10 ?_
     (case hb10=>go_simp;first | done | rfl)
     refine hK.out _ _ (fun _ hS=>⟨ax (ai (Below.refl _ _) _) hS.1,ax (ai (Below.refl _ _) _) hS.2.1,ax (ai (Below.refl _ _) _) hS.2.2⟩) ?_
     clear hK K_
     refine bT (a':=?_) ?_ ?_
     rotate_left; · show Act.put _ (some 10) _=_;simp only [Act.put,p1_,p2_,p3_,aI,aJ];rfl
     have HB:=Am_ (Mine.new HA.out.task.lt (.cells #[.int .i64 0,.int .i64 0,.bool false,.bool false,.slice none 0 0,.slice none 0 0,.slice none 0 0,.slice none 0 0] 195))
     have HNE:ay (w.heap.size≤w1.heap.size∧w1.heap.size≠bt∧w1.heap.size≠bx∧w1.heap.size≠b4):=⟨by have:=HA.out.task.moves.size;have:=HA.out.task.box.lt;have:=HA.out.box_.lt;have:=HA.out.res.lt;omega⟩
     have HA:=Am_ (HA.out.alloc (.cells #[.int .i64 0,.int .i64 0,.bool false,.bool false,.slice none 0 0,.slice none 0 0,.slice none 0 0,.slice none 0 0] 195))
     have hHeld:(_∧_∧_):=⟨ax (ai (Below.refl _ _) (.cells #[.int .i64 0,.int .i64 0,.bool false,.bool false,.slice none 0 0,.slice none 0 0,.slice none 0 0,.slice none 0 0] 195)) hHeld.1,ax (ai (Below.refl _ _) (.cells #[.int .i64 0,.int .i64 0,.bool false,.bool false,.slice none 0 0,.slice none 0 0,.slice none 0 0,.slice none 0 0] 195)) hHeld.2.1,ax (ai (Below.refl _ _) (.cells #[.int .i64 0,.int .i64 0,.bool false,.bool false,.slice none 0 0,.slice none 0 0,.slice none 0 0,.slice none 0 0] 195)) hHeld.2.2⟩
     generalize w1.alloc (.cells #[.int .i64 0,.int .i64 0,.bool false,.bool false,.slice none 0 0,.slice none 0 0,.slice none 0 0,.slice none 0 0] 195)=w2 at HB HA hHeld ⊢
     generalize w1.heap.size=b10 at HB HNE ⊢
     refine eu (i:=8) (some 44) HT_ (by kernel_rfl) rfl rfl (by decide) (fun K_ hK=>?_)
     refine call_ 126 #[.pointer (some ⟨pA,0,none⟩),.int .i64 r] (by rfl) rfl ?hk8 ?_
     (case hk8=>first | (go_simp;done) | (go_simp;exact enters Tryz.func126 (by kernel_rfl) rfl _ _))
     refine (HA.out.task.EQ hHeld.2.1 HND.out HS2.out).mono ?_
     rintro e w3 hE
     obtain ⟨Ap,cp,Ak,ck,Ay,cy,ok1,rfl,hrows,ht,hm,hc⟩:=hE.out
     refine ⟨_,rfl,?_⟩
     refine hK.out _ _ ⟨ht.c1,hc,(af (HA.out.box_.moves hm).1 0).trans (rfl:_=some (Value.int .i64 r))⟩ (fun hHeld=>?_)
     clear hK K_
     refine bT (a':=?_) ?_ ?_
     rotate_left; · show Act.put _ (some 44) _=_;simp only [Act.put,p1_,p2_,p3_,aI,aJ];rfl
     refine fu [(9,some 45)] ?_
     (refine fq (v:=?_) (a':=?_) HT_ (by kernel_rfl) rfl rfl (fun _ _ _ h=>h) (Or.inl ⟨by rfl,?_⟩) ?_ ?_;rotate_left;(intro w';go_simp;with_reducible rfl);rotate_left;(simp only [Act.put,p1_,p2_,p3_,aI,aJ];rfl))
     refine bH ?_
     have hN:=HA.out.task.moves.size
     have hl1:=HA.out.task.box.lt
     have hl2:=HA.out.box_.lt
     have hl3:=HA.out.res.lt
     have hl4:=HB.out.lt
     obtain ⟨h1,h2,h3⟩:=hrows [bt,bx,b4,b10] (by intro q hq;simp only [List.mem_cons,List.not_mem_nil,or_false] at hq;omega) w.heap.size hN
     have HRW:=Am_ (And.intro h1 (And.intro h2 h3))
     have HA3:=Am_ (HA.out.next hm ht)
     have HB:=Am_ (HB.out.moves hm)
     clear h1 h2 h3 hN hl1 hl2 hl3 hl4 HA hHeld hE hrows ht hm hc
     refine cK (i:=11) none HT_ (by kernel_rfl) rfl rfl (by decide) (fun K_ hK=>?_)
     refine fJ (w1:=w3.setCells b10 0 [.int .i64 r,.int .i64 n,.bool nd.inner,.bool nd.tagged,.slice Ap nd.pairs.length cp,.slice Ak nd.keys.length ck,.slice Ay nd.ways.length cy,.slice none 0 0]) (by rfl) rfl ?_ ?_
     ·exact gT _ [.int .i64 r,.int .i64 n,.bool nd.inner,.bool nd.tagged,.slice Ap nd.pairs.length cp,.slice Ak nd.keys.length ck,.slice Ay nd.ways.length cy,.slice none 0 0] rfl (by rfl) (by rfl) HB.out.1 rfl (by kernel_rfl) (by simp) (by intro u hu;simp only [List.mem_cons,List.not_mem_nil,or_false] at hu;rcases hu with rfl | rfl | rfl | rfl | rfl | rfl | rfl | rfl<;>rfl)
     refine hK.out _ _ ?_
     clear hK K_
     have HL:=Am_ (xV.mk (p:=p) (tb:=tb) (work:=work) (me:=me) (bt:=bt) (ok:=ok) (w:=w) (r:=r) (n:=n) (bx:=bx) (b4:=b4) (b10:=b10) (nd:=nd) (j:=0) (rest:=fun ws=>aX (qA r nd.ways.length 0 ws) (lY r n first nd)) (res:=res) (wc:=w3.setCells b10 0 [.int .i64 r,.int .i64 n,.bool nd.inner,.bool nd.tagged,.slice Ap nd.pairs.length cp,.slice Ak nd.keys.length ck,.slice Ay nd.ways.length cy,.slice none 0 0]) ⟨ok1,s2,Ap,cp,Ak,ck,Ay,cy,none,0,[],HA3.out.setCells HB.out.2 HNE.out.1 HNE.out.2.1 HNE.out.2.2.1 HNE.out.2.2.2 _,lm.start HRW.out.1 HRW.out.2.1 HRW.out.2.2 HB.out rfl (by simp),rfl,HR.out⟩)
     clear HA3 HB HRW
     generalize w3.setCells b10 0 [.int .i64 r,.int .i64 n,.bool nd.inner,.bool nd.tagged,.slice Ap nd.pairs.length cp,.slice Ak nd.keys.length ck,.slice Ay nd.ways.length cy,.slice none 0 0]=w4 at HL ⊢
     refine dN (by kernel_rfl) ?_
     go_wp2_with fail
     go_meet
     case rel=>exact ⟨b10,rfl,HNE,HL⟩
   case rest=>
   obtain ⟨b10,rfl,HNE,HI⟩:=hcut
   clear HA HR HND HS2
   obtain ⟨okc,s3,Ap,cp,Ak,ck,Ay,cy,Aw,cw,ws,hA,hS,hws,hr⟩:=HI.out.out
   have y6:=(af hS.box.1 6).trans (rfl:_=some (Value.slice Ay nd.ways.length cy))
   clear hA hS hr hws
   go_upto_block 0 with fail
   clear y6
   go_wp2_with fail
   go_loopg [51] nd.ways.length (fun g v51 wr=> ∃ k:Nat,v51= .int .i64 k∧k+g=nd.ways.length∧ay (xV p tb work me bt ok w r n bx b4 b10 nd k (fun ws=>aX (qA r (nd.ways.length - k) k ws) (lY r n first nd)) res wr))
   case atStart=>exact ⟨0,rfl,by omega,HI⟩
   case round=>
    obtain ⟨k,rfl,hkg,HQ⟩:=hrel
    clear HI
    obtain ⟨okc,s3,Ap,cp,Ak,ck,Ay,cy,Aw,cw,ws,hA,hS,hws,hr⟩:=HQ.out.out
    clear HQ
    cases gk with
    | zero=>
     have hk:nd.ways.length - k=0:=by omega
     have d1:decide ((k:Int)<(nd.ways.length:Int))=false:=decide_eq_false (by omega)
     have d2:decide (k<nd.ways.length)=false:=decide_eq_false (by omega)
     rw [hk] at hr
     have hr:aX (qg r) (fun m=>if m=n then eD (⟨r,n,nd,ws⟩,0) else wV r n first) s3=some res:=hr
     have HA:=Am_ hA
     have HSN:=Am_ hS
     obtain ⟨o,t,hd,hcase⟩:=aN hr
     have HD:=Am_ hd
     have HCS:=Am_ hcase
     clear hd hcase
     clear hr hA hS hk hws
     have c0:=HA.out.task.c0
     have c1:=HA.out.task.c1
     have c2:=HA.out.task.c2
     have k0:=(af HA.out.box_.1 0).trans (rfl:_=some (Value.int .i64 r))
     go_upto_if 68 with (go_at_call 200;refine (kC p tb work me _ _ _ r HA.out.task.run (o,t) HD.out).mono ?_;rintro e wq ⟨okq,hm,hi,he⟩;rcases HCS.out with hw | hw;(obtain ⟨rfl,rfl⟩:=hw;obtain rfl:e= .panicked dI:=he;exact ⟨rfl,⟨⟨okq,HA.out.task.moves.trans hm,hi,rfl⟩⟩⟩);obtain ⟨m,rfl,hr2⟩:=hw;obtain ⟨_,rfl,rfl⟩:=he;clear k0;have HA:=Am_ (HA.out.next hm (HA.out.task.next hm hi));have HSN:=Am_ (HSN.out.moves hm);have HR2:=Am_ hr2;clear hm hi hr2 c0 c1 c2)
     have HR4:=Am_ HR2.out
     clear HR2 HD HCS d1 d2
     by_cases hmn:m=n
     ·have e1:(m == n)=true:=by simp [hmn]
      have HR3:ay (eD (⟨r,n,nd,ws⟩,0) t=some res):=⟨by have h:=HR4.out;rw [if_pos hmn] at h;exact h⟩
      clear hmn HR4
      have x0:=(af HA.out.res.1 0).trans (rfl:_=some (Value.int .i64 0))
      have z0:=ah HA.out.res.1 0
      have x1:=(af HA.out.res.1 1).trans (rfl:_=some (Value.int .i64 0))
      have z1:=ah HA.out.res.1 1
      have x2:=(af HA.out.res.1 2).trans (rfl:_=some (Value.bool false))
      have z2:=ah HA.out.res.1 2
      have x3:=(af HA.out.res.1 3).trans (rfl:_=some (Value.bool false))
      have z3:=ah HA.out.res.1 3
      have x4:=(af HA.out.res.1 4).trans (rfl:_=some (Value.slice none 0 0))
      have z4:=ah HA.out.res.1 4
      have x5:=(af HA.out.res.1 5).trans (rfl:_=some (Value.slice none 0 0))
      have z5:=ah HA.out.res.1 5
      have x6:=(af HA.out.res.1 6).trans (rfl:_=some (Value.slice none 0 0))
      have z6:=ah HA.out.res.1 6
      have x7:=(af HA.out.res.1 7).trans (rfl:_=some (Value.slice none 0 0))
      have z7:=ah HA.out.res.1 7
      have y0:=(af HSN.out.box.1 0).trans (rfl:_=some (Value.int .i64 r))
      have y1:=(af HSN.out.box.1 1).trans (rfl:_=some (Value.int .i64 n))
      have y2:=(af HSN.out.box.1 2).trans (rfl:_=some (Value.bool nd.inner))
      have y3:=(af HSN.out.box.1 3).trans (rfl:_=some (Value.bool nd.tagged))
      have y4:=(af HSN.out.box.1 4).trans (rfl:_=some (Value.slice Ap nd.pairs.length cp))
      have y5:=(af HSN.out.box.1 5).trans (rfl:_=some (Value.slice Ak nd.keys.length ck))
      have y6:=(af HSN.out.box.1 6).trans (rfl:_=some (Value.slice Ay nd.ways.length cy))
      have y7:=(af HSN.out.box.1 7).trans (rfl:_=some (Value.slice Aw ws.length cw))
      go_wp2_with fail
      (try simp only [Exit.inBlock,Exit.then])
      show bodyPost _ _ _ _ _ (sets _ b4 [(0,.int .i64 r),(1,.int .i64 n),(2,.bool nd.inner),(3,.bool nd.tagged),(4,.slice Ap nd.pairs.length cp),(5,.slice Ak nd.keys.length ck),(6,.slice Ay nd.ways.length cy),(7,.slice Aw ws.length cw)])
      refine bodyPost_ret (eH (rs:= [.cell 4 195,.tmp 5]) rfl (by simp) (.cell b4 195 _ (0,0) _ rfl (HA.out.res.sets [(0,.int .i64 r),(1,.int .i64 n),(2,.bool nd.inner),(3,.bool nd.tagged),(4,.slice Ap nd.pairs.length cp),(5,.slice Ak nd.keys.length ck),(6,.slice Ay nd.ways.length cy),(7,.slice Aw ws.length cw)]).1 Tryz.underlying195 rfl (by kernel_rfl) (.tmp .nil))) rfl ?_
      obtain rfl:res=(.ret (⟨r,n,nd,ws⟩,0),_):=by have h:=HR3.out;injection h with h;exact h.symm
      exact ⟨⟨_,gu (b:=b4) (.inr (by have:=HN4.out;omega)) _ HA.out.task.moves,HA.out.task.run.step (bB p) (by rw [iH];exact Nat.le_refl _) (fun k hk _=>dR (b:=b4) (fun e=>HA.out.res.2 (e▸hk)) _ _),_,rfl,_,rfl,HSN.out.kSn b4 (by simp) (fun k hk=>dR (b:=b4) hk _ _)⟩⟩
     ·have e1:(m == n)=false:=by simpa using hmn
      have HR3:ay (wV r n first t=some res):=⟨by have h:=HR4.out;rw [if_neg hmn] at h;exact h⟩
      clear hmn HR4 HSN
      go_wp2_with fail
      go_meet
      case rel=>exact ⟨⟨_,_,HA.out,HR3.out⟩⟩
    | succ g=>
     have d1:decide ((k:Int)<(nd.ways.length:Int))=true:=decide_eq_true (by omega)
     have d2:decide (k<nd.ways.length)=true:=decide_eq_true (by omega)
     have hw1:wrap64 ((k:Int)+1)=((k+1:Nat):Int):=by have:=HSM.out;unfold wrap64;omega
     have HW1:=Am_ hw1
     have hk:nd.ways.length - k=nd.ways.length - (k+1)+1:=by omega
     rw [hk] at hr
     have hr:aX (aX (Ip r (k:Int)) fun x=>qA r (nd.ways.length - (k+1)) (k+1) (ws++ [x])) (lY r n first nd) s3=some res:=hr
     have HSN:=Am_ (hS.moves ((Moves.refl _ _).alloc (.cells #[.int .i64 (k:Int)] 3)))
     have HA:=Am_ (hA.alloc (.cells #[.int .i64 (k:Int)] 3))
     have HBI:=Am_ (Mine.new hA.task.lt (.cells #[.int .i64 (k:Int)] 3))
     have HWS:=Am_ hws
     obtain ⟨o,t,hd,hcase⟩:=aN (gm hr)
     have HD:=Am_ hd
     have HCS:=Am_ hcase
     clear hd hcase
     clear hr hA hS hk hws hw1
     go_upto_region 10 with fail
     generalize wr.alloc (.cells #[.int .i64 (k:Int)] 3)=w3 at HA HSN HBI ⊢
     generalize wr.heap.size=bi at HBI ⊢
     refine bP (n:=10) (S:=fun w'=>w'.cell? ⟨b10,7,none⟩=some (.slice Aw ws.length cw)∧w'.cell? ⟨bt,0,none⟩=some (.pointer (some ⟨tb,0,none⟩))) (ds:= [9]) (by kernel_rfl) rfl xQ sP ⟨(af HSN.out.box.1 7).trans rfl,HA.out.task.c0⟩ (fun hHeld HT_ HW_=>?_)
     have HA:=Am_ HA.out.drew
     have HSN:=Am_ (HSN.out.moves (Moves.drew (Moves.refl _ _)))
     have HBI:=Am_ (HBI.out.moves (Moves.drew (Moves.refl _ _)))
     generalize World.drew _=w5 at HA HSN HBI hHeld ⊢
     refine fu [(0,some 54),(1,some 55),(2,some 56),(3,some 57),(4,some 58)] ?_
     (refine fq (v:=?_) (a':=?_) HT_ (by kernel_rfl) rfl rfl (fun _ _ _ h=>h) (Or.inl ⟨by rfl,?_⟩) ?_ ?_;rotate_left;(intro w';go_simp;with_reducible rfl);rotate_left;(simp only [Act.put,p1_,p2_,p3_,aI,aJ];rfl))
     iterate 4 (refine jm (v:=?_) (a':=?_) HT_ HW_ (by kernel_rfl) rfl rfl (fun _ _ _ h=>h) hHeld (Or.inl ⟨by rfl,?_⟩) ?_ ?_;rotate_left;(rintro w' ⟨s0,s1⟩;go_simp;with_reducible rfl);rotate_left;(simp only [Act.put,p1_,p2_,p3_,aI,aJ];rfl))
     refine bH ?_
     refine eu (i:=5) (some 59) HT_ (by kernel_rfl) rfl rfl (by decide) (fun K_ hK=>?_)
     refine kJ 137 #[.pointer (some ⟨tb,0,none⟩),.func (.func 202) #[] #[.pointer (some ⟨bt,0,none⟩),.pointer (some ⟨bx,0,none⟩),.pointer (some ⟨bi,0,none⟩)]] (by rfl) rfl ?hrun5 ?_
     (case hrun5=>first | (go_simp;done) | (go_simp;exact enters Tryz.func137 (by kernel_rfl) rfl _ _))
     refine (HA.out.task.load_ HA.out.box_ HBI.out HD.out).mono ?_
     rintro e wq ⟨⟨okq,hm,hT,he⟩⟩
     rcases HCS.out with hw | hw
     ·obtain ⟨rfl,rfl⟩:=hw
      obtain rfl:e= .panicked dI:=he
      exact .inr ⟨dI,rfl,rfl,⟨⟨okq,hT.moves,hT.run,rfl⟩⟩⟩
     obtain ⟨a1,rfl,hr2⟩:=hw
     obtain rfl:e= .returned (.int .i64 a1):=he
     refine .inl ⟨.int .i64 a1,rfl,?_⟩
     have HA:=Am_ (HA.out.next hm hT)
     have HSN:=Am_ (HSN.out.moves hm)
     have HR2:=Am_ hr2
     clear hm hT hr2 HBI
     refine hK.out _ _ ⟨(af HSN.out.box.1 7).trans rfl,HA.out.task.c0⟩ (fun hHeld=>?_)
     clear hK K_
     refine bT (a':=?_) ?_ ?_
     rotate_left; · show Act.put _ (some 59) _=_;simp only [Act.put,p1_,p2_,p3_,aI,aJ];rfl
     refine eu (i:=6) (some 60) HT_ (by kernel_rfl) rfl rfl (by decide) (fun K_ hK=>?_)
     refine gJ (v:= .slice (some ⟨wq.heap.size,0,none⟩) 1 1) (w1:=wq.alloc (.cells #[.int .i64 a1] 45)) (by rfl) rfl ?hbs ?_
     (case hbs=>go_simp;first | done | rfl)
     refine hK.out _ _ ⟨ax (ai (Below.refl _ _) _) hHeld.1,ax (ai (Below.refl _ _) _) hHeld.2⟩ (fun hHeld=>?_)
     clear hK K_
     refine bT (a':=?_) ?_ ?_
     rotate_left; · show Act.put _ (some 60) _=_;simp only [Act.put,p1_,p2_,p3_,aI,aJ];rfl
     refine eu (i:=7) (some 61) HT_ (by kernel_rfl) rfl rfl (by decide) (fun K_ hK=>?_)
     have hlq:=HA.out.task.lt
     have hl1:=HA.out.task.box.lt
     have hl2:=HA.out.box_.lt
     have hl3:=HA.out.res.lt
     have hl4:=HSN.out.box.lt
     refine Kd.iQ (Kd.int .i64) (w0:=wq) w.heap.size (by rfl) (.tmp 55) (.tmp 60) 153 45 (.int .i64 0) 8 rfl Tryz.underlying153 nk rfl (by decide) (by decide) (.slice Aw ws.length cw) ws a1 [.int .i64 a1] (Fr okq (fun q=>q∉ [bt,bx,b4,b10])) (fun _=>False) rfl rfl rfl (fun _ hk=>hk.elim) (fun k hk=>⟨fun h=>by have:=hlq k h;omega,fun h=>by simp only [List.mem_cons,List.not_mem_nil,or_false] at h;omega⟩) HSN.out.row (Below.refl _ _) HA.out.task.moves.size (by have:=HWS.out;have:=HSM.out;omega) ?_
     intro v7 w7 ho hb7 hg hat
     obtain ⟨A7,c7,rfl⟩:=Kd.aV ho
     have hrow: ∀ k,(Value.slice Aw ws.length cw).ownBlock=some k→ ¬ okq k∧w.heap.size≤k∧k≠bt∧k≠bx∧k≠b4:=fun k e=>by
      have h1:=(Kd.bR HSN.out.row).1 k e
      have h2:=h1.1.2
      simp only [List.mem_cons,List.not_mem_nil,or_false] at h2
      exact ⟨h1.1.1,h1.2.1,by omega,by omega,by omega⟩
     have hne:some b10≠(Value.slice Aw ws.length cw).ownBlock:=fun e=>by have:=(HSN.out.row.1 b10 e.symm).2;simp at this
     have z7:w7.frozen? ⟨b10,7,none⟩=false:=ah (bG HSN.out.box.1 hg hne) 7
     have k7:=(af (bG HSN.out.box.1 hg hne) 7).trans (rfl:_=some (Value.slice Aw ws.length cw))
     have HA7:=Am_ (HA.out.grown hg hrow)
     have HSN8:=Am_ (HSN.out.push (by simp) ho hg hat)
     have HA8:=Am_ (HA7.out.set (q:=⟨b10,7,none⟩) HSN.out.box.2 HNE.out.1 HNE.out.2.1 HNE.out.2.2.1 HNE.out.2.2.2 (.slice A7 (ws++ [a1]).length c7))
     have HLN:ay ((ws++ [a1]).length=k+1):=⟨by rw [List.length_append,List.length_singleton,HWS.out]⟩
     have hHeld:(_∧_):=And.intro k7 HA7.out.task.c0
     clear ho hb7 hg hat hrow hne hlq hl1 hl2 hl3 hl4 HA HSN HA7
     refine hK.out _ _ hHeld (fun hHeld=>?_)
     clear hK K_
     refine bT (a':=?_) ?_ ?_
     rotate_left; · show Act.put _ (some 61) _=_;simp only [Act.put,p1_,p2_,p3_,aI,aJ];rfl
     refine fu [(8,some 62)] ?_
     (refine fq (v:=?_) (a':=?_) HT_ (by kernel_rfl) rfl rfl (fun _ _ _ h=>h) (Or.inl ⟨by rfl,?_⟩) ?_ ?_;rotate_left;(intro w';go_simp;with_reducible rfl);rotate_left;(simp only [Act.put,p1_,p2_,p3_,aI,aJ];rfl))
     refine bH ?_
     refine cK (i:=9) none HT_ (by kernel_rfl) rfl rfl (by decide) (fun K_ hK=>?_)
     refine fJ (w1:=?_) (by rfl) rfl ?_ ?_
     rotate_left; · go_simp;rfl
     refine hK.out _ _ ?_
     clear hK K_
     rw [show (ws++ [a1]).length=ws.length+1 by simp] at HA8 HSN8
     generalize w7.setCell ⟨b10,7,none⟩ (.slice A7 (ws.length+1) c7)=w8 at HA8 HSN8 ⊢
     have HL:=Am_ (xV.mk (p:=p) (tb:=tb) (work:=work) (me:=me) (bt:=bt) (ok:=ok) (w:=w) (r:=r) (n:=n) (bx:=bx) (b4:=b4) (b10:=b10) (nd:=nd) (j:=k+1) (rest:=fun ws=>aX (qA r (nd.ways.length - (k+1)) (k+1) ws) (lY r n first nd)) (res:=res) ⟨_,_,_,_,_,_,_,_,_,_,_,HA8.out,HSN8.out,HLN.out,HR2.out⟩)
     clear HA8 HSN8 HR2 HLN z7 k7
     refine dN (bQ HT_.out (by kernel_rfl)) ?_
     go_wp2_with fail
     go_roundg g
     case rel=>exact ⟨k+1,by first | rfl | rw [HW1.out],by omega,HL⟩
     case measure=>omega
 case rest=>
 clear HL
 obtain ⟨okc,s1,hA,hr⟩:=hcut.out.out
 have HA:=Am_ hA
 clear hA hcut
 unfold wV at hr
 obtain ⟨o,t,hd,hcase⟩:=aN hr
 have HD:=Am_ hd
 have HCS:=Am_ hcase
 clear hd hcase
 clear hr
 have c0:=HA.out.task.c0
 have c1:=HA.out.task.c1
 have c2:=HA.out.task.c2
 go_upto_region 15 with (go_at_call 201;refine (jM p tb work me _ _ _ n HA.out.task.run (o,t) HD.out).mono ?_;rintro e wq ⟨okq,hm,hi,he⟩;rcases HCS.out with hw | hw;(obtain ⟨rfl,rfl⟩:=hw;obtain rfl:e= .panicked dI:=he;exact ⟨rfl,⟨⟨okq,HA.out.task.moves.trans hm,hi,rfl⟩⟩⟩);obtain ⟨now,rfl,hr2⟩:=hw;obtain ⟨_,rfl,rfl⟩:=he;have HA:=Am_ (HA.out.next hm (HA.out.task.next hm hi));have HR2:=Am_ hr2;clear hm hi hr2 c0 c1 c2)
 have HL2:ay (aX (nD n now) (tX r first) t=some res):=⟨HR2.out⟩
 clear HR2 HD HCS
 go_cut [86] from 12 (fun v86 wc=> ∃ b:Bool,v86= .bool (b && first)∧ay (uE p tb work me bt ok w r bx b4 (tX r first b) res wc))
 case first=>
  by_cases h2:now=2
  ·have e2:(now == 2)=true:=by simp [h2]
   have hr:tX r first true t=some res:=by
    have h:=HL2.out
    unfold nD at h
    rw [if_pos h2] at h
    exact h
   have HR3:=Am_ hr
   clear h2 hr HL2
   go_wp2_with fail
   go_meet
   case rel=>exact ⟨true,by cases first<;>rfl,⟨⟨_,_,HA.out,HR3.out⟩⟩⟩
  ·have e2:(now == 2)=false:=by simpa using h2
   by_cases h1:now=1
   ·have e1:(now == 1)=true:=by simp [h1]
    have hr:aX (qd n) (tX r first) t=some res:=by
     have h:=HL2.out
     unfold nD at h
     rw [if_neg h2,if_pos h1] at h
     exact h
    clear h1 h2 HL2
    obtain ⟨o,t,hd,hcase⟩:=aN hr
    have HD:=Am_ hd
    have HCS:=Am_ hcase
    clear hd hcase
    clear hr
    have c0:=HA.out.task.c0
    have c1:=HA.out.task.c1
    have c2:=HA.out.task.c2
    go_wp2_with fail
    refine (lC p tb work me n _ _ _ HA.out.task.run (o,t) HD.out).mono ?_
    rintro e wq ⟨okq,hm,hi,he⟩
    rcases HCS.out with hw | hw
    ·obtain ⟨rfl,rfl⟩:=hw
     obtain rfl:e= .panicked dI:=he
     exact ⟨rfl,⟨⟨okq,HA.out.task.moves.trans hm,hi,rfl⟩⟩⟩
    ·obtain ⟨b,rfl,hr2⟩:=hw
     obtain ⟨_,rfl,rfl⟩:=he
     have HA:=Am_ (HA.out.next hm (HA.out.task.next hm hi))
     have HR2:=Am_ hr2
     clear hm hi hr2 c0 c1 c2 HD HCS
     dsimp only
     cases b with
     | false=>
      go_wp2_with fail
      go_meet
      case rel=>exact ⟨false,rfl,⟨⟨_,_,HA.out,HR2.out⟩⟩⟩
     | true=>
      go_wp2_with fail
      go_meet
      case rel=>exact ⟨true,by cases first<;>rfl,⟨⟨_,_,HA.out,HR2.out⟩⟩⟩
   ·have e1:(now == 1)=false:=by simpa using h1
    have hr:tX r first false t=some res:=by
     have h:=HL2.out
     unfold nD at h
     rw [if_neg h2,if_neg h1] at h
     exact h
    have HR3:=Am_ hr
    clear h1 h2 hr HL2
    go_wp2_with fail
    go_meet
    case rel=>exact ⟨false,rfl,⟨⟨_,_,HA.out,HR3.out⟩⟩⟩
 case rest=>
 obtain ⟨b,rfl,HL⟩:=hcut
 clear HA HL2
 obtain ⟨okc2,s2,hA,hr⟩:=HL.out.out
 have HA:=Am_ hA
 clear hA HL
 unfold tX at hr
 cases hbf:(b && first) with
 | true=>
  rw [if_pos hbf] at hr
  clear hbf
  have HR3:=Am_ hr
  clear hr
  have x0:=(af HA.out.res.1 0).trans (rfl:_=some (Value.int .i64 0))
  have z0:=ah HA.out.res.1 0
  have x1:=(af HA.out.res.1 1).trans (rfl:_=some (Value.int .i64 0))
  have z1:=ah HA.out.res.1 1
  have x2:=(af HA.out.res.1 2).trans (rfl:_=some (Value.bool false))
  have z2:=ah HA.out.res.1 2
  have x3:=(af HA.out.res.1 3).trans (rfl:_=some (Value.bool false))
  have z3:=ah HA.out.res.1 3
  have x4:=(af HA.out.res.1 4).trans (rfl:_=some (Value.slice none 0 0))
  have z4:=ah HA.out.res.1 4
  have x5:=(af HA.out.res.1 5).trans (rfl:_=some (Value.slice none 0 0))
  have z5:=ah HA.out.res.1 5
  have x6:=(af HA.out.res.1 6).trans (rfl:_=some (Value.slice none 0 0))
  have z6:=ah HA.out.res.1 6
  have x7:=(af HA.out.res.1 7).trans (rfl:_=some (Value.slice none 0 0))
  have z7:=ah HA.out.res.1 7
  go_wp2_with fail
  (try simp only [Exit.inBlock,Exit.then])
  show bodyPost _ _ _ _ _ (sets _ b4 [(0,.int .i64 0),(1,.int .i64 0),(2,.bool false),(3,.bool false),(4,.slice none 0 0),(5,.slice none 0 0),(6,.slice none 0 0),(7,.slice none 0 0)])
  refine bodyPost_ret (eH (rs:= [.cell 4 195,.tmp 5]) rfl (by simp) (.cell b4 195 _ (0,0) _ rfl (HA.out.res.sets [(0,.int .i64 0),(1,.int .i64 0),(2,.bool false),(3,.bool false),(4,.slice none 0 0),(5,.slice none 0 0),(6,.slice none 0 0),(7,.slice none 0 0)]).1 Tryz.underlying195 rfl (by kernel_rfl) (.tmp .nil))) rfl ?_
  obtain rfl:res=(.ret (sn0,2),_):=by have h:=HR3.out;injection h with h;exact h.symm
  exact ⟨⟨_,gu (b:=b4) (.inr (by have:=HN4.out;omega)) [(0,.int .i64 0),(1,.int .i64 0),(2,.bool false),(3,.bool false),(4,.slice none 0 0),(5,.slice none 0 0),(6,.slice none 0 0),(7,.slice none 0 0)] HA.out.task.moves,HA.out.task.run.step (bB p) (by rw [iH];exact Nat.le_refl _) (fun k hk _=>dR (b:=b4) (fun e=>HA.out.res.2 (e▸hk)) [(0,.int .i64 0),(1,.int .i64 0),(2,.bool false),(3,.bool false),(4,.slice none 0 0),(5,.slice none 0 0),(6,.slice none 0 0),(7,.slice none 0 0)] _),_,rfl,_,rfl,CY (s:=sn0) (wU (n:=nd0) (Kd.fB _ _ _ _ _) (Kd.fB _ _ _ _ _) (Kd.fB _ _ _ _ _)) (Kd.fB _ _ _ _ _)⟩⟩
 | false=>
  rw [if_neg (by rw [hbf];simp)] at hr
  clear hbf
  obtain ⟨o,t,hd,hcase⟩:=aN hr
  have HD:=Am_ hd
  have HCS:=Am_ hcase
  clear hd hcase
  clear hr
  have c0:=HA.out.task.c0
  have c1:=HA.out.task.c1
  have c2:=HA.out.task.c2
  have k0:=(af HA.out.box_.1 0).trans (rfl:_=some (Value.int .i64 r))
  go_upto_region 18 with (go_at_call 200;refine (kC p tb work me _ _ _ r HA.out.task.run (o,t) HD.out).mono ?_;rintro e wq ⟨okq,hm,hi,he⟩;rcases HCS.out with hw | hw;(obtain ⟨rfl,rfl⟩:=hw;obtain rfl:e= .panicked dI:=he;exact ⟨rfl,⟨⟨okq,HA.out.task.moves.trans hm,hi,rfl⟩⟩⟩);obtain ⟨m,rfl,hr2⟩:=hw;obtain ⟨_,rfl,rfl⟩:=he;clear k0;have HA:=Am_ (HA.out.next hm (HA.out.task.next hm hi));have HR2:=Am_ hr2;clear hm hi hr2 c0 c1 c2)
  have hr:=HR2.out
  clear HR2 HD HCS
  obtain ⟨o,t,hd,hcase⟩:=aN hr
  have HD:=Am_ hd
  have HCS:=Am_ hcase
  clear hd hcase
  clear hr
  have c0:=HA.out.task.c0
  have c1:=HA.out.task.c1
  have c2:=HA.out.task.c2
  go_upto_if 94 with (go_at_call 201;refine (jM p tb work me _ _ _ m HA.out.task.run (o,t) HD.out).mono ?_;rintro e wq ⟨okq,hm,hi,he⟩;rcases HCS.out with hw | hw;(obtain ⟨rfl,rfl⟩:=hw;obtain rfl:e= .panicked dI:=he;exact ⟨rfl,⟨⟨okq,HA.out.task.moves.trans hm,hi,rfl⟩⟩⟩);obtain ⟨sm,rfl,hr2⟩:=hw;obtain ⟨_,rfl,rfl⟩:=he;have HA:=Am_ (HA.out.next hm (HA.out.task.next hm hi));have HR2:=Am_ hr2;clear hm hi hr2 c0 c1 c2)
  have HR4:=Am_ HR2.out
  clear HR2 HD HCS
  by_cases hs:sm=1
  ·have e1:(sm == 1)=true:=by simp [hs]
   have hr:aX (qd m) (fun _=>eD (sn0,1)) t=some res:=by
    have h:=HR4.out
    rw [if_pos hs] at h
    exact h
   clear hs HR4
   obtain ⟨o,t,hd,hcase⟩:=aN hr
   have HD:=Am_ hd
   have HCS:=Am_ hcase
   clear hd hcase
   clear hr
   have c0:=HA.out.task.c0
   have c1:=HA.out.task.c1
   have c2:=HA.out.task.c2
   go_upto_region 20 with (go_at_call 175;refine (lC p tb work me m _ _ _ HA.out.task.run (o,t) HD.out).mono ?_;rintro e wq ⟨okq,hm,hi,he⟩;rcases HCS.out with hw | hw;(obtain ⟨rfl,rfl⟩:=hw;obtain rfl:e= .panicked dI:=he;exact ⟨rfl,⟨⟨okq,HA.out.task.moves.trans hm,hi,rfl⟩⟩⟩);obtain ⟨a1,rfl,hr2⟩:=hw;obtain ⟨_,rfl,rfl⟩:=he;have HA:=Am_ (HA.out.next hm (HA.out.task.next hm hi));have HR2:=Am_ hr2;clear hm hi hr2 c0 c1 c2)
   have HR3:=Am_ HR2.out
   clear HR2 HD HCS
   have x0:=(af HA.out.res.1 0).trans (rfl:_=some (Value.int .i64 0))
   have z0:=ah HA.out.res.1 0
   have x1:=(af HA.out.res.1 1).trans (rfl:_=some (Value.int .i64 0))
   have z1:=ah HA.out.res.1 1
   have x2:=(af HA.out.res.1 2).trans (rfl:_=some (Value.bool false))
   have z2:=ah HA.out.res.1 2
   have x3:=(af HA.out.res.1 3).trans (rfl:_=some (Value.bool false))
   have z3:=ah HA.out.res.1 3
   have x4:=(af HA.out.res.1 4).trans (rfl:_=some (Value.slice none 0 0))
   have z4:=ah HA.out.res.1 4
   have x5:=(af HA.out.res.1 5).trans (rfl:_=some (Value.slice none 0 0))
   have z5:=ah HA.out.res.1 5
   have x6:=(af HA.out.res.1 6).trans (rfl:_=some (Value.slice none 0 0))
   have z6:=ah HA.out.res.1 6
   have x7:=(af HA.out.res.1 7).trans (rfl:_=some (Value.slice none 0 0))
   have z7:=ah HA.out.res.1 7
   go_wp2_with fail
   (try simp only [Exit.inBlock,Exit.then])
   show bodyPost _ _ _ _ _ (sets _ b4 [(0,.int .i64 0),(1,.int .i64 0),(2,.bool false),(3,.bool false),(4,.slice none 0 0),(5,.slice none 0 0),(6,.slice none 0 0),(7,.slice none 0 0)])
   refine bodyPost_ret (eH (rs:= [.cell 4 195,.tmp 5]) rfl (by simp) (.cell b4 195 _ (0,0) _ rfl (HA.out.res.sets [(0,.int .i64 0),(1,.int .i64 0),(2,.bool false),(3,.bool false),(4,.slice none 0 0),(5,.slice none 0 0),(6,.slice none 0 0),(7,.slice none 0 0)]).1 Tryz.underlying195 rfl (by kernel_rfl) (.tmp .nil))) rfl ?_
   obtain rfl:res=(.ret (sn0,1),_):=by have h:=HR3.out;injection h with h;exact h.symm
   exact ⟨⟨_,gu (b:=b4) (.inr (by have:=HN4.out;omega)) [(0,.int .i64 0),(1,.int .i64 0),(2,.bool false),(3,.bool false),(4,.slice none 0 0),(5,.slice none 0 0),(6,.slice none 0 0),(7,.slice none 0 0)] HA.out.task.moves,HA.out.task.run.step (bB p) (by rw [iH];exact Nat.le_refl _) (fun k hk _=>dR (b:=b4) (fun e=>HA.out.res.2 (e▸hk)) [(0,.int .i64 0),(1,.int .i64 0),(2,.bool false),(3,.bool false),(4,.slice none 0 0),(5,.slice none 0 0),(6,.slice none 0 0),(7,.slice none 0 0)] _),_,rfl,_,rfl,CY (s:=sn0) (wU (n:=nd0) (Kd.fB _ _ _ _ _) (Kd.fB _ _ _ _ _) (Kd.fB _ _ _ _ _)) (Kd.fB _ _ _ _ _)⟩⟩
  ·have e1:(sm == 1)=false:=by simpa using hs
   have HR3:ay (eD (sn0,1) t=some res):=⟨by have h:=HR4.out;rw [if_neg hs] at h;exact h⟩
   clear hs HR4
   have x0:=(af HA.out.res.1 0).trans (rfl:_=some (Value.int .i64 0))
   have z0:=ah HA.out.res.1 0
   have x1:=(af HA.out.res.1 1).trans (rfl:_=some (Value.int .i64 0))
   have z1:=ah HA.out.res.1 1
   have x2:=(af HA.out.res.1 2).trans (rfl:_=some (Value.bool false))
   have z2:=ah HA.out.res.1 2
   have x3:=(af HA.out.res.1 3).trans (rfl:_=some (Value.bool false))
   have z3:=ah HA.out.res.1 3
   have x4:=(af HA.out.res.1 4).trans (rfl:_=some (Value.slice none 0 0))
   have z4:=ah HA.out.res.1 4
   have x5:=(af HA.out.res.1 5).trans (rfl:_=some (Value.slice none 0 0))
   have z5:=ah HA.out.res.1 5
   have x6:=(af HA.out.res.1 6).trans (rfl:_=some (Value.slice none 0 0))
   have z6:=ah HA.out.res.1 6
   have x7:=(af HA.out.res.1 7).trans (rfl:_=some (Value.slice none 0 0))
   have z7:=ah HA.out.res.1 7
   go_wp2_with fail
   (try simp only [Exit.inBlock,Exit.then])
   show bodyPost _ _ _ _ _ (sets _ b4 [(0,.int .i64 0),(1,.int .i64 0),(2,.bool false),(3,.bool false),(4,.slice none 0 0),(5,.slice none 0 0),(6,.slice none 0 0),(7,.slice none 0 0)])
   refine bodyPost_ret (eH (rs:= [.cell 4 195,.tmp 5]) rfl (by simp) (.cell b4 195 _ (0,0) _ rfl (HA.out.res.sets [(0,.int .i64 0),(1,.int .i64 0),(2,.bool false),(3,.bool false),(4,.slice none 0 0),(5,.slice none 0 0),(6,.slice none 0 0),(7,.slice none 0 0)]).1 Tryz.underlying195 rfl (by kernel_rfl) (.tmp .nil))) rfl ?_
   obtain rfl:res=(.ret (sn0,1),_):=by have h:=HR3.out;injection h with h;exact h.symm
   exact ⟨⟨_,gu (b:=b4) (.inr (by have:=HN4.out;omega)) [(0,.int .i64 0),(1,.int .i64 0),(2,.bool false),(3,.bool false),(4,.slice none 0 0),(5,.slice none 0 0),(6,.slice none 0 0),(7,.slice none 0 0)] HA.out.task.moves,HA.out.task.run.step (bB p) (by rw [iH];exact Nat.le_refl _) (fun k hk _=>dR (b:=b4) (fun e=>HA.out.res.2 (e▸hk)) [(0,.int .i64 0),(1,.int .i64 0),(2,.bool false),(3,.bool false),(4,.slice none 0 0),(5,.slice none 0 0),(6,.slice none 0 0),(7,.slice none 0 0)] _),_,rfl,_,rfl,CY (s:=sn0) (wU (n:=nd0) (Kd.fB _ _ _ _ _) (Kd.fB _ _ _ _ _) (Kd.fB _ _ _ _ _)) (Kd.fB _ _ _ _ _)⟩⟩
theorem zA {W W':World} {a:Addr} (h:W'.heap[a.block]?=W.heap[a.block]?):W'.cell? a=W.cell? a:=by unfold World.cell?;rw [h]
theorem FT {α:Type} {d:Kd α} {w:World} {D:Nat→Prop} {A:Option Addr} {n:Nat} {xs:List α} (h:d.F w D A n xs) (hf:Flat A) (z:α) (i:Nat) (hi:i<n) (hs:0<d.sz):
  ∃ g c,A=some ⟨g,0,none⟩∧c.length=d.sz∧d.FK w D (xs.getD i z) c∧ ∀ j u,c[j]?=some u→w.cell? ⟨g,i*d.sz+j,none⟩=some u:=by
 obtain ⟨ad,c,e,hl,hk,hc0⟩:=Kd.nV (Kd.gD h) z (i:Int) (by omega) (by omega)
 rw [Int.toNat_natCast] at hk hc0
 have hin:=Kd.LG h e (by omega) hs
 have hlt:ad.block<w.heap.size:=by have h1:=Kd.gD h;rw [e] at h1;exact Kd.LD h1 (by omega) hs
 obtain ⟨g,rfl⟩:=hf ad e
 have hc: ∀ j u,c[j]?=some u→w.cell? ⟨g,i*d.sz+j,none⟩=some u:=fun j u hj=>by
  have h1:=hc0 j u hj
  rw [jF,Nat.zero_add] at h1
  exact h1
 refine ⟨g,c,e,hl,fun W' hW=>?_,hc⟩
 obtain ⟨ad2,c2,e2,hl2,hk2,hc2⟩:=Kd.nV (h W' hW) z (i:Int) (by omega) (by omega)
 rw [Int.toNat_natCast] at hk2 hc2
 rw [e] at e2
 injection e2 with e2
 subst e2
 have e3:c2=c:=by
  apply List.ext_getElem?
  intro j
  rcases Nat.lt_or_ge j d.sz with hj | hj
  ·have h1:c[j]?=some c[j]:=List.getElem?_eq_getElem (by omega)
   have h2:c2[j]?=some c2[j]:=List.getElem?_eq_getElem (by omega)
   have h3:=hc j _ h1
   have h4:=hc2 j _ h2
   rw [jF,Nat.zero_add,zA (W:=w) (W':=W') (hW g hin hlt),h3] at h4
   rw [h1,h2,h4]
  ·rw [List.getElem?_eq_none (by omega),List.getElem?_eq_none (by omega)]
 rw [←e3]
 exact hk2
abbrev JU (s:Sn) (Ap:Option Addr) (cp:Nat) (Ak:Option Addr) (ck:Nat) (Ay:Option Addr) (cy:Nat) (Aw:Option Addr) (cw:Nat):List Value:= [.int .i64 s.ref,.int .i64 s.info,.bool s.node.inner,.bool s.node.tagged,.slice Ap s.node.pairs.length cp,.slice Ak s.node.keys.length ck,.slice Ay s.node.ways.length cy,.slice Aw s.ways.length cw]
theorem Gt {W:World} {s:Sn} {c:List Value} (h:kSn.K W s c): ∃ Ap cp Ak ck Ay cy Aw cw,c=JU s Ap cp Ak ck Ay cy Aw cw∧s.node.pairs.length≤cp∧dZ.C W Ap s.node.pairs.length s.node.pairs∧s.node.keys.length≤ck∧(Kd.int .i64).C W Ak s.node.keys.length s.node.keys∧s.node.ways.length≤cy∧(Kd.int .i64).C W Ay s.node.ways.length s.node.ways∧s.ways.length≤cw∧(Kd.int .i64).C W Aw s.ways.length s.ways:=by
 obtain ⟨_,_,rfl,rfl,_,_,rfl,rfl,_,_,rfl,⟨_,_,rfl,rfl,_,_,rfl,rfl,_,_,rfl,⟨Ap,cp,rfl,l1,h1⟩,_,_,rfl,⟨Ak,ck,rfl,l2,h2⟩,⟨Ay,cy,rfl,l3,h3⟩⟩,⟨Aw,cw,rfl,l4,h4⟩⟩:=h
 exact ⟨Ap,cp,Ak,ck,Ay,cy,Aw,cw,rfl,l1,h1,l2,h2,l3,h3,l4,h4⟩
structure SnF (W:World) (D:Nat→Prop) (s:Sn) (Ap:Option Addr) (cp:Nat) (Ak:Option Addr) (ck:Nat) (Ay:Option Addr) (cy:Nat) (Aw:Option Addr) (cw:Nat):Prop where
 lp:s.node.pairs.length≤cp
 prs:dZ.F W D Ap s.node.pairs.length s.node.pairs
 lk:s.node.keys.length≤ck
 keys:(Kd.int .i64).F W D Ak s.node.keys.length s.node.keys
 ly:s.node.ways.length≤cy
 ways:(Kd.int .i64).F W D Ay s.node.ways.length s.node.ways
 lw:s.ways.length≤cw
 now:(Kd.int .i64).F W D Aw s.ways.length s.ways
theorem zW {W:World} {D:Nat→Prop} {s:Sn} {c:List Value} (h:kSn.FK W D s c): ∃ Ap cp Ak ck Ay cy Aw cw,c=JU s Ap cp Ak ck Ay cy Aw cw∧SnF W D s Ap cp Ak ck Ay cy Aw cw:=by
 obtain ⟨Ap,cp,Ak,ck,Ay,cy,Aw,cw,e,l1,_,l2,_,l3,_,l4,_⟩:=Gt (Kd.qE h)
 have hh: ∀ W':World,(∀ k,D k→k<W.heap.size→W'.heap[k]?=W.heap[k]?)→dZ.C W' Ap s.node.pairs.length s.node.pairs∧(Kd.int .i64).C W' Ak s.node.keys.length s.node.keys∧(Kd.int .i64).C W' Ay s.node.ways.length s.node.ways∧(Kd.int .i64).C W' Aw s.ways.length s.ways:=fun W' hW=>by
  obtain ⟨Ap2,cp2,Ak2,ck2,Ay2,cy2,Aw2,cw2,e2,_,h1,_,h2,_,h3,_,h4⟩:=Gt (h W' hW)
  rw [e] at e2
  simp only [List.cons.injEq,Value.slice.injEq,and_true,true_and] at e2
  obtain ⟨⟨rfl,rfl⟩,⟨rfl,rfl⟩,⟨rfl,rfl⟩,⟨rfl,rfl⟩⟩:=e2
  exact ⟨h1,h2,h3,h4⟩
 exact ⟨Ap,cp,Ak,ck,Ay,cy,Aw,cw,e,l1,fun W' hW=>(hh W' hW).1,l2,fun W' hW=>(hh W' hW).2.1,l3,fun W' hW=>(hh W' hW).2.2.1,l4,fun W' hW=>(hh W' hW).2.2.2⟩
structure sF (W:World) (g o:Nat) (s:Sn) (Ap:Option Addr) (cp:Nat) (Ak:Option Addr) (ck:Nat) (Ay:Option Addr) (cy:Nat) (Aw:Option Addr) (cw:Nat):Prop where
 c0:W.cell? ⟨g,o,none⟩=some (.int .i64 s.ref)
 c1:W.cell? ⟨g,o+1,none⟩=some (.int .i64 s.info)
 c2:W.cell? ⟨g,o+2,none⟩=some (.bool s.node.inner)
 c3:W.cell? ⟨g,o+3,none⟩=some (.bool s.node.tagged)
 c4:W.cell? ⟨g,o+4,none⟩=some (.slice Ap s.node.pairs.length cp)
 c5:W.cell? ⟨g,o+5,none⟩=some (.slice Ak s.node.keys.length ck)
 c6:W.cell? ⟨g,o+6,none⟩=some (.slice Ay s.node.ways.length cy)
 c7:W.cell? ⟨g,o+7,none⟩=some (.slice Aw s.ways.length cw)
theorem He {w:World} {D:Nat→Prop} {A:Option Addr} {n:Nat} {xs:List Sn} (h:kSn.F w D A n xs) (hf:Flat A) (i:Nat) (hi:i<n):
  ∃ g Ap cp Ak ck Ay cy Aw cw,A=some ⟨g,0,none⟩∧sF w g (i*8) (xs.getD i sn0) Ap cp Ak ck Ay cy Aw cw∧SnF w D (xs.getD i sn0) Ap cp Ak ck Ay cy Aw cw:=by
 obtain ⟨g,c,e,_,hk,hc⟩:=FT h hf sn0 i hi (by decide)
 obtain ⟨Ap,cp,Ak,ck,Ay,cy,Aw,cw,rfl,hF⟩:=zW hk
 have h1: ∀ j u,(JU (xs.getD i sn0) Ap cp Ak ck Ay cy Aw cw)[j]?=some u→w.cell? ⟨g,i*8+j,none⟩=some u:=hc
 exact ⟨g,Ap,cp,Ak,ck,Ay,cy,Aw,cw,e,⟨h1 0 _ rfl,h1 1 _ rfl,h1 2 _ rfl,h1 3 _ rfl,h1 4 _ rfl,h1 5 _ rfl,h1 6 _ rfl,h1 7 _ rfl⟩,hF⟩
theorem SnF.mono {W:World} {D D1:Nat→Prop} {s:Sn} {Ap Ak Ay Aw:Option Addr} {cp ck cy cw:Nat} (h:SnF W D s Ap cp Ak ck Ay cy Aw cw) (hk: ∀ k,D k→D1 k):SnF W D1 s Ap cp Ak ck Ay cy Aw cw:=⟨h.lp,Kd.dH h.prs hk,h.lk,Kd.dH h.keys hk,h.ly,Kd.dH h.ways hk,h.lw,Kd.dH h.now hk⟩
theorem SnF.moves {ok ok1:Nat→Prop} {W W1:World} {s:Sn} {Ap Ak Ay Aw:Option Addr} {cp ck cy cw:Nat} (h:SnF W (fun k=> ¬ ok k) s Ap cp Ak ck Ay cy Aw cw) (m:Moves ok ok1 W W1):SnF W1 (fun k=> ¬ ok1 k) s Ap cp Ak ck Ay cy Aw cw:=⟨h.lp,iJ h.prs m,h.lk,iJ h.keys m,h.ly,iJ h.ways m,h.lw,iJ h.now m⟩
def Bp (l:List Sn) (keep way old now:Int):Pr Ws (Bool × Bool):=aX (storeT ⟨l.map Sn.ref,l.map Sn.info,keep,way,old,now⟩) fun n=>if n=0 then eD (false,true) else aX (qd n) fun b=>eD (b,false)
def nG:List Int→List Sn→Pr Ws (List Sn × Bool)
 | [],acc=>eD (acc,true)
 | r::l,acc=>aX (loadT r) fun x=>if x.2=0 then nG l (acc++ [x.1]) else eD ([],false)
def qb (s:Sn) (way r:Int):Bool:=decide (0≤way) && (decide (way<s.ways.length) && (s.ways.getD way.toNat 0 == r))
def VBB (a:Bool × Bool) (_:Nat→Prop) (v:Value) (_:World):Prop:=v= .tuple #[.bool a.1,.bool a.2]
structure fQ (p tb:Nat) (work:Value) (me:Int) (bt:Nat) (ok:Nat→Prop) (w:World) (br:Nat) (bs:List Nat) (kp wy od nw:Int) (l:List Sn) (A:Option Addr) (s:TS Ws) (xs ys:List Int) (A1:Option Addr) (c1:Nat) (A2:Option Addr) (c2:Nat) (wc:World):Prop where
 task:aU p tb work me bt ok w ok s wc
 box:Mine ok wc br (.cells #[.slice A1 xs.length c1,.slice A2 ys.length c2,.int .i64 kp,.int .i64 wy,.int .i64 od,.int .i64 nw] 254 (0,0))
 new:w.heap.size≤br∧br≠bt∧bt∈bs∧br∈bs
 r1:(Kd.int .i64).R 45 wc w.heap.size (Fr ok (fun q=>q∉bs)) (.slice A1 xs.length c1) xs
 r2:(Kd.int .i64).R 2 wc w.heap.size (Fr ok (fun q=>q∉bs)) (.slice A2 ys.length c2) ys
 row:kSn.F wc (fun q=> ¬ ok q∧q<w.heap.size) A l.length l
section
variable {p tb:Nat} {work:Value} {me:Int} {bt:Nat} {ok:Nat→Prop} {w wc w2:World} {br:Nat} {bs:List Nat} {kp wy od nw:Int} {l:List Sn} {A:Option Addr} {s:TS Ws} {xs ys:List Int} {A1 A2 A3:Option Addr} {c1 c2 c3:Nat}
theorem fQ.alloc (h:fQ p tb work me bt ok w br bs kp wy od nw l A s xs ys A1 c1 A2 c2 wc) (o:Obj):fQ p tb work me bt ok w br (wc.heap.size::bs) kp wy od nw l A s xs ys A1 c1 A2 c2 (wc.alloc o):=
 ⟨h.task.alloc o,h.box.alloc o,⟨h.new.1,h.new.2.1,List.mem_cons_of_mem _ h.new.2.2.1,List.mem_cons_of_mem _ h.new.2.2.2⟩,
  Kd.bI (Kd.bg (Kd.bR h.r1) (fun k hk=>⟨hk.1.1,fun e=>(List.mem_cons.1 e).elim (fun e=>by have:=hk.2.2.1;omega) hk.1.2⟩)) o,
  Kd.bI (Kd.bg (Kd.bR h.r2) (fun k hk=>⟨hk.1.1,fun e=>(List.mem_cons.1 e).elim (fun e=>by have:=hk.2.2.1;omega) hk.1.2⟩)) o,Kd.eZ h.row o⟩
theorem fQ.less (h:fQ p tb work me bt ok w br bs kp wy od nw l A s xs ys A1 c1 A2 c2 wc) (bs1:List Nat) (hs: ∀ q∈bs1,q∈bs) (h1:bt∈bs1) (h2:br∈bs1):fQ p tb work me bt ok w br bs1 kp wy od nw l A s xs ys A1 c1 A2 c2 wc:=
 ⟨h.task,h.box,⟨h.new.1,h.new.2.1,h1,h2⟩,Kd.bg h.r1 (fun k hk=>⟨hk.1,fun e=>hk.2 (hs k e)⟩),Kd.bg h.r2 (fun k hk=>⟨hk.1,fun e=>hk.2 (hs k e)⟩),h.row⟩
theorem fQ.LB (h:fQ p tb work me bt ok w br bs kp wy od nw l A s xs ys A1 c1 A2 c2 wc): ∀ k,(Value.slice A1 xs.length c1).ownBlock=some k→ ¬ ok k∧w.heap.size≤k∧k∉bs:=fun k e=>by
 have h1:=(Kd.bR h.r1).1 k e
 exact ⟨h1.1.1,h1.2.1,h1.1.2⟩
theorem fQ.LC (h:fQ p tb work me bt ok w br bs kp wy od nw l A s xs ys A1 c1 A2 c2 wc): ∀ k,(Value.slice A2 ys.length c2).ownBlock=some k→ ¬ ok k∧w.heap.size≤k∧k∉bs:=fun k e=>by
 have h1:=(Kd.bR h.r2).1 k e
 exact ⟨h1.1.1,h1.2.1,h1.1.2⟩
theorem fQ.KQ (h:fQ p tb work me bt ok w br bs kp wy od nw l A s xs ys A1 c1 A2 c2 wc) (hg:wc.grownBy w2 (Value.slice A1 xs.length c1).ownBlock) {g:Nat} {o:Obj} (hm:wc.heap[g]?=some o) (hb:g∈bs):w2.heap[g]?=some o:=bG hm hg (fun e=>(h.LB g e.symm).2.2 hb)
theorem fQ.KR (h:fQ p tb work me bt ok w br bs kp wy od nw l A s xs ys A1 c1 A2 c2 wc) (hg:wc.grownBy w2 (Value.slice A2 ys.length c2).ownBlock) {g:Nat} {o:Obj} (hm:wc.heap[g]?=some o) (hb:g∈bs):w2.heap[g]?=some o:=bG hm hg (fun e=>(h.LC g e.symm).2.2 hb)
theorem fQ.fresh (h:fQ p tb work me bt ok w br bs kp wy od nw l A s xs ys A1 c1 A2 c2 wc) (hb: ∀ q∈bs,q<wc.heap.size): ∀ k,wc.heap.size≤k→Fr ok (fun q=>q∉bs) k:=fun k hk=>⟨fun h1=>by have:=h.task.lt k h1;omega,fun h1=>by have:=hb k h1;omega⟩
theorem fQ.Lc (h:fQ p tb work me bt ok w br bs kp wy od nw l A s xs ys A1 c1 A2 c2 wc) {x:Int} (hR:(Kd.int .i64).R 45 w2 w.heap.size (Fr ok (fun q=>q∉bs)) (.slice A3 (xs++ [x]).length c3) (xs++ [x])) (hg:wc.grownBy w2 (Value.slice A1 xs.length c1).ownBlock):
  fQ p tb work me bt ok w br bs kp wy od nw l A s (xs++ [x]) ys A3 c3 A2 c2 (w2.setCell ⟨br,0,none⟩ (.slice A3 (xs++ [x]).length c3)):=by
 have far: ∀ k,k≠br→(w2.setCell ⟨br,0,none⟩ (.slice A3 (xs++ [x]).length c3)).heap[k]?=w2.heap[k]?:=fun k hk=>Below.heap_setCell _ ⟨br,0,none⟩ _ k hk
 have ne1: ∀ k,k∉bs→k≠br:=fun k hk e=>hk (e▸h.new.2.2.2)
 have ow:=h.LB
 refine ⟨(h.task.grown hg (fun k e=>⟨(ow k e).1,(ow k e).2.1,fun e1=>(ow k e).2.2 (e1▸h.new.2.2.1)⟩)).set (q:=⟨br,0,none⟩) h.box.2 h.new.1 h.new.2.1 _,Mine.set (Mine.grown h.box hg (fun k e=>ne1 k (ow k e).2.2)) 0 _,h.new,iO hR br ne1 far,iO (Kd.Ej h.r2 h.r1 (by decide) hg) br ne1 far,?_⟩
 exact Kd.fV (Kd.kX h.row hg (fun k hk e=>by have:=(ow k e.symm).2.1;have:=hk.2;omega)) (fun k hk _=>far k (by have:=h.new.1;have:=hk.2;omega))
theorem fQ.Ld (h:fQ p tb work me bt ok w br bs kp wy od nw l A s xs ys A1 c1 A2 c2 wc) {x:Int} (hR:(Kd.int .i64).R 2 w2 w.heap.size (Fr ok (fun q=>q∉bs)) (.slice A3 (ys++ [x]).length c3) (ys++ [x])) (hg:wc.grownBy w2 (Value.slice A2 ys.length c2).ownBlock):
  fQ p tb work me bt ok w br bs kp wy od nw l A s xs (ys++ [x]) A1 c1 A3 c3 (w2.setCell ⟨br,1,none⟩ (.slice A3 (ys++ [x]).length c3)):=by
 have far: ∀ k,k≠br→(w2.setCell ⟨br,1,none⟩ (.slice A3 (ys++ [x]).length c3)).heap[k]?=w2.heap[k]?:=fun k hk=>Below.heap_setCell _ ⟨br,1,none⟩ _ k hk
 have ne1: ∀ k,k∉bs→k≠br:=fun k hk e=>hk (e▸h.new.2.2.2)
 have ow:=h.LC
 refine ⟨(h.task.grown hg (fun k e=>⟨(ow k e).1,(ow k e).2.1,fun e1=>(ow k e).2.2 (e1▸h.new.2.2.1)⟩)).set (q:=⟨br,1,none⟩) h.box.2 h.new.1 h.new.2.1 _,Mine.set (Mine.grown h.box hg (fun k e=>ne1 k (ow k e).2.2)) 1 _,h.new,iO (Kd.Ej h.r1 h.r2 (by decide) hg) br ne1 far,iO hR br ne1 far,?_⟩
 exact Kd.fV (Kd.kX h.row hg (fun k hk e=>by have:=(ow k e.symm).2.1;have:=hk.2;omega)) (fun k hk _=>far k (by have:=h.new.1;have:=hk.2;omega))
end
theorem uw (p tb:Nat) (work:Value) (me:Int) (ok:Nat→Prop) (s:TS Ws) (w:World) (l:List Sn) (A:Option Addr) (c:Nat) (kp wy od nw:Int) (h:dX (shW p) tb work ok s w) (hl:kSn.F w (fun k=> ¬ ok k) A l.length l) (hfl:Flat A) (hk0:0≤kp) (hsm:l.length<1000) (res:Out (Bool × Bool) × TS Ws) (hr:Bp l kp wy od nw s=some res):
  Calls Tryz.prog 122 #[fo tb p me,.slice A l.length c,.int .i64 kp,.int .i64 wy,.int .i64 od,.int .i64 nw] w (gF (shW p) tb work VBB ok w res):=by
 have HTV:fo tb p me= .agg #[.pointer (some ⟨tb,0,none⟩),.pointer (some ⟨p,0,none⟩),.int .i64 me]:=rfl
 rw [HTV]
 have h0:=aU.enter (me:=me) h
 unfold fK at h0
 have HL:ay (fQ p tb work me w.heap.size ok w (w.heap.size+1) [w.heap.size,w.heap.size+1] kp wy od nw l A s [] [] none 0 none 0 ((w.alloc (.cells #[.pointer (some ⟨tb,0,none⟩),.pointer (some ⟨p,0,none⟩),.int .i64 me] 114)).alloc (.cells #[.slice none 0 0,.slice none 0 0,.int .i64 kp,.int .i64 wy,.int .i64 od,.int .i64 nw] 254))):=⟨{
  task:=h0.alloc (.cells #[.slice none 0 0,.slice none 0 0,.int .i64 kp,.int .i64 wy,.int .i64 od,.int .i64 nw] 254)
  box:=by
   have h1:=Mine.new h0.lt (.cells #[.slice none 0 0,.slice none 0 0,.int .i64 kp,.int .i64 wy,.int .i64 od,.int .i64 nw] 254)
   simp only [World.size_alloc] at h1
   exact h1
  new:=⟨by omega,by omega,by simp,by simp⟩
  r1:=Kd.fB _ _ _ _ _
  r2:=Kd.fB _ _ _ _ _
  row:=Kd.eZ (Kd.eZ (Kd.eP hl) _) _ }⟩
 have HR:=Am_ hr
 have HK:=Am_ (And.intro hk0 (And.intro hsm hfl))
 clear h h0 hr HTV hl hk0 hsm hfl
 go_enter Tryz.func122,Tryz.ntmps122
 go_upto_region 2 with fail
 generalize (w.alloc (.cells #[.pointer (some ⟨tb,0,none⟩),.pointer (some ⟨p,0,none⟩),.int .i64 me] 114)).alloc (.cells #[.slice none 0 0,.slice none 0 0,.int .i64 kp,.int .i64 wy,.int .i64 od,.int .i64 nw] 254)=w2 at HL ⊢
 generalize hbt:w.heap.size=bt at HL ⊢
 generalize hbr:bt+1=br at HL ⊢
 clear hbt hbr
 go_upto_block 0 with fail
 go_wp2_with fail
 go_loopg [25] l.length (fun g v25 wr=> ∃ k:Nat,v25= .int .i64 k∧k+g=l.length∧ay (∃ A1 c1 A2 c2,fQ p tb work me bt ok w br [bt,br] kp wy od nw l A s ((l.take k).map Sn.ref) ((l.take k).map Sn.info) A1 c1 A2 c2 wr))
 case atStart=>exact ⟨0,rfl,by omega,⟨none,0,none,0,HL.out⟩⟩
 case round=>
  obtain ⟨k,rfl,hkg,HQ⟩:=hrel
  clear HL
  obtain ⟨A1,c1,A2,c2,hq⟩:=HQ.out
  clear HQ
  cases gk with
  | zero=>
   have hk:k=l.length:=by omega
   have d1:decide ((k:Int)<(l.length:Int))=false:=decide_eq_false (by omega)
   have d2:decide (k<l.length)=false:=decide_eq_false (by omega)
   have e1:l.take k=l:=List.take_of_length_le (by omega)
   rw [e1] at hq
   have hr:aX (storeT ⟨l.map Sn.ref,l.map Sn.info,kp,wy,od,nw⟩) (fun n=>if n=0 then eD (false,true) else aX (qd n) fun b=>eD (b,false)) s=some res:=HR.out
   obtain ⟨o,t,hd,hcase⟩:=aN hr
   have HD:=Am_ hd
   have HCS:=Am_ hcase
   clear hd hcase
   have hle:(l.map Sn.info).length=(l.map Sn.ref).length:=by simp
   have hq1:=hq.box
   have hq2:(Kd.int .i64).F wr (fun q=> ¬ ok q) A2 (l.map Sn.info).length (l.map Sn.info):=Kd.dH (Kd.R_F hq.r2) (fun q hk=>hk.1)
   rw [hle] at hq1 hq2
   have HB:=Am_ hq1
   have HF1:ay ((Kd.int .i64).F wr (fun q=> ¬ ok q) A1 (l.map Sn.ref).length (l.map Sn.ref)):=⟨Kd.dH (Kd.R_F hq.r1) (fun q hk=>hk.1)⟩
   have HF2:=Am_ hq2
   have HT:=Am_ hq.task
   have HLN:ay ((l.map Sn.ref).length<1000000∧(l.map Sn.ref).length=(l.map Sn.info).length):=⟨by rw [List.length_map,List.length_map];exact ⟨by have:=HK.out.2.1;omega,rfl⟩⟩
   have c0:=hq.task.c0
   clear hq hr e1 HR hk hq1 hq2 hle
   go_upto_region 9 with (go_at_call 137;refine (HT.out.store_ HB.out HF1.out HF2.out HK.out.1 HLN.out.1 HLN.out.2 HD.out).mono ?_;rintro e wq ⟨⟨okq,hm,hT,he⟩⟩;rcases HCS.out with hw | hw;(obtain ⟨rfl,rfl⟩:=hw;obtain rfl:e= .panicked dI:=he;exact ⟨rfl,⟨⟨okq,hT.moves,hT.run,rfl⟩⟩⟩);obtain ⟨n,rfl,hr2⟩:=hw;obtain rfl:e= .returned (.int .i64 n):=he;have HT:=Am_ hT;have HR2:=Am_ hr2;clear hm hT hr2;clear c0)
   clear HB HF1 HF2 HLN HD HCS d1 d2
   by_cases hn:n=0
   ·have e1:(n == 0)=true:=by simp [hn]
    have HR3:ay (eD (false,true) t=some res):=⟨by have h:=HR2.out;rw [if_pos hn] at h;exact h⟩
    clear hn HR2
    go_wp2_with fail
    (try simp only [Exit.inBlock,Exit.then])
    refine bodyPost_ret (eH (rs:= [.tmp 12,.tmp 13]) rfl (by simp) (.tmp (.tmp .nil))) rfl ?_
    obtain rfl:res=(.ret (false,true),t):=by have h:=HR3.out;injection h with h;exact h.symm
    exact ⟨⟨_,HT.out.moves,HT.out.run,_,rfl,rfl⟩⟩
   ·have e1:(n == 0)=false:=by simpa using hn
    have hr:aX (qd n) (fun b=>eD (b,false)) t=some res:=by have h:=HR2.out;rw [if_neg hn] at h;exact h
    clear hn HR2
    obtain ⟨o,t,hd,hcase⟩:=aN hr
    have HD:=Am_ hd
    have HCS:=Am_ hcase
    clear hd hcase
    have c0:=HT.out.c0
    have c1:=HT.out.c1
    have c2:=HT.out.c2
    clear hr
    go_wp2_with (go_at_call 175;refine (lC p tb work me n _ _ _ HT.out.run (o,t) HD.out).mono ?_;rintro e wq ⟨okq,hm,hi,he⟩;rcases HCS.out with hw | hw;(obtain ⟨rfl,rfl⟩:=hw;obtain rfl:e= .panicked dI:=he;exact ⟨rfl,⟨⟨okq,HT.out.moves.trans hm,hi,rfl⟩⟩⟩);obtain ⟨b,rfl,hr2⟩:=hw;obtain ⟨_,rfl,rfl⟩:=he;have HT:=Am_ (HT.out.next hm hi);have HR3:=Am_ hr2;clear hm hi hr2 c0 c1 c2)
    (try simp only [Exit.inBlock,Exit.then])
    refine bodyPost_ret (eH (rs:= [.tmp 12,.tmp 13]) rfl (by simp) (.tmp (.tmp .nil))) rfl ?_
    obtain rfl:res=(.ret (b,false),t):=by have h:=HR3.out;injection h with h;exact h.symm
    exact ⟨⟨_,HT.out.moves,HT.out.run,_,rfl,rfl⟩⟩
  | succ g=>
   have d1:decide ((k:Int)<(l.length:Int))=true:=decide_eq_true (by omega)
   have d2:decide (k<l.length)=true:=decide_eq_true (by omega)
   have b1:(0:Int)≤(k:Int):=by omega
   have b2:(k:Int)<(l.length:Int):=by omega
   have b3:k<l.length:=by omega
   have hw1:wrap64 ((k:Int)+1)=((k+1:Nat):Int):=by have:=HK.out;unfold wrap64;omega
   have HW1:=Am_ hw1
   obtain ⟨gA,Ap,cp,Ak,ck,Ay,cy,Aw,cw,eA,hC,_⟩:=He hq.row HK.out.2.2 k b3
   have htk:l.take (k+1)=l.take k++ [l.getD k sn0]:=by rw [List.take_add_one,List.getElem?_eq_getElem b3,List.getD_eq_getElem?_getD,List.getElem?_eq_getElem b3];rfl
   have HTK:=Am_ htk
   generalize l.getD k sn0=sn at hC htk HTK
   have HLX:ay (((l.take k).map Sn.ref).length<1000∧((l.take k).map Sn.info).length<1000):=⟨by simp only [List.length_map,List.length_take];have:=HK.out;omega⟩
   generalize hxs:(l.take k).map Sn.ref=xs at hq HLX
   generalize hys:(l.take k).map Sn.info=ys at hq HLX
   have HXS:=Am_ (And.intro hxs hys)
   obtain ⟨a0,a1,a2,a3,a4,a5,a6,a7⟩:=hC
   have HS:=Am_ hq
   clear htk hw1 hxs hys hq
   subst eA
   go_upto_region 5 with fail
   clear a0 a1 a2 a3 a4 a5 a6 a7
   have HNE:ay (wr.heap.size≠br):=⟨by have:=HS.out.box.lt;omega⟩
   have HS4:=Am_ (HS.out.alloc (.cells #[.int .i64 sn.ref,.int .i64 sn.info,.bool sn.node.inner,.bool sn.node.tagged,.slice Ap sn.node.pairs.length cp,.slice Ak sn.node.keys.length ck,.slice Ay sn.node.ways.length cy,.slice Aw sn.ways.length cw] 195))
   have HB4:=Am_ (dw wr (.cells #[.int .i64 sn.ref,.int .i64 sn.info,.bool sn.node.inner,.bool sn.node.tagged,.slice Ap sn.node.pairs.length cp,.slice Ak sn.node.keys.length ck,.slice Ay sn.node.ways.length cy,.slice Aw sn.ways.length cw] 195))
   clear HS
   generalize wr.alloc (.cells #[.int .i64 sn.ref,.int .i64 sn.info,.bool sn.node.inner,.bool sn.node.tagged,.slice Ap sn.node.pairs.length cp,.slice Ak sn.node.keys.length ck,.slice Ay sn.node.ways.length cy,.slice Aw sn.ways.length cw] 195)=w4 at HS4 HB4 ⊢
   generalize wr.heap.size=b16 at HS4 HB4 HNE ⊢
   have y0:=(af HS4.out.box.1 0).trans (rfl:_=some (Value.slice A1 xs.length c1))
   have y1:=(af HB4.out 0).trans (rfl:_=some (Value.int .i64 sn.ref))
   go_upto_region 6 with ((with_reducible refine bK (b:= .append) (xs:= #[.tmp 30,.tmp 33]) rfl ?_);at_builtin;refine Kd.eF (Kd.int .i64) (w0:=w4) w.heap.size rfl (.tmp 30) (.tmp 33) 153 45 (.int .i64 0) 8 rfl Tryz.underlying153 nk rfl (by decide) (by omega) (Value.slice A1 xs.length c1) xs sn.ref [.int .i64 sn.ref] (Fr ok (fun q=>q∉ [b16,bt,br])) (fun _=>False) rfl rfl rfl (fun _ hk=>hk.elim) (HS4.out.fresh (by intro q hq;simp only [List.mem_cons,List.not_mem_nil,or_false] at hq;have h1:=HS4.out.task.box.lt;have h2:=HS4.out.box.lt;have h3:=bF HB4.out;omega)) HS4.out.r1 (Below.refl _ _) HS4.out.task.moves.size (by have:=HLX.out;omega) ?_;intro v6 w6 ho hb6 hg hat;obtain ⟨A6,c6,rfl⟩:=Kd.aV ho;have z6:w6.frozen? ⟨br,0,none⟩=false:=ah (HS4.out.KQ hg HS4.out.box.1 (by simp)) 0;have k6:=(af (HS4.out.KQ hg HS4.out.box.1 (by simp)) 0).trans (rfl:_=some (Value.slice A1 xs.length c1));have HB6:=Am_ (HS4.out.KQ hg HB4.out (by simp));have HS6:=Am_ (HS4.out.Lc ho hg);clear ho hb6 hg hat)
   clear y0 y1 z6 k6 HS4 HB4
   rw [show (xs++ [sn.ref]).length=xs.length+1 by simp] at HS6
   have HB7:=Am_ ((Below.heap_setCell w6 ⟨br,0,none⟩ (.slice A6 (xs.length+1) c6) b16 HNE.out).trans HB6.out)
   clear HB6
   generalize w6.setCell ⟨br,0,none⟩ (.slice A6 (xs.length+1) c6)=w7 at HS6 HB7 ⊢
   have y0:=(af HS6.out.box.1 1).trans (rfl:_=some (Value.slice A2 ys.length c2))
   have y1:=(af HB7.out 1).trans (rfl:_=some (Value.int .i64 sn.info))
   go_upto_region 7 with ((with_reducible refine bK (b:= .append) (xs:= #[.tmp 37,.tmp 40]) rfl ?_);at_builtin;refine Kd.eF (Kd.int .i64) (w0:=w7) w.heap.size rfl (.tmp 37) (.tmp 40) 22 2 (.int .i64 0) 8 rfl Tryz.underlying22 ng rfl (by decide) (by omega) (Value.slice A2 ys.length c2) ys sn.info [.int .i64 sn.info] (Fr ok (fun q=>q∉ [b16,bt,br])) (fun _=>False) rfl rfl rfl (fun _ hk=>hk.elim) (HS6.out.fresh (by intro q hq;simp only [List.mem_cons,List.not_mem_nil,or_false] at hq;have h1:=HS6.out.task.box.lt;have h2:=HS6.out.box.lt;have h3:=bF HB7.out;omega)) HS6.out.r2 (Below.refl _ _) HS6.out.task.moves.size (by have:=HLX.out;omega) ?_;intro v8 w8 ho hb6 hg hat;obtain ⟨A8,c8,rfl⟩:=Kd.aV ho;have z8:w8.frozen? ⟨br,1,none⟩=false:=ah (HS6.out.KR hg HS6.out.box.1 (by simp)) 1;have k8:=(af (HS6.out.KR hg HS6.out.box.1 (by simp)) 1).trans (rfl:_=some (Value.slice A2 ys.length c2));have HB8:=Am_ (HS6.out.KR hg HB7.out (by simp));have HS8:=Am_ (HS6.out.Ld ho hg);clear ho hb6 hg hat)
   clear y0 y1 z8 k8 HS6 HB7 HB8
   rw [show (ys++ [sn.info]).length=ys.length+1 by simp] at HS8
   generalize w8.setCell ⟨br,1,none⟩ (.slice A8 (ys.length+1) c8)=w9 at HS8 ⊢
   go_wp2_with fail
   go_roundg g
   case rel=>
    refine ⟨k+1,by first | rfl | rw [HW1.out],by omega,⟨⟨A6,c6,A8,c8,?_⟩⟩⟩
    rw [HTK.out,List.map_append,List.map_append,HXS.out.1,HXS.out.2]
    exact HS8.out.less [bt,br] (by simp) (by simp) (by simp)
   case measure=>omega
theorem zU:(Tryz.prog.info? 195).map (fun i=>(i.zero,i.size,i.bytes))=some (some (.agg #[.int .i64 0,.int .i64 0,.bool false,.bool false,.slice none 0 0,.slice none 0 0,.slice none 0 0,.slice none 0 0]),8,120):=by kernel_rfl
def Jq (N:Nat) (a:List Sn × Bool) (ok:Nat→Prop) (v:Value) (w:World):Prop:= ∃ A c,v= .tuple #[.slice A a.1.length c,.bool a.2]∧kSn.R 195 w N (fun k=> ¬ ok k) (.slice A a.1.length c) a.1
structure iY (p tb:Nat) (work:Value) (me:Int) (bt:Nat) (ok:Nat→Prop) (w:World) (rs:List Int) (AR:Option Addr) (okc:Nat→Prop) (s:TS Ws) (acc:List Sn) (A1:Option Addr) (c1:Nat) (wc:World):Prop where
 task:aU p tb work me bt ok w okc s wc
 row:kSn.R 195 wc w.heap.size (Fr okc (fun q=>q≠bt)) (.slice A1 acc.length c1) acc
 refs:(Kd.int .i64).F wc (fun q=> ¬ okc q∧q<w.heap.size) AR rs.length rs
section
variable {p tb:Nat} {work:Value} {me:Int} {bt:Nat} {ok okc okq:Nat→Prop} {w wc wq w2:World} {rs:List Int} {AR:Option Addr} {s s2:TS Ws} {acc:List Sn} {A1 A2:Option Addr} {c1 c2:Nat}
theorem iY.next (h:iY p tb work me bt ok w rs AR okc s acc A1 c1 wc) (m:Moves okc okq wc wq) (t:aU p tb work me bt ok w okq s2 wq):iY p tb work me bt ok w rs AR okq s2 acc A1 c1 wq:=
 ⟨t,iR h.row m,Kd.dH (Kd.fV (Kd.eP h.refs) (fun k hk hlt=>m.block k hlt hk.1.1)) (fun k hk=>⟨fun h1=>(m.fresh k h1).elim hk.1.1 (fun h2=>by have:=hk.2;omega),hk.1.2⟩)⟩
theorem iY.alloc (h:iY p tb work me bt ok w rs AR okc s acc A1 c1 wc) (o:Obj):iY p tb work me bt ok w rs AR okc s acc A1 c1 (wc.alloc o):=h.next ((Moves.refl _ _).alloc o) (h.task.alloc o)
theorem iY.fresh (h:iY p tb work me bt ok w rs AR okc s acc A1 c1 wc): ∀ k,wc.heap.size≤k→Fr okc (fun q=>q≠bt) k:=fun k hk=>⟨fun h1=>by have:=h.task.lt k h1;omega,fun h1=>by have:=h.task.box.lt;omega⟩
theorem iY.push (h:iY p tb work me bt ok w rs AR okc s acc A1 c1 wc) {x:Sn} (hR:kSn.R 195 w2 w.heap.size (Fr okc (fun q=>q≠bt)) (.slice A2 (acc++ [x]).length c2) (acc++ [x])) (hg:wc.grownBy w2 (Value.slice A1 acc.length c1).ownBlock):
  iY p tb work me bt ok w rs AR okc s (acc++ [x]) A2 c2 w2:=by
 have ow:=(Kd.bR h.row).1
 exact ⟨h.task.grown hg (fun k e=>⟨(ow k e).1.1,(ow k e).2.1,(ow k e).1.2⟩),hR,Kd.kX h.refs hg (fun k hk e=>by have:=(ow k e.symm).2.1;have:=hk.2;omega)⟩
theorem iY.part (h:iY p tb work me bt ok w rs AR okc s acc A1 c1 wc) (m:Moves okc okq wc wq) {x:Sn} {cs:List Value} (hM:kSn.M wq wc.heap.size (fun k=> ¬ okq k) x cs):kSn.M wq w.heap.size (fun k=> ¬ okq k∧wc.heap.size≤k∧k<wq.heap.size) x cs∧(∀ k,¬ okq k∧wc.heap.size≤k∧k<wq.heap.size→Fr okq (fun q=>q≠bt) k∧some k≠(Value.slice A1 acc.length c1).ownBlock):=
 ⟨kSn.M_lower h.task.moves.size (kSn.M_mono (fun k hk=>⟨hk.1,hk.2.1,hk.2.2.1⟩) (kSn.M_bound hM)),fun k hk=>⟨⟨hk.1,fun e=>by have:=h.task.box.lt;omega⟩,fun e=>by have:=((Kd.bR h.row).1 k e.symm).2.2.1;omega⟩⟩
end
theorem tY (p tb:Nat) (work:Value) (me:Int) (ok:Nat→Prop) (s:TS Ws) (w:World) (rs:List Int) (AR:Option Addr) (c:Nat) (h:dX (shW p) tb work ok s w) (hl:(Kd.int .i64).F w (fun k=> ¬ ok k) AR rs.length rs) (hfl:Flat AR) (hsm:rs.length<1000) (res:Out (List Sn × Bool) × TS Ws) (hr:nG rs [] s=some res):
  Calls Tryz.prog 117 #[fo tb p me,.slice AR rs.length c] w (gF (shW p) tb work (Jq w.heap.size) ok w res):=by
 have HTV:fo tb p me= .agg #[.pointer (some ⟨tb,0,none⟩),.pointer (some ⟨p,0,none⟩),.int .i64 me]:=rfl
 rw [HTV]
 have h0:=aU.enter (me:=me) h
 unfold fK at h0
 have HL:ay (iY p tb work me w.heap.size ok w rs AR ok s [] none 0 (w.alloc (.cells #[.pointer (some ⟨tb,0,none⟩),.pointer (some ⟨p,0,none⟩),.int .i64 me] 114))):=⟨{
  task:=h0
  row:=Kd.fB _ _ _ _ _
  refs:=Kd.eZ (Kd.eP hl) _ }⟩
 have HR:=Am_ hr
 have HK:=Am_ (And.intro hsm hfl)
 clear h h0 hr HTV hl hsm hfl
 go_enter Tryz.func117,Tryz.ntmps117
 go_upto_region 2 with fail
 generalize w.alloc (.cells #[.pointer (some ⟨tb,0,none⟩),.pointer (some ⟨p,0,none⟩),.int .i64 me] 114)=w2 at HL ⊢
 generalize hbt:w.heap.size=bt at HL ⊢
 have HBT:=Am_ hbt
 clear hbt
 go_upto_block 0 with fail
 go_wp2_with fail
 go_loopg [6,13] rs.length (fun g v6 v13 wr=> ∃ k:Nat,v13= .int .i64 k∧k+g=rs.length∧ ∃ A1 c1 acc,v6= .slice A1 acc.length c1∧acc.length=k∧ay (∃ okc s,iY p tb work me bt ok w rs AR okc s acc A1 c1 wr∧nG (rs.drop k) acc s=some res))
 case atStart=>exact ⟨0,rfl,by omega,none,0,[],rfl,rfl,⟨ok,s,HL.out,by have h:=HR.out;rwa [List.drop_zero]⟩⟩
 case round=>
  obtain ⟨k,rfl,hkg,A1,c1,acc,rfl,hla,HQ⟩:=hrel
  clear HL HR
  obtain ⟨okc,s1,hq,hr⟩:=HQ.out
  clear HQ
  have HS:=Am_ hq
  cases gk with
  | zero=>
   have d1:decide ((k:Int)<(rs.length:Int))=false:=decide_eq_false (by omega)
   have d2:decide (k<rs.length)=false:=decide_eq_false (by omega)
   have HR3:ay (eD (acc,true) s1=some res):=⟨by rw [List.drop_of_length_le (by omega)] at hr;exact hr⟩
   clear hq hr
   go_wp2_with fail
   (try simp only [Exit.inBlock,Exit.then])
   refine bodyPost_ret (eH (rs:= [.tmp 4,.tmp 5]) rfl (by simp) (.tmp (.tmp .nil))) rfl ?_
   obtain rfl:res=(.ret (acc,true),s1):=by have h:=HR3.out;injection h with h;exact h.symm
   exact ⟨⟨_,HS.out.task.moves,HS.out.task.run,_,rfl,A1,c1,rfl,Kd.bg HS.out.row (fun q hq=>hq.1)⟩⟩
  | succ g=>
   have d1:decide ((k:Int)<(rs.length:Int))=true:=decide_eq_true (by omega)
   have d2:decide (k<rs.length)=true:=decide_eq_true (by omega)
   have b1:(0:Int)≤(k:Int):=by omega
   have b2:(k:Int)<(rs.length:Int):=by omega
   have b3:k<rs.length:=by omega
   have hw1:wrap64 ((k:Int)+1)=((k+1:Nat):Int):=by have:=HK.out.1;unfold wrap64;omega
   have HW1:=Am_ hw1
   have HLX:ay (acc.length<1000):=⟨by have:=HK.out.1;omega⟩
   obtain ⟨gR,eA,hC,_⟩:=FR hq.refs HK.out.2 k b3
   have hdr:rs.drop k=rs.getD k 0::rs.drop (k+1):=by
    rw [List.drop_eq_getElem_cons b3,List.getD_eq_getElem?_getD,List.getElem?_eq_getElem b3]
    rfl
   rw [hdr] at hr
   generalize rs.getD k 0=x at hC hr
   have hr:aX (loadT x) (fun x=>if x.2=0 then nG (rs.drop (k+1)) (acc++ [x.1]) else eD ([],false)) s1=some res:=hr
   obtain ⟨o,t,hd,hcase⟩:=aN hr
   have HD:=Am_ hd
   have HCS:=Am_ hcase
   clear hd hcase
   have c0:=HS.out.task.c0
   have c1_:=HS.out.task.c1
   have c2_:=HS.out.task.c2
   have HLA:=Am_ hla
   clear hr hq hdr hw1 hla
   subst eA
   go_upto_region 6 with (go_at_call 167;refine (wW p tb work me x _ _ _ HS.out.task.run (o,t) HD.out).mono ?_;rintro e wq ⟨okq,hm,hi,he⟩;rcases HCS.out with hw | hw;(obtain ⟨rfl,rfl⟩:=hw;obtain rfl:e= .panicked dI:=he;exact ⟨rfl,⟨⟨okq,HS.out.task.moves.trans hm,hi,rfl⟩⟩⟩);obtain ⟨a,rfl,hr2⟩:=hw;obtain ⟨_,rfl,cs,rfl,hM⟩:=he;obtain ⟨Ap,cp,Ak,ck,Ay,cy,Aw,cw,rfl,_⟩:=Gt (kSn.K_of_M hM);have HM:=Am_ (HS.out.part hm hM);have HS5:=Am_ (HS.out.next hm (HS.out.task.next hm hi));have HR2:=Am_ hr2;have c9:=dw wq (.cells #[.int .i64 a.1.ref,.int .i64 a.1.info,.bool a.1.node.inner,.bool a.1.node.tagged,.slice Ap a.1.node.pairs.length cp,.slice Ak a.1.node.keys.length ck,.slice Ay a.1.node.ways.length cy,.slice Aw a.1.ways.length cw] 195);clear hm hi hr2 hM c0 c1_ c2_)
   have HS6:=Am_ (HS5.out.alloc (.cells #[.int .i64 a.1.ref,.int .i64 a.1.info,.bool a.1.node.inner,.bool a.1.node.tagged,.slice Ap a.1.node.pairs.length cp,.slice Ak a.1.node.keys.length ck,.slice Ay a.1.node.ways.length cy,.slice Aw a.1.ways.length cw] 195))
   have HM6:=Am_ (And.intro (Kd.xX HM.out.1 (w1:=wq.alloc (.cells #[.int .i64 a.1.ref,.int .i64 a.1.info,.bool a.1.node.inner,.bool a.1.node.tagged,.slice Ap a.1.node.pairs.length cp,.slice Ak a.1.node.keys.length ck,.slice Ay a.1.node.ways.length cy,.slice Aw a.1.ways.length cw] 195)) (fun k _ hlt=>Below.heap_alloc _ _ _ hlt)) HM.out.2)
   clear hC HD HCS HS HS5 HM
   generalize wq.alloc (.cells #[.int .i64 a.1.ref,.int .i64 a.1.info,.bool a.1.node.inner,.bool a.1.node.tagged,.slice Ap a.1.node.pairs.length cp,.slice Ak a.1.node.keys.length ck,.slice Ay a.1.node.ways.length cy,.slice Aw a.1.ways.length cw] 195)=w6 at HS6 HM6 c9 ⊢
   generalize wq.heap.size=n6 at HM6 c9 ⊢
   generalize wr.heap.size=n5 at HM6
   have HB9:=Am_ c9
   clear c9
   by_cases h0:a.2=0
   ·have e1:(a.2 != 0)=false:=by simp [h0]
    have HR3:ay (nG (rs.drop (k+1)) (acc++ [a.1]) t=some res):=⟨by have h:=HR2.out;rw [if_pos h0] at h;exact h⟩
    clear h0 HR2
    have y0:=(af HB9.out 0).trans (rfl:_=some (Value.int .i64 a.1.ref))
    have y1:=(af HB9.out 1).trans (rfl:_=some (Value.int .i64 a.1.info))
    have y2:=(af HB9.out 2).trans (rfl:_=some (Value.bool a.1.node.inner))
    have y3:=(af HB9.out 3).trans (rfl:_=some (Value.bool a.1.node.tagged))
    have y4:=(af HB9.out 4).trans (rfl:_=some (Value.slice Ap a.1.node.pairs.length cp))
    have y5:=(af HB9.out 5).trans (rfl:_=some (Value.slice Ak a.1.node.keys.length ck))
    have y6:=(af HB9.out 6).trans (rfl:_=some (Value.slice Ay a.1.node.ways.length cy))
    have y7:=(af HB9.out 7).trans (rfl:_=some (Value.slice Aw a.1.ways.length cw))
    go_upto_region 9 with ((with_reducible refine bK (b:= .append) (xs:= #[.tmp 25,.tmp 27]) rfl ?_);at_builtin;refine Kd.eF kSn (w0:=w6) w.heap.size rfl (.tmp 25) (.tmp 27) 191 195 (.agg #[.int .i64 0,.int .i64 0,.bool false,.bool false,.slice none 0 0,.slice none 0 0,.slice none 0 0,.slice none 0 0]) 120 rfl Tryz.underlying191 zU rfl (by decide) (by omega) (.slice A1 acc.length c1) acc a.1 [.int .i64 a.1.ref,.int .i64 a.1.info,.bool a.1.node.inner,.bool a.1.node.tagged,.slice Ap a.1.node.pairs.length cp,.slice Ak a.1.node.keys.length ck,.slice Ay a.1.node.ways.length cy,.slice Aw a.1.ways.length cw] (Fr okq (fun q=>q≠bt)) (fun k=> ¬ okq k∧n5≤k∧k<n6) rfl rfl HM6.out.1 HM6.out.2 HS6.out.fresh HS6.out.row (Below.refl _ _) HS6.out.task.moves.size (by have:=HLX.out;omega) ?_;intro v8 w8 ho hb8 hg hat;obtain ⟨A8,c8,rfl⟩:=Kd.aV ho;have HS8:=Am_ (HS6.out.push ho hg);clear ho hb8 hg hat)
    clear y0 y1 y2 y3 y4 y5 y6 y7 HB9 HS6 HM6 e1
    go_wp2_with fail
    go_roundg g
    case rel=>exact ⟨k+1,by first | rfl | rw [HW1.out],by omega,A8,c8,acc++ [a.1],by first | rfl | simp,by rw [List.length_append,List.length_singleton,HLA.out],⟨okq,t,HS8.out,HR3.out⟩⟩
    case measure=>omega
   ·have e1:(a.2 != 0)=true:=by simpa using h0
    have HR3:ay (eD ([],false) t=some res):=⟨by have h:=HR2.out;rw [if_neg h0] at h;exact h⟩
    clear h0 HR2
    go_wp2_with fail
    (try simp only [Exit.inBlock,Exit.then])
    refine bodyPost_ret (eH (rs:= [.tmp 4,.tmp 5]) rfl (by simp) (.tmp (.tmp .nil))) rfl ?_
    obtain rfl:res=(.ret ([],false),t):=by have h:=HR3.out;injection h with h;exact h.symm
    exact ⟨⟨_,HS6.out.task.moves,HS6.out.task.run,_,rfl,none,0,rfl,Kd.fB _ _ _ _ _⟩⟩
theorem wR (s:Sn) (way r:Int) (w:World) {D:Nat→Prop} {Ap Ak Ay Aw:Option Addr} {cp ck cy cw:Nat} (hF:SnF w D s Ap cp Ak ck Ay cy Aw cw):
  Calls Tryz.prog 118 #[.agg (JU s Ap cp Ak ck Ay cy Aw cw).toArray,.int .i64 way,.int .i64 r] w fun e w1=>e= .returned (.bool (qb s way r))∧Below w.heap.size w w1:=by
 have HX:(JU s Ap cp Ak ck Ay cy Aw cw).toArray= #[.int .i64 s.ref,.int .i64 s.info,.bool s.node.inner,.bool s.node.tagged,.slice Ap s.node.pairs.length cp,.slice Ak s.node.keys.length ck,.slice Ay s.node.ways.length cy,.slice Aw s.ways.length cw]:=rfl
 rw [HX]
 clear HX
 have HB:=Am_ (ai (Below.refl w.heap.size w) (.cells #[.int .i64 s.ref,.int .i64 s.info,.bool s.node.inner,.bool s.node.tagged,.slice Ap s.node.pairs.length cp,.slice Ak s.node.keys.length ck,.slice Ay s.node.ways.length cy,.slice Aw s.ways.length cw] 195))
 have y7:=(af (dw w (.cells #[.int .i64 s.ref,.int .i64 s.info,.bool s.node.inner,.bool s.node.tagged,.slice Ap s.node.pairs.length cp,.slice Ak s.node.keys.length ck,.slice Ay s.node.ways.length cy,.slice Aw s.ways.length cw] 195)) 7).trans (rfl:_=some (Value.slice Aw s.ways.length cw))
 have hC:=Kd.bU (Kd.gD hF.now) HB.out
 clear hF
 by_cases h0:0≤way
 ·have d0:decide (way≥0)=true:=decide_eq_true h0
  have d0':decide (0≤way)=true:=decide_eq_true h0
  by_cases h1:way<s.ways.length
  ·have d1:decide (way<(s.ways.length:Int))=true:=decide_eq_true h1
   have HG:ay (qb s way r=(s.ways.getD way.toNat 0 == r)):=⟨by unfold qb;rw [decide_eq_true h0,decide_eq_true h1];rfl⟩
   obtain ⟨ad,rfl,hc⟩:=Kd.jJ hC way h0 h1
   have hx:rd s.ways way=s.ways.getD way.toNat 0:=rfl
   rw [hx] at hc
   clear hC hx
   generalize s.ways.getD way.toNat 0=gv at hc HG
   go_enter Tryz.func118,Tryz.ntmps118
   go_wp2_with fail
   go_ret
   exact ⟨by rw [HG.out];rfl,HB.out⟩
  ·have d1:decide (way<(s.ways.length:Int))=false:=decide_eq_false h1
   have HG:ay (qb s way r=false):=⟨by unfold qb;rw [decide_eq_true h0,decide_eq_false h1];rfl⟩
   clear hC
   go_enter Tryz.func118,Tryz.ntmps118
   go_wp2_with fail
   go_ret
   exact ⟨by rw [HG.out];rfl,HB.out⟩
 ·have d0:decide (way≥0)=false:=decide_eq_false h0
  have d0':decide (0≤way)=false:=decide_eq_false h0
  have HG:ay (qb s way r=false):=⟨by unfold qb;rw [decide_eq_false h0];rfl⟩
  clear hC
  go_enter Tryz.func118,Tryz.ntmps118
  go_wp2_with fail
  go_ret
  exact ⟨by rw [HG.out];rfl,HB.out⟩
def uP:Bool × List (List Nat × List Nat):=(true,[([],[]),([0],[0]),([],[]),([2],[2]),([3],[3]),([4],[4]),([5],[5]),([6],[6]),([1,7],[1,7]),([],[]),([9,8,8,0,1,2,3,4,5,6,7,8,9],[8,9])])
def Cb:List Nat:= [0,1,0,4,12,28,60,124,255,0,1023]
theorem xR:fG .any (opsOf Tryz.f123 4)=uP:=by kernel_rfl
theorem sQ:bM uP.2 Cb=true:=by kernel_rfl
def ny (me:Int):List Int→Pr Ws Unit
 | []=>eD ()
 | r::l=>aX JJ fun n=>aX (zY me r n) fun _=>ny me l
structure gU (p tb:Nat) (work:Value) (me:Int) (bt:Nat) (ok:Nat→Prop) (w:World) (rs:List Int) (AR:Option Addr) (okc:Nat→Prop) (s:TS Ws) (wc:World):Prop where
 task:aU p tb work me bt ok w okc s wc
 refs:(Kd.int .i64).F wc (fun q=> ¬ okc q∧q<w.heap.size) AR rs.length rs
section
variable {p tb:Nat} {work:Value} {me:Int} {bt:Nat} {ok okc okq:Nat→Prop} {w wc wq w2:World} {rs:List Int} {AR:Option Addr} {s s2:TS Ws}
theorem gU.next (h:gU p tb work me bt ok w rs AR okc s wc) (m:Moves okc okq wc wq) (t:aU p tb work me bt ok w okq s2 wq):gU p tb work me bt ok w rs AR okq s2 wq:=
 ⟨t,Kd.dH (Kd.fV (Kd.eP h.refs) (fun k hk hlt=>m.block k hlt hk.1.1)) (fun k hk=>⟨fun h1=>(m.fresh k h1).elim hk.1.1 (fun h2=>by have:=hk.2;omega),hk.1.2⟩)⟩
theorem gU.alloc (h:gU p tb work me bt ok w rs AR okc s wc) (o:Obj):gU p tb work me bt ok w rs AR okc s (wc.alloc o):=h.next ((Moves.refl _ _).alloc o) (h.task.alloc o)
theorem gU.drew (h:gU p tb work me bt ok w rs AR okc s wc):gU p tb work me bt ok w rs AR okc s wc.drew:=h.next ((Moves.refl _ _).drew) h.task.drew
theorem gU.set (h:gU p tb work me bt ok w rs AR okc s wc) {q:Addr} (hn: ¬ okc q.block) (hw:w.heap.size≤q.block) (h1:q.block≠bt) (u:Value):gU p tb work me bt ok w rs AR okc s (wc.setCell q u):=
 ⟨h.task.set hn hw h1 u,Kd.kW h.refs (fun k hk e=>by have:=hk.2;omega) u⟩
end
theorem rf (p tb:Nat) (work:Value) (me:Int) (ok:Nat→Prop) (s:TS Ws) (w:World) (rs:List Int) (AR:Option Addr) (c:Nat) (h:dX (shW p) tb work ok s w) (hl:(Kd.int .i64).F w (fun k=> ¬ ok k) AR rs.length rs) (hfl:Flat AR) (hsm:rs.length<1000000) (res:Out Unit × TS Ws) (hr:ny me rs s=some res):
  Calls Tryz.prog 123 #[fo tb p me,.slice AR rs.length c] w (gF (shW p) tb work Cj ok w res):=by
 have HTV:fo tb p me= .agg #[.pointer (some ⟨tb,0,none⟩),.pointer (some ⟨p,0,none⟩),.int .i64 me]:=rfl
 rw [HTV]
 have h0:=aU.enter (me:=me) h
 unfold fK at h0
 have HL:ay (gU p tb work me w.heap.size ok w rs AR ok s (w.alloc (.cells #[.pointer (some ⟨tb,0,none⟩),.pointer (some ⟨p,0,none⟩),.int .i64 me] 114))):=⟨{
  task:=h0
  refs:=Kd.eZ (Kd.eP hl) _ }⟩
 have HR:=Am_ hr
 have HK:=Am_ (And.intro hsm hfl)
 clear h h0 hr HTV hl hsm hfl
 go_enter Tryz.func123,Tryz.ntmps123
 go_upto_region 1 with fail
 generalize w.alloc (.cells #[.pointer (some ⟨tb,0,none⟩),.pointer (some ⟨p,0,none⟩),.int .i64 me] 114)=w2 at HL ⊢
 generalize hbt:w.heap.size=bt at HL ⊢
 have HBT:=Am_ hbt
 clear hbt
 go_upto_block 0 with fail
 go_wp2_with fail
 go_loopg [9] rs.length (fun g v9 wr=> ∃ k:Nat,v9= .int .i64 k∧k+g=rs.length∧ay (∃ okc s,gU p tb work me bt ok w rs AR okc s wr∧ny me (rs.drop k) s=some res))
 case atStart=>exact ⟨0,rfl,by omega,⟨ok,s,HL.out,by have h:=HR.out;rwa [List.drop_zero]⟩⟩
 case round=>
  obtain ⟨k,rfl,hkg,HQ⟩:=hrel
  clear HL HR
  obtain ⟨okc,s1,hq,hr⟩:=HQ.out
  clear HQ
  have HS:=Am_ hq
  cases gk with
  | zero=>
   have d1:decide ((k:Int)<(rs.length:Int))=false:=decide_eq_false (by omega)
   have d2:decide (k<rs.length)=false:=decide_eq_false (by omega)
   have HR3:ay (eD () s1=some res):=⟨by rw [List.drop_of_length_le (by omega)] at hr;exact hr⟩
   clear hq hr
   go_wp2_with fail
   go_end0
   obtain rfl:res=(.ret (),s1):=by have h:=HR3.out;injection h with h;exact h.symm
   exact ⟨⟨_,HS.out.task.moves,HS.out.task.run,_,rfl,rfl⟩⟩
  | succ g=>
   have d1:decide ((k:Int)<(rs.length:Int))=true:=decide_eq_true (by omega)
   have d2:decide (k<rs.length)=true:=decide_eq_true (by omega)
   have b1:(0:Int)≤(k:Int):=by omega
   have b2:(k:Int)<(rs.length:Int):=by omega
   have b3:k<rs.length:=by omega
   have hw1:wrap64 ((k:Int)+1)=((k+1:Nat):Int):=by have:=HK.out.1;unfold wrap64;omega
   have HW1:=Am_ hw1
   obtain ⟨gR,eA,hC,_⟩:=FR hq.refs HK.out.2 k b3
   have hdr:rs.drop k=rs.getD k 0::rs.drop (k+1):=by
    rw [List.drop_eq_getElem_cons b3,List.getD_eq_getElem?_getD,List.getElem?_eq_getElem b3]
    rfl
   rw [hdr] at hr
   generalize rs.getD k 0=x at hC hr
   have hr:aX JJ (fun n=>aX (zY me x n) fun _=>ny me (rs.drop (k+1))) s1=some res:=hr
   obtain ⟨o,t,hd,hcase⟩:=aN hr
   have HBX:=Am_ (Mine.new hq.task.lt (.cells #[.int .i64 x] 45))
   clear hr hq hdr hw1
   subst eA
   go_upto_region 4 with fail
   clear hC
   have HS:=Am_ (HS.out.alloc (.cells #[.int .i64 x] 45))
   generalize wr.alloc (.cells #[.int .i64 x] 45)=w1 at HS HBX ⊢
   generalize wr.heap.size=bx at HBX ⊢
   obtain ⟨pE,hpE⟩:=HS.out.task.pE
   have HC:=Am_ (And.intro HS.out.task.c0 (And.intro HS.out.task.c1 hpE))
   clear hpE
   refine bP (n:=11) (S:=fun w'=>w'.cell? ⟨bt,0,none⟩=some (.pointer (some ⟨tb,0,none⟩))∧w'.cell? ⟨bt,1,none⟩=some (.pointer (some ⟨p,0,none⟩))∧w'.cell? ⟨p,2,none⟩=some (.pointer (some ⟨pE,0,none⟩))) (ds:= [8,10]) (by kernel_rfl) rfl xR sQ HC.out (fun hHeld HT_ HW_=>?_)
   have HS:=Am_ HS.out.drew
   have HBX:=Am_ (HBX.out.moves ((Moves.refl _ _).drew))
   clear HC
   generalize World.drew _=w1 at HS HBX hHeld ⊢
   refine fu [(0,some 13),(1,some 14),(2,some 15),(3,some 16),(4,some 17),(5,some 18),(6,some 19),(7,some 20)] ?_
   (refine fq (v:=?_) (a':=?_) HT_ (by kernel_rfl) rfl rfl (fun _ _ _ h=>h) (Or.inl ⟨by rfl,?_⟩) ?_ ?_;rotate_left;(intro w';go_simp;with_reducible rfl);rotate_left;(simp only [Act.put,p1_,p2_,p3_,aI,aJ];rfl))
   iterate 7 (refine jm (v:=?_) (a':=?_) HT_ HW_ (by kernel_rfl) rfl rfl (fun _ _ _ h=>h) hHeld (Or.inl ⟨by rfl,?_⟩) ?_ ?_;rotate_left;(rintro w' ⟨s0,s1,s2⟩;go_simp;with_reducible rfl);rotate_left;(simp only [Act.put,p1_,p2_,p3_,aI,aJ];rfl))
   refine bH ?_
   refine Eb (i:=8) (j:=9) (Ni:=some 21) (Nj:=some 6) #[Y_,Y_,Y_,Y_,Y_,Y_,Y_,Y_,Y_,N_,N_] #[Y_,Y_,Y_,Y_,Y_,Y_,Y_,Y_,N_,Y_,N_] rfl rfl rfl rfl (by kernel_rfl) (fun K_ hK=>?_) (fun K_ hK=>?_)
   ·refine kJ 137 #[.pointer (some ⟨tb,0,none⟩),.func (.func 148) #[.pointer (some ⟨pE,0,none⟩)] #[]] (by rfl) rfl ?hr8 ?_
    (case hr8=>first | (go_simp;done) | (go_simp;exact enters Tryz.func137 (by kernel_rfl) rfl _ _))
    refine (HS.out.task.JK hHeld.2.2 hd).mono ?_
    rintro e w2 ⟨⟨ok1,hm,hT,he⟩⟩
    rcases hcase with ⟨rfl,rfl⟩ | ⟨n,rfl,hr2⟩
    ·obtain rfl:e= .panicked dI:=he
     exact .inr ⟨dI,rfl,rfl,⟨⟨ok1,hT.moves,hT.run,rfl⟩⟩⟩
    obtain rfl:e= .returned (nY n):=he
    refine .inl ⟨.int .i64 n,rfl,?_⟩
    refine hK.out _ _ (fun h=>absurd (by decide) h) ?_
    clear hK K_
    refine bT (a':=?_) ?_ ?_
    rotate_left; · show Act.put _ (some 21) _=_;simp only [Act.put,p1_,p2_,p3_,aI,aJ];rfl
    have hb:ay (w.heap.size≤w2.heap.size∧w2.heap.size≠bt∧w2.heap.size≠bx):=⟨by have:=hT.moves.size;have:=hT.box.lt;have:=(HBX.out.moves hm).lt;omega⟩
    refine xh (i:=9) (N:=some 6) #[Y_,Y_,Y_,Y_,Y_,Y_,Y_,Y_,Y_,Y_,N_] rfl rfl (by kernel_rfl) (fun K_ hK=>?_)
    refine gJ (v:= .pointer (some ⟨w2.heap.size,0,none⟩)) (w1:=w2.alloc (jH 0)) (by rfl) rfl ?ha9 ?_
    (case ha9=>go_simp;first | done | rfl)
    refine hK.out _ _ (fun _ hS=>⟨ax (ai (Below.refl _ _) _) hS.1,ax (ai (Below.refl _ _) _) hS.2.1,ax (ai (Below.refl _ _) _) hS.2.2⟩) ?_
    clear hK K_
    refine bT (a':=?_) ?_ ?_
    rotate_left; · show Act.put _ (some 6) _=_;simp only [Act.put,p1_,p2_,p3_,aI,aJ];rfl
    have HNE:ay (w.heap.size≤w2.heap.size∧w2.heap.size≠bt∧w2.heap.size≠bx):=hb
    have HB:=Am_ (Mine.new hT.lt (jH 0))
    have HBX:=Am_ ((HBX.out.moves hm).alloc (jH 0))
    have HS2:=Am_ ((HS.out.next hm hT).alloc (jH 0))
    have HR2:=Am_ hr2
    clear hb hm hT hr2 HS hHeld
    generalize w2.alloc (jH 0)=w3 at HB HBX HS2 ⊢
    generalize w2.heap.size=bn at HB HNE ⊢
    generalize ok1=okn at HB HBX HS2
    have k0:=(af HB.out.1 0).trans (rfl:_=some (Value.int .i64 0))
    have z0:=ah HB.out.1 0
    refine jL (i:=10) (N:=none) #[Y_,Y_,Y_,Y_,Y_,Y_,Y_,Y_,Y_,Y_,Y_] rfl rfl (by kernel_rfl) (by decide) (fun K_ hK=>?_)
    refine fJ (w1:=w3.setCell ⟨bn,0,none⟩ (.int .i64 n)) (by rfl) rfl ?_ ?_
    ·go_simp
    refine hK.out _ _ ?_
    clear hK K_
    refine dN (by kernel_rfl) ?_
    clear k0 z0
    have HS3:=Am_ (HS2.out.set (q:=⟨bn,0,none⟩) HB.out.2 HNE.out.1 HNE.out.2.1 (.int .i64 n))
    have HBX:=Am_ (HBX.out.far (p:=⟨bn,0,none⟩) HNE.out.2.2 (.int .i64 n))
    have HB:ay (Mine okn (w3.setCell ⟨bn,0,none⟩ (.int .i64 n)) bn (jH n)):=⟨HB.out.set 0 (.int .i64 n)⟩
    clear HS2
    generalize w3.setCell ⟨bn,0,none⟩ (.int .i64 n)=w4 at HS3 HBX HB ⊢
    obtain ⟨o,t6,hd,hcase⟩:=aN HR2.out
    have HD:=Am_ hd
    have HCS:=Am_ hcase
    clear hd hcase HR2
    have c0:=HS3.out.task.c0
    go_wp2_with (go_at_call 137;refine (HS3.out.task.EY HBX.out HB.out HD.out).mono ?_;rintro e wq ⟨⟨okq,hm,hT,he⟩⟩;rcases HCS.out with hw | hw;(obtain ⟨rfl,rfl⟩:=hw;obtain rfl:e= .panicked dI:=he;exact ⟨rfl,⟨⟨okq,hT.moves,hT.run,rfl⟩⟩⟩);obtain ⟨a3,rfl,hr3⟩:=hw;obtain rfl:e= .returned (.int .i64 a3):=he;have HS4:=Am_ (HS3.out.next hm hT);have HR4:=Am_ hr3;clear hm hT hr3 c0)
    go_roundg g
    case rel=>exact ⟨k+1,by first | rfl | rw [HW1.out],by omega,⟨okq,t6,HS4.out,HR4.out⟩⟩
    case measure=>omega
   ·refine gJ (v:= .pointer (some ⟨w1.heap.size,0,none⟩)) (w1:=w1.alloc (jH 0)) (by rfl) rfl ?hb9 ?_
    (case hb9=>go_simp;first | done | rfl)
    refine hK.out _ _ (fun _ hS=>⟨ax (ai (Below.refl _ _) _) hS.1,ax (ai (Below.refl _ _) _) hS.2.1,ax (ai (Below.refl _ _) _) hS.2.2⟩) ?_
    clear hK K_
    refine bT (a':=?_) ?_ ?_
    rotate_left; · show Act.put _ (some 6) _=_;simp only [Act.put,p1_,p2_,p3_,aI,aJ];rfl
    have HNE:ay (w.heap.size≤w1.heap.size∧w1.heap.size≠bt∧w1.heap.size≠bx):=⟨by have:=HS.out.task.moves.size;have:=HS.out.task.box.lt;have:=HBX.out.lt;omega⟩
    have HB:=Am_ (Mine.new HS.out.task.lt (jH 0))
    have HS:=Am_ (HS.out.alloc (jH 0))
    have HBX:=Am_ (HBX.out.alloc (jH 0))
    have hHeld:(_∧_∧_):=⟨ax (ai (Below.refl _ _) (jH 0)) hHeld.1,ax (ai (Below.refl _ _) (jH 0)) hHeld.2.1,ax (ai (Below.refl _ _) (jH 0)) hHeld.2.2⟩
    generalize w1.heap.size=bn at HB HNE ⊢
    generalize w1.alloc (jH 0)=w1 at HB HS HBX hHeld ⊢
    refine xh (i:=8) (N:=some 21) #[Y_,Y_,Y_,Y_,Y_,Y_,Y_,Y_,Y_,Y_,N_] rfl rfl (by kernel_rfl) (fun K_ hK=>?_)
    refine kJ 137 #[.pointer (some ⟨tb,0,none⟩),.func (.func 148) #[.pointer (some ⟨pE,0,none⟩)] #[]] (by rfl) rfl ?hr8b ?_
    (case hr8b=>first | (go_simp;done) | (go_simp;exact enters Tryz.func137 (by kernel_rfl) rfl _ _))
    refine (HS.out.task.JK hHeld.2.2 hd).mono ?_
    rintro e w2 ⟨⟨ok1,hm,hT,he⟩⟩
    rcases hcase with ⟨rfl,rfl⟩ | ⟨n,rfl,hr2⟩
    ·obtain rfl:e= .panicked dI:=he
     exact .inr ⟨dI,rfl,rfl,⟨⟨ok1,hT.moves,hT.run,rfl⟩⟩⟩
    obtain rfl:e= .returned (nY n):=he
    refine .inl ⟨.int .i64 n,rfl,?_⟩
    refine hK.out _ _ (fun h=>absurd (by decide) h) ?_
    clear hK K_
    refine bT (a':=?_) ?_ ?_
    rotate_left; · show Act.put _ (some 21) _=_;simp only [Act.put,p1_,p2_,p3_,aI,aJ];rfl
    have HB:=Am_ (HB.out.moves hm)
    have HBX:=Am_ (HBX.out.moves hm)
    have HS2:=Am_ (HS.out.next hm hT)
    have HR2:=Am_ hr2
    clear hm hT hr2 HS hHeld
    generalize w2=w3 at HB HBX HS2 ⊢
    generalize ok1=okn at HB HBX HS2
    have k0:=(af HB.out.1 0).trans (rfl:_=some (Value.int .i64 0))
    have z0:=ah HB.out.1 0
    refine jL (i:=10) (N:=none) #[Y_,Y_,Y_,Y_,Y_,Y_,Y_,Y_,Y_,Y_,Y_] rfl rfl (by kernel_rfl) (by decide) (fun K_ hK=>?_)
    refine fJ (w1:=w3.setCell ⟨bn,0,none⟩ (.int .i64 n)) (by rfl) rfl ?_ ?_
    ·go_simp
    refine hK.out _ _ ?_
    clear hK K_
    refine dN (by kernel_rfl) ?_
    clear k0 z0
    have HS3:=Am_ (HS2.out.set (q:=⟨bn,0,none⟩) HB.out.2 HNE.out.1 HNE.out.2.1 (.int .i64 n))
    have HBX:=Am_ (HBX.out.far (p:=⟨bn,0,none⟩) HNE.out.2.2 (.int .i64 n))
    have HB:ay (Mine okn (w3.setCell ⟨bn,0,none⟩ (.int .i64 n)) bn (jH n)):=⟨HB.out.set 0 (.int .i64 n)⟩
    clear HS2
    generalize w3.setCell ⟨bn,0,none⟩ (.int .i64 n)=w4 at HS3 HBX HB ⊢
    obtain ⟨o,t6,hd,hcase⟩:=aN HR2.out
    have HD:=Am_ hd
    have HCS:=Am_ hcase
    clear hd hcase HR2
    have c0:=HS3.out.task.c0
    go_wp2_with (go_at_call 137;refine (HS3.out.task.EY HBX.out HB.out HD.out).mono ?_;rintro e wq ⟨⟨okq,hm,hT,he⟩⟩;rcases HCS.out with hw | hw;(obtain ⟨rfl,rfl⟩:=hw;obtain rfl:e= .panicked dI:=he;exact ⟨rfl,⟨⟨okq,hT.moves,hT.run,rfl⟩⟩⟩);obtain ⟨a3,rfl,hr3⟩:=hw;obtain rfl:e= .returned (.int .i64 a3):=he;have HS4:=Am_ (HS3.out.next hm hT);have HR4:=Am_ hr3;clear hm hT hr3 c0)
    go_roundg g
    case rel=>exact ⟨k+1,by first | rfl | rw [HW1.out],by omega,⟨okq,t6,HS4.out,HR4.out⟩⟩
    case measure=>omega
theorem sI {P:Program} (t u ty e e1:TypeId) (v x:Value) (w:World) {i:TypeInfo} (hi:P.info? e=some i) (ht:P.underlying t=some (.slice e)) (hu:P.underlying u=some (.slice e1)):(Builtin.append_ #[t,u] ty #[v,x]).run P w=(Builtin.append_ #[t,t] ty #[v,x]).run P w:=by
 cases v<;>simp [Builtin.append_,run_underlying ht,run_underlying hu,sizeOf,typeInfo,hi]
section
variable {P:Program} {ops:Array Oper} {rest:List Oper} {o:Oper} {a:Act} {Q:Exit→Act→World→Prop} {α:Type}
theorem kH (d:Kd α) {W:World} (base:Nat) (hgd:o.guard=none) (s x:Operand) (t u e e1:TypeId) (z:Value) (bytes:Nat)
  (ho:o.op= .call { callee:= .builtin .append,args:= #[s,x],argTypes:= #[t,u] })
  (ht:P.underlying t=some (.slice e)) (hu:P.underlying u=some (.slice e1)) (hinfo:(P.info? e).map (fun i=>(i.zero,i.size,i.bytes))=some (some z,d.sz,bytes)) (hz:z.cells.size=d.sz) (hs0:0<d.sz) (hb0:0<bytes)
  (v:Value) (xs:List α) (p:α) (cs:List Value) (ad:Addr) (c:Nat) (ok okp:Nat→Prop) (hs:a.eval s=v) (hx:a.eval x= .slice (some ad) 1 c) (hcs: ∀ j u,cs[j]?=some u→W.cell? (ad.add j)=some u) (hp:d.M W base okp p cs) (hokp: ∀ k,okp k→ok k∧some k≠v.ownBlock) (hfresh: ∀ k,W.heap.size≤k→ok k)
  (HO:d.R e W base ok v xs) (hbase:base≤W.heap.size) (hl:(xs.length+1)*bytes≤140737488355328)
  (h: ∀ v1 w1,d.R e w1 base ok v1 (xs++ [p])→W.grownBy w1 v.ownBlock→wpList P ops Q rest (a.put o.dst v1) w1):
  wpList P ops Q (o::rest) a W:=by
 obtain ⟨i0,hi,hzz⟩:=Option.map_eq_some_iff.1 hinfo
 simp only [Prod.mk.injEq] at hzz
 obtain ⟨hz0,hz1,hz2⟩:=hzz
 have hlen:xs.length+1≤140737488355328:=Nat.le_trans (Nat.le_mul_of_pos_right _ hb0) hl
 obtain ⟨hok,inner,hown,hr⟩:=HO
 obtain ⟨v1,w1,hrun,h2,hg,_,hat⟩:=run_append_own_at (P:=P) W base t o.type e i0 z d.sz bytes ht hi hz0 hz1 hz2 hz hs0 v xs.length inner hown ad 1 c cs (by rw [d.K_len (d.K_of_M hp),Nat.one_mul]) hcs (d.K_one (d.K_of_M hp)) (by simp only [maxLen];omega) hl hbase
 have hR:=Kd.kZ hok hr hp hokp hfresh h2 hg (hat.imp id (fun e=>⟨_,e,Nat.le_refl _⟩))
 refine wpList_plain hgd fun K hK=>?_
 unfold Oper.wp execOp
 simp only [ho,resolve,invoke,builtin,Sem.run_bind,Sem.run_pure,Result.andThen_ok,List.map_toArray,List.map_cons,List.map_nil,hs,hx,sI t u o.type e e1 _ _ W hi ht hu,hrun]
 exact hK _ _ (h v1 w1 hR hg)
end
theorem wT (A:Option Addr) (c:Nat) (xs:List (Int × Int)) (bv:Nat) (x:Int × Int) (N:Nat) (ok:Nat→Prop) (w:World) (hR:dZ.R 121 w N ok (.slice A xs.length c) xs) (hv0:w.cell? ⟨bv,0,none⟩=some (.int .i64 x.1)) (hv1:w.cell? ⟨bv,1,none⟩=some (.int .i64 x.2)) (hN:N≤w.heap.size) (hf: ∀ k,w.heap.size≤k→ok k) (hl:xs.length<1000000):
  Calls Tryz.prog 169 #[.slice A xs.length c,.int .i64 (xs.length:Nat),.slice (some ⟨bv,0,none⟩) 1 1] w fun e w1=> ∃ v,e= .returned v∧dZ.R 121 w1 N ok v (xs++ [x])∧w.grownBy w1 (Value.slice A xs.length c).ownBlock:=by
 have hc:=(Kd.bS hR).2.1
 have h0:(0:Int)≤(xs.length:Int):=by omega
 have h1:(xs.length:Int)≤(xs.length:Int):=by omega
 have h2:(xs.length:Int)≤(c:Int):=by omega
 have HR:=Am_ hR
 have HV:ay (∀ j u,([.int .i64 x.1,.int .i64 x.2]:List Value)[j]?=some u→w.cell? ((⟨bv,0,none⟩:Addr).add j)=some u):=⟨fun j u hj=>by
  rw [jF,Nat.zero_add]
  match j,hj with
  | 0,hj=>injection hj with hj;rw [←hj];exact hv0
  | 1,hj=>injection hj with hj;rw [←hj];exact hv1
  | n+2,hj=>cases hj⟩
 have HX:=Am_ (And.intro hN (And.intro hf hl))
 clear hR hv0 hv1 hN hf hl
 rcases Nat.lt_or_ge xs.length c with hlt | hge
 ·have hne: ¬ c=xs.length:=by omega
  have hne2: ¬ xs.length=c:=by omega
  go_enter Tryz.func169,Tryz.ntmps169
  go_upto_region 7 with fail
  go_wp2_with (first | ((with_reducible refine bK (b:= .append) (xs:= #[.tmp 23,.tmp 24]) rfl ?_);at_builtin;refine kH dZ N rfl (.tmp 23) (.tmp 24) 26 25 121 121 (.agg #[.int .i64 0,.int .i64 0]) 16 rfl Tryz.underlying26 Tryz.underlying25 lF rfl (by decide) (by omega) (.slice A xs.length c) xs x [.int .i64 x.1,.int .i64 x.2] ⟨bv,0,none⟩ 1 ok (fun _=>False) rfl rfl HV.out ⟨_,_,rfl,rfl,rfl⟩ (fun _ hk=>hk.elim) HX.out.2.1 HR.out HX.out.1 (by have:=HX.out.2.2;omega) ?_;intro v5 w5 ho hg;have HO:=Am_ ho;have HG:=Am_ hg;clear ho hg))
  go_ret
  exact ⟨_,rfl,HO.out,HG.out⟩
 ·obtain rfl:c=xs.length:=by omega
  go_enter Tryz.func169,Tryz.ntmps169
  go_upto_region 7 with fail
  go_wp2_with (first | ((with_reducible refine bK (b:= .append) (xs:= #[.tmp 23,.tmp 24]) rfl ?_);at_builtin;refine kH dZ N rfl (.tmp 23) (.tmp 24) 26 25 121 121 (.agg #[.int .i64 0,.int .i64 0]) 16 rfl Tryz.underlying26 Tryz.underlying25 lF rfl (by decide) (by omega) (.slice A xs.length xs.length) xs x [.int .i64 x.1,.int .i64 x.2] ⟨bv,0,none⟩ 1 ok (fun _=>False) rfl rfl HV.out ⟨_,_,rfl,rfl,rfl⟩ (fun _ hk=>hk.elim) HX.out.2.1 HR.out HX.out.1 (by have:=HX.out.2.2;omega) ?_;intro v5 w5 ho hg;have HO:=Am_ ho;have HG:=Am_ hg;clear ho hg))
  go_ret
  exact ⟨_,rfl,HO.out,HG.out⟩
theorem tQ (A:Option Addr) (c:Nat) (xs:List (Int × Int)) (k v:Int) (w:World) (hr:dZ.C w A xs.length xs) (hl:xs.length<999999) (hnf:gQ (kL xs) k=false) (hat:bs (kL xs) k 0 xs.length=xs.length):
  Calls Tryz.prog 119 #[.slice A xs.length c,.int .i64 k,.int .i64 v] w fun e w1=> ∃ u,e= .returned (.tuple #[u,.int .i64 0,.bool false])∧dZ.R 121 w1 w.heap.size (fun q=>w.heap.size≤q) u (xs++ [(k,v)])∧Below w.heap.size w w1:=by
 have HR:=Am_ hr
 have HF:=Am_ (qZ A xs.length c xs k w hr (by omega))
 rw [hnf,hat] at HF
 have HL:=Am_ hl
 clear hr hl hnf hat
 go_enter Tryz.func119,Tryz.ntmps119
 go_upto_region 2 with (go_at_call 168;refine HF.out.mono ?_;rintro e w2 ⟨rfl,hb2⟩;have HB2:=Am_ hb2;clear hb2)
 clear HF
 go_upto_region 3 with (go_at_call 75;refine (gZ A xs.length c xs w2 (Kd.bU HR.out HB2.out) (by have:=HL.out;omega)).mono ?_;rintro e w3 ⟨v3,rfl,hR3,hb3⟩;obtain ⟨A3,c3,rfl⟩:=Kd.aV hR3;have HR3:=Am_ hR3;have HB3:=Am_ hb3;clear hR3 hb3)
 have HI:ay (∀ w4,w4=w3.alloc (.cells #[.int .i64 k,.int .i64 v] 121)→Calls Tryz.prog 169 #[.slice A3 xs.length c3,.int .i64 (xs.length:Nat),.slice (some ⟨w3.heap.size,0,none⟩) 1 1] w4 fun e w1=> ∃ u,e= .returned u∧dZ.R 121 w1 w2.heap.size (fun q=>w2.heap.size≤q) u (xs++ [(k,v)])∧w4.grownBy w1 (Value.slice A3 xs.length c3).ownBlock):=⟨by
  rintro w4 rfl
  exact wT A3 c3 xs w3.heap.size (k,v) w2.heap.size (fun q=>w2.heap.size≤q) _ (Kd.bI HR3.out _) ((af (dw w3 (.cells #[.int .i64 k,.int .i64 v] 121)) 0).trans rfl) ((af (dw w3 (.cells #[.int .i64 k,.int .i64 v] 121)) 1).trans rfl) (by have:=HB3.out.size;rw [World.size_alloc];omega) (fun q hq=>by have:=HB3.out.size;rw [World.size_alloc] at hq;omega) (by have:=HL.out;omega)⟩
 have HB4:ay (Below w.heap.size w (w3.alloc (.cells #[.int .i64 k,.int .i64 v] 121))):=⟨ai (bf HB2.out HB2.out.size HB3.out) _⟩
 have HOW:ay (∀ q,(Value.slice A3 xs.length c3).ownBlock=some q→w.heap.size≤q):=⟨fun q e=>by have h1:=HR3.out.1 q e;have:=HB2.out.size;omega⟩
 have HW2:ay (w.heap.size≤w2.heap.size):=⟨HB2.out.size⟩
 clear HR HR3 HB3 HB2
 go_wp2_with (go_at_call 169;refine (HI.out _ rfl).mono ?_;rintro e w5 ⟨u,rfl,hR5,hg5⟩;have HR5:=Am_ hR5;have HB5:=Am_ (jX HB4.out _ HB4.out.size hg5 HOW.out);clear hR5 hg5)
 (try simp only [Exit.inBlock,Exit.then])
 refine bodyPost_ret (eH (rs:= [.tmp 6,.tmp 7,.tmp 8]) rfl (by simp) (.tmp (.tmp (.tmp .nil)))) rfl ?_
 exact ⟨u,rfl,Kd.eT (Kd.bg HR5.out (fun q hq=>Nat.le_trans HW2.out hq)) HW2.out,HB5.out⟩
def zx (l:List (Int × Int)) (tagged:Bool):Pr Ws (List Int × Int):=fun s=>if (l.length:Int)≤s.sh.b∧l.length<1000000 then aX (Gx ⟨false,false,l,[],[]⟩) (fun r=>eD ([r],r)) s else none
def Jp (N:Nat) (a:List Int × Int) (ok:Nat→Prop) (v:Value) (w:World):Prop:= ∃ A c,v= .tuple #[.slice A a.1.length c,.int .i64 a.2]∧(Kd.int .i64).R 45 w N (fun k=> ¬ ok k) (.slice A a.1.length c) a.1
section
variable {p tb:Nat} {work:Value} {me:Int} {bt:Nat} {ok okc:Nat→Prop} {w wc:World} {s:TS Ws}
theorem aU.pb (h:aU p tb work me bt ok w okc s wc):wc.cell? ⟨p,4,none⟩=some (.int .i64 s.sh.b)∧wc.cell? ⟨p,5,none⟩=some (.int .i64 s.sh.entry):=by
 obtain ⟨_,_,⟨⟨_,_,_,_,_,_,hw⟩,_⟩,_⟩:=h.run.direct
 exact ⟨(af hw.box 4).trans rfl,(af hw.box 5).trans rfl⟩
end
theorem sS (p tb:Nat) (work:Value) (me:Int) (ok:Nat→Prop) (s:TS Ws) (w:World) (l:List (Int × Int)) (A:Option Addr) (c:Nat) (tagged:Bool) (h:dX (shW p) tb work ok s w) (hl:dZ.F w (fun k=> ¬ ok k) A l.length l) (hc:l.length≤c) (res:Out (List Int × Int) × TS Ws) (hr:zx l tagged s=some res):
  Calls Tryz.prog 120 #[fo tb p me,.slice A l.length c,.bool tagged] w (gF (shW p) tb work (Jp w.heap.size) ok w res):=by
 have HTV:fo tb p me= .agg #[.pointer (some ⟨tb,0,none⟩),.pointer (some ⟨p,0,none⟩),.int .i64 me]:=rfl
 rw [HTV]
 unfold zx at hr
 have hsm:(l.length:Int)≤s.sh.b∧l.length<1000000:=by
  by_cases h1:(l.length:Int)≤s.sh.b∧l.length<1000000
  ·exact h1
  ·rw [if_neg h1] at hr
   cases hr
 rw [if_pos hsm] at hr
 have d1:decide ((l.length:Int)≤s.sh.b)=true:=decide_eq_true hsm.1
 have HLN:=Am_ hsm.2
 have h0:=aU.enter (me:=me) h
 unfold fK at h0
 have HF:=Am_ (Kd.eZ hl (.cells #[.pointer (some ⟨tb,0,none⟩),.pointer (some ⟨p,0,none⟩),.int .i64 me] 114))
 have HT:=Am_ h0
 have HC:=Am_ hc
 obtain ⟨o,t,hd,hcase⟩:=aN hr
 have HD:=Am_ hd
 have HCS:=Am_ hcase
 clear h h0 hr HTV hl hc hsm hd hcase
 go_enter Tryz.func120,Tryz.ntmps120
 go_upto_region 1 with fail
 generalize w.alloc (.cells #[.pointer (some ⟨tb,0,none⟩),.pointer (some ⟨p,0,none⟩),.int .i64 me] 114)=w1 at HF HT ⊢
 generalize hbt:w.heap.size=bt at HT ⊢
 have HBT:=Am_ hbt
 clear hbt
 have c0:=HT.out.c0
 have c1:=HT.out.c1
 have c2:=HT.out.c2
 have c4:=HT.out.pb.1
 have HNF:ay (NdF (fun k=> ¬ ok k) ⟨false,false,l,[],[]⟩ (.agg #[.bool false,.bool false,.slice A l.length c,.slice none 0 0,.slice none 0 0]) w1):=⟨⟨A,c,none,0,none,0,rfl,HC.out,Nat.le_refl _,Nat.le_refl _,HF.out,Kd.jq _ _ _,Kd.jq _ _ _⟩⟩
 go_upto_region 3 with (go_at_call 170;refine (uz p tb work me _ _ _ ⟨false,false,l,[],[]⟩ false false A none none l.length 0 0 c 0 0 HT.out.run HNF.out ⟨HLN.out,by simp,by simp⟩ (o,t) HD.out).mono ?_;rintro e wq ⟨okq,hm,hi,he⟩;rcases HCS.out with hw | hw;(obtain ⟨rfl,rfl⟩:=hw;obtain rfl:e= .panicked dI:=he;exact ⟨rfl,⟨⟨okq,HT.out.moves.trans hm,hi,rfl⟩⟩⟩);obtain ⟨r,rfl,hr2⟩:=hw;obtain ⟨_,rfl,rfl⟩:=he;have HT2:=Am_ (HT.out.next hm hi);have HR2:=Am_ hr2;clear hm hi hr2 c0 c1 c2 c4)
 clear HNF HF HD HCS d1
 have HRR:ay (res=(.ret ([r],r),t)):=⟨by have h:=HR2.out;injection h with h;exact h.symm⟩
 clear HR2
 have HB:=Am_ (Da (k:= .i64) 45 wq w.heap.size [r] HT2.out.moves.size (by simp))
 have HT3:=Am_ (HT2.out.alloc (.cells #[.int .i64 r] 45))
 have HNR:ay (∀ q,q=wq.heap.size→ ¬ okq q):=⟨fun q e h1=>by have:=HT2.out.lt q h1;omega⟩
 clear HT HT2
 go_wp2_with fail
 (try simp only [Exit.inBlock,Exit.then])
 refine bodyPost_ret (eH (rs:= [.tmp 6,.tmp 7]) rfl (by simp) (.tmp (.tmp .nil))) rfl ?_
 obtain rfl:=HRR.out
 exact ⟨⟨okq,HT3.out.moves,HT3.out.run,_,rfl,_,_,rfl,Kd.bg HB.out HNR.out⟩⟩
structure PR where
 nn:Bool
 sh:Bool
 fd:Bool
 va:Int
def VPR (a:PR) (_:Nat→Prop) (v:Value) (_:World):Prop:=v= .agg #[.bool a.nn,.bool a.sh,.bool a.fd,.int .i64 a.va]
def AQ (me r:Int) (d:Bool × Bool):Pr Ws PR:=if d.1=true then aX (ny me [r]) fun _=>eD ⟨false,false,false,0⟩ else fun _=>none
def AV (me:Int) (l:List Sn) (way r:Int) (m:List Int × Int):Pr Ws PR:=if m.2=0∨m.1.length≠1 then fun _=>none else aX (Bp l 1 way r m.2) (AQ me r)
def vz (l:List (Int × Int)) (r:Int):Pr Ws (List Int × Int):=fun s=>zx l (r != s.sh.entry) s
def AU (me key value:Int) (l:List Sn) (q:Stp × Stp):Pr Ws PR:=
 if gQ (kL (l.getD 1 sn0).node.pairs) key=false∧bs (kL (l.getD 1 sn0).node.pairs) key 0 (l.getD 1 sn0).node.pairs.length=(l.getD 1 sn0).node.pairs.length∧(l.getD 1 sn0).node.pairs.length<999999 then aX (vz ((l.getD 1 sn0).node.pairs++ [(key,value)]) q.1.ref) (AV me l q.1.way q.2.ref) else fun _=>none
def Dq (me key value:Int) (q:Stp × Stp) (L:List Sn × Bool) (next:Pr Ws PR):Pr Ws PR:=
 if L.2=true then (if L.1.length=2 then (if qb (L.1.getD 0 sn0) q.1.way q.2.ref=true then AU me key value L.1 q else next) else fun _=>none) else next
def Fb (me key value:Int) (fl:Nat):Nat→Pr Ws PR
 | 0=>fun _=>none
 | f+1=>aX (zX key fl) fun q=>aX (nG [q.1.ref,q.2.ref] []) fun L=>Dq me key value q L (Fb me key value fl f)
abbrev prO:Obj:= .cells #[.bool false,.bool false,.bool false,.int .i64 0] 117 (0,0)
structure uF (p tb:Nat) (work:Value) (me:Int) (bt:Nat) (ok:Nat→Prop) (w:World) (b8:Nat) (okc:Nat→Prop) (s:TS Ws) (wc:World):Prop where
 task:aU p tb work me bt ok w okc s wc
 res:Mine okc wc b8 prO
section
variable {p tb:Nat} {work:Value} {me:Int} {bt b8:Nat} {ok okc okq:Nat→Prop} {w wc wq:World} {s s2:TS Ws}
theorem uF.next (h:uF p tb work me bt ok w b8 okc s wc) (m:Moves okc okq wc wq) (t:aU p tb work me bt ok w okq s2 wq):uF p tb work me bt ok w b8 okq s2 wq:=⟨t,h.res.moves m⟩
theorem uF.below (h:uF p tb work me bt ok w b8 okc s wc) (b:Below wc.heap.size wc wq):uF p tb work me bt ok w b8 okc s wq:=h.next (Moves.bN _ b) (h.task.below b)
theorem uF.alloc (h:uF p tb work me bt ok w b8 okc s wc) (o:Obj):uF p tb work me bt ok w b8 okc s (wc.alloc o):=h.below (ai (Below.refl _ _) o)
theorem uF.drew (h:uF p tb work me bt ok w b8 okc s wc):uF p tb work me bt ok w b8 okc s wc.drew:=h.below (aZ (Below.refl _ _))
end
def ofA (a:PR):Ans:=if a.nn=true then ⟨3,false,0,0,[],false⟩ else ⟨0,a.fd,0,a.va,[],a.sh⟩
def Il (a:Ans):Value:= .agg #[.int .i64 a.err,.bool a.found,.int .i64 a.key,.int .i64 a.value,.slice none 0 0,.bool a.short]
theorem Dl (a:PR) (w:World):Calls Tryz.prog 163 #[.agg #[.bool a.nn,.bool a.sh,.bool a.fd,.int .i64 a.va]] w fun e w1=>e= .returned (Il (ofA a))∧Below w.heap.size w w1:=by
 have K1:=Am_ ((Mine.new (ok:=fun _=>False) (w:=w) (fun k hk=>hk.elim) (.cells #[.bool a.nn,.bool a.sh,.bool a.fd,.int .i64 a.va] 117)).alloc (.cells #[.int .i64 0,.bool false,.int .i64 0,.int .i64 0,.slice none 0 0,.bool false] 58))
 have K2:=Am_ (Mine.new (ok:=fun _=>False) (w:=w.alloc (.cells #[.bool a.nn,.bool a.sh,.bool a.fd,.int .i64 a.va] 117)) (fun k hk=>hk.elim) (.cells #[.int .i64 0,.bool false,.int .i64 0,.int .i64 0,.slice none 0 0,.bool false] 58))
 have B1:=Am_ (ai (ai (Below.refl w.heap.size w) (.cells #[.bool a.nn,.bool a.sh,.bool a.fd,.int .i64 a.va] 117)) (.cells #[.int .i64 0,.bool false,.int .i64 0,.int .i64 0,.slice none 0 0,.bool false] 58))
 simp only [World.size_alloc] at K2
 go_enter Tryz.func163,Tryz.ntmps163
 go_upto_region 1 with fail
 generalize (w.alloc (.cells #[.bool a.nn,.bool a.sh,.bool a.fd,.int .i64 a.va] 117)).alloc (.cells #[.int .i64 0,.bool false,.int .i64 0,.int .i64 0,.slice none 0 0,.bool false] 58)=w1 at K1 K2 B1 ⊢
 generalize hb2:w.heap.size+1=b2 at K2 ⊢
 have HL:ay (w.heap.size≤b2):=⟨by omega⟩
 clear hb2
 cases hn:a.nn with
 | true=>
  have y0:=(af K1.out.1 0).trans (rfl:_=some (Value.bool a.nn))
  rw [hn] at y0
  have y1:=(af K1.out.1 1).trans (rfl:_=some (Value.bool a.sh))
  have y2:=(af K1.out.1 2).trans (rfl:_=some (Value.bool a.fd))
  have y3:=(af K1.out.1 3).trans (rfl:_=some (Value.int .i64 a.va))
  have x0:=(af K2.out.1 0).trans (rfl:_=some (Value.int .i64 0))
  have z0:=ah K2.out.1 0
  have x1:=(af K2.out.1 1).trans (rfl:_=some (Value.bool false))
  have z1:=ah K2.out.1 1
  have x2:=(af K2.out.1 2).trans (rfl:_=some (Value.int .i64 0))
  have z2:=ah K2.out.1 2
  have x3:=(af K2.out.1 3).trans (rfl:_=some (Value.int .i64 0))
  have z3:=ah K2.out.1 3
  have x4:=(af K2.out.1 4).trans (rfl:_=some (Value.slice none 0 0))
  have z4:=ah K2.out.1 4
  have x5:=(af K2.out.1 5).trans (rfl:_=some (Value.bool false))
  have z5:=ah K2.out.1 5
  have HV:ay (Il (ofA a)= .agg #[.int .i64 3,.bool false,.int .i64 0,.int .i64 0,.slice none 0 0,.bool false]):=⟨by unfold ofA Il;rw [hn];rfl⟩
  clear hn
  go_wp2_with fail
  have K3:ay (Mine (fun _=>False) ((((((w1.setCell ⟨b2,0,none⟩ (.int .i64 3)).setCell ⟨b2,1,none⟩ (.bool false)).setCell ⟨b2,2,none⟩ (.int .i64 0)).setCell ⟨b2,3,none⟩ (.int .i64 0)).setCell ⟨b2,4,none⟩ (.slice none 0 0)).setCell ⟨b2,5,none⟩ (.bool false)) b2 (.cells #[.int .i64 3,.bool false,.int .i64 0,.int .i64 0,.slice none 0 0,.bool false] 58 (0,0))):=⟨(Mine.set (Mine.set (Mine.set (Mine.set (Mine.set (Mine.set K2.out 0 _) 1 _) 2 _) 3 _) 4 _) 5 _)⟩
  have B3:=Am_ (below_setCells B1.out b2 0 [.int .i64 3,.bool false,.int .i64 0,.int .i64 0,.slice none 0 0,.bool false] HL.out)
  clear K1 K2 B1 y0 y1 y2 y3 x0 x1 x2 x3 x4 x5 z0 z1 z2 z3 z4 z5
  replace B3:ay (Below w.heap.size w ((((((w1.setCell ⟨b2,0,none⟩ (.int .i64 3)).setCell ⟨b2,1,none⟩ (.bool false)).setCell ⟨b2,2,none⟩ (.int .i64 0)).setCell ⟨b2,3,none⟩ (.int .i64 0)).setCell ⟨b2,4,none⟩ (.slice none 0 0)).setCell ⟨b2,5,none⟩ (.bool false))):=B3
  generalize (((((w1.setCell ⟨b2,0,none⟩ (.int .i64 3)).setCell ⟨b2,1,none⟩ (.bool false)).setCell ⟨b2,2,none⟩ (.int .i64 0)).setCell ⟨b2,3,none⟩ (.int .i64 0)).setCell ⟨b2,4,none⟩ (.slice none 0 0)).setCell ⟨b2,5,none⟩ (.bool false)=w3 at K3 B3 ⊢
  (try simp only [Exit.inBlock,Exit.then])
  refine bodyPost_ret (results_cell_row rfl _ _ b2 58 _ (0,0) _ rfl K3.out.1 Tryz.underlying58 rfl (by kernel_rfl)) rfl ?_
  exact ⟨by rw [HV.out],B3.out⟩
 | false=>
  have y0:=(af K1.out.1 0).trans (rfl:_=some (Value.bool a.nn))
  rw [hn] at y0
  have y1:=(af K1.out.1 1).trans (rfl:_=some (Value.bool a.sh))
  have y2:=(af K1.out.1 2).trans (rfl:_=some (Value.bool a.fd))
  have y3:=(af K1.out.1 3).trans (rfl:_=some (Value.int .i64 a.va))
  have x0:=(af K2.out.1 0).trans (rfl:_=some (Value.int .i64 0))
  have z0:=ah K2.out.1 0
  have x1:=(af K2.out.1 1).trans (rfl:_=some (Value.bool false))
  have z1:=ah K2.out.1 1
  have x2:=(af K2.out.1 2).trans (rfl:_=some (Value.int .i64 0))
  have z2:=ah K2.out.1 2
  have x3:=(af K2.out.1 3).trans (rfl:_=some (Value.int .i64 0))
  have z3:=ah K2.out.1 3
  have x4:=(af K2.out.1 4).trans (rfl:_=some (Value.slice none 0 0))
  have z4:=ah K2.out.1 4
  have x5:=(af K2.out.1 5).trans (rfl:_=some (Value.bool false))
  have z5:=ah K2.out.1 5
  have HV:ay (Il (ofA a)= .agg #[.int .i64 0,.bool a.fd,.int .i64 0,.int .i64 a.va,.slice none 0 0,.bool a.sh]):=⟨by unfold ofA Il;rw [hn];rfl⟩
  clear hn
  go_wp2_with fail
  have K3:ay (Mine (fun _=>False) ((((((w1.setCell ⟨b2,0,none⟩ (.int .i64 0)).setCell ⟨b2,1,none⟩ (.bool a.fd)).setCell ⟨b2,2,none⟩ (.int .i64 0)).setCell ⟨b2,3,none⟩ (.int .i64 a.va)).setCell ⟨b2,4,none⟩ (.slice none 0 0)).setCell ⟨b2,5,none⟩ (.bool a.sh)) b2 (.cells #[.int .i64 0,.bool a.fd,.int .i64 0,.int .i64 a.va,.slice none 0 0,.bool a.sh] 58 (0,0))):=⟨(Mine.set (Mine.set (Mine.set (Mine.set (Mine.set (Mine.set K2.out 0 _) 1 _) 2 _) 3 _) 4 _) 5 _)⟩
  have B3:=Am_ (below_setCells B1.out b2 0 [.int .i64 0,.bool a.fd,.int .i64 0,.int .i64 a.va,.slice none 0 0,.bool a.sh] HL.out)
  clear K1 K2 B1 y0 y1 y2 y3 x0 x1 x2 x3 x4 x5 z0 z1 z2 z3 z4 z5
  replace B3:ay (Below w.heap.size w ((((((w1.setCell ⟨b2,0,none⟩ (.int .i64 0)).setCell ⟨b2,1,none⟩ (.bool a.fd)).setCell ⟨b2,2,none⟩ (.int .i64 0)).setCell ⟨b2,3,none⟩ (.int .i64 a.va)).setCell ⟨b2,4,none⟩ (.slice none 0 0)).setCell ⟨b2,5,none⟩ (.bool a.sh))):=B3
  generalize (((((w1.setCell ⟨b2,0,none⟩ (.int .i64 0)).setCell ⟨b2,1,none⟩ (.bool a.fd)).setCell ⟨b2,2,none⟩ (.int .i64 0)).setCell ⟨b2,3,none⟩ (.int .i64 a.va)).setCell ⟨b2,4,none⟩ (.slice none 0 0)).setCell ⟨b2,5,none⟩ (.bool a.sh)=w3 at K3 B3 ⊢
  (try simp only [Exit.inBlock,Exit.then])
  refine bodyPost_ret (results_cell_row rfl _ _ b2 58 _ (0,0) _ rfl K3.out.1 Tryz.underlying58 rfl (by kernel_rfl)) rfl ?_
  exact ⟨by rw [HV.out],B3.out⟩
def Jl:Bool × List (List Nat × List Nat):=(true,[([],[]),([0],[0]),([1],[1]),([2],[2]),([3,2],[2,3]),([4,2],[2,4]),([2],[2]),([6,2],[2,6]),([2],[2]),([8,2],[2,8]),([5,7,9,2,2],[2,5,7,9]),([10,2],[2,10]),([2,11],[2,11])])
def Ku:List Nat:= [0,1,3,7,15,31,7,71,7,263,1023,2047,4095]
theorem Hw:fG .any (opsOf Tryz.f70 3)=Jl:=by kernel_rfl
theorem Ct:bM Jl.2 Ku=true:=by kernel_rfl
def Jm:Bool × List (List Nat × List Nat):=(true,[([],[]),([],[]),([],[]),([2],[2]),([],[]),([4],[4]),([5],[5]),([6],[6]),([7],[7]),([3,8],[3,8]),([0,1,9],[0,1,9]),([10],[10]),([11],[11]),([11],[11]),([12,10,0,1,2,3,4,5,6,7,8,9,10,11,12],[12]),([13,14,0,1,2,3,4,5,6,7,8,9,10,11,12,13,14],[13])])
def Kv:List Nat:= [0,0,0,4,0,16,48,112,240,508,1023,2047,4095,4095,8191,32767]
theorem Hy:fG .any (opsOf Tryz.f70 7)=Jm:=by kernel_rfl
theorem Cu:bM Jm.2 Kv=true:=by kernel_rfl
theorem AX (p tb:Nat) (work:Value) (me key value:Int) (fresh:Bool) (fl f:Nat) (ok:Nat→Prop) (s:TS Ws) (w:World) (h:dX (shW p) tb work ok s w) (hfl0:fl<900000) (res:Out PR × TS Ws) (hr:Fb me key value fl f s=some res):
  Calls Tryz.prog 70 #[fo tb p me,.int .i64 key,.int .i64 value,.bool fresh] w (gF (shW p) tb work VPR ok w res):=by
 have HTV:fo tb p me= .agg #[.pointer (some ⟨tb,0,none⟩),.pointer (some ⟨p,0,none⟩),.int .i64 me]:=rfl
 rw [HTV]
 have h0:=aU.enter (me:=me) h
 unfold fK at h0
 have HS:ay (uF p tb work me w.heap.size ok w (w.heap.size+1) ok s ((w.alloc (.cells #[.pointer (some ⟨tb,0,none⟩),.pointer (some ⟨p,0,none⟩),.int .i64 me] 114)).alloc (.cells #[.bool false,.bool false,.bool false,.int .i64 0] 117))):=⟨{
  task:=h0.alloc (.cells #[.bool false,.bool false,.bool false,.int .i64 0] 117)
  res:=by
   have h1:=Mine.new h0.lt (.cells #[.bool false,.bool false,.bool false,.int .i64 0] 117)
   simp only [World.size_alloc] at h1
   exact h1 }⟩
 have HR:=Am_ hr
 have hfl:=Am_ hfl0
 clear h h0 hr HTV hfl0
 go_enter Tryz.func70,Tryz.ntmps70
 go_upto_block 0 with fail
 generalize (w.alloc (.cells #[.pointer (some ⟨tb,0,none⟩),.pointer (some ⟨p,0,none⟩),.int .i64 me] 114)).alloc (.cells #[.bool false,.bool false,.bool false,.int .i64 0] 117)=w1 at HS ⊢
 generalize hbt:w.heap.size=bt at HS ⊢
 generalize hb8:bt+1=b8 at HS ⊢
 have HB8:ay (w.heap.size≤b8∧b8≠bt):=⟨by omega⟩
 have HBT:=Am_ hbt
 clear hbt hb8
 go_wp2_with fail
 go_loopg [] f (fun g wr=>ay (∃ okc s,uF p tb work me bt ok w b8 okc s wr∧Fb me key value fl g s=some res))
 case atStart=>exact ⟨_,_,HS.out,HR.out⟩
 case round=>
  clear HS HR
  obtain ⟨okc,s1,hq,hr⟩:=hrel.out
  clear hrel
  cases gk with
  | zero=>cases hr
  | succ g=>
   have hr:aX (zX key fl) (fun q=>aX (nG [q.1.ref,q.2.ref] []) fun L=>Dq me key value q L (Fb me key value fl g)) s1=some res:=hr
   obtain ⟨o,t,hd,hcase⟩:=aN hr
   have HD:=Am_ hd
   have HCS:=Am_ hcase
   clear hd hcase
   have HG:=Am_ hq.task.run.good
   have c0:=hq.task.c0
   have c1:=hq.task.c1
   have c2:=hq.task.c2
   have HS:=Am_ hq
   clear hq hr
   go_upto_region 2 with (go_at_call 116;refine (oN p tb work me key _ _ _ HS.out.task.run fl hfl.out (o,t) HD.out (fun l t h=>by have:=(jC key fl _ _ _ _ _ HG.out (by simp) h).2;simp at this;have:=hfl.out;omega)).mono ?_;rintro e wq ⟨okq,hm,hi,he⟩;rcases HCS.out with hw | hw;(obtain ⟨rfl,rfl⟩:=hw;obtain rfl:e= .panicked dI:=he;exact ⟨rfl,⟨⟨okq,HS.out.task.moves.trans hm,hi,rfl⟩⟩⟩);obtain ⟨q,rfl,hr2⟩:=hw;obtain ⟨_,rfl,cs,ds,rfl,hf1,hf2⟩:=he;obtain ⟨Ap1,cp1,Ak1,ck1,Ay1,cy1,rfl⟩:=jw (Kd.qE hf1);obtain ⟨Ap2,cp2,Ak2,ck2,Ay2,cy2,rfl⟩:=jw (Kd.qE hf2);have HS2:=Am_ (HS.out.next hm (HS.out.task.next hm hi));have HR2:=Am_ hr2;clear hm hi hf1 hf2 hr2 c0 c1 c2)
   clear HS HD HCS HG
   have hr:=HR2.out
   obtain ⟨o,t,hd,hcase⟩:=aN hr
   have HD:=Am_ hd
   have HCS:=Am_ hcase
   clear hd hcase
   clear hr HR2
   have HS3:=Am_ ((HS2.out.alloc (.cells #[.int .i64 q.fst.ref,.bool q.fst.node.inner,.bool q.fst.node.tagged,.slice Ap1 q.fst.node.pairs.length cp1,.slice Ak1 q.fst.node.keys.length ck1,.slice Ay1 q.fst.node.ways.length cy1,.int .i64 q.fst.way] 159)).alloc (.cells #[.int .i64 q.snd.ref,.bool q.snd.node.inner,.bool q.snd.node.tagged,.slice Ap2 q.snd.node.pairs.length cp2,.slice Ak2 q.snd.node.keys.length ck2,.slice Ay2 q.snd.node.ways.length cy2,.int .i64 q.snd.way] 159))
   have H9:=Am_ ((Mine.new HS2.out.task.lt (.cells #[.int .i64 q.fst.ref,.bool q.fst.node.inner,.bool q.fst.node.tagged,.slice Ap1 q.fst.node.pairs.length cp1,.slice Ak1 q.fst.node.keys.length ck1,.slice Ay1 q.fst.node.ways.length cy1,.int .i64 q.fst.way] 159)).alloc (.cells #[.int .i64 q.snd.ref,.bool q.snd.node.inner,.bool q.snd.node.tagged,.slice Ap2 q.snd.node.pairs.length cp2,.slice Ak2 q.snd.node.keys.length ck2,.slice Ay2 q.snd.node.ways.length cy2,.int .i64 q.snd.way] 159))
   have H10:=Am_ (Mine.new (HS2.out.alloc (.cells #[.int .i64 q.fst.ref,.bool q.fst.node.inner,.bool q.fst.node.tagged,.slice Ap1 q.fst.node.pairs.length cp1,.slice Ak1 q.fst.node.keys.length ck1,.slice Ay1 q.fst.node.ways.length cy1,.int .i64 q.fst.way] 159)).task.lt (.cells #[.int .i64 q.snd.ref,.bool q.snd.node.inner,.bool q.snd.node.tagged,.slice Ap2 q.snd.node.pairs.length cp2,.slice Ak2 q.snd.node.keys.length ck2,.slice Ay2 q.snd.node.ways.length cy2,.int .i64 q.snd.way] 159))
   simp only [World.size_alloc] at H10
   clear HS2
   generalize (wq.alloc (.cells #[.int .i64 q.fst.ref,.bool q.fst.node.inner,.bool q.fst.node.tagged,.slice Ap1 q.fst.node.pairs.length cp1,.slice Ak1 q.fst.node.keys.length ck1,.slice Ay1 q.fst.node.ways.length cy1,.int .i64 q.fst.way] 159)).alloc (.cells #[.int .i64 q.snd.ref,.bool q.snd.node.inner,.bool q.snd.node.tagged,.slice Ap2 q.snd.node.pairs.length cp2,.slice Ak2 q.snd.node.keys.length ck2,.slice Ay2 q.snd.node.ways.length cy2,.int .i64 q.snd.way] 159)=w3 at HS3 H9 H10 ⊢
   generalize wq.heap.size=b9 at H9 H10 ⊢
   generalize b9+1=b10 at H10 ⊢
   have y0:=(af H9.out.1 0).trans (rfl:_=some (Value.int .i64 q.fst.ref))
   have y1:=(af H10.out.1 0).trans (rfl:_=some (Value.int .i64 q.snd.ref))
   have c0:=HS3.out.task.c0
   have c1:=HS3.out.task.c1
   have c2:=HS3.out.task.c2
   have HLF:ay ((Kd.int .i64).F (w3.alloc (.cells #[.int .i64 q.fst.ref,.int .i64 q.snd.ref] 45)) (fun k=> ¬ okq k) (some ⟨w3.heap.size,0,none⟩) 2 [q.fst.ref,q.snd.ref]):=⟨Kd.dH (Kd.R_F (Da (k:= .i64) 45 w3 0 [q.fst.ref,q.snd.ref] (Nat.zero_le _) (by simp))) (fun k e h=>by have:=HS3.out.task.lt k h;omega)⟩
   have HS4:=Am_ (HS3.out.alloc (.cells #[.int .i64 q.fst.ref,.int .i64 q.snd.ref] 45))
   have H94:=Am_ (H9.out.alloc (.cells #[.int .i64 q.fst.ref,.int .i64 q.snd.ref] 45))
   have H104:=Am_ (H10.out.alloc (.cells #[.int .i64 q.fst.ref,.int .i64 q.snd.ref] 45))
   clear HS3 H9 H10
   go_upto_region 3 with (go_at_call 117;refine (tY p tb work me _ _ _ [q.fst.ref,q.snd.ref] (some ⟨w3.heap.size,0,none⟩) 2 HS4.out.task.run HLF.out (fun ad e=>by injection e with e;exact ⟨_,e.symm⟩) (by simp) (o,t) HD.out).mono ?_;rintro e wq2 ⟨okq2,hm,hi,he⟩;rcases HCS.out with hw | hw;(obtain ⟨rfl,rfl⟩:=hw;obtain rfl:e= .panicked dI:=he;exact ⟨rfl,⟨⟨okq2,HS4.out.task.moves.trans hm,hi,rfl⟩⟩⟩);obtain ⟨L,rfl,hr2⟩:=hw;obtain ⟨_,rfl,AL,cL,rfl,hRL⟩:=he;have HS5:=Am_ (HS4.out.next hm (HS4.out.task.next hm hi));have H9:=Am_ (H94.out.moves hm);have H10:=Am_ (H104.out.moves hm);have HR2:=Am_ hr2;clear hm hi hr2 c0 c1 c2)
   clear HS4 H94 H104 HLF HD HCS y0 y1
   have HRL:=Am_ hRL
   clear hRL
   obtain ⟨l,bo⟩:=L
   dsimp only at HRL ⊢
   cases bo with
   | false=>
    have HR3:ay (Fb me key value fl g t=some res):=HR2
    clear HR2 H9 H10 HRL
    go_quiet (fail)
    go_wp2_with fail
    go_roundg g
    case rel=>exact ⟨_,_,HS5.out.below (aj (Below.refl _ _) nq),HR3.out⟩
    case measure=>omega
   | true=>
    have hr:Dq me key value q (l,true) (Fb me key value fl g) t=some res:=HR2.out
    unfold Dq at hr
    rw [if_pos rfl] at hr
    by_cases hl2:l.length=2
    rotate_left; · rw [if_neg hl2] at hr;cases hr
    rw [if_pos hl2] at hr
    have HRF:=Am_ (Kd.R_F HRL.out)
    have HFL:=Am_ (uJ HRL.out)
    obtain ⟨gA,Ap3,cp3,Ak3,ck3,Ay3,cy3,Aw3,cw3,eA,hC0,hF0⟩:=He HRF.out HFL.out 0 (by omega)
    obtain ⟨gB,Ap4,cp4,Ak4,ck4,Ay4,cy4,Aw4,cw4,eB,hC1,hF1⟩:=He HRF.out HFL.out 1 (by omega)
    obtain rfl:gB=gA:=by rw [eA] at eB;injection eB with eB;injection eB with eB;exact eB.symm
    subst eA
    have hC0:sF wq2 gB 0 (l.getD 0 sn0) Ap3 cp3 Ak3 ck3 Ay3 cy3 Aw3 cw3:=hC0
    have hC1:sF wq2 gB 8 (l.getD 1 sn0) Ap4 cp4 Ak4 ck4 Ay4 cy4 Aw4 cw4:=hC1
    generalize hn0:l.getD 0 sn0=n0 at hC0 hF0 hr
    generalize hgo:qb n0 q.1.way q.2.ref=gb at hr
    have HR3:=Am_ hr
    have HF0:=Am_ hF0
    have HF1:=Am_ hF1
    have HC1:=Am_ hC1
    have HGB:=Am_ hgo
    have HL2:=Am_ hl2
    have HC:=Am_ (And.intro hC0 (And.intro ((af H9.out.1 6).trans (rfl:_=some (Value.int .i64 q.fst.way))) ((af H10.out.1 0).trans (rfl:_=some (Value.int .i64 q.snd.ref)))))
    rw [hl2]
    clear hr hn0 hgo hl2 hC0 hC1 hF0 hF1 eB HR2
    refine bP (n:=13) (S:=fun w'=>w'.cell? ⟨gB,0,none⟩=some (.int .i64 n0.ref)∧w'.cell? ⟨gB,1,none⟩=some (.int .i64 n0.info)∧w'.cell? ⟨gB,2,none⟩=some (.bool n0.node.inner)∧w'.cell? ⟨gB,3,none⟩=some (.bool n0.node.tagged)∧w'.cell? ⟨gB,4,none⟩=some (.slice Ap3 n0.node.pairs.length cp3)∧w'.cell? ⟨gB,5,none⟩=some (.slice Ak3 n0.node.keys.length ck3)∧w'.cell? ⟨gB,6,none⟩=some (.slice Ay3 n0.node.ways.length cy3)∧w'.cell? ⟨gB,7,none⟩=some (.slice Aw3 n0.ways.length cw3)∧w'.cell? ⟨b9,6,none⟩=some (.int .i64 q.fst.way)∧w'.cell? ⟨b10,0,none⟩=some (.int .i64 q.snd.ref)) (ds:= []) (by kernel_rfl) rfl Hw Ct ⟨HC.out.1.c0,HC.out.1.c1,HC.out.1.c2,HC.out.1.c3,HC.out.1.c4,HC.out.1.c5,HC.out.1.c6,HC.out.1.c7,HC.out.2.1,HC.out.2.2⟩ (fun hHeld HT_ HW_=>?_)
    have HS5:=Am_ HS5.out.drew
    have HDR:=Am_ (aZ (Below.refl wq2.heap.size wq2))
    have HF0:=Am_ (HF0.out.moves (Moves.drew (Moves.refl okq2 wq2)))
    clear HC
    generalize hwd:World.drew _=w6 at HS5 HDR HF0 hHeld ⊢
    clear hwd
    refine fu [(0,some 37),(1,some 38),(2,some 39),(3,some 40),(4,some 41),(5,some 42),(6,some 43),(7,some 44),(8,some 45),(9,some 46)] ?_
    iterate 5 (refine fq (v:=?_) (a':=?_) HT_ (by kernel_rfl) rfl rfl (fun _ _ _ h=>h) (Or.inl ⟨by rfl,?_⟩) ?_ ?_;rotate_left;(intro w';go_simp;with_reducible rfl);rotate_left;(simp only [Act.put,p1_,p2_,p3_,aI,aJ];rfl))
    iterate 5 (refine jm (v:=?_) (a':=?_) HT_ HW_ (by kernel_rfl) rfl rfl (fun _ _ _ h=>h) hHeld (Or.inl ⟨by rfl,?_⟩) ?_ ?_;rotate_left;(rintro w' ⟨s0,s1,s2,s3,s4,s5,s6,s7,s8,s9⟩;go_simp;with_reducible rfl);rotate_left;(simp only [Act.put,p1_,p2_,p3_,aI,aJ];rfl))
    refine bH ?_
    refine eu (i:=10) (some 47) HT_ (by kernel_rfl) rfl rfl (by decide) (fun K_ hK=>?_)
    refine call_ 118 #[.agg #[.int .i64 n0.ref,.int .i64 n0.info,.bool n0.node.inner,.bool n0.node.tagged,.slice Ap3 n0.node.pairs.length cp3,.slice Ak3 n0.node.keys.length ck3,.slice Ay3 n0.node.ways.length cy3,.slice Aw3 n0.ways.length cw3],.int .i64 q.fst.way,.int .i64 q.snd.ref] (by rfl) rfl ?hrun10 ?_
    (case hrun10=>first | (go_simp;done) | (go_simp;exact enters Tryz.func118 (by kernel_rfl) rfl _ _))
    refine (wR n0 q.fst.way q.snd.ref _ HF0.out).mono ?_
    rintro e w7 ⟨rfl,hb⟩
    rw [HGB.out]
    have HS6:=Am_ (HS5.out.below hb)
    have HB7:=Am_ (bf HDR.out HDR.out.size hb)
    refine ⟨_,rfl,?_⟩
    refine hK.out _ _ ⟨ax hb hHeld.1,ax hb hHeld.2.1,ax hb hHeld.2.2.1,ax hb hHeld.2.2.2.1,ax hb hHeld.2.2.2.2.1,ax hb hHeld.2.2.2.2.2.1,ax hb hHeld.2.2.2.2.2.2.1,ax hb hHeld.2.2.2.2.2.2.2.1,ax hb hHeld.2.2.2.2.2.2.2.2.1,ax hb hHeld.2.2.2.2.2.2.2.2.2⟩ (fun hHeld=>?_)
    clear hK K_
    refine bT (a':=?_) ?_ ?_
    rotate_left; · show Act.put _ (some 47) _=_;simp only [Act.put,p1_,p2_,p3_,aI,aJ];rfl
    refine fu [(11,some 48),(12,some 49)] ?_
    iterate 2 (refine fq (v:=?_) (a':=?_) HT_ (by kernel_rfl) rfl rfl (fun _ _ _ h=>h) (Or.inl ⟨by rfl,?_⟩) ?_ ?_;rotate_left;(intro w';go_simp;with_reducible rfl);rotate_left;(simp only [Act.put,p1_,p2_,p3_,aI,aJ];rfl))
    refine bH ?_
    clear hb HS5 HDR hHeld
    refine dN (bQ HT_.out (by kernel_rfl)) ?_
    have HF1:=Am_ (HF1.out.moves (Moves.bN okq2 HB7.out))
    have H9:=Am_ (H9.out.moves (Moves.bN okq2 HB7.out))
    have H10:=Am_ (H10.out.moves (Moves.bN okq2 HB7.out))
    have HRL:=Am_ (iR (D:=fun _=>True) (Kd.bg HRL.out (fun k hk=>⟨hk,trivial⟩)) (Moves.bN okq2 HB7.out))
    have y4:=ax HB7.out HC1.out.c4
    clear HRF HF0 HB7 HC1 HGB
    cases gb with
    | false=>
     have HR4:ay (Fb me key value fl g t=some res):=HR3
     clear HR3 H9 H10 HRL HF1 y4
     go_wp2_with fail
     go_roundg g
     case rel=>exact ⟨_,_,HS6.out,HR4.out⟩
     case measure=>omega
    | true=>
     have hr:AU me key value l q t=some res:=HR3.out
     unfold AU at hr
     generalize hn1:l.getD 1 sn0=n1 at hr HF1 y4
     by_cases hcd:gQ (kL n1.node.pairs) key=false∧bs (kL n1.node.pairs) key 0 n1.node.pairs.length=n1.node.pairs.length∧n1.node.pairs.length<999999
     rotate_left; · rw [if_neg hcd] at hr;cases hr
     rw [if_pos hcd] at hr
     have HLP:=Am_ (tQ Ap4 cp4 n1.node.pairs key value w7 (Kd.gD HF1.out.prs) hcd.2.2 hcd.1 hcd.2.1)
     obtain ⟨o,t,hd,hcase⟩:=aN hr
     have HD:=Am_ hd
     have HCS:=Am_ hcase
     clear hd hcase
     clear hr HR3 hcd HF1 hn1
     go_upto_region 7 with (go_at_call 119;refine HLP.out.mono ?_;rintro e w8 ⟨u,rfl,hRu,hb⟩;obtain ⟨Au,cu,rfl⟩:=Kd.aV hRu;generalize hpr:n1.node.pairs++ [(key,value)]=pr at hRu ⊢;have HPR:=Am_ hpr;clear hpr;have HRU:=Am_ hRu;have HLT:=Am_ HS6.out.task.lt;have HS7:=Am_ (HS6.out.below hb);have H97:=Am_ (H9.out.moves (Moves.bN okq2 hb));have H107:=Am_ (H10.out.moves (Moves.bN okq2 hb));have HRL7:=Am_ (iR HRL.out (Moves.bN okq2 hb));clear hRu hb)
     clear HLP y4 HS6 H9 H10 HRL
     have h:=HD.out
     rw [HPR.out] at h
     unfold vz at h
     skip
     have HD2:=Am_ h
     have HPF:ay (dZ.F w8 (fun k=> ¬ okq2 k) Au pr.length pr):=⟨Kd.dH (Kd.R_F HRU.out) (fun k hk h1=>by have:=HLT.out k h1;omega)⟩
     have HCU:ay (pr.length≤cu):=⟨(Kd.bS HRU.out).2.1⟩
     clear h HD HRU HLT
     generalize hen:Ws.entry (TS.sh _)=en at HD2
     have hp5:=HS7.out.task.pb.2
     rw [hen] at hp5
     have HC:=Am_ (And.intro HS7.out.task.c0 (And.intro HS7.out.task.c1 (And.intro HS7.out.task.c2 (And.intro ((af H97.out.1 0).trans (rfl:_=some (Value.int .i64 q.fst.ref))) hp5))))
     clear hp5 hen
     refine bP (n:=16) (S:=fun w'=>w'.cell? ⟨bt,0,none⟩=some (.pointer (some ⟨tb,0,none⟩))∧w'.cell? ⟨bt,1,none⟩=some (.pointer (some ⟨p,0,none⟩))∧w'.cell? ⟨bt,2,none⟩=some (.int .i64 me)∧w'.cell? ⟨b9,0,none⟩=some (.int .i64 q.fst.ref)∧w'.cell? ⟨p,5,none⟩=some (.int .i64 en)) (ds:= [10]) (by kernel_rfl) rfl Hy Cu HC.out (fun hHeld HT_ HW_=>?_)
     have HS7:=Am_ HS7.out.drew
     have HPF:=Am_ (iJ HPF.out (Moves.drew (Moves.refl okq2 w8)))
     have HRL7:=Am_ (iR HRL7.out (Moves.drew (Moves.refl okq2 w8)))
     have H97:=Am_ (H97.out.moves (Moves.drew (Moves.refl okq2 w8)))
     have H107:=Am_ (H107.out.moves (Moves.drew (Moves.refl okq2 w8)))
     clear HC
     generalize hwd:World.drew _=w9 at HS7 HPF HRL7 H97 H107 hHeld ⊢
     clear hwd
     refine fu [(0,some 69),(1,some 70),(2,some 71),(3,some 72),(4,some 73),(5,some 74),(6,some 75),(7,some 76),(8,some 77),(9,some 78)] ?_
     iterate 10 (refine jm (v:=?_) (a':=?_) HT_ HW_ (by kernel_rfl) rfl rfl (fun _ _ _ h=>h) hHeld (Or.inl ⟨by rfl,?_⟩) ?_ ?_;rotate_left;(rintro w' ⟨s0,s1,s2,s3,s4⟩;go_simp;with_reducible rfl);rotate_left;(simp only [Act.put,p1_,p2_,p3_,aI,aJ];rfl))
     refine bH ?_
     refine cK (i:=10) (some 79) HT_ (by kernel_rfl) rfl rfl (by decide) (fun K_ hK=>?_)
     refine kJ 120 #[.agg #[.pointer (some ⟨tb,0,none⟩),.pointer (some ⟨p,0,none⟩),.int .i64 me],.slice Au pr.length cu,.bool (q.fst.ref != en)] (by rfl) rfl ?hr10 ?_
     (case hr10=>first | (go_simp;done) | (go_simp;exact enters Tryz.func120 (by kernel_rfl) rfl _ _))
     refine (sS p tb work me _ _ _ pr Au cu (q.fst.ref != en) HS7.out.task.run HPF.out HCU.out (o,t) HD2.out).mono ?_
     rintro e wq3 ⟨okq3,hm,hi,he⟩
     rcases HCS.out with hw | hw
     ·obtain ⟨rfl,rfl⟩:=hw
      obtain rfl:e= .panicked dI:=he
      exact .inr ⟨dI,rfl,rfl,⟨⟨okq3,HS7.out.task.moves.trans hm,hi,rfl⟩⟩⟩
     obtain ⟨m,rfl,hr2⟩:=hw
     obtain ⟨_,rfl,Am,cm,rfl,hRM⟩:=he
     refine .inl ⟨_,rfl,?_⟩
     have HS8:=Am_ (HS7.out.next hm (HS7.out.task.next hm hi))
     have H98:=Am_ (H97.out.moves hm)
     have H108:=Am_ (H107.out.moves hm)
     have HRL8:=Am_ (iR HRL7.out hm)
     have HR2:=Am_ hr2
     clear hm hi hr2 hRM HS7 HPF HRL7 H97 H107
     refine hK.out _ _ ?_
     clear hK K_
     refine bT (a':=?_) ?_ ?_
     rotate_left; · show Act.put _ (some 79) _=_;simp only [Act.put,p1_,p2_,p3_,aI,aJ];rfl
     refine fu [(11,some 68),(12,some 80),(13,some 81),(14,some 16),(15,some 17)] ?_
     iterate 5 (refine fq (v:=?_) (a':=?_) HT_ (by kernel_rfl) rfl rfl (fun _ _ _ h=>h) (Or.inl ⟨by rfl,?_⟩) ?_ ?_;rotate_left;(intro w';go_simp;with_reducible rfl);rotate_left;(simp only [Act.put,p1_,p2_,p3_,aI,aJ];rfl))
     refine bH ?_
     refine dN (bQ HT_.out (by kernel_rfl)) ?_
     clear HD2 HCS HPR HCU
     have hr:AV me l q.fst.way q.snd.ref m t=some res:=HR2.out
     unfold AV at hr
     by_cases hm0:m.2=0∨m.1.length≠1
     ·rw [if_pos hm0] at hr;cases hr
     rw [if_neg hm0] at hr
     have e0:(m.2 == 0)=false:=by simpa using fun h=>hm0 (.inl h)
     have hm1:m.1.length=1:=by
      by_cases h:m.1.length=1
      ·exact h
      ·exact absurd (.inr h) hm0
     have HM1:=Am_ hm1
     obtain ⟨o,t,hd,hcase⟩:=aN hr
     have HD:=Am_ hd
     have HCS:=Am_ hcase
     clear hd hcase
     clear hr hm0 hm1 HR2
     have c0:=HS8.out.task.c0
     have c1:=HS8.out.task.c1
     have c2:=HS8.out.task.c2
     have y0:=(af H98.out.1 6).trans (rfl:_=some (Value.int .i64 q.fst.way))
     have y1:=(af H108.out.1 0).trans (rfl:_=some (Value.int .i64 q.snd.ref))
     go_upto_region 12 with (go_at_call 122;have hst:=uw p tb work me _ _ _ l (some ⟨gB,0,none⟩) cL 1 q.fst.way q.snd.ref m.2 HS8.out.task.run (Kd.dH (Kd.R_F HRL8.out) (fun k hk=>hk.1)) HFL.out (by decide) (by have:=HL2.out;omega) (o,t) HD.out;rw [HL2.out] at hst;refine hst.mono ?_;clear hst;rintro e wq4 ⟨okq4,hm,hi,he⟩;rcases HCS.out with hw | hw;(obtain ⟨rfl,rfl⟩:=hw;obtain rfl:e= .panicked dI:=he;exact ⟨rfl,⟨⟨okq4,HS8.out.task.moves.trans hm,hi,rfl⟩⟩⟩);obtain ⟨d,rfl,hr2⟩:=hw;obtain ⟨_,rfl,rfl⟩:=he;have HS9:=Am_ (HS8.out.next hm (HS8.out.task.next hm hi));have H109:=Am_ (H108.out.moves hm);have HR2:=Am_ hr2;clear hm hi hr2 c0 c1 c2)
     clear y0 y1 HRL8 H98 HD HCS e0 HS8 H108
     have hr:AQ me q.snd.ref d t=some res:=HR2.out
     unfold AQ at hr
     by_cases hd1:d.1=true
     rotate_left; · rw [if_neg hd1] at hr;cases hr
     rw [if_pos hd1] at hr
     obtain ⟨o,t,hd,hcase⟩:=aN hr
     have HD:=Am_ hd
     have HCS:=Am_ hcase
     clear hd hcase
     rw [HM1.out,hd1]
     clear hr hd1 HR2
     have y1:=(af H109.out.1 0).trans (rfl:_=some (Value.int .i64 q.snd.ref))
     have c0:=HS9.out.task.c0
     have c1:=HS9.out.task.c1
     have c2:=HS9.out.task.c2
     have HLF2:ay ((Kd.int .i64).F (wq4.alloc (.cells #[.int .i64 q.snd.ref] 45)) (fun k=> ¬ okq4 k) (some ⟨wq4.heap.size,0,none⟩) 1 [q.snd.ref]):=⟨Kd.dH (Kd.R_F (Da (k:= .i64) 45 wq4 0 [q.snd.ref] (Nat.zero_le _) (by simp))) (fun k e h=>by have:=HS9.out.task.lt k h;omega)⟩
     have HS10:=Am_ (HS9.out.alloc (.cells #[.int .i64 q.snd.ref] 45))
     clear HS9
     go_upto_region 17 with (go_at_call 123;refine (rf p tb work me _ _ _ [q.snd.ref] (some ⟨wq4.heap.size,0,none⟩) 1 HS10.out.task.run HLF2.out (fun ad e=>by injection e with e;exact ⟨_,e.symm⟩) (by simp) (o,t) HD.out).mono ?_;rintro e wq5 ⟨okq5,hm,hi,he⟩;rcases HCS.out with hw | hw;(obtain ⟨rfl,rfl⟩:=hw;obtain rfl:e= .panicked dI:=he;exact ⟨rfl,⟨⟨okq5,HS10.out.task.moves.trans hm,hi,rfl⟩⟩⟩);obtain ⟨_,rfl,hr2⟩:=hw;obtain ⟨_,rfl,rfl⟩:=he;have HS11:=Am_ (HS10.out.next hm (HS10.out.task.next hm hi));have HR2:=Am_ hr2;clear hm hi hr2 c0 c1 c2)
     clear y1 HLF2 HD HCS HS10 H109
     have HS12:=Am_ (HS11.out.alloc (.cells #[.bool false,.bool false,.bool false,.int .i64 0] 117))
     clear HS11
     have x0:=(af HS12.out.res.1 0).trans (rfl:_=some (Value.bool false))
     have z0:=ah HS12.out.res.1 0
     have x1:=(af HS12.out.res.1 1).trans (rfl:_=some (Value.bool false))
     have z1:=ah HS12.out.res.1 1
     have x2:=(af HS12.out.res.1 2).trans (rfl:_=some (Value.bool false))
     have z2:=ah HS12.out.res.1 2
     have x3:=(af HS12.out.res.1 3).trans (rfl:_=some (Value.int .i64 0))
     have z3:=ah HS12.out.res.1 3
     go_wp2_with fail
     (try simp only [Exit.inBlock,Exit.then])
     show bodyPost _ _ _ _ _ (sets _ b8 [(0,.bool false),(1,.bool false),(2,.bool false),(3,.int .i64 0)])
     refine bodyPost_ret (results_cell_row rfl _ _ b8 117 _ (0,0) _ rfl (HS12.out.res.sets [(0,.bool false),(1,.bool false),(2,.bool false),(3,.int .i64 0)]).1 Tryz.underlying117 rfl (by kernel_rfl)) rfl ?_
     obtain rfl:res=(.ret ⟨false,false,false,0⟩,t):=by have h:=HR2.out;injection h with h;exact h.symm
     exact ⟨⟨_,gu (b:=b8) (.inr HB8.out.1) _ HS12.out.task.moves,HS12.out.task.run.step (bB p) (by rw [iH];exact Nat.le_refl _) (fun k hk _=>dR (b:=b8) (fun e=>HS12.out.res.2 (e▸hk)) _ _),_,rfl,rfl⟩⟩
end Go.Proofs.YtmnjjdeaccgjlaaGreat.Tower
