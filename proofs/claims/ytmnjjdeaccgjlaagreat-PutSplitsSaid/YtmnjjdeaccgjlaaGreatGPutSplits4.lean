/- Words and contracts that the claim stands on, part 5 of 8. -/
import Derived.Test.YtmnjjdeaccgjlaaGreatGPutSplits0
import Derived.Test.YtmnjjdeaccgjlaaGreatGPutSplits1
import Derived.Test.YtmnjjdeaccgjlaaGreatGPutSplits2
import Derived.Test.YtmnjjdeaccgjlaaGreatGPutSplits3
import Derived.Lib.AppendZerosOnto
import Derived.Lib.Overlaps
import Derived.Laws.CopyRow
import Derived.Laws.Externs
import Derived.Shelf.RegionOpenPlain
set_option linter.unusedSimpArgs false
set_option linter.unusedVariables false
set_option maxHeartbeats 8000000
set_option maxRecDepth 100000
namespace Go.Proofs.YtmnjjdeaccgjlaaGreat.Tower
open Go Go.RowKit Go.Proofs.YtmnjjdeaccgjlaaGreatW.PrintWords Go.Proofs.YtmnjjdeaccgjlaaGreatW.PrintLast Go.Proofs.YtmnjjdeaccgjlaaGreatW.PrintMore Go.Proofs.YtmnjjdeaccgjlaaGreat.Own
def iM (n:Int):List (Int × Int)→Pr Ws (Option Bool)
 | []=>dw none
 | (x,i)::l=>aQ (sO x i n) fun a=>if a then iM n l else aQ (rq x) fun m=>if m=n then iM n l else aQ (EB n) fun b=>if b then dw (some true) else aQ (IE n 0) fun _=>dw (some false)
def iE:List Int→Pr Ws Unit
 | []=>dw ()
 | x::l=>aQ (wo x) fun _=>iE l
def qy (n:Int):Pr Ws Bool:=aQ (IE n 2) fun _=>dw true
def je (n:Int) (rc:Rc):Pr Ws Bool:=match rc.nodes with
 | []=>qy n
 | x::_=>aQ (oI x rc.way rc.old rc.new) fun _=>qy n
def jZ (rc:Rc):Nat:=min rc.keep.toNat rc.nodes.length
def tC (n:Int) (rc:Rc):Pr Ws Bool:=aQ (wF n) fun _=>aQ (iE (rc.nodes.drop (jZ rc))) fun _=>je n rc
def kL (n:Int) (rc:Rc):Option Bool→Pr Ws Bool
 | some b=>dw b
 | none=>tC n rc
def pV (n:Int):Pr Ws Bool:=fun s=>if (s.sh.tb.en n).rc.nodes.length=(s.sh.tb.en n).rc.infos.length∧0≤(s.sh.tb.en n).rc.keep∧(s.sh.tb.en n).rc.keep<1000000 then aQ (iM n ((s.sh.tb.en n).rc.nodes.zip (s.sh.tb.en n).rc.infos)) (kL n (s.sh.tb.en n).rc) s else none
structure jN (p tb:Nat) (work:Value) (me:Int) (bt:Nat) (ok:Nat→Prop) (w:World) (n:Int) (rc:Rc) (bn br:Nat) (A1 A2:Option Addr) (c1 c2:Nat) (okc:Nat→Prop) (s:TS Ws) (wc:World):Prop where
 task:aX p tb work me bt ok w okc s wc
 num:Mine okc wc bn (sU n)
 box_:Mine okc wc br (.cells #[.slice A1 rc.nodes.length c1,.slice A2 rc.infos.length c2,.int .i64 rc.keep,.int .i64 rc.way,.int .i64 rc.old,.int .i64 rc.new] 254 (0,0))
 nodes:(Kd.int .i64).F wc (fun k=> ¬ okc k) A1 rc.nodes.length rc.nodes
 infos:(Kd.int .i64).F wc (fun k=> ¬ okc k) A2 rc.infos.length rc.infos
 flat1:Flat A1
 flat2:Flat A2
 cap1:rc.nodes.length≤c1
section
variable {p tb:Nat} {work:Value} {me:Int} {bt:Nat} {ok okc ok2:Nat→Prop} {w wc w2:World} {n:Int} {rc:Rc} {bn br:Nat} {A1 A2:Option Addr} {c1 c2:Nat} {s s2:TS Ws}
theorem jN.next (h:jN p tb work me bt ok w n rc bn br A1 A2 c1 c2 okc s wc) (m:Moves okc ok2 wc w2) (t:aX p tb work me bt ok w ok2 s2 w2):jN p tb work me bt ok w n rc bn br A1 A2 c1 c2 ok2 s2 w2:=⟨t,h.num.moves m,h.box_.moves m,ig h.nodes m,ig h.infos m,h.flat1,h.flat2,h.cap1⟩
theorem jN.below (h:jN p tb work me bt ok w n rc bn br A1 A2 c1 c2 okc s wc) (b:Below wc.heap.size wc w2):jN p tb work me bt ok w n rc bn br A1 A2 c1 c2 okc s w2:=h.next (Moves.bV _ b) (h.task.below b)
theorem jN.alloc (h:jN p tb work me bt ok w n rc bn br A1 A2 c1 c2 okc s wc) (o:Obj):jN p tb work me bt ok w n rc bn br A1 A2 c1 c2 okc s (wc.alloc o):=h.below (ai (Below.refl _ _) o)
theorem jN.drew (h:jN p tb work me bt ok w n rc bn br A1 A2 c1 c2 okc s wc):jN p tb work me bt ok w n rc bn br A1 A2 c1 c2 okc s wc.drew:=h.below (cZ (Below.refl _ _))
theorem aX.setCells (h:aX p tb work me bt ok w okc s wc) {q:Nat} (hn: ¬ okc q) (hw:w.heap.size≤q) (ht:q≠bt) (seg:List Value):aX p tb work me bt ok w okc s (wc.setCells q 0 seg):=
 ⟨h.run.step (bg p) (by rw [(fI q seg 0 wc).2.2.2];exact Nat.le_refl _) (fun k hk _=>bq seg 0 k (fun e=>hn (e▸hk))),jd h.moves (.inr hw) 0 seg,⟨(bq seg 0 bt (fun e=>ht e.symm)).trans h.box.1,h.box.2⟩⟩
theorem aX.Qs (h:aX p tb work me bt ok w okc s wc) {pR:Nat} (hp:wc.cell? ⟨p,1,none⟩=some (.pointer (some ⟨pR,0,none⟩))):
  Calls Tryz.prog 208 #[.pointer (some ⟨pR,0,none⟩),.int .i64 n] wc (Mc (s.sh.tb.en n).rc wc):=by
 obtain ⟨_,_,⟨⟨okA,okR,okE,pA,pR1,pE1,hw⟩,hg⟩,_⟩:=h.run.direct
 have h1:=(af hw.box 1).symm.trans hp
 injection h1 with h1
 injection h1 with h1
 injection h1 with h1
 injection h1 with h1
 subst h1
 exact Ot n wc hw.tb hg.tb
theorem aX.pR (h:aX p tb work me bt ok w okc s wc): ∃ pR,wc.cell? ⟨p,1,none⟩=some (.pointer (some ⟨pR,0,none⟩)):=by
 obtain ⟨_,_,⟨⟨_,_,_,_,pR,_,hw⟩,_⟩,_⟩:=h.run.direct
 exact ⟨pR,(af hw.box 1).trans rfl⟩
end
theorem KQ (xs ys:List Int) (k:Nat) (h1:k<xs.length) (h2:k<ys.length):(xs.zip ys).drop k=(xs.getD k 0,ys.getD k 0)::(xs.zip ys).drop (k+1):=by
 have hk:k<(xs.zip ys).length:=by rw [List.length_zip];omega
 rw [List.drop_eq_getElem_cons hk,List.getElem_zip,List.getD_eq_getElem?_getD,List.getD_eq_getElem?_getD,List.getElem?_eq_getElem h1,List.getElem?_eq_getElem h2]
 rfl
theorem IB {w:World} {D:Nat→Prop} {A:Option Addr} {n:Nat} {xs:List Int} (h:(Kd.int .i64).F w D A n xs) (hf:Flat A) (i:Nat) (hi:i<n): ∃ g,A=some ⟨g,0,none⟩∧w.cell? ⟨g,i,none⟩=some (.int .i64 (xs.getD i 0))∧xs[i]?=some (xs.getD i 0):=by
 have hC:=Kd.fM h
 obtain ⟨ad,c,e,_,hK,hc0⟩:=Kd.uK hC 0 (i:Int) (by omega) (by omega)
 obtain ⟨g,rfl⟩:=hf ad e
 have hc1: ∀ j u,c[j]?=some u→w.cell? ((⟨g,0,none⟩:Addr).add ((i:Int).toNat*1+j))=some u:=hc0
 obtain rfl:c= [.int .i64 (xs.getD (i:Int).toNat 0)]:=hK
 have h2:=hc1 0 _ rfl
 rw [Int.toNat_natCast,Nat.mul_one,Nat.add_zero,ic,Nat.zero_add] at h2
 have hl:xs.length=n:=hC.1
 exact ⟨g,e,h2,by rw [List.getD_eq_getElem?_getD,List.getElem?_eq_getElem (by omega),Option.getD_some]⟩
structure xK (p tb:Nat) (work:Value) (me:Int) (bt:Nat) (ok:Nat→Prop) (w:World) (n:Int) (rc:Rc) (bn br:Nat) (A1 A2:Option Addr) (c1 c2:Nat) (rest:Pr Ws Bool) (res:Out Bool × TS Ws) (wc:World):Prop where
 out: ∃ okc s,jN p tb work me bt ok w n rc bn br A1 A2 c1 c2 okc s wc∧rest s=some res
def LF:Bool × List (List Nat × List Nat):=(true,[([],[]),([0],[0]),([1],[1]),([2],[2]),([3],[3]),([],[]),([4,5],[4,5]),([],[]),([7,6,6,0,1,2,3,4,5,6,7],[6,7])])
def OJ:List Nat:= [0,1,3,7,15,0,63,0,255]
theorem IV:gJ .any (opsOf Tryz.f175 1)=LF:=by kernel_rfl
theorem Fe:bI LF.2 OJ=true:=by kernel_rfl
def Mr:Bool × List (List Nat × List Nat):=(true,[([],[]),([0],[0]),([],[]),([1,2],[1,2]),([],[]),([3,4],[3,4])])
def OD:List Nat:= [0,1,0,7,0,31]
theorem Jr:gJ .any (opsOf Tryz.f175 6)=Mr:=by kernel_rfl
theorem Ip:bI Mr.2 OD=true:=by kernel_rfl
theorem qw (p tb:Nat) (work:Value) (me n:Int) (ok:Nat→Prop) (s:TS Ws) (w:World) (h:dU (shW p) tb work ok s w) (res:Out Bool × TS Ws) (hr:pV n s=some res):
  Calls Tryz.prog 175 #[eu tb p me,.int .i64 n] w (gH (shW p) tb work uP ok w res):=by
 have HTV:eu tb p me= .agg #[.pointer (some ⟨tb,0,none⟩),.pointer (some ⟨p,0,none⟩),.int .i64 me]:=rfl
 rw [HTV]
 unfold pV at hr
 generalize hrc:(s.sh.tb.en n).rc=rc at hr
 have HRC:=Am_ hrc
 have hgd:rc.nodes.length=rc.infos.length∧0≤rc.keep∧rc.keep<1000000:=by
  by_cases h1:rc.nodes.length=rc.infos.length∧0≤rc.keep∧rc.keep<1000000
  ·exact h1
  ·rw [if_neg h1] at hr
   cases hr
 rw [if_pos hgd] at hr
 have HGD:=Am_ hgd
 have HR:=Am_ hr
 have h0:=aX.enter (me:=me) h
 unfold fZ at h0
 have HT:=Am_ (h0.alloc (.cells #[.int .i64 n] 2))
 have HBN:=Am_ (Mine.new h0.lt (.cells #[.int .i64 n] 2))
 simp only [World.size_alloc] at HBN
 have HSM:=Am_ (show rc.nodes.length<1000000 by
  have hg:=h.good.tb
  rw [←hrc]
  unfold Tb.en
  split
  ·decide
  ·rename_i i hi
   rw [List.getD_eq_getElem?_getD]
   cases hq:s.sh.tb.l[i]? with
   | none=>show en0.rc.nodes.length<_;decide
   | some q=>exact (hg.small i q hq).1)
 clear h h0 hr HTV hrc hgd
 go_enter Tryz.func175,Tryz.ntmps175
 go_upto_region 1 with fail
 generalize (w.alloc (.cells #[.pointer (some ⟨tb,0,none⟩),.pointer (some ⟨p,0,none⟩),.int .i64 me] 114)).alloc (.cells #[.int .i64 n] 2)=w1 at HT HBN ⊢
 generalize hbb:w.heap.size=bt at HT HBN ⊢
 have HBT0:av (w.heap.size≤bt):=⟨by omega⟩
 clear hbb
 generalize hbn:bt+1=bn at HBN ⊢
 have HNT:av (bn≠bt∧w.heap.size≤bn):=⟨by have:=HBT0.out;omega⟩
 clear hbn
 go_cut [5] from 10 (fun v5 wc=> ∃ (br:Nat) (A1 A2:Option Addr) (c1 c2:Nat),v5= .pointer (some ⟨br,0,none⟩)∧av (xK p tb work me bt ok w n rc bn br A1 A2 c1 c2 (aQ (iM n (rc.nodes.zip rc.infos)) (kL n rc)) res wc))
 case first=>
  obtain ⟨pR,hpR⟩:=HT.out.pR
  have HC:=Am_ (And.intro HT.out.c1 (And.intro hpR ((af HBN.out.1 0).trans (rfl:_=some (Value.int .i64 n)))))
  clear hpR
  refine bK (n:=9) (S:=fun w'=>w'.cell? ⟨bt,1,none⟩=some (.pointer (some ⟨p,0,none⟩))∧w'.cell? ⟨p,1,none⟩=some (.pointer (some ⟨pR,0,none⟩))∧w'.cell? ⟨bn,0,none⟩=some (.int .i64 n)) (ds:= [8]) (by kernel_rfl) rfl IV Fe HC.out (fun hHeld HT_ HW_=>?_)
  have HT:=Am_ HT.out.drew
  have HBN:=Am_ (HBN.out.moves (Moves.drew (Moves.refl _ _)))
  clear HC
  generalize World.drew _=w1 at HT HBN hHeld ⊢
  refine gy [(0,some 10),(1,some 11),(2,some 12),(3,some 13),(4,some 14),(5,some 15)] ?_
  (refine gG (v:=?_) (a':=?_) HT_ (by kernel_rfl) rfl rfl (fun _ _ _ h=>h) (Or.inl ⟨by rfl,?_⟩) ?_ ?_;rotate_left;(intro w';go_simp;with_reducible rfl);rotate_left;(simp only [Act.put,p1_,p2_,p3_,aG,aH];rfl))
  iterate 5 (refine jW (v:=?_) (a':=?_) HT_ HW_ (by kernel_rfl) rfl rfl (fun _ _ _ h=>h) hHeld (Or.inl ⟨by rfl,?_⟩) ?_ ?_;rotate_left;(rintro w' ⟨s0,s1,s2⟩;go_simp;with_reducible rfl);rotate_left;(simp only [Act.put,p1_,p2_,p3_,aG,aH];rfl))
  refine bG ?_
  refine Nn (i:=6) (j:=7) (Ni:=some 16) (Nj:=some 5) #[Y_,Y_,Y_,Y_,Y_,Y_,Y_,N_,N_] #[Y_,Y_,Y_,Y_,Y_,Y_,N_,Y_,N_] rfl rfl rfl rfl (by kernel_rfl) (fun K_ hK=>?_) (fun K_ hK=>?_)
  ·refine call_ 208 #[.pointer (some ⟨pR,0,none⟩),.int .i64 n] (by rfl) rfl ?hk6 ?_
   (case hk6=>first | (go_simp;done) | (go_simp;exact enters Tryz.func208 (by kernel_rfl) rfl _ _))
   refine (HT.out.Qs hHeld.2.1).mono ?_
   rintro e w2 hE
   rw [HRC.out] at hE
   obtain ⟨A1,c1,A2,c2,rfl,hl1,hf1,hl2,hf2,hb,hx1,hx2⟩:=hE.out
   have HX:=Am_ (And.intro hx1 (And.intro hx2 hl1))
   clear hx1 hx2
   refine ⟨_,rfl,?_⟩
   refine hK.out _ _ (fun _ hS=>⟨aD hb hS.1,aD hb hS.2.1,aD hb hS.2.2⟩) ?_
   clear hK K_
   refine cK (a':=?_) ?_ ?_
   rotate_left; · show Act.put _ (some 16) _=_;simp only [Act.put,p1_,p2_,p3_,aG,aH];rfl
   refine JG (i:=7) (N:=some 5) #[Y_,Y_,Y_,Y_,Y_,Y_,Y_,Y_,N_] rfl rfl (by kernel_rfl) (fun K_ hK=>?_)
   refine jD (v:= .pointer (some ⟨w2.heap.size,0,none⟩)) (w1:=w2.alloc (.cells #[.slice none 0 0,.slice none 0 0,.int .i64 0,.int .i64 0,.int .i64 0,.int .i64 0] 254)) (by rfl) rfl ?ha7 ?_
   (case ha7=>go_simp;first | done | rfl)
   refine hK.out _ _ (fun _ hS=>⟨aD (ai (Below.refl _ _) _) hS.1,aD (ai (Below.refl _ _) _) hS.2.1,aD (ai (Below.refl _ _) _) hS.2.2⟩) ?_
   clear hK K_
   refine cK (a':=?_) ?_ ?_
   rotate_left; · show Act.put _ (some 5) _=_;simp only [Act.put,p1_,p2_,p3_,aG,aH];rfl
   have HT2:=HT.out.below hb
   have HB:=Am_ (Mine.new HT2.lt (.cells #[.slice none 0 0,.slice none 0 0,.int .i64 0,.int .i64 0,.int .i64 0,.int .i64 0] 254))
   have HT3:=Am_ (HT2.alloc (.cells #[.slice none 0 0,.slice none 0 0,.int .i64 0,.int .i64 0,.int .i64 0,.int .i64 0] 254))
   have HBN3:=Am_ ((HBN.out.moves (Moves.bV _ hb)).alloc (.cells #[.slice none 0 0,.slice none 0 0,.int .i64 0,.int .i64 0,.int .i64 0,.int .i64 0] 254))
   have HBW:av (w.heap.size≤w2.heap.size):=⟨HT2.moves.size⟩
   have HBT:av (w2.heap.size≠bt):=⟨by have:=HT2.box.lt;omega⟩
   have HBB:av (w2.heap.size≠bn):=⟨by have:=(HBN.out.moves (Moves.bV _ hb)).lt;omega⟩
   have hlt1:=HT.out.lt
   have HF1:=Am_ (Kd.bP (ok':=fun k=> ¬ ok k∧k≠w2.heap.size) (Kd.eP (Kd.dP hf1) (.cells #[.slice none 0 0,.slice none 0 0,.int .i64 0,.int .i64 0,.int .i64 0,.int .i64 0] 254)) (fun k hk=>⟨fun h=>by have:=hlt1 k h;have:=hk.1;omega,by have:=hk.2;omega⟩))
   have HF2:=Am_ (Kd.bP (ok':=fun k=> ¬ ok k∧k≠w2.heap.size) (Kd.eP (Kd.dP hf2) (.cells #[.slice none 0 0,.slice none 0 0,.int .i64 0,.int .i64 0,.int .i64 0,.int .i64 0] 254)) (fun k hk=>⟨fun h=>by have:=hlt1 k h;have:=hk.1;omega,by have:=hk.2;omega⟩))
   clear HT HBN hHeld hE hl1 hf1 hl2 hf2 hb HT2 hlt1
   generalize w2.alloc (.cells #[.slice none 0 0,.slice none 0 0,.int .i64 0,.int .i64 0,.int .i64 0,.int .i64 0] 254)=w3 at HT3 HB HBN3 HF1 HF2 ⊢
   generalize w2.heap.size=br at HB HBW HBT HBB HF1 HF2 ⊢
   refine dz (i:=8) none HT_ (by kernel_rfl) rfl rfl (by decide) (fun K_ hK=>?_)
   refine iJ (w1:=w3.setCells br 0 [.slice A1 rc.nodes.length c1,.slice A2 rc.infos.length c2,.int .i64 rc.keep,.int .i64 rc.way,.int .i64 rc.old,.int .i64 rc.new]) (by rfl) rfl ?_ ?_
   ·exact fV _ [.slice A1 rc.nodes.length c1,.slice A2 rc.infos.length c2,.int .i64 rc.keep,.int .i64 rc.way,.int .i64 rc.old,.int .i64 rc.new] rfl (by rfl) (by rfl) HB.out.1 rfl (by kernel_rfl) (by simp) (by intro u hu;simp only [List.mem_cons,List.not_mem_nil,or_false] at hu;rcases hu with rfl | rfl | rfl | rfl | rfl | rfl<;>rfl)
   refine hK.out _ _ ?_
   clear hK K_
   have HA:av (jN p tb work me bt ok w n rc bn br A1 A2 c1 c2 ok s (w3.setCells br 0 [.slice A1 rc.nodes.length c1,.slice A2 rc.infos.length c2,.int .i64 rc.keep,.int .i64 rc.way,.int .i64 rc.old,.int .i64 rc.new])):=⟨{
    task:=HT3.out.setCells HB.out.2 HBW.out HBT.out [.slice A1 rc.nodes.length c1,.slice A2 rc.infos.length c2,.int .i64 rc.keep,.int .i64 rc.way,.int .i64 rc.old,.int .i64 rc.new]
    num:=⟨(bq [.slice A1 rc.nodes.length c1,.slice A2 rc.infos.length c2,.int .i64 rc.keep,.int .i64 rc.way,.int .i64 rc.old,.int .i64 rc.new] 0 bn (fun e=>HBB.out e.symm)).trans HBN3.out.1,HBN3.out.2⟩
    box_:=⟨gq (seg:= [.slice A1 rc.nodes.length c1,.slice A2 rc.infos.length c2,.int .i64 rc.keep,.int .i64 rc.way,.int .i64 rc.old,.int .i64 rc.new]) HB.out.1 rfl,HB.out.2⟩
    nodes:=Kd.bP (Kd.eZ HF1.out (fun k hk _=>bq [.slice A1 rc.nodes.length c1,.slice A2 rc.infos.length c2,.int .i64 rc.keep,.int .i64 rc.way,.int .i64 rc.old,.int .i64 rc.new] 0 k hk.2)) (fun k hk=>hk.1)
    infos:=Kd.bP (Kd.eZ HF2.out (fun k hk _=>bq [.slice A1 rc.nodes.length c1,.slice A2 rc.infos.length c2,.int .i64 rc.keep,.int .i64 rc.way,.int .i64 rc.old,.int .i64 rc.new] 0 k hk.2)) (fun k hk=>hk.1)
    flat1:=HX.out.1
    flat2:=HX.out.2.1
    cap1:=HX.out.2.2 }⟩
   clear HT3 HB HBN3 HF1 HF2
   generalize w3.setCells br 0 [.slice A1 rc.nodes.length c1,.slice A2 rc.infos.length c2,.int .i64 rc.keep,.int .i64 rc.way,.int .i64 rc.old,.int .i64 rc.new]=w4 at HA ⊢
   refine dR (by kernel_rfl) ?_
   go_wp2_with fail
   go_meet
   case rel=>exact ⟨br,A1,A2,c1,c2,rfl,⟨⟨ok,s,HA.out,HR.out⟩⟩⟩
  ·refine jD (v:= .pointer (some ⟨w1.heap.size,0,none⟩)) (w1:=w1.alloc (.cells #[.slice none 0 0,.slice none 0 0,.int .i64 0,.int .i64 0,.int .i64 0,.int .i64 0] 254)) (by rfl) rfl ?hb7 ?_
   (case hb7=>go_simp;first | done | rfl)
   refine hK.out _ _ (fun _ hS=>⟨aD (ai (Below.refl _ _) _) hS.1,aD (ai (Below.refl _ _) _) hS.2.1,aD (ai (Below.refl _ _) _) hS.2.2⟩) ?_
   clear hK K_
   refine cK (a':=?_) ?_ ?_
   rotate_left; · show Act.put _ (some 5) _=_;simp only [Act.put,p1_,p2_,p3_,aG,aH];rfl
   have HB:=Am_ (Mine.new HT.out.lt (.cells #[.slice none 0 0,.slice none 0 0,.int .i64 0,.int .i64 0,.int .i64 0,.int .i64 0] 254))
   have HBW:av (w.heap.size≤w1.heap.size):=⟨HT.out.moves.size⟩
   have HBT:av (w1.heap.size≠bt):=⟨by have:=HT.out.box.lt;omega⟩
   have HBB:av (w1.heap.size≠bn):=⟨by have:=HBN.out.lt;omega⟩
   have HLT:=Am_ HT.out.lt
   have HT:=Am_ (HT.out.alloc (.cells #[.slice none 0 0,.slice none 0 0,.int .i64 0,.int .i64 0,.int .i64 0,.int .i64 0] 254))
   have HBN:=Am_ (HBN.out.alloc (.cells #[.slice none 0 0,.slice none 0 0,.int .i64 0,.int .i64 0,.int .i64 0,.int .i64 0] 254))
   have hHeld:(_∧_∧_):=⟨aD (ai (Below.refl _ _) (.cells #[.slice none 0 0,.slice none 0 0,.int .i64 0,.int .i64 0,.int .i64 0,.int .i64 0] 254)) hHeld.1,aD (ai (Below.refl _ _) (.cells #[.slice none 0 0,.slice none 0 0,.int .i64 0,.int .i64 0,.int .i64 0,.int .i64 0] 254)) hHeld.2.1,aD (ai (Below.refl _ _) (.cells #[.slice none 0 0,.slice none 0 0,.int .i64 0,.int .i64 0,.int .i64 0,.int .i64 0] 254)) hHeld.2.2⟩
   have HSZ:av (w1.heap.size<(w1.alloc (.cells #[.slice none 0 0,.slice none 0 0,.int .i64 0,.int .i64 0,.int .i64 0,.int .i64 0] 254)).heap.size):=⟨by simp⟩
   generalize w1.alloc (.cells #[.slice none 0 0,.slice none 0 0,.int .i64 0,.int .i64 0,.int .i64 0,.int .i64 0] 254)=w2 at HB HT HBN hHeld HSZ ⊢
   generalize w1.heap.size=br at HB HBW HBT HBB HLT HSZ ⊢
   refine JG (i:=6) (N:=some 16) #[Y_,Y_,Y_,Y_,Y_,Y_,Y_,Y_,N_] rfl rfl (by kernel_rfl) (fun K_ hK=>?_)
   refine call_ 208 #[.pointer (some ⟨pR,0,none⟩),.int .i64 n] (by rfl) rfl ?hk6 ?_
   (case hk6=>first | (go_simp;done) | (go_simp;exact enters Tryz.func208 (by kernel_rfl) rfl _ _))
   refine (HT.out.Qs hHeld.2.1).mono ?_
   rintro e w3 hE
   rw [HRC.out] at hE
   obtain ⟨A1,c1,A2,c2,rfl,hl1,hf1,hl2,hf2,hb,hx1,hx2⟩:=hE.out
   have HX:=Am_ (And.intro hx1 (And.intro hx2 hl1))
   clear hx1 hx2
   refine ⟨_,rfl,?_⟩
   refine hK.out _ _ (fun _ hS=>⟨aD hb hS.1,aD hb hS.2.1,aD hb hS.2.2⟩) ?_
   clear hK K_
   refine cK (a':=?_) ?_ ?_
   rotate_left; · show Act.put _ (some 16) _=_;simp only [Act.put,p1_,p2_,p3_,aG,aH];rfl
   have HT3:=Am_ (HT.out.below hb)
   have HB:=Am_ (HB.out.moves (Moves.bV _ hb))
   have HBN3:=Am_ (HBN.out.moves (Moves.bV _ hb))
   have hlt1:=HLT.out
   have hsz:=HSZ.out
   have HF1:=Am_ (Kd.bP (ok':=fun k=> ¬ ok k∧k≠br) hf1 (fun k hk=>⟨fun h=>by have:=hlt1 k h;omega,by omega⟩))
   have HF2:=Am_ (Kd.bP (ok':=fun k=> ¬ ok k∧k≠br) hf2 (fun k hk=>⟨fun h=>by have:=hlt1 k h;omega,by omega⟩))
   clear HT HBN hHeld hE hl1 hf1 hl2 hf2 hb hlt1 hsz HLT HSZ
   refine dz (i:=8) none HT_ (by kernel_rfl) rfl rfl (by decide) (fun K_ hK=>?_)
   refine iJ (w1:=w3.setCells br 0 [.slice A1 rc.nodes.length c1,.slice A2 rc.infos.length c2,.int .i64 rc.keep,.int .i64 rc.way,.int .i64 rc.old,.int .i64 rc.new]) (by rfl) rfl ?_ ?_
   ·exact fV _ [.slice A1 rc.nodes.length c1,.slice A2 rc.infos.length c2,.int .i64 rc.keep,.int .i64 rc.way,.int .i64 rc.old,.int .i64 rc.new] rfl (by rfl) (by rfl) HB.out.1 rfl (by kernel_rfl) (by simp) (by intro u hu;simp only [List.mem_cons,List.not_mem_nil,or_false] at hu;rcases hu with rfl | rfl | rfl | rfl | rfl | rfl<;>rfl)
   refine hK.out _ _ ?_
   clear hK K_
   have HA:av (jN p tb work me bt ok w n rc bn br A1 A2 c1 c2 ok s (w3.setCells br 0 [.slice A1 rc.nodes.length c1,.slice A2 rc.infos.length c2,.int .i64 rc.keep,.int .i64 rc.way,.int .i64 rc.old,.int .i64 rc.new])):=⟨{
    task:=HT3.out.setCells HB.out.2 HBW.out HBT.out [.slice A1 rc.nodes.length c1,.slice A2 rc.infos.length c2,.int .i64 rc.keep,.int .i64 rc.way,.int .i64 rc.old,.int .i64 rc.new]
    num:=⟨(bq [.slice A1 rc.nodes.length c1,.slice A2 rc.infos.length c2,.int .i64 rc.keep,.int .i64 rc.way,.int .i64 rc.old,.int .i64 rc.new] 0 bn (fun e=>HBB.out e.symm)).trans HBN3.out.1,HBN3.out.2⟩
    box_:=⟨gq (seg:= [.slice A1 rc.nodes.length c1,.slice A2 rc.infos.length c2,.int .i64 rc.keep,.int .i64 rc.way,.int .i64 rc.old,.int .i64 rc.new]) HB.out.1 rfl,HB.out.2⟩
    nodes:=Kd.bP (Kd.eZ HF1.out (fun k hk _=>bq [.slice A1 rc.nodes.length c1,.slice A2 rc.infos.length c2,.int .i64 rc.keep,.int .i64 rc.way,.int .i64 rc.old,.int .i64 rc.new] 0 k hk.2)) (fun k hk=>hk.1)
    infos:=Kd.bP (Kd.eZ HF2.out (fun k hk _=>bq [.slice A1 rc.nodes.length c1,.slice A2 rc.infos.length c2,.int .i64 rc.keep,.int .i64 rc.way,.int .i64 rc.old,.int .i64 rc.new] 0 k hk.2)) (fun k hk=>hk.1)
    flat1:=HX.out.1
    flat2:=HX.out.2.1
    cap1:=HX.out.2.2 }⟩
   clear HT3 HB HBN3 HF1 HF2
   generalize w3.setCells br 0 [.slice A1 rc.nodes.length c1,.slice A2 rc.infos.length c2,.int .i64 rc.keep,.int .i64 rc.way,.int .i64 rc.old,.int .i64 rc.new]=w4 at HA ⊢
   refine dR (by kernel_rfl) ?_
   go_wp2_with fail
   go_meet
   case rel=>exact ⟨br,A1,A2,c1,c2,rfl,⟨⟨ok,s,HA.out,HR.out⟩⟩⟩
 case rest=>
  obtain ⟨br,A1,A2,c1,c2,rfl,HIN⟩:=hcut
  clear HT HBN HR HRC
  obtain ⟨okc,s1,hA,hr⟩:=HIN.out.out
  have y0:=(af hA.box_.1 0).trans (rfl:_=some (Value.slice A1 rc.nodes.length c1))
  clear hA hr
  go_upto_block 0 with fail
  clear y0
  go_wp2_with fail
  go_loopg [20] rc.nodes.length (fun g v20 wr=> ∃ k:Nat,v20= .int .i64 k∧k+g=rc.nodes.length∧av (xK p tb work me bt ok w n rc bn br A1 A2 c1 c2 (aQ (iM n ((rc.nodes.zip rc.infos).drop k)) (kL n rc)) res wr))
  case atStart=>exact ⟨0,rfl,by omega,⟨by have h:=HIN.out;rwa [List.drop_zero]⟩⟩
  case round=>
   obtain ⟨k,rfl,hkg,HQ⟩:=hrel
   clear HIN
   cases gk with
   | zero=>
    obtain ⟨okc,s2,hA,hr0⟩:=HQ.out.out
    have hk:k=rc.nodes.length:=by omega
    have hr:tC n rc s2=some res:=by
     rw [List.drop_of_length_le (by rw [List.length_zip];omega)] at hr0
     exact hr0
    have d1:decide ((k:Int)<(rc.nodes.length:Int))=false:=decide_eq_false (by omega)
    have d2:decide (k<rc.nodes.length)=false:=decide_eq_false (by omega)
    unfold tC at hr
    obtain ⟨o,t,hd,hcase⟩:=aN hr
    have HD:=Am_ hd
    have HCS:=Am_ hcase
    clear hd hcase
    have HA:=Am_ hA
    clear hA hr hr0 HQ hk
    have c0:=HA.out.task.c0
    go_upto_region 13 with (go_at_call 137;refine (HA.out.task.QW HA.out.num HD.out).mono ?_;rintro e wq ⟨⟨okq,hm,hT,he⟩⟩;rcases HCS.out with hw | hw;(obtain ⟨rfl,rfl⟩:=hw;obtain rfl:e= .panicked dK:=he;exact ⟨rfl,⟨⟨okq,hT.moves,hT.run,rfl⟩⟩⟩);obtain ⟨a3,rfl,hr2⟩:=hw;obtain rfl:e= .returned (.int .i64 a3):=he;have HA:=Am_ (HA.out.next hm hT);have HR2:=Am_ hr2;clear hm hT hr2;clear c0)
    clear d1 d2 HD HCS
    have y0:=(af HA.out.box_.1 0).trans (rfl:_=some (Value.slice A1 rc.nodes.length c1))
    have y2:=(af HA.out.box_.1 2).trans (rfl:_=some (Value.int .i64 rc.keep))
    have hmin:(if (rc.nodes.length:Int)<rc.keep then (rc.nodes.length:Int) else rc.keep)=((jZ rc:Nat):Int):=by have:=HGD.out;unfold jZ;split<;>omega
    have hcl:jZ rc≤rc.nodes.length:=by unfold jZ;omega
    have hr3:aQ (iE (rc.nodes.drop (jZ rc))) (fun _=>je n rc) t=some res:=HR2.out
    have hcp:=HA.out.cap1
    generalize jZ rc=q at hmin hcl hr3
    have HQL:=Am_ (And.intro hcl hcp)
    have hn0:(0:Int)≤(q:Int):=by omega
    have hn1:(q:Int)≤(rc.nodes.length:Int):=by omega
    have hn2:q≤rc.nodes.length:=hcl
    have HR3:=Am_ hr3
    clear hr3 HR2 hcl hcp
    go_upto_block 2 with fail
    clear y0 y2 hmin hn0 hn1
    generalize hV:(if c1=q then A1 else Option.map (fun x=>x.add q) A1)=V55
    have HV:=Am_ hV
    clear hV
    go_cut [] from 6 (fun wc=>av (xK p tb work me bt ok w n rc bn br A1 A2 c1 c2 (je n rc) res wc))
    case first=>
     have HB:=Am_ (xK.mk (p:=p) (tb:=tb) (work:=work) (me:=me) (bt:=bt) (ok:=ok) (w:=w) (n:=n) (rc:=rc) (bn:=bn) (br:=br) (A1:=A1) (A2:=A2) (c1:=c1) (c2:=c2) (res:=res) ⟨_,_,HA.out,HR3.out⟩)
     clear HA HR3
     go_wp2_with fail
     go_loopg [57] (rc.nodes.length - q) (fun g v57 wr=> ∃ j:Nat,v57= .int .i64 j∧j+g=rc.nodes.length - q∧av (xK p tb work me bt ok w n rc bn br A1 A2 c1 c2 (aQ (iE (rc.nodes.drop (q+j))) (fun _=>je n rc)) res wr))
     case atStart=>exact ⟨0,rfl,by omega,HB⟩
     case round=>
      obtain ⟨j,rfl,hjg,HQ⟩:=hrel
      clear HB
      cases gk with
      | zero=>
       have d1:decide ((j:Int)<((rc.nodes.length - q:Nat):Int))=false:=decide_eq_false (by omega)
       have d2:decide (j<rc.nodes.length - q)=false:=decide_eq_false (by omega)
       obtain ⟨okc,s2,hA,hr0⟩:=HQ.out.out
       have hr:je n rc s2=some res:=by
        rw [List.drop_of_length_le (by omega)] at hr0
        exact hr0
       have HA:=Am_ hA
       have HR3:=Am_ hr
       clear hA hr hr0 HQ
       go_wp2_with fail
       go_meet
       case rel=>exact ⟨⟨_,_,HA.out,HR3.out⟩⟩
      | succ g=>
       have d1:decide ((j:Int)<((rc.nodes.length - q:Nat):Int))=true:=decide_eq_true (by omega)
       have d2:decide (j<rc.nodes.length - q)=true:=decide_eq_true (by omega)
       have b1:(0:Int)≤(j:Int):=by omega
       have b2:(j:Int)<((rc.nodes.length - q:Nat):Int):=by omega
       have b3:j<rc.nodes.length - q:=by omega
       have hw1:wrap64 ((j:Int)+1)=((j+1:Nat):Int):=by have:=HSM.out;unfold wrap64;omega
       have HW1:=Am_ hw1
       obtain ⟨okc,s2,hA,hr⟩:=HQ.out.out
       obtain ⟨gN,e1,hcN,hgN⟩:=IB hA.nodes hA.flat1 (q+j) (by omega)
       have hcq: ¬ c1=q:=by have:=HQL.out.2;omega
       subst e1
       obtain rfl:V55=some ⟨gN,q,none⟩:=by
        have h:=HV.out
        rw [if_neg hcq,Option.map_some,ic,Nat.zero_add] at h
        exact h.symm
       have hdr:rc.nodes.drop (q+j)=rc.nodes.getD (q+j) 0::rc.nodes.drop (q+(j+1)):=by
        have hk:q+j<rc.nodes.length:=by omega
        rw [List.drop_eq_getElem_cons hk,List.getD_eq_getElem?_getD,List.getElem?_eq_getElem hk]
        rfl
       rw [hdr] at hr
       simp only [iE] at hr
       generalize rc.nodes.getD (q+j) 0=x at hcN hgN hr
       have HA:=Am_ (hA.alloc (.cells #[.int .i64 x] 45))
       have HBX:=Am_ (Mine.new hA.task.lt (.cells #[.int .i64 x] 45))
       obtain ⟨o,t,hd,hcase⟩:=aN (iX hr)
       have HD:=Am_ hd
       have HCS:=Am_ hcase
       clear hd hcase
       clear hA hr HQ hgN hdr hw1 hcq
       go_upto_region 16 with fail
       clear hcN
       generalize wr.alloc (.cells #[.int .i64 x] 45)=w3 at HA HBX ⊢
       generalize wr.heap.size=bx at HBX ⊢
       have c0:=HA.out.task.c0
       go_wp2_with (go_at_call 137;refine (HA.out.task.Rw HBX.out HD.out).mono ?_;rintro e wq ⟨⟨okq,hm,hT,he⟩⟩;rcases HCS.out with hw | hw;(obtain ⟨rfl,rfl⟩:=hw;obtain rfl:e= .panicked dK:=he;exact ⟨rfl,⟨⟨okq,hT.moves,hT.run,rfl⟩⟩⟩);obtain ⟨a4,rfl,hr2⟩:=hw;obtain rfl:e= .returned (.int .i64 a4):=he;have HA:=Am_ (HA.out.next hm hT);have HR2:=Am_ hr2;clear hm hT hr2;clear c0)
       have HR3:av (aQ (iE (rc.nodes.drop (q+(j+1)))) (fun _=>je n rc) t=some res):=⟨HR2.out⟩
       clear HR2
       go_roundg g
       case rel=>exact ⟨j+1,by first | rfl | rw [HW1.out],by omega,⟨⟨_,_,HA.out,HR3.out⟩⟩⟩
       case measure=>omega
    case rest=>
    clear HA HR3
    obtain ⟨okc5,s5,hA,hr⟩:=hcut.out.out
    have y0:=(af hA.box_.1 0).trans (rfl:_=some (Value.slice A1 rc.nodes.length c1))
    unfold je at hr
    have HA:=Am_ hA
    cases hnd:rc.nodes with
    | nil=>
     rw [hnd] at hr y0
     have hr:aQ (IE n 2) (fun _=>dw true) s5=some res:=hr
     obtain ⟨o,t,hd,hcase⟩:=aN hr
     have HD:=Am_ hd
     have HCS:=Am_ hcase
     clear hd hcase
     clear hr hcut
     go_upto_region 20 with fail
     clear y0
     have c0:=HA.out.task.c0
     have c1:=HA.out.task.c1
     have c2:=HA.out.task.c2
     have k0:=(af HA.out.num.1 0).trans (rfl:_=some (Value.int .i64 n))
     go_upto_region 21 with (go_at_call 215;refine (pG p tb work me _ _ _ n 2 HA.out.task.run (o,t) HD.out).mono ?_;rintro e wq ⟨okq,hm,hi,he⟩;rcases HCS.out with hw | hw;(obtain ⟨rfl,rfl⟩:=hw;obtain rfl:e= .panicked dK:=he;exact ⟨rfl,⟨⟨okq,HA.out.task.moves.trans hm,hi,rfl⟩⟩⟩);obtain ⟨_,rfl,hr2⟩:=hw;obtain ⟨_,rfl,rfl⟩:=he;have HA:=Am_ (HA.out.next hm (HA.out.task.next hm hi));have HR3:=Am_ hr2;clear hm hi hr2 c0 c1 c2 k0)
     go_wp2_with fail
     go_ret
     obtain rfl:res=(.ret true,t):=by have h:=HR3.out;injection h with h;exact h.symm
     exact ⟨⟨_,HA.out.task.moves,HA.out.task.run,_,rfl,rfl⟩⟩
    | cons x l=>
     have hl0:0<rc.nodes.length:=by rw [hnd];simp
     obtain ⟨gN,e1,hcN,hgN⟩:=IB HA.out.nodes HA.out.flat1 0 hl0
     have hx:rc.nodes.getD 0 0=x:=by rw [hnd];rfl
     rw [hx] at hcN hgN
     rw [hnd] at hr
     have hr:aQ (oI x rc.way rc.old rc.new) (fun _=>qy n) s5=some res:=hr
     have d1:decide ((rc.nodes.length:Int)>0)=true:=decide_eq_true (by omega)
     have d2:decide (0<rc.nodes.length)=true:=decide_eq_true hl0
     subst e1
     obtain ⟨o,t,hd,hcase⟩:=aN hr
     have HD:=Am_ hd
     have HCS:=Am_ hcase
     clear hd hcase
     have HIR:=Am_ (And.intro hgN hl0)
     clear hr hcut hnd hl0 hx hgN hcN
     have c0:=HA.out.task.c0
     go_upto_region 20 with (go_at_call 154;refine (HA.out.task.QU HA.out.box_ HA.out.nodes HIR.out.1 HIR.out.2 HD.out).mono ?_;rintro e wq ⟨⟨okq,hm,hT,he⟩⟩;rcases HCS.out with hw | hw;(obtain ⟨rfl,rfl⟩:=hw;obtain rfl:e= .panicked dK:=he;exact ⟨rfl,⟨⟨okq,hT.moves,hT.run,rfl⟩⟩⟩);obtain ⟨a5,rfl,hr2⟩:=hw;obtain rfl:e= .returned (.bool a5):=he;have HA:=Am_ (HA.out.next hm hT);have HR2:=Am_ hr2;clear hm hT hr2;clear c0)
     clear y0 HIR HD HCS d1 d2
     have hr:aQ (IE n 2) (fun _=>dw true) t=some res:=HR2.out
     clear HR2
     obtain ⟨o,t,hd,hcase⟩:=aN hr
     have HD:=Am_ hd
     have HCS:=Am_ hcase
     clear hd hcase
     clear hr
     have c0:=HA.out.task.c0
     have c1:=HA.out.task.c1
     have c2:=HA.out.task.c2
     have k0:=(af HA.out.num.1 0).trans (rfl:_=some (Value.int .i64 n))
     go_upto_region 21 with (go_at_call 215;refine (pG p tb work me _ _ _ n 2 HA.out.task.run (o,t) HD.out).mono ?_;rintro e wq ⟨okq,hm,hi,he⟩;rcases HCS.out with hw | hw;(obtain ⟨rfl,rfl⟩:=hw;obtain rfl:e= .panicked dK:=he;exact ⟨rfl,⟨⟨okq,HA.out.task.moves.trans hm,hi,rfl⟩⟩⟩);obtain ⟨_,rfl,hr2⟩:=hw;obtain ⟨_,rfl,rfl⟩:=he;have HA:=Am_ (HA.out.next hm (HA.out.task.next hm hi));have HR3:=Am_ hr2;clear hm hi hr2 c0 c1 c2 k0)
     go_wp2_with fail
     go_ret
     obtain rfl:res=(.ret true,t):=by have h:=HR3.out;injection h with h;exact h.symm
     exact ⟨⟨_,HA.out.task.moves,HA.out.task.run,_,rfl,rfl⟩⟩
   | succ g=>
    have d1:decide ((k:Int)<(rc.nodes.length:Int))=true:=decide_eq_true (by omega)
    have d2:decide (k<rc.nodes.length)=true:=decide_eq_true (by omega)
    have b1:(0:Int)≤(k:Int):=by omega
    have b2:(k:Int)<(rc.nodes.length:Int):=by omega
    have b3:k<rc.nodes.length:=by omega
    have hw1:wrap64 ((k:Int)+1)=((k+1:Nat):Int):=by have:=HSM.out;unfold wrap64;omega
    have HW1:=Am_ hw1
    have hir:k<rc.infos.length:=by have:=HGD.out.1;omega
    obtain ⟨okc,s2,hA,hr⟩:=HQ.out.out
    obtain ⟨gN,e1,hcN,hgN⟩:=IB hA.nodes hA.flat1 k b3
    obtain ⟨gI,e2,hcI,hgI⟩:=IB hA.infos hA.flat2 k hir
    rw [KQ rc.nodes rc.infos k b3 hir] at hr
    simp only [iM] at hr
    generalize rc.nodes.getD k 0=x at hcN hgN hr
    generalize rc.infos.getD k 0=i0 at hcI hgI hr
    subst e1 e2
    have HA:=Am_ ((hA.alloc (.cells #[.int .i64 (k:Int)] 3)).alloc (.cells #[.int .i64 x] 45))
    have HBI:=Am_ ((Mine.new hA.task.lt (.cells #[.int .i64 (k:Int)] 3)).alloc (.cells #[.int .i64 x] 45))
    have HBX:=Am_ (Mine.new (hA.alloc (.cells #[.int .i64 (k:Int)] 3)).task.lt (.cells #[.int .i64 x] 45))
    simp only [World.size_alloc] at HBX
    obtain ⟨o,t,hd,hcase⟩:=aN (iX hr)
    have HD:=Am_ hd
    have HCS:=Am_ hcase
    clear hd hcase
    have HIR:=Am_ (And.intro hgI hir)
    clear hA hr HQ hgN hcI hgI hir hw1
    go_upto_region 5 with fail
    clear hcN
    generalize (wr.alloc (.cells #[.int .i64 (k:Int)] 3)).alloc (.cells #[.int .i64 x] 45)=w3 at HA HBI HBX ⊢
    generalize wr.heap.size=bi at HBI HBX ⊢
    generalize bi+1=bx at HBX ⊢
    have c0:=HA.out.task.c0
    go_upto_if 28 with (go_at_call 154;refine (HA.out.task.RB HBX.out HA.out.box_ HBI.out HA.out.num HA.out.infos HIR.out.1 HIR.out.2 HD.out).mono ?_;rintro e wq ⟨⟨okq,hm,hT,he⟩⟩;rcases HCS.out with hw | hw;(obtain ⟨rfl,rfl⟩:=hw;obtain rfl:e= .panicked dK:=he;exact ⟨rfl,⟨⟨okq,hT.moves,hT.run,rfl⟩⟩⟩);obtain ⟨a0,rfl,hr2⟩:=hw;obtain rfl:e= .returned (.bool a0):=he;have HA:=Am_ (HA.out.next hm hT);have HBX:=Am_ (HBX.out.moves hm);have HR2:=Am_ hr2;clear hm hT hr2;clear c0)
    clear HBI HIR HD HCS
    cases a0 with
    | true=>
     have HR3:av (aQ (iM n ((rc.nodes.zip rc.infos).drop (k+1))) (kL n rc) t=some res):=⟨HR2.out⟩
     clear HR2
     go_wp2_with fail
     go_roundg g
     case rel=>exact ⟨k+1,by first | rfl | rw [HW1.out],by omega,⟨⟨_,_,HA.out,HR3.out⟩⟩⟩
     case measure=>omega
    | false=>
     have hr:aQ (aQ (rq x) fun m=>if m=n then iM n ((rc.nodes.zip rc.infos).drop (k+1)) else aQ (EB n) fun b=>if b then dw (some true) else aQ (IE n 0) fun _=>dw (some false)) (kL n rc) t=some res:=HR2.out
     clear HR2
     obtain ⟨o,t,hd,hcase⟩:=aN (iX hr)
     have HD:=Am_ hd
     have HCS:=Am_ hcase
     clear hd hcase
     clear hr
     go_upto_region 6 with fail
     refine bK (n:=6) (S:=fun w'=>w'.cell? ⟨bt,0,none⟩=some (.pointer (some ⟨tb,0,none⟩))∧w'.cell? ⟨bn,0,none⟩=some (.int .i64 n)) (ds:= []) (by kernel_rfl) rfl Jr Ip ⟨HA.out.task.c0,(af HA.out.num.1 0).trans rfl⟩ (fun hHeld HT_ HW_=>?_)
     have HA:=Am_ HA.out.drew
     have HBX:=Am_ (HBX.out.moves (Moves.drew (Moves.refl _ _)))
     generalize World.drew _=w5 at HA HBX hHeld ⊢
     refine gy [(0,some 29),(1,some 30),(2,some 31),(4,some 33)] ?_
     (refine gG (v:=?_) (a':=?_) HT_ (by kernel_rfl) rfl rfl (fun _ _ _ h=>h) (Or.inl ⟨by rfl,?_⟩) ?_ ?_;rotate_left;(intro w';go_simp;with_reducible rfl);rotate_left;(simp only [Act.put,p1_,p2_,p3_,aG,aH];rfl))
     iterate 3 (refine jW (v:=?_) (a':=?_) HT_ HW_ (by kernel_rfl) rfl rfl (fun _ _ _ h=>h) hHeld (Or.inl ⟨by rfl,?_⟩) ?_ ?_;rotate_left;(rintro w' ⟨s0,s1⟩;go_simp;with_reducible rfl);rotate_left;(simp only [Act.put,p1_,p2_,p3_,aG,aH];rfl))
     refine bG ?_
     refine dI (i:=3) (some 32) HT_ (by kernel_rfl) rfl rfl (by decide) (fun K_ hK=>?_)
     refine su 137 #[.pointer (some ⟨tb,0,none⟩),.func (.func 211) #[] #[.pointer (some ⟨bt,0,none⟩),.pointer (some ⟨bx,0,none⟩)]] (by rfl) rfl ?hrun3 ?_
     (case hrun3=>first | (go_simp;done) | (go_simp;exact enters Tryz.func137 (by kernel_rfl) rfl _ _))
     refine (HA.out.task.QZ HBX.out HD.out).mono ?_
     rintro e wq ⟨⟨okq,hm,hT,he⟩⟩
     rcases HCS.out with hw | hw
     ·obtain ⟨rfl,rfl⟩:=hw
      obtain rfl:e= .panicked dK:=he
      exact .inr ⟨dK,rfl,rfl,⟨⟨okq,hT.moves,hT.run,rfl⟩⟩⟩
     obtain ⟨a1,rfl,hr2⟩:=hw
     obtain rfl:e= .returned (.int .i64 a1):=he
     refine .inl ⟨.int .i64 a1,rfl,?_⟩
     have HA:=Am_ (HA.out.next hm hT)
     have HR2:=Am_ hr2
     clear hm hT hr2
     refine hK.out _ _ ⟨HA.out.task.c0,(af HA.out.num.1 0).trans rfl⟩ (fun hHeld=>?_)
     clear hK K_
     refine cK (a':=?_) ?_ ?_
     rotate_left; · show Act.put _ (some 32) _=_;simp only [Act.put,p1_,p2_,p3_,aG,aH];rfl
     refine gy [(5,some 34)] ?_
     (refine gG (v:=?_) (a':=?_) HT_ (by kernel_rfl) rfl rfl (fun _ _ _ h=>h) (Or.inl ⟨by rfl,?_⟩) ?_ ?_;rotate_left;(intro w';go_simp;with_reducible rfl);rotate_left;(simp only [Act.put,p1_,p2_,p3_,aG,aH];rfl))
     refine bG ?_
     refine dR (bM HT_.out (by kernel_rfl)) ?_
     clear HBX HD HCS hHeld
     by_cases hm1:a1=n
     ·have e1:(a1 == n)=true:=by simp [hm1]
      have HR3:av (aQ (iM n ((rc.nodes.zip rc.infos).drop (k+1))) (kL n rc) t=some res):=⟨by have h:=HR2.out;rw [if_pos hm1] at h;exact h⟩
      clear HR2 hm1
      go_wp2_with fail
      go_roundg g
      case rel=>exact ⟨k+1,by first | rfl | rw [HW1.out],by omega,⟨⟨_,_,HA.out,HR3.out⟩⟩⟩
      case measure=>omega
     ·have e1:(a1 == n)=false:=by simpa using hm1
      have hr:aQ (aQ (EB n) fun b=>if b then dw (some true) else aQ (IE n 0) fun _=>dw (some false)) (kL n rc) t=some res:=by have h:=HR2.out;rw [if_neg hm1] at h;exact h
      clear HR2 hm1
      obtain ⟨o,t,hd,hcase⟩:=aN (iX hr)
      have HD:=Am_ hd
      have HCS:=Am_ hcase
      clear hd hcase
      clear hr
      have c0:=HA.out.task.c0
      go_upto_if 38 with (go_at_call 154;refine (HA.out.task.RA HA.out.num HD.out).mono ?_;rintro e wq ⟨⟨okq,hm,hT,he⟩⟩;rcases HCS.out with hw | hw;(obtain ⟨rfl,rfl⟩:=hw;obtain rfl:e= .panicked dK:=he;exact ⟨rfl,⟨⟨okq,hT.moves,hT.run,rfl⟩⟩⟩);obtain ⟨a2,rfl,hr2⟩:=hw;obtain rfl:e= .returned (.bool a2):=he;have HA:=Am_ (HA.out.next hm hT);have HR2:=Am_ hr2;clear hm hT hr2;clear c0)
      clear HD HCS
      cases a2 with
      | true=>
       have HR3:av (dw true t=some res):=⟨HR2.out⟩
       clear HR2
       go_wp2_with fail
       go_ret
       obtain rfl:res=(.ret true,t):=by have h:=HR3.out;injection h with h;exact h.symm
       exact ⟨⟨_,HA.out.task.moves,HA.out.task.run,_,rfl,rfl⟩⟩
      | false=>
       have hr:aQ (aQ (IE n 0) fun _=>dw (some false)) (kL n rc) t=some res:=HR2.out
       clear HR2
       obtain ⟨o,t,hd,hcase⟩:=aN (iX hr)
       have HD:=Am_ hd
       have HCS:=Am_ hcase
       clear hd hcase
       clear hr
       have c0:=HA.out.task.c0
       have c1:=HA.out.task.c1
       have c2:=HA.out.task.c2
       have k0:=(af HA.out.num.1 0).trans (rfl:_=some (Value.int .i64 n))
       go_upto_region 10 with (go_at_call 215;refine (pG p tb work me _ _ _ n 0 HA.out.task.run (o,t) HD.out).mono ?_;rintro e wq ⟨okq,hm,hi,he⟩;rcases HCS.out with hw | hw;(obtain ⟨rfl,rfl⟩:=hw;obtain rfl:e= .panicked dK:=he;exact ⟨rfl,⟨⟨okq,HA.out.task.moves.trans hm,hi,rfl⟩⟩⟩);obtain ⟨_,rfl,hr2⟩:=hw;obtain ⟨_,rfl,rfl⟩:=he;have HA:=Am_ (HA.out.next hm (HA.out.task.next hm hi));have HR3:=Am_ hr2;clear hm hi hr2 c0 c1 c2 k0)
       go_wp2_with fail
       go_ret
       obtain rfl:res=(.ret false,t):=by have h:=HR3.out;injection h with h;exact h.symm
       exact ⟨⟨_,HA.out.task.moves,HA.out.task.run,_,rfl,rfl⟩⟩
structure Sn where
 ref:Int
 info:Int
 node:Nd
 ways:List Int
abbrev kSn:Kd Sn:=Kd.iso (Kd.pair (Kd.int .i64) (Kd.pair (Kd.int .i64) (Kd.pair kNd (Kd.slice 45 (Kd.int .i64))))) (fun s=>(s.ref,s.info,s.node,s.ways))
theorem IQ {w:World} {base:Nat} {ok:Nat→Prop} {s:Sn} {cs:List Value} {v:Value} (h:kNd.M w base ok s.node cs) (hv:(Kd.int .i64).R 45 w base ok v s.ways):kSn.M w base ok s (.int .i64 s.ref:: .int .i64 s.info::(cs++ [v])):=
 ⟨[.int .i64 s.ref],.int .i64 s.info::(cs++ [v]),rfl,rfl,[.int .i64 s.info],cs++ [v],rfl,rfl,cs,[v],rfl,h,⟨v,rfl,hv⟩⟩
def sn0:Sn:=⟨0,0,nd0,[]⟩
def VSn (N:Nat) (a:Sn × Int) (ok:Nat→Prop) (v:Value) (w:World):Prop:= ∃ cs,v= .tuple #[.agg cs.toArray,.int .u8 a.2]∧kSn.M w N (fun k=> ¬ ok k) a.1 cs
def rz (r:Int):Nat→Nat→List Int→Pr Ws (List Int)
 | 0,_,acc=>dw acc
 | m+1,i,acc=>aQ (Jk r (i:Int)) fun x=>rz r m (i+1) (acc++ [x])
def QH (m:Int):Pr Ws (Sn × Int):=aQ (pV m) fun _=>dw (sn0,1)
def zX (r:Int) (first b:Bool):Pr Ws (Sn × Int):=if b && first then dw (sn0,2) else aQ (rq r) fun m=>aQ (tu m) fun st=>if st=1 then QH m else dw (sn0,1)
def sG (n now:Int):Pr Ws Bool:=if now=2 then dw true else if now=1 then pV n else dw false
def Bb (r n:Int) (first:Bool):Pr Ws (Sn × Int):=aQ (tu n) fun now=>aQ (sG n now) (zX r first)
def lT (r n:Int) (first:Bool) (nd:Nd) (ws:List Int):Pr Ws (Sn × Int):=aQ (rq r) fun m=>if m=n then dw (⟨r,n,nd,ws⟩,0) else Bb r n first
def Ql (r n:Int) (first:Bool):Pr Ws (Sn × Int):=aQ (DT r) fun nd=>aQ (rz r nd.ways.length 0 []) (lT r n first nd)
def jl (was:Int) (second:Bool):Bool:=(was == 0) || ((was == 2) && !second)
def yC (r n:Int) (first c:Bool):Pr Ws (Sn × Int):=if c then Ql r n first else Bb r n first
def loadT (r:Int):Pr Ws (Sn × Int):=aQ (markT r) fun first=>aQ (rq r) fun n=>aQ (tu n) fun was=>aQ (markT r) fun second=>yC r n first (jl was second)
structure gU (p tb:Nat) (work:Value) (me:Int) (bt:Nat) (ok:Nat→Prop) (w:World) (r:Int) (bx b4:Nat) (okc:Nat→Prop) (s:TS Ws) (wc:World):Prop where
 task:aX p tb work me bt ok w okc s wc
 box_:Mine okc wc bx (Jb r)
 res:Mine okc wc b4 (.cells #[.int .i64 0,.int .i64 0,.bool false,.bool false,.slice none 0 0,.slice none 0 0,.slice none 0 0,.slice none 0 0] 195 (0,0))
section
variable {p tb:Nat} {work:Value} {me:Int} {bt:Nat} {ok okc ok2:Nat→Prop} {w wc w2:World} {r:Int} {bx b4:Nat} {s s2:TS Ws}
theorem gU.next (h:gU p tb work me bt ok w r bx b4 okc s wc) (m:Moves okc ok2 wc w2) (t:aX p tb work me bt ok w ok2 s2 w2):gU p tb work me bt ok w r bx b4 ok2 s2 w2:=⟨t,h.box_.moves m,h.res.moves m⟩
theorem gU.below (h:gU p tb work me bt ok w r bx b4 okc s wc) (b:Below wc.heap.size wc w2):gU p tb work me bt ok w r bx b4 okc s w2:=h.next (Moves.bV _ b) (h.task.below b)
theorem gU.alloc (h:gU p tb work me bt ok w r bx b4 okc s wc) (o:Obj):gU p tb work me bt ok w r bx b4 okc s (wc.alloc o):=h.below (ai (Below.refl _ _) o)
theorem gU.drew (h:gU p tb work me bt ok w r bx b4 okc s wc):gU p tb work me bt ok w r bx b4 okc s wc.drew:=h.below (cZ (Below.refl _ _))
theorem aX.QK (h:aX p tb work me bt ok w okc s wc) (r:Int) {pA:Nat} (hp:wc.cell? ⟨p,0,none⟩=some (.pointer (some ⟨pA,0,none⟩))):
  Calls Tryz.prog 126 #[.pointer (some ⟨pA,0,none⟩),.int .i64 r] wc fun e w1=> ∃ v ok1,e= .returned v∧Oi wc.heap.size (s.sh.ar.look r).1 v w1∧aX p tb work me bt ok w ok1 { s with sh:= { s.sh with ar:=(s.sh.ar.look r).2 } } w1∧Moves okc ok1 wc w1∧(∀ k,ok1 k→okc k)∧w1.cell? ⟨p,0,none⟩=some (.pointer (some ⟨pA,0,none⟩)):=by
 obtain ⟨okS,hk,⟨⟨okA,okR,okE,pA1,pR,pE,hw⟩,hg⟩,hd⟩:=h.run.direct
 have h1:=(af hw.box 0).symm.trans hp
 injection h1 with h1
 injection h1 with h1
 injection h1 with h1
 injection h1 with h1
 subst h1
 refine (mM r wc hw.ar hg.ar.fits).mono ?_
 rintro e w1 ⟨⟨v,rfl,hv⟩,ha,hm⟩
 obtain ⟨h1,h2⟩:=hw.bJ ha hm
 obtain ⟨ok1,h3,h4,h5⟩:=hd _ _ w1 ⟨⟨_,_,_,_,_,_,h1⟩,⟨hg.ar.look r,hg.ep,hg.tb⟩⟩ h2
 exact ⟨v,ok1,rfl,hv,h.next h4 h3,h4,fun k hk1=>(h5 k hk1).elim id (fun h6=>hk k ((hw.ok k).2 h6)),(af h1.box 0).trans rfl⟩
theorem aX.pA (h:aX p tb work me bt ok w okc s wc): ∃ pA,wc.cell? ⟨p,0,none⟩=some (.pointer (some ⟨pA,0,none⟩)):=by
 obtain ⟨_,_,⟨⟨_,_,_,pA,_,_,hw⟩,_⟩,_⟩:=h.run.direct
 exact ⟨pA,(af hw.box 0).trans rfl⟩
end
structure Cg (p tb:Nat) (work:Value) (me:Int) (bt:Nat) (ok:Nat→Prop) (w:World) (r:Int) (bx b4:Nat) (rest:Pr Ws (Sn × Int)) (res:Out (Sn × Int) × TS Ws) (wc:World):Prop where
 out: ∃ okc s,gU p tb work me bt ok w r bx b4 okc s wc∧rest s=some res
def Fr (okc D:Nat→Prop) (k:Nat):Prop:= ¬ okc k∧D k
theorem iy {α:Type} {d:Kd α} {e N:Nat} {okc ok2 D:Nat→Prop} {wc w2:World} {v:Value} {xs:List α} (h:d.R e wc N (Fr okc D) v xs) (m:Moves okc ok2 wc w2):d.R e w2 N (Fr ok2 D) v xs:=
 Kd.bC (Kd.dG (Kd.bR h) (fun k hk hlt=>m.block k hlt hk.1.1)) (fun k hk=>⟨fun h1=>(m.fresh k h1).elim hk.1.1 (fun h2=>by have:=hk.2.2.1;omega),hk.1.2⟩)
theorem jF {α:Type} {d:Kd α} {e N:Nat} {okc D:Nat→Prop} {wc w2:World} {v:Value} {xs:List α} (h:d.R e wc N (Fr okc D) v xs) (g:Nat) (hg: ∀ k,D k→k≠g) (hb: ∀ k,k≠g→w2.heap[k]?=wc.heap[k]?):d.R e w2 N (Fr okc D) v xs:=
 Kd.dG h (fun k hk _=>hb k (hg k hk.2))
section
variable {p tb:Nat} {work:Value} {me:Int} {bt:Nat} {ok okc ok2:Nat→Prop} {w wc w2:World} {r n:Int} {bx b4 b10 N:Nat} {s s2:TS Ws} {nd:Nd} {bs:List Nat} {ws:List Int}
theorem aX.grown (h:aX p tb work me bt ok w okc s wc) {row:Option Nat} (hg:wc.grownBy w2 row) (hr: ∀ k,row=some k→ ¬ okc k∧w.heap.size≤k∧k≠bt):aX p tb work me bt ok w okc s w2:=
 ⟨h.run.step (bg p) hg.size (fun k hk hlt=>hg.block k hlt (fun e=>(hr k e.symm).1 hk)),h.moves.grown hg (fun k e=> .inr (hr k e).2.1),⟨(hg.block bt h.box.lt (fun e=>(hr bt e.symm).2.2 rfl)).trans h.box.1,h.box.2⟩⟩
theorem Mine.grown {g:Nat} {o:Obj} (h:Mine okc wc g o) {row:Option Nat} (hg:wc.grownBy w2 row) (hr: ∀ k,row=some k→k≠g):Mine okc w2 g o:=⟨bS h.1 hg (fun e=>hr g e.symm rfl),h.2⟩
theorem gU.grown (h:gU p tb work me bt ok w r bx b4 okc s wc) {row:Option Nat} (hg:wc.grownBy w2 row) (hr: ∀ k,row=some k→ ¬ okc k∧w.heap.size≤k∧k≠bt∧k≠bx∧k≠b4):gU p tb work me bt ok w r bx b4 okc s w2:=
 ⟨h.task.grown hg (fun k e=>⟨(hr k e).1,(hr k e).2.1,(hr k e).2.2.1⟩),Mine.grown h.box_ hg (fun k e=>(hr k e).2.2.2.1),Mine.grown h.res hg (fun k e=>(hr k e).2.2.2.2)⟩
theorem gU.set (h:gU p tb work me bt ok w r bx b4 okc s wc) {q:Addr} (hn: ¬ okc q.block) (hw:w.heap.size≤q.block) (h1:q.block≠bt) (h2:q.block≠bx) (h3:q.block≠b4) (u:Value):gU p tb work me bt ok w r bx b4 okc s (wc.setCell q u):=
 ⟨h.task.set hn hw h1 u,h.box_.far h2 u,h.res.far h3 u⟩
theorem gU.setCells (h:gU p tb work me bt ok w r bx b4 okc s wc) {q:Nat} (hn: ¬ okc q) (hw:w.heap.size≤q) (h1:q≠bt) (h2:q≠bx) (h3:q≠b4) (seg:List Value):gU p tb work me bt ok w r bx b4 okc s (wc.setCells q 0 seg):=
 ⟨h.task.setCells hn hw h1 seg,⟨(bq seg 0 bx (fun e=>h2 e.symm)).trans h.box_.1,h.box_.2⟩,⟨(bq seg 0 b4 (fun e=>h3 e.symm)).trans h.res.1,h.res.2⟩⟩
structure pK (N:Nat) (r n:Int) (nd:Nd) (bs:List Nat) (b10:Nat) (Ap:Option Addr) (cp:Nat) (Ak:Option Addr) (ck:Nat) (Ay:Option Addr) (cy:Nat) (okc:Nat→Prop) (Aw:Option Addr) (cw:Nat) (ws:List Int) (wc:World):Prop where
 box:Mine okc wc b10 (.cells #[.int .i64 r,.int .i64 n,.bool nd.inner,.bool nd.tagged,.slice Ap nd.pairs.length cp,.slice Ak nd.keys.length ck,.slice Ay nd.ways.length cy,.slice Aw ws.length cw] 195 (0,0))
 prs:eT.R 121 wc N (Fr okc (fun q=>q∉bs∧some q≠(Value.slice Aw ws.length cw).ownBlock)) (.slice Ap nd.pairs.length cp) nd.pairs
 keys:(Kd.int .i64).R 2 wc N (Fr okc (fun q=>q∉bs∧some q≠(Value.slice Aw ws.length cw).ownBlock)) (.slice Ak nd.keys.length ck) nd.keys
 ways:(Kd.int .i64).R 45 wc N (Fr okc (fun q=>q∉bs∧some q≠(Value.slice Aw ws.length cw).ownBlock)) (.slice Ay nd.ways.length cy) nd.ways
 row:(Kd.int .i64).R 45 wc N (Fr okc (fun q=>q∉bs)) (.slice Aw ws.length cw) ws
variable {Ap Ak Ay Aw:Option Addr} {cp ck cy cw:Nat}
theorem pK.moves (h:pK N r n nd bs b10 Ap cp Ak ck Ay cy okc Aw cw ws wc) (m:Moves okc ok2 wc w2):pK N r n nd bs b10 Ap cp Ak ck Ay cy ok2 Aw cw ws w2:=⟨h.box.moves m,iy h.prs m,iy h.keys m,iy h.ways m,iy h.row m⟩
theorem pK.push (h:pK N r n nd bs b10 Ap cp Ak ck Ay cy okc Aw cw ws wc) (hb:b10∈bs) {x:Int} {A1:Option Addr} {c1:Nat} (hR:(Kd.int .i64).R 45 w2 N (Fr okc (fun q=>q∉bs)) (.slice A1 (ws++ [x]).length c1) (ws++ [x])) (hg:wc.grownBy w2 (Value.slice Aw ws.length cw).ownBlock) (hat:(Value.slice A1 (ws++ [x]).length c1).ownBlock=(Value.slice Aw ws.length cw).ownBlock∨ ∃ b,(Value.slice A1 (ws++ [x]).length c1).ownBlock=some b∧wc.heap.size≤b):
  pK N r n nd bs b10 Ap cp Ak ck Ay cy okc A1 c1 (ws++ [x]) (w2.setCell ⟨b10,7,none⟩ (.slice A1 (ws++ [x]).length c1)):=by
 have far: ∀ k,k≠b10→(w2.setCell ⟨b10,7,none⟩ (.slice A1 (ws++ [x]).length c1)).heap[k]?=w2.heap[k]?:=fun k hk=>Below.heap_setCell _ ⟨b10,7,none⟩ _ k hk
 have ne1: ∀ k,k∉bs→k≠b10:=fun k hk e=>hk (e▸hb)
 refine ⟨?_,?_,?_,?_,?_⟩
 ·exact Mine.set (Mine.grown h.box hg (fun k e=>ne1 k (h.row.1 k e).2)) 7 (.slice A1 (ws++ [x]).length c1)
 ·exact jF (D:=fun q=>q∉bs∧some q≠(Value.slice A1 (ws++ [x]).length c1).ownBlock) (Kd.bC (Kd.AU (Kd.bC (ok':=fun k=>Fr okc (fun q=>q∉bs) k∧some k≠(Value.slice Aw ws.length cw).ownBlock) h.prs (fun k hk=>⟨⟨hk.1,hk.2.1⟩,hk.2.2⟩)) hg hat) (fun k hk=>⟨hk.1.1,hk.1.2,hk.2⟩)) b10 (fun k hk=>ne1 k hk.1) far
 ·exact jF (D:=fun q=>q∉bs∧some q≠(Value.slice A1 (ws++ [x]).length c1).ownBlock) (Kd.bC (Kd.AU (Kd.bC (ok':=fun k=>Fr okc (fun q=>q∉bs) k∧some k≠(Value.slice Aw ws.length cw).ownBlock) h.keys (fun k hk=>⟨⟨hk.1,hk.2.1⟩,hk.2.2⟩)) hg hat) (fun k hk=>⟨hk.1.1,hk.1.2,hk.2⟩)) b10 (fun k hk=>ne1 k hk.1) far
 ·exact jF (D:=fun q=>q∉bs∧some q≠(Value.slice A1 (ws++ [x]).length c1).ownBlock) (Kd.bC (Kd.AU (Kd.bC (ok':=fun k=>Fr okc (fun q=>q∉bs) k∧some k≠(Value.slice Aw ws.length cw).ownBlock) h.ways (fun k hk=>⟨⟨hk.1,hk.2.1⟩,hk.2.2⟩)) hg hat) (fun k hk=>⟨hk.1.1,hk.1.2,hk.2⟩)) b10 (fun k hk=>ne1 k hk.1) far
 ·exact jF hR b10 ne1 far
theorem pK.start (hp:eT.R 121 wc N (Fr okc (fun q=>q∉bs)) (.slice Ap nd.pairs.length cp) nd.pairs) (hk:(Kd.int .i64).R 2 wc N (Fr okc (fun q=>q∉bs)) (.slice Ak nd.keys.length ck) nd.keys) (hy:(Kd.int .i64).R 45 wc N (Fr okc (fun q=>q∉bs)) (.slice Ay nd.ways.length cy) nd.ways)
  {cur:Array Value} (hB:Mine okc wc b10 (.cells cur 195 (0,0))) (hl:cur.size=8) (hb:b10∈bs):
  pK N r n nd bs b10 Ap cp Ak ck Ay cy okc none 0 [] (wc.setCells b10 0 [.int .i64 r,.int .i64 n,.bool nd.inner,.bool nd.tagged,.slice Ap nd.pairs.length cp,.slice Ak nd.keys.length ck,.slice Ay nd.ways.length cy,.slice none 0 0]):=by
 have ne1: ∀ k,k∉bs∧some k≠(Value.slice none ([]:List Int).length 0).ownBlock→k≠b10:=fun k hk e=>hk.1 (e▸hb)
 have far: ∀ k,k≠b10→(wc.setCells b10 0 [.int .i64 r,.int .i64 n,.bool nd.inner,.bool nd.tagged,.slice Ap nd.pairs.length cp,.slice Ak nd.keys.length ck,.slice Ay nd.ways.length cy,.slice none 0 0]).heap[k]?=wc.heap[k]?:=fun k hk=>bq _ 0 k hk
 have up: ∀ k,Fr okc (fun q=>q∉bs) k→Fr okc (fun q=>q∉bs∧some q≠(Value.slice none ([]:List Int).length 0).ownBlock) k:=fun k hk=>⟨hk.1,hk.2,fun e=>by cases e⟩
 exact ⟨⟨gq hB.1 hl,hB.2⟩,jF (Kd.bC hp up) b10 ne1 far,jF (Kd.bC hk up) b10 ne1 far,jF (Kd.bC hy up) b10 ne1 far,Kd.gY _ _ _ _ _⟩
theorem pK.kSn (h:pK N r n nd bs b10 Ap cp Ak ck Ay cy okc Aw cw ws wc) (g:Nat) (hg:g∈bs) (hb: ∀ k,k≠g→w2.heap[k]?=wc.heap[k]?):kSn.M w2 N (fun k=> ¬ okc k) ⟨r,n,nd,ws⟩ [.int .i64 r,.int .i64 n,.bool nd.inner,.bool nd.tagged,.slice Ap nd.pairs.length cp,.slice Ak nd.keys.length ck,.slice Ay nd.ways.length cy,.slice Aw ws.length cw]:=
 IQ (s:=⟨r,n,nd,ws⟩) (Ec (n:=nd) (Kd.bC (jF h.prs g (fun k hk e=>hk.1 (e▸hg)) hb) (fun k hk=>hk.1)) (Kd.bC (jF h.keys g (fun k hk e=>hk.1 (e▸hg)) hb) (fun k hk=>hk.1)) (Kd.bC (jF h.ways g (fun k hk e=>hk.1 (e▸hg)) hb) (fun k hk=>hk.1))) (Kd.bC (jF h.row g (fun k hk e=>hk (e▸hg)) hb) (fun k hk=>hk.1))
structure MX (p tb:Nat) (work:Value) (me:Int) (bt:Nat) (ok:Nat→Prop) (w:World) (pA:Nat) (okc:Nat→Prop) (wc:World) (nd:Nd) (s2:TS Ws) (e:Ending) (w1:World):Prop where
 out: ∃ Ap cp Ak ck Ay cy ok1,e= .returned (.agg #[.bool nd.inner,.bool nd.tagged,.slice Ap nd.pairs.length cp,.slice Ak nd.keys.length ck,.slice Ay nd.ways.length cy])∧(∀ bs:List Nat,(∀ q∈bs,q<wc.heap.size∨w1.heap.size≤q)→ ∀ N,N≤wc.heap.size→eT.R 121 w1 N (Fr ok1 (fun q=>q∉bs)) (.slice Ap nd.pairs.length cp) nd.pairs∧(Kd.int .i64).R 2 w1 N (Fr ok1 (fun q=>q∉bs)) (.slice Ak nd.keys.length ck) nd.keys∧(Kd.int .i64).R 45 w1 N (Fr ok1 (fun q=>q∉bs)) (.slice Ay nd.ways.length cy) nd.ways)∧aX p tb work me bt ok w ok1 s2 w1∧Moves okc ok1 wc w1∧w1.cell? ⟨p,0,none⟩=some (.pointer (some ⟨pA,0,none⟩))
theorem aX.LD (h:aX p tb work me bt ok w okc s wc) {pA:Nat} (hp:wc.cell? ⟨p,0,none⟩=some (.pointer (some ⟨pA,0,none⟩))) (hnd:(s.sh.ar.look r).1=nd) (hs2:({ s with sh:= { s.sh with ar:=(s.sh.ar.look r).2 } }:TS Ws)=s2):
  Calls Tryz.prog 126 #[.pointer (some ⟨pA,0,none⟩),.int .i64 r] wc (MX p tb work me bt ok w pA okc wc nd s2):=by
 refine (h.QK r hp).mono ?_
 rintro e w1 ⟨v,ok1,rfl,hv,ht,hm,hk,hc⟩
 rw [hnd] at hv
 rw [hs2] at ht
 obtain ⟨vp,vk,vy,rfl,h1,h2,h3⟩:=hv.out
 obtain ⟨Ap,cp,rfl⟩:=Kd.aW h1
 obtain ⟨Ak,ck,rfl⟩:=Kd.aW h2
 obtain ⟨Ay,cy,rfl⟩:=Kd.aW h3
 have hlt:=h.lt
 have up: ∀ bs:List Nat,(∀ q∈bs,q<wc.heap.size∨w1.heap.size≤q)→ ∀ k,wc.heap.size≤k→k<w1.heap.size→Fr ok1 (fun q=>q∉bs) k:=fun bs hb k h1 h2=>⟨fun h3=>by have:=hlt k (hk k h3);omega,fun h3=>by have:=hb k h3;omega⟩
 exact ⟨Ap,cp,Ak,ck,Ay,cy,ok1,rfl,fun bs hb N hN=>⟨Kd.eF (Kd.bC (Kd.bR h1) (fun k hk=>up bs hb k hk.2.1 hk.2.2.1)) hN,Kd.eF (Kd.bC (Kd.bR h2) (fun k hk=>up bs hb k hk.2.1 hk.2.2.1)) hN,Kd.eF (Kd.bC (Kd.bR h3) (fun k hk=>up bs hb k hk.2.1 hk.2.2.1)) hN⟩,ht,hm,hc⟩
end
structure Gv (p tb:Nat) (work:Value) (me:Int) (bt:Nat) (ok:Nat→Prop) (w:World) (r n:Int) (bx b4 b10:Nat) (nd:Nd) (j:Nat) (rest:List Int→Pr Ws (Sn × Int)) (res:Out (Sn × Int) × TS Ws) (wc:World):Prop where
 out: ∃ okc s Ap cp Ak ck Ay cy Aw cw ws,gU p tb work me bt ok w r bx b4 okc s wc∧pK w.heap.size r n nd [bt,bx,b4,b10] b10 Ap cp Ak ck Ay cy okc Aw cw ws wc∧ws.length=j∧rest ws s=some res
def GA:Bool × List (List Nat × List Nat):=(true,[([],[]),([],[]),([],[]),([2],[2]),([3],[3]),([4],[4]),([5],[5]),([],[]),([6,7],[6,7]),([0,1,8],[0,1,8]),([],[]),([10,9,8,0,1,2,3,4,5,6,7,8,9,10],[9,10])])
def ME:List Nat:= [0,0,0,4,12,28,60,0,252,511,0,2047]
theorem EW:gJ .any (opsOf Tryz.f167 6)=GA:=by kernel_rfl
theorem DV:bI GA.2 ME=true:=by kernel_rfl
def BS:Bool × List (List Nat × List Nat):=(true,[([],[]),([0],[0]),([],[]),([2],[2]),([],[]),([3,4],[3,4]),([5],[5]),([1,6,5],[1,6]),([0,1,2,3,4,5,6,7],[]),([8,7,7,0,1,2,3,4,5,6,7],[7,8])])
def JN:List Nat:= [0,1,0,4,0,28,60,127,255,511]
theorem Dt:gJ .any (opsOf Tryz.f167 10)=BS:=by kernel_rfl
theorem Bd:bI BS.2 JN=true:=by kernel_rfl
theorem Dv (p tb:Nat) (work:Value) (me r:Int) (ok:Nat→Prop) (s:TS Ws) (w:World) (h:dU (shW p) tb work ok s w) (res:Out (Sn × Int) × TS Ws) (hr:loadT r s=some res):
  Calls Tryz.prog 167 #[eu tb p me,.int .i64 r] w (gH (shW p) tb work (VSn w.heap.size) ok w res):=by
 have HTV:eu tb p me= .agg #[.pointer (some ⟨tb,0,none⟩),.pointer (some ⟨p,0,none⟩),.int .i64 me]:=rfl
 rw [HTV]
 unfold loadT at hr
 obtain ⟨o,t,hd,hcase⟩:=aN hr
 have HD:=Am_ hd
 have HCS:=Am_ hcase
 clear hd hcase
 have h0:=aX.enter (me:=me) h
 unfold fZ at h0
 have HA:av (gU p tb work me w.heap.size ok w r (w.heap.size+1) (w.heap.size+1+1) ok s (((w.alloc (.cells #[.pointer (some ⟨tb,0,none⟩),.pointer (some ⟨p,0,none⟩),.int .i64 me] 114)).alloc (.cells #[.int .i64 r] 45)).alloc (.cells #[.int .i64 0,.int .i64 0,.bool false,.bool false,.slice none 0 0,.slice none 0 0,.slice none 0 0,.slice none 0 0] 195))):=⟨{
  task:=(h0.alloc (.cells #[.int .i64 r] 45)).alloc (.cells #[.int .i64 0,.int .i64 0,.bool false,.bool false,.slice none 0 0,.slice none 0 0,.slice none 0 0,.slice none 0 0] 195)
  box_:=by
   have h1:=(Mine.new h0.lt (.cells #[.int .i64 r] 45)).alloc (.cells #[.int .i64 0,.int .i64 0,.bool false,.bool false,.slice none 0 0,.slice none 0 0,.slice none 0 0,.slice none 0 0] 195)
   simp only [World.size_alloc] at h1
   exact h1
  res:=by
   have h1:=Mine.new (h0.alloc (.cells #[.int .i64 r] 45)).lt (.cells #[.int .i64 0,.int .i64 0,.bool false,.bool false,.slice none 0 0,.slice none 0 0,.slice none 0 0,.slice none 0 0] 195)
   simp only [World.size_alloc] at h1
   exact h1 }⟩
 clear h h0 hr HTV
 go_enter Tryz.func167,Tryz.ntmps167
 go_upto_region 1 with fail
 generalize ((w.alloc (.cells #[.pointer (some ⟨tb,0,none⟩),.pointer (some ⟨p,0,none⟩),.int .i64 me] 114)).alloc (.cells #[.int .i64 r] 45)).alloc (.cells #[.int .i64 0,.int .i64 0,.bool false,.bool false,.slice none 0 0,.slice none 0 0,.slice none 0 0,.slice none 0 0] 195)=w1 at HA ⊢
 generalize hbb:w.heap.size=bt at HA ⊢
 have HW0:=Am_ hbb
 clear hbb
 generalize hbx:bt+1=bx at HA ⊢
 generalize hb4:bx+1=b4 at HA ⊢
 have HN4:av (bt<bx∧bx<b4∧w.heap.size=bt):=⟨by have:=HW0.out;omega⟩
 clear hbx hb4 HW0
 have c0:=HA.out.task.c0
 have c1:=HA.out.task.c1
 have c2:=HA.out.task.c2
 have k0:=(af HA.out.box_.1 0).trans (rfl:_=some (Value.int .i64 r))
 go_upto_region 2 with (go_at_call 199;refine (rQ p tb work me _ _ _ r HA.out.task.run (o,t) HD.out).mono ?_;rintro e wq ⟨okq,hm,hi,he⟩;rcases HCS.out with hw | hw;(obtain ⟨rfl,rfl⟩:=hw;obtain rfl:e= .panicked dK:=he;exact ⟨rfl,⟨⟨okq,HA.out.task.moves.trans hm,hi,rfl⟩⟩⟩);obtain ⟨first,rfl,hr2⟩:=hw;obtain ⟨_,rfl,rfl⟩:=he;clear k0;have HA:=Am_ (HA.out.next hm (HA.out.task.next hm hi));have HR2:=Am_ hr2;clear hm hi hr2 c0 c1 c2)
 have hr:=HR2.out
 clear HR2 HD HCS
 obtain ⟨o,t,hd,hcase⟩:=aN hr
 have HD:=Am_ hd
 have HCS:=Am_ hcase
 clear hd hcase
 clear hr
 have c0:=HA.out.task.c0
 have c1:=HA.out.task.c1
 have c2:=HA.out.task.c2
 have k0:=(af HA.out.box_.1 0).trans (rfl:_=some (Value.int .i64 r))
 go_upto_region 3 with (go_at_call 200;refine (nL p tb work me _ _ _ r HA.out.task.run (o,t) HD.out).mono ?_;rintro e wq ⟨okq,hm,hi,he⟩;rcases HCS.out with hw | hw;(obtain ⟨rfl,rfl⟩:=hw;obtain rfl:e= .panicked dK:=he;exact ⟨rfl,⟨⟨okq,HA.out.task.moves.trans hm,hi,rfl⟩⟩⟩);obtain ⟨n,rfl,hr2⟩:=hw;obtain ⟨_,rfl,rfl⟩:=he;clear k0;have HA:=Am_ (HA.out.next hm (HA.out.task.next hm hi));have HR2:=Am_ hr2;clear hm hi hr2 c0 c1 c2)
 have hr:=HR2.out
 clear HR2 HD HCS
 obtain ⟨o,t,hd,hcase⟩:=aN hr
 have HD:=Am_ hd
 have HCS:=Am_ hcase
 clear hd hcase
 clear hr
 have c0:=HA.out.task.c0
 have c1:=HA.out.task.c1
 have c2:=HA.out.task.c2
 go_upto_region 4 with (go_at_call 201;refine (mo p tb work me _ _ _ n HA.out.task.run (o,t) HD.out).mono ?_;rintro e wq ⟨okq,hm,hi,he⟩;rcases HCS.out with hw | hw;(obtain ⟨rfl,rfl⟩:=hw;obtain rfl:e= .panicked dK:=he;exact ⟨rfl,⟨⟨okq,HA.out.task.moves.trans hm,hi,rfl⟩⟩⟩);obtain ⟨was,rfl,hr2⟩:=hw;obtain ⟨_,rfl,rfl⟩:=he;have HA:=Am_ (HA.out.next hm (HA.out.task.next hm hi));have HR2:=Am_ hr2;clear hm hi hr2 c0 c1 c2)
 have hr:=HR2.out
 clear HR2 HD HCS
 obtain ⟨o,t,hd,hcase⟩:=aN hr
 have HD:=Am_ hd
 have HCS:=Am_ hcase
 clear hd hcase
 clear hr
 have c0:=HA.out.task.c0
 have c1:=HA.out.task.c1
 have c2:=HA.out.task.c2
 have k0:=(af HA.out.box_.1 0).trans (rfl:_=some (Value.int .i64 r))
 go_upto_region 5 with (go_at_call 199;refine (rQ p tb work me _ _ _ r HA.out.task.run (o,t) HD.out).mono ?_;rintro e wq ⟨okq,hm,hi,he⟩;rcases HCS.out with hw | hw;(obtain ⟨rfl,rfl⟩:=hw;obtain rfl:e= .panicked dK:=he;exact ⟨rfl,⟨⟨okq,HA.out.task.moves.trans hm,hi,rfl⟩⟩⟩);obtain ⟨second,rfl,hr2⟩:=hw;obtain ⟨_,rfl,rfl⟩:=he;clear k0;have HA:=Am_ (HA.out.next hm (HA.out.task.next hm hi));have HR2:=Am_ hr2;clear hm hi hr2 c0 c1 c2)
 have HL0:av (Cg p tb work me bt ok w r bx b4 (yC r n first (jl was second)) res wq):=⟨⟨_,_,HA.out,HR2.out⟩⟩
 clear HA HR2 HD HCS
 go_cut [35] from 8 (fun v35 wc=>v35= .bool (jl was second)∧av (Cg p tb work me bt ok w r bx b4 (yC r n first (jl was second)) res wc))
 case first=>
  have HLC:av (jl was second=((was == 0) || ((was == 2) && !second))):=⟨rfl⟩
  cases e0:(was == 0)<;>cases e2:(was == 2)<;>cases second<;>(rw [e0,e2] at HLC;go_wp2_with fail;go_meet;first | (case rel=>exact ⟨by rw [HLC.out];rfl,HL0⟩) | exact ⟨by rw [HLC.out];rfl,HL0⟩)
 case rest=>
 obtain ⟨rfl,HL⟩:=hcut
 clear HL0
 generalize jl was second=c at HL ⊢
 go_upto_if 35 with fail
 go_cut [] from 8 (fun wc=>av (Cg p tb work me bt ok w r bx b4 (Bb r n first) res wc))
 case first=>
  cases c with
  | false=>
   go_wp2_with fail
   go_meet
   case rel=>exact ⟨⟨HL.out.out⟩⟩
  | true=>
   obtain ⟨okc,s1,hA,hr⟩:=HL.out.out
   have hr:aQ (rz r (s1.sh.ar.look r).1.ways.length 0 []) (lT r n first (s1.sh.ar.look r).1) { s1 with sh:= { s1.sh with ar:=(s1.sh.ar.look r).2 } }=some res:=hr
   have hsm:=(hA.task.run.good.ar.qF r).ways
   generalize hnd:(s1.sh.ar.look r).1=nd at hr hsm
   generalize hs2:({ s1 with sh:= { s1.sh with ar:=(s1.sh.ar.look r).2 } }:TS Ws)=s2 at hr
   have HA:=Am_ hA
   have HR:=Am_ hr
   have HND:=Am_ hnd
   have HS2:=Am_ hs2
   have HSM:=Am_ hsm
   clear hA hr hnd hs2 hsm HL
   go_upto_region 6 with fail
   go_cut [10] from 36 (fun v10 wc=> ∃ b10,v10= .pointer (some ⟨b10,0,none⟩)∧av (w.heap.size≤b10∧b10≠bt∧b10≠bx∧b10≠b4)∧av (Gv p tb work me bt ok w r n bx b4 b10 nd 0 (fun ws=>aQ (rz r nd.ways.length 0 ws) (lT r n first nd)) res wc))
   case first=>
    obtain ⟨pA,hpA⟩:=HA.out.task.pA
    have HC:=Am_ (And.intro HA.out.task.c1 (And.intro hpA ((af HA.out.box_.1 0).trans (rfl:_=some (Value.int .i64 r)))))
    clear hpA
    refine bK (n:=12) (S:=fun w'=>w'.cell? ⟨bt,1,none⟩=some (.pointer (some ⟨p,0,none⟩))∧w'.cell? ⟨p,0,none⟩=some (.pointer (some ⟨pA,0,none⟩))∧w'.cell? ⟨bx,0,none⟩=some (.int .i64 r)) (ds:= [11]) (by kernel_rfl) rfl EW DV HC.out (fun hHeld HT_ HW_=>?_)
    have HA:=Am_ HA.out.drew
    clear HC
    generalize World.drew _=w1 at HA hHeld ⊢
    refine gy [(0,some 36),(1,some 37),(2,some 38),(3,some 39),(4,some 40),(5,some 41),(6,some 42),(7,some 43)] ?_
    iterate 8 (refine jW (v:=?_) (a':=?_) HT_ HW_ (by kernel_rfl) rfl rfl (fun _ _ _ h=>h) hHeld (Or.inl ⟨by rfl,?_⟩) ?_ ?_;rotate_left;(rintro w' ⟨s0,s1,s2⟩;go_simp;with_reducible rfl);rotate_left;(simp only [Act.put,p1_,p2_,p3_,aG,aH];rfl))
    refine bG ?_
    refine Nn (i:=8) (j:=10) (Ni:=some 44) (Nj:=some 10) #[Y_,Y_,Y_,Y_,Y_,Y_,Y_,Y_,Y_,N_,N_,N_] #[Y_,Y_,Y_,Y_,Y_,Y_,Y_,Y_,N_,N_,Y_,N_] rfl rfl rfl rfl (by kernel_rfl) (fun K_ hK=>?_) (fun K_ hK=>?_)
    ·refine call_ 126 #[.pointer (some ⟨pA,0,none⟩),.int .i64 r] (by rfl) rfl ?hk8 ?_
     (case hk8=>first | (go_simp;done) | (go_simp;exact enters Tryz.func126 (by kernel_rfl) rfl _ _))
     refine (HA.out.task.LD hHeld.2.1 HND.out HS2.out).mono ?_
     rintro e w2 hE
     obtain ⟨Ap,cp,Ak,ck,Ay,cy,ok1,rfl,hrows,ht,hm,hc⟩:=hE.out
     refine ⟨_,rfl,?_⟩
     have hHeld:(_∧_∧_):=⟨ht.c1,hc,(af (HA.out.box_.moves hm).1 0).trans (rfl:_=some (Value.int .i64 r))⟩
     refine hK.out _ _ (fun _ _=>hHeld) ?_
     clear hK K_
     refine cK (a':=?_) ?_ ?_
     rotate_left; · show Act.put _ (some 44) _=_;simp only [Act.put,p1_,p2_,p3_,aG,aH];rfl
     refine gy [(9,some 45)] ?_
     (refine gG (v:=?_) (a':=?_) HT_ (by kernel_rfl) rfl rfl (fun _ _ _ h=>h) (Or.inl ⟨by rfl,?_⟩) ?_ ?_;rotate_left;(intro w';go_simp;with_reducible rfl);rotate_left;(simp only [Act.put,p1_,p2_,p3_,aG,aH];rfl))
     refine bG ?_
     refine dI (i:=10) (some 10) HT_ (by kernel_rfl) rfl rfl (by decide) (fun K_ hK=>?_)
     refine jD (v:= .pointer (some ⟨w2.heap.size,0,none⟩)) (w1:=w2.alloc (.cells #[.int .i64 0,.int .i64 0,.bool false,.bool false,.slice none 0 0,.slice none 0 0,.slice none 0 0,.slice none 0 0] 195)) (by rfl) rfl ?ha10 ?_
     (case ha10=>go_simp;first | done | rfl)
     refine hK.out _ _ ⟨aD (ai (Below.refl _ _) _) hHeld.1,aD (ai (Below.refl _ _) _) hHeld.2.1,aD (ai (Below.refl _ _) _) hHeld.2.2⟩ (fun hHeld=>?_)
     clear hK K_
     refine cK (a':=?_) ?_ ?_
     rotate_left; · show Act.put _ (some 10) _=_;simp only [Act.put,p1_,p2_,p3_,aG,aH];rfl
     have HA2:=Am_ (HA.out.next hm ht)
     have HA3:=Am_ (HA2.out.alloc (.cells #[.int .i64 0,.int .i64 0,.bool false,.bool false,.slice none 0 0,.slice none 0 0,.slice none 0 0,.slice none 0 0] 195))
     have HB:=Am_ (Mine.new ht.lt (.cells #[.int .i64 0,.int .i64 0,.bool false,.bool false,.slice none 0 0,.slice none 0 0,.slice none 0 0,.slice none 0 0] 195))
     have HNE:av (w.heap.size≤w2.heap.size∧w2.heap.size≠bt∧w2.heap.size≠bx∧w2.heap.size≠b4):=⟨by have:=ht.moves.size;have:=ht.box.lt;have:=HA2.out.box_.lt;have:=HA2.out.res.lt;omega⟩
     have hN:=HA.out.task.moves.size
     have hl1:=HA.out.task.box.lt
     have hl2:=HA.out.box_.lt
     have hl3:=HA.out.res.lt
     obtain ⟨h1,h2,h3⟩:=hrows [bt,bx,b4,w2.heap.size] (by intro q hq;simp only [List.mem_cons,List.not_mem_nil,or_false] at hq;omega) w.heap.size hN
     have HRW:=Am_ (And.intro (Kd.dD h1 (.cells #[.int .i64 0,.int .i64 0,.bool false,.bool false,.slice none 0 0,.slice none 0 0,.slice none 0 0,.slice none 0 0] 195)) (And.intro (Kd.dD h2 (.cells #[.int .i64 0,.int .i64 0,.bool false,.bool false,.slice none 0 0,.slice none 0 0,.slice none 0 0,.slice none 0 0] 195)) (Kd.dD h3 (.cells #[.int .i64 0,.int .i64 0,.bool false,.bool false,.slice none 0 0,.slice none 0 0,.slice none 0 0,.slice none 0 0] 195))))
     clear h1 h2 h3 hN hl1 hl2 hl3 HA HA2 hHeld hE hrows ht hm hc
     generalize w2.alloc (.cells #[.int .i64 0,.int .i64 0,.bool false,.bool false,.slice none 0 0,.slice none 0 0,.slice none 0 0,.slice none 0 0] 195)=w3 at HA3 HB HRW ⊢
     generalize w2.heap.size=b10 at HB HNE HRW ⊢
     refine dz (i:=11) none HT_ (by kernel_rfl) rfl rfl (by decide) (fun K_ hK=>?_)
     refine iJ (w1:=w3.setCells b10 0 [.int .i64 r,.int .i64 n,.bool nd.inner,.bool nd.tagged,.slice Ap nd.pairs.length cp,.slice Ak nd.keys.length ck,.slice Ay nd.ways.length cy,.slice none 0 0]) (by rfl) rfl ?_ ?_
     ·exact fV _ [.int .i64 r,.int .i64 n,.bool nd.inner,.bool nd.tagged,.slice Ap nd.pairs.length cp,.slice Ak nd.keys.length ck,.slice Ay nd.ways.length cy,.slice none 0 0] rfl (by rfl) (by rfl) HB.out.1 rfl (by kernel_rfl) (by simp) (by intro u hu;simp only [List.mem_cons,List.not_mem_nil,or_false] at hu;rcases hu with rfl | rfl | rfl | rfl | rfl | rfl | rfl | rfl<;>rfl)
     refine hK.out _ _ ?_
     clear hK K_
     have HL:=Am_ (Gv.mk (p:=p) (tb:=tb) (work:=work) (me:=me) (bt:=bt) (ok:=ok) (w:=w) (r:=r) (n:=n) (bx:=bx) (b4:=b4) (b10:=b10) (nd:=nd) (j:=0) (rest:=fun ws=>aQ (rz r nd.ways.length 0 ws) (lT r n first nd)) (res:=res) (wc:=w3.setCells b10 0 [.int .i64 r,.int .i64 n,.bool nd.inner,.bool nd.tagged,.slice Ap nd.pairs.length cp,.slice Ak nd.keys.length ck,.slice Ay nd.ways.length cy,.slice none 0 0]) ⟨ok1,s2,Ap,cp,Ak,ck,Ay,cy,none,0,[],HA3.out.setCells HB.out.2 HNE.out.1 HNE.out.2.1 HNE.out.2.2.1 HNE.out.2.2.2 _,pK.start HRW.out.1 HRW.out.2.1 HRW.out.2.2 HB.out rfl (by simp),rfl,HR.out⟩)
     clear HA3 HB HRW
     generalize w3.setCells b10 0 [.int .i64 r,.int .i64 n,.bool nd.inner,.bool nd.tagged,.slice Ap nd.pairs.length cp,.slice Ak nd.keys.length ck,.slice Ay nd.ways.length cy,.slice none 0 0]=w4 at HL ⊢
     refine dR (by kernel_rfl) ?_
     go_wp2_with fail
     go_meet
     case rel=>exact ⟨b10,rfl,HNE,HL⟩
    ·refine jD (v:= .pointer (some ⟨w1.heap.size,0,none⟩)) (w1:=w1.alloc (.cells #[.int .i64 0,.int .i64 0,.bool false,.bool false,.slice none 0 0,.slice none 0 0,.slice none 0 0,.slice none 0 0] 195)) (by rfl) rfl ?hb10 ?_
     (case hb10=>go_simp;first | done | rfl)
     refine hK.out _ _ (fun _ hS=>⟨aD (ai (Below.refl _ _) _) hS.1,aD (ai (Below.refl _ _) _) hS.2.1,aD (ai (Below.refl _ _) _) hS.2.2⟩) ?_
     clear hK K_
     refine cK (a':=?_) ?_ ?_
     rotate_left; · show Act.put _ (some 10) _=_;simp only [Act.put,p1_,p2_,p3_,aG,aH];rfl
     have HB:=Am_ (Mine.new HA.out.task.lt (.cells #[.int .i64 0,.int .i64 0,.bool false,.bool false,.slice none 0 0,.slice none 0 0,.slice none 0 0,.slice none 0 0] 195))
     have HNE:av (w.heap.size≤w1.heap.size∧w1.heap.size≠bt∧w1.heap.size≠bx∧w1.heap.size≠b4):=⟨by have:=HA.out.task.moves.size;have:=HA.out.task.box.lt;have:=HA.out.box_.lt;have:=HA.out.res.lt;omega⟩
     have HA:=Am_ (HA.out.alloc (.cells #[.int .i64 0,.int .i64 0,.bool false,.bool false,.slice none 0 0,.slice none 0 0,.slice none 0 0,.slice none 0 0] 195))
     have hHeld:(_∧_∧_):=⟨aD (ai (Below.refl _ _) (.cells #[.int .i64 0,.int .i64 0,.bool false,.bool false,.slice none 0 0,.slice none 0 0,.slice none 0 0,.slice none 0 0] 195)) hHeld.1,aD (ai (Below.refl _ _) (.cells #[.int .i64 0,.int .i64 0,.bool false,.bool false,.slice none 0 0,.slice none 0 0,.slice none 0 0,.slice none 0 0] 195)) hHeld.2.1,aD (ai (Below.refl _ _) (.cells #[.int .i64 0,.int .i64 0,.bool false,.bool false,.slice none 0 0,.slice none 0 0,.slice none 0 0,.slice none 0 0] 195)) hHeld.2.2⟩
     generalize w1.alloc (.cells #[.int .i64 0,.int .i64 0,.bool false,.bool false,.slice none 0 0,.slice none 0 0,.slice none 0 0,.slice none 0 0] 195)=w2 at HB HA hHeld ⊢
     generalize w1.heap.size=b10 at HB HNE ⊢
     refine dI (i:=8) (some 44) HT_ (by kernel_rfl) rfl rfl (by decide) (fun K_ hK=>?_)
     refine call_ 126 #[.pointer (some ⟨pA,0,none⟩),.int .i64 r] (by rfl) rfl ?hk8 ?_
     (case hk8=>first | (go_simp;done) | (go_simp;exact enters Tryz.func126 (by kernel_rfl) rfl _ _))
     refine (HA.out.task.LD hHeld.2.1 HND.out HS2.out).mono ?_
     rintro e w3 hE
     obtain ⟨Ap,cp,Ak,ck,Ay,cy,ok1,rfl,hrows,ht,hm,hc⟩:=hE.out
     refine ⟨_,rfl,?_⟩
     refine hK.out _ _ ⟨ht.c1,hc,(af (HA.out.box_.moves hm).1 0).trans (rfl:_=some (Value.int .i64 r))⟩ (fun hHeld=>?_)
     clear hK K_
     refine cK (a':=?_) ?_ ?_
     rotate_left; · show Act.put _ (some 44) _=_;simp only [Act.put,p1_,p2_,p3_,aG,aH];rfl
     refine gy [(9,some 45)] ?_
     (refine gG (v:=?_) (a':=?_) HT_ (by kernel_rfl) rfl rfl (fun _ _ _ h=>h) (Or.inl ⟨by rfl,?_⟩) ?_ ?_;rotate_left;(intro w';go_simp;with_reducible rfl);rotate_left;(simp only [Act.put,p1_,p2_,p3_,aG,aH];rfl))
     refine bG ?_
     have hN:=HA.out.task.moves.size
     have hl1:=HA.out.task.box.lt
     have hl2:=HA.out.box_.lt
     have hl3:=HA.out.res.lt
     have hl4:=HB.out.lt
     obtain ⟨h1,h2,h3⟩:=hrows [bt,bx,b4,b10] (by intro q hq;simp only [List.mem_cons,List.not_mem_nil,or_false] at hq;omega) w.heap.size hN
     have HRW:=Am_ (And.intro h1 (And.intro h2 h3))
     have HA3:=Am_ (HA.out.next hm ht)
     have HB:=Am_ (HB.out.moves hm)
     clear h1 h2 h3 hN hl1 hl2 hl3 hl4 HA hHeld hE hrows ht hm hc
     refine dz (i:=11) none HT_ (by kernel_rfl) rfl rfl (by decide) (fun K_ hK=>?_)
     refine iJ (w1:=w3.setCells b10 0 [.int .i64 r,.int .i64 n,.bool nd.inner,.bool nd.tagged,.slice Ap nd.pairs.length cp,.slice Ak nd.keys.length ck,.slice Ay nd.ways.length cy,.slice none 0 0]) (by rfl) rfl ?_ ?_
     ·exact fV _ [.int .i64 r,.int .i64 n,.bool nd.inner,.bool nd.tagged,.slice Ap nd.pairs.length cp,.slice Ak nd.keys.length ck,.slice Ay nd.ways.length cy,.slice none 0 0] rfl (by rfl) (by rfl) HB.out.1 rfl (by kernel_rfl) (by simp) (by intro u hu;simp only [List.mem_cons,List.not_mem_nil,or_false] at hu;rcases hu with rfl | rfl | rfl | rfl | rfl | rfl | rfl | rfl<;>rfl)
     refine hK.out _ _ ?_
     clear hK K_
     have HL:=Am_ (Gv.mk (p:=p) (tb:=tb) (work:=work) (me:=me) (bt:=bt) (ok:=ok) (w:=w) (r:=r) (n:=n) (bx:=bx) (b4:=b4) (b10:=b10) (nd:=nd) (j:=0) (rest:=fun ws=>aQ (rz r nd.ways.length 0 ws) (lT r n first nd)) (res:=res) (wc:=w3.setCells b10 0 [.int .i64 r,.int .i64 n,.bool nd.inner,.bool nd.tagged,.slice Ap nd.pairs.length cp,.slice Ak nd.keys.length ck,.slice Ay nd.ways.length cy,.slice none 0 0]) ⟨ok1,s2,Ap,cp,Ak,ck,Ay,cy,none,0,[],HA3.out.setCells HB.out.2 HNE.out.1 HNE.out.2.1 HNE.out.2.2.1 HNE.out.2.2.2 _,pK.start HRW.out.1 HRW.out.2.1 HRW.out.2.2 HB.out rfl (by simp),rfl,HR.out⟩)
     clear HA3 HB HRW
     generalize w3.setCells b10 0 [.int .i64 r,.int .i64 n,.bool nd.inner,.bool nd.tagged,.slice Ap nd.pairs.length cp,.slice Ak nd.keys.length ck,.slice Ay nd.ways.length cy,.slice none 0 0]=w4 at HL ⊢
     refine dR (by kernel_rfl) ?_
     go_wp2_with fail
     go_meet
     case rel=>exact ⟨b10,rfl,HNE,HL⟩
   case rest=>
   obtain ⟨b10,rfl,HNE,HI⟩:=hcut
   clear HA HR HND HS2
   obtain ⟨okc,s3,Ap,cp,Ak,ck,Ay,cy,Aw,cw,ws,hA,hS,hws,hr⟩:=HI.out.out
   have y6:=(af hS.box.1 6).trans (rfl:_=some (Value.slice Ay nd.ways.length cy))
   clear hA hS hr hws
   go_upto_block 0 with fail
   clear y6
   go_wp2_with fail
   go_loopg [51] nd.ways.length (fun g v51 wr=> ∃ k:Nat,v51= .int .i64 k∧k+g=nd.ways.length∧av (Gv p tb work me bt ok w r n bx b4 b10 nd k (fun ws=>aQ (rz r (nd.ways.length - k) k ws) (lT r n first nd)) res wr))
   case atStart=>exact ⟨0,rfl,by omega,HI⟩
   case round=>
    obtain ⟨k,rfl,hkg,HQ⟩:=hrel
    clear HI
    obtain ⟨okc,s3,Ap,cp,Ak,ck,Ay,cy,Aw,cw,ws,hA,hS,hws,hr⟩:=HQ.out.out
    clear HQ
    cases gk with
    | zero=>
     have hk:nd.ways.length - k=0:=by omega
     have d1:decide ((k:Int)<(nd.ways.length:Int))=false:=decide_eq_false (by omega)
     have d2:decide (k<nd.ways.length)=false:=decide_eq_false (by omega)
     rw [hk] at hr
     have hr:aQ (rq r) (fun m=>if m=n then dw (⟨r,n,nd,ws⟩,0) else Bb r n first) s3=some res:=hr
     have HA:=Am_ hA
     have HSN:=Am_ hS
     obtain ⟨o,t,hd,hcase⟩:=aN hr
     have HD:=Am_ hd
     have HCS:=Am_ hcase
     clear hd hcase
     clear hr hA hS hk hws
     have c0:=HA.out.task.c0
     have c1:=HA.out.task.c1
     have c2:=HA.out.task.c2
     have k0:=(af HA.out.box_.1 0).trans (rfl:_=some (Value.int .i64 r))
     go_upto_if 68 with (go_at_call 200;refine (nL p tb work me _ _ _ r HA.out.task.run (o,t) HD.out).mono ?_;rintro e wq ⟨okq,hm,hi,he⟩;rcases HCS.out with hw | hw;(obtain ⟨rfl,rfl⟩:=hw;obtain rfl:e= .panicked dK:=he;exact ⟨rfl,⟨⟨okq,HA.out.task.moves.trans hm,hi,rfl⟩⟩⟩);obtain ⟨m,rfl,hr2⟩:=hw;obtain ⟨_,rfl,rfl⟩:=he;clear k0;have HA:=Am_ (HA.out.next hm (HA.out.task.next hm hi));have HSN:=Am_ (HSN.out.moves hm);have HR2:=Am_ hr2;clear hm hi hr2 c0 c1 c2)
     have HR4:=Am_ HR2.out
     clear HR2 HD HCS d1 d2
     by_cases hmn:m=n
     ·have e1:(m == n)=true:=by simp [hmn]
      have HR3:av (dw (⟨r,n,nd,ws⟩,0) t=some res):=⟨by have h:=HR4.out;rw [if_pos hmn] at h;exact h⟩
      clear hmn HR4
      have x0:=(af HA.out.res.1 0).trans (rfl:_=some (Value.int .i64 0))
      have z0:=ah HA.out.res.1 0
      have x1:=(af HA.out.res.1 1).trans (rfl:_=some (Value.int .i64 0))
      have z1:=ah HA.out.res.1 1
      have x2:=(af HA.out.res.1 2).trans (rfl:_=some (Value.bool false))
      have z2:=ah HA.out.res.1 2
      have x3:=(af HA.out.res.1 3).trans (rfl:_=some (Value.bool false))
      have z3:=ah HA.out.res.1 3
      have x4:=(af HA.out.res.1 4).trans (rfl:_=some (Value.slice none 0 0))
      have z4:=ah HA.out.res.1 4
      have x5:=(af HA.out.res.1 5).trans (rfl:_=some (Value.slice none 0 0))
      have z5:=ah HA.out.res.1 5
      have x6:=(af HA.out.res.1 6).trans (rfl:_=some (Value.slice none 0 0))
      have z6:=ah HA.out.res.1 6
      have x7:=(af HA.out.res.1 7).trans (rfl:_=some (Value.slice none 0 0))
      have z7:=ah HA.out.res.1 7
      have y0:=(af HSN.out.box.1 0).trans (rfl:_=some (Value.int .i64 r))
      have y1:=(af HSN.out.box.1 1).trans (rfl:_=some (Value.int .i64 n))
      have y2:=(af HSN.out.box.1 2).trans (rfl:_=some (Value.bool nd.inner))
      have y3:=(af HSN.out.box.1 3).trans (rfl:_=some (Value.bool nd.tagged))
      have y4:=(af HSN.out.box.1 4).trans (rfl:_=some (Value.slice Ap nd.pairs.length cp))
      have y5:=(af HSN.out.box.1 5).trans (rfl:_=some (Value.slice Ak nd.keys.length ck))
      have y6:=(af HSN.out.box.1 6).trans (rfl:_=some (Value.slice Ay nd.ways.length cy))
      have y7:=(af HSN.out.box.1 7).trans (rfl:_=some (Value.slice Aw ws.length cw))
      go_wp2_with fail
      (try simp only [Exit.inBlock,Exit.then])
      show bodyPost _ _ _ _ _ (sets _ b4 [(0,.int .i64 r),(1,.int .i64 n),(2,.bool nd.inner),(3,.bool nd.tagged),(4,.slice Ap nd.pairs.length cp),(5,.slice Ak nd.keys.length ck),(6,.slice Ay nd.ways.length cy),(7,.slice Aw ws.length cw)])
      refine bodyPost_ret (dF (rs:= [.cell 4 195,.tmp 5]) rfl (by simp) (.cell b4 195 _ (0,0) _ rfl (HA.out.res.sets [(0,.int .i64 r),(1,.int .i64 n),(2,.bool nd.inner),(3,.bool nd.tagged),(4,.slice Ap nd.pairs.length cp),(5,.slice Ak nd.keys.length ck),(6,.slice Ay nd.ways.length cy),(7,.slice Aw ws.length cw)]).1 Tryz.underlying195 rfl (by kernel_rfl) (.tmp .nil))) rfl ?_
      obtain rfl:res=(.ret (⟨r,n,nd,ws⟩,0),_):=by have h:=HR3.out;injection h with h;exact h.symm
      exact ⟨⟨_,dN (b:=b4) (.inr (by have:=HN4.out;omega)) _ HA.out.task.moves,HA.out.task.run.step (bg p) (by rw [eD];exact Nat.le_refl _) (fun k hk _=>dh (b:=b4) (fun e=>HA.out.res.2 (e▸hk)) _ _),_,rfl,_,rfl,HSN.out.kSn b4 (by simp) (fun k hk=>dh (b:=b4) hk _ _)⟩⟩
     ·have e1:(m == n)=false:=by simpa using hmn
      have HR3:av (Bb r n first t=some res):=⟨by have h:=HR4.out;rw [if_neg hmn] at h;exact h⟩
      clear hmn HR4 HSN
      go_wp2_with fail
      go_meet
      case rel=>exact ⟨⟨_,_,HA.out,HR3.out⟩⟩
    | succ g=>
     have d1:decide ((k:Int)<(nd.ways.length:Int))=true:=decide_eq_true (by omega)
     have d2:decide (k<nd.ways.length)=true:=decide_eq_true (by omega)
     have hw1:wrap64 ((k:Int)+1)=((k+1:Nat):Int):=by have:=HSM.out;unfold wrap64;omega
     have HW1:=Am_ hw1
     have hk:nd.ways.length - k=nd.ways.length - (k+1)+1:=by omega
     rw [hk] at hr
     have hr:aQ (aQ (Jk r (k:Int)) fun x=>rz r (nd.ways.length - (k+1)) (k+1) (ws++ [x])) (lT r n first nd) s3=some res:=hr
     have HSN:=Am_ (hS.moves ((Moves.refl _ _).alloc (.cells #[.int .i64 (k:Int)] 3)))
     have HA:=Am_ (hA.alloc (.cells #[.int .i64 (k:Int)] 3))
     have HBI:=Am_ (Mine.new hA.task.lt (.cells #[.int .i64 (k:Int)] 3))
     have HWS:=Am_ hws
     obtain ⟨o,t,hd,hcase⟩:=aN (iX hr)
     have HD:=Am_ hd
     have HCS:=Am_ hcase
     clear hd hcase
     clear hr hA hS hk hws hw1
     go_upto_region 10 with fail
     generalize wr.alloc (.cells #[.int .i64 (k:Int)] 3)=w3 at HA HSN HBI ⊢
     generalize wr.heap.size=bi at HBI ⊢
     refine bK (n:=10) (S:=fun w'=>w'.cell? ⟨b10,7,none⟩=some (.slice Aw ws.length cw)∧w'.cell? ⟨bt,0,none⟩=some (.pointer (some ⟨tb,0,none⟩))) (ds:= [9]) (by kernel_rfl) rfl Dt Bd ⟨(af HSN.out.box.1 7).trans rfl,HA.out.task.c0⟩ (fun hHeld HT_ HW_=>?_)
     have HA:=Am_ HA.out.drew
     have HSN:=Am_ (HSN.out.moves (Moves.drew (Moves.refl _ _)))
     have HBI:=Am_ (HBI.out.moves (Moves.drew (Moves.refl _ _)))
     generalize World.drew _=w5 at HA HSN HBI hHeld ⊢
     refine gy [(0,some 54),(1,some 55),(2,some 56),(3,some 57),(4,some 58)] ?_
     (refine gG (v:=?_) (a':=?_) HT_ (by kernel_rfl) rfl rfl (fun _ _ _ h=>h) (Or.inl ⟨by rfl,?_⟩) ?_ ?_;rotate_left;(intro w';go_simp;with_reducible rfl);rotate_left;(simp only [Act.put,p1_,p2_,p3_,aG,aH];rfl))
     iterate 4 (refine jW (v:=?_) (a':=?_) HT_ HW_ (by kernel_rfl) rfl rfl (fun _ _ _ h=>h) hHeld (Or.inl ⟨by rfl,?_⟩) ?_ ?_;rotate_left;(rintro w' ⟨s0,s1⟩;go_simp;with_reducible rfl);rotate_left;(simp only [Act.put,p1_,p2_,p3_,aG,aH];rfl))
     refine bG ?_
     refine dI (i:=5) (some 59) HT_ (by kernel_rfl) rfl rfl (by decide) (fun K_ hK=>?_)
     refine su 137 #[.pointer (some ⟨tb,0,none⟩),.func (.func 202) #[] #[.pointer (some ⟨bt,0,none⟩),.pointer (some ⟨bx,0,none⟩),.pointer (some ⟨bi,0,none⟩)]] (by rfl) rfl ?hrun5 ?_
     (case hrun5=>first | (go_simp;done) | (go_simp;exact enters Tryz.func137 (by kernel_rfl) rfl _ _))
     refine (HA.out.task.load_ HA.out.box_ HBI.out HD.out).mono ?_
     rintro e wq ⟨⟨okq,hm,hT,he⟩⟩
     rcases HCS.out with hw | hw
     ·obtain ⟨rfl,rfl⟩:=hw
      obtain rfl:e= .panicked dK:=he
      exact .inr ⟨dK,rfl,rfl,⟨⟨okq,hT.moves,hT.run,rfl⟩⟩⟩
     obtain ⟨a1,rfl,hr2⟩:=hw
     obtain rfl:e= .returned (.int .i64 a1):=he
     refine .inl ⟨.int .i64 a1,rfl,?_⟩
     have HA:=Am_ (HA.out.next hm hT)
     have HSN:=Am_ (HSN.out.moves hm)
     have HR2:=Am_ hr2
     clear hm hT hr2 HBI
     refine hK.out _ _ ⟨(af HSN.out.box.1 7).trans rfl,HA.out.task.c0⟩ (fun hHeld=>?_)
     clear hK K_
     refine cK (a':=?_) ?_ ?_
     rotate_left; · show Act.put _ (some 59) _=_;simp only [Act.put,p1_,p2_,p3_,aG,aH];rfl
     refine dI (i:=6) (some 60) HT_ (by kernel_rfl) rfl rfl (by decide) (fun K_ hK=>?_)
     refine jD (v:= .slice (some ⟨wq.heap.size,0,none⟩) 1 1) (w1:=wq.alloc (.cells #[.int .i64 a1] 45)) (by rfl) rfl ?hbs ?_
     (case hbs=>go_simp;first | done | rfl)
     refine hK.out _ _ ⟨aD (ai (Below.refl _ _) _) hHeld.1,aD (ai (Below.refl _ _) _) hHeld.2⟩ (fun hHeld=>?_)
     clear hK K_
     refine cK (a':=?_) ?_ ?_
     rotate_left; · show Act.put _ (some 60) _=_;simp only [Act.put,p1_,p2_,p3_,aG,aH];rfl
     refine dI (i:=7) (some 61) HT_ (by kernel_rfl) rfl rfl (by decide) (fun K_ hK=>?_)
     have hlq:=HA.out.task.lt
     have hl1:=HA.out.task.box.lt
     have hl2:=HA.out.box_.lt
     have hl3:=HA.out.res.lt
     have hl4:=HSN.out.box.lt
     refine Kd.oP (Kd.int .i64) (w0:=wq) w.heap.size (by rfl) (.tmp 55) (.tmp 60) 153 45 (.int .i64 0) 8 rfl Tryz.underlying153 um rfl (by decide) (by decide) (.slice Aw ws.length cw) ws a1 [.int .i64 a1] (Fr okq (fun q=>q∉ [bt,bx,b4,b10])) (fun _=>False) rfl rfl rfl (fun _ hk=>hk.elim) (fun k hk=>⟨fun h=>by have:=hlq k h;omega,fun h=>by simp only [List.mem_cons,List.not_mem_nil,or_false] at h;omega⟩) HSN.out.row (Below.refl _ _) HA.out.task.moves.size (by have:=HWS.out;have:=HSM.out;omega) ?_
     intro v7 w7 ho hb7 hg hat
     obtain ⟨A7,c7,rfl⟩:=Kd.aW ho
     have hrow: ∀ k,(Value.slice Aw ws.length cw).ownBlock=some k→ ¬ okq k∧w.heap.size≤k∧k≠bt∧k≠bx∧k≠b4:=fun k e=>by
      have h1:=(Kd.bR HSN.out.row).1 k e
      have h2:=h1.1.2
      simp only [List.mem_cons,List.not_mem_nil,or_false] at h2
      exact ⟨h1.1.1,h1.2.1,by omega,by omega,by omega⟩
     have hne:some b10≠(Value.slice Aw ws.length cw).ownBlock:=fun e=>by have:=(HSN.out.row.1 b10 e.symm).2;simp at this
     have z7:w7.frozen? ⟨b10,7,none⟩=false:=ah (bS HSN.out.box.1 hg hne) 7
     have k7:=(af (bS HSN.out.box.1 hg hne) 7).trans (rfl:_=some (Value.slice Aw ws.length cw))
     have HA7:=Am_ (HA.out.grown hg hrow)
     have HSN8:=Am_ (HSN.out.push (by simp) ho hg hat)
     have HA8:=Am_ (HA7.out.set (q:=⟨b10,7,none⟩) HSN.out.box.2 HNE.out.1 HNE.out.2.1 HNE.out.2.2.1 HNE.out.2.2.2 (.slice A7 (ws++ [a1]).length c7))
     have HLN:av ((ws++ [a1]).length=k+1):=⟨by rw [List.length_append,List.length_singleton,HWS.out]⟩
     have hHeld:(_∧_):=And.intro k7 HA7.out.task.c0
     clear ho hb7 hg hat hrow hne hlq hl1 hl2 hl3 hl4 HA HSN HA7
     refine hK.out _ _ hHeld (fun hHeld=>?_)
     clear hK K_
     refine cK (a':=?_) ?_ ?_
     rotate_left; · show Act.put _ (some 61) _=_;simp only [Act.put,p1_,p2_,p3_,aG,aH];rfl
     refine gy [(8,some 62)] ?_
     (refine gG (v:=?_) (a':=?_) HT_ (by kernel_rfl) rfl rfl (fun _ _ _ h=>h) (Or.inl ⟨by rfl,?_⟩) ?_ ?_;rotate_left;(intro w';go_simp;with_reducible rfl);rotate_left;(simp only [Act.put,p1_,p2_,p3_,aG,aH];rfl))
     refine bG ?_
     refine dz (i:=9) none HT_ (by kernel_rfl) rfl rfl (by decide) (fun K_ hK=>?_)
     refine iJ (w1:=?_) (by rfl) rfl ?_ ?_
     rotate_left; · go_simp;rfl
     refine hK.out _ _ ?_
     clear hK K_
     rw [show (ws++ [a1]).length=ws.length+1 by simp] at HA8 HSN8
     generalize w7.setCell ⟨b10,7,none⟩ (.slice A7 (ws.length+1) c7)=w8 at HA8 HSN8 ⊢
     have HL:=Am_ (Gv.mk (p:=p) (tb:=tb) (work:=work) (me:=me) (bt:=bt) (ok:=ok) (w:=w) (r:=r) (n:=n) (bx:=bx) (b4:=b4) (b10:=b10) (nd:=nd) (j:=k+1) (rest:=fun ws=>aQ (rz r (nd.ways.length - (k+1)) (k+1) ws) (lT r n first nd)) (res:=res) ⟨_,_,_,_,_,_,_,_,_,_,_,HA8.out,HSN8.out,HLN.out,HR2.out⟩)
     clear HA8 HSN8 HR2 HLN z7 k7
     refine dR (bM HT_.out (by kernel_rfl)) ?_
     go_wp2_with fail
     go_roundg g
     case rel=>exact ⟨k+1,by first | rfl | rw [HW1.out],by omega,HL⟩
     case measure=>omega
 case rest=>
 clear HL
 obtain ⟨okc,s1,hA,hr⟩:=hcut.out.out
 have HA:=Am_ hA
 clear hA hcut
 unfold Bb at hr
 obtain ⟨o,t,hd,hcase⟩:=aN hr
 have HD:=Am_ hd
 have HCS:=Am_ hcase
 clear hd hcase
 clear hr
 have c0:=HA.out.task.c0
 have c1:=HA.out.task.c1
 have c2:=HA.out.task.c2
 go_upto_region 15 with (go_at_call 201;refine (mo p tb work me _ _ _ n HA.out.task.run (o,t) HD.out).mono ?_;rintro e wq ⟨okq,hm,hi,he⟩;rcases HCS.out with hw | hw;(obtain ⟨rfl,rfl⟩:=hw;obtain rfl:e= .panicked dK:=he;exact ⟨rfl,⟨⟨okq,HA.out.task.moves.trans hm,hi,rfl⟩⟩⟩);obtain ⟨now,rfl,hr2⟩:=hw;obtain ⟨_,rfl,rfl⟩:=he;have HA:=Am_ (HA.out.next hm (HA.out.task.next hm hi));have HR2:=Am_ hr2;clear hm hi hr2 c0 c1 c2)
 have HL2:av (aQ (sG n now) (zX r first) t=some res):=⟨HR2.out⟩
 clear HR2 HD HCS
 go_cut [86] from 12 (fun v86 wc=> ∃ b:Bool,v86= .bool (b && first)∧av (Cg p tb work me bt ok w r bx b4 (zX r first b) res wc))
 case first=>
  by_cases h2:now=2
  ·have e2:(now == 2)=true:=by simp [h2]
   have hr:zX r first true t=some res:=by
    have h:=HL2.out
    unfold sG at h
    rw [if_pos h2] at h
    exact h
   have HR3:=Am_ hr
   clear h2 hr HL2
   go_wp2_with fail
   go_meet
   case rel=>exact ⟨true,by cases first<;>rfl,⟨⟨_,_,HA.out,HR3.out⟩⟩⟩
  ·have e2:(now == 2)=false:=by simpa using h2
   by_cases h1:now=1
   ·have e1:(now == 1)=true:=by simp [h1]
    have hr:aQ (pV n) (zX r first) t=some res:=by
     have h:=HL2.out
     unfold sG at h
     rw [if_neg h2,if_pos h1] at h
     exact h
    clear h1 h2 HL2
    obtain ⟨o,t,hd,hcase⟩:=aN hr
    have HD:=Am_ hd
    have HCS:=Am_ hcase
    clear hd hcase
    clear hr
    have c0:=HA.out.task.c0
    have c1:=HA.out.task.c1
    have c2:=HA.out.task.c2
    go_wp2_with fail
    refine (qw p tb work me n _ _ _ HA.out.task.run (o,t) HD.out).mono ?_
    rintro e wq ⟨okq,hm,hi,he⟩
    rcases HCS.out with hw | hw
    ·obtain ⟨rfl,rfl⟩:=hw
     obtain rfl:e= .panicked dK:=he
     exact ⟨rfl,⟨⟨okq,HA.out.task.moves.trans hm,hi,rfl⟩⟩⟩
    ·obtain ⟨b,rfl,hr2⟩:=hw
     obtain ⟨_,rfl,rfl⟩:=he
     have HA:=Am_ (HA.out.next hm (HA.out.task.next hm hi))
     have HR2:=Am_ hr2
     clear hm hi hr2 c0 c1 c2 HD HCS
     dsimp only
     cases b with
     | false=>
      go_wp2_with fail
      go_meet
      case rel=>exact ⟨false,rfl,⟨⟨_,_,HA.out,HR2.out⟩⟩⟩
     | true=>
      go_wp2_with fail
      go_meet
      case rel=>exact ⟨true,by cases first<;>rfl,⟨⟨_,_,HA.out,HR2.out⟩⟩⟩
   ·have e1:(now == 1)=false:=by simpa using h1
    have hr:zX r first false t=some res:=by
     have h:=HL2.out
     unfold sG at h
     rw [if_neg h2,if_neg h1] at h
     exact h
    have HR3:=Am_ hr
    clear h1 h2 hr HL2
    go_wp2_with fail
    go_meet
    case rel=>exact ⟨false,rfl,⟨⟨_,_,HA.out,HR3.out⟩⟩⟩
 case rest=>
 obtain ⟨b,rfl,HL⟩:=hcut
 clear HA HL2
 obtain ⟨okc2,s2,hA,hr⟩:=HL.out.out
 have HA:=Am_ hA
 clear hA HL
 unfold zX at hr
 cases hbf:(b && first) with
 | true=>
  rw [if_pos hbf] at hr
  clear hbf
  have HR3:=Am_ hr
  clear hr
  have x0:=(af HA.out.res.1 0).trans (rfl:_=some (Value.int .i64 0))
  have z0:=ah HA.out.res.1 0
  have x1:=(af HA.out.res.1 1).trans (rfl:_=some (Value.int .i64 0))
  have z1:=ah HA.out.res.1 1
  have x2:=(af HA.out.res.1 2).trans (rfl:_=some (Value.bool false))
  have z2:=ah HA.out.res.1 2
  have x3:=(af HA.out.res.1 3).trans (rfl:_=some (Value.bool false))
  have z3:=ah HA.out.res.1 3
  have x4:=(af HA.out.res.1 4).trans (rfl:_=some (Value.slice none 0 0))
  have z4:=ah HA.out.res.1 4
  have x5:=(af HA.out.res.1 5).trans (rfl:_=some (Value.slice none 0 0))
  have z5:=ah HA.out.res.1 5
  have x6:=(af HA.out.res.1 6).trans (rfl:_=some (Value.slice none 0 0))
  have z6:=ah HA.out.res.1 6
  have x7:=(af HA.out.res.1 7).trans (rfl:_=some (Value.slice none 0 0))
  have z7:=ah HA.out.res.1 7
  go_wp2_with fail
  (try simp only [Exit.inBlock,Exit.then])
  show bodyPost _ _ _ _ _ (sets _ b4 [(0,.int .i64 0),(1,.int .i64 0),(2,.bool false),(3,.bool false),(4,.slice none 0 0),(5,.slice none 0 0),(6,.slice none 0 0),(7,.slice none 0 0)])
  refine bodyPost_ret (dF (rs:= [.cell 4 195,.tmp 5]) rfl (by simp) (.cell b4 195 _ (0,0) _ rfl (HA.out.res.sets [(0,.int .i64 0),(1,.int .i64 0),(2,.bool false),(3,.bool false),(4,.slice none 0 0),(5,.slice none 0 0),(6,.slice none 0 0),(7,.slice none 0 0)]).1 Tryz.underlying195 rfl (by kernel_rfl) (.tmp .nil))) rfl ?_
  obtain rfl:res=(.ret (sn0,2),_):=by have h:=HR3.out;injection h with h;exact h.symm
  exact ⟨⟨_,dN (b:=b4) (.inr (by have:=HN4.out;omega)) [(0,.int .i64 0),(1,.int .i64 0),(2,.bool false),(3,.bool false),(4,.slice none 0 0),(5,.slice none 0 0),(6,.slice none 0 0),(7,.slice none 0 0)] HA.out.task.moves,HA.out.task.run.step (bg p) (by rw [eD];exact Nat.le_refl _) (fun k hk _=>dh (b:=b4) (fun e=>HA.out.res.2 (e▸hk)) [(0,.int .i64 0),(1,.int .i64 0),(2,.bool false),(3,.bool false),(4,.slice none 0 0),(5,.slice none 0 0),(6,.slice none 0 0),(7,.slice none 0 0)] _),_,rfl,_,rfl,IQ (s:=sn0) (Ec (n:=nd0) (Kd.gY _ _ _ _ _) (Kd.gY _ _ _ _ _) (Kd.gY _ _ _ _ _)) (Kd.gY _ _ _ _ _)⟩⟩
 | false=>
  rw [if_neg (by rw [hbf];simp)] at hr
  clear hbf
  obtain ⟨o,t,hd,hcase⟩:=aN hr
  have HD:=Am_ hd
  have HCS:=Am_ hcase
  clear hd hcase
  clear hr
  have c0:=HA.out.task.c0
  have c1:=HA.out.task.c1
  have c2:=HA.out.task.c2
  have k0:=(af HA.out.box_.1 0).trans (rfl:_=some (Value.int .i64 r))
  go_upto_region 18 with (go_at_call 200;refine (nL p tb work me _ _ _ r HA.out.task.run (o,t) HD.out).mono ?_;rintro e wq ⟨okq,hm,hi,he⟩;rcases HCS.out with hw | hw;(obtain ⟨rfl,rfl⟩:=hw;obtain rfl:e= .panicked dK:=he;exact ⟨rfl,⟨⟨okq,HA.out.task.moves.trans hm,hi,rfl⟩⟩⟩);obtain ⟨m,rfl,hr2⟩:=hw;obtain ⟨_,rfl,rfl⟩:=he;clear k0;have HA:=Am_ (HA.out.next hm (HA.out.task.next hm hi));have HR2:=Am_ hr2;clear hm hi hr2 c0 c1 c2)
  have hr:=HR2.out
  clear HR2 HD HCS
  obtain ⟨o,t,hd,hcase⟩:=aN hr
  have HD:=Am_ hd
  have HCS:=Am_ hcase
  clear hd hcase
  clear hr
  have c0:=HA.out.task.c0
  have c1:=HA.out.task.c1
  have c2:=HA.out.task.c2
  go_upto_if 94 with (go_at_call 201;refine (mo p tb work me _ _ _ m HA.out.task.run (o,t) HD.out).mono ?_;rintro e wq ⟨okq,hm,hi,he⟩;rcases HCS.out with hw | hw;(obtain ⟨rfl,rfl⟩:=hw;obtain rfl:e= .panicked dK:=he;exact ⟨rfl,⟨⟨okq,HA.out.task.moves.trans hm,hi,rfl⟩⟩⟩);obtain ⟨sm,rfl,hr2⟩:=hw;obtain ⟨_,rfl,rfl⟩:=he;have HA:=Am_ (HA.out.next hm (HA.out.task.next hm hi));have HR2:=Am_ hr2;clear hm hi hr2 c0 c1 c2)
  have HR4:=Am_ HR2.out
  clear HR2 HD HCS
  by_cases hs:sm=1
  ·have e1:(sm == 1)=true:=by simp [hs]
   have hr:aQ (pV m) (fun _=>dw (sn0,1)) t=some res:=by
    have h:=HR4.out
    rw [if_pos hs] at h
    exact h
   clear hs HR4
   obtain ⟨o,t,hd,hcase⟩:=aN hr
   have HD:=Am_ hd
   have HCS:=Am_ hcase
   clear hd hcase
   clear hr
   have c0:=HA.out.task.c0
   have c1:=HA.out.task.c1
   have c2:=HA.out.task.c2
   go_upto_region 20 with (go_at_call 175;refine (qw p tb work me m _ _ _ HA.out.task.run (o,t) HD.out).mono ?_;rintro e wq ⟨okq,hm,hi,he⟩;rcases HCS.out with hw | hw;(obtain ⟨rfl,rfl⟩:=hw;obtain rfl:e= .panicked dK:=he;exact ⟨rfl,⟨⟨okq,HA.out.task.moves.trans hm,hi,rfl⟩⟩⟩);obtain ⟨a1,rfl,hr2⟩:=hw;obtain ⟨_,rfl,rfl⟩:=he;have HA:=Am_ (HA.out.next hm (HA.out.task.next hm hi));have HR2:=Am_ hr2;clear hm hi hr2 c0 c1 c2)
   have HR3:=Am_ HR2.out
   clear HR2 HD HCS
   have x0:=(af HA.out.res.1 0).trans (rfl:_=some (Value.int .i64 0))
   have z0:=ah HA.out.res.1 0
   have x1:=(af HA.out.res.1 1).trans (rfl:_=some (Value.int .i64 0))
   have z1:=ah HA.out.res.1 1
   have x2:=(af HA.out.res.1 2).trans (rfl:_=some (Value.bool false))
   have z2:=ah HA.out.res.1 2
   have x3:=(af HA.out.res.1 3).trans (rfl:_=some (Value.bool false))
   have z3:=ah HA.out.res.1 3
   have x4:=(af HA.out.res.1 4).trans (rfl:_=some (Value.slice none 0 0))
   have z4:=ah HA.out.res.1 4
   have x5:=(af HA.out.res.1 5).trans (rfl:_=some (Value.slice none 0 0))
   have z5:=ah HA.out.res.1 5
   have x6:=(af HA.out.res.1 6).trans (rfl:_=some (Value.slice none 0 0))
   have z6:=ah HA.out.res.1 6
   have x7:=(af HA.out.res.1 7).trans (rfl:_=some (Value.slice none 0 0))
   have z7:=ah HA.out.res.1 7
   go_wp2_with fail
   (try simp only [Exit.inBlock,Exit.then])
   show bodyPost _ _ _ _ _ (sets _ b4 [(0,.int .i64 0),(1,.int .i64 0),(2,.bool false),(3,.bool false),(4,.slice none 0 0),(5,.slice none 0 0),(6,.slice none 0 0),(7,.slice none 0 0)])
   refine bodyPost_ret (dF (rs:= [.cell 4 195,.tmp 5]) rfl (by simp) (.cell b4 195 _ (0,0) _ rfl (HA.out.res.sets [(0,.int .i64 0),(1,.int .i64 0),(2,.bool false),(3,.bool false),(4,.slice none 0 0),(5,.slice none 0 0),(6,.slice none 0 0),(7,.slice none 0 0)]).1 Tryz.underlying195 rfl (by kernel_rfl) (.tmp .nil))) rfl ?_
   obtain rfl:res=(.ret (sn0,1),_):=by have h:=HR3.out;injection h with h;exact h.symm
   exact ⟨⟨_,dN (b:=b4) (.inr (by have:=HN4.out;omega)) [(0,.int .i64 0),(1,.int .i64 0),(2,.bool false),(3,.bool false),(4,.slice none 0 0),(5,.slice none 0 0),(6,.slice none 0 0),(7,.slice none 0 0)] HA.out.task.moves,HA.out.task.run.step (bg p) (by rw [eD];exact Nat.le_refl _) (fun k hk _=>dh (b:=b4) (fun e=>HA.out.res.2 (e▸hk)) [(0,.int .i64 0),(1,.int .i64 0),(2,.bool false),(3,.bool false),(4,.slice none 0 0),(5,.slice none 0 0),(6,.slice none 0 0),(7,.slice none 0 0)] _),_,rfl,_,rfl,IQ (s:=sn0) (Ec (n:=nd0) (Kd.gY _ _ _ _ _) (Kd.gY _ _ _ _ _) (Kd.gY _ _ _ _ _)) (Kd.gY _ _ _ _ _)⟩⟩
  ·have e1:(sm == 1)=false:=by simpa using hs
   have HR3:av (dw (sn0,1) t=some res):=⟨by have h:=HR4.out;rw [if_neg hs] at h;exact h⟩
   clear hs HR4
   have x0:=(af HA.out.res.1 0).trans (rfl:_=some (Value.int .i64 0))
   have z0:=ah HA.out.res.1 0
   have x1:=(af HA.out.res.1 1).trans (rfl:_=some (Value.int .i64 0))
   have z1:=ah HA.out.res.1 1
   have x2:=(af HA.out.res.1 2).trans (rfl:_=some (Value.bool false))
   have z2:=ah HA.out.res.1 2
   have x3:=(af HA.out.res.1 3).trans (rfl:_=some (Value.bool false))
   have z3:=ah HA.out.res.1 3
   have x4:=(af HA.out.res.1 4).trans (rfl:_=some (Value.slice none 0 0))
   have z4:=ah HA.out.res.1 4
   have x5:=(af HA.out.res.1 5).trans (rfl:_=some (Value.slice none 0 0))
   have z5:=ah HA.out.res.1 5
   have x6:=(af HA.out.res.1 6).trans (rfl:_=some (Value.slice none 0 0))
   have z6:=ah HA.out.res.1 6
   have x7:=(af HA.out.res.1 7).trans (rfl:_=some (Value.slice none 0 0))
   have z7:=ah HA.out.res.1 7
   go_wp2_with fail
   (try simp only [Exit.inBlock,Exit.then])
   show bodyPost _ _ _ _ _ (sets _ b4 [(0,.int .i64 0),(1,.int .i64 0),(2,.bool false),(3,.bool false),(4,.slice none 0 0),(5,.slice none 0 0),(6,.slice none 0 0),(7,.slice none 0 0)])
   refine bodyPost_ret (dF (rs:= [.cell 4 195,.tmp 5]) rfl (by simp) (.cell b4 195 _ (0,0) _ rfl (HA.out.res.sets [(0,.int .i64 0),(1,.int .i64 0),(2,.bool false),(3,.bool false),(4,.slice none 0 0),(5,.slice none 0 0),(6,.slice none 0 0),(7,.slice none 0 0)]).1 Tryz.underlying195 rfl (by kernel_rfl) (.tmp .nil))) rfl ?_
   obtain rfl:res=(.ret (sn0,1),_):=by have h:=HR3.out;injection h with h;exact h.symm
   exact ⟨⟨_,dN (b:=b4) (.inr (by have:=HN4.out;omega)) [(0,.int .i64 0),(1,.int .i64 0),(2,.bool false),(3,.bool false),(4,.slice none 0 0),(5,.slice none 0 0),(6,.slice none 0 0),(7,.slice none 0 0)] HA.out.task.moves,HA.out.task.run.step (bg p) (by rw [eD];exact Nat.le_refl _) (fun k hk _=>dh (b:=b4) (fun e=>HA.out.res.2 (e▸hk)) [(0,.int .i64 0),(1,.int .i64 0),(2,.bool false),(3,.bool false),(4,.slice none 0 0),(5,.slice none 0 0),(6,.slice none 0 0),(7,.slice none 0 0)] _),_,rfl,_,rfl,IQ (s:=sn0) (Ec (n:=nd0) (Kd.gY _ _ _ _ _) (Kd.gY _ _ _ _ _) (Kd.gY _ _ _ _ _)) (Kd.gY _ _ _ _ _)⟩⟩
end Go.Proofs.YtmnjjdeaccgjlaaGreat.Tower
namespace Go.Proofs.YtmnjjdeaccgjlaaGreatW.PrintWords
open Go.RowKit
namespace Kd
section
variable {α:Type} {d:Kd α} {W:World} {g n:Nat} {S ok:Nat→Prop} {A:Option Addr} {ad:Addr} {xs:List α}
theorem zR (h:d.C W (some ad) n xs) (hn:0<n) (hs:0<d.sz):W.cell? ad≠none:=by
 obtain ⟨ad',he,hc⟩:=h.2.2 hn
 injection he with he
 subst he
 obtain ⟨c,hcl,_,hcell⟩:=hc 0 _ (List.getElem?_eq_getElem (by rw [h.1];exact hn))
 have h1:=hcell 0 _ (List.getElem?_eq_getElem (by omega))
 rw [Nat.zero_mul,Nat.zero_add,Addr.add_zero'] at h1
 rw [h1]
 exact Option.some_ne_none _
theorem Sk (h:d.C W (some ad) n xs) (hn:0<n) (hs:0<d.sz):ad.block<W.heap.size:=by
 cases hc:W.cell? ad with
 | none=>exact absurd hc (zR h hn hs)
 | some v=>exact World.block_lt_of_cell? W ad hc
theorem Sg (h:F d W ok A n xs) {ad:Addr} (hA:A=some ad) (hn:0<n) (hs:0<d.sz):ok ad.block:=by
 subst hA
 have hl:=QS h
 cases xs with
 | nil=>simp at hl;omega
 | cons x r=>
  obtain ⟨ad',c,he,_,_,_,hin⟩:=GJ h x 0 (by omega) (by omega)
  injection he with he
  subst he
  exact hin hs
end
end Kd
end Go.Proofs.YtmnjjdeaccgjlaaGreatW.PrintWords
namespace Go.Proofs.YtmnjjdeaccgjlaaGreat.Tower
open Go Go.RowKit Go.Proofs.YtmnjjdeaccgjlaaGreatW.PrintWords Go.Proofs.YtmnjjdeaccgjlaaGreatW.PrintLast Go.Proofs.YtmnjjdeaccgjlaaGreatW.PrintMore Go.Proofs.YtmnjjdeaccgjlaaGreat.Own
theorem FL {W W':World} {a:Addr} (h:W'.heap[a.block]?=W.heap[a.block]?):W'.cell? a=W.cell? a:=by unfold World.cell?;rw [h]
theorem GJ {α:Type} {d:Kd α} {w:World} {D:Nat→Prop} {A:Option Addr} {n:Nat} {xs:List α} (h:d.F w D A n xs) (hf:Flat A) (z:α) (i:Nat) (hi:i<n) (hs:0<d.sz):
  ∃ g c,A=some ⟨g,0,none⟩∧c.length=d.sz∧d.FK w D (xs.getD i z) c∧ ∀ j u,c[j]?=some u→w.cell? ⟨g,i*d.sz+j,none⟩=some u:=by
 obtain ⟨ad,c,e,hl,hk,hc0⟩:=Kd.uK (Kd.fM h) z (i:Int) (by omega) (by omega)
 rw [Int.toNat_natCast] at hk hc0
 have hin:=Kd.Sg h e (by omega) hs
 have hlt:ad.block<w.heap.size:=by have h1:=Kd.fM h;rw [e] at h1;exact Kd.Sk h1 (by omega) hs
 obtain ⟨g,rfl⟩:=hf ad e
 have hc: ∀ j u,c[j]?=some u→w.cell? ⟨g,i*d.sz+j,none⟩=some u:=fun j u hj=>by
  have h1:=hc0 j u hj
  rw [ic,Nat.zero_add] at h1
  exact h1
 refine ⟨g,c,e,hl,fun W' hW=>?_,hc⟩
 obtain ⟨ad2,c2,e2,hl2,hk2,hc2⟩:=Kd.uK (h W' hW) z (i:Int) (by omega) (by omega)
 rw [Int.toNat_natCast] at hk2 hc2
 rw [e] at e2
 injection e2 with e2
 subst e2
 have e3:c2=c:=by
  apply List.ext_getElem?
  intro j
  rcases Nat.lt_or_ge j d.sz with hj | hj
  ·have h1:c[j]?=some c[j]:=List.getElem?_eq_getElem (by omega)
   have h2:c2[j]?=some c2[j]:=List.getElem?_eq_getElem (by omega)
   have h3:=hc j _ h1
   have h4:=hc2 j _ h2
   rw [ic,Nat.zero_add,FL (W:=w) (W':=W') (hW g hin hlt),h3] at h4
   rw [h1,h2,h4]
  ·rw [List.getElem?_eq_none (by omega),List.getElem?_eq_none (by omega)]
 rw [←e3]
 exact hk2
abbrev OM (s:Sn) (Ap:Option Addr) (cp:Nat) (Ak:Option Addr) (ck:Nat) (Ay:Option Addr) (cy:Nat) (Aw:Option Addr) (cw:Nat):List Value:= [.int .i64 s.ref,.int .i64 s.info,.bool s.node.inner,.bool s.node.tagged,.slice Ap s.node.pairs.length cp,.slice Ak s.node.keys.length ck,.slice Ay s.node.ways.length cy,.slice Aw s.ways.length cw]
theorem Og {W:World} {s:Sn} {c:List Value} (h:kSn.K W s c): ∃ Ap cp Ak ck Ay cy Aw cw,c=OM s Ap cp Ak ck Ay cy Aw cw∧s.node.pairs.length≤cp∧eT.C W Ap s.node.pairs.length s.node.pairs∧s.node.keys.length≤ck∧(Kd.int .i64).C W Ak s.node.keys.length s.node.keys∧s.node.ways.length≤cy∧(Kd.int .i64).C W Ay s.node.ways.length s.node.ways∧s.ways.length≤cw∧(Kd.int .i64).C W Aw s.ways.length s.ways:=by
 obtain ⟨_,_,rfl,rfl,_,_,rfl,rfl,_,_,rfl,⟨_,_,rfl,rfl,_,_,rfl,rfl,_,_,rfl,⟨Ap,cp,rfl,l1,h1⟩,_,_,rfl,⟨Ak,ck,rfl,l2,h2⟩,⟨Ay,cy,rfl,l3,h3⟩⟩,⟨Aw,cw,rfl,l4,h4⟩⟩:=h
 exact ⟨Ap,cp,Ak,ck,Ay,cy,Aw,cw,rfl,l1,h1,l2,h2,l3,h3,l4,h4⟩
structure SnF (W:World) (D:Nat→Prop) (s:Sn) (Ap:Option Addr) (cp:Nat) (Ak:Option Addr) (ck:Nat) (Ay:Option Addr) (cy:Nat) (Aw:Option Addr) (cw:Nat):Prop where
 lp:s.node.pairs.length≤cp
 prs:eT.F W D Ap s.node.pairs.length s.node.pairs
 lk:s.node.keys.length≤ck
 keys:(Kd.int .i64).F W D Ak s.node.keys.length s.node.keys
 ly:s.node.ways.length≤cy
 ways:(Kd.int .i64).F W D Ay s.node.ways.length s.node.ways
 lw:s.ways.length≤cw
 now:(Kd.int .i64).F W D Aw s.ways.length s.ways
theorem GK {W:World} {D:Nat→Prop} {s:Sn} {c:List Value} (h:kSn.FK W D s c): ∃ Ap cp Ak ck Ay cy Aw cw,c=OM s Ap cp Ak ck Ay cy Aw cw∧SnF W D s Ap cp Ak ck Ay cy Aw cw:=by
 obtain ⟨Ap,cp,Ak,ck,Ay,cy,Aw,cw,e,l1,_,l2,_,l3,_,l4,_⟩:=Og (Kd.si h)
 have hh: ∀ W':World,(∀ k,D k→k<W.heap.size→W'.heap[k]?=W.heap[k]?)→eT.C W' Ap s.node.pairs.length s.node.pairs∧(Kd.int .i64).C W' Ak s.node.keys.length s.node.keys∧(Kd.int .i64).C W' Ay s.node.ways.length s.node.ways∧(Kd.int .i64).C W' Aw s.ways.length s.ways:=fun W' hW=>by
  obtain ⟨Ap2,cp2,Ak2,ck2,Ay2,cy2,Aw2,cw2,e2,_,h1,_,h2,_,h3,_,h4⟩:=Og (h W' hW)
  rw [e] at e2
  simp only [List.cons.injEq,Value.slice.injEq,and_true,true_and] at e2
  obtain ⟨⟨rfl,rfl⟩,⟨rfl,rfl⟩,⟨rfl,rfl⟩,⟨rfl,rfl⟩⟩:=e2
  exact ⟨h1,h2,h3,h4⟩
 exact ⟨Ap,cp,Ak,ck,Ay,cy,Aw,cw,e,l1,fun W' hW=>(hh W' hW).1,l2,fun W' hW=>(hh W' hW).2.1,l3,fun W' hW=>(hh W' hW).2.2.1,l4,fun W' hW=>(hh W' hW).2.2.2⟩
structure Be (W:World) (g o:Nat) (s:Sn) (Ap:Option Addr) (cp:Nat) (Ak:Option Addr) (ck:Nat) (Ay:Option Addr) (cy:Nat) (Aw:Option Addr) (cw:Nat):Prop where
 c0:W.cell? ⟨g,o,none⟩=some (.int .i64 s.ref)
 c1:W.cell? ⟨g,o+1,none⟩=some (.int .i64 s.info)
 c2:W.cell? ⟨g,o+2,none⟩=some (.bool s.node.inner)
 c3:W.cell? ⟨g,o+3,none⟩=some (.bool s.node.tagged)
 c4:W.cell? ⟨g,o+4,none⟩=some (.slice Ap s.node.pairs.length cp)
 c5:W.cell? ⟨g,o+5,none⟩=some (.slice Ak s.node.keys.length ck)
 c6:W.cell? ⟨g,o+6,none⟩=some (.slice Ay s.node.ways.length cy)
 c7:W.cell? ⟨g,o+7,none⟩=some (.slice Aw s.ways.length cw)
theorem NQ {w:World} {D:Nat→Prop} {A:Option Addr} {n:Nat} {xs:List Sn} (h:kSn.F w D A n xs) (hf:Flat A) (i:Nat) (hi:i<n):
  ∃ g Ap cp Ak ck Ay cy Aw cw,A=some ⟨g,0,none⟩∧Be w g (i*8) (xs.getD i sn0) Ap cp Ak ck Ay cy Aw cw∧SnF w D (xs.getD i sn0) Ap cp Ak ck Ay cy Aw cw:=by
 obtain ⟨g,c,e,_,hk,hc⟩:=GJ h hf sn0 i hi (by decide)
 obtain ⟨Ap,cp,Ak,ck,Ay,cy,Aw,cw,rfl,hF⟩:=GK hk
 have h1: ∀ j u,(OM (xs.getD i sn0) Ap cp Ak ck Ay cy Aw cw)[j]?=some u→w.cell? ⟨g,i*8+j,none⟩=some u:=hc
 exact ⟨g,Ap,cp,Ak,ck,Ay,cy,Aw,cw,e,⟨h1 0 _ rfl,h1 1 _ rfl,h1 2 _ rfl,h1 3 _ rfl,h1 4 _ rfl,h1 5 _ rfl,h1 6 _ rfl,h1 7 _ rfl⟩,hF⟩
theorem SnF.mono {W:World} {D D1:Nat→Prop} {s:Sn} {Ap Ak Ay Aw:Option Addr} {cp ck cy cw:Nat} (h:SnF W D s Ap cp Ak ck Ay cy Aw cw) (hk: ∀ k,D k→D1 k):SnF W D1 s Ap cp Ak ck Ay cy Aw cw:=⟨h.lp,Kd.bP h.prs hk,h.lk,Kd.bP h.keys hk,h.ly,Kd.bP h.ways hk,h.lw,Kd.bP h.now hk⟩
theorem SnF.moves {ok ok1:Nat→Prop} {W W1:World} {s:Sn} {Ap Ak Ay Aw:Option Addr} {cp ck cy cw:Nat} (h:SnF W (fun k=> ¬ ok k) s Ap cp Ak ck Ay cy Aw cw) (m:Moves ok ok1 W W1):SnF W1 (fun k=> ¬ ok1 k) s Ap cp Ak ck Ay cy Aw cw:=⟨h.lp,ig h.prs m,h.lk,ig h.keys m,h.ly,ig h.ways m,h.lw,ig h.now m⟩
def sP (l:List Sn) (keep way old now:Int):Pr Ws (Bool × Bool):=aQ (storeT ⟨l.map Sn.ref,l.map Sn.info,keep,way,old,now⟩) fun n=>if n=0 then dw (false,true) else aQ (pV n) fun b=>dw (b,false)
def lu:List Int→List Sn→Pr Ws (List Sn × Bool)
 | [],acc=>dw (acc,true)
 | r::l,acc=>aQ (loadT r) fun x=>if x.2=0 then lu l (acc++ [x.1]) else dw ([],false)
def qj (s:Sn) (way r:Int):Bool:=decide (0≤way) && (decide (way<s.ways.length) && (s.ways.getD way.toNat 0 == r))
def VBB (a:Bool × Bool) (_:Nat→Prop) (v:Value) (_:World):Prop:=v= .tuple #[.bool a.1,.bool a.2]
structure gP (p tb:Nat) (work:Value) (me:Int) (bt:Nat) (ok:Nat→Prop) (w:World) (br:Nat) (bs:List Nat) (kp wy od nw:Int) (l:List Sn) (A:Option Addr) (s:TS Ws) (xs ys:List Int) (A1:Option Addr) (c1:Nat) (A2:Option Addr) (c2:Nat) (wc:World):Prop where
 task:aX p tb work me bt ok w ok s wc
 box:Mine ok wc br (.cells #[.slice A1 xs.length c1,.slice A2 ys.length c2,.int .i64 kp,.int .i64 wy,.int .i64 od,.int .i64 nw] 254 (0,0))
 new:w.heap.size≤br∧br≠bt∧bt∈bs∧br∈bs
 r1:(Kd.int .i64).R 45 wc w.heap.size (Fr ok (fun q=>q∉bs)) (.slice A1 xs.length c1) xs
 r2:(Kd.int .i64).R 2 wc w.heap.size (Fr ok (fun q=>q∉bs)) (.slice A2 ys.length c2) ys
 row:kSn.F wc (fun q=> ¬ ok q∧q<w.heap.size) A l.length l
section
variable {p tb:Nat} {work:Value} {me:Int} {bt:Nat} {ok:Nat→Prop} {w wc w2:World} {br:Nat} {bs:List Nat} {kp wy od nw:Int} {l:List Sn} {A:Option Addr} {s:TS Ws} {xs ys:List Int} {A1 A2 A3:Option Addr} {c1 c2 c3:Nat}
theorem gP.alloc (h:gP p tb work me bt ok w br bs kp wy od nw l A s xs ys A1 c1 A2 c2 wc) (o:Obj):gP p tb work me bt ok w br (wc.heap.size::bs) kp wy od nw l A s xs ys A1 c1 A2 c2 (wc.alloc o):=
 ⟨h.task.alloc o,h.box.alloc o,⟨h.new.1,h.new.2.1,List.mem_cons_of_mem _ h.new.2.2.1,List.mem_cons_of_mem _ h.new.2.2.2⟩,
  Kd.dD (Kd.bC (Kd.bR h.r1) (fun k hk=>⟨hk.1.1,fun e=>(List.mem_cons.1 e).elim (fun e=>by have:=hk.2.2.1;omega) hk.1.2⟩)) o,
  Kd.dD (Kd.bC (Kd.bR h.r2) (fun k hk=>⟨hk.1.1,fun e=>(List.mem_cons.1 e).elim (fun e=>by have:=hk.2.2.1;omega) hk.1.2⟩)) o,Kd.eP h.row o⟩
theorem gP.less (h:gP p tb work me bt ok w br bs kp wy od nw l A s xs ys A1 c1 A2 c2 wc) (bs1:List Nat) (hs: ∀ q∈bs1,q∈bs) (h1:bt∈bs1) (h2:br∈bs1):gP p tb work me bt ok w br bs1 kp wy od nw l A s xs ys A1 c1 A2 c2 wc:=
 ⟨h.task,h.box,⟨h.new.1,h.new.2.1,h1,h2⟩,Kd.bC h.r1 (fun k hk=>⟨hk.1,fun e=>hk.2 (hs k e)⟩),Kd.bC h.r2 (fun k hk=>⟨hk.1,fun e=>hk.2 (hs k e)⟩),h.row⟩
theorem gP.RS (h:gP p tb work me bt ok w br bs kp wy od nw l A s xs ys A1 c1 A2 c2 wc): ∀ k,(Value.slice A1 xs.length c1).ownBlock=some k→ ¬ ok k∧w.heap.size≤k∧k∉bs:=fun k e=>by
 have h1:=(Kd.bR h.r1).1 k e
 exact ⟨h1.1.1,h1.2.1,h1.1.2⟩
theorem gP.RJ (h:gP p tb work me bt ok w br bs kp wy od nw l A s xs ys A1 c1 A2 c2 wc): ∀ k,(Value.slice A2 ys.length c2).ownBlock=some k→ ¬ ok k∧w.heap.size≤k∧k∉bs:=fun k e=>by
 have h1:=(Kd.bR h.r2).1 k e
 exact ⟨h1.1.1,h1.2.1,h1.1.2⟩
theorem gP.Rp (h:gP p tb work me bt ok w br bs kp wy od nw l A s xs ys A1 c1 A2 c2 wc) (hg:wc.grownBy w2 (Value.slice A1 xs.length c1).ownBlock) {g:Nat} {o:Obj} (hm:wc.heap[g]?=some o) (hb:g∈bs):w2.heap[g]?=some o:=bS hm hg (fun e=>(h.RS g e.symm).2.2 hb)
theorem gP.QI (h:gP p tb work me bt ok w br bs kp wy od nw l A s xs ys A1 c1 A2 c2 wc) (hg:wc.grownBy w2 (Value.slice A2 ys.length c2).ownBlock) {g:Nat} {o:Obj} (hm:wc.heap[g]?=some o) (hb:g∈bs):w2.heap[g]?=some o:=bS hm hg (fun e=>(h.RJ g e.symm).2.2 hb)
theorem gP.fresh (h:gP p tb work me bt ok w br bs kp wy od nw l A s xs ys A1 c1 A2 c2 wc) (hb: ∀ q∈bs,q<wc.heap.size): ∀ k,wc.heap.size≤k→Fr ok (fun q=>q∉bs) k:=fun k hk=>⟨fun h1=>by have:=h.task.lt k h1;omega,fun h1=>by have:=hb k h1;omega⟩
theorem gP.QL (h:gP p tb work me bt ok w br bs kp wy od nw l A s xs ys A1 c1 A2 c2 wc) {x:Int} (hR:(Kd.int .i64).R 45 w2 w.heap.size (Fr ok (fun q=>q∉bs)) (.slice A3 (xs++ [x]).length c3) (xs++ [x])) (hg:wc.grownBy w2 (Value.slice A1 xs.length c1).ownBlock):
  gP p tb work me bt ok w br bs kp wy od nw l A s (xs++ [x]) ys A3 c3 A2 c2 (w2.setCell ⟨br,0,none⟩ (.slice A3 (xs++ [x]).length c3)):=by
 have far: ∀ k,k≠br→(w2.setCell ⟨br,0,none⟩ (.slice A3 (xs++ [x]).length c3)).heap[k]?=w2.heap[k]?:=fun k hk=>Below.heap_setCell _ ⟨br,0,none⟩ _ k hk
 have ne1: ∀ k,k∉bs→k≠br:=fun k hk e=>hk (e▸h.new.2.2.2)
 have ow:=h.RS
 refine ⟨(h.task.grown hg (fun k e=>⟨(ow k e).1,(ow k e).2.1,fun e1=>(ow k e).2.2 (e1▸h.new.2.2.1)⟩)).set (q:=⟨br,0,none⟩) h.box.2 h.new.1 h.new.2.1 _,Mine.set (Mine.grown h.box hg (fun k e=>ne1 k (ow k e).2.2)) 0 _,h.new,jF hR br ne1 far,jF (Kd.LK h.r2 h.r1 (by decide) hg) br ne1 far,?_⟩
 exact Kd.eZ (Kd.qg h.row hg (fun k hk e=>by have:=(ow k e.symm).2.1;have:=hk.2;omega)) (fun k hk _=>far k (by have:=h.new.1;have:=hk.2;omega))
theorem gP.Rk (h:gP p tb work me bt ok w br bs kp wy od nw l A s xs ys A1 c1 A2 c2 wc) {x:Int} (hR:(Kd.int .i64).R 2 w2 w.heap.size (Fr ok (fun q=>q∉bs)) (.slice A3 (ys++ [x]).length c3) (ys++ [x])) (hg:wc.grownBy w2 (Value.slice A2 ys.length c2).ownBlock):
  gP p tb work me bt ok w br bs kp wy od nw l A s xs (ys++ [x]) A1 c1 A3 c3 (w2.setCell ⟨br,1,none⟩ (.slice A3 (ys++ [x]).length c3)):=by
 have far: ∀ k,k≠br→(w2.setCell ⟨br,1,none⟩ (.slice A3 (ys++ [x]).length c3)).heap[k]?=w2.heap[k]?:=fun k hk=>Below.heap_setCell _ ⟨br,1,none⟩ _ k hk
 have ne1: ∀ k,k∉bs→k≠br:=fun k hk e=>hk (e▸h.new.2.2.2)
 have ow:=h.RJ
 refine ⟨(h.task.grown hg (fun k e=>⟨(ow k e).1,(ow k e).2.1,fun e1=>(ow k e).2.2 (e1▸h.new.2.2.1)⟩)).set (q:=⟨br,1,none⟩) h.box.2 h.new.1 h.new.2.1 _,Mine.set (Mine.grown h.box hg (fun k e=>ne1 k (ow k e).2.2)) 1 _,h.new,jF (Kd.LK h.r1 h.r2 (by decide) hg) br ne1 far,jF hR br ne1 far,?_⟩
 exact Kd.eZ (Kd.qg h.row hg (fun k hk e=>by have:=(ow k e.symm).2.1;have:=hk.2;omega)) (fun k hk _=>far k (by have:=h.new.1;have:=hk.2;omega))
end
theorem sK (p tb:Nat) (work:Value) (me:Int) (ok:Nat→Prop) (s:TS Ws) (w:World) (l:List Sn) (A:Option Addr) (c:Nat) (kp wy od nw:Int) (h:dU (shW p) tb work ok s w) (hl:kSn.F w (fun k=> ¬ ok k) A l.length l) (hfl:Flat A) (hk0:0≤kp) (hsm:l.length<1000) (res:Out (Bool × Bool) × TS Ws) (hr:sP l kp wy od nw s=some res):
  Calls Tryz.prog 122 #[eu tb p me,.slice A l.length c,.int .i64 kp,.int .i64 wy,.int .i64 od,.int .i64 nw] w (gH (shW p) tb work VBB ok w res):=by
 have HTV:eu tb p me= .agg #[.pointer (some ⟨tb,0,none⟩),.pointer (some ⟨p,0,none⟩),.int .i64 me]:=rfl
 rw [HTV]
 have h0:=aX.enter (me:=me) h
 unfold fZ at h0
 have HL:av (gP p tb work me w.heap.size ok w (w.heap.size+1) [w.heap.size,w.heap.size+1] kp wy od nw l A s [] [] none 0 none 0 ((w.alloc (.cells #[.pointer (some ⟨tb,0,none⟩),.pointer (some ⟨p,0,none⟩),.int .i64 me] 114)).alloc (.cells #[.slice none 0 0,.slice none 0 0,.int .i64 kp,.int .i64 wy,.int .i64 od,.int .i64 nw] 254))):=⟨{
  task:=h0.alloc (.cells #[.slice none 0 0,.slice none 0 0,.int .i64 kp,.int .i64 wy,.int .i64 od,.int .i64 nw] 254)
  box:=by
   have h1:=Mine.new h0.lt (.cells #[.slice none 0 0,.slice none 0 0,.int .i64 kp,.int .i64 wy,.int .i64 od,.int .i64 nw] 254)
   simp only [World.size_alloc] at h1
   exact h1
  new:=⟨by omega,by omega,by simp,by simp⟩
  r1:=Kd.gY _ _ _ _ _
  r2:=Kd.gY _ _ _ _ _
  row:=Kd.eP (Kd.eP (Kd.dP hl) _) _ }⟩
 have HR:=Am_ hr
 have HK:=Am_ (And.intro hk0 (And.intro hsm hfl))
 clear h h0 hr HTV hl hk0 hsm hfl
 go_enter Tryz.func122,Tryz.ntmps122
 go_upto_region 2 with fail
 generalize (w.alloc (.cells #[.pointer (some ⟨tb,0,none⟩),.pointer (some ⟨p,0,none⟩),.int .i64 me] 114)).alloc (.cells #[.slice none 0 0,.slice none 0 0,.int .i64 kp,.int .i64 wy,.int .i64 od,.int .i64 nw] 254)=w2 at HL ⊢
 generalize hbt:w.heap.size=bt at HL ⊢
 generalize hbr:bt+1=br at HL ⊢
 clear hbt hbr
 go_upto_block 0 with fail
 go_wp2_with fail
 go_loopg [25] l.length (fun g v25 wr=> ∃ k:Nat,v25= .int .i64 k∧k+g=l.length∧av (∃ A1 c1 A2 c2,gP p tb work me bt ok w br [bt,br] kp wy od nw l A s ((l.take k).map Sn.ref) ((l.take k).map Sn.info) A1 c1 A2 c2 wr))
 case atStart=>exact ⟨0,rfl,by omega,⟨none,0,none,0,HL.out⟩⟩
 case round=>
  obtain ⟨k,rfl,hkg,HQ⟩:=hrel
  clear HL
  obtain ⟨A1,c1,A2,c2,hq⟩:=HQ.out
  clear HQ
  cases gk with
  | zero=>
   have hk:k=l.length:=by omega
   have d1:decide ((k:Int)<(l.length:Int))=false:=decide_eq_false (by omega)
   have d2:decide (k<l.length)=false:=decide_eq_false (by omega)
   have e1:l.take k=l:=List.take_of_length_le (by omega)
   rw [e1] at hq
   have hr:aQ (storeT ⟨l.map Sn.ref,l.map Sn.info,kp,wy,od,nw⟩) (fun n=>if n=0 then dw (false,true) else aQ (pV n) fun b=>dw (b,false)) s=some res:=HR.out
   obtain ⟨o,t,hd,hcase⟩:=aN hr
   have HD:=Am_ hd
   have HCS:=Am_ hcase
   clear hd hcase
   have hle:(l.map Sn.info).length=(l.map Sn.ref).length:=by simp
   have hq1:=hq.box
   have hq2:(Kd.int .i64).F wr (fun q=> ¬ ok q) A2 (l.map Sn.info).length (l.map Sn.info):=Kd.bP (Kd.R_F hq.r2) (fun q hk=>hk.1)
   rw [hle] at hq1 hq2
   have HB:=Am_ hq1
   have HF1:av ((Kd.int .i64).F wr (fun q=> ¬ ok q) A1 (l.map Sn.ref).length (l.map Sn.ref)):=⟨Kd.bP (Kd.R_F hq.r1) (fun q hk=>hk.1)⟩
   have HF2:=Am_ hq2
   have HT:=Am_ hq.task
   have HLN:av ((l.map Sn.ref).length<1000000∧(l.map Sn.ref).length=(l.map Sn.info).length):=⟨by rw [List.length_map,List.length_map];exact ⟨by have:=HK.out.2.1;omega,rfl⟩⟩
   have c0:=hq.task.c0
   clear hq hr e1 HR hk hq1 hq2 hle
   go_upto_region 9 with (go_at_call 137;refine (HT.out.store_ HB.out HF1.out HF2.out HK.out.1 HLN.out.1 HLN.out.2 HD.out).mono ?_;rintro e wq ⟨⟨okq,hm,hT,he⟩⟩;rcases HCS.out with hw | hw;(obtain ⟨rfl,rfl⟩:=hw;obtain rfl:e= .panicked dK:=he;exact ⟨rfl,⟨⟨okq,hT.moves,hT.run,rfl⟩⟩⟩);obtain ⟨n,rfl,hr2⟩:=hw;obtain rfl:e= .returned (.int .i64 n):=he;have HT:=Am_ hT;have HR2:=Am_ hr2;clear hm hT hr2;clear c0)
   clear HB HF1 HF2 HLN HD HCS d1 d2
   by_cases hn:n=0
   ·have e1:(n == 0)=true:=by simp [hn]
    have HR3:av (dw (false,true) t=some res):=⟨by have h:=HR2.out;rw [if_pos hn] at h;exact h⟩
    clear hn HR2
    go_wp2_with fail
    (try simp only [Exit.inBlock,Exit.then])
    refine bodyPost_ret (dF (rs:= [.tmp 12,.tmp 13]) rfl (by simp) (.tmp (.tmp .nil))) rfl ?_
    obtain rfl:res=(.ret (false,true),t):=by have h:=HR3.out;injection h with h;exact h.symm
    exact ⟨⟨_,HT.out.moves,HT.out.run,_,rfl,rfl⟩⟩
   ·have e1:(n == 0)=false:=by simpa using hn
    have hr:aQ (pV n) (fun b=>dw (b,false)) t=some res:=by have h:=HR2.out;rw [if_neg hn] at h;exact h
    clear hn HR2
    obtain ⟨o,t,hd,hcase⟩:=aN hr
    have HD:=Am_ hd
    have HCS:=Am_ hcase
    clear hd hcase
    have c0:=HT.out.c0
    have c1:=HT.out.c1
    have c2:=HT.out.c2
    clear hr
    go_wp2_with (go_at_call 175;refine (qw p tb work me n _ _ _ HT.out.run (o,t) HD.out).mono ?_;rintro e wq ⟨okq,hm,hi,he⟩;rcases HCS.out with hw | hw;(obtain ⟨rfl,rfl⟩:=hw;obtain rfl:e= .panicked dK:=he;exact ⟨rfl,⟨⟨okq,HT.out.moves.trans hm,hi,rfl⟩⟩⟩);obtain ⟨b,rfl,hr2⟩:=hw;obtain ⟨_,rfl,rfl⟩:=he;have HT:=Am_ (HT.out.next hm hi);have HR3:=Am_ hr2;clear hm hi hr2 c0 c1 c2)
    (try simp only [Exit.inBlock,Exit.then])
    refine bodyPost_ret (dF (rs:= [.tmp 12,.tmp 13]) rfl (by simp) (.tmp (.tmp .nil))) rfl ?_
    obtain rfl:res=(.ret (b,false),t):=by have h:=HR3.out;injection h with h;exact h.symm
    exact ⟨⟨_,HT.out.moves,HT.out.run,_,rfl,rfl⟩⟩
  | succ g=>
   have d1:decide ((k:Int)<(l.length:Int))=true:=decide_eq_true (by omega)
   have d2:decide (k<l.length)=true:=decide_eq_true (by omega)
   have b1:(0:Int)≤(k:Int):=by omega
   have b2:(k:Int)<(l.length:Int):=by omega
   have b3:k<l.length:=by omega
   have hw1:wrap64 ((k:Int)+1)=((k+1:Nat):Int):=by have:=HK.out;unfold wrap64;omega
   have HW1:=Am_ hw1
   obtain ⟨gA,Ap,cp,Ak,ck,Ay,cy,Aw,cw,eA,hC,_⟩:=NQ hq.row HK.out.2.2 k b3
   have htk:l.take (k+1)=l.take k++ [l.getD k sn0]:=by rw [List.take_add_one,List.getElem?_eq_getElem b3,List.getD_eq_getElem?_getD,List.getElem?_eq_getElem b3];rfl
   have HTK:=Am_ htk
   generalize l.getD k sn0=sn at hC htk HTK
   have HLX:av (((l.take k).map Sn.ref).length<1000∧((l.take k).map Sn.info).length<1000):=⟨by simp only [List.length_map,List.length_take];have:=HK.out;omega⟩
   generalize hxs:(l.take k).map Sn.ref=xs at hq HLX
   generalize hys:(l.take k).map Sn.info=ys at hq HLX
   have HXS:=Am_ (And.intro hxs hys)
   obtain ⟨a0,a1,a2,a3,a4,a5,a6,a7⟩:=hC
   have HS:=Am_ hq
   clear htk hw1 hxs hys hq
   subst eA
   go_upto_region 5 with fail
   clear a0 a1 a2 a3 a4 a5 a6 a7
   have HNE:av (wr.heap.size≠br):=⟨by have:=HS.out.box.lt;omega⟩
   have HS4:=Am_ (HS.out.alloc (.cells #[.int .i64 sn.ref,.int .i64 sn.info,.bool sn.node.inner,.bool sn.node.tagged,.slice Ap sn.node.pairs.length cp,.slice Ak sn.node.keys.length ck,.slice Ay sn.node.ways.length cy,.slice Aw sn.ways.length cw] 195))
   have HB4:=Am_ (bU wr (.cells #[.int .i64 sn.ref,.int .i64 sn.info,.bool sn.node.inner,.bool sn.node.tagged,.slice Ap sn.node.pairs.length cp,.slice Ak sn.node.keys.length ck,.slice Ay sn.node.ways.length cy,.slice Aw sn.ways.length cw] 195))
   clear HS
   generalize wr.alloc (.cells #[.int .i64 sn.ref,.int .i64 sn.info,.bool sn.node.inner,.bool sn.node.tagged,.slice Ap sn.node.pairs.length cp,.slice Ak sn.node.keys.length ck,.slice Ay sn.node.ways.length cy,.slice Aw sn.ways.length cw] 195)=w4 at HS4 HB4 ⊢
   generalize wr.heap.size=b16 at HS4 HB4 HNE ⊢
   have y0:=(af HS4.out.box.1 0).trans (rfl:_=some (Value.slice A1 xs.length c1))
   have y1:=(af HB4.out 0).trans (rfl:_=some (Value.int .i64 sn.ref))
   go_upto_region 6 with ((with_reducible refine cB (b:= .append) (xs:= #[.tmp 30,.tmp 33]) rfl ?_);at_builtin;refine Kd.gW (Kd.int .i64) (w0:=w4) w.heap.size rfl (.tmp 30) (.tmp 33) 153 45 (.int .i64 0) 8 rfl Tryz.underlying153 um rfl (by decide) (by omega) (Value.slice A1 xs.length c1) xs sn.ref [.int .i64 sn.ref] (Fr ok (fun q=>q∉ [b16,bt,br])) (fun _=>False) rfl rfl rfl (fun _ hk=>hk.elim) (HS4.out.fresh (by intro q hq;simp only [List.mem_cons,List.not_mem_nil,or_false] at hq;have h1:=HS4.out.task.box.lt;have h2:=HS4.out.box.lt;have h3:=bH HB4.out;omega)) HS4.out.r1 (Below.refl _ _) HS4.out.task.moves.size (by have:=HLX.out;omega) ?_;intro v6 w6 ho hb6 hg hat;obtain ⟨A6,c6,rfl⟩:=Kd.aW ho;have z6:w6.frozen? ⟨br,0,none⟩=false:=ah (HS4.out.Rp hg HS4.out.box.1 (by simp)) 0;have k6:=(af (HS4.out.Rp hg HS4.out.box.1 (by simp)) 0).trans (rfl:_=some (Value.slice A1 xs.length c1));have HB6:=Am_ (HS4.out.Rp hg HB4.out (by simp));have HS6:=Am_ (HS4.out.QL ho hg);clear ho hb6 hg hat)
   clear y0 y1 z6 k6 HS4 HB4
   rw [show (xs++ [sn.ref]).length=xs.length+1 by simp] at HS6
   have HB7:=Am_ ((Below.heap_setCell w6 ⟨br,0,none⟩ (.slice A6 (xs.length+1) c6) b16 HNE.out).trans HB6.out)
   clear HB6
   generalize w6.setCell ⟨br,0,none⟩ (.slice A6 (xs.length+1) c6)=w7 at HS6 HB7 ⊢
   have y0:=(af HS6.out.box.1 1).trans (rfl:_=some (Value.slice A2 ys.length c2))
   have y1:=(af HB7.out 1).trans (rfl:_=some (Value.int .i64 sn.info))
   go_upto_region 7 with ((with_reducible refine cB (b:= .append) (xs:= #[.tmp 37,.tmp 40]) rfl ?_);at_builtin;refine Kd.gW (Kd.int .i64) (w0:=w7) w.heap.size rfl (.tmp 37) (.tmp 40) 22 2 (.int .i64 0) 8 rfl Tryz.underlying22 sW rfl (by decide) (by omega) (Value.slice A2 ys.length c2) ys sn.info [.int .i64 sn.info] (Fr ok (fun q=>q∉ [b16,bt,br])) (fun _=>False) rfl rfl rfl (fun _ hk=>hk.elim) (HS6.out.fresh (by intro q hq;simp only [List.mem_cons,List.not_mem_nil,or_false] at hq;have h1:=HS6.out.task.box.lt;have h2:=HS6.out.box.lt;have h3:=bH HB7.out;omega)) HS6.out.r2 (Below.refl _ _) HS6.out.task.moves.size (by have:=HLX.out;omega) ?_;intro v8 w8 ho hb6 hg hat;obtain ⟨A8,c8,rfl⟩:=Kd.aW ho;have z8:w8.frozen? ⟨br,1,none⟩=false:=ah (HS6.out.QI hg HS6.out.box.1 (by simp)) 1;have k8:=(af (HS6.out.QI hg HS6.out.box.1 (by simp)) 1).trans (rfl:_=some (Value.slice A2 ys.length c2));have HB8:=Am_ (HS6.out.QI hg HB7.out (by simp));have HS8:=Am_ (HS6.out.Rk ho hg);clear ho hb6 hg hat)
   clear y0 y1 z8 k8 HS6 HB7 HB8
   rw [show (ys++ [sn.info]).length=ys.length+1 by simp] at HS8
   generalize w8.setCell ⟨br,1,none⟩ (.slice A8 (ys.length+1) c8)=w9 at HS8 ⊢
   go_wp2_with fail
   go_roundg g
   case rel=>
    refine ⟨k+1,by first | rfl | rw [HW1.out],by omega,⟨⟨A6,c6,A8,c8,?_⟩⟩⟩
    rw [HTK.out,List.map_append,List.map_append,HXS.out.1,HXS.out.2]
    exact HS8.out.less [bt,br] (by simp) (by simp) (by simp)
   case measure=>omega
theorem Gr:(Tryz.prog.info? 195).map (fun i=>(i.zero,i.size,i.bytes))=some (some (.agg #[.int .i64 0,.int .i64 0,.bool false,.bool false,.slice none 0 0,.slice none 0 0,.slice none 0 0,.slice none 0 0]),8,120):=by kernel_rfl
def OE (N:Nat) (a:List Sn × Bool) (ok:Nat→Prop) (v:Value) (w:World):Prop:= ∃ A c,v= .tuple #[.slice A a.1.length c,.bool a.2]∧kSn.R 195 w N (fun k=> ¬ ok k) (.slice A a.1.length c) a.1
structure jO (p tb:Nat) (work:Value) (me:Int) (bt:Nat) (ok:Nat→Prop) (w:World) (rs:List Int) (AR:Option Addr) (okc:Nat→Prop) (s:TS Ws) (acc:List Sn) (A1:Option Addr) (c1:Nat) (wc:World):Prop where
 task:aX p tb work me bt ok w okc s wc
 row:kSn.R 195 wc w.heap.size (Fr okc (fun q=>q≠bt)) (.slice A1 acc.length c1) acc
 refs:(Kd.int .i64).F wc (fun q=> ¬ okc q∧q<w.heap.size) AR rs.length rs
section
variable {p tb:Nat} {work:Value} {me:Int} {bt:Nat} {ok okc okq:Nat→Prop} {w wc wq w2:World} {rs:List Int} {AR:Option Addr} {s s2:TS Ws} {acc:List Sn} {A1 A2:Option Addr} {c1 c2:Nat}
theorem jO.next (h:jO p tb work me bt ok w rs AR okc s acc A1 c1 wc) (m:Moves okc okq wc wq) (t:aX p tb work me bt ok w okq s2 wq):jO p tb work me bt ok w rs AR okq s2 acc A1 c1 wq:=
 ⟨t,iy h.row m,Kd.bP (Kd.eZ (Kd.dP h.refs) (fun k hk hlt=>m.block k hlt hk.1.1)) (fun k hk=>⟨fun h1=>(m.fresh k h1).elim hk.1.1 (fun h2=>by have:=hk.2;omega),hk.1.2⟩)⟩
theorem jO.alloc (h:jO p tb work me bt ok w rs AR okc s acc A1 c1 wc) (o:Obj):jO p tb work me bt ok w rs AR okc s acc A1 c1 (wc.alloc o):=h.next ((Moves.refl _ _).alloc o) (h.task.alloc o)
theorem jO.fresh (h:jO p tb work me bt ok w rs AR okc s acc A1 c1 wc): ∀ k,wc.heap.size≤k→Fr okc (fun q=>q≠bt) k:=fun k hk=>⟨fun h1=>by have:=h.task.lt k h1;omega,fun h1=>by have:=h.task.box.lt;omega⟩
theorem jO.push (h:jO p tb work me bt ok w rs AR okc s acc A1 c1 wc) {x:Sn} (hR:kSn.R 195 w2 w.heap.size (Fr okc (fun q=>q≠bt)) (.slice A2 (acc++ [x]).length c2) (acc++ [x])) (hg:wc.grownBy w2 (Value.slice A1 acc.length c1).ownBlock):
  jO p tb work me bt ok w rs AR okc s (acc++ [x]) A2 c2 w2:=by
 have ow:=(Kd.bR h.row).1
 exact ⟨h.task.grown hg (fun k e=>⟨(ow k e).1.1,(ow k e).2.1,(ow k e).1.2⟩),hR,Kd.qg h.refs hg (fun k hk e=>by have:=(ow k e.symm).2.1;have:=hk.2;omega)⟩
theorem jO.part (h:jO p tb work me bt ok w rs AR okc s acc A1 c1 wc) (m:Moves okc okq wc wq) {x:Sn} {cs:List Value} (hM:kSn.M wq wc.heap.size (fun k=> ¬ okq k) x cs):kSn.M wq w.heap.size (fun k=> ¬ okq k∧wc.heap.size≤k∧k<wq.heap.size) x cs∧(∀ k,¬ okq k∧wc.heap.size≤k∧k<wq.heap.size→Fr okq (fun q=>q≠bt) k∧some k≠(Value.slice A1 acc.length c1).ownBlock):=
 ⟨kSn.M_lower h.task.moves.size (kSn.M_mono (fun k hk=>⟨hk.1,hk.2.1,hk.2.2.1⟩) (kSn.M_bound hM)),fun k hk=>⟨⟨hk.1,fun e=>by have:=h.task.box.lt;omega⟩,fun e=>by have:=((Kd.bR h.row).1 k e.symm).2.2.1;omega⟩⟩
end
theorem Ae (p tb:Nat) (work:Value) (me:Int) (ok:Nat→Prop) (s:TS Ws) (w:World) (rs:List Int) (AR:Option Addr) (c:Nat) (h:dU (shW p) tb work ok s w) (hl:(Kd.int .i64).F w (fun k=> ¬ ok k) AR rs.length rs) (hfl:Flat AR) (hsm:rs.length<1000) (res:Out (List Sn × Bool) × TS Ws) (hr:lu rs [] s=some res):
  Calls Tryz.prog 117 #[eu tb p me,.slice AR rs.length c] w (gH (shW p) tb work (OE w.heap.size) ok w res):=by
 have HTV:eu tb p me= .agg #[.pointer (some ⟨tb,0,none⟩),.pointer (some ⟨p,0,none⟩),.int .i64 me]:=rfl
 rw [HTV]
 have h0:=aX.enter (me:=me) h
 unfold fZ at h0
 have HL:av (jO p tb work me w.heap.size ok w rs AR ok s [] none 0 (w.alloc (.cells #[.pointer (some ⟨tb,0,none⟩),.pointer (some ⟨p,0,none⟩),.int .i64 me] 114))):=⟨{
  task:=h0
  row:=Kd.gY _ _ _ _ _
  refs:=Kd.eP (Kd.dP hl) _ }⟩
 have HR:=Am_ hr
 have HK:=Am_ (And.intro hsm hfl)
 clear h h0 hr HTV hl hsm hfl
 go_enter Tryz.func117,Tryz.ntmps117
 go_upto_region 2 with fail
 generalize w.alloc (.cells #[.pointer (some ⟨tb,0,none⟩),.pointer (some ⟨p,0,none⟩),.int .i64 me] 114)=w2 at HL ⊢
 generalize hbt:w.heap.size=bt at HL ⊢
 have HBT:=Am_ hbt
 clear hbt
 go_upto_block 0 with fail
 go_wp2_with fail
 go_loopg [6,13] rs.length (fun g v6 v13 wr=> ∃ k:Nat,v13= .int .i64 k∧k+g=rs.length∧ ∃ A1 c1 acc,v6= .slice A1 acc.length c1∧acc.length=k∧av (∃ okc s,jO p tb work me bt ok w rs AR okc s acc A1 c1 wr∧lu (rs.drop k) acc s=some res))
 case atStart=>exact ⟨0,rfl,by omega,none,0,[],rfl,rfl,⟨ok,s,HL.out,by have h:=HR.out;rwa [List.drop_zero]⟩⟩
 case round=>
  obtain ⟨k,rfl,hkg,A1,c1,acc,rfl,hla,HQ⟩:=hrel
  clear HL HR
  obtain ⟨okc,s1,hq,hr⟩:=HQ.out
  clear HQ
  have HS:=Am_ hq
  cases gk with
  | zero=>
   have d1:decide ((k:Int)<(rs.length:Int))=false:=decide_eq_false (by omega)
   have d2:decide (k<rs.length)=false:=decide_eq_false (by omega)
   have HR3:av (dw (acc,true) s1=some res):=⟨by rw [List.drop_of_length_le (by omega)] at hr;exact hr⟩
   clear hq hr
   go_wp2_with fail
   (try simp only [Exit.inBlock,Exit.then])
   refine bodyPost_ret (dF (rs:= [.tmp 4,.tmp 5]) rfl (by simp) (.tmp (.tmp .nil))) rfl ?_
   obtain rfl:res=(.ret (acc,true),s1):=by have h:=HR3.out;injection h with h;exact h.symm
   exact ⟨⟨_,HS.out.task.moves,HS.out.task.run,_,rfl,A1,c1,rfl,Kd.bC HS.out.row (fun q hq=>hq.1)⟩⟩
  | succ g=>
   have d1:decide ((k:Int)<(rs.length:Int))=true:=decide_eq_true (by omega)
   have d2:decide (k<rs.length)=true:=decide_eq_true (by omega)
   have b1:(0:Int)≤(k:Int):=by omega
   have b2:(k:Int)<(rs.length:Int):=by omega
   have b3:k<rs.length:=by omega
   have hw1:wrap64 ((k:Int)+1)=((k+1:Nat):Int):=by have:=HK.out.1;unfold wrap64;omega
   have HW1:=Am_ hw1
   have HLX:av (acc.length<1000):=⟨by have:=HK.out.1;omega⟩
   obtain ⟨gR,eA,hC,_⟩:=IB hq.refs HK.out.2 k b3
   have hdr:rs.drop k=rs.getD k 0::rs.drop (k+1):=by
    rw [List.drop_eq_getElem_cons b3,List.getD_eq_getElem?_getD,List.getElem?_eq_getElem b3]
    rfl
   rw [hdr] at hr
   generalize rs.getD k 0=x at hC hr
   have hr:aQ (loadT x) (fun x=>if x.2=0 then lu (rs.drop (k+1)) (acc++ [x.1]) else dw ([],false)) s1=some res:=hr
   obtain ⟨o,t,hd,hcase⟩:=aN hr
   have HD:=Am_ hd
   have HCS:=Am_ hcase
   clear hd hcase
   have c0:=HS.out.task.c0
   have c1_:=HS.out.task.c1
   have c2_:=HS.out.task.c2
   have HLA:=Am_ hla
   clear hr hq hdr hw1 hla
   subst eA
   go_upto_region 6 with (go_at_call 167;refine (Dv p tb work me x _ _ _ HS.out.task.run (o,t) HD.out).mono ?_;rintro e wq ⟨okq,hm,hi,he⟩;rcases HCS.out with hw | hw;(obtain ⟨rfl,rfl⟩:=hw;obtain rfl:e= .panicked dK:=he;exact ⟨rfl,⟨⟨okq,HS.out.task.moves.trans hm,hi,rfl⟩⟩⟩);obtain ⟨a,rfl,hr2⟩:=hw;obtain ⟨_,rfl,cs,rfl,hM⟩:=he;obtain ⟨Ap,cp,Ak,ck,Ay,cy,Aw,cw,rfl,_⟩:=Og (kSn.K_of_M hM);have HM:=Am_ (HS.out.part hm hM);have HS5:=Am_ (HS.out.next hm (HS.out.task.next hm hi));have HR2:=Am_ hr2;have c9:=bU wq (.cells #[.int .i64 a.1.ref,.int .i64 a.1.info,.bool a.1.node.inner,.bool a.1.node.tagged,.slice Ap a.1.node.pairs.length cp,.slice Ak a.1.node.keys.length ck,.slice Ay a.1.node.ways.length cy,.slice Aw a.1.ways.length cw] 195);clear hm hi hr2 hM c0 c1_ c2_)
   have HS6:=Am_ (HS5.out.alloc (.cells #[.int .i64 a.1.ref,.int .i64 a.1.info,.bool a.1.node.inner,.bool a.1.node.tagged,.slice Ap a.1.node.pairs.length cp,.slice Ak a.1.node.keys.length ck,.slice Ay a.1.node.ways.length cy,.slice Aw a.1.ways.length cw] 195))
   have HM6:=Am_ (And.intro (Kd.FW HM.out.1 (w1:=wq.alloc (.cells #[.int .i64 a.1.ref,.int .i64 a.1.info,.bool a.1.node.inner,.bool a.1.node.tagged,.slice Ap a.1.node.pairs.length cp,.slice Ak a.1.node.keys.length ck,.slice Ay a.1.node.ways.length cy,.slice Aw a.1.ways.length cw] 195)) (fun k _ hlt=>Below.heap_alloc _ _ _ hlt)) HM.out.2)
   clear hC HD HCS HS HS5 HM
   generalize wq.alloc (.cells #[.int .i64 a.1.ref,.int .i64 a.1.info,.bool a.1.node.inner,.bool a.1.node.tagged,.slice Ap a.1.node.pairs.length cp,.slice Ak a.1.node.keys.length ck,.slice Ay a.1.node.ways.length cy,.slice Aw a.1.ways.length cw] 195)=w6 at HS6 HM6 c9 ⊢
   generalize wq.heap.size=n6 at HM6 c9 ⊢
   generalize wr.heap.size=n5 at HM6
   have HB9:=Am_ c9
   clear c9
   by_cases h0:a.2=0
   ·have e1:(a.2 != 0)=false:=by simp [h0]
    have HR3:av (lu (rs.drop (k+1)) (acc++ [a.1]) t=some res):=⟨by have h:=HR2.out;rw [if_pos h0] at h;exact h⟩
    clear h0 HR2
    have y0:=(af HB9.out 0).trans (rfl:_=some (Value.int .i64 a.1.ref))
    have y1:=(af HB9.out 1).trans (rfl:_=some (Value.int .i64 a.1.info))
    have y2:=(af HB9.out 2).trans (rfl:_=some (Value.bool a.1.node.inner))
    have y3:=(af HB9.out 3).trans (rfl:_=some (Value.bool a.1.node.tagged))
    have y4:=(af HB9.out 4).trans (rfl:_=some (Value.slice Ap a.1.node.pairs.length cp))
    have y5:=(af HB9.out 5).trans (rfl:_=some (Value.slice Ak a.1.node.keys.length ck))
    have y6:=(af HB9.out 6).trans (rfl:_=some (Value.slice Ay a.1.node.ways.length cy))
    have y7:=(af HB9.out 7).trans (rfl:_=some (Value.slice Aw a.1.ways.length cw))
    go_upto_region 9 with ((with_reducible refine cB (b:= .append) (xs:= #[.tmp 25,.tmp 27]) rfl ?_);at_builtin;refine Kd.gW kSn (w0:=w6) w.heap.size rfl (.tmp 25) (.tmp 27) 191 195 (.agg #[.int .i64 0,.int .i64 0,.bool false,.bool false,.slice none 0 0,.slice none 0 0,.slice none 0 0,.slice none 0 0]) 120 rfl Tryz.underlying191 Gr rfl (by decide) (by omega) (.slice A1 acc.length c1) acc a.1 [.int .i64 a.1.ref,.int .i64 a.1.info,.bool a.1.node.inner,.bool a.1.node.tagged,.slice Ap a.1.node.pairs.length cp,.slice Ak a.1.node.keys.length ck,.slice Ay a.1.node.ways.length cy,.slice Aw a.1.ways.length cw] (Fr okq (fun q=>q≠bt)) (fun k=> ¬ okq k∧n5≤k∧k<n6) rfl rfl HM6.out.1 HM6.out.2 HS6.out.fresh HS6.out.row (Below.refl _ _) HS6.out.task.moves.size (by have:=HLX.out;omega) ?_;intro v8 w8 ho hb8 hg hat;obtain ⟨A8,c8,rfl⟩:=Kd.aW ho;have HS8:=Am_ (HS6.out.push ho hg);clear ho hb8 hg hat)
    clear y0 y1 y2 y3 y4 y5 y6 y7 HB9 HS6 HM6 e1
    go_wp2_with fail
    go_roundg g
    case rel=>exact ⟨k+1,by first | rfl | rw [HW1.out],by omega,A8,c8,acc++ [a.1],by first | rfl | simp,by rw [List.length_append,List.length_singleton,HLA.out],⟨okq,t,HS8.out,HR3.out⟩⟩
    case measure=>omega
   ·have e1:(a.2 != 0)=true:=by simpa using h0
    have HR3:av (dw ([],false) t=some res):=⟨by have h:=HR2.out;rw [if_neg h0] at h;exact h⟩
    clear h0 HR2
    go_wp2_with fail
    (try simp only [Exit.inBlock,Exit.then])
    refine bodyPost_ret (dF (rs:= [.tmp 4,.tmp 5]) rfl (by simp) (.tmp (.tmp .nil))) rfl ?_
    obtain rfl:res=(.ret ([],false),t):=by have h:=HR3.out;injection h with h;exact h.symm
    exact ⟨⟨_,HS6.out.task.moves,HS6.out.task.run,_,rfl,none,0,rfl,Kd.gY _ _ _ _ _⟩⟩
theorem DW (s:Sn) (way r:Int) (w:World) {D:Nat→Prop} {Ap Ak Ay Aw:Option Addr} {cp ck cy cw:Nat} (hF:SnF w D s Ap cp Ak ck Ay cy Aw cw):
  Calls Tryz.prog 118 #[.agg (OM s Ap cp Ak ck Ay cy Aw cw).toArray,.int .i64 way,.int .i64 r] w fun e w1=>e= .returned (.bool (qj s way r))∧Below w.heap.size w w1:=by
 have HX:(OM s Ap cp Ak ck Ay cy Aw cw).toArray= #[.int .i64 s.ref,.int .i64 s.info,.bool s.node.inner,.bool s.node.tagged,.slice Ap s.node.pairs.length cp,.slice Ak s.node.keys.length ck,.slice Ay s.node.ways.length cy,.slice Aw s.ways.length cw]:=rfl
 rw [HX]
 clear HX
 have HB:=Am_ (ai (Below.refl w.heap.size w) (.cells #[.int .i64 s.ref,.int .i64 s.info,.bool s.node.inner,.bool s.node.tagged,.slice Ap s.node.pairs.length cp,.slice Ak s.node.keys.length ck,.slice Ay s.node.ways.length cy,.slice Aw s.ways.length cw] 195))
 have y7:=(af (bU w (.cells #[.int .i64 s.ref,.int .i64 s.info,.bool s.node.inner,.bool s.node.tagged,.slice Ap s.node.pairs.length cp,.slice Ak s.node.keys.length ck,.slice Ay s.node.ways.length cy,.slice Aw s.ways.length cw] 195)) 7).trans (rfl:_=some (Value.slice Aw s.ways.length cw))
 have hC:=Kd.bE (Kd.fM hF.now) HB.out
 clear hF
 by_cases h0:0≤way
 ·have d0:decide (way≥0)=true:=decide_eq_true h0
  have d0':decide (0≤way)=true:=decide_eq_true h0
  by_cases h1:way<s.ways.length
  ·have d1:decide (way<(s.ways.length:Int))=true:=decide_eq_true h1
   have HG:av (qj s way r=(s.ways.getD way.toNat 0 == r)):=⟨by unfold qj;rw [decide_eq_true h0,decide_eq_true h1];rfl⟩
   obtain ⟨ad,rfl,hc⟩:=Kd.rX hC way h0 h1
   have hx:rd s.ways way=s.ways.getD way.toNat 0:=rfl
   rw [hx] at hc
   clear hC hx
   generalize s.ways.getD way.toNat 0=gv at hc HG
   go_enter Tryz.func118,Tryz.ntmps118
   go_wp2_with fail
   go_ret
   exact ⟨by rw [HG.out];rfl,HB.out⟩
  ·have d1:decide (way<(s.ways.length:Int))=false:=decide_eq_false h1
   have HG:av (qj s way r=false):=⟨by unfold qj;rw [decide_eq_true h0,decide_eq_false h1];rfl⟩
   clear hC
   go_enter Tryz.func118,Tryz.ntmps118
   go_wp2_with fail
   go_ret
   exact ⟨by rw [HG.out];rfl,HB.out⟩
 ·have d0:decide (way≥0)=false:=decide_eq_false h0
  have d0':decide (0≤way)=false:=decide_eq_false h0
  have HG:av (qj s way r=false):=⟨by unfold qj;rw [decide_eq_false h0];rfl⟩
  clear hC
  go_enter Tryz.func118,Tryz.ntmps118
  go_wp2_with fail
  go_ret
  exact ⟨by rw [HG.out];rfl,HB.out⟩
def Bo:Bool × List (List Nat × List Nat):=(true,[([],[]),([0],[0]),([],[]),([2],[2]),([3],[3]),([4],[4]),([5],[5]),([6],[6]),([1,7],[1,7]),([],[]),([9,8,8,0,1,2,3,4,5,6,7,8,9],[8,9])])
def KG:List Nat:= [0,1,0,4,12,28,60,124,255,0,1023]
theorem Eb:gJ .any (opsOf Tryz.f123 4)=Bo:=by kernel_rfl
theorem Ah:bI Bo.2 KG=true:=by kernel_rfl
def lV (me:Int):List Int→Pr Ws Unit
 | []=>dw ()
 | r::l=>aQ QF fun n=>aQ (xI me r n) fun _=>lV me l
structure iD (p tb:Nat) (work:Value) (me:Int) (bt:Nat) (ok:Nat→Prop) (w:World) (rs:List Int) (AR:Option Addr) (okc:Nat→Prop) (s:TS Ws) (wc:World):Prop where
 task:aX p tb work me bt ok w okc s wc
 refs:(Kd.int .i64).F wc (fun q=> ¬ okc q∧q<w.heap.size) AR rs.length rs
section
variable {p tb:Nat} {work:Value} {me:Int} {bt:Nat} {ok okc okq:Nat→Prop} {w wc wq w2:World} {rs:List Int} {AR:Option Addr} {s s2:TS Ws}
theorem iD.next (h:iD p tb work me bt ok w rs AR okc s wc) (m:Moves okc okq wc wq) (t:aX p tb work me bt ok w okq s2 wq):iD p tb work me bt ok w rs AR okq s2 wq:=
 ⟨t,Kd.bP (Kd.eZ (Kd.dP h.refs) (fun k hk hlt=>m.block k hlt hk.1.1)) (fun k hk=>⟨fun h1=>(m.fresh k h1).elim hk.1.1 (fun h2=>by have:=hk.2;omega),hk.1.2⟩)⟩
theorem iD.alloc (h:iD p tb work me bt ok w rs AR okc s wc) (o:Obj):iD p tb work me bt ok w rs AR okc s (wc.alloc o):=h.next ((Moves.refl _ _).alloc o) (h.task.alloc o)
theorem iD.drew (h:iD p tb work me bt ok w rs AR okc s wc):iD p tb work me bt ok w rs AR okc s wc.drew:=h.next ((Moves.refl _ _).drew) h.task.drew
theorem iD.set (h:iD p tb work me bt ok w rs AR okc s wc) {q:Addr} (hn: ¬ okc q.block) (hw:w.heap.size≤q.block) (h1:q.block≠bt) (u:Value):iD p tb work me bt ok w rs AR okc s (wc.setCell q u):=
 ⟨h.task.set hn hw h1 u,Kd.qb h.refs (fun k hk e=>by have:=hk.2;omega) u⟩
end
theorem qV (p tb:Nat) (work:Value) (me:Int) (ok:Nat→Prop) (s:TS Ws) (w:World) (rs:List Int) (AR:Option Addr) (c:Nat) (h:dU (shW p) tb work ok s w) (hl:(Kd.int .i64).F w (fun k=> ¬ ok k) AR rs.length rs) (hfl:Flat AR) (hsm:rs.length<1000000) (res:Out Unit × TS Ws) (hr:lV me rs s=some res):
  Calls Tryz.prog 123 #[eu tb p me,.slice AR rs.length c] w (gH (shW p) tb work Ox ok w res):=by
 have HTV:eu tb p me= .agg #[.pointer (some ⟨tb,0,none⟩),.pointer (some ⟨p,0,none⟩),.int .i64 me]:=rfl
 rw [HTV]
 have h0:=aX.enter (me:=me) h
 unfold fZ at h0
 have HL:av (iD p tb work me w.heap.size ok w rs AR ok s (w.alloc (.cells #[.pointer (some ⟨tb,0,none⟩),.pointer (some ⟨p,0,none⟩),.int .i64 me] 114))):=⟨{
  task:=h0
  refs:=Kd.eP (Kd.dP hl) _ }⟩
 have HR:=Am_ hr
 have HK:=Am_ (And.intro hsm hfl)
 clear h h0 hr HTV hl hsm hfl
 go_enter Tryz.func123,Tryz.ntmps123
 go_upto_region 1 with fail
 generalize w.alloc (.cells #[.pointer (some ⟨tb,0,none⟩),.pointer (some ⟨p,0,none⟩),.int .i64 me] 114)=w2 at HL ⊢
 generalize hbt:w.heap.size=bt at HL ⊢
 have HBT:=Am_ hbt
 clear hbt
 go_upto_block 0 with fail
 go_wp2_with fail
 go_loopg [9] rs.length (fun g v9 wr=> ∃ k:Nat,v9= .int .i64 k∧k+g=rs.length∧av (∃ okc s,iD p tb work me bt ok w rs AR okc s wr∧lV me (rs.drop k) s=some res))
 case atStart=>exact ⟨0,rfl,by omega,⟨ok,s,HL.out,by have h:=HR.out;rwa [List.drop_zero]⟩⟩
 case round=>
  obtain ⟨k,rfl,hkg,HQ⟩:=hrel
  clear HL HR
  obtain ⟨okc,s1,hq,hr⟩:=HQ.out
  clear HQ
  have HS:=Am_ hq
  cases gk with
  | zero=>
   have d1:decide ((k:Int)<(rs.length:Int))=false:=decide_eq_false (by omega)
   have d2:decide (k<rs.length)=false:=decide_eq_false (by omega)
   have HR3:av (dw () s1=some res):=⟨by rw [List.drop_of_length_le (by omega)] at hr;exact hr⟩
   clear hq hr
   go_wp2_with fail
   go_end0
   obtain rfl:res=(.ret (),s1):=by have h:=HR3.out;injection h with h;exact h.symm
   exact ⟨⟨_,HS.out.task.moves,HS.out.task.run,_,rfl,rfl⟩⟩
  | succ g=>
   have d1:decide ((k:Int)<(rs.length:Int))=true:=decide_eq_true (by omega)
   have d2:decide (k<rs.length)=true:=decide_eq_true (by omega)
   have b1:(0:Int)≤(k:Int):=by omega
   have b2:(k:Int)<(rs.length:Int):=by omega
   have b3:k<rs.length:=by omega
   have hw1:wrap64 ((k:Int)+1)=((k+1:Nat):Int):=by have:=HK.out.1;unfold wrap64;omega
   have HW1:=Am_ hw1
   obtain ⟨gR,eA,hC,_⟩:=IB hq.refs HK.out.2 k b3
   have hdr:rs.drop k=rs.getD k 0::rs.drop (k+1):=by
    rw [List.drop_eq_getElem_cons b3,List.getD_eq_getElem?_getD,List.getElem?_eq_getElem b3]
    rfl
   rw [hdr] at hr
   generalize rs.getD k 0=x at hC hr
   have hr:aQ QF (fun n=>aQ (xI me x n) fun _=>lV me (rs.drop (k+1))) s1=some res:=hr
   obtain ⟨o,t,hd,hcase⟩:=aN hr
   have HBX:=Am_ (Mine.new hq.task.lt (.cells #[.int .i64 x] 45))
   clear hr hq hdr hw1
   subst eA
   go_upto_region 4 with fail
   clear hC
   have HS:=Am_ (HS.out.alloc (.cells #[.int .i64 x] 45))
   generalize wr.alloc (.cells #[.int .i64 x] 45)=w1 at HS HBX ⊢
   generalize wr.heap.size=bx at HBX ⊢
   obtain ⟨pE,hpE⟩:=HS.out.task.pE
   have HC:=Am_ (And.intro HS.out.task.c0 (And.intro HS.out.task.c1 hpE))
   clear hpE
   refine bK (n:=11) (S:=fun w'=>w'.cell? ⟨bt,0,none⟩=some (.pointer (some ⟨tb,0,none⟩))∧w'.cell? ⟨bt,1,none⟩=some (.pointer (some ⟨p,0,none⟩))∧w'.cell? ⟨p,2,none⟩=some (.pointer (some ⟨pE,0,none⟩))) (ds:= [8,10]) (by kernel_rfl) rfl Eb Ah HC.out (fun hHeld HT_ HW_=>?_)
   have HS:=Am_ HS.out.drew
   have HBX:=Am_ (HBX.out.moves ((Moves.refl _ _).drew))
   clear HC
   generalize World.drew _=w1 at HS HBX hHeld ⊢
   refine gy [(0,some 13),(1,some 14),(2,some 15),(3,some 16),(4,some 17),(5,some 18),(6,some 19),(7,some 20)] ?_
   (refine gG (v:=?_) (a':=?_) HT_ (by kernel_rfl) rfl rfl (fun _ _ _ h=>h) (Or.inl ⟨by rfl,?_⟩) ?_ ?_;rotate_left;(intro w';go_simp;with_reducible rfl);rotate_left;(simp only [Act.put,p1_,p2_,p3_,aG,aH];rfl))
   iterate 7 (refine jW (v:=?_) (a':=?_) HT_ HW_ (by kernel_rfl) rfl rfl (fun _ _ _ h=>h) hHeld (Or.inl ⟨by rfl,?_⟩) ?_ ?_;rotate_left;(rintro w' ⟨s0,s1,s2⟩;go_simp;with_reducible rfl);rotate_left;(simp only [Act.put,p1_,p2_,p3_,aG,aH];rfl))
   refine bG ?_
   refine Nn (i:=8) (j:=9) (Ni:=some 21) (Nj:=some 6) #[Y_,Y_,Y_,Y_,Y_,Y_,Y_,Y_,Y_,N_,N_] #[Y_,Y_,Y_,Y_,Y_,Y_,Y_,Y_,N_,Y_,N_] rfl rfl rfl rfl (by kernel_rfl) (fun K_ hK=>?_) (fun K_ hK=>?_)
   ·refine su 137 #[.pointer (some ⟨tb,0,none⟩),.func (.func 148) #[.pointer (some ⟨pE,0,none⟩)] #[]] (by rfl) rfl ?hr8 ?_
    (case hr8=>first | (go_simp;done) | (go_simp;exact enters Tryz.func137 (by kernel_rfl) rfl _ _))
    refine (HS.out.task.RQ hHeld.2.2 hd).mono ?_
    rintro e w2 ⟨⟨ok1,hm,hT,he⟩⟩
    rcases hcase with ⟨rfl,rfl⟩ | ⟨n,rfl,hr2⟩
    ·obtain rfl:e= .panicked dK:=he
     exact .inr ⟨dK,rfl,rfl,⟨⟨ok1,hT.moves,hT.run,rfl⟩⟩⟩
    obtain rfl:e= .returned (zh n):=he
    refine .inl ⟨.int .i64 n,rfl,?_⟩
    refine hK.out _ _ (fun h=>absurd (by decide) h) ?_
    clear hK K_
    refine cK (a':=?_) ?_ ?_
    rotate_left; · show Act.put _ (some 21) _=_;simp only [Act.put,p1_,p2_,p3_,aG,aH];rfl
    have hb:av (w.heap.size≤w2.heap.size∧w2.heap.size≠bt∧w2.heap.size≠bx):=⟨by have:=hT.moves.size;have:=hT.box.lt;have:=(HBX.out.moves hm).lt;omega⟩
    refine JG (i:=9) (N:=some 6) #[Y_,Y_,Y_,Y_,Y_,Y_,Y_,Y_,Y_,Y_,N_] rfl rfl (by kernel_rfl) (fun K_ hK=>?_)
    refine jD (v:= .pointer (some ⟨w2.heap.size,0,none⟩)) (w1:=w2.alloc (sU 0)) (by rfl) rfl ?ha9 ?_
    (case ha9=>go_simp;first | done | rfl)
    refine hK.out _ _ (fun _ hS=>⟨aD (ai (Below.refl _ _) _) hS.1,aD (ai (Below.refl _ _) _) hS.2.1,aD (ai (Below.refl _ _) _) hS.2.2⟩) ?_
    clear hK K_
    refine cK (a':=?_) ?_ ?_
    rotate_left; · show Act.put _ (some 6) _=_;simp only [Act.put,p1_,p2_,p3_,aG,aH];rfl
    have HNE:av (w.heap.size≤w2.heap.size∧w2.heap.size≠bt∧w2.heap.size≠bx):=hb
    have HB:=Am_ (Mine.new hT.lt (sU 0))
    have HBX:=Am_ ((HBX.out.moves hm).alloc (sU 0))
    have HS2:=Am_ ((HS.out.next hm hT).alloc (sU 0))
    have HR2:=Am_ hr2
    clear hb hm hT hr2 HS hHeld
    generalize w2.alloc (sU 0)=w3 at HB HBX HS2 ⊢
    generalize w2.heap.size=bn at HB HNE ⊢
    generalize ok1=okn at HB HBX HS2
    have k0:=(af HB.out.1 0).trans (rfl:_=some (Value.int .i64 0))
    have z0:=ah HB.out.1 0
    refine qh (i:=10) (N:=none) #[Y_,Y_,Y_,Y_,Y_,Y_,Y_,Y_,Y_,Y_,Y_] rfl rfl (by kernel_rfl) (by decide) (fun K_ hK=>?_)
    refine iJ (w1:=w3.setCell ⟨bn,0,none⟩ (.int .i64 n)) (by rfl) rfl ?_ ?_
    ·go_simp
    refine hK.out _ _ ?_
    clear hK K_
    refine dR (by kernel_rfl) ?_
    clear k0 z0
    have HS3:=Am_ (HS2.out.set (q:=⟨bn,0,none⟩) HB.out.2 HNE.out.1 HNE.out.2.1 (.int .i64 n))
    have HBX:=Am_ (HBX.out.far (p:=⟨bn,0,none⟩) HNE.out.2.2 (.int .i64 n))
    have HB:av (Mine okn (w3.setCell ⟨bn,0,none⟩ (.int .i64 n)) bn (sU n)):=⟨HB.out.set 0 (.int .i64 n)⟩
    clear HS2
    generalize w3.setCell ⟨bn,0,none⟩ (.int .i64 n)=w4 at HS3 HBX HB ⊢
    obtain ⟨o,t6,hd,hcase⟩:=aN HR2.out
    have HD:=Am_ hd
    have HCS:=Am_ hcase
    clear hd hcase HR2
    have c0:=HS3.out.task.c0
    go_wp2_with (go_at_call 137;refine (HS3.out.task.Mq HBX.out HB.out HD.out).mono ?_;rintro e wq ⟨⟨okq,hm,hT,he⟩⟩;rcases HCS.out with hw | hw;(obtain ⟨rfl,rfl⟩:=hw;obtain rfl:e= .panicked dK:=he;exact ⟨rfl,⟨⟨okq,hT.moves,hT.run,rfl⟩⟩⟩);obtain ⟨a3,rfl,hr3⟩:=hw;obtain rfl:e= .returned (.int .i64 a3):=he;have HS4:=Am_ (HS3.out.next hm hT);have HR4:=Am_ hr3;clear hm hT hr3 c0)
    go_roundg g
    case rel=>exact ⟨k+1,by first | rfl | rw [HW1.out],by omega,⟨okq,t6,HS4.out,HR4.out⟩⟩
    case measure=>omega
   ·refine jD (v:= .pointer (some ⟨w1.heap.size,0,none⟩)) (w1:=w1.alloc (sU 0)) (by rfl) rfl ?hb9 ?_
    (case hb9=>go_simp;first | done | rfl)
    refine hK.out _ _ (fun _ hS=>⟨aD (ai (Below.refl _ _) _) hS.1,aD (ai (Below.refl _ _) _) hS.2.1,aD (ai (Below.refl _ _) _) hS.2.2⟩) ?_
    clear hK K_
    refine cK (a':=?_) ?_ ?_
    rotate_left; · show Act.put _ (some 6) _=_;simp only [Act.put,p1_,p2_,p3_,aG,aH];rfl
    have HNE:av (w.heap.size≤w1.heap.size∧w1.heap.size≠bt∧w1.heap.size≠bx):=⟨by have:=HS.out.task.moves.size;have:=HS.out.task.box.lt;have:=HBX.out.lt;omega⟩
    have HB:=Am_ (Mine.new HS.out.task.lt (sU 0))
    have HS:=Am_ (HS.out.alloc (sU 0))
    have HBX:=Am_ (HBX.out.alloc (sU 0))
    have hHeld:(_∧_∧_):=⟨aD (ai (Below.refl _ _) (sU 0)) hHeld.1,aD (ai (Below.refl _ _) (sU 0)) hHeld.2.1,aD (ai (Below.refl _ _) (sU 0)) hHeld.2.2⟩
    generalize w1.heap.size=bn at HB HNE ⊢
    generalize w1.alloc (sU 0)=w1 at HB HS HBX hHeld ⊢
    refine JG (i:=8) (N:=some 21) #[Y_,Y_,Y_,Y_,Y_,Y_,Y_,Y_,Y_,Y_,N_] rfl rfl (by kernel_rfl) (fun K_ hK=>?_)
    refine su 137 #[.pointer (some ⟨tb,0,none⟩),.func (.func 148) #[.pointer (some ⟨pE,0,none⟩)] #[]] (by rfl) rfl ?hr8b ?_
    (case hr8b=>first | (go_simp;done) | (go_simp;exact enters Tryz.func137 (by kernel_rfl) rfl _ _))
    refine (HS.out.task.RQ hHeld.2.2 hd).mono ?_
    rintro e w2 ⟨⟨ok1,hm,hT,he⟩⟩
    rcases hcase with ⟨rfl,rfl⟩ | ⟨n,rfl,hr2⟩
    ·obtain rfl:e= .panicked dK:=he
     exact .inr ⟨dK,rfl,rfl,⟨⟨ok1,hT.moves,hT.run,rfl⟩⟩⟩
    obtain rfl:e= .returned (zh n):=he
    refine .inl ⟨.int .i64 n,rfl,?_⟩
    refine hK.out _ _ (fun h=>absurd (by decide) h) ?_
    clear hK K_
    refine cK (a':=?_) ?_ ?_
    rotate_left; · show Act.put _ (some 21) _=_;simp only [Act.put,p1_,p2_,p3_,aG,aH];rfl
    have HB:=Am_ (HB.out.moves hm)
    have HBX:=Am_ (HBX.out.moves hm)
    have HS2:=Am_ (HS.out.next hm hT)
    have HR2:=Am_ hr2
    clear hm hT hr2 HS hHeld
    generalize w2=w3 at HB HBX HS2 ⊢
    generalize ok1=okn at HB HBX HS2
    have k0:=(af HB.out.1 0).trans (rfl:_=some (Value.int .i64 0))
    have z0:=ah HB.out.1 0
    refine qh (i:=10) (N:=none) #[Y_,Y_,Y_,Y_,Y_,Y_,Y_,Y_,Y_,Y_,Y_] rfl rfl (by kernel_rfl) (by decide) (fun K_ hK=>?_)
    refine iJ (w1:=w3.setCell ⟨bn,0,none⟩ (.int .i64 n)) (by rfl) rfl ?_ ?_
    ·go_simp
    refine hK.out _ _ ?_
    clear hK K_
    refine dR (by kernel_rfl) ?_
    clear k0 z0
    have HS3:=Am_ (HS2.out.set (q:=⟨bn,0,none⟩) HB.out.2 HNE.out.1 HNE.out.2.1 (.int .i64 n))
    have HBX:=Am_ (HBX.out.far (p:=⟨bn,0,none⟩) HNE.out.2.2 (.int .i64 n))
    have HB:av (Mine okn (w3.setCell ⟨bn,0,none⟩ (.int .i64 n)) bn (sU n)):=⟨HB.out.set 0 (.int .i64 n)⟩
    clear HS2
    generalize w3.setCell ⟨bn,0,none⟩ (.int .i64 n)=w4 at HS3 HBX HB ⊢
    obtain ⟨o,t6,hd,hcase⟩:=aN HR2.out
    have HD:=Am_ hd
    have HCS:=Am_ hcase
    clear hd hcase HR2
    have c0:=HS3.out.task.c0
    go_wp2_with (go_at_call 137;refine (HS3.out.task.Mq HBX.out HB.out HD.out).mono ?_;rintro e wq ⟨⟨okq,hm,hT,he⟩⟩;rcases HCS.out with hw | hw;(obtain ⟨rfl,rfl⟩:=hw;obtain rfl:e= .panicked dK:=he;exact ⟨rfl,⟨⟨okq,hT.moves,hT.run,rfl⟩⟩⟩);obtain ⟨a3,rfl,hr3⟩:=hw;obtain rfl:e= .returned (.int .i64 a3):=he;have HS4:=Am_ (HS3.out.next hm hT);have HR4:=Am_ hr3;clear hm hT hr3 c0)
    go_roundg g
    case rel=>exact ⟨k+1,by first | rfl | rw [HW1.out],by omega,⟨okq,t6,HS4.out,HR4.out⟩⟩
    case measure=>omega
theorem Bf {P:Program} (t u ty e e1:TypeId) (v x:Value) (w:World) {i:TypeInfo} (hi:P.info? e=some i) (ht:P.underlying t=some (.slice e)) (hu:P.underlying u=some (.slice e1)):(Builtin.append_ #[t,u] ty #[v,x]).run P w=(Builtin.append_ #[t,t] ty #[v,x]).run P w:=by
 cases v<;>simp [Builtin.append_,run_underlying ht,run_underlying hu,sizeOf,typeInfo,hi]
def BR (l:List (Int × Int)) (tagged:Bool):Pr Ws (List Int × Int):=fun s=>if (l.length:Int)≤s.sh.b∧l.length<1000000 then aQ (sD ⟨false,false,l,[],[]⟩) (fun r=>dw ([r],r)) s else none
def Mg (N:Nat) (a:List Int × Int) (ok:Nat→Prop) (v:Value) (w:World):Prop:= ∃ A c,v= .tuple #[.slice A a.1.length c,.int .i64 a.2]∧(Kd.int .i64).R 45 w N (fun k=> ¬ ok k) (.slice A a.1.length c) a.1
section
variable {p tb:Nat} {work:Value} {me:Int} {bt:Nat} {ok okc:Nat→Prop} {w wc:World} {s:TS Ws}
theorem aX.pb (h:aX p tb work me bt ok w okc s wc):wc.cell? ⟨p,4,none⟩=some (.int .i64 s.sh.b)∧wc.cell? ⟨p,5,none⟩=some (.int .i64 s.sh.entry):=by
 obtain ⟨_,_,⟨⟨_,_,_,_,_,_,hw⟩,_⟩,_⟩:=h.run.direct
 exact ⟨(af hw.box 4).trans rfl,(af hw.box 5).trans rfl⟩
end
theorem zw (p tb:Nat) (work:Value) (me:Int) (ok:Nat→Prop) (s:TS Ws) (w:World) (l:List (Int × Int)) (A:Option Addr) (c:Nat) (tagged:Bool) (h:dU (shW p) tb work ok s w) (hl:eT.F w (fun k=> ¬ ok k) A l.length l) (hc:l.length≤c) (res:Out (List Int × Int) × TS Ws) (hr:BR l tagged s=some res):
  Calls Tryz.prog 120 #[eu tb p me,.slice A l.length c,.bool tagged] w (gH (shW p) tb work (Mg w.heap.size) ok w res):=by
 have HTV:eu tb p me= .agg #[.pointer (some ⟨tb,0,none⟩),.pointer (some ⟨p,0,none⟩),.int .i64 me]:=rfl
 rw [HTV]
 unfold BR at hr
 have hsm:(l.length:Int)≤s.sh.b∧l.length<1000000:=by
  by_cases h1:(l.length:Int)≤s.sh.b∧l.length<1000000
  ·exact h1
  ·rw [if_neg h1] at hr
   cases hr
 rw [if_pos hsm] at hr
 have d1:decide ((l.length:Int)≤s.sh.b)=true:=decide_eq_true hsm.1
 have HLN:=Am_ hsm.2
 have h0:=aX.enter (me:=me) h
 unfold fZ at h0
 have HF:=Am_ (Kd.eP hl (.cells #[.pointer (some ⟨tb,0,none⟩),.pointer (some ⟨p,0,none⟩),.int .i64 me] 114))
 have HT:=Am_ h0
 have HC:=Am_ hc
 obtain ⟨o,t,hd,hcase⟩:=aN hr
 have HD:=Am_ hd
 have HCS:=Am_ hcase
 clear h h0 hr HTV hl hc hsm hd hcase
 go_enter Tryz.func120,Tryz.ntmps120
 go_upto_region 1 with fail
 generalize w.alloc (.cells #[.pointer (some ⟨tb,0,none⟩),.pointer (some ⟨p,0,none⟩),.int .i64 me] 114)=w1 at HF HT ⊢
 generalize hbt:w.heap.size=bt at HT ⊢
 have HBT:=Am_ hbt
 clear hbt
 have c0:=HT.out.c0
 have c1:=HT.out.c1
 have c2:=HT.out.c2
 have c4:=HT.out.pb.1
 have HNF:av (NdF (fun k=> ¬ ok k) ⟨false,false,l,[],[]⟩ (.agg #[.bool false,.bool false,.slice A l.length c,.slice none 0 0,.slice none 0 0]) w1):=⟨⟨A,c,none,0,none,0,rfl,HC.out,Nat.le_refl _,Nat.le_refl _,HF.out,Kd.jv _ _ _,Kd.jv _ _ _⟩⟩
 go_upto_region 3 with (go_at_call 170;refine (kS p tb work me _ _ _ ⟨false,false,l,[],[]⟩ false false A none none l.length 0 0 c 0 0 HT.out.run HNF.out ⟨HLN.out,by simp,by simp⟩ (o,t) HD.out).mono ?_;rintro e wq ⟨okq,hm,hi,he⟩;rcases HCS.out with hw | hw;(obtain ⟨rfl,rfl⟩:=hw;obtain rfl:e= .panicked dK:=he;exact ⟨rfl,⟨⟨okq,HT.out.moves.trans hm,hi,rfl⟩⟩⟩);obtain ⟨r,rfl,hr2⟩:=hw;obtain ⟨_,rfl,rfl⟩:=he;have HT2:=Am_ (HT.out.next hm hi);have HR2:=Am_ hr2;clear hm hi hr2 c0 c1 c2 c4)
 clear HNF HF HD HCS d1
 have HRR:av (res=(.ret ([r],r),t)):=⟨by have h:=HR2.out;injection h with h;exact h.symm⟩
 clear HR2
 have HB:=Am_ (uF (k:= .i64) 45 wq w.heap.size [r] HT2.out.moves.size (by simp))
 have HT3:=Am_ (HT2.out.alloc (.cells #[.int .i64 r] 45))
 have HNR:av (∀ q,q=wq.heap.size→ ¬ okq q):=⟨fun q e h1=>by have:=HT2.out.lt q h1;omega⟩
 clear HT HT2
 go_wp2_with fail
 (try simp only [Exit.inBlock,Exit.then])
 refine bodyPost_ret (dF (rs:= [.tmp 6,.tmp 7]) rfl (by simp) (.tmp (.tmp .nil))) rfl ?_
 obtain rfl:=HRR.out
 exact ⟨⟨okq,HT3.out.moves,HT3.out.run,_,rfl,_,_,rfl,Kd.bC HB.out HNR.out⟩⟩
structure PR where
 nn:Bool
 sh:Bool
 fd:Bool
 va:Int
def VPR (a:PR) (_:Nat→Prop) (v:Value) (_:World):Prop:=v= .agg #[.bool a.nn,.bool a.sh,.bool a.fd,.int .i64 a.va]
abbrev prO:Obj:= .cells #[.bool false,.bool false,.bool false,.int .i64 0] 117 (0,0)
structure zb (p tb:Nat) (work:Value) (me:Int) (bt:Nat) (ok:Nat→Prop) (w:World) (b8:Nat) (okc:Nat→Prop) (s:TS Ws) (wc:World):Prop where
 task:aX p tb work me bt ok w okc s wc
 res:Mine okc wc b8 prO
section
variable {p tb:Nat} {work:Value} {me:Int} {bt b8:Nat} {ok okc okq:Nat→Prop} {w wc wq:World} {s s2:TS Ws}
theorem zb.next (h:zb p tb work me bt ok w b8 okc s wc) (m:Moves okc okq wc wq) (t:aX p tb work me bt ok w okq s2 wq):zb p tb work me bt ok w b8 okq s2 wq:=⟨t,h.res.moves m⟩
theorem zb.below (h:zb p tb work me bt ok w b8 okc s wc) (b:Below wc.heap.size wc wq):zb p tb work me bt ok w b8 okc s wq:=h.next (Moves.bV _ b) (h.task.below b)
theorem zb.alloc (h:zb p tb work me bt ok w b8 okc s wc) (o:Obj):zb p tb work me bt ok w b8 okc s (wc.alloc o):=h.below (ai (Below.refl _ _) o)
theorem zb.drew (h:zb p tb work me bt ok w b8 okc s wc):zb p tb work me bt ok w b8 okc s wc.drew:=h.below (cZ (Below.refl _ _))
end
section
variable {P:Program}
theorem jH (w:World) (dT sT ty elem:TypeId) (sz g o dLen dCap:Nat) (a:Addr) (sLen sCap:Nat) (cur:Array Value) (t:TypeId) (cs:List Value)
  (hu:P.underlying dT=some (.slice elem)) (hs:(P.info? elem).map (·.size)=some sz)
  (hg:w.heap[g]?=some (.cells cur t (0,0))) (hn:cs.length=Nat.min sLen dLen*sz)
  (hsrc: ∀ j v,cs[j]?=some v→w.cell? (a.add j)=some v) (hfit:o+cs.length≤cur.size) (h1: ∀ v∈cs,v.oneCell'=true):
  (Builtin.copy_ #[dT,sT] ty #[.slice (some ⟨g,o,none⟩) dLen dCap,.slice (some a) sLen sCap]).run P w=
   .ok (goInt (Nat.min sLen dLen)) (w.setRow g (cur.toList.take o++cs++cur.toList.drop (o+cs.length)).toArray):=by
 have hl:=run_loadCells_list (P:=P) w a cs hsrc
 have hst:=run_storeCells_at P g o t cs 0 cur w hg (by simpa using hfit) h1
 cases hq:P.info? elem with
 | none=>simp [hq] at hs
 | some i=>
  have hi:i.size=sz:=by simpa [hq] using hs
  simp [Builtin.copy_,run_underlying hu,Builtin.lenOf,Builtin.firstCells,sizeOf,typeInfo,hq,hi,←hn,hl,hst]
theorem Gn (w:World) {ops:Array Oper} {rest:List Oper} {o:Oper} {a:Act} {Q:Exit→Act→World→Prop} (hgd:o.guard=none) (d s:Operand) (t t':TypeId)
  (ho:o.op= .call { callee:= .builtin .copy,args:= #[d,s],argTypes:= #[t,t'] }) (v u:Value) (hd:a.eval d=v) (hs:a.eval s=u) {v':Value} {w':World}
  (hr:(Builtin.copy_ #[t,t'] o.type #[v,u]).run P w= .ok v' w') (h:wpList P ops Q rest (a.put o.dst v') w'):wpList P ops Q (o::rest) a w:=
 wpList_plain hgd fun K hK=>by
  unfold Oper.wp execOp
  simp only [ho,resolve,invoke,builtin,Sem.run_bind,Sem.run_pure,Result.andThen_ok,List.map_toArray,List.map_cons,List.map_nil,hd,hs,hr]
  exact hK _ _ h
end
theorem xG (L vs:List Value) (a b c:Nat) (hac:a≤c) (hcL:c+b≤L.length) (hv:vs.length=b) (L1 L2:List Value) (h1:L1=L.take (a+b)++(L.take c).drop a++L.drop (a+b+((L.take c).drop a).length)) (h2:L2=L1.take a++vs++L1.drop (a+vs.length)):
  L1.length=L.length∧L2.length=L.length∧L2.take (c+b)=(L.take c).take a++vs++(L.take c).drop a:=by
 have hm:((L.take c).drop a).length=c - a:=by rw [List.length_drop,List.length_take];omega
 have e1:L1.take a=L.take a:=by
  rw [h1,List.append_assoc,List.take_append_of_le_length (by rw [List.length_take];omega),List.take_take,Nat.min_eq_left (by omega)]
 have e2:L1.drop (a+vs.length)=(L.take c).drop a++L.drop (c+b):=by
  rw [h1,List.append_assoc,List.drop_left' (by rw [List.length_take];omega),hm,show a+b+(c - a)=c+b by omega]
 have l1:L1.length=L.length:=by rw [h1,List.length_append,List.length_append,List.length_take,List.length_drop (i:=a+b+_),hm];omega
 have e3:(L.take c).take a=L.take a:=by rw [List.take_take,Nat.min_eq_left hac]
 refine ⟨l1,?_,?_⟩
 ·rw [h2,List.length_append,List.length_append,List.length_take,List.length_drop,l1];omega
 ·rw [h2,e1,e2,e3,←List.append_assoc]
  exact List.take_left' (by rw [List.length_append,List.length_append,hm,List.length_take];omega)
theorem Dr (L cs vs:List Value) (a b:Nat) (ha:a≤cs.length) (hL:cs.length+b≤L.length) (hv:vs.length=b) (h:L.take a=cs.take a) (L1 L2:List Value) (h1:L1=L.take a++vs++L.drop (a+vs.length)) (h2:L2=L1.take (a+b)++cs.drop a++L1.drop (a+b+(cs.drop a).length)):
  L1.length=L.length∧L2.length=L.length∧L2.take (cs.length+b)=cs.take a++vs++cs.drop a:=by
 have hm:(cs.drop a).length=cs.length - a:=List.length_drop
 have l1:L1.length=L.length:=by rw [h1,List.length_append,List.length_append,List.length_take,List.length_drop];omega
 have e1:L1.take (a+b)=cs.take a++vs:=by
  rw [h1,h]
  exact List.take_left' (by rw [List.length_append,List.length_take];omega)
 refine ⟨l1,?_,?_⟩
 ·rw [h2,List.length_append,List.length_append,List.length_take,List.length_drop (i:=a+b+_),l1,hm];omega
 ·rw [h2,e1]
  exact List.take_left' (by rw [List.length_append,List.length_append,hm,List.length_take];omega)
theorem ni {w w1:World} {b:Nat} (h:w.grownBy w1 (some b)) (cs:Array Value):w.grownBy (w1.setRow b cs) (some b):=
 ⟨h.os,h.tape,h.output,by rw [setRow_size];exact h.size,fun k hk hn=>(setRow_other w1 b k cs (fun e=>hn (e▸rfl))).trans (h.block k hk hn)⟩
theorem mZ {w w1:World} {r:Option Nat} (h:w.grownBy w1 r) {b:Nat} (hb:w.heap.size≤b) (cs:Array Value):w.grownBy (w1.setRow b cs) r:=
 ⟨h.os,h.tape,h.output,by rw [setRow_size];exact h.size,fun k hk hn=>(setRow_other w1 b k cs (fun e=>by omega)).trans (h.block k hk hn)⟩
theorem lJ {w:World} {N:Nat} {e:TypeId} {sz n:Nat} {v:Value} {cs:List Value} (h:w.ownsRow N e sz v n cs) {b c:Nat} (hv:v= .slice (some ⟨b,0,none⟩) n c): ∃ cur,w.heap[b]?=some (.cells cur e (0,0))∧n≤c∧c≤maxLen∧cur.size=c*sz∧cur.toList.take (n*sz)=cs∧N≤b:=by
 rcases h.2 with ⟨h1,_⟩ | ⟨g,cap,cur,h1,h2,h3,h4,h5,h6,h7⟩
 ·rw [hv] at h1;cases h1
 ·rw [hv] at h1
  injection h1 with h1 h8 h9
  injection h1 with h1
  injection h1 with h1
  subst h1 h9
  exact ⟨cur,h3,h4,h5,h6,h7,h2⟩
theorem Bn (a b:Nat) (h:a+b<2000000):IntKind.i64.wrap ((a:Int)+(b:Int))=(a:Int)+(b:Int):=by rw [IntKind.wrap_i64];omega
theorem Qu (a b c:Nat) (hc:c≤a) (h:a+b<2000000):IntKind.i64.wrap ((a:Int)+(b:Int) - (c:Int))=(a:Int)+(b:Int) - (c:Int):=by rw [IntKind.wrap_i64];omega
theorem JH (a b c:Nat) (hc:c≤a) (h:a+b<2000000):wrap64 ((a:Int)+(b:Int) - (c:Int))=(a:Int)+(b:Int) - (c:Int):=by unfold wrap64;omega
theorem rE (a b:Nat) (h:a+b<2000000):wrap64 ((a:Int)+(b:Int))=(a:Int)+(b:Int):=by unfold wrap64;omega
theorem Ob {P:Program} (t e:TypeId) (kh:IntKind) {i:TypeInfo} (ht:P.underlying t=some (.slice e)) (hi:P.info? e=some i) (A:Option Addr) (n c j:Nat) (hj:j≤c):
  ∀ W:World,(Instr.slice t (.slice A n c) none (some (.int kh (j:Int))) none).run P W= .ok (.slice A j c) W:=by
 intro W
 have hel:P.elem t=e:=by simp [Program.elem,ht]
 have hu:P.underlying t=some (.slice (P.elem t)):=by rw [hel];exact ht
 have ha:(A.map fun x=>x.add 0)=A:=by cases A<;>simp [Addr.add]
 rw [run_slice_h W t A n c hu kh (j:Int) (by omega) (by omega),hel]
 simp [sizeOf,typeInfo,hi,sliced,Result.andThen,ha]
def sZ:Bool × List (List Nat × List Nat):=(true,[([],[]),([],[]),([],[]),([1,2],[1,2]),([0,3],[0,3]),([],[]),([],[]),([5,6],[5,6]),([4,7],[4,7])])
def AO:List Nat:= [0,0,0,6,15,0,0,96,255]
theorem vW:gJ .any (opsOf Tryz.f169 15)=sZ:=by kernel_rfl
theorem uL:bI sZ.2 AO=true:=by kernel_rfl
def sI:Bool × List (List Nat × List Nat):=(true,[([],[]),([],[]),([],[]),([1,2],[1,2]),([0,3],[0,3]),([],[]),([],[]),([5,6],[5,6]),([4,7],[4,7])])
def zP:List Nat:= [0,0,0,6,15,0,0,96,255]
theorem vY:gJ .any (opsOf Tryz.f169 11)=sI:=by kernel_rfl
theorem uG:bI sI.2 zP=true:=by kernel_rfl
theorem He (A:Option Addr) (n c i vb vo m vc:Nat) (cs vs:List Value) (N:Nat) (w:World) (curv:Array Value) (tv:TypeId) (hO:w.ownsRow N 121 2 (.slice A n c) n cs) (hi:i≤n) (hm:0<m) (hN:N≤w.heap.size) (hvl:vs.length=m*2)
  (hvs: ∀ j u,vs[j]?=some u→w.cell? ⟨vb,vo+j,none⟩=some u) (h1c: ∀ v∈cs,v.oneCell'=true) (h1v: ∀ v∈vs,v.oneCell'=true) (hpl:w.heap[vb]?=some (.cells curv tv (0,0))) (hvb:(Value.slice A n c).ownBlock≠some vb) (hl:n+m<2000000):
  Calls Tryz.prog 169 #[.slice A n c,.int .i64 i,.slice (some ⟨vb,vo,none⟩) m vc] w fun e w1=> ∃ v,e= .returned v∧w1.ownsRow N 121 2 v (n+m) (cs.take (i*2)++vs++cs.drop (i*2))∧w.grownBy w1 (Value.slice A n c).ownBlock∧(v.ownBlock=(Value.slice A n c).ownBlock∨ ∃ b,v.ownBlock=some b∧w.heap.size≤b):=by
 obtain ⟨i0,hi0,hzz⟩:=Option.map_eq_some_iff.1 vE
 simp only [Prod.mk.injEq] at hzz
 obtain ⟨hz0,hz1,hz2⟩:=hzz
 have hs:(Tryz.prog.info? 121).map (·.size)=some 2:=by rw [hi0];simp [hz1]
 have hum:=Tryz.underlying26
 have huv:=Tryz.underlying25
 have hm0: ¬ ((m:Int)=0):=by omega
 have hcsl:=hO.1
 by_cases hin:i=n
 ·subst hin
  have hrun: ∃ v1 w1,(Builtin.append_ #[26,25] 26 #[.slice A i c,.slice (some ⟨vb,vo,none⟩) m vc]).run Tryz.prog w= .ok v1 w1∧w1.ownsRow N 121 2 v1 (i+m) (cs.take (i*2)++vs++cs.drop (i*2))∧w.grownBy w1 (Value.slice A i c).ownBlock∧(v1.ownBlock=(Value.slice A i c).ownBlock∨ ∃ b,v1.ownBlock=some b∧w.heap.size≤b):=by
   obtain ⟨v1,w1,h1,h2,h3,_,h4⟩:=run_append_own_at (P:=Tryz.prog) w N 26 26 121 i0 (.agg #[.int .i64 0,.int .i64 0]) 2 16 Tryz.underlying26 hi0 hz0 hz1 hz2 rfl (by decide) (.slice A i c) i cs hO ⟨vb,vo,none⟩ m vc vs hvl (fun j u hj=>by rw [ic];exact hvs j u hj) h1v (by simp only [maxLen];omega) (by omega) hN
   refine ⟨v1,w1,?_,?_,h3,h4.imp id (fun e=>⟨_,e,Nat.le_refl _⟩)⟩
   ·rw [Bf 26 25 26 121 121 _ _ w hi0 Tryz.underlying26 Tryz.underlying25]
    exact h1
   ·rw [←hcsl,List.take_length,List.drop_length,List.append_nil]
    exact h2
  obtain ⟨v1,w1,hr,ho,hg,hb⟩:=hrun
  have HR:=Am_ hr
  have HO:=Am_ ho
  have HG:=Am_ hg
  have HB:=Am_ hb
  have h0:(0:Int)≤(i:Int):=by omega
  have hcc:i≤c:=by
   rcases hO.2 with ⟨h1,h2⟩ | ⟨g,cap,cur,h1,_,_,h4,_⟩
   ·omega
   ·injection h1 with _ _ h1;omega
  have h2:(i:Int)≤(c:Int):=by omega
  have hI:=Am_ hi0
  clear hr ho hg hb hO hvs h1c h1v hpl hvb hi0 hz0 hz1 hz2 hs hum huv hvl hcsl hl hi hN
  rcases Nat.lt_or_ge i c with hlt | hge
  ·have hne: ¬ c=i:=by omega
   have hne2: ¬ i=c:=by omega
   go_enter Tryz.func169,Tryz.ntmps169
   go_wp2_with (at_builtin;refine Lib.wpList_append_run _ rfl _ _ _ _ rfl _ _ rfl rfl _ _ HR.out ?_)
   go_ret
   exact ⟨_,rfl,HO.out,HG.out,HB.out⟩
  ·obtain rfl:c=i:=by omega
   go_enter Tryz.func169,Tryz.ntmps169
   go_wp2_with (at_builtin;refine Lib.wpList_append_run _ rfl _ _ _ _ rfl _ _ rfl rfl _ _ HR.out ?_)
   go_ret
   exact ⟨_,rfl,HO.out,HG.out,HB.out⟩
 ·have hin':i<n:=by omega
  have hA: ∃ b,A=some ⟨b,0,none⟩:=by
   rcases hO.2 with ⟨_,h2⟩ | ⟨g,cap,cur,h1,_⟩
   ·omega
   ·injection h1 with h1;exact ⟨g,h1⟩
  obtain ⟨b,rfl⟩:=hA
  obtain ⟨cur,hb,hnc,hcm,hcu,hct,hNb⟩:=lJ hO rfl
  have hvbb:vb≠b:=fun e=>hvb (by rw [e];rfl)
  have hz2': ¬ ((i:Int)=(n:Int)):=by omega
  replace hcm:c≤9223372036854775807:=by simpa [maxLen] using hcm
  by_cases hroom:n+m≤c
  ·
   have hov: ∀ (W:World) lb cb,W.heap[b]?=some (.cells cur 121 (0,0))→W.heap[vb]?=some (.cells curv tv (0,0))→(callFunc 205 #[.slice (some ⟨vb,vo,none⟩) m vc,.slice (some ⟨b,(i+m)*2,none⟩) lb cb]).run Tryz.prog W= .ok (.value (.bool false)) W:=fun W lb cb hWb hWv=>by
    rw [run_callFunc_extern Tryz.func205 (by kernel_rfl) (by kernel_rfl) (by kernel_rfl) (e:=Extern.SlicesOverlaps.overlaps #[25,25] #[4]) (by kernel_rfl),
     Lib.run_overlaps_apart W 25 4 121 Tryz.underlying25 2 (fun w=>by simp [sizeOf,typeInfo,hi0,hz1]) ⟨vb,vo,none⟩ ⟨b,(i+m)*2,none⟩ m vc lb cb hvbb tv 121 curv.size cur.size (by simp [World.shape?,hWv]) (by simp [World.shape?,hWb]) (by omega) (ah hWv _) (ah hWv _)]
    rfl
   obtain ⟨L1,hL1⟩: ∃ L1,L1=cur.toList.take ((i+m)*2)++cs.drop (i*2)++cur.toList.drop ((i+m)*2+(cs.drop (i*2)).length):=⟨_,rfl⟩
   obtain ⟨L2,hL2⟩: ∃ L2,L2=L1.take (i*2)++vs++L1.drop (i*2+vs.length):=⟨_,rfl⟩
   have hsp:=xG cur.toList vs (i*2) (m*2) (n*2) (by omega) (by rw [Array.length_toList,hcu];omega) hvl L1 L2 (by rw [hL1,hct,Nat.add_mul]) hL2
   have hLL:cur.toList.length=c*2:=by rw [Array.length_toList,hcu]
   rw [hct,hLL] at hsp
   have hdl:(cs.drop (i*2)).length=(n - i)*2:=by rw [List.length_drop,hcsl];omega
   have hcp1: ∀ (W:World) ty dc sc,W.heap[b]?=some (.cells cur 121 (0,0))→(Builtin.copy_ #[26,26] ty #[.slice (some ⟨b,(i+m)*2,none⟩) (n+m - (i+m)) dc,.slice (some ⟨b,i*2,none⟩) (n+m - i) sc]).run Tryz.prog W= .ok (goInt (n - i:Nat)) (W.setRow b L1.toArray):=fun W ty dc sc hW=>by
    have:=jH (P:=Tryz.prog) W 26 26 ty 121 2 b ((i+m)*2) (n+m - (i+m)) dc ⟨b,i*2,none⟩ (n+m - i) sc cur 121 (cs.drop (i*2)) Tryz.underlying26 hs hW (by rw [hdl];congr 1;simp only [Nat.min_def];split<;>omega) (fun j v hj=>by
     rw [ic]
     refine (af hW _).trans ?_
     rw [List.getElem?_drop,←hct,List.getElem?_take] at hj
     split at hj
     ·rw [←Array.getElem?_toList];exact hj
     ·cases hj) (by rw [hdl,hcu];omega) (fun v hv=>h1c v (List.mem_of_mem_drop hv))
    rw [this,←hL1]
    congr 2
    simp only [Nat.min_def];split<;>omega
   have hcp2: ∀ (W:World) ty dc,W.heap[b]?=some (.cells L1.toArray 121 (0,0))→(∀ j u,vs[j]?=some u→W.cell? ⟨vb,vo+j,none⟩=some u)→(Builtin.copy_ #[26,25] ty #[.slice (some ⟨b,i*2,none⟩) (n+m - i) dc,.slice (some ⟨vb,vo,none⟩) m vc]).run Tryz.prog W= .ok (goInt m) (W.setRow b L2.toArray):=fun W ty dc hW hWv=>by
    have:=jH (P:=Tryz.prog) W 26 25 ty 121 2 b (i*2) (n+m - i) dc ⟨vb,vo,none⟩ m vc L1.toArray 121 vs Tryz.underlying26 hs hW (by rw [hvl];congr 1;simp only [Nat.min_def];split<;>omega) (fun j v hj=>by rw [ic];exact hWv j v hj) (by rw [hvl,List.size_toArray,hsp.1];omega) h1v
    rw [this]
    have e1:Nat.min m (n+m - i)=m:=by simp only [Nat.min_def];split<;>omega
    rw [e1,←hL2]
   have hHB:=Am_ hb
   have hHV:=Am_ hpl
   have hOV:av (∀ lb cb,(callFunc 205 #[.slice (some ⟨vb,vo,none⟩) m vc,.slice (some ⟨b,(i+m)*2,none⟩) lb cb]).run Tryz.prog w= .ok (.value (.bool false)) w):=⟨fun lb cb=>hov w lb cb hb hpl⟩
   have hC1:av (∀ ty dc sc,(Builtin.copy_ #[26,26] ty #[.slice (some ⟨b,(i+m)*2,none⟩) (n+m - (i+m)) dc,.slice (some ⟨b,i*2,none⟩) (n+m - i) sc]).run Tryz.prog w.drew= .ok (goInt (n - i:Nat)) (w.drew.setRow b L1.toArray)):=⟨by intro ty dc sc;exact hcp1 w.drew ty dc sc hb⟩
   have hW2:(w.drew.setRow b L1.toArray).heap[b]?=some (.cells L1.toArray 121 (0,0)):=setRow_heap _ b cur _ _ _ hb
   have hC2:av (∀ ty dc,(Builtin.copy_ #[26,25] ty #[.slice (some ⟨b,i*2,none⟩) (n+m - i) dc,.slice (some ⟨vb,vo,none⟩) m vc]).run Tryz.prog (w.drew.setRow b L1.toArray)= .ok (goInt m) ((w.drew.setRow b L1.toArray).setRow b L2.toArray)):=⟨fun ty dc=>hcp2 _ ty dc hW2 (fun j u hj=>(cell_setRow_other _ b _ ⟨vb,vo+j,none⟩ hvbb).trans (hvs j u hj))⟩
   have HO:av (((w.drew.setRow b L1.toArray).setRow b L2.toArray).ownsRow N 121 2 (.slice (some ⟨b,0,none⟩) (n+m) c) (n+m) (cs.take (i*2)++vs++cs.drop (i*2))):=⟨by
    refine ⟨by rw [←hsp.2.2,List.length_take,hsp.2.1];omega,.inr ⟨b,c,L2.toArray,rfl,hNb,setRow_heap _ b _ _ _ _ hW2,hroom,by unfold maxLen;omega,by rw [List.size_toArray,hsp.2.1],?_⟩⟩
    rw [←hsp.2.2,←Nat.add_mul]⟩
   have HG:av (w.grownBy ((w.drew.setRow b L1.toArray).setRow b L2.toArray) (some b)):=⟨ni (ni (show w.grownBy w.drew (some b) from ⟨rfl,rfl,rfl,Nat.le_refl _,fun _ _ _=>rfl⟩) _) _⟩
   have hcf1:=jX 26 121 .i64 Tryz.underlying26 hi0 2 hz1 (some ⟨b,0,none⟩) n c (i:Int) (by omega) (by omega)
   have hcf2:=jX 26 121 .i64 Tryz.underlying26 hi0 2 hz1 (some ⟨b,0,none⟩) (n+m) c ((i:Int)+(m:Int)) (by omega) (by omega)
   have hcf3:=jX 26 121 .i64 Tryz.underlying26 hi0 2 hz1 (some ⟨b,0,none⟩) (n+m) c (i:Int) (by omega) (by omega)
   have htn:((i:Int)+(m:Int)).toNat=i+m:=by omega
   rw [if_neg (by rw [Int.toNat_natCast];omega),Int.toNat_natCast] at hcf1 hcf3
   rw [if_neg (by rw [htn];omega),htn] at hcf2
   simp only [Option.map_some,ic,Nat.zero_add] at hcf1 hcf2 hcf3
   have hct2: ∀ W:World,(Instr.slice 26 (.slice (some ⟨b,0,none⟩) n c) none (some (.int .i64 ((n:Int)+(m:Int)))) none).run Tryz.prog W= .ok (.slice (some ⟨b,0,none⟩) (n+m) c) W:=by rw [←Int.natCast_add];exact Ob 26 121 .i64 Tryz.underlying26 hi0 (some ⟨b,0,none⟩) n c (n+m) hroom
   have him:i+m<2000000:=Nat.lt_of_le_of_lt (Nat.add_le_add_right hi m) hl
   have hb1:(0:Int)≤(i:Int)+(m:Int):=by omega
   have hb3:(n:Int)+(m:Int)≤(c:Int):=by omega
   have hb5:(i:Int)≤(n:Int):=by omega
   have hdd:decide ((c:Int)<(n:Int)+(m:Int))=false:=decide_eq_false (by omega)
   have hw0:=Bn n m hl
   have hw1:=Bn i m him
   have hw3:=rE n m hl
   have hw4:=rE i m him
   have hI:=Am_ hi0
   clear him hcm hov hcp1 hcp2 hW2 hsp hL1 hL2 hLL hdl hO hvs h1c h1v hpl hvb hi0 hz0 hz1 hz2 hs hum huv hvl hcsl hl hi hN hb hcu hct hNb hroom hin hin' hnc hvbb hI
   go_enter Tryz.func169,Tryz.ntmps169
   go_upto_region 14 with fail
   go_wp2_with (simp only [hOV.out])
   refine bK (n:=9) (S:=fun w'=>True) (ds:= []) (by kernel_rfl) rfl vW uL trivial (fun hHeld HT_ HW_=>?_)
   refine gy [(0,some 69),(1,some 70),(2,some 71),(3,some 72),(4,some 73),(5,some 74),(6,some 75),(7,some 76)] ?_
   iterate 8 (refine gG (v:=?_) (a':=?_) HT_ (by kernel_rfl) rfl rfl (fun _ _ _ h=>h) (Or.inl ⟨by rfl,?_⟩) ?_ ?_;rotate_left;(intro w';go_simp;with_reducible rfl);rotate_left;(simp only [Act.put,p1_,p2_,p3_,aG,aH];rfl))
   refine bG ?_
   refine dI (i:=8) (some 77) HT_ (by kernel_rfl) rfl rfl (by decide) (fun K_ hK=>?_)
   refine jD (v:=goInt (n - i:Nat)) (w1:=w.drew.setRow b L1.toArray) (by rfl) rfl ?hcp ?_
   (case hcp=>go_simp;rw [hC1.out];rfl)
   refine hK.out _ _ trivial (fun hHeld=>?_)
   clear hK K_
   refine cK (a':=?_) ?_ ?_
   rotate_left; · show Act.put _ (some 77) _=_;simp only [Act.put,p1_,p2_,p3_,aG,aH];rfl
   refine dR (bM HT_.out (by kernel_rfl)) ?_
   go_wp2_with (with_reducible refine Gn _ rfl _ _ 26 25 rfl _ _ rfl rfl (hC2.out _ _) ?_)
   go_ret
   exact ⟨_,rfl,HO.out,HG.out,.inl rfl⟩
  ·
   have hroom':c<n+m:=by omega
   have hkk:(n:Int)+(m:Int) - (i:Int)=((n+m - i:Nat):Int):=by omega
   have hik:i+(n+m - i)=n+m:=by omega
   have hold:(Builtin.firstCells i0.size i (.slice (some ⟨b,0,none⟩) i c)).run Tryz.prog w.drew= .ok (cs.take (i*2)).toArray w.drew:=by
    rw [hz1]
    exact run_firstCells_some w.drew 2 i ⟨b,0,none⟩ i c (cs.take (i*2)) (by rw [List.length_take,hcsl];omega) (fun j v hj=>by
     rw [ic]
     refine (af (w:=w.drew) hb _).trans ?_
     rw [List.getElem?_take] at hj
     split at hj
     ·rw [←hct,List.getElem?_take] at hj
      split at hj
      ·rw [←Array.getElem?_toList,Nat.zero_add];exact hj
      ·cases hj
     ·cases hj)
   obtain ⟨G,hG⟩: ∃ G,G=grownCap w (n+m) c 121:=⟨_,rfl⟩
   obtain ⟨ROW,hROW⟩: ∃ ROW:Array Value,ROW=(cs.take (i*2)).toArray++Builtin.zeroCells ((.agg #[.int .i64 0,.int .i64 0]):Value).cells (n+m - i)++Builtin.zeroCells ((.agg #[.int .i64 0,.int .i64 0]):Value).cells (G - (n+m)):=⟨_,rfl⟩
   have hrz: ∀ ty,(Builtin.append_ #[26,3] ty #[.slice (some ⟨b,0,none⟩) i c,.int .i64 ((n:Int)+(m:Int) - (i:Int))]).run Tryz.prog w= .ok (.slice (some ⟨w.heap.size,0,none⟩) (n+m) G) (w.drew.alloc (.cells ROW 121)):=fun ty=>by
    have h:=Lib.run_append_grow_zeros (P:=Tryz.prog) w 26 3 ty 121 i0 _ .i64 .i64 Tryz.underlying26 Tryz.underlying3 hi0 hz0 (some ⟨b,0,none⟩) i c (cs.take (i*2)) hold (n+m - i) (by omega) (by omega) (by omega) (by omega) (by rw [hz2];omega) (by rw [hz2,hik];exact growslice_fits hroom' (by omega))
    rw [hik,←hG,←hROW] at h
    rw [hkk]
    exact h
   have hGn:n+m≤G:=by rw [hG];exact grownCap_ge w _ _ _
   have hGm:G≤maxLen:=by rw [hG];exact grownCap_le_maxLen w (n+m) c _ (by unfold maxLen;omega)
   have hRs:ROW.size=G*2:=by
    rw [hROW,Array.size_append,Array.size_append,size_zeroCells,size_zeroCells,List.size_toArray,List.length_take,hcsl]
    show min (i*2) (n*2)+(n+m - i)*2+(G - (n+m))*2=G*2
    omega
   have hRt:ROW.toList.take (i*2)=cs.take (i*2):=by
    rw [hROW,Array.toList_append,Array.toList_append,List.append_assoc]
    exact List.take_left' (by rw [List.length_take,hcsl];omega)
   obtain ⟨W1,hW1⟩: ∃ W1,W1=w.drew.alloc (.cells ROW 121):=⟨_,rfl⟩
   have hNW:W1.heap[w.heap.size]?=some (.cells ROW 121 (0,0)):=by rw [hW1];exact bU w.drew _
   have hbw:b<w.heap.size:=bH hb
   have hvw:vb<w.heap.size:=bH hpl
   have hOb:W1.heap[b]?=some (.cells cur 121 (0,0)):=by rw [hW1];exact aK (w:=w.drew) hb _
   obtain ⟨L1,hL1⟩: ∃ L1,L1=ROW.toList.take (i*2)++vs++ROW.toList.drop (i*2+vs.length):=⟨_,rfl⟩
   obtain ⟨L2,hL2⟩: ∃ L2,L2=L1.take ((i+m)*2)++cs.drop (i*2)++L1.drop ((i+m)*2+(cs.drop (i*2)).length):=⟨_,rfl⟩
   have hLL:ROW.toList.length=G*2:=by rw [Array.length_toList,hRs]
   have hsp:=Dr ROW.toList cs vs (i*2) (m*2) (by rw [hcsl];omega) (by rw [hLL,hcsl];omega) hvl hRt L1 L2 hL1 (by rw [hL2,Nat.add_mul])
   rw [hLL,hcsl] at hsp
   have hdl:(cs.drop (i*2)).length=(n - i)*2:=by rw [List.length_drop,hcsl];omega
   have hC1:av (∀ ty dc,(Builtin.copy_ #[26,25] ty #[.slice (some ⟨w.heap.size,i*2,none⟩) (n+m - i) dc,.slice (some ⟨vb,vo,none⟩) m vc]).run Tryz.prog W1= .ok (goInt m) (W1.setRow w.heap.size L1.toArray)):=⟨by
    intro ty dc
    have:=jH (P:=Tryz.prog) W1 26 25 ty 121 2 w.heap.size (i*2) (n+m - i) dc ⟨vb,vo,none⟩ m vc ROW 121 vs Tryz.underlying26 hs hNW (by rw [hvl];congr 1;simp only [Nat.min_def];split<;>omega) (fun j v hj=>by rw [ic,hW1];exact (World.cell?_alloc_past (w:=w.drew) _ vb _ hvw).trans (hvs j v hj)) (by rw [hvl,hRs];omega) h1v
    rw [this]
    have e1:Nat.min m (n+m - i)=m:=by simp only [Nat.min_def];split<;>omega
    rw [e1,←hL1]⟩
   have hW2:(W1.setRow w.heap.size L1.toArray).drew.heap[w.heap.size]?=some (.cells L1.toArray 121 (0,0)):=setRow_heap W1 _ ROW _ _ _ hNW
   have hOb2:(W1.setRow w.heap.size L1.toArray).drew.heap[b]?=some (.cells cur 121 (0,0)):=(setRow_other W1 w.heap.size b _ (by omega)).trans hOb
   have hC2:av (∀ ty dc sc,(Builtin.copy_ #[26,26] ty #[.slice (some ⟨w.heap.size,(i+m)*2,none⟩) (n+m - (i+m)) dc,.slice (some ⟨b,i*2,none⟩) (n - i) sc]).run Tryz.prog (W1.setRow w.heap.size L1.toArray).drew= .ok (goInt (n - i:Nat)) ((W1.setRow w.heap.size L1.toArray).drew.setRow w.heap.size L2.toArray)):=⟨by
    intro ty dc sc
    have:=jH (P:=Tryz.prog) (W1.setRow w.heap.size L1.toArray).drew 26 26 ty 121 2 w.heap.size ((i+m)*2) (n+m - (i+m)) dc ⟨b,i*2,none⟩ (n - i) sc L1.toArray 121 (cs.drop (i*2)) Tryz.underlying26 hs hW2 (by rw [hdl];congr 1;simp only [Nat.min_def];split<;>omega) (fun j v hj=>by
     rw [ic]
     refine (af hOb2 _).trans ?_
     rw [List.getElem?_drop,←hct,List.getElem?_take] at hj
     split at hj
     ·rw [←Array.getElem?_toList];exact hj
     ·cases hj) (by rw [hdl,List.size_toArray,hsp.1];omega) (fun v hv=>h1c v (List.mem_of_mem_drop hv))
    rw [this]
    have e1:Nat.min (n - i) (n+m - (i+m))=n - i:=by simp only [Nat.min_def];split<;>omega
    rw [e1,←hL2]⟩
   have HO:av (((W1.setRow w.heap.size L1.toArray).drew.setRow w.heap.size L2.toArray).ownsRow N 121 2 (.slice (some ⟨w.heap.size,0,none⟩) (n+m) G) (n+m) (cs.take (i*2)++vs++cs.drop (i*2))):=⟨by
    refine ⟨by rw [←hsp.2.2,List.length_take,hsp.2.1];omega,.inr ⟨w.heap.size,G,L2.toArray,rfl,hN,setRow_heap _ _ _ _ _ _ hW2,hGn,hGm,by rw [List.size_toArray,hsp.2.1],?_⟩⟩
    rw [←hsp.2.2,←Nat.add_mul]⟩
   have HG:av (w.grownBy ((W1.setRow w.heap.size L1.toArray).drew.setRow w.heap.size L2.toArray) (some b)):=⟨by
    have g0:w.grownBy W1 (some b):=by
     have:=World.grownBy_alloc w.drew (.cells ROW 121) (some b)
     rw [hW1]
     exact ⟨this.os,this.tape,this.output,this.size,this.block⟩
    have g1:=mZ g0 (Nat.le_refl _) L1.toArray
    have g2:w.grownBy (W1.setRow w.heap.size L1.toArray).drew (some b):=⟨g1.os,g1.tape,g1.output,g1.size,g1.block⟩
    exact mZ g2 (Nat.le_refl _) _⟩
   have hHZ:av (∀ ty,(Builtin.append_ #[26,3] ty #[.slice (some ⟨b,0,none⟩) i c,.int .i64 ((n:Int)+(m:Int) - (i:Int))]).run Tryz.prog w= .ok (.slice (some ⟨w.heap.size,0,none⟩) (n+m) G) W1):=⟨by rw [hW1];exact hrz⟩
   have hcf1:=jX 26 121 .i64 Tryz.underlying26 hi0 2 hz1 (some ⟨b,0,none⟩) n c (i:Int) (by omega) (by omega)
   have hcf2:=jX 26 121 .i64 Tryz.underlying26 hi0 2 hz1 (some ⟨w.heap.size,0,none⟩) (n+m) G ((i:Int)+(m:Int)) (by omega) (by omega)
   have hcf3:=jX 26 121 .i64 Tryz.underlying26 hi0 2 hz1 (some ⟨w.heap.size,0,none⟩) (n+m) G (i:Int) (by omega) (by omega)
   have hct2:=BP 26 121 .i64 Tryz.underlying26 hi0 (some ⟨b,0,none⟩) n c (i:Int) (by omega) (by omega) hnc
   have htn:((i:Int)+(m:Int)).toNat=i+m:=by omega
   rw [if_neg (by rw [Int.toNat_natCast];omega),Int.toNat_natCast] at hcf1 hcf3
   rw [if_neg (by rw [htn];omega),htn] at hcf2
   rw [Int.toNat_natCast] at hct2
   simp only [Option.map_some,ic,Nat.zero_add] at hcf1 hcf2 hcf3
   have him:i+m<2000000:=Nat.lt_of_le_of_lt (Nat.add_le_add_right hi m) hl
   have hb1:(0:Int)≤(i:Int)+(m:Int):=by omega
   have hb3:(c:Int)<(n:Int)+(m:Int):=by omega
   have hb5:(i:Int)≤(n:Int):=by omega
   have hdd:decide ((c:Int)<(n:Int)+(m:Int))=true:=decide_eq_true hb3
   have hw0:=Bn n m hl
   have hw1:=Bn i m him
   have hw3:=rE n m hl
   have hw4:=rE i m him
   have hw5:=Qu n m i hi hl
   have hw6:=JH n m i hi hl
   clear him hcm hkk hik hold hG hROW hrz hGn hGm hRs hRt hW1 hNW hbw hvw hOb hL1 hL2 hsp hLL hdl hW2 hOb2 hO hvs h1c h1v hpl hvb hi0 hz0 hz1 hz2 hs hum huv hvl hcsl hl hi hN hb hcu hct hNb hroom hroom' hin hin' hnc hvbb
   go_enter Tryz.func169,Tryz.ntmps169
   go_upto_region 9 with fail
   go_wp2_with (first | (at_builtin;refine Lib.wpList_append_run _ rfl _ _ _ _ rfl _ _ rfl rfl _ _ (hHZ.out _) ?_) | (with_reducible refine Gn _ rfl _ _ 26 25 rfl _ _ rfl rfl (hC1.out _ _) ?_))
   refine bK (n:=9) (S:=fun w'=>True) (ds:= []) (by kernel_rfl) rfl vY uG trivial (fun hHeld HT_ HW_=>?_)
   refine gy [(0,some 46),(1,some 47),(2,some 48),(3,some 49),(4,some 50),(5,some 51),(6,some 52),(7,some 53)] ?_
   iterate 8 (refine gG (v:=?_) (a':=?_) HT_ (by kernel_rfl) rfl rfl (fun _ _ _ h=>h) (Or.inl ⟨by rfl,?_⟩) ?_ ?_;rotate_left;(intro w';go_simp;with_reducible rfl);rotate_left;(simp only [Act.put,p1_,p2_,p3_,aG,aH];rfl))
   refine bG ?_
   refine dI (i:=8) (some 54) HT_ (by kernel_rfl) rfl rfl (by decide) (fun K_ hK=>?_)
   refine jD (v:=goInt (n - i:Nat)) (w1:=(W1.setRow w.heap.size L1.toArray).drew.setRow w.heap.size L2.toArray) (by rfl) rfl ?hcp ?_
   (case hcp=>go_simp;rw [hC2.out];rfl)
   refine hK.out _ _ trivial (fun hHeld=>?_)
   clear hK K_
   refine cK (a':=?_) ?_ ?_
   rotate_left; · show Act.put _ (some 54) _=_;simp only [Act.put,p1_,p2_,p3_,aG,aH];rfl
   refine dR (bM HT_.out (by kernel_rfl)) ?_
   go_wp2_with fail
   go_ret
   exact ⟨_,rfl,HO.out,HG.out,.inr ⟨_,rfl,Nat.le_refl _⟩⟩
section
variable {α:Type} {enc:α→List Value} {sz:Nat}
theorem wm (h: ∀ x,(enc x).length=sz): ∀ xs:List α,(xs.flatMap enc).length=xs.length*sz
 | []=>by simp
 | x::xs=>by rw [List.flatMap_cons,List.length_append,h,wm h xs,List.length_cons,Nat.add_mul,Nat.one_mul,Nat.add_comm]
theorem yB (h: ∀ x,(enc x).length=sz): ∀ (xs:List α) (i:Nat),(xs.flatMap enc).take (i*sz)=(xs.take i).flatMap enc
 | [],i=>by simp
 | x::xs,0=>by simp
 | x::xs,i+1=>by
  rw [List.take_succ_cons,List.flatMap_cons,List.flatMap_cons,←yB h xs i,Nat.add_mul,Nat.one_mul,Nat.add_comm,←h x,List.take_length_add_append]
theorem sj (h: ∀ x,(enc x).length=sz): ∀ (xs:List α) (i:Nat),(xs.flatMap enc).drop (i*sz)=(xs.drop i).flatMap enc
 | [],i=>by simp
 | x::xs,0=>by simp
 | x::xs,i+1=>by
  rw [List.drop_succ_cons,List.flatMap_cons,←sj h xs i,Nat.add_mul,Nat.one_mul,Nat.add_comm,←h x,List.drop_length_add_append]
theorem xk (h: ∀ x,(enc x).length=sz) {R:α→List Value→Prop} (hR: ∀ x c,R x c→c=enc x): ∀ (xs:List α) (cs:List Value),gM R sz xs cs→cs=xs.flatMap enc
 | [],cs,hr=>by
  have:=hr.1
  simp at this
  rw [this];rfl
 | x::xs,cs,hr=>by
  have h0:=hR _ _ (hr.2 0 x rfl)
  rw [Nat.zero_mul,List.drop_zero] at h0
  have h1:=xk h hR xs (cs.drop sz) ⟨by rw [List.length_drop,hr.1,List.length_cons,Nat.add_mul,Nat.one_mul,Nat.add_sub_cancel],fun j p hj=>by
   have:=hr.2 (j+1) p hj
   rw [List.drop_drop,show sz+j*sz=(j+1)*sz by rw [Nat.add_mul,Nat.one_mul,Nat.add_comm]]
   exact this⟩
  rw [List.flatMap_cons,←h0,←h1,List.take_append_drop]
theorem Ht (h: ∀ x,(enc x).length=sz) {R:α→List Value→Prop} (hR: ∀ x,R x (enc x)) (xs:List α):gM R sz xs (xs.flatMap enc):=
 ⟨wm h xs,fun j p hj=>by
  rw [sj h]
  have hlt:=(List.getElem?_eq_some_iff.1 hj).1
  have:xs.drop j=p::xs.drop (j+1):=by rw [List.drop_eq_getElem_cons hlt,(List.getElem?_eq_some_iff.1 hj).2]
  rw [this,List.flatMap_cons,List.take_left' (h p)]
  exact hR p⟩
end
def zf (x:Int × Int):List Value:= [.int .i64 x.1,.int .i64 x.2]
def flP (xs:List (Int × Int)):List Value:=xs.flatMap zf
theorem NG (xs:List (Int × Int)): ∀ v∈flP xs,v.oneCell'=true:=fun v hv=>by
 obtain ⟨x,_,hx⟩:=List.mem_flatMap.1 hv
 simp [zf] at hx
 rcases hx with rfl | rfl<;>rfl
theorem kW {e:Nat} {w:World} {base:Nat} {ok:Nat→Prop} {v:Value} {xs:List (Int × Int)} (h:eT.R e w base ok v xs):(∀ k,v.ownBlock=some k→ok k)∧w.ownsRow base e 2 v xs.length (flP xs):=by
 obtain ⟨h0,inner,ho,hr⟩:=h
 have:=xk (enc:=zf) (fun _=>rfl) (fun x c h=>by
  obtain ⟨c0,c1,rfl,h1,h2⟩:=h
  rw [show c0=_ from h1,show c1=_ from h2]
  rfl) xs inner hr
 subst this
 exact ⟨h0,ho⟩
theorem uw {e:Nat} {w:World} {base:Nat} {ok:Nat→Prop} {v:Value} {xs:List (Int × Int)} (h0: ∀ k,v.ownBlock=some k→ok k) (ho:w.ownsRow base e 2 v xs.length (flP xs)):eT.R e w base ok v xs:=
 ⟨h0,_,ho,Ht (enc:=zf) (fun _=>rfl) (fun x=>⟨_,_,rfl,rfl,rfl⟩) xs⟩
theorem Aj (A:Option Addr) (c i:Nat) (xs:List (Int × Int)) (bv:Nat) (x:Int × Int) (N:Nat) (ok:Nat→Prop) (w:World) (tv:TypeId) (hR:eT.R 121 w N ok (.slice A xs.length c) xs) (hb:w.heap[bv]?=some (.cells #[.int .i64 x.1,.int .i64 x.2] tv (0,0))) (hne:(Value.slice A xs.length c).ownBlock≠some bv) (hi:i≤xs.length) (hN:N≤w.heap.size) (hf: ∀ k,w.heap.size≤k→ok k) (hl:xs.length<1000000):
  Calls Tryz.prog 169 #[.slice A xs.length c,.int .i64 (i:Nat),.slice (some ⟨bv,0,none⟩) 1 1] w fun e w1=> ∃ v,e= .returned v∧eT.R 121 w1 N ok v (xs.take i++x::xs.drop i)∧w.grownBy w1 (Value.slice A xs.length c).ownBlock:=by
 obtain ⟨h0,ho⟩:=kW hR
 refine (He A xs.length c i bv 0 1 1 (flP xs) (zf x) N w _ tv ho hi (by decide) hN rfl (fun j u hj=>(af hb _).trans (by rw [Nat.zero_add];simpa [zf] using hj)) (NG xs) (fun v hv=>by
  simp [zf] at hv
  rcases hv with rfl | rfl<;>rfl) hb hne (by omega)).mono ?_
 rintro e w1 ⟨v,rfl,h1,h2,h3⟩
 refine ⟨v,rfl,uw (fun k hk=>?_) ?_,h2⟩
 ·rcases h3 with h3 | ⟨b,h3,h4⟩
  ·exact h0 k (h3▸hk)
  ·rw [h3] at hk
   injection hk with hk
   exact hf k (hk▸h4)
 ·unfold flP at h1 ⊢
  rw [yB (enc:=zf) (fun _=>rfl),sj (enc:=zf) (fun _=>rfl)] at h1
  have e1:(xs.take i++x::xs.drop i).flatMap zf=(xs.take i).flatMap zf++zf x++(xs.drop i).flatMap zf:=by rw [List.flatMap_append,List.flatMap_cons,List.append_assoc]
  have e2:(xs.take i++x::xs.drop i).length=xs.length+1:=by rw [List.length_append,List.length_cons,List.length_take,List.length_drop];omega
  rw [e1,e2]
  exact h1
def posOf (xs:List (Int × Int)) (k:Int):Nat:=bs (lG xs) k 0 xs.length
def xg (xs:List (Int × Int)) (k v:Int):List (Int × Int):=if iL (lG xs) k=true then xs.set (posOf xs k) ((xs.getD (posOf xs k) (0,0)).1,v) else xs.take (posOf xs k)++(k,v)::xs.drop (posOf xs k)
theorem IW (xs:List (Int × Int)) (k v:Int):(xg xs k v).length≤xs.length+1:=by
 unfold xg
 split
 ·rw [List.length_set];omega
 ·rw [List.length_append,List.length_cons,List.length_take,List.length_drop];omega
theorem Sc {e:Nat} {w:World} {N:Nat} {ok:Nat→Prop} {g n c i:Nat} {xs:List (Int × Int)} (h:eT.R e w N ok (.slice (some ⟨g,0,none⟩) n c) xs) (hi:i<xs.length) (v:Int):eT.R e (w.setCell ⟨g,i*2+1,none⟩ (.int .i64 v)) N ok (.slice (some ⟨g,0,none⟩) n c) (xs.set i ((xs.getD i (0,0)).1,v)):=by
 obtain ⟨h0,ho⟩:=kW h
 have hn:=(Kd.bF h).1
 subst hn
 obtain ⟨cur,h1,h2,h3,h4,h5,h6⟩:=lJ ho rfl
 refine uw h0 ⟨by rw [List.length_set];unfold flP;rw [wm (enc:=zf) (sz:=2) (fun _=>rfl),List.length_set],.inr ⟨g,c,cur.setIfInBounds (i*2+1) (.int .i64 v),by rw [List.length_set],h6,bX h1 _ _,by rw [List.length_set];exact h2,h3,by rw [Array.size_setIfInBounds,h4],?_⟩⟩
 rw [List.length_set,Array.toList_setIfInBounds,List.take_set,h5]
 unfold flP
 have key: ∀ (xs:List (Int × Int)) (i:Nat),i<xs.length→(xs.flatMap zf).set (i*2+1) (.int .i64 v)=(xs.set i ((xs.getD i (0,0)).1,v)).flatMap zf:=by
  intro xs
  induction xs with
  | nil=>intro i hi;cases hi
  | cons x xs ih=>
   intro i hi
   cases i with
   | zero=>rfl
   | succ i=>
    rw [List.length_cons] at hi
    have:=ih i (by omega)
    rw [List.flatMap_cons,List.set_cons_succ,List.flatMap_cons,List.getD_cons_succ,←this]
    rw [show (i+1)*2+1=(i*2+1)+1+1 by omega]
    rfl
 exact key xs i hi
theorem wT {w w2 w3:World} {g:Nat} (h:Below w.heap.size w w3) (hg:w2.heap.size≤g) (h2:w.heap.size≤w2.heap.size) (j:Nat) (u:Value):Below w.heap.size w (w3.setCell ⟨g,j,none⟩ u):=h.setCell (p:=⟨g,j,none⟩) (by show w.heap.size≤g;omega) u
theorem Jh {w:World} {N:Nat} {e:TypeId} {sz n c i:Nat} {A:Option Addr} {cs:List Value} (h:w.ownsRow N e sz (.slice A n c) n cs) (hi:i<n): ∃ g,A=some ⟨g,0,none⟩:=by
 rcases h.2 with ⟨h1,h2⟩ | ⟨g,cap,cur,h1,_⟩
 ·omega
 ·injection h1 with h1
  exact ⟨g,h1⟩
theorem Fh {e:Nat} {w:World} {N:Nat} {ok:Nat→Prop} {g n c:Nat} {xs:List (Int × Int)} (h:eT.R e w N ok (.slice (some ⟨g,0,none⟩) n c) xs): ∃ cur,w.heap[g]?=some (.cells cur e (0,0))∧N≤g:=by
 have ho:=(kW h).2
 rw [←(Kd.bF h).1] at ho
 obtain ⟨cur,h1,_,_,_,_,h6⟩:=lJ ho rfl
 exact ⟨cur,h1,h6⟩
theorem KH {e:Nat} {w:World} {N:Nat} {ok:Nat→Prop} {g n c i:Nat} {xs:List (Int × Int)} {cur:Array Value} (hc:w.heap[g]?=some (.cells cur e (0,0))) (h:eT.R e w N ok (.slice (some ⟨g,0,none⟩) n c) xs) (hi:i<xs.length): ∃ x,w.cell? ⟨g,i*2+1,none⟩=some x:=by
 have hn:=(Kd.bF h).1
 subst hn
 obtain ⟨ad,e1,_,h2⟩:=pu (Kd.bF h).2.2 (i:Int) (by omega) (by omega)
 injection e1 with e1
 subst e1
 exact ⟨_,by simpa [ic] using h2⟩
theorem wP (A:Option Addr) (c:Nat) (xs:List (Int × Int)) (k v:Int) (w:World) (hr:eT.C w A xs.length xs) (hl:xs.length<999999):
  Calls Tryz.prog 119 #[.slice A xs.length c,.int .i64 k,.int .i64 v] w fun e w1=> ∃ u,e= .returned (.tuple #[u,.int .i64 (iR xs k).1,.bool (iR xs k).2])∧eT.R 121 w1 w.heap.size (fun q=>w.heap.size≤q) u (xg xs k v)∧Below w.heap.size w w1:=by
 have HR:=Am_ hr
 have HF:=Am_ (EJ A xs.length c xs k w hr (by omega))
 have HL:=Am_ hl
 have hpl:posOf xs k≤xs.length:=(Nt (lG xs) k 0 xs.length (by omega)).2
 have HPL:=Am_ hpl
 cases hf:iL (lG xs) k with
 | false=>
  have hge:iR xs k=(0,false):=by unfold iR;rw [hf];rfl
  have hpu:xg xs k v=xs.take (posOf xs k)++(k,v)::xs.drop (posOf xs k):=by unfold xg;rw [hf];rfl
  rw [hge,hpu]
  rw [hf] at HF
  change av (Calls _ _ _ _ fun e w1=>e= .returned (.tuple #[.int .i64 (posOf xs k:Nat),.bool false])∧Below w.heap.size w w1) at HF
  generalize posOf xs k=i at HF hpl HPL ⊢
  clear hr hl hf hge hpu hpl
  go_enter Tryz.func119,Tryz.ntmps119
  go_upto_region 2 with (go_at_call 168;refine HF.out.mono ?_;rintro e w2 ⟨rfl,hb2⟩;have HB2:=Am_ hb2;clear hb2)
  clear HF
  go_upto_region 3 with (go_at_call 75;refine (iP _ xs.length c xs w2 (Kd.bE HR.out HB2.out) (by have:=HL.out;omega)).mono ?_;rintro e w3 ⟨v3,rfl,hR3,hb3⟩;obtain ⟨A3,c3,rfl⟩:=Kd.aW hR3;have HR3:=Am_ hR3;have HB3:=Am_ hb3;clear hR3 hb3)
  have HI:av (∀ w4,w4=w3.alloc (.cells #[.int .i64 k,.int .i64 v] 121)→Calls Tryz.prog 169 #[.slice A3 xs.length c3,.int .i64 (i:Nat),.slice (some ⟨w3.heap.size,0,none⟩) 1 1] w4 fun e w1=> ∃ u,e= .returned u∧eT.R 121 w1 w2.heap.size (fun q=>w2.heap.size≤q) u (xs.take i++(k,v)::xs.drop i)∧w4.grownBy w1 (Value.slice A3 xs.length c3).ownBlock):=⟨by
   rintro w4 rfl
   exact Aj A3 c3 i xs w3.heap.size (k,v) w2.heap.size (fun q=>w2.heap.size≤q) _ 121 (Kd.dD HR3.out _) (bU w3 _) (fun e=>by have:=(Kd.bR HR3.out).1 _ e;omega) HPL.out (by have:=HB3.out.size;rw [World.size_alloc];omega) (fun q hq=>by have:=HB3.out.size;rw [World.size_alloc] at hq;omega) (by have:=HL.out;omega)⟩
  have HB4:av (Below w.heap.size w (w3.alloc (.cells #[.int .i64 k,.int .i64 v] 121))):=⟨ai (aU HB2.out HB2.out.size HB3.out) _⟩
  have HOW:av (∀ q,(Value.slice A3 xs.length c3).ownBlock=some q→w.heap.size≤q):=⟨fun q e=>by have h1:=HR3.out.1 q e;have:=HB2.out.size;omega⟩
  have HW2:av (w.heap.size≤w2.heap.size):=⟨HB2.out.size⟩
  clear HR HR3 HB3 HB2 HPL
  go_wp2_with (go_at_call 169;refine (HI.out _ rfl).mono ?_;rintro e w5 ⟨u,rfl,hR5,hg5⟩;have HR5:=Am_ hR5;have HB5:=Am_ (nD HB4.out _ HB4.out.size hg5 HOW.out);clear hR5 hg5)
  (try simp only [Exit.inBlock,Exit.then])
  refine bodyPost_ret (dF (rs:= [.tmp 6,.tmp 7,.tmp 8]) rfl (by simp) (.tmp (.tmp (.tmp .nil)))) rfl ?_
  exact ⟨u,rfl,Kd.eF (Kd.bC HR5.out (fun q hq=>Nat.le_trans HW2.out hq)) HW2.out,HB5.out⟩
 | true=>
  have hlt:posOf xs k<xs.length:=by
   unfold iL at hf
   rw [Bool.and_eq_true,decide_eq_true_eq,show (lG xs).length=xs.length by simp [lG]] at hf
   exact hf.1
  have hge:iR xs k=((xs.getD (posOf xs k) (0,0)).2,true):=by unfold iR;rw [hf];rfl
  have hpu:xg xs k v=xs.set (posOf xs k) ((xs.getD (posOf xs k) (0,0)).1,v):=by unfold xg;rw [hf];rfl
  rw [hge,hpu]
  rw [hf] at HF
  change av (Calls _ _ _ _ fun e w1=>e= .returned (.tuple #[.int .i64 (posOf xs k:Nat),.bool true])∧Below w.heap.size w w1) at HF
  generalize posOf xs k=i at HF hpl hlt HPL ⊢
  have HLT:=Am_ hlt
  have h0:(0:Int)≤(i:Int):=by omega
  have h1:(i:Int)<(xs.length:Int):=by omega
  obtain ⟨ad,rfl,_,_⟩:=pu hr (i:Int) h0 h1
  clear hr hl hf hge hpu hpl hlt
  go_enter Tryz.func119,Tryz.ntmps119
  go_upto_region 2 with (go_at_call 168;refine HF.out.mono ?_;rintro e w2 ⟨rfl,hb2⟩;have HB2:=Am_ hb2;clear hb2)
  clear HF
  go_upto_region 3 with (go_at_call 75;refine (iP _ xs.length c xs w2 (Kd.bE HR.out HB2.out) (by have:=HL.out;omega)).mono ?_;rintro e w3 ⟨v3,rfl,hR3,hb3⟩;obtain ⟨A3,c3,rfl⟩:=Kd.aW hR3;obtain ⟨g3,rfl⟩:=Jh (kW hR3).2 HLT.out;obtain ⟨cur3,hc3,hn3⟩:=Fh hR3;have HR3:=Am_ hR3;have HB3:=Am_ hb3;clear hR3 hb3)
  have HB4:av (Below w.heap.size w w3):=⟨aU HB2.out HB2.out.size HB3.out⟩
  have HS3:=Am_ (Sc HR3.out HLT.out v)
  have HX3:=Am_ (HR3.out.1 g3 rfl)
  obtain ⟨x3,hx3⟩:=KH hc3 HR3.out HLT.out
  have z3:=ah hc3 (i*2+1)
  have HC2:=Am_ (Kd.bE HR.out HB4.out)
  clear HR3 HB3 hc3 hn3
  go_upto_region 5 with fail
  have HB5:=Am_ (wT HB4.out HX3.out HB2.out.size (i*2+1) (.int .i64 v))
  generalize World.setCell _ _ _=w5 at HS3 HB5 ⊢
  obtain ⟨ad2,e2,hc1,hc2⟩:=pu (Kd.bE HR.out HB5.out) (i:Int) h0 h1
  injection e2 with e2
  subst e2
  rw [Int.toNat_natCast] at hc2
  clear z3 hx3 hc1
  go_quiet (fail)
  go_wp2_with fail
  (try simp only [Exit.inBlock,Exit.then])
  refine bodyPost_ret (dF (rs:= [.tmp 6,.tmp 7,.tmp 8]) rfl (by simp) (.tmp (.tmp (.tmp .nil)))) rfl ?_
  exact ⟨_,rfl,Kd.dX (Kd.eF (Kd.bC HS3.out (fun q hq=>Nat.le_trans HB2.out.size hq)) HB2.out.size) (au (Below.refl _ _) _),au HB5.out _⟩
end Go.Proofs.YtmnjjdeaccgjlaaGreat.Tower
