/- Words and contracts that the claim stands on, part 6 of 8. -/
import Derived.Test.YtmnjjdeaccgjlaaGreatProg
import Derived.Test.YtmnjjdeaccgjlaaGreatGPutSplits0
import Derived.Test.YtmnjjdeaccgjlaaGreatGPutSplits1
import Derived.Test.YtmnjjdeaccgjlaaGreatGPutSplits2
import Derived.Test.YtmnjjdeaccgjlaaGreatGPutSplits3
import Derived.Test.YtmnjjdeaccgjlaaGreatGPutSplits4
import Derived.Laws.StructEq
import Derived.Below
import Derived.Deep.Draws
import Derived.Deep.AppendLies
import Derived.Maps.AppendAt
import Derived.OwnWalk
import Derived.Laws.BytesArg
import Derived.Laws.MakeOwn
import Derived.Laws.OwnMore
import Derived.Deep.OwnRows
import Derived.Tactics
import Derived.Lib.ConvBytes
import Derived.Laws.Slices
import Derived.WalkKit
import Derived.KernelRfl
import Derived.RowKit3
import Derived.Deep.LoopGhost
import Derived.Deep.QuietTactic
import Derived.BigQuiet
import Derived.WideLaws
import Derived.Deep.DeepCutAuto
import Derived.Deep.CutBlock
import Derived.Deep.RegionHeld3
import Derived.Laws.Rows
import Derived.Lib.AppendStr
import Derived.ArgAppend
import Derived.Laws.IdiomCopy
import Derived.OrdersHeld
import Derived.Laws.BitsLemmas
import Derived.RowKit
set_option linter.unusedSimpArgs false
set_option linter.unusedVariables false
set_option maxHeartbeats 8000000
set_option maxRecDepth 100000
namespace Go.Proofs.YtmnjjdeaccgjlaaGreat.Tower
open Go Go.RowKit Go.Proofs.YtmnjjdeaccgjlaaGreatW.PrintWords Go.Proofs.YtmnjjdeaccgjlaaGreatW.PrintLast Go.Proofs.YtmnjjdeaccgjlaaGreatW.PrintMore Go.Proofs.YtmnjjdeaccgjlaaGreat.Own
def qZ:List Int→Pr Ws Unit
 | []=>dw ()
 | r::l=>if r=0 then qZ l else aQ (Na r) fun _=>qZ l
theorem lm (p tb:Nat) (work:Value) (me:Int) (ok:Nat→Prop) (s:TS Ws) (w:World) (rs:List Int) (AR:Option Addr) (c:Nat) (h:dU (shW p) tb work ok s w) (hl:(Kd.int .i64).F w (fun k=> ¬ ok k) AR rs.length rs) (hfl:Flat AR) (hsm:rs.length<1000000) (res:Out Unit × TS Ws) (hr:qZ rs s=some res):
  Calls Tryz.prog 121 #[eu tb p me,.slice AR rs.length c] w (gH (shW p) tb work Ox ok w res):=by
 have HTV:eu tb p me= .agg #[.pointer (some ⟨tb,0,none⟩),.pointer (some ⟨p,0,none⟩),.int .i64 me]:=rfl
 rw [HTV]
 have h0:=aX.enter (me:=me) h
 unfold fZ at h0
 have HL:av (iD p tb work me w.heap.size ok w rs AR ok s (w.alloc (.cells #[.pointer (some ⟨tb,0,none⟩),.pointer (some ⟨p,0,none⟩),.int .i64 me] 114))):=⟨{
  task:=h0
  refs:=Kd.eP (Kd.dP hl) _ }⟩
 have HR:=Am_ hr
 have HK:=Am_ (And.intro hsm hfl)
 clear h h0 hr HTV hl hsm hfl
 go_enter Tryz.func121,Tryz.ntmps121
 go_upto_region 1 with fail
 generalize w.alloc (.cells #[.pointer (some ⟨tb,0,none⟩),.pointer (some ⟨p,0,none⟩),.int .i64 me] 114)=w2 at HL ⊢
 generalize hbt:w.heap.size=bt at HL ⊢
 have HBT:=Am_ hbt
 clear hbt
 go_upto_block 0 with fail
 go_wp2_with fail
 go_loopg [8] rs.length (fun g v9 wr=> ∃ k:Nat,v9= .int .i64 k∧k+g=rs.length∧av (∃ okc s,iD p tb work me bt ok w rs AR okc s wr∧qZ (rs.drop k) s=some res))
 case atStart=>exact ⟨0,rfl,by omega,⟨ok,s,HL.out,by have h:=HR.out;rwa [List.drop_zero]⟩⟩
 case round=>
  obtain ⟨k,rfl,hkg,HQ⟩:=hrel
  clear HL HR
  obtain ⟨okc,s1,hq,hr⟩:=HQ.out
  clear HQ
  have HS:=Am_ hq
  cases gk with
  | zero=>
   have d1:decide ((k:Int)<(rs.length:Int))=false:=decide_eq_false (by omega)
   have d2:decide (k<rs.length)=false:=decide_eq_false (by omega)
   have HR3:av (dw () s1=some res):=⟨by rw [List.drop_of_length_le (by omega)] at hr;exact hr⟩
   clear hq hr
   go_wp2_with fail
   go_end0
   obtain rfl:res=(.ret (),s1):=by have h:=HR3.out;injection h with h;exact h.symm
   exact ⟨⟨_,HS.out.task.moves,HS.out.task.run,_,rfl,rfl⟩⟩
  | succ g=>
   have d1:decide ((k:Int)<(rs.length:Int))=true:=decide_eq_true (by omega)
   have d2:decide (k<rs.length)=true:=decide_eq_true (by omega)
   have b1:(0:Int)≤(k:Int):=by omega
   have b2:(k:Int)<(rs.length:Int):=by omega
   have b3:k<rs.length:=by omega
   have hw1:wrap64 ((k:Int)+1)=((k+1:Nat):Int):=by have:=HK.out.1;unfold wrap64;omega
   have HW1:=Am_ hw1
   obtain ⟨gR,eA,hC,_⟩:=IB hq.refs HK.out.2 k b3
   have hdr:rs.drop k=rs.getD k 0::rs.drop (k+1):=by
    rw [List.drop_eq_getElem_cons b3,List.getD_eq_getElem?_getD,List.getElem?_eq_getElem b3]
    rfl
   rw [hdr] at hr
   generalize rs.getD k 0=x at hC hr
   have hr:(if x=0 then qZ (rs.drop (k+1)) else aQ (Na x) fun _=>qZ (rs.drop (k+1))) s1=some res:=hr
   have HBX:=Am_ (Mine.new hq.task.lt (.cells #[.int .i64 x] 45))
   by_cases hx0:x=0
   ·rw [if_pos hx0] at hr
    have HR4:=Am_ hr
    subst hx0
    clear hr hq hdr hw1
    subst eA
    go_upto_region 4 with fail
    clear hC
    have HS4:=Am_ (HS.out.alloc (.cells #[.int .i64 0] 45))
    generalize wr.alloc (.cells #[.int .i64 0] 45)=w1 at HS4 HBX ⊢
    generalize wr.heap.size=bx at HBX ⊢
    have y0:=(af HBX.out.1 0).trans (rfl:_=some (Value.int .i64 0))
    go_wp2_with fail
    go_roundg g
    case rel=>exact ⟨k+1,by first | rfl | rw [HW1.out],by omega,⟨_,s1,HS4.out,HR4.out⟩⟩
    case measure=>omega
   ·rw [if_neg hx0] at hr
    obtain ⟨o,t,hd,hcase⟩:=aN hr
    have HD:=Am_ hd
    have HCS:=Am_ hcase
    have hxb:(x == 0)=false:=beq_eq_false_iff_ne.2 hx0
    have hxn:(x != 0)=true:=by simp [hx0]
    clear hr hq hdr hw1 hd hcase hx0
    subst eA
    go_upto_region 4 with fail
    clear hC
    have HS:=Am_ (HS.out.alloc (.cells #[.int .i64 x] 45))
    generalize wr.alloc (.cells #[.int .i64 x] 45)=w1 at HS HBX ⊢
    generalize wr.heap.size=bx at HBX ⊢
    have y0:=(af HBX.out.1 0).trans (rfl:_=some (Value.int .i64 x))
    have c0:=HS.out.task.c0
    go_wp2_with (go_at_call 154;refine (HS.out.task.MR HBX.out HD.out).mono ?_;rintro e wq ⟨⟨okq,hm,hT,he⟩⟩;rcases HCS.out with hw | hw;(obtain ⟨rfl,rfl⟩:=hw;obtain rfl:e= .panicked dK:=he;exact ⟨rfl,⟨⟨okq,hT.moves,hT.run,rfl⟩⟩⟩);obtain ⟨a3,rfl,hr3⟩:=hw;obtain rfl:e= .returned (.bool a3):=he;have HS4:=Am_ (HS.out.next hm hT);have HR4:=Am_ hr3;clear hm hT hr3 c0)
    go_roundg g
    case rel=>exact ⟨k+1,by first | rfl | rw [HW1.out],by omega,⟨okq,t,HS4.out,HR4.out⟩⟩
    case measure=>omega
def Bp:Bool × List (List Nat × List Nat):=(true,[([],[]),([],[]),([0,1],[0,1]),([2],[2]),([],[]),([],[]),([4,5],[4,5]),([6,3],[6]),([],[]),([],[]),([8,9],[8,9]),([10],[10]),([11],[11]),([3,7,0,1,2,3],[3]),([7,13,0,1,2,3,4,5,6,7,13],[7]),([12,14,0,1,2,3,4,5,6,7,8,9,10,11,12,13,14],[12])])
def KA:List Nat:= [0,0,3,7,0,0,48,127,0,0,768,1792,3840,255,8447,32767]
theorem Cy:gJ .any (opsOf Tryz.f171 4)=Bp:=by kernel_rfl
theorem zi:bI Bp.2 KA=true:=by kernel_rfl
theorem QG:Tryz.prog.info? 121=some ((Tryz.prog.info? 121).get (by kernel_rfl)):=by kernel_rfl
theorem Kz {w:World} {p:Addr} {v:Value} (h:w.cell? p=some v):p.block<w.heap.size:=World.block_lt_of_cell? w p h
theorem yA (A:Option Addr) (c:Nat) (xs:List (Int × Int)) (w:World) (hr:eT.C w A xs.length xs) (hc:xs.length≤c) (h1:1<xs.length) (hl:xs.length<1000000):
  Calls Tryz.prog 171 #[.slice A xs.length c] w fun e w1=> ∃ u1 u2,e= .returned (.tuple #[u1,u2,.int .i64 (xs.getD (xs.length / 2) (0,0)).1])∧eT.R 121 w1 w.heap.size (fun q=>w.heap.size≤q) u1 (xs.take (xs.length / 2))∧eT.R 121 w1 w.heap.size (fun q=>w.heap.size≤q) u2 (xs.drop (xs.length / 2))∧Below w.heap.size w w1:=by
 have hq0:(xs.length:Int) / 2=((xs.length / 2:Nat):Int):=by omega
 have hnl0:xs.length / 2<xs.length∧0<xs.length / 2:=by omega
 generalize xs.length / 2=n at hq0 hnl0 ⊢
 have hnl:=hnl0.1
 obtain ⟨ad,rfl,hk,_⟩:=pu hr (n:Int) (by omega) (by omega)
 rw [Int.toNat_natCast] at hk
 generalize (xs.getD n (0,0)).1=kk at hk ⊢
 have hz0:((xs.length:Int) == 0)=false:=beq_eq_false_iff_ne.2 (by omega)
 have hq:=hq0
 have hb0:(0:Int)≤(xs.length:Int):=by omega
 have hb1:(xs.length:Int)<1000000:=by omega
 have HL1:=Am_ (Kd.Gd hr (Nat.le_of_lt hnl))
 rw [List.length_take,Nat.min_eq_left (Nat.le_of_lt hnl)] at HL1
 have HL2:=Am_ (Kd.Mh hr (Nat.le_of_lt hnl) hc)
 rw [if_neg (by omega),List.length_drop] at HL2
 have hct:=BP 26 121 .i64 Tryz.underlying26 QG (some ad) xs.length c (n:Int) (by omega) (by omega) hc
 have hcf:=jX 26 121 .i64 Tryz.underlying26 QG 2 rfl (some ad) xs.length c (n:Int) (by omega) (by omega)
 rw [Int.toNat_natCast] at hct hcf
 rw [if_neg (by omega)] at hcf
 have hx0:(0:Int)≤(n:Int):=by omega
 have hx1:(n:Int)<(xs.length:Int):=by omega
 have hx2:(n:Int)≤(xs.length:Int):=by omega
 have HL:=Am_ hl
 have HNL:=Am_ hnl
 have HR:=Am_ hr
 have HCC:=Am_ hc
 have HC:=Am_ (show w.drew.cell? (ad.add (n*2))=some (.int .i64 kk) from hk)
 clear hl hnl hr hc hk h1 hq0 hnl0
 go_enter Tryz.func171,Tryz.ntmps171
 go_upto_region 4 with fail
 refine bK (n:=16) (S:=fun w'=>w'.cell? (ad.add (n*2))=some (.int .i64 kk)) (ds:= []) (by kernel_rfl) rfl Cy zi HC.out (fun hHeld HT_ HW_=>?_)
 have HB1:=Am_ (au (Below.refl w.heap.size w) 1)
 clear HC
 generalize hwd:w.drew=w1 at hHeld ⊢
 have HB1:av (Below w.heap.size w w1):=⟨by rw [←hwd];exact HB1.out⟩
 clear hwd
 refine gy [(0,some 12),(1,some 13),(2,some 14),(4,some 16),(5,some 17),(6,some 18),(8,some 20),(9,some 21),(10,some 22),(11,some 23),(12,some 24)] ?_
 iterate 10 (refine gG (v:=?_) (a':=?_) HT_ (by kernel_rfl) rfl rfl (fun _ _ _ h=>h) (Or.inl ⟨by rfl,?_⟩) ?_ ?_;rotate_left;(intro w';go_simp;with_reducible rfl);rotate_left;(simp only [Act.put,p1_,p2_,p3_,aG,aH];rfl))
 (refine jW (v:=?_) (a':=?_) HT_ HW_ (by kernel_rfl) rfl rfl (fun _ _ _ h=>h) hHeld (Or.inl ⟨by rfl,?_⟩) ?_ ?_;rotate_left;(rintro w' s0;go_simp;with_reducible rfl);rotate_left;(simp only [Act.put,p1_,p2_,p3_,aG,aH];rfl))
 refine bG ?_
 refine dI (i:=3) (some 15) HT_ (by kernel_rfl) rfl rfl (by decide) (fun K_ hK=>?_)
 refine call_ 75 #[.slice (some ad) n c] (by rfl) rfl ?hrun3 ?_
 (case hrun3=>first | (go_simp;done) | (go_simp;exact enters Tryz.func75 (by kernel_rfl) rfl _ _))
 refine (iP (some ad) n c (xs.take n) w1 (Kd.bE HL1.out HB1.out) (by have:=HL.out;omega)).mono ?_
 rintro e w2 ⟨v2,rfl,hR2,hb2⟩
 have HR2:=Am_ (Kd.eF hR2 HB1.out.size)
 have HO2:=Am_ (fun k hk=>(hR2.1 k hk:w1.heap.size≤k))
 have HB2:=Am_ (aU HB1.out HB1.out.size hb2)
 obtain ⟨A2,c2,rfl⟩:=Kd.aW hR2
 have HC2:=Am_ ((hb2.cell (p:=ad.add (n*2)) (Kz hHeld)).trans hHeld)
 have HS2:=Am_ hb2.size
 clear hR2 hb2 hHeld
 refine ⟨_,rfl,?_⟩
 refine hK.out _ _ HC2.out (fun hHeld=>?_)
 clear hK K_
 refine cK (a':=?_) ?_ ?_
 rotate_left; · show Act.put _ (some 15) _=_;simp only [Act.put,p1_,p2_,p3_,aG,aH];rfl
 refine dI (i:=7) (some 19) HT_ (by kernel_rfl) rfl rfl (by decide) (fun K_ hK=>?_)
 refine call_ 75 #[.slice (some (ad.add (n*2))) (xs.length - n) (c - n)] (by rfl) rfl ?hrun7 ?_
 (case hrun7=>first | (go_simp;done) | (go_simp;exact enters Tryz.func75 (by kernel_rfl) rfl _ _))
 refine (iP (some (ad.add (n*2))) (xs.length - n) (c - n) (xs.drop n) w2 (Kd.bE HL2.out HB2.out) (by have:=HL.out;omega)).mono ?_
 rintro e w3 ⟨v3,rfl,hR3,hb3⟩
 have HR3:=Am_ (Kd.eF hR3 HB2.out.size)
 have HB3:=Am_ (aU HB2.out HB2.out.size hb3)
 have HR23:=Am_ (Kd.dX HR2.out hb3)
 obtain ⟨A3,c3,rfl⟩:=Kd.aW hR3
 have HC3:=Am_ ((hb3.cell (p:=ad.add (n*2)) (Kz HC2.out)).trans HC2.out)
 clear hR3 hb3 HR2 HC2
 refine ⟨_,rfl,?_⟩
 refine hK.out _ _ HC3.out (fun hHeld=>?_)
 clear hK K_
 refine cK (a':=?_) ?_ ?_
 rotate_left; · show Act.put _ (some 19) _=_;simp only [Act.put,p1_,p2_,p3_,aG,aH];rfl
 refine gy [(13,some 2),(14,some 3),(15,some 4)] ?_
 iterate 3 (refine gG (v:=?_) (a':=?_) HT_ (by kernel_rfl) rfl rfl (fun _ _ _ h=>h) (Or.inl ⟨by rfl,?_⟩) ?_ ?_;rotate_left;(intro w';go_simp;with_reducible rfl);rotate_left;(simp only [Act.put,p1_,p2_,p3_,aG,aH];rfl))
 refine bG ?_
 refine dR (bM HT_.out (by kernel_rfl)) ?_
 go_wp2_with fail
 (try simp only [Exit.inBlock,Exit.then])
 refine bodyPost_ret (dF (rs:= [.tmp 2,.tmp 3,.tmp 4]) rfl (by simp) (.tmp (.tmp (.tmp .nil)))) rfl ?_
 have h2:=HR23.out
 have h3:=HR3.out
 rw [List.length_take] at h2
 rw [List.length_drop] at h3
 exact ⟨.slice A2 (min n xs.length) c2,.slice A3 (xs.length - n) c3,rfl,Kd.bC h2 (fun q hq=>Nat.le_trans HB1.out.size hq),Kd.bC h3 (fun q hq=>Nat.le_trans HB2.out.size hq),HB3.out⟩
def qJ (l:List (Int × Int)) (tagged:Bool) (x y:Int):Pr Ws (List Int × Int):=if x=0∨y=0 then dw ([x,y],0) else aQ (sD ⟨true,tagged,[],[(l.getD (l.length / 2) (0,0)).1],[x,y]⟩) fun r=>dw ([x,y,r],r)
def OO (l:List (Int × Int)) (tagged:Bool):Pr Ws (List Int × Int):=aQ (sD ⟨false,false,l.take (l.length / 2),[],[]⟩) fun x=>aQ (sD ⟨false,false,l.drop (l.length / 2),[],[]⟩) (qJ l tagged x)
def nV (l:List (Int × Int)) (tagged:Bool):Pr Ws (List Int × Int):=fun s=>if (l.length:Int)≤s.sh.b then BR l tagged s else if 1<l.length∧l.length<1000000 then OO l tagged s else none
theorem qU (p tb:Nat) (work:Value) (me:Int) (ok:Nat→Prop) (s:TS Ws) (w:World) (l:List (Int × Int)) (A:Option Addr) (c:Nat) (tagged:Bool) (h:dU (shW p) tb work ok s w) (hl:eT.F w (fun k=> ¬ ok k) A l.length l) (hc:l.length≤c) (res:Out (List Int × Int) × TS Ws) (hr:nV l tagged s=some res):
  Calls Tryz.prog 120 #[eu tb p me,.slice A l.length c,.bool tagged] w (gH (shW p) tb work (Mg w.heap.size) ok w res):=by
 by_cases hsz:(l.length:Int)≤s.sh.b
 ·exact zw p tb work me ok s w l A c tagged h hl hc res (by unfold nV at hr;rw [if_pos hsz] at hr;exact hr)
 have HTV:eu tb p me= .agg #[.pointer (some ⟨tb,0,none⟩),.pointer (some ⟨p,0,none⟩),.int .i64 me]:=rfl
 rw [HTV]
 unfold nV at hr
 rw [if_neg hsz] at hr
 have hsm:1<l.length∧l.length<1000000:=by
  by_cases h1:1<l.length∧l.length<1000000
  ·exact h1
  ·rw [if_neg h1] at hr
   cases hr
 rw [if_pos hsm] at hr
 have hr:aQ (sD ⟨false,false,l.take (l.length / 2),[],[]⟩) (fun x=>aQ (sD ⟨false,false,l.drop (l.length / 2),[],[]⟩) (qJ l tagged x)) s=some res:=hr
 have d1:decide ((l.length:Int)≤s.sh.b)=false:=decide_eq_false hsz
 have h0:=aX.enter (me:=me) h
 unfold fZ at h0
 have HF:=Am_ (Kd.eP hl (.cells #[.pointer (some ⟨tb,0,none⟩),.pointer (some ⟨p,0,none⟩),.int .i64 me] 114))
 have HT:=Am_ h0
 have HC:=Am_ hc
 have HSM:=Am_ hsm
 have HLN:=Am_ (And.intro (show (l.take (l.length / 2)).length≤l.length by rw [List.length_take];omega) (And.intro (show (l.drop (l.length / 2)).length≤l.length by rw [List.length_drop];omega) hsm.2))
 have HR0:=Am_ hr
 clear h h0 hr HTV hl hc hsm hsz
 go_enter Tryz.func120,Tryz.ntmps120
 go_upto_region 1 with fail
 generalize w.alloc (.cells #[.pointer (some ⟨tb,0,none⟩),.pointer (some ⟨p,0,none⟩),.int .i64 me] 114)=w1 at HF HT ⊢
 generalize hbt:w.heap.size=bt at HT ⊢
 have HBT:=Am_ hbt
 clear hbt
 have c0:=HT.out.c0
 have c1:=HT.out.c1
 have c2:=HT.out.c2
 have c4:=HT.out.pb.1
 go_upto_region 5 with (go_at_call 171;refine (yA A c l _ (Kd.fM HF.out) HC.out HSM.out.1 HSM.out.2).mono ?_;rintro e w2 ⟨u1,u2,rfl,hR1,hR2,hb2⟩;generalize hkk:(l.getD (l.length / 2) (0,0)).1=kk;have HKK:=Am_ hkk;clear hkk;obtain ⟨A1,cc1,rfl⟩:=Kd.aW hR1;obtain ⟨A2,cc2,rfl⟩:=Kd.aW hR2;have HK1:=Am_ (And.intro (Kd.bF hR1).2.1 (Kd.bF hR2).2.1);have HP1:=Am_ (Kd.bP (ok':=fun k=> ¬ ok k) (Kd.R_F hR1) (fun k hk h1=>by have:=HT.out.lt k h1;omega));have HP2:=Am_ (Kd.bP (ok':=fun k=> ¬ ok k) (Kd.R_F hR2) (fun k hk h1=>by have:=HT.out.lt k h1;omega));have HT2:=Am_ (HT.out.below hb2);clear hR1 hR2 hb2 c0 c1 c2 c4;generalize hn1:(l.take (l.length / 2)).length=n1 at HK1 HP1 ⊢;generalize hn2:(l.drop (l.length / 2)).length=n2 at HK1 HP2 ⊢;have HN1:=Am_ hn1;have HN2:=Am_ hn2;clear hn1 hn2)
 clear HF HT d1
 have hr:=HR0.out
 generalize hl1:l.take (l.length / 2)=l1 at hr HP1 HN1 HLN ⊢
 generalize hl2:l.drop (l.length / 2)=l2 at hr HP2 HN2 HLN ⊢
 obtain ⟨o,t,hd,hcase⟩:=aN hr
 have HD:=Am_ hd
 have HCS:=Am_ hcase
 clear hd hcase
 clear hr HR0 hl1 hl2
 have HNF:av (NdF (fun k=> ¬ ok k) ⟨false,false,l1,[],[]⟩ (.agg #[.bool false,.bool false,.slice A1 n1 cc1,.slice none 0 0,.slice none 0 0]) w2):=⟨by rw [←HN1.out];have h1:=HP1.out;have h2:=HK1.out;rw [←HN1.out] at h1 h2;exact ⟨A1,cc1,none,0,none,0,rfl,h2.1,Nat.le_refl _,Nat.le_refl _,h1,Kd.jv _ _ _,Kd.jv _ _ _⟩⟩
 have c0:=HT2.out.c0
 have c1:=HT2.out.c1
 have c2:=HT2.out.c2
 go_upto_region 6 with (go_at_call 170;refine (kS p tb work me _ _ _ ⟨false,false,l1,[],[]⟩ false false A1 none none n1 0 0 cc1 0 0 HT2.out.run HNF.out ⟨Nat.lt_of_le_of_lt HLN.out.1 HLN.out.2.2,by simp,by simp⟩ (o,t) HD.out).mono ?_;rintro e wq3 ⟨okq3,hm,hi,he⟩;rcases HCS.out with hw | hw;(obtain ⟨rfl,rfl⟩:=hw;obtain rfl:e= .panicked dK:=he;exact ⟨rfl,⟨⟨okq3,HT2.out.moves.trans hm,hi,rfl⟩⟩⟩);obtain ⟨x,rfl,hr2⟩:=hw;obtain ⟨_,rfl,rfl⟩:=he;have HT3:=Am_ (HT2.out.next hm hi);have HR3:=Am_ hr2;have HP2:=Am_ (ig HP2.out hm);clear hm hi hr2 c0 c1 c2)
 clear HT2 HNF HP1 HD HCS
 have hr:=HR3.out
 obtain ⟨o,t,hd,hcase⟩:=aN hr
 have HD:=Am_ hd
 have HCS:=Am_ hcase
 clear hd hcase
 clear hr HR3
 have HNF:av (NdF (fun k=> ¬ okq3 k) ⟨false,false,l2,[],[]⟩ (.agg #[.bool false,.bool false,.slice A2 n2 cc2,.slice none 0 0,.slice none 0 0]) wq3):=⟨by rw [←HN2.out];have h1:=HP2.out;have h2:=HK1.out;rw [←HN2.out] at h1 h2;exact ⟨A2,cc2,none,0,none,0,rfl,h2.2,Nat.le_refl _,Nat.le_refl _,h1,Kd.jv _ _ _,Kd.jv _ _ _⟩⟩
 have c0:=HT3.out.c0
 have c1:=HT3.out.c1
 have c2:=HT3.out.c2
 go_upto_region 7 with (go_at_call 170;refine (kS p tb work me _ _ _ ⟨false,false,l2,[],[]⟩ false false A2 none none n2 0 0 cc2 0 0 HT3.out.run HNF.out ⟨Nat.lt_of_le_of_lt HLN.out.2.1 HLN.out.2.2,by simp,by simp⟩ (o,t) HD.out).mono ?_;rintro e wq4 ⟨okq4,hm,hi,he⟩;rcases HCS.out with hw | hw;(obtain ⟨rfl,rfl⟩:=hw;obtain rfl:e= .panicked dK:=he;exact ⟨rfl,⟨⟨okq4,HT3.out.moves.trans hm,hi,rfl⟩⟩⟩);obtain ⟨y,rfl,hr2⟩:=hw;obtain ⟨_,rfl,rfl⟩:=he;have HT4:=Am_ (HT3.out.next hm hi);have HR4:=Am_ hr2;clear hm hi hr2 c0 c1 c2)
 clear HT3 HNF HP2 HD HCS
 have hr:qJ l tagged x y t=some res:=HR4.out
 unfold qJ at hr
 rw [HKK.out] at hr
 by_cases hxy:x=0∨y=0
 ·rw [if_pos hxy] at hr
  have HRR:av (res=(.ret ([x,y],0),t)):=⟨by injection hr with h;exact h.symm⟩
  have HB:=Am_ (uF (k:= .i64) 45 wq4 w.heap.size [x,y] HT4.out.moves.size (by simp))
  have HT5:=Am_ (HT4.out.alloc (.cells #[.int .i64 x,.int .i64 y] 45))
  have HNR:av (∀ q,q=wq4.heap.size→ ¬ okq4 q):=⟨fun q e h1=>by have:=HT4.out.lt q h1;omega⟩
  by_cases hx:x=0
  ·subst hx
   clear hr HR4 HT4 hxy
   go_wp2_with fail
   (try simp only [Exit.inBlock,Exit.then])
   refine bodyPost_ret (dF (rs:= [.tmp 6,.tmp 7]) rfl (by simp) (.tmp (.tmp .nil))) rfl ?_
   obtain rfl:=HRR.out
   exact ⟨⟨okq4,HT5.out.moves,HT5.out.run,_,rfl,_,_,rfl,Kd.bC HB.out HNR.out⟩⟩
  ·obtain rfl:y=0:=hxy.resolve_left hx
   have hxb:(x == 0)=false:=beq_eq_false_iff_ne.2 hx
   clear hr HR4 HT4 hxy hx
   go_wp2_with fail
   (try simp only [Exit.inBlock,Exit.then])
   refine bodyPost_ret (dF (rs:= [.tmp 6,.tmp 7]) rfl (by simp) (.tmp (.tmp .nil))) rfl ?_
   obtain rfl:=HRR.out
   exact ⟨⟨okq4,HT5.out.moves,HT5.out.run,_,rfl,_,_,rfl,Kd.bC HB.out HNR.out⟩⟩
 ·rw [if_neg hxy] at hr
  obtain ⟨o,t,hd,hcase⟩:=aN hr
  have HD:=Am_ hd
  have HCS:=Am_ hcase
  clear hd hcase
  have hxb:(x == 0)=false:=beq_eq_false_iff_ne.2 (fun e=>hxy (.inl e))
  have hyb:(y == 0)=false:=beq_eq_false_iff_ne.2 (fun e=>hxy (.inr e))
  clear hr HR4 hxy
  have HBK:=Am_ (uF (k:= .i64) 2 wq4 wq4.heap.size [kk] (Nat.le_refl _) (by simp))
  have HBY:=Am_ (uF (k:= .i64) 45 (wq4.alloc (.cells #[.int .i64 kk] 2)) wq4.heap.size [x,y] (by simp) (by simp))
  have HN5:av (∀ k,wq4.heap.size≤k→ ¬ okq4 k):=⟨fun q e h1=>by have:=HT4.out.lt q h1;omega⟩
  have HNF:av (NdF (fun k=> ¬ okq4 k) ⟨true,tagged,[],[kk],[x,y]⟩ (.agg #[.bool true,.bool tagged,.slice none 0 0,.slice (some ⟨wq4.heap.size,0,none⟩) 1 1,.slice (some ⟨wq4.heap.size+1,0,none⟩) 2 2]) ((wq4.alloc (.cells #[.int .i64 kk] 2)).alloc (.cells #[.int .i64 x,.int .i64 y] 45))):=⟨⟨none,0,_,_,_,_,rfl,Nat.le_refl _,Nat.le_refl _,Nat.le_refl _,Kd.jv _ _ _,Kd.bP (Kd.eP (Kd.R_F HBK.out) _) (fun k hk=>HN5.out k (by omega)),by
   have:=Kd.bP (ok':=fun k=> ¬ okq4 k) (Kd.R_F HBY.out) (fun k hk=>HN5.out k (by rw [World.size_alloc] at hk;omega))
   rw [World.size_alloc] at this
   exact this⟩⟩
  have HT5:=Am_ ((HT4.out.alloc (.cells #[.int .i64 kk] 2)).alloc (.cells #[.int .i64 x,.int .i64 y] 45))
  have c0:=HT4.out.c0
  have c1:=HT4.out.c1
  have c2:=HT4.out.c2
  clear HBK HBY HN5
  go_upto_region 10 with (go_at_call 170;refine (kS p tb work me _ _ _ ⟨true,tagged,[],[kk],[x,y]⟩ true tagged none _ _ 0 1 2 0 1 2 HT5.out.run HNF.out ⟨by simp,by simp,by simp⟩ (o,t) HD.out).mono ?_;rintro e wq6 ⟨okq6,hm,hi,he⟩;rcases HCS.out with hw | hw;(obtain ⟨rfl,rfl⟩:=hw;obtain rfl:e= .panicked dK:=he;exact ⟨rfl,⟨⟨okq6,HT5.out.moves.trans hm,hi,rfl⟩⟩⟩);obtain ⟨r,rfl,hr2⟩:=hw;obtain ⟨_,rfl,rfl⟩:=he;have HT6:=Am_ (HT5.out.next hm hi);have HR6:=Am_ hr2;clear hm hi hr2 c0 c1 c2)
  clear HT5 HT4 HNF HD HCS
  have HRR:av (res=(.ret ([x,y,r],r),t)):=⟨by have h:=HR6.out;injection h with h;exact h.symm⟩
  have HB:=Am_ (uF (k:= .i64) 45 wq6 w.heap.size [x,y,r] HT6.out.moves.size (by simp))
  have HT7:=Am_ (HT6.out.alloc (.cells #[.int .i64 x,.int .i64 y,.int .i64 r] 45))
  have HNR:av (∀ q,q=wq6.heap.size→ ¬ okq6 q):=⟨fun q e h1=>by have:=HT6.out.lt q h1;omega⟩
  clear HT6 HR6
  go_wp2_with fail
  (try simp only [Exit.inBlock,Exit.then])
  refine bodyPost_ret (dF (rs:= [.tmp 6,.tmp 7]) rfl (by simp) (.tmp (.tmp .nil))) rfl ?_
  obtain rfl:=HRR.out
  exact ⟨⟨okq6,HT7.out.moves,HT7.out.run,_,rfl,_,_,rfl,Kd.bC HB.out HNR.out⟩⟩
def jJ (k:Nat) (r:PR) (mt:Pr Ws Bool):Pr Ws PR:=if 1<k then aQ mt fun b=>dw ⟨r.nn,b,r.fd,r.va⟩ else dw r
def lU (me r:Int) (made:List Int) (was:Int × Bool) (mt:Pr Ws Bool) (next:Pr Ws PR) (d:Bool × Bool):Pr Ws PR:=
 if d.1=true then aQ (lV me [r]) fun _=>jJ made.length ⟨false,false,was.2,was.1⟩ mt
 else aQ (qZ made) fun _=>if d.2=true then dw ⟨true,false,false,0⟩ else next
def jq (me:Int) (l:List Sn) (way r:Int) (was:Int × Bool) (mt:Pr Ws Bool) (next:Pr Ws PR) (m:List Int × Int):Pr Ws PR:=
 if m.1.length<1000 then (if m.2=0 then aQ (qZ m.1) fun _=>dw ⟨true,false,false,0⟩ else aQ (sP l 1 way r m.2) (lU me r m.1 was mt next)) else fun _=>none
def jK (l:List (Int × Int)) (r:Int):Pr Ws (List Int × Int):=fun s=>nV l (r != s.sh.entry) s
def pO (me key value:Int) (fresh:Bool) (l:List Sn) (q:Stp × Stp) (mt:Pr Ws Bool) (next:Pr Ws PR) (ps:List (Int × Int)):Pr Ws PR:=
 if ps.length<999999 then (if ((iR ps key).2 && fresh)=true then dw ⟨false,false,true,(iR ps key).1⟩ else aQ (jK (xg ps key value) q.1.ref) (jq me l q.1.way q.2.ref (iR ps key) mt next)) else fun _=>none
def oz (me key value:Int) (fresh:Bool) (q:Stp × Stp) (mt:Pr Ws Bool) (L:List Sn × Bool) (next:Pr Ws PR):Pr Ws PR:=
 if L.2=true then (if L.1.length=2 then (if qj (L.1.getD 0 sn0) q.1.way q.2.ref=true then pO me key value fresh L.1 q mt next (L.1.getD 1 sn0).node.pairs else next) else fun _=>none) else next
def jP (me key value:Int) (fresh:Bool) (fl:Nat) (mt:Pr Ws Bool):Nat→Pr Ws PR
 | 0=>fun _=>none
 | f+1=>aQ (Dk key fl) fun q=>aQ (lu [q.1.ref,q.2.ref] []) fun L=>oz me key value fresh q mt L (jP me key value fresh fl mt f)
def Lf:Bool × List (List Nat × List Nat):=(true,[([],[]),([0],[0]),([1],[1]),([2],[2]),([3,2],[2,3]),([4,2],[2,4]),([2],[2]),([6,2],[2,6]),([2],[2]),([8,2],[2,8]),([5,7,9,2,2],[2,5,7,9]),([10,2],[2,10]),([2,11],[2,11])])
def Qd:List Nat:= [0,1,3,7,15,31,7,71,7,263,1023,2047,4095]
theorem IK:gJ .any (opsOf Tryz.f70 3)=Lf:=by kernel_rfl
theorem FC:bI Lf.2 Qd=true:=by kernel_rfl
def LQ:Bool × List (List Nat × List Nat):=(true,[([],[]),([],[]),([],[]),([2],[2]),([],[]),([4],[4]),([5],[5]),([6],[6]),([7],[7]),([3,8],[3,8]),([0,1,9],[0,1,9]),([10],[10]),([11],[11]),([11],[11]),([12,10,0,1,2,3,4,5,6,7,8,9,10,11,12],[12]),([13,14,0,1,2,3,4,5,6,7,8,9,10,11,12,13,14],[13])])
def Pz:List Nat:= [0,0,0,4,0,16,48,112,240,508,1023,2047,4095,4095,8191,32767]
theorem Bz:gJ .any (opsOf Tryz.f70 7)=LQ:=by kernel_rfl
theorem xO:bI LQ.2 Pz=true:=by kernel_rfl
theorem Cv (p tb:Nat) (work:Value) (me key value:Int) (fresh:Bool) (fl f:Nat) (ok:Nat→Prop) (s:TS Ws) (w:World) (h:dU (shW p) tb work ok s w) (hfl0:fl<900000) (mt:Pr Ws Bool) (hmend0: ∀ (ok:Nat→Prop) (s:TS Ws) (w:World),dU (shW p) tb work ok s w→ ∀ (res:Out Bool × TS Ws),mt s=some res→Calls Tryz.prog 124 #[eu tb p me,.int .i64 key] w (gH (shW p) tb work uP ok w res)) (res:Out PR × TS Ws) (hr:jP me key value fresh fl mt f s=some res):
  Calls Tryz.prog 70 #[eu tb p me,.int .i64 key,.int .i64 value,.bool fresh] w (gH (shW p) tb work VPR ok w res):=by
 have HTV:eu tb p me= .agg #[.pointer (some ⟨tb,0,none⟩),.pointer (some ⟨p,0,none⟩),.int .i64 me]:=rfl
 rw [HTV]
 have h0:=aX.enter (me:=me) h
 unfold fZ at h0
 have HS:av (zb p tb work me w.heap.size ok w (w.heap.size+1) ok s ((w.alloc (.cells #[.pointer (some ⟨tb,0,none⟩),.pointer (some ⟨p,0,none⟩),.int .i64 me] 114)).alloc (.cells #[.bool false,.bool false,.bool false,.int .i64 0] 117))):=⟨{
  task:=h0.alloc (.cells #[.bool false,.bool false,.bool false,.int .i64 0] 117)
  res:=by
   have h1:=Mine.new h0.lt (.cells #[.bool false,.bool false,.bool false,.int .i64 0] 117)
   simp only [World.size_alloc] at h1
   exact h1 }⟩
 have HR:=Am_ hr
 have hfl:=Am_ hfl0
 have hmend:av (∀ (ok:Nat→Prop) (s:TS Ws) (w:World),dU (shW p) tb work ok s w→ ∀ (res:Out Bool × TS Ws),mt s=some res→Calls Tryz.prog 124 #[.agg #[.pointer (some ⟨tb,0,none⟩),.pointer (some ⟨p,0,none⟩),.int .i64 me],.int .i64 key] w (gH (shW p) tb work uP ok w res)):=⟨hmend0⟩
 clear h h0 hr HTV hfl0 hmend0
 go_enter Tryz.func70,Tryz.ntmps70
 go_upto_block 0 with fail
 generalize (w.alloc (.cells #[.pointer (some ⟨tb,0,none⟩),.pointer (some ⟨p,0,none⟩),.int .i64 me] 114)).alloc (.cells #[.bool false,.bool false,.bool false,.int .i64 0] 117)=w1 at HS ⊢
 generalize hbt:w.heap.size=bt at HS ⊢
 generalize hb8:bt+1=b8 at HS ⊢
 have HB8:av (w.heap.size≤b8∧b8≠bt):=⟨by omega⟩
 have HBT:=Am_ hbt
 clear hbt hb8
 go_wp2_with fail
 go_loopg [] f (fun g wr=>av (∃ okc s,zb p tb work me bt ok w b8 okc s wr∧jP me key value fresh fl mt g s=some res))
 case atStart=>exact ⟨_,_,HS.out,HR.out⟩
 case round=>
  clear HS HR
  obtain ⟨okc,s1,hq,hr⟩:=hrel.out
  clear hrel
  cases gk with
  | zero=>cases hr
  | succ g=>
   have hr:aQ (Dk key fl) (fun q=>aQ (lu [q.1.ref,q.2.ref] []) fun L=>oz me key value fresh q mt L (jP me key value fresh fl mt g)) s1=some res:=hr
   obtain ⟨o,t,hd,hcase⟩:=aN hr
   have HD:=Am_ hd
   have HCS:=Am_ hcase
   clear hd hcase
   have HG:=Am_ hq.task.run.good
   have c0:=hq.task.c0
   have c1:=hq.task.c1
   have c2:=hq.task.c2
   have HS:=Am_ hq
   clear hq hr
   go_upto_region 2 with (go_at_call 116;refine (DF p tb work me key _ _ _ HS.out.task.run fl hfl.out (o,t) HD.out (fun l t h=>by have:=(uh key fl _ _ _ _ _ HG.out (by simp) h).2;simp at this;have:=hfl.out;omega)).mono ?_;rintro e wq ⟨okq,hm,hi,he⟩;rcases HCS.out with hw | hw;(obtain ⟨rfl,rfl⟩:=hw;obtain rfl:e= .panicked dK:=he;exact ⟨rfl,⟨⟨okq,HS.out.task.moves.trans hm,hi,rfl⟩⟩⟩);obtain ⟨q,rfl,hr2⟩:=hw;obtain ⟨_,rfl,cs,ds,rfl,hf1,hf2⟩:=he;obtain ⟨Ap1,cp1,Ak1,ck1,Ay1,cy1,rfl⟩:=kG (Kd.si hf1);obtain ⟨Ap2,cp2,Ak2,ck2,Ay2,cy2,rfl⟩:=kG (Kd.si hf2);have HS2:=Am_ (HS.out.next hm (HS.out.task.next hm hi));have HR2:=Am_ hr2;clear hm hi hf1 hf2 hr2 c0 c1 c2)
   clear HS HD HCS HG
   have hr:=HR2.out
   obtain ⟨o,t,hd,hcase⟩:=aN hr
   have HD:=Am_ hd
   have HCS:=Am_ hcase
   clear hd hcase
   clear hr HR2
   have HS3:=Am_ ((HS2.out.alloc (.cells #[.int .i64 q.fst.ref,.bool q.fst.node.inner,.bool q.fst.node.tagged,.slice Ap1 q.fst.node.pairs.length cp1,.slice Ak1 q.fst.node.keys.length ck1,.slice Ay1 q.fst.node.ways.length cy1,.int .i64 q.fst.way] 159)).alloc (.cells #[.int .i64 q.snd.ref,.bool q.snd.node.inner,.bool q.snd.node.tagged,.slice Ap2 q.snd.node.pairs.length cp2,.slice Ak2 q.snd.node.keys.length ck2,.slice Ay2 q.snd.node.ways.length cy2,.int .i64 q.snd.way] 159))
   have H9:=Am_ ((Mine.new HS2.out.task.lt (.cells #[.int .i64 q.fst.ref,.bool q.fst.node.inner,.bool q.fst.node.tagged,.slice Ap1 q.fst.node.pairs.length cp1,.slice Ak1 q.fst.node.keys.length ck1,.slice Ay1 q.fst.node.ways.length cy1,.int .i64 q.fst.way] 159)).alloc (.cells #[.int .i64 q.snd.ref,.bool q.snd.node.inner,.bool q.snd.node.tagged,.slice Ap2 q.snd.node.pairs.length cp2,.slice Ak2 q.snd.node.keys.length ck2,.slice Ay2 q.snd.node.ways.length cy2,.int .i64 q.snd.way] 159))
   have H10:=Am_ (Mine.new (HS2.out.alloc (.cells #[.int .i64 q.fst.ref,.bool q.fst.node.inner,.bool q.fst.node.tagged,.slice Ap1 q.fst.node.pairs.length cp1,.slice Ak1 q.fst.node.keys.length ck1,.slice Ay1 q.fst.node.ways.length cy1,.int .i64 q.fst.way] 159)).task.lt (.cells #[.int .i64 q.snd.ref,.bool q.snd.node.inner,.bool q.snd.node.tagged,.slice Ap2 q.snd.node.pairs.length cp2,.slice Ak2 q.snd.node.keys.length ck2,.slice Ay2 q.snd.node.ways.length cy2,.int .i64 q.snd.way] 159))
   simp only [World.size_alloc] at H10
   clear HS2
   generalize (wq.alloc (.cells #[.int .i64 q.fst.ref,.bool q.fst.node.inner,.bool q.fst.node.tagged,.slice Ap1 q.fst.node.pairs.length cp1,.slice Ak1 q.fst.node.keys.length ck1,.slice Ay1 q.fst.node.ways.length cy1,.int .i64 q.fst.way] 159)).alloc (.cells #[.int .i64 q.snd.ref,.bool q.snd.node.inner,.bool q.snd.node.tagged,.slice Ap2 q.snd.node.pairs.length cp2,.slice Ak2 q.snd.node.keys.length ck2,.slice Ay2 q.snd.node.ways.length cy2,.int .i64 q.snd.way] 159)=w3 at HS3 H9 H10 ⊢
   generalize wq.heap.size=b9 at H9 H10 ⊢
   generalize b9+1=b10 at H10 ⊢
   have y0:=(af H9.out.1 0).trans (rfl:_=some (Value.int .i64 q.fst.ref))
   have y1:=(af H10.out.1 0).trans (rfl:_=some (Value.int .i64 q.snd.ref))
   have c0:=HS3.out.task.c0
   have c1:=HS3.out.task.c1
   have c2:=HS3.out.task.c2
   have HLF:av ((Kd.int .i64).F (w3.alloc (.cells #[.int .i64 q.fst.ref,.int .i64 q.snd.ref] 45)) (fun k=> ¬ okq k) (some ⟨w3.heap.size,0,none⟩) 2 [q.fst.ref,q.snd.ref]):=⟨Kd.bP (Kd.R_F (uF (k:= .i64) 45 w3 0 [q.fst.ref,q.snd.ref] (Nat.zero_le _) (by simp))) (fun k e h=>by have:=HS3.out.task.lt k h;omega)⟩
   have HS4:=Am_ (HS3.out.alloc (.cells #[.int .i64 q.fst.ref,.int .i64 q.snd.ref] 45))
   have H94:=Am_ (H9.out.alloc (.cells #[.int .i64 q.fst.ref,.int .i64 q.snd.ref] 45))
   have H104:=Am_ (H10.out.alloc (.cells #[.int .i64 q.fst.ref,.int .i64 q.snd.ref] 45))
   clear HS3 H9 H10
   go_upto_region 3 with (go_at_call 117;refine (Ae p tb work me _ _ _ [q.fst.ref,q.snd.ref] (some ⟨w3.heap.size,0,none⟩) 2 HS4.out.task.run HLF.out (fun ad e=>by injection e with e;exact ⟨_,e.symm⟩) (by simp) (o,t) HD.out).mono ?_;rintro e wq2 ⟨okq2,hm,hi,he⟩;rcases HCS.out with hw | hw;(obtain ⟨rfl,rfl⟩:=hw;obtain rfl:e= .panicked dK:=he;exact ⟨rfl,⟨⟨okq2,HS4.out.task.moves.trans hm,hi,rfl⟩⟩⟩);obtain ⟨L,rfl,hr2⟩:=hw;obtain ⟨_,rfl,AL,cL,rfl,hRL⟩:=he;have HS5:=Am_ (HS4.out.next hm (HS4.out.task.next hm hi));have H9:=Am_ (H94.out.moves hm);have H10:=Am_ (H104.out.moves hm);have HR2:=Am_ hr2;clear hm hi hr2 c0 c1 c2)
   clear HS4 H94 H104 HLF HD HCS y0 y1
   have HRL:=Am_ hRL
   clear hRL
   obtain ⟨l,bo⟩:=L
   dsimp only at HRL ⊢
   cases bo with
   | false=>
    have HR3:av (jP me key value fresh fl mt g t=some res):=HR2
    clear HR2 H9 H10 HRL
    go_quiet (fail)
    go_wp2_with fail
    go_roundg g
    case rel=>exact ⟨_,_,HS5.out.below (au (Below.refl _ _) nq),HR3.out⟩
    case measure=>omega
   | true=>
    have hr:oz me key value fresh q mt (l,true) (jP me key value fresh fl mt g) t=some res:=HR2.out
    unfold oz at hr
    rw [if_pos rfl] at hr
    by_cases hl2:l.length=2
    rotate_left; · rw [if_neg hl2] at hr;cases hr
    rw [if_pos hl2] at hr
    have HRF:=Am_ (Kd.R_F HRL.out)
    have HFL:=Am_ (ng HRL.out)
    obtain ⟨gA,Ap3,cp3,Ak3,ck3,Ay3,cy3,Aw3,cw3,eA,hC0,hF0⟩:=NQ HRF.out HFL.out 0 (by omega)
    obtain ⟨gB,Ap4,cp4,Ak4,ck4,Ay4,cy4,Aw4,cw4,eB,hC1,hF1⟩:=NQ HRF.out HFL.out 1 (by omega)
    obtain rfl:gB=gA:=by rw [eA] at eB;injection eB with eB;injection eB with eB;exact eB.symm
    subst eA
    have hC0:Be wq2 gB 0 (l.getD 0 sn0) Ap3 cp3 Ak3 ck3 Ay3 cy3 Aw3 cw3:=hC0
    have hC1:Be wq2 gB 8 (l.getD 1 sn0) Ap4 cp4 Ak4 ck4 Ay4 cy4 Aw4 cw4:=hC1
    generalize hn0:l.getD 0 sn0=n0 at hC0 hF0 hr
    generalize hgo:qj n0 q.1.way q.2.ref=gb at hr
    have HR3:=Am_ hr
    have HF0:=Am_ hF0
    have HF1:=Am_ hF1
    have HC1:=Am_ hC1
    have HGB:=Am_ hgo
    have HL2:=Am_ hl2
    have HC:=Am_ (And.intro hC0 (And.intro ((af H9.out.1 6).trans (rfl:_=some (Value.int .i64 q.fst.way))) ((af H10.out.1 0).trans (rfl:_=some (Value.int .i64 q.snd.ref)))))
    rw [hl2]
    clear hr hn0 hgo hl2 hC0 hC1 hF0 hF1 eB HR2
    refine bK (n:=13) (S:=fun w'=>w'.cell? ⟨gB,0,none⟩=some (.int .i64 n0.ref)∧w'.cell? ⟨gB,1,none⟩=some (.int .i64 n0.info)∧w'.cell? ⟨gB,2,none⟩=some (.bool n0.node.inner)∧w'.cell? ⟨gB,3,none⟩=some (.bool n0.node.tagged)∧w'.cell? ⟨gB,4,none⟩=some (.slice Ap3 n0.node.pairs.length cp3)∧w'.cell? ⟨gB,5,none⟩=some (.slice Ak3 n0.node.keys.length ck3)∧w'.cell? ⟨gB,6,none⟩=some (.slice Ay3 n0.node.ways.length cy3)∧w'.cell? ⟨gB,7,none⟩=some (.slice Aw3 n0.ways.length cw3)∧w'.cell? ⟨b9,6,none⟩=some (.int .i64 q.fst.way)∧w'.cell? ⟨b10,0,none⟩=some (.int .i64 q.snd.ref)) (ds:= []) (by kernel_rfl) rfl IK FC ⟨HC.out.1.c0,HC.out.1.c1,HC.out.1.c2,HC.out.1.c3,HC.out.1.c4,HC.out.1.c5,HC.out.1.c6,HC.out.1.c7,HC.out.2.1,HC.out.2.2⟩ (fun hHeld HT_ HW_=>?_)
    have HS5:=Am_ HS5.out.drew
    have HDR:=Am_ (cZ (Below.refl wq2.heap.size wq2))
    have HF0:=Am_ (HF0.out.moves (Moves.drew (Moves.refl okq2 wq2)))
    clear HC
    generalize hwd:World.drew _=w6 at HS5 HDR HF0 hHeld ⊢
    clear hwd
    refine gy [(0,some 37),(1,some 38),(2,some 39),(3,some 40),(4,some 41),(5,some 42),(6,some 43),(7,some 44),(8,some 45),(9,some 46)] ?_
    iterate 5 (refine gG (v:=?_) (a':=?_) HT_ (by kernel_rfl) rfl rfl (fun _ _ _ h=>h) (Or.inl ⟨by rfl,?_⟩) ?_ ?_;rotate_left;(intro w';go_simp;with_reducible rfl);rotate_left;(simp only [Act.put,p1_,p2_,p3_,aG,aH];rfl))
    iterate 5 (refine jW (v:=?_) (a':=?_) HT_ HW_ (by kernel_rfl) rfl rfl (fun _ _ _ h=>h) hHeld (Or.inl ⟨by rfl,?_⟩) ?_ ?_;rotate_left;(rintro w' ⟨s0,s1,s2,s3,s4,s5,s6,s7,s8,s9⟩;go_simp;with_reducible rfl);rotate_left;(simp only [Act.put,p1_,p2_,p3_,aG,aH];rfl))
    refine bG ?_
    refine dI (i:=10) (some 47) HT_ (by kernel_rfl) rfl rfl (by decide) (fun K_ hK=>?_)
    refine call_ 118 #[.agg #[.int .i64 n0.ref,.int .i64 n0.info,.bool n0.node.inner,.bool n0.node.tagged,.slice Ap3 n0.node.pairs.length cp3,.slice Ak3 n0.node.keys.length ck3,.slice Ay3 n0.node.ways.length cy3,.slice Aw3 n0.ways.length cw3],.int .i64 q.fst.way,.int .i64 q.snd.ref] (by rfl) rfl ?hrun10 ?_
    (case hrun10=>first | (go_simp;done) | (go_simp;exact enters Tryz.func118 (by kernel_rfl) rfl _ _))
    refine (DW n0 q.fst.way q.snd.ref _ HF0.out).mono ?_
    rintro e w7 ⟨rfl,hb⟩
    rw [HGB.out]
    have HS6:=Am_ (HS5.out.below hb)
    have HB7:=Am_ (aU HDR.out HDR.out.size hb)
    refine ⟨_,rfl,?_⟩
    refine hK.out _ _ ⟨aD hb hHeld.1,aD hb hHeld.2.1,aD hb hHeld.2.2.1,aD hb hHeld.2.2.2.1,aD hb hHeld.2.2.2.2.1,aD hb hHeld.2.2.2.2.2.1,aD hb hHeld.2.2.2.2.2.2.1,aD hb hHeld.2.2.2.2.2.2.2.1,aD hb hHeld.2.2.2.2.2.2.2.2.1,aD hb hHeld.2.2.2.2.2.2.2.2.2⟩ (fun hHeld=>?_)
    clear hK K_
    refine cK (a':=?_) ?_ ?_
    rotate_left; · show Act.put _ (some 47) _=_;simp only [Act.put,p1_,p2_,p3_,aG,aH];rfl
    refine gy [(11,some 48),(12,some 49)] ?_
    iterate 2 (refine gG (v:=?_) (a':=?_) HT_ (by kernel_rfl) rfl rfl (fun _ _ _ h=>h) (Or.inl ⟨by rfl,?_⟩) ?_ ?_;rotate_left;(intro w';go_simp;with_reducible rfl);rotate_left;(simp only [Act.put,p1_,p2_,p3_,aG,aH];rfl))
    refine bG ?_
    clear hb HS5 HDR hHeld
    refine dR (bM HT_.out (by kernel_rfl)) ?_
    have HF1:=Am_ (HF1.out.moves (Moves.bV okq2 HB7.out))
    have H9:=Am_ (H9.out.moves (Moves.bV okq2 HB7.out))
    have H10:=Am_ (H10.out.moves (Moves.bV okq2 HB7.out))
    have HRL:=Am_ (iy (D:=fun _=>True) (Kd.bC HRL.out (fun k hk=>⟨hk,trivial⟩)) (Moves.bV okq2 HB7.out))
    have y4:=aD HB7.out HC1.out.c4
    clear HRF HF0 HB7 HC1 HGB
    cases gb with
    | false=>
     have HR4:av (jP me key value fresh fl mt g t=some res):=HR3
     clear HR3 H9 H10 HRL HF1 y4
     go_wp2_with fail
     go_roundg g
     case rel=>exact ⟨_,_,HS6.out,HR4.out⟩
     case measure=>omega
    | true=>
     have hr:pO me key value fresh l q mt (jP me key value fresh fl mt g) (l.getD 1 sn0).node.pairs t=some res:=HR3.out
     unfold pO at hr
     generalize hn1:l.getD 1 sn0=n1 at hr HF1 y4
     by_cases hcd:n1.node.pairs.length<999999
     rotate_left; · rw [if_neg hcd] at hr;cases hr
     rw [if_pos hcd] at hr
     have HLP:=Am_ (wP Ap4 cp4 n1.node.pairs key value w7 (Kd.fM HF1.out.prs) hcd)
     generalize hgt:iR n1.node.pairs key=gt at hr HLP
     generalize hpr:xg n1.node.pairs key value=pr at hr HLP
     obtain ⟨was,fd⟩:=gt
     dsimp only at HLP hr
     have HR4:=Am_ hr
     clear hr HR3 hcd HF1 hn1 hgt hpr
     go_upto_region 5 with (go_at_call 119;refine HLP.out.mono ?_;rintro e w8 ⟨u,rfl,hRu,hb⟩;obtain ⟨Au,cu,rfl⟩:=Kd.aW hRu;have HRU:=Am_ hRu;have HLT:=Am_ HS6.out.task.lt;have HS7:=Am_ (HS6.out.below hb);have H97:=Am_ (H9.out.moves (Moves.bV okq2 hb));have H107:=Am_ (H10.out.moves (Moves.bV okq2 hb));have HRL7:=Am_ (iy HRL.out (Moves.bV okq2 hb));clear hRu hb)
     clear HLP y4 HS6 H9 H10 HRL
     have HPF:av (eT.F w8 (fun k=> ¬ okq2 k) Au pr.length pr):=⟨Kd.bP (Kd.R_F HRU.out) (fun k hk h1=>by have:=HLT.out k h1;omega)⟩
     have HCU:av (pr.length≤cu):=⟨(Kd.bF HRU.out).2.1⟩
     have HPR:=Am_ trivial
     clear HRU HLT
     cases fd with
     | false=>
      have HR5:=Am_ (by have h:=HR4.out;rw [if_neg (by simp)] at h;exact h)
      clear HR4
      have hr:aQ (jK pr q.1.ref) (jq me l q.1.way q.2.ref (was,false) mt (jP me key value fresh fl mt g)) t=some res:=HR5.out
      obtain ⟨o,t,hd,hcase⟩:=aN hr
      have HD:=Am_ hd
      have HCS:=Am_ hcase
      clear hd hcase
      clear hr HR5
      go_upto_region 7 with fail
      have h:=HD.out
      unfold jK at h
      have HD2:=Am_ h
      clear h HD
      generalize hen:Ws.entry (TS.sh _)=en at HD2
      have hp5:=HS7.out.task.pb.2
      rw [hen] at hp5
      have HC:=Am_ (And.intro HS7.out.task.c0 (And.intro HS7.out.task.c1 (And.intro HS7.out.task.c2 (And.intro ((af H97.out.1 0).trans (rfl:_=some (Value.int .i64 q.fst.ref))) hp5))))
      clear hp5 hen
      refine bK (n:=16) (S:=fun w'=>w'.cell? ⟨bt,0,none⟩=some (.pointer (some ⟨tb,0,none⟩))∧w'.cell? ⟨bt,1,none⟩=some (.pointer (some ⟨p,0,none⟩))∧w'.cell? ⟨bt,2,none⟩=some (.int .i64 me)∧w'.cell? ⟨b9,0,none⟩=some (.int .i64 q.fst.ref)∧w'.cell? ⟨p,5,none⟩=some (.int .i64 en)) (ds:= [10]) (by kernel_rfl) rfl Bz xO HC.out (fun hHeld HT_ HW_=>?_)
      have HS7:=Am_ HS7.out.drew
      have HPF:=Am_ (ig HPF.out (Moves.drew (Moves.refl okq2 w8)))
      have HRL7:=Am_ (iy HRL7.out (Moves.drew (Moves.refl okq2 w8)))
      have H97:=Am_ (H97.out.moves (Moves.drew (Moves.refl okq2 w8)))
      have H107:=Am_ (H107.out.moves (Moves.drew (Moves.refl okq2 w8)))
      clear HC
      generalize hwd:World.drew _=w9 at HS7 HPF HRL7 H97 H107 hHeld ⊢
      clear hwd
      refine gy [(0,some 69),(1,some 70),(2,some 71),(3,some 72),(4,some 73),(5,some 74),(6,some 75),(7,some 76),(8,some 77),(9,some 78)] ?_
      iterate 10 (refine jW (v:=?_) (a':=?_) HT_ HW_ (by kernel_rfl) rfl rfl (fun _ _ _ h=>h) hHeld (Or.inl ⟨by rfl,?_⟩) ?_ ?_;rotate_left;(rintro w' ⟨s0,s1,s2,s3,s4⟩;go_simp;with_reducible rfl);rotate_left;(simp only [Act.put,p1_,p2_,p3_,aG,aH];rfl))
      refine bG ?_
      refine dz (i:=10) (some 79) HT_ (by kernel_rfl) rfl rfl (by decide) (fun K_ hK=>?_)
      refine su 120 #[.agg #[.pointer (some ⟨tb,0,none⟩),.pointer (some ⟨p,0,none⟩),.int .i64 me],.slice Au pr.length cu,.bool (q.fst.ref != en)] (by rfl) rfl ?hr10 ?_
      (case hr10=>first | (go_simp;done) | (go_simp;exact enters Tryz.func120 (by kernel_rfl) rfl _ _))
      refine (qU p tb work me _ _ _ pr Au cu (q.fst.ref != en) HS7.out.task.run HPF.out HCU.out (o,t) HD2.out).mono ?_
      rintro e wq3 ⟨okq3,hm,hi,he⟩
      rcases HCS.out with hw | hw
      ·obtain ⟨rfl,rfl⟩:=hw
       obtain rfl:e= .panicked dK:=he
       exact .inr ⟨dK,rfl,rfl,⟨⟨okq3,HS7.out.task.moves.trans hm,hi,rfl⟩⟩⟩
      obtain ⟨m,rfl,hr2⟩:=hw
      obtain ⟨_,rfl,Am,cm,rfl,hRM⟩:=he
      refine .inl ⟨_,rfl,?_⟩
      have HS8:=Am_ (HS7.out.next hm (HS7.out.task.next hm hi))
      have H98:=Am_ (H97.out.moves hm)
      have H108:=Am_ (H107.out.moves hm)
      have HRL8:=Am_ (iy HRL7.out hm)
      have HR2:=Am_ hr2
      have HRM:=Am_ (Kd.bC hRM (fun k hk=>(⟨hk,trivial⟩:_∧True)))
      clear hm hi hr2 hRM HS7 HPF HRL7 H97 H107
      refine hK.out _ _ ?_
      clear hK K_
      refine cK (a':=?_) ?_ ?_
      rotate_left; · show Act.put _ (some 79) _=_;simp only [Act.put,p1_,p2_,p3_,aG,aH];rfl
      refine gy [(11,some 68),(12,some 80),(13,some 81),(14,some 16),(15,some 17)] ?_
      iterate 5 (refine gG (v:=?_) (a':=?_) HT_ (by kernel_rfl) rfl rfl (fun _ _ _ h=>h) (Or.inl ⟨by rfl,?_⟩) ?_ ?_;rotate_left;(intro w';go_simp;with_reducible rfl);rotate_left;(simp only [Act.put,p1_,p2_,p3_,aG,aH];rfl))
      refine bG ?_
      refine dR (bM HT_.out (by kernel_rfl)) ?_
      clear HD2 HCS HPR HCU
      have hr:jq me l q.fst.way q.snd.ref (was,false) mt (jP me key value fresh fl mt g) m t=some res:=HR2.out
      unfold jq at hr
      by_cases hml:m.1.length<1000
      rotate_left; · rw [if_neg hml] at hr;cases hr
      rw [if_pos hml] at hr
      have HM1:=Am_ hml
      clear hml HR2
      by_cases hm0:m.2=0
      ·rw [if_pos hm0] at hr
       have e0:(m.2 == 0)=true:=by simpa using hm0
       obtain ⟨o,t,hd,hcase⟩:=aN hr
       have HD:=Am_ hd
       have HCS:=Am_ hcase
       clear hd hcase
       clear hr hm0
       have c0:=HS8.out.task.c0
       have c1:=HS8.out.task.c1
       have c2:=HS8.out.task.c2
       go_upto_region 10 with (go_at_call 121;refine (lm p tb work me _ _ _ m.1 Am cm HS8.out.task.run (Kd.bP (Kd.R_F HRM.out) (fun k hk=>hk.1)) (ng HRM.out) (by have:=HM1.out;omega) (o,t) HD.out).mono ?_;rintro e wq9 ⟨okq9,hm,hi,he⟩;rcases HCS.out with hw | hw;(obtain ⟨rfl,rfl⟩:=hw;obtain rfl:e= .panicked dK:=he;exact ⟨rfl,⟨⟨okq9,HS8.out.task.moves.trans hm,hi,rfl⟩⟩⟩);obtain ⟨_,rfl,hr2⟩:=hw;obtain ⟨_,rfl,rfl⟩:=he;have HSD:=Am_ (HS8.out.next hm (HS8.out.task.next hm hi));have HR2:=Am_ hr2;clear hm hi hr2 c0 c1 c2 e0)
       clear HRM HD HCS HS8 H98 H108 HRL8
       have x0:=(af HSD.out.res.1 0).trans (rfl:_=some (Value.bool false))
       have z0:=ah HSD.out.res.1 0
       have x1:=(af HSD.out.res.1 1).trans (rfl:_=some (Value.bool false))
       have z1:=ah HSD.out.res.1 1
       have x2:=(af HSD.out.res.1 2).trans (rfl:_=some (Value.bool false))
       have z2:=ah HSD.out.res.1 2
       have x3:=(af HSD.out.res.1 3).trans (rfl:_=some (Value.int .i64 0))
       have z3:=ah HSD.out.res.1 3
       go_wp2_with fail
       (try simp only [Exit.inBlock,Exit.then])
       show bodyPost _ _ _ _ _ (sets _ b8 [(0,.bool true),(1,.bool false),(2,.bool false),(3,.int .i64 0)])
       refine bodyPost_ret (results_cell_row rfl _ _ b8 117 _ (0,0) _ rfl (HSD.out.res.sets [(0,.bool true),(1,.bool false),(2,.bool false),(3,.int .i64 0)]).1 Tryz.underlying117 rfl (by kernel_rfl)) rfl ?_
       obtain rfl:res=(.ret ⟨true,false,false,0⟩,t):=by have h:=HR2.out;injection h with h;exact h.symm
       exact ⟨⟨_,dN (b:=b8) (.inr HB8.out.1) _ HSD.out.task.moves,HSD.out.task.run.step (bg p) (by rw [eD];exact Nat.le_refl _) (fun k hk _=>dh (b:=b8) (fun e=>HSD.out.res.2 (e▸hk)) _ _),_,rfl,rfl⟩⟩
      rw [if_neg hm0] at hr
      have e0:(m.2 == 0)=false:=by simpa using hm0
      obtain ⟨o,t,hd,hcase⟩:=aN hr
      have HD:=Am_ hd
      have HCS:=Am_ hcase
      clear hd hcase
      clear hr hm0
      have c0:=HS8.out.task.c0
      have c1:=HS8.out.task.c1
      have c2:=HS8.out.task.c2
      have y0:=(af H98.out.1 6).trans (rfl:_=some (Value.int .i64 q.fst.way))
      have y1:=(af H108.out.1 0).trans (rfl:_=some (Value.int .i64 q.snd.ref))
      go_upto_region 12 with (go_at_call 122;have hst:=sK p tb work me _ _ _ l (some ⟨gB,0,none⟩) cL 1 q.fst.way q.snd.ref m.2 HS8.out.task.run (Kd.bP (Kd.R_F HRL8.out) (fun k hk=>hk.1)) HFL.out (by decide) (by have:=HL2.out;omega) (o,t) HD.out;rw [HL2.out] at hst;refine hst.mono ?_;clear hst;rintro e wq4 ⟨okq4,hm,hi,he⟩;rcases HCS.out with hw | hw;(obtain ⟨rfl,rfl⟩:=hw;obtain rfl:e= .panicked dK:=he;exact ⟨rfl,⟨⟨okq4,HS8.out.task.moves.trans hm,hi,rfl⟩⟩⟩);obtain ⟨d,rfl,hr2⟩:=hw;obtain ⟨_,rfl,rfl⟩:=he;have HS9:=Am_ (HS8.out.next hm (HS8.out.task.next hm hi));have H109:=Am_ (H108.out.moves hm);have HRM:=Am_ (iy HRM.out hm);have HR2:=Am_ hr2;clear hm hi hr2 c0 c1 c2)
      clear y0 y1 HRL8 H98 HD HCS e0 HS8 H108
      have hr:lU me q.snd.ref m.1 (was,false) mt (jP me key value fresh fl mt g) d t=some res:=HR2.out
      unfold lU at hr
      cases hd1:d.1 with
      | false=>
       rw [if_neg (by rw [hd1];simp)] at hr
       obtain ⟨o,t,hd,hcase⟩:=aN hr
       have HD:=Am_ hd
       have HCS:=Am_ hcase
       clear hd hcase
       clear hr HR2 hd1
       have c0:=HS9.out.task.c0
       have c1:=HS9.out.task.c1
       have c2:=HS9.out.task.c2
       go_upto_region 14 with (go_at_call 121;refine (lm p tb work me _ _ _ m.1 Am cm HS9.out.task.run (Kd.bP (Kd.R_F HRM.out) (fun k hk=>hk.1)) (ng HRM.out) (by have:=HM1.out;omega) (o,t) HD.out).mono ?_;rintro e wq10 ⟨okq10,hm,hi,he⟩;rcases HCS.out with hw | hw;(obtain ⟨rfl,rfl⟩:=hw;obtain rfl:e= .panicked dK:=he;exact ⟨rfl,⟨⟨okq10,HS9.out.task.moves.trans hm,hi,rfl⟩⟩⟩);obtain ⟨_,rfl,hr2⟩:=hw;obtain ⟨_,rfl,rfl⟩:=he;have HSD:=Am_ (HS9.out.next hm (HS9.out.task.next hm hi));have HR2:=Am_ hr2;clear hm hi hr2 c0 c1 c2)
       clear HRM HD HCS HS9 H109
       cases hd2:d.2 with
       | false=>
        have HR3:av (jP me key value fresh fl mt g t=some res):=⟨by have h:=HR2.out;rw [hd2,if_neg (by simp)] at h;exact h⟩
        clear HR2
        go_wp2_with fail
        go_roundg g
        case rel=>exact ⟨_,_,HSD.out,HR3.out⟩
        case measure=>omega
       | true=>
        have HR3:av (dw ⟨true,false,false,0⟩ t=some res):=⟨by have h:=HR2.out;rw [hd2,if_pos rfl] at h;exact h⟩
        clear HR2
        have x0:=(af HSD.out.res.1 0).trans (rfl:_=some (Value.bool false))
        have z0:=ah HSD.out.res.1 0
        have x1:=(af HSD.out.res.1 1).trans (rfl:_=some (Value.bool false))
        have z1:=ah HSD.out.res.1 1
        have x2:=(af HSD.out.res.1 2).trans (rfl:_=some (Value.bool false))
        have z2:=ah HSD.out.res.1 2
        have x3:=(af HSD.out.res.1 3).trans (rfl:_=some (Value.int .i64 0))
        have z3:=ah HSD.out.res.1 3
        go_wp2_with fail
        (try simp only [Exit.inBlock,Exit.then])
        show bodyPost _ _ _ _ _ (sets _ b8 [(0,.bool true),(1,.bool false),(2,.bool false),(3,.int .i64 0)])
        refine bodyPost_ret (results_cell_row rfl _ _ b8 117 _ (0,0) _ rfl (HSD.out.res.sets [(0,.bool true),(1,.bool false),(2,.bool false),(3,.int .i64 0)]).1 Tryz.underlying117 rfl (by kernel_rfl)) rfl ?_
        obtain rfl:res=(.ret ⟨true,false,false,0⟩,t):=by have h:=HR3.out;injection h with h;exact h.symm
        exact ⟨⟨_,dN (b:=b8) (.inr HB8.out.1) _ HSD.out.task.moves,HSD.out.task.run.step (bg p) (by rw [eD];exact Nat.le_refl _) (fun k hk _=>dh (b:=b8) (fun e=>HSD.out.res.2 (e▸hk)) _ _),_,rfl,rfl⟩⟩
      | true=>
       rw [if_pos hd1] at hr
       obtain ⟨o,t,hd,hcase⟩:=aN hr
       have HD:=Am_ hd
       have HCS:=Am_ hcase
       clear hd hcase
       clear hr hd1 HR2
       have y1:=(af H109.out.1 0).trans (rfl:_=some (Value.int .i64 q.snd.ref))
       have c0:=HS9.out.task.c0
       have c1:=HS9.out.task.c1
       have c2:=HS9.out.task.c2
       have HLF2:av ((Kd.int .i64).F (wq4.alloc (.cells #[.int .i64 q.snd.ref] 45)) (fun k=> ¬ okq4 k) (some ⟨wq4.heap.size,0,none⟩) 1 [q.snd.ref]):=⟨Kd.bP (Kd.R_F (uF (k:= .i64) 45 wq4 0 [q.snd.ref] (Nat.zero_le _) (by simp))) (fun k e h=>by have:=HS9.out.task.lt k h;omega)⟩
       have HS10:=Am_ (HS9.out.alloc (.cells #[.int .i64 q.snd.ref] 45))
       clear HS9 HRM
       go_upto_region 17 with (go_at_call 123;refine (qV p tb work me _ _ _ [q.snd.ref] (some ⟨wq4.heap.size,0,none⟩) 1 HS10.out.task.run HLF2.out (fun ad e=>by injection e with e;exact ⟨_,e.symm⟩) (by simp) (o,t) HD.out).mono ?_;rintro e wq5 ⟨okq5,hm,hi,he⟩;rcases HCS.out with hw | hw;(obtain ⟨rfl,rfl⟩:=hw;obtain rfl:e= .panicked dK:=he;exact ⟨rfl,⟨⟨okq5,HS10.out.task.moves.trans hm,hi,rfl⟩⟩⟩);obtain ⟨_,rfl,hr2⟩:=hw;obtain ⟨_,rfl,rfl⟩:=he;have HS11:=Am_ (HS10.out.next hm (HS10.out.task.next hm hi));have HR2:=Am_ hr2;clear hm hi hr2 c0 c1 c2)
       clear y1 HLF2 HD HCS HS10 H109
       have HS12:=Am_ (HS11.out.alloc (.cells #[.bool false,.bool false,.bool false,.int .i64 was] 117))
       have HO:=Am_ (Mine.new HS11.out.task.lt (.cells #[.bool false,.bool false,.bool false,.int .i64 was] 117))
       have HOW:av (w.heap.size≤wq5.heap.size∧wq5.heap.size≠bt∧wq5.heap.size≠b8):=⟨⟨HS11.out.task.moves.size,fun e=>by have:=HS11.out.task.box.lt;omega,fun e=>by have:=HS11.out.res.lt;omega⟩⟩
       clear HS11
       have hr:jJ m.1.length ⟨false,false,false,was⟩ mt t=some res:=HR2.out
       unfold jJ at hr
       by_cases hl1:1<m.1.length
       ·rw [if_pos hl1] at hr
        have e1:decide ((1:Int)<(m.1.length:Int))=true:=decide_eq_true (by omega)
        obtain ⟨o,t,hd,hcase⟩:=aN hr
        have HD:=Am_ hd
        have HCS:=Am_ hcase
        clear hd hcase
        clear hr hl1 HR2
        have c0:=HS12.out.task.c0
        have c1:=HS12.out.task.c1
        have c2:=HS12.out.task.c2
        go_upto_region 18 with fail
        generalize wq5.alloc (.cells #[.bool false,.bool false,.bool false,.int .i64 was] 117)=w12 at HS12 HO c0 c1 c2 ⊢
        generalize wq5.heap.size=b20 at HO HOW ⊢
        have o0:=(af HO.out.1 0).trans (rfl:_=some (Value.bool false))
        have o1:=(af HO.out.1 1).trans (rfl:_=some (Value.bool false))
        have o2:=(af HO.out.1 2).trans (rfl:_=some (Value.bool false))
        have o3:=(af HO.out.1 3).trans (rfl:_=some (Value.int .i64 was))
        have zo:=ah HO.out.1 1
        go_upto_region 20 with (go_at_call 124;refine (hmend.out _ _ _ HS12.out.task.run (o,t) HD.out).mono ?_;rintro e wq6 ⟨okq6,hm,hi,he⟩;rcases HCS.out with hw | hw;(obtain ⟨rfl,rfl⟩:=hw;obtain rfl:e= .panicked dK:=he;exact ⟨rfl,⟨⟨okq6,HS12.out.task.moves.trans hm,hi,rfl⟩⟩⟩);obtain ⟨bm,rfl,hr2⟩:=hw;obtain ⟨_,rfl,rfl⟩:=he;have HS13:=Am_ (HS12.out.next hm (HS12.out.task.next hm hi));have HO:=Am_ (HO.out.moves hm);have HR2:=Am_ hr2;clear hm hi hr2 c0 c1 c2 o0 o1 o2 o3 zo;have o1:=(af HO.out.1 1).trans (rfl:_=some (Value.bool false));have zo:=ah HO.out.1 1)
        clear HD HCS HS12
        have HS14:=Am_ (zb.mk (HS13.out.task.set (q:=⟨b20,1,none⟩) HO.out.2 HOW.out.1 HOW.out.2.1 (.bool bm)) (HS13.out.res.far (p:=⟨b20,1,none⟩) HOW.out.2.2 (.bool bm)))
        have HO2:=Am_ (HO.out.set 1 (.bool bm))
        clear HS13 HO o1 zo e1
        generalize wq6.setCell ⟨b20,1,none⟩ (.bool bm)=w14 at HS14 HO2 ⊢
        have o0:=(af HO2.out.1 0).trans (rfl:_=some (Value.bool false))
        have o1:=(af HO2.out.1 1).trans (rfl:_=some (Value.bool bm))
        have o2:=(af HO2.out.1 2).trans (rfl:_=some (Value.bool false))
        have o3:=(af HO2.out.1 3).trans (rfl:_=some (Value.int .i64 was))
        have x0:=(af HS14.out.res.1 0).trans (rfl:_=some (Value.bool false))
        have z0:=ah HS14.out.res.1 0
        have x1:=(af HS14.out.res.1 1).trans (rfl:_=some (Value.bool false))
        have z1:=ah HS14.out.res.1 1
        have x2:=(af HS14.out.res.1 2).trans (rfl:_=some (Value.bool false))
        have z2:=ah HS14.out.res.1 2
        have x3:=(af HS14.out.res.1 3).trans (rfl:_=some (Value.int .i64 0))
        have z3:=ah HS14.out.res.1 3
        go_wp2_with fail
        (try simp only [Exit.inBlock,Exit.then])
        show bodyPost _ _ _ _ _ (sets _ b8 [(0,.bool false),(1,.bool bm),(2,.bool false),(3,.int .i64 was)])
        refine bodyPost_ret (results_cell_row rfl _ _ b8 117 _ (0,0) _ rfl (HS14.out.res.sets [(0,.bool false),(1,.bool bm),(2,.bool false),(3,.int .i64 was)]).1 Tryz.underlying117 rfl (by kernel_rfl)) rfl ?_
        obtain rfl:res=(.ret ⟨false,bm,false,was⟩,t):=by have h:=HR2.out;injection h with h;exact h.symm
        exact ⟨⟨_,dN (b:=b8) (.inr HB8.out.1) _ HS14.out.task.moves,HS14.out.task.run.step (bg p) (by rw [eD];exact Nat.le_refl _) (fun k hk _=>dh (b:=b8) (fun e=>HS14.out.res.2 (e▸hk)) _ _),_,rfl,rfl⟩⟩
       ·rw [if_neg hl1] at hr
        have e1:decide ((1:Int)<(m.1.length:Int))=false:=decide_eq_false (by omega)
        have HR3:=Am_ hr
        clear hr hl1 HR2
        go_upto_region 18 with fail
        generalize wq5.alloc (.cells #[.bool false,.bool false,.bool false,.int .i64 was] 117)=w12 at HS12 HO ⊢
        generalize wq5.heap.size=b20 at HO HOW ⊢
        have o0:=(af HO.out.1 0).trans (rfl:_=some (Value.bool false))
        have o1:=(af HO.out.1 1).trans (rfl:_=some (Value.bool false))
        have o2:=(af HO.out.1 2).trans (rfl:_=some (Value.bool false))
        have o3:=(af HO.out.1 3).trans (rfl:_=some (Value.int .i64 was))
        have x0:=(af HS12.out.res.1 0).trans (rfl:_=some (Value.bool false))
        have z0:=ah HS12.out.res.1 0
        have x1:=(af HS12.out.res.1 1).trans (rfl:_=some (Value.bool false))
        have z1:=ah HS12.out.res.1 1
        have x2:=(af HS12.out.res.1 2).trans (rfl:_=some (Value.bool false))
        have z2:=ah HS12.out.res.1 2
        have x3:=(af HS12.out.res.1 3).trans (rfl:_=some (Value.int .i64 0))
        have z3:=ah HS12.out.res.1 3
        go_wp2_with fail
        (try simp only [Exit.inBlock,Exit.then])
        show bodyPost _ _ _ _ _ (sets _ b8 [(0,.bool false),(1,.bool false),(2,.bool false),(3,.int .i64 was)])
        refine bodyPost_ret (results_cell_row rfl _ _ b8 117 _ (0,0) _ rfl (HS12.out.res.sets [(0,.bool false),(1,.bool false),(2,.bool false),(3,.int .i64 was)]).1 Tryz.underlying117 rfl (by kernel_rfl)) rfl ?_
        obtain rfl:res=(.ret ⟨false,false,false,was⟩,t):=by have h:=HR3.out;injection h with h;exact h.symm
        exact ⟨⟨_,dN (b:=b8) (.inr HB8.out.1) _ HS12.out.task.moves,HS12.out.task.run.step (bg p) (by rw [eD];exact Nat.le_refl _) (fun k hk _=>dh (b:=b8) (fun e=>HS12.out.res.2 (e▸hk)) _ _),_,rfl,rfl⟩⟩
     | true=>
      cases fresh with
      | true=>
       have HR5:=Am_ (by have h:=HR4.out;simp only [Bool.and_self,if_true] at h;exact h)
       clear HR4 HPF HCU HPR HRL7 H97 H107
       have x0:=(af HS7.out.res.1 0).trans (rfl:_=some (Value.bool false))
       have z0:=ah HS7.out.res.1 0
       have x1:=(af HS7.out.res.1 1).trans (rfl:_=some (Value.bool false))
       have z1:=ah HS7.out.res.1 1
       have x2:=(af HS7.out.res.1 2).trans (rfl:_=some (Value.bool false))
       have z2:=ah HS7.out.res.1 2
       have x3:=(af HS7.out.res.1 3).trans (rfl:_=some (Value.int .i64 0))
       have z3:=ah HS7.out.res.1 3
       go_wp2_with fail
       (try simp only [Exit.inBlock,Exit.then])
       show bodyPost _ _ _ _ _ (sets _ b8 [(0,.bool false),(1,.bool false),(2,.bool true),(3,.int .i64 was)])
       refine bodyPost_ret (results_cell_row rfl _ _ b8 117 _ (0,0) _ rfl (HS7.out.res.sets [(0,.bool false),(1,.bool false),(2,.bool true),(3,.int .i64 was)]).1 Tryz.underlying117 rfl (by kernel_rfl)) rfl ?_
       obtain rfl:res=(.ret ⟨false,false,true,was⟩,t):=by have h:=HR5.out;injection h with h;exact h.symm
       exact ⟨⟨_,dN (b:=b8) (.inr HB8.out.1) _ HS7.out.task.moves,HS7.out.task.run.step (bg p) (by rw [eD];exact Nat.le_refl _) (fun k hk _=>dh (b:=b8) (fun e=>HS7.out.res.2 (e▸hk)) _ _),_,rfl,rfl⟩⟩
      | false=>
       have HR5:=Am_ (by have h:=HR4.out;rw [if_neg (by simp)] at h;exact h)
       clear HR4
       have hr:aQ (jK pr q.1.ref) (jq me l q.1.way q.2.ref (was,true) mt (jP me key value false fl mt g)) t=some res:=HR5.out
       obtain ⟨o,t,hd,hcase⟩:=aN hr
       have HD:=Am_ hd
       have HCS:=Am_ hcase
       clear hd hcase
       clear hr HR5
       go_upto_region 7 with fail
       have h:=HD.out
       unfold jK at h
       have HD2:=Am_ h
       clear h HD
       generalize hen:Ws.entry (TS.sh _)=en at HD2
       have hp5:=HS7.out.task.pb.2
       rw [hen] at hp5
       have HC:=Am_ (And.intro HS7.out.task.c0 (And.intro HS7.out.task.c1 (And.intro HS7.out.task.c2 (And.intro ((af H97.out.1 0).trans (rfl:_=some (Value.int .i64 q.fst.ref))) hp5))))
       clear hp5 hen
       refine bK (n:=16) (S:=fun w'=>w'.cell? ⟨bt,0,none⟩=some (.pointer (some ⟨tb,0,none⟩))∧w'.cell? ⟨bt,1,none⟩=some (.pointer (some ⟨p,0,none⟩))∧w'.cell? ⟨bt,2,none⟩=some (.int .i64 me)∧w'.cell? ⟨b9,0,none⟩=some (.int .i64 q.fst.ref)∧w'.cell? ⟨p,5,none⟩=some (.int .i64 en)) (ds:= [10]) (by kernel_rfl) rfl Bz xO HC.out (fun hHeld HT_ HW_=>?_)
       have HS7:=Am_ HS7.out.drew
       have HPF:=Am_ (ig HPF.out (Moves.drew (Moves.refl okq2 w8)))
       have HRL7:=Am_ (iy HRL7.out (Moves.drew (Moves.refl okq2 w8)))
       have H97:=Am_ (H97.out.moves (Moves.drew (Moves.refl okq2 w8)))
       have H107:=Am_ (H107.out.moves (Moves.drew (Moves.refl okq2 w8)))
       clear HC
       generalize hwd:World.drew _=w9 at HS7 HPF HRL7 H97 H107 hHeld ⊢
       clear hwd
       refine gy [(0,some 69),(1,some 70),(2,some 71),(3,some 72),(4,some 73),(5,some 74),(6,some 75),(7,some 76),(8,some 77),(9,some 78)] ?_
       iterate 10 (refine jW (v:=?_) (a':=?_) HT_ HW_ (by kernel_rfl) rfl rfl (fun _ _ _ h=>h) hHeld (Or.inl ⟨by rfl,?_⟩) ?_ ?_;rotate_left;(rintro w' ⟨s0,s1,s2,s3,s4⟩;go_simp;with_reducible rfl);rotate_left;(simp only [Act.put,p1_,p2_,p3_,aG,aH];rfl))
       refine bG ?_
       refine dz (i:=10) (some 79) HT_ (by kernel_rfl) rfl rfl (by decide) (fun K_ hK=>?_)
       refine su 120 #[.agg #[.pointer (some ⟨tb,0,none⟩),.pointer (some ⟨p,0,none⟩),.int .i64 me],.slice Au pr.length cu,.bool (q.fst.ref != en)] (by rfl) rfl ?hr10 ?_
       (case hr10=>first | (go_simp;done) | (go_simp;exact enters Tryz.func120 (by kernel_rfl) rfl _ _))
       refine (qU p tb work me _ _ _ pr Au cu (q.fst.ref != en) HS7.out.task.run HPF.out HCU.out (o,t) HD2.out).mono ?_
       rintro e wq3 ⟨okq3,hm,hi,he⟩
       rcases HCS.out with hw | hw
       ·obtain ⟨rfl,rfl⟩:=hw
        obtain rfl:e= .panicked dK:=he
        exact .inr ⟨dK,rfl,rfl,⟨⟨okq3,HS7.out.task.moves.trans hm,hi,rfl⟩⟩⟩
       obtain ⟨m,rfl,hr2⟩:=hw
       obtain ⟨_,rfl,Am,cm,rfl,hRM⟩:=he
       refine .inl ⟨_,rfl,?_⟩
       have HS8:=Am_ (HS7.out.next hm (HS7.out.task.next hm hi))
       have H98:=Am_ (H97.out.moves hm)
       have H108:=Am_ (H107.out.moves hm)
       have HRL8:=Am_ (iy HRL7.out hm)
       have HR2:=Am_ hr2
       have HRM:=Am_ (Kd.bC hRM (fun k hk=>(⟨hk,trivial⟩:_∧True)))
       clear hm hi hr2 hRM HS7 HPF HRL7 H97 H107
       refine hK.out _ _ ?_
       clear hK K_
       refine cK (a':=?_) ?_ ?_
       rotate_left; · show Act.put _ (some 79) _=_;simp only [Act.put,p1_,p2_,p3_,aG,aH];rfl
       refine gy [(11,some 68),(12,some 80),(13,some 81),(14,some 16),(15,some 17)] ?_
       iterate 5 (refine gG (v:=?_) (a':=?_) HT_ (by kernel_rfl) rfl rfl (fun _ _ _ h=>h) (Or.inl ⟨by rfl,?_⟩) ?_ ?_;rotate_left;(intro w';go_simp;with_reducible rfl);rotate_left;(simp only [Act.put,p1_,p2_,p3_,aG,aH];rfl))
       refine bG ?_
       refine dR (bM HT_.out (by kernel_rfl)) ?_
       clear HD2 HCS HPR HCU
       have hr:jq me l q.fst.way q.snd.ref (was,true) mt (jP me key value false fl mt g) m t=some res:=HR2.out
       unfold jq at hr
       by_cases hml:m.1.length<1000
       rotate_left; · rw [if_neg hml] at hr;cases hr
       rw [if_pos hml] at hr
       have HM1:=Am_ hml
       clear hml HR2
       by_cases hm0:m.2=0
       ·rw [if_pos hm0] at hr
        have e0:(m.2 == 0)=true:=by simpa using hm0
        obtain ⟨o,t,hd,hcase⟩:=aN hr
        have HD:=Am_ hd
        have HCS:=Am_ hcase
        clear hd hcase
        clear hr hm0
        have c0:=HS8.out.task.c0
        have c1:=HS8.out.task.c1
        have c2:=HS8.out.task.c2
        go_upto_region 10 with (go_at_call 121;refine (lm p tb work me _ _ _ m.1 Am cm HS8.out.task.run (Kd.bP (Kd.R_F HRM.out) (fun k hk=>hk.1)) (ng HRM.out) (by have:=HM1.out;omega) (o,t) HD.out).mono ?_;rintro e wq9 ⟨okq9,hm,hi,he⟩;rcases HCS.out with hw | hw;(obtain ⟨rfl,rfl⟩:=hw;obtain rfl:e= .panicked dK:=he;exact ⟨rfl,⟨⟨okq9,HS8.out.task.moves.trans hm,hi,rfl⟩⟩⟩);obtain ⟨_,rfl,hr2⟩:=hw;obtain ⟨_,rfl,rfl⟩:=he;have HSD:=Am_ (HS8.out.next hm (HS8.out.task.next hm hi));have HR2:=Am_ hr2;clear hm hi hr2 c0 c1 c2 e0)
        clear HRM HD HCS HS8 H98 H108 HRL8
        have x0:=(af HSD.out.res.1 0).trans (rfl:_=some (Value.bool false))
        have z0:=ah HSD.out.res.1 0
        have x1:=(af HSD.out.res.1 1).trans (rfl:_=some (Value.bool false))
        have z1:=ah HSD.out.res.1 1
        have x2:=(af HSD.out.res.1 2).trans (rfl:_=some (Value.bool false))
        have z2:=ah HSD.out.res.1 2
        have x3:=(af HSD.out.res.1 3).trans (rfl:_=some (Value.int .i64 0))
        have z3:=ah HSD.out.res.1 3
        go_wp2_with fail
        (try simp only [Exit.inBlock,Exit.then])
        show bodyPost _ _ _ _ _ (sets _ b8 [(0,.bool true),(1,.bool false),(2,.bool false),(3,.int .i64 0)])
        refine bodyPost_ret (results_cell_row rfl _ _ b8 117 _ (0,0) _ rfl (HSD.out.res.sets [(0,.bool true),(1,.bool false),(2,.bool false),(3,.int .i64 0)]).1 Tryz.underlying117 rfl (by kernel_rfl)) rfl ?_
        obtain rfl:res=(.ret ⟨true,false,false,0⟩,t):=by have h:=HR2.out;injection h with h;exact h.symm
        exact ⟨⟨_,dN (b:=b8) (.inr HB8.out.1) _ HSD.out.task.moves,HSD.out.task.run.step (bg p) (by rw [eD];exact Nat.le_refl _) (fun k hk _=>dh (b:=b8) (fun e=>HSD.out.res.2 (e▸hk)) _ _),_,rfl,rfl⟩⟩
       rw [if_neg hm0] at hr
       have e0:(m.2 == 0)=false:=by simpa using hm0
       obtain ⟨o,t,hd,hcase⟩:=aN hr
       have HD:=Am_ hd
       have HCS:=Am_ hcase
       clear hd hcase
       clear hr hm0
       have c0:=HS8.out.task.c0
       have c1:=HS8.out.task.c1
       have c2:=HS8.out.task.c2
       have y0:=(af H98.out.1 6).trans (rfl:_=some (Value.int .i64 q.fst.way))
       have y1:=(af H108.out.1 0).trans (rfl:_=some (Value.int .i64 q.snd.ref))
       go_upto_region 12 with (go_at_call 122;have hst:=sK p tb work me _ _ _ l (some ⟨gB,0,none⟩) cL 1 q.fst.way q.snd.ref m.2 HS8.out.task.run (Kd.bP (Kd.R_F HRL8.out) (fun k hk=>hk.1)) HFL.out (by decide) (by have:=HL2.out;omega) (o,t) HD.out;rw [HL2.out] at hst;refine hst.mono ?_;clear hst;rintro e wq4 ⟨okq4,hm,hi,he⟩;rcases HCS.out with hw | hw;(obtain ⟨rfl,rfl⟩:=hw;obtain rfl:e= .panicked dK:=he;exact ⟨rfl,⟨⟨okq4,HS8.out.task.moves.trans hm,hi,rfl⟩⟩⟩);obtain ⟨d,rfl,hr2⟩:=hw;obtain ⟨_,rfl,rfl⟩:=he;have HS9:=Am_ (HS8.out.next hm (HS8.out.task.next hm hi));have H109:=Am_ (H108.out.moves hm);have HRM:=Am_ (iy HRM.out hm);have HR2:=Am_ hr2;clear hm hi hr2 c0 c1 c2)
       clear y0 y1 HRL8 H98 HD HCS e0 HS8 H108
       have hr:lU me q.snd.ref m.1 (was,true) mt (jP me key value false fl mt g) d t=some res:=HR2.out
       unfold lU at hr
       cases hd1:d.1 with
       | false=>
        rw [if_neg (by rw [hd1];simp)] at hr
        obtain ⟨o,t,hd,hcase⟩:=aN hr
        have HD:=Am_ hd
        have HCS:=Am_ hcase
        clear hd hcase
        clear hr HR2 hd1
        have c0:=HS9.out.task.c0
        have c1:=HS9.out.task.c1
        have c2:=HS9.out.task.c2
        go_upto_region 14 with (go_at_call 121;refine (lm p tb work me _ _ _ m.1 Am cm HS9.out.task.run (Kd.bP (Kd.R_F HRM.out) (fun k hk=>hk.1)) (ng HRM.out) (by have:=HM1.out;omega) (o,t) HD.out).mono ?_;rintro e wq10 ⟨okq10,hm,hi,he⟩;rcases HCS.out with hw | hw;(obtain ⟨rfl,rfl⟩:=hw;obtain rfl:e= .panicked dK:=he;exact ⟨rfl,⟨⟨okq10,HS9.out.task.moves.trans hm,hi,rfl⟩⟩⟩);obtain ⟨_,rfl,hr2⟩:=hw;obtain ⟨_,rfl,rfl⟩:=he;have HSD:=Am_ (HS9.out.next hm (HS9.out.task.next hm hi));have HR2:=Am_ hr2;clear hm hi hr2 c0 c1 c2)
        clear HRM HD HCS HS9 H109
        cases hd2:d.2 with
        | false=>
         have HR3:av (jP me key value false fl mt g t=some res):=⟨by have h:=HR2.out;rw [hd2,if_neg (by simp)] at h;exact h⟩
         clear HR2
         go_wp2_with fail
         go_roundg g
         case rel=>exact ⟨_,_,HSD.out,HR3.out⟩
         case measure=>omega
        | true=>
         have HR3:av (dw ⟨true,false,false,0⟩ t=some res):=⟨by have h:=HR2.out;rw [hd2,if_pos rfl] at h;exact h⟩
         clear HR2
         have x0:=(af HSD.out.res.1 0).trans (rfl:_=some (Value.bool false))
         have z0:=ah HSD.out.res.1 0
         have x1:=(af HSD.out.res.1 1).trans (rfl:_=some (Value.bool false))
         have z1:=ah HSD.out.res.1 1
         have x2:=(af HSD.out.res.1 2).trans (rfl:_=some (Value.bool false))
         have z2:=ah HSD.out.res.1 2
         have x3:=(af HSD.out.res.1 3).trans (rfl:_=some (Value.int .i64 0))
         have z3:=ah HSD.out.res.1 3
         go_wp2_with fail
         (try simp only [Exit.inBlock,Exit.then])
         show bodyPost _ _ _ _ _ (sets _ b8 [(0,.bool true),(1,.bool false),(2,.bool false),(3,.int .i64 0)])
         refine bodyPost_ret (results_cell_row rfl _ _ b8 117 _ (0,0) _ rfl (HSD.out.res.sets [(0,.bool true),(1,.bool false),(2,.bool false),(3,.int .i64 0)]).1 Tryz.underlying117 rfl (by kernel_rfl)) rfl ?_
         obtain rfl:res=(.ret ⟨true,false,false,0⟩,t):=by have h:=HR3.out;injection h with h;exact h.symm
         exact ⟨⟨_,dN (b:=b8) (.inr HB8.out.1) _ HSD.out.task.moves,HSD.out.task.run.step (bg p) (by rw [eD];exact Nat.le_refl _) (fun k hk _=>dh (b:=b8) (fun e=>HSD.out.res.2 (e▸hk)) _ _),_,rfl,rfl⟩⟩
       | true=>
        rw [if_pos hd1] at hr
        obtain ⟨o,t,hd,hcase⟩:=aN hr
        have HD:=Am_ hd
        have HCS:=Am_ hcase
        clear hd hcase
        clear hr hd1 HR2
        have y1:=(af H109.out.1 0).trans (rfl:_=some (Value.int .i64 q.snd.ref))
        have c0:=HS9.out.task.c0
        have c1:=HS9.out.task.c1
        have c2:=HS9.out.task.c2
        have HLF2:av ((Kd.int .i64).F (wq4.alloc (.cells #[.int .i64 q.snd.ref] 45)) (fun k=> ¬ okq4 k) (some ⟨wq4.heap.size,0,none⟩) 1 [q.snd.ref]):=⟨Kd.bP (Kd.R_F (uF (k:= .i64) 45 wq4 0 [q.snd.ref] (Nat.zero_le _) (by simp))) (fun k e h=>by have:=HS9.out.task.lt k h;omega)⟩
        have HS10:=Am_ (HS9.out.alloc (.cells #[.int .i64 q.snd.ref] 45))
        clear HS9 HRM
        go_upto_region 17 with (go_at_call 123;refine (qV p tb work me _ _ _ [q.snd.ref] (some ⟨wq4.heap.size,0,none⟩) 1 HS10.out.task.run HLF2.out (fun ad e=>by injection e with e;exact ⟨_,e.symm⟩) (by simp) (o,t) HD.out).mono ?_;rintro e wq5 ⟨okq5,hm,hi,he⟩;rcases HCS.out with hw | hw;(obtain ⟨rfl,rfl⟩:=hw;obtain rfl:e= .panicked dK:=he;exact ⟨rfl,⟨⟨okq5,HS10.out.task.moves.trans hm,hi,rfl⟩⟩⟩);obtain ⟨_,rfl,hr2⟩:=hw;obtain ⟨_,rfl,rfl⟩:=he;have HS11:=Am_ (HS10.out.next hm (HS10.out.task.next hm hi));have HR2:=Am_ hr2;clear hm hi hr2 c0 c1 c2)
        clear y1 HLF2 HD HCS HS10 H109
        have HS12:=Am_ (HS11.out.alloc (.cells #[.bool false,.bool false,.bool true,.int .i64 was] 117))
        have HO:=Am_ (Mine.new HS11.out.task.lt (.cells #[.bool false,.bool false,.bool true,.int .i64 was] 117))
        have HOW:av (w.heap.size≤wq5.heap.size∧wq5.heap.size≠bt∧wq5.heap.size≠b8):=⟨⟨HS11.out.task.moves.size,fun e=>by have:=HS11.out.task.box.lt;omega,fun e=>by have:=HS11.out.res.lt;omega⟩⟩
        clear HS11
        have hr:jJ m.1.length ⟨false,false,true,was⟩ mt t=some res:=HR2.out
        unfold jJ at hr
        by_cases hl1:1<m.1.length
        ·rw [if_pos hl1] at hr
         have e1:decide ((1:Int)<(m.1.length:Int))=true:=decide_eq_true (by omega)
         obtain ⟨o,t,hd,hcase⟩:=aN hr
         have HD:=Am_ hd
         have HCS:=Am_ hcase
         clear hd hcase
         clear hr hl1 HR2
         have c0:=HS12.out.task.c0
         have c1:=HS12.out.task.c1
         have c2:=HS12.out.task.c2
         go_upto_region 18 with fail
         generalize wq5.alloc (.cells #[.bool false,.bool false,.bool true,.int .i64 was] 117)=w12 at HS12 HO c0 c1 c2 ⊢
         generalize wq5.heap.size=b20 at HO HOW ⊢
         have o0:=(af HO.out.1 0).trans (rfl:_=some (Value.bool false))
         have o1:=(af HO.out.1 1).trans (rfl:_=some (Value.bool false))
         have o2:=(af HO.out.1 2).trans (rfl:_=some (Value.bool true))
         have o3:=(af HO.out.1 3).trans (rfl:_=some (Value.int .i64 was))
         have zo:=ah HO.out.1 1
         go_upto_region 20 with (go_at_call 124;refine (hmend.out _ _ _ HS12.out.task.run (o,t) HD.out).mono ?_;rintro e wq6 ⟨okq6,hm,hi,he⟩;rcases HCS.out with hw | hw;(obtain ⟨rfl,rfl⟩:=hw;obtain rfl:e= .panicked dK:=he;exact ⟨rfl,⟨⟨okq6,HS12.out.task.moves.trans hm,hi,rfl⟩⟩⟩);obtain ⟨bm,rfl,hr2⟩:=hw;obtain ⟨_,rfl,rfl⟩:=he;have HS13:=Am_ (HS12.out.next hm (HS12.out.task.next hm hi));have HO:=Am_ (HO.out.moves hm);have HR2:=Am_ hr2;clear hm hi hr2 c0 c1 c2 o0 o1 o2 o3 zo;have o1:=(af HO.out.1 1).trans (rfl:_=some (Value.bool false));have zo:=ah HO.out.1 1)
         clear HD HCS HS12
         have HS14:=Am_ (zb.mk (HS13.out.task.set (q:=⟨b20,1,none⟩) HO.out.2 HOW.out.1 HOW.out.2.1 (.bool bm)) (HS13.out.res.far (p:=⟨b20,1,none⟩) HOW.out.2.2 (.bool bm)))
         have HO2:=Am_ (HO.out.set 1 (.bool bm))
         clear HS13 HO o1 zo e1
         generalize wq6.setCell ⟨b20,1,none⟩ (.bool bm)=w14 at HS14 HO2 ⊢
         have o0:=(af HO2.out.1 0).trans (rfl:_=some (Value.bool false))
         have o1:=(af HO2.out.1 1).trans (rfl:_=some (Value.bool bm))
         have o2:=(af HO2.out.1 2).trans (rfl:_=some (Value.bool true))
         have o3:=(af HO2.out.1 3).trans (rfl:_=some (Value.int .i64 was))
         have x0:=(af HS14.out.res.1 0).trans (rfl:_=some (Value.bool false))
         have z0:=ah HS14.out.res.1 0
         have x1:=(af HS14.out.res.1 1).trans (rfl:_=some (Value.bool false))
         have z1:=ah HS14.out.res.1 1
         have x2:=(af HS14.out.res.1 2).trans (rfl:_=some (Value.bool false))
         have z2:=ah HS14.out.res.1 2
         have x3:=(af HS14.out.res.1 3).trans (rfl:_=some (Value.int .i64 0))
         have z3:=ah HS14.out.res.1 3
         go_wp2_with fail
         (try simp only [Exit.inBlock,Exit.then])
         show bodyPost _ _ _ _ _ (sets _ b8 [(0,.bool false),(1,.bool bm),(2,.bool true),(3,.int .i64 was)])
         refine bodyPost_ret (results_cell_row rfl _ _ b8 117 _ (0,0) _ rfl (HS14.out.res.sets [(0,.bool false),(1,.bool bm),(2,.bool true),(3,.int .i64 was)]).1 Tryz.underlying117 rfl (by kernel_rfl)) rfl ?_
         obtain rfl:res=(.ret ⟨false,bm,true,was⟩,t):=by have h:=HR2.out;injection h with h;exact h.symm
         exact ⟨⟨_,dN (b:=b8) (.inr HB8.out.1) _ HS14.out.task.moves,HS14.out.task.run.step (bg p) (by rw [eD];exact Nat.le_refl _) (fun k hk _=>dh (b:=b8) (fun e=>HS14.out.res.2 (e▸hk)) _ _),_,rfl,rfl⟩⟩
        ·rw [if_neg hl1] at hr
         have e1:decide ((1:Int)<(m.1.length:Int))=false:=decide_eq_false (by omega)
         have HR3:=Am_ hr
         clear hr hl1 HR2
         go_upto_region 18 with fail
         generalize wq5.alloc (.cells #[.bool false,.bool false,.bool true,.int .i64 was] 117)=w12 at HS12 HO ⊢
         generalize wq5.heap.size=b20 at HO HOW ⊢
         have o0:=(af HO.out.1 0).trans (rfl:_=some (Value.bool false))
         have o1:=(af HO.out.1 1).trans (rfl:_=some (Value.bool false))
         have o2:=(af HO.out.1 2).trans (rfl:_=some (Value.bool true))
         have o3:=(af HO.out.1 3).trans (rfl:_=some (Value.int .i64 was))
         have x0:=(af HS12.out.res.1 0).trans (rfl:_=some (Value.bool false))
         have z0:=ah HS12.out.res.1 0
         have x1:=(af HS12.out.res.1 1).trans (rfl:_=some (Value.bool false))
         have z1:=ah HS12.out.res.1 1
         have x2:=(af HS12.out.res.1 2).trans (rfl:_=some (Value.bool false))
         have z2:=ah HS12.out.res.1 2
         have x3:=(af HS12.out.res.1 3).trans (rfl:_=some (Value.int .i64 0))
         have z3:=ah HS12.out.res.1 3
         go_wp2_with fail
         (try simp only [Exit.inBlock,Exit.then])
         show bodyPost _ _ _ _ _ (sets _ b8 [(0,.bool false),(1,.bool false),(2,.bool true),(3,.int .i64 was)])
         refine bodyPost_ret (results_cell_row rfl _ _ b8 117 _ (0,0) _ rfl (HS12.out.res.sets [(0,.bool false),(1,.bool false),(2,.bool true),(3,.int .i64 was)]).1 Tryz.underlying117 rfl (by kernel_rfl)) rfl ?_
         obtain rfl:res=(.ret ⟨false,false,true,was⟩,t):=by have h:=HR3.out;injection h with h;exact h.symm
         exact ⟨⟨_,dN (b:=b8) (.inr HB8.out.1) _ HS12.out.task.moves,HS12.out.task.run.step (bg p) (by rw [eD];exact Nat.le_refl _) (fun k hk _=>dh (b:=b8) (fun e=>HS12.out.res.2 (e▸hk)) _ _),_,rfl,rfl⟩⟩
structure kT (gf:FuncId) (cap:Array Value) (p:Nat) (me:Int) (bf bw bm:Nat) (ok:Nat→Prop) (w:World):Prop where
 hf:Mine ok w bf (.cells #[.func (.func gf) #[] cap] 119 (0,0))
 hw:Mine ok w bw (.cells #[.pointer (some ⟨p,0,none⟩)] 31 (0,0))
 hm:Mine ok w bm (.cells #[.int .i64 me] 3 (0,0))
theorem kT.moves {gf:FuncId} {cap:Array Value} {p:Nat} {me:Int} {bf bw bm:Nat} {ok ok1:Nat→Prop} {w w1:World} (h:kT gf cap p me bf bw bm ok w) (m:Moves ok ok1 w w1):kT gf cap p me bf bw bm ok1 w1:=⟨h.hf.moves m,h.hw.moves m,h.hm.moves m⟩
def jL (bf bw bm:Nat):Value:= .func (.func 114) #[] #[.pointer (some ⟨bf,0,none⟩),.pointer (some ⟨bw,0,none⟩),.pointer (some ⟨bm,0,none⟩)]
structure Started (gf:FuncId) (cap:Array Value) (p:Nat) (me:Int) (w:World) (e:Ending) (w1:World):Prop where
 out: ∃ tb bf bw bm,e= .returned (.pointer (some ⟨tb,0,none⟩))∧w.heap.size≤tb∧w.heap.size≤bf∧w.heap.size≤bw∧w.heap.size≤bm∧tb≠bf∧tb≠bw∧tb≠bm∧dJ (fun k=>k=tb) tb (jL bf bw bm) th0 w1∧
  kT gf cap p me bf bw bm (fun _=>False) w1∧Below w.heap.size w w1
theorem AV (gf:FuncId) (cap:Array Value) (p:Nat) (me:Int) (w:World):
  Calls Tryz.prog 67 #[.pointer (some ⟨p,0,none⟩),.int .i64 me,.func (.func gf) #[] cap] w (Started gf cap p me w):=by
 have hmf: ∀ (fn:Fn) (first cap:Array Value) (w:World),(Instr.makeFunc fn first cap).run Tryz.prog w= .ok (.func fn first cap) w:=fun _ _ _ _=>rfl
 go_enter Tryz.func67,Tryz.ntmps67
 go_upto_region 1 with fail
 have b1:=Am_ (aK (aK (bU w (.cells #[.pointer (some ⟨p,0,none⟩)] 31)) (.cells #[.int .i64 me] 3)) (.cells #[.func (.func gf) #[] cap] 119))
 have b2:=Am_ (aK (bU (w.alloc (.cells #[.pointer (some ⟨p,0,none⟩)] 31)) (.cells #[.int .i64 me] 3)) (.cells #[.func (.func gf) #[] cap] 119))
 have b3:=Am_ (bU ((w.alloc (.cells #[.pointer (some ⟨p,0,none⟩)] 31)).alloc (.cells #[.int .i64 me] 3)) (.cells #[.func (.func gf) #[] cap] 119))
 have bb:=Am_ (ai (ai (ai (Below.refl w.heap.size w) (.cells #[.pointer (some ⟨p,0,none⟩)] 31)) (.cells #[.int .i64 me] 3)) (.cells #[.func (.func gf) #[] cap] 119))
 have e1:(w.alloc (.cells #[.pointer (some ⟨p,0,none⟩)] 31)).heap.size=w.heap.size+1:=by simp
 have e2:((w.alloc (.cells #[.pointer (some ⟨p,0,none⟩)] 31)).alloc (.cells #[.int .i64 me] 3)).heap.size=w.heap.size+1+1:=by simp
 rw [e1] at b2
 rw [e2] at b3
 clear e1 e2
 generalize ((w.alloc (.cells #[.pointer (some ⟨p,0,none⟩)] 31)).alloc (.cells #[.int .i64 me] 3)).alloc (.cells #[.func (.func gf) #[] cap] 119)=w1 at b1 b2 b3 bb ⊢
 go_wp2_with (go_at_call 97;refine (Ij 114 #[.pointer (some ⟨w.heap.size+1+1,0,none⟩),.pointer (some ⟨w.heap.size,0,none⟩),.pointer (some ⟨w.heap.size+1,0,none⟩)] _).mono ?_;rintro e w2 ⟨tb,rfl,htb,hth,hbl⟩;have T0:=Am_ htb;have T1:=Am_ hth;have T2:=Am_ hbl;clear htb hth hbl)
 go_ret
 have l1:=bH b1.out
 have l2:=bH b2.out
 have l3:=bH b3.out
 have l4:=T0.out
 exact ⟨⟨tb,w.heap.size+1+1,w.heap.size,w.heap.size+1,rfl,by omega,by omega,by omega,by omega,by omega,by omega,by omega,T1.out,⟨⟨bW b3.out T2.out,id⟩,⟨bW b1.out T2.out,id⟩,⟨bW b2.out T2.out,id⟩⟩,aU bb.out bb.out.size T2.out⟩⟩
theorem yt {Sh:Ws→(Nat→Prop)→World→Prop} (S:Shared Sh) (gf:FuncId) (cap:Array Value) (p:Nat) (me:Int) (tb bf bw bm:Nat) (ok:Nat→Prop) (s:TS Ws) (w:World) (work:Value) (res:Out (List Int) × TS Ws)
  (h:dU Sh tb work ok s w) (hb:kT gf cap p me bf bw bm ok w)
  (he: ∀ w1:World,(callFunc gf (#[eu tb p me]++cap)).run Tryz.prog w1= .ok (.enter gf (#[eu tb p me]++cap)) w1)
  (hc:Calls Tryz.prog gf (#[eu tb p me]++cap) w (gH Sh tb work (Ed w.heap.size) ok w res)):
  Calls Tryz.prog 114 #[.pointer (some ⟨tb,0,none⟩),.pointer (some ⟨bf,0,none⟩),.pointer (some ⟨bw,0,none⟩),.pointer (some ⟨bm,0,none⟩)] w (gH Sh tb work (Ed w.heap.size) ok w res):=by
 have c1:=(af hb.hf.1 0).trans (rfl:_=some (Value.func (.func gf) #[] cap))
 have c2:=(af hb.hw.1 0).trans (rfl:_=some (Value.pointer (some ⟨p,0,none⟩)))
 have c3:=(af hb.hm.1 0).trans (rfl:_=some (Value.int .i64 me))
 have HE:=Am_ he
 have HC:=Am_ hc
 clear h hb he hc
 unfold eu at HE HC
 go_enter Tryz.func114,Tryz.ntmps114
 go_wp2_with fail
 rw [HE.out,Oper.upon_enter]
 refine HC.out.mono ?_
 rintro e w2 ⟨ok1,hm,hi,hres⟩
 have M:=Am_ hm
 have I:=Am_ hi
 clear hm hi HE HC
 obtain ⟨o,s2⟩:=res
 cases o with
 | wait=>
  obtain rfl:e= .panicked dK:=hres
  exact ⟨rfl,⟨⟨ok1,M.out,I.out,rfl⟩⟩⟩
 | ret l=>
  obtain ⟨v,rfl,hv⟩:=hres
  have V:=Am_ hv
  clear hv
  dsimp only
  go_wp2_with fail
  go_ret
  exact ⟨⟨ok1,M.out,I.out,v,rfl,V.out⟩⟩
def LA:Bool × List (List Nat × List Nat):=(true,[([],[]),([],[]),([1],[1]),([0,2],[0,2]),([],[]),([],[]),([5],[5]),([4,6,3],[4,6]),([],[]),([],[]),([9],[9]),([8,10,7],[8,10]),([],[]),([12],[12]),([3,7,11,13],[3,7,11,13]),([14,11,0,1,2,3,4,5,6,7,8,9,10,11,12,13,14],[14])])
def Qm:List Nat:= [0,0,2,7,0,0,32,127,0,0,512,2047,0,4096,16383,32767]
theorem JA:gJ .any (opsOf Tryz.f69 2)=LA:=by kernel_rfl
theorem Ey:bI LA.2 Qm=true:=by kernel_rfl
theorem Nw (b:Bool) (w:World):Calls Tryz.prog 115 #[.bool b] w fun e w1=>e= .returned (.int .i64 (b01 b))∧w1=w:=by
 cases b<;>(go_enter Tryz.func115,Tryz.ntmps115;go_wp2;go_ret;exact ⟨rfl,rfl⟩)
def numsOf (a:PR):List Int:= [b01 a.nn,b01 a.sh,b01 a.fd,a.va]
theorem oQ (a:PR) (w:World):Calls Tryz.prog 69 #[.agg #[.bool a.nn,.bool a.sh,.bool a.fd,.int .i64 a.va]] w fun e w1=> ∃ v,e= .returned v∧(Kd.int .i64).R 2 w1 w.heap.size (fun k=>w.heap.size≤k) v (numsOf a)∧Below w.heap.size w w1:=by
 have B1:=Am_ (ai (Below.refl w.heap.size w) (.cells #[.bool a.nn,.bool a.sh,.bool a.fd,.int .i64 a.va] 117))
 have hb:=bU w (.cells #[.bool a.nn,.bool a.sh,.bool a.fd,.int .i64 a.va] 117)
 have HC:=Am_ (And.intro ((af hb 0).trans (rfl:_=some (Value.bool a.nn))) (And.intro ((af hb 1).trans (rfl:_=some (Value.bool a.sh))) (And.intro ((af hb 2).trans (rfl:_=some (Value.bool a.fd))) ((af hb 3).trans (rfl:_=some (Value.int .i64 a.va))))))
 clear hb
 go_enter Tryz.func69,Tryz.ntmps69
 go_upto_region 2 with fail
 generalize hw1:w.alloc (.cells #[.bool a.nn,.bool a.sh,.bool a.fd,.int .i64 a.va] 117)=w1 at B1 HC ⊢
 generalize hbn:w.heap.size=bn at HC ⊢
 have HBN:=Am_ hbn
 clear hw1 hbn
 refine bK (n:=16) (S:=fun w'=>w'.cell? ⟨bn,0,none⟩=some (.bool a.nn)∧w'.cell? ⟨bn,1,none⟩=some (.bool a.sh)∧w'.cell? ⟨bn,2,none⟩=some (.bool a.fd)∧w'.cell? ⟨bn,3,none⟩=some (.int .i64 a.va)) (ds:= []) (by kernel_rfl) rfl JA Ey HC.out (fun hHeld HT_ HW_=>?_)
 have B2:=Am_ (cZ B1.out)
 have S2:av (w.heap.size≤w1.drew.heap.size):=⟨B1.out.size⟩
 clear HC
 generalize w1.drew=w2 at B2 S2 hHeld ⊢
 refine gy [(0,some 4),(1,some 5),(2,some 6),(4,some 8),(5,some 9),(6,some 10),(8,some 12),(9,some 13),(10,some 14),(12,some 16),(13,some 17)] ?_
 iterate 2 (refine gG (v:=?_) (a':=?_) HT_ (by kernel_rfl) rfl rfl (fun _ _ _ h=>h) (Or.inl ⟨by rfl,?_⟩) ?_ ?_;rotate_left;(intro w';go_simp;with_reducible rfl);rotate_left;(simp only [Act.put,p1_,p2_,p3_,aG,aH];rfl))
 iterate 9 (refine jW (v:=?_) (a':=?_) HT_ HW_ (by kernel_rfl) rfl rfl (fun _ _ _ h=>h) hHeld (Or.inl ⟨by rfl,?_⟩) ?_ ?_;rotate_left;(rintro w' ⟨s0,s1,s2,s3⟩;go_simp;with_reducible rfl);rotate_left;(simp only [Act.put,p1_,p2_,p3_,aG,aH];rfl))
 refine bG ?_
 refine dI (i:=3) (some 7) HT_ (by kernel_rfl) rfl rfl (by decide) (fun K_ hK=>?_)
 refine call_ 115 #[.bool a.nn] (by rfl) rfl ?hrun3 ?_
 (case hrun3=>first | (go_simp;done) | (go_simp;exact enters Tryz.func115 (by kernel_rfl) rfl _ _))
 refine (Nw a.nn _).mono ?_
 rintro e w3 ⟨rfl,rfl⟩
 refine ⟨_,rfl,?_⟩
 refine hK.out _ _ hHeld (fun hHeld=>?_)
 clear hK K_
 refine cK (a':=?_) ?_ ?_
 rotate_left; · show Act.put _ (some 7) _=_;simp only [Act.put,p1_,p2_,p3_,aG,aH];rfl
 refine dI (i:=7) (some 11) HT_ (by kernel_rfl) rfl rfl (by decide) (fun K_ hK=>?_)
 refine call_ 115 #[.bool a.sh] (by rfl) rfl ?hrun7 ?_
 (case hrun7=>first | (go_simp;done) | (go_simp;exact enters Tryz.func115 (by kernel_rfl) rfl _ _))
 refine (Nw a.sh _).mono ?_
 rintro e w4 ⟨rfl,rfl⟩
 refine ⟨_,rfl,?_⟩
 refine hK.out _ _ hHeld (fun hHeld=>?_)
 clear hK K_
 refine cK (a':=?_) ?_ ?_
 rotate_left; · show Act.put _ (some 11) _=_;simp only [Act.put,p1_,p2_,p3_,aG,aH];rfl
 refine dI (i:=11) (some 15) HT_ (by kernel_rfl) rfl rfl (by decide) (fun K_ hK=>?_)
 refine call_ 115 #[.bool a.fd] (by rfl) rfl ?hrun11 ?_
 (case hrun11=>first | (go_simp;done) | (go_simp;exact enters Tryz.func115 (by kernel_rfl) rfl _ _))
 refine (Nw a.fd _).mono ?_
 rintro e w5 ⟨rfl,rfl⟩
 refine ⟨_,rfl,?_⟩
 refine hK.out _ _ hHeld (fun hHeld=>?_)
 clear hK K_
 refine cK (a':=?_) ?_ ?_
 rotate_left; · show Act.put _ (some 15) _=_;simp only [Act.put,p1_,p2_,p3_,aG,aH];rfl
 refine dI (i:=14) (some 18) HT_ (by kernel_rfl) rfl rfl (by decide) (fun K_ hK=>?_)
 refine jD (v:= .slice (some ⟨w5.heap.size,0,none⟩) 4 4) (w1:=w5.alloc (.cells #[.int .i64 (b01 a.nn),.int .i64 (b01 a.sh),.int .i64 (b01 a.fd),.int .i64 a.va] 2)) (by rfl) rfl (by go_simp) ?_
 have R6:=Am_ (uF (k:= .i64) 2 w5 w.heap.size [b01 a.nn,b01 a.sh,b01 a.fd,a.va] S2.out (by simp))
 have B6:=Am_ (ai B2.out (.cells #[.int .i64 (b01 a.nn),.int .i64 (b01 a.sh),.int .i64 (b01 a.fd),.int .i64 a.va] 2))
 refine hK.out _ _ ⟨aD (ai (Below.refl _ _) _) hHeld.1,aD (ai (Below.refl _ _) _) hHeld.2.1,aD (ai (Below.refl _ _) _) hHeld.2.2.1,aD (ai (Below.refl _ _) _) hHeld.2.2.2⟩ (fun hHeld=>?_)
 clear hK K_
 refine cK (a':=?_) ?_ ?_
 rotate_left; · show Act.put _ (some 18) _=_;simp only [Act.put,p1_,p2_,p3_,aG,aH];rfl
 refine gy [(15,some 2)] ?_
 (refine gG (v:=?_) (a':=?_) HT_ (by kernel_rfl) rfl rfl (fun _ _ _ h=>h) (Or.inl ⟨by rfl,?_⟩) ?_ ?_;rotate_left;(intro w';go_simp;with_reducible rfl);rotate_left;(simp only [Act.put,p1_,p2_,p3_,aG,aH];rfl))
 refine bG ?_
 clear hHeld
 refine dR (bM HT_.out (by kernel_rfl)) ?_
 go_wp2_with fail
 go_ret
 have hbn:=HBN.out
 subst hbn
 exact ⟨_,rfl,Kd.bC R6.out (fun k hk=>by have:=S2.out;omega),B6.out⟩
def pW (me key value:Int) (fresh:Bool) (fl:Nat) (mt:Pr Ws Bool) (f:Nat):Pr Ws (List Int):=aQ (jP me key value fresh fl mt f) fun a=>dw (numsOf a)
structure jV (key value:Int) (fresh:Bool) (bk bv bf:Nat) (ok:Nat→Prop) (w:World):Prop where
 hk:Mine ok w bk (.cells #[.int .i64 key] 2 (0,0))
 hv:Mine ok w bv (.cells #[.int .i64 value] 2 (0,0))
 hf:Mine ok w bf (.cells #[.bool fresh] 4 (0,0))
theorem jV.moves {key value:Int} {fresh:Bool} {bk bv bf:Nat} {ok ok1:Nat→Prop} {w w1:World} (h:jV key value fresh bk bv bf ok w) (m:Moves ok ok1 w w1):jV key value fresh bk bv bf ok1 w1:=⟨h.hk.moves m,h.hv.moves m,h.hf.moves m⟩
theorem wI (p tb:Nat) (work:Value) (me key value:Int) (fresh:Bool) (bk bv bf:Nat) (ok:Nat→Prop) (s:TS Ws) (w:World) (h:dU (shW p) tb work ok s w) (hb:jV key value fresh bk bv bf ok w) (fl f:Nat) (hfl0:fl<900000) (mt:Pr Ws Bool) (hmend: ∀ (ok:Nat→Prop) (s:TS Ws) (w:World),dU (shW p) tb work ok s w→ ∀ (res:Out Bool × TS Ws),mt s=some res→Calls Tryz.prog 124 #[eu tb p me,.int .i64 key] w (gH (shW p) tb work uP ok w res)) (res:Out (List Int) × TS Ws) (hr:pW me key value fresh fl mt f s=some res):
  Calls Tryz.prog 68 #[eu tb p me,.pointer (some ⟨bk,0,none⟩),.pointer (some ⟨bv,0,none⟩),.pointer (some ⟨bf,0,none⟩)] w (gH (shW p) tb work (Ed w.heap.size) ok w res):=by
 have h0:=aX.enter (me:=me) h
 unfold fZ at h0
 have HT:=Am_ h0
 have HB:=Am_ (hb.moves ((Moves.refl ok w).alloc (.cells #[.pointer (some ⟨tb,0,none⟩),.pointer (some ⟨p,0,none⟩),.int .i64 me] 114)))
 have HTV:eu tb p me= .agg #[.pointer (some ⟨tb,0,none⟩),.pointer (some ⟨p,0,none⟩),.int .i64 me]:=rfl
 have HMD:=Am_ hmend
 obtain ⟨o,t,hd,hcase⟩:=aN hr
 have HD:=Am_ hd
 have HCS:=Am_ hcase
 have hfl:=Am_ hfl0
 rw [HTV]
 clear h h0 hr hd hcase hb HTV hmend hfl0
 go_enter Tryz.func68,Tryz.ntmps68
 go_upto_region 1 with fail
 generalize w.alloc (.cells #[.pointer (some ⟨tb,0,none⟩),.pointer (some ⟨p,0,none⟩),.int .i64 me] 114)=w1 at HT HB ⊢
 generalize hbt:w.heap.size=bt at HT ⊢
 have HBT:=Am_ hbt
 clear hbt
 have c0:=HT.out.c0
 have c1:=HT.out.c1
 have c2:=HT.out.c2
 have k0:=(af HB.out.hk.1 0).trans (rfl:_=some (Value.int .i64 key))
 have k1:=(af HB.out.hv.1 0).trans (rfl:_=some (Value.int .i64 value))
 have k2:=(af HB.out.hf.1 0).trans (rfl:_=some (Value.bool fresh))
 go_wp2_with (first
  | (go_at_call 70;refine (Cv p tb work me key value fresh fl f _ _ _ HT.out.run hfl.out _ HMD.out (o,t) HD.out).mono ?_;rintro e wq ⟨okq,hm,hi,he⟩;rcases HCS.out with hw | hw;(obtain ⟨rfl,rfl⟩:=hw;obtain rfl:e= .panicked dK:=he;exact ⟨rfl,⟨⟨okq,HT.out.moves.trans hm,hi,rfl⟩⟩⟩);obtain ⟨a,rfl,hr2⟩:=hw;obtain ⟨_,rfl,rfl⟩:=he;have HT2:=Am_ (HT.out.next hm hi);have HR2:=Am_ hr2;clear hm hi hr2 c0 c1 c2 k0 k1 k2)
  | (go_at_call 69;refine (oQ a _).mono ?_;rintro e wq2 ⟨v,rfl,hv,hb⟩;have HT3:=Am_ (HT2.out.below hb);have HV:=Am_ hv;have HQ:=Am_ hb.size;clear hv hb))
 go_ret
 obtain rfl:res=(.ret (numsOf a),t):=by have h:=HR2.out;injection h with h;exact h.symm
 have hs1:=HT2.out.moves.size
 have hbt:=HBT.out
 exact ⟨⟨okq,HT3.out.moves,HT3.out.run,v,rfl,Kd.eF (Kd.bC HV.out (fun k hk h1=>by have:=HT2.out.lt k h1;omega)) (by omega)⟩⟩
structure vI (p:Nat) (me key value:Int) (fresh:Bool) (w:World) (e:Ending) (w1:World):Prop where
 out: ∃ tb bf bw bm b1 b2 b3,e= .returned (.pointer (some ⟨tb,0,none⟩))∧(∀ k∈ [tb,bf,bw,bm,b1,b2,b3],w.heap.size≤k)∧(∀ k∈ [bf,bw,bm,b1,b2,b3],tb≠k)∧dJ (fun k=>k=tb) tb (jL bf bw bm) th0 w1∧
  kT 68 #[.pointer (some ⟨b1,0,none⟩),.pointer (some ⟨b2,0,none⟩),.pointer (some ⟨b3,0,none⟩)] p me bf bw bm (fun _=>False) w1∧jV key value fresh b1 b2 b3 (fun _=>False) w1∧Below w.heap.size w w1
theorem qP (p:Nat) (me key value:Int) (fresh:Bool) (w:World):
  Calls Tryz.prog 14 #[.pointer (some ⟨p,0,none⟩),.int .i64 me,.int .i64 key,.int .i64 value,.bool fresh] w (vI p me key value fresh w):=by
 have hmf: ∀ (fn:Fn) (first cap:Array Value) (w:World),(Instr.makeFunc fn first cap).run Tryz.prog w= .ok (.func fn first cap) w:=fun _ _ _ _=>rfl
 have m1:=Mine.new (ok:=fun _=>False) (w:=w) (fun q hq=>hq.elim) (.cells #[.int .i64 key] 2)
 have m2:=Mine.new (ok:=fun _=>False) (w:=w.alloc (.cells #[.int .i64 key] 2)) (fun q hq=>hq.elim) (.cells #[.int .i64 value] 2)
 have m3:=Mine.new (ok:=fun _=>False) (w:=(w.alloc (.cells #[.int .i64 key] 2)).alloc (.cells #[.int .i64 value] 2)) (fun q hq=>hq.elim) (.cells #[.bool fresh] 4)
 simp only [World.size_alloc] at m2 m3
 have MM:=Am_ (jV.mk ((m1.alloc (.cells #[.int .i64 value] 2)).alloc (.cells #[.bool fresh] 4)) (m2.alloc (.cells #[.bool fresh] 4)) m3)
 have bb:=Am_ (ai (ai (ai (Below.refl w.heap.size w) (.cells #[.int .i64 key] 2)) (.cells #[.int .i64 value] 2)) (.cells #[.bool fresh] 4))
 clear m1 m2 m3
 go_enter Tryz.func14,Tryz.ntmps14
 go_upto_region 1 with fail
 generalize ((w.alloc (.cells #[.int .i64 key] 2)).alloc (.cells #[.int .i64 value] 2)).alloc (.cells #[.bool fresh] 4)=w1 at MM bb ⊢
 go_wp2_with (go_at_call 67;refine (AV 68 #[.pointer (some ⟨w.heap.size,0,none⟩),.pointer (some ⟨w.heap.size+1,0,none⟩),.pointer (some ⟨w.heap.size+1+1,0,none⟩)] p me _).mono ?_;rintro e w2 ⟨tb,bf,bw,bm,rfl,h1,h2,h3,h4,h5,h6,h7,h8,h9,h10⟩;have T:=Am_ h8;have S:=Am_ h9;have B:=Am_ h10;have L:=Am_ (And.intro h1 (And.intro h2 (And.intro h3 h4)));have N:=Am_ (And.intro h5 (And.intro h6 h7));clear h1 h2 h3 h4 h5 h6 h7 h8 h9 h10)
 go_ret
 obtain ⟨h1,h2,h3,h4⟩:=L.out
 obtain ⟨h5,h6,h7⟩:=N.out
 have l1:=MM.out.hk.lt
 have l2:=MM.out.hv.lt
 have l3:=MM.out.hf.lt
 refine ⟨⟨tb,bf,bw,bm,w.heap.size,w.heap.size+1,w.heap.size+1+1,rfl,?_,?_,T.out,S.out,MM.out.moves (Moves.bV _ B.out),aU bb.out bb.out.size B.out⟩⟩
 ·intro k hk
  simp only [List.mem_cons,List.not_mem_nil,or_false] at hk
  omega
 ·intro k hk
  simp only [List.mem_cons,List.not_mem_nil,or_false] at hk
  omega
theorem uT {X:Type} (tw:Pr X (List Int)): ∀ (f:Nat) (x:X) (log:List Int) (l:List Int) (q:Nat × X × List Int),jR tw f x log=some (some l,q)→ ∃ s s1,tw s=some (.ret l,s1)
 | 0,x,log,l,q,h=>by
  injection h with h
  cases h
 | f+1,x,log,l,q,h=>by
  unfold jR at h
  cases ht:tw ⟨x,log,0,false⟩ with
  | none=>rw [ht] at h;cases h
  | some r=>
   obtain ⟨o,s1⟩:=r
   rw [ht] at h
   cases o with
   | wait=>exact uT tw f _ _ l q h
   | ret l1=>
    injection h with h
    injection h with h _
    injection h with h
    subst h
    exact ⟨_,_,ht⟩
structure Works (gf:FuncId) (cap:Array Value) (p tb:Nat) (me:Int) (bf bw bm:Nat) (Cx:(Nat→Prop)→World→Prop) (tw:Pr Ws (List Int)):Prop where
 moves: ∀ ok ok1 w w1,Cx ok w→Moves ok ok1 w w1→Cx ok1 w1
 enters: ∀ w1:World,(callFunc gf (#[eu tb p me]++cap)).run Tryz.prog w1= .ok (.enter gf (#[eu tb p me]++cap)) w1
 calls: ∀ ok s w res,dU (shW p) tb (jL bf bw bm) ok s w→Cx ok w→tw s=some res→Calls Tryz.prog gf (#[eu tb p me]++cap) w (gH (shW p) tb (jL bf bw bm) (Ed w.heap.size) ok w res)
 len: ∀ s s1 l,tw s=some (.ret l,s1)→l.length<1000000
theorem oN {gf:FuncId} {cap:Array Value} {p tb:Nat} {me:Int} {bf bw bm:Nat} {Cx:(Nat→Prop)→World→Prop} {tw:Pr Ws (List Int)} (k:Works gf cap p tb me bf bw bm Cx tw) (ok:Nat→Prop) (x:Ws) (log:List Int) (at_:Int) (spent:Bool) (w:World)
  (h:Idle (shW p) tb (jL bf bw bm) ok x (LX log at_ spent) w) (hl:log.length<1000000) (hB:kT gf cap p me bf bw bm ok w) (hC:Cx ok w)
  (res:Option (List Int) × Nat × Ws × List Int) (hr:jR tw 3000 x log=some res):
  Calls Tryz.prog 15 #[.pointer (some ⟨tb,0,none⟩)] w (yF (shW p) tb (jL bf bw bm) ok res w):=by
 refine zu (bg p) tb 114 #[.pointer (some ⟨bf,0,none⟩),.pointer (some ⟨bw,0,none⟩),.pointer (some ⟨bm,0,none⟩)] ok x log at_ spent w (fun ok w=>kT gf cap p me bf bw bm ok w∧Cx ok w) tw h hl (fun ok ok1 w w1 h m=>⟨h.1.moves m,k.moves _ _ _ _ h.2 m⟩) ⟨hB,hC⟩ (enters Tryz.func114 (by kernel_rfl) rfl _) ?_ ?_ res hr
 ·intro ok1 s w1 res1 hi hb hres
  exact yt (bg p) gf cap p me tb bf bw bm ok1 s w1 _ res1 hi hb.1 k.enters (k.calls ok1 s w1 res1 hi hb.2 hres)
 ·intro l q x1 log1 h1
  obtain ⟨s,s1,h2⟩:=uT _ _ _ _ _ _ h1
  exact k.len _ _ _ h2
structure PK (key:Int) (mt:Pr Ws Bool):Prop where
 calls: ∀ (p tb:Nat) (work:Value) (me:Int) (ok:Nat→Prop) (s:TS Ws) (w:World),dU (shW p) tb work ok s w→ ∀ (res:Out Bool × TS Ws),mt s=some res→Calls Tryz.prog 124 #[eu tb p me,.int .i64 key] w (gH (shW p) tb work uP ok w res)
theorem Lp (key:Int) (f:Nat) (hf:f<900000):PK key (lK key f):=⟨fun p tb work me ok s w h res hr=>zM p tb work me key ok s w h f hf res hr⟩
theorem qW {p tb:Nat} {me key value:Int} {fresh:Bool} {bf bw bm b1 b2 b3 fl f:Nat} {mt:Pr Ws Bool} (hm:PK key mt) (hfl:fl<900000):Works 68 #[.pointer (some ⟨b1,0,none⟩),.pointer (some ⟨b2,0,none⟩),.pointer (some ⟨b3,0,none⟩)] p tb me bf bw bm (jV key value fresh b1 b2 b3) (pW me key value fresh fl mt f) where
 moves:=fun ok ok1 w w1 h m=>h.moves m
 enters:=enters Tryz.func68 (by kernel_rfl) rfl _
 calls:=fun ok s w res hi hb hr=>wI p tb _ me key value fresh b1 b2 b3 ok s w hi hb fl f hfl mt (fun ok s w h res hr=>hm.calls p tb _ me ok s w h res hr) res hr
 len:=fun s s1 l h=>by
  unfold pW at h
  obtain ⟨o,t,hd,hcase⟩:=aN h
  rcases hcase with ⟨_,h1⟩ | ⟨a,_,h2⟩
  ·injection h1 with h1 _
   cases h1
  ·injection h2 with h2
   injection h2 with h2 _
   injection h2 with h2
   rw [←h2]
   show (4:Nat)<1000000
   omega
structure Jp (p:Nat) (me key value:Int) (fresh:Bool) (x:Ws) (tb bf bw bm b1 b2 b3:Nat) (ok okW:Nat→Prop) (w0 w1:World):Prop where
 idle:Idle (shW p) tb (jL bf bw bm) ok x (LX [] 0 false) w1
 bx:kT 68 #[.pointer (some ⟨b1,0,none⟩),.pointer (some ⟨b2,0,none⟩),.pointer (some ⟨b3,0,none⟩)] p me bf bw bm ok w1
 cx:jV key value fresh b1 b2 b3 ok w1
 iff: ∀ q,ok q↔q=tb∨okW q
 new:w0.heap.size≤tb
theorem yj {p:Nat} {me key value:Int} {fresh:Bool} {x:Ws} {okW:Nat→Prop} {w0 w1:World} {e:Ending} (hw:shW p x okW w0) (h:vI p me key value fresh w0 e w1): ∃ tb bf bw bm b1 b2 b3,e= .returned (.pointer (some ⟨tb,0,none⟩))∧Jp p me key value fresh x tb bf bw bm b1 b2 b3 (fun q=>q=tb∨okW q) okW w0 w1∧Below w0.heap.size w0 w1:=by
 obtain ⟨tb,bf,bw,bm,b1,b2,b3,rfl,h1,h2,h3,h4,h5,h6⟩:=h.out
 have hlt: ∀ q,okW q→q<w0.heap.size:=(bg p).lt hw
 have hn: ∀ b,b∈ [bf,bw,bm,b1,b2,b3]→ ¬ (b=tb∨okW b):=fun b hb hq=>by
  rcases hq with hq | hq
  ·exact h2 b hb hq.symm
  ·have:=hlt b hq
   have:=h1 b (List.mem_cons_of_mem _ hb)
   omega
 have htb:=h1 tb List.mem_cons_self
 refine ⟨tb,bf,bw,bm,b1,b2,b3,rfl,⟨⟨⟨fun q=>q=tb,okW,fun _=>Iff.rfl,fun q hq h=>by have:=hlt q h;omega,h3,(bg p).step hw h6.size (fun q _ hq=>h6.block q hq)⟩⟩,⟨⟨h4.hf.1,hn bf (by simp)⟩,⟨h4.hw.1,hn bw (by simp)⟩,⟨h4.hm.1,hn bm (by simp)⟩⟩,⟨⟨h5.hk.1,hn b1 (by simp)⟩,⟨h5.hv.1,hn b2 (by simp)⟩,⟨h5.hf.1,hn b3 (by simp)⟩⟩,fun _=>Iff.rfl,htb⟩,h6⟩
theorem NP {ok:Nat→Prop} {tb:Nat} {work:Value} {th:Th} (a:PR) (w:World) (h:dJ ok tb work th w) (hd:th.done=true) (ho:th.out=numsOf a):
  Calls Tryz.prog 54 #[.pointer (some ⟨tb,0,none⟩),.bool a.nn,.bool a.sh,.bool a.fd,.int .i64 a.va] w fun e w1=>e= .returned (.bool true)∧Below w.heap.size w w1:=by
 have HT:=Am_ h
 have HD:=Am_ hd
 have HO:=Am_ ho
 clear h hd ho
 go_enter Tryz.func54,Tryz.ntmps54
 go_upto_region 2 with (go_at_call 69;refine (oQ a _).mono ?_;rintro e w2 ⟨v,rfl,hv,hb⟩;obtain ⟨A1,c1,rfl⟩:=Kd.aW hv;have V2:=Am_ hv;have B2:=Am_ hb;clear hv hb)
 have HT2:=Am_ (HT.out.step B2.out.size (fun k _ hlt=>B2.out.block k hlt))
 have HC:=Am_ (yM w2 HT2.out HD.out (by rw [HO.out];show (4:Nat)<1000000;omega))
 clear HT HT2
 go_upto_region 3 with (go_at_call 62;refine HC.out.mono ?_;rintro e w3 ⟨v,rfl,hv,hb⟩;rw [HO.out] at hv;obtain ⟨A2,c2,rfl⟩:=Kd.aW hv;have V3:=Am_ hv;have V2:=Am_ (Kd.dX V2.out hb);have B3:=Am_ (aU B2.out B2.out.size hb);clear hv hb)
 clear HC B2
 have h4:(numsOf a).length=4:=rfl
 rw [h4] at V2 V3 ⊢
 go_upto_block 0 with fail
 go_wp2_with fail
 go_loopg [27] 4 (fun g v27 wr=> ∃ k:Nat,v27= .int .i64 k∧k+g=4∧av (Below w3.heap.size w3 wr))
 case atStart=>exact ⟨0,rfl,by omega,⟨Below.refl _ _⟩⟩
 case round=>
  obtain ⟨k,rfl,hkg,HQ⟩:=hrel
  cases gk with
  | zero=>
   obtain rfl:k=4:=by omega
   clear hkg
   go_wp2_with fail
   go_ret
   exact ⟨rfl,aU B3.out B3.out.size HQ.out⟩
  | succ g=>
   have hk4:k<4:=by omega
   have d1:decide ((k:Int)<4)=true:=decide_eq_true (by omega)
   have b1:(0:Int)≤(k:Int):=by omega
   have b2:(k:Int)<4:=by omega
   obtain ⟨g1,rfl,x1,_⟩:=IB (Kd.R_F V2.out) (ng V2.out) k hk4
   obtain ⟨g2,rfl,x2,_⟩:=IB (Kd.R_F V3.out) (ng V3.out) k hk4
   have x1:=aD HQ.out x1
   have x2:=aD HQ.out x2
   generalize (numsOf a).getD k 0=x at x1 x2
   have hw1:wrap64 ((k:Int)+1)=((k+1:Nat):Int):=by unfold wrap64;omega
   have HW1:=Am_ hw1
   have HK:=Am_ hkg
   clear hw1 hkg hk4
   go_upto_region 8 with fail
   go_quiet (fail)
   go_wp2_with fail
   go_roundg g
   case rel=>exact ⟨k+1,by first | rfl | (rw [←HW1.out]),by have:=HK.out;omega,⟨HQ.out.trans (au (Below.refl _ _) nq)⟩⟩
   case measure=>omega
end Go.Proofs.YtmnjjdeaccgjlaaGreat.Tower
namespace Go.Proofs.YtmnjjdeaccgjlaaGreatW.PrintWords
open Go.RowKit
namespace Kd
section
variable {α:Type} {d:Kd α} {e base n m:Nat} {ok:Nat→Prop} {w w':World} {v:Value} {A:Option Addr} {xs:List α}
theorem IB (hq:w.drewN m=w') (h:F d w ok A n xs):F d w' ok A n xs:=by subst hq;exact nQ h m
end
end Kd
section
variable {P:Program} {d:Nat} {xs ys:Array Value} {f:Field} {fs:List Field} {a b:Value} {r s:Bool} {w:World}
theorem Jm (hn:(f.name == "_")=false) (ha:(part f.type xs f.offset).run P w= .ok a w) (hb:(part f.type ys f.offset).run P w= .ok b w) (he:(Op.equalIn d f.type a b).run P w= .ok r w):(Op.eqFields d xs ys [f]).run P w= .ok r w:=by
 have hn':f.name≠ "_" :=by simpa using hn
 simp only [Op.eqFields,if_pos hn',Sem.run_bind,ha,hb,he,Result.andThen_ok]
 cases r<;>simp
theorem JK (hn:(f.name == "_")=false) (ha:(part f.type xs f.offset).run P w= .ok a w) (hb:(part f.type ys f.offset).run P w= .ok b w) (he:(Op.equalIn d f.type a b).run P w= .ok r w) (hr:(Op.eqFields d xs ys fs).run P w= .ok s w):(Op.eqFields d xs ys (f::fs)).run P w= .ok (r && s) w:=by
 have hn':f.name≠ "_" :=by simpa using hn
 rw [Op.eqFields]
 simp only [if_pos hn',Sem.run_bind,ha,hb,he,Result.andThen_ok]
 cases r
 ·simp
 ·simpa using hr
theorem Qo {t:TypeId} {fs:Array Field} (hu:P.underlying t=some (.struct fs)) (hp:P.stoodInHeld t=false) (h:(Op.eqFields d xs ys fs.toList).run P w= .ok r w):(Op.equalIn (d+1) t (.agg xs) (.agg ys)).run P w= .ok r w:=by
 have hf:P.fieldsOf t=fs:=by simp [Program.fieldsOf,hu]
 rw [run_equalIn_struct (P:=P) w d t xs ys (by rw [hf];exact hu) hp,hf]
 exact h
end
theorem gM.one {α:Type} {R:α→List Value→Prop} {ps:List α} {cs:List Value} {p:α} {v:Value} (hp:R p [v]) (h:gM R 1 ps cs):gM R 1 (p::ps) (v::cs):=by
 refine ⟨by simp [h.1],fun j q hq=>?_⟩
 cases j with
 | zero=>
  simp only [List.getElem?_cons_zero,Option.some.injEq] at hq
  subst hq
  simpa using hp
 | succ j=>
  simp only [List.getElem?_cons_succ] at hq
  have h1:=h.2 j q hq
  simpa [Nat.mul_one] using h1
theorem gM.front {α:Type} {R:α→List Value→Prop} {size:Nat} {ps:List α} {cs c all:List Value} {p:α} (hp:R p c) (hc:c.length=size) (h:gM R size ps cs) (ha:c++cs=all):gM R size (p::ps) all:=by
 subst ha
 refine ⟨by rw [List.length_append,hc,h.1,List.length_cons,Nat.succ_mul,Nat.add_comm],fun j q hq=>?_⟩
 cases j with
 | zero=>
  simp only [List.getElem?_cons_zero,Option.some.injEq] at hq
  subst hq
  rw [Nat.zero_mul,List.drop_zero,List.take_append_of_le_length (by omega),List.take_of_length_le (by omega)]
  exact hp
 | succ j=>
  simp only [List.getElem?_cons_succ] at hq
  have h1:=h.2 j q hq
  rw [Nat.succ_mul,List.drop_append,List.drop_of_length_le (by rw [hc];exact Nat.le_add_left _ _),List.nil_append,hc,Nat.add_sub_cancel]
  exact h1
theorem gM.c2 {α:Type} {R:α→List Value→Prop} {ps:List α} {cs:List Value} {p:α} {va vb:Value} (hp:R p [va,vb]) (h:gM R 2 ps cs):gM R 2 (p::ps) (va::vb::cs):=gM.front hp rfl h rfl
theorem gM.c3 {α:Type} {R:α→List Value→Prop} {ps:List α} {cs:List Value} {p:α} {va vb vc:Value} (hp:R p [va,vb,vc]) (h:gM R 3 ps cs):gM R 3 (p::ps) (va::vb::vc::cs):=gM.front hp rfl h rfl
theorem gM.c4 {α:Type} {R:α→List Value→Prop} {ps:List α} {cs:List Value} {p:α} {va vb vc vd:Value} (hp:R p [va,vb,vc,vd]) (h:gM R 4 ps cs):gM R 4 (p::ps) (va::vb::vc::vd::cs):=gM.front hp rfl h rfl
theorem gM.c5 {α:Type} {R:α→List Value→Prop} {ps:List α} {cs:List Value} {p:α} {va vb vc vd ve:Value} (hp:R p [va,vb,vc,vd,ve]) (h:gM R 5 ps cs):gM R 5 (p::ps) (va::vb::vc::vd::ve::cs):=gM.front hp rfl h rfl
theorem gM.c6 {α:Type} {R:α→List Value→Prop} {ps:List α} {cs:List Value} {p:α} {va vb vc vd ve vf:Value} (hp:R p [va,vb,vc,vd,ve,vf]) (h:gM R 6 ps cs):gM R 6 (p::ps) (va::vb::vc::vd::ve::vf::cs):=gM.front hp rfl h rfl
theorem gM.c7 {α:Type} {R:α→List Value→Prop} {ps:List α} {cs:List Value} {p:α} {va vb vc vd ve vf vg:Value} (hp:R p [va,vb,vc,vd,ve,vf,vg]) (h:gM R 7 ps cs):gM R 7 (p::ps) (va::vb::vc::vd::ve::vf::vg::cs):=gM.front hp rfl h rfl
theorem gM.c8 {α:Type} {R:α→List Value→Prop} {ps:List α} {cs:List Value} {p:α} {va vb vc vd ve vf vg vh:Value} (hp:R p [va,vb,vc,vd,ve,vf,vg,vh]) (h:gM R 8 ps cs):gM R 8 (p::ps) (va::vb::vc::vd::ve::vf::vg::vh::cs):=gM.front hp rfl h rfl
theorem gM.c9 {α:Type} {R:α→List Value→Prop} {ps:List α} {cs:List Value} {p:α} {va vb vc vd ve vf vg vh vi:Value} (hp:R p [va,vb,vc,vd,ve,vf,vg,vh,vi]) (h:gM R 9 ps cs):gM R 9 (p::ps) (va::vb::vc::vd::ve::vf::vg::vh::vi::cs):=gM.front hp rfl h rfl
theorem gM.c10 {α:Type} {R:α→List Value→Prop} {ps:List α} {cs:List Value} {p:α} {va vb vc vd ve vf vg vh vi vj:Value} (hp:R p [va,vb,vc,vd,ve,vf,vg,vh,vi,vj]) (h:gM R 10 ps cs):gM R 10 (p::ps) (va::vb::vc::vd::ve::vf::vg::vh::vi::vj::cs):=gM.front hp rfl h rfl
end Go.Proofs.YtmnjjdeaccgjlaaGreatW.PrintWords
namespace Go.Proofs.YtmnjjdeaccgjlaaGreatW.PrintLast
def up (b:Nat→Bool) (i:Nat):Nat→Bool:=fun j=>if j=i then true else b j
end Go.Proofs.YtmnjjdeaccgjlaaGreatW.PrintLast
namespace Go.Proofs.YtmnjjdeaccgjlaaGreatW.PrintWords
open Go.RowKit
theorem Kd.IL {α:Type} {d:Kd α} {e base:Nat} {ok:Nat→Prop} {w:World} {v:Value} {xs:List α} (h:d.R e w base ok v xs) (hn:0<xs.length): ∃ (ad:Addr) (c:Nat),v= .slice (some ad) xs.length c:=by
 obtain ⟨A,c,rfl⟩:=Kd.aW h
 have h2:=(Kd.bF h).2.2
 obtain ⟨ad,he,_⟩:=h2.2.2 hn
 subst he
 exact ⟨ad,c,rfl⟩
theorem Kd.ng {α:Type} {d:Kd α} {e base:Nat} {ok ok':Nat→Prop} {w:World} {v:Value} {xs:List α} (hd: ∀ {ok1 ok2:Nat→Prop} {x:α} {cs:List Value},d.M w base ok1 x cs→d.M w base ok2 x cs) (h:d.R e w base ok v xs) (hok: ∀ k,v.ownBlock=some k→ok k→ok' k):d.R e w base ok' v xs:=by
 obtain ⟨h0,inner,hown,hr⟩:=h
 exact ⟨fun k hk=>hok k hk (h0 k hk),inner,hown,hr.rf (fun _ _ hm=>hd hm)⟩
end Go.Proofs.YtmnjjdeaccgjlaaGreatW.PrintWords
namespace Go.Proofs.YtmnjjdeaccgjlaaGreatW.PrintLast
end Go.Proofs.YtmnjjdeaccgjlaaGreatW.PrintLast
namespace Go.Proofs.YtmnjjdeaccgjlaaGreatW.PrintWords
open Go.RowKit
section
variable {P:Program} {ops:Array Oper} {rest:List Oper} {o:Oper} {a:Act} {Q:Exit→Act→World→Prop} {W:World}
theorem uS (hw:Region.wanted o (yielded ops a.tmps)=true) (h:wpList P ops Q ({ o with guard:=none }::rest) a W):wpList P ops Q (o::rest) a W:=by
 have h1:Region.wanted { o with guard:=none } (yielded ops a.tmps)=true:=rfl
 unfold wpList at h ⊢
 rw [if_pos h1] at h
 rw [if_pos hw]
 exact h
end
end Go.Proofs.YtmnjjdeaccgjlaaGreatW.PrintWords
namespace Go.Proofs.YtmnjjdeaccgjlaaGreat.PPutSplits
open Go.RowKit Go.Proofs.YtmnjjdeaccgjlaaGreatW.PrintWords Go.Proofs.YtmnjjdeaccgjlaaGreatW.PrintLast Go.Proofs.YtmnjjdeaccgjlaaGreatW.PrintMore
attribute [local go_sem] om oD sF uy mh lY oU oG
def RN:Option Int→Value
 | none=> .nilIface
 | some c=> .iface 0 (.int .i64 c)
theorem dA:RN none= .nilIface:=rfl
theorem dB (c:Int):RN (some c)= .iface 0 (.int .i64 c):=rfl
theorem qz:(Tryz.prog.info? 121).map (fun i=>(i.zero,i.size,i.bytes))=some (some (.agg #[(.int .i64 0),(.int .i64 0)]),2,16):=by kernel_rfl
structure fF where
 f0:Int
 f1:Int
def RO:fF:=⟨(0:Int),(0:Int)⟩
def mg:Kd fF:=Kd.iso (Kd.pair (Kd.int .i64) (Kd.int .i64)) (fun x:fF=>(x.f0,x.f1))
theorem EZ {w:World} {x:fF} {cs:List Value} (h:mg.K w x cs):cs= [.int .i64 x.f0,.int .i64 x.f1]:=by
 obtain ⟨_,_,rfl,rfl,rfl⟩:=h
 exact rfl
theorem oC (w:World) (base:Nat) (ok:Nat→Prop) (x:fF)  :mg.M w base ok x [.int .i64 x.f0,.int .i64 x.f1]:=⟨[.int .i64 x.f0],[.int .i64 x.f1],rfl,rfl,rfl⟩
def aJ (xs:List fF) (i:Int):fF:=xs.getD i.toNat RO
theorem kr {w:World} {A:Option Addr} {n:Nat} {xs:List fF} (h:Kd.C mg w A n xs) (i:Int) (h0:0≤i) (h1:i<n): ∃ ad,A=some ad∧w.cell? (ad.add (i.toNat*2))=some (.int .i64 (aJ xs i).f0)∧w.cell? ⟨(ad.add (i.toNat*2)).block,(ad.add (i.toNat*2)).off+1,none⟩=some (.int .i64 (aJ xs i).f1):=by
 obtain ⟨ad,c,e,_,hK,hc0⟩:=Kd.uK h RO i h0 h1
 have hc: ∀ j u,c[j]?=some u→w.cell? (ad.add (i.toNat*2+j))=some u:=hc0
 obtain rfl:=EZ hK
 exact ⟨ad,e,hc 0 _ rfl,by rw [←iK _ _ 1 (by omega)];exact hc 1 _ rfl⟩
structure S30 where
 f0:Bool
 f1:Bool
 f2:(List fF)
 f3:(List Int)
 f4:(List S30)
def z30:S30:=⟨false,false,([]:List fF),([]:List Int),([]:List S30)⟩
def F30 (d:Kd S30):Kd S30:=Kd.iso (Kd.pair Kd.bool (Kd.pair Kd.bool (Kd.pair (Kd.slice 121 mg) (Kd.pair (Kd.slice 2 (Kd.int .i64)) (Kd.slice 30 d))))) (fun x:S30=>(x.f0,x.f1,x.f2,x.f3,x.f4))
theorem KU:Kd.BN F30:=Kd.JZ _ (Kd.oZ (Kd.mr _) (Kd.oZ (Kd.mr _) (Kd.oZ (Kd.mr _) (Kd.oZ (Kd.mr _) (Kd.CJ 30 Kd.Oy)))))
theorem Rs:Kd.Sub F30 [2,30,121]:=Kd.NH _ (Kd.rJ (Kd.sub_const _ (by decide)) (Kd.rJ (Kd.sub_const _ (by decide)) (Kd.rJ (Kd.sub_const _ (by decide)) (Kd.rJ (Kd.sub_const _ (by decide)) (Kd.FH 30 (by decide) Kd.Qx)))))
theorem RP: ∀ n,(Kd.upto F30 5 [2,30,121] n).sz=5:=Kd.NR (fun _=>rfl)
def k30:Kd S30:=Kd.fix F30 5 [2,30,121] RP (Kd.KW Rs)
theorem oJ {w:World} {x:S30} {cs:List Value} (h:k30.K w x cs): ∃ A2 c2 A3 c3 A4 c4,cs= [.bool x.f0,.bool x.f1,.slice A2 x.f2.length c2,.slice A3 x.f3.length c3,.slice A4 x.f4.length c4]∧x.f2.length≤c2∧mg.C w A2 x.f2.length x.f2∧x.f3.length≤c3∧(Kd.int .i64).C w A3 x.f3.length x.f3∧x.f4.length≤c4∧k30.C w A4 x.f4.length x.f4:=by
 obtain ⟨n,h⟩:=h
 cases n with
 | zero=>exact h.elim
 | succ n=>
  obtain ⟨_,_,rfl,rfl,⟨_,_,rfl,rfl,⟨_,_,rfl,⟨A2,c2,rfl,l2,g2⟩,⟨_,_,rfl,⟨A3,c3,rfl,l3,g3⟩,⟨A4,c4,rfl,l4,g4⟩⟩⟩⟩⟩:=h
  exact ⟨A2,c2,A3,c3,A4,c4,rfl,l2,g2,l3,g3,l4,Kd.Rt g4⟩
theorem Pf (w:World) (x:S30) {A2:Option Addr} {c2:Nat} (l2:x.f2.length≤c2) (g2:mg.C w A2 x.f2.length x.f2) {A3:Option Addr} {c3:Nat} (l3:x.f3.length≤c3) (g3:(Kd.int .i64).C w A3 x.f3.length x.f3) {A4:Option Addr} {c4:Nat} (l4:x.f4.length≤c4) (g4:k30.C w A4 x.f4.length x.f4):k30.K w x [.bool x.f0,.bool x.f1,.slice A2 x.f2.length c2,.slice A3 x.f3.length c3,.slice A4 x.f4.length c4]:=by
 obtain ⟨n4,q4⟩:=Kd.Cz KU g4
 have r4:=Kd.Fu KU RP (show n4≤n4 by omega) q4
 exact ⟨n4+1,⟨[.bool x.f0],[.bool x.f1,.slice A2 x.f2.length c2,.slice A3 x.f3.length c3,.slice A4 x.f4.length c4],rfl,rfl,⟨[.bool x.f1],[.slice A2 x.f2.length c2,.slice A3 x.f3.length c3,.slice A4 x.f4.length c4],rfl,rfl,⟨[.slice A2 x.f2.length c2],[.slice A3 x.f3.length c3,.slice A4 x.f4.length c4],rfl,⟨A2,c2,rfl,l2,g2⟩,⟨[.slice A3 x.f3.length c3],[.slice A4 x.f4.length c4],rfl,⟨A3,c3,rfl,l3,g3⟩,⟨A4,c4,rfl,l4,r4⟩⟩⟩⟩⟩⟩
theorem jb {W:World} {ok:Nat→Prop} {x:S30} {cs:List Value} (h:Kd.FK k30 W ok x cs): ∃ A2 c2 A3 c3 A4 c4,cs= [.bool x.f0,.bool x.f1,.slice A2 x.f2.length c2,.slice A3 x.f3.length c3,.slice A4 x.f4.length c4]∧x.f2.length≤c2∧Kd.F mg W ok A2 x.f2.length x.f2∧x.f3.length≤c3∧Kd.F (Kd.int .i64) W ok A3 x.f3.length x.f3∧x.f4.length≤c4∧Kd.F k30 W ok A4 x.f4.length x.f4:=by
 obtain ⟨A2,c2,A3,c3,A4,c4,rfl,l2,_,l3,_,l4,_⟩:=oJ (Kd.si h)
 exact ⟨A2,c2,A3,c3,A4,c4,rfl,l2,(fun W' hW=>by obtain ⟨A2_,c2_,A3_,c3_,A4_,c4_,he,l2_,g2_,l3_,g3_,l4_,g4_⟩:=oJ (h W' hW);injection (Option.some.inj (show some (Value.slice A2 x.f2.length c2)=some (Value.slice A2_ x.f2.length c2_) from congrArg (fun l=>l[2]?) he)) with ha_ _ _;rw [ha_];exact g2_),l3,(fun W' hW=>by obtain ⟨A2_,c2_,A3_,c3_,A4_,c4_,he,l2_,g2_,l3_,g3_,l4_,g4_⟩:=oJ (h W' hW);injection (Option.some.inj (show some (Value.slice A3 x.f3.length c3)=some (Value.slice A3_ x.f3.length c3_) from congrArg (fun l=>l[3]?) he)) with ha_ _ _;rw [ha_];exact g3_),l4,(fun W' hW=>by obtain ⟨A2_,c2_,A3_,c3_,A4_,c4_,he,l2_,g2_,l3_,g3_,l4_,g4_⟩:=oJ (h W' hW);injection (Option.some.inj (show some (Value.slice A4 x.f4.length c4)=some (Value.slice A4_ x.f4.length c4_) from congrArg (fun l=>l[4]?) he)) with ha_ _ _;rw [ha_];exact g4_)⟩
theorem pQ (W:World) (ok:Nat→Prop) (x:S30) {A2:Option Addr} {c2:Nat} (l2:x.f2.length≤c2) (g2:Kd.F mg W ok A2 x.f2.length x.f2) {A3:Option Addr} {c3:Nat} (l3:x.f3.length≤c3) (g3:Kd.F (Kd.int .i64) W ok A3 x.f3.length x.f3) {A4:Option Addr} {c4:Nat} (l4:x.f4.length≤c4) (g4:Kd.F k30 W ok A4 x.f4.length x.f4):Kd.FK k30 W ok x [.bool x.f0,.bool x.f1,.slice A2 x.f2.length c2,.slice A3 x.f3.length c3,.slice A4 x.f4.length c4]:=fun W2 hW=>Pf W2 x l2 (g2 W2 hW) l3 (g3 W2 hW) l4 (g4 W2 hW)
def aZ (xs:List S30) (i:Int):S30:=xs.getD i.toNat z30
theorem yD {w:World} {A:Option Addr} {n:Nat} {xs:List S30} (h:Kd.C k30 w A n xs) (i:Int) (h0:0≤i) (h1:i<n): ∃ ad A2 c2 A3 c3 A4 c4,A=some ad∧w.cell? (ad.add (i.toNat*5))=some (.bool (aZ xs i).f0)∧w.cell? ⟨(ad.add (i.toNat*5)).block,(ad.add (i.toNat*5)).off+1,none⟩=some (.bool (aZ xs i).f1)∧w.cell? ⟨(ad.add (i.toNat*5)).block,(ad.add (i.toNat*5)).off+2,none⟩=some (.slice A2 (aZ xs i).f2.length c2)∧w.cell? ⟨(ad.add (i.toNat*5)).block,(ad.add (i.toNat*5)).off+3,none⟩=some (.slice A3 (aZ xs i).f3.length c3)∧w.cell? ⟨(ad.add (i.toNat*5)).block,(ad.add (i.toNat*5)).off+4,none⟩=some (.slice A4 (aZ xs i).f4.length c4)∧(aZ xs i).f2.length≤c2∧mg.C w A2 (aZ xs i).f2.length (aZ xs i).f2∧(aZ xs i).f3.length≤c3∧(Kd.int .i64).C w A3 (aZ xs i).f3.length (aZ xs i).f3∧(aZ xs i).f4.length≤c4∧k30.C w A4 (aZ xs i).f4.length (aZ xs i).f4:=by
 obtain ⟨ad,c,e,_,hK,hc0⟩:=Kd.uK h z30 i h0 h1
 have hc: ∀ j u,c[j]?=some u→w.cell? (ad.add (i.toNat*5+j))=some u:=hc0
 obtain ⟨A2,c2,A3,c3,A4,c4,rfl,l2,g2,l3,g3,l4,g4⟩:=oJ hK
 exact ⟨ad,A2,c2,A3,c3,A4,c4,e,hc 0 _ rfl,by rw [←iK _ _ 1 (by omega)];exact hc 1 _ rfl,by rw [←iK _ _ 2 (by omega)];exact hc 2 _ rfl,by rw [←iK _ _ 3 (by omega)];exact hc 3 _ rfl,by rw [←iK _ _ 4 (by omega)];exact hc 4 _ rfl,l2,g2,l3,g3,l4,g4⟩
structure Rn where
 f0:(List Int)
 f1:(List Int)
def Sj:Kd Rn:=Kd.iso (Kd.pair (Kd.slice 2 (Kd.int .i64)) (Kd.slice 45 (Kd.int .i64))) (fun x:Rn=>(x.f0,x.f1))
structure Rz where
 f0:Bool
 f1:Bool
 f2:(List fF)
 f3:Rn
def Sm:Kd Rz:=Kd.iso (Kd.pair Kd.bool (Kd.pair Kd.bool (Kd.pair (Kd.slice 121 mg) Sj))) (fun x:Rz=>(x.f0,x.f1,x.f2,x.f3))
structure ze where
 f0:Rz
 f1:(List Int)
 f2:Int
 f3:Bool
 f4:Int
 f5:Bool
def RH:Kd ze:=Kd.iso (Kd.pair Sm (Kd.pair (Kd.slice 45 (Kd.int .i64)) (Kd.pair (Kd.int .i64) (Kd.pair Kd.bool (Kd.pair (Kd.int .u32) Kd.bool))))) (fun x:ze=>(x.f0,x.f1,x.f2,x.f3,x.f4,x.f5))
end Go.Proofs.YtmnjjdeaccgjlaaGreat.PPutSplits
namespace Go.Proofs.YtmnjjdeaccgjlaaGreat.Tower
open Go Go.RowKit Go.Proofs.YtmnjjdeaccgjlaaGreatW.PrintWords Go.Proofs.YtmnjjdeaccgjlaaGreatW.PrintLast Go.Proofs.YtmnjjdeaccgjlaaGreatW.PrintMore Go.Proofs.YtmnjjdeaccgjlaaGreat.Own Go.Proofs.YtmnjjdeaccgjlaaGreat.PPutSplits
abbrev Pr2:=fF
abbrev kP:=mg
abbrev Sh:=S30
abbrev kSh:=k30
abbrev zSh:=z30
theorem DI:(Tryz.prog.info? 30).map (fun i=>(i.zero,i.size,i.bytes))=some (some (.agg #[(.bool false),(.bool false),(.slice none 0 0),(.slice none 0 0),(.slice none 0 0)]),5,80):=by kernel_rfl
section
variable {w:World}
theorem NU {α:Type} {d:Kd α} {g:Nat} {cs:List Value} {t:Nat} {p:α} {ok:Nat→Prop} (hb:w.heap[g]?=some (.cells cs.toArray t (0,0))) (hk:d.FK w ok p cs):d.F w (fun k=>k=g∨ok k) (some ⟨g,0,none⟩) 1 [p]:=by
 intro W hW
 have hg:W.heap[g]?=some (.cells cs.toArray t (0,0)):=(hW g (.inl rfl) (bH hb)).trans hb
 refine ⟨rfl,by omega,fun _=>⟨⟨g,0,none⟩,rfl,fun j q hq=>?_⟩⟩
 have hj:j=0:=by
  rcases Nat.eq_zero_or_pos j with h | h
  ·exact h
  ·rw [List.getElem?_eq_none (by simp;omega)] at hq;cases hq
 subst hj
 injection hq with hq
 subst hq
 have hK:d.K W p cs:=hk W (fun k hk1 hlt=>hW k (.inr hk1) hlt)
 refine ⟨cs,d.K_len hK,hK,fun i u hu=>?_⟩
 have hil:=(List.getElem?_eq_some_iff.1 hu).1
 have:=af hg i
 rw [Nat.zero_mul,Nat.zero_add,ic,Nat.zero_add,this]
 simpa using hu
end
mutual
def mW:Sh→Nat
 | ⟨_,_,_,_,kids⟩=>1+kV kids
def kV:List Sh→Nat
 | []=>0
 | k::r=>mW k+kV r
end
mutual
def jI:Sh→Nat
 | ⟨_,_,_,_,kids⟩=>iV kids
def iV:List Sh→Nat
 | []=>0
 | k::r=>max (jI k+1) (iV r)
end
mutual
def rA:Sh→Prop
 | ⟨_,_,ps,ks,kids⟩=>ps.length≤60∧ks.length≤60∧kids.length≤60∧lQ kids
def lQ:List Sh→Prop
 | []=>True
 | k::r=>rA k∧lQ r
end
theorem mP (s:Sh):mW s=1+kV s.f4:=by cases s;rw [mW]
theorem iq (s:Sh):jI s=iV s.f4:=by cases s;rw [jI]
theorem jT (s:Sh):rA s↔s.f2.length≤60∧s.f3.length≤60∧s.f4.length≤60∧lQ s.f4:=by cases s;rw [rA]
def fK (l:List Pr2):List (Int × Int):=l.map fun q=>(q.f0,q.f1)
theorem sQ (k:Nat) (h:k≤1000000):wrap64 ((k:Int)+1)=((k+1:Nat):Int):=by unfold wrap64;omega
theorem yG {k n:Nat} (hk:k<n) (h:k≤1000000):n - (intOf (Value.int .i64 (wrap64 ((k:Int)+1)))).toNat<n - (intOf (Value.int .i64 (k:Int))).toNat:=by
 rw [sQ k h,show intOf (Value.int .i64 ((k+1:Nat):Int))=((k+1:Nat):Int) from rfl,show intOf (Value.int .i64 (k:Int))=(k:Int) from rfl,Int.toNat_natCast,Int.toNat_natCast]
 omega
theorem fq (l:List Pr2):(fK l).length=l.length:=List.length_map _
def qA (s:Sh) (ws:List Int):Nd:=⟨!s.f0,s.f1,fK s.f2,s.f3,ws⟩
def zH (n:Nd) (a:Ar):Option (Int × Ar):=
 if a.slots.length<999999∧n.pairs.length<1000000∧n.keys.length<1000000∧n.ways.length<1000000 then (a.alloc n).map fun q=>(q.1.1,q.2) else none
theorem kz {n:Nd} {a a1:Ar} {r:Int} (h:zH n a=some (r,a1)):a.slots.length<999999∧n.pairs.length<1000000∧n.keys.length<1000000∧n.ways.length<1000000:=by
 unfold zH at h
 split at h
 ·assumption
 ·cases h
theorem AQ {n:Nd} {a a1:Ar} {r:Int} (h:zH n a=some (r,a1)): ∃ b,a.alloc n=some ((r,b),a1):=by
 unfold zH at h
 split at h
 ·cases hx:a.alloc n with
  | none=>rw [hx] at h;cases h
  | some q=>
   obtain ⟨⟨r1,b⟩,a2⟩:=q
   rw [hx] at h
   injection h with h
   injection h with h1 h2
   subst h1
   subst h2
   exact ⟨b,rfl⟩
 ·cases h
mutual
def rP:Sh→Ar→Option (Int × Ar)
 | ⟨l,t,ps,ks,kids⟩,a=>(pU kids a).bind fun q=>zH (qA ⟨l,t,ps,ks,kids⟩ q.1) q.2
def pU:List Sh→Ar→Option (List Int × Ar)
 | [],a=>some ([],a)
 | k::r,a=>(rP k a).bind fun q=>(pU r q.2).bind fun p=>some (q.1::p.1,p.2)
end
theorem Br (s:Sh) (a:Ar):rP s a=(pU s.f4 a).bind fun q=>zH (qA s q.1) q.2:=by
 cases s
 rw [rP]
theorem Du {k:Sh} {r:List Sh} {a a1:Ar} {ws:List Int} (h:pU (k::r) a=some (ws,a1)): ∃ x ax ws1,rP k a=some (x,ax)∧pU r ax=some (ws1,a1)∧ws=x::ws1:=by
 rw [pU] at h
 cases h1:rP k a with
 | none=>rw [h1] at h;cases h
 | some q=>
  obtain ⟨x,ax⟩:=q
  rw [h1,Option.bind_some] at h
  cases h2:pU r ax with
  | none=>rw [h2] at h;cases h
  | some p=>
   obtain ⟨ws1,a2⟩:=p
   rw [h2,Option.bind_some] at h
   injection h with h
   injection h with h h3
   subst h3
   exact ⟨x,ax,ws1,rfl,h2,h.symm⟩
theorem Qk {s k:Sh} (h:k∈s.f4):SizeOf.sizeOf k<SizeOf.sizeOf s:=by
 have h1:=List.sizeOf_lt_of_mem h
 cases s
 simp only at h1
 simp only [S30.mk.sizeOf_spec]
 omega
theorem Qb {w:World} {ok:Nat→Prop} {A:Option Addr} {n:Nat} {l:List Pr2} (h:kP.F w ok A n l):eT.F w ok A n (fK l):=Kd.OC h (fun W hC=>⟨by rw [fq];exact hC.1,hC.2.1,fun hp=>by
 obtain ⟨ad,e,hc⟩:=hC.2.2 hp
 refine ⟨ad,e,fun j q hq=>?_⟩
 unfold fK at hq
 rw [List.getElem?_map] at hq
 cases hx:l[j]? with
 | none=>rw [hx] at hq;cases hq
 | some x=>
  rw [hx] at hq
  injection hq with hq
  subst hq
  exact hc j x hx⟩)
theorem OG {D:Nat→Prop} {s:Sh} {ws:List Int} {A2 A3 Ay:Option Addr} {c2 c3 cy:Nat} {w:World} (h2:s.f2.length≤c2) (F2:kP.F w D A2 s.f2.length s.f2) (h3:s.f3.length≤c3) (F3:(Kd.int .i64).F w D A3 s.f3.length s.f3) (h4:ws.length≤cy) (F4:(Kd.int .i64).F w D Ay ws.length ws):
  NdF D (qA s ws) (.agg #[.bool (!s.f0),.bool s.f1,.slice A2 s.f2.length c2,.slice A3 s.f3.length c3,.slice Ay ws.length cy]) w:=
 ⟨A2,c2,A3,c3,Ay,cy,by show _=Value.agg #[_,_,.slice A2 (fK s.f2).length c2,_,_];rw [fq];rfl,by show (fK s.f2).length≤c2;rw [fq];exact h2,h3,h4,by show eT.F w D A2 (fK s.f2).length (fK s.f2);rw [fq];exact Qb F2,F3,F4⟩
theorem Dw {ok ok1:Nat→Prop} {b5 base:Nat} {w w1:World} {v:Value} {xs:List Int} (h:(Kd.int .i64).R 45 w base (fun k=> ¬ ok k∧k≠b5) v xs) (m:Moves ok ok1 w w1):(Kd.int .i64).R 45 w1 base (fun k=> ¬ ok1 k∧k≠b5) v xs:=
 Kd.bC (Kd.dG (Kd.bR h) (fun k hk hlt=>m.block k hlt hk.1.1)) (fun k hk=>⟨fun h1=>(m.fresh k h1).elim hk.1.1 (fun h2=>by have:=hk.2.2.1;omega),hk.1.2⟩)
theorem Dj {ok:Nat→Prop} {b5 base:Nat} {w:World} {v:Value} {xs:List Int} (h:(Kd.int .i64).R 45 w base (fun k=> ¬ ok k∧k≠b5) v xs):(Kd.int .i64).R 45 w base (fun k=>(¬ ok k∧k≠b5)∧k<w.heap.size) v xs:=Kd.bC (Kd.bR h) (fun k hk=>⟨hk.1,hk.2.2.1⟩)
def nbO (l t:Bool) (v2 v3 v4:Value):Obj:= .cells #[.bool l,.bool t,v2,v3,v4] 157 (0,0)
def Ls:Bool × List (List Nat × List Nat):=(true,[([],[]),([0],[0]),([1],[1]),([],[]),([],[]),([3,4],[3,4]),([5],[5]),([2,6,5],[2,6]),([0,1,2,3,4,5,6,7],[]),([8,0,1,2,3,4,5,6,7],[8]),([9,7,7,0,1,2,3,4,5,6,7],[7,9])])
def Pv:List Nat:= [0,1,3,0,0,24,56,127,255,511,1023]
theorem Ju:gJ .any (opsOf Tryz.f112 5)=Ls:=by kernel_rfl
theorem Gl:bI Ls.2 Pv=true:=by kernel_rfl
theorem FO (N:Nat) (ih: ∀ m,m<N→ ∀ (s:Sh),SizeOf.sizeOf s≤m→ ∀ (pA:Nat) (ok:Nat→Prop) (a a1:Ar) (r:Int) (w:World) (cs:List Value),bT ok pA a w→kSh.FK w (fun k=> ¬ ok k) s cs→rP s a=some (r,a1)→Calls Tryz.prog 112 #[.pointer (some ⟨pA,0,none⟩),.agg cs.toArray] w (fun e w1=> ∃ ok1,e= .returned (.int .i64 r)∧bT ok1 pA a1 w1∧Moves ok ok1 w w1))
  (s:Sh) (hs:SizeOf.sizeOf s≤N) (pA:Nat) (ok:Nat→Prop) (a a1:Ar) (r:Int) (w:World) (cs:List Value) (h:bT ok pA a w) (hf:kSh.FK w (fun k=> ¬ ok k) s cs) (hr:rP s a=some (r,a1)):
  Calls Tryz.prog 112 #[.pointer (some ⟨pA,0,none⟩),.agg cs.toArray] w (fun e w1=> ∃ ok1,e= .returned (.int .i64 r)∧bT ok1 pA a1 w1∧Moves ok ok1 w w1):=by
 rw [Br] at hr
 obtain ⟨q,hq,hr⟩:=Option.bind_eq_some_iff.1 hr
 obtain ⟨ws,aE⟩:=q
 obtain ⟨A2,c2,A3,c3,A4,c4,rfl,l2,F2,l3,F3,l4,F4⟩:=jb hf
 have HQ:=Am_ hq
 have HR:=Am_ hr
 have HF:=Am_ (And.intro l2 (And.intro F2 (And.intro l3 (And.intro F3 (And.intro l4 F4)))))
 have HS:=Am_ hs
 have HL:=Am_ (fun k hk=>h.lt k hk)
 have hA1:=(h.step (w1:=w.alloc (.cells #[.bool s.f0,.bool s.f1,.slice A2 s.f2.length c2,.slice A3 s.f3.length c3,.slice A4 s.f4.length c4] 30)) (by simp) (fun k _ hk=>Below.heap_alloc _ _ _ hk))
 have hX1:=Mine.new (ok:=ok) (fun k hk=>h.lt k hk) (.cells #[.bool s.f0,.bool s.f1,.slice A2 s.f2.length c2,.slice A3 s.f3.length c3,.slice A4 s.f4.length c4] 30)
 have HX1:=Am_ hX1
 have HA1:=Am_ hA1
 have HM1:=Am_ ((Moves.refl ok w).alloc (.cells #[.bool s.f0,.bool s.f1,.slice A2 s.f2.length c2,.slice A3 s.f3.length c3,.slice A4 s.f4.length c4] 30))
 clear h hf hq hr l2 F2 l3 F3 l4 F4 hs hA1 hX1
 go_enter Tryz.func112,Tryz.ntmps112
 go_upto_region 1 with fail
 generalize w.alloc (.cells #[.bool s.f0,.bool s.f1,.slice A2 s.f2.length c2,.slice A3 s.f3.length c3,.slice A4 s.f4.length c4] 30)=w1 at HX1 HA1 HM1 ⊢
 have y0:=(af HX1.out.1 0).trans (rfl:_=some (Value.bool s.f0))
 have y1:=(af HX1.out.1 1).trans (rfl:_=some (Value.bool s.f1))
 have y2:=(af HX1.out.1 2).trans (rfl:_=some (Value.slice A2 s.f2.length c2))
 have y3:=(af HX1.out.1 3).trans (rfl:_=some (Value.slice A3 s.f3.length c3))
 have y4:=(af HX1.out.1 4).trans (rfl:_=some (Value.slice A4 s.f4.length c4))
 go_upto_region 2 with fail
 have HB2:=Am_ (Mine.new (ok:=ok) (fun k hk=>HA1.out.lt k hk) (.cells #[.bool (!s.f0),.bool s.f1,.slice A2 s.f2.length c2,.slice A3 s.f3.length c3,.slice none 0 0] 157))
 have HX2:=Am_ (HX1.out.alloc (.cells #[.bool (!s.f0),.bool s.f1,.slice A2 s.f2.length c2,.slice A3 s.f3.length c3,.slice none 0 0] 157))
 have HA2:=Am_ (HA1.out.step (w1:=w1.alloc (.cells #[.bool (!s.f0),.bool s.f1,.slice A2 s.f2.length c2,.slice A3 s.f3.length c3,.slice none 0 0] 157)) (by simp) (fun k _ hk=>Below.heap_alloc _ _ _ hk))
 have HM2:=Am_ (HM1.out.alloc (.cells #[.bool (!s.f0),.bool s.f1,.slice A2 s.f2.length c2,.slice A3 s.f3.length c3,.slice none 0 0] 157))
 have hsz1:=HM1.out.size
 clear HX1 HA1 HM1 y0 y1 y2 y3 y4
 generalize w1.alloc (.cells #[.bool (!s.f0),.bool s.f1,.slice A2 s.f2.length c2,.slice A3 s.f3.length c3,.slice none 0 0] 157)=w2 at HB2 HX2 HA2 HM2 ⊢
 generalize hb5:w1.heap.size=b5 at HB2 hsz1 ⊢
 have y4:=(af HX2.out.1 4).trans (rfl:_=some (Value.slice A4 s.f4.length c4))
 have H5:=Am_ hsz1
 clear hb5 hsz1
 go_wp2_with fail
 go_loopw [24] (fun v24 wr=> ∃ okc ac acc ks i v4 wsr,v24= .int .i64 (i:Nat)∧av (s.f4=(s.f4.take i)++ks∧i+ks.length=s.f4.length∧acc.length=i∧pU ks ac=some (wsr,aE)∧acc++wsr=ws)∧av (bT okc pA ac wr)∧av (Moves ok okc w wr)∧av (Mine okc wr b5 (nbO (!s.f0) s.f1 (.slice A2 s.f2.length c2) (.slice A3 s.f3.length c3) v4))∧av ((Kd.int .i64).R 45 wr w.heap.size (fun k=> ¬ okc k∧k≠b5) v4 acc)) (fun v24 _=>s.f4.length - (intOf v24).toNat)
 case atStart=>exact ⟨ok,a,[],s.f4,0,.slice none 0 0,ws,rfl,⟨by simp,by simp,rfl,HQ.out,rfl⟩,HA2,HM2,HB2,⟨Kd.gY _ _ _ _ _⟩⟩
 case round=>
  obtain ⟨okc,ac,acc,ks,i,v4,wsr,rfl,HT,A5,M5,B5,R5⟩:=hrel
  clear HA2 HM2 HB2 HX2
  cases ks with
  | nil=>
   obtain ⟨e1,e2,e3,e4,e5⟩:=HT.out
   rw [List.length_nil,Nat.add_zero] at e2
   rw [pU] at e4
   injection e4 with e4
   injection e4 with ew ea
   rw [←ew,List.append_nil] at e5
   subst e5
   subst ea
   obtain ⟨Ay,cy,hv4⟩:=Kd.aW R5.out
   subst hv4
   have hly:=(Kd.bF R5.out).2.1
   obtain ⟨b,hal⟩:=AQ HR.out
   have HAL:=Am_ hal
   have HNF:=Am_ (OG (s:=s) HF.out.1 (ig HF.out.2.1 M5.out) HF.out.2.2.1 (ig HF.out.2.2.2.1 M5.out) hly (Kd.bP (Kd.R_F R5.out) (fun k hk=>hk.1)))
   have y0:=(af B5.out.1 0).trans (rfl:_=some (Value.bool (!s.f0)))
   have y1:=(af B5.out.1 1).trans (rfl:_=some (Value.bool s.f1))
   have y2:=(af B5.out.1 2).trans (rfl:_=some (Value.slice A2 s.f2.length c2))
   have y3:=(af B5.out.1 3).trans (rfl:_=some (Value.slice A3 s.f3.length c3))
   have y4:=(af B5.out.1 4).trans (rfl:_=some (Value.slice Ay acc.length cy))
   have d5:decide ((i:Int)<(s.f4.length:Int))=false:=decide_eq_false (by omega)
   have d6:decide (i<s.f4.length)=false:=decide_eq_false (by omega)
   clear e1 e2 e3 ew hly hal HT B5 R5
   go_wp2_with (go_at_call 93;refine (kU (qA s acc) _ _ A5.out (kz HR.out).1 HNF.out ⟨(kz HR.out).2.1,(kz HR.out).2.2.1,(kz HR.out).2.2.2⟩ HAL.out).mono ?_;rintro e w9 ⟨rfl,ok9,hA9,hM9⟩;have A9:=Am_ hA9;have M9:=Am_ (M5.out.trans hM9);clear hA9 hM9)
   go_ret
   exact ⟨ok9,rfl,A9.out,M9.out⟩
  | cons kd ks=>
   obtain ⟨e1,e2,e3,e4,e5⟩:=HT.out
   rw [List.length_cons] at e2
   obtain ⟨x,ax,ws1,hx1,hx2,hx3⟩:=Du e4
   have hkd:s.f4.getD i zSh=kd:=by
    have h1:s.f4[i]?=some kd:=by rw [e1,List.getElem?_append_right (by rw [List.length_take,Nat.min_eq_left (by omega)];omega)];rw [List.length_take,Nat.min_eq_left (by omega),Nat.sub_self];rfl
    rw [List.getD_eq_getElem?_getD,h1];rfl
   have hmem:kd∈s.f4:=by rw [e1];exact List.mem_append_right _ List.mem_cons_self
   have HTX:=Am_ hx1
   have HTY:=Am_ hx2
   have HWS:av (acc++ [x]++ws1=ws):=⟨by rw [←e5,hx3,List.append_assoc];rfl⟩
   have HLT:av (SizeOf.sizeOf kd<N):=⟨Nat.lt_of_lt_of_le (Qk hmem) HS.out⟩
   have hF5:=Kd.fM (ig HF.out.2.2.2.2.2 M5.out)
   have HF5:=Am_ (ig HF.out.2.2.2.2.2 M5.out)
   obtain ⟨a4,cd,ha4,hcl,hfk,hcc,_⟩:=Kd.GJ HF5.out zSh (i:Int) (by omega) (by omega)
   subst ha4
   rw [Int.toNat_natCast,hkd] at hfk
   rw [Int.toNat_natCast] at hcc
   obtain ⟨B2,d2,B3,d3,B4,d4,rfl,_⟩:=jb hfk
   have HFK:=Am_ hfk
   have q0:=hcc 0 _ rfl
   have q1:=hcc 1 _ rfl
   have q2:=hcc 2 _ rfl
   have q3:=hcc 3 _ rfl
   have q4:=hcc 4 _ rfl
   have hI:=(show (kSh).sz=5 from rfl)
   rw [hI] at q0 q1 q2 q3 q4
   rw [iK _ _ 1 (by omega)] at q1
   rw [iK _ _ 2 (by omega)] at q2
   rw [iK _ _ 3 (by omega)] at q3
   rw [iK _ _ 4 (by omega)] at q4
   rw [Nat.add_zero] at q0
   have d5:decide ((i:Int)<(s.f4.length:Int))=true:=decide_eq_true (by omega)
   have d6:decide (i<s.f4.length)=true:=decide_eq_true (by omega)
   have i0:(0:Int)≤(i:Int):=by omega
   have i1:(i:Int)<(s.f4.length:Int):=by omega
   have HA60:av (acc.length≤1000000):=⟨by have h1:ws.length<1000000:=(kz HR.out).2.2.2;rw [←e5,List.length_append] at h1;omega⟩
   clear e1 e2 e3 e4 e5 hx1 hx2 hx3 hkd hmem hI
   go_upto_region 5 with fail
   have X6:=Am_ (Mine.new (ok:=okc) (fun k hk=>A5.out.lt k hk) (.cells #[.bool kd.f0,.bool kd.f1,.slice B2 kd.f2.length d2,.slice B3 kd.f3.length d3,.slice B4 kd.f4.length d4] 30))
   have A6:=Am_ (A5.out.step (w1:=wr.alloc (.cells #[.bool kd.f0,.bool kd.f1,.slice B2 kd.f2.length d2,.slice B3 kd.f3.length d3,.slice B4 kd.f4.length d4] 30)) (by simp) (fun k _ hk=>Below.heap_alloc _ _ _ hk))
   have L6:=Am_ ((Moves.refl okc wr).alloc (.cells #[.bool kd.f0,.bool kd.f1,.slice B2 kd.f2.length d2,.slice B3 kd.f3.length d3,.slice B4 kd.f4.length d4] 30))
   have M6:=Am_ (M5.out.alloc (.cells #[.bool kd.f0,.bool kd.f1,.slice B2 kd.f2.length d2,.slice B3 kd.f3.length d3,.slice B4 kd.f4.length d4] 30))
   have B6:=Am_ (B5.out.alloc (.cells #[.bool kd.f0,.bool kd.f1,.slice B2 kd.f2.length d2,.slice B3 kd.f3.length d3,.slice B4 kd.f4.length d4] 30))
   have R6:=Am_ (Kd.dD R5.out (.cells #[.bool kd.f0,.bool kd.f1,.slice B2 kd.f2.length d2,.slice B3 kd.f3.length d3,.slice B4 kd.f4.length d4] 30))
   clear q0 q1 q2 q3 q4 d5 d6 i0 i1 A5 M5 B5 R5 hcc hcl hfk hF5 HF5
   generalize wr.alloc (.cells #[.bool kd.f0,.bool kd.f1,.slice B2 kd.f2.length d2,.slice B3 kd.f3.length d3,.slice B4 kd.f4.length d4] 30)=w6 at X6 A6 L6 M6 B6 R6 ⊢
   generalize wr.heap.size=b7 at X6 ⊢
   have HC:=Am_ (show w6.cell? ⟨b5,4,none⟩=some v4∧w6.cell? ⟨b7,0,none⟩=some (.bool kd.f0)∧w6.cell? ⟨b7,1,none⟩=some (.bool kd.f1)∧w6.cell? ⟨b7,2,none⟩=some (.slice B2 kd.f2.length d2)∧w6.cell? ⟨b7,3,none⟩=some (.slice B3 kd.f3.length d3)∧w6.cell? ⟨b7,4,none⟩=some (.slice B4 kd.f4.length d4) from ⟨(af (B6.out.1) 4).trans rfl,(af (X6.out.1) 0).trans rfl,(af (X6.out.1) 1).trans rfl,(af (X6.out.1) 2).trans rfl,(af (X6.out.1) 3).trans rfl,(af (X6.out.1) 4).trans rfl⟩)
   refine bK (n:=11) (S:=fun w'=>w'.cell? ⟨b5,4,none⟩=some v4∧w'.cell? ⟨b7,0,none⟩=some (.bool kd.f0)∧w'.cell? ⟨b7,1,none⟩=some (.bool kd.f1)∧w'.cell? ⟨b7,2,none⟩=some (.slice B2 kd.f2.length d2)∧w'.cell? ⟨b7,3,none⟩=some (.slice B3 kd.f3.length d3)∧w'.cell? ⟨b7,4,none⟩=some (.slice B4 kd.f4.length d4)) (ds:= [10]) (by kernel_rfl) rfl Ju Gl HC.out (fun hHeld HT_ HW_=>?_)
   have A6:=Am_ (A6.out.step (w1:=w6.drew) (Nat.le_refl _) (fun _ _ _=>rfl))
   have M6:=Am_ M6.out.drew
   have L6:=Am_ L6.out.drew
   have B6:=Am_ (B6.out.moves (Moves.drew (Moves.refl _ _)))
   have X6:=Am_ (X6.out.moves (Moves.drew (Moves.refl _ _)))
   have R6:=Am_ (Kd.fG R6.out)
   clear HC
   generalize w6.drew=w8 at A6 L6 M6 B6 X6 R6 hHeld ⊢
   refine gy [(0,some 28),(1,some 29),(2,some 30),(3,some 31),(4,some 32)] ?_
   iterate 2 (refine gG (v:=?_) (a':=?_) HT_ (by kernel_rfl) rfl rfl (fun _ _ _ h=>h) (Or.inl ⟨by rfl,?_⟩) ?_ ?_;rotate_left;(intro w';go_simp;with_reducible rfl);rotate_left;(simp only [Act.put,p1_,p2_,p3_,aG,aH];rfl))
   iterate 3 (refine jW (v:=?_) (a':=?_) HT_ HW_ (by kernel_rfl) rfl rfl (fun _ _ _ h=>h) hHeld (Or.inl ⟨by rfl,?_⟩) ?_ ?_;rotate_left;(rintro w' ⟨s0,s1,s2,s3,s4,s5⟩;go_simp;with_reducible rfl);rotate_left;(simp only [Act.put,p1_,p2_,p3_,aG,aH];rfl))
   refine bG ?_
   refine dI (i:=5) (some 33) HT_ (by kernel_rfl) rfl rfl (by decide) (fun K_ hK=>?_)
   refine call_ 112 #[.pointer (some ⟨pA,0,none⟩),.agg #[.bool kd.f0,.bool kd.f1,.slice B2 kd.f2.length d2,.slice B3 kd.f3.length d3,.slice B4 kd.f4.length d4]] (by rfl) rfl ?hrun5 ?_
   (case hrun5=>first | (go_simp;done) | (go_simp;exact enters Tryz.func112 (by kernel_rfl) rfl _ _))
   refine (ih _ HLT.out kd (Nat.le_refl _) pA okc ac ax x _ _ A6.out (mI HFK.out L6.out) HTX.out).mono ?_
   rintro e w9 ⟨ok9,rfl,hA9,hM9⟩
   have A9:=Am_ hA9
   have M9:=Am_ (M6.out.trans hM9)
   have B9:=Am_ (B6.out.moves hM9)
   have X9:=Am_ (X6.out.moves hM9)
   have R9:=Am_ (Dw R6.out hM9)
   clear hA9 hM9 R6
   refine ⟨_,rfl,?_⟩
   refine hK.out _ _ ⟨(af (B9.out.1) 4).trans rfl,(af (X9.out.1) 0).trans rfl,(af (X9.out.1) 1).trans rfl,(af (X9.out.1) 2).trans rfl,(af (X9.out.1) 3).trans rfl,(af (X9.out.1) 4).trans rfl⟩ (fun hHeld=>?_)
   clear hK K_
   refine cK (a':=?_) ?_ ?_
   rotate_left; · show Act.put _ (some 33) _=_;simp only [Act.put,p1_,p2_,p3_,aG,aH];rfl
   refine dI (i:=6) (some 34) HT_ (by kernel_rfl) rfl rfl (by decide) (fun K_ hK=>?_)
   refine jD (v:= .slice (some ⟨w9.heap.size,0,none⟩) 1 1) (w1:=w9.alloc (.cells #[.int .i64 x] 45)) (by rfl) rfl (by go_simp) ?_
   have A10:=Am_ (A9.out.step (w1:=w9.alloc (.cells #[.int .i64 x] 45)) (by simp) (fun k _ hk=>Below.heap_alloc _ _ _ hk))
   have M10:=Am_ (M9.out.alloc (.cells #[.int .i64 x] 45))
   have B10:=Am_ (B9.out.alloc (.cells #[.int .i64 x] 45))
   have X10:=Am_ (X9.out.alloc (.cells #[.int .i64 x] 45))
   have R10:=Am_ (Kd.dD (Dj R9.out) (.cells #[.int .i64 x] 45))
   have hbx:=bU w9 (.cells #[.int .i64 x] 45)
   have N10:=Am_ (fun h=>Nat.lt_irrefl _ (A9.out.lt _ h): ¬ ok9 w9.heap.size)
   have hs9:=M9.out.size
   refine hK.out _ _ ⟨(af (B10.out.1) 4).trans rfl,(af (X10.out.1) 0).trans rfl,(af (X10.out.1) 1).trans rfl,(af (X10.out.1) 2).trans rfl,(af (X10.out.1) 3).trans rfl,(af (X10.out.1) 4).trans rfl⟩ (fun hHeld=>?_)
   clear hK K_
   refine cK (a':=?_) ?_ ?_
   rotate_left; · show Act.put _ (some 34) _=_;simp only [Act.put,p1_,p2_,p3_,aG,aH];rfl
   refine dI (i:=7) (some 35) HT_ (by kernel_rfl) rfl rfl (by decide) (fun K_ hK=>?_)
   generalize w9.alloc (.cells #[.int .i64 x] 45)=w10 at A10 M10 B10 X10 R10 hbx hHeld ⊢
   refine Kd.jQ (Kd.int .i64) (w0:=w10) w.heap.size (by rfl) (.tmp 30) (.tmp 34) 153 45 (.int .i64 0) 8 rfl Tryz.underlying153 (by kernel_rfl) rfl (by decide) (by omega) v4 acc [x] (some ⟨w9.heap.size,0,none⟩) 1 1 (fun k=>(¬ ok9 k∧k≠b5)∨w10.heap.size≤k) (fun _=>False) (by rfl) (by rfl) (Kd.bC R10.out (fun k hk=> .inl hk.1)) (Kd.fM (NU (d:=Kd.int .i64) (ok:=fun _=>False) (cs:= [.int .i64 x]) hbx (fun W _=>rfl))) (fun y cs h=>h) (fun _ hk=>hk.elim) (fun k hk=> .inr hk) (Below.refl _ _) M10.out.size (by have:=HA60.out;omega) ?_
   intro v1 w11 hR _ hg hat
   have hnb: ∀ k,v4.ownBlock=some k→ ¬ ok9 k∧k≠b5:=fun k hk=>(R10.out.1 k hk).1
   have hlt5:=bH B10.out.1
   have A11:=Am_ (A10.out.step hg.size (fun k hk hlt=>hg.block k hlt (fun e=>(hnb k e.symm).1 hk)))
   have M11:=Am_ (M10.out.grown hg (fun k hk=> .inr (Kd.jC R10.out k hk)))
   have B11:av (Mine ok9 w11 b5 (nbO (!s.f0) s.f1 (.slice A2 s.f2.length c2) (.slice A3 s.f3.length c3) v4)):=⟨⟨(hg.block b5 hlt5 (fun e=>(hnb b5 e.symm).2 rfl)).trans B10.out.1,B10.out.2⟩⟩
   have R11:=Am_ (Kd.bC hR (fun k hk=>hk.elim id (fun h=>⟨fun h1=>by have:=A10.out.lt k h1;omega,by omega⟩)):(Kd.int .i64).R 45 w11 w.heap.size (fun k=> ¬ ok9 k∧k≠b5) v1 (acc++ [x]))
   have X11:=Am_ ((hg.block b7 (bH X10.out.1) (fun e=>Kd.Ro R10.out X10.out.1 (by decide) e)).trans X10.out.1)
   obtain ⟨ad1,c1,hv1⟩:=Kd.IL R11.out (by simp)
   subst hv1
   clear A10 M10 hR hat hbx
   refine hK.out _ _ ⟨(af (B11.out.1) 4).trans rfl,(af (X11.out) 0).trans rfl,(af (X11.out) 1).trans rfl,(af (X11.out) 2).trans rfl,(af (X11.out) 3).trans rfl,(af (X11.out) 4).trans rfl⟩ (fun hHeld=>?_)
   clear hK K_
   refine cK (a':=?_) ?_ ?_
   rotate_left; · show Act.put _ (some 35) _=_;simp only [Act.put,p1_,p2_,p3_,aG,aH];rfl
   refine gy [(8,some 36),(9,some 37)] ?_
   iterate 2 (refine gG (v:=?_) (a':=?_) HT_ (by kernel_rfl) rfl rfl (fun _ _ _ h=>h) (Or.inl ⟨by rfl,?_⟩) ?_ ?_;rotate_left;(intro w';go_simp;with_reducible rfl);rotate_left;(simp only [Act.put,p1_,p2_,p3_,aG,aH];rfl))
   refine bG ?_
   have y4:=(af B11.out.1 4).trans (rfl:_=some v4)
   have z4:=ah B11.out.1 4
   refine dz (i:=10) none HT_ (by kernel_rfl) rfl rfl (by decide) (fun K_ hK=>?_)
   refine iJ (w1:=?_) (by rfl) rfl ?_ ?_
   rotate_left; · go_simp;rfl
   refine hK.out _ _ ?_
   clear hK K_
   refine dR (bM HT_.out (by kernel_rfl)) ?_
   have R12:av ((Kd.int .i64).R 45 (w11.setCell ⟨b5,4,none⟩ (.slice (some ad1) (acc.length+1) c1)) w.heap.size (fun k=> ¬ ok9 k∧k≠b5) (.slice (some ad1) (acc.length+1) c1) (acc++ [x])):=⟨by
    have h1:=Kd.Ry R11.out B11.out.1 (by decide) 4 (.slice (some ad1) (acc.length+1) c1)
    rw [show (acc++ [x]).length=acc.length+1 from by simp] at h1
    exact h1⟩
   have B12:=Am_ (B11.out.set 4 (.slice (some ad1) (acc.length+1) c1))
   have A12:=Am_ (A11.out.step (w1:=w11.setCell ⟨b5,4,none⟩ (.slice (some ad1) (acc.length+1) c1)) (by simp [World.setCell]) (fun k hk _=>Below.heap_setCell _ _ _ k (fun e=>B11.out.2 (by rw [show k=b5 from e] at hk;exact hk))))
   have M12:=Am_ (M11.out.set (p:=⟨b5,4,none⟩) (.inr H5.out) (.slice (some ad1) (acc.length+1) c1))
   have HT12:av (s.f4=s.f4.take (i+1)++ks∧i+1+ks.length=s.f4.length∧(acc++ [x]).length=i+1∧pU ks ax=some (ws1,aE)∧acc++ [x]++ws1=ws):=⟨by
    obtain ⟨e1,e2,e3,e4,e5⟩:=HT.out
    rw [List.length_cons] at e2
    refine ⟨?_,by omega,by rw [List.length_append,e3];rfl,HTY.out,HWS.out⟩
    have h1:s.f4.drop i=kd::ks:=by
     have:=congrArg (List.drop i) e1
     rw [List.drop_append_of_le_length (by rw [List.length_take];omega),List.drop_of_length_le (by rw [List.length_take];omega:(s.f4.take i).length≤i)] at this
     exact this
    have h2:s.f4.drop (i+1)=ks:=by rw [←List.drop_drop,h1];rfl
    rw [←h2,List.take_append_drop]⟩
   clear A11 M11 B11 R11 X11 hHeld y4 z4
   generalize w11.setCell ⟨b5,4,none⟩ (.slice (some ad1) (acc.length+1) c1)=w12 at R12 B12 A12 M12 ⊢
   have hi:=HT12.out.2.1
   go_wp2_with fail
   have hi2:i≤1000000:=by have:=HA60.out;have:=HT.out.2.2.1;omega
   exact ⟨⟨ok9,ax,acc++ [x],ks,i+1,_,ws1,by rw [sQ i hi2],HT12,A12,M12,B12,R12⟩,yG (by omega) hi2⟩
theorem Dc {pA:Nat} {ok:Nat→Prop} {a a1:Ar} {r:Int} {w:World} {cs:List Value} (s:Sh) (h:bT ok pA a w) (hf:kSh.FK w (fun k=> ¬ ok k) s cs) (hr:rP s a=some (r,a1)):
  Calls Tryz.prog 112 #[.pointer (some ⟨pA,0,none⟩),.agg cs.toArray] w (fun e w1=> ∃ ok1,e= .returned (.int .i64 r)∧bT ok1 pA a1 w1∧Moves ok ok1 w w1):=by
 suffices hh: ∀ N,∀ (s:Sh),SizeOf.sizeOf s≤N→ ∀ (pA:Nat) (ok:Nat→Prop) (a a1:Ar) (r:Int) (w:World) (cs:List Value),bT ok pA a w→kSh.FK w (fun k=> ¬ ok k) s cs→rP s a=some (r,a1)→Calls Tryz.prog 112 #[.pointer (some ⟨pA,0,none⟩),.agg cs.toArray] w (fun e w1=> ∃ ok1,e= .returned (.int .i64 r)∧bT ok1 pA a1 w1∧Moves ok ok1 w w1) from
  hh _ s (Nat.le_refl _) pA ok a a1 r w cs h hf hr
 intro N
 induction N using Nat.strongRecOn with
 | ind N ih=>exact fun s hs pA ok a a1 r w cs h hf hr=>FO N ih s hs pA ok a a1 r w cs h hf hr
def Cf (l:List (Int × Int)):List Pr2:=l.map fun q=>⟨q.1,q.2⟩
theorem kQ (l:List (Int × Int)):(Cf l).length=l.length:=List.length_map _
def shN (n:Nd) (kids:List Sh):Sh:=⟨!n.inner,n.tagged,Cf n.pairs,n.keys,kids⟩
def kJ (f:Int→Ar→Sh × Ar) (r:Int):Nat→Nat→Ar→List Sh × Ar
 | _,0,a=>([],a)
 | i,m+1,a=>((f (a.way r i).1 (a.way r i).2).1::(kJ f r (i+1) m (f (a.way r i).1 (a.way r i).2).2).1,(kJ f r (i+1) m (f (a.way r i).1 (a.way r i).2).2).2)
def iI:Nat→Int→Ar→Sh × Ar
 | 0,r,a=>(shN (a.look r).1 [],(a.look r).2)
 | d+1,r,a=>(shN (a.look r).1 (kJ (iI d) r 0 (a.look r).1.ways.length (a.look r).2).1,(kJ (iI d) r 0 (a.look r).1.ways.length (a.look r).2).2)
theorem qB (a:Ar) (r:Int):(a.look r).2.slots=a.slots:=by
 unfold Ar.look
 split
 ·rfl
 ·split<;>rfl
theorem sM (a:Ar) (r i:Int):(a.way r i).2.slots=a.slots:=by
 unfold Ar.way
 split
 ·rfl
 ·split<;>rfl
theorem Ar.Fits.same {a a1:Ar} (h:a.Fits) (e:a1.slots=a.slots):a1.Fits:=⟨by rw [e];exact h.slots,by rw [e];exact h.node⟩
theorem rT {f:Int→Ar→Sh × Ar} (hf: ∀ r a,(f r a).2.slots=a.slots) (r:Int): ∀ (m i:Nat) (a:Ar),(kJ f r i m a).2.slots=a.slots
 | 0,_,_=>rfl
 | m+1,i,a=>by
  show (kJ f r (i+1) m _).2.slots=_
  rw [rT hf r m,hf,sM]
theorem ug: ∀ (d:Nat) (r:Int) (a:Ar),(iI d r a).2.slots=a.slots
 | 0,r,a=>qB a r
 | d+1,r,a=>by
  show (kJ (iI d) r 0 _ _).2.slots=_
  rw [rT (ug d),qB]
theorem GQ (a:Ar) (r:Int) (h:a.Fits):(a.look r).1.ways.length<1000000:=by
 unfold Ar.look
 split
 ·show (0:Nat)<_;omega
 ·split
  ·show (0:Nat)<_;omega
  ·rename_i s hs
   exact (h.node _ s hs).2.2.1
theorem Qj {w:World} {ok:Nat→Prop} {A:Option Addr} {n:Nat} {l:List (Int × Int)} (h:eT.F w ok A n l):kP.F w ok A n (Cf l):=Kd.OC h (fun W hC=>⟨by rw [kQ];exact hC.1,hC.2.1,fun hp=>by
 obtain ⟨ad,e,hc⟩:=hC.2.2 hp
 refine ⟨ad,e,fun j q hq=>?_⟩
 unfold Cf at hq
 rw [List.getElem?_map] at hq
 cases hx:l[j]? with
 | none=>rw [hx] at hq;cases hq
 | some x=>
  rw [hx] at hq
  injection hq with hq
  subst hq
  exact hc j x hx⟩)
structure nZ (ok:Nat→Prop) (pA:Nat) (s:Sh) (a1:Ar) (w:World) (e:Ending) (w1:World):Prop where
 out: ∃ cs,e= .returned (.agg cs.toArray)∧kSh.FK w1 (fun k=>w.heap.size≤k) s cs
 ar:bT ok pA a1 w1
 moves:Moves ok ok w w1
def shB (n:Nd) (p k v4:Value):Obj:= .cells #[.bool (!n.inner),.bool n.tagged,p,k,v4] 30 (0,0)
def ndO (n:Nd) (p k y:Value):Obj:= .cells #[.bool n.inner,.bool n.tagged,p,k,y] 157 (0,0)
structure AX (ok:Nat→Prop) (pA:Nat) (w0:World) (b6 b7 b8:Nat) (n:Nd) (A3:Option Addr) (c3:Nat) (A4:Option Addr) (c4:Nat) (A5:Option Addr) (c5:Nat) (v4:Value) (acc:List Sh) (ac:Ar) (wr:World):Prop where
 x6:Mine ok wr b6 (.cells #[.bool false,.bool false,.slice none 0 0,.slice none 0 0,.slice none 0 0] 30 (0,0))
 x7:Mine ok wr b7 (ndO n (.slice A3 n.pairs.length c3) (.slice A4 n.keys.length c4) (.slice A5 n.ways.length c5))
 x8:Mine ok wr b8 (shB n (.slice A3 n.pairs.length c3) (.slice A4 n.keys.length c4) v4)
 ar:bT ok pA ac wr
 mv:Moves ok ok w0 wr
 row:Kd.N kSh 30 wr w0.heap.size (fun k=>b8<k) v4 acc
 l3:n.pairs.length≤c3
 f3:eT.F wr (fun k=>b6<k∧k<b7) A3 n.pairs.length n.pairs
 l4:n.keys.length≤c4
 f4:(Kd.int .i64).F wr (fun k=>b6<k∧k<b7) A4 n.keys.length n.keys
 o6:w0.heap.size≤b6
 o7:b6<b7
 o8:b7<b8
 lt: ∀ k,ok k→k<w0.heap.size
section
variable {ok:Nat→Prop} {pA:Nat} {w0:World} {b6 b7 b8:Nat} {n:Nd} {A3:Option Addr} {c3:Nat} {A4:Option Addr} {c4:Nat} {A5:Option Addr} {c5:Nat} {v4:Value} {acc:List Sh} {ac:Ar} {wr w1:World}
theorem AX.moves (h:AX ok pA w0 b6 b7 b8 n A3 c3 A4 c4 A5 c5 v4 acc ac wr) (m:Moves ok ok wr w1) {a1:Ar} (ha:bT ok pA a1 w1):AX ok pA w0 b6 b7 b8 n A3 c3 A4 c4 A5 c5 v4 acc a1 w1:=
 {
  x6:=h.x6.moves m,x7:=h.x7.moves m,x8:=h.x8.moves m,ar:=ha,mv:=h.mv.trans m
  row:=Kd.FZ h.row (fun k hk hlt=>m.block k hlt (fun h1=>by have:=h.lt k h1;have:=h.o6;have:=h.o7;have:=h.o8;omega))
  l3:=h.l3
  f3:=Kd.eZ h.f3 (fun k hk hlt=>m.block k hlt (fun h1=>by have:=h.lt k h1;have:=h.o6;omega))
  l4:=h.l4
  f4:=Kd.eZ h.f4 (fun k hk hlt=>m.block k hlt (fun h1=>by have:=h.lt k h1;have:=h.o6;omega))
  o6:=h.o6,o7:=h.o7,o8:=h.o8,lt:=h.lt }
theorem AX.still (h:AX ok pA w0 b6 b7 b8 n A3 c3 A4 c4 A5 c5 v4 acc ac wr) (b:Below wr.heap.size wr w1):AX ok pA w0 b6 b7 b8 n A3 c3 A4 c4 A5 c5 v4 acc ac w1:=
 h.moves (Moves.bV ok b) (h.ar.step b.size (fun k _ hlt=>b.block k hlt))
theorem AX.grown (h:AX ok pA w0 b6 b7 b8 n A3 c3 A4 c4 A5 c5 v4 acc ac wr) {v1:Value} {acc1:List Sh} (hr:Kd.N kSh 30 w1 w0.heap.size (fun k=>b8<k) v1 acc1) (hg:wr.grownBy w1 v4.ownBlock):AX ok pA w0 b6 b7 b8 n A3 c3 A4 c4 A5 c5 v1 acc1 ac (w1.setCell ⟨b8,4,none⟩ v1):=by
 have h6:=h.o6
 have h7:=h.o7
 have h8:=h.o8
 have hne: ∀ k,k≤b8→some k≠v4.ownBlock:=fun k hk e=>by have:=h.row.1 k e.symm;omega
 have hb: ∀ k,k<b8→k<wr.heap.size→(w1.setCell ⟨b8,4,none⟩ v1).heap[k]?=wr.heap[k]?:=fun k hk hlt=>(Below.heap_setCell w1 ⟨b8,4,none⟩ v1 k (fun e=>by have:k=b8:=e;omega)).trans (hg.block k hlt (hne k (by omega)))
 have hok: ∀ k,ok k→k<b8:=fun k hk=>by have:=h.lt k hk;omega
 have x8:Mine ok w1 b8 (shB n (.slice A3 n.pairs.length c3) (.slice A4 n.keys.length c4) v4):=⟨(hg.block b8 (bH h.x8.1) (hne b8 (Nat.le_refl _))).trans h.x8.1,h.x8.2⟩
 exact {
  x6:=⟨(hb b6 (by omega) (bH h.x6.1)).trans h.x6.1,h.x6.2⟩
  x7:=⟨(hb b7 (by omega) (bH h.x7.1)).trans h.x7.1,h.x7.2⟩
  x8:=x8.set 4 v1
  ar:=h.ar.step (by simpa [World.setCell] using hg.size) (fun k hk hlt=>hb k (hok k hk) hlt)
  mv:=(h.mv.grown hg (fun k hk=> .inr (by have:=h.row.1 k hk;omega))).set (p:=⟨b8,4,none⟩) (.inr (show w0.heap.size≤b8 by omega)) _
  row:=Kd.FZ hr (fun k hk hlt=>Below.heap_setCell w1 ⟨b8,4,none⟩ v1 k (fun e=>by have:k=b8:=e;omega))
  l3:=h.l3
  f3:=Kd.eZ h.f3 (fun k hk hlt=>hb k (by omega) hlt)
  l4:=h.l4
  f4:=Kd.eZ h.f4 (fun k hk hlt=>hb k (by omega) hlt)
  o6:=h6,o7:=h7,o8:=h8,lt:=h.lt }
theorem AX.post {A9:Option Addr} {c9:Nat} (h:AX ok pA w0 b6 b7 b8 n A3 c3 A4 c4 A5 c5 (.slice A9 acc.length c9) acc ac wr):
  nZ ok pA (shN n acc) ac w0 (.returned (.agg #[.bool (!n.inner),.bool n.tagged,.slice A3 n.pairs.length c3,.slice A4 n.keys.length c4,.slice A9 acc.length c9])) (IC wr b6 (.bool (!n.inner)) (.bool n.tagged) (.slice A3 n.pairs.length c3) (.slice A4 n.keys.length c4) (.slice A9 acc.length c9)):=by
 have h6:=h.o6
 have h7:=h.o7
 have h8:=h.o8
 have hk:kSh.FK wr (fun k=>b6<k) (shN n acc) [.bool (!n.inner),.bool n.tagged,.slice A3 (shN n acc).f2.length c3,.slice A4 (shN n acc).f3.length c4,.slice A9 (shN n acc).f4.length c9]:=
  pQ wr _ (shN n acc) (by show (Cf n.pairs).length≤c3;rw [kQ];exact h.l3) (by show kP.F _ _ _ (Cf n.pairs).length (Cf n.pairs);rw [kQ];exact Kd.bP (Qj h.f3) (fun k hk=>hk.1)) h.l4 (Kd.bP h.f4 (fun k hk=>hk.1)) (Kd.BZ h.row).2.1 (Kd.bP (Kd.N_F h.row) (fun k hk=>by omega))
 refine ⟨⟨_,?_,Kd.jf (Kd.jy hk (fun k hk _=>kK _ _ _ _ _ _ _ k (fun e=>by omega))) (fun k hk=>by omega)⟩,h.ar.step (by rw [tJ];exact Nat.le_refl _) (fun k hk _=>kK _ _ _ _ _ _ _ k (fun e=>by have:=h.lt k hk;omega)),qo h.mv h6 _ _ _ _ _⟩
 show _=Ending.returned (Value.agg #[_,_,.slice A3 (Cf n.pairs).length c3,_,_])
 rw [kQ]
 rfl
end
theorem Ga (d:Nat) (h:d≤1000):wrap64 (((d+1:Nat):Int) - 1)=(d:Int):=by unfold wrap64;omega
def LP:Bool × List (List Nat × List Nat):=(true,[([],[]),([0],[0]),([],[]),([],[]),([],[]),([],[]),([3,4,5],[3,4,5]),([],[]),([7],[7]),([2,6,8,6],[2,6,8]),([9],[9]),([1,10,9],[1,10]),([0,1,2,3,4,5,6,7,8,9,10,11],[]),([12,11,11,0,1,2,3,4,5,6,7,8,9,10,11],[11,12])])
def Pm:List Nat:= [0,1,0,0,0,0,56,0,128,508,1020,2047,4095,8191]
theorem JV:gJ .any (opsOf Tryz.f73 7)=LP:=by kernel_rfl
theorem Il:bI LP.2 Pm=true:=by kernel_rfl
theorem Fp (ok:Nat→Prop) (pA:Nat) (a:Ar) (r:Int) (w:World) (h:bT ok pA a w) (hf:a.Fits):
  Calls Tryz.prog 73 #[.pointer (some ⟨pA,0,none⟩),.int .i64 r,.int .i64 ((0:Nat):Int)] w (nZ ok pA (iI 0 r a).1 (iI 0 r a).2 w):=by
 have A1:=Am_ (h.step (w1:=w.alloc (.cells #[.bool false,.bool false,.slice none 0 0,.slice none 0 0,.slice none 0 0] 30)) (by simp) (fun k _ hk=>Below.heap_alloc _ _ _ hk))
 have X1:=Am_ (Mine.new (ok:=ok) (fun k hk=>h.lt k hk) (.cells #[.bool false,.bool false,.slice none 0 0,.slice none 0 0,.slice none 0 0] 30))
 have M1:=Am_ ((Moves.refl ok w).alloc (.cells #[.bool false,.bool false,.slice none 0 0,.slice none 0 0,.slice none 0 0] 30))
 have HFI:=Am_ hf
 have HLT:=Am_ (fun k hk=>h.lt k hk: ∀ k,ok k→k<w.heap.size)
 clear h hf
 have HLK:av (∀ w1,bT ok pA a w1→Calls Tryz.prog 126 #[.pointer (some ⟨pA,0,none⟩),.int .i64 r] w1 (oH ok pA (a.look r).1 (a.look r).2 w1)):=⟨fun w1 h1=>mM r w1 h1 HFI.out⟩
 have HNN:av (iI 0 r a=(shN (a.look r).1 [],(a.look r).2)):=⟨rfl⟩
 generalize iI 0 r a=q at HNN ⊢
 generalize (a.look r).1=n at HLK HNN ⊢
 generalize (a.look r).2=a2 at HLK HNN ⊢
 go_enter Tryz.func73,Tryz.ntmps73
 go_upto_region 1 with fail
 generalize w.alloc (.cells #[.bool false,.bool false,.slice none 0 0,.slice none 0 0,.slice none 0 0] 30)=w1 at X1 A1 M1 ⊢
 generalize h6:w.heap.size=b6 at X1 ⊢
 have E6:=Am_ h6
 clear h6
 go_upto_region 2 with (go_at_call 126;refine (HLK.out _ A1.out).mono ?_;rintro e w2 hL;obtain ⟨v,rfl,hN⟩:=hL.val;obtain ⟨p,k,y,rfl,hp,hk,hy⟩:=hN.out;obtain ⟨A3,c3,rfl⟩:=Kd.aW hp;obtain ⟨A4,c4,rfl⟩:=Kd.aW hk;obtain ⟨A5,c5,rfl⟩:=Kd.aW hy;have A2:=Am_ hL.ar;have M2:=Am_ (M1.out.trans hL.moves);have X2:=Am_ (X1.out.moves hL.moves);have HR2:=Am_ (And.intro hp (And.intro hk hy));have S2:av (w.heap.size<w1.heap.size∧w1.heap.size≤w2.heap.size):=⟨by rw [E6.out];exact X1.out.lt,hL.moves.size⟩;clear hL hN hp hk hy)
 clear X1 A1 M1
 have Y3:=Am_ (Mine.new (ok:=ok) (fun q hq=>A2.out.lt q hq) (.cells #[.bool n.inner,.bool n.tagged,.slice A3 n.pairs.length c3,.slice A4 n.keys.length c4,.slice A5 n.ways.length c5] 157))
 have X3:=Am_ (X2.out.alloc (.cells #[.bool n.inner,.bool n.tagged,.slice A3 n.pairs.length c3,.slice A4 n.keys.length c4,.slice A5 n.ways.length c5] 157))
 have A3':=Am_ (A2.out.step (w1:=w2.alloc (.cells #[.bool n.inner,.bool n.tagged,.slice A3 n.pairs.length c3,.slice A4 n.keys.length c4,.slice A5 n.ways.length c5] 157)) (by simp) (fun q _ hq=>Below.heap_alloc _ _ _ hq))
 have M3:=Am_ (M2.out.alloc (.cells #[.bool n.inner,.bool n.tagged,.slice A3 n.pairs.length c3,.slice A4 n.keys.length c4,.slice A5 n.ways.length c5] 157))
 have L3:=Am_ (ai (Below.refl w2.heap.size w2) (.cells #[.bool n.inner,.bool n.tagged,.slice A3 n.pairs.length c3,.slice A4 n.keys.length c4,.slice A5 n.ways.length c5] 157))
 generalize w2.alloc (.cells #[.bool n.inner,.bool n.tagged,.slice A3 n.pairs.length c3,.slice A4 n.keys.length c4,.slice A5 n.ways.length c5] 157)=w3 at Y3 X3 A3' M3 L3 ⊢
 generalize h7:w2.heap.size=b7 at Y3 L3 ⊢
 have E7:=Am_ h7
 clear h7
 have y0:=(af Y3.out.1 0).trans (rfl:_=some (Value.bool n.inner))
 have y1:=(af Y3.out.1 1).trans (rfl:_=some (Value.bool n.tagged))
 have y2:=(af Y3.out.1 2).trans (rfl:_=some (Value.slice A3 n.pairs.length c3))
 have y3:=(af Y3.out.1 3).trans (rfl:_=some (Value.slice A4 n.keys.length c4))
 have y4:=(af Y3.out.1 4).trans (rfl:_=some (Value.slice A5 n.ways.length c5))
 go_upto_region 3 with fail
 clear y0 y1 y2 y3 y4
 have Z4:=Am_ (Mine.new (ok:=ok) (fun q hq=>A3'.out.lt q hq) (.cells #[.bool (!n.inner),.bool n.tagged,.slice A3 n.pairs.length c3,.slice A4 n.keys.length c4,.slice none 0 0] 30))
 have Y4:=Am_ (Y3.out.alloc (.cells #[.bool (!n.inner),.bool n.tagged,.slice A3 n.pairs.length c3,.slice A4 n.keys.length c4,.slice none 0 0] 30))
 have X4:=Am_ (X3.out.alloc (.cells #[.bool (!n.inner),.bool n.tagged,.slice A3 n.pairs.length c3,.slice A4 n.keys.length c4,.slice none 0 0] 30))
 have A4':=Am_ (A3'.out.step (w1:=w3.alloc (.cells #[.bool (!n.inner),.bool n.tagged,.slice A3 n.pairs.length c3,.slice A4 n.keys.length c4,.slice none 0 0] 30)) (by simp) (fun q _ hq=>Below.heap_alloc _ _ _ hq))
 have M4:=Am_ (M3.out.alloc (.cells #[.bool (!n.inner),.bool n.tagged,.slice A3 n.pairs.length c3,.slice A4 n.keys.length c4,.slice none 0 0] 30))
 have L4:=Am_ (aU L3.out (by rw [←E7.out];exact L3.out.size) (ai (Below.refl w3.heap.size w3) (.cells #[.bool (!n.inner),.bool n.tagged,.slice A3 n.pairs.length c3,.slice A4 n.keys.length c4,.slice none 0 0] 30)))
 have S3:=Am_ Y3.out.lt
 clear Y3 X3 A3' M3 L3
 generalize w3.alloc (.cells #[.bool (!n.inner),.bool n.tagged,.slice A3 n.pairs.length c3,.slice A4 n.keys.length c4,.slice none 0 0] 30)=w4 at Z4 Y4 X4 A4' M4 L4 ⊢
 generalize h8:w3.heap.size=b8 at Z4 S3 ⊢
 have E8:=Am_ h8
 clear h8
 have ST:av (AX ok pA w b6 b7 b8 n A3 c3 A4 c4 A5 c5 (.slice none 0 0) [] a2 w4):=⟨by
  have hs:=S2.out
  have h7:=E7.out
  have h6:=E6.out
  have h67:b6<b7:=by omega
  exact {
      x6:=X4.out,x7:=Y4.out,x8:=Z4.out,ar:=A4'.out,mv:=M4.out,row:=Kd.KL _ _ _ _ _
      l3:=(Kd.bF HR2.out.1).2.1,f3:=Kd.bP (Kd.eZ (Kd.dP (Kd.R_F HR2.out.1)) (fun k hk hlt=>L4.out.block k (by omega))) (fun k hk=>by omega)
      l4:=(Kd.bF HR2.out.2.1).2.1,f4:=Kd.bP (Kd.eZ (Kd.dP (Kd.R_F HR2.out.2.1)) (fun k hk hlt=>L4.out.block k (by omega))) (fun k hk=>by omega)
      o6:=by omega,o7:=h67,o8:=S3.out,lt:=HLT.out }⟩
 clear X4 Y4 Z4 A4' M4 L4 HR2 S2 S3
 have y0:=(af ST.out.x8.1 0).trans (rfl:_=some (Value.bool (!n.inner)))
 have y1:=(af ST.out.x8.1 1).trans (rfl:_=some (Value.bool n.tagged))
 have y2:=(af ST.out.x8.1 2).trans (rfl:_=some (Value.slice A3 n.pairs.length c3))
 have y3:=(af ST.out.x8.1 3).trans (rfl:_=some (Value.slice A4 n.keys.length c4))
 have y4:=(af ST.out.x8.1 4).trans (rfl:_=some (Value.slice none 0 0))
 have k0:=(af ST.out.x6.1 0).trans (rfl:_=some (Value.bool false))
 have k1:=(af ST.out.x6.1 1).trans (rfl:_=some (Value.bool false))
 have k2:=(af ST.out.x6.1 2).trans (rfl:_=some (Value.slice none 0 0))
 have k3:=(af ST.out.x6.1 3).trans (rfl:_=some (Value.slice none 0 0))
 have k4:=(af ST.out.x6.1 4).trans (rfl:_=some (Value.slice none 0 0))
 have z0:=ah ST.out.x6.1 0
 have z1:=ah ST.out.x6.1 1
 have z2:=ah ST.out.x6.1 2
 have z3:=ah ST.out.x6.1 3
 have z4:=ah ST.out.x6.1 4
 go_wp2_with fail
 show bodyPost _ _ _ _ _ (IC w4 b6 (.bool (!n.inner)) (.bool n.tagged) (.slice A3 n.pairs.length c3) (.slice A4 n.keys.length c4) (.slice none 0 0))
 refine bodyPost_ret (lW rfl _ _ b6 30 _ (0,0) _ rfl (rH ST.out.x6.1 _ _ _ _ _) Tryz.underlying30 rfl (by kernel_rfl)) rfl ?_
 rw [HNN.out]
 exact ST.out.post
theorem EA (d:Nat) (hd:d≤1000) (ih: ∀ (ok:Nat→Prop) (pA:Nat) (a:Ar) (r:Int) (w:World),bT ok pA a w→a.Fits→Calls Tryz.prog 73 #[.pointer (some ⟨pA,0,none⟩),.int .i64 r,.int .i64 (d:Int)] w (nZ ok pA (iI d r a).1 (iI d r a).2 w)) (ok:Nat→Prop) (pA:Nat) (a:Ar) (r:Int) (w:World) (h:bT ok pA a w) (hf:a.Fits):
  Calls Tryz.prog 73 #[.pointer (some ⟨pA,0,none⟩),.int .i64 r,.int .i64 ((d+1:Nat):Int)] w (nZ ok pA (iI (d+1) r a).1 (iI (d+1) r a).2 w):=by
 have A1:=Am_ (h.step (w1:=w.alloc (.cells #[.bool false,.bool false,.slice none 0 0,.slice none 0 0,.slice none 0 0] 30)) (by simp) (fun k _ hk=>Below.heap_alloc _ _ _ hk))
 have X1:=Am_ (Mine.new (ok:=ok) (fun k hk=>h.lt k hk) (.cells #[.bool false,.bool false,.slice none 0 0,.slice none 0 0,.slice none 0 0] 30))
 have M1:=Am_ ((Moves.refl ok w).alloc (.cells #[.bool false,.bool false,.slice none 0 0,.slice none 0 0,.slice none 0 0] 30))
 have HFI:=Am_ hf
 have HLT:=Am_ (fun k hk=>h.lt k hk: ∀ k,ok k→k<w.heap.size)
 clear h hf
 have HLK:av (∀ w1,bT ok pA a w1→Calls Tryz.prog 126 #[.pointer (some ⟨pA,0,none⟩),.int .i64 r] w1 (oH ok pA (a.look r).1 (a.look r).2 w1)):=⟨fun w1 h1=>mM r w1 h1 HFI.out⟩
 have HWP:=Am_ (Ga d hd)
 have HF2:=Am_ (HFI.out.same (qB a r))
 have HNN:av (iI (d+1) r a=(shN (a.look r).1 (kJ (iI d) r 0 (a.look r).1.ways.length (a.look r).2).1,(kJ (iI d) r 0 (a.look r).1.ways.length (a.look r).2).2)):=⟨rfl⟩
 have HWL:=Am_ (GQ a r HFI.out)
 generalize iI (d+1) r a=q at HNN ⊢
 generalize (a.look r).1=n at HLK HNN HWL ⊢
 generalize (a.look r).2=a2 at HLK HNN HF2 ⊢
 go_enter Tryz.func73,Tryz.ntmps73
 go_upto_region 1 with fail
 generalize w.alloc (.cells #[.bool false,.bool false,.slice none 0 0,.slice none 0 0,.slice none 0 0] 30)=w1 at X1 A1 M1 ⊢
 generalize h6:w.heap.size=b6 at X1 ⊢
 have E6:=Am_ h6
 clear h6
 go_upto_region 2 with (go_at_call 126;refine (HLK.out _ A1.out).mono ?_;rintro e w2 hL;obtain ⟨v,rfl,hN⟩:=hL.val;obtain ⟨p,k,y,rfl,hp,hk,hy⟩:=hN.out;obtain ⟨A3,c3,rfl⟩:=Kd.aW hp;obtain ⟨A4,c4,rfl⟩:=Kd.aW hk;obtain ⟨A5,c5,rfl⟩:=Kd.aW hy;have A2:=Am_ hL.ar;have M2:=Am_ (M1.out.trans hL.moves);have X2:=Am_ (X1.out.moves hL.moves);have HR2:=Am_ (And.intro hp (And.intro hk hy));have S2:av (w.heap.size<w1.heap.size∧w1.heap.size≤w2.heap.size):=⟨by rw [E6.out];exact X1.out.lt,hL.moves.size⟩;clear hL hN hp hk hy)
 clear X1 A1 M1
 have Y3:=Am_ (Mine.new (ok:=ok) (fun q hq=>A2.out.lt q hq) (.cells #[.bool n.inner,.bool n.tagged,.slice A3 n.pairs.length c3,.slice A4 n.keys.length c4,.slice A5 n.ways.length c5] 157))
 have X3:=Am_ (X2.out.alloc (.cells #[.bool n.inner,.bool n.tagged,.slice A3 n.pairs.length c3,.slice A4 n.keys.length c4,.slice A5 n.ways.length c5] 157))
 have A3':=Am_ (A2.out.step (w1:=w2.alloc (.cells #[.bool n.inner,.bool n.tagged,.slice A3 n.pairs.length c3,.slice A4 n.keys.length c4,.slice A5 n.ways.length c5] 157)) (by simp) (fun q _ hq=>Below.heap_alloc _ _ _ hq))
 have M3:=Am_ (M2.out.alloc (.cells #[.bool n.inner,.bool n.tagged,.slice A3 n.pairs.length c3,.slice A4 n.keys.length c4,.slice A5 n.ways.length c5] 157))
 have L3:=Am_ (ai (Below.refl w2.heap.size w2) (.cells #[.bool n.inner,.bool n.tagged,.slice A3 n.pairs.length c3,.slice A4 n.keys.length c4,.slice A5 n.ways.length c5] 157))
 generalize w2.alloc (.cells #[.bool n.inner,.bool n.tagged,.slice A3 n.pairs.length c3,.slice A4 n.keys.length c4,.slice A5 n.ways.length c5] 157)=w3 at Y3 X3 A3' M3 L3 ⊢
 generalize h7:w2.heap.size=b7 at Y3 L3 ⊢
 have E7:=Am_ h7
 clear h7
 have y0:=(af Y3.out.1 0).trans (rfl:_=some (Value.bool n.inner))
 have y1:=(af Y3.out.1 1).trans (rfl:_=some (Value.bool n.tagged))
 have y2:=(af Y3.out.1 2).trans (rfl:_=some (Value.slice A3 n.pairs.length c3))
 have y3:=(af Y3.out.1 3).trans (rfl:_=some (Value.slice A4 n.keys.length c4))
 have y4:=(af Y3.out.1 4).trans (rfl:_=some (Value.slice A5 n.ways.length c5))
 go_upto_region 3 with fail
 clear y0 y1 y2 y3 y4
 have Z4:=Am_ (Mine.new (ok:=ok) (fun q hq=>A3'.out.lt q hq) (.cells #[.bool (!n.inner),.bool n.tagged,.slice A3 n.pairs.length c3,.slice A4 n.keys.length c4,.slice none 0 0] 30))
 have Y4:=Am_ (Y3.out.alloc (.cells #[.bool (!n.inner),.bool n.tagged,.slice A3 n.pairs.length c3,.slice A4 n.keys.length c4,.slice none 0 0] 30))
 have X4:=Am_ (X3.out.alloc (.cells #[.bool (!n.inner),.bool n.tagged,.slice A3 n.pairs.length c3,.slice A4 n.keys.length c4,.slice none 0 0] 30))
 have A4':=Am_ (A3'.out.step (w1:=w3.alloc (.cells #[.bool (!n.inner),.bool n.tagged,.slice A3 n.pairs.length c3,.slice A4 n.keys.length c4,.slice none 0 0] 30)) (by simp) (fun q _ hq=>Below.heap_alloc _ _ _ hq))
 have M4:=Am_ (M3.out.alloc (.cells #[.bool (!n.inner),.bool n.tagged,.slice A3 n.pairs.length c3,.slice A4 n.keys.length c4,.slice none 0 0] 30))
 have L4:=Am_ (aU L3.out (by rw [←E7.out];exact L3.out.size) (ai (Below.refl w3.heap.size w3) (.cells #[.bool (!n.inner),.bool n.tagged,.slice A3 n.pairs.length c3,.slice A4 n.keys.length c4,.slice none 0 0] 30)))
 have S3:=Am_ Y3.out.lt
 clear Y3 X3 A3' M3 L3
 generalize w3.alloc (.cells #[.bool (!n.inner),.bool n.tagged,.slice A3 n.pairs.length c3,.slice A4 n.keys.length c4,.slice none 0 0] 30)=w4 at Z4 Y4 X4 A4' M4 L4 ⊢
 generalize h8:w3.heap.size=b8 at Z4 S3 ⊢
 have E8:=Am_ h8
 clear h8
 have ST:av (AX ok pA w b6 b7 b8 n A3 c3 A4 c4 A5 c5 (.slice none 0 0) [] a2 w4):=⟨by
  have hs:=S2.out
  have h7:=E7.out
  have h6:=E6.out
  have h67:b6<b7:=by omega
  exact {
      x6:=X4.out,x7:=Y4.out,x8:=Z4.out,ar:=A4'.out,mv:=M4.out,row:=Kd.KL _ _ _ _ _
      l3:=(Kd.bF HR2.out.1).2.1,f3:=Kd.bP (Kd.eZ (Kd.dP (Kd.R_F HR2.out.1)) (fun k hk hlt=>L4.out.block k (by omega))) (fun k hk=>by omega)
      l4:=(Kd.bF HR2.out.2.1).2.1,f4:=Kd.bP (Kd.eZ (Kd.dP (Kd.R_F HR2.out.2.1)) (fun k hk hlt=>L4.out.block k (by omega))) (fun k hk=>by omega)
      o6:=by omega,o7:=h67,o8:=S3.out,lt:=HLT.out }⟩
 clear X4 Y4 Z4 A4' M4 L4 HR2 S2 S3
 have y0:=(af ST.out.x7.1 0).trans (rfl:_=some (Value.bool n.inner))
 have y1:=(af ST.out.x7.1 1).trans (rfl:_=some (Value.bool n.tagged))
 have y2:=(af ST.out.x7.1 2).trans (rfl:_=some (Value.slice A3 n.pairs.length c3))
 have y3:=(af ST.out.x7.1 3).trans (rfl:_=some (Value.slice A4 n.keys.length c4))
 have y4:=(af ST.out.x7.1 4).trans (rfl:_=some (Value.slice A5 n.ways.length c5))
 have d0:decide (((d+1:Nat):Int)>0)=true:=decide_eq_true (by omega)
 go_upto_region 5 with fail
 clear y0 y1 y2 y3 y4
 generalize hkl:(kJ (iI d) r 0 n.ways.length a2).1=kids at HNN ⊢
 generalize hae:(kJ (iI d) r 0 n.ways.length a2).2=aE at HNN ⊢
 have HKL:=Am_ hkl
 have HAE:=Am_ hae
 clear hkl hae
 go_wp2_with fail
 go_loopw [30] (fun v30 wr=> ∃ ac acc i m v4,v30= .int .i64 (i:Nat)∧av (i+m=n.ways.length∧acc.length=i∧acc++(kJ (iI d) r i m ac).1=kids∧(kJ (iI d) r i m ac).2=aE∧ac.Fits)∧av (AX ok pA w b6 b7 b8 n A3 c3 A4 c4 A5 c5 v4 acc ac wr)) (fun v30 _=>n.ways.length - (intOf v30).toNat)
 case atStart=>exact ⟨a2,[],0,n.ways.length,.slice none 0 0,rfl,⟨by omega,rfl,HKL.out,HAE.out,HF2.out⟩,ST⟩
 case round=>
  obtain ⟨ac,acc,i,m,v4,rfl,HT,S5⟩:=hrel
  clear ST HKL HAE HF2
  have HI:=Am_ HT.out.1
  have HA60:av (acc.length≤1000000):=⟨by have:=HT.out.1;have:=HT.out.2.1;have:=HWL.out;omega⟩
  cases m with
  | zero=>
   have hi:=HT.out.1
   rw [Nat.add_zero] at hi
   have d5:decide ((i:Int)<(n.ways.length:Int))=false:=decide_eq_false (by omega)
   have d6:decide (i<n.ways.length)=false:=decide_eq_false (by omega)
   have e1:acc=kids:=by have:=HT.out.2.2.1;rw [kJ,List.append_nil] at this;exact this
   have e2:ac=aE:=by have:=HT.out.2.2.2.1;rw [kJ] at this;exact this
   subst e1
   subst e2
   obtain ⟨A9,c9,rfl⟩:=Kd.Hw S5.out.row
   clear hi HT
   have y0:=(af S5.out.x8.1 0).trans (rfl:_=some (Value.bool (!n.inner)))
   have y1:=(af S5.out.x8.1 1).trans (rfl:_=some (Value.bool n.tagged))
   have y2:=(af S5.out.x8.1 2).trans (rfl:_=some (Value.slice A3 n.pairs.length c3))
   have y3:=(af S5.out.x8.1 3).trans (rfl:_=some (Value.slice A4 n.keys.length c4))
   have y4:=(af S5.out.x8.1 4).trans (rfl:_=some (Value.slice A9 acc.length c9))
   have k0:=(af S5.out.x6.1 0).trans (rfl:_=some (Value.bool false))
   have k1:=(af S5.out.x6.1 1).trans (rfl:_=some (Value.bool false))
   have k2:=(af S5.out.x6.1 2).trans (rfl:_=some (Value.slice none 0 0))
   have k3:=(af S5.out.x6.1 3).trans (rfl:_=some (Value.slice none 0 0))
   have k4:=(af S5.out.x6.1 4).trans (rfl:_=some (Value.slice none 0 0))
   have z0:=ah S5.out.x6.1 0
   have z1:=ah S5.out.x6.1 1
   have z2:=ah S5.out.x6.1 2
   have z3:=ah S5.out.x6.1 3
   have z4:=ah S5.out.x6.1 4
   go_wp2_with fail
   show bodyPost _ _ _ _ _ (IC wr b6 (.bool (!n.inner)) (.bool n.tagged) (.slice A3 n.pairs.length c3) (.slice A4 n.keys.length c4) (.slice A9 acc.length c9))
   refine bodyPost_ret (lW rfl _ _ b6 30 _ (0,0) _ rfl (rH S5.out.x6.1 _ _ _ _ _) Tryz.underlying30 rfl (by kernel_rfl)) rfl ?_
   rw [HNN.out]
   exact S5.out.post
  | succ m=>
   have hi:=HT.out.1
   have d5:decide ((i:Int)<(n.ways.length:Int))=true:=decide_eq_true (by omega)
   have d6:decide (i<n.ways.length)=true:=decide_eq_true (by omega)
   have HAC:=Am_ HT.out.2.1
   have HKI:=Am_ HT.out.2.2.1
   have HRE:=Am_ HT.out.2.2.2.1
   have HFC:=Am_ HT.out.2.2.2.2
   rw [kJ] at HKI HRE
   clear HT hi
   have HC:=Am_ (show wr.cell? ⟨b8,4,none⟩=some v4 from (af S5.out.x8.1 4).trans rfl)
   go_upto_region 7 with fail
   refine bK (n:=14) (S:=fun w'=>w'.cell? ⟨b8,4,none⟩=some v4) (ds:= [13]) (by kernel_rfl) rfl JV Il HC.out (fun hHeld HT_ HW_=>?_)
   have S6:=Am_ (S5.out.still (cZ (Below.refl _ _)))
   clear S5 HC
   generalize wr.drew=w6 at S6 hHeld ⊢
   refine gy [(0,some 33),(1,some 34),(2,some 35),(3,some 36),(4,some 37),(5,some 38),(7,some 40),(8,some 41)] ?_
   (refine gG (v:=?_) (a':=?_) HT_ (by kernel_rfl) rfl rfl (fun _ _ _ h=>h) (Or.inl ⟨by rfl,?_⟩) ?_ ?_;rotate_left;(intro w';go_simp;with_reducible rfl);rotate_left;(simp only [Act.put,p1_,p2_,p3_,aG,aH];rfl))
   iterate 7 (refine jW (v:=?_) (a':=?_) HT_ HW_ (by kernel_rfl) rfl rfl (fun _ _ _ h=>h) hHeld (Or.inl ⟨by rfl,?_⟩) ?_ ?_;rotate_left;(rintro w' s4;go_simp;with_reducible rfl);rotate_left;(simp only [Act.put,p1_,p2_,p3_,aG,aH];rfl))
   refine bG ?_
   refine dI (i:=6) (some 39) HT_ (by kernel_rfl) rfl rfl (by decide) (fun K_ hK=>?_)
   refine call_ 74 #[.pointer (some ⟨pA,0,none⟩),.int .i64 r,.int .i64 (i:Int)] (by rfl) rfl ?hrun6 ?_
   (case hrun6=>first | (go_simp;done) | (go_simp;exact enters Tryz.func74 (by kernel_rfl) rfl _ _))
   refine (lS r (i:Int) w6 S6.out.ar HFC.out.slots).mono ?_
   rintro e w7 ⟨rfl,hA7,hM7⟩
   have S7:=Am_ (S6.out.moves hM7 hA7)
   clear hA7 hM7 S6
   have HFW:=Am_ (HFC.out.same (sM ac r (i:Int)))
   generalize (ac.way r (i:Int)).1=xr at HKI HRE ⊢
   generalize (ac.way r (i:Int)).2=a7 at S7 HKI HRE HFW ⊢
   refine ⟨_,rfl,?_⟩
   refine hK.out _ _ ((af S7.out.x8.1 4).trans rfl) (fun hHeld=>?_)
   clear hK K_
   refine cK (a':=?_) ?_ ?_
   rotate_left; · show Act.put _ (some 39) _=_;simp only [Act.put,p1_,p2_,p3_,aG,aH];rfl
   refine dI (i:=9) (some 42) HT_ (by kernel_rfl) rfl rfl (by decide) (fun K_ hK=>?_)
   refine call_ 73 #[.pointer (some ⟨pA,0,none⟩),.int .i64 xr,.int .i64 (wrap64 (((d+1:Nat):Int) - 1))] (by rfl) rfl ?hrun9 ?_
   (case hrun9=>first | (go_simp;done) | (go_simp;exact enters Tryz.func73 (by kernel_rfl) rfl _ _))
   rw [HWP.out]
   refine (ih ok pA a7 xr w7 S7.out.ar HFW.out).mono ?_
   rintro e w8 hE
   obtain ⟨cs,rfl,hfk⟩:=hE.out
   have S8:=Am_ (S7.out.moves hE.moves hE.ar)
   have HFR:=Am_ (HFW.out.same (ug d xr a7))
   have HV8:av (∀ q,v4.ownBlock=some q→q<w7.heap.size):=⟨Kd.Sb S7.out.row⟩
   have H78:av (b8<w7.heap.size∧w7.heap.size≤w8.heap.size):=⟨bH S7.out.x8.1,hE.moves.size⟩
   clear hE S7 HFW
   generalize (iI d xr a7).1=kd at hfk HKI ⊢
   generalize (iI d xr a7).2=a8 at S8 HRE HKI HFR ⊢
   obtain ⟨B2,d2,B3,d3,B4,d4,rfl,_⟩:=jb hfk
   have HFK:=Am_ hfk
   clear hfk
   refine ⟨_,rfl,?_⟩
   refine hK.out _ _ ((af S8.out.x8.1 4).trans rfl) (fun hHeld=>?_)
   clear hK K_
   refine cK (a':=?_) ?_ ?_
   rotate_left; · show Act.put _ (some 42) _=_;simp only [Act.put,p1_,p2_,p3_,aG,aH];rfl
   refine dI (i:=10) (some 43) HT_ (by kernel_rfl) rfl rfl (by decide) (fun K_ hK=>?_)
   refine jD (v:= .slice (some ⟨w8.heap.size,0,none⟩) 1 1) (w1:=w8.alloc (.cells #[.bool kd.f0,.bool kd.f1,.slice B2 kd.f2.length d2,.slice B3 kd.f3.length d3,.slice B4 kd.f4.length d4] 30)) (by rfl) rfl (by go_simp) ?_
   have S9:=Am_ (S8.out.still (ai (Below.refl _ _) (.cells #[.bool kd.f0,.bool kd.f1,.slice B2 kd.f2.length d2,.slice B3 kd.f3.length d3,.slice B4 kd.f4.length d4] 30)))
   have hbx:=bU w8 (.cells #[.bool kd.f0,.bool kd.f1,.slice B2 kd.f2.length d2,.slice B3 kd.f3.length d3,.slice B4 kd.f4.length d4] 30)
   have HFK9:=Am_ (Kd.jy (W1:=w8.alloc (.cells #[.bool kd.f0,.bool kd.f1,.slice B2 kd.f2.length d2,.slice B3 kd.f3.length d3,.slice B4 kd.f4.length d4] 30)) (Kd.rG HFK.out) (fun q hq hlt=>Below.heap_alloc _ _ _ hlt))
   refine hK.out _ _ ((af S9.out.x8.1 4).trans rfl) (fun hHeld=>?_)
   clear hK K_
   refine cK (a':=?_) ?_ ?_
   rotate_left; · show Act.put _ (some 43) _=_;simp only [Act.put,p1_,p2_,p3_,aG,aH];rfl
   refine dI (i:=11) (some 44) HT_ (by kernel_rfl) rfl rfl (by decide) (fun K_ hK=>?_)
   clear S8 HFK
   generalize w8.alloc (.cells #[.bool kd.f0,.bool kd.f1,.slice B2 kd.f2.length d2,.slice B3 kd.f3.length d3,.slice B4 kd.f4.length d4] 30)=w9 at S9 hbx HFK9 hHeld ⊢
   have hlt9:=bH hbx
   refine Kd.ou kSh (w0:=w9) w.heap.size (by rfl) (.tmp 34) (.tmp 43) 28 30 (.agg #[(.bool false),(.bool false),(.slice none 0 0),(.slice none 0 0),(.slice none 0 0)]) 80 rfl Tryz.underlying28 DI rfl (by decide) (by omega) v4 acc [kd] (some ⟨w8.heap.size,0,none⟩) 1 1 (fun q=>b8<q) (fun q=>q=w8.heap.size∨(w7.heap.size≤q∧q<w8.heap.size)) (by rfl) (by rfl) S9.out.row (NU hbx HFK9.out)
    (fun q hq=>⟨by have:=H78.out;omega,fun e=>by have:=HV8.out q e.symm;have:=H78.out;omega⟩) (fun q hq=>by have:=bH S9.out.x8.1;omega) (Below.refl _ _) S9.out.mv.size (by have:=HA60.out;omega) ?_
   intro v1 w10 hN _ hg hat
   have S10:=Am_ (S9.out.grown hN hg)
   have hx8:Mine ok w10 b8 (shB n (.slice A3 n.pairs.length c3) (.slice A4 n.keys.length c4) v4):=⟨(hg.block b8 (bH S9.out.x8.1) (fun e=>by have:=S9.out.row.1 b8 e.symm;omega)).trans S9.out.x8.1,S9.out.x8.2⟩
   have HX8:=Am_ hx8
   obtain ⟨A9,c9,rfl⟩:=Kd.Hw hN
   clear hN hg hat S9 hbx HFK9 hx8 hlt9
   refine hK.out _ _ ((af HX8.out.1 4).trans rfl) (fun hHeld=>?_)
   clear hK K_
   refine cK (a':=?_) ?_ ?_
   rotate_left; · show Act.put _ (some 44) _=_;simp only [Act.put,p1_,p2_,p3_,aG,aH];rfl
   refine gy [(12,some 45)] ?_
   (refine gG (v:=?_) (a':=?_) HT_ (by kernel_rfl) rfl rfl (fun _ _ _ h=>h) (Or.inl ⟨by rfl,?_⟩) ?_ ?_;rotate_left;(intro w';go_simp;with_reducible rfl);rotate_left;(simp only [Act.put,p1_,p2_,p3_,aG,aH];rfl))
   refine bG ?_
   have y4:=(af HX8.out.1 4).trans (rfl:_=some v4)
   have z4:=ah HX8.out.1 4
   refine dz (i:=13) none HT_ (by kernel_rfl) rfl rfl (by decide) (fun K_ hK=>?_)
   refine iJ (w1:=?_) (by rfl) rfl ?_ ?_
   rotate_left; · go_simp;rfl
   refine hK.out _ _ ?_
   clear hK K_
   refine dR (bM HT_.out (by kernel_rfl)) ?_
   have S11:av (AX ok pA w b6 b7 b8 n A3 c3 A4 c4 A5 c5 (.slice A9 (acc.length+1) c9) (acc++ [kd]) a8 (w10.setCell ⟨b8,4,none⟩ (.slice A9 (acc.length+1) c9))):=⟨by
    have h1:=S10.out
    rw [show (acc++ [kd]).length=acc.length+1 from by simp] at h1
    exact h1⟩
   clear S10 HX8 hHeld y4 z4
   generalize w10.setCell ⟨b8,4,none⟩ (.slice A9 (acc.length+1) c9)=w11 at S11 ⊢
   have hi1:=HI.out
   have hi2:i≤1000000:=by have:=HAC.out;have:=HA60.out;omega
   have hk1:(acc++ [kd])++(kJ (iI d) r (i+1) m a8).1=kids:=by rw [List.append_assoc];exact HKI.out
   go_wp2_with fail
   exact ⟨⟨a8,acc++ [kd],i+1,m,_,by first | rfl | rw [sQ i hi2],⟨by omega,by rw [List.length_append,HAC.out];rfl,hk1,HRE.out,HFR.out⟩,S11⟩,by first | exact yG (by omega) hi2 | (show n.ways.length - (i+1)<n.ways.length - i;omega)⟩
theorem Dy (d:Nat) (hd:d≤1000): ∀ (ok:Nat→Prop) (pA:Nat) (a:Ar) (r:Int) (w:World),bT ok pA a w→a.Fits→Calls Tryz.prog 73 #[.pointer (some ⟨pA,0,none⟩),.int .i64 r,.int .i64 (d:Int)] w (nZ ok pA (iI d r a).1 (iI d r a).2 w):=by
 induction d with
 | zero=>exact Fp
 | succ d ih=>exact EA d (by omega) (ih (by omega))
def Ws.read (x:Ws):Sh × Ar:=iI 40 (x.ar.way x.entry 0).1 (x.ar.way x.entry 0).2
structure Ri (ok okR okE:Nat→Prop) (p pA pR pE:Nat) (x:Ws) (w:World) (e:Ending) (w1:World):Prop where
 val: ∃ cs,e= .returned (.agg cs.toArray)∧kSh.FK w1 (fun k=>w.heap.size≤k) x.read.1 cs
 out: ∃ ok1 okA1,fo ok1 okA1 okR okE p pA pR pE { x with ar:=x.read.2 } w1∧Moves ok ok1 w w1
def Fv:Bool × List (List Nat × List Nat):=(true,[([],[]),([0],[0]),([1],[1]),([2],[2]),([],[]),([4],[4]),([5],[5]),([6],[6]),([],[]),([8],[8]),([9],[9]),([10],[10]),([7,11],[7,11]),([3,12,12],[3,12]),([13,13,0,1,2,3,4,5,6,7,8,9,10,11,12,13],[13])])
def NA:List Nat:= [0,1,3,7,0,16,48,112,0,256,768,1792,4080,8191,16383]
theorem EP:gJ .any (opsOf Tryz.f19 1)=Fv:=by kernel_rfl
theorem Dq:bI Fv.2 NA=true:=by kernel_rfl
theorem rU {ok okA okR okE:Nat→Prop} {p pA pR pE:Nat} {x:Ws} (w:World) (h:fo ok okA okR okE p pA pR pE x w) (hf:x.ar.Fits):Calls Tryz.prog 19 #[.pointer (some ⟨p,0,none⟩)] w (Ri ok okR okE p pA pR pE x w):=by
 have W1:=Am_ (h.step (w1:=w.alloc (.cells #[.bool false,.bool false,.slice none 0 0,.slice none 0 0,.slice none 0 0] 30)) (by simp) (fun k _ hk=>Below.heap_alloc _ _ _ hk))
 have X1:=Am_ (Mine.new (ok:=ok) (fun k hk=>h.lt k hk) (.cells #[.bool false,.bool false,.slice none 0 0,.slice none 0 0,.slice none 0 0] 30))
 have M1:=Am_ ((Moves.refl ok w).alloc (.cells #[.bool false,.bool false,.slice none 0 0,.slice none 0 0,.slice none 0 0] 30))
 have HFI:=Am_ hf
 have HFW:=Am_ (hf.same (sM x.ar x.entry 0))
 clear h hf
 obtain ⟨q,hq⟩: ∃ q,x.read=q:=⟨_,rfl⟩
 have HXR:=Am_ hq
 obtain ⟨s,aE⟩:=q
 have HQ:av (iI 40 (x.ar.way x.entry 0).1 (x.ar.way x.entry 0).2=(s,aE)):=⟨hq⟩
 clear hq
 go_enter Tryz.func19,Tryz.ntmps19
 go_upto_region 1 with fail
 generalize w.alloc (.cells #[.bool false,.bool false,.slice none 0 0,.slice none 0 0,.slice none 0 0] 30)=w1 at W1 X1 M1 ⊢
 generalize h2:w.heap.size=b2 at X1 ⊢
 have E2:=Am_ h2
 clear h2
 have HC:=Am_ (show w1.cell? ⟨p,0,none⟩=some (.pointer (some ⟨pA,0,none⟩))∧w1.cell? ⟨p,5,none⟩=some (.int .i64 x.entry) from ⟨(af (W1.out.box) 0).trans rfl,(af (W1.out.box) 5).trans rfl⟩)
 refine bK (n:=15) (S:=fun w'=>w'.cell? ⟨p,0,none⟩=some (.pointer (some ⟨pA,0,none⟩))∧w'.cell? ⟨p,5,none⟩=some (.int .i64 x.entry)) (ds:= [14]) (by kernel_rfl) rfl EP Dq HC.out (fun hHeld HT_ HW_=>?_)
 have W2:=Am_ (W1.out.step (w1:=w1.drew) (Nat.le_refl _) (fun _ _ _=>rfl))
 have M2:=Am_ M1.out.drew
 have X2:=Am_ (X1.out.moves (Moves.drew (Moves.refl _ _)))
 have G2:av (b2<w1.drew.heap.size):=⟨X1.out.lt⟩
 clear HC W1 M1 X1
 generalize w1.drew=w2 at W2 M2 X2 G2 hHeld ⊢
 refine gy [(0,some 3),(1,some 4),(2,some 5),(3,some 6),(4,some 7),(5,some 8),(6,some 9),(7,some 10),(8,some 11),(9,some 12),(10,some 13),(11,some 14)] ?_
 iterate 3 (refine gG (v:=?_) (a':=?_) HT_ (by kernel_rfl) rfl rfl (fun _ _ _ h=>h) (Or.inl ⟨by rfl,?_⟩) ?_ ?_;rotate_left;(intro w';go_simp;with_reducible rfl);rotate_left;(simp only [Act.put,p1_,p2_,p3_,aG,aH];rfl))
 iterate 9 (refine jW (v:=?_) (a':=?_) HT_ HW_ (by kernel_rfl) rfl rfl (fun _ _ _ h=>h) hHeld (Or.inl ⟨by rfl,?_⟩) ?_ ?_;rotate_left;(rintro w' ⟨s0,s5⟩;go_simp;with_reducible rfl);rotate_left;(simp only [Act.put,p1_,p2_,p3_,aG,aH];rfl))
 refine bG ?_
 refine dI (i:=12) (some 15) HT_ (by kernel_rfl) rfl rfl (by decide) (fun K_ hK=>?_)
 refine call_ 74 #[.pointer (some ⟨pA,0,none⟩),.int .i64 x.entry,.int .i64 0] (by rfl) rfl ?hrun12 ?_
 (case hrun12=>first | (go_simp;done) | (go_simp;exact enters Tryz.func74 (by kernel_rfl) rfl _ _))
 refine (lS x.entry 0 w2 W2.out.ar HFI.out.slots).mono ?_
 rintro e w3 ⟨rfl,hA3,hM3⟩
 have W3:=Am_ (W2.out.bJ hA3 hM3).1
 have N3:=Am_ (W2.out.bJ hA3 hM3).2
 have M3:=Am_ (M2.out.trans N3.out)
 have X3:=Am_ (X2.out.moves N3.out)
 have G3:av (b2<w3.heap.size):=⟨Nat.lt_of_lt_of_le G2.out hM3.size⟩
 clear hA3 hM3 W2 M2 X2 N3 G2
 generalize (x.ar.way x.entry 0).1=xr at HFW HQ ⊢
 generalize (x.ar.way x.entry 0).2=a3 at W3 HFW HQ ⊢
 refine ⟨_,rfl,?_⟩
 refine hK.out _ _ ⟨(af (W3.out.box) 0).trans rfl,(af (W3.out.box) 5).trans rfl⟩ (fun hHeld=>?_)
 clear hK K_
 refine cK (a':=?_) ?_ ?_
 rotate_left; · show Act.put _ (some 15) _=_;simp only [Act.put,p1_,p2_,p3_,aG,aH];rfl
 refine dI (i:=13) (some 16) HT_ (by kernel_rfl) rfl rfl (by decide) (fun K_ hK=>?_)
 refine call_ 73 #[.pointer (some ⟨pA,0,none⟩),.int .i64 xr,.int .i64 ((40:Nat):Int)] (by rfl) rfl ?hrun13 ?_
 (case hrun13=>first | (go_simp;done) | (go_simp;exact enters Tryz.func73 (by kernel_rfl) rfl _ _))
 refine (Dy 40 (by omega) _ pA a3 xr w3 W3.out.ar HFW.out).mono ?_
 rintro e w4 hE
 obtain ⟨cs,rfl,hfk⟩:=hE.out
 have W4:=Am_ (W3.out.bJ hE.ar hE.moves).1
 have N4:=Am_ (W3.out.bJ hE.ar hE.moves).2
 have M4:=Am_ (M3.out.trans N4.out)
 have X4:=Am_ (X3.out.moves N4.out)
 clear hE W3 M3 X3 N4
 rw [HQ.out] at hfk W4
 simp only at hfk W4
 obtain ⟨A2,c2,A3,c3,A4,c4,rfl,_⟩:=jb hfk
 have F4:=Am_ (Kd.jf hfk (fun k hk=>Nat.lt_of_lt_of_le G3.out hk: ∀ k,w3.heap.size≤k→b2<k))
 clear hfk G3
 refine ⟨_,rfl,?_⟩
 refine hK.out _ _ ⟨(af (W4.out.box) 0).trans rfl,(af (W4.out.box) 5).trans rfl⟩ (fun hHeld=>?_)
 clear hK K_
 refine cK (a':=?_) ?_ ?_
 rotate_left; · show Act.put _ (some 16) _=_;simp only [Act.put,p1_,p2_,p3_,aG,aH];rfl
 refine dz (i:=14) none HT_ (by kernel_rfl) rfl rfl (by decide) (fun K_ hK=>?_)
 refine iJ (w1:=w4.setCells b2 0 [.bool s.f0,.bool s.f1,.slice A2 s.f2.length c2,.slice A3 s.f3.length c3,.slice A4 s.f4.length c4]) (by rfl) rfl ?h14 ?_
 (case h14=>exact fV _ [.bool s.f0,.bool s.f1,.slice A2 s.f2.length c2,.slice A3 s.f3.length c3,.slice A4 s.f4.length c4] rfl (by rfl) (by rfl) X4.out.1 rfl (by kernel_rfl) (by simp) (by intro u hu;simp only [List.mem_cons,List.not_mem_nil,or_false] at hu;rcases hu with rfl | rfl | rfl | rfl | rfl<;>rfl))
 refine hK.out _ _ ?_
 clear hK K_
 have W5:=Am_ (W4.out.step (w1:=w4.setCells b2 0 [.bool s.f0,.bool s.f1,.slice A2 s.f2.length c2,.slice A3 s.f3.length c3,.slice A4 s.f4.length c4]) (by rw [(fI b2 _ 0 w4).2.2.2];exact Nat.le_refl _) (fun k hk _=>bq _ _ k (fun e=>X4.out.2 (e▸hk))))
 have F5:=Am_ (Kd.jy (W1:=w4.setCells b2 0 [.bool s.f0,.bool s.f1,.slice A2 s.f2.length c2,.slice A3 s.f3.length c3,.slice A4 s.f4.length c4]) F4.out (fun k hk _=>bq _ _ k (fun e=>by omega)))
 have X5:=Am_ (gq (seg:= [.bool s.f0,.bool s.f1,.slice A2 s.f2.length c2,.slice A3 s.f3.length c3,.slice A4 s.f4.length c4]) X4.out.1 rfl)
 have M5:=Am_ (jd M4.out (g:=b2) (.inr (Nat.le_of_eq E2.out)) 0 [.bool s.f0,.bool s.f1,.slice A2 s.f2.length c2,.slice A3 s.f3.length c3,.slice A4 s.f4.length c4])
 clear W4 F4 X4 M4 hHeld
 generalize w4.setCells b2 0 [.bool s.f0,.bool s.f1,.slice A2 s.f2.length c2,.slice A3 s.f3.length c3,.slice A4 s.f4.length c4]=w5 at W5 F5 X5 M5 ⊢
 refine dR (bM HT_.out (by kernel_rfl)) ?_
 go_wp2_with fail
 (try simp only [Exit.inBlock,Exit.then])
 refine bodyPost_ret (lW rfl _ _ b2 30 _ (0,0) _ rfl X5.out Tryz.underlying30 rfl (by kernel_rfl)) rfl ?_
 refine ⟨⟨[.bool s.f0,.bool s.f1,.slice A2 s.f2.length c2,.slice A3 s.f3.length c3,.slice A4 s.f4.length c4],rfl,?_⟩,_,okA,?_,M5.out⟩
 ·rw [HXR.out]
  exact Kd.jf F5.out (fun k hk=>by have:=E2.out;omega)
 ·rw [HXR.out]
  exact W5.out
theorem KO {D:Nat→Prop} {w:World} {s:Sh} {A2 A3 A4:Option Addr} {c2 c3 c4:Nat} (h:kSh.FK w D s [.bool s.f0,.bool s.f1,.slice A2 s.f2.length c2,.slice A3 s.f3.length c3,.slice A4 s.f4.length c4]):
  s.f2.length≤c2∧kP.C w A2 s.f2.length s.f2∧s.f3.length≤c3∧(Kd.int .i64).C w A3 s.f3.length s.f3∧s.f4.length≤c4∧kSh.C w A4 s.f4.length s.f4:=by
 obtain ⟨B2,d2,B3,d3,B4,d4,e,l2,F2,l3,F3,l4,F4⟩:=jb h
 simp only [List.cons.injEq,Value.slice.injEq,and_true,true_and] at e
 obtain ⟨⟨rfl,rfl⟩,⟨rfl,rfl⟩,⟨rfl,rfl⟩⟩:=e
 exact ⟨l2,Kd.fM F2,l3,Kd.fM F3,l4,Kd.fM F4⟩
end Go.Proofs.YtmnjjdeaccgjlaaGreat.Tower
