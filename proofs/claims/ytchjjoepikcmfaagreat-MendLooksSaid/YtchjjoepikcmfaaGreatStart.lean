/- law08.Start, law14.Mender, law10.Came, walked. -/
import Derived.Test.YtchjjoepikcmfaaGreatSteps
namespace Go.Proofs.YtchjjoepikcmfaaGreat.Tower
open Go Go.RowKit Go.Proofs.YtchjjoepikcmfaaGreatW.PrintWords Go.Proofs.YtchjjoepikcmfaaGreatW.PrintLast Go.Proofs.YtchjjoepikcmfaaGreatW.PrintMore Go.Proofs.YtchjjoepikcmfaaGreat.Own
set_option linter.unusedVariables false
set_option linter.unusedSimpArgs false

def cameOf (l : List Int) : Int := match l with
  | [n] => n
  | _ => -9
set_option maxHeartbeats 2000000 in
set_option maxRecDepth 100000 in
theorem came_calls {ok : Nat → Prop} {tb : Nat} {work : Value} {th : Th} (w : World) (h : IsThread ok tb work th w) (hd : th.done = true) (hl : th.out.length < 1000000) :
    Calls Tryz.prog 26 #[.pointer (some ⟨tb, 0, none⟩)] w fun e w1 => e = .returned (.int .i64 (cameOf th.out)) ∧ Below w.heap.size w w1 := by
  have HO := Aside0.mk (out_calls w h hd hl)
  clear h hd
  by_cases h1 : th.out.length = 1
  · obtain ⟨n, hn⟩ := List.length_eq_one_iff.1 h1
    have hc : cameOf th.out = n := by rw [hn]; rfl
    rw [hc]
    have HN := Aside0.mk hn
    clear hc hn h1 hl
    go_enter Tryz.func26, Tryz.ntmps26
    go_upto_region 2 with (go_at_call 60; refine HO.out.mono ?_; rintro e w2 ⟨v, rfl, hv, hb⟩; rw [HN.out] at hv; obtain ⟨A, c, rfl⟩ := Kd.R_slice hv; have V2 := Aside0.mk hv; have B2 := Aside0.mk hb; clear hv hb)
    obtain ⟨g, cap, e1, _⟩ := Kd.R_form V2.out (by simp)
    injection e1 with e1 _ _
    subst e1
    have c0 := (Kd.R_cell (0 : Int) V2.out 0 (by omega) (by simp)).1
    have c0 : w2.cell? ⟨g, 0, none⟩ = some (.int .i64 n) := by simpa [rdOf] using c0
    go_wp2_with fail
    go_ret
    exact ⟨rfl, B2.out⟩
  · have hc : cameOf th.out = -9 := by
      unfold cameOf
      split
      · rename_i n hn; rw [hn] at h1; simp at h1
      · rfl
    rw [hc]
    have hne : ((th.out.length : Int) == 1) = false := by
      have : ¬ ((th.out.length : Int) = 1) := by omega
      simpa using this
    have hne2 : ((th.out.length : Int) != 1) = true := by rw [bne, hne]; rfl
    clear hc h1 hl
    go_enter Tryz.func26, Tryz.ntmps26
    go_wp2_with (go_at_call 60; refine HO.out.mono ?_; rintro e w2 ⟨v, rfl, hv, hb⟩; obtain ⟨A, c, rfl⟩ := Kd.R_slice hv; have B2 := Aside0.mk hb; clear hv hb)
    go_ret
    exact ⟨rfl, B2.out⟩

/-- What a started thread's closure captures. -/
structure StartBx (gf : FuncId) (cap : Array Value) (p : Nat) (me : Int) (bf bw bm : Nat) (ok : Nat → Prop) (w : World) : Prop where
  hf : Mine ok w bf (.cells #[.func (.func gf) #[] cap] 106 (0, 0))
  hw : Mine ok w bw (.cells #[.pointer (some ⟨p, 0, none⟩)] 42 (0, 0))
  hm : Mine ok w bm (.cells #[.int .i64 me] 3 (0, 0))
theorem StartBx.moves {gf : FuncId} {cap : Array Value} {p : Nat} {me : Int} {bf bw bm : Nat} {ok ok1 : Nat → Prop} {w w1 : World} (h : StartBx gf cap p me bf bw bm ok w) (m : Moves ok ok1 w w1) : StartBx gf cap p me bf bw bm ok1 w1 := ⟨h.hf.moves m, h.hw.moves m, h.hm.moves m⟩
def startWork (bf bw bm : Nat) : Value := .func (.func 86) #[] #[.pointer (some ⟨bf, 0, none⟩), .pointer (some ⟨bw, 0, none⟩), .pointer (some ⟨bm, 0, none⟩)]
/-- A thread has been started: its box tb, what its closure captures. -/
structure Started (gf : FuncId) (cap : Array Value) (p : Nat) (me : Int) (w : World) (e : Ending) (w1 : World) : Prop where
  out : ∃ tb bf bw bm, e = .returned (.pointer (some ⟨tb, 0, none⟩)) ∧ w.heap.size ≤ tb ∧ w.heap.size ≤ bf ∧ w.heap.size ≤ bw ∧ w.heap.size ≤ bm ∧ tb ≠ bf ∧ tb ≠ bw ∧ tb ≠ bm ∧ IsThread (fun k => k = tb) tb (startWork bf bw bm) th0 w1 ∧
    StartBx gf cap p me bf bw bm (fun _ => False) w1 ∧ Below w.heap.size w w1

set_option maxHeartbeats 2000000 in
set_option maxRecDepth 100000 in
theorem start_calls (gf : FuncId) (cap : Array Value) (p : Nat) (me : Int) (w : World) :
    Calls Tryz.prog 56 #[.pointer (some ⟨p, 0, none⟩), .int .i64 me, .func (.func gf) #[] cap] w (Started gf cap p me w) := by
  have hmf : ∀ (fn : Fn) (first cap : Array Value) (w : World), (Instr.makeFunc fn first cap).run Tryz.prog w = .ok (.func fn first cap) w := fun _ _ _ _ => rfl
  go_enter Tryz.func56, Tryz.ntmps56
  go_upto_region 1 with fail
  have b1 := Aside0.mk (blk_alloc (blk_alloc (blk_new w (.cells #[.pointer (some ⟨p, 0, none⟩)] 42)) (.cells #[.int .i64 me] 3)) (.cells #[.func (.func gf) #[] cap] 106))
  have b2 := Aside0.mk (blk_alloc (blk_new (w.alloc (.cells #[.pointer (some ⟨p, 0, none⟩)] 42)) (.cells #[.int .i64 me] 3)) (.cells #[.func (.func gf) #[] cap] 106))
  have b3 := Aside0.mk (blk_new ((w.alloc (.cells #[.pointer (some ⟨p, 0, none⟩)] 42)).alloc (.cells #[.int .i64 me] 3)) (.cells #[.func (.func gf) #[] cap] 106))
  have bb := Aside0.mk (below_alloc (below_alloc (below_alloc (Below.refl w.heap.size w) (.cells #[.pointer (some ⟨p, 0, none⟩)] 42)) (.cells #[.int .i64 me] 3)) (.cells #[.func (.func gf) #[] cap] 106))
  have e1 : (w.alloc (.cells #[.pointer (some ⟨p, 0, none⟩)] 42)).heap.size = w.heap.size + 1 := by simp
  have e2 : ((w.alloc (.cells #[.pointer (some ⟨p, 0, none⟩)] 42)).alloc (.cells #[.int .i64 me] 3)).heap.size = w.heap.size + 1 + 1 := by simp
  rw [e1] at b2
  rw [e2] at b3
  clear e1 e2
  generalize ((w.alloc (.cells #[.pointer (some ⟨p, 0, none⟩)] 42)).alloc (.cells #[.int .i64 me] 3)).alloc (.cells #[.func (.func gf) #[] cap] 106) = w1 at b1 b2 b3 bb ⊢
  go_wp2_with (go_at_call 85; refine (new_calls 86 #[.pointer (some ⟨w.heap.size + 1 + 1, 0, none⟩), .pointer (some ⟨w.heap.size, 0, none⟩), .pointer (some ⟨w.heap.size + 1, 0, none⟩)] _).mono ?_; rintro e w2 ⟨tb, rfl, htb, hth, hbl⟩; have T0 := Aside0.mk htb; have T1 := Aside0.mk hth; have T2 := Aside0.mk hbl; clear htb hth hbl)
  go_ret
  have l1 := blk_lt b1.out
  have l2 := blk_lt b2.out
  have l3 := blk_lt b3.out
  have l4 := T0.out
  exact ⟨⟨tb, w.heap.size + 1 + 1, w.heap.size, w.heap.size + 1, rfl, by omega, by omega, by omega, by omega, by omega, by omega, by omega, T1.out, ⟨⟨blk_below b3.out T2.out, id⟩, ⟨blk_below b1.out T2.out, id⟩, ⟨blk_below b2.out T2.out, id⟩⟩, below_then bb.out bb.out.size T2.out⟩⟩

set_option maxHeartbeats 2000000 in
set_option maxRecDepth 100000 in
/-- What a started thread does: its task. -/
theorem start1_calls {Sh : Ws → (Nat → Prop) → World → Prop} (S : Shared Sh) (gf : FuncId) (cap : Array Value) (p : Nat) (me : Int) (tb bf bw bm : Nat) (ok : Nat → Prop) (s : TS Ws) (w : World) (work : Value) (res : Out (List Int) × TS Ws)
    (h : IsRun Sh tb work ok s w) (hb : StartBx gf cap p me bf bw bm ok w)
    (he : ∀ w1 : World, (callFunc gf (#[taskV tb p me] ++ cap)).run Tryz.prog w1 = .ok (.enter gf (#[taskV tb p me] ++ cap)) w1)
    (hc : Calls Tryz.prog gf (#[taskV tb p me] ++ cap) w (TPost Sh tb work (VNums w.heap.size) ok w res)) :
    Calls Tryz.prog 86 #[.pointer (some ⟨tb, 0, none⟩), .pointer (some ⟨bf, 0, none⟩), .pointer (some ⟨bw, 0, none⟩), .pointer (some ⟨bm, 0, none⟩)] w (TPost Sh tb work (VNums w.heap.size) ok w res) := by
  have c1 := (blk_cell hb.hf.1 0).trans (rfl : _ = some (Value.func (.func gf) #[] cap))
  have c2 := (blk_cell hb.hw.1 0).trans (rfl : _ = some (Value.pointer (some ⟨p, 0, none⟩)))
  have c3 := (blk_cell hb.hm.1 0).trans (rfl : _ = some (Value.int .i64 me))
  have HE := Aside0.mk he
  have HC := Aside0.mk hc
  clear h hb he hc
  unfold taskV at HE HC
  go_enter Tryz.func86, Tryz.ntmps86
  go_wp2_with fail
  rw [HE.out, Oper.upon_enter]
  refine HC.out.mono ?_
  rintro e w2 ⟨ok1, hm, hi, hres⟩
  have M := Aside0.mk hm
  have I := Aside0.mk hi
  clear hm hi HE HC
  obtain ⟨o, s2⟩ := res
  cases o with
  | wait =>
    obtain rfl : e = .panicked waitP := hres
    exact ⟨rfl, ⟨⟨ok1, M.out, I.out, rfl⟩⟩⟩
  | ret l =>
    obtain ⟨v, rfl, hv⟩ := hres
    have V := Aside0.mk hv
    clear hv
    dsimp only
    go_wp2_with fail
    go_ret
    exact ⟨⟨ok1, M.out, I.out, v, rfl, V.out⟩⟩

def menderT (key : Int) (f : Nat) : Pr Ws (List Int) := prBind (mendT0 key f) (fun b s => some (.ret [b01 b], s))
set_option maxHeartbeats 2000000 in
set_option maxRecDepth 100000 in
theorem mender1_calls (p tb : Nat) (work : Value) (me key : Int) (bk : Nat) (ok : Nat → Prop) (s : TS Ws) (w : World) (h : IsRun (shW p) tb work ok s w) (hk : Mine ok w bk (.cells #[.int .i64 key] 2 (0, 0))) (f : Nat) (hf : f < 900000) (res : Out (List Int) × TS Ws) (hr : menderT key f s = some res) :
    Calls Tryz.prog 72 #[taskV tb p me, .pointer (some ⟨bk, 0, none⟩)] w (TPost (shW p) tb work (VNums w.heap.size) ok w res) := by
  unfold menderT prBind at hr
  cases hd : mendT0 key f s with
  | none => rw [hd] at hr; cases hr
  | some dres =>
  rw [hd] at hr
  have h1 := h.below (shW_shared p) (below_alloc (Below.refl _ _) (taskO tb p me))
  have HI := Aside0.mk h1
  have HM := Aside0.mk ((Moves.refl ok w).alloc (taskO tb p me))
  have HB := Aside0.mk (blk_new w (taskO tb p me))
  have HK := Aside0.mk (blk_alloc hk.1 (taskO tb p me))
  have HR := Aside0.mk hr
  have HD := Aside0.mk hd
  unfold taskO at HI HM HB HK
  have HTV : taskV tb p me = .agg #[.pointer (some ⟨tb, 0, none⟩), .pointer (some ⟨p, 0, none⟩), .int .i64 me] := rfl
  rw [HTV]
  clear h h1 hr hk hd HTV
  go_enter Tryz.func72, Tryz.ntmps72
  go_upto_region 1 with fail
  have HSZ : Aside0 (w.heap.size ≤ (w.alloc (.cells #[.pointer (some ⟨tb, 0, none⟩), .pointer (some ⟨p, 0, none⟩), .int .i64 me] 99)).heap.size) := ⟨by simp⟩
  generalize w.alloc (.cells #[.pointer (some ⟨tb, 0, none⟩), .pointer (some ⟨p, 0, none⟩), .int .i64 me] 99) = w1 at HI HM HB HK HSZ ⊢
  generalize hbb : w.heap.size = bt at HB ⊢
  have c0 := (blk_cell HB.out 0).trans (rfl : _ = some (Value.pointer (some ⟨tb, 0, none⟩)))
  have c1 := (blk_cell HB.out 1).trans (rfl : _ = some (Value.pointer (some ⟨p, 0, none⟩)))
  have c2 := (blk_cell HB.out 2).trans (rfl : _ = some (Value.int .i64 me))
  have ck := (blk_cell HK.out 0).trans (rfl : _ = some (Value.int .i64 key))
  go_wp2_with fail
  refine (mend0_calls p tb work me key ok s _ HI.out f hf dres HD.out).mono ?_
  rintro e w2 ⟨ok1, hm, hi, hres⟩
  have M := Aside0.mk (HM.out.trans hm)
  have I := Aside0.mk hi
  clear hm hi c0 c1 c2 ck
  obtain ⟨o, s2⟩ := dres
  cases o with
  | wait =>
    have hr := HR.out
    injection hr with hr
    subst hr
    obtain rfl : e = .panicked waitP := hres
    exact ⟨rfl, ⟨⟨ok1, M.out, I.out, rfl⟩⟩⟩
  | ret b =>
    have hr := HR.out
    injection hr with hr
    subst hr
    obtain ⟨v, rfl, rfl⟩ : ∃ v, e = .returned v ∧ v = .bool b := hres
    have hsz : bt ≤ w2.heap.size := by rw [← hbb]; exact M.out.size
    have hn : ∀ k, k = w2.heap.size → ¬ ok1 k := fun k hk h => by have := I.out.lt (shW_shared p) k h; omega
    have HV := fun (q : Int) => Aside0.mk (Kd.R_mono (lit_R (k := .i64) 2 w2 bt [q] hsz (by simp)) hn)
    have HVV := Aside0.mk HV
    clear HV hn hsz
    dsimp only
    cases b
    · go_wp2_with fail
      go_ret
      exact ⟨⟨ok1, M.out.alloc _, I.out.below (shW_shared p) (below_alloc (Below.refl _ _) _), _, rfl, (HVV.out 0).out⟩⟩
    · go_wp2_with fail
      go_ret
      exact ⟨⟨ok1, M.out.alloc _, I.out.below (shW_shared p) (below_alloc (Below.refl _ _) _), _, rfl, (HVV.out 1).out⟩⟩

/-- A mender has been started. -/
structure MenderMade (p : Nat) (me key : Int) (w : World) (e : Ending) (w1 : World) : Prop where
  out : ∃ tb bf bw bm bk, e = .returned (.pointer (some ⟨tb, 0, none⟩)) ∧ w.heap.size ≤ tb ∧ w.heap.size ≤ bf ∧ w.heap.size ≤ bw ∧ w.heap.size ≤ bm ∧ w.heap.size ≤ bk ∧ tb ≠ bf ∧ tb ≠ bw ∧ tb ≠ bm ∧ tb ≠ bk ∧ IsThread (fun k => k = tb) tb (startWork bf bw bm) th0 w1 ∧
    StartBx 72 #[.pointer (some ⟨bk, 0, none⟩)] p me bf bw bm (fun _ => False) w1 ∧ Mine (fun _ => False) w1 bk (.cells #[.int .i64 key] 2 (0, 0)) ∧ Below w.heap.size w w1
set_option maxHeartbeats 2000000 in
set_option maxRecDepth 100000 in
theorem mender_calls (p : Nat) (me key : Int) (w : World) :
    Calls Tryz.prog 41 #[.pointer (some ⟨p, 0, none⟩), .int .i64 me, .int .i64 key] w (MenderMade p me key w) := by
  have hmf : ∀ (fn : Fn) (first cap : Array Value) (w : World), (Instr.makeFunc fn first cap).run Tryz.prog w = .ok (.func fn first cap) w := fun _ _ _ _ => rfl
  have b1 := Aside0.mk (blk_new w (.cells #[.int .i64 key] 2))
  have bb := Aside0.mk (below_alloc (Below.refl w.heap.size w) (.cells #[.int .i64 key] 2))
  go_enter Tryz.func41, Tryz.ntmps41
  go_upto_region 1 with fail
  generalize w.alloc (.cells #[.int .i64 key] 2) = w1 at b1 bb ⊢
  go_wp2_with (go_at_call 56; refine (start_calls 72 #[.pointer (some ⟨w.heap.size, 0, none⟩)] p me _).mono ?_; rintro e w2 ⟨tb, bf, bw, bm, rfl, h1, h2, h3, h4, h5, h6, h7, h8, h9, h10⟩; have T := Aside0.mk h8; have S := Aside0.mk h9; have B := Aside0.mk h10; have L := Aside0.mk (And.intro h1 (And.intro h2 (And.intro h3 h4))); have N := Aside0.mk (And.intro h5 (And.intro h6 h7)); clear h1 h2 h3 h4 h5 h6 h7 h8 h9 h10)
  go_ret
  obtain ⟨h1, h2, h3, h4⟩ := L.out
  obtain ⟨h5, h6, h7⟩ := N.out
  have hb := blk_lt b1.out
  exact ⟨⟨tb, bf, bw, bm, w.heap.size, rfl, by omega, by omega, by omega, by omega, Nat.le_refl _, h5, h6, h7, by omega, T.out, S.out, ⟨blk_below b1.out B.out, id⟩, below_then bb.out bb.out.size B.out⟩⟩
end Go.Proofs.YtchjjoepikcmfaaGreat.Tower
